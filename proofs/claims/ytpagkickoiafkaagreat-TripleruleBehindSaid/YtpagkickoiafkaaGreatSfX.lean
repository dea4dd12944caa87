/- Lists that nobody else reads: stores into them, appends, calls that turn them. -/
import Derived.Test.YtpagkickoiafkaaGreatSfApp
import Derived.Lib.AppendZerosOnto
set_option linter.all false
open Option renaming some->Y,none->W
open Bool renaming true->X,false->T
open List renaming flatMap_cons->v?,mem_of_getElem?->w_,eq_nil_of_length_eq_zero->w!,getElem?_set->w?,mem_or_eq_of_mem_set->x_,getElem?_eq_getElem->x!,mem_of_mem_take->x?,mem_of_mem_drop->y_,take_append->y!,take_of_length_le->y?,map_map->z_,singleton_append->z!,map_cons->z?,flatMap_append->A_,mem_append->A',replicate->A!,replicate_succ->A?,length_replicate->B_,eq_of_mem_replicate->B',getElem?_drop->B!,getElem?_eq_some_iff->B?,getElem?_of_mem->C_,length_drop->C',getElem?_append_left->C!,getElem?_take->C?,getElem?_toArray->D_,getElem?_append_right->D',getElem?_take_of_lt->D!,all_eq_true->D?,getElem?_map->E_,length_singleton->E',take_left->E!,mem_filterMap->E?
open Nat renaming lt_or_ge->F_,zero_le->F!,lt_of_lt_of_le->F?,le_trans->G_,mul_le_mul_right->G!,min_eq_left->G?,mul_le_mul->H_,add_zero->H',add_sub_cancel_left->H!,zero_add->H?,eq_of_beq_eq_true->I_
open Array renaming length_toList->I',replicate->I!,getElem?_toList->I?
open Option renaming map_some->J_,map_eq_some_iff->J',bind_eq_some_iff->J!
namespace Go.Sf
open Go.RowKit (Below)
def Sd:Operand->Bool
 |.const v=>MO v|_=>T
variable{α:Type}
theorem dn{a:Array α}{x:α}(h:a.toList=[x]):a=#[x]:=by
 cases a;simp_all
section flat
variable{w w':World}{F F':Nat->Nat->Prop}
mutual
theorem RR:∀(t:TV),t.flat=X->∀v,Ap w F t v->Ap w' F' t v
 |.int _ _,_,_,h=>h|.bool _,_,_,h=>h|.str _,_,_,h=>h|.agg cs,hf,v,h=>by
  have:=FX cs (by simpa[TV.flat]using hf)
  grind [Ap]
 |.undef,hf,_,_=>by simp[TV.flat]at hf|.xl _ _,hf,_,_=>by simp[TV.flat]at hf|.nil,hf,_,_=>by simp[TV.flat]at hf|.list _ _,hf,_,_=>by simp[TV.flat]at hf|.pt _,hf,_,_=>by simp[TV.flat]at hf|.z5 _ _,hf,_,_=>by simp[TV.flat]at hf
theorem FX:∀(ts:Fq),TV.q0 ts=X->∀vs,AT w F ts vs->AT w' F' ts vs
 |[],_,vs,h=>h|t::ts,hf,vs,h=>by
  simp [TV.q0]at hf;simp[AT]at h|-;obtain⟨v,r,g,j,k⟩:=h;exact⟨v,r,g,RR t hf.1 v j,FX ts hf.2 r k⟩
end
theorem Un:∀(xs ys:Fq),TV.q0 (xs++ys)=(TV.q0 xs&&TV.q0 ys)
 |[],ys=>by simp[TV.q0]|x::xs,ys=>by simp[TV.q0,Un xs ys,Bool.and_assoc]
theorem eR(t:TV)(h:t.flat=X):TV.q0 t.cells=X:=by
 cases t<;>simp_all[TV.flat,TV.cells,TV.q0]
theorem KP:∀(es:Fq),TV.q0 es=X->TV.q0 (es.flatMap TV.cells)=X
 |[],_=>rfl|e::es,h=>by
  simp [TV.q0]at h;rw[v?,Un,eR e h.1,KP es h.2];rfl
end flat
section
variable{P:Program}{S:FuncId->Fq->At->Prop}{F0:Nat->Nat->Prop}{w0:W0}{O:AB}{a:Act}{w:World}{G:BV}{d:Nat}{o:Oper}{K:EV->AB->Prop}
variable{q n:Nat}
theorem AB.xat_of_xo{O:AB}{es:Fq}(h:O.get q=.xo n es):O.ln q W=Y (n,es):=by simp[AB.ln,h]
variable{x:Operand}{y:AF}
theorem OY(k:AR F0 w0 O a w G)(g:AJ x y=X){p:(Nat×Option Nat)×Nat×Fq}(h:y.pq O=Y p):O.ln p.1.1 p.1.2=Y (p.2.1,p.2.2)/\XV a w p.1.1 p.1.2 (a.eval x):=by
 cases y with
 |c t=>simp[AF.pq]at h|s m=>
  have l:x=.tmp m:=by
   cases x<;>simp[AJ]at g;rw[g]
  subst l;simp only[AF.pq]at h;split at h
  next n es he=>simp only[kx]at h;subst h;exact⟨by simp only[AB.ln,he],rfl⟩
  .rename_i q i he;split at h
   next u j=>simp only[kx]at h;subst h;have:=Ah k he V;simp only[AK]at this;exact⟨j,this ⟨_,j⟩⟩
   .cases h
  .cases h
variable{i:Option Nat}{v:Value}
theorem O6{es:Fq}(h:AR F0 w0 O a w G)(g:O.ln q i=Y (n,es))(hv:XV a w q i v):
  (TV.list n es).WF/\∃xs,Js w n v es.length xs (G q i)/\AT w (AW w0.heap.size F0 G) (es.flatMap TV.cells) xs/\(∀e∈es,e.cells.length=n)/\∀x∈xs,x.oneCell'=X:=by
 cases i with
 |none=>
  have g:=AB.o4 g;have j:=Ah h g V;have l:=h.wf q;rw[g]at l;simp only[AK]at j;simp only[XV]at hv;rw[hv];exact⟨l,j⟩
 |some k=>
  obtain ⟨cs,u,A⟩:=AB.l3 g;have j:=Ah h u V;have l:=h.wf q;rw[u]at l;simp only[AK]at j;obtain⟨b,c,θ,D,E,L,M,H⟩:=j;obtain⟨N,c',R,m,B,C⟩:=hv;rw[D]at m;simp only[Value.pointer.injEq,kx,Addr.mk.injEq,and_true,and_self]at m;subst m;rw[E]at B;cases B;obtain⟨x,I,J⟩:=H k _ A;rw[I]at C;cases C;exact⟨l _ (w_ A),J⟩
theorem ra{es:Fq}(h:AR F0 w0 O a w G)(k:O.ln q i=Y (n,es))(hv:XV a w q i v):∀b lo,G q i=Y (b,lo)->lo=0:=by
 intro b lo g;obtain⟨_,xs,⟨l,_,j⟩,_⟩:=O6 h k hv;rw[j]at g;cases l with
 |none=>simp at g|some p=>simp at g;exact g.2.symm
theorem kI{es:Fq}(h:AR F0 w0 O a w G)(u:O.ln q i=Y (n,es))(hv:XV a w q i v)(k:es≠[]):
  ∃g cap j e xs,v=.slice (Y ⟨g,0,W⟩) es.length cap/\w.heap[g]?=Y (.cells j e (0,0))/\es.length<=cap/\cap<=maxLen/\j.size=cap*n/\j.toList.take (es.length*n)=xs/\G q i=Y (g,0)/\AT w (AW w0.heap.size F0 G) (es.flatMap TV.cells) xs/\(∀e∈es,e.cells.length=n)/\(∀x∈xs,x.oneCell'=X)/\xs.length=es.length*n:=by
 obtain ⟨_,xs,⟨N,m,l⟩,A,B,C⟩:=O6 h u hv;rcases m.2 with⟨_,hn,_⟩|⟨g,cap,j,e,D,E,H,I,J,L,M⟩
 .exact absurd (w! hn) k
 .exact⟨g,cap,j,e,xs,D,E,H,I,J,L,by rw[l,M];rfl,A,B,C,m.1⟩
theorem AR.rexo(h:AR F0 w0 O a w G){es:Fq}(L:O.ln q i=Y (n,es))(hv:XV a w q i v){w':World}(hb:Q2 (G q i) w w'){es':Fq}{xs':List Value}(M:Js w' n v es'.length xs' (G q i))
  (η:Be w w' (AW w0.heap.size F0 G) (AW w0.heap.size F0 G)->AT w' (AW w0.heap.size F0 G) (es'.flatMap TV.cells) xs')(hn:∀e∈es',e.cells.length=n)(h1:∀x∈xs',x.oneCell'=X)(hw:(TV.list n es').WF):
  AR F0 w0 (O.sc q i n es') a w' G:=by
 obtain ⟨b1,b2,b3,b4,b5⟩:=hb;have hz0:=ra h L hv;have ε:Be w w' (AW w0.heap.size F0 G) (AW w0.heap.size F0 G):=by
  intro b o u hc hF;refine⟨?_,hF⟩;have κ:b<w.heap.size:=by
   grind [F_,World.cell?,Array.getElem?_eq_none]
  rw [World.cell?_of_block (w:=w) (a:=⟨b,o,W⟩) (b5 b κ (λlo B=>hF (.inr ⟨q,i,lo,B,by rw[hz0 b lo B];exact F! _⟩)))];exact hc
 have I:Gr F0 w0 w':=h.below.but b1 b2 b3 b4 (Z:=λk=>∃lo,G q i=Y (k,lo)) (λb⟨lo,B⟩=>(h.lt _ _ _ _ B).2.imp id (λe o=>e o (by rw[hz0 b lo B];exact F! _))) (λk hk B=>b5 k (F? hk h.below.size) (λlo e=>B ⟨lo,e⟩));have κ:∀s i b lo,G s i=Y (b,lo)->b<w'.heap.size/\(w0.heap.size<=b\/∀o,lo<=o->w0.E b o):=λs i b lo H=>⟨F? (h.lt s i b lo H).1 b4,(h.lt s i b lo H).2⟩;have hxv:∀r j,(∃m,O.ln r j=Y m)->∀v,XV a w r j v->XV a w' r j v:=by
  intro r j δ;cases j with
  |none=>exact λv hv=>hv|some k=>
   refine h.xv δ rfl (λb hb=>b5 b (h.lt _ _ _ _ hb).1 (λlo B=>?_));obtain⟨rfl,rfl⟩:=h.gB _ _ _ _ _ _ _ B hb;have h1:=AB.o4 L
   grind [AB.l3]
 have hqsz:q<a.tmps.size:=by
  cases i with
  |none=>exact h.lts (by rw[AB.o4 L];simp)|some k=>obtain⟨cs,H,_⟩:=AB.l3 L;exact h.lts (by rw[H];simp)
 have hrs:BI w w' (po a G):=by
  intro g j b lo hr;exact b5 b (h.lt _ _ _ _ hr).1 (λlo' B=>h.Abl hqsz B hr rfl)
 have hnh:∀r j,(∃m,O.nat r j=Y m)->∀k v,NH a w r j k v->NH a w' r j k v:=by
  intro r j δ k;refine h.nh δ rfl (λl b hl hb=>b5 b (h.lt _ _ _ _ hb).1 (λlo B=>?_));obtain⟨rfl,rfl⟩:=h.gB _ _ _ _ _ _ _ B hb;obtain⟨es1,δ⟩:=δ;obtain⟨cs,C,N⟩:=AB.og δ;rcases hl with rfl|rfl
  .rw[AB.o4 L]at C;cases C
  grind [AB.l3]
 have oth:∀(p:Nat)(e:EV),p<a.tmps.size->p≠q->(∀j,(∃m,AB.nat ((q,e)::O) q j=Y m)->∃m,O.nat q j=Y m)->(∀cs,e=.bx cs->∃cs',O.get q=.bx cs')->(∀j,(∃m,AB.ln ((q,e)::O) q j=Y m)->∃m,O.ln q j=Y m)->AK a w' (AW w0.heap.size F0 G) G ((q,e)::O) p (O.get p) (slot a p):=by
  intro p e R hpq hnt hbx hxa;refine AK.kept ε (λ_=>rfl) (λj b lo B=>b5 b (h.lt _ _ _ _ B).1 (λlo' hz'=>hpq (h.gB _ _ _ _ _ _ _ B hz').1)) rfl hrs (λr j k _⟨m,A⟩=>?_) (λr off _⟨cs,hcs⟩=>?_) (λr j _⟨m,A⟩=>?_) (h.slots p R)
  .have δ:∃m,O.nat r j=Y m:=by
    by_cases hqr:q=r
    .subst hqr;exact hnt j ⟨m,A⟩
    grind [AB.t5]
   grind
  .grind[AB.d3]
  .have δ:∃m,O.ln r j=Y m:=by
    by_cases hqr:q=r
    .subst hqr;exact hxa j ⟨m,A⟩
    grind [AB.tc]
   grind
 cases i with
 |none=>
  have L:=AB.o4 L;have hsz:=Bg h L V;refine⟨h.gB,κ,I,h.defers,λp R=>?_,λp R=>?_,λp=>?_⟩
  .simp only[AB.sc];rw[AB.d3,aE U];exact h.dom p R
  .simp only[AB.sc];rw[AB.d3];by_cases D:q=p
   .subst D;rw[QQ rfl];simp only[AK];simp only[XV]at hv;rw[hv]at M;exact⟨xs',M,η ε,hn,h1⟩
   .rw[aE D];refine oth p _ R (λe=>D e.symm) (λj⟨m,A⟩=>by obtain⟨cs,e⟩:=AB.Aam A;cases e) V (λj⟨m,A⟩=>?_);cases j with
    |none=>exact⟨(n,es),by simp only[AB.ln,L]⟩|some k=>
     obtain ⟨n1,es1⟩:=m;obtain⟨cs,C,_⟩:=AB.l3 A;rw[AB.d3,QQ rfl]at C;cases C
  .simp only[AB.sc];rw[AB.d3];split
   .exact hw
   .exact h.wf p
 |some k=>
  obtain ⟨cs,H,hk⟩:=AB.l3 L;have hsz:=Bg h H V;have hwc:=h.wf q;rw[H]at hwc;have hr:=Ah h H V;simp only[AK]at hr;obtain⟨b,c,θ,e1,e2,e3,e4,e5⟩:=hr;obtain⟨b',c',T',f1,f2,f3⟩:=hv;rw[e1]at f1;simp only[Value.pointer.injEq,kx,Addr.mk.injEq,and_true,and_self]at f1;subst f1;rw[e2]at f2;cases f2;have hbb:w'.heap[b]?=w.heap[b]?:=b5 b (h.lt _ _ _ _ e4).1 (λlo B=>by
   have:=(h.gB _ _ _ _ _ _ _ B e4).2;cases this)
  refine ⟨h.gB,κ,I,h.defers,λp R=>?_,λp R=>?_,λp=>?_⟩
  .simp only[AB.sc,H];rw[AB.d3,aE U];exact h.dom p R
  .simp only[AB.sc,H];rw[AB.d3];by_cases D:q=p
   .subst D;rw[QQ rfl];simp only[AK];refine⟨b,c,θ,e1,by rw[hbb];exact e2,by simpa using e3,e4,λj d ζ=>?_⟩;rw[w?]at ζ;by_cases J:k=j
    .subst J;rw[QQ rfl]at ζ;split at ζ
     .simp only[kx]at ζ;subst ζ;exact⟨v,f3,xs',M,η ε,hn,h1⟩
     .cases ζ
    .rw[aE J]at ζ;obtain⟨x,g1,g2⟩:=e5 j d ζ;exact⟨x,g1,g2.kept ε (λb lo B=>b5 b (h.lt _ _ _ _ B).1 (λlo' hz'=>J (by
      have:=(h.gB _ _ _ _ _ _ _ hz' B).2;simpa using this))) hrs⟩
   .rw[aE D];refine oth p _ R (λe=>D e.symm) (λj⟨m,A⟩=>?_) (λ_ _=>⟨cs,H⟩) (λj⟨m,A⟩=>?_)
    .obtain⟨cs',C,N⟩:=AB.og A;rw[AB.d3,QQ rfl]at C;simp only[EV.bx.injEq]at C;subst C;rw[w?]at N;split at N
     .split at N<;>simp at N
     .exact⟨m,by simp only[AB.nat,H,N]⟩
    obtain ⟨n1,es1⟩:=m;cases j with
    |none=>have C:=AB.o4 A;rw[AB.d3,QQ rfl]at C;cases C
    |some j=>
     obtain ⟨cs',C,N⟩:=AB.l3 A;rw[AB.d3,QQ rfl]at C;simp only[EV.bx.injEq]at C;subst C;rw[w?]at N;by_cases J:k=j
     .subst J;exact⟨(n,es),L⟩
     .rw[aE J]at N;exact⟨(n1,es1),by simp only[AB.ln,H,N]⟩
  .simp only[AB.sc,H];rw[AB.d3];split
   .intro y hy;rcases x_ hy with hy|rfl
    .exact hwc y hy
    .exact hw
   .exact h.wf p
theorem AR.xgo(h:AR F0 w0 O a w G){es:Fq}(hq:O.get q=.xo n es)(hd:d<a.tmps.size)(hdq:d≠q){w':World}{e:EV}{z':Option (Nat×Nat)}
  (b1:w'.os=w.os)(b2:w'.tape=w.tape)(b3:w'.output=w.output)(b4:w.heap.size<=w'.heap.size)(ζ:∀k,k<w.heap.size->(∀lo,G q W≠Y (k,lo))->w'.heap[k]?=w.heap[k]?)
  (m:∀b lo,z'=Y (b,lo)->b<w'.heap.size/\(w.heap.size<=b\/∃l,G q W=Y (b,l)))
  (δ:∀cs,e≠.bx cs)(hno:(∃n es,e=.xo n es)->O.ew d=X)
  (hrep:∀(F':Nat->Nat->Prop)(I:BV)(env':AB)(a':Act),Be w w' (AW w0.heap.size F0 G) F'->I d W=z'->(∀b o,F' b o->b<w.heap.size\/∃lo,z'=Y (b,lo))->AK a' w' F' I env' d e v)(hw:e.WF):
  Bs F0 w0 ((d,e)::(q,.undef)::O) (a.put (Y d) v) w':=by
 let I:BV:=I8 (I8 G q (λ_=>W)) d (λi=>if i=W then z' else W)
 have ε:=ra h (AB.xat_of_xo hq) (v:=slot a q) rfl;have H:∀p i b lo,I p i=Y (b,lo)->(p=d/\i=W/\z'=Y (b,lo))\/(p≠d/\p≠q/\G p i=Y (b,lo)):=by
  intro p i b lo θ;by_cases C:p=d
  .grind[Bv]
  .simp[I,BD _ _ _ _ C]at θ;by_cases hpq:p=q
   .grind[Bv]
   .rw[BD _ _ _ _ hpq]at θ
    grind
 have hag:Be w w' (AW w0.heap.size F0 G) (AW w0.heap.size F0 I):=by
  intro b o u hc hF;have hlt:b<w.heap.size:=World.block_lt_of_cell? w ⟨b,o,W⟩ hc;have hnz:∀lo,G q W≠Y (b,lo):=λlo D=>hF (.inr ⟨q,W,lo,D,by rw[ε b lo D];exact F! _⟩);refine⟨?_,?_⟩
  .grind[World.cell?_of_block]
  .rintro(M|⟨p,i,lo,M,R⟩)
   .exact hF (.inl M)
   .rcases H _ _ _ _ M with⟨_,_,L⟩|⟨_,_,L⟩
    .grind
    .exact hF (.inr ⟨p,i,lo,L,R⟩)
 refine ⟨I,?_,?_,h.below.but b1 b2 b3 b4 (Z:=λk=>∃lo,G q W=Y (k,lo)) (λb⟨lo,D⟩=>(h.lt _ _ _ _ D).2.imp id (λe o=>e o (by rw[ε b lo D];exact F! _))) (λk hk D=>ζ k (F? hk h.below.size) (λlo e=>D ⟨lo,e⟩)),g?,?_,?_,?_⟩
 .intro p i p' i' b lo l L e2;have other:∀p i lo l,z'=Y (b,lo)->p≠q->G p i=Y (b,l)->False:=by
   intro p i lo l E η f3;rcases(m _ _ E).2 with κ|⟨lo'',κ⟩
   .have:=(h.lt _ _ _ _ f3).1;omega
   .exact η (h.gB _ _ _ _ _ _ _ f3 κ).1
  rcases H _ _ _ _ L with⟨rfl,rfl,E⟩|⟨n1,n2,E⟩<;>rcases H _ _ _ _ e2 with⟨rfl,rfl,η⟩|⟨m1,m2,η⟩
  .exact⟨rfl,rfl⟩
  .exact(other _ _ _ _ E m2 η).elim
  .exact(other _ _ _ _ η n2 E).elim
  .exact h.gB _ _ _ _ _ _ _ E η
 .intro p i b lo L;rcases H _ _ _ _ L with⟨_,_,E⟩|⟨_,_,E⟩
  .refine⟨(m _ _ E).1,?_⟩;rcases(m _ _ E).2 with κ|⟨l,κ⟩
   .exact .inl (G_ h.below.size κ)
   .exact(h.lt _ _ _ _ κ).2.imp id (λe o _=>e o (by rw[ε _ _ κ];exact F! _))
  .exact⟨F? (h.lt _ _ _ _ E).1 b4,(h.lt _ _ _ _ E).2⟩
 .intro p θ;rw[Bi]at θ;have:=Bg h hq V;rw[AB.d3,aE U,AB.d3,aE U];exact h.dom p θ
 .intro p θ;rw[Bi]at θ;rw[AB.d3];by_cases C:d=p
  .subst C;rw[QQ rfl,Cj _ _ _ hd];refine hrep _ _ _ _ hag (by simp[I,Bv]) λb o hf=>?_;rcases hf with M|⟨p,i,lo,M,_⟩
   .exact .inl (F? M.1 h.below.size)
   .rcases H _ _ _ _ M with⟨_,_,L⟩|⟨_,_,L⟩
    .exact .inr ⟨lo,L⟩
    .exact .inl (h.lt _ _ _ _ L).1
  .rw[aE C,AZ _ _ _ _ C,AB.d3];split
   .trivial
   .rename_i hqp;refine AK.kept hag (λi=>by simp[I];rw[BD _ _ _ _ (λe=>C e.symm),BD _ _ _ _ (λe=>hqp e.symm)]) (λi b lo D=>ζ b (h.lt _ _ _ _ D).1 (λl m=>hqp (h.gB _ _ _ _ _ _ _ m D).1)) (LV (Bi _ _ _) λr J=>by
     have:=Bg h hq V;simp[I];rw[BD _ _ _ _ U,BD _ _ _ _ U]) (λg j b lo J=>by
     exact ζ b (h.lt _ _ _ _ J).1 (λl D=>h.Abl (Bg h hq V) D J rfl)) (λr i k J⟨pp,N⟩=>?_) (λr off _⟨cs,A⟩=>?_) (λr i J⟨pp,N⟩=>?_) (h.slots p θ)
    .have M:=AB.pN δ N;have R:=AB.pN V M.2;exact⟨⟨pp,R.2⟩,h.nh ⟨pp,R.2⟩ (AZ _ _ _ _ M.1) (λ_ b _ hb=>ζ b (h.lt _ _ _ _ hb).1 (λl m=>R.1 (h.gB _ _ _ _ _ _ _ m hb).1))⟩
    .rw[AB.d3]at A;by_cases B:d=r
     .rw[QQ B]at A;exact absurd A (δ cs)
     .rw[aE B,AB.d3]at A;split at A
      .cases A
      .exact⟨⟨cs,A⟩,AZ _ _ _ _ B⟩
    .by_cases B:d=r
     .subst B;have hno':O.ew d=X:=by
       grind [AB.Aaz]
      have hx:=AB.AaB d O hno' p;rcases J with J|⟨c,J⟩
      .exact absurd J (hx.1 i)
      .exact absurd J (hx.2 i c)
     .rw[AB.tc B]at N;have R:=AB.l4 V V N;exact⟨⟨pp,R.2⟩,h.xv ⟨pp,R.2⟩ (AZ _ _ _ _ B) (λb hb=>ζ b (h.lt _ _ _ _ hb).1 (λl m=>R.1 (h.gB _ _ _ _ _ _ _ m hb).1))⟩
 .intro p;rw[AB.d3];split
  .exact hw
  .rw[AB.d3];split
   .trivial
   .exact h.wf p
variable{s:Nat}
theorem dj(j:AR F0 w0 O a w G)(hd:d<a.tmps.size)(g:o.op=.move (.tmp s)\/o.op=.assign (.tmp s))(h:(AE.xal s).wp S O (Y d) K):A2 P F0 w0 a w o d K:=by
 simp only[AE.wp]at h;split at h
 .rename_i n es l;refine⟨slot a s,w,by rcases g with g|g<;>simp[execOp,g,show a.eval (.tmp s)=slot a s from rfl],_,_,h,_,j.quiet (Below.refl _ _) d hd (.la s W) _ (λ_=>W) V V V ?_ trivial⟩;simp only[AK];rintro⟨p,k⟩;have m:=AB.l4 V V k
  grind [XV,AZ]
 .exact h.elim
variable{t e:TypeId}
theorem nI(j:AR F0 w0 O a w G)(hd:d<a.tmps.size)(k:o.op=.call {callee:=.builtin .len,args:=#[x],argTypes:=#[t]})(l:AJ x y=X)
  (he:P.underlying t=Y (.slice e))(h:(AE.Abc y).wp S O (Y d) K):A2 P F0 w0 a w o d K:=by
 simp only[AE.wp]at h;cases m:y.pq O with
 |none=>rw[m]at h;exact h.elim|some p=>
  rw [m]at h;simp only[Ai]at h;obtain⟨B,C⟩:=OY j l m;obtain⟨D,E⟩:=O6 j B C;simp only[TV.WF,J3]at D;obtain⟨xs,⟨I,H,_⟩,_⟩:=E;have hv:∃u cap,a.eval x=.slice u p.2.2.length cap:=by
   rcases H.2 with⟨A,J,_⟩|⟨g,cap,_,_,A,_⟩
   .grind
   .exact⟨_,_,A⟩
  obtain ⟨u,cap,hv⟩:=hv;refine Cc j hd (v:=.int .i64 p.2.2.length) (t:=.int .i64 p.2.2.length) ?_ rfl ⟨i_,r_⟩ h;simp[execOp,k,resolve,invoke,builtin,Builtin.len_,run_underlying he,hv,goInt]
theorem dk(l:AR F0 w0 O a w G)(hd:d<a.tmps.size){x i:Operand}{y j:AF}(E:o.op=.indexAddr t x i)(H:AJ x y=X)(u:AJ i j=X)(C:IZ P t=Y n)(h:(AE.xia y j n).wp S O (Y d) K):A2 P F0 w0 a w o d K:=by
 simp only[AE.wp]at h;cases I:y.pq O with
 |none=>rw[I]at h;exact h.elim|some p=>
  obtain ⟨⟨q,κ⟩,m,es⟩:=p;rw[I]at h;simp only[Ai]at h;split at h
  .rename_i k D θ;obtain⟨⟨_,rfl⟩,η,M,ζ⟩:=h;obtain⟨δ,N⟩:=OY l H I;have A:=Ax l u θ;simp only[Ap]at A;obtain⟨g,cap,cur,e,xs,R,_⟩:=kI l δ N (by rintro rfl;simp at M;omega);unfold IZ at C;split at C
   .rename_i el ε;have J:0<=D/\D<(es.length:Int):=⟨η,M⟩;refine⟨.pointer (Y ⟨g,D.toNat*m,W⟩),w,?_,_,_,ζ,_,l.quiet (Below.refl _ _) d hd (.lp q κ (D.toNat*m)) _ (λ_=>W) V V V ?_ trivial⟩
    .simp[execOp,E,R,A.1,Instr.indexAt,asIntOf,run_underlying ε,J,B7 C,Addr.add_lit]
    .simp only[AK];rintro⟨pp,L⟩;have B:=AB.l4 V V L;exact⟨g,_,_,l.xv ⟨_,B.2⟩ (AZ _ _ _ _ B.1) (λ_ _=>rfl) _ (by rw[<-R];exact N),rfl⟩
   .cases C
  .exact h.elim
theorem jI(k:AR F0 w0 O a w G)(h:AJ x y=X){q c:Nat}{p:Nat×Fq}(j:y.ev O=.lp q i c)(l:O.ln q i=Y p):∃g len cap,XV a w q i (.slice (Y ⟨g,0,W⟩) len cap)/\a.eval x=.pointer (Y ⟨g,c,W⟩):=by
 cases y with
 |c t=>simp[AF.ev]at j|s m=>
  have u:x=.tmp m:=by
   cases x<;>simp[AJ]at h;rw[h]
  subst u;simp only[AF.ev]at j;have:=Ah k j V;simp only[AK]at this;exact this ⟨p,l⟩
theorem qT(l:AR F0 w0 O a w G)(hd:d<a.tmps.size){f k:Nat}(m:o.op=.fieldAddr t x f)(u:AJ x y=X)(B:Pf P t f=Y k)(h:(AE.xfa y k).wp S O (Y d) K):A2 P F0 w0 a w o d K:=by
 simp only[AE.wp]at h;split at h
 .rename_i q i c C;split at h
  next I D=>obtain⟨g,len,cap,E,H⟩:=jI l u C D;refine⟨.pointer (Y ⟨g,c+k,W⟩),w,by simp[execOp,m,H,VM B],_,_,h,_,l.quiet (Below.refl _ _) d hd (.lp q i (c+k)) _ (λ_=>W) V V V ?_ trivial⟩;simp only[AK];rintro⟨J,A⟩;have j:=AB.l4 V V A;exact⟨g,_,_,l.xv ⟨_,j.2⟩ (AZ _ _ _ _ j.1) (λ_ _=>rfl) _ E,rfl⟩
  .exact h.elim
 .exact h.elim
variable{dst:Option Nat}
theorem uC{S:FuncId->Fq->At->Prop}{O:AB}{K:EV->AB->Prop}{x i:AF}(h:(AE.xin x i n).wp S O dst K):(AE.xia x i n).wp S O dst K:=by
 simp only[AE.wp]at h|-;split at h
 .rename_i q A j g l;split at h
  .rename_i m es u;have:x.pq O=Y ((q,W),m,es):=by
    cases x with
    |c t=>simp[AF.ev]at g|s k=>simp only[AF.ev]at g;simp only[AF.pq,g,AB.ln,u]
   simp only[this,Ai,l,g];exact⟨⟨rfl,h.1⟩,h.2⟩
  .exact h.elim
 .exact h.elim
theorem uD{S:FuncId->Fq->At->Prop}{O:AB}{K:EV->AB->Prop}{x:AF}(h:(AE.xln x).wp S O dst K):(AE.xld x).wp S O dst K:=by
 simp only[AE.wp]at h|-;split at h
 .rename_i q c g;split at h
  next m es j=>simp only[g,AB.ln,j];exact h
  .exact h.elim
 .exact h.elim
theorem dl(l:AR F0 w0 O a w G)(hd:d<a.tmps.size)(m:o.op=.load t x)(u:AJ x y=X)(J:B2 P t=Y T)(h:(AE.xld y).wp S O (Y d) K):A2 P F0 w0 a w o d K:=by
 simp [AE.wp]at h;split at h
 .rename_i q i c L;split at h
  .rename_i M A;obtain⟨n,es⟩:=M;simp only at h;cases k:(es.flatMap TV.cells)[c]? with
   |none=>rw[k]at h;exact h.elim|some t'=>
    rw [k]at h;simp[Ai]at h;have B:es≠[]:=by rintro rfl;simp at k
    obtain ⟨g,len,cap,D,ε⟩:=jI l u L A;obtain⟨g',E,C,e,xs,H,κ,f3,f4,f5,f6,f7,I,f9,η,ζ⟩:=kI l A D B;simp at H;obtain⟨rfl,rfl,rfl⟩:=H;have N:c<(es.flatMap TV.cells).length:=by
     grind
    have R:=BJ I;obtain⟨y,δ⟩:∃y,xs[c]?=Y y:=⟨_,x! U⟩;have j:w.cell? ⟨g,c,W⟩=Y y:=by
     rw [cell_of_row w g c C e (0,0) κ]
     grind
    have θ:=(O6 l A D).1;refine Cc l hd (v:=y) ?_ (((Bf _ _).1 I).2 c t' _ k δ) ?_ h
    .simp[execOp,m,ε,Instr.loadAt,Instr.sureAddr,loadVar,Cg J,j]
    .have:=θ.2;rw[Bn]at this;have hm:=w_ k
     grind [Bn,Hz]
  .exact h.elim
 .exact h.elim
theorem fB{t:TV}(h:TV.k7 t.cells):t.WF:=by
 cases t<;>simp[TV.cells,TV.k7]at h<;>first|exact h|(simp[TV.WF];exact h)
theorem dw{es:Fq}(h:TV.k7 es):TV.k7 (es.flatMap TV.cells):=by grind[Bn,Hz]
theorem VS:∀{es:Fq},TV.k7 (es.flatMap TV.cells)->TV.k7 es
 |[],_=>trivial|e::es,h=>by
  rw [v?]at h;rw[KJ]at h;exact⟨fB h.1,VS h.2⟩
variable{ts:Fq}
theorem eu{w:World}{F:Nat->Nat->Prop}{xs:List Value}(h:AT w F ts xs)(c:Nat):AT w F (ts.take c) (xs.take c):=by
 rw [Bf]at h|-
 grind
theorem en{w:World}{F:Nat->Nat->Prop}{xs:List Value}(h:AT w F ts xs)(c:Nat):AT w F (ts.drop c) (xs.drop c):=by
 rw [Bf]at h|-
 grind
theorem qU(C:AR F0 w0 O a w G){x v:Operand}{x' η:AF}{m:Nat}(H:o.op=.store t x v)(ζ:AJ x x'=X)(hv:AJ v η=X)(hn:Cx P t=Y m)(h:(AE.xst x' η m).wp S O W K):Hd P F0 w0 a w o K:=by
 simp [AE.wp]at h;split at h
 .rename_i q i c hy;split at h
  .rename_i n es u E hu;obtain⟨⟨h1,h0⟩,δ,es',h3,B,h5,hK⟩:=h;obtain⟨g,len,cap,θ,e2⟩:=jI C ζ hy E;have D:=(O6 C E θ).1;have I:=Ax C hv (t:=u) (by simp[AF.val,hu,EV.val]);have h6:TV.k7 es':=by
    have h7:=dw D.2
    grind [TV.k7,TV.cells,Bn,x?,Hz,y_,VS]
   have J:es≠[]:=by rintro rfl;simp at δ;omega
   obtain ⟨g',cap',j,e,xs,f1,f2,f3,f4,f5,f6,f7,f8,f9,f10,ε⟩:=kI C E θ J;simp at f1;obtain⟨rfl,rfl,rfl⟩:=f1;obtain⟨k2,k3⟩:=GZ I.1;obtain⟨ys,κ⟩:∃ys,(a.eval v).cells.toList=ys:=⟨_,rfl⟩;rw[κ]at k2 k3;have A:ys.length=m:=by rw[BJ k2,h1]
   have hcc:c+m<=j.size:=by rw[f5];exact G_ δ (G! _ f3)
   have l:=run_storeCells_at P g c e ys 0 j w f2 U k3;simp at l;have L:(a.eval v).cells.size=m:=by rw[<-I',κ,A]
   have M:(execOp a.eval o).run P w=.ok .skip (w.setRow g (j.toList.take c++ys++j.toList.drop (c+m)).toArray):=by
    rw [A]at l;simp[execOp,H,e2,Instr.storeAt,Instr.sureAddr,storeVar,B7 hn,L,κ,l]
   refine ⟨_,M,_,hK,G,?_⟩;have N:xs.length=es.length*n:=ε;refine C.rexo E θ (w':=w.setRow g (j.toList.take c++ys++j.toList.drop (c+m)).toArray) (xs':=xs.take c++ys++xs.drop (c+m)) ⟨rfl,rfl,rfl,V,λk _ hk=>setRow_other w g k _ (λe=>hk 0 (by rw[e];exact f7))⟩ ⟨Y (g,es.length*n),⟨by simp[A,N,B];omega,.inr ⟨g,cap,_,e,by rw[B],setRow_heap w g j _ e _ f2,by rw[B];exact f3,f4,?_,?_,by rw[B]⟩⟩,by rw[f7];rfl⟩ (λhag=>?_) h5 (λx ζ=>?_) ⟨by rw[B];exact D.1,h6⟩
   .grind
   .rw[B,<-f6];have R:c<=j.toList.length:=by rw[I'];omega
    have hA:(j.toList.take c++ys).length=c+m:=by rw[a5,a6,A,G? R]
    show (j.toList.take c++ys++j.toList.drop (c+m)).take (es.length*n)=_
    grind [y!,y?,G?,List.drop_take]
   .grind[As,ID,eu,en]
   grind
  .exact h.elim
 .exact h.elim
theorem dh(l:AR F0 w0 O a w G)(hd:d<a.tmps.size)(g:o.op=.move (.tmp s)\/o.op=.assign (.tmp s))(h:(AE.rel s).wp S O (Y d) K):A2 P F0 w0 a w o d K:=by
 simp [AE.wp]at h;split at h
 .rename_i L n es k m;simp at k;subst k;obtain⟨u,E⟩:=h;have A:=Ah l m V;have B:=l.wf s;rw[m]at B;simp[AK]at A;obtain⟨xs,⟨H,M,j⟩,N,R,θ⟩:=A;refine⟨slot a s,w,by rcases g with g|g<;>simp[execOp,g,show a.eval (.tmp s)=slot a s from rfl],_,_,E,l.xgo m hd u (z':=H) rfl rfl rfl (aN _) (λ_ _ _=>rfl) (λb lo C=>?_) V V (λF' I env' a' D J _=>?_) B⟩
  .rw[C]at j;exact⟨(l.lt _ _ _ _ j).1,.inr ⟨_,j⟩⟩
  grind [AK,Bo,As]
 .exact h.elim
theorem di(k:AR F0 w0 O a w G)(hd:d<a.tmps.size)(g:o.op=.move (.tmp s)\/o.op=.assign (.tmp s))(h:(AE.tkx s).wp S O (Y d) K):A2 P F0 w0 a w o d K:=by
 simp [AE.wp]at h;split at h
 .rename_i J n es j l;simp at j;subst j;obtain⟨m,u,E⟩:=h;have B:=Ah k l V;have C:=k.wf s;rw[l]at C;simp[AK]at B;obtain⟨xs,L,M,N,R⟩:=B;refine⟨slot a s,w,by rcases g with g|g<;>simp[execOp,g,show a.eval (.tmp s)=slot a s from rfl],_,_,E,k.xgo l hd u (z':=G s W) rfl rfl rfl (aN _) (λ_ _ _=>rfl) (λb lo A=>⟨(k.lt _ _ _ _ A).1,.inr ⟨_,A⟩⟩) V (λ_=>m) (λF' H env' a' D I _=>?_) C⟩
  grind [AK,As]
 .exact h.elim
variable{z:Option (Nat×Nat)}
theorem AR.AbF(h:AR F0 w0 O a w G){w':World}(A:Below w.heap.size w w')(hd:d<a.tmps.size)(u:O.ew d=X){es:Fq}{xs:List Value}(j:Fx w' n v es.length xs z)
  (B:∀b lo,z=Y (b,lo)->w.heap.size<=b/\b<w'.heap.size)
  (k:∀F',(∀b o,F' b o->(b<w.heap.size/\AW w0.heap.size F0 G b o)\/∃lo,z=Y (b,lo))->AT w' F' (es.flatMap TV.cells) xs)(hn:∀e∈es,e.cells.length=n)(C:∀x∈xs,x.oneCell'=X)(D:(TV.list n es).WF):
  Bs F0 w0 ((d,.xo n es)::O) (a.put (Y d) v) w':=by
 refine ⟨_,h.quiet A d hd (.xo n es) v (λi=>if i=W then z.map (λp=>(p.1,0))else W) (λi b lo hi=>?_) (λi H b lo E g m=>?_) (λ_=>u) ?_ D⟩
 .split at hi
  .cases z with
   |none=>simp at hi|some p=>
    simp at hi;exact hi.1▸B p.1 p.2 rfl
  .cases hi
 .split at g
  .split at m
   .simp_all
   .cases m
  .cases g
 .simp[AK];refine⟨xs,⟨z,j,by rw[Bv];simp⟩,k _ (λb o hf=>?_),hn,C⟩;rcases hf with hf|⟨p,i,lo,g,m⟩
  .exact .inl ⟨F? hf.1 h.below.size,.inl hf⟩
  .by_cases l:p=d
   .subst l;rw[Bv]at g;split at g
    .cases z with
     |none=>simp at g|some q=>
      simp at g;exact .inr ⟨q.2,by rw[<-g.1]⟩
    .cases g
   .rw[BD _ _ _ _ l]at g;exact .inl ⟨(h.lt _ _ _ _ g).1,.inr ⟨p,i,lo,g,m⟩⟩
theorem aO(k:AR F0 w0 O a w G)(hd:d<a.tmps.size)(g:o.op=.move x\/o.op=.assign x)(l:∃v,x=.const v/\MO v=X)(h:(AE.AaY n).wp S O (Y d) K):A2 P F0 w0 a w o d K:=by
 simp [AE.wp]at h;obtain⟨j,m⟩:=h;obtain⟨v,rfl,hv⟩:=l;have hv:=Jh hv;subst hv;refine⟨.slice W 0 0,w,by rcases g with g|g<;>simp[execOp,g,Act.eval],_,_,m,k.AbF (Below.refl _ _) hd j (z:=W) (xs:=[]) ⟨V,.inl ⟨rfl,rfl,rfl⟩⟩ V (λ_ _=>rfl) V V ⟨V,trivial⟩⟩
variable{f:FuncId}{ys:List AF}{ats:Array TypeId}{Q:Exit->Act->World->Prop}
theorem kC(D:AR F0 w0 O a w G)(hd:d<a.tmps.size)(l:o.dst=Y d){xs:Array Operand}(N:o.op=.call {callee:=.value (.func f),args:=xs,argTypes:=ats})(R:Bc xs.toList ys=X)(h:(AE.Aal f ys).wp (AV P) O (Y d) K)
  {next:Act->World->Prop}(hn:∀e env' a' w',K e env'->Q4 a d a'->Bs F0 w0 ((d,e)::env') a' w'->next a' w'):o.wp P a w next Q:=by
 simp [AE.wp]at h;obtain⟨κ,h⟩:=h;cases j:vals O ys with
 |none=>rw[j]at h;exact h.elim|some ts=>
  rw [j]at h;simp[Ai]at h;obtain⟨n,es,A,δ⟩:=h;have hv:=Fo D R j;have m:(execOp a.eval o).run P w=(callFunc f (xs.map a.eval)).run P w:=by simp[execOp,N,resolve,Act.eval,Deferred.ofValue,invoke]
  have key:DR P f=X/\(TV.list n es).WF/\Calls P f (xs.map a.eval) w λe w'=>∃v z g,e=.returned v/\Below w.heap.size w w'/\Fx w' n v es.length g z/\(∀F',(∀b o,F' b o->(b<w.heap.size/\AW w0.heap.size F0 G b o)\/∃lo,z=Y (b,lo))->AT w' F' (es.flatMap TV.cells) g)/\(∀e∈es,e.cells.length=n)/\(∀x∈g,x.oneCell'=X)/\∀b lo,z=Y (b,lo)->w.heap.size<=b/\b<w'.heap.size:=by
   rcases A with A|⟨A,hfl⟩
   .obtain⟨B,η⟩:=(A.to0 rfl) hv.2;obtain⟨k,C⟩:=η (AW w0.heap.size F0 G) w (xs.map a.eval) j? D.below.now;refine⟨B,k,C.mono ?_⟩;rintro e w' ⟨v,rfl,E,z,g,H,I,J,L,M⟩;exact⟨v,z,g,rfl,E,H,λF' θ=>As (λb o u ζ hf=>⟨ζ,λε=>hf (θ b o ε)⟩) _ _ I,J,L,M⟩
   .obtain⟨B,η⟩:=(A.to0 rfl) hv.2;obtain⟨k,C⟩:=η (AW w0.heap.size F0 G) w (xs.map a.eval) j? D.below.now;refine⟨B,k,C.mono ?_⟩;rintro e w' ⟨v,rfl,E,z,⟨g,H,I,J,L⟩,M⟩
    grind [FX,KP]
  obtain ⟨B,k,C⟩:=key;unfold Oper.wp;rw[m,Ef B _,Oper.upon_enter];refine C.mono ?_;rintro e w' ⟨v,z,g,rfl,E,H,I,J,L,M⟩;simp[l];exact hn _ _ _ _ (δ k) ⟨_,rfl⟩ (D.AbF E hd κ H M I J L k)
theorem j9(k:AR F0 w0 O a w G)(hd:d<a.tmps.size)(B:o.dst=Y d){xs:List Operand}(L:o.op=.call {callee:=.value (.func f),args:=(x::xs).toArray,argTypes:=ats})(M:AJ x y=X)(C:Bc xs ys=X)(h:(AE.Aaj f y ys).wp (AV P) O (Y d) K)
  {next:Act->World->Prop}(hn:∀e env' a' w',K e env'->Q4 a d a'->Bs F0 w0 ((d,e)::env') a' w'->next a' w'):o.wp P a w next Q:=by
 simp only[AE.wp]at h;cases R:y.pq O with
 |none=>rw[R]at h;exact h.elim|some p=>
  obtain ⟨⟨q,i⟩,m,es⟩:=p;rw[R]at h;simp only[Ai]at h;obtain⟨rfl,h⟩:=h;cases l:vals O ys with
  |none=>rw[l]at h;exact h.elim|some ts=>
  rw [l]at h;obtain⟨zs,u,E,rfl,⟨A,ts2,g,hc,H,hS⟩,hK⟩:=h;simp only[List.cons.injEq,TV.list.injEq,true_and]at g;obtain⟨g,rfl⟩:=g;have θ:A=zs:=by
   have:=congrArg (List.map λt=>match t with|.int _ n=>n|_=>0) g;simpa[z_,Function.comp_def]using this.symm
  subst θ;obtain⟨hq,hx⟩:=OY k M R;obtain⟨ζ,xs',h1,h2,h3,h4⟩:=O6 k hq hx;obtain⟨hv,δ⟩:=Fo k C l;have ε:xs'=A.map (Value.int .i64):=by
   have:∀(zs:Fp)(xs:List Value),AT w (AW w0.heap.size F0 G) ((zs.map (TV.int .i64)).flatMap TV.cells) xs->xs=zs.map (Value.int .i64):=by
    intro zs
    induction zs with
    |nil=>intro xs h;exact h|cons z zs ih=>
     grind [TV.cells,z!,AT,Ap]
   exact this A xs' h2
  subst ε;have D:(execOp a.eval o).run P w=(callFunc f (a.eval x::xs.map a.eval).toArray).run P w:=by simp[execOp,L,resolve,Act.eval,Deferred.ofValue,invoke]
  unfold Oper.wp;rw[D,Ef hc _,Oper.upon_enter];refine(hS _ w (a.eval x) _ (G q i) ζ δ (by simpa using h1) hv (λb lo o J N=>.inr ⟨q,i,lo,J,N⟩) (λb lo J=>⟨(k.lt _ _ _ _ J).1,k.low J⟩) k.below.now).mono ?_;rintro e w' ⟨⟨I,j⟩,⟨r,rfl,hu⟩,r1,r2⟩;simp only[B];have κ:=k.rexo hq hx r2 (es':=u.map (TV.int .i64)) (xs':=u.map (Value.int .i64)) (by rw[az,I];exact r1) (λ_=>?_) (by simp[TV.cells]) n! j.1
  .have η:∀F,QL w' F E r:=λF=>by
    rcases E with _|⟨t,_|⟨t',E⟩⟩
    .exact hu
    .exact RR t (by simpa[TV.q0]using H) _ hu
    .obtain⟨vs,e1,e2⟩:=hu;exact⟨vs,e1,FX _ H _ e2⟩
   rcases E with _|⟨t,_|⟨t',E⟩⟩
   all_goals
    refine hn _ _ _ _ (hK j) ⟨_,rfl⟩ ⟨_,κ.quiet (Below.refl _ _) d hd (EV.ofs _) _ (λ_=>W) (by simp[EV.ofs]) (by simp[EV.ofs]) (by simp[EV.ofs]) ?_ ?_⟩
    .simp only[EV.ofs,AK];exact η _
    .first|exact trivial|exact j.2.1|exact j.2
  .have:∀(zs:Fp),AT w' (AW w0.heap.size F0 G) ((zs.map (TV.int .i64)).flatMap TV.cells) (zs.map (Value.int .i64)):=by
    intro zs
    induction zs with
    |nil=>rfl|cons z zs ih=>
     grind [TV.cells,z!,AT,Ap]
   exact this u
theorem Zj{w:World}{F:Nat->Nat->Prop}:∀(zs:Fp),AT w F ((zs.map (TV.int .i64)).flatMap TV.cells) (zs.map (Value.int .i64))
 |[]=>rfl|z::zs=>by
  simp only[z?,v?,TV.cells,z!,AT,Ap];exact⟨_,_,rfl,rfl,Zj zs⟩
theorem aF{w:World}{F:Nat->Nat->Prop}:∀(zs:Fp)(xs:List Value),AT w F ((zs.map (TV.int .i64)).flatMap TV.cells) xs->xs=zs.map (Value.int .i64)
 |[],xs,h=>h|z::zs,xs,h=>by
  simp [TV.cells,AT,Ap]at h;obtain⟨v,r,rfl,rfl,h⟩:=h;rw[aF zs r h];rfl
theorem jz(j:AR F0 w0 O a w G)(hd:d<a.tmps.size)(l:o.dst=Y d)(C:o.op=.call {callee:=.value (.func f),args:=#[x],argTypes:=ats})(D:AJ x y=X)(h:(AE.AaE f y).wp (AV P) O (Y d) K)
  {next:Act->World->Prop}(hn:∀e env' a' w',K e env'->Q4 a d a'->Bs F0 w0 ((d,e)::env') a' w'->next a' w'):o.wp P a w next Q:=by
 simp only[AE.wp]at h;cases H:y.pq O with
 |none=>rw[H]at h;exact h.elim|some p=>
  obtain ⟨⟨q,i⟩,m,es⟩:=p;rw[H]at h;simp only[Ai]at h;obtain⟨⟨L,rfl⟩,rfl,M,zs,N,rfl,⟨R,A,hc,g,hS⟩,hK⟩:=h;simp only[List.cons.injEq,TV.list.injEq,true_and,and_true]at A;have I:R=zs:=by
   have:=congrArg (List.map λt=>match t with|.int _ n=>n|_=>0) A;simpa[z_,Function.comp_def]using this.symm
  subst I;obtain⟨B,κ⟩:=OY j D H;replace B:=AB.o4 B;simp only[XV]at κ;replace g:=g (by have:=j.wf q;rw[B]at this;exact this);have ε:=Ah j B V;simp only[AK]at ε;obtain⟨xs,h1,h2,h3,h4⟩:=ε;have J:=aF _ _ h2;subst J;have u:(execOp a.eval o).run P w=(callFunc f #[slot a q]).run P w:=by simp[execOp,C,resolve,Act.eval,Deferred.ofValue,invoke,<-κ]
  unfold Oper.wp;rw[u,Ef hc _,Oper.upon_enter];refine(hS w (slot a q) (G q W) (by simpa using h1)).mono ?_;rintro e w' ⟨v',rfl,r1,r2⟩;simp only[l];obtain⟨b1,b2,b3,η,b5⟩:=r2;refine hn _ _ _ _ (hK g) ⟨_,rfl⟩ (j.xgo B hd (λe=>L e.symm) (z':=G q W) b1 b2 b3 η (λk E ζ=>b5 k E ζ) (λb lo θ=>⟨F? (j.lt _ _ _ _ θ).1 η,.inr ⟨_,θ⟩⟩) V (λ_=>M) (λF' G' env' a' δ hG _=>?_) g);simp only[AK];rw[hG];exact⟨_,by simpa using r1,Zj N,by simp[TV.cells],n!⟩
theorem mr(δ:AR F0 w0 O a w G)(hd:d<a.tmps.size){i:TypeInfo}{z:Value}(hop:o.op=.call {callee:=.builtin .append,args:=#[.tmp s,x],argTypes:=#[t,t]})
  (ht:P.underlying t=Y (.slice e))(hi:P.info? e=Y i)(A:i.zero=Y z)(E:i.size=n)(hby:i.bytes<=4096)(hzs:z.cells.size=n)(hn:0<n)
  (hok:AJ x y=X)(h:(AE.AaN n s y).wp S O (Y d) K):A2 P F0 w0 a w o d K:=by
 simp only[AE.wp]at h;split at h
 .rename_i d' m es m' J N hs hy;simp only[kx]at N;subst N;obtain⟨hm1,hm2,ε,hno,hds,hK⟩:=h;subst hm2;subst hm1;have D:=Ah δ hs V;have H:=δ.wf s;rw[hs]at H;simp only[AK]at D;obtain⟨xs,⟨z0,h1,κ⟩,h2,h3,h4⟩:=D;have hv:=Ax δ hok hy;simp only[Ap]at hv;obtain⟨⟨ad,cap,h5,h6,h7,h8⟩,h9⟩:=hv;have I:∃g:List Value,AT w (AW w0.heap.size F0 G) (J.flatMap TV.cells) g/\(∀x∈g,x.oneCell'=X)/\(∀f∈J,f.cells.length=m)/\∀b,ad=Y b->∀(j:Nat)(u:Value),g[j]?=Y u->w.cell? (b.add j)=Y u:=by
   cases ad with
   |none=>
    have:=h7 rfl;subst this;exact⟨[],rfl,V,V,V⟩
   |some b=>
    obtain ⟨C,h11⟩:=h8 b rfl;obtain⟨bb,B,sp⟩:=b;simp only at C h11;by_cases θ:J=[]
    .subst θ;exact⟨[],rfl,V,V,V⟩
    have C:sp=W:=C.resolve_left θ;subst C;have hrow:∀(l:Fq)(B:Nat),II w (AW w0.heap.size F0 G) m l bb B->DD w (AW w0.heap.size F0 G) (l.flatMap TV.cells) bb B/\∀f∈l,f.cells.length=m:=by
     intro l
     induction l with
     |nil=>intro B _;exact⟨trivial,V⟩|cons f l ih=>
      grind [Qe,Im]
    grind [Tp,kx]
  obtain ⟨g,n1,n2,n3,n4⟩:=I;have hnl:g.length=J.length*m:=by rw[BJ n1,PE m J n3]
  obtain ⟨v',w',z',η,r1,L⟩:=QF (P:=P) t o.type e i z m ht hi A E hby hzs hn (slot a s) es.length xs z0 h1 ad J.length cap g hnl (λe=>by rw[h7 e];rfl) h6 n4 n2 ε;have hnz:∀k,(∀lo,G s W≠Y (k,lo))->∀lo,z0≠Y (k,lo):=λk hk lo A=>hk 0 (by rw[κ,A];rfl);refine⟨v',w',?_,_,_,hK,δ.xgo hs hd hds (z':=z'.map λp=>(p.1,0)) L.os L.tape L.output L.size (λk hk A=>L.other k hk (hnz k A)) (λb lo A=>?_) V (λ_=>hno) (λF' G' env' a' M hG _=>?_) ?_⟩
  .simp[execOp,hop,resolve,invoke,builtin,show a.eval (.tmp s)=slot a s from rfl,h5,η]
  .cases z' with
   |none=>simp at A|some p=>
    simp only[J_,kx,Prod.mk.injEq]at A;obtain⟨k1,ζ⟩:=L.Abo p.1 p.2 rfl;rw[<-A.1];refine⟨k1,?_⟩;rcases ζ with ζ|⟨lo',ζ,_⟩
    .exact .inl ζ
    .exact .inr ⟨0,by rw[κ,ζ];rfl⟩
  .simp only[AK];rw[hG];refine⟨xs++g,⟨z',by rw[a5];exact r1,rfl⟩,?_,?_,?_⟩
   .rw[A_];exact ID (As M _ _ h2) (As M _ _ n1)
   .intro e he;rcases A'.1 he with he|he
    .exact h3 e he
    .exact n3 e he
   .intro x R;rcases A'.1 R with R|R
    .exact h4 x R
    .exact n2 x R
  .simp only[EV.WF,TV.WF]at H h9|-;exact⟨by rw[a5];exact U3 U,KJ.2 ⟨H.2,h9.2⟩⟩
 .exact h.elim
theorem qG(η:AR F0 w0 O a w G)(hd:d<a.tmps.size){x x':Operand}{ty e:TypeId}{A:TypeInfo}{z g:Value}{t:TV}(E:o.op=.makeSlice ty x x')(ζ:AJ x y=X)(H:AJ x' y=X)
  (B:P.underlying ty=Y (.slice e))(I:P.info? e=Y A)(ε:A.zero=Y z)(hs:A.size=1)(δ:A.bytes<=4096)(hzc:z.cells=#[g])(hc:D9 t g=X)(h1c:g.oneCell'=X)(J:t.cells=[t])
  (h:(AE.mkx 1 [t] y).wp S O (Y d) K):A2 P F0 w0 a w o d K:=by
 simp [AE.wp]at h;split at h
 .rename_i d' ik j L hy;simp[kx]at L;subst L;obtain⟨hno,h0,hmax,hK⟩:=h;have hv:=(Ax η ζ hy).1;have C:=(Ax η H hy).1;simp[Ap]at hv C;obtain⟨m,rfl⟩:∃m:Nat,j=m:=⟨j.toNat,U⟩;have hm:m<=4096:=U
  have hw1:IntKind.i64.wrap (m:Int)=m:=by
   have e1:(2:Int)^ 64=18446744073709551616:=a_
   have e2:(2:Int)^ (64-1)=9223372036854775808:=a_
   simp [IntKind.wrap,IntKind.bits,IntKind.signed,Bool.true_and,ml,e1,e2,ge_iff_le];split<;>omega
  have κ:m*A.bytes<=16777216:=by
   calc m*A.bytes<=4096*4096:=H_ hm δ
    _=16777216:=a_
  have l:(Array.range m).map (λq=>([g]:List Value)[q % 1]?.getD default)=I! m g:=by
   grind
  have M:¬(281474976710656<(A.bytes:Int)*(m:Int)):=by
   grind
  have D:¬(m*A.bytes>roomBytes):=by
   have:roomBytes≥16777216:=a_
   omega
  have N:¬((m:Int)<0):=U
  have R:(execOp a.eval o).run P w=.ok (.value (.slice (Y ⟨w.heap.size,0,W⟩) m m)) (w.alloc (.cells (I! m g) e)):=by
   by_cases θ:m=0
   .subst θ;have hw0:IntKind.i64.wrap 0=0:=a_
    simp [execOp,E,hv,C,Instr.makeSlice,run_underlying B,asInt,asIntOf,typeInfo,I,hw0,askRoom,sizeOf,hs,newRow]
    grind
   .simp[execOp,E,hv,C,Instr.makeSlice,run_underlying B,asInt,asIntOf,typeInfo,I,hw1,askRoom,sizeOf,hs,newRow,M,D,N,θ,zeroValue,ε,hzc,l]
  have hb:Below w.heap.size w (w.alloc (.cells (I! m g) e)):=(Below.refl _ _).alloc (aN _) _;have hcr:=HK (w.alloc (.cells (I! m g) e)) (λ_ _=>False) t g hc;have hfm:∀k,(A! k t).flatMap TV.cells=A! k t:=by
   intro k
   induction k with
   |zero=>rfl|succ k ih=>rw[A?,v?,ih,J];rfl
  simp [Int.toNat_natCast]at hK;refine⟨_,_,R,_,_,hK,η.AbF hb hd hno (z:=Y (w.heap.size,m*1)) (xs:=A! m g) ⟨V,.inr ⟨w.heap.size,m,_,e,V,heap_alloc_new w _,V,by simp[maxLen];omega,V,V,V⟩⟩ (λb lo ε=>?_) (λF' _=>?_) (λu B=>?_) (λv hv=>?_) ⟨by simp[B_,J3];omega,?_⟩⟩
  .simp[kx,Prod.mk.injEq]at ε;rw[<-ε.1];exact⟨aN _,V⟩
  .rw[hfm,Bf];refine⟨V,λi u v B hv=>?_⟩;rw[B' (w_ B),B' (w_ hv)];exact(HK _ F' t g hc).1
  .rw[B' B,J];rfl
  .rw[B' hv];exact h1c
  .rw[Bn];intro u B;rw[B' B];exact hcr.2
 .exact h.elim
def jP(P:Program)(t:TypeId)(f k n:Nat)(agg:Bool):Bool:=
 match P.underlying t with
 |some (.struct fs)=>(match fs[f]? with
  |some x=>x.offset==k&&Cx P x.type==Y n&&B2 P x.type==Y agg|none=>T)
 |_=>T
theorem nA(C:AR F0 w0 O a w G)(hd:d<a.tmps.size){f k n:Nat}{agg:Bool}(A:o.op=.field t x f)(D:AJ x y=X)(hf:jP P t f k n agg=X)(h:(AE.Abe y k n agg).wp S O (Y d) K):A2 P F0 w0 a w o d K:=by
 simp only[AE.wp]at h;split at h
 .rename_i cs R;obtain⟨κ,g⟩:=h;have hv:=Ax C D R;simp only[Ap,TV.WF]at hv;obtain⟨⟨vs,L,H,η⟩,M⟩:=hv;unfold jP at hf;split at hf
  .rename_i ε I;split at hf
   .rename_i j B;simp only[gN,beq_iff_eq]at hf;obtain⟨⟨rfl,hn⟩,N⟩:=hf;have J:=BJ H;rw[Bf]at H;rw[Bn]at M;cases agg with
    |true=>
     simp only[if_true]at g;refine Cc C hd (v:=.agg (vs.extract j.offset (j.offset+n))) (t:=.agg ((cs.drop j.offset).take n)) ?_ ?_ ?_ g
     .simp[execOp,A,L,Instr.field,run_underlying I,B,part,Cg N,B7 hn,asAgg]
     .simp only[Ap];refine⟨_,rfl,?_,?_⟩
      .rw[Bf]
       grind
      grind
     .simp only[TV.WF];rw[Bn]
      grind
    |false=>
     simp only[Bool.false_eq_true,if_false]at g;cases E:cs.drop j.offset with
     |nil=>rw[E]at g;simp[E4,Ai]at g|cons u r=>
      rw [E]at g;simp only[E4,Ai]at g;have m:cs[j.offset]?=Y u:=by
       have:=congrArg (λl=>l[0]?) E;simpa[B!]using this
      have θ:j.offset<cs.length:=(B?.1 m).1;obtain⟨v,hv⟩:∃v,vs.toList[j.offset]?=Y v:=⟨_,x! U⟩;refine Cc C hd (v:=v) (t:=u) ?_ (H.2 _ u v m hv) (M u (w_ m)) g;rw[I?]at hv;simp[execOp,A,L,Instr.field,run_underlying I,B,part,Cg N,asAgg,hv]
   .cases hf
  .cases hf
 .exact h.elim
def cZ(P:Program)(ty:TypeId)(n:Nat)(zero:Fq):Bool:=
 match P.underlying ty,zero with
 |some (.slice e),[t]=>(match P.info? e with
  |some ie=>(match ie.zero with
   |some z=>(match z.cells.toList with
    |[z0]=>n==1&&ie.size==1&&decide (ie.bytes<=4096)&&D9 t z0&&z0.oneCell'&&(match t with|.int _ _=>X|.bool _=>X|.str _=>X|.list _ _=>X|_=>T)
    |_=>T)
   |none=>T)
  |none=>T)
 |_,_=>T
variable{zero:Fq}
theorem g7(A:AR F0 w0 O a w G)(hd:d<a.tmps.size){x x':Operand}{ty:TypeId}(k:o.op=.makeSlice ty x x')(l:AJ x y=X)(j:AJ x' y=X)(g:cZ P ty n zero=X)
  (h:(AE.mkx n zero y).wp S O (Y d) K):A2 P F0 w0 a w o d K:=by
 unfold cZ at g;split at g
 .rename_i e t B;split at g
  .rename_i L m;split at g
   .rename_i z C;split at g
    next M u=>simp[ml]at g;obtain⟨⟨⟨⟨⟨rfl,D⟩,E⟩,H⟩,I⟩,J⟩:=g;exact qG A hd k l j B m C D E (dn u) H I (by cases t<;>first|rfl|cases J) h
    .cases g
   .cases g
  .cases g
 .cases g
theorem Bs.congr{F0:Nat->Nat->Prop}{w0:W0}{O env2:AB}{a:Act}{w:World}(h:Bs F0 w0 O a w)(he:∀n,O.get n=env2.get n):Bs F0 w0 env2 a w:=by
 obtain ⟨G,h⟩:=h;refine⟨G,h.gB,h.lt,h.below,h.defers,λq g=>?_,λq g=>?_,λq=>?_⟩
 .rw[<-he];exact h.dom q g
 .rw[<-he];refine AK.kept (QN _ _) (λ_=>rfl) (λ_ _ _ _=>rfl) rfl BI.rfl' (λr i k m⟨p,j⟩=>⟨⟨p,(AB.Aaa (he r)).trans j⟩,λ_ hv=>hv⟩) (λr u m⟨cs,l⟩=>⟨⟨cs,by rw[he];exact l⟩,rfl⟩) (λr i m⟨p,j⟩=>⟨⟨p,(AB.wm (he r)).trans j⟩,λ_ hv=>hv⟩) (h.slots q g)
 .rw[<-he];exact h.wf q
theorem AR.unx(h:AR F0 w0 O a w G){es:Fq}(J:O.get d=.xo n es):Bs F0 w0 ((d,.ow (.list n es))::O) a w:=by
 have D:=Ah h J V;simp only[AK]at D;obtain⟨xs,⟨z0,h1,N⟩,h2,h3,h4⟩:=D;have κ:=h.wf d;rw[J]at κ;have hsz:=Bg h J V
 let A:BV:=I8 G d (λi=>if i=W then z0 else W)
 have m:∀p i b lo,A p i=Y (b,lo)->∃g,g<=lo/\G p i=Y (b,g):=by
  intro p i b lo l;by_cases E:p=d
  .subst E;simp only[A,Bv]at l;split at l
   next hi=>subst hi;exact⟨0,F! _,by rw[N,l];rfl⟩
   .cases l
  .simp only[A,BD _ _ _ _ E]at l;exact⟨lo,aN _,l⟩
 have H:Be w w (AW w0.heap.size F0 G) (AW w0.heap.size F0 A):=by
  intro b o u δ ε;refine⟨δ,?_⟩;rintro(θ|⟨p,i,lo,θ,k2⟩)
  .exact ε (.inl θ)
  .obtain⟨g,R,k4⟩:=m _ _ _ _ θ;exact ε (.inr ⟨p,i,g,k4,G_ R k2⟩)
 refine ⟨A,λp i p' i' b lo g L η=>?_,λp i b lo L=>?_,h.below,h.defers,λp l=>?_,λp l=>?_,λp=>?_⟩
 .obtain⟨_,_,f1⟩:=m _ _ _ _ L;obtain⟨_,_,f2⟩:=m _ _ _ _ η;exact h.gB _ _ _ _ _ _ _ f1 f2
 .obtain⟨g,R,f⟩:=m _ _ _ _ L;exact⟨(h.lt _ _ _ _ f).1,(h.lt _ _ _ _ f).2.imp id (λe o ho=>e o (G_ R ho))⟩
 .rw[AB.d3,aE U];exact h.dom p l
 .rw[AB.d3];by_cases C:d=p
  .subst C;rw[QQ rfl];simp only[AK,Bo];exact⟨xs,by simp only[A,Bv,if_true];exact h1,As H _ _ h2,h3,h4⟩
  .rw[aE C];refine AK.kept H (λi=>by simp only[A];rw[BD _ _ _ _ (λe=>C e.symm)]) (λ_ _ _ _=>rfl) (LV rfl λr D=>by simp only[A];rw[BD _ _ _ _ U]) BI.rfl' (λr i k D⟨M,B⟩=>?_) (λr ζ _⟨cs,j⟩=>?_) (λr i D⟨M,B⟩=>?_) (h.slots p l)
   .exact⟨⟨M,(AB.pN V B).2⟩,λ_ hv=>hv⟩
   .rw[AB.d3]at j;by_cases I:d=r
    .rw[QQ I]at j;cases j
    .rw[aE I]at j;exact⟨⟨cs,j⟩,rfl⟩
   .exact⟨⟨M,(AB.l4 V V B).2⟩,λ_ hv=>hv⟩
 .rw[AB.d3];split
  .exact κ
  .exact h.wf p
theorem sR{S:FuncId->Fq->At->Prop}(h:(AE.mko n zero y).wp S O (Y d) K):(AE.mkx n zero y).wp S O (Y d) λe env'=>env'=O/\∃m es,e=.xo m es/\K (.ow (.list m es)) O:=by
 simp only[AE.wp]at h|-;split at h
 next g k j hd l=>simp only[kx]at hd;subst hd;exact⟨h.1,h.2.1,h.2.2.1,trivial,_,_,rfl,h.2.2.2⟩
 .exact h.elim
theorem qF(A:AR F0 w0 O a w G)(hd:d<a.tmps.size){x x':Operand}{ty:TypeId}(k:o.op=.makeSlice ty x x')(l:AJ x y=X)(g:AJ x' y=X)(B:cZ P ty n zero=X)
  (h:(AE.mko n zero y).wp S O (Y d) K):A2 P F0 w0 a w o d K:=by
 obtain ⟨v,w',j,e,env',⟨rfl,m,es,rfl,C⟩,D,u⟩:=g7 A hd k l g B (sR h);exact⟨v,w',j,_,_,C,(AR.unx u (by rw[AB.d3,QQ rfl])).congr λn=>by
  rw [AB.d3,AB.d3,AB.d3];split<;>rfl⟩
theorem vb{args:Fq}{t:TV}(h:AV P f args (.own t)):AV P f args (.sh t):=by
 intro l;obtain⟨A,B⟩:=h l;refine⟨A,λF0 w vs hv j=>?_⟩;obtain⟨C,D⟩:=B F0 w vs hv j;refine⟨C,D.mono ?_⟩;rintro e w' ⟨v,rfl,E,z,H,J⟩;refine⟨v,rfl,E,?_⟩;have m:=Bo.rep H (λb lo o I ho=>by
  grind)
 exact B8 (λb o u k hf=>⟨k,λg=>hf (.inl g)⟩) _ _ m
theorem Pq(h:v.oneCell'=X):v.cells=#[v]:=by
 cases v<;>first|rfl|simp[Value.oneCell']at h
theorem qS(u:AR F0 w0 O a w G){x v:Operand}(hop:o.op=.store t x v)(C:AJ x (.s s)=X)(hv:AJ v (.s q)=X)(hn:Cx P t=Y n)(h:(AE.stx n s q).wp S O W K):Hd P F0 w0 a w o K:=by
 simp only[AE.wp]at h;split at h
 .rename_i cs ds hs hq;obtain⟨J,⟨κ,D⟩,ho,hK⟩:=h;have hp:(AF.s s).place O=Y (s,0):=by simp[AF.place,hs]
  revert hp ho hK
  suffices key:∀g,g+n<=cs.length->K .undef ((s,.bx (cs.take g++ds++cs.drop (g+n)))::(q,.undef)::O)->(AF.s s).place O=Y (s,g)->Hd P F0 w0 a w o K from key 0
  .intro g ho hK hp;have hvq:v=.tmp q:=by
    cases v<;>simp[AJ]at hv;rw[hv]
   subst hvq;obtain⟨b,hsl,hadr⟩:=HC u C hp hs;have hr:=Ah u hs V;simp only[AK]at hr;obtain⟨δ,c,θ,h1,h2,h3,h4,h5⟩:=hr;rw[hsl]at h1;simp only[Value.pointer.injEq,kx,Addr.mk.injEq,and_true,and_self]at h1;subst h1;have hrq:=Ah u hq V;simp only[AK]at hrq;obtain⟨vs,B,m,e3⟩:=hrq;have ε:=u.wf s;rw[hs]at ε;have hwq:=u.wf q;rw[hq]at hwq;have hone:∀y∈vs.toList,y.oneCell'=X:=by
    intro y E;obtain⟨i,hi⟩:=C_ E;have l:i<ds.length:=by have:=(B?.1 hi).1;simpa[m]using this
    obtain ⟨x,C,hc⟩:=e3 i _ (x! l);rw[I?,C]at hi;simp only[kx]at hi;subst hi;exact Gn hc
   have hev:a.eval (.tmp q)=.agg vs:=B;have hst:(execOp a.eval o).run P w=.ok .skip (w.setRow b (c.toList.take g++vs.toList++c.toList.drop (g+n)).toArray):=by
    have hln:vs.toList.length=n:=by rw[I',m,κ]
    have I:=run_storeCells_at P b g θ vs.toList 0 c w h2 (by rw[hln];omega) hone;simp only[H']at I;rw[hln]at I;simp[execOp,hop,hadr,hev,Instr.storeAt,Instr.sureAddr,storeVar,B7 hn,Value.cells,show vs.size=n by rw[m,κ],I]
   have hvl:vs.toList.length=n:=by rw[I',m,κ]
   let zs:Option Nat->Option (Nat×Nat):=λi=>match i with|none=>Y (b,0)|some j=>if g<=j/\j<g+n then G q (Y (j-g))else G s (Y j)
   refine Exists.elim (u.Abr hs hsl h2 (cs':=cs.take g++ds++cs.drop (g+n)) (c':=(c.toList.take g++vs.toList++c.toList.drop (g+n)).toArray) (q:=Y q) (by simpa using J) (λp hp=>by cases hp;exact Bg u hq V) (zs:=zs) rfl ?_ ?_ ?_ ?_ ?_ ?_) (λG' h'=>⟨_,hst,_,hK,G',h'.1⟩)
   .intro i δ lo hi hz;cases i with
    |none=>exact absurd rfl hi|some j=>
     simp only[zs]at hz;split at hz
     .exact .inr ⟨q,rfl,_,hz⟩
     .exact .inl hz
   .intro i i' δ lo M B m;have zn:∀j δ lo M,zs (Y j)=Y (δ,lo)->zs W=Y (δ,M)->False:=by
     intro j δ lo M B m;simp only[zs,kx,Prod.mk.injEq]at m;obtain⟨rfl,_⟩:=m;simp only[zs]at B;split at B
     .exact J (u.gB _ _ _ _ _ _ _ B h4).1
     .have:=(u.gB _ _ _ _ _ _ _ B h4).2;cases this
    cases i with
    |none=>cases i' with
     |none=>rfl|some j=>exact(zn j _ _ _ m B).elim
    |some j=>cases i' with
     |none=>exact(zn j _ _ _ B m).elim|some j'=>
      simp only[zs]at B m;split at B<;>split at m
      .have:=(u.gB _ _ _ _ _ _ _ B m).2;simp only[kx]at this;rw[show j=j' by omega]
      .exact absurd (u.gB _ _ _ _ _ _ _ B m).1 J
      .exact absurd (u.gB _ _ _ _ _ _ _ m B).1 J
      .exact(u.gB _ _ _ _ _ _ _ B m).2
   .simp only[List.size_toArray,a5,a6,C',I'];omega
   .intro F' w' N H R i y E;have hco:∀j,g+n<=j->cs[j]?=Y y->i=j->∃v,c[j]?=Y v/\BE w' F' (po a G) (G s (Y j)) y v:=by
     intro j hj hc hij;obtain⟨v,η,ζ⟩:=h5 j y hc;exact⟨v,η,ζ.kept N (λk lo A=>H k (λe=>by have:=(u.gB _ _ _ _ _ _ _ (e▸A) h4).2;cases this)) R⟩
    rcases F_ i g with l|hge
    .rw[bk,C! an,C?,QQ l]at E;obtain⟨v,η,ζ⟩:=h5 i y E;refine⟨v,?_,?_⟩
     .rw[D_,bk,C! an,C?,QQ l,I?];exact η
     .simp only[zs,aE (show¬(g<=i/\i<g+n)by omega)];exact ζ.kept N (λk lo A=>H k (λe=>by have:=(u.gB _ _ _ _ _ _ _ (e▸A) h4).2;cases this)) R
    .rcases F_ i (g+n)with l|L
     .rw[bk,D' an,C! an]at E;simp only[a6]at E;rw[G? U]at E;obtain⟨v,η,ζ⟩:=e3 (i-g) y E;refine⟨v,?_,?_⟩
      .rw[D_,bk,D' an,C! an];simp only[a6,I'];rw[G? U,I?];exact η
      .simp only[zs,QQ (show g<=i/\i<g+n by omega)];exact ζ.kept N (λk lo A=>H k (λe=>J (u.gB _ _ _ _ _ _ _ (e▸A) h4).1)) R
     .rw[D' an]at E;simp only[a5,a6]at E;rw[G? U,κ,B!,show g+n+(i-(g+n))=i from U]at E;obtain⟨v,η,ζ⟩:=hco i L E rfl;refine⟨v,?_,?_⟩
      .rw[D_,D' an];simp only[a5,a6,I'];rw[G? U,m,κ,B!,show g+n+(i-(g+n))=i from U,I?];exact η
      .simp only[zs,aE (show¬(g<=i/\i<g+n)by omega)];exact ζ
   .intro x C;rcases A'.1 C with C|C
    .rcases A'.1 C with C|C
     .exact ε x (x? C)
     .exact hwq x C
    .exact ε x (y_ C)
   .intro k tx htx A;have hkl:k<cs.length:=by
     have:=(B?.1 A).1;simp only[a5,a6,C']at this;omega
    rw [D_];rcases F_ k g with l|hge
    .rw[bk,C! an,D! l]at A;refine .inr ⟨A,?_⟩;rw[bk,C! an,D! l,I?]
    .rcases F_ k (g+n)with l|L
     .rw[bk,D' an,C! an]at A;rw[Bool.or_eq_true]at D;rcases D with D|D
      .have:=D?.1 D _ (w_ A);simp[htx]at this
      .exact .inl (AB.noX_all D)
     .rw[D' an]at A;simp only[a5,a6,B!]at A;rw[G? U,κ,show g+n+(k-(g+n))=k from U]at A;refine .inr ⟨A,?_⟩;rw[D' an];simp only[a5,a6,I',B!];rw[G? U,m,κ,show g+n+(k-(g+n))=k from U,I?]
 .exact h.elim
def KL(a:Act)(w:World)(G:BV)(d:Nat)(Z:DK):BV:=λp=>if p=d then Z 0 else if a.tmps.size+w.heap.size<=p then(λi=>match i with|some j=>Z (p-a.tmps.size+1) (Y j)|none=>W)else G p
variable{Z:DK}{p:Nat}
theorem OZ{a:Act}{w:World}{G:BV}{d:Nat}{b lo:Nat}(h:KL a w G d Z p i=Y (b,lo)):(p=d/\Z 0 i=Y (b,lo))\/(p≠d/\a.tmps.size+w.heap.size<=p/\Z (p-a.tmps.size+1) i=Y (b,lo))\/(p≠d/\¬a.tmps.size+w.heap.size<=p/\G p i=Y (b,lo)):=by
 simp [KL]at h
 grind
theorem AR.quiet2{w':World}(h:AR F0 w0 O a w G)(I:Below w.heap.size w w')(d:Nat)(hd:d<a.tmps.size)(e:EV)(v:Value)
  (Z:DK)(M:∀q i b lo,Z q i=Y (b,lo)->w.heap.size<=b/\b<w'.heap.size)(C:JA Z)
  (J:(∃cs,e=.bx cs)\/(∃n es,e=.xo n es)->O.ew d=X)
  (R:Be w w' (AW w0.heap.size F0 G) (AW w0.heap.size F0 (KL a w G d Z))->AK (a.put (Y d) v) w' (AW w0.heap.size F0 (KL a w G d Z)) (KL a w G d Z) ((d,e)::O) d e v)(κ:e.WF):
  AR F0 w0 ((d,e)::O) (a.put (Y d) v) w' (KL a w G d Z):=by
 have ε:Be w w' (AW w0.heap.size F0 G) (AW w0.heap.size F0 (KL a w G d Z)):=by
  intro b o u hc hf;have hlt:b<w.heap.size:=World.block_lt_of_cell? w ⟨b,o,W⟩ hc;refine⟨by rw[I.cell (p:=⟨b,o,W⟩) hlt];exact hc,λη=>hf ?_⟩;rcases η with h|⟨s,i,lo,θ,h2⟩
  .exact .inl h
  .rcases OZ θ with⟨_,e⟩|⟨_,_,e⟩|⟨_,_,e⟩
   .grind
   .grind
   .exact .inr ⟨s,i,lo,e,h2⟩
 have ζ:∀s,s<a.tmps.size->s≠d->KL a w G d Z s=G s:=by
  grind [KL]
 refine ⟨?_,?_,h.below.go I,g?,?_,?_,?_⟩
 .intro s i s' i' b lo lo' θ h2;rcases OZ θ with⟨e1,A⟩|⟨e1,e3,A⟩|⟨e1,e3,A⟩<;>rcases OZ h2 with⟨e2,B⟩|⟨e2,e4,B⟩|⟨e2,e4,B⟩
  .exact⟨by rw[e1,e2],(C _ _ _ _ _ _ _ A B).2⟩
  .have:=(C _ _ _ _ _ _ _ A B).1;omega
  .have:=(M _ _ _ _ A).1;have:=(h.lt _ _ _ _ B).1;omega
  .have:=(C _ _ _ _ _ _ _ A B).1;omega
  .obtain⟨g1,g2⟩:=C _ _ _ _ _ _ _ A B;exact⟨U,g2⟩
  .have:=(M _ _ _ _ A).1;have:=(h.lt _ _ _ _ B).1;omega
  .have:=(M _ _ _ _ B).1;have:=(h.lt _ _ _ _ A).1;omega
  .have:=(M _ _ _ _ B).1;have:=(h.lt _ _ _ _ A).1;omega
  .exact h.gB _ _ _ _ _ _ _ A B
 .intro s i b lo θ;rcases OZ θ with⟨_,f⟩|⟨_,_,f⟩|⟨_,_,f⟩
  .have:=M _ _ _ _ f;exact⟨this.2,.inl (G_ h.below.size this.1)⟩
  .have:=M _ _ _ _ f;exact⟨this.2,.inl (G_ h.below.size this.1)⟩
  .have:=h.lt _ _ _ _ f;exact⟨F? this.1 I.size,this.2⟩
 .intro s N;rw[Bi]at N;rw[AB.d3,aE U];exact h.dom s N
 .intro s N;rw[Bi]at N;rw[AB.d3];by_cases H:d=s
  .subst H;rw[QQ rfl,Cj _ _ _ hd];exact R ε
  .rw[aE H,AZ _ _ _ _ H];refine AK.kept' ε (λi=>by rw[ζ s N (λe=>H e.symm)]) (λi b lo ζ=>I.block b (h.lt s i b lo ζ).1) (λi g lo j hg=>?_) (λ_=>BI.spot (h.AaK I)) (λq i k D⟨p,E⟩=>?_) (λq δ D⟨cs,m⟩=>?_) (λq i D⟨p,E⟩=>?_) (h.slots s N)
   .have:=(h.lt _ _ _ _ hg).1;simp[po,Bi,KL];rw[aE U,aE U]
   .by_cases l:d=q
    .subst l;exact absurd D (AB.Aa2 d O (J (.inl (AB.Aam E))) s i k)
    .rw[AB.t5 l]at E;exact⟨⟨p,E⟩,h.nh ⟨p,E⟩ (AZ _ _ _ _ l) (λj b _ L=>I.block b (h.lt _ _ _ _ L).1)⟩
   .rw[AB.d3]at m;by_cases l:d=q
    .subst l;rw[QQ rfl]at m;exact absurd D (AB.Aav d O (J (.inl ⟨cs,m⟩)) s δ)
    .rw[aE l]at m;exact⟨⟨cs,m⟩,AZ _ _ _ _ l⟩
   .by_cases l:d=q
    .subst l;have hx:=AB.AaB d O (J (AB.Aaz E)) s;rcases D with D|⟨c,D⟩
     .exact absurd D (hx.1 i)
     .exact absurd D (hx.2 i c)
    .rw[AB.tc l]at E;exact⟨⟨p,E⟩,h.xv ⟨p,E⟩ (AZ _ _ _ _ l) (λb L=>I.block b (h.lt _ _ _ _ L).1)⟩
 .intro s;rw[AB.d3];split
  .exact κ
  .exact h.wf s
theorem e8(C:AR F0 w0 O a w G)(hd:d<a.tmps.size)(l:o.dst=Y d){xs:Array Operand}(D:o.op=.call {callee:=.value (.func f),args:=xs,argTypes:=ats})(E:Bc xs.toList ys=X)(h:(AE.Aae f ys).wp (AV P) O (Y d) K)
  {next:Act->World->Prop}(hn:∀e env' a' w',K e env'->Q4 a d a'->Bs F0 w0 ((d,e)::env') a' w'->next a' w'):o.wp P a w next Q:=by
 simp only[AE.wp]at h;cases k:vals O ys with
 |none=>rw[k]at h;exact h.elim|some ts=>
  rw [k]at h;simp only[Ai]at h;obtain⟨cs,ζ,hX,δ⟩:=h;have hv:=Fo C E k;have u:(execOp a.eval o).run P w=(callFunc f (xs.map a.eval)).run P w:=by simp[execOp,D,resolve,Act.eval,Deferred.ofValue,invoke]
  obtain ⟨h2,h3⟩:=(ζ.to0 rfl) hv.2;obtain⟨R,h5⟩:=h3 (AW w0.heap.size F0 G) w (xs.map a.eval) j? C.below.now;unfold Oper.wp;rw[u,Ef h2 _,Oper.upon_enter];refine h5.mono ?_;rintro e w' ⟨v,rfl,hb,Z,⟨vs,rfl,r1,r2⟩,r3,r5,θ⟩;simp only[l]
  let B:DK:=λq i=>(Z q i).map λp=>(p.1,0)
  have J:∀{q i b lo},B q i=Y (b,lo)->∃g,Z q i=Y (b,g)/\lo=0:=by
   grind [J']
  have κ:(EV.vS (cs.map AQ.toX)).WF:=by
   intro c m;obtain⟨M,j,rfl⟩:=List.mem_map.1 m;obtain⟨n,es,e0,_⟩:=hX M j;have:=R _ j;rw[e0]at this|-;exact this
  refine hn _ _ _ _ (δ R) ⟨_,rfl⟩ ⟨_,C.quiet2 hb d hd (.vS (cs.map AQ.toX)) _ B (λq i b lo A=>?_) (λq i q' i' b lo g H I=>?_) V (λε=>?_) κ⟩
  .obtain⟨g,A,_⟩:=J A;exact⟨(θ q i b g A).2,(θ q i b g A).1⟩
  .obtain⟨_,H,_⟩:=J H;obtain⟨_,I,_⟩:=J I;exact r3 _ _ _ _ _ _ _ H I
  simp only[AK];refine⟨vs,rfl,by simpa using r1,λi c m=>?_⟩;rw[E_]at m;simp only[J']at m;obtain⟨M,j,rfl⟩:=m;obtain⟨n,es,rfl,N⟩:=hX M (w_ j);obtain⟨x,k1,k2,_⟩:=r2 i _ j;refine⟨x,k1,?_⟩;have L:KL a w G d B d (Y i)=B 0 (Y i):=by simp[KL]
  rw [L];have η:Bo w' _ (Z 0 (Y i)) (.list n es) x:=k2;obtain⟨us,m1,m2,m3,m4⟩:=η;exact⟨us,⟨_,m1,rfl⟩,FX _ (KP _ N) _ m2,m3,m4⟩
def aq(P:Program)(t:TypeId):Bool:=match P.underlying t with|some (.slice _)=>X|_=>T
theorem oR(h:Sd x=X):x=.const (.slice W 0 0):=by
 cases x<;>simp[Sd]at h
 grind [Jh]
variable{t':TypeId}
theorem aL(B:AR F0 w0 O a w G)(hd:d<a.tmps.size){x z:Operand}(k:o.op=.binOp .eql t x z t')(C:Sd z=X)(l:aq P t=X){j:Option Addr}{n cap:Nat}(m:a.eval x=.slice j n cap)(h:K (.tv (.bool j.isNone)) O):A2 P F0 w0 a w o d K:=by
 have u:=oR C;subst u;unfold aq at l;split at l
 .rename_i e D;refine Cc B hd (v:=.bool j.isNone) (t:=.bool j.isNone) ?_ rfl trivial h;have he:∀d,(Op.equalIn (d+1) t (.slice j n cap) (.slice W 0 0)).run P w=.ok j.isNone w:=by
   intro d;cases j<;>simp[Op.equalIn,run_underlying D]
  have A:(Op.equalIn 10000 t (.slice j n cap) (.slice W 0 0)).run P w=.ok j.isNone w:=he 9999;have H:(eqGuard .eql t x (.const (.slice W 0 0)) (.slice j n cap) (.slice W 0 0)).run P w=.ok () w:=by
   simp [eqGuard]
  have I:(binOp .eql t (.slice j n cap) (.slice W 0 0)).run P w=.ok (.bool j.isNone) w:=by
   have e:(binOp .eql t (.slice j n cap) (.slice W 0 0)).run P w=((Op.equalIn 10000 t (.slice j n cap) (.slice W 0 0)).run P w).andThen λb w'=>.ok (.bool b) w':=by
    simp only[binOp];simp[Op.equal,Op.maxDepth]
   rw [e,A];rfl
  have J:a.eval (.const (.slice W 0 0))=.slice W 0 0:=rfl;have L:∀(g b:Sem Unit)(r:Sem Value),g.run P w=.ok () w->r.run P w=.ok (.bool j.isNone) w->(do let r <-(do g;r:Sem Value);pure (Next.value r):Sem Next).run P w=.ok (.value (.bool j.isNone)) w:=by
   intro g b r m E;simp[m,E]
  simp only[execOp,k,m,J];exact L _ (pure ()) _ H I
 .cases l
theorem p5(k:AR F0 w0 O a w G)(hd:d<a.tmps.size){x z:Operand}(g:o.op=.binOp .eql t x z t')(j:AJ x y=X)(m:Sd z=X)(u:aq P t=X)(h:(AE.isn y).wp S O (Y d) K):A2 P F0 w0 a w o d K:=by
 simp only[AE.wp]at h;split at h
 next n es l=>have hv:=(Ax k j l).1;simp only[Ap]at hv;obtain⟨D,cap,B,E,C,H⟩:=hv;exact aL k hd g m u B (h _ λA=>C u')
 next l=>have hv:=(Ax k j l).1;simp only[Ap]at hv;exact aL k hd g m u hv h
 .exact h.elim
end
end Go.Sf
namespace Go.Sf
open Go.RowKit (Below)
section
variable{P:Program}{S:FuncId->Fq->At->Prop}{F0:Nat->Nat->Prop}{w0:W0}{O:AB}{a:Act}{w:World}{G:BV}{d:Nat}{o:Oper}{K:EV->AB->Prop}
variable{x:Operand}{y:AF}{t:TypeId}
theorem p6(A:AR F0 w0 O a w G)(hd:d<a.tmps.size)(B:o.op=.load t x)(C:AJ x y=X)(L:B2 P t=Y T)(h:(AE.lac y).wp S O (Y d) K):A2 P F0 w0 a w o d K:=by
 simp [AE.wp]at h;split at h
 .rename_i s g j;have N:y.place O=Y (s,g):=by
   cases y with
   |c t=>simp[AF.ev]at j|s n=>simp[AF.ev]at j;simp[AF.place,j]
  split at h
  .rename_i p M;obtain⟨n,es⟩:=p;obtain⟨cs,I,R⟩:=AB.l3 M;obtain⟨b,m,u⟩:=HC A C N I;have H:=Ah A I V;simp only[AK]at H;obtain⟨κ,c,θ,D,J,η,ζ,ε⟩:=H;rw[m]at D;simp at D;subst D;obtain⟨v,hv,δ⟩:=ε g _ R;have k:w.cell? ⟨b,g,W⟩=Y v:=by rw[cell_of_row w b g c θ (0,0) J];exact hv
   refine ⟨v,w,by simp[execOp,B,u,Instr.loadAt,Instr.sureAddr,loadVar,Cg L,k],_,_,h,_,A.quiet (Below.refl _ _) d hd (.la s (Y g)) _ (λ_=>W) V V V ?_ trivial⟩;simp only[AK];rintro⟨pp,E⟩;have l:=AB.l4 V V E;exact A.xv ⟨_,l.2⟩ (AZ _ _ _ _ l.1) (λ_ _=>rfl) _ ⟨b,c,θ,m,J,hv⟩
  .exact h.elim
 .exact h.elim
theorem pw(A:AR F0 w0 O a w G)(hd:d<a.tmps.size)(C:o.op=.load t x)(D:AJ x y=X)(R:B2 P t=Y T)(h:(AE.ctk y).wp S O (Y d) K):A2 P F0 w0 a w o d K:=by
 simp [AE.wp]at h;split at h
 .rename_i δ s j E ε;simp at E;subst E;split at h
  .rename_i cs B;split at h
   .rename_i n es H;obtain⟨m,J⟩:=h;obtain⟨b,k,l⟩:=HC A D ε B;have I:=Ah A B V;simp only[AK]at I;obtain⟨κ,c,θ,u,L,η,ζ,M⟩:=I;rw[k]at u;simp at u;subst u;obtain⟨y,N,_⟩:=M j _ H;have g:w.cell? ⟨b,j,W⟩=Y y:=by rw[cell_of_row w b j c θ (0,0) L];exact N
    exact ⟨y,w,by simp[execOp,C,l,Instr.loadAt,Instr.sureAddr,loadVar,Cg R,g],_,_,J,A.Aax B H hd k g (.inr (.inl ⟨n,es,rfl,rfl,rfl,m⟩))⟩
   .rename_i es H;obtain⟨m,J⟩:=h;obtain⟨b,k,l⟩:=HC A D ε B;have I:=Ah A B V;simp only[AK]at I;obtain⟨κ,c,θ,u,L,η,ζ,M⟩:=I;rw[k]at u;simp at u;subst u;obtain⟨y,N,_⟩:=M j _ H;have g:w.cell? ⟨b,j,W⟩=Y y:=by rw[cell_of_row w b j c θ (0,0) L];exact N
    exact ⟨y,w,by simp[execOp,C,l,Instr.loadAt,Instr.sureAddr,loadVar,Cg R,g],_,_,J,A.Aax B H hd k g (.inr (.inr ⟨es,rfl,rfl,rfl,m⟩))⟩
   .exact h.elim
  .exact h.elim
 .exact h.elim
variable{q:Nat}
theorem pv(m:AR F0 w0 O a w G){x v:Operand}{x':AF}(hop:o.op=.store t x v)(hx:AJ x x'=X)(hv:AJ v (.s q)=X)(hn:Cx P t=Y 1)(h:(AE.cpt x' q).wp S O W K):Hd P F0 w0 a w o K:=by
 simp [AE.wp]at h
 suffices key:∀(ζ:TV)(s g:Nat),x'.place O=Y (s,g)->O.get q≠.undef->(∀cs,O.get q≠.bx cs)->D5 w (AW w0.heap.size F0 G) (po a G) (G q W) ζ (slot a q)->ζ.WF->∀cs,O.get s=.bx cs->O.noX s (Y g)=X->g<cs.length->K .undef ((s,.bx (cs.set g ⟨X,ζ⟩))::(q,.undef)::O)->Hd P F0 w0 a w o K by
  split at h
  .rename_i s g n es ε I;split at h
   next cs J=>have l:=Ah m I V;have u:=m.wf q;rw[I]at u;exact key (.xl n es) s g ε (by rw[I];simp) (by rw[I];simp) l u cs J h.1 h.2.1 h.2.2
   .exact h.elim
  .rename_i s g es ε I;split at h
   next cs J=>have l:=Ah m I V;have u:=m.wf q;rw[I]at u;exact key (.xn es) s g ε (by rw[I];simp) (by rw[I];simp) l u cs J h.1 h.2.1 h.2.2
   .exact h.elim
  .exact h.elim
 intro ζ s g ε hqu hqb l u cs J hno δ hK;obtain⟨b,hsl,hadr⟩:=HC m hx ε J;have hr:=Ah m J V;simp only[AK]at hr;obtain⟨η,c,θ,h1,h2,h3,h4,h5⟩:=hr;rw[hsl]at h1;simp at h1;subst h1;have hw:=m.wf s;rw[J]at hw;have C:q≠s:=λe=>hqb cs (by rw[e];exact J);have hvq:v=.tmp q:=by
  cases v<;>simp[AJ]at hv;rw[hv]
 subst hvq;have N:(slot a q).oneCell'=X:=Ot l;have D:(a.eval (.tmp q)).cells.toList=[slot a q]:=by
  have:a.eval (.tmp q)=slot a q:=rfl;rw[this,Pq N]
 have hst:(execOp a.eval o).run P w=.ok .skip (w.setRow b (c.toList.take g++[slot a q]++c.toList.drop (g+1)).toArray):=by
  have E:=run_storeCells_at P b g θ [slot a q] 0 c w h2 an (by simpa using N);simp only[H']at E;have hsz:(a.eval (.tmp q)).cells.size=1:=by rw[<-I',D];rfl
  simp at E;simp[execOp,hop,hadr,Instr.storeAt,Instr.sureAddr,storeVar,B7 hn,hsz,D,E]
 let zs:Option Nat->Option (Nat×Nat):=λi=>match i with|none=>Y (b,0)|some j=>if j=g then G q W else G s (Y j)
 refine Exists.elim (m.Abr J hsl h2 (cs':=cs.set g ⟨X,ζ⟩) (c':=(c.toList.take g++[slot a q]++c.toList.drop (g+1)).toArray) (q:=Y q) (by simpa using C) (λp ε=>by cases ε;exact m.lts hqu) (zs:=zs) rfl ?_ ?_ ?_ ?_ ?_ ?_) (λG' h'=>⟨_,hst,_,hK,G',h'.1⟩)
 .intro i η lo hi hz;cases i with
  |none=>exact absurd rfl hi|some j=>
   simp [zs]at hz;split at hz
   .exact .inr ⟨q,rfl,W,hz⟩
   .exact .inl hz
 .intro i i' η lo R A B;have zn:∀j η lo R,zs (Y j)=Y (η,lo)->zs W=Y (η,R)->False:=by
   intro j η lo R A B;simp[zs]at B;obtain⟨rfl,_⟩:=B;simp[zs]at A;split at A
   .exact C (m.gB _ _ _ _ _ _ _ A h4).1
   .have:=(m.gB _ _ _ _ _ _ _ A h4).2;cases this
  cases i with
  |none=>cases i' with
   |none=>rfl|some j=>exact(zn j _ _ _ B A).elim
  |some j=>cases i' with
   |none=>exact(zn j _ _ _ A B).elim|some j'=>
    simp [zs]at A B;split at A<;>split at B
    next e3 e4=>rw[e3,e4]
    .exact absurd (m.gB _ _ _ _ _ _ _ A B).1 C
    .exact absurd (m.gB _ _ _ _ _ _ _ B A).1 C
    .exact(m.gB _ _ _ _ _ _ _ A B).2
 .simp;omega
 .intro F' w' hag M hrs i y H;rw[w?]at H;by_cases hi:g=i
  .subst hi;rw[QQ rfl,QQ δ]at H;simp at H;subst H;refine⟨slot a q,?_,?_⟩
   .rw[D_,bk,D' an];simp;rw[G? U,Nat.sub_self];rfl
   .simp[BE,zs];exact l.kept hag (λk lo L=>M k (λe=>C (m.gB _ _ _ _ _ _ _ (e▸L) h4).1)) hrs
  .rw[aE hi]at H;obtain⟨vv,A,B⟩:=h5 i y H;refine⟨vv,?_,?_⟩
   .rw[D_];rcases F_ i g with κ|hge
    .rw[bk,C! an,D! κ];simpa using A
    .rw[D' an];simp only[a5,a6,I',E'];rw[G? U,B!,show g+1+(i-(g+1))=i from U];simpa using A
   .have hi':¬i=g:=λe=>hi e.symm;simp[zs];rw[aE hi'];exact B.kept hag (λk lo L=>M k (λe=>by have:=(m.gB _ _ _ _ _ _ _ (e▸L) h4).2;cases this)) hrs
 .intro y H;rcases x_ H with H|rfl
  .exact hw y H
  .exact u
 .intro k tx htx L;rw[w?]at L;by_cases hi:g=k
  .subst hi;exact .inl hno
  .rw[aE hi]at L;refine .inr ⟨L,?_⟩;have hkc:k<c.size:=by
    have:=(B?.1 L).1;omega
   rw [D_];rcases F_ k g with κ|hge
   .rw[bk,C! an,D! κ,I?]
   .rw[D' an];simp only[a5,a6,I',E'];rw[G? U,B!,show g+1+(k-(g+1))=k from U,I?]
variable{s n:Nat}
theorem px(B:AR F0 w0 O a w G)(hd:d<a.tmps.size){hi:Operand}{E:AF}(hop:o.op=.slice t (.tmp s) W (Y hi) W)(hh:AJ hi E=X)(D:IZ P t=Y n)(h:(AE.cut n s E).wp S O (Y d) K):A2 P F0 w0 a w o d K:=by
 simp [AE.wp]at h;split at h
 .rename_i d' m es k hb L hs hv;simp at L;subst L;obtain⟨⟨hm,η,ζ⟩,h0,h2,hK⟩:=h;subst hm;have hr:=Ah B hs V;have hw:=B.wf s;rw[hs]at hw;simp[AK]at hr;obtain⟨xs,⟨z0,k1,k2⟩,k3,k4,k5⟩:=hr;have b2:=(Ax B hh hv).1;simp[Ap]at b2;unfold IZ at D;split at D
  .rename_i e hu;obtain⟨j,rfl⟩:∃j:Nat,hb=j:=⟨hb.toNat,U⟩;simp at hK;have θ:j<=es.length:=U
   have hlx:=k1.1;have key:∀(δ:Option Addr)(cap:Nat),slot a s=.slice δ es.length cap->es.length<=cap->(execOp a.eval o).run P w=.ok (.value (.slice (if cap=0 then δ else δ.map (·.add (0*m))) (j-0) (cap-0))) w:=by
    intro δ cap M N;have ε:=Tq (P:=P) (w:=w) (isS:=X) (lo:=W) (hi:=Y (a.eval hi)) (l:=0) (h:=(j:Int)) (len:=es.length) (cap:=cap) U U h2 N (.inl ⟨rfl,rfl⟩) (.inr ⟨k,by rw[b2]⟩);simp[execOp,hop,Instr.sliceAt,Instr.slice,run_underlying hu,show a.eval (.tmp s)=slot a s from rfl,M,ε,B7 D]
   have A:∀F' C env'(a':Act)(v:Value),Be w w (AW w0.heap.size F0 G) F'->C d W=G s W->Js w m v (es.take j).length (xs.take (j*m)) (G s W)->AK a' w F' C env' d (.xo m (es.take j)) v:=by
    intro F' C env' a' v u J H;simp only[AK];rw[J];refine⟨xs.take (j*m),H,?_,λe he=>k4 e (x? he),λx H=>k5 x (x? H)⟩;have hfl:∀(l:Fq)(j:Nat),(∀e∈l,e.cells.length=m)->(l.take j).flatMap TV.cells=(l.flatMap TV.cells).take (j*m):=by
     intro l
     induction l with
     |nil=>intro j _;simp|cons e l ih=>
      intro j R;cases j with
      |zero=>simp|succ j=>
       rw [List.take_succ_cons,v?,v?,ih j (λx H=>R x (by simp[H])),y!,R e V];have h1:(j+1)*m=m+j*m:=i9
       have h2:e.cells.take (m+j*m)=e.cells:=y? (by rw[R e V];omega);rw[h1,h2,show m+j*m-m=j*m from U]
    grind [Bf,As,a6]
   have κ:(EV.xo m (es.take j)).WF:=by
    simp only[EV.WF,TV.WF]at hw|-;refine⟨an,?_⟩;rw[Bn]at hw|-;exact λt D=>hw.2 t (x? D)
   have hjm:j*m<=es.length*m:=G! _ θ;rcases k1.2 with⟨M,N,e3⟩|⟨g,cap,cur,ty,M,N,e3,e4,e5,e6,e7⟩
   .have hes:es=[]:=w! N;subst hes;have hj:j=0:=by simpa using θ
    subst hj;refine⟨_,w,key W 0 (by simpa using M) V,_,_,hK,B.xgo hs hd ζ (z':=G s W) rfl rfl rfl (aN _) (λ_ _ _=>rfl) (λb lo I=>⟨(B.lt _ _ _ _ I).1,.inr ⟨lo,I⟩⟩) V (λ_=>η) (λF' C env' a' u J _=>A F' C env' a' _ u J ?_) κ⟩;refine⟨W,⟨V,.inl ⟨V,V,rfl⟩⟩,?_⟩;rw[k2,e3]
   .refine⟨_,w,key _ _ M e3,_,_,hK,B.xgo hs hd ζ (z':=G s W) rfl rfl rfl (aN _) (λ_ _ _=>rfl) (λb lo I=>⟨(B.lt _ _ _ _ I).1,.inr ⟨lo,I⟩⟩) V (λ_=>η) (λF' C env' a' u J _=>A F' C env' a' _ u J ?_) κ⟩;have R:(es.take j).length=j:=v_
    rw [R];refine⟨Y (g,j*m),⟨by rw[a6,hlx];omega,.inr ⟨g,cap,cur,ty,?_,N,U,e4,e5,?_,rfl⟩⟩,?_⟩
    .simp only[Nat.zero_mul,Nat.sub_zero,J_,Addr.add_zero'];split<;>rfl
    .rw[<-e6,List.take_take,G? hjm]
    .rw[k2,e7];rfl
  .cases D
 .exact h.elim
variable{v:Value}{z:Option (Nat×Nat)}
theorem aW{F:Nat->Nat->Prop}{es:Fq}{xs:List Value}(h:Js w n v es.length xs z)(g:AT w F (es.flatMap TV.cells) xs)(j:∀e∈es,e.cells.length=n)(k:∀x∈xs,x.oneCell'=X):Ap w (λ_ _=>False) (.list n es) v:=by
 obtain ⟨m,A,_⟩:=h;refine Bo.rep (z:=m) ?_ (λ_ _ _ _ _ h=>h);simp[Bo];exact⟨xs,A,As (λb o u l _=>⟨l,λh=>h⟩) _ _ g,j,k⟩
theorem Yj{F:Nat->Nat->Prop}:Be w w F (λ_ _=>False):=λ_ _ _ g _=>⟨g,λh=>h⟩
variable{c:AQ}
theorem sM(h:c.t.WF):c.Aa5.WF:=by
 obtain ⟨_|_,t⟩:=c
 .exact h
 .cases t<;>exact h
variable{i:Option Nat}{ρ:Hc}
theorem oV(j:AR F0 w0 O a w G){x:Value}(h:BE w (AW w0.heap.size F0 G) ρ (G s i) c x):Ap w (λ_ _=>False) c.Aa5 x:=by
 by_cases g:∃n es,c=⟨X,.xl n es⟩
 .obtain⟨n,es,rfl⟩:=g;simp[BE,D5]at h;obtain⟨xs,k,l,m,u⟩:=h;exact aW k l m u
 .have:c.Aa5=c.t:=by
   obtain ⟨_|_,t⟩:=c
   .rfl
   .cases t<;>first|rfl|exact absurd ⟨_,_,rfl⟩ g
  rw [this];exact B8 Yj _ _ (WW j h)
variable{b:Nat}
theorem cN(u:AR F0 w0 O a w G){cs:List AQ}(B:O.get s=.bx cs)(l:slot a s=.pointer (Y ⟨b,0,W⟩))(g:Nat):DD w (λ_ _=>False) ((cs.drop g).map AQ.Aa5) b g:=by
 have k:=Ah u B V;simp only[AK]at k;obtain⟨H,c,θ,m,C,I,J,D⟩:=k;rw[l]at m;simp at m;subst m;rw[Im];intro i t A;simp[E_,B!]at A;obtain⟨cell,j,rfl⟩:=A;obtain⟨x,E,k⟩:=D _ cell j;exact⟨x,by rw[cell_of_row w b (g+i) c θ (0,0) C];exact E,λh=>h,Gn k,oV u k⟩
theorem cO{cs:List AQ}(h:∀c∈cs,c.t.WF):TV.k7 (cs.map AQ.Aa5):=by grind[Bn,sM]
theorem oW(j:AR F0 w0 O a w G)(g:AJ x y=X){t:TV}(h:y.Abf O=Y t):Ap w (λ_ _=>False) t (a.eval x)/\t.WF:=by
 unfold AF.Abf at h;split at h
 .rename_i p H;simp at h;subst h;obtain⟨A,D⟩:=OY j g H
  grind [O6,aW]
 .have C:∀e,y.ev O=e->(∀t,e≠.tv t)->∃n,y=.s n/\x=.tmp n/\O.get n=e:=by
   intro e he B;cases y with
   |c t=>exact absurd he.symm (B t)|s n=>
    cases x<;>simp[AJ]at g;subst g;exact⟨_,rfl,rfl,he⟩
  split at h
  next cs he=>simp at h;subst h;obtain⟨n,rfl,rfl,k⟩:=C _ he V;have m:=Ah j k V;have u:=j.wf n;rw[k]at u;simp only[AK]at m;obtain⟨b,c,θ,A,_⟩:=m;refine⟨?_,cO u⟩;simp[Ap];exact⟨b,0,A,by simpa using cN j k A 0⟩
  .rename_i q l he;split at h
   next cs k=>simp only[kx]at h;subst h;obtain⟨n,rfl,rfl,hn⟩:=C _ he V;have m:=Ah j hn V;simp only[AK]at m;obtain⟨b,A,D⟩:=m ⟨cs,k⟩;have u:=j.wf q;rw[k]at u;refine⟨?_,cO (λc E=>u c (y_ E))⟩;simp only[Ap];exact⟨b,l,D,cN j k A l⟩
   .cases h
  .have:=Ax j g (t:=t) h;exact⟨B8 Yj _ _ this.1,this.2⟩
theorem U0(j:AR F0 w0 O a w G):∀{xs:List Operand}{ys:List AF},Bc xs ys=X->∀{ts:Fq},up O ys=Y ts->AT w (λ_ _=>False) ts (xs.map a.eval)/\TV.k7 ts
 |[],[],_,ts,hv=>by simp[up]at hv;subst hv;exact⟨rfl,trivial⟩|[],_::_,g,_,_=>by simp[Bc]at g|_::_,[],g,_,_=>by simp[Bc]at g|x::xs,y::ys,g,ts,hv=>by
  simp [Bc]at g;simp[up]at hv;split at hv
  next t m u h=>simp at hv;subst hv;have k:=oW j g.1 u;have l:=U0 j g.2 h;exact⟨⟨_,_,rfl,k.1,l.1⟩,k.2,l.2⟩
  .cases hv
variable{r:At}
theorem mW{w':World}{F F':Nat->Nat->Prop}{base:Nat}(g:r.Aab=X)(h:IJ w' F base r v):IJ w' F' base r v:=by
 cases r with
 |sh t=>exact RR t g v h|tp ts=>obtain⟨vs,k,j⟩:=h;exact⟨vs,k,FX ts g _ j⟩
 |own t=>
  obtain ⟨z,k,j⟩:=h;refine⟨z,?_,j⟩;cases t<;>simp[At.Aab]at g
  grind [Bo,FX,KP]
 |_=>simp[At.Aab]at g
theorem WA(h:r.Aab=X):r.plain=X:=by
 cases r<;>first|rfl|(simp[At.Aab]at h)
variable{f:FuncId}{ys:List AF}{ats:Array TypeId}{Q:Exit->Act->World->Prop}
theorem j8(l:AR F0 w0 O a w G)(hd:d<a.tmps.size)(j:o.dst=Y d){xs:Array Operand}(m:o.op=.call {callee:=.value (.func f),args:=xs,argTypes:=ats})(u:Bc xs.toList ys=X)(h:(AE.Aat f ys).wp (AV P) O (Y d) K)
  {next:Act->World->Prop}(hn:∀e env' a' w',K e env'->Q4 a d a'->Bs F0 w0 ((d,e)::env') a' w'->next a' w'):o.wp P a w next Q:=by
 simp [AE.wp]at h;cases g:up O ys with
 |none=>rw[g]at h;exact h.elim|some ts=>
  rw [g]at h;simp[Ai]at h;obtain⟨r,⟨D,A⟩,E⟩:=h;have hv:=U0 l u g;have k:(execOp a.eval o).run P w=(callFunc f (xs.map a.eval)).run P w:=by simp[execOp,m,resolve,Act.eval,Deferred.ofValue,invoke]
  obtain ⟨H,B⟩:=(D.to0 (WA A)) hv.2;obtain⟨C,B⟩:=B (λ_ _=>False) w (xs.map a.eval) j? l.below.now;unfold Oper.wp;rw[k,Ef H _,Oper.upon_enter];refine B.mono ?_;rintro e w' ⟨v,rfl,I,J⟩;simp[j];exact hn _ _ _ _ (E C) ⟨_,rfl⟩ (l.called hd I (WA A) (mW A J) C)
theorem ii{w:World}{F F':Nat->Nat->Prop}(g:c.Aab=X)(h:BE w F ρ z c v):BE w F' ρ z c v:=by
 obtain ⟨b,t⟩:=c;cases b with
 |false=>exact⟨RR t g v h.1,h.2⟩|true=>
  cases t<;>simp[AQ.Aab]at g;simp only[BE,D5]at h|-
  grind [Bo,FX,KP]
theorem lW{w:World}{F F' N:Nat->Nat->Prop}{cs:List AQ}(g:cs.all AQ.Aab=X)(h:SS w F N cs v):SS w F' N cs v:=by
 obtain ⟨Z,⟨vs,j,k,l⟩,m⟩:=h;exact⟨Z,⟨vs,j,k,λi d hd=>by obtain⟨x,u,A,B⟩:=l i d hd;exact⟨x,u,ii (D?.1 g d (w_ hd)) A,B⟩⟩,m⟩
theorem j7(l:AR F0 w0 O a w G)(hd:d<a.tmps.size)(A:o.dst=Y d){xs:Array Operand}(I:o.op=.call {callee:=.value (.func f),args:=xs,argTypes:=ats})(B:Bc xs.toList ys=X)(h:(AE.AaM f ys).wp (AV P) O (Y d) K)
  {next:Act->World->Prop}(hn:∀e env' a' w',K e env'->Q4 a d a'->Bs F0 w0 ((d,e)::env') a' w'->next a' w'):o.wp P a w next Q:=by
 simp only[AE.wp]at h;cases m:up O ys with
 |none=>rw[m]at h;exact h.elim|some ts=>
  rw [m]at h;simp only[Ai]at h;obtain⟨cs,⟨ζ,N⟩,hK⟩:=h;have D:(execOp a.eval o).run P w=(callFunc f (xs.map a.eval)).run P w:=by simp[execOp,I,resolve,Act.eval,Deferred.ofValue,invoke]
  have key:DR P f=X/\(∀c∈cs,c.t.WF)/\Calls P f (xs.map a.eval) w λe w'=>∃v,e=.returned v/\Below w.heap.size w w'/\SS w' (λb o=>b<w.heap.size/\AW w0.heap.size F0 G b o) (λb _=>w.heap.size<=b) cs v:=by
   rcases N with κ|hl
   .have hv:=Fo l B κ;obtain⟨E,R⟩:=(ζ.to0 rfl) hv.2;exact⟨E,R (AW w0.heap.size F0 G) w (xs.map a.eval) j? l.below.now⟩
   .have hv:=U0 l B m;obtain⟨E,R⟩:=(ζ.to0 rfl) hv.2;obtain⟨H,θ⟩:=R (λ_ _=>False) w (xs.map a.eval) j? l.below.now;exact⟨E,H,θ.mono λe w'⟨v,J,C,δ⟩=>⟨v,J,C,lW hl δ⟩⟩
  obtain ⟨E,H,θ⟩:=key;unfold Oper.wp;rw[D,Ef E _,Oper.upon_enter];refine θ.mono ?_;rintro e w' ⟨v,rfl,hb,Z,⟨vs,rfl,r1,r2⟩,r3,r5,ε⟩;simp only[A];refine hn _ _ _ _ (hK H) ⟨_,rfl⟩ ⟨_,l.quiet2 hb d hd (.vS cs) _ Z (λq i b lo η=>⟨(ε q i b lo η).2,(ε q i b lo η).1⟩) r3 V (λhag=>?_) H⟩;simp only[AK];refine⟨vs,rfl,r1,λi c L=>?_⟩;obtain⟨x,k1,k2,_⟩:=r2 i c L;refine⟨x,k1,?_⟩;have M:KL a w G d Z d (Y i)=Z 0 (Y i):=by simp[KL]
  rw [M];refine(k2.kept (λb o u L hf=>⟨L,λk=>hf ?_⟩) (λ_ _ _=>rfl) BI.rfl').po (λg lo j hg=>?_)
  .rcases k with k|⟨p,j,lo,J,C⟩
   .exact .inl ⟨F? k.1 l.below.size,.inl k⟩
   .rcases OZ J with⟨_,e⟩|⟨_,_,e⟩|⟨_,_,e⟩
    .exact .inr ⟨_,_,lo,e,C⟩
    .exact .inr ⟨_,_,lo,e,C⟩
    .exact .inl ⟨(l.lt _ _ _ _ e).1,.inr ⟨p,j,lo,e,C⟩⟩
  .have:=(ε _ _ _ _ hg).2;simp only[po,Bi,KL,DK.po];rw[aE U,QQ U];simp only[H!]
theorem Mn:∀{g:List (Option AQ)}{ts:Fq}{cs:List AQ},EM g ts=Y cs->cs.length=ts.length/\∀(i:Nat)(c:AQ),cs[i]?=Y c->∃t,ts[i]?=Y t/\(c=⟨T,t⟩\/(t=.nil/\∃n,c=⟨X,.list n []⟩\/c=⟨X,.xl n []⟩\/c=⟨X,.xn []⟩))
 |[],[],cs,h=>by simp[EM]at h;subst h;simp|[],_::_,cs,h=>by simp[EM]at h|none::g,[],cs,h=>by simp[EM]at h|some _::g,[],cs,h=>by simp[EM]at h|none::g,t::ts,cs,h=>by
  simp [EM]at h;split at h
  .rename_i cs' k;simp at h;subst h;obtain⟨l,m⟩:=Mn k
   grind
  .cases h
 |some u::g,t::ts,cs,h=>by
  cases t<;>simp[EM]at h<;>try cases h
  have key:∃cs' j,EM g ts=Y cs'/\cs=j::cs'/\∃n,j=⟨X,.list n []⟩\/j=⟨X,.xl n []⟩\/j=⟨X,.xn []⟩:=by
   grind
  obtain ⟨cs',j,k,rfl,hn⟩:=key;obtain⟨l,m⟩:=Mn k
  grind
theorem my(H:AR F0 w0 O a w G)(hd:d<a.tmps.size){I:List (Option AQ)}(k:o.op=.box t x)(l:AJ x y=X)(h:(AE.Aa7 I y).wp S O (Y d) K):A2 P F0 w0 a w o d K:=by
 simp [AE.wp]at h;split at h
 .rename_i u δ hv j;simp at j;subst j;cases A:EM I u.cells with
  |none=>rw[A]at h;exact h.elim|some cs=>
   rw [A]at h;simp[Ai]at h;obtain⟨C,κ⟩:=h;obtain⟨η,D⟩:=Mn A;have N:=Ax H l hv;have B:=GZ N.1;have R:=BJ B.1;refine⟨_,_,by simp[execOp,k,Instr.box,newVar,newRow],_,_,κ,H.box hd C (c:=(a.eval x).cells) (θ:=t) (by rw[η];simpa using R) (λF' m i c J=>?_) (λc J=>?_)⟩
   .obtain⟨ζ,M,E⟩:=D i c J;have ε:i<u.cells.length:=(B?.1 M).1;have L:(a.eval x).cells.toList[i]?=Y ((a.eval x).cells.toList[i]' U):=x! U;have g:=((Bf _ _).1 B.1).2 i ζ _ M L;refine⟨(a.eval x).cells.toList[i]' U,by rw[<-I?];exact L,?_⟩;rcases E with rfl|⟨rfl,n,rfl|rfl|rfl⟩
    .exact⟨B8 m _ _ g,B.2 _ (List.getElem_mem _)⟩
    .simp[Ap]at g;simp only[BE,D5,Bo];exact⟨[],⟨V,.inl ⟨g,rfl,rfl⟩⟩,rfl,V,V⟩
    .simp[Ap]at g;simp only[BE,D5];exact⟨[],⟨W,⟨V,.inl ⟨g,rfl,rfl⟩⟩,rfl⟩,rfl,V,V⟩
    .simp[Ap]at g;simp[BE,D5];exact⟨[],⟨W,⟨V,.inl ⟨g,rfl,rfl⟩⟩,rfl⟩,V,V⟩
   grind [C_,Bn,Hz,w_,TV.WF,TV.k7]
 .exact h.elim
theorem ZA(k:AR F0 w0 O a w G):∀{i:Nat}{xs:List Operand}{ys:List AF},Bc xs ys=X->∀{ts:Fq},FE O i ys=Y ts->(∀x,xs[i]?=Y x->(a.eval x).oneCell'=X)->AT w (AW w0.heap.size F0 G) ts (xs.map a.eval)/\TV.k7 ts
 |i,[],[],_,ts,hv,_=>by cases i<;>simp[FE]at hv<;>subst hv<;>exact⟨rfl,trivial⟩
 |_,[],_::_,g,_,_,_=>by simp[Bc]at g|_,_::_,[],g,_,_,_=>by simp[Bc]at g|0,x::xs,y::ys,g,ts,hv,ho=>by
  simp [Bc]at g;simp[FE]at hv;split at hv
  next l h=>simp at hv;subst hv;have j:=Fo k g.2 h;exact⟨⟨_,_,rfl,by simp[Ap];exact ho x rfl,j.1⟩,trivial,j.2⟩
  .cases hv
 |i+1,x::xs,y::ys,g,ts,hv,ho=>by
  simp [Bc]at g;simp[FE]at hv;split at hv
  next t l A h=>simp at hv;subst hv;have m:=Ax k g.1 A;have j:=ZA k g.2 h (λx u=>ho x e_);exact⟨⟨_,_,rfl,m.1,j.1⟩,m.2,j.2⟩
  .cases hv
noncomputable def Br(a:Act)(G:BV)(s:Nat):DK:=open Classical in λq i=>if q=0 then G s i else if∃k lo,G s k=Y (q-1,lo)then(match i with|some j=>G (a.tmps.size+(q-1)) (Y j)|none=>W)else W
theorem VU{a:Act}{G:BV}{b lo:Nat}(h:Br a G s q i=Y (b,lo)):(q=0/\G s i=Y (b,lo))\/(q≠0/\(∃k g,G s k=Y (q-1,g))/\G (a.tmps.size+(q-1)) i=Y (b,lo)):=by
 simp [Br]at h;split at h
 .grind
 .rename_i e;split at h
  .grind
  .cases h
theorem C9{a:Act}{G:BV}:Br a G s 0=G s:=by
 funext i;simp[Br]
theorem O8{a:Act}{G:BV}{s g lo:Nat}{k:Option Nat}(h:G s k=Y (g,lo))(j:Nat):(Br a G s).po g j=po a G g j:=by
 simp only[DK.po,Br,po];rw[aE U,QQ ⟨k,lo,c?⟩];rfl
theorem Jr(h:AR F0 w0 O a w G)(B:s<a.tmps.size):JA (Br a G s):=by
 intro q i C D b lo m u A;rcases VU u with⟨k,g⟩|⟨k,_,g⟩<;>rcases VU A with⟨l,j⟩|⟨l,_,j⟩
 .exact⟨by rw[k,l],(h.gB _ _ _ _ _ _ _ g j).2⟩
 .have:=(h.gB _ _ _ _ _ _ _ g j).1;omega
 .have:=(h.gB _ _ _ _ _ _ _ g j).1;omega
 .have:=h.gB _ _ _ _ _ _ _ g j
  grind
theorem CG{b lo:Nat}(l:Br a G s q i=Y (b,lo)):∃p j,G p j=Y (b,lo)/\(p=s\/∃g k h,p=a.tmps.size+g/\G s k=Y (g,h)):=by grind[VU]
noncomputable def CN(a:Act)(G:BV)(s d:Nat)(Z:DK):BV:=open Classical in λp=>if p=d then Z 0 else if p=s then λ_=>W else
 if a.tmps.size<=p/\∃k lo,Z 0 k=Y (p-a.tmps.size,lo)then(λi=>match i with|some j=>Z (p-a.tmps.size+1) (Y j)|none=>W)else
 if a.tmps.size<=p/\∃k lo,G s k=Y (p-a.tmps.size,lo)then λ_=>W else G p
variable{Z:DK}{p:Nat}
theorem PT{a:Act}{G:BV}{s d:Nat}{b lo:Nat}(h:CN a G s d Z p i=Y (b,lo)):
  (p=d/\Z 0 i=Y (b,lo))\/(p≠d/\a.tmps.size<=p/\Z (p-a.tmps.size+1) i=Y (b,lo))\/(p≠d/\p≠s/\¬(a.tmps.size<=p/\∃k lo,G s k=Y (p-a.tmps.size,lo))/\G p i=Y (b,lo)):=by
 simp [CN]at h;split at h
 next e=>exact .inl ⟨e,h⟩
 .rename_i e;split at h
  .cases h
  .rename_i g;split at h
   .rename_i l;cases i with
    |none=>cases h
    |some j=>exact .inr (.inl ⟨e,l.1,h⟩)
   .split at h
    .cases h
    next m=>exact .inr (.inr ⟨e,g,m,h⟩)
theorem AR.Aaf(h:AR F0 w0 O a w G){s d:Nat}(hsz:s<a.tmps.size)(hd:d<a.tmps.size){w':World}(ζ:Gd (Br a G s) w w'){env':AB}{a':Act}(ha':a'.tmps.size=a.tmps.size)(had:a'.defers=a.defers)
  (hzu:JA Z)(hz:∀q i b lo,Z q i=Y (b,lo)->b<w'.heap.size/\(w.heap.size<=b\/∃p j l,Br a G s p j=Y (b,l)/\l<=lo))
  (hdom:∀p,a.tmps.size<=p->env'.get p=.undef)(hwf:∀p,(env'.get p).WF)
  (D:∀p,p≠d->p≠s->slot a' p=slot a p)(N:∀p,p≠d->p≠s->env'.get p=O.get p)(hgs:s≠d->env'.get s=.undef)
  (m:O.ew d=X\/(d=s/\(∃cs0,O.get s=.bx cs0)/\O.noX s W=X/\(∀n es,env'.get d≠.xo n es)/\slot a' s=slot a s)\/((∀cs,env'.get d≠.bx cs)/\∀n es,env'.get d≠.xo n es))
  (hrep:∀F',(∀b o,F' b o->(b<w.heap.size/\AW w0.heap.size F0 G b o/\¬ZF (Br a G s) b o)\/ZF Z b o)->AK a' w' F' (CN a G s d Z) env' d (env'.get d) (slot a' d)):
  AR F0 w0 env' a' w' (CN a G s d Z)/\∀b o,AW w0.heap.size F0 (CN a G s d Z) b o->(b<w.heap.size/\AW w0.heap.size F0 G b o/\¬ZF (Br a G s) b o)\/ZF Z b o:=by
 have η:∀p i b lo,p≠s->¬(a.tmps.size<=p/\∃k lo,G s k=Y (p-a.tmps.size,lo))->G p i=Y (b,lo)->∀q j l,Br a G s q j≠Y (b,l):=by
  intro p i b lo I hn A q j l H;obtain⟨p',j',R,κ⟩:=CG H;obtain⟨rfl,_⟩:=h.gB _ _ _ _ _ _ _ A R;rcases κ with κ|⟨g,k,lo0,rfl,f3⟩
  .exact I κ
  .exact hn ⟨U,k,lo0,by rw[H!];exact f3⟩
 have hE:∀b o,b<w0.heap.size->ZF (Br a G s) b o->w0.E b o:=λb o hlt⟨q,i,lo,A,H⟩=>by
  obtain ⟨p,j,R,_⟩:=CG A;exact(h.lt _ _ _ _ R).2.elim (λe=>U) (λe=>e o H)
 have hforb:∀b o,AW w0.heap.size F0 (CN a G s d Z) b o->(b<w0.heap.size/\F0 b o)\/(∃p i lo,p≠s/\¬(a.tmps.size<=p/\∃k lo,G s k=Y (p-a.tmps.size,lo))/\G p i=Y (b,lo)/\lo<=o)\/ZF Z b o:=by
  rintro b o (A|⟨p,i,lo,A,H⟩)
  .exact .inl A
  .rcases PT A with⟨_,e⟩|⟨_,_,e⟩|⟨_,e1,e2,e3⟩
   .exact .inr (.inr ⟨_,i,lo,e,H⟩)
   .exact .inr (.inr ⟨_,i,lo,e,H⟩)
   grind
 have hall:∀b o,AW w0.heap.size F0 (CN a G s d Z) b o->(b<w.heap.size/\AW w0.heap.size F0 G b o/\¬ZF (Br a G s) b o)\/ZF Z b o:=by
  intro b o hf;rcases hforb b o hf with A|⟨p,i,lo,e1,e0,e2,e3⟩|A
  .exact .inl ⟨F? A.1 h.below.size,.inl A,λhz=>h.below.free _ _ _ (hE b o A.1 hz) A.2⟩
  .exact .inl ⟨(h.lt _ _ _ _ e2).1,.inr ⟨p,i,lo,e2,e3⟩,λ⟨q,j,l,R,_⟩=>η p i b lo e1 e0 e2 q j l R⟩
  .exact .inr A
 have hag:Be w w' (AW w0.heap.size F0 G) (AW w0.heap.size F0 (CN a G s d Z)):=by
  intro b o u hc hF;have hlt:b<w.heap.size:=World.block_lt_of_cell? w ⟨b,o,W⟩ hc;have hnf:¬ZF (Br a G s) b o:=λ⟨q,i,lo,A,H⟩=>by
   obtain ⟨p,j,R,_⟩:=CG A;exact hF (.inr ⟨p,j,lo,R,H⟩)
  refine ⟨ζ.cell b o u hnf hc,λhF'=>?_⟩;rcases hall b o hF' with⟨_,A,_⟩|⟨q,i,lo,A,H⟩
  .exact hF A
  .rcases(hz q i b lo A).2 with h3|⟨p,j,l,h3,h4⟩
   .omega
   .exact hnf ⟨p,j,l,h3,G_ h4 H⟩
 have hlow:∀p,p<a.tmps.size->p≠d->p≠s->CN a G s d Z p=G p:=by
  intro p hp A H;simp[CN];rw[aE A,aE H,aE (λe=>o_),aE (λe=>o_)]
 refine ⟨⟨?_,?_,?_,had.trans h.defers,λp hp=>hdom p U,?_,hwf⟩,hall⟩
 .intro p i p' i' b lo l e1 e2;have mix:∀p i q i' lo l,p≠s->¬(a.tmps.size<=p/\∃k lo,G s k=Y (p-a.tmps.size,lo))->G p i=Y (b,lo)->Z q i'=Y (b,l)->False:=by
   intro p i q i' lo l hp hn R κ;rcases(hz q i' b l κ).2 with h3|⟨p2,j,θ,h3,_⟩
   .have:=(h.lt _ _ _ _ R).1;omega
   .exact η p i b lo hp hn R p2 j θ h3
  rcases PT e1 with⟨R,M⟩|⟨R,f3,M⟩|⟨_,f3,f4,M⟩<;>rcases PT e2 with⟨κ,g2⟩|⟨κ,f5,g2⟩|⟨_,f5,f6,g2⟩
  .exact⟨by rw[R,κ],(hzu _ _ _ _ _ _ _ M g2).2⟩
  .have:=(hzu _ _ _ _ _ _ _ M g2).1;omega
  .exact(mix _ _ _ _ _ _ f5 f6 g2 M).elim
  .have:=(hzu _ _ _ _ _ _ _ M g2).1;omega
  .have:=hzu _ _ _ _ _ _ _ M g2;exact⟨U,this.2⟩
  .exact(mix _ _ _ _ _ _ f5 f6 g2 M).elim
  .exact(mix _ _ _ _ _ _ f3 f4 M g2).elim
  .exact(mix _ _ _ _ _ _ f3 f4 M g2).elim
  .exact h.gB _ _ _ _ _ _ _ M g2
 .intro p i b lo e1;have znew:∀q i,Z q i=Y (b,lo)->b<w'.heap.size/\(w0.heap.size<=b\/∀o,lo<=o->w0.E b o):=by
   intro q i R;obtain⟨A,H⟩:=hz q i b lo R;refine⟨A,?_⟩;rcases H with H|⟨p,j,l,H,h3⟩
   .exact .inl (G_ h.below.size H)
   .obtain⟨p',j',κ,_⟩:=CG H;exact(h.lt _ _ _ _ κ).2.imp id (λe o ho=>e o (G_ h3 ho))
  rcases PT e1 with⟨_,M⟩|⟨_,_,M⟩|⟨_,_,_,M⟩
  .exact znew _ _ M
  .exact znew _ _ M
  .exact⟨F? (h.lt _ _ _ _ M).1 ζ.size,(h.lt _ _ _ _ M).2⟩
 .refine h.below.trans ζ.os ζ.tape ζ.output ζ.size (λk hk he=>ζ.block k (F? hk h.below.size) (λq i lo ε=>he lo (hE k lo hk ⟨q,i,lo,ε,aN _⟩))) (λb o u hlt he hu=>ζ.cell b o u (λε=>he (hE b o hlt ε)) hu)
 .intro p hp;rw[ha']at hp;by_cases hpd:p=d
  .subst hpd;exact hrep _ hall
  .by_cases I:p=s
   .subst I;rw[hgs hpd];trivial
   .rw[N p hpd I,D p hpd I];have hn:¬(a.tmps.size<=p/\∃k lo,G s k=Y (p-a.tmps.size,lo)):=λe=>o_
    have hsame:∀r,(r≠d->r≠s)->r≠d->slot a' r=slot a r:=λr A H=>D r H (A H);refine AK.kept' hag (λi=>by rw[hlow p hp hpd I]) (λi b lo ε=>ζ.block b (h.lt _ _ _ _ ε).1 (λq j l=>η p i b lo I hn ε q j l)) (λi g lo j hg=>?_) (λi g lo j b l hg L=>?_) (λr i k L⟨pp,J⟩=>?_) (λr off L⟨cs2,hcs⟩=>?_) (λr i L⟨pp,J⟩=>?_) (h.slots p hp)
    .show CN a G s d Z (a'.tmps.size+g) (Y j)=G (a.tmps.size+g) (Y j);rw[ha'];simp[CN];rw[aE U,aE U,aE,aE]
     .rintro⟨_,k,l,e⟩;rw[H!]at e;exact I (h.gB _ _ _ _ _ _ _ hg e).1
     .rintro⟨_,k,l,e⟩;rw[H!]at e;rcases(hz _ _ _ _ e).2 with h3|⟨p2,j2,θ,h3,_⟩
      .have:=(h.lt _ _ _ _ hg).1;omega
      .exact η p i g lo I hn hg p2 j2 θ h3
    .refine ζ.block b (h.lt _ _ _ _ L).1 (λq j2 θ hzf=>?_);obtain⟨p',j',R,κ⟩:=CG hzf;obtain⟨e1,_⟩:=h.gB _ _ _ _ _ _ _ L R;rcases κ with κ|⟨g',k,lo0,f3,f4⟩
     .omega
     .have:g=g':=U
      subst this;exact I (h.gB _ _ _ _ _ _ _ hg f4).1
    .obtain⟨cs,A,H⟩:=AB.og J;by_cases B:r=d
     .subst B;rcases m with m|⟨rfl,_,m,_⟩|⟨m,_⟩
      .exact absurd L (AB.Aa2 _ O m p i k)
      .exact absurd L (AB.noX_nh m p i (.inl rfl) k)
      .exact absurd A (m cs)
     .by_cases C:r=s
      .subst C;rw[hgs B]at A;cases A
      .have h4:O.nat r i=Y pp:=by rw[<-J];exact(AB.Aaa (N r B C)).symm
       have hrl:r<a.tmps.size:=h.lts (by rw[<-N r B C,A];simp);exact⟨⟨pp,h4⟩,h.nh ⟨pp,h4⟩ (D r B C) (λj b _ δ=>ζ.block b (h.lt _ _ _ _ δ).1 (λq j2 θ=>η r j b 0 C (λe=>o_) δ q j2 θ))⟩
    .by_cases B:r=d
     .subst B;rcases m with m|⟨e1,⟨cs0,e2⟩,_,_,hds⟩|⟨m,_⟩
      .exact absurd L (AB.Aav _ O m p off)
      .exact⟨⟨cs0,by rw[e1];exact e2⟩,by rw[e1];exact hds⟩
      .exact absurd hcs (m cs2)
     .by_cases C:r=s
      .subst C;rw[hgs B]at hcs;cases hcs
      .exact⟨⟨cs2,by rw[<-N r B C];exact hcs⟩,D r B C⟩
    .by_cases B:r=d
     .subst B;obtain⟨n,es⟩:=pp;rcases m with m|⟨rfl,_,m,hxo,_⟩|⟨m,hxo⟩
      .have hx:=AB.AaB _ O m p;rcases L with L|⟨c,L⟩
       .exact absurd L (hx.1 i)
       .exact absurd L (hx.2 i c)
      .cases i with
       |none=>exact absurd (AB.o4 J) (hxo n es)|some k=>
        have h5:=AB.noX_spec m p k (.inl rfl);rcases L with L|⟨c,L⟩
        .exact absurd L h5.1
        .exact absurd L (h5.2 c)
      .cases i with
       |none=>exact absurd (AB.o4 J) (hxo n es)|some k=>
        obtain ⟨cs,A,_⟩:=AB.l3 J;exact absurd A (m cs)
     .by_cases C:r=s
      .subst C;rw[AB.Aaq (hgs B)]at J;cases J
      .have h4:O.ln r i=Y pp:=by rw[<-J];exact(AB.wm (N r B C)).symm
       have hrl:r<a.tmps.size:=by
        refine h.lts (λe=>?_);rw[AB.Aaq e]at h4;cases h4
       exact ⟨⟨pp,h4⟩,h.xv ⟨pp,h4⟩ (D r B C) (λb δ=>ζ.block b (h.lt _ _ _ _ δ).1 (λq j2 θ=>η r W b 0 C (λe=>o_) δ q j2 θ))⟩
theorem Qh{a a':Act}{G:BV}{s d:Nat}(l:a'.tmps.size=a.tmps.size)(hd:d<a.tmps.size)(m:s<a.tmps.size){k:Option Nat}{g lo:Nat}(h:Z 0 k=Y (g,lo))(j:Nat):po a' (CN a G s d Z) g j=Z.po g j:=by
 show CN a G s d Z (a'.tmps.size+g) (Y j)=Z.po g j;rw[l];simp only[CN,DK.po];rw[aE U,aE U,QQ ⟨U,k,lo,by rw[H!];exact h⟩]
 grind
theorem AR.reboxed(h:AR F0 w0 O a w G){cs cs':List AQ}(J:O.get s=.bx cs)(C:O.noX s W=X){w':World}(L:Gd (Br a G s) w w')
  (l:NZ w' (λb o=>(b<w.heap.size/\AW w0.heap.size F0 G b o/\¬ZF (Br a G s) b o)\/ZF Z b o) Z cs' (slot a s))
  (D:JA Z)(M:∀q i b lo,Z q i=Y (b,lo)->b<w'.heap.size/\(w.heap.size<=b\/∃p j m,Br a G s p j=Y (b,m)/\m<=lo))(N:∀c∈cs',c.t.WF):
  AR F0 w0 ((s,.bx cs')::O) a w' (CN a G s s Z)/\∀b o,AW w0.heap.size F0 (CN a G s s Z) b o->(b<w.heap.size/\AW w0.heap.size F0 G b o/\¬ZF (Br a G s) b o)\/ZF Z b o:=by
 have k:s<a.tmps.size:=Bg h J V;have A:AB.get ((s,EV.bx cs')::O) s=.bx cs':=by rw[AB.d3,QQ rfl]
 refine h.Aaf k k L rfl rfl D M (λp R=>by rw[AB.d3,aE U];exact h.dom p R) (λp=>?_) (λ_ _ _=>rfl) (λp _ E=>by rw[AB.d3,aE (λe=>E e.symm)]) (λe=>absurd rfl e) (.inr (.inl ⟨rfl,⟨cs,J⟩,C,(λn es e=>by rw[A]at e;cases e),rfl⟩)) (λF' H=>?_)
 .rw[AB.d3];split
  .exact N
  .exact h.wf p
 .rw[A];obtain⟨b,c,θ,η,ζ,δ,h4,h5⟩:=l;have B:CN a G s s Z s=Z 0:=by simp[CN]
  simp only[AK];refine⟨b,c,θ,η,ζ,δ,by rw[B];exact h4,λi d hd=>?_⟩;obtain⟨x,e1,e2⟩:=h5 i d hd;refine⟨x,e1,?_⟩;rw[B];exact(e2.kept (λb o u ε hf=>⟨ε,λI=>hf (H b o I)⟩) (λ_ _ _=>rfl) BI.rfl').po (λg lo j κ=>Qh rfl k k κ j)
theorem jy(k:AR F0 w0 O a w G)(hd:d<a.tmps.size)(L:o.dst=Y d){xs:Array Operand}{i:Nat}(hop:o.op=.call {callee:=.value (.func f),args:=xs,argTypes:=ats})(M:Bc xs.toList ys=X)(h:(AE.wi f ys i).wp (AV P) O (Y d) K)
  {next:Act->World->Prop}(hn:∀e env' a' w',K e env'->Q4 a d a'->Bs F0 w0 ((d,e)::env') a' w'->next a' w'):o.wp P a w next Q:=by
 simp only[AE.wp]at h;split at h
 .rename_i d' s R D;simp at R;subst R;split at h
  .rename_i cs ε;obtain⟨⟨hno,hds⟩,h⟩:=h;cases H:FE O i ys with
   |none=>rw[H]at h;exact h.elim|some ts=>
    rw [H]at h;simp only[Ai]at h;obtain⟨cs',m,hS,hK⟩:=h;rw[J!]at D;obtain⟨y,hy,D⟩:=D;have hxi:∀(xs:List Operand)(ys:List AF)(i:Nat)(y:AF),Bc xs ys=X->ys[i]?=Y y->∃x,xs[i]?=Y x/\AJ x y=X:=by
     intro xs
     induction xs with
     |nil=>intro ys i y A B;cases ys<;>simp[Bc]at A B
     |cons x xs ih=>
      intro ys i y A B;cases ys with
      |nil=>simp[Bc]at A|cons z ys=>
       simp [Bc]at A
       grind
    obtain ⟨x,hx,hxy⟩:=hxi _ _ _ _ M hy;obtain⟨b,hsl,C⟩:=HC k hxy D ε;have hv:=ZA k M H (λx' N=>by rw[hx]at N;cases N;rw[C];rfl);have κ:=k.wf s;rw[ε]at κ;have hbx:=Ah k ε V;have hsplit:∀b o,AW w0.heap.size F0 G b o↔((AW w0.heap.size F0 G b o/\¬ZF (Br a G s) b o)\/ZF (Br a G s) b o):=by
     intro b o;constructor
     .grind
     .rintro(hf|⟨q,i,lo,A,B⟩)
      .exact hf.1
      .obtain⟨p,j,I,_⟩:=CG A;exact .inr ⟨p,j,lo,I,B⟩
    have hF:(λb o=>(AW w0.heap.size F0 G b o/\¬ZF (Br a G s) b o)\/ZF (Br a G s) b o)=AW w0.heap.size F0 G:=by
     grind
    obtain ⟨B,h3⟩:=hS hv.2 κ;have hbr:NZ w (λb o=>(AW w0.heap.size F0 G b o/\¬ZF (Br a G s) b o)\/ZF (Br a G s) b o) (Br a G s) cs (slot a s):=by
     rw [hF];obtain⟨b,c,θ,A,B,h3,h4,h5⟩:=hbx;refine⟨b,c,θ,A,B,h3,by rw[C9];exact h4,λi d hd=>?_⟩;obtain⟨x,e1,e2⟩:=h5 i d hd;exact⟨x,e1,by rw[C9];exact e2.po (λg lo j hg=>O8 hg j)⟩
    obtain ⟨⟨k1,k2⟩,k3⟩:=h3 (λb o=>AW w0.heap.size F0 G b o/\¬ZF (Br a G s) b o) w (xs.map a.eval) (slot a s) (Br a G s) (by rw[hF];simpa using hv.1)
     (by rw[Array.getElem?_map];rw[<-I?,hx];simp;rw[C,hsl]) hbr (Jr k (Bg k ε V)) (λq i b lo e=>by obtain⟨p,j,I,_⟩:=CG e;exact(k.lt _ _ _ _ I).1)
     (by
      rintro b o o' ⟨q,i,lo,e1,e2⟩ ⟨hf,hnz⟩;by_cases hlo:lo<=o'
      .exact hnz ⟨q,i,lo,e1,hlo⟩
      .obtain⟨p,j,I,_⟩:=CG e1;exact Ou k b lo o' I U hf)
     ⟨k.below.now,λb o⟨_,_,_,e,_⟩=>by obtain⟨_,_,I,_⟩:=CG e;exact k.low I⟩
    have η:(execOp a.eval o).run P w=(callFunc f (xs.map a.eval)).run P w:=by simp[execOp,hop,resolve,Act.eval,Deferred.ofValue,invoke]
    unfold Oper.wp;rw[η,Ef B _,Oper.upon_enter];refine k3.mono ?_;rintro e w' ⟨r,J,rfl,r1,r2,r3,r4,r5⟩;simp[L];obtain⟨δ,E⟩:=k.reboxed ε hno r1 r2 r3 r4 k1;refine hn _ _ _ _ (hK ⟨k1,k2⟩) ⟨_,rfl⟩ ?_;have ζ:∀b o,AW w0.heap.size F0 (I8 (CN a G s s J) d λ_=>W) b o->(b<w.heap.size/\AW w0.heap.size F0 G b o/\¬ZF (Br a G s) b o)\/ZF J b o:=by
     intro b o hf;have hf2:AW w0.heap.size F0 (CN a G s s J) b o:=AW.mono (λp i b lo D=>by
      by_cases hpd:p=d
      .grind[Bv]
      .rw[BD _ _ _ _ hpd]at D;exact⟨p,i,lo,D,aN _⟩) hf
     exact E b o hf2
    have l:Be w' w' (λb o=>(b<w.heap.size/\AW w0.heap.size F0 G b o/\¬ZF (Br a G s) b o)\/ZF J b o) (AW w0.heap.size F0 (I8 (CN a G s s J) d λ_=>W)):=λb o u hc hf=>⟨hc,λE=>hf (ζ b o E)⟩;by_cases hus:∃t,m=[t]
    .obtain⟨t,rfl⟩:=hus;exact δ.tv (Below.refl _ _) d hd t r (B8 l t r r5) k2.1
    .have hof:EV.ofs m=.tp m:=by
      rcases m with _|⟨t,_|⟨t',m⟩⟩
      .rfl
      .grind
      .rfl
     have hur:∃vs,r=.tuple vs/\AT w' (λb o=>(b<w.heap.size/\AW w0.heap.size F0 G b o/\¬ZF (Br a G s) b o)\/ZF J b o) m vs.toList:=by
      rcases m with _|⟨t,_|⟨t',m⟩⟩
      .exact r5
      .grind
      .exact r5
     obtain ⟨vs,rfl,hvs⟩:=hur;rw[hof];refine⟨_,δ.quiet (Below.refl _ _) d hd (.tp m) _ (λ_=>W) V V V ?_ k2⟩;simp only[AK];exact⟨vs,rfl,As l m _ hvs⟩
  .exact h.elim
 .exact h.elim
end
end Go.Sf
namespace Go.Sf
open Go.RowKit (Below)
theorem Kb{z g:Value}(h:z.cells=#[g])(k:Nat):Builtin.zeroCells z.cells k=(A! k g).toArray:=by
 rw [h];apply Array.ext
 .simp[Builtin.zeroCells]
 .intro i j l;simp[Builtin.zeroCells,Nat.mod_one]
section
variable{P:Program}{w:World}
theorem Ss(t tn ty e L:TypeId)(i:TypeInfo)(z H:Value)(ε kn:IntKind)(M:P.underlying t=Y (.slice e))(B:P.underlying tn=Y (.int kn))(hi:P.info? e=Y i)(κ:i.zero=Y z)(N:i.size=1)(I:z.cells=#[H])(η:H.oneCell'=X)
  (g h j:Nat)(l:Array Value)(ζ:w.heap[g]?=Y (.cells l L (0,0)))
  (k:Nat)(δ:k*i.bytes<=281474976710656)(R:(k:Int)<=9223372036854775807)(A:h+k<=j)(C:h+k<=l.size):
  (Builtin.append_ #[t,tn] ty #[.slice (Y ⟨g,0,W⟩) h j,.int ε k]).run P w=
   .ok (.slice (Y ⟨g,0,W⟩) (h+k) j) (w.setRow g (l.toList.take h++A! k H++l.toList.drop (h+k)).toArray):=by
 have hw:IntKind.i64.wrap (k:Int)=k:=by rw[IntKind.wrap_i64];omega
 have D:¬((k:Int)<0):=U
 have E:¬(281474976710656<(k:Int)*(i.bytes:Int)):=by
  grind
 have m:=run_storeCells_at P g h L (A! k H) 0 l w ζ (by simpa using C) (λu hu=>by rw[B' hu];exact η);simp at m;by_cases θ:k=0
 .subst θ;simp at m;have J:IntKind.i64.wrap 0=0:=a_
  simp [Builtin.append_,run_underlying M,run_underlying B,sizeOf,typeInfo,hi,asInt,asIntOf,J,N,show h<=j from U,Addr.add_lit,m]
 .simp[Builtin.append_,run_underlying M,run_underlying B,sizeOf,typeInfo,zeroValue,hi,κ,asInt,asIntOf,hw,D,E,N,θ,A,Addr.add_lit,Kb I,m]
theorem UY(t tn ty e:TypeId)(i:TypeInfo)(h kn:IntKind)(j:P.underlying t=Y (.slice e))(g:P.underlying tn=Y (.int kn))(hi:P.info? e=Y i):
  (Builtin.append_ #[t,tn] ty #[.slice W 0 0,.int h 0]).run P w=.ok (.slice W 0 0) w:=by
 have k:IntKind.i64.wrap 0=0:=a_
 simp [Builtin.append_,run_underlying j,run_underlying g,sizeOf,typeInfo,hi,asInt,asIntOf,k]
theorem pL(t tn ty e:TypeId)(i:TypeInfo)(z κ:Value)(δ kn:IntKind)(ht:P.underlying t=Y (.slice e))(J:P.underlying tn=Y (.int kn))(hi:P.info? e=Y i)(hz:i.zero=Y z)
  (hs:i.size=1)(hby:i.bytes<=4096)(B:z.cells=#[κ])(h1:κ.oneCell'=X)(v:Value)(len:Nat)(xs:List Value)(zo:Option (Nat×Nat))(l:Fx w 1 v len xs zo)(k:Nat)(hk:k<=4096)(M:len+k<=AY):
  ∃v' w' z',(Builtin.append_ #[t,tn] ty #[v,.int δ k]).run P w=.ok v' w'/\Fx w' 1 v' (len+k) (xs++A! k κ) z'/\Iv w w' zo z':=by
 have m:(xs++A! k κ).length=(len+k)*1:=by rw[a5,l.1,B_];omega
 have L:(len+k)*i.bytes<=140737488355328:=by
  calc (len+k)*i.bytes<=AY*4096:=H_ M hby
   _<=140737488355328:=a_
 have N:k*i.bytes<=281474976710656:=by
  grind
 have hml:len+k<=maxLen:=by simp[maxLen,AY]at *;omega
 have hzlt:∀b lo,zo=Y (b,lo)->b<w.heap.size:=by
  intro b lo I;rcases l.2 with⟨_,_,h⟩|⟨g,cap,E,ε,_,hg,_,_,_,_,h⟩
  .rw[h]at I;cases I
  grind
 have C:∀(old:Nat),old<len+k ->
   Fx (w.drew.alloc (.cells (xs.toArray++Builtin.zeroCells z.cells k++Builtin.zeroCells z.cells (grownCap w (len+k) old e-(len+k))) e)) 1
    (.slice (Y ⟨w.heap.size,0,W⟩) (len+k) (grownCap w (len+k) old e)) (len+k) (xs++A! k κ) (Y (w.heap.size,(len+k)*1))/\
   Iv w (w.drew.alloc (.cells (xs.toArray++Builtin.zeroCells z.cells k++Builtin.zeroCells z.cells (grownCap w (len+k) old e-(len+k))) e)) zo (Y (w.heap.size,(len+k)*1)):=by
  intro old ho;have hge:=grownCap_ge w (len+k) old e;have R:grownCap w (len+k) old e<=maxLen:=grownCap_le_maxLen w (len+k) old e hml;have hxl:xs.length=len:=by simpa using l.1
  refine ⟨⟨m,.inr ⟨w.heap.size,_,_,e,rfl,heap_alloc_new w.drew _,hge,R,?_,?_,rfl⟩⟩,⟨rfl,rfl,rfl,V,λk hk _=>Below.heap_alloc w.drew _ k hk,λb o v η _=>?_,λb lo I=>?_⟩⟩
  .rw[Kb B,Kb B];simp[hxl];omega
  .rw[Kb B,Kb B];simp only[Array.toList_append,bk];rw[<-bk,<-m];exact E!
  .have I:b<w.heap.size:=World.block_lt_of_cell? w ⟨b,o,W⟩ η;rw[World.cell?_alloc_lt _ _ (a:=⟨b,o,W⟩) (by simpa using I)];simpa using η
  .simp at I;rw[<-I.1];exact⟨V,.inl (aN _)⟩
 rcases l.2 with⟨rfl,rfl,rfl⟩|⟨g,cap,E,ε,rfl,hg,hnc,R,hcs,H,rfl⟩
 .have hx:xs=[]:=w! (by simpa using l.1);subst hx;by_cases hk0:k=0
  .subst hk0;exact⟨_,_,W,UY t tn ty e i δ kn ht J hi,⟨V,.inl ⟨rfl,rfl,rfl⟩⟩,Iv.refl w W V⟩
  .have ζ:=Lib.run_append_nil_zeros (P:=P) w t tn ty e i z δ kn ht J hi hz k U U U N;have A:=C 0 U;simp only[H?,List.nil_append,Array.empty_append]at A ζ|-;exact⟨_,_,_,ζ,A.1,A.2⟩
 .have hxl:xs.length=len:=by simpa using l.1
  simp at hcs H;by_cases D:len+k<=cap
  .have ζ:=Ss (P:=P) (w:=w) t tn ty e ε i z κ δ kn ht J hi hz hs B h1 g len cap E hg k N U D U;refine⟨_,_,Y (g,(len+k)*1),ζ,⟨m,.inr ⟨g,cap,_,ε,rfl,setRow_heap w g E _ ε _ hg,D,R,?_,?_,rfl⟩⟩,⟨rfl,rfl,rfl,V,λj _ hj=>setRow_other w g j _ (λe=>hj (len*1) (by rw[e])),λb o u η hlo=>?_,λb lo I=>?_⟩⟩
   .simp;omega
   .rw[H,<-m];exact E!
   .by_cases hbg:b=g
    .subst hbg;have ho:=hlo (len*1) rfl;rw[cell_of_row _ b o _ ε (0,0) (setRow_heap w b E _ ε _ hg)];rw[cell_of_row w b o E ε (0,0) hg]at η;rw[D_,bk,C! an,D! U];simpa using η
    .rw[World.cell?_of_block (w:=w) (a:=⟨b,o,W⟩) (setRow_other w g b _ (λe=>hbg e))];exact η
   .simp only[kx,Prod.mk.injEq]at I;obtain⟨rfl,rfl⟩:=I;refine⟨by simpa using hzlt g (len*1) rfl,.inr ⟨len*1,rfl,G! _ U⟩⟩
  .have θ:(Builtin.firstCells i.size len (.slice (Y ⟨g,0,W⟩) len cap)).run P w.drew=.ok xs.toArray w.drew:=by
    refine run_firstCells_some (P:=P) w.drew i.size len ⟨g,0,W⟩ len cap xs (by rw[hs];omega) (λj u hu=>?_);rw[Addr.add_lit,H?];have:=l.cell rfl j u hu;simpa using this
   have ζ:=Lib.run_append_grow_zeros (P:=P) w t tn ty e i z δ kn ht J hi hz (Y ⟨g,0,W⟩) len cap xs θ k U U U (by simp[AY]at M;omega) N (growslice_fits U L);have A:=C cap U;exact⟨_,_,_,ζ,A.1,A.2⟩
end
def Operand.Abn(n:Nat):Operand->Bool
 |.tmp m=>m==n|_=>T
variable{n:Nat}{x:Operand}
theorem Operand.isTmp_eq'(h:Operand.Abn n x=X):x=.tmp n:=by
 cases x<;>simp[Operand.Abn]at h;rw[h]
def lZ(P:Program)(n s:Nat)(z:TV)(x:AF)(c:Call):Bool:=
 match c.callee,c.args.toList,c.argTypes.toList with
 |.builtin .append,[p,q],[t,t']=>Operand.Abn s p&&AJ q x&&(match P.underlying t,P.underlying t' with
  |some (.slice e),Y (.int _)=>(match P.info? e with
   |some i=>(match i.zero with
    |some zz=>(match zz.cells.toList with
     |[z0]=>n==1&&i.size==1&&decide (i.bytes<=4096)&&D9 z z0&&z0.oneCell'|_=>T)
    |none=>T)
   |none=>T)
  |_,_=>T)
 |_,_,_=>T
section
variable{P:Program}{S:FuncId->Fq->At->Prop}{F0:Nat->Nat->Prop}{w0:W0}{O:AB}{a:Act}{w:World}{G:BV}{d:Nat}{o:Oper}{K:EV->AB->Prop}
variable{s:Nat}{x:Operand}{y:AF}{t t' e:TypeId}
theorem ms(R:AR F0 w0 O a w G)(hd:d<a.tmps.size){kn:IntKind}{i:TypeInfo}{θ B:Value}{z:TV}(ε:o.op=.call {callee:=.builtin .append,args:=#[.tmp s,x],argTypes:=#[t,t']})
  (ht:P.underlying t=Y (.slice e))(κ:P.underlying t'=Y (.int kn))(hi:P.info? e=Y i)(l:i.zero=Y θ)(η:i.size=1)(ζ:i.bytes<=4096)(δ:θ.cells=#[B])(E:D9 z B=X)(h1:B.oneCell'=X)
  (hok:AJ x y=X)(h:(AE.AaX 1 s z y).wp S O (Y d) K):A2 P F0 w0 a w o d K:=by
 simp [AE.wp]at h;split at h
 .rename_i d' m es kk j H hs hy;simp at H;subst H;obtain⟨⟨⟨rfl,_⟩,J⟩,⟨h0,h4⟩,⟨g,hno,hds⟩,hK⟩:=h;obtain⟨k,rfl⟩:∃k:Nat,j=k:=⟨j.toNat,U⟩;simp at g hK;have A:=Ah R hs V;have C:=R.wf s;rw[hs]at C;simp[AK]at A;obtain⟨xs,⟨zo,k1,L⟩,k2,k3,k4⟩:=A;have hv:=(Ax R hok hy).1;simp[Ap]at hv;obtain⟨v',w',z',M,r1,D⟩:=pL (P:=P) t t' o.type e i θ B kk kn ht κ hi l η ζ δ h1 (slot a s) es.length xs zo k1 k U g;have hnz:∀k,(∀lo,G s W≠Y (k,lo))->∀lo,zo≠Y (k,lo):=λk hk lo l=>hk 0 (by rw[L,l];rfl);have hfm:∀k,(A! k z).flatMap TV.cells=A! k z:=by
   intro k
   induction k with
   |zero=>rfl|succ k ih=>rw[A?,v?,ih,J];rfl
  refine ⟨v',w',?_,_,_,hK,R.xgo hs hd hds (z':=z'.map λp=>(p.1,0)) D.os D.tape D.output D.size (λk hk l=>D.other k hk (hnz k l)) (λb lo l=>?_) V (λ_=>hno) (λF' G' env' a' hag hG _=>?_) ?_⟩
  .simp[execOp,ε,resolve,invoke,builtin,show a.eval (.tmp s)=slot a s from rfl,hv,M]
  .cases z' with
   |none=>simp at l|some p=>
    simp at l;obtain⟨q1,N⟩:=D.Abo p.1 p.2 rfl;rw[<-l.1];refine⟨q1,?_⟩;rcases N with N|⟨lo',N,_⟩
    .exact .inl N
    .exact .inr ⟨0,by rw[L,N];rfl⟩
  .simp only[AK];rw[hG];refine⟨xs++A! k B,⟨z',by rw[a5,B_];exact r1,rfl⟩,?_,?_,?_⟩
   .rw[A_,hfm];refine ID (As hag _ _ k2) ?_;rw[Bf];refine⟨V,λi u v hu hv=>?_⟩;rw[B' (w_ hu),B' (w_ hv)];exact(HK _ F' z B E).1
   .intro e he;rcases A'.1 he with he|he
    .exact k3 e he
    .rw[B' he,J];rfl
   .intro x I;rcases A'.1 I with I|I
    .exact k4 x I
    .rw[B' I];exact h1
  .simp only[EV.WF,TV.WF]at C|-;refine⟨by rw[a5,B_];exact U3 g,KJ.2 ⟨C.2,?_⟩⟩;rw[Bn];intro u hu;rw[B' hu];exact(HK w (λ_ _=>False) z B E).2
 .exact h.elim
variable{f:FuncId}{ys:List AF}{ats:Array TypeId}
theorem j6(l:AR F0 w0 O a w G)(hd:d<a.tmps.size){xs:Array Operand}(j:o.op=.call {callee:=.value (.func f),args:=xs,argTypes:=ats})(k:Bc xs.toList ys=X)(h:(AE.AaL f ys).wp (AV P) O (Y d) K):A2 P F0 w0 a w o d K:=by
 simp [AE.wp]at h;cases g:vals O ys with
 |none=>rw[g]at h;exact h.elim|some ts=>
  rw [g]at h;simp[Ai]at h;obtain⟨m,u,A⟩:=h;have hv:=Fo l k g;obtain⟨⟨E,B⟩,C⟩:=u hv.2;obtain⟨r,D,H⟩:=C w (xs.map a.eval) (by simpa using As Yj _ _ hv.1);refine⟨.tuple r,w,by simp[execOp,j,resolve,Act.eval,Deferred.ofValue,invoke,<-D],_,_,A,_,l.quiet (Below.refl _ _) d hd (.tp m) _ (λ_=>W) V V V ?_ B⟩
  grind [AK,FX]
def cY(P:Program)(t:TypeId)(n:Nat):Bool:=
 match P.underlying t with
 |some (.slice e)=>(match P.info? e with
  |some ie=>ie.size==n|none=>T)
 |_=>T
variable{n:Nat}
theorem nC(A:AR F0 w0 O a w G)(hd:d<a.tmps.size)(k:o.op=.buildSlice t 0 #[])(g:cY P t n=X)(h:(AE.AaV n).wp S O (Y d) K):A2 P F0 w0 a w o d K:=by
 simp [AE.wp]at h;obtain⟨m,D⟩:=h;unfold cY at g;split at g
 .rename_i e B;split at g
  .rename_i E l;have j:(execOp a.eval o).run P w=.ok (.value (.slice (Y ⟨w.heap.size,0,W⟩) 0 0)) (w.alloc (.cells #[] e)):=by
    simp [execOp,k,Instr.buildSlice,run_underlying B,sizeOf,typeInfo,l,Instr.fill,newRow]
    grind
   have C:Below w.heap.size w (w.alloc (.cells #[] e)):=(Below.refl _ _).alloc (aN _) _;refine⟨_,_,j,_,_,D,A.AbF C hd m (z:=Y (w.heap.size,0*n)) (xs:=[]) ⟨V,.inr ⟨w.heap.size,0,_,e,V,heap_alloc_new w _,V,by simp[maxLen],V,V,V⟩⟩ (λb lo u=>?_) (λF' _=>rfl) V V ⟨V,trivial⟩⟩;simp at u;rw[<-u.1];exact⟨aN _,V⟩
  .cases g
 .cases g
theorem J0(e0:AB):∀(g:I2)(O:AB)(n:Nat),AB.get (Np e0 g O) n=if n∈g then(e0.get n).gave else O.get n
 |[],_,_=>by simp[Np]|q::g,O,n=>by
  rw [Np,AB.d3,J0 e0 g O n]
  grind
theorem Lu(e:EV):(∃t,e=.ow t/\e.gave=.tv t)\/e.gave=.undef:=by
 cases e<;>first|exact .inl ⟨_,rfl,rfl⟩|exact .inr rfl
abbrev Sy:=Value ⊕ (Operand×Nat×Nat)
def VQ:List Sy->Nat->List Sy->List Sy
 |l,_,[]=>l|l,i,y::ys=>VQ (l.set i y) (i+1) ys
def Sv(place:Nat->Option (Nat×Nat)):List (Nat×Operand)->List Sy->Option (List Sy)
 |[],row=>Y row|(i,x)::ps,row=>match place i with
  |some (off,n)=>if off+n<=row.length then Sv place ps (VQ row off ((List.range n).map λk=>.inr (x,k,n)))else W|none=>W
def Sy.is(a:Act):Sy->Value->Prop
 |.inl u,v=>v=u|.inr (x,k,_),v=>(a.eval x).cells[k]?=Y v
def RZ(a:Act)(row:List Sy)(xs:List Value):Prop:=xs.length=row.length/\∀(j:Nat)(s:Sy)(v:Value),row[j]?=Y s->xs[j]?=Y v->s.is a v
variable{v:Value}
theorem mZ{a:Act}{row:List Sy}{xs:List Value}(h:RZ a row xs){s:Sy}(m:s.is a v)(i:Nat):RZ a (row.set i s) (xs.set i v):=by
 refine ⟨by simp[h.1],λj s' l g k=>?_⟩;rw[w?]at g k;by_cases e:i=j
 .grind
 .rw[aE e]at g k;exact h.2 j s' l g k
theorem aG{a:Act}:∀{g:List Sy}{vs:List Value}{row:List Sy}{xs:List Value}(i:Nat),RZ a row xs->RZ a g vs->RZ a (VQ row i g) (Wn xs i vs)
 |[],[],_,_,_,h,_=>h|[],_::_,_,_,_,_,h=>by have:=h.1;simp at this|_::_,[],_,_,_,_,h=>by have:=h.1;simp at this|s::g,v::vs,row,xs,i,h,k=>by
  rw [VQ,Wn];exact aG (i+1) (mZ h (k.2 0 s v rfl rfl) i) ⟨by have:=k.1;simpa using this,λj s' l m u=>k.2 (j+1) s' l (by simpa using m) e_⟩
theorem br{a:Act}{place:Nat->Option (Nat×Nat)}:∀{u:List (Nat×Operand)}{row g:List Sy}{xs:Array Value},RZ a row xs.toList->(∀p∈u,∀l n,place p.1=Y (l,n)->(a.eval p.2).cells.size=n)->Sv place u row=Y g ->
  ∃xs',Instr.fill place xs (u.map λ(i,x)=>(i,a.eval x))=Y xs'/\RZ a g xs'.toList
 |[],row,g,xs,h,_,hf=>by
  simp [Sv]at hf;subst hf;exact⟨xs,rfl,h⟩
 |(i,x)::u,row,g,xs,h,D,hf=>by
  rw [Sv]at hf;split at hf
  .rename_i l n A;split at hf
   .rename_i E;have m:=D (i,x) V l n A;simp only at m;have H:=h.1;rw[I']at H;have I:RZ a (VQ row l ((List.range n).map λk=>.inr (x,k,n))) (((a.eval x).cells.zipIdx.foldl (λcs(y:Value×Nat)=>cs.setIfInBounds (l+y.2) y.1) xs)).toList:=by
     rw [<-Array.foldl_toList,Array.toList_zipIdx,Rp,H'];refine aG l h ⟨by simp[m],λj s v B L=>?_⟩;rw[E_]at B;simp at B;obtain⟨k,M,rfl⟩:=B;have C:k=j:=by
      grind
     subst C;show(a.eval x).cells[k]?=Y v
     grind
    obtain ⟨xs',N,J⟩:=br I (λp A=>D p (by simp[A])) hf;refine⟨xs',?_,J⟩;simp[z?,Instr.fill,A]
    grind
   .cases hf
  .cases hf
def Sb:GC->Sy->Bool
 |.z c,.inl v=>U6 c v|.v y k n,.inr (x,k',n')=>AJ x y&&k==k'&&n==n'|.w q,.inr (x,k',n')=>AJ x (.s q)&&k'==0&&n'==1|.g q k n,.inr (x,k',n')=>AJ x (.s q)&&k==k'&&n==n'|_,_=>T
def TN:List GC->List Sy->Bool
 |[],[]=>X|g::gs,s::ss=>Sb g s&&TN gs ss|_,_=>T
def Us(x:Operand)(n:Nat):GC->Bool
 |.z _=>T|.v y _ m=>AJ x y&&m==n|.w q=>AJ x (.s q)&&1==n|.g q _ m=>AJ x (.s q)&&m==n
def Te(place:Nat->Option (Nat×Nat))(z:List Value)(ps:List (Nat×Operand))(gs:List GC):Bool:=
 (ps.all λp=>match place p.1 with
  |some (_,n)=>gs.any (Us p.2 n)|none=>T) &&
 match Sv place ps (z.map .inl)with
 |some row=>TN gs row|none=>T
def cW(P:Program)(t:TypeId)(ps:List (Nat×Operand))(gs:List GC):Bool:=
 match P.info? t,P.underlying t with
 |some it,Y (.array _ e)=>
  match it.zero,P.info? e with
  |some z,Y ie=>Te (λi=>Y (i*ie.size,ie.size)) z.cells.toList ps gs|_,_=>T
 |some it,Y (.struct fields)=>
  match it.zero,fields.toList.mapM (λf=>(P.info? f.type).map λi=>(f.offset,i.size))with
  |some z,Y places=>Te (places.toArray[·]?) z.cells.toList ps gs|_,_=>T
 |_,_=>T
theorem Ur:∀{gs:List GC}{k:List Sy},TN gs k=X->k.length=gs.length/\∀(j:Nat)(g:GC),gs[j]?=Y g->∃s,k[j]?=Y s/\Sb g s=X
 |[],[],_=>⟨rfl,λj g h=>by simp at h⟩|[],_::_,h=>d!
 |_::_,[],h=>d!
 |g::gs,s::k,h=>by
  rw [TN,gN]at h;obtain⟨l,m⟩:=Ur h.2
  grind
theorem Xa:∀{gs:List GC}{cs:List AQ},FT O gs=Y cs->cs.length=gs.length/\∀(j:Nat)(g:GC),gs[j]?=Y g->∃c,cs[j]?=Y c/\g.cell O=Y c
 |[],cs,h=>by simp[FT]at h;subst h;exact⟨rfl,λj g h=>by simp at h⟩|g::gs,cs,h=>by
  rw [FT]at h;split at h
  .rename_i c cs' l k;cases h;obtain⟨m,u⟩:=Xa k
   grind
  .cases h
variable{q:Nat}
theorem Jz(h:AJ x (.s q)=X):a.eval x=slot a q:=by
 cases x<;>simp[AJ]at h;rw[h];rfl
variable{c:AQ}
theorem oH(l:AR F0 w0 O a w G){g:GC}(h:g.cell O=Y c)(j:Us x n g=X):(a.eval x).cells.size=n:=by
 cases g with
 |z c=>cases j
 |v y k m=>
  simp [Us]at j;obtain⟨j,rfl⟩:=j;simp[GC.cell]at h;split at h
  .rename_i t B;split at h
   .rename_i u A;have:=BJ (GZ (Ax l j B).1).1
    grind [I',I_]
   .cases h
  .cases h
 |w q=>
  simp [Us]at j;obtain⟨j,rfl⟩:=j;rw[Jz j];have:(slot a q).oneCell'=X:=by
   simp [GC.cell]at h;split at h
   .rename_i t e;have:=Ah l e V
    grind [AK,Vv]
   next m es e=>have:=Ah l e V;exact Gn (ρ:=po a G) (c:=⟨X,.xl m es⟩) this
   .cases h
  rw [Pq this];rfl
 |g q k m=>
  simp [Us]at j;obtain⟨j,rfl⟩:=j;rw[Jz j];simp[GC.cell]at h;split at h
  .rename_i cs e;split at h
   next u=>have:=Ah l e V;simp[AK]at this;obtain⟨vs,A,C,_⟩:=this;rw[A];show vs.size=m;rw[C,I_ u]
   .cases h
  .cases h
theorem vF(A:AR F0 w0 O a w G){g:GC}(h:g.cell O=Y c){s:Sy}(l:Sb g s=X)(hv:s.is a v):BE w (AW w0.heap.size F0 G) (po a G) (g.src.bind λp=>G p.1 p.2) c v/\c.t.WF:=by
 cases g with
 |z c'=>
  cases s with
  |inr p=>cases l
  |inl u=>
   simp [GC.cell]at h;subst h;have:v=u:=hv;subst this;exact WD l
 |v y k m=>
  cases s with
  |inl u=>cases l
  |inr p=>
   obtain ⟨x,E,H⟩:=p;simp[Sb]at l;obtain⟨⟨B,rfl⟩,_⟩:=l;have hv:(a.eval x).cells[k]?=Y v:=hv;simp[GC.cell]at h;split at h
   .rename_i t J;split at h
    next c' ε C=>cases h;obtain⟨L,M⟩:=Ax A B J;obtain⟨N,R⟩:=GZ L;rw[<-I?]at hv;exact⟨⟨((Bf _ _).1 N).2 k _ _ C hv,R v (w_ hv)⟩,Bn.1 (Hz M) _ (w_ C)⟩
    .cases h
   .cases h
 |w q=>
  cases s with
  |inl u=>cases l
  |inr p=>
   obtain ⟨x,E,H⟩:=p;simp[Sb]at l;obtain⟨⟨B,rfl⟩,_⟩:=l;have hv:(a.eval x).cells[0]?=Y v:=hv;rw[Jz B]at hv;have j:=A.wf q;simp[GC.cell]at h;split at h
   next t e=>cases h;have:=Ah A e V;simp[AK]at this;rw[Pq (Vv this)]at hv;cases hv;rw[e]at j;exact⟨this.c,j⟩
   next m es e=>cases h;have:=Ah A e V;have D:BE w (AW w0.heap.size F0 G) (po a G) (G q W) ⟨X,.xl m es⟩ (slot a q):=this;rw[Pq (Gn D)]at hv;cases hv;rw[e]at j;exact⟨D,j⟩
   .cases h
 |g q k m=>
  cases s with
  |inl u=>cases l
  |inr p=>
   obtain ⟨x,E,H⟩:=p;simp[Sb]at l;obtain⟨⟨B,rfl⟩,_⟩:=l;have hv:(a.eval x).cells[k]?=Y v:=hv;rw[Jz B]at hv;have j:=A.wf q;simp[GC.cell]at h;split at h
   .rename_i cs e;split at h
    .have:=Ah A e V;simp[AK]at this;obtain⟨vs,C,_,θ⟩:=this;rw[C]at hv;have hv:vs[k]?=Y v:=hv;obtain⟨x',I,D⟩:=θ k c h;rw[hv]at I;cases I;rw[e]at j;exact⟨D,j c (w_ h)⟩
    .cases h
   .cases h
theorem AR.regather(h:AR F0 w0 O a w G)(hd:d<a.tmps.size){C:I2}{cs:List AQ}{vs:Array Value}(σ:Nat->Option (Nat×Option Nat))(hdq:d∉C)(δ:vs.size=cs.length)(hσ:∀j q i,σ j=Y (q,i)->q∈C)
  (R:∀j θ p,σ j=Y p->σ θ=Y p->j=θ)(hc:∀(j:Nat)(c:AQ),cs[j]?=Y c->∃x,vs[j]?=Y x/\BE w (AW w0.heap.size F0 G) (po a G) ((σ j).bind λp=>G p.1 p.2) c x)(hwf:∀c∈cs,c.t.WF)(hq:∀q∈C,q<a.tmps.size):
  Bs F0 w0 ((d,.vS cs)::Np O C O) (a.put (Y d) (.agg vs)) w:=by
 let A:BV:=λp i=>if p=d then i.bind λj=>(σ j).bind λp=>G p.1 p.2 else if p∈C then W else G p i
 have I:∀p i b lo,A p i=Y (b,lo)->(∃j q k,p=d/\i=Y j/\σ j=Y (q,k)/\G q k=Y (b,lo))\/(p≠d/\p∉C/\G p i=Y (b,lo)):=by
  intro p i b lo m;simp[A]at m;split at m
  .rename_i u;cases i with
   |none=>cases m
   |some j=>
    simp at m;cases hj:σ j with
    |none=>rw[hj]at m;cases m
    |some q=>rw[hj]at m;exact .inl ⟨j,q.1,q.2,u,rfl,hj,m⟩
  grind
 have hF:∀b o,AW w0.heap.size F0 A b o->AW w0.heap.size F0 G b o:=λb o hf=>AW.mono (λp i b lo m=>by
  grind) hf
 have J:Be w w (AW w0.heap.size F0 G) (AW w0.heap.size F0 A):=λb o v hc hf=>⟨hc,λhf'=>hf (hF b o hf')⟩;have D:po (a.put (Y d) (.agg vs)) A=po a G:=LV (Bi _ _ _) λp m=>by
  grind
 refine ⟨A,?_,?_,h.below,g?,?_,?_,?_⟩
 .intro p i p' i' b lo lo' e1 g;rcases I _ _ _ _ e1 with⟨j,q,k,rfl,rfl,η,f2⟩|⟨n1,n2,η⟩<;>rcases I _ _ _ _ g with⟨θ,q',k',rfl,rfl,ζ,g2⟩|⟨m1,m2,ζ⟩
  .obtain⟨κ,e4⟩:=h.gB _ _ _ _ _ _ _ f2 g2;subst κ;subst e4;exact⟨rfl,by rw[R j θ _ η ζ]⟩
  .obtain⟨κ,_⟩:=h.gB _ _ _ _ _ _ _ f2 ζ;exact absurd (κ▸hσ j q k η) m2
  .obtain⟨κ,_⟩:=h.gB _ _ _ _ _ _ _ g2 η;exact absurd (κ▸hσ θ q' k' ζ) n2
  .exact h.gB _ _ _ _ _ _ _ η ζ
 .intro p i b lo e1;rcases I _ _ _ _ e1 with⟨j,q,k,_,_,_,f⟩|⟨_,_,f⟩<;>exact h.lt _ _ _ _ f
 .intro p m;rw[Bi]at m;rw[AB.d3,aE U,J0];split
  next hm=>have:=hq p hm;omega
  .exact h.dom p m
 .intro p m;rw[Bi]at m;rw[AB.d3];by_cases u:d=p
  .subst u;rw[QQ rfl,Cj _ _ _ hd];simp only[AK];refine⟨_,rfl,δ,λi c hci=>?_⟩;obtain⟨x,M,hr⟩:=hc i c hci;refine⟨x,M,?_⟩;have:A d (Y i)=(σ i).bind λp=>G p.1 p.2:=by simp only[A,if_true];rfl
   rw [this,D];exact hr.kept J (λ_ _ _=>rfl) BI.rfl'
  .rw[aE u,AZ _ _ _ _ u,J0];split
   .rcases Lu (O.get p)with⟨t,e,g⟩|g
    .have E:=Ah h e V;rw[g];simp[AK]at E|-;exact B8 J _ _ (Bo.rep E (λb lo o hz ho=>Ou h b lo o hz ho))
    .rw[g];simp[AK]
   .rename_i hnq;refine AK.kept J (λi=>by simp[A];rw[aE (λe=>u e.symm),aE hnq]) (λ_ _ _ _=>rfl) D BI.rfl' (λr i k _⟨pp,H⟩=>?_) (λr off _⟨cs',l⟩=>?_) (λr i _⟨pp,H⟩=>?_) (h.slots p m)
    .have L:=AB.pN V H;have B:=J0 O C O r;split at B
     .have ε:=L.2;rcases Lu (O.get r)with⟨t,_,g⟩|g<;>rw[g]at B<;>simp[AB.nat,B]at ε<;>cases ε
     .have M:∃p,O.nat r i=Y p:=⟨pp,by rw[<-L.2];exact(AB.Aaa B).symm⟩;exact⟨M,h.nh M (AZ _ _ _ _ L.1) (λ_ _ _ _=>rfl)⟩
    .rw[AB.d3]at l;by_cases N:d=r
     .rw[QQ N]at l;cases l
     .rw[aE N,J0]at l;split at l
      .rcases Lu (O.get r)with⟨t,_,g⟩|g<;>(rw[g]at l;cases l)
      .exact⟨⟨cs',l⟩,AZ _ _ _ _ N⟩
    .have L:=AB.l4 V V H;have B:=J0 O C O r;split at B
     .have ε:=L.2;rcases Lu (O.get r)with⟨t,_,g⟩|g<;>rw[g]at B<;>cases i<;>simp[AB.ln,B]at ε<;>cases ε
     .have M:∃p,O.ln r i=Y p:=⟨pp,by rw[<-L.2];exact(AB.wm B).symm⟩;exact⟨M,h.xv M (AZ _ _ _ _ L.1) (λ_ _=>rfl)⟩
 .intro p;rw[AB.d3];split
  .exact hwf
  .rw[J0];have:=h.wf p;split
   .rcases Lu (O.get p)with⟨t,e,g⟩|g
    .rw[e]at this;rw[g];exact this
    .rw[g];trivial
   .exact this
theorem aX{α β:Type}{f:α->Option β}{l:List α}(hn:(l.filterMap f).Nodup){i j:Nat}{p:β}(hi:(l[i]?).bind f=Y p)(m:(l[j]?).bind f=Y p):i=j:=by
 have key:∀(l:List α)(i j:Nat),(l.filterMap f).Nodup->(l[i]?).bind f=Y p->(l[j]?).bind f=Y p->i<j->False:=by
  intro l
  induction l with
  |nil=>intro i j _ h;simp at h|cons x l B=>
   intro i j hn u A g;obtain⟨j,rfl⟩:∃k,j=k+1:=⟨j-1,U⟩
   grind
 grind
theorem mt(J:AR F0 w0 O a w G)(hd:d<a.tmps.size){D:Array (Nat×Operand)}{gs:List GC}(η:o.op=.build t D)(l:cW P t D.toList gs=X)(h:(AE.tl gs).wp S O (Y d) K):A2 P F0 w0 a w o d K:=by
 simp only[AE.wp]at h;obtain⟨⟨hn,hdq⟩,h⟩:=h;cases E:FT O gs with
 |none=>rw[E]at h;exact h.elim|some cs=>
  rw [E]at h;simp[Ai]at h;obtain⟨hl,C⟩:=Xa E;have key:∀(place:Nat->Option (Nat×Nat))(z:Array Value),Te place z.toList D.toList gs=X->∃xs',Instr.fill place z (D.map λ(i,x)=>(i,a.eval x)).toList=Y xs'/\xs'.size=cs.length/\
    ∀(j:Nat)(c:AQ),cs[j]?=Y c->(∃x,xs'[j]?=Y x/\BE w (AW w0.heap.size F0 G) (po a G) (((gs[j]?).bind GC.src).bind λp=>G p.1 p.2) c x)/\c.t.WF:=by
   intro place z δ;unfold Te at δ;rw[gN,D?]at δ;obtain⟨hp1,I⟩:=δ;split at I
   .rename_i row M;have h5:(D.map λ(i,x)=>(i,a.eval x)).toList=D.toList.map λ(i,x)=>(i,a.eval x):=V
    obtain ⟨xs',ζ,θ⟩:=br (a:=a) (xs:=z) (row:=z.toList.map .inl) ⟨V,λj s v A B=>by
     rw [E_]at A;simp only[J']at A;obtain⟨u,hu,rfl⟩:=A;rw[hu]at B;cases B;rfl⟩ (λp hm off n L=>by
     grind [List.any_eq_true,C_,oH]) M
    obtain ⟨m1,m2⟩:=Ur I;have N:=θ.1;rw[I']at N;refine⟨xs',by rw[h5];exact ζ,U,λj c m=>?_⟩;have hj:j<gs.length:=by have:=(B?.1 m).1;omega
    have H:gs[j]?=Y gs[j]:=x! hj;obtain⟨c',R,hc2⟩:=C j _ H;rw[m]at R;cases R;obtain⟨s,hs1,hs2⟩:=m2 j _ H;have hx:xs'[j]?=Y (xs'[j]' U):=Array.getElem?_eq_getElem U;obtain⟨r1,r2⟩:=vF J hc2 hs2 (θ.2 j s _ hs1 (by rw[I?];exact hx));rw[H];exact⟨⟨_,hx,r1⟩,r2⟩
   .cases I
  have built:∃xs',P.built t (D.map λ(i,x)=>(i,a.eval x)).toList=Y xs'/\xs'.size=cs.length/\
    ∀(j:Nat)(c:AQ),cs[j]?=Y c->(∃x,xs'[j]?=Y x/\BE w (AW w0.heap.size F0 G) (po a G) (((gs[j]?).bind GC.src).bind λp=>G p.1 p.2) c x)/\c.t.WF:=by
   unfold cW at l;unfold Program.built;split at l
   .rename_i it len e A B;simp only[A,B];split at l
    next z ie hz hie=>simp only[hz,hie];exact key _ _ l
    .cases l
   .rename_i it ε A B;simp only[A,B];split at l
    next z κ hz L=>simp only[hz,L];exact key _ _ l
    .cases l
   .cases l
  obtain ⟨xs',A,B,h3⟩:=built;refine⟨.agg xs',w,by simp[execOp,η,run_build w t _ _ A],_,_,h,J.regather hd (λj=>(gs[j]?).bind GC.src) hdq B (λj q i e=>?_) (λj j' p ζ θ=>aX hn ζ θ) (λj c m=>(h3 j c m).1) (λc m=>?_) (λq hq=>?_)⟩
  .rw[J!]at e;obtain⟨g,H,e⟩:=e;refine E?.2 ⟨g,w_ H,?_⟩;cases g<;>simp[GC.src]at e<;>simp[GC.slot,e.1]
  .grind[C_]
  .obtain⟨g,H,e⟩:=E?.1 hq;obtain⟨j,hj⟩:=C_ H;obtain⟨c,_,m⟩:=C j g hj;cases g with
   |z c=>cases e
   |v y k n=>cases e
   |w q'=>
    cases e;simp[GC.cell]at m;split at m
    next t e=>exact Bg J e V
    next n es e=>exact Bg J e V
    .cases m
   |g q' k n=>
    cases e;simp[GC.cell]at m;split at m
    next cs e=>exact Bg J e V
    .cases m
end
end Go.Sf
