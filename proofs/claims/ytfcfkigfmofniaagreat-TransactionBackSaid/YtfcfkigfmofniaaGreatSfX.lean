/- Lists that nobody else reads: stores into them, appends, calls that turn them. -/
import Derived.Test.YtfcfkigfmofniaaGreatSfApp
import Derived.Lib.AppendZerosOnto
set_option linter.all false
open Option renaming some->Y,none->W
open Bool renaming true->X,false->T
open List renaming flatMap_cons->u!,mem_of_getElem?->u?,eq_nil_of_length_eq_zero->v1,getElem?_set->v5,mem_or_eq_of_mem_set->v6,getElem?_eq_getElem->v9,mem_of_mem_take->v_,mem_of_mem_drop->v!,take_append->v?,take_of_length_le->w_,map_map->w!,singleton_append->w?,map_cons->x_,flatMap_append->x!,mem_append->x?,replicate->y_,replicate_succ->y!,length_replicate->y?,eq_of_mem_replicate->z9,getElem?_drop->z_,getElem?_eq_some_iff->z!,getElem?_of_mem->z?,length_drop->A_,getElem?_append_left->A',getElem?_take->A!,getElem?_toArray->A?,getElem?_append_right->B_,getElem?_take_of_lt->B',all_eq_true->B!,getElem?_map->B?,length_singleton->C_,take_left->C',mem_filterMap->C!
open Nat renaming lt_or_ge->C?,zero_le->D_,lt_of_lt_of_le->D',le_trans->D!,mul_le_mul_right->D?,min_eq_left->E_,mul_le_mul->E',add_zero->E!,add_sub_cancel_left->E?,zero_add->F_,eq_of_beq_eq_true->F!
open Array renaming length_toList->F?,replicate->G_,getElem?_toList->G!
open Option renaming map_some->G?,map_eq_some_iff->H_,bind_eq_some_iff->H'
namespace Go.Sf
open Go.RowKit (Below)
def Ry:Operand->Bool
 |.const v=>L8 v|_=>T
variable{α:Type}
theorem bm{a:Array α}{x:α}(h:a.toList=[x]):a=#[x]:=by
 cases a;simp_all
section flat
variable{w w':World}{F F':Nat->Nat->Prop}
mutual
theorem Su:∀(t:TV),t.flat=X->∀v,Af w F t v->Af w' F' t v
 |.int _ _,_,_,h=>h|.bool _,_,_,h=>h|.str _,_,_,h=>h|.agg cs,hf,v,h=>by
  have:=GF cs (by simpa[TV.flat]using hf)
  grind [Af]
 |.undef,hf,_,_=>by simp[TV.flat]at hf|.xl _ _,hf,_,_=>by simp[TV.flat]at hf|.nil,hf,_,_=>by simp[TV.flat]at hf|.list _ _,hf,_,_=>by simp[TV.flat]at hf|.pt _,hf,_,_=>by simp[TV.flat]at hf|.zv _ _,hf,_,_=>by simp[TV.flat]at hf
theorem GF:∀(ts:Fq),TV.yl ts=X->∀vs,AP w F ts vs->AP w' F' ts vs
 |[],_,vs,h=>h|t::ts,hf,vs,h=>by
  simp [TV.yl]at hf;simp[AP]at h|-;obtain⟨v,r,g,j,k⟩:=h;exact⟨v,r,g,Su t hf.1 v j,GF ts hf.2 r k⟩
end
theorem T8:∀(xs ys:Fq),TV.yl (xs++ys)=(TV.yl xs&&TV.yl ys)
 |[],ys=>by simp[TV.yl]|x::xs,ys=>by simp[TV.yl,T8 xs ys,Bool.and_assoc]
theorem cH(t:TV)(h:t.flat=X):TV.yl t.cells=X:=by
 cases t<;>simp_all[TV.flat,TV.cells,TV.yl]
theorem Mc:∀(es:Fq),TV.yl es=X->TV.yl (es.flatMap TV.cells)=X
 |[],_=>rfl|e::es,h=>by
  simp [TV.yl]at h;rw[u!,T8,cH e h.1,Mc es h.2];rfl
end flat
section
variable{P:Program}{S:FuncId->Fq->Al->Prop}{F0:Nat->Nat->Prop}{w0:W0}{O:AB}{a:Act}{w:World}{G:BH}{d:Nat}{o:Oper}{K:EV->AB->Prop}
variable{q n:Nat}
theorem AB.xat_of_xo{O:AB}{es:Fq}(h:O.get q=.xo n es):O.x5 q W=Y (n,es):=by simp[AB.x5,h]
variable{x:Operand}{y:AE}
theorem OP(k:AN F0 w0 O a w G)(g:AK x y=X){p:(Nat×Option Nat)×Nat×Fq}(h:y.yg O=Y p):O.x5 p.1.1 p.1.2=Y (p.2.1,p.2.2)/\XV a w p.1.1 p.1.2 (a.eval x):=by
 cases y with
 |c t=>simp[AE.yg]at h|s m=>
  have l:x=.tmp m:=by
   cases x<;>simp[AK]at g;rw[g]
  subst l;simp only[AE.yg]at h;split at h
  next n es he=>simp only[t5]at h;subst h;exact⟨by simp only[AB.x5,he],rfl⟩
  .rename_i q i he;split at h
   next u j=>simp only[t5]at h;subst h;have:=AZ k he V;simp only[AL]at this;exact⟨j,this ⟨_,j⟩⟩
   .cases h
  .cases h
variable{i:Option Nat}{v:Value}
theorem Oq{es:Fq}(h:AN F0 w0 O a w G)(g:O.x5 q i=Y (n,es))(hv:XV a w q i v):
  (TV.list n es).WF/\∃xs,Jc w n v es.length xs (G q i)/\AP w (AW w0.heap.size F0 G) (es.flatMap TV.cells) xs/\(∀e∈es,e.cells.length=n)/\∀x∈xs,x.oneCell'=X:=by
 cases i with
 |none=>
  have g:=AB.x8 g;have j:=AZ h g V;have l:=h.wf q;rw[g]at l;simp only[AL]at j;simp only[XV]at hv;rw[hv];exact⟨l,j⟩
 |some k=>
  obtain ⟨cs,u,A⟩:=AB.tn g;have j:=AZ h u V;have l:=h.wf q;rw[u]at l;simp only[AL]at j;obtain⟨b,c,θ,D,E,L,M,H⟩:=j;obtain⟨N,c',R,m,B,C⟩:=hv;rw[D]at m;simp only[Value.pointer.injEq,t5,Addr.mk.injEq,and_true,and_self]at m;subst m;rw[E]at B;cases B;obtain⟨x,I,J⟩:=H k _ A;rw[I]at C;cases C;exact⟨l _ (u? A),J⟩
theorem oI{es:Fq}(h:AN F0 w0 O a w G)(k:O.x5 q i=Y (n,es))(hv:XV a w q i v):∀b lo,G q i=Y (b,lo)->lo=0:=by
 intro b lo g;obtain⟨_,xs,⟨z0,_,j⟩,_⟩:=Oq h k hv;rw[j]at g;cases z0 with
 |none=>simp at g|some p=>simp at g;exact g.2.symm
theorem gR{es:Fq}(h:AN F0 w0 O a w G)(u:O.x5 q i=Y (n,es))(hv:XV a w q i v)(k:es≠[]):
  ∃g cap j e xs,v=.slice (Y ⟨g,0,W⟩) es.length cap/\w.heap[g]?=Y (.cells j e (0,0))/\es.length<=cap/\cap<=maxLen/\j.size=cap*n/\j.toList.take (es.length*n)=xs/\G q i=Y (g,0)/\AP w (AW w0.heap.size F0 G) (es.flatMap TV.cells) xs/\(∀e∈es,e.cells.length=n)/\(∀x∈xs,x.oneCell'=X)/\xs.length=es.length*n:=by
 obtain ⟨_,xs,⟨z0,m,l⟩,A,B,C⟩:=Oq h u hv;rcases m.2 with⟨_,D,_⟩|⟨g,cap,j,e,E,H,I,J,L,M,N⟩
 .exact absurd (v1 D) k
 .exact⟨g,cap,j,e,xs,E,H,I,J,L,M,by rw[l,N];rfl,A,B,C,m.1⟩
theorem AN.rexo(h:AN F0 w0 O a w G){es:Fq}(L:O.x5 q i=Y (n,es))(hv:XV a w q i v){w':World}(hb:QZ (G q i) w w'){es':Fq}{xs':List Value}(M:Jc w' n v es'.length xs' (G q i))
  (η:BS w w' (AW w0.heap.size F0 G) (AW w0.heap.size F0 G)->AP w' (AW w0.heap.size F0 G) (es'.flatMap TV.cells) xs')(hn:∀e∈es',e.cells.length=n)(h1:∀x∈xs',x.oneCell'=X)(hw:(TV.list n es').WF):
  AN F0 w0 (O.yt q i n es') a w' G:=by
 obtain ⟨b1,b2,b3,b4,b5⟩:=hb;have hz0:=oI h L hv;have ε:BS w w' (AW w0.heap.size F0 G) (AW w0.heap.size F0 G):=by
  intro b o u hc hF;refine⟨?_,hF⟩;have κ:b<w.heap.size:=by
   grind [C?,World.cell?,Array.getElem?_eq_none]
  rw [World.cell?_of_block (w:=w) (a:=⟨b,o,W⟩) (b5 b κ (λlo B=>hF (.inr ⟨q,i,lo,B,by rw[hz0 b lo B];exact D_ _⟩)))];exact hc
 have I:Ga F0 w0 w':=h.below.but b1 b2 b3 b4 (Z:=λk=>∃lo,G q i=Y (k,lo)) (λb⟨lo,B⟩=>(h.lt _ _ _ _ B).2.imp id (λe o=>e o (by rw[hz0 b lo B];exact D_ _))) (λk hk B=>b5 k (D' hk h.below.size) (λlo e=>B ⟨lo,e⟩));have κ:∀s i b lo,G s i=Y (b,lo)->b<w'.heap.size/\(w0.heap.size<=b\/∀o,lo<=o->w0.E b o):=λs i b lo H=>⟨D' (h.lt s i b lo H).1 b4,(h.lt s i b lo H).2⟩;have hxv:∀r j,(∃m,O.x5 r j=Y m)->∀v,XV a w r j v->XV a w' r j v:=by
  intro r j δ;cases j with
  |none=>exact λv hv=>hv|some k=>
   refine h.xv δ rfl (λb hb=>b5 b (h.lt _ _ _ _ hb).1 (λlo B=>?_));obtain⟨rfl,rfl⟩:=h.og _ _ _ _ _ _ _ B hb;have h1:=AB.x8 L
   grind [AB.tn]
 have hqsz:q<a.tmps.size:=by
  cases i with
  |none=>exact h.lts (by rw[AB.x8 L];simp)|some k=>obtain⟨cs,H,_⟩:=AB.tn L;exact h.lts (by rw[H];simp)
 have hrs:BA w w' (x9 a G):=by
  intro g j b lo hr;exact b5 b (h.lt _ _ _ _ hr).1 (λlo' B=>h.AaQ hqsz B hr rfl)
 have hnh:∀r j,(∃m,O.nat r j=Y m)->∀k v,NH a w r j k v->NH a w' r j k v:=by
  intro r j δ k;refine h.nh δ rfl (λl b hl hb=>b5 b (h.lt _ _ _ _ hb).1 (λlo B=>?_));obtain⟨rfl,rfl⟩:=h.og _ _ _ _ _ _ _ B hb;obtain⟨es1,δ⟩:=δ;obtain⟨cs,C,N⟩:=AB.wi δ;rcases hl with rfl|rfl
  .rw[AB.x8 L]at C;cases C
  grind [AB.tn]
 have oth:∀(p:Nat)(e:EV),p<a.tmps.size->p≠q->(∀j,(∃m,AB.nat ((q,e)::O) q j=Y m)->∃m,O.nat q j=Y m)->(∀cs,e=.bx cs->∃cs',O.get q=.bx cs')->(∀j,(∃m,AB.x5 ((q,e)::O) q j=Y m)->∃m,O.x5 q j=Y m)->AL a w' (AW w0.heap.size F0 G) G ((q,e)::O) p (O.get p) (slot a p):=by
  intro p e R hpq hnt hbx hxa;refine AL.kept ε (λ_=>rfl) (λj b lo B=>b5 b (h.lt _ _ _ _ B).1 (λlo' hz'=>hpq (h.og _ _ _ _ _ _ _ B hz').1)) rfl hrs (λr j k _⟨m,A⟩=>?_) (λr off _⟨cs,hcs⟩=>?_) (λr j _⟨m,A⟩=>?_) (h.slots p R)
  .have δ:∃m,O.nat r j=Y m:=by
    by_cases hqr:q=r
    .subst hqr;exact hnt j ⟨m,A⟩
    grind [AB.y4]
   grind
  .grind[AB.d6]
  .have δ:∃m,O.x5 r j=Y m:=by
    by_cases hqr:q=r
    .subst hqr;exact hxa j ⟨m,A⟩
    grind [AB.yx]
   grind
 cases i with
 |none=>
  have L:=AB.x8 L;have hsz:=BV h L V;refine⟨h.og,κ,I,h.defers,λp R=>?_,λp R=>?_,λp=>?_⟩
  .simp only[AB.yt];rw[AB.d6,az U];exact h.dom p R
  .simp only[AB.yt];rw[AB.d6];by_cases D:q=p
   .subst D;rw[ae rfl];simp only[AL];simp only[XV]at hv;rw[hv]at M;exact⟨xs',M,η ε,hn,h1⟩
   .rw[az D];refine oth p _ R (λe=>D e.symm) (λj⟨m,A⟩=>by obtain⟨cs,e⟩:=AB.zF A;cases e) V (λj⟨m,A⟩=>?_);cases j with
    |none=>exact⟨(n,es),by simp only[AB.x5,L]⟩|some k=>
     obtain ⟨n1,es1⟩:=m;obtain⟨cs,C,_⟩:=AB.tn A;rw[AB.d6,ae rfl]at C;cases C
  .simp only[AB.yt];rw[AB.d6];split
   .exact hw
   .exact h.wf p
 |some k=>
  obtain ⟨cs,H,hk⟩:=AB.tn L;have hsz:=BV h H V;have hwc:=h.wf q;rw[H]at hwc;have hr:=AZ h H V;simp only[AL]at hr;obtain⟨b,c,θ,e1,e2,e3,e4,e5⟩:=hr;obtain⟨b',c',T',f1,f2,f3⟩:=hv;rw[e1]at f1;simp only[Value.pointer.injEq,t5,Addr.mk.injEq,and_true,and_self]at f1;subst f1;rw[e2]at f2;cases f2;have hbb:w'.heap[b]?=w.heap[b]?:=b5 b (h.lt _ _ _ _ e4).1 (λlo B=>by
   have:=(h.og _ _ _ _ _ _ _ B e4).2;cases this)
  refine ⟨h.og,κ,I,h.defers,λp R=>?_,λp R=>?_,λp=>?_⟩
  .simp only[AB.yt,H];rw[AB.d6,az U];exact h.dom p R
  .simp only[AB.yt,H];rw[AB.d6];by_cases D:q=p
   .subst D;rw[ae rfl];simp only[AL];refine⟨b,c,θ,e1,by rw[hbb];exact e2,by simpa using e3,e4,λj d ζ=>?_⟩;rw[v5]at ζ;by_cases J:k=j
    .subst J;rw[ae rfl]at ζ;split at ζ
     .simp only[t5]at ζ;subst ζ;exact⟨v,f3,xs',M,η ε,hn,h1⟩
     .cases ζ
    .rw[az J]at ζ;obtain⟨x,g1,g2⟩:=e5 j d ζ;exact⟨x,g1,g2.kept ε (λb lo B=>b5 b (h.lt _ _ _ _ B).1 (λlo' hz'=>J (by
      have:=(h.og _ _ _ _ _ _ _ hz' B).2;simpa using this))) hrs⟩
   .rw[az D];refine oth p _ R (λe=>D e.symm) (λj⟨m,A⟩=>?_) (λ_ _=>⟨cs,H⟩) (λj⟨m,A⟩=>?_)
    .obtain⟨cs',C,N⟩:=AB.wi A;rw[AB.d6,ae rfl]at C;simp only[EV.bx.injEq]at C;subst C;rw[v5]at N;split at N
     .split at N<;>simp at N
     .exact⟨m,by simp only[AB.nat,H,N]⟩
    obtain ⟨n1,es1⟩:=m;cases j with
    |none=>have C:=AB.x8 A;rw[AB.d6,ae rfl]at C;cases C
    |some j=>
     obtain ⟨cs',C,N⟩:=AB.tn A;rw[AB.d6,ae rfl]at C;simp only[EV.bx.injEq]at C;subst C;rw[v5]at N;by_cases J:k=j
     .subst J;exact⟨(n,es),L⟩
     .rw[az J]at N;exact⟨(n1,es1),by simp only[AB.x5,H,N]⟩
  .simp only[AB.yt,H];rw[AB.d6];split
   .intro y hy;rcases v6 hy with hy|rfl
    .exact hwc y hy
    .exact hw
   .exact h.wf p
theorem AN.xgo(h:AN F0 w0 O a w G){es:Fq}(hq:O.get q=.xo n es)(hd:d<a.tmps.size)(hdq:d≠q){w':World}{e:EV}{z':Option (Nat×Nat)}
  (b1:w'.os=w.os)(b2:w'.tape=w.tape)(b3:w'.output=w.output)(b4:w.heap.size<=w'.heap.size)(ζ:∀k,k<w.heap.size->(∀lo,G q W≠Y (k,lo))->w'.heap[k]?=w.heap[k]?)
  (m:∀b lo,z'=Y (b,lo)->b<w'.heap.size/\(w.heap.size<=b\/∃l,G q W=Y (b,l)))
  (δ:∀cs,e≠.bx cs)(hno:(∃n es,e=.xo n es)->O.jj d=X)
  (hrep:∀(F':Nat->Nat->Prop)(I:BH)(env':AB)(a':Act),BS w w' (AW w0.heap.size F0 G) F'->I d W=z'->(∀b o,F' b o->b<w.heap.size\/∃lo,z'=Y (b,lo))->AL a' w' F' I env' d e v)(hw:e.WF):
  Bj F0 w0 ((d,e)::(q,.undef)::O) (a.put (Y d) v) w':=by
 let I:BH:=JU (JU G q (λ_=>W)) d (λi=>if i=W then z' else W)
 have ε:=oI h (AB.xat_of_xo hq) (v:=slot a q) rfl;have H:∀p i b lo,I p i=Y (b,lo)->(p=d/\i=W/\z'=Y (b,lo))\/(p≠d/\p≠q/\G p i=Y (b,lo)):=by
  intro p i b lo θ;by_cases C:p=d
  .grind[Bt]
  .simp[I,BC _ _ _ _ C]at θ;by_cases hpq:p=q
   .grind[Bt]
   .rw[BC _ _ _ _ hpq]at θ
    grind
 have hag:BS w w' (AW w0.heap.size F0 G) (AW w0.heap.size F0 I):=by
  intro b o u hc hF;have hlt:b<w.heap.size:=World.block_lt_of_cell? w ⟨b,o,W⟩ hc;have hnz:∀lo,G q W≠Y (b,lo):=λlo D=>hF (.inr ⟨q,W,lo,D,by rw[ε b lo D];exact D_ _⟩);refine⟨?_,?_⟩
  .grind[World.cell?_of_block]
  .rintro(M|⟨p,i,lo,M,R⟩)
   .exact hF (.inl M)
   .rcases H _ _ _ _ M with⟨_,_,L⟩|⟨_,_,L⟩
    .grind
    .exact hF (.inr ⟨p,i,lo,L,R⟩)
 refine ⟨I,?_,?_,h.below.but b1 b2 b3 b4 (Z:=λk=>∃lo,G q W=Y (k,lo)) (λb⟨lo,D⟩=>(h.lt _ _ _ _ D).2.imp id (λe o=>e o (by rw[ε b lo D];exact D_ _))) (λk hk D=>ζ k (D' hk h.below.size) (λlo e=>D ⟨lo,e⟩)),g_,?_,?_,?_⟩
 .intro p i p' i' b lo l L e2;have other:∀p i lo l,z'=Y (b,lo)->p≠q->G p i=Y (b,l)->False:=by
   intro p i lo l E η f3;rcases(m _ _ E).2 with κ|⟨lo'',κ⟩
   .have:=(h.lt _ _ _ _ f3).1;omega
   .exact η (h.og _ _ _ _ _ _ _ f3 κ).1
  rcases H _ _ _ _ L with⟨rfl,rfl,E⟩|⟨n1,n2,E⟩<;>rcases H _ _ _ _ e2 with⟨rfl,rfl,η⟩|⟨m1,m2,η⟩
  .exact⟨rfl,rfl⟩
  .exact(other _ _ _ _ E m2 η).elim
  .exact(other _ _ _ _ η n2 E).elim
  .exact h.og _ _ _ _ _ _ _ E η
 .intro p i b lo L;rcases H _ _ _ _ L with⟨_,_,E⟩|⟨_,_,E⟩
  .refine⟨(m _ _ E).1,?_⟩;rcases(m _ _ E).2 with κ|⟨l,κ⟩
   .exact .inl (D! h.below.size κ)
   .exact(h.lt _ _ _ _ κ).2.imp id (λe o _=>e o (by rw[ε _ _ κ];exact D_ _))
  .exact⟨D' (h.lt _ _ _ _ E).1 b4,(h.lt _ _ _ _ E).2⟩
 .intro p θ;rw[BU]at θ;have:=BV h hq V;rw[AB.d6,az U,AB.d6,az U];exact h.dom p θ
 .intro p θ;rw[BU]at θ;rw[AB.d6];by_cases C:d=p
  .subst C;rw[ae rfl,CS _ _ _ hd];refine hrep _ _ _ _ hag (by simp[I,Bt]) λb o hf=>?_;rcases hf with M|⟨p,i,lo,M,_⟩
   .exact .inl (D' M.1 h.below.size)
   .rcases H _ _ _ _ M with⟨_,_,L⟩|⟨_,_,L⟩
    .exact .inr ⟨lo,L⟩
    .exact .inl (h.lt _ _ _ _ L).1
  .rw[az C,AY _ _ _ _ C,AB.d6];split
   .trivial
   .rename_i hqp;refine AL.kept hag (λi=>by simp[I];rw[BC _ _ _ _ (λe=>C e.symm),BC _ _ _ _ (λe=>hqp e.symm)]) (λi b lo D=>ζ b (h.lt _ _ _ _ D).1 (λl m=>hqp (h.og _ _ _ _ _ _ _ m D).1)) (MW (BU _ _ _) λr J=>by
     have:=BV h hq V;simp[I];rw[BC _ _ _ _ U,BC _ _ _ _ U]) (λg j b lo J=>by
     exact ζ b (h.lt _ _ _ _ J).1 (λl D=>h.AaQ (BV h hq V) D J rfl)) (λr i k J⟨pp,N⟩=>?_) (λr off _⟨cs,A⟩=>?_) (λr i J⟨pp,N⟩=>?_) (h.slots p θ)
    .have M:=AB.ym δ N;have R:=AB.ym V M.2;exact⟨⟨pp,R.2⟩,h.nh ⟨pp,R.2⟩ (AY _ _ _ _ M.1) (λ_ b _ hb=>ζ b (h.lt _ _ _ _ hb).1 (λl m=>R.1 (h.og _ _ _ _ _ _ _ m hb).1))⟩
    .rw[AB.d6]at A;by_cases B:d=r
     .rw[ae B]at A;exact absurd A (δ cs)
     .rw[az B,AB.d6]at A;split at A
      .cases A
      .exact⟨⟨cs,A⟩,AY _ _ _ _ B⟩
    .by_cases B:d=r
     .subst B;have hno':O.jj d=X:=by
       grind [AB.zY]
      have hx:=AB.z7 d O hno' p;rcases J with J|⟨c,J⟩
      .exact absurd J (hx.1 i)
      .exact absurd J (hx.2 i c)
     .rw[AB.yx B]at N;have R:=AB.x4 V V N;exact⟨⟨pp,R.2⟩,h.xv ⟨pp,R.2⟩ (AY _ _ _ _ B) (λb hb=>ζ b (h.lt _ _ _ _ hb).1 (λl m=>R.1 (h.og _ _ _ _ _ _ _ m hb).1))⟩
 .intro p;rw[AB.d6];split
  .exact hw
  .rw[AB.d6];split
   .trivial
   .exact h.wf p
variable{s:Nat}
theorem bj(j:AN F0 w0 O a w G)(hd:d<a.tmps.size)(g:o.op=.move (.tmp s)\/o.op=.assign (.tmp s))(h:(AD.xal s).wp S O (Y d) K):At P F0 w0 a w o d K:=by
 simp only[AD.wp]at h;split at h
 .rename_i n es l;refine⟨slot a s,w,by rcases g with g|g<;>simp[execOp,g,show a.eval (.tmp s)=slot a s from rfl],_,_,h,_,j.quiet (Below.refl _ _) d hd (.la s W) _ (λ_=>W) V V V ?_ trivial⟩;simp only[AL];rintro⟨p,k⟩;have m:=AB.x4 V V k
  grind [XV,AY]
 .exact h.elim
variable{t e:TypeId}
theorem kB(j:AN F0 w0 O a w G)(hd:d<a.tmps.size)(k:o.op=.call {callee:=.builtin .len,args:=#[x],argTypes:=#[t]})(l:AK x y=X)
  (he:P.underlying t=Y (.slice e))(h:(AD.AaH y).wp S O (Y d) K):At P F0 w0 a w o d K:=by
 simp only[AD.wp]at h;cases m:y.yg O with
 |none=>rw[m]at h;exact h.elim|some p=>
  rw [m]at h;simp only[Ad]at h;obtain⟨B,C⟩:=OP j l m;obtain⟨D,E⟩:=Oq j B C;simp only[TV.WF,Jm]at D;obtain⟨xs,⟨z0,H,_⟩,_⟩:=E;have hv:∃u cap,a.eval x=.slice u p.2.2.length cap:=by
   rcases H.2 with⟨A,I,_⟩|⟨g,cap,_,_,A,_⟩
   .grind
   .exact⟨_,_,A⟩
  obtain ⟨u,cap,hv⟩:=hv;refine CM j hd (v:=.int .i64 p.2.2.length) (t:=.int .i64 p.2.2.length) ?_ rfl ⟨i?,p?⟩ h;simp[execOp,k,resolve,invoke,builtin,Builtin.len_,run_underlying he,hv,goInt]
theorem nE(l:AN F0 w0 O a w G)(hd:d<a.tmps.size){x i:Operand}{y j:AE}(E:o.op=.indexAddr t x i)(H:AK x y=X)(u:AK i j=X)(C:Iy P t=Y n)(h:(AD.xia y j n).wp S O (Y d) K):At P F0 w0 a w o d K:=by
 simp only[AD.wp]at h;cases I:y.yg O with
 |none=>rw[I]at h;exact h.elim|some p=>
  obtain ⟨⟨q,κ⟩,m,es⟩:=p;rw[I]at h;simp only[Ad]at h;split at h
  .rename_i k D θ;obtain⟨⟨_,rfl⟩,η,M,ζ⟩:=h;obtain⟨δ,N⟩:=OP l H I;have A:=Ar l u θ;simp only[Af]at A;obtain⟨g,cap,cur,e,xs,R,_⟩:=gR l δ N (by rintro rfl;simp at M;omega);unfold Iy at C;split at C
   .rename_i el ε;have J:0<=D/\D<(es.length:Int):=⟨η,M⟩;refine⟨.pointer (Y ⟨g,D.toNat*m,W⟩),w,?_,_,_,ζ,_,l.quiet (Below.refl _ _) d hd (.lp q κ (D.toNat*m)) _ (λ_=>W) V V V ?_ trivial⟩
    .simp[execOp,E,R,A.1,Instr.indexAt,asIntOf,run_underlying ε,J,Bv C,Addr.add_lit]
    .simp only[AL];rintro⟨pp,L⟩;have B:=AB.x4 V V L;exact⟨g,_,_,l.xv ⟨_,B.2⟩ (AY _ _ _ _ B.1) (λ_ _=>rfl) _ (by rw[<-R];exact N),rfl⟩
   .cases C
  .exact h.elim
theorem fH(k:AN F0 w0 O a w G)(h:AK x y=X){q c:Nat}{p:Nat×Fq}(j:y.ev O=.lp q i c)(l:O.x5 q i=Y p):∃g len cap,XV a w q i (.slice (Y ⟨g,0,W⟩) len cap)/\a.eval x=.pointer (Y ⟨g,c,W⟩):=by
 cases y with
 |c t=>simp[AE.ev]at j|s m=>
  have u:x=.tmp m:=by
   cases x<;>simp[AK]at h;rw[h]
  subst u;simp only[AE.ev]at j;have:=AZ k j V;simp only[AL]at this;exact this ⟨p,l⟩
theorem nD(l:AN F0 w0 O a w G)(hd:d<a.tmps.size){f k:Nat}(m:o.op=.fieldAddr t x f)(u:AK x y=X)(B:PQ P t f=Y k)(h:(AD.xfa y k).wp S O (Y d) K):At P F0 w0 a w o d K:=by
 simp only[AD.wp]at h;split at h
 .rename_i q i c C;split at h
  next I D=>obtain⟨g,len,cap,E,H⟩:=fH l u C D;refine⟨.pointer (Y ⟨g,c+k,W⟩),w,by simp[execOp,m,H,Ue B],_,_,h,_,l.quiet (Below.refl _ _) d hd (.lp q i (c+k)) _ (λ_=>W) V V V ?_ trivial⟩;simp only[AL];rintro⟨J,A⟩;have j:=AB.x4 V V A;exact⟨g,_,_,l.xv ⟨_,j.2⟩ (AY _ _ _ _ j.1) (λ_ _=>rfl) _ E,rfl⟩
  .exact h.elim
 .exact h.elim
theorem nF(l:AN F0 w0 O a w G)(hd:d<a.tmps.size)(m:o.op=.load t x)(u:AK x y=X)(J:Bs P t=Y T)(h:(AD.xld y).wp S O (Y d) K):At P F0 w0 a w o d K:=by
 simp [AD.wp]at h;split at h
 .rename_i q i c L;split at h
  .rename_i M A;obtain⟨n,es⟩:=M;simp only at h;cases k:(es.flatMap TV.cells)[c]? with
   |none=>rw[k]at h;exact h.elim|some t'=>
    rw [k]at h;simp[Ad]at h;have B:es≠[]:=by rintro rfl;simp at k
    obtain ⟨g,len,cap,D,ε⟩:=fH l u L A;obtain⟨g',E,C,e,xs,H,κ,f3,f4,f5,f6,f7,I,f9,η,ζ⟩:=gR l A D B;simp at H;obtain⟨rfl,rfl,rfl⟩:=H;have N:c<(es.flatMap TV.cells).length:=by
     grind
    have R:=A9 I;obtain⟨y,δ⟩:∃y,xs[c]?=Y y:=⟨_,v9 U⟩;have j:w.cell? ⟨g,c,W⟩=Y y:=by
     rw [cell_of_row w g c C e (0,0) κ]
     grind
    have θ:=(Oq l A D).1;refine CM l hd (v:=y) ?_ (((BQ _ _).1 I).2 c t' _ k δ) ?_ h
    .simp[execOp,m,ε,Instr.loadAt,Instr.sureAddr,loadVar,CO J,j]
    .have:=θ.2;rw[Bg]at this;have hm:=u? k
     grind [Bg,Hh]
  .exact h.elim
 .exact h.elim
theorem cb{t:TV}(h:TV.tl t.cells):t.WF:=by
 cases t<;>simp[TV.cells,TV.tl]at h<;>first|exact h|(simp[TV.WF];exact h)
theorem bq{es:Fq}(h:TV.tl es):TV.tl (es.flatMap TV.cells):=by grind[Bg,Hh]
theorem Uo:∀{es:Fq},TV.tl (es.flatMap TV.cells)->TV.tl es
 |[],_=>trivial|e::es,h=>by
  rw [u!]at h;rw[J1]at h;exact⟨cb h.1,Uo h.2⟩
variable{ts:Fq}
theorem cT{w:World}{F:Nat->Nat->Prop}{xs:List Value}(h:AP w F ts xs)(c:Nat):AP w F (ts.take c) (xs.take c):=by
 rw [BQ]at h|-
 grind
theorem cR{w:World}{F:Nat->Nat->Prop}{xs:List Value}(h:AP w F ts xs)(c:Nat):AP w F (ts.drop c) (xs.drop c):=by
 rw [BQ]at h|-
 grind
theorem nG(C:AN F0 w0 O a w G){x v:Operand}{x' η:AE}{m:Nat}(H:o.op=.store t x v)(ζ:AK x x'=X)(hv:AK v η=X)(hn:Ce P t=Y m)(h:(AD.xst x' η m).wp S O W K):HD P F0 w0 a w o K:=by
 simp [AD.wp]at h;split at h
 .rename_i q i c hy;split at h
  .rename_i n es u E hu;obtain⟨⟨h1,h0⟩,δ,es',h3,B,h5,hK⟩:=h;obtain⟨g,len,cap,θ,e2⟩:=fH C ζ hy E;have D:=(Oq C E θ).1;have I:=Ar C hv (t:=u) (by simp[AE.val,hu,EV.val]);have h6:TV.tl es':=by
    have h7:=bq D.2
    grind [TV.tl,TV.cells,Bg,v_,Hh,v!,Uo]
   have J:es≠[]:=by rintro rfl;simp at δ;omega
   obtain ⟨g',cap',j,e,xs,f1,f2,f3,f4,f5,f6,f7,f8,f9,f10,ε⟩:=gR C E θ J;simp at f1;obtain⟨rfl,rfl,rfl⟩:=f1;obtain⟨k2,k3⟩:=GG I.1;obtain⟨ys,κ⟩:∃ys,(a.eval v).cells.toList=ys:=⟨_,rfl⟩;rw[κ]at k2 k3;have A:ys.length=m:=by rw[A9 k2,h1]
   have hcc:c+m<=j.size:=by rw[f5];exact D! δ (D? _ f3)
   have l:=run_storeCells_at P g c e ys 0 j w f2 U k3;simp at l;have L:(a.eval v).cells.size=m:=by rw[<-F?,κ,A]
   have M:(execOp a.eval o).run P w=.ok .skip (w.setRow g (j.toList.take c++ys++j.toList.drop (c+m)).toArray):=by
    rw [A]at l;simp[execOp,H,e2,Instr.storeAt,Instr.sureAddr,storeVar,Bv hn,L,κ,l]
   refine ⟨_,M,_,hK,G,?_⟩;have N:xs.length=es.length*n:=ε;refine C.rexo E θ (w':=w.setRow g (j.toList.take c++ys++j.toList.drop (c+m)).toArray) (xs':=xs.take c++ys++xs.drop (c+m)) ⟨rfl,rfl,rfl,V,λk _ hk=>setRow_other w g k _ (λe=>hk 0 (by rw[e];exact f7))⟩ ⟨Y (g,es.length*n),⟨by simp[A,N,B];omega,.inr ⟨g,cap,_,e,by rw[B],setRow_heap w g j _ e _ f2,by rw[B];exact f3,f4,?_,?_,by rw[B]⟩⟩,by rw[f7];rfl⟩ (λhag=>?_) h5 (λx ζ=>?_) ⟨by rw[B];exact D.1,h6⟩
   .grind
   .rw[B,<-f6];have R:c<=j.toList.length:=by rw[F?];omega
    have hA:(j.toList.take c++ys).length=c+m:=by rw[bk,cE,A,E_ R]
    show (j.toList.take c++ys++j.toList.drop (c+m)).take (es.length*n)=_
    grind [v?,w_,E_,List.drop_take]
   .grind[Aj,Hw,cT,cR]
   grind
  .exact h.elim
 .exact h.elim
theorem bh(l:AN F0 w0 O a w G)(hd:d<a.tmps.size)(g:o.op=.move (.tmp s)\/o.op=.assign (.tmp s))(h:(AD.rel s).wp S O (Y d) K):At P F0 w0 a w o d K:=by
 simp [AD.wp]at h;split at h
 .rename_i J n es k m;simp at k;subst k;obtain⟨u,E⟩:=h;have A:=AZ l m V;have B:=l.wf s;rw[m]at B;simp[AL]at A;obtain⟨xs,⟨z0,L,j⟩,M,N,R⟩:=A;refine⟨slot a s,w,by rcases g with g|g<;>simp[execOp,g,show a.eval (.tmp s)=slot a s from rfl],_,_,E,l.xgo m hd u (z':=z0) rfl rfl rfl (b6 _) (λ_ _ _=>rfl) (λb lo C=>?_) V V (λF' H env' a' D I _=>?_) B⟩
  .rw[C]at j;exact⟨(l.lt _ _ _ _ j).1,.inr ⟨_,j⟩⟩
  grind [AL,Bm,Aj]
 .exact h.elim
theorem bi(k:AN F0 w0 O a w G)(hd:d<a.tmps.size)(g:o.op=.move (.tmp s)\/o.op=.assign (.tmp s))(h:(AD.tkx s).wp S O (Y d) K):At P F0 w0 a w o d K:=by
 simp [AD.wp]at h;split at h
 .rename_i J n es j l;simp at j;subst j;obtain⟨m,u,E⟩:=h;have B:=AZ k l V;have C:=k.wf s;rw[l]at C;simp[AL]at B;obtain⟨xs,L,M,N,R⟩:=B;refine⟨slot a s,w,by rcases g with g|g<;>simp[execOp,g,show a.eval (.tmp s)=slot a s from rfl],_,_,E,k.xgo l hd u (z':=G s W) rfl rfl rfl (b6 _) (λ_ _ _=>rfl) (λb lo A=>⟨(k.lt _ _ _ _ A).1,.inr ⟨_,A⟩⟩) V (λ_=>m) (λF' H env' a' D I _=>?_) C⟩
  grind [AL,Aj]
 .exact h.elim
theorem AN.Aa7(h:AN F0 w0 O a w G){w':World}(A:Below w.heap.size w w')(hd:d<a.tmps.size)(u:O.jj d=X){es:Fq}{z:Option (Nat×Nat)}{xs:List Value}(j:Fd w' n v es.length xs z)
  (B:∀b lo,z=Y (b,lo)->w.heap.size<=b/\b<w'.heap.size)
  (k:∀F',(∀b o,F' b o->(b<w.heap.size/\AW w0.heap.size F0 G b o)\/∃lo,z=Y (b,lo))->AP w' F' (es.flatMap TV.cells) xs)(C:∀e∈es,e.cells.length=n)(D:∀x∈xs,x.oneCell'=X)(E:(TV.list n es).WF):
  Bj F0 w0 ((d,.xo n es)::O) (a.put (Y d) v) w':=by
 refine ⟨_,h.quiet A d hd (.xo n es) v (λi=>if i=W then z.map (λp=>(p.1,0))else W) (λi b lo hi=>?_) (λi I b lo H g m=>?_) (λ_=>u) ?_ E⟩
 .split at hi
  .cases z with
   |none=>simp at hi|some p=>
    simp at hi;exact hi.1▸B p.1 p.2 rfl
  .cases hi
 .split at g
  .split at m
   .simp_all
   .cases m
  .cases g
 .simp[AL];refine⟨xs,⟨z,j,by rw[Bt];simp⟩,k _ (λb o hf=>?_),C,D⟩;rcases hf with hf|⟨p,i,lo,g,m⟩
  .exact .inl ⟨D' hf.1 h.below.size,.inl hf⟩
  .by_cases l:p=d
   .subst l;rw[Bt]at g;split at g
    .cases z with
     |none=>simp at g|some q=>
      simp at g;exact .inr ⟨q.2,by rw[<-g.1]⟩
    .cases g
   .rw[BC _ _ _ _ l]at g;exact .inl ⟨(h.lt _ _ _ _ g).1,.inr ⟨p,i,lo,g,m⟩⟩
theorem Y7(k:AN F0 w0 O a w G)(hd:d<a.tmps.size)(g:o.op=.move x\/o.op=.assign x)(l:∃v,x=.const v/\L8 v=X)(h:(AD.Aau n).wp S O (Y d) K):At P F0 w0 a w o d K:=by
 simp [AD.wp]at h;obtain⟨j,m⟩:=h;obtain⟨v,rfl,hv⟩:=l;have hv:=JV hv;subst hv;refine⟨.slice W 0 0,w,by rcases g with g|g<;>simp[execOp,g,Act.eval],_,_,m,k.Aa7 (Below.refl _ _) hd j (z:=W) (xs:=[]) ⟨V,.inl ⟨rfl,rfl,rfl⟩⟩ V (λ_ _=>rfl) V V ⟨V,trivial⟩⟩
variable{f:FuncId}{ats:Array TypeId}{Q:Exit->Act->World->Prop}
theorem gK(D:AN F0 w0 O a w G)(hd:d<a.tmps.size)(l:o.dst=Y d){xs:Array Operand}{ys:List AE}(N:o.op=.call {callee:=.value (.func f),args:=xs,argTypes:=ats})(R:BO xs.toList ys=X)(h:(AD.zH f ys).wp (AX P) O (Y d) K)
  {next:Act->World->Prop}(ζ:∀e env' a' w',K e env'->Qa a d a'->Bj F0 w0 ((d,e)::env') a' w'->next a' w'):o.wp P a w next Q:=by
 simp [AD.wp]at h;obtain⟨κ,h⟩:=h;cases j:vals O ys with
 |none=>rw[j]at h;exact h.elim|some ts=>
  rw [j]at h;simp[Ad]at h;obtain⟨n,es,A,hK⟩:=h;have hv:=FT D R j;have m:(execOp a.eval o).run P w=(callFunc f (xs.map a.eval)).run P w:=by simp[execOp,N,resolve,Act.eval,Deferred.ofValue,invoke]
  have key:Dl P f=X/\(TV.list n es).WF/\Calls P f (xs.map a.eval) w λe w'=>∃v z g,e=.returned v/\Below w.heap.size w w'/\Fd w' n v es.length g z/\(∀F',(∀b o,F' b o->(b<w.heap.size/\AW w0.heap.size F0 G b o)\/∃lo,z=Y (b,lo))->AP w' F' (es.flatMap TV.cells) g)/\(∀e∈es,e.cells.length=n)/\(∀x∈g,x.oneCell'=X)/\∀b lo,z=Y (b,lo)->w.heap.size<=b/\b<w'.heap.size:=by
   rcases A with A|⟨A,hfl⟩
   .obtain⟨B,η⟩:=(A.to0 rfl) hv.2;obtain⟨k,C⟩:=η (AW w0.heap.size F0 G) w (xs.map a.eval) k? D.below.now;refine⟨B,k,C.mono ?_⟩;rintro e w' ⟨v,rfl,E,z,g,H,I,J,L,M⟩;exact⟨v,z,g,rfl,E,H,λF' θ=>Aj (λb o u δ hf=>⟨δ,λε=>hf (θ b o ε)⟩) _ _ I,J,L,M⟩
   .obtain⟨B,η⟩:=(A.to0 rfl) hv.2;obtain⟨k,C⟩:=η (AW w0.heap.size F0 G) w (xs.map a.eval) k? D.below.now;refine⟨B,k,C.mono ?_⟩;rintro e w' ⟨v,rfl,E,z,⟨g,H,I,J,L⟩,M⟩
    grind [GF,Mc]
  obtain ⟨B,k,C⟩:=key;unfold Oper.wp;rw[m,ER B _,Oper.upon_enter];refine C.mono ?_;rintro e w' ⟨v,z,g,rfl,E,H,I,J,L,M⟩;simp[l];exact ζ _ _ _ _ (hK k) ⟨_,rfl⟩ (D.Aa7 E hd κ H M I J L k)
theorem gH(k:AN F0 w0 O a w G)(hd:d<a.tmps.size)(B:o.dst=Y d){xs:List Operand}{ys:List AE}(L:o.op=.call {callee:=.value (.func f),args:=(x::xs).toArray,argTypes:=ats})(M:AK x y=X)(C:BO xs ys=X)(h:(AD.zC f y ys).wp (AX P) O (Y d) K)
  {next:Act->World->Prop}(hn:∀e env' a' w',K e env'->Qa a d a'->Bj F0 w0 ((d,e)::env') a' w'->next a' w'):o.wp P a w next Q:=by
 simp only[AD.wp]at h;cases R:y.yg O with
 |none=>rw[R]at h;exact h.elim|some p=>
  obtain ⟨⟨q,i⟩,m,es⟩:=p;rw[R]at h;simp only[Ad]at h;obtain⟨rfl,h⟩:=h;cases l:vals O ys with
  |none=>rw[l]at h;exact h.elim|some ts=>
  rw [l]at h;obtain⟨zs,u,E,rfl,⟨A,ts2,g,hc,H,hS⟩,hK⟩:=h;simp only[List.cons.injEq,TV.list.injEq,true_and]at g;obtain⟨g,rfl⟩:=g;have θ:A=zs:=by
   have:=congrArg (List.map λt=>match t with|.int _ n=>n|_=>0) g;simpa[w!,Function.comp_def]using this.symm
  subst θ;obtain⟨hq,hx⟩:=OP k M R;obtain⟨ζ,xs',h1,h2,h3,h4⟩:=Oq k hq hx;obtain⟨hv,δ⟩:=FT k C l;have ε:xs'=A.map (Value.int .i64):=by
   have:∀(zs:Fp)(xs:List Value),AP w (AW w0.heap.size F0 G) ((zs.map (TV.int .i64)).flatMap TV.cells) xs->xs=zs.map (Value.int .i64):=by
    intro zs
    induction zs with
    |nil=>intro xs h;exact h|cons z zs ih=>
     grind [TV.cells,w?,AP,Af]
   exact this A xs' h2
  subst ε;have D:(execOp a.eval o).run P w=(callFunc f (a.eval x::xs.map a.eval).toArray).run P w:=by simp[execOp,L,resolve,Act.eval,Deferred.ofValue,invoke]
  unfold Oper.wp;rw[D,ER hc _,Oper.upon_enter];refine(hS _ w (a.eval x) _ (G q i) ζ δ (by simpa using h1) hv (λb lo o J N=>.inr ⟨q,i,lo,J,N⟩) (λb lo J=>⟨(k.lt _ _ _ _ J).1,k.low J⟩) k.below.now).mono ?_;rintro e w' ⟨⟨I,j⟩,⟨r,rfl,hu⟩,r1,r2⟩;simp only[B];have κ:=k.rexo hq hx r2 (es':=u.map (TV.int .i64)) (xs':=u.map (Value.int .i64)) (by rw[c8,I];exact r1) (λ_=>?_) (by simp[TV.cells]) j? j.1
  .have η:∀F,P5 w' F E r:=λF=>by
    rcases E with _|⟨t,_|⟨t',E⟩⟩
    .exact hu
    .exact Su t (by simpa[TV.yl]using H) _ hu
    .obtain⟨vs,e1,e2⟩:=hu;exact⟨vs,e1,GF _ H _ e2⟩
   rcases E with _|⟨t,_|⟨t',E⟩⟩
   all_goals
    refine hn _ _ _ _ (hK j) ⟨_,rfl⟩ ⟨_,κ.quiet (Below.refl _ _) d hd (EV.ofs _) _ (λ_=>W) (by simp[EV.ofs]) (by simp[EV.ofs]) (by simp[EV.ofs]) ?_ ?_⟩
    .simp only[EV.ofs,AL];exact η _
    .first|exact trivial|exact j.2.1|exact j.2
  .have:∀(zs:Fp),AP w' (AW w0.heap.size F0 G) ((zs.map (TV.int .i64)).flatMap TV.cells) (zs.map (Value.int .i64)):=by
    intro zs
    induction zs with
    |nil=>rfl|cons z zs ih=>
     grind [TV.cells,w?,AP,Af]
   exact this u
theorem YW{w:World}{F:Nat->Nat->Prop}:∀(zs:Fp),AP w F ((zs.map (TV.int .i64)).flatMap TV.cells) (zs.map (Value.int .i64))
 |[]=>rfl|z::zs=>by
  simp only[x_,u!,TV.cells,w?,AP,Af];exact⟨_,_,rfl,rfl,YW zs⟩
theorem Yz{w:World}{F:Nat->Nat->Prop}:∀(zs:Fp)(xs:List Value),AP w F ((zs.map (TV.int .i64)).flatMap TV.cells) xs->xs=zs.map (Value.int .i64)
 |[],xs,h=>h|z::zs,xs,h=>by
  simp [TV.cells,AP,Af]at h;obtain⟨v,r,rfl,rfl,h⟩:=h;rw[Yz zs r h];rfl
theorem gD(j:AN F0 w0 O a w G)(hd:d<a.tmps.size)(l:o.dst=Y d)(C:o.op=.call {callee:=.value (.func f),args:=#[x],argTypes:=ats})(D:AK x y=X)(h:(AD.z8 f y).wp (AX P) O (Y d) K)
  {next:Act->World->Prop}(ζ:∀e env' a' w',K e env'->Qa a d a'->Bj F0 w0 ((d,e)::env') a' w'->next a' w'):o.wp P a w next Q:=by
 simp only[AD.wp]at h;cases H:y.yg O with
 |none=>rw[H]at h;exact h.elim|some p=>
  obtain ⟨⟨q,i⟩,m,es⟩:=p;rw[H]at h;simp only[Ad]at h;obtain⟨⟨L,rfl⟩,rfl,M,zs,N,rfl,⟨R,A,hc,g,hS⟩,hK⟩:=h;simp only[List.cons.injEq,TV.list.injEq,true_and,and_true]at A;have I:R=zs:=by
   have:=congrArg (List.map λt=>match t with|.int _ n=>n|_=>0) A;simpa[w!,Function.comp_def]using this.symm
  subst I;obtain⟨B,κ⟩:=OP j D H;replace B:=AB.x8 B;simp only[XV]at κ;replace g:=g (by have:=j.wf q;rw[B]at this;exact this);have ε:=AZ j B V;simp only[AL]at ε;obtain⟨xs,h1,h2,h3,h4⟩:=ε;have J:=Yz _ _ h2;subst J;have u:(execOp a.eval o).run P w=(callFunc f #[slot a q]).run P w:=by simp[execOp,C,resolve,Act.eval,Deferred.ofValue,invoke,<-κ]
  unfold Oper.wp;rw[u,ER hc _,Oper.upon_enter];refine(hS w (slot a q) (G q W) (by simpa using h1)).mono ?_;rintro e w' ⟨v',rfl,r1,r2⟩;simp only[l];obtain⟨b1,b2,b3,η,b5⟩:=r2;refine ζ _ _ _ _ (hK g) ⟨_,rfl⟩ (j.xgo B hd (λe=>L e.symm) (z':=G q W) b1 b2 b3 η (λk E δ=>b5 k E δ) (λb lo θ=>⟨D' (j.lt _ _ _ _ θ).1 η,.inr ⟨_,θ⟩⟩) V (λ_=>M) (λF' G' env' a' hag hG _=>?_) g);simp only[AL];rw[hG];exact⟨_,by simpa using r1,YW N,by simp[TV.cells],j?⟩
variable{z:Value}
theorem jq(δ:AN F0 w0 O a w G)(hd:d<a.tmps.size){i:TypeInfo}(hop:o.op=.call {callee:=.builtin .append,args:=#[.tmp s,x],argTypes:=#[t,t]})
  (ht:P.underlying t=Y (.slice e))(hi:P.info? e=Y i)(A:i.zero=Y z)(E:i.size=n)(hby:i.bytes<=4096)(hzs:z.cells.size=n)(hn:0<n)
  (hok:AK x y=X)(h:(AD.Aah n s y).wp S O (Y d) K):At P F0 w0 a w o d K:=by
 simp only[AD.wp]at h;split at h
 .rename_i d' m es m' J N hs hy;simp only[t5]at N;subst N;obtain⟨hm1,hm2,ε,hno,hds,hK⟩:=h;subst hm2;subst hm1;have D:=AZ δ hs V;have H:=δ.wf s;rw[hs]at H;simp only[AL]at D;obtain⟨xs,⟨z0,h1,κ⟩,h2,h3,h4⟩:=D;have hv:=Ar δ hok hy;simp only[Af]at hv;obtain⟨⟨ad,cap,h5,h6,h7,h8⟩,h9⟩:=hv;have I:∃g:List Value,AP w (AW w0.heap.size F0 G) (J.flatMap TV.cells) g/\(∀x∈g,x.oneCell'=X)/\(∀f∈J,f.cells.length=m)/\∀b,ad=Y b->∀(j:Nat)(u:Value),g[j]?=Y u->w.cell? (b.add j)=Y u:=by
   cases ad with
   |none=>
    have:=h7 rfl;subst this;exact⟨[],rfl,V,V,V⟩
   |some b=>
    obtain ⟨C,h11⟩:=h8 b rfl;obtain⟨bb,B,sp⟩:=b;simp only at C h11;by_cases θ:J=[]
    .subst θ;exact⟨[],rfl,V,V,V⟩
    have C:sp=W:=C.resolve_left θ;subst C;have hrow:∀(l:Fq)(B:Nat),H4 w (AW w0.heap.size F0 G) m l bb B->C0 w (AW w0.heap.size F0 G) (l.flatMap TV.cells) bb B/\∀f∈l,f.cells.length=m:=by
     intro l
     induction l with
     |nil=>intro B _;exact⟨trivial,V⟩|cons f l ih=>
      grind [QK,IS]
    grind [Sx,t5]
  obtain ⟨g,n1,n2,n3,n4⟩:=I;have hnl:g.length=J.length*m:=by rw[A9 n1,O2 m J n3]
  obtain ⟨v',w',z',η,r1,L⟩:=Px (P:=P) t o.type e i z m ht hi A E hby hzs hn (slot a s) es.length xs z0 h1 ad J.length cap g hnl (λe=>by rw[h7 e];rfl) h6 n4 n2 ε;have hnz:∀k,(∀lo,G s W≠Y (k,lo))->∀lo,z0≠Y (k,lo):=λk hk lo A=>hk 0 (by rw[κ,A];rfl);refine⟨v',w',?_,_,_,hK,δ.xgo hs hd hds (z':=z'.map λp=>(p.1,0)) L.os L.tape L.output L.size (λk hk A=>L.other k hk (hnz k A)) (λb lo A=>?_) V (λ_=>hno) (λF' G' env' a' M hG _=>?_) ?_⟩
  .simp[execOp,hop,resolve,invoke,builtin,show a.eval (.tmp s)=slot a s from rfl,h5,η]
  .cases z' with
   |none=>simp at A|some p=>
    simp only[G?,t5,Prod.mk.injEq]at A;obtain⟨k1,ζ⟩:=L.AaT p.1 p.2 rfl;rw[<-A.1];refine⟨k1,?_⟩;rcases ζ with ζ|⟨lo',ζ,_⟩
    .exact .inl ζ
    .exact .inr ⟨0,by rw[κ,ζ];rfl⟩
  .simp only[AL];rw[hG];refine⟨xs++g,⟨z',by rw[bk];exact r1,rfl⟩,?_,?_,?_⟩
   .rw[x!];exact Hw (Aj M _ _ h2) (Aj M _ _ n1)
   .intro e he;rcases x?.1 he with he|he
    .exact h3 e he
    .exact n3 e he
   .intro x R;rcases x?.1 R with R|R
    .exact h4 x R
    .exact n2 x R
  .simp only[EV.WF,TV.WF]at H h9|-;exact⟨by rw[bk];exact UK U,J1.2 ⟨H.2,h9.2⟩⟩
 .exact h.elim
variable{z0:Value}
theorem ml(κ:AN F0 w0 O a w G)(hd:d<a.tmps.size){x x':Operand}{ty e:TypeId}{l:TypeInfo}{t:TV}(D:o.op=.makeSlice ty x x')(η:AK x y=X)(E:AK x' y=X)
  (A:P.underlying ty=Y (.slice e))(H:P.info? e=Y l)(θ:l.zero=Y z)(hs:l.size=1)(ζ:l.bytes<=4096)(δ:z.cells=#[z0])(hc:Dx t z0=X)(h1c:z0.oneCell'=X)(I:t.cells=[t])
  (h:(AD.mkx 1 [t] y).wp S O (Y d) K):At P F0 w0 a w o d K:=by
 simp [AD.wp]at h;split at h
 .rename_i d' ik j J hy;simp[t5]at J;subst J;obtain⟨hno,h0,hmax,hK⟩:=h;have hv:=(Ar κ η hy).1;have B:=(Ar κ E hy).1;simp[Af]at hv B;obtain⟨m,rfl⟩:∃m:Nat,j=m:=⟨j.toNat,U⟩;have hm:m<=4096:=U
  have hw1:IntKind.i64.wrap (m:Int)=m:=by
   have e1:(2:Int)^ 64=18446744073709551616:=a?
   have e2:(2:Int)^ (64-1)=9223372036854775808:=a?
   simp [IntKind.wrap,IntKind.bits,IntKind.signed,Bool.true_and,yk,e1,e2,ge_iff_le];split<;>omega
  have ε:m*l.bytes<=16777216:=by
   calc m*l.bytes<=4096*4096:=E' hm ζ
    _=16777216:=a?
  have g:(Array.range m).map (λq=>([z0]:List Value)[q % 1]?.getD default)=G_ m z0:=by
   grind
  have L:¬(281474976710656<(l.bytes:Int)*(m:Int)):=by
   grind
  have C:¬(m*l.bytes>roomBytes):=by
   have:roomBytes≥16777216:=a?
   omega
  have M:¬((m:Int)<0):=U
  have N:(execOp a.eval o).run P w=.ok (.value (.slice (Y ⟨w.heap.size,0,W⟩) m m)) (w.alloc (.cells (G_ m z0) e)):=by
   by_cases R:m=0
   .subst R;have hw0:IntKind.i64.wrap 0=0:=a?
    simp [execOp,D,hv,B,Instr.makeSlice,run_underlying A,asInt,asIntOf,typeInfo,H,hw0,askRoom,sizeOf,hs,newRow]
    grind
   .simp[execOp,D,hv,B,Instr.makeSlice,run_underlying A,asInt,asIntOf,typeInfo,H,hw1,askRoom,sizeOf,hs,newRow,L,C,M,R,zeroValue,θ,δ,g]
  have hb:Below w.heap.size w (w.alloc (.cells (G_ m z0) e)):=(Below.refl _ _).alloc (b6 _) _;have hcr:=Gr (w.alloc (.cells (G_ m z0) e)) (λ_ _=>False) t z0 hc;have hfm:∀k,(y_ k t).flatMap TV.cells=y_ k t:=by
   intro k
   induction k with
   |zero=>rfl|succ k ih=>rw[y!,u!,ih,I];rfl
  simp [Int.toNat_natCast]at hK;refine⟨_,_,N,_,_,hK,κ.Aa7 hb hd hno (z:=Y (w.heap.size,m*1)) (xs:=y_ m z0) ⟨V,.inr ⟨w.heap.size,m,_,e,V,heap_alloc_new w _,V,by simp[maxLen];omega,V,V,V⟩⟩ (λb lo θ=>?_) (λF' _=>?_) (λu A=>?_) (λv hv=>?_) ⟨by simp[y?,Jm];omega,?_⟩⟩
  .simp[t5,Prod.mk.injEq]at θ;rw[<-θ.1];exact⟨b6 _,V⟩
  .rw[hfm,BQ];refine⟨V,λi u v A hv=>?_⟩;rw[z9 (u? A),z9 (u? hv)];exact(Gr _ F' t z0 hc).1
  .rw[z9 A,I];rfl
  .rw[z9 hv];exact h1c
  .rw[Bg];intro u A;rw[z9 A];exact hcr.2
 .exact h.elim
def fN(P:Program)(t:TypeId)(f k n:Nat)(agg:Bool):Bool:=
 match P.underlying t with
 |some (.struct fs)=>(match fs[f]? with
  |some x=>x.offset==k&&Ce P x.type==Y n&&Bs P x.type==Y agg|none=>T)
 |_=>T
theorem jz(C:AN F0 w0 O a w G)(hd:d<a.tmps.size){f k n:Nat}{agg:Bool}(A:o.op=.field t x f)(D:AK x y=X)(hf:fN P t f k n agg=X)(h:(AD.AaN y k n agg).wp S O (Y d) K):At P F0 w0 a w o d K:=by
 simp only[AD.wp]at h;split at h
 .rename_i cs R;obtain⟨η,g⟩:=h;have hv:=Ar C D R;simp only[Af,TV.WF]at hv;obtain⟨⟨vs,L,H,ζ⟩,M⟩:=hv;unfold fN at hf;split at hf
  .rename_i κ I;split at hf
   .rename_i j B;simp only[sx,beq_iff_eq]at hf;obtain⟨⟨rfl,ε⟩,N⟩:=hf;have J:=A9 H;rw[BQ]at H;rw[Bg]at M;cases agg with
    |true=>
     simp only[if_true]at g;refine CM C hd (v:=.agg (vs.extract j.offset (j.offset+n))) (t:=.agg ((cs.drop j.offset).take n)) ?_ ?_ ?_ g
     .simp[execOp,A,L,Instr.field,run_underlying I,B,part,CO N,Bv ε,asAgg]
     .simp only[Af];refine⟨_,rfl,?_,?_⟩
      .rw[BQ]
       grind
      grind
     .simp only[TV.WF];rw[Bg]
      grind
    |false=>
     simp only[Bool.false_eq_true,if_false]at g;cases E:cs.drop j.offset with
     |nil=>rw[E]at g;simp[Gf,Ad]at g|cons u r=>
      rw [E]at g;simp only[Gf,Ad]at g;have m:cs[j.offset]?=Y u:=by
       have:=congrArg (λl=>l[0]?) E;simpa[z_]using this
      have θ:j.offset<cs.length:=(z!.1 m).1;obtain⟨v,hv⟩:∃v,vs.toList[j.offset]?=Y v:=⟨_,v9 U⟩;refine CM C hd (v:=v) (t:=u) ?_ (H.2 _ u v m hv) (M u (u? m)) g;rw[G!]at hv;simp[execOp,A,L,Instr.field,run_underlying I,B,part,CO N,asAgg,hv]
   .cases hf
  .cases hf
 .exact h.elim
def lM(P:Program)(ty:TypeId)(n:Nat)(zero:Fq):Bool:=
 match P.underlying ty,zero with
 |some (.slice e),[t]=>(match P.info? e with
  |some ie=>(match ie.zero with
   |some z=>(match z.cells.toList with
    |[z0]=>n==1&&ie.size==1&&decide (ie.bytes<=4096)&&Dx t z0&&z0.oneCell'&&(match t with|.int _ _=>X|.bool _=>X|.str _=>X|_=>T)
    |_=>T)
   |none=>T)
  |none=>T)
 |_,_=>T
theorem qE(A:AN F0 w0 O a w G)(hd:d<a.tmps.size){x x':Operand}{ty:TypeId}{zero:Fq}(k:o.op=.makeSlice ty x x')(l:AK x y=X)(j:AK x' y=X)(g:lM P ty n zero=X)
  (h:(AD.mkx n zero y).wp S O (Y d) K):At P F0 w0 a w o d K:=by
 unfold lM at g;split at g
 .rename_i e t B;split at g
  .rename_i L m;split at g
   .rename_i z C;split at g
    next z0 u=>simp[yk]at g;obtain⟨⟨⟨⟨⟨rfl,D⟩,E⟩,H⟩,I⟩,J⟩:=g;exact ml A hd k l j B m C D E (bm u) H I (by cases t<;>first|rfl|cases J) h
    .cases g
   .cases g
  .cases g
 .cases g
theorem ru{args:Fq}{t:TV}(h:AX P f args (.own t)):AX P f args (.sh t):=by
 intro l;obtain⟨A,B⟩:=h l;refine⟨A,λF0 w vs hv j=>?_⟩;obtain⟨C,D⟩:=B F0 w vs hv j;refine⟨C,D.mono ?_⟩;rintro e w' ⟨v,rfl,E,z,H,J⟩;refine⟨v,rfl,E,?_⟩;have m:=Bm.rep H (λb lo o I ho=>by
  grind)
 exact By (λb o u k hf=>⟨k,λg=>hf (.inl g)⟩) _ _ m
theorem PY(h:v.oneCell'=X):v.cells=#[v]:=by
 cases v<;>first|rfl|simp[Value.oneCell']at h
theorem nC(u:AN F0 w0 O a w G){x v:Operand}(hop:o.op=.store t x v)(C:AK x (.s s)=X)(hv:AK v (.s q)=X)(hn:Ce P t=Y n)(h:(AD.stx n s q).wp S O W K):HD P F0 w0 a w o K:=by
 simp only[AD.wp]at h;split at h
 .rename_i cs ds hs hq;obtain⟨J,⟨κ,D⟩,ho,hK⟩:=h;have hp:(AE.s s).place O=Y (s,0):=by simp[AE.place,hs]
  revert hp ho hK
  suffices key:∀g,g+n<=cs.length->K .undef ((s,.bx (cs.take g++ds++cs.drop (g+n)))::(q,.undef)::O)->(AE.s s).place O=Y (s,g)->HD P F0 w0 a w o K from key 0
  .intro g ho hK hp;have hvq:v=.tmp q:=by
    cases v<;>simp[AK]at hv;rw[hv]
   subst hvq;obtain⟨b,hsl,hadr⟩:=Gp u C hp hs;have hr:=AZ u hs V;simp only[AL]at hr;obtain⟨δ,c,θ,h1,h2,h3,h4,h5⟩:=hr;rw[hsl]at h1;simp only[Value.pointer.injEq,t5,Addr.mk.injEq,and_true,and_self]at h1;subst h1;have hrq:=AZ u hq V;simp only[AL]at hrq;obtain⟨vs,B,m,e3⟩:=hrq;have ε:=u.wf s;rw[hs]at ε;have hwq:=u.wf q;rw[hq]at hwq;have hone:∀y∈vs.toList,y.oneCell'=X:=by
    intro y E;obtain⟨i,hi⟩:=z? E;have l:i<ds.length:=by have:=(z!.1 hi).1;simpa[m]using this
    obtain ⟨x,C,hc⟩:=e3 i _ (v9 l);rw[G!,C]at hi;simp only[t5]at hi;subst hi;exact GW hc
   have hev:a.eval (.tmp q)=.agg vs:=B;have hst:(execOp a.eval o).run P w=.ok .skip (w.setRow b (c.toList.take g++vs.toList++c.toList.drop (g+n)).toArray):=by
    have hln:vs.toList.length=n:=by rw[F?,m,κ]
    have I:=run_storeCells_at P b g θ vs.toList 0 c w h2 (by rw[hln];omega) hone;simp only[E!]at I;rw[hln]at I;simp[execOp,hop,hadr,hev,Instr.storeAt,Instr.sureAddr,storeVar,Bv hn,Value.cells,show vs.size=n by rw[m,κ],I]
   have hvl:vs.toList.length=n:=by rw[F?,m,κ]
   let zs:Option Nat->Option (Nat×Nat):=λi=>match i with|none=>Y (b,0)|some j=>if g<=j/\j<g+n then G q (Y (j-g))else G s (Y j)
   refine Exists.elim (u.AaV hs hsl h2 (cs':=cs.take g++ds++cs.drop (g+n)) (c':=(c.toList.take g++vs.toList++c.toList.drop (g+n)).toArray) (q:=Y q) (by simpa using J) (λp hp=>by cases hp;exact BV u hq V) (zs:=zs) rfl ?_ ?_ ?_ ?_ ?_ ?_) (λG' h'=>⟨_,hst,_,hK,G',h'.1⟩)
   .intro i δ lo hi hz;cases i with
    |none=>exact absurd rfl hi|some j=>
     simp only[zs]at hz;split at hz
     .exact .inr ⟨q,rfl,_,hz⟩
     .exact .inl hz
   .intro i i' δ lo M B m;have zn:∀j δ lo M,zs (Y j)=Y (δ,lo)->zs W=Y (δ,M)->False:=by
     intro j δ lo M B m;simp only[zs,t5,Prod.mk.injEq]at m;obtain⟨rfl,_⟩:=m;simp only[zs]at B;split at B
     .exact J (u.og _ _ _ _ _ _ _ B h4).1
     .have:=(u.og _ _ _ _ _ _ _ B h4).2;cases this
    cases i with
    |none=>cases i' with
     |none=>rfl|some j=>exact(zn j _ _ _ m B).elim
    |some j=>cases i' with
     |none=>exact(zn j _ _ _ B m).elim|some j'=>
      simp only[zs]at B m;split at B<;>split at m
      .have:=(u.og _ _ _ _ _ _ _ B m).2;simp only[t5]at this;rw[show j=j' by omega]
      .exact absurd (u.og _ _ _ _ _ _ _ B m).1 J
      .exact absurd (u.og _ _ _ _ _ _ _ m B).1 J
      .exact(u.og _ _ _ _ _ _ _ B m).2
   .simp only[List.size_toArray,bk,cE,A_,F?];omega
   .intro F' w' N H R i y E;have hco:∀j,g+n<=j->cs[j]?=Y y->i=j->∃v,c[j]?=Y v/\A8 w' F' (x9 a G) (G s (Y j)) y v:=by
     intro j hj hc hij;obtain⟨v,η,ζ⟩:=h5 j y hc;exact⟨v,η,ζ.kept N (λk lo A=>H k (λe=>by have:=(u.og _ _ _ _ _ _ _ (e▸A) h4).2;cases this)) R⟩
    rcases C? i g with l|hge
    .rw[c9,A' an,A!,ae l]at E;obtain⟨v,η,ζ⟩:=h5 i y E;refine⟨v,?_,?_⟩
     .rw[A?,c9,A' an,A!,ae l,G!];exact η
     .simp only[zs,az (show¬(g<=i/\i<g+n)by omega)];exact ζ.kept N (λk lo A=>H k (λe=>by have:=(u.og _ _ _ _ _ _ _ (e▸A) h4).2;cases this)) R
    .rcases C? i (g+n)with l|L
     .rw[c9,B_ an,A' an]at E;simp only[cE]at E;rw[E_ U]at E;obtain⟨v,η,ζ⟩:=e3 (i-g) y E;refine⟨v,?_,?_⟩
      .rw[A?,c9,B_ an,A' an];simp only[cE,F?];rw[E_ U,G!];exact η
      .simp only[zs,ae (show g<=i/\i<g+n by omega)];exact ζ.kept N (λk lo A=>H k (λe=>J (u.og _ _ _ _ _ _ _ (e▸A) h4).1)) R
     .rw[B_ an]at E;simp only[bk,cE]at E;rw[E_ U,κ,z_,show g+n+(i-(g+n))=i from U]at E;obtain⟨v,η,ζ⟩:=hco i L E rfl;refine⟨v,?_,?_⟩
      .rw[A?,B_ an];simp only[bk,cE,F?];rw[E_ U,m,κ,z_,show g+n+(i-(g+n))=i from U,G!];exact η
      .simp only[zs,az (show¬(g<=i/\i<g+n)by omega)];exact ζ
   .intro x C;rcases x?.1 C with C|C
    .rcases x?.1 C with C|C
     .exact ε x (v_ C)
     .exact hwq x C
    .exact ε x (v! C)
   .intro k tx htx A;have hkl:k<cs.length:=by
     have:=(z!.1 A).1;simp only[bk,cE,A_]at this;omega
    rw [A?];rcases C? k g with l|hge
    .rw[c9,A' an,B' l]at A;refine .inr ⟨A,?_⟩;rw[c9,A' an,B' l,G!]
    .rcases C? k (g+n)with l|L
     .rw[c9,B_ an,A' an]at A;rw[Bool.or_eq_true]at D;rcases D with D|D
      .have:=B!.1 D _ (u? A);simp[htx]at this
      .exact .inl (AB.noX_all D)
     .rw[B_ an]at A;simp only[bk,cE,z_]at A;rw[E_ U,κ,show g+n+(k-(g+n))=k from U]at A;refine .inr ⟨A,?_⟩;rw[B_ an];simp only[bk,cE,F?,z_];rw[E_ U,m,κ,show g+n+(k-(g+n))=k from U,G!]
 .exact h.elim
def J3(a:Act)(w:World)(G:BH)(d:Nat)(Z:DC):BH:=λp=>if p=d then Z 0 else if a.tmps.size+w.heap.size<=p then(λi=>match i with|some j=>Z (p-a.tmps.size+1) (Y j)|none=>W)else G p
variable{Z:DC}{p:Nat}
theorem OQ{a:Act}{w:World}{G:BH}{d:Nat}{b lo:Nat}(h:J3 a w G d Z p i=Y (b,lo)):(p=d/\Z 0 i=Y (b,lo))\/(p≠d/\a.tmps.size+w.heap.size<=p/\Z (p-a.tmps.size+1) i=Y (b,lo))\/(p≠d/\¬a.tmps.size+w.heap.size<=p/\G p i=Y (b,lo)):=by
 simp [J3]at h
 grind
theorem AN.quiet2{w':World}(h:AN F0 w0 O a w G)(I:Below w.heap.size w w')(d:Nat)(hd:d<a.tmps.size)(e:EV)(v:Value)
  (Z:DC)(M:∀q i b lo,Z q i=Y (b,lo)->w.heap.size<=b/\b<w'.heap.size)(C:Iw Z)
  (J:(∃cs,e=.bx cs)\/(∃n es,e=.xo n es)->O.jj d=X)
  (R:BS w w' (AW w0.heap.size F0 G) (AW w0.heap.size F0 (J3 a w G d Z))->AL (a.put (Y d) v) w' (AW w0.heap.size F0 (J3 a w G d Z)) (J3 a w G d Z) ((d,e)::O) d e v)(κ:e.WF):
  AN F0 w0 ((d,e)::O) (a.put (Y d) v) w' (J3 a w G d Z):=by
 have ε:BS w w' (AW w0.heap.size F0 G) (AW w0.heap.size F0 (J3 a w G d Z)):=by
  intro b o u hc hf;have hlt:b<w.heap.size:=World.block_lt_of_cell? w ⟨b,o,W⟩ hc;refine⟨by rw[I.cell (p:=⟨b,o,W⟩) hlt];exact hc,λη=>hf ?_⟩;rcases η with h|⟨s,i,lo,θ,h2⟩
  .exact .inl h
  .rcases OQ θ with⟨_,e⟩|⟨_,_,e⟩|⟨_,_,e⟩
   .grind
   .grind
   .exact .inr ⟨s,i,lo,e,h2⟩
 have ζ:∀s,s<a.tmps.size->s≠d->J3 a w G d Z s=G s:=by
  grind [J3]
 refine ⟨?_,?_,h.below.go I,g_,?_,?_,?_⟩
 .intro s i s' i' b lo lo' θ h2;rcases OQ θ with⟨e1,A⟩|⟨e1,e3,A⟩|⟨e1,e3,A⟩<;>rcases OQ h2 with⟨e2,B⟩|⟨e2,e4,B⟩|⟨e2,e4,B⟩
  .exact⟨by rw[e1,e2],(C _ _ _ _ _ _ _ A B).2⟩
  .have:=(C _ _ _ _ _ _ _ A B).1;omega
  .have:=(M _ _ _ _ A).1;have:=(h.lt _ _ _ _ B).1;omega
  .have:=(C _ _ _ _ _ _ _ A B).1;omega
  .obtain⟨g1,g2⟩:=C _ _ _ _ _ _ _ A B;exact⟨U,g2⟩
  .have:=(M _ _ _ _ A).1;have:=(h.lt _ _ _ _ B).1;omega
  .have:=(M _ _ _ _ B).1;have:=(h.lt _ _ _ _ A).1;omega
  .have:=(M _ _ _ _ B).1;have:=(h.lt _ _ _ _ A).1;omega
  .exact h.og _ _ _ _ _ _ _ A B
 .intro s i b lo θ;rcases OQ θ with⟨_,f⟩|⟨_,_,f⟩|⟨_,_,f⟩
  .have:=M _ _ _ _ f;exact⟨this.2,.inl (D! h.below.size this.1)⟩
  .have:=M _ _ _ _ f;exact⟨this.2,.inl (D! h.below.size this.1)⟩
  .have:=h.lt _ _ _ _ f;exact⟨D' this.1 I.size,this.2⟩
 .intro s N;rw[BU]at N;rw[AB.d6,az U];exact h.dom s N
 .intro s N;rw[BU]at N;rw[AB.d6];by_cases H:d=s
  .subst H;rw[ae rfl,CS _ _ _ hd];exact R ε
  .rw[az H,AY _ _ _ _ H];refine AL.kept' ε (λi=>by rw[ζ s N (λe=>H e.symm)]) (λi b lo ζ=>I.block b (h.lt s i b lo ζ).1) (λi g lo j hg=>?_) (λ_=>BA.spot (h.Aad I)) (λq i k D⟨p,E⟩=>?_) (λq δ D⟨cs,m⟩=>?_) (λq i D⟨p,E⟩=>?_) (h.slots s N)
   .have:=(h.lt _ _ _ _ hg).1;simp[x9,BU,J3];rw[az U,az U]
   .by_cases l:d=q
    .subst l;exact absurd D (AB.Aap d O (J (.inl (AB.zF E))) s i k)
    .rw[AB.y4 l]at E;exact⟨⟨p,E⟩,h.nh ⟨p,E⟩ (AY _ _ _ _ l) (λj b _ L=>I.block b (h.lt _ _ _ _ L).1)⟩
   .rw[AB.d6]at m;by_cases l:d=q
    .subst l;rw[ae rfl]at m;exact absurd D (AB.zX d O (J (.inl ⟨cs,m⟩)) s δ)
    .rw[az l]at m;exact⟨⟨cs,m⟩,AY _ _ _ _ l⟩
   .by_cases l:d=q
    .subst l;have hx:=AB.z7 d O (J (AB.zY E)) s;rcases D with D|⟨c,D⟩
     .exact absurd D (hx.1 i)
     .exact absurd D (hx.2 i c)
    .rw[AB.yx l]at E;exact⟨⟨p,E⟩,h.xv ⟨p,E⟩ (AY _ _ _ _ l) (λb L=>I.block b (h.lt _ _ _ _ L).1)⟩
 .intro s;rw[AB.d6];split
  .exact κ
  .exact h.wf s
theorem gF(m:AN F0 w0 O a w G)(hd:d<a.tmps.size)(A:o.dst=Y d){xs:Array Operand}{ys:List AE}(C:o.op=.call {callee:=.value (.func f),args:=xs,argTypes:=ats})(D:BO xs.toList ys=X)(h:(AD.Aag f ys).wp (AX P) O (Y d) K)
  {next:Act->World->Prop}(N:∀e env' a' w',K e env'->Qa a d a'->Bj F0 w0 ((d,e)::env') a' w'->next a' w'):o.wp P a w next Q:=by
 simp only[AD.wp]at h;cases l:vals O ys with
 |none=>rw[l]at h;exact h.elim|some ts=>
  rw [l]at h;simp only[Ad]at h;obtain⟨cs,ε,κ⟩:=h;have hv:=FT m D l;have B:(execOp a.eval o).run P w=(callFunc f (xs.map a.eval)).run P w:=by simp[execOp,C,resolve,Act.eval,Deferred.ofValue,invoke]
  obtain ⟨η,ζ⟩:=(ε.to0 rfl) hv.2;obtain⟨M,δ⟩:=ζ (AW w0.heap.size F0 G) w (xs.map a.eval) k? m.below.now;unfold Oper.wp;rw[B,ER η _,Oper.upon_enter];refine δ.mono ?_;rintro e w' ⟨v,rfl,hb,Z,⟨vs,rfl,r1,r2⟩,r3,r5,I⟩;simp only[A];refine N _ _ _ _ (κ M) ⟨_,rfl⟩ ⟨_,m.quiet2 hb d hd (.yy cs) _ Z (λq i b lo L=>⟨(I q i b lo L).2,(I q i b lo L).1⟩) r3 V (λR=>?_) M⟩;simp only[AL];refine⟨vs,rfl,r1,λi c E=>?_⟩;obtain⟨x,k1,k2,_⟩:=r2 i c E;refine⟨x,k1,?_⟩;have H:J3 a w G d Z d (Y i)=Z 0 (Y i):=by simp[J3]
  rw [H];refine(k2.kept (λb o u E hf=>⟨E,λk=>hf ?_⟩) (λ_ _ _=>rfl) BA.rfl').x9 (λg lo j θ=>?_)
  .rcases k with k|⟨p,j,lo,e1,J⟩
   .exact .inl ⟨D' k.1 m.below.size,.inl k⟩
   .rcases OQ e1 with⟨_,e⟩|⟨_,_,e⟩|⟨_,_,e⟩
    .exact .inr ⟨_,_,lo,e,J⟩
    .exact .inr ⟨_,_,lo,e,J⟩
    .exact .inl ⟨(m.lt _ _ _ _ e).1,.inr ⟨p,j,lo,e,J⟩⟩
  .have:=(I _ _ _ _ θ).2;simp only[x9,BU,J3,DC.x9];rw[az U,ae U];simp only[E?]
theorem cY(C:AN F0 w0 O a w G)(hd:d<a.tmps.size)(l:o.dst=Y d){xs:Array Operand}{ys:List AE}(D:o.op=.call {callee:=.value (.func f),args:=xs,argTypes:=ats})(E:BO xs.toList ys=X)(h:(AD.zy f ys).wp (AX P) O (Y d) K)
  {next:Act->World->Prop}(ε:∀e env' a' w',K e env'->Qa a d a'->Bj F0 w0 ((d,e)::env') a' w'->next a' w'):o.wp P a w next Q:=by
 simp only[AD.wp]at h;cases k:vals O ys with
 |none=>rw[k]at h;exact h.elim|some ts=>
  rw [k]at h;simp only[Ad]at h;obtain⟨cs,δ,hX,hK⟩:=h;have hv:=FT C E k;have u:(execOp a.eval o).run P w=(callFunc f (xs.map a.eval)).run P w:=by simp[execOp,D,resolve,Act.eval,Deferred.ofValue,invoke]
  obtain ⟨h2,h3⟩:=(δ.to0 rfl) hv.2;obtain⟨R,h5⟩:=h3 (AW w0.heap.size F0 G) w (xs.map a.eval) k? C.below.now;unfold Oper.wp;rw[u,ER h2 _,Oper.upon_enter];refine h5.mono ?_;rintro e w' ⟨v,rfl,hb,Z,⟨vs,rfl,r1,r2⟩,r3,r5,θ⟩;simp only[l]
  let B:DC:=λq i=>(Z q i).map λp=>(p.1,0)
  have J:∀{q i b lo},B q i=Y (b,lo)->∃g,Z q i=Y (b,g)/\lo=0:=by
   grind [H_]
  have η:(EV.yy (cs.map AR.toX)).WF:=by
   intro c m;obtain⟨M,j,rfl⟩:=List.mem_map.1 m;obtain⟨n,es,e0,_⟩:=hX M j;have:=R _ j;rw[e0]at this|-;exact this
  refine ε _ _ _ _ (hK R) ⟨_,rfl⟩ ⟨_,C.quiet2 hb d hd (.yy (cs.map AR.toX)) _ B (λq i b lo A=>?_) (λq i q' i' b lo g H I=>?_) V (λκ=>?_) η⟩
  .obtain⟨g,A,_⟩:=J A;exact⟨(θ q i b g A).2,(θ q i b g A).1⟩
  .obtain⟨_,H,_⟩:=J H;obtain⟨_,I,_⟩:=J I;exact r3 _ _ _ _ _ _ _ H I
  simp only[AL];refine⟨vs,rfl,by simpa using r1,λi c m=>?_⟩;rw[B?]at m;simp only[H_]at m;obtain⟨M,j,rfl⟩:=m;obtain⟨n,es,rfl,N⟩:=hX M (u? j);obtain⟨x,k1,k2,_⟩:=r2 i _ j;refine⟨x,k1,?_⟩;have L:J3 a w G d B d (Y i)=B 0 (Y i):=by simp[J3]
  rw [L];have ζ:Bm w' _ (Z 0 (Y i)) (.list n es) x:=k2;obtain⟨us,m1,m2,m3,m4⟩:=ζ;exact⟨us,⟨_,m1,rfl⟩,GF _ (Mc _ N) _ m2,m3,m4⟩
def ZR(P:Program)(t:TypeId):Bool:=match P.underlying t with|some (.slice _)=>X|_=>T
theorem k9(h:Ry x=X):x=.const (.slice W 0 0):=by
 cases x<;>simp[Ry]at h
 grind [JV]
variable{t':TypeId}
theorem Y5(B:AN F0 w0 O a w G)(hd:d<a.tmps.size){x z:Operand}(k:o.op=.binOp .eql t x z t')(C:Ry z=X)(l:ZR P t=X){j:Option Addr}{n cap:Nat}(m:a.eval x=.slice j n cap)(h:K (.tv (.bool j.isNone)) O):At P F0 w0 a w o d K:=by
 have u:=k9 C;subst u;unfold ZR at l;split at l
 .rename_i e D;refine CM B hd (v:=.bool j.isNone) (t:=.bool j.isNone) ?_ rfl trivial h;have he:∀d,(Op.equalIn (d+1) t (.slice j n cap) (.slice W 0 0)).run P w=.ok j.isNone w:=by
   intro d;cases j<;>simp[Op.equalIn,run_underlying D]
  have A:(Op.equalIn 10000 t (.slice j n cap) (.slice W 0 0)).run P w=.ok j.isNone w:=he 9999;have H:(eqGuard .eql t x (.const (.slice W 0 0)) (.slice j n cap) (.slice W 0 0)).run P w=.ok () w:=by
   simp [eqGuard]
  have I:(binOp .eql t (.slice j n cap) (.slice W 0 0)).run P w=.ok (.bool j.isNone) w:=by
   have e:(binOp .eql t (.slice j n cap) (.slice W 0 0)).run P w=((Op.equalIn 10000 t (.slice j n cap) (.slice W 0 0)).run P w).andThen λb w'=>.ok (.bool b) w':=by
    simp only[binOp];simp[Op.equal,Op.maxDepth]
   rw [e,A];rfl
  have J:a.eval (.const (.slice W 0 0))=.slice W 0 0:=rfl;have L:∀(g b:Sem Unit)(r:Sem Value),g.run P w=.ok () w->r.run P w=.ok (.bool j.isNone) w->(do let r <-(do g;r:Sem Value);pure (Next.value r):Sem Next).run P w=.ok (.value (.bool j.isNone)) w:=by
   intro g b r m E;simp[m,E]
  simp only[execOp,k,m,J];exact L _ (pure ()) _ H I
 .cases l
theorem mZ(k:AN F0 w0 O a w G)(hd:d<a.tmps.size){x z:Operand}(g:o.op=.binOp .eql t x z t')(j:AK x y=X)(m:Ry z=X)(u:ZR P t=X)(h:(AD.isn y).wp S O (Y d) K):At P F0 w0 a w o d K:=by
 simp only[AD.wp]at h;split at h
 next n es l=>have hv:=(Ar k j l).1;simp only[Af]at hv;obtain⟨D,cap,B,E,C,H⟩:=hv;exact Y5 k hd g m u B (h _ λA=>C p!)
 next l=>have hv:=(Ar k j l).1;simp only[Af]at hv;exact Y5 k hd g m u hv h
 .exact h.elim
end
end Go.Sf
namespace Go.Sf
open Go.RowKit (Below)
section
variable{P:Program}{S:FuncId->Fq->Al->Prop}{F0:Nat->Nat->Prop}{w0:W0}{O:AB}{a:Act}{w:World}{G:BH}{d:Nat}{o:Oper}{K:EV->AB->Prop}
variable{x:Operand}{y:AE}{t:TypeId}
theorem ma(A:AN F0 w0 O a w G)(hd:d<a.tmps.size)(B:o.op=.load t x)(C:AK x y=X)(L:Bs P t=Y T)(h:(AD.lac y).wp S O (Y d) K):At P F0 w0 a w o d K:=by
 simp [AD.wp]at h;split at h
 .rename_i s g j;have N:y.place O=Y (s,g):=by
   cases y with
   |c t=>simp[AE.ev]at j|s n=>simp[AE.ev]at j;simp[AE.place,j]
  split at h
  .rename_i p M;obtain⟨n,es⟩:=p;obtain⟨cs,I,R⟩:=AB.tn M;obtain⟨b,m,u⟩:=Gp A C N I;have H:=AZ A I V;simp only[AL]at H;obtain⟨κ,c,θ,D,J,η,ζ,ε⟩:=H;rw[m]at D;simp at D;subst D;obtain⟨v,hv,δ⟩:=ε g _ R;have k:w.cell? ⟨b,g,W⟩=Y v:=by rw[cell_of_row w b g c θ (0,0) J];exact hv
   refine ⟨v,w,by simp[execOp,B,u,Instr.loadAt,Instr.sureAddr,loadVar,CO L,k],_,_,h,_,A.quiet (Below.refl _ _) d hd (.la s (Y g)) _ (λ_=>W) V V V ?_ trivial⟩;simp only[AL];rintro⟨pp,E⟩;have l:=AB.x4 V V E;exact A.xv ⟨_,l.2⟩ (AY _ _ _ _ l.1) (λ_ _=>rfl) _ ⟨b,c,θ,m,J,hv⟩
  .exact h.elim
 .exact h.elim
theorem mU(A:AN F0 w0 O a w G)(hd:d<a.tmps.size)(C:o.op=.load t x)(D:AK x y=X)(R:Bs P t=Y T)(h:(AD.ctk y).wp S O (Y d) K):At P F0 w0 a w o d K:=by
 simp [AD.wp]at h;split at h
 .rename_i δ s j E ε;simp at E;subst E;split at h
  .rename_i cs B;split at h
   .rename_i n es H;obtain⟨m,J⟩:=h;obtain⟨b,k,l⟩:=Gp A D ε B;have I:=AZ A B V;simp only[AL]at I;obtain⟨κ,c,θ,u,L,η,ζ,M⟩:=I;rw[k]at u;simp at u;subst u;obtain⟨y,N,_⟩:=M j _ H;have g:w.cell? ⟨b,j,W⟩=Y y:=by rw[cell_of_row w b j c θ (0,0) L];exact N
    exact ⟨y,w,by simp[execOp,C,l,Instr.loadAt,Instr.sureAddr,loadVar,CO R,g],_,_,J,A.z5 B H hd k g (.inr (.inl ⟨n,es,rfl,rfl,rfl,m⟩))⟩
   .rename_i es H;obtain⟨m,J⟩:=h;obtain⟨b,k,l⟩:=Gp A D ε B;have I:=AZ A B V;simp only[AL]at I;obtain⟨κ,c,θ,u,L,η,ζ,M⟩:=I;rw[k]at u;simp at u;subst u;obtain⟨y,N,_⟩:=M j _ H;have g:w.cell? ⟨b,j,W⟩=Y y:=by rw[cell_of_row w b j c θ (0,0) L];exact N
    exact ⟨y,w,by simp[execOp,C,l,Instr.loadAt,Instr.sureAddr,loadVar,CO R,g],_,_,J,A.z5 B H hd k g (.inr (.inr ⟨es,rfl,rfl,rfl,m⟩))⟩
   .exact h.elim
  .exact h.elim
 .exact h.elim
variable{q:Nat}
theorem mT(m:AN F0 w0 O a w G){x v:Operand}{x':AE}(hop:o.op=.store t x v)(hx:AK x x'=X)(hv:AK v (.s q)=X)(hn:Ce P t=Y 1)(h:(AD.cpt x' q).wp S O W K):HD P F0 w0 a w o K:=by
 simp [AD.wp]at h
 suffices key:∀(ζ:TV)(s g:Nat),x'.place O=Y (s,g)->O.get q≠.undef->(∀cs,O.get q≠.bx cs)->D7 w (AW w0.heap.size F0 G) (x9 a G) (G q W) ζ (slot a q)->ζ.WF->∀cs,O.get s=.bx cs->O.noX s (Y g)=X->g<cs.length->K .undef ((s,.bx (cs.set g ⟨X,ζ⟩))::(q,.undef)::O)->HD P F0 w0 a w o K by
  split at h
  .rename_i s g n es ε I;split at h
   next cs J=>have l:=AZ m I V;have u:=m.wf q;rw[I]at u;exact key (.xl n es) s g ε (by rw[I];simp) (by rw[I];simp) l u cs J h.1 h.2.1 h.2.2
   .exact h.elim
  .rename_i s g es ε I;split at h
   next cs J=>have l:=AZ m I V;have u:=m.wf q;rw[I]at u;exact key (.xn es) s g ε (by rw[I];simp) (by rw[I];simp) l u cs J h.1 h.2.1 h.2.2
   .exact h.elim
  .exact h.elim
 intro ζ s g ε hqu hqb l u cs J hno δ hK;obtain⟨b,hsl,hadr⟩:=Gp m hx ε J;have hr:=AZ m J V;simp only[AL]at hr;obtain⟨η,c,θ,h1,h2,h3,h4,h5⟩:=hr;rw[hsl]at h1;simp at h1;subst h1;have hw:=m.wf s;rw[J]at hw;have C:q≠s:=λe=>hqb cs (by rw[e];exact J);have hvq:v=.tmp q:=by
  cases v<;>simp[AK]at hv;rw[hv]
 subst hvq;have N:(slot a q).oneCell'=X:=Od l;have D:(a.eval (.tmp q)).cells.toList=[slot a q]:=by
  have:a.eval (.tmp q)=slot a q:=rfl;rw[this,PY N]
 have hst:(execOp a.eval o).run P w=.ok .skip (w.setRow b (c.toList.take g++[slot a q]++c.toList.drop (g+1)).toArray):=by
  have E:=run_storeCells_at P b g θ [slot a q] 0 c w h2 an (by simpa using N);simp only[E!]at E;have hsz:(a.eval (.tmp q)).cells.size=1:=by rw[<-F?,D];rfl
  simp at E;simp[execOp,hop,hadr,Instr.storeAt,Instr.sureAddr,storeVar,Bv hn,hsz,D,E]
 let zs:Option Nat->Option (Nat×Nat):=λi=>match i with|none=>Y (b,0)|some j=>if j=g then G q W else G s (Y j)
 refine Exists.elim (m.AaV J hsl h2 (cs':=cs.set g ⟨X,ζ⟩) (c':=(c.toList.take g++[slot a q]++c.toList.drop (g+1)).toArray) (q:=Y q) s? (λp ε=>by cases ε;exact m.lts hqu) (zs:=zs) rfl ?_ ?_ ?_ ?_ ?_ ?_) (λG' h'=>⟨_,hst,_,hK,G',h'.1⟩)
 .intro i η lo hi hz;cases i with
  |none=>exact absurd rfl hi|some j=>
   simp [zs]at hz;split at hz
   .exact .inr ⟨q,rfl,W,hz⟩
   .exact .inl hz
 .intro i i' η lo R A B;have zn:∀j η lo R,zs (Y j)=Y (η,lo)->zs W=Y (η,R)->False:=by
   intro j η lo R A B;simp[zs]at B;obtain⟨rfl,_⟩:=B;simp[zs]at A;split at A
   .exact C (m.og _ _ _ _ _ _ _ A h4).1
   .have:=(m.og _ _ _ _ _ _ _ A h4).2;cases this
  cases i with
  |none=>cases i' with
   |none=>rfl|some j=>exact(zn j _ _ _ B A).elim
  |some j=>cases i' with
   |none=>exact(zn j _ _ _ A B).elim|some j'=>
    simp [zs]at A B;split at A<;>split at B
    next e3 e4=>rw[e3,e4]
    .exact absurd (m.og _ _ _ _ _ _ _ A B).1 C
    .exact absurd (m.og _ _ _ _ _ _ _ B A).1 C
    .exact(m.og _ _ _ _ _ _ _ A B).2
 .simp;omega
 .intro F' w' hag M hrs i y H;rw[v5]at H;by_cases hi:g=i
  .subst hi;rw[ae rfl,ae δ]at H;simp at H;subst H;refine⟨slot a q,?_,?_⟩
   .rw[A?,c9,B_ an];simp;rw[E_ U,Nat.sub_self];rfl
   .simp[A8,zs];exact l.kept hag (λk lo L=>M k (λe=>C (m.og _ _ _ _ _ _ _ (e▸L) h4).1)) hrs
  .rw[az hi]at H;obtain⟨vv,A,B⟩:=h5 i y H;refine⟨vv,?_,?_⟩
   .rw[A?];rcases C? i g with κ|hge
    .rw[c9,A' an,B' κ];simpa using A
    .rw[B_ an];simp only[bk,cE,F?,C_];rw[E_ U,z_,show g+1+(i-(g+1))=i from U];simpa using A
   .have hi':¬i=g:=λe=>hi e.symm;simp[zs];rw[az hi'];exact B.kept hag (λk lo L=>M k (λe=>by have:=(m.og _ _ _ _ _ _ _ (e▸L) h4).2;cases this)) hrs
 .intro y H;rcases v6 H with H|rfl
  .exact hw y H
  .exact u
 .intro k tx htx L;rw[v5]at L;by_cases hi:g=k
  .subst hi;exact .inl hno
  .rw[az hi]at L;refine .inr ⟨L,?_⟩;have hkc:k<c.size:=by
    have:=(z!.1 L).1;omega
   rw [A?];rcases C? k g with κ|hge
   .rw[c9,A' an,B' κ,G!]
   .rw[B_ an];simp only[bk,cE,F?,C_];rw[E_ U,z_,show g+1+(k-(g+1))=k from U,G!]
variable{s n:Nat}
theorem mV(B:AN F0 w0 O a w G)(hd:d<a.tmps.size){hi:Operand}{E:AE}(hop:o.op=.slice t (.tmp s) W (Y hi) W)(hh:AK hi E=X)(D:Iy P t=Y n)(h:(AD.cut n s E).wp S O (Y d) K):At P F0 w0 a w o d K:=by
 simp [AD.wp]at h;split at h
 .rename_i d' m es k hb L hs hv;simp at L;subst L;obtain⟨⟨hm,η,ζ⟩,h0,h2,hK⟩:=h;subst hm;have hr:=AZ B hs V;have hw:=B.wf s;rw[hs]at hw;simp[AL]at hr;obtain⟨xs,⟨z0,k1,k2⟩,k3,k4,k5⟩:=hr;have b2:=(Ar B hh hv).1;simp[Af]at b2;unfold Iy at D;split at D
  .rename_i e hu;obtain⟨j,rfl⟩:∃j:Nat,hb=j:=⟨hb.toNat,U⟩;simp at hK;have θ:j<=es.length:=U
   have hlx:=k1.1;have key:∀(δ:Option Addr)(cap:Nat),slot a s=.slice δ es.length cap->es.length<=cap->(execOp a.eval o).run P w=.ok (.value (.slice (if cap=0 then δ else δ.map (·.add (0*m))) (j-0) (cap-0))) w:=by
    intro δ cap M N;have ε:=Sz (P:=P) (w:=w) (isS:=X) (lo:=W) (hi:=Y (a.eval hi)) (l:=0) (h:=(j:Int)) (len:=es.length) (cap:=cap) U U h2 N (.inl ⟨rfl,rfl⟩) (.inr ⟨k,by rw[b2]⟩);simp[execOp,hop,Instr.sliceAt,Instr.slice,run_underlying hu,show a.eval (.tmp s)=slot a s from rfl,M,ε,Bv D]
   have A:∀F' C env'(a':Act)(v:Value),BS w w (AW w0.heap.size F0 G) F'->C d W=G s W->Jc w m v (es.take j).length (xs.take (j*m)) (G s W)->AL a' w F' C env' d (.xo m (es.take j)) v:=by
    intro F' C env' a' v u J H;simp only[AL];rw[J];refine⟨xs.take (j*m),H,?_,λe he=>k4 e (v_ he),λx H=>k5 x (v_ H)⟩;have hfl:∀(l:Fq)(j:Nat),(∀e∈l,e.cells.length=m)->(l.take j).flatMap TV.cells=(l.flatMap TV.cells).take (j*m):=by
     intro l
     induction l with
     |nil=>intro j _;simp|cons e l ih=>
      intro j R;cases j with
      |zero=>simp|succ j=>
       rw [List.take_succ_cons,u!,u!,ih j (λx H=>R x (by simp[H])),v?,R e V];have h1:(j+1)*m=m+j*m:=i!
       have h2:e.cells.take (m+j*m)=e.cells:=w_ (by rw[R e V];omega);rw[h1,h2,show m+j*m-m=j*m from U]
    grind [BQ,Aj,cE]
   have κ:(EV.xo m (es.take j)).WF:=by
    simp only[EV.WF,TV.WF]at hw|-;refine⟨an,?_⟩;rw[Bg]at hw|-;exact λt D=>hw.2 t (v_ D)
   have hjm:j*m<=es.length*m:=D? _ θ;rcases k1.2 with⟨M,N,e3⟩|⟨g,cap,cur,ty,M,N,e3,e4,e5,e6,e7⟩
   .have hes:es=[]:=v1 N;subst hes;have hj:j=0:=n?
    subst hj;refine⟨_,w,key W 0 (by simpa using M) V,_,_,hK,B.xgo hs hd ζ (z':=G s W) rfl rfl rfl (b6 _) (λ_ _ _=>rfl) (λb lo I=>⟨(B.lt _ _ _ _ I).1,.inr ⟨lo,I⟩⟩) V (λ_=>η) (λF' C env' a' u J _=>A F' C env' a' _ u J ?_) κ⟩;refine⟨W,⟨V,.inl ⟨V,V,rfl⟩⟩,?_⟩;rw[k2,e3]
   .refine⟨_,w,key _ _ M e3,_,_,hK,B.xgo hs hd ζ (z':=G s W) rfl rfl rfl (b6 _) (λ_ _ _=>rfl) (λb lo I=>⟨(B.lt _ _ _ _ I).1,.inr ⟨lo,I⟩⟩) V (λ_=>η) (λF' C env' a' u J _=>A F' C env' a' _ u J ?_) κ⟩;have R:(es.take j).length=j:=q!
    rw [R];refine⟨Y (g,j*m),⟨by rw[cE,hlx];omega,.inr ⟨g,cap,cur,ty,?_,N,U,e4,e5,?_,rfl⟩⟩,?_⟩
    .simp only[Nat.zero_mul,Nat.sub_zero,G?,Addr.add_zero'];split<;>rfl
    .rw[<-e6,List.take_take,E_ hjm]
    .rw[k2,e7];rfl
  .cases D
 .exact h.elim
variable{v:Value}
theorem ZD{F:Nat->Nat->Prop}{es:Fq}{xs:List Value}{z:Option (Nat×Nat)}(h:Jc w n v es.length xs z)(g:AP w F (es.flatMap TV.cells) xs)(j:∀e∈es,e.cells.length=n)(k:∀x∈xs,x.oneCell'=X):Af w (λ_ _=>False) (.list n es) v:=by
 obtain ⟨z0,m,_⟩:=h;refine Bm.rep (z:=z0) ?_ (λ_ _ _ _ _ h=>h);simp[Bm];exact⟨xs,m,Aj (λb o u l _=>⟨l,λh=>h⟩) _ _ g,j,k⟩
theorem Xk{F:Nat->Nat->Prop}:BS w w F (λ_ _=>False):=λ_ _ _ g _=>⟨g,λh=>h⟩
variable{c:AR}
theorem oo(h:c.t.WF):c.Aax.WF:=by
 obtain ⟨_|_,t⟩:=c
 .exact h
 .cases t<;>exact h
variable{i:Option Nat}
theorem lG(j:AN F0 w0 O a w G){ρ:Hn}{x:Value}(h:A8 w (AW w0.heap.size F0 G) ρ (G s i) c x):Af w (λ_ _=>False) c.Aax x:=by
 by_cases g:∃n es,c=⟨X,.xl n es⟩
 .obtain⟨n,es,rfl⟩:=g;simp[A8,D7]at h;obtain⟨xs,k,l,m,u⟩:=h;exact ZD k l m u
 .have:c.Aax=c.t:=by
   obtain ⟨_|_,t⟩:=c
   .rfl
   .cases t<;>first|rfl|exact absurd ⟨_,_,rfl⟩ g
  rw [this];exact By Xk _ _ (Vd j h)
variable{b:Nat}
theorem aR(u:AN F0 w0 O a w G){cs:List AR}(B:O.get s=.bx cs)(l:slot a s=.pointer (Y ⟨b,0,W⟩))(g:Nat):C0 w (λ_ _=>False) ((cs.drop g).map AR.Aax) b g:=by
 have k:=AZ u B V;simp only[AL]at k;obtain⟨H,c,θ,m,C,I,J,D⟩:=k;rw[l]at m;simp at m;subst m;rw[IS];intro i t A;simp[B?,z_]at A;obtain⟨cell,j,rfl⟩:=A;obtain⟨x,E,k⟩:=D _ cell j;exact⟨x,by rw[cell_of_row w b (g+i) c θ (0,0) C];exact E,λh=>h,GW k,lG u k⟩
theorem aS{cs:List AR}(h:∀c∈cs,c.t.WF):TV.tl (cs.map AR.Aax):=by grind[Bg,oo]
theorem lJ(j:AN F0 w0 O a w G)(g:AK x y=X){t:TV}(h:y.AaJ O=Y t):Af w (λ_ _=>False) t (a.eval x)/\t.WF:=by
 unfold AE.AaJ at h;split at h
 .rename_i p H;simp at h;subst h;obtain⟨A,D⟩:=OP j g H
  grind [Oq,ZD]
 .have C:∀e,y.ev O=e->(∀t,e≠.tv t)->∃n,y=.s n/\x=.tmp n/\O.get n=e:=by
   intro e he B;cases y with
   |c t=>exact absurd he.symm (B t)|s n=>
    cases x<;>simp[AK]at g;subst g;exact⟨_,rfl,rfl,he⟩
  split at h
  next cs he=>simp at h;subst h;obtain⟨n,rfl,rfl,k⟩:=C _ he V;have m:=AZ j k V;have u:=j.wf n;rw[k]at u;simp only[AL]at m;obtain⟨b,c,θ,A,_⟩:=m;refine⟨?_,aS u⟩;simp[Af];exact⟨b,0,A,by simpa using aR j k A 0⟩
  .rename_i q l he;split at h
   next cs k=>simp only[t5]at h;subst h;obtain⟨n,rfl,rfl,I⟩:=C _ he V;have m:=AZ j I V;simp only[AL]at m;obtain⟨b,A,D⟩:=m ⟨cs,k⟩;have u:=j.wf q;rw[k]at u;refine⟨?_,aS (λc E=>u c (v! E))⟩;simp only[Af];exact⟨b,l,D,aR j k A l⟩
   .cases h
  .have:=Ar j g (t:=t) h;exact⟨By Xk _ _ this.1,this.2⟩
theorem Ya(j:AN F0 w0 O a w G):∀{xs:List Operand}{ys:List AE},BO xs ys=X->∀{ts:Fq},zm O ys=Y ts->AP w (λ_ _=>False) ts (xs.map a.eval)/\TV.tl ts
 |[],[],_,ts,hv=>by simp[zm]at hv;subst hv;exact⟨rfl,trivial⟩|[],_::_,g,_,_=>by simp[BO]at g|_::_,[],g,_,_=>by simp[BO]at g|x::xs,y::ys,g,ts,hv=>by
  simp [BO]at g;simp[zm]at hv;split at hv
  next t m u h=>simp at hv;subst hv;have k:=lJ j g.1 u;have l:=Ya j g.2 h;exact⟨⟨_,_,rfl,k.1,l.1⟩,k.2,l.2⟩
  .cases hv
variable{r:Al}
theorem jZ{w':World}{F F':Nat->Nat->Prop}{base:Nat}(g:r.AaD=X)(h:H5 w' F base r v):H5 w' F' base r v:=by
 cases r with
 |sh t=>exact Su t g v h|tp ts=>obtain⟨vs,k,j⟩:=h;exact⟨vs,k,GF ts g _ j⟩
 |own t=>
  obtain ⟨z,k,j⟩:=h;refine⟨z,?_,j⟩;cases t<;>simp[Al.AaD]at g
  grind [Bm,GF,Mc]
 |_=>simp[Al.AaD]at g
theorem VN(h:r.AaD=X):r.plain=X:=by
 cases r<;>first|rfl|(simp[Al.AaD]at h)
variable{f:FuncId}{ats:Array TypeId}{Q:Exit->Act->World->Prop}
theorem gG(l:AN F0 w0 O a w G)(hd:d<a.tmps.size)(j:o.dst=Y d){xs:Array Operand}{ys:List AE}(m:o.op=.call {callee:=.value (.func f),args:=xs,argTypes:=ats})(u:BO xs.toList ys=X)(h:(AD.zR f ys).wp (AX P) O (Y d) K)
  {next:Act->World->Prop}(D:∀e env' a' w',K e env'->Qa a d a'->Bj F0 w0 ((d,e)::env') a' w'->next a' w'):o.wp P a w next Q:=by
 simp [AD.wp]at h;cases g:zm O ys with
 |none=>rw[g]at h;exact h.elim|some ts=>
  rw [g]at h;simp[Ad]at h;obtain⟨r,⟨E,A⟩,H⟩:=h;have hv:=Ya l u g;have k:(execOp a.eval o).run P w=(callFunc f (xs.map a.eval)).run P w:=by simp[execOp,m,resolve,Act.eval,Deferred.ofValue,invoke]
  obtain ⟨I,B⟩:=(E.to0 (VN A)) hv.2;obtain⟨C,B⟩:=B (λ_ _=>False) w (xs.map a.eval) k? l.below.now;unfold Oper.wp;rw[k,ER I _,Oper.upon_enter];refine B.mono ?_;rintro e w' ⟨v,rfl,J,L⟩;simp[j];exact D _ _ _ _ (H C) ⟨_,rfl⟩ (l.called hd J (VN A) (jZ A L) C)
theorem Mb:∀{g:List (Option AR)}{ts:Fq}{cs:List AR},D8 g ts=Y cs->cs.length=ts.length/\∀(i:Nat)(c:AR),cs[i]?=Y c->∃t,ts[i]?=Y t/\(c=⟨T,t⟩\/(t=.nil/\∃n,c=⟨X,.list n []⟩\/c=⟨X,.xl n []⟩\/c=⟨X,.xn []⟩))
 |[],[],cs,h=>by simp[D8]at h;subst h;simp|[],_::_,cs,h=>by simp[D8]at h|none::g,[],cs,h=>by simp[D8]at h|some _::g,[],cs,h=>by simp[D8]at h|none::g,t::ts,cs,h=>by
  simp [D8]at h;split at h
  .rename_i cs' k;simp at h;subst h;obtain⟨l,m⟩:=Mb k
   grind
  .cases h
 |some A::g,t::ts,cs,h=>by
  cases t<;>simp[D8]at h<;>try cases h
  have key:∃cs' j,D8 g ts=Y cs'/\cs=j::cs'/\∃n,j=⟨X,.list n []⟩\/j=⟨X,.xl n []⟩\/j=⟨X,.xn []⟩:=by
   grind
  obtain ⟨cs',j,k,rfl,u⟩:=key;obtain⟨l,m⟩:=Mb k
  grind
theorem jw(H:AN F0 w0 O a w G)(hd:d<a.tmps.size){I:List (Option AR)}(k:o.op=.box t x)(l:AK x y=X)(h:(AD.Aay I y).wp S O (Y d) K):At P F0 w0 a w o d K:=by
 simp [AD.wp]at h;split at h
 .rename_i u δ hv j;simp at j;subst j;cases A:D8 I u.cells with
  |none=>rw[A]at h;exact h.elim|some cs=>
   rw [A]at h;simp[Ad]at h;obtain⟨C,κ⟩:=h;obtain⟨η,D⟩:=Mb A;have N:=Ar H l hv;have B:=GG N.1;have R:=A9 B.1;refine⟨_,_,by simp[execOp,k,Instr.box,newVar,newRow],_,_,κ,H.box hd C (c:=(a.eval x).cells) (θ:=t) (by rw[η];simpa using R) (λF' m i c J=>?_) (λc J=>?_)⟩
   .obtain⟨ζ,M,E⟩:=D i c J;have ε:i<u.cells.length:=(z!.1 M).1;have L:(a.eval x).cells.toList[i]?=Y ((a.eval x).cells.toList[i]' U):=v9 U;have g:=((BQ _ _).1 B.1).2 i ζ _ M L;refine⟨(a.eval x).cells.toList[i]' U,by rw[<-G!];exact L,?_⟩;rcases E with rfl|⟨rfl,n,rfl|rfl|rfl⟩
    .exact⟨By m _ _ g,B.2 _ (List.getElem_mem _)⟩
    .simp[Af]at g;simp only[A8,D7,Bm];exact⟨[],⟨V,.inl ⟨g,rfl,rfl⟩⟩,rfl,V,V⟩
    .simp[Af]at g;simp only[A8,D7];exact⟨[],⟨W,⟨V,.inl ⟨g,rfl,rfl⟩⟩,rfl⟩,rfl,V,V⟩
    .simp[Af]at g;simp[A8,D7];exact⟨[],⟨W,⟨V,.inl ⟨g,rfl,rfl⟩⟩,rfl⟩,V,V⟩
   grind [z?,Bg,Hh,u?,TV.WF,TV.tl]
 .exact h.elim
theorem X6(k:AN F0 w0 O a w G):∀{i:Nat}{xs:List Operand}{ys:List AE},BO xs ys=X->∀{ts:Fq},IB O i ys=Y ts->(∀x,xs[i]?=Y x->(a.eval x).oneCell'=X)->AP w (AW w0.heap.size F0 G) ts (xs.map a.eval)/\TV.tl ts
 |i,[],[],_,ts,hv,_=>by cases i<;>simp[IB]at hv<;>subst hv<;>exact⟨rfl,trivial⟩
 |_,[],_::_,g,_,_,_=>by simp[BO]at g|_,_::_,[],g,_,_,_=>by simp[BO]at g|0,x::xs,y::ys,g,ts,hv,ho=>by
  simp [BO]at g;simp[IB]at hv;split at hv
  next l h=>simp at hv;subst hv;have j:=FT k g.2 h;exact⟨⟨_,_,rfl,by simp[Af];exact ho x rfl,j.1⟩,trivial,j.2⟩
  .cases hv
 |i+1,x::xs,y::ys,g,ts,hv,ho=>by
  simp [BO]at g;simp[IB]at hv;split at hv
  next t l A h=>simp at hv;subst hv;have m:=Ar k g.1 A;have j:=X6 k g.2 h (λx u=>ho x g!);exact⟨⟨_,_,rfl,m.1,j.1⟩,m.2,j.2⟩
  .cases hv
noncomputable def Bh(a:Act)(G:BH)(s:Nat):DC:=open Classical in λq i=>if q=0 then G s i else if∃k lo,G s k=Y (q-1,lo)then(match i with|some j=>G (a.tmps.size+(q-1)) (Y j)|none=>W)else W
theorem Up{a:Act}{G:BH}{b lo:Nat}(h:Bh a G s q i=Y (b,lo)):(q=0/\G s i=Y (b,lo))\/(q≠0/\(∃k g,G s k=Y (q-1,g))/\G (a.tmps.size+(q-1)) i=Y (b,lo)):=by
 simp [Bh]at h;split at h
 .grind
 .rename_i e;split at h
  .grind
  .cases h
theorem Cz{a:Act}{G:BH}:Bh a G s 0=G s:=by
 funext i;simp[Bh]
theorem Ou{a:Act}{G:BH}{s g lo:Nat}{k:Option Nat}(h:G s k=Y (g,lo))(j:Nat):(Bh a G s).x9 g j=x9 a G g j:=by
 simp only[DC.x9,Bh,x9];rw[az U,ae ⟨k,lo,c_⟩];rfl
theorem Ja(h:AN F0 w0 O a w G)(B:s<a.tmps.size):Iw (Bh a G s):=by
 intro q i C D b lo m u A;rcases Up u with⟨k,g⟩|⟨k,_,g⟩<;>rcases Up A with⟨l,j⟩|⟨l,_,j⟩
 .exact⟨by rw[k,l],(h.og _ _ _ _ _ _ _ g j).2⟩
 .have:=(h.og _ _ _ _ _ _ _ g j).1;omega
 .have:=(h.og _ _ _ _ _ _ _ g j).1;omega
 .have:=h.og _ _ _ _ _ _ _ g j
  grind
theorem B2{b lo:Nat}(l:Bh a G s q i=Y (b,lo)):∃p j,G p j=Y (b,lo)/\(p=s\/∃g k h,p=a.tmps.size+g/\G s k=Y (g,h)):=by grind[Up]
noncomputable def B9(a:Act)(G:BH)(s d:Nat)(Z:DC):BH:=open Classical in λp=>if p=d then Z 0 else if p=s then λ_=>W else
 if a.tmps.size<=p/\∃k lo,Z 0 k=Y (p-a.tmps.size,lo)then(λi=>match i with|some j=>Z (p-a.tmps.size+1) (Y j)|none=>W)else
 if a.tmps.size<=p/\∃k lo,G s k=Y (p-a.tmps.size,lo)then λ_=>W else G p
variable{Z:DC}{p:Nat}
theorem PI{a:Act}{G:BH}{s d:Nat}{b lo:Nat}(h:B9 a G s d Z p i=Y (b,lo)):
  (p=d/\Z 0 i=Y (b,lo))\/(p≠d/\a.tmps.size<=p/\Z (p-a.tmps.size+1) i=Y (b,lo))\/(p≠d/\p≠s/\¬(a.tmps.size<=p/\∃k lo,G s k=Y (p-a.tmps.size,lo))/\G p i=Y (b,lo)):=by
 simp [B9]at h;split at h
 next e=>exact .inl ⟨e,h⟩
 .rename_i e;split at h
  .cases h
  .rename_i g;split at h
   .rename_i l;cases i with
    |none=>cases h
    |some j=>exact .inr (.inl ⟨e,l.1,h⟩)
   .split at h
    .cases h
    next m=>exact .inr (.inr ⟨e,g,m,h⟩)
theorem AN.zA(h:AN F0 w0 O a w G){s d:Nat}(hsz:s<a.tmps.size)(hd:d<a.tmps.size){w':World}(ζ:GK (Bh a G s) w w'){env':AB}{a':Act}(ha':a'.tmps.size=a.tmps.size)(had:a'.defers=a.defers)
  (hzu:Iw Z)(hz:∀q i b lo,Z q i=Y (b,lo)->b<w'.heap.size/\(w.heap.size<=b\/∃p j l,Bh a G s p j=Y (b,l)/\l<=lo))
  (hdom:∀p,a.tmps.size<=p->env'.get p=.undef)(hwf:∀p,(env'.get p).WF)
  (D:∀p,p≠d->p≠s->slot a' p=slot a p)(N:∀p,p≠d->p≠s->env'.get p=O.get p)(hgs:s≠d->env'.get s=.undef)
  (m:O.jj d=X\/(d=s/\(∃cs0,O.get s=.bx cs0)/\O.noX s W=X/\(∀n es,env'.get d≠.xo n es)/\slot a' s=slot a s)\/((∀cs,env'.get d≠.bx cs)/\∀n es,env'.get d≠.xo n es))
  (hrep:∀F',(∀b o,F' b o->(b<w.heap.size/\AW w0.heap.size F0 G b o/\¬ZF (Bh a G s) b o)\/ZF Z b o)->AL a' w' F' (B9 a G s d Z) env' d (env'.get d) (slot a' d)):
  AN F0 w0 env' a' w' (B9 a G s d Z)/\∀b o,AW w0.heap.size F0 (B9 a G s d Z) b o->(b<w.heap.size/\AW w0.heap.size F0 G b o/\¬ZF (Bh a G s) b o)\/ZF Z b o:=by
 have η:∀p i b lo,p≠s->¬(a.tmps.size<=p/\∃k lo,G s k=Y (p-a.tmps.size,lo))->G p i=Y (b,lo)->∀q j l,Bh a G s q j≠Y (b,l):=by
  intro p i b lo I hn A q j l H;obtain⟨p',j',R,κ⟩:=B2 H;obtain⟨rfl,_⟩:=h.og _ _ _ _ _ _ _ A R;rcases κ with κ|⟨g,k,lo0,rfl,f3⟩
  .exact I κ
  .exact hn ⟨U,k,lo0,by rw[E?];exact f3⟩
 have hE:∀b o,b<w0.heap.size->ZF (Bh a G s) b o->w0.E b o:=λb o hlt⟨q,i,lo,A,H⟩=>by
  obtain ⟨p,j,R,_⟩:=B2 A;exact(h.lt _ _ _ _ R).2.elim (λe=>U) (λe=>e o H)
 have hforb:∀b o,AW w0.heap.size F0 (B9 a G s d Z) b o->(b<w0.heap.size/\F0 b o)\/(∃p i lo,p≠s/\¬(a.tmps.size<=p/\∃k lo,G s k=Y (p-a.tmps.size,lo))/\G p i=Y (b,lo)/\lo<=o)\/ZF Z b o:=by
  rintro b o (A|⟨p,i,lo,A,H⟩)
  .exact .inl A
  .rcases PI A with⟨_,e⟩|⟨_,_,e⟩|⟨_,e1,e2,e3⟩
   .exact .inr (.inr ⟨_,i,lo,e,H⟩)
   .exact .inr (.inr ⟨_,i,lo,e,H⟩)
   grind
 have hall:∀b o,AW w0.heap.size F0 (B9 a G s d Z) b o->(b<w.heap.size/\AW w0.heap.size F0 G b o/\¬ZF (Bh a G s) b o)\/ZF Z b o:=by
  intro b o hf;rcases hforb b o hf with A|⟨p,i,lo,e1,e0,e2,e3⟩|A
  .exact .inl ⟨D' A.1 h.below.size,.inl A,λhz=>h.below.free _ _ _ (hE b o A.1 hz) A.2⟩
  .exact .inl ⟨(h.lt _ _ _ _ e2).1,.inr ⟨p,i,lo,e2,e3⟩,λ⟨q,j,l,R,_⟩=>η p i b lo e1 e0 e2 q j l R⟩
  .exact .inr A
 have hag:BS w w' (AW w0.heap.size F0 G) (AW w0.heap.size F0 (B9 a G s d Z)):=by
  intro b o u hc hF;have hlt:b<w.heap.size:=World.block_lt_of_cell? w ⟨b,o,W⟩ hc;have hnf:¬ZF (Bh a G s) b o:=λ⟨q,i,lo,A,H⟩=>by
   obtain ⟨p,j,R,_⟩:=B2 A;exact hF (.inr ⟨p,j,lo,R,H⟩)
  refine ⟨ζ.cell b o u hnf hc,λhF'=>?_⟩;rcases hall b o hF' with⟨_,A,_⟩|⟨q,i,lo,A,H⟩
  .exact hF A
  .rcases(hz q i b lo A).2 with h3|⟨p,j,l,h3,h4⟩
   .omega
   .exact hnf ⟨p,j,l,h3,D! h4 H⟩
 have hlow:∀p,p<a.tmps.size->p≠d->p≠s->B9 a G s d Z p=G p:=by
  intro p hp A H;simp[B9];rw[az A,az H,az (λe=>n_),az (λe=>n_)]
 refine ⟨⟨?_,?_,?_,had.trans h.defers,λp hp=>hdom p U,?_,hwf⟩,hall⟩
 .intro p i p' i' b lo l e1 e2;have mix:∀p i q i' lo l,p≠s->¬(a.tmps.size<=p/\∃k lo,G s k=Y (p-a.tmps.size,lo))->G p i=Y (b,lo)->Z q i'=Y (b,l)->False:=by
   intro p i q i' lo l hp hn R κ;rcases(hz q i' b l κ).2 with h3|⟨p2,j,θ,h3,_⟩
   .have:=(h.lt _ _ _ _ R).1;omega
   .exact η p i b lo hp hn R p2 j θ h3
  rcases PI e1 with⟨R,M⟩|⟨R,f3,M⟩|⟨_,f3,f4,M⟩<;>rcases PI e2 with⟨κ,g2⟩|⟨κ,f5,g2⟩|⟨_,f5,f6,g2⟩
  .exact⟨by rw[R,κ],(hzu _ _ _ _ _ _ _ M g2).2⟩
  .have:=(hzu _ _ _ _ _ _ _ M g2).1;omega
  .exact(mix _ _ _ _ _ _ f5 f6 g2 M).elim
  .have:=(hzu _ _ _ _ _ _ _ M g2).1;omega
  .have:=hzu _ _ _ _ _ _ _ M g2;exact⟨U,this.2⟩
  .exact(mix _ _ _ _ _ _ f5 f6 g2 M).elim
  .exact(mix _ _ _ _ _ _ f3 f4 M g2).elim
  .exact(mix _ _ _ _ _ _ f3 f4 M g2).elim
  .exact h.og _ _ _ _ _ _ _ M g2
 .intro p i b lo e1;have znew:∀q i,Z q i=Y (b,lo)->b<w'.heap.size/\(w0.heap.size<=b\/∀o,lo<=o->w0.E b o):=by
   intro q i R;obtain⟨A,H⟩:=hz q i b lo R;refine⟨A,?_⟩;rcases H with H|⟨p,j,l,H,h3⟩
   .exact .inl (D! h.below.size H)
   .obtain⟨p',j',κ,_⟩:=B2 H;exact(h.lt _ _ _ _ κ).2.imp id (λe o ho=>e o (D! h3 ho))
  rcases PI e1 with⟨_,M⟩|⟨_,_,M⟩|⟨_,_,_,M⟩
  .exact znew _ _ M
  .exact znew _ _ M
  .exact⟨D' (h.lt _ _ _ _ M).1 ζ.size,(h.lt _ _ _ _ M).2⟩
 .refine h.below.trans ζ.os ζ.tape ζ.output ζ.size (λk hk he=>ζ.block k (D' hk h.below.size) (λq i lo ε=>he lo (hE k lo hk ⟨q,i,lo,ε,b6 _⟩))) (λb o u hlt he hu=>ζ.cell b o u (λε=>he (hE b o hlt ε)) hu)
 .intro p hp;rw[ha']at hp;by_cases hpd:p=d
  .subst hpd;exact hrep _ hall
  .by_cases I:p=s
   .subst I;rw[hgs hpd];trivial
   .rw[N p hpd I,D p hpd I];have hn:¬(a.tmps.size<=p/\∃k lo,G s k=Y (p-a.tmps.size,lo)):=λe=>n_
    have hsame:∀r,(r≠d->r≠s)->r≠d->slot a' r=slot a r:=λr A H=>D r H (A H);refine AL.kept' hag (λi=>by rw[hlow p hp hpd I]) (λi b lo ε=>ζ.block b (h.lt _ _ _ _ ε).1 (λq j l=>η p i b lo I hn ε q j l)) (λi g lo j hg=>?_) (λi g lo j b l hg L=>?_) (λr i k L⟨pp,J⟩=>?_) (λr off L⟨cs2,hcs⟩=>?_) (λr i L⟨pp,J⟩=>?_) (h.slots p hp)
    .show B9 a G s d Z (a'.tmps.size+g) (Y j)=G (a.tmps.size+g) (Y j);rw[ha'];simp[B9];rw[az U,az U,az,az]
     .rintro⟨_,k,l,e⟩;rw[E?]at e;exact I (h.og _ _ _ _ _ _ _ hg e).1
     .rintro⟨_,k,l,e⟩;rw[E?]at e;rcases(hz _ _ _ _ e).2 with h3|⟨p2,j2,θ,h3,_⟩
      .have:=(h.lt _ _ _ _ hg).1;omega
      .exact η p i g lo I hn hg p2 j2 θ h3
    .refine ζ.block b (h.lt _ _ _ _ L).1 (λq j2 θ hzf=>?_);obtain⟨p',j',R,κ⟩:=B2 hzf;obtain⟨e1,_⟩:=h.og _ _ _ _ _ _ _ L R;rcases κ with κ|⟨g',k,lo0,f3,f4⟩
     .omega
     .have:g=g':=U
      subst this;exact I (h.og _ _ _ _ _ _ _ hg f4).1
    .obtain⟨cs,A,H⟩:=AB.wi J;by_cases B:r=d
     .subst B;rcases m with m|⟨rfl,_,m,_⟩|⟨m,_⟩
      .exact absurd L (AB.Aap _ O m p i k)
      .exact absurd L (AB.noX_nh m p i (.inl rfl) k)
      .exact absurd A (m cs)
     .by_cases C:r=s
      .subst C;rw[hgs B]at A;cases A
      .have h4:O.nat r i=Y pp:=by rw[<-J];exact(AB.zk (N r B C)).symm
       have hrl:r<a.tmps.size:=h.lts (by rw[<-N r B C,A];simp);exact⟨⟨pp,h4⟩,h.nh ⟨pp,h4⟩ (D r B C) (λj b _ δ=>ζ.block b (h.lt _ _ _ _ δ).1 (λq j2 θ=>η r j b 0 C (λe=>n_) δ q j2 θ))⟩
    .by_cases B:r=d
     .subst B;rcases m with m|⟨e1,⟨cs0,e2⟩,_,_,hds⟩|⟨m,_⟩
      .exact absurd L (AB.zX _ O m p off)
      .exact⟨⟨cs0,by rw[e1];exact e2⟩,by rw[e1];exact hds⟩
      .exact absurd hcs (m cs2)
     .by_cases C:r=s
      .subst C;rw[hgs B]at hcs;cases hcs
      .exact⟨⟨cs2,by rw[<-N r B C];exact hcs⟩,D r B C⟩
    .by_cases B:r=d
     .subst B;obtain⟨n,es⟩:=pp;rcases m with m|⟨rfl,_,m,hxo,_⟩|⟨m,hxo⟩
      .have hx:=AB.z7 _ O m p;rcases L with L|⟨c,L⟩
       .exact absurd L (hx.1 i)
       .exact absurd L (hx.2 i c)
      .cases i with
       |none=>exact absurd (AB.x8 J) (hxo n es)|some k=>
        have h5:=AB.noX_spec m p k (.inl rfl);rcases L with L|⟨c,L⟩
        .exact absurd L h5.1
        .exact absurd L (h5.2 c)
      .cases i with
       |none=>exact absurd (AB.x8 J) (hxo n es)|some k=>
        obtain ⟨cs,A,_⟩:=AB.tn J;exact absurd A (m cs)
     .by_cases C:r=s
      .subst C;rw[AB.zI (hgs B)]at J;cases J
      .have h4:O.x5 r i=Y pp:=by rw[<-J];exact(AB.y9 (N r B C)).symm
       have hrl:r<a.tmps.size:=by
        refine h.lts (λe=>?_);rw[AB.zI e]at h4;cases h4
       exact ⟨⟨pp,h4⟩,h.xv ⟨pp,h4⟩ (D r B C) (λb δ=>ζ.block b (h.lt _ _ _ _ δ).1 (λq j2 θ=>η r W b 0 C (λe=>n_) δ q j2 θ))⟩
theorem QN{a a':Act}{G:BH}{s d:Nat}(l:a'.tmps.size=a.tmps.size)(hd:d<a.tmps.size)(m:s<a.tmps.size){k:Option Nat}{g lo:Nat}(h:Z 0 k=Y (g,lo))(j:Nat):x9 a' (B9 a G s d Z) g j=Z.x9 g j:=by
 show B9 a G s d Z (a'.tmps.size+g) (Y j)=Z.x9 g j;rw[l];simp only[B9,DC.x9];rw[az U,az U,ae ⟨U,k,lo,by rw[E?];exact h⟩]
 grind
theorem AN.reboxed(h:AN F0 w0 O a w G){cs cs':List AR}(J:O.get s=.bx cs)(C:O.noX s W=X){w':World}(L:GK (Bh a G s) w w')
  (l:NO w' (λb o=>(b<w.heap.size/\AW w0.heap.size F0 G b o/\¬ZF (Bh a G s) b o)\/ZF Z b o) Z cs' (slot a s))
  (D:Iw Z)(M:∀q i b lo,Z q i=Y (b,lo)->b<w'.heap.size/\(w.heap.size<=b\/∃p j m,Bh a G s p j=Y (b,m)/\m<=lo))(N:∀c∈cs',c.t.WF):
  AN F0 w0 ((s,.bx cs')::O) a w' (B9 a G s s Z)/\∀b o,AW w0.heap.size F0 (B9 a G s s Z) b o->(b<w.heap.size/\AW w0.heap.size F0 G b o/\¬ZF (Bh a G s) b o)\/ZF Z b o:=by
 have k:s<a.tmps.size:=BV h J V;have A:AB.get ((s,EV.bx cs')::O) s=.bx cs':=by rw[AB.d6,ae rfl]
 refine h.zA k k L rfl rfl D M (λp R=>by rw[AB.d6,az U];exact h.dom p R) (λp=>?_) (λ_ _ _=>rfl) (λp _ E=>by rw[AB.d6,az (λe=>E e.symm)]) (λe=>absurd rfl e) (.inr (.inl ⟨rfl,⟨cs,J⟩,C,(λn es e=>by rw[A]at e;cases e),rfl⟩)) (λF' H=>?_)
 .rw[AB.d6];split
  .exact N
  .exact h.wf p
 .rw[A];obtain⟨b,c,θ,η,ζ,δ,h4,h5⟩:=l;have B:B9 a G s s Z s=Z 0:=by simp[B9]
  simp only[AL];refine⟨b,c,θ,η,ζ,δ,by rw[B];exact h4,λi d hd=>?_⟩;obtain⟨x,e1,e2⟩:=h5 i d hd;refine⟨x,e1,?_⟩;rw[B];exact(e2.kept (λb o u ε hf=>⟨ε,λI=>hf (H b o I)⟩) (λ_ _ _=>rfl) BA.rfl').x9 (λg lo j κ=>QN rfl k k κ j)
theorem gC(k:AN F0 w0 O a w G)(hd:d<a.tmps.size)(L:o.dst=Y d){xs:Array Operand}{ys:List AE}{i:Nat}(hop:o.op=.call {callee:=.value (.func f),args:=xs,argTypes:=ats})(M:BO xs.toList ys=X)(h:(AD.zi f ys i).wp (AX P) O (Y d) K)
  {next:Act->World->Prop}(hn:∀e env' a' w',K e env'->Qa a d a'->Bj F0 w0 ((d,e)::env') a' w'->next a' w'):o.wp P a w next Q:=by
 simp only[AD.wp]at h;split at h
 .rename_i d' s R D;simp at R;subst R;split at h
  .rename_i cs ε;obtain⟨⟨hno,hds⟩,h⟩:=h;cases H:IB O i ys with
   |none=>rw[H]at h;exact h.elim|some ts=>
    rw [H]at h;simp only[Ad]at h;obtain⟨cs',m,hS,hK⟩:=h;rw[H']at D;obtain⟨y,hy,D⟩:=D;have hxi:∀(xs:List Operand)(ys:List AE)(i:Nat)(y:AE),BO xs ys=X->ys[i]?=Y y->∃x,xs[i]?=Y x/\AK x y=X:=by
     intro xs
     induction xs with
     |nil=>intro ys i y A B;cases ys<;>simp[BO]at A B
     |cons x xs ih=>
      intro ys i y A B;cases ys with
      |nil=>simp[BO]at A|cons z ys=>
       simp [BO]at A
       grind
    obtain ⟨x,hx,hxy⟩:=hxi _ _ _ _ M hy;obtain⟨b,hsl,C⟩:=Gp k hxy D ε;have hv:=X6 k M H (λx' N=>by rw[hx]at N;cases N;rw[C];rfl);have κ:=k.wf s;rw[ε]at κ;have hbx:=AZ k ε V;have hsplit:∀b o,AW w0.heap.size F0 G b o↔((AW w0.heap.size F0 G b o/\¬ZF (Bh a G s) b o)\/ZF (Bh a G s) b o):=by
     intro b o;constructor
     .grind
     .rintro(hf|⟨q,i,lo,A,B⟩)
      .exact hf.1
      .obtain⟨p,j,I,_⟩:=B2 A;exact .inr ⟨p,j,lo,I,B⟩
    have hF:(λb o=>(AW w0.heap.size F0 G b o/\¬ZF (Bh a G s) b o)\/ZF (Bh a G s) b o)=AW w0.heap.size F0 G:=by
     grind
    obtain ⟨B,h3⟩:=hS hv.2 κ;have hbr:NO w (λb o=>(AW w0.heap.size F0 G b o/\¬ZF (Bh a G s) b o)\/ZF (Bh a G s) b o) (Bh a G s) cs (slot a s):=by
     rw [hF];obtain⟨b,c,θ,A,B,h3,h4,h5⟩:=hbx;refine⟨b,c,θ,A,B,h3,by rw[Cz];exact h4,λi d hd=>?_⟩;obtain⟨x,e1,e2⟩:=h5 i d hd;exact⟨x,e1,by rw[Cz];exact e2.x9 (λg lo j hg=>Ou hg j)⟩
    obtain ⟨⟨k1,k2⟩,k3⟩:=h3 (λb o=>AW w0.heap.size F0 G b o/\¬ZF (Bh a G s) b o) w (xs.map a.eval) (slot a s) (Bh a G s) (by rw[hF];simpa using hv.1)
     (by rw[Array.getElem?_map];rw[<-G!,hx];simp;rw[C,hsl]) hbr (Ja k (BV k ε V)) (λq i b lo e=>by obtain⟨p,j,I,_⟩:=B2 e;exact(k.lt _ _ _ _ I).1)
     (by
      rintro b o o' ⟨q,i,lo,e1,e2⟩ ⟨hf,hnz⟩;by_cases hlo:lo<=o'
      .exact hnz ⟨q,i,lo,e1,hlo⟩
      .obtain⟨p,j,I,_⟩:=B2 e1;exact Oe k b lo o' I U hf)
     ⟨k.below.now,λb o⟨_,_,_,e,_⟩=>by obtain⟨_,_,I,_⟩:=B2 e;exact k.low I⟩
    have η:(execOp a.eval o).run P w=(callFunc f (xs.map a.eval)).run P w:=by simp[execOp,hop,resolve,Act.eval,Deferred.ofValue,invoke]
    unfold Oper.wp;rw[η,ER B _,Oper.upon_enter];refine k3.mono ?_;rintro e w' ⟨r,J,rfl,r1,r2,r3,r4,r5⟩;simp[L];obtain⟨δ,E⟩:=k.reboxed ε hno r1 r2 r3 r4 k1;refine hn _ _ _ _ (hK ⟨k1,k2⟩) ⟨_,rfl⟩ ?_;have ζ:∀b o,AW w0.heap.size F0 (JU (B9 a G s s J) d λ_=>W) b o->(b<w.heap.size/\AW w0.heap.size F0 G b o/\¬ZF (Bh a G s) b o)\/ZF J b o:=by
     intro b o hf;have hf2:AW w0.heap.size F0 (B9 a G s s J) b o:=AW.mono (λp i b lo D=>by
      by_cases hpd:p=d
      .grind[Bt]
      .rw[BC _ _ _ _ hpd]at D;exact⟨p,i,lo,D,b6 _⟩) hf
     exact E b o hf2
    have l:BS w' w' (λb o=>(b<w.heap.size/\AW w0.heap.size F0 G b o/\¬ZF (Bh a G s) b o)\/ZF J b o) (AW w0.heap.size F0 (JU (B9 a G s s J) d λ_=>W)):=λb o u hc hf=>⟨hc,λE=>hf (ζ b o E)⟩;by_cases hus:∃t,m=[t]
    .obtain⟨t,rfl⟩:=hus;exact δ.tv (Below.refl _ _) d hd t r (By l t r r5) k2.1
    .have hof:EV.ofs m=.tp m:=by
      rcases m with _|⟨t,_|⟨t',m⟩⟩
      .rfl
      .grind
      .rfl
     have hur:∃vs,r=.tuple vs/\AP w' (λb o=>(b<w.heap.size/\AW w0.heap.size F0 G b o/\¬ZF (Bh a G s) b o)\/ZF J b o) m vs.toList:=by
      rcases m with _|⟨t,_|⟨t',m⟩⟩
      .exact r5
      .grind
      .exact r5
     obtain ⟨vs,rfl,hvs⟩:=hur;rw[hof];refine⟨_,δ.quiet (Below.refl _ _) d hd (.tp m) _ (λ_=>W) V V V ?_ k2⟩;simp only[AL];exact⟨vs,rfl,Aj l m _ hvs⟩
  .exact h.elim
 .exact h.elim
end
end Go.Sf
namespace Go.Sf
open Go.RowKit (Below)
variable{z z0:Value}
theorem KG(h:z.cells=#[z0])(k:Nat):Builtin.zeroCells z.cells k=(y_ k z0).toArray:=by
 rw [h];apply Array.ext
 .simp[Builtin.zeroCells]
 .intro i g j;simp[Builtin.zeroCells,Nat.mod_one]
section
variable{P:Program}{w:World}
theorem R6(t J ty e L:TypeId)(i:TypeInfo)(z z0:Value)(ε κ:IntKind)(M:P.underlying t=Y (.slice e))(B:P.underlying J=Y (.int κ))(hi:P.info? e=Y i)(η:i.zero=Y z)(N:i.size=1)(H:z.cells=#[z0])(ζ:z0.oneCell'=X)
  (g h j:Nat)(l:Array Value)(δ:w.heap[g]?=Y (.cells l L (0,0)))
  (k:Nat)(h48:k*i.bytes<=281474976710656)(R:(k:Int)<=9223372036854775807)(A:h+k<=j)(C:h+k<=l.size):
  (Builtin.append_ #[t,J] ty #[.slice (Y ⟨g,0,W⟩) h j,.int ε k]).run P w=
   .ok (.slice (Y ⟨g,0,W⟩) (h+k) j) (w.setRow g (l.toList.take h++y_ k z0++l.toList.drop (h+k)).toArray):=by
 have hw:IntKind.i64.wrap (k:Int)=k:=by rw[IntKind.wrap_i64];omega
 have D:¬((k:Int)<0):=U
 have E:¬(281474976710656<(k:Int)*(i.bytes:Int)):=by
  grind
 have m:=run_storeCells_at P g h L (y_ k z0) 0 l w δ s? (λu hu=>by rw[z9 hu];exact ζ);simp at m;by_cases θ:k=0
 .subst θ;simp at m;have I:IntKind.i64.wrap 0=0:=a?
  simp [Builtin.append_,run_underlying M,run_underlying B,sizeOf,typeInfo,hi,asInt,asIntOf,I,N,show h<=j from U,Addr.add_lit,m]
 .simp[Builtin.append_,run_underlying M,run_underlying B,sizeOf,typeInfo,zeroValue,hi,η,asInt,asIntOf,hw,D,E,N,θ,A,Addr.add_lit,KG H,m]
theorem TJ(t h ty e:TypeId)(i:TypeInfo)(j k:IntKind)(l:P.underlying t=Y (.slice e))(g:P.underlying h=Y (.int k))(hi:P.info? e=Y i):
  (Builtin.append_ #[t,h] ty #[.slice W 0 0,.int j 0]).run P w=.ok (.slice W 0 0) w:=by
 have m:IntKind.i64.wrap 0=0:=a?
 simp [Builtin.append_,run_underlying l,run_underlying g,sizeOf,typeInfo,hi,asInt,asIntOf,m]
theorem mF(t κ ty e:TypeId)(i:TypeInfo)(z z0:Value)(δ kn:IntKind)(ht:P.underlying t=Y (.slice e))(J:P.underlying κ=Y (.int kn))(hi:P.info? e=Y i)(hz:i.zero=Y z)
  (hs:i.size=1)(hby:i.bytes<=4096)(B:z.cells=#[z0])(h1:z0.oneCell'=X)(v:Value)(len:Nat)(xs:List Value)(zo:Option (Nat×Nat))(l:Fd w 1 v len xs zo)(k:Nat)(hk:k<=4096)(M:len+k<=AU):
  ∃v' w' z',(Builtin.append_ #[t,κ] ty #[v,.int δ k]).run P w=.ok v' w'/\Fd w' 1 v' (len+k) (xs++y_ k z0) z'/\Ic w w' zo z':=by
 have m:(xs++y_ k z0).length=(len+k)*1:=by rw[bk,l.1,y?];omega
 have L:(len+k)*i.bytes<=140737488355328:=by
  calc (len+k)*i.bytes<=AU*4096:=E' M hby
   _<=140737488355328:=a?
 have N:k*i.bytes<=281474976710656:=by
  grind
 have hml:len+k<=maxLen:=by simp[maxLen,AU]at *;omega
 have hzlt:∀b lo,zo=Y (b,lo)->b<w.heap.size:=by
  intro b lo I;rcases l.2 with⟨_,_,h⟩|⟨g,cap,E,ε,_,hg,_,_,_,_,h⟩
  .rw[h]at I;cases I
  grind
 have C:∀(old:Nat),old<len+k ->
   Fd (w.drew.alloc (.cells (xs.toArray++Builtin.zeroCells z.cells k++Builtin.zeroCells z.cells (grownCap w (len+k) old e-(len+k))) e)) 1
    (.slice (Y ⟨w.heap.size,0,W⟩) (len+k) (grownCap w (len+k) old e)) (len+k) (xs++y_ k z0) (Y (w.heap.size,(len+k)*1))/\
   Ic w (w.drew.alloc (.cells (xs.toArray++Builtin.zeroCells z.cells k++Builtin.zeroCells z.cells (grownCap w (len+k) old e-(len+k))) e)) zo (Y (w.heap.size,(len+k)*1)):=by
  intro old ho;have hge:=grownCap_ge w (len+k) old e;have R:grownCap w (len+k) old e<=maxLen:=grownCap_le_maxLen w (len+k) old e hml;have hxl:xs.length=len:=by simpa using l.1
  refine ⟨⟨m,.inr ⟨w.heap.size,_,_,e,rfl,heap_alloc_new w.drew _,hge,R,?_,?_,rfl⟩⟩,⟨rfl,rfl,rfl,V,λk hk _=>Below.heap_alloc w.drew _ k hk,λb o v η _=>?_,λb lo I=>?_⟩⟩
  .rw[KG B,KG B];simp[hxl];omega
  .rw[KG B,KG B];simp only[Array.toList_append,c9];rw[<-c9,<-m];exact C'
  .have I:b<w.heap.size:=World.block_lt_of_cell? w ⟨b,o,W⟩ η;rw[World.cell?_alloc_lt _ _ (a:=⟨b,o,W⟩) (by simpa using I)];simpa using η
  .simp at I;rw[<-I.1];exact⟨V,.inl (b6 _)⟩
 rcases l.2 with⟨rfl,rfl,rfl⟩|⟨g,cap,E,ε,rfl,hg,hnc,R,hcs,H,rfl⟩
 .have hx:xs=[]:=v1 (by simpa using l.1);subst hx;by_cases hk0:k=0
  .subst hk0;exact⟨_,_,W,TJ t κ ty e i δ kn ht J hi,⟨V,.inl ⟨rfl,rfl,rfl⟩⟩,Ic.refl w W V⟩
  .have ζ:=Lib.run_append_nil_zeros (P:=P) w t κ ty e i z δ kn ht J hi hz k U U U N;have A:=C 0 U;simp only[F_,List.nil_append,Array.empty_append]at A ζ|-;exact⟨_,_,_,ζ,A.1,A.2⟩
 .have hxl:xs.length=len:=by simpa using l.1
  simp at hcs H;by_cases D:len+k<=cap
  .have ζ:=R6 (P:=P) (w:=w) t κ ty e ε i z z0 δ kn ht J hi hz hs B h1 g len cap E hg k N U D U;refine⟨_,_,Y (g,(len+k)*1),ζ,⟨m,.inr ⟨g,cap,_,ε,rfl,setRow_heap w g E _ ε _ hg,D,R,?_,?_,rfl⟩⟩,⟨rfl,rfl,rfl,V,λj _ hj=>setRow_other w g j _ (λe=>hj (len*1) (by rw[e])),λb o u η hlo=>?_,λb lo I=>?_⟩⟩
   .simp;omega
   .rw[H,<-m];exact C'
   .by_cases hbg:b=g
    .subst hbg;have ho:=hlo (len*1) rfl;rw[cell_of_row _ b o _ ε (0,0) (setRow_heap w b E _ ε _ hg)];rw[cell_of_row w b o E ε (0,0) hg]at η;rw[A?,c9,A' an,B' U];simpa using η
    .rw[World.cell?_of_block (w:=w) (a:=⟨b,o,W⟩) (setRow_other w g b _ (λe=>hbg e))];exact η
   .simp only[t5,Prod.mk.injEq]at I;obtain⟨rfl,rfl⟩:=I;refine⟨by simpa using hzlt g (len*1) rfl,.inr ⟨len*1,rfl,D? _ U⟩⟩
  .have θ:(Builtin.firstCells i.size len (.slice (Y ⟨g,0,W⟩) len cap)).run P w.drew=.ok xs.toArray w.drew:=by
    refine run_firstCells_some (P:=P) w.drew i.size len ⟨g,0,W⟩ len cap xs (by rw[hs];omega) (λj u hu=>?_);rw[Addr.add_lit,F_];have:=l.cell rfl j u hu;simpa using this
   have ζ:=Lib.run_append_grow_zeros (P:=P) w t κ ty e i z δ kn ht J hi hz (Y ⟨g,0,W⟩) len cap xs θ k U U U (by simp[AU]at M;omega) N (growslice_fits U L);have A:=C cap U;exact⟨_,_,_,ζ,A.1,A.2⟩
end
def Operand.AaP(n:Nat):Operand->Bool
 |.tmp m=>m==n|_=>T
variable{n:Nat}{x:Operand}
theorem Operand.isTmp_eq'(h:Operand.AaP n x=X):x=.tmp n:=by
 cases x<;>simp[Operand.AaP]at h;rw[h]
def ia(P:Program)(n s:Nat)(z:TV)(x:AE)(c:Call):Bool:=
 match c.callee,c.args.toList,c.argTypes.toList with
 |.builtin .append,[p,q],[t,t']=>Operand.AaP s p&&AK q x&&(match P.underlying t,P.underlying t' with
  |some (.slice e),Y (.int _)=>(match P.info? e with
   |some i=>(match i.zero with
    |some zz=>(match zz.cells.toList with
     |[z0]=>n==1&&i.size==1&&decide (i.bytes<=4096)&&Dx z z0&&z0.oneCell'|_=>T)
    |none=>T)
   |none=>T)
  |_,_=>T)
 |_,_,_=>T
section
variable{P:Program}{S:FuncId->Fq->Al->Prop}{F0:Nat->Nat->Prop}{w0:W0}{O:AB}{a:Act}{w:World}{G:BH}{d:Nat}{o:Oper}{K:EV->AB->Prop}
variable{s:Nat}{x:Operand}{y:AE}{t t' e:TypeId}
theorem jr(N:AN F0 w0 O a w G)(hd:d<a.tmps.size){kn:IntKind}{i:TypeInfo}{R z0:Value}{z:TV}(θ:o.op=.call {callee:=.builtin .append,args:=#[.tmp s,x],argTypes:=#[t,t']})
  (ht:P.underlying t=Y (.slice e))(ε:P.underlying t'=Y (.int kn))(hi:P.info? e=Y i)(l:i.zero=Y R)(κ:i.size=1)(η:i.bytes<=4096)(ζ:R.cells=#[z0])(D:Dx z z0=X)(h1:z0.oneCell'=X)
  (δ:AK x y=X)(h:(AD.Aat 1 s z y).wp S O (Y d) K):At P F0 w0 a w o d K:=by
 simp [AD.wp]at h;split at h
 .rename_i d' m es kk j E hs hy;simp at E;subst E;obtain⟨⟨⟨rfl,_⟩,I⟩,⟨h0,h4⟩,⟨g,hno,hds⟩,hK⟩:=h;obtain⟨k,rfl⟩:∃k:Nat,j=k:=⟨j.toNat,U⟩;simp at g hK;have A:=AZ N hs V;have B:=N.wf s;rw[hs]at B;simp[AL]at A;obtain⟨xs,⟨zo,k1,J⟩,k2,k3,k4⟩:=A;have hv:=(Ar N δ hy).1;simp[Af]at hv;obtain⟨v',w',z',L,r1,C⟩:=mF (P:=P) t t' o.type e i R z0 kk kn ht ε hi l κ η ζ h1 (slot a s) es.length xs zo k1 k U g;have hnz:∀k,(∀lo,G s W≠Y (k,lo))->∀lo,zo≠Y (k,lo):=λk hk lo l=>hk 0 (by rw[J,l];rfl);have hfm:∀k,(y_ k z).flatMap TV.cells=y_ k z:=by
   intro k
   induction k with
   |zero=>rfl|succ k ih=>rw[y!,u!,ih,I];rfl
  refine ⟨v',w',?_,_,_,hK,N.xgo hs hd hds (z':=z'.map λp=>(p.1,0)) C.os C.tape C.output C.size (λk hk l=>C.other k hk (hnz k l)) (λb lo l=>?_) V (λ_=>hno) (λF' G' env' a' hag hG _=>?_) ?_⟩
  .simp[execOp,θ,resolve,invoke,builtin,show a.eval (.tmp s)=slot a s from rfl,hv,L]
  .cases z' with
   |none=>simp at l|some p=>
    simp at l;obtain⟨q1,M⟩:=C.AaT p.1 p.2 rfl;rw[<-l.1];refine⟨q1,?_⟩;rcases M with M|⟨lo',M,_⟩
    .exact .inl M
    .exact .inr ⟨0,by rw[J,M];rfl⟩
  .simp only[AL];rw[hG];refine⟨xs++y_ k z0,⟨z',by rw[bk,y?];exact r1,rfl⟩,?_,?_,?_⟩
   .rw[x!,hfm];refine Hw (Aj hag _ _ k2) ?_;rw[BQ];refine⟨V,λi u v hu hv=>?_⟩;rw[z9 (u? hu),z9 (u? hv)];exact(Gr _ F' z z0 D).1
   .intro e he;rcases x?.1 he with he|he
    .exact k3 e he
    .rw[z9 he,I];rfl
   .intro x H;rcases x?.1 H with H|H
    .exact k4 x H
    .rw[z9 H];exact h1
  .simp only[EV.WF,TV.WF]at B|-;refine⟨by rw[bk,y?];exact UK g,J1.2 ⟨B.2,?_⟩⟩;rw[Bg];intro u hu;rw[z9 hu];exact(Gr w (λ_ _=>False) z z0 D).2
 .exact h.elim
variable{f:FuncId}{ats:Array TypeId}
theorem gE(l:AN F0 w0 O a w G)(hd:d<a.tmps.size){xs:Array Operand}{ys:List AE}(j:o.op=.call {callee:=.value (.func f),args:=xs,argTypes:=ats})(k:BO xs.toList ys=X)(h:(AD.Aaf f ys).wp (AX P) O (Y d) K):At P F0 w0 a w o d K:=by
 simp [AD.wp]at h;cases g:vals O ys with
 |none=>rw[g]at h;exact h.elim|some ts=>
  rw [g]at h;simp[Ad]at h;obtain⟨m,u,A⟩:=h;have hv:=FT l k g;obtain⟨⟨E,B⟩,C⟩:=u hv.2;obtain⟨r,D,H⟩:=C w (xs.map a.eval) (by simpa using Aj Xk _ _ hv.1);refine⟨.tuple r,w,by simp[execOp,j,resolve,Act.eval,Deferred.ofValue,invoke,<-D],_,_,A,_,l.quiet (Below.refl _ _) d hd (.tp m) _ (λ_=>W) V V V ?_ B⟩
  grind [AL,GF]
def aa(P:Program)(t:TypeId)(n:Nat):Bool:=
 match P.underlying t with
 |some (.slice e)=>(match P.info? e with
  |some ie=>ie.size==n|none=>T)
 |_=>T
variable{n:Nat}
theorem j6(A:AN F0 w0 O a w G)(hd:d<a.tmps.size)(k:o.op=.buildSlice t 0 #[])(g:aa P t n=X)(h:(AD.Aav n).wp S O (Y d) K):At P F0 w0 a w o d K:=by
 simp [AD.wp]at h;obtain⟨m,D⟩:=h;unfold aa at g;split at g
 .rename_i e B;split at g
  .rename_i E l;have j:(execOp a.eval o).run P w=.ok (.value (.slice (Y ⟨w.heap.size,0,W⟩) 0 0)) (w.alloc (.cells #[] e)):=by
    simp [execOp,k,Instr.buildSlice,run_underlying B,sizeOf,typeInfo,l,Instr.fill,newRow]
    grind
   have C:Below w.heap.size w (w.alloc (.cells #[] e)):=(Below.refl _ _).alloc (b6 _) _;refine⟨_,_,j,_,_,D,A.Aa7 C hd m (z:=Y (w.heap.size,0*n)) (xs:=[]) ⟨V,.inr ⟨w.heap.size,0,_,e,V,heap_alloc_new w _,V,by simp[maxLen],V,V,V⟩⟩ (λb lo u=>?_) (λF' _=>rfl) V V ⟨V,trivial⟩⟩;simp at u;rw[<-u.1];exact⟨b6 _,V⟩
  .cases g
 .cases g
theorem Jl(h:AB):∀(g:QQ)(O:AB)(n:Nat),AB.get (Ql h g O) n=if n∈g then(h.get n).gave else O.get n
 |[],_,_=>by simp[Ql]|q::g,O,n=>by
  rw [Ql,AB.d6,Jl h g O n]
  grind
theorem Lc(e:EV):(∃t,e=.ow t/\e.gave=.tv t)\/e.gave=.undef:=by
 cases e<;>first|exact .inl ⟨_,rfl,rfl⟩|exact .inr rfl
abbrev Sy:=Value ⊕ (Operand×Nat×Nat)
def Uh:List Sy->Nat->List Sy->List Sy
 |l,_,[]=>l|l,i,y::ys=>Uh (l.set i y) (i+1) ys
def R8(place:Nat->Option (Nat×Nat)):List (Nat×Operand)->List Sy->Option (List Sy)
 |[],row=>Y row|(i,x)::ps,row=>match place i with
  |some (off,n)=>if off+n<=row.length then R8 place ps (Uh row off ((List.range n).map λk=>.inr (x,k,n)))else W|none=>W
def Sy.is(a:Act):Sy->Value->Prop
 |.inl u,v=>v=u|.inr (x,k,_),v=>(a.eval x).cells[k]?=Y v
def Q1(a:Act)(row:List Sy)(xs:List Value):Prop:=xs.length=row.length/\∀(j:Nat)(s:Sy)(v:Value),row[j]?=Y s->xs[j]?=Y v->s.is a v
variable{v:Value}
theorem jc{a:Act}{row:List Sy}{xs:List Value}(h:Q1 a row xs){s:Sy}(m:s.is a v)(i:Nat):Q1 a (row.set i s) (xs.set i v):=by
 refine ⟨by simp[h.1],λj s' l g k=>?_⟩;rw[v5]at g k;by_cases e:i=j
 .grind
 .rw[az e]at g k;exact h.2 j s' l g k
theorem Y0{a:Act}:∀{g:List Sy}{vs:List Value}{row:List Sy}{xs:List Value}(i:Nat),Q1 a row xs->Q1 a g vs->Q1 a (Uh row i g) (Vq xs i vs)
 |[],[],_,_,_,h,_=>h|[],_::_,_,_,_,_,h=>by have:=h.1;simp at this|_::_,[],_,_,_,_,h=>by have:=h.1;simp at this|s::g,v::vs,row,xs,i,h,k=>by
  rw [Uh,Vq];exact Y0 (i+1) (jc h (k.2 0 s v rfl rfl) i) ⟨by have:=k.1;simpa using this,λj s' l m u=>k.2 (j+1) s' l (by simpa using m) g!⟩
theorem aA{a:Act}{place:Nat->Option (Nat×Nat)}:∀{u:List (Nat×Operand)}{row g:List Sy}{xs:Array Value},Q1 a row xs.toList->(∀p∈u,∀l n,place p.1=Y (l,n)->(a.eval p.2).cells.size=n)->R8 place u row=Y g ->
  ∃xs',Instr.fill place xs (u.map λ(i,x)=>(i,a.eval x))=Y xs'/\Q1 a g xs'.toList
 |[],row,g,xs,h,_,hf=>by
  simp [R8]at hf;subst hf;exact⟨xs,rfl,h⟩
 |(i,x)::u,row,g,xs,h,D,hf=>by
  rw [R8]at hf;split at hf
  .rename_i l n A;split at hf
   .rename_i E;have m:=D (i,x) V l n A;simp only at m;have H:=h.1;rw[F?]at H;have I:Q1 a (Uh row l ((List.range n).map λk=>.inr (x,k,n))) (((a.eval x).cells.zipIdx.foldl (λcs(y:Value×Nat)=>cs.setIfInBounds (l+y.2) y.1) xs)).toList:=by
     rw [<-Array.foldl_toList,Array.toList_zipIdx,Q9,E!];refine Y0 l h ⟨by simp[m],λj s v B L=>?_⟩;rw[B?]at B;simp at B;obtain⟨k,M,rfl⟩:=B;have C:k=j:=by
      grind
     subst C;show(a.eval x).cells[k]?=Y v
     grind
    obtain ⟨xs',N,J⟩:=aA I (λp A=>D p (by simp[A])) hf;refine⟨xs',?_,J⟩;simp[x_,Instr.fill,A]
    grind
   .cases hf
  .cases hf
def Rx:GC->Sy->Bool
 |.z c,.inl v=>UN c v|.v y k n,.inr (x,k',n')=>AK x y&&k==k'&&n==n'|.w q,.inr (x,k',n')=>AK x (.s q)&&k'==0&&n'==1|.g q k n,.inr (x,k',n')=>AK x (.s q)&&k==k'&&n==n'|_,_=>T
def SU:List GC->List Sy->Bool
 |[],[]=>X|g::gs,s::ss=>Rx g s&&SU gs ss|_,_=>T
def UD(x:Operand)(n:Nat):GC->Bool
 |.z _=>T|.v y _ m=>AK x y&&m==n|.w q=>AK x (.s q)&&1==n|.g q _ m=>AK x (.s q)&&m==n
def Sl(place:Nat->Option (Nat×Nat))(z:List Value)(ps:List (Nat×Operand))(gs:List GC):Bool:=
 (ps.all λp=>match place p.1 with
  |some (_,n)=>gs.any (UD p.2 n)|none=>T) &&
 match R8 place ps (z.map .inl)with
 |some row=>SU gs row|none=>T
def aY(P:Program)(t:TypeId)(ps:List (Nat×Operand))(gs:List GC):Bool:=
 match P.info? t,P.underlying t with
 |some it,Y (.array _ e)=>
  match it.zero,P.info? e with
  |some z,Y ie=>Sl (λi=>Y (i*ie.size,ie.size)) z.cells.toList ps gs|_,_=>T
 |some it,Y (.struct fields)=>
  match it.zero,fields.toList.mapM (λf=>(P.info? f.type).map λi=>(f.offset,i.size))with
  |some z,Y places=>Sl (places.toArray[·]?) z.cells.toList ps gs|_,_=>T
 |_,_=>T
theorem UC:∀{k:List GC}{l:List Sy},SU k l=X->l.length=k.length/\∀(j:Nat)(g:GC),k[j]?=Y g->∃s,l[j]?=Y s/\Rx g s=X
 |[],[],_=>⟨rfl,λj g h=>by simp at h⟩|[],_::_,h=>c?
 |_::_,[],h=>c?
 |g::k,s::l,h=>by
  rw [SU,sx]at h;obtain⟨m,u⟩:=UC h.2
  grind
theorem Wc:∀{k:List GC}{cs:List AR},JE O k=Y cs->cs.length=k.length/\∀(j:Nat)(g:GC),k[j]?=Y g->∃c,cs[j]?=Y c/\g.cell O=Y c
 |[],cs,h=>by simp[JE]at h;subst h;exact⟨rfl,λj g h=>by simp at h⟩|g::k,cs,h=>by
  rw [JE]at h;split at h
  .rename_i c cs' m l;cases h;obtain⟨u,A⟩:=Wc l
   grind
  .cases h
variable{q:Nat}
theorem Jk(h:AK x (.s q)=X):a.eval x=slot a q:=by
 cases x<;>simp[AK]at h;rw[h];rfl
variable{c:AR}
theorem kv(l:AN F0 w0 O a w G){g:GC}(h:g.cell O=Y c)(j:UD x n g=X):(a.eval x).cells.size=n:=by
 cases g with
 |z c=>cases j
 |v y k m=>
  simp [UD]at j;obtain⟨j,rfl⟩:=j;simp[GC.cell]at h;split at h
  .rename_i t B;split at h
   .rename_i u A;have:=A9 (GG (Ar l j B).1).1
    grind [F?,F!]
   .cases h
  .cases h
 |w q=>
  simp [UD]at j;obtain⟨j,rfl⟩:=j;rw[Jk j];have:(slot a q).oneCell'=X:=by
   simp [GC.cell]at h;split at h
   .rename_i t e;have:=AZ l e V
    grind [AL,U9]
   next m es e=>have:=AZ l e V;exact GW (ρ:=x9 a G) (c:=⟨X,.xl m es⟩) this
   .cases h
  rw [PY this];rfl
 |g q k m=>
  simp [UD]at j;obtain⟨j,rfl⟩:=j;rw[Jk j];simp[GC.cell]at h;split at h
  .rename_i cs e;split at h
   next u=>have:=AZ l e V;simp[AL]at this;obtain⟨vs,A,C,_⟩:=this;rw[A];show vs.size=m;rw[C,F! u]
   .cases h
  .cases h
theorem rV(A:AN F0 w0 O a w G){g:GC}(h:g.cell O=Y c){s:Sy}(l:Rx g s=X)(hv:s.is a v):A8 w (AW w0.heap.size F0 G) (x9 a G) (g.src.bind λp=>G p.1 p.2) c v/\c.t.WF:=by
 cases g with
 |z c'=>
  cases s with
  |inr p=>cases l
  |inl u=>
   simp [GC.cell]at h;subst h;have:v=u:=hv;subst this;exact VP l
 |v y k m=>
  cases s with
  |inl u=>cases l
  |inr p=>
   obtain ⟨x,E,H⟩:=p;simp[Rx]at l;obtain⟨⟨B,rfl⟩,_⟩:=l;have hv:(a.eval x).cells[k]?=Y v:=hv;simp[GC.cell]at h;split at h
   .rename_i t J;split at h
    next c' ε C=>cases h;obtain⟨L,M⟩:=Ar A B J;obtain⟨N,R⟩:=GG L;rw[<-G!]at hv;exact⟨⟨((BQ _ _).1 N).2 k _ _ C hv,R v (u? hv)⟩,Bg.1 (Hh M) _ (u? C)⟩
    .cases h
   .cases h
 |w q=>
  cases s with
  |inl u=>cases l
  |inr p=>
   obtain ⟨x,E,H⟩:=p;simp[Rx]at l;obtain⟨⟨B,rfl⟩,_⟩:=l;have hv:(a.eval x).cells[0]?=Y v:=hv;rw[Jk B]at hv;have j:=A.wf q;simp[GC.cell]at h;split at h
   next t e=>cases h;have:=AZ A e V;simp[AL]at this;rw[PY (U9 this)]at hv;cases hv;rw[e]at j;exact⟨this.c,j⟩
   next m es e=>cases h;have:=AZ A e V;have D:A8 w (AW w0.heap.size F0 G) (x9 a G) (G q W) ⟨X,.xl m es⟩ (slot a q):=this;rw[PY (GW D)]at hv;cases hv;rw[e]at j;exact⟨D,j⟩
   .cases h
 |g q k m=>
  cases s with
  |inl u=>cases l
  |inr p=>
   obtain ⟨x,E,H⟩:=p;simp[Rx]at l;obtain⟨⟨B,rfl⟩,_⟩:=l;have hv:(a.eval x).cells[k]?=Y v:=hv;rw[Jk B]at hv;have j:=A.wf q;simp[GC.cell]at h;split at h
   .rename_i cs e;split at h
    .have:=AZ A e V;simp[AL]at this;obtain⟨vs,C,_,θ⟩:=this;rw[C]at hv;have hv:vs[k]?=Y v:=hv;obtain⟨x',I,D⟩:=θ k c h;rw[hv]at I;cases I;rw[e]at j;exact⟨D,j c (u? h)⟩
    .cases h
   .cases h
theorem AN.regather(h:AN F0 w0 O a w G)(hd:d<a.tmps.size){C:QQ}{cs:List AR}{vs:Array Value}(σ:Nat->Option (Nat×Option Nat))(hdq:d∉C)(δ:vs.size=cs.length)(hσ:∀j q i,σ j=Y (q,i)->q∈C)
  (R:∀j θ p,σ j=Y p->σ θ=Y p->j=θ)(hc:∀(j:Nat)(c:AR),cs[j]?=Y c->∃x,vs[j]?=Y x/\A8 w (AW w0.heap.size F0 G) (x9 a G) ((σ j).bind λp=>G p.1 p.2) c x)(hwf:∀c∈cs,c.t.WF)(hq:∀q∈C,q<a.tmps.size):
  Bj F0 w0 ((d,.yy cs)::Ql O C O) (a.put (Y d) (.agg vs)) w:=by
 let A:BH:=λp i=>if p=d then i.bind λj=>(σ j).bind λp=>G p.1 p.2 else if p∈C then W else G p i
 have I:∀p i b lo,A p i=Y (b,lo)->(∃j q k,p=d/\i=Y j/\σ j=Y (q,k)/\G q k=Y (b,lo))\/(p≠d/\p∉C/\G p i=Y (b,lo)):=by
  intro p i b lo m;simp[A]at m;split at m
  .rename_i u;cases i with
   |none=>cases m
   |some j=>
    simp at m;cases hj:σ j with
    |none=>rw[hj]at m;cases m
    |some q=>rw[hj]at m;exact .inl ⟨j,q.1,q.2,u,rfl,hj,m⟩
  grind
 have hF:∀b o,AW w0.heap.size F0 A b o->AW w0.heap.size F0 G b o:=λb o hf=>AW.mono (λp i b lo m=>by
  grind) hf
 have J:BS w w (AW w0.heap.size F0 G) (AW w0.heap.size F0 A):=λb o v hc hf=>⟨hc,λhf'=>hf (hF b o hf')⟩;have D:x9 (a.put (Y d) (.agg vs)) A=x9 a G:=MW (BU _ _ _) λp m=>by
  grind
 refine ⟨A,?_,?_,h.below,g_,?_,?_,?_⟩
 .intro p i p' i' b lo lo' e1 g;rcases I _ _ _ _ e1 with⟨j,q,k,rfl,rfl,η,f2⟩|⟨n1,n2,η⟩<;>rcases I _ _ _ _ g with⟨θ,q',k',rfl,rfl,ζ,g2⟩|⟨m1,m2,ζ⟩
  .obtain⟨κ,e4⟩:=h.og _ _ _ _ _ _ _ f2 g2;subst κ;subst e4;exact⟨rfl,by rw[R j θ _ η ζ]⟩
  .obtain⟨κ,_⟩:=h.og _ _ _ _ _ _ _ f2 ζ;exact absurd (κ▸hσ j q k η) m2
  .obtain⟨κ,_⟩:=h.og _ _ _ _ _ _ _ g2 η;exact absurd (κ▸hσ θ q' k' ζ) n2
  .exact h.og _ _ _ _ _ _ _ η ζ
 .intro p i b lo e1;rcases I _ _ _ _ e1 with⟨j,q,k,_,_,_,f⟩|⟨_,_,f⟩<;>exact h.lt _ _ _ _ f
 .intro p m;rw[BU]at m;rw[AB.d6,az U,Jl];split
  next hm=>have:=hq p hm;omega
  .exact h.dom p m
 .intro p m;rw[BU]at m;rw[AB.d6];by_cases u:d=p
  .subst u;rw[ae rfl,CS _ _ _ hd];simp only[AL];refine⟨_,rfl,δ,λi c hci=>?_⟩;obtain⟨x,M,hr⟩:=hc i c hci;refine⟨x,M,?_⟩;have:A d (Y i)=(σ i).bind λp=>G p.1 p.2:=by simp only[A,if_true];rfl
   rw [this,D];exact hr.kept J (λ_ _ _=>rfl) BA.rfl'
  .rw[az u,AY _ _ _ _ u,Jl];split
   .rcases Lc (O.get p)with⟨t,e,g⟩|g
    .have E:=AZ h e V;rw[g];simp[AL]at E|-;exact By J _ _ (Bm.rep E (λb lo o hz ho=>Oe h b lo o hz ho))
    .rw[g];simp[AL]
   .rename_i hnq;refine AL.kept J (λi=>by simp[A];rw[az (λe=>u e.symm),az hnq]) (λ_ _ _ _=>rfl) D BA.rfl' (λr i k _⟨pp,H⟩=>?_) (λr off _⟨cs',l⟩=>?_) (λr i _⟨pp,H⟩=>?_) (h.slots p m)
    .have L:=AB.ym V H;have B:=Jl O C O r;split at B
     .have ε:=L.2;rcases Lc (O.get r)with⟨t,_,g⟩|g<;>rw[g]at B<;>simp[AB.nat,B]at ε<;>cases ε
     .have M:∃p,O.nat r i=Y p:=⟨pp,by rw[<-L.2];exact(AB.zk B).symm⟩;exact⟨M,h.nh M (AY _ _ _ _ L.1) (λ_ _ _ _=>rfl)⟩
    .rw[AB.d6]at l;by_cases N:d=r
     .rw[ae N]at l;cases l
     .rw[az N,Jl]at l;split at l
      .rcases Lc (O.get r)with⟨t,_,g⟩|g<;>(rw[g]at l;cases l)
      .exact⟨⟨cs',l⟩,AY _ _ _ _ N⟩
    .have L:=AB.x4 V V H;have B:=Jl O C O r;split at B
     .have ε:=L.2;rcases Lc (O.get r)with⟨t,_,g⟩|g<;>rw[g]at B<;>cases i<;>simp[AB.x5,B]at ε<;>cases ε
     .have M:∃p,O.x5 r i=Y p:=⟨pp,by rw[<-L.2];exact(AB.y9 B).symm⟩;exact⟨M,h.xv M (AY _ _ _ _ L.1) (λ_ _=>rfl)⟩
 .intro p;rw[AB.d6];split
  .exact hwf
  .rw[Jl];have:=h.wf p;split
   .rcases Lc (O.get p)with⟨t,e,g⟩|g
    .rw[e]at this;rw[g];exact this
    .rw[g];trivial
   .exact this
theorem ZE{α β:Type}{f:α->Option β}{l:List α}(g:(l.filterMap f).Nodup){i j:Nat}{p:β}(hi:(l[i]?).bind f=Y p)(u:(l[j]?).bind f=Y p):i=j:=by
 have key:∀(l:List α)(i j:Nat),(l.filterMap f).Nodup->(l[i]?).bind f=Y p->(l[j]?).bind f=Y p->i<j->False:=by
  intro l
  induction l with
  |nil=>intro i j _ h;simp at h|cons x l C=>
   intro i j g A B m;obtain⟨j,rfl⟩:∃k,j=k+1:=⟨j-1,U⟩
   grind
 grind
theorem jt(L:AN F0 w0 O a w G)(hd:d<a.tmps.size){E:Array (Nat×Operand)}{A:List GC}(ζ:o.op=.build t E)(l:aY P t E.toList A=X)(h:(AD.yz A).wp S O (Y d) K):At P F0 w0 a w o d K:=by
 simp only[AD.wp]at h;obtain⟨⟨hn,hdq⟩,h⟩:=h;cases H:JE O A with
 |none=>rw[H]at h;exact h.elim|some cs=>
  rw [H]at h;simp[Ad]at h;obtain⟨hl,D⟩:=Wc H;have key:∀(place:Nat->Option (Nat×Nat))(z:Array Value),Sl place z.toList E.toList A=X->∃xs',Instr.fill place z (E.map λ(i,x)=>(i,a.eval x)).toList=Y xs'/\xs'.size=cs.length/\
    ∀(j:Nat)(c:AR),cs[j]?=Y c->(∃x,xs'[j]?=Y x/\A8 w (AW w0.heap.size F0 G) (x9 a G) (((A[j]?).bind GC.src).bind λp=>G p.1 p.2) c x)/\c.t.WF:=by
   intro place z hp;unfold Sl at hp;rw[sx,B!]at hp;obtain⟨hp1,J⟩:=hp;split at J
   .rename_i row N;have h5:(E.map λ(i,x)=>(i,a.eval x)).toList=E.toList.map λ(i,x)=>(i,a.eval x):=V
    obtain ⟨xs',δ,ε⟩:=aA (a:=a) (xs:=z) (row:=z.toList.map .inl) ⟨V,λj s v B C=>by
     rw [B?]at B;simp only[H_]at B;obtain⟨u,hu,rfl⟩:=B;rw[hu]at C;cases C;rfl⟩ (λp hm off n M=>by
     grind [List.any_eq_true,z?,kv]) N
    obtain ⟨m1,m2⟩:=UC J;have R:=ε.1;rw[F?]at R;refine⟨xs',by rw[h5];exact δ,U,λj c m=>?_⟩;have hj:j<A.length:=by have:=(z!.1 m).1;omega
    have I:A[j]?=Y A[j]:=v9 hj;obtain⟨c',θ,hc2⟩:=D j _ I;rw[m]at θ;cases θ;obtain⟨s,hs1,hs2⟩:=m2 j _ I;have hx:xs'[j]?=Y (xs'[j]' U):=Array.getElem?_eq_getElem U;obtain⟨r1,r2⟩:=rV L hc2 hs2 (ε.2 j s _ hs1 (by rw[G!];exact hx));rw[I];exact⟨⟨_,hx,r1⟩,r2⟩
   .cases J
  have built:∃xs',P.built t (E.map λ(i,x)=>(i,a.eval x)).toList=Y xs'/\xs'.size=cs.length/\
    ∀(j:Nat)(c:AR),cs[j]?=Y c->(∃x,xs'[j]?=Y x/\A8 w (AW w0.heap.size F0 G) (x9 a G) (((A[j]?).bind GC.src).bind λp=>G p.1 p.2) c x)/\c.t.WF:=by
   unfold aY at l;unfold Program.built;split at l
   .rename_i it len e B C;simp only[B,C];split at l
    next z ie hz hie=>simp only[hz,hie];exact key _ _ l
    .cases l
   .rename_i it κ B C;simp only[B,C];split at l
    next z η hz M=>simp only[hz,M];exact key _ _ l
    .cases l
   .cases l
  obtain ⟨xs',B,C,h3⟩:=built;refine⟨.agg xs',w,by simp[execOp,ζ,run_build w t _ _ B],_,_,h,L.regather hd (λj=>(A[j]?).bind GC.src) hdq C (λj q i e=>?_) (λj j' p δ ε=>ZE hn δ ε) (λj c m=>(h3 j c m).1) (λc m=>?_) (λq hq=>?_)⟩
  .rw[H']at e;obtain⟨g,I,e⟩:=e;refine C!.2 ⟨g,u? I,?_⟩;cases g<;>simp[GC.src]at e<;>simp[GC.slot,e.1]
  .grind[z?]
  .obtain⟨g,I,e⟩:=C!.1 hq;obtain⟨j,hj⟩:=z? I;obtain⟨c,_,m⟩:=D j g hj;cases g with
   |z c=>cases e
   |v y k n=>cases e
   |w q'=>
    cases e;simp[GC.cell]at m;split at m
    next t e=>exact BV L e V
    next n es e=>exact BV L e V
    .cases m
   |g q' k n=>
    cases e;simp[GC.cell]at m;split at m
    next cs e=>exact BV L e V
    .cases m
end
end Go.Sf
