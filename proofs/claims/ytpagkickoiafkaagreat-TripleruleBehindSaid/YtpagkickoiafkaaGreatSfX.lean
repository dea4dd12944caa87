/- Lists that nobody else reads: stores into them, appends, calls that turn them. -/
import Derived.Test.YtpagkickoiafkaaGreatSfApp
import Derived.Lib.AppendZerosOnto
set_option linter.all false
open Option renaming some->Y,none->W
open Bool renaming true->X,false->T
open List renaming flatMap_cons->l!,mem_of_getElem?->l?,eq_nil_of_length_eq_zero->m_,getElem?_set->m?,mem_or_eq_of_mem_set->nc,getElem?_eq_getElem->nQ,mem_of_mem_take->nR,mem_of_mem_drop->nS,take_append->nT,take_of_length_le->nU,map_map->nV,singleton_append->nW,map_cons->nX,flatMap_append->nY,mem_append->nZ,replicate->n7,replicate_succ->n8,length_replicate->n9,eq_of_mem_replicate->n_,getElem?_drop->n!,getElem?_eq_some_iff->n?,getElem?_of_mem->oa,length_drop->ob,getElem?_append_left->oc,getElem?_take->od,getElem?_toArray->oe,getElem?_append_right->og,getElem?_take_of_lt->oh,all_eq_true->oi,getElem?_map->oj,length_singleton->ol,take_left->om,mem_filterMap->oo
open Nat renaming lt_or_ge->ot,zero_le->ou,lt_of_lt_of_le->ov,le_trans->ox,mul_le_mul_right->oy,min_eq_left->oz,mul_le_mul->oA,add_zero->oB,add_sub_cancel_left->oC,zero_add->oD,eq_of_beq_eq_true->oE
open Array renaming length_toList->oF,replicate->oG,getElem?_toList->oH
open Option renaming map_some->oI,map_eq_some_iff->oJ,bind_eq_some_iff->oK
namespace Go.Sf
open Go.RowKit (Below)
def MF:Operand->Bool
 |.const v=>Gy v|_=>T
variable{α:Type}
theorem S4{a:Array α}{x:α}(h:a.toList=[x]):a=#[x]:=by
 cases a;simp_all
section flat
variable{w w':World}{F F':Nat->Nat->Prop}
mutual
theorem Kf:∀(t:TV),t.flat=X->∀v,AV w F t v->AV w' F' t v
 |.int _ _,_,_,h=>h|.bool _,_,_,h=>h|.str _,_,_,h=>h|.agg cs,hf,v,h=>by
  have:=Cs cs (by simpa[TV.flat]using hf)
  grind [AV]
 |.undef,hf,_,_=>by simp[TV.flat]at hf|.xl _ _,hf,_,_=>by simp[TV.flat]at hf|.nil,hf,_,_=>by simp[TV.flat]at hf|.list _ _,hf,_,_=>by simp[TV.flat]at hf|.pt _,hf,_,_=>by simp[TV.flat]at hf|.kL _ _,hf,_,_=>by simp[TV.flat]at hf
theorem Cs:∀(ts:Fq),TV.ki ts=X->∀vs,AM w F ts vs->AM w' F' ts vs
 |[],_,vs,h=>h|t::ts,hf,vs,h=>by
  simp [TV.ki]at hf;simp[AM]at h|-;obtain⟨v,r,g,j,k⟩:=h;exact⟨v,r,g,Kf t hf.1 v j,Cs ts hf.2 r k⟩
end
theorem OP:∀(xs ys:Fq),TV.ki (xs++ys)=(TV.ki xs&&TV.ki ys)
 |[],ys=>by simp[TV.ki]|x::xs,ys=>by simp[TV.ki,OP xs ys,Bool.and_assoc]
theorem TG(t:TV)(h:t.flat=X):TV.ki t.cells=X:=by
 cases t<;>simp_all[TV.flat,TV.cells,TV.ki]
theorem FR:∀(es:Fq),TV.ki es=X->TV.ki (es.flatMap TV.cells)=X
 |[],_=>rfl|e::es,h=>by
  simp [TV.ki]at h;rw[l!,OP,TG e h.1,FR es h.2];rfl
end flat
section
variable{P:Program}{S:FuncId->Fq->AZ->Prop}{F0:Nat->Nat->Prop}{w0:W0}{O:AA}{a:Act}{w:World}{G:Ay}{d:Nat}{o:Oper}{K:EV->AA->Prop}
variable{q n:Nat}
theorem AA.xat_of_xo{O:AA}{es:Fq}(h:O.get q=.xo n es):O.jT q W=Y (n,es):=by simp[AA.jT,h]
variable{x:Operand}{y:AC}
theorem Ib(k:AJ F0 w0 O a w G)(g:AF x y=X){p:(Nat×Option Nat)×Nat×Fq}(h:y.kc O=Y p):O.jT p.1.1 p.1.2=Y (p.2.1,p.2.2)/\XV a w p.1.1 p.1.2 (a.eval x):=by
 cases y with
 |c t=>simp[AC.kc]at h|s m=>
  have l:x=.tmp m:=by
   cases x<;>simp[AF]at g;rw[g]
  subst l;simp only[AC.kc]at h;split at h
  next n es he=>simp only[jR]at h;subst h;exact⟨by simp only[AA.jT,he],rfl⟩
  .rename_i q i he;split at h
   next u j=>simp only[jR]at h;subst h;have:=AR k he V;simp only[AH]at this;exact⟨j,this ⟨_,j⟩⟩
   .cases h
  .cases h
variable{i:Option Nat}{v:Value}
theorem I1{es:Fq}(h:AJ F0 w0 O a w G)(g:O.jT q i=Y (n,es))(hv:XV a w q i v):
  (TV.list n es).WF/\∃xs,E1 w n v es.length xs (G q i)/\AM w (AP w0.heap.size F0 G) (es.flatMap TV.cells) xs/\(∀e∈es,e.cells.length=n)/\∀x∈xs,x.oneCell'=X:=by
 cases i with
 |none=>
  have g:=AA.j6 g;have j:=AR h g V;have l:=h.wf q;rw[g]at l;simp only[AH]at j;simp only[XV]at hv;rw[hv];exact⟨l,j⟩
 |some k=>
  obtain ⟨cs,u,A⟩:=AA.jV g;have j:=AR h u V;have l:=h.wf q;rw[u]at l;simp only[AH]at j;obtain⟨b,c,θ,D,E,L,M,H⟩:=j;obtain⟨N,c',R,m,B,C⟩:=hv;rw[D]at m;simp only[Value.pointer.injEq,jR,Addr.mk.injEq,and_true,and_self]at m;subst m;rw[E]at B;cases B;obtain⟨x,I,J⟩:=H k _ A;rw[I]at C;cases C;exact⟨l _ (l? A),J⟩
theorem Yg{es:Fq}(h:AJ F0 w0 O a w G)(k:O.jT q i=Y (n,es))(hv:XV a w q i v):∀b lo,G q i=Y (b,lo)->lo=0:=by
 intro b lo g;obtain⟨_,xs,⟨l,_,j⟩,_⟩:=I1 h k hv;rw[j]at g;cases l with
 |none=>simp at g|some p=>simp at g;exact g.2.symm
theorem U7{es:Fq}(h:AJ F0 w0 O a w G)(u:O.jT q i=Y (n,es))(hv:XV a w q i v)(k:es≠[]):
  ∃g cap j e xs,v=.slice (Y ⟨g,0,W⟩) es.length cap/\w.heap[g]?=Y (.cells j e (0,0))/\es.length<=cap/\cap<=maxLen/\j.size=cap*n/\j.toList.take (es.length*n)=xs/\G q i=Y (g,0)/\AM w (AP w0.heap.size F0 G) (es.flatMap TV.cells) xs/\(∀e∈es,e.cells.length=n)/\(∀x∈xs,x.oneCell'=X)/\xs.length=es.length*n:=by
 obtain ⟨_,xs,⟨R,m,l⟩,A,B,C⟩:=I1 h u hv;rcases m.2 with⟨_,D,_⟩|⟨g,cap,j,e,E,H,I,J,L,M,N⟩
 .exact absurd (m_ D) k
 .exact⟨g,cap,j,e,xs,E,H,I,J,L,M,by rw[l,N];rfl,A,B,C,m.1⟩
theorem AJ.rexo(h:AJ F0 w0 O a w G){es:Fq}(L:O.jT q i=Y (n,es))(hv:XV a w q i v){w':World}(hb:KJ (G q i) w w'){es':Fq}{xs':List Value}(M:E1 w' n v es'.length xs' (G q i))
  (η:A3 w w' (AP w0.heap.size F0 G) (AP w0.heap.size F0 G)->AM w' (AP w0.heap.size F0 G) (es'.flatMap TV.cells) xs')(hn:∀e∈es',e.cells.length=n)(h1:∀x∈xs',x.oneCell'=X)(hw:(TV.list n es').WF):
  AJ F0 w0 (O.kj q i n es') a w' G:=by
 obtain ⟨b1,b2,b3,b4,b5⟩:=hb;have hz0:=Yg h L hv;have ε:A3 w w' (AP w0.heap.size F0 G) (AP w0.heap.size F0 G):=by
  intro b o u hc hF;refine⟨?_,hF⟩;have κ:b<w.heap.size:=by
   grind [ot,World.cell?,Array.getElem?_eq_none]
  rw [World.cell?_of_block (w:=w) (a:=⟨b,o,W⟩) (b5 b κ (λlo B=>hF (.inr ⟨q,i,lo,B,by rw[hz0 b lo B];exact ou _⟩)))];exact hc
 have I:DU F0 w0 w':=h.below.but b1 b2 b3 b4 (Z:=λk=>∃lo,G q i=Y (k,lo)) (λb⟨lo,B⟩=>(h.lt _ _ _ _ B).2.imp id (λe o=>e o (by rw[hz0 b lo B];exact ou _))) (λk hk B=>b5 k (ov hk h.below.size) (λlo e=>B ⟨lo,e⟩));have κ:∀s i b lo,G s i=Y (b,lo)->b<w'.heap.size/\(w0.heap.size<=b\/∀o,lo<=o->w0.E b o):=λs i b lo H=>⟨ov (h.lt s i b lo H).1 b4,(h.lt s i b lo H).2⟩;have hxv:∀r j,(∃m,O.jT r j=Y m)->∀v,XV a w r j v->XV a w' r j v:=by
  intro r j δ;cases j with
  |none=>exact λv hv=>hv|some k=>
   refine h.xv δ rfl (λb hb=>b5 b (h.lt _ _ _ _ hb).1 (λlo B=>?_));obtain⟨rfl,rfl⟩:=h.jp _ _ _ _ _ _ _ B hb;have h1:=AA.j6 L
   grind [AA.jV]
 have hqsz:q<a.tmps.size:=by
  cases i with
  |none=>exact h.lts (by rw[AA.j6 L];simp)|some k=>obtain⟨cs,H,_⟩:=AA.jV L;exact h.lts (by rw[H];simp)
 have hrs:At w w' (j8 a G):=by
  intro g j b lo hr;exact b5 b (h.lt _ _ _ _ hr).1 (λlo' B=>h.mS hqsz B hr rfl)
 have hnh:∀r j,(∃m,O.nat r j=Y m)->∀k v,NH a w r j k v->NH a w' r j k v:=by
  intro r j δ k;refine h.nh δ rfl (λl b hl hb=>b5 b (h.lt _ _ _ _ hb).1 (λlo B=>?_));obtain⟨rfl,rfl⟩:=h.jp _ _ _ _ _ _ _ B hb;obtain⟨es1,δ⟩:=δ;obtain⟨cs,C,N⟩:=AA.j0 δ;rcases hl with rfl|rfl
  .rw[AA.j6 L]at C;cases C
  grind [AA.jV]
 have oth:∀(p:Nat)(e:EV),p<a.tmps.size->p≠q->(∀j,(∃m,AA.nat ((q,e)::O) q j=Y m)->∃m,O.nat q j=Y m)->(∀cs,e=.bx cs->∃cs',O.get q=.bx cs')->(∀j,(∃m,AA.jT ((q,e)::O) q j=Y m)->∃m,O.jT q j=Y m)->AH a w' (AP w0.heap.size F0 G) G ((q,e)::O) p (O.get p) (slot a p):=by
  intro p e R hpq hnt hbx hxa;refine AH.kept ε (λ_=>rfl) (λj b lo B=>b5 b (h.lt _ _ _ _ B).1 (λlo' hz'=>hpq (h.jp _ _ _ _ _ _ _ B hz').1)) rfl hrs (λr j k _⟨m,A⟩=>?_) (λr off _⟨cs,hcs⟩=>?_) (λr j _⟨m,A⟩=>?_) (h.slots p R)
  .have δ:∃m,O.nat r j=Y m:=by
    by_cases hqr:q=r
    .subst hqr;exact hnt j ⟨m,A⟩
    grind [AA.kA]
   grind
  .grind[AA.gp]
  .have δ:∃m,O.jT r j=Y m:=by
    by_cases hqr:q=r
    .subst hqr;exact hxa j ⟨m,A⟩
    grind [AA.kv]
   grind
 cases i with
 |none=>
  have L:=AA.j6 L;have hsz:=A5 h L V;refine⟨h.jp,κ,I,h.defers,λp R=>?_,λp R=>?_,λp=>?_⟩
  .simp only[AA.kj];rw[AA.gp,az U];exact h.dom p R
  .simp only[AA.kj];rw[AA.gp];by_cases D:q=p
   .subst D;rw[ae rfl];simp only[AH];simp only[XV]at hv;rw[hv]at M;exact⟨xs',M,η ε,hn,h1⟩
   .rw[az D];refine oth p _ R (λe=>D e.symm) (λj⟨m,A⟩=>by obtain⟨cs,e⟩:=AA.kV A;cases e) V (λj⟨m,A⟩=>?_);cases j with
    |none=>exact⟨(n,es),by simp only[AA.jT,L]⟩|some k=>
     obtain ⟨n1,es1⟩:=m;obtain⟨cs,C,_⟩:=AA.jV A;rw[AA.gp,ae rfl]at C;cases C
  .simp only[AA.kj];rw[AA.gp];split
   .exact hw
   .exact h.wf p
 |some k=>
  obtain ⟨cs,H,hk⟩:=AA.jV L;have hsz:=A5 h H V;have hwc:=h.wf q;rw[H]at hwc;have hr:=AR h H V;simp only[AH]at hr;obtain⟨b,c,θ,e1,e2,e3,e4,e5⟩:=hr;obtain⟨b',c',T',f1,f2,f3⟩:=hv;rw[e1]at f1;simp only[Value.pointer.injEq,jR,Addr.mk.injEq,and_true,and_self]at f1;subst f1;rw[e2]at f2;cases f2;have hbb:w'.heap[b]?=w.heap[b]?:=b5 b (h.lt _ _ _ _ e4).1 (λlo B=>by
   have:=(h.jp _ _ _ _ _ _ _ B e4).2;cases this)
  refine ⟨h.jp,κ,I,h.defers,λp R=>?_,λp R=>?_,λp=>?_⟩
  .simp only[AA.kj,H];rw[AA.gp,az U];exact h.dom p R
  .simp only[AA.kj,H];rw[AA.gp];by_cases D:q=p
   .subst D;rw[ae rfl];simp only[AH];refine⟨b,c,θ,e1,by rw[hbb];exact e2,by simpa using e3,e4,λj d ζ=>?_⟩;rw[m?]at ζ;by_cases J:k=j
    .subst J;rw[ae rfl]at ζ;split at ζ
     .simp only[jR]at ζ;subst ζ;exact⟨v,f3,xs',M,η ε,hn,h1⟩
     .cases ζ
    .rw[az J]at ζ;obtain⟨x,g1,g2⟩:=e5 j d ζ;exact⟨x,g1,g2.kept ε (λb lo B=>b5 b (h.lt _ _ _ _ B).1 (λlo' hz'=>J (by
      have:=(h.jp _ _ _ _ _ _ _ hz' B).2;simpa using this))) hrs⟩
   .rw[az D];refine oth p _ R (λe=>D e.symm) (λj⟨m,A⟩=>?_) (λ_ _=>⟨cs,H⟩) (λj⟨m,A⟩=>?_)
    .obtain⟨cs',C,N⟩:=AA.j0 A;rw[AA.gp,ae rfl]at C;simp only[EV.bx.injEq]at C;subst C;rw[m?]at N;split at N
     .split at N<;>simp at N
     .exact⟨m,by simp only[AA.nat,H,N]⟩
    obtain ⟨n1,es1⟩:=m;cases j with
    |none=>have C:=AA.j6 A;rw[AA.gp,ae rfl]at C;cases C
    |some j=>
     obtain ⟨cs',C,N⟩:=AA.jV A;rw[AA.gp,ae rfl]at C;simp only[EV.bx.injEq]at C;subst C;rw[m?]at N;by_cases J:k=j
     .subst J;exact⟨(n,es),L⟩
     .rw[az J]at N;exact⟨(n1,es1),by simp only[AA.jT,H,N]⟩
  .simp only[AA.kj,H];rw[AA.gp];split
   .intro y hy;rcases nc hy with hy|rfl
    .exact hwc y hy
    .exact hw
   .exact h.wf p
theorem AJ.xgo(h:AJ F0 w0 O a w G){es:Fq}(hq:O.get q=.xo n es)(hd:d<a.tmps.size)(hdq:d≠q){w':World}{e:EV}{z':Option (Nat×Nat)}
  (b1:w'.os=w.os)(b2:w'.tape=w.tape)(b3:w'.output=w.output)(b4:w.heap.size<=w'.heap.size)(ζ:∀k,k<w.heap.size->(∀lo,G q W≠Y (k,lo))->w'.heap[k]?=w.heap[k]?)
  (m:∀b lo,z'=Y (b,lo)->b<w'.heap.size/\(w.heap.size<=b\/∃l,G q W=Y (b,l)))
  (δ:∀cs,e≠.bx cs)(hno:(∃n es,e=.xo n es)->O.je d=X)
  (hrep:∀(F':Nat->Nat->Prop)(I:Ay)(env':AA)(a':Act),A3 w w' (AP w0.heap.size F0 G) F'->I d W=z'->(∀b o,F' b o->b<w.heap.size\/∃lo,z'=Y (b,lo))->AH a' w' F' I env' d e v)(hw:e.WF):
  BF F0 w0 ((d,e)::(q,.undef)::O) (a.put (Y d) v) w':=by
 let I:Ay:=EZ (EZ G q (λ_=>W)) d (λi=>if i=W then z' else W)
 have ε:=Yg h (AA.xat_of_xo hq) (v:=slot a q) rfl;have H:∀p i b lo,I p i=Y (b,lo)->(p=d/\i=W/\z'=Y (b,lo))\/(p≠d/\p≠q/\G p i=Y (b,lo)):=by
  intro p i b lo θ;by_cases C:p=d
  .grind[BH]
  .simp[I,Aq _ _ _ _ C]at θ;by_cases hpq:p=q
   .grind[BH]
   .rw[Aq _ _ _ _ hpq]at θ
    grind
 have hag:A3 w w' (AP w0.heap.size F0 G) (AP w0.heap.size F0 I):=by
  intro b o u hc hF;have hlt:b<w.heap.size:=World.block_lt_of_cell? w ⟨b,o,W⟩ hc;have hnz:∀lo,G q W≠Y (b,lo):=λlo D=>hF (.inr ⟨q,W,lo,D,by rw[ε b lo D];exact ou _⟩);refine⟨?_,?_⟩
  .grind[World.cell?_of_block]
  .rintro(M|⟨p,i,lo,M,R⟩)
   .exact hF (.inl M)
   .rcases H _ _ _ _ M with⟨_,_,L⟩|⟨_,_,L⟩
    .grind
    .exact hF (.inr ⟨p,i,lo,L,R⟩)
 refine ⟨I,?_,?_,h.below.but b1 b2 b3 b4 (Z:=λk=>∃lo,G q W=Y (k,lo)) (λb⟨lo,D⟩=>(h.lt _ _ _ _ D).2.imp id (λe o=>e o (by rw[ε b lo D];exact ou _))) (λk hk D=>ζ k (ov hk h.below.size) (λlo e=>D ⟨lo,e⟩)),d!,?_,?_,?_⟩
 .intro p i p' i' b lo l L e2;have other:∀p i lo l,z'=Y (b,lo)->p≠q->G p i=Y (b,l)->False:=by
   intro p i lo l E η f3;rcases(m _ _ E).2 with κ|⟨lo'',κ⟩
   .have:=(h.lt _ _ _ _ f3).1;omega
   .exact η (h.jp _ _ _ _ _ _ _ f3 κ).1
  rcases H _ _ _ _ L with⟨rfl,rfl,E⟩|⟨n1,n2,E⟩<;>rcases H _ _ _ _ e2 with⟨rfl,rfl,η⟩|⟨m1,m2,η⟩
  .exact⟨rfl,rfl⟩
  .exact(other _ _ _ _ E m2 η).elim
  .exact(other _ _ _ _ η n2 E).elim
  .exact h.jp _ _ _ _ _ _ _ E η
 .intro p i b lo L;rcases H _ _ _ _ L with⟨_,_,E⟩|⟨_,_,E⟩
  .refine⟨(m _ _ E).1,?_⟩;rcases(m _ _ E).2 with κ|⟨l,κ⟩
   .exact .inl (ox h.below.size κ)
   .exact(h.lt _ _ _ _ κ).2.imp id (λe o _=>e o (by rw[ε _ _ κ];exact ou _))
  .exact⟨ov (h.lt _ _ _ _ E).1 b4,(h.lt _ _ _ _ E).2⟩
 .intro p θ;rw[A6]at θ;have:=A5 h hq V;rw[AA.gp,az U,AA.gp,az U];exact h.dom p θ
 .intro p θ;rw[A6]at θ;rw[AA.gp];by_cases C:d=p
  .subst C;rw[ae rfl,Bg _ _ _ hd];refine hrep _ _ _ _ hag (by simp[I,BH]) λb o hf=>?_;rcases hf with M|⟨p,i,lo,M,_⟩
   .exact .inl (ov M.1 h.below.size)
   .rcases H _ _ _ _ M with⟨_,_,L⟩|⟨_,_,L⟩
    .exact .inr ⟨lo,L⟩
    .exact .inl (h.lt _ _ _ _ L).1
  .rw[az C,AQ _ _ _ _ C,AA.gp];split
   .trivial
   .rename_i hqp;refine AH.kept hag (λi=>by simp[I];rw[Aq _ _ _ _ (λe=>C e.symm),Aq _ _ _ _ (λe=>hqp e.symm)]) (λi b lo D=>ζ b (h.lt _ _ _ _ D).1 (λl m=>hqp (h.jp _ _ _ _ _ _ _ m D).1)) (GU (A6 _ _ _) λr J=>by
     have:=A5 h hq V;simp[I];rw[Aq _ _ _ _ U,Aq _ _ _ _ U]) (λg j b lo J=>by
     exact ζ b (h.lt _ _ _ _ J).1 (λl D=>h.mS (A5 h hq V) D J rfl)) (λr i k J⟨pp,N⟩=>?_) (λr off _⟨cs,A⟩=>?_) (λr i J⟨pp,N⟩=>?_) (h.slots p θ)
    .have M:=AA.kf δ N;have R:=AA.kf V M.2;exact⟨⟨pp,R.2⟩,h.nh ⟨pp,R.2⟩ (AQ _ _ _ _ M.1) (λ_ b _ hb=>ζ b (h.lt _ _ _ _ hb).1 (λl m=>R.1 (h.jp _ _ _ _ _ _ _ m hb).1))⟩
    .rw[AA.gp]at A;by_cases B:d=r
     .rw[ae B]at A;exact absurd A (δ cs)
     .rw[az B,AA.gp]at A;split at A
      .cases A
      .exact⟨⟨cs,A⟩,AQ _ _ _ _ B⟩
    .by_cases B:d=r
     .subst B;have hno':O.je d=X:=by
       grind [AA.ly]
      have hx:=AA.ll d O hno' p;rcases J with J|⟨c,J⟩
      .exact absurd J (hx.1 i)
      .exact absurd J (hx.2 i c)
     .rw[AA.kv B]at N;have R:=AA.jW V V N;exact⟨⟨pp,R.2⟩,h.xv ⟨pp,R.2⟩ (AQ _ _ _ _ B) (λb hb=>ζ b (h.lt _ _ _ _ hb).1 (λl m=>R.1 (h.jp _ _ _ _ _ _ _ m hb).1))⟩
 .intro p;rw[AA.gp];split
  .exact hw
  .rw[AA.gp];split
   .trivial
   .exact h.wf p
variable{s:Nat}
theorem S0(j:AJ F0 w0 O a w G)(hd:d<a.tmps.size)(g:o.op=.move (.tmp s)\/o.op=.assign (.tmp s))(h:(AB.nm s).wp S O (Y d) K):Am P F0 w0 a w o d K:=by
 simp only[AB.wp]at h;split at h
 .rename_i n es l;refine⟨slot a s,w,by rcases g with g|g<;>simp[execOp,g,show a.eval (.tmp s)=slot a s from rfl],_,_,h,_,j.quiet (Below.refl _ _) d hd (.la s W) _ (λ_=>W) V V V ?_ trivial⟩;simp only[AH];rintro⟨p,k⟩;have m:=AA.jW V V k
  grind [XV,AQ]
 .exact h.elim
variable{t e:TypeId}
theorem WC(j:AJ F0 w0 O a w G)(hd:d<a.tmps.size)(k:o.op=.call {callee:=.builtin .len,args:=#[x],argTypes:=#[t]})(l:AF x y=X)
  (he:P.underlying t=Y (.slice e))(h:(AB.mz y).wp S O (Y d) K):Am P F0 w0 a w o d K:=by
 simp only[AB.wp]at h;cases m:y.kc O with
 |none=>rw[m]at h;exact h.elim|some p=>
  rw [m]at h;simp only[AS]at h;obtain⟨B,C⟩:=Ib j l m;obtain⟨D,E⟩:=I1 j B C;simp only[TV.WF,FE]at D;obtain⟨xs,⟨I,H,_⟩,_⟩:=E;have hv:∃u cap,a.eval x=.slice u p.2.2.length cap:=by
   rcases H.2 with⟨A,J,_⟩|⟨g,cap,_,_,A,_⟩
   .grind
   .exact⟨_,_,A⟩
  obtain ⟨u,cap,hv⟩:=hv;refine Bc j hd (v:=.int .i64 p.2.2.length) (t:=.int .i64 p.2.2.length) ?_ rfl ⟨e!,i!⟩ h;simp[execOp,k,resolve,invoke,builtin,Builtin.len_,run_underlying he,hv,goInt]
theorem S1(l:AJ F0 w0 O a w G)(hd:d<a.tmps.size){x i:Operand}{y j:AC}(E:o.op=.indexAddr t x i)(H:AF x y=X)(u:AF i j=X)(C:EH P t=Y n)(h:(AB.nB y j n).wp S O (Y d) K):Am P F0 w0 a w o d K:=by
 simp only[AB.wp]at h;cases I:y.kc O with
 |none=>rw[I]at h;exact h.elim|some p=>
  obtain ⟨⟨q,κ⟩,m,es⟩:=p;rw[I]at h;simp only[AS]at h;split at h
  .rename_i k D θ;obtain⟨⟨_,rfl⟩,η,M,ζ⟩:=h;obtain⟨δ,N⟩:=Ib l H I;have A:=Ak l u θ;simp only[AV]at A;obtain⟨g,cap,cur,e,xs,R,_⟩:=U7 l δ N (by rintro rfl;simp at M;omega);unfold EH at C;split at C
   .rename_i el ε;have J:0<=D/\D<(es.length:Int):=⟨η,M⟩;refine⟨.pointer (Y ⟨g,D.toNat*m,W⟩),w,?_,_,_,ζ,_,l.quiet (Below.refl _ _) d hd (.lp q κ (D.toNat*m)) _ (λ_=>W) V V V ?_ trivial⟩
    .simp[execOp,E,R,A.1,Instr.indexAt,asIntOf,run_underlying ε,J,BP C,Addr.add_lit]
    .simp only[AH];rintro⟨pp,L⟩;have B:=AA.jW V V L;exact⟨g,_,_,l.xv ⟨_,B.2⟩ (AQ _ _ _ _ B.1) (λ_ _=>rfl) _ (by rw[<-R];exact N),rfl⟩
   .cases C
  .exact h.elim
theorem UW(k:AJ F0 w0 O a w G)(h:AF x y=X){q c:Nat}{p:Nat×Fq}(j:y.ev O=.lp q i c)(l:O.jT q i=Y p):∃g len cap,XV a w q i (.slice (Y ⟨g,0,W⟩) len cap)/\a.eval x=.pointer (Y ⟨g,c,W⟩):=by
 cases y with
 |c t=>simp[AC.ev]at j|s m=>
  have u:x=.tmp m:=by
   cases x<;>simp[AF]at h;rw[h]
  subst u;simp only[AC.ev]at j;have:=AR k j V;simp only[AH]at this;exact this ⟨p,l⟩
theorem Xx(l:AJ F0 w0 O a w G)(hd:d<a.tmps.size){f k:Nat}(m:o.op=.fieldAddr t x f)(u:AF x y=X)(B:JQ P t f=Y k)(h:(AB.xfa y k).wp S O (Y d) K):Am P F0 w0 a w o d K:=by
 simp only[AB.wp]at h;split at h
 .rename_i q i c C;split at h
  next I D=>obtain⟨g,len,cap,E,H⟩:=UW l u C D;refine⟨.pointer (Y ⟨g,c+k,W⟩),w,by simp[execOp,m,H,O2 B],_,_,h,_,l.quiet (Below.refl _ _) d hd (.lp q i (c+k)) _ (λ_=>W) V V V ?_ trivial⟩;simp only[AH];rintro⟨J,A⟩;have j:=AA.jW V V A;exact⟨g,_,_,l.xv ⟨_,j.2⟩ (AQ _ _ _ _ j.1) (λ_ _=>rfl) _ E,rfl⟩
  .exact h.elim
 .exact h.elim
variable{dst:Option Nat}
theorem ZO{S:FuncId->Fq->AZ->Prop}{O:AA}{K:EV->AA->Prop}{x i:AC}(h:(AB.nJ x i n).wp S O dst K):(AB.nB x i n).wp S O dst K:=by
 simp only[AB.wp]at h|-;split at h
 .rename_i q A j g l;split at h
  .rename_i m es u;have:x.kc O=Y ((q,W),m,es):=by
    cases x with
    |c t=>simp[AC.ev]at g|s k=>simp only[AC.ev]at g;simp only[AC.kc,g,AA.jT,u]
   simp only[this,AS,l,g];exact⟨⟨rfl,h.1⟩,h.2⟩
  .exact h.elim
 .exact h.elim
theorem ZP{S:FuncId->Fq->AZ->Prop}{O:AA}{K:EV->AA->Prop}{x:AC}(h:(AB.nu x).wp S O dst K):(AB.nv x).wp S O dst K:=by
 simp only[AB.wp]at h|-;split at h
 .rename_i q c g;split at h
  next m es j=>simp only[g,AA.jT,j];exact h
  .exact h.elim
 .exact h.elim
theorem S2(l:AJ F0 w0 O a w G)(hd:d<a.tmps.size)(m:o.op=.load t x)(u:AF x y=X)(J:BM P t=Y T)(h:(AB.nv y).wp S O (Y d) K):Am P F0 w0 a w o d K:=by
 simp [AB.wp]at h;split at h
 .rename_i q i c L;split at h
  .rename_i M A;obtain⟨n,es⟩:=M;simp only at h;cases k:(es.flatMap TV.cells)[c]? with
   |none=>rw[k]at h;exact h.elim|some t'=>
    rw [k]at h;simp[AS]at h;have B:es≠[]:=by rintro rfl;simp at k
    obtain ⟨g,len,cap,D,ε⟩:=UW l u L A;obtain⟨g',E,C,e,xs,H,κ,f3,f4,f5,f6,f7,I,f9,η,ζ⟩:=U7 l A D B;simp at H;obtain⟨rfl,rfl,rfl⟩:=H;have N:c<(es.flatMap TV.cells).length:=by
     grind
    have R:=Au I;obtain⟨y,δ⟩:∃y,xs[c]?=Y y:=⟨_,nQ U⟩;have j:w.cell? ⟨g,c,W⟩=Y y:=by
     rw [cell_of_row w g c C e (0,0) κ]
     grind
    have θ:=(I1 l A D).1;refine Bc l hd (v:=y) ?_ (((A4 _ _).1 I).2 c t' _ k δ) ?_ h
    .simp[execOp,m,ε,Instr.loadAt,Instr.sureAddr,loadVar,Bf J,j]
    .have:=θ.2;rw[BD]at this;have hm:=l? k
     grind [BD,D2]
  .exact h.elim
 .exact h.elim
theorem TR{t:TV}(h:TV.jU t.cells):t.WF:=by
 cases t<;>simp[TV.cells,TV.jU]at h<;>first|exact h|(simp[TV.WF];exact h)
theorem S6{es:Fq}(h:TV.jU es):TV.jU (es.flatMap TV.cells):=by grind[BD,D2]
theorem O8:∀{es:Fq},TV.jU (es.flatMap TV.cells)->TV.jU es
 |[],_=>trivial|e::es,h=>by
  rw [l!]at h;rw[FP]at h;exact⟨TR h.1,O8 h.2⟩
variable{ts:Fq}
theorem TM{w:World}{F:Nat->Nat->Prop}{xs:List Value}(h:AM w F ts xs)(c:Nat):AM w F (ts.take c) (xs.take c):=by
 rw [A4]at h|-
 grind
theorem TL{w:World}{F:Nat->Nat->Prop}{xs:List Value}(h:AM w F ts xs)(c:Nat):AM w F (ts.drop c) (xs.drop c):=by
 rw [A4]at h|-
 grind
theorem Xy(C:AJ F0 w0 O a w G){x v:Operand}{x' η:AC}{m:Nat}(H:o.op=.store t x v)(ζ:AF x x'=X)(hv:AF v η=X)(hn:Bm P t=Y m)(h:(AB.mf x' η m).wp S O W K):Dv P F0 w0 a w o K:=by
 simp [AB.wp]at h;split at h
 .rename_i q i c hy;split at h
  .rename_i n es u E hu;obtain⟨⟨h1,h0⟩,δ,es',h3,B,h5,hK⟩:=h;obtain⟨g,len,cap,θ,e2⟩:=UW C ζ hy E;have D:=(I1 C E θ).1;have I:=Ak C hv (t:=u) (by simp[AC.val,hu,EV.val]);have h6:TV.jU es':=by
    have h7:=S6 D.2
    grind [TV.jU,TV.cells,BD,nR,D2,nS,O8]
   have J:es≠[]:=by rintro rfl;simp at δ;omega
   obtain ⟨g',cap',j,e,xs,f1,f2,f3,f4,f5,f6,f7,f8,f9,f10,ε⟩:=U7 C E θ J;simp at f1;obtain⟨rfl,rfl,rfl⟩:=f1;obtain⟨k2,k3⟩:=DH I.1;obtain⟨ys,κ⟩:∃ys,(a.eval v).cells.toList=ys:=⟨_,rfl⟩;rw[κ]at k2 k3;have A:ys.length=m:=by rw[Au k2,h1]
   have hcc:c+m<=j.size:=by rw[f5];exact ox δ (oy _ f3)
   have l:=run_storeCells_at P g c e ys 0 j w f2 U k3;simp at l;have L:(a.eval v).cells.size=m:=by rw[<-oF,κ,A]
   have M:(execOp a.eval o).run P w=.ok .skip (w.setRow g (j.toList.take c++ys++j.toList.drop (c+m)).toArray):=by
    rw [A]at l;simp[execOp,H,e2,Instr.storeAt,Instr.sureAddr,storeVar,BP hn,L,κ,l]
   refine ⟨_,M,_,hK,G,?_⟩;have N:xs.length=es.length*n:=ε;refine C.rexo E θ (w':=w.setRow g (j.toList.take c++ys++j.toList.drop (c+m)).toArray) (xs':=xs.take c++ys++xs.drop (c+m)) ⟨rfl,rfl,rfl,V,λk _ hk=>setRow_other w g k _ (λe=>hk 0 (by rw[e];exact f7))⟩ ⟨Y (g,es.length*n),⟨by simp[A,N,B];omega,.inr ⟨g,cap,_,e,by rw[B],setRow_heap w g j _ e _ f2,by rw[B];exact f3,f4,?_,?_,by rw[B]⟩⟩,by rw[f7];rfl⟩ (λhag=>?_) h5 (λx ζ=>?_) ⟨by rw[B];exact D.1,h6⟩
   .grind
   .rw[B,<-f6];have R:c<=j.toList.length:=by rw[oF];omega
    have hA:(j.toList.take c++ys).length=c+m:=by rw[bq,ca,A,oz R]
    show (j.toList.take c++ys++j.toList.drop (c+m)).take (es.length*n)=_
    grind [nT,nU,oz,List.drop_take]
   .grind[AY,D9,TM,TL]
   grind
  .exact h.elim
 .exact h.elim
theorem Sx(l:AJ F0 w0 O a w G)(hd:d<a.tmps.size)(g:o.op=.move (.tmp s)\/o.op=.assign (.tmp s))(h:(AB.rel s).wp S O (Y d) K):Am P F0 w0 a w o d K:=by
 simp [AB.wp]at h;split at h
 .rename_i L n es k m;simp at k;subst k;obtain⟨u,E⟩:=h;have A:=AR l m V;have B:=l.wf s;rw[m]at B;simp[AH]at A;obtain⟨xs,⟨H,M,j⟩,N,R,θ⟩:=A;refine⟨slot a s,w,by rcases g with g|g<;>simp[execOp,g,show a.eval (.tmp s)=slot a s from rfl],_,_,E,l.xgo m hd u (z':=H) rfl rfl rfl (bk _) (λ_ _ _=>rfl) (λb lo C=>?_) V V (λF' I env' a' D J _=>?_) B⟩
  .rw[C]at j;exact⟨(l.lt _ _ _ _ j).1,.inr ⟨_,j⟩⟩
  grind [AH,BA,AY]
 .exact h.elim
theorem Sz(k:AJ F0 w0 O a w G)(hd:d<a.tmps.size)(g:o.op=.move (.tmp s)\/o.op=.assign (.tmp s))(h:(AB.mO s).wp S O (Y d) K):Am P F0 w0 a w o d K:=by
 simp [AB.wp]at h;split at h
 .rename_i J n es j l;simp at j;subst j;obtain⟨m,u,E⟩:=h;have B:=AR k l V;have C:=k.wf s;rw[l]at C;simp[AH]at B;obtain⟨xs,L,M,N,R⟩:=B;refine⟨slot a s,w,by rcases g with g|g<;>simp[execOp,g,show a.eval (.tmp s)=slot a s from rfl],_,_,E,k.xgo l hd u (z':=G s W) rfl rfl rfl (bk _) (λ_ _ _=>rfl) (λb lo A=>⟨(k.lt _ _ _ _ A).1,.inr ⟨_,A⟩⟩) V (λ_=>m) (λF' H env' a' D I _=>?_) C⟩
  grind [AH,AY]
 .exact h.elim
variable{z:Option (Nat×Nat)}
theorem AJ.nO(h:AJ F0 w0 O a w G){w':World}(A:Below w.heap.size w w')(hd:d<a.tmps.size)(u:O.je d=X){es:Fq}{xs:List Value}(j:C2 w' n v es.length xs z)
  (B:∀b lo,z=Y (b,lo)->w.heap.size<=b/\b<w'.heap.size)
  (k:∀F',(∀b o,F' b o->(b<w.heap.size/\AP w0.heap.size F0 G b o)\/∃lo,z=Y (b,lo))->AM w' F' (es.flatMap TV.cells) xs)(C:∀e∈es,e.cells.length=n)(D:∀x∈xs,x.oneCell'=X)(E:(TV.list n es).WF):
  BF F0 w0 ((d,.xo n es)::O) (a.put (Y d) v) w':=by
 refine ⟨_,h.quiet A d hd (.xo n es) v (λi=>if i=W then z.map (λp=>(p.1,0))else W) (λi b lo hi=>?_) (λi I b lo H g m=>?_) (λ_=>u) ?_ E⟩
 .split at hi
  .cases z with
   |none=>simp at hi|some p=>
    simp at hi;exact hi.1▸B p.1 p.2 rfl
  .cases hi
 .split at g
  .split at m
   .simp_all
   .cases m
  .cases g
 .simp[AH];refine⟨xs,⟨z,j,by rw[BH];simp⟩,k _ (λb o hf=>?_),C,D⟩;rcases hf with hf|⟨p,i,lo,g,m⟩
  .exact .inl ⟨ov hf.1 h.below.size,.inl hf⟩
  .by_cases l:p=d
   .subst l;rw[BH]at g;split at g
    .cases z with
     |none=>simp at g|some q=>
      simp at g;exact .inr ⟨q.2,by rw[<-g.1]⟩
    .cases g
   .rw[Aq _ _ _ _ l]at g;exact .inl ⟨(h.lt _ _ _ _ g).1,.inr ⟨p,i,lo,g,m⟩⟩
theorem Rf(k:AJ F0 w0 O a w G)(hd:d<a.tmps.size)(g:o.op=.move x\/o.op=.assign x)(l:∃v,x=.const v/\Gy v=X)(h:(AB.mc n).wp S O (Y d) K):Am P F0 w0 a w o d K:=by
 simp [AB.wp]at h;obtain⟨j,m⟩:=h;obtain⟨v,rfl,hv⟩:=l;have hv:=Ez hv;subst hv;refine⟨.slice W 0 0,w,by rcases g with g|g<;>simp[execOp,g,Act.eval],_,_,m,k.nO (Below.refl _ _) hd j (z:=W) (xs:=[]) ⟨V,.inl ⟨rfl,rfl,rfl⟩⟩ V (λ_ _=>rfl) V V ⟨V,trivial⟩⟩
variable{f:FuncId}{ys:List AC}{ats:Array TypeId}{Q:Exit->Act->World->Prop}
theorem U5(D:AJ F0 w0 O a w G)(hd:d<a.tmps.size)(l:o.dst=Y d){xs:Array Operand}(N:o.op=.call {callee:=.value (.func f),args:=xs,argTypes:=ats})(R:A2 xs.toList ys=X)(h:(AB.kW f ys).wp (AO P) O (Y d) K)
  {next:Act->World->Prop}(ζ:∀e env' a' w',K e env'->KL a d a'->BF F0 w0 ((d,e)::env') a' w'->next a' w'):o.wp P a w next Q:=by
 simp [AB.wp]at h;obtain⟨κ,h⟩:=h;cases j:vals O ys with
 |none=>rw[j]at h;exact h.elim|some ts=>
  rw [j]at h;simp[AS]at h;obtain⟨n,es,A,hK⟩:=h;have hv:=Cx D R j;have m:(execOp a.eval o).run P w=(callFunc f (xs.map a.eval)).run P w:=by simp[execOp,N,resolve,Act.eval,Deferred.ofValue,invoke]
  have key:B2 P f=X/\(TV.list n es).WF/\Calls P f (xs.map a.eval) w λe w'=>∃v z g,e=.returned v/\Below w.heap.size w w'/\C2 w' n v es.length g z/\(∀F',(∀b o,F' b o->(b<w.heap.size/\AP w0.heap.size F0 G b o)\/∃lo,z=Y (b,lo))->AM w' F' (es.flatMap TV.cells) g)/\(∀e∈es,e.cells.length=n)/\(∀x∈g,x.oneCell'=X)/\∀b lo,z=Y (b,lo)->w.heap.size<=b/\b<w'.heap.size:=by
   rcases A with A|⟨A,hfl⟩
   .obtain⟨B,η⟩:=(A.to0 rfl) hv.2;obtain⟨k,C⟩:=η (AP w0.heap.size F0 G) w (xs.map a.eval) f_ D.below.now;refine⟨B,k,C.mono ?_⟩;rintro e w' ⟨v,rfl,E,z,g,H,I,J,L,M⟩;exact⟨v,z,g,rfl,E,H,λF' θ=>AY (λb o u δ hf=>⟨δ,λε=>hf (θ b o ε)⟩) _ _ I,J,L,M⟩
   .obtain⟨B,η⟩:=(A.to0 rfl) hv.2;obtain⟨k,C⟩:=η (AP w0.heap.size F0 G) w (xs.map a.eval) f_ D.below.now;refine⟨B,k,C.mono ?_⟩;rintro e w' ⟨v,rfl,E,z,⟨g,H,I,J,L⟩,M⟩
    grind [Cs,FR]
  obtain ⟨B,k,C⟩:=key;unfold Oper.wp;rw[m,CZ B _,Oper.upon_enter];refine C.mono ?_;rintro e w' ⟨v,z,g,rfl,E,H,I,J,L,M⟩;simp[l];exact ζ _ _ _ _ (hK k) ⟨_,rfl⟩ (D.nO E hd κ H M I J L k)
theorem U2(k:AJ F0 w0 O a w G)(hd:d<a.tmps.size)(B:o.dst=Y d){xs:List Operand}(L:o.op=.call {callee:=.value (.func f),args:=(x::xs).toArray,argTypes:=ats})(M:AF x y=X)(C:A2 xs ys=X)(h:(AB.kU f y ys).wp (AO P) O (Y d) K)
  {next:Act->World->Prop}(hn:∀e env' a' w',K e env'->KL a d a'->BF F0 w0 ((d,e)::env') a' w'->next a' w'):o.wp P a w next Q:=by
 simp only[AB.wp]at h;cases R:y.kc O with
 |none=>rw[R]at h;exact h.elim|some p=>
  obtain ⟨⟨q,i⟩,m,es⟩:=p;rw[R]at h;simp only[AS]at h;obtain⟨rfl,h⟩:=h;cases l:vals O ys with
  |none=>rw[l]at h;exact h.elim|some ts=>
  rw [l]at h;obtain⟨zs,u,E,rfl,⟨A,ts2,g,hc,H,hS⟩,hK⟩:=h;simp only[List.cons.injEq,TV.list.injEq,true_and]at g;obtain⟨g,rfl⟩:=g;have θ:A=zs:=by
   have:=congrArg (List.map λt=>match t with|.int _ n=>n|_=>0) g;simpa[nV,Function.comp_def]using this.symm
  subst θ;obtain⟨hq,hx⟩:=Ib k M R;obtain⟨ζ,xs',h1,h2,h3,h4⟩:=I1 k hq hx;obtain⟨hv,δ⟩:=Cx k C l;have ε:xs'=A.map (Value.int .i64):=by
   have:∀(zs:Fp)(xs:List Value),AM w (AP w0.heap.size F0 G) ((zs.map (TV.int .i64)).flatMap TV.cells) xs->xs=zs.map (Value.int .i64):=by
    intro zs
    induction zs with
    |nil=>intro xs h;exact h|cons z zs ih=>
     grind [TV.cells,nW,AM,AV]
   exact this A xs' h2
  subst ε;have D:(execOp a.eval o).run P w=(callFunc f (a.eval x::xs.map a.eval).toArray).run P w:=by simp[execOp,L,resolve,Act.eval,Deferred.ofValue,invoke]
  unfold Oper.wp;rw[D,CZ hc _,Oper.upon_enter];refine(hS _ w (a.eval x) _ (G q i) ζ δ (by simpa using h1) hv (λb lo o J N=>.inr ⟨q,i,lo,J,N⟩) (λb lo J=>⟨(k.lt _ _ _ _ J).1,k.low J⟩) k.below.now).mono ?_;rintro e w' ⟨⟨I,j⟩,⟨r,rfl,hu⟩,r1,r2⟩;simp only[B];have κ:=k.rexo hq hx r2 (es':=u.map (TV.int .i64)) (xs':=u.map (Value.int .i64)) (by rw[ec,I];exact r1) (λ_=>?_) (by simp[TV.cells]) g? j.1
  .have η:∀F,Jv w' F E r:=λF=>by
    rcases E with _|⟨t,_|⟨t',E⟩⟩
    .exact hu
    .exact Kf t (by simpa[TV.ki]using H) _ hu
    .obtain⟨vs,e1,e2⟩:=hu;exact⟨vs,e1,Cs _ H _ e2⟩
   rcases E with _|⟨t,_|⟨t',E⟩⟩
   all_goals
    refine hn _ _ _ _ (hK j) ⟨_,rfl⟩ ⟨_,κ.quiet (Below.refl _ _) d hd (EV.mQ _) _ (λ_=>W) (by simp[EV.mQ]) (by simp[EV.mQ]) (by simp[EV.mQ]) ?_ ?_⟩
    .simp only[EV.mQ,AH];exact η _
    .first|exact trivial|exact j.2.1|exact j.2
  .have:∀(zs:Fp),AM w' (AP w0.heap.size F0 G) ((zs.map (TV.int .i64)).flatMap TV.cells) (zs.map (Value.int .i64)):=by
    intro zs
    induction zs with
    |nil=>rfl|cons z zs ih=>
     grind [TV.cells,nW,AM,AV]
   exact this u
theorem RR{w:World}{F:Nat->Nat->Prop}:∀(zs:Fp),AM w F ((zs.map (TV.int .i64)).flatMap TV.cells) (zs.map (Value.int .i64))
 |[]=>rfl|z::zs=>by
  simp only[nX,l!,TV.cells,nW,AM,AV];exact⟨_,_,rfl,rfl,RR zs⟩
theorem RX{w:World}{F:Nat->Nat->Prop}:∀(zs:Fp)(xs:List Value),AM w F ((zs.map (TV.int .i64)).flatMap TV.cells) xs->xs=zs.map (Value.int .i64)
 |[],xs,h=>h|z::zs,xs,h=>by
  simp [TV.cells,AM,AV]at h;obtain⟨v,r,rfl,rfl,h⟩:=h;rw[RX zs r h];rfl
theorem Uy(j:AJ F0 w0 O a w G)(hd:d<a.tmps.size)(l:o.dst=Y d)(C:o.op=.call {callee:=.value (.func f),args:=#[x],argTypes:=ats})(D:AF x y=X)(h:(AB.lu f y).wp (AO P) O (Y d) K)
  {next:Act->World->Prop}(ζ:∀e env' a' w',K e env'->KL a d a'->BF F0 w0 ((d,e)::env') a' w'->next a' w'):o.wp P a w next Q:=by
 simp only[AB.wp]at h;cases H:y.kc O with
 |none=>rw[H]at h;exact h.elim|some p=>
  obtain ⟨⟨q,i⟩,m,es⟩:=p;rw[H]at h;simp only[AS]at h;obtain⟨⟨L,rfl⟩,rfl,M,zs,N,rfl,⟨R,A,hc,g,hS⟩,hK⟩:=h;simp only[List.cons.injEq,TV.list.injEq,true_and,and_true]at A;have I:R=zs:=by
   have:=congrArg (List.map λt=>match t with|.int _ n=>n|_=>0) A;simpa[nV,Function.comp_def]using this.symm
  subst I;obtain⟨B,κ⟩:=Ib j D H;replace B:=AA.j6 B;simp only[XV]at κ;replace g:=g (by have:=j.wf q;rw[B]at this;exact this);have ε:=AR j B V;simp only[AH]at ε;obtain⟨xs,h1,h2,h3,h4⟩:=ε;have J:=RX _ _ h2;subst J;have u:(execOp a.eval o).run P w=(callFunc f #[slot a q]).run P w:=by simp[execOp,C,resolve,Act.eval,Deferred.ofValue,invoke,<-κ]
  unfold Oper.wp;rw[u,CZ hc _,Oper.upon_enter];refine(hS w (slot a q) (G q W) (by simpa using h1)).mono ?_;rintro e w' ⟨v',rfl,r1,r2⟩;simp only[l];obtain⟨b1,b2,b3,η,b5⟩:=r2;refine ζ _ _ _ _ (hK g) ⟨_,rfl⟩ (j.xgo B hd (λe=>L e.symm) (z':=G q W) b1 b2 b3 η (λk E δ=>b5 k E δ) (λb lo θ=>⟨ov (j.lt _ _ _ _ θ).1 η,.inr ⟨_,θ⟩⟩) V (λ_=>M) (λF' G' env' a' hag hG _=>?_) g);simp only[AH];rw[hG];exact⟨_,by simpa using r1,RR N,by simp[TV.cells],g?⟩
theorem Vx(δ:AJ F0 w0 O a w G)(hd:d<a.tmps.size){i:TypeInfo}{z:Value}(hop:o.op=.call {callee:=.builtin .append,args:=#[.tmp s,x],argTypes:=#[t,t]})
  (ht:P.underlying t=Y (.slice e))(hi:P.info? e=Y i)(A:i.zero=Y z)(E:i.size=n)(hby:i.bytes<=4096)(hzs:z.cells.size=n)(hn:0<n)
  (hok:AF x y=X)(h:(AB.lL n s y).wp S O (Y d) K):Am P F0 w0 a w o d K:=by
 simp only[AB.wp]at h;split at h
 .rename_i d' m es m' J N hs hy;simp only[jR]at N;subst N;obtain⟨hm1,hm2,ε,hno,hds,hK⟩:=h;subst hm2;subst hm1;have D:=AR δ hs V;have H:=δ.wf s;rw[hs]at H;simp only[AH]at D;obtain⟨xs,⟨z0,h1,κ⟩,h2,h3,h4⟩:=D;have hv:=Ak δ hok hy;simp only[AV]at hv;obtain⟨⟨ad,cap,h5,h6,h7,h8⟩,h9⟩:=hv;have I:∃g:List Value,AM w (AP w0.heap.size F0 G) (J.flatMap TV.cells) g/\(∀x∈g,x.oneCell'=X)/\(∀f∈J,f.cells.length=m)/\∀b,ad=Y b->∀(j:Nat)(u:Value),g[j]?=Y u->w.cell? (b.add j)=Y u:=by
   cases ad with
   |none=>
    have:=h7 rfl;subst this;exact⟨[],rfl,V,V,V⟩
   |some b=>
    obtain ⟨C,h11⟩:=h8 b rfl;obtain⟨bb,B,sp⟩:=b;simp only at C h11;by_cases θ:J=[]
    .subst θ;exact⟨[],rfl,V,V,V⟩
    have C:sp=W:=C.resolve_left θ;subst C;have hrow:∀(l:Fq)(B:Nat),EB w (AP w0.heap.size F0 G) m l bb B->Bv w (AP w0.heap.size F0 G) (l.flatMap TV.cells) bb B/\∀f∈l,f.cells.length=m:=by
     intro l
     induction l with
     |nil=>intro B _;exact⟨trivial,V⟩|cons f l ih=>
      grind [J9,EO]
    grind [NN,jR]
  obtain ⟨g,n1,n2,n3,n4⟩:=I;have hnl:g.length=J.length*m:=by rw[Au n1,I5 m J n3]
  obtain ⟨v',w',z',η,r1,L⟩:=Jm (P:=P) t o.type e i z m ht hi A E hby hzs hn (slot a s) es.length xs z0 h1 ad J.length cap g hnl (λe=>by rw[h7 e];rfl) h6 n4 n2 ε;have hnz:∀k,(∀lo,G s W≠Y (k,lo))->∀lo,z0≠Y (k,lo):=λk hk lo A=>hk 0 (by rw[κ,A];rfl);refine⟨v',w',?_,_,_,hK,δ.xgo hs hd hds (z':=z'.map λp=>(p.1,0)) L.os L.tape L.output L.size (λk hk A=>L.other k hk (hnz k A)) (λb lo A=>?_) V (λ_=>hno) (λF' G' env' a' M hG _=>?_) ?_⟩
  .simp[execOp,hop,resolve,invoke,builtin,show a.eval (.tmp s)=slot a s from rfl,h5,η]
  .cases z' with
   |none=>simp at A|some p=>
    simp only[oI,jR,Prod.mk.injEq]at A;obtain⟨k1,ζ⟩:=L.mW p.1 p.2 rfl;rw[<-A.1];refine⟨k1,?_⟩;rcases ζ with ζ|⟨lo',ζ,_⟩
    .exact .inl ζ
    .exact .inr ⟨0,by rw[κ,ζ];rfl⟩
  .simp only[AH];rw[hG];refine⟨xs++g,⟨z',by rw[bq];exact r1,rfl⟩,?_,?_,?_⟩
   .rw[nY];exact D9 (AY M _ _ h2) (AY M _ _ n1)
   .intro e he;rcases nZ.1 he with he|he
    .exact h3 e he
    .exact n3 e he
   .intro x R;rcases nZ.1 R with R|R
    .exact h4 x R
    .exact n2 x R
  .simp only[EV.WF,TV.WF]at H h9|-;exact⟨by rw[bq];exact Ob U,FP.2 ⟨H.2,h9.2⟩⟩
 .exact h.elim
theorem Xk(η:AJ F0 w0 O a w G)(hd:d<a.tmps.size){x x':Operand}{ty e:TypeId}{A:TypeInfo}{z g:Value}{t:TV}(E:o.op=.makeSlice ty x x')(ζ:AF x y=X)(H:AF x' y=X)
  (B:P.underlying ty=Y (.slice e))(I:P.info? e=Y A)(ε:A.zero=Y z)(hs:A.size=1)(δ:A.bytes<=4096)(hzc:z.cells=#[g])(hc:CI t g=X)(h1c:g.oneCell'=X)(J:t.cells=[t])
  (h:(AB.lY 1 [t] y).wp S O (Y d) K):Am P F0 w0 a w o d K:=by
 simp [AB.wp]at h;split at h
 .rename_i d' ik j L hy;simp[jR]at L;subst L;obtain⟨hno,h0,hmax,hK⟩:=h;have hv:=(Ak η ζ hy).1;have C:=(Ak η H hy).1;simp[AV]at hv C;obtain⟨m,rfl⟩:∃m:Nat,j=m:=⟨j.toNat,U⟩;have hm:m<=4096:=U
  have hw1:IntKind.i64.wrap (m:Int)=m:=by
   have e1:(2:Int)^ 64=18446744073709551616:=a?
   have e2:(2:Int)^ (64-1)=9223372036854775808:=a?
   simp [IntKind.wrap,IntKind.bits,IntKind.signed,Bool.true_and,kY,e1,e2,ge_iff_le];split<;>omega
  have κ:m*A.bytes<=16777216:=by
   calc m*A.bytes<=4096*4096:=oA hm δ
    _=16777216:=a?
  have l:(Array.range m).map (λq=>([g]:List Value)[q % 1]?.getD default)=oG m g:=by
   grind
  have M:¬(281474976710656<(A.bytes:Int)*(m:Int)):=by
   grind
  have D:¬(m*A.bytes>roomBytes):=by
   have:roomBytes≥16777216:=a?
   omega
  have N:¬((m:Int)<0):=U
  have R:(execOp a.eval o).run P w=.ok (.value (.slice (Y ⟨w.heap.size,0,W⟩) m m)) (w.alloc (.cells (oG m g) e)):=by
   by_cases θ:m=0
   .subst θ;have hw0:IntKind.i64.wrap 0=0:=a?
    simp [execOp,E,hv,C,Instr.makeSlice,run_underlying B,asInt,asIntOf,typeInfo,I,hw0,askRoom,sizeOf,hs,newRow]
    grind
   .simp[execOp,E,hv,C,Instr.makeSlice,run_underlying B,asInt,asIntOf,typeInfo,I,hw1,askRoom,sizeOf,hs,newRow,M,D,N,θ,zeroValue,ε,hzc,l]
  have hb:Below w.heap.size w (w.alloc (.cells (oG m g) e)):=(Below.refl _ _).alloc (bk _) _;have hcr:=Dk (w.alloc (.cells (oG m g) e)) (λ_ _=>False) t g hc;have hfm:∀k,(n7 k t).flatMap TV.cells=n7 k t:=by
   intro k
   induction k with
   |zero=>rfl|succ k ih=>rw[n8,l!,ih,J];rfl
  simp [Int.toNat_natCast]at hK;refine⟨_,_,R,_,_,hK,η.nO hb hd hno (z:=Y (w.heap.size,m*1)) (xs:=n7 m g) ⟨V,.inr ⟨w.heap.size,m,_,e,V,heap_alloc_new w _,V,by simp[maxLen];omega,V,V,V⟩⟩ (λb lo ε=>?_) (λF' _=>?_) (λu B=>?_) (λv hv=>?_) ⟨by simp[n9,FE];omega,?_⟩⟩
  .simp[jR,Prod.mk.injEq]at ε;rw[<-ε.1];exact⟨bk _,V⟩
  .rw[hfm,A4];refine⟨V,λi u v B hv=>?_⟩;rw[n_ (l? B),n_ (l? hv)];exact(Dk _ F' t g hc).1
  .rw[n_ B,J];rfl
  .rw[n_ hv];exact h1c
  .rw[BD];intro u B;rw[n_ B];exact hcr.2
 .exact h.elim
def Ub(P:Program)(t:TypeId)(f k n:Nat)(agg:Bool):Bool:=
 match P.underlying t with
 |some (.struct fs)=>(match fs[f]? with
  |some x=>x.offset==k&&Bm P x.type==Y n&&BM P x.type==Y agg|none=>T)
 |_=>T
theorem V5(C:AJ F0 w0 O a w G)(hd:d<a.tmps.size){f k n:Nat}{agg:Bool}(A:o.op=.field t x f)(D:AF x y=X)(hf:Ub P t f k n agg=X)(h:(AB.mF y k n agg).wp S O (Y d) K):Am P F0 w0 a w o d K:=by
 simp only[AB.wp]at h;split at h
 .rename_i cs R;obtain⟨η,g⟩:=h;have hv:=Ak C D R;simp only[AV,TV.WF]at hv;obtain⟨⟨vs,L,H,ζ⟩,M⟩:=hv;unfold Ub at hf;split at hf
  .rename_i κ I;split at hf
   .rename_i j B;simp only[jP,beq_iff_eq]at hf;obtain⟨⟨rfl,ε⟩,N⟩:=hf;have J:=Au H;rw[A4]at H;rw[BD]at M;cases agg with
    |true=>
     simp only[if_true]at g;refine Bc C hd (v:=.agg (vs.extract j.offset (j.offset+n))) (t:=.agg ((cs.drop j.offset).take n)) ?_ ?_ ?_ g
     .simp[execOp,A,L,Instr.field,run_underlying I,B,part,Bf N,BP ε,asAgg]
     .simp only[AV];refine⟨_,rfl,?_,?_⟩
      .rw[A4]
       grind
      grind
     .simp only[TV.WF];rw[BD]
      grind
    |false=>
     simp only[Bool.false_eq_true,if_false]at g;cases E:cs.drop j.offset with
     |nil=>rw[E]at g;simp[Cd,AS]at g|cons u r=>
      rw [E]at g;simp only[Cd,AS]at g;have m:cs[j.offset]?=Y u:=by
       have:=congrArg (λl=>l[0]?) E;simpa[n!]using this
      have θ:j.offset<cs.length:=(n?.1 m).1;obtain⟨v,hv⟩:∃v,vs.toList[j.offset]?=Y v:=⟨_,nQ U⟩;refine Bc C hd (v:=v) (t:=u) ?_ (H.2 _ u v m hv) (M u (l? m)) g;rw[oH]at hv;simp[execOp,A,L,Instr.field,run_underlying I,B,part,Bf N,asAgg,hv]
   .cases hf
  .cases hf
 .exact h.elim
def Si(P:Program)(ty:TypeId)(n:Nat)(zero:Fq):Bool:=
 match P.underlying ty,zero with
 |some (.slice e),[t]=>(match P.info? e with
  |some ie=>(match ie.zero with
   |some z=>(match z.cells.toList with
    |[z0]=>n==1&&ie.size==1&&decide (ie.bytes<=4096)&&CI t z0&&z0.oneCell'&&(match t with|.int _ _=>X|.bool _=>X|.str _=>X|.list _ _=>X|_=>T)
    |_=>T)
   |none=>T)
  |none=>T)
 |_,_=>T
variable{zero:Fq}
theorem Tr(A:AJ F0 w0 O a w G)(hd:d<a.tmps.size){x x':Operand}{ty:TypeId}(k:o.op=.makeSlice ty x x')(l:AF x y=X)(j:AF x' y=X)(g:Si P ty n zero=X)
  (h:(AB.lY n zero y).wp S O (Y d) K):Am P F0 w0 a w o d K:=by
 unfold Si at g;split at g
 .rename_i e t B;split at g
  .rename_i L m;split at g
   .rename_i z C;split at g
    next M u=>simp[kY]at g;obtain⟨⟨⟨⟨⟨rfl,D⟩,E⟩,H⟩,I⟩,J⟩:=g;exact Xk A hd k l j B m C D E (S4 u) H I (by cases t<;>first|rfl|cases J) h
    .cases g
   .cases g
  .cases g
 .cases g
theorem BF.congr{F0:Nat->Nat->Prop}{w0:W0}{O env2:AA}{a:Act}{w:World}(h:BF F0 w0 O a w)(he:∀n,O.get n=env2.get n):BF F0 w0 env2 a w:=by
 obtain ⟨G,h⟩:=h;refine⟨G,h.jp,h.lt,h.below,h.defers,λq g=>?_,λq g=>?_,λq=>?_⟩
 .rw[<-he];exact h.dom q g
 .rw[<-he];refine AH.kept (Jx _ _) (λ_=>rfl) (λ_ _ _ _=>rfl) rfl At.rfl' (λr i k m⟨p,j⟩=>⟨⟨p,(AA.kM (he r)).trans j⟩,λ_ hv=>hv⟩) (λr u m⟨cs,l⟩=>⟨⟨cs,by rw[he];exact l⟩,rfl⟩) (λr i m⟨p,j⟩=>⟨⟨p,(AA.kE (he r)).trans j⟩,λ_ hv=>hv⟩) (h.slots q g)
 .rw[<-he];exact h.wf q
theorem AJ.unx(h:AJ F0 w0 O a w G){es:Fq}(J:O.get d=.xo n es):BF F0 w0 ((d,.ow (.list n es))::O) a w:=by
 have D:=AR h J V;simp only[AH]at D;obtain⟨xs,⟨z0,h1,N⟩,h2,h3,h4⟩:=D;have κ:=h.wf d;rw[J]at κ;have hsz:=A5 h J V
 let A:Ay:=EZ G d (λi=>if i=W then z0 else W)
 have m:∀p i b lo,A p i=Y (b,lo)->∃g,g<=lo/\G p i=Y (b,g):=by
  intro p i b lo l;by_cases E:p=d
  .subst E;simp only[A,BH]at l;split at l
   next hi=>subst hi;exact⟨0,ou _,by rw[N,l];rfl⟩
   .cases l
  .simp only[A,Aq _ _ _ _ E]at l;exact⟨lo,bk _,l⟩
 have H:A3 w w (AP w0.heap.size F0 G) (AP w0.heap.size F0 A):=by
  intro b o u δ ε;refine⟨δ,?_⟩;rintro(θ|⟨p,i,lo,θ,k2⟩)
  .exact ε (.inl θ)
  .obtain⟨g,R,k4⟩:=m _ _ _ _ θ;exact ε (.inr ⟨p,i,g,k4,ox R k2⟩)
 refine ⟨A,λp i p' i' b lo g L η=>?_,λp i b lo L=>?_,h.below,h.defers,λp l=>?_,λp l=>?_,λp=>?_⟩
 .obtain⟨_,_,f1⟩:=m _ _ _ _ L;obtain⟨_,_,f2⟩:=m _ _ _ _ η;exact h.jp _ _ _ _ _ _ _ f1 f2
 .obtain⟨g,R,f⟩:=m _ _ _ _ L;exact⟨(h.lt _ _ _ _ f).1,(h.lt _ _ _ _ f).2.imp id (λe o ho=>e o (ox R ho))⟩
 .rw[AA.gp,az U];exact h.dom p l
 .rw[AA.gp];by_cases C:d=p
  .subst C;rw[ae rfl];simp only[AH,BA];exact⟨xs,by simp only[A,BH,if_true];exact h1,AY H _ _ h2,h3,h4⟩
  .rw[az C];refine AH.kept H (λi=>by simp only[A];rw[Aq _ _ _ _ (λe=>C e.symm)]) (λ_ _ _ _=>rfl) (GU rfl λr D=>by simp only[A];rw[Aq _ _ _ _ U]) At.rfl' (λr i k D⟨M,B⟩=>?_) (λr ζ _⟨cs,j⟩=>?_) (λr i D⟨M,B⟩=>?_) (h.slots p l)
   .exact⟨⟨M,(AA.kf V B).2⟩,λ_ hv=>hv⟩
   .rw[AA.gp]at j;by_cases I:d=r
    .rw[ae I]at j;cases j
    .rw[az I]at j;exact⟨⟨cs,j⟩,rfl⟩
   .exact⟨⟨M,(AA.jW V V B).2⟩,λ_ hv=>hv⟩
 .rw[AA.gp];split
  .exact κ
  .exact h.wf p
theorem Y2{S:FuncId->Fq->AZ->Prop}(h:(AB.nF n zero y).wp S O (Y d) K):(AB.lY n zero y).wp S O (Y d) λe env'=>env'=O/\∃m es,e=.xo m es/\K (.ow (.list m es)) O:=by
 simp only[AB.wp]at h|-;split at h
 next g k j hd l=>simp only[jR]at hd;subst hd;exact⟨h.1,h.2.1,h.2.2.1,trivial,_,_,rfl,h.2.2.2⟩
 .exact h.elim
theorem Xj(A:AJ F0 w0 O a w G)(hd:d<a.tmps.size){x x':Operand}{ty:TypeId}(k:o.op=.makeSlice ty x x')(l:AF x y=X)(g:AF x' y=X)(B:Si P ty n zero=X)
  (h:(AB.nF n zero y).wp S O (Y d) K):Am P F0 w0 a w o d K:=by
 obtain ⟨v,w',j,e,env',⟨rfl,m,es,rfl,C⟩,D,u⟩:=Tr A hd k l g B (Y2 h);exact⟨v,w',j,_,_,C,(AJ.unx u (by rw[AA.gp,ae rfl])).congr λn=>by
  rw [AA.gp,AA.gp,AA.gp];split<;>rfl⟩
theorem aj{args:Fq}{t:TV}(h:AO P f args (.own t)):AO P f args (.sh t):=by
 intro l;obtain⟨A,B⟩:=h l;refine⟨A,λF0 w vs hv j=>?_⟩;obtain⟨C,D⟩:=B F0 w vs hv j;refine⟨C,D.mono ?_⟩;rintro e w' ⟨v,rfl,E,z,H,J⟩;refine⟨v,rfl,E,?_⟩;have m:=BA.ns H (λb lo o I ho=>by
  grind)
 exact BQ (λb o u k hf=>⟨k,λg=>hf (.inl g)⟩) _ _ m
theorem JX(h:v.oneCell'=X):v.cells=#[v]:=by
 cases v<;>first|rfl|simp[Value.oneCell']at h
theorem Xw(u:AJ F0 w0 O a w G){x v:Operand}(hop:o.op=.store t x v)(C:AF x (.s s)=X)(hv:AF v (.s q)=X)(hn:Bm P t=Y n)(h:(AB.stx n s q).wp S O W K):Dv P F0 w0 a w o K:=by
 simp only[AB.wp]at h;split at h
 .rename_i cs ds hs hq;obtain⟨J,⟨κ,D⟩,ho,hK⟩:=h;have hp:(AC.s s).place O=Y (s,0):=by simp[AC.place,hs]
  revert hp ho hK
  suffices key:∀g,g+n<=cs.length->K .undef ((s,.bx (cs.take g++ds++cs.drop (g+n)))::(q,.undef)::O)->(AC.s s).place O=Y (s,g)->Dv P F0 w0 a w o K from key 0
  .intro g ho hK hp;have hvq:v=.tmp q:=by
    cases v<;>simp[AF]at hv;rw[hv]
   subst hvq;obtain⟨b,hsl,hadr⟩:=De u C hp hs;have hr:=AR u hs V;simp only[AH]at hr;obtain⟨δ,c,θ,h1,h2,h3,h4,h5⟩:=hr;rw[hsl]at h1;simp only[Value.pointer.injEq,jR,Addr.mk.injEq,and_true,and_self]at h1;subst h1;have hrq:=AR u hq V;simp only[AH]at hrq;obtain⟨vs,B,m,e3⟩:=hrq;have ε:=u.wf s;rw[hs]at ε;have hwq:=u.wf q;rw[hq]at hwq;have hone:∀y∈vs.toList,y.oneCell'=X:=by
    intro y E;obtain⟨i,hi⟩:=oa E;have l:i<ds.length:=by have:=(n?.1 hi).1;simpa[m]using this
    obtain ⟨x,C,hc⟩:=e3 i _ (nQ l);rw[oH,C]at hi;simp only[jR]at hi;subst hi;exact DO hc
   have hev:a.eval (.tmp q)=.agg vs:=B;have hst:(execOp a.eval o).run P w=.ok .skip (w.setRow b (c.toList.take g++vs.toList++c.toList.drop (g+n)).toArray):=by
    have hln:vs.toList.length=n:=by rw[oF,m,κ]
    have I:=run_storeCells_at P b g θ vs.toList 0 c w h2 (by rw[hln];omega) hone;simp only[oB]at I;rw[hln]at I;simp[execOp,hop,hadr,hev,Instr.storeAt,Instr.sureAddr,storeVar,BP hn,Value.cells,show vs.size=n by rw[m,κ],I]
   have hvl:vs.toList.length=n:=by rw[oF,m,κ]
   let zs:Option Nat->Option (Nat×Nat):=λi=>match i with|none=>Y (b,0)|some j=>if g<=j/\j<g+n then G q (Y (j-g))else G s (Y j)
   refine Exists.elim (u.m7 hs hsl h2 (cs':=cs.take g++ds++cs.drop (g+n)) (c':=(c.toList.take g++vs.toList++c.toList.drop (g+n)).toArray) (q:=Y q) (by simpa using J) (λp hp=>by cases hp;exact A5 u hq V) (zs:=zs) rfl ?_ ?_ ?_ ?_ ?_ ?_) (λG' h'=>⟨_,hst,_,hK,G',h'.1⟩)
   .intro i δ lo hi hz;cases i with
    |none=>exact absurd rfl hi|some j=>
     simp only[zs]at hz;split at hz
     .exact .inr ⟨q,rfl,_,hz⟩
     .exact .inl hz
   .intro i i' δ lo M B m;have zn:∀j δ lo M,zs (Y j)=Y (δ,lo)->zs W=Y (δ,M)->False:=by
     intro j δ lo M B m;simp only[zs,jR,Prod.mk.injEq]at m;obtain⟨rfl,_⟩:=m;simp only[zs]at B;split at B
     .exact J (u.jp _ _ _ _ _ _ _ B h4).1
     .have:=(u.jp _ _ _ _ _ _ _ B h4).2;cases this
    cases i with
    |none=>cases i' with
     |none=>rfl|some j=>exact(zn j _ _ _ m B).elim
    |some j=>cases i' with
     |none=>exact(zn j _ _ _ B m).elim|some j'=>
      simp only[zs]at B m;split at B<;>split at m
      .have:=(u.jp _ _ _ _ _ _ _ B m).2;simp only[jR]at this;rw[show j=j' by omega]
      .exact absurd (u.jp _ _ _ _ _ _ _ B m).1 J
      .exact absurd (u.jp _ _ _ _ _ _ _ m B).1 J
      .exact(u.jp _ _ _ _ _ _ _ B m).2
   .simp only[List.size_toArray,bq,ca,ob,oF];omega
   .intro F' w' N H R i y E;have hco:∀j,g+n<=j->cs[j]?=Y y->i=j->∃v,c[j]?=Y v/\Ar w' F' (j8 a G) (G s (Y j)) y v:=by
     intro j hj hc hij;obtain⟨v,η,ζ⟩:=h5 j y hc;exact⟨v,η,ζ.kept N (λk lo A=>H k (λe=>by have:=(u.jp _ _ _ _ _ _ _ (e▸A) h4).2;cases this)) R⟩
    rcases ot i g with l|hge
    .rw[eo,oc an,od,ae l]at E;obtain⟨v,η,ζ⟩:=h5 i y E;refine⟨v,?_,?_⟩
     .rw[oe,eo,oc an,od,ae l,oH];exact η
     .simp only[zs,az (show¬(g<=i/\i<g+n)by omega)];exact ζ.kept N (λk lo A=>H k (λe=>by have:=(u.jp _ _ _ _ _ _ _ (e▸A) h4).2;cases this)) R
    .rcases ot i (g+n)with l|L
     .rw[eo,og an,oc an]at E;simp only[ca]at E;rw[oz U]at E;obtain⟨v,η,ζ⟩:=e3 (i-g) y E;refine⟨v,?_,?_⟩
      .rw[oe,eo,og an,oc an];simp only[ca,oF];rw[oz U,oH];exact η
      .simp only[zs,ae (show g<=i/\i<g+n by omega)];exact ζ.kept N (λk lo A=>H k (λe=>J (u.jp _ _ _ _ _ _ _ (e▸A) h4).1)) R
     .rw[og an]at E;simp only[bq,ca]at E;rw[oz U,κ,n!,show g+n+(i-(g+n))=i from U]at E;obtain⟨v,η,ζ⟩:=hco i L E rfl;refine⟨v,?_,?_⟩
      .rw[oe,og an];simp only[bq,ca,oF];rw[oz U,m,κ,n!,show g+n+(i-(g+n))=i from U,oH];exact η
      .simp only[zs,az (show¬(g<=i/\i<g+n)by omega)];exact ζ
   .intro x C;rcases nZ.1 C with C|C
    .rcases nZ.1 C with C|C
     .exact ε x (nR C)
     .exact hwq x C
    .exact ε x (nS C)
   .intro k tx htx A;have hkl:k<cs.length:=by
     have:=(n?.1 A).1;simp only[bq,ca,ob]at this;omega
    rw [oe];rcases ot k g with l|hge
    .rw[eo,oc an,oh l]at A;refine .inr ⟨A,?_⟩;rw[eo,oc an,oh l,oH]
    .rcases ot k (g+n)with l|L
     .rw[eo,og an,oc an]at A;rw[Bool.or_eq_true]at D;rcases D with D|D
      .have:=oi.1 D _ (l? A);simp[htx]at this
      .exact .inl (AA.noX_all D)
     .rw[og an]at A;simp only[bq,ca,n!]at A;rw[oz U,κ,show g+n+(k-(g+n))=k from U]at A;refine .inr ⟨A,?_⟩;rw[og an];simp only[bq,ca,oF,n!];rw[oz U,m,κ,show g+n+(k-(g+n))=k from U,oH]
 .exact h.elim
def FQ(a:Act)(w:World)(G:Ay)(d:Nat)(Z:B1):Ay:=λp=>if p=d then Z 0 else if a.tmps.size+w.heap.size<=p then(λi=>match i with|some j=>Z (p-a.tmps.size+1) (Y j)|none=>W)else G p
variable{Z:B1}{p:Nat}
theorem Ic{a:Act}{w:World}{G:Ay}{d:Nat}{b lo:Nat}(h:FQ a w G d Z p i=Y (b,lo)):(p=d/\Z 0 i=Y (b,lo))\/(p≠d/\a.tmps.size+w.heap.size<=p/\Z (p-a.tmps.size+1) i=Y (b,lo))\/(p≠d/\¬a.tmps.size+w.heap.size<=p/\G p i=Y (b,lo)):=by
 simp [FQ]at h
 grind
theorem AJ.quiet2{w':World}(h:AJ F0 w0 O a w G)(I:Below w.heap.size w w')(d:Nat)(hd:d<a.tmps.size)(e:EV)(v:Value)
  (Z:B1)(M:∀q i b lo,Z q i=Y (b,lo)->w.heap.size<=b/\b<w'.heap.size)(C:Eb Z)
  (J:(∃cs,e=.bx cs)\/(∃n es,e=.xo n es)->O.je d=X)
  (R:A3 w w' (AP w0.heap.size F0 G) (AP w0.heap.size F0 (FQ a w G d Z))->AH (a.put (Y d) v) w' (AP w0.heap.size F0 (FQ a w G d Z)) (FQ a w G d Z) ((d,e)::O) d e v)(κ:e.WF):
  AJ F0 w0 ((d,e)::O) (a.put (Y d) v) w' (FQ a w G d Z):=by
 have ε:A3 w w' (AP w0.heap.size F0 G) (AP w0.heap.size F0 (FQ a w G d Z)):=by
  intro b o u hc hf;have hlt:b<w.heap.size:=World.block_lt_of_cell? w ⟨b,o,W⟩ hc;refine⟨by rw[I.cell (p:=⟨b,o,W⟩) hlt];exact hc,λη=>hf ?_⟩;rcases η with h|⟨s,i,lo,θ,h2⟩
  .exact .inl h
  .rcases Ic θ with⟨_,e⟩|⟨_,_,e⟩|⟨_,_,e⟩
   .grind
   .grind
   .exact .inr ⟨s,i,lo,e,h2⟩
 have ζ:∀s,s<a.tmps.size->s≠d->FQ a w G d Z s=G s:=by
  grind [FQ]
 refine ⟨?_,?_,h.below.go I,d!,?_,?_,?_⟩
 .intro s i s' i' b lo lo' θ h2;rcases Ic θ with⟨e1,A⟩|⟨e1,e3,A⟩|⟨e1,e3,A⟩<;>rcases Ic h2 with⟨e2,B⟩|⟨e2,e4,B⟩|⟨e2,e4,B⟩
  .exact⟨by rw[e1,e2],(C _ _ _ _ _ _ _ A B).2⟩
  .have:=(C _ _ _ _ _ _ _ A B).1;omega
  .have:=(M _ _ _ _ A).1;have:=(h.lt _ _ _ _ B).1;omega
  .have:=(C _ _ _ _ _ _ _ A B).1;omega
  .obtain⟨g1,g2⟩:=C _ _ _ _ _ _ _ A B;exact⟨U,g2⟩
  .have:=(M _ _ _ _ A).1;have:=(h.lt _ _ _ _ B).1;omega
  .have:=(M _ _ _ _ B).1;have:=(h.lt _ _ _ _ A).1;omega
  .have:=(M _ _ _ _ B).1;have:=(h.lt _ _ _ _ A).1;omega
  .exact h.jp _ _ _ _ _ _ _ A B
 .intro s i b lo θ;rcases Ic θ with⟨_,f⟩|⟨_,_,f⟩|⟨_,_,f⟩
  .have:=M _ _ _ _ f;exact⟨this.2,.inl (ox h.below.size this.1)⟩
  .have:=M _ _ _ _ f;exact⟨this.2,.inl (ox h.below.size this.1)⟩
  .have:=h.lt _ _ _ _ f;exact⟨ov this.1 I.size,this.2⟩
 .intro s N;rw[A6]at N;rw[AA.gp,az U];exact h.dom s N
 .intro s N;rw[A6]at N;rw[AA.gp];by_cases H:d=s
  .subst H;rw[ae rfl,Bg _ _ _ hd];exact R ε
  .rw[az H,AQ _ _ _ _ H];refine AH.kept' ε (λi=>by rw[ζ s N (λe=>H e.symm)]) (λi b lo ζ=>I.block b (h.lt s i b lo ζ).1) (λi g lo j hg=>?_) (λ_=>At.spot (h.lF I)) (λq i k D⟨p,E⟩=>?_) (λq δ D⟨cs,m⟩=>?_) (λq i D⟨p,E⟩=>?_) (h.slots s N)
   .have:=(h.lt _ _ _ _ hg).1;simp[j8,A6,FQ];rw[az U,az U]
   .by_cases l:d=q
    .subst l;exact absurd D (AA.mb d O (J (.inl (AA.kV E))) s i k)
    .rw[AA.kA l]at E;exact⟨⟨p,E⟩,h.nh ⟨p,E⟩ (AQ _ _ _ _ l) (λj b _ L=>I.block b (h.lt _ _ _ _ L).1)⟩
   .rw[AA.gp]at m;by_cases l:d=q
    .subst l;rw[ae rfl]at m;exact absurd D (AA.lh d O (J (.inl ⟨cs,m⟩)) s δ)
    .rw[az l]at m;exact⟨⟨cs,m⟩,AQ _ _ _ _ l⟩
   .by_cases l:d=q
    .subst l;have hx:=AA.ll d O (J (AA.ly E)) s;rcases D with D|⟨c,D⟩
     .exact absurd D (hx.1 i)
     .exact absurd D (hx.2 i c)
    .rw[AA.kv l]at E;exact⟨⟨p,E⟩,h.xv ⟨p,E⟩ (AQ _ _ _ _ l) (λb L=>I.block b (h.lt _ _ _ _ L).1)⟩
 .intro s;rw[AA.gp];split
  .exact κ
  .exact h.wf s
theorem TP(C:AJ F0 w0 O a w G)(hd:d<a.tmps.size)(l:o.dst=Y d){xs:Array Operand}(D:o.op=.call {callee:=.value (.func f),args:=xs,argTypes:=ats})(E:A2 xs.toList ys=X)(h:(AB.kS f ys).wp (AO P) O (Y d) K)
  {next:Act->World->Prop}(ε:∀e env' a' w',K e env'->KL a d a'->BF F0 w0 ((d,e)::env') a' w'->next a' w'):o.wp P a w next Q:=by
 simp only[AB.wp]at h;cases k:vals O ys with
 |none=>rw[k]at h;exact h.elim|some ts=>
  rw [k]at h;simp only[AS]at h;obtain⟨cs,δ,hX,hK⟩:=h;have hv:=Cx C E k;have u:(execOp a.eval o).run P w=(callFunc f (xs.map a.eval)).run P w:=by simp[execOp,D,resolve,Act.eval,Deferred.ofValue,invoke]
  obtain ⟨h2,h3⟩:=(δ.to0 rfl) hv.2;obtain⟨R,h5⟩:=h3 (AP w0.heap.size F0 G) w (xs.map a.eval) f_ C.below.now;unfold Oper.wp;rw[u,CZ h2 _,Oper.upon_enter];refine h5.mono ?_;rintro e w' ⟨v,rfl,hb,Z,⟨vs,rfl,r1,r2⟩,r3,r5,θ⟩;simp only[l]
  let B:B1:=λq i=>(Z q i).map λp=>(p.1,0)
  have J:∀{q i b lo},B q i=Y (b,lo)->∃g,Z q i=Y (b,g)/\lo=0:=by
   grind [oJ]
  have η:(EV.kC (cs.map AI.toX)).WF:=by
   intro c m;obtain⟨M,j,rfl⟩:=List.mem_map.1 m;obtain⟨n,es,e0,_⟩:=hX M j;have:=R _ j;rw[e0]at this|-;exact this
  refine ε _ _ _ _ (hK R) ⟨_,rfl⟩ ⟨_,C.quiet2 hb d hd (.kC (cs.map AI.toX)) _ B (λq i b lo A=>?_) (λq i q' i' b lo g H I=>?_) V (λκ=>?_) η⟩
  .obtain⟨g,A,_⟩:=J A;exact⟨(θ q i b g A).2,(θ q i b g A).1⟩
  .obtain⟨_,H,_⟩:=J H;obtain⟨_,I,_⟩:=J I;exact r3 _ _ _ _ _ _ _ H I
  simp only[AH];refine⟨vs,rfl,by simpa using r1,λi c m=>?_⟩;rw[oj]at m;simp only[oJ]at m;obtain⟨M,j,rfl⟩:=m;obtain⟨n,es,rfl,N⟩:=hX M (l? j);obtain⟨x,k1,k2,_⟩:=r2 i _ j;refine⟨x,k1,?_⟩;have L:FQ a w G d B d (Y i)=B 0 (Y i):=by simp[FQ]
  rw [L];have ζ:BA w' _ (Z 0 (Y i)) (.list n es) x:=k2;obtain⟨us,m1,m2,m3,m4⟩:=ζ;exact⟨us,⟨_,m1,rfl⟩,Cs _ (FR _ N) _ m2,m3,m4⟩
def Rz(P:Program)(t:TypeId):Bool:=match P.underlying t with|some (.slice _)=>X|_=>T
theorem Ws(h:MF x=X):x=.const (.slice W 0 0):=by
 cases x<;>simp[MF]at h
 grind [Ez]
variable{t':TypeId}
theorem Rc(B:AJ F0 w0 O a w G)(hd:d<a.tmps.size){x z:Operand}(k:o.op=.binOp .eql t x z t')(C:MF z=X)(l:Rz P t=X){j:Option Addr}{n cap:Nat}(m:a.eval x=.slice j n cap)(h:K (.tv (.bool j.isNone)) O):Am P F0 w0 a w o d K:=by
 have u:=Ws C;subst u;unfold Rz at l;split at l
 .rename_i e D;refine Bc B hd (v:=.bool j.isNone) (t:=.bool j.isNone) ?_ rfl trivial h;have he:∀d,(Op.equalIn (d+1) t (.slice j n cap) (.slice W 0 0)).run P w=.ok j.isNone w:=by
   intro d;cases j<;>simp[Op.equalIn,run_underlying D]
  have A:(Op.equalIn 10000 t (.slice j n cap) (.slice W 0 0)).run P w=.ok j.isNone w:=he 9999;have H:(eqGuard .eql t x (.const (.slice W 0 0)) (.slice j n cap) (.slice W 0 0)).run P w=.ok () w:=by
   simp [eqGuard]
  have I:(binOp .eql t (.slice j n cap) (.slice W 0 0)).run P w=.ok (.bool j.isNone) w:=by
   have e:(binOp .eql t (.slice j n cap) (.slice W 0 0)).run P w=((Op.equalIn 10000 t (.slice j n cap) (.slice W 0 0)).run P w).andThen λb w'=>.ok (.bool b) w':=by
    simp only[binOp];simp[Op.equal,Op.maxDepth]
   rw [e,A];rfl
  have J:a.eval (.const (.slice W 0 0))=.slice W 0 0:=rfl;have L:∀(g b:Sem Unit)(r:Sem Value),g.run P w=.ok () w->r.run P w=.ok (.bool j.isNone) w->(do let r <-(do g;r:Sem Value);pure (Next.value r):Sem Next).run P w=.ok (.value (.bool j.isNone)) w:=by
   intro g b r m E;simp[m,E]
  simp only[execOp,k,m,J];exact L _ (pure ()) _ H I
 .cases l
theorem Xa(k:AJ F0 w0 O a w G)(hd:d<a.tmps.size){x z:Operand}(g:o.op=.binOp .eql t x z t')(j:AF x y=X)(m:MF z=X)(u:Rz P t=X)(h:(AB.ni y).wp S O (Y d) K):Am P F0 w0 a w o d K:=by
 simp only[AB.wp]at h;split at h
 next n es l=>have hv:=(Ak k j l).1;simp only[AV]at hv;obtain⟨D,cap,B,E,C,H⟩:=hv;exact Rc k hd g m u B (h _ λA=>C (by simpa using A))
 next l=>have hv:=(Ak k j l).1;simp only[AV]at hv;exact Rc k hd g m u hv h
 .exact h.elim
end
end Go.Sf
namespace Go.Sf
open Go.RowKit (Below)
section
variable{P:Program}{S:FuncId->Fq->AZ->Prop}{F0:Nat->Nat->Prop}{w0:W0}{O:AA}{a:Act}{w:World}{G:Ay}{d:Nat}{o:Oper}{K:EV->AA->Prop}
variable{x:Operand}{y:AC}{t:TypeId}
theorem Xb(A:AJ F0 w0 O a w G)(hd:d<a.tmps.size)(B:o.op=.load t x)(C:AF x y=X)(L:BM P t=Y T)(h:(AB.nH y).wp S O (Y d) K):Am P F0 w0 a w o d K:=by
 simp [AB.wp]at h;split at h
 .rename_i s g j;have N:y.place O=Y (s,g):=by
   cases y with
   |c t=>simp[AC.ev]at j|s n=>simp[AC.ev]at j;simp[AC.place,j]
  split at h
  .rename_i p M;obtain⟨n,es⟩:=p;obtain⟨cs,I,R⟩:=AA.jV M;obtain⟨b,m,u⟩:=De A C N I;have H:=AR A I V;simp only[AH]at H;obtain⟨κ,c,θ,D,J,η,ζ,ε⟩:=H;rw[m]at D;simp at D;subst D;obtain⟨v,hv,δ⟩:=ε g _ R;have k:w.cell? ⟨b,g,W⟩=Y v:=by rw[cell_of_row w b g c θ (0,0) J];exact hv
   refine ⟨v,w,by simp[execOp,B,u,Instr.loadAt,Instr.sureAddr,loadVar,Bf L,k],_,_,h,_,A.quiet (Below.refl _ _) d hd (.la s (Y g)) _ (λ_=>W) V V V ?_ trivial⟩;simp only[AH];rintro⟨pp,E⟩;have l:=AA.jW V V E;exact A.xv ⟨_,l.2⟩ (AQ _ _ _ _ l.1) (λ_ _=>rfl) _ ⟨b,c,θ,m,J,hv⟩
  .exact h.elim
 .exact h.elim
theorem XU(A:AJ F0 w0 O a w G)(hd:d<a.tmps.size)(C:o.op=.load t x)(D:AF x y=X)(R:BM P t=Y T)(h:(AB.m8 y).wp S O (Y d) K):Am P F0 w0 a w o d K:=by
 simp [AB.wp]at h;split at h
 .rename_i δ s j E ε;simp at E;subst E;split at h
  .rename_i cs B;split at h
   .rename_i n es H;obtain⟨m,J⟩:=h;obtain⟨b,k,l⟩:=De A D ε B;have I:=AR A B V;simp only[AH]at I;obtain⟨κ,c,θ,u,L,η,ζ,M⟩:=I;rw[k]at u;simp at u;subst u;obtain⟨y,N,_⟩:=M j _ H;have g:w.cell? ⟨b,j,W⟩=Y y:=by rw[cell_of_row w b j c θ (0,0) L];exact N
    exact ⟨y,w,by simp[execOp,C,l,Instr.loadAt,Instr.sureAddr,loadVar,Bf R,g],_,_,J,A.lC B H hd k g (.inr (.inl ⟨n,es,rfl,rfl,rfl,m⟩))⟩
   .rename_i es H;obtain⟨m,J⟩:=h;obtain⟨b,k,l⟩:=De A D ε B;have I:=AR A B V;simp only[AH]at I;obtain⟨κ,c,θ,u,L,η,ζ,M⟩:=I;rw[k]at u;simp at u;subst u;obtain⟨y,N,_⟩:=M j _ H;have g:w.cell? ⟨b,j,W⟩=Y y:=by rw[cell_of_row w b j c θ (0,0) L];exact N
    exact ⟨y,w,by simp[execOp,C,l,Instr.loadAt,Instr.sureAddr,loadVar,Bf R,g],_,_,J,A.lC B H hd k g (.inr (.inr ⟨es,rfl,rfl,rfl,m⟩))⟩
   .exact h.elim
  .exact h.elim
 .exact h.elim
variable{q:Nat}
theorem XT(m:AJ F0 w0 O a w G){x v:Operand}{x':AC}(hop:o.op=.store t x v)(hx:AF x x'=X)(hv:AF v (.s q)=X)(hn:Bm P t=Y 1)(h:(AB.nA x' q).wp S O W K):Dv P F0 w0 a w o K:=by
 simp [AB.wp]at h
 suffices key:∀(ζ:TV)(s g:Nat),x'.place O=Y (s,g)->O.get q≠.undef->(∀cs,O.get q≠.bx cs)->CH w (AP w0.heap.size F0 G) (j8 a G) (G q W) ζ (slot a q)->ζ.WF->∀cs,O.get s=.bx cs->O.lV s (Y g)=X->g<cs.length->K .undef ((s,.bx (cs.set g ⟨X,ζ⟩))::(q,.undef)::O)->Dv P F0 w0 a w o K by
  split at h
  .rename_i s g n es ε I;split at h
   next cs J=>have l:=AR m I V;have u:=m.wf q;rw[I]at u;exact key (.xl n es) s g ε (by rw[I];simp) (by rw[I];simp) l u cs J h.1 h.2.1 h.2.2
   .exact h.elim
  .rename_i s g es ε I;split at h
   next cs J=>have l:=AR m I V;have u:=m.wf q;rw[I]at u;exact key (.xn es) s g ε (by rw[I];simp) (by rw[I];simp) l u cs J h.1 h.2.1 h.2.2
   .exact h.elim
  .exact h.elim
 intro ζ s g ε hqu hqb l u cs J hno δ hK;obtain⟨b,hsl,hadr⟩:=De m hx ε J;have hr:=AR m J V;simp only[AH]at hr;obtain⟨η,c,θ,h1,h2,h3,h4,h5⟩:=hr;rw[hsl]at h1;simp at h1;subst h1;have hw:=m.wf s;rw[J]at hw;have C:q≠s:=λe=>hqb cs (by rw[e];exact J);have hvq:v=.tmp q:=by
  cases v<;>simp[AF]at hv;rw[hv]
 subst hvq;have N:(slot a q).oneCell'=X:=Il l;have D:(a.eval (.tmp q)).cells.toList=[slot a q]:=by
  have:a.eval (.tmp q)=slot a q:=rfl;rw[this,JX N]
 have hst:(execOp a.eval o).run P w=.ok .skip (w.setRow b (c.toList.take g++[slot a q]++c.toList.drop (g+1)).toArray):=by
  have E:=run_storeCells_at P b g θ [slot a q] 0 c w h2 an (by simpa using N);simp only[oB]at E;have hsz:(a.eval (.tmp q)).cells.size=1:=by rw[<-oF,D];rfl
  simp at E;simp[execOp,hop,hadr,Instr.storeAt,Instr.sureAddr,storeVar,BP hn,hsz,D,E]
 let zs:Option Nat->Option (Nat×Nat):=λi=>match i with|none=>Y (b,0)|some j=>if j=g then G q W else G s (Y j)
 refine Exists.elim (m.m7 J hsl h2 (cs':=cs.set g ⟨X,ζ⟩) (c':=(c.toList.take g++[slot a q]++c.toList.drop (g+1)).toArray) (q:=Y q) (by simpa using C) (λp ε=>by cases ε;exact m.lts hqu) (zs:=zs) rfl ?_ ?_ ?_ ?_ ?_ ?_) (λG' h'=>⟨_,hst,_,hK,G',h'.1⟩)
 .intro i η lo hi hz;cases i with
  |none=>exact absurd rfl hi|some j=>
   simp [zs]at hz;split at hz
   .exact .inr ⟨q,rfl,W,hz⟩
   .exact .inl hz
 .intro i i' η lo R A B;have zn:∀j η lo R,zs (Y j)=Y (η,lo)->zs W=Y (η,R)->False:=by
   intro j η lo R A B;simp[zs]at B;obtain⟨rfl,_⟩:=B;simp[zs]at A;split at A
   .exact C (m.jp _ _ _ _ _ _ _ A h4).1
   .have:=(m.jp _ _ _ _ _ _ _ A h4).2;cases this
  cases i with
  |none=>cases i' with
   |none=>rfl|some j=>exact(zn j _ _ _ B A).elim
  |some j=>cases i' with
   |none=>exact(zn j _ _ _ A B).elim|some j'=>
    simp [zs]at A B;split at A<;>split at B
    next e3 e4=>rw[e3,e4]
    .exact absurd (m.jp _ _ _ _ _ _ _ A B).1 C
    .exact absurd (m.jp _ _ _ _ _ _ _ B A).1 C
    .exact(m.jp _ _ _ _ _ _ _ A B).2
 .simp;omega
 .intro F' w' hag M hrs i y H;rw[m?]at H;by_cases hi:g=i
  .subst hi;rw[ae rfl,ae δ]at H;simp at H;subst H;refine⟨slot a q,?_,?_⟩
   .rw[oe,eo,og an];simp;rw[oz U,Nat.sub_self];rfl
   .simp[Ar,zs];exact l.kept hag (λk lo L=>M k (λe=>C (m.jp _ _ _ _ _ _ _ (e▸L) h4).1)) hrs
  .rw[az hi]at H;obtain⟨vv,A,B⟩:=h5 i y H;refine⟨vv,?_,?_⟩
   .rw[oe];rcases ot i g with κ|hge
    .rw[eo,oc an,oh κ];simpa using A
    .rw[og an];simp only[bq,ca,oF,ol];rw[oz U,n!,show g+1+(i-(g+1))=i from U];simpa using A
   .have hi':¬i=g:=λe=>hi e.symm;simp[zs];rw[az hi'];exact B.kept hag (λk lo L=>M k (λe=>by have:=(m.jp _ _ _ _ _ _ _ (e▸L) h4).2;cases this)) hrs
 .intro y H;rcases nc H with H|rfl
  .exact hw y H
  .exact u
 .intro k tx htx L;rw[m?]at L;by_cases hi:g=k
  .subst hi;exact .inl hno
  .rw[az hi]at L;refine .inr ⟨L,?_⟩;have hkc:k<c.size:=by
    have:=(n?.1 L).1;omega
   rw [oe];rcases ot k g with κ|hge
   .rw[eo,oc an,oh κ,oH]
   .rw[og an];simp only[bq,ca,oF,ol];rw[oz U,n!,show g+1+(k-(g+1))=k from U,oH]
variable{s n:Nat}
theorem XW(B:AJ F0 w0 O a w G)(hd:d<a.tmps.size){hi:Operand}{E:AC}(hop:o.op=.slice t (.tmp s) W (Y hi) W)(hh:AF hi E=X)(D:EH P t=Y n)(h:(AB.cut n s E).wp S O (Y d) K):Am P F0 w0 a w o d K:=by
 simp [AB.wp]at h;split at h
 .rename_i d' m es k hb L hs hv;simp at L;subst L;obtain⟨⟨hm,η,ζ⟩,h0,h2,hK⟩:=h;subst hm;have hr:=AR B hs V;have hw:=B.wf s;rw[hs]at hw;simp[AH]at hr;obtain⟨xs,⟨z0,k1,k2⟩,k3,k4,k5⟩:=hr;have b2:=(Ak B hh hv).1;simp[AV]at b2;unfold EH at D;split at D
  .rename_i e hu;obtain⟨j,rfl⟩:∃j:Nat,hb=j:=⟨hb.toNat,U⟩;simp at hK;have θ:j<=es.length:=U
   have hlx:=k1.1;have key:∀(δ:Option Addr)(cap:Nat),slot a s=.slice δ es.length cap->es.length<=cap->(execOp a.eval o).run P w=.ok (.value (.slice (if cap=0 then δ else δ.map (·.add (0*m))) (j-0) (cap-0))) w:=by
    intro δ cap M N;have ε:=NR (P:=P) (w:=w) (isS:=X) (lo:=W) (hi:=Y (a.eval hi)) (l:=0) (h:=(j:Int)) (len:=es.length) (cap:=cap) U U h2 N (.inl ⟨rfl,rfl⟩) (.inr ⟨k,by rw[b2]⟩);simp[execOp,hop,Instr.sliceAt,Instr.slice,run_underlying hu,show a.eval (.tmp s)=slot a s from rfl,M,ε,BP D]
   have A:∀F' C env'(a':Act)(v:Value),A3 w w (AP w0.heap.size F0 G) F'->C d W=G s W->E1 w m v (es.take j).length (xs.take (j*m)) (G s W)->AH a' w F' C env' d (.xo m (es.take j)) v:=by
    intro F' C env' a' v u J H;simp only[AH];rw[J];refine⟨xs.take (j*m),H,?_,λe he=>k4 e (nR he),λx H=>k5 x (nR H)⟩;have hfl:∀(l:Fq)(j:Nat),(∀e∈l,e.cells.length=m)->(l.take j).flatMap TV.cells=(l.flatMap TV.cells).take (j*m):=by
     intro l
     induction l with
     |nil=>intro j _;simp|cons e l ih=>
      intro j R;cases j with
      |zero=>simp|succ j=>
       rw [List.take_succ_cons,l!,l!,ih j (λx H=>R x (by simp[H])),nT,R e V];have h1:(j+1)*m=m+j*m:=e_
       have h2:e.cells.take (m+j*m)=e.cells:=nU (by rw[R e V];omega);rw[h1,h2,show m+j*m-m=j*m from U]
    grind [A4,AY,ca]
   have κ:(EV.xo m (es.take j)).WF:=by
    simp only[EV.WF,TV.WF]at hw|-;refine⟨an,?_⟩;rw[BD]at hw|-;exact λt D=>hw.2 t (nR D)
   have hjm:j*m<=es.length*m:=oy _ θ;rcases k1.2 with⟨M,N,e3⟩|⟨g,cap,cur,ty,M,N,e3,e4,e5,e6,e7⟩
   .have hes:es=[]:=m_ N;subst hes;have hj:j=0:=by simpa using θ
    subst hj;refine⟨_,w,key W 0 (by simpa using M) V,_,_,hK,B.xgo hs hd ζ (z':=G s W) rfl rfl rfl (bk _) (λ_ _ _=>rfl) (λb lo I=>⟨(B.lt _ _ _ _ I).1,.inr ⟨lo,I⟩⟩) V (λ_=>η) (λF' C env' a' u J _=>A F' C env' a' _ u J ?_) κ⟩;refine⟨W,⟨V,.inl ⟨V,V,rfl⟩⟩,?_⟩;rw[k2,e3]
   .refine⟨_,w,key _ _ M e3,_,_,hK,B.xgo hs hd ζ (z':=G s W) rfl rfl rfl (bk _) (λ_ _ _=>rfl) (λb lo I=>⟨(B.lt _ _ _ _ I).1,.inr ⟨lo,I⟩⟩) V (λ_=>η) (λF' C env' a' u J _=>A F' C env' a' _ u J ?_) κ⟩;have R:(es.take j).length=j:=by rw[ca];omega
    rw [R];refine⟨Y (g,j*m),⟨by rw[ca,hlx];omega,.inr ⟨g,cap,cur,ty,?_,N,U,e4,e5,?_,rfl⟩⟩,?_⟩
    .simp only[Nat.zero_mul,Nat.sub_zero,oI,Addr.add_zero'];split<;>rfl
    .rw[<-e6,List.take_take,oz hjm]
    .rw[k2,e7];rfl
  .cases D
 .exact h.elim
variable{v:Value}{z:Option (Nat×Nat)}
theorem Rk{F:Nat->Nat->Prop}{es:Fq}{xs:List Value}(h:E1 w n v es.length xs z)(g:AM w F (es.flatMap TV.cells) xs)(j:∀e∈es,e.cells.length=n)(k:∀x∈xs,x.oneCell'=X):AV w (λ_ _=>False) (.list n es) v:=by
 obtain ⟨m,A,_⟩:=h;refine BA.ns (z:=m) ?_ (λ_ _ _ _ _ h=>h);simp[BA];exact⟨xs,A,AY (λb o u l _=>⟨l,λh=>h⟩) _ _ g,j,k⟩
theorem Q4{F:Nat->Nat->Prop}:A3 w w F (λ_ _=>False):=λ_ _ _ g _=>⟨g,λh=>h⟩
variable{c:AI}
theorem Y0(h:c.t.WF):c.mg.WF:=by
 obtain ⟨_|_,t⟩:=c
 .exact h
 .cases t<;>exact h
variable{i:Option Nat}{ρ:Du}
theorem Ww(j:AJ F0 w0 O a w G){x:Value}(h:Ar w (AP w0.heap.size F0 G) ρ (G s i) c x):AV w (λ_ _=>False) c.mg x:=by
 by_cases g:∃n es,c=⟨X,.xl n es⟩
 .obtain⟨n,es,rfl⟩:=g;simp[Ar,CH]at h;obtain⟨xs,k,l,m,u⟩:=h;exact Rk k l m u
 .have:c.mg=c.t:=by
   obtain ⟨_|_,t⟩:=c
   .rfl
   .cases t<;>first|rfl|exact absurd ⟨_,_,rfl⟩ g
  rw [this];exact BQ Q4 _ _ (Pp j h)
variable{b:Nat}
theorem SZ(u:AJ F0 w0 O a w G){cs:List AI}(B:O.get s=.bx cs)(l:slot a s=.pointer (Y ⟨b,0,W⟩))(g:Nat):Bv w (λ_ _=>False) ((cs.drop g).map AI.mg) b g:=by
 have k:=AR u B V;simp only[AH]at k;obtain⟨H,c,θ,m,C,I,J,D⟩:=k;rw[l]at m;simp at m;subst m;rw[EO];intro i t A;simp[oj,n!]at A;obtain⟨cell,j,rfl⟩:=A;obtain⟨x,E,k⟩:=D _ cell j;exact⟨x,by rw[cell_of_row w b (g+i) c θ (0,0) C];exact E,λh=>h,DO k,Ww u k⟩
theorem Sa{cs:List AI}(h:∀c∈cs,c.t.WF):TV.jU (cs.map AI.mg):=by grind[BD,Y0]
theorem Wx(j:AJ F0 w0 O a w G)(g:AF x y=X){t:TV}(h:y.mC O=Y t):AV w (λ_ _=>False) t (a.eval x)/\t.WF:=by
 unfold AC.mC at h;split at h
 .rename_i p H;simp at h;subst h;obtain⟨A,D⟩:=Ib j g H
  grind [I1,Rk]
 .have C:∀e,y.ev O=e->(∀t,e≠.tv t)->∃n,y=.s n/\x=.tmp n/\O.get n=e:=by
   intro e he B;cases y with
   |c t=>exact absurd he.symm (B t)|s n=>
    cases x<;>simp[AF]at g;subst g;exact⟨_,rfl,rfl,he⟩
  split at h
  next cs he=>simp at h;subst h;obtain⟨n,rfl,rfl,k⟩:=C _ he V;have m:=AR j k V;have u:=j.wf n;rw[k]at u;simp only[AH]at m;obtain⟨b,c,θ,A,_⟩:=m;refine⟨?_,Sa u⟩;simp[AV];exact⟨b,0,A,by simpa using SZ j k A 0⟩
  .rename_i q l he;split at h
   next cs k=>simp only[jR]at h;subst h;obtain⟨n,rfl,rfl,I⟩:=C _ he V;have m:=AR j I V;simp only[AH]at m;obtain⟨b,A,D⟩:=m ⟨cs,k⟩;have u:=j.wf q;rw[k]at u;refine⟨?_,Sa (λc E=>u c (nS E))⟩;simp only[AV];exact⟨b,l,D,SZ j k A l⟩
   .cases h
  .have:=Ak j g (t:=t) h;exact⟨BQ Q4 _ _ this.1,this.2⟩
theorem OY(j:AJ F0 w0 O a w G):∀{xs:List Operand}{ys:List AC},A2 xs ys=X->∀{ts:Fq},kz O ys=Y ts->AM w (λ_ _=>False) ts (xs.map a.eval)/\TV.jU ts
 |[],[],_,ts,hv=>by simp[kz]at hv;subst hv;exact⟨rfl,trivial⟩|[],_::_,g,_,_=>by simp[A2]at g|_::_,[],g,_,_=>by simp[A2]at g|x::xs,y::ys,g,ts,hv=>by
  simp [A2]at g;simp[kz]at hv;split at hv
  next t m u h=>simp at hv;subst hv;have k:=Wx j g.1 u;have l:=OY j g.2 h;exact⟨⟨_,_,rfl,k.1,l.1⟩,k.2,l.2⟩
  .cases hv
variable{r:AZ}
theorem Vp{w':World}{F F':Nat->Nat->Prop}{base:Nat}(g:r.kN=X)(h:EC w' F base r v):EC w' F' base r v:=by
 cases r with
 |sh t=>exact Kf t g v h|tp ts=>obtain⟨vs,k,j⟩:=h;exact⟨vs,k,Cs ts g _ j⟩
 |own t=>
  obtain ⟨z,k,j⟩:=h;refine⟨z,?_,j⟩;cases t<;>simp[AZ.kN]at g
  grind [BA,Cs,FR]
 |_=>simp[AZ.kN]at g
theorem PZ(h:r.kN=X):r.plain=X:=by
 cases r<;>first|rfl|(simp[AZ.kN]at h)
variable{f:FuncId}{ys:List AC}{ats:Array TypeId}{Q:Exit->Act->World->Prop}
theorem U1(l:AJ F0 w0 O a w G)(hd:d<a.tmps.size)(j:o.dst=Y d){xs:Array Operand}(m:o.op=.call {callee:=.value (.func f),args:=xs,argTypes:=ats})(u:A2 xs.toList ys=X)(h:(AB.k9 f ys).wp (AO P) O (Y d) K)
  {next:Act->World->Prop}(D:∀e env' a' w',K e env'->KL a d a'->BF F0 w0 ((d,e)::env') a' w'->next a' w'):o.wp P a w next Q:=by
 simp [AB.wp]at h;cases g:kz O ys with
 |none=>rw[g]at h;exact h.elim|some ts=>
  rw [g]at h;simp[AS]at h;obtain⟨r,⟨E,A⟩,H⟩:=h;have hv:=OY l u g;have k:(execOp a.eval o).run P w=(callFunc f (xs.map a.eval)).run P w:=by simp[execOp,m,resolve,Act.eval,Deferred.ofValue,invoke]
  obtain ⟨I,B⟩:=(E.to0 (PZ A)) hv.2;obtain⟨C,B⟩:=B (λ_ _=>False) w (xs.map a.eval) f_ l.below.now;unfold Oper.wp;rw[k,CZ I _,Oper.upon_enter];refine B.mono ?_;rintro e w' ⟨v,rfl,J,L⟩;simp[j];exact D _ _ _ _ (H C) ⟨_,rfl⟩ (l.called hd J (PZ A) (Vp A L) C)
theorem UH{w:World}{F F':Nat->Nat->Prop}(g:c.kN=X)(h:Ar w F ρ z c v):Ar w F' ρ z c v:=by
 obtain ⟨b,t⟩:=c;cases b with
 |false=>exact⟨Kf t g v h.1,h.2⟩|true=>
  cases t<;>simp[AI.kN]at g;simp only[Ar,CH]at h|-
  grind [BA,Cs,FR]
theorem Vi{w:World}{F F' N:Nat->Nat->Prop}{cs:List AI}(g:cs.all AI.kN=X)(h:L5 w F N cs v):L5 w F' N cs v:=by
 obtain ⟨Z,⟨vs,j,k,l⟩,m⟩:=h;exact⟨Z,⟨vs,j,k,λi d hd=>by obtain⟨x,u,A,B⟩:=l i d hd;exact⟨x,u,UH (oi.1 g d (l? hd)) A,B⟩⟩,m⟩
theorem U0(l:AJ F0 w0 O a w G)(hd:d<a.tmps.size)(A:o.dst=Y d){xs:Array Operand}(I:o.op=.call {callee:=.value (.func f),args:=xs,argTypes:=ats})(B:A2 xs.toList ys=X)(h:(AB.lH f ys).wp (AO P) O (Y d) K)
  {next:Act->World->Prop}(δ:∀e env' a' w',K e env'->KL a d a'->BF F0 w0 ((d,e)::env') a' w'->next a' w'):o.wp P a w next Q:=by
 simp only[AB.wp]at h;cases m:kz O ys with
 |none=>rw[m]at h;exact h.elim|some ts=>
  rw [m]at h;simp only[AS]at h;obtain⟨cs,⟨ζ,N⟩,hK⟩:=h;have D:(execOp a.eval o).run P w=(callFunc f (xs.map a.eval)).run P w:=by simp[execOp,I,resolve,Act.eval,Deferred.ofValue,invoke]
  have key:B2 P f=X/\(∀c∈cs,c.t.WF)/\Calls P f (xs.map a.eval) w λe w'=>∃v,e=.returned v/\Below w.heap.size w w'/\L5 w' (λb o=>b<w.heap.size/\AP w0.heap.size F0 G b o) (λb _=>w.heap.size<=b) cs v:=by
   rcases N with κ|hl
   .have hv:=Cx l B κ;obtain⟨E,R⟩:=(ζ.to0 rfl) hv.2;exact⟨E,R (AP w0.heap.size F0 G) w (xs.map a.eval) f_ l.below.now⟩
   .have hv:=OY l B m;obtain⟨E,R⟩:=(ζ.to0 rfl) hv.2;obtain⟨H,θ⟩:=R (λ_ _=>False) w (xs.map a.eval) f_ l.below.now;exact⟨E,H,θ.mono λe w'⟨v,J,C,e3⟩=>⟨v,J,C,Vi hl e3⟩⟩
  obtain ⟨E,H,θ⟩:=key;unfold Oper.wp;rw[D,CZ E _,Oper.upon_enter];refine θ.mono ?_;rintro e w' ⟨v,rfl,hb,Z,⟨vs,rfl,r1,r2⟩,r3,r5,ε⟩;simp only[A];refine δ _ _ _ _ (hK H) ⟨_,rfl⟩ ⟨_,l.quiet2 hb d hd (.kC cs) _ Z (λq i b lo η=>⟨(ε q i b lo η).2,(ε q i b lo η).1⟩) r3 V (λhag=>?_) H⟩;simp only[AH];refine⟨vs,rfl,r1,λi c L=>?_⟩;obtain⟨x,k1,k2,_⟩:=r2 i c L;refine⟨x,k1,?_⟩;have M:FQ a w G d Z d (Y i)=Z 0 (Y i):=by simp[FQ]
  rw [M];refine(k2.kept (λb o u L hf=>⟨L,λk=>hf ?_⟩) (λ_ _ _=>rfl) At.rfl').j8 (λg lo j hg=>?_)
  .rcases k with k|⟨p,j,lo,J,C⟩
   .exact .inl ⟨ov k.1 l.below.size,.inl k⟩
   .rcases Ic J with⟨_,e⟩|⟨_,_,e⟩|⟨_,_,e⟩
    .exact .inr ⟨_,_,lo,e,C⟩
    .exact .inr ⟨_,_,lo,e,C⟩
    .exact .inl ⟨(l.lt _ _ _ _ e).1,.inr ⟨p,j,lo,e,C⟩⟩
  .have:=(ε _ _ _ _ hg).2;simp only[j8,A6,FQ,B1.j8];rw[az U,ae U];simp only[oC]
theorem HC:∀{g:List (Option AI)}{ts:Fq}{cs:List AI},CP g ts=Y cs->cs.length=ts.length/\∀(i:Nat)(c:AI),cs[i]?=Y c->∃t,ts[i]?=Y t/\(c=⟨T,t⟩\/(t=.nil/\∃n,c=⟨X,.list n []⟩\/c=⟨X,.xl n []⟩\/c=⟨X,.xn []⟩))
 |[],[],cs,h=>by simp[CP]at h;subst h;simp|[],_::_,cs,h=>by simp[CP]at h|none::g,[],cs,h=>by simp[CP]at h|some _::g,[],cs,h=>by simp[CP]at h|none::g,t::ts,cs,h=>by
  simp [CP]at h;split at h
  .rename_i cs' k;simp at h;subst h;obtain⟨l,m⟩:=HC k
   grind
  .cases h
 |some A::g,t::ts,cs,h=>by
  cases t<;>simp[CP]at h<;>try cases h
  have key:∃cs' j,CP g ts=Y cs'/\cs=j::cs'/\∃n,j=⟨X,.list n []⟩\/j=⟨X,.xl n []⟩\/j=⟨X,.xn []⟩:=by
   grind
  obtain ⟨cs',j,k,rfl,u⟩:=key;obtain⟨l,m⟩:=HC k
  grind
theorem V2(H:AJ F0 w0 O a w G)(hd:d<a.tmps.size){I:List (Option AI)}(k:o.op=.box t x)(l:AF x y=X)(h:(AB.ml I y).wp S O (Y d) K):Am P F0 w0 a w o d K:=by
 simp [AB.wp]at h;split at h
 .rename_i u δ hv j;simp at j;subst j;cases A:CP I u.cells with
  |none=>rw[A]at h;exact h.elim|some cs=>
   rw [A]at h;simp[AS]at h;obtain⟨C,κ⟩:=h;obtain⟨η,D⟩:=HC A;have N:=Ak H l hv;have B:=DH N.1;have R:=Au B.1;refine⟨_,_,by simp[execOp,k,Instr.box,newVar,newRow],_,_,κ,H.box hd C (c:=(a.eval x).cells) (θ:=t) (by rw[η];simpa using R) (λF' m i c J=>?_) (λc J=>?_)⟩
   .obtain⟨ζ,M,E⟩:=D i c J;have ε:i<u.cells.length:=(n?.1 M).1;have L:(a.eval x).cells.toList[i]?=Y ((a.eval x).cells.toList[i]' U):=nQ U;have g:=((A4 _ _).1 B.1).2 i ζ _ M L;refine⟨(a.eval x).cells.toList[i]' U,by rw[<-oH];exact L,?_⟩;rcases E with rfl|⟨rfl,n,rfl|rfl|rfl⟩
    .exact⟨BQ m _ _ g,B.2 _ (List.getElem_mem _)⟩
    .simp[AV]at g;simp only[Ar,CH,BA];exact⟨[],⟨V,.inl ⟨g,rfl,rfl⟩⟩,rfl,V,V⟩
    .simp[AV]at g;simp only[Ar,CH];exact⟨[],⟨W,⟨V,.inl ⟨g,rfl,rfl⟩⟩,rfl⟩,rfl,V,V⟩
    .simp[AV]at g;simp[Ar,CH];exact⟨[],⟨W,⟨V,.inl ⟨g,rfl,rfl⟩⟩,rfl⟩,V,V⟩
   grind [oa,BD,D2,l?,TV.WF,TV.jU]
 .exact h.elim
theorem RD(k:AJ F0 w0 O a w G):∀{i:Nat}{xs:List Operand}{ys:List AC},A2 xs ys=X->∀{ts:Fq},Ch O i ys=Y ts->(∀x,xs[i]?=Y x->(a.eval x).oneCell'=X)->AM w (AP w0.heap.size F0 G) ts (xs.map a.eval)/\TV.jU ts
 |i,[],[],_,ts,hv,_=>by cases i<;>simp[Ch]at hv<;>subst hv<;>exact⟨rfl,trivial⟩
 |_,[],_::_,g,_,_,_=>by simp[A2]at g|_,_::_,[],g,_,_,_=>by simp[A2]at g|0,x::xs,y::ys,g,ts,hv,ho=>by
  simp [A2]at g;simp[Ch]at hv;split at hv
  next l h=>simp at hv;subst hv;have j:=Cx k g.2 h;exact⟨⟨_,_,rfl,by simp[AV];exact ho x rfl,j.1⟩,trivial,j.2⟩
  .cases hv
 |i+1,x::xs,y::ys,g,ts,hv,ho=>by
  simp [A2]at g;simp[Ch]at hv;split at hv
  next t l A h=>simp at hv;subst hv;have m:=Ak k g.1 A;have j:=RD k g.2 h (λx u=>ho x k!);exact⟨⟨_,_,rfl,m.1,j.1⟩,m.2,j.2⟩
  .cases hv
noncomputable def BE(a:Act)(G:Ay)(s:Nat):B1:=open Classical in λq i=>if q=0 then G s i else if∃k lo,G s k=Y (q-1,lo)then(match i with|some j=>G (a.tmps.size+(q-1)) (Y j)|none=>W)else W
theorem PA{a:Act}{G:Ay}{b lo:Nat}(h:BE a G s q i=Y (b,lo)):(q=0/\G s i=Y (b,lo))\/(q≠0/\(∃k g,G s k=Y (q-1,g))/\G (a.tmps.size+(q-1)) i=Y (b,lo)):=by
 simp [BE]at h;split at h
 .grind
 .rename_i e;split at h
  .grind
  .cases h
theorem Bu{a:Act}{G:Ay}:BE a G s 0=G s:=by
 funext i;simp[BE]
theorem I3{a:Act}{G:Ay}{s g lo:Nat}{k:Option Nat}(h:G s k=Y (g,lo))(j:Nat):(BE a G s).j8 g j=j8 a G g j:=by
 simp only[B1.j8,BE,j8];rw[az U,ae ⟨k,lo,f?⟩];rfl
theorem E0(h:AJ F0 w0 O a w G)(B:s<a.tmps.size):Eb (BE a G s):=by
 intro q i C D b lo m u A;rcases PA u with⟨k,g⟩|⟨k,_,g⟩<;>rcases PA A with⟨l,j⟩|⟨l,_,j⟩
 .exact⟨by rw[k,l],(h.jp _ _ _ _ _ _ _ g j).2⟩
 .have:=(h.jp _ _ _ _ _ _ _ g j).1;omega
 .have:=(h.jp _ _ _ _ _ _ _ g j).1;omega
 .have:=h.jp _ _ _ _ _ _ _ g j
  grind
theorem BR{b lo:Nat}(l:BE a G s q i=Y (b,lo)):∃p j,G p j=Y (b,lo)/\(p=s\/∃g k h,p=a.tmps.size+g/\G s k=Y (g,h)):=by grind[PA]
noncomputable def BU(a:Act)(G:Ay)(s d:Nat)(Z:B1):Ay:=open Classical in λp=>if p=d then Z 0 else if p=s then λ_=>W else
 if a.tmps.size<=p/\∃k lo,Z 0 k=Y (p-a.tmps.size,lo)then(λi=>match i with|some j=>Z (p-a.tmps.size+1) (Y j)|none=>W)else
 if a.tmps.size<=p/\∃k lo,G s k=Y (p-a.tmps.size,lo)then λ_=>W else G p
variable{Z:B1}{p:Nat}
theorem JJ{a:Act}{G:Ay}{s d:Nat}{b lo:Nat}(h:BU a G s d Z p i=Y (b,lo)):
  (p=d/\Z 0 i=Y (b,lo))\/(p≠d/\a.tmps.size<=p/\Z (p-a.tmps.size+1) i=Y (b,lo))\/(p≠d/\p≠s/\¬(a.tmps.size<=p/\∃k lo,G s k=Y (p-a.tmps.size,lo))/\G p i=Y (b,lo)):=by
 simp [BU]at h;split at h
 next e=>exact .inl ⟨e,h⟩
 .rename_i e;split at h
  .cases h
  .rename_i g;split at h
   .rename_i l;cases i with
    |none=>cases h
    |some j=>exact .inr (.inl ⟨e,l.1,h⟩)
   .split at h
    .cases h
    next m=>exact .inr (.inr ⟨e,g,m,h⟩)
theorem AJ.kP(h:AJ F0 w0 O a w G){s d:Nat}(hsz:s<a.tmps.size)(hd:d<a.tmps.size){w':World}(ζ:DJ (BE a G s) w w'){env':AA}{a':Act}(ha':a'.tmps.size=a.tmps.size)(had:a'.defers=a.defers)
  (hzu:Eb Z)(hz:∀q i b lo,Z q i=Y (b,lo)->b<w'.heap.size/\(w.heap.size<=b\/∃p j l,BE a G s p j=Y (b,l)/\l<=lo))
  (hdom:∀p,a.tmps.size<=p->env'.get p=.undef)(hwf:∀p,(env'.get p).WF)
  (D:∀p,p≠d->p≠s->slot a' p=slot a p)(N:∀p,p≠d->p≠s->env'.get p=O.get p)(hgs:s≠d->env'.get s=.undef)
  (m:O.je d=X\/(d=s/\(∃cs0,O.get s=.bx cs0)/\O.lV s W=X/\(∀n es,env'.get d≠.xo n es)/\slot a' s=slot a s)\/((∀cs,env'.get d≠.bx cs)/\∀n es,env'.get d≠.xo n es))
  (hrep:∀F',(∀b o,F' b o->(b<w.heap.size/\AP w0.heap.size F0 G b o/\¬ZF (BE a G s) b o)\/ZF Z b o)->AH a' w' F' (BU a G s d Z) env' d (env'.get d) (slot a' d)):
  AJ F0 w0 env' a' w' (BU a G s d Z)/\∀b o,AP w0.heap.size F0 (BU a G s d Z) b o->(b<w.heap.size/\AP w0.heap.size F0 G b o/\¬ZF (BE a G s) b o)\/ZF Z b o:=by
 have η:∀p i b lo,p≠s->¬(a.tmps.size<=p/\∃k lo,G s k=Y (p-a.tmps.size,lo))->G p i=Y (b,lo)->∀q j l,BE a G s q j≠Y (b,l):=by
  intro p i b lo I hn A q j l H;obtain⟨p',j',R,κ⟩:=BR H;obtain⟨rfl,_⟩:=h.jp _ _ _ _ _ _ _ A R;rcases κ with κ|⟨g,k,lo0,rfl,f3⟩
  .exact I κ
  .exact hn ⟨U,k,lo0,by rw[oC];exact f3⟩
 have hE:∀b o,b<w0.heap.size->ZF (BE a G s) b o->w0.E b o:=λb o hlt⟨q,i,lo,A,H⟩=>by
  obtain ⟨p,j,R,_⟩:=BR A;exact(h.lt _ _ _ _ R).2.elim (λe=>U) (λe=>e o H)
 have hforb:∀b o,AP w0.heap.size F0 (BU a G s d Z) b o->(b<w0.heap.size/\F0 b o)\/(∃p i lo,p≠s/\¬(a.tmps.size<=p/\∃k lo,G s k=Y (p-a.tmps.size,lo))/\G p i=Y (b,lo)/\lo<=o)\/ZF Z b o:=by
  rintro b o (A|⟨p,i,lo,A,H⟩)
  .exact .inl A
  .rcases JJ A with⟨_,e⟩|⟨_,_,e⟩|⟨_,e1,e2,e3⟩
   .exact .inr (.inr ⟨_,i,lo,e,H⟩)
   .exact .inr (.inr ⟨_,i,lo,e,H⟩)
   grind
 have hall:∀b o,AP w0.heap.size F0 (BU a G s d Z) b o->(b<w.heap.size/\AP w0.heap.size F0 G b o/\¬ZF (BE a G s) b o)\/ZF Z b o:=by
  intro b o hf;rcases hforb b o hf with A|⟨p,i,lo,e1,e0,e2,e3⟩|A
  .exact .inl ⟨ov A.1 h.below.size,.inl A,λhz=>h.below.free _ _ _ (hE b o A.1 hz) A.2⟩
  .exact .inl ⟨(h.lt _ _ _ _ e2).1,.inr ⟨p,i,lo,e2,e3⟩,λ⟨q,j,l,R,_⟩=>η p i b lo e1 e0 e2 q j l R⟩
  .exact .inr A
 have hag:A3 w w' (AP w0.heap.size F0 G) (AP w0.heap.size F0 (BU a G s d Z)):=by
  intro b o u hc hF;have hlt:b<w.heap.size:=World.block_lt_of_cell? w ⟨b,o,W⟩ hc;have hnf:¬ZF (BE a G s) b o:=λ⟨q,i,lo,A,H⟩=>by
   obtain ⟨p,j,R,_⟩:=BR A;exact hF (.inr ⟨p,j,lo,R,H⟩)
  refine ⟨ζ.cell b o u hnf hc,λhF'=>?_⟩;rcases hall b o hF' with⟨_,A,_⟩|⟨q,i,lo,A,H⟩
  .exact hF A
  .rcases(hz q i b lo A).2 with h3|⟨p,j,l,h3,h4⟩
   .omega
   .exact hnf ⟨p,j,l,h3,ox h4 H⟩
 have hlow:∀p,p<a.tmps.size->p≠d->p≠s->BU a G s d Z p=G p:=by
  intro p hp A H;simp[BU];rw[az A,az H,az (λe=>h!),az (λe=>h!)]
 refine ⟨⟨?_,?_,?_,had.trans h.defers,λp hp=>hdom p U,?_,hwf⟩,hall⟩
 .intro p i p' i' b lo l e1 e2;have mix:∀p i q i' lo l,p≠s->¬(a.tmps.size<=p/\∃k lo,G s k=Y (p-a.tmps.size,lo))->G p i=Y (b,lo)->Z q i'=Y (b,l)->False:=by
   intro p i q i' lo l hp hn R κ;rcases(hz q i' b l κ).2 with h3|⟨p2,j,θ,h3,_⟩
   .have:=(h.lt _ _ _ _ R).1;omega
   .exact η p i b lo hp hn R p2 j θ h3
  rcases JJ e1 with⟨R,M⟩|⟨R,f3,M⟩|⟨_,f3,f4,M⟩<;>rcases JJ e2 with⟨κ,g2⟩|⟨κ,f5,g2⟩|⟨_,f5,f6,g2⟩
  .exact⟨by rw[R,κ],(hzu _ _ _ _ _ _ _ M g2).2⟩
  .have:=(hzu _ _ _ _ _ _ _ M g2).1;omega
  .exact(mix _ _ _ _ _ _ f5 f6 g2 M).elim
  .have:=(hzu _ _ _ _ _ _ _ M g2).1;omega
  .have:=hzu _ _ _ _ _ _ _ M g2;exact⟨U,this.2⟩
  .exact(mix _ _ _ _ _ _ f5 f6 g2 M).elim
  .exact(mix _ _ _ _ _ _ f3 f4 M g2).elim
  .exact(mix _ _ _ _ _ _ f3 f4 M g2).elim
  .exact h.jp _ _ _ _ _ _ _ M g2
 .intro p i b lo e1;have znew:∀q i,Z q i=Y (b,lo)->b<w'.heap.size/\(w0.heap.size<=b\/∀o,lo<=o->w0.E b o):=by
   intro q i R;obtain⟨A,H⟩:=hz q i b lo R;refine⟨A,?_⟩;rcases H with H|⟨p,j,l,H,h3⟩
   .exact .inl (ox h.below.size H)
   .obtain⟨p',j',κ,_⟩:=BR H;exact(h.lt _ _ _ _ κ).2.imp id (λe o ho=>e o (ox h3 ho))
  rcases JJ e1 with⟨_,M⟩|⟨_,_,M⟩|⟨_,_,_,M⟩
  .exact znew _ _ M
  .exact znew _ _ M
  .exact⟨ov (h.lt _ _ _ _ M).1 ζ.size,(h.lt _ _ _ _ M).2⟩
 .refine h.below.trans ζ.os ζ.tape ζ.output ζ.size (λk hk he=>ζ.block k (ov hk h.below.size) (λq i lo ε=>he lo (hE k lo hk ⟨q,i,lo,ε,bk _⟩))) (λb o u hlt he hu=>ζ.cell b o u (λε=>he (hE b o hlt ε)) hu)
 .intro p hp;rw[ha']at hp;by_cases hpd:p=d
  .subst hpd;exact hrep _ hall
  .by_cases I:p=s
   .subst I;rw[hgs hpd];trivial
   .rw[N p hpd I,D p hpd I];have hn:¬(a.tmps.size<=p/\∃k lo,G s k=Y (p-a.tmps.size,lo)):=λe=>h!
    have hsame:∀r,(r≠d->r≠s)->r≠d->slot a' r=slot a r:=λr A H=>D r H (A H);refine AH.kept' hag (λi=>by rw[hlow p hp hpd I]) (λi b lo ε=>ζ.block b (h.lt _ _ _ _ ε).1 (λq j l=>η p i b lo I hn ε q j l)) (λi g lo j hg=>?_) (λi g lo j b l hg L=>?_) (λr i k L⟨pp,J⟩=>?_) (λr off L⟨cs2,hcs⟩=>?_) (λr i L⟨pp,J⟩=>?_) (h.slots p hp)
    .show BU a G s d Z (a'.tmps.size+g) (Y j)=G (a.tmps.size+g) (Y j);rw[ha'];simp[BU];rw[az U,az U,az,az]
     .rintro⟨_,k,l,e⟩;rw[oC]at e;exact I (h.jp _ _ _ _ _ _ _ hg e).1
     .rintro⟨_,k,l,e⟩;rw[oC]at e;rcases(hz _ _ _ _ e).2 with h3|⟨p2,j2,θ,h3,_⟩
      .have:=(h.lt _ _ _ _ hg).1;omega
      .exact η p i g lo I hn hg p2 j2 θ h3
    .refine ζ.block b (h.lt _ _ _ _ L).1 (λq j2 θ hzf=>?_);obtain⟨p',j',R,κ⟩:=BR hzf;obtain⟨e1,_⟩:=h.jp _ _ _ _ _ _ _ L R;rcases κ with κ|⟨g',k,lo0,f3,f4⟩
     .omega
     .have:g=g':=U
      subst this;exact I (h.jp _ _ _ _ _ _ _ hg f4).1
    .obtain⟨cs,A,H⟩:=AA.j0 J;by_cases B:r=d
     .subst B;rcases m with m|⟨rfl,_,m,_⟩|⟨m,_⟩
      .exact absurd L (AA.mb _ O m p i k)
      .exact absurd L (AA.noX_nh m p i (.inl rfl) k)
      .exact absurd A (m cs)
     .by_cases C:r=s
      .subst C;rw[hgs B]at A;cases A
      .have h4:O.nat r i=Y pp:=by rw[<-J];exact(AA.kM (N r B C)).symm
       have hrl:r<a.tmps.size:=h.lts (by rw[<-N r B C,A];simp);exact⟨⟨pp,h4⟩,h.nh ⟨pp,h4⟩ (D r B C) (λj b _ δ=>ζ.block b (h.lt _ _ _ _ δ).1 (λq j2 θ=>η r j b 0 C (λe=>h!) δ q j2 θ))⟩
    .by_cases B:r=d
     .subst B;rcases m with m|⟨e1,⟨cs0,e2⟩,_,_,hds⟩|⟨m,_⟩
      .exact absurd L (AA.lh _ O m p off)
      .exact⟨⟨cs0,by rw[e1];exact e2⟩,by rw[e1];exact hds⟩
      .exact absurd hcs (m cs2)
     .by_cases C:r=s
      .subst C;rw[hgs B]at hcs;cases hcs
      .exact⟨⟨cs2,by rw[<-N r B C];exact hcs⟩,D r B C⟩
    .by_cases B:r=d
     .subst B;obtain⟨n,es⟩:=pp;rcases m with m|⟨rfl,_,m,hxo,_⟩|⟨m,hxo⟩
      .have hx:=AA.ll _ O m p;rcases L with L|⟨c,L⟩
       .exact absurd L (hx.1 i)
       .exact absurd L (hx.2 i c)
      .cases i with
       |none=>exact absurd (AA.j6 J) (hxo n es)|some k=>
        have h5:=AA.noX_spec m p k (.inl rfl);rcases L with L|⟨c,L⟩
        .exact absurd L h5.1
        .exact absurd L (h5.2 c)
      .cases i with
       |none=>exact absurd (AA.j6 J) (hxo n es)|some k=>
        obtain ⟨cs,A,_⟩:=AA.jV J;exact absurd A (m cs)
     .by_cases C:r=s
      .subst C;rw[AA.kZ (hgs B)]at J;cases J
      .have h4:O.jT r i=Y pp:=by rw[<-J];exact(AA.kE (N r B C)).symm
       have hrl:r<a.tmps.size:=by
        refine h.lts (λe=>?_);rw[AA.kZ e]at h4;cases h4
       exact ⟨⟨pp,h4⟩,h.xv ⟨pp,h4⟩ (D r B C) (λb δ=>ζ.block b (h.lt _ _ _ _ δ).1 (λq j2 θ=>η r W b 0 C (λe=>h!) δ q j2 θ))⟩
theorem KB{a a':Act}{G:Ay}{s d:Nat}(l:a'.tmps.size=a.tmps.size)(hd:d<a.tmps.size)(m:s<a.tmps.size){k:Option Nat}{g lo:Nat}(h:Z 0 k=Y (g,lo))(j:Nat):j8 a' (BU a G s d Z) g j=Z.j8 g j:=by
 show BU a G s d Z (a'.tmps.size+g) (Y j)=Z.j8 g j;rw[l];simp only[BU,B1.j8];rw[az U,az U,ae ⟨U,k,lo,by rw[oC];exact h⟩]
 grind
theorem AJ.reboxed(h:AJ F0 w0 O a w G){cs cs':List AI}(J:O.get s=.bx cs)(C:O.lV s W=X){w':World}(L:DJ (BE a G s) w w')
  (l:Ho w' (λb o=>(b<w.heap.size/\AP w0.heap.size F0 G b o/\¬ZF (BE a G s) b o)\/ZF Z b o) Z cs' (slot a s))
  (D:Eb Z)(M:∀q i b lo,Z q i=Y (b,lo)->b<w'.heap.size/\(w.heap.size<=b\/∃p j m,BE a G s p j=Y (b,m)/\m<=lo))(N:∀c∈cs',c.t.WF):
  AJ F0 w0 ((s,.bx cs')::O) a w' (BU a G s s Z)/\∀b o,AP w0.heap.size F0 (BU a G s s Z) b o->(b<w.heap.size/\AP w0.heap.size F0 G b o/\¬ZF (BE a G s) b o)\/ZF Z b o:=by
 have k:s<a.tmps.size:=A5 h J V;have A:AA.get ((s,EV.bx cs')::O) s=.bx cs':=by rw[AA.gp,ae rfl]
 refine h.kP k k L rfl rfl D M (λp R=>by rw[AA.gp,az U];exact h.dom p R) (λp=>?_) (λ_ _ _=>rfl) (λp _ E=>by rw[AA.gp,az (λe=>E e.symm)]) (λe=>absurd rfl e) (.inr (.inl ⟨rfl,⟨cs,J⟩,C,(λn es e=>by rw[A]at e;cases e),rfl⟩)) (λF' H=>?_)
 .rw[AA.gp];split
  .exact N
  .exact h.wf p
 .rw[A];obtain⟨b,c,θ,η,ζ,δ,h4,h5⟩:=l;have B:BU a G s s Z s=Z 0:=by simp[BU]
  simp only[AH];refine⟨b,c,θ,η,ζ,δ,by rw[B];exact h4,λi d hd=>?_⟩;obtain⟨x,e1,e2⟩:=h5 i d hd;refine⟨x,e1,?_⟩;rw[B];exact(e2.kept (λb o u ε hf=>⟨ε,λI=>hf (H b o I)⟩) (λ_ _ _=>rfl) At.rfl').j8 (λg lo j κ=>KB rfl k k κ j)
theorem Ux(k:AJ F0 w0 O a w G)(hd:d<a.tmps.size)(L:o.dst=Y d){xs:Array Operand}{i:Nat}(hop:o.op=.call {callee:=.value (.func f),args:=xs,argTypes:=ats})(M:A2 xs.toList ys=X)(h:(AB.kD f ys i).wp (AO P) O (Y d) K)
  {next:Act->World->Prop}(hn:∀e env' a' w',K e env'->KL a d a'->BF F0 w0 ((d,e)::env') a' w'->next a' w'):o.wp P a w next Q:=by
 simp only[AB.wp]at h;split at h
 .rename_i d' s R D;simp at R;subst R;split at h
  .rename_i cs ε;obtain⟨⟨hno,hds⟩,h⟩:=h;cases H:Ch O i ys with
   |none=>rw[H]at h;exact h.elim|some ts=>
    rw [H]at h;simp only[AS]at h;obtain⟨cs',m,hS,hK⟩:=h;rw[oK]at D;obtain⟨y,hy,D⟩:=D;have hxi:∀(xs:List Operand)(ys:List AC)(i:Nat)(y:AC),A2 xs ys=X->ys[i]?=Y y->∃x,xs[i]?=Y x/\AF x y=X:=by
     intro xs
     induction xs with
     |nil=>intro ys i y A B;cases ys<;>simp[A2]at A B
     |cons x xs ih=>
      intro ys i y A B;cases ys with
      |nil=>simp[A2]at A|cons z ys=>
       simp [A2]at A
       grind
    obtain ⟨x,hx,hxy⟩:=hxi _ _ _ _ M hy;obtain⟨b,hsl,C⟩:=De k hxy D ε;have hv:=RD k M H (λx' N=>by rw[hx]at N;cases N;rw[C];rfl);have κ:=k.wf s;rw[ε]at κ;have hbx:=AR k ε V;have hsplit:∀b o,AP w0.heap.size F0 G b o↔((AP w0.heap.size F0 G b o/\¬ZF (BE a G s) b o)\/ZF (BE a G s) b o):=by
     intro b o;constructor
     .grind
     .rintro(hf|⟨q,i,lo,A,B⟩)
      .exact hf.1
      .obtain⟨p,j,I,_⟩:=BR A;exact .inr ⟨p,j,lo,I,B⟩
    have hF:(λb o=>(AP w0.heap.size F0 G b o/\¬ZF (BE a G s) b o)\/ZF (BE a G s) b o)=AP w0.heap.size F0 G:=by
     grind
    obtain ⟨B,h3⟩:=hS hv.2 κ;have hbr:Ho w (λb o=>(AP w0.heap.size F0 G b o/\¬ZF (BE a G s) b o)\/ZF (BE a G s) b o) (BE a G s) cs (slot a s):=by
     rw [hF];obtain⟨b,c,θ,A,B,h3,h4,h5⟩:=hbx;refine⟨b,c,θ,A,B,h3,by rw[Bu];exact h4,λi d hd=>?_⟩;obtain⟨x,e1,e2⟩:=h5 i d hd;exact⟨x,e1,by rw[Bu];exact e2.j8 (λg lo j hg=>I3 hg j)⟩
    obtain ⟨⟨k1,k2⟩,k3⟩:=h3 (λb o=>AP w0.heap.size F0 G b o/\¬ZF (BE a G s) b o) w (xs.map a.eval) (slot a s) (BE a G s) (by rw[hF];simpa using hv.1)
     (by rw[Array.getElem?_map];rw[<-oH,hx];simp;rw[C,hsl]) hbr (E0 k (A5 k ε V)) (λq i b lo e=>by obtain⟨p,j,I,_⟩:=BR e;exact(k.lt _ _ _ _ I).1)
     (by
      rintro b o o' ⟨q,i,lo,e1,e2⟩ ⟨hf,hnz⟩;by_cases hlo:lo<=o'
      .exact hnz ⟨q,i,lo,e1,hlo⟩
      .obtain⟨p,j,I,_⟩:=BR e1;exact Im k b lo o' I U hf)
     ⟨k.below.now,λb o⟨_,_,_,e,_⟩=>by obtain⟨_,_,I,_⟩:=BR e;exact k.low I⟩
    have η:(execOp a.eval o).run P w=(callFunc f (xs.map a.eval)).run P w:=by simp[execOp,hop,resolve,Act.eval,Deferred.ofValue,invoke]
    unfold Oper.wp;rw[η,CZ B _,Oper.upon_enter];refine k3.mono ?_;rintro e w' ⟨r,J,rfl,r1,r2,r3,r4,r5⟩;simp[L];obtain⟨δ,E⟩:=k.reboxed ε hno r1 r2 r3 r4 k1;refine hn _ _ _ _ (hK ⟨k1,k2⟩) ⟨_,rfl⟩ ?_;have ζ:∀b o,AP w0.heap.size F0 (EZ (BU a G s s J) d λ_=>W) b o->(b<w.heap.size/\AP w0.heap.size F0 G b o/\¬ZF (BE a G s) b o)\/ZF J b o:=by
     intro b o hf;have hf2:AP w0.heap.size F0 (BU a G s s J) b o:=AP.mono (λp i b lo D=>by
      by_cases hpd:p=d
      .grind[BH]
      .rw[Aq _ _ _ _ hpd]at D;exact⟨p,i,lo,D,bk _⟩) hf
     exact E b o hf2
    have l:A3 w' w' (λb o=>(b<w.heap.size/\AP w0.heap.size F0 G b o/\¬ZF (BE a G s) b o)\/ZF J b o) (AP w0.heap.size F0 (EZ (BU a G s s J) d λ_=>W)):=λb o u hc hf=>⟨hc,λE=>hf (ζ b o E)⟩;by_cases hus:∃t,m=[t]
    .obtain⟨t,rfl⟩:=hus;exact δ.tv (Below.refl _ _) d hd t r (BQ l t r r5) k2.1
    .have hof:EV.mQ m=.tp m:=by
      rcases m with _|⟨t,_|⟨t',m⟩⟩
      .rfl
      .grind
      .rfl
     have hur:∃vs,r=.tuple vs/\AM w' (λb o=>(b<w.heap.size/\AP w0.heap.size F0 G b o/\¬ZF (BE a G s) b o)\/ZF J b o) m vs.toList:=by
      rcases m with _|⟨t,_|⟨t',m⟩⟩
      .exact r5
      .grind
      .exact r5
     obtain ⟨vs,rfl,hvs⟩:=hur;rw[hof];refine⟨_,δ.quiet (Below.refl _ _) d hd (.tp m) _ (λ_=>W) V V V ?_ k2⟩;simp only[AH];exact⟨vs,rfl,AY l m _ hvs⟩
  .exact h.elim
 .exact h.elim
end
end Go.Sf
namespace Go.Sf
open Go.RowKit (Below)
theorem FW{z g:Value}(h:z.cells=#[g])(k:Nat):Builtin.zeroCells z.cells k=(n7 k g).toArray:=by
 rw [h];apply Array.ext
 .simp[Builtin.zeroCells]
 .intro i j l;simp[Builtin.zeroCells,Nat.mod_one]
section
variable{P:Program}{w:World}
theorem MM(t tn ty e L:TypeId)(i:TypeInfo)(z H:Value)(ε kn:IntKind)(M:P.underlying t=Y (.slice e))(B:P.underlying tn=Y (.int kn))(hi:P.info? e=Y i)(κ:i.zero=Y z)(N:i.size=1)(I:z.cells=#[H])(η:H.oneCell'=X)
  (g h j:Nat)(l:Array Value)(ζ:w.heap[g]?=Y (.cells l L (0,0)))
  (k:Nat)(δ:k*i.bytes<=281474976710656)(R:(k:Int)<=9223372036854775807)(A:h+k<=j)(C:h+k<=l.size):
  (Builtin.append_ #[t,tn] ty #[.slice (Y ⟨g,0,W⟩) h j,.int ε k]).run P w=
   .ok (.slice (Y ⟨g,0,W⟩) (h+k) j) (w.setRow g (l.toList.take h++n7 k H++l.toList.drop (h+k)).toArray):=by
 have hw:IntKind.i64.wrap (k:Int)=k:=by rw[IntKind.wrap_i64];omega
 have D:¬((k:Int)<0):=U
 have E:¬(281474976710656<(k:Int)*(i.bytes:Int)):=by
  grind
 have m:=run_storeCells_at P g h L (n7 k H) 0 l w ζ (by simpa using C) (λu hu=>by rw[n_ hu];exact η);simp at m;by_cases θ:k=0
 .subst θ;simp at m;have J:IntKind.i64.wrap 0=0:=a?
  simp [Builtin.append_,run_underlying M,run_underlying B,sizeOf,typeInfo,hi,asInt,asIntOf,J,N,show h<=j from U,Addr.add_lit,m]
 .simp[Builtin.append_,run_underlying M,run_underlying B,sizeOf,typeInfo,zeroValue,hi,κ,asInt,asIntOf,hw,D,E,N,θ,A,Addr.add_lit,FW I,m]
theorem OD(t tn ty e:TypeId)(i:TypeInfo)(h kn:IntKind)(j:P.underlying t=Y (.slice e))(g:P.underlying tn=Y (.int kn))(hi:P.info? e=Y i):
  (Builtin.append_ #[t,tn] ty #[.slice W 0 0,.int h 0]).run P w=.ok (.slice W 0 0) w:=by
 have k:IntKind.i64.wrap 0=0:=a?
 simp [Builtin.append_,run_underlying j,run_underlying g,sizeOf,typeInfo,hi,asInt,asIntOf,k]
theorem XG(t tn ty e:TypeId)(i:TypeInfo)(z κ:Value)(δ kn:IntKind)(ht:P.underlying t=Y (.slice e))(J:P.underlying tn=Y (.int kn))(hi:P.info? e=Y i)(hz:i.zero=Y z)
  (hs:i.size=1)(hby:i.bytes<=4096)(B:z.cells=#[κ])(h1:κ.oneCell'=X)(v:Value)(len:Nat)(xs:List Value)(zo:Option (Nat×Nat))(l:C2 w 1 v len xs zo)(k:Nat)(hk:k<=4096)(M:len+k<=CA):
  ∃v' w' z',(Builtin.append_ #[t,tn] ty #[v,.int δ k]).run P w=.ok v' w'/\C2 w' 1 v' (len+k) (xs++n7 k κ) z'/\ER w w' zo z':=by
 have m:(xs++n7 k κ).length=(len+k)*1:=by rw[bq,l.1,n9];omega
 have L:(len+k)*i.bytes<=140737488355328:=by
  calc (len+k)*i.bytes<=CA*4096:=oA M hby
   _<=140737488355328:=a?
 have N:k*i.bytes<=281474976710656:=by
  grind
 have hml:len+k<=maxLen:=by simp[maxLen,CA]at *;omega
 have hzlt:∀b lo,zo=Y (b,lo)->b<w.heap.size:=by
  intro b lo I;rcases l.2 with⟨_,_,h⟩|⟨g,cap,E,ε,_,hg,_,_,_,_,h⟩
  .rw[h]at I;cases I
  grind
 have C:∀(old:Nat),old<len+k ->
   C2 (w.drew.alloc (.cells (xs.toArray++Builtin.zeroCells z.cells k++Builtin.zeroCells z.cells (grownCap w (len+k) old e-(len+k))) e)) 1
    (.slice (Y ⟨w.heap.size,0,W⟩) (len+k) (grownCap w (len+k) old e)) (len+k) (xs++n7 k κ) (Y (w.heap.size,(len+k)*1))/\
   ER w (w.drew.alloc (.cells (xs.toArray++Builtin.zeroCells z.cells k++Builtin.zeroCells z.cells (grownCap w (len+k) old e-(len+k))) e)) zo (Y (w.heap.size,(len+k)*1)):=by
  intro old ho;have hge:=grownCap_ge w (len+k) old e;have R:grownCap w (len+k) old e<=maxLen:=grownCap_le_maxLen w (len+k) old e hml;have hxl:xs.length=len:=by simpa using l.1
  refine ⟨⟨m,.inr ⟨w.heap.size,_,_,e,rfl,heap_alloc_new w.drew _,hge,R,?_,?_,rfl⟩⟩,⟨rfl,rfl,rfl,V,λk hk _=>Below.heap_alloc w.drew _ k hk,λb o v η _=>?_,λb lo I=>?_⟩⟩
  .rw[FW B,FW B];simp[hxl];omega
  .rw[FW B,FW B];simp only[Array.toList_append,eo];rw[<-eo,<-m];exact om
  .have I:b<w.heap.size:=World.block_lt_of_cell? w ⟨b,o,W⟩ η;rw[World.cell?_alloc_lt _ _ (a:=⟨b,o,W⟩) (by simpa using I)];simpa using η
  .simp at I;rw[<-I.1];exact⟨V,.inl (bk _)⟩
 rcases l.2 with⟨rfl,rfl,rfl⟩|⟨g,cap,E,ε,rfl,hg,hnc,R,hcs,H,rfl⟩
 .have hx:xs=[]:=m_ (by simpa using l.1);subst hx;by_cases hk0:k=0
  .subst hk0;exact⟨_,_,W,OD t tn ty e i δ kn ht J hi,⟨V,.inl ⟨rfl,rfl,rfl⟩⟩,ER.refl w W V⟩
  .have ζ:=Lib.run_append_nil_zeros (P:=P) w t tn ty e i z δ kn ht J hi hz k U U U N;have A:=C 0 U;simp only[oD,List.nil_append,Array.empty_append]at A ζ|-;exact⟨_,_,_,ζ,A.1,A.2⟩
 .have hxl:xs.length=len:=by simpa using l.1
  simp at hcs H;by_cases D:len+k<=cap
  .have ζ:=MM (P:=P) (w:=w) t tn ty e ε i z κ δ kn ht J hi hz hs B h1 g len cap E hg k N U D U;refine⟨_,_,Y (g,(len+k)*1),ζ,⟨m,.inr ⟨g,cap,_,ε,rfl,setRow_heap w g E _ ε _ hg,D,R,?_,?_,rfl⟩⟩,⟨rfl,rfl,rfl,V,λj _ hj=>setRow_other w g j _ (λe=>hj (len*1) (by rw[e])),λb o u η hlo=>?_,λb lo I=>?_⟩⟩
   .simp;omega
   .rw[H,<-m];exact om
   .by_cases hbg:b=g
    .subst hbg;have ho:=hlo (len*1) rfl;rw[cell_of_row _ b o _ ε (0,0) (setRow_heap w b E _ ε _ hg)];rw[cell_of_row w b o E ε (0,0) hg]at η;rw[oe,eo,oc an,oh U];simpa using η
    .rw[World.cell?_of_block (w:=w) (a:=⟨b,o,W⟩) (setRow_other w g b _ (λe=>hbg e))];exact η
   .simp only[jR,Prod.mk.injEq]at I;obtain⟨rfl,rfl⟩:=I;refine⟨by simpa using hzlt g (len*1) rfl,.inr ⟨len*1,rfl,oy _ U⟩⟩
  .have θ:(Builtin.firstCells i.size len (.slice (Y ⟨g,0,W⟩) len cap)).run P w.drew=.ok xs.toArray w.drew:=by
    refine run_firstCells_some (P:=P) w.drew i.size len ⟨g,0,W⟩ len cap xs (by rw[hs];omega) (λj u hu=>?_);rw[Addr.add_lit,oD];have:=l.cell rfl j u hu;simpa using this
   have ζ:=Lib.run_append_grow_zeros (P:=P) w t tn ty e i z δ kn ht J hi hz (Y ⟨g,0,W⟩) len cap xs θ k U U U (by simp[CA]at M;omega) N (growslice_fits U L);have A:=C cap U;exact⟨_,_,_,ζ,A.1,A.2⟩
end
def Operand.mV(n:Nat):Operand->Bool
 |.tmp m=>m==n|_=>T
variable{n:Nat}{x:Operand}
theorem Operand.isTmp_eq'(h:Operand.mV n x=X):x=.tmp n:=by
 cases x<;>simp[Operand.mV]at h;rw[h]
def Vj(P:Program)(n s:Nat)(z:TV)(x:AC)(c:Call):Bool:=
 match c.callee,c.args.toList,c.argTypes.toList with
 |.builtin .append,[p,q],[t,t']=>Operand.mV s p&&AF q x&&(match P.underlying t,P.underlying t' with
  |some (.slice e),Y (.int _)=>(match P.info? e with
   |some i=>(match i.zero with
    |some zz=>(match zz.cells.toList with
     |[z0]=>n==1&&i.size==1&&decide (i.bytes<=4096)&&CI z z0&&z0.oneCell'|_=>T)
    |none=>T)
   |none=>T)
  |_,_=>T)
 |_,_,_=>T
section
variable{P:Program}{S:FuncId->Fq->AZ->Prop}{F0:Nat->Nat->Prop}{w0:W0}{O:AA}{a:Act}{w:World}{G:Ay}{d:Nat}{o:Oper}{K:EV->AA->Prop}
variable{s:Nat}{x:Operand}{y:AC}{t t' e:TypeId}
theorem Vy(R:AJ F0 w0 O a w G)(hd:d<a.tmps.size){kn:IntKind}{i:TypeInfo}{θ B:Value}{z:TV}(ε:o.op=.call {callee:=.builtin .append,args:=#[.tmp s,x],argTypes:=#[t,t']})
  (ht:P.underlying t=Y (.slice e))(κ:P.underlying t'=Y (.int kn))(hi:P.info? e=Y i)(l:i.zero=Y θ)(η:i.size=1)(ζ:i.bytes<=4096)(δ:θ.cells=#[B])(E:CI z B=X)(h1:B.oneCell'=X)
  (hok:AF x y=X)(h:(AB.md 1 s z y).wp S O (Y d) K):Am P F0 w0 a w o d K:=by
 simp [AB.wp]at h;split at h
 .rename_i d' m es kk j H hs hy;simp at H;subst H;obtain⟨⟨⟨rfl,_⟩,J⟩,⟨h0,h4⟩,⟨g,hno,hds⟩,hK⟩:=h;obtain⟨k,rfl⟩:∃k:Nat,j=k:=⟨j.toNat,U⟩;simp at g hK;have A:=AR R hs V;have C:=R.wf s;rw[hs]at C;simp[AH]at A;obtain⟨xs,⟨zo,k1,L⟩,k2,k3,k4⟩:=A;have hv:=(Ak R hok hy).1;simp[AV]at hv;obtain⟨v',w',z',M,r1,D⟩:=XG (P:=P) t t' o.type e i θ B kk kn ht κ hi l η ζ δ h1 (slot a s) es.length xs zo k1 k U g;have hnz:∀k,(∀lo,G s W≠Y (k,lo))->∀lo,zo≠Y (k,lo):=λk hk lo l=>hk 0 (by rw[L,l];rfl);have hfm:∀k,(n7 k z).flatMap TV.cells=n7 k z:=by
   intro k
   induction k with
   |zero=>rfl|succ k ih=>rw[n8,l!,ih,J];rfl
  refine ⟨v',w',?_,_,_,hK,R.xgo hs hd hds (z':=z'.map λp=>(p.1,0)) D.os D.tape D.output D.size (λk hk l=>D.other k hk (hnz k l)) (λb lo l=>?_) V (λ_=>hno) (λF' G' env' a' hag hG _=>?_) ?_⟩
  .simp[execOp,ε,resolve,invoke,builtin,show a.eval (.tmp s)=slot a s from rfl,hv,M]
  .cases z' with
   |none=>simp at l|some p=>
    simp at l;obtain⟨q1,N⟩:=D.mW p.1 p.2 rfl;rw[<-l.1];refine⟨q1,?_⟩;rcases N with N|⟨lo',N,_⟩
    .exact .inl N
    .exact .inr ⟨0,by rw[L,N];rfl⟩
  .simp only[AH];rw[hG];refine⟨xs++n7 k B,⟨z',by rw[bq,n9];exact r1,rfl⟩,?_,?_,?_⟩
   .rw[nY,hfm];refine D9 (AY hag _ _ k2) ?_;rw[A4];refine⟨V,λi u v hu hv=>?_⟩;rw[n_ (l? hu),n_ (l? hv)];exact(Dk _ F' z B E).1
   .intro e he;rcases nZ.1 he with he|he
    .exact k3 e he
    .rw[n_ he,J];rfl
   .intro x I;rcases nZ.1 I with I|I
    .exact k4 x I
    .rw[n_ I];exact h1
  .simp only[EV.WF,TV.WF]at C|-;refine⟨by rw[bq,n9];exact Ob g,FP.2 ⟨C.2,?_⟩⟩;rw[BD];intro u hu;rw[n_ hu];exact(Dk w (λ_ _=>False) z B E).2
 .exact h.elim
variable{f:FuncId}{ys:List AC}{ats:Array TypeId}
theorem Uz(l:AJ F0 w0 O a w G)(hd:d<a.tmps.size){xs:Array Operand}(j:o.op=.call {callee:=.value (.func f),args:=xs,argTypes:=ats})(k:A2 xs.toList ys=X)(h:(AB.lJ f ys).wp (AO P) O (Y d) K):Am P F0 w0 a w o d K:=by
 simp [AB.wp]at h;cases g:vals O ys with
 |none=>rw[g]at h;exact h.elim|some ts=>
  rw [g]at h;simp[AS]at h;obtain⟨m,u,A⟩:=h;have hv:=Cx l k g;obtain⟨⟨E,B⟩,C⟩:=u hv.2;obtain⟨r,D,H⟩:=C w (xs.map a.eval) (by simpa using AY Q4 _ _ hv.1);refine⟨.tuple r,w,by simp[execOp,j,resolve,Act.eval,Deferred.ofValue,invoke,<-D],_,_,A,_,l.quiet (Below.refl _ _) d hd (.tp m) _ (λ_=>W) V V V ?_ B⟩
  grind [AH,Cs]
def Sh(P:Program)(t:TypeId)(n:Nat):Bool:=
 match P.underlying t with
 |some (.slice e)=>(match P.info? e with
  |some ie=>ie.size==n|none=>T)
 |_=>T
variable{n:Nat}
theorem V7(A:AJ F0 w0 O a w G)(hd:d<a.tmps.size)(k:o.op=.buildSlice t 0 #[])(g:Sh P t n=X)(h:(AB.l9 n).wp S O (Y d) K):Am P F0 w0 a w o d K:=by
 simp [AB.wp]at h;obtain⟨m,D⟩:=h;unfold Sh at g;split at g
 .rename_i e B;split at g
  .rename_i E l;have j:(execOp a.eval o).run P w=.ok (.value (.slice (Y ⟨w.heap.size,0,W⟩) 0 0)) (w.alloc (.cells #[] e)):=by
    simp [execOp,k,Instr.buildSlice,run_underlying B,sizeOf,typeInfo,l,Instr.fill,newRow]
    grind
   have C:Below w.heap.size w (w.alloc (.cells #[] e)):=(Below.refl _ _).alloc (bk _) _;refine⟨_,_,j,_,_,D,A.nO C hd m (z:=Y (w.heap.size,0*n)) (xs:=[]) ⟨V,.inr ⟨w.heap.size,0,_,e,V,heap_alloc_new w _,V,by simp[maxLen],V,V,V⟩⟩ (λb lo u=>?_) (λF' _=>rfl) V V ⟨V,trivial⟩⟩;simp at u;rw[<-u.1];exact⟨bk _,V⟩
  .cases g
 .cases g
theorem FC(e0:AA):∀(g:Ne)(O:AA)(n:Nat),AA.get (Hx e0 g O) n=if n∈g then(e0.get n).gave else O.get n
 |[],_,_=>by simp[Hx]|q::g,O,n=>by
  rw [Hx,AA.gp,FC e0 g O n]
  grind
theorem Ge(e:EV):(∃t,e=.ow t/\e.gave=.tv t)\/e.gave=.undef:=by
 cases e<;>first|exact .inl ⟨_,rfl,rfl⟩|exact .inr rfl
abbrev Sy:=Value ⊕ (Operand×Nat×Nat)
def O7:List Sy->Nat->List Sy->List Sy
 |l,_,[]=>l|l,i,y::ys=>O7 (l.set i y) (i+1) ys
def MO(place:Nat->Option (Nat×Nat)):List (Nat×Operand)->List Sy->Option (List Sy)
 |[],row=>Y row|(i,x)::ps,row=>match place i with
  |some (off,n)=>if off+n<=row.length then MO place ps (O7 row off ((List.range n).map λk=>.inr (x,k,n)))else W|none=>W
def Sy.is(a:Act):Sy->Value->Prop
 |.inl u,v=>v=u|.inr (x,k,_),v=>(a.eval x).cells[k]?=Y v
def Kw(a:Act)(row:List Sy)(xs:List Value):Prop:=xs.length=row.length/\∀(j:Nat)(s:Sy)(v:Value),row[j]?=Y s->xs[j]?=Y v->s.is a v
variable{v:Value}
theorem Vr{a:Act}{row:List Sy}{xs:List Value}(h:Kw a row xs){s:Sy}(u:s.is a v)(i:Nat):Kw a (row.set i s) (xs.set i v):=by
 refine ⟨by simp[h.1],λj l m g k=>?_⟩;rw[m?]at g k;by_cases e:i=j
 .grind
 .rw[az e]at g k;exact h.2 j l m g k
theorem Ra{a:Act}:∀{g:List Sy}{vs:List Value}{row:List Sy}{xs:List Value}(i:Nat),Kw a row xs->Kw a g vs->Kw a (O7 row i g) (Pz xs i vs)
 |[],[],_,_,_,h,_=>h|[],_::_,_,_,_,_,h=>by have:=h.1;simp at this|_::_,[],_,_,_,_,h=>by have:=h.1;simp at this|s::g,v::vs,row,xs,i,h,k=>by
  rw [O7,Pz];exact Ra (i+1) (Vr h (k.2 0 s v rfl rfl) i) ⟨by have:=k.1;simpa using this,λj l m u A=>k.2 (j+1) l m k! (by simpa using A)⟩
theorem SO{a:Act}{place:Nat->Option (Nat×Nat)}:∀{u:List (Nat×Operand)}{row g:List Sy}{xs:Array Value},Kw a row xs.toList->(∀p∈u,∀l n,place p.1=Y (l,n)->(a.eval p.2).cells.size=n)->MO place u row=Y g ->
  ∃xs',Instr.fill place xs (u.map λ(i,x)=>(i,a.eval x))=Y xs'/\Kw a g xs'.toList
 |[],row,g,xs,h,_,hf=>by
  simp [MO]at hf;subst hf;exact⟨xs,rfl,h⟩
 |(i,x)::u,row,g,xs,h,D,hf=>by
  rw [MO]at hf;split at hf
  .rename_i l n A;split at hf
   .rename_i E;have m:=D (i,x) V l n A;simp only at m;have H:=h.1;rw[oF]at H;have I:Kw a (O7 row l ((List.range n).map λk=>.inr (x,k,n))) (((a.eval x).cells.zipIdx.foldl (λcs(y:Value×Nat)=>cs.setIfInBounds (l+y.2) y.1) xs)).toList:=by
     rw [<-Array.foldl_toList,Array.toList_zipIdx,K5,oB];refine Ra l h ⟨by simp[m],λj s v B L=>?_⟩;rw[oj]at B;simp at B;obtain⟨k,M,rfl⟩:=B;have C:k=j:=by
      grind
     subst C;show(a.eval x).cells[k]?=Y v
     grind
    obtain ⟨xs',N,J⟩:=SO I (λp A=>D p (by simp[A])) hf;refine⟨xs',?_,J⟩;simp[nX,Instr.fill,A]
    grind
   .cases hf
  .cases hf
def MB:GC->Sy->Bool
 |.z c,.inl v=>Oe c v|.v y k n,.inr (x,k',n')=>AF x y&&k==k'&&n==n'|.w q,.inr (x,k',n')=>AF x (.s q)&&k'==0&&n'==1|.g q k n,.inr (x,k',n')=>AF x (.s q)&&k==k'&&n==n'|_,_=>T
def Mn:List GC->List Sy->Bool
 |[],[]=>X|g::gs,s::ss=>MB g s&&Mn gs ss|_,_=>T
def OU(x:Operand)(n:Nat):GC->Bool
 |.z _=>T|.v y _ m=>AF x y&&m==n|.w q=>AF x (.s q)&&1==n|.g q _ m=>AF x (.s q)&&m==n
def M3(place:Nat->Option (Nat×Nat))(z:List Value)(ps:List (Nat×Operand))(gs:List GC):Bool:=
 (ps.all λp=>match place p.1 with
  |some (_,n)=>gs.any (OU p.2 n)|none=>T) &&
 match MO place ps (z.map .inl)with
 |some row=>Mn gs row|none=>T
def Se(P:Program)(t:TypeId)(ps:List (Nat×Operand))(gs:List GC):Bool:=
 match P.info? t,P.underlying t with
 |some it,Y (.array _ e)=>
  match it.zero,P.info? e with
  |some z,Y ie=>M3 (λi=>Y (i*ie.size,ie.size)) z.cells.toList ps gs|_,_=>T
 |some it,Y (.struct fields)=>
  match it.zero,fields.toList.mapM (λf=>(P.info? f.type).map λi=>(f.offset,i.size))with
  |some z,Y places=>M3 (places.toArray[·]?) z.cells.toList ps gs|_,_=>T
 |_,_=>T
theorem OT:∀{gs:List GC}{k:List Sy},Mn gs k=X->k.length=gs.length/\∀(j:Nat)(g:GC),gs[j]?=Y g->∃s,k[j]?=Y s/\MB g s=X
 |[],[],_=>⟨rfl,λj g h=>by simp at h⟩|[],_::_,h=>b?
 |_::_,[],h=>b?
 |g::gs,s::k,h=>by
  rw [Mn,jP]at h;obtain⟨l,m⟩:=OT h.2
  grind
theorem QS:∀{gs:List GC}{cs:List AI},Cq O gs=Y cs->cs.length=gs.length/\∀(j:Nat)(g:GC),gs[j]?=Y g->∃c,cs[j]?=Y c/\g.cell O=Y c
 |[],cs,h=>by simp[Cq]at h;subst h;exact⟨rfl,λj g h=>by simp at h⟩|g::gs,cs,h=>by
  rw [Cq]at h;split at h
  .rename_i c cs' l k;cases h;obtain⟨m,u⟩:=QS k
   grind
  .cases h
variable{q:Nat}
theorem FA(h:AF x (.s q)=X):a.eval x=slot a q:=by
 cases x<;>simp[AF]at h;rw[h];rfl
variable{c:AI}
theorem Wn(l:AJ F0 w0 O a w G){g:GC}(h:g.cell O=Y c)(j:OU x n g=X):(a.eval x).cells.size=n:=by
 cases g with
 |z c=>cases j
 |v y k m=>
  simp [OU]at j;obtain⟨j,rfl⟩:=j;simp[GC.cell]at h;split at h
  .rename_i t B;split at h
   .rename_i u A;have:=Au (DH (Ak l j B).1).1
    grind [oF,oE]
   .cases h
  .cases h
 |w q=>
  simp [OU]at j;obtain⟨j,rfl⟩:=j;rw[FA j];have:(slot a q).oneCell'=X:=by
   simp [GC.cell]at h;split at h
   .rename_i t e;have:=AR l e V
    grind [AH,PP]
   next m es e=>have:=AR l e V;exact DO (ρ:=j8 a G) (c:=⟨X,.xl m es⟩) this
   .cases h
  rw [JX this];rfl
 |g q k m=>
  simp [OU]at j;obtain⟨j,rfl⟩:=j;rw[FA j];simp[GC.cell]at h;split at h
  .rename_i cs e;split at h
   next u=>have:=AR l e V;simp[AH]at this;obtain⟨vs,A,C,_⟩:=this;rw[A];show vs.size=m;rw[C,oE u]
   .cases h
  .cases h
theorem aH(A:AJ F0 w0 O a w G){g:GC}(h:g.cell O=Y c){s:Sy}(l:MB g s=X)(hv:s.is a v):Ar w (AP w0.heap.size F0 G) (j8 a G) (g.src.bind λp=>G p.1 p.2) c v/\c.t.WF:=by
 cases g with
 |z c'=>
  cases s with
  |inr p=>cases l
  |inl u=>
   simp [GC.cell]at h;subst h;have:v=u:=hv;subst this;exact Pb l
 |v y k m=>
  cases s with
  |inl u=>cases l
  |inr p=>
   obtain ⟨x,E,H⟩:=p;simp[MB]at l;obtain⟨⟨B,rfl⟩,_⟩:=l;have hv:(a.eval x).cells[k]?=Y v:=hv;simp[GC.cell]at h;split at h
   .rename_i t J;split at h
    next c' ε C=>cases h;obtain⟨L,M⟩:=Ak A B J;obtain⟨N,R⟩:=DH L;rw[<-oH]at hv;exact⟨⟨((A4 _ _).1 N).2 k _ _ C hv,R v (l? hv)⟩,BD.1 (D2 M) _ (l? C)⟩
    .cases h
   .cases h
 |w q=>
  cases s with
  |inl u=>cases l
  |inr p=>
   obtain ⟨x,E,H⟩:=p;simp[MB]at l;obtain⟨⟨B,rfl⟩,_⟩:=l;have hv:(a.eval x).cells[0]?=Y v:=hv;rw[FA B]at hv;have j:=A.wf q;simp[GC.cell]at h;split at h
   next t e=>cases h;have:=AR A e V;simp[AH]at this;rw[JX (PP this)]at hv;cases hv;rw[e]at j;exact⟨this.c,j⟩
   next m es e=>cases h;have:=AR A e V;have D:Ar w (AP w0.heap.size F0 G) (j8 a G) (G q W) ⟨X,.xl m es⟩ (slot a q):=this;rw[JX (DO D)]at hv;cases hv;rw[e]at j;exact⟨D,j⟩
   .cases h
 |g q k m=>
  cases s with
  |inl u=>cases l
  |inr p=>
   obtain ⟨x,E,H⟩:=p;simp[MB]at l;obtain⟨⟨B,rfl⟩,_⟩:=l;have hv:(a.eval x).cells[k]?=Y v:=hv;rw[FA B]at hv;have j:=A.wf q;simp[GC.cell]at h;split at h
   .rename_i cs e;split at h
    .have:=AR A e V;simp[AH]at this;obtain⟨vs,C,_,θ⟩:=this;rw[C]at hv;have hv:vs[k]?=Y v:=hv;obtain⟨x',I,D⟩:=θ k c h;rw[hv]at I;cases I;rw[e]at j;exact⟨D,j c (l? h)⟩
    .cases h
   .cases h
theorem AJ.regather(h:AJ F0 w0 O a w G)(hd:d<a.tmps.size){C:Ne}{cs:List AI}{vs:Array Value}(σ:Nat->Option (Nat×Option Nat))(hdq:d∉C)(δ:vs.size=cs.length)(hσ:∀j q i,σ j=Y (q,i)->q∈C)
  (R:∀j θ p,σ j=Y p->σ θ=Y p->j=θ)(hc:∀(j:Nat)(c:AI),cs[j]?=Y c->∃x,vs[j]?=Y x/\Ar w (AP w0.heap.size F0 G) (j8 a G) ((σ j).bind λp=>G p.1 p.2) c x)(hwf:∀c∈cs,c.t.WF)(hq:∀q∈C,q<a.tmps.size):
  BF F0 w0 ((d,.kC cs)::Hx O C O) (a.put (Y d) (.agg vs)) w:=by
 let A:Ay:=λp i=>if p=d then i.bind λj=>(σ j).bind λp=>G p.1 p.2 else if p∈C then W else G p i
 have I:∀p i b lo,A p i=Y (b,lo)->(∃j q k,p=d/\i=Y j/\σ j=Y (q,k)/\G q k=Y (b,lo))\/(p≠d/\p∉C/\G p i=Y (b,lo)):=by
  intro p i b lo m;simp[A]at m;split at m
  .rename_i u;cases i with
   |none=>cases m
   |some j=>
    simp at m;cases hj:σ j with
    |none=>rw[hj]at m;cases m
    |some q=>rw[hj]at m;exact .inl ⟨j,q.1,q.2,u,rfl,hj,m⟩
  grind
 have hF:∀b o,AP w0.heap.size F0 A b o->AP w0.heap.size F0 G b o:=λb o hf=>AP.mono (λp i b lo m=>by
  grind) hf
 have J:A3 w w (AP w0.heap.size F0 G) (AP w0.heap.size F0 A):=λb o v hc hf=>⟨hc,λhf'=>hf (hF b o hf')⟩;have D:j8 (a.put (Y d) (.agg vs)) A=j8 a G:=GU (A6 _ _ _) λp m=>by
  grind
 refine ⟨A,?_,?_,h.below,d!,?_,?_,?_⟩
 .intro p i p' i' b lo lo' e1 g;rcases I _ _ _ _ e1 with⟨j,q,k,rfl,rfl,η,f2⟩|⟨n1,n2,η⟩<;>rcases I _ _ _ _ g with⟨θ,q',k',rfl,rfl,ζ,g2⟩|⟨m1,m2,ζ⟩
  .obtain⟨κ,e4⟩:=h.jp _ _ _ _ _ _ _ f2 g2;subst κ;subst e4;exact⟨rfl,by rw[R j θ _ η ζ]⟩
  .obtain⟨κ,_⟩:=h.jp _ _ _ _ _ _ _ f2 ζ;exact absurd (κ▸hσ j q k η) m2
  .obtain⟨κ,_⟩:=h.jp _ _ _ _ _ _ _ g2 η;exact absurd (κ▸hσ θ q' k' ζ) n2
  .exact h.jp _ _ _ _ _ _ _ η ζ
 .intro p i b lo e1;rcases I _ _ _ _ e1 with⟨j,q,k,_,_,_,f⟩|⟨_,_,f⟩<;>exact h.lt _ _ _ _ f
 .intro p m;rw[A6]at m;rw[AA.gp,az U,FC];split
  next hm=>have:=hq p hm;omega
  .exact h.dom p m
 .intro p m;rw[A6]at m;rw[AA.gp];by_cases u:d=p
  .subst u;rw[ae rfl,Bg _ _ _ hd];simp only[AH];refine⟨_,rfl,δ,λi c hci=>?_⟩;obtain⟨x,M,hr⟩:=hc i c hci;refine⟨x,M,?_⟩;have:A d (Y i)=(σ i).bind λp=>G p.1 p.2:=by simp only[A,if_true];rfl
   rw [this,D];exact hr.kept J (λ_ _ _=>rfl) At.rfl'
  .rw[az u,AQ _ _ _ _ u,FC];split
   .rcases Ge (O.get p)with⟨t,e,g⟩|g
    .have E:=AR h e V;rw[g];simp[AH]at E|-;exact BQ J _ _ (BA.ns E (λb lo o hz ho=>Im h b lo o hz ho))
    .rw[g];simp[AH]
   .rename_i hnq;refine AH.kept J (λi=>by simp[A];rw[az (λe=>u e.symm),az hnq]) (λ_ _ _ _=>rfl) D At.rfl' (λr i k _⟨pp,H⟩=>?_) (λr off _⟨cs',l⟩=>?_) (λr i _⟨pp,H⟩=>?_) (h.slots p m)
    .have L:=AA.kf V H;have B:=FC O C O r;split at B
     .have ε:=L.2;rcases Ge (O.get r)with⟨t,_,g⟩|g<;>rw[g]at B<;>simp[AA.nat,B]at ε<;>cases ε
     .have M:∃p,O.nat r i=Y p:=⟨pp,by rw[<-L.2];exact(AA.kM B).symm⟩;exact⟨M,h.nh M (AQ _ _ _ _ L.1) (λ_ _ _ _=>rfl)⟩
    .rw[AA.gp]at l;by_cases N:d=r
     .rw[ae N]at l;cases l
     .rw[az N,FC]at l;split at l
      .rcases Ge (O.get r)with⟨t,_,g⟩|g<;>(rw[g]at l;cases l)
      .exact⟨⟨cs',l⟩,AQ _ _ _ _ N⟩
    .have L:=AA.jW V V H;have B:=FC O C O r;split at B
     .have ε:=L.2;rcases Ge (O.get r)with⟨t,_,g⟩|g<;>rw[g]at B<;>cases i<;>simp[AA.jT,B]at ε<;>cases ε
     .have M:∃p,O.jT r i=Y p:=⟨pp,by rw[<-L.2];exact(AA.kE B).symm⟩;exact⟨M,h.xv M (AQ _ _ _ _ L.1) (λ_ _=>rfl)⟩
 .intro p;rw[AA.gp];split
  .exact hwf
  .rw[FC];have:=h.wf p;split
   .rcases Ge (O.get p)with⟨t,e,g⟩|g
    .rw[e]at this;rw[g];exact this
    .rw[g];trivial
   .exact this
theorem Rm{α β:Type}{f:α->Option β}{l:List α}(g:(l.filterMap f).Nodup){i j:Nat}{p:β}(hi:(l[i]?).bind f=Y p)(u:(l[j]?).bind f=Y p):i=j:=by
 have key:∀(l:List α)(i j:Nat),(l.filterMap f).Nodup->(l[i]?).bind f=Y p->(l[j]?).bind f=Y p->i<j->False:=by
  intro l
  induction l with
  |nil=>intro i j _ h;simp at h|cons x l C=>
   intro i j g A B m;obtain⟨j,rfl⟩:∃k,j=k+1:=⟨j-1,U⟩
   grind
 grind
theorem Vz(J:AJ F0 w0 O a w G)(hd:d<a.tmps.size){D:Array (Nat×Operand)}{gs:List GC}(η:o.op=.build t D)(l:Se P t D.toList gs=X)(h:(AB.ky gs).wp S O (Y d) K):Am P F0 w0 a w o d K:=by
 simp only[AB.wp]at h;obtain⟨⟨hn,hdq⟩,h⟩:=h;cases E:Cq O gs with
 |none=>rw[E]at h;exact h.elim|some cs=>
  rw [E]at h;simp[AS]at h;obtain⟨hl,C⟩:=QS E;have key:∀(place:Nat->Option (Nat×Nat))(z:Array Value),M3 place z.toList D.toList gs=X->∃xs',Instr.fill place z (D.map λ(i,x)=>(i,a.eval x)).toList=Y xs'/\xs'.size=cs.length/\
    ∀(j:Nat)(c:AI),cs[j]?=Y c->(∃x,xs'[j]?=Y x/\Ar w (AP w0.heap.size F0 G) (j8 a G) (((gs[j]?).bind GC.src).bind λp=>G p.1 p.2) c x)/\c.t.WF:=by
   intro place z δ;unfold M3 at δ;rw[jP,oi]at δ;obtain⟨hp1,I⟩:=δ;split at I
   .rename_i row M;have h5:(D.map λ(i,x)=>(i,a.eval x)).toList=D.toList.map λ(i,x)=>(i,a.eval x):=V
    obtain ⟨xs',ζ,θ⟩:=SO (a:=a) (xs:=z) (row:=z.toList.map .inl) ⟨V,λj s v A B=>by
     rw [oj]at A;simp only[oJ]at A;obtain⟨u,hu,rfl⟩:=A;rw[hu]at B;cases B;rfl⟩ (λp hm off n L=>by
     grind [List.any_eq_true,oa,Wn]) M
    obtain ⟨m1,m2⟩:=OT I;have N:=θ.1;rw[oF]at N;refine⟨xs',by rw[h5];exact ζ,U,λj c m=>?_⟩;have hj:j<gs.length:=by have:=(n?.1 m).1;omega
    have H:gs[j]?=Y gs[j]:=nQ hj;obtain⟨c',R,hc2⟩:=C j _ H;rw[m]at R;cases R;obtain⟨s,hs1,hs2⟩:=m2 j _ H;have hx:xs'[j]?=Y (xs'[j]' U):=Array.getElem?_eq_getElem U;obtain⟨r1,r2⟩:=aH J hc2 hs2 (θ.2 j s _ hs1 (by rw[oH];exact hx));rw[H];exact⟨⟨_,hx,r1⟩,r2⟩
   .cases I
  have built:∃xs',P.built t (D.map λ(i,x)=>(i,a.eval x)).toList=Y xs'/\xs'.size=cs.length/\
    ∀(j:Nat)(c:AI),cs[j]?=Y c->(∃x,xs'[j]?=Y x/\Ar w (AP w0.heap.size F0 G) (j8 a G) (((gs[j]?).bind GC.src).bind λp=>G p.1 p.2) c x)/\c.t.WF:=by
   unfold Se at l;unfold Program.built;split at l
   .rename_i it len e A B;simp only[A,B];split at l
    next z ie hz hie=>simp only[hz,hie];exact key _ _ l
    .cases l
   .rename_i it ε A B;simp only[A,B];split at l
    next z κ hz L=>simp only[hz,L];exact key _ _ l
    .cases l
   .cases l
  obtain ⟨xs',A,B,h3⟩:=built;refine⟨.agg xs',w,by simp[execOp,η,run_build w t _ _ A],_,_,h,J.regather hd (λj=>(gs[j]?).bind GC.src) hdq B (λj q i e=>?_) (λj j' p ζ θ=>Rm hn ζ θ) (λj c m=>(h3 j c m).1) (λc m=>?_) (λq hq=>?_)⟩
  .rw[oK]at e;obtain⟨g,H,e⟩:=e;refine oo.2 ⟨g,l? H,?_⟩;cases g<;>simp[GC.src]at e<;>simp[GC.slot,e.1]
  .grind[oa]
  .obtain⟨g,H,e⟩:=oo.1 hq;obtain⟨j,hj⟩:=oa H;obtain⟨c,_,m⟩:=C j g hj;cases g with
   |z c=>cases e
   |v y k n=>cases e
   |w q'=>
    cases e;simp[GC.cell]at m;split at m
    next t e=>exact A5 J e V
    next n es e=>exact A5 J e V
    .cases m
   |g q' k n=>
    cases e;simp[GC.cell]at m;split at m
    next cs e=>exact A5 J e V
    .cases m
end
end Go.Sf
