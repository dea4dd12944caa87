/- Lists that nobody else reads: stores into them, appends, calls that turn them. -/
import Derived.Test.YtiefejhapgafkaaGreatSfRep
import Derived.Lib.AppendZerosOnto
import Derived.Maps.RangeRun
import Derived.Orders
set_option linter.all false
open Option renaming some->Y,none->W
open Bool renaming true->X,false->T
open List renaming flatMap_cons->x!,mem_of_getElem?->x?,eq_nil_of_length_eq_zero->y_,getElem?_set->y!,mem_or_eq_of_mem_set->y?,getElem?_eq_getElem->z_,mem_of_mem_take->z!,mem_of_mem_drop->z?,take_append->A_,take_of_length_le->A',map_map->A!,singleton_append->A?,map_cons->B_,flatMap_append->B',mem_append->B!,replicate->B?,replicate_succ->C_,length_replicate->C',eq_of_mem_replicate->C!,getElem?_drop->C?,getElem?_eq_some_iff->D_,getElem?_of_mem->D',size_toArray->D!,length_drop->D?,getElem?_append_left->E_,getElem?_take->E',getElem?_toArray->E!,getElem?_append_right->E?,getElem?_take_of_lt->F_,all_eq_true->F!,mem_map->F?,getElem?_map->G_,length_singleton->G!,getElem_mem->G?,take_left->H_,mem_filterMap->H',getElem?_cons_zero->H!,mem_singleton->H?,getElem?_set_ne->I_,getElem?_eq_none->I',length_set->I!,length_eq_one_iff->I?,ext_getElem?->J_,mem_cons->J',getElem?_modify->J!,mem_filter->J?,range'->K_,mapM_cons->K'
open Nat renaming lt_or_ge->K!,zero_le->K?,lt_of_lt_of_le->L_,le_trans->L',mul_le_mul_right->L!,min_eq_left->L?,mul_le_mul->M_,add_zero->M',add_sub_cancel_left->M!,sub_self->M?,sub_zero->N_,zero_add->N',eq_of_beq_eq_true->N!,add_sub_cancel->N?
open Array renaming length_toList->O_,replicate->O',getElem?_toList->O!,getElem?_map->O?,getElem?_eq_getElem->Pi,getElem?_eq_some_iff->P_,toList_modify->P',getD_eq_getD_getElem?->P!,getElem?_append->P?
open Option renaming map_some->Q_,map_eq_some_iff->Q',bind_eq_some_iff->Q!,isNone_iff_eq_none->Q?
open Bool renaming not_eq_true'->R_,noConfusion->R'
namespace Go.Sf
open Go.RowKit (Below)
def Tn:Operand->Bool
 |.const v=>N4 v|_=>T
variable{α:Type}
def gv{a:Array α}{x:α}(h:a.toList=[x]):a=#[x]:=by
 cases a;simp_all
section flat
variable{w w':World}{F F':Nat->Nat->Prop}
mutual
theorem Us:∀(t:TV),t.flat=X->∀v,A3 w F t v->A3 w' F' t v
 |.int _ _,_,_,h=>h|.bool _,_,_,h=>h|.str _,_,_,h=>h|.agg cs,hf,v,h=>by
  have:=Hh cs (by simpa[TV.flat]using hf)
  grind [A3]
 |.undef,hf,_,_=>by simp[TV.flat]at hf|.xl _ _,hf,_,_=>by simp[TV.flat]at hf|.nil,hf,_,_=>by simp[TV.flat]at hf|.list _ _,hf,_,_=>by simp[TV.flat]at hf|.pt _,hf,_,_=>by simp[TV.flat]at hf|.clo _ _,hf,_,_=>by simp[TV.flat]at hf
theorem Hh:∀(ts:Fq),TV.zt ts=X->∀vs,AR w F ts vs->AR w' F' ts vs
 |[],_,vs,h=>h|t::ts,hf,vs,h=>by
  simp [TV.zt]at hf;simp[AR]at h|-;obtain⟨v,r,g,l,A⟩:=h;exact⟨v,r,g,Us t hf.1 v l,Hh ts hf.2 r A⟩
end
def Va:∀(xs ys:Fq),TV.zt (xs++ys)=(TV.zt xs&&TV.zt ys)
 |[],ys=>by simp[TV.zt]|x::xs,ys=>by simp[TV.zt,Va xs ys,Bool.and_assoc]
def iN(t:TV)(h:t.flat=X):TV.zt t.cells=X:=by
 cases t<;>simp_all[TV.flat,TV.cells,TV.zt]
theorem OS:∀(es:Fq),TV.zt es=X->TV.zt (es.flatMap TV.cells)=X
 |[],_=>rfl|e::es,h=>by
  simp [TV.zt]at h;rw[x!,Va,iN e h.1,OS es h.2];rfl
end flat
section
variable{P:Program}{S:FuncId->Fq->BA->Prop}{F0:Nat->Nat->Prop}{w0:W0}{O:AB}{a:Act}{w:World}{G:Bh}{d:Nat}{o:Oper}{K:EV->AB->Prop}
variable{q n:Nat}
def AB.xat_of_xo{O:AB}{es:Fq}(h:O.get q=.xo n es):O.so q W=Y (n,es):=by simp[AB.so,h]
variable{x:Operand}{y:AH}
def Pz(A:AO F0 w0 O a w G)(g:AK x y=X){p:(Nat×Option Nat)×Nat×Fq}(h:y.x5 O=Y p):O.so p.1.1 p.1.2=Y (p.2.1,p.2.2)/\XV a w p.1.1 p.1.2 (a.eval x):=by
 cases y with
 |c t=>simp[AH.x5]at h|s m=>
  have B:x=.tmp m:=by
   cases x<;>simp[AK]at g;rw[g]
  subst B;simp only[AH.x5]at h;split at h
  next n es he=>simp only[p0]at h;subst h;exact⟨by simp only[AB.so,he],rfl⟩
  .rename_i q i he;split at h
   next C l=>simp only[p0]at h;subst h;have:=At A he V;simp only[AN]at this;exact⟨l,this ⟨_,l⟩⟩
   .cases h
  .cases h
variable{i:Option Nat}{v:Value}
theorem QS{es:Fq}(h:AO F0 w0 O a w G)(g:O.so q i=Y (n,es))(hv:XV a w q i v):
  (TV.list n es).WF/\∃xs,LK w n v es.length xs (G q i)/\AR w (AW w0.heap.size F0 G) (es.flatMap TV.cells) xs/\(∀e∈es,e.cells.length=n)/\∀x∈xs,x.oneCell'=X:=by
 cases i with
 |none=>
  have g:=AB.tl g;have hr:=At h g V;have l:=h.wf q;rw[g]at l;simp only[AN]at hr;simp only[XV]at hv;rw[hv];exact⟨l,hr⟩
 |some k=>
  obtain ⟨cs,B,C⟩:=AB.pr g;have hr:=At h B V;have l:=h.wf q;rw[B]at l;simp only[AN]at hr;obtain⟨b,c,θ,I,J,ε,κ,L⟩:=hr;obtain⟨η,c',ζ,A,E,H⟩:=hv;rw[I]at A;simp only[Value.pointer.injEq,p0,Addr.mk.injEq,and_true,and_self]at A;subst A;rw[J]at E;cases E;obtain⟨x,M,R⟩:=L k _ C;rw[M]at H;cases H;exact⟨l _ (x? C),R⟩
def uN{es:Fq}(h:AO F0 w0 O a w G)(A:O.so q i=Y (n,es))(hv:XV a w q i v):∀b lo,G q i=Y (b,lo)->lo=0:=by
 intro b lo g;obtain⟨_,xs,⟨B,_,l⟩,_⟩:=QS h A hv;rw[l]at g;cases B with
 |none=>simp at g|some p=>simp at g;exact g.2.symm
def mh{es:Fq}(h:AO F0 w0 O a w G)(E:O.so q i=Y (n,es))(hv:XV a w q i v)(A:es≠[]):
  ∃g cap l e xs,v=.slice (Y ⟨g,0,W⟩) es.length cap/\w.heap[g]?=Y (.cells l e (0,0))/\es.length<=cap/\cap<=maxLen/\l.size=cap*n/\l.toList.take (es.length*n)=xs/\G q i=Y (g,0)/\AR w (AW w0.heap.size F0 G) (es.flatMap TV.cells) xs/\(∀e∈es,e.cells.length=n)/\(∀x∈xs,x.oneCell'=X)/\xs.length=es.length*n:=by
 obtain ⟨_,xs,⟨δ,C,B⟩,H,I,J⟩:=QS h E hv;rcases C.2 with⟨_,L,_⟩|⟨g,cap,l,e,M,R,θ,ε,κ,η,ζ⟩
 .exact absurd (y_ L) A
 .exact⟨g,cap,l,e,xs,M,R,θ,ε,κ,η,by rw[B,ζ];rfl,H,I,J,C.1⟩
def AO.rexo(h:AO F0 w0 O a w G){es:Fq}(R:O.so q i=Y (n,es))(hv:XV a w q i v){w':World}(hb:SB (G q i) w w'){es':Fq}{xs':List Value}(ε:LK w' n v es'.length xs' (G q i))
  (hrep:Bw w w' (AW w0.heap.size F0 G) (AW w0.heap.size F0 G)->AR w' (AW w0.heap.size F0 G) (es'.flatMap TV.cells) xs')(hn:∀e∈es',e.cells.length=n)(h1:∀x∈xs',x.oneCell'=X)(hw:(TV.list n es').WF):
  AO F0 w0 (O.Aad q i n es') a w' G:=by
 obtain ⟨b1,b2,b3,b4,b5⟩:=hb;have hz0:=uN h R hv;have ζ:Bw w w' (AW w0.heap.size F0 G) (AW w0.heap.size F0 G):=by
  intro b o u hc hF;refine⟨?_,hF⟩;have δ:b<w.heap.size:=by
   grind [K!,World.cell?,Array.getElem?_eq_none]
  rw [World.cell?_of_block (w:=w) (a:=⟨b,o,W⟩) (b5 b δ (λlo C=>hF (.inr ⟨q,i,lo,C,by rw[hz0 b lo C];exact K? _⟩)))];exact hc
 have L:IA F0 w0 w':=h.below.but b1 b2 b3 b4 (Z:=λk=>∃lo,G q i=Y (k,lo)) (λb⟨lo,C⟩=>(h.lt _ _ _ _ C).2.imp id (λe o=>e o (by rw[hz0 b lo C];exact K? _))) (λk hk C=>b5 k (L_ hk h.below.size) (λlo e=>C ⟨lo,e⟩));have δ:∀s i b lo,G s i=Y (b,lo)->b<w'.heap.size/\(w0.heap.size<=b\/∀o,lo<=o->w0.E b o):=λs i b lo J=>⟨L_ (h.lt s i b lo J).1 b4,(h.lt s i b lo J).2⟩;have hxv:∀r j,(∃A,O.so r j=Y A)->∀v,XV a w r j v->XV a w' r j v:=by
  intro r j hx;cases j with
  |none=>exact λv hv=>hv|some k=>
   refine h.xv hx rfl (λb hb=>b5 b (h.lt _ _ _ _ hb).1 (λlo C=>?_));obtain⟨rfl,rfl⟩:=h.ln _ _ _ _ _ _ _ C hb;have h1:=AB.tl R
   grind [AB.pr]
 have hqsz:q<a.tmps.size:=by
  cases i with
  |none=>exact h.lts (by rw[AB.tl R];simp)|some k=>obtain⟨cs,J,_⟩:=AB.pr R;exact h.lts (by rw[J];simp)
 have hrs:BY w w' (tn a G):=by
  intro g j b lo hr;exact b5 b (h.lt _ _ _ _ hr).1 (λlo' C=>h.AbE hqsz C hr rfl)
 have hnh:∀r j,(∃A,O.nat r j=Y A)->∀k v,NH a w r j k v->NH a w' r j k v:=by
  intro r j hx k;refine h.nh hx rfl (λl b hl hb=>b5 b (h.lt _ _ _ _ hb).1 (λlo C=>?_));obtain⟨rfl,rfl⟩:=h.ln _ _ _ _ _ _ _ C hb;obtain⟨es1,hx⟩:=hx;obtain⟨cs,H,κ⟩:=AB.rr hx;rcases hl with rfl|rfl
  .rw[AB.tl R]at H;cases H
  grind [AB.pr]
 have oth:∀(p:Nat)(e:EV),p<a.tmps.size->p≠q->(∀j,(∃A,AB.nat ((q,e)::O) q j=Y A)->∃A,O.nat q j=Y A)->(∀cs,e=.bx cs->∃cs',O.get q=.bx cs')->(∀j,(∃A,AB.so ((q,e)::O) q j=Y A)->∃A,O.so q j=Y A)->AN a w' (AW w0.heap.size F0 G) G ((q,e)::O) p (O.get p) (slot a p):=by
  intro p e η hpq hnt hbx hxa;refine AN.kept ζ (λ_=>rfl) (λj b lo C=>b5 b (h.lt _ _ _ _ C).1 (λlo' hz'=>hpq (h.ln _ _ _ _ _ _ _ C hz').1)) rfl hrs (λr j k _⟨A,B⟩=>?_) (λr off _⟨cs,hcs⟩=>?_) (λr j _⟨A,B⟩=>?_) (h.slots p η)
  .have hx:∃A,O.nat r j=Y A:=by
    by_cases hqr:q=r
    .subst hqr;exact hnt j ⟨A,B⟩
    grind [AB.Aah]
   grind
  .grind[AB.d7]
  .have hx:∃A,O.so r j=Y A:=by
    by_cases hqr:q=r
    .subst hqr;exact hxa j ⟨A,B⟩
    grind [AB.Aag]
   grind
 cases i with
 |none=>
  have R:=AB.tl R;have hsz:=Bz h R V;refine⟨h.ln,δ,L,h.defers,λp η=>?_,λp η=>?_,λp=>?_⟩
  .simp only[AB.Aad];rw[AB.d7,ae U];exact h.dom p η
  .simp only[AB.Aad];rw[AB.d7];by_cases I:q=p
   .subst I;rw[ac rfl];simp only[AN];simp only[XV]at hv;rw[hv]at ε;exact⟨xs',ε,hrep ζ,hn,h1⟩
   .rw[ae I];refine oth p _ η (λe=>I e.symm) (λj⟨A,B⟩=>by obtain⟨cs,e⟩:=AB.AaG B;cases e) V (λj⟨A,B⟩=>?_);cases j with
    |none=>exact⟨(n,es),by simp only[AB.so,R]⟩|some k=>
     obtain ⟨n1,es1⟩:=A;obtain⟨cs,H,_⟩:=AB.pr B;rw[AB.d7,ac rfl]at H;cases H
  .simp only[AB.Aad];rw[AB.d7];split
   .exact hw
   .exact h.wf p
 |some k=>
  obtain ⟨cs,J,hk⟩:=AB.pr R;have hsz:=Bz h J V;have hwc:=h.wf q;rw[J]at hwc;have hr:=At h J V;simp only[AN]at hr;obtain⟨b,c,θ,e1,e2,e3,e4,e5⟩:=hr;obtain⟨b',c',T',f1,f2,f3⟩:=hv;rw[e1]at f1;simp only[Value.pointer.injEq,p0,Addr.mk.injEq,and_true,and_self]at f1;subst f1;rw[e2]at f2;cases f2;have hbb:w'.heap[b]?=w.heap[b]?:=b5 b (h.lt _ _ _ _ e4).1 (λlo C=>by
   have:=(h.ln _ _ _ _ _ _ _ C e4).2;cases this)
  refine ⟨h.ln,δ,L,h.defers,λp η=>?_,λp η=>?_,λp=>?_⟩
  .simp only[AB.Aad,J];rw[AB.d7,ae U];exact h.dom p η
  .simp only[AB.Aad,J];rw[AB.d7];by_cases I:q=p
   .subst I;rw[ac rfl];simp only[AN];refine⟨b,c,θ,e1,by rw[hbb];exact e2,by simpa using e3,e4,λj d hj=>?_⟩;rw[y!]at hj;by_cases M:k=j
    .subst M;rw[ac rfl]at hj;split at hj
     .simp only[p0]at hj;subst hj;exact⟨v,f3,xs',ε,hrep ζ,hn,h1⟩
     .cases hj
    .rw[ae M]at hj;obtain⟨x,g1,g2⟩:=e5 j d hj;exact⟨x,g1,g2.kept ζ (λb lo C=>b5 b (h.lt _ _ _ _ C).1 (λlo' hz'=>M (by
      have:=(h.ln _ _ _ _ _ _ _ hz' C).2;simpa using this))) hrs⟩
   .rw[ae I];refine oth p _ η (λe=>I e.symm) (λj⟨A,B⟩=>?_) (λ_ _=>⟨cs,J⟩) (λj⟨A,B⟩=>?_)
    .obtain⟨cs',H,κ⟩:=AB.rr B;rw[AB.d7,ac rfl]at H;simp only[EV.bx.injEq]at H;subst H;rw[y!]at κ;split at κ
     .split at κ<;>simp at κ
     .exact⟨A,by simp only[AB.nat,J,κ]⟩
    obtain ⟨n1,es1⟩:=A;cases j with
    |none=>have H:=AB.tl B;rw[AB.d7,ac rfl]at H;cases H
    |some j=>
     obtain ⟨cs',H,κ⟩:=AB.pr B;rw[AB.d7,ac rfl]at H;simp only[EV.bx.injEq]at H;subst H;rw[y!]at κ;by_cases M:k=j
     .subst M;exact⟨(n,es),R⟩
     .rw[ae M]at κ;exact⟨(n1,es1),by simp only[AB.so,J,κ]⟩
  .simp only[AB.Aad,J];rw[AB.d7];split
   .intro y hy;rcases y? hy with hy|rfl
    .exact hwc y hy
    .exact hw
   .exact h.wf p
def AO.xgo(h:AO F0 w0 O a w G){es:Fq}(hq:O.get q=.xo n es)(hd:d<a.tmps.size)(hdq:d≠q){w':World}{e:EV}{z':Option (Nat×Nat)}
  (b1:w'.os=w.os)(b2:w'.tape=w.tape)(b3:w'.output=w.output)(b4:w.heap.size<=w'.heap.size)(b5:∀k,k<w.heap.size->(∀lo,G q W≠Y (k,lo))->w'.heap[k]?=w.heap[k]?)
  (A:∀b lo,z'=Y (b,lo)->b<w'.heap.size/\(w.heap.size<=b\/∃l,G q W=Y (b,l)))
  (hnb:∀cs,e≠.bx cs)(hno:(∃n es,e=.xo n es)->O.gt d=X)
  (hrep:∀(F':Nat->Nat->Prop)(L:Bh)(env':AB)(a':Act),Bw w w' (AW w0.heap.size F0 G) F'->L d W=z'->(∀b o,F' b o->b<w.heap.size\/∃lo,z'=Y (b,lo))->AN a' w' F' L env' d e v)(hw:e.WF):
  CE F0 w0 ((d,e)::(q,.undef)::O) (a.put (Y d) v) w':=by
 let L:Bh:=K9 (K9 G q (λ_=>W)) d (λi=>if i=W then z' else W)
 have η:=uN h (AB.xat_of_xo hq) (v:=slot a q) rfl;have J:∀p i b lo,L p i=Y (b,lo)->(p=d/\i=W/\z'=Y (b,lo))\/(p≠d/\p≠q/\G p i=Y (b,lo)):=by
  intro p i b lo κ;by_cases E:p=d
  .grind[CP]
  .simp[L,Bb _ _ _ _ E]at κ;by_cases hpq:p=q
   .grind[CP]
   .rw[Bb _ _ _ _ hpq]at κ
    grind
 have hag:Bw w w' (AW w0.heap.size F0 G) (AW w0.heap.size F0 L):=by
  intro b o u hc hF;have hlt:b<w.heap.size:=World.block_lt_of_cell? w ⟨b,o,W⟩ hc;have hnz:∀lo,G q W≠Y (b,lo):=λlo H=>hF (.inr ⟨q,W,lo,H,by rw[η b lo H];exact K? _⟩);refine⟨?_,?_⟩
  .grind[World.cell?_of_block]
  .rintro(R|⟨p,i,lo,R,ε⟩)
   .exact hF (.inl R)
   .rcases J _ _ _ _ R with⟨_,_,M⟩|⟨_,_,M⟩
    .grind
    .exact hF (.inr ⟨p,i,lo,M,ε⟩)
 refine ⟨L,?_,?_,h.below.but b1 b2 b3 b4 (Z:=λk=>∃lo,G q W=Y (k,lo)) (λb⟨lo,H⟩=>(h.lt _ _ _ _ H).2.imp id (λe o=>e o (by rw[η b lo H];exact K? _))) (λk hk H=>b5 k (L_ hk h.below.size) (λlo e=>H ⟨lo,e⟩)),g?,?_,?_,?_⟩
 .intro p i p' i' b lo l M e2;have other:∀p i lo l,z'=Y (b,lo)->p≠q->G p i=Y (b,l)->False:=by
   intro p i lo l I δ f3;rcases(A _ _ I).2 with ζ|⟨lo'',ζ⟩
   .have:=(h.lt _ _ _ _ f3).1;omega
   .exact δ (h.ln _ _ _ _ _ _ _ f3 ζ).1
  rcases J _ _ _ _ M with⟨rfl,rfl,I⟩|⟨n1,n2,I⟩<;>rcases J _ _ _ _ e2 with⟨rfl,rfl,δ⟩|⟨m1,m2,δ⟩
  .exact⟨rfl,rfl⟩
  .exact(other _ _ _ _ I m2 δ).elim
  .exact(other _ _ _ _ δ n2 I).elim
  .exact h.ln _ _ _ _ _ _ _ I δ
 .intro p i b lo M;rcases J _ _ _ _ M with⟨_,_,I⟩|⟨_,_,I⟩
  .refine⟨(A _ _ I).1,?_⟩;rcases(A _ _ I).2 with ζ|⟨l,ζ⟩
   .exact .inl (L' h.below.size ζ)
   .exact(h.lt _ _ _ _ ζ).2.imp id (λe o _=>e o (by rw[η _ _ ζ];exact K? _))
  .exact⟨L_ (h.lt _ _ _ _ I).1 b4,(h.lt _ _ _ _ I).2⟩
 .intro p κ;rw[Bx]at κ;have:=Bz h hq V;rw[AB.d7,ae U,AB.d7,ae U];exact h.dom p κ
 .intro p κ;rw[Bx]at κ;rw[AB.d7];by_cases E:d=p
  .subst E;rw[ac rfl,C7 _ _ _ hd];refine hrep _ _ _ _ hag (by simp[L,CP]) λb o hf=>?_;rcases hf with R|⟨p,i,lo,R,_⟩
   .exact .inl (L_ R.1 h.below.size)
   .rcases J _ _ _ _ R with⟨_,_,M⟩|⟨_,_,M⟩
    .exact .inr ⟨lo,M⟩
    .exact .inl (h.lt _ _ _ _ M).1
  .rw[ae E,AZ _ _ _ _ E,AB.d7];split
   .trivial
   .rename_i hqp;refine AN.kept hag (λi=>by simp[L];rw[Bb _ _ _ _ (λe=>E e.symm),Bb _ _ _ _ (λe=>hqp e.symm)]) (λi b lo H=>b5 b (h.lt _ _ _ _ H).1 (λl A=>hqp (h.ln _ _ _ _ _ _ _ A H).1)) (ON (Bx _ _ _) λr hr=>by
     have:=Bz h hq V;simp[L];rw[Bb _ _ _ _ U,Bb _ _ _ _ U]) (λg j b lo hr=>by
     exact b5 b (h.lt _ _ _ _ hr).1 (λl H=>h.AbE (Bz h hq V) H hr rfl)) (λr i k hr⟨pp,θ⟩=>?_) (λr off _⟨cs,B⟩=>?_) (λr i hr⟨pp,θ⟩=>?_) (h.slots p κ)
    .have R:=AB.x7 hnb θ;have ε:=AB.x7 V R.2;exact⟨⟨pp,ε.2⟩,h.nh ⟨pp,ε.2⟩ (AZ _ _ _ _ R.1) (λ_ b _ hb=>b5 b (h.lt _ _ _ _ hb).1 (λl A=>ε.1 (h.ln _ _ _ _ _ _ _ A hb).1))⟩
    .rw[AB.d7]at B;by_cases C:d=r
     .rw[ac C]at B;exact absurd B (hnb cs)
     .rw[ae C,AB.d7]at B;split at B
      .cases B
      .exact⟨⟨cs,B⟩,AZ _ _ _ _ C⟩
    .by_cases C:d=r
     .subst C;have hno':O.gt d=X:=by
       grind [AB.AaV]
      have hx:=AB.AaW d O hno' p;rcases hr with hr|⟨c,hr⟩
      .exact absurd hr (hx.1 i)
      .exact absurd hr (hx.2 i c)
     .rw[AB.Aag C]at θ;have ε:=AB.sc V V θ;exact⟨⟨pp,ε.2⟩,h.xv ⟨pp,ε.2⟩ (AZ _ _ _ _ C) (λb hb=>b5 b (h.lt _ _ _ _ hb).1 (λl A=>ε.1 (h.ln _ _ _ _ _ _ _ A hb).1))⟩
 .intro p;rw[AB.d7];split
  .exact hw
  .rw[AB.d7];split
   .trivial
   .exact h.wf p
variable{s:Nat}
theorem gj(l:AO F0 w0 O a w G)(hd:d<a.tmps.size)(g:o.op=.move (.tmp s)\/o.op=.assign (.tmp s))(h:(AF.xal s).wp S O (Y d) K):BI P F0 w0 a w o d K:=by
 simp only[AF.wp]at h;split at h
 .rename_i n es B;refine⟨slot a s,w,by rcases g with g|g<;>simp[execOp,g,show a.eval (.tmp s)=slot a s from rfl],_,_,h,_,l.quiet (Below.refl _ _) d hd (.la s W) _ (λ_=>W) V V V ?_ trivial⟩;simp only[AN];rintro⟨p,A⟩;have C:=AB.sc V V A
  grind [XV,AZ]
 .exact h.elim
variable{t e:TypeId}
theorem pw(l:AO F0 w0 O a w G)(hd:d<a.tmps.size)(A:o.op=.call {callee:=.builtin .len,args:=#[x],argTypes:=#[t]})(B:AK x y=X)
  (he:P.underlying t=Y (.slice e))(h:(AF.Abt y).wp S O (Y d) K):BI P F0 w0 a w o d K:=by
 simp only[AF.wp]at h;cases C:y.x5 O with
 |none=>rw[C]at h;exact h.elim|some p=>
  rw [C]at h;simp only[A0]at h;obtain⟨I,J⟩:=Pz l B C;obtain⟨L,hr⟩:=QS l I J;simp only[TV.WF,LY]at L;obtain⟨xs,⟨R,M,_⟩,_⟩:=hr;have hv:∃E cap,a.eval x=.slice E p.2.2.length cap:=by
   rcases M.2 with⟨H,θ,_⟩|⟨g,cap,_,_,H,_⟩
   .grind
   .exact⟨_,_,H⟩
  obtain ⟨E,cap,hv⟩:=hv;refine C2 l hd (v:=.int .i64 p.2.2.length) (t:=.int .i64 p.2.2.length) ?_ rfl ⟨j_,t?⟩ h;simp[execOp,A,resolve,invoke,builtin,Builtin.len_,run_underlying he,hv,goInt]
variable{j:AH}
theorem tF(l:AO F0 w0 O a w G)(hd:d<a.tmps.size){x i:Operand}(I:o.op=.indexAddr t x i)(J:AK x y=X)(A:AK i j=X)(E:KZ P t=Y n)(h:(AF.xia y j n).wp S O (Y d) K):BI P F0 w0 a w o d K:=by
 simp only[AF.wp]at h;cases L:y.x5 O with
 |none=>rw[L]at h;exact h.elim|some p=>
  obtain ⟨⟨q,δ⟩,m,es⟩:=p;rw[L]at h;simp only[A0]at h;split at h
  .rename_i k H η;obtain⟨⟨_,rfl⟩,h0,θ,hK⟩:=h;obtain⟨hq,ε⟩:=Pz l J L;have B:=BF l A η;simp only[A3]at B;obtain⟨g,cap,cur,e,xs,κ,_⟩:=mh l hq ε (by rintro rfl;simp at θ;omega);unfold KZ at E;split at E
   .rename_i el ζ;have M:0<=H/\H<(es.length:Int):=⟨h0,θ⟩;refine⟨.pointer (Y ⟨g,H.toNat*m,W⟩),w,?_,_,_,hK,_,l.quiet (Below.refl _ _) d hd (.lp q δ (H.toNat*m)) _ (λ_=>W) V V V ?_ trivial⟩
    .simp[execOp,I,κ,B.1,Instr.indexAt,asIntOf,run_underlying ζ,M,CW E,Addr.add_lit]
    .simp only[AN];rintro⟨pp,R⟩;have C:=AB.sc V V R;exact⟨g,_,_,l.xv ⟨_,C.2⟩ (AZ _ _ _ _ C.1) (λ_ _=>rfl) _ (by rw[<-κ];exact ε),rfl⟩
   .cases E
  .exact h.elim
def lR(A:AO F0 w0 O a w G)(h:AK x y=X){q c:Nat}{p:Nat×Fq}(l:y.ev O=.lp q i c)(B:O.so q i=Y p):∃g len cap,XV a w q i (.slice (Y ⟨g,0,W⟩) len cap)/\a.eval x=.pointer (Y ⟨g,c,W⟩):=by
 cases y with
 |c t=>simp[AH.ev]at l|s m=>
  have C:x=.tmp m:=by
   cases x<;>simp[AK]at h;rw[h]
  subst C;simp only[AH.ev]at l;have:=At A l V;simp only[AN]at this;exact this ⟨p,B⟩
theorem tE(A:AO F0 w0 O a w G)(hd:d<a.tmps.size){f k:Nat}(B:o.op=.fieldAddr t x f)(C:AK x y=X)(H:Q1 P t f=Y k)(h:(AF.xfa y k).wp S O (Y d) K):BI P F0 w0 a w o d K:=by
 simp only[AF.wp]at h;split at h
 .rename_i q i c I;split at h
  next R J=>obtain⟨g,len,cap,L,M⟩:=lR A C I J;refine⟨.pointer (Y ⟨g,c+k,W⟩),w,by simp[execOp,B,M,WA H],_,_,h,_,A.quiet (Below.refl _ _) d hd (.lp q i (c+k)) _ (λ_=>W) V V V ?_ trivial⟩;simp only[AN];rintro⟨θ,E⟩;have l:=AB.sc V V E;exact⟨g,_,_,A.xv ⟨_,l.2⟩ (AZ _ _ _ _ l.1) (λ_ _=>rfl) _ L,rfl⟩
  .exact h.elim
 .exact h.elim
theorem tG(B:AO F0 w0 O a w G)(hd:d<a.tmps.size)(C:o.op=.load t x)(E:AK x y=X)(ε:CO P t=Y T)(h:(AF.xld y).wp S O (Y d) K):BI P F0 w0 a w o d K:=by
 simp [AF.wp]at h;split at h
 .rename_i q i c κ;split at h
  .rename_i η H;obtain⟨n,es⟩:=η;simp only at h;cases A:(es.flatMap TV.cells)[c]? with
   |none=>rw[A]at h;exact h.elim|some t'=>
    rw [A]at h;simp[A0]at h;have I:es≠[]:=by rintro rfl;simp at A
    obtain ⟨g,len,cap,L,e2⟩:=lR B E κ H;obtain⟨g',M,J,e,xs,R,f2,f3,f4,f5,f6,f7,θ,f9,f10,f11⟩:=mh B H L I;simp at R;obtain⟨rfl,rfl,rfl⟩:=R;have ζ:c<(es.flatMap TV.cells).length:=by
     grind
    have δ:=BX θ;obtain⟨y,hx⟩:∃y,xs[c]?=Y y:=⟨_,z_ U⟩;have l:w.cell? ⟨g,c,W⟩=Y y:=by
     rw [cell_of_row w g c J e (0,0) f2]
     grind
    have hw:=(QS B H L).1;refine C2 B hd (v:=y) ?_ (((Bt _ _).1 θ).2 c t' _ A hx) ?_ h
    .simp[execOp,C,e2,Instr.loadAt,Instr.sureAddr,loadVar,C4 ε,l]
    .have:=hw.2;rw[CC]at this;have hm:=x? A
     grind [CC,JC]
  .exact h.elim
 .exact h.elim
def im{t:TV}(h:TV.pq t.cells):t.WF:=by
 cases t<;>simp[TV.cells,TV.pq]at h<;>first|exact h|(simp[TV.WF];exact h)
def g9{es:Fq}(h:TV.pq es):TV.pq (es.flatMap TV.cells):=by grind[CC,JC]
theorem WI:∀{es:Fq},TV.pq (es.flatMap TV.cells)->TV.pq es
 |[],_=>trivial|e::es,h=>by
  rw [x!]at h;rw[Lw]at h;exact⟨im h.1,WI h.2⟩
variable{ts:Fq}
theorem iX{w:World}{F:Nat->Nat->Prop}{xs:List Value}(h:AR w F ts xs)(c:Nat):AR w F (ts.take c) (xs.take c):=by
 rw [Bt]at h|-
 grind
theorem iW{w:World}{F:Nat->Nat->Prop}{xs:List Value}(h:AR w F ts xs)(c:Nat):AR w F (ts.drop c) (xs.drop c):=by
 rw [Bt]at h|-
 grind
variable{m:Nat}
theorem tH(E:AO F0 w0 O a w G){x v:Operand}{x' v':AH}(J:o.op=.store t x v)(hx:AK x x'=X)(hv:AK v v'=X)(hn:DI P t=Y m)(h:(AF.xst x' v' m).wp S O W K):Iu P F0 w0 a w o K:=by
 simp [AF.wp]at h;split at h
 .rename_i q i c hy;split at h
  .rename_i n es u I hu;obtain⟨⟨h1,h0⟩,h2,es',h3,C,h5,hK⟩:=h;obtain⟨g,len,cap,η,e2⟩:=lR E hx hy I;have H:=(QS E I η).1;have L:=BF E hv (t:=u) (by simp[AH.val,hu,EV.val]);have h6:TV.pq es':=by
    have h7:=g9 H.2
    grind [TV.pq,TV.cells,CC,z!,JC,z?,WI]
   have M:es≠[]:=by rintro rfl;simp at h2;omega
   obtain ⟨g',cap',l,e,xs,f1,f2,f3,f4,f5,f6,f7,f8,f9,f10,ζ⟩:=mh E I η M;simp at f1;obtain⟨rfl,rfl,rfl⟩:=f1;obtain⟨k2,k3⟩:=Hi L.1;obtain⟨ys,δ⟩:∃ys,(a.eval v).cells.toList=ys:=⟨_,rfl⟩;rw[δ]at k2 k3;have B:ys.length=m:=by rw[BX k2,h1]
   have hcc:c+m<=l.size:=by rw[f5];exact L' h2 (L! _ f3)
   have A:=run_storeCells_at P g c e ys 0 l w f2 U k3;simp at A;have R:(a.eval v).cells.size=m:=by rw[<-O_,δ,B]
   have θ:(execOp a.eval o).run P w=.ok .skip (w.setRow g (l.toList.take c++ys++l.toList.drop (c+m)).toArray):=by
    rw [B]at A;simp[execOp,J,e2,Instr.storeAt,Instr.sureAddr,storeVar,CW hn,R,δ,A]
   refine ⟨_,θ,_,hK,G,?_⟩;have ε:xs.length=es.length*n:=ζ;refine E.rexo I η (w':=w.setRow g (l.toList.take c++ys++l.toList.drop (c+m)).toArray) (xs':=xs.take c++ys++xs.drop (c+m)) ⟨rfl,rfl,rfl,V,λk _ hk=>setRow_other w g k _ (λe=>hk 0 (by rw[e];exact f7))⟩ ⟨Y (g,es.length*n),⟨by simp[B,ε,C];omega,.inr ⟨g,cap,_,e,by rw[C],setRow_heap w g l _ e _ f2,by rw[C];exact f3,f4,?_,?_,by rw[C]⟩⟩,by rw[f7];rfl⟩ (λhag=>?_) h5 (λx hx=>?_) ⟨by rw[C];exact H.1,h6⟩
   .grind
   .rw[C,<-f6];have κ:c<=l.toList.length:=by rw[O_];omega
    have hA:(l.toList.take c++ys).length=c+m:=by rw[b6,bk,B,L? κ]
    show (l.toList.take c++ys++l.toList.drop (c+m)).take (es.length*n)=_
    grind [A_,A',L?,List.drop_take]
   .grind[A6,JS,iX,iW]
   grind
  .exact h.elim
 .exact h.elim
theorem gh(B:AO F0 w0 O a w G)(hd:d<a.tmps.size)(g:o.op=.move (.tmp s)\/o.op=.assign (.tmp s))(h:(AF.rel s).wp S O (Y d) K):BI P F0 w0 a w o d K:=by
 simp [AF.wp]at h;split at h
 .rename_i ε n es A C;simp at A;subst A;obtain⟨E,L⟩:=h;have hr:=At B C V;have H:=B.wf s;rw[C]at H;simp[AN]at hr;obtain⟨xs,⟨M,κ,l⟩,η,ζ,δ⟩:=hr;refine⟨slot a s,w,by rcases g with g|g<;>simp[execOp,g,show a.eval (.tmp s)=slot a s from rfl],_,_,L,B.xgo C hd E (z':=M) rfl rfl rfl (az _) (λ_ _ _=>rfl) (λb lo I=>?_) V V (λF' R env' a' J θ _=>?_) H⟩
  .rw[I]at l;exact⟨(B.lt _ _ _ _ l).1,.inr ⟨_,l⟩⟩
  grind [AN,CI,A6]
 .exact h.elim
theorem gi(A:AO F0 w0 O a w G)(hd:d<a.tmps.size)(g:o.op=.move (.tmp s)\/o.op=.assign (.tmp s))(h:(AF.tkx s).wp S O (Y d) K):BI P F0 w0 a w o d K:=by
 simp [AF.wp]at h;split at h
 .rename_i θ n es l B;simp at l;subst l;obtain⟨C,E,L⟩:=h;have hr:=At A B V;have I:=A.wf s;rw[B]at I;simp[AN]at hr;obtain⟨xs,ε,κ,η,ζ⟩:=hr;refine⟨slot a s,w,by rcases g with g|g<;>simp[execOp,g,show a.eval (.tmp s)=slot a s from rfl],_,_,L,A.xgo B hd E (z':=G s W) rfl rfl rfl (az _) (λ_ _ _=>rfl) (λb lo H=>⟨(A.lt _ _ _ _ H).1,.inr ⟨_,H⟩⟩) V (λ_=>C) (λF' M env' a' J R _=>?_) I⟩
  grind [AN,A6]
 .exact h.elim
variable{z:Option (Nat×Nat)}
def AO.AbW(h:AO F0 w0 O a w G){w':World}(hb:Below w.heap.size w w')(hd:d<a.tmps.size)(E:O.gt d=X){es:Fq}{xs:List Value}(l:Gv w' n v es.length xs z)
  (H:∀b lo,z=Y (b,lo)->w.heap.size<=b/\b<w'.heap.size)
  (A:∀F',(∀b o,F' b o->(b<w.heap.size/\AW w0.heap.size F0 G b o)\/∃lo,z=Y (b,lo))->AR w' F' (es.flatMap TV.cells) xs)(I:∀e∈es,e.cells.length=n)(J:∀x∈xs,x.oneCell'=X)(L:(TV.list n es).WF):
  CE F0 w0 ((d,.xo n es)::O) (a.put (Y d) v) w':=by
 refine ⟨_,h.quiet hb d hd (.xo n es) v (λi=>if i=W then z.map (λp=>(p.1,0))else W) (λi b lo hi=>?_) (λi R b lo M g C=>?_) (λ_=>E) ?_ L⟩
 .split at hi
  .cases z with
   |none=>simp at hi|some p=>
    simp at hi;exact hi.1▸H p.1 p.2 rfl
  .cases hi
 .split at g
  .split at C
   .simp_all
   .cases C
  .cases g
 .simp[AN];refine⟨xs,⟨z,l,by rw[CP];simp⟩,A _ (λb o hf=>?_),I,J⟩;rcases hf with hf|⟨p,i,lo,g,C⟩
  .exact .inl ⟨L_ hf.1 h.below.size,.inl hf⟩
  .by_cases B:p=d
   .subst B;rw[CP]at g;split at g
    .cases z with
     |none=>simp at g|some q=>
      simp at g;exact .inr ⟨q.2,by rw[<-g.1]⟩
    .cases g
   .rw[Bb _ _ _ _ B]at g;exact .inl ⟨(h.lt _ _ _ _ g).1,.inr ⟨p,i,lo,g,C⟩⟩
theorem bl(A:AO F0 w0 O a w G)(hd:d<a.tmps.size)(g:o.op=.move x\/o.op=.assign x)(B:∃v,x=.const v/\N4 v=X)(h:(AF.Abh n).wp S O (Y d) K):BI P F0 w0 a w o d K:=by
 simp [AF.wp]at h;obtain⟨l,C⟩:=h;obtain⟨v,rfl,hv⟩:=B;have hv:=LA hv;subst hv;refine⟨.slice W 0 0,w,by rcases g with g|g<;>simp[execOp,g,Act.eval],_,_,C,A.AbW (Below.refl _ _) hd l (z:=W) (xs:=[]) ⟨V,.inl ⟨rfl,rfl,rfl⟩⟩ V (λ_ _=>rfl) V V ⟨V,trivial⟩⟩
variable{f:FuncId}{ats:Array TypeId}
theorem mX(I:AO F0 w0 O a w G)(hd:d<a.tmps.size)(A:o.dst=Y d){xs:Array Operand}{ys:List AH}(ε:o.op=.call {callee:=.value (.func f),args:=xs,argTypes:=ats})(κ:Br xs.toList ys=X)(h:(AF.AaE f ys).wp (AV P) O (Y d) K)
  {next:Act->World->Prop}{Q:Exit->Act->World->Prop}(hn:∀e env' a' w',K e env'->SC a d a'->CE F0 w0 ((d,e)::env') a' w'->next a' w'):o.wp P a w next Q:=by
 simp [AF.wp]at h;obtain⟨δ,h⟩:=h;cases g:vals O ys with
 |none=>rw[g]at h;exact h.elim|some ts=>
  rw [g]at h;simp[A0]at h;obtain⟨n,es,C,hK⟩:=h;have hv:=Gh I κ g;have B:(execOp a.eval o).run P w=(callFunc f (xs.map a.eval)).run P w:=by simp[execOp,ε,resolve,Act.eval,Deferred.ofValue,invoke]
  have key:EG P f=X/\(TV.list n es).WF/\Calls P f (xs.map a.eval) w λe w'=>∃v z us,e=.returned v/\Below w.heap.size w w'/\Gv w' n v es.length us z/\(∀F',(∀b o,F' b o->(b<w.heap.size/\AW w0.heap.size F0 G b o)\/∃lo,z=Y (b,lo))->AR w' F' (es.flatMap TV.cells) us)/\(∀e∈es,e.cells.length=n)/\(∀x∈us,x.oneCell'=X)/\∀b lo,z=Y (b,lo)->w.heap.size<=b/\b<w'.heap.size:=by
   rcases C with C|⟨C,hfl⟩
   .obtain⟨E,h3⟩:=(C.to0 rfl) hv.2;obtain⟨l,H⟩:=h3 (AW w0.heap.size F0 G) w (xs.map a.eval) m_ I.below.now;refine⟨E,l,H.mono ?_⟩;rintro e w' ⟨v,rfl,hb,z,us,J,L,M,R,θ⟩;exact⟨v,z,us,rfl,hb,J,λF' η=>A6 (λb o u hc hf=>⟨hc,λζ=>hf (η b o ζ)⟩) _ _ L,M,R,θ⟩
   .obtain⟨E,h3⟩:=(C.to0 rfl) hv.2;obtain⟨l,H⟩:=h3 (AW w0.heap.size F0 G) w (xs.map a.eval) m_ I.below.now;refine⟨E,l,H.mono ?_⟩;rintro e w' ⟨v,rfl,hb,z,⟨us,J,L,M,R⟩,θ⟩
    grind [Hh,OS]
  obtain ⟨E,l,H⟩:=key;unfold Oper.wp;rw[B,FM E _,Oper.upon_enter];refine H.mono ?_;rintro e w' ⟨v,z,us,rfl,hb,J,L,M,R,θ⟩;simp[A];exact hn _ _ _ _ (hK l) ⟨_,rfl⟩ (I.AbW hb hd δ J θ L M R l)
theorem mU(A:AO F0 w0 O a w G)(hd:d<a.tmps.size)(H:o.dst=Y d){xs:List Operand}{ys:List AH}(θ:o.op=.call {callee:=.value (.func f),args:=(x::xs).toArray,argTypes:=ats})(ε:AK x y=X)(I:Br xs ys=X)(h:(AF.AaB f y ys).wp (AV P) O (Y d) K)
  {next:Act->World->Prop}{Q:Exit->Act->World->Prop}(hn:∀e env' a' w',K e env'->SC a d a'->CE F0 w0 ((d,e)::env') a' w'->next a' w'):o.wp P a w next Q:=by
 simp only[AF.wp]at h;cases η:y.x5 O with
 |none=>rw[η]at h;exact h.elim|some p=>
  obtain ⟨⟨q,i⟩,m,es⟩:=p;rw[η]at h;simp only[A0]at h;obtain⟨rfl,h⟩:=h;cases B:vals O ys with
  |none=>rw[B]at h;exact h.elim|some ts=>
  rw [B]at h;obtain⟨zs,C,us,rfl,⟨E,ts2,g,hc,L,hS⟩,hK⟩:=h;simp only[List.cons.injEq,TV.list.injEq,true_and]at g;obtain⟨g,rfl⟩:=g;have ζ:E=zs:=by
   have:=congrArg (List.map λt=>match t with|.int _ n=>n|_=>0) g;simpa[A!,Function.comp_def]using this.symm
  subst ζ;obtain⟨hq,hx⟩:=Pz A ε η;obtain⟨hwq,xs',h1,h2,h3,h4⟩:=QS A hq hx;obtain⟨hv,hvw⟩:=Gh A I B;have δ:xs'=E.map (Value.int .i64):=by
   have:∀(zs:Fp)(xs:List Value),AR w (AW w0.heap.size F0 G) ((zs.map (TV.int .i64)).flatMap TV.cells) xs->xs=zs.map (Value.int .i64):=by
    intro zs
    induction zs with
    |nil=>intro xs h;exact h|cons z zs ih=>
     grind [TV.cells,A?,AR,A3]
   exact this E xs' h2
  subst δ;have J:(execOp a.eval o).run P w=(callFunc f (a.eval x::xs.map a.eval).toArray).run P w:=by simp[execOp,θ,resolve,Act.eval,Deferred.ofValue,invoke]
  unfold Oper.wp;rw[J,FM hc _,Oper.upon_enter];refine(hS _ w (a.eval x) _ (G q i) hwq hvw (by simpa using h1) hv (λb lo o R κ=>.inr ⟨q,i,lo,R,κ⟩) (λb lo R=>⟨(A.lt _ _ _ _ R).1,A.low R⟩) A.below.now).mono ?_;rintro e w' ⟨⟨M,l⟩,⟨r,rfl,hu⟩,r1,r2⟩;simp only[H];have hI':=A.rexo hq hx r2 (es':=C.map (TV.int .i64)) (xs':=C.map (Value.int .i64)) (by rw[c9,M];exact r1) (λ_=>?_) (by simp[TV.cells]) k_ l.1
  .have hun:∀F,RW w' F us r:=λF=>by
    rcases us with _|⟨t,_|⟨t',us⟩⟩
    .exact hu
    .exact Us t (by simpa[TV.zt]using L) _ hu
    .obtain⟨vs,e1,e2⟩:=hu;exact⟨vs,e1,Hh _ L _ e2⟩
   rcases us with _|⟨t,_|⟨t',us⟩⟩
   all_goals
    refine hn _ _ _ _ (hK l) ⟨_,rfl⟩ ⟨_,hI'.quiet (Below.refl _ _) d hd (EV.ofs _) _ (λ_=>W) (by simp[EV.ofs]) (by simp[EV.ofs]) (by simp[EV.ofs]) ?_ ?_⟩
    .simp only[EV.ofs,AN];exact hun _
    .first|exact trivial|exact l.2.1|exact l.2
  .have:∀(zs:Fp),AR w' (AW w0.heap.size F0 G) ((zs.map (TV.int .i64)).flatMap TV.cells) (zs.map (Value.int .i64)):=by
    intro zs
    induction zs with
    |nil=>rfl|cons z zs ih=>
     grind [TV.cells,A?,AR,A3]
   exact this C
def aq{w:World}{F:Nat->Nat->Prop}:∀(zs:Fp),AR w F ((zs.map (TV.int .i64)).flatMap TV.cells) (zs.map (Value.int .i64))
 |[]=>rfl|z::zs=>by
  simp only[B_,x!,TV.cells,A?,AR,A3];exact⟨_,_,rfl,rfl,aq zs⟩
def bc{w:World}{F:Nat->Nat->Prop}:∀(zs:Fp)(xs:List Value),AR w F ((zs.map (TV.int .i64)).flatMap TV.cells) xs->xs=zs.map (Value.int .i64)
 |[],xs,h=>h|z::zs,xs,h=>by
  simp [TV.cells,AR,A3]at h;obtain⟨v,r,rfl,rfl,h⟩:=h;rw[bc zs r h];rfl
theorem mP(l:AO F0 w0 O a w G)(hd:d<a.tmps.size)(A:o.dst=Y d)(H:o.op=.call {callee:=.value (.func f),args:=#[x],argTypes:=ats})(I:AK x y=X)(h:(AF.AaY f y).wp (AV P) O (Y d) K)
  {next:Act->World->Prop}{Q:Exit->Act->World->Prop}(hn:∀e env' a' w',K e env'->SC a d a'->CE F0 w0 ((d,e)::env') a' w'->next a' w'):o.wp P a w next Q:=by
 simp only[AF.wp]at h;cases L:y.x5 O with
 |none=>rw[L]at h;exact h.elim|some p=>
  obtain ⟨⟨q,i⟩,m,es⟩:=p;rw[L]at h;simp only[A0]at h;obtain⟨⟨θ,rfl⟩,rfl,ε,zs,κ,rfl,⟨η,C,hc,g,hS⟩,hK⟩:=h;simp only[List.cons.injEq,TV.list.injEq,true_and,and_true]at C;have M:η=zs:=by
   have:=congrArg (List.map λt=>match t with|.int _ n=>n|_=>0) C;simpa[A!,Function.comp_def]using this.symm
  subst M;obtain⟨E,δ⟩:=Pz l I L;replace E:=AB.tl E;simp only[XV]at δ;replace g:=g (by have:=l.wf q;rw[E]at this;exact this);have hr:=At l E V;simp only[AN]at hr;obtain⟨xs,h1,h2,h3,h4⟩:=hr;have R:=bc _ _ h2;subst R;have B:(execOp a.eval o).run P w=(callFunc f #[slot a q]).run P w:=by simp[execOp,H,resolve,Act.eval,Deferred.ofValue,invoke,<-δ]
  unfold Oper.wp;rw[B,FM hc _,Oper.upon_enter];refine(hS w (slot a q) (G q W) (by simpa using h1)).mono ?_;rintro e w' ⟨v',rfl,r1,r2⟩;simp only[A];obtain⟨b1,b2,b3,b4,b5⟩:=r2;refine hn _ _ _ _ (hK g) ⟨_,rfl⟩ (l.xgo E hd (λe=>θ e.symm) (z':=G q W) b1 b2 b3 b4 (λk J hk=>b5 k J hk) (λb lo ζ=>⟨L_ (l.lt _ _ _ _ ζ).1 b4,.inr ⟨_,ζ⟩⟩) V (λ_=>ε) (λF' G' env' a' hag hG _=>?_) g);simp only[AN];rw[hG];exact⟨_,by simpa using r1,aq κ,by simp[TV.cells],k_⟩
theorem pR(δ:AO F0 w0 O a w G)(hd:d<a.tmps.size){i:TypeInfo}{z:Value}(hop:o.op=.call {callee:=.builtin .append,args:=#[.tmp s,x],argTypes:=#[t,t]})
  (ht:P.underlying t=Y (.slice e))(hi:P.info? e=Y i)(A:i.zero=Y z)(E:i.size=n)(hby:i.bytes<=4096)(hzs:z.cells.size=n)(hn:0<n)
  (hok:AK x y=X)(h:(AF.Aa4 n s y).wp S O (Y d) K):BI P F0 w0 a w o d K:=by
 simp only[AF.wp]at h;split at h
 .rename_i d' m es m' fs M hs hy;simp only[p0]at M;subst M;obtain⟨hm1,hm2,ε,hno,hds,hK⟩:=h;subst hm2;subst hm1;have C:=At δ hs V;have H:=δ.wf s;rw[hs]at H;simp only[AN]at C;obtain⟨xs,⟨z0,h1,κ⟩,h2,h3,h4⟩:=C;have hv:=BF δ hok hy;simp only[A3]at hv;obtain⟨⟨ad,cap,h5,h6,h7,h8⟩,h9⟩:=hv;have I:∃g:List Value,AR w (AW w0.heap.size F0 G) (fs.flatMap TV.cells) g/\(∀x∈g,x.oneCell'=X)/\(∀f∈fs,f.cells.length=m)/\∀b,ad=Y b->∀(j:Nat)(u:Value),g[j]?=Y u->w.cell? (b.add j)=Y u:=by
   cases ad with
   |none=>
    have:=h7 rfl;subst this;exact⟨[],rfl,V,V,V⟩
   |some b=>
    obtain ⟨B,h11⟩:=h8 b rfl;obtain⟨bb,off,sp⟩:=b;simp only at B h11;by_cases θ:fs=[]
    .subst θ;exact⟨[],rfl,V,V,V⟩
    have B:sp=W:=B.resolve_left θ;subst B;have hrow:∀(l:Fq)(off:Nat),JX w (AW w0.heap.size F0 G) m l bb off->Dn w (AW w0.heap.size F0 G) (l.flatMap TV.cells) bb off/\∀f∈l,f.cells.length=m:=by
     intro l
     induction l with
     |nil=>intro off _;exact⟨trivial,V⟩|cons f l ih=>
      grind [Rr,Jy]
    grind [Uv,p0]
  obtain ⟨g,n1,n2,n3,n4⟩:=I;have hnl:g.length=fs.length*m:=by rw[BX n1,Qd m fs n3]
  obtain ⟨v',w',z',η,r1,J⟩:=RL (P:=P) t o.type e i z m ht hi A E hby hzs hn (slot a s) es.length xs z0 h1 ad fs.length cap g hnl (λe=>by rw[h7 e];rfl) h6 n4 n2 ε;have hnz:∀k,(∀lo,G s W≠Y (k,lo))->∀lo,z0≠Y (k,lo):=λk hk lo A=>hk 0 (by rw[κ,A];rfl);refine⟨v',w',?_,_,_,hK,δ.xgo hs hd hds (z':=z'.map λp=>(p.1,0)) J.os J.tape J.output J.size (λk hk A=>J.other k hk (hnz k A)) (λb lo A=>?_) V (λ_=>hno) (λF' G' env' a' L hG _=>?_) ?_⟩
  .simp[execOp,hop,resolve,invoke,builtin,show a.eval (.tmp s)=slot a s from rfl,h5,η]
  .cases z' with
   |none=>simp at A|some p=>
    simp only[Q_,p0,Prod.mk.injEq]at A;obtain⟨k1,ζ⟩:=J.AbD p.1 p.2 rfl;rw[<-A.1];refine⟨k1,?_⟩;rcases ζ with ζ|⟨lo',ζ,_⟩
    .exact .inl ζ
    .exact .inr ⟨0,by rw[κ,ζ];rfl⟩
  .simp only[AN];rw[hG];refine⟨xs++g,⟨z',by rw[b6];exact r1,rfl⟩,?_,?_,?_⟩
   .rw[B'];exact JS (A6 L _ _ h2) (A6 L _ _ n1)
   .intro e he;rcases B!.1 he with he|he
    .exact h3 e he
    .exact n3 e he
   .intro x R;rcases B!.1 R with R|R
    .exact h4 x R
    .exact n2 x R
  .simp only[EV.WF,TV.WF]at H h9|-;exact⟨by rw[b6];exact Vq U,Lw.2 ⟨H.2,h9.2⟩⟩
 .exact h.elim
def sj(δ:AO F0 w0 O a w G)(hd:d<a.tmps.size){x x':Operand}{ty e:TypeId}{A:TypeInfo}{z g:Value}{t:TV}(H:o.op=.makeSlice ty x x')(hok:AK x y=X)(I:AK x' y=X)
  (B:P.underlying ty=Y (.slice e))(J:P.info? e=Y A)(η:A.zero=Y z)(hs:A.size=1)(hby:A.bytes<=4096)(hzc:z.cells=#[g])(hc:Eo t g=X)(h1c:g.oneCell'=X)(L:t.cells=[t])
  (h:(AF.mkx 1 [t] y).wp S O (Y d) K):BI P F0 w0 a w o d K:=by
 simp [AF.wp]at h;split at h
 .rename_i d' ik j M hy;simp[p0]at M;subst M;obtain⟨hno,h0,hmax,hK⟩:=h;have hv:=(BF δ hok hy).1;have C:=(BF δ I hy).1;simp[A3]at hv C;obtain⟨m,rfl⟩:∃m:Nat,j=m:=⟨j.toNat,U⟩;have hm:m<=4096:=U
  have hw1:IntKind.i64.wrap (m:Int)=m:=by
   have e1:(2:Int)^ 64=18446744073709551616:=a!
   have e2:(2:Int)^ (64-1)=9223372036854775808:=a!
   simp [IntKind.wrap,IntKind.bits,IntKind.signed,Bool.true_and,qo,e1,e2,ge_iff_le];split<;>omega
  have ζ:m*A.bytes<=16777216:=by
   calc m*A.bytes<=4096*4096:=M_ hm hby
    _=16777216:=a!
  have l:(Array.range m).map (λq=>([g]:List Value)[q % 1]?.getD default)=O' m g:=by
   grind
  have R:¬(281474976710656<(A.bytes:Int)*(m:Int)):=by
   grind
  have E:¬(m*A.bytes>roomBytes):=by
   have:roomBytes≥16777216:=a!
   omega
  have θ:¬((m:Int)<0):=U
  have ε:(execOp a.eval o).run P w=.ok (.value (.slice (Y ⟨w.heap.size,0,W⟩) m m)) (w.alloc (.cells (O' m g) e)):=by
   by_cases κ:m=0
   .subst κ;have hw0:IntKind.i64.wrap 0=0:=a!
    simp [execOp,H,hv,C,Instr.makeSlice,run_underlying B,asInt,asIntOf,typeInfo,J,hw0,askRoom,sizeOf,hs,newRow]
    grind
   .simp[execOp,H,hv,C,Instr.makeSlice,run_underlying B,asInt,asIntOf,typeInfo,J,hw1,askRoom,sizeOf,hs,newRow,R,E,θ,κ,zeroValue,η,hzc,l]
  have hb:Below w.heap.size w (w.alloc (.cells (O' m g) e)):=(Below.refl _ _).alloc (az _) _;have hcr:=IZ (w.alloc (.cells (O' m g) e)) (λ_ _=>False) t g hc;have hfm:∀k,(B? k t).flatMap TV.cells=B? k t:=by
   intro k
   induction k with
   |zero=>rfl|succ k ih=>rw[C_,x!,ih,L];rfl
  simp [Int.toNat_natCast]at hK;refine⟨_,_,ε,_,_,hK,δ.AbW hb hd hno (z:=Y (w.heap.size,m*1)) (xs:=B? m g) ⟨V,.inr ⟨w.heap.size,m,_,e,V,heap_alloc_new w _,V,by simp[maxLen];omega,V,V,V⟩⟩ (λb lo η=>?_) (λF' _=>?_) (λu B=>?_) (λv hv=>?_) ⟨by simp[C',LY];omega,?_⟩⟩
  .simp[p0,Prod.mk.injEq]at η;rw[<-η.1];exact⟨az _,V⟩
  .rw[hfm,Bt];refine⟨V,λi u v B hv=>?_⟩;rw[C! (x? B),C! (x? hv)];exact(IZ _ F' t g hc).1
  .rw[C! B,L];rfl
  .rw[C! hv];exact h1c
  .rw[CC];intro u B;rw[C! B];exact hcr.2
 .exact h.elim
def lc(P:Program)(t:TypeId)(f k n:Nat)(agg:Bool):Bool:=
 match P.underlying t with
 |some (.struct fs)=>(match fs[f]? with
  |some x=>x.offset==k&&DI P x.type==Y n&&CO P x.type==Y agg|none=>T)
 |_=>T
theorem pZ(H:AO F0 w0 O a w G)(hd:d<a.tmps.size){f k n:Nat}{agg:Bool}(C:o.op=.field t x f)(I:AK x y=X)(hf:lc P t f k n agg=X)(h:(AF.Abs y k n agg).wp S O (Y d) K):BI P F0 w0 a w o d K:=by
 simp only[AF.wp]at h;split at h
 .rename_i cs κ;obtain⟨δ,g⟩:=h;have hv:=BF H I κ;simp only[A3,TV.WF]at hv;obtain⟨⟨vs,θ,L,h3⟩,ε⟩:=hv;unfold lc at hf;split at hf
  .rename_i fs M;split at hf
   .rename_i A E;simp only[mo,beq_iff_eq]at hf;obtain⟨⟨rfl,ζ⟩,ha⟩:=hf;have R:=BX L;rw[Bt]at L;rw[CC]at ε;cases agg with
    |true=>
     simp only[if_true]at g;refine C2 H hd (v:=.agg (vs.extract A.offset (A.offset+n))) (t:=.agg ((cs.drop A.offset).take n)) ?_ ?_ ?_ g
     .simp[execOp,C,θ,Instr.field,run_underlying M,E,part,C4 ha,CW ζ,asAgg]
     .simp only[A3];refine⟨_,rfl,?_,?_⟩
      .rw[Bt]
       grind
      grind
     .simp only[TV.WF];rw[CC]
      grind
    |false=>
     simp only[Bool.false_eq_true,if_false]at g;cases J:cs.drop A.offset with
     |nil=>rw[J]at g;simp[IJ,A0]at g|cons u r=>
      rw [J]at g;simp only[IJ,A0]at g;have B:cs[A.offset]?=Y u:=by
       have:=congrArg (λl=>l[0]?) J;simpa[C?]using this
      have η:A.offset<cs.length:=(D_.1 B).1;obtain⟨v,hv⟩:∃v,vs.toList[A.offset]?=Y v:=⟨_,z_ U⟩;refine C2 H hd (v:=v) (t:=u) ?_ (L.2 _ u v B hv) (ε u (x? B)) g;rw[O!]at hv;simp[execOp,C,θ,Instr.field,run_underlying M,E,part,C4 ha,asAgg,hv]
   .cases hf
  .cases hf
 .exact h.elim
def rJ(P:Program)(ty:TypeId)(n:Nat)(zero:Fq):Bool:=
 match P.underlying ty,zero with
 |some (.slice e),[t]=>(match P.info? e with
  |some ie=>(match ie.zero with
   |some z=>(match z.cells.toList with
    |[z0]=>n==1&&ie.size==1&&decide (ie.bytes<=4096)&&Eo t z0&&z0.oneCell'&&(match t with|.int _ _=>X|.bool _=>X|.str _=>X|_=>T)
    |_=>T)
   |none=>T)
  |none=>T)
 |_,_=>T
theorem wM(H:AO F0 w0 O a w G)(hd:d<a.tmps.size){x x':Operand}{ty:TypeId}{zero:Fq}(A:o.op=.makeSlice ty x x')(B:AK x y=X)(l:AK x' y=X)(g:rJ P ty n zero=X)
  (h:(AF.mkx n zero y).wp S O (Y d) K):BI P F0 w0 a w o d K:=by
 unfold rJ at g;split at g
 .rename_i e t I;split at g
  .rename_i κ C;split at g
   .rename_i z J;split at g
    next η E=>simp[qo]at g;obtain⟨⟨⟨⟨⟨rfl,L⟩,M⟩,R⟩,θ⟩,ε⟩:=g;exact sj H hd A B l I C J L M (gv E) R θ (by cases t<;>first|rfl|cases ε) h
    .cases g
   .cases g
  .cases g
 .cases g
def xz{args:Fq}{t:TV}(h:AV P f args (.own t)):AV P f args (.sh t):=by
 intro B;obtain⟨E,H⟩:=h B;refine⟨E,λF0 w vs hv l=>?_⟩;obtain⟨I,J⟩:=H F0 w vs hv l;refine⟨I,J.mono ?_⟩;rintro e w' ⟨v,rfl,hb,z,L,R⟩;refine⟨v,rfl,hb,?_⟩;have C:=CI.rep L (λb lo o M ho=>by
  grind)
 exact CY (λb o u A hf=>⟨A,λg=>hf (.inl g)⟩) _ _ C
def Q6(h:v.oneCell'=X):v.cells=#[v]:=by
 cases v<;>first|rfl|simp[Value.oneCell']at h
theorem tD(A:AO F0 w0 O a w G){x v:Operand}(hop:o.op=.store t x v)(E:AK x (.s s)=X)(hv:AK v (.s q)=X)(hn:DI P t=Y n)(h:(AF.stx n s q).wp S O W K):Iu P F0 w0 a w o K:=by
 simp only[AF.wp]at h;split at h
 .rename_i cs ds hs hq;obtain⟨M,⟨δ,H⟩,ho,hK⟩:=h;have hp:(AH.s s).place O=Y (s,0):=by simp[AH.place,hs]
  revert hp ho hK
  suffices key:∀off,off+n<=cs.length->K .undef ((s,.bx (cs.take off++ds++cs.drop (off+n)))::(q,.undef)::O)->(AH.s s).place O=Y (s,off)->Iu P F0 w0 a w o K from key 0
  .intro off ho hK hp;have hvq:v=.tmp q:=by
    cases v<;>simp[AK]at hv;rw[hv]
   subst hvq;obtain⟨b,hsl,hadr⟩:=IT A E hp hs;have hr:=At A hs V;simp only[AN]at hr;obtain⟨b',c,θ,h1,h2,h3,h4,h5⟩:=hr;rw[hsl]at h1;simp only[Value.pointer.injEq,p0,Addr.mk.injEq,and_true,and_self]at h1;subst h1;have hrq:=At A hq V;simp only[AN]at hrq;obtain⟨vs,C,l,e3⟩:=hrq;have ζ:=A.wf s;rw[hs]at ζ;have hwq:=A.wf q;rw[hq]at hwq;have hone:∀y∈vs.toList,y.oneCell'=X:=by
    intro y I;obtain⟨i,hi⟩:=D' I;have g:i<ds.length:=by have:=(D_.1 hi).1;simpa[l]using this
    obtain ⟨x,E,hc⟩:=e3 i _ (z_ g);rw[O!,E]at hi;simp only[p0]at hi;subst hi;exact Hz hc
   have hev:a.eval (.tmp q)=.agg vs:=C;have hst:(execOp a.eval o).run P w=.ok .skip (w.setRow b (c.toList.take off++vs.toList++c.toList.drop (off+n)).toArray):=by
    have hln:vs.toList.length=n:=by rw[O_,l,δ]
    have L:=run_storeCells_at P b off θ vs.toList 0 c w h2 (by rw[hln];omega) hone;simp only[M']at L;rw[hln]at L;simp[execOp,hop,hadr,hev,Instr.storeAt,Instr.sureAddr,storeVar,CW hn,Value.cells,show vs.size=n by rw[l,δ],L]
   have hvl:vs.toList.length=n:=by rw[O_,l,δ]
   let zs:Option Nat->Option (Nat×Nat):=λi=>match i with|none=>Y (b,0)|some j=>if off<=j/\j<off+n then G q (Y (j-off))else G s (Y j)
   refine Exists.elim (A.AbJ hs hsl h2 (cs':=cs.take off++ds++cs.drop (off+n)) (c':=(c.toList.take off++vs.toList++c.toList.drop (off+n)).toArray) (q:=Y q) (by simpa using M) (λp hp=>by cases hp;exact Bz A hq V) (zs:=zs) rfl ?_ ?_ ?_ ?_ ?_ ?_) (λG' h'=>⟨_,hst,_,hK,G',h'.1⟩)
   .intro i b' lo hi hz;cases i with
    |none=>exact absurd rfl hi|some j=>
     simp only[zs]at hz;split at hz
     .exact .inr ⟨q,rfl,_,hz⟩
     .exact .inl hz
   .intro i i' b' lo ε C l;have zn:∀j b' lo ε,zs (Y j)=Y (b',lo)->zs W=Y (b',ε)->False:=by
     intro j b' lo ε C l;simp only[zs,p0,Prod.mk.injEq]at l;obtain⟨rfl,_⟩:=l;simp only[zs]at C;split at C
     .exact M (A.ln _ _ _ _ _ _ _ C h4).1
     .have:=(A.ln _ _ _ _ _ _ _ C h4).2;cases this
    cases i with
    |none=>cases i' with
     |none=>rfl|some j=>exact(zn j _ _ _ l C).elim
    |some j=>cases i' with
     |none=>exact(zn j _ _ _ C l).elim|some j'=>
      simp only[zs]at C l;split at C<;>split at l
      .have:=(A.ln _ _ _ _ _ _ _ C l).2;simp only[p0]at this;rw[show j=j' by omega]
      .exact absurd (A.ln _ _ _ _ _ _ _ C l).1 M
      .exact absurd (A.ln _ _ _ _ _ _ _ l C).1 M
      .exact(A.ln _ _ _ _ _ _ _ C l).2
   .simp only[D!,b6,bk,D?,O_];omega
   .intro F' w' κ J η i y I;have hco:∀j,off+n<=j->cs[j]?=Y y->i=j->∃v,c[j]?=Y v/\BW w' F' (tn a G) (G s (Y j)) y v:=by
     intro j hj hc hij;obtain⟨v,k1,k2⟩:=h5 j y hc;exact⟨v,k1,k2.kept κ (λk lo B=>J k (λe=>by have:=(A.ln _ _ _ _ _ _ _ (e▸B) h4).2;cases this)) η⟩
    rcases K! i off with g|hge
    .rw[ci,E_ an,E',ac g]at I;obtain⟨v,k1,k2⟩:=h5 i y I;refine⟨v,?_,?_⟩
     .rw[E!,ci,E_ an,E',ac g,O!];exact k1
     .simp only[zs,ae (show¬(off<=i/\i<off+n)by omega)];exact k2.kept κ (λk lo B=>J k (λe=>by have:=(A.ln _ _ _ _ _ _ _ (e▸B) h4).2;cases this)) η
    .rcases K! i (off+n)with g|R
     .rw[ci,E? an,E_ an]at I;simp only[bk]at I;rw[L? U]at I;obtain⟨v,k1,k2⟩:=e3 (i-off) y I;refine⟨v,?_,?_⟩
      .rw[E!,ci,E? an,E_ an];simp only[bk,O_];rw[L? U,O!];exact k1
      .simp only[zs,ac (show off<=i/\i<off+n by omega)];exact k2.kept κ (λk lo B=>J k (λe=>M (A.ln _ _ _ _ _ _ _ (e▸B) h4).1)) η
     .rw[E? an]at I;simp only[b6,bk]at I;rw[L? U,δ,C?,show off+n+(i-(off+n))=i from U]at I;obtain⟨v,k1,k2⟩:=hco i R I rfl;refine⟨v,?_,?_⟩
      .rw[E!,E? an];simp only[b6,bk,O_];rw[L? U,l,δ,C?,show off+n+(i-(off+n))=i from U,O!];exact k1
      .simp only[zs,ae (show¬(off<=i/\i<off+n)by omega)];exact k2
   .intro x E;rcases B!.1 E with E|E
    .rcases B!.1 E with E|E
     .exact ζ x (z! E)
     .exact hwq x E
    .exact ζ x (z? E)
   .intro k tx htx B;have hkl:k<cs.length:=by
     have:=(D_.1 B).1;simp only[b6,bk,D?]at this;omega
    rw [E!];rcases K! k off with g|hge
    .rw[ci,E_ an,F_ g]at B;refine .inr ⟨B,?_⟩;rw[ci,E_ an,F_ g,O!]
    .rcases K! k (off+n)with g|R
     .rw[ci,E? an,E_ an]at B;rw[Bool.or_eq_true]at H;rcases H with H|H
      .have:=F!.1 H _ (x? B);simp[htx]at this
      .exact .inl (AB.noX_all H)
     .rw[E? an]at B;simp only[b6,bk,C?]at B;rw[L? U,δ,show off+n+(k-(off+n))=k from U]at B;refine .inr ⟨B,?_⟩;rw[E? an];simp only[b6,bk,O_,C?];rw[L? U,l,δ,show off+n+(k-(off+n))=k from U,O!]
 .exact h.elim
def Ly(a:Act)(w:World)(G:Bh)(d:Nat)(Z:D0):Bh:=λp=>if p=d then Z 0 else if a.tmps.size+w.heap.size<=p then(λi=>match i with|some j=>Z (p-a.tmps.size+1) (Y j)|none=>W)else G p
variable{Z:D0}
def P0{a:Act}{w:World}{G:Bh}{d:Nat}{p:Nat}{b lo:Nat}(h:Ly a w G d Z p i=Y (b,lo)):(p=d/\Z 0 i=Y (b,lo))\/(p≠d/\a.tmps.size+w.heap.size<=p/\Z (p-a.tmps.size+1) i=Y (b,lo))\/(p≠d/\¬a.tmps.size+w.heap.size<=p/\G p i=Y (b,lo)):=by
 simp [Ly]at h
 grind
def AO.quiet2{w':World}(h:AO F0 w0 O a w G)(hb:Below w.heap.size w w')(d:Nat)(hd:d<a.tmps.size)(e:EV)(v:Value)
  (Z:D0)(R:∀q i b lo,Z q i=Y (b,lo)->w.heap.size<=b/\b<w'.heap.size)(E:KX Z)
  (L:(∃cs,e=.bx cs)\/(∃n es,e=.xo n es)->O.gt d=X)
  (ε:Bw w w' (AW w0.heap.size F0 G) (AW w0.heap.size F0 (Ly a w G d Z))->AN (a.put (Y d) v) w' (AW w0.heap.size F0 (Ly a w G d Z)) (Ly a w G d Z) ((d,e)::O) d e v)(ζ:e.WF):
  AO F0 w0 ((d,e)::O) (a.put (Y d) v) w' (Ly a w G d Z):=by
 have η:Bw w w' (AW w0.heap.size F0 G) (AW w0.heap.size F0 (Ly a w G d Z)):=by
  intro b o u hc hf;have hlt:b<w.heap.size:=World.block_lt_of_cell? w ⟨b,o,W⟩ hc;refine⟨by rw[hb.cell (p:=⟨b,o,W⟩) hlt];exact hc,λδ=>hf ?_⟩;rcases δ with h|⟨s,i,lo,κ,h2⟩
  .exact .inl h
  .rcases P0 κ with⟨_,e⟩|⟨_,_,e⟩|⟨_,_,e⟩
   .grind
   .grind
   .exact .inr ⟨s,i,lo,e,h2⟩
 have hG:∀s,s<a.tmps.size->s≠d->Ly a w G d Z s=G s:=by
  grind [Ly]
 refine ⟨?_,?_,h.below.go hb,g?,?_,?_,?_⟩
 .intro s i s' i' b lo lo' κ h2;rcases P0 κ with⟨e1,B⟩|⟨e1,e3,B⟩|⟨e1,e3,B⟩<;>rcases P0 h2 with⟨e2,C⟩|⟨e2,e4,C⟩|⟨e2,e4,C⟩
  .exact⟨by rw[e1,e2],(E _ _ _ _ _ _ _ B C).2⟩
  .have:=(E _ _ _ _ _ _ _ B C).1;omega
  .have:=(R _ _ _ _ B).1;have:=(h.lt _ _ _ _ C).1;omega
  .have:=(E _ _ _ _ _ _ _ B C).1;omega
  .obtain⟨g1,g2⟩:=E _ _ _ _ _ _ _ B C;exact⟨U,g2⟩
  .have:=(R _ _ _ _ B).1;have:=(h.lt _ _ _ _ C).1;omega
  .have:=(R _ _ _ _ C).1;have:=(h.lt _ _ _ _ B).1;omega
  .have:=(R _ _ _ _ C).1;have:=(h.lt _ _ _ _ B).1;omega
  .exact h.ln _ _ _ _ _ _ _ B C
 .intro s i b lo κ;rcases P0 κ with⟨_,f⟩|⟨_,_,f⟩|⟨_,_,f⟩
  .have:=R _ _ _ _ f;exact⟨this.2,.inl (L' h.below.size this.1)⟩
  .have:=R _ _ _ _ f;exact⟨this.2,.inl (L' h.below.size this.1)⟩
  .have:=h.lt _ _ _ _ f;exact⟨L_ this.1 hb.size,this.2⟩
 .intro s θ;rw[Bx]at θ;rw[AB.d7,ae U];exact h.dom s θ
 .intro s θ;rw[Bx]at θ;rw[AB.d7];by_cases J:d=s
  .subst J;rw[ac rfl,C7 _ _ _ hd];exact ε η
  .rw[ae J,AZ _ _ _ _ J];refine AN.kept' η (λi=>by rw[hG s θ (λe=>J e.symm)]) (λi b lo hG=>hb.block b (h.lt s i b lo hG).1) (λi g lo j hg=>?_) (λ_=>BY.spot (h.Aa0 hb)) (λq i k H⟨p,I⟩=>?_) (λq off H⟨cs,A⟩=>?_) (λq i H⟨p,I⟩=>?_) (h.slots s θ)
   .have:=(h.lt _ _ _ _ hg).1;simp[tn,Bx,Ly];rw[ae U,ae U]
   .by_cases l:d=q
    .subst l;exact absurd H (AB.Abf d O (L (.inl (AB.AaG I))) s i k)
    .rw[AB.Aah l]at I;exact⟨⟨p,I⟩,h.nh ⟨p,I⟩ (AZ _ _ _ _ l) (λj b _ M=>hb.block b (h.lt _ _ _ _ M).1)⟩
   .rw[AB.d7]at A;by_cases l:d=q
    .subst l;rw[ac rfl]at A;exact absurd H (AB.AaO d O (L (.inl ⟨cs,A⟩)) s off)
    .rw[ae l]at A;exact⟨⟨cs,A⟩,AZ _ _ _ _ l⟩
   .by_cases l:d=q
    .subst l;have hx:=AB.AaW d O (L (AB.AaV I)) s;rcases H with H|⟨c,H⟩
     .exact absurd H (hx.1 i)
     .exact absurd H (hx.2 i c)
    .rw[AB.Aag l]at I;exact⟨⟨p,I⟩,h.xv ⟨p,I⟩ (AZ _ _ _ _ l) (λb M=>hb.block b (h.lt _ _ _ _ M).1)⟩
 .intro s;rw[AB.d7];split
  .exact ζ
  .exact h.wf s
theorem mS(B:AO F0 w0 O a w G)(hd:d<a.tmps.size)(C:o.dst=Y d){xs:Array Operand}{ys:List AH}(H:o.op=.call {callee:=.value (.func f),args:=xs,argTypes:=ats})(I:Br xs.toList ys=X)(h:(AF.Aa2 f ys).wp (AV P) O (Y d) K)
  {next:Act->World->Prop}{Q:Exit->Act->World->Prop}(κ:∀e env' a' w',K e env'->SC a d a'->CE F0 w0 ((d,e)::env') a' w'->next a' w'):o.wp P a w next Q:=by
 simp only[AF.wp]at h;cases A:vals O ys with
 |none=>rw[A]at h;exact h.elim|some ts=>
  rw [A]at h;simp only[A0]at h;obtain⟨cs,δ,hK⟩:=h;have hv:=Gh B I A;have E:(execOp a.eval o).run P w=(callFunc f (xs.map a.eval)).run P w:=by simp[execOp,H,resolve,Act.eval,Deferred.ofValue,invoke]
  obtain ⟨h2,h3⟩:=(δ.to0 rfl) hv.2;obtain⟨ε,h5⟩:=h3 (AW w0.heap.size F0 G) w (xs.map a.eval) m_ B.below.now;unfold Oper.wp;rw[E,FM h2 _,Oper.upon_enter];refine h5.mono ?_;rintro e w' ⟨v,rfl,hb,Z,⟨vs,rfl,r1,r2⟩,r3,r5,M⟩;simp only[C];refine κ _ _ _ _ (hK ε) ⟨_,rfl⟩ ⟨_,B.quiet2 hb d hd (.oag cs) _ Z (λq i b lo θ=>⟨(M q i b lo θ).2,(M q i b lo θ).1⟩) r3 V (λη=>?_) ε⟩;simp only[AN];refine⟨vs,rfl,r1,λi c J=>?_⟩;obtain⟨x,k1,k2,_⟩:=r2 i c J;refine⟨x,k1,?_⟩;have L:Ly a w G d Z d (Y i)=Z 0 (Y i):=by simp[Ly]
  rw [L];refine(k2.kept (λb o u J hf=>⟨J,λl=>hf ?_⟩) (λ_ _ _=>rfl) BY.rfl').tn (λg lo j ζ=>?_)
  .rcases l with l|⟨p,j,lo,e1,R⟩
   .exact .inl ⟨L_ l.1 B.below.size,.inl l⟩
   .rcases P0 e1 with⟨_,e⟩|⟨_,_,e⟩|⟨_,_,e⟩
    .exact .inr ⟨_,_,lo,e,R⟩
    .exact .inr ⟨_,_,lo,e,R⟩
    .exact .inl ⟨(B.lt _ _ _ _ e).1,.inr ⟨p,j,lo,e,R⟩⟩
  .have:=(M _ _ _ _ ζ).2;simp only[tn,Bx,Ly,D0.tn];rw[ae U,ac U];simp only[M!]
theorem ig(J:AO F0 w0 O a w G)(hd:d<a.tmps.size)(B:o.dst=Y d){xs:Array Operand}{ys:List AH}(L:o.op=.call {callee:=.value (.func f),args:=xs,argTypes:=ats})(M:Br xs.toList ys=X)(h:(AF.Aaz f ys).wp (AV P) O (Y d) K)
  {next:Act->World->Prop}{Q:Exit->Act->World->Prop}(hn:∀e env' a' w',K e env'->SC a d a'->CE F0 w0 ((d,e)::env') a' w'->next a' w'):o.wp P a w next Q:=by
 simp only[AF.wp]at h;cases A:vals O ys with
 |none=>rw[A]at h;exact h.elim|some ts=>
  rw [A]at h;simp only[A0]at h;obtain⟨cs,hS,hX,hK⟩:=h;have hv:=Gh J M A;have E:(execOp a.eval o).run P w=(callFunc f (xs.map a.eval)).run P w:=by simp[execOp,L,resolve,Act.eval,Deferred.ofValue,invoke]
  obtain ⟨h2,h3⟩:=(hS.to0 rfl) hv.2;obtain⟨δ,h5⟩:=h3 (AW w0.heap.size F0 G) w (xs.map a.eval) m_ J.below.now;unfold Oper.wp;rw[E,FM h2 _,Oper.upon_enter];refine h5.mono ?_;rintro e w' ⟨v,rfl,hb,Z,⟨vs,rfl,r1,r2⟩,r3,r5,r4⟩;simp only[B]
  let I:D0:=λq i=>(Z q i).map λp=>(p.1,0)
  have ε:∀{q i b lo},I q i=Y (b,lo)->∃g,Z q i=Y (b,g)/\lo=0:=by
   grind [Q']
  have hw:(EV.oag (cs.map AS.toX)).WF:=by
   intro c C;obtain⟨η,l,rfl⟩:=F?.1 C;obtain⟨n,es,e0,_⟩:=hX η l;have:=δ _ l;rw[e0]at this|-;exact this
  refine hn _ _ _ _ (hK δ) ⟨_,rfl⟩ ⟨_,J.quiet2 hb d hd (.oag (cs.map AS.toX)) _ I (λq i b lo H=>?_) (λq i q' i' b lo g R θ=>?_) V (λhag=>?_) hw⟩
  .obtain⟨g,H,_⟩:=ε H;exact⟨(r4 q i b g H).2,(r4 q i b g H).1⟩
  .obtain⟨_,R,_⟩:=ε R;obtain⟨_,θ,_⟩:=ε θ;exact r3 _ _ _ _ _ _ _ R θ
  simp only[AN];refine⟨vs,rfl,by simpa using r1,λi c C=>?_⟩;rw[G_]at C;simp only[Q']at C;obtain⟨η,l,rfl⟩:=C;obtain⟨n,es,rfl,ζ⟩:=hX η (x? l);obtain⟨x,k1,k2,_⟩:=r2 i _ l;refine⟨x,k1,?_⟩;have κ:Ly a w G d I d (Y i)=I 0 (Y i):=by simp[Ly]
  rw [κ];have k3:CI w' _ (Z 0 (Y i)) (.list n es) x:=k2;obtain⟨us,m1,m2,m3,m4⟩:=k3;exact⟨us,⟨_,m1,rfl⟩,Hh _ (OS _ ζ) _ m2,m3,m4⟩
def cy(P:Program)(t:TypeId):Bool:=match P.underlying t with|some (.slice _)=>X|_=>T
def qz(h:Tn x=X):x=.const (.slice W 0 0):=by
 cases x<;>simp[Tn]at h
 grind [LA]
variable{t':TypeId}
def bi(I:AO F0 w0 O a w G)(hd:d<a.tmps.size){x z:Operand}(A:o.op=.binOp .eql t x z t')(J:Tn z=X)(B:cy P t=X){l:Option Addr}{n cap:Nat}(C:a.eval x=.slice l n cap)(h:K (.tv (.bool l.isNone)) O):BI P F0 w0 a w o d K:=by
 have E:=qz J;subst E;unfold cy at B;split at B
 .rename_i e L;refine C2 I hd (v:=.bool l.isNone) (t:=.bool l.isNone) ?_ rfl trivial h;have he:∀d,(Op.equalIn (d+1) t (.slice l n cap) (.slice W 0 0)).run P w=.ok l.isNone w:=by
   intro d;cases l<;>simp[Op.equalIn,run_underlying L]
  have H:(Op.equalIn 10000 t (.slice l n cap) (.slice W 0 0)).run P w=.ok l.isNone w:=he 9999;have R:(eqGuard .eql t x (.const (.slice W 0 0)) (.slice l n cap) (.slice W 0 0)).run P w=.ok () w:=by
   simp [eqGuard]
  have hb:(binOp .eql t (.slice l n cap) (.slice W 0 0)).run P w=.ok (.bool l.isNone) w:=by
   have e:(binOp .eql t (.slice l n cap) (.slice W 0 0)).run P w=((Op.equalIn 10000 t (.slice l n cap) (.slice W 0 0)).run P w).andThen λb w'=>.ok (.bool b) w':=by
    simp only[binOp];simp[Op.equal,Op.maxDepth]
   rw [e,H];rfl
  have θ:a.eval (.const (.slice W 0 0))=.slice W 0 0:=rfl;have ε:∀(g b:Sem Unit)(r:Sem Value),g.run P w=.ok () w->r.run P w=.ok (.bool l.isNone) w->(do let r <-(do g;r:Sem Value);pure (Next.value r):Sem Next).run P w=.ok (.value (.bool l.isNone)) w:=by
   intro g b r C M;simp[C,M]
  simp only[execOp,A,C,θ];exact ε _ (pure ()) _ R hb
 .cases B
theorem sW(A:AO F0 w0 O a w G)(hd:d<a.tmps.size){x z:Operand}(g:o.op=.binOp .eql t x z t')(l:AK x y=X)(C:Tn z=X)(E:cy P t=X)(h:(AF.isn y).wp S O (Y d) K):BI P F0 w0 a w o d K:=by
 simp only[AF.wp]at h;split at h
 next n es B=>have hv:=(BF A l B).1;simp only[A3]at hv;obtain⟨J,cap,H,L,I,M⟩:=hv;exact bi A hd g C E H (h _ λhb=>I (by simpa using hb))
 next B=>have hv:=(BF A l B).1;simp only[A3]at hv;exact bi A hd g C E hv h
 .exact h.elim
end
end Go.Sf
namespace Go.Sf
open Go.RowKit (Below)
section
variable{P:Program}{S:FuncId->Fq->BA->Prop}{F0:Nat->Nat->Prop}{w0:W0}{O:AB}{a:Act}{w:World}{G:Bh}{d:Nat}{o:Oper}{K:EV->AB->Prop}
variable{x:Operand}{y:AH}{t:TypeId}
theorem sX(E:AO F0 w0 O a w G)(hd:d<a.tmps.size)(H:o.op=.load t x)(I:AK x y=X)(ε:CO P t=Y T)(h:(AF.lac y).wp S O (Y d) K):BI P F0 w0 a w o d K:=by
 simp [AF.wp]at h;split at h
 .rename_i s off g;have η:y.place O=Y (s,off):=by
   cases y with
   |c t=>simp[AH.ev]at g|s n=>simp[AH.ev]at g;simp[AH.place,g]
  split at h
  .rename_i p κ;obtain⟨n,es⟩:=p;obtain⟨cs,M,ζ⟩:=AB.pr κ;obtain⟨b,B,C⟩:=IT E I η M;have hr:=At E M V;simp only[AN]at hr;obtain⟨b',c,θ,J,R,h3,h4,δ⟩:=hr;rw[B]at J;simp at J;subst J;obtain⟨v,hv,hc⟩:=δ off _ ζ;have l:w.cell? ⟨b,off,W⟩=Y v:=by rw[cell_of_row w b off c θ (0,0) R];exact hv
   refine ⟨v,w,by simp[execOp,H,C,Instr.loadAt,Instr.sureAddr,loadVar,C4 ε,l],_,_,h,_,E.quiet (Below.refl _ _) d hd (.la s (Y off)) _ (λ_=>W) V V V ?_ trivial⟩;simp only[AN];rintro⟨pp,L⟩;have A:=AB.sc V V L;exact E.xv ⟨_,A.2⟩ (AZ _ _ _ _ A.1) (λ_ _=>rfl) _ ⟨b,c,θ,B,R,hv⟩
  .exact h.elim
 .exact h.elim
theorem sR(E:AO F0 w0 O a w G)(hd:d<a.tmps.size)(I:o.op=.load t x)(J:AK x y=X)(ζ:CO P t=Y T)(h:(AF.ctk y).wp S O (Y d) K):BI P F0 w0 a w o d K:=by
 simp [AF.wp]at h;split at h
 .rename_i d' s off L δ;simp at L;subst L;split at h
  .rename_i cs H;split at h
   .rename_i n es M;obtain⟨B,R⟩:=h;obtain⟨b,l,A⟩:=IT E J δ H;have hr:=At E H V;simp only[AN]at hr;obtain⟨b',c,θ,C,ε,h3,h4,κ⟩:=hr;rw[l]at C;simp at C;subst C;obtain⟨y,η,_⟩:=κ off _ M;have g:w.cell? ⟨b,off,W⟩=Y y:=by rw[cell_of_row w b off c θ (0,0) ε];exact η
    exact ⟨y,w,by simp[execOp,I,A,Instr.loadAt,Instr.sureAddr,loadVar,C4 ζ,g],_,_,R,E.AaZ H M hd l g (.inr (.inl ⟨n,es,rfl,rfl,rfl,B⟩))⟩
   .rename_i es M;obtain⟨B,R⟩:=h;obtain⟨b,l,A⟩:=IT E J δ H;have hr:=At E H V;simp only[AN]at hr;obtain⟨b',c,θ,C,ε,h3,h4,κ⟩:=hr;rw[l]at C;simp at C;subst C;obtain⟨y,η,_⟩:=κ off _ M;have g:w.cell? ⟨b,off,W⟩=Y y:=by rw[cell_of_row w b off c θ (0,0) ε];exact η
    exact ⟨y,w,by simp[execOp,I,A,Instr.loadAt,Instr.sureAddr,loadVar,C4 ζ,g],_,_,R,E.AaZ H M hd l g (.inr (.inr ⟨es,rfl,rfl,rfl,B⟩))⟩
   .exact h.elim
  .exact h.elim
 .exact h.elim
variable{q:Nat}
theorem sQ(l:AO F0 w0 O a w G){x v:Operand}{x':AH}(hop:o.op=.store t x v)(hx:AK x x'=X)(hv:AK v (.s q)=X)(hn:DI P t=Y 1)(h:(AF.cpt x' q).wp S O W K):Iu P F0 w0 a w o K:=by
 simp [AF.wp]at h
 suffices key:∀(tc:TV)(s off:Nat),x'.place O=Y (s,off)->O.get q≠.undef->(∀cs,O.get q≠.bx cs)->E0 w (AW w0.heap.size F0 G) (tn a G) (G q W) tc (slot a q)->tc.WF->∀cs,O.get s=.bx cs->O.noX s (Y off)=X->off<cs.length->K .undef ((s,.bx (cs.set off ⟨X,tc⟩))::(q,.undef)::O)->Iu P F0 w0 a w o K by
  split at h
  .rename_i s off n es ζ L;split at h
   next cs M=>have g:=At l L V;have A:=l.wf q;rw[L]at A;exact key (.xl n es) s off ζ (by rw[L];simp) (by rw[L];simp) g A cs M h.1 h.2.1 h.2.2
   .exact h.elim
  .rename_i s off es ζ L;split at h
   next cs M=>have g:=At l L V;have A:=l.wf q;rw[L]at A;exact key (.xn es) s off ζ (by rw[L];simp) (by rw[L];simp) g A cs M h.1 h.2.1 h.2.2
   .exact h.elim
  .exact h.elim
 intro tc s off ζ hqu hqb g A cs M hno hoff hK;obtain⟨b,hsl,hadr⟩:=IT l hx ζ M;have hr:=At l M V;simp only[AN]at hr;obtain⟨b',c,θ,h1,h2,h3,h4,h5⟩:=hr;rw[hsl]at h1;simp at h1;subst h1;have hw:=l.wf s;rw[M]at hw;have E:q≠s:=λe=>hqb cs (by rw[e];exact M);have hvq:v=.tmp q:=by
  cases v<;>simp[AK]at hv;rw[hv]
 subst hvq;have κ:(slot a q).oneCell'=X:=QH g;have H:(a.eval (.tmp q)).cells.toList=[slot a q]:=by
  have:a.eval (.tmp q)=slot a q:=rfl;rw[this,Q6 κ]
 have hst:(execOp a.eval o).run P w=.ok .skip (w.setRow b (c.toList.take off++[slot a q]++c.toList.drop (off+1)).toArray):=by
  have I:=run_storeCells_at P b off θ [slot a q] 0 c w h2 an (by simpa using κ);simp only[M']at I;have hsz:(a.eval (.tmp q)).cells.size=1:=by rw[<-O_,H];rfl
  simp at I;simp[execOp,hop,hadr,Instr.storeAt,Instr.sureAddr,storeVar,CW hn,hsz,H,I]
 let zs:Option Nat->Option (Nat×Nat):=λi=>match i with|none=>Y (b,0)|some j=>if j=off then G q W else G s (Y j)
 refine Exists.elim (l.AbJ M hsl h2 (cs':=cs.set off ⟨X,tc⟩) (c':=(c.toList.take off++[slot a q]++c.toList.drop (off+1)).toArray) (q:=Y q) l' (λp ζ=>by cases ζ;exact l.lts hqu) (zs:=zs) rfl ?_ ?_ ?_ ?_ ?_ ?_) (λG' h'=>⟨_,hst,_,hK,G',h'.1⟩)
 .intro i b' lo hi hz;cases i with
  |none=>exact absurd rfl hi|some j=>
   simp [zs]at hz;split at hz
   .exact .inr ⟨q,rfl,W,hz⟩
   .exact .inl hz
 .intro i i' b' lo η B C;have zn:∀j b' lo η,zs (Y j)=Y (b',lo)->zs W=Y (b',η)->False:=by
   intro j b' lo η B C;simp[zs]at C;obtain⟨rfl,_⟩:=C;simp[zs]at B;split at B
   .exact E (l.ln _ _ _ _ _ _ _ B h4).1
   .have:=(l.ln _ _ _ _ _ _ _ B h4).2;cases this
  cases i with
  |none=>cases i' with
   |none=>rfl|some j=>exact(zn j _ _ _ C B).elim
  |some j=>cases i' with
   |none=>exact(zn j _ _ _ B C).elim|some j'=>
    simp [zs]at B C;split at B<;>split at C
    next e3 e4=>rw[e3,e4]
    .exact absurd (l.ln _ _ _ _ _ _ _ B C).1 E
    .exact absurd (l.ln _ _ _ _ _ _ _ C B).1 E
    .exact(l.ln _ _ _ _ _ _ _ B C).2
 .simp;omega
 .intro F' w' hag ε hrs i y J;rw[y!]at J;by_cases hi:off=i
  .subst hi;rw[ac rfl,ac hoff]at J;simp at J;subst J;refine⟨slot a q,?_,?_⟩
   .rw[E!,ci,E? an];simp;rw[L? U,M?];rfl
   .simp[BW,zs];exact g.kept hag (λk lo R=>ε k (λe=>E (l.ln _ _ _ _ _ _ _ (e▸R) h4).1)) hrs
  .rw[ae hi]at J;obtain⟨vv,B,C⟩:=h5 i y J;refine⟨vv,?_,?_⟩
   .rw[E!];rcases K! i off with δ|hge
    .rw[ci,E_ an,F_ δ];simpa using B
    .rw[E? an];simp only[b6,bk,O_,G!];rw[L? U,C?,show off+1+(i-(off+1))=i from U];simpa using B
   .have hi':¬i=off:=λe=>hi e.symm;simp[zs];rw[ae hi'];exact C.kept hag (λk lo R=>ε k (λe=>by have:=(l.ln _ _ _ _ _ _ _ (e▸R) h4).2;cases this)) hrs
 .intro y J;rcases y? J with J|rfl
  .exact hw y J
  .exact A
 .intro k tx htx R;rw[y!]at R;by_cases hi:off=k
  .subst hi;exact .inl hno
  .rw[ae hi]at R;refine .inr ⟨R,?_⟩;have hkc:k<c.size:=by
    have:=(D_.1 R).1;omega
   rw [E!];rcases K! k off with δ|hge
   .rw[ci,E_ an,F_ δ,O!]
   .rw[E? an];simp only[b6,bk,O_,G!];rw[L? U,C?,show off+1+(k-(off+1))=k from U,O!]
variable{s n:Nat}
theorem sS(C:AO F0 w0 O a w G)(hd:d<a.tmps.size){hi:Operand}{I:AH}(hop:o.op=.slice t (.tmp s) W (Y hi) W)(hh:AK hi I=X)(H:KZ P t=Y n)(h:(AF.cut n s I).wp S O (Y d) K):BI P F0 w0 a w o d K:=by
 simp [AF.wp]at h;split at h
 .rename_i d' m es k hb R hs hv;simp at R;subst R;obtain⟨⟨hm,hno,hds⟩,h0,h2,hK⟩:=h;subst hm;have hr:=At C hs V;have hw:=C.wf s;rw[hs]at hw;simp[AN]at hr;obtain⟨xs,⟨z0,k1,k2⟩,k3,k4,k5⟩:=hr;have b2:=(BF C hh hv).1;simp[A3]at b2;unfold KZ at H;split at H
  .rename_i e hu;obtain⟨j,rfl⟩:∃j:Nat,hb=j:=⟨hb.toNat,U⟩;simp at hK;have η:j<=es.length:=U
   have hlx:=k1.1;have key:∀(ad:Option Addr)(cap:Nat),slot a s=.slice ad es.length cap->es.length<=cap->(execOp a.eval o).run P w=.ok (.value (.slice (if cap=0 then ad else ad.map (·.add (0*m))) (j-0) (cap-0))) w:=by
    intro ad cap θ ε;have ζ:=Uy (P:=P) (w:=w) (isS:=X) (lo:=W) (hi:=Y (a.eval hi)) (l:=0) (h:=(j:Int)) (len:=es.length) (cap:=cap) U U h2 ε (.inl ⟨rfl,rfl⟩) (.inr ⟨k,by rw[b2]⟩);simp[execOp,hop,Instr.sliceAt,Instr.slice,run_underlying hu,show a.eval (.tmp s)=slot a s from rfl,θ,ζ,CW H]
   have B:∀F' E env'(a':Act)(v:Value),Bw w w (AW w0.heap.size F0 G) F'->E d W=G s W->LK w m v (es.take j).length (xs.take (j*m)) (G s W)->AN a' w F' E env' d (.xo m (es.take j)) v:=by
    intro F' E env' a' v A M J;simp only[AN];rw[M];refine⟨xs.take (j*m),J,?_,λe he=>k4 e (z! he),λx J=>k5 x (z! J)⟩;have hfl:∀(l:Fq)(j:Nat),(∀e∈l,e.cells.length=m)->(l.take j).flatMap TV.cells=(l.flatMap TV.cells).take (j*m):=by
     intro l
     induction l with
     |nil=>intro j _;simp|cons e l ih=>
      intro j κ;cases j with
      |zero=>simp|succ j=>
       rw [List.take_succ_cons,x!,x!,ih j (λx J=>κ x (by simp[J])),A_,κ e V];have h1:(j+1)*m=m+j*m:=i?
       have h2:e.cells.take (m+j*m)=e.cells:=A' (by rw[κ e V];omega);rw[h1,h2,show m+j*m-m=j*m from U]
    grind [Bt,A6,bk]
   have δ:(EV.xo m (es.take j)).WF:=by
    simp only[EV.WF,TV.WF]at hw|-;refine⟨an,?_⟩;rw[CC]at hw|-;exact λt H=>hw.2 t (z! H)
   have hjm:j*m<=es.length*m:=L! _ η;rcases k1.2 with⟨θ,ε,e3⟩|⟨g,cap,cur,ty,θ,ε,e3,e4,e5,e6,e7⟩
   .have hes:es=[]:=y_ ε;subst hes;have hj:j=0:=by simpa using η
    subst hj;refine⟨_,w,key W 0 (by simpa using θ) V,_,_,hK,C.xgo hs hd hds (z':=G s W) rfl rfl rfl (az _) (λ_ _ _=>rfl) (λb lo L=>⟨(C.lt _ _ _ _ L).1,.inr ⟨lo,L⟩⟩) V (λ_=>hno) (λF' E env' a' A M _=>B F' E env' a' _ A M ?_) δ⟩;refine⟨W,⟨V,.inl ⟨V,V,rfl⟩⟩,?_⟩;rw[k2,e3]
   .refine⟨_,w,key _ _ θ e3,_,_,hK,C.xgo hs hd hds (z':=G s W) rfl rfl rfl (az _) (λ_ _ _=>rfl) (λb lo L=>⟨(C.lt _ _ _ _ L).1,.inr ⟨lo,L⟩⟩) V (λ_=>hno) (λF' E env' a' A M _=>B F' E env' a' _ A M ?_) δ⟩;have κ:(es.take j).length=j:=e!
    rw [κ];refine⟨Y (g,j*m),⟨by rw[bk,hlx];omega,.inr ⟨g,cap,cur,ty,?_,ε,U,e4,e5,?_,rfl⟩⟩,?_⟩
    .simp only[Nat.zero_mul,N_,Q_,Addr.add_zero'];split<;>rfl
    .rw[<-e6,List.take_take,L? hjm]
    .rw[k2,e7];rfl
  .cases H
 .exact h.elim
variable{v:Value}{z:Option (Nat×Nat)}
theorem bz{F:Nat->Nat->Prop}{es:Fq}{xs:List Value}(h:LK w n v es.length xs z)(g:AR w F (es.flatMap TV.cells) xs)(l:∀e∈es,e.cells.length=n)(A:∀x∈xs,x.oneCell'=X):A3 w (λ_ _=>False) (.list n es) v:=by
 obtain ⟨C,E,_⟩:=h;refine CI.rep (z:=C) ?_ (λ_ _ _ _ _ h=>h);simp[CI];exact⟨xs,E,A6 (λb o u B _=>⟨B,λh=>h⟩) _ _ g,l,A⟩
def Zk{F:Nat->Nat->Prop}:Bw w w F (λ_ _=>False):=λ_ _ _ g _=>⟨g,λh=>h⟩
theorem uz{c:AS}(h:c.t.WF):c.Abl.WF:=by
 obtain ⟨_|_,t⟩:=c
 .exact h
 .cases t<;>exact h
variable{i:Option Nat}{ρ:JJ}
def rD(l:AO F0 w0 O a w G){c:AS}{x:Value}(h:BW w (AW w0.heap.size F0 G) ρ (G s i) c x):A3 w (λ_ _=>False) c.Abl x:=by
 by_cases g:∃n es,c=⟨X,.xl n es⟩
 .obtain⟨n,es,rfl⟩:=g;simp[BW,E0]at h;obtain⟨xs,A,B,C,E⟩:=h;exact bz A B C E
 .have:c.Abl=c.t:=by
   obtain ⟨_|_,t⟩:=c
   .rfl
   .cases t<;>first|rfl|exact absurd ⟨_,_,rfl⟩ g
  rw [this];exact CY Zk _ _ (XP l h)
variable{b:Nat}
def fA(B:AO F0 w0 O a w G){cs:List AS}(E:O.get s=.bx cs)(l:slot a s=.pointer (Y ⟨b,0,W⟩))(off:Nat):Dn w (λ_ _=>False) ((cs.drop off).map AS.Abl) b off:=by
 have hr:=At B E V;simp only[AN]at hr;obtain⟨L,c,θ,A,H,M,R,I⟩:=hr;rw[l]at A;simp at A;subst A;rw[Jy];intro i t C;simp[G_,C?]at C;obtain⟨cell,g,rfl⟩:=C;obtain⟨x,J,hr⟩:=I _ cell g;exact⟨x,by rw[cell_of_row w b (off+i) c θ (0,0) H];exact J,λh=>h,Hz hr,rD B hr⟩
def fB{cs:List AS}(h:∀c∈cs,c.t.WF):TV.pq (cs.map AS.Abl):=by grind[CC,uz]
def rE(l:AO F0 w0 O a w G)(g:AK x y=X){t:TV}(h:y.Abz O=Y t):A3 w (λ_ _=>False) t (a.eval x)/\t.WF:=by
 unfold AH.Abz at h;split at h
 .rename_i p L;simp at h;subst h;obtain⟨C,I⟩:=Pz l g L
  grind [QS,bz]
 .have H:∀e,y.ev O=e->(∀t,e≠.tv t)->∃n,y=.s n/\x=.tmp n/\O.get n=e:=by
   intro e he E;cases y with
   |c t=>exact absurd he.symm (E t)|s n=>
    cases x<;>simp[AK]at g;subst g;exact⟨_,rfl,rfl,he⟩
  split at h
  next cs he=>simp at h;subst h;obtain⟨n,rfl,rfl,A⟩:=H _ he V;have hr:=At l A V;have B:=l.wf n;rw[A]at B;simp only[AN]at hr;obtain⟨b,c,θ,C,_⟩:=hr;refine⟨?_,fB B⟩;simp[A3];exact⟨b,0,C,by simpa using fA l A C 0⟩
  .rename_i q off he;split at h
   next cs A=>simp only[p0]at h;subst h;obtain⟨n,rfl,rfl,M⟩:=H _ he V;have hr:=At l M V;simp only[AN]at hr;obtain⟨b,C,I⟩:=hr ⟨cs,A⟩;have B:=l.wf q;rw[A]at B;refine⟨?_,fB (λc J=>B c (z? J))⟩;simp only[A3];exact⟨b,off,I,fA l A C off⟩
   .cases h
  .have:=BF l g (t:=t) h;exact⟨CY Zk _ _ this.1,this.2⟩
def bA(l:AO F0 w0 O a w G):∀{xs:List Operand}{ys:List AH},Br xs ys=X->∀{ts:Fq},Aau O ys=Y ts->AR w (λ_ _=>False) ts (xs.map a.eval)/\TV.pq ts
 |[],[],_,ts,hv=>by simp[Aau]at hv;subst hv;exact⟨rfl,trivial⟩|[],_::_,g,_,_=>by simp[Br]at g|_::_,[],g,_,_=>by simp[Br]at g|x::xs,y::ys,g,ts,hv=>by
  simp [Br]at g;simp[Aau]at hv;split at hv
  next t C E h=>simp at hv;subst hv;have A:=rE l g.1 E;have B:=bA l g.2 h;exact⟨⟨_,_,rfl,A.1,B.1⟩,A.2,B.2⟩
  .cases hv
def pF{w':World}{F F':Nat->Nat->Prop}{base:Nat}{r:BA}(g:r.Abq=X)(h:JY w' F base r v):JY w' F' base r v:=by
 cases r with
 |sh t=>exact Us t g v h|tp ts=>obtain⟨vs,A,l⟩:=h;exact⟨vs,A,Hh ts g _ l⟩
 |own t=>
  obtain ⟨z,A,l⟩:=h;refine⟨z,?_,l⟩;cases t<;>simp[BA.Abq]at g
  grind [CI,Hh,OS]
 |_=>simp[BA.Abq]at g
def W5{r:BA}(h:r.Abq=X):r.plain=X:=by
 cases r<;>first|rfl|(simp[BA.Abq]at h)
variable{f:FuncId}{ats:Array TypeId}
theorem mT(B:AO F0 w0 O a w G)(hd:d<a.tmps.size)(l:o.dst=Y d){xs:Array Operand}{ys:List AH}(C:o.op=.call {callee:=.value (.func f),args:=xs,argTypes:=ats})(E:Br xs.toList ys=X)(h:(AF.AaM f ys).wp (AV P) O (Y d) K)
  {next:Act->World->Prop}{Q:Exit->Act->World->Prop}(L:∀e env' a' w',K e env'->SC a d a'->CE F0 w0 ((d,e)::env') a' w'->next a' w'):o.wp P a w next Q:=by
 simp [AF.wp]at h;cases g:Aau O ys with
 |none=>rw[g]at h;exact h.elim|some ts=>
  rw [g]at h;simp[A0]at h;obtain⟨r,⟨M,H⟩,R⟩:=h;have hv:=bA B E g;have A:(execOp a.eval o).run P w=(callFunc f (xs.map a.eval)).run P w:=by simp[execOp,C,resolve,Act.eval,Deferred.ofValue,invoke]
  obtain ⟨θ,I⟩:=(M.to0 (W5 H)) hv.2;obtain⟨J,I⟩:=I (λ_ _=>False) w (xs.map a.eval) m_ B.below.now;unfold Oper.wp;rw[A,FM θ _,Oper.upon_enter];refine I.mono ?_;rintro e w' ⟨v,rfl,hb,hr⟩;simp[l];exact L _ _ _ _ (R J) ⟨_,rfl⟩ (B.called hd hb (W5 H) (pF H hr) J)
def OR:∀{ps:List (Option AS)}{ts:Fq}{cs:List AS},E2 ps ts=Y cs->cs.length=ts.length/\∀(i:Nat)(c:AS),cs[i]?=Y c->∃t,ts[i]?=Y t/\(c=⟨T,t⟩\/(t=.nil/\∃n,c=⟨X,.list n []⟩\/c=⟨X,.xl n []⟩\/c=⟨X,.xn []⟩))
 |[],[],cs,h=>by simp[E2]at h;subst h;simp|[],_::_,cs,h=>by simp[E2]at h|none::ps,[],cs,h=>by simp[E2]at h|some _::ps,[],cs,h=>by simp[E2]at h|none::ps,t::ts,cs,h=>by
  simp [E2]at h;split at h
  .rename_i cs' l;simp at h;subst h;obtain⟨A,B⟩:=OR l
   grind
  .cases h
 |some E::ps,t::ts,cs,h=>by
  cases t<;>simp[E2]at h<;>try cases h
  have key:∃cs' g,E2 ps ts=Y cs'/\cs=g::cs'/\∃n,g=⟨X,.list n []⟩\/g=⟨X,.xl n []⟩\/g=⟨X,.xn []⟩:=by
   grind
  obtain ⟨cs',g,l,rfl,C⟩:=key;obtain⟨A,B⟩:=OR l
  grind
variable{ps:List (Option AS)}
theorem pW(L:AO F0 w0 O a w G)(hd:d<a.tmps.size)(A:o.op=.box t x)(B:AK x y=X)(h:(AF.Abi ps y).wp S O (Y d) K):BI P F0 w0 a w o d K:=by
 simp [AF.wp]at h;split at h
 .rename_i u d' hv l;simp at l;subst l;cases hb:E2 ps u.cells with
  |none=>rw[hb]at h;exact h.elim|some cs=>
   rw [hb]at h;simp[A0]at h;obtain⟨H,δ⟩:=h;obtain⟨hl,I⟩:=OR hb;have κ:=BF L B hv;have E:=Hi κ.1;have η:=BX E.1;refine⟨_,_,by simp[execOp,A,Instr.box,newVar,newRow],_,_,δ,L.box hd H (c:=(a.eval x).cells) (θ:=t) (by rw[hl];simpa using η) (λF' C i c M=>?_) (λc M=>?_)⟩
   .obtain⟨tt,ε,J⟩:=I i c M;have ζ:i<u.cells.length:=(D_.1 ε).1;have R:(a.eval x).cells.toList[i]?=Y ((a.eval x).cells.toList[i]' U):=z_ U;have g:=((Bt _ _).1 E.1).2 i tt _ ε R;refine⟨(a.eval x).cells.toList[i]' U,by rw[<-O!];exact R,?_⟩;rcases J with rfl|⟨rfl,n,rfl|rfl|rfl⟩
    .exact⟨CY C _ _ g,E.2 _ (G? _)⟩
    .simp[A3]at g;simp only[BW,E0,CI];exact⟨[],⟨V,.inl ⟨g,rfl,rfl⟩⟩,rfl,V,V⟩
    .simp[A3]at g;simp only[BW,E0];exact⟨[],⟨W,⟨V,.inl ⟨g,rfl,rfl⟩⟩,rfl⟩,rfl,V,V⟩
    .simp[A3]at g;simp[BW,E0];exact⟨[],⟨W,⟨V,.inl ⟨g,rfl,rfl⟩⟩,rfl⟩,V,V⟩
   grind [D',CC,JC,x?,TV.WF,TV.pq]
 .exact h.elim
def Z8(A:AO F0 w0 O a w G):∀{i:Nat}{xs:List Operand}{ys:List AH},Br xs ys=X->∀{ts:Fq},Jd O i ys=Y ts->(∀x,xs[i]?=Y x->(a.eval x).oneCell'=X)->AR w (AW w0.heap.size F0 G) ts (xs.map a.eval)/\TV.pq ts
 |i,[],[],_,ts,hv,_=>by cases i<;>simp[Jd]at hv<;>subst hv<;>exact⟨rfl,trivial⟩
 |_,[],_::_,g,_,_,_=>by simp[Br]at g|_,_::_,[],g,_,_,_=>by simp[Br]at g|0,x::xs,y::ys,g,ts,hv,ho=>by
  simp [Br]at g;simp[Jd]at hv;split at hv
  next B h=>simp at hv;subst hv;have l:=Gh A g.2 h;exact⟨⟨_,_,rfl,by simp[A3];exact ho x rfl,l.1⟩,trivial,l.2⟩
  .cases hv
 |i+1,x::xs,y::ys,g,ts,hv,ho=>by
  simp [Br]at g;simp[Jd]at hv;split at hv
  next t B H h=>simp at hv;subst hv;have C:=BF A g.1 H;have l:=Z8 A g.2 h (λx E=>ho x l');exact⟨⟨_,_,rfl,C.1,l.1⟩,C.2,l.2⟩
  .cases hv
noncomputable def CD(a:Act)(G:Bh)(s:Nat):D0:=open Classical in λq i=>if q=0 then G s i else if∃k lo,G s k=Y (q-1,lo)then(match i with|some j=>G (a.tmps.size+(q-1)) (Y j)|none=>W)else W
theorem WJ{a:Act}{G:Bh}{b lo:Nat}(h:CD a G s q i=Y (b,lo)):(q=0/\G s i=Y (b,lo))\/(q≠0/\(∃k g,G s k=Y (q-1,g))/\G (a.tmps.size+(q-1)) i=Y (b,lo)):=by
 simp [CD]at h;split at h
 .grind
 .rename_i e;split at h
  .grind
  .cases h
theorem Dk{a:Act}{G:Bh}:CD a G s 0=G s:=by
 funext i;simp[CD]
def QU{a:Act}{G:Bh}{s g lo:Nat}{k:Option Nat}(h:G s k=Y (g,lo))(j:Nat):(CD a G s).tn g j=tn a G g j:=by
 simp only[D0.tn,CD,tn];rw[ae U,ac ⟨k,lo,b?⟩];rfl
theorem LH(h:AO F0 w0 O a w G)(I:s<a.tmps.size):KX (CD a G s):=by
 intro q i J L b lo C E H;rcases WJ E with⟨A,g⟩|⟨A,_,g⟩<;>rcases WJ H with⟨B,l⟩|⟨B,_,l⟩
 .exact⟨by rw[A,B],(h.ln _ _ _ _ _ _ _ g l).2⟩
 .have:=(h.ln _ _ _ _ _ _ _ g l).1;omega
 .have:=(h.ln _ _ _ _ _ _ _ g l).1;omega
 .have:=h.ln _ _ _ _ _ _ _ g l
  grind
theorem Cc{b lo:Nat}(l:CD a G s q i=Y (b,lo)):∃p j,G p j=Y (b,lo)/\(p=s\/∃g k h,p=a.tmps.size+g/\G s k=Y (g,h)):=by grind[WJ]
noncomputable def Cl(a:Act)(G:Bh)(s d:Nat)(Z:D0):Bh:=open Classical in λp=>if p=d then Z 0 else if p=s then λ_=>W else
 if a.tmps.size<=p/\∃k lo,Z 0 k=Y (p-a.tmps.size,lo)then(λi=>match i with|some j=>Z (p-a.tmps.size+1) (Y j)|none=>W)else
 if a.tmps.size<=p/\∃k lo,G s k=Y (p-a.tmps.size,lo)then λ_=>W else G p
variable{Z:D0}
def Qr{a:Act}{G:Bh}{s d:Nat}{p:Nat}{b lo:Nat}(h:Cl a G s d Z p i=Y (b,lo)):
  (p=d/\Z 0 i=Y (b,lo))\/(p≠d/\a.tmps.size<=p/\Z (p-a.tmps.size+1) i=Y (b,lo))\/(p≠d/\p≠s/\¬(a.tmps.size<=p/\∃k lo,G s k=Y (p-a.tmps.size,lo))/\G p i=Y (b,lo)):=by
 simp [Cl]at h;split at h
 next e=>exact .inl ⟨e,h⟩
 .rename_i e;split at h
  .cases h
  .rename_i g;split at h
   .rename_i l;cases i with
    |none=>cases h
    |some j=>exact .inr (.inl ⟨e,l.1,h⟩)
   .split at h
    .cases h
    next A=>exact .inr (.inr ⟨e,g,A,h⟩)
theorem AO.Aax(h:AO F0 w0 O a w G){s d:Nat}(hsz:s<a.tmps.size)(hd:d<a.tmps.size){w':World}(hb:Ho (CD a G s) w w'){env':AB}{a':Act}(ha':a'.tmps.size=a.tmps.size)(had:a'.defers=a.defers)
  (hzu:KX Z)(hz:∀q i b lo,Z q i=Y (b,lo)->b<w'.heap.size/\(w.heap.size<=b\/∃p j l,CD a G s p j=Y (b,l)/\l<=lo))
  (hdom:∀p,a.tmps.size<=p->env'.get p=.undef)(hwf:∀p,(env'.get p).WF)
  (I:∀p,p≠d->p≠s->slot a' p=slot a p)(θ:∀p,p≠d->p≠s->env'.get p=O.get p)(hgs:s≠d->env'.get s=.undef)
  (A:O.gt d=X\/(d=s/\(∃cs0,O.get s=.bx cs0)/\O.noX s W=X/\(∀n es,env'.get d≠.xo n es)/\slot a' s=slot a s)\/((∀cs,env'.get d≠.bx cs)/\∀n es,env'.get d≠.xo n es))
  (hrep:∀F',(∀b o,F' b o->(b<w.heap.size/\AW w0.heap.size F0 G b o/\¬ZF (CD a G s) b o)\/ZF Z b o)->AN a' w' F' (Cl a G s d Z) env' d (env'.get d) (slot a' d)):
  AO F0 w0 env' a' w' (Cl a G s d Z)/\∀b o,AW w0.heap.size F0 (Cl a G s d Z) b o->(b<w.heap.size/\AW w0.heap.size F0 G b o/\¬ZF (CD a G s) b o)\/ZF Z b o:=by
 have δ:∀p i b lo,p≠s->¬(a.tmps.size<=p/\∃k lo,G s k=Y (p-a.tmps.size,lo))->G p i=Y (b,lo)->∀q j l,CD a G s q j≠Y (b,l):=by
  intro p i b lo L hn B q j l J;obtain⟨p',j',ε,ζ⟩:=Cc J;obtain⟨rfl,_⟩:=h.ln _ _ _ _ _ _ _ B ε;rcases ζ with ζ|⟨g,k,lo0,rfl,f3⟩
  .exact L ζ
  .exact hn ⟨U,k,lo0,by rw[M!];exact f3⟩
 have hE:∀b o,b<w0.heap.size->ZF (CD a G s) b o->w0.E b o:=λb o hlt⟨q,i,lo,B,J⟩=>by
  obtain ⟨p,j,ε,_⟩:=Cc B;exact(h.lt _ _ _ _ ε).2.elim (λe=>U) (λe=>e o J)
 have hforb:∀b o,AW w0.heap.size F0 (Cl a G s d Z) b o->(b<w0.heap.size/\F0 b o)\/(∃p i lo,p≠s/\¬(a.tmps.size<=p/\∃k lo,G s k=Y (p-a.tmps.size,lo))/\G p i=Y (b,lo)/\lo<=o)\/ZF Z b o:=by
  rintro b o (B|⟨p,i,lo,B,J⟩)
  .exact .inl B
  .rcases Qr B with⟨_,e⟩|⟨_,_,e⟩|⟨_,e1,e2,e3⟩
   .exact .inr (.inr ⟨_,i,lo,e,J⟩)
   .exact .inr (.inr ⟨_,i,lo,e,J⟩)
   grind
 have hall:∀b o,AW w0.heap.size F0 (Cl a G s d Z) b o->(b<w.heap.size/\AW w0.heap.size F0 G b o/\¬ZF (CD a G s) b o)\/ZF Z b o:=by
  intro b o hf;rcases hforb b o hf with B|⟨p,i,lo,e1,e0,e2,e3⟩|B
  .exact .inl ⟨L_ B.1 h.below.size,.inl B,λhz=>h.below.free _ _ _ (hE b o B.1 hz) B.2⟩
  .exact .inl ⟨(h.lt _ _ _ _ e2).1,.inr ⟨p,i,lo,e2,e3⟩,λ⟨q,j,l,ε,_⟩=>δ p i b lo e1 e0 e2 q j l ε⟩
  .exact .inr B
 have hag:Bw w w' (AW w0.heap.size F0 G) (AW w0.heap.size F0 (Cl a G s d Z)):=by
  intro b o u hc hF;have hlt:b<w.heap.size:=World.block_lt_of_cell? w ⟨b,o,W⟩ hc;have hnf:¬ZF (CD a G s) b o:=λ⟨q,i,lo,B,J⟩=>by
   obtain ⟨p,j,ε,_⟩:=Cc B;exact hF (.inr ⟨p,j,lo,ε,J⟩)
  refine ⟨hb.cell b o u hnf hc,λhF'=>?_⟩;rcases hall b o hF' with⟨_,B,_⟩|⟨q,i,lo,B,J⟩
  .exact hF B
  .rcases(hz q i b lo B).2 with h3|⟨p,j,l,h3,h4⟩
   .omega
   .exact hnf ⟨p,j,l,h3,L' h4 J⟩
 have hlow:∀p,p<a.tmps.size->p≠d->p≠s->Cl a G s d Z p=G p:=by
  intro p hp B J;simp[Cl];rw[ae B,ae J,ae (λe=>q!),ae (λe=>q!)]
 refine ⟨⟨?_,?_,?_,had.trans h.defers,λp hp=>hdom p U,?_,hwf⟩,hall⟩
 .intro p i p' i' b lo l e1 e2;have mix:∀p i q i' lo l,p≠s->¬(a.tmps.size<=p/\∃k lo,G s k=Y (p-a.tmps.size,lo))->G p i=Y (b,lo)->Z q i'=Y (b,l)->False:=by
   intro p i q i' lo l hp hn ε ζ;rcases(hz q i' b l ζ).2 with h3|⟨p2,j,κ,h3,_⟩
   .have:=(h.lt _ _ _ _ ε).1;omega
   .exact δ p i b lo hp hn ε p2 j κ h3
  rcases Qr e1 with⟨ε,R⟩|⟨ε,f3,R⟩|⟨_,f3,f4,R⟩<;>rcases Qr e2 with⟨ζ,g2⟩|⟨ζ,f5,g2⟩|⟨_,f5,f6,g2⟩
  .exact⟨by rw[ε,ζ],(hzu _ _ _ _ _ _ _ R g2).2⟩
  .have:=(hzu _ _ _ _ _ _ _ R g2).1;omega
  .exact(mix _ _ _ _ _ _ f5 f6 g2 R).elim
  .have:=(hzu _ _ _ _ _ _ _ R g2).1;omega
  .have:=hzu _ _ _ _ _ _ _ R g2;exact⟨U,this.2⟩
  .exact(mix _ _ _ _ _ _ f5 f6 g2 R).elim
  .exact(mix _ _ _ _ _ _ f3 f4 R g2).elim
  .exact(mix _ _ _ _ _ _ f3 f4 R g2).elim
  .exact h.ln _ _ _ _ _ _ _ R g2
 .intro p i b lo e1;have znew:∀q i,Z q i=Y (b,lo)->b<w'.heap.size/\(w0.heap.size<=b\/∀o,lo<=o->w0.E b o):=by
   intro q i ε;obtain⟨B,J⟩:=hz q i b lo ε;refine⟨B,?_⟩;rcases J with J|⟨p,j,l,J,h3⟩
   .exact .inl (L' h.below.size J)
   .obtain⟨p',j',ζ,_⟩:=Cc J;exact(h.lt _ _ _ _ ζ).2.imp id (λe o ho=>e o (L' h3 ho))
  rcases Qr e1 with⟨_,R⟩|⟨_,_,R⟩|⟨_,_,_,R⟩
  .exact znew _ _ R
  .exact znew _ _ R
  .exact⟨L_ (h.lt _ _ _ _ R).1 hb.size,(h.lt _ _ _ _ R).2⟩
 .refine h.below.trans hb.os hb.tape hb.output hb.size (λk hk he=>hb.block k (L_ hk h.below.size) (λq i lo η=>he lo (hE k lo hk ⟨q,i,lo,η,az _⟩))) (λb o u hlt he hu=>hb.cell b o u (λη=>he (hE b o hlt η)) hu)
 .intro p hp;rw[ha']at hp;by_cases hpd:p=d
  .subst hpd;exact hrep _ hall
  .by_cases L:p=s
   .subst L;rw[hgs hpd];trivial
   .rw[θ p hpd L,I p hpd L];have hn:¬(a.tmps.size<=p/\∃k lo,G s k=Y (p-a.tmps.size,lo)):=λe=>q!
    have hsame:∀r,(r≠d->r≠s)->r≠d->slot a' r=slot a r:=λr B J=>I r J (B J);refine AN.kept' hag (λi=>by rw[hlow p hp hpd L]) (λi b lo η=>hb.block b (h.lt _ _ _ _ η).1 (λq j l=>δ p i b lo L hn η q j l)) (λi g lo j hg=>?_) (λi g lo j b l hg hr=>?_) (λr i k hr⟨pp,M⟩=>?_) (λr off hr⟨cs2,hcs⟩=>?_) (λr i hr⟨pp,M⟩=>?_) (h.slots p hp)
    .show Cl a G s d Z (a'.tmps.size+g) (Y j)=G (a.tmps.size+g) (Y j);rw[ha'];simp[Cl];rw[ae U,ae U,ae,ae]
     .rintro⟨_,k,l,e⟩;rw[M!]at e;exact L (h.ln _ _ _ _ _ _ _ hg e).1
     .rintro⟨_,k,l,e⟩;rw[M!]at e;rcases(hz _ _ _ _ e).2 with h3|⟨p2,j2,κ,h3,_⟩
      .have:=(h.lt _ _ _ _ hg).1;omega
      .exact δ p i g lo L hn hg p2 j2 κ h3
    .refine hb.block b (h.lt _ _ _ _ hr).1 (λq j2 κ hzf=>?_);obtain⟨p',j',ε,ζ⟩:=Cc hzf;obtain⟨e1,_⟩:=h.ln _ _ _ _ _ _ _ hr ε;rcases ζ with ζ|⟨g',k,lo0,f3,f4⟩
     .omega
     .have:g=g':=U
      subst this;exact L (h.ln _ _ _ _ _ _ _ hg f4).1
    .obtain⟨cs,B,J⟩:=AB.rr M;by_cases C:r=d
     .subst C;rcases A with A|⟨rfl,_,A,_⟩|⟨A,_⟩
      .exact absurd hr (AB.Abf _ O A p i k)
      .exact absurd hr (AB.noX_nh A p i (.inl rfl) k)
      .exact absurd B (A cs)
     .by_cases H:r=s
      .subst H;rw[hgs C]at B;cases B
      .have h4:O.nat r i=Y pp:=by rw[<-M];exact(AB.Aar (θ r C H)).symm
       have hrl:r<a.tmps.size:=h.lts (by rw[<-θ r C H,B];simp);exact⟨⟨pp,h4⟩,h.nh ⟨pp,h4⟩ (I r C H) (λj b _ hb'=>hb.block b (h.lt _ _ _ _ hb').1 (λq j2 κ=>δ r j b 0 H (λe=>q!) hb' q j2 κ))⟩
    .by_cases C:r=d
     .subst C;rcases A with A|⟨e1,⟨cs0,e2⟩,_,_,hds⟩|⟨A,_⟩
      .exact absurd hr (AB.AaO _ O A p off)
      .exact⟨⟨cs0,by rw[e1];exact e2⟩,by rw[e1];exact hds⟩
      .exact absurd hcs (A cs2)
     .by_cases H:r=s
      .subst H;rw[hgs C]at hcs;cases hcs
      .exact⟨⟨cs2,by rw[<-θ r C H];exact hcs⟩,I r C H⟩
    .by_cases C:r=d
     .subst C;obtain⟨n,es⟩:=pp;rcases A with A|⟨rfl,_,A,hxo,_⟩|⟨A,hxo⟩
      .have hx:=AB.AaW _ O A p;rcases hr with hr|⟨c,hr⟩
       .exact absurd hr (hx.1 i)
       .exact absurd hr (hx.2 i c)
      .cases i with
       |none=>exact absurd (AB.tl M) (hxo n es)|some k=>
        have h5:=AB.noX_spec A p k (.inl rfl);rcases hr with hr|⟨c,hr⟩
        .exact absurd hr h5.1
        .exact absurd hr (h5.2 c)
      .cases i with
       |none=>exact absurd (AB.tl M) (hxo n es)|some k=>
        obtain ⟨cs,B,_⟩:=AB.pr M;exact absurd B (A cs)
     .by_cases H:r=s
      .subst H;rw[AB.AaH (hgs C)]at M;cases M
      .have h4:O.so r i=Y pp:=by rw[<-M];exact(AB.Aal (θ r C H)).symm
       have hrl:r<a.tmps.size:=by
        refine h.lts (λe=>?_);rw[AB.AaH e]at h4;cases h4
       exact ⟨⟨pp,h4⟩,h.xv ⟨pp,h4⟩ (I r C H) (λb hb'=>hb.block b (h.lt _ _ _ _ hb').1 (λq j2 κ=>δ r W b 0 H (λe=>q!) hb' q j2 κ))⟩
def Rv{a a':Act}{G:Bh}{s d:Nat}(ha:a'.tmps.size=a.tmps.size)(hd:d<a.tmps.size)(l:s<a.tmps.size){k:Option Nat}{g lo:Nat}(h:Z 0 k=Y (g,lo))(j:Nat):tn a' (Cl a G s d Z) g j=Z.tn g j:=by
 show Cl a G s d Z (a'.tmps.size+g) (Y j)=Z.tn g j;rw[ha];simp only[Cl,D0.tn];rw[ae U,ae U,ac ⟨U,k,lo,by rw[M!];exact h⟩]
 grind
def AO.reboxed(h:AO F0 w0 O a w G){cs cs':List AS}(R:O.get s=.bx cs)(H:O.noX s W=X){w':World}(hb:Ho (CD a G s) w w')
  (A:PB w' (λb o=>(b<w.heap.size/\AW w0.heap.size F0 G b o/\¬ZF (CD a G s) b o)\/ZF Z b o) Z cs' (slot a s))
  (I:KX Z)(ε:∀q i b lo,Z q i=Y (b,lo)->b<w'.heap.size/\(w.heap.size<=b\/∃p j B,CD a G s p j=Y (b,B)/\B<=lo))(κ:∀c∈cs',c.t.WF):
  AO F0 w0 ((s,.bx cs')::O) a w' (Cl a G s s Z)/\∀b o,AW w0.heap.size F0 (Cl a G s s Z) b o->(b<w.heap.size/\AW w0.heap.size F0 G b o/\¬ZF (CD a G s) b o)\/ZF Z b o:=by
 have l:s<a.tmps.size:=Bz h R V;have C:AB.get ((s,EV.bx cs')::O) s=.bx cs':=by rw[AB.d7,ac rfl]
 refine h.Aax l l hb rfl rfl I ε (λp η=>by rw[AB.d7,ae U];exact h.dom p η) (λp=>?_) (λ_ _ _=>rfl) (λp _ J=>by rw[AB.d7,ae (λe=>J e.symm)]) (λe=>absurd rfl e) (.inr (.inl ⟨rfl,⟨cs,R⟩,H,(λn es e=>by rw[C]at e;cases e),rfl⟩)) (λF' L=>?_)
 .rw[AB.d7];split
  .exact κ
  .exact h.wf p
 .rw[C];obtain⟨b,c,θ,h1,h2,h3,h4,h5⟩:=A;have E:Cl a G s s Z s=Z 0:=by simp[Cl]
  simp only[AN];refine⟨b,c,θ,h1,h2,h3,by rw[E];exact h4,λi d hd=>?_⟩;obtain⟨x,e1,e2⟩:=h5 i d hd;refine⟨x,e1,?_⟩;rw[E];exact(e2.kept (λb o u ζ hf=>⟨ζ,λM=>hf (L b o M)⟩) (λ_ _ _=>rfl) BY.rfl').tn (λg lo j δ=>Rv rfl l l δ j)
theorem mO(l:AO F0 w0 O a w G)(hd:d<a.tmps.size)(R:o.dst=Y d){xs:Array Operand}{ys:List AH}{i:Nat}(hop:o.op=.call {callee:=.value (.func f),args:=xs,argTypes:=ats})(ε:Br xs.toList ys=X)(h:(AF.Aas f ys i).wp (AV P) O (Y d) K)
  {next:Act->World->Prop}{Q:Exit->Act->World->Prop}(hn:∀e env' a' w',K e env'->SC a d a'->CE F0 w0 ((d,e)::env') a' w'->next a' w'):o.wp P a w next Q:=by
 simp only[AF.wp]at h;split at h
 .rename_i d' s η H;simp at η;subst η;split at h
  .rename_i cs ζ;obtain⟨⟨hno,hds⟩,h⟩:=h;cases J:Jd O i ys with
   |none=>rw[J]at h;exact h.elim|some ts=>
    rw [J]at h;simp only[A0]at h;obtain⟨cs',us,hS,hK⟩:=h;rw[Q!]at H;obtain⟨y,hy,H⟩:=H;have hxi:∀(xs:List Operand)(ys:List AH)(i:Nat)(y:AH),Br xs ys=X->ys[i]?=Y y->∃x,xs[i]?=Y x/\AK x y=X:=by
     intro xs
     induction xs with
     |nil=>intro ys i y B C;cases ys<;>simp[Br]at B C
     |cons x xs ih=>
      intro ys i y B C;cases ys with
      |nil=>simp[Br]at B|cons z ys=>
       simp [Br]at B
       grind
    obtain ⟨x,hx,hxy⟩:=hxi _ _ _ _ ε hy;obtain⟨b,hsl,E⟩:=IT l hxy H ζ;have hv:=Z8 l ε J (λx' κ=>by rw[hx]at κ;cases κ;rw[E];rfl);have δ:=l.wf s;rw[ζ]at δ;have hbx:=At l ζ V;have hsplit:∀b o,AW w0.heap.size F0 G b o↔((AW w0.heap.size F0 G b o/\¬ZF (CD a G s) b o)\/ZF (CD a G s) b o):=by
     intro b o;constructor
     .grind
     .rintro(hf|⟨q,i,lo,B,C⟩)
      .exact hf.1
      .obtain⟨p,j,L,_⟩:=Cc B;exact .inr ⟨p,j,lo,L,C⟩
    have hF:(λb o=>(AW w0.heap.size F0 G b o/\¬ZF (CD a G s) b o)\/ZF (CD a G s) b o)=AW w0.heap.size F0 G:=by
     grind
    obtain ⟨C,h3⟩:=hS hv.2 δ;have hbr:PB w (λb o=>(AW w0.heap.size F0 G b o/\¬ZF (CD a G s) b o)\/ZF (CD a G s) b o) (CD a G s) cs (slot a s):=by
     rw [hF];obtain⟨b,c,θ,B,C,h3,h4,h5⟩:=hbx;refine⟨b,c,θ,B,C,h3,by rw[Dk];exact h4,λi d hd=>?_⟩;obtain⟨x,e1,e2⟩:=h5 i d hd;exact⟨x,e1,by rw[Dk];exact e2.tn (λg lo j hg=>QU hg j)⟩
    obtain ⟨⟨k1,k2⟩,k3⟩:=h3 (λb o=>AW w0.heap.size F0 G b o/\¬ZF (CD a G s) b o) w (xs.map a.eval) (slot a s) (CD a G s) (by rw[hF];simpa using hv.1)
     (by rw[O?];rw[<-O!,hx];simp;rw[E,hsl]) hbr (LH l (Bz l ζ V)) (λq i b lo e=>by obtain⟨p,j,L,_⟩:=Cc e;exact(l.lt _ _ _ _ L).1)
     (by
      rintro b o o' ⟨q,i,lo,e1,e2⟩ ⟨hf,hnz⟩;by_cases hlo:lo<=o'
      .exact hnz ⟨q,i,lo,e1,hlo⟩
      .obtain⟨p,j,L,_⟩:=Cc e1;exact QI l b lo o' L U hf)
     ⟨l.below.now,λb o⟨_,_,_,e,_⟩=>by obtain⟨_,_,L,_⟩:=Cc e;exact l.low L⟩
    have hrun:(execOp a.eval o).run P w=(callFunc f (xs.map a.eval)).run P w:=by simp[execOp,hop,resolve,Act.eval,Deferred.ofValue,invoke]
    unfold Oper.wp;rw[hrun,FM C _,Oper.upon_enter];refine k3.mono ?_;rintro e w' ⟨r,M,rfl,r1,r2,r3,r4,r5⟩;simp[R];obtain⟨hI',I⟩:=l.reboxed ζ hno r1 r2 r3 r4 k1;refine hn _ _ _ _ (hK ⟨k1,k2⟩) ⟨_,rfl⟩ ?_;have hall:∀b o,AW w0.heap.size F0 (K9 (Cl a G s s M) d λ_=>W) b o->(b<w.heap.size/\AW w0.heap.size F0 G b o/\¬ZF (CD a G s) b o)\/ZF M b o:=by
     intro b o hf;have hf2:AW w0.heap.size F0 (Cl a G s s M) b o:=AW.mono (λp i b lo H=>by
      by_cases hpd:p=d
      .grind[CP]
      .rw[Bb _ _ _ _ hpd]at H;exact⟨p,i,lo,H,az _⟩) hf
     exact I b o hf2
    have A:Bw w' w' (λb o=>(b<w.heap.size/\AW w0.heap.size F0 G b o/\¬ZF (CD a G s) b o)\/ZF M b o) (AW w0.heap.size F0 (K9 (Cl a G s s M) d λ_=>W)):=λb o u hc hf=>⟨hc,λI=>hf (hall b o I)⟩;by_cases hus:∃t,us=[t]
    .obtain⟨t,rfl⟩:=hus;exact hI'.tv (Below.refl _ _) d hd t r (CY A t r r5) k2.1
    .have hof:EV.ofs us=.tp us:=by
      rcases us with _|⟨t,_|⟨t',us⟩⟩
      .rfl
      .grind
      .rfl
     have hur:∃vs,r=.tuple vs/\AR w' (λb o=>(b<w.heap.size/\AW w0.heap.size F0 G b o/\¬ZF (CD a G s) b o)\/ZF M b o) us vs.toList:=by
      rcases us with _|⟨t,_|⟨t',us⟩⟩
      .exact r5
      .grind
      .exact r5
     obtain ⟨vs,rfl,hvs⟩:=hur;rw[hof];refine⟨_,hI'.quiet (Below.refl _ _) d hd (.tp us) _ (λ_=>W) V V V ?_ k2⟩;simp only[AN];exact⟨vs,rfl,A6 A us _ hvs⟩
  .exact h.elim
 .exact h.elim
end
end Go.Sf
namespace Go.Sf
open Go.RowKit (Below)
def L9{z g:Value}(h:z.cells=#[g])(k:Nat):Builtin.zeroCells z.cells k=(B? k g).toArray:=by
 rw [h];apply Array.ext
 .simp[Builtin.zeroCells]
 .intro i l A;simp[Builtin.zeroCells,Nat.mod_one]
section
variable{P:Program}{w:World}
def Tx(t θ ty e ε:TypeId)(i:TypeInfo)(z L:Value)(kq kn:IntKind)(κ:P.underlying t=Y (.slice e))(E:P.underlying θ=Y (.int kn))(hi:P.info? e=Y i)(hz:i.zero=Y z)(η:i.size=1)(M:z.cells=#[L])(h1:L.oneCell'=X)
  (g h l:Nat)(A:Array Value)(hg:w.heap[g]?=Y (.cells A ε (0,0)))
  (k:Nat)(h48:k*i.bytes<=281474976710656)(ζ:(k:Int)<=9223372036854775807)(C:h+k<=l)(H:h+k<=A.size):
  (Builtin.append_ #[t,θ] ty #[.slice (Y ⟨g,0,W⟩) h l,.int kq k]).run P w=
   .ok (.slice (Y ⟨g,0,W⟩) (h+k) l) (w.setRow g (A.toList.take h++B? k L++A.toList.drop (h+k)).toArray):=by
 have hw:IntKind.i64.wrap (k:Int)=k:=by rw[IntKind.wrap_i64];omega
 have I:¬((k:Int)<0):=U
 have J:¬(281474976710656<(k:Int)*(i.bytes:Int)):=by
  grind
 have B:=run_storeCells_at P g h ε (B? k L) 0 A w hg w? (λu hu=>by rw[C! hu];exact h1);simp at B;by_cases δ:k=0
 .subst δ;simp at B;have R:IntKind.i64.wrap 0=0:=a!
  simp [Builtin.append_,run_underlying κ,run_underlying E,sizeOf,typeInfo,hi,asInt,asIntOf,R,η,show h<=l from U,Addr.add_lit,B]
 .simp[Builtin.append_,run_underlying κ,run_underlying E,sizeOf,typeInfo,zeroValue,hi,hz,asInt,asIntOf,hw,I,J,η,δ,C,Addr.add_lit,L9 M,B]
def VF(t h ty e:TypeId)(i:TypeInfo)(l A:IntKind)(B:P.underlying t=Y (.slice e))(g:P.underlying h=Y (.int A))(hi:P.info? e=Y i):
  (Builtin.append_ #[t,h] ty #[.slice W 0 0,.int l 0]).run P w=.ok (.slice W 0 0) w:=by
 have C:IntKind.i64.wrap 0=0:=a!
 simp [Builtin.append_,run_underlying B,run_underlying g,sizeOf,typeInfo,hi,asInt,asIntOf,C]
def sB(t ζ ty e:TypeId)(i:TypeInfo)(z δ:Value)(kq kn:IntKind)(ht:P.underlying t=Y (.slice e))(L:P.underlying ζ=Y (.int kn))(hi:P.info? e=Y i)(hz:i.zero=Y z)
  (hs:i.size=1)(hby:i.bytes<=4096)(C:z.cells=#[δ])(h1:δ.oneCell'=X)(v:Value)(len:Nat)(xs:List Value)(zo:Option (Nat×Nat))(l:Gv w 1 v len xs zo)(k:Nat)(hk:k<=4096)(R:len+k<=AX):
  ∃v' w' z',(Builtin.append_ #[t,ζ] ty #[v,.int kq k]).run P w=.ok v' w'/\Gv w' 1 v' (len+k) (xs++B? k δ) z'/\J9 w w' zo z':=by
 have A:(xs++B? k δ).length=(len+k)*1:=by rw[b6,l.1,C'];omega
 have M:(len+k)*i.bytes<=140737488355328:=by
  calc (len+k)*i.bytes<=AX*4096:=M_ R hby
   _<=140737488355328:=a!
 have θ:k*i.bytes<=281474976710656:=by
  grind
 have hml:len+k<=maxLen:=by simp[maxLen,AX]at *;omega
 have hzlt:∀b lo,zo=Y (b,lo)->b<w.heap.size:=by
  intro b lo hb;rcases l.2 with⟨_,_,h⟩|⟨g,cap,I,η,_,hg,_,_,_,_,h⟩
  .rw[h]at hb;cases hb
  grind
 have E:∀(old:Nat),old<len+k ->
   Gv (w.drew.alloc (.cells (xs.toArray++Builtin.zeroCells z.cells k++Builtin.zeroCells z.cells (grownCap w (len+k) old e-(len+k))) e)) 1
    (.slice (Y ⟨w.heap.size,0,W⟩) (len+k) (grownCap w (len+k) old e)) (len+k) (xs++B? k δ) (Y (w.heap.size,(len+k)*1))/\
   J9 w (w.drew.alloc (.cells (xs.toArray++Builtin.zeroCells z.cells k++Builtin.zeroCells z.cells (grownCap w (len+k) old e-(len+k))) e)) zo (Y (w.heap.size,(len+k)*1)):=by
  intro old ho;have hge:=grownCap_ge w (len+k) old e;have ε:grownCap w (len+k) old e<=maxLen:=grownCap_le_maxLen w (len+k) old e hml;have hxl:xs.length=len:=by simpa using l.1
  refine ⟨⟨A,.inr ⟨w.heap.size,_,_,e,rfl,heap_alloc_new w.drew _,hge,ε,?_,?_,rfl⟩⟩,⟨rfl,rfl,rfl,V,λk hk _=>Below.heap_alloc w.drew _ k hk,λb o v hc _=>?_,λb lo hb=>?_⟩⟩
  .rw[L9 C,L9 C];simp[hxl];omega
  .rw[L9 C,L9 C];simp only[Array.toList_append,ci];rw[<-ci,<-A];exact H_
  .have hb:b<w.heap.size:=World.block_lt_of_cell? w ⟨b,o,W⟩ hc;rw[World.cell?_alloc_lt _ _ (a:=⟨b,o,W⟩) (by simpa using hb)];simpa using hc
  .simp at hb;rw[<-hb.1];exact⟨V,.inl (az _)⟩
 rcases l.2 with⟨rfl,rfl,rfl⟩|⟨g,cap,I,η,rfl,hg,hnc,ε,hcs,J,rfl⟩
 .have hx:xs=[]:=y_ (by simpa using l.1);subst hx;by_cases hk0:k=0
  .subst hk0;exact⟨_,_,W,VF t ζ ty e i kq kn ht L hi,⟨V,.inl ⟨rfl,rfl,rfl⟩⟩,J9.refl w W V⟩
  .have hr:=Lib.run_append_nil_zeros (P:=P) w t ζ ty e i z kq kn ht L hi hz k U U U θ;have B:=E 0 U;simp only[N',List.nil_append,Array.empty_append]at B hr|-;exact⟨_,_,_,hr,B.1,B.2⟩
 .have hxl:xs.length=len:=by simpa using l.1
  simp at hcs J;by_cases H:len+k<=cap
  .have hr:=Tx (P:=P) (w:=w) t ζ ty e η i z δ kq kn ht L hi hz hs C h1 g len cap I hg k θ U H U;refine⟨_,_,Y (g,(len+k)*1),hr,⟨A,.inr ⟨g,cap,_,η,rfl,setRow_heap w g I _ η _ hg,H,ε,?_,?_,rfl⟩⟩,⟨rfl,rfl,rfl,V,λj _ hj=>setRow_other w g j _ (λe=>hj (len*1) (by rw[e])),λb o u hc hlo=>?_,λb lo hb=>?_⟩⟩
   .simp;omega
   .rw[J,<-A];exact H_
   .by_cases hbg:b=g
    .subst hbg;have ho:=hlo (len*1) rfl;rw[cell_of_row _ b o _ η (0,0) (setRow_heap w b I _ η _ hg)];rw[cell_of_row w b o I η (0,0) hg]at hc;rw[E!,ci,E_ an,F_ U];simpa using hc
    .rw[World.cell?_of_block (w:=w) (a:=⟨b,o,W⟩) (setRow_other w g b _ (λe=>hbg e))];exact hc
   .simp only[p0,Prod.mk.injEq]at hb;obtain⟨rfl,rfl⟩:=hb;refine⟨by simpa using hzlt g (len*1) rfl,.inr ⟨len*1,rfl,L! _ U⟩⟩
  .have κ:(Builtin.firstCells i.size len (.slice (Y ⟨g,0,W⟩) len cap)).run P w.drew=.ok xs.toArray w.drew:=by
    refine run_firstCells_some (P:=P) w.drew i.size len ⟨g,0,W⟩ len cap xs (by rw[hs];omega) (λj u hu=>?_);rw[Addr.add_lit,N'];have:=l.cell rfl j u hu;simpa using this
   have hr:=Lib.run_append_grow_zeros (P:=P) w t ζ ty e i z kq kn ht L hi hz (Y ⟨g,0,W⟩) len cap xs κ k U U U (by simp[AX]at R;omega) θ (growslice_fits U M);have B:=E cap U;exact⟨_,_,_,hr,B.1,B.2⟩
end
def Operand.AbC(n:Nat):Operand->Bool
 |.tmp m=>m==n|_=>T
variable{n:Nat}{x:Operand}
theorem Operand.isTmp_eq'(h:Operand.AbC n x=X):x=.tmp n:=by
 cases x<;>simp[Operand.AbC]at h;rw[h]
def oK(P:Program)(n s:Nat)(z:TV)(x:AH)(c:Call):Bool:=
 match c.callee,c.args.toList,c.argTypes.toList with
 |.builtin .append,[p,q],[t,t']=>Operand.AbC s p&&AK q x&&(match P.underlying t,P.underlying t' with
  |some (.slice e),Y (.int _)=>(match P.info? e with
   |some i=>(match i.zero with
    |some zz=>(match zz.cells.toList with
     |[z0]=>n==1&&i.size==1&&decide (i.bytes<=4096)&&Eo z z0&&z0.oneCell'|_=>T)
    |none=>T)
   |none=>T)
  |_,_=>T)
 |_,_,_=>T
section
variable{P:Program}{S:FuncId->Fq->BA->Prop}{F0:Nat->Nat->Prop}{w0:W0}{O:AB}{a:Act}{w:World}{G:Bh}{d:Nat}{o:Oper}{K:EV->AB->Prop}
variable{s:Nat}{x:Operand}{y:AH}{t t' e:TypeId}
theorem pS(ε:AO F0 w0 O a w G)(hd:d<a.tmps.size){kn:IntKind}{i:TypeInfo}{κ B:Value}{z:TV}(η:o.op=.call {callee:=.builtin .append,args:=#[.tmp s,x],argTypes:=#[t,t']})
  (ht:P.underlying t=Y (.slice e))(ζ:P.underlying t'=Y (.int kn))(hi:P.info? e=Y i)(l:i.zero=Y κ)(δ:i.size=1)(hby:i.bytes<=4096)(hzc:κ.cells=#[B])(H:Eo z B=X)(h1:B.oneCell'=X)
  (hok:AK x y=X)(h:(AF.Abd 1 s z y).wp S O (Y d) K):BI P F0 w0 a w o d K:=by
 simp [AF.wp]at h;split at h
 .rename_i d' m es kk j I hs hy;simp at I;subst I;obtain⟨⟨⟨rfl,_⟩,L⟩,⟨h0,h4⟩,⟨g,hno,hds⟩,hK⟩:=h;obtain⟨k,rfl⟩:∃k:Nat,j=k:=⟨j.toNat,U⟩;simp at g hK;have A:=At ε hs V;have C:=ε.wf s;rw[hs]at C;simp[AN]at A;obtain⟨xs,⟨zo,k1,M⟩,k2,k3,k4⟩:=A;have hv:=(BF ε hok hy).1;simp[A3]at hv;obtain⟨v',w',z',R,r1,E⟩:=sB (P:=P) t t' o.type e i κ B kk kn ht ζ hi l δ hby hzc h1 (slot a s) es.length xs zo k1 k U g;have hnz:∀k,(∀lo,G s W≠Y (k,lo))->∀lo,zo≠Y (k,lo):=λk hk lo l=>hk 0 (by rw[M,l];rfl);have hfm:∀k,(B? k z).flatMap TV.cells=B? k z:=by
   intro k
   induction k with
   |zero=>rfl|succ k ih=>rw[C_,x!,ih,L];rfl
  refine ⟨v',w',?_,_,_,hK,ε.xgo hs hd hds (z':=z'.map λp=>(p.1,0)) E.os E.tape E.output E.size (λk hk l=>E.other k hk (hnz k l)) (λb lo l=>?_) V (λ_=>hno) (λF' G' env' a' hag hG _=>?_) ?_⟩
  .simp[execOp,η,resolve,invoke,builtin,show a.eval (.tmp s)=slot a s from rfl,hv,R]
  .cases z' with
   |none=>simp at l|some p=>
    simp at l;obtain⟨q1,θ⟩:=E.AbD p.1 p.2 rfl;rw[<-l.1];refine⟨q1,?_⟩;rcases θ with θ|⟨lo',θ,_⟩
    .exact .inl θ
    .exact .inr ⟨0,by rw[M,θ];rfl⟩
  .simp only[AN];rw[hG];refine⟨xs++B? k B,⟨z',by rw[b6,C'];exact r1,rfl⟩,?_,?_,?_⟩
   .rw[B',hfm];refine JS (A6 hag _ _ k2) ?_;rw[Bt];refine⟨V,λi u v hu hv=>?_⟩;rw[C! (x? hu),C! (x? hv)];exact(IZ _ F' z B H).1
   .intro e he;rcases B!.1 he with he|he
    .exact k3 e he
    .rw[C! he,L];rfl
   .intro x J;rcases B!.1 J with J|J
    .exact k4 x J
    .rw[C! J];exact h1
  .simp only[EV.WF,TV.WF]at C|-;refine⟨by rw[b6,C'];exact Vq g,Lw.2 ⟨C.2,?_⟩⟩;rw[CC];intro u hu;rw[C! hu];exact(IZ w (λ_ _=>False) z B H).2
 .exact h.elim
variable{f:FuncId}{ats:Array TypeId}
theorem mQ(B:AO F0 w0 O a w G)(hd:d<a.tmps.size){xs:Array Operand}{ys:List AH}(l:o.op=.call {callee:=.value (.func f),args:=xs,argTypes:=ats})(A:Br xs.toList ys=X)(h:(AF.Aa3 f ys).wp (AV P) O (Y d) K):BI P F0 w0 a w o d K:=by
 simp [AF.wp]at h;cases g:vals O ys with
 |none=>rw[g]at h;exact h.elim|some ts=>
  rw [g]at h;simp[A0]at h;obtain⟨us,C,E⟩:=h;have hv:=Gh B A g;obtain⟨⟨L,H⟩,I⟩:=C hv.2;obtain⟨r,J,M⟩:=I w (xs.map a.eval) (by simpa using A6 Zk _ _ hv.1);refine⟨.tuple r,w,by simp[execOp,l,resolve,Act.eval,Deferred.ofValue,invoke,<-J],_,_,E,_,B.quiet (Below.refl _ _) d hd (.tp us) _ (λ_=>W) V V V ?_ H⟩
  grind [AN,Hh]
def fJ(P:Program)(t:TypeId)(n:Nat):Bool:=
 match P.underlying t with
 |some (.slice e)=>(match P.info? e with
  |some ie=>ie.size==n|none=>T)
 |_=>T
variable{n:Nat}
theorem pi(H:AO F0 w0 O a w G)(hd:d<a.tmps.size)(A:o.op=.buildSlice t 0 #[])(g:fJ P t n=X)(h:(AF.Abk n).wp S O (Y d) K):BI P F0 w0 a w o d K:=by
 simp [AF.wp]at h;obtain⟨C,J⟩:=h;unfold fJ at g;split at g
 .rename_i e I;split at g
  .rename_i L B;have l:(execOp a.eval o).run P w=.ok (.value (.slice (Y ⟨w.heap.size,0,W⟩) 0 0)) (w.alloc (.cells #[] e)):=by
    simp [execOp,A,Instr.buildSlice,run_underlying I,sizeOf,typeInfo,B,Instr.fill,newRow]
    grind
   have hb:Below w.heap.size w (w.alloc (.cells #[] e)):=(Below.refl _ _).alloc (az _) _;refine⟨_,_,l,_,_,J,H.AbW hb hd C (z:=Y (w.heap.size,0*n)) (xs:=[]) ⟨V,.inr ⟨w.heap.size,0,_,e,V,heap_alloc_new w _,V,by simp[maxLen],V,V,V⟩⟩ (λb lo E=>?_) (λF' _=>rfl) V V ⟨V,trivial⟩⟩;simp at E;rw[<-E.1];exact⟨az _,V⟩
  .cases g
 .cases g
def LX(h:AB):∀(g:QQ)(O:AB)(n:Nat),AB.get (SQ h g O) n=if n∈g then(h.get n).gave else O.get n
 |[],_,_=>by simp[SQ]|q::g,O,n=>by
  rw [SQ,AB.d7,LX h g O n]
  grind
theorem NU(e:EV):(∃t,e=.ow t/\e.gave=.tv t)\/e.gave=.undef:=by
 cases e<;>first|exact .inl ⟨_,rfl,rfl⟩|exact .inr rfl
abbrev Sy:=Value ⊕ (Operand×Nat×Nat)
def WD:List Sy->Nat->List Sy->List Sy
 |l,_,[]=>l|l,i,y::ys=>WD (l.set i y) (i+1) ys
def T1(place:Nat->Option (Nat×Nat)):List (Nat×Operand)->List Sy->Option (List Sy)
 |[],row=>Y row|(i,x)::ps,row=>match place i with
  |some (off,n)=>if off+n<=row.length then T1 place ps (WD row off ((List.range n).map λk=>.inr (x,k,n)))else W|none=>W
def Sy.is(a:Act):Sy->Value->Prop
 |.inl u,v=>v=u|.inr (x,k,_),v=>(a.eval x).cells[k]?=Y v
def So(a:Act)(row:List Sy)(xs:List Value):Prop:=xs.length=row.length/\∀(j:Nat)(s:Sy)(v:Value),row[j]?=Y s->xs[j]?=Y v->s.is a v
variable{v:Value}
def pH{a:Act}{row:List Sy}{xs:List Value}(h:So a row xs){s:Sy}(B:s.is a v)(i:Nat):So a (row.set i s) (xs.set i v):=by
 refine ⟨by simp[h.1],λj s' A g l=>?_⟩;rw[y!]at g l;by_cases e:i=j
 .grind
 .rw[ae e]at g l;exact h.2 j s' A g l
def bd{a:Act}:∀{g:List Sy}{vs:List Value}{row:List Sy}{xs:List Value}(i:Nat),So a row xs->So a g vs->So a (WD row i g) (Xl xs i vs)
 |[],[],_,_,_,h,_=>h|[],_::_,_,_,_,_,h=>by have:=h.1;simp at this|_::_,[],_,_,_,_,h=>by have:=h.1;simp at this|s::g,v::vs,row,xs,i,h,l=>by
  rw [WD,Xl];exact bd (i+1) (pH h (l.2 0 s v rfl rfl) i) ⟨by have:=l.1;simpa using this,λj s' A B C=>l.2 (j+1) s' A o_ (by simpa using C)⟩
def eJ{a:Act}{place:Nat->Option (Nat×Nat)}:∀{ps:List (Nat×Operand)}{row g:List Sy}{xs:Array Value},So a row xs.toList->(∀p∈ps,∀off n,place p.1=Y (off,n)->(a.eval p.2).cells.size=n)->T1 place ps row=Y g ->
  ∃xs',Instr.fill place xs (ps.map λ(i,x)=>(i,a.eval x))=Y xs'/\So a g xs'.toList
 |[],row,g,xs,h,_,hf=>by
  simp [T1]at hf;subst hf;exact⟨xs,rfl,h⟩
 |(i,x)::ps,row,g,xs,h,E,hf=>by
  rw [T1]at hf;split at hf
  .rename_i off n A;split at hf
   .rename_i H;have l:=E (i,x) V off n A;simp only at l;have I:=h.1;rw[O_]at I;have hr:So a (WD row off ((List.range n).map λk=>.inr (x,k,n))) (((a.eval x).cells.zipIdx.foldl (λcs(y:Value×Nat)=>cs.setIfInBounds (off+y.2) y.1) xs)).toList:=by
     rw [<-Array.foldl_toList,Array.toList_zipIdx,Sz,M'];refine bd off h ⟨by simp[l],λj s v B L=>?_⟩;rw[G_]at B;simp at B;obtain⟨k,M,rfl⟩:=B;have C:k=j:=by
      grind
     subst C;show(a.eval x).cells[k]?=Y v
     grind
    obtain ⟨xs',R,J⟩:=eJ hr (λp A=>E p (by simp[A])) hf;refine⟨xs',?_,J⟩;simp[B_,Instr.fill,A]
    grind
   .cases hf
  .cases hf
def Tj:GC->Sy->Bool
 |.z c,.inl v=>Vt c v|.v y k n,.inr (x,k',n')=>AK x y&&k==k'&&n==n'|.w q,.inr (x,k',n')=>AK x (.s q)&&k'==0&&n'==1|.g q k n,.inr (x,k',n')=>AK x (.s q)&&k==k'&&n==n'|_,_=>T
def US:List GC->List Sy->Bool
 |[],[]=>X|g::gs,s::ss=>Tj g s&&US gs ss|_,_=>T
def Vh(x:Operand)(n:Nat):GC->Bool
 |.z _=>T|.v y _ m=>AK x y&&m==n|.w q=>AK x (.s q)&&1==n|.g q _ m=>AK x (.s q)&&m==n
def Uj(place:Nat->Option (Nat×Nat))(z:List Value)(ps:List (Nat×Operand))(gs:List GC):Bool:=
 (ps.all λp=>match place p.1 with
  |some (_,n)=>gs.any (Vh p.2 n)|none=>T) &&
 match T1 place ps (z.map .inl)with
 |some row=>US gs row|none=>T
def fH(P:Program)(t:TypeId)(ps:List (Nat×Operand))(gs:List GC):Bool:=
 match P.info? t,P.underlying t with
 |some it,Y (.array _ e)=>
  match it.zero,P.info? e with
  |some z,Y ie=>Uj (λi=>Y (i*ie.size,ie.size)) z.cells.toList ps gs|_,_=>T
 |some it,Y (.struct fields)=>
  match it.zero,fields.toList.mapM (λf=>(P.info? f.type).map λi=>(f.offset,i.size))with
  |some z,Y places=>Uj (places.toArray[·]?) z.cells.toList ps gs|_,_=>T
 |_,_=>T
def Vg:∀{l:List GC}{A:List Sy},US l A=X->A.length=l.length/\∀(j:Nat)(g:GC),l[j]?=Y g->∃s,A[j]?=Y s/\Tj g s=X
 |[],[],_=>⟨rfl,λj g h=>by simp at h⟩|[],_::_,h=>c!
 |_::_,[],h=>c!
 |g::l,s::A,h=>by
  rw [US,mo]at h;obtain⟨B,C⟩:=Vg h.2
  grind
def YW:∀{l:List GC}{cs:List AS},Kr O l=Y cs->cs.length=l.length/\∀(j:Nat)(g:GC),l[j]?=Y g->∃c,cs[j]?=Y c/\g.cell O=Y c
 |[],cs,h=>by simp[Kr]at h;subst h;exact⟨rfl,λj g h=>by simp at h⟩|g::l,cs,h=>by
  rw [Kr]at h;split at h
  .rename_i c cs' B A;cases h;obtain⟨C,E⟩:=YW A
   grind
  .cases h
variable{q:Nat}
def LU(h:AK x (.s q)=X):a.eval x=slot a q:=by
 cases x<;>simp[AK]at h;rw[h];rfl
theorem qu(A:AO F0 w0 O a w G){g:GC}{c:AS}(h:g.cell O=Y c)(l:Vh x n g=X):(a.eval x).cells.size=n:=by
 cases g with
 |z c=>cases l
 |v y k m=>
  simp [Vh]at l;obtain⟨l,rfl⟩:=l;simp[GC.cell]at h;split at h
  .rename_i t E;split at h
   .rename_i B C;have:=BX (Hi (BF A l E).1).1
    grind [O_,N!]
   .cases h
  .cases h
 |w q=>
  simp [Vh]at l;obtain⟨l,rfl⟩:=l;rw[LU l];have:(slot a q).oneCell'=X:=by
   simp [GC.cell]at h;split at h
   .rename_i t e;have:=At A e V
    grind [AN,Wg]
   next m es e=>have:=At A e V;exact Hz (ρ:=tn a G) (c:=⟨X,.xl m es⟩) this
   .cases h
  rw [Q6 this];rfl
 |g q k m=>
  simp [Vh]at l;obtain⟨l,rfl⟩:=l;rw[LU l];simp[GC.cell]at h;split at h
  .rename_i cs e;split at h
   next B=>have:=At A e V;simp[AN]at this;obtain⟨vs,C,H,_⟩:=this;rw[C];show vs.size=m;rw[H,N! B]
   .cases h
  .cases h
def xV(B:AO F0 w0 O a w G){g:GC}{c:AS}(h:g.cell O=Y c){s:Sy}(A:Tj g s=X)(hv:s.is a v):BW w (AW w0.heap.size F0 G) (tn a G) (g.src.bind λp=>G p.1 p.2) c v/\c.t.WF:=by
 cases g with
 |z c'=>
  cases s with
  |inr p=>cases A
  |inl u=>
   simp [GC.cell]at h;subst h;have:v=u:=hv;subst this;exact W9 A
 |v y k m=>
  cases s with
  |inl u=>cases A
  |inr p=>
   obtain ⟨x,I,J⟩:=p;simp[Tj]at A;obtain⟨⟨C,rfl⟩,_⟩:=A;have hv:(a.eval x).cells[k]?=Y v:=hv;simp[GC.cell]at h;split at h
   .rename_i t M;split at h
    next c' ζ E=>cases h;obtain⟨R,θ⟩:=BF B C M;obtain⟨ε,κ⟩:=Hi R;rw[<-O!]at hv;exact⟨⟨((Bt _ _).1 ε).2 k _ _ E hv,κ v (x? hv)⟩,CC.1 (JC θ) _ (x? E)⟩
    .cases h
   .cases h
 |w q=>
  cases s with
  |inl u=>cases A
  |inr p=>
   obtain ⟨x,I,J⟩:=p;simp[Tj]at A;obtain⟨⟨C,rfl⟩,_⟩:=A;have hv:(a.eval x).cells[0]?=Y v:=hv;rw[LU C]at hv;have l:=B.wf q;simp[GC.cell]at h;split at h
   next t e=>cases h;have:=At B e V;simp[AN]at this;rw[Q6 (Wg this)]at hv;cases hv;rw[e]at l;exact⟨this.c,l⟩
   next m es e=>cases h;have:=At B e V;have H:BW w (AW w0.heap.size F0 G) (tn a G) (G q W) ⟨X,.xl m es⟩ (slot a q):=this;rw[Q6 (Hz H)]at hv;cases hv;rw[e]at l;exact⟨H,l⟩
   .cases h
 |g q k m=>
  cases s with
  |inl u=>cases A
  |inr p=>
   obtain ⟨x,I,J⟩:=p;simp[Tj]at A;obtain⟨⟨C,rfl⟩,_⟩:=A;have hv:(a.eval x).cells[k]?=Y v:=hv;rw[LU C]at hv;have l:=B.wf q;simp[GC.cell]at h;split at h
   .rename_i cs e;split at h
    .have:=At B e V;simp[AN]at this;obtain⟨vs,E,_,η⟩:=this;rw[E]at hv;have hv:vs[k]?=Y v:=hv;obtain⟨x',L,H⟩:=η k c h;rw[hv]at L;cases L;rw[e]at l;exact⟨H,l c (x? h)⟩
    .cases h
   .cases h
def AO.regather(h:AO F0 w0 O a w G)(hd:d<a.tmps.size){H:QQ}{cs:List AS}{vs:Array Value}(σ:Nat->Option (Nat×Option Nat))(hdq:d∉H)(hsz:vs.size=cs.length)(hσ:∀j q i,σ j=Y (q,i)->q∈H)
  (η:∀j ζ p,σ j=Y p->σ ζ=Y p->j=ζ)(hc:∀(j:Nat)(c:AS),cs[j]?=Y c->∃x,vs[j]?=Y x/\BW w (AW w0.heap.size F0 G) (tn a G) ((σ j).bind λp=>G p.1 p.2) c x)(hwf:∀c∈cs,c.t.WF)(hq:∀q∈H,q<a.tmps.size):
  CE F0 w0 ((d,.oag cs)::SQ O H O) (a.put (Y d) (.agg vs)) w:=by
 let C:Bh:=λp i=>if p=d then i.bind λj=>(σ j).bind λp=>G p.1 p.2 else if p∈H then W else G p i
 have M:∀p i b lo,C p i=Y (b,lo)->(∃j q k,p=d/\i=Y j/\σ j=Y (q,k)/\G q k=Y (b,lo))\/(p≠d/\p∉H/\G p i=Y (b,lo)):=by
  intro p i b lo A;simp[C]at A;split at A
  .rename_i B;cases i with
   |none=>cases A
   |some j=>
    simp at A;cases hj:σ j with
    |none=>rw[hj]at A;cases A
    |some q=>rw[hj]at A;exact .inl ⟨j,q.1,q.2,B,rfl,hj,A⟩
  grind
 have hF:∀b o,AW w0.heap.size F0 C b o->AW w0.heap.size F0 G b o:=λb o hf=>AW.mono (λp i b lo A=>by
  grind) hf
 have R:Bw w w (AW w0.heap.size F0 G) (AW w0.heap.size F0 C):=λb o v hc hf=>⟨hc,λhf'=>hf (hF b o hf')⟩;have I:tn (a.put (Y d) (.agg vs)) C=tn a G:=ON (Bx _ _ _) λp A=>by
  grind
 refine ⟨C,?_,?_,h.below,g?,?_,?_,?_⟩
 .intro p i p' i' b lo lo' e1 g;rcases M _ _ _ _ e1 with⟨j,q,k,rfl,rfl,f1,f2⟩|⟨n1,n2,f1⟩<;>rcases M _ _ _ _ g with⟨ζ,q',k',rfl,rfl,g1,g2⟩|⟨m1,m2,g1⟩
  .obtain⟨e3,e4⟩:=h.ln _ _ _ _ _ _ _ f2 g2;subst e3;subst e4;exact⟨rfl,by rw[η j ζ _ f1 g1]⟩
  .obtain⟨e3,_⟩:=h.ln _ _ _ _ _ _ _ f2 g1;exact absurd (e3▸hσ j q k f1) m2
  .obtain⟨e3,_⟩:=h.ln _ _ _ _ _ _ _ g2 f1;exact absurd (e3▸hσ ζ q' k' g1) n2
  .exact h.ln _ _ _ _ _ _ _ f1 g1
 .intro p i b lo e1;rcases M _ _ _ _ e1 with⟨j,q,k,_,_,_,f⟩|⟨_,_,f⟩<;>exact h.lt _ _ _ _ f
 .intro p A;rw[Bx]at A;rw[AB.d7,ae U,LX];split
  next hm=>have:=hq p hm;omega
  .exact h.dom p A
 .intro p A;rw[Bx]at A;rw[AB.d7];by_cases B:d=p
  .subst B;rw[ac rfl,C7 _ _ _ hd];simp only[AN];refine⟨_,rfl,hsz,λi c hci=>?_⟩;obtain⟨x,ε,hr⟩:=hc i c hci;refine⟨x,ε,?_⟩;have:C d (Y i)=(σ i).bind λp=>G p.1 p.2:=by simp only[C,if_true];rfl
   rw [this,I];exact hr.kept R (λ_ _ _=>rfl) BY.rfl'
  .rw[ae B,AZ _ _ _ _ B,LX];split
   .rcases NU (O.get p)with⟨t,e,g⟩|g
    .have J:=At h e V;rw[g];simp[AN]at J|-;exact CY R _ _ (CI.rep J (λb lo o hz ho=>QI h b lo o hz ho))
    .rw[g];simp[AN]
   .rename_i hnq;refine AN.kept R (λi=>by simp[C];rw[ae (λe=>B e.symm),ae hnq]) (λ_ _ _ _=>rfl) I BY.rfl' (λr i k _⟨pp,L⟩=>?_) (λr off _⟨cs',l⟩=>?_) (λr i _⟨pp,L⟩=>?_) (h.slots p A)
    .have θ:=AB.x7 V L;have E:=LX O H O r;split at E
     .have δ:=θ.2;rcases NU (O.get r)with⟨t,_,g⟩|g<;>rw[g]at E<;>simp[AB.nat,E]at δ<;>cases δ
     .have ε:∃p,O.nat r i=Y p:=⟨pp,by rw[<-θ.2];exact(AB.Aar E).symm⟩;exact⟨ε,h.nh ε (AZ _ _ _ _ θ.1) (λ_ _ _ _=>rfl)⟩
    .rw[AB.d7]at l;by_cases κ:d=r
     .rw[ac κ]at l;cases l
     .rw[ae κ,LX]at l;split at l
      .rcases NU (O.get r)with⟨t,_,g⟩|g<;>(rw[g]at l;cases l)
      .exact⟨⟨cs',l⟩,AZ _ _ _ _ κ⟩
    .have θ:=AB.sc V V L;have E:=LX O H O r;split at E
     .have δ:=θ.2;rcases NU (O.get r)with⟨t,_,g⟩|g<;>rw[g]at E<;>cases i<;>simp[AB.so,E]at δ<;>cases δ
     .have ε:∃p,O.so r i=Y p:=⟨pp,by rw[<-θ.2];exact(AB.Aal E).symm⟩;exact⟨ε,h.xv ε (AZ _ _ _ _ θ.1) (λ_ _=>rfl)⟩
 .intro p;rw[AB.d7];split
  .exact hwf
  .rw[LX];have:=h.wf p;split
   .rcases NU (O.get p)with⟨t,e,g⟩|g
    .rw[e]at this;rw[g];exact this
    .rw[g];trivial
   .exact this
def cd{α β:Type}{f:α->Option β}{l:List α}(g:(l.filterMap f).Nodup){i j:Nat}{p:β}(hi:(l[i]?).bind f=Y p)(B:(l[j]?).bind f=Y p):i=j:=by
 have key:∀(l:List α)(i j:Nat),(l.filterMap f).Nodup->(l[i]?).bind f=Y p->(l[j]?).bind f=Y p->i<j->False:=by
  intro l
  induction l with
  |nil=>intro i j _ h;simp at h|cons x l H=>
   intro i j g C E A;obtain⟨j,rfl⟩:∃k,j=k+1:=⟨j-1,U⟩
   grind
 grind
theorem pT(M:AO F0 w0 O a w G)(hd:d<a.tmps.size){ps:Array (Nat×Operand)}{B:List GC}(hop:o.op=.build t ps)(l:fH P t ps.toList B=X)(h:(AF.Aaj B).wp S O (Y d) K):BI P F0 w0 a w o d K:=by
 simp only[AF.wp]at h;obtain⟨⟨hn,hdq⟩,h⟩:=h;cases I:Kr O B with
 |none=>rw[I]at h;exact h.elim|some cs=>
  rw [I]at h;simp[A0]at h;obtain⟨hl,H⟩:=YW I;have key:∀(place:Nat->Option (Nat×Nat))(z:Array Value),Uj place z.toList ps.toList B=X->∃xs',Instr.fill place z (ps.map λ(i,x)=>(i,a.eval x)).toList=Y xs'/\xs'.size=cs.length/\
    ∀(j:Nat)(c:AS),cs[j]?=Y c->(∃x,xs'[j]?=Y x/\BW w (AW w0.heap.size F0 G) (tn a G) (((B[j]?).bind GC.src).bind λp=>G p.1 p.2) c x)/\c.t.WF:=by
   intro place z hp;unfold Uj at hp;rw[mo,F!]at hp;obtain⟨hp1,L⟩:=hp;split at L
   .rename_i row θ;have h5:(ps.map λ(i,x)=>(i,a.eval x)).toList=ps.toList.map λ(i,x)=>(i,a.eval x):=V
    obtain ⟨xs',e1,η⟩:=eJ (a:=a) (xs:=z) (row:=z.toList.map .inl) ⟨V,λj s v C E=>by
     rw [G_]at C;simp only[Q']at C;obtain⟨u,hu,rfl⟩:=C;rw[hu]at E;cases E;rfl⟩ (λp hm off n R=>by
     grind [List.any_eq_true,D',qu]) θ
    obtain ⟨m1,m2⟩:=Vg L;have ε:=η.1;rw[O_]at ε;refine⟨xs',by rw[h5];exact e1,U,λj c A=>?_⟩;have hj:j<B.length:=by have:=(D_.1 A).1;omega
    have J:B[j]?=Y B[j]:=z_ hj;obtain⟨c',κ,hc2⟩:=H j _ J;rw[A]at κ;cases κ;obtain⟨s,hs1,hs2⟩:=m2 j _ J;have hx:xs'[j]?=Y (xs'[j]' U):=Pi U;obtain⟨r1,r2⟩:=xV M hc2 hs2 (η.2 j s _ hs1 (by rw[O!];exact hx));rw[J];exact⟨⟨_,hx,r1⟩,r2⟩
   .cases L
  have built:∃xs',P.built t (ps.map λ(i,x)=>(i,a.eval x)).toList=Y xs'/\xs'.size=cs.length/\
    ∀(j:Nat)(c:AS),cs[j]?=Y c->(∃x,xs'[j]?=Y x/\BW w (AW w0.heap.size F0 G) (tn a G) (((B[j]?).bind GC.src).bind λp=>G p.1 p.2) c x)/\c.t.WF:=by
   unfold fH at l;unfold Program.built;split at l
   .rename_i it len e C E;simp only[C,E];split at l
    next z ie hz hie=>simp only[hz,hie];exact key _ _ l
    .cases l
   .rename_i it ζ C E;simp only[C,E];split at l
    next z δ hz R=>simp only[hz,R];exact key _ _ l
    .cases l
   .cases l
  obtain ⟨xs',C,E,h3⟩:=built;refine⟨.agg xs',w,by simp[execOp,hop,run_build w t _ _ C],_,_,h,M.regather hd (λj=>(B[j]?).bind GC.src) hdq E (λj q i e=>?_) (λj j' p e1 η=>cd hn e1 η) (λj c A=>(h3 j c A).1) (λc A=>?_) (λq hq=>?_)⟩
  .rw[Q!]at e;obtain⟨g,J,e⟩:=e;refine H'.2 ⟨g,x? J,?_⟩;cases g<;>simp[GC.src]at e<;>simp[GC.slot,e.1]
  .grind[D']
  .obtain⟨g,J,e⟩:=H'.1 hq;obtain⟨j,hj⟩:=D' J;obtain⟨c,_,A⟩:=H j g hj;cases g with
   |z c=>cases e
   |v y k n=>cases e
   |w q'=>
    cases e;simp[GC.cell]at A;split at A
    next t e=>exact Bz M e V
    next n es e=>exact Bz M e V
    .cases A
   |g q' k n=>
    cases e;simp[GC.cell]at A;split at A
    next cs e=>exact Bz M e V
    .cases A
end
end Go.Sf
namespace Go.Sf
open Go.RowKit (Below)
section
variable{P:Program}{S:FuncId->Fq->BA->Prop}{F0:Nat->Nat->Prop}{w0:W0}{O:AB}{a:Act}{w:World}{G:Bh}{d:Nat}{o:Oper}{K:EV->AB->Prop}
def CE.congr'{F0:Nat->Nat->Prop}{w0:W0}{O env2:AB}{a:Act}{w:World}(h:CE F0 w0 O a w)(he:∀n,O.get n=env2.get n):CE F0 w0 env2 a w:=by
 obtain ⟨G,h⟩:=h;refine⟨G,h.ln,h.lt,h.below,h.defers,λq g=>?_,λq g=>?_,λq=>?_⟩
 .rw[<-he];exact h.dom q g
 .rw[<-he];refine AN.kept (RY _ _) (λ_=>rfl) (λ_ _ _ _=>rfl) rfl BY.rfl' (λr i k hr⟨p,l⟩=>⟨⟨p,(AB.Aar (he r)).trans l⟩,λ_ hv=>hv⟩) (λr off hr⟨cs,A⟩=>⟨⟨cs,by rw[he];exact A⟩,rfl⟩) (λr i hr⟨p,l⟩=>⟨⟨p,(AB.Aal (he r)).trans l⟩,λ_ hv=>hv⟩) (h.slots q g)
 .rw[<-he];exact h.wf q
variable{s off:Nat}
def Vr(h:AO F0 w0 O a w G){es:Fq}(B:O.nat s off=Y es):
  ∃b c θ x,slot a s=.pointer (Y ⟨b,0,W⟩)/\w.heap[b]?=Y (.cells c θ (0,0))/\c[off]?=Y x/\G s W=Y (b,0)/\GI w (AW w0.heap.size F0 G) (tn a G) (G s (Y off)) es x/\(TV.list 1 es).WF:=by
 obtain ⟨cs,l,A⟩:=AB.rr B;have hr:=At h l V;simp only[AN]at hr;obtain⟨b,c,θ,C,E,M,H,I⟩:=hr;obtain⟨x,J,L⟩:=I off _ A;have g:=h.wf s;rw[l]at g;exact⟨b,c,θ,x,C,E,J,H,L,g _ (x? A)⟩
variable{ρ:JJ}{z:Option (Nat×Nat)}
def Wa{F:Nat->Nat->Prop}{es:Fq}{x:Value}(h:GI w F ρ z es x)(B:es≠[]):
  ∃g cap l e xs,x=.slice (Y ⟨g,0,W⟩) es.length cap/\w.heap[g]?=Y (.cells l e (0,0))/\es.length<=cap/\l.size=cap/\z=Y (g,0)/\(∀(j:Nat)(e:TV),es[j]?=Y e->∃y n fs,l[j]?=Y y/\e=.list n fs/\SD w F (ρ g j) n fs y)/\l.toList.take es.length=xs/\(∀y∈xs,y.oneCell'=X):=by
 obtain ⟨xs,⟨z0,L,E⟩,M,R⟩:=h;rcases L.2 with⟨_,κ,_⟩|⟨g,cap,l,e,η,ζ,δ,e4,e5,H,I⟩
 .exact absurd (y_ κ) B
 .refine⟨g,cap,l,e,xs,η,ζ,δ,U,by rw[E,I];rfl,λj el J=>?_,by rw[<-H,Nat.mul_one],M⟩;obtain⟨g',y,n,fs,C,A,θ,ε⟩:=R j el J;rw[E,I]at C;simp only[Q_,p0,Prod.mk.injEq,and_true]at C;subst C;refine⟨y,n,fs,?_,θ,ε⟩;rw[<-H,E']at A;split at A
  .simpa using A
  .cases A
variable{x:Operand}{y:AH}{b:Nat}
def AAG(l:AO F0 w0 O a w G)(g:AK x y=X)(h:y.ev O=.bp s off){cs:List AS}(A:O.get s=.bx cs)(B:slot a s=.pointer (Y ⟨b,0,W⟩)):a.eval x=.pointer (Y ⟨b,off,W⟩):=by
 cases y with
 |c t=>simp[AH.ev]at h|s m=>
  rw [LU g];simp only[AH.ev]at h;have:=At l h V;simp only[AN]at this;obtain⟨C,E,H⟩:=this ⟨cs,A⟩
  grind
def Yp(l:AO F0 w0 O a w G)(g:AK x y=X){k:NK}(h:y.ev O=.nh s off k){es:Fq}(A:O.nat s off=Y es):NH a w s off k (a.eval x):=by
 cases y with
 |c t=>simp[AH.ev]at h|s m=>
  rw [LU g];simp only[AH.ev]at h;have:=At l h V
  grind [AN]
variable{v:Value}
def AO.AbI(h:AO F0 w0 O a w G)(hd:d<a.tmps.size){k:NK}(hv:∀es,O.nat s off=Y es->NH a w s off k v):CE F0 w0 ((d,.nh s off k)::O) (a.put (Y d) v) w:=by
 refine ⟨_,h.quiet (Below.refl _ _) d hd (.nh s off k) v (λ_=>W) V V V ?_ trivial⟩;simp only[AN];rintro⟨es,l⟩;have g:=AB.x7 V l;exact h.nh ⟨_,g.2⟩ (AZ _ _ _ _ g.1) (λ_ _ _ _=>rfl) _ (hv es g.2)
variable{t:TypeId}
theorem sY(B:AO F0 w0 O a w G)(hd:d<a.tmps.size)(C:o.op=.load t x)(E:AK x y=X)(L:CO P t=Y T)(h:(AF.lan y).wp S O (Y d) K):BI P F0 w0 a w o d K:=by
 simp only[AF.wp]at h;split at h
 .rename_i s off M;cases A:O.nat s off with
  |none=>rw[A]at h;exact h.elim|some es=>
   rw [A]at h;simp only[A0]at h;obtain⟨cs,R,ε⟩:=AB.rr A;obtain⟨b,c,θ,v,H,I,J,κ,η,_⟩:=Vr B A;have l:=AAG B E M R H;have g:w.cell? ⟨b,off,W⟩=Y v:=by
    rw [cell_of_row w b off c θ (0,0) I];exact J
   refine ⟨v,w,?_,_,_,h,B.AbI hd λes' _=>?_⟩
   .simp[execOp,C,l,Instr.loadAt,Instr.sureAddr,loadVar,C4 L,g]
   .exact⟨b,c,θ,v,H,I,J,rfl⟩
 .exact h.elim
variable{j:AH}
theorem s7(B:AO F0 w0 O a w G)(hd:d<a.tmps.size){x i:Operand}(R:o.op=.indexAddr t x i)(ε:AK x y=X)(C:AK i j=X)(κ:KZ P t=Y 1)(h:(AF.nia y j).wp S O (Y d) K):BI P F0 w0 a w o d K:=by
 unfold KZ at κ;split at κ
 .rename_i el hu;simp only[AF.wp]at h;split at h
  .rename_i s off k E hy hj;cases A:O.nat s off with
   |none=>rw[A]at h;exact h.elim|some es=>
    rw [A]at h;simp only[A0]at h;obtain⟨h0,η,hK⟩:=h;have l:=(BF B C hj).1;simp only[A3]at l;obtain⟨b,c,θ,x0,ζ,δ,e3,M⟩:=Yp B ε hy A;simp only[NK.at]at M;obtain⟨b',c',T',v,I,f2,J,f4,f5,_⟩:=Vr B A;rw[ζ]at I;simp only[Value.pointer.injEq,p0,Addr.mk.injEq,and_true,and_self]at I;subst I;rw[δ]at f2;cases f2;rw[e3]at J;simp only[p0]at J;subst J;obtain⟨g,cap,L,e,xs,rfl,g2,g3,_⟩:=Wa f5 (by rintro rfl;simp at η;omega);have H:0<=E/\E<(es.length:Int):=⟨h0,η⟩;refine⟨.pointer (Y ⟨g,E.toNat,W⟩),w,?_,_,_,hK,B.AbI hd λes' _=>?_⟩
    .simp[execOp,R,M,l,Instr.indexAt,asIntOf,run_underlying hu,H,CW κ,Addr.add_lit]
    .exact⟨b,c,θ,_,ζ,δ,e3,g,_,_,rfl,rfl⟩
  .rename_i s off r k E hy hj;cases A:O.nat s off with
   |none=>rw[A]at h;exact h.elim|some es=>
    rw [A]at h;simp only[A0]at h;obtain⟨h0,fs,hr,η,hK⟩:=h;have l:=(BF B C hj).1;simp only[A3]at l;obtain⟨b,c,θ,x0,ζ,δ,e3,g,len,cap,e0,M⟩:=Yp B ε hy A;subst e0;obtain⟨b',c',T',v,I,f2,J,f4,f5,_⟩:=Vr B A;rw[ζ]at I;simp only[Value.pointer.injEq,p0,Addr.mk.injEq,and_true,and_self]at I;subst I;rw[δ]at f2;cases f2;rw[e3]at J;simp only[p0]at J;subst J;obtain⟨g',cap',L,e,xs,g1,g2,g3,_,_,g4,_⟩:=Wa f5 (by rintro rfl;simp at hr);simp only[Value.slice.injEq,p0,Addr.mk.injEq,and_true]at g1;obtain⟨rfl,rfl,rfl⟩:=g1;obtain⟨u,n,fs',k1,k2,k3⟩:=g4 r _ hr;simp only[TV.list.injEq]at k2;obtain⟨rfl,rfl⟩:=k2;rw[cell_of_row w g r L e (0,0) g2,k1]at M;simp only[p0]at M;subst M;obtain⟨ys,⟨z0,m1,m2⟩,m3,m4,m5⟩:=k3;rcases m1.2 with⟨_,hn,_⟩|⟨g2',cap2,cur2,e2',q1,q2,q3,_⟩
    .simp only[hn]at η;omega
    .have H:0<=E/\E<(fs.length:Int):=⟨h0,η⟩;refine⟨.pointer (Y ⟨g2',E.toNat,W⟩),w,?_,_,_,hK,B.AbI hd λes' _=>?_⟩
     .simp[execOp,R,q1,l,Instr.indexAt,asIntOf,run_underlying hu,H,CW κ,Addr.add_lit]
     .refine⟨b,c,θ,_,ζ,δ,e3,g,_,_,rfl,g2',fs.length,cap2,?_,rfl⟩;rw[cell_of_row w g r L e (0,0) g2,k1,q1]
  .exact h.elim
 .cases κ
theorem s8(C:AO F0 w0 O a w G)(hd:d<a.tmps.size)(E:o.op=.load t x)(H:AK x y=X)(δ:CO P t=Y T)(h:(AF.nld y).wp S O (Y d) K):BI P F0 w0 a w o d K:=by
 simp only[AF.wp]at h;split at h
 .rename_i s off r hy;cases B:O.nat s off with
  |none=>rw[B]at h;exact h.elim|some es=>
   rw [B]at h;simp only[A0]at h;obtain⟨A,hK⟩:=h;obtain⟨b,c,θ,x0,M,R,ε,g,len,cap,e0,e4⟩:=Yp C H hy B;subst e0;obtain⟨b',c',T',v,I,κ,J,f4,f5,_⟩:=Vr C B;rw[M]at I;simp only[Value.pointer.injEq,p0,Addr.mk.injEq,and_true,and_self]at I;subst I;rw[R]at κ;cases κ;rw[ε]at J;simp only[p0]at J;subst J;obtain⟨g',η,L,e,xs,ζ,g2,g3,_,_,g4,_⟩:=Wa f5 (by rintro rfl;simp at A);simp only[Value.slice.injEq,p0,Addr.mk.injEq,and_true]at ζ;obtain⟨rfl,rfl,rfl⟩:=ζ;obtain⟨u,n,fs',k1,k2,k3⟩:=g4 r _ (z_ A);have l:w.cell? ⟨g,r,W⟩=Y u:=by
    rw [cell_of_row w g r L e (0,0) g2];exact k1
   refine ⟨u,w,?_,_,_,hK,C.AbI hd λes' _=>?_⟩
   .simp[execOp,E,e4,Instr.loadAt,Instr.sureAddr,loadVar,C4 δ,l]
   .exact⟨b,c,θ,_,M,R,ε,g,_,_,rfl,l⟩
 .exact h.elim
variable{q:Nat}
theorem pU(A:AO F0 w0 O a w G)(hd:d<a.tmps.size)(κ:o.op=.box t x)(η:AK x (.s q)=X)(h:(AF.Abw q).wp S O (Y d) K):BI P F0 w0 a w o d K:=by
 simp only[AF.wp]at h;split at h
 .rename_i d' cs I hq;simp only[p0]at I;subst I;obtain⟨⟨hno,hdq⟩,hK⟩:=h;have hev:=LU (a:=a) η;have B:q<a.tmps.size:=Bz A hq V;have hr:=At A hq V;have L:=A.wf q;rw[hq]at L;simp only[AN]at hr;obtain⟨vs,h1,h2,h3⟩:=hr;have hb:Below w.heap.size w (w.alloc (.cells vs t)):=(Below.refl _ _).alloc (az _) _;have hone:∀(i:Nat)(y:Value),vs[i]?=Y y->y.oneCell'=X:=by
   intro i y hy;have hlt:i<cs.length:=by have:=(P_.1 hy).1;omega
   obtain ⟨x,hx,E⟩:=h3 i _ (z_ hlt)
   grind [Hz]
  let Z:D0:=λp i=>if p=0/\i=W then Y (w.heap.size,0)else CD a G q p i
  have θ:∀p i b lo,Z p i=Y (b,lo)->(p=0/\i=W/\b=w.heap.size/\lo=0)\/CD a G q p i=Y (b,lo):=by
   grind
  have hzl:∀p i b lo,CD a G q p i=Y (b,lo)->b<w.heap.size:=λp i b lo C=>by
   obtain ⟨p',j,l,_⟩:=Cc C;exact(A.lt _ _ _ _ l).1
  refine ⟨.pointer (Y ⟨w.heap.size,0,W⟩),w.alloc (.cells vs t),?_,_,_,hK,?_⟩
  .simp[execOp,κ,Instr.box,newVar,newRow,hev,h1,Value.cells]
  .have hg:=λp=>AB.d7 d (.bx cs) ((q,EV.undef)::O) p;refine⟨_,(A.Aax (s:=q) (d:=d) (Z:=Z) (w':=w.alloc (.cells vs t)) (env':=(d,.bx cs)::(q,.undef)::O) (a':=a.put (Y d) (.pointer (Y ⟨w.heap.size,0,W⟩))) B hd ⟨rfl,rfl,rfl,hb.size,λk hk _=>hb.block k hk,λb o u _ hu=>by
     rw [hb.cell (p:=⟨b,o,W⟩) (World.block_lt_of_cell? w ⟨b,o,W⟩ hu)];exact hu⟩ (Bx _ _ _) (FP _ _ _) ?_ ?_ ?_ ?_ ?_ ?_ ?_ (.inl hno) ?_).1⟩
   .intro p i p' i' b lo lo' J e2;rcases θ _ _ _ _ J with⟨rfl,rfl,l,_⟩|l<;>rcases θ _ _ _ _ e2 with⟨rfl,rfl,ε,_⟩|ε
    .exact⟨rfl,rfl⟩
    .grind
    .grind
    .exact LH A B _ _ _ _ _ _ _ l ε
   .intro p i b lo J;rcases θ _ _ _ _ J with⟨rfl,rfl,l,_⟩|l
    .exact⟨by rw[l];simp,.inl U⟩
    .exact⟨L_ (hzl _ _ _ _ l) hb.size,.inr ⟨p,i,lo,l,az _⟩⟩
   .intro p H;rw[AB.d7,ae U,AB.d7,ae U];exact A.dom p H
   .intro p;rw[AB.d7];split
    .exact L
    .rw[AB.d7];split
     .trivial
     .exact A.wf p
   .exact λp H _=>AZ _ _ _ _ (λe=>H e.symm)
   .exact λp H ζ=>by rw[AB.d7,ae (λe=>H e.symm),AB.d7,ae (λe=>ζ e.symm)]
   .exact λ_=>by rw[AB.d7,ae hdq,AB.d7,ac rfl]
   .intro F' hF';rw[AB.d7,ac rfl,C7 _ _ _ hd];have M:Cl a G q d Z d=Z 0:=by simp[Cl]
    simp only[AN];refine⟨w.heap.size,vs,t,rfl,heap_alloc_new w _,h2,by rw[M];simp[Z],λi c E=>?_⟩;obtain⟨x,J,e2⟩:=h3 i c E;have R:Z 0 (Y i)=G q (Y i):=by simp[Z,Dk]
    refine ⟨x,J,?_⟩;rw[M,R];refine BW.tn (e2.kept (λb o u E hf=>⟨?_,λδ=>?_⟩) (λb lo C=>hb.block b (A.lt _ _ _ _ C).1) (A.Aa0 hb)) (λg lo j C=>?_)
    .rw[hb.cell (p:=⟨b,o,W⟩) (World.block_lt_of_cell? w ⟨b,o,W⟩ E)];exact E
    .rcases hF' b o δ with⟨_,h6,_⟩|⟨p,i,lo,h6,h7⟩
     .exact hf h6
     .rcases θ _ _ _ _ h6 with⟨_,_,l,_⟩|l
      .have:=World.block_lt_of_cell? w ⟨b,o,W⟩ E;simp only at this;omega
      .obtain⟨p',j,ε,_⟩:=Cc l;exact hf (.inr ⟨p',j,lo,ε,h7⟩)
    .have hz':Z 0 (Y i)=Y (g,lo):=by rw[R];exact C
     rw [Rv (Bx _ _ _) hd B hz' j];simp only[D0.tn,Z];rw[ae U];exact QU C j
 .exact h.elim
def fI(P:Program)(t:TypeId):Bool:=
 match P.underlying t with
 |some (.slice e)=>(match P.info? e with
  |some ie=>ie.size==1&&(match ie.zero with|some z=>z.cells.size==1|none=>T)
  |none=>T)
 |_=>T
variable{n:Nat}{fs:Fq}
def sA{F:Nat->Nat->Prop}{x:Value}(h:SD w F z n fs x):x.oneCell'=X:=by
 obtain ⟨ys,⟨B,l,_⟩,_⟩:=h;rcases l.2 with⟨rfl,_⟩|⟨g,cap,A,e,rfl,_⟩<;>rfl
theorem ph(C:AO F0 w0 O a w G)(hd:d<a.tmps.size)(M:o.op=.buildSlice t 1 #[(0,x)])(g:fI P t=X)(hx:AK x (.s q)=X)(h:(AF.Abm q).wp S O (Y d) K):BI P F0 w0 a w o d K:=by
 simp only[AF.wp]at h;split at h
 .rename_i d' n fs H θ;simp only[p0]at H;subst H;obtain⟨⟨hno,η⟩,hK⟩:=h;have κ:=LU (a:=a) hx;have hr:=At C θ V;have I:=C.wf q;rw[θ]at I;simp only[AN]at hr;have l:SD w (AW w0.heap.size F0 G) (G q W) n fs (slot a q):=hr;have A:=sA l;unfold fI at g;split at g
  .rename_i e hu;split at g
   .rename_i ie ε;simp only[mo,beq_iff_eq]at g;obtain⟨ζ,L⟩:=g;split at L
    .rename_i z E;have B:=Q6 A;have J:(execOp a.eval o).run P w=.ok (.value (.slice (Y ⟨w.heap.size,0,W⟩) 1 1)) (w.alloc (.cells #[slot a q] e)):=by
      simp [execOp,M,Instr.buildSlice,run_underlying hu,sizeOf,typeInfo,ε,ζ,zeroValue,E,Instr.fill,newRow,κ,B]
      grind
     have hb:Below w.heap.size w (w.alloc (.cells #[slot a q] e)):=(Below.refl _ _).alloc (az _) _;refine⟨_,_,J,_,_,hK,C.xgo θ hd η (z':=G q W) rfl rfl rfl hb.size (λk hk _=>hb.block k hk) (λb lo E=>⟨L_ (C.lt _ _ _ _ E).1 hb.size,.inr ⟨lo,E⟩⟩) V V (λF' G' env' a' R hG hF=>?_) I⟩;simp only[AN];refine⟨w.heap.size,1,slot a q,rfl,az _,?_,λhf=>?_,A,?_⟩
     .rw[cell_of_row _ w.heap.size 0 #[slot a q] e (0,0) (heap_alloc_new w _)];rfl
     .rcases hF _ _ hf with δ|⟨lo,δ⟩
      .omega
      .have:=(C.lt _ _ _ _ δ).1;omega
     .rw[hG];exact l.kept R (λb lo E=>hb.block b (C.lt _ _ _ _ E).1)
    .cases L
   .cases g
  .cases g
 .exact h.elim
def AO.give(h:AO F0 w0 O a w G){es fs:Fq}(R:O.get s=.xn es)(θ:O.get q=.x1 n fs):
  AO F0 w0 ((q,.undef)::O) a w (λp i=>if p=s/\i=Y 0 then G q W else if p=q then W else G p i):=by
 have hsq:s≠q:=by rintro rfl;rw[R]at θ;cases θ
 have hsz:s<a.tmps.size:=Bz h R V;have hqz:q<a.tmps.size:=Bz h θ V;have L:∀p i b lo,(if p=s/\i=Y 0 then G q W else if p=q then W else G p i)=Y (b,lo)->(p=s/\i=Y 0/\G q W=Y (b,lo))\/(¬(p=s/\i=Y 0)/\p≠q/\G p i=Y (b,lo)):=by
  grind
 have H:Bw w w (AW w0.heap.size F0 G) (AW w0.heap.size F0 (λp i=>if p=s/\i=Y 0 then G q W else if p=q then W else G p i)):=by
  refine λb o u δ hf=>⟨δ,?_⟩;rintro(C|⟨p,j,lo,C,ζ⟩)
  .exact hf (.inl C)
  .rcases L _ _ _ _ C with⟨_,_,η⟩|⟨_,_,η⟩
   .exact hf (.inr ⟨_,_,lo,η,ζ⟩)
   .exact hf (.inr ⟨_,_,lo,η,ζ⟩)
 have l:tn a (λp i=>if p=s/\i=Y 0 then G q W else if p=q then W else G p i)=tn a G:=by
  grind [tn]
 refine ⟨λp i p' i' b lo lo' ε e2=>?_,λp i b lo ε=>?_,h.below,h.defers,λp J=>?_,λp J=>?_,λp=>?_⟩
 .rcases L _ _ _ _ ε with⟨rfl,rfl,A⟩|⟨n1,n2,A⟩<;>rcases L _ _ _ _ e2 with⟨rfl,rfl,M⟩|⟨m1,m2,M⟩
  .exact⟨rfl,rfl⟩
  .exact absurd (h.ln _ _ _ _ _ _ _ A M).1.symm m2
  .exact absurd (h.ln _ _ _ _ _ _ _ A M).1 n2
  .exact h.ln _ _ _ _ _ _ _ A M
 .rcases L _ _ _ _ ε with⟨_,_,A⟩|⟨_,_,A⟩
  .exact h.lt _ _ _ _ A
  .exact h.lt _ _ _ _ A
 .rw[AB.d7,ae U];exact h.dom p J
 .rw[AB.d7];split
  .trivial
  .rename_i E;by_cases I:p=s
   .subst I;have hr:=h.slots p J;rw[R]at hr|-;simp only[AN]at hr|-;rw[ae V,ae (λe=>E e.symm),l];exact hr.kept H (λ_ _ _=>rfl) BY.rfl'
   .refine AN.kept H (λi=>by rw[ae (λe=>I e.1),ae (λe=>E e.symm)]) (λ_ _ _ _=>rfl) l BY.rfl' (λr i k hr⟨κ,B⟩=>?_) (λr off hr⟨cs',g⟩=>?_) (λr i hr⟨κ,B⟩=>?_) (h.slots p J)
    .have C:=AB.x7 V B;exact⟨⟨κ,C.2⟩,λ_ hv=>hv⟩
    .rw[AB.d7]at g;split at g
     .cases g
     .exact⟨⟨cs',g⟩,rfl⟩
    .have C:=AB.sc V V B;exact⟨⟨κ,C.2⟩,λ_ hv=>hv⟩
 .rw[AB.d7];split
  .trivial
  .exact h.wf p
def Ue(zo:Option (Nat×Nat))(rowz:Nat->Option (Nat×Nat)):D0:=λp i=>if p=0 then(if i=W then zo else W)else if zo.map (λz=>z.1+1)=Y p then(match i with|some j=>rowz j|none=>W)else W
variable{rowz:Nat->Option (Nat×Nat)}{i:Option Nat}
def Uf{A:Option (Nat×Nat)}{p:Nat}{b lo:Nat}(h:Ue A rowz p i=Y (b,lo)):(p=0/\i=W/\A=Y (b,lo))\/∃g l j,A=Y (g,l)/\p=g+1/\i=Y j/\rowz j=Y (b,lo):=by
 simp only[Ue]at h;split at h
 .grind
 .split at h
  .rename_i C B;cases i with
   |none=>cases h
   |some j=>
    cases A with
    |none=>cases B
    |some z=>
     grind
  .cases h
def oC{g l:Nat}(j:Nat):(Ue (Y (g,l)) rowz).tn g j=rowz j:=by
 simp [D0.tn,Ue]
variable{e:TypeId}
theorem AO.AaJ(E:AO F0 w0 O a w G){ty:TypeId}{i:TypeInfo}{z:Value}{es:Fq}(hs:O.get s=.xn es)(hq:O.get q=.x1 n fs)
  (ht:P.underlying t=Y (.slice e))(hi:P.info? e=Y i)(hz:i.zero=Y z)(hsize:i.size=1)(hby:i.bytes<=4096)(hzs:z.cells.size=1)(hmax:es.length+1<=AX):
  ∃v' w',(Builtin.append_ #[t,t] ty #[slot a s,slot a q]).run P w=.ok v' w'/\CE F0 w0 ((s,.xn (es++[.list n fs]))::(q,.undef)::O) (a.put (Y s) v') w':=by
  have hsq:s≠q:=by rintro rfl;rw[hs]at hq;cases hq
  have δ:s<a.tmps.size:=Bz E hs V;have hqz:q<a.tmps.size:=Bz E hq V;have hrs:=At E hs V;have hws:=E.wf s;rw[hs]at hws;have hrq:=At E hq V;have hwq:=E.wf q;rw[hq]at hwq;simp only[AN]at hrs hrq;obtain⟨xs,⟨z0,h1,hz0⟩,h2,h3⟩:=hrs;obtain⟨g1,cap1,x,k1,k2,k3,k4,k5,k6⟩:=hrq;obtain⟨v',w',z',hrun,r1,θ⟩:=RL (P:=P) t ty e i z 1 ht hi hz hsize hby hzs U (slot a s) es.length xs z0 h1 (Y ⟨g1,0,W⟩) 1 cap1 [x] rfl V k2 (λb hb j u hu=>by
   simp only[p0]at hb;subst hb;cases j with
   |zero=>simp only[H!,p0]at hu;subst hu;rw[Addr.add_lit];exact k3|succ j=>simp at hu) (by simpa using k5) hmax
  obtain ⟨H,κ,η,e',m1,m2,m3⟩:∃H κ η e',v'=.slice (Y ⟨H,0,W⟩) (es.length+1) κ/\w'.heap[H]?=Y (.cells η e' (0,0))/\z'=Y (H,(es.length+1)*1):=by
   rcases r1.2 with⟨_,hn,_⟩|⟨H,κ,η,e',h,B,_,_,_,_,e7⟩
   .omega
   grind
  let ε:Bh:=λp i=>if p=s/\i=Y 0 then G q W else if p=q then W else G p i
  have hI1:AO F0 w0 ((q,.undef)::O) a w ε:=E.give hs hq;have I:ε s W=G s W:=by simp only[ε];rw[ae V,ae hsq]
  have hG10:ε s (Y 0)=G q W:=by simp[ε]
  have hG1r:∀g j,ε (a.tmps.size+g) (Y j)=G (a.tmps.size+g) (Y j):=λg j=>by simp only[ε];rw[ae U,ae U]
  let rowz:Nat->Option (Nat×Nat):=λj=>if j=es.length then G q W else z0.bind λp=>G (a.tmps.size+p.1) (Y j)
  let Z:D0:=Ue (Y (H,0)) rowz
  have C:∀b lo,z0=Y (b,lo)->G s W=Y (b,0):=λb lo e=>by rw[hz0,e];rfl
  have hrz:∀j b lo,rowz j=Y (b,lo)->(j=es.length/\G q W=Y (b,lo))\/(j≠es.length/\∃g l,z0=Y (g,l)/\G (a.tmps.size+g) (Y j)=Y (b,lo)):=by
   grind [Q!]
  have hrG:∀j b lo,rowz j=Y (b,lo)->∃p i,G p i=Y (b,lo)/\p≠s/\(p=q/\i=W/\j=es.length\/a.tmps.size<=p/\i=Y j/\j≠es.length):=by
   intro j b lo hj;rcases hrz _ _ _ hj with⟨h,B⟩|⟨h,g,l,B,R⟩
   .exact⟨_,_,B,λe=>hsq e.symm,.inl ⟨rfl,rfl,h⟩⟩
   .exact⟨_,_,R,U,.inr ⟨U,rfl,h⟩⟩
  have J:∀l,z'=Y (H,l)->w.heap.size<=H\/G s W=Y (H,0):=λl hl=>by
   rcases (θ.AbD _ _ hl).2 with e|⟨M,e,_⟩
   .exact .inl e
   .exact .inr (C _ _ e)
  have J:=J _ m3;have A:∀p i b lo,G p i=Y (b,lo)->b<w.heap.size:=λp i b lo e=>(E.lt _ _ _ _ e).1;have hout:∀p i b lo,G p i=Y (b,lo)->p≠s->b≠H:=by
   intro p i b lo h B R;subst R;rcases J with e|e
   .have:=A _ _ _ _ h;omega
   .exact B (E.ln _ _ _ _ _ _ _ h e).1
  have hzz:∀p j b lo,Z p j=Y (b,lo)->b<w'.heap.size/\(w.heap.size<=b\/∃p j M,CD a ε s p j=Y (b,M)/\M<=lo):=by
   intro p j b lo hp;rcases Uf hp with⟨_,_,e⟩|⟨g,l,j,h,_,_,B⟩
   .simp only[p0,Prod.mk.injEq]at e;obtain⟨rfl,rfl⟩:=e;refine⟨(θ.AbD _ _ m3).1,J.imp id λe=>⟨0,W,0,by rw[Dk,I];exact e,az _⟩⟩
   .rcases hrz _ _ _ B with⟨_,R⟩|⟨_,g0,l0,R,e4⟩
    .exact⟨L_ (A _ _ _ _ R) θ.size,.inr ⟨0,Y 0,lo,by rw[Dk,hG10];exact R,az _⟩⟩
    .refine⟨L_ (A _ _ _ _ e4) θ.size,.inr ⟨g0+1,Y j,lo,?_,az _⟩⟩;simp only[CD];rw[ae U,ac ⟨W,0,by rw[N?,I];exact C _ _ R⟩];simp only[N?];rw[hG1r];exact e4
  have L:∀b o,AW w0.heap.size F0 ε b o->AW w0.heap.size F0 G b o:=by
   rintro b o (e|⟨p,j,lo,h,B⟩)
   .exact .inl e
   .simp only[ε]at h;split at h
    .exact .inr ⟨_,_,lo,h,B⟩
    .split at h
     .cases h
     .exact .inr ⟨_,_,lo,h,B⟩
  have hd:=δ;refine⟨v',w',?_,_,(hI1.Aax (s:=s) (d:=s) (Z:=Z) (w':=w') (env':=(s,.xn (es++[.list n fs]))::(q,.undef)::O) (a':=a.put (Y s) v') δ δ ⟨θ.os,θ.tape,θ.output,θ.size,λk hk hz=>?_,λb o u hz hu=>?_⟩ (Bx _ _ _) (FP _ _ _) ?_ hzz ?_ ?_ ?_ ?_ ?_ (.inr (.inr ⟨?_,?_⟩)) ?_).1⟩
  .rw[k1];exact hrun
  .refine θ.other k hk λlo e=>hz 0 W 0 ?_;rw[Dk,I];exact C _ _ e
  .refine θ.cell b o u hu λlo e=>absurd ⟨0,W,0,?_,K? _⟩ hz;rw[Dk,I];exact C _ _ e
  .intro p j p' j' b lo M h B;rcases Uf h with⟨rfl,rfl,f1⟩|⟨g,l,i1,f1,rfl,rfl,f2⟩<;>rcases Uf B with⟨rfl,rfl,f3⟩|⟨g2,l2,i2,f3,rfl,rfl,f4⟩
   .exact⟨rfl,rfl⟩
   .simp only[p0,Prod.mk.injEq]at f1;obtain⟨p1,p2,q1,q2,_⟩:=hrG _ _ _ f4;exact absurd f1.1.symm (hout _ _ _ _ q1 q2)
   .simp only[p0,Prod.mk.injEq]at f3;obtain⟨p1,p2,q1,q2,_⟩:=hrG _ _ _ f2;exact absurd f3.1.symm (hout _ _ _ _ q1 q2)
   .simp only[p0,Prod.mk.injEq]at f1 f3;obtain⟨p1,p2,q1,q2,q3⟩:=hrG _ _ _ f2;obtain⟨p3,p4,q4,q5,q6⟩:=hrG _ _ _ f4;have:=E.ln _ _ _ _ _ _ _ q1 q4;refine⟨U,?_⟩;rcases q3 with⟨u1,u2,u3⟩|⟨u1,u2,u3⟩<;>rcases q6 with⟨u4,u5,u6⟩|⟨u4,u5,u6⟩
    .rw[u3,u6]
    .omega
    .omega
    .rw[u2,u5]at this;exact this.2
  .intro p hp;rw[AB.d7,ae U,AB.d7,ae U];exact E.dom p hp
  .intro p;rw[AB.d7];split
   .simp only[EV.WF,TV.WF]at hws hwq|-;exact⟨by rw[b6];exact Vq (by simpa using hmax),Lw.2 ⟨hws.2,⟨hwq,trivial⟩⟩⟩
   .rw[AB.d7];split
    .trivial
    .exact E.wf p
  .exact λp hp _=>AZ _ _ _ _ (λe=>hp e.symm)
  .exact λp hp _=>by rw[AB.d7,ae (λe=>hp e.symm)]
  .exact λe=>absurd rfl e
  .intro cs;rw[AB.d7,ac rfl];simp
  .intro m es';rw[AB.d7,ac rfl];simp
  .intro F' hF';rw[AB.d7,ac rfl,C7 _ _ _ hd];have hag:Bw w w' (AW w0.heap.size F0 G) F':=by
    intro b o u hc hf;have hlt:b<w.heap.size:=World.block_lt_of_cell? w ⟨b,o,W⟩ hc;refine⟨θ.cell b o u hc λlo e=>absurd (.inr ⟨s,W,0,C _ _ e,K? _⟩) hf,λhf'=>?_⟩;rcases hF' b o hf' with⟨_,e,_⟩|⟨p,j,lo,h,B⟩
    .exact hf (L b o e)
    .rcases(hzz _ _ _ _ h).2 with R|⟨p2,j2,lo2,R,e4⟩
     .omega
     .obtain⟨p3,j3,e5,_⟩:=Cc R;exact hf (L b o (.inr ⟨p3,j3,lo2,e5,L' e4 B⟩))
   have hzd:Cl a ε s s Z s W=Y (H,0):=by simp[Cl,Z,Ue]
   have hrow:∀j,tn (a.put (Y s) v') (Cl a ε s s Z) H j=rowz j:=λj=>by
    rw [Rv (k:=W) (lo:=0) (Bx _ _ _) hd δ (by simp[Z,Ue]) j];exact oC j
   simp only[AN];rw[hzd];refine⟨xs++[x],⟨z',by rw[b6];exact r1,by rw[m3];rfl⟩,?_,?_⟩
   .intro y hy;rcases B!.1 hy with hy|hy
    .exact h2 y hy
    .simp only[H?]at hy;subst hy;exact k5
   .have hxl:xs.length=es.length:=by have:=h1.1;omega
    intro j el hj;by_cases hjl:j<es.length
    .rw[E_ hjl]at hj;obtain⟨g,y,m,fs',h,B,R,e4⟩:=h3 j el hj;refine⟨H,y,m,fs',rfl,by rw[E_ U];exact B,R,?_⟩;rw[hrow];have ζ:∃l,z0=Y (g,l):=by
      rw [hz0]at h;cases z0 with
      |none=>cases h
      |some p=>simp only[Q_,p0,Prod.mk.injEq,and_true]at h;exact⟨p.2,by rw[<-h]⟩
     obtain ⟨l,ζ⟩:=ζ;have hrj:rowz j=tn a G g j:=by
      simp only[rowz,ζ];rw[ae U];rfl
     rw [hrj];exact e4.kept hag λb lo hb=>θ.other b (A _ _ _ _ hb) λM e=>by
      have:=(E.ln _ _ _ _ _ _ _ (C _ _ e) hb).1;omega
    .have hje:j=es.length:=by
      have:=(D_.1 hj).1;simp only[b6,G!]at this;omega
     subst hje;rw[E? (az _),M?]at hj;simp only[H!,p0]at hj;subst hj;refine⟨H,x,n,fs,rfl,by rw[<-hxl,E? (az _),M?];rfl,rfl,?_⟩;rw[hrow];have hrj:rowz es.length=G q W:=by simp[rowz]
     rw [hrj];exact k6.kept hag λb lo hb=>θ.other b (A _ _ _ _ hb) λM e=>hsq (E.ln _ _ _ _ _ _ _ (C _ _ e) hb).1
variable{m:Nat}
theorem pQ(hI:AO F0 w0 O a w G)(hd:d<a.tmps.size){i:TypeInfo}{z:Value}(κ:o.op=.call {callee:=.builtin .append,args:=#[.tmp m,.tmp q],argTypes:=#[t,t]})
  (ht:P.underlying t=Y (.slice e))(hi:P.info? e=Y i)(hz:i.zero=Y z)(A:i.size=1)(η:i.bytes<=4096)(ζ:z.cells.size=1)
  (h:(AF.AaJ m q).wp S O (Y d) K):BI P F0 w0 a w o d K:=by
 simp only[AF.wp]at h;split at h
 .rename_i d' s off n fs C hm hq;simp only[p0]at C;subst C;split at h
  .rename_i cs δ;cases g:O.nat s off with
   |none=>rw[g]at h;exact h.elim|some es=>
    rw [g]at h;simp only[A0]at h;obtain⟨H,⟨I,hdm,hdq,hmq⟩,hK⟩:=h;obtain⟨cs',J,hk⟩:=AB.rr g;rw[δ]at J;cases J;have hds:d≠s:=λe=>AB.z5 d O I m (by rw[hm,e];rfl);obtain⟨b,c0,θ,x0,e1,e2,e3,e4⟩:=Yp hI (x:=.tmp m) (y:=.s m) r? hm g;simp only[NK.at]at e4;have B:w.cell? ⟨b,off,W⟩=Y x0:=by rw[cell_of_row w b off c0 θ (0,0) e2];exact e3
    obtain ⟨G1,h1⟩:=hI.AaZ δ hk hd e1 B (.inr (.inr ⟨es,rfl,rfl,rfl,I⟩));have h2:=h1.strip m;have hsd:(strip ((d,EV.xn es)::(s,.bx (cs.set off ⟨T,.undef⟩))::O) m).get d=.xn es:=by
     grind [strip,AB.d7]
    have hsq:s≠q:=by rintro rfl;rw[δ]at hq;cases hq
    have hqq:(strip ((d,EV.xn es)::(s,.bx (cs.set off ⟨T,.undef⟩))::O) m).get q=.x1 n fs:=by
     grind [strip,AB.d7]
    obtain ⟨v',w',l,L⟩:=h2.AaJ (ty:=o.type) hsd hqq ht hi hz A η ζ H;rw[C7 _ _ _ hd,AZ _ _ _ _ hdq]at l;refine⟨v',w',?_,_,_,hK,?_⟩
    .have hme:a.eval (.tmp m)=x0:=e4;simp[execOp,κ,resolve,invoke,builtin,hme,show a.eval (.tmp q)=slot a q from rfl,l]
    .have E:(a.put (Y d) x0).put (Y d) v'=a.put (Y d) v':=by simp[Act.put]
     rw [E]at L;refine L.congr' λp=>?_;simp only[strip,AB.d7];by_cases M:d=p
     .simp[M]
     .by_cases R:q=p
      .have ε:¬s=p:=λe=>hsq (e.trans R.symm);simp[M,R,ε]
      .by_cases ε:m=p
       .have k4:¬s=p:=λe=>by
         grind
        simp [M,R,ε,k4]
       .simp[M,R,ε]
  .exact h.elim
 .exact h.elim
def AO.renest(h:AO F0 w0 O a w G){s off g r n:Nat}{es fs fs':Fq}(hx:O.nat s off=Y es)(hg:G s (Y off)=Y (g,0))(hr:es[r]?=Y (.list n fs)){w':World}(hb:SB (tn a G g r) w w')(hz0:∀b lo,tn a G g r=Y (b,lo)->lo=0)
  (hrow:∀y,w.cell? ⟨g,r,W⟩=Y y->Bw w w' (AW w0.heap.size F0 G) (AW w0.heap.size F0 G)->SD w' (AW w0.heap.size F0 G) (tn a G g r) n fs' y)(hw:(TV.list n fs').WF):
  AO F0 w0 (O.AbL s off (es.set r (.list n fs'))) a w' G:=by
 obtain ⟨b1,b2,b3,b4,b5⟩:=hb;obtain⟨cs,hs,hk⟩:=AB.rr hx;have hsz:s<a.tmps.size:=Bz h hs V;have δ:=h.wf s;rw[hs]at δ;have hzG:∀lo b,tn a G g r=Y (b,lo)->G (a.tmps.size+g) (Y r)=Y (b,lo):=λ_ _ e=>e;have A:∀p i b lo,p<a.tmps.size->G p i=Y (b,lo)->w'.heap[b]?=w.heap[b]?:=by
  intro p i b lo H e;refine b5 b (h.lt _ _ _ _ e).1 λE e'=>?_;have:=(h.ln _ _ _ _ _ _ _ e (hzG _ _ e')).1;omega
 have B:∀C j b lo,¬(C=g/\j=r)->tn a G C j=Y (b,lo)->w'.heap[b]?=w.heap[b]?:=by
  intro C j b lo hne e;refine b5 b (h.lt _ _ _ _ e).1 λE e'=>hne ?_;have:=h.ln _ _ _ _ _ _ _ e e'
  grind
 have L:Bw w w' (AW w0.heap.size F0 G) (AW w0.heap.size F0 G):=by
  intro b o u hc hF;refine⟨?_,hF⟩;have hlt:b<w.heap.size:=World.block_lt_of_cell? w ⟨b,o,W⟩ hc;rw[World.cell?_of_block (w:=w) (a:=⟨b,o,W⟩) (b5 b hlt (λlo l=>hF (.inr ⟨_,Y r,lo,l,by rw[hz0 b lo l];exact K? _⟩)))];exact hc
 have M:IA F0 w0 w':=h.below.but b1 b2 b3 b4 (Z:=λk=>∃lo,tn a G g r=Y (k,lo)) (λb⟨lo,l⟩=>(h.lt _ _ _ _ l).2.imp id (λe o=>e o (by rw[hz0 b lo l];exact K? _))) (λk hk l=>b5 k (L_ hk h.below.size) (λlo e=>l ⟨lo,e⟩));have I:∀q i,(∃p,AB.nat ((s,.bx (cs.set off ⟨X,.xn (es.set r (.list n fs'))⟩))::O) q i=Y p)->∃p,O.nat q i=Y p:=by
  grind [AB.rr,AB.d7,I_,AB.nat,AB.Aah]
 have J:∀q i,(∃p,AB.so ((s,.bx (cs.set off ⟨X,.xn (es.set r (.list n fs'))⟩))::O) q i=Y p)->∃p,O.so q i=Y p:=by
  rintro q i ⟨⟨n1,es1⟩,H⟩;by_cases hsq:s=q
  .subst hsq;cases i with
   |none=>have:=AB.tl H;rw[AB.d7,ac rfl]at this;cases this
   |some i=>
    grind [AB.pr,AB.d7,I_,AB.so]
  grind [AB.Aag]
 simp only[AB.AbL,hs];refine⟨h.ln,λp i b lo e=>⟨L_ (h.lt _ _ _ _ e).1 b4,(h.lt _ _ _ _ e).2⟩,M,h.defers,λp H=>?_,λp H=>?_,λp=>?_⟩
 .rw[AB.d7,ae U];exact h.dom p H
 .rw[AB.d7];by_cases hsp:s=p
  .subst hsp;rw[ac rfl];have hr0:=h.slots s H;rw[hs]at hr0;simp only[AN]at hr0|-;obtain⟨b,c,θ,e1,e2,e3,e4,e5⟩:=hr0;refine⟨b,c,θ,e1,by rw[A _ _ _ _ H e4];exact e2,by simpa using e3,e4,λi d hd=>?_⟩;by_cases hio:off=i
   .subst hio;rw[List.getElem?_set_self (by rcases K! off cs.length with h|h;exact h;rw[I' h]at hk;cases hk)]at hd;simp only[p0]at hd;subst hd;obtain⟨x,f1,f2⟩:=e5 off _ hk;refine⟨x,f1,?_⟩;obtain⟨xs,⟨z0,k1,k2⟩,k3,k4⟩:=(f2:GI _ _ _ _ _ _);refine⟨xs,⟨z0,?_,k2⟩,k3,λj e ε=>?_⟩
    .rw[I!];exact k1.kept (λκ lo l=>A s (Y off) κ 0 H (by rw[k2,l];rfl))
    .rw[y!]at ε;by_cases hrj:r=j
     .subst hrj;rw[ac rfl]at ε;split at ε
      .simp only[p0]at ε;subst ε;obtain⟨C,y,n2,fs2,m1,m2,m3,m4⟩:=k4 r _ hr;have hgg:C=g:=by rw[hg]at m1;simpa using m1.symm
       subst hgg;refine⟨C,y,n,fs',m1,m2,rfl,hrow y ?_ L⟩;rcases k1.2 with⟨_,hn,_⟩|⟨g3,cap,cur,e',q1,q2,q3,q4,q5,q6,q7⟩
       .have:es=[]:=y_ hn;subst this;simp at hr
       .rw[k2,q7]at m1;simp only[Q_,p0,Prod.mk.injEq,and_true]at m1;subst m1;exact k1.cell q1 r y m2
      .cases ε
     .rw[ae hrj]at ε;obtain⟨C,y,n2,fs2,m1,m2,m3,m4⟩:=k4 j _ ε;exact⟨C,y,n2,fs2,m1,m2,m3,m4.kept L λκ lo l=>B C j κ lo (λe=>hrj e.2.symm) l⟩
   .rw[I_ hio]at hd;obtain⟨x,f1,f2⟩:=e5 i d hd;refine⟨x,f1,f2.Abo L (λκ lo l=>A _ _ _ _ H l) λC lo j κ E l hρ=>B C j κ E (λe=>?_) hρ⟩;rw[e.1]at l;have:=(h.ln _ _ _ _ _ _ _ l hg).2;simp only[p0]at this;exact hio this.symm
  .rw[ae hsp];refine AN.kept' L (λ_=>rfl) (λi b lo l=>A _ _ _ _ H l) (λ_ _ _ _ _=>rfl) (λi C lo j κ E l hρ=>B C j κ E (λe=>?_) hρ) (λq i k _ η=>⟨I q i η,h.nh (I q i η) rfl λj b _ l=>?_⟩) (λq off' _⟨cs',ζ⟩=>⟨?_,rfl⟩) (λq i _ η=>⟨J q i η,h.xv (J q i η) rfl λb l=>?_⟩) (h.slots p H)
   .rw[e.1]at l;exact hsp (h.ln _ _ _ _ _ _ _ l hg).1.symm
   .obtain⟨pp,R⟩:=I q i η;obtain⟨cs',h2,_⟩:=AB.rr R;exact A _ _ _ _ (Bz h h2 V) l
   .rw[AB.d7]at ζ;split at ζ
    next e=>subst e;exact⟨cs,hs⟩
    .exact⟨cs',ζ⟩
   .obtain⟨⟨n1,es1⟩,R⟩:=J q i η;refine A q W b 0 ?_ l;cases i with
    |none=>exact Bz h (AB.tl R) V|some i=>obtain⟨cs',h2,_⟩:=AB.pr R;exact Bz h h2 V
 .rw[AB.d7];split
  .intro y hy;rcases y? hy with hy|rfl
   .exact δ y hy
   .have h1:(TV.list 1 es).WF:=δ _ (x? hk);simp only[TV.WF]at h1|-;refine⟨by simpa using h1.1,?_⟩;rw[CC]at h1|-;intro t ht;rcases y? ht with ht|rfl
    .exact h1.2 t ht
    .exact hw
  .exact h.wf p
variable{u:TV}
def aS(l:u.cells=[u]):∀(fs:Fq)(c:Nat),(∀e∈fs,e.cells.length=1)->(fs.set c u).flatMap TV.cells=(fs.flatMap TV.cells).set c u
 |[],c,_=>by simp|f::fs,c,h=>by
  obtain ⟨A,g⟩:=I?.1 (h f V);cases c with
  |zero=>simp[x!,g,l]|succ c=>
   simp only[List.set_cons_succ,x!,g,A?];rw[aS l fs c (λe he=>h e (by simp[he]))]
theorem tA(hI:AO F0 w0 O a w G){x v:Operand}{x' v':AH}(hop:o.op=.store t x v)(R:AK x x'=X)(hv:AK v v'=X)(hn:DI P t=Y 1)(h:(AF.nst x' v').wp S O W K):Iu P F0 w0 a w o K:=by
 simp only[AF.wp]at h;split at h
 .rename_i s off r c u hy hu;cases C:O.nat s off with
  |none=>rw[C]at h;exact h.elim|some es=>
   rw [C]at h;simp only[A0]at h;obtain⟨fs,hr,hc,L,hfl,hK⟩:=h;obtain⟨b,c0,θ,x0,e1,e2,e3,g,len,cap,e0,M,len',cap',e4,e5⟩:=Yp hI R hy C;subst e0;obtain⟨b',c',T',v0,f1,f2,f3,f4,f5,hwes⟩:=Vr hI C;rw[e1]at f1;simp only[Value.pointer.injEq,p0,Addr.mk.injEq,and_true,and_self]at f1;subst f1;rw[e2]at f2;cases f2;rw[e3]at f3;simp only[p0]at f3;subst f3;obtain⟨g',cap1,cur,e,xs,g1,g2,g3,_,gz,g4,_⟩:=Wa f5 (by rintro rfl;simp at hr);simp only[Value.slice.injEq,p0,Addr.mk.injEq,and_true]at g1;obtain⟨rfl,rfl,rfl⟩:=g1;obtain⟨y,n,fs',k1,k2,k3⟩:=g4 r _ hr;simp only[TV.list.injEq]at k2;obtain⟨rfl,rfl⟩:=k2;have hcy:=e4;rw[cell_of_row w g r cur e (0,0) g2,k1]at e4;simp only[p0]at e4;subst e4;obtain⟨ys,⟨z0,m1,m2⟩,m3,m4,m5⟩:=k3;rcases m1.2 with⟨e9,_,_⟩|⟨gr,capr,A,er,q1,q2,q3,q4,q5,q6,q7⟩
   .cases e9
   .simp only[Value.slice.injEq,p0,Addr.mk.injEq,and_true]at q1;obtain⟨rfl,rfl,rfl⟩:=q1;have ε:=BF hI hv (t:=u) (by simp[AH.val,hu,EV.val]);have κ:=Hi ε.1;rw[L]at κ;have η:∃y,(a.eval v).cells.toList=[y]/\A3 w (AW w0.heap.size F0 G) u y/\y.oneCell'=X:=by
     obtain ⟨k1,k2⟩:=κ;simp only[AR]at k1;obtain⟨y,r,k3,k4,rfl⟩:=k1;exact⟨y,k3,k4,k2 y (by rw[k3];simp)⟩
    obtain ⟨y,k1',k2',k3'⟩:=η;have ζ:c<A.size:=U
    have E:=run_storeCells_at P M c er [y] 0 A w q2 (by simp only[G!];omega) (by simpa using k3');simp only[M']at E;have hsz:(a.eval v).cells.size=1:=by rw[<-O_,k1'];rfl
    have hst:(execOp a.eval o).run P w=.ok .skip (w.setRow M (A.toList.take c++[y]++A.toList.drop (c+1)).toArray):=by
     simp only[G!]at E;simp[execOp,hop,e5,Instr.storeAt,Instr.sureAddr,storeVar,CW hn,hsz,k1',E]
    have J:tn a G g r=Y (M,0):=by rw[m2,q7];rfl
    have H:(TV.list 1 fs).WF:=CC.1 hwes.2 _ (x? hr);have hyl:ys.length=fs.length:=by have:=m1.1;omega
    refine ⟨_,hst,_,hK,G,hI.renest C gz hr (fs':=fs.set c u) ?_ ?_ (λy' I hag=>?_) ?_⟩
    .exact⟨rfl,rfl,rfl,V,λk _ hk=>setRow_other w M k _ (λe=>hk 0 (by rw[e];exact J))⟩
    .intro b lo hb;rw[J]at hb;simp only[p0,Prod.mk.injEq]at hb;exact hb.2.symm
    .rw[hcy]at I;simp only[p0]at I;subst I;refine⟨ys.set c y,⟨Y (M,fs.length*1),⟨by rw[I!,I!];omega,.inr ⟨M,cap',_,er,by rw[I!],setRow_heap w M A _ er _ q2,by rw[I!];exact q3,q4,?_,?_,by rw[I!]⟩⟩,by rw[J];rfl⟩,?_,?_,?_⟩
     .simp only[D!,b6,bk,D?,O_,G!];omega
     .rw[I!,<-q6];apply J_;intro i;have hs2:A.toList.take c++[y]++A.toList.drop (c+1)=A.toList.set c y:=by
       rw [List.set_eq_take_append_cons_drop,ac (by simpa using ζ),ci];rfl
      rw [hs2];simp only[E',y!,bk,O_];by_cases hi:i<fs.length*1
      .simp only[ac hi];by_cases δ:c=i
       .subst δ;simp only[if_true];rw[ac ζ,ac U]
       .simp only[ae δ]
      .simp only[ae hi];rw[ae U]
     .rw[Bt];have m3':=(Bt _ _).1 (A6 hag _ _ m3);rw[aS L fs c m4];refine⟨by rw[I!,I!];exact m3'.1,λi t' v'' B l=>?_⟩;rw[y!]at B l;by_cases hic:c=i
      .subst hic;rw[ac rfl]at B l;split at B
       .split at l
        .simp only[p0]at B l;subst B l;exact Us u hfl _ k2'
        .cases l
       .cases B
      .rw[ae hic]at B l;exact m3'.2 i t' v'' B l
     .intro e he;rcases y? he with he|rfl
      .exact m4 e he
      .rw[L];rfl
     .intro x R;rcases y? R with R|rfl
      .exact m5 x R
      .exact k3'
    .simp only[TV.WF]at H|-;refine⟨by simpa using H.1,?_⟩;rw[CC];intro t ht;rcases y? ht with ht|rfl
     .exact CC.1 H.2 t ht
     .exact ε.2
 .exact h.elim
def Z7(C:AO F0 w0 O a w G)(H:u.WF):∀{i:Nat}{xs:List Operand}{ys:List AH},Br xs ys=X->∀{ts:Fq},Jd O i ys=Y ts->(∀x,xs[i]?=Y x->A3 w (AW w0.heap.size F0 G) u (a.eval x))->AR w (AW w0.heap.size F0 G) (ts.set i u) (xs.map a.eval)/\TV.pq (ts.set i u)
 |_,[],[],_,ts,h,_=>by simp[Jd]at h;subst h;exact⟨rfl,trivial⟩|_,[],_::_,h,_,_,_=>by simp[Br]at h|_,_::_,[],h,_,_,_=>by simp[Br]at h|0,x::xs,y::ys,g,ts,h,ho=>by
  simp only[Br,mo]at g;simp only[Jd]at h;split at h
  next E l=>simp only[p0]at h;subst h;have A:=ho x V;obtain⟨B,L⟩:=Gh C g.2 l;exact⟨⟨_,_,rfl,A,B⟩,H,L⟩
  .cases h
 |i+1,x::xs,y::ys,g,ts,h,ho=>by
  simp only[Br,mo]at g;simp only[Jd]at h;split at h
  next t E J l=>simp only[p0]at h;subst h;have A:=BF C g.1 J;have B:=Z7 C H g.2 l (λx I=>ho x s_);exact⟨⟨_,_,rfl,A.1,B.1⟩,A.2,B.2⟩
  .cases h
variable{f:FuncId}{ats:Array TypeId}
theorem mN(A:AO F0 w0 O a w G)(hd:d<a.tmps.size)(δ:o.dst=Y d){xs:Array Operand}{ys:List AH}{i:Nat}(hop:o.op=.call {callee:=.value (.func f),args:=xs,argTypes:=ats})(hok:Br xs.toList ys=X)(h:(AF.AaL f ys i).wp (AV P) O (Y d) K)
  {next:Act->World->Prop}{Q:Exit->Act->World->Prop}(hn:∀e env' a' w',K e env'->SC a d a'->CE F0 w0 ((d,e)::env') a' w'->next a' w'):o.wp P a w next Q:=by
 simp only[AF.wp]at h;split at h
 .rename_i d' q hdd hy;simp only[p0]at hdd;subst hdd;split at h
  .rename_i cs hq;obtain⟨hdq,h⟩:=h;cases R:Jd O i ys with
   |none=>rw[R]at h;exact h.elim|some ts=>
    rw [R]at h;simp only[A0]at h;obtain⟨r,hS,hK⟩:=h;have θ:q<a.tmps.size:=Bz A hq V;have hxi:∀(xs:List Operand)(ys:List AH)(i:Nat)(y:AH),Br xs ys=X->ys[i]?=Y y->∃x,xs[i]?=Y x/\AK x y=X:=by
     intro xs
     induction xs with
     |nil=>intro ys i y I M;cases ys<;>simp[Br]at I M
     |cons x xs ih=>
      intro ys i y I M;cases ys with
      |nil=>simp[Br]at I|cons z ys=>
       simp only[Br,mo]at I
       grind
    obtain ⟨x,hx,hxy⟩:=hxi _ _ _ _ hok hy;have hev:=LU (a:=a) hxy;have hr:=At A hq V;have hwc:=A.wf q;rw[hq]at hwc;simp only[AN]at hr;obtain⟨vs,I,M,h3⟩:=hr;have hone:∀y∈vs.toList,y.oneCell'=X:=by
     intro y hy;obtain⟨i,hi⟩:=D' hy;have hlt:i<cs.length:=by have:=(D_.1 hi).1;simpa[M]using this
     obtain ⟨x,hx,H⟩:=h3 i _ (z_ hlt)
     grind [p0,Hz]
    have C:A3 w (AW w0.heap.size F0 G) (.agg (cs.map λ_=>TV.undef)) (a.eval x):=by
     grind [A3,F!,Bt,Q',x?]
    have hwu:(TV.agg (cs.map λ_=>TV.undef)).WF:=by
     grind [TV.WF,CC]
    have hv:=Z7 A hwu hok R (λx' hx'=>by rw[hx]at hx';cases hx';exact C);have E:∀b o,AW w0.heap.size F0 G b o↔((AW w0.heap.size F0 G b o/\¬ZF (CD a G q) b o)\/ZF (CD a G q) b o):=by
     intro b o;constructor
     .intro hf;by_cases ζ:ZF (CD a G q) b o
      .exact .inr ζ
      .exact .inl ⟨hf,ζ⟩
     .rintro(hf|⟨p,i,lo,I,M⟩)
      .exact hf.1
      .obtain⟨p,j,κ,_⟩:=Cc I;exact .inr ⟨p,j,lo,κ,M⟩
    have hF:(λb o=>(AW w0.heap.size F0 G b o/\¬ZF (CD a G q) b o)\/ZF (CD a G q) b o)=AW w0.heap.size F0 G:=by
     funext b o;exact propext (E b o).symm
    obtain ⟨k0,k3⟩:=hS hv.2 hwc;have hbr:X2 w (λb o=>(AW w0.heap.size F0 G b o/\¬ZF (CD a G q) b o)\/ZF (CD a G q) b o) (CD a G q) cs (slot a q):=by
     rw [hF];refine⟨vs,I,M,λj c H=>?_⟩;obtain⟨x,J,η⟩:=h3 j c H;refine⟨x,J,by rw[Dk];exact η.tn (λg lo j hg=>QU hg j),Hz η⟩
    obtain ⟨k1,k4⟩:=k3 (λb o=>AW w0.heap.size F0 G b o/\¬ZF (CD a G q) b o) w (xs.map a.eval) (slot a q) (CD a G q) (by rw[hF];simpa using hv.1)
     (by rw[O?];rw[<-O!,hx];simp only[Q_];rw[hev]) hbr (LH A θ) (λp i b lo e=>by obtain⟨p,j,κ,_⟩:=Cc e;exact(A.lt _ _ _ _ κ).1)
     (by
      rintro b o o' ⟨p,i,lo,J,η⟩ ⟨hf,hnz⟩;by_cases hlo:lo<=o'
      .exact hnz ⟨p,i,lo,J,hlo⟩
      .obtain⟨p,j,κ,_⟩:=Cc J;exact QI A b lo o' κ U hf)
     ⟨A.below.now,λb o⟨_,_,_,e,_⟩=>by obtain⟨_,_,κ,_⟩:=Cc e;exact A.low κ⟩
    have hrun:(execOp a.eval o).run P w=(callFunc f (xs.map a.eval)).run P w:=by simp[execOp,hop,resolve,Act.eval,Deferred.ofValue,invoke]
    unfold Oper.wp;rw[hrun,FM k0 _,Oper.upon_enter];refine k4.mono ?_;rintro e w' ⟨v',rfl,r1,r2⟩;simp only[δ];refine hn _ _ _ _ (hK k1) ⟨_,rfl⟩ ?_;have ε:∀Z:D0,KX Z->(∀p i b lo,Z p i=Y (b,lo)->b<w'.heap.size/\(w.heap.size<=b\/∃p' j lo',CD a G q p' j=Y (b,lo')/\lo'<=lo))->(∀cs,r.aev≠.bx cs)->(∀n es,r.aev≠.xo n es)->r.aev.WF ->
      (∀F',(∀b o,F' b o->(b<w.heap.size/\AW w0.heap.size F0 G b o/\¬ZF (CD a G q) b o)\/ZF Z b o)->AN (a.put (Y d) v') w' F' (Cl a G q d Z) ((d,r.aev)::(q,.undef)::O) d r.aev v')->CE F0 w0 ((d,r.aev)::(q,.undef)::O) (a.put (Y d) v') w':=by
     intro Z hzu ζ hb1 hb2 hwf hrep;refine⟨_,(A.Aax (s:=q) (d:=d) (Z:=Z) (w':=w') (env':=(d,r.aev)::(q,.undef)::O) (a':=a.put (Y d) v') θ hd r1 (Bx _ _ _) (FP _ _ _) hzu ζ ?_ ?_ ?_ ?_ ?_ (.inr (.inr ⟨λcs=>by rw[AB.d7,ac rfl];exact hb1 cs,λn es=>by rw[AB.d7,ac rfl];exact hb2 n es⟩)) ?_).1⟩
     .intro p hp;rw[AB.d7,ae U,AB.d7,ae U];exact A.dom p hp
     .intro p;rw[AB.d7];split
      .exact hwf
      .rw[AB.d7];split
       .trivial
       .exact A.wf p
     .exact λp hp _=>AZ _ _ _ _ (λe=>hp e.symm)
     .exact λp hp hpq=>by rw[AB.d7,ae (λe=>hp e.symm),AB.d7,ae (λe=>hpq e.symm)]
     .exact λ_=>by rw[AB.d7,ae hdq,AB.d7,ac rfl]
     .intro F' l;rw[AB.d7,ac rfl,C7 _ _ _ hd];exact hrep F' l
    have B:∀(Z:D0)(F':Nat->Nat->Prop),(∀p i b lo,Z p i≠Y (b,lo))->(∀b o,F' b o->(b<w.heap.size/\AW w0.heap.size F0 G b o/\¬ZF (CD a G q) b o)\/ZF Z b o)->Bw w' w' (λb o=>b<w.heap.size/\AW w0.heap.size F0 G b o/\¬ZF (CD a G q) b o) F':=by
     intro Z F' hZ l b o u H hf;refine⟨H,λL=>?_⟩;rcases l b o L with e|⟨p,i,lo,e,_⟩
     .exact hf e
     .exact hZ _ _ _ _ e
    cases r with
    |sh t=>
     refine ε (λ_ _=>W) (λ_ _ _ _ _ _ _ e=>p?) (λ_ _ _ _ e=>p?) v5 v5 k1 λF' l=>?_;simp only[BA.aev,BA.ev,AN];exact CY (B _ F' V l) _ _ r2
    |tp ts=>
     refine ε (λ_ _=>W) (λ_ _ _ _ _ _ _ e=>p?) (λ_ _ _ _ e=>p?) v5 v5 k1 λF' l=>?_;simp only[BA.aev,BA.ev,AN];obtain⟨us,J,η⟩:=r2;exact⟨us,J,A6 (B _ F' V l) _ _ η⟩
    |oag ds=>
     obtain ⟨Z,⟨us,J,η,e3⟩,e4,e5,e6⟩:=r2;refine ε Z e4 e6 (by simp[BA.aev]) (by simp[BA.aev]) k1 λF' l=>?_;simp only[BA.aev,AN];refine⟨us,J,η,λj c H=>?_⟩;obtain⟨y,g1,g2,g3⟩:=e3 j c H;refine⟨y,g1,?_⟩;have hzz:Cl a G q d Z d=Z 0:=by simp[Cl]
     rw [hzz];refine BW.tn (g2.kept (λb o u H hf=>⟨H,λL=>hf ?_⟩) (λ_ _ _=>rfl) BY.rfl') (λg lo j ζ=>Rv (Bx _ _ _) hd θ ζ j);exact l b o L
    |_=>exact r2.elim
  .exact h.elim
 .exact h.elim
variable{ps:List (Option AS)}
theorem tC(E:AO F0 w0 O a w G){x v:Operand}{x' v':AH}(hop:o.op=.store t x v)(hx:AK x x'=X)(hv:AK v v'=X)(hn:DI P t=Y n)(h:(AF.stq n ps x' v').wp S O W K):Iu P F0 w0 a w o K:=by
 simp only[AF.wp]at h;split at h
 .rename_i s off u hp hve;split at h
  .rename_i cs hs;obtain⟨b,hsl,hadr⟩:=IT E hx hp hs;have hr:=At E hs V;simp only[AN]at hr;obtain⟨κ,c,θ,h1,h2,h3,h4,h5⟩:=hr;rw[hsl]at h1;simp only[Value.pointer.injEq,p0,Addr.mk.injEq,and_true,and_self]at h1;subst h1;have hw:=E.wf s;rw[hs]at hw;have hst:∀(vs:List Value),vs.length=n->(a.eval v).cells.toList=vs->off+n<=c.size->(∀y∈vs,y.oneCell'=X)->(execOp a.eval o).run P w=.ok .skip (w.setRow b (c.toList.take off++vs++c.toList.drop (off+n)).toArray):=by
    intro vs hl L hle ho;have C:=run_storeCells_at P b off θ vs 0 c w h2 U ho;simp only[M']at C;have hsz:(a.eval v).cells.size=n:=by rw[<-O_,L,hl]
    rw [hl]at C;simp[execOp,hop,hadr,Instr.storeAt,Instr.sureAddr,storeVar,CW hn,hsz,L,C]
   cases hb:E2 ps u.cells with
   |none=>rw[hb]at h;exact h.elim|some ds=>
    rw [hb]at h;simp only[A0]at h;obtain⟨hl,hcs⟩:=OR hb;obtain⟨hun,hoff,hnx,hK⟩:=h;have ζ:=BF E hv hve;have L:=Hi ζ.1;have H:=BX L.1;refine⟨_,hst _ U rfl U L.2,_,hK,?_⟩
    let zs:Option Nat->Option (Nat×Nat):=λi=>match i with|none=>Y (b,0)|some j=>if off<=j/\j<off+n then W else G s (Y j)
    refine E.rebox_n hs hsl h2 (zs:=zs) rfl ?_ ?_ ?_ ?_ ?_ ?_
    .intro i κ lo hi hz;cases i with
     |none=>exact absurd rfl hi|some j=>
      simp only[zs]at hz;split at hz
      .cases hz
      .exact hz
    .intro i i' κ lo J A B;have zn:∀j κ lo J,zs (Y j)=Y (κ,lo)->zs W=Y (κ,J)->False:=by
      intro j κ lo J A B;simp only[zs,p0,Prod.mk.injEq]at B;obtain⟨rfl,_⟩:=B;simp only[zs]at A;split at A
      .cases A
      .have:=(E.ln _ _ _ _ _ _ _ A h4).2;cases this
     cases i with
     |none=>cases i' with
      |none=>rfl|some j=>exact(zn j _ _ _ B A).elim
     |some j=>cases i' with
      |none=>exact(zn j _ _ _ A B).elim|some j'=>
       simp only[zs]at A B;split at A<;>split at B
       .cases A
       .cases A
       .cases B
       .exact(E.ln _ _ _ _ _ _ _ A B).2
    .simp only[D!,b6,bk,D?,O_]at H|-;omega
    .intro F' w' M I η i y l;rw[E!];rcases K! i off with ε|hge
     .rw[ci,E_ an,F_ ε]at l;obtain⟨vv,A,B⟩:=h5 i y l;refine⟨vv,?_,?_⟩
      .rw[ci,E_ an,F_ ε];simpa using A
      .simp only[zs];rw[ae U];exact B.kept M (λk lo hk=>I k (λe=>by have:=(E.ln _ _ _ _ _ _ _ (e▸hk) h4).2;cases this)) η
     .rcases K! i (off+n)with ε|hge2
      .rw[ci,E? an,E_ an]at l;simp only[bk]at l;rw[L? U]at l;obtain⟨tt,htt,R⟩:=hcs _ _ l;have δ:(a.eval v).cells.toList[i-off]?=Y ((a.eval v).cells.toList[i-off]' U):=z_ U;refine⟨(a.eval v).cells.toList[i-off]' U,?_,?_⟩
       .rw[ci,E? an,E_ (by simp only[bk,O_]at H|-;omega)];simp only[bk,O_];rw[L? U];exact δ
       .have hzi:zs (Y i)=W:=by simp only[zs];rw[ac ⟨U,U⟩]
        have g:=((Bt _ _).1 L.1).2 _ tt _ htt δ;rw[hzi];rcases R with rfl|⟨rfl,n',rfl|rfl|rfl⟩
        .exact⟨CY M _ _ g,L.2 _ (G? _)⟩
        .simp only[A3]at g;simp only[BW,E0,CI];exact⟨[],⟨V,.inl ⟨g,rfl,rfl⟩⟩,rfl,V,V⟩
        .simp only[A3]at g;simp only[BW,E0];exact⟨[],⟨W,⟨V,.inl ⟨g,rfl,rfl⟩⟩,rfl⟩,rfl,V,V⟩
        .simp only[A3]at g;simp only[BW,E0];exact⟨[],⟨W,⟨V,.inl ⟨g,rfl,rfl⟩⟩,rfl⟩,V,V⟩
      .rw[E? an]at l;simp only[b6,bk,C?]at l;rw[L? U,show off+n+(i-(off+ds.length))=i from U]at l;obtain⟨vv,A,B⟩:=h5 i y l;refine⟨vv,?_,?_⟩
       .rw[E? (by simp only[b6,bk,O_]at H|-;omega)];simp only[b6,bk,O_,C?]at H|-;rw[L? U,show off+n+(i-(off+(a.eval v).cells.size))=i from U];simpa using A
       .simp only[zs];rw[ae U];exact B.kept M (λk lo hk=>I k (λe=>by have:=(E.ln _ _ _ _ _ _ _ (e▸hk) h4).2;cases this)) η
    .intro y l;rcases B!.1 l with l|l
     .rcases B!.1 l with l|l
      .exact hw y (z! l)
      .obtain⟨i,hi⟩:=D' l;obtain⟨tt,ht,R⟩:=hcs i y hi;rcases R with rfl|⟨rfl,n',rfl|rfl|rfl⟩
       .exact CC.1 (JC ζ.2) tt (x? ht)
       .simp[TV.WF,TV.pq]
       .simp[TV.WF,TV.pq]
       .simp[TV.WF,TV.pq]
     .exact hw y (z? l)
    .intro k tx htx hk;exact .inl (AB.noX_all hnx)
  .exact h.elim
 .exact h.elim
def AO.takeAll(h:AO F0 w0 O a w G){cs:List AS}(hs:O.get s=.bx cs)(hd:d<a.tmps.size)(hds:d≠s){c:Array Value}{θ:TypeId}(hsl:slot a s=.pointer (Y ⟨b,0,W⟩))(h2:w.heap[b]?=Y (.cells c θ (0,0))):
  CE F0 w0 ((d,.oag cs)::(s,.bx (cs.map λ_=>⟨T,.undef⟩))::O) (a.put (Y d) (.agg c)) w:=by
 have hsz:s<a.tmps.size:=Bz h hs V;have hr:=At h hs V;have hw:=h.wf s;rw[hs]at hw;simp only[AN]at hr;obtain⟨M,c',T',A,h2',h3,h4,h5⟩:=hr;rw[hsl]at A;simp only[Value.pointer.injEq,p0,Addr.mk.injEq,and_true,and_self]at A;subst A;rw[h2]at h2';cases h2'
 let J:Bh:=λp i=>if p=d then(if i=W then W else G s i)else if p=s/\i≠W then W else G p i
 have ε:∀p i M lo,J p i=Y (M,lo)->(p=d/\i≠W/\G s i=Y (M,lo))\/(p≠d/\¬(p=s/\i≠W)/\G p i=Y (M,lo)):=by
  grind
 have hag:Bw w w (AW w0.heap.size F0 G) (AW w0.heap.size F0 J):=λM o v hc hF=>⟨hc,λhF'=>hF (AW.mono (λp i b'' lo hp=>by
  grind) hF')⟩
 have L:tn (a.put (Y d) (.agg c)) J=tn a G:=ON (Bx _ _ _) λq hq=>by
  grind
 refine ⟨J,?_,?_,h.below,g?,?_,?_,?_⟩
 .intro p i p' i' M lo lo' E e2;rcases ε _ _ _ _ E with⟨rfl,n0,f1⟩|⟨n1,n2,f1⟩<;>rcases ε _ _ _ _ e2 with⟨rfl,m0,f2⟩|⟨m1,m2,f2⟩
  .exact⟨rfl,(h.ln _ _ _ _ _ _ _ f1 f2).2⟩
  .have:=h.ln _ _ _ _ _ _ _ f1 f2;exact absurd ⟨this.1.symm,this.2▸n0⟩ m2
  .have:=h.ln _ _ _ _ _ _ _ f1 f2;exact absurd ⟨this.1,this.2▸m0⟩ n2
  .exact h.ln _ _ _ _ _ _ _ f1 f2
 .intro p i M lo E;rcases ε _ _ _ _ E with⟨_,_,E⟩|⟨_,_,E⟩<;>exact h.lt _ _ _ _ E
 .intro p hp;rw[Bx]at hp;rw[AB.d7,ae U,AB.d7,ae U];exact h.dom p hp
 .intro p hp;rw[Bx]at hp;rw[AB.d7];by_cases B:d=p
  .subst B;rw[ac rfl,C7 _ _ _ hd];simp only[AN];refine⟨c,rfl,h3,λi y H=>?_⟩;obtain⟨v,E,e2⟩:=h5 i y H;refine⟨v,E,?_⟩;have:J d (Y i)=G s (Y i):=by simp[J]
   rw [this,L];exact e2.kept hag (λ_ _ _=>rfl) BY.rfl'
  .rw[ae B,AZ _ _ _ _ B,AB.d7];by_cases κ:s=p
   .subst κ;rw[ac rfl];simp only[AN];refine⟨b,c,θ,hsl,h2,by simpa using h3,by simp only[J];rw[ae (λe=>B e.symm),ae V];exact h4,λi y H=>?_⟩;rw[G_]at H;simp only[Q']at H;obtain⟨y0,hy0,rfl⟩:=H;obtain⟨v,E,e2⟩:=h5 i y0 hy0;exact⟨v,E,Hz e2,Hz e2⟩
   .rw[ae κ];refine AN.kept hag (λi=>by simp only[J];rw[ae (λe=>B e.symm),ae (λe=>κ e.1.symm)]) (λ_ _ _ _=>rfl) L BY.rfl' (λr i k hr⟨I,R⟩=>?_) (λr off' hr⟨cs',g⟩=>?_) (λr i hr⟨I,R⟩=>?_) (h.slots p hp)
    .have A:=AB.x7 V R;by_cases l:s=r
     .subst l;obtain⟨cs'',δ,k2⟩:=AB.rr A.2;rw[AB.d7,ac rfl]at δ;simp only[EV.bx.injEq]at δ;subst δ;rw[G_]at k2;cases η:cs[i]? <;>rw[η]at k2<;>simp at k2
     .have C:O.nat r i=Y I:=by rw[<-A.2];exact(AB.Aah l).symm
      exact ⟨⟨I,C⟩,h.nh ⟨I,C⟩ (AZ _ _ _ _ A.1) (λ_ _ _ _=>rfl)⟩
    .rw[AB.d7]at g;by_cases ζ:d=r
     .rw[ac ζ]at g;cases g
     .rw[ae ζ,AB.d7]at g;refine⟨?_,AZ _ _ _ _ ζ⟩;split at g
      next l=>subst l;exact⟨cs,hs⟩
      .exact⟨_,g⟩
    .have A:=AB.sc V V R;by_cases l:s=r
     .subst l;obtain⟨n,es⟩:=I;cases i with
      |none=>have:=AB.tl A.2;rw[AB.d7,ac rfl]at this;cases this
      |some k=>
       obtain ⟨cs'',δ,k2⟩:=AB.pr A.2;rw[AB.d7,ac rfl]at δ;simp only[EV.bx.injEq]at δ;subst δ;rw[G_]at k2;cases η:cs[k]? <;>rw[η]at k2<;>simp at k2
     .have C:O.so r i=Y I:=by rw[<-A.2];exact(AB.Aag l).symm
      exact ⟨⟨I,C⟩,h.xv ⟨I,C⟩ (AZ _ _ _ _ A.1) (λ_ _=>rfl)⟩
 .intro p;rw[AB.d7];split
  .exact hw
  .rw[AB.d7];split
   .intro y H;simp only[F?]at H;obtain⟨_,_,rfl⟩:=H;trivial
   .exact h.wf p
theorem sZ(C:AO F0 w0 O a w G)(hd:d<a.tmps.size)(A:o.op=.load t (.tmp s))(J:CO P t=Y X)(L:DI P t=Y n)(h:(AF.ldg s n).wp S O (Y d) K):BI P F0 w0 a w o d K:=by
 simp only[AF.wp]at h;split at h
 .rename_i κ cs l E;simp only[p0]at l;subst l;obtain⟨M,B,R⟩:=h;have hr:=At C E V;simp only[AN]at hr;obtain⟨b,c,θ,H,I,ε,_⟩:=hr;have g:=run_loadCells_list (P:=P) w ⟨b,0,W⟩ c.toList (λj v hv=>by
   have:=cell_of_row w b j c θ (0,0) I;rw[show((⟨b,0,W⟩:Addr).add j)=⟨b,j,W⟩by rw[Addr.add_lit,N'],this];simpa using hv)
  rw [O_,ε,M]at g;refine⟨.agg c,w,?_,_,_,R,C.takeAll E hd B H I⟩;simp[execOp,A,show a.eval (.tmp s)=slot a s from rfl,H,Instr.loadAt,Instr.sureAddr,loadVar,C4 J,CW L,g]
 .exact h.elim
end
end Go.Sf
namespace Go.Sf
open Go.RowKit (Below)
open Go.ChangeMaps (setBlock)
section
variable{P:Program}{S:FuncId->Fq->BA->Prop}{F0:Nat->Nat->Prop}{w0:W0}{O:AB}{a:Act}{w:World}{G:Bh}{d:Nat}{o:Oper}{K:EV->AB->Prop}
variable{v:Value}
def AO.mxgo(h:AO F0 w0 O a w G){s d:Nat}{m m':MX}(hs:O.get s=.mx m)(hd:d<a.tmps.size){w':World}{z z2:Option (Nat×Nat)}(hb:Ho (CD a G s) w w')
  (hz:∀b lo,z=Y (b,lo)->b<w'.heap.size/\(w.heap.size<=b\/∃p j g,CD a G s p j=Y (b,g)/\g<=lo))(hz2:∀b lo,z2=Y (b,lo)->b<w'.heap.size/\(w.heap.size<=b\/∃p j g,CD a G s p j=Y (b,g)/\g<=lo))
  (E:∀b lo g,z=Y (b,lo)->z2≠Y (b,g))(hw:m'.WF)
  (H:∀F',Bw w w' (AW w0.heap.size F0 G) F'->WN w' F' z z2 m' v):
  ∃δ,AO F0 w0 ((d,.mx m')::(s,.undef)::O) (a.put (Y d) v) w' δ/\Bw w w' (AW w0.heap.size F0 G) (AW w0.heap.size F0 δ):=by
 have κ:s<a.tmps.size:=Bz h hs V
 let Z:D0:=λp i=>if p=0 then(if i=W then z else if i=Y 0 then z2 else W)else W
 have hZ:∀p i b lo,Z p i=Y (b,lo)->p=0/\((i=W/\z=Y (b,lo))\/(i=Y 0/\z2=Y (b,lo))):=by
  grind
 have l:∀p i b lo,Z p i=Y (b,lo)->b<w'.heap.size/\(w.heap.size<=b\/∃p j g,CD a G s p j=Y (b,g)/\g<=lo):=by
  grind
 have A:∀F':Nat->Nat->Prop,(∀b o,F' b o->(b<w.heap.size/\AW w0.heap.size F0 G b o/\¬ZF (CD a G s) b o)\/ZF Z b o)->Bw w w' (AW w0.heap.size F0 G) F':=by
  intro F' B b o u hc hf;have hlt:b<w.heap.size:=World.block_lt_of_cell? w ⟨b,o,W⟩ hc;have J:¬ZF (CD a G s) b o:=λ⟨q,i,lo,h1,h2⟩=>by
   obtain ⟨p,j,C,_⟩:=Cc h1;exact hf (.inr ⟨p,j,lo,C,h2⟩)
  refine ⟨hb.cell b o u J hc,λM=>?_⟩;rcases B b o M with⟨_,e,_⟩|⟨p,j,lo,e3,e4⟩
  .exact hf e
  .rcases(l _ _ _ _ e3).2 with e5|⟨p2,j2,ζ,e5,e6⟩
   .omega
   .exact J ⟨p2,j2,ζ,e5,L' e6 e4⟩
 have key:=h.Aax (s:=s) (d:=d) (Z:=Z) (w':=w') (env':=(d,.mx m')::(s,.undef)::O) (a':=a.put (Y d) v) κ hd hb (Bx _ _ _) (FP _ _ _) ?_ l ?_ ?_ ?_ ?_ ?_ (.inr (.inr ⟨λcs=>by rw[AB.d7,ac rfl];simp,λn es=>by rw[AB.d7,ac rfl];simp⟩)) ?_
 .exact⟨_,key.1,A _ key.2⟩
 .intro p i p' i' b lo g θ ε;obtain⟨rfl,C⟩:=hZ _ _ _ _ θ;obtain⟨rfl,L⟩:=hZ _ _ _ _ ε;refine⟨rfl,?_⟩;rcases C with⟨rfl,C⟩|⟨rfl,C⟩<;>rcases L with⟨rfl,L⟩|⟨rfl,L⟩
  .rfl
  .exact absurd L (E _ _ _ C)
  .exact absurd C (E _ _ _ L)
  .rfl
 .intro p I;rw[AB.d7,ae U,AB.d7,ae U];exact h.dom p I
 .intro p;rw[AB.d7];split
  .exact hw
  .rw[AB.d7];split
   .trivial
   .exact h.wf p
 .exact λp I _=>AZ _ _ _ _ (λe=>I e.symm)
 .exact λp I R=>by rw[AB.d7,ae (λe=>I e.symm),AB.d7,ae (λe=>R e.symm)]
 .exact λe=>by rw[AB.d7,ae (λe'=>e e'.symm),AB.d7,ac rfl]
 .intro F' B;rw[AB.d7,ac rfl,C7 _ _ _ hd];have η:Cl a G s d Z d=Z 0:=by simp[Cl]
  simp [AN];rw[η];have θ:Z 0 W=z:=by simp[Z]
  have ε:Z 0 (Y 0)=z2:=by simp[Z]
  rw [θ,ε];exact H F' (A F' B)
variable{b:Nat}
theorem UX{l o:Obj}(h:w.heap[b]?=Y l):(setBlock w b o).heap[b]?=Y o/\∀k,k≠b->(setBlock w b o).heap[k]?=w.heap[k]?:=by
 have g:b<w.heap.size:=(P_.1 h).1;refine⟨by simp[setBlock,g],λk A=>?_⟩;simp[setBlock]
 grind
variable{Z:D0}{i:Option Nat}
theorem VP{g:World}(l:g.heap=w.heap/\g.os=w.os/\g.tape=w.tape/\g.output=w.output){p:Nat}(B:Z p i=Y (b,0)){o C:Obj}(h:w.heap[b]?=Y C):Ho Z w (setBlock g b o):=by
 obtain ⟨A,I,J,L⟩:=l;have hh:=UX (w:=g) (o:=o) (by rw[A];exact h);refine⟨I,J,L,by simp[setBlock,A],λk _ M=>?_,λk q u E R=>?_⟩
 .grind
 .have H:k≠b:=λe=>E ⟨p,i,0,by rw[e];exact B,K? _⟩
  grind [World.cell?_of_block]
variable{t:TypeId}
theorem si(l:AO F0 w0 O a w G)(hd:d<a.tmps.size)(g:o.op=.makeMap t W)(h:AF.mkm.wp S O (Y d) K):BI P F0 w0 a w o d K:=by
 simp [AF.wp]at h;replace h:=h w.heap.size;have hb:Below w.heap.size w (w.alloc (.map #[] 0)):=(Below.refl _ _).alloc (az _) _;refine⟨.map (Y w.heap.size),w.alloc (.map #[] 0),?_,_,_,h,_,l.quiet hb d hd (.mx (.mp w.heap.size [])) _ (λi=>if i=W then Y (w.heap.size,0)else W) (λi b lo hi=>?_) (λi C b lo A E H=>?_) V ?_ (by intro p B;cases B)⟩
 .simp[execOp,g,Instr.makeMap,newObj,Sem.run]
 .split at hi
  .simp at hi;rw[<-hi.1];exact⟨az _,V⟩
  .cases hi
 .grind
 .simp[AN,CP];exact⟨rfl,rfl,#[],0,heap_alloc_new w _,rfl,V,V⟩
variable{s:Nat}
theorem gf(A:AO F0 w0 O a w G)(hd:d<a.tmps.size)(g:o.op=.move (.tmp s)\/o.op=.assign (.tmp s))(h:(AF.mvm s).wp S O (Y d) K):BI P F0 w0 a w o d K:=by
 have l:(execOp a.eval o).run P w=.ok (.value (slot a s)) w:=by rcases g with g|g<;>simp[execOp,g,show a.eval (.tmp s)=slot a s from rfl]
 have E:∀ts:Fq,(∃vs,slot a s=.tuple vs/\AR w (AW w0.heap.size F0 G) ts vs.toList)->TV.pq ts->K (.tp ts) O->BI P F0 w0 a w o d K:=by
  rintro ts ⟨vs,H,I⟩ C L;refine⟨_,w,l,_,_,L,⟨_,A.quiet (Below.refl _ _) d hd (.tp ts) _ (λ_=>W) V V V ?_ C⟩⟩;simp[AN];exact⟨vs,H,A6 (MB (Below.refl _ _) d _ V) _ _ I⟩
 simp [AF.wp]at h;split at h
 next b kvs B=>have hr:=At A B V;simp[AN]at hr;exact C2 A hd (t:=.AaQ b) l (by simp[A3];exact hr.1) trivial h
 next b kvs ts B=>have hr:=At A B V;have C:=A.wf s;rw[B]at C;simp[AN]at hr;obtain⟨vs,H,I,M,J⟩:=hr;exact E (.AaQ b::ts) ⟨_,H,⟨_,_,rfl,by simp[A3],J⟩⟩ ⟨trivial,C.2⟩ h
 next ts B=>have hr:=At A B V;have C:=A.wf s;rw[B]at C;simp[AN]at hr;exact E _ hr C h
 .exact h.elim
variable{f:FuncId}{ats:Array TypeId}
theorem mV(C:AO F0 w0 O a w G)(hd:d<a.tmps.size)(l:o.dst=Y d){xs:Array Operand}{ys:List AH}(H:o.op=.call {callee:=.value (.func f),args:=xs,argTypes:=ats})(I:Br xs.toList ys=X)(h:(AF.AaF f ys).wp (AV P) O (Y d) K)
  {next:Act->World->Prop}{Q:Exit->Act->World->Prop}(ε:∀e env' a' w',K e env'->SC a d a'->CE F0 w0 ((d,e)::env') a' w'->next a' w'):o.wp P a w next Q:=by
 simp only[AF.wp]at h;cases B:vals O ys with
 |none=>rw[B]at h;exact h.elim|some ts=>
  rw [B]at h;simp only[A0]at h;have hv:=Gh C I B;have A:(execOp a.eval o).run P w=(callFunc f (xs.map a.eval)).run P w:=by simp[execOp,H,resolve,Act.eval,Deferred.ofValue,invoke]
  rcases h with⟨us,J,θ⟩|⟨kvs,us,J,θ⟩
  .exact ZT C hd l (vs:=xs.map a.eval) A ⟨J,rfl⟩ hv.2 m_ θ ε
  .obtain⟨h2,M⟩:=(J:YE P f ts (.mpr kvs us)) hv.2;obtain⟨h1,M⟩:=M _ w (xs.map a.eval) m_ C.below.now;unfold Oper.wp;rw[A,FM h2 _,Oper.upon_enter];refine M.mono ?_;rintro e w' ⟨v,rfl,hb,b,vs,k1,k2,k3,k4,k5⟩;simp[l];refine ε _ _ _ _ (θ h1 b) ⟨_,rfl⟩ ⟨_,C.quiet hb d hd (.mx (.tm b kvs us)) v (λi=>if i=W then Y (b,0)else W) (λi κ lo hi=>?_) (λi i' κ lo lo' E η=>?_) V ?_ h1⟩
   .split at hi
    .simp at hi;rw[<-hi.1];exact⟨k2,k3⟩
    .cases hi
   .split at E
    .split at η
     .simp_all
     .cases η
    .cases E
   .simp[AN,CP];refine⟨vs,k1,rfl,k4,A6 (λκ o u ζ hf=>⟨ζ,λL=>?_⟩) _ _ k5⟩;rcases L with g|⟨p,i,lo,g,h7⟩
    .exact hf ⟨L_ g.1 C.below.size,.inl g⟩
    .by_cases δ:p=d
     .subst δ;rw[CP]at g;split at g
      .simp at g;obtain⟨rfl,_⟩:=g;obtain⟨es,R,E,_⟩:=k4;simp[World.cell?,E]at ζ
      .cases g
     .rw[Bb _ _ _ _ δ]at g;exact hf ⟨(C.lt _ _ _ _ g).1,.inr ⟨p,i,lo,g,h7⟩⟩
def Q5(P:Program)(t:TypeId):Bool:=
 match P.underlying t with
 |some (.map k e)=>Pc P (.a [0,0]) k&&(match P.underlying k with
  |some (.struct fs)=>(match fs.toList with
   |[f,g]=>CO P f.type==Y T&&CO P g.type==Y T&&f.offset==0&&g.offset==1&&(match P.underlying f.type with|some (.int _)=>X|_=>T)&&(match P.underlying g.type with|some (.int _)=>X|_=>T)
   |_=>T)
  |_=>T)&&(match P.info? e with|some i=>(match i.zero with|some (.int .i64 0)=>X|_=>T)|none=>T)
 |_=>T
theorem Ua{F:Nat->Nat->Prop}(k:Int×Int):A3 w F (TX k) (FJ k):=by
 simp only[TX,A3,FJ];refine⟨_,rfl,?_,rfl⟩;simp only[AR];exact⟨_,_,rfl,rfl,_,_,rfl,rfl,rfl⟩
variable{k:Int×Int}
theorem gM{F:Nat->Nat->Prop}(h:A3 w F (TX k) v):v=FJ k:=by
 simp [TX,A3]at h;obtain⟨vs,rfl,h,_⟩:=h;simp only[AR]at h;obtain⟨x,r,C,g,y,E,A,l,B⟩:=h;simp[A3]at g l;subst g l;subst B;subst A;unfold FJ;congr 1
 grind
theorem jg{t:TV}(h:t.AbM?=Y k):t=TX k:=by
 unfold TV.AbM? at h;split at h
 .cases h;rfl
 .cases h
theorem bf(h:Pc P (.a [0,0]) t=X)(x y:Int×Int):(Op.equal t (FJ x) (FJ y)).run P w=.ok (decide (x=y)) w:=by
 obtain ⟨xs,ys,l,A,_,g⟩:=Xr (P:=P) (w:=w) (op:=.eql) (x:=.tmp 0) (y:=.tmp 0) (F:=λ_ _=>False) (cs:=[.int .i64 x.1,.int .i64 x.2]) (ds:=[.int .i64 y.1,.int .i64 y.2]) (q:=decide (x=y)) rfl h (Ua x) (Ua y) (by
  simp [CN]
  grind)
 rw [<-l,<-A]at g;exact g
def Ty(C:Pc P (.a [0,0]) t=X)(k:Int×Int):∀(L:List MapEntry)(kvs:Bj)(i:Nat),L.map (λe=>(e.key,e.val))=kvs.map (λp=>(FJ p.1,Value.int .i64 p.2)) ->
  (kvs.look k=W/\(Instr.findAsking t (FJ k) L i).run P w=.ok W w/\∀n,kvs.set k n=kvs++[(k,n)])\/
  ∃j n e,kvs.look k=Y n/\(Instr.findAsking t (FJ k) L i).run P w=.ok (Y (i+j,.int .i64 n)) w/\L[j]?=Y e/\e.key=FJ k/\∀m,kvs.set k m=List.set kvs j (k,m)
 |[],kvs,i,h=>by
  have:kvs=[]:=by simpa using h.symm
  subst this;exact .inl ⟨rfl,by simp[Instr.findAsking],λn=>rfl⟩
 |e::L,[],i,h=>by simp at h|e::L,p::kvs,i,h=>by
  simp at h;obtain⟨⟨E,H⟩,I⟩:=h;by_cases g:p.1=k
  .refine .inr ⟨0,p.2,e,by simp[Bj.look,g],?_,rfl,by rw[E,g],λm=>by simp[Bj.set,g]⟩;have:(Op.equal t (FJ k) e.key).run P w=.ok X w:=by rw[E,bf C];simp[g]
   simp [Instr.findAsking,this,H]
  .have he:(Op.equal t (FJ k) e.key).run P w=.ok T w:=by
    grind [bf]
   rcases Ty C k L kvs (i+1) I with⟨l,A,B⟩|⟨j,n,J,l,A,B,M,R⟩
   .exact .inl ⟨by simp[Bj.look,g,l],by simp[Instr.findAsking,he,A],λn=>by simp[Bj.set,g,B]⟩
   .refine .inr ⟨j+1,n,J,by simp[Bj.look,g,l],?_,o_,M,λm=>by simp[Bj.set,g,R]⟩;simp[Instr.findAsking,he,A];omega
theorem XG(A:Pc P (.a [0,0]) t=X)(B:∃fs,P.underlying t=Y (.struct fs))(k:Int×Int)(L:List MapEntry)(kvs:Bj)(h:L.map (λe=>(e.key,e.val))=kvs.map (λp=>(FJ p.1,Value.int .i64 p.2))):
  (kvs.look k=W/\(Instr.findKey t (FJ k) L).run P w=.ok W w/\∀n,kvs.set k n=kvs++[(k,n)])\/
  ∃j n e,kvs.look k=Y n/\(Instr.findKey t (FJ k) L).run P w=.ok (Y (j,.int .i64 n)) w/\L[j]?=Y e/\e.key=FJ k/\∀m,kvs.set k m=List.set kvs j (k,m):=by
 obtain ⟨fs,l⟩:=B;cases L with
 |nil=>
  have:kvs=[]:=by simpa using h.symm
  subst this;exact .inl ⟨rfl,by simp[Instr.findKey,run_underlying l,Instr.findNow],λn=>rfl⟩
 |cons e L=>
  have C:(Instr.findKey t (FJ k) (e::L)).run P w=(Instr.findAsking t (FJ k) (e::L) 0).run P w:=by
   simp [Instr.findKey,run_underlying l,Instr.findNow,Instr.sameNow]
  rw [C];rcases Ty (w:=w) A k (e::L) kvs 0 h with g|⟨j,n,E,H,I,J⟩
  .exact .inl g
  .exact .inr ⟨j,n,E,H,by rw[I,N'],J⟩
theorem V9{t k e:TypeId}(hok:Q5 P t=X)(ht:P.underlying t=Y (.map k e))(x:Int×Int)(b:Bool):(Instr.checkKey b 10000 k (FJ x)).run P w=.ok () w:=by
 unfold Q5 at hok;rw[ht]at hok;simp at hok;obtain⟨⟨_,h2⟩,_⟩:=hok;split at h2
 .rename_i fs hu;split at h2
  .rename_i f g hfs;simp at h2;obtain⟨⟨⟨⟨⟨h3,h4⟩,h5⟩,h6⟩,h7⟩,h8⟩:=h2;have hi1:∃q,P.underlying f.type=Y (.int q):=by
    grind
   have hi2:∃q,P.underlying g.type=Y (.int q):=by
    grind
   obtain ⟨q1,hi1⟩:=hi1;obtain⟨q2,hi2⟩:=hi2;have hfs':fs=#[f,g]:=by apply Array.ext';simpa using hfs
   subst hfs';have p1:(part f.type #[.int .i64 x.1,.int .i64 x.2] f.offset).run P w=.ok (.int .i64 x.1) w:=by
    simp [part,C4 h3,h5]
   have p2:(part g.type #[.int .i64 x.1,.int .i64 x.2] g.offset).run P w=.ok (.int .i64 x.2) w:=by
    simp [part,C4 h4,h6]
   have c1:∀n y,(Instr.checkKey b (n+1) f.type (.int .i64 y)).run P w=.ok () w:=λn y=>by
    simp [Instr.checkKey,run_underlying hi1]
   have c2:∀n y,(Instr.checkKey b (n+1) g.type (.int .i64 y)).run P w=.ok () w:=λn y=>by
    simp [Instr.checkKey,run_underlying hi2]
   show (Instr.checkKey b (9999+1) k (.agg #[.int .i64 x.1,.int .i64 x.2])).run P w=.ok () w;have d1:=c1 9998 x.1;have d2:=c2 9998 x.2;rw[Instr.checkKey];by_cases n1:f.name= "_" <;>by_cases n2:g.name= "_" <;>simp[run_underlying hu,n1,n2,p1,p2,d1,d2]
  .cases h2
 .cases h2
theorem sq(C:AO F0 w0 O a w G)(hd:d<a.tmps.size){m x:Operand}{m' y:AH}(ε:o.op=.lookup t m x X)(g:Q5 P t=X)(hm:AK m m'=X)(hx:AK x y=X)(h:(AF.mlk s m' y).wp S O (Y d) K):BI P F0 w0 a w o d K:=by
 simp [AF.wp]at h;split at h
 .rename_i b kvs b' u hs A hu;obtain⟨rfl,h⟩:=h;have A:=(BF C hm A).1;simp[A3]at A;cases ζ:u.AbM? with
  |none=>rw[ζ]at h;exact h.elim|some k=>
   rw [ζ]at h;simp[A0]at h;have hv:=(BF C hx hu).1;rw[jg ζ]at hv;have hv:=gM hv;have hr:=At C hs V;have E:=C.wf s;rw[hs]at E;simp[AN]at hr;obtain⟨_,e2,es,clock,e3,e4,_⟩:=hr;have e1:=A;have I:=g;unfold Q5 at g;split at g
   .rename_i kt et κ;simp at g;obtain⟨⟨h1,h2⟩,R⟩:=g;have J:∃fs,P.underlying kt=Y (.struct fs):=by
     grind
    have B:(zeroValue et).run P w=.ok (.int .i64 0) w:=by
     split at R
     .rename_i i hi;split at R
      next hz=>simp[zeroValue,typeInfo,hi,hz]
      .cases R
     .cases R
    have L:=V9 (P:=P) (w:=w) I κ k es.isEmpty;have δ:∀n,kvs.look k=Y n->(TV.int .i64 n).WF:=by
     intro n η;have:∀l:Bj,Bj.WF l->l.look k=Y n->(TV.int .i64 n).WF:=by
      intro l
      induction l with
      |nil=>intro _ h;cases h
      |cons p l ih=>
       intro E h;simp[Bj.look]at h;split at h
       .cases h;exact(E p V).2.2
       .exact ih (λq hq=>E q (by simp[hq])) h
     exact this kvs E η
    have M:∀(n:Int)(q:Bool),(TV.int .i64 n).WF->(Instr.lookup t (a.eval m) (FJ k) X).run P w=.ok (.tuple #[.int .i64 n,.bool q]) w->K (.tp [.int .i64 n,.bool q]) O->BI P F0 w0 a w o d K:=by
     intro n q η H hK;refine⟨.tuple #[.int .i64 n,.bool q],w,?_,_,_,hK,_,C.quiet (Below.refl _ _) d hd (.tp [.int .i64 n,.bool q]) _ (λ_=>W) V V V ?_ ⟨η,trivial,trivial⟩⟩
     .simp[execOp,ε,hv,H]
     .simp only[AN];exact⟨_,rfl,_,_,rfl,rfl,_,_,rfl,rfl,rfl⟩
    rcases XG (w:=w) h1 J k es.toList kvs e4 with⟨θ,g2,_⟩|⟨j,n,e,θ,g2,_⟩
    .rw[θ]at h;refine M 0 T ⟨a!,a!⟩ ?_ h;simp[Instr.lookup,run_underlying κ,e1,MapKept.run_getObj_map e3,L,g2,B]
    .rw[θ]at h;refine M n X (δ n θ) ?_ h;simp[Instr.lookup,run_underlying κ,e1,MapKept.run_getObj_map e3,L,g2]
   .cases g
 .exact h.elim
variable{kvs:Bj}
theorem Bj.set_wf{n:Int}(h:Bj.WF kvs)(C:(TV.int .i64 k.1).WF/\(TV.int .i64 k.2).WF)(E:(TV.int .i64 n).WF):Bj.WF (kvs.set k n):=by
 induction kvs with
 |nil=>
  intro p g
  grind [Bj.set,H?]
 |cons q l B=>
  intro p g;simp[Bj.set]at g;split at g
  .rcases J'.1 g with rfl|g
   .grind
   .exact h p (by simp[g])
  .rcases J'.1 g with rfl|g
   .exact h p V
   .exact B (λx A=>h x (by simp[A])) p g
theorem cl(k:Int×Int):Instr.sameBits 10000 (FJ k) (FJ k)=X:=by
 show Instr.sameBits (9999+1) (.agg #[.int .i64 k.1,.int .i64 k.2]) (.agg #[.int .i64 k.1,.int .i64 k.2])=X;simp[Instr.sameBits]
theorem sw(H:AO F0 w0 O a w G){m x v:Operand}{m' y u:AH}(η:o.op=.mapUpdate t m x v)(C:Q5 P t=X)(hm:AK m m'=X)(I:AK x y=X)(hv:AK v u=X)(h:(AF.mup s m' y u).wp S O W K):Iu P F0 w0 a w o K:=by
 simp [AF.wp]at h;split at h
 .rename_i b kvs b' tx hs J hu;split at h
  rotate_left
  .exact h.elim
  rename_i n hn;obtain⟨rfl,h⟩:=h;have J:=(BF H hm J).1;simp[A3]at J;cases hk:tx.AbM? with
  |none=>rw[hk]at h;exact h.elim|some k=>
   rw [hk]at h;simp[A0]at h;have A:=BF H I hu;rw[jg hk]at A;have hkw:(TV.int .i64 k.1).WF/\(TV.int .i64 k.2).WF:=⟨A.2.1,A.2.2.1⟩;have A:=gM A.1;have E:=BF H hv hn;have hnw:=E.2;have E:=E.1;simp[A3]at E;have θ:s<a.tmps.size:=Bz H hs V;have hr:=At H hs V;have hw:=H.wf s;rw[hs]at hw;simp[AN]at hr;obtain⟨e0,e2,es,B,e3,e4,e5,e6⟩:=hr;have e1:=J;have ζ:=C;unfold Q5 at C;split at C
   .rename_i kt et ht;simp at C;obtain⟨⟨h1,h2⟩,h3⟩:=C;have δ:∃fs,P.underlying kt=Y (.struct fs):=by
     grind
    have hck:=V9 (P:=P) (w:=w) ζ ht k T;have fin:∀M:Obj,(execOp a.eval o).run P w=.ok .skip (setBlock w b M)->(∃es' g,M=.map es' g/\es'.toList.map (λe=>(e.key,e.val))=(kvs.set k n).map (λp=>(FJ p.1,Value.int .i64 p.2))/\es'.toList.Pairwise (λx y=>x.born<y.born)/\∀e∈es'.toList,e.born<g)->Iu P F0 w0 a w o K:=by
     rintro M hrun ⟨es',g,rfl,f1,f2,f3⟩;have hb:Ho (CD a G s) w (setBlock w b (.map es' g)):=VP ⟨rfl,rfl,rfl,rfl⟩ (p:=0) (i:=W) (by rw[Dk];exact e2) e3;have ε:AB.get ((s,EV.mx (.mp b (kvs.set k n)))::O) s=.mx (.mp b (kvs.set k n)):=by rw[AB.d7,ac rfl]
     have hi2:=H.Aax (s:=s) (d:=s) (Z:=CD a G s) (w':=setBlock w b (.map es' g)) (env':=(s,.mx (.mp b (kvs.set k n)))::O) (a':=a) θ θ hb rfl rfl (LH H θ) (λq i b lo hq=>⟨?_,.inr ⟨q,i,lo,hq,az _⟩⟩) (λp hp=>by rw[AB.d7,ae U];exact H.dom p hp) (λp=>?_) (λ_ _ _=>rfl) (λp hp _=>by rw[AB.d7,ae (λe=>hp e.symm)]) (λe=>absurd rfl e) (.inr (.inr ⟨λcs=>by rw[ε];simp,λn es=>by rw[ε];simp⟩)) (λF' hF'=>?_)
     .exact⟨_,hrun,_,h,_,hi2.1⟩
     .obtain⟨p,j,g1,_⟩:=Cc hq;exact L_ (H.lt _ _ _ _ g1).1 hb.size
     .rw[AB.d7];split
      .exact Bj.set_wf hw hkw hnw
      .exact H.wf p
     .rw[ε];have hzd:Cl a G s s (CD a G s) s=G s:=by simp[Cl,Dk]
      simp [AN,hzd];exact⟨e0,e2,es',g,(UX e3).1,f1,f2,f3⟩
    have L:∀M,(setObj b M).run P w=.ok () (setBlock w b M):=λM=>by simp[setObj,Sem.run,e3,setBlock]
    rcases XG (w:=w) h1 δ k es.toList kvs e4 with⟨g1,g2,g3⟩|⟨j,m,e,g1,g2,g3,g4,g5⟩
    .refine fin (.map (es.push {key:=FJ k,val:=.int .i64 n,born:=B}) (B+1)) ?_ ⟨_,_,rfl,?_,?_,?_⟩
     .simp[execOp,η,A,E,Instr.mapUpdate,run_underlying ht,e1,MapKept.run_getObj_map e3,hck,g2,L]
     .rw[g3];simp[e4]
     .simp;rw[List.pairwise_append];refine⟨e5,V,λx I y hy=>?_⟩;simp at hy;subst hy;exact e6 x I
     .intro x I;simp only[Array.toList_push,B!,H?]at I;rcases I with I|rfl
      .have:=e6 x I;omega
      .simp
    .have hjl:j<es.size:=by have:=(D_.1 g3).1;simpa using this
     have hej:es[j]?=Y e:=by rw[<-O!];exact g3
     refine fin (.map (es.modify j λe=>{e with key:=FJ k,val:=.int .i64 n}) B) ?_ ⟨_,_,rfl,?_,?_,?_⟩
     .simp[execOp,η,A,E,Instr.mapUpdate,run_underlying ht,e1,MapKept.run_getObj_map e3,hck,g2,L,hej,g4,Instr.keyThatStays,cl]
     .rw[g5,List.map_set,<-e4];rw[P'];apply J_;intro i;simp only[G_,J!,y!,c9,O_];by_cases l:j=i
      .subst l;rw[ac rfl,ac hjl];simp[hej]
      .rw[ae l];simp[l]
     .rw[P'];rw[<-List.pairwise_map (f:=λe:MapEntry=>e.born) (R:=λx y=>x<y)]at e5|-;have:(es.toList.modify j λe=>{e with key:=FJ k,val:=.int .i64 n}).map (λe:MapEntry=>e.born)=es.toList.map (λe:MapEntry=>e.born):=by
       apply J_;intro i;simp only[G_,J!];cases es.toList[i]? with
       |none=>rfl|some e=>by_cases l:j=i<;>simp[l]
      rw [this];exact e5
     .intro x I;rw[P']at I;obtain⟨i,hi⟩:=D' I;rw[J!]at hi;cases κ:es.toList[i]? with
      |none=>rw[κ]at hi;cases hi
      |some e0=>
       rw [κ]at hi;have:=e6 e0 (x? κ);by_cases l:j=i
       .simp[l]at hi;rw[<-hi];exact this
       .simp[l]at hi;rw[<-hi];exact this
   .cases C
 .exact h.elim
theorem sv(l:AO F0 w0 O a w G)(hd:d<a.tmps.size){m:Operand}{m':AH}{t k e:TypeId}(C:o.op=.range t m)(κ:AK m m'=X)(η:P.underlying t=Y (.map k e))(h:(AF.tg s m').wp S O (Y d) K):BI P F0 w0 a w o d K:=by
 simp [AF.wp]at h;split at h
 .rename_i d' b kvs us E A H I;simp at A;subst A;obtain⟨⟨hds,rfl⟩,hK⟩:=h;have M:=(BF l κ I).1;simp[A3]at M;have hr:=At l H V;have R:=l.wf s;rw[H]at R;simp[AN]at hr;obtain⟨vs,e0,θ,⟨es,g,ε,e4,e5,e6⟩,_⟩:=hr;have hb:Below w.heap.size w (w.alloc (.mapIter (Y b) g #[] g)):=(Below.refl _ _).alloc (az _) _;have B:=(l.lt _ _ _ _ θ).1;have key:∀{F':Nat->Nat->Prop},WN (w.alloc (.mapIter (Y b) g #[] g)) F' (Y (w.heap.size,0)) (Y (b,0)) (.mi W kvs) (.pointer (Y ⟨w.heap.size,0,W⟩)):=by
   intro F';refine⟨_,b,rfl,rfl,rfl,es,g,g,g,#[],by rw[hb.block b B];exact ε,heap_alloc_new w _,e5,e6,az _,az _,V,?_⟩;have:(es.toList.filter λe=>!(#[]:Array Nat).contains e.born)=es.toList:=V
   rw [this,e4]
  obtain ⟨G',J,_⟩:=l.mxgo (m':=.mi W kvs) (v:=.pointer (Y ⟨w.heap.size,0,W⟩)) (w':=w.alloc (.mapIter (Y b) g #[] g)) H hd (z:=Y (w.heap.size,0)) (z2:=Y (b,0)) ⟨rfl,rfl,rfl,hb.size,λk ζ _=>hb.block k ζ,λb o u _ L=>by
     rw [hb.cell (p:=⟨b,o,W⟩) (World.block_lt_of_cell? w ⟨b,o,W⟩ L)];exact L⟩ (λE lo e=>by
     simp at e;rw[<-e.1];exact⟨V,.inl (az _)⟩) (λE lo e=>by
     simp at e;obtain⟨rfl,rfl⟩:=e;exact⟨L_ B hb.size,.inr ⟨0,W,0,by rw[Dk];exact θ,az _⟩⟩) (λE lo δ f1 f2=>by
     grind) ⟨by intro p hp;simp at hp,R.1⟩ λF' hag=>key
  exact ⟨_,_,by simp[execOp,C,M,run_range_map w t k e b es g η ε],_,_,hK,G',J⟩
 .exact h.elim
def iM{L:List MapEntry}(g:L.Pairwise (λx y=>x.born<y.born)){e:MapEntry}(he:e∈L):L.Perm (e::L.filter λx=>!(x.born==e.born)):=by
 induction L with
 |nil=>cases he
 |cons x L l=>
  rw [List.pairwise_cons]at g;rcases J'.1 he with rfl|he
  .have:L.filter (λx=>!(x.born==e.born))=L:=by
    grind [List.filter_eq_self]
   rw [List.filter_cons_of_neg V,this]
  .have h:¬x.born=e.born:=by have:=g.1 e he;omega
   rw [List.filter_cons_of_pos l_];exact((l g.2 he).cons x).trans (List.Perm.swap _ _ _)
theorem su(H:AO F0 w0 O a w G)(hd:d<a.tmps.size)(δ:o.op=.next (.tmp s) T)(h:(AF.mnx s).wp S O (Y d) K):BI P F0 w0 a w o d K:=by
 simp only[AF.wp]at h;split at h
 .rename_i d' last B hdd hs;simp at hdd;subst hdd;obtain⟨hds,hK0,hK1⟩:=h;have R:s<a.tmps.size:=Bz H hs V;have hr:=At H hs V;have hw:=H.wf s;rw[hs]at hw;simp[AN]at hr;obtain⟨r,b,e1,e2,e3,es,l,A,c0,g,f1,f2,f3,f4,f5,f6,f7,f8⟩:=hr;have θ:(leftOf es g).toList=es.toList.filter λe=>!g.contains e.born:=by
   simp [leftOf]
  rcases run_next_at (P:=P) w o.type r b A c0 g es l f2 f1 f4 f5 with⟨h0,E⟩|⟨e,he,η,hal,E⟩
  .have:B=[]:=by
    have h1:(es.toList.filter λe=>!g.contains e.born)=[]:=by
     grind
    rw [h1]at f8;have:=f8.length_eq
    grind
   refine ⟨.tuple #[.bool T],w,?_,_,_,hK0 this,_,H.quiet (Below.refl _ _) d hd (.tp [.bool T]) _ (λ_=>W) V V V ?_ ⟨trivial,trivial⟩⟩
   .simp[execOp,δ,show a.eval (.tmp s)=slot a s from rfl,e1,E]
   .simp only[AN];exact⟨_,rfl,_,_,rfl,rfl,rfl⟩
  .rw[θ]at he;have hes:e∈es.toList:=(J?.1 he).1;have hns:g.contains e.born=T:=by simpa using(J?.1 he).2
   have hpw:(es.toList.filter λe=>!g.contains e.born).Pairwise (λx y=>x.born<y.born):=f3.sublist List.filter_sublist;have hpm:=iM hpw he;have hff:(es.toList.filter λe=>!g.contains e.born).filter (λx=>!(x.born==e.born))=es.toList.filter λx=>!(g.push e.born).contains x.born:=by
    rw [List.filter_filter];congr 1;funext x;rw[contains_push];cases g.contains x.born<;>cases(x.born==e.born)<;>rfl
   rw [hff]at hpm;have L:=(hpm.map (λe:MapEntry=>(e.key,e.val))).symm.trans f8;have hmem:(e.key,e.val)∈B.map (λp=>(FJ p.1,Value.int .i64 p.2)):=L.mem_iff.1 V;obtain⟨p,ζ,C⟩:=F?.1 hmem;simp at C;have hpt:=List.perm_cons_erase ζ;have hpm3:((es.toList.filter λx=>!(g.push e.born).contains x.born).map (λe=>(e.key,e.val))).Perm ((B.erase p).map (λp=>(FJ p.1,Value.int .i64 p.2))):=by
    have h5:=L.trans (hpt.map (λp=>(FJ p.1,Value.int .i64 p.2)));simp only[B_,C]at h5;exact h5.cons_inv
   have ε:η.heap=w.heap/\η.os=w.os/\η.tape=w.tape/\η.output=w.output:=by
    rcases hal with rfl|rfl<;>exact⟨rfl,rfl,rfl,rfl⟩
   have hr1:η.heap[r]?=Y (.mapIter (Y b) A g c0):=by rw[ε.1];exact f2
   have hbz:Ho (CD a G s) w (setBlock η r (.mapIter (Y b) A (g.push e.born) l)):=VP ε (p:=0) (i:=W) (by rw[Dk];exact e2) f2;have κ:AB.get ((s,EV.mx (.mi (Y p) (B.erase p)))::O) s=.mx (.mi (Y p) (B.erase p)):=by rw[AB.d7,ac rfl]
   have hrb:b≠r:=λe=>by
    have:=(H.ln _ _ _ _ _ _ _ e2 (e▸e3)).2;cases this
   have M:Bj.WF B:=hw.2;have J:=M p ζ;have hi2:=H.Aax (s:=s) (d:=s) (Z:=CD a G s) (w':=setBlock η r (.mapIter (Y b) A (g.push e.born) l)) (env':=(s,.mx (.mi (Y p) (B.erase p)))::O) (a':=a) R R hbz rfl rfl (LH H R) (λq i b lo I=>⟨?_,.inr ⟨q,i,lo,I,az _⟩⟩) (λp ζ=>by rw[AB.d7,ae U];exact H.dom p ζ) (λq=>?_) (λ_ _ _=>rfl) (λp ζ _=>by rw[AB.d7,ae (λe=>ζ e.symm)]) (λe=>absurd rfl e) (.inr (.inr ⟨λcs=>by rw[κ];simp,λn es=>by rw[κ];simp⟩)) (λF' hF'=>?_)
   .refine⟨.tuple #[.bool X,e.key,e.val],_,?_,_,_,hK1 p (B.erase p) hpt,_,hi2.1.quiet (Below.refl _ _) d hd (.tp [.bool X,TX p.1,.int .i64 p.2]) _ (λ_=>W) V V V ?_ ⟨trivial,⟨J.1,J.2.1,trivial⟩,J.2.2,trivial⟩⟩
    .simp[execOp,δ,show a.eval (.tmp s)=slot a s from rfl,e1,E]
    .simp only[AN];refine⟨_,rfl,_,_,rfl,rfl,_,_,rfl,?_,_,_,rfl,?_,rfl⟩
     .rw[<-C.1];exact Ua p.1
     .simp[A3];exact C.2.symm
   .obtain⟨p',j,g1,_⟩:=Cc I;exact L_ (H.lt _ _ _ _ g1).1 hbz.size
   .rw[AB.d7];split
    .refine⟨?_,λq I=>M q (List.mem_of_mem_erase I)⟩;intro q I;simp at I;subst I;exact J
    .exact H.wf q
   .rw[κ];have hzd:Cl a G s s (CD a G s) s=G s:=by simp[Cl,Dk]
    simp [AN,hzd];have hh:=UX (o:=.mapIter (Y b) A (g.push e.born) l) hr1;refine⟨r,b,e1,e2,e3,es,l,A,l,g.push e.born,by rw[hh.2 b hrb,ε.1];exact f1,hh.1,f3,f4,f6,f6,λq I=>?_,hpm3⟩;simp at I;subst I;exact⟨g,e,rfl,hes,rfl,C.1.symm,C.2.symm⟩
 .exact h.elim
theorem sg(C:AO F0 w0 O a w G)(hd:d<a.tmps.size)(E:o.op=.entry (.tmp s))(h:(AF.men s).wp S O (Y d) K):BI P F0 w0 a w o d K:=by
 simp [AF.wp]at h;split at h
 .rename_i p I J;have hr:=At C J V;have L:=C.wf s;rw[J]at L;simp[AN]at hr;obtain⟨r,b,θ,e2,e3,es,H,l,ε,M,κ,η,f3,f4,f5,f6,ζ,f8⟩:=hr;obtain⟨A,e,δ,g2,g3,g4,g5⟩:=ζ p rfl;subst δ g3;have R:(es.toList.map (·.born)).Nodup:=by
   grind
  have B:=run_entry_at (P:=P) w r b l A es ε e η κ g2 R;have g:=L.1 p V;refine⟨.tuple #[e.key,e.val],w,?_,_,_,h,_,C.quiet (Below.refl _ _) d hd (.tp [TX p.1,.int .i64 p.2]) _ (λ_=>W) V V V ?_ ⟨⟨g.1,g.2.1,trivial⟩,g.2.2,trivial⟩⟩
  .simp[execOp,E,show a.eval (.tmp s)=slot a s from rfl,θ,B]
  .simp only[AN];refine⟨_,rfl,_,_,rfl,?_,_,_,rfl,?_,rfl⟩
   .grind[Ua]
   grind [A3]
 .exact h.elim
end
end Go.Sf
namespace Go.Sf
open Go.RowKit (Below)
def Operand.Aap(n:Nat):Operand->Bool
 |.tmp m=>m==n|_=>T
variable{n:Nat}{x:Operand}
theorem Operand.o4(h:Operand.Aap n x=X):x=.tmp n:=by
 cases x<;>simp[Operand.Aap]at h;rw[h]
def Ye:Operand->Bool
 |.const v=>N4 v|_=>T
theorem S3(h:Ye x=X):∃v,x=.const v/\N4 v=X:=by
 cases x<;>simp[Ye]at h;exact⟨_,rfl,h⟩
def We(P:Program)(str:Bool)(c:Call)(x:AH):Bool:=
 match c.callee,c.args.toList,c.argTypes.toList with
 |.builtin .len,[y],[t]=>AK y x&&(match P.underlying t with|some (.slice _)=>!str|some .string=>str|_=>T)
 |_,_,_=>T
def Wc(P:Program)(n:Nat)(c:Call)(x y:AH):Bool:=
 match c.callee,c.args.toList,c.argTypes.toList,x with
 |.builtin .append,[p,q],[t,t'],.s s=>Operand.Aap s p&&AK q y&&t==t'&&(match P.underlying t with
  |some (.slice e)=>(match P.info? e with
   |some i=>(match i.zero with|some z=>i.size==n&&decide (i.bytes<=4096)&&z.cells.size==n&&decide (0<n)|none=>T)
   |none=>T)
  |_=>T)
 |_,_,_,_=>T
def xy(mx:Bool)(c:Call)(x y:AH):Bool:=
 match c.callee,c.args.toList with
 |.builtin .max,[p,q]=>mx&&AK p x&&AK q y|.builtin .min,[p,q]=>!mx&&AK p x&&AK q y|_,_=>T
def RH(P:Program)(o:Op):AF->Bool
 |.mv x=>match o with|.move y|.assign y=>AK y x|_=>T
 |.tk s=>match o with|.move y|.assign y=>Operand.Aap s y|_=>T
 |.Abu _=>match o with|.move y|.assign y=>Ye y|_=>T
 |.fad x k=>match o with|.fieldAddr t y f=>AK y x&&Q1 P t f==Y k|.move y|.assign y|.nilCheck y=>k==0&&AK y x|_=>T
 |.bad s k=>match o with|.indexAddr t y j=>Operand.Aap s y&&lZ P t j k|.fieldAddr t y f=>Operand.Aap s y&&Q1 P t f==Y k|.move y|.assign y|.nilCheck y=>k==0&&Operand.Aap s y|_=>T
 |.iad x i n=>match o with|.indexAddr t y j=>AK y x&&AK j i&&KZ P t==Y n|_=>T
 |.aad x i n k=>match o with|.indexAddr t y j=>AK y x&&AK j i&&(match P.underlying t with|some (.array k' e)=>k'==k&&DI P e==Y n|_=>T)|_=>T
 |.ld x=>match o with|.load t y=>AK y x&&CO P t==Y T|_=>T
 |.fdv x k=>match o with|.fieldAddr t y f=>AK y x&&Q1 P t f==Y k|_=>T
 |.ldv x n=>match o with|.load t y=>AK y x&&CO P t==Y X&&DI P t==Y n|_=>T
 |.lda x n=>match o with|.load t y=>AK y x&&CO P t==Y X&&DI P t==Y n|_=>T
 |.ldb s n=>match o with|.load t y=>AK y (.s s)&&CO P t==Y X&&DI P t==Y n|_=>T
 |.ldt x=>match o with|.load t y=>AK y x&&CO P t==Y T|_=>T
 |.bin k op x y=>match o with|.binOp op' t p q _=>op'==op&&Pc P k t&&AK p x&&AK q y|_=>T
 |.not x=>match o with|.unOp op _ y=>op==.not&&AK y x|_=>T
 |.neg x=>match o with|.unOp op _ y=>op==.neg&&AK y x|_=>T
 |.pick c x y=>match o with|.pick c' p q=>AK c' c&&AK p x&&AK q y|_=>T
 |.len x=>match o with|.call c=>We P T c x|_=>T
 |.AbG x=>match o with|.call c=>We P X c x|_=>T
 |.slc n x lo hi=>match o with|.slice t y l h mx=>mx.isNone&&AK y x&&Pe l lo&&Pe h hi&&KZ P t==Y n|_=>T
 |.Aai x lo hi=>match o with|.slice t y l h mx=>mx.isNone&&AK y x&&Pe l lo&&Pe h hi&&(match P.underlying t with|some .string=>X|_=>T)|_=>T
 |.bld z ps=>match o with|.build t qs=>lb P t z qs.toList ps|_=>T
 |.lst n ys=>match o with
  |.buildSlice t len ps=>(match P.underlying t with
   |some (.slice e)=>(match P.info? e with
    |some i=>(match i.zero with
     |some z=>i.size==n&&decide (0<n)&&z.cells.toList.all Value.oneCell'&&decide (0<z.cells.size)&&len==ps.size&&decide (len*n<=2^ 24)&&Ui 0 ps.toList ys|none=>T)
    |none=>T)
   |_=>T)
  |_=>T
 |.app n x y=>match o with|.call c=>Wc P n c x y|_=>T
 |.call f ys=>match o with|.call c=>(match c.callee with|.value (.func g)=>g==f&&Br c.args.toList ys|_=>T)|_=>T
 |.Abc x ys=>match o with|.call c=>(match c.callee with|.value g=>AK g x&&Br c.args.toList ys|_=>T)|_=>T
 |.clo f cs=>match o with|.makeFunc (.func g) first xs=>g==f&&first.size==0&&Br xs.toList cs|_=>T
 |.ext x i=>match o,x with|.extract y j,.s s=>Operand.Aap s y&&j==i|_,_=>T
 |.cvt k x=>match o with|.convert s t y=>AK y x&&(match P.underlying s,P.underlying t with|some (.int _),Y (.int k')=>k'==k|_,_=>T)|_=>T
 |.Aav x i=>match o with|.index t y j=>AK y x&&AK j i&&(match P.underlying t with|some .string=>X|_=>T)|_=>T
 |.Abn x=>match o with|.box _ y=>AK y x|_=>T
 |.Aby x=>match o with|.box _ y=>AK y x|_=>T
 |.mm mx x y=>match o with|.call c=>xy mx c x y|_=>T
 |.alc cs=>match o with|.alloc t=>(match P.info? t with|some i=>(match i.zero with|some z=>QG cs z.cells.toList|none=>T)|none=>T)|_=>T
 |.st n x v=>match o with|.store t y u=>AK y x&&AK u v&&DI P t==Y n|_=>T
 |.stb n s v=>match o with|.store t y u=>Operand.Aap s y&&AK u v&&DI P t==Y n|_=>T
 |.frz _=>T|.Abs x k n agg=>match o with|.field t y f=>AK y x&&lc P t f k n agg|_=>T
 |.xal s=>match o with|.move y|.assign y=>Operand.Aap s y|_=>T
 |.Abt x=>match o with|.call c=>We P T c x|_=>T
 |.xia x i n=>match o with|.indexAddr t y j=>AK y x&&AK j i&&KZ P t==Y n|_=>T
 |.xfa x k=>match o with|.fieldAddr t y f=>AK y x&&Q1 P t f==Y k|_=>T
 |.xld x=>match o with|.load t y=>AK y x&&CO P t==Y T|_=>T
 |.xst x v k=>match o with|.store t y u=>AK y x&&AK u v&&DI P t==Y k|_=>T
 |.rel s=>match o with|.move y|.assign y=>Operand.Aap s y|_=>T
 |.Abh _=>match o with|.move y|.assign y=>Ye y|_=>T
 |.tkx s=>match o with|.move y|.assign y=>Operand.Aap s y|_=>T
 |.Aa4 n s y=>match o with|.call c=>Wc P n c (.s s) y|_=>T
 |.AaE f ys=>match o with|.call c=>(match c.callee with|.value (.func g)=>g==f&&Br c.args.toList ys|_=>T)|_=>T
 |.mkx n zero x=>match o with|.makeSlice t y z=>AK y x&&AK z x&&rJ P t n zero|_=>T
 |.AaB f x ys=>match o with|.call c=>(match c.callee,c.args.toList with|.value (.func g),y::zs=>g==f&&(AK y x&&Br zs ys)|_,_=>T)|_=>T
 |.AaY f x=>match o with|.call c=>(match c.callee,c.args.toList with|.value (.func g),[y]=>g==f&&AK y x|_,_=>T)|_=>T
 |.Abk n=>match o with|.buildSlice t len ps=>len==0&&ps.isEmpty&&fJ P t n|_=>T
 |.Aaj gs=>match o with|.build t ps=>fH P t ps.toList gs|_=>T
 |.stx n s q=>match o with|.store t y u=>AK y (.s s)&&AK u (.s q)&&DI P t==Y n|_=>T
 |.Aa2 f ys=>match o with|.call c=>(match c.callee with|.value (.func g)=>g==f&&Br c.args.toList ys|_=>T)|_=>T
 |.Aaz f ys=>match o with|.call c=>(match c.callee with|.value (.func g)=>g==f&&Br c.args.toList ys|_=>T)|_=>T
 |.isn x=>match o with|.binOp op t y z _=>op==.eql&&AK y x&&Tn z&&cy P t|_=>T
 |.lac x=>match o with|.load t y=>AK y x&&CO P t==Y T|_=>T
 |.ctk x=>match o with|.load t y=>AK y x&&CO P t==Y T|_=>T
 |.cpt x q=>match o with|.store t y u=>AK y x&&AK u (.s q)&&DI P t==Y 1|_=>T
 |.cut n s hi=>match o with|.slice t y l (Y h) mx=>mx.isNone&&l.isNone&&Operand.Aap s y&&AK h hi&&KZ P t==Y n|_=>T
 |.AaM f ys=>match o with|.call c=>(match c.callee with|.value (.func g)=>g==f&&Br c.args.toList ys|_=>T)|_=>T
 |.Abi _ x=>match o with|.box _ y=>AK y x|_=>T
 |.Aa3 f ys=>match o with|.call c=>(match c.callee with|.value (.func g)=>g==f&&Br c.args.toList ys|_=>T)|_=>T
 |.Abd n s z x=>match o with|.call c=>oK P n s z x c|_=>T
 |.Aas f ys _=>match o with|.call c=>(match c.callee with|.value (.func g)=>g==f&&Br c.args.toList ys|_=>T)|_=>T
 |.Abm q=>match o with|.buildSlice t len ps=>(match len,ps.toList with|1,[(0,x)]=>fI P t&&AK x (.s q)|_,_=>T)|_=>T
 |.AaJ s q=>match o with|.call c=>Wc P 1 c (.s s) (.s q)|_=>T
 |.lan x=>match o with|.load t y=>AK y x&&CO P t==Y T|_=>T
 |.nia x i=>match o with|.indexAddr t y j=>AK y x&&AK j i&&KZ P t==Y 1|_=>T
 |.nld x=>match o with|.load t y=>AK y x&&CO P t==Y T|_=>T
 |.nst x v=>match o with|.store t y u=>AK y x&&AK u v&&DI P t==Y 1|_=>T
 |.Abw q=>match o with|.box _ y=>AK y (.s q)|_=>T
 |.AaL f ys _=>match o with|.call c=>(match c.callee with|.value (.func g)=>g==f&&Br c.args.toList ys|_=>T)|_=>T
 |.ldg s n=>match o with|.load t y=>Operand.Aap s y&&CO P t==Y X&&DI P t==Y n|_=>T
 |.stq n _ x v=>match o with|.store t y u=>AK y x&&AK u v&&DI P t==Y n|_=>T
 |.mkm=>match o with|.makeMap _ r=>r.isNone|_=>T
 |.mvm s=>match o with|.move y|.assign y=>Operand.Aap s y|_=>T
 |.AaF f ys=>match o with|.call c=>(match c.callee with|.value (.func g)=>g==f&&Br c.args.toList ys|_=>T)|_=>T
 |.mlk _ m x=>match o with|.lookup t y z c=>c&&Q5 P t&&AK y m&&AK z x|_=>T
 |.mup _ m x v=>match o with|.mapUpdate t y z u=>Q5 P t&&AK y m&&AK z x&&AK u v|_=>T
 |.tg _ m=>match o with|.range t y=>AK y m&&(match P.underlying t with|some (.map _ _)=>X|_=>T)|_=>T
 |.mnx s=>match o with|.next y c=>!c&&Operand.Aap s y|_=>T
 |.men s=>match o with|.entry y=>Operand.Aap s y|_=>T
def O2:AF->Bool
 |.st ..=>X|.stb ..=>X|.xst ..=>X|.stx ..=>X|.cpt ..=>X|.nst ..=>X|.mup ..=>X|.stq ..=>X|_=>T
section
variable{P:Program}{F0:Nat->Nat->Prop}{w0:W0}{O:AB}{a:Act}{w:World}{G:Bh}{d:Nat}{o:Oper}{K:EV->AB->Prop}
theorem BI.wp(h:BI P F0 w0 a w o d K)(g:o.dst=Y d){next:Act->World->Prop}{Q:Exit->Act->World->Prop}(A:∀e env' a' w',K e env'->SC a d a'->CE F0 w0 ((d,e)::env') a' w'->next a' w'):o.wp P a w next Q:=by
 obtain ⟨v,w',l,e,env',B,C⟩:=h;unfold Oper.wp;rw[l,Oper.upon_value,g];exact A e env' _ w' B ⟨_,rfl⟩ C
variable{α:Type}
theorem Hb{a:Array α}{x:α}(h:a.toList=[x]):a=#[x]:=by
 cases a;simp_all
theorem GH{a:Array α}{x y:α}(h:a.toList=[x,y]):a=#[x,y]:=by
 cases a;simp_all
theorem DT{c:Call}{ca:Callee}{g:Array Operand}{ts:Array TypeId}(h:c.callee=ca)(l:c.args=g)(A:c.argTypes=ts):c={callee:=ca,args:=g,argTypes:=ts}:=by
 cases c;simp_all
theorem rL(C:AO F0 w0 O a w G)(hd:d<a.tmps.size)(B:o.dst=Y d){p:AF}(A:RH P o.op p=X)(κ:O2 p=T)(h:p.wp (AV P) O (Y d) K)
  {next:Act->World->Prop}{Q:Exit->Act->World->Prop}(E:∀e env' a' w',K e env'->SC a d a'->CE F0 w0 ((d,e)::env') a' w'->next a' w'):o.wp P a w next Q:=by
 cases p<;>simp only[RH]at A<;>try(exact absurd A Bool.false_ne_true)
 case mv x=>
  split at A
  next y e=>exact(kJ C hd (.inl e) A h).wp B E
  next y e=>exact(kJ C hd (.inr e) A h).wp B E
  .cases A
 case tk s=>
  split at A
  next y e=>rw[Operand.o4 A]at e;exact(kL C hd (.inl e) h).wp B E
  next y e=>rw[Operand.o4 A]at e;exact(kL C hd (.inr e) h).wp B E
  .cases A
 case Abu n=>
  split at A
  next y e=>exact(bj C hd (.inl e) (S3 A) h).wp B E
  next y e=>exact(bj C hd (.inr e) (S3 A) h).wp B E
  .cases A
 case fad x k=>
  split at A
  next t y f e=>simp only[mo,beq_iff_eq]at A;exact(Sj C hd (Za e A.2) A.1 h).wp B E
  next y e=>simp only[mo,beq_iff_eq]at A;obtain⟨rfl,A⟩:=A;exact(Sj C hd (R6 (.inl e)) A h).wp B E
  next y e=>simp only[mo,beq_iff_eq]at A;obtain⟨rfl,A⟩:=A;exact(Sj C hd (R6 (.inr (.inl e))) A h).wp B E
  next y e=>simp only[mo,beq_iff_eq]at A;obtain⟨rfl,A⟩:=A;exact(Sj C hd (R6 (.inr (.inr e))) A h).wp B E
  .cases A
 case bad s k=>
  split at A
  next t y j e=>simp only[mo]at A;rw[Operand.o4 A.1]at e;exact(Si C hd (uR e A.2) h).wp B E
  next t y f e=>simp only[mo,beq_iff_eq]at A;rw[Operand.o4 A.1]at e;exact(Si C hd (Za e A.2) h).wp B E
  next y e=>simp only[mo,beq_iff_eq]at A;obtain⟨rfl,A⟩:=A;rw[Operand.o4 A]at e;exact(Si C hd (R6 (.inl e)) h).wp B E
  next y e=>simp only[mo,beq_iff_eq]at A;obtain⟨rfl,A⟩:=A;rw[Operand.o4 A]at e;exact(Si C hd (R6 (.inr (.inl e))) h).wp B E
  next y e=>simp only[mo,beq_iff_eq]at A;obtain⟨rfl,A⟩:=A;rw[Operand.o4 A]at e;exact(Si C hd (R6 (.inr (.inr e))) h).wp B E
  .cases A
 case iad x i n=>
  split at A
  next t y j e=>simp only[mo,beq_iff_eq]at A;exact(sV C hd e A.1.1 A.1.2 A.2 h).wp B E
  .cases A
 case aad x i n k=>
  split at A
  .rename_i t y j e;simp only[mo]at A;obtain⟨⟨H,I⟩,J⟩:=A;split at J
   next k' el θ=>simp only[mo,beq_iff_eq]at J;obtain⟨rfl,M⟩:=J;exact(sK C hd e H I θ M h).wp B E
   .cases J
  .cases A
 case ld x=>
  split at A
  next t y e=>simp only[mo,beq_iff_eq]at A;exact(wL C hd e A.1 A.2 h).wp B E
  .cases A
 case fdv x k=>
  split at A
  .rename_i t y f e;simp only[mo,beq_iff_eq]at A;refine(Sj (S:=AV P) C hd (Za e A.2) A.1 ?_).wp B E;simp only[AF.wp]at h|-;split at h
   next row hx=>rw[p6 C hx];exact h
   .exact h.elim
  .cases A
 case ldv x n=>
  split at A
  .rename_i t y e;simp only[mo,beq_iff_eq]at A;refine(Xx (S:=AV P) C hd e A.1.1 A.1.2 A.2 ?_).wp B E;simp only[AF.wp]at h|-;split at h
   next row hx=>rw[p6 C hx];exact h
   .exact h.elim
  .cases A
 case lda x n=>
  split at A
  next t y e=>simp only[mo,beq_iff_eq]at A;exact(Xx C hd e A.1.1 A.1.2 A.2 h).wp B E
  .cases A
 case ldb s n=>
  split at A
  .rename_i t y e;simp only[mo,beq_iff_eq]at A;refine(Xx (S:=AV P) C hd e A.1.1 A.1.2 A.2 (y:=.s s) ?_).wp B E;simp only[AF.wp]at h|-;split at h
   next cs R=>simp only[AH.ev,R,BT,A0];exact h
   .exact h.elim
  .cases A
 case ldt x=>
  split at A
  next t y e=>simp only[mo,beq_iff_eq]at A;exact(sd C hd e A.1 A.2 h).wp B E
  .cases A
 case bin k op x y=>
  split at A
  next op' t p q t' e=>simp only[mo,beq_iff_eq]at A;obtain⟨⟨⟨rfl,H⟩,I⟩,J⟩:=A;exact(sN C hd e H I J h).wp B E
  .cases A
 case not x=>
  split at A
  next op t y e=>simp only[mo,beq_iff_eq]at A;obtain⟨rfl,H⟩:=A;exact(s9 C hd e H h).wp B E
  .cases A
 case neg x=>
  split at A
  next op t y e=>simp only[mo,beq_iff_eq]at A;obtain⟨rfl,H⟩:=A;exact(sz C hd e H h).wp B E
  .cases A
 case pick c x y=>
  split at A
  next c' p q e=>simp only[mo]at A;exact(pj C hd e A.1.1 A.1.2 A.2 h).wp B E
  .cases A
 case len x=>
  split at A
  .rename_i c e;unfold We at A;split at A
   .rename_i y t H I J;simp only[mo]at A;obtain⟨M,ε⟩:=A;split at ε
    next el θ=>rw[DT H (Hb I) (Hb J)]at e;exact(se C hd e M θ h).wp B E
    .cases ε
    .cases ε
   .cases A
  .cases A
 case AbG x=>
  split at A
  .rename_i c e;unfold We at A;split at A
   .rename_i y t H I J;simp only[mo]at A;obtain⟨M,ε⟩:=A;split at ε
    .cases ε
    next θ=>rw[DT H (Hb I) (Hb J)]at e;exact(pu C hd e M θ h).wp B E
    .cases ε
   .cases A
  .cases A
 case slc n x lo hi=>
  split at A
  next t y l hh mx e=>simp only[mo,beq_iff_eq,Q?]at A;obtain⟨⟨⟨⟨rfl,H⟩,I⟩,J⟩,M⟩:=A;exact(tB C hd e H I J M h).wp B E
  .cases A
 case Aai x lo hi=>
  split at A
  .rename_i t y l hh mx e;simp only[mo,Q?]at A;obtain⟨⟨⟨⟨rfl,H⟩,I⟩,J⟩,M⟩:=A;split at M
   next θ=>exact(pv C hd e H I J θ h).wp B E
   .cases M
  .cases A
 case bld z ps=>
  split at A
  next t qs e=>exact(sO C hd e A h).wp B E
  .cases A
 case lst n ys=>
  split at A
  .rename_i t len ps e;split at A
   .rename_i el θ;split at A
    .rename_i i hi;split at A
     next z ζ=>simp only[mo,beq_iff_eq,qo]at A;obtain⟨⟨⟨⟨⟨⟨H,I⟩,J⟩,M⟩,ε⟩,L⟩,δ⟩:=A;exact(sf C hd e θ hi ζ H I J M ε L δ h).wp B E
     .cases A
    .cases A
   .cases A
  .cases A
 case app n x y=>
  split at A
  .rename_i c e;unfold Wc at A;split at A
   .rename_i p q t t' s H I J;simp only[mo,beq_iff_eq]at A;obtain⟨⟨⟨M,ε⟩,rfl⟩,L⟩:=A;split at L
    .rename_i el θ;split at L
     .rename_i i hi;split at L
      next z ζ=>simp only[mo,beq_iff_eq,qo]at L;obtain⟨⟨⟨δ,h8⟩,h9⟩,η⟩:=L;rw[DT H (GH I) (GH J),Operand.o4 M]at e;exact(sM C hd e θ hi ζ δ h8 h9 η ε h).wp B E
      .cases L
     .cases L
    .cases L
   .cases A
  .cases A
 case call f ys=>
  split at A
  .rename_i c e;split at A
   next g R=>simp only[mo,beq_iff_eq]at A;obtain⟨rfl,H⟩:=A;rw[DT R rfl rfl]at e;exact pY C hd B e H h E
   .cases A
  .cases A
 case Abc x ys=>
  split at A
  .rename_i c e;split at A
   next g R=>simp only[mo]at A;rw[DT R rfl rfl]at e;exact mW C hd B e A.1 A.2 h E
   .cases A
  .cases A
 case clo f cs=>
  split at A
  .rename_i g first xs e
   simp only[mo,beq_iff_eq]at A;obtain⟨⟨rfl,H⟩,I⟩:=A;rw[Array.eq_empty_of_size_eq_zero H]at e;exact(sP C hd e I h).wp B E
  .cases A
 case ext x i=>
  split at A
  next y j s e=>simp only[mo,beq_iff_eq]at A;obtain⟨H,rfl⟩:=A;rw[Operand.o4 H]at e;exact(sU C hd e h).wp B E
  .cases A
 case cvt k x=>
  split at A
  .rename_i s t y e;simp only[mo]at A;obtain⟨H,I⟩:=A;split at I
   next k1 k2 hs ht=>simp only[beq_iff_eq]at I;subst I;exact(sT C hd e hs ht H h).wp B E
   .cases I
  .cases A
 case Aav x i=>
  split at A
  .rename_i t y j e;simp only[mo]at A;obtain⟨⟨H,I⟩,J⟩:=A;split at J
   next θ=>exact(pk C hd e H I θ h).wp B E
   .cases J
  .cases A
 case Abn x=>
  split at A
  next t y e=>exact(pX C hd e A h).wp B E
  .cases A
 case Aby x=>
  split at A
  next t y e=>exact(pV C hd e A h).wp B E
  .cases A
 case mm mx x y=>
  split at A
  .rename_i c e;unfold xy at A;split at A
   next p q H I=>simp only[mo]at A;obtain⟨⟨rfl,J⟩,M⟩:=A;rw[DT H (GH I) rfl]at e;exact(kI (mx:=X) C hd e J M h).wp B E
   next p q H I=>simp only[mo,R_]at A;obtain⟨⟨rfl,J⟩,M⟩:=A;rw[DT H (GH I) rfl]at e;exact(kI (mx:=T) C hd e J M h).wp B E
   .cases A
  .cases A
 case alc cs=>
  split at A
  .rename_i t e;split at A
   .rename_i i hi;split at A
    next z ζ=>exact(sL C hd e hi ζ A h).wp B E
    .cases A
   .cases A
  .cases A
 case st n x v=>cases κ
 case stb n s v=>cases κ
 case Abs x k n agg=>
  split at A
  next t y f e=>simp only[mo]at A;exact(pZ C hd e A.1 A.2 h).wp B E
  .cases A
 case xal s=>
  split at A
  next y e=>rw[Operand.o4 A]at e;exact(gj C hd (.inl e) h).wp B E
  next y e=>rw[Operand.o4 A]at e;exact(gj C hd (.inr e) h).wp B E
  .cases A
 case rel s=>
  split at A
  next y e=>rw[Operand.o4 A]at e;exact(gh C hd (.inl e) h).wp B E
  next y e=>rw[Operand.o4 A]at e;exact(gh C hd (.inr e) h).wp B E
  .cases A
 case tkx s=>
  split at A
  next y e=>rw[Operand.o4 A]at e;exact(gi C hd (.inl e) h).wp B E
  next y e=>rw[Operand.o4 A]at e;exact(gi C hd (.inr e) h).wp B E
  .cases A
 case Abh n=>
  split at A
  next y e=>exact(bl C hd (.inl e) (S3 A) h).wp B E
  next y e=>exact(bl C hd (.inr e) (S3 A) h).wp B E
  .cases A
 case Abt x=>
  split at A
  .rename_i c e;unfold We at A;split at A
   .rename_i y t H I J;simp only[mo]at A;obtain⟨M,ε⟩:=A;split at ε
    next el θ=>rw[DT H (Hb I) (Hb J)]at e;exact(pw C hd e M θ h).wp B E
    .cases ε
    .cases ε
   .cases A
  .cases A
 case xia x i n=>
  split at A
  next t y j e=>simp only[mo,beq_iff_eq]at A;exact(tF C hd e A.1.1 A.1.2 A.2 h).wp B E
  .cases A
 case xfa x k=>
  split at A
  next t y f e=>simp only[mo,beq_iff_eq]at A;exact(tE C hd e A.1 A.2 h).wp B E
  .cases A
 case xld x=>
  split at A
  next t y e=>simp only[mo,beq_iff_eq]at A;exact(tG C hd e A.1 A.2 h).wp B E
  .cases A
 case xst x v k=>cases κ
 case Aa4 n s y=>
  split at A
  .rename_i c e;unfold Wc at A;split at A
   .rename_i p q t t' s' H I J h0;simp only[AH.s.injEq]at h0;subst h0;simp only[mo,beq_iff_eq]at A;obtain⟨⟨⟨M,ε⟩,rfl⟩,L⟩:=A;split at L
    .rename_i el θ;split at L
     .rename_i i hi;split at L
      next z ζ=>simp only[mo,beq_iff_eq,qo]at L;obtain⟨⟨⟨δ,h8⟩,h9⟩,η⟩:=L;rw[DT H (GH I) (GH J),Operand.o4 M]at e;exact(pR C hd e θ hi ζ δ h8 h9 η ε h).wp B E
      .cases L
     .cases L
    .cases L
   .cases A
  .cases A
 case AaE f ys=>
  split at A
  .rename_i c e;split at A
   next g R=>simp only[mo,beq_iff_eq]at A;obtain⟨rfl,H⟩:=A;rw[DT R rfl rfl]at e;exact mX C hd B e H h E
   .cases A
  .cases A
 case mkx n zero x=>
  split at A
  next t y z e=>simp only[mo]at A;exact(wM C hd e A.1.1 A.1.2 A.2 h).wp B E
  .cases A
 case AaB f x ys=>
  split at A
  .rename_i c e;split at A
   next g y zs R ha=>simp only[mo,beq_iff_eq]at A;obtain⟨rfl,H,I⟩:=A;rw[DT R (show c.args=(y::zs).toArray by rw[<-ha]) rfl]at e;exact mU C hd B e H I h E
   .cases A
  .cases A
 case AaY f x=>
  split at A
  .rename_i c e;split at A
   next g y R ha=>simp only[mo,beq_iff_eq]at A;obtain⟨rfl,H⟩:=A;rw[DT R (Hb ha) rfl]at e;exact mP C hd B e H h E
   .cases A
  .cases A
 case Abk n=>
  split at A
  next t len ps e=>simp only[mo,beq_iff_eq,Array.isEmpty_iff]at A;obtain⟨⟨rfl,rfl⟩,H⟩:=A;exact(pi C hd e H h).wp B E
  .cases A
 case Aaj gs=>
  split at A
  next t ps e=>exact(pT C hd e A h).wp B E
  .cases A
 case stx n s q=>cases κ
 case cpt x q=>cases κ
 case lac x=>
  split at A
  next t y e=>simp only[mo,beq_iff_eq]at A;exact(sX C hd e A.1 A.2 h).wp B E
  .cases A
 case ctk x=>
  split at A
  next t y e=>simp only[mo,beq_iff_eq]at A;exact(sR C hd e A.1 A.2 h).wp B E
  .cases A
 case cut n s hi=>
  split at A
  next t y l hh mx e=>simp only[mo,beq_iff_eq,Q?]at A;obtain⟨⟨⟨⟨rfl,rfl⟩,H⟩,I⟩,J⟩:=A;rw[Operand.o4 H]at e;exact(sS C hd e I J h).wp B E
  .cases A
 case AaM f ys=>
  split at A
  .rename_i c e;split at A
   next g R=>simp only[mo,beq_iff_eq]at A;obtain⟨rfl,H⟩:=A;rw[DT R rfl rfl]at e;exact mT C hd B e H h E
   .cases A
  .cases A
 case Aas f ys i=>
  split at A
  .rename_i c e;split at A
   next g R=>simp only[mo,beq_iff_eq]at A;obtain⟨rfl,H⟩:=A;rw[DT R rfl rfl]at e;exact mO C hd B e H h E
   .cases A
  .cases A
 case Aa3 f ys=>
  split at A
  .rename_i c e;split at A
   next g R=>simp only[mo,beq_iff_eq]at A;obtain⟨rfl,H⟩:=A;rw[DT R rfl rfl]at e;exact(mQ C hd e H h).wp B E
   .cases A
  .cases A
 case Abd n s z x=>
  split at A
  .rename_i c e;unfold oK at A;split at A
   .rename_i p q t t' H I J;simp only[mo]at A;obtain⟨⟨M,ε⟩,L⟩:=A;split at L
    .rename_i el kn θ hu';split at L
     .rename_i i hi;split at L
      .rename_i zz ζ;split at L
       next z0 hz0=>simp only[mo,beq_iff_eq,qo]at L;obtain⟨⟨⟨⟨rfl,δ⟩,h8⟩,h9⟩,η⟩:=L;rw[DT H (GH I) (GH J),Operand.isTmp_eq' M]at e;exact(pS C hd e θ hu' hi ζ δ h8 (Hb hz0) h9 η ε h).wp B E
       .cases L
      .cases L
     .cases L
    .cases L
   .cases A
  .cases A
 case Abi ps x=>
  split at A
  next t y e=>exact(pW C hd e A h).wp B E
  .cases A
 case Aa2 f ys=>
  split at A
  .rename_i c e;split at A
   next g R=>simp only[mo,beq_iff_eq]at A;obtain⟨rfl,H⟩:=A;rw[DT R rfl rfl]at e;exact mS C hd B e H h E
   .cases A
  .cases A
 case Aaz f ys=>
  split at A
  .rename_i c e;split at A
   next g R=>simp only[mo,beq_iff_eq]at A;obtain⟨rfl,H⟩:=A;rw[DT R rfl rfl]at e;exact ig C hd B e H h E
   .cases A
  .cases A
 case isn x=>
  split at A
  next op t y z t' e=>simp only[mo,beq_iff_eq]at A;obtain⟨⟨⟨rfl,H⟩,I⟩,J⟩:=A;exact(sW C hd e H I J h).wp B E
  .cases A
 case Abm q=>
  split at A
  .rename_i t len ps e;split at A
   next x hps=>simp only[mo]at A;rw[Hb hps]at e;exact(ph C hd e A.1 A.2 h).wp B E
   .cases A
  .cases A
 case AaJ s q=>
  split at A
  .rename_i c e;unfold Wc at A;split at A
   .rename_i p q' t t' s' H I J M;simp only[AH.s.injEq]at M;subst M;simp only[mo,beq_iff_eq]at A;obtain⟨⟨⟨M,ε⟩,rfl⟩,L⟩:=A;split at L
    .rename_i el θ;split at L
     .rename_i i hi;split at L
      .rename_i z ζ;simp only[mo,beq_iff_eq,qo]at L;obtain⟨⟨⟨δ,h8⟩,h9⟩,η⟩:=L;have hq:q'=.tmp q:=by
        cases q'<;>simp[AK]at ε;rw[ε]
       rw [DT H (GH I) (GH J),Operand.o4 M,hq]at e;exact(pQ C hd e θ hi ζ δ h8 h9 h).wp B E
      .cases L
     .cases L
    .cases L
   .cases A
  .cases A
 case lan x=>
  split at A
  next t y e=>simp only[mo,beq_iff_eq]at A;exact(sY C hd e A.1 A.2 h).wp B E
  .cases A
 case nia x i=>
  split at A
  next t y j e=>simp only[mo,beq_iff_eq]at A;exact(s7 C hd e A.1.1 A.1.2 A.2 h).wp B E
  .cases A
 case nld x=>
  split at A
  next t y e=>simp only[mo,beq_iff_eq]at A;exact(s8 C hd e A.1 A.2 h).wp B E
  .cases A
 case nst x v=>cases κ
 case Abw q=>
  split at A
  next t y e=>exact(pU C hd e A h).wp B E
  .cases A
 case AaL f ys i=>
  split at A
  .rename_i c e;split at A
   next g R=>simp only[mo,beq_iff_eq]at A;obtain⟨rfl,H⟩:=A;rw[DT R rfl rfl]at e;exact mN C hd B e H h E
   .cases A
  .cases A
 case mkm=>
  split at A
  .rename_i t r e;cases r with
   |none=>exact(si C hd e h).wp B E|some r=>cases A
  .cases A
 case mvm s=>
  split at A
  next y e=>rw[Operand.o4 A]at e;exact(gf C hd (.inl e) h).wp B E
  next y e=>rw[Operand.o4 A]at e;exact(gf C hd (.inr e) h).wp B E
  .cases A
 case AaF f ys=>
  split at A
  .rename_i c e;split at A
   next g R=>simp only[mo,beq_iff_eq]at A;obtain⟨rfl,H⟩:=A;rw[DT R rfl rfl]at e;exact mV C hd B e H h E
   .cases A
  .cases A
 case mlk s m x=>
  split at A
  next t y z c e=>simp only[mo]at A;obtain⟨⟨⟨rfl,H⟩,I⟩,J⟩:=A;exact(sq C hd e H I J h).wp B E
  .cases A
 case mup s m x v=>cases κ
 case stq n ps x v=>cases κ
 case ldg s n=>
  split at A
  next t y e=>simp only[mo,beq_iff_eq]at A;rw[Operand.o4 A.1.1]at e;exact(sZ C hd e A.1.2 A.2 h).wp B E
  .cases A
 case tg s m=>
  split at A
  .rename_i t y e;simp only[mo]at A;obtain⟨H,I⟩:=A;split at I
   next k el θ=>exact(sv C hd e H θ h).wp B E
   .cases I
  .cases A
 case mnx s=>
  split at A
  next y c e=>simp only[mo,R_]at A;obtain⟨rfl,H⟩:=A;rw[Operand.o4 H]at e;exact(su C hd e h).wp B E
  .cases A
 case men s=>
  split at A
  next y e=>rw[Operand.o4 A]at e;exact(sg C hd e h).wp B E
  .cases A
end
end Go.Sf
namespace Go.Sf
open Go.RowKit (Below)
def Wd(ops:Array Oper)(o:Oper)(r:PR):Bool:=
 match r.guard,o.guard with
 |none,W=>X|some (g,b),Y (j,b')=>b==b'&&((ops[j]?).bind (·.dst))==Y g|_,_=>T
def N2(P:Program)(N:Nat)(ops:Array Oper)(o:Oper)(r:PR):Bool:=
 Wd ops o r&&(match o.dst,r.dst with
 |some d,Y d'=>d==d'&&decide (d<N)&&!O2 r.op&&RH P o.op r.op|none,W=>O2 r.op&&RH P o.op r.op|_,_=>T)
section
variable{P:Program}{F0:Nat->Nat->Prop}{w0:W0}{O:AB}{a:Act}{w:World}{ops:Array Oper}{o:Oper}{r:PR}{N:Nat}{p:Option (Nat×Value)}{K:AB->Prop}{next:Act->World->Prop}{Q:Exit->Act->World->Prop}
theorem CE.skip(g:CE F0 w0 O a w){d:Nat}(hd:d<a.tmps.size):CE F0 w0 ((d,.sk)::O) (a.put (Y d) undef) w:=by
 obtain ⟨G,h⟩:=g;exact⟨_,h.quiet (Below.refl _ _) d hd .sk undef (λ_=>W) V V V rfl trivial⟩
theorem O9{o:Oper}(g:o.dst=W){K:EV->AB->Prop}(h:Iu P F0 w0 a w o K)(A:∀env' w',K .undef env'->CE F0 w0 env' a w'->next a w'):o.wp P a w next Q:=by
 obtain ⟨w',l,env',B,C⟩:=h;unfold Oper.wp;rw[l,Oper.upon_skip,g];exact A _ _ B C
variable{n s:Nat}
theorem zB{S:FuncId->Fq->BA->Prop}{v:AH}{d:Option Nat}{O:AB}{K:EV->AB->Prop}(h:(AF.stb n s v).wp S O d K):(AF.st n (.s s) v).wp S O d K:=by
 simp [AF.wp]at h|-
 grind [AH.place]
def Xk(A:CE F0 w0 O a w)(I:Mb N p a)(κ:∀i v,p=Y (i,v)->r.dst≠Y i)(η:N2 P N ops o r=X)(h:r.wp (AV P) O K)
  (J:∀env' a' w',K env'->Mb N p a'->CE F0 w0 env' a' w'->next a' w'):
  if Region.wanted o (yielded ops a.tmps)then o.wp P a w next Q else next (a.put o.dst undef) w:=by
 simp [N2]at η;obtain⟨θ,hd⟩:=η;have δ:r.op.wp (AV P) O r.dst (λe env'=>K (env'.put r.dst e))->o.wp P a w next Q:=by
  intro E;obtain⟨G,A⟩:=A;cases ho:o.dst with
  |some d=>
   cases hr:r.dst with
   |none=>rw[ho,hr]at hd;cases hd
   |some d'=>
    rw [ho,hr]at hd;simp[qo,R_]at hd;obtain⟨⟨⟨rfl,R⟩,ε⟩,l⟩:=hd;rw[hr]at E;exact rL A (I.size▸R) ho l ε E λe env' a' w' B C k3=>J _ a' w' B (I.put (λi v hp=>by rw[<-hr];exact κ i v hp) C) k3
  |none=>
   cases hr:r.dst with
   |some d'=>rw[ho,hr]at hd;cases hd
   |none=>
    rw [ho,hr]at hd;rw[hr]at E;simp at hd;obtain⟨ε,l⟩:=hd;generalize hp:r.op=p at E ε l;cases p<;>simp[O2]at ε<;>first|cases ε|skip
    .rename_i n x v;simp[RH]at l;split at l
     next t y u e=>simp at l;exact O9 ho (kK A e l.1.1 l.1.2 l.2 E) λenv' w' B C=>J env' a w' B I C
     .cases l
    .rename_i n s v;simp[RH]at l;split at l
     next t y u e=>simp at l;rw[Operand.o4 l.1.1]at e;exact O9 ho (kK A e (x':=.s s) r? l.1.2 l.2 (zB E)) λenv' w' B C=>J env' a w' B I C
     .cases l
    .rename_i x v;simp[RH]at l;split at l
     next t y u e=>simp at l;exact O9 ho (tH A e l.1.1 l.1.2 l.2 E) λenv' w' B C=>J env' a w' B I C
     .cases l
    .rename_i n x q;simp[RH]at l;split at l
     next t y u e=>simp at l;exact O9 ho (tD A e l.1.1 l.1.2 l.2 E) λenv' w' B C=>J env' a w' B I C
     .cases l
    .rename_i x q;simp[RH]at l;split at l
     next t y u e=>simp at l;exact O9 ho (sQ A e l.1.1 l.1.2 l.2 E) λenv' w' B C=>J env' a w' B I C
     .cases l
    .rename_i x v;simp[RH]at l;split at l
     next t y u e=>simp at l;exact O9 ho (tA A e l.1.1 l.1.2 l.2 E) λenv' w' B C=>J env' a w' B I C
     .cases l
    .rename_i n ps x v;simp[RH]at l;split at l
     next t y u e=>simp at l;exact O9 ho (tC A e l.1.1 l.1.2 l.2 E) λenv' w' B C=>J env' a w' B I C
     .cases l
    .rename_i s m x v;simp[RH]at l;split at l
     next t y z u e=>simp at l;exact O9 ho (sw A e l.1.1.1 l.1.1.2 l.1.2 l.2 E) λenv' w' B C=>J env' a w' B I C
     .cases l
 have skp:K (O.put r.dst .sk)->next (a.put o.dst undef) w:=by
  intro hk;cases ho:o.dst with
  |some d=>
   cases hr:r.dst with
   |none=>rw[ho,hr]at hd;cases hd
   |some d'=>
    rw [ho,hr]at hd;simp[qo,R_]at hd;obtain⟨⟨⟨rfl,R⟩,ε⟩,l⟩:=hd;rw[hr]at hk;exact J _ _ _ hk (I.put (λi v hp=>by rw[<-hr];exact κ i v hp) ⟨_,rfl⟩) (A.skip (I.size▸R))
  |none=>
   cases hr:r.dst with
   |some d'=>rw[ho,hr]at hd;cases hd
   |none=>rw[hr]at hk;exact J _ _ _ hk I A
 unfold PR.wp at h;cases L:r.guard with
 |none=>
  rw [L]at h;cases H:o.guard with
  |none=>rw[ac (by simp[Region.wanted,H])];exact δ h|some g=>rw[Wd,L,H]at θ;cases θ
 |some gb=>
  obtain ⟨g,b⟩:=gb;rw[L]at h;cases H:o.guard with
  |none=>rw[Wd,L,H]at θ;cases θ
  |some jb=>
   obtain ⟨j,b'⟩:=jb;rw[Wd,L,H]at θ;simp at θ;obtain⟨rfl,hj⟩:=θ;simp only at h;split at h
   .rename_i q ζ;have hv:slot a g=.bool q:=by
     obtain ⟨G,A⟩:=A;have:=At A ζ V;simpa only[AN,A3]using this
    have M:g<a.tmps.size:=by
     obtain ⟨G,A⟩:=A;exact Bz A ζ V
    have hy:yielded ops a.tmps j=Y q:=by
     have R:a.tmps[g]?=Y (.bool q):=by
      rw [slot,P!,Pi M]at hv;rw[Pi M];simpa using hv
     simp [yielded,hj,R]
    have E:Region.wanted o (yielded ops a.tmps)=(q==b):=by
     simp only[Region.wanted,H,hy];cases q<;>cases b<;>rfl
    rw [E];by_cases hqb:q=b
    .subst hqb;rw[ac V];exact δ (h.1 rfl)
    .have hqb':q=!b:=by cases q<;>cases b<;>simp_all
     rw [ae (by simpa using hqb)];exact skp (h.2 hqb')
   .rename_i ζ;have hv:slot a g=undef:=by
     obtain ⟨G,A⟩:=A;have:=At A ζ V;simpa only[AN]using this
    have M:g<a.tmps.size:=by
     obtain ⟨G,A⟩:=A;exact Bz A ζ V
    have hy:yielded ops a.tmps j=W:=by
     have R:a.tmps[g]?=Y undef:=by
      rw [slot,P!,Pi M]at hv;rw[Pi M];simpa using hv
     simp [yielded,hj,R,undef]
    have E:Region.wanted o (yielded ops a.tmps)=T:=by
     simp only[Region.wanted,H,hy];cases b<;>rfl
    rw [E];exact skp h
   .exact h.elim
def Ug:List PR->Bool
 |[]=>X|r::rs=>(match r.op,r.dst,r.guard with|.frz _,W,W=>X|_,_,_=>T)&&Ug rs
variable{rs:List PR}
def uk:∀{O:AB},Ug rs=X->wpOps (AV P) K rs O->CE F0 w0 O a w->∃env',K env'/\CE F0 w0 env' a w:=by
 induction rs with
 |nil=>intro O _ h g;exact⟨O,h,g⟩|cons r rs J=>
  intro O l h g;simp[Ug]at l;obtain⟨A,I⟩:=l;split at A
  .rename_i s B C E;simp[wpOps,PR.wp,B,C,E,AF.wp]at h;split at h
   next cs H=>obtain⟨G,g⟩:=g;exact J I h (g.frz H)
   .exact h.elim
  .cases A
def N8(P:Program)(N:Nat)(ops:Array Oper):List Oper->List PR->Bool
 |[],rs=>Ug rs|o::os,r::rs=>N2 P N ops o r&&N8 P N ops os rs|_::_,[]=>T
def Ym(I:∀O a w,K O->Mb N p a->CE F0 w0 O a w->Q .normal a w):∀(os:List Oper)(rs:List PR)(k:Nat),ops.toList.drop k=os->N8 P N ops os rs=X->(∀i v,p=Y (i,v)->∀r∈rs,r.dst≠Y i)->∀(O:AB)(a:Act)(w:World),Mb N p a->CE F0 w0 O a w ->
  wpOps (AV P) K rs O->Go.wpOps P ops Q (K_ k os.length) a w
 |[],rs,k,_,g,_,O,a,w,E,H,h=>by
  obtain ⟨env',θ,ε⟩:=uk g h H;exact I env' a w θ E ε
 |o::os,[],k,_,g,_,_,_,_,_,_,_=>by simp[N8]at g|o::os,r::rs,k,hd,g,A,O,a,w,E,H,h=>by
  simp [N8]at g;have R:ops[k]?=Y o:=by
   rw [<-O!];have:=congrArg (λl=>l[0]?) hd
   grind
  have C:ops.toList.drop (k+1)=os:=by
   grind [List.tail,List.tail_drop]
  simp [List.range'_succ];rw[Go.wpOps_cons];unfold Go.wpOp;rw[R];simp;have:=Xk (Q:=Q) (next:=Go.wpOps P ops Q (K_ (k+1) os.length)) H E (λi v B=>A i v B r V) g.1 h λenv' a' w' J L M=>Ym I os rs (k+1) C g.2 (λi v B r hr=>A i v B r (by simp[hr])) env' a' w' L M J
  grind
def gL{id:Nat}(g:N8 P N ops ops.toList rs=X)(l:∀i v,p=Y (i,v)->∀r∈rs,r.dst≠Y i)(A:Mb N p a)(B:CE F0 w0 O a w)(h:wpOps (AV P) K rs O)
  (C:∀O a w,K O->Mb N p a->CE F0 w0 O a w->Q .normal a w):(Code.region id ops T).wp P Q a w:=by
 refine Go.wp_region ?_;rw[List.range_eq_range',<-O_];exact Ym C ops.toList rs 0 rfl g l O a w A B h
end
end Go.Sf
namespace Go.Sf
open Go.RowKit (Below)
def D6(P:Program)(N:Nat)(D:QQ->Array Oper->List PR->Bool):PC->Code->Bool
 |.skip _,.skip=>X|.ret,.ret=>X|.exit i _,.exit j=>i==j|.seq a b,.seq c d=>D6 P N D a c&&D6 P N D b d|.cond c a b,.cond x p q=>AK x c&&(D6 P N D a p&&D6 P N D b q)|.block i c,.block j d=>i==j&&D6 P N D c d|.loop _ c,.loop d=>D6 P N D c d|.region rs _,.region _ ops draw=>!draw&&N8 P N ops ops.toList rs|.draw ds rs _,.region _ ops draw=>draw&&D ds ops rs|.rls _ a,c=>D6 P N D a c|.bad,_=>X|_,_=>T
def PC.t1:PC->Bool
 |.seq a b=>a.t1&&b.t1|.cond _ a b=>a.t1&&b.t1|.block _ c=>c.t1|.loop _ c=>c.t1|.rls _ c=>c.t1|_=>X
def t2(i:Nat)(rs:List PR):Bool:=rs.all λr=>r.dst !=Y i
def PC.t2(i:Nat):PC->Bool
 |.seq a b=>a.t2 i&&b.t2 i|.cond _ a b=>a.t2 i&&b.t2 i|.block _ c=>c.t2 i|.loop _ c=>c.t2 i|.rls _ c=>c.t2 i|.region rs _=>Go.Sf.t2 i rs|.draw _ rs _=>Go.Sf.t2 i rs|_=>X
variable{rs:List PR}
def Yq{i:Nat}(h:t2 i rs=X):∀r∈rs,r.dst≠Y i:=by
 intro r hr;have:=F!.1 h r hr;simpa using this
section
variable{P:Program}{F0:Nat->Nat->Prop}{w0:W0}{N:Nat}{p:Option (Nat×Value)}{D:QQ->Array Oper->List PR->Bool}
def CE.envWF{O:AB}{a:Act}{w:World}(h:CE F0 w0 O a w):∀s,(O.get s).WF:=by
 obtain ⟨G,h⟩:=h;exact h.wf
def Ma(P:Program)(N:Nat)(D:QQ->Array Oper->List PR->Bool):Prop:=
 ∀(F0:Nat->Nat->Prop)(w0:W0)(p:Option (Nat×Value))(id:Nat)(ds:QQ)(ops:Array Oper)(rs:List PR)(live:QQ)(O:AB)(a:Act)(w:World)(K:AB->Prop)(Q:Exit->Act->World->Prop),D ds ops rs=X->(∀i v,p=Y (i,v)->∀r∈rs,r.dst≠Y i)->Mb N p a->CE F0 w0 O a w->Tg O ds=X->wpOps (AV P) (λe=>K (e.fd live)) rs O ->
  (∀O a w,K O->Mb N p a->CE F0 w0 O a w->Q .normal a w)->(Code.region id ops X).wp P Q a w
def PN(hD:Ma P N D):∀(pc:PC)(c:Code),D6 P N D pc c=X->((∀b o,¬w0.E b o)\/pc.t1=X)->(∀i v,p=Y (i,v)->pc.t2 i=X)->∀(q:Q)(I:Exit->Act->World->Prop),
  (∀O a w,q.normal O->Mb N p a->CE F0 w0 O a w->I .normal a w)->(∀i O a w,q.exit i O->Mb N p a->CE F0 w0 O a w->I (.exit i) a w)->(∀O a w,q.ret O->Mb N p a->CE F0 w0 O a w->I .ret a w) ->
  ∀O a w,Mb N p a->CE F0 w0 O a w->pc.wp (AV P) q O->c.wp P I a w:=by
 intro pc
 induction pc with
 |skip l=>
  intro c g ε B q I L M R O a w C A h;cases c<;>simp[D6]at g<;>first|exact Go.wp_skip (L _ a w h C (A.fd l))|cases g
 |ret=>
  intro c g ε B q I L M R O a w C A h;cases c<;>simp[D6]at g<;>first|exact Go.wp_ret (R O a w h C A)|cases g
 |exit i l=>
  intro c g ε B q I L M R O a w C A h;cases c<;>simp only[D6]at g<;>first|cases g|skip
  simp at g;subst g;exact Go.wp_exit (M i _ a w h C (A.fd l))
 |seq x y ihx ihy=>
  intro c g ε B q I L M R O a w C A h;cases c<;>simp only[D6]at g<;>first|cases g|skip
  rename_i c d;simp at g;have η:=ε.imp id (λe=>(mo _ _▸e:x.t1=X/\y.t1=X));have ζ:=λi v θ=>(mo _ _▸B i v θ:x.t2 i=X/\y.t2 i=X);refine Go.wp_seq (ihx c g.1 (η.imp id And.left) (λi v θ=>(ζ i v θ).1) _ _ ?_ ?_ ?_ O a w C A h)
  .intro O a w κ C A;exact ihy d g.2 (η.imp id And.right) (λi v θ=>(ζ i v θ).2) q I L M R O a w C A (κ A.envWF)
  .exact M
  .exact R
 |cond o x y ihx ihy=>
  intro c g ε B q I L M R O a w C A h;cases c<;>simp only[D6]at g<;>first|cases g|skip
  rename_i c d e;simp at g;simp[PC.wp]at h;split at h
  .rename_i b hb;have hc:a.eval c=.bool b:=by
    obtain ⟨G,A⟩:=A;have:=(BF A g.1 hb).1
    grind [A3]
   have η:=ε.imp id (λe=>(mo _ _▸e:x.t1=X/\y.t1=X));have ζ:=λi v θ=>(mo _ _▸B i v θ:x.t2 i=X/\y.t2 i=X);refine Go.wp_cond_split hc (λhb=>?_) (λhb=>?_)
   .exact ihx d g.2.1 (η.imp id And.left) (λi v θ=>(ζ i v θ).1) q I L M R O a w C A (h.1 hb)
   .exact ihy e g.2.2 (η.imp id And.right) (λi v θ=>(ζ i v θ).2) q I L M R O a w C A (h.2 hb)
  .exact h.elim
 |block i x ih=>
  intro c g ε B q I L M R O a w C A h;cases c<;>simp only[D6]at g<;>first|cases g|skip
  rename_i j d;simp at g;obtain⟨rfl,g⟩:=g;refine Go.wp_block (ih d g ε B _ _ ?_ ?_ ?_ O a w C A h)
  .exact L
  .intro k O a w κ C A;simp[Exit.inBlock];simp only at κ;split
   next e=>rw[ac e]at κ;exact L O a w κ C A
   next e=>rw[ae e]at κ;exact M k O a w κ C A
  .exact R
 |loop J x ih=>
  intro c g ε B q I L M R O a w C A h;cases c<;>simp[D6]at g<;>first|cases g|skip
  rename_i c;simp[PC.wp]at h
  let δ:Act->World->Prop:=λa w=>∀(b:Frame)(k:List Item)(cs:List Frame),∃e a' w',I e a' w'/\Arrives P (lone (b.at a (.code c::.inLoop c::k)) cs w) b k cs e a' w'
  have hX:=h (λe=>∀a w,Mb N p a->CE F0 w0 e a w->δ a w) ?_ a w C (A.fd J)
  .intro b k cs;obtain⟨e,a',w',hq,H⟩:=hX b k cs;exact⟨e,a',w',hq,.of_steps (.one step_loop) H⟩
  .intro e he a w C A;have hb:c.wp P (Exit.then δ I) a w:=by
    refine ih c g ε B _ _ ?_ ?_ ?_ e a w C A (he A.envWF)
    .intro O a w κ C A;exact κ a w C (A.fd J)
    .exact M
    .exact R
   intro b k cs;obtain⟨e,a₁,w₁,hq,H⟩:=hb b (.inLoop c::k) cs;cases e with
   |normal=>
    obtain ⟨e₂,a₂,w₂,hq₂,harr₂⟩:=hq b k cs;exact⟨e₂,a₂,w₂,hq₂,.of_steps (Steps.trans H (.one step_inLoop)) harr₂⟩
   |exit id=>exact⟨_,a₁,w₁,hq,.pass (x:=.inLoop c) rfl (λ_ _=>.inl V) H⟩|goto l=>exact⟨_,a₁,w₁,hq,.pass (x:=.inLoop c) rfl (λ_ _=>.inl V) H⟩|ret=>exact⟨_,a₁,w₁,hq,.pass (x:=.inLoop c) rfl (λ_ _=>.inl V) H⟩|panic ch=>exact⟨_,a₁,w₁,hq,.pass (x:=.inLoop c) rfl (λ_ _=>.inl V) H⟩|outgrown=>exact⟨_,a₁,w₁,hq,.pass (x:=.inLoop c) rfl (λ_ _=>.inl V) H⟩
 |region rs J=>
  intro c g ε B q I L M R O a w C A h;cases c<;>simp only[D6]at g<;>first|cases g|skip
  rename_i id ops draw;simp[R_]at g;obtain⟨rfl,g⟩:=g;exact gL g (λi v θ=>Yq (B i v θ)) C A h λO a w κ C A=>L _ a w κ C (A.fd J)
 |draw ds rs J=>
  intro c g ε B q I L M R O a w C A h;cases c<;>simp only[D6]at g<;>first|cases g|skip
  rename_i id ops draw;simp at g;obtain⟨rfl,g⟩:=g;exact hD F0 w0 p id ds ops rs J O a w q.normal I g (λi v θ=>Yq (B i v θ)) C A h.1 h.2 L
 |bad=>
  intro c g ε B q I L M R O a w C A h;exact h.elim
 |rls s x ih=>
  intro c g ε B q I L M R O a w C A h;have hok':D6 P N D x c=X:=by
   grind [D6]
  simp [PC.wp]at h;split at h
  next cs hs=>obtain⟨G,A⟩:=A;exact ih c hok' (ε.imp id λe=>e) B q I L M R _ a w C (A.rls hs) h
  .exact h.elim
def De:Nat->Fq->AB
 |_,[]=>[]|k,t::ts=>(k,.tv t)::De (k+1) ts
def LN:∀(ts:Fq)(k n:Nat),AB.get (De k ts) n=if k<=n then(match ts[n-k]? with|some t=>.tv t|none=>.undef)else .undef
 |[],k,n=>by simp[De,AB.get]|t::ts,k,n=>by
  rw [De,AB.d7,LN ts (k+1) n]
  grind
variable{ts:Fq}{n:Nat}
def CE.start{w:World}{F0:Nat->Nat->Prop}{vs:Array Value}(h:AR w F0 ts vs.toList)(B:TV.pq ts)(g:VL w):CE F0 (W0.mk w λ_ _=>False) (De 0 ts) {tmps:=vs++O' n undef,defers:=[]} w:=by
 have I:=BX h;simp at I;refine⟨λ_ _=>W,V,V,⟨rfl,rfl,rfl,az _,λ_ _ _=>rfl,λ_ _ _ _ h=>h,λ_ _ _ h=>h.elim,g,λ_ _ h=>h.elim⟩,rfl,λs C=>?_,λs C=>?_,λs=>?_⟩
 .rw[LN]
  grind
 .rw[LN,ac (K? _),N_];cases g:ts[s]? with
  |none=>trivial|some t=>
   have l:s<vs.size:=by
    grind
   have hv:vs.toList[s]?=Y (slot {tmps:=vs++O' n undef,defers:=[]} s):=by
    simp [slot,P!,P?,l]
   refine CY (λb o u E H=>⟨E,?_⟩) _ _ (((Bt _ _).1 h).2 s t _ g hv);rintro(A|⟨_,_,_,A,_⟩)
   .exact H A.2
   .cases A
 .rw[LN,ac (K? _),N_];cases g:ts[s]? with
  |none=>trivial|some t=>exact CC.1 B t (x? g)
def SX(P:Program):ResultVar->RV->Bool
 |.tmp t,.tmp s=>t==s|.cell x t,.cell s W=>x==s&&CO P t==Y T|.cell x t,.cell s (Y n)=>x==s&&CO P t==Y X&&DI P t==Y n|_,_=>T
def HQ(P:Program):List ResultVar->List RV->Bool
 |[],[]=>X|x::xs,y::ys=>SX P x y&&HQ P xs ys|_,_=>T
def HC(tmps:Array Value):ResultVar->Sem Value
 |.tmp t=>pure (tmps.getD t undef)|.cell a t=>do loadVar t (<-asAddr (tmps.getD a undef))
variable{O:AB}{a:Act}{w:World}{G:Bh}
def cj(E:AO F0 w0 O a w G){x:ResultVar}{y:RV}(g:SX P x y=X){t:TV}(h:y.get O=Y t):∃v,(HC a.tmps x).run P w=.ok v w/\A3 w (AW w0.heap.size F0 G) t v/\t.WF:=by
 have l:∀s,AK (.tmp s) (.s s)=X:=λs=>r?
 cases x with
 |tmp s=>
  cases y with
  |tmp s'=>
   simp [SX]at g;subst g;have:=BF E (l s) (t:=t) h;exact⟨slot a s,rfl,this⟩
  |cell s' n=>cases n<;>simp[SX]at g
 |cell s ty=>
  cases y with
  |tmp _=>cases g
  |cell s' n=>
   cases n with
   |none=>
    simp [SX]at g;obtain⟨rfl,J⟩:=g;simp[RV.get]at h;split at h
    next u r H=>simp at h;subst h;obtain⟨b,off,vs,L,C,M,_,R⟩:=Sp E (l s) (y:=.s s) H;simp[AR]at C;obtain⟨v,r',rfl,ζ,h6⟩:=C;have ε:=R 0 v rfl;rw[Addr.add_zero']at ε;have B:a.tmps.getD s undef=.pointer (Y ⟨b,off,W⟩):=L;refine⟨v,?_,ζ,M.1⟩;simp[HC,B,loadVar,C4 J,ε,asAddr]
    .cases h
   |some n=>
    simp [SX]at g;obtain⟨⟨rfl,J⟩,δ⟩:=g;simp[RV.get]at h;split at h
    .rename_i cs H;split at h
     .rename_i I;simp at h;subst h;obtain⟨b,off,vs,L,C,M,θ,R⟩:=Sp E (l s) (y:=.s s) H;have η:=BX C;have A:=run_loadCells_list (P:=P) w ⟨b,off,W⟩ vs R;rw[η,I]at A;have B:a.tmps.getD s undef=.pointer (Y ⟨b,off,W⟩):=L;refine⟨.agg vs.toArray,?_,?_,M⟩
      .simp[HC,B,loadVar,C4 J,CW δ,A,asAddr]
      .simp only[A3];exact⟨_,rfl,C,by rw[F!];exact λx κ=>θ x κ⟩
     .cases h
    .cases h
theorem I7(l:AO F0 w0 O a w G):∀{xs:List ResultVar}{ys:List RV},HQ P xs ys=X->∀{ts:Fq},Ey O ys=Y ts->∃vs,(xs.mapM (HC a.tmps)).run P w=.ok vs w/\AR w (AW w0.heap.size F0 G) ts vs/\TV.pq ts
 |[],[],_,ts,h=>by simp[Ey]at h;subst h;exact⟨[],V,rfl,trivial⟩|[],_::_,g,_,_=>by simp[HQ]at g|_::_,[],g,_,_=>by simp[HQ]at g|x::xs,y::ys,g,ts,h=>by
  simp [HQ]at g;simp[Ey]at h;split at h
  next t us A B=>simp at h;subst h;obtain⟨v,C,E,H⟩:=cj l g.1 A;obtain⟨vs,I,J,L⟩:=I7 l g.2 B;exact⟨v::vs,by simp[K',C,I],⟨v,vs,rfl,E,J⟩,H,L⟩
  .cases h
theorem HH{f:ResultVar->Sem Value}{xs:Array ResultVar}{vs:List Value}{w':World}(h:(xs.toList.mapM f).run P w=.ok vs w'):(xs.mapM f).run P w=.ok vs.toArray w':=by
 rw [<-Array.toArray_toList (xs:=xs),List.mapM_toArray];simp[h]
def AR.toA{F:Nat->Nat->Prop}{vs:List Value}(h:AR w F ts vs):AR w F ts vs.toArray.toList:=b?
def BA.lone:BA->Bool
 |.own _=>X|.Aa5 _ _=>X|_=>T
variable{fn:Func}
def XH(L:AO F0 w0 O a w G){ys:List RV}(l:HQ P fn.results.toList ys=X){r:BA}(η:(∀b o,¬w0.E b o)\/r.lone=T)(M:r.plain=X)(h:Bf ys r O):
  ∃v,(results fn a.tmps).run P w=.ok v w/\((∀b o,¬w0.E b o)->JY w (λb o=>b<w0.heap.size/\F0 b o) w0.heap.size r v)/\(r.lone=T->cp w (λb o=>b<w0.heap.size/\F0 b o) (λb lo=>w0.heap.size<=b\/∀o,lo<=o->w0.E b o) r v)/\r.WF:=by
 have J:∀ts,Ey O ys=Y ts->∃vs:List Value,(fn.results.mapM (HC a.tmps)).run P w=.ok vs.toArray w/\AR w (AW w0.heap.size F0 G) ts vs/\TV.pq ts:=by
  grind [I7,HH]
 have A:(results fn a.tmps)=(fn.results.mapM (HC a.tmps)>>=λvs=>pure (if h:vs.size=1 then vs[0]else .tuple vs)):=by
  unfold results;congr 1
 have κ:Bw w w (AW w0.heap.size F0 G) (λb o=>b<w0.heap.size/\F0 b o):=λb o u hc hF=>⟨hc,λhF'=>hF (.inl hF')⟩;cases r with
 |sh t=>
  have C:∃x,ys=[x]/\x.get O=Y t:=by
   rcases ys with _|⟨x,_|⟨y,ys⟩⟩<;>simp[Bf]at h;exact⟨x,rfl,h⟩
  obtain ⟨x,rfl,hx⟩:=C;obtain⟨vs,e1,ε,e3⟩:=J [t] (by simp[Ey,hx]);simp only[AR]at ε;obtain⟨v,r',rfl,e4,rfl⟩:=ε;refine⟨v,?_,λ_=>CY κ _ _ e4,λ_=>CY κ _ _ e4,e3.1⟩;rw[A];simp[e1]
 |own t=>
  have C:∃s,ys=[.tmp s]/\O.get s=.ow t:=by
   rcases ys with _|⟨x,_|⟨y,ys⟩⟩
   .simp[Bf]at h
   .cases x<;>simp[Bf]at h;exact⟨_,rfl,h⟩
   .simp[Bf]at h
  obtain ⟨s,rfl,R⟩:=C;obtain⟨vs,e1,ε,e3⟩:=J [t] (by simp[Ey,RV.get,R,EV.val]);have hr:SX P (.tmp s) (.tmp s)=X:=by simp[SX]
  have H:=At L R V;have I:=L.wf s;rw[R]at I;simp[AN]at H;have B:fn.results.toList=[.tmp s]:=by
   rcases hx:fn.results.toList with _|⟨x,_|⟨y,xs⟩⟩<;>rw[hx]at l
   .simp[HQ]at l
   .cases x<;>simp[HQ,SX]at l;rw[l]
   .simp[HQ]at l
  have hv:(results fn a.tmps).run P w=.ok (slot a s) w:=by
   rw [A];have hm:(fn.results.mapM (HC a.tmps)).run P w=.ok [slot a s].toArray w:=by
    refine HH ?_;rw[B];simp[K',HC,slot]
   simp [hm]
  replace η:=η.resolve_right (by simp[BA.lone]);refine⟨slot a s,hv,λ_=>⟨G s W,H.kept (λb o u hc hF=>⟨hc,?_⟩) (λ_ _ _=>rfl),λb lo hb=>?_⟩,λe=>by simp[BA.lone]at e,I⟩
  .rintro(C|⟨lo,C,h2⟩)
   .exact hF (.inl C)
   .exact hF (.inr ⟨s,W,lo,C,h2⟩)
  .have:=L.lt _ _ _ _ hb;exact⟨this.2.resolve_right (λe=>η _ _ (e _ (az _))),this.1⟩
 |tp ts=>
  simp [Bf]at h;have hne:ys.length≠1:=by
   grind
  have h2:Ey O ys=Y ts:=by
   grind
  obtain ⟨vs,e1,ε,e3⟩:=J ts h2;have hlen:vs.length≠1:=by
   rw [BX ε];have:∀(ys:List RV)(ts:Fq),Ey O ys=Y ts->ts.length=ys.length:=by
    intro ys
    induction ys with
    |nil=>intro ts h;simp[Ey]at h;subst h;rfl|cons y ys ih=>
     grind [Ey,p0]
   grind
  refine ⟨.tuple vs.toArray,?_,λ_=>⟨vs.toArray,rfl,(A6 κ _ _ ε).toA⟩,λ_=>⟨vs.toArray,rfl,(A6 κ _ _ ε).toA⟩,e3⟩;rw[A];simp[e1,hlen]
 |Aa5 n es=>
  have C:∃s,ys=[.tmp s]/\O.get s=.xo n es:=by
   rcases ys with _|⟨x,_|⟨y,ys⟩⟩
   .simp[Bf]at h
   .cases x<;>simp[Bf]at h;exact⟨_,rfl,h⟩
   .simp[Bf]at h
  obtain ⟨s,rfl,R⟩:=C;have H:=At L R V;have I:=L.wf s;rw[R]at I;simp[AN]at H;obtain⟨xs,⟨z0,k1,k2⟩,k3,k4,k5⟩:=H;have B:fn.results.toList=[.tmp s]:=by
   rcases hx:fn.results.toList with _|⟨x,_|⟨y,xs⟩⟩<;>rw[hx]at l
   .simp[HQ]at l
   .cases x<;>simp[HQ,SX]at l;rw[l]
   .simp[HQ]at l
  have hv:(results fn a.tmps).run P w=.ok (slot a s) w:=by
   rw [A];have hm:(fn.results.mapM (HC a.tmps)).run P w=.ok [slot a s].toArray w:=by
    refine HH ?_;rw[B];simp[K',HC,slot]
   simp [hm]
  replace η:=η.resolve_right (by simp[BA.lone]);refine⟨slot a s,hv,λ_=>⟨z0,xs,k1,A6 (λb o u hc hf=>⟨hc,λhf'=>hf ?_⟩) _ _ k3,k4,k5,λb lo hb=>?_⟩,λe=>by simp[BA.lone]at e,I⟩
  .rcases hf' with h6|⟨lo,h6⟩
   .exact .inl h6
   .exact .inr ⟨s,W,0,by rw[k2,h6];rfl,K? _⟩
  .have:=L.lt s W b 0 (by rw[k2,hb];rfl);exact⟨this.2.resolve_right (λe=>η _ _ (e _ (az _))),this.1⟩
 |turn _ _=>cases M
 |cut zs=>exact h.elim|mpr _ _=>cases M
 |ag _ _ _=>cases M
 |bo _ _ _ _=>cases M
 |ext _=>cases M
 |oag cs=>
  have C:∃s n,ys=[.cell s (Y n)]/\O.get s=.bx cs/\cs.length=n:=by
   rcases ys with _|⟨x,_|⟨y,ys⟩⟩
   .simp[Bf]at h
   .rcases x with s|⟨s,_|n⟩
    .simp[Bf]at h
    .simp[Bf]at h
    .exact⟨s,n,rfl,h⟩
   grind [Bf]
  obtain ⟨s,n,rfl,R,hn⟩:=C;have hbx:=At L R V;have I:=L.wf s;rw[R]at I;simp only[AN]at hbx;obtain⟨b,c,θ,k1,k2,k3,k4,k5⟩:=hbx;have B:∃ty,fn.results.toList=[.cell s ty]/\CO P ty=Y X/\DI P ty=Y n:=by
   rcases hx:fn.results.toList with _|⟨x,_|⟨y,xs⟩⟩<;>rw[hx]at l
   .simp[HQ]at l
   .cases x<;>simp[HQ,SX]at l;obtain⟨⟨rfl,C⟩,h2⟩:=l;exact⟨_,rfl,C,h2⟩
   .simp[HQ]at l
  obtain ⟨ty,B,hag',hcn⟩:=B;have hv:(results fn a.tmps).run P w=.ok (.agg c) w:=by
   rw [A];have δ:=run_loadCells_list (P:=P) w ⟨b,0,W⟩ c.toList (λj v hv=>by
    have:=cell_of_row w b j c θ (0,0) k2;rw[show((⟨b,0,W⟩:Addr).add j)=⟨b,j,W⟩by simp[Addr.add];omega,this];simpa using hv)
   rw [O_,k3,hn]at δ;have h1':a.tmps.getD s undef=.pointer (Y ⟨b,0,W⟩):=k1;have hm:(fn.results.mapM (HC a.tmps)).run P w=.ok [.agg c].toArray w:=by
    refine HH ?_;rw[B];simp[K',HC,h1',loadVar,C4 hag',CW hcn,δ,asAddr]
   simp [hm]
  have hsz:s<a.tmps.size:=Bz L R V
  let Z:D0:=λq i=>if q=0/\i=W then W else CD a G s q i
  have hZ:∀{q i b lo},Z q i=Y (b,lo)->CD a G s q i=Y (b,lo):=by
   intro q i b lo ζ;simp only[Z]at ζ;split at ζ
   .cases ζ
   .exact ζ
  have hrep:∀N:Nat->Nat->Prop,(∀b lo,b<w.heap.size->(w0.heap.size<=b\/∀o,lo<=o->w0.E b o)->N b lo)->dT w (λb o=>b<w0.heap.size/\F0 b o) N cs (.agg c):=by
   intro N hN;refine⟨Z,⟨c,rfl,k3,λi d hd=>?_⟩,λq i q' i' b lo lo' e1 ε=>LH L hsz _ _ _ _ _ _ _ (hZ e1) (hZ ε),by simp[Z],λq i b lo ζ=>?_⟩
   .obtain⟨x,j1,j2⟩:=k5 i d hd;have hz0:Z 0 (Y i)=G s (Y i):=by simp[Z,Dk]
    refine ⟨x,j1,?_,Hz j2⟩;rw[hz0];refine BW.tn (j2.kept (λb o u hc hF=>⟨hc,?_⟩) (λ_ _ _=>rfl) BY.rfl') (λg lo j ζ=>?_)
    .rintro(C|⟨q,j,lo,C,h2⟩)
     .exact hF (.inl C)
     .obtain⟨p,j',f1,_⟩:=Cc (hZ C);exact hF (.inr ⟨p,j',lo,f1,h2⟩)
    .simp only[D0.tn,Z];rw[ae U];exact QU ζ j
   .obtain⟨p,j',f1,_⟩:=Cc (hZ ζ);have:=L.lt _ _ _ _ f1;exact⟨this.1,hN _ _ this.1 this.2⟩
  refine ⟨.agg c,hv,λη=>hrep _ λb lo _ hb=>hb.resolve_right (λe=>η _ _ (e _ (az _))),λ_=>hrep _ λb lo _ hb=>hb,I⟩
variable{f:FuncId}{c:Code}{pl:PC}{rv:List RV}
def eQ(hD:Ma P fn.ntmps D)(hf:P.funcs[f]? =Y fn)(hb:fn.body=Y c)(hname:fn.name≠ "runtime.NumGoroutine")(hok:D6 P fn.ntmps D pl c=X)(hrv:HQ P fn.results.toList rv=X)
  {args:Fq}(hn:args.length<=fn.ntmps){r:BA}(hp:r.plain=X)(h:TV.pq args->pl.wp (AV P) ⟨Bf rv r,λ_ _=>False,Bf rv r⟩ (De 0 args)):AV P f args r:=by
 refine AV.of0 ?_ hp;intro hw;refine⟨o?,λF0 w vs hrep ht=>?_⟩;have hl:=BX hrep;simp at hl;have hcalls:Calls P f vs w λe w'=>(∃v,e=.returned v/\Below w.heap.size w w'/\JY w' (λb o=>b<w.heap.size/\F0 b o) w.heap.size r v)/\r.WF:=by
  refine calls_of_wp hf hb ?_;have fin:∀(O:AB)(a:Act)(w':World),Bf rv r O->Mb fn.ntmps W a->CE F0 (W0.mk w λ_ _=>False) O a w'->a.defers=[]/\∃v,(results fn a.tmps).run P w'=.ok v w'/\((∃v',Ending.returned v=.returned v'/\Below w.heap.size w w'/\JY w' (λb o=>b<w.heap.size/\F0 b o) w.heap.size r v')/\r.WF):=by
   intro O a w' hr hN ⟨G,hI⟩;obtain⟨v,e1,e2,_,e3⟩:=XH (P:=P) hI hrv (.inl λ_ _ h=>h) hp hr;exact⟨hI.defers,v,e1,⟨v,rfl,⟨hI.below.os,hI.below.tape,hI.below.output,hI.below.size,λk hk=>hI.below.block k hk (λ_ h=>h)⟩,e2 λ_ _ h=>h⟩,e3⟩
  refine PN (p:=W) hD pl c hok (.inl λ_ _ h=>h) V _ _ ?_ ?_ ?_ _ _ w ?_ (CE.start hrep hw ht) (h hw)
  .exact λO a w' h1 h2 h3=>fin O a w' h1 h2 h3
  .grind
  .exact λO a w' h1 h2 h3=>fin O a w' h1 h2 h3
  .exact⟨an,V⟩
 refine ⟨?_,hcalls.mono λe w' h=>h.1⟩;obtain⟨_,_,_,h1,_⟩:=hcalls [];exact h1.2
def WK(i m:Nat)(Z:D0):Bh:=λs=>if s=i then Z 0 else if m<=s then(λj=>match j with|some j=>Z (s-m+1) (Y j)|none=>W)else λ_=>W
variable{Z:D0}
def ip{i m:Nat}{p:Nat}{j:Option Nat}{b lo:Nat}(h:WK i m Z p j=Y (b,lo)):(p=i/\Z 0 j=Y (b,lo))\/(p≠i/\m<=p/\Z (p-m+1) j=Y (b,lo)):=by
 simp [WK]at h
 grind
variable{v:Value}
def CE.startZ{w:World}{F0:Nat->Nat->Prop}{vs:Array Value}{e:EV}{i:Nat}(h:AR w (λb o=>F0 b o\/ZF Z b o) ts vs.toList)(δ:TV.pq ts)(M:e.WF)
  (hi:vs[i]?=Y v)(R:KX Z)(θ:∀q i b lo,Z q i=Y (b,lo)->b<w.heap.size)(ε:∀b o o',ZF Z b o->¬F0 b o')(l:ZQ w (ZF Z))
  (hb:∀a:Act,slot a i=v->∀G:Bh,G i=Z 0->tn a G=Z.tn->∀F',Bw w w (λb o=>F0 b o\/ZF Z b o) F'->AN a w F' G ((i,e)::De 0 ts) i e v):
  CE F0 (W0.mk w (ZF Z)) ((i,e)::De 0 ts) {tmps:=vs++O' n undef,defers:=[]} w:=by
 have hl:=BX h;simp at hl;have B:i<vs.size:=(P_.1 hi).1
 let G:Bh:=WK i (vs.size+n) Z
 have J:∀p j b lo,G p j=Y (b,lo)->∃q,Z q j=Y (b,lo)/\((p=i/\q=0)\/(p≠i/\q=p-(vs.size+n)+1/\vs.size+n<=p)):=by
  intro p j b lo hp;rcases ip hp with⟨I,η⟩|⟨I,η,ζ⟩
  .grind
  grind
 have C:Bw w w (λb o=>F0 b o\/ZF Z b o) (AW w.heap.size F0 G):=by
  refine λb o u hc hf=>⟨hc,?_⟩;rintro(⟨_,I⟩|⟨p,j,lo,I,η⟩)
  .exact hf (.inl I)
  .obtain⟨q,ζ,_⟩:=J _ _ _ _ I;exact hf (.inr ⟨q,j,lo,ζ,η⟩)
 have E:∀s(A:s<vs.size),slot {tmps:=vs++O' n undef,defers:=[]} s=vs[s]:=by
  intro s A;simp[slot,P!,P?,A]
 refine ⟨G,λp j p' j' b lo lo' κ e2=>?_,λp j b lo κ=>?_,⟨rfl,rfl,rfl,az _,λ_ _ _=>rfl,λ_ _ _ _ h=>h,ε,l⟩,rfl,λs A=>?_,λs A=>?_,λs=>?_⟩
 .obtain⟨q,L,f2⟩:=J _ _ _ _ κ;obtain⟨q',f3,f4⟩:=J _ _ _ _ e2;have:=R _ _ _ _ _ _ _ L f3;exact⟨U,this.2⟩
 .obtain⟨q,L,_⟩:=J _ _ _ _ κ;exact⟨θ _ _ _ _ L,.inr λo ho=>⟨q,j,lo,L,ho⟩⟩
 .simp at A;rw[AB.d7,ae U,LN,ac (K? _),I' U]
 .rw[AB.d7];by_cases H:i=s
  .subst H;rw[ac rfl,E i B];have hv:vs[i]=v:=by
    grind
   rw [hv];refine hb _ (by rw[E i B,hv]) G (by simp[G,WK]) ?_ _ C;funext g j;simp only[tn,G,WK,Array.size_append,Array.size_replicate,D0.tn];rw[ae U,ac U];show Z (vs.size+n+g-(vs.size+n)+1) (Y j)=Z (g+1) (Y j);rw[M!]
  .rw[ae H,LN,ac (K? _),N_];cases l:ts[s]? with
   |none=>trivial|some t=>
    have hlt:s<vs.size:=by
     grind
    have hv:vs.toList[s]?=Y (slot {tmps:=vs++O' n undef,defers:=[]} s):=by
     grind
    exact CY C _ _ (((Bt _ _).1 h).2 s t _ l hv)
 .rw[AB.d7];split
  .exact M
  .rw[LN,ac (K? _),N_];cases l:ts[s]? with
   |none=>trivial|some t=>exact CC.1 δ t (x? l)
def CE.startB{w:World}{F0:Nat->Nat->Prop}{vs:Array Value}{cs:List AS}{i:Nat}(h:AR w (λb o=>F0 b o\/ZF Z b o) ts vs.toList)(H:TV.pq ts)(g:∀c∈cs,c.t.WF)
  (hi:vs[i]?=Y v)(hb:PB w (λb o=>F0 b o\/ZF Z b o) Z cs v)(l:KX Z)(A:∀q i b lo,Z q i=Y (b,lo)->b<w.heap.size)(B:∀b o J,ZF Z b o->¬F0 b J)(I:ZQ w (ZF Z)):
  CE F0 (W0.mk w (ZF Z)) ((i,.bx cs)::De 0 ts) {tmps:=vs++O' n undef,defers:=[]} w:=by
 refine CE.startZ (e:=.bx cs) h H g hi l A B I λa ha G E hr F' C=>?_;obtain⟨b,c,θ,M,R,ε,κ,η⟩:=hb;simp only[AN];refine⟨b,c,θ,M,R,ε,by rw[E];exact κ,λj d L=>?_⟩;obtain⟨x,ζ,δ⟩:=η j d L;refine⟨x,ζ,?_⟩;rw[E,hr];exact δ.kept C (λ_ _ _=>rfl) BY.rfl'
def CE.startA{w:World}{F0:Nat->Nat->Prop}{vs:Array Value}{cs:List AS}{i:Nat}(h:AR w (λb o=>F0 b o\/ZF Z b o) ts vs.toList)(E:TV.pq ts)(g:∀c∈cs,c.t.WF)
  (hi:vs[i]?=Y v)(hb:X2 w (λb o=>F0 b o\/ZF Z b o) Z cs v)(l:KX Z)(A:∀q i b lo,Z q i=Y (b,lo)->b<w.heap.size)(B:∀b o I,ZF Z b o->¬F0 b I)(H:ZQ w (ZF Z)):
  CE F0 (W0.mk w (ZF Z)) ((i,.oag cs)::De 0 ts) {tmps:=vs++O' n undef,defers:=[]} w:=by
 refine CE.startZ (e:=.oag cs) h E g hi l A B H λa ha G J hr F' C=>?_;obtain⟨xs,M,R,θ⟩:=hb;simp[AN];refine⟨xs,M,R,λj d L=>?_⟩;obtain⟨x,ε,κ,_⟩:=θ j d L;refine⟨x,ε,?_⟩;rw[J,hr];exact κ.kept C (λ_ _ _=>rfl) BY.rfl'
variable{us:Fq}
def nf(hD:Ma P fn.ntmps D)(hf:P.funcs[f]? =Y fn)(hb:fn.body=Y c)(hname:fn.name≠ "runtime.NumGoroutine")(hok:D6 P fn.ntmps D pl c=X)(hrv:HQ P fn.results.toList rv=X)
  {args:Fq}(hn:args.length<=fn.ntmps){cs cs':List AS}{i:Nat}(hcl:pl.t1=X)(hdst:pl.t2 i=X)(h:TV.pq args->(∀c∈cs,c.t.WF)->pl.wp (AV P) ⟨Bf rv (.bo cs cs' i us),λ_ _=>False,Bf rv (.bo cs cs' i us)⟩ ((i,.bx cs)::De 0 args)):AV P f args (.bo cs cs' i us):=by
 intro hw hwc;refine⟨o?,λF0 w vs v Z hrep hvi hbox hzu hzl hfree ht=>?_⟩;have hl:=BX hrep;simp at hl;have hcalls:Calls P f vs w λe w'=>((∀c∈cs',c.t.WF)/\TV.pq us)/\∃r Z',e=.returned r/\Ho Z w w'/\PB w' (λb o=>(b<w.heap.size/\F0 b o)\/ZF Z' b o) Z' cs' v/\
   KX Z'/\(∀q i b lo,Z' q i=Y (b,lo)->b<w'.heap.size/\(w.heap.size<=b\/∃p j lo',Z p j=Y (b,lo')/\lo'<=lo))/\
   RW w' (λb o=>(b<w.heap.size/\F0 b o)\/ZF Z' b o) us r:=by
  refine calls_of_wp hf hb ?_;have fin:∀(O:AB)(a:Act)(w':World),Bf rv (.bo cs cs' i us) O->Mb fn.ntmps (Y (i,v)) a->CE F0 (W0.mk w (ZF Z)) O a w'->a.defers=[]/\∃r,(results fn a.tmps).run P w'=.ok r w'/\(((∀c∈cs',c.t.WF)/\TV.pq us)/\∃r' Z',Ending.returned r=.returned r'/\Ho Z w w'/\PB w' (λb o=>(b<w.heap.size/\F0 b o)\/ZF Z' b o) Z' cs' v/\
    KX Z'/\(∀q i b lo,Z' q i=Y (b,lo)->b<w'.heap.size/\(w.heap.size<=b\/∃p j lo',Z p j=Y (b,lo')/\lo'<=lo))/\
    RW w' (λb o=>(b<w.heap.size/\F0 b o)\/ZF Z' b o) us r'):=by
   rintro O a w' ⟨hs,hr⟩ hN ⟨G,hI⟩;have hag:Bw w' w' (AW w.heap.size F0 G) (λb o=>(b<w.heap.size/\F0 b o)\/ZF (CD a G i) b o):=by
    refine λb o u hc hF=>⟨hc,?_⟩;rintro(h1|⟨q,j,lo,h1,h2⟩)
    .exact hF (.inl h1)
    .obtain⟨p,j',f1,_⟩:=Cc h1;exact hF (.inr ⟨p,j',lo,f1,h2⟩)
   have hisz:i<a.tmps.size:=Bz hI hs V;have hbx:=At hI hs V;have hwb:=hI.wf i;rw[hs]at hwb;rw[hN.pin i v rfl]at hbx;simp only[AN]at hbx;obtain⟨b,c,θ,k1,k2,k3,k4,k5⟩:=hbx;obtain⟨vs',e1,e2,e3⟩:=I7 (P:=P) hI hrv hr;have hm:=HH e1;have hshape:(results fn a.tmps)=(fn.results.mapM (HC a.tmps)>>=λvs=>pure (if h:vs.size=1 then vs[0]else .tuple vs)):=by
    unfold results;congr 1
   have hlen:=BX e2;have hres:∃r,(results fn a.tmps).run P w'=.ok r w'/\RW w' (AW w.heap.size F0 G) us r:=by
    rw [hshape];by_cases h1:vs'.length=1
    .obtain⟨x,rfl⟩:=I?.1 h1;rcases us with _|⟨t,_|⟨t',us⟩⟩
     .simp at hlen
     .simp only[AR]at e2;obtain⟨v',r',hv',e4,rfl⟩:=e2;simp at hv';subst hv';exact⟨x,by simp[hm],e4⟩
     .simp at hlen
    .refine⟨.tuple vs'.toArray,by simp[hm,h1],?_⟩;rcases us with _|⟨t,_|⟨t',us⟩⟩
     .exact⟨_,rfl,e2.toA⟩
     .grind
     .exact⟨_,rfl,e2.toA⟩
   obtain ⟨r,hr1,hr2⟩:=hres;refine⟨hI.defers,r,hr1,⟨hwb,e3⟩,r,CD a G i,rfl,?_,⟨b,c,θ,k1,k2,k3,by rw[Dk];exact k4,λj d hj=>?_⟩,LH hI hisz,λq j b lo f1=>?_,?_⟩
   .exact⟨hI.below.os,hI.below.tape,hI.below.output,hI.below.size,λk hk hz=>hI.below.block k hk (λo⟨q,j,lo,f1,_⟩=>hz q j lo f1),λb o u hz hu=>hI.below.cell b o u hz hu⟩
   .obtain⟨x,f1,f2⟩:=k5 j d hj;refine⟨x,f1,?_⟩;rw[Dk];exact BW.tn (f2.kept hag (λ_ _ _=>rfl) BY.rfl') λg lo j' hz=>QU hz j'
   .obtain⟨p,j',g1,_⟩:=Cc f1;obtain⟨f2,f3⟩:=hI.lt _ _ _ _ g1;refine⟨f2,f3.imp id (λe=>?_)⟩;exact e lo (az _)
   .rcases us with _|⟨t,_|⟨t',us⟩⟩
    .obtain⟨vs2,f1,f2⟩:=hr2;exact⟨vs2,f1,A6 hag _ _ f2⟩
    .exact CY hag _ _ hr2
    .obtain⟨vs2,f1,f2⟩:=hr2;exact⟨vs2,f1,A6 hag _ _ f2⟩
  refine PN (p:=Y (i,v)) hD pl c hok (.inr hcl) (λj u hp=>by cases hp;exact hdst) _ _ ?_ ?_ ?_ _ _ w ?_ (CE.startB hrep hw hwc hvi hbox hzu hzl hfree ht) (h hw hwc)
  .exact λO a w' h1 h2 h3=>fin O a w' h1 h2 h3
  .exact λi O a w' h1 _ _=>h1.elim
  .exact λO a w' h1 h2 h3=>fin O a w' h1 h2 h3
  .have hil:i<vs.size:=(P_.1 hvi).1;refine⟨an,λj u hp=>?_⟩;cases hp;have:=Pi hil;rw[this]at hvi;simp at hvi;simp[slot,P!,P?,hil,hvi]
 refine ⟨?_,hcalls.mono λe w' h=>h.2⟩;obtain⟨_,_,_,h1,_⟩:=hcalls [];exact h1.1
def Wk(cs'' cs':List AS):Prop:=cs''.length=cs'.length/\∀(i:Nat)(d:AS),cs'[i]?=Y d->∃d',cs''[i]?=Y d'/\(d=d'\/d=⟨T,.undef⟩)
theorem Wk.wf{g cs':List AS}(h:Wk g cs')(A:∀c∈g,c.t.WF):∀c∈cs',c.t.WF:=by
 intro c l;obtain⟨i,hi⟩:=D' l;obtain⟨B,C,rfl|rfl⟩:=h.2 i c hi
 .grind
 .exact trivial
variable{ρ:JJ}{z:Option (Nat×Nat)}
def Wk.cell{w:World}{F:Nat->Nat->Prop}{x:Value}{d g:AS}(h:d=g\/d=⟨T,.undef⟩)(l:BW w F ρ z g x):BW w F ρ z d x:=by
 rcases h with rfl|rfl
 .exact l
 .have:x.oneCell'=X:=by
   obtain ⟨o,t⟩:=g;cases o with
   |true=>exact QH l|false=>exact l.2
  exact ⟨by simp[A3];exact this,this⟩
def gQ(rv:List RV)(cs cs':List AS)(i:Nat)(us:Fq)(O:AB):Prop:=∃cs'',Wk cs'' cs'/\Bf rv (.bo cs cs'' i us) O
def lH(hD:Ma P fn.ntmps D)(hf:P.funcs[f]? =Y fn)(hb:fn.body=Y c)(hname:fn.name≠ "runtime.NumGoroutine")(hok:D6 P fn.ntmps D pl c=X)(hrv:HQ P fn.results.toList rv=X)
  {args:Fq}(hn:args.length<=fn.ntmps){cs cs':List AS}{i:Nat}(hcl:pl.t1=X)(hdst:pl.t2 i=X)(h:TV.pq args->(∀c∈cs,c.t.WF)->pl.wp (AV P) ⟨gQ rv cs cs' i us,λ_ _=>False,gQ rv cs cs' i us⟩ ((i,.bx cs)::De 0 args)):AV P f args (.bo cs cs' i us):=by
 intro hw hwc;refine⟨o?,λF0 w vs v Z hrep hvi hbox hzu hzl hfree ht=>?_⟩;have hl:=BX hrep;simp at hl;have hcalls:Calls P f vs w λe w'=>((∀c∈cs',c.t.WF)/\TV.pq us)/\∃r Z',e=.returned r/\Ho Z w w'/\PB w' (λb o=>(b<w.heap.size/\F0 b o)\/ZF Z' b o) Z' cs' v/\
   KX Z'/\(∀q i b lo,Z' q i=Y (b,lo)->b<w'.heap.size/\(w.heap.size<=b\/∃p j lo',Z p j=Y (b,lo')/\lo'<=lo))/\
   RW w' (λb o=>(b<w.heap.size/\F0 b o)\/ZF Z' b o) us r:=by
  refine calls_of_wp hf hb ?_;have fin:∀(O:AB)(a:Act)(w':World),gQ rv cs cs' i us O->Mb fn.ntmps (Y (i,v)) a->CE F0 (W0.mk w (ZF Z)) O a w'->a.defers=[]/\∃r,(results fn a.tmps).run P w'=.ok r w'/\(((∀c∈cs',c.t.WF)/\TV.pq us)/\∃r' Z',Ending.returned r=.returned r'/\Ho Z w w'/\PB w' (λb o=>(b<w.heap.size/\F0 b o)\/ZF Z' b o) Z' cs' v/\
    KX Z'/\(∀q i b lo,Z' q i=Y (b,lo)->b<w'.heap.size/\(w.heap.size<=b\/∃p j lo',Z p j=Y (b,lo')/\lo'<=lo))/\
    RW w' (λb o=>(b<w.heap.size/\F0 b o)\/ZF Z' b o) us r'):=by
   rintro O a w' ⟨cs'',hwk,hs,hr⟩ hN ⟨G,hI⟩;have hag:Bw w' w' (AW w.heap.size F0 G) (λb o=>(b<w.heap.size/\F0 b o)\/ZF (CD a G i) b o):=by
    refine λb o u hc hF=>⟨hc,?_⟩;rintro(h1|⟨q,j,lo,h1,h2⟩)
    .exact hF (.inl h1)
    .obtain⟨p,j',f1,_⟩:=Cc h1;exact hF (.inr ⟨p,j',lo,f1,h2⟩)
   have hisz:i<a.tmps.size:=Bz hI hs V;have hbx:=At hI hs V;have hwb:=hI.wf i;rw[hs]at hwb;rw[hN.pin i v rfl]at hbx;simp only[AN]at hbx;obtain⟨b,c,θ,k1,k2,k3,k4,k5⟩:=hbx;obtain⟨vs',e1,e2,e3⟩:=I7 (P:=P) hI hrv hr;have hm:=HH e1;have hshape:(results fn a.tmps)=(fn.results.mapM (HC a.tmps)>>=λvs=>pure (if h:vs.size=1 then vs[0]else .tuple vs)):=by
    unfold results;congr 1
   have hlen:=BX e2;have hres:∃r,(results fn a.tmps).run P w'=.ok r w'/\RW w' (AW w.heap.size F0 G) us r:=by
    rw [hshape];by_cases h1:vs'.length=1
    .obtain⟨x,rfl⟩:=I?.1 h1;rcases us with _|⟨t,_|⟨t',us⟩⟩
     .simp at hlen
     .simp only[AR]at e2;obtain⟨v',r',hv',e4,rfl⟩:=e2;simp at hv';subst hv';exact⟨x,by simp[hm],e4⟩
     .simp at hlen
    .refine⟨.tuple vs'.toArray,by simp[hm,h1],?_⟩;rcases us with _|⟨t,_|⟨t',us⟩⟩
     .exact⟨_,rfl,e2.toA⟩
     .grind
     .exact⟨_,rfl,e2.toA⟩
   obtain ⟨r,hr1,hr2⟩:=hres;refine⟨hI.defers,r,hr1,⟨hwk.wf hwb,e3⟩,r,CD a G i,rfl,?_,⟨b,c,θ,k1,k2,k3.trans hwk.1,by rw[Dk];exact k4,λj d hj=>?_⟩,LH hI hisz,λq j b lo f1=>?_,?_⟩
   .exact⟨hI.below.os,hI.below.tape,hI.below.output,hI.below.size,λk hk hz=>hI.below.block k hk (λo⟨q,j,lo,f1,_⟩=>hz q j lo f1),λb o u hz hu=>hI.below.cell b o u hz hu⟩
   .obtain⟨d',hd',hdd⟩:=hwk.2 j d hj;obtain⟨x,f1,f2⟩:=k5 j d' hd';refine⟨x,f1,Wk.cell hdd ?_⟩;rw[Dk];exact BW.tn (f2.kept hag (λ_ _ _=>rfl) BY.rfl') λg lo j' hz=>QU hz j'
   .obtain⟨p,j',g1,_⟩:=Cc f1;obtain⟨f2,f3⟩:=hI.lt _ _ _ _ g1;refine⟨f2,f3.imp id (λe=>?_)⟩;exact e lo (az _)
   .rcases us with _|⟨t,_|⟨t',us⟩⟩
    .obtain⟨vs2,f1,f2⟩:=hr2;exact⟨vs2,f1,A6 hag _ _ f2⟩
    .exact CY hag _ _ hr2
    .obtain⟨vs2,f1,f2⟩:=hr2;exact⟨vs2,f1,A6 hag _ _ f2⟩
  refine PN (p:=Y (i,v)) hD pl c hok (.inr hcl) (λj u hp=>by cases hp;exact hdst) _ _ ?_ ?_ ?_ _ _ w ?_ (CE.startB hrep hw hwc hvi hbox hzu hzl hfree ht) (h hw hwc)
  .exact λO a w' h1 h2 h3=>fin O a w' h1 h2 h3
  .exact λi O a w' h1 _ _=>h1.elim
  .exact λO a w' h1 h2 h3=>fin O a w' h1 h2 h3
  .have hil:i<vs.size:=(P_.1 hvi).1;refine⟨an,λj u hp=>?_⟩;cases hp;have:=Pi hil;rw[this]at hvi;simp at hvi;simp[slot,P!,P?,hil,hvi]
 refine ⟨?_,hcalls.mono λe w' h=>h.2⟩;obtain⟨_,_,_,h1,_⟩:=hcalls [];exact h1.1
def nc(hD:Ma P fn.ntmps D)(hf:P.funcs[f]? =Y fn)(hb:fn.body=Y c)(hname:fn.name≠ "runtime.NumGoroutine")(hok:D6 P fn.ntmps D pl c=X)(hrv:HQ P fn.results.toList rv=X)
  {args:Fq}(hn:args.length<=fn.ntmps){cs:List AS}{i:Nat}{r:BA}(hcl:pl.t1=X)(hp:r.plain=X)(hlo:r.lone=T)(h:TV.pq args->(∀c∈cs,c.t.WF)->pl.wp (AV P) ⟨Bf rv r,λ_ _=>False,Bf rv r⟩ ((i,.oag cs)::De 0 args)):AV P f args (.ag cs i r):=by
 intro hw hwc;refine⟨o?,λF0 w vs v Z hrep hvi hbox hzu hzl hfree ht=>?_⟩;have hl:=BX hrep;simp at hl;have hcalls:Calls P f vs w λe w'=>r.WF/\∃v',e=.returned v'/\Ho Z w w'/\cp w' (λb o=>b<w.heap.size/\F0 b o) (λb lo=>w.heap.size<=b\/∃p j lo',Z p j=Y (b,lo')/\lo'<=lo) r v':=by
  refine calls_of_wp hf hb ?_;have fin:∀(O:AB)(a:Act)(w':World),Bf rv r O->Mb fn.ntmps W a->CE F0 (W0.mk w (ZF Z)) O a w'->a.defers=[]/\∃v,(results fn a.tmps).run P w'=.ok v w'/\(r.WF/\∃v',Ending.returned v=.returned v'/\Ho Z w w'/\cp w' (λb o=>b<w.heap.size/\F0 b o) (λb lo=>w.heap.size<=b\/∃p j lo',Z p j=Y (b,lo')/\lo'<=lo) r v'):=by
   intro O a w' hr hN ⟨G,hI⟩;obtain⟨v,e1,_,e2,e3⟩:=XH (P:=P) hI hrv (.inr hlo) hp hr;refine⟨hI.defers,v,e1,e3,v,rfl,⟨hI.below.os,hI.below.tape,hI.below.output,hI.below.size,λk hk hz=>hI.below.block k hk (λo⟨q,j,lo,f1,_⟩=>hz q j lo f1),λb o u hz hu=>hI.below.cell b o u hz hu⟩,?_⟩;have hN:∀b lo,(w.heap.size<=b\/∀o,lo<=o->ZF Z b o)->w.heap.size<=b\/∃p j lo',Z p j=Y (b,lo')/\lo'<=lo:=λb lo h=>h.imp id λe=>e lo (az _);have e4:=e2 hlo;cases r with
   |sh t=>exact e4|tp ts=>exact e4|oag ds=>
    obtain ⟨Z',f1,f2,f3,f4⟩:=e4;exact⟨Z',f1,f2,f3,λq i b lo hz=>⟨(f4 q i b lo hz).1,hN _ _ (f4 q i b lo hz).2⟩⟩
   |_=>first|(exact R' hp)|(exact R' hlo)
  refine PN (p:=W) hD pl c hok (.inr hcl) V _ _ ?_ ?_ ?_ _ _ w ?_ (CE.startA hrep hw hwc hvi hbox hzu hzl hfree ht) (h hw hwc)
  .exact λO a w' h1 h2 h3=>fin O a w' h1 h2 h3
  .exact λi O a w' h1 _ _=>h1.elim
  .exact λO a w' h1 h2 h3=>fin O a w' h1 h2 h3
  .exact⟨an,V⟩
 refine ⟨?_,hcalls.mono λe w' h=>h.2⟩;obtain⟨_,_,_,h1,_⟩:=hcalls [];exact h1.1
variable{kvs:Bj}
def ng(hD:Ma P fn.ntmps D)(hf:P.funcs[f]? =Y fn)(hb:fn.body=Y c)(hname:fn.name≠ "runtime.NumGoroutine")(hok:D6 P fn.ntmps D pl c=X)(hrv:HQ P fn.results.toList rv=X)
  {args:Fq}(hn:args.length<=fn.ntmps)(h:TV.pq args->pl.wp (AV P) ⟨Bf rv (.mpr kvs ts),λ_ _=>False,Bf rv (.mpr kvs ts)⟩ (De 0 args)):AV P f args (.mpr kvs ts):=by
 intro hw;refine⟨o?,λF0 w vs hrep ht=>?_⟩;have hl:=BX hrep;simp at hl;have hcalls:Calls P f vs w λe w'=>(∃v,e=.returned v/\Below w.heap.size w w'/\JY w' (λb o=>b<w.heap.size/\F0 b o) w.heap.size (.mpr kvs ts) v)/\(BA.mpr kvs ts).WF:=by
  refine calls_of_wp hf hb ?_;have fin:∀(O:AB)(a:Act)(w':World),Bf rv (.mpr kvs ts) O->Mb fn.ntmps W a->CE F0 (W0.mk w λ_ _=>False) O a w'->a.defers=[]/\∃v,(results fn a.tmps).run P w'=.ok v w'/\((∃v',Ending.returned v=.returned v'/\Below w.heap.size w w'/\JY w' (λb o=>b<w.heap.size/\F0 b o) w.heap.size (.mpr kvs ts) v')/\(BA.mpr kvs ts).WF):=by
   intro O a w' hr hN ⟨G,hI⟩;rcases rv with _|⟨⟨s⟩|⟨s,_⟩,rs⟩
   .exact hr.elim
   .obtain⟨hne,⟨b,o,h1,h2⟩,h3⟩:=hr;have hg:Ey O (.tmp s::rs)=Y (.AaQ b::ts):=by simp[Ey,RV.get,h1,EV.val,h3]
    obtain ⟨us,e1,e2,e3⟩:=I7 (P:=P) hI hrv hg;have hm:=HH e1;have hshape:(results fn a.tmps)=(fn.results.mapM (HC a.tmps)>>=λvs=>pure (if h:vs.size=1 then vs[0]else .tuple vs)):=by
     unfold results;congr 1
    simp [AR]at e2;obtain⟨v0,us',rfl,e4,e5⟩:=e2;simp[A3]at e4;subst e4;have hor:=At hI h2 V;have how:=hI.wf o;rw[h2]at how;simp[AN]at hor;obtain⟨k1,k2,k3⟩:=hor;have hlt:=hI.lt _ _ _ _ k2;have hus:us'.length≠0:=by
     have h6:=BX e5;have:ts.length=rs.length:=by
      have:∀(ys:List RV)(ts:Fq),Ey O ys=Y ts->ts.length=ys.length:=by
       intro ys
       induction ys with
       |nil=>intro ts h;simp[Ey]at h;subst h;rfl|cons y ys ih=>
        grind [Ey,p0]
      exact this _ _ h3
     grind
    have hag:Bw w' w' (AW w.heap.size F0 G) (λb o=>b<w.heap.size/\F0 b o):=λb o u hc hF=>⟨hc,λhF'=>hF (.inl hF')⟩;refine⟨hI.defers,.tuple (Value.map (Y b)::us').toArray,?_,⟨_,rfl,⟨hI.below.os,hI.below.tape,hI.below.output,hI.below.size,λk hk=>hI.below.block k hk (λ_ h=>h)⟩,b,us',rfl,hlt.2.resolve_right (λe=>e _ (az _)),hlt.1,k3,A6 hag _ _ e5⟩,how,e3.2⟩;rw[hshape];have:¬us'.length=0:=hus;simp[hm,this]
   .exact hr.elim
  refine PN (p:=W) hD pl c hok (.inl λ_ _ h=>h) V _ _ ?_ ?_ ?_ _ _ w ?_ (CE.start hrep hw ht) (h hw)
  .exact λO a w' h1 h2 h3=>fin O a w' h1 h2 h3
  .grind
  .exact λO a w' h1 h2 h3=>fin O a w' h1 h2 h3
  .exact⟨an,V⟩
 refine ⟨?_,hcalls.mono λe w' h=>h.1⟩;obtain⟨_,_,_,h1,_⟩:=hcalls [];exact h1.2
end
end Go.Sf
