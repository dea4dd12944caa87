/- Lists that nobody else reads: stores into them, appends, calls that turn them. -/
import Derived.Test.YtbmgmpeimdomoaaGreatSfApp
import Derived.Lib.AppendZerosOnto
set_option linter.all false
open Option renaming some->Y,none->W
open Bool renaming true->X,false->T
open List renaming flatMap_cons->w!,mem_of_getElem?->w?,eq_nil_of_length_eq_zero->x_,getElem?_set->x!,mem_or_eq_of_mem_set->x?,getElem?_eq_getElem->y_,mem_of_mem_take->y!,mem_of_mem_drop->y?,take_append->z_,take_of_length_le->z!,map_map->z?,singleton_append->A_,map_cons->A',flatMap_append->A!,mem_append->A?,replicate->B_,replicate_succ->B',length_replicate->B!,eq_of_mem_replicate->B?,getElem?_drop->C_,getElem?_eq_some_iff->C',getElem?_of_mem->C!,length_drop->C?,getElem?_append_left->D_,getElem?_take->D',getElem?_toArray->D!,getElem?_append_right->D?,getElem?_take_of_lt->E_,all_eq_true->E',getElem?_map->E!,length_singleton->E?,take_left->F_,mem_filterMap->F!
open Nat renaming lt_or_ge->F?,zero_le->G_,lt_of_lt_of_le->G!,le_trans->G?,mul_le_mul_right->H_,min_eq_left->H',mul_le_mul->H!,add_zero->H?,add_sub_cancel_left->I_,zero_add->I',eq_of_beq_eq_true->I!
open Array renaming length_toList->I?,replicate->J_,getElem?_toList->J'
open Option renaming map_some->J!,map_eq_some_iff->J?,bind_eq_some_iff->K_
namespace Go.Sf
open Go.RowKit (Below)
def Sl:Operand->Bool
 |.const v=>Mw v|_=>T
variable{α:Type}
theorem dl{a:Array α}{x:α}(h:a.toList=[x]):a=#[x]:=by
 cases a;simp_all
section flat
variable{w w':World}{F F':Nat->Nat->Prop}
mutual
theorem RR:∀(t:TV),t.flat=X->∀v,Aq w F t v->Aq w' F' t v
 |.int _ _,_,_,h=>h|.bool _,_,_,h=>h|.str _,_,_,h=>h|.agg cs,hf,v,h=>by
  have:=GE cs (by simpa[TV.flat]using hf)
  grind [Aq]
 |.undef,hf,_,_=>by simp[TV.flat]at hf|.xl _ _,hf,_,_=>by simp[TV.flat]at hf|.nil,hf,_,_=>by simp[TV.flat]at hf|.list _ _,hf,_,_=>by simp[TV.flat]at hf|.pt _,hf,_,_=>by simp[TV.flat]at hf|.clo _ _,hf,_,_=>by simp[TV.flat]at hf
theorem GE:∀(ts:Fq),TV.t1 ts=X->∀vs,AR w F ts vs->AR w' F' ts vs
 |[],_,vs,h=>h|t::ts,hf,vs,h=>by
  simp [TV.t1]at hf;simp[AR]at h|-;obtain⟨v,r,g,j,k⟩:=h;exact⟨v,r,g,RR t hf.1 v j,GE ts hf.2 r k⟩
end
theorem UV:∀(xs ys:Fq),TV.t1 (xs++ys)=(TV.t1 xs&&TV.t1 ys)
 |[],ys=>by simp[TV.t1]|x::xs,ys=>by simp[TV.t1,UV xs ys,Bool.and_assoc]
theorem eK(t:TV)(h:t.flat=X):TV.t1 t.cells=X:=by
 cases t<;>simp_all[TV.flat,TV.cells,TV.t1]
theorem Ki:∀(es:Fq),TV.t1 es=X->TV.t1 (es.flatMap TV.cells)=X
 |[],_=>rfl|e::es,h=>by
  simp [TV.t1]at h;rw[w!,UV,eK e h.1,Ki es h.2];rfl
end flat
section
variable{P:Program}{S:FuncId->Fq->As->Prop}{F0:Nat->Nat->Prop}{w0:W0}{ε:AB}{a:Act}{w:World}{G:BR}{d:Nat}{o:Oper}{K:EV->AB->Prop}
variable{q n:Nat}
theorem AB.xat_of_xo{ε:AB}{es:Fq}(h:ε.get q=.xo n es):ε.o3 q W=Y (n,es):=by simp[AB.o3,h]
variable{x:Operand}{y:AF}
theorem Oz(k:AP F0 w0 ε a w G)(g:AK x y=X){p:(Nat×Option Nat)×Nat×Fq}(h:y.tg ε=Y p):ε.o3 p.1.1 p.1.2=Y (p.2.1,p.2.2)/\XV a w p.1.1 p.1.2 (a.eval x):=by
 cases y with
 |c t=>simp[AF.tg]at h|s m=>
  have l:x=.tmp m:=by
   cases x<;>simp[AK]at g;rw[g]
  subst l;simp only[AF.tg]at h;split at h
  next n es he=>simp only[nm]at h;subst h;exact⟨by simp only[AB.o3,he],rfl⟩
  .rename_i q i he;split at h
   next u j=>simp only[nm]at h;subst h;have:=Ag k he V;simp only[AM]at this;exact⟨j,this ⟨_,j⟩⟩
   .cases h
  .cases h
variable{i:Option Nat}{v:Value}
theorem PZ{es:Fq}(h:AP F0 w0 ε a w G)(g:ε.o3 q i=Y (n,es))(hv:XV a w q i v):
  (TV.list n es).WF/\∃xs,KD w n v es.length xs (G q i)/\AR w (AU w0.heap.size F0 G) (es.flatMap TV.cells) xs/\(∀e∈es,e.cells.length=n)/\∀x∈xs,x.oneCell'=X:=by
 cases i with
 |none=>
  have g:=AB.q0 g;have j:=Ag h g V;have l:=h.wf q;rw[g]at l;simp only[AM]at j;simp only[XV]at hv;rw[hv];exact⟨l,j⟩
 |some k=>
  obtain ⟨cs,u,A⟩:=AB.pc g;have j:=Ag h u V;have l:=h.wf q;rw[u]at l;simp only[AM]at j;obtain⟨b,c,θ,D,E,L,M,H⟩:=j;obtain⟨N,c',O,m,B,C⟩:=hv;rw[D]at m;simp only[Value.pointer.injEq,nm,Addr.mk.injEq,and_true,and_self]at m;subst m;rw[E]at B;cases B;obtain⟨x,I,J⟩:=H k _ A;rw[I]at C;cases C;exact⟨l _ (w? A),J⟩
theorem rE{es:Fq}(h:AP F0 w0 ε a w G)(k:ε.o3 q i=Y (n,es))(hv:XV a w q i v):∀b lo,G q i=Y (b,lo)->lo=0:=by
 intro b lo g;obtain⟨_,xs,⟨l,_,j⟩,_⟩:=PZ h k hv;rw[j]at g;cases l with
 |none=>simp at g|some p=>simp at g;exact g.2.symm
theorem j7{es:Fq}(h:AP F0 w0 ε a w G)(u:ε.o3 q i=Y (n,es))(hv:XV a w q i v)(k:es≠[]):
  ∃g cap j e xs,v=.slice (Y ⟨g,0,W⟩) es.length cap/\w.heap[g]?=Y (.cells j e (0,0))/\es.length<=cap/\cap<=maxLen/\j.size=cap*n/\j.toList.take (es.length*n)=xs/\G q i=Y (g,0)/\AR w (AU w0.heap.size F0 G) (es.flatMap TV.cells) xs/\(∀e∈es,e.cells.length=n)/\(∀x∈xs,x.oneCell'=X)/\xs.length=es.length*n:=by
 obtain ⟨_,xs,⟨O,m,l⟩,A,B,C⟩:=PZ h u hv;rcases m.2 with⟨_,D,_⟩|⟨g,cap,j,e,E,H,I,J,L,M,N⟩
 .exact absurd (x_ D) k
 .exact⟨g,cap,j,e,xs,E,H,I,J,L,M,by rw[l,N];rfl,A,B,C,m.1⟩
theorem AP.rexo(h:AP F0 w0 ε a w G){es:Fq}(L:ε.o3 q i=Y (n,es))(hv:XV a w q i v){w':World}(hb:Q6 (G q i) w w'){es':Fq}{xs':List Value}(M:KD w' n v es'.length xs' (G q i))
  (η:Bf w w' (AU w0.heap.size F0 G) (AU w0.heap.size F0 G)->AR w' (AU w0.heap.size F0 G) (es'.flatMap TV.cells) xs')(hn:∀e∈es',e.cells.length=n)(h1:∀x∈xs',x.oneCell'=X)(hw:(TV.list n es').WF):
  AP F0 w0 (ε.t5 q i n es') a w' G:=by
 obtain ⟨b1,b2,b3,b4,b5⟩:=hb;have hz0:=rE h L hv;have R:Bf w w' (AU w0.heap.size F0 G) (AU w0.heap.size F0 G):=by
  intro b o u hc hF;refine⟨?_,hF⟩;have κ:b<w.heap.size:=by
   grind [F?,World.cell?,Array.getElem?_eq_none]
  rw [World.cell?_of_block (w:=w) (a:=⟨b,o,W⟩) (b5 b κ (λlo B=>hF (.inr ⟨q,i,lo,B,by rw[hz0 b lo B];exact G_ _⟩)))];exact hc
 have I:HQ F0 w0 w':=h.below.but b1 b2 b3 b4 (Z:=λk=>∃lo,G q i=Y (k,lo)) (λb⟨lo,B⟩=>(h.lt _ _ _ _ B).2.imp id (λe o=>e o (by rw[hz0 b lo B];exact G_ _))) (λk hk B=>b5 k (G! hk h.below.size) (λlo e=>B ⟨lo,e⟩));have κ:∀s i b lo,G s i=Y (b,lo)->b<w'.heap.size/\(w0.heap.size<=b\/∀o,lo<=o->w0.E b o):=λs i b lo H=>⟨G! (h.lt s i b lo H).1 b4,(h.lt s i b lo H).2⟩;have hxv:∀r j,(∃m,ε.o3 r j=Y m)->∀v,XV a w r j v->XV a w' r j v:=by
  intro r j δ;cases j with
  |none=>exact λv hv=>hv|some k=>
   refine h.xv δ rfl (λb hb=>b5 b (h.lt _ _ _ _ hb).1 (λlo B=>?_));obtain⟨rfl,rfl⟩:=h.gi _ _ _ _ _ _ _ B hb;have h1:=AB.q0 L
   grind [AB.pc]
 have hqsz:q<a.tmps.size:=by
  cases i with
  |none=>exact h.lts (by rw[AB.q0 L];simp)|some k=>obtain⟨cs,H,_⟩:=AB.pc L;exact h.lts (by rw[H];simp)
 have hrs:BJ w w' (sr a G):=by
  intro g j b lo hr;exact b5 b (h.lt _ _ _ _ hr).1 (λlo' B=>h.AbC hqsz B hr rfl)
 have hnh:∀r j,(∃m,ε.nat r j=Y m)->∀k v,NH a w r j k v->NH a w' r j k v:=by
  intro r j δ k;refine h.nh δ rfl (λl b hl hb=>b5 b (h.lt _ _ _ _ hb).1 (λlo B=>?_));obtain⟨rfl,rfl⟩:=h.gi _ _ _ _ _ _ _ B hb;obtain⟨es1,δ⟩:=δ;obtain⟨cs,C,N⟩:=AB.pN δ;rcases hl with rfl|rfl
  .rw[AB.q0 L]at C;cases C
  grind [AB.pc]
 have oth:∀(p:Nat)(e:EV),p<a.tmps.size->p≠q->(∀j,(∃m,AB.nat ((q,e)::ε) q j=Y m)->∃m,ε.nat q j=Y m)->(∀cs,e=.bx cs->∃cs',ε.get q=.bx cs')->(∀j,(∃m,AB.o3 ((q,e)::ε) q j=Y m)->∃m,ε.o3 q j=Y m)->AM a w' (AU w0.heap.size F0 G) G ((q,e)::ε) p (ε.get p) (slot a p):=by
  intro p e O hpq hnt hbx hxa;refine AM.kept R (λ_=>rfl) (λj b lo B=>b5 b (h.lt _ _ _ _ B).1 (λlo' hz'=>hpq (h.gi _ _ _ _ _ _ _ B hz').1)) rfl hrs (λr j k _⟨m,A⟩=>?_) (λr off _⟨cs,hcs⟩=>?_) (λr j _⟨m,A⟩=>?_) (h.slots p O)
  .have δ:∃m,ε.nat r j=Y m:=by
    by_cases hqr:q=r
    .subst hqr;exact hnt j ⟨m,A⟩
    grind [AB.Aab]
   grind
  .grind[AB.bn]
  .have δ:∃m,ε.o3 r j=Y m:=by
    by_cases hqr:q=r
    .subst hqr;exact hxa j ⟨m,A⟩
    grind [AB.x7]
   grind
 cases i with
 |none=>
  have L:=AB.q0 L;have hsz:=Bi h L V;refine⟨h.gi,κ,I,h.defers,λp O=>?_,λp O=>?_,λp=>?_⟩
  .simp only[AB.t5];rw[AB.bn,QQ U];exact h.dom p O
  .simp only[AB.t5];rw[AB.bn];by_cases D:q=p
   .subst D;rw[Ne rfl];simp only[AM];simp only[XV]at hv;rw[hv]at M;exact⟨xs',M,η R,hn,h1⟩
   .rw[QQ D];refine oth p _ O (λe=>D e.symm) (λj⟨m,A⟩=>by obtain⟨cs,e⟩:=AB.AaC A;cases e) V (λj⟨m,A⟩=>?_);cases j with
    |none=>exact⟨(n,es),by simp only[AB.o3,L]⟩|some k=>
     obtain ⟨n1,es1⟩:=m;obtain⟨cs,C,_⟩:=AB.pc A;rw[AB.bn,Ne rfl]at C;cases C
  .simp only[AB.t5];rw[AB.bn];split
   .exact hw
   .exact h.wf p
 |some k=>
  obtain ⟨cs,H,hk⟩:=AB.pc L;have hsz:=Bi h H V;have hwc:=h.wf q;rw[H]at hwc;have hr:=Ag h H V;simp only[AM]at hr;obtain⟨b,c,θ,e1,e2,e3,e4,e5⟩:=hr;obtain⟨b',c',T',f1,f2,f3⟩:=hv;rw[e1]at f1;simp only[Value.pointer.injEq,nm,Addr.mk.injEq,and_true,and_self]at f1;subst f1;rw[e2]at f2;cases f2;have hbb:w'.heap[b]?=w.heap[b]?:=b5 b (h.lt _ _ _ _ e4).1 (λlo B=>by
   have:=(h.gi _ _ _ _ _ _ _ B e4).2;cases this)
  refine ⟨h.gi,κ,I,h.defers,λp O=>?_,λp O=>?_,λp=>?_⟩
  .simp only[AB.t5,H];rw[AB.bn,QQ U];exact h.dom p O
  .simp only[AB.t5,H];rw[AB.bn];by_cases D:q=p
   .subst D;rw[Ne rfl];simp only[AM];refine⟨b,c,θ,e1,by rw[hbb];exact e2,by simpa using e3,e4,λj d ζ=>?_⟩;rw[x!]at ζ;by_cases J:k=j
    .subst J;rw[Ne rfl]at ζ;split at ζ
     .simp only[nm]at ζ;subst ζ;exact⟨v,f3,xs',M,η R,hn,h1⟩
     .cases ζ
    .rw[QQ J]at ζ;obtain⟨x,g1,g2⟩:=e5 j d ζ;exact⟨x,g1,g2.kept R (λb lo B=>b5 b (h.lt _ _ _ _ B).1 (λlo' hz'=>J (by
      have:=(h.gi _ _ _ _ _ _ _ hz' B).2;simpa using this))) hrs⟩
   .rw[QQ D];refine oth p _ O (λe=>D e.symm) (λj⟨m,A⟩=>?_) (λ_ _=>⟨cs,H⟩) (λj⟨m,A⟩=>?_)
    .obtain⟨cs',C,N⟩:=AB.pN A;rw[AB.bn,Ne rfl]at C;simp only[EV.bx.injEq]at C;subst C;rw[x!]at N;split at N
     .split at N<;>simp at N
     .exact⟨m,by simp only[AB.nat,H,N]⟩
    obtain ⟨n1,es1⟩:=m;cases j with
    |none=>have C:=AB.q0 A;rw[AB.bn,Ne rfl]at C;cases C
    |some j=>
     obtain ⟨cs',C,N⟩:=AB.pc A;rw[AB.bn,Ne rfl]at C;simp only[EV.bx.injEq]at C;subst C;rw[x!]at N;by_cases J:k=j
     .subst J;exact⟨(n,es),L⟩
     .rw[QQ J]at N;exact⟨(n1,es1),by simp only[AB.o3,H,N]⟩
  .simp only[AB.t5,H];rw[AB.bn];split
   .intro y hy;rcases x? hy with hy|rfl
    .exact hwc y hy
    .exact hw
   .exact h.wf p
theorem AP.xgo(h:AP F0 w0 ε a w G){es:Fq}(hq:ε.get q=.xo n es)(hd:d<a.tmps.size)(hdq:d≠q){w':World}{e:EV}{z':Option (Nat×Nat)}
  (b1:w'.os=w.os)(b2:w'.tape=w.tape)(b3:w'.output=w.output)(b4:w.heap.size<=w'.heap.size)(ζ:∀k,k<w.heap.size->(∀lo,G q W≠Y (k,lo))->w'.heap[k]?=w.heap[k]?)
  (m:∀b lo,z'=Y (b,lo)->b<w'.heap.size/\(w.heap.size<=b\/∃l,G q W=Y (b,l)))
  (δ:∀cs,e≠.bx cs)(hno:(∃n es,e=.xo n es)->ε.ek d=X)
  (hrep:∀(F':Nat->Nat->Prop)(I:BR)(env':AB)(a':Act),Bf w w' (AU w0.heap.size F0 G) F'->I d W=z'->(∀b o,F' b o->b<w.heap.size\/∃lo,z'=Y (b,lo))->AM a' w' F' I env' d e v)(hw:e.WF):
  Bt F0 w0 ((d,e)::(q,.undef)::ε) (a.put (Y d) v) w':=by
 let I:BR:=Je (Je G q (λ_=>W)) d (λi=>if i=W then z' else W)
 have θ:=rE h (AB.xat_of_xo hq) (v:=slot a q) rfl;have H:∀p i b lo,I p i=Y (b,lo)->(p=d/\i=W/\z'=Y (b,lo))\/(p≠d/\p≠q/\G p i=Y (b,lo)):=by
  intro p i b lo R;by_cases C:p=d
  .grind[B1]
  .simp[I,BE _ _ _ _ C]at R;by_cases hpq:p=q
   .grind[B1]
   .rw[BE _ _ _ _ hpq]at R
    grind
 have hag:Bf w w' (AU w0.heap.size F0 G) (AU w0.heap.size F0 I):=by
  intro b o u hc hF;have hlt:b<w.heap.size:=World.block_lt_of_cell? w ⟨b,o,W⟩ hc;have hnz:∀lo,G q W≠Y (b,lo):=λlo D=>hF (.inr ⟨q,W,lo,D,by rw[θ b lo D];exact G_ _⟩);refine⟨?_,?_⟩
  .grind[World.cell?_of_block]
  .rintro(M|⟨p,i,lo,M,O⟩)
   .exact hF (.inl M)
   .rcases H _ _ _ _ M with⟨_,_,L⟩|⟨_,_,L⟩
    .grind
    .exact hF (.inr ⟨p,i,lo,L,O⟩)
 refine ⟨I,?_,?_,h.below.but b1 b2 b3 b4 (Z:=λk=>∃lo,G q W=Y (k,lo)) (λb⟨lo,D⟩=>(h.lt _ _ _ _ D).2.imp id (λe o=>e o (by rw[θ b lo D];exact G_ _))) (λk hk D=>ζ k (G! hk h.below.size) (λlo e=>D ⟨lo,e⟩)),i!,?_,?_,?_⟩
 .intro p i p' i' b lo l L e2;have other:∀p i lo l,z'=Y (b,lo)->p≠q->G p i=Y (b,l)->False:=by
   intro p i lo l E η f3;rcases(m _ _ E).2 with κ|⟨lo'',κ⟩
   .have:=(h.lt _ _ _ _ f3).1;omega
   .exact η (h.gi _ _ _ _ _ _ _ f3 κ).1
  rcases H _ _ _ _ L with⟨rfl,rfl,E⟩|⟨n1,n2,E⟩<;>rcases H _ _ _ _ e2 with⟨rfl,rfl,η⟩|⟨m1,m2,η⟩
  .exact⟨rfl,rfl⟩
  .exact(other _ _ _ _ E m2 η).elim
  .exact(other _ _ _ _ η n2 E).elim
  .exact h.gi _ _ _ _ _ _ _ E η
 .intro p i b lo L;rcases H _ _ _ _ L with⟨_,_,E⟩|⟨_,_,E⟩
  .refine⟨(m _ _ E).1,?_⟩;rcases(m _ _ E).2 with κ|⟨l,κ⟩
   .exact .inl (G? h.below.size κ)
   .exact(h.lt _ _ _ _ κ).2.imp id (λe o _=>e o (by rw[θ _ _ κ];exact G_ _))
  .exact⟨G! (h.lt _ _ _ _ E).1 b4,(h.lt _ _ _ _ E).2⟩
 .intro p R;rw[Bj]at R;have:=Bi h hq V;rw[AB.bn,QQ U,AB.bn,QQ U];exact h.dom p R
 .intro p R;rw[Bj]at R;rw[AB.bn];by_cases C:d=p
  .subst C;rw[Ne rfl,Cx _ _ _ hd];refine hrep _ _ _ _ hag (by simp[I,B1]) λb o hf=>?_;rcases hf with M|⟨p,i,lo,M,_⟩
   .exact .inl (G! M.1 h.below.size)
   .rcases H _ _ _ _ M with⟨_,_,L⟩|⟨_,_,L⟩
    .exact .inr ⟨lo,L⟩
    .exact .inl (h.lt _ _ _ _ L).1
  .rw[QQ C,AY _ _ _ _ C,AB.bn];split
   .trivial
   .rename_i hqp;refine AM.kept hag (λi=>by simp[I];rw[BE _ _ _ _ (λe=>C e.symm),BE _ _ _ _ (λe=>hqp e.symm)]) (λi b lo D=>ζ b (h.lt _ _ _ _ D).1 (λl m=>hqp (h.gi _ _ _ _ _ _ _ m D).1)) (Lz (Bj _ _ _) λr J=>by
     have:=Bi h hq V;simp[I];rw[BE _ _ _ _ U,BE _ _ _ _ U]) (λg j b lo J=>by
     exact ζ b (h.lt _ _ _ _ J).1 (λl D=>h.AbC (Bi h hq V) D J rfl)) (λr i k J⟨pp,N⟩=>?_) (λr off _⟨cs,A⟩=>?_) (λr i J⟨pp,N⟩=>?_) (h.slots p R)
    .have M:=AB.tn δ N;have O:=AB.tn V M.2;exact⟨⟨pp,O.2⟩,h.nh ⟨pp,O.2⟩ (AY _ _ _ _ M.1) (λ_ b _ hb=>ζ b (h.lt _ _ _ _ hb).1 (λl m=>O.1 (h.gi _ _ _ _ _ _ _ m hb).1))⟩
    .rw[AB.bn]at A;by_cases B:d=r
     .rw[Ne B]at A;exact absurd A (δ cs)
     .rw[QQ B,AB.bn]at A;split at A
      .cases A
      .exact⟨⟨cs,A⟩,AY _ _ _ _ B⟩
    .by_cases B:d=r
     .subst B;have hno':ε.ek d=X:=by
       grind [AB.AaS]
      have hx:=AB.AaQ d ε hno' p;rcases J with J|⟨c,J⟩
      .exact absurd J (hx.1 i)
      .exact absurd J (hx.2 i c)
     .rw[AB.x7 B]at N;have O:=AB.o4 V V N;exact⟨⟨pp,O.2⟩,h.xv ⟨pp,O.2⟩ (AY _ _ _ _ B) (λb hb=>ζ b (h.lt _ _ _ _ hb).1 (λl m=>O.1 (h.gi _ _ _ _ _ _ _ m hb).1))⟩
 .intro p;rw[AB.bn];split
  .exact hw
  .rw[AB.bn];split
   .trivial
   .exact h.wf p
variable{s:Nat}
theorem dg(j:AP F0 w0 ε a w G)(hd:d<a.tmps.size)(g:o.op=.move (.tmp s)\/o.op=.assign (.tmp s))(h:(AE.xal s).wp S ε (Y d) K):A1 P F0 w0 a w o d K:=by
 simp only[AE.wp]at h;split at h
 .rename_i n es l;refine⟨slot a s,w,by rcases g with g|g<;>simp[execOp,g,show a.eval (.tmp s)=slot a s from rfl],_,_,h,_,j.quiet (Below.refl _ _) d hd (.la s W) _ (λ_=>W) V V V ?_ trivial⟩;simp only[AM];rintro⟨p,k⟩;have m:=AB.o4 V V k
  grind [XV,AY]
 .exact h.elim
variable{t e:TypeId}
theorem mu(j:AP F0 w0 ε a w G)(hd:d<a.tmps.size)(k:o.op=.call {callee:=.builtin .len,args:=#[x],argTypes:=#[t]})(l:AK x y=X)
  (he:P.underlying t=Y (.slice e))(h:(AE.Abu y).wp S ε (Y d) K):A1 P F0 w0 a w o d K:=by
 simp only[AE.wp]at h;cases m:y.tg ε with
 |none=>rw[m]at h;exact h.elim|some p=>
  rw [m]at h;simp only[Ai]at h;obtain⟨B,C⟩:=Oz j l m;obtain⟨D,E⟩:=PZ j B C;simp only[TV.WF,KK]at D;obtain⟨xs,⟨I,H,_⟩,_⟩:=E;have hv:∃u cap,a.eval x=.slice u p.2.2.length cap:=by
   rcases H.2 with⟨A,J,_⟩|⟨g,cap,_,_,A,_⟩
   .grind
   .exact⟨_,_,A⟩
  obtain ⟨u,cap,hv⟩:=hv;refine Cp j hd (v:=.int .i64 p.2.2.length) (t:=.int .i64 p.2.2.length) ?_ rfl ⟨l_,s_⟩ h;simp[execOp,k,resolve,invoke,builtin,Builtin.len_,run_underlying he,hv,goInt]
theorem dh(l:AP F0 w0 ε a w G)(hd:d<a.tmps.size){x i:Operand}{y j:AF}(E:o.op=.indexAddr t x i)(H:AK x y=X)(u:AK i j=X)(C:I3 P t=Y n)(h:(AE.xia y j n).wp S ε (Y d) K):A1 P F0 w0 a w o d K:=by
 simp only[AE.wp]at h;cases I:y.tg ε with
 |none=>rw[I]at h;exact h.elim|some p=>
  obtain ⟨⟨q,κ⟩,m,es⟩:=p;rw[I]at h;simp only[Ai]at h;split at h
  .rename_i k D R;obtain⟨⟨_,rfl⟩,η,M,ζ⟩:=h;obtain⟨δ,N⟩:=Oz l H I;have A:=Ay l u R;simp only[Aq]at A;obtain⟨g,cap,cur,e,xs,O,_⟩:=j7 l δ N (by rintro rfl;simp at M;omega);unfold I3 at C;split at C
   .rename_i el θ;have J:0<=D/\D<(es.length:Int):=⟨η,M⟩;refine⟨.pointer (Y ⟨g,D.toNat*m,W⟩),w,?_,_,_,ζ,_,l.quiet (Below.refl _ _) d hd (.lp q κ (D.toNat*m)) _ (λ_=>W) V V V ?_ trivial⟩
    .simp[execOp,E,O,A.1,Instr.indexAt,asIntOf,run_underlying θ,J,CG C,Addr.add_lit]
    .simp only[AM];rintro⟨pp,L⟩;have B:=AB.o4 V V L;exact⟨g,_,_,l.xv ⟨_,B.2⟩ (AY _ _ _ _ B.1) (λ_ _=>rfl) _ (by rw[<-O];exact N),rfl⟩
   .cases C
  .exact h.elim
theorem iy(k:AP F0 w0 ε a w G)(h:AK x y=X){q c:Nat}{p:Nat×Fq}(j:y.ev ε=.lp q i c)(l:ε.o3 q i=Y p):∃g len cap,XV a w q i (.slice (Y ⟨g,0,W⟩) len cap)/\a.eval x=.pointer (Y ⟨g,c,W⟩):=by
 cases y with
 |c t=>simp[AF.ev]at j|s m=>
  have u:x=.tmp m:=by
   cases x<;>simp[AK]at h;rw[h]
  subst u;simp only[AF.ev]at j;have:=Ag k j V;simp only[AM]at this;exact this ⟨p,l⟩
theorem qB(l:AP F0 w0 ε a w G)(hd:d<a.tmps.size){f k:Nat}(m:o.op=.fieldAddr t x f)(u:AK x y=X)(B:P1 P t f=Y k)(h:(AE.xfa y k).wp S ε (Y d) K):A1 P F0 w0 a w o d K:=by
 simp only[AE.wp]at h;split at h
 .rename_i q i c C;split at h
  next I D=>obtain⟨g,len,cap,E,H⟩:=iy l u C D;refine⟨.pointer (Y ⟨g,c+k,W⟩),w,by simp[execOp,m,H,U1 B],_,_,h,_,l.quiet (Below.refl _ _) d hd (.lp q i (c+k)) _ (λ_=>W) V V V ?_ trivial⟩;simp only[AM];rintro⟨J,A⟩;have j:=AB.o4 V V A;exact⟨g,_,_,l.xv ⟨_,j.2⟩ (AY _ _ _ _ j.1) (λ_ _=>rfl) _ E,rfl⟩
  .exact h.elim
 .exact h.elim
variable{dst:Option Nat}
theorem tT{S:FuncId->Fq->As->Prop}{ε:AB}{K:EV->AB->Prop}{x i:AF}(h:(AE.xin x i n).wp S ε dst K):(AE.xia x i n).wp S ε dst K:=by
 simp only[AE.wp]at h|-;split at h
 .rename_i q A j g l;split at h
  .rename_i m es u;have:x.tg ε=Y ((q,W),m,es):=by
    cases x with
    |c t=>simp[AF.ev]at g|s k=>simp only[AF.ev]at g;simp only[AF.tg,g,AB.o3,u]
   simp only[this,Ai,l,g];exact⟨⟨rfl,h.1⟩,h.2⟩
  .exact h.elim
 .exact h.elim
theorem tU{S:FuncId->Fq->As->Prop}{ε:AB}{K:EV->AB->Prop}{x:AF}(h:(AE.xln x).wp S ε dst K):(AE.xld x).wp S ε dst K:=by
 simp only[AE.wp]at h|-;split at h
 .rename_i q c g;split at h
  next m es j=>simp only[g,AB.o3,j];exact h
  .exact h.elim
 .exact h.elim
theorem di(l:AP F0 w0 ε a w G)(hd:d<a.tmps.size)(m:o.op=.load t x)(u:AK x y=X)(J:B9 P t=Y T)(h:(AE.xld y).wp S ε (Y d) K):A1 P F0 w0 a w o d K:=by
 simp [AE.wp]at h;split at h
 .rename_i q i c L;split at h
  .rename_i M A;obtain⟨n,es⟩:=M;simp only at h;cases k:(es.flatMap TV.cells)[c]? with
   |none=>rw[k]at h;exact h.elim|some t'=>
    rw [k]at h;simp[Ai]at h;have B:es≠[]:=by rintro rfl;simp at k
    obtain ⟨g,len,cap,D,θ⟩:=iy l u L A;obtain⟨g',E,C,e,xs,H,κ,f3,f4,f5,f6,f7,I,f9,η,ζ⟩:=j7 l A D B;simp at H;obtain⟨rfl,rfl,rfl⟩:=H;have N:c<(es.flatMap TV.cells).length:=by
     grind
    have O:=BL I;obtain⟨y,δ⟩:∃y,xs[c]?=Y y:=⟨_,y_ U⟩;have j:w.cell? ⟨g,c,W⟩=Y y:=by
     rw [cell_of_row w g c C e (0,0) κ]
     grind
    have R:=(PZ l A D).1;refine Cp l hd (v:=y) ?_ (((Bh _ _).1 I).2 c t' _ k δ) ?_ h
    .simp[execOp,m,θ,Instr.loadAt,Instr.sureAddr,loadVar,Cs J,j]
    .have:=R.2;rw[Bp]at this;have hm:=w? k
     grind [Bp,IV]
  .exact h.elim
 .exact h.elim
theorem eu{t:TV}(h:TV.ns t.cells):t.WF:=by
 cases t<;>simp[TV.cells,TV.ns]at h<;>first|exact h|(simp[TV.WF];exact h)
theorem du{es:Fq}(h:TV.ns es):TV.ns (es.flatMap TV.cells):=by grind[Bp,IV]
theorem VV:∀{es:Fq},TV.ns (es.flatMap TV.cells)->TV.ns es
 |[],_=>trivial|e::es,h=>by
  rw [w!]at h;rw[Kf]at h;exact⟨eu h.1,VV h.2⟩
variable{ts:Fq}
theorem eY{w:World}{F:Nat->Nat->Prop}{xs:List Value}(h:AR w F ts xs)(c:Nat):AR w F (ts.take c) (xs.take c):=by
 rw [Bh]at h|-
 grind
theorem eX{w:World}{F:Nat->Nat->Prop}{xs:List Value}(h:AR w F ts xs)(c:Nat):AR w F (ts.drop c) (xs.drop c):=by
 rw [Bh]at h|-
 grind
theorem qC(C:AP F0 w0 ε a w G){x v:Operand}{x' η:AF}{m:Nat}(H:o.op=.store t x v)(ζ:AK x x'=X)(hv:AK v η=X)(hn:C7 P t=Y m)(h:(AE.xst x' η m).wp S ε W K):IB P F0 w0 a w o K:=by
 simp [AE.wp]at h;split at h
 .rename_i q i c hy;split at h
  .rename_i n es u E hu;obtain⟨⟨h1,h0⟩,δ,es',h3,B,h5,hK⟩:=h;obtain⟨g,len,cap,R,e2⟩:=iy C ζ hy E;have D:=(PZ C E R).1;have I:=Ay C hv (t:=u) (by simp[AF.val,hu,EV.val]);have h6:TV.ns es':=by
    have h7:=du D.2
    grind [TV.ns,TV.cells,Bp,y!,IV,y?,VV]
   have J:es≠[]:=by rintro rfl;simp at δ;omega
   obtain ⟨g',cap',j,e,xs,f1,f2,f3,f4,f5,f6,f7,f8,f9,f10,θ⟩:=j7 C E R J;simp at f1;obtain⟨rfl,rfl,rfl⟩:=f1;obtain⟨k2,k3⟩:=G4 I.1;obtain⟨ys,κ⟩:∃ys,(a.eval v).cells.toList=ys:=⟨_,rfl⟩;rw[κ]at k2 k3;have A:ys.length=m:=by rw[BL k2,h1]
   have hcc:c+m<=j.size:=by rw[f5];exact G? δ (H_ _ f3)
   have l:=run_storeCells_at P g c e ys 0 j w f2 U k3;simp at l;have L:(a.eval v).cells.size=m:=by rw[<-I?,κ,A]
   have M:(execOp a.eval o).run P w=.ok .skip (w.setRow g (j.toList.take c++ys++j.toList.drop (c+m)).toArray):=by
    rw [A]at l;simp[execOp,H,e2,Instr.storeAt,Instr.sureAddr,storeVar,CG hn,L,κ,l]
   refine ⟨_,M,_,hK,G,?_⟩;have N:xs.length=es.length*n:=θ;refine C.rexo E R (w':=w.setRow g (j.toList.take c++ys++j.toList.drop (c+m)).toArray) (xs':=xs.take c++ys++xs.drop (c+m)) ⟨rfl,rfl,rfl,V,λk _ hk=>setRow_other w g k _ (λe=>hk 0 (by rw[e];exact f7))⟩ ⟨Y (g,es.length*n),⟨by simp[A,N,B];omega,.inr ⟨g,cap,_,e,by rw[B],setRow_heap w g j _ e _ f2,by rw[B];exact f3,f4,?_,?_,by rw[B]⟩⟩,by rw[f7];rfl⟩ (λhag=>?_) h5 (λx ζ=>?_) ⟨by rw[B];exact D.1,h6⟩
   .grind
   .rw[B,<-f6];have O:c<=j.toList.length:=by rw[I?];omega
    have hA:(j.toList.take c++ys).length=c+m:=by rw[aE,aN,A,H' O]
    show (j.toList.take c++ys++j.toList.drop (c+m)).take (es.length*n)=_
    grind [z_,z!,H',List.drop_take]
   .grind[Ar,Ik,eY,eX]
   grind
  .exact h.elim
 .exact h.elim
theorem Tm(l:AP F0 w0 ε a w G)(hd:d<a.tmps.size)(g:o.op=.move (.tmp s)\/o.op=.assign (.tmp s))(h:(AE.rel s).wp S ε (Y d) K):A1 P F0 w0 a w o d K:=by
 simp [AE.wp]at h;split at h
 .rename_i L n es k m;simp at k;subst k;obtain⟨u,E⟩:=h;have A:=Ag l m V;have B:=l.wf s;rw[m]at B;simp[AM]at A;obtain⟨xs,⟨H,M,j⟩,N,O,R⟩:=A;refine⟨slot a s,w,by rcases g with g|g<;>simp[execOp,g,show a.eval (.tmp s)=slot a s from rfl],_,_,E,l.xgo m hd u (z':=H) rfl rfl rfl (R0 _) (λ_ _ _=>rfl) (λb lo C=>?_) V V (λF' I env' a' D J _=>?_) B⟩
  .rw[C]at j;exact⟨(l.lt _ _ _ _ j).1,.inr ⟨_,j⟩⟩
  grind [AM,Bq,Ar]
 .exact h.elim
theorem df(k:AP F0 w0 ε a w G)(hd:d<a.tmps.size)(g:o.op=.move (.tmp s)\/o.op=.assign (.tmp s))(h:(AE.tkx s).wp S ε (Y d) K):A1 P F0 w0 a w o d K:=by
 simp [AE.wp]at h;split at h
 .rename_i J n es j l;simp at j;subst j;obtain⟨m,u,E⟩:=h;have B:=Ag k l V;have C:=k.wf s;rw[l]at C;simp[AM]at B;obtain⟨xs,L,M,N,O⟩:=B;refine⟨slot a s,w,by rcases g with g|g<;>simp[execOp,g,show a.eval (.tmp s)=slot a s from rfl],_,_,E,k.xgo l hd u (z':=G s W) rfl rfl rfl (R0 _) (λ_ _ _=>rfl) (λb lo A=>⟨(k.lt _ _ _ _ A).1,.inr ⟨_,A⟩⟩) V (λ_=>m) (λF' H env' a' D I _=>?_) C⟩
  grind [AM,Ar]
 .exact h.elim
variable{z:Option (Nat×Nat)}
theorem AP.AbX(h:AP F0 w0 ε a w G){w':World}(A:Below w.heap.size w w')(hd:d<a.tmps.size)(u:ε.ek d=X){es:Fq}{xs:List Value}(j:GU w' n v es.length xs z)
  (B:∀b lo,z=Y (b,lo)->w.heap.size<=b/\b<w'.heap.size)
  (k:∀F',(∀b o,F' b o->(b<w.heap.size/\AU w0.heap.size F0 G b o)\/∃lo,z=Y (b,lo))->AR w' F' (es.flatMap TV.cells) xs)(C:∀e∈es,e.cells.length=n)(D:∀x∈xs,x.oneCell'=X)(E:(TV.list n es).WF):
  Bt F0 w0 ((d,.xo n es)::ε) (a.put (Y d) v) w':=by
 refine ⟨_,h.quiet A d hd (.xo n es) v (λi=>if i=W then z.map (λp=>(p.1,0))else W) (λi b lo hi=>?_) (λi I b lo H g m=>?_) (λ_=>u) ?_ E⟩
 .split at hi
  .cases z with
   |none=>simp at hi|some p=>
    simp at hi;exact hi.1▸B p.1 p.2 rfl
  .cases hi
 .split at g
  .split at m
   .simp_all
   .cases m
  .cases g
 .simp[AM];refine⟨xs,⟨z,j,by rw[B1];simp⟩,k _ (λb o hf=>?_),C,D⟩;rcases hf with hf|⟨p,i,lo,g,m⟩
  .exact .inl ⟨G! hf.1 h.below.size,.inl hf⟩
  .by_cases l:p=d
   .subst l;rw[B1]at g;split at g
    .cases z with
     |none=>simp at g|some q=>
      simp at g;exact .inr ⟨q.2,by rw[<-g.1]⟩
    .cases g
   .rw[BE _ _ _ _ l]at g;exact .inl ⟨(h.lt _ _ _ _ g).1,.inr ⟨p,i,lo,g,m⟩⟩
theorem aB(k:AP F0 w0 ε a w G)(hd:d<a.tmps.size)(g:o.op=.move x\/o.op=.assign x)(l:∃v,x=.const v/\Mw v=X)(h:(AE.Abd n).wp S ε (Y d) K):A1 P F0 w0 a w o d K:=by
 simp [AE.wp]at h;obtain⟨j,m⟩:=h;obtain⟨v,rfl,hv⟩:=l;have hv:=KB hv;subst hv;refine⟨.slice W 0 0,w,by rcases g with g|g<;>simp[execOp,g,Act.eval],_,_,m,k.AbX (Below.refl _ _) hd j (z:=W) (xs:=[]) ⟨V,.inl ⟨rfl,rfl,rfl⟩⟩ V (λ_ _=>rfl) V V ⟨V,trivial⟩⟩
variable{f:FuncId}{ys:List AF}{ats:Array TypeId}{Q:Exit->Act->World->Prop}
theorem jw(D:AP F0 w0 ε a w G)(hd:d<a.tmps.size)(l:o.dst=Y d){xs:Array Operand}(N:o.op=.call {callee:=.value (.func f),args:=xs,argTypes:=ats})(O:Be xs.toList ys=X)(h:(AE.AaB f ys).wp (AS P) ε (Y d) K)
  {next:Act->World->Prop}(ζ:∀e env' a' w',K e env'->Q7 a d a'->Bt F0 w0 ((d,e)::env') a' w'->next a' w'):o.wp P a w next Q:=by
 simp [AE.wp]at h;obtain⟨κ,h⟩:=h;cases j:vals ε ys with
 |none=>rw[j]at h;exact h.elim|some ts=>
  rw [j]at h;simp[Ai]at h;obtain⟨n,es,A,hK⟩:=h;have hv:=GM D O j;have m:(execOp a.eval o).run P w=(callFunc f (xs.map a.eval)).run P w:=by simp[execOp,N,resolve,Act.eval,Deferred.ofValue,invoke]
  have key:Do P f=X/\(TV.list n es).WF/\Calls P f (xs.map a.eval) w λe w'=>∃v z g,e=.returned v/\Below w.heap.size w w'/\GU w' n v es.length g z/\(∀F',(∀b o,F' b o->(b<w.heap.size/\AU w0.heap.size F0 G b o)\/∃lo,z=Y (b,lo))->AR w' F' (es.flatMap TV.cells) g)/\(∀e∈es,e.cells.length=n)/\(∀x∈g,x.oneCell'=X)/\∀b lo,z=Y (b,lo)->w.heap.size<=b/\b<w'.heap.size:=by
   rcases A with A|⟨A,hfl⟩
   .obtain⟨B,η⟩:=(A.to0 rfl) hv.2;obtain⟨k,C⟩:=η (AU w0.heap.size F0 G) w (xs.map a.eval) m_ D.below.now;refine⟨B,k,C.mono ?_⟩;rintro e w' ⟨v,rfl,E,z,g,H,I,J,L,M⟩;exact⟨v,z,g,rfl,E,H,λF' R=>Ar (λb o u δ hf=>⟨δ,λθ=>hf (R b o θ)⟩) _ _ I,J,L,M⟩
   .obtain⟨B,η⟩:=(A.to0 rfl) hv.2;obtain⟨k,C⟩:=η (AU w0.heap.size F0 G) w (xs.map a.eval) m_ D.below.now;refine⟨B,k,C.mono ?_⟩;rintro e w' ⟨v,rfl,E,z,⟨g,H,I,J,L⟩,M⟩
    grind [GE,Ki]
  obtain ⟨B,k,C⟩:=key;unfold Oper.wp;rw[m,FC B _,Oper.upon_enter];refine C.mono ?_;rintro e w' ⟨v,z,g,rfl,E,H,I,J,L,M⟩;simp[l];exact ζ _ _ _ _ (hK k) ⟨_,rfl⟩ (D.AbX E hd κ H M I J L k)
theorem jr(k:AP F0 w0 ε a w G)(hd:d<a.tmps.size)(B:o.dst=Y d){xs:List Operand}(L:o.op=.call {callee:=.value (.func f),args:=(x::xs).toArray,argTypes:=ats})(M:AK x y=X)(C:Be xs ys=X)(h:(AE.Aay f y ys).wp (AS P) ε (Y d) K)
  {next:Act->World->Prop}(hn:∀e env' a' w',K e env'->Q7 a d a'->Bt F0 w0 ((d,e)::env') a' w'->next a' w'):o.wp P a w next Q:=by
 simp only[AE.wp]at h;cases O:y.tg ε with
 |none=>rw[O]at h;exact h.elim|some p=>
  obtain ⟨⟨q,i⟩,m,es⟩:=p;rw[O]at h;simp only[Ai]at h;obtain⟨rfl,h⟩:=h;cases l:vals ε ys with
  |none=>rw[l]at h;exact h.elim|some ts=>
  rw [l]at h;obtain⟨zs,u,E,rfl,⟨A,ts2,g,hc,H,hS⟩,hK⟩:=h;simp only[List.cons.injEq,TV.list.injEq,true_and]at g;obtain⟨g,rfl⟩:=g;have R:A=zs:=by
   have:=congrArg (List.map λt=>match t with|.int _ n=>n|_=>0) g;simpa[z?,Function.comp_def]using this.symm
  subst R;obtain⟨hq,hx⟩:=Oz k M O;obtain⟨ζ,xs',h1,h2,h3,h4⟩:=PZ k hq hx;obtain⟨hv,δ⟩:=GM k C l;have θ:xs'=A.map (Value.int .i64):=by
   have:∀(zs:Fp)(xs:List Value),AR w (AU w0.heap.size F0 G) ((zs.map (TV.int .i64)).flatMap TV.cells) xs->xs=zs.map (Value.int .i64):=by
    intro zs
    induction zs with
    |nil=>intro xs h;exact h|cons z zs ih=>
     grind [TV.cells,A_,AR,Aq]
   exact this A xs' h2
  subst θ;have D:(execOp a.eval o).run P w=(callFunc f (a.eval x::xs.map a.eval).toArray).run P w:=by simp[execOp,L,resolve,Act.eval,Deferred.ofValue,invoke]
  unfold Oper.wp;rw[D,FC hc _,Oper.upon_enter];refine(hS _ w (a.eval x) _ (G q i) ζ δ (by simpa using h1) hv (λb lo o J N=>.inr ⟨q,i,lo,J,N⟩) (λb lo J=>⟨(k.lt _ _ _ _ J).1,k.low J⟩) k.below.now).mono ?_;rintro e w' ⟨⟨I,j⟩,⟨r,rfl,hu⟩,r1,r2⟩;simp only[B];have κ:=k.rexo hq hx r2 (es':=u.map (TV.int .i64)) (xs':=u.map (Value.int .i64)) (by rw[a6,I];exact r1) (λ_=>?_) (by simp[TV.cells]) p! j.1
  .have η:∀F,Qc w' F E r:=λF=>by
    rcases E with _|⟨t,_|⟨t',E⟩⟩
    .exact hu
    .exact RR t (by simpa[TV.t1]using H) _ hu
    .obtain⟨vs,e1,e2⟩:=hu;exact⟨vs,e1,GE _ H _ e2⟩
   rcases E with _|⟨t,_|⟨t',E⟩⟩
   all_goals
    refine hn _ _ _ _ (hK j) ⟨_,rfl⟩ ⟨_,κ.quiet (Below.refl _ _) d hd (EV.ofs _) _ (λ_=>W) (by simp[EV.ofs]) (by simp[EV.ofs]) (by simp[EV.ofs]) ?_ ?_⟩
    .simp only[EV.ofs,AM];exact η _
    .first|exact trivial|exact j.2.1|exact j.2
  .have:∀(zs:Fp),AR w' (AU w0.heap.size F0 G) ((zs.map (TV.int .i64)).flatMap TV.cells) (zs.map (Value.int .i64)):=by
    intro zs
    induction zs with
    |nil=>rfl|cons z zs ih=>
     grind [TV.cells,A_,AR,Aq]
   exact this u
theorem Zg{w:World}{F:Nat->Nat->Prop}:∀(zs:Fp),AR w F ((zs.map (TV.int .i64)).flatMap TV.cells) (zs.map (Value.int .i64))
 |[]=>rfl|z::zs=>by
  simp only[A',w!,TV.cells,A_,AR,Aq];exact⟨_,_,rfl,rfl,Zg zs⟩
theorem Z2{w:World}{F:Nat->Nat->Prop}:∀(zs:Fp)(xs:List Value),AR w F ((zs.map (TV.int .i64)).flatMap TV.cells) xs->xs=zs.map (Value.int .i64)
 |[],xs,h=>h|z::zs,xs,h=>by
  simp [TV.cells,AR,Aq]at h;obtain⟨v,r,rfl,rfl,h⟩:=h;rw[Z2 zs r h];rfl
theorem jn(j:AP F0 w0 ε a w G)(hd:d<a.tmps.size)(l:o.dst=Y d)(C:o.op=.call {callee:=.value (.func f),args:=#[x],argTypes:=ats})(D:AK x y=X)(h:(AE.AaR f y).wp (AS P) ε (Y d) K)
  {next:Act->World->Prop}(ζ:∀e env' a' w',K e env'->Q7 a d a'->Bt F0 w0 ((d,e)::env') a' w'->next a' w'):o.wp P a w next Q:=by
 simp only[AE.wp]at h;cases H:y.tg ε with
 |none=>rw[H]at h;exact h.elim|some p=>
  obtain ⟨⟨q,i⟩,m,es⟩:=p;rw[H]at h;simp only[Ai]at h;obtain⟨⟨L,rfl⟩,rfl,M,zs,N,rfl,⟨O,A,hc,g,hS⟩,hK⟩:=h;simp only[List.cons.injEq,TV.list.injEq,true_and,and_true]at A;have I:O=zs:=by
   have:=congrArg (List.map λt=>match t with|.int _ n=>n|_=>0) A;simpa[z?,Function.comp_def]using this.symm
  subst I;obtain⟨B,κ⟩:=Oz j D H;replace B:=AB.q0 B;simp only[XV]at κ;replace g:=g (by have:=j.wf q;rw[B]at this;exact this);have θ:=Ag j B V;simp only[AM]at θ;obtain⟨xs,h1,h2,h3,h4⟩:=θ;have J:=Z2 _ _ h2;subst J;have u:(execOp a.eval o).run P w=(callFunc f #[slot a q]).run P w:=by simp[execOp,C,resolve,Act.eval,Deferred.ofValue,invoke,<-κ]
  unfold Oper.wp;rw[u,FC hc _,Oper.upon_enter];refine(hS w (slot a q) (G q W) (by simpa using h1)).mono ?_;rintro e w' ⟨v',rfl,r1,r2⟩;simp only[l];obtain⟨b1,b2,b3,η,b5⟩:=r2;refine ζ _ _ _ _ (hK g) ⟨_,rfl⟩ (j.xgo B hd (λe=>L e.symm) (z':=G q W) b1 b2 b3 η (λk E δ=>b5 k E δ) (λb lo R=>⟨G! (j.lt _ _ _ _ R).1 η,.inr ⟨_,R⟩⟩) V (λ_=>M) (λF' G' env' a' hag hG _=>?_) g);simp only[AM];rw[hG];exact⟨_,by simpa using r1,Zg N,by simp[TV.cells],p!⟩
theorem mX(δ:AP F0 w0 ε a w G)(hd:d<a.tmps.size){i:TypeInfo}{z:Value}(hop:o.op=.call {callee:=.builtin .append,args:=#[.tmp s,x],argTypes:=#[t,t]})
  (ht:P.underlying t=Y (.slice e))(hi:P.info? e=Y i)(A:i.zero=Y z)(E:i.size=n)(hby:i.bytes<=4096)(hzs:z.cells.size=n)(hn:0<n)
  (hok:AK x y=X)(h:(AE.Aa7 n s y).wp S ε (Y d) K):A1 P F0 w0 a w o d K:=by
 simp only[AE.wp]at h;split at h
 .rename_i d' m es m' J N hs hy;simp only[nm]at N;subst N;obtain⟨hm1,hm2,θ,hno,hds,hK⟩:=h;subst hm2;subst hm1;have D:=Ag δ hs V;have H:=δ.wf s;rw[hs]at H;simp only[AM]at D;obtain⟨xs,⟨z0,h1,κ⟩,h2,h3,h4⟩:=D;have hv:=Ay δ hok hy;simp only[Aq]at hv;obtain⟨⟨ad,cap,h5,h6,h7,h8⟩,h9⟩:=hv;have I:∃g:List Value,AR w (AU w0.heap.size F0 G) (J.flatMap TV.cells) g/\(∀x∈g,x.oneCell'=X)/\(∀f∈J,f.cells.length=m)/\∀b,ad=Y b->∀(j:Nat)(u:Value),g[j]?=Y u->w.cell? (b.add j)=Y u:=by
   cases ad with
   |none=>
    have:=h7 rfl;subst this;exact⟨[],rfl,V,V,V⟩
   |some b=>
    obtain ⟨C,h11⟩:=h8 b rfl;obtain⟨bb,B,sp⟩:=b;simp only at C h11;by_cases R:J=[]
    .subst R;exact⟨[],rfl,V,V,V⟩
    have C:sp=W:=C.resolve_left R;subst C;have hrow:∀(l:Fq)(B:Nat),Iq w (AU w0.heap.size F0 G) m l bb B->DR w (AU w0.heap.size F0 G) (l.flatMap TV.cells) bb B/\∀f∈l,f.cells.length=m:=by
     intro l
     induction l with
     |nil=>intro B _;exact⟨trivial,V⟩|cons f l ih=>
      grind [Qm,JB]
    grind [Th,nm]
  obtain ⟨g,n1,n2,n3,n4⟩:=I;have hnl:g.length=J.length*m:=by rw[BL n1,Pg m J n3]
  obtain ⟨v',w',z',η,r1,L⟩:=QY (P:=P) t o.type e i z m ht hi A E hby hzs hn (slot a s) es.length xs z0 h1 ad J.length cap g hnl (λe=>by rw[h7 e];rfl) h6 n4 n2 θ;have hnz:∀k,(∀lo,G s W≠Y (k,lo))->∀lo,z0≠Y (k,lo):=λk hk lo A=>hk 0 (by rw[κ,A];rfl);refine⟨v',w',?_,_,_,hK,δ.xgo hs hd hds (z':=z'.map λp=>(p.1,0)) L.os L.tape L.output L.size (λk hk A=>L.other k hk (hnz k A)) (λb lo A=>?_) V (λ_=>hno) (λF' G' env' a' M hG _=>?_) ?_⟩
  .simp[execOp,hop,resolve,invoke,builtin,show a.eval (.tmp s)=slot a s from rfl,h5,η]
  .cases z' with
   |none=>simp at A|some p=>
    simp only[J!,nm,Prod.mk.injEq]at A;obtain⟨k1,ζ⟩:=L.AbE p.1 p.2 rfl;rw[<-A.1];refine⟨k1,?_⟩;rcases ζ with ζ|⟨lo',ζ,_⟩
    .exact .inl ζ
    .exact .inr ⟨0,by rw[κ,ζ];rfl⟩
  .simp only[AM];rw[hG];refine⟨xs++g,⟨z',by rw[aE];exact r1,rfl⟩,?_,?_,?_⟩
   .rw[A!];exact Ik (Ar M _ _ h2) (Ar M _ _ n1)
   .intro e he;rcases A?.1 he with he|he
    .exact h3 e he
    .exact n3 e he
   .intro x O;rcases A?.1 O with O|O
    .exact h4 x O
    .exact n2 x O
  .simp only[EV.WF,TV.WF]at H h9|-;exact⟨by rw[aE];exact Uj U,Kf.2 ⟨H.2,h9.2⟩⟩
 .exact h.elim
theorem pk(η:AP F0 w0 ε a w G)(hd:d<a.tmps.size){x x':Operand}{ty e:TypeId}{A:TypeInfo}{z g:Value}{t:TV}(E:o.op=.makeSlice ty x x')(ζ:AK x y=X)(H:AK x' y=X)
  (B:P.underlying ty=Y (.slice e))(I:P.info? e=Y A)(θ:A.zero=Y z)(hs:A.size=1)(δ:A.bytes<=4096)(hzc:z.cells=#[g])(hc:EX t g=X)(h1c:g.oneCell'=X)(J:t.cells=[t])
  (h:(AE.mkx 1 [t] y).wp S ε (Y d) K):A1 P F0 w0 a w o d K:=by
 simp [AE.wp]at h;split at h
 .rename_i d' ik j L hy;simp[nm]at L;subst L;obtain⟨hno,h0,hmax,hK⟩:=h;have hv:=(Ay η ζ hy).1;have C:=(Ay η H hy).1;simp[Aq]at hv C;obtain⟨m,rfl⟩:∃m:Nat,j=m:=⟨j.toNat,U⟩;have hm:m<=4096:=U
  have hw1:IntKind.i64.wrap (m:Int)=m:=by
   have e1:(2:Int)^ 64=18446744073709551616:=a_
   have e2:(2:Int)^ (64-1)=9223372036854775808:=a_
   simp [IntKind.wrap,IntKind.bits,IntKind.signed,Bool.true_and,pE,e1,e2,ge_iff_le];split<;>omega
  have κ:m*A.bytes<=16777216:=by
   calc m*A.bytes<=4096*4096:=H! hm δ
    _=16777216:=a_
  have l:(Array.range m).map (λq=>([g]:List Value)[q % 1]?.getD default)=J_ m g:=by
   grind
  have M:¬(281474976710656<(A.bytes:Int)*(m:Int)):=by
   grind
  have D:¬(m*A.bytes>roomBytes):=by
   have:roomBytes≥16777216:=a_
   omega
  have N:¬((m:Int)<0):=U
  have O:(execOp a.eval o).run P w=.ok (.value (.slice (Y ⟨w.heap.size,0,W⟩) m m)) (w.alloc (.cells (J_ m g) e)):=by
   by_cases R:m=0
   .subst R;have hw0:IntKind.i64.wrap 0=0:=a_
    simp [execOp,E,hv,C,Instr.makeSlice,run_underlying B,asInt,asIntOf,typeInfo,I,hw0,askRoom,sizeOf,hs,newRow]
    grind
   .simp[execOp,E,hv,C,Instr.makeSlice,run_underlying B,asInt,asIntOf,typeInfo,I,hw1,askRoom,sizeOf,hs,newRow,M,D,N,R,zeroValue,θ,hzc,l]
  have hb:Below w.heap.size w (w.alloc (.cells (J_ m g) e)):=(Below.refl _ _).alloc (R0 _) _;have hcr:=Hs (w.alloc (.cells (J_ m g) e)) (λ_ _=>False) t g hc;have hfm:∀k,(B_ k t).flatMap TV.cells=B_ k t:=by
   intro k
   induction k with
   |zero=>rfl|succ k ih=>rw[B',w!,ih,J];rfl
  simp [Int.toNat_natCast]at hK;refine⟨_,_,O,_,_,hK,η.AbX hb hd hno (z:=Y (w.heap.size,m*1)) (xs:=B_ m g) ⟨V,.inr ⟨w.heap.size,m,_,e,V,heap_alloc_new w _,V,by simp[maxLen];omega,V,V,V⟩⟩ (λb lo θ=>?_) (λF' _=>?_) (λu B=>?_) (λv hv=>?_) ⟨by simp[B!,KK];omega,?_⟩⟩
  .simp[nm,Prod.mk.injEq]at θ;rw[<-θ.1];exact⟨R0 _,V⟩
  .rw[hfm,Bh];refine⟨V,λi u v B hv=>?_⟩;rw[B? (w? B),B? (w? hv)];exact(Hs _ F' t g hc).1
  .rw[B? B,J];rfl
  .rw[B? hv];exact h1c
  .rw[Bp];intro u B;rw[B? B];exact hcr.2
 .exact h.elim
def jC(P:Program)(t:TypeId)(f k n:Nat)(agg:Bool):Bool:=
 match P.underlying t with
 |some (.struct fs)=>(match fs[f]? with
  |some x=>x.offset==k&&C7 P x.type==Y n&&B9 P x.type==Y agg|none=>T)
 |_=>T
theorem mg(C:AP F0 w0 ε a w G)(hd:d<a.tmps.size){f k n:Nat}{agg:Bool}(A:o.op=.field t x f)(D:AK x y=X)(hf:jC P t f k n agg=X)(h:(AE.AbA y k n agg).wp S ε (Y d) K):A1 P F0 w0 a w o d K:=by
 simp only[AE.wp]at h;split at h
 .rename_i cs O;obtain⟨η,g⟩:=h;have hv:=Ay C D O;simp only[Aq,TV.WF]at hv;obtain⟨⟨vs,L,H,ζ⟩,M⟩:=hv;unfold jC at hf;split at hf
  .rename_i κ I;split at hf
   .rename_i j B;simp only[gN,beq_iff_eq]at hf;obtain⟨⟨rfl,θ⟩,N⟩:=hf;have J:=BL H;rw[Bh]at H;rw[Bp]at M;cases agg with
    |true=>
     simp only[if_true]at g;refine Cp C hd (v:=.agg (vs.extract j.offset (j.offset+n))) (t:=.agg ((cs.drop j.offset).take n)) ?_ ?_ ?_ g
     .simp[execOp,A,L,Instr.field,run_underlying I,B,part,Cs N,CG θ,asAgg]
     .simp only[Aq];refine⟨_,rfl,?_,?_⟩
      .rw[Bh]
       grind
      grind
     .simp only[TV.WF];rw[Bp]
      grind
    |false=>
     simp only[Bool.false_eq_true,if_false]at g;cases E:cs.drop j.offset with
     |nil=>rw[E]at g;simp[FW,Ai]at g|cons u r=>
      rw [E]at g;simp only[FW,Ai]at g;have m:cs[j.offset]?=Y u:=by
       have:=congrArg (λl=>l[0]?) E;simpa[C_]using this
      have R:j.offset<cs.length:=(C'.1 m).1;obtain⟨v,hv⟩:∃v,vs.toList[j.offset]?=Y v:=⟨_,y_ U⟩;refine Cp C hd (v:=v) (t:=u) ?_ (H.2 _ u v m hv) (M u (w? m)) g;rw[J']at hv;simp[execOp,A,L,Instr.field,run_underlying I,B,part,Cs N,asAgg,hv]
   .cases hf
  .cases hf
 .exact h.elim
def cY(P:Program)(ty:TypeId)(n:Nat)(zero:Fq):Bool:=
 match P.underlying ty,zero with
 |some (.slice e),[t]=>(match P.info? e with
  |some ie=>(match ie.zero with
   |some z=>(match z.cells.toList with
    |[z0]=>n==1&&ie.size==1&&decide (ie.bytes<=4096)&&EX t z0&&z0.oneCell'&&(match t with|.int _ _=>X|.bool _=>X|.str _=>X|.list _ _=>X|_=>T)
    |_=>T)
   |none=>T)
  |none=>T)
 |_,_=>T
variable{zero:Fq}
theorem gY(A:AP F0 w0 ε a w G)(hd:d<a.tmps.size){x x':Operand}{ty:TypeId}(k:o.op=.makeSlice ty x x')(l:AK x y=X)(j:AK x' y=X)(g:cY P ty n zero=X)
  (h:(AE.mkx n zero y).wp S ε (Y d) K):A1 P F0 w0 a w o d K:=by
 unfold cY at g;split at g
 .rename_i e t B;split at g
  .rename_i L m;split at g
   .rename_i z C;split at g
    next M u=>simp[pE]at g;obtain⟨⟨⟨⟨⟨rfl,D⟩,E⟩,H⟩,I⟩,J⟩:=g;exact pk A hd k l j B m C D E (dl u) H I (by cases t<;>first|rfl|cases J) h
    .cases g
   .cases g
  .cases g
 .cases g
theorem Bt.congr{F0:Nat->Nat->Prop}{w0:W0}{ε env2:AB}{a:Act}{w:World}(h:Bt F0 w0 ε a w)(he:∀n,ε.get n=env2.get n):Bt F0 w0 env2 a w:=by
 obtain ⟨G,h⟩:=h;refine⟨G,h.gi,h.lt,h.below,h.defers,λq g=>?_,λq g=>?_,λq=>?_⟩
 .rw[<-he];exact h.dom q g
 .rw[<-he];refine AM.kept (Qe _ _) (λ_=>rfl) (λ_ _ _ _=>rfl) rfl BJ.rfl' (λr i k m⟨p,j⟩=>⟨⟨p,(AB.Aap (he r)).trans j⟩,λ_ hv=>hv⟩) (λr u m⟨cs,l⟩=>⟨⟨cs,by rw[he];exact l⟩,rfl⟩) (λr i m⟨p,j⟩=>⟨⟨p,(AB.Aae (he r)).trans j⟩,λ_ hv=>hv⟩) (h.slots q g)
 .rw[<-he];exact h.wf q
theorem AP.unx(h:AP F0 w0 ε a w G){es:Fq}(J:ε.get d=.xo n es):Bt F0 w0 ((d,.ow (.list n es))::ε) a w:=by
 have D:=Ag h J V;simp only[AM]at D;obtain⟨xs,⟨z0,h1,N⟩,h2,h3,h4⟩:=D;have κ:=h.wf d;rw[J]at κ;have hsz:=Bi h J V
 let A:BR:=Je G d (λi=>if i=W then z0 else W)
 have m:∀p i b lo,A p i=Y (b,lo)->∃g,g<=lo/\G p i=Y (b,g):=by
  intro p i b lo l;by_cases E:p=d
  .subst E;simp only[A,B1]at l;split at l
   next hi=>subst hi;exact⟨0,G_ _,by rw[N,l];rfl⟩
   .cases l
  .simp only[A,BE _ _ _ _ E]at l;exact⟨lo,R0 _,l⟩
 have H:Bf w w (AU w0.heap.size F0 G) (AU w0.heap.size F0 A):=by
  intro b o u δ θ;refine⟨δ,?_⟩;rintro(R|⟨p,i,lo,R,k2⟩)
  .exact θ (.inl R)
  .obtain⟨g,O,k4⟩:=m _ _ _ _ R;exact θ (.inr ⟨p,i,g,k4,G? O k2⟩)
 refine ⟨A,λp i p' i' b lo g L η=>?_,λp i b lo L=>?_,h.below,h.defers,λp l=>?_,λp l=>?_,λp=>?_⟩
 .obtain⟨_,_,f1⟩:=m _ _ _ _ L;obtain⟨_,_,f2⟩:=m _ _ _ _ η;exact h.gi _ _ _ _ _ _ _ f1 f2
 .obtain⟨g,O,f⟩:=m _ _ _ _ L;exact⟨(h.lt _ _ _ _ f).1,(h.lt _ _ _ _ f).2.imp id (λe o ho=>e o (G? O ho))⟩
 .rw[AB.bn,QQ U];exact h.dom p l
 .rw[AB.bn];by_cases C:d=p
  .subst C;rw[Ne rfl];simp only[AM,Bq];exact⟨xs,by simp only[A,B1,if_true];exact h1,Ar H _ _ h2,h3,h4⟩
  .rw[QQ C];refine AM.kept H (λi=>by simp only[A];rw[BE _ _ _ _ (λe=>C e.symm)]) (λ_ _ _ _=>rfl) (Lz rfl λr D=>by simp only[A];rw[BE _ _ _ _ U]) BJ.rfl' (λr i k D⟨M,B⟩=>?_) (λr ζ _⟨cs,j⟩=>?_) (λr i D⟨M,B⟩=>?_) (h.slots p l)
   .exact⟨⟨M,(AB.tn V B).2⟩,λ_ hv=>hv⟩
   .rw[AB.bn]at j;by_cases I:d=r
    .rw[Ne I]at j;cases j
    .rw[QQ I]at j;exact⟨⟨cs,j⟩,rfl⟩
   .exact⟨⟨M,(AB.o4 V V B).2⟩,λ_ hv=>hv⟩
 .rw[AB.bn];split
  .exact κ
  .exact h.wf p
theorem ry{S:FuncId->Fq->As->Prop}(h:(AE.mko n zero y).wp S ε (Y d) K):(AE.mkx n zero y).wp S ε (Y d) λe env'=>env'=ε/\∃m es,e=.xo m es/\K (.ow (.list m es)) ε:=by
 simp only[AE.wp]at h|-;split at h
 next g k j hd l=>simp only[nm]at hd;subst hd;exact⟨h.1,h.2.1,h.2.2.1,trivial,_,_,rfl,h.2.2.2⟩
 .exact h.elim
theorem pj(A:AP F0 w0 ε a w G)(hd:d<a.tmps.size){x x':Operand}{ty:TypeId}(k:o.op=.makeSlice ty x x')(l:AK x y=X)(g:AK x' y=X)(B:cY P ty n zero=X)
  (h:(AE.mko n zero y).wp S ε (Y d) K):A1 P F0 w0 a w o d K:=by
 obtain ⟨v,w',j,e,env',⟨rfl,m,es,rfl,C⟩,D,u⟩:=gY A hd k l g B (ry h);exact⟨v,w',j,_,_,C,(AP.unx u (by rw[AB.bn,Ne rfl])).congr λn=>by
  rw [AB.bn,AB.bn,AB.bn];split<;>rfl⟩
theorem uz{args:Fq}{t:TV}(h:AS P f args (.own t)):AS P f args (.sh t):=by
 intro l;obtain⟨A,B⟩:=h l;refine⟨A,λF0 w vs hv j=>?_⟩;obtain⟨C,D⟩:=B F0 w vs hv j;refine⟨C,D.mono ?_⟩;rintro e w' ⟨v,rfl,E,z,H,J⟩;refine⟨v,rfl,E,?_⟩;have m:=Bq.rep H (λb lo o I ho=>by
  grind)
 exact CH (λb o u k hf=>⟨k,λg=>hf (.inl g)⟩) _ _ m
theorem QB(h:v.oneCell'=X):v.cells=#[v]:=by
 cases v<;>first|rfl|simp[Value.oneCell']at h
theorem qA(u:AP F0 w0 ε a w G){x v:Operand}(hop:o.op=.store t x v)(C:AK x (.s s)=X)(hv:AK v (.s q)=X)(hn:C7 P t=Y n)(h:(AE.stx n s q).wp S ε W K):IB P F0 w0 a w o K:=by
 simp only[AE.wp]at h;split at h
 .rename_i cs ds hs hq;obtain⟨J,⟨κ,D⟩,ho,hK⟩:=h;have hp:(AF.s s).place ε=Y (s,0):=by simp[AF.place,hs]
  revert hp ho hK
  suffices key:∀g,g+n<=cs.length->K .undef ((s,.bx (cs.take g++ds++cs.drop (g+n)))::(q,.undef)::ε)->(AF.s s).place ε=Y (s,g)->IB P F0 w0 a w o K from key 0
  .intro g ho hK hp;have hvq:v=.tmp q:=by
    cases v<;>simp[AK]at hv;rw[hv]
   subst hvq;obtain⟨b,hsl,hadr⟩:=Hl u C hp hs;have hr:=Ag u hs V;simp only[AM]at hr;obtain⟨δ,c,θ,h1,h2,h3,h4,h5⟩:=hr;rw[hsl]at h1;simp only[Value.pointer.injEq,nm,Addr.mk.injEq,and_true,and_self]at h1;subst h1;have hrq:=Ag u hq V;simp only[AM]at hrq;obtain⟨vs,B,m,e3⟩:=hrq;have R:=u.wf s;rw[hs]at R;have hwq:=u.wf q;rw[hq]at hwq;have hone:∀y∈vs.toList,y.oneCell'=X:=by
    intro y E;obtain⟨i,hi⟩:=C! E;have l:i<ds.length:=by have:=(C'.1 hi).1;simpa[m]using this
    obtain ⟨x,C,hc⟩:=e3 i _ (y_ l);rw[J',C]at hi;simp only[nm]at hi;subst hi;exact HK hc
   have hev:a.eval (.tmp q)=.agg vs:=B;have hst:(execOp a.eval o).run P w=.ok .skip (w.setRow b (c.toList.take g++vs.toList++c.toList.drop (g+n)).toArray):=by
    have hln:vs.toList.length=n:=by rw[I?,m,κ]
    have I:=run_storeCells_at P b g θ vs.toList 0 c w h2 (by rw[hln];omega) hone;simp only[H?]at I;rw[hln]at I;simp[execOp,hop,hadr,hev,Instr.storeAt,Instr.sureAddr,storeVar,CG hn,Value.cells,show vs.size=n by rw[m,κ],I]
   have hvl:vs.toList.length=n:=by rw[I?,m,κ]
   let zs:Option Nat->Option (Nat×Nat):=λi=>match i with|none=>Y (b,0)|some j=>if g<=j/\j<g+n then G q (Y (j-g))else G s (Y j)
   refine Exists.elim (u.AbI hs hsl h2 (cs':=cs.take g++ds++cs.drop (g+n)) (c':=(c.toList.take g++vs.toList++c.toList.drop (g+n)).toArray) (q:=Y q) (by simpa using J) (λp hp=>by cases hp;exact Bi u hq V) (zs:=zs) rfl ?_ ?_ ?_ ?_ ?_ ?_) (λG' h'=>⟨_,hst,_,hK,G',h'.1⟩)
   .intro i δ lo hi hz;cases i with
    |none=>exact absurd rfl hi|some j=>
     simp only[zs]at hz;split at hz
     .exact .inr ⟨q,rfl,_,hz⟩
     .exact .inl hz
   .intro i i' δ lo M B m;have zn:∀j δ lo M,zs (Y j)=Y (δ,lo)->zs W=Y (δ,M)->False:=by
     intro j δ lo M B m;simp only[zs,nm,Prod.mk.injEq]at m;obtain⟨rfl,_⟩:=m;simp only[zs]at B;split at B
     .exact J (u.gi _ _ _ _ _ _ _ B h4).1
     .have:=(u.gi _ _ _ _ _ _ _ B h4).2;cases this
    cases i with
    |none=>cases i' with
     |none=>rfl|some j=>exact(zn j _ _ _ m B).elim
    |some j=>cases i' with
     |none=>exact(zn j _ _ _ B m).elim|some j'=>
      simp only[zs]at B m;split at B<;>split at m
      .have:=(u.gi _ _ _ _ _ _ _ B m).2;simp only[nm]at this;rw[show j=j' by omega]
      .exact absurd (u.gi _ _ _ _ _ _ _ B m).1 J
      .exact absurd (u.gi _ _ _ _ _ _ _ m B).1 J
      .exact(u.gi _ _ _ _ _ _ _ B m).2
   .simp only[List.size_toArray,aE,aN,C?,I?];omega
   .intro F' w' N H O i y E;have hco:∀j,g+n<=j->cs[j]?=Y y->i=j->∃v,c[j]?=Y v/\BF w' F' (sr a G) (G s (Y j)) y v:=by
     intro j hj hc hij;obtain⟨v,η,ζ⟩:=h5 j y hc;exact⟨v,η,ζ.kept N (λk lo A=>H k (λe=>by have:=(u.gi _ _ _ _ _ _ _ (e▸A) h4).2;cases this)) O⟩
    rcases F? i g with l|hge
    .rw[ae,D_ an,D',Ne l]at E;obtain⟨v,η,ζ⟩:=h5 i y E;refine⟨v,?_,?_⟩
     .rw[D!,ae,D_ an,D',Ne l,J'];exact η
     .simp only[zs,QQ (show¬(g<=i/\i<g+n)by omega)];exact ζ.kept N (λk lo A=>H k (λe=>by have:=(u.gi _ _ _ _ _ _ _ (e▸A) h4).2;cases this)) O
    .rcases F? i (g+n)with l|L
     .rw[ae,D? an,D_ an]at E;simp only[aN]at E;rw[H' U]at E;obtain⟨v,η,ζ⟩:=e3 (i-g) y E;refine⟨v,?_,?_⟩
      .rw[D!,ae,D? an,D_ an];simp only[aN,I?];rw[H' U,J'];exact η
      .simp only[zs,Ne (show g<=i/\i<g+n by omega)];exact ζ.kept N (λk lo A=>H k (λe=>J (u.gi _ _ _ _ _ _ _ (e▸A) h4).1)) O
     .rw[D? an]at E;simp only[aE,aN]at E;rw[H' U,κ,C_,show g+n+(i-(g+n))=i from U]at E;obtain⟨v,η,ζ⟩:=hco i L E rfl;refine⟨v,?_,?_⟩
      .rw[D!,D? an];simp only[aE,aN,I?];rw[H' U,m,κ,C_,show g+n+(i-(g+n))=i from U,J'];exact η
      .simp only[zs,QQ (show¬(g<=i/\i<g+n)by omega)];exact ζ
   .intro x C;rcases A?.1 C with C|C
    .rcases A?.1 C with C|C
     .exact R x (y! C)
     .exact hwq x C
    .exact R x (y? C)
   .intro k tx htx A;have hkl:k<cs.length:=by
     have:=(C'.1 A).1;simp only[aE,aN,C?]at this;omega
    rw [D!];rcases F? k g with l|hge
    .rw[ae,D_ an,E_ l]at A;refine .inr ⟨A,?_⟩;rw[ae,D_ an,E_ l,J']
    .rcases F? k (g+n)with l|L
     .rw[ae,D? an,D_ an]at A;rw[Bool.or_eq_true]at D;rcases D with D|D
      .have:=E'.1 D _ (w? A);simp[htx]at this
      .exact .inl (AB.noX_all D)
     .rw[D? an]at A;simp only[aE,aN,C_]at A;rw[H' U,κ,show g+n+(k-(g+n))=k from U]at A;refine .inr ⟨A,?_⟩;rw[D? an];simp only[aE,aN,I?,C_];rw[H' U,m,κ,show g+n+(k-(g+n))=k from U,J']
 .exact h.elim
def Kh(a:Act)(w:World)(G:BR)(d:Nat)(Z:Dg):BR:=λp=>if p=d then Z 0 else if a.tmps.size+w.heap.size<=p then(λi=>match i with|some j=>Z (p-a.tmps.size+1) (Y j)|none=>W)else G p
variable{Z:Dg}{p:Nat}
theorem O0{a:Act}{w:World}{G:BR}{d:Nat}{b lo:Nat}(h:Kh a w G d Z p i=Y (b,lo)):(p=d/\Z 0 i=Y (b,lo))\/(p≠d/\a.tmps.size+w.heap.size<=p/\Z (p-a.tmps.size+1) i=Y (b,lo))\/(p≠d/\¬a.tmps.size+w.heap.size<=p/\G p i=Y (b,lo)):=by
 simp [Kh]at h
 grind
theorem AP.quiet2{w':World}(h:AP F0 w0 ε a w G)(I:Below w.heap.size w w')(d:Nat)(hd:d<a.tmps.size)(e:EV)(v:Value)
  (Z:Dg)(M:∀q i b lo,Z q i=Y (b,lo)->w.heap.size<=b/\b<w'.heap.size)(C:Jf Z)
  (J:(∃cs,e=.bx cs)\/(∃n es,e=.xo n es)->ε.ek d=X)
  (O:Bf w w' (AU w0.heap.size F0 G) (AU w0.heap.size F0 (Kh a w G d Z))->AM (a.put (Y d) v) w' (AU w0.heap.size F0 (Kh a w G d Z)) (Kh a w G d Z) ((d,e)::ε) d e v)(κ:e.WF):
  AP F0 w0 ((d,e)::ε) (a.put (Y d) v) w' (Kh a w G d Z):=by
 have θ:Bf w w' (AU w0.heap.size F0 G) (AU w0.heap.size F0 (Kh a w G d Z)):=by
  intro b o u hc hf;have hlt:b<w.heap.size:=World.block_lt_of_cell? w ⟨b,o,W⟩ hc;refine⟨by rw[I.cell (p:=⟨b,o,W⟩) hlt];exact hc,λη=>hf ?_⟩;rcases η with h|⟨s,i,lo,R,h2⟩
  .exact .inl h
  .rcases O0 R with⟨_,e⟩|⟨_,_,e⟩|⟨_,_,e⟩
   .grind
   .grind
   .exact .inr ⟨s,i,lo,e,h2⟩
 have ζ:∀s,s<a.tmps.size->s≠d->Kh a w G d Z s=G s:=by
  grind [Kh]
 refine ⟨?_,?_,h.below.go I,i!,?_,?_,?_⟩
 .intro s i s' i' b lo lo' R h2;rcases O0 R with⟨e1,A⟩|⟨e1,e3,A⟩|⟨e1,e3,A⟩<;>rcases O0 h2 with⟨e2,B⟩|⟨e2,e4,B⟩|⟨e2,e4,B⟩
  .exact⟨by rw[e1,e2],(C _ _ _ _ _ _ _ A B).2⟩
  .have:=(C _ _ _ _ _ _ _ A B).1;omega
  .have:=(M _ _ _ _ A).1;have:=(h.lt _ _ _ _ B).1;omega
  .have:=(C _ _ _ _ _ _ _ A B).1;omega
  .obtain⟨g1,g2⟩:=C _ _ _ _ _ _ _ A B;exact⟨U,g2⟩
  .have:=(M _ _ _ _ A).1;have:=(h.lt _ _ _ _ B).1;omega
  .have:=(M _ _ _ _ B).1;have:=(h.lt _ _ _ _ A).1;omega
  .have:=(M _ _ _ _ B).1;have:=(h.lt _ _ _ _ A).1;omega
  .exact h.gi _ _ _ _ _ _ _ A B
 .intro s i b lo R;rcases O0 R with⟨_,f⟩|⟨_,_,f⟩|⟨_,_,f⟩
  .have:=M _ _ _ _ f;exact⟨this.2,.inl (G? h.below.size this.1)⟩
  .have:=M _ _ _ _ f;exact⟨this.2,.inl (G? h.below.size this.1)⟩
  .have:=h.lt _ _ _ _ f;exact⟨G! this.1 I.size,this.2⟩
 .intro s N;rw[Bj]at N;rw[AB.bn,QQ U];exact h.dom s N
 .intro s N;rw[Bj]at N;rw[AB.bn];by_cases H:d=s
  .subst H;rw[Ne rfl,Cx _ _ _ hd];exact O θ
  .rw[QQ H,AY _ _ _ _ H];refine AM.kept' θ (λi=>by rw[ζ s N (λe=>H e.symm)]) (λi b lo ζ=>I.block b (h.lt s i b lo ζ).1) (λi g lo j hg=>?_) (λ_=>BJ.spot (h.AaY I)) (λq i k D⟨p,E⟩=>?_) (λq δ D⟨cs,m⟩=>?_) (λq i D⟨p,E⟩=>?_) (h.slots s N)
   .have:=(h.lt _ _ _ _ hg).1;simp[sr,Bj,Kh];rw[QQ U,QQ U]
   .by_cases l:d=q
    .subst l;exact absurd D (AB.Abh d ε (J (.inl (AB.AaC E))) s i k)
    .rw[AB.Aab l]at E;exact⟨⟨p,E⟩,h.nh ⟨p,E⟩ (AY _ _ _ _ l) (λj b _ L=>I.block b (h.lt _ _ _ _ L).1)⟩
   .rw[AB.bn]at m;by_cases l:d=q
    .subst l;rw[Ne rfl]at m;exact absurd D (AB.AaJ d ε (J (.inl ⟨cs,m⟩)) s δ)
    .rw[QQ l]at m;exact⟨⟨cs,m⟩,AY _ _ _ _ l⟩
   .by_cases l:d=q
    .subst l;have hx:=AB.AaQ d ε (J (AB.AaS E)) s;rcases D with D|⟨c,D⟩
     .exact absurd D (hx.1 i)
     .exact absurd D (hx.2 i c)
    .rw[AB.x7 l]at E;exact⟨⟨p,E⟩,h.xv ⟨p,E⟩ (AY _ _ _ _ l) (λb L=>I.block b (h.lt _ _ _ _ L).1)⟩
 .intro s;rw[AB.bn];split
  .exact κ
  .exact h.wf s
theorem eh(C:AP F0 w0 ε a w G)(hd:d<a.tmps.size)(l:o.dst=Y d){xs:Array Operand}(D:o.op=.call {callee:=.value (.func f),args:=xs,argTypes:=ats})(E:Be xs.toList ys=X)(h:(AE.Aax f ys).wp (AS P) ε (Y d) K)
  {next:Act->World->Prop}(θ:∀e env' a' w',K e env'->Q7 a d a'->Bt F0 w0 ((d,e)::env') a' w'->next a' w'):o.wp P a w next Q:=by
 simp only[AE.wp]at h;cases k:vals ε ys with
 |none=>rw[k]at h;exact h.elim|some ts=>
  rw [k]at h;simp only[Ai]at h;obtain⟨cs,δ,hX,hK⟩:=h;have hv:=GM C E k;have u:(execOp a.eval o).run P w=(callFunc f (xs.map a.eval)).run P w:=by simp[execOp,D,resolve,Act.eval,Deferred.ofValue,invoke]
  obtain ⟨h2,h3⟩:=(δ.to0 rfl) hv.2;obtain⟨O,h5⟩:=h3 (AU w0.heap.size F0 G) w (xs.map a.eval) m_ C.below.now;unfold Oper.wp;rw[u,FC h2 _,Oper.upon_enter];refine h5.mono ?_;rintro e w' ⟨v,rfl,hb,Z,⟨vs,rfl,r1,r2⟩,r3,r5,R⟩;simp only[l]
  let B:Dg:=λq i=>(Z q i).map λp=>(p.1,0)
  have J:∀{q i b lo},B q i=Y (b,lo)->∃g,Z q i=Y (b,g)/\lo=0:=by
   grind [J?]
  have η:(EV.oag (cs.map AO.toX)).WF:=by
   intro c m;obtain⟨M,j,rfl⟩:=List.mem_map.1 m;obtain⟨n,es,e0,_⟩:=hX M j;have:=O _ j;rw[e0]at this|-;exact this
  refine θ _ _ _ _ (hK O) ⟨_,rfl⟩ ⟨_,C.quiet2 hb d hd (.oag (cs.map AO.toX)) _ B (λq i b lo A=>?_) (λq i q' i' b lo g H I=>?_) V (λκ=>?_) η⟩
  .obtain⟨g,A,_⟩:=J A;exact⟨(R q i b g A).2,(R q i b g A).1⟩
  .obtain⟨_,H,_⟩:=J H;obtain⟨_,I,_⟩:=J I;exact r3 _ _ _ _ _ _ _ H I
  simp only[AM];refine⟨vs,rfl,by simpa using r1,λi c m=>?_⟩;rw[E!]at m;simp only[J?]at m;obtain⟨M,j,rfl⟩:=m;obtain⟨n,es,rfl,N⟩:=hX M (w? j);obtain⟨x,k1,k2,_⟩:=r2 i _ j;refine⟨x,k1,?_⟩;have L:Kh a w G d B d (Y i)=B 0 (Y i):=by simp[Kh]
  rw [L];have ζ:Bq w' _ (Z 0 (Y i)) (.list n es) x:=k2;obtain⟨us,m1,m2,m3,m4⟩:=ζ;exact⟨us,⟨_,m1,rfl⟩,GE _ (Ki _ N) _ m2,m3,m4⟩
def aX(P:Program)(t:TypeId):Bool:=match P.underlying t with|some (.slice _)=>X|_=>T
theorem oA(h:Sl x=X):x=.const (.slice W 0 0):=by
 cases x<;>simp[Sl]at h
 grind [KB]
variable{t':TypeId}
theorem Z9(B:AP F0 w0 ε a w G)(hd:d<a.tmps.size){x z:Operand}(k:o.op=.binOp .eql t x z t')(C:Sl z=X)(l:aX P t=X){j:Option Addr}{n cap:Nat}(m:a.eval x=.slice j n cap)(h:K (.tv (.bool j.isNone)) ε):A1 P F0 w0 a w o d K:=by
 have u:=oA C;subst u;unfold aX at l;split at l
 .rename_i e D;refine Cp B hd (v:=.bool j.isNone) (t:=.bool j.isNone) ?_ rfl trivial h;have he:∀d,(Op.equalIn (d+1) t (.slice j n cap) (.slice W 0 0)).run P w=.ok j.isNone w:=by
   intro d;cases j<;>simp[Op.equalIn,run_underlying D]
  have A:(Op.equalIn 10000 t (.slice j n cap) (.slice W 0 0)).run P w=.ok j.isNone w:=he 9999;have H:(eqGuard .eql t x (.const (.slice W 0 0)) (.slice j n cap) (.slice W 0 0)).run P w=.ok () w:=by
   simp [eqGuard]
  have I:(binOp .eql t (.slice j n cap) (.slice W 0 0)).run P w=.ok (.bool j.isNone) w:=by
   have e:(binOp .eql t (.slice j n cap) (.slice W 0 0)).run P w=((Op.equalIn 10000 t (.slice j n cap) (.slice W 0 0)).run P w).andThen λb w'=>.ok (.bool b) w':=by
    simp only[binOp];simp[Op.equal,Op.maxDepth]
   rw [e,A];rfl
  have J:a.eval (.const (.slice W 0 0))=.slice W 0 0:=rfl;have L:∀(g b:Sem Unit)(r:Sem Value),g.run P w=.ok () w->r.run P w=.ok (.bool j.isNone) w->(do let r <-(do g;r:Sem Value);pure (Next.value r):Sem Next).run P w=.ok (.value (.bool j.isNone)) w:=by
   intro g b r m E;simp[m,E]
  simp only[execOp,k,m,J];exact L _ (pure ()) _ H I
 .cases l
theorem pU(k:AP F0 w0 ε a w G)(hd:d<a.tmps.size){x z:Operand}(g:o.op=.binOp .eql t x z t')(j:AK x y=X)(m:Sl z=X)(u:aX P t=X)(h:(AE.isn y).wp S ε (Y d) K):A1 P F0 w0 a w o d K:=by
 simp only[AE.wp]at h;split at h
 next n es l=>have hv:=(Ay k j l).1;simp only[Aq]at hv;obtain⟨D,cap,B,E,C,H⟩:=hv;exact Z9 k hd g m u B (h _ λA=>C so)
 next l=>have hv:=(Ay k j l).1;simp only[Aq]at hv;exact Z9 k hd g m u hv h
 .exact h.elim
end
end Go.Sf
namespace Go.Sf
open Go.RowKit (Below)
section
variable{P:Program}{S:FuncId->Fq->As->Prop}{F0:Nat->Nat->Prop}{w0:W0}{ε:AB}{a:Act}{w:World}{G:BR}{d:Nat}{o:Oper}{K:EV->AB->Prop}
variable{x:Operand}{y:AF}{t:TypeId}
theorem pV(A:AP F0 w0 ε a w G)(hd:d<a.tmps.size)(B:o.op=.load t x)(C:AK x y=X)(L:B9 P t=Y T)(h:(AE.lac y).wp S ε (Y d) K):A1 P F0 w0 a w o d K:=by
 simp [AE.wp]at h;split at h
 .rename_i s g j;have N:y.place ε=Y (s,g):=by
   cases y with
   |c t=>simp[AF.ev]at j|s n=>simp[AF.ev]at j;simp[AF.place,j]
  split at h
  .rename_i p M;obtain⟨n,es⟩:=p;obtain⟨cs,I,O⟩:=AB.pc M;obtain⟨b,m,u⟩:=Hl A C N I;have H:=Ag A I V;simp only[AM]at H;obtain⟨κ,c,θ,D,J,η,ζ,R⟩:=H;rw[m]at D;simp at D;subst D;obtain⟨v,hv,δ⟩:=R g _ O;have k:w.cell? ⟨b,g,W⟩=Y v:=by rw[cell_of_row w b g c θ (0,0) J];exact hv
   refine ⟨v,w,by simp[execOp,B,u,Instr.loadAt,Instr.sureAddr,loadVar,Cs L,k],_,_,h,_,A.quiet (Below.refl _ _) d hd (.la s (Y g)) _ (λ_=>W) V V V ?_ trivial⟩;simp only[AM];rintro⟨pp,E⟩;have l:=AB.o4 V V E;exact A.xv ⟨_,l.2⟩ (AY _ _ _ _ l.1) (λ_ _=>rfl) _ ⟨b,c,θ,m,J,hv⟩
  .exact h.elim
 .exact h.elim
theorem pP(A:AP F0 w0 ε a w G)(hd:d<a.tmps.size)(C:o.op=.load t x)(D:AK x y=X)(O:B9 P t=Y T)(h:(AE.ctk y).wp S ε (Y d) K):A1 P F0 w0 a w o d K:=by
 simp [AE.wp]at h;split at h
 .rename_i δ s j E R;simp at E;subst E;split at h
  .rename_i cs B;split at h
   .rename_i n es H;obtain⟨m,J⟩:=h;obtain⟨b,k,l⟩:=Hl A D R B;have I:=Ag A B V;simp only[AM]at I;obtain⟨κ,c,θ,u,L,η,ζ,M⟩:=I;rw[k]at u;simp at u;subst u;obtain⟨y,N,_⟩:=M j _ H;have g:w.cell? ⟨b,j,W⟩=Y y:=by rw[cell_of_row w b j c θ (0,0) L];exact N
    exact ⟨y,w,by simp[execOp,C,l,Instr.loadAt,Instr.sureAddr,loadVar,Cs O,g],_,_,J,A.AaL B H hd k g (.inr (.inl ⟨n,es,rfl,rfl,rfl,m⟩))⟩
   .rename_i es H;obtain⟨m,J⟩:=h;obtain⟨b,k,l⟩:=Hl A D R B;have I:=Ag A B V;simp only[AM]at I;obtain⟨κ,c,θ,u,L,η,ζ,M⟩:=I;rw[k]at u;simp at u;subst u;obtain⟨y,N,_⟩:=M j _ H;have g:w.cell? ⟨b,j,W⟩=Y y:=by rw[cell_of_row w b j c θ (0,0) L];exact N
    exact ⟨y,w,by simp[execOp,C,l,Instr.loadAt,Instr.sureAddr,loadVar,Cs O,g],_,_,J,A.AaL B H hd k g (.inr (.inr ⟨es,rfl,rfl,rfl,m⟩))⟩
   .exact h.elim
  .exact h.elim
 .exact h.elim
variable{q:Nat}
theorem pO(m:AP F0 w0 ε a w G){x v:Operand}{x':AF}(hop:o.op=.store t x v)(hx:AK x x'=X)(hv:AK v (.s q)=X)(hn:C7 P t=Y 1)(h:(AE.cpt x' q).wp S ε W K):IB P F0 w0 a w o K:=by
 simp [AE.wp]at h
 suffices key:∀(ζ:TV)(s g:Nat),x'.place ε=Y (s,g)->ε.get q≠.undef->(∀cs,ε.get q≠.bx cs)->ER w (AU w0.heap.size F0 G) (sr a G) (G q W) ζ (slot a q)->ζ.WF->∀cs,ε.get s=.bx cs->ε.noX s (Y g)=X->g<cs.length->K .undef ((s,.bx (cs.set g ⟨X,ζ⟩))::(q,.undef)::ε)->IB P F0 w0 a w o K by
  split at h
  .rename_i s g n es R I;split at h
   next cs J=>have l:=Ag m I V;have u:=m.wf q;rw[I]at u;exact key (.xl n es) s g R (by rw[I];simp) (by rw[I];simp) l u cs J h.1 h.2.1 h.2.2
   .exact h.elim
  .rename_i s g es R I;split at h
   next cs J=>have l:=Ag m I V;have u:=m.wf q;rw[I]at u;exact key (.xn es) s g R (by rw[I];simp) (by rw[I];simp) l u cs J h.1 h.2.1 h.2.2
   .exact h.elim
  .exact h.elim
 intro ζ s g R hqu hqb l u cs J hno δ hK;obtain⟨b,hsl,hadr⟩:=Hl m hx R J;have hr:=Ag m J V;simp only[AM]at hr;obtain⟨η,c,θ,h1,h2,h3,h4,h5⟩:=hr;rw[hsl]at h1;simp at h1;subst h1;have hw:=m.wf s;rw[J]at hw;have C:q≠s:=λe=>hqb cs (by rw[e];exact J);have hvq:v=.tmp q:=by
  cases v<;>simp[AK]at hv;rw[hv]
 subst hvq;have N:(slot a q).oneCell'=X:=PK l;have D:(a.eval (.tmp q)).cells.toList=[slot a q]:=by
  have:a.eval (.tmp q)=slot a q:=rfl;rw[this,QB N]
 have hst:(execOp a.eval o).run P w=.ok .skip (w.setRow b (c.toList.take g++[slot a q]++c.toList.drop (g+1)).toArray):=by
  have E:=run_storeCells_at P b g θ [slot a q] 0 c w h2 an (by simpa using N);simp only[H?]at E;have hsz:(a.eval (.tmp q)).cells.size=1:=by rw[<-I?,D];rfl
  simp at E;simp[execOp,hop,hadr,Instr.storeAt,Instr.sureAddr,storeVar,CG hn,hsz,D,E]
 let zs:Option Nat->Option (Nat×Nat):=λi=>match i with|none=>Y (b,0)|some j=>if j=g then G q W else G s (Y j)
 refine Exists.elim (m.AbI J hsl h2 (cs':=cs.set g ⟨X,ζ⟩) (c':=(c.toList.take g++[slot a q]++c.toList.drop (g+1)).toArray) (q:=Y q) (by simpa using C) (λp R=>by cases R;exact m.lts hqu) (zs:=zs) rfl ?_ ?_ ?_ ?_ ?_ ?_) (λG' h'=>⟨_,hst,_,hK,G',h'.1⟩)
 .intro i η lo hi hz;cases i with
  |none=>exact absurd rfl hi|some j=>
   simp [zs]at hz;split at hz
   .exact .inr ⟨q,rfl,W,hz⟩
   .exact .inl hz
 .intro i i' η lo O A B;have zn:∀j η lo O,zs (Y j)=Y (η,lo)->zs W=Y (η,O)->False:=by
   intro j η lo O A B;simp[zs]at B;obtain⟨rfl,_⟩:=B;simp[zs]at A;split at A
   .exact C (m.gi _ _ _ _ _ _ _ A h4).1
   .have:=(m.gi _ _ _ _ _ _ _ A h4).2;cases this
  cases i with
  |none=>cases i' with
   |none=>rfl|some j=>exact(zn j _ _ _ B A).elim
  |some j=>cases i' with
   |none=>exact(zn j _ _ _ A B).elim|some j'=>
    simp [zs]at A B;split at A<;>split at B
    next e3 e4=>rw[e3,e4]
    .exact absurd (m.gi _ _ _ _ _ _ _ A B).1 C
    .exact absurd (m.gi _ _ _ _ _ _ _ B A).1 C
    .exact(m.gi _ _ _ _ _ _ _ A B).2
 .simp;omega
 .intro F' w' hag M hrs i y H;rw[x!]at H;by_cases hi:g=i
  .subst hi;rw[Ne rfl,Ne δ]at H;simp at H;subst H;refine⟨slot a q,?_,?_⟩
   .rw[D!,ae,D? an];simp;rw[H' U,Nat.sub_self];rfl
   .simp[BF,zs];exact l.kept hag (λk lo L=>M k (λe=>C (m.gi _ _ _ _ _ _ _ (e▸L) h4).1)) hrs
  .rw[QQ hi]at H;obtain⟨vv,A,B⟩:=h5 i y H;refine⟨vv,?_,?_⟩
   .rw[D!];rcases F? i g with κ|hge
    .rw[ae,D_ an,E_ κ];simpa using A
    .rw[D? an];simp only[aE,aN,I?,E?];rw[H' U,C_,show g+1+(i-(g+1))=i from U];simpa using A
   .have hi':¬i=g:=λe=>hi e.symm;simp[zs];rw[QQ hi'];exact B.kept hag (λk lo L=>M k (λe=>by have:=(m.gi _ _ _ _ _ _ _ (e▸L) h4).2;cases this)) hrs
 .intro y H;rcases x? H with H|rfl
  .exact hw y H
  .exact u
 .intro k tx htx L;rw[x!]at L;by_cases hi:g=k
  .subst hi;exact .inl hno
  .rw[QQ hi]at L;refine .inr ⟨L,?_⟩;have hkc:k<c.size:=by
    have:=(C'.1 L).1;omega
   rw [D!];rcases F? k g with κ|hge
   .rw[ae,D_ an,E_ κ,J']
   .rw[D? an];simp only[aE,aN,I?,E?];rw[H' U,C_,show g+1+(k-(g+1))=k from U,J']
variable{s n:Nat}
theorem pQ(B:AP F0 w0 ε a w G)(hd:d<a.tmps.size){hi:Operand}{E:AF}(hop:o.op=.slice t (.tmp s) W (Y hi) W)(hh:AK hi E=X)(D:I3 P t=Y n)(h:(AE.cut n s E).wp S ε (Y d) K):A1 P F0 w0 a w o d K:=by
 simp [AE.wp]at h;split at h
 .rename_i d' m es k hb L hs hv;simp at L;subst L;obtain⟨⟨hm,η,ζ⟩,h0,h2,hK⟩:=h;subst hm;have hr:=Ag B hs V;have hw:=B.wf s;rw[hs]at hw;simp[AM]at hr;obtain⟨xs,⟨z0,k1,k2⟩,k3,k4,k5⟩:=hr;have b2:=(Ay B hh hv).1;simp[Aq]at b2;unfold I3 at D;split at D
  .rename_i e hu;obtain⟨j,rfl⟩:∃j:Nat,hb=j:=⟨hb.toNat,U⟩;simp at hK;have R:j<=es.length:=U
   have hlx:=k1.1;have key:∀(δ:Option Addr)(cap:Nat),slot a s=.slice δ es.length cap->es.length<=cap->(execOp a.eval o).run P w=.ok (.value (.slice (if cap=0 then δ else δ.map (·.add (0*m))) (j-0) (cap-0))) w:=by
    intro δ cap M N;have θ:=Ti (P:=P) (w:=w) (isS:=X) (lo:=W) (hi:=Y (a.eval hi)) (l:=0) (h:=(j:Int)) (len:=es.length) (cap:=cap) U U h2 N (.inl ⟨rfl,rfl⟩) (.inr ⟨k,by rw[b2]⟩);simp[execOp,hop,Instr.sliceAt,Instr.slice,run_underlying hu,show a.eval (.tmp s)=slot a s from rfl,M,θ,CG D]
   have A:∀F' C env'(a':Act)(v:Value),Bf w w (AU w0.heap.size F0 G) F'->C d W=G s W->KD w m v (es.take j).length (xs.take (j*m)) (G s W)->AM a' w F' C env' d (.xo m (es.take j)) v:=by
    intro F' C env' a' v u J H;simp only[AM];rw[J];refine⟨xs.take (j*m),H,?_,λe he=>k4 e (y! he),λx H=>k5 x (y! H)⟩;have hfl:∀(l:Fq)(j:Nat),(∀e∈l,e.cells.length=m)->(l.take j).flatMap TV.cells=(l.flatMap TV.cells).take (j*m):=by
     intro l
     induction l with
     |nil=>intro j _;simp|cons e l ih=>
      intro j O;cases j with
      |zero=>simp|succ j=>
       rw [List.take_succ_cons,w!,w!,ih j (λx H=>O x (by simp[H])),z_,O e V];have h1:(j+1)*m=m+j*m:=k?
       have h2:e.cells.take (m+j*m)=e.cells:=z! (by rw[O e V];omega);rw[h1,h2,show m+j*m-m=j*m from U]
    grind [Bh,Ar,aN]
   have κ:(EV.xo m (es.take j)).WF:=by
    simp only[EV.WF,TV.WF]at hw|-;refine⟨an,?_⟩;rw[Bp]at hw|-;exact λt D=>hw.2 t (y! D)
   have hjm:j*m<=es.length*m:=H_ _ R;rcases k1.2 with⟨M,N,e3⟩|⟨g,cap,cur,ty,M,N,e3,e4,e5,e6,e7⟩
   .have hes:es=[]:=x_ N;subst hes;have hj:j=0:=by simpa using R
    subst hj;refine⟨_,w,key W 0 (by simpa using M) V,_,_,hK,B.xgo hs hd ζ (z':=G s W) rfl rfl rfl (R0 _) (λ_ _ _=>rfl) (λb lo I=>⟨(B.lt _ _ _ _ I).1,.inr ⟨lo,I⟩⟩) V (λ_=>η) (λF' C env' a' u J _=>A F' C env' a' _ u J ?_) κ⟩;refine⟨W,⟨V,.inl ⟨V,V,rfl⟩⟩,?_⟩;rw[k2,e3]
   .refine⟨_,w,key _ _ M e3,_,_,hK,B.xgo hs hd ζ (z':=G s W) rfl rfl rfl (R0 _) (λ_ _ _=>rfl) (λb lo I=>⟨(B.lt _ _ _ _ I).1,.inr ⟨lo,I⟩⟩) V (λ_=>η) (λF' C env' a' u J _=>A F' C env' a' _ u J ?_) κ⟩;have O:(es.take j).length=j:=i_
    rw [O];refine⟨Y (g,j*m),⟨by rw[aN,hlx];omega,.inr ⟨g,cap,cur,ty,?_,N,U,e4,e5,?_,rfl⟩⟩,?_⟩
    .simp only[Nat.zero_mul,Nat.sub_zero,J!,Addr.add_zero'];split<;>rfl
    .rw[<-e6,List.take_take,H' hjm]
    .rw[k2,e7];rfl
  .cases D
 .exact h.elim
variable{v:Value}{z:Option (Nat×Nat)}
theorem aJ{F:Nat->Nat->Prop}{es:Fq}{xs:List Value}(h:KD w n v es.length xs z)(g:AR w F (es.flatMap TV.cells) xs)(j:∀e∈es,e.cells.length=n)(k:∀x∈xs,x.oneCell'=X):Aq w (λ_ _=>False) (.list n es) v:=by
 obtain ⟨m,A,_⟩:=h;refine Bq.rep (z:=m) ?_ (λ_ _ _ _ _ h=>h);simp[Bq];exact⟨xs,A,Ar (λb o u l _=>⟨l,λh=>h⟩) _ _ g,j,k⟩
theorem Yp{F:Nat->Nat->Prop}:Bf w w F (λ_ _=>False):=λ_ _ _ g _=>⟨g,λh=>h⟩
variable{c:AO}
theorem rt(h:c.t.WF):c.Abm.WF:=by
 obtain ⟨_|_,t⟩:=c
 .exact h
 .cases t<;>exact h
variable{i:Option Nat}{ρ:IA}
theorem oF(j:AP F0 w0 ε a w G){x:Value}(h:BF w (AU w0.heap.size F0 G) ρ (G s i) c x):Aq w (λ_ _=>False) c.Abm x:=by
 by_cases g:∃n es,c=⟨X,.xl n es⟩
 .obtain⟨n,es,rfl⟩:=g;simp[BF,ER]at h;obtain⟨xs,k,l,m,u⟩:=h;exact aJ k l m u
 .have:c.Abm=c.t:=by
   obtain ⟨_|_,t⟩:=c
   .rfl
   .cases t<;>first|rfl|exact absurd ⟨_,_,rfl⟩ g
  rw [this];exact CH Yp _ _ (WY j h)
variable{b:Nat}
theorem cO(u:AP F0 w0 ε a w G){cs:List AO}(B:ε.get s=.bx cs)(l:slot a s=.pointer (Y ⟨b,0,W⟩))(g:Nat):DR w (λ_ _=>False) ((cs.drop g).map AO.Abm) b g:=by
 have k:=Ag u B V;simp only[AM]at k;obtain⟨H,c,θ,m,C,I,J,D⟩:=k;rw[l]at m;simp at m;subst m;rw[JB];intro i t A;simp[E!,C_]at A;obtain⟨cell,j,rfl⟩:=A;obtain⟨x,E,k⟩:=D _ cell j;exact⟨x,by rw[cell_of_row w b (g+i) c θ (0,0) C];exact E,λh=>h,HK k,oF u k⟩
theorem cP{cs:List AO}(h:∀c∈cs,c.t.WF):TV.ns (cs.map AO.Abm):=by grind[Bp,rt]
theorem oG(j:AP F0 w0 ε a w G)(g:AK x y=X){t:TV}(h:y.Abw ε=Y t):Aq w (λ_ _=>False) t (a.eval x)/\t.WF:=by
 unfold AF.Abw at h;split at h
 .rename_i p H;simp at h;subst h;obtain⟨A,D⟩:=Oz j g H
  grind [PZ,aJ]
 .have C:∀e,y.ev ε=e->(∀t,e≠.tv t)->∃n,y=.s n/\x=.tmp n/\ε.get n=e:=by
   intro e he B;cases y with
   |c t=>exact absurd he.symm (B t)|s n=>
    cases x<;>simp[AK]at g;subst g;exact⟨_,rfl,rfl,he⟩
  split at h
  next cs he=>simp at h;subst h;obtain⟨n,rfl,rfl,k⟩:=C _ he V;have m:=Ag j k V;have u:=j.wf n;rw[k]at u;simp only[AM]at m;obtain⟨b,c,θ,A,_⟩:=m;refine⟨?_,cP u⟩;simp[Aq];exact⟨b,0,A,by simpa using cO j k A 0⟩
  .rename_i q l he;split at h
   next cs k=>simp only[nm]at h;subst h;obtain⟨n,rfl,rfl,I⟩:=C _ he V;have m:=Ag j I V;simp only[AM]at m;obtain⟨b,A,D⟩:=m ⟨cs,k⟩;have u:=j.wf q;rw[k]at u;refine⟨?_,cP (λc E=>u c (y? E))⟩;simp only[Aq];exact⟨b,l,D,cO j k A l⟩
   .cases h
  .have:=Ay j g (t:=t) h;exact⟨CH Yp _ _ this.1,this.2⟩
theorem Ug(j:AP F0 w0 ε a w G):∀{xs:List Operand}{ys:List AF},Be xs ys=X->∀{ts:Fq},Aaa ε ys=Y ts->AR w (λ_ _=>False) ts (xs.map a.eval)/\TV.ns ts
 |[],[],_,ts,hv=>by simp[Aaa]at hv;subst hv;exact⟨rfl,trivial⟩|[],_::_,g,_,_=>by simp[Be]at g|_::_,[],g,_,_=>by simp[Be]at g|x::xs,y::ys,g,ts,hv=>by
  simp [Be]at g;simp[Aaa]at hv;split at hv
  next t m u h=>simp at hv;subst hv;have k:=oG j g.1 u;have l:=Ug j g.2 h;exact⟨⟨_,_,rfl,k.1,l.1⟩,k.2,l.2⟩
  .cases hv
variable{r:As}
theorem mJ{w':World}{F F':Nat->Nat->Prop}{base:Nat}(g:r.Aar=X)(h:Ir w' F base r v):Ir w' F' base r v:=by
 cases r with
 |sh t=>exact RR t g v h|tp ts=>obtain⟨vs,k,j⟩:=h;exact⟨vs,k,GE ts g _ j⟩
 |own t=>
  obtain ⟨z,k,j⟩:=h;refine⟨z,?_,j⟩;cases t<;>simp[As.Aar]at g
  grind [Bq,GE,Ki]
 |_=>simp[As.Aar]at g
theorem WD(h:r.Aar=X):r.plain=X:=by
 cases r<;>first|rfl|(simp[As.Aar]at h)
variable{f:FuncId}{ys:List AF}{ats:Array TypeId}{Q:Exit->Act->World->Prop}
theorem jq(l:AP F0 w0 ε a w G)(hd:d<a.tmps.size)(j:o.dst=Y d){xs:Array Operand}(m:o.op=.call {callee:=.value (.func f),args:=xs,argTypes:=ats})(u:Be xs.toList ys=X)(h:(AE.AaH f ys).wp (AS P) ε (Y d) K)
  {next:Act->World->Prop}(D:∀e env' a' w',K e env'->Q7 a d a'->Bt F0 w0 ((d,e)::env') a' w'->next a' w'):o.wp P a w next Q:=by
 simp [AE.wp]at h;cases g:Aaa ε ys with
 |none=>rw[g]at h;exact h.elim|some ts=>
  rw [g]at h;simp[Ai]at h;obtain⟨r,⟨E,A⟩,H⟩:=h;have hv:=Ug l u g;have k:(execOp a.eval o).run P w=(callFunc f (xs.map a.eval)).run P w:=by simp[execOp,m,resolve,Act.eval,Deferred.ofValue,invoke]
  obtain ⟨I,B⟩:=(E.to0 (WD A)) hv.2;obtain⟨C,B⟩:=B (λ_ _=>False) w (xs.map a.eval) m_ l.below.now;unfold Oper.wp;rw[k,FC I _,Oper.upon_enter];refine B.mono ?_;rintro e w' ⟨v,rfl,J,L⟩;simp[j];exact D _ _ _ _ (H C) ⟨_,rfl⟩ (l.called hd J (WD A) (mJ A L) C)
theorem iR{w:World}{F F':Nat->Nat->Prop}(g:c.Aar=X)(h:BF w F ρ z c v):BF w F' ρ z c v:=by
 obtain ⟨b,t⟩:=c;cases b with
 |false=>exact⟨RR t g v h.1,h.2⟩|true=>
  cases t<;>simp[AO.Aar]at g;simp only[BF,ER]at h|-
  grind [Bq,GE,Ki]
theorem lL{w:World}{F F' N:Nat->Nat->Prop}{cs:List AO}(g:cs.all AO.Aar=X)(h:SR w F N cs v):SR w F' N cs v:=by
 obtain ⟨Z,⟨vs,j,k,l⟩,m⟩:=h;exact⟨Z,⟨vs,j,k,λi d hd=>by obtain⟨x,u,A,B⟩:=l i d hd;exact⟨x,u,iR (E'.1 g d (w? hd)) A,B⟩⟩,m⟩
theorem jp(l:AP F0 w0 ε a w G)(hd:d<a.tmps.size)(A:o.dst=Y d){xs:Array Operand}(I:o.op=.call {callee:=.value (.func f),args:=xs,argTypes:=ats})(B:Be xs.toList ys=X)(h:(AE.Aa3 f ys).wp (AS P) ε (Y d) K)
  {next:Act->World->Prop}(δ:∀e env' a' w',K e env'->Q7 a d a'->Bt F0 w0 ((d,e)::env') a' w'->next a' w'):o.wp P a w next Q:=by
 simp only[AE.wp]at h;cases m:Aaa ε ys with
 |none=>rw[m]at h;exact h.elim|some ts=>
  rw [m]at h;simp only[Ai]at h;obtain⟨cs,⟨ζ,N⟩,hK⟩:=h;have D:(execOp a.eval o).run P w=(callFunc f (xs.map a.eval)).run P w:=by simp[execOp,I,resolve,Act.eval,Deferred.ofValue,invoke]
  have key:Do P f=X/\(∀c∈cs,c.t.WF)/\Calls P f (xs.map a.eval) w λe w'=>∃v,e=.returned v/\Below w.heap.size w w'/\SR w' (λb o=>b<w.heap.size/\AU w0.heap.size F0 G b o) (λb _=>w.heap.size<=b) cs v:=by
   rcases N with κ|hl
   .have hv:=GM l B κ;obtain⟨E,O⟩:=(ζ.to0 rfl) hv.2;exact⟨E,O (AU w0.heap.size F0 G) w (xs.map a.eval) m_ l.below.now⟩
   .have hv:=Ug l B m;obtain⟨E,O⟩:=(ζ.to0 rfl) hv.2;obtain⟨H,R⟩:=O (λ_ _=>False) w (xs.map a.eval) m_ l.below.now;exact⟨E,H,R.mono λe w'⟨v,J,C,e3⟩=>⟨v,J,C,lL hl e3⟩⟩
  obtain ⟨E,H,R⟩:=key;unfold Oper.wp;rw[D,FC E _,Oper.upon_enter];refine R.mono ?_;rintro e w' ⟨v,rfl,hb,Z,⟨vs,rfl,r1,r2⟩,r3,r5,θ⟩;simp only[A];refine δ _ _ _ _ (hK H) ⟨_,rfl⟩ ⟨_,l.quiet2 hb d hd (.oag cs) _ Z (λq i b lo η=>⟨(θ q i b lo η).2,(θ q i b lo η).1⟩) r3 V (λhag=>?_) H⟩;simp only[AM];refine⟨vs,rfl,r1,λi c L=>?_⟩;obtain⟨x,k1,k2,_⟩:=r2 i c L;refine⟨x,k1,?_⟩;have M:Kh a w G d Z d (Y i)=Z 0 (Y i):=by simp[Kh]
  rw [M];refine(k2.kept (λb o u L hf=>⟨L,λk=>hf ?_⟩) (λ_ _ _=>rfl) BJ.rfl').sr (λg lo j hg=>?_)
  .rcases k with k|⟨p,j,lo,J,C⟩
   .exact .inl ⟨G! k.1 l.below.size,.inl k⟩
   .rcases O0 J with⟨_,e⟩|⟨_,_,e⟩|⟨_,_,e⟩
    .exact .inr ⟨_,_,lo,e,C⟩
    .exact .inr ⟨_,_,lo,e,C⟩
    .exact .inl ⟨(l.lt _ _ _ _ e).1,.inr ⟨p,j,lo,e,C⟩⟩
  .have:=(θ _ _ _ _ hg).2;simp only[sr,Bj,Kh,Dg.sr];rw[QQ U,Ne U];simp only[I_]
theorem NJ:∀{g:List (Option AO)}{ts:Fq}{cs:List AO},Eh g ts=Y cs->cs.length=ts.length/\∀(i:Nat)(c:AO),cs[i]?=Y c->∃t,ts[i]?=Y t/\(c=⟨T,t⟩\/(t=.nil/\∃n,c=⟨X,.list n []⟩\/c=⟨X,.xl n []⟩\/c=⟨X,.xn []⟩))
 |[],[],cs,h=>by simp[Eh]at h;subst h;simp|[],_::_,cs,h=>by simp[Eh]at h|none::g,[],cs,h=>by simp[Eh]at h|some _::g,[],cs,h=>by simp[Eh]at h|none::g,t::ts,cs,h=>by
  simp [Eh]at h;split at h
  .rename_i cs' k;simp at h;subst h;obtain⟨l,m⟩:=NJ k
   grind
  .cases h
 |some A::g,t::ts,cs,h=>by
  cases t<;>simp[Eh]at h<;>try cases h
  have key:∃cs' j,Eh g ts=Y cs'/\cs=j::cs'/\∃n,j=⟨X,.list n []⟩\/j=⟨X,.xl n []⟩\/j=⟨X,.xn []⟩:=by
   grind
  obtain ⟨cs',j,k,rfl,u⟩:=key;obtain⟨l,m⟩:=NJ k
  grind
theorem mc(H:AP F0 w0 ε a w G)(hd:d<a.tmps.size){I:List (Option AO)}(k:o.op=.box t x)(l:AK x y=X)(h:(AE.Abj I y).wp S ε (Y d) K):A1 P F0 w0 a w o d K:=by
 simp [AE.wp]at h;split at h
 .rename_i u δ hv j;simp at j;subst j;cases A:Eh I u.cells with
  |none=>rw[A]at h;exact h.elim|some cs=>
   rw [A]at h;simp[Ai]at h;obtain⟨C,κ⟩:=h;obtain⟨η,D⟩:=NJ A;have N:=Ay H l hv;have B:=G4 N.1;have O:=BL B.1;refine⟨_,_,by simp[execOp,k,Instr.box,newVar,newRow],_,_,κ,H.box hd C (c:=(a.eval x).cells) (θ:=t) (by rw[η];simpa using O) (λF' m i c J=>?_) (λc J=>?_)⟩
   .obtain⟨ζ,M,E⟩:=D i c J;have R:i<u.cells.length:=(C'.1 M).1;have L:(a.eval x).cells.toList[i]?=Y ((a.eval x).cells.toList[i]' U):=y_ U;have g:=((Bh _ _).1 B.1).2 i ζ _ M L;refine⟨(a.eval x).cells.toList[i]' U,by rw[<-J'];exact L,?_⟩;rcases E with rfl|⟨rfl,n,rfl|rfl|rfl⟩
    .exact⟨CH m _ _ g,B.2 _ (List.getElem_mem _)⟩
    .simp[Aq]at g;simp only[BF,ER,Bq];exact⟨[],⟨V,.inl ⟨g,rfl,rfl⟩⟩,rfl,V,V⟩
    .simp[Aq]at g;simp only[BF,ER];exact⟨[],⟨W,⟨V,.inl ⟨g,rfl,rfl⟩⟩,rfl⟩,rfl,V,V⟩
    .simp[Aq]at g;simp[BF,ER];exact⟨[],⟨W,⟨V,.inl ⟨g,rfl,rfl⟩⟩,rfl⟩,V,V⟩
   grind [C!,Bp,IV,w?,TV.WF,TV.ns]
 .exact h.elim
theorem Y9(k:AP F0 w0 ε a w G):∀{i:Nat}{xs:List Operand}{ys:List AF},Be xs ys=X->∀{ts:Fq},Fg ε i ys=Y ts->(∀x,xs[i]?=Y x->(a.eval x).oneCell'=X)->AR w (AU w0.heap.size F0 G) ts (xs.map a.eval)/\TV.ns ts
 |i,[],[],_,ts,hv,_=>by cases i<;>simp[Fg]at hv<;>subst hv<;>exact⟨rfl,trivial⟩
 |_,[],_::_,g,_,_,_=>by simp[Be]at g|_,_::_,[],g,_,_,_=>by simp[Be]at g|0,x::xs,y::ys,g,ts,hv,ho=>by
  simp [Be]at g;simp[Fg]at hv;split at hv
  next l h=>simp at hv;subst hv;have j:=GM k g.2 h;exact⟨⟨_,_,rfl,by simp[Aq];exact ho x rfl,j.1⟩,trivial,j.2⟩
  .cases hv
 |i+1,x::xs,y::ys,g,ts,hv,ho=>by
  simp [Be]at g;simp[Fg]at hv;split at hv
  next t l A h=>simp at hv;subst hv;have m:=Ay k g.1 A;have j:=Y9 k g.2 h (λx u=>ho x e_);exact⟨⟨_,_,rfl,m.1,j.1⟩,m.2,j.2⟩
  .cases hv
noncomputable def Bs(a:Act)(G:BR)(s:Nat):Dg:=open Classical in λq i=>if q=0 then G s i else if∃k lo,G s k=Y (q-1,lo)then(match i with|some j=>G (a.tmps.size+(q-1)) (Y j)|none=>W)else W
theorem VW{a:Act}{G:BR}{b lo:Nat}(h:Bs a G s q i=Y (b,lo)):(q=0/\G s i=Y (b,lo))\/(q≠0/\(∃k g,G s k=Y (q-1,g))/\G (a.tmps.size+(q-1)) i=Y (b,lo)):=by
 simp [Bs]at h;split at h
 .grind
 .rename_i e;split at h
  .grind
  .cases h
theorem DO{a:Act}{G:BR}:Bs a G s 0=G s:=by
 funext i;simp[Bs]
theorem Pb{a:Act}{G:BR}{s g lo:Nat}{k:Option Nat}(h:G s k=Y (g,lo))(j:Nat):(Bs a G s).sr g j=sr a G g j:=by
 simp only[Dg.sr,Bs,sr];rw[QQ U,Ne ⟨k,lo,c_⟩];rfl
theorem KC(h:AP F0 w0 ε a w G)(B:s<a.tmps.size):Jf (Bs a G s):=by
 intro q i C D b lo m u A;rcases VW u with⟨k,g⟩|⟨k,_,g⟩<;>rcases VW A with⟨l,j⟩|⟨l,_,j⟩
 .exact⟨by rw[k,l],(h.gi _ _ _ _ _ _ _ g j).2⟩
 .have:=(h.gi _ _ _ _ _ _ _ g j).1;omega
 .have:=(h.gi _ _ _ _ _ _ _ g j).1;omega
 .have:=h.gi _ _ _ _ _ _ _ g j
  grind
theorem CM{b lo:Nat}(l:Bs a G s q i=Y (b,lo)):∃p j,G p j=Y (b,lo)/\(p=s\/∃g k h,p=a.tmps.size+g/\G s k=Y (g,h)):=by grind[VW]
noncomputable def CY(a:Act)(G:BR)(s d:Nat)(Z:Dg):BR:=open Classical in λp=>if p=d then Z 0 else if p=s then λ_=>W else
 if a.tmps.size<=p/\∃k lo,Z 0 k=Y (p-a.tmps.size,lo)then(λi=>match i with|some j=>Z (p-a.tmps.size+1) (Y j)|none=>W)else
 if a.tmps.size<=p/\∃k lo,G s k=Y (p-a.tmps.size,lo)then λ_=>W else G p
variable{Z:Dg}{p:Nat}
theorem Pr{a:Act}{G:BR}{s d:Nat}{b lo:Nat}(h:CY a G s d Z p i=Y (b,lo)):
  (p=d/\Z 0 i=Y (b,lo))\/(p≠d/\a.tmps.size<=p/\Z (p-a.tmps.size+1) i=Y (b,lo))\/(p≠d/\p≠s/\¬(a.tmps.size<=p/\∃k lo,G s k=Y (p-a.tmps.size,lo))/\G p i=Y (b,lo)):=by
 simp [CY]at h;split at h
 next e=>exact .inl ⟨e,h⟩
 .rename_i e;split at h
  .cases h
  .rename_i g;split at h
   .rename_i l;cases i with
    |none=>cases h
    |some j=>exact .inr (.inl ⟨e,l.1,h⟩)
   .split at h
    .cases h
    next m=>exact .inr (.inr ⟨e,g,m,h⟩)
theorem AP.Aaw(h:AP F0 w0 ε a w G){s d:Nat}(hsz:s<a.tmps.size)(hd:d<a.tmps.size){w':World}(ζ:G9 (Bs a G s) w w'){env':AB}{a':Act}(ha':a'.tmps.size=a.tmps.size)(had:a'.defers=a.defers)
  (hzu:Jf Z)(hz:∀q i b lo,Z q i=Y (b,lo)->b<w'.heap.size/\(w.heap.size<=b\/∃p j l,Bs a G s p j=Y (b,l)/\l<=lo))
  (hdom:∀p,a.tmps.size<=p->env'.get p=.undef)(hwf:∀p,(env'.get p).WF)
  (D:∀p,p≠d->p≠s->slot a' p=slot a p)(N:∀p,p≠d->p≠s->env'.get p=ε.get p)(hgs:s≠d->env'.get s=.undef)
  (m:ε.ek d=X\/(d=s/\(∃cs0,ε.get s=.bx cs0)/\ε.noX s W=X/\(∀n es,env'.get d≠.xo n es)/\slot a' s=slot a s)\/((∀cs,env'.get d≠.bx cs)/\∀n es,env'.get d≠.xo n es))
  (hrep:∀F',(∀b o,F' b o->(b<w.heap.size/\AU w0.heap.size F0 G b o/\¬ZF (Bs a G s) b o)\/ZF Z b o)->AM a' w' F' (CY a G s d Z) env' d (env'.get d) (slot a' d)):
  AP F0 w0 env' a' w' (CY a G s d Z)/\∀b o,AU w0.heap.size F0 (CY a G s d Z) b o->(b<w.heap.size/\AU w0.heap.size F0 G b o/\¬ZF (Bs a G s) b o)\/ZF Z b o:=by
 have η:∀p i b lo,p≠s->¬(a.tmps.size<=p/\∃k lo,G s k=Y (p-a.tmps.size,lo))->G p i=Y (b,lo)->∀q j l,Bs a G s q j≠Y (b,l):=by
  intro p i b lo I hn A q j l H;obtain⟨p',j',O,κ⟩:=CM H;obtain⟨rfl,_⟩:=h.gi _ _ _ _ _ _ _ A O;rcases κ with κ|⟨g,k,lo0,rfl,f3⟩
  .exact I κ
  .exact hn ⟨U,k,lo0,by rw[I_];exact f3⟩
 have hE:∀b o,b<w0.heap.size->ZF (Bs a G s) b o->w0.E b o:=λb o hlt⟨q,i,lo,A,H⟩=>by
  obtain ⟨p,j,O,_⟩:=CM A;exact(h.lt _ _ _ _ O).2.elim (λe=>U) (λe=>e o H)
 have hforb:∀b o,AU w0.heap.size F0 (CY a G s d Z) b o->(b<w0.heap.size/\F0 b o)\/(∃p i lo,p≠s/\¬(a.tmps.size<=p/\∃k lo,G s k=Y (p-a.tmps.size,lo))/\G p i=Y (b,lo)/\lo<=o)\/ZF Z b o:=by
  rintro b o (A|⟨p,i,lo,A,H⟩)
  .exact .inl A
  .rcases Pr A with⟨_,e⟩|⟨_,_,e⟩|⟨_,e1,e2,e3⟩
   .exact .inr (.inr ⟨_,i,lo,e,H⟩)
   .exact .inr (.inr ⟨_,i,lo,e,H⟩)
   grind
 have hall:∀b o,AU w0.heap.size F0 (CY a G s d Z) b o->(b<w.heap.size/\AU w0.heap.size F0 G b o/\¬ZF (Bs a G s) b o)\/ZF Z b o:=by
  intro b o hf;rcases hforb b o hf with A|⟨p,i,lo,e1,e0,e2,e3⟩|A
  .exact .inl ⟨G! A.1 h.below.size,.inl A,λhz=>h.below.free _ _ _ (hE b o A.1 hz) A.2⟩
  .exact .inl ⟨(h.lt _ _ _ _ e2).1,.inr ⟨p,i,lo,e2,e3⟩,λ⟨q,j,l,O,_⟩=>η p i b lo e1 e0 e2 q j l O⟩
  .exact .inr A
 have hag:Bf w w' (AU w0.heap.size F0 G) (AU w0.heap.size F0 (CY a G s d Z)):=by
  intro b o u hc hF;have hlt:b<w.heap.size:=World.block_lt_of_cell? w ⟨b,o,W⟩ hc;have hnf:¬ZF (Bs a G s) b o:=λ⟨q,i,lo,A,H⟩=>by
   obtain ⟨p,j,O,_⟩:=CM A;exact hF (.inr ⟨p,j,lo,O,H⟩)
  refine ⟨ζ.cell b o u hnf hc,λhF'=>?_⟩;rcases hall b o hF' with⟨_,A,_⟩|⟨q,i,lo,A,H⟩
  .exact hF A
  .rcases(hz q i b lo A).2 with h3|⟨p,j,l,h3,h4⟩
   .omega
   .exact hnf ⟨p,j,l,h3,G? h4 H⟩
 have hlow:∀p,p<a.tmps.size->p≠d->p≠s->CY a G s d Z p=G p:=by
  intro p hp A H;simp[CY];rw[QQ A,QQ H,QQ (λe=>q!),QQ (λe=>q!)]
 refine ⟨⟨?_,?_,?_,had.trans h.defers,λp hp=>hdom p U,?_,hwf⟩,hall⟩
 .intro p i p' i' b lo l e1 e2;have mix:∀p i q i' lo l,p≠s->¬(a.tmps.size<=p/\∃k lo,G s k=Y (p-a.tmps.size,lo))->G p i=Y (b,lo)->Z q i'=Y (b,l)->False:=by
   intro p i q i' lo l hp hn O κ;rcases(hz q i' b l κ).2 with h3|⟨p2,j,R,h3,_⟩
   .have:=(h.lt _ _ _ _ O).1;omega
   .exact η p i b lo hp hn O p2 j R h3
  rcases Pr e1 with⟨O,M⟩|⟨O,f3,M⟩|⟨_,f3,f4,M⟩<;>rcases Pr e2 with⟨κ,g2⟩|⟨κ,f5,g2⟩|⟨_,f5,f6,g2⟩
  .exact⟨by rw[O,κ],(hzu _ _ _ _ _ _ _ M g2).2⟩
  .have:=(hzu _ _ _ _ _ _ _ M g2).1;omega
  .exact(mix _ _ _ _ _ _ f5 f6 g2 M).elim
  .have:=(hzu _ _ _ _ _ _ _ M g2).1;omega
  .have:=hzu _ _ _ _ _ _ _ M g2;exact⟨U,this.2⟩
  .exact(mix _ _ _ _ _ _ f5 f6 g2 M).elim
  .exact(mix _ _ _ _ _ _ f3 f4 M g2).elim
  .exact(mix _ _ _ _ _ _ f3 f4 M g2).elim
  .exact h.gi _ _ _ _ _ _ _ M g2
 .intro p i b lo e1;have znew:∀q i,Z q i=Y (b,lo)->b<w'.heap.size/\(w0.heap.size<=b\/∀o,lo<=o->w0.E b o):=by
   intro q i O;obtain⟨A,H⟩:=hz q i b lo O;refine⟨A,?_⟩;rcases H with H|⟨p,j,l,H,h3⟩
   .exact .inl (G? h.below.size H)
   .obtain⟨p',j',κ,_⟩:=CM H;exact(h.lt _ _ _ _ κ).2.imp id (λe o ho=>e o (G? h3 ho))
  rcases Pr e1 with⟨_,M⟩|⟨_,_,M⟩|⟨_,_,_,M⟩
  .exact znew _ _ M
  .exact znew _ _ M
  .exact⟨G! (h.lt _ _ _ _ M).1 ζ.size,(h.lt _ _ _ _ M).2⟩
 .refine h.below.trans ζ.os ζ.tape ζ.output ζ.size (λk hk he=>ζ.block k (G! hk h.below.size) (λq i lo θ=>he lo (hE k lo hk ⟨q,i,lo,θ,R0 _⟩))) (λb o u hlt he hu=>ζ.cell b o u (λθ=>he (hE b o hlt θ)) hu)
 .intro p hp;rw[ha']at hp;by_cases hpd:p=d
  .subst hpd;exact hrep _ hall
  .by_cases I:p=s
   .subst I;rw[hgs hpd];trivial
   .rw[N p hpd I,D p hpd I];have hn:¬(a.tmps.size<=p/\∃k lo,G s k=Y (p-a.tmps.size,lo)):=λe=>q!
    have hsame:∀r,(r≠d->r≠s)->r≠d->slot a' r=slot a r:=λr A H=>D r H (A H);refine AM.kept' hag (λi=>by rw[hlow p hp hpd I]) (λi b lo θ=>ζ.block b (h.lt _ _ _ _ θ).1 (λq j l=>η p i b lo I hn θ q j l)) (λi g lo j hg=>?_) (λi g lo j b l hg L=>?_) (λr i k L⟨pp,J⟩=>?_) (λr off L⟨cs2,hcs⟩=>?_) (λr i L⟨pp,J⟩=>?_) (h.slots p hp)
    .show CY a G s d Z (a'.tmps.size+g) (Y j)=G (a.tmps.size+g) (Y j);rw[ha'];simp[CY];rw[QQ U,QQ U,QQ,QQ]
     .rintro⟨_,k,l,e⟩;rw[I_]at e;exact I (h.gi _ _ _ _ _ _ _ hg e).1
     .rintro⟨_,k,l,e⟩;rw[I_]at e;rcases(hz _ _ _ _ e).2 with h3|⟨p2,j2,R,h3,_⟩
      .have:=(h.lt _ _ _ _ hg).1;omega
      .exact η p i g lo I hn hg p2 j2 R h3
    .refine ζ.block b (h.lt _ _ _ _ L).1 (λq j2 R hzf=>?_);obtain⟨p',j',O,κ⟩:=CM hzf;obtain⟨e1,_⟩:=h.gi _ _ _ _ _ _ _ L O;rcases κ with κ|⟨g',k,lo0,f3,f4⟩
     .omega
     .have:g=g':=U
      subst this;exact I (h.gi _ _ _ _ _ _ _ hg f4).1
    .obtain⟨cs,A,H⟩:=AB.pN J;by_cases B:r=d
     .subst B;rcases m with m|⟨rfl,_,m,_⟩|⟨m,_⟩
      .exact absurd L (AB.Abh _ ε m p i k)
      .exact absurd L (AB.noX_nh m p i (.inl rfl) k)
      .exact absurd A (m cs)
     .by_cases C:r=s
      .subst C;rw[hgs B]at A;cases A
      .have h4:ε.nat r i=Y pp:=by rw[<-J];exact(AB.Aap (N r B C)).symm
       have hrl:r<a.tmps.size:=h.lts (by rw[<-N r B C,A];simp);exact⟨⟨pp,h4⟩,h.nh ⟨pp,h4⟩ (D r B C) (λj b _ δ=>ζ.block b (h.lt _ _ _ _ δ).1 (λq j2 R=>η r j b 0 C (λe=>q!) δ q j2 R))⟩
    .by_cases B:r=d
     .subst B;rcases m with m|⟨e1,⟨cs0,e2⟩,_,_,hds⟩|⟨m,_⟩
      .exact absurd L (AB.AaJ _ ε m p off)
      .exact⟨⟨cs0,by rw[e1];exact e2⟩,by rw[e1];exact hds⟩
      .exact absurd hcs (m cs2)
     .by_cases C:r=s
      .subst C;rw[hgs B]at hcs;cases hcs
      .exact⟨⟨cs2,by rw[<-N r B C];exact hcs⟩,D r B C⟩
    .by_cases B:r=d
     .subst B;obtain⟨n,es⟩:=pp;rcases m with m|⟨rfl,_,m,hxo,_⟩|⟨m,hxo⟩
      .have hx:=AB.AaQ _ ε m p;rcases L with L|⟨c,L⟩
       .exact absurd L (hx.1 i)
       .exact absurd L (hx.2 i c)
      .cases i with
       |none=>exact absurd (AB.q0 J) (hxo n es)|some k=>
        have h5:=AB.noX_spec m p k (.inl rfl);rcases L with L|⟨c,L⟩
        .exact absurd L h5.1
        .exact absurd L (h5.2 c)
      .cases i with
       |none=>exact absurd (AB.q0 J) (hxo n es)|some k=>
        obtain ⟨cs,A,_⟩:=AB.pc J;exact absurd A (m cs)
     .by_cases C:r=s
      .subst C;rw[AB.AaF (hgs B)]at J;cases J
      .have h4:ε.o3 r i=Y pp:=by rw[<-J];exact(AB.Aae (N r B C)).symm
       have hrl:r<a.tmps.size:=by
        refine h.lts (λe=>?_);rw[AB.AaF e]at h4;cases h4
       exact ⟨⟨pp,h4⟩,h.xv ⟨pp,h4⟩ (D r B C) (λb δ=>ζ.block b (h.lt _ _ _ _ δ).1 (λq j2 R=>η r W b 0 C (λe=>q!) δ q j2 R))⟩
theorem Qo{a a':Act}{G:BR}{s d:Nat}(l:a'.tmps.size=a.tmps.size)(hd:d<a.tmps.size)(m:s<a.tmps.size){k:Option Nat}{g lo:Nat}(h:Z 0 k=Y (g,lo))(j:Nat):sr a' (CY a G s d Z) g j=Z.sr g j:=by
 show CY a G s d Z (a'.tmps.size+g) (Y j)=Z.sr g j;rw[l];simp only[CY,Dg.sr];rw[QQ U,QQ U,Ne ⟨U,k,lo,by rw[I_];exact h⟩]
 grind
theorem AP.reboxed(h:AP F0 w0 ε a w G){cs cs':List AO}(J:ε.get s=.bx cs)(C:ε.noX s W=X){w':World}(L:G9 (Bs a G s) w w')
  (l:N7 w' (λb o=>(b<w.heap.size/\AU w0.heap.size F0 G b o/\¬ZF (Bs a G s) b o)\/ZF Z b o) Z cs' (slot a s))
  (D:Jf Z)(M:∀q i b lo,Z q i=Y (b,lo)->b<w'.heap.size/\(w.heap.size<=b\/∃p j m,Bs a G s p j=Y (b,m)/\m<=lo))(N:∀c∈cs',c.t.WF):
  AP F0 w0 ((s,.bx cs')::ε) a w' (CY a G s s Z)/\∀b o,AU w0.heap.size F0 (CY a G s s Z) b o->(b<w.heap.size/\AU w0.heap.size F0 G b o/\¬ZF (Bs a G s) b o)\/ZF Z b o:=by
 have k:s<a.tmps.size:=Bi h J V;have A:AB.get ((s,EV.bx cs')::ε) s=.bx cs':=by rw[AB.bn,Ne rfl]
 refine h.Aaw k k L rfl rfl D M (λp O=>by rw[AB.bn,QQ U];exact h.dom p O) (λp=>?_) (λ_ _ _=>rfl) (λp _ E=>by rw[AB.bn,QQ (λe=>E e.symm)]) (λe=>absurd rfl e) (.inr (.inl ⟨rfl,⟨cs,J⟩,C,(λn es e=>by rw[A]at e;cases e),rfl⟩)) (λF' H=>?_)
 .rw[AB.bn];split
  .exact N
  .exact h.wf p
 .rw[A];obtain⟨b,c,θ,η,ζ,δ,h4,h5⟩:=l;have B:CY a G s s Z s=Z 0:=by simp[CY]
  simp only[AM];refine⟨b,c,θ,η,ζ,δ,by rw[B];exact h4,λi d hd=>?_⟩;obtain⟨x,e1,e2⟩:=h5 i d hd;refine⟨x,e1,?_⟩;rw[B];exact(e2.kept (λb o u R hf=>⟨R,λI=>hf (H b o I)⟩) (λ_ _ _=>rfl) BJ.rfl').sr (λg lo j κ=>Qo rfl k k κ j)
theorem jm(k:AP F0 w0 ε a w G)(hd:d<a.tmps.size)(L:o.dst=Y d){xs:Array Operand}{i:Nat}(hop:o.op=.call {callee:=.value (.func f),args:=xs,argTypes:=ats})(M:Be xs.toList ys=X)(h:(AE.Aad f ys i).wp (AS P) ε (Y d) K)
  {next:Act->World->Prop}(hn:∀e env' a' w',K e env'->Q7 a d a'->Bt F0 w0 ((d,e)::env') a' w'->next a' w'):o.wp P a w next Q:=by
 simp only[AE.wp]at h;split at h
 .rename_i d' s O D;simp at O;subst O;split at h
  .rename_i cs R;obtain⟨⟨hno,hds⟩,h⟩:=h;cases H:Fg ε i ys with
   |none=>rw[H]at h;exact h.elim|some ts=>
    rw [H]at h;simp only[Ai]at h;obtain⟨cs',m,hS,hK⟩:=h;rw[K_]at D;obtain⟨y,hy,D⟩:=D;have hxi:∀(xs:List Operand)(ys:List AF)(i:Nat)(y:AF),Be xs ys=X->ys[i]?=Y y->∃x,xs[i]?=Y x/\AK x y=X:=by
     intro xs
     induction xs with
     |nil=>intro ys i y A B;cases ys<;>simp[Be]at A B
     |cons x xs ih=>
      intro ys i y A B;cases ys with
      |nil=>simp[Be]at A|cons z ys=>
       simp [Be]at A
       grind
    obtain ⟨x,hx,hxy⟩:=hxi _ _ _ _ M hy;obtain⟨b,hsl,C⟩:=Hl k hxy D R;have hv:=Y9 k M H (λx' N=>by rw[hx]at N;cases N;rw[C];rfl);have κ:=k.wf s;rw[R]at κ;have hbx:=Ag k R V;have hsplit:∀b o,AU w0.heap.size F0 G b o↔((AU w0.heap.size F0 G b o/\¬ZF (Bs a G s) b o)\/ZF (Bs a G s) b o):=by
     intro b o;constructor
     .grind
     .rintro(hf|⟨q,i,lo,A,B⟩)
      .exact hf.1
      .obtain⟨p,j,I,_⟩:=CM A;exact .inr ⟨p,j,lo,I,B⟩
    have hF:(λb o=>(AU w0.heap.size F0 G b o/\¬ZF (Bs a G s) b o)\/ZF (Bs a G s) b o)=AU w0.heap.size F0 G:=by
     grind
    obtain ⟨B,h3⟩:=hS hv.2 κ;have hbr:N7 w (λb o=>(AU w0.heap.size F0 G b o/\¬ZF (Bs a G s) b o)\/ZF (Bs a G s) b o) (Bs a G s) cs (slot a s):=by
     rw [hF];obtain⟨b,c,θ,A,B,h3,h4,h5⟩:=hbx;refine⟨b,c,θ,A,B,h3,by rw[DO];exact h4,λi d hd=>?_⟩;obtain⟨x,e1,e2⟩:=h5 i d hd;exact⟨x,e1,by rw[DO];exact e2.sr (λg lo j hg=>Pb hg j)⟩
    obtain ⟨⟨k1,k2⟩,k3⟩:=h3 (λb o=>AU w0.heap.size F0 G b o/\¬ZF (Bs a G s) b o) w (xs.map a.eval) (slot a s) (Bs a G s) (by rw[hF];simpa using hv.1)
     (by rw[Array.getElem?_map];rw[<-J',hx];simp;rw[C,hsl]) hbr (KC k (Bi k R V)) (λq i b lo e=>by obtain⟨p,j,I,_⟩:=CM e;exact(k.lt _ _ _ _ I).1)
     (by
      rintro b o o' ⟨q,i,lo,e1,e2⟩ ⟨hf,hnz⟩;by_cases hlo:lo<=o'
      .exact hnz ⟨q,i,lo,e1,hlo⟩
      .obtain⟨p,j,I,_⟩:=CM e1;exact PM k b lo o' I U hf)
     ⟨k.below.now,λb o⟨_,_,_,e,_⟩=>by obtain⟨_,_,I,_⟩:=CM e;exact k.low I⟩
    have η:(execOp a.eval o).run P w=(callFunc f (xs.map a.eval)).run P w:=by simp[execOp,hop,resolve,Act.eval,Deferred.ofValue,invoke]
    unfold Oper.wp;rw[η,FC B _,Oper.upon_enter];refine k3.mono ?_;rintro e w' ⟨r,J,rfl,r1,r2,r3,r4,r5⟩;simp[L];obtain⟨δ,E⟩:=k.reboxed R hno r1 r2 r3 r4 k1;refine hn _ _ _ _ (hK ⟨k1,k2⟩) ⟨_,rfl⟩ ?_;have ζ:∀b o,AU w0.heap.size F0 (Je (CY a G s s J) d λ_=>W) b o->(b<w.heap.size/\AU w0.heap.size F0 G b o/\¬ZF (Bs a G s) b o)\/ZF J b o:=by
     intro b o hf;have hf2:AU w0.heap.size F0 (CY a G s s J) b o:=AU.mono (λp i b lo D=>by
      by_cases hpd:p=d
      .grind[B1]
      .rw[BE _ _ _ _ hpd]at D;exact⟨p,i,lo,D,R0 _⟩) hf
     exact E b o hf2
    have l:Bf w' w' (λb o=>(b<w.heap.size/\AU w0.heap.size F0 G b o/\¬ZF (Bs a G s) b o)\/ZF J b o) (AU w0.heap.size F0 (Je (CY a G s s J) d λ_=>W)):=λb o u hc hf=>⟨hc,λE=>hf (ζ b o E)⟩;by_cases hus:∃t,m=[t]
    .obtain⟨t,rfl⟩:=hus;exact δ.tv (Below.refl _ _) d hd t r (CH l t r r5) k2.1
    .have hof:EV.ofs m=.tp m:=by
      rcases m with _|⟨t,_|⟨t',m⟩⟩
      .rfl
      .grind
      .rfl
     have hur:∃vs,r=.tuple vs/\AR w' (λb o=>(b<w.heap.size/\AU w0.heap.size F0 G b o/\¬ZF (Bs a G s) b o)\/ZF J b o) m vs.toList:=by
      rcases m with _|⟨t,_|⟨t',m⟩⟩
      .exact r5
      .grind
      .exact r5
     obtain ⟨vs,rfl,hvs⟩:=hur;rw[hof];refine⟨_,δ.quiet (Below.refl _ _) d hd (.tp m) _ (λ_=>W) V V V ?_ k2⟩;simp only[AM];exact⟨vs,rfl,Ar l m _ hvs⟩
  .exact h.elim
 .exact h.elim
end
end Go.Sf
namespace Go.Sf
open Go.RowKit (Below)
theorem Ku{z g:Value}(h:z.cells=#[g])(k:Nat):Builtin.zeroCells z.cells k=(B_ k g).toArray:=by
 rw [h];apply Array.ext
 .simp[Builtin.zeroCells]
 .intro i j l;simp[Builtin.zeroCells,Nat.mod_one]
section
variable{P:Program}{w:World}
theorem Sw(t L ty e M:TypeId)(i:TypeInfo)(z H:Value)(κ kn:IntKind)(N:P.underlying t=Y (.slice e))(B:P.underlying L=Y (.int kn))(hi:P.info? e=Y i)(η:i.zero=Y z)(O:i.size=1)(I:z.cells=#[H])(ζ:H.oneCell'=X)
  (g h j:Nat)(l:Array Value)(δ:w.heap[g]?=Y (.cells l M (0,0)))
  (k:Nat)(h48:k*i.bytes<=281474976710656)(R:(k:Int)<=9223372036854775807)(A:h+k<=j)(C:h+k<=l.size):
  (Builtin.append_ #[t,L] ty #[.slice (Y ⟨g,0,W⟩) h j,.int κ k]).run P w=
   .ok (.slice (Y ⟨g,0,W⟩) (h+k) j) (w.setRow g (l.toList.take h++B_ k H++l.toList.drop (h+k)).toArray):=by
 have hw:IntKind.i64.wrap (k:Int)=k:=by rw[IntKind.wrap_i64];omega
 have D:¬((k:Int)<0):=U
 have E:¬(281474976710656<(k:Int)*(i.bytes:Int)):=by
  grind
 have m:=run_storeCells_at P g h M (B_ k H) 0 l w δ (by simpa using C) (λu hu=>by rw[B? hu];exact ζ);simp at m;by_cases θ:k=0
 .subst θ;simp at m;have J:IntKind.i64.wrap 0=0:=a_
  simp [Builtin.append_,run_underlying N,run_underlying B,sizeOf,typeInfo,hi,asInt,asIntOf,J,O,show h<=j from U,Addr.add_lit,m]
 .simp[Builtin.append_,run_underlying N,run_underlying B,sizeOf,typeInfo,zeroValue,hi,η,asInt,asIntOf,hw,D,E,O,θ,A,Addr.add_lit,Ku I,m]
theorem T9(t h ty e:TypeId)(i:TypeInfo)(j kn:IntKind)(k:P.underlying t=Y (.slice e))(g:P.underlying h=Y (.int kn))(hi:P.info? e=Y i):
  (Builtin.append_ #[t,h] ty #[.slice W 0 0,.int j 0]).run P w=.ok (.slice W 0 0) w:=by
 have l:IntKind.i64.wrap 0=0:=a_
 simp [Builtin.append_,run_underlying k,run_underlying g,sizeOf,typeInfo,hi,asInt,asIntOf,l]
theorem oy(t κ ty e:TypeId)(i:TypeInfo)(z η:Value)(kq kn:IntKind)(ht:P.underlying t=Y (.slice e))(J:P.underlying κ=Y (.int kn))(hi:P.info? e=Y i)(hz:i.zero=Y z)
  (hs:i.size=1)(hby:i.bytes<=4096)(B:z.cells=#[η])(h1:η.oneCell'=X)(v:Value)(len:Nat)(xs:List Value)(zo:Option (Nat×Nat))(l:GU w 1 v len xs zo)(k:Nat)(hk:k<=4096)(M:len+k<=AX):
  ∃v' w' z',(Builtin.append_ #[t,κ] ty #[v,.int kq k]).run P w=.ok v' w'/\GU w' 1 v' (len+k) (xs++B_ k η) z'/\JK w w' zo z':=by
 have m:(xs++B_ k η).length=(len+k)*1:=by rw[aE,l.1,B!];omega
 have L:(len+k)*i.bytes<=140737488355328:=by
  calc (len+k)*i.bytes<=AX*4096:=H! M hby
   _<=140737488355328:=a_
 have N:k*i.bytes<=281474976710656:=by
  grind
 have hml:len+k<=maxLen:=by simp[maxLen,AX]at *;omega
 have hzlt:∀b lo,zo=Y (b,lo)->b<w.heap.size:=by
  intro b lo I;rcases l.2 with⟨_,_,h⟩|⟨g,cap,E,θ,_,hg,_,_,_,_,h⟩
  .rw[h]at I;cases I
  grind
 have C:∀(old:Nat),old<len+k ->
   GU (w.drew.alloc (.cells (xs.toArray++Builtin.zeroCells z.cells k++Builtin.zeroCells z.cells (grownCap w (len+k) old e-(len+k))) e)) 1
    (.slice (Y ⟨w.heap.size,0,W⟩) (len+k) (grownCap w (len+k) old e)) (len+k) (xs++B_ k η) (Y (w.heap.size,(len+k)*1))/\
   JK w (w.drew.alloc (.cells (xs.toArray++Builtin.zeroCells z.cells k++Builtin.zeroCells z.cells (grownCap w (len+k) old e-(len+k))) e)) zo (Y (w.heap.size,(len+k)*1)):=by
  intro old ho;have hge:=grownCap_ge w (len+k) old e;have O:grownCap w (len+k) old e<=maxLen:=grownCap_le_maxLen w (len+k) old e hml;have hxl:xs.length=len:=by simpa using l.1
  refine ⟨⟨m,.inr ⟨w.heap.size,_,_,e,rfl,heap_alloc_new w.drew _,hge,O,?_,?_,rfl⟩⟩,⟨rfl,rfl,rfl,V,λk hk _=>Below.heap_alloc w.drew _ k hk,λb o v ζ _=>?_,λb lo I=>?_⟩⟩
  .rw[Ku B,Ku B];simp[hxl];omega
  .rw[Ku B,Ku B];simp only[Array.toList_append,ae];rw[<-ae,<-m];exact F_
  .have I:b<w.heap.size:=World.block_lt_of_cell? w ⟨b,o,W⟩ ζ;rw[World.cell?_alloc_lt _ _ (a:=⟨b,o,W⟩) (by simpa using I)];simpa using ζ
  .simp at I;rw[<-I.1];exact⟨V,.inl (R0 _)⟩
 rcases l.2 with⟨rfl,rfl,rfl⟩|⟨g,cap,E,θ,rfl,hg,hnc,O,hcs,H,rfl⟩
 .have hx:xs=[]:=x_ (by simpa using l.1);subst hx;by_cases hk0:k=0
  .subst hk0;exact⟨_,_,W,T9 t κ ty e i kq kn ht J hi,⟨V,.inl ⟨rfl,rfl,rfl⟩⟩,JK.refl w W V⟩
  .have δ:=Lib.run_append_nil_zeros (P:=P) w t κ ty e i z kq kn ht J hi hz k U U U N;have A:=C 0 U;simp only[I',List.nil_append,Array.empty_append]at A δ|-;exact⟨_,_,_,δ,A.1,A.2⟩
 .have hxl:xs.length=len:=by simpa using l.1
  simp at hcs H;by_cases D:len+k<=cap
  .have δ:=Sw (P:=P) (w:=w) t κ ty e θ i z η kq kn ht J hi hz hs B h1 g len cap E hg k N U D U;refine⟨_,_,Y (g,(len+k)*1),δ,⟨m,.inr ⟨g,cap,_,θ,rfl,setRow_heap w g E _ θ _ hg,D,O,?_,?_,rfl⟩⟩,⟨rfl,rfl,rfl,V,λj _ hj=>setRow_other w g j _ (λe=>hj (len*1) (by rw[e])),λb o u ζ hlo=>?_,λb lo I=>?_⟩⟩
   .simp;omega
   .rw[H,<-m];exact F_
   .by_cases hbg:b=g
    .subst hbg;have ho:=hlo (len*1) rfl;rw[cell_of_row _ b o _ θ (0,0) (setRow_heap w b E _ θ _ hg)];rw[cell_of_row w b o E θ (0,0) hg]at ζ;rw[D!,ae,D_ an,E_ U];simpa using ζ
    .rw[World.cell?_of_block (w:=w) (a:=⟨b,o,W⟩) (setRow_other w g b _ (λe=>hbg e))];exact ζ
   .simp only[nm,Prod.mk.injEq]at I;obtain⟨rfl,rfl⟩:=I;refine⟨by simpa using hzlt g (len*1) rfl,.inr ⟨len*1,rfl,H_ _ U⟩⟩
  .have R:(Builtin.firstCells i.size len (.slice (Y ⟨g,0,W⟩) len cap)).run P w.drew=.ok xs.toArray w.drew:=by
    refine run_firstCells_some (P:=P) w.drew i.size len ⟨g,0,W⟩ len cap xs (by rw[hs];omega) (λj u hu=>?_);rw[Addr.add_lit,I'];have:=l.cell rfl j u hu;simpa using this
   have δ:=Lib.run_append_grow_zeros (P:=P) w t κ ty e i z kq kn ht J hi hz (Y ⟨g,0,W⟩) len cap xs R k U U U (by simp[AX]at M;omega) N (growslice_fits U L);have A:=C cap U;exact⟨_,_,_,δ,A.1,A.2⟩
end
def Operand.AbF(n:Nat):Operand->Bool
 |.tmp m=>m==n|_=>T
variable{n:Nat}{x:Operand}
theorem Operand.isTmp_eq'(h:Operand.AbF n x=X):x=.tmp n:=by
 cases x<;>simp[Operand.AbF]at h;rw[h]
def lO(P:Program)(n s:Nat)(z:TV)(x:AF)(c:Call):Bool:=
 match c.callee,c.args.toList,c.argTypes.toList with
 |.builtin .append,[p,q],[t,t']=>Operand.AbF s p&&AK q x&&(match P.underlying t,P.underlying t' with
  |some (.slice e),Y (.int _)=>(match P.info? e with
   |some i=>(match i.zero with
    |some zz=>(match zz.cells.toList with
     |[z0]=>n==1&&i.size==1&&decide (i.bytes<=4096)&&EX z z0&&z0.oneCell'|_=>T)
    |none=>T)
   |none=>T)
  |_,_=>T)
 |_,_,_=>T
section
variable{P:Program}{S:FuncId->Fq->As->Prop}{F0:Nat->Nat->Prop}{w0:W0}{ε:AB}{a:Act}{w:World}{G:BR}{d:Nat}{o:Oper}{K:EV->AB->Prop}
variable{s:Nat}{x:Operand}{y:AF}{t t' e:TypeId}
theorem mY(O:AP F0 w0 ε a w G)(hd:d<a.tmps.size){kn:IntKind}{i:TypeInfo}{R B:Value}{z:TV}(θ:o.op=.call {callee:=.builtin .append,args:=#[.tmp s,x],argTypes:=#[t,t']})
  (ht:P.underlying t=Y (.slice e))(κ:P.underlying t'=Y (.int kn))(hi:P.info? e=Y i)(l:i.zero=Y R)(η:i.size=1)(ζ:i.bytes<=4096)(δ:R.cells=#[B])(E:EX z B=X)(h1:B.oneCell'=X)
  (hok:AK x y=X)(h:(AE.Abe 1 s z y).wp S ε (Y d) K):A1 P F0 w0 a w o d K:=by
 simp [AE.wp]at h;split at h
 .rename_i d' m es kk j H hs hy;simp at H;subst H;obtain⟨⟨⟨rfl,_⟩,J⟩,⟨h0,h4⟩,⟨g,hno,hds⟩,hK⟩:=h;obtain⟨k,rfl⟩:∃k:Nat,j=k:=⟨j.toNat,U⟩;simp at g hK;have A:=Ag O hs V;have C:=O.wf s;rw[hs]at C;simp[AM]at A;obtain⟨xs,⟨zo,k1,L⟩,k2,k3,k4⟩:=A;have hv:=(Ay O hok hy).1;simp[Aq]at hv;obtain⟨v',w',z',M,r1,D⟩:=oy (P:=P) t t' o.type e i R B kk kn ht κ hi l η ζ δ h1 (slot a s) es.length xs zo k1 k U g;have hnz:∀k,(∀lo,G s W≠Y (k,lo))->∀lo,zo≠Y (k,lo):=λk hk lo l=>hk 0 (by rw[L,l];rfl);have hfm:∀k,(B_ k z).flatMap TV.cells=B_ k z:=by
   intro k
   induction k with
   |zero=>rfl|succ k ih=>rw[B',w!,ih,J];rfl
  refine ⟨v',w',?_,_,_,hK,O.xgo hs hd hds (z':=z'.map λp=>(p.1,0)) D.os D.tape D.output D.size (λk hk l=>D.other k hk (hnz k l)) (λb lo l=>?_) V (λ_=>hno) (λF' G' env' a' hag hG _=>?_) ?_⟩
  .simp[execOp,θ,resolve,invoke,builtin,show a.eval (.tmp s)=slot a s from rfl,hv,M]
  .cases z' with
   |none=>simp at l|some p=>
    simp at l;obtain⟨q1,N⟩:=D.AbE p.1 p.2 rfl;rw[<-l.1];refine⟨q1,?_⟩;rcases N with N|⟨lo',N,_⟩
    .exact .inl N
    .exact .inr ⟨0,by rw[L,N];rfl⟩
  .simp only[AM];rw[hG];refine⟨xs++B_ k B,⟨z',by rw[aE,B!];exact r1,rfl⟩,?_,?_,?_⟩
   .rw[A!,hfm];refine Ik (Ar hag _ _ k2) ?_;rw[Bh];refine⟨V,λi u v hu hv=>?_⟩;rw[B? (w? hu),B? (w? hv)];exact(Hs _ F' z B E).1
   .intro e he;rcases A?.1 he with he|he
    .exact k3 e he
    .rw[B? he,J];rfl
   .intro x I;rcases A?.1 I with I|I
    .exact k4 x I
    .rw[B? I];exact h1
  .simp only[EV.WF,TV.WF]at C|-;refine⟨by rw[aE,B!];exact Uj g,Kf.2 ⟨C.2,?_⟩⟩;rw[Bp];intro u hu;rw[B? hu];exact(Hs w (λ_ _=>False) z B E).2
 .exact h.elim
variable{f:FuncId}{ys:List AF}{ats:Array TypeId}
theorem jo(l:AP F0 w0 ε a w G)(hd:d<a.tmps.size){xs:Array Operand}(j:o.op=.call {callee:=.value (.func f),args:=xs,argTypes:=ats})(k:Be xs.toList ys=X)(h:(AE.Aa2 f ys).wp (AS P) ε (Y d) K):A1 P F0 w0 a w o d K:=by
 simp [AE.wp]at h;cases g:vals ε ys with
 |none=>rw[g]at h;exact h.elim|some ts=>
  rw [g]at h;simp[Ai]at h;obtain⟨m,u,A⟩:=h;have hv:=GM l k g;obtain⟨⟨E,B⟩,C⟩:=u hv.2;obtain⟨r,D,H⟩:=C w (xs.map a.eval) (by simpa using Ar Yp _ _ hv.1);refine⟨.tuple r,w,by simp[execOp,j,resolve,Act.eval,Deferred.ofValue,invoke,<-D],_,_,A,_,l.quiet (Below.refl _ _) d hd (.tp m) _ (λ_=>W) V V V ?_ B⟩
  grind [AM,GE]
def cX(P:Program)(t:TypeId)(n:Nat):Bool:=
 match P.underlying t with
 |some (.slice e)=>(match P.info? e with
  |some ie=>ie.size==n|none=>T)
 |_=>T
variable{n:Nat}
theorem mj(A:AP F0 w0 ε a w G)(hd:d<a.tmps.size)(k:o.op=.buildSlice t 0 #[])(g:cX P t n=X)(h:(AE.Abg n).wp S ε (Y d) K):A1 P F0 w0 a w o d K:=by
 simp [AE.wp]at h;obtain⟨m,D⟩:=h;unfold cX at g;split at g
 .rename_i e B;split at g
  .rename_i E l;have j:(execOp a.eval o).run P w=.ok (.value (.slice (Y ⟨w.heap.size,0,W⟩) 0 0)) (w.alloc (.cells #[] e)):=by
    simp [execOp,k,Instr.buildSlice,run_underlying B,sizeOf,typeInfo,l,Instr.fill,newRow]
    grind
   have C:Below w.heap.size w (w.alloc (.cells #[] e)):=(Below.refl _ _).alloc (R0 _) _;refine⟨_,_,j,_,_,D,A.AbX C hd m (z:=Y (w.heap.size,0*n)) (xs:=[]) ⟨V,.inr ⟨w.heap.size,0,_,e,V,heap_alloc_new w _,V,by simp[maxLen],V,V,V⟩⟩ (λb lo u=>?_) (λF' _=>rfl) V V ⟨V,trivial⟩⟩;simp at u;rw[<-u.1];exact⟨R0 _,V⟩
  .cases g
 .cases g
theorem KJ(e0:AB):∀(g:I2)(ε:AB)(n:Nat),AB.get (OL e0 g ε) n=if n∈g then(e0.get n).gave else ε.get n
 |[],_,_=>by simp[OL]|q::g,ε,n=>by
  rw [OL,AB.bn,KJ e0 g ε n]
  grind
theorem MM(e:EV):(∃t,e=.ow t/\e.gave=.tv t)\/e.gave=.undef:=by
 cases e<;>first|exact .inl ⟨_,rfl,rfl⟩|exact .inr rfl
abbrev Sy:=Value ⊕ (Operand×Nat×Nat)
def U4:List Sy->Nat->List Sy->List Sy
 |l,_,[]=>l|l,i,y::ys=>U4 (l.set i y) (i+1) ys
def Sz(place:Nat->Option (Nat×Nat)):List (Nat×Operand)->List Sy->Option (List Sy)
 |[],row=>Y row|(i,x)::ps,row=>match place i with
  |some (off,n)=>if off+n<=row.length then Sz place ps (U4 row off ((List.range n).map λk=>.inr (x,k,n)))else W|none=>W
def Sy.is(a:Act):Sy->Value->Prop
 |.inl u,v=>v=u|.inr (x,k,_),v=>(a.eval x).cells[k]?=Y v
def Rb(a:Act)(row:List Sy)(xs:List Value):Prop:=xs.length=row.length/\∀(j:Nat)(s:Sy)(v:Value),row[j]?=Y s->xs[j]?=Y v->s.is a v
variable{v:Value}
theorem mM{a:Act}{row:List Sy}{xs:List Value}(h:Rb a row xs){s:Sy}(m:s.is a v)(i:Nat):Rb a (row.set i s) (xs.set i v):=by
 refine ⟨by simp[h.1],λj s' l g k=>?_⟩;rw[x!]at g k;by_cases e:i=j
 .grind
 .rw[QQ e]at g k;exact h.2 j s' l g k
theorem Z3{a:Act}:∀{g:List Sy}{vs:List Value}{row:List Sy}{xs:List Value}(i:Nat),Rb a row xs->Rb a g vs->Rb a (U4 row i g) (Ww xs i vs)
 |[],[],_,_,_,h,_=>h|[],_::_,_,_,_,_,h=>by have:=h.1;simp at this|_::_,[],_,_,_,_,h=>by have:=h.1;simp at this|s::g,v::vs,row,xs,i,h,k=>by
  rw [U4,Ww];exact Z3 (i+1) (mM h (k.2 0 s v rfl rfl) i) ⟨by have:=k.1;simpa using this,λj s' l m u=>k.2 (j+1) s' l (by simpa using m) e_⟩
theorem bw{a:Act}{place:Nat->Option (Nat×Nat)}:∀{u:List (Nat×Operand)}{row g:List Sy}{xs:Array Value},Rb a row xs.toList->(∀p∈u,∀l n,place p.1=Y (l,n)->(a.eval p.2).cells.size=n)->Sz place u row=Y g ->
  ∃xs',Instr.fill place xs (u.map λ(i,x)=>(i,a.eval x))=Y xs'/\Rb a g xs'.toList
 |[],row,g,xs,h,_,hf=>by
  simp [Sz]at hf;subst hf;exact⟨xs,rfl,h⟩
 |(i,x)::u,row,g,xs,h,D,hf=>by
  rw [Sz]at hf;split at hf
  .rename_i l n A;split at hf
   .rename_i E;have m:=D (i,x) V l n A;simp only at m;have H:=h.1;rw[I?]at H;have I:Rb a (U4 row l ((List.range n).map λk=>.inr (x,k,n))) (((a.eval x).cells.zipIdx.foldl (λcs(y:Value×Nat)=>cs.setIfInBounds (l+y.2) y.1) xs)).toList:=by
     rw [<-Array.foldl_toList,Array.toList_zipIdx,Rl,H?];refine Z3 l h ⟨by simp[m],λj s v B L=>?_⟩;rw[E!]at B;simp at B;obtain⟨k,M,rfl⟩:=B;have C:k=j:=by
      grind
     subst C;show(a.eval x).cells[k]?=Y v
     grind
    obtain ⟨xs',N,J⟩:=bw I (λp A=>D p (by simp[A])) hf;refine⟨xs',?_,J⟩;simp[A',Instr.fill,A]
    grind
   .cases hf
  .cases hf
def Sj:GC->Sy->Bool
 |.z c,.inl v=>Un c v|.v y k n,.inr (x,k',n')=>AK x y&&k==k'&&n==n'|.w q,.inr (x,k',n')=>AK x (.s q)&&k'==0&&n'==1|.g q k n,.inr (x,k',n')=>AK x (.s q)&&k==k'&&n==n'|_,_=>T
def TJ:List GC->List Sy->Bool
 |[],[]=>X|g::gs,s::ss=>Sj g s&&TJ gs ss|_,_=>T
def Ua(x:Operand)(n:Nat):GC->Bool
 |.z _=>T|.v y _ m=>AK x y&&m==n|.w q=>AK x (.s q)&&1==n|.g q _ m=>AK x (.s q)&&m==n
def TX(place:Nat->Option (Nat×Nat))(z:List Value)(ps:List (Nat×Operand))(gs:List GC):Bool:=
 (ps.all λp=>match place p.1 with
  |some (_,n)=>gs.any (Ua p.2 n)|none=>T) &&
 match Sz place ps (z.map .inl)with
 |some row=>TJ gs row|none=>T
def cU(P:Program)(t:TypeId)(ps:List (Nat×Operand))(gs:List GC):Bool:=
 match P.info? t,P.underlying t with
 |some it,Y (.array _ e)=>
  match it.zero,P.info? e with
  |some z,Y ie=>TX (λi=>Y (i*ie.size,ie.size)) z.cells.toList ps gs|_,_=>T
 |some it,Y (.struct fields)=>
  match it.zero,fields.toList.mapM (λf=>(P.info? f.type).map λi=>(f.offset,i.size))with
  |some z,Y places=>TX (places.toArray[·]?) z.cells.toList ps gs|_,_=>T
 |_,_=>T
theorem UZ:∀{gs:List GC}{k:List Sy},TJ gs k=X->k.length=gs.length/\∀(j:Nat)(g:GC),gs[j]?=Y g->∃s,k[j]?=Y s/\Sj g s=X
 |[],[],_=>⟨rfl,λj g h=>by simp at h⟩|[],_::_,h=>c?
 |_::_,[],h=>c?
 |g::gs,s::k,h=>by
  rw [TJ,gN]at h;obtain⟨l,m⟩:=UZ h.2
  grind
theorem Xm:∀{gs:List GC}{cs:List AO},F7 ε gs=Y cs->cs.length=gs.length/\∀(j:Nat)(g:GC),gs[j]?=Y g->∃c,cs[j]?=Y c/\g.cell ε=Y c
 |[],cs,h=>by simp[F7]at h;subst h;exact⟨rfl,λj g h=>by simp at h⟩|g::gs,cs,h=>by
  rw [F7]at h;split at h
  .rename_i c cs' l k;cases h;obtain⟨m,u⟩:=Xm k
   grind
  .cases h
variable{q:Nat}
theorem KI(h:AK x (.s q)=X):a.eval x=slot a q:=by
 cases x<;>simp[AK]at h;rw[h];rfl
variable{c:AO}
theorem nv(l:AP F0 w0 ε a w G){g:GC}(h:g.cell ε=Y c)(j:Ua x n g=X):(a.eval x).cells.size=n:=by
 cases g with
 |z c=>cases j
 |v y k m=>
  simp [Ua]at j;obtain⟨j,rfl⟩:=j;simp[GC.cell]at h;split at h
  .rename_i t B;split at h
   .rename_i u A;have:=BL (G4 (Ay l j B).1).1
    grind [I?,I!]
   .cases h
  .cases h
 |w q=>
  simp [Ua]at j;obtain⟨j,rfl⟩:=j;rw[KI j];have:(slot a q).oneCell'=X:=by
   simp [GC.cell]at h;split at h
   .rename_i t e;have:=Ag l e V
    grind [AM,Vr]
   next m es e=>have:=Ag l e V;exact HK (ρ:=sr a G) (c:=⟨X,.xl m es⟩) this
   .cases h
  rw [QB this];rfl
 |g q k m=>
  simp [Ua]at j;obtain⟨j,rfl⟩:=j;rw[KI j];simp[GC.cell]at h;split at h
  .rename_i cs e;split at h
   next u=>have:=Ag l e V;simp[AM]at this;obtain⟨vs,A,C,_⟩:=this;rw[A];show vs.size=m;rw[C,I! u]
   .cases h
  .cases h
theorem uc(A:AP F0 w0 ε a w G){g:GC}(h:g.cell ε=Y c){s:Sy}(l:Sj g s=X)(hv:s.is a v):BF w (AU w0.heap.size F0 G) (sr a G) (g.src.bind λp=>G p.1 p.2) c v/\c.t.WF:=by
 cases g with
 |z c'=>
  cases s with
  |inr p=>cases l
  |inl u=>
   simp [GC.cell]at h;subst h;have:v=u:=hv;subst this;exact WH l
 |v y k m=>
  cases s with
  |inl u=>cases l
  |inr p=>
   obtain ⟨x,E,H⟩:=p;simp[Sj]at l;obtain⟨⟨B,rfl⟩,_⟩:=l;have hv:(a.eval x).cells[k]?=Y v:=hv;simp[GC.cell]at h;split at h
   .rename_i t J;split at h
    next c' θ C=>cases h;obtain⟨L,M⟩:=Ay A B J;obtain⟨N,O⟩:=G4 L;rw[<-J']at hv;exact⟨⟨((Bh _ _).1 N).2 k _ _ C hv,O v (w? hv)⟩,Bp.1 (IV M) _ (w? C)⟩
    .cases h
   .cases h
 |w q=>
  cases s with
  |inl u=>cases l
  |inr p=>
   obtain ⟨x,E,H⟩:=p;simp[Sj]at l;obtain⟨⟨B,rfl⟩,_⟩:=l;have hv:(a.eval x).cells[0]?=Y v:=hv;rw[KI B]at hv;have j:=A.wf q;simp[GC.cell]at h;split at h
   next t e=>cases h;have:=Ag A e V;simp[AM]at this;rw[QB (Vr this)]at hv;cases hv;rw[e]at j;exact⟨this.c,j⟩
   next m es e=>cases h;have:=Ag A e V;have D:BF w (AU w0.heap.size F0 G) (sr a G) (G q W) ⟨X,.xl m es⟩ (slot a q):=this;rw[QB (HK D)]at hv;cases hv;rw[e]at j;exact⟨D,j⟩
   .cases h
 |g q k m=>
  cases s with
  |inl u=>cases l
  |inr p=>
   obtain ⟨x,E,H⟩:=p;simp[Sj]at l;obtain⟨⟨B,rfl⟩,_⟩:=l;have hv:(a.eval x).cells[k]?=Y v:=hv;rw[KI B]at hv;have j:=A.wf q;simp[GC.cell]at h;split at h
   .rename_i cs e;split at h
    .have:=Ag A e V;simp[AM]at this;obtain⟨vs,C,_,R⟩:=this;rw[C]at hv;have hv:vs[k]?=Y v:=hv;obtain⟨x',I,D⟩:=R k c h;rw[hv]at I;cases I;rw[e]at j;exact⟨D,j c (w? h)⟩
    .cases h
   .cases h
theorem AP.regather(h:AP F0 w0 ε a w G)(hd:d<a.tmps.size){C:I2}{cs:List AO}{vs:Array Value}(σ:Nat->Option (Nat×Option Nat))(hdq:d∉C)(δ:vs.size=cs.length)(hσ:∀j q i,σ j=Y (q,i)->q∈C)
  (O:∀j R p,σ j=Y p->σ R=Y p->j=R)(hc:∀(j:Nat)(c:AO),cs[j]?=Y c->∃x,vs[j]?=Y x/\BF w (AU w0.heap.size F0 G) (sr a G) ((σ j).bind λp=>G p.1 p.2) c x)(hwf:∀c∈cs,c.t.WF)(hq:∀q∈C,q<a.tmps.size):
  Bt F0 w0 ((d,.oag cs)::OL ε C ε) (a.put (Y d) (.agg vs)) w:=by
 let A:BR:=λp i=>if p=d then i.bind λj=>(σ j).bind λp=>G p.1 p.2 else if p∈C then W else G p i
 have I:∀p i b lo,A p i=Y (b,lo)->(∃j q k,p=d/\i=Y j/\σ j=Y (q,k)/\G q k=Y (b,lo))\/(p≠d/\p∉C/\G p i=Y (b,lo)):=by
  intro p i b lo m;simp[A]at m;split at m
  .rename_i u;cases i with
   |none=>cases m
   |some j=>
    simp at m;cases hj:σ j with
    |none=>rw[hj]at m;cases m
    |some q=>rw[hj]at m;exact .inl ⟨j,q.1,q.2,u,rfl,hj,m⟩
  grind
 have hF:∀b o,AU w0.heap.size F0 A b o->AU w0.heap.size F0 G b o:=λb o hf=>AU.mono (λp i b lo m=>by
  grind) hf
 have J:Bf w w (AU w0.heap.size F0 G) (AU w0.heap.size F0 A):=λb o v hc hf=>⟨hc,λhf'=>hf (hF b o hf')⟩;have D:sr (a.put (Y d) (.agg vs)) A=sr a G:=Lz (Bj _ _ _) λp m=>by
  grind
 refine ⟨A,?_,?_,h.below,i!,?_,?_,?_⟩
 .intro p i p' i' b lo lo' e1 g;rcases I _ _ _ _ e1 with⟨j,q,k,rfl,rfl,η,f2⟩|⟨n1,n2,η⟩<;>rcases I _ _ _ _ g with⟨R,q',k',rfl,rfl,ζ,g2⟩|⟨m1,m2,ζ⟩
  .obtain⟨κ,e4⟩:=h.gi _ _ _ _ _ _ _ f2 g2;subst κ;subst e4;exact⟨rfl,by rw[O j R _ η ζ]⟩
  .obtain⟨κ,_⟩:=h.gi _ _ _ _ _ _ _ f2 ζ;exact absurd (κ▸hσ j q k η) m2
  .obtain⟨κ,_⟩:=h.gi _ _ _ _ _ _ _ g2 η;exact absurd (κ▸hσ R q' k' ζ) n2
  .exact h.gi _ _ _ _ _ _ _ η ζ
 .intro p i b lo e1;rcases I _ _ _ _ e1 with⟨j,q,k,_,_,_,f⟩|⟨_,_,f⟩<;>exact h.lt _ _ _ _ f
 .intro p m;rw[Bj]at m;rw[AB.bn,QQ U,KJ];split
  next hm=>have:=hq p hm;omega
  .exact h.dom p m
 .intro p m;rw[Bj]at m;rw[AB.bn];by_cases u:d=p
  .subst u;rw[Ne rfl,Cx _ _ _ hd];simp only[AM];refine⟨_,rfl,δ,λi c hci=>?_⟩;obtain⟨x,M,hr⟩:=hc i c hci;refine⟨x,M,?_⟩;have:A d (Y i)=(σ i).bind λp=>G p.1 p.2:=by simp only[A,if_true];rfl
   rw [this,D];exact hr.kept J (λ_ _ _=>rfl) BJ.rfl'
  .rw[QQ u,AY _ _ _ _ u,KJ];split
   .rcases MM (ε.get p)with⟨t,e,g⟩|g
    .have E:=Ag h e V;rw[g];simp[AM]at E|-;exact CH J _ _ (Bq.rep E (λb lo o hz ho=>PM h b lo o hz ho))
    .rw[g];simp[AM]
   .rename_i hnq;refine AM.kept J (λi=>by simp[A];rw[QQ (λe=>u e.symm),QQ hnq]) (λ_ _ _ _=>rfl) D BJ.rfl' (λr i k _⟨pp,H⟩=>?_) (λr off _⟨cs',l⟩=>?_) (λr i _⟨pp,H⟩=>?_) (h.slots p m)
    .have L:=AB.tn V H;have B:=KJ ε C ε r;split at B
     .have θ:=L.2;rcases MM (ε.get r)with⟨t,_,g⟩|g<;>rw[g]at B<;>simp[AB.nat,B]at θ<;>cases θ
     .have M:∃p,ε.nat r i=Y p:=⟨pp,by rw[<-L.2];exact(AB.Aap B).symm⟩;exact⟨M,h.nh M (AY _ _ _ _ L.1) (λ_ _ _ _=>rfl)⟩
    .rw[AB.bn]at l;by_cases N:d=r
     .rw[Ne N]at l;cases l
     .rw[QQ N,KJ]at l;split at l
      .rcases MM (ε.get r)with⟨t,_,g⟩|g<;>(rw[g]at l;cases l)
      .exact⟨⟨cs',l⟩,AY _ _ _ _ N⟩
    .have L:=AB.o4 V V H;have B:=KJ ε C ε r;split at B
     .have θ:=L.2;rcases MM (ε.get r)with⟨t,_,g⟩|g<;>rw[g]at B<;>cases i<;>simp[AB.o3,B]at θ<;>cases θ
     .have M:∃p,ε.o3 r i=Y p:=⟨pp,by rw[<-L.2];exact(AB.Aae B).symm⟩;exact⟨M,h.xv M (AY _ _ _ _ L.1) (λ_ _=>rfl)⟩
 .intro p;rw[AB.bn];split
  .exact hwf
  .rw[KJ];have:=h.wf p;split
   .rcases MM (ε.get p)with⟨t,e,g⟩|g
    .rw[e]at this;rw[g];exact this
    .rw[g];trivial
   .exact this
theorem aK{α β:Type}{f:α->Option β}{l:List α}(g:(l.filterMap f).Nodup){i j:Nat}{p:β}(hi:(l[i]?).bind f=Y p)(u:(l[j]?).bind f=Y p):i=j:=by
 have key:∀(l:List α)(i j:Nat),(l.filterMap f).Nodup->(l[i]?).bind f=Y p->(l[j]?).bind f=Y p->i<j->False:=by
  intro l
  induction l with
  |nil=>intro i j _ h;simp at h|cons x l C=>
   intro i j g A B m;obtain⟨j,rfl⟩:∃k,j=k+1:=⟨j-1,U⟩
   grind
 grind
theorem mZ(J:AP F0 w0 ε a w G)(hd:d<a.tmps.size){D:Array (Nat×Operand)}{gs:List GC}(η:o.op=.build t D)(l:cU P t D.toList gs=X)(h:(AE.x9 gs).wp S ε (Y d) K):A1 P F0 w0 a w o d K:=by
 simp only[AE.wp]at h;obtain⟨⟨hn,hdq⟩,h⟩:=h;cases E:F7 ε gs with
 |none=>rw[E]at h;exact h.elim|some cs=>
  rw [E]at h;simp[Ai]at h;obtain⟨hl,C⟩:=Xm E;have key:∀(place:Nat->Option (Nat×Nat))(z:Array Value),TX place z.toList D.toList gs=X->∃xs',Instr.fill place z (D.map λ(i,x)=>(i,a.eval x)).toList=Y xs'/\xs'.size=cs.length/\
    ∀(j:Nat)(c:AO),cs[j]?=Y c->(∃x,xs'[j]?=Y x/\BF w (AU w0.heap.size F0 G) (sr a G) (((gs[j]?).bind GC.src).bind λp=>G p.1 p.2) c x)/\c.t.WF:=by
   intro place z δ;unfold TX at δ;rw[gN,E']at δ;obtain⟨hp1,I⟩:=δ;split at I
   .rename_i row M;have h5:(D.map λ(i,x)=>(i,a.eval x)).toList=D.toList.map λ(i,x)=>(i,a.eval x):=V
    obtain ⟨xs',ζ,R⟩:=bw (a:=a) (xs:=z) (row:=z.toList.map .inl) ⟨V,λj s v A B=>by
     rw [E!]at A;simp only[J?]at A;obtain⟨u,hu,rfl⟩:=A;rw[hu]at B;cases B;rfl⟩ (λp hm off n L=>by
     grind [List.any_eq_true,C!,nv]) M
    obtain ⟨m1,m2⟩:=UZ I;have N:=R.1;rw[I?]at N;refine⟨xs',by rw[h5];exact ζ,U,λj c m=>?_⟩;have hj:j<gs.length:=by have:=(C'.1 m).1;omega
    have H:gs[j]?=Y gs[j]:=y_ hj;obtain⟨c',O,hc2⟩:=C j _ H;rw[m]at O;cases O;obtain⟨s,hs1,hs2⟩:=m2 j _ H;have hx:xs'[j]?=Y (xs'[j]' U):=Array.getElem?_eq_getElem U;obtain⟨r1,r2⟩:=uc J hc2 hs2 (R.2 j s _ hs1 (by rw[J'];exact hx));rw[H];exact⟨⟨_,hx,r1⟩,r2⟩
   .cases I
  have built:∃xs',P.built t (D.map λ(i,x)=>(i,a.eval x)).toList=Y xs'/\xs'.size=cs.length/\
    ∀(j:Nat)(c:AO),cs[j]?=Y c->(∃x,xs'[j]?=Y x/\BF w (AU w0.heap.size F0 G) (sr a G) (((gs[j]?).bind GC.src).bind λp=>G p.1 p.2) c x)/\c.t.WF:=by
   unfold cU at l;unfold Program.built;split at l
   .rename_i it len e A B;simp only[A,B];split at l
    next z ie hz hie=>simp only[hz,hie];exact key _ _ l
    .cases l
   .rename_i it θ A B;simp only[A,B];split at l
    next z κ hz L=>simp only[hz,L];exact key _ _ l
    .cases l
   .cases l
  obtain ⟨xs',A,B,h3⟩:=built;refine⟨.agg xs',w,by simp[execOp,η,run_build w t _ _ A],_,_,h,J.regather hd (λj=>(gs[j]?).bind GC.src) hdq B (λj q i e=>?_) (λj j' p ζ R=>aK hn ζ R) (λj c m=>(h3 j c m).1) (λc m=>?_) (λq hq=>?_)⟩
  .rw[K_]at e;obtain⟨g,H,e⟩:=e;refine F!.2 ⟨g,w? H,?_⟩;cases g<;>simp[GC.src]at e<;>simp[GC.slot,e.1]
  .grind[C!]
  .obtain⟨g,H,e⟩:=F!.1 hq;obtain⟨j,hj⟩:=C! H;obtain⟨c,_,m⟩:=C j g hj;cases g with
   |z c=>cases e
   |v y k n=>cases e
   |w q'=>
    cases e;simp[GC.cell]at m;split at m
    next t e=>exact Bi J e V
    next n es e=>exact Bi J e V
    .cases m
   |g q' k n=>
    cases e;simp[GC.cell]at m;split at m
    next cs e=>exact Bi J e V
    .cases m
end
end Go.Sf
