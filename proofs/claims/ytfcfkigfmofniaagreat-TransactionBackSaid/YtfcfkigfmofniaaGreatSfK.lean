/- Operations that take a list of one's own, in drawn regions. -/
import Derived.Test.YtfcfkigfmofniaaGreatSfSwap
set_option linter.all false
open Option renaming some->Y,none->W
open Bool renaming true->X,false->T
open List renaming map_cons->u!,cons_append->u?,mem_singleton->v1,contains_eq_mem->v5,all_eq_true->v6,range->v9,mem_append->v_,mem_flatMap->v!,getElem?_set->v?,mem_range->w_,mem_cons->w!,pairwise_cons->w?,pairwise_append->x_
open Bool renaming or_eq_true->x!,not_eq_true'->x?,and_true->y_,not_true->y!
open Option renaming isSome_iff_exists->y?,toList_some->z9
open Array renaming getElem?_eq_some_iff->z_,getElem?_eq_getElem->z!,getD_eq_getD_getElem?->z?,getElem?_replicate->A_
namespace Go.Sf
def AD.tkn:AD->Option QQ
 |.Aav _=>Y []|.Aau _=>Y []|.tkx s=>Y [s]|.Aah _ s _=>Y [s]|.AaA q=>Y [q]|_=>W
def RS(qs:QQ)(O:AB):AB:=qs.map (·,EV.undef)++O
theorem On(qs:QQ)(O:AB)(n:Nat):AB.get (RS qs O) n=if n∈qs then .undef else O.get n:=by
 induction qs with
 |nil=>rfl|cons q qs a=>
  grind [RS,AB.d6]
theorem Ia(qs:QQ)(O:AB)(c:Nat):AB.jj c (RS qs O)=AB.jj c O:=by
 induction qs with
 |nil=>rfl|cons q qs a=>
  simp only[RS,u!,u?,AB.ej]at a|-;rw[a];rfl
structure eM(S:FuncId->Fq->Al->Prop)(op:AD)(qs:QQ)(d:Nat)(O:AB)(e:EV):Prop where
 dno:O.jj d=X
 AaM:e.yi=W
 slbx:∀n∈op.slots,∀cs,O.get n≠.bx cs
 sub:∀n∈qs,n∈op.slots
 again:∀env2,(∀n∈op.slots,env2.get n=O.get n)->env2.jj d=X->∀K2:EV->AB->Prop,K2 e (RS qs env2)->op.wp S env2 (Y d) K2
variable{y:AE}
theorem tX{O env2:AB}(h:∀n∈y.sl,env2.get n=O.get n):y.val env2=y.val O:=by
 cases y with
 |c t=>rfl|s n=>simp only[AE.val,AE.ev,h n e?]
variable{O:AB}
theorem tW{t:TV}(h:y.val O=Y t):∀n∈y.sl,∀cs,O.get n≠.bx cs:=by
 intro n a cs b;cases y with
 |c t=>simp[AE.sl]at a|s m=>
  grind [AE.sl,v1,AE.val,AE.ev,EV.val]
variable{qs:QQ}
theorem take{S:FuncId->Fq->Al->Prop}{op:AD}{d:Nat}{K:EV->AB->Prop}(c:op.tkn=Y qs)(h:op.wp S O (Y d) K):∃e,eM S op qs d O e/\K e (RS qs O):=by
 cases op<;>simp only[AD.tkn,reduceCtorEq,t5]at c
 case Aau n=>
  subst c;simp only[AD.wp]at h;exact⟨_,⟨h.1,rfl,f?,V,λenv2 _ a j b=>⟨a,b⟩⟩,h.2⟩
 case Aav n=>
  subst c;simp only[AD.wp]at h;exact⟨_,⟨h.1,rfl,f?,V,λenv2 _ a j b=>⟨a,b⟩⟩,h.2⟩
 case tkx s=>
  subst c;simp only[AD.wp]at h;split at h
  .rename_i t n es hd i;simp only[t5]at hd;subst hd;refine⟨.xo n es,⟨h.1,rfl,λm u cs l=>?_,f?,λenv2 g a j b=>?_⟩,h.2.2⟩
   .grind[AD.slots,v1]
   .have:=g s f?;simp only[AD.wp,this,i];exact⟨a,h.2.1,b⟩
  .exact h.elim
 case AaA q=>
  subst c;simp only[AD.wp]at h;split at h
  .rename_i t n k hd i;simp only[t5]at hd;subst hd;refine⟨.x1 n k,⟨h.1.1,rfl,λm u cs l=>?_,f?,λenv2 g a j b=>?_⟩,h.2⟩
   .grind[AD.slots,v1]
   .have:=g q f?;simp only[AD.wp,this,i];exact⟨⟨a,h.1.2⟩,b⟩
  .exact h.elim
 case Aah n s y=>
  subst c;simp only[AD.wp]at h;split at h
  .rename_i t m es m' k hd i w;simp only[t5]at hd;subst hd;obtain⟨B,C,E,F,G,H⟩:=h;refine⟨.xo n (es++k),⟨F,rfl,λx o cs l=>?_,f?,λenv2 g a j b=>?_⟩,H⟩
   .grind[AD.slots,tW]
   .have z:=g s f?;have A:=tX (O:=O) (env2:=env2) (y:=y) (λx o=>g x (by simp[AD.slots,o]));simp only[AD.wp,z,i,A,w];exact⟨B,C,E,a,G,b⟩
  .exact h.elim
def PR.tk(r:PR):Option (QQ×Nat):=
 match r.op.tkn,r.guard,r.dst with
 |some qs,W,Y d=>Y (qs,d)|_,_,_=>W
variable{r:PR}
theorem PR.tk_some{d:Nat}(h:r.tk=Y (qs,d)):r.op.tkn=Y qs/\r.guard=W/\r.dst=Y d:=by
 unfold PR.tk at h
 grind
theorem XN{S:FuncId->Fq->Al->Prop}{d:Nat}{K:AB->Prop}(g:r.tk=Y (qs,d))(h:r.wp S O K):∃e,eM S r.op qs d O e/\K ((d,e)::RS qs O)/\
  ∀env2,(∀n∈r.op.slots,env2.get n=O.get n)->env2.jj d=X->∀a:AB->Prop,a ((d,e)::RS qs env2)->r.wp S env2 a:=by
 obtain ⟨l,o,t⟩:=PR.tk_some g;have k:r.op.wp S O (Y d) λe env'=>K ((d,e)::env'):=by
  grind [PR.wp,AB.put]
 obtain ⟨e,c,u⟩:=take l k;refine⟨e,c,u,λenv2 i j a b=>?_⟩;unfold PR.wp;rw[o];simp only[t,AB.put];exact c.again env2 i j (λe env'=>a ((d,e)::env')) b
def zb(D:QQ)(p q:PR):Bool:=
 match q.tk with
 |some (qs,d)=>PR.yu D p&&D.contains d&&qs.all D.contains&&Ed p.dst.toList (d::q.op.slots)&&Ed (d::qs) (p.op.slots++p.zN)&&Ed p.op.dem q.op.slots|none=>T
def z6(p q:PR):Bool:=
 match p.tk,q.tk with
 |some (_,dp),Y (_,dq)=>Ed (dp::p.op.slots) (dq::q.op.slots)|_,_=>T
section
variable{P:Program}{F0:Nat->Nat->Prop}{w0:W0}{N:Nat}{ops:Array Oper}{K:AB->Prop}{D:QQ}
variable{r:PR}{O o4:AB}{e:EV}{f:A7}
theorem PM.away{S:FuncId->Fq->Al->Prop}{d:Nat}(h:PM S r d O o4 e f){x:Nat}(a:x∉r.op.slots)(b:∀y,(O.get y).yi≠Y x)(u:EV):f.on x u=u:=by
 have c:=h.slot;have g:=h.cell;cases f with
 |none=>rfl|slot s t=>
  grind [A7.on,CD]
 |cell s off t=>
  simp only[A7.on]
  grind
theorem PM.stay{S:FuncId->Fq->Al->Prop}{d:Nat}(h:PM S r d O o4 e f){x:Nat}(a:x∉r.op.dem)(b:∀cs,O.get x≠.bx cs):f.on x (O.get x)=O.get x:=by
 have c:=h.slot;have g:=h.ok;cases f with
 |none=>rfl|slot s t=>
  grind [A7.on]
 |cell s off t=>
  simp only[A7.on]
  grind
theorem VO(h:PR.yu D r=X):∃d,r.dst=Y d/\r.op.mov=X/\(r.op.x3=X->r.guard=W)/\Ed r.op.Aae D=X/\(r.op.x3=X\/d∈D):=by
 simp only[PR.yu,sx,x!,x?]at h;obtain⟨⟨⟨⟨b,c⟩,g⟩,i⟩,j⟩:=h;obtain⟨d,hd⟩:=y?.1 c;refine⟨d,hd,b,λa=>?_,i,?_⟩
 .rcases g with h|h
  .rw[a]at h;cases h
  .simpa using h
 grind [PR.old]
variable{rs:List PR}
theorem tM(hR:L0 F0 w0 N O)(hj:JD D O){op:Oper}{p q:PR}(hp:L4 P N ops op p=X)(a:zb D p q=X)(h:Es (AX P) K (p::q::rs) O):Es (AX P) K (q::p::rs) O:=by
 unfold zb at a;split at a
 .rename_i qs d ht;simp only[sx,v5,yk,v6]at a;obtain⟨⟨⟨⟨⟨Z,dD⟩,sD⟩,θ⟩,ε⟩,c3⟩:=a;obtain⟨w,J,pm,pg',pb,_⟩:=VO Z;rw[J]at θ;simp only[z9]at θ;have hpd:w≠d:=λe=>An θ (x:=w) V c!;have H:w∉q.op.slots:=λe=>An θ (x:=w) V c!;have i:d∉p.op.slots:=λe=>An ε (x:=d) V (DI e);have dng:d∉p.zN:=λe=>An ε (x:=d) V (Dw e);have j:∀s∈qs,s∉p.op.slots:=λs κ e=>An ε (x:=s) (by simp[κ]) (DI e);have sng:∀s∈qs,s∉p.zN:=λs κ e=>An ε (x:=s) (by simp[κ]) (Dw e);obtain⟨e',A,h⟩:=h;have hR':=hR.congr A.symm;have k:=hj.congr A.symm;obtain⟨o4,⟨⟨e1,l,hw⟩,ep,F,o⟩,hR1⟩:=FU hR' hp (PS J pm pg' h);have g1:∀n,e1.get n=if w=n then ep else F.on n (e'.get n):=λn=>by
   rw [l.1,o.o4,AB.d6,A7.get]
  have I:∀x,x∈D->x∉p.op.slots->∀e,F.on x e=e:=λx η ζ e=>o.away ζ (λy hy=>k.no hy η) e;obtain⟨e,M,hK,Q⟩:=XN ht hw;have z:∀n∈q.op.slots,e'.get n=e1.get n:=by
   intro n R;have hne:w≠n:=λe=>H (e▸R);have hb:=M.slbx n R;rw[g1,az hne]at hb|-;refine(o.stay (λhd=>An c3 hd R) (λcs hc=>?_)).symm;refine hb (match F.on n (.bx cs)with|.bx cs'=>cs'|_=>cs) ?_;rw[hc];cases F with
   |none=>rfl|slot s t=>
    have:=o.ok;simp only[A7.on];split
    next e=>subst e;simp only[A7.ok]at this;rw[hc]at this;cases this
    .rfl
   |cell s off t=>
    simp only[A7.on];split<;>rfl
  have hdn:e'.jj d=X:=by
   have:=M.dno;rw[l.2,o.o4,AB.ej,A7.jj,sx]at this;exact this.2
  refine ⟨e',A,Q e' z hdn _ ⟨_,.refl _,?_⟩⟩;have C:∀m,m≠d->m∉qs->AB.get ((d,e)::RS qs e') m=e'.get m:=λm u b=>by
   rw [AB.d6,az (λe=>u e.symm),On,az b]
  have nr:∀c,AB.jj c ((d,e)::RS qs e')=AB.jj c e':=λc=>by
   rw [AB.ej,Ia,EV.y8,M.AaM];rfl
  have L:D6 p.op F (Y w) e' ((d,e)::RS qs e'):=by
   refine ⟨λx B=>.inl (C x (λe=>i (e▸B)) (λe=>j x e B)),λx B r hr=>.inl (C r (λe=>k.no hr (e▸dD)) (λe=>k.no hr (sD r e))),λx B _=>C x (λe=>i (e▸CD B)) (λe=>j x e (CD B)),?_,λR d' hd' δ=>by rw[nr];exact δ⟩;have u:=o.slot;have b:=o.ok;have h4:=o.cell;cases F with
   |none=>trivial|slot x t=>
    simp only[A7.ok]at b|-;rw[C x (λe=>i (e▸CD (u _ _ rfl))) (λe=>j x e (CD (u _ _ rfl)))];exact b
   |cell x off t=>
    obtain ⟨ds,h5,h6⟩:=b;refine⟨ds,?_,h6⟩;rw[C x (λe=>?_) (λe=>?_)]
    .exact h5
    .rcases h4 _ _ _ rfl with h7|⟨y,_,h8⟩
     .exact i (e▸h7)
     .exact k.no h8 (e▸dD)
    .rcases h4 _ _ _ rfl with h7|⟨y,_,h8⟩
     .exact j x e h7
     .exact k.no h8 (sD x e)
  have hgp:∀g∈p.zN,AB.get ((d,e)::RS qs e') g=e'.get g:=λg G=>C g (λe=>dng (e▸G)) (λe=>sng g e G);refine o.again _ L hgp _ (Hi hK ?_);refine⟨λm=>?_,λc=>?_⟩
  .simp only[AB.d6,A7.get,g1,On];by_cases u:d=m
   .subst u;rw[ae rfl,az hpd,I d dD i,ae rfl]
   .rw[az u];by_cases E:w=m
    .have:m∉qs:=λZ=>H (E▸M.sub m Z);rw[az this,ae E,ae E]
    .rw[az E];by_cases b:m∈qs
     .rw[ae b,az E,I m (sD m b) (j m b),az u,ae b]
     .rw[az b,az E,az u,az b]
  .simp only[AB.ej,A7.jj,l.2,o.o4,Ia,EV.y8,M.AaM];cases(match ep.yi with|some s=>c !=s|none=>X)<;>rfl
 .cases a
theorem tL(hR:L0 F0 w0 N O)(hj:JD D O){op oq:Oper}{p q:PR}(hp:L4 P N ops op p=X)(hq:L4 P N ops oq q=X)(a:zb D q p=X)(h:Es (AX P) K (p::q::rs) O):Es (AX P) K (q::p::rs) O:=by
 unfold zb at a;split at a
 .rename_i w d ht;simp only[sx,v5,yk,v6]at a;obtain⟨⟨⟨⟨⟨hm,M⟩,sD⟩,Z⟩,c2⟩,c3⟩:=a;obtain⟨C,Q,qm,qg',qb,qold⟩:=VO hm;rw[Q]at Z;simp only[z9]at Z;have hqd:C≠d:=λe=>An Z (x:=C) V c!;have I:C∉p.op.slots:=λe=>An Z (x:=C) V c!;have l:d∉q.op.slots:=λe=>An c2 (x:=d) V (DI e);have dng:d∉q.zN:=λe=>An c2 (x:=d) V (Dw e);have o:∀s∈w,s∉q.op.slots:=λs hs e=>An c2 (x:=s) (by simp[hs]) (DI e);have sng:∀s∈w,s∉q.zN:=λs hs e=>An c2 (x:=s) (by simp[hs]) (Dw e);obtain⟨e',E,h⟩:=h;have hR':=hR.congr E.symm;have hj':=hj.congr E.symm;obtain⟨o4,⟨⟨B,b,hw⟩,κ,R,F,θ⟩,hR1⟩:=FU (K:=λo4=>(∃B,M1 B o4/\q.wp (AX P) B (Es (AX P) K rs))/\∃κ,eM (AX P) p.op w d e' κ/\o4=(d,κ)::RS w e'/\∀env2,(∀n∈p.op.slots,env2.get n=e'.get n)->env2.jj d=X->∀K2:AB->Prop,K2 ((d,κ)::RS w env2)->p.wp (AX P) env2 K2) hR' hp (by
   obtain ⟨e,δ,k2,k3⟩:=XN ht h;exact k3 e' (λ_ _=>rfl) δ.dno _ ⟨k2,e,δ,rfl,k3⟩)
  subst F;have j:JD D B:=by
   intro x u;rw[b.2,AB.ej,Ia,EV.y8,R.AaM];exact hj' x u
  obtain ⟨X1,⟨hK,eq,ε,A⟩,_⟩:=FU (hR1.congr b.symm) hq (PS Q qm qg' hw);have G:∀n,n≠d->n∉w->B.get n=e'.get n:=λn i k=>by
   rw [b.1,AB.d6,az (λe=>i e.symm),On,az k]
  have J:∀x,x∈D->x∉q.op.slots->∀e,ε.on x e=e:=λx hxD hxn e=>A.away hxn (λy hy=>j.no hy hxD) e;have L:D6 q.op ε (Y C) B e':=by
   refine ⟨λx u=>.inl (G x (λe=>l (e▸u)) (λe=>o x e u)).symm,λx u r hr=>.inl (G r (λe=>j.no hr (e▸M)) (λe=>j.no hr (sD r e))).symm,λx u _=>(G x (λe=>l (e▸CD u)) (λe=>o x e (CD u))).symm,?_,λη d' hd' H=>?_⟩
   .have i:=A.slot;have k:=A.ok;have ζ:=A.cell;cases ε with
    |none=>trivial|slot x t=>
     simp only[A7.ok]at k|-;rw[<-G x (λe=>l (e▸CD (i _ _ rfl))) (λe=>o x e (CD (i _ _ rfl)))];exact k
    |cell x off t=>
     obtain ⟨ds,h5,h6⟩:=k;refine⟨ds,?_,h6⟩;rw[<-G x (λe=>?_) (λe=>?_)]
     .exact h5
     .rcases ζ _ _ _ rfl with h7|⟨y,_,h8⟩
      .exact l (e▸h7)
      .exact j.no h8 (e▸M)
     .rcases ζ _ _ _ rfl with h7|⟨y,_,h8⟩
      .exact o x e h7
      .exact j.no h8 (sD x e)
   .rw[b.2,AB.ej,Ia,sx]at H;exact H.2
  have hgq:∀g∈q.zN,e'.get g=B.get g:=λg hg=>(G g (λe=>dng (e▸hg)) (λe=>sng g e hg)).symm;refine⟨e',E,A.again e' L hgq _ ⟨_,.refl _,θ _ (λn η=>?_) ?_ _ (Hi hK ?_)⟩⟩
  .have hne:C≠n:=λe=>I (e▸η);rw[AB.d6,az hne,A7.get];have hb:=R.slbx n η;have δ:=A.slot;have k2:=L.eff;cases ε with
   |none=>rfl|slot s t=>
    simp only[A7.on];rw[az];intro e;subst e;exact An c3 (δ _ _ rfl) η
   |cell s off t=>
    simp only[A7.on];rw[az];intro e;subst e;obtain⟨cs,k3,_⟩:=k2;exact hb cs k3
  .rw[AB.ej,A7.jj,R.dno,y_];refine UM (λs he=>?_);rcases A.yi s he with i|⟨x,_,k⟩
   .exact λe=>An qb i (e▸M)
   .exact λe=>j.no k (e▸M)
  .rw[A.o4];have hdd:∀e,ε.on d e=e:=J d M l;refine⟨λm=>?_,λc=>?_⟩
   .simp only[AB.d6,A7.get,On,b.1];by_cases i:C=m
    .have z:m∉w:=λhm=>I (i▸R.sub m hm);have ζ:¬d=m:=λe=>hqd (i.trans e.symm);rw[ae i,az ζ,az z,ae i]
    .rw[az i];by_cases k:d=m
     .subst k;rw[ae rfl,ae rfl,hdd]
     .rw[az k,az k];by_cases z:m∈w
      .rw[ae z,ae z,J m (sD m z) (o m z)]
      .rw[az z,az z,az i]
   .simp only[AB.ej,A7.jj,b.2,Ia,EV.y8,R.AaM];cases(match eq.yi with|some s=>c !=s|none=>X)<;>rfl
 .cases a
theorem tV{S:FuncId->Fq->Al->Prop}{p q:PR}(a:z6 p q=X)(h:Es S K (p::q::rs) O):Es S K (q::p::rs) O:=by
 unfold z6 at a;split at a
 .rename_i F o qs A H I;have i:∀x,x=o\/x∈p.op.slots->x≠A/\x∉q.op.slots:=λx i=>by
   grind [An,List.mem_cons_self,List.mem_cons_of_mem]
  obtain ⟨e',E,h⟩:=h;obtain⟨R,w,⟨G,b,M⟩,t⟩:=XN H h;obtain⟨eq,g,Q,j⟩:=XN I M;have J:∀n,n≠o->n∉F->G.get n=e'.get n:=λn k u=>by
   rw [b.1,AB.d6,az (λe=>k e.symm),On,az u]
  have B:∀n∈q.op.slots,e'.get n=G.get n:=λn l=>(J n (λe=>(i n (.inl e)).2 l) (λe=>(i n (.inr (w.sub n e))).2 l)).symm;have C:e'.jj A=X:=by
   have:=g.dno;rw[b.2,AB.ej,Ia,sx]at this;exact this.2
  refine ⟨e',E,j e' B C _ ⟨_,.refl _,t _ (λn l=>?_) ?_ _ (Hi Q ?_)⟩⟩
  .rw[AB.d6,az (λe=>(i n (.inr l)).1 e.symm),On,az (λe=>(i n (.inr l)).2 (g.sub n e))]
  .rw[AB.ej,Ia,w.dno,EV.y8,g.AaM];rfl
  .refine⟨λm=>?_,λc=>?_⟩
   .simp only[AB.d6,On,b.1];by_cases k:A=m
    .have u:¬o=m:=λe=>(i o (.inl rfl)).1 (e.trans k.symm);have L:m∉F:=λz=>(i m (.inr (w.sub m z))).1 k.symm
     grind
    .rw[az k];by_cases u:o=m
     .have L:m∉qs:=λz=>(i m (.inl u.symm)).2 (g.sub m z)
      grind
     grind
   .simp only[AB.ej,Ia,b.2,EV.y8,w.AaM,g.AaM]
 .cases a
end
def AD.ptr:AD->Option Nat
 |.bad s _=>Y s|.zj (.s m) _=>Y m|_=>W
def EV.box2(e e2:EV):Prop:=e2=e\/∃cs cs',e=.bx cs/\e2=.bx cs'
variable{m:Nat}{O:AB}
theorem Yo{S:FuncId->Fq->Al->Prop}{op:AD}{dst:Option Nat}{K:EV->AB->Prop}(ho:op.ptr=Y m)(h:op.wp S O dst K):
  ∃e,K e O/\(∀s,e.yi=Y s->(s∈op.Aae\/(O.get m).yi=Y s))/\(∀cs,e≠.bx cs)/\∀env2,(O.get m).box2 (env2.get m)->(∀s,(O.get m).yi=Y s->(O.get s).box2 (env2.get s))->∀i:EV->AB->Prop,i e env2->op.wp S env2 dst i:=by
 unfold AD.ptr at ho;split at ho
 .rename_i s k;simp only[t5]at ho;subst ho;simp only[AD.wp]at h;split at h
  .rename_i cs b;refine⟨_,h,λs' c=>.inl (by simpa[AD.Aae,EV.yi]using c.symm),V,λenv2 a _ i g=>?_⟩;have:∃cs',env2.get s=.bx cs':=by
    rcases a with a|⟨_,cs',_,a⟩
    .grind
    .exact⟨cs',a⟩
   obtain ⟨cs',j⟩:=this;simp only[AD.wp,j];exact g
  .rename_i row b;refine⟨_,h,by simp[EV.yi],V,λenv2 a _ i g=>?_⟩;rcases a with a|⟨cs,_,a,_⟩
   .simp only[AD.wp,a,b];exact g
   .rw[b]at a;cases a
  .exact h.elim
 .rename_i m' k;simp only[t5]at ho;subst ho;simp only[AD.wp,AE.ev]at h;split at h
  .rename_i row b;refine⟨_,h,by simp[EV.yi],V,λenv2 a _ i g=>?_⟩;rcases a with a|⟨cs,_,a,_⟩
   .simp only[AD.wp,AE.ev,a,b];exact g
   .rw[b]at a;cases a
  .rename_i s off b;split at h
   .rename_i cs t;refine⟨_,h,λs' c=>.inr (by rw[b];exact c),V,λenv2 a j i g=>?_⟩;have o:env2.get m'=.bp s off:=by
     rcases a with a|⟨_,_,a,_⟩
     .rw[a,b]
     grind
    have l:∃cs',env2.get s=.bx cs':=by
     rcases j s (by rw[b];rfl)with j|⟨_,cs',_,j⟩
     .grind
     .exact⟨cs',j⟩
    obtain ⟨cs',l⟩:=l;simp only[AD.wp,AE.ev,o,l];exact g
   .exact h.elim
  .exact h.elim
 .cases ho
def Wt(m q s:Nat)(cs:List AR)(off:Nat)(O:AB):AB:=(s,.bx (cs.set off ⟨T,.undef⟩))::(m,.undef)::(q,.undef)::O
theorem SI{S:FuncId->Fq->Al->Prop}{m q d:Nat}{K:EV->AB->Prop}(h:(AD.zL m q).wp S O (Y d) K):
  ∃e s off cs,O.get m=.nh s off .hd/\O.get s=.bx cs/\(∀cs,O.get q≠.bx cs)/\O.jj d=X/\e.yi=W/\K e (Wt m q s cs off O)/\
   ∀env2,env2.get m=O.get m->env2.get q=O.get q->env2.get s=O.get s->env2.jj d=X->∀c:EV->AB->Prop,c e (Wt m q s cs off env2)->(AD.zL m q).wp S env2 (Y d) c:=by
 simp only[AD.wp]at h;split at h
 .rename_i E s off n F b i j;simp only[t5]at b;subst b;split at h
  .rename_i cs k;cases a:O.nat s off with
   |none=>rw[a]at h;exact h.elim|some es=>
    rw [a]at h;simp only[Ad]at h;obtain⟨z,⟨A,B⟩,C⟩:=h;refine⟨_,s,off,cs,i,k,by rw[j];simp,A,rfl,C,λenv2 l o g t c u=>?_⟩;have w:env2.nat s off=Y es:=by rw[<-a];exact AB.zk g
    simp only[AD.wp,l,o,g,i,j,k,w,Ad];exact⟨z,⟨t,B⟩,u⟩
  .exact h.elim
 .exact h.elim
def za(D:QQ)(p q:PR):Bool:=
 match p.op.ptr,p.guard,p.dst,q.op,q.guard,q.dst with
 |some x,W,Y dp,.zL m qq,W,Y d=>D.contains d&&D.contains dp&&D.contains m&&D.contains qq&&Ed [dp] [d,m,qq]&&Ed [x] [d,m,qq]&&Ed p.op.Aae D&&dp !=x&&PR.yu D p|_,_,_,_,_,_=>T
variable{off:Nat}
theorem PW{m q s:Nat}{cs:List AR}(n:Nat):AB.get (Wt m q s cs off O) n=if s=n then .bx (cs.set off ⟨T,.undef⟩)else if m=n then .undef else if q=n then .undef else O.get n:=rfl
theorem O3{m q s:Nat}{cs:List AR}(c:Nat):AB.jj c (Wt m q s cs off O)=AB.jj c O:=by
 simp [Wt,AB.ej,EV.y8,EV.yi]
section
variable{S:FuncId->Fq->Al->Prop}{K:AB->Prop}{D:QQ}
variable{O:AB}{rs:List PR}
theorem tQ(Z:JD D O){p q:PR}(a:za D p q=X)(h:Es S K (p::q::rs) O):Es S K (q::p::rs) O:=by
 unfold za at a;split at a
 .rename_i x g m A d B L M Q R θ;simp only[sx,v5,yk,bne_iff_ne,ne_eq]at a;obtain⟨⟨⟨⟨⟨⟨⟨⟨η,dpD⟩,mD⟩,qD⟩,G⟩,H⟩,pb⟩,hdx⟩,_⟩:=a;have n1:g≠d:=λe=>An G (x:=g) V c!;have ε:g≠m:=λe=>An G (x:=g) V c!;have n3:g≠A:=λe=>An G (x:=g) V c!;have n4:x≠d:=λe=>An H (x:=x) V c!;have n5:x≠m:=λe=>An H (x:=x) V c!;have n6:x≠A:=λe=>An H (x:=x) V c!;obtain⟨e',w,h⟩:=h;have k:=Z.congr w.symm;simp only[PR.wp,L,M,AB.put]at h;obtain⟨e,⟨e1,b,ζ⟩,hre,I,z⟩:=Yo B h;simp only[PR.wp,R,θ,Q,AB.put]at ζ;obtain⟨eq,s,off,cs,k1,J,k3,δ,k5,hK,j⟩:=SI ζ;have l:∀n,n≠g->e1.get n=e'.get n:=λn hn=>by rw[b.1,AB.d6,az (λe=>hn e.symm)]
  have o:s≠g:=by
   intro hs;subst hs;rw[b.1,AB.d6,ae rfl]at J;exact I cs J
  have C:e'.get m=.nh s off .hd:=by rw[<-l m (λe=>ε e.symm)];exact k1
  have t:e'.get s=.bx cs:=by rw[<-l s o];exact J
  have E:s∉D:=k.no (x:=m) (by rw[C];rfl);have κ:s≠d:=λe=>E (e▸η);have F:e'.jj d=X:=by rw[b.2,AB.ej,sx]at δ;exact δ.2
  refine ⟨e',w,?_⟩;simp only[PR.wp,R,θ,Q,AB.put];refine j e' (l m (λe=>ε e.symm)).symm (l A (λe=>n3 e.symm)).symm (l s o).symm F _ ⟨_,.refl _,?_⟩;simp only[PR.wp,L,M,AB.put];refine z _ ?_ (λr hr=>?_) _ (Hi hK ?_)
  .rw[AB.d6,az (λe=>n4 e.symm),PW];by_cases u:s=x
   .subst u;rw[ae rfl];exact .inr ⟨cs,_,t,rfl⟩
   .rw[az u,az (λe=>n5 e.symm),az (λe=>n6 e.symm)];exact .inl rfl
  .have i:r∉D:=k.no hr;rw[AB.d6,az (λ(e:d=r)=>i (e▸η)),PW];by_cases u:s=r
   .subst u;rw[ae rfl];exact .inr ⟨cs,_,t,rfl⟩
   .rw[az u,az (λ(e:m=r)=>i (e▸mD)),az (λ(e:A=r)=>i (e▸qD))];exact .inl rfl
  .refine⟨λn=>?_,λc=>?_⟩
   .simp only[AB.d6,PW,b.1]
    grind
   .simp only[AB.ej,O3,b.2,EV.y8,k5]
    grind
 .cases a
theorem tO(η:JD D O){p q:PR}(a:za D q p=X)(h:Es S K (p::q::rs) O):Es S K (q::p::rs) O:=by
 unfold za at a;split at a
 .rename_i x g m z d A H I J L M;simp only[sx,v5,yk,bne_iff_ne,ne_eq]at a;obtain⟨⟨⟨⟨⟨⟨⟨⟨R,C⟩,mD⟩,qD⟩,E⟩,F⟩,qb⟩,hdx⟩,_⟩:=a;have n1:g≠d:=λe=>An E (x:=g) V c!;have n2:g≠m:=λe=>An E (x:=g) V c!;have n3:g≠z:=λe=>An E (x:=g) V c!;have n4:x≠d:=λe=>An F (x:=x) V c!;have n5:x≠m:=λe=>An F (x:=x) V c!;have n6:x≠z:=λe=>An F (x:=x) V c!;obtain⟨e',o,h⟩:=h;have j:=η.congr o.symm;simp only[PR.wp,L,M,J,AB.put]at h;obtain⟨ep,s,off,cs,k1,k2,k3,k4,θ,⟨ε,b,κ⟩,t⟩:=SI h;simp only[PR.wp,H,I,AB.put]at κ;obtain⟨e,hK,G,hnb,i⟩:=Yo A κ;have k:s∉D:=j.no (x:=m) (by rw[k1];rfl);have hsd:s≠d:=λe=>k (e▸R);have g1:∀n,n≠d->n≠m->n≠z->(ε.get n).box2 (e'.get n):=by
   intro n u ζ δ;rw[b.1,AB.d6,az (λe=>u e.symm),PW];by_cases Q:s=n
   .subst Q;rw[ae rfl];exact .inr ⟨_,cs,rfl,k2⟩
   .rw[az Q,az (λe=>ζ e.symm),az (λe=>δ e.symm)];exact .inl rfl
  have l:JD D ε:=by
   intro y Z;rw[b.2,AB.ej,O3,EV.y8,θ];exact j y Z
  refine ⟨e',o,?_⟩;simp only[PR.wp,H,I,AB.put];refine i e' (g1 x n4 n5 n6) (λr w=>?_) _ ⟨_,.refl _,?_⟩
  .have hrD:r∉D:=l.no w
   grind
  .simp only[PR.wp,L,M,J,AB.put];have B:s≠g:=λe=>k (e▸C);refine t _ (by rw[AB.d6,az n2]) (by rw[AB.d6,az n3]) (by rw[AB.d6,az (λe=>B e.symm)]) ?_ _ (Hi hK ?_)
   .rw[AB.ej,k4,y_];refine UM (λr w=>?_);rcases G r w with u|u
    .grind[An]
    .exact λ(e:r=d)=>l.no u (e▸R)
   .refine⟨λn=>?_,λc=>?_⟩
    .simp only[AB.d6,PW,b.1]
     grind
    .simp only[AB.ej,O3,b.2,EV.y8,θ]
     grind
 .cases a
end
def Aaq(p:PR):Bool:=p.tk.isSome||(match p.op,p.guard,p.dst with|.zL _ _,W,Y _=>X|_,_,_=>T)
variable{O:AB}
theorem af{S:FuncId->Fq->Al->Prop}{p:PR}{K:AB->Prop}(ho:Aaq p=X)(h:p.wp S O K):∃o4,K o4/\(∀c,o4.jj c=O.jj c)/\∀b:AB->Prop,b o4->p.wp S O b:=by
 simp only[Aaq,x!]at ho;rcases ho with ho|ho
 .obtain⟨⟨qs,d⟩,i⟩:=y?.1 ho;obtain⟨e,g,j,a⟩:=XN i h;exact⟨_,j,λc=>by rw[AB.ej,Ia,EV.y8,g.AaM];rfl,a O (λ_ _=>rfl) g.dno⟩
 grind [PR.wp,AB.put,SI,AB.ej,O3,EV.y8]
theorem fQ{D:QQ}{p q:PR}(h:zb D q p=X):Aaq p=X:=by grind[zb,Aaq]
theorem cL{D:QQ}{p q:PR}(h:zb D p q=X):PR.yu D p=X:=by
 unfold zb at h
 grind
theorem fT{p q:PR}(h:z6 p q=X):Aaq p=X:=by grind[z6,Aaq]
theorem cM{D:QQ}{p q:PR}(h:za D p q=X):PR.yu D p=X:=by
 unfold za at h
 grind
theorem fR{D:QQ}{p q:PR}(h:za D q p=X):Aaq p=X:=by grind[za,Aaq]
end Go.Sf
namespace Go.Sf
open Go.RowKit (Below)
def Nq(rs:List PR)(i:Nat):PR:=(rs[i]?).getD ⟨W,.AaG 0,W⟩
def AaR(p:PR):Bool:=match p.op,p.guard,p.dst with
 |.yz _,W,Y _=>X|_,_,_=>T
def Aac(p q:PR):Bool:=match p.op,p.guard,p.dst,q.op,q.guard,q.dst with
 |.yz gs,W,Y dp,.alc _,W,Y dq=>dp !=dq&&!(gs.flatMap GC.sl).contains dq|_,_,_,_,_,_=>T
theorem fP{p q:PR}(h:Aac p q=X):AaR p=X:=by grind[Aac,AaR]
def Vm(p:PR):Bool:=match p.op,p.guard,p.dst with
 |.st _ (.s _) _,W,W=>X|.xst _ _ _,W,W=>X|_,_,_=>T
def Aaa(D:QQ)(p q:PR):Bool:=match p.op,p.guard,p.dst,q.op,q.guard,q.dst with
 |.xst x v _,W,W,.xia (.s _) _ _,W,Y d=>D.contains d&&!x.sl.contains d&&!v.sl.contains d|_,_,_,_,_,_=>T
def R1(D:QQ)(p q:PR):Bool:=match p.op,p.guard,p.dst,q.op,q.guard,q.dst with
 |.st _ (.s x) v,W,W,.bad m _,W,Y d=>D.contains d&&d !=x&&d !=m&&!v.sl.contains d&&!v.sl.contains m|.st _ (.s x) v,W,W,.zj (.s m) _,W,Y d=>D.contains d&&d !=x&&d !=m&&!v.sl.contains d&&!v.sl.contains m|_,_,_,_,_,_=>T
theorem fO{D:QQ}{p q:PR}(h:R1 D p q=X):Vm p=X:=by grind[R1,Vm]
theorem fS{D:QQ}{p q:PR}(h:Aaa D p q=X):Vm p=X:=by grind[Aaa,Vm]
def AD.vops:AD->Option (List AE)
 |.len x=>Y [x]|.mm _ x y=>Y [x,y]|.zq _ x lo hi=>Y (x::(lo.toList++hi.toList))|.bin _ _ x y=>Y [x,y]|.zp _ x=>Y [x]|.fdv x _=>Y [x]|.ldv x _=>Y [x]|_=>W
def Aaj(D:QQ)(p q:PR):Bool:=match p.op.vops,p.guard,p.dst,q.op,q.guard,q.dst with
 |some xs,W,Y d,.st _ (.s x) v,W,W=>PR.yu D p&&d !=x&&!v.sl.contains d&&Ed (xs.flatMap AE.sl) v.sl|_,_,_,_,_,_=>T
def Aan(D:QQ)(p q:PR):Bool:=match p.op,p.guard,p.dst,q.op,q.guard,q.dst with
 |.ldb b _,W,Y d,.st _ (.s x) v,W,W=>PR.yu D p&&D.contains b&&b !=x&&d !=x&&d !=b&&!v.sl.contains d&&!v.sl.contains b|.bad b _,W,Y d,.st _ (.s x) v,W,W=>PR.yu D p&&d !=x&&!v.sl.contains d&&!v.sl.contains b|_,_,_,_,_,_=>T
def zZ(D:QQ)(p q:PR):Bool:=Wv D p q||Aab D p q||Aac p q||Aam D p q||Aak D p q||(R1 D p q||Aaa D p q)||Aaj D p q||Aan D p q||(zb D p q||zb D q p||z6 p q||za D p q||za D q p)
def okQ(p:PR):Bool:=match p.op,p.guard,p.dst with
 |.tkx _,W,Y _=>X|.Aat _ _ _ _,W,Y _=>X|_,_,_=>T
theorem cK{D:QQ}{p q:PR}(h:zZ D p q=X):((PR.yu D p=X\/AaR p=X)\/Vm p=X)\/Aaq p=X:=by
 simp [zZ]at h;rcases h with(((((((h|h)|h)|h)|h)|h)|h)|h)|((((h|h)|h)|h)|h)
 rotate_right 5
 .grind[cL]
 .exact .inr (fQ h)
 .exact .inr (fT h)
 .grind[cM]
 .exact .inr (fR h)
 all_goals refine .inl ?_
 .simp[Wv]at h
  grind
 .unfold Aab at h
  grind
 .grind[fP]
 .unfold Aam at h
  grind
 .unfold Aak at h
  grind
 .grind[fO,fS]
 .unfold Aaj at h
  grind
 .unfold Aan at h
  grind
def ni(ops:Array Oper):QQ:=
 ops.toList.foldl (λacc o=>acc++[o.after.toList.foldl (λm e=>if Region.binds .any e then m|||(1<<<e.on)|||acc.getD e.on 0 else m) 0]) []
def okCa(p:PR):Bool:=match p.op,p.guard,p.dst with
 |.zT _ _ _,W,Y _=>X|_,_,_=>T
variable{O:AB}
theorem lL{S:FuncId->Fq->Al->Prop}{p:PR}{K:AB->Prop}(ho:okCa p=X)(h:p.wp S O K):p.wp S O λo4=>K o4/\∀c,o4.jj c=O.jj c:=by
 unfold okCa at ho;split at ho
 .rename_i f args i d g j k;simp[PR.wp,g,j,k,AD.wp,AB.put]at h|-;split at h
  .rename_i t q a u;simp at a;subst a;split at h
   .rename_i cs w;refine⟨h.1,?_⟩;cases hv:IB O i args with
    |none=>rw[hv]at h;exact h.2.elim|some z=>
     rw [hv]at h;obtain⟨_,r,l,o⟩:=h;refine⟨r,l,λb=>⟨o b,λc=>?_⟩⟩;have:EV.y8 c r.aev=X:=by cases r<;>rfl
     rw [AB.ej,AB.ej,this];rfl
   .exact h.elim
  .exact h.elim
 .cases ho
def okCm(p:PR):Bool:=match p.op,p.dst with
 |.zC _ _ _,Y _=>X|_,_=>T
def ac(D:QQ)(r:PR):Bool:=
 NB r.op||AaR r||okQ r||Aaq r||okCa r||okCm r||(r.op.mov&&r.dst.isSome&&(!r.op.x3||r.guard.isNone)&&Ed r.op.Aae D)
def UO(P:Program)(N:Nat)(D:QQ)(ops:Array Oper)(rs:List PR):Bool:=
 let n:=ops.size
 let M:=ni ops
 MA P N ops ops.toList rs&&(v9 n).all (λi=>ac D (Nq rs i)) &&
 (v9 n).all (λi=>match ops[i]? with
  |some o=>o.after.toList.all λe=>!Region.binds .any e||decide (e.on<i)|none=>T) &&
 (v9 n).all (λi=>(v9 n).all λj=>!(M.getD i 0).testBit j||(match ops[i]? with
  |some o=>o.after.toList.any λe=>Region.binds .any e&&(e.on==j||(decide (e.on<i)&&(M.getD e.on 0).testBit j))|none=>T)) &&
 (v9 n).all (λi=>(v9 i).all λj=>(M.getD i 0).testBit j||zZ D (Nq rs j) (Nq rs i))
section
variable{P:Program}{F0:Nat->Nat->Prop}{w0:W0}{N:Nat}{p:Option (Nat×Value)}{ops:Array Oper}{K:AB->Prop}{D:QQ}
variable{f:A7}{d:Option Nat}{O:AB}
theorem D6.refl{op:AD}(h:f.ok O):D6 op f d O O:=
 ⟨λ_ _=>.inl rfl,λ_ _ _ _=>.inl rfl,λ_ _ _=>rfl,h,λ_ _ _ h=>h⟩
theorem Ld(d:Nat)(a:AB):∀(qs:QQ)(O:AB),AB.jj d (Ql a qs O)=AB.jj d O
 |[],_=>rfl|q::qs,O=>by
  rw [Ql,AB.ej,Ld d a qs O]
  grind [Lc,EV.y8,EV.yi]
theorem oc(d:Nat)(e:EV)(O:AB)(g:GC)(h:d∉g.sl):GC.cell ((d,e)::O) g=g.cell O:=by
 cases g with
 |z c=>rfl|v x k n=>
  cases x with
  |s q=>
   grind [GC.sl,v1,GC.cell,AE.val,AE.ev,AB.d6]
  |c t=>rfl
 |w q=>
  grind [GC.sl,v1,GC.cell,AB.d6]
 |g q k n=>
  grind [GC.sl,v1,GC.cell,AB.d6]
theorem aJ(d:Nat)(e:EV)(O:AB):∀(gs:List GC),d∉gs.flatMap GC.sl->JE ((d,e)::O) gs=JE O gs
 |[],_=>rfl|g::gs,h=>by
  rw [List.flatMap_cons,v_,not_or]at h;simp[JE,oc d e O g h.1,aJ d e O gs h.2]
variable{gs:List GC}
theorem qB{q:Nat}(h:q∈gs.filterMap GC.slot):q∈gs.flatMap GC.sl:=by
 rw [List.mem_filterMap]at h;obtain⟨g,a,e⟩:=h;rw[v!];refine⟨g,a,?_⟩;cases g<;>simp[GC.slot]at e<;>simp[GC.sl,e]
theorem Vc{S:FuncId->Fq->Al->Prop}{p:PR}{K:AB->Prop}{d:Nat}(c:p.op=.yz gs)(g:p.guard=W)(i:p.dst=Y d)(h:p.wp S O K):
  ∃cs,((gs.filterMap GC.src).Nodup/\d∉gs.filterMap GC.slot)/\JE O gs=Y cs/\K ((d,.yy cs)::Ql O (gs.filterMap GC.slot) O):=by
 simp only[PR.wp,c,g,i,AD.wp,AB.put]at h;obtain⟨j,b⟩:=h;cases a:JE O gs with
 |none=>rw[a]at b;exact b.elim|some k=>rw[a]at b;exact⟨k,j,rfl,b⟩
theorem SM{S:FuncId->Fq->Al->Prop}{p:PR}{K:AB->Prop}{d:Nat}{cs:List AR}(b:p.op=.yz gs)(c:p.guard=W)(g:p.dst=Y d)(i:(gs.filterMap GC.src).Nodup/\d∉gs.filterMap GC.slot)(a:JE O gs=Y cs)
  (h:K ((d,.yy cs)::Ql O (gs.filterMap GC.slot) O)):p.wp S O K:=by
 simp only[PR.wp,b,c,g,AD.wp,AB.put,a];exact⟨i,h⟩
variable{q:PR}{v:AE}
theorem UB{S:FuncId->Fq->Al->Prop}{K:AB->Prop}{n x:Nat}(a:q.op=.st n (.s x) v)(k:q.guard=W)(hd:q.dst=W)(h:q.wp S O K):
  ∃s off cs cs' o,(AE.s x).place O=Y (s,off)/\O.get s=.bx cs/\(∀g e,o=Y (g,e)->v=.s g/\(∃t,e=.tv t)/\g≠s)/\K (OU s cs' o O)/\
   ∀env2,(AE.s x).place env2=Y (s,off)->env2.get s=.bx cs->v.ev env2=v.ev O->∀i:AB->Prop,i (OU s cs' o env2)->q.wp S env2 i:=by
 unfold PR.wp at h;rw[k,a,hd]at h;simp[AD.wp]at h;split at h
 .rename_i s off w;split at h
  .rename_i cs z;split at h
   .rename_i t hv;cases v with
    |c t=>exact h.elim|s g=>
     simp only at h;simp[AE.ev]at hv;refine⟨s,off,cs,_,Y (g,.tv t),w,z,?_,h.2.2.2,λenv2 l u j i b=>?_⟩
     .intro s' A he;simp at he;obtain⟨rfl,rfl⟩:=he;exact⟨rfl,⟨t,rfl⟩,h.1⟩
     .simp[AE.ev]at j;unfold PR.wp;rw[k,a,hd];simp[AD.wp,l,u,AE.ev,j,hv];exact⟨h.1,h.2.1,h.2.2.1,b⟩
   next t hv=>refine⟨s,off,cs,_,W,w,z,V,h.2.2,λenv2 l u j i b=>?_⟩;unfold PR.wp;rw[k,a,hd];simp[AD.wp,l,u,j,hv];exact⟨h.1,h.2.1,b⟩
   .exact h.elim
  .exact h.elim
 .exact h.elim
variable{e':AB}
theorem xe{p:PR}{o:Oper}(ho:L4 P N ops o p=X){K:AB->Prop}(g:((PR.yu D p=X\/AaR p=X)\/Vm p=X)\/Aaq p=X)(H:L0 F0 w0 N e')(I:JD D e')(h:p.wp (AX P) e' K):
  ∃o4,K o4/\L0 F0 w0 N o4/\JD D o4/\∀b:AB->Prop,b o4->p.wp (AX P) e' b:=by
 rcases g with((g|g)|g)|g
 rotate_right
 .obtain⟨o4,⟨l,Q,R⟩,a⟩:=FU (K:=λo4=>K o4/\(∀c,o4.jj c=e'.jj c)/\∀b:AB->Prop,b o4->p.wp (AX P) e' b) H ho (by
   grind [af])
  exact ⟨o4,l,a,λd hd=>by rw[Q];exact I d hd,R⟩
 .simp[PR.yu,x?]at g;obtain⟨⟨⟨⟨ζ,δ⟩,Z⟩,pb⟩,pD⟩:=g;obtain⟨dp,θ⟩:=y?.1 δ;have M:p.op.x3=X->p.guard=W:=λκ=>by
   rcases Z with h|h
   .rw[κ]at h;cases h
   .simpa using h
  obtain ⟨o4,⟨l,ep,fp,L⟩,a⟩:=FU H ho (PS θ ζ M h);exact⟨o4,l,a,L.jd pb I,λb j=>L.again e' (.refl L.ok) (λ_ _=>rfl) _ (by rw[<-L.o4];exact j)⟩
 .unfold AaR at g;split at g
  .rename_i gs d A B C;obtain⟨o4,l,a⟩:=FU (K:=λo4=>K o4/\∃cs,((gs.filterMap GC.src).Nodup/\d∉gs.filterMap GC.slot)/\JE e' gs=Y cs/\o4=(d,.yy cs)::Ql e' (gs.filterMap GC.slot) e') H ho (by
    obtain ⟨ts,w,z,E⟩:=Vc A B C h
    grind [SM])
   obtain ⟨l,ts,w,z,rfl⟩:=l;refine⟨_,l,a,λx ε=>?_,λb j=>SM A B C w z j⟩;rw[AB.ej,Ld,I x ε];rfl
  .cases g
 .unfold Vm at g;split at g
  .rename_i n x v A B C;obtain⟨o4,⟨l,s,off,cs,cs',o',w,F,z,E,G⟩,a⟩:=FU (K:=λo4=>K o4/\∃s off cs cs' o,(AE.s x).place e'=Y (s,off)/\e'.get s=.bx cs/\(∀J e,o=Y (J,e)->v=.s J/\(∃t,e=EV.tv t)/\J≠s)/\o4=OU s cs' o e'/\
     ∀b:AB->Prop,b (OU s cs' o e')->p.wp (AX P) e' b) H ho (by
    obtain ⟨s,off,cs,cs',o,w,F,z,E,G⟩:=UB A B C h;exact G e' w F rfl _ ⟨E,s,off,cs,cs',o,w,F,z,rfl,λb j=>G e' w F rfl b j⟩)
   subst E;refine⟨_,l,a,λd hd=>?_,G⟩;rw[FZ _ _ _ _ _ (λJ e he=>by
    obtain ⟨_,⟨t,rfl⟩,_⟩:=z J e he;rfl)]
   exact I d hd
  .rename_i x v k A B C;obtain⟨o4,⟨l,Q,R⟩,a⟩:=FU (K:=λo4=>K o4/\(∀c,o4.jj c=e'.jj c)/\∀b:AB->Prop,b o4->p.wp (AX P) e' b) H ho (by
    simp [PR.wp,A,B,C,AD.wp,AB.put]at h|-;split at h
    .rename_i q i c ε;split at h
     .rename_i n es u η hu;obtain⟨w,F,es',z,E,G,h7⟩:=h;refine⟨w,F,es',z,E,G,h7,λc=>(Ot (es':=es') η).2.2 c,λb j=>?_⟩
      grind
     .exact h.elim
    .exact h.elim)
   exact ⟨o4,l,a,λd hd=>by rw[Q];exact I d hd,R⟩
  .cases g
variable{rs:List PR}
theorem tK{p q:PR}(a:Aac p q=X)(h:Es (AX P) K (p::q::rs) O):Es (AX P) K (q::p::rs) O:=by
 unfold Aac at a;split at a
 .rename_i gs G cs A j k l o t u;simp only[sx,bne_iff_ne,ne_eq,x?,v5,decide_eq_false_iff_not]at a;obtain⟨C,w⟩:=a;obtain⟨e',g,h⟩:=h;obtain⟨H,E,F,x,i,c⟩:=Vc j k l h;simp[PR.wp,o,t,u,AD.wp,AB.put]at c;obtain⟨b,c⟩:=c;rw[i.2,AB.ej,Ld]at b;simp[EV.y8,EV.yi]at b;refine⟨e',g,?_⟩;simp[PR.wp,o,t,u,AD.wp,AB.put];refine⟨b,_,.refl _,SM j k l E (by rw[aJ _ _ _ _ w];exact F) (Hi c ?_)⟩;have B:A∉gs.filterMap GC.slot:=λz=>w (qB z);refine⟨λn=>?_,λd=>?_⟩
  .rw[AB.d6,i.1,AB.d6,AB.d6,Jl,Jl]
   grind [AB.d6]
  .rw[AB.ej,i.2,AB.ej,AB.ej,Ld,Ld,AB.ej]
   grind
 .cases a
variable{o4:AB}
theorem gh{S:FuncId->Fq->Al->Prop}{K:AB->Prop}{m d s:Nat}{cs cs':List AR}{o:Option (Nat×EV)}(a:(∃k,q.op=.bad m k)\/∃k,q.op=.zj (.s m) k)(g:q.guard=W)(hd:q.dst=Y d)(A:O.get s=.bx cs)(ho:∀z e,o=Y (z,e)->(∃t,e=.tv t)/\z≠m)
  (he:∀n,o4.get n=(OU s cs' o O).get n)(h:q.wp S o4 K):∃e,K ((d,e)::o4)/\∀i:AB->Prop,i ((d,e)::O)->q.wp S O i:=by
 have u:o4.get m=if s=m then .bx cs' else O.get m:=by
  grind [Er]
 have C:∀r c,o4.get r=.bx c->∃l,O.get r=.bx l:=by
  grind [Er]
 unfold PR.wp at h;rcases a with⟨k,a⟩|⟨k,a⟩
 .rw[g,a,hd]at h;simp[AD.wp,AB.put]at h;by_cases e:s=m
  .rw[u,ae e]at h;refine⟨_,h,λi b=>?_⟩;unfold PR.wp;rw[g,a,hd];simp[AD.wp,<-e,A,AB.put];rw[<-e]at b;exact b
  .rw[u,az e]at h;split at h
   next c j=>refine⟨_,h,λi b=>?_⟩;unfold PR.wp;rw[g,a,hd];simp[AD.wp,j,AB.put];exact b
   next row j=>refine⟨_,h,λi b=>?_⟩;unfold PR.wp;rw[g,a,hd];simp[AD.wp,j,AB.put];exact b
   .exact h.elim
 .rw[g,a,hd]at h;simp[AD.wp,AB.put,AE.ev]at h;by_cases e:s=m
  .rw[u,ae e]at h;exact h.elim
  .rw[u,az e]at h;split at h
   next row j=>refine⟨_,h,λi b=>?_⟩;unfold PR.wp;rw[g,a,hd];simp[AD.wp,AE.ev,j,AB.put];exact b
   .rename_i r off j;split at h
    next c B=>obtain⟨l,w⟩:=C r c B;refine⟨_,h,λi b=>?_⟩;unfold PR.wp;rw[g,a,hd];simp[AD.wp,AE.ev,j,w,AB.put];exact b
    .exact h.elim
   .exact h.elim
theorem tJ{p q:PR}(C:JD D O)(b:R1 D p q=X)(h:Es (AX P) K (p::q::rs) O):Es (AX P) K (q::p::rs) O:=by
 have key:∃n x v m d,p.op=.st n (.s x) v/\p.guard=W/\p.dst=W/\((∃k,q.op=.bad m k)\/∃k,q.op=.zj (.s m) k)/\q.guard=W/\q.dst=Y d/\d∈D/\d≠x/\d∉v.sl/\m∉v.sl:=by
  unfold R1 at b
  grind
 obtain ⟨n,x,v,m,d,F,G,H,I,J,L,M,Q,R,θ⟩:=key;obtain⟨e',g,h⟩:=h;have j:=C.congr g.symm;obtain⟨s,off,cs,cs',o,i,B,ε,⟨y,u,κ⟩,η⟩:=UB F G H h;have l:d≠s:=by
  intro e;subst e;simp[AE.place]at i;split at i
  next r w E=>simp at i;exact j.no (x:=x) (s:=d) (by rw[E,<-i.1];rfl) M
  .grind
  .cases i
 have ho:∀a e,o=Y (a,e)->(∃t,e=EV.tv t)/\a≠m:=λa e he=>by
  grind [AE.sl]
 obtain ⟨e,ζ,δ⟩:=gh (cs':=cs') (o:=o) (O:=e') I J L B ho u.1 κ;refine⟨e',g,δ _ ⟨_,.refl _,η ((d,e)::e') ?_ (by rw[AB.d6,az l];exact B) ?_ _ (Hi ζ ?_)⟩⟩
 .grind[AE.place,AB.d6]
 .cases v with
  |c t=>rfl|s a=>
   grind [AE.ev,AB.d6,AE.sl]
 .refine⟨λz=>?_,λz=>?_⟩
  .rw[AB.d6,u.1,Er,Er]
   grind [AB.d6,AE.sl]
  .have A:∀a e,o=Y (a,e)->e.y8 z=X:=λa e he=>by
    obtain ⟨_,⟨t,rfl⟩,_⟩:=ε a e he;rfl
   rw [AB.ej,u.2,FZ _ _ _ _ _ A,FZ _ _ _ _ _ A,AB.ej]
variable{n m:Nat}
theorem nO{e' h:AB}{c:Nat}{o:Option Nat}{es es':Fq}(a:e'.x5 c o=Y (n,es))(F:es'.length=es.length)(he:∀z,h.get z=AB.get (e'.yt c o n es') z){y q:Nat}{i:Option Nat}{l:Fq}
  (H:h.get y=.la q i)(b:h.x5 q i=Y (m,l)):e'.get y=.la q i/\∃fs',e'.x5 q i=Y (m,fs')/\fs'.length=l.length:=by
 obtain ⟨⟨u,I,A⟩,ho,_⟩:=Ot (es':=es') a;have t:c≠y:=by
  grind
 refine ⟨by rw[<-H,he,ho _ t],?_⟩;by_cases G:c=q
 .subst G;cases o with
  |none=>
   have g:h.get c=.xo n es':=by rw[he];simp[AB.yt,AB.d6]
   cases i with
   |none=>
    simp [AB.x5,g]at b;obtain⟨rfl,rfl⟩:=b;exact⟨es,a,F.symm⟩
   |some k=>simp[AB.x5,g]at b
  |some E=>
   rcases A with⟨mm,M,J,_⟩|⟨cs,k,L,B,C,rfl⟩
   .simp[AB.x5,J]at a
   .cases L;have g:h.get c=.bx (cs.set E ⟨X,.xl n es'⟩):=by rw[he,I]
    cases i with
    |none=>simp[AB.x5,g]at b|some k=>
     by_cases j:E=k
     .subst j;have w:E<cs.length:=(List.getElem?_eq_some_iff.1 B).1;simp[AB.x5,g,v?,ae w]at b;obtain⟨rfl,rfl⟩:=b;exact⟨es,a,F.symm⟩
     .refine⟨l,?_,rfl⟩;rw[<-b];simp[AB.x5,g,C,v?,az j]
 .exact⟨l,by rw[<-b];exact AB.y9 (by rw[he,ho _ G]),rfl⟩
theorem tT{p q:PR}(hj:JD D O)(a:Aaa D p q=X)(h:Es (AX P) K (p::q::rs) O):Es (AX P) K (q::p::rs) O:=by
 unfold Aaa at a;split at a
 .rename_i x v k y z m d e1 e2 e3 f1 f2 f3;simp[x?,decide_eq_false_iff_not,yk]at a;obtain⟨⟨dD,δ⟩,Z⟩:=a;obtain⟨e',M,h⟩:=h;have κ:=hj.congr M.symm;simp only[PR.wp,e1,e2,e3,AD.wp,AB.put]at h;split at h
  .rename_i ε i0 c R;split at h
   .rename_i n es u B hu;obtain⟨h1,h2,es',h3,h4,h5,o4,A,b⟩:=h;have G:d≠ε:=by
     rintro rfl;cases x with
     |c t=>cases R
     |s xs=>exact κ.no (x:=xs) (s:=d) (by simp[AE.ev]at R;rw[R];rfl) dD
    simp [PR.wp,f1,f2,f3,AD.wp,AB.put,AE.yg]at b;have θ:=A.1;obtain⟨⟨w,hw,hww⟩,ho,_⟩:=Ot (es':=es') B;have η:w.val=W:=by rcases hww with⟨_,_,_,_,_,rfl⟩|⟨_,_,_,_,_,rfl⟩<;>rfl
    have ζ:∀t,z.val o4=Y t->z.val e'=Y t:=by
     intro t E;cases z with
     |c t'=>exact E|s zz=>
      simp [AE.val,AE.ev]at E|-;by_cases l:ε=zz
      .subst l;rw[θ,hw,η]at E;cases E
      .rw[θ,ho _ l]at E;exact E
    have H:∃g i F j Q,o4.get y=.la g i/\o4.x5 g i=Y (m,F)/\z.val o4=Y (.int Q j)/\0<=j/\j<F.length/\Es (AX P) K rs ((d,.lp g i (j.toNat*m))::o4):=by
     cases I:o4.get y<;>rw[I]at b<;>simp[Ad]at b<;>try exact b.elim
     .cases l:z.val o4 with
      |none=>rw[l]at b;exact b.elim|some t=>
       rw [l]at b;cases t<;>try exact b.elim
       have:=b.1.1;simp[AE.ev,I,EV.yi]at this
     .rename_i g i;cases C:o4.x5 g i with
      |none=>rw[C]at b;exact b.elim|some pp=>
       obtain ⟨m',F⟩:=pp;rw[C]at b;simp only at b;cases l:z.val o4 with
       |none=>rw[l]at b;exact b.elim|some t=>
        rw [l]at b;cases t<;>try exact b.elim
        rename_i Q j;obtain⟨⟨_,rfl⟩,k1,k2,k3⟩:=b;exact⟨g,i,F,j,Q,rfl,C,rfl,k1,k2,k3⟩
    obtain ⟨g,i,F,j,Q,m1,m2,m3,m4,m5,m6⟩:=H;obtain⟨n1,fs',n2,n3⟩:=nO B h4 θ m1 m2;refine⟨e',M,?_⟩;simp only[PR.wp,f1,f2,f3,AD.wp,AB.put,AE.yg,n1,n2,Ad,ζ _ m3,AE.ev,EV.yi];refine⟨⟨trivial,trivial⟩,m4,by rw[n3];exact m5,_,.refl _,?_⟩;have J:∀(o:AE),d∉o.sl->o.ev ((d,.lp g i (j.toNat*m))::e')=o.ev e':=by
     intro o ho;cases o with
     |c t=>rfl|s t=>
      simp only[AE.ev,AB.d6];rw[az];intro e;exact ho (by simp[AE.sl,e])
    simp only[PR.wp,e1,e2,e3,AD.wp,AB.put,J x δ,J v Z,R,hu];have L:AB.x5 ((d,.lp g i (j.toNat*m))::e') ε i0=Y (n,es):=by rw[AB.yx G];exact B
    rw [L];refine⟨h1,h2,es',h3,h4,h5,Hi m6 ?_⟩;refine M1.symm (M1.trans (ZC (.refl _) G) ⟨λs=>?_,λs=>?_⟩)
    .simp[AB.d6,θ]
    .simp[AB.ej,A.2]
   .exact h.elim
  .exact h.elim
 .cases a
theorem Zt{O env2:AB}{b:Nat}{o:Option AE}(h:∀y∈o.toList,y.val env2=y.val O):Gk env2 b o=Gk O b o:=by
 cases o with
 |none=>rfl|some y=>simp[Gk];exact h y V
theorem tY{S:FuncId->Fq->Al->Prop}{p:AD}{xs:List AE}{K:EV->AB->Prop}(B:p.vops=Y xs)(h:p.wp S O d K):
  ∃t,K (.tv t) O/\(∀x∈xs,∃u,x.val O=Y u)/\∀env2,(∀x∈xs,x.val env2=x.val O)->∀j:EV->AB->Prop,j (.tv t) env2->p.wp S env2 d j:=by
 cases p<;>simp[AD.vops]at B<;>first|cases B|skip
 case bin k op x y=>
  simp [AD.wp]at h;split at h
  .rename_i a b g w;cases A:LZ k op a b with
   |none=>rw[A]at h;exact h.elim|some t=>
    rw [A]at h;refine⟨t,h,λz c=>?_,λenv2 he j i=>?_⟩
    .simp at c;rcases c with rfl|rfl
     .exact⟨a,g⟩
     .exact⟨b,w⟩
    .simp[AD.wp,he x V,he y V,g,w,A];exact i
  .exact h.elim
 case fdv x k=>
  simp [AD.wp]at h;split at h
  .rename_i row g;refine⟨_,h,λz c=>?_,λenv2 he j i=>?_⟩
   .rw[v1]at c;subst c;exact⟨_,g⟩
   .simp[AD.wp,he x V,g];exact i
  .exact h.elim
 case ldv x k=>
  simp [AD.wp]at h;split at h
  .rename_i row g;refine⟨_,h.2,λz c=>?_,λenv2 he j i=>?_⟩
   .rw[v1]at c;subst c;exact⟨_,g⟩
   .simp[AD.wp,he x V,g];exact⟨h.1,i⟩
  .exact h.elim
 case len x=>
  simp [AD.wp]at h;split at h
  .rename_i n es g;refine⟨_,h,λz c=>?_,λenv2 he j i=>?_⟩
   .rw[v1.1 c];exact⟨_,g⟩
   .simp[AD.wp,he x V,g];exact i
  .exact h.elim
 case zp k x=>
  simp [AD.wp]at h;split at h
  .rename_i H n g;refine⟨_,h,λz c=>?_,λenv2 he j i=>?_⟩
   .rw[v1.1 c];exact⟨_,g⟩
   .simp[AD.wp,he x V,g];exact i
  .exact h.elim
 case mm b x y=>
  simp [AD.wp]at h;split at h
  .rename_i k a H a' g w;refine⟨_,h.2,λz c=>?_,λenv2 he j i=>?_⟩
   .simp at c;rcases c with rfl|rfl
    .exact⟨_,g⟩
    .exact⟨_,w⟩
   .simp[AD.wp,he x V,he y V,g,w];exact⟨h.1,i⟩
  .exact h.elim
 case zq n x lo hi=>
  simp [AD.wp]at h;split at h
  .rename_i m es g;split at h
   .rename_i C l E r F G;refine⟨_,h.2.2,λz c=>?_,λenv2 he j i=>?_⟩
    .simp at c;rcases c with rfl|c|c
     .exact⟨_,g⟩
     .cases c;exact⟨_,F⟩
     .cases c;exact⟨_,G⟩
    .have C:Gk env2 0 lo=Gk O 0 lo:=Zt (λy o=>he y (by simp at o|-;exact .inr (.inl o)));have E:Gk env2 es.length hi=Gk O es.length hi:=Zt (λy o=>he y (by simp at o|-;exact .inr (.inr o)));simp[AD.wp,he x V,g,C,E,F,G];exact⟨h.1,h.2.1,i⟩
   .exact h.elim
  .exact h.elim
theorem tS{p q:PR}(a:Aaj D p q=X)(h:Es (AX P) K (p::q::rs) O):Es (AX P) K (q::p::rs) O:=by
 unfold Aaj at a;split at a
 .rename_i xs d n x v ε Q R κ η ζ;simp[bne_iff_ne,x?,decide_eq_false_iff_not]at a;obtain⟨⟨⟨_,hdx⟩,G⟩,H⟩:=a;obtain⟨e',I,h⟩:=h;unfold PR.wp at h;rw[Q,R]at h;simp[AB.put]at h;obtain⟨t,⟨y,j,hw⟩,hs,J⟩:=tY ε h;obtain⟨s,off,cs,cs',o,h1,L,M,hK,h5⟩:=UB κ η ζ hw;have δ:∀z,d≠z->y.get z=e'.get z:=λz w=>by rw[j.1,AB.d6,az w]
  have g:d≠s:=λe=>by
   rw [j.1,AB.d6,ae e]at L;cases L
  have Z:(AE.s x).place e'=Y (s,off):=by
   grind [AE.place]
  have hb:e'.get s=.bx cs:=by rw[<-δ s g];exact L
  have hv:v.ev e'=v.ev y:=by
   cases v with
   |c t=>rfl|s l=>
    grind [AE.ev,AE.sl]
  have hq:∀k:AB->Prop,k (OU s cs' o e')->q.wp (AX P) e' k:=λk A=>h5 e' Z hb hv k A;refine⟨e',I,hq _ ⟨_,.refl _,?_⟩⟩;unfold PR.wp;rw[Q,R];simp[AB.put];refine J _ (λz w=>?_) _ (Hi hK ?_)
  .cases z with
   |c t=>rfl|s m=>
    obtain ⟨u,hu⟩:=hs _ w;have B:¬s=m:=λe=>by
     grind [AE.val,AE.ev,EV.val]
    simp [AE.val,AE.ev,Er,az B];cases o with
    |none=>rfl|some b=>
     have C:¬b.1=m:=λe=>An H (x:=m) (v!.2 ⟨_,w,e?⟩) (by rw[(M b.1 b.2 rfl).1,e];simp[AE.sl]);simp[az C]
  .refine⟨λz=>?_,λz=>?_⟩
   .rw[AB.d6,Er,Er];by_cases E:s=z
    .subst E;rw[ae rfl,az g,ae rfl]
    .rw[az E,az E];cases o with
     |none=>
      simp only;rw[j.1,AB.d6]
     |some b=>
      have F:¬d=b.1:=λe=>G (by rw[(M b.1 b.2 rfl).1,e];simp[AE.sl]);simp only;by_cases i:b.1=z
      .rw[ae i,ae i,az (λe=>F (e.trans i.symm))]
      .rw[az i,az i,j.1,AB.d6]
   .have θ:∀l e,o=Y (l,e)->e.y8 z=X:=λl e he=>by
     obtain ⟨_,⟨t,rfl⟩,_⟩:=M l e he;rfl
    rw [AB.ej,FZ _ _ _ _ _ θ,FZ _ _ _ _ _ θ,j.2,AB.ej]
 .cases a
theorem tN{p q:PR}(hj:JD D O)(a:Aan D p q=X)(h:Es (AX P) K (p::q::rs) O):Es (AX P) K (q::p::rs) O:=by
 unfold Aan at a;split at a
 .rename_i b m d n x v R i θ δ Z f3;simp[bne_iff_ne,x?,decide_eq_false_iff_not,yk]at a;obtain⟨⟨⟨⟨⟨⟨_,bD⟩,hbx⟩,hdx⟩,hdb⟩,M⟩,ε⟩:=a;obtain⟨e',G,h⟩:=h;have hj':=hj.congr G.symm;unfold PR.wp at h;rw[R,i,θ]at h;simp[AB.put,AD.wp]at h;split at h
  case h_2=>exact h.elim
  rename_i bs hbs;obtain⟨L,y,w,hw⟩:=h;obtain⟨s,off,cs,cs',o,h1,g,B,I,h5⟩:=UB δ Z f3 hw;have gy:∀z,d≠z->y.get z=e'.get z:=λz η=>by rw[w.1,AB.d6,az η]
  have l:d≠s:=λe=>by
   rw [w.1,AB.d6,ae e]at g;cases g
  have H:(AE.s x).place e'=Y (s,off):=by
   grind [AE.place]
  have hsb:¬s=b:=by
   intro e;subst e;simp[AE.place]at H;split at H
   next r off' hx=>simp at H;exact hj'.no (x:=x) (s:=s) (by rw[hx,<-H.1];rfl) bD
   .grind
   .cases H
  have F:e'.get s=.bx cs:=by rw[<-gy s l];exact g
  have hv:v.ev e'=v.ev y:=by
   cases v with
   |c t=>rfl|s E=>
    grind [AE.ev,AE.sl]
  have hq:∀C:AB->Prop,C (OU s cs' o e')->q.wp (AX P) e' C:=λC ζ=>h5 e' H F hv C ζ;refine⟨e',G,hq _ ⟨_,.refl _,?_⟩⟩;have hg:(OU s cs' o e').get b=.bx bs:=by
   grind [Er,AE.sl]
  unfold PR.wp;rw[R,i,θ];simp[AB.put,AD.wp,hg];refine⟨L,Hi I ?_⟩;refine⟨λz=>?_,λz=>?_⟩
  .rw[AB.d6,Er,Er];by_cases A:s=z
   .subst A;rw[ae rfl,az l,ae rfl]
   .rw[az A,az A];cases o with
    |none=>
     simp only;rw[w.1,AB.d6]
    |some j=>
     have J:¬d=j.1:=λe=>M o!;simp only;by_cases u:j.1=z
     .rw[ae u,ae u,az (λe=>J (e.trans u.symm))]
     .rw[az u,az u,w.1,AB.d6]
  .have L:∀E e,o=Y (E,e)->e.y8 z=X:=λE e he=>by
    obtain ⟨_,⟨t,rfl⟩,_⟩:=B E e he;rfl
   rw [AB.ej,FZ _ _ _ _ _ L,FZ _ _ _ _ _ L,w.2,AB.ej]
 .rename_i b k d n x v R i θ δ Z f3;simp[bne_iff_ne,x?,decide_eq_false_iff_not,yk]at a;obtain⟨⟨⟨_,hdx⟩,M⟩,ε⟩:=a;obtain⟨e',G,h⟩:=h;unfold PR.wp at h;rw[R,i,θ]at h;obtain⟨κ,hn0,Q,y,w,hw⟩:∃κ,(∀c,κ≠.bx c)/\(∀i:AB,i.get b=e'.get b\/(∃c c',e'.get b=.bx c/\i.get b=.bx c')->∀C:EV->AB->Prop,C κ i->(AD.bad b k).wp (AX P) i (Y d) C)/\Es (AX P) K (q::rs) ((d,κ)::e'):=by
   simp only[AB.put,AD.wp]at h;split at h
   .rename_i F;refine⟨_,V,λi g C I=>?_,h⟩;obtain⟨c',B⟩:∃c',i.get b=.bx c':=by
     rcases g with g|⟨_,c',_,g⟩
     .exact⟨_,g.trans F⟩
     .exact⟨c',g⟩
    simp only[AD.wp,B];exact I
   .rename_i F;refine⟨_,V,λi g C I=>?_,h⟩;have B:i.get b=e'.get b:=g.resolve_right λ⟨c,c',h4,_⟩=>by rw[F]at h4;cases h4
    simp only[AD.wp,B,F];exact I
   .exact h.elim
  obtain ⟨s,off,cs,cs',o,h1,g,B,I,h5⟩:=UB δ Z f3 hw;have gy:∀z,d≠z->y.get z=e'.get z:=λz η=>by rw[w.1,AB.d6,az η]
  have l:d≠s:=λe=>by
   rw [w.1,AB.d6,ae e]at g;exact hn0 _ g
  have H:(AE.s x).place e'=Y (s,off):=by
   grind [AE.place]
  have F:e'.get s=.bx cs:=by rw[<-gy s l];exact g
  have hv:v.ev e'=v.ev y:=by
   cases v with
   |c t=>rfl|s E=>
    grind [AE.ev,AE.sl]
  refine ⟨e',G,h5 e' H F hv _ ⟨_,.refl _,?_⟩⟩;unfold PR.wp;rw[R,i,θ];refine Q _ ?_ _ (Hi I ?_)
  .rw[Er];by_cases A:s=b
   .subst A;exact .inr ⟨cs,cs',F,by rw[ae rfl]⟩
   .rw[az A];cases o with
    |none=>exact .inl rfl|some j=>
     have:¬j.1=b:=λe=>ε o!;simp only;rw[az this];exact .inl rfl
  refine ⟨λz=>?_,λz=>?_⟩
  .simp only[AB.put];rw[AB.d6,Er,Er];by_cases A:s=z
   .subst A;rw[ae rfl,az l,ae rfl]
   .rw[az A,az A];cases o with
    |none=>
     simp only;rw[w.1,AB.d6]
    |some j=>
     have J:¬d=j.1:=λe=>M o!;simp only;by_cases u:j.1=z
     .rw[ae u,ae u,az (λe=>J (e.trans u.symm))]
     .rw[az u,az u,w.1,AB.d6]
  .have L:∀E e,o=Y (E,e)->e.y8 z=X:=λE e he=>by
    obtain ⟨_,⟨t,rfl⟩,_⟩:=B E e he;rfl
   simp only[AB.put];rw[AB.ej,FZ _ _ _ _ _ L,FZ _ _ _ _ _ L,w.2,AB.ej]
 .cases a
theorem gv{oq:Oper}(u:L4 P N ops oq q=X){b:List PR}:∀(a:List PR),(∀p∈a,zZ D p q=X/\∃o,L4 P N ops o p=X)->∀{O:AB},L0 F0 w0 N O->JD D O->Es (AX P) K (a++q::b) O->Es (AX P) K (q::(a++b)) O
 |[],_,O,_,_,h=>h|p::a,g,O,B,C,h=>by
  obtain ⟨c,o,ho⟩:=g p V;obtain⟨e',i,h⟩:=h;obtain⟨o4,A,k,l,j⟩:=xe ho (cK c) (B.congr i.symm) (C.congr i.symm) h;have z:=gv u a (λp w=>g p q?) k l A;have t:Es (AX P) K (p::q::(a++b)) O:=⟨e',i,j _ z⟩;simp[zZ]at c
  grind [swap,qF,tK,tR,tU,tJ,tT,tS,tN,tM,tL,tV,tQ,tO]
variable{x:AE}
theorem vR{S:FuncId->Fq->Al->Prop}{K:EV->AB->Prop}(h:(AD.st n x v).wp S O d K):(AD.st n x v).wp S O d λe env'=>K e env'/\e=.undef/\∀c,env'.jj c=O.jj c:=by
 simp [AD.wp]at h|-;split at h
 .rename_i s off a;split at h
  .rename_i cs b;split at h
   .grind[AB.ej,EV.y8,EV.yi]
   .grind[AB.ej,EV.y8,EV.yi]
   .exact h.elim
  .exact h.elim
 .exact h.elim
variable{s:Nat}
theorem rd{S:FuncId->Fq->Al->Prop}{K:EV->AB->Prop}(h:(AD.stb n s v).wp S O d K):(AD.stb n s v).wp S O d λe env'=>K e env'/\e=.undef/\∀c,env'.jj c=O.jj c:=by
 simp [AD.wp]at h|-;split at h
 .rename_i cs a;split at h
  .grind[AB.ej,EV.y8,EV.yi]
  .grind[AB.ej,EV.y8,EV.yi]
  .exact h.elim
 .exact h.elim
theorem Wr(O:AB)(q:Nat)(i:Option Nat)(n:Nat)(es:Fq)(c:Nat):AB.jj c (O.yt q i n es)=AB.jj c O:=by
 cases i with
 |none=>simp[AB.yt,AB.ej,EV.y8,EV.yi]|some k=>
  grind [AB.yt,AB.ej,EV.y8,EV.yi]
theorem ra{S:FuncId->Fq->Al->Prop}{q:Nat}{K:EV->AB->Prop}(h:(AD.cpt x q).wp S O d K):(AD.cpt x q).wp S O d λe env'=>K e env'/\e=.undef/\∀c,env'.jj c=O.jj c:=by
 simp [AD.wp]at h|-;split at h
 .grind[AB.ej,EV.y8,EV.yi]
 .grind[AB.ej,EV.y8,EV.yi]
 .exact h.elim
theorem rh{S:FuncId->Fq->Al->Prop}{k:Nat}{K:EV->AB->Prop}(h:(AD.xst x v k).wp S O d K):(AD.xst x v k).wp S O d λe env'=>K e env'/\e=.undef/\∀c,env'.jj c=O.jj c:=by
 simp [AD.wp]at h|-;split at h
 .grind[Wr]
 .exact h.elim
theorem fJ(O:AB)(q i:Nat)(es:Fq)(c:Nat):AB.jj c (O.AaY q i es)=AB.jj c O:=by grind[AB.AaY,AB.ej,EV.y8,EV.yi]
theorem rc{S:FuncId->Fq->Al->Prop}{K:EV->AB->Prop}(h:(AD.nst x v).wp S O d K):(AD.nst x v).wp S O d λe env'=>K e env'/\e=.undef/\∀c,env'.jj c=O.jj c:=by
 simp [AD.wp]at h|-
 grind [fJ]
theorem rf{S:FuncId->Fq->Al->Prop}{a:List (Option AR)}{K:EV->AB->Prop}(h:(AD.stq n a x v).wp S O d K):(AD.stq n a x v).wp S O d λe env'=>K e env'/\e=.undef/\∀c,env'.jj c=O.jj c:=by
 simp [AD.wp]at h|-;split at h
 .rename_i s off t g hv;split at h
  .rename_i cs i;cases b:D8 a t.cells with
   |none=>rw[b]at h;exact h.elim|some ds=>
    grind [AB.ej,EV.y8,EV.yi]
  .exact h.elim
 .exact h.elim
theorem rb{S:FuncId->Fq->Al->Prop}{m x v:AE}{K:EV->AB->Prop}(h:(AD.mup s m x v).wp S O d K):(AD.mup s m x v).wp S O d λe env'=>K e env'/\e=.undef/\∀c,env'.jj c=O.jj c:=by
 simp [AD.wp]at h|-;split at h
 .rename_i b a g t i j k;split at h
  .grind[AB.ej,EV.y8,EV.yi]
  .exact h.elim
 .exact h.elim
theorem rg{S:FuncId->Fq->Al->Prop}{n s q:Nat}{K:EV->AB->Prop}(h:(AD.stx n s q).wp S O d K):(AD.stx n s q).wp S O d λe env'=>K e env'/\e=.undef/\∀c,env'.jj c=O.jj c:=by
 simp [AD.wp]at h|-
 grind [AB.ej,EV.y8,EV.yi]
theorem lF{S:FuncId->Fq->Al->Prop}{f:FuncId}{ys:List AE}{K:EV->AB->Prop}(h:(AD.zC f x ys).wp S O d K):(AD.zC f x ys).wp S O d λe env'=>K e env'/\e.yi=W/\∀c,env'.jj c=O.jj c:=by
 simp only[AD.wp]at h|-;cases a:x.yg O with
 |none=>rw[a]at h;exact h.elim|some p=>
  cases hv:vals O ys with
  |none=>rw[a,hv]at h;exact h.2.elim|some t=>
   rw [a,hv]at h;obtain⟨i,zs,b,j,k,l,o⟩:=h;refine⟨i,zs,b,j,k,l,λg=>⟨o g,?_,λc=>Wr _ _ _ _ _ c⟩⟩;unfold EV.ofs;split<;>rfl
variable{r:PR}
theorem oj{S:FuncId->Fq->Al->Prop}{K:AB->Prop}(J:ac D r=X)(hd:NB r.op=X->r.dst=W)(a:JD D O)(h:r.wp S O K):r.wp S O λenv'=>K env'/\JD D env':=by
 simp [ac,x?]at J;rcases J with(((((A|H)|k)|η)|ζ)|I)|⟨⟨⟨hm,i⟩,L⟩,o⟩
 rotate_right 2
 .unfold okCm at I;split at I
  .rename_i f x ys d t u;have put:∀e:EV,e.yi=W->∀env':AB,(∀c,env'.jj c=O.jj c)->JD D (env'.put r.dst e):=λe he env' R c δ=>by
    rw [u];show AB.jj c ((d,e)::env')=X;rw[AB.ej,R,a c δ];simp[EV.y8,he]
   have w:(r.op.wp S O r.dst λe env'=>K (env'.put r.dst e))->r.op.wp S O r.dst λe env'=>K (env'.put r.dst e)/\JD D (env'.put r.dst e):=λl=>by
    rw [t]at l|-;exact AD.o3 S O _ (λe env' he=>⟨he.1,put e he.2.1 env' he.2.2⟩) _ (lF l)
   unfold PR.wp at h|-;split
   next L=>rw[L]at h;exact w h
   .rename_i g b L;rw[L]at h;simp only at h;split
    next q k=>rw[k]at h;exact⟨λo=>w (h.1 o),λo=>⟨h.2 o,put .sk rfl O λ_=>rfl⟩⟩
    next C=>rw[C]at h;exact⟨h,put .sk rfl O λ_=>rfl⟩
    .rename_i E F;split at h
     next q k=>exact absurd k (E q)
     next k=>exact absurd k F
     .exact h.elim
  .cases I
 rotate_right
 .exact PR.o3 _ _ (λenv' he=>⟨he.1,λx B=>by rw[he.2];exact a x B⟩) r (lL ζ h)
 rotate_left 4
 .obtain⟨o4,k1,k2,k3⟩:=af η h;exact k3 _ ⟨k1,λx B=>by rw[k2];exact a x B⟩
 rotate_left 1
 .have i:=hd A;have w:(r.op.wp S O r.dst λe env'=>K (env'.put r.dst e))->r.op.wp S O r.dst λe env'=>K (env'.put r.dst e)/\JD D (env'.put r.dst e):=by
   intro l;rw[i]at l|-;generalize r.op=p at A l|-;cases p<;>simp[NB]at A<;>first|cases A|skip
   .refine AD.o3 S O W (λe env' he=>⟨he.1,λd hd=>?_⟩) _ (vR l);simp[AB.put];rw[he.2.2];exact a d hd
   .refine AD.o3 S O W (λe env' he=>⟨he.1,λd hd=>?_⟩) _ (rd l);simp[AB.put];rw[he.2.2];exact a d hd
   .refine AD.o3 S O W (λe env' he=>⟨he.1,λd hd=>?_⟩) _ (rh l);simp[AB.put];rw[he.2.2];exact a d hd
   .refine AD.o3 S O W (λe env' he=>⟨he.1,λd hd=>?_⟩) _ (rg l);simp[AB.put];rw[he.2.2];exact a d hd
   .refine AD.o3 S O W (λe env' he=>⟨he.1,λd hd=>?_⟩) _ (ra l);simp[AB.put];rw[he.2.2];exact a d hd
   .refine AD.o3 S O W (λe env' he=>⟨he.1,λd hd=>?_⟩) _ (rc l);simp[AB.put];rw[he.2.2];exact a d hd
   .refine AD.o3 S O W (λe env' he=>⟨he.1,λd hd=>?_⟩) _ (rf l);simp[AB.put];rw[he.2.2];exact a d hd
   .refine AD.o3 S O W (λe env' he=>⟨he.1,λd hd=>?_⟩) _ (rb l);simp[AB.put];rw[he.2.2];exact a d hd
  unfold PR.wp at h|-;split
  .grind
  .rename_i g b hr;rw[hr]at h;simp only at h;split
   next q k=>rw[k]at h;exact⟨λo=>w (h.1 o),λo=>⟨h.2 o,by rw[i];exact a⟩⟩
   next C=>rw[C]at h;exact⟨h,by rw[i];exact a⟩
   .rename_i E F;split at h
    next q k=>exact absurd k (E q)
    next k=>exact absurd k F
    .exact h.elim
 .unfold AaR at H;split at H
  next gs d t u G=>obtain⟨ts,Q,ε,κ⟩:=Vc t u G h;refine SM t u G Q ε ⟨κ,λx B=>?_⟩;rw[AB.ej,Ld,a x B];rfl
  .cases H
 .unfold okQ at k;split at k
  next s d t u G=>obtain⟨n,es,Q,h2,ε,κ⟩:=dz t u G h;refine d8 t u G Q h2 ε ⟨κ,λx B=>?_⟩;have:=a x B;simp[AB.ej,EV.y8,EV.yi,this]
  .rename_i n s z x d t u G;simp[PR.wp,t,u,G,AD.wp,AB.put]at h|-;split at h
   next d' m es kk j M hs B=>simp at M;subst M;refine⟨h.1,h.2.1,h.2.2.1,h.2.2.2,λy Z=>?_⟩;have:=a y Z;simp[AB.ej,EV.y8,EV.yi,this]
   .exact h.elim
  .cases k
 .obtain⟨d,hd⟩:=y?.1 i;have θ:r.op.x3=X->r.guard=W:=λR=>by
   rcases L with h|h
   .rw[R]at h;cases h
   .simpa using h
  refine PR.o3 S O (λenv' he=>?_) r (PS hd hm θ h);obtain⟨Q,e,f,hF⟩:=he;exact⟨Q,hF.jd o a⟩
theorem ku{S:FuncId->Fq->Al->Prop}{a:Act}{w:World}:∀{O:AB},Si rs=X->Es S K rs O->Bj F0 w0 O a w->∃env',K env'/\Bj F0 w0 env' a w:=by
 induction rs with
 |nil=>intro O _ h b;obtain⟨e,g,i⟩:=h;exact⟨e,i,b.congr λn=>(g.1 n).symm⟩
 |cons r rs u=>
  intro O c h b;simp[Si]at c;obtain⟨g,i⟩:=c;obtain⟨e',j,h⟩:=h;have b:=b.congr (λn=>(j.1 n).symm);split at g
  .rename_i s k l o;simp[PR.wp,k,l,o,AD.wp]at h;split at h
   next cs t=>obtain⟨G,b⟩:=b;exact u i h (b.frz t)
   .exact h.elim
  .cases g
theorem Sj:∀(os:List Oper)(rs:List PR),MA P N ops os rs=X->(∀i o,os[i]?=Y o->L4 P N ops o (Nq rs i)=X)/\Si (rs.drop os.length)=X/\rs=(v9 os.length).map (Nq rs)++rs.drop os.length
 |[],rs,h=>⟨λi o h=>by simp at h,h,V⟩|o::os,[],h=>by simp[MA]at h|o::os,r::rs,h=>by
  simp [MA]at h;obtain⟨b,c,g⟩:=Sj os rs h.2;refine⟨λi a hi=>?_,o?,?_⟩
  .cases i with
   |zero=>simp[List.getElem?_cons_zero]at hi;subst hi;exact h.1|succ i=>simp[List.getElem?_cons_succ]at hi;exact b i a hi
  .rw[c7,List.range_succ_eq_map,u!,List.map_map,u?,List.drop_succ_cons];congr 1
theorem g9{Q:Exit->Act->World->Prop}(hok:UO P N D ops rs=X)(hpd:∀i v,p=Y (i,v)->∀r∈rs,r.dst≠Y i)(hQ:∀O a w,K O->Kr N p a->Bj F0 w0 O a w->Q .normal a w):
  ∀(fuel:Nat)(rem:QQ)(b:Array Bool)(O:AB)(a:Act)(w:World),rem.length=fuel->rem.Pairwise (·<·)->(∀j,j∈rem↔j<ops.size/\b.getD j X=T)->b.size=ops.size ->
   (∀k o,ops[k]?=Y o->b.getD k T=X->∀e∈o.after,Region.binds .any e=X->b.getD e.on T=X) ->
   Kr N p a->Bj F0 w0 O a w->JD D O->Es (AX P) K (rem.map (Nq rs)++rs.drop ops.size) O->wpAny P .any ops Q fuel b a w:=by
 simp only[UO,sx,v6,w_]at hok;obtain⟨⟨⟨⟨hl,hs⟩,he⟩,hM⟩,hP⟩:=hok;obtain⟨F,hl2,hl3⟩:=Sj ops.toList rs hl;simp[Array.getElem?_toList]at F hl2 hl3;intro fuel
 induction fuel with
 |zero=>
  intro rem b O a w u ε c hsz κ hN hI θ h;have:rem=[]:=List.eq_nil_of_length_eq_zero u;subst this;refine⟨?_,?_⟩
  .refine List.eq_nil_iff_forall_not_mem.2 λj I=>?_;rw[mem_ready]at I;obtain⟨H,o,ho,_⟩:=I;have:=(c j).2 ⟨(z_.1 ho).1,H⟩;cases this
  .obtain⟨env',H,t⟩:=ku hl2 h hI;exact hQ env' a w H hN t
 |succ fuel ih=>
  intro rem b O a w u ε c hsz κ hN hI θ h;refine⟨λhnil=>?_,λi hi=>?_⟩
  ·
   exfalso;cases rem with
   |nil=>simp at u|cons i rem=>
    have H:=(c i).1 V;have l:i∈Region.ready .any ops b:=by
     rw [mem_ready];have ho:ops[i]?=Y ops[i]:=z! H.1;refine⟨H.2,_,ho,λe A L=>?_⟩;have:=he i H.1;rw[ho]at this;simp only[v6,x!,x?,yk]at this;have hlt:=(this e p!).resolve_left (by simp[L]);cases E:b.getD e.on T with
     |true=>rfl|false=>
      have η:e.on∈i::rem:=by
       refine (c _).2 ⟨U,?_⟩;have:e.on<b.size:=U
       simp [z?,z! this]at E|-;exact E
      rcases w!.1 η with t|t
      .omega
      .have:=(w?.1 ε).1 _ t;omega
    rw [hnil]at l;cases l
  .have hi':=hi;rw[mem_ready]at hi';obtain⟨hi1,o,ho,hi2⟩:=hi';have l:i<ops.size:=(z_.1 ho).1;have hir:i∈rem:=(c i).2 ⟨l,hi1⟩;obtain⟨G,z,rfl⟩:=List.append_of_mem hir;have g:=x_.1 ε;have M:∀j∈G,j<i:=λj θ=>g.2.2 j θ i V;have δ:∀j∈z,i<j:=λj θ=>(w?.1 g.2.1).1 j θ;have J:∀(k:Nat),k<ops.size->(∀o,ops[k]?=Y o->∀e∈o.after,Region.binds .any e=X->b.getD e.on T=X)->∀j,j<ops.size->((ni ops).getD k 0).testBit j=X->b.getD j T=X:=by
    intro k
    induction k using Nat.strongRecOn with
    |_ k ihk=>
     intro hk hdir j C L;have:=hM k hk j C;rw[L]at this;simp only[y!,Bool.false_or]at this;split at this
     .rename_i ok hok';simp only[List.any_eq_true,sx,x!,beq_iff_eq,yk]at this;obtain⟨e,A,hbe,h3⟩:=this;have E:=hdir ok hok' e p! hbe;rcases h3 with h3|⟨h3,h4⟩
      .rw[<-h3];exact E
      .exact ihk e.on h3 U (λR B e' he' hb'=>κ e.on R B E e' he' hb') j C h4
     .cases this
   have hwp:Es (AX P) K (Nq rs i::(G.map (Nq rs)++(z.map (Nq rs)++rs.drop ops.size))) O:=by
    refine gv (ops:=ops) (F0:=F0) (w0:=w0) (N:=N) (oq:=o) (F i o ho) (G.map (Nq rs)) (λp hp=>?_) ⟨a,w,hN.size,hI⟩ θ c_;obtain⟨j,hj1,rfl⟩:=List.mem_map.1 hp;have hlt:=M j hj1;have C:j<ops.size:=U
    refine ⟨?_,ops[j],F j _ (z! C)⟩;have:=hP i l j hlt;rw[x!]at this;refine this.resolve_left λL=>?_;have H:=J i l (λR B=>by rw[ho]at B;simp at B;subst B;exact hi2) j C L;have t:=((c j).1 (by simp[hj1])).2;have:j<b.size:=U
    simp [z?,z! this]at H t;rw[H]at t;cases t
   obtain ⟨e',heq,hw⟩:=hwp;have hI':=hI.congr (λn=>(heq.1 n).symm);have I:=θ.congr heq.symm;have hstd:NB (Nq rs i).op=X->(Nq rs i).dst=W:=by
    intro hst;have:=F i o ho;simp[L4]at this;have t:=this.2;split at t
    .simp only[hst,y!,Bool.and_false,Bool.false_and]at t;cases t
    .assumption
    .cases t
   have hw':=oj (hs i l) hstd I hw;have Z:∀j,j∈G++z↔j<ops.size/\(b.setIfInBounds i X).getD j X=T:=by
    intro j;by_cases hij:j=i
    .subst hij;constructor
     .intro η;rcases v_.1 η with η|η
      .have:=M _ η;omega
      .have:=δ _ η;omega
     .rintro⟨_,t⟩;have:j<b.size:=U
      simp [this]at t
    .rw[getD_set_ne X (λe=>hij e.symm),<-c j];simp[hij]
   have hcl':∀k R,ops[k]?=Y R->(b.setIfInBounds i X).getD k T=X->∀e∈R.after,Region.binds .any e=X->(b.setIfInBounds i X).getD e.on T=X:=by
    intro k R hk hlk e A L;refine getD_set_true ?_;by_cases hki:k=i
    .subst hki;rw[ho]at hk;simp at hk;subst hk;exact hi2 e A L
    .rw[getD_set_ne T (λe=>hki e.symm)]at hlk;exact κ k R hk hlk e A L
   have hpdi:∀j v,p=Y (j,v)->(Nq rs i).dst≠Y j:=by
    intro j v hp;unfold Nq;cases hr:rs[i]? with
    |none=>simp|some r=>exact hpd j v hp r (List.mem_of_getElem? hr)
   have:=Vp (Q:=Q) (next:=wpAny P .any ops Q fuel (b.setIfInBounds i X)) hI' hN hpdi (F i o ho) hw' λenv' a' w' k1 k2 k3=>
    ih (G++z) _ env' a' w' (by simp at u|-;omega) (x_.2 ⟨g.1,(w?.1 g.2.1).2,λx hx y hy=>g.2.2 x hx y (by simp[hy])⟩) Z (by simpa using hsz) hcl' k2 k3 k1.2 (by simpa using k1.1)
   unfold Go.wpOp;rw[ho];simp;split
   next ζ=>rw[ae ζ]at this;exact .inl this
   next ζ=>rw[az ζ]at this;exact this
theorem YA:∀(ds:QQ)(O:AB),Rs O ds=X->JD ds O
 |[],O,_=>λd hd=>by simp at hd|d::ds,O,h=>by
  simp [Rs]at h;intro x a;rcases w!.1 a with rfl|a
  .exact h.1
  .exact YA ds O h.2 x a
theorem La(J:P.follows .mixedOrders=X):Kq P N (UO P N):=by
 intro F0 w0 p id ds ops rs g O a w K Q z B ζ c hd h δ;refine wp_region_any J ?_;have l:=z;simp[UO]at l;obtain⟨_,_,E⟩:=Sj ops.toList rs l.1.1.1.1;simp at E;have C:Bj F0 w0 O a {w with drawn:=w.drawn+1}:=by
  obtain ⟨G,c⟩:=c;refine⟨G,c.og,c.lt,⟨c.below.os,c.below.tape,c.below.output,c.below.size,c.below.block,c.below.cell,c.below.free,c.below.tab⟩,c.defers,c.dom,λs L=>?_,c.wf⟩;exact AL.kept (w:=w) (w':={w with drawn:=w.drawn+1}) (F:=AW w0.heap.size F0 G) (G:=G) (O:=O) (a:=a) (λb o u M R=>⟨M,R⟩) (λ_=>rfl) (λ_ _ _ _=>rfl) rfl (λ_ _ _ _ _=>rfl) (λr i k H θ=>⟨θ,λv hv=>by cases k<;>exact hv⟩) (λr off H t=>⟨t,rfl⟩) (λr i H t=>⟨t,λ_ hv=>hv⟩) (c.slots s L)
 refine g9 (K:=λe=>K (e.fu g)) (F0:=F0) (w0:=w0) z B (λO a w ε κ η=>δ _ a w ε κ (η.fu g)) ops.size (v9 ops.size) _ O a _ V List.pairwise_lt_range (λj=>?_) V (λk o Z A=>?_) ζ C (YA ds O hd) ?_
 .rw[w_];constructor
  .intro I;exact⟨I,by simp[z?,A_,I]⟩
  .exact λh=>h.1
 .simp[z?,A_]at A;split at A<;>simp at A
 grind [kK]
end
end Go.Sf
