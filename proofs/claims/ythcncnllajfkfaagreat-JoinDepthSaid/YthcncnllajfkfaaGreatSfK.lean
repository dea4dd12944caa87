/- Operations that take a list of one's own, in drawn regions. -/
import Derived.Test.YthcncnllajfkfaaGreatSfSwap
set_option linter.all false
open Option renaming some->Y,none->W
open Bool renaming true->X,false->T
open List renaming map_cons->w_,cons_append->w!,mem_singleton->w?,contains_eq_mem->x_,all_eq_true->x!,range->x?,mem_append->y_,mem_flatMap->y!,getElem?_set->y?,mem_range->z_,mem_cons->z!,pairwise_cons->z?,pairwise_append->A_
open Bool renaming or_eq_true->A',not_eq_true'->A!,and_true->A?,not_true->B_
open Option renaming isSome_iff_exists->B',toList_some->B!
open Array renaming getElem?_eq_some_iff->B?,getElem?_eq_getElem->C_,getD_eq_getD_getElem?->C',getElem?_replicate->C!
namespace Go.Sf
def AE.tkn:AE->Option QQ
 |.Abl _=>Y []|.Abk _=>Y []|.tkx s=>Y [s]|.Aba _ s _=>Y [s]|.Abs q=>Y [q]|_=>W
def TI(qs:QQ)(O:AB):AB:=qs.map (·,EV.undef)++O
theorem QU(qs:QQ)(O:AB)(n:Nat):AB.get (TI qs O) n=if n∈qs then .undef else O.get n:=by
 induction qs with
 |nil=>rfl|cons q qs a=>
  grind [TI,AB.eb]
theorem Ju(qs:QQ)(O:AB)(c:Nat):AB.ij c (TI qs O)=AB.ij c O:=by
 induction qs with
 |nil=>rfl|cons q qs a=>
  simp only[TI,w_,w!,AB.ey]at a|-;rw[a];rfl
structure kH(S:FuncId->Fq->A9->Prop)(op:AE)(qs:QQ)(d:Nat)(O:AB)(e:EV):Prop where
 dno:O.ij d=X
 AbD:e.ref=W
 slbx:∀n∈op.slots,∀cs,O.get n≠.bx cs
 sub:∀n∈qs,n∈op.slots
 again:∀env2,(∀n∈op.slots,env2.get n=O.get n)->env2.ij d=X->∀K2:EV->AB->Prop,K2 e (TI qs env2)->op.wp S env2 (Y d) K2
variable{y:AH}
theorem yu{O env2:AB}(h:∀n∈y.sl,env2.get n=O.get n):y.val env2=y.val O:=by
 cases y with
 |c t=>rfl|s n=>simp only[AH.val,AH.ev,h n e_]
variable{O:AB}
theorem yt{t:TV}(h:y.val O=Y t):∀n∈y.sl,∀cs,O.get n≠.bx cs:=by
 intro n a cs b;cases y with
 |c t=>simp[AH.sl]at a|s m=>
  grind [AH.sl,w?,AH.val,AH.ev,EV.val]
variable{qs:QQ}
theorem take{S:FuncId->Fq->A9->Prop}{op:AE}{d:Nat}{K:EV->AB->Prop}(c:op.tkn=Y qs)(h:op.wp S O (Y d) K):∃e,kH S op qs d O e/\K e (TI qs O):=by
 cases op<;>simp only[AE.tkn,reduceCtorEq,tl]at c
 case Abk n=>
  subst c;simp only[AE.wp]at h;exact⟨_,⟨h.1,rfl,f?,V,λenv2 _ a j b=>⟨a,b⟩⟩,h.2⟩
 case Abl n=>
  subst c;simp only[AE.wp]at h;exact⟨_,⟨h.1,rfl,f?,V,λenv2 _ a j b=>⟨a,b⟩⟩,h.2⟩
 case tkx s=>
  subst c;simp only[AE.wp]at h;split at h
  .rename_i t n es hd i;simp only[tl]at hd;subst hd;refine⟨.xo n es,⟨h.1,rfl,λm u cs l=>?_,f?,λenv2 g a j b=>?_⟩,h.2.2⟩
   .grind[AE.slots,w?]
   .have:=g s f?;simp only[AE.wp,this,i];exact⟨a,h.2.1,b⟩
  .exact h.elim
 case Abs q=>
  subst c;simp only[AE.wp]at h;split at h
  .rename_i t n k hd i;simp only[tl]at hd;subst hd;refine⟨.x1 n k,⟨h.1.1,rfl,λm u cs l=>?_,f?,λenv2 g a j b=>?_⟩,h.2⟩
   .grind[AE.slots,w?]
   .have:=g q f?;simp only[AE.wp,this,i];exact⟨⟨a,h.1.2⟩,b⟩
  .exact h.elim
 case Aba n s y=>
  subst c;simp only[AE.wp]at h;split at h
  .rename_i t m es m' k hd i w;simp only[tl]at hd;subst hd;obtain⟨B,C,E,F,G,H⟩:=h;refine⟨.xo n (es++k),⟨F,rfl,λx o cs l=>?_,f?,λenv2 g a j b=>?_⟩,H⟩
   .grind[AE.slots,yt]
   .have z:=g s f?;have A:=yu (O:=O) (env2:=env2) (y:=y) (λx o=>g x (by simp[AE.slots,o]));simp only[AE.wp,z,i,A,w];exact⟨B,C,E,a,G,b⟩
  .exact h.elim
def PR.tk(r:PR):Option (QQ×Nat):=
 match r.op.tkn,r.guard,r.dst with
 |some qs,W,Y d=>Y (qs,d)|_,_,_=>W
variable{r:PR}
theorem PR.tk_some{d:Nat}(h:r.tk=Y (qs,d)):r.op.tkn=Y qs/\r.guard=W/\r.dst=Y d:=by
 unfold PR.tk at h
 grind
theorem Y4{S:FuncId->Fq->A9->Prop}{d:Nat}{K:AB->Prop}(g:r.tk=Y (qs,d))(h:r.wp S O K):∃e,kH S r.op qs d O e/\K ((d,e)::TI qs O)/\
  ∀env2,(∀n∈r.op.slots,env2.get n=O.get n)->env2.ij d=X->∀a:AB->Prop,a ((d,e)::TI qs env2)->r.wp S env2 a:=by
 obtain ⟨l,o,t⟩:=PR.tk_some g;have k:r.op.wp S O (Y d) λe env'=>K ((d,e)::env'):=by
  grind [PR.wp,AB.put]
 obtain ⟨e,c,u⟩:=take l k;refine⟨e,c,u,λenv2 i j a b=>?_⟩;unfold PR.wp;rw[o];simp only[t,AB.put];exact c.again env2 i j (λe env'=>a ((d,e)::env')) b
def Aas(D:QQ)(p q:PR):Bool:=
 match q.tk with
 |some (qs,d)=>PR.Aai D p&&D.contains d&&qs.all D.contains&&FW p.dst.toList (d::q.op.slots)&&FW (d::qs) (p.op.slots++p.gsl)&&FW p.op.dem q.op.slots|none=>T
def AaW(p q:PR):Bool:=
 match p.tk,q.tk with
 |some (_,dp),Y (_,dq)=>FW (dp::p.op.slots) (dq::q.op.slots)|_,_=>T
section
variable{P:Program}{F0:Nat->Nat->Prop}{w0:W0}{N:Nat}{ops:Array Oper}{K:AB->Prop}{D:QQ}
variable{r:PR}{O pc:AB}{e:EV}{f:BV}
theorem Q1.away{S:FuncId->Fq->A9->Prop}{d:Nat}(h:Q1 S r d O pc e f){x:Nat}(a:x∉r.op.slots)(b:∀y,(O.get y).ref≠Y x)(u:EV):f.on x u=u:=by
 have c:=h.slot;have g:=h.cell;cases f with
 |none=>rfl|slot s t=>
  grind [BV.on,Ck]
 |cell s off t=>
  simp only[BV.on]
  grind
theorem Q1.stay{S:FuncId->Fq->A9->Prop}{d:Nat}(h:Q1 S r d O pc e f){x:Nat}(a:x∉r.op.dem)(b:∀cs,O.get x≠.bx cs):f.on x (O.get x)=O.get x:=by
 have c:=h.slot;have g:=h.ok;cases f with
 |none=>rfl|slot s t=>
  grind [BV.on]
 |cell s off t=>
  simp only[BV.on]
  grind
theorem Ww(h:PR.Aai D r=X):∃d,r.dst=Y d/\r.op.mov=X/\(r.op.t5=X->r.guard=W)/\FW r.op.Aa6 D=X/\(r.op.t5=X\/d∈D):=by
 simp only[PR.Aai,pq,A',A!]at h;obtain⟨⟨⟨⟨b,c⟩,g⟩,pb⟩,i⟩:=h;obtain⟨d,hd⟩:=B'.1 c;refine⟨d,hd,b,λa=>?_,pb,?_⟩
 .rcases g with h|h
  .rw[a]at h;cases h
  .simpa using h
 grind [PR.old]
variable{rs:List PR}
theorem yi(hR:Nq F0 w0 N O)(hj:JD D O){op:Oper}{p q:PR}(hp:Nw P N ops op p=X)(a:Aas D p q=X)(h:Fw (AV P) K (p::q::rs) O):Fw (AV P) K (q::p::rs) O:=by
 unfold Aas at a;split at a
 .rename_i qs d ht;simp only[pq,x_,tn,x!]at a;obtain⟨⟨⟨⟨⟨Z,dD⟩,sD⟩,θ⟩,ε⟩,c3⟩:=a;obtain⟨w,J,pm,pg',pb,_⟩:=Ww Z;rw[J]at θ;simp only[B!]at θ;have hpd:w≠d:=λe=>BB θ (x:=w) V c_;have H:w∉q.op.slots:=λe=>BB θ (x:=w) V c_;have i:d∉p.op.slots:=λe=>BB ε (x:=d) V (D4 e);have dng:d∉p.gsl:=λe=>BB ε (x:=d) V (Eg e);have j:∀s∈qs,s∉p.op.slots:=λs κ e=>BB ε (x:=s) (by simp[κ]) (D4 e);have sng:∀s∈qs,s∉p.gsl:=λs κ e=>BB ε (x:=s) (by simp[κ]) (Eg e);obtain⟨e',A,h⟩:=h;have hR':=hR.congr A.symm;have k:=hj.congr A.symm;obtain⟨pc,⟨⟨e1,l,hw⟩,ep,F,o⟩,hR1⟩:=GU hR' hp (Q6 J pm pg' h);have g1:∀n,e1.get n=if w=n then ep else F.on n (e'.get n):=λn=>by
   rw [l.1,o.pc,AB.eb,BV.get]
  have I:∀x,x∈D->x∉p.op.slots->∀e,F.on x e=e:=λx η ζ e=>o.away ζ (λy hy=>k.no hy η) e;obtain⟨e,M,hK,Q⟩:=Y4 ht hw;have z:∀n∈q.op.slots,e'.get n=e1.get n:=by
   intro n R;have hne:w≠n:=λe=>H (e▸R);have hb:=M.slbx n R;rw[g1,ae hne]at hb|-;refine(o.stay (λhd=>BB c3 hd R) (λcs hc=>?_)).symm;refine hb (match F.on n (.bx cs)with|.bx cs'=>cs'|_=>cs) ?_;rw[hc];cases F with
   |none=>rfl|slot s t=>
    have:=o.ok;simp only[BV.on];split
    next e=>subst e;simp only[BV.ok]at this;rw[hc]at this;cases this
    .rfl
   |cell s off t=>
    simp only[BV.on];split<;>rfl
  have hdn:e'.ij d=X:=by
   have:=M.dno;rw[l.2,o.pc,AB.ey,BV.ij,pq]at this;exact this.2
  refine ⟨e',A,Q e' z hdn _ ⟨_,.refl _,?_⟩⟩;have C:∀m,m≠d->m∉qs->AB.get ((d,e)::TI qs e') m=e'.get m:=λm u b=>by
   rw [AB.eb,ae (λe=>u e.symm),QU,ae b]
  have nr:∀c,AB.ij c ((d,e)::TI qs e')=AB.ij c e':=λc=>by
   rw [AB.ey,Ju,EV.noR,M.AbD];rfl
  have L:Es p.op F (Y w) e' ((d,e)::TI qs e'):=by
   refine ⟨λx B=>.inl (C x (λe=>i (e▸B)) (λe=>j x e B)),λx B r hr=>.inl (C r (λe=>k.no hr (e▸dD)) (λe=>k.no hr (sD r e))),λx B _=>C x (λe=>i (e▸Ck B)) (λe=>j x e (Ck B)),?_,λR d' hd' δ=>by rw[nr];exact δ⟩;have u:=o.slot;have b:=o.ok;have h4:=o.cell;cases F with
   |none=>trivial|slot x t=>
    simp only[BV.ok]at b|-;rw[C x (λe=>i (e▸Ck (u _ _ rfl))) (λe=>j x e (Ck (u _ _ rfl)))];exact b
   |cell x off t=>
    obtain ⟨ds,h5,h6⟩:=b;refine⟨ds,?_,h6⟩;rw[C x (λe=>?_) (λe=>?_)]
    .exact h5
    .rcases h4 _ _ _ rfl with h7|⟨y,_,h8⟩
     .exact i (e▸h7)
     .exact k.no h8 (e▸dD)
    .rcases h4 _ _ _ rfl with h7|⟨y,_,h8⟩
     .exact j x e h7
     .exact k.no h8 (sD x e)
  have hgp:∀g∈p.gsl,AB.get ((d,e)::TI qs e') g=e'.get g:=λg G=>C g (λe=>dng (e▸G)) (λe=>sng g e G);refine o.again _ L hgp _ (I0 hK ?_);refine⟨λm=>?_,λc=>?_⟩
  .simp only[AB.eb,BV.get,g1,QU];by_cases u:d=m
   .subst u;rw[ac rfl,ae hpd,I d dD i,ac rfl]
   .rw[ae u];by_cases E:w=m
    .have:m∉qs:=λZ=>H (E▸M.sub m Z);rw[ae this,ac E,ac E]
    .rw[ae E];by_cases b:m∈qs
     .rw[ac b,ae E,I m (sD m b) (j m b),ae u,ac b]
     .rw[ae b,ae E,ae u,ae b]
  .simp only[AB.ey,BV.ij,l.2,o.pc,Ju,EV.noR,M.AbD];cases(match ep.ref with|some s=>c !=s|none=>X)<;>rfl
 .cases a
theorem yh(hR:Nq F0 w0 N O)(hj:JD D O){op oq:Oper}{p q:PR}(hp:Nw P N ops op p=X)(hq:Nw P N ops oq q=X)(a:Aas D q p=X)(h:Fw (AV P) K (p::q::rs) O):Fw (AV P) K (q::p::rs) O:=by
 unfold Aas at a;split at a
 .rename_i w d ht;simp only[pq,x_,tn,x!]at a;obtain⟨⟨⟨⟨⟨hm,M⟩,sD⟩,Z⟩,c2⟩,c3⟩:=a;obtain⟨C,Q,qm,qg',qb,qold⟩:=Ww hm;rw[Q]at Z;simp only[B!]at Z;have hqd:C≠d:=λe=>BB Z (x:=C) V c_;have I:C∉p.op.slots:=λe=>BB Z (x:=C) V c_;have l:d∉q.op.slots:=λe=>BB c2 (x:=d) V (D4 e);have dng:d∉q.gsl:=λe=>BB c2 (x:=d) V (Eg e);have o:∀s∈w,s∉q.op.slots:=λs hs e=>BB c2 (x:=s) (by simp[hs]) (D4 e);have sng:∀s∈w,s∉q.gsl:=λs hs e=>BB c2 (x:=s) (by simp[hs]) (Eg e);obtain⟨e',E,h⟩:=h;have hR':=hR.congr E.symm;have hj':=hj.congr E.symm;obtain⟨pc,⟨⟨B,b,hw⟩,κ,R,F,θ⟩,hR1⟩:=GU (K:=λpc=>(∃B,Om B pc/\q.wp (AV P) B (Fw (AV P) K rs))/\∃κ,kH (AV P) p.op w d e' κ/\pc=(d,κ)::TI w e'/\∀env2,(∀n∈p.op.slots,env2.get n=e'.get n)->env2.ij d=X->∀K2:AB->Prop,K2 ((d,κ)::TI w env2)->p.wp (AV P) env2 K2) hR' hp (by
   obtain ⟨e,δ,k2,k3⟩:=Y4 ht h;exact k3 e' (λ_ _=>rfl) δ.dno _ ⟨k2,e,δ,rfl,k3⟩)
  subst F;have j:JD D B:=by
   intro x u;rw[b.2,AB.ey,Ju,EV.noR,R.AbD];exact hj' x u
  obtain ⟨X1,⟨hK,eq,ε,A⟩,_⟩:=GU (hR1.congr b.symm) hq (Q6 Q qm qg' hw);have G:∀n,n≠d->n∉w->B.get n=e'.get n:=λn i k=>by
   rw [b.1,AB.eb,ae (λe=>i e.symm),QU,ae k]
  have J:∀x,x∈D->x∉q.op.slots->∀e,ε.on x e=e:=λx hxD hxn e=>A.away hxn (λy hy=>j.no hy hxD) e;have L:Es q.op ε (Y C) B e':=by
   refine ⟨λx u=>.inl (G x (λe=>l (e▸u)) (λe=>o x e u)).symm,λx u r hr=>.inl (G r (λe=>j.no hr (e▸M)) (λe=>j.no hr (sD r e))).symm,λx u _=>(G x (λe=>l (e▸Ck u)) (λe=>o x e (Ck u))).symm,?_,λη d' hd' H=>?_⟩
   .have i:=A.slot;have k:=A.ok;have ζ:=A.cell;cases ε with
    |none=>trivial|slot x t=>
     simp only[BV.ok]at k|-;rw[<-G x (λe=>l (e▸Ck (i _ _ rfl))) (λe=>o x e (Ck (i _ _ rfl)))];exact k
    |cell x off t=>
     obtain ⟨ds,h5,h6⟩:=k;refine⟨ds,?_,h6⟩;rw[<-G x (λe=>?_) (λe=>?_)]
     .exact h5
     .rcases ζ _ _ _ rfl with h7|⟨y,_,h8⟩
      .exact l (e▸h7)
      .exact j.no h8 (e▸M)
     .rcases ζ _ _ _ rfl with h7|⟨y,_,h8⟩
      .exact o x e h7
      .exact j.no h8 (sD x e)
   .rw[b.2,AB.ey,Ju,pq]at H;exact H.2
  have hgq:∀g∈q.gsl,e'.get g=B.get g:=λg hg=>(G g (λe=>dng (e▸hg)) (λe=>sng g e hg)).symm;refine⟨e',E,A.again e' L hgq _ ⟨_,.refl _,θ _ (λn η=>?_) ?_ _ (I0 hK ?_)⟩⟩
  .have hne:C≠n:=λe=>I (e▸η);rw[AB.eb,ae hne,BV.get];have hb:=R.slbx n η;have δ:=A.slot;have k2:=L.eff;cases ε with
   |none=>rfl|slot s t=>
    simp only[BV.on];rw[ae];intro e;subst e;exact BB c3 (δ _ _ rfl) η
   |cell s off t=>
    simp only[BV.on];rw[ae];intro e;subst e;obtain⟨cs,k3,_⟩:=k2;exact hb cs k3
  .rw[AB.ey,BV.ij,R.dno,A?];refine Vm (λs he=>?_);rcases A.ref s he with i|⟨x,_,k⟩
   .exact λe=>BB qb i (e▸M)
   .exact λe=>j.no k (e▸M)
  .rw[A.pc];have hdd:∀e,ε.on d e=e:=J d M l;refine⟨λm=>?_,λc=>?_⟩
   .simp only[AB.eb,BV.get,QU,b.1];by_cases i:C=m
    .have z:m∉w:=λhm=>I (i▸R.sub m hm);have ζ:¬d=m:=λe=>hqd (i.trans e.symm);rw[ac i,ae ζ,ae z,ac i]
    .rw[ae i];by_cases k:d=m
     .subst k;rw[ac rfl,ac rfl,hdd]
     .rw[ae k,ae k];by_cases z:m∈w
      .rw[ac z,ac z,J m (sD m z) (o m z)]
      .rw[ae z,ae z,ae i]
   .simp only[AB.ey,BV.ij,b.2,Ju,EV.noR,R.AbD];cases(match eq.ref with|some s=>c !=s|none=>X)<;>rfl
 .cases a
theorem yr{S:FuncId->Fq->A9->Prop}{p q:PR}(a:AaW p q=X)(h:Fw S K (p::q::rs) O):Fw S K (q::p::rs) O:=by
 unfold AaW at a;split at a
 .rename_i F o qs A H I;have i:∀x,x=o\/x∈p.op.slots->x≠A/\x∉q.op.slots:=λx i=>by
   grind [BB,List.mem_cons_self,List.mem_cons_of_mem]
  obtain ⟨e',E,h⟩:=h;obtain⟨R,w,⟨G,b,M⟩,t⟩:=Y4 H h;obtain⟨eq,g,Q,j⟩:=Y4 I M;have J:∀n,n≠o->n∉F->G.get n=e'.get n:=λn k u=>by
   rw [b.1,AB.eb,ae (λe=>k e.symm),QU,ae u]
  have B:∀n∈q.op.slots,e'.get n=G.get n:=λn l=>(J n (λe=>(i n (.inl e)).2 l) (λe=>(i n (.inr (w.sub n e))).2 l)).symm;have C:e'.ij A=X:=by
   have:=g.dno;rw[b.2,AB.ey,Ju,pq]at this;exact this.2
  refine ⟨e',E,j e' B C _ ⟨_,.refl _,t _ (λn l=>?_) ?_ _ (I0 Q ?_)⟩⟩
  .rw[AB.eb,ae (λe=>(i n (.inr l)).1 e.symm),QU,ae (λe=>(i n (.inr l)).2 (g.sub n e))]
  .rw[AB.ey,Ju,w.dno,EV.noR,g.AbD];rfl
  .refine⟨λm=>?_,λc=>?_⟩
   .simp only[AB.eb,QU,b.1];by_cases k:A=m
    .have u:¬o=m:=λe=>(i o (.inl rfl)).1 (e.trans k.symm);have L:m∉F:=λz=>(i m (.inr (w.sub m z))).1 k.symm
     grind
    .rw[ae k];by_cases u:o=m
     .have L:m∉qs:=λz=>(i m (.inl u.symm)).2 (g.sub m z)
      grind
     grind
   .simp only[AB.ey,Ju,b.2,EV.noR,w.AbD,g.AbD]
 .cases a
end
def AE.ptr:AE->Option Nat
 |.bad s _=>Y s|.fad (.s m) _=>Y m|_=>W
def EV.box2(e e2:EV):Prop:=e2=e\/∃cs cs',e=.bx cs/\e2=.bx cs'
variable{m:Nat}{O:AB}
theorem a8{S:FuncId->Fq->A9->Prop}{op:AE}{dst:Option Nat}{K:EV->AB->Prop}(ho:op.ptr=Y m)(h:op.wp S O dst K):
  ∃e,K e O/\(∀s,e.ref=Y s->(s∈op.Aa6\/(O.get m).ref=Y s))/\(∀cs,e≠.bx cs)/\∀env2,(O.get m).box2 (env2.get m)->(∀s,(O.get m).ref=Y s->(O.get s).box2 (env2.get s))->∀i:EV->AB->Prop,i e env2->op.wp S env2 dst i:=by
 unfold AE.ptr at ho;split at ho
 .rename_i s k;simp only[tl]at ho;subst ho;simp only[AE.wp]at h;split at h
  .rename_i cs b;refine⟨_,h,λs' c=>.inl (by simpa[AE.Aa6,EV.ref]using c.symm),V,λenv2 a _ i g=>?_⟩;have:∃cs',env2.get s=.bx cs':=by
    rcases a with a|⟨_,cs',_,a⟩
    .grind
    .exact⟨cs',a⟩
   obtain ⟨cs',j⟩:=this;simp only[AE.wp,j];exact g
  .rename_i row b;refine⟨_,h,by simp[EV.ref],V,λenv2 a _ i g=>?_⟩;rcases a with a|⟨cs,_,a,_⟩
   .simp only[AE.wp,a,b];exact g
   .rw[b]at a;cases a
  .exact h.elim
 .rename_i m' k;simp only[tl]at ho;subst ho;simp only[AE.wp,AH.ev]at h;split at h
  .rename_i row b;refine⟨_,h,by simp[EV.ref],V,λenv2 a _ i g=>?_⟩;rcases a with a|⟨cs,_,a,_⟩
   .simp only[AE.wp,AH.ev,a,b];exact g
   .rw[b]at a;cases a
  .rename_i s off b;split at h
   .rename_i cs t;refine⟨_,h,λs' c=>.inr (by rw[b];exact c),V,λenv2 a j i g=>?_⟩;have o:env2.get m'=.bp s off:=by
     rcases a with a|⟨_,_,a,_⟩
     .rw[a,b]
     grind
    have l:∃cs',env2.get s=.bx cs':=by
     rcases j s (by rw[b];rfl)with j|⟨_,cs',_,j⟩
     .grind
     .exact⟨cs',j⟩
    obtain ⟨cs',l⟩:=l;simp only[AE.wp,AH.ev,o,l];exact g
   .exact h.elim
  .exact h.elim
 .cases ho
def Yi(m q s:Nat)(cs:List AR)(off:Nat)(O:AB):AB:=(s,.bx (cs.set off ⟨T,.undef⟩))::(m,.undef)::(q,.undef)::O
theorem T8{S:FuncId->Fq->A9->Prop}{m q d:Nat}{K:EV->AB->Prop}(h:(AE.AaO m q).wp S O (Y d) K):
  ∃e s off cs,O.get m=.nh s off .hd/\O.get s=.bx cs/\(∀cs,O.get q≠.bx cs)/\O.ij d=X/\e.ref=W/\K e (Yi m q s cs off O)/\
   ∀env2,env2.get m=O.get m->env2.get q=O.get q->env2.get s=O.get s->env2.ij d=X->∀c:EV->AB->Prop,c e (Yi m q s cs off env2)->(AE.AaO m q).wp S env2 (Y d) c:=by
 simp only[AE.wp]at h;split at h
 .rename_i E s off n F b i j;simp only[tl]at b;subst b;split at h
  .rename_i cs k;cases a:O.nat s off with
   |none=>rw[a]at h;exact h.elim|some es=>
    rw [a]at h;simp only[Ay]at h;obtain⟨z,⟨A,B⟩,C⟩:=h;refine⟨_,s,off,cs,i,k,by rw[j];simp,A,rfl,C,λenv2 l o g t c u=>?_⟩;have w:env2.nat s off=Y es:=by rw[<-a];exact AB.Aaz g
    simp only[AE.wp,l,o,g,i,j,k,w,Ay];exact⟨z,⟨t,B⟩,u⟩
  .exact h.elim
 .exact h.elim
def Aat(D:QQ)(p q:PR):Bool:=
 match p.op.ptr,p.guard,p.dst,q.op,q.guard,q.dst with
 |some x,W,Y dp,.AaO m qq,W,Y d=>D.contains d&&D.contains dp&&D.contains m&&D.contains qq&&FW [dp] [d,m,qq]&&FW [x] [d,m,qq]&&FW p.op.Aa6 D&&dp !=x&&PR.Aai D p|_,_,_,_,_,_=>T
variable{off:Nat}
theorem Q9{m q s:Nat}{cs:List AR}(n:Nat):AB.get (Yi m q s cs off O) n=if s=n then .bx (cs.set off ⟨T,.undef⟩)else if m=n then .undef else if q=n then .undef else O.get n:=rfl
theorem Qj{m q s:Nat}{cs:List AR}(c:Nat):AB.ij c (Yi m q s cs off O)=AB.ij c O:=by
 simp [Yi,AB.ey,EV.noR,EV.ref]
section
variable{S:FuncId->Fq->A9->Prop}{K:AB->Prop}{D:QQ}
variable{O:AB}{rs:List PR}
theorem yl(Z:JD D O){p q:PR}(a:Aat D p q=X)(h:Fw S K (p::q::rs) O):Fw S K (q::p::rs) O:=by
 unfold Aat at a;split at a
 .rename_i x g m A d B L M Q R θ;simp only[pq,x_,tn,bne_iff_ne,ne_eq]at a;obtain⟨⟨⟨⟨⟨⟨⟨⟨η,dpD⟩,mD⟩,qD⟩,G⟩,H⟩,pb⟩,hdx⟩,_⟩:=a;have n1:g≠d:=λe=>BB G (x:=g) V c_;have ε:g≠m:=λe=>BB G (x:=g) V c_;have n3:g≠A:=λe=>BB G (x:=g) V c_;have n4:x≠d:=λe=>BB H (x:=x) V c_;have n5:x≠m:=λe=>BB H (x:=x) V c_;have n6:x≠A:=λe=>BB H (x:=x) V c_;obtain⟨e',w,h⟩:=h;have k:=Z.congr w.symm;simp only[PR.wp,L,M,AB.put]at h;obtain⟨e,⟨e1,b,ζ⟩,hre,I,z⟩:=a8 B h;simp only[PR.wp,R,θ,Q,AB.put]at ζ;obtain⟨eq,s,off,cs,k1,J,k3,δ,k5,hK,j⟩:=T8 ζ;have l:∀n,n≠g->e1.get n=e'.get n:=λn hn=>by rw[b.1,AB.eb,ae (λe=>hn e.symm)]
  have o:s≠g:=by
   intro hs;subst hs;rw[b.1,AB.eb,ac rfl]at J;exact I cs J
  have C:e'.get m=.nh s off .hd:=by rw[<-l m (λe=>ε e.symm)];exact k1
  have t:e'.get s=.bx cs:=by rw[<-l s o];exact J
  have E:s∉D:=k.no (x:=m) (by rw[C];rfl);have κ:s≠d:=λe=>E (e▸η);have F:e'.ij d=X:=by rw[b.2,AB.ey,pq]at δ;exact δ.2
  refine ⟨e',w,?_⟩;simp only[PR.wp,R,θ,Q,AB.put];refine j e' (l m (λe=>ε e.symm)).symm (l A (λe=>n3 e.symm)).symm (l s o).symm F _ ⟨_,.refl _,?_⟩;simp only[PR.wp,L,M,AB.put];refine z _ ?_ (λr hr=>?_) _ (I0 hK ?_)
  .rw[AB.eb,ae (λe=>n4 e.symm),Q9];by_cases u:s=x
   .subst u;rw[ac rfl];exact .inr ⟨cs,_,t,rfl⟩
   .rw[ae u,ae (λe=>n5 e.symm),ae (λe=>n6 e.symm)];exact .inl rfl
  .have i:r∉D:=k.no hr;rw[AB.eb,ae (λ(e:d=r)=>i (e▸η)),Q9];by_cases u:s=r
   .subst u;rw[ac rfl];exact .inr ⟨cs,_,t,rfl⟩
   .rw[ae u,ae (λ(e:m=r)=>i (e▸mD)),ae (λ(e:A=r)=>i (e▸qD))];exact .inl rfl
  .refine⟨λn=>?_,λc=>?_⟩
   .simp only[AB.eb,Q9,b.1]
    grind
   .simp only[AB.ey,Qj,b.2,EV.noR,k5]
    grind
 .cases a
theorem yk(κ:JD D O){p q:PR}(a:Aat D q p=X)(h:Fw S K (p::q::rs) O):Fw S K (q::p::rs) O:=by
 unfold Aat at a;split at a
 .rename_i x g m w d z G H I J L;simp only[pq,x_,tn,bne_iff_ne,ne_eq]at a;obtain⟨⟨⟨⟨⟨⟨⟨⟨Q,B⟩,mD⟩,qD⟩,C⟩,E⟩,qb⟩,hdx⟩,_⟩:=a;have n1:g≠d:=λe=>BB C (x:=g) V c_;have Z:g≠m:=λe=>BB C (x:=g) V c_;have n3:g≠w:=λe=>BB C (x:=g) V c_;have n4:x≠d:=λe=>BB E (x:=x) V c_;have n5:x≠m:=λe=>BB E (x:=x) V c_;have n6:x≠w:=λe=>BB E (x:=x) V c_;obtain⟨e',o,h⟩:=h;have j:=κ.congr o.symm;simp only[PR.wp,J,L,I,AB.put]at h;obtain⟨ep,s,off,cs,k1,k2,k3,k4,R,⟨θ,b,ε⟩,t⟩:=T8 h;simp only[PR.wp,G,H,AB.put]at ε;obtain⟨e,hK,F,hnb,i⟩:=a8 z ε;have k:s∉D:=j.no (x:=m) (by rw[k1];rfl);have hsd:s≠d:=λe=>k (e▸Q);have g1:∀n,n≠d->n≠m->n≠w->(θ.get n).box2 (e'.get n):=by
   intro n u η ζ;rw[b.1,AB.eb,ae (λe=>u e.symm),Q9];by_cases M:s=n
   .subst M;rw[ac rfl];exact .inr ⟨_,cs,rfl,k2⟩
   .rw[ae M,ae (λe=>η e.symm),ae (λe=>ζ e.symm)];exact .inl rfl
  have l:JD D θ:=by
   intro y δ;rw[b.2,AB.ey,Qj,EV.noR,R];exact j y δ
  refine ⟨e',o,?_⟩;simp only[PR.wp,G,H,AB.put];refine i e' (g1 x n4 n5 n6) (λr hr=>?_) _ ⟨_,.refl _,?_⟩
  .have hrD:r∉D:=l.no hr
   grind
  .simp only[PR.wp,J,L,I,AB.put];have A:s≠g:=λe=>k (e▸B);refine t _ (by rw[AB.eb,ae Z]) (by rw[AB.eb,ae n3]) (by rw[AB.eb,ae (λe=>A e.symm)]) ?_ _ (I0 hK ?_)
   .rw[AB.ey,k4,A?];refine Vm (λr hr=>?_);rcases F r hr with u|u
    .grind[BB]
    .exact λ(e:r=d)=>l.no u (e▸Q)
   .refine⟨λn=>?_,λc=>?_⟩
    .simp only[AB.eb,Q9,b.1]
     grind
    .simp only[AB.ey,Qj,b.2,EV.noR,R]
     grind
 .cases a
end
def Abp(p:PR):Bool:=p.tk.isSome||(match p.op,p.guard,p.dst with|.AaO _ _,W,Y _=>X|_,_,_=>T)
variable{O:AB}
theorem fD{S:FuncId->Fq->A9->Prop}{p:PR}{K:AB->Prop}(ho:Abp p=X)(h:p.wp S O K):∃pc,K pc/\(∀c,pc.ij c=O.ij c)/\∀b:AB->Prop,b pc->p.wp S O b:=by
 simp only[Abp,A']at ho;rcases ho with ho|ho
 .obtain⟨⟨qs,d⟩,i⟩:=B'.1 ho;obtain⟨e,g,j,a⟩:=Y4 i h;exact⟨_,j,λc=>by rw[AB.ey,Ju,EV.noR,g.AbD];rfl,a O (λ_ _=>rfl) g.dno⟩
 grind [PR.wp,AB.put,T8,AB.ey,Qj,EV.noR]
theorem lH{D:QQ}{p q:PR}(h:Aas D q p=X):Abp p=X:=by grind[Aas,Abp]
theorem iB{D:QQ}{p q:PR}(h:Aas D p q=X):PR.Aai D p=X:=by
 unfold Aas at h
 grind
theorem lL{p q:PR}(h:AaW p q=X):Abp p=X:=by grind[AaW,Abp]
theorem iC{D:QQ}{p q:PR}(h:Aat D p q=X):PR.Aai D p=X:=by
 unfold Aat at h
 grind
theorem lJ{D:QQ}{p q:PR}(h:Aat D q p=X):Abp p=X:=by grind[Aat,Abp]
end Go.Sf
namespace Go.Sf
open Go.RowKit (Below)
def PY(rs:List PR)(i:Nat):PR:=(rs[i]?).getD ⟨W,.Abz 0,W⟩
def AbJ(p:PR):Bool:=match p.op,p.guard,p.dst with
 |.Aao _,W,Y _=>X|_,_,_=>T
def AaX(p q:PR):Bool:=match p.op,p.guard,p.dst,q.op,q.guard,q.dst with
 |.Aao gs,W,Y dp,.alc _,W,Y dq=>dp !=dq&&!(gs.flatMap GC.sl).contains dq|_,_,_,_,_,_=>T
theorem lG{p q:PR}(h:AaX p q=X):AbJ p=X:=by grind[AaX,AbJ]
def Xa(p:PR):Bool:=match p.op,p.guard,p.dst with
 |.st _ (.s _) _,W,W=>X|.xst _ _ _,W,W=>X|_,_,_=>T
def AaZ(D:QQ)(p q:PR):Bool:=match p.op,p.guard,p.dst,q.op,q.guard,q.dst with
 |.xst x v _,W,W,.xia (.s _) _ _,W,Y d=>D.contains d&&!x.sl.contains d&&!v.sl.contains d|_,_,_,_,_,_=>T
def Tr(D:QQ)(p q:PR):Bool:=match p.op,p.guard,p.dst,q.op,q.guard,q.dst with
 |.st _ (.s x) v,W,W,.bad m _,W,Y d=>D.contains d&&d !=x&&d !=m&&!v.sl.contains d&&!v.sl.contains m|.st _ (.s x) v,W,W,.fad (.s m) _,W,Y d=>D.contains d&&d !=x&&d !=m&&!v.sl.contains d&&!v.sl.contains m|_,_,_,_,_,_=>T
theorem lF{D:QQ}{p q:PR}(h:Tr D p q=X):Xa p=X:=by grind[Tr,Xa]
theorem lK{D:QQ}{p q:PR}(h:AaZ D p q=X):Xa p=X:=by grind[AaZ,Xa]
def AE.vops:AE->Option (List AH)
 |.len x=>Y [x]|.mm _ x y=>Y [x,y]|.slc _ x lo hi=>Y (x::(lo.toList++hi.toList))|.bin _ _ x y=>Y [x,y]|.cvt _ x=>Y [x]|.fdv x _=>Y [x]|.ldv x _=>Y [x]|_=>W
def Abe(D:QQ)(p q:PR):Bool:=match p.op.vops,p.guard,p.dst,q.op,q.guard,q.dst with
 |some xs,W,Y d,.st _ (.s x) v,W,W=>PR.Aai D p&&d !=x&&!v.sl.contains d&&FW (xs.flatMap AH.sl) v.sl|_,_,_,_,_,_=>T
def Abb(D:QQ)(p q:PR):Bool:=match p.op,p.guard,p.dst,q.op,q.guard,q.dst with
 |.ldb b _,W,Y d,.st _ (.s x) v,W,W=>PR.Aai D p&&D.contains b&&b !=x&&d !=x&&d !=b&&!v.sl.contains d&&!v.sl.contains b|.bad b _,W,Y d,.st _ (.s x) v,W,W=>PR.Aai D p&&d !=x&&!v.sl.contains d&&!v.sl.contains b|_,_,_,_,_,_=>T
def Aa3(D:QQ)(p q:PR):Bool:=Yk D p q||Aa1 D p q||AaX p q||Abd D p q||Abf D p q||(Tr D p q||AaZ D p q)||Abe D p q||Abb D p q||(Aas D p q||Aas D q p||AaW p q||Aat D p q||Aat D q p)
def okQ(p:PR):Bool:=match p.op,p.guard,p.dst with
 |.tkx _,W,Y _=>X|.Abo _ _ _ _,W,Y _=>X|_,_,_=>T
theorem iA{D:QQ}{p q:PR}(h:Aa3 D p q=X):((PR.Aai D p=X\/AbJ p=X)\/Xa p=X)\/Abp p=X:=by
 simp [Aa3]at h;rcases h with(((((((h|h)|h)|h)|h)|h)|h)|h)|((((h|h)|h)|h)|h)
 rotate_right 5
 .grind[iB]
 .exact .inr (lH h)
 .exact .inr (lL h)
 .grind[iC]
 .exact .inr (lJ h)
 all_goals refine .inl ?_
 .simp[Yk]at h
  grind
 .unfold Aa1 at h
  grind
 .grind[lG]
 .unfold Abd at h
  grind
 .unfold Abf at h
  grind
 .grind[lF,lK]
 .unfold Abe at h
  grind
 .unfold Abb at h
  grind
def tF(ops:Array Oper):QQ:=
 ops.toList.foldl (λacc o=>acc++[o.after.toList.foldl (λm e=>if Region.binds .any e then m|||(1<<<e.on)|||acc.getD e.on 0 else m) 0]) []
def okCa(p:PR):Bool:=match p.op,p.guard,p.dst with
 |.AaP _ _ _,W,Y _=>X|_,_,_=>T
variable{O:AB}
theorem qX{S:FuncId->Fq->A9->Prop}{p:PR}{K:AB->Prop}(ho:okCa p=X)(h:p.wp S O K):p.wp S O λpc=>K pc/\∀c,pc.ij c=O.ij c:=by
 unfold okCa at ho;split at ho
 .rename_i f args i d g j k;simp[PR.wp,g,j,k,AE.wp,AB.put]at h|-;split at h
  .rename_i t q a u;simp at a;subst a;split at h
   .rename_i cs w;refine⟨h.1,?_⟩;cases hv:JQ O i args with
    |none=>rw[hv]at h;exact h.2.elim|some z=>
     rw [hv]at h;obtain⟨_,r,l,o⟩:=h;refine⟨r,l,λb=>⟨o b,λc=>?_⟩⟩;have:EV.noR c r.aev=X:=by cases r<;>rfl
     rw [AB.ey,AB.ey,this];rfl
   .exact h.elim
  .exact h.elim
 .cases ho
def okCm(p:PR):Bool:=match p.op,p.dst with
 |.AaG _ _ _,Y _=>X|_,_=>T
def fC(D:QQ)(r:PR):Bool:=
 Ov r.op||AbJ r||okQ r||Abp r||okCa r||okCm r||(r.op.mov&&r.dst.isSome&&(!r.op.t5||r.guard.isNone)&&FW r.op.Aa6 D)
def Vo(P:Program)(N:Nat)(D:QQ)(ops:Array Oper)(rs:List PR):Bool:=
 let n:=ops.size
 let M:=tF ops
 N3 P N ops ops.toList rs&&(x? n).all (λi=>fC D (PY rs i)) &&
 (x? n).all (λi=>match ops[i]? with
  |some o=>o.after.toList.all λe=>!Region.binds .any e||decide (e.on<i)|none=>T) &&
 (x? n).all (λi=>(x? n).all λj=>!(M.getD i 0).testBit j||(match ops[i]? with
  |some o=>o.after.toList.any λe=>Region.binds .any e&&(e.on==j||(decide (e.on<i)&&(M.getD e.on 0).testBit j))|none=>T)) &&
 (x? n).all (λi=>(x? i).all λj=>(M.getD i 0).testBit j||Aa3 D (PY rs j) (PY rs i))
section
variable{P:Program}{F0:Nat->Nat->Prop}{w0:W0}{N:Nat}{p:Option (Nat×Value)}{ops:Array Oper}{K:AB->Prop}{D:QQ}
variable{f:BV}{d:Option Nat}{O:AB}
theorem Es.refl{op:AE}(h:f.ok O):Es op f d O O:=
 ⟨λ_ _=>.inl rfl,λ_ _ _ _=>.inl rfl,λ_ _ _=>rfl,h,λ_ _ _ h=>h⟩
theorem NO(d:Nat)(a:AB):∀(qs:QQ)(O:AB),AB.ij d (SQ a qs O)=AB.ij d O
 |[],_=>rfl|q::qs,O=>by
  rw [SQ,AB.ey,NO d a qs O]
  grind [NN,EV.noR,EV.ref]
theorem uJ(d:Nat)(e:EV)(O:AB)(g:GC)(h:d∉g.sl):GC.cell ((d,e)::O) g=g.cell O:=by
 cases g with
 |z c=>rfl|v x k n=>
  cases x with
  |s q=>
   grind [GC.sl,w?,GC.cell,AH.val,AH.ev,AB.eb]
  |c t=>rfl
 |w q=>
  grind [GC.sl,w?,GC.cell,AB.eb]
 |g q k n=>
  grind [GC.sl,w?,GC.cell,AB.eb]
theorem eH(d:Nat)(e:EV)(O:AB):∀(gs:List GC),d∉gs.flatMap GC.sl->KY ((d,e)::O) gs=KY O gs
 |[],_=>rfl|g::gs,h=>by
  rw [List.flatMap_cons,y_,not_or]at h;simp[KY,uJ d e O g h.1,eH d e O gs h.2]
variable{gs:List GC}
theorem vZ{q:Nat}(h:q∈gs.filterMap GC.slot):q∈gs.flatMap GC.sl:=by
 rw [List.mem_filterMap]at h;obtain⟨g,a,e⟩:=h;rw[y!];refine⟨g,a,?_⟩;cases g<;>simp[GC.slot]at e<;>simp[GC.sl,e]
theorem XG{S:FuncId->Fq->A9->Prop}{p:PR}{K:AB->Prop}{d:Nat}(c:p.op=.Aao gs)(g:p.guard=W)(i:p.dst=Y d)(h:p.wp S O K):
  ∃cs,((gs.filterMap GC.src).Nodup/\d∉gs.filterMap GC.slot)/\KY O gs=Y cs/\K ((d,.oag cs)::SQ O (gs.filterMap GC.slot) O):=by
 simp only[PR.wp,c,g,i,AE.wp,AB.put]at h;obtain⟨j,b⟩:=h;cases a:KY O gs with
 |none=>rw[a]at b;exact b.elim|some k=>rw[a]at b;exact⟨k,j,rfl,b⟩
theorem UC{S:FuncId->Fq->A9->Prop}{p:PR}{K:AB->Prop}{d:Nat}{cs:List AR}(b:p.op=.Aao gs)(c:p.guard=W)(g:p.dst=Y d)(i:(gs.filterMap GC.src).Nodup/\d∉gs.filterMap GC.slot)(a:KY O gs=Y cs)
  (h:K ((d,.oag cs)::SQ O (gs.filterMap GC.slot) O)):p.wp S O K:=by
 simp only[PR.wp,b,c,g,AE.wp,AB.put,a];exact⟨i,h⟩
variable{q:PR}{v:AH}
theorem VZ{S:FuncId->Fq->A9->Prop}{K:AB->Prop}{n x:Nat}(a:q.op=.st n (.s x) v)(k:q.guard=W)(hd:q.dst=W)(h:q.wp S O K):
  ∃s off cs cs' o,(AH.s x).place O=Y (s,off)/\O.get s=.bx cs/\(∀g e,o=Y (g,e)->v=.s g/\(∃t,e=.tv t)/\g≠s)/\K (P4 s cs' o O)/\
   ∀env2,(AH.s x).place env2=Y (s,off)->env2.get s=.bx cs->v.ev env2=v.ev O->∀i:AB->Prop,i (P4 s cs' o env2)->q.wp S env2 i:=by
 unfold PR.wp at h;rw[k,a,hd]at h;simp[AE.wp]at h;split at h
 .rename_i s off w;split at h
  .rename_i cs z;split at h
   .rename_i t hv;cases v with
    |c t=>exact h.elim|s g=>
     simp only at h;simp[AH.ev]at hv;refine⟨s,off,cs,_,Y (g,.tv t),w,z,?_,h.2.2.2,λenv2 l u j i b=>?_⟩
     .intro s' A he;simp at he;obtain⟨rfl,rfl⟩:=he;exact⟨rfl,⟨t,rfl⟩,h.1⟩
     .simp[AH.ev]at j;unfold PR.wp;rw[k,a,hd];simp[AE.wp,l,u,AH.ev,j,hv];exact⟨h.1,h.2.1,h.2.2.1,b⟩
   next t hv=>refine⟨s,off,cs,_,W,w,z,V,h.2.2,λenv2 l u j i b=>?_⟩;unfold PR.wp;rw[k,a,hd];simp[AE.wp,l,u,j,hv];exact⟨h.1,h.2.1,b⟩
   .exact h.elim
  .exact h.elim
 .exact h.elim
variable{e':AB}
theorem head{p:PR}{o:Oper}(ho:Nw P N ops o p=X){K:AB->Prop}(g:((PR.Aai D p=X\/AbJ p=X)\/Xa p=X)\/Abp p=X)(H:Nq F0 w0 N e')(I:JD D e')(h:p.wp (AV P) e' K):
  ∃pc,K pc/\Nq F0 w0 N pc/\JD D pc/\∀b:AB->Prop,b pc->p.wp (AV P) e' b:=by
 rcases g with((g|g)|g)|g
 rotate_right
 .obtain⟨pc,⟨l,Q,R⟩,a⟩:=GU (K:=λpc=>K pc/\(∀c,pc.ij c=e'.ij c)/\∀b:AB->Prop,b pc->p.wp (AV P) e' b) H ho (by
   grind [fD])
  exact ⟨pc,l,a,λd hd=>by rw[Q];exact I d hd,R⟩
 .simp[PR.Aai,A!]at g;obtain⟨⟨⟨⟨ζ,δ⟩,Z⟩,pb⟩,pD⟩:=g;obtain⟨dp,θ⟩:=B'.1 δ;have M:p.op.t5=X->p.guard=W:=λκ=>by
   rcases Z with h|h
   .rw[κ]at h;cases h
   .simpa using h
  obtain ⟨pc,⟨l,ep,fp,L⟩,a⟩:=GU H ho (Q6 θ ζ M h);exact⟨pc,l,a,L.jd pb I,λb j=>L.again e' (.refl L.ok) (λ_ _=>rfl) _ (by rw[<-L.pc];exact j)⟩
 .unfold AbJ at g;split at g
  .rename_i gs d A B C;obtain⟨pc,l,a⟩:=GU (K:=λpc=>K pc/\∃cs,((gs.filterMap GC.src).Nodup/\d∉gs.filterMap GC.slot)/\KY e' gs=Y cs/\pc=(d,.oag cs)::SQ e' (gs.filterMap GC.slot) e') H ho (by
    obtain ⟨ts,w,z,E⟩:=XG A B C h
    grind [UC])
   obtain ⟨l,ts,w,z,rfl⟩:=l;refine⟨_,l,a,λx ε=>?_,λb j=>UC A B C w z j⟩;rw[AB.ey,NO,I x ε];rfl
  .cases g
 .unfold Xa at g;split at g
  .rename_i n x v A B C;obtain⟨pc,⟨l,s,off,cs,cs',o',w,F,z,E,G⟩,a⟩:=GU (K:=λpc=>K pc/\∃s off cs cs' o,(AH.s x).place e'=Y (s,off)/\e'.get s=.bx cs/\(∀J e,o=Y (J,e)->v=.s J/\(∃t,e=EV.tv t)/\J≠s)/\pc=P4 s cs' o e'/\
     ∀b:AB->Prop,b (P4 s cs' o e')->p.wp (AV P) e' b) H ho (by
    obtain ⟨s,off,cs,cs',o,w,F,z,E,G⟩:=VZ A B C h;exact G e' w F rfl _ ⟨E,s,off,cs,cs',o,w,F,z,rfl,λb j=>G e' w F rfl b j⟩)
   subst E;refine⟨_,l,a,λd hd=>?_,G⟩;rw[GY _ _ _ _ _ (λJ e he=>by
    obtain ⟨_,⟨t,rfl⟩,_⟩:=z J e he;rfl)]
   exact I d hd
  .rename_i x v k A B C;obtain⟨pc,⟨l,Q,R⟩,a⟩:=GU (K:=λpc=>K pc/\(∀c,pc.ij c=e'.ij c)/\∀b:AB->Prop,b pc->p.wp (AV P) e' b) H ho (by
    simp [PR.wp,A,B,C,AE.wp,AB.put]at h|-;split at h
    .rename_i q i c ε;split at h
     .rename_i n es u η hu;obtain⟨w,F,es',z,E,G,h7⟩:=h;refine⟨w,F,es',z,E,G,h7,λc=>(QX (es':=es') η).2.2 c,λb j=>?_⟩
      grind
     .exact h.elim
    .exact h.elim)
   exact ⟨pc,l,a,λd hd=>by rw[Q];exact I d hd,R⟩
  .cases g
variable{rs:List PR}
theorem yg{p q:PR}(a:AaX p q=X)(h:Fw (AV P) K (p::q::rs) O):Fw (AV P) K (q::p::rs) O:=by
 unfold AaX at a;split at a
 .rename_i gs G cs A j k l o t u;simp only[pq,bne_iff_ne,ne_eq,A!,x_,decide_eq_false_iff_not]at a;obtain⟨C,w⟩:=a;obtain⟨e',g,h⟩:=h;obtain⟨H,E,F,x,i,c⟩:=XG j k l h;simp[PR.wp,o,t,u,AE.wp,AB.put]at c;obtain⟨b,c⟩:=c;rw[i.2,AB.ey,NO]at b;simp[EV.noR,EV.ref]at b;refine⟨e',g,?_⟩;simp[PR.wp,o,t,u,AE.wp,AB.put];refine⟨b,_,.refl _,UC j k l E (by rw[eH _ _ _ _ w];exact F) (I0 c ?_)⟩;have B:A∉gs.filterMap GC.slot:=λz=>w (vZ z);refine⟨λn=>?_,λd=>?_⟩
  .rw[AB.eb,i.1,AB.eb,AB.eb,LG,LG]
   grind [AB.eb]
  .rw[AB.ey,i.2,AB.ey,AB.ey,NO,NO,AB.ey]
   grind
 .cases a
variable{pc:AB}
theorem mR{S:FuncId->Fq->A9->Prop}{K:AB->Prop}{m d s:Nat}{cs cs':List AR}{o:Option (Nat×EV)}(a:(∃k,q.op=.bad m k)\/∃k,q.op=.fad (.s m) k)(g:q.guard=W)(hd:q.dst=Y d)(A:O.get s=.bx cs)(ho:∀z e,o=Y (z,e)->(∃t,e=.tv t)/\z≠m)
  (he:∀n,pc.get n=(P4 s cs' o O).get n)(h:q.wp S pc K):∃e,K ((d,e)::pc)/\∀i:AB->Prop,i ((d,e)::O)->q.wp S O i:=by
 have u:pc.get m=if s=m then .bx cs' else O.get m:=by
  grind [Fv]
 have hb:∀r c,pc.get r=.bx c->∃l,O.get r=.bx l:=by
  grind [Fv]
 unfold PR.wp at h;rcases a with⟨k,a⟩|⟨k,a⟩
 .rw[g,a,hd]at h;simp[AE.wp,AB.put]at h;by_cases e:s=m
  .rw[u,ac e]at h;refine⟨_,h,λi b=>?_⟩;unfold PR.wp;rw[g,a,hd];simp[AE.wp,<-e,A,AB.put];rw[<-e]at b;exact b
  .rw[u,ae e]at h;split at h
   next c j=>refine⟨_,h,λi b=>?_⟩;unfold PR.wp;rw[g,a,hd];simp[AE.wp,j,AB.put];exact b
   next row j=>refine⟨_,h,λi b=>?_⟩;unfold PR.wp;rw[g,a,hd];simp[AE.wp,j,AB.put];exact b
   .exact h.elim
 .rw[g,a,hd]at h;simp[AE.wp,AB.put,AH.ev]at h;by_cases e:s=m
  .rw[u,ac e]at h;exact h.elim
  .rw[u,ae e]at h;split at h
   next row j=>refine⟨_,h,λi b=>?_⟩;unfold PR.wp;rw[g,a,hd];simp[AE.wp,AH.ev,j,AB.put];exact b
   .rename_i r off j;split at h
    next c hr=>obtain⟨l,w⟩:=hb r c hr;refine⟨_,h,λi b=>?_⟩;unfold PR.wp;rw[g,a,hd];simp[AE.wp,AH.ev,j,w,AB.put];exact b
    .exact h.elim
   .exact h.elim
theorem yf{p q:PR}(C:JD D O)(b:Tr D p q=X)(h:Fw (AV P) K (p::q::rs) O):Fw (AV P) K (q::p::rs) O:=by
 have key:∃n x v m d,p.op=.st n (.s x) v/\p.guard=W/\p.dst=W/\((∃k,q.op=.bad m k)\/∃k,q.op=.fad (.s m) k)/\q.guard=W/\q.dst=Y d/\d∈D/\d≠x/\d∉v.sl/\m∉v.sl:=by
  unfold Tr at b
  grind
 obtain ⟨n,x,v,m,d,F,G,H,I,J,L,M,Q,R,θ⟩:=key;obtain⟨e',g,h⟩:=h;have j:=C.congr g.symm;obtain⟨s,off,cs,cs',o,i,B,ε,⟨y,u,κ⟩,η⟩:=VZ F G H h;have l:d≠s:=by
  intro e;subst e;simp[AH.place]at i;split at i
  next r w E=>simp at i;exact j.no (x:=x) (s:=d) (by rw[E,<-i.1];rfl) M
  .grind
  .cases i
 have ho:∀a e,o=Y (a,e)->(∃t,e=EV.tv t)/\a≠m:=λa e he=>by
  grind [AH.sl]
 obtain ⟨e,ζ,δ⟩:=mR (cs':=cs') (o:=o) (O:=e') I J L B ho u.1 κ;refine⟨e',g,δ _ ⟨_,.refl _,η ((d,e)::e') ?_ (by rw[AB.eb,ae l];exact B) ?_ _ (I0 ζ ?_)⟩⟩
 .grind[AH.place,AB.eb]
 .cases v with
  |c t=>rfl|s a=>
   grind [AH.ev,AB.eb,AH.sl]
 .refine⟨λz=>?_,λz=>?_⟩
  .rw[AB.eb,u.1,Fv,Fv]
   grind [AB.eb,AH.sl]
  .have A:∀a e,o=Y (a,e)->e.noR z=X:=λa e he=>by
    obtain ⟨_,⟨t,rfl⟩,_⟩:=ε a e he;rfl
   rw [AB.ey,u.2,GY _ _ _ _ _ A,GY _ _ _ _ _ A,AB.ey]
variable{n m:Nat}
theorem sf{e' h:AB}{c:Nat}{o:Option Nat}{es es':Fq}(a:e'.wi c o=Y (n,es))(F:es'.length=es.length)(he:∀z,h.get z=AB.get (e'.Aah c o n es') z){y q:Nat}{i:Option Nat}{l:Fq}
  (H:h.get y=.la q i)(b:h.wi q i=Y (m,l)):e'.get y=.la q i/\∃fs',e'.wi q i=Y (m,fs')/\fs'.length=l.length:=by
 obtain ⟨⟨u,I,A⟩,ho,_⟩:=QX (es':=es') a;have t:c≠y:=by
  grind
 refine ⟨by rw[<-H,he,ho _ t],?_⟩;by_cases G:c=q
 .subst G;cases o with
  |none=>
   have g:h.get c=.xo n es':=by rw[he];simp[AB.Aah,AB.eb]
   cases i with
   |none=>
    simp [AB.wi,g]at b;obtain⟨rfl,rfl⟩:=b;exact⟨es,a,F.symm⟩
   |some k=>simp[AB.wi,g]at b
  |some E=>
   rcases A with⟨mm,M,J,_⟩|⟨cs,k,L,B,C,rfl⟩
   .simp[AB.wi,J]at a
   .cases L;have g:h.get c=.bx (cs.set E ⟨X,.xl n es'⟩):=by rw[he,I]
    cases i with
    |none=>simp[AB.wi,g]at b|some k=>
     by_cases j:E=k
     .subst j;have w:E<cs.length:=(List.getElem?_eq_some_iff.1 B).1;simp[AB.wi,g,y?,ac w]at b;obtain⟨rfl,rfl⟩:=b;exact⟨es,a,F.symm⟩
     .refine⟨l,?_,rfl⟩;rw[<-b];simp[AB.wi,g,C,y?,ae j]
 .exact⟨l,by rw[<-b];exact AB.Aaq (by rw[he,ho _ G]),rfl⟩
theorem yp{p q:PR}(hj:JD D O)(a:AaZ D p q=X)(h:Fw (AV P) K (p::q::rs) O):Fw (AV P) K (q::p::rs) O:=by
 unfold AaZ at a;split at a
 .rename_i x v k y z m d e1 e2 e3 f1 f2 f3;simp[A!,decide_eq_false_iff_not,tn]at a;obtain⟨⟨dD,δ⟩,Z⟩:=a;obtain⟨e',M,h⟩:=h;have κ:=hj.congr M.symm;simp only[PR.wp,e1,e2,e3,AE.wp,AB.put]at h;split at h
  .rename_i ε i0 c R;split at h
   .rename_i n es u B hu;obtain⟨h1,h2,es',h3,h4,h5,pc,A,b⟩:=h;have G:d≠ε:=by
     rintro rfl;cases x with
     |c t=>cases R
     |s xs=>exact κ.no (x:=xs) (s:=d) (by simp[AH.ev]at R;rw[R];rfl) dD
    simp [PR.wp,f1,f2,f3,AE.wp,AB.put,AH.z5]at b;have θ:=A.1;obtain⟨⟨w,hw,hww⟩,ho,_⟩:=QX (es':=es') B;have η:w.val=W:=by rcases hww with⟨_,_,_,_,_,rfl⟩|⟨_,_,_,_,_,rfl⟩<;>rfl
    have ζ:∀t,z.val pc=Y t->z.val e'=Y t:=by
     intro t E;cases z with
     |c t'=>exact E|s zz=>
      simp [AH.val,AH.ev]at E|-;by_cases l:ε=zz
      .subst l;rw[θ,hw,η]at E;cases E
      .rw[θ,ho _ l]at E;exact E
    have H:∃g i F j Q,pc.get y=.la g i/\pc.wi g i=Y (m,F)/\z.val pc=Y (.int Q j)/\0<=j/\j<F.length/\Fw (AV P) K rs ((d,.lp g i (j.toNat*m))::pc):=by
     cases I:pc.get y<;>rw[I]at b<;>simp[Ay]at b<;>try exact b.elim
     .cases l:z.val pc with
      |none=>rw[l]at b;exact b.elim|some t=>
       rw [l]at b;cases t<;>try exact b.elim
       have:=b.1.1;simp[AH.ev,I,EV.ref]at this
     .rename_i g i;cases C:pc.wi g i with
      |none=>rw[C]at b;exact b.elim|some pp=>
       obtain ⟨m',F⟩:=pp;rw[C]at b;simp only at b;cases l:z.val pc with
       |none=>rw[l]at b;exact b.elim|some t=>
        rw [l]at b;cases t<;>try exact b.elim
        rename_i Q j;obtain⟨⟨_,rfl⟩,k1,k2,k3⟩:=b;exact⟨g,i,F,j,Q,rfl,C,rfl,k1,k2,k3⟩
    obtain ⟨g,i,F,j,Q,m1,m2,m3,m4,m5,m6⟩:=H;obtain⟨n1,fs',n2,n3⟩:=sf B h4 θ m1 m2;refine⟨e',M,?_⟩;simp only[PR.wp,f1,f2,f3,AE.wp,AB.put,AH.z5,n1,n2,Ay,ζ _ m3,AH.ev,EV.ref];refine⟨⟨trivial,trivial⟩,m4,by rw[n3];exact m5,_,.refl _,?_⟩;have J:∀(o:AH),d∉o.sl->o.ev ((d,.lp g i (j.toNat*m))::e')=o.ev e':=by
     intro o ho;cases o with
     |c t=>rfl|s t=>
      simp only[AH.ev,AB.eb];rw[ae];intro e;exact ho (by simp[AH.sl,e])
    simp only[PR.wp,e1,e2,e3,AE.wp,AB.put,J x δ,J v Z,R,hu];have L:AB.wi ((d,.lp g i (j.toNat*m))::e') ε i0=Y (n,es):=by rw[AB.Aak G];exact B
    rw [L];refine⟨h1,h2,es',h3,h4,h5,I0 m6 ?_⟩;refine Om.symm (Om.trans (bh (.refl _) G) ⟨λs=>?_,λs=>?_⟩)
    .simp[AB.eb,θ]
    .simp[AB.ey,A.2]
   .exact h.elim
  .exact h.elim
 .cases a
theorem da{O env2:AB}{b:Nat}{o:Option AH}(h:∀y∈o.toList,y.val env2=y.val O):H8 env2 b o=H8 O b o:=by
 cases o with
 |none=>rfl|some y=>simp[H8];exact h y V
theorem yw{S:FuncId->Fq->A9->Prop}{p:AE}{xs:List AH}{K:EV->AB->Prop}(w:p.vops=Y xs)(h:p.wp S O d K):
  ∃t,K (.tv t) O/\(∀x∈xs,∃u,x.val O=Y u)/\∀env2,(∀x∈xs,x.val env2=x.val O)->∀i:EV->AB->Prop,i (.tv t) env2->p.wp S env2 d i:=by
 cases p<;>simp[AE.vops]at w<;>first|cases w|skip
 case bin k op x y=>
  simp [AE.wp]at h;split at h
  .rename_i a b ha hb;cases o:NE k op a b with
   |none=>rw[o]at h;exact h.elim|some t=>
    rw [o]at h;refine⟨t,h,λz c=>?_,λenv2 he i g=>?_⟩
    .simp at c;rcases c with rfl|rfl
     .exact⟨a,ha⟩
     .exact⟨b,hb⟩
    .simp[AE.wp,he x V,he y V,ha,hb,o];exact g
  .exact h.elim
 case fdv x k=>
  simp [AE.wp]at h;split at h
  .rename_i row ha;refine⟨_,h,λz c=>?_,λenv2 he i g=>?_⟩
   .rw[w?]at c;subst c;exact⟨_,ha⟩
   .simp[AE.wp,he x V,ha];exact g
  .exact h.elim
 case ldv x k=>
  simp [AE.wp]at h;split at h
  .rename_i row ha;refine⟨_,h.2,λz c=>?_,λenv2 he i g=>?_⟩
   .rw[w?]at c;subst c;exact⟨_,ha⟩
   .simp[AE.wp,he x V,ha];exact⟨h.1,g⟩
  .exact h.elim
 case len x=>
  simp [AE.wp]at h;split at h
  .rename_i n es ha;refine⟨_,h,λz c=>?_,λenv2 he i g=>?_⟩
   .rw[w?.1 c];exact⟨_,ha⟩
   .simp[AE.wp,he x V,ha];exact g
  .exact h.elim
 case cvt k x=>
  simp [AE.wp]at h;split at h
  .rename_i E n ha;refine⟨_,h,λz c=>?_,λenv2 he i g=>?_⟩
   .rw[w?.1 c];exact⟨_,ha⟩
   .simp[AE.wp,he x V,ha];exact g
  .exact h.elim
 case mm b x y=>
  simp [AE.wp]at h;split at h
  .rename_i k a E a' ha hb;refine⟨_,h.2,λz c=>?_,λenv2 he i g=>?_⟩
   .simp at c;rcases c with rfl|rfl
    .exact⟨_,ha⟩
    .exact⟨_,hb⟩
   .simp[AE.wp,he x V,he y V,ha,hb];exact⟨h.1,g⟩
  .exact h.elim
 case slc n x lo hi=>
  simp [AE.wp]at h;split at h
  .rename_i m es ha;split at h
   .rename_i A l B r C hr;refine⟨_,h.2.2,λz c=>?_,λenv2 he i g=>?_⟩
    .simp at c;rcases c with rfl|c|c
     .exact⟨_,ha⟩
     .cases c;exact⟨_,C⟩
     .cases c;exact⟨_,hr⟩
    .have A:H8 env2 0 lo=H8 O 0 lo:=da (λy j=>he y (by simp at j|-;exact .inr (.inl j)));have B:H8 env2 es.length hi=H8 O es.length hi:=da (λy j=>he y (by simp at j|-;exact .inr (.inr j)));simp[AE.wp,he x V,ha,A,B,C,hr];exact⟨h.1,h.2.1,g⟩
   .exact h.elim
  .exact h.elim
theorem yo{p q:PR}(a:Abe D p q=X)(h:Fw (AV P) K (p::q::rs) O):Fw (AV P) K (q::p::rs) O:=by
 unfold Abe at a;split at a
 .rename_i xs d n x v ε Q R κ η ζ;simp[bne_iff_ne,A!,decide_eq_false_iff_not]at a;obtain⟨⟨⟨_,hdx⟩,G⟩,H⟩:=a;obtain⟨e',I,h⟩:=h;unfold PR.wp at h;rw[Q,R]at h;simp[AB.put]at h;obtain⟨t,⟨y,j,hw⟩,hs,J⟩:=yw ε h;obtain⟨s,off,cs,cs',o,h1,L,M,hK,h5⟩:=VZ κ η ζ hw;have δ:∀z,d≠z->y.get z=e'.get z:=λz w=>by rw[j.1,AB.eb,ae w]
  have g:d≠s:=λe=>by
   rw [j.1,AB.eb,ac e]at L;cases L
  have Z:(AH.s x).place e'=Y (s,off):=by
   grind [AH.place]
  have hb:e'.get s=.bx cs:=by rw[<-δ s g];exact L
  have hv:v.ev e'=v.ev y:=by
   cases v with
   |c t=>rfl|s l=>
    grind [AH.ev,AH.sl]
  have hq:∀k:AB->Prop,k (P4 s cs' o e')->q.wp (AV P) e' k:=λk A=>h5 e' Z hb hv k A;refine⟨e',I,hq _ ⟨_,.refl _,?_⟩⟩;unfold PR.wp;rw[Q,R];simp[AB.put];refine J _ (λz w=>?_) _ (I0 hK ?_)
  .cases z with
   |c t=>rfl|s m=>
    obtain ⟨u,hu⟩:=hs _ w;have B:¬s=m:=λe=>by
     grind [AH.val,AH.ev,EV.val]
    simp [AH.val,AH.ev,Fv,ae B];cases o with
    |none=>rfl|some b=>
     have C:¬b.1=m:=λe=>BB H (x:=m) (y!.2 ⟨_,w,e_⟩) (by rw[(M b.1 b.2 rfl).1,e];simp[AH.sl]);simp[ae C]
  .refine⟨λz=>?_,λz=>?_⟩
   .rw[AB.eb,Fv,Fv];by_cases E:s=z
    .subst E;rw[ac rfl,ae g,ac rfl]
    .rw[ae E,ae E];cases o with
     |none=>
      simp only;rw[j.1,AB.eb]
     |some b=>
      have F:¬d=b.1:=λe=>G (by rw[(M b.1 b.2 rfl).1,e];simp[AH.sl]);simp only;by_cases i:b.1=z
      .rw[ac i,ac i,ae (λe=>F (e.trans i.symm))]
      .rw[ae i,ae i,j.1,AB.eb]
   .have θ:∀l e,o=Y (l,e)->e.noR z=X:=λl e he=>by
     obtain ⟨_,⟨t,rfl⟩,_⟩:=M l e he;rfl
    rw [AB.ey,GY _ _ _ _ _ θ,GY _ _ _ _ _ θ,j.2,AB.ey]
 .cases a
theorem yj{p q:PR}(hj:JD D O)(a:Abb D p q=X)(h:Fw (AV P) K (p::q::rs) O):Fw (AV P) K (q::p::rs) O:=by
 unfold Abb at a;split at a
 .rename_i b m d n x v Q i R ζ δ Z;simp[bne_iff_ne,A!,decide_eq_false_iff_not,tn]at a;obtain⟨⟨⟨⟨⟨⟨_,bD⟩,hbx⟩,hdx⟩,hdb⟩,L⟩,θ⟩:=a;obtain⟨e',F,h⟩:=h;have hj':=hj.congr F.symm;unfold PR.wp at h;rw[Q,i,R]at h;simp[AB.put,AE.wp]at h;split at h
  case h_2=>exact h.elim
  rename_i bs hbs;obtain⟨J,y,w,hw⟩:=h;obtain⟨s,off,cs,cs',o,h1,g,B,H,h5⟩:=VZ ζ δ Z hw;have gy:∀z,d≠z->y.get z=e'.get z:=λz κ=>by rw[w.1,AB.eb,ae κ]
  have l:d≠s:=λe=>by
   rw [w.1,AB.eb,ac e]at g;cases g
  have G:(AH.s x).place e'=Y (s,off):=by
   grind [AH.place]
  have hsb:¬s=b:=by
   intro e;subst e;simp[AH.place]at G;split at G
   next r off' hx=>simp at G;exact hj'.no (x:=x) (s:=s) (by rw[hx,<-G.1];rfl) bD
   .grind
   .cases G
  have hb:e'.get s=.bx cs:=by rw[<-gy s l];exact g
  have hv:v.ev e'=v.ev y:=by
   cases v with
   |c t=>rfl|s E=>
    grind [AH.ev,AH.sl]
  have hq:∀C:AB->Prop,C (P4 s cs' o e')->q.wp (AV P) e' C:=λC η=>h5 e' G hb hv C η;refine⟨e',F,hq _ ⟨_,.refl _,?_⟩⟩;have hg:(P4 s cs' o e').get b=.bx bs:=by
   grind [Fv,AH.sl]
  unfold PR.wp;rw[Q,i,R];simp[AB.put,AE.wp,hg];refine⟨J,I0 H ?_⟩;refine⟨λz=>?_,λz=>?_⟩
  .rw[AB.eb,Fv,Fv];by_cases A:s=z
   .subst A;rw[ac rfl,ae l,ac rfl]
   .rw[ae A,ae A];cases o with
    |none=>
     simp only;rw[w.1,AB.eb]
    |some j=>
     have I:¬d=j.1:=λe=>L r_;simp only;by_cases u:j.1=z
     .rw[ac u,ac u,ae (λe=>I (e.trans u.symm))]
     .rw[ae u,ae u,w.1,AB.eb]
  .have J:∀E e,o=Y (E,e)->e.noR z=X:=λE e he=>by
    obtain ⟨_,⟨t,rfl⟩,_⟩:=B E e he;rfl
   rw [AB.ey,GY _ _ _ _ _ J,GY _ _ _ _ _ J,w.2,AB.ey]
 .rename_i b k d n x v Q i R ζ δ Z;simp[bne_iff_ne,A!,decide_eq_false_iff_not,tn]at a;obtain⟨⟨⟨_,hdx⟩,L⟩,θ⟩:=a;obtain⟨e',F,h⟩:=h;unfold PR.wp at h;rw[Q,i,R]at h;obtain⟨ε,hn0,M,y,w,hw⟩:∃ε,(∀c,ε≠.bx c)/\(∀i:AB,i.get b=e'.get b\/(∃c c',e'.get b=.bx c/\i.get b=.bx c')->∀C:EV->AB->Prop,C ε i->(AE.bad b k).wp (AV P) i (Y d) C)/\Fw (AV P) K (q::rs) ((d,ε)::e'):=by
   simp only[AB.put,AE.wp]at h;split at h
   .rename_i hb;refine⟨_,V,λi g C H=>?_,h⟩;obtain⟨c',B⟩:∃c',i.get b=.bx c':=by
     rcases g with g|⟨_,c',_,g⟩
     .exact⟨_,g.trans hb⟩
     .exact⟨c',g⟩
    simp only[AE.wp,B];exact H
   .rename_i hb;refine⟨_,V,λi g C H=>?_,h⟩;have B:i.get b=e'.get b:=g.resolve_right λ⟨c,c',h4,_⟩=>by rw[hb]at h4;cases h4
    simp only[AE.wp,B,hb];exact H
   .exact h.elim
  obtain ⟨s,off,cs,cs',o,h1,g,B,H,h5⟩:=VZ ζ δ Z hw;have gy:∀z,d≠z->y.get z=e'.get z:=λz κ=>by rw[w.1,AB.eb,ae κ]
  have l:d≠s:=λe=>by
   rw [w.1,AB.eb,ac e]at g;exact hn0 _ g
  have G:(AH.s x).place e'=Y (s,off):=by
   grind [AH.place]
  have hb:e'.get s=.bx cs:=by rw[<-gy s l];exact g
  have hv:v.ev e'=v.ev y:=by
   cases v with
   |c t=>rfl|s E=>
    grind [AH.ev,AH.sl]
  refine ⟨e',F,h5 e' G hb hv _ ⟨_,.refl _,?_⟩⟩;unfold PR.wp;rw[Q,i,R];refine M _ ?_ _ (I0 H ?_)
  .rw[Fv];by_cases A:s=b
   .subst A;exact .inr ⟨cs,cs',hb,by rw[ac rfl]⟩
   .rw[ae A];cases o with
    |none=>exact .inl rfl|some j=>
     have:¬j.1=b:=λe=>θ r_;simp only;rw[ae this];exact .inl rfl
  refine ⟨λz=>?_,λz=>?_⟩
  .simp only[AB.put];rw[AB.eb,Fv,Fv];by_cases A:s=z
   .subst A;rw[ac rfl,ae l,ac rfl]
   .rw[ae A,ae A];cases o with
    |none=>
     simp only;rw[w.1,AB.eb]
    |some j=>
     have I:¬d=j.1:=λe=>L r_;simp only;by_cases u:j.1=z
     .rw[ac u,ac u,ae (λe=>I (e.trans u.symm))]
     .rw[ae u,ae u,w.1,AB.eb]
  .have J:∀E e,o=Y (E,e)->e.noR z=X:=λE e he=>by
    obtain ⟨_,⟨t,rfl⟩,_⟩:=B E e he;rfl
   simp only[AB.put];rw[AB.ey,GY _ _ _ _ _ J,GY _ _ _ _ _ J,w.2,AB.ey]
 .cases a
theorem mZ{oq:Oper}(u:Nw P N ops oq q=X){b:List PR}:∀(a:List PR),(∀p∈a,Aa3 D p q=X/\∃o,Nw P N ops o p=X)->∀{O:AB},Nq F0 w0 N O->JD D O->Fw (AV P) K (a++q::b) O->Fw (AV P) K (q::(a++b)) O
 |[],_,O,_,_,h=>h|p::a,g,O,B,C,h=>by
  obtain ⟨c,o,ho⟩:=g p V;obtain⟨e',i,h⟩:=h;obtain⟨pc,A,k,l,j⟩:=head ho (iA c) (B.congr i.symm) (C.congr i.symm) h;have z:=mZ u a (λp w=>g p (by simp[w])) k l A;have t:Fw (AV P) K (p::q::(a++b)) O:=⟨e',i,j _ z⟩;simp[Aa3]at c
  grind [swap,ve,yg,ym,yq,yf,yp,yo,yj,yi,yh,yr,yl,yk]
variable{x:AH}
theorem AAs{S:FuncId->Fq->A9->Prop}{K:EV->AB->Prop}(h:(AE.st n x v).wp S O d K):(AE.st n x v).wp S O d λe env'=>K e env'/\e=.undef/\∀c,env'.ij c=O.ij c:=by
 simp [AE.wp]at h|-;split at h
 .rename_i s off a;split at h
  .rename_i cs b;split at h
   .grind[AB.ey,EV.noR,EV.ref]
   .grind[AB.ey,EV.noR,EV.ref]
   .exact h.elim
  .exact h.elim
 .exact h.elim
variable{s:Nat}
theorem xE{S:FuncId->Fq->A9->Prop}{K:EV->AB->Prop}(h:(AE.stb n s v).wp S O d K):(AE.stb n s v).wp S O d λe env'=>K e env'/\e=.undef/\∀c,env'.ij c=O.ij c:=by
 simp [AE.wp]at h|-;split at h
 .rename_i cs a;split at h
  .grind[AB.ey,EV.noR,EV.ref]
  .grind[AB.ey,EV.noR,EV.ref]
  .exact h.elim
 .exact h.elim
theorem Yg(O:AB)(q:Nat)(i:Option Nat)(n:Nat)(es:Fq)(c:Nat):AB.ij c (O.Aah q i n es)=AB.ij c O:=by
 cases i with
 |none=>simp[AB.Aah,AB.ey,EV.noR,EV.ref]|some k=>
  grind [AB.Aah,AB.ey,EV.noR,EV.ref]
theorem xB{S:FuncId->Fq->A9->Prop}{q:Nat}{K:EV->AB->Prop}(h:(AE.cpt x q).wp S O d K):(AE.cpt x q).wp S O d λe env'=>K e env'/\e=.undef/\∀c,env'.ij c=O.ij c:=by
 simp [AE.wp]at h|-;split at h
 .grind[AB.ey,EV.noR,EV.ref]
 .grind[AB.ey,EV.noR,EV.ref]
 .exact h.elim
theorem xH{S:FuncId->Fq->A9->Prop}{k:Nat}{K:EV->AB->Prop}(h:(AE.xst x v k).wp S O d K):(AE.xst x v k).wp S O d λe env'=>K e env'/\e=.undef/\∀c,env'.ij c=O.ij c:=by
 simp [AE.wp]at h|-;split at h
 .grind[Yg]
 .exact h.elim
theorem k7(O:AB)(q i:Nat)(es:Fq)(c:Nat):AB.ij c (O.AbS q i es)=AB.ij c O:=by grind[AB.AbS,AB.ey,EV.noR,EV.ref]
theorem xD{S:FuncId->Fq->A9->Prop}{K:EV->AB->Prop}(h:(AE.nst x v).wp S O d K):(AE.nst x v).wp S O d λe env'=>K e env'/\e=.undef/\∀c,env'.ij c=O.ij c:=by
 simp [AE.wp]at h|-
 grind [k7]
theorem xF{S:FuncId->Fq->A9->Prop}{a:List (Option AR)}{K:EV->AB->Prop}(h:(AE.stq n a x v).wp S O d K):(AE.stq n a x v).wp S O d λe env'=>K e env'/\e=.undef/\∀c,env'.ij c=O.ij c:=by
 simp [AE.wp]at h|-;split at h
 .rename_i s off t b hv;split at h
  .rename_i cs g;cases hb:Ew a t.cells with
   |none=>rw[hb]at h;exact h.elim|some ds=>
    grind [AB.ey,EV.noR,EV.ref]
  .exact h.elim
 .exact h.elim
theorem xC{S:FuncId->Fq->A9->Prop}{m x v:AH}{K:EV->AB->Prop}(h:(AE.mup s m x v).wp S O d K):(AE.mup s m x v).wp S O d λe env'=>K e env'/\e=.undef/\∀c,env'.ij c=O.ij c:=by
 simp [AE.wp]at h|-;split at h
 .rename_i b a g t i j k;split at h
  .grind[AB.ey,EV.noR,EV.ref]
  .exact h.elim
 .exact h.elim
theorem xG{S:FuncId->Fq->A9->Prop}{n s q:Nat}{K:EV->AB->Prop}(h:(AE.stx n s q).wp S O d K):(AE.stx n s q).wp S O d λe env'=>K e env'/\e=.undef/\∀c,env'.ij c=O.ij c:=by
 simp [AE.wp]at h|-
 grind [AB.ey,EV.noR,EV.ref]
theorem qT{S:FuncId->Fq->A9->Prop}{f:FuncId}{ys:List AH}{K:EV->AB->Prop}(h:(AE.AaG f x ys).wp S O d K):(AE.AaG f x ys).wp S O d λe env'=>K e env'/\e.ref=W/\∀c,env'.ij c=O.ij c:=by
 simp only[AE.wp]at h|-;cases a:x.z5 O with
 |none=>rw[a]at h;exact h.elim|some p=>
  cases hv:vals O ys with
  |none=>rw[a,hv]at h;exact h.2.elim|some t=>
   rw [a,hv]at h;obtain⟨i,zs,b,j,k,l,o⟩:=h;refine⟨i,zs,b,j,k,l,λg=>⟨o g,?_,λc=>Yg _ _ _ _ _ c⟩⟩;unfold EV.ofs;split<;>rfl
variable{r:PR}
theorem uQ{S:FuncId->Fq->A9->Prop}{K:AB->Prop}(I:fC D r=X)(hd:Ov r.op=X->r.dst=W)(a:JD D O)(h:r.wp S O K):r.wp S O λenv'=>K env'/\JD D env':=by
 simp [fC,A!]at I;rcases I with(((((w|G)|k)|κ)|η)|H)|⟨⟨⟨hm,i⟩,J⟩,hb⟩
 rotate_right 2
 .unfold okCm at H;split at H
  .rename_i f x ys d o t;have put:∀e:EV,e.ref=W->∀env':AB,(∀c,env'.ij c=O.ij c)->JD D (env'.put r.dst e):=λe he env' Q c ζ=>by
    rw [t];show AB.ij c ((d,e)::env')=X;rw[AB.ey,Q,a c ζ];simp[EV.noR,he]
   have u:(r.op.wp S O r.dst λe env'=>K (env'.put r.dst e))->r.op.wp S O r.dst λe env'=>K (env'.put r.dst e)/\JD D (env'.put r.dst e):=λl=>by
    rw [o]at l|-;exact AE.o4 S O _ (λe env' he=>⟨he.1,put e he.2.1 env' he.2.2⟩) _ (qT l)
   unfold PR.wp at h|-;split
   next J=>rw[J]at h;exact u h
   .rename_i g b J;rw[J]at h;simp only at h;split
    next q k=>rw[k]at h;exact⟨λhb=>u (h.1 hb),λhb=>⟨h.2 hb,put .sk rfl O λ_=>rfl⟩⟩
    next B=>rw[B]at h;exact⟨h,put .sk rfl O λ_=>rfl⟩
    .rename_i C E;split at h
     next q k=>exact absurd k (C q)
     next k=>exact absurd k E
     .exact h.elim
  .cases H
 rotate_right
 .exact PR.o4 _ _ (λenv' he=>⟨he.1,λx A=>by rw[he.2];exact a x A⟩) r (qX η h)
 rotate_left 4
 .obtain⟨pc,Z,k2,k3⟩:=fD κ h;exact k3 _ ⟨Z,λx A=>by rw[k2];exact a x A⟩
 rotate_left 1
 .have i:=hd w;have u:(r.op.wp S O r.dst λe env'=>K (env'.put r.dst e))->r.op.wp S O r.dst λe env'=>K (env'.put r.dst e)/\JD D (env'.put r.dst e):=by
   intro l;rw[i]at l|-;generalize r.op=p at w l|-;cases p<;>simp[Ov]at w<;>first|cases w|skip
   .refine AE.o4 S O W (λe env' he=>⟨he.1,λd hd=>?_⟩) _ (AAs l);simp[AB.put];rw[he.2.2];exact a d hd
   .refine AE.o4 S O W (λe env' he=>⟨he.1,λd hd=>?_⟩) _ (xE l);simp[AB.put];rw[he.2.2];exact a d hd
   .refine AE.o4 S O W (λe env' he=>⟨he.1,λd hd=>?_⟩) _ (xH l);simp[AB.put];rw[he.2.2];exact a d hd
   .refine AE.o4 S O W (λe env' he=>⟨he.1,λd hd=>?_⟩) _ (xG l);simp[AB.put];rw[he.2.2];exact a d hd
   .refine AE.o4 S O W (λe env' he=>⟨he.1,λd hd=>?_⟩) _ (xB l);simp[AB.put];rw[he.2.2];exact a d hd
   .refine AE.o4 S O W (λe env' he=>⟨he.1,λd hd=>?_⟩) _ (xD l);simp[AB.put];rw[he.2.2];exact a d hd
   .refine AE.o4 S O W (λe env' he=>⟨he.1,λd hd=>?_⟩) _ (xF l);simp[AB.put];rw[he.2.2];exact a d hd
   .refine AE.o4 S O W (λe env' he=>⟨he.1,λd hd=>?_⟩) _ (xC l);simp[AB.put];rw[he.2.2];exact a d hd
  unfold PR.wp at h|-;split
  .grind
  .rename_i g b hr;rw[hr]at h;simp only at h;split
   next q k=>rw[k]at h;exact⟨λhb=>u (h.1 hb),λhb=>⟨h.2 hb,by rw[i];exact a⟩⟩
   next B=>rw[B]at h;exact⟨h,by rw[i];exact a⟩
   .rename_i C E;split at h
    next q k=>exact absurd k (C q)
    next k=>exact absurd k E
    .exact h.elim
 .unfold AbJ at G;split at G
  next gs d o t F=>obtain⟨ts,M,θ,ε⟩:=XG o t F h;refine UC o t F M θ ⟨ε,λx A=>?_⟩;rw[AB.ey,NO,a x A];rfl
  .cases G
 .unfold okQ at k;split at k
  next s d o t F=>obtain⟨n,es,M,h2,θ,ε⟩:=jz o t F h;refine j5 o t F M h2 θ ⟨ε,λx A=>?_⟩;have:=a x A;simp[AB.ey,EV.noR,EV.ref,this]
  .rename_i n s z x d o t F;simp[PR.wp,o,t,F,AE.wp,AB.put]at h|-;split at h
   next d' m es kk j L hs A=>simp at L;subst L;refine⟨h.1,h.2.1,h.2.2.1,h.2.2.2,λy δ=>?_⟩;have:=a y δ;simp[AB.ey,EV.noR,EV.ref,this]
   .exact h.elim
  .cases k
 .obtain⟨d,hd⟩:=B'.1 i;have R:r.op.t5=X->r.guard=W:=λQ=>by
   rcases J with h|h
   .rw[Q]at h;cases h
   .simpa using h
  refine PR.o4 S O (λenv' he=>?_) r (Q6 hd hm R h);obtain⟨M,e,f,hF⟩:=he;exact⟨M,hF.jd hb a⟩
theorem qK{S:FuncId->Fq->A9->Prop}{a:Act}{w:World}:∀{O:AB},UZ rs=X->Fw S K rs O->B9 F0 w0 O a w->∃env',K env'/\B9 F0 w0 env' a w:=by
 induction rs with
 |nil=>intro O _ h b;obtain⟨e,g,i⟩:=h;exact⟨e,i,b.congr λn=>(g.1 n).symm⟩
 |cons r rs u=>
  intro O c h b;simp[UZ]at c;obtain⟨g,i⟩:=c;obtain⟨e',j,h⟩:=h;have b:=b.congr (λn=>(j.1 n).symm);split at g
  .rename_i s k l o;simp[PR.wp,k,l,o,AE.wp]at h;split at h
   next cs t=>obtain⟨G,b⟩:=b;exact u i h (b.frz t)
   .exact h.elim
  .cases g
theorem Ua:∀(os:List Oper)(rs:List PR),N3 P N ops os rs=X->(∀i o,os[i]?=Y o->Nw P N ops o (PY rs i)=X)/\UZ (rs.drop os.length)=X/\rs=(x? os.length).map (PY rs)++rs.drop os.length
 |[],rs,h=>⟨λi o h=>by simp at h,h,V⟩|o::os,[],h=>by simp[N3]at h|o::os,r::rs,h=>by
  simp [N3]at h;obtain⟨b,c,g⟩:=Ua os rs h.2;refine⟨λi a hi=>?_,r!,?_⟩
  .cases i with
   |zero=>simp[List.getElem?_cons_zero]at hi;subst hi;exact h.1|succ i=>simp[List.getElem?_cons_succ]at hi;exact b i a hi
  .rw[cE,List.range_succ_eq_map,w_,List.map_map,w!,List.drop_succ_cons];congr 1
theorem mq{Q:Exit->Act->World->Prop}(hok:Vo P N D ops rs=X)(hpd:∀i v,p=Y (i,v)->∀r∈rs,r.dst≠Y i)(hQ:∀O a w,K O->MT N p a->B9 F0 w0 O a w->Q .normal a w):
  ∀(fuel:Nat)(rem:QQ)(b:Array Bool)(O:AB)(a:Act)(w:World),rem.length=fuel->rem.Pairwise (·<·)->(∀j,j∈rem↔j<ops.size/\b.getD j X=T)->b.size=ops.size ->
   (∀k o,ops[k]?=Y o->b.getD k T=X->∀e∈o.after,Region.binds .any e=X->b.getD e.on T=X) ->
   MT N p a->B9 F0 w0 O a w->JD D O->Fw (AV P) K (rem.map (PY rs)++rs.drop ops.size) O->wpAny P .any ops Q fuel b a w:=by
 simp only[Vo,pq,x!,z_]at hok;obtain⟨⟨⟨⟨hl,hs⟩,he⟩,hM⟩,hP⟩:=hok;obtain⟨F,hl2,hl3⟩:=Ua ops.toList rs hl;simp[Array.getElem?_toList]at F hl2 hl3;intro fuel
 induction fuel with
 |zero=>
  intro rem b O a w u R c hsz θ hN hI M h;have:rem=[]:=List.eq_nil_of_length_eq_zero u;subst this;refine⟨?_,?_⟩
  .refine List.eq_nil_iff_forall_not_mem.2 λj I=>?_;rw[mem_ready]at I;obtain⟨H,o,ho,_⟩:=I;have:=(c j).2 ⟨(B?.1 ho).1,H⟩;cases this
  .obtain⟨env',H,t⟩:=qK hl2 h hI;exact hQ env' a w H hN t
 |succ fuel ih=>
  intro rem b O a w u R c hsz θ hN hI M h;refine⟨λhnil=>?_,λi hi=>?_⟩
  ·
   exfalso;cases rem with
   |nil=>simp at u|cons i rem=>
    have H:=(c i).1 V;have l:i∈Region.ready .any ops b:=by
     rw [mem_ready];have ho:ops[i]?=Y ops[i]:=C_ H.1;refine⟨H.2,_,ho,λe A hb=>?_⟩;have:=he i H.1;rw[ho]at this;simp only[x!,A',A!,tn]at this;have hlt:=(this e m_).resolve_left (by simp[hb]);cases E:b.getD e.on T with
     |true=>rfl|false=>
      have ε:e.on∈i::rem:=by
       refine (c _).2 ⟨U,?_⟩;have:e.on<b.size:=U
       simp [C',C_ this]at E|-;exact E
      rcases z!.1 ε with t|t
      .omega
      .have:=(z?.1 R).1 _ t;omega
    rw [hnil]at l;cases l
  .have hi':=hi;rw[mem_ready]at hi';obtain⟨hi1,o,ho,hi2⟩:=hi';have l:i<ops.size:=(B?.1 ho).1;have hir:i∈rem:=(c i).2 ⟨l,hi1⟩;obtain⟨G,z,rfl⟩:=List.append_of_mem hir;have g:=A_.1 R;have J:∀j∈G,j<i:=λj M=>g.2.2 j M i V;have η:∀j∈z,i<j:=λj M=>(z?.1 g.2.1).1 j M;have before:∀(k:Nat),k<ops.size->(∀o,ops[k]?=Y o->∀e∈o.after,Region.binds .any e=X->b.getD e.on T=X)->∀j,j<ops.size->((tF ops).getD k 0).testBit j=X->b.getD j T=X:=by
    intro k
    induction k using Nat.strongRecOn with
    |_ k ihk=>
     intro Z hdir j C hb;have:=hM k Z j C;rw[hb]at this;simp only[B_,Bool.false_or]at this;split at this
     .rename_i ok hok';simp only[List.any_eq_true,pq,A',beq_iff_eq,tn]at this;obtain⟨e,A,hbe,h3⟩:=this;have E:=hdir ok hok' e m_ hbe;rcases h3 with h3|⟨h3,h4⟩
      .rw[<-h3];exact E
      .exact ihk e.on h3 U (λL B e' he' hb'=>θ e.on L B E e' he' hb') j C h4
     .cases this
   have hwp:Fw (AV P) K (PY rs i::(G.map (PY rs)++(z.map (PY rs)++rs.drop ops.size))) O:=by
    refine mZ (ops:=ops) (F0:=F0) (w0:=w0) (N:=N) (oq:=o) (F i o ho) (G.map (PY rs)) (λp hp=>?_) ⟨a,w,hN.size,hI⟩ M b?;obtain⟨j,hj1,rfl⟩:=List.mem_map.1 hp;have hlt:=J j hj1;have C:j<ops.size:=U
    refine ⟨?_,ops[j],F j _ (C_ C)⟩;have:=hP i l j hlt;rw[A']at this;refine this.resolve_left λhb=>?_;have H:=before i l (λL B=>by rw[ho]at B;simp at B;subst B;exact hi2) j C hb;have t:=((c j).1 (by simp[hj1])).2;have:j<b.size:=U
    simp [C',C_ this]at H t;rw[H]at t;cases t
   obtain ⟨e',heq,hw⟩:=hwp;have hI':=hI.congr (λn=>(heq.1 n).symm);have I:=M.congr heq.symm;have hstd:Ov (PY rs i).op=X->(PY rs i).dst=W:=by
    intro hst;have:=F i o ho;simp[Nw]at this;have t:=this.2;split at t
    .simp only[hst,B_,Bool.and_false,Bool.false_and]at t;cases t
    .assumption
    .cases t
   have hw':=uQ (hs i l) hstd I hw;have ζ:∀j,j∈G++z↔j<ops.size/\(b.setIfInBounds i X).getD j X=T:=by
    intro j;by_cases δ:j=i
    .subst δ;constructor
     .intro ε;rcases y_.1 ε with ε|ε
      .have:=J _ ε;omega
      .have:=η _ ε;omega
     .rintro⟨_,t⟩;have:j<b.size:=U
      simp [this]at t
    .rw[getD_set_ne X (λe=>δ e.symm),<-c j];simp[δ]
   have hcl':∀k L,ops[k]?=Y L->(b.setIfInBounds i X).getD k T=X->∀e∈L.after,Region.binds .any e=X->(b.setIfInBounds i X).getD e.on T=X:=by
    intro k L Z hlk e A hb;refine getD_set_true ?_;by_cases hki:k=i
    .subst hki;rw[ho]at Z;simp at Z;subst Z;exact hi2 e A hb
    .rw[getD_set_ne T (λe=>hki e.symm)]at hlk;exact θ k L Z hlk e A hb
   have hpdi:∀j v,p=Y (j,v)->(PY rs i).dst≠Y j:=by
    intro j v hp;unfold PY;cases hr:rs[i]? with
    |none=>simp|some r=>exact hpd j v hp r (List.mem_of_getElem? hr)
   have:=Xe (Q:=Q) (next:=wpAny P .any ops Q fuel (b.setIfInBounds i X)) hI' hN hpdi (F i o ho) hw' λenv' a' w' k1 k2 k3=>
    ih (G++z) _ env' a' w' (by simp at u|-;omega) (A_.2 ⟨g.1,(z?.1 g.2.1).2,λx hx y hy=>g.2.2 x hx y (by simp[hy])⟩) ζ (by simpa using hsz) hcl' k2 k3 k1.2 (by simpa using k1.1)
   unfold Go.wpOp;rw[ho];simp;split
   next κ=>rw[ac κ]at this;exact .inl this
   next κ=>rw[ae κ]at this;exact this
theorem Z6:∀(ds:QQ)(O:AB),Th O ds=X->JD ds O
 |[],O,_=>λd hd=>by simp at hd|d::ds,O,h=>by
  simp [Th]at h;intro x a;rcases z!.1 a with rfl|a
  .exact h.1
  .exact Z6 ds O h.2 x a
theorem NI(I:P.follows .mixedOrders=X):MS P N (Vo P N):=by
 intro F0 w0 p id ds ops rs g O a w K Q z B η c hd h ζ;refine wp_region_any I ?_;have l:=z;simp[Vo]at l;obtain⟨_,_,E⟩:=Ua ops.toList rs l.1.1.1.1;simp at E;have C:B9 F0 w0 O a {w with drawn:=w.drawn+1}:=by
  obtain ⟨G,c⟩:=c;refine⟨G,c.o3,c.lt,⟨c.below.os,c.below.tape,c.below.output,c.below.size,c.below.block,c.below.cell,c.below.free,c.below.tab⟩,c.defers,c.dom,λs J=>?_,c.wf⟩;exact AN.kept (w:=w) (w':={w with drawn:=w.drawn+1}) (F:=AW w0.heap.size F0 G) (G:=G) (O:=O) (a:=a) (λb o u L M=>⟨L,M⟩) (λ_=>rfl) (λ_ _ _ _=>rfl) rfl (λ_ _ _ _ _=>rfl) (λr i k hr R=>⟨R,λv hv=>by cases k<;>exact hv⟩) (λr off hr t=>⟨t,rfl⟩) (λr i hr t=>⟨t,λ_ hv=>hv⟩) (c.slots s J)
 refine mq (K:=λe=>K (e.fl g)) (F0:=F0) (w0:=w0) z B (λO a w θ ε κ=>ζ _ a w θ ε (κ.fl g)) ops.size (x? ops.size) _ O a _ V List.pairwise_lt_range (λj=>?_) V (λk o δ A=>?_) η C (Z6 ds O hd) ?_
 .rw[z_];constructor
  .intro H;exact⟨H,by simp[C',C!,H]⟩
  .exact λh=>h.1
 .simp[C',C!]at A;split at A<;>simp at A
 grind [pS]
end
end Go.Sf
