/- Operations that take a list of one's own, in drawn regions. -/
import Derived.Test.YtpagkickoiafkaaGreatSfSwap
set_option linter.all false
open Option renaming some->Y,none->W
open Bool renaming true->X,false->T
open List renaming map_cons->l!,cons_append->l?,mem_filterMap->m_,mem_flatMap->m?,mem_singleton->nc,flatMap_cons->nQ,mem_append->nR,contains_eq_mem->nS,all_eq_true->nT,getElem?_set_ne->nU,getElem?_eq_some_iff->nV,range->nW,getElem?_set->nX,mem_range->nY,mem_cons->nZ,pairwise_cons->n7,pairwise_append->n8
open Bool renaming or_eq_true->n9,not_eq_true'->n_,and_true->n!,not_true->n?
open Option renaming isSome_iff_exists->oa,toList_some->ob
open Array renaming getElem?_eq_some_iff->oc,getElem?_eq_getElem->od,getD_eq_getD_getElem?->oe,getElem?_replicate->og
namespace Go.Sf
def AB.tkn:AB->Option Ne
 |.l9 _=>Y []|.mc _=>Y []|.mO s=>Y [s]|.lL _ s _=>Y [s]|.mj q=>Y [q]|.ky gs=>Y (gs.filterMap GC.slot)|_=>W
def AB.lD:AB->Bool
 |.ky _=>X|_=>T
def Ie(u:Nat->EV)(qs:Ne)(O:AA):AA:=qs.map (λq=>(q,u q))++O
theorem Ix(u:Nat->EV)(qs:Ne)(O:AA)(n:Nat):AA.get (Ie u qs O) n=if n∈qs then u n else O.get n:=by
 induction qs with
 |nil=>rfl|cons q qs a=>
  grind [Ie,AA.gp]
theorem DI{u:Nat->EV}(b:∀q,(u q).jZ=W)(qs:Ne)(O:AA)(c:Nat):AA.je c (Ie u qs O)=AA.je c O:=by
 induction qs with
 |nil=>rfl|cons q qs a=>
  simp only[Ie,l!,l?,AA.ja]at a|-;rw[a,EV.kx,b];rfl
theorem Pt(e0:AA):∀(qs:Ne)(O:AA),Hx e0 qs O=Ie (λn=>(e0.get n).gave) qs O
 |[],_=>rfl|q::qs,O=>by
  simp only[Hx,Pt e0 qs O,Ie,l!,l?]
theorem Wm(e:EV):e.gave.jZ=W:=by cases e<;>rfl
theorem ST{gs:List GC}{q:Nat}(h:q∈gs.filterMap GC.slot):q∈gs.flatMap GC.sl:=by
 rw [m_]at h;obtain⟨g,a,e⟩:=h;rw[m?];refine⟨g,a,?_⟩;cases g<;>simp[GC.slot]at e<;>simp[GC.sl,e]
structure T7(S:FuncId->Fq->AZ->Prop)(op:AB)(u:Nat->EV)(qs:Ne)(d:Nat)(O:AA)(e:EV):Prop where
 dno:O.je d=X
 my:e.jZ=W
 l7:∀q,(u q).jZ=W
 slbx:∀n∈op.slots,∀cs,O.get n≠.bx cs
 sub:∀n∈qs,n∈op.slots
 again:∀env2,(∀n∈op.slots,env2.get n=O.get n)->env2.je d=X->∀K2:EV->AA->Prop,K2 e (Ie u qs env2)->op.wp S env2 (Y d) K2
variable{y:AC}
theorem bY{O env2:AA}(h:∀n∈y.sl,env2.get n=O.get n):y.val env2=y.val O:=by
 cases y with
 |c t=>rfl|s n=>simp only[AC.val,AC.ev,h n a!]
variable{O:AA}{t:TV}
theorem bX(h:y.val O=Y t):∀n∈y.sl,∀cs,O.get n≠.bx cs:=by
 intro n a cs b;cases y with
 |c t=>simp[AC.sl]at a|s m=>
  grind [AC.sl,nc,AC.val,AC.ev,EV.val]
theorem Wo{O env2:AA}{g:GC}(h:∀n∈g.sl,env2.get n=O.get n):g.cell env2=g.cell O:=by
 cases g with
 |z c=>rfl|v x k n=>
  cases x with
  |c t=>rfl|s m=>simp only[GC.cell,AC.val,AC.ev,h m (by simp[GC.sl])]
 |w q=>simp only[GC.cell,h q (by simp[GC.sl])]|g q k n=>simp only[GC.cell,h q (by simp[GC.sl])]
theorem RO{O env2:AA}:∀{gs:List GC},(∀n∈gs.flatMap GC.sl,env2.get n=O.get n)->Cq env2 gs=Cq O gs
 |[],_=>rfl|g::gs,h=>by
  rw [nQ]at h;simp only[Cq,Wo (g:=g) λn a=>h n (Bk a),RO (gs:=gs) λn a=>h n (B0 a)]
theorem RN:∀{gs:List GC}{cs:List AI},Cq O gs=Y cs->∀n∈gs.flatMap GC.sl,∀ds,O.get n≠.bx ds
 |[],_,_,n,a,_=>by simp at a|g::gs,cs,h,n,a,ds=>by
  simp only[Cq]at h;split at h
  .rename_i c cs' b j;rw[nQ,nR]at a;rcases a with a|a
   .intro l;cases g with
    |z c=>simp[GC.sl]at a|v x k m=>
     cases x with
     |c t=>simp[GC.sl]at a|s q=>simp[GC.sl]at a;subst a;simp[GC.cell,AC.val,AC.ev,l,EV.val]at b
    |w q=>simp[GC.sl]at a;subst a;simp[GC.cell,l]at b|g q k m=>simp[GC.sl]at a;subst a;simp[GC.cell,l]at b
   .exact RN j n a ds
  .cases h
variable{qs:Ne}{d:Nat}
theorem take{S:FuncId->Fq->AZ->Prop}{op:AB}{K:EV->AA->Prop}(j:op.tkn=Y qs)(F:op.lD=X->O.je d=X)(h:op.wp S O (Y d) K):∃e u,T7 S op u qs d O e/\K e (Ie u qs O):=by
 cases op<;>simp only[AB.tkn,reduceCtorEq,jR]at j
 case mc n=>
  subst j;simp only[AB.wp]at h;exact⟨_,λ_=>.undef,⟨h.1,rfl,λ_=>rfl,b!,V,λenv2 _ a k b=>⟨a,b⟩⟩,h.2⟩
 case l9 n=>
  subst j;simp only[AB.wp]at h;exact⟨_,λ_=>.undef,⟨h.1,rfl,λ_=>rfl,b!,V,λenv2 _ a k b=>⟨a,b⟩⟩,h.2⟩
 case mO s=>
  subst j;simp only[AB.wp]at h;split at h
  .rename_i C n es hd l;simp only[jR]at hd;subst hd;refine⟨.xo n es,λ_=>.undef,⟨h.1,rfl,λ_=>rfl,λm G cs A=>?_,b!,λenv2 g a k b=>?_⟩,h.2.2⟩
   .grind[AB.slots,nc]
   .have:=g s b!;simp only[AB.wp,this,l];exact⟨a,h.2.1,b⟩
  .exact h.elim
 case mj q=>
  subst j;simp only[AB.wp]at h;split at h
  .rename_i C n z hd l;simp only[jR]at hd;subst hd;refine⟨.x1 n z,λ_=>.undef,⟨h.1.1,rfl,λ_=>rfl,λm G cs A=>?_,b!,λenv2 g a k b=>?_⟩,h.2⟩
   .grind[AB.slots,nc]
   .have:=g q b!;simp only[AB.wp,this,l];exact⟨⟨a,h.1.2⟩,b⟩
  .exact h.elim
 case lL n s y=>
  subst j;simp only[AB.wp]at h;split at h
  .rename_i C m es m' z hd l H;simp only[jR]at hd;subst hd;obtain⟨L,M,Q,R,θ,ε⟩:=h;refine⟨.xo n (es++z),λ_=>.undef,⟨R,rfl,λ_=>rfl,λx B cs A=>?_,b!,λenv2 g a k b=>?_⟩,ε⟩
   .grind[AB.slots,bX]
   .have I:=g s b!;have J:=bY (O:=O) (env2:=env2) (y:=y) (λx B=>g x (by simp[AB.slots,B]));simp only[AB.wp,I,l,J,H];exact⟨L,M,Q,a,θ,b⟩
  .exact h.elim
 case ky gs=>
  subst j;simp only[AB.wp]at h;obtain⟨g,o⟩:=h;cases c:Cq O gs with
  |none=>rw[c]at o;exact o.elim|some cs=>
   rw [c]at o;refine⟨.kC cs,λn=>(O.get n).gave,⟨F rfl,rfl,λ_=>Wm _,RN c,λn w=>ST w,λenv2 a _ k b=>?_⟩,by rw[<-Pt];exact o⟩;simp only[AB.wp,RO a,c];refine⟨g,?_⟩;have:Hx env2 (gs.filterMap GC.slot) env2=Ie (λn=>(O.get n).gave) (gs.filterMap GC.slot) env2:=by
    rw [Pt];unfold Ie;congr 1;exact List.map_congr_left λn w=>by simp only[a n (ST w)]
   simp only[AS,this];exact b
def PR.tk(r:PR):Option (Ne×Nat):=
 match r.op.tkn,r.guard,r.dst with
 |some qs,W,Y d=>Y (qs,d)|_,_,_=>W
variable{r:PR}
theorem PR.tk_some(h:r.tk=Y (qs,d)):r.op.tkn=Y qs/\r.guard=W/\r.dst=Y d:=by
 unfold PR.tk at h
 grind
theorem Qr{S:FuncId->Fq->AZ->Prop}{K:AA->Prop}(g:r.tk=Y (qs,d))(j:r.op.lD=X->O.je d=X)(h:r.wp S O K):∃e u,T7 S r.op u qs d O e/\K ((d,e)::Ie u qs O)/\
  ∀env2,(∀n∈r.op.slots,env2.get n=O.get n)->env2.je d=X->∀a:AA->Prop,a ((d,e)::Ie u qs env2)->r.wp S env2 a:=by
 obtain ⟨w,z,A⟩:=PR.tk_some g;have o:r.op.wp S O (Y d) λe env'=>K ((d,e)::env'):=by
  grind [PR.wp,AA.put]
 obtain ⟨e,u,c,B⟩:=take w j o;refine⟨e,u,c,B,λenv2 k l a b=>?_⟩;unfold PR.wp;rw[z];simp only[A,AA.put];exact c.again env2 k l (λe env'=>a ((d,e)::env')) b
def kF(D:Ne)(p q:PR):Bool:=
 match q.tk with
 |some (qs,d)=>PR.km D p&&D.contains d&&qs.all D.contains&&Cb p.dst.toList (d::q.op.slots)&&Cb (d::qs) (p.op.slots++p.lf)&&Cb p.op.me q.op.slots|none=>T
def lr(D:Ne)(p q:PR):Bool:=
 match p.tk,q.tk with
 |some (_,dp),Y (_,dq)=>((!p.op.lD||D.contains dp)&&(!q.op.lD||D.contains dq))&&Cb (dp::p.op.slots) (dq::q.op.slots)|_,_=>T
section
variable{P:Program}{F0:Nat->Nat->Prop}{w0:W0}{N:Nat}{ops:Array Oper}{K:AA->Prop}{D:Ne}
variable{r:PR}{d:Nat}{O jq:AA}{e:EV}{f:An}
theorem JN.away{S:FuncId->Fq->AZ->Prop}(h:JN S r d O jq e f){x:Nat}(a:x∉r.op.slots)(b:∀y,(O.get y).jZ≠Y x)(u:EV):f.on x u=u:=by
 have c:=h.slot;have g:=h.cell;cases f with
 |none=>rfl|slot s t=>
  grind [An.on,BW]
 |cell s off t=>
  simp only[An.on]
  grind
theorem JN.stay{S:FuncId->Fq->AZ->Prop}(h:JN S r d O jq e f){x:Nat}(a:x∉r.op.me)(b:∀cs,O.get x≠.bx cs):f.on x (O.get x)=O.get x:=by
 have c:=h.slot;have g:=h.ok;cases f with
 |none=>rfl|slot s t=>
  grind [An.on]
 |cell s off t=>
  simp only[An.on]
  grind
theorem Pa(h:PR.km D r=X):∃d,r.dst=Y d/\r.op.mov=X/\(r.op.jY=X->r.guard=W)/\Cb r.op.lG D=X/\(r.op.jY=X\/d∈D):=by
 simp only[PR.km,jP,n9,n_]at h;obtain⟨⟨⟨⟨b,c⟩,g⟩,j⟩,k⟩:=h;obtain⟨d,hd⟩:=oa.1 c;refine⟨d,hd,b,λa=>?_,j,?_⟩
 .rcases g with h|h
  .rw[a]at h;cases h
  .simpa using h
 grind [PR.old]
variable{rs:List PR}
theorem bN(hR:GI F0 w0 N O)(hj:JD D O){op:Oper}{p q:PR}(hp:GN P N ops op p=X)(a:kF D p q=X)(h:CG (AO P) K (p::q::rs) O):CG (AO P) K (q::p::rs) O:=by
 unfold kF at a;split at a
 .rename_i qs d ht;simp only[jP,nS,kY,nT]at a;obtain⟨⟨⟨⟨⟨hm,η⟩,sD⟩,ζ⟩,δ⟩,c3⟩:=a;obtain⟨A,θ,pm,pg',pb,_⟩:=Pa hm;rw[θ]at ζ;simp only[ob]at ζ;have hpd:A≠d:=λe=>Ah ζ (x:=A) V c_;have Q:A∉q.op.slots:=λe=>Ah ζ (x:=A) V c_;have l:d∉p.op.slots:=λe=>Ah δ (x:=d) V (Bk e);have dng:d∉p.lf:=λe=>Ah δ (x:=d) V (B0 e);have o:∀s∈qs,s∉p.op.slots:=λs Z e=>Ah δ (x:=s) (by simp[Z]) (Bk e);have sng:∀s∈qs,s∉p.lf:=λs Z e=>Ah δ (x:=s) (by simp[Z]) (B0 e);obtain⟨e',C,h⟩:=h;have hR':=hR.congr C.symm;have j:=hj.congr C.symm;obtain⟨jq,⟨⟨e1,b,hw⟩,ep,J,w⟩,hR1⟩:=CR hR' hp (JR θ pm pg' h);have g1:∀n,e1.get n=if A=n then ep else J.on n (e'.get n):=λn=>by
   rw [b.1,w.jq,AA.gp,An.get]
  have R:∀x,x∈D->x∉p.op.slots->∀e,J.on x e=e:=λx hxD hxn e=>w.away hxn (λy hy=>j.no hy hxD) e;have hj1:JD D e1:=(w.jd pb j).congr b.symm;obtain⟨e,u,F,hK,ε⟩:=Qr ht (λ_=>hj1 d η) hw;have B:∀n∈q.op.slots,e'.get n=e1.get n:=by
   intro n κ;have hne:A≠n:=λe=>Q (e▸κ);have hb:=F.slbx n κ;rw[g1,az hne]at hb|-;refine(w.stay (λhd=>Ah c3 hd κ) (λcs hc=>?_)).symm;refine hb (match J.on n (.bx cs)with|.bx cs'=>cs'|_=>cs) ?_;rw[hc];cases J with
   |none=>rfl|slot s t=>
    have:=w.ok;simp only[An.on];split
    next e=>subst e;simp only[An.ok]at this;rw[hc]at this;cases this
    .rfl
   |cell s off t=>
    simp only[An.on];split<;>rfl
  have hdn:e'.je d=X:=by
   have:=F.dno;rw[b.2,w.jq,AA.ja,An.je,jP]at this;exact this.2
  refine ⟨e',C,ε e' B hdn _ ⟨_,.refl _,?_⟩⟩;have H:∀m,m≠d->m∉qs->AA.get ((d,e)::Ie u qs e') m=e'.get m:=λm z k=>by
   rw [AA.gp,az (λe=>z e.symm),Ix,az k]
  have nr:∀c,AA.je c ((d,e)::Ie u qs e')=AA.je c e':=λc=>by
   rw [AA.ja,DI F.l7,EV.kx,F.my];rfl
  have L:CO p.op J (Y A) e' ((d,e)::Ie u qs e'):=by
   refine ⟨λx G=>.inl (H x (λe=>l (e▸G)) (λe=>o x e G)),λx G r hr=>.inl (H r (λe=>j.no hr (e▸η)) (λe=>j.no hr (sD r e))),λx G _=>H x (λe=>l (e▸BW G)) (λe=>o x e (BW G)),?_,λκ d' hd' hno=>by rw[nr];exact hno⟩;have z:=w.slot;have k:=w.ok;have h4:=w.cell;cases J with
   |none=>trivial|slot x t=>
    simp only[An.ok]at k|-;rw[H x (λe=>l (e▸BW (z _ _ rfl))) (λe=>o x e (BW (z _ _ rfl)))];exact k
   |cell x off t=>
    obtain ⟨ds,h5,h6⟩:=k;refine⟨ds,?_,h6⟩;rw[H x (λe=>?_) (λe=>?_)]
    .exact h5
    .rcases h4 _ _ _ rfl with h7|⟨y,_,h8⟩
     .exact l (e▸h7)
     .exact j.no h8 (e▸η)
    .rcases h4 _ _ _ rfl with h7|⟨y,_,h8⟩
     .exact o x e h7
     .exact j.no h8 (sD x e)
  have hgp:∀g∈p.lf,AA.get ((d,e)::Ie u qs e') g=e'.get g:=λg M=>H g (λe=>dng (e▸M)) (λe=>sng g e M);refine w.again _ L hgp _ (C4 hK ?_);refine⟨λm=>?_,λc=>?_⟩
  .simp only[AA.gp,An.get,g1,Ix];by_cases z:d=m
   .subst z;rw[ae rfl,az hpd,R d η l,ae rfl]
   .rw[az z];by_cases I:A=m
    .have:m∉qs:=λhm=>Q (I▸F.sub m hm);rw[az this,ae I,ae I]
    .rw[az I];by_cases k:m∈qs
     .rw[ae k,az I,R m (sD m k) (o m k),az z,ae k]
     .rw[az k,az I,az z,az k]
  .simp only[AA.ja,An.je,b.2,w.jq,DI F.l7,EV.kx,F.my];cases(match ep.jZ with|some s=>c !=s|none=>X)<;>rfl
 .cases a
theorem bM(hR:GI F0 w0 N O)(hj:JD D O){op oq:Oper}{p q:PR}(hp:GN P N ops op p=X)(hq:GN P N ops oq q=X)(a:kF D q p=X)(h:CG (AO P) K (p::q::rs) O):CG (AO P) K (q::p::rs) O:=by
 unfold kF at a;split at a
 .rename_i A d ht;simp only[jP,nS,kY,nT]at a;obtain⟨⟨⟨⟨⟨hm,Q⟩,sD⟩,c1⟩,c2⟩,c3⟩:=a;obtain⟨H,η,qm,qg',qb,qold⟩:=Pa hm;rw[η]at c1;simp only[ob]at c1;have hqd:H≠d:=λe=>Ah c1 (x:=H) V c_;have θ:H∉p.op.slots:=λe=>Ah c1 (x:=H) V c_;have o:d∉q.op.slots:=λe=>Ah c2 (x:=d) V (Bk e);have dng:d∉q.lf:=λe=>Ah c2 (x:=d) V (B0 e);have w:∀s∈A,s∉q.op.slots:=λs hs e=>Ah c2 (x:=s) (by simp[hs]) (Bk e);have sng:∀s∈A,s∉q.lf:=λs hs e=>Ah c2 (x:=s) (by simp[hs]) (B0 e);obtain⟨e',I,h⟩:=h;have hR':=hR.congr I.symm;have ε:=hj.congr I.symm;obtain⟨jq,⟨⟨G,b,hw⟩,Z,u,C,J,ζ⟩,hR1⟩:=CR (K:=λjq=>(∃G,Hd G jq/\q.wp (AO P) G (CG (AO P) K rs))/\∃Z u,T7 (AO P) p.op u A d e' Z/\jq=(d,Z)::Ie u A e'/\∀env2,(∀n∈p.op.slots,env2.get n=e'.get n)->env2.je d=X->∀K2:AA->Prop,K2 ((d,Z)::Ie u A env2)->p.wp (AO P) env2 K2) hR' hp (by
   obtain ⟨e,u,k1,k2,k3⟩:=Qr ht (λ_=>ε d Q) h;exact k3 e' (λ_ _=>rfl) k1.dno _ ⟨k2,e,u,k1,rfl,k3⟩)
  subst J;have k:JD D G:=by
   intro x z;rw[b.2,AA.ja,DI C.l7,EV.kx,C.my];exact ε x z
  obtain ⟨X1,⟨hK,eq,δ,F⟩,_⟩:=CR (hR1.congr b.symm) hq (JR η qm qg' hw);have M:∀n,n≠d->n∉A->G.get n=e'.get n:=λn j l=>by
   rw [b.1,AA.gp,az (λe=>j e.symm),Ix,az l]
  have κ:∀x,x∈D->x∉q.op.slots->∀e,δ.on x e=e:=λx hxD hxn e=>F.away hxn (λy hy=>k.no hy hxD) e;have L:CO q.op δ (Y H) G e':=by
   refine ⟨λx z=>.inl (M x (λe=>o (e▸z)) (λe=>w x e z)).symm,λx z r hr=>.inl (M r (λe=>k.no hr (e▸Q)) (λe=>k.no hr (sD r e))).symm,λx z _=>(M x (λe=>o (e▸BW z)) (λe=>w x e (BW z))).symm,?_,λhn d' hd' R=>?_⟩
   .have j:=F.slot;have l:=F.ok;have h4:=F.cell;cases δ with
    |none=>trivial|slot x t=>
     simp only[An.ok]at l|-;rw[<-M x (λe=>o (e▸BW (j _ _ rfl))) (λe=>w x e (BW (j _ _ rfl)))];exact l
    |cell x off t=>
     obtain ⟨ds,h5,h6⟩:=l;refine⟨ds,?_,h6⟩;rw[<-M x (λe=>?_) (λe=>?_)]
     .exact h5
     .rcases h4 _ _ _ rfl with h7|⟨y,_,h8⟩
      .exact o (e▸h7)
      .exact k.no h8 (e▸Q)
     .rcases h4 _ _ _ rfl with h7|⟨y,_,h8⟩
      .exact w x e h7
      .exact k.no h8 (sD x e)
   .rw[b.2,AA.ja,DI C.l7,jP]at R;exact R.2
  have hgq:∀g∈q.lf,e'.get g=G.get g:=λg hg=>(M g (λe=>dng (e▸hg)) (λe=>sng g e hg)).symm;refine⟨e',I,F.again e' L hgq _ ⟨_,.refl _,ζ _ (λn hn=>?_) ?_ _ (C4 hK ?_)⟩⟩
  .have hne:H≠n:=λe=>θ (e▸hn);rw[AA.gp,az hne,An.get];have hb:=C.slbx n hn;have k1:=F.slot;have k2:=L.eff;cases δ with
   |none=>rfl|slot s t=>
    simp only[An.on];rw[az];intro e;subst e;exact Ah c3 (k1 _ _ rfl) hn
   |cell s off t=>
    simp only[An.on];rw[az];intro e;subst e;obtain⟨cs,k3,_⟩:=k2;exact hb cs k3
  .rw[AA.ja,An.je,C.dno,n!];refine Od (λs he=>?_);rcases F.jZ s he with j|⟨x,_,l⟩
   .exact λe=>Ah qb j (e▸Q)
   .exact λe=>k.no l (e▸Q)
  .rw[F.jq];have hdd:∀e,δ.on d e=e:=κ d Q o;refine⟨λm=>?_,λc=>?_⟩
   .simp only[AA.gp,An.get,Ix,b.1];by_cases j:H=m
    .have B:m∉A:=λhm=>θ (j▸C.sub m hm);have h4:¬d=m:=λe=>hqd (j.trans e.symm);rw[ae j,az h4,az B,ae j]
    .rw[az j];by_cases l:d=m
     .subst l;rw[ae rfl,ae rfl,hdd]
     .rw[az l,az l];by_cases B:m∈A
      .rw[ae B,ae B,κ m (sD m B) (w m B)]
      .rw[az B,az B,az j]
   .simp only[AA.ja,An.je,b.2,DI C.l7,EV.kx,C.my];cases(match eq.jZ with|some s=>c !=s|none=>X)<;>rfl
 .cases a
theorem bW{S:FuncId->Fq->AZ->Prop}(R:JD D O){p q:PR}(g:lr D p q=X)(h:CG S K (p::q::rs) O):CG S K (q::p::rs) O:=by
 unfold lr at g;split at g
 .rename_i J C qs L ε κ;simp only[jP,n9,n_,nS,kY]at g;obtain⟨⟨bp,δ⟩,g⟩:=g;have l:∀x,x=C\/x∈p.op.slots->x≠L/\x∉q.op.slots:=λx l=>by
   grind [Ah,List.mem_cons_self,List.mem_cons_of_mem]
  obtain ⟨e',z,h⟩:=h;obtain⟨ep,u,o,⟨θ,j,Z⟩,F⟩:=Qr ε (λh=>R.congr z.symm _ (bp.resolve_left λH=>by rw[H]at h;cases h)) h;obtain⟨eq,v,k,hK,A⟩:=Qr κ (λh=>by
   have w:=R.congr z.symm _ (δ.resolve_left λH=>by rw[H]at h;cases h);rw[j.2,AA.ja,DI o.l7,EV.kx,o.my];exact w) Z
  have η:∀n,n≠C->n∉J->θ.get n=e'.get n:=λn w G=>by
   rw [j.1,AA.gp,az (λe=>w e.symm),Ix,az G]
  have M:∀n∈q.op.slots,e'.get n=θ.get n:=λn B=>(η n (λe=>(l n (.inl e)).2 B) (λe=>(l n (.inr (o.sub n e))).2 B)).symm;have Q:e'.je L=X:=by
   have:=k.dno;rw[j.2,AA.ja,DI o.l7,jP]at this;exact this.2
  refine ⟨e',z,A e' M Q _ ⟨_,.refl _,F _ (λn B=>?_) ?_ _ (C4 hK ?_)⟩⟩
  .rw[AA.gp,az (λe=>(l n (.inr B)).1 e.symm),Ix,az (λe=>(l n (.inr B)).2 (k.sub n e))]
  .rw[AA.ja,DI k.l7,o.dno,EV.kx,k.my];rfl
  .refine⟨λm=>?_,λc=>?_⟩
   .simp only[AA.gp,Ix,j.1];by_cases w:L=m
    .have G:¬C=m:=λe=>(l C (.inl rfl)).1 (e.trans w.symm);have ζ:m∉J:=λI=>(l m (.inr (o.sub m I))).1 w.symm
     grind
    .rw[az w];by_cases G:C=m
     .have ζ:m∉qs:=λI=>(l m (.inl G.symm)).2 (k.sub m I)
      grind
     have h4:m∈J->m∉qs:=λa b=>(l m (.inr (o.sub m a))).2 (k.sub m b)
     grind
   .simp only[AA.ja,DI o.l7,DI k.l7,j.2,EV.kx,o.my,k.my]
 .cases g
end
def AB.ptr:AB->Option Nat
 |.bad s _=>Y s|.kK (.s m) _=>Y m|_=>W
def EV.box2(e e2:EV):Prop:=e2=e\/∃cs cs',e=.bx cs/\e2=.bx cs'
variable{m:Nat}{dst:Option Nat}{O:AA}
theorem RW{S:FuncId->Fq->AZ->Prop}{op:AB}{K:EV->AA->Prop}(ho:op.ptr=Y m)(h:op.wp S O dst K):
  ∃e,K e O/\(∀s,e.jZ=Y s->(s∈op.lG\/(O.get m).jZ=Y s))/\(∀cs,e≠.bx cs)/\∀env2,(O.get m).box2 (env2.get m)->(∀s,(O.get m).jZ=Y s->(O.get s).box2 (env2.get s))->∀j:EV->AA->Prop,j e env2->op.wp S env2 dst j:=by
 unfold AB.ptr at ho;split at ho
 .rename_i s k;simp only[jR]at ho;subst ho;simp only[AB.wp]at h;split at h
  .rename_i cs b;refine⟨_,h,λu c=>.inl (by simpa[AB.lG,EV.jZ]using c.symm),V,λenv2 a _ j g=>?_⟩;have:∃cs',env2.get s=.bx cs':=by
    rcases a with a|⟨_,cs',_,a⟩
    .grind
    .exact⟨cs',a⟩
   obtain ⟨cs',l⟩:=this;simp only[AB.wp,l];exact g
  .rename_i row b;refine⟨_,h,by simp[EV.jZ],V,λenv2 a _ j g=>?_⟩;rcases a with a|⟨cs,_,a,_⟩
   .simp only[AB.wp,a,b];exact g
   .rw[b]at a;cases a
  .exact h.elim
 .rename_i m' k;simp only[jR]at ho;subst ho;simp only[AB.wp,AC.ev]at h;split at h
  .rename_i row b;refine⟨_,h,by simp[EV.jZ],V,λenv2 a _ j g=>?_⟩;rcases a with a|⟨cs,_,a,_⟩
   .simp only[AB.wp,AC.ev,a,b];exact g
   .rw[b]at a;cases a
  .rename_i s off b;split at h
   .rename_i cs z;refine⟨_,h,λu c=>.inr (by rw[b];exact c),V,λenv2 a l j g=>?_⟩;have w:env2.get m'=.bp s off:=by
     rcases a with a|⟨_,_,a,_⟩
     .rw[a,b]
     grind
    have o:∃cs',env2.get s=.bx cs':=by
     rcases l s (by rw[b];rfl)with l|⟨_,cs',_,l⟩
     .grind
     .exact⟨cs',l⟩
    obtain ⟨cs',o⟩:=o;simp only[AB.wp,AC.ev,w,o];exact g
   .exact h.elim
  .exact h.elim
 .cases ho
def Qc(m q s:Nat)(cs:List AI)(off:Nat)(O:AA):AA:=(s,.bx (cs.set off ⟨T,.undef⟩))::(m,.undef)::(q,.undef)::O
theorem MW{S:FuncId->Fq->AZ->Prop}{m q d:Nat}{K:EV->AA->Prop}(h:(AB.k7 m q).wp S O (Y d) K):
  ∃e s off cs,O.get m=.nh s off .hd/\O.get s=.bx cs/\(∀cs,O.get q≠.bx cs)/\O.je d=X/\e.jZ=W/\K e (Qc m q s cs off O)/\
   ∀env2,env2.get m=O.get m->env2.get q=O.get q->env2.get s=O.get s->env2.je d=X->∀c:EV->AA->Prop,c e (Qc m q s cs off env2)->(AB.k7 m q).wp S env2 (Y d) c:=by
 simp only[AB.wp]at h;split at h
 .rename_i H s off n I b j k;simp only[jR]at b;subst b;split at h
  .rename_i cs l;cases a:O.nat s off with
   |none=>rw[a]at h;exact h.elim|some es=>
    rw [a]at h;simp only[AS]at h;obtain⟨B,⟨C,F⟩,G⟩:=h;refine⟨_,s,off,cs,j,l,by rw[k];simp,C,rfl,G,λenv2 o u g w c z=>?_⟩;have A:env2.nat s off=Y es:=by rw[<-a];exact AA.kM g
    simp only[AB.wp,o,u,g,j,k,l,A,AS];exact⟨B,⟨w,F⟩,z⟩
  .exact h.elim
 .exact h.elim
def kG(D:Ne)(p q:PR):Bool:=
 match p.op.ptr,p.guard,p.dst,q.op,q.guard,q.dst with
 |some x,W,Y dp,.k7 m qq,W,Y d=>D.contains d&&D.contains dp&&D.contains m&&D.contains qq&&Cb [dp] [d,m,qq]&&Cb [x] [d,m,qq]&&Cb p.op.lG D&&dp !=x&&PR.km D p|_,_,_,_,_,_=>T
variable{off:Nat}
theorem JV{m q s:Nat}{cs:List AI}(n:Nat):AA.get (Qc m q s cs off O) n=if s=n then .bx (cs.set off ⟨T,.undef⟩)else if m=n then .undef else if q=n then .undef else O.get n:=rfl
theorem I6{m q s:Nat}{cs:List AI}(c:Nat):AA.je c (Qc m q s cs off O)=AA.je c O:=by
 simp [Qc,AA.ja,EV.kx,EV.jZ]
section
variable{S:FuncId->Fq->AZ->Prop}{K:AA->Prop}{D:Ne}
variable{O:AA}{rs:List PR}
theorem bQ(hj:JD D O){p q:PR}(a:kG D p q=X)(h:CG S K (p::q::rs) O):CG S K (q::p::rs) O:=by
 unfold kG at a;split at a
 .rename_i x g m C d F R θ ε κ η;simp only[jP,nS,kY,bne_iff_ne,ne_eq]at a;obtain⟨⟨⟨⟨⟨⟨⟨⟨Z,dpD⟩,mD⟩,qD⟩,J⟩,L⟩,pb⟩,hdx⟩,_⟩:=a;have n1:g≠d:=λe=>Ah J (x:=g) V c_;have ζ:g≠m:=λe=>Ah J (x:=g) V c_;have n3:g≠C:=λe=>Ah J (x:=g) V c_;have n4:x≠d:=λe=>Ah L (x:=x) V c_;have n5:x≠m:=λe=>Ah L (x:=x) V c_;have n6:x≠C:=λe=>Ah L (x:=x) V c_;obtain⟨e',A,h⟩:=h;have l:=hj.congr A.symm;simp only[PR.wp,R,θ,AA.put]at h;obtain⟨e,⟨e1,b,hw⟩,hre,M,B⟩:=RW F h;simp only[PR.wp,κ,η,ε,AA.put]at hw;obtain⟨eq,s,off,cs,k1,Q,k3,k4,k5,hK,k⟩:=MW hw;have o:∀n,n≠g->e1.get n=e'.get n:=λn hn=>by rw[b.1,AA.gp,az (λe=>hn e.symm)]
  have u:s≠g:=by
   intro hs;subst hs;rw[b.1,AA.gp,ae rfl]at Q;exact M cs Q
  have G:e'.get m=.nh s off .hd:=by rw[<-o m (λe=>ζ e.symm)];exact k1
  have w:e'.get s=.bx cs:=by rw[<-o s u];exact Q
  have H:s∉D:=l.no (x:=m) (by rw[G];rfl);have δ:s≠d:=λe=>H (e▸Z);have I:e'.je d=X:=by rw[b.2,AA.ja,jP]at k4;exact k4.2
  refine ⟨e',A,?_⟩;simp only[PR.wp,κ,η,ε,AA.put];refine k e' (o m (λe=>ζ e.symm)).symm (o C (λe=>n3 e.symm)).symm (o s u).symm I _ ⟨_,.refl _,?_⟩;simp only[PR.wp,R,θ,AA.put];refine B _ ?_ (λr hr=>?_) _ (C4 hK ?_)
  .rw[AA.gp,az (λe=>n4 e.symm),JV];by_cases z:s=x
   .subst z;rw[ae rfl];exact .inr ⟨cs,_,w,rfl⟩
   .rw[az z,az (λe=>n5 e.symm),az (λe=>n6 e.symm)];exact .inl rfl
  .have j:r∉D:=l.no hr;rw[AA.gp,az (λ(e:d=r)=>j (e▸Z)),JV];by_cases z:s=r
   .subst z;rw[ae rfl];exact .inr ⟨cs,_,w,rfl⟩
   .rw[az z,az (λ(e:m=r)=>j (e▸mD)),az (λ(e:C=r)=>j (e▸qD))];exact .inl rfl
  .refine⟨λn=>?_,λc=>?_⟩
   .simp only[AA.gp,JV,b.1]
    grind
   .simp only[AA.ja,I6,b.2,EV.kx,k5]
    grind
 .cases a
theorem bP(Z:JD D O){p q:PR}(a:kG D q p=X)(h:CG S K (p::q::rs) O):CG S K (q::p::rs) O:=by
 unfold kG at a;split at a
 .rename_i x g m B d C L M Q R θ;simp only[jP,nS,kY,bne_iff_ne,ne_eq]at a;obtain⟨⟨⟨⟨⟨⟨⟨⟨κ,G⟩,mD⟩,qD⟩,H⟩,I⟩,qb⟩,hdx⟩,_⟩:=a;have n1:g≠d:=λe=>Ah H (x:=g) V c_;have n2:g≠m:=λe=>Ah H (x:=g) V c_;have n3:g≠B:=λe=>Ah H (x:=g) V c_;have n4:x≠d:=λe=>Ah I (x:=x) V c_;have n5:x≠m:=λe=>Ah I (x:=x) V c_;have n6:x≠B:=λe=>Ah I (x:=x) V c_;obtain⟨e',u,h⟩:=h;have k:=Z.congr u.symm;simp only[PR.wp,R,θ,Q,AA.put]at h;obtain⟨ep,s,off,cs,k1,k2,k3,k4,η,⟨ζ,b,δ⟩,w⟩:=MW h;simp only[PR.wp,L,M,AA.put]at δ;obtain⟨e,hK,J,hnb,j⟩:=RW C δ;have l:s∉D:=k.no (x:=m) (by rw[k1];rfl);have hsd:s≠d:=λe=>l (e▸κ);have g1:∀n,n≠d->n≠m->n≠B->(ζ.get n).box2 (e'.get n):=by
   intro n z h2 h3;rw[b.1,AA.gp,az (λe=>z e.symm),JV];by_cases ε:s=n
   .subst ε;rw[ae rfl];exact .inr ⟨_,cs,rfl,k2⟩
   .rw[az ε,az (λe=>h2 e.symm),az (λe=>h3 e.symm)];exact .inl rfl
  have o:JD D ζ:=by
   intro y hy;rw[b.2,AA.ja,I6,EV.kx,η];exact k y hy
  refine ⟨e',u,?_⟩;simp only[PR.wp,L,M,AA.put];refine j e' (g1 x n4 n5 n6) (λr A=>?_) _ ⟨_,.refl _,?_⟩
  .have hrD:r∉D:=o.no A
   grind
  .simp only[PR.wp,R,θ,Q,AA.put];have F:s≠g:=λe=>l (e▸G);refine w _ (by rw[AA.gp,az n2]) (by rw[AA.gp,az n3]) (by rw[AA.gp,az (λe=>F e.symm)]) ?_ _ (C4 hK ?_)
   .rw[AA.ja,k4,n!];refine Od (λr A=>?_);rcases J r A with z|z
    .grind[Ah]
    .exact λ(e:r=d)=>o.no z (e▸κ)
   .refine⟨λn=>?_,λc=>?_⟩
    .simp only[AA.gp,JV,b.1]
     grind
    .simp only[AA.ja,I6,b.2,EV.kx,η]
     grind
 .cases a
end
def PG(s:Nat)(cs:List AI)(off:Nat)(O:AA):AA:=(s,.bx (cs.set off ⟨T,.undef⟩))::O
variable{s off:Nat}{O:AA}
theorem JO{cs:List AI}(n:Nat):AA.get (PG s cs off O) n=if s=n then .bx (cs.set off ⟨T,.undef⟩)else O.get n:=rfl
theorem LO{cs:List AI}(c:Nat):AA.je c (PG s cs off O)=AA.je c O:=by
 simp [PG,AA.ja,EV.kx,EV.jZ]
def Kv(cs:List AI)(off:Nat)(e:EV):Prop:=(∃n es,cs[off]?=Y ⟨X,.xl n es⟩/\e=.xo n es)\/∃es,cs[off]?=Y ⟨X,.xn es⟩/\e=.xn es
variable{e:EV}
theorem Kv.jZ{cs:List AI}(h:Kv cs off e):e.jZ=W:=by
 rcases h with⟨_,_,_,rfl⟩|⟨_,_,rfl⟩<;>rfl
theorem Kv.cell{cs:List AI}(h:Kv cs off e):∃t,cs[off]?=Y ⟨X,t⟩/\t.kR=X:=by
 rcases h with⟨_,_,h,_⟩|⟨_,h,_⟩<;>exact⟨_,h,rfl⟩
variable{x:AC}{d:Nat}
theorem ON{S:FuncId->Fq->AZ->Prop}{K:EV->AA->Prop}(h:(AB.m8 x).wp S O (Y d) K):
  ∃e s off cs,x.place O=Y (s,off)/\O.get s=.bx cs/\Kv cs off e/\O.je d=X/\K e (PG s cs off O)/\
   ∀env2 a,x.place env2=Y (s,off)->env2.get s=.bx a->a[off]?=cs[off]?->env2.je d=X->∀c:EV->AA->Prop,c e (PG s a off env2)->(AB.m8 x).wp S env2 (Y d) c:=by
 simp only[AB.wp]at h;split at h
 .rename_i z s off hd u;simp only[jR]at hd;subst hd;split at h
  .rename_i cs w;split at h
   next n es b=>refine⟨_,s,off,cs,u,w,.inl ⟨n,es,b,rfl⟩,h.1,h.2,λenv2 a g j k l c o=>?_⟩;simp only[AB.wp,g,j,k,b];exact⟨l,o⟩
   next es b=>refine⟨_,s,off,cs,u,w,.inr ⟨es,b,rfl⟩,h.1,h.2,λenv2 a g j k l c o=>?_⟩;simp only[AB.wp,g,j,k,b];exact⟨l,o⟩
   .exact h.elim
  .exact h.elim
 .exact h.elim
def Z6:AB->Bool
 |.bad _ _=>X|.kK _ _=>X|.ld _=>X|.mv _=>X|.l4 _ _ _=>X|.mE _ _=>X|.ma _ _=>X|.nm _=>X|.nJ _ _ _=>X|.nu _=>X|.nK _=>X|.app _ (.s _) _=>X|_=>T
structure Tk(op:AB)(E E2:AA):Prop where
 no:∀m∈op.slots,(∀cs,E.get m≠.bx cs)->E2.get m=E.get m
 jZ:∀m∈op.slots,∀r,(E.get m).jZ=Y r->(∀cs,E.get r≠.bx cs)->E2.get r=E.get r
 bx:∀r c0,(r∈op.slots\/∃m∈op.slots,(E.get m).jZ=Y r)->E.get r=.bx c0->∃c1,E2.get r=.bx c1/\(∀k t,t.kR=T->Cd ((c0.drop k).map (·.t))=Y t->Cd ((c1.drop k).map (·.t))=Y t)/\∀(k:Nat)t,t.kR=T->c0[k]?=Y ⟨X,t⟩->c1[k]?=Y ⟨X,t⟩
section
variable{op:AB}{E E2:AA}
variable{x:AC}{e:EV}
theorem Tk.ev(h:Tk op E E2)(a:∀s∈x.sl,s∈op.slots)(he:x.ev E=e)(b:∀cs,e≠.bx cs):x.ev E2=e:=by
 subst he;cases x with
 |c t=>rfl|s n=>exact h.no n (a n a!) b
variable{t:TV}
theorem Tk.val(h:Tk op E E2)(b:∀s∈x.sl,s∈op.slots)(a:x.val E=Y t):x.val E2=Y t:=by
 unfold AC.val at a|-;rw[h.ev b rfl λcs c=>by rw[c]at a;cases a];exact a
theorem Tk.vals(h:Tk op E E2):∀{xs:List AC}{b:Fq},(∀s∈Bi xs,s∈op.slots)->Go.Sf.vals E xs=Y b->Go.Sf.vals E2 xs=Y b
 |[],_,_,a=>a|x::xs,b,g,a=>by
  simp only[Bi,nR]at g;simp only[Go.Sf.vals]at a|-;split at a
  next t j k l=>rw[h.val (λs c=>g s (.inl c)) k,h.vals (λs c=>g s (.inr c)) l];exact a
  .cases a
theorem Tk.parts(h:Tk op E E2):∀{xs:List (Nat×Nat×AC)}{b:List (Nat×Nat×TV)},(∀s∈KH xs,s∈op.slots)->CS E xs=Y b->CS E2 xs=Y b
 |[],_,_,a=>a|(i,n,x)::xs,b,g,a=>by
  simp only[KH,nR]at g;simp only[CS]at a|-;split at a
  next t j k l=>rw[h.val (λs c=>g s (.inl c)) k,h.parts (λs c=>g s (.inr c)) l];exact a
  .cases a
theorem Tk.place(h:Tk op E E2)(g:∀s∈x.sl,s∈op.slots){p:Nat×Nat}(a:x.place E=Y p):x.place E2=Y p:=by
 cases x with
 |c t=>cases a
 |s n=>
  have b:=g n a!;simp only[AC.place]at a|-;split at a
  next q off he=>rw[h.no n b (by rw[he];simp),he];exact a
  next cs he=>obtain⟨k,j,_⟩:=h.bx n cs (.inl b) he;rw[j];exact a
  .cases a
end
variable{dst:Option Nat}
theorem WZ{S:FuncId->Fq->AZ->Prop}{op:AB}(ho:Z6 op=X){E:AA}{K:EV->AA->Prop}(h:op.wp S E dst K):
  ∃(e:EV)(f:An),K e (f.app E)/\f.ok E/\(∀s t,f=.slot s t->s∈op.slots)/\(∀s o t,f=.cell s o t->s∈op.slots\/∃y∈op.slots,(E.get y).jZ=Y s)/\(∀cs,e≠.bx cs)/\
   ∀E2,Tk op E E2->∀u:EV->AA->Prop,u e (f.app E2)->op.wp S E2 dst u:=by
 have a:∀{e:EV},K e E->(∀cs,e≠.bx cs)->(∀E2,Tk op E E2->∀u:EV->AA->Prop,u e E2->op.wp S E2 dst u)->∃(e:EV)(f:An),K e (f.app E)/\f.ok E/\(∀s t,f=.slot s t->s∈op.slots)/\(∀s o t,f=.cell s o t->s∈op.slots\/∃y∈op.slots,(E.get y).jZ=Y s)/\(∀cs,e≠.bx cs)/\
   ∀E2,Tk op E E2->∀u:EV->AA->Prop,u e (f.app E2)->op.wp S E2 dst u:=λ{e}B C G=>⟨e,.none,B,trivial,V,V,C,G⟩
 cases op with
 |mv x=>
  simp only[AB.wp]at h;split at h
  next t l=>exact a h V λE2 b u g=>c?
  next t l=>exact a h V λE2 b u g=>c?
  next t l=>exact a h V λE2 b u g=>c?
  .exact h.elim
 |bad s k=>
  simp only[AB.wp]at h;split at h
  next cs F=>refine a h V λE2 b u g=>?_;obtain⟨θ,B,_⟩:=b.bx s cs (.inl b!) F;simp only[AB.wp,B];exact g
  next row F=>exact a h V λE2 b u g=>by simp only[AB.wp,b.no s b! (by rw[F];simp),F];exact g
  .exact h.elim
 |kK x k=>
  simp only[AB.wp]at h;split at h
  next row l=>exact a h V λE2 b u g=>c?
  .rename_i s off l;split at h
   .rename_i cs F;refine a h V λE2 b u g=>?_;have A:∃y∈x.sl,(E.get y).jZ=Y s:=by
     cases x with
     |c t=>simp[AC.ev]at l|s n=>simp only[AC.ev]at l;exact⟨n,a!,by rw[l];rfl⟩
    obtain ⟨θ,B,_⟩:=b.bx s cs (.inr A) F;simp only[AB.wp,b.ev (λs h=>h) l V,B];exact g
   .exact h.elim
  .exact h.elim
 |l4 x i n=>
  simp only[AB.wp]at h;split at h
  next m es k j l hi=>obtain⟨B,C,e,G,R⟩:=h;exact a R V λE2 b u g=>by simp only[AB.wp,b.val (λs h=>Bk h) l,b.val (λs h=>B0 h) hi];exact⟨B,C,e,G,g⟩
  .exact h.elim
 |mE n κ=>
  simp only[AB.wp]at h;cases hv:Go.Sf.vals E κ with
  |none=>rw[hv]at h;exact h.elim|some η=>
   rw [hv]at h;exact a h.2 V λE2 b u g=>by simp only[AB.wp,b.vals (λs h=>h) hv,AS];exact⟨h.1,g⟩
 |ma z κ=>
  simp only[AB.wp]at h;cases hv:CS E κ with
  |none=>rw[hv]at h;exact h.elim|some η=>
   rw [hv]at h;simp only[AS]at h;cases hf:CX z η with
   |none=>rw[hf]at h;exact h.elim|some cs=>
    rw [hf]at h;exact a h V λE2 b u g=>by simp only[AB.wp,b.parts (λs h=>h) hv,AS,hf];exact g
 |nm s=>
  simp only[AB.wp]at h;split at h
  next m ζ F=>exact a h V λE2 b u g=>by simp only[AB.wp,b.no s b! (by rw[F];simp),F];exact g
  .exact h.elim
 |nJ x i n=>
  simp only[AB.wp]at h;split at h
  .rename_i q k j l hi;split at h
   .rename_i m es M;obtain⟨B,C,G,R⟩:=h;have A:∃y∈x.sl,(E.get y).jZ=Y q:=by
     cases x with
     |c t=>simp[AC.ev]at l|s n=>simp only[AC.ev]at l;exact⟨n,a!,by rw[l];rfl⟩
    obtain ⟨y,J,L⟩:=A;refine a R V λE2 b u g=>?_;simp only[AB.wp,b.ev (λs h=>Bk h) l V,b.val (λs h=>B0 h) hi,b.jZ y (Bk J) q L (by rw[M];simp),M];exact⟨B,C,G,g⟩
   .exact h.elim
  .exact h.elim
 |nu x=>
  simp only[AB.wp]at h;split at h
  .rename_i q c l;split at h
   .rename_i m es M;cases w:(es.flatMap TV.cells)[c]? with
    |none=>rw[w]at h;exact h.elim|some t=>
     rw [w]at h;have A:∃y∈x.sl,(E.get y).jZ=Y q:=by
      cases x with
      |c t=>simp[AC.ev]at l|s n=>simp only[AC.ev]at l;exact⟨n,a!,by rw[l];rfl⟩
     obtain ⟨y,J,L⟩:=A;refine a h V λE2 b u g=>?_;simp only[AB.wp,b.ev (λs h=>h) l V,b.jZ y J q L (by rw[M];simp),M,w,AS];exact g
   .exact h.elim
  .exact h.elim
 |ld x=>
  simp only[AB.wp]at h;cases w:Ao E (x.ev E)with
  |none=>rw[w]at h;exact h.elim|some cs=>
   rw [w]at h;simp only[AS]at h;cases b:Cd cs with
   |none=>rw[b]at h;exact h.elim|some t=>
    rw [b]at h;obtain⟨ε,h⟩:=h;refine a h V λE2 hT u g=>?_;have Z:∃cs',Ao E2 (x.ev E2)=Y cs'/\Cd cs'=Y t:=by
     cases x with
     |c Q=>exact⟨cs,by rw[<-w];cases Q<;>rfl,b⟩
     |s y=>
      have I:y∈(AB.ld (.s y)).slots:=j_
      simp only[AC.ev]at w|-;cases A:E.get y with
      |bp s off=>
       rw [hT.no y I (by rw[A];simp),A];rw[A]at w;simp only[Ao]at w|-;split at w
       next ds F=>cases w;obtain⟨θ,B,C,_⟩:=hT.bx s ds (.inr ⟨y,I,h?⟩) F;rw[B];exact⟨_,rfl,C _ _ ε b⟩
       .cases w
      |tv Q=>
       rw [hT.no y I (by rw[A];simp),A];rw[A]at w;exact⟨cs,by rw[<-w];cases Q<;>rfl,b⟩
      |bx ds=>
       rw [A]at w;simp only[Ao,jR]at w;subst w;obtain⟨θ,B,C,_⟩:=hT.bx y ds (.inl I) A;rw[B];have:=C 0 t ε (by simpa using b);exact⟨_,rfl,by simpa using this⟩
      |_=>rw[A]at w;cases w
    obtain ⟨cs',B,C⟩:=Z;simp only[AB.wp,B,AS,C];exact⟨ε,g⟩
 |nK x=>
  simp only[AB.wp]at h;split at h
  .rename_i s off H;split at h
   .rename_i cs F;split at h
    .rename_i n es w;have A:s∈x.sl\/∃y∈x.sl,(E.get y).jZ=Y s:=by
      cases x with
      |c t=>cases H
      |s m=>
       simp only[AC.place]at H;split at H
       next q o he=>simp only[jR,Prod.mk.injEq]at H;exact .inr ⟨m,a!,by rw[he,<-H.1];rfl⟩
       .simp only[jR,Prod.mk.injEq]at H;exact .inl (by simp[AC.sl,H.1])
       .cases H
     refine ⟨.ow (.list n es),.cell s off (.list n es),?_,⟨cs,F,w⟩,V,?_,V,λE2 hT u g=>?_⟩
     .simp only[An.app,F];exact h
     .intro δ o' Q he;simp only[An.cell.injEq]at he;rw[<-he.1];exact A
     .obtain⟨θ,B,_,C⟩:=hT.bx s cs A F;have G:=C off _ rfl w;simp only[AB.wp,hT.place (λs h=>h) H,B,G];simp only[An.app,B]at g;exact g
    .exact h.elim
   .exact h.elim
  .exact h.elim
 |app n x y=>
  cases x with
  |c t=>cases ho
  |s q=>
   simp only[AB.wp]at h;split at h
   .rename_i m es m' ζ l A;obtain⟨B,C,G,R⟩:=h;subst B;simp only[AC.ev]at l;refine⟨_,.slot q (.list m es),R,l,?_,V,V,λE2 hT u g=>?_⟩
    .intro δ Q he;simp only[An.slot.injEq]at he;rw[<-he.1];simp[AB.slots,AC.sl]
    .have e1:E2.get q=.ow (.list m es):=by rw[hT.no q j_ (by rw[l];simp),l]
     simp only[AB.wp,AC.ev,e1,hT.val (λs h=>B0 h) A];exact⟨trivial,C,G,g⟩
   .exact h.elim
 |_=>cases ho
variable{s off d:Nat}
theorem eV{op:AB}{E E2:AA}{cs:List AI}{A:EV}(w:E.get s=.bx cs)(B:Kv cs off A)(hd:d∉op.slots)(C:E.je d=X)(h:∀m,m≠d->E2.get m=AA.get (PG s cs off E) m):Tk op E E2:=by
 have z:∀m r,(E.get m).jZ=Y r->r≠d:=λm r b e=>AA.jX d E C m (e▸b);have g:∀m,m≠d->(∀cs,E.get m≠.bx cs)->E2.get m=E.get m:=λm l c=>by
  rw [h m l,JO,az (λe:s=m=>c cs (e▸w))]
 refine ⟨λm F c=>g m (λe=>hd (e▸F)) c,λm _ r b c=>g r (z m r b) c,λr G b o=>?_⟩;have u:r≠d:=by
  rcases b with b|⟨m,_,b⟩
  .exact λe=>hd (e▸b)
  .exact z m r b
 rw [h r u,JO];by_cases e:s=r
 .subst e;rw[w]at o;cases o;obtain⟨H,l,c⟩:=B.cell;rw[ae rfl];refine⟨_,rfl,λk t j a=>?_,λk t j a=>?_⟩
  .rw[Th]at a|-;by_cases e:off=k
   .subst e;rw[l]at a;simp at a;rw[<-a,c]at j;cases j
   .rw[nU e];exact a
  .by_cases e:off=k
   .subst e;rw[l]at a;simp at a;rw[<-a,c]at j;cases j
   .rw[nU e];exact a
 .rw[az e];exact⟨G,o,λ_ _ _ h=>h,λ_ _ _ h=>h⟩
theorem T1{E E2:AA}:∀{xs:List AC}{g:Fq},(∀k∈Bi xs,(∀cs,E.get k≠.bx cs)->E2.get k=E.get k)->Go.Sf.vals E xs=Y g->Go.Sf.vals E2 xs=Y g
 |[],_,_,a=>a|x::xs,g,h,a=>by
  simp only[Bi,nR]at h;simp only[Go.Sf.vals]at a|-;split at a
  .rename_i t o b w;have z:x.val E2=Y t:=by
    cases x with
    |c u=>exact b|s k=>
     simp only[AC.val,AC.ev]at b|-;rw[h k (.inl a!) λcs j=>by rw[j]at b;cases b];exact b
   rw [z,T1 (λs l=>h s (.inr l)) w];exact a
  .cases a
def PO(D:Ne)(p q:PR):Bool:=
 match q.op,q.guard,q.dst,p.guard,p.dst with
 |.m8 (.s m),W,Y d,W,Y dp=>Z6 p.op&&PR.km D p&&dp !=d&&dp !=m&&d !=m&&!p.op.slots.contains d|_,_,_,_,_=>T
def lR(D:Ne)(p q:PR):Bool:=
 match p.op,p.guard,p.dst,q.op,q.guard,q.dst with
 |.m8 (.s m),W,Y d,.mE _ ps,W,Y dq=>D.contains dq&&dq !=d&&dq !=m&&!(Bi ps).contains d|_,_,_,_,_,_=>T
section
variable{S:FuncId->Fq->AZ->Prop}{K:AA->Prop}{D:Ne}
variable{O:AA}{rs:List PR}
theorem bJ{p q:PR}(j:PO D p q=X)(h:CG S K (p::q::rs) O):CG S K (q::p::rs) O:=by
 unfold PO at j;split at j
 .rename_i m d κ qo qg qd pg pd;simp only[jP,bne_iff_ne,ne_eq,n_,nS,decide_eq_false_iff_not]at j;obtain⟨⟨⟨⟨⟨ho,_⟩,n1⟩,n2⟩,n3⟩,Z⟩:=j;obtain⟨e',heq,h⟩:=h;simp only[PR.wp,pg,pd,AA.put]at h;obtain⟨e,f,⟨e1,w,hw⟩,fok,fsl,G,hnb,M⟩:=WZ ho h;simp only[PR.wp,qg,qd,qo,AA.put]at hw;obtain⟨eq,s,off,l,a,b,z,Q,hK,H⟩:=ON hw;have ε:∀n,e1.get n=if κ=n then e else f.on n (e'.get n):=λn=>by rw[w.1,AA.gp,An.get]
  have I:κ≠s:=λh=>hnb l (by rw[<-b,ε,ae h]);have C:e'.je d=X:=by
   rw [w.2,AA.ja,An.je,jP]at Q;exact Q.2
  have g:(AC.s m).place e'=Y (s,off):=by
   simp only[AC.place]at a|-;rw[ε,az n2]at a;cases f with
   |none=>exact a|slot B t=>
    simp only[An.on]at a;by_cases k:B=m
    .rw[ae k]at a;cases a
    .rw[az k]at a;exact a
   |cell B o t=>
    simp only[An.on]at a;by_cases k:B=m
    .rw[ae k]at a;cases hm:e'.get m<;>rw[hm]at a<;>exact a
    .rw[az k]at a;exact a
  have hsd2:s≠d:=by
   simp only[AC.place]at g;split at g
   next q o he=>simp only[jR,Prod.mk.injEq]at g;exact λhh=>AA.jX d e' C m (by rw[he,<-hh,<-g.1];rfl)
   .simp only[jR,Prod.mk.injEq]at g;exact λhh=>n3 (by rw[<-hh,<-g.1])
   .cases g
  rw [ε,az I]at b;obtain⟨t0,R,hx0⟩:=z.cell;have η:∃cs,e'.get s=.bx cs/\cs[off]?=l[off]?/\f.on s (.bx (cs.set off ⟨T,.undef⟩))=.bx (l.set off ⟨T,.undef⟩):=by
   cases f with
   |none=>exact⟨l,b,rfl,rfl⟩|slot B t=>
    simp only[An.on]at b|-;by_cases k:B=s
    .rw[ae k]at b;cases b
    .rw[az k]at b;exact⟨l,b,rfl,by rw[az k]⟩
   |cell B o t=>
    simp only[An.on]at b|-;by_cases k:B=s
    .subst k;obtain⟨ds,A,L⟩:=fok;rw[ae rfl,A]at b;simp only[EV.bx.injEq]at b;subst b;have ζ:=(nV.1 L).1;have J:o≠off:=by
      intro hh;subst hh;rw[List.getElem?_set_self ζ]at R;cases R
     exact ⟨ds,A,by rw[nU J],by rw[ae rfl];simp only[List.set_comm _ _ J]⟩
    .rw[az k]at b;exact⟨l,b,rfl,by rw[az k]⟩
  obtain ⟨cs,hs,θ,hon⟩:=η;have F:Kv cs off eq:=by unfold Kv at z|-;rw[θ];exact z
  have δ:∀u,f.on d u=u:=λu=>by
   cases f with
   |none=>rfl|slot B t=>simp only[An.on];rw[az (λk:B=d=>Z (k▸fsl _ _ rfl))]|cell B o t=>
    simp only[An.on];rw[az];intro k;rcases G _ _ _ rfl with A|⟨y,_,A⟩
    .exact Z (k▸A)
    .exact AA.jX d e' C y (k▸A)
  refine ⟨e',heq,?_⟩;simp only[PR.wp,qg,qd,qo,AA.put];refine H e' cs g hs θ C _ ⟨_,.refl _,?_⟩;simp only[PR.wp,pg,pd,AA.put];refine M _ (eV hs F Z C λn hn=>by rw[AA.gp,az (λh=>hn h.symm)]) _ (C4 hK ?_);refine⟨λn=>?_,λc=>?_⟩
  .simp only[AA.gp,JO,An.get,ε];by_cases k:κ=n
   .subst k;rw[az (λh=>n1 h.symm),az (λh=>I h.symm),ae rfl,ae rfl]
   .rw[az k,az k];by_cases A:d=n
    .subst A;rw[ae rfl,ae rfl,δ]
    .rw[az A,az A];by_cases L:s=n
     .subst L;rw[ae rfl,ae rfl,hon]
     .rw[az L,az L]
  .simp only[AA.ja,LO,An.je,w.2];cases EV.kx c eq<;>cases EV.kx c e<;>rfl
 .cases j
theorem bK(θ:JD D O){p q:PR}(a:lR D p q=X)(h:CG S K (p::q::rs) O):CG S K (q::p::rs) O:=by
 unfold lR at a;split at a
 .rename_i m d n η ζ F G H I J L;simp only[jP,bne_iff_ne,ne_eq,n_,nS,kY,decide_eq_false_iff_not]at a;obtain⟨⟨⟨Z,n1⟩,Q⟩,n3⟩:=a;obtain⟨e',u,h⟩:=h;have z:=θ.congr u.symm;simp only[PR.wp,F,G,H,AA.put]at h;obtain⟨ep,s,off,cs,b,hs,R,B,⟨C,g,j⟩,w⟩:=ON h;simp only[PR.wp,J,L,I,AA.put,AB.wp]at j;have δ:∀k,k≠d->(∀cs,C.get k≠.bx cs)->e'.get k=C.get k:=λk ε l=>by
   rw [g.1,AA.gp,az (λh=>ε h.symm),JO]at l|-;by_cases M:s=k
   .rw[ae M]at l;exact absurd rfl (l _)
   .rw[az M]
  have A:s≠ζ:=by
   simp only[AC.place]at b;split at b
   next q o he=>simp only[jR,Prod.mk.injEq]at b;exact λhh=>z.no (x:=m) (by rw[he];rfl) (by rw[b.1,hh];exact Z)
   .simp only[jR,Prod.mk.injEq]at b;exact λhh=>Q (by rw[<-hh,<-b.1])
   .cases b
  cases hv:Go.Sf.vals C η with
  |none=>rw[hv]at j;exact j.elim|some ts=>
   rw [hv]at j;obtain⟨hl,j⟩:=j;refine⟨e',u,?_⟩;simp only[PR.wp,J,L,I,AA.put,AB.wp,T1 (λk κ l=>δ k (λh=>n3 (h▸κ)) l) hv,AS];refine⟨hl,_,.refl _,?_⟩;simp only[PR.wp,F,G,H,AA.put];refine w _ cs (by simp only[AC.place]at b|-;rw[AA.gp,az Q];exact b) (by rw[AA.gp,az (λh=>A h.symm)];exact hs) rfl (by rw[AA.ja,B];rfl) _ (C4 j ?_);refine⟨λk=>?_,λc=>?_⟩
   .simp only[AA.gp,JO,g.1]
    grind
   .simp only[AA.ja,LO,g.2];cases EV.kx c ep<;>rfl
 .cases a
end
def lO(p:PR):Bool:=(p.tk.isSome&&!p.op.lD)||(match p.op,p.guard,p.dst with|.k7 _ _,W,Y _=>X|.m8 _,W,Y _=>X|_,_,_=>T)
variable{O:AA}
theorem Sl{S:FuncId->Fq->AZ->Prop}{p:PR}{K:AA->Prop}(ho:lO p=X)(h:p.wp S O K):∃jq,K jq/\(∀c,jq.je c=O.je c)/\∀b:AA->Prop,b jq->p.wp S O b:=by
 simp only[lO,n9]at ho;rcases ho with ho|ho
 .simp only[jP,n_]at ho;obtain⟨⟨qs,d⟩,w⟩:=oa.1 ho.1;obtain⟨e,u,j,g,a⟩:=Qr w (λh=>by rw[ho.2]at h;cases h) h;exact⟨_,g,λc=>by rw[AA.ja,DI j.l7,EV.kx,j.my];rfl,a O (λ_ _=>rfl) j.dno⟩
 split at ho
 .rename_i m q d k l o
  grind [PR.wp,AA.put,MW,AA.ja,I6,EV.kx]
 next x d k l o=>simp only[PR.wp,k,l,o,AA.put]at h|-;obtain⟨e,s,off,cs,z,A,B,C,F,G⟩:=ON h;exact⟨_,F,λc=>by rw[AA.ja,LO,EV.kx,B.jZ];rfl,λb g=>G O cs z A rfl C _ g⟩
 .cases ho
def l3(p:PR):Bool:=match p.op,p.guard,p.dst with
 |.ky _,W,Y _=>X|_,_,_=>T
theorem Yc{p:PR}{x:Ne×Nat}(h:p.tk=Y x)(a:p.op.lD=X):l3 p=X:=by
 obtain ⟨qs,d⟩:=x;obtain⟨g,b,c⟩:=PR.tk_some h;unfold l3;rw[b,c];cases ho:p.op<;>simp[ho,AB.lD]at a<;>rfl
theorem Ue{D:Ne}{p q:PR}(h:kF D q p=X):l3 p=X\/lO p=X:=by
 unfold kF at h;split at h
 .rename_i qs d a;cases b:p.op.lD with
  |true=>exact .inl (Yc a b)|false=>exact .inr (by simp[lO,a,b])
 .cases h
theorem TJ{D:Ne}{p q:PR}(h:kF D p q=X):PR.km D p=X:=by
 unfold kF at h
 grind
theorem Uh{D:Ne}{p q:PR}(h:lr D p q=X):l3 p=X\/lO p=X:=by
 unfold lr at h;split at h
 .rename_i c g qs j a _;cases b:p.op.lD with
  |true=>exact .inl (Yc a b)|false=>exact .inr (by simp[lO,a,b])
 .cases h
theorem TK{D:Ne}{p q:PR}(h:kG D p q=X):PR.km D p=X:=by
 unfold kG at h
 grind
theorem Uf{D:Ne}{p q:PR}(h:kG D q p=X):lO p=X:=by grind[kG,lO]
end Go.Sf
namespace Go.Sf
open Go.RowKit (Below)
def H5(rs:List PR)(i:Nat):PR:=(rs[i]?).getD ⟨W,.mr 0,W⟩
def lj(p q:PR):Bool:=match p.op,p.guard,p.dst,q.op,q.guard,q.dst with
 |.ky gs,W,Y dp,.mP _,W,Y dq=>dp !=dq&&!(gs.flatMap GC.sl).contains dq|_,_,_,_,_,_=>T
theorem Ud{p q:PR}(h:lj p q=X):l3 p=X:=by grind[lj,l3]
def Px(p:PR):Bool:=match p.op,p.guard,p.dst with
 |.st _ (.s _) _,W,W=>X|.mf _ _ _,W,W=>X|_,_,_=>T
def lq(D:Ne)(p q:PR):Bool:=match p.op,p.guard,p.dst,q.op,q.guard,q.dst with
 |.mf x v _,W,W,.nB (.s _) _ _,W,Y d=>D.contains d&&!x.sl.contains d&&!v.sl.contains d|_,_,_,_,_,_=>T
def MJ(D:Ne)(p q:PR):Bool:=match p.op,p.guard,p.dst,q.op,q.guard,q.dst with
 |.st _ (.s x) v,W,W,.bad m _,W,Y d=>D.contains d&&d !=x&&d !=m&&!v.sl.contains d&&!v.sl.contains m|.st _ (.s x) v,W,W,.kK (.s m) _,W,Y d=>D.contains d&&d !=x&&d !=m&&!v.sl.contains d&&!v.sl.contains m|_,_,_,_,_,_=>T
theorem Uc{D:Ne}{p q:PR}(h:MJ D p q=X):Px p=X:=by grind[MJ,Px]
theorem Ug{D:Ne}{p q:PR}(h:lq D p q=X):Px p=X:=by grind[lq,Px]
def AB.vops:AB->Option (List AC)
 |.len x=>Y [x]|.mm _ x y=>Y [x,y]|.lx _ x lo hi=>Y (x::(lo.toList++hi.toList))|.bin _ _ x y=>Y [x,y]|.mt _ x=>Y [x]|.nI x _=>Y [x]|.nP x _=>Y [x]|_=>W
def lW(D:Ne)(p q:PR):Bool:=match p.op.vops,p.guard,p.dst,q.op,q.guard,q.dst with
 |some xs,W,Y d,.st _ (.s x) v,W,W=>PR.km D p&&d !=x&&!v.sl.contains d&&Cb (xs.flatMap AC.sl) v.sl|_,_,_,_,_,_=>T
def lQ(D:Ne)(p q:PR):Bool:=match p.op,p.guard,p.dst,q.op,q.guard,q.dst with
 |.nM b _,W,Y d,.st _ (.s x) v,W,W=>PR.km D p&&D.contains b&&b !=x&&d !=x&&d !=b&&!v.sl.contains d&&!v.sl.contains b|.bad b _,W,Y d,.st _ (.s x) v,W,W=>PR.km D p&&d !=x&&!v.sl.contains d&&!v.sl.contains b|_,_,_,_,_,_=>T
def lz(p q:PR):Bool:=match p.op,p.guard,p.dst,q.op,q.guard,q.dst with
 |.kD _ xs _,W,Y d,.mP _,W,Y d'=>d !=d'&&!(Bi xs).contains d'|_,_,_,_,_,_=>T
def mN(p:PR):Bool:=match p.op,p.guard,p.dst with
 |.kD _ _ _,W,Y _=>X|_,_,_=>T
theorem Qf{p q:PR}(h:lz p q=X):mN p=X:=by grind[lz,mN]
def ln(D:Ne)(p q:PR):Bool:=Qe D p q||lm D p q||lj p q||lP D p q||lZ D p q||(MJ D p q||lq D p q)||lW D p q||lQ D p q||(kF D p q||kF D q p||lr D p q||kG D p q||kG D q p)||(PO D p q||lR D p q)||lz p q
def okQ(p:PR):Bool:=match p.op,p.guard,p.dst with
 |.mO _,W,Y _=>X|.md _ _ _ _,W,Y _=>X|_,_,_=>T
theorem TI{D:Ne}{p q:PR}(h:ln D p q=X):(((PR.km D p=X\/l3 p=X)\/Px p=X)\/lO p=X)\/mN p=X:=by
 simp [ln]at h;rcases h with h|h
 rotate_left
 .exact .inr (Qf h)
 left;rcases h with((((((((h|h)|h)|h)|h)|h)|h)|h)|((((h|h)|h)|h)|h))|(h|h)
 rotate_right 7
 .grind[TJ]
 .rcases Ue h with h|h
  .exact .inl (.inl (.inr h))
  .exact .inr h
 .rcases Uh h with h|h
  .exact .inl (.inl (.inr h))
  .exact .inr h
 .grind[TK]
 .exact .inr (Uf h)
 .grind[PO]
 .exact .inr (by unfold lR at h;grind[lO])
 all_goals refine .inl ?_
 .simp[Qe]at h
  grind
 .unfold lm at h
  grind
 .grind[Ud]
 .unfold lP at h
  grind
 .unfold lZ at h
  grind
 .grind[Uc,Ug]
 .unfold lW at h
  grind
 .unfold lQ at h
  grind
def YL(ops:Array Oper):Ne:=
 ops.toList.foldl (λacc o=>acc++[o.after.toList.foldl (λm e=>if Region.binds .any e then m|||(1<<<e.on)|||acc.getD e.on 0 else m) 0]) []
def okCa(p:PR):Bool:=match p.op,p.guard,p.dst with
 |.lc _ _ _,W,Y _=>X|_,_,_=>T
variable{O:AA}
theorem W5{S:FuncId->Fq->AZ->Prop}{p:PR}{K:AA->Prop}(ho:okCa p=X)(h:p.wp S O K):p.wp S O λjq=>K jq/\∀c,jq.je c=O.je c:=by
 unfold okCa at ho;split at ho
 .rename_i f args i d g j k;simp[PR.wp,g,j,k,AB.wp,AA.put]at h|-;split at h
  .rename_i u q a w;simp at a;subst a;split at h
   .rename_i cs z;refine⟨h.1,?_⟩;cases hv:Ch O i args with
    |none=>rw[hv]at h;exact h.2.elim|some A=>
     rw [hv]at h;obtain⟨_,r,l,o⟩:=h;refine⟨r,l,λb=>⟨o b,λc=>?_⟩⟩;have:EV.kx c r.mB=X:=by cases r<;>rfl
     rw [AA.ja,AA.ja,this];rfl
   .exact h.elim
  .exact h.elim
 .cases ho
def okCm(p:PR):Bool:=match p.op,p.dst with
 |.kU _ _ _,Y _=>X|_,_=>T
def Sj(D:Ne)(r:PR):Bool:=
 Hj r.op||l3 r||okQ r||lO r||okCa r||okCm r||mN r||(r.op.mov&&r.dst.isSome&&(!r.op.jY||r.guard.isNone)&&Cb r.op.lG D)
def Of(P:Program)(N:Nat)(D:Ne)(ops:Array Oper)(rs:List PR):Bool:=
 let n:=ops.size
 let M:=YL ops
 G0 P N ops ops.toList rs&&(nW n).all (λi=>Sj D (H5 rs i)) &&
 (nW n).all (λi=>match ops[i]? with
  |some o=>o.after.toList.all λe=>!Region.binds .any e||decide (e.on<i)|none=>T) &&
 (nW n).all (λi=>(nW n).all λj=>!(M.getD i 0).testBit j||(match ops[i]? with
  |some o=>o.after.toList.any λe=>Region.binds .any e&&(e.on==j||(decide (e.on<i)&&(M.getD e.on 0).testBit j))|none=>T)) &&
 (nW n).all (λi=>(nW i).all λj=>(M.getD i 0).testBit j||ln D (H5 rs j) (H5 rs i))
section
variable{P:Program}{F0:Nat->Nat->Prop}{w0:W0}{N:Nat}{p:Option (Nat×Value)}{ops:Array Oper}{K:AA->Prop}{D:Ne}
variable{f:An}{O:AA}
theorem CO.refl{op:AB}{d:Option Nat}(h:f.ok O):CO op f d O O:=
 ⟨λ_ _=>.inl rfl,λ_ _ _ _=>.inl rfl,λ_ _ _=>rfl,h,λ_ _ _ h=>h⟩
theorem Gg(d:Nat)(e0:AA):∀(qs:Ne)(O:AA),AA.je d (Hx e0 qs O)=AA.je d O
 |[],_=>rfl|q::qs,O=>by
  rw [Hx,AA.ja,Gg d e0 qs O]
  grind [Ge,EV.kx,EV.jZ]
theorem Yr(d:Nat)(e:EV)(O:AA)(g:GC)(h:d∉g.sl):GC.cell ((d,e)::O) g=g.cell O:=by
 cases g with
 |z c=>rfl|v x k n=>
  cases x with
  |s q=>
   grind [GC.sl,nc,GC.cell,AC.val,AC.ev,AA.gp]
  |c t=>rfl
 |w q=>
  grind [GC.sl,nc,GC.cell,AA.gp]
 |g q k n=>
  grind [GC.sl,nc,GC.cell,AA.gp]
theorem SS(d:Nat)(e:EV)(O:AA):∀(gs:List GC),d∉gs.flatMap GC.sl->Cq ((d,e)::O) gs=Cq O gs
 |[],_=>rfl|g::gs,h=>by
  rw [nQ,nR,not_or]at h;simp[Cq,Yr d e O g h.1,SS d e O gs h.2]
theorem ZE{gs:List GC}{q:Nat}(h:q∈gs.filterMap GC.slot):q∈gs.flatMap GC.sl:=by
 rw [m_]at h;obtain⟨g,a,e⟩:=h;rw[m?];refine⟨g,a,?_⟩;cases g<;>simp[GC.slot]at e<;>simp[GC.sl,e]
variable{d:Nat}
theorem Po{S:FuncId->Fq->AZ->Prop}{p:PR}{K:AA->Prop}{gs:List GC}(c:p.op=.ky gs)(g:p.guard=W)(j:p.dst=Y d)(h:p.wp S O K):
  ∃cs,((gs.filterMap GC.src).Nodup/\d∉gs.filterMap GC.slot)/\Cq O gs=Y cs/\K ((d,.kC cs)::Hx O (gs.filterMap GC.slot) O):=by
 simp only[PR.wp,c,g,j,AB.wp,AA.put]at h;obtain⟨k,b⟩:=h;cases a:Cq O gs with
 |none=>rw[a]at b;exact b.elim|some l=>rw[a]at b;exact⟨l,k,rfl,b⟩
theorem Mb{S:FuncId->Fq->AZ->Prop}{p:PR}{K:AA->Prop}{gs:List GC}{cs:List AI}(b:p.op=.ky gs)(c:p.guard=W)(g:p.dst=Y d)(j:(gs.filterMap GC.src).Nodup/\d∉gs.filterMap GC.slot)(a:Cq O gs=Y cs)
  (h:K ((d,.kC cs)::Hx O (gs.filterMap GC.slot) O)):p.wp S O K:=by
 simp only[PR.wp,b,c,g,AB.wp,AA.put,a];exact⟨j,h⟩
variable{q:PR}{v:AC}
theorem OR{S:FuncId->Fq->AZ->Prop}{K:AA->Prop}{n x:Nat}(a:q.op=.st n (.s x) v)(l:q.guard=W)(hd:q.dst=W)(h:q.wp S O K):
  ∃s off cs cs' o,(AC.s x).place O=Y (s,off)/\O.get s=.bx cs/\(∀g e,o=Y (g,e)->v=.s g/\(∃t,e=.tv t)/\g≠s)/\K (If s cs' o O)/\
   ∀env2,(AC.s x).place env2=Y (s,off)->env2.get s=.bx cs->v.ev env2=v.ev O->∀j:AA->Prop,j (If s cs' o env2)->q.wp S env2 j:=by
 unfold PR.wp at h;rw[l,a,hd]at h;simp[AB.wp]at h;split at h
 .rename_i s off z;split at h
  .rename_i cs A;split at h
   .rename_i t hv;cases v with
    |c t=>exact h.elim|s g=>
     simp only at h;simp[AC.ev]at hv;refine⟨s,off,cs,_,Y (g,.tv t),z,A,?_,h.2.2.2,λenv2 u w k j b=>?_⟩
     .intro B C he;simp at he;obtain⟨rfl,rfl⟩:=he;exact⟨rfl,⟨t,rfl⟩,h.1⟩
     .simp[AC.ev]at k;unfold PR.wp;rw[l,a,hd];simp[AB.wp,u,w,AC.ev,k,hv];exact⟨h.1,h.2.1,h.2.2.1,b⟩
   next t hv=>refine⟨s,off,cs,_,W,z,A,V,h.2.2,λenv2 u w k j b=>?_⟩;unfold PR.wp;rw[l,a,hd];simp[AB.wp,u,w,k,hv];exact⟨h.1,h.2.1,b⟩
   .exact h.elim
  .exact h.elim
 .exact h.elim
theorem Tm(a:Fq)(c:Nat):EV.kx c (EV.mQ a)=X:=by
 unfold EV.mQ;split<;>rfl
variable{i:Nat}
theorem RE{S:FuncId->Fq->AZ->Prop}{f:FuncId}{xs:List AC}{K:EV->AA->Prop}(h:(AB.kD f xs i).wp S O (Y d) K):
  ∃s cs b cs' a,(xs[i]?).bind (·.place O)=Y (s,0)/\O.get s=.bx cs/\O.lV s W=X/\d≠s/\Ch O i xs=Y b/\S f b (.bo cs cs' i a)/\((∀c∈cs',c.t.WF)/\TV.jU a->K (EV.mQ a) ((s,.bx cs')::O)):=by
 simp only[AB.wp]at h;split at h
 .rename_i z s hd j;simp only[jR]at hd;subst hd;split at h
  .rename_i cs k;obtain⟨⟨l,o⟩,g⟩:=h;cases hv:Ch O i xs with
   |none=>rw[hv]at g;exact g.elim|some b=>
    rw [hv]at g;obtain⟨cs',a,u,w⟩:=g;exact⟨s,cs,b,cs',a,j,k,l,o,rfl,u,w⟩
  .exact h.elim
 .exact h.elim
theorem Pw{S:FuncId->Fq->AZ->Prop}{p:PR}{K:AA->Prop}(ho:mN p=X)(h:p.wp S O K):p.wp S O λjq=>K jq/\(∀c,jq.je c=O.je c)/\∀a:AA->Prop,a jq->p.wp S O a:=by
 unfold mN at ho;split at ho
 next f xs i d u w z=>simp only[PR.wp,u,w,z,AA.put]at h|-;obtain⟨s,cs,G,cs',b,A,B,g,j,C,k,F⟩:=RE h;simp only[AB.wp,A,B,C,AS];refine⟨⟨g,j⟩,cs',b,k,λl=>⟨F l,λc=>by rw[AA.ja,AA.ja,Tm];rfl,λa o=>⟨⟨g,j⟩,cs',b,k,λ_=>o⟩⟩⟩
 .cases ho
variable{e':AA}
theorem gE{p:PR}{o:Oper}(ho:GN P N ops o p=X){K:AA->Prop}(g:(((PR.km D p=X\/l3 p=X)\/Px p=X)\/lO p=X)\/mN p=X)(A:GI F0 w0 N e')(B:JD D e')(h:p.wp (AO P) e' K):
  ∃jq,K jq/\GI F0 w0 N jq/\JD D jq/\∀b:AA->Prop,b jq->p.wp (AO P) e' b:=by
 rcases g with(((g|g)|g)|g)|g
 rotate_right
 .obtain⟨jq,⟨l,M,Q⟩,a⟩:=CR A ho (Pw g h);exact⟨jq,l,a,λd hd=>by rw[M];exact B d hd,Q⟩
 rotate_right
 .obtain⟨jq,⟨l,M,Q⟩,a⟩:=CR (K:=λjq=>K jq/\(∀c,jq.je c=e'.je c)/\∀b:AA->Prop,b jq->p.wp (AO P) e' b) A ho (by
   grind [Sl])
  exact ⟨jq,l,a,λd hd=>by rw[M];exact B d hd,Q⟩
 .simp[PR.km,n_]at g;obtain⟨⟨⟨⟨δ,Z⟩,pg⟩,pb⟩,pD⟩:=g;obtain⟨dp,ε⟩:=oa.1 Z;have θ:p.op.jY=X->p.guard=W:=λη=>by
   rcases pg with h|h
   .rw[η]at h;cases h
   .simpa using h
  obtain ⟨jq,⟨l,ep,fp,R⟩,a⟩:=CR A ho (JR ε δ θ h);exact⟨jq,l,a,R.jd pb B,λb j=>R.again e' (.refl R.ok) (λ_ _=>rfl) _ (by rw[<-R.jq];exact j)⟩
 .unfold l3 at g;split at g
  .rename_i gs d C F G;obtain⟨jq,l,a⟩:=CR (K:=λjq=>K jq/\∃cs,((gs.filterMap GC.src).Nodup/\d∉gs.filterMap GC.slot)/\Cq e' gs=Y cs/\jq=(d,.kC cs)::Hx e' (gs.filterMap GC.slot) e') A ho (by
    obtain ⟨ts,w,z,H⟩:=Po C F G h
    grind [Mb])
   obtain ⟨l,ts,w,z,rfl⟩:=l;refine⟨_,l,a,λx κ=>?_,λb j=>Mb C F G w z j⟩;rw[AA.ja,Gg,B x κ];rfl
  .cases g
 .unfold Px at g;split at g
  .rename_i n x v C F G;obtain⟨jq,⟨l,s,off,cs,cs',o',w,I,z,H,J⟩,a⟩:=CR (K:=λjq=>K jq/\∃s off cs cs' o,(AC.s x).place e'=Y (s,off)/\e'.get s=.bx cs/\(∀L e,o=Y (L,e)->v=.s L/\(∃t,e=EV.tv t)/\L≠s)/\jq=If s cs' o e'/\
     ∀b:AA->Prop,b (If s cs' o e')->p.wp (AO P) e' b) A ho (by
    obtain ⟨s,off,cs,cs',o,w,I,z,H,J⟩:=OR C F G h;exact J e' w I rfl _ ⟨H,s,off,cs,cs',o,w,I,z,rfl,λb j=>J e' w I rfl b j⟩)
   subst H;refine⟨_,l,a,λd hd=>?_,J⟩;rw[Cz _ _ _ _ _ (λL e he=>by
    obtain ⟨_,⟨t,rfl⟩,_⟩:=z L e he;rfl)]
   exact B d hd
  .rename_i x v k C F G;obtain⟨jq,⟨l,M,Q⟩,a⟩:=CR (K:=λjq=>K jq/\(∀c,jq.je c=e'.je c)/\∀b:AA->Prop,b jq->p.wp (AO P) e' b) A ho (by
    simp [PR.wp,C,F,G,AB.wp,AA.put]at h|-;split at h
    .rename_i q i c κ;split at h
     .rename_i n es u ζ hu;obtain⟨w,I,es',z,H,J,h7⟩:=h;refine⟨w,I,es',z,H,J,h7,λc=>(I2 (es':=es') ζ).2.2 c,λb j=>?_⟩
      grind
     .exact h.elim
    .exact h.elim)
   exact ⟨jq,l,a,λd hd=>by rw[M];exact B d hd,Q⟩
  .cases g
variable{rs:List PR}
theorem bI{p q:PR}(a:lj p q=X)(h:CG (AO P) K (p::q::rs) O):CG (AO P) K (q::p::rs) O:=by
 unfold lj at a;split at a
 .rename_i gs J cs C k l o u w z;simp only[jP,bne_iff_ne,ne_eq,n_,nS,decide_eq_false_iff_not]at a;obtain⟨G,A⟩:=a;obtain⟨e',g,h⟩:=h;obtain⟨L,H,I,x,j,c⟩:=Po k l o h;simp[PR.wp,u,w,z,AB.wp,AA.put]at c;obtain⟨b,c⟩:=c;rw[j.2,AA.ja,Gg]at b;simp[EV.kx,EV.jZ]at b;refine⟨e',g,?_⟩;simp[PR.wp,u,w,z,AB.wp,AA.put];refine⟨b,_,.refl _,Mb k l o H (by rw[SS _ _ _ _ A];exact I) (C4 c ?_)⟩;have F:C∉gs.filterMap GC.slot:=λB=>A (ZE B);refine⟨λn=>?_,λd=>?_⟩
  .rw[AA.gp,j.1,AA.gp,AA.gp,FC,FC]
   grind [AA.gp]
  .rw[AA.ja,j.2,AA.ja,AA.ja,Gg,Gg,AA.ja]
   grind
 .cases a
variable{jq:AA}{m s:Nat}
theorem VE{S:FuncId->Fq->AZ->Prop}{K:AA->Prop}{cs cs':List AI}{o:Option (Nat×EV)}(a:(∃k,q.op=.bad m k)\/∃k,q.op=.kK (.s m) k)(g:q.guard=W)(hd:q.dst=Y d)(B:O.get s=.bx cs)(ho:∀A e,o=Y (A,e)->(∃t,e=.tv t)/\A≠m)
  (he:∀n,jq.get n=(If s cs' o O).get n)(h:q.wp S jq K):∃e,K ((d,e)::jq)/\∀j:AA->Prop,j ((d,e)::O)->q.wp S O j:=by
 have w:jq.get m=if s=m then .bx cs' else O.get m:=by
  grind [Cg]
 have F:∀r c,jq.get r=.bx c->∃u,O.get r=.bx u:=by
  grind [Cg]
 unfold PR.wp at h;rcases a with⟨k,a⟩|⟨k,a⟩
 .rw[g,a,hd]at h;simp[AB.wp,AA.put]at h;by_cases e:s=m
  .rw[w,ae e]at h;refine⟨_,h,λj b=>?_⟩;unfold PR.wp;rw[g,a,hd];simp[AB.wp,<-e,B,AA.put];rw[<-e]at b;exact b
  .rw[w,az e]at h;split at h
   next c l=>refine⟨_,h,λj b=>?_⟩;unfold PR.wp;rw[g,a,hd];simp[AB.wp,l,AA.put];exact b
   next row l=>refine⟨_,h,λj b=>?_⟩;unfold PR.wp;rw[g,a,hd];simp[AB.wp,l,AA.put];exact b
   .exact h.elim
 .rw[g,a,hd]at h;simp[AB.wp,AA.put,AC.ev]at h;by_cases e:s=m
  .rw[w,ae e]at h;exact h.elim
  .rw[w,az e]at h;split at h
   next row l=>refine⟨_,h,λj b=>?_⟩;unfold PR.wp;rw[g,a,hd];simp[AB.wp,AC.ev,l,AA.put];exact b
   .rename_i r off l;split at h
    next c C=>obtain⟨u,z⟩:=F r c C;refine⟨_,h,λj b=>?_⟩;unfold PR.wp;rw[g,a,hd];simp[AB.wp,AC.ev,l,z,AA.put];exact b
    .exact h.elim
   .exact h.elim
theorem bH{p q:PR}(F:JD D O)(b:MJ D p q=X)(h:CG (AO P) K (p::q::rs) O):CG (AO P) K (q::p::rs) O:=by
 have key:∃n x v m d,p.op=.st n (.s x) v/\p.guard=W/\p.dst=W/\((∃k,q.op=.bad m k)\/∃k,q.op=.kK (.s m) k)/\q.guard=W/\q.dst=Y d/\d∈D/\d≠x/\d∉v.sl/\m∉v.sl:=by
  unfold MJ at b
  grind
 obtain ⟨n,x,v,m,d,H,I,J,L,M,Q,R,θ,ε,κ⟩:=key;obtain⟨e',g,h⟩:=h;have l:=F.congr g.symm;obtain⟨s,off,cs,cs',o,j,C,η,⟨y,w,ζ⟩,δ⟩:=OR H I J h;have u:d≠s:=by
  intro e;subst e;simp[AC.place]at j;split at j
  next r A G=>simp at j;exact l.no (x:=x) (s:=d) (by rw[G,<-j.1];rfl) R
  .grind
  .cases j
 have ho:∀a e,o=Y (a,e)->(∃t,e=EV.tv t)/\a≠m:=λa e he=>by
  grind [AC.sl]
 obtain ⟨e,Z,hq⟩:=VE (cs':=cs') (o:=o) (O:=e') L M Q C ho w.1 ζ;refine⟨e',g,hq _ ⟨_,.refl _,δ ((d,e)::e') ?_ (by rw[AA.gp,az u];exact C) ?_ _ (C4 Z ?_)⟩⟩
 .grind[AC.place,AA.gp]
 .cases v with
  |c t=>rfl|s a=>
   grind [AC.ev,AA.gp,AC.sl]
 .refine⟨λz=>?_,λz=>?_⟩
  .rw[AA.gp,w.1,Cg,Cg]
   grind [AA.gp,AC.sl]
  .have B:∀a e,o=Y (a,e)->e.kx z=X:=λa e he=>by
    obtain ⟨_,⟨t,rfl⟩,_⟩:=η a e he;rfl
   rw [AA.ja,w.2,Cz _ _ _ _ _ B,Cz _ _ _ _ _ B,AA.ja]
variable{n:Nat}
theorem X3{e' h:AA}{c:Nat}{o:Option Nat}{es es':Fq}(a:e'.jT c o=Y (n,es))(H:es'.length=es.length)(he:∀z,h.get z=AA.get (e'.kj c o n es') z){y q:Nat}{i:Option Nat}{l:Fq}
  (J:h.get y=.la q i)(b:h.jT q i=Y (m,l)):e'.get y=.la q i/\∃fs',e'.jT q i=Y (m,fs')/\fs'.length=l.length:=by
 obtain ⟨⟨u,L,B⟩,ho,_⟩:=I2 (es':=es') a;have w:c≠y:=by
  grind
 refine ⟨by rw[<-J,he,ho _ w],?_⟩;by_cases I:c=q
 .subst I;cases o with
  |none=>
   have g:h.get c=.xo n es':=by rw[he];simp[AA.kj,AA.gp]
   cases i with
   |none=>
    simp [AA.jT,g]at b;obtain⟨rfl,rfl⟩:=b;exact⟨es,a,H.symm⟩
   |some k=>simp[AA.jT,g]at b
  |some G=>
   rcases B with⟨mm,R,M,_⟩|⟨cs,k,Q,C,F,rfl⟩
   .simp[AA.jT,M]at a
   .cases Q;have g:h.get c=.bx (cs.set G ⟨X,.xl n es'⟩):=by rw[he,L]
    cases i with
    |none=>simp[AA.jT,g]at b|some k=>
     by_cases j:G=k
     .subst j;have A:G<cs.length:=(nV.1 C).1;simp[AA.jT,g,nX,ae A]at b;obtain⟨rfl,rfl⟩:=b;exact⟨es,a,H.symm⟩
     .refine⟨l,?_,rfl⟩;rw[<-b];simp[AA.jT,g,F,nX,az j]
 .exact⟨l,by rw[<-b];exact AA.kE (by rw[he,ho _ I]),rfl⟩
theorem bU{p q:PR}(hj:JD D O)(a:lq D p q=X)(h:CG (AO P) K (p::q::rs) O):CG (AO P) K (q::p::rs) O:=by
 unfold lq at a;split at a
 .rename_i x v k y z m d e1 e2 e3 f1 f2 f3;simp[n_,decide_eq_false_iff_not,kY]at a;obtain⟨⟨dD,Z⟩,hdv⟩:=a;obtain⟨e',Q,h⟩:=h;have η:=hj.congr Q.symm;simp only[PR.wp,e1,e2,e3,AB.wp,AA.put]at h;split at h
  .rename_i κ i0 c θ;split at h
   .rename_i n es u B hu;obtain⟨h1,h2,es',h3,h4,h5,jq,A,b⟩:=h;have H:d≠κ:=by
     rintro rfl;cases x with
     |c t=>cases θ
     |s xs=>exact η.no (x:=xs) (s:=d) (by simp[AC.ev]at θ;rw[θ];rfl) dD
    simp [PR.wp,f1,f2,f3,AB.wp,AA.put,AC.kc]at b;have ε:=A.1;obtain⟨⟨w,hw,hww⟩,ho,_⟩:=I2 (es':=es') B;have ζ:w.val=W:=by rcases hww with⟨_,_,_,_,_,rfl⟩|⟨_,_,_,_,_,rfl⟩<;>rfl
    have δ:∀t,z.val jq=Y t->z.val e'=Y t:=by
     intro t F;cases z with
     |c t'=>exact F|s zz=>
      simp [AC.val,AC.ev]at F|-;by_cases l:κ=zz
      .subst l;rw[ε,hw,ζ]at F;cases F
      .rw[ε,ho _ l]at F;exact F
    have I:∃g i G j R,jq.get y=.la g i/\jq.jT g i=Y (m,G)/\z.val jq=Y (.int R j)/\0<=j/\j<G.length/\CG (AO P) K rs ((d,.lp g i (j.toNat*m))::jq):=by
     cases J:jq.get y<;>rw[J]at b<;>simp[AS]at b<;>try exact b.elim
     .cases l:z.val jq with
      |none=>rw[l]at b;exact b.elim|some t=>
       rw [l]at b;cases t<;>try exact b.elim
       have:=b.1.1;simp[AC.ev,J,EV.jZ]at this
     .rename_i g i;cases C:jq.jT g i with
      |none=>rw[C]at b;exact b.elim|some pp=>
       obtain ⟨m',G⟩:=pp;rw[C]at b;simp only at b;cases l:z.val jq with
       |none=>rw[l]at b;exact b.elim|some t=>
        rw [l]at b;cases t<;>try exact b.elim
        rename_i R j;obtain⟨⟨_,rfl⟩,k1,k2,k3⟩:=b;exact⟨g,i,G,j,R,rfl,C,rfl,k1,k2,k3⟩
    obtain ⟨g,i,G,j,R,m1,m2,m3,m4,m5,m6⟩:=I;obtain⟨n1,fs',n2,n3⟩:=X3 B h4 ε m1 m2;refine⟨e',Q,?_⟩;simp only[PR.wp,f1,f2,f3,AB.wp,AA.put,AC.kc,n1,n2,AS,δ _ m3,AC.ev,EV.jZ];refine⟨⟨trivial,trivial⟩,m4,by rw[n3];exact m5,_,.refl _,?_⟩;have L:∀(o:AC),d∉o.sl->o.ev ((d,.lp g i (j.toNat*m))::e')=o.ev e':=by
     intro o ho;cases o with
     |c t=>rfl|s t=>
      simp only[AC.ev,AA.gp];rw[az];intro e;exact ho (by simp[AC.sl,e])
    simp only[PR.wp,e1,e2,e3,AB.wp,AA.put,L x Z,L v hdv,θ,hu];have M:AA.jT ((d,.lp g i (j.toNat*m))::e') κ i0=Y (n,es):=by rw[AA.kv H];exact B
    rw [M];refine⟨h1,h2,es',h3,h4,h5,C4 m6 ?_⟩;refine Hd.symm (Hd.trans (Rj (.refl _) H) ⟨λs=>?_,λs=>?_⟩)
    .simp[AA.gp,ε]
    .simp[AA.ja,A.2]
   .exact h.elim
  .exact h.elim
 .cases a
theorem SJ{O env2:AA}{b:Nat}{o:Option AC}(h:∀y∈o.toList,y.val env2=y.val O):Dc env2 b o=Dc O b o:=by
 cases o with
 |none=>rfl|some y=>simp[Dc];exact h y V
theorem bZ{S:FuncId->Fq->AZ->Prop}{p:AB}{xs:List AC}{d:Option Nat}{K:EV->AA->Prop}(C:p.vops=Y xs)(h:p.wp S O d K):
  ∃t,K (.tv t) O/\(∀x∈xs,∃u,x.val O=Y u)/\∀env2,(∀x∈xs,x.val env2=x.val O)->∀o:EV->AA->Prop,o (.tv t) env2->p.wp S env2 d o:=by
 cases p<;>simp[AB.vops]at C<;>first|cases C|skip
 case bin k op x y=>
  simp [AB.wp]at h;split at h
  .rename_i a b g A;cases B:Gc k op a b with
   |none=>rw[B]at h;exact h.elim|some t=>
    rw [B]at h;refine⟨t,h,λz c=>?_,λenv2 he o j=>?_⟩
    .simp at c;rcases c with rfl|rfl
     .exact⟨a,g⟩
     .exact⟨b,A⟩
    .simp[AB.wp,he x V,he y V,g,A,B];exact j
  .exact h.elim
 case nI x k=>
  simp [AB.wp]at h;split at h
  .rename_i row g;refine⟨_,h,λz c=>?_,λenv2 he o j=>?_⟩
   .rw[nc]at c;subst c;exact⟨_,g⟩
   .simp[AB.wp,he x V,g];exact j
  .exact h.elim
 case nP x k=>
  simp [AB.wp]at h;split at h
  .rename_i row g;refine⟨_,h.2,λz c=>?_,λenv2 he o j=>?_⟩
   .rw[nc]at c;subst c;exact⟨_,g⟩
   .simp[AB.wp,he x V,g];exact⟨h.1,j⟩
  .exact h.elim
 case len x=>
  simp [AB.wp]at h;split at h
  .rename_i n es g;refine⟨_,h,λz c=>?_,λenv2 he o j=>?_⟩
   .rw[nc.1 c];exact⟨_,g⟩
   .simp[AB.wp,he x V,g];exact j
  .exact h.elim
 case mt k x=>
  simp [AB.wp]at h;split at h
  .rename_i J n g;refine⟨_,h,λz c=>?_,λenv2 he o j=>?_⟩
   .rw[nc.1 c];exact⟨_,g⟩
   .simp[AB.wp,he x V,g];exact j
  .exact h.elim
 case mm b x y=>
  simp [AB.wp]at h;split at h
  .rename_i k a J a' g A;refine⟨_,h.2,λz c=>?_,λenv2 he o j=>?_⟩
   .simp at c;rcases c with rfl|rfl
    .exact⟨_,g⟩
    .exact⟨_,A⟩
   .simp[AB.wp,he x V,he y V,g,A];exact⟨h.1,j⟩
  .exact h.elim
 case lx n x lo hi=>
  simp [AB.wp]at h;split at h
  .rename_i m es g;split at h
   .rename_i F l G r H I;refine⟨_,h.2.2,λz c=>?_,λenv2 he o j=>?_⟩
    .simp at c;rcases c with rfl|c|c
     .exact⟨_,g⟩
     .cases c;exact⟨_,H⟩
     .cases c;exact⟨_,I⟩
    .have F:Dc env2 0 lo=Dc O 0 lo:=SJ (λy w=>he y (by simp at w|-;exact .inr (.inl w)));have G:Dc env2 es.length hi=Dc O es.length hi:=SJ (λy w=>he y (by simp at w|-;exact .inr (.inr w)));simp[AB.wp,he x V,g,F,G,H,I];exact⟨h.1,h.2.1,j⟩
   .exact h.elim
  .exact h.elim
theorem bS{p q:PR}(a:lW D p q=X)(h:CG (AO P) K (p::q::rs) O):CG (AO P) K (q::p::rs) O:=by
 unfold lW at a;split at a
 .rename_i xs d n x v η θ ε ζ δ Z;simp[bne_iff_ne,n_,decide_eq_false_iff_not]at a;obtain⟨⟨⟨_,hdx⟩,I⟩,J⟩:=a;obtain⟨e',L,h⟩:=h;unfold PR.wp at h;rw[θ,ε]at h;simp[AA.put]at h;obtain⟨t,⟨y,k,hw⟩,hs,M⟩:=bZ η h;obtain⟨s,off,cs,cs',o,h1,Q,R,hK,h5⟩:=OR ζ δ Z hw;have gy:∀z,d≠z->y.get z=e'.get z:=λz A=>by rw[k.1,AA.gp,az A]
  have g:d≠s:=λe=>by
   rw [k.1,AA.gp,ae e]at Q;cases Q
  have hp:(AC.s x).place e'=Y (s,off):=by
   grind [AC.place]
  have hb:e'.get s=.bx cs:=by rw[<-gy s g];exact Q
  have hv:v.ev e'=v.ev y:=by
   cases v with
   |c t=>rfl|s w=>
    grind [AC.ev,AC.sl]
  have hq:∀l:AA->Prop,l (If s cs' o e')->q.wp (AO P) e' l:=λl B=>h5 e' hp hb hv l B;refine⟨e',L,hq _ ⟨_,.refl _,?_⟩⟩;unfold PR.wp;rw[θ,ε];simp[AA.put];refine M _ (λz A=>?_) _ (C4 hK ?_)
  .cases z with
   |c t=>rfl|s m=>
    obtain ⟨u,hu⟩:=hs _ A;have C:¬s=m:=λe=>by
     grind [AC.val,AC.ev,EV.val]
    simp [AC.val,AC.ev,Cg,az C];cases o with
    |none=>rfl|some b=>
     have F:¬b.1=m:=λe=>Ah J (x:=m) (m?.2 ⟨_,A,a!⟩) (by rw[(R b.1 b.2 rfl).1,e];simp[AC.sl]);simp[az F]
  .refine⟨λz=>?_,λz=>?_⟩
   .rw[AA.gp,Cg,Cg];by_cases G:s=z
    .subst G;rw[ae rfl,az g,ae rfl]
    .rw[az G,az G];cases o with
     |none=>
      simp only;rw[k.1,AA.gp]
     |some b=>
      have H:¬d=b.1:=λe=>I (by rw[(R b.1 b.2 rfl).1,e];simp[AC.sl]);simp only;by_cases j:b.1=z
      .rw[ae j,ae j,az (λe=>H (e.trans j.symm))]
      .rw[az j,az j,k.1,AA.gp]
   .have κ:∀w e,o=Y (w,e)->e.kx z=X:=λw e he=>by
     obtain ⟨_,⟨t,rfl⟩,_⟩:=R w e he;rfl
    rw [AA.ja,Cz _ _ _ _ _ κ,Cz _ _ _ _ _ κ,k.2,AA.ja]
 .cases a
theorem bO{p q:PR}(hj:JD D O)(a:lQ D p q=X)(h:CG (AO P) K (p::q::rs) O):CG (AO P) K (q::p::rs) O:=by
 unfold lQ at a;split at a
 .rename_i b m d n x v ε j κ Z f2 f3;simp[bne_iff_ne,n_,decide_eq_false_iff_not,kY]at a;obtain⟨⟨⟨⟨⟨⟨_,bD⟩,hbx⟩,hdx⟩,hdb⟩,R⟩,η⟩:=a;obtain⟨e',I,h⟩:=h;have hj':=hj.congr I.symm;unfold PR.wp at h;rw[ε,j,κ]at h;simp[AA.put,AB.wp]at h;split at h
  case h_2=>exact h.elim
  rename_i bs hbs;obtain⟨Q,y,A,hw⟩:=h;obtain⟨s,off,cs,cs',o,h1,g,C,L,h5⟩:=OR Z f2 f3 hw;have gy:∀z,d≠z->y.get z=e'.get z:=λz ζ=>by rw[A.1,AA.gp,az ζ]
  have u:d≠s:=λe=>by
   rw [A.1,AA.gp,ae e]at g;cases g
  have J:(AC.s x).place e'=Y (s,off):=by
   grind [AC.place]
  have hsb:¬s=b:=by
   intro e;subst e;simp[AC.place]at J;split at J
   next r off' hx=>simp at J;exact hj'.no (x:=x) (s:=s) (by rw[hx,<-J.1];rfl) bD
   .grind
   .cases J
  have H:e'.get s=.bx cs:=by rw[<-gy s u];exact g
  have hv:v.ev e'=v.ev y:=by
   cases v with
   |c t=>rfl|s G=>
    grind [AC.ev,AC.sl]
  have hq:∀F:AA->Prop,F (If s cs' o e')->q.wp (AO P) e' F:=λF δ=>h5 e' J H hv F δ;refine⟨e',I,hq _ ⟨_,.refl _,?_⟩⟩;have hg:(If s cs' o e').get b=.bx bs:=by
   grind [Cg,AC.sl]
  unfold PR.wp;rw[ε,j,κ];simp[AA.put,AB.wp,hg];refine⟨Q,C4 L ?_⟩;refine⟨λz=>?_,λz=>?_⟩
  .rw[AA.gp,Cg,Cg];by_cases B:s=z
   .subst B;rw[ae rfl,az u,ae rfl]
   .rw[az B,az B];cases o with
    |none=>
     simp only;rw[A.1,AA.gp]
    |some l=>
     have M:¬d=l.1:=λe=>R i_;simp only;by_cases w:l.1=z
     .rw[ae w,ae w,az (λe=>M (e.trans w.symm))]
     .rw[az w,az w,A.1,AA.gp]
  .have Q:∀G e,o=Y (G,e)->e.kx z=X:=λG e he=>by
    obtain ⟨_,⟨t,rfl⟩,_⟩:=C G e he;rfl
   rw [AA.ja,Cz _ _ _ _ _ Q,Cz _ _ _ _ _ Q,A.2,AA.ja]
 .rename_i b k d n x v ε j κ Z f2 f3;simp[bne_iff_ne,n_,decide_eq_false_iff_not,kY]at a;obtain⟨⟨⟨_,hdx⟩,R⟩,η⟩:=a;obtain⟨e',I,h⟩:=h;unfold PR.wp at h;rw[ε,j,κ]at h;obtain⟨e0,hn0,θ,y,A,hw⟩:∃e0,(∀c,e0≠.bx c)/\(∀j:AA,j.get b=e'.get b\/(∃c c',e'.get b=.bx c/\j.get b=.bx c')->∀F:EV->AA->Prop,F e0 j->(AB.bad b k).wp (AO P) j (Y d) F)/\CG (AO P) K (q::rs) ((d,e0)::e'):=by
   simp only[AA.put,AB.wp]at h;split at h
   .rename_i H;refine⟨_,V,λj g F L=>?_,h⟩;obtain⟨c',C⟩:∃c',j.get b=.bx c':=by
     rcases g with g|⟨_,c',_,g⟩
     .exact⟨_,g.trans H⟩
     .exact⟨c',g⟩
    simp only[AB.wp,C];exact L
   .rename_i H;refine⟨_,V,λj g F L=>?_,h⟩;have C:j.get b=e'.get b:=g.resolve_right λ⟨c,c',h4,_⟩=>by rw[H]at h4;cases h4
    simp only[AB.wp,C,H];exact L
   .exact h.elim
  obtain ⟨s,off,cs,cs',o,h1,g,C,L,h5⟩:=OR Z f2 f3 hw;have gy:∀z,d≠z->y.get z=e'.get z:=λz ζ=>by rw[A.1,AA.gp,az ζ]
  have u:d≠s:=λe=>by
   rw [A.1,AA.gp,ae e]at g;exact hn0 _ g
  have J:(AC.s x).place e'=Y (s,off):=by
   grind [AC.place]
  have H:e'.get s=.bx cs:=by rw[<-gy s u];exact g
  have hv:v.ev e'=v.ev y:=by
   cases v with
   |c t=>rfl|s G=>
    grind [AC.ev,AC.sl]
  refine ⟨e',I,h5 e' J H hv _ ⟨_,.refl _,?_⟩⟩;unfold PR.wp;rw[ε,j,κ];refine θ _ ?_ _ (C4 L ?_)
  .rw[Cg];by_cases B:s=b
   .subst B;exact .inr ⟨cs,cs',H,by rw[ae rfl]⟩
   .rw[az B];cases o with
    |none=>exact .inl rfl|some l=>
     have:¬l.1=b:=λe=>η i_;simp only;rw[az this];exact .inl rfl
  refine ⟨λz=>?_,λz=>?_⟩
  .simp only[AA.put];rw[AA.gp,Cg,Cg];by_cases B:s=z
   .subst B;rw[ae rfl,az u,ae rfl]
   .rw[az B,az B];cases o with
    |none=>
     simp only;rw[A.1,AA.gp]
    |some l=>
     have M:¬d=l.1:=λe=>R i_;simp only;by_cases w:l.1=z
     .rw[ae w,ae w,az (λe=>M (e.trans w.symm))]
     .rw[az w,az w,A.1,AA.gp]
  .have Q:∀G e,o=Y (G,e)->e.kx z=X:=λG e he=>by
    obtain ⟨_,⟨t,rfl⟩,_⟩:=C G e he;rfl
   simp only[AA.put];rw[AA.ja,Cz _ _ _ _ _ Q,Cz _ _ _ _ _ Q,A.2,AA.ja]
 .cases a
variable{e:EV}
theorem Ri:∀{xs:List AC},d∉Bi xs->Go.Sf.vals ((d,e)::O) xs=Go.Sf.vals O xs
 |[],_=>rfl|x::xs,h=>by
  simp only[Bi,nR,not_or]at h;have a:x.val ((d,e)::O)=x.val O:=by
   cases x with
   |c t=>rfl|s n=>simp only[AC.val,AC.ev,AA.gp];rw[az (λhh=>h.1 (by simp[AC.sl,hh]))]
  simp only[Go.Sf.vals,a,Ri h.2]
variable{x:AC}
theorem W7{xs:List AC}(h:xs[i]?=Y x)(a:m∈x.sl):m∈Bi xs:=by
 induction xs generalizing i with
 |nil=>simp at h|cons y c b=>
  rw [Bi,nR];cases i with
  |zero=>simp at h;subst h;exact .inl a|succ i=>exact .inr (b f?)
theorem QJ:∀{i:Nat}{xs:List AC},d∉Bi xs->Ch ((d,e)::O) i xs=Ch O i xs
 |_,[],_=>by simp[Ch]|0,x::xs,h=>by
  simp only[Bi,nR,not_or]at h;have:Go.Sf.vals ((d,e)::O) xs=Go.Sf.vals O xs:=Ri h.2;simp only[Ch,this]
 |i+1,x::xs,h=>by
  simp only[Bi,nR,not_or]at h;have a:x.val ((d,e)::O)=x.val O:=by
   cases x with
   |c t=>rfl|s n=>simp only[AC.val,AC.ev,AA.gp];rw[az (λhh=>h.1 (by simp[AC.sl,hh]))]
  simp only[Ch,a,QJ h.2]
theorem bL(Z:GI F0 w0 N O){op:Oper}{p q:PR}(hp:GN P N ops op p=X)(a:lz p q=X)(h:CG (AO P) K (p::q::rs) O):CG (AO P) K (q::p::rs) O:=by
 have I:=Qf a;unfold lz at a;split at a
 .rename_i f xs i d cells l R θ ε F G H;simp only[jP,bne_iff_ne,ne_eq,n_,nS,decide_eq_false_iff_not]at a;obtain⟨n1,κ⟩:=a;obtain⟨e',z,h⟩:=h;have J:=Z.congr z.symm;obtain⟨jq,⟨⟨e1,A,η⟩,k1,_⟩,_⟩:=CR J hp (Pw I h);simp only[PR.wp,F,G,H,AA.put,AB.wp]at η;have u:e'.je l=X:=by rw[<-k1,<-A.2];exact η.1
  simp only[PR.wp,R,θ,ε,AA.put]at h;obtain⟨s,cs,ts,cs',us,h1,h2,ζ,h4,h5,h6,h7⟩:=RE h;obtain⟨x,δ,g⟩:=Option.bind_eq_some_iff.1 h1;have w:∀m∈x.sl,m≠l:=λm hm hh=>κ (hh▸W7 δ hm);have L:s≠l:=by
   cases x with
   |c t=>cases g
   |s m=>
    simp only[AC.place]at g;split at g
    next b o he=>simp only[jR,Prod.mk.injEq]at g;exact λhh=>AA.jX l e' u m (by rw[he,g.1,hh];rfl)
    .simp only[jR,Prod.mk.injEq]at g;exact λhh=>w m a! (g.1.trans hh)
    .cases g
  have M:(xs[i]?).bind (·.place ((l,EV.bx cells)::e'))=Y (s,0):=by
   rw [δ,Option.bind_some];cases x with
   |c t=>cases g
   |s m=>
    simp only[AC.place]at g|-;rw[AA.gp,az (λhh=>w m a! hh.symm)];exact g
  have Q:AA.lV s W ((l,EV.bx cells)::e')=X:=by
   rw [AA.lw]at ζ|-;intro k;rw[AA.gp];split
   .rfl
   .exact ζ k
  refine ⟨e',z,?_⟩;simp only[PR.wp,F,G,H,AA.put,AB.wp];refine⟨u,_,.refl _,?_⟩;simp only[PR.wp,R,θ,ε,AA.put,AB.wp,M,QJ κ,h5,AS];rw[AA.gp,az (λhh=>L hh.symm),h2];refine⟨⟨Q,h4⟩,cs',us,h6,λC=>?_⟩;obtain⟨e2,j,B⟩:=h7 C;simp only[PR.wp,F,G,H,AA.put,AB.wp]at B;refine C4 B.2 ⟨λk=>?_,λc=>?_⟩
  .simp only[AA.gp,j.1]
   grind
  .simp only[AA.ja,j.2,Tm,EV.kx,EV.jZ];rfl
 .cases a
theorem VM{oq:Oper}(z:GN P N ops oq q=X){b:List PR}:∀(a:List PR),(∀p∈a,ln D p q=X/\∃o,GN P N ops o p=X)->∀{O:AA},GI F0 w0 N O->JD D O->CG (AO P) K (a++q::b) O->CG (AO P) K (q::(a++b)) O
 |[],_,O,_,_,h=>h|p::a,g,O,F,G,h=>by
  obtain ⟨c,o,ho⟩:=g p V;obtain⟨e',j,h⟩:=h;obtain⟨jq,C,l,u,k⟩:=gE ho (TI c) (F.congr j.symm) (G.congr j.symm) h;have B:=VM z a (λp A=>g p (by simp[A])) l u C;have w:CG (AO P) K (p::q::(a++b)) O:=⟨e',j,k _ B⟩;simp[ln]at c
  grind [swap,ZH,bI,bR,bV,bH,bU,bS,bO,bN,bM,bW,bQ,bP,bJ,bK,bL]
theorem dQ{S:FuncId->Fq->AZ->Prop}{d:Option Nat}{K:EV->AA->Prop}(h:(AB.st n x v).wp S O d K):(AB.st n x v).wp S O d λe env'=>K e env'/\e=.undef/\∀c,env'.je c=O.je c:=by
 simp [AB.wp]at h|-;split at h
 .rename_i s off a;split at h
  .rename_i cs b;split at h
   .grind[AA.ja,EV.kx,EV.jZ]
   .grind[AA.ja,EV.kx,EV.jZ]
   .exact h.elim
  .exact h.elim
 .exact h.elim
theorem aO{S:FuncId->Fq->AZ->Prop}{d:Option Nat}{K:EV->AA->Prop}(h:(AB.mh n s v).wp S O d K):(AB.mh n s v).wp S O d λe env'=>K e env'/\e=.undef/\∀c,env'.je c=O.je c:=by
 simp [AB.wp]at h|-;split at h
 .rename_i cs a;split at h
  .grind[AA.ja,EV.kx,EV.jZ]
  .grind[AA.ja,EV.kx,EV.jZ]
  .exact h.elim
 .exact h.elim
theorem Qb(O:AA)(q:Nat)(i:Option Nat)(n:Nat)(es:Fq)(c:Nat):AA.je c (O.kj q i n es)=AA.je c O:=by
 cases i with
 |none=>simp[AA.kj,AA.ja,EV.kx,EV.jZ]|some k=>
  grind [AA.kj,AA.ja,EV.kx,EV.jZ]
theorem aL{S:FuncId->Fq->AZ->Prop}{q:Nat}{d:Option Nat}{K:EV->AA->Prop}(h:(AB.nA x q).wp S O d K):(AB.nA x q).wp S O d λe env'=>K e env'/\e=.undef/\∀c,env'.je c=O.je c:=by
 simp [AB.wp]at h|-;split at h
 .grind[AA.ja,EV.kx,EV.jZ]
 .grind[AA.ja,EV.kx,EV.jZ]
 .exact h.elim
theorem aR{S:FuncId->Fq->AZ->Prop}{k:Nat}{d:Option Nat}{K:EV->AA->Prop}(h:(AB.mf x v k).wp S O d K):(AB.mf x v k).wp S O d λe env'=>K e env'/\e=.undef/\∀c,env'.je c=O.je c:=by
 simp [AB.wp]at h|-;split at h
 .grind[Qb]
 .exact h.elim
theorem UY(O:AA)(q i:Nat)(es:Fq)(c:Nat):AA.je c (O.m9 q i es)=AA.je c O:=by grind[AA.m9,AA.ja,EV.kx,EV.jZ]
theorem aN{S:FuncId->Fq->AZ->Prop}{d:Option Nat}{K:EV->AA->Prop}(h:(AB.mK x v).wp S O d K):(AB.mK x v).wp S O d λe env'=>K e env'/\e=.undef/\∀c,env'.je c=O.je c:=by
 simp [AB.wp]at h|-
 grind [UY]
theorem aP{S:FuncId->Fq->AZ->Prop}{a:List (Option AI)}{d:Option Nat}{K:EV->AA->Prop}(h:(AB.nj n a x v).wp S O d K):(AB.nj n a x v).wp S O d λe env'=>K e env'/\e=.undef/\∀c,env'.je c=O.je c:=by
 simp [AB.wp]at h|-;split at h
 .rename_i s off t g hv;split at h
  .rename_i cs j;cases b:CP a t.cells with
   |none=>rw[b]at h;exact h.elim|some ds=>
    grind [AA.ja,EV.kx,EV.jZ]
  .exact h.elim
 .exact h.elim
theorem aM{S:FuncId->Fq->AZ->Prop}{m x v:AC}{d:Option Nat}{K:EV->AA->Prop}(h:(AB.nf s m x v).wp S O d K):(AB.nf s m x v).wp S O d λe env'=>K e env'/\e=.undef/\∀c,env'.je c=O.je c:=by
 simp [AB.wp]at h|-;split at h
 .rename_i b a g t j k l;split at h
  .grind[AA.ja,EV.kx,EV.jZ]
  .exact h.elim
 .exact h.elim
theorem aQ{S:FuncId->Fq->AZ->Prop}{n s q:Nat}{d:Option Nat}{K:EV->AA->Prop}(h:(AB.stx n s q).wp S O d K):(AB.stx n s q).wp S O d λe env'=>K e env'/\e=.undef/\∀c,env'.je c=O.je c:=by
 simp [AB.wp]at h|-
 grind [AA.ja,EV.kx,EV.jZ]
theorem Wv{S:FuncId->Fq->AZ->Prop}{f:FuncId}{a:List AC}{d:Option Nat}{K:EV->AA->Prop}(h:(AB.kU f x a).wp S O d K):(AB.kU f x a).wp S O d λe env'=>K e env'/\e.jZ=W/\∀c,env'.je c=O.je c:=by
 simp only[AB.wp]at h|-;cases b:x.kc O with
 |none=>rw[b]at h;exact h.elim|some p=>
  cases hv:vals O a with
  |none=>rw[b,hv]at h;exact h.2.elim|some z=>
   rw [b,hv]at h;obtain⟨k,zs,g,l,o,u,w⟩:=h;refine⟨k,zs,g,l,o,u,λj=>⟨w j,?_,λc=>Qb _ _ _ _ _ c⟩⟩;unfold EV.mQ;split<;>rfl
variable{r:PR}
theorem Yy{S:FuncId->Fq->AZ->Prop}{K:AA->Prop}(Q:Sj D r=X)(hd:Hj r.op=X->r.dst=W)(a:JD D O)(h:r.wp S O K):r.wp S O λenv'=>K env'/\JD D env':=by
 simp [Sj,n_]at Q;rcases Q with((((((F|L)|l)|Z)|hca)|M)|hcb)|⟨⟨⟨hm,k⟩,R⟩,w⟩
 rotate_right 2
 .exact PR.jr _ _ (λenv' he=>⟨he.1,λx u=>by rw[he.2.1];exact a x u⟩) r (Pw hcb h)
 rotate_right
 .unfold okCm at M;split at M
  .rename_i f x ys d A B;have put:∀e:EV,e.jZ=W->∀env':AA,(∀c,env'.je c=O.je c)->JD D (env'.put r.dst e):=λe he env' κ c hc=>by
    rw [B];show AA.je c ((d,e)::env')=X;rw[AA.ja,κ,a c hc];simp[EV.kx,he]
   have C:(r.op.wp S O r.dst λe env'=>K (env'.put r.dst e))->r.op.wp S O r.dst λe env'=>K (env'.put r.dst e)/\JD D (env'.put r.dst e):=λo=>by
    rw [A]at o|-;exact AB.jr S O _ (λe env' he=>⟨he.1,put e he.2.1 env' he.2.2⟩) _ (Wv o)
   unfold PR.wp at h|-;split
   next R=>rw[R]at h;exact C h
   .rename_i g b R;rw[R]at h;simp only at h;split
    next q l=>rw[l]at h;exact⟨λw=>C (h.1 w),λw=>⟨h.2 w,put .sk rfl O λ_=>rfl⟩⟩
    next G=>rw[G]at h;exact⟨h,put .sk rfl O λ_=>rfl⟩
    .rename_i H I;split at h
     next q l=>exact absurd l (H q)
     next l=>exact absurd l I
     .exact h.elim
  .cases M
 rotate_right
 .exact PR.jr _ _ (λenv' he=>⟨he.1,λx u=>by rw[he.2];exact a x u⟩) r (W5 hca h)
 rotate_left 4
 .obtain⟨jq,k1,k2,k3⟩:=Sl Z h;exact k3 _ ⟨k1,λx u=>by rw[k2];exact a x u⟩
 rotate_left 1
 .have k:=hd F;have C:(r.op.wp S O r.dst λe env'=>K (env'.put r.dst e))->r.op.wp S O r.dst λe env'=>K (env'.put r.dst e)/\JD D (env'.put r.dst e):=by
   intro o;rw[k]at o|-;generalize r.op=p at F o|-;cases p<;>simp[Hj]at F<;>first|cases F|skip
   .refine AB.jr S O W (λe env' he=>⟨he.1,λd hd=>?_⟩) _ (dQ o);simp[AA.put];rw[he.2.2];exact a d hd
   .refine AB.jr S O W (λe env' he=>⟨he.1,λd hd=>?_⟩) _ (aO o);simp[AA.put];rw[he.2.2];exact a d hd
   .refine AB.jr S O W (λe env' he=>⟨he.1,λd hd=>?_⟩) _ (aR o);simp[AA.put];rw[he.2.2];exact a d hd
   .refine AB.jr S O W (λe env' he=>⟨he.1,λd hd=>?_⟩) _ (aQ o);simp[AA.put];rw[he.2.2];exact a d hd
   .refine AB.jr S O W (λe env' he=>⟨he.1,λd hd=>?_⟩) _ (aL o);simp[AA.put];rw[he.2.2];exact a d hd
   .refine AB.jr S O W (λe env' he=>⟨he.1,λd hd=>?_⟩) _ (aN o);simp[AA.put];rw[he.2.2];exact a d hd
   .refine AB.jr S O W (λe env' he=>⟨he.1,λd hd=>?_⟩) _ (aP o);simp[AA.put];rw[he.2.2];exact a d hd
   .refine AB.jr S O W (λe env' he=>⟨he.1,λd hd=>?_⟩) _ (aM o);simp[AA.put];rw[he.2.2];exact a d hd
  unfold PR.wp at h|-;split
  .grind
  .rename_i g b hr;rw[hr]at h;simp only at h;split
   next q l=>rw[l]at h;exact⟨λw=>C (h.1 w),λw=>⟨h.2 w,by rw[k];exact a⟩⟩
   next G=>rw[G]at h;exact⟨h,by rw[k];exact a⟩
   .rename_i H I;split at h
    next q l=>exact absurd l (H q)
    next l=>exact absurd l I
    .exact h.elim
 .unfold l3 at L;split at L
  next gs d A B J=>obtain⟨ts,ε,ζ,δ⟩:=Po A B J h;refine Mb A B J ε ζ ⟨δ,λx u=>?_⟩;rw[AA.ja,Gg,a x u];rfl
  .cases L
 .unfold okQ at l;split at l
  next s d A B J=>obtain⟨n,es,ε,h2,ζ,δ⟩:=Ty A B J h;refine Tz A B J ε h2 ζ ⟨δ,λx u=>?_⟩;have:=a x u;simp[AA.ja,EV.kx,EV.jZ,this]
  .rename_i n s z x d A B J;simp[PR.wp,A,B,J,AB.wp,AA.put]at h|-;split at h
   next d' m es kk j θ hs u=>simp at θ;subst θ;refine⟨h.1,h.2.1,h.2.2.1,h.2.2.2,λy hy=>?_⟩;have:=a y hy;simp[AA.ja,EV.kx,EV.jZ,this]
   .exact h.elim
  .cases l
 .obtain⟨d,hd⟩:=oa.1 k;have η:r.op.jY=X->r.guard=W:=λκ=>by
   rcases R with h|h
   .rw[κ]at h;cases h
   .simpa using h
  refine PR.jr S O (λenv' he=>?_) r (JR hd hm η h);obtain⟨ε,e,f,hF⟩:=he;exact⟨ε,hF.jd w a⟩
theorem Wl{S:FuncId->Fq->AZ->Prop}{a:Act}{w:World}:∀{O:AA},M0 rs=X->CG S K rs O->BF F0 w0 O a w->∃env',K env'/\BF F0 w0 env' a w:=by
 induction rs with
 |nil=>intro O _ h b;obtain⟨e,g,j⟩:=h;exact⟨e,j,b.congr λn=>(g.1 n).symm⟩
 |cons r rs A=>
  intro O c h b;simp[M0]at c;obtain⟨g,j⟩:=c;obtain⟨e',k,h⟩:=h;have b:=b.congr (λn=>(k.1 n).symm);split at g
  .rename_i s l o u;simp[PR.wp,l,o,u,AB.wp]at h;split at h
   next cs z=>obtain⟨G,b⟩:=b;exact A j h (b.nk z)
   .exact h.elim
  .cases g
theorem M1:∀(os:List Oper)(rs:List PR),G0 P N ops os rs=X->(∀i o,os[i]?=Y o->GN P N ops o (H5 rs i)=X)/\M0 (rs.drop os.length)=X/\rs=(nW os.length).map (H5 rs)++rs.drop os.length
 |[],rs,h=>⟨λi o h=>by simp at h,h,V⟩|o::os,[],h=>by simp[G0]at h|o::os,r::rs,h=>by
  simp [G0]at h;obtain⟨b,c,g⟩:=M1 os rs h.2;refine⟨λi a hi=>?_,by simpa using c,?_⟩
  .cases i with
   |zero=>simp[List.getElem?_cons_zero]at hi;subst hi;exact h.1|succ i=>simp[List.getElem?_cons_succ]at hi;exact b i a hi
  .rw[ci,List.range_succ_eq_map,l!,List.map_map,l?,List.drop_succ_cons];congr 1
theorem VO{Q:Exit->Act->World->Prop}(hok:Of P N D ops rs=X)(hpd:∀i v,p=Y (i,v)->∀r∈rs,r.dst≠Y i)(hQ:∀O a w,K O->GH N p a->BF F0 w0 O a w->Q .normal a w):
  ∀(fuel:Nat)(rem:Ne)(b:Array Bool)(O:AA)(a:Act)(w:World),rem.length=fuel->rem.Pairwise (·<·)->(∀j,j∈rem↔j<ops.size/\b.getD j X=T)->b.size=ops.size ->
   (∀k o,ops[k]?=Y o->b.getD k T=X->∀e∈o.after,Region.binds .any e=X->b.getD e.on T=X) ->
   GH N p a->BF F0 w0 O a w->JD D O->CG (AO P) K (rem.map (H5 rs)++rs.drop ops.size) O->wpAny P .any ops Q fuel b a w:=by
 simp only[Of,jP,nT,nY]at hok;obtain⟨⟨⟨⟨hl,hs⟩,he⟩,hM⟩,hP⟩:=hok;obtain⟨H,hl2,hl3⟩:=M1 ops.toList rs hl;simp[Array.getElem?_toList]at H hl2 hl3;intro fuel
 induction fuel with
 |zero=>
  intro rem b O a w z η c hsz ζ hN hI κ h;have:rem=[]:=List.eq_nil_of_length_eq_zero z;subst this;refine⟨?_,?_⟩
  .refine List.eq_nil_iff_forall_not_mem.2 λj L=>?_;rw[mem_ready]at L;obtain⟨J,o,ho,_⟩:=L;have:=(c j).2 ⟨(oc.1 ho).1,J⟩;cases this
  .obtain⟨env',J,u⟩:=Wl hl2 h hI;exact hQ env' a w J hN u
 |succ fuel ih=>
  intro rem b O a w z η c hsz ζ hN hI κ h;refine⟨λhnil=>?_,λi hi=>?_⟩
  ·
   exfalso;cases rem with
   |nil=>simp at z|cons i rem=>
    have J:=(c i).1 V;have l:i∈Region.ready .any ops b:=by
     rw [mem_ready];have ho:ops[i]?=Y ops[i]:=od J.1;refine⟨J.2,_,ho,λe B R=>?_⟩;have:=he i J.1;rw[ho]at this;simp only[nT,n9,n_,kY]at this;have hlt:=(this e k?).resolve_left (by simp[R]);cases G:b.getD e.on T with
     |true=>rfl|false=>
      have δ:e.on∈i::rem:=by
       refine (c _).2 ⟨U,?_⟩;have:e.on<b.size:=U
       simp [oe,od this]at G|-;exact G
      rcases nZ.1 δ with u|u
      .omega
      .have:=(n7.1 η).1 _ u;omega
    rw [hnil]at l;cases l
  .have hi':=hi;rw[mem_ready]at hi';obtain⟨hi1,o,ho,hi2⟩:=hi';have l:i<ops.size:=(oc.1 ho).1;have hir:i∈rem:=(c i).2 ⟨l,hi1⟩;obtain⟨I,A,rfl⟩:=List.append_of_mem hir;have g:=n8.1 η;have θ:∀j∈I,j<i:=λj κ=>g.2.2 j κ i V;have hpost:∀j∈A,i<j:=λj κ=>(n7.1 g.2.1).1 j κ;have M:∀(k:Nat),k<ops.size->(∀o,ops[k]?=Y o->∀e∈o.after,Region.binds .any e=X->b.getD e.on T=X)->∀j,j<ops.size->((YL ops).getD k 0).testBit j=X->b.getD j T=X:=by
    intro k
    induction k using Nat.strongRecOn with
    |_ k ihk=>
     intro hk hdir j F R;have:=hM k hk j F;rw[R]at this;simp only[n?,Bool.false_or]at this;split at this
     .rename_i ok hok';simp only[List.any_eq_true,jP,n9,beq_iff_eq,kY]at this;obtain⟨e,B,hbe,h3⟩:=this;have G:=hdir ok hok' e k? hbe;rcases h3 with h3|⟨h3,h4⟩
      .rw[<-h3];exact G
      .exact ihk e.on h3 U (λε C e' he' hb'=>ζ e.on ε C G e' he' hb') j F h4
     .cases this
   have hwp:CG (AO P) K (H5 rs i::(I.map (H5 rs)++(A.map (H5 rs)++rs.drop ops.size))) O:=by
    refine VM (ops:=ops) (F0:=F0) (w0:=w0) (N:=N) (oq:=o) (H i o ho) (I.map (H5 rs)) (λp hp=>?_) ⟨a,w,hN.size,hI⟩ κ f?;obtain⟨j,hj1,rfl⟩:=List.mem_map.1 hp;have hlt:=θ j hj1;have F:j<ops.size:=U
    refine ⟨?_,ops[j],H j _ (od F)⟩;have:=hP i l j hlt;rw[n9]at this;refine this.resolve_left λR=>?_;have J:=M i l (λε C=>by rw[ho]at C;simp at C;subst C;exact hi2) j F R;have u:=((c j).1 (by simp[hj1])).2;have:j<b.size:=U
    simp [oe,od this]at J u;rw[J]at u;cases u
   obtain ⟨e',heq,hw⟩:=hwp;have hI':=hI.congr (λn=>(heq.1 n).symm);have L:=κ.congr heq.symm;have hstd:Hj (H5 rs i).op=X->(H5 rs i).dst=W:=by
    intro hst;have:=H i o ho;simp[GN]at this;have u:=this.2;split at u
    .simp only[hst,n?,Bool.and_false,Bool.false_and]at u;cases u
    .assumption
    .cases u
   have hw':=Yy (hs i l) hstd L hw;have hmem':∀j,j∈I++A↔j<ops.size/\(b.setIfInBounds i X).getD j X=T:=by
    intro j;by_cases hij:j=i
    .subst hij;constructor
     .intro δ;rcases nR.1 δ with δ|δ
      .have:=θ _ δ;omega
      .have:=hpost _ δ;omega
     .rintro⟨_,u⟩;have:j<b.size:=U
      simp [this]at u
    .rw[getD_set_ne X (λe=>hij e.symm),<-c j];simp[hij]
   have hcl':∀k ε,ops[k]?=Y ε->(b.setIfInBounds i X).getD k T=X->∀e∈ε.after,Region.binds .any e=X->(b.setIfInBounds i X).getD e.on T=X:=by
    intro k ε hk hlk e B R;refine getD_set_true ?_;by_cases hki:k=i
    .subst hki;rw[ho]at hk;simp at hk;subst hk;exact hi2 e B R
    .rw[getD_set_ne T (λe=>hki e.symm)]at hlk;exact ζ k ε hk hlk e B R
   have hpdi:∀j v,p=Y (j,v)->(H5 rs i).dst≠Y j:=by
    intro j v hp;unfold H5;cases hr:rs[i]? with
    |none=>simp|some r=>exact hpd j v hp r (List.mem_of_getElem? hr)
   have:=Py (Q:=Q) (next:=wpAny P .any ops Q fuel (b.setIfInBounds i X)) hI' hN hpdi (H i o ho) hw' λenv' a' w' k1 k2 k3=>
    ih (I++A) _ env' a' w' (by simp at z|-;omega) (n8.2 ⟨g.1,(n7.1 g.2.1).2,λx hx y hy=>g.2.2 x hx y (by simp[hy])⟩) hmem' (by simpa using hsz) hcl' k2 k3 k1.2 (by simpa using k1.1)
   unfold Go.wpOp;rw[ho];simp;split
   next Z=>rw[ae Z]at this;exact .inl this
   next Z=>rw[az Z]at this;exact this
theorem RF:∀(ds:Ne)(O:AA),L9 O ds=X->JD ds O
 |[],O,_=>λd hd=>by simp at hd|d::ds,O,h=>by
  simp [L9]at h;intro x a;rcases nZ.1 a with rfl|a
  .exact h.1
  .exact RF ds O h.2 x a
theorem Gd(M:P.follows .mixedOrders=X):GG P N (Of P N):=by
 intro F0 w0 p id ds ops rs g O a w K Q A C Z c hd h hQ;refine wp_region_any M ?_;have l:=A;simp[Of]at l;obtain⟨_,_,I⟩:=M1 ops.toList rs l.1.1.1.1;simp at I;have H:BF F0 w0 O a {w with drawn:=w.drawn+1}:=by
  obtain ⟨G,c⟩:=c;refine⟨G,c.jp,c.lt,⟨c.below.os,c.below.tape,c.below.output,c.below.size,c.below.block,c.below.cell,c.below.free,c.below.tab⟩,c.defers,c.dom,λs R=>?_,c.wf⟩;exact AH.kept (w:=w) (w':={w with drawn:=w.drawn+1}) (F:=AP w0.heap.size F0 G) (G:=G) (O:=O) (a:=a) (λb o u θ ε=>⟨θ,ε⟩) (λ_=>rfl) (λ_ _ _ _=>rfl) rfl (λ_ _ _ _ _=>rfl) (λr i k J κ=>⟨κ,λv hv=>by cases k<;>exact hv⟩) (λr off J z=>⟨z,rfl⟩) (λr i J z=>⟨z,λ_ hv=>hv⟩) (c.slots s R)
 refine VO (K:=λe=>K (e.jj g)) (F0:=F0) (w0:=w0) A C (λO a w η ζ δ=>hQ _ a w η ζ (δ.jj g)) ops.size (nW ops.size) _ O a _ V List.pairwise_lt_range (λj=>?_) V (λk o hk B=>?_) Z H (RF ds O hd) ?_
 .rw[nY];constructor
  .intro L;exact⟨L,by simp[oe,og,L]⟩
  .exact λh=>h.1
 .simp[oe,og]at B;split at B<;>simp at B
 grind [WJ]
end
end Go.Sf
