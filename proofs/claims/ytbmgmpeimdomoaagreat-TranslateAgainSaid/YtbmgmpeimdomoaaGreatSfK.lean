/- Operations that take a list of one's own, in drawn regions. -/
import Derived.Test.YtbmgmpeimdomoaaGreatSfSwap
set_option linter.all false
open Option renaming some->Y,none->W
open Bool renaming true->X,false->T
open List renaming map_cons->w_,cons_append->w!,mem_filterMap->w?,mem_flatMap->x_,mem_singleton->x!,flatMap_cons->x?,mem_append->y_,contains_eq_mem->y!,all_eq_true->y?,getElem?_set_ne->z_,getElem?_eq_some_iff->z!,range->z?,getElem?_set->A_,mem_range->A',mem_cons->A!,pairwise_cons->A?,pairwise_append->B_
open Bool renaming or_eq_true->B',not_eq_true'->B!,and_true->B?,not_true->C_
open Option renaming isSome_iff_exists->C',toList_some->C!
open Array renaming getElem?_eq_some_iff->C?,getElem?_eq_getElem->D_,getD_eq_getD_getElem?->D',getElem?_replicate->D!
namespace Go.Sf
def AE.tkn:AE->Option I2
 |.Abd _=>Y []|.Abg _=>Y []|.tkx s=>Y [s]|.Aa5 _ s _=>Y [s]|.Abo q=>Y [q]|.x8 gs=>Y (gs.filterMap GC.slot)|_=>W
def AE.isB:AE->Bool
 |.x8 _=>X|_=>T
def PH(u:Nat->EV)(qs:I2)(ε:AB):AB:=qs.map (λq=>(q,u q))++ε
theorem Pk(u:Nat->EV)(qs:I2)(ε:AB)(n:Nat):AB.get (PH u qs ε) n=if n∈qs then u n else ε.get n:=by
 induction qs with
 |nil=>rfl|cons q qs a=>
  grind [PH,AB.bq]
theorem Hb{u:Nat->EV}(b:∀q,(u q).pc=W)(qs:I2)(ε:AB)(c:Nat):AB.eo c (PH u qs ε)=AB.eo c ε:=by
 induction qs with
 |nil=>rfl|cons q qs a=>
  simp only[PH,w_,w!,AB.d3]at a|-;rw[a,EV.x9,b];rfl
theorem Xp(e0:AB):∀(qs:I2)(ε:AB),Od e0 qs ε=PH (λn=>(e0.get n).gave) qs ε
 |[],_=>rfl|q::qs,ε=>by
  simp only[Od,Xp e0 qs ε,PH,w_,w!]
theorem pO(e:EV):e.gave.pc=W:=by cases e<;>rfl
theorem di{gs:List GC}{q:Nat}(h:q∈gs.filterMap GC.slot):q∈gs.flatMap GC.sl:=by
 rw [w?]at h;obtain⟨g,a,e⟩:=h;rw[x_];refine⟨g,a,?_⟩;cases g<;>simp[GC.slot]at e<;>simp[GC.sl,e]
structure jk(S:FuncId->Fq->As->Prop)(op:AE)(u:Nat->EV)(qs:I2)(d:Nat)(ε:AB)(e:EV):Prop where
 dno:ε.eo d=X
 Abu:e.pc=W
 Abk:∀q,(u q).pc=W
 slbx:∀n∈op.slots,∀cs,ε.get n≠.bx cs
 sub:∀n∈qs,n∈op.slots
 again:∀env2,(∀n∈op.slots,env2.get n=ε.get n)->env2.eo d=X->∀K2:EV->AB->Prop,K2 e (PH u qs env2)->op.wp S env2 (Y d) K2
variable{y:AF}
theorem yA{ε env2:AB}(h:∀n∈y.sl,env2.get n=ε.get n):y.val env2=y.val ε:=by
 cases y with
 |c t=>rfl|s n=>simp only[AF.val,AF.ev,h n c?]
variable{ε:AB}{t:TV}
theorem xz(h:y.val ε=Y t):∀n∈y.sl,∀cs,ε.get n≠.bx cs:=by
 intro n a cs b;cases y with
 |c t=>simp[AF.sl]at a|s m=>
  grind [AF.sl,x!,AF.val,AF.ev,EV.val]
theorem pQ{ε env2:AB}{g:GC}(h:∀n∈g.sl,env2.get n=ε.get n):g.cell env2=g.cell ε:=by
 cases g with
 |z c=>rfl|v x k n=>
  cases x with
  |c t=>rfl|s m=>simp only[GC.cell,AF.val,AF.ev,h m (by simp[GC.sl])]
 |w q=>simp only[GC.cell,h q (by simp[GC.sl])]|g q k n=>simp only[GC.cell,h q (by simp[GC.sl])]
theorem af{ε env2:AB}:∀{gs:List GC},(∀n∈gs.flatMap GC.sl,env2.get n=ε.get n)->GK env2 gs=GK ε gs
 |[],_=>rfl|g::gs,h=>by
  rw [x?]at h;simp only[GK,pQ (g:=g) λn a=>h n (DA a),af (gs:=gs) λn a=>h n (Dl a)]
theorem ac:∀{gs:List GC}{cs:List AO},GK ε gs=Y cs->∀n∈gs.flatMap GC.sl,∀ds,ε.get n≠.bx ds
 |[],_,_,n,a,_=>by simp at a|g::gs,cs,h,n,a,ds=>by
  simp only[GK]at h;split at h
  .rename_i c cs' b j;rw[x?,y_]at a;rcases a with a|a
   .intro l;cases g with
    |z c=>simp[GC.sl]at a|v x k m=>
     cases x with
     |c t=>simp[GC.sl]at a|s q=>simp[GC.sl]at a;subst a;simp[GC.cell,AF.val,AF.ev,l,EV.val]at b
    |w q=>simp[GC.sl]at a;subst a;simp[GC.cell,l]at b|g q k m=>simp[GC.sl]at a;subst a;simp[GC.cell,l]at b
   .exact ac j n a ds
  .cases h
variable{qs:I2}{d:Nat}
theorem take{S:FuncId->Fq->As->Prop}{op:AE}{K:EV->AB->Prop}(j:op.tkn=Y qs)(F:op.isB=X->ε.eo d=X)(h:op.wp S ε (Y d) K):∃e u,jk S op u qs d ε e/\K e (PH u qs ε):=by
 cases op<;>simp only[AE.tkn,reduceCtorEq,mE]at j
 case Abg n=>
  subst j;simp only[AE.wp]at h;exact⟨_,λ_=>.undef,⟨h.1,rfl,λ_=>rfl,f_,V,λenv2 _ a k b=>⟨a,b⟩⟩,h.2⟩
 case Abd n=>
  subst j;simp only[AE.wp]at h;exact⟨_,λ_=>.undef,⟨h.1,rfl,λ_=>rfl,f_,V,λenv2 _ a k b=>⟨a,b⟩⟩,h.2⟩
 case tkx s=>
  subst j;simp only[AE.wp]at h;split at h
  .rename_i C n es hd l;simp only[mE]at hd;subst hd;refine⟨.xo n es,λ_=>.undef,⟨h.1,rfl,λ_=>rfl,λm G cs A=>?_,f_,λenv2 g a k b=>?_⟩,h.2.2⟩
   .grind[AE.slots,x!]
   .have:=g s f_;simp only[AE.wp,this,l];exact⟨a,h.2.1,b⟩
  .exact h.elim
 case Abo q=>
  subst j;simp only[AE.wp]at h;split at h
  .rename_i C n z hd l;simp only[mE]at hd;subst hd;refine⟨.x1 n z,λ_=>.undef,⟨h.1.1,rfl,λ_=>rfl,λm G cs A=>?_,f_,λenv2 g a k b=>?_⟩,h.2⟩
   .grind[AE.slots,x!]
   .have:=g q f_;simp only[AE.wp,this,l];exact⟨⟨a,h.1.2⟩,b⟩
  .exact h.elim
 case Aa5 n s y=>
  subst j;simp only[AE.wp]at h;split at h
  .rename_i C m es m' z hd l H;simp only[mE]at hd;subst hd;obtain⟨L,M,O,Q,R,θ⟩:=h;refine⟨.xo n (es++z),λ_=>.undef,⟨Q,rfl,λ_=>rfl,λx B cs A=>?_,f_,λenv2 g a k b=>?_⟩,θ⟩
   .grind[AE.slots,xz]
   .have I:=g s f_;have J:=yA (ε:=ε) (env2:=env2) (y:=y) (λx B=>g x (by simp[AE.slots,B]));simp only[AE.wp,I,l,J,H];exact⟨L,M,O,a,R,b⟩
  .exact h.elim
 case x8 gs=>
  subst j;simp only[AE.wp]at h;obtain⟨g,o⟩:=h;cases c:GK ε gs with
  |none=>rw[c]at o;exact o.elim|some cs=>
   rw [c]at o;refine⟨.oag cs,λn=>(ε.get n).gave,⟨F rfl,rfl,λ_=>pO _,ac c,λn w=>di w,λenv2 a _ k b=>?_⟩,by rw[<-Xp];exact o⟩;simp only[AE.wp,af a,c];refine⟨g,?_⟩;have:Od env2 (gs.filterMap GC.slot) env2=PH (λn=>(ε.get n).gave) (gs.filterMap GC.slot) env2:=by
    rw [Xp];unfold PH;congr 1;exact List.map_congr_left λn w=>by simp only[a n (di w)]
   simp only[Aj,this];exact b
def PR.tk(r:PR):Option (I2×Nat):=
 match r.op.tkn,r.guard,r.dst with
 |some qs,W,Y d=>Y (qs,d)|_,_,_=>W
variable{r:PR}
theorem PR.tk_some(h:r.tk=Y (qs,d)):r.op.tkn=Y qs/\r.guard=W/\r.dst=Y d:=by
 unfold PR.tk at h
 grind
theorem ZT{S:FuncId->Fq->As->Prop}{K:AB->Prop}(g:r.tk=Y (qs,d))(j:r.op.isB=X->ε.eo d=X)(h:r.wp S ε K):∃e u,jk S r.op u qs d ε e/\K ((d,e)::PH u qs ε)/\
  ∀env2,(∀n∈r.op.slots,env2.get n=ε.get n)->env2.eo d=X->∀a:AB->Prop,a ((d,e)::PH u qs env2)->r.wp S env2 a:=by
 obtain ⟨w,z,A⟩:=PR.tk_some g;have o:r.op.wp S ε (Y d) λe env'=>K ((d,e)::env'):=by
  grind [PR.wp,AB.put]
 obtain ⟨e,u,c,B⟩:=take w j o;refine⟨e,u,c,B,λenv2 k l a b=>?_⟩;unfold PR.wp;rw[z];simp only[A,AB.put];exact c.again env2 k l (λe env'=>a ((d,e)::env')) b
def Aai(D:I2)(p q:PR):Bool:=
 match q.tk with
 |some (qs,d)=>PR.x4 D p&&D.contains d&&qs.all D.contains&&Fa p.dst.toList (d::q.op.slots)&&Fa (d::qs) (p.op.slots++p.gsl)&&Fa p.op.dem q.op.slots|none=>T
def AaW(D:I2)(p q:PR):Bool:=
 match p.tk,q.tk with
 |some (_,dp),Y (_,dq)=>((!p.op.isB||D.contains dp)&&(!q.op.isB||D.contains dq))&&Fa (dp::p.op.slots) (dq::q.op.slots)|_,_=>T
section
variable{P:Program}{F0:Nat->Nat->Prop}{w0:W0}{N:Nat}{ops:Array Oper}{K:AB->Prop}{D:I2}
variable{r:PR}{d:Nat}{ε gt:AB}{e:EV}{f:A8}
theorem QA.away{S:FuncId->Fq->As->Prop}(h:QA S r d ε gt e f){x:Nat}(a:x∉r.op.slots)(b:∀y,(ε.get y).pc≠Y x)(u:EV):f.on x u=u:=by
 have c:=h.slot;have g:=h.cell;cases f with
 |none=>rfl|slot s t=>
  grind [A8.on,Cm]
 |cell s off t=>
  simp only[A8.on]
  grind
theorem QA.stay{S:FuncId->Fq->As->Prop}(h:QA S r d ε gt e f){x:Nat}(a:x∉r.op.dem)(b:∀cs,ε.get x≠.bx cs):f.on x (ε.get x)=ε.get x:=by
 have c:=h.slot;have g:=h.ok;cases f with
 |none=>rfl|slot s t=>
  grind [A8.on]
 |cell s off t=>
  simp only[A8.on]
  grind
theorem XO(h:PR.x4 D r=X):∃d,r.dst=Y d/\r.op.mov=X/\(r.op.og=X->r.guard=W)/\Fa r.op.AaY D=X/\(r.op.og=X\/d∈D):=by
 simp only[PR.x4,gR,B',B!]at h;obtain⟨⟨⟨⟨b,c⟩,g⟩,j⟩,k⟩:=h;obtain⟨d,hd⟩:=C'.1 c;refine⟨d,hd,b,λa=>?_,j,?_⟩
 .rcases g with h|h
  .rw[a]at h;cases h
  .simpa using h
 grind [PR.old]
variable{rs:List PR}
theorem xj(hR:Lr F0 w0 N ε)(hj:JD D ε){op:Oper}{p q:PR}(hp:L8 P N ops op p=X)(a:Aai D p q=X)(h:Eb (AT P) K (p::q::rs) ε):Eb (AT P) K (q::p::rs) ε:=by
 unfold Aai at a;split at a
 .rename_i qs d ht;simp only[gR,y!,o4,y?]at a;obtain⟨⟨⟨⟨⟨hm,η⟩,sD⟩,ζ⟩,δ⟩,c3⟩:=a;obtain⟨A,R,pm,pg',pb,_⟩:=XO hm;rw[R]at ζ;simp only[C!]at ζ;have hpd:A≠d:=λe=>Aw ζ (x:=A) V d!;have O:A∉q.op.slots:=λe=>Aw ζ (x:=A) V d!;have l:d∉p.op.slots:=λe=>Aw δ (x:=d) V (DA e);have dng:d∉p.gsl:=λe=>Aw δ (x:=d) V (Dl e);have o:∀s∈qs,s∉p.op.slots:=λs Z e=>Aw δ (x:=s) (by simp[Z]) (DA e);have sng:∀s∈qs,s∉p.gsl:=λs Z e=>Aw δ (x:=s) (by simp[Z]) (Dl e);obtain⟨e',C,h⟩:=h;have hR':=hR.congr C.symm;have j:=hj.congr C.symm;obtain⟨gt,⟨⟨e1,b,hw⟩,ep,J,w⟩,hR1⟩:=FC hR' hp (QF R pm pg' h);have g1:∀n,e1.get n=if A=n then ep else J.on n (e'.get n):=λn=>by
   rw [b.1,w.gt,AB.bq,A8.get]
  have Q:∀x,x∈D->x∉p.op.slots->∀e,J.on x e=e:=λx hxD hxn e=>w.away hxn (λy hy=>j.no hy hxD) e;have hj1:JD D e1:=(w.jd pb j).congr b.symm;obtain⟨e,u,F,hK,θ⟩:=ZT ht (λ_=>hj1 d η) hw;have B:∀n∈q.op.slots,e'.get n=e1.get n:=by
   intro n κ;have hne:A≠n:=λe=>O (e▸κ);have hb:=F.slbx n κ;rw[g1,QQ hne]at hb|-;refine(w.stay (λhd=>Aw c3 hd κ) (λcs hc=>?_)).symm;refine hb (match J.on n (.bx cs)with|.bx cs'=>cs'|_=>cs) ?_;rw[hc];cases J with
   |none=>rfl|slot s t=>
    have:=w.ok;simp only[A8.on];split
    next e=>subst e;simp only[A8.ok]at this;rw[hc]at this;cases this
    .rfl
   |cell s off t=>
    simp only[A8.on];split<;>rfl
  have hdn:e'.eo d=X:=by
   have:=F.dno;rw[b.2,w.gt,AB.d3,A8.eo,gR]at this;exact this.2
  refine ⟨e',C,θ e' B hdn _ ⟨_,.refl _,?_⟩⟩;have H:∀m,m≠d->m∉qs->AB.get ((d,e)::PH u qs e') m=e'.get m:=λm z k=>by
   rw [AB.bq,QQ (λe=>z e.symm),Pk,QQ k]
  have nr:∀c,AB.eo c ((d,e)::PH u qs e')=AB.eo c e':=λc=>by
   rw [AB.d3,Hb F.Abk,EV.x9,F.Abu];rfl
  have L:Ew p.op J (Y A) e' ((d,e)::PH u qs e'):=by
   refine ⟨λx G=>.inl (H x (λe=>l (e▸G)) (λe=>o x e G)),λx G r hr=>.inl (H r (λe=>j.no hr (e▸η)) (λe=>j.no hr (sD r e))),λx G _=>H x (λe=>l (e▸Cm G)) (λe=>o x e (Cm G)),?_,λκ d' hd' hno=>by rw[nr];exact hno⟩;have z:=w.slot;have k:=w.ok;have h4:=w.cell;cases J with
   |none=>trivial|slot x t=>
    simp only[A8.ok]at k|-;rw[H x (λe=>l (e▸Cm (z _ _ rfl))) (λe=>o x e (Cm (z _ _ rfl)))];exact k
   |cell x off t=>
    obtain ⟨ds,h5,h6⟩:=k;refine⟨ds,?_,h6⟩;rw[H x (λe=>?_) (λe=>?_)]
    .exact h5
    .rcases h4 _ _ _ rfl with h7|⟨y,_,h8⟩
     .exact l (e▸h7)
     .exact j.no h8 (e▸η)
    .rcases h4 _ _ _ rfl with h7|⟨y,_,h8⟩
     .exact o x e h7
     .exact j.no h8 (sD x e)
  have hgp:∀g∈p.gsl,AB.get ((d,e)::PH u qs e') g=e'.get g:=λg M=>H g (λe=>dng (e▸M)) (λe=>sng g e M);refine w.again _ L hgp _ (Gt hK ?_);refine⟨λm=>?_,λc=>?_⟩
  .simp only[AB.bq,A8.get,g1,Pk];by_cases z:d=m
   .subst z;rw[Ne rfl,QQ hpd,Q d η l,Ne rfl]
   .rw[QQ z];by_cases I:A=m
    .have:m∉qs:=λhm=>O (I▸F.sub m hm);rw[QQ this,Ne I,Ne I]
    .rw[QQ I];by_cases k:m∈qs
     .rw[Ne k,QQ I,Q m (sD m k) (o m k),QQ z,Ne k]
     .rw[QQ k,QQ I,QQ z,QQ k]
  .simp only[AB.d3,A8.eo,b.2,w.gt,Hb F.Abk,EV.x9,F.Abu];cases(match ep.pc with|some s=>c !=s|none=>X)<;>rfl
 .cases a
theorem xi(hR:Lr F0 w0 N ε)(hj:JD D ε){op oq:Oper}{p q:PR}(hp:L8 P N ops op p=X)(hq:L8 P N ops oq q=X)(a:Aai D q p=X)(h:Eb (AT P) K (p::q::rs) ε):Eb (AT P) K (q::p::rs) ε:=by
 unfold Aai at a;split at a
 .rename_i A d ht;simp only[gR,y!,o4,y?]at a;obtain⟨⟨⟨⟨⟨hm,O⟩,sD⟩,c1⟩,c2⟩,c3⟩:=a;obtain⟨H,η,qm,qg',qb,qold⟩:=XO hm;rw[η]at c1;simp only[C!]at c1;have hqd:H≠d:=λe=>Aw c1 (x:=H) V d!;have R:H∉p.op.slots:=λe=>Aw c1 (x:=H) V d!;have o:d∉q.op.slots:=λe=>Aw c2 (x:=d) V (DA e);have dng:d∉q.gsl:=λe=>Aw c2 (x:=d) V (Dl e);have w:∀s∈A,s∉q.op.slots:=λs hs e=>Aw c2 (x:=s) (by simp[hs]) (DA e);have sng:∀s∈A,s∉q.gsl:=λs hs e=>Aw c2 (x:=s) (by simp[hs]) (Dl e);obtain⟨e',I,h⟩:=h;have hR':=hR.congr I.symm;have θ:=hj.congr I.symm;obtain⟨gt,⟨⟨G,b,hw⟩,Z,u,C,J,ζ⟩,hR1⟩:=FC (K:=λgt=>(∃G,N5 G gt/\q.wp (AT P) G (Eb (AT P) K rs))/\∃Z u,jk (AT P) p.op u A d e' Z/\gt=(d,Z)::PH u A e'/\∀env2,(∀n∈p.op.slots,env2.get n=e'.get n)->env2.eo d=X->∀K2:AB->Prop,K2 ((d,Z)::PH u A env2)->p.wp (AT P) env2 K2) hR' hp (by
   obtain ⟨e,u,k1,k2,k3⟩:=ZT ht (λ_=>θ d O) h;exact k3 e' (λ_ _=>rfl) k1.dno _ ⟨k2,e,u,k1,rfl,k3⟩)
  subst J;have k:JD D G:=by
   intro x z;rw[b.2,AB.d3,Hb C.Abk,EV.x9,C.Abu];exact θ x z
  obtain ⟨X1,⟨hK,eq,δ,F⟩,_⟩:=FC (hR1.congr b.symm) hq (QF η qm qg' hw);have M:∀n,n≠d->n∉A->G.get n=e'.get n:=λn j l=>by
   rw [b.1,AB.bq,QQ (λe=>j e.symm),Pk,QQ l]
  have κ:∀x,x∈D->x∉q.op.slots->∀e,δ.on x e=e:=λx hxD hxn e=>F.away hxn (λy hy=>k.no hy hxD) e;have L:Ew q.op δ (Y H) G e':=by
   refine ⟨λx z=>.inl (M x (λe=>o (e▸z)) (λe=>w x e z)).symm,λx z r hr=>.inl (M r (λe=>k.no hr (e▸O)) (λe=>k.no hr (sD r e))).symm,λx z _=>(M x (λe=>o (e▸Cm z)) (λe=>w x e (Cm z))).symm,?_,λhn d' hd' Q=>?_⟩
   .have j:=F.slot;have l:=F.ok;have h4:=F.cell;cases δ with
    |none=>trivial|slot x t=>
     simp only[A8.ok]at l|-;rw[<-M x (λe=>o (e▸Cm (j _ _ rfl))) (λe=>w x e (Cm (j _ _ rfl)))];exact l
    |cell x off t=>
     obtain ⟨ds,h5,h6⟩:=l;refine⟨ds,?_,h6⟩;rw[<-M x (λe=>?_) (λe=>?_)]
     .exact h5
     .rcases h4 _ _ _ rfl with h7|⟨y,_,h8⟩
      .exact o (e▸h7)
      .exact k.no h8 (e▸O)
     .rcases h4 _ _ _ rfl with h7|⟨y,_,h8⟩
      .exact w x e h7
      .exact k.no h8 (sD x e)
   .rw[b.2,AB.d3,Hb C.Abk,gR]at Q;exact Q.2
  have hgq:∀g∈q.gsl,e'.get g=G.get g:=λg hg=>(M g (λe=>dng (e▸hg)) (λe=>sng g e hg)).symm;refine⟨e',I,F.again e' L hgq _ ⟨_,.refl _,ζ _ (λn hn=>?_) ?_ _ (Gt hK ?_)⟩⟩
  .have hne:H≠n:=λe=>R (e▸hn);rw[AB.bq,QQ hne,A8.get];have hb:=C.slbx n hn;have k1:=F.slot;have k2:=L.eff;cases δ with
   |none=>rfl|slot s t=>
    simp only[A8.on];rw[QQ];intro e;subst e;exact Aw c3 (k1 _ _ rfl) hn
   |cell s off t=>
    simp only[A8.on];rw[QQ];intro e;subst e;obtain⟨cs,k3,_⟩:=k2;exact hb cs k3
  .rw[AB.d3,A8.eo,C.dno,B?];refine VH (λs he=>?_);rcases F.pc s he with j|⟨x,_,l⟩
   .exact λe=>Aw qb j (e▸O)
   .exact λe=>k.no l (e▸O)
  .rw[F.gt];have hdd:∀e,δ.on d e=e:=κ d O o;refine⟨λm=>?_,λc=>?_⟩
   .simp only[AB.bq,A8.get,Pk,b.1];by_cases j:H=m
    .have B:m∉A:=λhm=>R (j▸C.sub m hm);have h4:¬d=m:=λe=>hqd (j.trans e.symm);rw[Ne j,QQ h4,QQ B,Ne j]
    .rw[QQ j];by_cases l:d=m
     .subst l;rw[Ne rfl,Ne rfl,hdd]
     .rw[QQ l,QQ l];by_cases B:m∈A
      .rw[Ne B,Ne B,κ m (sD m B) (w m B)]
      .rw[QQ B,QQ B,QQ j]
   .simp only[AB.d3,A8.eo,b.2,Hb C.Abk,EV.x9,C.Abu];cases(match eq.pc with|some s=>c !=s|none=>X)<;>rfl
 .cases a
theorem xy{S:FuncId->Fq->As->Prop}(Q:JD D ε){p q:PR}(g:AaW D p q=X)(h:Eb S K (p::q::rs) ε):Eb S K (q::p::rs) ε:=by
 unfold AaW at g;split at g
 .rename_i J C qs L θ κ;simp only[gR,B',B!,y!,o4]at g;obtain⟨⟨bp,δ⟩,g⟩:=g;have l:∀x,x=C\/x∈p.op.slots->x≠L/\x∉q.op.slots:=λx l=>by
   grind [Aw,List.mem_cons_self,List.mem_cons_of_mem]
  obtain ⟨e',z,h⟩:=h;obtain⟨ep,u,o,⟨R,j,Z⟩,F⟩:=ZT θ (λh=>Q.congr z.symm _ (bp.resolve_left λH=>by rw[H]at h;cases h)) h;obtain⟨eq,v,k,hK,A⟩:=ZT κ (λh=>by
   have w:=Q.congr z.symm _ (δ.resolve_left λH=>by rw[H]at h;cases h);rw[j.2,AB.d3,Hb o.Abk,EV.x9,o.Abu];exact w) Z
  have η:∀n,n≠C->n∉J->R.get n=e'.get n:=λn w G=>by
   rw [j.1,AB.bq,QQ (λe=>w e.symm),Pk,QQ G]
  have M:∀n∈q.op.slots,e'.get n=R.get n:=λn B=>(η n (λe=>(l n (.inl e)).2 B) (λe=>(l n (.inr (o.sub n e))).2 B)).symm;have O:e'.eo L=X:=by
   have:=k.dno;rw[j.2,AB.d3,Hb o.Abk,gR]at this;exact this.2
  refine ⟨e',z,A e' M O _ ⟨_,.refl _,F _ (λn B=>?_) ?_ _ (Gt hK ?_)⟩⟩
  .rw[AB.bq,QQ (λe=>(l n (.inr B)).1 e.symm),Pk,QQ (λe=>(l n (.inr B)).2 (k.sub n e))]
  .rw[AB.d3,Hb k.Abk,o.dno,EV.x9,k.Abu];rfl
  .refine⟨λm=>?_,λc=>?_⟩
   .simp only[AB.bq,Pk,j.1];by_cases w:L=m
    .have G:¬C=m:=λe=>(l C (.inl rfl)).1 (e.trans w.symm);have ζ:m∉J:=λI=>(l m (.inr (o.sub m I))).1 w.symm
     grind
    .rw[QQ w];by_cases G:C=m
     .have ζ:m∉qs:=λI=>(l m (.inl G.symm)).2 (k.sub m I)
      grind
     have h4:m∈J->m∉qs:=λa b=>(l m (.inr (o.sub m a))).2 (k.sub m b)
     grind
   .simp only[AB.d3,Hb o.Abk,Hb k.Abk,j.2,EV.x9,o.Abu,k.Abu]
 .cases g
end
def AE.ptr:AE->Option Nat
 |.bad s _=>Y s|.fad (.s m) _=>Y m|_=>W
def EV.box2(e e2:EV):Prop:=e2=e\/∃cs cs',e=.bx cs/\e2=.bx cs'
variable{m:Nat}{dst:Option Nat}{ε:AB}
theorem bH{S:FuncId->Fq->As->Prop}{op:AE}{K:EV->AB->Prop}(ho:op.ptr=Y m)(h:op.wp S ε dst K):
  ∃e,K e ε/\(∀s,e.pc=Y s->(s∈op.AaY\/(ε.get m).pc=Y s))/\(∀cs,e≠.bx cs)/\∀env2,(ε.get m).box2 (env2.get m)->(∀s,(ε.get m).pc=Y s->(ε.get s).box2 (env2.get s))->∀j:EV->AB->Prop,j e env2->op.wp S env2 dst j:=by
 unfold AE.ptr at ho;split at ho
 .rename_i s k;simp only[mE]at ho;subst ho;simp only[AE.wp]at h;split at h
  .rename_i cs b;refine⟨_,h,λs' c=>.inl (by simpa[AE.AaY,EV.pc]using c.symm),V,λenv2 a _ j g=>?_⟩;have:∃cs',env2.get s=.bx cs':=by
    rcases a with a|⟨_,cs',_,a⟩
    .grind
    .exact⟨cs',a⟩
   obtain ⟨cs',l⟩:=this;simp only[AE.wp,l];exact g
  .rename_i row b;refine⟨_,h,by simp[EV.pc],V,λenv2 a _ j g=>?_⟩;rcases a with a|⟨cs,_,a,_⟩
   .simp only[AE.wp,a,b];exact g
   .rw[b]at a;cases a
  .exact h.elim
 .rename_i m' k;simp only[mE]at ho;subst ho;simp only[AE.wp,AF.ev]at h;split at h
  .rename_i row b;refine⟨_,h,by simp[EV.pc],V,λenv2 a _ j g=>?_⟩;rcases a with a|⟨cs,_,a,_⟩
   .simp only[AE.wp,AF.ev,a,b];exact g
   .rw[b]at a;cases a
  .rename_i s off b;split at h
   .rename_i cs w;refine⟨_,h,λs' c=>.inr (by rw[b];exact c),V,λenv2 a l j g=>?_⟩;have u:env2.get m'=.bp s off:=by
     rcases a with a|⟨_,_,a,_⟩
     .rw[a,b]
     grind
    have o:∃cs',env2.get s=.bx cs':=by
     rcases l s (by rw[b];rfl)with l|⟨_,cs',_,l⟩
     .grind
     .exact⟨cs',l⟩
    obtain ⟨cs',o⟩:=o;simp only[AE.wp,AF.ev,u,o];exact g
   .exact h.elim
  .exact h.elim
 .cases ho
def Y5(m q s:Nat)(cs:List AO)(off:Nat)(ε:AB):AB:=(s,.bx (cs.set off ⟨T,.undef⟩))::(m,.undef)::(q,.undef)::ε
theorem TR{S:FuncId->Fq->As->Prop}{m q d:Nat}{K:EV->AB->Prop}(h:(AE.AaH m q).wp S ε (Y d) K):
  ∃e s off cs,ε.get m=.nh s off .hd/\ε.get s=.bx cs/\(∀cs,ε.get q≠.bx cs)/\ε.eo d=X/\e.pc=W/\K e (Y5 m q s cs off ε)/\
   ∀env2,env2.get m=ε.get m->env2.get q=ε.get q->env2.get s=ε.get s->env2.eo d=X->∀c:EV->AB->Prop,c e (Y5 m q s cs off env2)->(AE.AaH m q).wp S env2 (Y d) c:=by
 simp only[AE.wp]at h;split at h
 .rename_i H s off n I b j k;simp only[mE]at b;subst b;split at h
  .rename_i cs l;cases a:ε.nat s off with
   |none=>rw[a]at h;exact h.elim|some es=>
    rw [a]at h;simp only[Aj]at h;obtain⟨B,⟨C,F⟩,G⟩:=h;refine⟨_,s,off,cs,j,l,by rw[k];simp,C,rfl,G,λenv2 o u g w c z=>?_⟩;have A:env2.nat s off=Y es:=by rw[<-a];exact AB.Aar g
    simp only[AE.wp,o,u,g,j,k,l,A,Aj];exact⟨B,⟨w,F⟩,z⟩
  .exact h.elim
 .exact h.elim
def Aah(D:I2)(p q:PR):Bool:=
 match p.op.ptr,p.guard,p.dst,q.op,q.guard,q.dst with
 |some x,W,Y dp,.AaH m qq,W,Y d=>D.contains d&&D.contains dp&&D.contains m&&D.contains qq&&Fa [dp] [d,m,qq]&&Fa [x] [d,m,qq]&&Fa p.op.AaY D&&dp !=x&&PR.x4 D p|_,_,_,_,_,_=>T
variable{off:Nat}
theorem QJ{m q s:Nat}{cs:List AO}(n:Nat):AB.get (Y5 m q s cs off ε) n=if s=n then .bx (cs.set off ⟨T,.undef⟩)else if m=n then .undef else if q=n then .undef else ε.get n:=rfl
theorem Pu{m q s:Nat}{cs:List AO}(c:Nat):AB.eo c (Y5 m q s cs off ε)=AB.eo c ε:=by
 simp [Y5,AB.d3,EV.x9,EV.pc]
section
variable{S:FuncId->Fq->As->Prop}{K:AB->Prop}{D:I2}
variable{ε:AB}{rs:List PR}
theorem xr(hj:JD D ε){p q:PR}(a:Aah D p q=X)(h:Eb S K (p::q::rs) ε):Eb S K (q::p::rs) ε:=by
 unfold Aah at a;split at a
 .rename_i x g m C d F Q R θ κ η;simp only[gR,y!,o4,bne_iff_ne,ne_eq]at a;obtain⟨⟨⟨⟨⟨⟨⟨⟨Z,dpD⟩,mD⟩,qD⟩,J⟩,L⟩,pb⟩,hdx⟩,_⟩:=a;have n1:g≠d:=λe=>Aw J (x:=g) V d!;have ζ:g≠m:=λe=>Aw J (x:=g) V d!;have n3:g≠C:=λe=>Aw J (x:=g) V d!;have n4:x≠d:=λe=>Aw L (x:=x) V d!;have n5:x≠m:=λe=>Aw L (x:=x) V d!;have n6:x≠C:=λe=>Aw L (x:=x) V d!;obtain⟨e',A,h⟩:=h;have l:=hj.congr A.symm;simp only[PR.wp,Q,R,AB.put]at h;obtain⟨e,⟨e1,b,hw⟩,hre,M,B⟩:=bH F h;simp only[PR.wp,κ,η,θ,AB.put]at hw;obtain⟨eq,s,off,cs,k1,O,k3,k4,k5,hK,k⟩:=TR hw;have o:∀n,n≠g->e1.get n=e'.get n:=λn hn=>by rw[b.1,AB.bq,QQ (λe=>hn e.symm)]
  have u:s≠g:=by
   intro hs;subst hs;rw[b.1,AB.bq,Ne rfl]at O;exact M cs O
  have G:e'.get m=.nh s off .hd:=by rw[<-o m (λe=>ζ e.symm)];exact k1
  have w:e'.get s=.bx cs:=by rw[<-o s u];exact O
  have H:s∉D:=l.no (x:=m) (by rw[G];rfl);have δ:s≠d:=λe=>H (e▸Z);have I:e'.eo d=X:=by rw[b.2,AB.d3,gR]at k4;exact k4.2
  refine ⟨e',A,?_⟩;simp only[PR.wp,κ,η,θ,AB.put];refine k e' (o m (λe=>ζ e.symm)).symm (o C (λe=>n3 e.symm)).symm (o s u).symm I _ ⟨_,.refl _,?_⟩;simp only[PR.wp,Q,R,AB.put];refine B _ ?_ (λr hr=>?_) _ (Gt hK ?_)
  .rw[AB.bq,QQ (λe=>n4 e.symm),QJ];by_cases z:s=x
   .subst z;rw[Ne rfl];exact .inr ⟨cs,_,w,rfl⟩
   .rw[QQ z,QQ (λe=>n5 e.symm),QQ (λe=>n6 e.symm)];exact .inl rfl
  .have j:r∉D:=l.no hr;rw[AB.bq,QQ (λ(e:d=r)=>j (e▸Z)),QJ];by_cases z:s=r
   .subst z;rw[Ne rfl];exact .inr ⟨cs,_,w,rfl⟩
   .rw[QQ z,QQ (λ(e:m=r)=>j (e▸mD)),QQ (λ(e:C=r)=>j (e▸qD))];exact .inl rfl
  .refine⟨λn=>?_,λc=>?_⟩
   .simp only[AB.bq,QJ,b.1]
    grind
   .simp only[AB.d3,Pu,b.2,EV.x9,k5]
    grind
 .cases a
theorem xm(Z:JD D ε){p q:PR}(a:Aah D q p=X)(h:Eb S K (p::q::rs) ε):Eb S K (q::p::rs) ε:=by
 unfold Aah at a;split at a
 .rename_i x g m B d C L M O Q R;simp only[gR,y!,o4,bne_iff_ne,ne_eq]at a;obtain⟨⟨⟨⟨⟨⟨⟨⟨κ,G⟩,mD⟩,qD⟩,H⟩,I⟩,qb⟩,hdx⟩,_⟩:=a;have n1:g≠d:=λe=>Aw H (x:=g) V d!;have n2:g≠m:=λe=>Aw H (x:=g) V d!;have n3:g≠B:=λe=>Aw H (x:=g) V d!;have n4:x≠d:=λe=>Aw I (x:=x) V d!;have n5:x≠m:=λe=>Aw I (x:=x) V d!;have n6:x≠B:=λe=>Aw I (x:=x) V d!;obtain⟨e',u,h⟩:=h;have k:=Z.congr u.symm;simp only[PR.wp,Q,R,O,AB.put]at h;obtain⟨ep,s,off,cs,k1,k2,k3,k4,η,⟨ζ,b,δ⟩,w⟩:=TR h;simp only[PR.wp,L,M,AB.put]at δ;obtain⟨e,hK,J,hnb,j⟩:=bH C δ;have l:s∉D:=k.no (x:=m) (by rw[k1];rfl);have hsd:s≠d:=λe=>l (e▸κ);have g1:∀n,n≠d->n≠m->n≠B->(ζ.get n).box2 (e'.get n):=by
   intro n z h2 h3;rw[b.1,AB.bq,QQ (λe=>z e.symm),QJ];by_cases θ:s=n
   .subst θ;rw[Ne rfl];exact .inr ⟨_,cs,rfl,k2⟩
   .rw[QQ θ,QQ (λe=>h2 e.symm),QQ (λe=>h3 e.symm)];exact .inl rfl
  have o:JD D ζ:=by
   intro y hy;rw[b.2,AB.d3,Pu,EV.x9,η];exact k y hy
  refine ⟨e',u,?_⟩;simp only[PR.wp,L,M,AB.put];refine j e' (g1 x n4 n5 n6) (λr A=>?_) _ ⟨_,.refl _,?_⟩
  .have hrD:r∉D:=o.no A
   grind
  .simp only[PR.wp,Q,R,O,AB.put];have F:s≠g:=λe=>l (e▸G);refine w _ (by rw[AB.bq,QQ n2]) (by rw[AB.bq,QQ n3]) (by rw[AB.bq,QQ (λe=>F e.symm)]) ?_ _ (Gt hK ?_)
   .rw[AB.d3,k4,B?];refine VH (λr A=>?_);rcases J r A with z|z
    .grind[Aw]
    .exact λ(e:r=d)=>o.no z (e▸κ)
   .refine⟨λn=>?_,λc=>?_⟩
    .simp only[AB.bq,QJ,b.1]
     grind
    .simp only[AB.d3,Pu,b.2,EV.x9,η]
     grind
 .cases a
end
def Wh(s:Nat)(cs:List AO)(off:Nat)(ε:AB):AB:=(s,.bx (cs.set off ⟨T,.undef⟩))::ε
variable{s off:Nat}{ε:AB}
theorem QC{cs:List AO}(n:Nat):AB.get (Wh s cs off ε) n=if s=n then .bx (cs.set off ⟨T,.undef⟩)else ε.get n:=rfl
theorem SX{cs:List AO}(c:Nat):AB.eo c (Wh s cs off ε)=AB.eo c ε:=by
 simp [Wh,AB.d3,EV.x9,EV.pc]
def Rr(cs:List AO)(off:Nat)(e:EV):Prop:=(∃n es,cs[off]?=Y ⟨X,.xl n es⟩/\e=.xo n es)\/∃es,cs[off]?=Y ⟨X,.xn es⟩/\e=.xn es
variable{e:EV}
theorem Rr.pc{cs:List AO}(h:Rr cs off e):e.pc=W:=by
 rcases h with⟨_,_,_,rfl⟩|⟨_,_,rfl⟩<;>rfl
theorem Rr.cell{cs:List AO}(h:Rr cs off e):∃t,cs[off]?=Y ⟨X,t⟩/\t.Aax=X:=by
 rcases h with⟨_,_,h,_⟩|⟨_,h,_⟩<;>exact⟨_,h,rfl⟩
variable{x:AF}{d:Nat}
theorem Uv{S:FuncId->Fq->As->Prop}{K:EV->AB->Prop}(h:(AE.ctk x).wp S ε (Y d) K):
  ∃e s off cs,x.place ε=Y (s,off)/\ε.get s=.bx cs/\Rr cs off e/\ε.eo d=X/\K e (Wh s cs off ε)/\
   ∀env2 a,x.place env2=Y (s,off)->env2.get s=.bx a->a[off]?=cs[off]?->env2.eo d=X->∀c:EV->AB->Prop,c e (Wh s a off env2)->(AE.ctk x).wp S env2 (Y d) c:=by
 simp only[AE.wp]at h;split at h
 .rename_i z s off hd u;simp only[mE]at hd;subst hd;split at h
  .rename_i cs w;split at h
   next n es b=>refine⟨_,s,off,cs,u,w,.inl ⟨n,es,b,rfl⟩,h.1,h.2,λenv2 a g j k l c o=>?_⟩;simp only[AE.wp,g,j,k,b];exact⟨l,o⟩
   next es b=>refine⟨_,s,off,cs,u,w,.inr ⟨es,b,rfl⟩,h.1,h.2,λenv2 a g j k l c o=>?_⟩;simp only[AE.wp,g,j,k,b];exact⟨l,o⟩
   .exact h.elim
  .exact h.elim
 .exact h.elim
def vt:AE->Bool
 |.bad _ _=>X|.fad _ _=>X|.ld _=>X|.mv _=>X|.iad _ _ _=>X|.lst _ _=>X|.bld _ _=>X|.xal _=>X|.xin _ _ _=>X|.xln _=>X|.ldt _=>X|.app _ (.s _) _=>X|_=>T
structure Tk(op:AE)(E E2:AB):Prop where
 no:∀m∈op.slots,(∀cs,E.get m≠.bx cs)->E2.get m=E.get m
 pc:∀m∈op.slots,∀r,(E.get m).pc=Y r->(∀cs,E.get r≠.bx cs)->E2.get r=E.get r
 bx:∀r c0,(r∈op.slots\/∃m∈op.slots,(E.get m).pc=Y r)->E.get r=.bx c0->∃c1,E2.get r=.bx c1/\(∀k t,t.Aax=T->Fo ((c0.drop k).map (·.t))=Y t->Fo ((c1.drop k).map (·.t))=Y t)/\∀(k:Nat)t,t.Aax=T->c0[k]?=Y ⟨X,t⟩->c1[k]?=Y ⟨X,t⟩
section
variable{op:AE}{E E2:AB}
variable{x:AF}{e:EV}
theorem Tk.ev(h:Tk op E E2)(a:∀s∈x.sl,s∈op.slots)(he:x.ev E=e)(b:∀cs,e≠.bx cs):x.ev E2=e:=by
 subst he;cases x with
 |c t=>rfl|s n=>exact h.no n (a n c?) b
variable{t:TV}
theorem Tk.val(h:Tk op E E2)(b:∀s∈x.sl,s∈op.slots)(a:x.val E=Y t):x.val E2=Y t:=by
 unfold AF.val at a|-;rw[h.ev b rfl λcs c=>by rw[c]at a;cases a];exact a
theorem Tk.vals(h:Tk op E E2):∀{xs:List AF}{b:Fq},(∀s∈C6 xs,s∈op.slots)->Go.Sf.vals E xs=Y b->Go.Sf.vals E2 xs=Y b
 |[],_,_,a=>a|x::xs,b,g,a=>by
  simp only[C6,y_]at g;simp only[Go.Sf.vals]at a|-;split at a
  next t j k l=>rw[h.val (λs c=>g s (.inl c)) k,h.vals (λs c=>g s (.inr c)) l];exact a
  .cases a
theorem Tk.parts(h:Tk op E E2):∀{xs:List (Nat×Nat×AF)}{b:List (Nat×Nat×TV)},(∀s∈RB xs,s∈op.slots)->FG E xs=Y b->FG E2 xs=Y b
 |[],_,_,a=>a|(i,n,x)::xs,b,g,a=>by
  simp only[RB,y_]at g;simp only[FG]at a|-;split at a
  next t j k l=>rw[h.val (λs c=>g s (.inl c)) k,h.parts (λs c=>g s (.inr c)) l];exact a
  .cases a
theorem Tk.place(h:Tk op E E2)(g:∀s∈x.sl,s∈op.slots){p:Nat×Nat}(a:x.place E=Y p):x.place E2=Y p:=by
 cases x with
 |c t=>cases a
 |s n=>
  have b:=g n c?;simp only[AF.place]at a|-;split at a
  next q off he=>rw[h.no n b (by rw[he];simp),he];exact a
  next cs he=>obtain⟨k,j,_⟩:=h.bx n cs (.inl b) he;rw[j];exact a
  .cases a
end
variable{dst:Option Nat}
theorem oy{S:FuncId->Fq->As->Prop}{op:AE}(ho:vt op=X){E:AB}{K:EV->AB->Prop}(h:op.wp S E dst K):
  ∃(e:EV)(f:A8),K e (f.app E)/\f.ok E/\(∀s t,f=.slot s t->s∈op.slots)/\(∀s o t,f=.cell s o t->s∈op.slots\/∃y∈op.slots,(E.get y).pc=Y s)/\(∀cs,e≠.bx cs)/\
   ∀E2,Tk op E E2->∀u:EV->AB->Prop,u e (f.app E2)->op.wp S E2 dst u:=by
 have a:∀{e:EV},K e E->(∀cs,e≠.bx cs)->(∀E2,Tk op E E2->∀u:EV->AB->Prop,u e E2->op.wp S E2 dst u)->∃(e:EV)(f:A8),K e (f.app E)/\f.ok E/\(∀s t,f=.slot s t->s∈op.slots)/\(∀s o t,f=.cell s o t->s∈op.slots\/∃y∈op.slots,(E.get y).pc=Y s)/\(∀cs,e≠.bx cs)/\
   ∀E2,Tk op E E2->∀u:EV->AB->Prop,u e (f.app E2)->op.wp S E2 dst u:=λ{e}B C G=>⟨e,.none,B,trivial,V,V,C,G⟩
 cases op with
 |mv x=>
  simp only[AE.wp]at h;split at h
  next t l=>exact a h V λE2 b u g=>h!
  next t l=>exact a h V λE2 b u g=>h!
  next t l=>exact a h V λE2 b u g=>h!
  .exact h.elim
 |bad s k=>
  simp only[AE.wp]at h;split at h
  next cs F=>refine a h V λE2 b u g=>?_;obtain⟨R,B,_⟩:=b.bx s cs (.inl f_) F;simp only[AE.wp,B];exact g
  next row F=>exact a h V λE2 b u g=>by simp only[AE.wp,b.no s f_ (by rw[F];simp),F];exact g
  .exact h.elim
 |fad x k=>
  simp only[AE.wp]at h;split at h
  next row l=>exact a h V λE2 b u g=>h!
  .rename_i s off l;split at h
   .rename_i cs F;refine a h V λE2 b u g=>?_;have A:∃y∈x.sl,(E.get y).pc=Y s:=by
     cases x with
     |c t=>simp[AF.ev]at l|s n=>simp only[AF.ev]at l;exact⟨n,c?,by rw[l];rfl⟩
    obtain ⟨R,B,_⟩:=b.bx s cs (.inr A) F;simp only[AE.wp,b.ev (λs h=>h) l V,B];exact g
   .exact h.elim
  .exact h.elim
 |iad x i n=>
  simp only[AE.wp]at h;split at h
  next m es k j l hi=>obtain⟨B,C,e,G,Q⟩:=h;exact a Q V λE2 b u g=>by simp only[AE.wp,b.val (λs h=>DA h) l,b.val (λs h=>Dl h) hi];exact⟨B,C,e,G,g⟩
  .exact h.elim
 |lst n κ=>
  simp only[AE.wp]at h;cases hv:Go.Sf.vals E κ with
  |none=>rw[hv]at h;exact h.elim|some η=>
   rw [hv]at h;exact a h.2 V λE2 b u g=>by simp only[AE.wp,b.vals (λs h=>h) hv,Aj];exact⟨h.1,g⟩
 |bld z κ=>
  simp only[AE.wp]at h;cases hv:FG E κ with
  |none=>rw[hv]at h;exact h.elim|some η=>
   rw [hv]at h;simp only[Aj]at h;cases hf:FK z η with
   |none=>rw[hf]at h;exact h.elim|some cs=>
    rw [hf]at h;exact a h V λE2 b u g=>by simp only[AE.wp,b.parts (λs h=>h) hv,Aj,hf];exact g
 |xal s=>
  simp only[AE.wp]at h;split at h
  next m ζ F=>exact a h V λE2 b u g=>by simp only[AE.wp,b.no s f_ (by rw[F];simp),F];exact g
  .exact h.elim
 |xin x i n=>
  simp only[AE.wp]at h;split at h
  .rename_i q k j l hi;split at h
   .rename_i m es M;obtain⟨B,C,G,Q⟩:=h;have A:∃y∈x.sl,(E.get y).pc=Y q:=by
     cases x with
     |c t=>simp[AF.ev]at l|s n=>simp only[AF.ev]at l;exact⟨n,c?,by rw[l];rfl⟩
    obtain ⟨y,J,L⟩:=A;refine a Q V λE2 b u g=>?_;simp only[AE.wp,b.ev (λs h=>DA h) l V,b.val (λs h=>Dl h) hi,b.pc y (DA J) q L (by rw[M];simp),M];exact⟨B,C,G,g⟩
   .exact h.elim
  .exact h.elim
 |xln x=>
  simp only[AE.wp]at h;split at h
  .rename_i q c l;split at h
   .rename_i m es M;cases w:(es.flatMap TV.cells)[c]? with
    |none=>rw[w]at h;exact h.elim|some t=>
     rw [w]at h;have A:∃y∈x.sl,(E.get y).pc=Y q:=by
      cases x with
      |c t=>simp[AF.ev]at l|s n=>simp only[AF.ev]at l;exact⟨n,c?,by rw[l];rfl⟩
     obtain ⟨y,J,L⟩:=A;refine a h V λE2 b u g=>?_;simp only[AE.wp,b.ev (λs h=>h) l V,b.pc y J q L (by rw[M];simp),M,w,Aj];exact g
   .exact h.elim
  .exact h.elim
 |ld x=>
  simp only[AE.wp]at h;cases w:A9 E (x.ev E)with
  |none=>rw[w]at h;exact h.elim|some cs=>
   rw [w]at h;simp only[Aj]at h;cases b:Fo cs with
   |none=>rw[b]at h;exact h.elim|some t=>
    rw [b]at h;obtain⟨θ,h⟩:=h;refine a h V λE2 hT u g=>?_;have δ:∃cs',A9 E2 (x.ev E2)=Y cs'/\Fo cs'=Y t:=by
     cases x with
     |c O=>exact⟨cs,by rw[<-w];cases O<;>rfl,b⟩
     |s y=>
      have I:y∈(AE.ld (.s y)).slots:=t_
      simp only[AF.ev]at w|-;cases A:E.get y with
      |bp s off=>
       rw [hT.no y I (by rw[A];simp),A];rw[A]at w;simp only[A9]at w|-;split at w
       next ds F=>cases w;obtain⟨R,B,C,_⟩:=hT.bx s ds (.inr ⟨y,I,o2⟩) F;rw[B];exact⟨_,rfl,C _ _ θ b⟩
       .cases w
      |tv O=>
       rw [hT.no y I (by rw[A];simp),A];rw[A]at w;exact⟨cs,by rw[<-w];cases O<;>rfl,b⟩
      |bx ds=>
       rw [A]at w;simp only[A9,mE]at w;subst w;obtain⟨R,B,C,_⟩:=hT.bx y ds (.inl I) A;rw[B];have:=C 0 t θ (by simpa using b);exact⟨_,rfl,by simpa using this⟩
      |_=>rw[A]at w;cases w
    obtain ⟨cs',B,C⟩:=δ;simp only[AE.wp,B,Aj,C];exact⟨θ,g⟩
 |ldt x=>
  simp only[AE.wp]at h;split at h
  .rename_i s off H;split at h
   .rename_i cs F;split at h
    .rename_i n es w;have A:s∈x.sl\/∃y∈x.sl,(E.get y).pc=Y s:=by
      cases x with
      |c t=>cases H
      |s m=>
       simp only[AF.place]at H;split at H
       next q o he=>simp only[mE,Prod.mk.injEq]at H;exact .inr ⟨m,c?,by rw[he,<-H.1];rfl⟩
       .simp only[mE,Prod.mk.injEq]at H;exact .inl (by simp[AF.sl,H.1])
       .cases H
     refine ⟨.ow (.list n es),.cell s off (.list n es),?_,⟨cs,F,w⟩,V,?_,V,λE2 hT u g=>?_⟩
     .simp only[A8.app,F];exact h
     .intro s' o' O he;simp only[A8.cell.injEq]at he;rw[<-he.1];exact A
     .obtain⟨R,B,_,C⟩:=hT.bx s cs A F;have G:=C off _ rfl w;simp only[AE.wp,hT.place (λs h=>h) H,B,G];simp only[A8.app,B]at g;exact g
    .exact h.elim
   .exact h.elim
  .exact h.elim
 |app n x y=>
  cases x with
  |c t=>cases ho
  |s q=>
   simp only[AE.wp]at h;split at h
   .rename_i m es m' ζ l A;obtain⟨B,C,G,Q⟩:=h;subst B;simp only[AF.ev]at l;refine⟨_,.slot q (.list m es),Q,l,?_,V,V,λE2 hT u g=>?_⟩
    .intro s' O he;simp only[A8.slot.injEq]at he;rw[<-he.1];simp[AE.slots,AF.sl]
    .have Z:E2.get q=.ow (.list m es):=by rw[hT.no q t_ (by rw[l];simp),l]
     simp only[AE.wp,AF.ev,Z,hT.val (λs h=>Dl h) A];exact⟨trivial,C,G,g⟩
   .exact h.elim
 |_=>cases ho
variable{s off d:Nat}
theorem AAt{op:AE}{E E2:AB}{cs:List AO}{A:EV}(w:E.get s=.bx cs)(B:Rr cs off A)(hd:d∉op.slots)(C:E.eo d=X)(h:∀m,m≠d->E2.get m=AB.get (Wh s cs off E) m):Tk op E E2:=by
 have z:∀m r,(E.get m).pc=Y r->r≠d:=λm r b e=>AB.o3 d E C m (e▸b);have g:∀m,m≠d->(∀cs,E.get m≠.bx cs)->E2.get m=E.get m:=λm l c=>by
  rw [h m l,QC,QQ (λe:s=m=>c cs (e▸w))]
 refine ⟨λm F c=>g m (λe=>hd (e▸F)) c,λm _ r b c=>g r (z m r b) c,λr G b o=>?_⟩;have u:r≠d:=by
  rcases b with b|⟨m,_,b⟩
  .exact λe=>hd (e▸b)
  .exact z m r b
 rw [h r u,QC];by_cases e:s=r
 .subst e;rw[w]at o;cases o;obtain⟨H,l,c⟩:=B.cell;rw[Ne rfl];refine⟨_,rfl,λk t j a=>?_,λk t j a=>?_⟩
  .rw[iT]at a|-;by_cases e:off=k
   .subst e;rw[l]at a;simp at a;rw[<-a,c]at j;cases j
   .rw[z_ e];exact a
  .by_cases e:off=k
   .subst e;rw[l]at a;simp at a;rw[<-a,c]at j;cases j
   .rw[z_ e];exact a
 .rw[QQ e];exact⟨G,o,λ_ _ _ h=>h,λ_ _ _ h=>h⟩
theorem jW{E E2:AB}:∀{xs:List AF}{g:Fq},(∀k∈C6 xs,(∀cs,E.get k≠.bx cs)->E2.get k=E.get k)->Go.Sf.vals E xs=Y g->Go.Sf.vals E2 xs=Y g
 |[],_,_,a=>a|x::xs,g,h,a=>by
  simp only[C6,y_]at h;simp only[Go.Sf.vals]at a|-;split at a
  .rename_i t o b w;have z:x.val E2=Y t:=by
    cases x with
    |c u=>exact b|s k=>
     simp only[AF.val,AF.ev]at b|-;rw[h k (.inl c?) λcs j=>by rw[j]at b;cases b];exact b
   rw [z,jW (λs l=>h s (.inr l)) w];exact a
  .cases a
def Ws(D:I2)(p q:PR):Bool:=
 match q.op,q.guard,q.dst,p.guard,p.dst with
 |.ctk (.s m),W,Y d,W,Y dp=>vt p.op&&PR.x4 D p&&dp !=d&&dp !=m&&d !=m&&!p.op.slots.contains d|_,_,_,_,_=>T
def Aba(D:I2)(p q:PR):Bool:=
 match p.op,p.guard,p.dst,q.op,q.guard,q.dst with
 |.ctk (.s m),W,Y d,.lst _ ps,W,Y dq=>D.contains dq&&dq !=d&&dq !=m&&!(C6 ps).contains d|_,_,_,_,_,_=>T
section
variable{S:FuncId->Fq->As->Prop}{K:AB->Prop}{D:I2}
variable{ε:AB}{rs:List PR}
theorem xf{p q:PR}(j:Ws D p q=X)(h:Eb S K (p::q::rs) ε):Eb S K (q::p::rs) ε:=by
 unfold Ws at j;split at j
 .rename_i m d θ qo qg qd pg pd;simp only[gR,bne_iff_ne,ne_eq,B!,y!,decide_eq_false_iff_not]at j;obtain⟨⟨⟨⟨⟨ho,_⟩,n1⟩,n2⟩,n3⟩,δ⟩:=j;obtain⟨e',Z,h⟩:=h;simp only[PR.wp,pg,pd,AB.put]at h;obtain⟨e,f,⟨e1,w,hw⟩,fok,fsl,F,hnb,L⟩:=oy ho h;simp only[PR.wp,qg,qd,qo,AB.put]at hw;obtain⟨eq,s,off,l,a,b,z,M,hK,G⟩:=Uv hw;have R:∀n,e1.get n=if θ=n then e else f.on n (e'.get n):=λn=>by rw[w.1,AB.bq,A8.get]
  have H:θ≠s:=λh=>hnb l (by rw[<-b,R,Ne h]);have B:e'.eo d=X:=by
   rw [w.2,AB.d3,A8.eo,gR]at M;exact M.2
  have g:(AF.s m).place e'=Y (s,off):=by
   simp only[AF.place]at a|-;rw[R,QQ n2]at a;cases f with
   |none=>exact a|slot s2 t=>
    simp only[A8.on]at a;by_cases k:s2=m
    .rw[Ne k]at a;cases a
    .rw[QQ k]at a;exact a
   |cell s2 o t=>
    simp only[A8.on]at a;by_cases k:s2=m
    .rw[Ne k]at a;cases hm:e'.get m<;>rw[hm]at a<;>exact a
    .rw[QQ k]at a;exact a
  have hsd2:s≠d:=by
   simp only[AF.place]at g;split at g
   next q o he=>simp only[mE,Prod.mk.injEq]at g;exact λhh=>AB.o3 d e' B m (by rw[he,<-hh,<-g.1];rfl)
   .simp only[mE,Prod.mk.injEq]at g;exact λhh=>n3 (by rw[<-hh,<-g.1])
   .cases g
  rw [R,QQ H]at b;obtain⟨t0,O,hx0⟩:=z.cell;have κ:∃cs,e'.get s=.bx cs/\cs[off]?=l[off]?/\f.on s (.bx (cs.set off ⟨T,.undef⟩))=.bx (l.set off ⟨T,.undef⟩):=by
   cases f with
   |none=>exact⟨l,b,rfl,rfl⟩|slot s2 t=>
    simp only[A8.on]at b|-;by_cases k:s2=s
    .rw[Ne k]at b;cases b
    .rw[QQ k]at b;exact⟨l,b,rfl,by rw[QQ k]⟩
   |cell s2 o t=>
    simp only[A8.on]at b|-;by_cases k:s2=s
    .subst k;obtain⟨ds,A,J⟩:=fok;rw[Ne rfl,A]at b;simp only[EV.bx.injEq]at b;subst b;have η:=(z!.1 J).1;have I:o≠off:=by
      intro hh;subst hh;rw[List.getElem?_set_self η]at O;cases O
     exact ⟨ds,A,by rw[z_ I],by rw[Ne rfl];simp only[List.set_comm _ _ I]⟩
    .rw[QQ k]at b;exact⟨l,b,rfl,by rw[QQ k]⟩
  obtain ⟨cs,hs,Q,hon⟩:=κ;have C:Rr cs off eq:=by unfold Rr at z|-;rw[Q];exact z
  have ζ:∀u,f.on d u=u:=λu=>by
   cases f with
   |none=>rfl|slot s2 t=>simp only[A8.on];rw[QQ (λk:s2=d=>δ (k▸fsl _ _ rfl))]|cell s2 o t=>
    simp only[A8.on];rw[QQ];intro k;rcases F _ _ _ rfl with A|⟨y,_,A⟩
    .exact δ (k▸A)
    .exact AB.o3 d e' B y (k▸A)
  refine ⟨e',Z,?_⟩;simp only[PR.wp,qg,qd,qo,AB.put];refine G e' cs g hs Q B _ ⟨_,.refl _,?_⟩;simp only[PR.wp,pg,pd,AB.put];refine L _ (AAt hs C δ B λn hn=>by rw[AB.bq,QQ (λh=>hn h.symm)]) _ (Gt hK ?_);refine⟨λn=>?_,λc=>?_⟩
  .simp only[AB.bq,QC,A8.get,R];by_cases k:θ=n
   .subst k;rw[QQ (λh=>n1 h.symm),QQ (λh=>H h.symm),Ne rfl,Ne rfl]
   .rw[QQ k,QQ k];by_cases A:d=n
    .subst A;rw[Ne rfl,Ne rfl,ζ]
    .rw[QQ A,QQ A];by_cases J:s=n
     .subst J;rw[Ne rfl,Ne rfl,hon]
     .rw[QQ J,QQ J]
  .simp only[AB.d3,SX,A8.eo,w.2];cases EV.x9 c eq<;>cases EV.x9 c e<;>rfl
 .cases j
theorem xg(R:JD D ε){p q:PR}(a:Aba D p q=X)(h:Eb S K (p::q::rs) ε):Eb S K (q::p::rs) ε:=by
 unfold Aba at a;split at a
 .rename_i m d n η ζ F G H I J L;simp only[gR,bne_iff_ne,ne_eq,B!,y!,o4,decide_eq_false_iff_not]at a;obtain⟨⟨⟨Z,n1⟩,O⟩,n3⟩:=a;obtain⟨e',u,h⟩:=h;have z:=R.congr u.symm;simp only[PR.wp,F,G,H,AB.put]at h;obtain⟨ep,s,off,cs,b,hs,Q,B,⟨C,g,j⟩,w⟩:=Uv h;simp only[PR.wp,J,L,I,AB.put,AE.wp]at j;have δ:∀k,k≠d->(∀cs,C.get k≠.bx cs)->e'.get k=C.get k:=λk θ l=>by
   rw [g.1,AB.bq,QQ (λh=>θ h.symm),QC]at l|-;by_cases M:s=k
   .rw[Ne M]at l;exact absurd rfl (l _)
   .rw[QQ M]
  have A:s≠ζ:=by
   simp only[AF.place]at b;split at b
   next q o he=>simp only[mE,Prod.mk.injEq]at b;exact λhh=>z.no (x:=m) (by rw[he];rfl) (by rw[b.1,hh];exact Z)
   .simp only[mE,Prod.mk.injEq]at b;exact λhh=>O (by rw[<-hh,<-b.1])
   .cases b
  cases hv:Go.Sf.vals C η with
  |none=>rw[hv]at j;exact j.elim|some ts=>
   rw [hv]at j;obtain⟨hl,j⟩:=j;refine⟨e',u,?_⟩;simp only[PR.wp,J,L,I,AB.put,AE.wp,jW (λk κ l=>δ k (λh=>n3 (h▸κ)) l) hv,Aj];refine⟨hl,_,.refl _,?_⟩;simp only[PR.wp,F,G,H,AB.put];refine w _ cs (by simp only[AF.place]at b|-;rw[AB.bq,QQ O];exact b) (by rw[AB.bq,QQ (λh=>A h.symm)];exact hs) rfl (by rw[AB.d3,B];rfl) _ (Gt j ?_);refine⟨λk=>?_,λc=>?_⟩
   .simp only[AB.bq,QC,g.1]
    grind
   .simp only[AB.d3,SX,g.2];cases EV.x9 c ep<;>rfl
 .cases a
end
def Aa7(p:PR):Bool:=(p.tk.isSome&&!p.op.isB)||(match p.op,p.guard,p.dst with|.AaH _ _,W,Y _=>X|.ctk _,W,Y _=>X|_,_,_=>T)
variable{ε:AB}
theorem eC{S:FuncId->Fq->As->Prop}{p:PR}{K:AB->Prop}(ho:Aa7 p=X)(h:p.wp S ε K):∃gt,K gt/\(∀c,gt.eo c=ε.eo c)/\∀b:AB->Prop,b gt->p.wp S ε b:=by
 simp only[Aa7,B']at ho;rcases ho with ho|ho
 .simp only[gR,B!]at ho;obtain⟨⟨qs,d⟩,w⟩:=C'.1 ho.1;obtain⟨e,u,j,g,a⟩:=ZT w (λh=>by rw[ho.2]at h;cases h) h;exact⟨_,g,λc=>by rw[AB.d3,Hb j.Abk,EV.x9,j.Abu];rfl,a ε (λ_ _=>rfl) j.dno⟩
 split at ho
 .rename_i m q d k l o
  grind [PR.wp,AB.put,TR,AB.d3,Pu,EV.x9]
 next x d k l o=>simp only[PR.wp,k,l,o,AB.put]at h|-;obtain⟨e,s,off,cs,z,A,B,C,F,G⟩:=Uv h;exact⟨_,F,λc=>by rw[AB.d3,SX,EV.x9,B.pc];rfl,λb g=>G ε cs z A rfl C _ g⟩
 .cases ho
def Abe(p:PR):Bool:=match p.op,p.guard,p.dst with
 |.x8 _,W,Y _=>X|_,_,_=>T
theorem su{p:PR}{x:I2×Nat}(h:p.tk=Y x)(a:p.op.isB=X):Abe p=X:=by
 obtain ⟨qs,d⟩:=x;obtain⟨g,b,c⟩:=PR.tk_some h;unfold Abe;rw[b,c];cases ho:p.op<;>simp[ho,AE.isB]at a<;>rfl
theorem kS{D:I2}{p q:PR}(h:Aai D q p=X):Abe p=X\/Aa7 p=X:=by
 unfold Aai at h;split at h
 .rename_i qs d a;cases b:p.op.isB with
  |true=>exact .inl (su a b)|false=>exact .inr (by simp[Aa7,a,b])
 .cases h
theorem gI{D:I2}{p q:PR}(h:Aai D p q=X):PR.x4 D p=X:=by
 unfold Aai at h
 grind
theorem kV{D:I2}{p q:PR}(h:AaW D p q=X):Abe p=X\/Aa7 p=X:=by
 unfold AaW at h;split at h
 .rename_i c g qs j a _;cases b:p.op.isB with
  |true=>exact .inl (su a b)|false=>exact .inr (by simp[Aa7,a,b])
 .cases h
theorem gJ{D:I2}{p q:PR}(h:Aah D p q=X):PR.x4 D p=X:=by
 unfold Aah at h
 grind
theorem kT{D:I2}{p q:PR}(h:Aah D q p=X):Aa7 p=X:=by grind[Aah,Aa7]
end Go.Sf
namespace Go.Sf
open Go.RowKit (Below)
def Om(rs:List PR)(i:Nat):PR:=(rs[i]?).getD ⟨W,.Abn 0,W⟩
def AaN(p q:PR):Bool:=match p.op,p.guard,p.dst,q.op,q.guard,q.dst with
 |.x8 gs,W,Y dp,.alc _,W,Y dq=>dp !=dq&&!(gs.flatMap GC.sl).contains dq|_,_,_,_,_,_=>T
theorem kR{p q:PR}(h:AaN p q=X):Abe p=X:=by grind[AaN,Abe]
def Xz(p:PR):Bool:=match p.op,p.guard,p.dst with
 |.st _ (.s _) _,W,W=>X|.xst _ _ _,W,W=>X|_,_,_=>T
def AaU(D:I2)(p q:PR):Bool:=match p.op,p.guard,p.dst,q.op,q.guard,q.dst with
 |.xst x v _,W,W,.xia (.s _) _ _,W,Y d=>D.contains d&&!x.sl.contains d&&!v.sl.contains d|_,_,_,_,_,_=>T
def S9(D:I2)(p q:PR):Bool:=match p.op,p.guard,p.dst,q.op,q.guard,q.dst with
 |.st _ (.s x) v,W,W,.bad m _,W,Y d=>D.contains d&&d !=x&&d !=m&&!v.sl.contains d&&!v.sl.contains m|.st _ (.s x) v,W,W,.fad (.s m) _,W,Y d=>D.contains d&&d !=x&&d !=m&&!v.sl.contains d&&!v.sl.contains m|_,_,_,_,_,_=>T
theorem kQ{D:I2}{p q:PR}(h:S9 D p q=X):Xz p=X:=by grind[S9,Xz]
theorem kU{D:I2}{p q:PR}(h:AaU D p q=X):Xz p=X:=by grind[AaU,Xz]
def AE.vops:AE->Option (List AF)
 |.len x=>Y [x]|.mm _ x y=>Y [x,y]|.slc _ x lo hi=>Y (x::(lo.toList++hi.toList))|.bin _ _ x y=>Y [x,y]|.cvt _ x=>Y [x]|.fdv x _=>Y [x]|.ldv x _=>Y [x]|_=>W
def Aa9(D:I2)(p q:PR):Bool:=match p.op.vops,p.guard,p.dst,q.op,q.guard,q.dst with
 |some xs,W,Y d,.st _ (.s x) v,W,W=>PR.x4 D p&&d !=x&&!v.sl.contains d&&Fa (xs.flatMap AF.sl) v.sl|_,_,_,_,_,_=>T
def Abc(D:I2)(p q:PR):Bool:=match p.op,p.guard,p.dst,q.op,q.guard,q.dst with
 |.ldb b _,W,Y d,.st _ (.s x) v,W,W=>PR.x4 D p&&D.contains b&&b !=x&&d !=x&&d !=b&&!v.sl.contains d&&!v.sl.contains b|.bad b _,W,Y d,.st _ (.s x) v,W,W=>PR.x4 D p&&d !=x&&!v.sl.contains d&&!v.sl.contains b|_,_,_,_,_,_=>T
def AaR(p q:PR):Bool:=match p.op,p.guard,p.dst,q.op,q.guard,q.dst with
 |.Aad _ xs _,W,Y d,.alc _,W,Y d'=>d !=d'&&!(C6 xs).contains d'|_,_,_,_,_,_=>T
def AbC(p:PR):Bool:=match p.op,p.guard,p.dst with
 |.Aad _ _ _,W,Y _=>X|_,_,_=>T
theorem Y8{p q:PR}(h:AaR p q=X):AbC p=X:=by grind[AaR,AbC]
def AaS(D:I2)(p q:PR):Bool:=Y7 D p q||AaT D p q||AaN p q||Abb D p q||Aa8 D p q||(S9 D p q||AaU D p q)||Aa9 D p q||Abc D p q||(Aai D p q||Aai D q p||AaW D p q||Aah D p q||Aah D q p)||(Ws D p q||Aba D p q)||AaR p q
def okQ(p:PR):Bool:=match p.op,p.guard,p.dst with
 |.tkx _,W,Y _=>X|.Abf _ _ _ _,W,Y _=>X|_,_,_=>T
theorem gH{D:I2}{p q:PR}(h:AaS D p q=X):(((PR.x4 D p=X\/Abe p=X)\/Xz p=X)\/Aa7 p=X)\/AbC p=X:=by
 simp [AaS]at h;rcases h with h|h
 rotate_left
 .exact .inr (Y8 h)
 left;rcases h with((((((((h|h)|h)|h)|h)|h)|h)|h)|((((h|h)|h)|h)|h))|(h|h)
 rotate_right 7
 .grind[gI]
 .rcases kS h with h|h
  .exact .inl (.inl (.inr h))
  .exact .inr h
 .rcases kV h with h|h
  .exact .inl (.inl (.inr h))
  .exact .inr h
 .grind[gJ]
 .exact .inr (kT h)
 .grind[Ws]
 .exact .inr (by unfold Aba at h;grind[Aa7])
 all_goals refine .inl ?_
 .simp[Y7]at h
  grind
 .unfold AaT at h
  grind
 .grind[kR]
 .unfold Abb at h
  grind
 .unfold Aa8 at h
  grind
 .grind[kQ,kU]
 .unfold Aa9 at h
  grind
 .unfold Abc at h
  grind
def sO(ops:Array Oper):I2:=
 ops.toList.foldl (λacc o=>acc++[o.after.toList.foldl (λm e=>if Region.binds .any e then m|||(1<<<e.on)|||acc.getD e.on 0 else m) 0]) []
def okCa(p:PR):Bool:=match p.op,p.guard,p.dst with
 |.AaI _ _ _,W,Y _=>X|_,_,_=>T
variable{ε:AB}
theorem pv{S:FuncId->Fq->As->Prop}{p:PR}{K:AB->Prop}(ho:okCa p=X)(h:p.wp S ε K):p.wp S ε λgt=>K gt/\∀c,gt.eo c=ε.eo c:=by
 unfold okCa at ho;split at ho
 .rename_i f args i d g j k;simp[PR.wp,g,j,k,AE.wp,AB.put]at h|-;split at h
  .rename_i u q a w;simp at a;subst a;split at h
   .rename_i cs z;refine⟨h.1,?_⟩;cases hv:F2 ε i args with
    |none=>rw[hv]at h;exact h.2.elim|some A=>
     rw [hv]at h;obtain⟨_,r,l,o⟩:=h;refine⟨r,l,λb=>⟨o b,λc=>?_⟩⟩;have:EV.x9 c r.aev=X:=by cases r<;>rfl
     rw [AB.d3,AB.d3,this];rfl
   .exact h.elim
  .exact h.elim
 .cases ho
def okCm(p:PR):Bool:=match p.op,p.dst with
 |.AaB _ _ _,Y _=>X|_,_=>T
def eA(D:I2)(r:PR):Bool:=
 OB r.op||Abe r||okQ r||Aa7 r||okCa r||okCm r||AbC r||(r.op.mov&&r.dst.isSome&&(!r.op.og||r.guard.isNone)&&Fa r.op.AaY D)
def VL(P:Program)(N:Nat)(D:I2)(ops:Array Oper)(rs:List PR):Bool:=
 let n:=ops.size
 let M:=sO ops
 NG P N ops ops.toList rs&&(z? n).all (λi=>eA D (Om rs i)) &&
 (z? n).all (λi=>match ops[i]? with
  |some o=>o.after.toList.all λe=>!Region.binds .any e||decide (e.on<i)|none=>T) &&
 (z? n).all (λi=>(z? n).all λj=>!(M.getD i 0).testBit j||(match ops[i]? with
  |some o=>o.after.toList.any λe=>Region.binds .any e&&(e.on==j||(decide (e.on<i)&&(M.getD e.on 0).testBit j))|none=>T)) &&
 (z? n).all (λi=>(z? i).all λj=>(M.getD i 0).testBit j||AaS D (Om rs j) (Om rs i))
section
variable{P:Program}{F0:Nat->Nat->Prop}{w0:W0}{N:Nat}{p:Option (Nat×Value)}{ops:Array Oper}{K:AB->Prop}{D:I2}
variable{f:A8}{ε:AB}
theorem Ew.refl{op:AE}{d:Option Nat}(h:f.ok ε):Ew op f d ε ε:=
 ⟨λ_ _=>.inl rfl,λ_ _ _ _=>.inl rfl,λ_ _ _=>rfl,h,λ_ _ _ h=>h⟩
theorem Mj(d:Nat)(e0:AB):∀(qs:I2)(ε:AB),AB.eo d (Od e0 qs ε)=AB.eo d ε
 |[],_=>rfl|q::qs,ε=>by
  rw [Od,AB.d3,Mj d e0 qs ε]
  grind [Mi,EV.x9,EV.pc]
theorem tV(d:Nat)(e:EV)(ε:AB)(g:GC)(h:d∉g.sl):GC.cell ((d,e)::ε) g=g.cell ε:=by
 cases g with
 |z c=>rfl|v x k n=>
  cases x with
  |s q=>
   grind [GC.sl,x!,GC.cell,AF.val,AF.ev,AB.bq]
  |c t=>rfl
 |w q=>
  grind [GC.sl,x!,GC.cell,AB.bq]
 |g q k n=>
  grind [GC.sl,x!,GC.cell,AB.bq]
theorem dg(d:Nat)(e:EV)(ε:AB):∀(gs:List GC),d∉gs.flatMap GC.sl->GK ((d,e)::ε) gs=GK ε gs
 |[],_=>rfl|g::gs,h=>by
  rw [x?,y_,not_or]at h;simp[GK,tV d e ε g h.1,dg d e ε gs h.2]
theorem uu{gs:List GC}{q:Nat}(h:q∈gs.filterMap GC.slot):q∈gs.flatMap GC.sl:=by
 rw [w?]at h;obtain⟨g,a,e⟩:=h;rw[x_];refine⟨g,a,?_⟩;cases g<;>simp[GC.slot]at e<;>simp[GC.sl,e]
variable{d:Nat}
theorem Xd{S:FuncId->Fq->As->Prop}{p:PR}{K:AB->Prop}{gs:List GC}(c:p.op=.x8 gs)(g:p.guard=W)(j:p.dst=Y d)(h:p.wp S ε K):
  ∃cs,((gs.filterMap GC.src).Nodup/\d∉gs.filterMap GC.slot)/\GK ε gs=Y cs/\K ((d,.oag cs)::Od ε (gs.filterMap GC.slot) ε):=by
 simp only[PR.wp,c,g,j,AE.wp,AB.put]at h;obtain⟨k,b⟩:=h;cases a:GK ε gs with
 |none=>rw[a]at b;exact b.elim|some l=>rw[a]at b;exact⟨l,k,rfl,b⟩
theorem TY{S:FuncId->Fq->As->Prop}{p:PR}{K:AB->Prop}{gs:List GC}{cs:List AO}(b:p.op=.x8 gs)(c:p.guard=W)(g:p.dst=Y d)(j:(gs.filterMap GC.src).Nodup/\d∉gs.filterMap GC.slot)(a:GK ε gs=Y cs)
  (h:K ((d,.oag cs)::Od ε (gs.filterMap GC.slot) ε)):p.wp S ε K:=by
 simp only[PR.wp,b,c,g,AE.wp,AB.put,a];exact⟨j,h⟩
variable{q:PR}{v:AF}
theorem U1{S:FuncId->Fq->As->Prop}{K:AB->Prop}{n x:Nat}(a:q.op=.st n (.s x) v)(l:q.guard=W)(hd:q.dst=W)(h:q.wp S ε K):
  ∃s off cs cs' o,(AF.s x).place ε=Y (s,off)/\ε.get s=.bx cs/\(∀g e,o=Y (g,e)->v=.s g/\(∃t,e=.tv t)/\g≠s)/\K (PI s cs' o ε)/\
   ∀env2,(AF.s x).place env2=Y (s,off)->env2.get s=.bx cs->v.ev env2=v.ev ε->∀j:AB->Prop,j (PI s cs' o env2)->q.wp S env2 j:=by
 unfold PR.wp at h;rw[l,a,hd]at h;simp[AE.wp]at h;split at h
 .rename_i s off z;split at h
  .rename_i cs A;split at h
   .rename_i t hv;cases v with
    |c t=>exact h.elim|s g=>
     simp only at h;simp[AF.ev]at hv;refine⟨s,off,cs,_,Y (g,.tv t),z,A,?_,h.2.2.2,λenv2 u w k j b=>?_⟩
     .intro s' B he;simp at he;obtain⟨rfl,rfl⟩:=he;exact⟨rfl,⟨t,rfl⟩,h.1⟩
     .simp[AF.ev]at k;unfold PR.wp;rw[l,a,hd];simp[AE.wp,u,w,AF.ev,k,hv];exact⟨h.1,h.2.1,h.2.2.1,b⟩
   next t hv=>refine⟨s,off,cs,_,W,z,A,V,h.2.2,λenv2 u w k j b=>?_⟩;unfold PR.wp;rw[l,a,hd];simp[AE.wp,u,w,k,hv];exact⟨h.1,h.2.1,b⟩
   .exact h.elim
  .exact h.elim
 .exact h.elim
theorem iZ(a:Fq)(c:Nat):EV.x9 c (EV.ofs a)=X:=by
 unfold EV.ofs;split<;>rfl
variable{i:Nat}
theorem aG{S:FuncId->Fq->As->Prop}{f:FuncId}{xs:List AF}{K:EV->AB->Prop}(h:(AE.Aad f xs i).wp S ε (Y d) K):
  ∃s cs b cs' a,(xs[i]?).bind (·.place ε)=Y (s,0)/\ε.get s=.bx cs/\ε.noX s W=X/\d≠s/\F2 ε i xs=Y b/\S f b (.bo cs cs' i a)/\((∀c∈cs',c.t.WF)/\TV.nm a->K (EV.ofs a) ((s,.bx cs')::ε)):=by
 simp only[AE.wp]at h;split at h
 .rename_i z s hd j;simp only[mE]at hd;subst hd;split at h
  .rename_i cs k;obtain⟨⟨l,o⟩,g⟩:=h;cases hv:F2 ε i xs with
   |none=>rw[hv]at g;exact g.elim|some b=>
    rw [hv]at g;obtain⟨cs',a,u,w⟩:=g;exact⟨s,cs,b,cs',a,j,k,l,o,rfl,u,w⟩
  .exact h.elim
 .exact h.elim
theorem Xy{S:FuncId->Fq->As->Prop}{p:PR}{K:AB->Prop}(ho:AbC p=X)(h:p.wp S ε K):p.wp S ε λgt=>K gt/\(∀c,gt.eo c=ε.eo c)/\∀a:AB->Prop,a gt->p.wp S ε a:=by
 unfold AbC at ho;split at ho
 next f xs i d u w z=>simp only[PR.wp,u,w,z,AB.put]at h|-;obtain⟨s,cs,G,cs',b,A,B,g,j,C,k,F⟩:=aG h;simp only[AE.wp,A,B,C,Aj];refine⟨⟨g,j⟩,cs',b,k,λl=>⟨F l,λc=>by rw[AB.d3,AB.d3,iZ];rfl,λa o=>⟨⟨g,j⟩,cs',b,k,λ_=>o⟩⟩⟩
 .cases ho
variable{e':AB}
theorem head{p:PR}{o:Oper}(ho:L8 P N ops o p=X){K:AB->Prop}(g:(((PR.x4 D p=X\/Abe p=X)\/Xz p=X)\/Aa7 p=X)\/AbC p=X)(A:Lr F0 w0 N e')(B:JD D e')(h:p.wp (AT P) e' K):
  ∃gt,K gt/\Lr F0 w0 N gt/\JD D gt/\∀b:AB->Prop,b gt->p.wp (AT P) e' b:=by
 rcases g with(((g|g)|g)|g)|g
 rotate_right
 .obtain⟨gt,⟨l,M,O⟩,a⟩:=FC A ho (Xy g h);exact⟨gt,l,a,λd hd=>by rw[M];exact B d hd,O⟩
 rotate_right
 .obtain⟨gt,⟨l,M,O⟩,a⟩:=FC (K:=λgt=>K gt/\(∀c,gt.eo c=e'.eo c)/\∀b:AB->Prop,b gt->p.wp (AT P) e' b) A ho (by
   grind [eC])
  exact ⟨gt,l,a,λd hd=>by rw[M];exact B d hd,O⟩
 .simp[PR.x4,B!]at g;obtain⟨⟨⟨⟨δ,Z⟩,pg⟩,pb⟩,pD⟩:=g;obtain⟨dp,θ⟩:=C'.1 Z;have R:p.op.og=X->p.guard=W:=λη=>by
   rcases pg with h|h
   .rw[η]at h;cases h
   .simpa using h
  obtain ⟨gt,⟨l,ep,fp,Q⟩,a⟩:=FC A ho (QF θ δ R h);exact⟨gt,l,a,Q.jd pb B,λb j=>Q.again e' (.refl Q.ok) (λ_ _=>rfl) _ (by rw[<-Q.gt];exact j)⟩
 .unfold Abe at g;split at g
  .rename_i gs d C F G;obtain⟨gt,l,a⟩:=FC (K:=λgt=>K gt/\∃cs,((gs.filterMap GC.src).Nodup/\d∉gs.filterMap GC.slot)/\GK e' gs=Y cs/\gt=(d,.oag cs)::Od e' (gs.filterMap GC.slot) e') A ho (by
    obtain ⟨ts,w,z,H⟩:=Xd C F G h
    grind [TY])
   obtain ⟨l,ts,w,z,rfl⟩:=l;refine⟨_,l,a,λx κ=>?_,λb j=>TY C F G w z j⟩;rw[AB.d3,Mj,B x κ];rfl
  .cases g
 .unfold Xz at g;split at g
  .rename_i n x v C F G;obtain⟨gt,⟨l,s,off,cs,cs',o',w,I,z,H,J⟩,a⟩:=FC (K:=λgt=>K gt/\∃s off cs cs' o,(AF.s x).place e'=Y (s,off)/\e'.get s=.bx cs/\(∀L e,o=Y (L,e)->v=.s L/\(∃t,e=EV.tv t)/\L≠s)/\gt=PI s cs' o e'/\
     ∀b:AB->Prop,b (PI s cs' o e')->p.wp (AT P) e' b) A ho (by
    obtain ⟨s,off,cs,cs',o,w,I,z,H,J⟩:=U1 C F G h;exact J e' w I rfl _ ⟨H,s,off,cs,cs',o,w,I,z,rfl,λb j=>J e' w I rfl b j⟩)
   subst H;refine⟨_,l,a,λd hd=>?_,J⟩;rw[Ge _ _ _ _ _ (λL e he=>by
    obtain ⟨_,⟨t,rfl⟩,_⟩:=z L e he;rfl)]
   exact B d hd
  .rename_i x v k C F G;obtain⟨gt,⟨l,M,O⟩,a⟩:=FC (K:=λgt=>K gt/\(∀c,gt.eo c=e'.eo c)/\∀b:AB->Prop,b gt->p.wp (AT P) e' b) A ho (by
    simp [PR.wp,C,F,G,AE.wp,AB.put]at h|-;split at h
    .rename_i q i c κ;split at h
     .rename_i n es u ζ hu;obtain⟨w,I,es',z,H,J,h7⟩:=h;refine⟨w,I,es',z,H,J,h7,λc=>(Pn (es':=es') ζ).2.2 c,λb j=>?_⟩
      grind
     .exact h.elim
    .exact h.elim)
   exact ⟨gt,l,a,λd hd=>by rw[M];exact B d hd,O⟩
  .cases g
variable{rs:List PR}
theorem xe{p q:PR}(a:AaN p q=X)(h:Eb (AT P) K (p::q::rs) ε):Eb (AT P) K (q::p::rs) ε:=by
 unfold AaN at a;split at a
 .rename_i gs J cs C k l o u w z;simp only[gR,bne_iff_ne,ne_eq,B!,y!,decide_eq_false_iff_not]at a;obtain⟨G,A⟩:=a;obtain⟨e',g,h⟩:=h;obtain⟨L,H,I,x,j,c⟩:=Xd k l o h;simp[PR.wp,u,w,z,AE.wp,AB.put]at c;obtain⟨b,c⟩:=c;rw[j.2,AB.d3,Mj]at b;simp[EV.x9,EV.pc]at b;refine⟨e',g,?_⟩;simp[PR.wp,u,w,z,AE.wp,AB.put];refine⟨b,_,.refl _,TY k l o H (by rw[dg _ _ _ _ A];exact I) (Gt c ?_)⟩;have F:C∉gs.filterMap GC.slot:=λB=>A (uu B);refine⟨λn=>?_,λd=>?_⟩
  .rw[AB.bq,j.1,AB.bq,AB.bq,Kf,Kf]
   grind [AB.bq]
  .rw[AB.d3,j.2,AB.d3,AB.d3,Mj,Mj,AB.d3]
   grind
 .cases a
variable{gt:AB}{m s:Nat}
theorem lq{S:FuncId->Fq->As->Prop}{K:AB->Prop}{cs cs':List AO}{o:Option (Nat×EV)}(a:(∃k,q.op=.bad m k)\/∃k,q.op=.fad (.s m) k)(g:q.guard=W)(hd:q.dst=Y d)(B:ε.get s=.bx cs)(ho:∀A e,o=Y (A,e)->(∃t,e=.tv t)/\A≠m)
  (he:∀n,gt.get n=(PI s cs' o ε).get n)(h:q.wp S gt K):∃e,K ((d,e)::gt)/\∀j:AB->Prop,j ((d,e)::ε)->q.wp S ε j:=by
 have w:gt.get m=if s=m then .bx cs' else ε.get m:=by
  grind [Fw]
 have F:∀r c,gt.get r=.bx c->∃u,ε.get r=.bx u:=by
  grind [Fw]
 unfold PR.wp at h;rcases a with⟨k,a⟩|⟨k,a⟩
 .rw[g,a,hd]at h;simp[AE.wp,AB.put]at h;by_cases e:s=m
  .rw[w,Ne e]at h;refine⟨_,h,λj b=>?_⟩;unfold PR.wp;rw[g,a,hd];simp[AE.wp,<-e,B,AB.put];rw[<-e]at b;exact b
  .rw[w,QQ e]at h;split at h
   next c l=>refine⟨_,h,λj b=>?_⟩;unfold PR.wp;rw[g,a,hd];simp[AE.wp,l,AB.put];exact b
   next row l=>refine⟨_,h,λj b=>?_⟩;unfold PR.wp;rw[g,a,hd];simp[AE.wp,l,AB.put];exact b
   .exact h.elim
 .rw[g,a,hd]at h;simp[AE.wp,AB.put,AF.ev]at h;by_cases e:s=m
  .rw[w,Ne e]at h;exact h.elim
  .rw[w,QQ e]at h;split at h
   next row l=>refine⟨_,h,λj b=>?_⟩;unfold PR.wp;rw[g,a,hd];simp[AE.wp,AF.ev,l,AB.put];exact b
   .rename_i r off l;split at h
    next c C=>obtain⟨u,z⟩:=F r c C;refine⟨_,h,λj b=>?_⟩;unfold PR.wp;rw[g,a,hd];simp[AE.wp,AF.ev,l,z,AB.put];exact b
    .exact h.elim
   .exact h.elim
theorem xd{p q:PR}(F:JD D ε)(b:S9 D p q=X)(h:Eb (AT P) K (p::q::rs) ε):Eb (AT P) K (q::p::rs) ε:=by
 have key:∃n x v m d,p.op=.st n (.s x) v/\p.guard=W/\p.dst=W/\((∃k,q.op=.bad m k)\/∃k,q.op=.fad (.s m) k)/\q.guard=W/\q.dst=Y d/\d∈D/\d≠x/\d∉v.sl/\m∉v.sl:=by
  unfold S9 at b
  grind
 obtain ⟨n,x,v,m,d,H,I,J,L,M,O,Q,R,θ,κ⟩:=key;obtain⟨e',g,h⟩:=h;have l:=F.congr g.symm;obtain⟨s,off,cs,cs',o,j,C,η,⟨y,w,ζ⟩,δ⟩:=U1 H I J h;have u:d≠s:=by
  intro e;subst e;simp[AF.place]at j;split at j
  next r A G=>simp at j;exact l.no (x:=x) (s:=d) (by rw[G,<-j.1];rfl) Q
  .grind
  .cases j
 have ho:∀a e,o=Y (a,e)->(∃t,e=EV.tv t)/\a≠m:=λa e he=>by
  grind [AF.sl]
 obtain ⟨e,Z,hq⟩:=lq (cs':=cs') (o:=o) (ε:=e') L M O C ho w.1 ζ;refine⟨e',g,hq _ ⟨_,.refl _,δ ((d,e)::e') ?_ (by rw[AB.bq,QQ u];exact C) ?_ _ (Gt Z ?_)⟩⟩
 .grind[AF.place,AB.bq]
 .cases v with
  |c t=>rfl|s a=>
   grind [AF.ev,AB.bq,AF.sl]
 .refine⟨λz=>?_,λz=>?_⟩
  .rw[AB.bq,w.1,Fw,Fw]
   grind [AB.bq,AF.sl]
  .have B:∀a e,o=Y (a,e)->e.x9 z=X:=λa e he=>by
    obtain ⟨_,⟨t,rfl⟩,_⟩:=η a e he;rfl
   rw [AB.d3,w.2,Ge _ _ _ _ _ B,Ge _ _ _ _ _ B,AB.d3]
variable{n:Nat}
theorem ry{e' h:AB}{c:Nat}{o:Option Nat}{es es':Fq}(a:e'.ns c o=Y (n,es))(H:es'.length=es.length)(he:∀z,h.get z=AB.get (e'.tl c o n es') z){y q:Nat}{i:Option Nat}{l:Fq}
  (J:h.get y=.la q i)(b:h.ns q i=Y (m,l)):e'.get y=.la q i/\∃fs',e'.ns q i=Y (m,fs')/\fs'.length=l.length:=by
 obtain ⟨⟨u,L,B⟩,ho,_⟩:=Pn (es':=es') a;have w:c≠y:=by
  grind
 refine ⟨by rw[<-J,he,ho _ w],?_⟩;by_cases I:c=q
 .subst I;cases o with
  |none=>
   have g:h.get c=.xo n es':=by rw[he];simp[AB.tl,AB.bq]
   cases i with
   |none=>
    simp [AB.ns,g]at b;obtain⟨rfl,rfl⟩:=b;exact⟨es,a,H.symm⟩
   |some k=>simp[AB.ns,g]at b
  |some G=>
   rcases B with⟨mm,Q,M,_⟩|⟨cs,k,O,C,F,rfl⟩
   .simp[AB.ns,M]at a
   .cases O;have g:h.get c=.bx (cs.set G ⟨X,.xl n es'⟩):=by rw[he,L]
    cases i with
    |none=>simp[AB.ns,g]at b|some k=>
     by_cases j:G=k
     .subst j;have A:G<cs.length:=(z!.1 C).1;simp[AB.ns,g,A_,Ne A]at b;obtain⟨rfl,rfl⟩:=b;exact⟨es,a,H.symm⟩
     .refine⟨l,?_,rfl⟩;rw[<-b];simp[AB.ns,g,F,A_,QQ j]
 .exact⟨l,by rw[<-b];exact AB.Aae (by rw[he,ho _ I]),rfl⟩
theorem xw{p q:PR}(hj:JD D ε)(a:AaU D p q=X)(h:Eb (AT P) K (p::q::rs) ε):Eb (AT P) K (q::p::rs) ε:=by
 unfold AaU at a;split at a
 .rename_i x v k y z m d e1 e2 e3 f1 f2 f3;simp[B!,decide_eq_false_iff_not,o4]at a;obtain⟨⟨dD,Z⟩,hdv⟩:=a;obtain⟨e',O,h⟩:=h;have η:=hj.congr O.symm;simp only[PR.wp,e1,e2,e3,AE.wp,AB.put]at h;split at h
  .rename_i κ i0 c R;split at h
   .rename_i n es u B hu;obtain⟨h1,h2,es',h3,h4,h5,gt,A,b⟩:=h;have H:d≠κ:=by
     rintro rfl;cases x with
     |c t=>cases R
     |s xs=>exact η.no (x:=xs) (s:=d) (by simp[AF.ev]at R;rw[R];rfl) dD
    simp [PR.wp,f1,f2,f3,AE.wp,AB.put,AF.q0]at b;have θ:=A.1;obtain⟨⟨w,hw,hww⟩,ho,_⟩:=Pn (es':=es') B;have ζ:w.val=W:=by rcases hww with⟨_,_,_,_,_,rfl⟩|⟨_,_,_,_,_,rfl⟩<;>rfl
    have δ:∀t,z.val gt=Y t->z.val e'=Y t:=by
     intro t F;cases z with
     |c t'=>exact F|s zz=>
      simp [AF.val,AF.ev]at F|-;by_cases l:κ=zz
      .subst l;rw[θ,hw,ζ]at F;cases F
      .rw[θ,ho _ l]at F;exact F
    have I:∃g i G j Q,gt.get y=.la g i/\gt.ns g i=Y (m,G)/\z.val gt=Y (.int Q j)/\0<=j/\j<G.length/\Eb (AT P) K rs ((d,.lp g i (j.toNat*m))::gt):=by
     cases J:gt.get y<;>rw[J]at b<;>simp[Aj]at b<;>try exact b.elim
     .cases l:z.val gt with
      |none=>rw[l]at b;exact b.elim|some t=>
       rw [l]at b;cases t<;>try exact b.elim
       have:=b.1.1;simp[AF.ev,J,EV.pc]at this
     .rename_i g i;cases C:gt.ns g i with
      |none=>rw[C]at b;exact b.elim|some pp=>
       obtain ⟨m',G⟩:=pp;rw[C]at b;simp only at b;cases l:z.val gt with
       |none=>rw[l]at b;exact b.elim|some t=>
        rw [l]at b;cases t<;>try exact b.elim
        rename_i Q j;obtain⟨⟨_,rfl⟩,k1,k2,k3⟩:=b;exact⟨g,i,G,j,Q,rfl,C,rfl,k1,k2,k3⟩
    obtain ⟨g,i,G,j,Q,m1,m2,m3,m4,m5,m6⟩:=I;obtain⟨n1,fs',n2,n3⟩:=ry B h4 θ m1 m2;refine⟨e',O,?_⟩;simp only[PR.wp,f1,f2,f3,AE.wp,AB.put,AF.q0,n1,n2,Aj,δ _ m3,AF.ev,EV.pc];refine⟨⟨trivial,trivial⟩,m4,by rw[n3];exact m5,_,.refl _,?_⟩;have L:∀(o:AF),d∉o.sl->o.ev ((d,.lp g i (j.toNat*m))::e')=o.ev e':=by
     intro o ho;cases o with
     |c t=>rfl|s t=>
      simp only[AF.ev,AB.bq];rw[QQ];intro e;exact ho (by simp[AF.sl,e])
    simp only[PR.wp,e1,e2,e3,AE.wp,AB.put,L x Z,L v hdv,R,hu];have M:AB.ns ((d,.lp g i (j.toNat*m))::e') κ i0=Y (n,es):=by rw[AB.x7 H];exact B
    rw [M];refine⟨h1,h2,es',h3,h4,h5,Gt m6 ?_⟩;refine N5.symm (N5.trans (bu (.refl _) H) ⟨λs=>?_,λs=>?_⟩)
    .simp[AB.bq,θ]
    .simp[AB.d3,A.2]
   .exact h.elim
  .exact h.elim
 .cases a
theorem dE{ε env2:AB}{b:Nat}{o:Option AF}(h:∀y∈o.toList,y.val env2=y.val ε):Hz env2 b o=Hz ε b o:=by
 cases o with
 |none=>rfl|some y=>simp[Hz];exact h y V
theorem yB{S:FuncId->Fq->As->Prop}{p:AE}{xs:List AF}{d:Option Nat}{K:EV->AB->Prop}(C:p.vops=Y xs)(h:p.wp S ε d K):
  ∃t,K (.tv t) ε/\(∀x∈xs,∃u,x.val ε=Y u)/\∀env2,(∀x∈xs,x.val env2=x.val ε)->∀o:EV->AB->Prop,o (.tv t) env2->p.wp S env2 d o:=by
 cases p<;>simp[AE.vops]at C<;>first|cases C|skip
 case bin k op x y=>
  simp [AE.wp]at h;split at h
  .rename_i a b g A;cases B:Mb k op a b with
   |none=>rw[B]at h;exact h.elim|some t=>
    rw [B]at h;refine⟨t,h,λz c=>?_,λenv2 he o j=>?_⟩
    .simp at c;rcases c with rfl|rfl
     .exact⟨a,g⟩
     .exact⟨b,A⟩
    .simp[AE.wp,he x V,he y V,g,A,B];exact j
  .exact h.elim
 case fdv x k=>
  simp [AE.wp]at h;split at h
  .rename_i row g;refine⟨_,h,λz c=>?_,λenv2 he o j=>?_⟩
   .rw[x!]at c;subst c;exact⟨_,g⟩
   .simp[AE.wp,he x V,g];exact j
  .exact h.elim
 case ldv x k=>
  simp [AE.wp]at h;split at h
  .rename_i row g;refine⟨_,h.2,λz c=>?_,λenv2 he o j=>?_⟩
   .rw[x!]at c;subst c;exact⟨_,g⟩
   .simp[AE.wp,he x V,g];exact⟨h.1,j⟩
  .exact h.elim
 case len x=>
  simp [AE.wp]at h;split at h
  .rename_i n es g;refine⟨_,h,λz c=>?_,λenv2 he o j=>?_⟩
   .rw[x!.1 c];exact⟨_,g⟩
   .simp[AE.wp,he x V,g];exact j
  .exact h.elim
 case cvt k x=>
  simp [AE.wp]at h;split at h
  .rename_i J n g;refine⟨_,h,λz c=>?_,λenv2 he o j=>?_⟩
   .rw[x!.1 c];exact⟨_,g⟩
   .simp[AE.wp,he x V,g];exact j
  .exact h.elim
 case mm b x y=>
  simp [AE.wp]at h;split at h
  .rename_i k a J a' g A;refine⟨_,h.2,λz c=>?_,λenv2 he o j=>?_⟩
   .simp at c;rcases c with rfl|rfl
    .exact⟨_,g⟩
    .exact⟨_,A⟩
   .simp[AE.wp,he x V,he y V,g,A];exact⟨h.1,j⟩
  .exact h.elim
 case slc n x lo hi=>
  simp [AE.wp]at h;split at h
  .rename_i m es g;split at h
   .rename_i F l G r H I;refine⟨_,h.2.2,λz c=>?_,λenv2 he o j=>?_⟩
    .simp at c;rcases c with rfl|c|c
     .exact⟨_,g⟩
     .cases c;exact⟨_,H⟩
     .cases c;exact⟨_,I⟩
    .have F:Hz env2 0 lo=Hz ε 0 lo:=dE (λy w=>he y (by simp at w|-;exact .inr (.inl w)));have G:Hz env2 es.length hi=Hz ε es.length hi:=dE (λy w=>he y (by simp at w|-;exact .inr (.inr w)));simp[AE.wp,he x V,g,F,G,H,I];exact⟨h.1,h.2.1,j⟩
   .exact h.elim
  .exact h.elim
theorem xu{p q:PR}(a:Aa9 D p q=X)(h:Eb (AT P) K (p::q::rs) ε):Eb (AT P) K (q::p::rs) ε:=by
 unfold Aa9 at a;split at a
 .rename_i xs d n x v η R θ ζ δ Z;simp[bne_iff_ne,B!,decide_eq_false_iff_not]at a;obtain⟨⟨⟨_,hdx⟩,I⟩,J⟩:=a;obtain⟨e',L,h⟩:=h;unfold PR.wp at h;rw[R,θ]at h;simp[AB.put]at h;obtain⟨t,⟨y,k,hw⟩,hs,M⟩:=yB η h;obtain⟨s,off,cs,cs',o,h1,O,Q,hK,h5⟩:=U1 ζ δ Z hw;have gy:∀z,d≠z->y.get z=e'.get z:=λz A=>by rw[k.1,AB.bq,QQ A]
  have g:d≠s:=λe=>by
   rw [k.1,AB.bq,Ne e]at O;cases O
  have hp:(AF.s x).place e'=Y (s,off):=by
   grind [AF.place]
  have hb:e'.get s=.bx cs:=by rw[<-gy s g];exact O
  have hv:v.ev e'=v.ev y:=by
   cases v with
   |c t=>rfl|s w=>
    grind [AF.ev,AF.sl]
  have hq:∀l:AB->Prop,l (PI s cs' o e')->q.wp (AT P) e' l:=λl B=>h5 e' hp hb hv l B;refine⟨e',L,hq _ ⟨_,.refl _,?_⟩⟩;unfold PR.wp;rw[R,θ];simp[AB.put];refine M _ (λz A=>?_) _ (Gt hK ?_)
  .cases z with
   |c t=>rfl|s m=>
    obtain ⟨u,hu⟩:=hs _ A;have C:¬s=m:=λe=>by
     grind [AF.val,AF.ev,EV.val]
    simp [AF.val,AF.ev,Fw,QQ C];cases o with
    |none=>rfl|some b=>
     have F:¬b.1=m:=λe=>Aw J (x:=m) (x_.2 ⟨_,A,c?⟩) (by rw[(Q b.1 b.2 rfl).1,e];simp[AF.sl]);simp[QQ F]
  .refine⟨λz=>?_,λz=>?_⟩
   .rw[AB.bq,Fw,Fw];by_cases G:s=z
    .subst G;rw[Ne rfl,QQ g,Ne rfl]
    .rw[QQ G,QQ G];cases o with
     |none=>
      simp only;rw[k.1,AB.bq]
     |some b=>
      have H:¬d=b.1:=λe=>I (by rw[(Q b.1 b.2 rfl).1,e];simp[AF.sl]);simp only;by_cases j:b.1=z
      .rw[Ne j,Ne j,QQ (λe=>H (e.trans j.symm))]
      .rw[QQ j,QQ j,k.1,AB.bq]
   .have κ:∀w e,o=Y (w,e)->e.x9 z=X:=λw e he=>by
     obtain ⟨_,⟨t,rfl⟩,_⟩:=Q w e he;rfl
    rw [AB.d3,Ge _ _ _ _ _ κ,Ge _ _ _ _ _ κ,k.2,AB.d3]
 .cases a
theorem xk{p q:PR}(hj:JD D ε)(a:Abc D p q=X)(h:Eb (AT P) K (p::q::rs) ε):Eb (AT P) K (q::p::rs) ε:=by
 unfold Abc at a;split at a
 .rename_i b m d n x v θ j κ Z f2 f3;simp[bne_iff_ne,B!,decide_eq_false_iff_not,o4]at a;obtain⟨⟨⟨⟨⟨⟨_,bD⟩,hbx⟩,hdx⟩,hdb⟩,Q⟩,η⟩:=a;obtain⟨e',I,h⟩:=h;have hj':=hj.congr I.symm;unfold PR.wp at h;rw[θ,j,κ]at h;simp[AB.put,AE.wp]at h;split at h
  case h_2=>exact h.elim
  rename_i bs hbs;obtain⟨O,y,A,hw⟩:=h;obtain⟨s,off,cs,cs',o,h1,g,C,L,h5⟩:=U1 Z f2 f3 hw;have gy:∀z,d≠z->y.get z=e'.get z:=λz ζ=>by rw[A.1,AB.bq,QQ ζ]
  have u:d≠s:=λe=>by
   rw [A.1,AB.bq,Ne e]at g;cases g
  have J:(AF.s x).place e'=Y (s,off):=by
   grind [AF.place]
  have hsb:¬s=b:=by
   intro e;subst e;simp[AF.place]at J;split at J
   next r off' hx=>simp at J;exact hj'.no (x:=x) (s:=s) (by rw[hx,<-J.1];rfl) bD
   .grind
   .cases J
  have H:e'.get s=.bx cs:=by rw[<-gy s u];exact g
  have hv:v.ev e'=v.ev y:=by
   cases v with
   |c t=>rfl|s G=>
    grind [AF.ev,AF.sl]
  have hq:∀F:AB->Prop,F (PI s cs' o e')->q.wp (AT P) e' F:=λF δ=>h5 e' J H hv F δ;refine⟨e',I,hq _ ⟨_,.refl _,?_⟩⟩;have hg:(PI s cs' o e').get b=.bx bs:=by
   grind [Fw,AF.sl]
  unfold PR.wp;rw[θ,j,κ];simp[AB.put,AE.wp,hg];refine⟨O,Gt L ?_⟩;refine⟨λz=>?_,λz=>?_⟩
  .rw[AB.bq,Fw,Fw];by_cases B:s=z
   .subst B;rw[Ne rfl,QQ u,Ne rfl]
   .rw[QQ B,QQ B];cases o with
    |none=>
     simp only;rw[A.1,AB.bq]
    |some l=>
     have M:¬d=l.1:=λe=>Q r?;simp only;by_cases w:l.1=z
     .rw[Ne w,Ne w,QQ (λe=>M (e.trans w.symm))]
     .rw[QQ w,QQ w,A.1,AB.bq]
  .have O:∀G e,o=Y (G,e)->e.x9 z=X:=λG e he=>by
    obtain ⟨_,⟨t,rfl⟩,_⟩:=C G e he;rfl
   rw [AB.d3,Ge _ _ _ _ _ O,Ge _ _ _ _ _ O,A.2,AB.d3]
 .rename_i b k d n x v θ j κ Z f2 f3;simp[bne_iff_ne,B!,decide_eq_false_iff_not,o4]at a;obtain⟨⟨⟨_,hdx⟩,Q⟩,η⟩:=a;obtain⟨e',I,h⟩:=h;unfold PR.wp at h;rw[θ,j,κ]at h;obtain⟨e0,hn0,R,y,A,hw⟩:∃e0,(∀c,e0≠.bx c)/\(∀j:AB,j.get b=e'.get b\/(∃c c',e'.get b=.bx c/\j.get b=.bx c')->∀F:EV->AB->Prop,F e0 j->(AE.bad b k).wp (AT P) j (Y d) F)/\Eb (AT P) K (q::rs) ((d,e0)::e'):=by
   simp only[AB.put,AE.wp]at h;split at h
   .rename_i H;refine⟨_,V,λj g F L=>?_,h⟩;obtain⟨c',C⟩:∃c',j.get b=.bx c':=by
     rcases g with g|⟨_,c',_,g⟩
     .exact⟨_,g.trans H⟩
     .exact⟨c',g⟩
    simp only[AE.wp,C];exact L
   .rename_i H;refine⟨_,V,λj g F L=>?_,h⟩;have C:j.get b=e'.get b:=g.resolve_right λ⟨c,c',h4,_⟩=>by rw[H]at h4;cases h4
    simp only[AE.wp,C,H];exact L
   .exact h.elim
  obtain ⟨s,off,cs,cs',o,h1,g,C,L,h5⟩:=U1 Z f2 f3 hw;have gy:∀z,d≠z->y.get z=e'.get z:=λz ζ=>by rw[A.1,AB.bq,QQ ζ]
  have u:d≠s:=λe=>by
   rw [A.1,AB.bq,Ne e]at g;exact hn0 _ g
  have J:(AF.s x).place e'=Y (s,off):=by
   grind [AF.place]
  have H:e'.get s=.bx cs:=by rw[<-gy s u];exact g
  have hv:v.ev e'=v.ev y:=by
   cases v with
   |c t=>rfl|s G=>
    grind [AF.ev,AF.sl]
  refine ⟨e',I,h5 e' J H hv _ ⟨_,.refl _,?_⟩⟩;unfold PR.wp;rw[θ,j,κ];refine R _ ?_ _ (Gt L ?_)
  .rw[Fw];by_cases B:s=b
   .subst B;exact .inr ⟨cs,cs',H,by rw[Ne rfl]⟩
   .rw[QQ B];cases o with
    |none=>exact .inl rfl|some l=>
     have:¬l.1=b:=λe=>η r?;simp only;rw[QQ this];exact .inl rfl
  refine ⟨λz=>?_,λz=>?_⟩
  .simp only[AB.put];rw[AB.bq,Fw,Fw];by_cases B:s=z
   .subst B;rw[Ne rfl,QQ u,Ne rfl]
   .rw[QQ B,QQ B];cases o with
    |none=>
     simp only;rw[A.1,AB.bq]
    |some l=>
     have M:¬d=l.1:=λe=>Q r?;simp only;by_cases w:l.1=z
     .rw[Ne w,Ne w,QQ (λe=>M (e.trans w.symm))]
     .rw[QQ w,QQ w,A.1,AB.bq]
  .have O:∀G e,o=Y (G,e)->e.x9 z=X:=λG e he=>by
    obtain ⟨_,⟨t,rfl⟩,_⟩:=C G e he;rfl
   simp only[AB.put];rw[AB.d3,Ge _ _ _ _ _ O,Ge _ _ _ _ _ O,A.2,AB.d3]
 .cases a
variable{e:EV}
theorem bm:∀{xs:List AF},d∉C6 xs->Go.Sf.vals ((d,e)::ε) xs=Go.Sf.vals ε xs
 |[],_=>rfl|x::xs,h=>by
  simp only[C6,y_,not_or]at h;have a:x.val ((d,e)::ε)=x.val ε:=by
   cases x with
   |c t=>rfl|s n=>simp only[AF.val,AF.ev,AB.bq];rw[QQ (λhh=>h.1 (by simp[AF.sl,hh]))]
  simp only[Go.Sf.vals,a,bm h.2]
variable{x:AF}
theorem px{xs:List AF}(h:xs[i]?=Y x)(a:m∈x.sl):m∈C6 xs:=by
 induction xs generalizing i with
 |nil=>simp at h|cons y c b=>
  rw [C6,y_];cases i with
  |zero=>simp at h;subst h;exact .inl a|succ i=>exact .inr (b c!)
theorem YY:∀{i:Nat}{xs:List AF},d∉C6 xs->F2 ((d,e)::ε) i xs=F2 ε i xs
 |_,[],_=>by simp[F2]|0,x::xs,h=>by
  simp only[C6,y_,not_or]at h;have:Go.Sf.vals ((d,e)::ε) xs=Go.Sf.vals ε xs:=bm h.2;simp only[F2,this]
 |i+1,x::xs,h=>by
  simp only[C6,y_,not_or]at h;have a:x.val ((d,e)::ε)=x.val ε:=by
   cases x with
   |c t=>rfl|s n=>simp only[AF.val,AF.ev,AB.bq];rw[QQ (λhh=>h.1 (by simp[AF.sl,hh]))]
  simp only[F2,a,YY h.2]
theorem xh(Z:Lr F0 w0 N ε){op:Oper}{p q:PR}(hp:L8 P N ops op p=X)(a:AaR p q=X)(h:Eb (AT P) K (p::q::rs) ε):Eb (AT P) K (q::p::rs) ε:=by
 have I:=Y8 a;unfold AaR at a;split at a
 .rename_i f xs i d cells l Q R θ F G H;simp only[gR,bne_iff_ne,ne_eq,B!,y!,decide_eq_false_iff_not]at a;obtain⟨n1,κ⟩:=a;obtain⟨e',z,h⟩:=h;have J:=Z.congr z.symm;obtain⟨gt,⟨⟨e1,A,η⟩,k1,_⟩,_⟩:=FC J hp (Xy I h);simp only[PR.wp,F,G,H,AB.put,AE.wp]at η;have u:e'.eo l=X:=by rw[<-k1,<-A.2];exact η.1
  simp only[PR.wp,Q,R,θ,AB.put]at h;obtain⟨s,cs,ts,cs',us,h1,h2,ζ,h4,h5,h6,h7⟩:=aG h;obtain⟨x,δ,g⟩:=Option.bind_eq_some_iff.1 h1;have w:∀m∈x.sl,m≠l:=λm hm hh=>κ (hh▸px δ hm);have L:s≠l:=by
   cases x with
   |c t=>cases g
   |s m=>
    simp only[AF.place]at g;split at g
    next b o he=>simp only[mE,Prod.mk.injEq]at g;exact λhh=>AB.o3 l e' u m (by rw[he,g.1,hh];rfl)
    .simp only[mE,Prod.mk.injEq]at g;exact λhh=>w m c? (g.1.trans hh)
    .cases g
  have M:(xs[i]?).bind (·.place ((l,EV.bx cells)::e'))=Y (s,0):=by
   rw [δ,Option.bind_some];cases x with
   |c t=>cases g
   |s m=>
    simp only[AF.place]at g|-;rw[AB.bq,QQ (λhh=>w m c? hh.symm)];exact g
  have O:AB.noX s W ((l,EV.bx cells)::e')=X:=by
   rw [AB.AaP]at ζ|-;intro k;rw[AB.bq];split
   .rfl
   .exact ζ k
  refine ⟨e',z,?_⟩;simp only[PR.wp,F,G,H,AB.put,AE.wp];refine⟨u,_,.refl _,?_⟩;simp only[PR.wp,Q,R,θ,AB.put,AE.wp,M,YY κ,h5,Aj];rw[AB.bq,QQ (λhh=>L hh.symm),h2];refine⟨⟨O,h4⟩,cs',us,h6,λC=>?_⟩;obtain⟨e2,j,B⟩:=h7 C;simp only[PR.wp,F,G,H,AB.put,AE.wp]at B;refine Gt B.2 ⟨λk=>?_,λc=>?_⟩
  .simp only[AB.bq,j.1]
   grind
  .simp only[AB.d3,j.2,iZ,EV.x9,EV.pc];rfl
 .cases a
theorem l7{oq:Oper}(w:L8 P N ops oq q=X){a:List PR}:∀(pre:List PR),(∀p∈pre,AaS D p q=X/\∃o,L8 P N ops o p=X)->∀{ε:AB},Lr F0 w0 N ε->JD D ε->Eb (AT P) K (pre++q::a) ε->Eb (AT P) K (q::(pre++a)) ε
 |[],_,ε,_,_,h=>h|p::pre,c,ε,C,F,h=>by
  obtain ⟨b,o,ho⟩:=c p V;obtain⟨e',g,h⟩:=h;obtain⟨gt,B,k,l,j⟩:=head ho (gH b) (C.congr g.symm) (F.congr g.symm) h;have A:=l7 w pre (λp z=>c p (by simp[z])) k l B;have u:Eb (AT P) K (p::q::(pre++a)) ε:=⟨e',g,j _ A⟩;simp[AaS]at b
  grind [swap,uw,xe,xt,xx,xd,xw,xu,xk,xj,xi,xy,xr,xm,xf,xg,xh]
theorem zk{S:FuncId->Fq->As->Prop}{d:Option Nat}{K:EV->AB->Prop}(h:(AE.st n x v).wp S ε d K):(AE.st n x v).wp S ε d λe env'=>K e env'/\e=.undef/\∀c,env'.eo c=ε.eo c:=by
 simp [AE.wp]at h|-;split at h
 .rename_i s off a;split at h
  .rename_i cs b;split at h
   .grind[AB.d3,EV.x9,EV.pc]
   .grind[AB.d3,EV.x9,EV.pc]
   .exact h.elim
  .exact h.elim
 .exact h.elim
theorem wJ{S:FuncId->Fq->As->Prop}{d:Option Nat}{K:EV->AB->Prop}(h:(AE.stb n s v).wp S ε d K):(AE.stb n s v).wp S ε d λe env'=>K e env'/\e=.undef/\∀c,env'.eo c=ε.eo c:=by
 simp [AE.wp]at h|-;split at h
 .rename_i cs a;split at h
  .grind[AB.d3,EV.x9,EV.pc]
  .grind[AB.d3,EV.x9,EV.pc]
  .exact h.elim
 .exact h.elim
theorem Y3(ε:AB)(q:Nat)(i:Option Nat)(n:Nat)(es:Fq)(c:Nat):AB.eo c (ε.tl q i n es)=AB.eo c ε:=by
 cases i with
 |none=>simp[AB.tl,AB.d3,EV.x9,EV.pc]|some k=>
  grind [AB.tl,AB.d3,EV.x9,EV.pc]
theorem wG{S:FuncId->Fq->As->Prop}{q:Nat}{d:Option Nat}{K:EV->AB->Prop}(h:(AE.cpt x q).wp S ε d K):(AE.cpt x q).wp S ε d λe env'=>K e env'/\e=.undef/\∀c,env'.eo c=ε.eo c:=by
 simp [AE.wp]at h|-;split at h
 .grind[AB.d3,EV.x9,EV.pc]
 .grind[AB.d3,EV.x9,EV.pc]
 .exact h.elim
theorem wM{S:FuncId->Fq->As->Prop}{k:Nat}{d:Option Nat}{K:EV->AB->Prop}(h:(AE.xst x v k).wp S ε d K):(AE.xst x v k).wp S ε d λe env'=>K e env'/\e=.undef/\∀c,env'.eo c=ε.eo c:=by
 simp [AE.wp]at h|-;split at h
 .grind[Y3]
 .exact h.elim
theorem kM(ε:AB)(q i:Nat)(es:Fq)(c:Nat):AB.eo c (ε.AbO q i es)=AB.eo c ε:=by grind[AB.AbO,AB.d3,EV.x9,EV.pc]
theorem wI{S:FuncId->Fq->As->Prop}{d:Option Nat}{K:EV->AB->Prop}(h:(AE.nst x v).wp S ε d K):(AE.nst x v).wp S ε d λe env'=>K e env'/\e=.undef/\∀c,env'.eo c=ε.eo c:=by
 simp [AE.wp]at h|-
 grind [kM]
theorem wK{S:FuncId->Fq->As->Prop}{a:List (Option AO)}{d:Option Nat}{K:EV->AB->Prop}(h:(AE.stq n a x v).wp S ε d K):(AE.stq n a x v).wp S ε d λe env'=>K e env'/\e=.undef/\∀c,env'.eo c=ε.eo c:=by
 simp [AE.wp]at h|-;split at h
 .rename_i s off t g hv;split at h
  .rename_i cs j;cases b:Ey a t.cells with
   |none=>rw[b]at h;exact h.elim|some ds=>
    grind [AB.d3,EV.x9,EV.pc]
  .exact h.elim
 .exact h.elim
theorem wH{S:FuncId->Fq->As->Prop}{m x v:AF}{d:Option Nat}{K:EV->AB->Prop}(h:(AE.mup s m x v).wp S ε d K):(AE.mup s m x v).wp S ε d λe env'=>K e env'/\e=.undef/\∀c,env'.eo c=ε.eo c:=by
 simp [AE.wp]at h|-;split at h
 .rename_i b a g t j k l;split at h
  .grind[AB.d3,EV.x9,EV.pc]
  .exact h.elim
 .exact h.elim
theorem wL{S:FuncId->Fq->As->Prop}{n s q:Nat}{d:Option Nat}{K:EV->AB->Prop}(h:(AE.stx n s q).wp S ε d K):(AE.stx n s q).wp S ε d λe env'=>K e env'/\e=.undef/\∀c,env'.eo c=ε.eo c:=by
 simp [AE.wp]at h|-
 grind [AB.d3,EV.x9,EV.pc]
theorem pf{S:FuncId->Fq->As->Prop}{f:FuncId}{a:List AF}{d:Option Nat}{K:EV->AB->Prop}(h:(AE.AaB f x a).wp S ε d K):(AE.AaB f x a).wp S ε d λe env'=>K e env'/\e.pc=W/\∀c,env'.eo c=ε.eo c:=by
 simp only[AE.wp]at h|-;cases b:x.q0 ε with
 |none=>rw[b]at h;exact h.elim|some p=>
  cases hv:vals ε a with
  |none=>rw[b,hv]at h;exact h.2.elim|some z=>
   rw [b,hv]at h;obtain⟨k,zs,g,l,o,u,w⟩:=h;refine⟨k,zs,g,l,o,u,λj=>⟨w j,?_,λc=>Y3 _ _ _ _ _ c⟩⟩;unfold EV.ofs;split<;>rfl
variable{r:PR}
theorem te{S:FuncId->Fq->As->Prop}{K:AB->Prop}(O:eA D r=X)(hd:OB r.op=X->r.dst=W)(a:JD D ε)(h:r.wp S ε K):r.wp S ε λenv'=>K env'/\JD D env':=by
 simp [eA,B!]at O;rcases O with((((((F|L)|l)|Z)|hca)|M)|hcb)|⟨⟨⟨hm,k⟩,Q⟩,w⟩
 rotate_right 2
 .exact PR.gE _ _ (λenv' he=>⟨he.1,λx u=>by rw[he.2.1];exact a x u⟩) r (Xy hcb h)
 rotate_right
 .unfold okCm at M;split at M
  .rename_i f x ys d A B;have put:∀e:EV,e.pc=W->∀env':AB,(∀c,env'.eo c=ε.eo c)->JD D (env'.put r.dst e):=λe he env' κ c hc=>by
    rw [B];show AB.eo c ((d,e)::env')=X;rw[AB.d3,κ,a c hc];simp[EV.x9,he]
   have C:(r.op.wp S ε r.dst λe env'=>K (env'.put r.dst e))->r.op.wp S ε r.dst λe env'=>K (env'.put r.dst e)/\JD D (env'.put r.dst e):=λo=>by
    rw [A]at o|-;exact AE.gE S ε _ (λe env' he=>⟨he.1,put e he.2.1 env' he.2.2⟩) _ (pf o)
   unfold PR.wp at h|-;split
   next Q=>rw[Q]at h;exact C h
   .rename_i g b Q;rw[Q]at h;simp only at h;split
    next q l=>rw[l]at h;exact⟨λw=>C (h.1 w),λw=>⟨h.2 w,put .sk rfl ε λ_=>rfl⟩⟩
    next G=>rw[G]at h;exact⟨h,put .sk rfl ε λ_=>rfl⟩
    .rename_i H I;split at h
     next q l=>exact absurd l (H q)
     next l=>exact absurd l I
     .exact h.elim
  .cases M
 rotate_right
 .exact PR.gE _ _ (λenv' he=>⟨he.1,λx u=>by rw[he.2];exact a x u⟩) r (pv hca h)
 rotate_left 4
 .obtain⟨gt,k1,k2,k3⟩:=eC Z h;exact k3 _ ⟨k1,λx u=>by rw[k2];exact a x u⟩
 rotate_left 1
 .have k:=hd F;have C:(r.op.wp S ε r.dst λe env'=>K (env'.put r.dst e))->r.op.wp S ε r.dst λe env'=>K (env'.put r.dst e)/\JD D (env'.put r.dst e):=by
   intro o;rw[k]at o|-;generalize r.op=p at F o|-;cases p<;>simp[OB]at F<;>first|cases F|skip
   .refine AE.gE S ε W (λe env' he=>⟨he.1,λd hd=>?_⟩) _ (zk o);simp[AB.put];rw[he.2.2];exact a d hd
   .refine AE.gE S ε W (λe env' he=>⟨he.1,λd hd=>?_⟩) _ (wJ o);simp[AB.put];rw[he.2.2];exact a d hd
   .refine AE.gE S ε W (λe env' he=>⟨he.1,λd hd=>?_⟩) _ (wM o);simp[AB.put];rw[he.2.2];exact a d hd
   .refine AE.gE S ε W (λe env' he=>⟨he.1,λd hd=>?_⟩) _ (wL o);simp[AB.put];rw[he.2.2];exact a d hd
   .refine AE.gE S ε W (λe env' he=>⟨he.1,λd hd=>?_⟩) _ (wG o);simp[AB.put];rw[he.2.2];exact a d hd
   .refine AE.gE S ε W (λe env' he=>⟨he.1,λd hd=>?_⟩) _ (wI o);simp[AB.put];rw[he.2.2];exact a d hd
   .refine AE.gE S ε W (λe env' he=>⟨he.1,λd hd=>?_⟩) _ (wK o);simp[AB.put];rw[he.2.2];exact a d hd
   .refine AE.gE S ε W (λe env' he=>⟨he.1,λd hd=>?_⟩) _ (wH o);simp[AB.put];rw[he.2.2];exact a d hd
  unfold PR.wp at h|-;split
  .grind
  .rename_i g b hr;rw[hr]at h;simp only at h;split
   next q l=>rw[l]at h;exact⟨λw=>C (h.1 w),λw=>⟨h.2 w,by rw[k];exact a⟩⟩
   next G=>rw[G]at h;exact⟨h,by rw[k];exact a⟩
   .rename_i H I;split at h
    next q l=>exact absurd l (H q)
    next l=>exact absurd l I
    .exact h.elim
 .unfold Abe at L;split at L
  next gs d A B J=>obtain⟨ts,θ,ζ,δ⟩:=Xd A B J h;refine TY A B J θ ζ ⟨δ,λx u=>?_⟩;rw[AB.d3,Mj,a x u];rfl
  .cases L
 .unfold okQ at l;split at l
  next s d A B J=>obtain⟨n,es,θ,h2,ζ,δ⟩:=jR A B J h;refine jS A B J θ h2 ζ ⟨δ,λx u=>?_⟩;have:=a x u;simp[AB.d3,EV.x9,EV.pc,this]
  .rename_i n s z x d A B J;simp[PR.wp,A,B,J,AE.wp,AB.put]at h|-;split at h
   next d' m es kk j R hs u=>simp at R;subst R;refine⟨h.1,h.2.1,h.2.2.1,h.2.2.2,λy hy=>?_⟩;have:=a y hy;simp[AB.d3,EV.x9,EV.pc,this]
   .exact h.elim
  .cases l
 .obtain⟨d,hd⟩:=C'.1 k;have η:r.op.og=X->r.guard=W:=λκ=>by
   rcases Q with h|h
   .rw[κ]at h;cases h
   .simpa using h
  refine PR.gE S ε (λenv' he=>?_) r (QF hd hm η h);obtain⟨θ,e,f,hF⟩:=he;exact⟨θ,hF.jd w a⟩
theorem pM{S:FuncId->Fq->As->Prop}{a:Act}{w:World}:∀{ε:AB},Tr rs=X->Eb S K rs ε->Bw F0 w0 ε a w->∃env',K env'/\Bw F0 w0 env' a w:=by
 induction rs with
 |nil=>intro ε _ h b;obtain⟨e,g,j⟩:=h;exact⟨e,j,b.congr λn=>(g.1 n).symm⟩
 |cons r rs A=>
  intro ε c h b;simp[Tr]at c;obtain⟨g,j⟩:=c;obtain⟨e',k,h⟩:=h;have b:=b.congr (λn=>(k.1 n).symm);split at g
  .rename_i s l o u;simp[PR.wp,l,o,u,AE.wp]at h;split at h
   next cs z=>obtain⟨G,b⟩:=b;exact A j h (b.frz z)
   .exact h.elim
  .cases g
theorem Ts:∀(os:List Oper)(rs:List PR),NG P N ops os rs=X->(∀i o,os[i]?=Y o->L8 P N ops o (Om rs i)=X)/\Tr (rs.drop os.length)=X/\rs=(z? os.length).map (Om rs)++rs.drop os.length
 |[],rs,h=>⟨λi o h=>by simp at h,h,V⟩|o::os,[],h=>by simp[NG]at h|o::os,r::rs,h=>by
  simp [NG]at h;obtain⟨b,c,g⟩:=Ts os rs h.2;refine⟨λi a hi=>?_,by simpa using c,?_⟩
  .cases i with
   |zero=>simp[List.getElem?_cons_zero]at hi;subst hi;exact h.1|succ i=>simp[List.getElem?_cons_succ]at hi;exact b i a hi
  .rw[a5,List.range_succ_eq_map,w_,List.map_map,w!,List.drop_succ_cons];congr 1
theorem mC{Q:Exit->Act->World->Prop}(hok:VL P N D ops rs=X)(hpd:∀i v,p=Y (i,v)->∀r∈rs,r.dst≠Y i)(hQ:∀ε a w,K ε->Lq N p a->Bw F0 w0 ε a w->Q .normal a w):
  ∀(fuel:Nat)(rem:I2)(b:Array Bool)(ε:AB)(a:Act)(w:World),rem.length=fuel->rem.Pairwise (·<·)->(∀j,j∈rem↔j<ops.size/\b.getD j X=T)->b.size=ops.size ->
   (∀k o,ops[k]?=Y o->b.getD k T=X->∀e∈o.after,Region.binds .any e=X->b.getD e.on T=X) ->
   Lq N p a->Bw F0 w0 ε a w->JD D ε->Eb (AT P) K (rem.map (Om rs)++rs.drop ops.size) ε->wpAny P .any ops Q fuel b a w:=by
 simp only[VL,gR,y?,A']at hok;obtain⟨⟨⟨⟨hl,hs⟩,he⟩,hM⟩,hP⟩:=hok;obtain⟨H,hl2,hl3⟩:=Ts ops.toList rs hl;simp[Array.getElem?_toList]at H hl2 hl3;intro fuel
 induction fuel with
 |zero=>
  intro rem b ε a w z κ c hsz η hN hI θ h;have:rem=[]:=List.eq_nil_of_length_eq_zero z;subst this;refine⟨?_,?_⟩
  .refine List.eq_nil_iff_forall_not_mem.2 λj J=>?_;rw[mem_ready]at J;obtain⟨I,o,ho,_⟩:=J;have:=(c j).2 ⟨(C?.1 ho).1,I⟩;cases this
  .obtain⟨env',I,u⟩:=pM hl2 h hI;exact hQ env' a w I hN u
 |succ fuel ih=>
  intro rem b ε a w z κ c hsz η hN hI θ h;refine⟨λhnil=>?_,λi hi=>?_⟩
  ·
   exfalso;cases rem with
   |nil=>simp at z|cons i rem=>
    have I:=(c i).1 V;have l:i∈Region.ready .any ops b:=by
     rw [mem_ready];have ho:ops[i]?=Y ops[i]:=D_ I.1;refine⟨I.2,_,ho,λe B M=>?_⟩;have:=he i I.1;rw[ho]at this;simp only[y?,B',B!,o4]at this;have hlt:=(this e u?).resolve_left (by simp[M]);cases G:b.getD e.on T with
     |true=>rfl|false=>
      have ζ:e.on∈i::rem:=by
       refine (c _).2 ⟨U,?_⟩;have:e.on<b.size:=U
       simp [D',D_ this]at G|-;exact G
      rcases A!.1 ζ with u|u
      .omega
      .have:=(A?.1 κ).1 _ u;omega
    rw [hnil]at l;cases l
  .have hi':=hi;rw[mem_ready]at hi';obtain⟨hi1,o,ho,hi2⟩:=hi';have l:i<ops.size:=(C?.1 ho).1;have hir:i∈rem:=(c i).2 ⟨l,hi1⟩;obtain⟨pre,A,rfl⟩:=List.append_of_mem hir;have g:=B_.1 κ;have O:∀j∈pre,j<i:=λj θ=>g.2.2 j θ i V;have Z:∀j∈A,i<j:=λj θ=>(A?.1 g.2.1).1 j θ;have L:∀(k:Nat),k<ops.size->(∀o,ops[k]?=Y o->∀e∈o.after,Region.binds .any e=X->b.getD e.on T=X)->∀j,j<ops.size->((sO ops).getD k 0).testBit j=X->b.getD j T=X:=by
    intro k
    induction k using Nat.strongRecOn with
    |_ k ihk=>
     intro hk hdir j F M;have:=hM k hk j F;rw[M]at this;simp only[C_,Bool.false_or]at this;split at this
     .rename_i ok hok';simp only[List.any_eq_true,gR,B',beq_iff_eq,o4]at this;obtain⟨e,B,hbe,h3⟩:=this;have G:=hdir ok hok' e u? hbe;rcases h3 with h3|⟨h3,h4⟩
      .rw[<-h3];exact G
      .exact ihk e.on h3 U (λR C e' he' hb'=>η e.on R C G e' he' hb') j F h4
     .cases this
   have hwp:Eb (AT P) K (Om rs i::(pre.map (Om rs)++(A.map (Om rs)++rs.drop ops.size))) ε:=by
    refine l7 (ops:=ops) (F0:=F0) (w0:=w0) (N:=N) (oq:=o) (H i o ho) (pre.map (Om rs)) (λp hp=>?_) ⟨a,w,hN.size,hI⟩ θ c!;obtain⟨j,hj1,rfl⟩:=List.mem_map.1 hp;have hlt:=O j hj1;have F:j<ops.size:=U
    refine ⟨?_,ops[j],H j _ (D_ F)⟩;have:=hP i l j hlt;rw[B']at this;refine this.resolve_left λM=>?_;have I:=L i l (λR C=>by rw[ho]at C;simp at C;subst C;exact hi2) j F M;have u:=((c j).1 (by simp[hj1])).2;have:j<b.size:=U
    simp [D',D_ this]at I u;rw[I]at u;cases u
   obtain ⟨e',heq,hw⟩:=hwp;have hI':=hI.congr (λn=>(heq.1 n).symm);have J:=θ.congr heq.symm;have hstd:OB (Om rs i).op=X->(Om rs i).dst=W:=by
    intro hst;have:=H i o ho;simp[L8]at this;have u:=this.2;split at u
    .simp only[hst,C_,Bool.and_false,Bool.false_and]at u;cases u
    .assumption
    .cases u
   have hw':=te (hs i l) hstd J hw;have hmem':∀j,j∈pre++A↔j<ops.size/\(b.setIfInBounds i X).getD j X=T:=by
    intro j;by_cases hij:j=i
    .subst hij;constructor
     .intro ζ;rcases y_.1 ζ with ζ|ζ
      .have:=O _ ζ;omega
      .have:=Z _ ζ;omega
     .rintro⟨_,u⟩;have:j<b.size:=U
      simp [this]at u
    .rw[getD_set_ne X (λe=>hij e.symm),<-c j];simp[hij]
   have hcl':∀k R,ops[k]?=Y R->(b.setIfInBounds i X).getD k T=X->∀e∈R.after,Region.binds .any e=X->(b.setIfInBounds i X).getD e.on T=X:=by
    intro k R hk hlk e B M;refine getD_set_true ?_;by_cases hki:k=i
    .subst hki;rw[ho]at hk;simp at hk;subst hk;exact hi2 e B M
    .rw[getD_set_ne T (λe=>hki e.symm)]at hlk;exact η k R hk hlk e B M
   have hpdi:∀j v,p=Y (j,v)->(Om rs i).dst≠Y j:=by
    intro j v hp;unfold Om;cases hr:rs[i]? with
    |none=>simp|some r=>exact hpd j v hp r (List.mem_of_getElem? hr)
   have:=X2 (Q:=Q) (next:=wpAny P .any ops Q fuel (b.setIfInBounds i X)) hI' hN hpdi (H i o ho) hw' λenv' a' w' k1 k2 k3=>
    ih (pre++A) _ env' a' w' (by simp at z|-;omega) (B_.2 ⟨g.1,(A?.1 g.2.1).2,λx hx y hy=>g.2.2 x hx y (by simp[hy])⟩) hmem' (by simpa using hsz) hcl' k2 k3 k1.2 (by simpa using k1.1)
   unfold Go.wpOp;rw[ho];simp;split
   next δ=>rw[Ne δ]at this;exact .inl this
   next δ=>rw[QQ δ]at this;exact this
theorem aM:∀(ds:I2)(ε:AB),S0 ε ds=X->JD ds ε
 |[],ε,_=>λd hd=>by simp at hd|d::ds,ε,h=>by
  simp [S0]at h;intro x a;rcases A!.1 a with rfl|a
  .exact h.1
  .exact aM ds ε h.2 x a
theorem Md(M:P.follows .mixedOrders=X):Lp P N (VL P N):=by
 intro F0 w0 p id ds ops rs g ε a w K Q A C Z c hd h hQ;refine wp_region_any M ?_;have l:=A;simp[VL]at l;obtain⟨_,_,I⟩:=Ts ops.toList rs l.1.1.1.1;simp at I;have H:Bw F0 w0 ε a {w with drawn:=w.drawn+1}:=by
  obtain ⟨G,c⟩:=c;refine⟨G,c.gk,c.lt,⟨c.below.os,c.below.tape,c.below.output,c.below.size,c.below.block,c.below.cell,c.below.free,c.below.tab⟩,c.defers,c.dom,λs O=>?_,c.wf⟩;exact AM.kept (w:=w) (w':={w with drawn:=w.drawn+1}) (F:=AV w0.heap.size F0 G) (G:=G) (ε:=ε) (a:=a) (λb o u R θ=>⟨R,θ⟩) (λ_=>rfl) (λ_ _ _ _=>rfl) rfl (λ_ _ _ _ _=>rfl) (λr i k J κ=>⟨κ,λv hv=>by cases k<;>exact hv⟩) (λr off J z=>⟨z,rfl⟩) (λr i J z=>⟨z,λ_ hv=>hv⟩) (c.slots s O)
 refine mC (K:=λe=>K (e.ek g)) (F0:=F0) (w0:=w0) A C (λε a w η ζ δ=>hQ _ a w η ζ (δ.ek g)) ops.size (z? ops.size) _ ε a _ V List.pairwise_lt_range (λj=>?_) V (λk o hk B=>?_) Z H (aM ds ε hd) ?_
 .rw[A'];constructor
  .intro L;exact⟨L,by simp[D',D!,L]⟩
  .exact λh=>h.1
 .simp[D',D!]at B;split at B<;>simp at B
 grind [ob]
end
end Go.Sf
