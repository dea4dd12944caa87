/- Operations that take a list of one's own, in drawn regions. -/
import Derived.Test.YtpagkickoiafkaaGreatSfSwap
set_option linter.all false
open Option renaming some->Y,none->W
open Bool renaming true->X,false->T
open List renaming map_cons->v?,cons_append->w_,mem_filterMap->w!,mem_flatMap->w?,mem_singleton->x_,flatMap_cons->x!,mem_append->x?,contains_eq_mem->y_,all_eq_true->y!,getElem?_set_ne->y?,getElem?_eq_some_iff->z_,range->z!,getElem?_set->z?,mem_range->A_,mem_cons->A',pairwise_cons->A!,pairwise_append->A?
open Bool renaming or_eq_true->B_,not_eq_true'->B',and_true->B!,not_true->B?
open Option renaming isSome_iff_exists->C_,toList_some->C'
open Array renaming getElem?_eq_some_iff->C!,getElem?_eq_getElem->C?,getD_eq_getD_getElem?->D_,getElem?_replicate->D'
namespace Go.Sf
def AE.tkn:AE->Option I2
 |.AaV _=>Y []|.AaY _=>Y []|.tkx s=>Y [s]|.AaN _ s _=>Y [s]|.Aa4 q=>Y [q]|.tl gs=>Y (gs.filterMap GC.slot)|_=>W
def AE.x9:AE->Bool
 |.tl _=>X|_=>T
def Oc(u:Nat->EV)(qs:I2)(O:AB):AB:=qs.map (λq=>(q,u q))++O
theorem O4(u:Nat->EV)(qs:I2)(O:AB)(n:Nat):AB.get (Oc u qs O) n=if n∈qs then u n else O.get n:=by
 induction qs with
 |nil=>rfl|cons q qs a=>
  grind [Oc,AB.d3]
theorem Gc{u:Nat->EV}(b:∀q,(u q).n8=W)(qs:I2)(O:AB)(c:Nat):AB.ew c (Oc u qs O)=AB.ew c O:=by
 induction qs with
 |nil=>rfl|cons q qs a=>
  simp only[Oc,v?,w_,AB.ea]at a|-;rw[a,EV.tg,b];rfl
theorem We(e0:AB):∀(qs:I2)(O:AB),Np e0 qs O=Oc (λn=>(e0.get n).gave) qs O
 |[],_=>rfl|q::qs,O=>by
  simp only[Np,We e0 qs O,Oc,v?,w_]
theorem oG(e:EV):e.gave.n8=W:=by cases e<;>rfl
theorem cF{gs:List GC}{q:Nat}(h:q∈gs.filterMap GC.slot):q∈gs.flatMap GC.sl:=by
 rw [w!]at h;obtain⟨g,a,e⟩:=h;rw[w?];refine⟨g,a,?_⟩;cases g<;>simp[GC.slot]at e<;>simp[GC.sl,e]
structure iX(S:FuncId->Fq->At->Prop)(op:AE)(u:Nat->EV)(qs:I2)(d:Nat)(O:AB)(e:EV):Prop where
 dno:O.ew d=X
 Abb:e.n8=W
 Aa0:∀q,(u q).n8=W
 slbx:∀n∈op.slots,∀cs,O.get n≠.bx cs
 sub:∀n∈qs,n∈op.slots
 again:∀env2,(∀n∈op.slots,env2.get n=O.get n)->env2.ew d=X->∀K2:EV->AB->Prop,K2 e (Oc u qs env2)->op.wp S env2 (Y d) K2
variable{y:AF}
theorem xD{O env2:AB}(h:∀n∈y.sl,env2.get n=O.get n):y.val env2=y.val O:=by
 cases y with
 |c t=>rfl|s n=>simp only[AF.val,AF.ev,h n c_]
variable{O:AB}{t:TV}
theorem xC(h:y.val O=Y t):∀n∈y.sl,∀cs,O.get n≠.bx cs:=by
 intro n hn cs a;cases y with
 |c t=>simp[AF.sl]at hn|s m=>
  grind [AF.sl,x_,AF.val,AF.ev,EV.val]
theorem oI{O env2:AB}{g:GC}(h:∀n∈g.sl,env2.get n=O.get n):g.cell env2=g.cell O:=by
 cases g with
 |z c=>rfl|v x k n=>
  cases x with
  |c t=>rfl|s m=>simp only[GC.cell,AF.val,AF.ev,h m (by simp[GC.sl])]
 |w q=>simp only[GC.cell,h q (by simp[GC.sl])]|g q k n=>simp only[GC.cell,h q (by simp[GC.sl])]
theorem Za{O env2:AB}:∀{gs:List GC},(∀n∈gs.flatMap GC.sl,env2.get n=O.get n)->FT env2 gs=FT O gs
 |[],_=>rfl|g::gs,h=>by
  rw [x!]at h;simp only[FT,oI (g:=g) λn hn=>h n (Cq hn),Za (gs:=gs) λn hn=>h n (DJ hn)]
theorem ZZ:∀{gs:List GC}{cs:List AQ},FT O gs=Y cs->∀n∈gs.flatMap GC.sl,∀ds,O.get n≠.bx ds
 |[],_,_,n,hn,_=>by simp at hn|g::gs,cs,h,n,hn,ds=>by
  simp only[FT]at h;split at h
  .rename_i c cs' a b;rw[x!,x?]at hn;rcases hn with hn|hn
   .intro j;cases g with
    |z c=>simp[GC.sl]at hn|v x k m=>
     cases x with
     |c t=>simp[GC.sl]at hn|s q=>simp[GC.sl]at hn;subst hn;simp[GC.cell,AF.val,AF.ev,j,EV.val]at a
    |w q=>simp[GC.sl]at hn;subst hn;simp[GC.cell,j]at a|g q k m=>simp[GC.sl]at hn;subst hn;simp[GC.cell,j]at a
   .exact ZZ b n hn ds
  .cases h
variable{qs:I2}{d:Nat}
theorem take{S:FuncId->Fq->At->Prop}{op:AE}{K:EV->AB->Prop}(j:op.tkn=Y qs)(C:op.x9=X->O.ew d=X)(h:op.wp S O (Y d) K):∃e u,iX S op u qs d O e/\K e (Oc u qs O):=by
 cases op<;>simp only[AE.tkn,reduceCtorEq,kx]at j
 case AaY n=>
  subst j;simp only[AE.wp]at h;exact⟨_,λ_=>.undef,⟨h.1,rfl,λ_=>rfl,e!,V,λenv2 _ a k b=>⟨a,b⟩⟩,h.2⟩
 case AaV n=>
  subst j;simp only[AE.wp]at h;exact⟨_,λ_=>.undef,⟨h.1,rfl,λ_=>rfl,e!,V,λenv2 _ a k b=>⟨a,b⟩⟩,h.2⟩
 case tkx s=>
  subst j;simp only[AE.wp]at h;split at h
  .rename_i B n es hd l;simp only[kx]at hd;subst hd;refine⟨.xo n es,λ_=>.undef,⟨h.1,rfl,λ_=>rfl,λm F cs z=>?_,e!,λenv2 g a k b=>?_⟩,h.2.2⟩
   .grind[AE.slots,x_]
   .have:=g s e!;simp only[AE.wp,this,l];exact⟨a,h.2.1,b⟩
  .exact h.elim
 case Aa4 q=>
  subst j;simp only[AE.wp]at h;split at h
  .rename_i B n w hd l;simp only[kx]at hd;subst hd;refine⟨.x1 n w,λ_=>.undef,⟨h.1.1,rfl,λ_=>rfl,λm F cs z=>?_,e!,λenv2 g a k b=>?_⟩,h.2⟩
   .grind[AE.slots,x_]
   .have:=g q e!;simp only[AE.wp,this,l];exact⟨⟨a,h.1.2⟩,b⟩
  .exact h.elim
 case AaN n s y=>
  subst j;simp only[AE.wp]at h;split at h
  .rename_i B m es m' w hd l G;simp only[kx]at hd;subst hd;obtain⟨J,L,M,Q,R,θ⟩:=h;refine⟨.xo n (es++w),λ_=>.undef,⟨Q,rfl,λ_=>rfl,λx A cs z=>?_,e!,λenv2 g a k b=>?_⟩,θ⟩
   .grind[AE.slots,xC]
   .have H:=g s e!;have I:=xD (O:=O) (env2:=env2) (y:=y) (λx A=>g x (by simp[AE.slots,A]));simp only[AE.wp,H,l,I,G];exact⟨J,L,M,a,R,b⟩
  .exact h.elim
 case tl gs=>
  subst j;simp only[AE.wp]at h;obtain⟨g,o⟩:=h;cases c:FT O gs with
  |none=>rw[c]at o;exact o.elim|some cs=>
   rw [c]at o;refine⟨.vS cs,λn=>(O.get n).gave,⟨C rfl,rfl,λ_=>oG _,ZZ c,λn hn=>cF hn,λenv2 a _ k b=>?_⟩,by rw[<-We];exact o⟩;simp only[AE.wp,Za a,c];refine⟨g,?_⟩;have:Np env2 (gs.filterMap GC.slot) env2=Oc (λn=>(O.get n).gave) (gs.filterMap GC.slot) env2:=by
    rw [We];unfold Oc;congr 1;exact List.map_congr_left λn hn=>by simp only[a n (cF hn)]
   simp only[Ai,this];exact b
def PR.tk(r:PR):Option (I2×Nat):=
 match r.op.tkn,r.guard,r.dst with
 |some qs,W,Y d=>Y (qs,d)|_,_,_=>W
variable{r:PR}
theorem PR.tk_some(h:r.tk=Y (qs,d)):r.op.tkn=Y qs/\r.guard=W/\r.dst=Y d:=by
 unfold PR.tk at h
 grind
theorem YI{S:FuncId->Fq->At->Prop}{K:AB->Prop}(g:r.tk=Y (qs,d))(j:r.op.x9=X->O.ew d=X)(h:r.wp S O K):∃e u,iX S r.op u qs d O e/\K ((d,e)::Oc u qs O)/\
  ∀env2,(∀n∈r.op.slots,env2.get n=O.get n)->env2.ew d=X->∀a:AB->Prop,a ((d,e)::Oc u qs env2)->r.wp S env2 a:=by
 obtain ⟨w,z,A⟩:=PR.tk_some g;have o:r.op.wp S O (Y d) λe env'=>K ((d,e)::env'):=by
  grind [PR.wp,AB.put]
 obtain ⟨e,u,c,B⟩:=take w j o;refine⟨e,u,c,B,λenv2 k l a b=>?_⟩;unfold PR.wp;rw[z];simp only[A,AB.put];exact c.again env2 k l (λe env'=>a ((d,e)::env')) b
def x5(D:I2)(p q:PR):Bool:=
 match q.tk with
 |some (qs,d)=>PR.sE D p&&D.contains d&&qs.all D.contains&&Ew p.dst.toList (d::q.op.slots)&&Ew (d::qs) (p.op.slots++p.gsl)&&Ew p.op.dem q.op.slots|none=>T
def Aay(D:I2)(p q:PR):Bool:=
 match p.tk,q.tk with
 |some (_,dp),Y (_,dq)=>((!p.op.x9||D.contains dp)&&(!q.op.x9||D.contains dq))&&Ew (dp::p.op.slots) (dq::q.op.slots)|_,_=>T
section
variable{P:Program}{F0:Nat->Nat->Prop}{w0:W0}{N:Nat}{ops:Array Oper}{K:AB->Prop}{D:I2}
variable{r:PR}{d:Nat}{O gE:AB}{e:EV}{f:A6}
theorem Pb.away{S:FuncId->Fq->At->Prop}(h:Pb S r d O gE e f){x:Nat}(a:x∉r.op.slots)(b:∀y,(O.get y).n8≠Y x)(u:EV):f.on x u=u:=by
 have c:=h.slot;have g:=h.cell;cases f with
 |none=>rfl|slot s t=>
  grind [A6.on,CR]
 |cell s off t=>
  simp only[A6.on]
  grind
theorem Pb.stay{S:FuncId->Fq->At->Prop}(h:Pb S r d O gE e f){x:Nat}(a:x∉r.op.dem)(b:∀cs,O.get x≠.bx cs):f.on x (O.get x)=O.get x:=by
 have c:=h.slot;have g:=h.ok;cases f with
 |none=>rfl|slot s t=>
  grind [A6.on]
 |cell s off t=>
  simp only[A6.on]
  grind
theorem WC(h:PR.sE D r=X):∃d,r.dst=Y d/\r.op.mov=X/\(r.op.nx=X->r.guard=W)/\Ew r.op.AaH D=X/\(r.op.nx=X\/d∈D):=by
 simp only[PR.sE,gN,B_,B']at h;obtain⟨⟨⟨⟨a,b⟩,c⟩,g⟩,j⟩:=h;obtain⟨d,hd⟩:=C_.1 b;refine⟨d,hd,a,λhn=>?_,g,?_⟩
 .rcases c with h|h
  .rw[hn]at h;cases h
  .simpa using h
 grind [PR.old]
variable{rs:List PR}
theorem wy(hR:LA F0 w0 N O)(hj:JD D O){op:Oper}{p q:PR}(hp:LL P N ops op p=X)(a:x5 D p q=X)(h:D0 (AV P) K (p::q::rs) O):D0 (AV P) K (q::p::rs) O:=by
 unfold x5 at a;split at a
 .rename_i qs d ht;simp only[gN,y_,ml,y!]at a;obtain⟨⟨⟨⟨⟨hm,κ⟩,sD⟩,η⟩,ζ⟩,c3⟩:=a;obtain⟨A,θ,pm,pg',pb,_⟩:=WC hm;rw[θ]at η;simp only[C']at η;have hpd:A≠d:=λe=>Av η (x:=A) V c!;have Q:A∉q.op.slots:=λe=>Av η (x:=A) V c!;have l:d∉p.op.slots:=λe=>Av ζ (x:=d) V (Cq e);have dng:d∉p.gsl:=λe=>Av ζ (x:=d) V (DJ e);have o:∀s∈qs,s∉p.op.slots:=λs δ e=>Av ζ (x:=s) (by simp[δ]) (Cq e);have sng:∀s∈qs,s∉p.gsl:=λs δ e=>Av ζ (x:=s) (by simp[δ]) (DJ e);obtain⟨e',C,h⟩:=h;have hR':=hR.congr C.symm;have j:=hj.congr C.symm;obtain⟨gE,⟨⟨e1,b,hw⟩,ep,J,w⟩,hR1⟩:=EU hR' hp (Ph θ pm pg' h);have g1:∀n,e1.get n=if A=n then ep else J.on n (e'.get n):=λn=>by
   rw [b.1,w.gE,AB.d3,A6.get]
  have R:∀x,x∈D->x∉p.op.slots->∀e,J.on x e=e:=λx Z hxn e=>w.away hxn (λy hy=>j.no hy Z) e;have hj1:JD D e1:=(w.jd pb j).congr b.symm;obtain⟨e,u,F,hK,ε⟩:=YI ht (λ_=>hj1 d κ) hw;have B:∀n∈q.op.slots,e'.get n=e1.get n:=by
   intro n hn;have hne:A≠n:=λe=>Q (e▸hn);have hb:=F.slbx n hn;rw[g1,aE hne]at hb|-;refine(w.stay (λhd=>Av c3 hd hn) (λcs hc=>?_)).symm;refine hb (match J.on n (.bx cs)with|.bx cs'=>cs'|_=>cs) ?_;rw[hc];cases J with
   |none=>rfl|slot s t=>
    have:=w.ok;simp only[A6.on];split
    next e=>subst e;simp only[A6.ok]at this;rw[hc]at this;cases this
    .rfl
   |cell s off t=>
    simp only[A6.on];split<;>rfl
  have hdn:e'.ew d=X:=by
   have:=F.dno;rw[b.2,w.gE,AB.ea,A6.ew,gN]at this;exact this.2
  refine ⟨e',C,ε e' B hdn _ ⟨_,.refl _,?_⟩⟩;have H:∀m,m≠d->m∉qs->AB.get ((d,e)::Oc u qs e') m=e'.get m:=λm z k=>by
   rw [AB.d3,aE (λe=>z e.symm),O4,aE k]
  have nr:∀c,AB.ew c ((d,e)::Oc u qs e')=AB.ew c e':=λc=>by
   rw [AB.ea,Gc F.Aa0,EV.tg,F.Abb];rfl
  have L:EL p.op J (Y A) e' ((d,e)::Oc u qs e'):=by
   refine ⟨λx G=>.inl (H x (λe=>l (e▸G)) (λe=>o x e G)),λx G r hr=>.inl (H r (λe=>j.no hr (e▸κ)) (λe=>j.no hr (sD r e))),λx G _=>H x (λe=>l (e▸CR G)) (λe=>o x e (CR G)),?_,λhn d' hd' hno=>by rw[nr];exact hno⟩;have z:=w.slot;have k:=w.ok;have h4:=w.cell;cases J with
   |none=>trivial|slot x t=>
    simp only[A6.ok]at k|-;rw[H x (λe=>l (e▸CR (z _ _ rfl))) (λe=>o x e (CR (z _ _ rfl)))];exact k
   |cell x off t=>
    obtain ⟨ds,h5,h6⟩:=k;refine⟨ds,?_,h6⟩;rw[H x (λe=>?_) (λe=>?_)]
    .exact h5
    .rcases h4 _ _ _ rfl with h7|⟨y,_,h8⟩
     .exact l (e▸h7)
     .exact j.no h8 (e▸κ)
    .rcases h4 _ _ _ rfl with h7|⟨y,_,h8⟩
     .exact o x e h7
     .exact j.no h8 (sD x e)
  have hgp:∀g∈p.gsl,AB.get ((d,e)::Oc u qs e') g=e'.get g:=λg M=>H g (λe=>dng (e▸M)) (λe=>sng g e M);refine w.again _ L hgp _ (F4 hK ?_);refine⟨λm=>?_,λc=>?_⟩
  .simp only[AB.d3,A6.get,g1,O4];by_cases z:d=m
   .subst z;rw[QQ rfl,aE hpd,R d κ l,QQ rfl]
   .rw[aE z];by_cases I:A=m
    .have:m∉qs:=λhm=>Q (I▸F.sub m hm);rw[aE this,QQ I,QQ I]
    .rw[aE I];by_cases k:m∈qs
     .rw[QQ k,aE I,R m (sD m k) (o m k),aE z,QQ k]
     .rw[aE k,aE I,aE z,aE k]
  .simp only[AB.ea,A6.ew,b.2,w.gE,Gc F.Aa0,EV.tg,F.Abb];cases(match ep.n8 with|some s=>c !=s|none=>X)<;>rfl
 .cases a
theorem wx(hR:LA F0 w0 N O)(hj:JD D O){op oq:Oper}{p q:PR}(hp:LL P N ops op p=X)(hq:LL P N ops oq q=X)(a:x5 D q p=X)(h:D0 (AV P) K (p::q::rs) O):D0 (AV P) K (q::p::rs) O:=by
 unfold x5 at a;split at a
 .rename_i A d ht;simp only[gN,y_,ml,y!]at a;obtain⟨⟨⟨⟨⟨hm,Q⟩,sD⟩,c1⟩,c2⟩,c3⟩:=a;obtain⟨H,η,qm,qg',qb,qold⟩:=WC hm;rw[η]at c1;simp only[C']at c1;have hqd:H≠d:=λe=>Av c1 (x:=H) V c!;have θ:H∉p.op.slots:=λe=>Av c1 (x:=H) V c!;have o:d∉q.op.slots:=λe=>Av c2 (x:=d) V (Cq e);have dng:d∉q.gsl:=λe=>Av c2 (x:=d) V (DJ e);have w:∀s∈A,s∉q.op.slots:=λs hs e=>Av c2 (x:=s) (by simp[hs]) (Cq e);have sng:∀s∈A,s∉q.gsl:=λs hs e=>Av c2 (x:=s) (by simp[hs]) (DJ e);obtain⟨e',I,h⟩:=h;have hR':=hR.congr I.symm;have ε:=hj.congr I.symm;obtain⟨gE,⟨⟨G,b,hw⟩,Z,u,C,J,ζ⟩,hR1⟩:=EU (K:=λgE=>(∃G,M7 G gE/\q.wp (AV P) G (D0 (AV P) K rs))/\∃Z u,iX (AV P) p.op u A d e' Z/\gE=(d,Z)::Oc u A e'/\∀env2,(∀n∈p.op.slots,env2.get n=e'.get n)->env2.ew d=X->∀K2:AB->Prop,K2 ((d,Z)::Oc u A env2)->p.wp (AV P) env2 K2) hR' hp (by
   obtain ⟨e,u,k1,k2,k3⟩:=YI ht (λ_=>ε d Q) h;exact k3 e' (λ_ _=>rfl) k1.dno _ ⟨k2,e,u,k1,rfl,k3⟩)
  subst J;have k:JD D G:=by
   intro x z;rw[b.2,AB.ea,Gc C.Aa0,EV.tg,C.Abb];exact ε x z
  obtain ⟨X1,⟨hK,eq,δ,F⟩,_⟩:=EU (hR1.congr b.symm) hq (Ph η qm qg' hw);have M:∀n,n≠d->n∉A->G.get n=e'.get n:=λn j l=>by
   rw [b.1,AB.d3,aE (λe=>j e.symm),O4,aE l]
  have κ:∀x,x∈D->x∉q.op.slots->∀e,δ.on x e=e:=λx hxD hxn e=>F.away hxn (λy hy=>k.no hy hxD) e;have L:EL q.op δ (Y H) G e':=by
   refine ⟨λx z=>.inl (M x (λe=>o (e▸z)) (λe=>w x e z)).symm,λx z r hr=>.inl (M r (λe=>k.no hr (e▸Q)) (λe=>k.no hr (sD r e))).symm,λx z _=>(M x (λe=>o (e▸CR z)) (λe=>w x e (CR z))).symm,?_,λhn d' hd' R=>?_⟩
   .have j:=F.slot;have l:=F.ok;have h4:=F.cell;cases δ with
    |none=>trivial|slot x t=>
     simp only[A6.ok]at l|-;rw[<-M x (λe=>o (e▸CR (j _ _ rfl))) (λe=>w x e (CR (j _ _ rfl)))];exact l
    |cell x off t=>
     obtain ⟨ds,h5,h6⟩:=l;refine⟨ds,?_,h6⟩;rw[<-M x (λe=>?_) (λe=>?_)]
     .exact h5
     .rcases h4 _ _ _ rfl with h7|⟨y,_,h8⟩
      .exact o (e▸h7)
      .exact k.no h8 (e▸Q)
     .rcases h4 _ _ _ rfl with h7|⟨y,_,h8⟩
      .exact w x e h7
      .exact k.no h8 (sD x e)
   .rw[b.2,AB.ea,Gc C.Aa0,gN]at R;exact R.2
  have hgq:∀g∈q.gsl,e'.get g=G.get g:=λg hg=>(M g (λe=>dng (e▸hg)) (λe=>sng g e hg)).symm;refine⟨e',I,F.again e' L hgq _ ⟨_,.refl _,ζ _ (λn hn=>?_) ?_ _ (F4 hK ?_)⟩⟩
  .have hne:H≠n:=λe=>θ (e▸hn);rw[AB.d3,aE hne,A6.get];have hb:=C.slbx n hn;have k1:=F.slot;have k2:=L.eff;cases δ with
   |none=>rfl|slot s t=>
    simp only[A6.on];rw[aE];intro e;subst e;exact Av c3 (k1 _ _ rfl) hn
   |cell s off t=>
    simp only[A6.on];rw[aE];intro e;subst e;obtain⟨cs,k3,_⟩:=k2;exact hb cs k3
  .rw[AB.ea,A6.ew,C.dno,B!];refine U5 (λs he=>?_);rcases F.n8 s he with j|⟨x,_,l⟩
   .exact λe=>Av qb j (e▸Q)
   .exact λe=>k.no l (e▸Q)
  .rw[F.gE];have hdd:∀e,δ.on d e=e:=κ d Q o;refine⟨λm=>?_,λc=>?_⟩
   .simp only[AB.d3,A6.get,O4,b.1];by_cases j:H=m
    .have B:m∉A:=λhm=>θ (j▸C.sub m hm);have h4:¬d=m:=λe=>hqd (j.trans e.symm);rw[QQ j,aE h4,aE B,QQ j]
    .rw[aE j];by_cases l:d=m
     .subst l;rw[QQ rfl,QQ rfl,hdd]
     .rw[aE l,aE l];by_cases B:m∈A
      .rw[QQ B,QQ B,κ m (sD m B) (w m B)]
      .rw[aE B,aE B,aE j]
   .simp only[AB.ea,A6.ew,b.2,Gc C.Aa0,EV.tg,C.Abb];cases(match eq.n8 with|some s=>c !=s|none=>X)<;>rfl
 .cases a
theorem xB{S:FuncId->Fq->At->Prop}(Q:JD D O){p q:PR}(g:Aay D p q=X)(h:D0 S K (p::q::rs) O):D0 S K (q::p::rs) O:=by
 unfold Aay at g;split at g
 .rename_i I B qs J θ ε;simp only[gN,B_,B',y_,ml]at g;obtain⟨⟨bp,ζ⟩,g⟩:=g;have l:∀x,x=B\/x∈p.op.slots->x≠J/\x∉q.op.slots:=λx l=>by
   grind [Av,List.mem_cons_self,List.mem_cons_of_mem]
  obtain ⟨e',z,h⟩:=h;obtain⟨ep,u,o,⟨R,j,δ⟩,C⟩:=YI θ (λh=>Q.congr z.symm _ (bp.resolve_left λG=>by rw[G]at h;cases h)) h;obtain⟨eq,v,k,Z,A⟩:=YI ε (λh=>by
   have w:=Q.congr z.symm _ (ζ.resolve_left λG=>by rw[G]at h;cases h);rw[j.2,AB.ea,Gc o.Aa0,EV.tg,o.Abb];exact w) δ
  have κ:∀n,n≠B->n∉I->R.get n=e'.get n:=λn w F=>by
   rw [j.1,AB.d3,aE (λe=>w e.symm),O4,aE F]
  have L:∀n∈q.op.slots,e'.get n=R.get n:=λn hn=>(κ n (λe=>(l n (.inl e)).2 hn) (λe=>(l n (.inr (o.sub n e))).2 hn)).symm;have M:e'.ew J=X:=by
   have:=k.dno;rw[j.2,AB.ea,Gc o.Aa0,gN]at this;exact this.2
  refine ⟨e',z,A e' L M _ ⟨_,.refl _,C _ (λn hn=>?_) ?_ _ (F4 Z ?_)⟩⟩
  .rw[AB.d3,aE (λe=>(l n (.inr hn)).1 e.symm),O4,aE (λe=>(l n (.inr hn)).2 (k.sub n e))]
  .rw[AB.ea,Gc k.Aa0,o.dno,EV.tg,k.Abb];rfl
  .refine⟨λm=>?_,λc=>?_⟩
   .simp only[AB.d3,O4,j.1];by_cases w:J=m
    .have F:¬B=m:=λe=>(l B (.inl rfl)).1 (e.trans w.symm);have η:m∉I:=λH=>(l m (.inr (o.sub m H))).1 w.symm
     grind
    .rw[aE w];by_cases F:B=m
     .have η:m∉qs:=λH=>(l m (.inl F.symm)).2 (k.sub m H)
      grind
     have h4:m∈I->m∉qs:=λa b=>(l m (.inr (o.sub m a))).2 (k.sub m b)
     grind
   .simp only[AB.ea,Gc o.Aa0,Gc k.Aa0,j.2,EV.tg,o.Abb,k.Abb]
 .cases g
end
def AE.ptr:AE->Option Nat
 |.bad s _=>Y s|.zt (.s m) _=>Y m|_=>W
def EV.box2(e e2:EV):Prop:=e2=e\/∃cs cs',e=.bx cs/\e2=.bx cs'
variable{m:Nat}{dst:Option Nat}{O:AB}
theorem Z2{S:FuncId->Fq->At->Prop}{op:AE}{K:EV->AB->Prop}(ho:op.ptr=Y m)(h:op.wp S O dst K):
  ∃e,K e O/\(∀s,e.n8=Y s->(s∈op.AaH\/(O.get m).n8=Y s))/\(∀cs,e≠.bx cs)/\∀env2,(O.get m).box2 (env2.get m)->(∀s,(O.get m).n8=Y s->(O.get s).box2 (env2.get s))->∀j:EV->AB->Prop,j e env2->op.wp S env2 dst j:=by
 unfold AE.ptr at ho;split at ho
 .rename_i s k;simp only[kx]at ho;subst ho;simp only[AE.wp]at h;split at h
  .rename_i cs b;refine⟨_,h,λs' c=>.inl (by simpa[AE.AaH,EV.n8]using c.symm),V,λenv2 a _ j g=>?_⟩;have:∃cs',env2.get s=.bx cs':=by
    rcases a with a|⟨_,cs',_,a⟩
    .grind
    .exact⟨cs',a⟩
   obtain ⟨cs',l⟩:=this;simp only[AE.wp,l];exact g
  .rename_i row b;refine⟨_,h,by simp[EV.n8],V,λenv2 a _ j g=>?_⟩;rcases a with a|⟨cs,_,a,_⟩
   .simp only[AE.wp,a,b];exact g
   .rw[b]at a;cases a
  .exact h.elim
 .rename_i m' k;simp only[kx]at ho;subst ho;simp only[AE.wp,AF.ev]at h;split at h
  .rename_i row b;refine⟨_,h,by simp[EV.n8],V,λenv2 a _ j g=>?_⟩;rcases a with a|⟨cs,_,a,_⟩
   .simp only[AE.wp,AF.ev,a,b];exact g
   .rw[b]at a;cases a
  .rename_i s off b;split at h
   .rename_i cs w;refine⟨_,h,λs' c=>.inr (by rw[b];exact c),V,λenv2 a l j g=>?_⟩;have u:env2.get m'=.bp s off:=by
     rcases a with a|⟨_,_,a,_⟩
     .rw[a,b]
     grind
    have o:∃cs',env2.get s=.bx cs':=by
     rcases l s (by rw[b];rfl)with l|⟨_,cs',_,l⟩
     .grind
     .exact⟨cs',l⟩
    obtain ⟨cs',o⟩:=o;simp only[AE.wp,AF.ev,u,o];exact g
   .exact h.elim
  .exact h.elim
 .cases ho
def Xt(m q s:Nat)(cs:List AQ)(off:Nat)(O:AB):AB:=(s,.bx (cs.set off ⟨T,.undef⟩))::(m,.undef)::(q,.undef)::O
theorem S8{S:FuncId->Fq->At->Prop}{m q d:Nat}{K:EV->AB->Prop}(h:(AE.Aar m q).wp S O (Y d) K):
  ∃e s off cs,O.get m=.nh s off .hd/\O.get s=.bx cs/\(∀cs,O.get q≠.bx cs)/\O.ew d=X/\e.n8=W/\K e (Xt m q s cs off O)/\
   ∀env2,env2.get m=O.get m->env2.get q=O.get q->env2.get s=O.get s->env2.ew d=X->∀c:EV->AB->Prop,c e (Xt m q s cs off env2)->(AE.Aar m q).wp S env2 (Y d) c:=by
 simp only[AE.wp]at h;split at h
 .rename_i H s off n I b j k;simp only[kx]at b;subst b;split at h
  .rename_i cs l;cases a:O.nat s off with
   |none=>rw[a]at h;exact h.elim|some es=>
    rw [a]at h;simp only[Ai]at h;obtain⟨B,⟨C,F⟩,G⟩:=h;refine⟨_,s,off,cs,j,l,by rw[k];simp,C,rfl,G,λenv2 o u g w c z=>?_⟩;have A:env2.nat s off=Y es:=by rw[<-a];exact AB.Aaa g
    simp only[AE.wp,o,u,g,j,k,l,A,Ai];exact⟨B,⟨w,F⟩,z⟩
  .exact h.elim
 .exact h.elim
def wA(D:I2)(p q:PR):Bool:=
 match p.op.ptr,p.guard,p.dst,q.op,q.guard,q.dst with
 |some x,W,Y dp,.Aar m qq,W,Y d=>D.contains d&&D.contains dp&&D.contains m&&D.contains qq&&Ew [dp] [d,m,qq]&&Ew [x] [d,m,qq]&&Ew p.op.AaH D&&dp !=x&&PR.sE D p|_,_,_,_,_,_=>T
variable{off:Nat}
theorem Pn{m q s:Nat}{cs:List AQ}(n:Nat):AB.get (Xt m q s cs off O) n=if s=n then .bx (cs.set off ⟨T,.undef⟩)else if m=n then .undef else if q=n then .undef else O.get n:=rfl
theorem PF{m q s:Nat}{cs:List AQ}(c:Nat):AB.ew c (Xt m q s cs off O)=AB.ew c O:=by
 simp [Xt,AB.ea,EV.tg,EV.n8]
section
variable{S:FuncId->Fq->At->Prop}{K:AB->Prop}{D:I2}
variable{O:AB}{rs:List PR}
theorem w6(hj:JD D O){p q:PR}(a:wA D p q=X)(h:D0 S K (p::q::rs) O):D0 S K (q::p::rs) O:=by
 unfold wA at a;split at a
 .rename_i x g m C d F R θ ε κ η;simp only[gN,y_,ml,bne_iff_ne,ne_eq]at a;obtain⟨⟨⟨⟨⟨⟨⟨⟨Z,dpD⟩,mD⟩,qD⟩,J⟩,L⟩,pb⟩,hdx⟩,_⟩:=a;have n1:g≠d:=λe=>Av J (x:=g) V c!;have ζ:g≠m:=λe=>Av J (x:=g) V c!;have n3:g≠C:=λe=>Av J (x:=g) V c!;have n4:x≠d:=λe=>Av L (x:=x) V c!;have n5:x≠m:=λe=>Av L (x:=x) V c!;have n6:x≠C:=λe=>Av L (x:=x) V c!;obtain⟨e',A,h⟩:=h;have l:=hj.congr A.symm;simp only[PR.wp,R,θ,AB.put]at h;obtain⟨e,⟨e1,b,hw⟩,hre,M,B⟩:=Z2 F h;simp only[PR.wp,κ,η,ε,AB.put]at hw;obtain⟨eq,s,off,cs,k1,Q,k3,k4,k5,hK,k⟩:=S8 hw;have o:∀n,n≠g->e1.get n=e'.get n:=λn hn=>by rw[b.1,AB.d3,aE (λe=>hn e.symm)]
  have u:s≠g:=by
   intro hs;subst hs;rw[b.1,AB.d3,QQ rfl]at Q;exact M cs Q
  have G:e'.get m=.nh s off .hd:=by rw[<-o m (λe=>ζ e.symm)];exact k1
  have w:e'.get s=.bx cs:=by rw[<-o s u];exact Q
  have H:s∉D:=l.no (x:=m) (by rw[G];rfl);have δ:s≠d:=λe=>H (e▸Z);have I:e'.ew d=X:=by rw[b.2,AB.ea,gN]at k4;exact k4.2
  refine ⟨e',A,?_⟩;simp only[PR.wp,κ,η,ε,AB.put];refine k e' (o m (λe=>ζ e.symm)).symm (o C (λe=>n3 e.symm)).symm (o s u).symm I _ ⟨_,.refl _,?_⟩;simp only[PR.wp,R,θ,AB.put];refine B _ ?_ (λr hr=>?_) _ (F4 hK ?_)
  .rw[AB.d3,aE (λe=>n4 e.symm),Pn];by_cases z:s=x
   .subst z;rw[QQ rfl];exact .inr ⟨cs,_,w,rfl⟩
   .rw[aE z,aE (λe=>n5 e.symm),aE (λe=>n6 e.symm)];exact .inl rfl
  .have j:r∉D:=l.no hr;rw[AB.d3,aE (λ(e:d=r)=>j (e▸Z)),Pn];by_cases z:s=r
   .subst z;rw[QQ rfl];exact .inr ⟨cs,_,w,rfl⟩
   .rw[aE z,aE (λ(e:m=r)=>j (e▸mD)),aE (λ(e:C=r)=>j (e▸qD))];exact .inl rfl
  .refine⟨λn=>?_,λc=>?_⟩
   .simp only[AB.d3,Pn,b.1]
    grind
   .simp only[AB.ea,PF,b.2,EV.tg,k5]
    grind
 .cases a
theorem w5(Z:JD D O){p q:PR}(a:wA D q p=X)(h:D0 S K (p::q::rs) O):D0 S K (q::p::rs) O:=by
 unfold wA at a;split at a
 .rename_i x g m B d C L M Q R θ;simp only[gN,y_,ml,bne_iff_ne,ne_eq]at a;obtain⟨⟨⟨⟨⟨⟨⟨⟨κ,G⟩,mD⟩,qD⟩,H⟩,I⟩,qb⟩,hdx⟩,_⟩:=a;have n1:g≠d:=λe=>Av H (x:=g) V c!;have n2:g≠m:=λe=>Av H (x:=g) V c!;have n3:g≠B:=λe=>Av H (x:=g) V c!;have n4:x≠d:=λe=>Av I (x:=x) V c!;have n5:x≠m:=λe=>Av I (x:=x) V c!;have n6:x≠B:=λe=>Av I (x:=x) V c!;obtain⟨e',u,h⟩:=h;have k:=Z.congr u.symm;simp only[PR.wp,R,θ,Q,AB.put]at h;obtain⟨ep,s,off,cs,k1,k2,k3,k4,η,⟨ζ,b,δ⟩,w⟩:=S8 h;simp only[PR.wp,L,M,AB.put]at δ;obtain⟨e,hK,J,hnb,j⟩:=Z2 C δ;have l:s∉D:=k.no (x:=m) (by rw[k1];rfl);have hsd:s≠d:=λe=>l (e▸κ);have g1:∀n,n≠d->n≠m->n≠B->(ζ.get n).box2 (e'.get n):=by
   intro n z h2 h3;rw[b.1,AB.d3,aE (λe=>z e.symm),Pn];by_cases ε:s=n
   .subst ε;rw[QQ rfl];exact .inr ⟨_,cs,rfl,k2⟩
   .rw[aE ε,aE (λe=>h2 e.symm),aE (λe=>h3 e.symm)];exact .inl rfl
  have o:JD D ζ:=by
   intro y hy;rw[b.2,AB.ea,PF,EV.tg,η];exact k y hy
  refine ⟨e',u,?_⟩;simp only[PR.wp,L,M,AB.put];refine j e' (g1 x n4 n5 n6) (λr A=>?_) _ ⟨_,.refl _,?_⟩
  .have hrD:r∉D:=o.no A
   grind
  .simp only[PR.wp,R,θ,Q,AB.put];have F:s≠g:=λe=>l (e▸G);refine w _ (by rw[AB.d3,aE n2]) (by rw[AB.d3,aE n3]) (by rw[AB.d3,aE (λe=>F e.symm)]) ?_ _ (F4 hK ?_)
   .rw[AB.ea,k4,B!];refine U5 (λr A=>?_);rcases J r A with z|z
    .grind[Av]
    .exact λ(e:r=d)=>o.no z (e▸κ)
   .refine⟨λn=>?_,λc=>?_⟩
    .simp only[AB.d3,Pn,b.1]
     grind
    .simp only[AB.ea,PF,b.2,EV.tg,η]
     grind
 .cases a
end
def Vh(s:Nat)(cs:List AQ)(off:Nat)(O:AB):AB:=(s,.bx (cs.set off ⟨T,.undef⟩))::O
variable{s off:Nat}{O:AB}
theorem Pe{cs:List AQ}(n:Nat):AB.get (Vh s cs off O) n=if s=n then .bx (cs.set off ⟨T,.undef⟩)else O.get n:=rfl
theorem SG{cs:List AQ}(c:Nat):AB.ew c (Vh s cs off O)=AB.ew c O:=by
 simp [Vh,AB.ea,EV.tg,EV.n8]
def RY(cs:List AQ)(off:Nat)(e:EV):Prop:=(∃n es,cs[off]?=Y ⟨X,.xl n es⟩/\e=.xo n es)\/∃es,cs[off]?=Y ⟨X,.xn es⟩/\e=.xn es
variable{e:EV}
theorem RY.n8{cs:List AQ}(h:RY cs off e):e.n8=W:=by
 rcases h with⟨_,_,_,rfl⟩|⟨_,_,rfl⟩<;>rfl
theorem RY.cell{cs:List AQ}(h:RY cs off e):∃t,cs[off]?=Y ⟨X,t⟩/\t.Aai=X:=by
 rcases h with⟨_,_,h,_⟩|⟨_,h,_⟩<;>exact⟨_,h,rfl⟩
variable{x:AF}{d:Nat}
theorem Ul{S:FuncId->Fq->At->Prop}{K:EV->AB->Prop}(h:(AE.ctk x).wp S O (Y d) K):
  ∃e s off cs,x.place O=Y (s,off)/\O.get s=.bx cs/\RY cs off e/\O.ew d=X/\K e (Vh s cs off O)/\
   ∀env2 a,x.place env2=Y (s,off)->env2.get s=.bx a->a[off]?=cs[off]?->env2.ew d=X->∀c:EV->AB->Prop,c e (Vh s a off env2)->(AE.ctk x).wp S env2 (Y d) c:=by
 simp only[AE.wp]at h;split at h
 .rename_i z s off hd u;simp only[kx]at hd;subst hd;split at h
  .rename_i cs w;split at h
   next n es b=>refine⟨_,s,off,cs,u,w,.inl ⟨n,es,b,rfl⟩,h.1,h.2,λenv2 a g j k l c o=>?_⟩;simp only[AE.wp,g,j,k,b];exact⟨l,o⟩
   next es b=>refine⟨_,s,off,cs,u,w,.inr ⟨es,b,rfl⟩,h.1,h.2,λenv2 a g j k l c o=>?_⟩;simp only[AE.wp,g,j,k,b];exact⟨l,o⟩
   .exact h.elim
  .exact h.elim
 .exact h.elim
def ut:AE->Bool
 |.bad _ _=>X|.zt _ _=>X|.ld _=>X|.mv _=>X|.iad _ _ _=>X|.lst _ _=>X|.bld _ _=>X|.xal _=>X|.xin _ _ _=>X|.xln _=>X|.ldt _=>X|.app _ (.s _) _=>X|_=>T
structure Tk(op:AE)(E E2:AB):Prop where
 no:∀m∈op.slots,(∀cs,E.get m≠.bx cs)->E2.get m=E.get m
 n8:∀m∈op.slots,∀r,(E.get m).n8=Y r->(∀cs,E.get r≠.bx cs)->E2.get r=E.get r
 bx:∀r c0,(r∈op.slots\/∃m∈op.slots,(E.get m).n8=Y r)->E.get r=.bx c0->∃c1,E2.get r=.bx c1/\(∀k t,t.Aai=T->E4 ((c0.drop k).map (·.t))=Y t->E4 ((c1.drop k).map (·.t))=Y t)/\∀(k:Nat)t,t.Aai=T->c0[k]?=Y ⟨X,t⟩->c1[k]?=Y ⟨X,t⟩
section
variable{op:AE}{E E2:AB}
variable{x:AF}{e:EV}
theorem Tk.ev(h:Tk op E E2)(a:∀s∈x.sl,s∈op.slots)(he:x.ev E=e)(b:∀cs,e≠.bx cs):x.ev E2=e:=by
 subst he;cases x with
 |c t=>rfl|s n=>exact h.no n (a n c_) b
variable{t:TV}
theorem Tk.val(h:Tk op E E2)(b:∀s∈x.sl,s∈op.slots)(a:x.val E=Y t):x.val E2=Y t:=by
 unfold AF.val at a|-;rw[h.ev b rfl λcs c=>by rw[c]at a;cases a];exact a
theorem Tk.vals(h:Tk op E E2):∀{xs:List AF}{b:Fq},(∀s∈Cm xs,s∈op.slots)->Go.Sf.vals E xs=Y b->Go.Sf.vals E2 xs=Y b
 |[],_,_,a=>a|x::xs,b,g,a=>by
  simp only[Cm,x?]at g;simp only[Go.Sf.vals]at a|-;split at a
  next t j k l=>rw[h.val (λs c=>g s (.inl c)) k,h.vals (λs c=>g s (.inr c)) l];exact a
  .cases a
theorem Tk.parts(h:Tk op E E2):∀{xs:List (Nat×Nat×AF)}{b:List (Nat×Nat×TV)},(∀s∈Qw xs,s∈op.slots)->EX E xs=Y b->EX E2 xs=Y b
 |[],_,_,a=>a|(i,n,x)::xs,b,g,a=>by
  simp only[Qw,x?]at g;simp only[EX]at a|-;split at a
  next t j k l=>rw[h.val (λs c=>g s (.inl c)) k,h.parts (λs c=>g s (.inr c)) l];exact a
  .cases a
theorem Tk.place(h:Tk op E E2)(b:∀s∈x.sl,s∈op.slots){p:Nat×Nat}(a:x.place E=Y p):x.place E2=Y p:=by
 cases x with
 |c t=>cases a
 |s n=>
  have hn:=b n c_;simp only[AF.place]at a|-;split at a
  next q off he=>rw[h.no n hn (by rw[he];simp),he];exact a
  next cs he=>obtain⟨j,g,_⟩:=h.bx n cs (.inl hn) he;rw[g];exact a
  .cases a
end
variable{dst:Option Nat}
theorem ng{S:FuncId->Fq->At->Prop}{op:AE}(ho:ut op=X){E:AB}{K:EV->AB->Prop}(h:op.wp S E dst K):
  ∃(e:EV)(f:A6),K e (f.app E)/\f.ok E/\(∀s t,f=.slot s t->s∈op.slots)/\(∀s o t,f=.cell s o t->s∈op.slots\/∃y∈op.slots,(E.get y).n8=Y s)/\(∀cs,e≠.bx cs)/\
   ∀E2,Tk op E E2->∀u:EV->AB->Prop,u e (f.app E2)->op.wp S E2 dst u:=by
 have a:∀{e:EV},K e E->(∀cs,e≠.bx cs)->(∀E2,Tk op E E2->∀u:EV->AB->Prop,u e E2->op.wp S E2 dst u)->∃(e:EV)(f:A6),K e (f.app E)/\f.ok E/\(∀s t,f=.slot s t->s∈op.slots)/\(∀s o t,f=.cell s o t->s∈op.slots\/∃y∈op.slots,(E.get y).n8=Y s)/\(∀cs,e≠.bx cs)/\
   ∀E2,Tk op E E2->∀u:EV->AB->Prop,u e (f.app E2)->op.wp S E2 dst u:=λ{e}B C G=>⟨e,.none,B,trivial,V,V,C,G⟩
 cases op with
 |mv x=>
  simp only[AE.wp]at h;split at h
  next t l=>exact a h V λE2 b u g=>g_
  next t l=>exact a h V λE2 b u g=>g_
  next t l=>exact a h V λE2 b u g=>g_
  .exact h.elim
 |bad s k=>
  simp only[AE.wp]at h;split at h
  next cs F=>refine a h V λE2 b u g=>?_;obtain⟨θ,B,_⟩:=b.bx s cs (.inl e!) F;simp only[AE.wp,B];exact g
  next row F=>exact a h V λE2 b u g=>by simp only[AE.wp,b.no s e! (by rw[F];simp),F];exact g
  .exact h.elim
 |zt x k=>
  simp only[AE.wp]at h;split at h
  next row l=>exact a h V λE2 b u g=>g_
  .rename_i s off l;split at h
   .rename_i cs F;refine a h V λE2 b u g=>?_;have A:∃y∈x.sl,(E.get y).n8=Y s:=by
     cases x with
     |c t=>simp[AF.ev]at l|s n=>simp only[AF.ev]at l;exact⟨n,c_,by rw[l];rfl⟩
    obtain ⟨θ,B,_⟩:=b.bx s cs (.inr A) F;simp only[AE.wp,b.ev (λs h=>h) l V,B];exact g
   .exact h.elim
  .exact h.elim
 |iad x i n=>
  simp only[AE.wp]at h;split at h
  next m es k j l hi=>obtain⟨B,C,e,G,R⟩:=h;exact a R V λE2 b u g=>by simp only[AE.wp,b.val (λs h=>Cq h) l,b.val (λs h=>DJ h) hi];exact⟨B,C,e,G,g⟩
  .exact h.elim
 |lst n κ=>
  simp only[AE.wp]at h;cases hv:Go.Sf.vals E κ with
  |none=>rw[hv]at h;exact h.elim|some η=>
   rw [hv]at h;exact a h.2 V λE2 b u g=>by simp only[AE.wp,b.vals (λs h=>h) hv,Ai];exact⟨h.1,g⟩
 |bld z κ=>
  simp only[AE.wp]at h;cases hv:EX E κ with
  |none=>rw[hv]at h;exact h.elim|some η=>
   rw [hv]at h;simp only[Ai]at h;cases hf:Eb z η with
   |none=>rw[hf]at h;exact h.elim|some cs=>
    rw [hf]at h;exact a h V λE2 b u g=>by simp only[AE.wp,b.parts (λs h=>h) hv,Ai,hf];exact g
 |xal s=>
  simp only[AE.wp]at h;split at h
  next m ζ F=>exact a h V λE2 b u g=>by simp only[AE.wp,b.no s e! (by rw[F];simp),F];exact g
  .exact h.elim
 |xin x i n=>
  simp only[AE.wp]at h;split at h
  .rename_i q k j l hi;split at h
   .rename_i m es M;obtain⟨B,C,G,R⟩:=h;have A:∃y∈x.sl,(E.get y).n8=Y q:=by
     cases x with
     |c t=>simp[AF.ev]at l|s n=>simp only[AF.ev]at l;exact⟨n,c_,by rw[l];rfl⟩
    obtain ⟨y,J,L⟩:=A;refine a R V λE2 b u g=>?_;simp only[AE.wp,b.ev (λs h=>Cq h) l V,b.val (λs h=>DJ h) hi,b.n8 y (Cq J) q L (by rw[M];simp),M];exact⟨B,C,G,g⟩
   .exact h.elim
  .exact h.elim
 |xln x=>
  simp only[AE.wp]at h;split at h
  .rename_i q c l;split at h
   .rename_i m es M;cases w:(es.flatMap TV.cells)[c]? with
    |none=>rw[w]at h;exact h.elim|some t=>
     rw [w]at h;have A:∃y∈x.sl,(E.get y).n8=Y q:=by
      cases x with
      |c t=>simp[AF.ev]at l|s n=>simp only[AF.ev]at l;exact⟨n,c_,by rw[l];rfl⟩
     obtain ⟨y,J,L⟩:=A;refine a h V λE2 b u g=>?_;simp only[AE.wp,b.ev (λs h=>h) l V,b.n8 y J q L (by rw[M];simp),M,w,Ai];exact g
   .exact h.elim
  .exact h.elim
 |ld x=>
  simp only[AE.wp]at h;cases w:A7 E (x.ev E)with
  |none=>rw[w]at h;exact h.elim|some cs=>
   rw [w]at h;simp only[Ai]at h;cases b:E4 cs with
   |none=>rw[b]at h;exact h.elim|some t=>
    rw [b]at h;obtain⟨ε,h⟩:=h;refine a h V λE2 hT u g=>?_;have δ:∃cs',A7 E2 (x.ev E2)=Y cs'/\E4 cs'=Y t:=by
     cases x with
     |c Q=>exact⟨cs,by rw[<-w];cases Q<;>rfl,b⟩
     |s y=>
      have I:y∈(AE.ld (.s y)).slots:=so
      simp only[AF.ev]at w|-;cases A:E.get y with
      |bp s off=>
       rw [hT.no y I (by rw[A];simp),A];rw[A]at w;simp only[A7]at w|-;split at w
       next ds F=>cases w;obtain⟨θ,B,C,_⟩:=hT.bx s ds (.inr ⟨y,I,o2⟩) F;rw[B];exact⟨_,rfl,C _ _ ε b⟩
       .cases w
      |tv Q=>
       rw [hT.no y I (by rw[A];simp),A];rw[A]at w;exact⟨cs,by rw[<-w];cases Q<;>rfl,b⟩
      |bx ds=>
       rw [A]at w;simp only[A7,kx]at w;subst w;obtain⟨θ,B,C,_⟩:=hT.bx y ds (.inl I) A;rw[B];have:=C 0 t ε (by simpa using b);exact⟨_,rfl,by simpa using this⟩
      |_=>rw[A]at w;cases w
    obtain ⟨cs',B,C⟩:=δ;simp only[AE.wp,B,Ai,C];exact⟨ε,g⟩
 |ldt x=>
  simp only[AE.wp]at h;split at h
  .rename_i s off H;split at h
   .rename_i cs F;split at h
    .rename_i n es w;have A:s∈x.sl\/∃y∈x.sl,(E.get y).n8=Y s:=by
      cases x with
      |c t=>cases H
      |s m=>
       simp only[AF.place]at H;split at H
       next q o he=>simp only[kx,Prod.mk.injEq]at H;exact .inr ⟨m,c_,by rw[he,<-H.1];rfl⟩
       .simp only[kx,Prod.mk.injEq]at H;exact .inl (by simp[AF.sl,H.1])
       .cases H
     refine ⟨.ow (.list n es),.cell s off (.list n es),?_,⟨cs,F,w⟩,V,?_,V,λE2 hT u g=>?_⟩
     .simp only[A6.app,F];exact h
     .intro s' o' Q he;simp only[A6.cell.injEq]at he;rw[<-he.1];exact A
     .obtain⟨θ,B,_,C⟩:=hT.bx s cs A F;have G:=C off _ rfl w;simp only[AE.wp,hT.place (λs h=>h) H,B,G];simp only[A6.app,B]at g;exact g
    .exact h.elim
   .exact h.elim
  .exact h.elim
 |app n x y=>
  cases x with
  |c t=>cases ho
  |s q=>
   simp only[AE.wp]at h;split at h
   .rename_i m es m' ζ l A;obtain⟨B,C,G,R⟩:=h;subst B;simp only[AF.ev]at l;refine⟨_,.slot q (.list m es),R,l,?_,V,V,λE2 hT u g=>?_⟩
    .intro s' Q he;simp only[A6.slot.injEq]at he;rw[<-he.1];simp[AE.slots,AF.sl]
    .have Z:E2.get q=.ow (.list m es):=by rw[hT.no q so (by rw[l];simp),l]
     simp only[AE.wp,AF.ev,Z,hT.val (λs h=>DJ h) A];exact⟨trivial,C,G,g⟩
   .exact h.elim
 |_=>cases ho
variable{s off d:Nat}
theorem zp{op:AE}{E E2:AB}{cs:List AQ}{A:EV}(w:E.get s=.bx cs)(B:RY cs off A)(hd:d∉op.slots)(hn:E.ew d=X)(h:∀m,m≠d->E2.get m=AB.get (Vh s cs off E) m):Tk op E E2:=by
 have z:∀m r,(E.get m).n8=Y r->r≠d:=λm r b e=>AB.mo d E hn m (e▸b);have g:∀m,m≠d->(∀cs,E.get m≠.bx cs)->E2.get m=E.get m:=λm l c=>by
  rw [h m l,Pe,aE (λe:s=m=>c cs (e▸w))]
 refine ⟨λm C c=>g m (λe=>hd (e▸C)) c,λm _ r b c=>g r (z m r b) c,λr F b o=>?_⟩;have u:r≠d:=by
  rcases b with b|⟨m,_,b⟩
  .exact λe=>hd (e▸b)
  .exact z m r b
 rw [h r u,Pe];by_cases e:s=r
 .subst e;rw[w]at o;cases o;obtain⟨G,l,c⟩:=B.cell;rw[QQ rfl];refine⟨_,rfl,λk t j a=>?_,λk t j a=>?_⟩
  .rw[fv]at a|-;by_cases e:off=k
   .subst e;rw[l]at a;simp at a;rw[<-a,c]at j;cases j
   .rw[y? e];exact a
  .by_cases e:off=k
   .subst e;rw[l]at a;simp at a;rw[<-a,c]at j;cases j
   .rw[y? e];exact a
 .rw[aE e];exact⟨F,o,λ_ _ _ h=>h,λ_ _ _ h=>h⟩
theorem iK{E E2:AB}:∀{xs:List AF}{g:Fq},(∀k∈Cm xs,(∀cs,E.get k≠.bx cs)->E2.get k=E.get k)->Go.Sf.vals E xs=Y g->Go.Sf.vals E2 xs=Y g
 |[],_,_,a=>a|x::xs,g,h,a=>by
  simp only[Cm,x?]at h;simp only[Go.Sf.vals]at a|-;split at a
  .rename_i t o b w;have z:x.val E2=Y t:=by
    cases x with
    |c u=>exact b|s k=>
     simp only[AF.val,AF.ev]at b|-;rw[h k (.inl c_) λcs j=>by rw[j]at b;cases b];exact b
   rw [z,iK (λs l=>h s (.inr l)) w];exact a
  .cases a
def Vt(D:I2)(p q:PR):Bool:=
 match q.op,q.guard,q.dst,p.guard,p.dst with
 |.ctk (.s m),W,Y d,W,Y dp=>ut p.op&&PR.sE D p&&dp !=d&&dp !=m&&d !=m&&!p.op.slots.contains d|_,_,_,_,_=>T
def AaU(D:I2)(p q:PR):Bool:=
 match p.op,p.guard,p.dst,q.op,q.guard,q.dst with
 |.ctk (.s m),W,Y d,.lst _ ps,W,Y dq=>D.contains dq&&dq !=d&&dq !=m&&!(Cm ps).contains d|_,_,_,_,_,_=>T
section
variable{S:FuncId->Fq->At->Prop}{K:AB->Prop}{D:I2}
variable{O:AB}{rs:List PR}
theorem wu{p q:PR}(j:Vt D p q=X)(h:D0 S K (p::q::rs) O):D0 S K (q::p::rs) O:=by
 unfold Vt at j;split at j
 .rename_i m d ε qo qg qd pg pd;simp only[gN,bne_iff_ne,ne_eq,B',y_,decide_eq_false_iff_not]at j;obtain⟨⟨⟨⟨⟨ho,_⟩,n1⟩,n2⟩,n3⟩,δ⟩:=j;obtain⟨e',Z,h⟩:=h;simp only[PR.wp,pg,pd,AB.put]at h;obtain⟨e,f,⟨e1,w,hw⟩,fok,fsl,F,hnb,L⟩:=ng ho h;simp only[PR.wp,qg,qd,qo,AB.put]at hw;obtain⟨eq,s,off,l,a,b,z,M,hK,G⟩:=Ul hw;have θ:∀n,e1.get n=if ε=n then e else f.on n (e'.get n):=λn=>by rw[w.1,AB.d3,A6.get]
  have H:ε≠s:=λh=>hnb l (by rw[<-b,θ,QQ h]);have B:e'.ew d=X:=by
   rw [w.2,AB.ea,A6.ew,gN]at M;exact M.2
  have g:(AF.s m).place e'=Y (s,off):=by
   simp only[AF.place]at a|-;rw[θ,aE n2]at a;cases f with
   |none=>exact a|slot s2 t=>
    simp only[A6.on]at a;by_cases k:s2=m
    .rw[QQ k]at a;cases a
    .rw[aE k]at a;exact a
   |cell s2 o t=>
    simp only[A6.on]at a;by_cases k:s2=m
    .rw[QQ k]at a;cases hm:e'.get m<;>rw[hm]at a<;>exact a
    .rw[aE k]at a;exact a
  have hsd2:s≠d:=by
   simp only[AF.place]at g;split at g
   next q o he=>simp only[kx,Prod.mk.injEq]at g;exact λhh=>AB.mo d e' B m (by rw[he,<-hh,<-g.1];rfl)
   .simp only[kx,Prod.mk.injEq]at g;exact λhh=>n3 (by rw[<-hh,<-g.1])
   .cases g
  rw [θ,aE H]at b;obtain⟨t0,Q,hx0⟩:=z.cell;have κ:∃cs,e'.get s=.bx cs/\cs[off]?=l[off]?/\f.on s (.bx (cs.set off ⟨T,.undef⟩))=.bx (l.set off ⟨T,.undef⟩):=by
   cases f with
   |none=>exact⟨l,b,rfl,rfl⟩|slot s2 t=>
    simp only[A6.on]at b|-;by_cases k:s2=s
    .rw[QQ k]at b;cases b
    .rw[aE k]at b;exact⟨l,b,rfl,by rw[aE k]⟩
   |cell s2 o t=>
    simp only[A6.on]at b|-;by_cases k:s2=s
    .subst k;obtain⟨ds,A,J⟩:=fok;rw[QQ rfl,A]at b;simp only[EV.bx.injEq]at b;subst b;have η:=(z_.1 J).1;have I:o≠off:=by
      intro hh;subst hh;rw[List.getElem?_set_self η]at Q;cases Q
     exact ⟨ds,A,by rw[y? I],by rw[QQ rfl];simp only[List.set_comm _ _ I]⟩
    .rw[aE k]at b;exact⟨l,b,rfl,by rw[aE k]⟩
  obtain ⟨cs,hs,R,hon⟩:=κ;have C:RY cs off eq:=by unfold RY at z|-;rw[R];exact z
  have ζ:∀u,f.on d u=u:=λu=>by
   cases f with
   |none=>rfl|slot s2 t=>simp only[A6.on];rw[aE (λk:s2=d=>δ (k▸fsl _ _ rfl))]|cell s2 o t=>
    simp only[A6.on];rw[aE];intro k;rcases F _ _ _ rfl with A|⟨y,_,A⟩
    .exact δ (k▸A)
    .exact AB.mo d e' B y (k▸A)
  refine ⟨e',Z,?_⟩;simp only[PR.wp,qg,qd,qo,AB.put];refine G e' cs g hs R B _ ⟨_,.refl _,?_⟩;simp only[PR.wp,pg,pd,AB.put];refine L _ (zp hs C δ B λn hn=>by rw[AB.d3,aE (λh=>hn h.symm)]) _ (F4 hK ?_);refine⟨λn=>?_,λc=>?_⟩
  .simp only[AB.d3,Pe,A6.get,θ];by_cases k:ε=n
   .subst k;rw[aE (λh=>n1 h.symm),aE (λh=>H h.symm),QQ rfl,QQ rfl]
   .rw[aE k,aE k];by_cases A:d=n
    .subst A;rw[QQ rfl,QQ rfl,ζ]
    .rw[aE A,aE A];by_cases J:s=n
     .subst J;rw[QQ rfl,QQ rfl,hon]
     .rw[aE J,aE J]
  .simp only[AB.ea,SG,A6.ew,w.2];cases EV.tg c eq<;>cases EV.tg c e<;>rfl
 .cases j
theorem wv(θ:JD D O){p q:PR}(a:AaU D p q=X)(h:D0 S K (p::q::rs) O):D0 S K (q::p::rs) O:=by
 unfold AaU at a;split at a
 .rename_i m d n η ζ F G H I J L;simp only[gN,bne_iff_ne,ne_eq,B',y_,ml,decide_eq_false_iff_not]at a;obtain⟨⟨⟨Z,n1⟩,Q⟩,n3⟩:=a;obtain⟨e',u,h⟩:=h;have z:=θ.congr u.symm;simp only[PR.wp,F,G,H,AB.put]at h;obtain⟨ep,s,off,cs,b,hs,R,B,⟨C,g,j⟩,w⟩:=Ul h;simp only[PR.wp,J,L,I,AB.put,AE.wp]at j;have δ:∀k,k≠d->(∀cs,C.get k≠.bx cs)->e'.get k=C.get k:=λk ε l=>by
   rw [g.1,AB.d3,aE (λh=>ε h.symm),Pe]at l|-;by_cases M:s=k
   .rw[QQ M]at l;exact absurd rfl (l _)
   .rw[aE M]
  have A:s≠ζ:=by
   simp only[AF.place]at b;split at b
   next q o he=>simp only[kx,Prod.mk.injEq]at b;exact λhh=>z.no (x:=m) (by rw[he];rfl) (by rw[b.1,hh];exact Z)
   .simp only[kx,Prod.mk.injEq]at b;exact λhh=>Q (by rw[<-hh,<-b.1])
   .cases b
  cases hv:Go.Sf.vals C η with
  |none=>rw[hv]at j;exact j.elim|some ts=>
   rw [hv]at j;obtain⟨hl,j⟩:=j;refine⟨e',u,?_⟩;simp only[PR.wp,J,L,I,AB.put,AE.wp,iK (λk κ l=>δ k (λh=>n3 (h▸κ)) l) hv,Ai];refine⟨hl,_,.refl _,?_⟩;simp only[PR.wp,F,G,H,AB.put];refine w _ cs (by simp only[AF.place]at b|-;rw[AB.d3,aE Q];exact b) (by rw[AB.d3,aE (λh=>A h.symm)];exact hs) rfl (by rw[AB.ea,B];rfl) _ (F4 j ?_);refine⟨λk=>?_,λc=>?_⟩
   .simp only[AB.d3,Pe,g.1]
    grind
   .simp only[AB.ea,SG,g.2];cases EV.tg c ep<;>rfl
 .cases a
end
def AaP(p:PR):Bool:=(p.tk.isSome&&!p.op.x9)||(match p.op,p.guard,p.dst with|.Aar _ _,W,Y _=>X|.ctk _,W,Y _=>X|_,_,_=>T)
variable{O:AB}
theorem cc{S:FuncId->Fq->At->Prop}{p:PR}{K:AB->Prop}(ho:AaP p=X)(h:p.wp S O K):∃gE,K gE/\(∀c,gE.ew c=O.ew c)/\∀b:AB->Prop,b gE->p.wp S O b:=by
 simp only[AaP,B_]at ho;rcases ho with ho|ho
 .simp only[gN,B']at ho;obtain⟨⟨qs,d⟩,w⟩:=C_.1 ho.1;obtain⟨e,u,j,g,a⟩:=YI w (λh=>by rw[ho.2]at h;cases h) h;exact⟨_,g,λc=>by rw[AB.ea,Gc j.Aa0,EV.tg,j.Abb];rfl,a O (λ_ _=>rfl) j.dno⟩
 split at ho
 .rename_i m q d k l o
  grind [PR.wp,AB.put,S8,AB.ea,PF,EV.tg]
 next x d k l o=>simp only[PR.wp,k,l,o,AB.put]at h|-;obtain⟨e,s,off,cs,z,A,B,C,F,G⟩:=Ul h;exact⟨_,F,λc=>by rw[AB.ea,SG,EV.tg,B.n8];rfl,λb g=>G O cs z A rfl C _ g⟩
 .cases ho
def Aa1(p:PR):Bool:=match p.op,p.guard,p.dst with
 |.tl _,W,Y _=>X|_,_,_=>T
theorem rY{p:PR}{x:I2×Nat}(h:p.tk=Y x)(a:p.op.x9=X):Aa1 p=X:=by
 obtain ⟨qs,d⟩:=x;obtain⟨g,b,c⟩:=PR.tk_some h;unfold Aa1;rw[b,c];cases ho:p.op<;>simp[ho,AE.x9]at a<;>rfl
theorem jS{D:I2}{p q:PR}(h:x5 D q p=X):Aa1 p=X\/AaP p=X:=by
 unfold x5 at h;split at h
 .rename_i qs d a;cases b:p.op.x9 with
  |true=>exact .inl (rY a b)|false=>exact .inr (by simp[AaP,a,b])
 .cases h
theorem eW{D:I2}{p q:PR}(h:x5 D p q=X):PR.sE D p=X:=by
 unfold x5 at h
 grind
theorem jV{D:I2}{p q:PR}(h:Aay D p q=X):Aa1 p=X\/AaP p=X:=by
 unfold Aay at h;split at h
 .rename_i c g qs j a _;cases b:p.op.x9 with
  |true=>exact .inl (rY a b)|false=>exact .inr (by simp[AaP,a,b])
 .cases h
theorem eX{D:I2}{p q:PR}(h:wA D p q=X):PR.sE D p=X:=by
 unfold wA at h
 grind
theorem jT{D:I2}{p q:PR}(h:wA D q p=X):AaP p=X:=by grind[wA,AaP]
end Go.Sf
namespace Go.Sf
open Go.RowKit (Below)
def Nw(rs:List PR)(i:Nat):PR:=(rs[i]?).getD ⟨W,.Aa8 0,W⟩
def AaF(p q:PR):Bool:=match p.op,p.guard,p.dst,q.op,q.guard,q.dst with
 |.tl gs,W,Y dp,.alc _,W,Y dq=>dp !=dq&&!(gs.flatMap GC.sl).contains dq|_,_,_,_,_,_=>T
theorem jR{p q:PR}(h:AaF p q=X):Aa1 p=X:=by grind[AaF,Aa1]
def Wj(p:PR):Bool:=match p.op,p.guard,p.dst with
 |.st _ (.s _) _,W,W=>X|.xst _ _ _,W,W=>X|_,_,_=>T
def AaC(D:I2)(p q:PR):Bool:=match p.op,p.guard,p.dst,q.op,q.guard,q.dst with
 |.xst x v _,W,W,.xia (.s _) _ _,W,Y d=>D.contains d&&!x.sl.contains d&&!v.sl.contains d|_,_,_,_,_,_=>T
def Si(D:I2)(p q:PR):Bool:=match p.op,p.guard,p.dst,q.op,q.guard,q.dst with
 |.st _ (.s x) v,W,W,.bad m _,W,Y d=>D.contains d&&d !=x&&d !=m&&!v.sl.contains d&&!v.sl.contains m|.st _ (.s x) v,W,W,.zt (.s m) _,W,Y d=>D.contains d&&d !=x&&d !=m&&!v.sl.contains d&&!v.sl.contains m|_,_,_,_,_,_=>T
theorem jQ{D:I2}{p q:PR}(h:Si D p q=X):Wj p=X:=by grind[Si,Wj]
theorem jU{D:I2}{p q:PR}(h:AaC D p q=X):Wj p=X:=by grind[AaC,Wj]
def AE.vops:AE->Option (List AF)
 |.len x=>Y [x]|.mm _ x y=>Y [x,y]|.slc _ x lo hi=>Y (x::(lo.toList++hi.toList))|.bin _ _ x y=>Y [x,y]|.cvt _ x=>Y [x]|.fdv x _=>Y [x]|.ldv x _=>Y [x]|_=>W
def AaR(D:I2)(p q:PR):Bool:=match p.op.vops,p.guard,p.dst,q.op,q.guard,q.dst with
 |some xs,W,Y d,.st _ (.s x) v,W,W=>PR.sE D p&&d !=x&&!v.sl.contains d&&Ew (xs.flatMap AF.sl) v.sl|_,_,_,_,_,_=>T
def AaQ(D:I2)(p q:PR):Bool:=match p.op,p.guard,p.dst,q.op,q.guard,q.dst with
 |.ldb b _,W,Y d,.st _ (.s x) v,W,W=>PR.sE D p&&D.contains b&&b !=x&&d !=x&&d !=b&&!v.sl.contains d&&!v.sl.contains b|.bad b _,W,Y d,.st _ (.s x) v,W,W=>PR.sE D p&&d !=x&&!v.sl.contains d&&!v.sl.contains b|_,_,_,_,_,_=>T
def AaA(p q:PR):Bool:=match p.op,p.guard,p.dst,q.op,q.guard,q.dst with
 |.wi _ xs _,W,Y d,.alc _,W,Y d'=>d !=d'&&!(Cm xs).contains d'|_,_,_,_,_,_=>T
def Abj(p:PR):Bool:=match p.op,p.guard,p.dst with
 |.wi _ _ _,W,Y _=>X|_,_,_=>T
theorem Xw{p q:PR}(h:AaA p q=X):Abj p=X:=by grind[AaA,Abj]
def Aaw(D:I2)(p q:PR):Bool:=Xv D p q||AaD D p q||AaF p q||AaT D p q||AaS D p q||(Si D p q||AaC D p q)||AaR D p q||AaQ D p q||(x5 D p q||x5 D q p||Aay D p q||wA D p q||wA D q p)||(Vt D p q||AaU D p q)||AaA p q
def okQ(p:PR):Bool:=match p.op,p.guard,p.dst with
 |.tkx _,W,Y _=>X|.AaX _ _ _ _,W,Y _=>X|_,_,_=>T
theorem eV{D:I2}{p q:PR}(h:Aaw D p q=X):(((PR.sE D p=X\/Aa1 p=X)\/Wj p=X)\/AaP p=X)\/Abj p=X:=by
 simp [Aaw]at h;rcases h with h|h
 rotate_left
 .exact .inr (Xw h)
 left;rcases h with((((((((h|h)|h)|h)|h)|h)|h)|h)|((((h|h)|h)|h)|h))|(h|h)
 rotate_right 7
 .grind[eW]
 .rcases jS h with h|h
  .exact .inl (.inl (.inr h))
  .exact .inr h
 .rcases jV h with h|h
  .exact .inl (.inl (.inr h))
  .exact .inr h
 .grind[eX]
 .exact .inr (jT h)
 .grind[Vt]
 .exact .inr (by unfold AaU at h;grind[AaP])
 all_goals refine .inl ?_
 .simp[Xv]at h
  grind
 .unfold AaD at h
  grind
 .grind[jR]
 .unfold AaT at h
  grind
 .unfold AaS at h
  grind
 .grind[jQ,jU]
 .unfold AaR at h
  grind
 .unfold AaQ at h
  grind
def qz(ops:Array Oper):I2:=
 ops.toList.foldl (λacc o=>acc++[o.after.toList.foldl (λm e=>if Region.binds .any e then m|||(1<<<e.on)|||acc.getD e.on 0 else m) 0]) []
def okCa(p:PR):Bool:=match p.op,p.guard,p.dst with
 |.Aas _ _ _,W,Y _=>X|_,_,_=>T
variable{O:AB}
theorem oY{S:FuncId->Fq->At->Prop}{p:PR}{K:AB->Prop}(ho:okCa p=X)(h:p.wp S O K):p.wp S O λgE=>K gE/\∀c,gE.ew c=O.ew c:=by
 unfold okCa at ho;split at ho
 .rename_i f args i d g j k;simp[PR.wp,g,j,k,AE.wp,AB.put]at h|-;split at h
  .rename_i u q a w;simp at a;subst a;split at h
   .rename_i cs z;refine⟨h.1,?_⟩;cases hv:FE O i args with
    |none=>rw[hv]at h;exact h.2.elim|some A=>
     rw [hv]at h;obtain⟨_,r,l,o⟩:=h;refine⟨r,l,λb=>⟨o b,λc=>?_⟩⟩;have:EV.tg c r.aev=X:=by cases r<;>rfl
     rw [AB.ea,AB.ea,this];rfl
   .exact h.elim
  .exact h.elim
 .cases ho
def okCm(p:PR):Bool:=match p.op,p.dst with
 |.Aaj _ _ _,Y _=>X|_,_=>T
def cb(D:I2)(r:PR):Bool:=
 NF r.op||Aa1 r||okQ r||AaP r||okCa r||okCm r||Abj r||(r.op.mov&&r.dst.isSome&&(!r.op.nx||r.guard.isNone)&&Ew r.op.AaH D)
def U7(P:Program)(N:Nat)(D:I2)(ops:Array Oper)(rs:List PR):Bool:=
 let n:=ops.size
 let M:=qz ops
 MP P N ops ops.toList rs&&(z! n).all (λi=>cb D (Nw rs i)) &&
 (z! n).all (λi=>match ops[i]? with
  |some o=>o.after.toList.all λe=>!Region.binds .any e||decide (e.on<i)|none=>T) &&
 (z! n).all (λi=>(z! n).all λj=>!(M.getD i 0).testBit j||(match ops[i]? with
  |some o=>o.after.toList.any λe=>Region.binds .any e&&(e.on==j||(decide (e.on<i)&&(M.getD e.on 0).testBit j))|none=>T)) &&
 (z! n).all (λi=>(z! i).all λj=>(M.getD i 0).testBit j||Aaw D (Nw rs j) (Nw rs i))
section
variable{P:Program}{F0:Nat->Nat->Prop}{w0:W0}{N:Nat}{p:Option (Nat×Value)}{ops:Array Oper}{K:AB->Prop}{D:I2}
variable{f:A6}{O:AB}
theorem EL.refl{op:AE}{d:Option Nat}(h:f.ok O):EL op f d O O:=
 ⟨λ_ _=>.inl rfl,λ_ _ _ _=>.inl rfl,λ_ _ _=>rfl,h,λ_ _ _ h=>h⟩
theorem Lv(d:Nat)(e0:AB):∀(qs:I2)(O:AB),AB.ew d (Np e0 qs O)=AB.ew d O
 |[],_=>rfl|q::qs,O=>by
  rw [Np,AB.ea,Lv d e0 qs O]
  grind [Lu,EV.tg,EV.n8]
theorem r9(d:Nat)(e:EV)(O:AB)(g:GC)(h:d∉g.sl):GC.cell ((d,e)::O) g=g.cell O:=by
 cases g with
 |z c=>rfl|v x k n=>
  cases x with
  |s q=>
   grind [GC.sl,x_,GC.cell,AF.val,AF.ev,AB.d3]
  |c t=>rfl
 |w q=>
  grind [GC.sl,x_,GC.cell,AB.d3]
 |g q k n=>
  grind [GC.sl,x_,GC.cell,AB.d3]
theorem cA(d:Nat)(e:EV)(O:AB):∀(gs:List GC),d∉gs.flatMap GC.sl->FT ((d,e)::O) gs=FT O gs
 |[],_=>rfl|g::gs,h=>by
  rw [x!,x?,not_or]at h;simp[FT,r9 d e O g h.1,cA d e O gs h.2]
theorem tf{gs:List GC}{q:Nat}(h:q∈gs.filterMap GC.slot):q∈gs.flatMap GC.sl:=by
 rw [w!]at h;obtain⟨g,a,e⟩:=h;rw[w?];refine⟨g,a,?_⟩;cases g<;>simp[GC.slot]at e<;>simp[GC.sl,e]
variable{d:Nat}
theorem WU{S:FuncId->Fq->At->Prop}{p:PR}{K:AB->Prop}{gs:List GC}(c:p.op=.tl gs)(g:p.guard=W)(j:p.dst=Y d)(h:p.wp S O K):
  ∃cs,((gs.filterMap GC.src).Nodup/\d∉gs.filterMap GC.slot)/\FT O gs=Y cs/\K ((d,.vS cs)::Np O (gs.filterMap GC.slot) O):=by
 simp only[PR.wp,c,g,j,AE.wp,AB.put]at h;obtain⟨k,b⟩:=h;cases a:FT O gs with
 |none=>rw[a]at b;exact b.elim|some l=>rw[a]at b;exact⟨l,k,rfl,b⟩
theorem TF{S:FuncId->Fq->At->Prop}{p:PR}{K:AB->Prop}{gs:List GC}{cs:List AQ}(b:p.op=.tl gs)(c:p.guard=W)(g:p.dst=Y d)(j:(gs.filterMap GC.src).Nodup/\d∉gs.filterMap GC.slot)(a:FT O gs=Y cs)
  (h:K ((d,.vS cs)::Np O (gs.filterMap GC.slot) O)):p.wp S O K:=by
 simp only[PR.wp,b,c,g,AE.wp,AB.put,a];exact⟨j,h⟩
variable{q:PR}{v:AF}
theorem Up{S:FuncId->Fq->At->Prop}{K:AB->Prop}{n x:Nat}(a:q.op=.st n (.s x) v)(l:q.guard=W)(hd:q.dst=W)(h:q.wp S O K):
  ∃s off cs cs' o,(AF.s x).place O=Y (s,off)/\O.get s=.bx cs/\(∀g e,o=Y (g,e)->v=.s g/\(∃t,e=.tv t)/\g≠s)/\K (Od s cs' o O)/\
   ∀env2,(AF.s x).place env2=Y (s,off)->env2.get s=.bx cs->v.ev env2=v.ev O->∀j:AB->Prop,j (Od s cs' o env2)->q.wp S env2 j:=by
 unfold PR.wp at h;rw[l,a,hd]at h;simp[AE.wp]at h;split at h
 .rename_i s off z;split at h
  .rename_i cs A;split at h
   .rename_i t hv;cases v with
    |c t=>exact h.elim|s g=>
     simp only at h;simp[AF.ev]at hv;refine⟨s,off,cs,_,Y (g,.tv t),z,A,?_,h.2.2.2,λenv2 u w k j b=>?_⟩
     .intro s' B he;simp at he;obtain⟨rfl,rfl⟩:=he;exact⟨rfl,⟨t,rfl⟩,h.1⟩
     .simp[AF.ev]at k;unfold PR.wp;rw[l,a,hd];simp[AE.wp,u,w,AF.ev,k,hv];exact⟨h.1,h.2.1,h.2.2.1,b⟩
   next t hv=>refine⟨s,off,cs,_,W,z,A,V,h.2.2,λenv2 u w k j b=>?_⟩;unfold PR.wp;rw[l,a,hd];simp[AE.wp,u,w,k,hv];exact⟨h.1,h.2.1,b⟩
   .exact h.elim
  .exact h.elim
 .exact h.elim
theorem gG(a:Fq)(c:Nat):EV.tg c (EV.ofs a)=X:=by
 unfold EV.ofs;split<;>rfl
variable{i:Nat}
theorem ZB{S:FuncId->Fq->At->Prop}{f:FuncId}{xs:List AF}{K:EV->AB->Prop}(h:(AE.wi f xs i).wp S O (Y d) K):
  ∃s cs b cs' a,(xs[i]?).bind (·.place O)=Y (s,0)/\O.get s=.bx cs/\O.noX s W=X/\d≠s/\FE O i xs=Y b/\S f b (.bo cs cs' i a)/\((∀c∈cs',c.t.WF)/\TV.k7 a->K (EV.ofs a) ((s,.bx cs')::O)):=by
 simp only[AE.wp]at h;split at h
 .rename_i z s hd j;simp only[kx]at hd;subst hd;split at h
  .rename_i cs k;obtain⟨⟨l,o⟩,g⟩:=h;cases hv:FE O i xs with
   |none=>rw[hv]at g;exact g.elim|some b=>
    rw [hv]at g;obtain⟨cs',a,u,w⟩:=g;exact⟨s,cs,b,cs',a,j,k,l,o,rfl,u,w⟩
  .exact h.elim
 .exact h.elim
theorem Wi{S:FuncId->Fq->At->Prop}{p:PR}{K:AB->Prop}(ho:Abj p=X)(h:p.wp S O K):p.wp S O λgE=>K gE/\(∀c,gE.ew c=O.ew c)/\∀a:AB->Prop,a gE->p.wp S O a:=by
 unfold Abj at ho;split at ho
 next f xs i d u w z=>simp only[PR.wp,u,w,z,AB.put]at h|-;obtain⟨s,cs,G,cs',b,A,B,g,j,C,k,F⟩:=ZB h;simp only[AE.wp,A,B,C,Ai];refine⟨⟨g,j⟩,cs',b,k,λl=>⟨F l,λc=>by rw[AB.ea,AB.ea,gG];rfl,λa o=>⟨⟨g,j⟩,cs',b,k,λ_=>o⟩⟩⟩
 .cases ho
variable{e':AB}
theorem head{p:PR}{o:Oper}(ho:LL P N ops o p=X){K:AB->Prop}(g:(((PR.sE D p=X\/Aa1 p=X)\/Wj p=X)\/AaP p=X)\/Abj p=X)(A:LA F0 w0 N e')(B:JD D e')(h:p.wp (AV P) e' K):
  ∃gE,K gE/\LA F0 w0 N gE/\JD D gE/\∀b:AB->Prop,b gE->p.wp (AV P) e' b:=by
 rcases g with(((g|g)|g)|g)|g
 rotate_right
 .obtain⟨gE,⟨l,M,Q⟩,a⟩:=EU A ho (Wi g h);exact⟨gE,l,a,λd hd=>by rw[M];exact B d hd,Q⟩
 rotate_right
 .obtain⟨gE,⟨l,M,Q⟩,a⟩:=EU (K:=λgE=>K gE/\(∀c,gE.ew c=e'.ew c)/\∀b:AB->Prop,b gE->p.wp (AV P) e' b) A ho (by
   grind [cc])
  exact ⟨gE,l,a,λd hd=>by rw[M];exact B d hd,Q⟩
 .simp[PR.sE,B']at g;obtain⟨⟨⟨⟨ζ,δ⟩,Z⟩,pb⟩,pD⟩:=g;obtain⟨dp,ε⟩:=C_.1 δ;have θ:p.op.nx=X->p.guard=W:=λhn=>by
   rcases Z with h|h
   .rw[hn]at h;cases h
   .simpa using h
  obtain ⟨gE,⟨l,ep,fp,R⟩,a⟩:=EU A ho (Ph ε ζ θ h);exact⟨gE,l,a,R.jd pb B,λb j=>R.again e' (.refl R.ok) (λ_ _=>rfl) _ (by rw[<-R.gE];exact j)⟩
 .unfold Aa1 at g;split at g
  .rename_i gs d C F G;obtain⟨gE,l,a⟩:=EU (K:=λgE=>K gE/\∃cs,((gs.filterMap GC.src).Nodup/\d∉gs.filterMap GC.slot)/\FT e' gs=Y cs/\gE=(d,.vS cs)::Np e' (gs.filterMap GC.slot) e') A ho (by
    obtain ⟨ts,w,z,H⟩:=WU C F G h
    grind [TF])
   obtain ⟨l,ts,w,z,rfl⟩:=l;refine⟨_,l,a,λx κ=>?_,λb j=>TF C F G w z j⟩;rw[AB.ea,Lv,B x κ];rfl
  .cases g
 .unfold Wj at g;split at g
  .rename_i n x v C F G;obtain⟨gE,⟨l,s,off,cs,cs',o',w,I,z,H,J⟩,a⟩:=EU (K:=λgE=>K gE/\∃s off cs cs' o,(AF.s x).place e'=Y (s,off)/\e'.get s=.bx cs/\(∀L e,o=Y (L,e)->v=.s L/\(∃t,e=EV.tv t)/\L≠s)/\gE=Od s cs' o e'/\
     ∀b:AB->Prop,b (Od s cs' o e')->p.wp (AV P) e' b) A ho (by
    obtain ⟨s,off,cs,cs',o,w,I,z,H,J⟩:=Up C F G h;exact J e' w I rfl _ ⟨H,s,off,cs,cs',o,w,I,z,rfl,λb j=>J e' w I rfl b j⟩)
   subst H;refine⟨_,l,a,λd hd=>?_,J⟩;rw[Fv _ _ _ _ _ (λL e he=>by
    obtain ⟨_,⟨t,rfl⟩,_⟩:=z L e he;rfl)]
   exact B d hd
  .rename_i x v k C F G;obtain⟨gE,⟨l,M,Q⟩,a⟩:=EU (K:=λgE=>K gE/\(∀c,gE.ew c=e'.ew c)/\∀b:AB->Prop,b gE->p.wp (AV P) e' b) A ho (by
    simp [PR.wp,C,F,G,AE.wp,AB.put]at h|-;split at h
    .rename_i q i c κ;split at h
     .rename_i n es u η hu;obtain⟨w,I,es',z,H,J,h7⟩:=h;refine⟨w,I,es',z,H,J,h7,λc=>(O7 (es':=es') η).2.2 c,λb j=>?_⟩
      grind
     .exact h.elim
    .exact h.elim)
   exact ⟨gE,l,a,λd hd=>by rw[M];exact B d hd,Q⟩
  .cases g
variable{rs:List PR}
theorem wt{p q:PR}(a:AaF p q=X)(h:D0 (AV P) K (p::q::rs) O):D0 (AV P) K (q::p::rs) O:=by
 unfold AaF at a;split at a
 .rename_i gs J cs C k l o u w z;simp only[gN,bne_iff_ne,ne_eq,B',y_,decide_eq_false_iff_not]at a;obtain⟨G,A⟩:=a;obtain⟨e',g,h⟩:=h;obtain⟨L,H,I,x,j,c⟩:=WU k l o h;simp[PR.wp,u,w,z,AE.wp,AB.put]at c;obtain⟨b,c⟩:=c;rw[j.2,AB.ea,Lv]at b;simp[EV.tg,EV.n8]at b;refine⟨e',g,?_⟩;simp[PR.wp,u,w,z,AE.wp,AB.put];refine⟨b,_,.refl _,TF k l o H (by rw[cA _ _ _ _ A];exact I) (F4 c ?_)⟩;have F:C∉gs.filterMap GC.slot:=λB=>A (tf B);refine⟨λn=>?_,λd=>?_⟩
  .rw[AB.d3,j.1,AB.d3,AB.d3,J0,J0]
   grind [AB.d3]
  .rw[AB.ea,j.2,AB.ea,AB.ea,Lv,Lv,AB.ea]
   grind
 .cases a
variable{gE:AB}{m s:Nat}
theorem kN{S:FuncId->Fq->At->Prop}{K:AB->Prop}{cs cs':List AQ}{o:Option (Nat×EV)}(a:(∃k,q.op=.bad m k)\/∃k,q.op=.zt (.s m) k)(g:q.guard=W)(hd:q.dst=Y d)(B:O.get s=.bx cs)(ho:∀A e,o=Y (A,e)->(∃t,e=.tv t)/\A≠m)
  (he:∀n,gE.get n=(Od s cs' o O).get n)(h:q.wp S gE K):∃e,K ((d,e)::gE)/\∀j:AB->Prop,j ((d,e)::O)->q.wp S O j:=by
 have w:gE.get m=if s=m then .bx cs' else O.get m:=by
  grind [FC]
 have F:∀r c,gE.get r=.bx c->∃u,O.get r=.bx u:=by
  grind [FC]
 unfold PR.wp at h;rcases a with⟨k,a⟩|⟨k,a⟩
 .rw[g,a,hd]at h;simp[AE.wp,AB.put]at h;by_cases e:s=m
  .rw[w,QQ e]at h;refine⟨_,h,λj b=>?_⟩;unfold PR.wp;rw[g,a,hd];simp[AE.wp,<-e,B,AB.put];rw[<-e]at b;exact b
  .rw[w,aE e]at h;split at h
   next c l=>refine⟨_,h,λj b=>?_⟩;unfold PR.wp;rw[g,a,hd];simp[AE.wp,l,AB.put];exact b
   next row l=>refine⟨_,h,λj b=>?_⟩;unfold PR.wp;rw[g,a,hd];simp[AE.wp,l,AB.put];exact b
   .exact h.elim
 .rw[g,a,hd]at h;simp[AE.wp,AB.put,AF.ev]at h;by_cases e:s=m
  .rw[w,QQ e]at h;exact h.elim
  .rw[w,aE e]at h;split at h
   next row l=>refine⟨_,h,λj b=>?_⟩;unfold PR.wp;rw[g,a,hd];simp[AE.wp,AF.ev,l,AB.put];exact b
   .rename_i r off l;split at h
    next c C=>obtain⟨u,z⟩:=F r c C;refine⟨_,h,λj b=>?_⟩;unfold PR.wp;rw[g,a,hd];simp[AE.wp,AF.ev,l,z,AB.put];exact b
    .exact h.elim
   .exact h.elim
theorem ws{p q:PR}(C:JD D O)(b:Si D p q=X)(h:D0 (AV P) K (p::q::rs) O):D0 (AV P) K (q::p::rs) O:=by
 have key:∃n x v m d,p.op=.st n (.s x) v/\p.guard=W/\p.dst=W/\((∃k,q.op=.bad m k)\/∃k,q.op=.zt (.s m) k)/\q.guard=W/\q.dst=Y d/\d∈D/\d≠x/\d∉v.sl/\m∉v.sl:=by
  unfold Si at b
  grind
 obtain ⟨n,x,v,m,d,G,H,I,J,L,M,Q,R,θ,ε⟩:=key;obtain⟨e',g,h⟩:=h;have l:=C.congr g.symm;obtain⟨s,off,cs,cs',o,j,B,κ,⟨y,w,η⟩,ζ⟩:=Up G H I h;have u:d≠s:=by
  intro e;subst e;simp[AF.place]at j;split at j
  next r A F=>simp at j;exact l.no (x:=x) (s:=d) (by rw[F,<-j.1];rfl) Q
  .grind
  .cases j
 have ho:∀a e,o=Y (a,e)->(∃t,e=EV.tv t)/\a≠m:=λa e he=>by
  grind [AF.sl]
 obtain ⟨e,δ,Z⟩:=kN (cs':=cs') (o:=o) (O:=e') J L M B ho w.1 η;refine⟨e',g,Z _ ⟨_,.refl _,ζ ((d,e)::e') ?_ (by rw[AB.d3,aE u];exact B) ?_ _ (F4 δ ?_)⟩⟩
 .grind[AF.place,AB.d3]
 .cases v with
  |c t=>rfl|s a=>
   grind [AF.ev,AB.d3,AF.sl]
 .refine⟨λz=>?_,λz=>?_⟩
  .rw[AB.d3,w.1,FC,FC]
   grind [AB.d3,AF.sl]
  .have hn:∀a e,o=Y (a,e)->e.tg z=X:=λa e he=>by
    obtain ⟨_,⟨t,rfl⟩,_⟩:=κ a e he;rfl
   rw [AB.ea,w.2,Fv _ _ _ _ _ hn,Fv _ _ _ _ _ hn,AB.ea]
variable{n:Nat}
theorem qc{e' h:AB}{c:Nat}{o:Option Nat}{es es':Fq}(a:e'.ln c o=Y (n,es))(H:es'.length=es.length)(he:∀z,h.get z=AB.get (e'.sc c o n es') z){y q:Nat}{i:Option Nat}{l:Fq}
  (J:h.get y=.la q i)(b:h.ln q i=Y (m,l)):e'.get y=.la q i/\∃fs',e'.ln q i=Y (m,fs')/\fs'.length=l.length:=by
 obtain ⟨⟨u,L,B⟩,ho,_⟩:=O7 (es':=es') a;have w:c≠y:=by
  grind
 refine ⟨by rw[<-J,he,ho _ w],?_⟩;by_cases I:c=q
 .subst I;cases o with
  |none=>
   have g:h.get c=.xo n es':=by rw[he];simp[AB.sc,AB.d3]
   cases i with
   |none=>
    simp [AB.ln,g]at b;obtain⟨rfl,rfl⟩:=b;exact⟨es,a,H.symm⟩
   |some k=>simp[AB.ln,g]at b
  |some G=>
   rcases B with⟨mm,R,M,_⟩|⟨cs,k,Q,C,F,rfl⟩
   .simp[AB.ln,M]at a
   .cases Q;have g:h.get c=.bx (cs.set G ⟨X,.xl n es'⟩):=by rw[he,L]
    cases i with
    |none=>simp[AB.ln,g]at b|some k=>
     by_cases j:G=k
     .subst j;have A:G<cs.length:=(z_.1 C).1;simp[AB.ln,g,z?,QQ A]at b;obtain⟨rfl,rfl⟩:=b;exact⟨es,a,H.symm⟩
     .refine⟨l,?_,rfl⟩;rw[<-b];simp[AB.ln,g,F,z?,aE j]
 .exact⟨l,by rw[<-b];exact AB.wm (by rw[he,ho _ I]),rfl⟩
theorem w9{p q:PR}(hj:JD D O)(a:AaC D p q=X)(h:D0 (AV P) K (p::q::rs) O):D0 (AV P) K (q::p::rs) O:=by
 unfold AaC at a;split at a
 .rename_i x v k y z m d e1 e2 e3 f1 f2 f3;simp[B',decide_eq_false_iff_not,ml]at a;obtain⟨⟨dD,Z⟩,hdv⟩:=a;obtain⟨e',Q,h⟩:=h;have η:=hj.congr Q.symm;simp only[PR.wp,e1,e2,e3,AE.wp,AB.put]at h;split at h
  .rename_i κ i0 c θ;split at h
   .rename_i n es u B hu;obtain⟨h1,h2,es',h3,h4,h5,gE,A,b⟩:=h;have H:d≠κ:=by
     rintro rfl;cases x with
     |c t=>cases θ
     |s xs=>exact η.no (x:=xs) (s:=d) (by simp[AF.ev]at θ;rw[θ];rfl) dD
    simp [PR.wp,f1,f2,f3,AE.wp,AB.put,AF.pq]at b;have ε:=A.1;obtain⟨⟨w,hw,hww⟩,ho,_⟩:=O7 (es':=es') B;have ζ:w.val=W:=by rcases hww with⟨_,_,_,_,_,rfl⟩|⟨_,_,_,_,_,rfl⟩<;>rfl
    have δ:∀t,z.val gE=Y t->z.val e'=Y t:=by
     intro t F;cases z with
     |c t'=>exact F|s zz=>
      simp [AF.val,AF.ev]at F|-;by_cases l:κ=zz
      .subst l;rw[ε,hw,ζ]at F;cases F
      .rw[ε,ho _ l]at F;exact F
    have I:∃g i G j R,gE.get y=.la g i/\gE.ln g i=Y (m,G)/\z.val gE=Y (.int R j)/\0<=j/\j<G.length/\D0 (AV P) K rs ((d,.lp g i (j.toNat*m))::gE):=by
     cases J:gE.get y<;>rw[J]at b<;>simp[Ai]at b<;>try exact b.elim
     .cases l:z.val gE with
      |none=>rw[l]at b;exact b.elim|some t=>
       rw [l]at b;cases t<;>try exact b.elim
       have:=b.1.1;simp[AF.ev,J,EV.n8]at this
     .rename_i g i;cases C:gE.ln g i with
      |none=>rw[C]at b;exact b.elim|some pp=>
       obtain ⟨m',G⟩:=pp;rw[C]at b;simp only at b;cases l:z.val gE with
       |none=>rw[l]at b;exact b.elim|some t=>
        rw [l]at b;cases t<;>try exact b.elim
        rename_i R j;obtain⟨⟨_,rfl⟩,k1,k2,k3⟩:=b;exact⟨g,i,G,j,R,rfl,C,rfl,k1,k2,k3⟩
    obtain ⟨g,i,G,j,R,m1,m2,m3,m4,m5,m6⟩:=I;obtain⟨n1,fs',n2,n3⟩:=qc B h4 ε m1 m2;refine⟨e',Q,?_⟩;simp only[PR.wp,f1,f2,f3,AE.wp,AB.put,AF.pq,n1,n2,Ai,δ _ m3,AF.ev,EV.n8];refine⟨⟨trivial,trivial⟩,m4,by rw[n3];exact m5,_,.refl _,?_⟩;have L:∀(o:AF),d∉o.sl->o.ev ((d,.lp g i (j.toNat*m))::e')=o.ev e':=by
     intro o ho;cases o with
     |c t=>rfl|s t=>
      simp only[AF.ev,AB.d3];rw[aE];intro e;exact ho (by simp[AF.sl,e])
    simp only[PR.wp,e1,e2,e3,AE.wp,AB.put,L x Z,L v hdv,θ,hu];have M:AB.ln ((d,.lp g i (j.toNat*m))::e') κ i0=Y (n,es):=by rw[AB.tc H];exact B
    rw [M];refine⟨h1,h2,es',h3,h4,h5,F4 m6 ?_⟩;refine M7.symm (M7.trans (aV (.refl _) H) ⟨λs=>?_,λs=>?_⟩)
    .simp[AB.d3,ε]
    .simp[AB.ea,A.2]
   .exact h.elim
  .exact h.elim
 .cases a
theorem bV{O env2:AB}{b:Nat}{o:Option AF}(h:∀y∈o.toList,y.val env2=y.val O):G6 env2 b o=G6 O b o:=by
 cases o with
 |none=>rfl|some y=>simp[G6];exact h y V
theorem xE{S:FuncId->Fq->At->Prop}{p:AE}{xs:List AF}{d:Option Nat}{K:EV->AB->Prop}(C:p.vops=Y xs)(h:p.wp S O d K):
  ∃t,K (.tv t) O/\(∀x∈xs,∃u,x.val O=Y u)/\∀env2,(∀x∈xs,x.val env2=x.val O)->∀o:EV->AB->Prop,o (.tv t) env2->p.wp S env2 d o:=by
 cases p<;>simp[AE.vops]at C<;>first|cases C|skip
 case bin k op x y=>
  simp [AE.wp]at h;split at h
  .rename_i a b g A;cases B:Ll k op a b with
   |none=>rw[B]at h;exact h.elim|some t=>
    rw [B]at h;refine⟨t,h,λz c=>?_,λenv2 he o j=>?_⟩
    .simp at c;rcases c with rfl|rfl
     .exact⟨a,g⟩
     .exact⟨b,A⟩
    .simp[AE.wp,he x V,he y V,g,A,B];exact j
  .exact h.elim
 case fdv x k=>
  simp [AE.wp]at h;split at h
  .rename_i row g;refine⟨_,h,λz c=>?_,λenv2 he o j=>?_⟩
   .rw[x_]at c;subst c;exact⟨_,g⟩
   .simp[AE.wp,he x V,g];exact j
  .exact h.elim
 case ldv x k=>
  simp [AE.wp]at h;split at h
  .rename_i row g;refine⟨_,h.2,λz c=>?_,λenv2 he o j=>?_⟩
   .rw[x_]at c;subst c;exact⟨_,g⟩
   .simp[AE.wp,he x V,g];exact⟨h.1,j⟩
  .exact h.elim
 case len x=>
  simp [AE.wp]at h;split at h
  .rename_i n es g;refine⟨_,h,λz c=>?_,λenv2 he o j=>?_⟩
   .rw[x_.1 c];exact⟨_,g⟩
   .simp[AE.wp,he x V,g];exact j
  .exact h.elim
 case cvt k x=>
  simp [AE.wp]at h;split at h
  .rename_i J n g;refine⟨_,h,λz c=>?_,λenv2 he o j=>?_⟩
   .rw[x_.1 c];exact⟨_,g⟩
   .simp[AE.wp,he x V,g];exact j
  .exact h.elim
 case mm b x y=>
  simp [AE.wp]at h;split at h
  .rename_i k a J a' g A;refine⟨_,h.2,λz c=>?_,λenv2 he o j=>?_⟩
   .simp at c;rcases c with rfl|rfl
    .exact⟨_,g⟩
    .exact⟨_,A⟩
   .simp[AE.wp,he x V,he y V,g,A];exact⟨h.1,j⟩
  .exact h.elim
 case slc n x lo hi=>
  simp [AE.wp]at h;split at h
  .rename_i m es g;split at h
   .rename_i F l G r H I;refine⟨_,h.2.2,λz c=>?_,λenv2 he o j=>?_⟩
    .simp at c;rcases c with rfl|c|c
     .exact⟨_,g⟩
     .cases c;exact⟨_,H⟩
     .cases c;exact⟨_,I⟩
    .have F:G6 env2 0 lo=G6 O 0 lo:=bV (λy w=>he y (by simp at w|-;exact .inr (.inl w)));have G:G6 env2 es.length hi=G6 O es.length hi:=bV (λy w=>he y (by simp at w|-;exact .inr (.inr w)));simp[AE.wp,he x V,g,F,G,H,I];exact⟨h.1,h.2.1,j⟩
   .exact h.elim
  .exact h.elim
theorem w8{p q:PR}(a:AaR D p q=X)(h:D0 (AV P) K (p::q::rs) O):D0 (AV P) K (q::p::rs) O:=by
 unfold AaR at a;split at a
 .rename_i xs d n x v κ θ ε η ζ δ;simp[bne_iff_ne,B',decide_eq_false_iff_not]at a;obtain⟨⟨⟨_,hdx⟩,I⟩,J⟩:=a;obtain⟨e',L,h⟩:=h;unfold PR.wp at h;rw[θ,ε]at h;simp[AB.put]at h;obtain⟨t,⟨y,k,hw⟩,hs,M⟩:=xE κ h;obtain⟨s,off,cs,cs',o,h1,Q,R,hK,h5⟩:=Up η ζ δ hw;have Z:∀z,d≠z->y.get z=e'.get z:=λz A=>by rw[k.1,AB.d3,aE A]
  have g:d≠s:=λe=>by
   rw [k.1,AB.d3,QQ e]at Q;cases Q
  have hp:(AF.s x).place e'=Y (s,off):=by
   grind [AF.place]
  have hb:e'.get s=.bx cs:=by rw[<-Z s g];exact Q
  have hv:v.ev e'=v.ev y:=by
   cases v with
   |c t=>rfl|s w=>
    grind [AF.ev,AF.sl]
  have hq:∀l:AB->Prop,l (Od s cs' o e')->q.wp (AV P) e' l:=λl B=>h5 e' hp hb hv l B;refine⟨e',L,hq _ ⟨_,.refl _,?_⟩⟩;unfold PR.wp;rw[θ,ε];simp[AB.put];refine M _ (λz A=>?_) _ (F4 hK ?_)
  .cases z with
   |c t=>rfl|s m=>
    obtain ⟨u,hu⟩:=hs _ A;have C:¬s=m:=λe=>by
     grind [AF.val,AF.ev,EV.val]
    simp [AF.val,AF.ev,FC,aE C];cases o with
    |none=>rfl|some b=>
     have F:¬b.1=m:=λe=>Av J (x:=m) (w?.2 ⟨_,A,c_⟩) (by rw[(R b.1 b.2 rfl).1,e];simp[AF.sl]);simp[aE F]
  .refine⟨λz=>?_,λz=>?_⟩
   .rw[AB.d3,FC,FC];by_cases G:s=z
    .subst G;rw[QQ rfl,aE g,QQ rfl]
    .rw[aE G,aE G];cases o with
     |none=>
      simp only;rw[k.1,AB.d3]
     |some b=>
      have H:¬d=b.1:=λe=>I (by rw[(R b.1 b.2 rfl).1,e];simp[AF.sl]);simp only;by_cases j:b.1=z
      .rw[QQ j,QQ j,aE (λe=>H (e.trans j.symm))]
      .rw[aE j,aE j,k.1,AB.d3]
   .have hn:∀w e,o=Y (w,e)->e.tg z=X:=λw e he=>by
     obtain ⟨_,⟨t,rfl⟩,_⟩:=R w e he;rfl
    rw [AB.ea,Fv _ _ _ _ _ hn,Fv _ _ _ _ _ hn,k.2,AB.ea]
 .cases a
theorem wz{p q:PR}(hj:JD D O)(a:AaQ D p q=X)(h:D0 (AV P) K (p::q::rs) O):D0 (AV P) K (q::p::rs) O:=by
 unfold AaQ at a;split at a
 .rename_i b m d n x v θ j ε δ Z f3;simp[bne_iff_ne,B',decide_eq_false_iff_not,ml]at a;obtain⟨⟨⟨⟨⟨⟨_,bD⟩,hbx⟩,hdx⟩,hdb⟩,Q⟩,κ⟩:=a;obtain⟨e',I,h⟩:=h;have hj':=hj.congr I.symm;unfold PR.wp at h;rw[θ,j,ε]at h;simp[AB.put,AE.wp]at h;split at h
  case h_2=>exact h.elim
  rename_i bs hbs;obtain⟨hn,y,A,hw⟩:=h;obtain⟨s,off,cs,cs',o,h1,g,C,L,h5⟩:=Up δ Z f3 hw;have gy:∀z,d≠z->y.get z=e'.get z:=λz η=>by rw[A.1,AB.d3,aE η]
  have u:d≠s:=λe=>by
   rw [A.1,AB.d3,QQ e]at g;cases g
  have J:(AF.s x).place e'=Y (s,off):=by
   grind [AF.place]
  have hsb:¬s=b:=by
   intro e;subst e;simp[AF.place]at J;split at J
   next r off' hx=>simp at J;exact hj'.no (x:=x) (s:=s) (by rw[hx,<-J.1];rfl) bD
   .grind
   .cases J
  have H:e'.get s=.bx cs:=by rw[<-gy s u];exact g
  have hv:v.ev e'=v.ev y:=by
   cases v with
   |c t=>rfl|s G=>
    grind [AF.ev,AF.sl]
  have hq:∀F:AB->Prop,F (Od s cs' o e')->q.wp (AV P) e' F:=λF ζ=>h5 e' J H hv F ζ;refine⟨e',I,hq _ ⟨_,.refl _,?_⟩⟩;have hg:(Od s cs' o e').get b=.bx bs:=by
   grind [FC,AF.sl]
  unfold PR.wp;rw[θ,j,ε];simp[AB.put,AE.wp,hg];refine⟨hn,F4 L ?_⟩;refine⟨λz=>?_,λz=>?_⟩
  .rw[AB.d3,FC,FC];by_cases B:s=z
   .subst B;rw[QQ rfl,aE u,QQ rfl]
   .rw[aE B,aE B];cases o with
    |none=>
     simp only;rw[A.1,AB.d3]
    |some l=>
     have M:¬d=l.1:=λe=>Q p_;simp only;by_cases w:l.1=z
     .rw[QQ w,QQ w,aE (λe=>M (e.trans w.symm))]
     .rw[aE w,aE w,A.1,AB.d3]
  .have hn:∀G e,o=Y (G,e)->e.tg z=X:=λG e he=>by
    obtain ⟨_,⟨t,rfl⟩,_⟩:=C G e he;rfl
   rw [AB.ea,Fv _ _ _ _ _ hn,Fv _ _ _ _ _ hn,A.2,AB.ea]
 .rename_i b k d n x v θ j ε δ Z f3;simp[bne_iff_ne,B',decide_eq_false_iff_not,ml]at a;obtain⟨⟨⟨_,hdx⟩,Q⟩,κ⟩:=a;obtain⟨e',I,h⟩:=h;unfold PR.wp at h;rw[θ,j,ε]at h;obtain⟨e0,hn0,R,y,A,hw⟩:∃e0,(∀c,e0≠.bx c)/\(∀j:AB,j.get b=e'.get b\/(∃c c',e'.get b=.bx c/\j.get b=.bx c')->∀F:EV->AB->Prop,F e0 j->(AE.bad b k).wp (AV P) j (Y d) F)/\D0 (AV P) K (q::rs) ((d,e0)::e'):=by
   simp only[AB.put,AE.wp]at h;split at h
   .rename_i H;refine⟨_,V,λj g F L=>?_,h⟩;obtain⟨c',C⟩:∃c',j.get b=.bx c':=by
     rcases g with g|⟨_,c',_,g⟩
     .exact⟨_,g.trans H⟩
     .exact⟨c',g⟩
    simp only[AE.wp,C];exact L
   .rename_i H;refine⟨_,V,λj g F L=>?_,h⟩;have C:j.get b=e'.get b:=g.resolve_right λ⟨c,c',h4,_⟩=>by rw[H]at h4;cases h4
    simp only[AE.wp,C,H];exact L
   .exact h.elim
  obtain ⟨s,off,cs,cs',o,h1,g,C,L,h5⟩:=Up δ Z f3 hw;have gy:∀z,d≠z->y.get z=e'.get z:=λz η=>by rw[A.1,AB.d3,aE η]
  have u:d≠s:=λe=>by
   rw [A.1,AB.d3,QQ e]at g;exact hn0 _ g
  have J:(AF.s x).place e'=Y (s,off):=by
   grind [AF.place]
  have H:e'.get s=.bx cs:=by rw[<-gy s u];exact g
  have hv:v.ev e'=v.ev y:=by
   cases v with
   |c t=>rfl|s G=>
    grind [AF.ev,AF.sl]
  refine ⟨e',I,h5 e' J H hv _ ⟨_,.refl _,?_⟩⟩;unfold PR.wp;rw[θ,j,ε];refine R _ ?_ _ (F4 L ?_)
  .rw[FC];by_cases B:s=b
   .subst B;exact .inr ⟨cs,cs',H,by rw[QQ rfl]⟩
   .rw[aE B];cases o with
    |none=>exact .inl rfl|some l=>
     have:¬l.1=b:=λe=>κ p_;simp only;rw[aE this];exact .inl rfl
  refine ⟨λz=>?_,λz=>?_⟩
  .simp only[AB.put];rw[AB.d3,FC,FC];by_cases B:s=z
   .subst B;rw[QQ rfl,aE u,QQ rfl]
   .rw[aE B,aE B];cases o with
    |none=>
     simp only;rw[A.1,AB.d3]
    |some l=>
     have M:¬d=l.1:=λe=>Q p_;simp only;by_cases w:l.1=z
     .rw[QQ w,QQ w,aE (λe=>M (e.trans w.symm))]
     .rw[aE w,aE w,A.1,AB.d3]
  .have hn:∀G e,o=Y (G,e)->e.tg z=X:=λG e he=>by
    obtain ⟨_,⟨t,rfl⟩,_⟩:=C G e he;rfl
   simp only[AB.put];rw[AB.ea,Fv _ _ _ _ _ hn,Fv _ _ _ _ _ hn,A.2,AB.ea]
 .cases a
variable{e:EV}
theorem aT:∀{xs:List AF},d∉Cm xs->Go.Sf.vals ((d,e)::O) xs=Go.Sf.vals O xs
 |[],_=>rfl|x::xs,h=>by
  simp only[Cm,x?,not_or]at h;have a:x.val ((d,e)::O)=x.val O:=by
   cases x with
   |c t=>rfl|s n=>simp only[AF.val,AF.ev,AB.d3];rw[aE (λhh=>h.1 (by simp[AF.sl,hh]))]
  simp only[Go.Sf.vals,a,aT h.2]
variable{x:AF}
theorem oa{xs:List AF}(h:xs[i]?=Y x)(a:m∈x.sl):m∈Cm xs:=by
 induction xs generalizing i with
 |nil=>simp at h|cons y c b=>
  rw [Cm,x?];cases i with
  |zero=>simp at h;subst h;exact .inl a|succ i=>exact .inr (b c?)
theorem XJ:∀{i:Nat}{xs:List AF},d∉Cm xs->FE ((d,e)::O) i xs=FE O i xs
 |_,[],_=>by simp[FE]|0,x::xs,h=>by
  simp only[Cm,x?,not_or]at h;have:Go.Sf.vals ((d,e)::O) xs=Go.Sf.vals O xs:=aT h.2;simp only[FE,this]
 |i+1,x::xs,h=>by
  simp only[Cm,x?,not_or]at h;have a:x.val ((d,e)::O)=x.val O:=by
   cases x with
   |c t=>rfl|s n=>simp only[AF.val,AF.ev,AB.d3];rw[aE (λhh=>h.1 (by simp[AF.sl,hh]))]
  simp only[FE,a,XJ h.2]
theorem ww(Z:LA F0 w0 N O){op:Oper}{p q:PR}(hp:LL P N ops op p=X)(a:AaA p q=X)(h:D0 (AV P) K (p::q::rs) O):D0 (AV P) K (q::p::rs) O:=by
 have I:=Xw a;unfold AaA at a;split at a
 .rename_i f xs i d cells l R θ ε F G H;simp only[gN,bne_iff_ne,ne_eq,B',y_,decide_eq_false_iff_not]at a;obtain⟨n1,κ⟩:=a;obtain⟨e',z,h⟩:=h;have J:=Z.congr z.symm;obtain⟨gE,⟨⟨e1,A,η⟩,k1,_⟩,_⟩:=EU J hp (Wi I h);simp only[PR.wp,F,G,H,AB.put,AE.wp]at η;have u:e'.ew l=X:=by rw[<-k1,<-A.2];exact η.1
  simp only[PR.wp,R,θ,ε,AB.put]at h;obtain⟨s,cs,ts,cs',us,h1,h2,ζ,h4,h5,h6,h7⟩:=ZB h;obtain⟨x,δ,g⟩:=Option.bind_eq_some_iff.1 h1;have w:∀m∈x.sl,m≠l:=λm hm hh=>κ (hh▸oa δ hm);have L:s≠l:=by
   cases x with
   |c t=>cases g
   |s m=>
    simp only[AF.place]at g;split at g
    next b o he=>simp only[kx,Prod.mk.injEq]at g;exact λhh=>AB.mo l e' u m (by rw[he,g.1,hh];rfl)
    .simp only[kx,Prod.mk.injEq]at g;exact λhh=>w m c_ (g.1.trans hh)
    .cases g
  have M:(xs[i]?).bind (·.place ((l,EV.bx cells)::e'))=Y (s,0):=by
   rw [δ,Option.bind_some];cases x with
   |c t=>cases g
   |s m=>
    simp only[AF.place]at g|-;rw[AB.d3,aE (λhh=>w m c_ hh.symm)];exact g
  have Q:AB.noX s W ((l,EV.bx cells)::e')=X:=by
   rw [AB.AaG]at ζ|-;intro k;rw[AB.d3];split
   .rfl
   .exact ζ k
  refine ⟨e',z,?_⟩;simp only[PR.wp,F,G,H,AB.put,AE.wp];refine⟨u,_,.refl _,?_⟩;simp only[PR.wp,R,θ,ε,AB.put,AE.wp,M,XJ κ,h5,Ai];rw[AB.d3,aE (λhh=>L hh.symm),h2];refine⟨⟨Q,h4⟩,cs',us,h6,λC=>?_⟩;obtain⟨e2,j,B⟩:=h7 C;simp only[PR.wp,F,G,H,AB.put,AE.wp]at B;refine F4 B.2 ⟨λk=>?_,λc=>?_⟩
  .simp only[AB.d3,j.1]
   grind
  .simp only[AB.ea,j.2,gG,EV.tg,EV.n8];rfl
 .cases a
theorem kT{oq:Oper}(z:LL P N ops oq q=X){b:List PR}:∀(a:List PR),(∀p∈a,Aaw D p q=X/\∃o,LL P N ops o p=X)->∀{O:AB},LA F0 w0 N O->JD D O->D0 (AV P) K (a++q::b) O->D0 (AV P) K (q::(a++b)) O
 |[],_,O,_,_,h=>h|p::a,g,O,F,G,h=>by
  obtain ⟨c,o,ho⟩:=g p V;obtain⟨e',j,h⟩:=h;obtain⟨gE,C,l,u,k⟩:=head ho (eV c) (F.congr j.symm) (G.congr j.symm) h;have B:=kT z a (λp A=>g p (by simp[A])) l u C;have w:D0 (AV P) K (p::q::(a++b)) O:=⟨e',j,k _ B⟩;simp[Aaw]at c
  grind [swap,tj,wt,w7,xA,ws,w9,w8,wz,wy,wx,xB,w6,w5,wu,wv,ww]
theorem ym{S:FuncId->Fq->At->Prop}{d:Option Nat}{K:EV->AB->Prop}(h:(AE.st n x v).wp S O d K):(AE.st n x v).wp S O d λe env'=>K e env'/\e=.undef/\∀c,env'.ew c=O.ew c:=by
 simp [AE.wp]at h|-;split at h
 .rename_i s off a;split at h
  .rename_i cs b;split at h
   .grind[AB.ea,EV.tg,EV.n8]
   .grind[AB.ea,EV.tg,EV.n8]
   .exact h.elim
  .exact h.elim
 .exact h.elim
theorem vN{S:FuncId->Fq->At->Prop}{d:Option Nat}{K:EV->AB->Prop}(h:(AE.stb n s v).wp S O d K):(AE.stb n s v).wp S O d λe env'=>K e env'/\e=.undef/\∀c,env'.ew c=O.ew c:=by
 simp [AE.wp]at h|-;split at h
 .rename_i cs a;split at h
  .grind[AB.ea,EV.tg,EV.n8]
  .grind[AB.ea,EV.tg,EV.n8]
  .exact h.elim
 .exact h.elim
theorem Xr(O:AB)(q:Nat)(i:Option Nat)(n:Nat)(es:Fq)(c:Nat):AB.ew c (O.sc q i n es)=AB.ew c O:=by
 cases i with
 |none=>simp[AB.sc,AB.ea,EV.tg,EV.n8]|some k=>
  grind [AB.sc,AB.ea,EV.tg,EV.n8]
theorem vK{S:FuncId->Fq->At->Prop}{q:Nat}{d:Option Nat}{K:EV->AB->Prop}(h:(AE.cpt x q).wp S O d K):(AE.cpt x q).wp S O d λe env'=>K e env'/\e=.undef/\∀c,env'.ew c=O.ew c:=by
 simp [AE.wp]at h|-;split at h
 .grind[AB.ea,EV.tg,EV.n8]
 .grind[AB.ea,EV.tg,EV.n8]
 .exact h.elim
theorem vQ{S:FuncId->Fq->At->Prop}{k:Nat}{d:Option Nat}{K:EV->AB->Prop}(h:(AE.xst x v k).wp S O d K):(AE.xst x v k).wp S O d λe env'=>K e env'/\e=.undef/\∀c,env'.ew c=O.ew c:=by
 simp [AE.wp]at h|-;split at h
 .grind[Xr]
 .exact h.elim
theorem jM(O:AB)(q i:Nat)(es:Fq)(c:Nat):AB.ew c (O.Abv q i es)=AB.ew c O:=by grind[AB.Abv,AB.ea,EV.tg,EV.n8]
theorem vM{S:FuncId->Fq->At->Prop}{d:Option Nat}{K:EV->AB->Prop}(h:(AE.nst x v).wp S O d K):(AE.nst x v).wp S O d λe env'=>K e env'/\e=.undef/\∀c,env'.ew c=O.ew c:=by
 simp [AE.wp]at h|-
 grind [jM]
theorem vO{S:FuncId->Fq->At->Prop}{a:List (Option AQ)}{d:Option Nat}{K:EV->AB->Prop}(h:(AE.stq n a x v).wp S O d K):(AE.stq n a x v).wp S O d λe env'=>K e env'/\e=.undef/\∀c,env'.ew c=O.ew c:=by
 simp [AE.wp]at h|-;split at h
 .rename_i s off t g hv;split at h
  .rename_i cs j;cases b:EM a t.cells with
   |none=>rw[b]at h;exact h.elim|some ds=>
    grind [AB.ea,EV.tg,EV.n8]
  .exact h.elim
 .exact h.elim
theorem vL{S:FuncId->Fq->At->Prop}{m x v:AF}{d:Option Nat}{K:EV->AB->Prop}(h:(AE.mup s m x v).wp S O d K):(AE.mup s m x v).wp S O d λe env'=>K e env'/\e=.undef/\∀c,env'.ew c=O.ew c:=by
 simp [AE.wp]at h|-;split at h
 .rename_i b a g t j k l;split at h
  .grind[AB.ea,EV.tg,EV.n8]
  .exact h.elim
 .exact h.elim
theorem vP{S:FuncId->Fq->At->Prop}{n s q:Nat}{d:Option Nat}{K:EV->AB->Prop}(h:(AE.stx n s q).wp S O d K):(AE.stx n s q).wp S O d λe env'=>K e env'/\e=.undef/\∀c,env'.ew c=O.ew c:=by
 simp [AE.wp]at h|-
 grind [AB.ea,EV.tg,EV.n8]
theorem oU{S:FuncId->Fq->At->Prop}{f:FuncId}{a:List AF}{d:Option Nat}{K:EV->AB->Prop}(h:(AE.Aaj f x a).wp S O d K):(AE.Aaj f x a).wp S O d λe env'=>K e env'/\e.n8=W/\∀c,env'.ew c=O.ew c:=by
 simp only[AE.wp]at h|-;cases b:x.pq O with
 |none=>rw[b]at h;exact h.elim|some p=>
  cases hv:vals O a with
  |none=>rw[b,hv]at h;exact h.2.elim|some z=>
   rw [b,hv]at h;obtain⟨k,zs,g,l,o,u,w⟩:=h;refine⟨k,zs,g,l,o,u,λj=>⟨w j,?_,λc=>Xr _ _ _ _ _ c⟩⟩;unfold EV.ofs;split<;>rfl
variable{r:PR}
theorem sJ{S:FuncId->Fq->At->Prop}{K:AB->Prop}(Q:cb D r=X)(hd:NF r.op=X->r.dst=W)(a:JD D O)(h:r.wp S O K):r.wp S O λenv'=>K env'/\JD D env':=by
 simp [cb,B']at Q;rcases Q with((((((F|L)|l)|δ)|Z)|M)|hcb)|⟨⟨⟨hm,k⟩,R⟩,w⟩
 rotate_right 2
 .exact PR.gF _ _ (λenv' he=>⟨he.1,λx u=>by rw[he.2.1];exact a x u⟩) r (Wi hcb h)
 rotate_right
 .unfold okCm at M;split at M
  .rename_i f x ys d A B;have put:∀e:EV,e.n8=W->∀env':AB,(∀c,env'.ew c=O.ew c)->JD D (env'.put r.dst e):=λe he env' hn c hc=>by
    rw [B];show AB.ew c ((d,e)::env')=X;rw[AB.ea,hn,a c hc];simp[EV.tg,he]
   have C:(r.op.wp S O r.dst λe env'=>K (env'.put r.dst e))->r.op.wp S O r.dst λe env'=>K (env'.put r.dst e)/\JD D (env'.put r.dst e):=λo=>by
    rw [A]at o|-;exact AE.gF S O _ (λe env' he=>⟨he.1,put e he.2.1 env' he.2.2⟩) _ (oU o)
   unfold PR.wp at h|-;split
   next R=>rw[R]at h;exact C h
   .rename_i g b R;rw[R]at h;simp only at h;split
    next q l=>rw[l]at h;exact⟨λw=>C (h.1 w),λw=>⟨h.2 w,put .sk rfl O λ_=>rfl⟩⟩
    next G=>rw[G]at h;exact⟨h,put .sk rfl O λ_=>rfl⟩
    .rename_i H I;split at h
     next q l=>exact absurd l (H q)
     next l=>exact absurd l I
     .exact h.elim
  .cases M
 rotate_right
 .exact PR.gF _ _ (λenv' he=>⟨he.1,λx u=>by rw[he.2];exact a x u⟩) r (oY Z h)
 rotate_left 4
 .obtain⟨gE,k1,k2,k3⟩:=cc δ h;exact k3 _ ⟨k1,λx u=>by rw[k2];exact a x u⟩
 rotate_left 1
 .have k:=hd F;have C:(r.op.wp S O r.dst λe env'=>K (env'.put r.dst e))->r.op.wp S O r.dst λe env'=>K (env'.put r.dst e)/\JD D (env'.put r.dst e):=by
   intro o;rw[k]at o|-;generalize r.op=p at F o|-;cases p<;>simp[NF]at F<;>first|cases F|skip
   .refine AE.gF S O W (λe env' he=>⟨he.1,λd hd=>?_⟩) _ (ym o);simp[AB.put];rw[he.2.2];exact a d hd
   .refine AE.gF S O W (λe env' he=>⟨he.1,λd hd=>?_⟩) _ (vN o);simp[AB.put];rw[he.2.2];exact a d hd
   .refine AE.gF S O W (λe env' he=>⟨he.1,λd hd=>?_⟩) _ (vQ o);simp[AB.put];rw[he.2.2];exact a d hd
   .refine AE.gF S O W (λe env' he=>⟨he.1,λd hd=>?_⟩) _ (vP o);simp[AB.put];rw[he.2.2];exact a d hd
   .refine AE.gF S O W (λe env' he=>⟨he.1,λd hd=>?_⟩) _ (vK o);simp[AB.put];rw[he.2.2];exact a d hd
   .refine AE.gF S O W (λe env' he=>⟨he.1,λd hd=>?_⟩) _ (vM o);simp[AB.put];rw[he.2.2];exact a d hd
   .refine AE.gF S O W (λe env' he=>⟨he.1,λd hd=>?_⟩) _ (vO o);simp[AB.put];rw[he.2.2];exact a d hd
   .refine AE.gF S O W (λe env' he=>⟨he.1,λd hd=>?_⟩) _ (vL o);simp[AB.put];rw[he.2.2];exact a d hd
  unfold PR.wp at h|-;split
  .grind
  .rename_i g b hr;rw[hr]at h;simp only at h;split
   next q l=>rw[l]at h;exact⟨λw=>C (h.1 w),λw=>⟨h.2 w,by rw[k];exact a⟩⟩
   next G=>rw[G]at h;exact⟨h,by rw[k];exact a⟩
   .rename_i H I;split at h
    next q l=>exact absurd l (H q)
    next l=>exact absurd l I
    .exact h.elim
 .unfold Aa1 at L;split at L
  next gs d A B J=>obtain⟨ts,ε,η,ζ⟩:=WU A B J h;refine TF A B J ε η ⟨ζ,λx u=>?_⟩;rw[AB.ea,Lv,a x u];rfl
  .cases L
 .unfold okQ at l;split at l
  next s d A B J=>obtain⟨n,es,ε,h2,η,ζ⟩:=iF A B J h;refine iG A B J ε h2 η ⟨ζ,λx u=>?_⟩;have:=a x u;simp[AB.ea,EV.tg,EV.n8,this]
  .rename_i n s z x d A B J;simp[PR.wp,A,B,J,AE.wp,AB.put]at h|-;split at h
   next d' m es kk j θ hs u=>simp at θ;subst θ;refine⟨h.1,h.2.1,h.2.2.1,h.2.2.2,λy hy=>?_⟩;have:=a y hy;simp[AB.ea,EV.tg,EV.n8,this]
   .exact h.elim
  .cases l
 .obtain⟨d,hd⟩:=C_.1 k;have κ:r.op.nx=X->r.guard=W:=λhn=>by
   rcases R with h|h
   .rw[hn]at h;cases h
   .simpa using h
  refine PR.gF S O (λenv' he=>?_) r (Ph hd hm κ h);obtain⟨ε,e,f,hF⟩:=he;exact⟨ε,hF.jd w a⟩
theorem oF{S:FuncId->Fq->At->Prop}{a:Act}{w:World}:∀{O:AB},Tb rs=X->D0 S K rs O->Bs F0 w0 O a w->∃env',K env'/\Bs F0 w0 env' a w:=by
 induction rs with
 |nil=>intro O _ h b;obtain⟨e,g,j⟩:=h;exact⟨e,j,b.congr λn=>(g.1 n).symm⟩
 |cons r rs A=>
  intro O c h b;simp[Tb]at c;obtain⟨g,j⟩:=c;obtain⟨e',k,h⟩:=h;have b:=b.congr (λn=>(k.1 n).symm);split at g
  .rename_i s l o u;simp[PR.wp,l,o,u,AE.wp]at h;split at h
   next cs z=>obtain⟨G,b⟩:=b;exact A j h (b.frz z)
   .exact h.elim
  .cases g
theorem Tc:∀(os:List Oper)(rs:List PR),MP P N ops os rs=X->(∀i o,os[i]?=Y o->LL P N ops o (Nw rs i)=X)/\Tb (rs.drop os.length)=X/\rs=(z! os.length).map (Nw rs)++rs.drop os.length
 |[],rs,h=>⟨λi o h=>by simp at h,h,V⟩|o::os,[],h=>by simp[MP]at h|o::os,r::rs,h=>by
  simp [MP]at h;obtain⟨b,c,g⟩:=Tc os rs h.2;refine⟨λi a hi=>?_,by simpa using c,?_⟩
  .cases i with
   |zero=>simp[List.getElem?_cons_zero]at hi;subst hi;exact h.1|succ i=>simp[List.getElem?_cons_succ]at hi;exact b i a hi
  .rw[ae,List.range_succ_eq_map,v?,List.map_map,w_,List.drop_succ_cons];congr 1
theorem kZ{Q:Exit->Act->World->Prop}(hok:U7 P N D ops rs=X)(hpd:∀i v,p=Y (i,v)->∀r∈rs,r.dst≠Y i)(hQ:∀O a w,K O->K9 N p a->Bs F0 w0 O a w->Q .normal a w):
  ∀(fuel:Nat)(rem:I2)(b:Array Bool)(O:AB)(a:Act)(w:World),rem.length=fuel->rem.Pairwise (·<·)->(∀j,j∈rem↔j<ops.size/\b.getD j X=T)->b.size=ops.size ->
   (∀k o,ops[k]?=Y o->b.getD k T=X->∀e∈o.after,Region.binds .any e=X->b.getD e.on T=X) ->
   K9 N p a->Bs F0 w0 O a w->JD D O->D0 (AV P) K (rem.map (Nw rs)++rs.drop ops.size) O->wpAny P .any ops Q fuel b a w:=by
 simp only[U7,gN,y!,A_]at hok;obtain⟨⟨⟨⟨hl,hs⟩,he⟩,hM⟩,hP⟩:=hok;obtain⟨H,hl2,hl3⟩:=Tc ops.toList rs hl;simp[Array.getElem?_toList]at H hl2 hl3;intro fuel
 induction fuel with
 |zero=>
  intro rem b O a w z η c hsz ζ hN hI κ h;have:rem=[]:=List.eq_nil_of_length_eq_zero z;subst this;refine⟨?_,?_⟩
  .refine List.eq_nil_iff_forall_not_mem.2 λj L=>?_;rw[mem_ready]at L;obtain⟨J,o,ho,_⟩:=L;have:=(c j).2 ⟨(C!.1 ho).1,J⟩;cases this
  .obtain⟨env',J,u⟩:=oF hl2 h hI;exact hQ env' a w J hN u
 |succ fuel ih=>
  intro rem b O a w z η c hsz ζ hN hI κ h;refine⟨λhnil=>?_,λi hi=>?_⟩
  ·
   exfalso;cases rem with
   |nil=>simp at z|cons i rem=>
    have J:=(c i).1 V;have l:i∈Region.ready .any ops b:=by
     rw [mem_ready];have ho:ops[i]?=Y ops[i]:=C? J.1;refine⟨J.2,_,ho,λe B R=>?_⟩;have:=he i J.1;rw[ho]at this;simp only[y!,B_,B',ml]at this;have hlt:=(this e q!).resolve_left (by simp[R]);cases G:b.getD e.on T with
     |true=>rfl|false=>
      have δ:e.on∈i::rem:=by
       refine (c _).2 ⟨U,?_⟩;have:e.on<b.size:=U
       simp [D_,C? this]at G|-;exact G
      rcases A'.1 δ with u|u
      .omega
      .have:=(A!.1 η).1 _ u;omega
    rw [hnil]at l;cases l
  .have hi':=hi;rw[mem_ready]at hi';obtain⟨hi1,o,ho,hi2⟩:=hi';have l:i<ops.size:=(C!.1 ho).1;have hir:i∈rem:=(c i).2 ⟨l,hi1⟩;obtain⟨I,A,rfl⟩:=List.append_of_mem hir;have g:=A?.1 η;have θ:∀j∈I,j<i:=λj κ=>g.2.2 j κ i V;have hpost:∀j∈A,i<j:=λj κ=>(A!.1 g.2.1).1 j κ;have M:∀(k:Nat),k<ops.size->(∀o,ops[k]?=Y o->∀e∈o.after,Region.binds .any e=X->b.getD e.on T=X)->∀j,j<ops.size->((qz ops).getD k 0).testBit j=X->b.getD j T=X:=by
    intro k
    induction k using Nat.strongRecOn with
    |_ k ihk=>
     intro hk hdir j F R;have:=hM k hk j F;rw[R]at this;simp only[B?,Bool.false_or]at this;split at this
     .rename_i ok hok';simp only[List.any_eq_true,gN,B_,beq_iff_eq,ml]at this;obtain⟨e,B,hbe,h3⟩:=this;have G:=hdir ok hok' e q! hbe;rcases h3 with h3|⟨h3,h4⟩
      .rw[<-h3];exact G
      .exact ihk e.on h3 U (λε C e' he' hb'=>ζ e.on ε C G e' he' hb') j F h4
     .cases this
   have hwp:D0 (AV P) K (Nw rs i::(I.map (Nw rs)++(A.map (Nw rs)++rs.drop ops.size))) O:=by
    refine kT (ops:=ops) (F0:=F0) (w0:=w0) (N:=N) (oq:=o) (H i o ho) (I.map (Nw rs)) (λp hp=>?_) ⟨a,w,hN.size,hI⟩ κ c?;obtain⟨j,hj1,rfl⟩:=List.mem_map.1 hp;have hlt:=θ j hj1;have F:j<ops.size:=U
    refine ⟨?_,ops[j],H j _ (C? F)⟩;have:=hP i l j hlt;rw[B_]at this;refine this.resolve_left λR=>?_;have J:=M i l (λε C=>by rw[ho]at C;simp at C;subst C;exact hi2) j F R;have u:=((c j).1 (by simp[hj1])).2;have:j<b.size:=U
    simp [D_,C? this]at J u;rw[J]at u;cases u
   obtain ⟨e',heq,hw⟩:=hwp;have hI':=hI.congr (λn=>(heq.1 n).symm);have L:=κ.congr heq.symm;have hstd:NF (Nw rs i).op=X->(Nw rs i).dst=W:=by
    intro hst;have:=H i o ho;simp[LL]at this;have u:=this.2;split at u
    .simp only[hst,B?,Bool.and_false,Bool.false_and]at u;cases u
    .assumption
    .cases u
   have hw':=sJ (hs i l) hstd L hw;have hmem':∀j,j∈I++A↔j<ops.size/\(b.setIfInBounds i X).getD j X=T:=by
    intro j;by_cases hij:j=i
    .subst hij;constructor
     .intro δ;rcases x?.1 δ with δ|δ
      .have:=θ _ δ;omega
      .have:=hpost _ δ;omega
     .rintro⟨_,u⟩;have:j<b.size:=U
      simp [this]at u
    .rw[getD_set_ne X (λe=>hij e.symm),<-c j];simp[hij]
   have hcl':∀k ε,ops[k]?=Y ε->(b.setIfInBounds i X).getD k T=X->∀e∈ε.after,Region.binds .any e=X->(b.setIfInBounds i X).getD e.on T=X:=by
    intro k ε hk hlk e B R;refine getD_set_true ?_;by_cases hki:k=i
    .subst hki;rw[ho]at hk;simp at hk;subst hk;exact hi2 e B R
    .rw[getD_set_ne T (λe=>hki e.symm)]at hlk;exact ζ k ε hk hlk e B R
   have hpdi:∀j v,p=Y (j,v)->(Nw rs i).dst≠Y j:=by
    intro j v hp;unfold Nw;cases hr:rs[i]? with
    |none=>simp|some r=>exact hpd j v hp r (List.mem_of_getElem? hr)
   have:=Wm (Q:=Q) (next:=wpAny P .any ops Q fuel (b.setIfInBounds i X)) hI' hN hpdi (H i o ho) hw' λenv' a' w' k1 k2 k3=>
    ih (I++A) _ env' a' w' (by simp at z|-;omega) (A?.2 ⟨g.1,(A!.1 g.2.1).2,λx hx y hy=>g.2.2 x hx y (by simp[hy])⟩) hmem' (by simpa using hsz) hcl' k2 k3 k1.2 (by simpa using k1.1)
   unfold Go.wpOp;rw[ho];simp;split
   next Z=>rw[QQ Z]at this;exact .inl this
   next Z=>rw[aE Z]at this;exact this
theorem ZH:∀(ds:I2)(O:AB),SY O ds=X->JD ds O
 |[],O,_=>λd hd=>by simp at hd|d::ds,O,h=>by
  simp [SY]at h;intro x a;rcases A'.1 a with rfl|a
  .exact h.1
  .exact ZH ds O h.2 x a
theorem Lq(M:P.follows .mixedOrders=X):K8 P N (U7 P N):=by
 intro F0 w0 p id ds ops rs g O a w K Q A C Z c hd h hQ;refine wp_region_any M ?_;have l:=A;simp[U7]at l;obtain⟨_,_,I⟩:=Tc ops.toList rs l.1.1.1.1;simp at I;have H:Bs F0 w0 O a {w with drawn:=w.drawn+1}:=by
  obtain ⟨G,c⟩:=c;refine⟨G,c.gB,c.lt,⟨c.below.os,c.below.tape,c.below.output,c.below.size,c.below.block,c.below.cell,c.below.free,c.below.tab⟩,c.defers,c.dom,λs R=>?_,c.wf⟩;exact AK.kept (w:=w) (w':={w with drawn:=w.drawn+1}) (F:=AW w0.heap.size F0 G) (G:=G) (O:=O) (a:=a) (λb o u θ ε=>⟨θ,ε⟩) (λ_=>rfl) (λ_ _ _ _=>rfl) rfl (λ_ _ _ _ _=>rfl) (λr i k J κ=>⟨κ,λv hv=>by cases k<;>exact hv⟩) (λr off J z=>⟨z,rfl⟩) (λr i J z=>⟨z,λ_ hv=>hv⟩) (c.slots s R)
 refine kZ (K:=λe=>K (e.em g)) (F0:=F0) (w0:=w0) A C (λO a w η ζ δ=>hQ _ a w η ζ (δ.em g)) ops.size (z! ops.size) _ O a _ V List.pairwise_lt_range (λj=>?_) V (λk o hk B=>?_) Z H (ZH ds O hd) ?_
 .rw[A_];constructor
  .intro L;exact⟨L,by simp[D_,D',L]⟩
  .exact λh=>h.1
 .simp[D_,D']at B;split at B<;>simp at B
 grind [nR]
end
end Go.Sf
