/- Operations that take a list of one's own, in drawn regions. -/
import Derived.Test.YtbmgmpeimdomoaaGreatSfSwap
set_option linter.all false
open Option renaming some->Y,none->W
open Bool renaming true->X,false->T
open List renaming map_cons->w!,cons_append->w?,mem_filterMap->x_,mem_flatMap->x!,mem_singleton->x?,flatMap_cons->y_,mem_append->y!,contains_eq_mem->y?,all_eq_true->z_,getElem?_set_ne->z!,getElem?_eq_some_iff->z?,range->A_,getElem?_set->A',mem_range->A!,mem_cons->A?,pairwise_cons->B_,pairwise_append->B'
open Bool renaming or_eq_true->B!,not_eq_true'->B?,and_true->C_,not_true->C'
open Option renaming isSome_iff_exists->C!,toList_some->C?
open Array renaming getElem?_eq_some_iff->D_,getElem?_eq_getElem->D',getD_eq_getD_getElem?->D!,getElem?_replicate->D?
namespace Go.Sf
def AE.tkn:AE->Option I2
 |.Abg _=>Y []|.Abd _=>Y []|.tkx s=>Y [s]|.Aa7 _ s _=>Y [s]|.Abn q=>Y [q]|.x9 gs=>Y (gs.filterMap GC.slot)|_=>W
def AE.isB:AE->Bool
 |.x9 _=>X|_=>T
def O2(u:Nat->EV)(qs:I2)(ε:AB):AB:=qs.map (λq=>(q,u q))++ε
theorem PX(u:Nat->EV)(qs:I2)(ε:AB)(n:Nat):AB.get (O2 u qs ε) n=if n∈qs then u n else ε.get n:=by
 induction qs with
 |nil=>rfl|cons q qs a=>
  grind [O2,AB.bn]
theorem G8{u:Nat->EV}(b:∀q,(u q).pr=W)(qs:I2)(ε:AB)(c:Nat):AB.ek c (O2 u qs ε)=AB.ek c ε:=by
 induction qs with
 |nil=>rfl|cons q qs a=>
  simp only[O2,w!,w?,AB.c9]at a|-;rw[a,EV.x8,b];rfl
theorem Wj(e0:AB):∀(qs:I2)(ε:AB),OL e0 qs ε=O2 (λn=>(e0.get n).gave) qs ε
 |[],_=>rfl|q::qs,ε=>by
  simp only[OL,Wj e0 qs ε,O2,w!,w?]
theorem nu(e:EV):e.gave.pr=W:=by cases e<;>rfl
theorem cH{gs:List GC}{q:Nat}(h:q∈gs.filterMap GC.slot):q∈gs.flatMap GC.sl:=by
 rw [x_]at h;obtain⟨g,a,e⟩:=h;rw[x!];refine⟨g,a,?_⟩;cases g<;>simp[GC.slot]at e<;>simp[GC.sl,e]
structure iK(S:FuncId->Fq->As->Prop)(op:AE)(u:Nat->EV)(qs:I2)(d:Nat)(ε:AB)(e:EV):Prop where
 dno:ε.ek d=X
 Abs:e.pr=W
 Abf:∀q,(u q).pr=W
 slbx:∀n∈op.slots,∀cs,ε.get n≠.bx cs
 sub:∀n∈qs,n∈op.slots
 again:∀env2,(∀n∈op.slots,env2.get n=ε.get n)->env2.ek d=X->∀K2:EV->AB->Prop,K2 e (O2 u qs env2)->op.wp S env2 (Y d) K2
variable{y:AF}
theorem we{ε env2:AB}(h:∀n∈y.sl,env2.get n=ε.get n):y.val env2=y.val ε:=by
 cases y with
 |c t=>rfl|s n=>simp only[AF.val,AF.ev,h n c!]
variable{ε:AB}{t:TV}
theorem wd(h:y.val ε=Y t):∀n∈y.sl,∀cs,ε.get n≠.bx cs:=by
 intro n a cs b;cases y with
 |c t=>simp[AF.sl]at a|s m=>
  grind [AF.sl,x?,AF.val,AF.ev,EV.val]
theorem nw{ε env2:AB}{g:GC}(h:∀n∈g.sl,env2.get n=ε.get n):g.cell env2=g.cell ε:=by
 cases g with
 |z c=>rfl|v x k n=>
  cases x with
  |c t=>rfl|s m=>simp only[GC.cell,AF.val,AF.ev,h m (by simp[GC.sl])]
 |w q=>simp only[GC.cell,h q (by simp[GC.sl])]|g q k n=>simp only[GC.cell,h q (by simp[GC.sl])]
theorem ZW{ε env2:AB}:∀{gs:List GC},(∀n∈gs.flatMap GC.sl,env2.get n=ε.get n)->F7 env2 gs=F7 ε gs
 |[],_=>rfl|g::gs,h=>by
  rw [y_]at h;simp only[F7,nw (g:=g) λn a=>h n (C3 a),ZW (gs:=gs) λn a=>h n (De a)]
theorem ZV:∀{gs:List GC}{cs:List AO},F7 ε gs=Y cs->∀n∈gs.flatMap GC.sl,∀ds,ε.get n≠.bx ds
 |[],_,_,n,a,_=>by simp at a|g::gs,cs,h,n,a,ds=>by
  simp only[F7]at h;split at h
  .rename_i c cs' b j;rw[y_,y!]at a;rcases a with a|a
   .intro l;cases g with
    |z c=>simp[GC.sl]at a|v x k m=>
     cases x with
     |c t=>simp[GC.sl]at a|s q=>simp[GC.sl]at a;subst a;simp[GC.cell,AF.val,AF.ev,l,EV.val]at b
    |w q=>simp[GC.sl]at a;subst a;simp[GC.cell,l]at b|g q k m=>simp[GC.sl]at a;subst a;simp[GC.cell,l]at b
   .exact ZV j n a ds
  .cases h
variable{qs:I2}{d:Nat}
theorem take{S:FuncId->Fq->As->Prop}{op:AE}{K:EV->AB->Prop}(j:op.tkn=Y qs)(F:op.isB=X->ε.ek d=X)(h:op.wp S ε (Y d) K):∃e u,iK S op u qs d ε e/\K e (O2 u qs ε):=by
 cases op<;>simp only[AE.tkn,reduceCtorEq,nm]at j
 case Abd n=>
  subst j;simp only[AE.wp]at h;exact⟨_,λ_=>.undef,⟨h.1,rfl,λ_=>rfl,f_,V,λenv2 _ a k b=>⟨a,b⟩⟩,h.2⟩
 case Abg n=>
  subst j;simp only[AE.wp]at h;exact⟨_,λ_=>.undef,⟨h.1,rfl,λ_=>rfl,f_,V,λenv2 _ a k b=>⟨a,b⟩⟩,h.2⟩
 case tkx s=>
  subst j;simp only[AE.wp]at h;split at h
  .rename_i C n es hd l;simp only[nm]at hd;subst hd;refine⟨.xo n es,λ_=>.undef,⟨h.1,rfl,λ_=>rfl,λm G cs A=>?_,f_,λenv2 g a k b=>?_⟩,h.2.2⟩
   .grind[AE.slots,x?]
   .have:=g s f_;simp only[AE.wp,this,l];exact⟨a,h.2.1,b⟩
  .exact h.elim
 case Abn q=>
  subst j;simp only[AE.wp]at h;split at h
  .rename_i C n z hd l;simp only[nm]at hd;subst hd;refine⟨.x1 n z,λ_=>.undef,⟨h.1.1,rfl,λ_=>rfl,λm G cs A=>?_,f_,λenv2 g a k b=>?_⟩,h.2⟩
   .grind[AE.slots,x?]
   .have:=g q f_;simp only[AE.wp,this,l];exact⟨⟨a,h.1.2⟩,b⟩
  .exact h.elim
 case Aa7 n s y=>
  subst j;simp only[AE.wp]at h;split at h
  .rename_i C m es m' z hd l H;simp only[nm]at hd;subst hd;obtain⟨L,M,O,Q,R,θ⟩:=h;refine⟨.xo n (es++z),λ_=>.undef,⟨Q,rfl,λ_=>rfl,λx B cs A=>?_,f_,λenv2 g a k b=>?_⟩,θ⟩
   .grind[AE.slots,wd]
   .have I:=g s f_;have J:=we (ε:=ε) (env2:=env2) (y:=y) (λx B=>g x (by simp[AE.slots,B]));simp only[AE.wp,I,l,J,H];exact⟨L,M,O,a,R,b⟩
  .exact h.elim
 case x9 gs=>
  subst j;simp only[AE.wp]at h;obtain⟨g,o⟩:=h;cases c:F7 ε gs with
  |none=>rw[c]at o;exact o.elim|some cs=>
   rw [c]at o;refine⟨.oag cs,λn=>(ε.get n).gave,⟨F rfl,rfl,λ_=>nu _,ZV c,λn w=>cH w,λenv2 a _ k b=>?_⟩,by rw[<-Wj];exact o⟩;simp only[AE.wp,ZW a,c];refine⟨g,?_⟩;have:OL env2 (gs.filterMap GC.slot) env2=O2 (λn=>(ε.get n).gave) (gs.filterMap GC.slot) env2:=by
    rw [Wj];unfold O2;congr 1;exact List.map_congr_left λn w=>by simp only[a n (cH w)]
   simp only[Ai,this];exact b
def PR.tk(r:PR):Option (I2×Nat):=
 match r.op.tkn,r.guard,r.dst with
 |some qs,W,Y d=>Y (qs,d)|_,_,_=>W
variable{r:PR}
theorem PR.tk_some(h:r.tk=Y (qs,d)):r.op.tkn=Y qs/\r.guard=W/\r.dst=Y d:=by
 unfold PR.tk at h
 grind
theorem YS{S:FuncId->Fq->As->Prop}{K:AB->Prop}(g:r.tk=Y (qs,d))(j:r.op.isB=X->ε.ek d=X)(h:r.wp S ε K):∃e u,iK S r.op u qs d ε e/\K ((d,e)::O2 u qs ε)/\
  ∀env2,(∀n∈r.op.slots,env2.get n=ε.get n)->env2.ek d=X->∀a:AB->Prop,a ((d,e)::O2 u qs env2)->r.wp S env2 a:=by
 obtain ⟨w,z,A⟩:=PR.tk_some g;have o:r.op.wp S ε (Y d) λe env'=>K ((d,e)::env'):=by
  grind [PR.wp,AB.put]
 obtain ⟨e,u,c,B⟩:=take w j o;refine⟨e,u,c,B,λenv2 k l a b=>?_⟩;unfold PR.wp;rw[z];simp only[A,AB.put];exact c.again env2 k l (λe env'=>a ((d,e)::env')) b
def Aah(D:I2)(p q:PR):Bool:=
 match q.tk with
 |some (qs,d)=>PR.wm D p&&D.contains d&&qs.all D.contains&&FL p.dst.toList (d::q.op.slots)&&FL (d::qs) (p.op.slots++p.gsl)&&FL p.op.dem q.op.slots|none=>T
def AaM(D:I2)(p q:PR):Bool:=
 match p.tk,q.tk with
 |some (_,dp),Y (_,dq)=>((!p.op.isB||D.contains dp)&&(!q.op.isB||D.contains dq))&&FL (dp::p.op.slots) (dq::q.op.slots)|_,_=>T
section
variable{P:Program}{F0:Nat->Nat->Prop}{w0:W0}{N:Nat}{ops:Array Oper}{K:AB->Prop}{D:I2}
variable{r:PR}{d:Nat}{ε gk:AB}{e:EV}{f:A6}
theorem Py.away{S:FuncId->Fq->As->Prop}(h:Py S r d ε gk e f){x:Nat}(a:x∉r.op.slots)(b:∀y,(ε.get y).pr≠Y x)(u:EV):f.on x u=u:=by
 have c:=h.slot;have g:=h.cell;cases f with
 |none=>rfl|slot s t=>
  grind [A6.on,Ci]
 |cell s off t=>
  simp only[A6.on]
  grind
theorem Py.stay{S:FuncId->Fq->As->Prop}(h:Py S r d ε gk e f){x:Nat}(a:x∉r.op.dem)(b:∀cs,ε.get x≠.bx cs):f.on x (ε.get x)=ε.get x:=by
 have c:=h.slot;have g:=h.ok;cases f with
 |none=>rfl|slot s t=>
  grind [A6.on]
 |cell s off t=>
  simp only[A6.on]
  grind
theorem WG(h:PR.wm D r=X):∃d,r.dst=Y d/\r.op.mov=X/\(r.op.pq=X->r.guard=W)/\FL r.op.Aa1 D=X/\(r.op.pq=X\/d∈D):=by
 simp only[PR.wm,gN,B!,B?]at h;obtain⟨⟨⟨⟨b,c⟩,g⟩,j⟩,k⟩:=h;obtain⟨d,hd⟩:=C!.1 c;refine⟨d,hd,b,λa=>?_,j,?_⟩
 .rcases g with h|h
  .rw[a]at h;cases h
  .simpa using h
 grind [PR.old]
variable{rs:List PR}
theorem wU(hR:LU F0 w0 N ε)(hj:JD D ε){op:Oper}{p q:PR}(hp:Ll P N ops op p=X)(a:Aah D p q=X)(h:EM (AS P) K (p::q::rs) ε):EM (AS P) K (q::p::rs) ε:=by
 unfold Aah at a;split at a
 .rename_i qs d ht;simp only[gN,y?,pE,z_]at a;obtain⟨⟨⟨⟨⟨hm,η⟩,sD⟩,ζ⟩,δ⟩,c3⟩:=a;obtain⟨A,R,pm,pg',pb,_⟩:=WG hm;rw[R]at ζ;simp only[C?]at ζ;have hpd:A≠d:=λe=>Aw ζ (x:=A) V d_;have O:A∉q.op.slots:=λe=>Aw ζ (x:=A) V d_;have l:d∉p.op.slots:=λe=>Aw δ (x:=d) V (C3 e);have dng:d∉p.gsl:=λe=>Aw δ (x:=d) V (De e);have o:∀s∈qs,s∉p.op.slots:=λs Z e=>Aw δ (x:=s) (by simp[Z]) (C3 e);have sng:∀s∈qs,s∉p.gsl:=λs Z e=>Aw δ (x:=s) (by simp[Z]) (De e);obtain⟨e',C,h⟩:=h;have hR':=hR.congr C.symm;have j:=hj.congr C.symm;obtain⟨gk,⟨⟨e1,b,hw⟩,ep,J,w⟩,hR1⟩:=Ey hR' hp (P3 R pm pg' h);have g1:∀n,e1.get n=if A=n then ep else J.on n (e'.get n):=λn=>by
   rw [b.1,w.gk,AB.bn,A6.get]
  have Q:∀x,x∈D->x∉p.op.slots->∀e,J.on x e=e:=λx hxD hxn e=>w.away hxn (λy hy=>j.no hy hxD) e;have hj1:JD D e1:=(w.jd pb j).congr b.symm;obtain⟨e,u,F,hK,θ⟩:=YS ht (λ_=>hj1 d η) hw;have B:∀n∈q.op.slots,e'.get n=e1.get n:=by
   intro n κ;have hne:A≠n:=λe=>O (e▸κ);have hb:=F.slbx n κ;rw[g1,QQ hne]at hb|-;refine(w.stay (λhd=>Aw c3 hd κ) (λcs hc=>?_)).symm;refine hb (match J.on n (.bx cs)with|.bx cs'=>cs'|_=>cs) ?_;rw[hc];cases J with
   |none=>rfl|slot s t=>
    have:=w.ok;simp only[A6.on];split
    next e=>subst e;simp only[A6.ok]at this;rw[hc]at this;cases this
    .rfl
   |cell s off t=>
    simp only[A6.on];split<;>rfl
  have hdn:e'.ek d=X:=by
   have:=F.dno;rw[b.2,w.gk,AB.c9,A6.ek,gN]at this;exact this.2
  refine ⟨e',C,θ e' B hdn _ ⟨_,.refl _,?_⟩⟩;have H:∀m,m≠d->m∉qs->AB.get ((d,e)::O2 u qs e') m=e'.get m:=λm z k=>by
   rw [AB.bn,QQ (λe=>z e.symm),PX,QQ k]
  have nr:∀c,AB.ek c ((d,e)::O2 u qs e')=AB.ek c e':=λc=>by
   rw [AB.c9,G8 F.Abf,EV.x8,F.Abs];rfl
  have L:Eg p.op J (Y A) e' ((d,e)::O2 u qs e'):=by
   refine ⟨λx G=>.inl (H x (λe=>l (e▸G)) (λe=>o x e G)),λx G r hr=>.inl (H r (λe=>j.no hr (e▸η)) (λe=>j.no hr (sD r e))),λx G _=>H x (λe=>l (e▸Ci G)) (λe=>o x e (Ci G)),?_,λκ d' hd' hno=>by rw[nr];exact hno⟩;have z:=w.slot;have k:=w.ok;have h4:=w.cell;cases J with
   |none=>trivial|slot x t=>
    simp only[A6.ok]at k|-;rw[H x (λe=>l (e▸Ci (z _ _ rfl))) (λe=>o x e (Ci (z _ _ rfl)))];exact k
   |cell x off t=>
    obtain ⟨ds,h5,h6⟩:=k;refine⟨ds,?_,h6⟩;rw[H x (λe=>?_) (λe=>?_)]
    .exact h5
    .rcases h4 _ _ _ rfl with h7|⟨y,_,h8⟩
     .exact l (e▸h7)
     .exact j.no h8 (e▸η)
    .rcases h4 _ _ _ rfl with h7|⟨y,_,h8⟩
     .exact o x e h7
     .exact j.no h8 (sD x e)
  have hgp:∀g∈p.gsl,AB.get ((d,e)::O2 u qs e') g=e'.get g:=λg M=>H g (λe=>dng (e▸M)) (λe=>sng g e M);refine w.again _ L hgp _ (Gd hK ?_);refine⟨λm=>?_,λc=>?_⟩
  .simp only[AB.bn,A6.get,g1,PX];by_cases z:d=m
   .subst z;rw[Ne rfl,QQ hpd,Q d η l,Ne rfl]
   .rw[QQ z];by_cases I:A=m
    .have:m∉qs:=λhm=>O (I▸F.sub m hm);rw[QQ this,Ne I,Ne I]
    .rw[QQ I];by_cases k:m∈qs
     .rw[Ne k,QQ I,Q m (sD m k) (o m k),QQ z,Ne k]
     .rw[QQ k,QQ I,QQ z,QQ k]
  .simp only[AB.c9,A6.ek,b.2,w.gk,G8 F.Abf,EV.x8,F.Abs];cases(match ep.pr with|some s=>c !=s|none=>X)<;>rfl
 .cases a
theorem wT(hR:LU F0 w0 N ε)(hj:JD D ε){op oq:Oper}{p q:PR}(hp:Ll P N ops op p=X)(hq:Ll P N ops oq q=X)(a:Aah D q p=X)(h:EM (AS P) K (p::q::rs) ε):EM (AS P) K (q::p::rs) ε:=by
 unfold Aah at a;split at a
 .rename_i A d ht;simp only[gN,y?,pE,z_]at a;obtain⟨⟨⟨⟨⟨hm,O⟩,sD⟩,c1⟩,c2⟩,c3⟩:=a;obtain⟨H,η,qm,qg',qb,qold⟩:=WG hm;rw[η]at c1;simp only[C?]at c1;have hqd:H≠d:=λe=>Aw c1 (x:=H) V d_;have R:H∉p.op.slots:=λe=>Aw c1 (x:=H) V d_;have o:d∉q.op.slots:=λe=>Aw c2 (x:=d) V (C3 e);have dng:d∉q.gsl:=λe=>Aw c2 (x:=d) V (De e);have w:∀s∈A,s∉q.op.slots:=λs hs e=>Aw c2 (x:=s) (by simp[hs]) (C3 e);have sng:∀s∈A,s∉q.gsl:=λs hs e=>Aw c2 (x:=s) (by simp[hs]) (De e);obtain⟨e',I,h⟩:=h;have hR':=hR.congr I.symm;have θ:=hj.congr I.symm;obtain⟨gk,⟨⟨G,b,hw⟩,Z,u,C,J,ζ⟩,hR1⟩:=Ey (K:=λgk=>(∃G,Ni G gk/\q.wp (AS P) G (EM (AS P) K rs))/\∃Z u,iK (AS P) p.op u A d e' Z/\gk=(d,Z)::O2 u A e'/\∀env2,(∀n∈p.op.slots,env2.get n=e'.get n)->env2.ek d=X->∀K2:AB->Prop,K2 ((d,Z)::O2 u A env2)->p.wp (AS P) env2 K2) hR' hp (by
   obtain ⟨e,u,k1,k2,k3⟩:=YS ht (λ_=>θ d O) h;exact k3 e' (λ_ _=>rfl) k1.dno _ ⟨k2,e,u,k1,rfl,k3⟩)
  subst J;have k:JD D G:=by
   intro x z;rw[b.2,AB.c9,G8 C.Abf,EV.x8,C.Abs];exact θ x z
  obtain ⟨X1,⟨hK,eq,δ,F⟩,_⟩:=Ey (hR1.congr b.symm) hq (P3 η qm qg' hw);have M:∀n,n≠d->n∉A->G.get n=e'.get n:=λn j l=>by
   rw [b.1,AB.bn,QQ (λe=>j e.symm),PX,QQ l]
  have κ:∀x,x∈D->x∉q.op.slots->∀e,δ.on x e=e:=λx hxD hxn e=>F.away hxn (λy hy=>k.no hy hxD) e;have L:Eg q.op δ (Y H) G e':=by
   refine ⟨λx z=>.inl (M x (λe=>o (e▸z)) (λe=>w x e z)).symm,λx z r hr=>.inl (M r (λe=>k.no hr (e▸O)) (λe=>k.no hr (sD r e))).symm,λx z _=>(M x (λe=>o (e▸Ci z)) (λe=>w x e (Ci z))).symm,?_,λhn d' hd' Q=>?_⟩
   .have j:=F.slot;have l:=F.ok;have h4:=F.cell;cases δ with
    |none=>trivial|slot x t=>
     simp only[A6.ok]at l|-;rw[<-M x (λe=>o (e▸Ci (j _ _ rfl))) (λe=>w x e (Ci (j _ _ rfl)))];exact l
    |cell x off t=>
     obtain ⟨ds,h5,h6⟩:=l;refine⟨ds,?_,h6⟩;rw[<-M x (λe=>?_) (λe=>?_)]
     .exact h5
     .rcases h4 _ _ _ rfl with h7|⟨y,_,h8⟩
      .exact o (e▸h7)
      .exact k.no h8 (e▸O)
     .rcases h4 _ _ _ rfl with h7|⟨y,_,h8⟩
      .exact w x e h7
      .exact k.no h8 (sD x e)
   .rw[b.2,AB.c9,G8 C.Abf,gN]at Q;exact Q.2
  have hgq:∀g∈q.gsl,e'.get g=G.get g:=λg hg=>(M g (λe=>dng (e▸hg)) (λe=>sng g e hg)).symm;refine⟨e',I,F.again e' L hgq _ ⟨_,.refl _,ζ _ (λn hn=>?_) ?_ _ (Gd hK ?_)⟩⟩
  .have hne:H≠n:=λe=>R (e▸hn);rw[AB.bn,QQ hne,A6.get];have hb:=C.slbx n hn;have k1:=F.slot;have k2:=L.eff;cases δ with
   |none=>rfl|slot s t=>
    simp only[A6.on];rw[QQ];intro e;subst e;exact Aw c3 (k1 _ _ rfl) hn
   |cell s off t=>
    simp only[A6.on];rw[QQ];intro e;subst e;obtain⟨cs,k3,_⟩:=k2;exact hb cs k3
  .rw[AB.c9,A6.ek,C.dno,C_];refine Ul (λs he=>?_);rcases F.pr s he with j|⟨x,_,l⟩
   .exact λe=>Aw qb j (e▸O)
   .exact λe=>k.no l (e▸O)
  .rw[F.gk];have hdd:∀e,δ.on d e=e:=κ d O o;refine⟨λm=>?_,λc=>?_⟩
   .simp only[AB.bn,A6.get,PX,b.1];by_cases j:H=m
    .have B:m∉A:=λhm=>R (j▸C.sub m hm);have h4:¬d=m:=λe=>hqd (j.trans e.symm);rw[Ne j,QQ h4,QQ B,Ne j]
    .rw[QQ j];by_cases l:d=m
     .subst l;rw[Ne rfl,Ne rfl,hdd]
     .rw[QQ l,QQ l];by_cases B:m∈A
      .rw[Ne B,Ne B,κ m (sD m B) (w m B)]
      .rw[QQ B,QQ B,QQ j]
   .simp only[AB.c9,A6.ek,b.2,G8 C.Abf,EV.x8,C.Abs];cases(match eq.pr with|some s=>c !=s|none=>X)<;>rfl
 .cases a
theorem wc{S:FuncId->Fq->As->Prop}(Q:JD D ε){p q:PR}(g:AaM D p q=X)(h:EM S K (p::q::rs) ε):EM S K (q::p::rs) ε:=by
 unfold AaM at g;split at g
 .rename_i J C qs L θ κ;simp only[gN,B!,B?,y?,pE]at g;obtain⟨⟨bp,δ⟩,g⟩:=g;have l:∀x,x=C\/x∈p.op.slots->x≠L/\x∉q.op.slots:=λx l=>by
   grind [Aw,List.mem_cons_self,List.mem_cons_of_mem]
  obtain ⟨e',z,h⟩:=h;obtain⟨ep,u,o,⟨R,j,Z⟩,F⟩:=YS θ (λh=>Q.congr z.symm _ (bp.resolve_left λH=>by rw[H]at h;cases h)) h;obtain⟨eq,v,k,hK,A⟩:=YS κ (λh=>by
   have w:=Q.congr z.symm _ (δ.resolve_left λH=>by rw[H]at h;cases h);rw[j.2,AB.c9,G8 o.Abf,EV.x8,o.Abs];exact w) Z
  have η:∀n,n≠C->n∉J->R.get n=e'.get n:=λn w G=>by
   rw [j.1,AB.bn,QQ (λe=>w e.symm),PX,QQ G]
  have M:∀n∈q.op.slots,e'.get n=R.get n:=λn B=>(η n (λe=>(l n (.inl e)).2 B) (λe=>(l n (.inr (o.sub n e))).2 B)).symm;have O:e'.ek L=X:=by
   have:=k.dno;rw[j.2,AB.c9,G8 o.Abf,gN]at this;exact this.2
  refine ⟨e',z,A e' M O _ ⟨_,.refl _,F _ (λn B=>?_) ?_ _ (Gd hK ?_)⟩⟩
  .rw[AB.bn,QQ (λe=>(l n (.inr B)).1 e.symm),PX,QQ (λe=>(l n (.inr B)).2 (k.sub n e))]
  .rw[AB.c9,G8 k.Abf,o.dno,EV.x8,k.Abs];rfl
  .refine⟨λm=>?_,λc=>?_⟩
   .simp only[AB.bn,PX,j.1];by_cases w:L=m
    .have G:¬C=m:=λe=>(l C (.inl rfl)).1 (e.trans w.symm);have ζ:m∉J:=λI=>(l m (.inr (o.sub m I))).1 w.symm
     grind
    .rw[QQ w];by_cases G:C=m
     .have ζ:m∉qs:=λI=>(l m (.inl G.symm)).2 (k.sub m I)
      grind
     have h4:m∈J->m∉qs:=λa b=>(l m (.inr (o.sub m a))).2 (k.sub m b)
     grind
   .simp only[AB.c9,G8 o.Abf,G8 k.Abf,j.2,EV.x8,o.Abs,k.Abs]
 .cases g
end
def AE.ptr:AE->Option Nat
 |.bad s _=>Y s|.fad (.s m) _=>Y m|_=>W
def EV.box2(e e2:EV):Prop:=e2=e\/∃cs cs',e=.bx cs/\e2=.bx cs'
variable{m:Nat}{dst:Option Nat}{ε:AB}
theorem Zs{S:FuncId->Fq->As->Prop}{op:AE}{K:EV->AB->Prop}(ho:op.ptr=Y m)(h:op.wp S ε dst K):
  ∃e,K e ε/\(∀s,e.pr=Y s->(s∈op.Aa1\/(ε.get m).pr=Y s))/\(∀cs,e≠.bx cs)/\∀env2,(ε.get m).box2 (env2.get m)->(∀s,(ε.get m).pr=Y s->(ε.get s).box2 (env2.get s))->∀j:EV->AB->Prop,j e env2->op.wp S env2 dst j:=by
 unfold AE.ptr at ho;split at ho
 .rename_i s k;simp only[nm]at ho;subst ho;simp only[AE.wp]at h;split at h
  .rename_i cs b;refine⟨_,h,λs' c=>.inl (by simpa[AE.Aa1,EV.pr]using c.symm),V,λenv2 a _ j g=>?_⟩;have:∃cs',env2.get s=.bx cs':=by
    rcases a with a|⟨_,cs',_,a⟩
    .grind
    .exact⟨cs',a⟩
   obtain ⟨cs',l⟩:=this;simp only[AE.wp,l];exact g
  .rename_i row b;refine⟨_,h,by simp[EV.pr],V,λenv2 a _ j g=>?_⟩;rcases a with a|⟨cs,_,a,_⟩
   .simp only[AE.wp,a,b];exact g
   .rw[b]at a;cases a
  .exact h.elim
 .rename_i m' k;simp only[nm]at ho;subst ho;simp only[AE.wp,AF.ev]at h;split at h
  .rename_i row b;refine⟨_,h,by simp[EV.pr],V,λenv2 a _ j g=>?_⟩;rcases a with a|⟨cs,_,a,_⟩
   .simp only[AE.wp,AF.ev,a,b];exact g
   .rw[b]at a;cases a
  .rename_i s off b;split at h
   .rename_i cs w;refine⟨_,h,λs' c=>.inr (by rw[b];exact c),V,λenv2 a l j g=>?_⟩;have u:env2.get m'=.bp s off:=by
     rcases a with a|⟨_,_,a,_⟩
     .rw[a,b]
     grind
    have o:∃cs',env2.get s=.bx cs':=by
     rcases l s (by rw[b];rfl)with l|⟨_,cs',_,l⟩
     .grind
     .exact⟨cs',l⟩
    obtain ⟨cs',o⟩:=o;simp only[AE.wp,AF.ev,u,o];exact g
   .exact h.elim
  .exact h.elim
 .cases ho
def X6(m q s:Nat)(cs:List AO)(off:Nat)(ε:AB):AB:=(s,.bx (cs.set off ⟨T,.undef⟩))::(m,.undef)::(q,.undef)::ε
theorem S6{S:FuncId->Fq->As->Prop}{m q d:Nat}{K:EV->AB->Prop}(h:(AE.AaG m q).wp S ε (Y d) K):
  ∃e s off cs,ε.get m=.nh s off .hd/\ε.get s=.bx cs/\(∀cs,ε.get q≠.bx cs)/\ε.ek d=X/\e.pr=W/\K e (X6 m q s cs off ε)/\
   ∀env2,env2.get m=ε.get m->env2.get q=ε.get q->env2.get s=ε.get s->env2.ek d=X->∀c:EV->AB->Prop,c e (X6 m q s cs off env2)->(AE.AaG m q).wp S env2 (Y d) c:=by
 simp only[AE.wp]at h;split at h
 .rename_i H s off n I b j k;simp only[nm]at b;subst b;split at h
  .rename_i cs l;cases a:ε.nat s off with
   |none=>rw[a]at h;exact h.elim|some es=>
    rw [a]at h;simp only[Ai]at h;obtain⟨B,⟨C,F⟩,G⟩:=h;refine⟨_,s,off,cs,j,l,by rw[k];simp,C,rfl,G,λenv2 o u g w c z=>?_⟩;have A:env2.nat s off=Y es:=by rw[<-a];exact AB.Aap g
    simp only[AE.wp,o,u,g,j,k,l,A,Ai];exact⟨B,⟨w,F⟩,z⟩
  .exact h.elim
 .exact h.elim
def Aai(D:I2)(p q:PR):Bool:=
 match p.op.ptr,p.guard,p.dst,q.op,q.guard,q.dst with
 |some x,W,Y dp,.AaG m qq,W,Y d=>D.contains d&&D.contains dp&&D.contains m&&D.contains qq&&FL [dp] [d,m,qq]&&FL [x] [d,m,qq]&&FL p.op.Aa1 D&&dp !=x&&PR.wm D p|_,_,_,_,_,_=>T
variable{off:Nat}
theorem P7{m q s:Nat}{cs:List AO}(n:Nat):AB.get (X6 m q s cs off ε) n=if s=n then .bx (cs.set off ⟨T,.undef⟩)else if m=n then .undef else if q=n then .undef else ε.get n:=rfl
theorem Ph{m q s:Nat}{cs:List AO}(c:Nat):AB.ek c (X6 m q s cs off ε)=AB.ek c ε:=by
 simp [X6,AB.c9,EV.x8,EV.pr]
section
variable{S:FuncId->Fq->As->Prop}{K:AB->Prop}{D:I2}
variable{ε:AB}{rs:List PR}
theorem wX(hj:JD D ε){p q:PR}(a:Aai D p q=X)(h:EM S K (p::q::rs) ε):EM S K (q::p::rs) ε:=by
 unfold Aai at a;split at a
 .rename_i x g m C d F Q R θ κ η;simp only[gN,y?,pE,bne_iff_ne,ne_eq]at a;obtain⟨⟨⟨⟨⟨⟨⟨⟨Z,dpD⟩,mD⟩,qD⟩,J⟩,L⟩,pb⟩,hdx⟩,_⟩:=a;have n1:g≠d:=λe=>Aw J (x:=g) V d_;have ζ:g≠m:=λe=>Aw J (x:=g) V d_;have n3:g≠C:=λe=>Aw J (x:=g) V d_;have n4:x≠d:=λe=>Aw L (x:=x) V d_;have n5:x≠m:=λe=>Aw L (x:=x) V d_;have n6:x≠C:=λe=>Aw L (x:=x) V d_;obtain⟨e',A,h⟩:=h;have l:=hj.congr A.symm;simp only[PR.wp,Q,R,AB.put]at h;obtain⟨e,⟨e1,b,hw⟩,hre,M,B⟩:=Zs F h;simp only[PR.wp,κ,η,θ,AB.put]at hw;obtain⟨eq,s,off,cs,k1,O,k3,k4,k5,hK,k⟩:=S6 hw;have o:∀n,n≠g->e1.get n=e'.get n:=λn hn=>by rw[b.1,AB.bn,QQ (λe=>hn e.symm)]
  have u:s≠g:=by
   intro hs;subst hs;rw[b.1,AB.bn,Ne rfl]at O;exact M cs O
  have G:e'.get m=.nh s off .hd:=by rw[<-o m (λe=>ζ e.symm)];exact k1
  have w:e'.get s=.bx cs:=by rw[<-o s u];exact O
  have H:s∉D:=l.no (x:=m) (by rw[G];rfl);have δ:s≠d:=λe=>H (e▸Z);have I:e'.ek d=X:=by rw[b.2,AB.c9,gN]at k4;exact k4.2
  refine ⟨e',A,?_⟩;simp only[PR.wp,κ,η,θ,AB.put];refine k e' (o m (λe=>ζ e.symm)).symm (o C (λe=>n3 e.symm)).symm (o s u).symm I _ ⟨_,.refl _,?_⟩;simp only[PR.wp,Q,R,AB.put];refine B _ ?_ (λr hr=>?_) _ (Gd hK ?_)
  .rw[AB.bn,QQ (λe=>n4 e.symm),P7];by_cases z:s=x
   .subst z;rw[Ne rfl];exact .inr ⟨cs,_,w,rfl⟩
   .rw[QQ z,QQ (λe=>n5 e.symm),QQ (λe=>n6 e.symm)];exact .inl rfl
  .have j:r∉D:=l.no hr;rw[AB.bn,QQ (λ(e:d=r)=>j (e▸Z)),P7];by_cases z:s=r
   .subst z;rw[Ne rfl];exact .inr ⟨cs,_,w,rfl⟩
   .rw[QQ z,QQ (λ(e:m=r)=>j (e▸mD)),QQ (λ(e:C=r)=>j (e▸qD))];exact .inl rfl
  .refine⟨λn=>?_,λc=>?_⟩
   .simp only[AB.bn,P7,b.1]
    grind
   .simp only[AB.c9,Ph,b.2,EV.x8,k5]
    grind
 .cases a
theorem wW(Z:JD D ε){p q:PR}(a:Aai D q p=X)(h:EM S K (p::q::rs) ε):EM S K (q::p::rs) ε:=by
 unfold Aai at a;split at a
 .rename_i x g m B d C L M O Q R;simp only[gN,y?,pE,bne_iff_ne,ne_eq]at a;obtain⟨⟨⟨⟨⟨⟨⟨⟨κ,G⟩,mD⟩,qD⟩,H⟩,I⟩,qb⟩,hdx⟩,_⟩:=a;have n1:g≠d:=λe=>Aw H (x:=g) V d_;have n2:g≠m:=λe=>Aw H (x:=g) V d_;have n3:g≠B:=λe=>Aw H (x:=g) V d_;have n4:x≠d:=λe=>Aw I (x:=x) V d_;have n5:x≠m:=λe=>Aw I (x:=x) V d_;have n6:x≠B:=λe=>Aw I (x:=x) V d_;obtain⟨e',u,h⟩:=h;have k:=Z.congr u.symm;simp only[PR.wp,Q,R,O,AB.put]at h;obtain⟨ep,s,off,cs,k1,k2,k3,k4,η,⟨ζ,b,δ⟩,w⟩:=S6 h;simp only[PR.wp,L,M,AB.put]at δ;obtain⟨e,hK,J,hnb,j⟩:=Zs C δ;have l:s∉D:=k.no (x:=m) (by rw[k1];rfl);have hsd:s≠d:=λe=>l (e▸κ);have g1:∀n,n≠d->n≠m->n≠B->(ζ.get n).box2 (e'.get n):=by
   intro n z h2 h3;rw[b.1,AB.bn,QQ (λe=>z e.symm),P7];by_cases θ:s=n
   .subst θ;rw[Ne rfl];exact .inr ⟨_,cs,rfl,k2⟩
   .rw[QQ θ,QQ (λe=>h2 e.symm),QQ (λe=>h3 e.symm)];exact .inl rfl
  have o:JD D ζ:=by
   intro y hy;rw[b.2,AB.c9,Ph,EV.x8,η];exact k y hy
  refine ⟨e',u,?_⟩;simp only[PR.wp,L,M,AB.put];refine j e' (g1 x n4 n5 n6) (λr A=>?_) _ ⟨_,.refl _,?_⟩
  .have hrD:r∉D:=o.no A
   grind
  .simp only[PR.wp,Q,R,O,AB.put];have F:s≠g:=λe=>l (e▸G);refine w _ (by rw[AB.bn,QQ n2]) (by rw[AB.bn,QQ n3]) (by rw[AB.bn,QQ (λe=>F e.symm)]) ?_ _ (Gd hK ?_)
   .rw[AB.c9,k4,C_];refine Ul (λr A=>?_);rcases J r A with z|z
    .grind[Aw]
    .exact λ(e:r=d)=>o.no z (e▸κ)
   .refine⟨λn=>?_,λc=>?_⟩
    .simp only[AB.bn,P7,b.1]
     grind
    .simp only[AB.c9,Ph,b.2,EV.x8,η]
     grind
 .cases a
end
def Vf(s:Nat)(cs:List AO)(off:Nat)(ε:AB):AB:=(s,.bx (cs.set off ⟨T,.undef⟩))::ε
variable{s off:Nat}{ε:AB}
theorem P0{cs:List AO}(n:Nat):AB.get (Vf s cs off ε) n=if s=n then .bx (cs.set off ⟨T,.undef⟩)else ε.get n:=rfl
theorem SG{cs:List AO}(c:Nat):AB.ek c (Vf s cs off ε)=AB.ek c ε:=by
 simp [Vf,AB.c9,EV.x8,EV.pr]
def Ra(cs:List AO)(off:Nat)(e:EV):Prop:=(∃n es,cs[off]?=Y ⟨X,.xl n es⟩/\e=.xo n es)\/∃es,cs[off]?=Y ⟨X,.xn es⟩/\e=.xn es
variable{e:EV}
theorem Ra.pr{cs:List AO}(h:Ra cs off e):e.pr=W:=by
 rcases h with⟨_,_,_,rfl⟩|⟨_,_,rfl⟩<;>rfl
theorem Ra.cell{cs:List AO}(h:Ra cs off e):∃t,cs[off]?=Y ⟨X,t⟩/\t.Aav=X:=by
 rcases h with⟨_,_,h,_⟩|⟨_,h,_⟩<;>exact⟨_,h,rfl⟩
variable{x:AF}{d:Nat}
theorem UR{S:FuncId->Fq->As->Prop}{K:EV->AB->Prop}(h:(AE.ctk x).wp S ε (Y d) K):
  ∃e s off cs,x.place ε=Y (s,off)/\ε.get s=.bx cs/\Ra cs off e/\ε.ek d=X/\K e (Vf s cs off ε)/\
   ∀env2 a,x.place env2=Y (s,off)->env2.get s=.bx a->a[off]?=cs[off]?->env2.ek d=X->∀c:EV->AB->Prop,c e (Vf s a off env2)->(AE.ctk x).wp S env2 (Y d) c:=by
 simp only[AE.wp]at h;split at h
 .rename_i z s off hd u;simp only[nm]at hd;subst hd;split at h
  .rename_i cs w;split at h
   next n es b=>refine⟨_,s,off,cs,u,w,.inl ⟨n,es,b,rfl⟩,h.1,h.2,λenv2 a g j k l c o=>?_⟩;simp only[AE.wp,g,j,k,b];exact⟨l,o⟩
   next es b=>refine⟨_,s,off,cs,u,w,.inr ⟨es,b,rfl⟩,h.1,h.2,λenv2 a g j k l c o=>?_⟩;simp only[AE.wp,g,j,k,b];exact⟨l,o⟩
   .exact h.elim
  .exact h.elim
 .exact h.elim
def uU:AE->Bool
 |.bad _ _=>X|.fad _ _=>X|.ld _=>X|.mv _=>X|.iad _ _ _=>X|.lst _ _=>X|.bld _ _=>X|.xal _=>X|.xin _ _ _=>X|.xln _=>X|.ldt _=>X|.app _ (.s _) _=>X|_=>T
structure Tk(op:AE)(E E2:AB):Prop where
 no:∀m∈op.slots,(∀cs,E.get m≠.bx cs)->E2.get m=E.get m
 pr:∀m∈op.slots,∀r,(E.get m).pr=Y r->(∀cs,E.get r≠.bx cs)->E2.get r=E.get r
 bx:∀r c0,(r∈op.slots\/∃m∈op.slots,(E.get m).pr=Y r)->E.get r=.bx c0->∃c1,E2.get r=.bx c1/\(∀k t,t.Aav=T->FW ((c0.drop k).map (·.t))=Y t->FW ((c1.drop k).map (·.t))=Y t)/\∀(k:Nat)t,t.Aav=T->c0[k]?=Y ⟨X,t⟩->c1[k]?=Y ⟨X,t⟩
section
variable{op:AE}{E E2:AB}
variable{x:AF}{e:EV}
theorem Tk.ev(h:Tk op E E2)(a:∀s∈x.sl,s∈op.slots)(he:x.ev E=e)(b:∀cs,e≠.bx cs):x.ev E2=e:=by
 subst he;cases x with
 |c t=>rfl|s n=>exact h.no n (a n c!) b
variable{t:TV}
theorem Tk.val(h:Tk op E E2)(b:∀s∈x.sl,s∈op.slots)(a:x.val E=Y t):x.val E2=Y t:=by
 unfold AF.val at a|-;rw[h.ev b rfl λcs c=>by rw[c]at a;cases a];exact a
theorem Tk.vals(h:Tk op E E2):∀{xs:List AF}{b:Fq},(∀s∈C0 xs,s∈op.slots)->Go.Sf.vals E xs=Y b->Go.Sf.vals E2 xs=Y b
 |[],_,_,a=>a|x::xs,b,g,a=>by
  simp only[C0,y!]at g;simp only[Go.Sf.vals]at a|-;split at a
  next t j k l=>rw[h.val (λs c=>g s (.inl c)) k,h.vals (λs c=>g s (.inr c)) l];exact a
  .cases a
theorem Tk.parts(h:Tk op E E2):∀{xs:List (Nat×Nat×AF)}{b:List (Nat×Nat×TV)},(∀s∈Qy xs,s∈op.slots)->E4 E xs=Y b->E4 E2 xs=Y b
 |[],_,_,a=>a|(i,n,x)::xs,b,g,a=>by
  simp only[Qy,y!]at g;simp only[E4]at a|-;split at a
  next t j k l=>rw[h.val (λs c=>g s (.inl c)) k,h.parts (λs c=>g s (.inr c)) l];exact a
  .cases a
theorem Tk.place(h:Tk op E E2)(g:∀s∈x.sl,s∈op.slots){p:Nat×Nat}(a:x.place E=Y p):x.place E2=Y p:=by
 cases x with
 |c t=>cases a
 |s n=>
  have b:=g n c!;simp only[AF.place]at a|-;split at a
  next q off he=>rw[h.no n b (by rw[he];simp),he];exact a
  next cs he=>obtain⟨k,j,_⟩:=h.bx n cs (.inl b) he;rw[j];exact a
  .cases a
end
variable{dst:Option Nat}
theorem nS{S:FuncId->Fq->As->Prop}{op:AE}(ho:uU op=X){E:AB}{K:EV->AB->Prop}(h:op.wp S E dst K):
  ∃(e:EV)(f:A6),K e (f.app E)/\f.ok E/\(∀s t,f=.slot s t->s∈op.slots)/\(∀s o t,f=.cell s o t->s∈op.slots\/∃y∈op.slots,(E.get y).pr=Y s)/\(∀cs,e≠.bx cs)/\
   ∀E2,Tk op E E2->∀u:EV->AB->Prop,u e (f.app E2)->op.wp S E2 dst u:=by
 have a:∀{e:EV},K e E->(∀cs,e≠.bx cs)->(∀E2,Tk op E E2->∀u:EV->AB->Prop,u e E2->op.wp S E2 dst u)->∃(e:EV)(f:A6),K e (f.app E)/\f.ok E/\(∀s t,f=.slot s t->s∈op.slots)/\(∀s o t,f=.cell s o t->s∈op.slots\/∃y∈op.slots,(E.get y).pr=Y s)/\(∀cs,e≠.bx cs)/\
   ∀E2,Tk op E E2->∀u:EV->AB->Prop,u e (f.app E2)->op.wp S E2 dst u:=λ{e}B C G=>⟨e,.none,B,trivial,V,V,C,G⟩
 cases op with
 |mv x=>
  simp only[AE.wp]at h;split at h
  next t l=>exact a h V λE2 b u g=>h?
  next t l=>exact a h V λE2 b u g=>h?
  next t l=>exact a h V λE2 b u g=>h?
  .exact h.elim
 |bad s k=>
  simp only[AE.wp]at h;split at h
  next cs F=>refine a h V λE2 b u g=>?_;obtain⟨R,B,_⟩:=b.bx s cs (.inl f_) F;simp only[AE.wp,B];exact g
  next row F=>exact a h V λE2 b u g=>by simp only[AE.wp,b.no s f_ (by rw[F];simp),F];exact g
  .exact h.elim
 |fad x k=>
  simp only[AE.wp]at h;split at h
  next row l=>exact a h V λE2 b u g=>h?
  .rename_i s off l;split at h
   .rename_i cs F;refine a h V λE2 b u g=>?_;have A:∃y∈x.sl,(E.get y).pr=Y s:=by
     cases x with
     |c t=>simp[AF.ev]at l|s n=>simp only[AF.ev]at l;exact⟨n,c!,by rw[l];rfl⟩
    obtain ⟨R,B,_⟩:=b.bx s cs (.inr A) F;simp only[AE.wp,b.ev (λs h=>h) l V,B];exact g
   .exact h.elim
  .exact h.elim
 |iad x i n=>
  simp only[AE.wp]at h;split at h
  next m es k j l hi=>obtain⟨B,C,e,G,Q⟩:=h;exact a Q V λE2 b u g=>by simp only[AE.wp,b.val (λs h=>C3 h) l,b.val (λs h=>De h) hi];exact⟨B,C,e,G,g⟩
  .exact h.elim
 |lst n κ=>
  simp only[AE.wp]at h;cases hv:Go.Sf.vals E κ with
  |none=>rw[hv]at h;exact h.elim|some η=>
   rw [hv]at h;exact a h.2 V λE2 b u g=>by simp only[AE.wp,b.vals (λs h=>h) hv,Ai];exact⟨h.1,g⟩
 |bld z κ=>
  simp only[AE.wp]at h;cases hv:E4 E κ with
  |none=>rw[hv]at h;exact h.elim|some η=>
   rw [hv]at h;simp only[Ai]at h;cases hf:E8 z η with
   |none=>rw[hf]at h;exact h.elim|some cs=>
    rw [hf]at h;exact a h V λE2 b u g=>by simp only[AE.wp,b.parts (λs h=>h) hv,Ai,hf];exact g
 |xal s=>
  simp only[AE.wp]at h;split at h
  next m ζ F=>exact a h V λE2 b u g=>by simp only[AE.wp,b.no s f_ (by rw[F];simp),F];exact g
  .exact h.elim
 |xin x i n=>
  simp only[AE.wp]at h;split at h
  .rename_i q k j l hi;split at h
   .rename_i m es M;obtain⟨B,C,G,Q⟩:=h;have A:∃y∈x.sl,(E.get y).pr=Y q:=by
     cases x with
     |c t=>simp[AF.ev]at l|s n=>simp only[AF.ev]at l;exact⟨n,c!,by rw[l];rfl⟩
    obtain ⟨y,J,L⟩:=A;refine a Q V λE2 b u g=>?_;simp only[AE.wp,b.ev (λs h=>C3 h) l V,b.val (λs h=>De h) hi,b.pr y (C3 J) q L (by rw[M];simp),M];exact⟨B,C,G,g⟩
   .exact h.elim
  .exact h.elim
 |xln x=>
  simp only[AE.wp]at h;split at h
  .rename_i q c l;split at h
   .rename_i m es M;cases w:(es.flatMap TV.cells)[c]? with
    |none=>rw[w]at h;exact h.elim|some t=>
     rw [w]at h;have A:∃y∈x.sl,(E.get y).pr=Y q:=by
      cases x with
      |c t=>simp[AF.ev]at l|s n=>simp only[AF.ev]at l;exact⟨n,c!,by rw[l];rfl⟩
     obtain ⟨y,J,L⟩:=A;refine a h V λE2 b u g=>?_;simp only[AE.wp,b.ev (λs h=>h) l V,b.pr y J q L (by rw[M];simp),M,w,Ai];exact g
   .exact h.elim
  .exact h.elim
 |ld x=>
  simp only[AE.wp]at h;cases w:A7 E (x.ev E)with
  |none=>rw[w]at h;exact h.elim|some cs=>
   rw [w]at h;simp only[Ai]at h;cases b:FW cs with
   |none=>rw[b]at h;exact h.elim|some t=>
    rw [b]at h;obtain⟨θ,h⟩:=h;refine a h V λE2 hT u g=>?_;have δ:∃cs',A7 E2 (x.ev E2)=Y cs'/\FW cs'=Y t:=by
     cases x with
     |c O=>exact⟨cs,by rw[<-w];cases O<;>rfl,b⟩
     |s y=>
      have I:y∈(AE.ld (.s y)).slots:=t!
      simp only[AF.ev]at w|-;cases A:E.get y with
      |bp s off=>
       rw [hT.no y I (by rw[A];simp),A];rw[A]at w;simp only[A7]at w|-;split at w
       next ds F=>cases w;obtain⟨R,B,C,_⟩:=hT.bx s ds (.inr ⟨y,I,o!⟩) F;rw[B];exact⟨_,rfl,C _ _ θ b⟩
       .cases w
      |tv O=>
       rw [hT.no y I (by rw[A];simp),A];rw[A]at w;exact⟨cs,by rw[<-w];cases O<;>rfl,b⟩
      |bx ds=>
       rw [A]at w;simp only[A7,nm]at w;subst w;obtain⟨R,B,C,_⟩:=hT.bx y ds (.inl I) A;rw[B];have:=C 0 t θ (by simpa using b);exact⟨_,rfl,by simpa using this⟩
      |_=>rw[A]at w;cases w
    obtain ⟨cs',B,C⟩:=δ;simp only[AE.wp,B,Ai,C];exact⟨θ,g⟩
 |ldt x=>
  simp only[AE.wp]at h;split at h
  .rename_i s off H;split at h
   .rename_i cs F;split at h
    .rename_i n es w;have A:s∈x.sl\/∃y∈x.sl,(E.get y).pr=Y s:=by
      cases x with
      |c t=>cases H
      |s m=>
       simp only[AF.place]at H;split at H
       next q o he=>simp only[nm,Prod.mk.injEq]at H;exact .inr ⟨m,c!,by rw[he,<-H.1];rfl⟩
       .simp only[nm,Prod.mk.injEq]at H;exact .inl (by simp[AF.sl,H.1])
       .cases H
     refine ⟨.ow (.list n es),.cell s off (.list n es),?_,⟨cs,F,w⟩,V,?_,V,λE2 hT u g=>?_⟩
     .simp only[A6.app,F];exact h
     .intro s' o' O he;simp only[A6.cell.injEq]at he;rw[<-he.1];exact A
     .obtain⟨R,B,_,C⟩:=hT.bx s cs A F;have G:=C off _ rfl w;simp only[AE.wp,hT.place (λs h=>h) H,B,G];simp only[A6.app,B]at g;exact g
    .exact h.elim
   .exact h.elim
  .exact h.elim
 |app n x y=>
  cases x with
  |c t=>cases ho
  |s q=>
   simp only[AE.wp]at h;split at h
   .rename_i m es m' ζ l A;obtain⟨B,C,G,Q⟩:=h;subst B;simp only[AF.ev]at l;refine⟨_,.slot q (.list m es),Q,l,?_,V,V,λE2 hT u g=>?_⟩
    .intro s' O he;simp only[A6.slot.injEq]at he;rw[<-he.1];simp[AE.slots,AF.sl]
    .have Z:E2.get q=.ow (.list m es):=by rw[hT.no q t! (by rw[l];simp),l]
     simp only[AE.wp,AF.ev,Z,hT.val (λs h=>De h) A];exact⟨trivial,C,G,g⟩
   .exact h.elim
 |_=>cases ho
variable{s off d:Nat}
theorem zc{op:AE}{E E2:AB}{cs:List AO}{A:EV}(w:E.get s=.bx cs)(B:Ra cs off A)(hd:d∉op.slots)(C:E.ek d=X)(h:∀m,m≠d->E2.get m=AB.get (Vf s cs off E) m):Tk op E E2:=by
 have z:∀m r,(E.get m).pr=Y r->r≠d:=λm r b e=>AB.po d E C m (e▸b);have g:∀m,m≠d->(∀cs,E.get m≠.bx cs)->E2.get m=E.get m:=λm l c=>by
  rw [h m l,P0,QQ (λe:s=m=>c cs (e▸w))]
 refine ⟨λm F c=>g m (λe=>hd (e▸F)) c,λm _ r b c=>g r (z m r b) c,λr G b o=>?_⟩;have u:r≠d:=by
  rcases b with b|⟨m,_,b⟩
  .exact λe=>hd (e▸b)
  .exact z m r b
 rw [h r u,P0];by_cases e:s=r
 .subst e;rw[w]at o;cases o;obtain⟨H,l,c⟩:=B.cell;rw[Ne rfl];refine⟨_,rfl,λk t j a=>?_,λk t j a=>?_⟩
  .rw[fg]at a|-;by_cases e:off=k
   .subst e;rw[l]at a;simp at a;rw[<-a,c]at j;cases j
   .rw[z! e];exact a
  .by_cases e:off=k
   .subst e;rw[l]at a;simp at a;rw[<-a,c]at j;cases j
   .rw[z! e];exact a
 .rw[QQ e];exact⟨G,o,λ_ _ _ h=>h,λ_ _ _ h=>h⟩
theorem g9{E E2:AB}:∀{xs:List AF}{g:Fq},(∀k∈C0 xs,(∀cs,E.get k≠.bx cs)->E2.get k=E.get k)->Go.Sf.vals E xs=Y g->Go.Sf.vals E2 xs=Y g
 |[],_,_,a=>a|x::xs,g,h,a=>by
  simp only[C0,y!]at h;simp only[Go.Sf.vals]at a|-;split at a
  .rename_i t o b w;have z:x.val E2=Y t:=by
    cases x with
    |c u=>exact b|s k=>
     simp only[AF.val,AF.ev]at b|-;rw[h k (.inl c!) λcs j=>by rw[j]at b;cases b];exact b
   rw [z,g9 (λs l=>h s (.inr l)) w];exact a
  .cases a
def Vp(D:I2)(p q:PR):Bool:=
 match q.op,q.guard,q.dst,p.guard,p.dst with
 |.ctk (.s m),W,Y d,W,Y dp=>uU p.op&&PR.wm D p&&dp !=d&&dp !=m&&d !=m&&!p.op.slots.contains d|_,_,_,_,_=>T
def Abc(D:I2)(p q:PR):Bool:=
 match p.op,p.guard,p.dst,q.op,q.guard,q.dst with
 |.ctk (.s m),W,Y d,.lst _ ps,W,Y dq=>D.contains dq&&dq !=d&&dq !=m&&!(C0 ps).contains d|_,_,_,_,_,_=>T
section
variable{S:FuncId->Fq->As->Prop}{K:AB->Prop}{D:I2}
variable{ε:AB}{rs:List PR}
theorem wP{p q:PR}(j:Vp D p q=X)(h:EM S K (p::q::rs) ε):EM S K (q::p::rs) ε:=by
 unfold Vp at j;split at j
 .rename_i m d θ qo qg qd pg pd;simp only[gN,bne_iff_ne,ne_eq,B?,y?,decide_eq_false_iff_not]at j;obtain⟨⟨⟨⟨⟨ho,_⟩,n1⟩,n2⟩,n3⟩,δ⟩:=j;obtain⟨e',Z,h⟩:=h;simp only[PR.wp,pg,pd,AB.put]at h;obtain⟨e,f,⟨e1,w,hw⟩,fok,fsl,F,hnb,L⟩:=nS ho h;simp only[PR.wp,qg,qd,qo,AB.put]at hw;obtain⟨eq,s,off,l,a,b,z,M,hK,G⟩:=UR hw;have R:∀n,e1.get n=if θ=n then e else f.on n (e'.get n):=λn=>by rw[w.1,AB.bn,A6.get]
  have H:θ≠s:=λh=>hnb l (by rw[<-b,R,Ne h]);have B:e'.ek d=X:=by
   rw [w.2,AB.c9,A6.ek,gN]at M;exact M.2
  have g:(AF.s m).place e'=Y (s,off):=by
   simp only[AF.place]at a|-;rw[R,QQ n2]at a;cases f with
   |none=>exact a|slot s2 t=>
    simp only[A6.on]at a;by_cases k:s2=m
    .rw[Ne k]at a;cases a
    .rw[QQ k]at a;exact a
   |cell s2 o t=>
    simp only[A6.on]at a;by_cases k:s2=m
    .rw[Ne k]at a;cases hm:e'.get m<;>rw[hm]at a<;>exact a
    .rw[QQ k]at a;exact a
  have hsd2:s≠d:=by
   simp only[AF.place]at g;split at g
   next q o he=>simp only[nm,Prod.mk.injEq]at g;exact λhh=>AB.po d e' B m (by rw[he,<-hh,<-g.1];rfl)
   .simp only[nm,Prod.mk.injEq]at g;exact λhh=>n3 (by rw[<-hh,<-g.1])
   .cases g
  rw [R,QQ H]at b;obtain⟨t0,O,hx0⟩:=z.cell;have κ:∃cs,e'.get s=.bx cs/\cs[off]?=l[off]?/\f.on s (.bx (cs.set off ⟨T,.undef⟩))=.bx (l.set off ⟨T,.undef⟩):=by
   cases f with
   |none=>exact⟨l,b,rfl,rfl⟩|slot s2 t=>
    simp only[A6.on]at b|-;by_cases k:s2=s
    .rw[Ne k]at b;cases b
    .rw[QQ k]at b;exact⟨l,b,rfl,by rw[QQ k]⟩
   |cell s2 o t=>
    simp only[A6.on]at b|-;by_cases k:s2=s
    .subst k;obtain⟨ds,A,J⟩:=fok;rw[Ne rfl,A]at b;simp only[EV.bx.injEq]at b;subst b;have η:=(z?.1 J).1;have I:o≠off:=by
      intro hh;subst hh;rw[List.getElem?_set_self η]at O;cases O
     exact ⟨ds,A,by rw[z! I],by rw[Ne rfl];simp only[List.set_comm _ _ I]⟩
    .rw[QQ k]at b;exact⟨l,b,rfl,by rw[QQ k]⟩
  obtain ⟨cs,hs,Q,hon⟩:=κ;have C:Ra cs off eq:=by unfold Ra at z|-;rw[Q];exact z
  have ζ:∀u,f.on d u=u:=λu=>by
   cases f with
   |none=>rfl|slot s2 t=>simp only[A6.on];rw[QQ (λk:s2=d=>δ (k▸fsl _ _ rfl))]|cell s2 o t=>
    simp only[A6.on];rw[QQ];intro k;rcases F _ _ _ rfl with A|⟨y,_,A⟩
    .exact δ (k▸A)
    .exact AB.po d e' B y (k▸A)
  refine ⟨e',Z,?_⟩;simp only[PR.wp,qg,qd,qo,AB.put];refine G e' cs g hs Q B _ ⟨_,.refl _,?_⟩;simp only[PR.wp,pg,pd,AB.put];refine L _ (zc hs C δ B λn hn=>by rw[AB.bn,QQ (λh=>hn h.symm)]) _ (Gd hK ?_);refine⟨λn=>?_,λc=>?_⟩
  .simp only[AB.bn,P0,A6.get,R];by_cases k:θ=n
   .subst k;rw[QQ (λh=>n1 h.symm),QQ (λh=>H h.symm),Ne rfl,Ne rfl]
   .rw[QQ k,QQ k];by_cases A:d=n
    .subst A;rw[Ne rfl,Ne rfl,ζ]
    .rw[QQ A,QQ A];by_cases J:s=n
     .subst J;rw[Ne rfl,Ne rfl,hon]
     .rw[QQ J,QQ J]
  .simp only[AB.c9,SG,A6.ek,w.2];cases EV.x8 c eq<;>cases EV.x8 c e<;>rfl
 .cases j
theorem wQ(R:JD D ε){p q:PR}(a:Abc D p q=X)(h:EM S K (p::q::rs) ε):EM S K (q::p::rs) ε:=by
 unfold Abc at a;split at a
 .rename_i m d n η ζ F G H I J L;simp only[gN,bne_iff_ne,ne_eq,B?,y?,pE,decide_eq_false_iff_not]at a;obtain⟨⟨⟨Z,n1⟩,O⟩,n3⟩:=a;obtain⟨e',u,h⟩:=h;have z:=R.congr u.symm;simp only[PR.wp,F,G,H,AB.put]at h;obtain⟨ep,s,off,cs,b,hs,Q,B,⟨C,g,j⟩,w⟩:=UR h;simp only[PR.wp,J,L,I,AB.put,AE.wp]at j;have δ:∀k,k≠d->(∀cs,C.get k≠.bx cs)->e'.get k=C.get k:=λk θ l=>by
   rw [g.1,AB.bn,QQ (λh=>θ h.symm),P0]at l|-;by_cases M:s=k
   .rw[Ne M]at l;exact absurd rfl (l _)
   .rw[QQ M]
  have A:s≠ζ:=by
   simp only[AF.place]at b;split at b
   next q o he=>simp only[nm,Prod.mk.injEq]at b;exact λhh=>z.no (x:=m) (by rw[he];rfl) (by rw[b.1,hh];exact Z)
   .simp only[nm,Prod.mk.injEq]at b;exact λhh=>O (by rw[<-hh,<-b.1])
   .cases b
  cases hv:Go.Sf.vals C η with
  |none=>rw[hv]at j;exact j.elim|some ts=>
   rw [hv]at j;obtain⟨hl,j⟩:=j;refine⟨e',u,?_⟩;simp only[PR.wp,J,L,I,AB.put,AE.wp,g9 (λk κ l=>δ k (λh=>n3 (h▸κ)) l) hv,Ai];refine⟨hl,_,.refl _,?_⟩;simp only[PR.wp,F,G,H,AB.put];refine w _ cs (by simp only[AF.place]at b|-;rw[AB.bn,QQ O];exact b) (by rw[AB.bn,QQ (λh=>A h.symm)];exact hs) rfl (by rw[AB.c9,B];rfl) _ (Gd j ?_);refine⟨λk=>?_,λc=>?_⟩
   .simp only[AB.bn,P0,g.1]
    grind
   .simp only[AB.c9,SG,g.2];cases EV.x8 c ep<;>rfl
 .cases a
end
def Aa6(p:PR):Bool:=(p.tk.isSome&&!p.op.isB)||(match p.op,p.guard,p.dst with|.AaG _ _,W,Y _=>X|.ctk _,W,Y _=>X|_,_,_=>T)
variable{ε:AB}
theorem cb{S:FuncId->Fq->As->Prop}{p:PR}{K:AB->Prop}(ho:Aa6 p=X)(h:p.wp S ε K):∃gk,K gk/\(∀c,gk.ek c=ε.ek c)/\∀b:AB->Prop,b gk->p.wp S ε b:=by
 simp only[Aa6,B!]at ho;rcases ho with ho|ho
 .simp only[gN,B?]at ho;obtain⟨⟨qs,d⟩,w⟩:=C!.1 ho.1;obtain⟨e,u,j,g,a⟩:=YS w (λh=>by rw[ho.2]at h;cases h) h;exact⟨_,g,λc=>by rw[AB.c9,G8 j.Abf,EV.x8,j.Abs];rfl,a ε (λ_ _=>rfl) j.dno⟩
 split at ho
 .rename_i m q d k l o
  grind [PR.wp,AB.put,S6,AB.c9,Ph,EV.x8]
 next x d k l o=>simp only[PR.wp,k,l,o,AB.put]at h|-;obtain⟨e,s,off,cs,z,A,B,C,F,G⟩:=UR h;exact⟨_,F,λc=>by rw[AB.c9,SG,EV.x8,B.pr];rfl,λb g=>G ε cs z A rfl C _ g⟩
 .cases ho
def Abk(p:PR):Bool:=match p.op,p.guard,p.dst with
 |.x9 _,W,Y _=>X|_,_,_=>T
theorem rC{p:PR}{x:I2×Nat}(h:p.tk=Y x)(a:p.op.isB=X):Abk p=X:=by
 obtain ⟨qs,d⟩:=x;obtain⟨g,b,c⟩:=PR.tk_some h;unfold Abk;rw[b,c];cases ho:p.op<;>simp[ho,AE.isB]at a<;>rfl
theorem jF{D:I2}{p q:PR}(h:Aah D q p=X):Abk p=X\/Aa6 p=X:=by
 unfold Aah at h;split at h
 .rename_i qs d a;cases b:p.op.isB with
  |true=>exact .inl (rC a b)|false=>exact .inr (by simp[Aa6,a,b])
 .cases h
theorem eQ{D:I2}{p q:PR}(h:Aah D p q=X):PR.wm D p=X:=by
 unfold Aah at h
 grind
theorem jI{D:I2}{p q:PR}(h:AaM D p q=X):Abk p=X\/Aa6 p=X:=by
 unfold AaM at h;split at h
 .rename_i c g qs j a _;cases b:p.op.isB with
  |true=>exact .inl (rC a b)|false=>exact .inr (by simp[Aa6,a,b])
 .cases h
theorem eR{D:I2}{p q:PR}(h:Aai D p q=X):PR.wm D p=X:=by
 unfold Aai at h
 grind
theorem jG{D:I2}{p q:PR}(h:Aai D q p=X):Aa6 p=X:=by grind[Aai,Aa6]
end Go.Sf
namespace Go.Sf
open Go.RowKit (Below)
def OV(rs:List PR)(i:Nat):PR:=(rs[i]?).getD ⟨W,.Abo 0,W⟩
def AaU(p q:PR):Bool:=match p.op,p.guard,p.dst,q.op,q.guard,q.dst with
 |.x9 gs,W,Y dp,.alc _,W,Y dq=>dp !=dq&&!(gs.flatMap GC.sl).contains dq|_,_,_,_,_,_=>T
theorem jE{p q:PR}(h:AaU p q=X):Abk p=X:=by grind[AaU,Abk]
def Wt(p:PR):Bool:=match p.op,p.guard,p.dst with
 |.st _ (.s _) _,W,W=>X|.xst _ _ _,W,W=>X|_,_,_=>T
def AaV(D:I2)(p q:PR):Bool:=match p.op,p.guard,p.dst,q.op,q.guard,q.dst with
 |.xst x v _,W,W,.xia (.s _) _ _,W,Y d=>D.contains d&&!x.sl.contains d&&!v.sl.contains d|_,_,_,_,_,_=>T
def Sp(D:I2)(p q:PR):Bool:=match p.op,p.guard,p.dst,q.op,q.guard,q.dst with
 |.st _ (.s x) v,W,W,.bad m _,W,Y d=>D.contains d&&d !=x&&d !=m&&!v.sl.contains d&&!v.sl.contains m|.st _ (.s x) v,W,W,.fad (.s m) _,W,Y d=>D.contains d&&d !=x&&d !=m&&!v.sl.contains d&&!v.sl.contains m|_,_,_,_,_,_=>T
theorem jD{D:I2}{p q:PR}(h:Sp D p q=X):Wt p=X:=by grind[Sp,Wt]
theorem jH{D:I2}{p q:PR}(h:AaV D p q=X):Wt p=X:=by grind[AaV,Wt]
def AE.vops:AE->Option (List AF)
 |.len x=>Y [x]|.mm _ x y=>Y [x,y]|.slc _ x lo hi=>Y (x::(lo.toList++hi.toList))|.bin _ _ x y=>Y [x,y]|.cvt _ x=>Y [x]|.fdv x _=>Y [x]|.ldv x _=>Y [x]|_=>W
def Aa8(D:I2)(p q:PR):Bool:=match p.op.vops,p.guard,p.dst,q.op,q.guard,q.dst with
 |some xs,W,Y d,.st _ (.s x) v,W,W=>PR.wm D p&&d !=x&&!v.sl.contains d&&FL (xs.flatMap AF.sl) v.sl|_,_,_,_,_,_=>T
def Aa9(D:I2)(p q:PR):Bool:=match p.op,p.guard,p.dst,q.op,q.guard,q.dst with
 |.ldb b _,W,Y d,.st _ (.s x) v,W,W=>PR.wm D p&&D.contains b&&b !=x&&d !=x&&d !=b&&!v.sl.contains d&&!v.sl.contains b|.bad b _,W,Y d,.st _ (.s x) v,W,W=>PR.wm D p&&d !=x&&!v.sl.contains d&&!v.sl.contains b|_,_,_,_,_,_=>T
def AaN(p q:PR):Bool:=match p.op,p.guard,p.dst,q.op,q.guard,q.dst with
 |.Aad _ xs _,W,Y d,.alc _,W,Y d'=>d !=d'&&!(C0 xs).contains d'|_,_,_,_,_,_=>T
def AbG(p:PR):Bool:=match p.op,p.guard,p.dst with
 |.Aad _ _ _,W,Y _=>X|_,_,_=>T
theorem X9{p q:PR}(h:AaN p q=X):AbG p=X:=by grind[AaN,AbG]
def AaP(D:I2)(p q:PR):Bool:=X8 D p q||AaT D p q||AaU p q||Aba D p q||Abb D p q||(Sp D p q||AaV D p q)||Aa8 D p q||Aa9 D p q||(Aah D p q||Aah D q p||AaM D p q||Aai D p q||Aai D q p)||(Vp D p q||Abc D p q)||AaN p q
def okQ(p:PR):Bool:=match p.op,p.guard,p.dst with
 |.tkx _,W,Y _=>X|.Abe _ _ _ _,W,Y _=>X|_,_,_=>T
theorem eP{D:I2}{p q:PR}(h:AaP D p q=X):(((PR.wm D p=X\/Abk p=X)\/Wt p=X)\/Aa6 p=X)\/AbG p=X:=by
 simp [AaP]at h;rcases h with h|h
 rotate_left
 .exact .inr (X9 h)
 left;rcases h with((((((((h|h)|h)|h)|h)|h)|h)|h)|((((h|h)|h)|h)|h))|(h|h)
 rotate_right 7
 .grind[eQ]
 .rcases jF h with h|h
  .exact .inl (.inl (.inr h))
  .exact .inr h
 .rcases jI h with h|h
  .exact .inl (.inl (.inr h))
  .exact .inr h
 .grind[eR]
 .exact .inr (jG h)
 .grind[Vp]
 .exact .inr (by unfold Abc at h;grind[Aa6])
 all_goals refine .inl ?_
 .simp[X8]at h
  grind
 .unfold AaT at h
  grind
 .grind[jE]
 .unfold Aba at h
  grind
 .unfold Abb at h
  grind
 .grind[jD,jH]
 .unfold Aa8 at h
  grind
 .unfold Aa9 at h
  grind
def qa(ops:Array Oper):I2:=
 ops.toList.foldl (λacc o=>acc++[o.after.toList.foldl (λm e=>if Region.binds .any e then m|||(1<<<e.on)|||acc.getD e.on 0 else m) 0]) []
def okCa(p:PR):Bool:=match p.op,p.guard,p.dst with
 |.AaI _ _ _,W,Y _=>X|_,_,_=>T
variable{ε:AB}
theorem oJ{S:FuncId->Fq->As->Prop}{p:PR}{K:AB->Prop}(ho:okCa p=X)(h:p.wp S ε K):p.wp S ε λgk=>K gk/\∀c,gk.ek c=ε.ek c:=by
 unfold okCa at ho;split at ho
 .rename_i f args i d g j k;simp[PR.wp,g,j,k,AE.wp,AB.put]at h|-;split at h
  .rename_i u q a w;simp at a;subst a;split at h
   .rename_i cs z;refine⟨h.1,?_⟩;cases hv:Fg ε i args with
    |none=>rw[hv]at h;exact h.2.elim|some A=>
     rw [hv]at h;obtain⟨_,r,l,o⟩:=h;refine⟨r,l,λb=>⟨o b,λc=>?_⟩⟩;have:EV.x8 c r.aev=X:=by cases r<;>rfl
     rw [AB.c9,AB.c9,this];rfl
   .exact h.elim
  .exact h.elim
 .cases ho
def okCm(p:PR):Bool:=match p.op,p.dst with
 |.Aay _ _ _,Y _=>X|_,_=>T
def cZ(D:I2)(r:PR):Bool:=
 Nr r.op||Abk r||okQ r||Aa6 r||okCa r||okCm r||AbG r||(r.op.mov&&r.dst.isSome&&(!r.op.pq||r.guard.isNone)&&FL r.op.Aa1 D)
def Uo(P:Program)(N:Nat)(D:I2)(ops:Array Oper)(rs:List PR):Bool:=
 let n:=ops.size
 let M:=qa ops
 Mx P N ops ops.toList rs&&(A_ n).all (λi=>cZ D (OV rs i)) &&
 (A_ n).all (λi=>match ops[i]? with
  |some o=>o.after.toList.all λe=>!Region.binds .any e||decide (e.on<i)|none=>T) &&
 (A_ n).all (λi=>(A_ n).all λj=>!(M.getD i 0).testBit j||(match ops[i]? with
  |some o=>o.after.toList.any λe=>Region.binds .any e&&(e.on==j||(decide (e.on<i)&&(M.getD e.on 0).testBit j))|none=>T)) &&
 (A_ n).all (λi=>(A_ i).all λj=>(M.getD i 0).testBit j||AaP D (OV rs j) (OV rs i))
section
variable{P:Program}{F0:Nat->Nat->Prop}{w0:W0}{N:Nat}{p:Option (Nat×Value)}{ops:Array Oper}{K:AB->Prop}{D:I2}
variable{f:A6}{ε:AB}
theorem Eg.refl{op:AE}{d:Option Nat}(h:f.ok ε):Eg op f d ε ε:=
 ⟨λ_ _=>.inl rfl,λ_ _ _ _=>.inl rfl,λ_ _ _=>rfl,h,λ_ _ _ h=>h⟩
theorem MN(d:Nat)(e0:AB):∀(qs:I2)(ε:AB),AB.ek d (OL e0 qs ε)=AB.ek d ε
 |[],_=>rfl|q::qs,ε=>by
  rw [OL,AB.c9,MN d e0 qs ε]
  grind [MM,EV.x8,EV.pr]
theorem rg(d:Nat)(e:EV)(ε:AB)(g:GC)(h:d∉g.sl):GC.cell ((d,e)::ε) g=g.cell ε:=by
 cases g with
 |z c=>rfl|v x k n=>
  cases x with
  |s q=>
   grind [GC.sl,x?,GC.cell,AF.val,AF.ev,AB.bn]
  |c t=>rfl
 |w q=>
  grind [GC.sl,x?,GC.cell,AB.bn]
 |g q k n=>
  grind [GC.sl,x?,GC.cell,AB.bn]
theorem cF(d:Nat)(e:EV)(ε:AB):∀(gs:List GC),d∉gs.flatMap GC.sl->F7 ((d,e)::ε) gs=F7 ε gs
 |[],_=>rfl|g::gs,h=>by
  rw [y_,y!,not_or]at h;simp[F7,rg d e ε g h.1,cF d e ε gs h.2]
theorem tH{gs:List GC}{q:Nat}(h:q∈gs.filterMap GC.slot):q∈gs.flatMap GC.sl:=by
 rw [x_]at h;obtain⟨g,a,e⟩:=h;rw[x!];refine⟨g,a,?_⟩;cases g<;>simp[GC.slot]at e<;>simp[GC.sl,e]
variable{d:Nat}
theorem WX{S:FuncId->Fq->As->Prop}{p:PR}{K:AB->Prop}{gs:List GC}(c:p.op=.x9 gs)(g:p.guard=W)(j:p.dst=Y d)(h:p.wp S ε K):
  ∃cs,((gs.filterMap GC.src).Nodup/\d∉gs.filterMap GC.slot)/\F7 ε gs=Y cs/\K ((d,.oag cs)::OL ε (gs.filterMap GC.slot) ε):=by
 simp only[PR.wp,c,g,j,AE.wp,AB.put]at h;obtain⟨k,b⟩:=h;cases a:F7 ε gs with
 |none=>rw[a]at b;exact b.elim|some l=>rw[a]at b;exact⟨l,k,rfl,b⟩
theorem TB{S:FuncId->Fq->As->Prop}{p:PR}{K:AB->Prop}{gs:List GC}{cs:List AO}(b:p.op=.x9 gs)(c:p.guard=W)(g:p.dst=Y d)(j:(gs.filterMap GC.src).Nodup/\d∉gs.filterMap GC.slot)(a:F7 ε gs=Y cs)
  (h:K ((d,.oag cs)::OL ε (gs.filterMap GC.slot) ε)):p.wp S ε K:=by
 simp only[PR.wp,b,c,g,AE.wp,AB.put,a];exact⟨j,h⟩
variable{q:PR}{v:AF}
theorem UY{S:FuncId->Fq->As->Prop}{K:AB->Prop}{n x:Nat}(a:q.op=.st n (.s x) v)(l:q.guard=W)(hd:q.dst=W)(h:q.wp S ε K):
  ∃s off cs cs' o,(AF.s x).place ε=Y (s,off)/\ε.get s=.bx cs/\(∀g e,o=Y (g,e)->v=.s g/\(∃t,e=.tv t)/\g≠s)/\K (O3 s cs' o ε)/\
   ∀env2,(AF.s x).place env2=Y (s,off)->env2.get s=.bx cs->v.ev env2=v.ev ε->∀j:AB->Prop,j (O3 s cs' o env2)->q.wp S env2 j:=by
 unfold PR.wp at h;rw[l,a,hd]at h;simp[AE.wp]at h;split at h
 .rename_i s off z;split at h
  .rename_i cs A;split at h
   .rename_i t hv;cases v with
    |c t=>exact h.elim|s g=>
     simp only at h;simp[AF.ev]at hv;refine⟨s,off,cs,_,Y (g,.tv t),z,A,?_,h.2.2.2,λenv2 u w k j b=>?_⟩
     .intro s' B he;simp at he;obtain⟨rfl,rfl⟩:=he;exact⟨rfl,⟨t,rfl⟩,h.1⟩
     .simp[AF.ev]at k;unfold PR.wp;rw[l,a,hd];simp[AE.wp,u,w,AF.ev,k,hv];exact⟨h.1,h.2.1,h.2.2.1,b⟩
   next t hv=>refine⟨s,off,cs,_,W,z,A,V,h.2.2,λenv2 u w k j b=>?_⟩;unfold PR.wp;rw[l,a,hd];simp[AE.wp,u,w,k,hv];exact⟨h.1,h.2.1,b⟩
   .exact h.elim
  .exact h.elim
 .exact h.elim
theorem fo(a:Fq)(c:Nat):EV.x8 c (EV.ofs a)=X:=by
 unfold EV.ofs;split<;>rfl
variable{i:Nat}
theorem ZA{S:FuncId->Fq->As->Prop}{f:FuncId}{xs:List AF}{K:EV->AB->Prop}(h:(AE.Aad f xs i).wp S ε (Y d) K):
  ∃s cs b cs' a,(xs[i]?).bind (·.place ε)=Y (s,0)/\ε.get s=.bx cs/\ε.noX s W=X/\d≠s/\Fg ε i xs=Y b/\S f b (.bo cs cs' i a)/\((∀c∈cs',c.t.WF)/\TV.ns a->K (EV.ofs a) ((s,.bx cs')::ε)):=by
 simp only[AE.wp]at h;split at h
 .rename_i z s hd j;simp only[nm]at hd;subst hd;split at h
  .rename_i cs k;obtain⟨⟨l,o⟩,g⟩:=h;cases hv:Fg ε i xs with
   |none=>rw[hv]at g;exact g.elim|some b=>
    rw [hv]at g;obtain⟨cs',a,u,w⟩:=g;exact⟨s,cs,b,cs',a,j,k,l,o,rfl,u,w⟩
  .exact h.elim
 .exact h.elim
theorem Ws{S:FuncId->Fq->As->Prop}{p:PR}{K:AB->Prop}(ho:AbG p=X)(h:p.wp S ε K):p.wp S ε λgk=>K gk/\(∀c,gk.ek c=ε.ek c)/\∀a:AB->Prop,a gk->p.wp S ε a:=by
 unfold AbG at ho;split at ho
 next f xs i d u w z=>simp only[PR.wp,u,w,z,AB.put]at h|-;obtain⟨s,cs,G,cs',b,A,B,g,j,C,k,F⟩:=ZA h;simp only[AE.wp,A,B,C,Ai];refine⟨⟨g,j⟩,cs',b,k,λl=>⟨F l,λc=>by rw[AB.c9,AB.c9,fo];rfl,λa o=>⟨⟨g,j⟩,cs',b,k,λ_=>o⟩⟩⟩
 .cases ho
variable{e':AB}
theorem head{p:PR}{o:Oper}(ho:Ll P N ops o p=X){K:AB->Prop}(g:(((PR.wm D p=X\/Abk p=X)\/Wt p=X)\/Aa6 p=X)\/AbG p=X)(A:LU F0 w0 N e')(B:JD D e')(h:p.wp (AS P) e' K):
  ∃gk,K gk/\LU F0 w0 N gk/\JD D gk/\∀b:AB->Prop,b gk->p.wp (AS P) e' b:=by
 rcases g with(((g|g)|g)|g)|g
 rotate_right
 .obtain⟨gk,⟨l,M,O⟩,a⟩:=Ey A ho (Ws g h);exact⟨gk,l,a,λd hd=>by rw[M];exact B d hd,O⟩
 rotate_right
 .obtain⟨gk,⟨l,M,O⟩,a⟩:=Ey (K:=λgk=>K gk/\(∀c,gk.ek c=e'.ek c)/\∀b:AB->Prop,b gk->p.wp (AS P) e' b) A ho (by
   grind [cb])
  exact ⟨gk,l,a,λd hd=>by rw[M];exact B d hd,O⟩
 .simp[PR.wm,B?]at g;obtain⟨⟨⟨⟨δ,Z⟩,pg⟩,pb⟩,pD⟩:=g;obtain⟨dp,θ⟩:=C!.1 Z;have R:p.op.pq=X->p.guard=W:=λη=>by
   rcases pg with h|h
   .rw[η]at h;cases h
   .simpa using h
  obtain ⟨gk,⟨l,ep,fp,Q⟩,a⟩:=Ey A ho (P3 θ δ R h);exact⟨gk,l,a,Q.jd pb B,λb j=>Q.again e' (.refl Q.ok) (λ_ _=>rfl) _ (by rw[<-Q.gk];exact j)⟩
 .unfold Abk at g;split at g
  .rename_i gs d C F G;obtain⟨gk,l,a⟩:=Ey (K:=λgk=>K gk/\∃cs,((gs.filterMap GC.src).Nodup/\d∉gs.filterMap GC.slot)/\F7 e' gs=Y cs/\gk=(d,.oag cs)::OL e' (gs.filterMap GC.slot) e') A ho (by
    obtain ⟨ts,w,z,H⟩:=WX C F G h
    grind [TB])
   obtain ⟨l,ts,w,z,rfl⟩:=l;refine⟨_,l,a,λx κ=>?_,λb j=>TB C F G w z j⟩;rw[AB.c9,MN,B x κ];rfl
  .cases g
 .unfold Wt at g;split at g
  .rename_i n x v C F G;obtain⟨gk,⟨l,s,off,cs,cs',o',w,I,z,H,J⟩,a⟩:=Ey (K:=λgk=>K gk/\∃s off cs cs' o,(AF.s x).place e'=Y (s,off)/\e'.get s=.bx cs/\(∀L e,o=Y (L,e)->v=.s L/\(∃t,e=EV.tv t)/\L≠s)/\gk=O3 s cs' o e'/\
     ∀b:AB->Prop,b (O3 s cs' o e')->p.wp (AS P) e' b) A ho (by
    obtain ⟨s,off,cs,cs',o,w,I,z,H,J⟩:=UY C F G h;exact J e' w I rfl _ ⟨H,s,off,cs,cs',o,w,I,z,rfl,λb j=>J e' w I rfl b j⟩)
   subst H;refine⟨_,l,a,λd hd=>?_,J⟩;rw[GR _ _ _ _ _ (λL e he=>by
    obtain ⟨_,⟨t,rfl⟩,_⟩:=z L e he;rfl)]
   exact B d hd
  .rename_i x v k C F G;obtain⟨gk,⟨l,M,O⟩,a⟩:=Ey (K:=λgk=>K gk/\(∀c,gk.ek c=e'.ek c)/\∀b:AB->Prop,b gk->p.wp (AS P) e' b) A ho (by
    simp [PR.wp,C,F,G,AE.wp,AB.put]at h|-;split at h
    .rename_i q i c κ;split at h
     .rename_i n es u ζ hu;obtain⟨w,I,es',z,H,J,h7⟩:=h;refine⟨w,I,es',z,H,J,h7,λc=>(Pa (es':=es') ζ).2.2 c,λb j=>?_⟩
      grind
     .exact h.elim
    .exact h.elim)
   exact ⟨gk,l,a,λd hd=>by rw[M];exact B d hd,O⟩
  .cases g
variable{rs:List PR}
theorem wO{p q:PR}(a:AaU p q=X)(h:EM (AS P) K (p::q::rs) ε):EM (AS P) K (q::p::rs) ε:=by
 unfold AaU at a;split at a
 .rename_i gs J cs C k l o u w z;simp only[gN,bne_iff_ne,ne_eq,B?,y?,decide_eq_false_iff_not]at a;obtain⟨G,A⟩:=a;obtain⟨e',g,h⟩:=h;obtain⟨L,H,I,x,j,c⟩:=WX k l o h;simp[PR.wp,u,w,z,AE.wp,AB.put]at c;obtain⟨b,c⟩:=c;rw[j.2,AB.c9,MN]at b;simp[EV.x8,EV.pr]at b;refine⟨e',g,?_⟩;simp[PR.wp,u,w,z,AE.wp,AB.put];refine⟨b,_,.refl _,TB k l o H (by rw[cF _ _ _ _ A];exact I) (Gd c ?_)⟩;have F:C∉gs.filterMap GC.slot:=λB=>A (tH B);refine⟨λn=>?_,λd=>?_⟩
  .rw[AB.bn,j.1,AB.bn,AB.bn,KJ,KJ]
   grind [AB.bn]
  .rw[AB.c9,j.2,AB.c9,AB.c9,MN,MN,AB.c9]
   grind
 .cases a
variable{gk:AB}{m s:Nat}
theorem kD{S:FuncId->Fq->As->Prop}{K:AB->Prop}{cs cs':List AO}{o:Option (Nat×EV)}(a:(∃k,q.op=.bad m k)\/∃k,q.op=.fad (.s m) k)(g:q.guard=W)(hd:q.dst=Y d)(B:ε.get s=.bx cs)(ho:∀A e,o=Y (A,e)->(∃t,e=.tv t)/\A≠m)
  (he:∀n,gk.get n=(O3 s cs' o ε).get n)(h:q.wp S gk K):∃e,K ((d,e)::gk)/\∀j:AB->Prop,j ((d,e)::ε)->q.wp S ε j:=by
 have w:gk.get m=if s=m then .bx cs' else ε.get m:=by
  grind [Fc]
 have F:∀r c,gk.get r=.bx c->∃u,ε.get r=.bx u:=by
  grind [Fc]
 unfold PR.wp at h;rcases a with⟨k,a⟩|⟨k,a⟩
 .rw[g,a,hd]at h;simp[AE.wp,AB.put]at h;by_cases e:s=m
  .rw[w,Ne e]at h;refine⟨_,h,λj b=>?_⟩;unfold PR.wp;rw[g,a,hd];simp[AE.wp,<-e,B,AB.put];rw[<-e]at b;exact b
  .rw[w,QQ e]at h;split at h
   next c l=>refine⟨_,h,λj b=>?_⟩;unfold PR.wp;rw[g,a,hd];simp[AE.wp,l,AB.put];exact b
   next row l=>refine⟨_,h,λj b=>?_⟩;unfold PR.wp;rw[g,a,hd];simp[AE.wp,l,AB.put];exact b
   .exact h.elim
 .rw[g,a,hd]at h;simp[AE.wp,AB.put,AF.ev]at h;by_cases e:s=m
  .rw[w,Ne e]at h;exact h.elim
  .rw[w,QQ e]at h;split at h
   next row l=>refine⟨_,h,λj b=>?_⟩;unfold PR.wp;rw[g,a,hd];simp[AE.wp,AF.ev,l,AB.put];exact b
   .rename_i r off l;split at h
    next c C=>obtain⟨u,z⟩:=F r c C;refine⟨_,h,λj b=>?_⟩;unfold PR.wp;rw[g,a,hd];simp[AE.wp,AF.ev,l,z,AB.put];exact b
    .exact h.elim
   .exact h.elim
theorem wN{p q:PR}(F:JD D ε)(b:Sp D p q=X)(h:EM (AS P) K (p::q::rs) ε):EM (AS P) K (q::p::rs) ε:=by
 have key:∃n x v m d,p.op=.st n (.s x) v/\p.guard=W/\p.dst=W/\((∃k,q.op=.bad m k)\/∃k,q.op=.fad (.s m) k)/\q.guard=W/\q.dst=Y d/\d∈D/\d≠x/\d∉v.sl/\m∉v.sl:=by
  unfold Sp at b
  grind
 obtain ⟨n,x,v,m,d,H,I,J,L,M,O,Q,R,θ,κ⟩:=key;obtain⟨e',g,h⟩:=h;have l:=F.congr g.symm;obtain⟨s,off,cs,cs',o,j,C,η,⟨y,w,ζ⟩,δ⟩:=UY H I J h;have u:d≠s:=by
  intro e;subst e;simp[AF.place]at j;split at j
  next r A G=>simp at j;exact l.no (x:=x) (s:=d) (by rw[G,<-j.1];rfl) Q
  .grind
  .cases j
 have ho:∀a e,o=Y (a,e)->(∃t,e=EV.tv t)/\a≠m:=λa e he=>by
  grind [AF.sl]
 obtain ⟨e,Z,hq⟩:=kD (cs':=cs') (o:=o) (ε:=e') L M O C ho w.1 ζ;refine⟨e',g,hq _ ⟨_,.refl _,δ ((d,e)::e') ?_ (by rw[AB.bn,QQ u];exact C) ?_ _ (Gd Z ?_)⟩⟩
 .grind[AF.place,AB.bn]
 .cases v with
  |c t=>rfl|s a=>
   grind [AF.ev,AB.bn,AF.sl]
 .refine⟨λz=>?_,λz=>?_⟩
  .rw[AB.bn,w.1,Fc,Fc]
   grind [AB.bn,AF.sl]
  .have B:∀a e,o=Y (a,e)->e.x8 z=X:=λa e he=>by
    obtain ⟨_,⟨t,rfl⟩,_⟩:=η a e he;rfl
   rw [AB.c9,w.2,GR _ _ _ _ _ B,GR _ _ _ _ _ B,AB.c9]
variable{n:Nat}
theorem qK{e' h:AB}{c:Nat}{o:Option Nat}{es es':Fq}(a:e'.o3 c o=Y (n,es))(H:es'.length=es.length)(he:∀z,h.get z=AB.get (e'.t5 c o n es') z){y q:Nat}{i:Option Nat}{l:Fq}
  (J:h.get y=.la q i)(b:h.o3 q i=Y (m,l)):e'.get y=.la q i/\∃fs',e'.o3 q i=Y (m,fs')/\fs'.length=l.length:=by
 obtain ⟨⟨u,L,B⟩,ho,_⟩:=Pa (es':=es') a;have w:c≠y:=by
  grind
 refine ⟨by rw[<-J,he,ho _ w],?_⟩;by_cases I:c=q
 .subst I;cases o with
  |none=>
   have g:h.get c=.xo n es':=by rw[he];simp[AB.t5,AB.bn]
   cases i with
   |none=>
    simp [AB.o3,g]at b;obtain⟨rfl,rfl⟩:=b;exact⟨es,a,H.symm⟩
   |some k=>simp[AB.o3,g]at b
  |some G=>
   rcases B with⟨mm,Q,M,_⟩|⟨cs,k,O,C,F,rfl⟩
   .simp[AB.o3,M]at a
   .cases O;have g:h.get c=.bx (cs.set G ⟨X,.xl n es'⟩):=by rw[he,L]
    cases i with
    |none=>simp[AB.o3,g]at b|some k=>
     by_cases j:G=k
     .subst j;have A:G<cs.length:=(z?.1 C).1;simp[AB.o3,g,A',Ne A]at b;obtain⟨rfl,rfl⟩:=b;exact⟨es,a,H.symm⟩
     .refine⟨l,?_,rfl⟩;rw[<-b];simp[AB.o3,g,F,A',QQ j]
 .exact⟨l,by rw[<-b];exact AB.Aae (by rw[he,ho _ I]),rfl⟩
theorem wa{p q:PR}(hj:JD D ε)(a:AaV D p q=X)(h:EM (AS P) K (p::q::rs) ε):EM (AS P) K (q::p::rs) ε:=by
 unfold AaV at a;split at a
 .rename_i x v k y z m d e1 e2 e3 f1 f2 f3;simp[B?,decide_eq_false_iff_not,pE]at a;obtain⟨⟨dD,Z⟩,hdv⟩:=a;obtain⟨e',O,h⟩:=h;have η:=hj.congr O.symm;simp only[PR.wp,e1,e2,e3,AE.wp,AB.put]at h;split at h
  .rename_i κ i0 c R;split at h
   .rename_i n es u B hu;obtain⟨h1,h2,es',h3,h4,h5,gk,A,b⟩:=h;have H:d≠κ:=by
     rintro rfl;cases x with
     |c t=>cases R
     |s xs=>exact η.no (x:=xs) (s:=d) (by simp[AF.ev]at R;rw[R];rfl) dD
    simp [PR.wp,f1,f2,f3,AE.wp,AB.put,AF.tg]at b;have θ:=A.1;obtain⟨⟨w,hw,hww⟩,ho,_⟩:=Pa (es':=es') B;have ζ:w.val=W:=by rcases hww with⟨_,_,_,_,_,rfl⟩|⟨_,_,_,_,_,rfl⟩<;>rfl
    have δ:∀t,z.val gk=Y t->z.val e'=Y t:=by
     intro t F;cases z with
     |c t'=>exact F|s zz=>
      simp [AF.val,AF.ev]at F|-;by_cases l:κ=zz
      .subst l;rw[θ,hw,ζ]at F;cases F
      .rw[θ,ho _ l]at F;exact F
    have I:∃g i G j Q,gk.get y=.la g i/\gk.o3 g i=Y (m,G)/\z.val gk=Y (.int Q j)/\0<=j/\j<G.length/\EM (AS P) K rs ((d,.lp g i (j.toNat*m))::gk):=by
     cases J:gk.get y<;>rw[J]at b<;>simp[Ai]at b<;>try exact b.elim
     .cases l:z.val gk with
      |none=>rw[l]at b;exact b.elim|some t=>
       rw [l]at b;cases t<;>try exact b.elim
       have:=b.1.1;simp[AF.ev,J,EV.pr]at this
     .rename_i g i;cases C:gk.o3 g i with
      |none=>rw[C]at b;exact b.elim|some pp=>
       obtain ⟨m',G⟩:=pp;rw[C]at b;simp only at b;cases l:z.val gk with
       |none=>rw[l]at b;exact b.elim|some t=>
        rw [l]at b;cases t<;>try exact b.elim
        rename_i Q j;obtain⟨⟨_,rfl⟩,k1,k2,k3⟩:=b;exact⟨g,i,G,j,Q,rfl,C,rfl,k1,k2,k3⟩
    obtain ⟨g,i,G,j,Q,m1,m2,m3,m4,m5,m6⟩:=I;obtain⟨n1,fs',n2,n3⟩:=qK B h4 θ m1 m2;refine⟨e',O,?_⟩;simp only[PR.wp,f1,f2,f3,AE.wp,AB.put,AF.tg,n1,n2,Ai,δ _ m3,AF.ev,EV.pr];refine⟨⟨trivial,trivial⟩,m4,by rw[n3];exact m5,_,.refl _,?_⟩;have L:∀(o:AF),d∉o.sl->o.ev ((d,.lp g i (j.toNat*m))::e')=o.ev e':=by
     intro o ho;cases o with
     |c t=>rfl|s t=>
      simp only[AF.ev,AB.bn];rw[QQ];intro e;exact ho (by simp[AF.sl,e])
    simp only[PR.wp,e1,e2,e3,AE.wp,AB.put,L x Z,L v hdv,R,hu];have M:AB.o3 ((d,.lp g i (j.toNat*m))::e') κ i0=Y (n,es):=by rw[AB.x7 H];exact B
    rw [M];refine⟨h1,h2,es',h3,h4,h5,Gd m6 ?_⟩;refine Ni.symm (Ni.trans (aI (.refl _) H) ⟨λs=>?_,λs=>?_⟩)
    .simp[AB.bn,θ]
    .simp[AB.c9,A.2]
   .exact h.elim
  .exact h.elim
 .cases a
theorem bS{ε env2:AB}{b:Nat}{o:Option AF}(h:∀y∈o.toList,y.val env2=y.val ε):Hf env2 b o=Hf ε b o:=by
 cases o with
 |none=>rfl|some y=>simp[Hf];exact h y V
theorem wg{S:FuncId->Fq->As->Prop}{p:AE}{xs:List AF}{d:Option Nat}{K:EV->AB->Prop}(C:p.vops=Y xs)(h:p.wp S ε d K):
  ∃t,K (.tv t) ε/\(∀x∈xs,∃u,x.val ε=Y u)/\∀env2,(∀x∈xs,x.val env2=x.val ε)->∀o:EV->AB->Prop,o (.tv t) env2->p.wp S env2 d o:=by
 cases p<;>simp[AE.vops]at C<;>first|cases C|skip
 case bin k op x y=>
  simp [AE.wp]at h;split at h
  .rename_i a b g A;cases B:ME k op a b with
   |none=>rw[B]at h;exact h.elim|some t=>
    rw [B]at h;refine⟨t,h,λz c=>?_,λenv2 he o j=>?_⟩
    .simp at c;rcases c with rfl|rfl
     .exact⟨a,g⟩
     .exact⟨b,A⟩
    .simp[AE.wp,he x V,he y V,g,A,B];exact j
  .exact h.elim
 case fdv x k=>
  simp [AE.wp]at h;split at h
  .rename_i row g;refine⟨_,h,λz c=>?_,λenv2 he o j=>?_⟩
   .rw[x?]at c;subst c;exact⟨_,g⟩
   .simp[AE.wp,he x V,g];exact j
  .exact h.elim
 case ldv x k=>
  simp [AE.wp]at h;split at h
  .rename_i row g;refine⟨_,h.2,λz c=>?_,λenv2 he o j=>?_⟩
   .rw[x?]at c;subst c;exact⟨_,g⟩
   .simp[AE.wp,he x V,g];exact⟨h.1,j⟩
  .exact h.elim
 case len x=>
  simp [AE.wp]at h;split at h
  .rename_i n es g;refine⟨_,h,λz c=>?_,λenv2 he o j=>?_⟩
   .rw[x?.1 c];exact⟨_,g⟩
   .simp[AE.wp,he x V,g];exact j
  .exact h.elim
 case cvt k x=>
  simp [AE.wp]at h;split at h
  .rename_i J n g;refine⟨_,h,λz c=>?_,λenv2 he o j=>?_⟩
   .rw[x?.1 c];exact⟨_,g⟩
   .simp[AE.wp,he x V,g];exact j
  .exact h.elim
 case mm b x y=>
  simp [AE.wp]at h;split at h
  .rename_i k a J a' g A;refine⟨_,h.2,λz c=>?_,λenv2 he o j=>?_⟩
   .simp at c;rcases c with rfl|rfl
    .exact⟨_,g⟩
    .exact⟨_,A⟩
   .simp[AE.wp,he x V,he y V,g,A];exact⟨h.1,j⟩
  .exact h.elim
 case slc n x lo hi=>
  simp [AE.wp]at h;split at h
  .rename_i m es g;split at h
   .rename_i F l G r H I;refine⟨_,h.2.2,λz c=>?_,λenv2 he o j=>?_⟩
    .simp at c;rcases c with rfl|c|c
     .exact⟨_,g⟩
     .cases c;exact⟨_,H⟩
     .cases c;exact⟨_,I⟩
    .have F:Hf env2 0 lo=Hf ε 0 lo:=bS (λy w=>he y (by simp at w|-;exact .inr (.inl w)));have G:Hf env2 es.length hi=Hf ε es.length hi:=bS (λy w=>he y (by simp at w|-;exact .inr (.inr w)));simp[AE.wp,he x V,g,F,G,H,I];exact⟨h.1,h.2.1,j⟩
   .exact h.elim
  .exact h.elim
theorem wZ{p q:PR}(a:Aa8 D p q=X)(h:EM (AS P) K (p::q::rs) ε):EM (AS P) K (q::p::rs) ε:=by
 unfold Aa8 at a;split at a
 .rename_i xs d n x v η R θ ζ δ Z;simp[bne_iff_ne,B?,decide_eq_false_iff_not]at a;obtain⟨⟨⟨_,hdx⟩,I⟩,J⟩:=a;obtain⟨e',L,h⟩:=h;unfold PR.wp at h;rw[R,θ]at h;simp[AB.put]at h;obtain⟨t,⟨y,k,hw⟩,hs,M⟩:=wg η h;obtain⟨s,off,cs,cs',o,h1,O,Q,hK,h5⟩:=UY ζ δ Z hw;have gy:∀z,d≠z->y.get z=e'.get z:=λz A=>by rw[k.1,AB.bn,QQ A]
  have g:d≠s:=λe=>by
   rw [k.1,AB.bn,Ne e]at O;cases O
  have hp:(AF.s x).place e'=Y (s,off):=by
   grind [AF.place]
  have hb:e'.get s=.bx cs:=by rw[<-gy s g];exact O
  have hv:v.ev e'=v.ev y:=by
   cases v with
   |c t=>rfl|s w=>
    grind [AF.ev,AF.sl]
  have hq:∀l:AB->Prop,l (O3 s cs' o e')->q.wp (AS P) e' l:=λl B=>h5 e' hp hb hv l B;refine⟨e',L,hq _ ⟨_,.refl _,?_⟩⟩;unfold PR.wp;rw[R,θ];simp[AB.put];refine M _ (λz A=>?_) _ (Gd hK ?_)
  .cases z with
   |c t=>rfl|s m=>
    obtain ⟨u,hu⟩:=hs _ A;have C:¬s=m:=λe=>by
     grind [AF.val,AF.ev,EV.val]
    simp [AF.val,AF.ev,Fc,QQ C];cases o with
    |none=>rfl|some b=>
     have F:¬b.1=m:=λe=>Aw J (x:=m) (x!.2 ⟨_,A,c!⟩) (by rw[(Q b.1 b.2 rfl).1,e];simp[AF.sl]);simp[QQ F]
  .refine⟨λz=>?_,λz=>?_⟩
   .rw[AB.bn,Fc,Fc];by_cases G:s=z
    .subst G;rw[Ne rfl,QQ g,Ne rfl]
    .rw[QQ G,QQ G];cases o with
     |none=>
      simp only;rw[k.1,AB.bn]
     |some b=>
      have H:¬d=b.1:=λe=>I (by rw[(Q b.1 b.2 rfl).1,e];simp[AF.sl]);simp only;by_cases j:b.1=z
      .rw[Ne j,Ne j,QQ (λe=>H (e.trans j.symm))]
      .rw[QQ j,QQ j,k.1,AB.bn]
   .have κ:∀w e,o=Y (w,e)->e.x8 z=X:=λw e he=>by
     obtain ⟨_,⟨t,rfl⟩,_⟩:=Q w e he;rfl
    rw [AB.c9,GR _ _ _ _ _ κ,GR _ _ _ _ _ κ,k.2,AB.c9]
 .cases a
theorem wV{p q:PR}(hj:JD D ε)(a:Aa9 D p q=X)(h:EM (AS P) K (p::q::rs) ε):EM (AS P) K (q::p::rs) ε:=by
 unfold Aa9 at a;split at a
 .rename_i b m d n x v θ j κ Z f2 f3;simp[bne_iff_ne,B?,decide_eq_false_iff_not,pE]at a;obtain⟨⟨⟨⟨⟨⟨_,bD⟩,hbx⟩,hdx⟩,hdb⟩,Q⟩,η⟩:=a;obtain⟨e',I,h⟩:=h;have hj':=hj.congr I.symm;unfold PR.wp at h;rw[θ,j,κ]at h;simp[AB.put,AE.wp]at h;split at h
  case h_2=>exact h.elim
  rename_i bs hbs;obtain⟨O,y,A,hw⟩:=h;obtain⟨s,off,cs,cs',o,h1,g,C,L,h5⟩:=UY Z f2 f3 hw;have gy:∀z,d≠z->y.get z=e'.get z:=λz ζ=>by rw[A.1,AB.bn,QQ ζ]
  have u:d≠s:=λe=>by
   rw [A.1,AB.bn,Ne e]at g;cases g
  have J:(AF.s x).place e'=Y (s,off):=by
   grind [AF.place]
  have hsb:¬s=b:=by
   intro e;subst e;simp[AF.place]at J;split at J
   next r off' hx=>simp at J;exact hj'.no (x:=x) (s:=s) (by rw[hx,<-J.1];rfl) bD
   .grind
   .cases J
  have H:e'.get s=.bx cs:=by rw[<-gy s u];exact g
  have hv:v.ev e'=v.ev y:=by
   cases v with
   |c t=>rfl|s G=>
    grind [AF.ev,AF.sl]
  have hq:∀F:AB->Prop,F (O3 s cs' o e')->q.wp (AS P) e' F:=λF δ=>h5 e' J H hv F δ;refine⟨e',I,hq _ ⟨_,.refl _,?_⟩⟩;have hg:(O3 s cs' o e').get b=.bx bs:=by
   grind [Fc,AF.sl]
  unfold PR.wp;rw[θ,j,κ];simp[AB.put,AE.wp,hg];refine⟨O,Gd L ?_⟩;refine⟨λz=>?_,λz=>?_⟩
  .rw[AB.bn,Fc,Fc];by_cases B:s=z
   .subst B;rw[Ne rfl,QQ u,Ne rfl]
   .rw[QQ B,QQ B];cases o with
    |none=>
     simp only;rw[A.1,AB.bn]
    |some l=>
     have M:¬d=l.1:=λe=>Q r?;simp only;by_cases w:l.1=z
     .rw[Ne w,Ne w,QQ (λe=>M (e.trans w.symm))]
     .rw[QQ w,QQ w,A.1,AB.bn]
  .have O:∀G e,o=Y (G,e)->e.x8 z=X:=λG e he=>by
    obtain ⟨_,⟨t,rfl⟩,_⟩:=C G e he;rfl
   rw [AB.c9,GR _ _ _ _ _ O,GR _ _ _ _ _ O,A.2,AB.c9]
 .rename_i b k d n x v θ j κ Z f2 f3;simp[bne_iff_ne,B?,decide_eq_false_iff_not,pE]at a;obtain⟨⟨⟨_,hdx⟩,Q⟩,η⟩:=a;obtain⟨e',I,h⟩:=h;unfold PR.wp at h;rw[θ,j,κ]at h;obtain⟨e0,hn0,R,y,A,hw⟩:∃e0,(∀c,e0≠.bx c)/\(∀j:AB,j.get b=e'.get b\/(∃c c',e'.get b=.bx c/\j.get b=.bx c')->∀F:EV->AB->Prop,F e0 j->(AE.bad b k).wp (AS P) j (Y d) F)/\EM (AS P) K (q::rs) ((d,e0)::e'):=by
   simp only[AB.put,AE.wp]at h;split at h
   .rename_i H;refine⟨_,V,λj g F L=>?_,h⟩;obtain⟨c',C⟩:∃c',j.get b=.bx c':=by
     rcases g with g|⟨_,c',_,g⟩
     .exact⟨_,g.trans H⟩
     .exact⟨c',g⟩
    simp only[AE.wp,C];exact L
   .rename_i H;refine⟨_,V,λj g F L=>?_,h⟩;have C:j.get b=e'.get b:=g.resolve_right λ⟨c,c',h4,_⟩=>by rw[H]at h4;cases h4
    simp only[AE.wp,C,H];exact L
   .exact h.elim
  obtain ⟨s,off,cs,cs',o,h1,g,C,L,h5⟩:=UY Z f2 f3 hw;have gy:∀z,d≠z->y.get z=e'.get z:=λz ζ=>by rw[A.1,AB.bn,QQ ζ]
  have u:d≠s:=λe=>by
   rw [A.1,AB.bn,Ne e]at g;exact hn0 _ g
  have J:(AF.s x).place e'=Y (s,off):=by
   grind [AF.place]
  have H:e'.get s=.bx cs:=by rw[<-gy s u];exact g
  have hv:v.ev e'=v.ev y:=by
   cases v with
   |c t=>rfl|s G=>
    grind [AF.ev,AF.sl]
  refine ⟨e',I,h5 e' J H hv _ ⟨_,.refl _,?_⟩⟩;unfold PR.wp;rw[θ,j,κ];refine R _ ?_ _ (Gd L ?_)
  .rw[Fc];by_cases B:s=b
   .subst B;exact .inr ⟨cs,cs',H,by rw[Ne rfl]⟩
   .rw[QQ B];cases o with
    |none=>exact .inl rfl|some l=>
     have:¬l.1=b:=λe=>η r?;simp only;rw[QQ this];exact .inl rfl
  refine ⟨λz=>?_,λz=>?_⟩
  .simp only[AB.put];rw[AB.bn,Fc,Fc];by_cases B:s=z
   .subst B;rw[Ne rfl,QQ u,Ne rfl]
   .rw[QQ B,QQ B];cases o with
    |none=>
     simp only;rw[A.1,AB.bn]
    |some l=>
     have M:¬d=l.1:=λe=>Q r?;simp only;by_cases w:l.1=z
     .rw[Ne w,Ne w,QQ (λe=>M (e.trans w.symm))]
     .rw[QQ w,QQ w,A.1,AB.bn]
  .have O:∀G e,o=Y (G,e)->e.x8 z=X:=λG e he=>by
    obtain ⟨_,⟨t,rfl⟩,_⟩:=C G e he;rfl
   simp only[AB.put];rw[AB.c9,GR _ _ _ _ _ O,GR _ _ _ _ _ O,A.2,AB.c9]
 .cases a
variable{e:EV}
theorem aG:∀{xs:List AF},d∉C0 xs->Go.Sf.vals ((d,e)::ε) xs=Go.Sf.vals ε xs
 |[],_=>rfl|x::xs,h=>by
  simp only[C0,y!,not_or]at h;have a:x.val ((d,e)::ε)=x.val ε:=by
   cases x with
   |c t=>rfl|s n=>simp only[AF.val,AF.ev,AB.bn];rw[QQ (λhh=>h.1 (by simp[AF.sl,hh]))]
  simp only[Go.Sf.vals,a,aG h.2]
variable{x:AF}
theorem oM{xs:List AF}(h:xs[i]?=Y x)(a:m∈x.sl):m∈C0 xs:=by
 induction xs generalizing i with
 |nil=>simp at h|cons y c b=>
  rw [C0,y!];cases i with
  |zero=>simp at h;subst h;exact .inl a|succ i=>exact .inr (b c_)
theorem XY:∀{i:Nat}{xs:List AF},d∉C0 xs->Fg ((d,e)::ε) i xs=Fg ε i xs
 |_,[],_=>by simp[Fg]|0,x::xs,h=>by
  simp only[C0,y!,not_or]at h;have:Go.Sf.vals ((d,e)::ε) xs=Go.Sf.vals ε xs:=aG h.2;simp only[Fg,this]
 |i+1,x::xs,h=>by
  simp only[C0,y!,not_or]at h;have a:x.val ((d,e)::ε)=x.val ε:=by
   cases x with
   |c t=>rfl|s n=>simp only[AF.val,AF.ev,AB.bn];rw[QQ (λhh=>h.1 (by simp[AF.sl,hh]))]
  simp only[Fg,a,XY h.2]
theorem wR(Z:LU F0 w0 N ε){op:Oper}{p q:PR}(hp:Ll P N ops op p=X)(a:AaN p q=X)(h:EM (AS P) K (p::q::rs) ε):EM (AS P) K (q::p::rs) ε:=by
 have I:=X9 a;unfold AaN at a;split at a
 .rename_i f xs i d cells l Q R θ F G H;simp only[gN,bne_iff_ne,ne_eq,B?,y?,decide_eq_false_iff_not]at a;obtain⟨n1,κ⟩:=a;obtain⟨e',z,h⟩:=h;have J:=Z.congr z.symm;obtain⟨gk,⟨⟨e1,A,η⟩,k1,_⟩,_⟩:=Ey J hp (Ws I h);simp only[PR.wp,F,G,H,AB.put,AE.wp]at η;have u:e'.ek l=X:=by rw[<-k1,<-A.2];exact η.1
  simp only[PR.wp,Q,R,θ,AB.put]at h;obtain⟨s,cs,ts,cs',us,h1,h2,ζ,h4,h5,h6,h7⟩:=ZA h;obtain⟨x,δ,g⟩:=Option.bind_eq_some_iff.1 h1;have w:∀m∈x.sl,m≠l:=λm hm hh=>κ (hh▸oM δ hm);have L:s≠l:=by
   cases x with
   |c t=>cases g
   |s m=>
    simp only[AF.place]at g;split at g
    next b o he=>simp only[nm,Prod.mk.injEq]at g;exact λhh=>AB.po l e' u m (by rw[he,g.1,hh];rfl)
    .simp only[nm,Prod.mk.injEq]at g;exact λhh=>w m c! (g.1.trans hh)
    .cases g
  have M:(xs[i]?).bind (·.place ((l,EV.bx cells)::e'))=Y (s,0):=by
   rw [δ,Option.bind_some];cases x with
   |c t=>cases g
   |s m=>
    simp only[AF.place]at g|-;rw[AB.bn,QQ (λhh=>w m c! hh.symm)];exact g
  have O:AB.noX s W ((l,EV.bx cells)::e')=X:=by
   rw [AB.AaO]at ζ|-;intro k;rw[AB.bn];split
   .rfl
   .exact ζ k
  refine ⟨e',z,?_⟩;simp only[PR.wp,F,G,H,AB.put,AE.wp];refine⟨u,_,.refl _,?_⟩;simp only[PR.wp,Q,R,θ,AB.put,AE.wp,M,XY κ,h5,Ai];rw[AB.bn,QQ (λhh=>L hh.symm),h2];refine⟨⟨O,h4⟩,cs',us,h6,λC=>?_⟩;obtain⟨e2,j,B⟩:=h7 C;simp only[PR.wp,F,G,H,AB.put,AE.wp]at B;refine Gd B.2 ⟨λk=>?_,λc=>?_⟩
  .simp only[AB.bn,j.1]
   grind
  .simp only[AB.c9,j.2,fo,EV.x8,EV.pr];rfl
 .cases a
theorem kI{oq:Oper}(w:Ll P N ops oq q=X){a:List PR}:∀(pre:List PR),(∀p∈pre,AaP D p q=X/\∃o,Ll P N ops o p=X)->∀{ε:AB},LU F0 w0 N ε->JD D ε->EM (AS P) K (pre++q::a) ε->EM (AS P) K (q::(pre++a)) ε
 |[],_,ε,_,_,h=>h|p::pre,c,ε,C,F,h=>by
  obtain ⟨b,o,ho⟩:=c p V;obtain⟨e',g,h⟩:=h;obtain⟨gk,B,k,l,j⟩:=head ho (eP b) (C.congr g.symm) (F.congr g.symm) h;have A:=kI w pre (λp z=>c p (by simp[z])) k l B;have u:EM (AS P) K (p::q::(pre++a)) ε:=⟨e',g,j _ A⟩;simp[AaP]at b
  grind [swap,tJ,wO,wY,wb,wN,wa,wZ,wV,wU,wT,wc,wX,wW,wP,wQ,wR]
theorem yQ{S:FuncId->Fq->As->Prop}{d:Option Nat}{K:EV->AB->Prop}(h:(AE.st n x v).wp S ε d K):(AE.st n x v).wp S ε d λe env'=>K e env'/\e=.undef/\∀c,env'.ek c=ε.ek c:=by
 simp [AE.wp]at h|-;split at h
 .rename_i s off a;split at h
  .rename_i cs b;split at h
   .grind[AB.c9,EV.x8,EV.pr]
   .grind[AB.c9,EV.x8,EV.pr]
   .exact h.elim
  .exact h.elim
 .exact h.elim
theorem uj{S:FuncId->Fq->As->Prop}{d:Option Nat}{K:EV->AB->Prop}(h:(AE.stb n s v).wp S ε d K):(AE.stb n s v).wp S ε d λe env'=>K e env'/\e=.undef/\∀c,env'.ek c=ε.ek c:=by
 simp [AE.wp]at h|-;split at h
 .rename_i cs a;split at h
  .grind[AB.c9,EV.x8,EV.pr]
  .grind[AB.c9,EV.x8,EV.pr]
  .exact h.elim
 .exact h.elim
theorem X4(ε:AB)(q:Nat)(i:Option Nat)(n:Nat)(es:Fq)(c:Nat):AB.ek c (ε.t5 q i n es)=AB.ek c ε:=by
 cases i with
 |none=>simp[AB.t5,AB.c9,EV.x8,EV.pr]|some k=>
  grind [AB.t5,AB.c9,EV.x8,EV.pr]
theorem ug{S:FuncId->Fq->As->Prop}{q:Nat}{d:Option Nat}{K:EV->AB->Prop}(h:(AE.cpt x q).wp S ε d K):(AE.cpt x q).wp S ε d λe env'=>K e env'/\e=.undef/\∀c,env'.ek c=ε.ek c:=by
 simp [AE.wp]at h|-;split at h
 .grind[AB.c9,EV.x8,EV.pr]
 .grind[AB.c9,EV.x8,EV.pr]
 .exact h.elim
theorem um{S:FuncId->Fq->As->Prop}{k:Nat}{d:Option Nat}{K:EV->AB->Prop}(h:(AE.xst x v k).wp S ε d K):(AE.xst x v k).wp S ε d λe env'=>K e env'/\e=.undef/\∀c,env'.ek c=ε.ek c:=by
 simp [AE.wp]at h|-;split at h
 .grind[X4]
 .exact h.elim
theorem i7(ε:AB)(q i:Nat)(es:Fq)(c:Nat):AB.ek c (ε.AbM q i es)=AB.ek c ε:=by grind[AB.AbM,AB.c9,EV.x8,EV.pr]
theorem ui{S:FuncId->Fq->As->Prop}{d:Option Nat}{K:EV->AB->Prop}(h:(AE.nst x v).wp S ε d K):(AE.nst x v).wp S ε d λe env'=>K e env'/\e=.undef/\∀c,env'.ek c=ε.ek c:=by
 simp [AE.wp]at h|-
 grind [i7]
theorem uk{S:FuncId->Fq->As->Prop}{a:List (Option AO)}{d:Option Nat}{K:EV->AB->Prop}(h:(AE.stq n a x v).wp S ε d K):(AE.stq n a x v).wp S ε d λe env'=>K e env'/\e=.undef/\∀c,env'.ek c=ε.ek c:=by
 simp [AE.wp]at h|-;split at h
 .rename_i s off t g hv;split at h
  .rename_i cs j;cases b:Eh a t.cells with
   |none=>rw[b]at h;exact h.elim|some ds=>
    grind [AB.c9,EV.x8,EV.pr]
  .exact h.elim
 .exact h.elim
theorem uh{S:FuncId->Fq->As->Prop}{m x v:AF}{d:Option Nat}{K:EV->AB->Prop}(h:(AE.mup s m x v).wp S ε d K):(AE.mup s m x v).wp S ε d λe env'=>K e env'/\e=.undef/\∀c,env'.ek c=ε.ek c:=by
 simp [AE.wp]at h|-;split at h
 .rename_i b a g t j k l;split at h
  .grind[AB.c9,EV.x8,EV.pr]
  .exact h.elim
 .exact h.elim
theorem ul{S:FuncId->Fq->As->Prop}{n s q:Nat}{d:Option Nat}{K:EV->AB->Prop}(h:(AE.stx n s q).wp S ε d K):(AE.stx n s q).wp S ε d λe env'=>K e env'/\e=.undef/\∀c,env'.ek c=ε.ek c:=by
 simp [AE.wp]at h|-
 grind [AB.c9,EV.x8,EV.pr]
theorem oE{S:FuncId->Fq->As->Prop}{f:FuncId}{a:List AF}{d:Option Nat}{K:EV->AB->Prop}(h:(AE.Aay f x a).wp S ε d K):(AE.Aay f x a).wp S ε d λe env'=>K e env'/\e.pr=W/\∀c,env'.ek c=ε.ek c:=by
 simp only[AE.wp]at h|-;cases b:x.tg ε with
 |none=>rw[b]at h;exact h.elim|some p=>
  cases hv:vals ε a with
  |none=>rw[b,hv]at h;exact h.2.elim|some z=>
   rw [b,hv]at h;obtain⟨k,zs,g,l,o,u,w⟩:=h;refine⟨k,zs,g,l,o,u,λj=>⟨w j,?_,λc=>X4 _ _ _ _ _ c⟩⟩;unfold EV.ofs;split<;>rfl
variable{r:PR}
theorem rq{S:FuncId->Fq->As->Prop}{K:AB->Prop}(O:cZ D r=X)(hd:Nr r.op=X->r.dst=W)(a:JD D ε)(h:r.wp S ε K):r.wp S ε λenv'=>K env'/\JD D env':=by
 simp [cZ,B?]at O;rcases O with((((((F|L)|l)|Z)|hca)|M)|hcb)|⟨⟨⟨hm,k⟩,Q⟩,w⟩
 rotate_right 2
 .exact PR.gt _ _ (λenv' he=>⟨he.1,λx u=>by rw[he.2.1];exact a x u⟩) r (Ws hcb h)
 rotate_right
 .unfold okCm at M;split at M
  .rename_i f x ys d A B;have put:∀e:EV,e.pr=W->∀env':AB,(∀c,env'.ek c=ε.ek c)->JD D (env'.put r.dst e):=λe he env' κ c hc=>by
    rw [B];show AB.ek c ((d,e)::env')=X;rw[AB.c9,κ,a c hc];simp[EV.x8,he]
   have C:(r.op.wp S ε r.dst λe env'=>K (env'.put r.dst e))->r.op.wp S ε r.dst λe env'=>K (env'.put r.dst e)/\JD D (env'.put r.dst e):=λo=>by
    rw [A]at o|-;exact AE.gt S ε _ (λe env' he=>⟨he.1,put e he.2.1 env' he.2.2⟩) _ (oE o)
   unfold PR.wp at h|-;split
   next Q=>rw[Q]at h;exact C h
   .rename_i g b Q;rw[Q]at h;simp only at h;split
    next q l=>rw[l]at h;exact⟨λw=>C (h.1 w),λw=>⟨h.2 w,put .sk rfl ε λ_=>rfl⟩⟩
    next G=>rw[G]at h;exact⟨h,put .sk rfl ε λ_=>rfl⟩
    .rename_i H I;split at h
     next q l=>exact absurd l (H q)
     next l=>exact absurd l I
     .exact h.elim
  .cases M
 rotate_right
 .exact PR.gt _ _ (λenv' he=>⟨he.1,λx u=>by rw[he.2];exact a x u⟩) r (oJ hca h)
 rotate_left 4
 .obtain⟨gk,k1,k2,k3⟩:=cb Z h;exact k3 _ ⟨k1,λx u=>by rw[k2];exact a x u⟩
 rotate_left 1
 .have k:=hd F;have C:(r.op.wp S ε r.dst λe env'=>K (env'.put r.dst e))->r.op.wp S ε r.dst λe env'=>K (env'.put r.dst e)/\JD D (env'.put r.dst e):=by
   intro o;rw[k]at o|-;generalize r.op=p at F o|-;cases p<;>simp[Nr]at F<;>first|cases F|skip
   .refine AE.gt S ε W (λe env' he=>⟨he.1,λd hd=>?_⟩) _ (yQ o);simp[AB.put];rw[he.2.2];exact a d hd
   .refine AE.gt S ε W (λe env' he=>⟨he.1,λd hd=>?_⟩) _ (uj o);simp[AB.put];rw[he.2.2];exact a d hd
   .refine AE.gt S ε W (λe env' he=>⟨he.1,λd hd=>?_⟩) _ (um o);simp[AB.put];rw[he.2.2];exact a d hd
   .refine AE.gt S ε W (λe env' he=>⟨he.1,λd hd=>?_⟩) _ (ul o);simp[AB.put];rw[he.2.2];exact a d hd
   .refine AE.gt S ε W (λe env' he=>⟨he.1,λd hd=>?_⟩) _ (ug o);simp[AB.put];rw[he.2.2];exact a d hd
   .refine AE.gt S ε W (λe env' he=>⟨he.1,λd hd=>?_⟩) _ (ui o);simp[AB.put];rw[he.2.2];exact a d hd
   .refine AE.gt S ε W (λe env' he=>⟨he.1,λd hd=>?_⟩) _ (uk o);simp[AB.put];rw[he.2.2];exact a d hd
   .refine AE.gt S ε W (λe env' he=>⟨he.1,λd hd=>?_⟩) _ (uh o);simp[AB.put];rw[he.2.2];exact a d hd
  unfold PR.wp at h|-;split
  .grind
  .rename_i g b hr;rw[hr]at h;simp only at h;split
   next q l=>rw[l]at h;exact⟨λw=>C (h.1 w),λw=>⟨h.2 w,by rw[k];exact a⟩⟩
   next G=>rw[G]at h;exact⟨h,by rw[k];exact a⟩
   .rename_i H I;split at h
    next q l=>exact absurd l (H q)
    next l=>exact absurd l I
    .exact h.elim
 .unfold Abk at L;split at L
  next gs d A B J=>obtain⟨ts,θ,ζ,δ⟩:=WX A B J h;refine TB A B J θ ζ ⟨δ,λx u=>?_⟩;rw[AB.c9,MN,a x u];rfl
  .cases L
 .unfold okQ at l;split at l
  next s d A B J=>obtain⟨n,es,θ,h2,ζ,δ⟩:=gv A B J h;refine gw A B J θ h2 ζ ⟨δ,λx u=>?_⟩;have:=a x u;simp[AB.c9,EV.x8,EV.pr,this]
  .rename_i n s z x d A B J;simp[PR.wp,A,B,J,AE.wp,AB.put]at h|-;split at h
   next d' m es kk j R hs u=>simp at R;subst R;refine⟨h.1,h.2.1,h.2.2.1,h.2.2.2,λy hy=>?_⟩;have:=a y hy;simp[AB.c9,EV.x8,EV.pr,this]
   .exact h.elim
  .cases l
 .obtain⟨d,hd⟩:=C!.1 k;have η:r.op.pq=X->r.guard=W:=λκ=>by
   rcases Q with h|h
   .rw[κ]at h;cases h
   .simpa using h
  refine PR.gt S ε (λenv' he=>?_) r (P3 hd hm η h);obtain⟨θ,e,f,hF⟩:=he;exact⟨θ,hF.jd w a⟩
theorem nt{S:FuncId->Fq->As->Prop}{a:Act}{w:World}:∀{ε:AB},TT rs=X->EM S K rs ε->Bt F0 w0 ε a w->∃env',K env'/\Bt F0 w0 env' a w:=by
 induction rs with
 |nil=>intro ε _ h b;obtain⟨e,g,j⟩:=h;exact⟨e,j,b.congr λn=>(g.1 n).symm⟩
 |cons r rs A=>
  intro ε c h b;simp[TT]at c;obtain⟨g,j⟩:=c;obtain⟨e',k,h⟩:=h;have b:=b.congr (λn=>(k.1 n).symm);split at g
  .rename_i s l o u;simp[PR.wp,l,o,u,AE.wp]at h;split at h
   next cs z=>obtain⟨G,b⟩:=b;exact A j h (b.frz z)
   .exact h.elim
  .cases g
theorem TU:∀(os:List Oper)(rs:List PR),Mx P N ops os rs=X->(∀i o,os[i]?=Y o->Ll P N ops o (OV rs i)=X)/\TT (rs.drop os.length)=X/\rs=(A_ os.length).map (OV rs)++rs.drop os.length
 |[],rs,h=>⟨λi o h=>by simp at h,h,V⟩|o::os,[],h=>by simp[Mx]at h|o::os,r::rs,h=>by
  simp [Mx]at h;obtain⟨b,c,g⟩:=TU os rs h.2;refine⟨λi a hi=>?_,by simpa using c,?_⟩
  .cases i with
   |zero=>simp[List.getElem?_cons_zero]at hi;subst hi;exact h.1|succ i=>simp[List.getElem?_cons_succ]at hi;exact b i a hi
  .rw[a5,List.range_succ_eq_map,w!,List.map_map,w?,List.drop_succ_cons];congr 1
theorem kN{Q:Exit->Act->World->Prop}(hok:Uo P N D ops rs=X)(hpd:∀i v,p=Y (i,v)->∀r∈rs,r.dst≠Y i)(hQ:∀ε a w,K ε->LT N p a->Bt F0 w0 ε a w->Q .normal a w):
  ∀(fuel:Nat)(rem:I2)(b:Array Bool)(ε:AB)(a:Act)(w:World),rem.length=fuel->rem.Pairwise (·<·)->(∀j,j∈rem↔j<ops.size/\b.getD j X=T)->b.size=ops.size ->
   (∀k o,ops[k]?=Y o->b.getD k T=X->∀e∈o.after,Region.binds .any e=X->b.getD e.on T=X) ->
   LT N p a->Bt F0 w0 ε a w->JD D ε->EM (AS P) K (rem.map (OV rs)++rs.drop ops.size) ε->wpAny P .any ops Q fuel b a w:=by
 simp only[Uo,gN,z_,A!]at hok;obtain⟨⟨⟨⟨hl,hs⟩,he⟩,hM⟩,hP⟩:=hok;obtain⟨H,hl2,hl3⟩:=TU ops.toList rs hl;simp[Array.getElem?_toList]at H hl2 hl3;intro fuel
 induction fuel with
 |zero=>
  intro rem b ε a w z κ c hsz η hN hI θ h;have:rem=[]:=List.eq_nil_of_length_eq_zero z;subst this;refine⟨?_,?_⟩
  .refine List.eq_nil_iff_forall_not_mem.2 λj J=>?_;rw[mem_ready]at J;obtain⟨I,o,ho,_⟩:=J;have:=(c j).2 ⟨(D_.1 ho).1,I⟩;cases this
  .obtain⟨env',I,u⟩:=nt hl2 h hI;exact hQ env' a w I hN u
 |succ fuel ih=>
  intro rem b ε a w z κ c hsz η hN hI θ h;refine⟨λhnil=>?_,λi hi=>?_⟩
  ·
   exfalso;cases rem with
   |nil=>simp at z|cons i rem=>
    have I:=(c i).1 V;have l:i∈Region.ready .any ops b:=by
     rw [mem_ready];have ho:ops[i]?=Y ops[i]:=D' I.1;refine⟨I.2,_,ho,λe B M=>?_⟩;have:=he i I.1;rw[ho]at this;simp only[z_,B!,B?,pE]at this;have hlt:=(this e v6).resolve_left (by simp[M]);cases G:b.getD e.on T with
     |true=>rfl|false=>
      have ζ:e.on∈i::rem:=by
       refine (c _).2 ⟨U,?_⟩;have:e.on<b.size:=U
       simp [D!,D' this]at G|-;exact G
      rcases A?.1 ζ with u|u
      .omega
      .have:=(B_.1 κ).1 _ u;omega
    rw [hnil]at l;cases l
  .have hi':=hi;rw[mem_ready]at hi';obtain⟨hi1,o,ho,hi2⟩:=hi';have l:i<ops.size:=(D_.1 ho).1;have hir:i∈rem:=(c i).2 ⟨l,hi1⟩;obtain⟨pre,A,rfl⟩:=List.append_of_mem hir;have g:=B'.1 κ;have O:∀j∈pre,j<i:=λj θ=>g.2.2 j θ i V;have Z:∀j∈A,i<j:=λj θ=>(B_.1 g.2.1).1 j θ;have L:∀(k:Nat),k<ops.size->(∀o,ops[k]?=Y o->∀e∈o.after,Region.binds .any e=X->b.getD e.on T=X)->∀j,j<ops.size->((qa ops).getD k 0).testBit j=X->b.getD j T=X:=by
    intro k
    induction k using Nat.strongRecOn with
    |_ k ihk=>
     intro hk hdir j F M;have:=hM k hk j F;rw[M]at this;simp only[C',Bool.false_or]at this;split at this
     .rename_i ok hok';simp only[List.any_eq_true,gN,B!,beq_iff_eq,pE]at this;obtain⟨e,B,hbe,h3⟩:=this;have G:=hdir ok hok' e v6 hbe;rcases h3 with h3|⟨h3,h4⟩
      .rw[<-h3];exact G
      .exact ihk e.on h3 U (λR C e' he' hb'=>η e.on R C G e' he' hb') j F h4
     .cases this
   have hwp:EM (AS P) K (OV rs i::(pre.map (OV rs)++(A.map (OV rs)++rs.drop ops.size))) ε:=by
    refine kI (ops:=ops) (F0:=F0) (w0:=w0) (N:=N) (oq:=o) (H i o ho) (pre.map (OV rs)) (λp hp=>?_) ⟨a,w,hN.size,hI⟩ θ c_;obtain⟨j,hj1,rfl⟩:=List.mem_map.1 hp;have hlt:=O j hj1;have F:j<ops.size:=U
    refine ⟨?_,ops[j],H j _ (D' F)⟩;have:=hP i l j hlt;rw[B!]at this;refine this.resolve_left λM=>?_;have I:=L i l (λR C=>by rw[ho]at C;simp at C;subst C;exact hi2) j F M;have u:=((c j).1 (by simp[hj1])).2;have:j<b.size:=U
    simp [D!,D' this]at I u;rw[I]at u;cases u
   obtain ⟨e',heq,hw⟩:=hwp;have hI':=hI.congr (λn=>(heq.1 n).symm);have J:=θ.congr heq.symm;have hstd:Nr (OV rs i).op=X->(OV rs i).dst=W:=by
    intro hst;have:=H i o ho;simp[Ll]at this;have u:=this.2;split at u
    .simp only[hst,C',Bool.and_false,Bool.false_and]at u;cases u
    .assumption
    .cases u
   have hw':=rq (hs i l) hstd J hw;have hmem':∀j,j∈pre++A↔j<ops.size/\(b.setIfInBounds i X).getD j X=T:=by
    intro j;by_cases hij:j=i
    .subst hij;constructor
     .intro ζ;rcases y!.1 ζ with ζ|ζ
      .have:=O _ ζ;omega
      .have:=Z _ ζ;omega
     .rintro⟨_,u⟩;have:j<b.size:=U
      simp [this]at u
    .rw[getD_set_ne X (λe=>hij e.symm),<-c j];simp[hij]
   have hcl':∀k R,ops[k]?=Y R->(b.setIfInBounds i X).getD k T=X->∀e∈R.after,Region.binds .any e=X->(b.setIfInBounds i X).getD e.on T=X:=by
    intro k R hk hlk e B M;refine getD_set_true ?_;by_cases hki:k=i
    .subst hki;rw[ho]at hk;simp at hk;subst hk;exact hi2 e B M
    .rw[getD_set_ne T (λe=>hki e.symm)]at hlk;exact η k R hk hlk e B M
   have hpdi:∀j v,p=Y (j,v)->(OV rs i).dst≠Y j:=by
    intro j v hp;unfold OV;cases hr:rs[i]? with
    |none=>simp|some r=>exact hpd j v hp r (List.mem_of_getElem? hr)
   have:=Wv (Q:=Q) (next:=wpAny P .any ops Q fuel (b.setIfInBounds i X)) hI' hN hpdi (H i o ho) hw' λenv' a' w' k1 k2 k3=>
    ih (pre++A) _ env' a' w' (by simp at z|-;omega) (B'.2 ⟨g.1,(B_.1 g.2.1).2,λx hx y hy=>g.2.2 x hx y (by simp[hy])⟩) hmem' (by simpa using hsz) hcl' k2 k3 k1.2 (by simpa using k1.1)
   unfold Go.wpOp;rw[ho];simp;split
   next δ=>rw[Ne δ]at this;exact .inl this
   next δ=>rw[QQ δ]at this;exact this
theorem ZH:∀(ds:I2)(ε:AB),Sd ε ds=X->JD ds ε
 |[],ε,_=>λd hd=>by simp at hd|d::ds,ε,h=>by
  simp [Sd]at h;intro x a;rcases A?.1 a with rfl|a
  .exact h.1
  .exact ZH ds ε h.2 x a
theorem MH(M:P.follows .mixedOrders=X):LS P N (Uo P N):=by
 intro F0 w0 p id ds ops rs g ε a w K Q A C Z c hd h hQ;refine wp_region_any M ?_;have l:=A;simp[Uo]at l;obtain⟨_,_,I⟩:=TU ops.toList rs l.1.1.1.1;simp at I;have H:Bt F0 w0 ε a {w with drawn:=w.drawn+1}:=by
  obtain ⟨G,c⟩:=c;refine⟨G,c.gi,c.lt,⟨c.below.os,c.below.tape,c.below.output,c.below.size,c.below.block,c.below.cell,c.below.free,c.below.tab⟩,c.defers,c.dom,λs O=>?_,c.wf⟩;exact AM.kept (w:=w) (w':={w with drawn:=w.drawn+1}) (F:=AU w0.heap.size F0 G) (G:=G) (ε:=ε) (a:=a) (λb o u R θ=>⟨R,θ⟩) (λ_=>rfl) (λ_ _ _ _=>rfl) rfl (λ_ _ _ _ _=>rfl) (λr i k J κ=>⟨κ,λv hv=>by cases k<;>exact hv⟩) (λr off J z=>⟨z,rfl⟩) (λr i J z=>⟨z,λ_ hv=>hv⟩) (c.slots s O)
 refine kN (K:=λe=>K (e.ei g)) (F0:=F0) (w0:=w0) A C (λε a w η ζ δ=>hQ _ a w η ζ (δ.ei g)) ops.size (A_ ops.size) _ ε a _ V List.pairwise_lt_range (λj=>?_) V (λk o hk B=>?_) Z H (ZH ds ε hd) ?_
 .rw[A!];constructor
  .intro L;exact⟨L,by simp[D!,D?,L]⟩
  .exact λh=>h.1
 .simp[D!,D?]at B;split at B<;>simp at B
 grind [nD]
end
end Go.Sf
