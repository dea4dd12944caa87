/- Operations that take a list of one's own, in drawn regions. -/
import Derived.Test.YthcncnllajfkfaaGreatSfSwap
set_option linter.all false
open Option renaming some->Y,none->W
open Bool renaming true->X,false->T
open List renaming map_cons->v1,cons_append->v5,mem_singleton->v6,contains_eq_mem->v_,all_eq_true->v!,range->v?,mem_append->w_,mem_flatMap->w!,getElem?_set->w?,mem_range->x_,mem_cons->x!,pairwise_cons->x?,pairwise_append->y_
open Bool renaming or_eq_true->y!,not_eq_true'->y?,and_true->z_,not_true->z!
open Option renaming isSome_iff_exists->z?,toList_some->A_
open Array renaming getElem?_eq_some_iff->A',getElem?_eq_getElem->A!,getD_eq_getD_getElem?->A?,getElem?_replicate->B_
namespace Go.Sf
def AE.tkn:AE->Option Ne
 |.Aba _=>Y []|.Aa4 _=>Y []|.tkx s=>Y [s]|.AaY _ s _=>Y [s]|.Abb q=>Y [q]|_=>W
def S5(qs:Ne)(O:AB):AB:=qs.map (·,EV.undef)++O
theorem QM(qs:Ne)(O:AB)(n:Nat):AB.get (S5 qs O) n=if n∈qs then .undef else O.get n:=by
 induction qs with
 |nil=>rfl|cons q qs a=>
  grind [S5,AB.d6]
theorem J4(qs:Ne)(O:AB)(c:Nat):AB.f0 c (S5 qs O)=AB.f0 c O:=by
 induction qs with
 |nil=>rfl|cons q qs a=>
  simp only[S5,v1,v5,AB.ej]at a|-;rw[a];rfl
structure lP(S:FuncId->Fq->A9->Prop)(op:AE)(qs:Ne)(d:Nat)(O:AB)(e:EV):Prop where
 dno:O.f0 d=X
 Abm:e.wm=W
 slbx:∀n∈op.slots,∀cs,O.get n≠.bx cs
 sub:∀n∈qs,n∈op.slots
 again:∀env2,(∀n∈op.slots,env2.get n=O.get n)->env2.f0 d=X->∀K2:EV->AB->Prop,K2 e (S5 qs env2)->op.wp S env2 (Y d) K2
variable{y:AG}
theorem zS{O env2:AB}(h:∀n∈y.sl,env2.get n=O.get n):y.val env2=y.val O:=by
 cases y with
 |c t=>rfl|s n=>simp only[AG.val,AG.ev,h n e!]
variable{O:AB}
theorem zR{t:TV}(h:y.val O=Y t):∀n∈y.sl,∀cs,O.get n≠.bx cs:=by
 intro n a cs b;cases y with
 |c t=>simp[AG.sl]at a|s m=>
  grind [AG.sl,v6,AG.val,AG.ev,EV.val]
variable{qs:Ne}
theorem take{S:FuncId->Fq->A9->Prop}{op:AE}{d:Nat}{K:EV->AB->Prop}(c:op.tkn=Y qs)(h:op.wp S O (Y d) K):∃e,lP S op qs d O e/\K e (S5 qs O):=by
 cases op<;>simp only[AE.tkn,reduceCtorEq,q0]at c
 case Aa4 n=>
  subst c;simp only[AE.wp]at h;exact⟨_,⟨h.1,rfl,g!,V,λenv2 _ a j b=>⟨a,b⟩⟩,h.2⟩
 case Aba n=>
  subst c;simp only[AE.wp]at h;exact⟨_,⟨h.1,rfl,g!,V,λenv2 _ a j b=>⟨a,b⟩⟩,h.2⟩
 case tkx s=>
  subst c;simp only[AE.wp]at h;split at h
  .rename_i t n es hd i;simp only[q0]at hd;subst hd;refine⟨.xo n es,⟨h.1,rfl,λm u cs l=>?_,g!,λenv2 g a j b=>?_⟩,h.2.2⟩
   .grind[AE.slots,v6]
   .have:=g s g!;simp only[AE.wp,this,i];exact⟨a,h.2.1,b⟩
  .exact h.elim
 case Abb q=>
  subst c;simp only[AE.wp]at h;split at h
  .rename_i t n k hd i;simp only[q0]at hd;subst hd;refine⟨.x1 n k,⟨h.1.1,rfl,λm u cs l=>?_,g!,λenv2 g a j b=>?_⟩,h.2⟩
   .grind[AE.slots,v6]
   .have:=g q g!;simp only[AE.wp,this,i];exact⟨⟨a,h.1.2⟩,b⟩
  .exact h.elim
 case AaY n s y=>
  subst c;simp only[AE.wp]at h;split at h
  .rename_i t m es m' k hd i w;simp only[q0]at hd;subst hd;obtain⟨B,C,E,F,G,H⟩:=h;refine⟨.xo n (es++k),⟨F,rfl,λx o cs l=>?_,g!,λenv2 g a j b=>?_⟩,H⟩
   .grind[AE.slots,zR]
   .have z:=g s g!;have A:=zS (O:=O) (env2:=env2) (y:=y) (λx o=>g x (by simp[AE.slots,o]));simp only[AE.wp,z,i,A,w];exact⟨B,C,E,a,G,b⟩
  .exact h.elim
def PR.tk(r:PR):Option (Ne×Nat):=
 match r.op.tkn,r.guard,r.dst with
 |some qs,W,Y d=>Y (qs,d)|_,_,_=>W
variable{r:PR}
theorem PR.tk_some{d:Nat}(h:r.tk=Y (qs,d)):r.op.tkn=Y qs/\r.guard=W/\r.dst=Y d:=by
 unfold PR.tk at h
 grind
theorem Y7{S:FuncId->Fq->A9->Prop}{d:Nat}{K:AB->Prop}(g:r.tk=Y (qs,d))(h:r.wp S O K):∃e,lP S r.op qs d O e/\K ((d,e)::S5 qs O)/\
  ∀env2,(∀n∈r.op.slots,env2.get n=O.get n)->env2.f0 d=X->∀a:AB->Prop,a ((d,e)::S5 qs env2)->r.wp S env2 a:=by
 obtain ⟨l,o,t⟩:=PR.tk_some g;have k:r.op.wp S O (Y d) λe env'=>K ((d,e)::env'):=by
  grind [PR.wp,AB.put]
 obtain ⟨e,c,u⟩:=take l k;refine⟨e,c,u,λenv2 i j a b=>?_⟩;unfold PR.wp;rw[o];simp only[t,AB.put];exact c.again env2 i j (λe env'=>a ((d,e)::env')) b
def Aad(D:Ne)(p q:PR):Bool:=
 match q.tk with
 |some (qs,d)=>PR.x6 D p&&D.contains d&&qs.all D.contains&&F1 p.dst.toList (d::q.op.slots)&&F1 (d::qs) (p.op.slots++p.gsl)&&F1 p.op.dem q.op.slots|none=>T
def AaL(p q:PR):Bool:=
 match p.tk,q.tk with
 |some (_,dp),Y (_,dq)=>F1 (dp::p.op.slots) (dq::q.op.slots)|_,_=>T
section
variable{P:Program}{F0:Nat->Nat->Prop}{w0:W0}{N:Nat}{ops:Array Oper}{K:AB->Prop}{D:Ne}
variable{r:PR}{O l4:AB}{e:EV}{f:BW}
theorem Qr.away{S:FuncId->Fq->A9->Prop}{d:Nat}(h:Qr S r d O l4 e f){x:Nat}(a:x∉r.op.slots)(b:∀y,(O.get y).wm≠Y x)(u:EV):f.on x u=u:=by
 have c:=h.slot;have g:=h.cell;cases f with
 |none=>rfl|slot s t=>
  grind [BW.on,Cx]
 |cell s off t=>
  simp only[BW.on]
  grind
theorem Qr.stay{S:FuncId->Fq->A9->Prop}{d:Nat}(h:Qr S r d O l4 e f){x:Nat}(a:x∉r.op.dem)(b:∀cs,O.get x≠.bx cs):f.on x (O.get x)=O.get x:=by
 have c:=h.slot;have g:=h.ok;cases f with
 |none=>rfl|slot s t=>
  grind [BW.on]
 |cell s off t=>
  simp only[BW.on]
  grind
theorem Wg(h:PR.x6 D r=X):∃d,r.dst=Y d/\r.op.mov=X/\(r.op.sc=X->r.guard=W)/\F1 r.op.AaS D=X/\(r.op.sc=X\/d∈D):=by
 simp only[PR.x6,ne,y!,y?]at h;obtain⟨⟨⟨⟨b,c⟩,g⟩,pb⟩,i⟩:=h;obtain⟨d,hd⟩:=z?.1 c;refine⟨d,hd,b,λa=>?_,pb,?_⟩
 .rcases g with h|h
  .rw[a]at h;cases h
  .simpa using h
 grind [PR.old]
variable{rs:List PR}
theorem zF(hR:Ns F0 w0 N O)(hj:JD D O){op:Oper}{p q:PR}(hp:Nv P N ops op p=X)(a:Aad D p q=X)(h:GH (AT P) K (p::q::rs) O):GH (AT P) K (q::p::rs) O:=by
 unfold Aad at a;split at a
 .rename_i qs d ht;simp only[ne,v_,sA,v!]at a;obtain⟨⟨⟨⟨⟨Z,dD⟩,sD⟩,θ⟩,ε⟩,c3⟩:=a;obtain⟨w,J,pm,pg',pb,_⟩:=Wg Z;rw[J]at θ;simp only[A_]at θ;have hpd:w≠d:=λe=>BB θ (x:=w) V b?;have H:w∉q.op.slots:=λe=>BB θ (x:=w) V b?;have i:d∉p.op.slots:=λe=>BB ε (x:=d) V (EC e);have dng:d∉p.gsl:=λe=>BB ε (x:=d) V (Ey e);have j:∀s∈qs,s∉p.op.slots:=λs κ e=>BB ε (x:=s) (by simp[κ]) (EC e);have sng:∀s∈qs,s∉p.gsl:=λs κ e=>BB ε (x:=s) (by simp[κ]) (Ey e);obtain⟨e',A,h⟩:=h;have hR':=hR.congr A.symm;have k:=hj.congr A.symm;obtain⟨l4,⟨⟨e1,l,hw⟩,ep,F,o⟩,hR1⟩:=Gr hR' hp (Qw J pm pg' h);have g1:∀n,e1.get n=if w=n then ep else F.on n (e'.get n):=λn=>by
   rw [l.1,o.l4,AB.d6,BW.get]
  have I:∀x,x∈D->x∉p.op.slots->∀e,F.on x e=e:=λx η ζ e=>o.away ζ (λy hy=>k.no hy η) e;obtain⟨e,M,hK,Q⟩:=Y7 ht hw;have z:∀n∈q.op.slots,e'.get n=e1.get n:=by
   intro n R;have hne:w≠n:=λe=>H (e▸R);have hb:=M.slbx n R;rw[g1,ac hne]at hb|-;refine(o.stay (λhd=>BB c3 hd R) (λcs hc=>?_)).symm;refine hb (match F.on n (.bx cs)with|.bx cs'=>cs'|_=>cs) ?_;rw[hc];cases F with
   |none=>rfl|slot s t=>
    have:=o.ok;simp only[BW.on];split
    next e=>subst e;simp only[BW.ok]at this;rw[hc]at this;cases this
    .rfl
   |cell s off t=>
    simp only[BW.on];split<;>rfl
  have hdn:e'.f0 d=X:=by
   have:=M.dno;rw[l.2,o.l4,AB.ej,BW.f0,ne]at this;exact this.2
  refine ⟨e',A,Q e' z hdn _ ⟨_,.refl _,?_⟩⟩;have C:∀m,m≠d->m∉qs->AB.get ((d,e)::S5 qs e') m=e'.get m:=λm u b=>by
   rw [AB.d6,ac (λe=>u e.symm),QM,ac b]
  have nr:∀c,AB.f0 c ((d,e)::S5 qs e')=AB.f0 c e':=λc=>by
   rw [AB.ej,J4,EV.noR,M.Abm];rfl
  have L:E8 p.op F (Y w) e' ((d,e)::S5 qs e'):=by
   refine ⟨λx B=>.inl (C x (λe=>i (e▸B)) (λe=>j x e B)),λx B r hr=>.inl (C r (λe=>k.no hr (e▸dD)) (λe=>k.no hr (sD r e))),λx B _=>C x (λe=>i (e▸Cx B)) (λe=>j x e (Cx B)),?_,λR d' hd' δ=>by rw[nr];exact δ⟩;have u:=o.slot;have b:=o.ok;have h4:=o.cell;cases F with
   |none=>trivial|slot x t=>
    simp only[BW.ok]at b|-;rw[C x (λe=>i (e▸Cx (u _ _ rfl))) (λe=>j x e (Cx (u _ _ rfl)))];exact b
   |cell x off t=>
    obtain ⟨ds,h5,h6⟩:=b;refine⟨ds,?_,h6⟩;rw[C x (λe=>?_) (λe=>?_)]
    .exact h5
    .rcases h4 _ _ _ rfl with h7|⟨y,_,h8⟩
     .exact i (e▸h7)
     .exact k.no h8 (e▸dD)
    .rcases h4 _ _ _ rfl with h7|⟨y,_,h8⟩
     .exact j x e h7
     .exact k.no h8 (sD x e)
  have hgp:∀g∈p.gsl,AB.get ((d,e)::S5 qs e') g=e'.get g:=λg G=>C g (λe=>dng (e▸G)) (λe=>sng g e G);refine o.again _ L hgp _ (JG hK ?_);refine⟨λm=>?_,λc=>?_⟩
  .simp only[AB.d6,BW.get,g1,QM];by_cases u:d=m
   .subst u;rw[a6 rfl,ac hpd,I d dD i,a6 rfl]
   .rw[ac u];by_cases E:w=m
    .have:m∉qs:=λZ=>H (E▸M.sub m Z);rw[ac this,a6 E,a6 E]
    .rw[ac E];by_cases b:m∈qs
     .rw[a6 b,ac E,I m (sD m b) (j m b),ac u,a6 b]
     .rw[ac b,ac E,ac u,ac b]
  .simp only[AB.ej,BW.f0,l.2,o.l4,J4,EV.noR,M.Abm];cases(match ep.wm with|some s=>c !=s|none=>X)<;>rfl
 .cases a
theorem zE(hR:Ns F0 w0 N O)(hj:JD D O){op oq:Oper}{p q:PR}(hp:Nv P N ops op p=X)(hq:Nv P N ops oq q=X)(a:Aad D q p=X)(h:GH (AT P) K (p::q::rs) O):GH (AT P) K (q::p::rs) O:=by
 unfold Aad at a;split at a
 .rename_i w d ht;simp only[ne,v_,sA,v!]at a;obtain⟨⟨⟨⟨⟨hm,M⟩,sD⟩,Z⟩,c2⟩,c3⟩:=a;obtain⟨C,Q,qm,qg',qb,qold⟩:=Wg hm;rw[Q]at Z;simp only[A_]at Z;have hqd:C≠d:=λe=>BB Z (x:=C) V b?;have I:C∉p.op.slots:=λe=>BB Z (x:=C) V b?;have l:d∉q.op.slots:=λe=>BB c2 (x:=d) V (EC e);have dng:d∉q.gsl:=λe=>BB c2 (x:=d) V (Ey e);have o:∀s∈w,s∉q.op.slots:=λs hs e=>BB c2 (x:=s) (by simp[hs]) (EC e);have sng:∀s∈w,s∉q.gsl:=λs hs e=>BB c2 (x:=s) (by simp[hs]) (Ey e);obtain⟨e',E,h⟩:=h;have hR':=hR.congr E.symm;have hj':=hj.congr E.symm;obtain⟨l4,⟨⟨B,b,hw⟩,κ,R,F,θ⟩,hR1⟩:=Gr (K:=λl4=>(∃B,Om B l4/\q.wp (AT P) B (GH (AT P) K rs))/\∃κ,lP (AT P) p.op w d e' κ/\l4=(d,κ)::S5 w e'/\∀env2,(∀n∈p.op.slots,env2.get n=e'.get n)->env2.f0 d=X->∀K2:AB->Prop,K2 ((d,κ)::S5 w env2)->p.wp (AT P) env2 K2) hR' hp (by
   obtain ⟨e,δ,k2,k3⟩:=Y7 ht h;exact k3 e' (λ_ _=>rfl) δ.dno _ ⟨k2,e,δ,rfl,k3⟩)
  subst F;have j:JD D B:=by
   intro x u;rw[b.2,AB.ej,J4,EV.noR,R.Abm];exact hj' x u
  obtain ⟨X1,⟨hK,eq,ε,A⟩,_⟩:=Gr (hR1.congr b.symm) hq (Qw Q qm qg' hw);have G:∀n,n≠d->n∉w->B.get n=e'.get n:=λn i k=>by
   rw [b.1,AB.d6,ac (λe=>i e.symm),QM,ac k]
  have J:∀x,x∈D->x∉q.op.slots->∀e,ε.on x e=e:=λx hxD hxn e=>A.away hxn (λy hy=>j.no hy hxD) e;have L:E8 q.op ε (Y C) B e':=by
   refine ⟨λx u=>.inl (G x (λe=>l (e▸u)) (λe=>o x e u)).symm,λx u r hr=>.inl (G r (λe=>j.no hr (e▸M)) (λe=>j.no hr (sD r e))).symm,λx u _=>(G x (λe=>l (e▸Cx u)) (λe=>o x e (Cx u))).symm,?_,λη d' hd' H=>?_⟩
   .have i:=A.slot;have k:=A.ok;have ζ:=A.cell;cases ε with
    |none=>trivial|slot x t=>
     simp only[BW.ok]at k|-;rw[<-G x (λe=>l (e▸Cx (i _ _ rfl))) (λe=>o x e (Cx (i _ _ rfl)))];exact k
    |cell x off t=>
     obtain ⟨ds,h5,h6⟩:=k;refine⟨ds,?_,h6⟩;rw[<-G x (λe=>?_) (λe=>?_)]
     .exact h5
     .rcases ζ _ _ _ rfl with h7|⟨y,_,h8⟩
      .exact l (e▸h7)
      .exact j.no h8 (e▸M)
     .rcases ζ _ _ _ rfl with h7|⟨y,_,h8⟩
      .exact o x e h7
      .exact j.no h8 (sD x e)
   .rw[b.2,AB.ej,J4,ne]at H;exact H.2
  have hgq:∀g∈q.gsl,e'.get g=B.get g:=λg hg=>(G g (λe=>dng (e▸hg)) (λe=>sng g e hg)).symm;refine⟨e',E,A.again e' L hgq _ ⟨_,.refl _,θ _ (λn η=>?_) ?_ _ (JG hK ?_)⟩⟩
  .have hne:C≠n:=λe=>I (e▸η);rw[AB.d6,ac hne,BW.get];have hb:=R.slbx n η;have δ:=A.slot;have k2:=L.eff;cases ε with
   |none=>rfl|slot s t=>
    simp only[BW.on];rw[ac];intro e;subst e;exact BB c3 (δ _ _ rfl) η
   |cell s off t=>
    simp only[BW.on];rw[ac];intro e;subst e;obtain⟨cs,k3,_⟩:=k2;exact hb cs k3
  .rw[AB.ej,BW.f0,R.dno,z_];refine VW (λs he=>?_);rcases A.wm s he with i|⟨x,_,k⟩
   .exact λe=>BB qb i (e▸M)
   .exact λe=>j.no k (e▸M)
  .rw[A.l4];have hdd:∀e,ε.on d e=e:=J d M l;refine⟨λm=>?_,λc=>?_⟩
   .simp only[AB.d6,BW.get,QM,b.1];by_cases i:C=m
    .have z:m∉w:=λhm=>I (i▸R.sub m hm);have ζ:¬d=m:=λe=>hqd (i.trans e.symm);rw[a6 i,ac ζ,ac z,a6 i]
    .rw[ac i];by_cases k:d=m
     .subst k;rw[a6 rfl,a6 rfl,hdd]
     .rw[ac k,ac k];by_cases z:m∈w
      .rw[a6 z,a6 z,J m (sD m z) (o m z)]
      .rw[ac z,ac z,ac i]
   .simp only[AB.ej,BW.f0,b.2,J4,EV.noR,R.Abm];cases(match eq.wm with|some s=>c !=s|none=>X)<;>rfl
 .cases a
theorem zQ{S:FuncId->Fq->A9->Prop}{p q:PR}(a:AaL p q=X)(h:GH S K (p::q::rs) O):GH S K (q::p::rs) O:=by
 unfold AaL at a;split at a
 .rename_i F o qs A H I;have i:∀x,x=o\/x∈p.op.slots->x≠A/\x∉q.op.slots:=λx i=>by
   grind [BB,List.mem_cons_self,List.mem_cons_of_mem]
  obtain ⟨e',E,h⟩:=h;obtain⟨R,w,⟨G,b,M⟩,t⟩:=Y7 H h;obtain⟨eq,g,Q,j⟩:=Y7 I M;have J:∀n,n≠o->n∉F->G.get n=e'.get n:=λn k u=>by
   rw [b.1,AB.d6,ac (λe=>k e.symm),QM,ac u]
  have B:∀n∈q.op.slots,e'.get n=G.get n:=λn l=>(J n (λe=>(i n (.inl e)).2 l) (λe=>(i n (.inr (w.sub n e))).2 l)).symm;have C:e'.f0 A=X:=by
   have:=g.dno;rw[b.2,AB.ej,J4,ne]at this;exact this.2
  refine ⟨e',E,j e' B C _ ⟨_,.refl _,t _ (λn l=>?_) ?_ _ (JG Q ?_)⟩⟩
  .rw[AB.d6,ac (λe=>(i n (.inr l)).1 e.symm),QM,ac (λe=>(i n (.inr l)).2 (g.sub n e))]
  .rw[AB.ej,J4,w.dno,EV.noR,g.Abm];rfl
  .refine⟨λm=>?_,λc=>?_⟩
   .simp only[AB.d6,QM,b.1];by_cases k:A=m
    .have u:¬o=m:=λe=>(i o (.inl rfl)).1 (e.trans k.symm);have L:m∉F:=λz=>(i m (.inr (w.sub m z))).1 k.symm
     grind
    .rw[ac k];by_cases u:o=m
     .have L:m∉qs:=λz=>(i m (.inl u.symm)).2 (g.sub m z)
      grind
     grind
   .simp only[AB.ej,J4,b.2,EV.noR,w.Abm,g.Abm]
 .cases a
end
def AE.ptr:AE->Option Nat
 |.bad s _=>Y s|.fad (.s m) _=>Y m|_=>W
def EV.box2(e e2:EV):Prop:=e2=e\/∃cs cs',e=.bx cs/\e2=.bx cs'
variable{m:Nat}{O:AB}
theorem bW{S:FuncId->Fq->A9->Prop}{op:AE}{dst:Option Nat}{K:EV->AB->Prop}(ho:op.ptr=Y m)(h:op.wp S O dst K):
  ∃e,K e O/\(∀s,e.wm=Y s->(s∈op.AaS\/(O.get m).wm=Y s))/\(∀cs,e≠.bx cs)/\∀env2,(O.get m).box2 (env2.get m)->(∀s,(O.get m).wm=Y s->(O.get s).box2 (env2.get s))->∀i:EV->AB->Prop,i e env2->op.wp S env2 dst i:=by
 unfold AE.ptr at ho;split at ho
 .rename_i s k;simp only[q0]at ho;subst ho;simp only[AE.wp]at h;split at h
  .rename_i cs b;refine⟨_,h,λs' c=>.inl (by simpa[AE.AaS,EV.wm]using c.symm),V,λenv2 a _ i g=>?_⟩;have:∃cs',env2.get s=.bx cs':=by
    rcases a with a|⟨_,cs',_,a⟩
    .grind
    .exact⟨cs',a⟩
   obtain ⟨cs',j⟩:=this;simp only[AE.wp,j];exact g
  .rename_i row b;refine⟨_,h,by simp[EV.wm],V,λenv2 a _ i g=>?_⟩;rcases a with a|⟨cs,_,a,_⟩
   .simp only[AE.wp,a,b];exact g
   .rw[b]at a;cases a
  .exact h.elim
 .rename_i m' k;simp only[q0]at ho;subst ho;simp only[AE.wp,AG.ev]at h;split at h
  .rename_i row b;refine⟨_,h,by simp[EV.wm],V,λenv2 a _ i g=>?_⟩;rcases a with a|⟨cs,_,a,_⟩
   .simp only[AE.wp,AG.ev,a,b];exact g
   .rw[b]at a;cases a
  .rename_i s off b;split at h
   .rename_i cs t;refine⟨_,h,λs' c=>.inr (by rw[b];exact c),V,λenv2 a j i g=>?_⟩;have o:env2.get m'=.bp s off:=by
     rcases a with a|⟨_,_,a,_⟩
     .rw[a,b]
     grind
    have l:∃cs',env2.get s=.bx cs':=by
     rcases j s (by rw[b];rfl)with j|⟨_,cs',_,j⟩
     .grind
     .exact⟨cs',j⟩
    obtain ⟨cs',l⟩:=l;simp only[AE.wp,AG.ev,o,l];exact g
   .exact h.elim
  .exact h.elim
 .cases ho
def Yg(m q s:Nat)(cs:List AS)(off:Nat)(O:AB):AB:=(s,.bx (cs.set off ⟨T,.undef⟩))::(m,.undef)::(q,.undef)::O
theorem Tp{S:FuncId->Fq->A9->Prop}{m q d:Nat}{K:EV->AB->Prop}(h:(AE.AaA m q).wp S O (Y d) K):
  ∃e s off cs,O.get m=.nh s off .hd/\O.get s=.bx cs/\(∀cs,O.get q≠.bx cs)/\O.f0 d=X/\e.wm=W/\K e (Yg m q s cs off O)/\
   ∀env2,env2.get m=O.get m->env2.get q=O.get q->env2.get s=O.get s->env2.f0 d=X->∀c:EV->AB->Prop,c e (Yg m q s cs off env2)->(AE.AaA m q).wp S env2 (Y d) c:=by
 simp only[AE.wp]at h;split at h
 .rename_i E s off n F b i j;simp only[q0]at b;subst b;split at h
  .rename_i cs k;cases a:O.nat s off with
   |none=>rw[a]at h;exact h.elim|some es=>
    rw [a]at h;simp only[Ax]at h;obtain⟨z,⟨A,B⟩,C⟩:=h;refine⟨_,s,off,cs,i,k,by rw[j];simp,A,rfl,C,λenv2 l o g t c u=>?_⟩;have w:env2.nat s off=Y es:=by rw[<-a];exact AB.Aal g
    simp only[AE.wp,l,o,g,i,j,k,w,Ax];exact⟨z,⟨t,B⟩,u⟩
  .exact h.elim
 .exact h.elim
def Aae(D:Ne)(p q:PR):Bool:=
 match p.op.ptr,p.guard,p.dst,q.op,q.guard,q.dst with
 |some x,W,Y dp,.AaA m qq,W,Y d=>D.contains d&&D.contains dp&&D.contains m&&D.contains qq&&F1 [dp] [d,m,qq]&&F1 [x] [d,m,qq]&&F1 p.op.AaS D&&dp !=x&&PR.x6 D p|_,_,_,_,_,_=>T
variable{off:Nat}
theorem Qy{m q s:Nat}{cs:List AS}(n:Nat):AB.get (Yg m q s cs off O) n=if s=n then .bx (cs.set off ⟨T,.undef⟩)else if m=n then .undef else if q=n then .undef else O.get n:=rfl
theorem QY{m q s:Nat}{cs:List AS}(c:Nat):AB.f0 c (Yg m q s cs off O)=AB.f0 c O:=by
 simp [Yg,AB.ej,EV.noR,EV.wm]
section
variable{S:FuncId->Fq->A9->Prop}{K:AB->Prop}{D:Ne}
variable{O:AB}{rs:List PR}
theorem zJ(Z:JD D O){p q:PR}(a:Aae D p q=X)(h:GH S K (p::q::rs) O):GH S K (q::p::rs) O:=by
 unfold Aae at a;split at a
 .rename_i x g m A d B L M Q R θ;simp only[ne,v_,sA,bne_iff_ne,ne_eq]at a;obtain⟨⟨⟨⟨⟨⟨⟨⟨η,dpD⟩,mD⟩,qD⟩,G⟩,H⟩,pb⟩,hdx⟩,_⟩:=a;have n1:g≠d:=λe=>BB G (x:=g) V b?;have ε:g≠m:=λe=>BB G (x:=g) V b?;have n3:g≠A:=λe=>BB G (x:=g) V b?;have n4:x≠d:=λe=>BB H (x:=x) V b?;have n5:x≠m:=λe=>BB H (x:=x) V b?;have n6:x≠A:=λe=>BB H (x:=x) V b?;obtain⟨e',w,h⟩:=h;have k:=Z.congr w.symm;simp only[PR.wp,L,M,AB.put]at h;obtain⟨e,⟨e1,b,ζ⟩,hre,I,z⟩:=bW B h;simp only[PR.wp,R,θ,Q,AB.put]at ζ;obtain⟨eq,s,off,cs,k1,J,k3,δ,k5,hK,j⟩:=Tp ζ;have l:∀n,n≠g->e1.get n=e'.get n:=λn hn=>by rw[b.1,AB.d6,ac (λe=>hn e.symm)]
  have o:s≠g:=by
   intro hs;subst hs;rw[b.1,AB.d6,a6 rfl]at J;exact I cs J
  have C:e'.get m=.nh s off .hd:=by rw[<-l m (λe=>ε e.symm)];exact k1
  have t:e'.get s=.bx cs:=by rw[<-l s o];exact J
  have E:s∉D:=k.no (x:=m) (by rw[C];rfl);have κ:s≠d:=λe=>E (e▸η);have F:e'.f0 d=X:=by rw[b.2,AB.ej,ne]at δ;exact δ.2
  refine ⟨e',w,?_⟩;simp only[PR.wp,R,θ,Q,AB.put];refine j e' (l m (λe=>ε e.symm)).symm (l A (λe=>n3 e.symm)).symm (l s o).symm F _ ⟨_,.refl _,?_⟩;simp only[PR.wp,L,M,AB.put];refine z _ ?_ (λr hr=>?_) _ (JG hK ?_)
  .rw[AB.d6,ac (λe=>n4 e.symm),Qy];by_cases u:s=x
   .subst u;rw[a6 rfl];exact .inr ⟨cs,_,t,rfl⟩
   .rw[ac u,ac (λe=>n5 e.symm),ac (λe=>n6 e.symm)];exact .inl rfl
  .have i:r∉D:=k.no hr;rw[AB.d6,ac (λ(e:d=r)=>i (e▸η)),Qy];by_cases u:s=r
   .subst u;rw[a6 rfl];exact .inr ⟨cs,_,t,rfl⟩
   .rw[ac u,ac (λ(e:m=r)=>i (e▸mD)),ac (λ(e:A=r)=>i (e▸qD))];exact .inl rfl
  .refine⟨λn=>?_,λc=>?_⟩
   .simp only[AB.d6,Qy,b.1]
    grind
   .simp only[AB.ej,QY,b.2,EV.noR,k5]
    grind
 .cases a
theorem zI(κ:JD D O){p q:PR}(a:Aae D q p=X)(h:GH S K (p::q::rs) O):GH S K (q::p::rs) O:=by
 unfold Aae at a;split at a
 .rename_i x g m w d z G H I J L;simp only[ne,v_,sA,bne_iff_ne,ne_eq]at a;obtain⟨⟨⟨⟨⟨⟨⟨⟨Q,B⟩,mD⟩,qD⟩,C⟩,E⟩,qb⟩,hdx⟩,_⟩:=a;have n1:g≠d:=λe=>BB C (x:=g) V b?;have Z:g≠m:=λe=>BB C (x:=g) V b?;have n3:g≠w:=λe=>BB C (x:=g) V b?;have n4:x≠d:=λe=>BB E (x:=x) V b?;have n5:x≠m:=λe=>BB E (x:=x) V b?;have n6:x≠w:=λe=>BB E (x:=x) V b?;obtain⟨e',o,h⟩:=h;have j:=κ.congr o.symm;simp only[PR.wp,J,L,I,AB.put]at h;obtain⟨ep,s,off,cs,k1,k2,k3,k4,R,⟨θ,b,ε⟩,t⟩:=Tp h;simp only[PR.wp,G,H,AB.put]at ε;obtain⟨e,hK,F,hnb,i⟩:=bW z ε;have k:s∉D:=j.no (x:=m) (by rw[k1];rfl);have hsd:s≠d:=λe=>k (e▸Q);have g1:∀n,n≠d->n≠m->n≠w->(θ.get n).box2 (e'.get n):=by
   intro n u η ζ;rw[b.1,AB.d6,ac (λe=>u e.symm),Qy];by_cases M:s=n
   .subst M;rw[a6 rfl];exact .inr ⟨_,cs,rfl,k2⟩
   .rw[ac M,ac (λe=>η e.symm),ac (λe=>ζ e.symm)];exact .inl rfl
  have l:JD D θ:=by
   intro y δ;rw[b.2,AB.ej,QY,EV.noR,R];exact j y δ
  refine ⟨e',o,?_⟩;simp only[PR.wp,G,H,AB.put];refine i e' (g1 x n4 n5 n6) (λr hr=>?_) _ ⟨_,.refl _,?_⟩
  .have hrD:r∉D:=l.no hr
   grind
  .simp only[PR.wp,J,L,I,AB.put];have A:s≠g:=λe=>k (e▸B);refine t _ (by rw[AB.d6,ac Z]) (by rw[AB.d6,ac n3]) (by rw[AB.d6,ac (λe=>A e.symm)]) ?_ _ (JG hK ?_)
   .rw[AB.ej,k4,z_];refine VW (λr hr=>?_);rcases F r hr with u|u
    .grind[BB]
    .exact λ(e:r=d)=>l.no u (e▸Q)
   .refine⟨λn=>?_,λc=>?_⟩
    .simp only[AB.d6,Qy,b.1]
     grind
    .simp only[AB.ej,QY,b.2,EV.noR,R]
     grind
 .cases a
end
def Aa7(p:PR):Bool:=p.tk.isSome||(match p.op,p.guard,p.dst with|.AaA _ _,W,Y _=>X|_,_,_=>T)
variable{O:AB}
theorem fi{S:FuncId->Fq->A9->Prop}{p:PR}{K:AB->Prop}(ho:Aa7 p=X)(h:p.wp S O K):∃l4,K l4/\(∀c,l4.f0 c=O.f0 c)/\∀b:AB->Prop,b l4->p.wp S O b:=by
 simp only[Aa7,y!]at ho;rcases ho with ho|ho
 .obtain⟨⟨qs,d⟩,i⟩:=z?.1 ho;obtain⟨e,g,j,a⟩:=Y7 i h;exact⟨_,j,λc=>by rw[AB.ej,J4,EV.noR,g.Abm];rfl,a O (λ_ _=>rfl) g.dno⟩
 grind [PR.wp,AB.put,Tp,AB.ej,QY,EV.noR]
theorem mH{D:Ne}{p q:PR}(h:Aad D q p=X):Aa7 p=X:=by grind[Aad,Aa7]
theorem jC{D:Ne}{p q:PR}(h:Aad D p q=X):PR.x6 D p=X:=by
 unfold Aad at h
 grind
theorem mK{p q:PR}(h:AaL p q=X):Aa7 p=X:=by grind[AaL,Aa7]
theorem jD{D:Ne}{p q:PR}(h:Aae D p q=X):PR.x6 D p=X:=by
 unfold Aae at h
 grind
theorem mI{D:Ne}{p q:PR}(h:Aae D q p=X):Aa7 p=X:=by grind[Aae,Aa7]
end Go.Sf
namespace Go.Sf
open Go.RowKit (Below)
def Pe(rs:List PR)(i:Nat):PR:=(rs[i]?).getD ⟨W,.Abe 0,W⟩
def Abq(p:PR):Bool:=match p.op,p.guard,p.dst with
 |.Aah _,W,Y _=>X|_,_,_=>T
def AaK(p q:PR):Bool:=match p.op,p.guard,p.dst,q.op,q.guard,q.dst with
 |.Aah gs,W,Y dp,.alc _,W,Y dq=>dp !=dq&&!(gs.flatMap GC.sl).contains dq|_,_,_,_,_,_=>T
theorem mG{p q:PR}(h:AaK p q=X):Abq p=X:=by grind[AaK,Abq]
def XM(p:PR):Bool:=match p.op,p.guard,p.dst with
 |.st _ (.s _) _,W,W=>X|.xst _ _ _,W,W=>X|_,_,_=>T
def AaH(D:Ne)(p q:PR):Bool:=match p.op,p.guard,p.dst,q.op,q.guard,q.dst with
 |.xst x v _,W,W,.xia (.s _) _ _,W,Y d=>D.contains d&&!x.sl.contains d&&!v.sl.contains d|_,_,_,_,_,_=>T
def TT(D:Ne)(p q:PR):Bool:=match p.op,p.guard,p.dst,q.op,q.guard,q.dst with
 |.st _ (.s x) v,W,W,.bad m _,W,Y d=>D.contains d&&d !=x&&d !=m&&!v.sl.contains d&&!v.sl.contains m|.st _ (.s x) v,W,W,.fad (.s m) _,W,Y d=>D.contains d&&d !=x&&d !=m&&!v.sl.contains d&&!v.sl.contains m|_,_,_,_,_,_=>T
theorem mF{D:Ne}{p q:PR}(h:TT D p q=X):XM p=X:=by grind[TT,XM]
theorem mJ{D:Ne}{p q:PR}(h:AaH D p q=X):XM p=X:=by grind[AaH,XM]
def AE.vops:AE->Option (List AG)
 |.len x=>Y [x]|.mm _ x y=>Y [x,y]|.slc _ x lo hi=>Y (x::(lo.toList++hi.toList))|.bin _ _ x y=>Y [x,y]|.cvt _ x=>Y [x]|.fdv x _=>Y [x]|.ldv x _=>Y [x]|_=>W
def Aa1(D:Ne)(p q:PR):Bool:=match p.op.vops,p.guard,p.dst,q.op,q.guard,q.dst with
 |some xs,W,Y d,.st _ (.s x) v,W,W=>PR.x6 D p&&d !=x&&!v.sl.contains d&&F1 (xs.flatMap AG.sl) v.sl|_,_,_,_,_,_=>T
def Aa2(D:Ne)(p q:PR):Bool:=match p.op,p.guard,p.dst,q.op,q.guard,q.dst with
 |.ldb b _,W,Y d,.st _ (.s x) v,W,W=>PR.x6 D p&&D.contains b&&b !=x&&d !=x&&d !=b&&!v.sl.contains d&&!v.sl.contains b|.bad b _,W,Y d,.st _ (.s x) v,W,W=>PR.x6 D p&&d !=x&&!v.sl.contains d&&!v.sl.contains b|_,_,_,_,_,_=>T
def AaN(D:Ne)(p q:PR):Bool:=Yi D p q||AaM D p q||AaK p q||Aa0 D p q||AaZ D p q||(TT D p q||AaH D p q)||Aa1 D p q||Aa2 D p q||(Aad D p q||Aad D q p||AaL p q||Aae D p q||Aae D q p)
def okQ(p:PR):Bool:=match p.op,p.guard,p.dst with
 |.tkx _,W,Y _=>X|.Aa9 _ _ _ _,W,Y _=>X|_,_,_=>T
theorem jB{D:Ne}{p q:PR}(h:AaN D p q=X):((PR.x6 D p=X\/Abq p=X)\/XM p=X)\/Aa7 p=X:=by
 simp [AaN]at h;rcases h with(((((((h|h)|h)|h)|h)|h)|h)|h)|((((h|h)|h)|h)|h)
 rotate_right 5
 .grind[jC]
 .exact .inr (mH h)
 .exact .inr (mK h)
 .grind[jD]
 .exact .inr (mI h)
 all_goals refine .inl ?_
 .simp[Yi]at h
  grind
 .unfold AaM at h
  grind
 .grind[mG]
 .unfold Aa0 at h
  grind
 .unfold AaZ at h
  grind
 .grind[mF,mJ]
 .unfold Aa1 at h
  grind
 .unfold Aa2 at h
  grind
def uA(ops:Array Oper):Ne:=
 ops.toList.foldl (λacc o=>acc++[o.after.toList.foldl (λm e=>if Region.binds .any e then m|||(1<<<e.on)|||acc.getD e.on 0 else m) 0]) []
def okCa(p:PR):Bool:=match p.op,p.guard,p.dst with
 |.AaD _ _ _,W,Y _=>X|_,_,_=>T
variable{O:AB}
theorem rE{S:FuncId->Fq->A9->Prop}{p:PR}{K:AB->Prop}(ho:okCa p=X)(h:p.wp S O K):p.wp S O λl4=>K l4/\∀c,l4.f0 c=O.f0 c:=by
 unfold okCa at ho;split at ho
 .rename_i f args i d g j k;simp[PR.wp,g,j,k,AE.wp,AB.put]at h|-;split at h
  .rename_i t q a u;simp at a;subst a;split at h
   .rename_i cs w;refine⟨h.1,?_⟩;cases hv:Jf O i args with
    |none=>rw[hv]at h;exact h.2.elim|some z=>
     rw [hv]at h;obtain⟨_,r,l,o⟩:=h;refine⟨r,l,λb=>⟨o b,λc=>?_⟩⟩;have:EV.noR c r.aev=X:=by cases r<;>rfl
     rw [AB.ej,AB.ej,this];rfl
   .exact h.elim
  .exact h.elim
 .cases ho
def okCm(p:PR):Bool:=match p.op,p.dst with
 |.Aas _ _ _,Y _=>X|_,_=>T
def fh(D:Ne)(r:PR):Bool:=
 Ov r.op||Abq r||okQ r||Aa7 r||okCa r||okCm r||(r.op.mov&&r.dst.isSome&&(!r.op.sc||r.guard.isNone)&&F1 r.op.AaS D)
def VY(P:Program)(N:Nat)(D:Ne)(ops:Array Oper)(rs:List PR):Bool:=
 let n:=ops.size
 let M:=uA ops
 N3 P N ops ops.toList rs&&(v? n).all (λi=>fh D (Pe rs i)) &&
 (v? n).all (λi=>match ops[i]? with
  |some o=>o.after.toList.all λe=>!Region.binds .any e||decide (e.on<i)|none=>T) &&
 (v? n).all (λi=>(v? n).all λj=>!(M.getD i 0).testBit j||(match ops[i]? with
  |some o=>o.after.toList.any λe=>Region.binds .any e&&(e.on==j||(decide (e.on<i)&&(M.getD e.on 0).testBit j))|none=>T)) &&
 (v? n).all (λi=>(v? i).all λj=>(M.getD i 0).testBit j||AaN D (Pe rs j) (Pe rs i))
section
variable{P:Program}{F0:Nat->Nat->Prop}{w0:W0}{N:Nat}{p:Option (Nat×Value)}{ops:Array Oper}{K:AB->Prop}{D:Ne}
variable{f:BW}{d:Option Nat}{O:AB}
theorem E8.refl{op:AE}(h:f.ok O):E8 op f d O O:=
 ⟨λ_ _=>.inl rfl,λ_ _ _ _=>.inl rfl,λ_ _ _=>rfl,h,λ_ _ _ h=>h⟩
theorem NO(d:Nat)(a:AB):∀(qs:Ne)(O:AB),AB.f0 d (SC a qs O)=AB.f0 d O
 |[],_=>rfl|q::qs,O=>by
  rw [SC,AB.ej,NO d a qs O]
  grind [NN,EV.noR,EV.wm]
theorem ur(d:Nat)(e:EV)(O:AB)(g:GC)(h:d∉g.sl):GC.cell ((d,e)::O) g=g.cell O:=by
 cases g with
 |z c=>rfl|v x k n=>
  cases x with
  |s q=>
   grind [GC.sl,v6,GC.cell,AG.val,AG.ev,AB.d6]
  |c t=>rfl
 |w q=>
  grind [GC.sl,v6,GC.cell,AB.d6]
 |g q k n=>
  grind [GC.sl,v6,GC.cell,AB.d6]
theorem eU(d:Nat)(e:EV)(O:AB):∀(gs:List GC),d∉gs.flatMap GC.sl->Kl ((d,e)::O) gs=Kl O gs
 |[],_=>rfl|g::gs,h=>by
  rw [List.flatMap_cons,w_,not_or]at h;simp[Kl,ur d e O g h.1,eU d e O gs h.2]
variable{gs:List GC}
theorem wK{q:Nat}(h:q∈gs.filterMap GC.slot):q∈gs.flatMap GC.sl:=by
 rw [List.mem_filterMap]at h;obtain⟨g,a,e⟩:=h;rw[w!];refine⟨g,a,?_⟩;cases g<;>simp[GC.slot]at e<;>simp[GC.sl,e]
theorem Wx{S:FuncId->Fq->A9->Prop}{p:PR}{K:AB->Prop}{d:Nat}(c:p.op=.Aah gs)(g:p.guard=W)(i:p.dst=Y d)(h:p.wp S O K):
  ∃cs,((gs.filterMap GC.src).Nodup/\d∉gs.filterMap GC.slot)/\Kl O gs=Y cs/\K ((d,.z5 cs)::SC O (gs.filterMap GC.slot) O):=by
 simp only[PR.wp,c,g,i,AE.wp,AB.put]at h;obtain⟨j,b⟩:=h;cases a:Kl O gs with
 |none=>rw[a]at b;exact b.elim|some k=>rw[a]at b;exact⟨k,j,rfl,b⟩
theorem Tw{S:FuncId->Fq->A9->Prop}{p:PR}{K:AB->Prop}{d:Nat}{cs:List AS}(b:p.op=.Aah gs)(c:p.guard=W)(g:p.dst=Y d)(i:(gs.filterMap GC.src).Nodup/\d∉gs.filterMap GC.slot)(a:Kl O gs=Y cs)
  (h:K ((d,.z5 cs)::SC O (gs.filterMap GC.slot) O)):p.wp S O K:=by
 simp only[PR.wp,b,c,g,AE.wp,AB.put,a];exact⟨i,h⟩
variable{q:PR}{v:AG}
theorem VF{S:FuncId->Fq->A9->Prop}{K:AB->Prop}{n x:Nat}(a:q.op=.st n (.s x) v)(k:q.guard=W)(hd:q.dst=W)(h:q.wp S O K):
  ∃s off cs cs' o,(AG.s x).place O=Y (s,off)/\O.get s=.bx cs/\(∀g e,o=Y (g,e)->v=.s g/\(∃t,e=.tv t)/\g≠s)/\K (P6 s cs' o O)/\
   ∀env2,(AG.s x).place env2=Y (s,off)->env2.get s=.bx cs->v.ev env2=v.ev O->∀i:AB->Prop,i (P6 s cs' o env2)->q.wp S env2 i:=by
 unfold PR.wp at h;rw[k,a,hd]at h;simp[AE.wp]at h;split at h
 .rename_i s off w;split at h
  .rename_i cs z;split at h
   .rename_i t hv;cases v with
    |c t=>exact h.elim|s g=>
     simp only at h;simp[AG.ev]at hv;refine⟨s,off,cs,_,Y (g,.tv t),w,z,?_,h.2.2.2,λenv2 l u j i b=>?_⟩
     .intro s' A he;simp at he;obtain⟨rfl,rfl⟩:=he;exact⟨rfl,⟨t,rfl⟩,h.1⟩
     .simp[AG.ev]at j;unfold PR.wp;rw[k,a,hd];simp[AE.wp,l,u,AG.ev,j,hv];exact⟨h.1,h.2.1,h.2.2.1,b⟩
   next t hv=>refine⟨s,off,cs,_,W,w,z,V,h.2.2,λenv2 l u j i b=>?_⟩;unfold PR.wp;rw[k,a,hd];simp[AE.wp,l,u,j,hv];exact⟨h.1,h.2.1,b⟩
   .exact h.elim
  .exact h.elim
 .exact h.elim
variable{e':AB}
theorem head{p:PR}{o:Oper}(ho:Nv P N ops o p=X){K:AB->Prop}(g:((PR.x6 D p=X\/Abq p=X)\/XM p=X)\/Aa7 p=X)(H:Ns F0 w0 N e')(I:JD D e')(h:p.wp (AT P) e' K):
  ∃l4,K l4/\Ns F0 w0 N l4/\JD D l4/\∀b:AB->Prop,b l4->p.wp (AT P) e' b:=by
 rcases g with((g|g)|g)|g
 rotate_right
 .obtain⟨l4,⟨l,Q,R⟩,a⟩:=Gr (K:=λl4=>K l4/\(∀c,l4.f0 c=e'.f0 c)/\∀b:AB->Prop,b l4->p.wp (AT P) e' b) H ho (by
   grind [fi])
  exact ⟨l4,l,a,λd hd=>by rw[Q];exact I d hd,R⟩
 .simp[PR.x6,y?]at g;obtain⟨⟨⟨⟨ζ,δ⟩,Z⟩,pb⟩,pD⟩:=g;obtain⟨dp,θ⟩:=z?.1 δ;have M:p.op.sc=X->p.guard=W:=λκ=>by
   rcases Z with h|h
   .rw[κ]at h;cases h
   .simpa using h
  obtain ⟨l4,⟨l,ep,fp,L⟩,a⟩:=Gr H ho (Qw θ ζ M h);exact⟨l4,l,a,L.jd pb I,λb j=>L.again e' (.refl L.ok) (λ_ _=>rfl) _ (by rw[<-L.l4];exact j)⟩
 .unfold Abq at g;split at g
  .rename_i gs d A B C;obtain⟨l4,l,a⟩:=Gr (K:=λl4=>K l4/\∃cs,((gs.filterMap GC.src).Nodup/\d∉gs.filterMap GC.slot)/\Kl e' gs=Y cs/\l4=(d,.z5 cs)::SC e' (gs.filterMap GC.slot) e') H ho (by
    obtain ⟨ts,w,z,E⟩:=Wx A B C h
    grind [Tw])
   obtain ⟨l,ts,w,z,rfl⟩:=l;refine⟨_,l,a,λx ε=>?_,λb j=>Tw A B C w z j⟩;rw[AB.ej,NO,I x ε];rfl
  .cases g
 .unfold XM at g;split at g
  .rename_i n x v A B C;obtain⟨l4,⟨l,s,off,cs,cs',o',w,F,z,E,G⟩,a⟩:=Gr (K:=λl4=>K l4/\∃s off cs cs' o,(AG.s x).place e'=Y (s,off)/\e'.get s=.bx cs/\(∀J e,o=Y (J,e)->v=.s J/\(∃t,e=EV.tv t)/\J≠s)/\l4=P6 s cs' o e'/\
     ∀b:AB->Prop,b (P6 s cs' o e')->p.wp (AT P) e' b) H ho (by
    obtain ⟨s,off,cs,cs',o,w,F,z,E,G⟩:=VF A B C h;exact G e' w F rfl _ ⟨E,s,off,cs,cs',o,w,F,z,rfl,λb j=>G e' w F rfl b j⟩)
   subst E;refine⟨_,l,a,λd hd=>?_,G⟩;rw[Gw _ _ _ _ _ (λJ e he=>by
    obtain ⟨_,⟨t,rfl⟩,_⟩:=z J e he;rfl)]
   exact I d hd
  .rename_i x v k A B C;obtain⟨l4,⟨l,Q,R⟩,a⟩:=Gr (K:=λl4=>K l4/\(∀c,l4.f0 c=e'.f0 c)/\∀b:AB->Prop,b l4->p.wp (AT P) e' b) H ho (by
    simp [PR.wp,A,B,C,AE.wp,AB.put]at h|-;split at h
    .rename_i q i c ε;split at h
     .rename_i n es u η hu;obtain⟨w,F,es',z,E,G,h7⟩:=h;refine⟨w,F,es',z,E,G,h7,λc=>(QP (es':=es') η).2.2 c,λb j=>?_⟩
      grind
     .exact h.elim
    .exact h.elim)
   exact ⟨l4,l,a,λd hd=>by rw[Q];exact I d hd,R⟩
  .cases g
variable{rs:List PR}
theorem zD{p q:PR}(a:AaK p q=X)(h:GH (AT P) K (p::q::rs) O):GH (AT P) K (q::p::rs) O:=by
 unfold AaK at a;split at a
 .rename_i gs G cs A j k l o t u;simp only[ne,bne_iff_ne,ne_eq,y?,v_,decide_eq_false_iff_not]at a;obtain⟨C,w⟩:=a;obtain⟨e',g,h⟩:=h;obtain⟨H,E,F,x,i,c⟩:=Wx j k l h;simp[PR.wp,o,t,u,AE.wp,AB.put]at c;obtain⟨b,c⟩:=c;rw[i.2,AB.ej,NO]at b;simp[EV.noR,EV.wm]at b;refine⟨e',g,?_⟩;simp[PR.wp,o,t,u,AE.wp,AB.put];refine⟨b,_,.refl _,Tw j k l E (by rw[eU _ _ _ _ w];exact F) (JG c ?_)⟩;have B:A∉gs.filterMap GC.slot:=λz=>w (wK z);refine⟨λn=>?_,λd=>?_⟩
  .rw[AB.d6,i.1,AB.d6,AB.d6,LN,LN]
   grind [AB.d6]
  .rw[AB.ej,i.2,AB.ej,AB.ej,NO,NO,AB.ej]
   grind
 .cases a
variable{l4:AB}
theorem nS{S:FuncId->Fq->A9->Prop}{K:AB->Prop}{m d s:Nat}{cs cs':List AS}{o:Option (Nat×EV)}(a:(∃k,q.op=.bad m k)\/∃k,q.op=.fad (.s m) k)(g:q.guard=W)(hd:q.dst=Y d)(A:O.get s=.bx cs)(ho:∀z e,o=Y (z,e)->(∃t,e=.tv t)/\z≠m)
  (he:∀n,l4.get n=(P6 s cs' o O).get n)(h:q.wp S l4 K):∃e,K ((d,e)::l4)/\∀i:AB->Prop,i ((d,e)::O)->q.wp S O i:=by
 have u:l4.get m=if s=m then .bx cs' else O.get m:=by
  grind [GG]
 have hb:∀r c,l4.get r=.bx c->∃l,O.get r=.bx l:=by
  grind [GG]
 unfold PR.wp at h;rcases a with⟨k,a⟩|⟨k,a⟩
 .rw[g,a,hd]at h;simp[AE.wp,AB.put]at h;by_cases e:s=m
  .rw[u,a6 e]at h;refine⟨_,h,λi b=>?_⟩;unfold PR.wp;rw[g,a,hd];simp[AE.wp,<-e,A,AB.put];rw[<-e]at b;exact b
  .rw[u,ac e]at h;split at h
   next c j=>refine⟨_,h,λi b=>?_⟩;unfold PR.wp;rw[g,a,hd];simp[AE.wp,j,AB.put];exact b
   next row j=>refine⟨_,h,λi b=>?_⟩;unfold PR.wp;rw[g,a,hd];simp[AE.wp,j,AB.put];exact b
   .exact h.elim
 .rw[g,a,hd]at h;simp[AE.wp,AB.put,AG.ev]at h;by_cases e:s=m
  .rw[u,a6 e]at h;exact h.elim
  .rw[u,ac e]at h;split at h
   next row j=>refine⟨_,h,λi b=>?_⟩;unfold PR.wp;rw[g,a,hd];simp[AE.wp,AG.ev,j,AB.put];exact b
   .rename_i r off j;split at h
    next c hr=>obtain⟨l,w⟩:=hb r c hr;refine⟨_,h,λi b=>?_⟩;unfold PR.wp;rw[g,a,hd];simp[AE.wp,AG.ev,j,w,AB.put];exact b
    .exact h.elim
   .exact h.elim
theorem zC{p q:PR}(C:JD D O)(b:TT D p q=X)(h:GH (AT P) K (p::q::rs) O):GH (AT P) K (q::p::rs) O:=by
 have key:∃n x v m d,p.op=.st n (.s x) v/\p.guard=W/\p.dst=W/\((∃k,q.op=.bad m k)\/∃k,q.op=.fad (.s m) k)/\q.guard=W/\q.dst=Y d/\d∈D/\d≠x/\d∉v.sl/\m∉v.sl:=by
  unfold TT at b
  grind
 obtain ⟨n,x,v,m,d,F,G,H,I,J,L,M,Q,R,θ⟩:=key;obtain⟨e',g,h⟩:=h;have j:=C.congr g.symm;obtain⟨s,off,cs,cs',o,i,B,ε,⟨y,u,κ⟩,η⟩:=VF F G H h;have l:d≠s:=by
  intro e;subst e;simp[AG.place]at i;split at i
  next r w E=>simp at i;exact j.no (x:=x) (s:=d) (by rw[E,<-i.1];rfl) M
  .grind
  .cases i
 have ho:∀a e,o=Y (a,e)->(∃t,e=EV.tv t)/\a≠m:=λa e he=>by
  grind [AG.sl]
 obtain ⟨e,ζ,δ⟩:=nS (cs':=cs') (o:=o) (O:=e') I J L B ho u.1 κ;refine⟨e',g,δ _ ⟨_,.refl _,η ((d,e)::e') ?_ (by rw[AB.d6,ac l];exact B) ?_ _ (JG ζ ?_)⟩⟩
 .grind[AG.place,AB.d6]
 .cases v with
  |c t=>rfl|s a=>
   grind [AG.ev,AB.d6,AG.sl]
 .refine⟨λz=>?_,λz=>?_⟩
  .rw[AB.d6,u.1,GG,GG]
   grind [AB.d6,AG.sl]
  .have A:∀a e,o=Y (a,e)->e.noR z=X:=λa e he=>by
    obtain ⟨_,⟨t,rfl⟩,_⟩:=ε a e he;rfl
   rw [AB.ej,u.2,Gw _ _ _ _ _ A,Gw _ _ _ _ _ A,AB.ej]
variable{n m:Nat}
theorem tV{e' h:AB}{c:Nat}{o:Option Nat}{es es':Fq}(a:e'.sx c o=Y (n,es))(F:es'.length=es.length)(he:∀z,h.get z=AB.get (e'.x5 c o n es') z){y q:Nat}{i:Option Nat}{l:Fq}
  (H:h.get y=.la q i)(b:h.sx q i=Y (m,l)):e'.get y=.la q i/\∃fs',e'.sx q i=Y (m,fs')/\fs'.length=l.length:=by
 obtain ⟨⟨u,I,A⟩,ho,_⟩:=QP (es':=es') a;have t:c≠y:=by
  grind
 refine ⟨by rw[<-H,he,ho _ t],?_⟩;by_cases G:c=q
 .subst G;cases o with
  |none=>
   have g:h.get c=.xo n es':=by rw[he];simp[AB.x5,AB.d6]
   cases i with
   |none=>
    simp [AB.sx,g]at b;obtain⟨rfl,rfl⟩:=b;exact⟨es,a,F.symm⟩
   |some k=>simp[AB.sx,g]at b
  |some E=>
   rcases A with⟨mm,M,J,_⟩|⟨cs,k,L,B,C,rfl⟩
   .simp[AB.sx,J]at a
   .cases L;have g:h.get c=.bx (cs.set E ⟨X,.xl n es'⟩):=by rw[he,I]
    cases i with
    |none=>simp[AB.sx,g]at b|some k=>
     by_cases j:E=k
     .subst j;have w:E<cs.length:=(List.getElem?_eq_some_iff.1 B).1;simp[AB.sx,g,w?,a6 w]at b;obtain⟨rfl,rfl⟩:=b;exact⟨es,a,F.symm⟩
     .refine⟨l,?_,rfl⟩;rw[<-b];simp[AB.sx,g,C,w?,ac j]
 .exact⟨l,by rw[<-b];exact AB.Aac (by rw[he,ho _ G]),rfl⟩
theorem zN{p q:PR}(hj:JD D O)(a:AaH D p q=X)(h:GH (AT P) K (p::q::rs) O):GH (AT P) K (q::p::rs) O:=by
 unfold AaH at a;split at a
 .rename_i x v k y z m d e1 e2 e3 f1 f2 f3;simp[y?,decide_eq_false_iff_not,sA]at a;obtain⟨⟨dD,δ⟩,Z⟩:=a;obtain⟨e',M,h⟩:=h;have κ:=hj.congr M.symm;simp only[PR.wp,e1,e2,e3,AE.wp,AB.put]at h;split at h
  .rename_i ε i0 c R;split at h
   .rename_i n es u B hu;obtain⟨h1,h2,es',h3,h4,h5,l4,A,b⟩:=h;have G:d≠ε:=by
     rintro rfl;cases x with
     |c t=>cases R
     |s xs=>exact κ.no (x:=xs) (s:=d) (by simp[AG.ev]at R;rw[R];rfl) dD
    simp [PR.wp,f1,f2,f3,AE.wp,AB.put,AG.wl]at b;have θ:=A.1;obtain⟨⟨w,hw,hww⟩,ho,_⟩:=QP (es':=es') B;have η:w.val=W:=by rcases hww with⟨_,_,_,_,_,rfl⟩|⟨_,_,_,_,_,rfl⟩<;>rfl
    have ζ:∀t,z.val l4=Y t->z.val e'=Y t:=by
     intro t E;cases z with
     |c t'=>exact E|s zz=>
      simp [AG.val,AG.ev]at E|-;by_cases l:ε=zz
      .subst l;rw[θ,hw,η]at E;cases E
      .rw[θ,ho _ l]at E;exact E
    have H:∃g i F j Q,l4.get y=.la g i/\l4.sx g i=Y (m,F)/\z.val l4=Y (.int Q j)/\0<=j/\j<F.length/\GH (AT P) K rs ((d,.lp g i (j.toNat*m))::l4):=by
     cases I:l4.get y<;>rw[I]at b<;>simp[Ax]at b<;>try exact b.elim
     .cases l:z.val l4 with
      |none=>rw[l]at b;exact b.elim|some t=>
       rw [l]at b;cases t<;>try exact b.elim
       have:=b.1.1;simp[AG.ev,I,EV.wm]at this
     .rename_i g i;cases C:l4.sx g i with
      |none=>rw[C]at b;exact b.elim|some pp=>
       obtain ⟨m',F⟩:=pp;rw[C]at b;simp only at b;cases l:z.val l4 with
       |none=>rw[l]at b;exact b.elim|some t=>
        rw [l]at b;cases t<;>try exact b.elim
        rename_i Q j;obtain⟨⟨_,rfl⟩,k1,k2,k3⟩:=b;exact⟨g,i,F,j,Q,rfl,C,rfl,k1,k2,k3⟩
    obtain ⟨g,i,F,j,Q,m1,m2,m3,m4,m5,m6⟩:=H;obtain⟨n1,fs',n2,n3⟩:=tV B h4 θ m1 m2;refine⟨e',M,?_⟩;simp only[PR.wp,f1,f2,f3,AE.wp,AB.put,AG.wl,n1,n2,Ax,ζ _ m3,AG.ev,EV.wm];refine⟨⟨trivial,trivial⟩,m4,by rw[n3];exact m5,_,.refl _,?_⟩;have J:∀(o:AG),d∉o.sl->o.ev ((d,.lp g i (j.toNat*m))::e')=o.ev e':=by
     intro o ho;cases o with
     |c t=>rfl|s t=>
      simp only[AG.ev,AB.d6];rw[ac];intro e;exact ho (by simp[AG.sl,e])
    simp only[PR.wp,e1,e2,e3,AE.wp,AB.put,J x δ,J v Z,R,hu];have L:AB.sx ((d,.lp g i (j.toNat*m))::e') ε i0=Y (n,es):=by rw[AB.x8 G];exact B
    rw [L];refine⟨h1,h2,es',h3,h4,h5,JG m6 ?_⟩;refine Om.symm (Om.trans (cG (.refl _) G) ⟨λs=>?_,λs=>?_⟩)
    .simp[AB.d6,θ]
    .simp[AB.ej,A.2]
   .exact h.elim
  .exact h.elim
 .cases a
theorem dh{O env2:AB}{b:Nat}{o:Option AG}(h:∀y∈o.toList,y.val env2=y.val O):IQ env2 b o=IQ O b o:=by
 cases o with
 |none=>rfl|some y=>simp[IQ];exact h y V
theorem zT{S:FuncId->Fq->A9->Prop}{p:AE}{xs:List AG}{K:EV->AB->Prop}(w:p.vops=Y xs)(h:p.wp S O d K):
  ∃t,K (.tv t) O/\(∀x∈xs,∃u,x.val O=Y u)/\∀env2,(∀x∈xs,x.val env2=x.val O)->∀i:EV->AB->Prop,i (.tv t) env2->p.wp S env2 d i:=by
 cases p<;>simp[AE.vops]at w<;>first|cases w|skip
 case bin k op x y=>
  simp [AE.wp]at h;split at h
  .rename_i a b ha hb;cases o:NF k op a b with
   |none=>rw[o]at h;exact h.elim|some t=>
    rw [o]at h;refine⟨t,h,λz c=>?_,λenv2 he i g=>?_⟩
    .simp at c;rcases c with rfl|rfl
     .exact⟨a,ha⟩
     .exact⟨b,hb⟩
    .simp[AE.wp,he x V,he y V,ha,hb,o];exact g
  .exact h.elim
 case fdv x k=>
  simp [AE.wp]at h;split at h
  .rename_i row ha;refine⟨_,h,λz c=>?_,λenv2 he i g=>?_⟩
   .rw[v6]at c;subst c;exact⟨_,ha⟩
   .simp[AE.wp,he x V,ha];exact g
  .exact h.elim
 case ldv x k=>
  simp [AE.wp]at h;split at h
  .rename_i row ha;refine⟨_,h.2,λz c=>?_,λenv2 he i g=>?_⟩
   .rw[v6]at c;subst c;exact⟨_,ha⟩
   .simp[AE.wp,he x V,ha];exact⟨h.1,g⟩
  .exact h.elim
 case len x=>
  simp [AE.wp]at h;split at h
  .rename_i n es ha;refine⟨_,h,λz c=>?_,λenv2 he i g=>?_⟩
   .rw[v6.1 c];exact⟨_,ha⟩
   .simp[AE.wp,he x V,ha];exact g
  .exact h.elim
 case cvt k x=>
  simp [AE.wp]at h;split at h
  .rename_i E n ha;refine⟨_,h,λz c=>?_,λenv2 he i g=>?_⟩
   .rw[v6.1 c];exact⟨_,ha⟩
   .simp[AE.wp,he x V,ha];exact g
  .exact h.elim
 case mm b x y=>
  simp [AE.wp]at h;split at h
  .rename_i k a E a' ha hb;refine⟨_,h.2,λz c=>?_,λenv2 he i g=>?_⟩
   .simp at c;rcases c with rfl|rfl
    .exact⟨_,ha⟩
    .exact⟨_,hb⟩
   .simp[AE.wp,he x V,he y V,ha,hb];exact⟨h.1,g⟩
  .exact h.elim
 case slc n x lo hi=>
  simp [AE.wp]at h;split at h
  .rename_i m es ha;split at h
   .rename_i A l B r C hr;refine⟨_,h.2.2,λz c=>?_,λenv2 he i g=>?_⟩
    .simp at c;rcases c with rfl|c|c
     .exact⟨_,ha⟩
     .cases c;exact⟨_,C⟩
     .cases c;exact⟨_,hr⟩
    .have A:IQ env2 0 lo=IQ O 0 lo:=dh (λy j=>he y (by simp at j|-;exact .inr (.inl j)));have B:IQ env2 es.length hi=IQ O es.length hi:=dh (λy j=>he y (by simp at j|-;exact .inr (.inr j)));simp[AE.wp,he x V,ha,A,B,C,hr];exact⟨h.1,h.2.1,g⟩
   .exact h.elim
  .exact h.elim
theorem zL{p q:PR}(a:Aa1 D p q=X)(h:GH (AT P) K (p::q::rs) O):GH (AT P) K (q::p::rs) O:=by
 unfold Aa1 at a;split at a
 .rename_i xs d n x v ε Q R κ η ζ;simp[bne_iff_ne,y?,decide_eq_false_iff_not]at a;obtain⟨⟨⟨_,hdx⟩,G⟩,H⟩:=a;obtain⟨e',I,h⟩:=h;unfold PR.wp at h;rw[Q,R]at h;simp[AB.put]at h;obtain⟨t,⟨y,j,hw⟩,hs,J⟩:=zT ε h;obtain⟨s,off,cs,cs',o,h1,L,M,hK,h5⟩:=VF κ η ζ hw;have δ:∀z,d≠z->y.get z=e'.get z:=λz w=>by rw[j.1,AB.d6,ac w]
  have g:d≠s:=λe=>by
   rw [j.1,AB.d6,a6 e]at L;cases L
  have Z:(AG.s x).place e'=Y (s,off):=by
   grind [AG.place]
  have hb:e'.get s=.bx cs:=by rw[<-δ s g];exact L
  have hv:v.ev e'=v.ev y:=by
   cases v with
   |c t=>rfl|s l=>
    grind [AG.ev,AG.sl]
  have hq:∀k:AB->Prop,k (P6 s cs' o e')->q.wp (AT P) e' k:=λk A=>h5 e' Z hb hv k A;refine⟨e',I,hq _ ⟨_,.refl _,?_⟩⟩;unfold PR.wp;rw[Q,R];simp[AB.put];refine J _ (λz w=>?_) _ (JG hK ?_)
  .cases z with
   |c t=>rfl|s m=>
    obtain ⟨u,hu⟩:=hs _ w;have B:¬s=m:=λe=>by
     grind [AG.val,AG.ev,EV.val]
    simp [AG.val,AG.ev,GG,ac B];cases o with
    |none=>rfl|some b=>
     have C:¬b.1=m:=λe=>BB H (x:=m) (w!.2 ⟨_,w,e!⟩) (by rw[(M b.1 b.2 rfl).1,e];simp[AG.sl]);simp[ac C]
  .refine⟨λz=>?_,λz=>?_⟩
   .rw[AB.d6,GG,GG];by_cases E:s=z
    .subst E;rw[a6 rfl,ac g,a6 rfl]
    .rw[ac E,ac E];cases o with
     |none=>
      simp only;rw[j.1,AB.d6]
     |some b=>
      have F:¬d=b.1:=λe=>G (by rw[(M b.1 b.2 rfl).1,e];simp[AG.sl]);simp only;by_cases i:b.1=z
      .rw[a6 i,a6 i,ac (λe=>F (e.trans i.symm))]
      .rw[ac i,ac i,j.1,AB.d6]
   .have θ:∀l e,o=Y (l,e)->e.noR z=X:=λl e he=>by
     obtain ⟨_,⟨t,rfl⟩,_⟩:=M l e he;rfl
    rw [AB.ej,Gw _ _ _ _ _ θ,Gw _ _ _ _ _ θ,j.2,AB.ej]
 .cases a
theorem zH{p q:PR}(hj:JD D O)(a:Aa2 D p q=X)(h:GH (AT P) K (p::q::rs) O):GH (AT P) K (q::p::rs) O:=by
 unfold Aa2 at a;split at a
 .rename_i b m d n x v Q i R ζ δ Z;simp[bne_iff_ne,y?,decide_eq_false_iff_not,sA]at a;obtain⟨⟨⟨⟨⟨⟨_,bD⟩,hbx⟩,hdx⟩,hdb⟩,L⟩,θ⟩:=a;obtain⟨e',F,h⟩:=h;have hj':=hj.congr F.symm;unfold PR.wp at h;rw[Q,i,R]at h;simp[AB.put,AE.wp]at h;split at h
  case h_2=>exact h.elim
  rename_i bs hbs;obtain⟨J,y,w,hw⟩:=h;obtain⟨s,off,cs,cs',o,h1,g,B,H,h5⟩:=VF ζ δ Z hw;have gy:∀z,d≠z->y.get z=e'.get z:=λz κ=>by rw[w.1,AB.d6,ac κ]
  have l:d≠s:=λe=>by
   rw [w.1,AB.d6,a6 e]at g;cases g
  have G:(AG.s x).place e'=Y (s,off):=by
   grind [AG.place]
  have hsb:¬s=b:=by
   intro e;subst e;simp[AG.place]at G;split at G
   next r off' hx=>simp at G;exact hj'.no (x:=x) (s:=s) (by rw[hx,<-G.1];rfl) bD
   .grind
   .cases G
  have hb:e'.get s=.bx cs:=by rw[<-gy s l];exact g
  have hv:v.ev e'=v.ev y:=by
   cases v with
   |c t=>rfl|s E=>
    grind [AG.ev,AG.sl]
  have hq:∀C:AB->Prop,C (P6 s cs' o e')->q.wp (AT P) e' C:=λC η=>h5 e' G hb hv C η;refine⟨e',F,hq _ ⟨_,.refl _,?_⟩⟩;have hg:(P6 s cs' o e').get b=.bx bs:=by
   grind [GG,AG.sl]
  unfold PR.wp;rw[Q,i,R];simp[AB.put,AE.wp,hg];refine⟨J,JG H ?_⟩;refine⟨λz=>?_,λz=>?_⟩
  .rw[AB.d6,GG,GG];by_cases A:s=z
   .subst A;rw[a6 rfl,ac l,a6 rfl]
   .rw[ac A,ac A];cases o with
    |none=>
     simp only;rw[w.1,AB.d6]
    |some j=>
     have I:¬d=j.1:=λe=>L q!;simp only;by_cases u:j.1=z
     .rw[a6 u,a6 u,ac (λe=>I (e.trans u.symm))]
     .rw[ac u,ac u,w.1,AB.d6]
  .have J:∀E e,o=Y (E,e)->e.noR z=X:=λE e he=>by
    obtain ⟨_,⟨t,rfl⟩,_⟩:=B E e he;rfl
   rw [AB.ej,Gw _ _ _ _ _ J,Gw _ _ _ _ _ J,w.2,AB.ej]
 .rename_i b k d n x v Q i R ζ δ Z;simp[bne_iff_ne,y?,decide_eq_false_iff_not,sA]at a;obtain⟨⟨⟨_,hdx⟩,L⟩,θ⟩:=a;obtain⟨e',F,h⟩:=h;unfold PR.wp at h;rw[Q,i,R]at h;obtain⟨ε,hn0,M,y,w,hw⟩:∃ε,(∀c,ε≠.bx c)/\(∀i:AB,i.get b=e'.get b\/(∃c c',e'.get b=.bx c/\i.get b=.bx c')->∀C:EV->AB->Prop,C ε i->(AE.bad b k).wp (AT P) i (Y d) C)/\GH (AT P) K (q::rs) ((d,ε)::e'):=by
   simp only[AB.put,AE.wp]at h;split at h
   .rename_i hb;refine⟨_,V,λi g C H=>?_,h⟩;obtain⟨c',B⟩:∃c',i.get b=.bx c':=by
     rcases g with g|⟨_,c',_,g⟩
     .exact⟨_,g.trans hb⟩
     .exact⟨c',g⟩
    simp only[AE.wp,B];exact H
   .rename_i hb;refine⟨_,V,λi g C H=>?_,h⟩;have B:i.get b=e'.get b:=g.resolve_right λ⟨c,c',h4,_⟩=>by rw[hb]at h4;cases h4
    simp only[AE.wp,B,hb];exact H
   .exact h.elim
  obtain ⟨s,off,cs,cs',o,h1,g,B,H,h5⟩:=VF ζ δ Z hw;have gy:∀z,d≠z->y.get z=e'.get z:=λz κ=>by rw[w.1,AB.d6,ac κ]
  have l:d≠s:=λe=>by
   rw [w.1,AB.d6,a6 e]at g;exact hn0 _ g
  have G:(AG.s x).place e'=Y (s,off):=by
   grind [AG.place]
  have hb:e'.get s=.bx cs:=by rw[<-gy s l];exact g
  have hv:v.ev e'=v.ev y:=by
   cases v with
   |c t=>rfl|s E=>
    grind [AG.ev,AG.sl]
  refine ⟨e',F,h5 e' G hb hv _ ⟨_,.refl _,?_⟩⟩;unfold PR.wp;rw[Q,i,R];refine M _ ?_ _ (JG H ?_)
  .rw[GG];by_cases A:s=b
   .subst A;exact .inr ⟨cs,cs',hb,by rw[a6 rfl]⟩
   .rw[ac A];cases o with
    |none=>exact .inl rfl|some j=>
     have:¬j.1=b:=λe=>θ q!;simp only;rw[ac this];exact .inl rfl
  refine ⟨λz=>?_,λz=>?_⟩
  .simp only[AB.put];rw[AB.d6,GG,GG];by_cases A:s=z
   .subst A;rw[a6 rfl,ac l,a6 rfl]
   .rw[ac A,ac A];cases o with
    |none=>
     simp only;rw[w.1,AB.d6]
    |some j=>
     have I:¬d=j.1:=λe=>L q!;simp only;by_cases u:j.1=z
     .rw[a6 u,a6 u,ac (λe=>I (e.trans u.symm))]
     .rw[ac u,ac u,w.1,AB.d6]
  .have J:∀E e,o=Y (E,e)->e.noR z=X:=λE e he=>by
    obtain ⟨_,⟨t,rfl⟩,_⟩:=B E e he;rfl
   simp only[AB.put];rw[AB.ej,Gw _ _ _ _ _ J,Gw _ _ _ _ _ J,w.2,AB.ej]
 .cases a
theorem nc{oq:Oper}(u:Nv P N ops oq q=X){b:List PR}:∀(a:List PR),(∀p∈a,AaN D p q=X/\∃o,Nv P N ops o p=X)->∀{O:AB},Ns F0 w0 N O->JD D O->GH (AT P) K (a++q::b) O->GH (AT P) K (q::(a++b)) O
 |[],_,O,_,_,h=>h|p::a,g,O,B,C,h=>by
  obtain ⟨c,o,ho⟩:=g p V;obtain⟨e',i,h⟩:=h;obtain⟨l4,A,k,l,j⟩:=head ho (jB c) (B.congr i.symm) (C.congr i.symm) h;have z:=nc u a (λp w=>g p (by simp[w])) k l A;have t:GH (AT P) K (p::q::(a++b)) O:=⟨e',i,j _ z⟩;simp[AaN]at c
  grind [swap,wN,zD,zK,zO,zC,zN,zL,zH,zF,zE,zQ,zJ,zI]
variable{x:AG}
theorem ABI{S:FuncId->Fq->A9->Prop}{K:EV->AB->Prop}(h:(AE.st n x v).wp S O d K):(AE.st n x v).wp S O d λe env'=>K e env'/\e=.undef/\∀c,env'.f0 c=O.f0 c:=by
 simp [AE.wp]at h|-;split at h
 .rename_i s off a;split at h
  .rename_i cs b;split at h
   .grind[AB.ej,EV.noR,EV.wm]
   .grind[AB.ej,EV.noR,EV.wm]
   .exact h.elim
  .exact h.elim
 .exact h.elim
variable{s:Nat}
theorem xi{S:FuncId->Fq->A9->Prop}{K:EV->AB->Prop}(h:(AE.stb n s v).wp S O d K):(AE.stb n s v).wp S O d λe env'=>K e env'/\e=.undef/\∀c,env'.f0 c=O.f0 c:=by
 simp [AE.wp]at h|-;split at h
 .rename_i cs a;split at h
  .grind[AB.ej,EV.noR,EV.wm]
  .grind[AB.ej,EV.noR,EV.wm]
  .exact h.elim
 .exact h.elim
theorem Ye(O:AB)(q:Nat)(i:Option Nat)(n:Nat)(es:Fq)(c:Nat):AB.f0 c (O.x5 q i n es)=AB.f0 c O:=by
 cases i with
 |none=>simp[AB.x5,AB.ej,EV.noR,EV.wm]|some k=>
  grind [AB.x5,AB.ej,EV.noR,EV.wm]
theorem xf{S:FuncId->Fq->A9->Prop}{q:Nat}{K:EV->AB->Prop}(h:(AE.cpt x q).wp S O d K):(AE.cpt x q).wp S O d λe env'=>K e env'/\e=.undef/\∀c,env'.f0 c=O.f0 c:=by
 simp [AE.wp]at h|-;split at h
 .grind[AB.ej,EV.noR,EV.wm]
 .grind[AB.ej,EV.noR,EV.wm]
 .exact h.elim
theorem xm{S:FuncId->Fq->A9->Prop}{k:Nat}{K:EV->AB->Prop}(h:(AE.xst x v k).wp S O d K):(AE.xst x v k).wp S O d λe env'=>K e env'/\e=.undef/\∀c,env'.f0 c=O.f0 c:=by
 simp [AE.wp]at h|-;split at h
 .grind[Ye]
 .exact h.elim
theorem mA(O:AB)(q i:Nat)(es:Fq)(c:Nat):AB.f0 c (O.Abz q i es)=AB.f0 c O:=by grind[AB.Abz,AB.ej,EV.noR,EV.wm]
theorem xh{S:FuncId->Fq->A9->Prop}{K:EV->AB->Prop}(h:(AE.nst x v).wp S O d K):(AE.nst x v).wp S O d λe env'=>K e env'/\e=.undef/\∀c,env'.f0 c=O.f0 c:=by
 simp [AE.wp]at h|-
 grind [mA]
theorem xj{S:FuncId->Fq->A9->Prop}{a:List (Option AS)}{K:EV->AB->Prop}(h:(AE.stq n a x v).wp S O d K):(AE.stq n a x v).wp S O d λe env'=>K e env'/\e=.undef/\∀c,env'.f0 c=O.f0 c:=by
 simp [AE.wp]at h|-;split at h
 .rename_i s off t b hv;split at h
  .rename_i cs g;cases hb:FB a t.cells with
   |none=>rw[hb]at h;exact h.elim|some ds=>
    grind [AB.ej,EV.noR,EV.wm]
  .exact h.elim
 .exact h.elim
theorem xg{S:FuncId->Fq->A9->Prop}{m x v:AG}{K:EV->AB->Prop}(h:(AE.mup s m x v).wp S O d K):(AE.mup s m x v).wp S O d λe env'=>K e env'/\e=.undef/\∀c,env'.f0 c=O.f0 c:=by
 simp [AE.wp]at h|-;split at h
 .rename_i b a g t i j k;split at h
  .grind[AB.ej,EV.noR,EV.wm]
  .exact h.elim
 .exact h.elim
theorem xk{S:FuncId->Fq->A9->Prop}{n s q:Nat}{K:EV->AB->Prop}(h:(AE.stx n s q).wp S O d K):(AE.stx n s q).wp S O d λe env'=>K e env'/\e=.undef/\∀c,env'.f0 c=O.f0 c:=by
 simp [AE.wp]at h|-
 grind [AB.ej,EV.noR,EV.wm]
theorem q8{S:FuncId->Fq->A9->Prop}{f:FuncId}{a:List AG}{K:EV->AB->Prop}(h:(AE.Aas f x a).wp S O d K):(AE.Aas f x a).wp S O d λe env'=>K e env'/\e.wm=W/\∀c,env'.f0 c=O.f0 c:=by
 simp only[AE.wp]at h|-;cases b:x.wl O with
 |none=>rw[b]at h;exact h.elim|some p=>
  cases hv:vals O a with
  |none=>rw[b,hv]at h;exact h.2.elim|some u=>
   rw [b,hv]at h;obtain⟨j,zs,g,k,l,o,t⟩:=h;refine⟨j,zs,g,k,l,o,λi=>⟨t i,?_,λc=>Ye _ _ _ _ _ c⟩⟩;unfold EV.ofs;split<;>rfl
variable{r:PR}
theorem u0{S:FuncId->Fq->A9->Prop}{K:AB->Prop}(I:fh D r=X)(hd:Ov r.op=X->r.dst=W)(a:JD D O)(h:r.wp S O K):r.wp S O λenv'=>K env'/\JD D env':=by
 simp [fh,y?]at I;rcases I with(((((w|G)|k)|κ)|η)|H)|⟨⟨⟨hm,i⟩,J⟩,hb⟩
 rotate_right 2
 .unfold okCm at H;split at H
  .rename_i f x ys d o t;have put:∀e:EV,e.wm=W->∀env':AB,(∀c,env'.f0 c=O.f0 c)->JD D (env'.put r.dst e):=λe he env' Q c ζ=>by
    rw [t];show AB.f0 c ((d,e)::env')=X;rw[AB.ej,Q,a c ζ];simp[EV.noR,he]
   have u:(r.op.wp S O r.dst λe env'=>K (env'.put r.dst e))->r.op.wp S O r.dst λe env'=>K (env'.put r.dst e)/\JD D (env'.put r.dst e):=λl=>by
    rw [o]at l|-;exact AE.l3 S O _ (λe env' he=>⟨he.1,put e he.2.1 env' he.2.2⟩) _ (q8 l)
   unfold PR.wp at h|-;split
   next J=>rw[J]at h;exact u h
   .rename_i g b J;rw[J]at h;simp only at h;split
    next q k=>rw[k]at h;exact⟨λhb=>u (h.1 hb),λhb=>⟨h.2 hb,put .sk rfl O λ_=>rfl⟩⟩
    next B=>rw[B]at h;exact⟨h,put .sk rfl O λ_=>rfl⟩
    .rename_i C E;split at h
     next q k=>exact absurd k (C q)
     next k=>exact absurd k E
     .exact h.elim
  .cases H
 rotate_right
 .exact PR.l3 _ _ (λenv' he=>⟨he.1,λx A=>by rw[he.2];exact a x A⟩) r (rE η h)
 rotate_left 4
 .obtain⟨l4,Z,k2,k3⟩:=fi κ h;exact k3 _ ⟨Z,λx A=>by rw[k2];exact a x A⟩
 rotate_left 1
 .have i:=hd w;have u:(r.op.wp S O r.dst λe env'=>K (env'.put r.dst e))->r.op.wp S O r.dst λe env'=>K (env'.put r.dst e)/\JD D (env'.put r.dst e):=by
   intro l;rw[i]at l|-;generalize r.op=p at w l|-;cases p<;>simp[Ov]at w<;>first|cases w|skip
   .refine AE.l3 S O W (λe env' he=>⟨he.1,λd hd=>?_⟩) _ (ABI l);simp[AB.put];rw[he.2.2];exact a d hd
   .refine AE.l3 S O W (λe env' he=>⟨he.1,λd hd=>?_⟩) _ (xi l);simp[AB.put];rw[he.2.2];exact a d hd
   .refine AE.l3 S O W (λe env' he=>⟨he.1,λd hd=>?_⟩) _ (xm l);simp[AB.put];rw[he.2.2];exact a d hd
   .refine AE.l3 S O W (λe env' he=>⟨he.1,λd hd=>?_⟩) _ (xk l);simp[AB.put];rw[he.2.2];exact a d hd
   .refine AE.l3 S O W (λe env' he=>⟨he.1,λd hd=>?_⟩) _ (xf l);simp[AB.put];rw[he.2.2];exact a d hd
   .refine AE.l3 S O W (λe env' he=>⟨he.1,λd hd=>?_⟩) _ (xh l);simp[AB.put];rw[he.2.2];exact a d hd
   .refine AE.l3 S O W (λe env' he=>⟨he.1,λd hd=>?_⟩) _ (xj l);simp[AB.put];rw[he.2.2];exact a d hd
   .refine AE.l3 S O W (λe env' he=>⟨he.1,λd hd=>?_⟩) _ (xg l);simp[AB.put];rw[he.2.2];exact a d hd
  unfold PR.wp at h|-;split
  .grind
  .rename_i g b hr;rw[hr]at h;simp only at h;split
   next q k=>rw[k]at h;exact⟨λhb=>u (h.1 hb),λhb=>⟨h.2 hb,by rw[i];exact a⟩⟩
   next B=>rw[B]at h;exact⟨h,by rw[i];exact a⟩
   .rename_i C E;split at h
    next q k=>exact absurd k (C q)
    next k=>exact absurd k E
    .exact h.elim
 .unfold Abq at G;split at G
  next gs d o t F=>obtain⟨ts,M,θ,ε⟩:=Wx o t F h;refine Tw o t F M θ ⟨ε,λx A=>?_⟩;rw[AB.ej,NO,a x A];rfl
  .cases G
 .unfold okQ at k;split at k
  next s d o t F=>obtain⟨n,es,M,h2,θ,ε⟩:=k7 o t F h;refine k8 o t F M h2 θ ⟨ε,λx A=>?_⟩;have:=a x A;simp[AB.ej,EV.noR,EV.wm,this]
  .rename_i n s z x d o t F;simp[PR.wp,o,t,F,AE.wp,AB.put]at h|-;split at h
   next d' m es kk j L hs A=>simp at L;subst L;refine⟨h.1,h.2.1,h.2.2.1,h.2.2.2,λy δ=>?_⟩;have:=a y δ;simp[AB.ej,EV.noR,EV.wm,this]
   .exact h.elim
  .cases k
 .obtain⟨d,hd⟩:=z?.1 i;have R:r.op.sc=X->r.guard=W:=λQ=>by
   rcases J with h|h
   .rw[Q]at h;cases h
   .simpa using h
  refine PR.l3 S O (λenv' he=>?_) r (Qw hd hm R h);obtain⟨M,e,f,hF⟩:=he;exact⟨M,hF.jd hb a⟩
theorem qn{S:FuncId->Fq->A9->Prop}{a:Act}{w:World}:∀{O:AB},UL rs=X->GH S K rs O->CI F0 w0 O a w->∃env',K env'/\CI F0 w0 env' a w:=by
 induction rs with
 |nil=>intro O _ h b;obtain⟨e,g,i⟩:=h;exact⟨e,i,b.congr λn=>(g.1 n).symm⟩
 |cons r rs u=>
  intro O c h b;simp[UL]at c;obtain⟨g,i⟩:=c;obtain⟨e',j,h⟩:=h;have b:=b.congr (λn=>(j.1 n).symm);split at g
  .rename_i s k l o;simp[PR.wp,k,l,o,AE.wp]at h;split at h
   next cs t=>obtain⟨G,b⟩:=b;exact u i h (b.frz t)
   .exact h.elim
  .cases g
theorem UM:∀(os:List Oper)(rs:List PR),N3 P N ops os rs=X->(∀i o,os[i]?=Y o->Nv P N ops o (Pe rs i)=X)/\UL (rs.drop os.length)=X/\rs=(v? os.length).map (Pe rs)++rs.drop os.length
 |[],rs,h=>⟨λi o h=>by simp at h,h,V⟩|o::os,[],h=>by simp[N3]at h|o::os,r::rs,h=>by
  simp [N3]at h;obtain⟨b,c,g⟩:=UM os rs h.2;refine⟨λi a hi=>?_,by simpa using c,?_⟩
  .cases i with
   |zero=>simp[List.getElem?_cons_zero]at hi;subst hi;exact h.1|succ i=>simp[List.getElem?_cons_succ]at hi;exact b i a hi
  .rw[cE,List.range_succ_eq_map,v1,List.map_map,v5,List.drop_succ_cons];congr 1
theorem nk{Q:Exit->Act->World->Prop}(hok:VY P N D ops rs=X)(hpd:∀i v,p=Y (i,v)->∀r∈rs,r.dst≠Y i)(hQ:∀O a w,K O->Me N p a->CI F0 w0 O a w->Q .normal a w):
  ∀(fuel:Nat)(rem:Ne)(b:Array Bool)(O:AB)(a:Act)(w:World),rem.length=fuel->rem.Pairwise (·<·)->(∀j,j∈rem↔j<ops.size/\b.getD j X=T)->b.size=ops.size ->
   (∀k o,ops[k]?=Y o->b.getD k T=X->∀e∈o.after,Region.binds .any e=X->b.getD e.on T=X) ->
   Me N p a->CI F0 w0 O a w->JD D O->GH (AT P) K (rem.map (Pe rs)++rs.drop ops.size) O->wpAny P .any ops Q fuel b a w:=by
 simp only[VY,ne,v!,x_]at hok;obtain⟨⟨⟨⟨hl,hs⟩,he⟩,hM⟩,hP⟩:=hok;obtain⟨F,hl2,hl3⟩:=UM ops.toList rs hl;simp[Array.getElem?_toList]at F hl2 hl3;intro fuel
 induction fuel with
 |zero=>
  intro rem b O a w u R c hsz θ hN hI M h;have:rem=[]:=List.eq_nil_of_length_eq_zero u;subst this;refine⟨?_,?_⟩
  .refine List.eq_nil_iff_forall_not_mem.2 λj I=>?_;rw[mem_ready]at I;obtain⟨H,o,ho,_⟩:=I;have:=(c j).2 ⟨(A'.1 ho).1,H⟩;cases this
  .obtain⟨env',H,t⟩:=qn hl2 h hI;exact hQ env' a w H hN t
 |succ fuel ih=>
  intro rem b O a w u R c hsz θ hN hI M h;refine⟨λhnil=>?_,λi hi=>?_⟩
  ·
   exfalso;cases rem with
   |nil=>simp at u|cons i rem=>
    have H:=(c i).1 V;have l:i∈Region.ready .any ops b:=by
     rw [mem_ready];have ho:ops[i]?=Y ops[i]:=A! H.1;refine⟨H.2,_,ho,λe A hb=>?_⟩;have:=he i H.1;rw[ho]at this;simp only[v!,y!,y?,sA]at this;have hlt:=(this e t!).resolve_left (by simp[hb]);cases E:b.getD e.on T with
     |true=>rfl|false=>
      have ε:e.on∈i::rem:=by
       refine (c _).2 ⟨U,?_⟩;have:e.on<b.size:=U
       simp [A?,A! this]at E|-;exact E
      rcases x!.1 ε with t|t
      .omega
      .have:=(x?.1 R).1 _ t;omega
    rw [hnil]at l;cases l
  .have hi':=hi;rw[mem_ready]at hi';obtain⟨hi1,o,ho,hi2⟩:=hi';have l:i<ops.size:=(A'.1 ho).1;have hir:i∈rem:=(c i).2 ⟨l,hi1⟩;obtain⟨G,z,rfl⟩:=List.append_of_mem hir;have g:=y_.1 R;have J:∀j∈G,j<i:=λj M=>g.2.2 j M i V;have η:∀j∈z,i<j:=λj M=>(x?.1 g.2.1).1 j M;have before:∀(k:Nat),k<ops.size->(∀o,ops[k]?=Y o->∀e∈o.after,Region.binds .any e=X->b.getD e.on T=X)->∀j,j<ops.size->((uA ops).getD k 0).testBit j=X->b.getD j T=X:=by
    intro k
    induction k using Nat.strongRecOn with
    |_ k ihk=>
     intro Z hdir j C hb;have:=hM k Z j C;rw[hb]at this;simp only[z!,Bool.false_or]at this;split at this
     .rename_i ok hok';simp only[List.any_eq_true,ne,y!,beq_iff_eq,sA]at this;obtain⟨e,A,hbe,h3⟩:=this;have E:=hdir ok hok' e t! hbe;rcases h3 with h3|⟨h3,h4⟩
      .rw[<-h3];exact E
      .exact ihk e.on h3 U (λL B e' he' hb'=>θ e.on L B E e' he' hb') j C h4
     .cases this
   have hwp:GH (AT P) K (Pe rs i::(G.map (Pe rs)++(z.map (Pe rs)++rs.drop ops.size))) O:=by
    refine nc (ops:=ops) (F0:=F0) (w0:=w0) (N:=N) (oq:=o) (F i o ho) (G.map (Pe rs)) (λp hp=>?_) ⟨a,w,hN.size,hI⟩ M c?;obtain⟨j,hj1,rfl⟩:=List.mem_map.1 hp;have hlt:=J j hj1;have C:j<ops.size:=U
    refine ⟨?_,ops[j],F j _ (A! C)⟩;have:=hP i l j hlt;rw[y!]at this;refine this.resolve_left λhb=>?_;have H:=before i l (λL B=>by rw[ho]at B;simp at B;subst B;exact hi2) j C hb;have t:=((c j).1 (by simp[hj1])).2;have:j<b.size:=U
    simp [A?,A! this]at H t;rw[H]at t;cases t
   obtain ⟨e',heq,hw⟩:=hwp;have hI':=hI.congr (λn=>(heq.1 n).symm);have I:=M.congr heq.symm;have hstd:Ov (Pe rs i).op=X->(Pe rs i).dst=W:=by
    intro hst;have:=F i o ho;simp[Nv]at this;have t:=this.2;split at t
    .simp only[hst,z!,Bool.and_false,Bool.false_and]at t;cases t
    .assumption
    .cases t
   have hw':=u0 (hs i l) hstd I hw;have ζ:∀j,j∈G++z↔j<ops.size/\(b.setIfInBounds i X).getD j X=T:=by
    intro j;by_cases δ:j=i
    .subst δ;constructor
     .intro ε;rcases w_.1 ε with ε|ε
      .have:=J _ ε;omega
      .have:=η _ ε;omega
     .rintro⟨_,t⟩;have:j<b.size:=U
      simp [this]at t
    .rw[getD_set_ne X (λe=>δ e.symm),<-c j];simp[δ]
   have hcl':∀k L,ops[k]?=Y L->(b.setIfInBounds i X).getD k T=X->∀e∈L.after,Region.binds .any e=X->(b.setIfInBounds i X).getD e.on T=X:=by
    intro k L Z hlk e A hb;refine getD_set_true ?_;by_cases hki:k=i
    .subst hki;rw[ho]at Z;simp at Z;subst Z;exact hi2 e A hb
    .rw[getD_set_ne T (λe=>hki e.symm)]at hlk;exact θ k L Z hlk e A hb
   have hpdi:∀j v,p=Y (j,v)->(Pe rs i).dst≠Y j:=by
    intro j v hp;unfold Pe;cases hr:rs[i]? with
    |none=>simp|some r=>exact hpd j v hp r (List.mem_of_getElem? hr)
   have:=XP (Q:=Q) (next:=wpAny P .any ops Q fuel (b.setIfInBounds i X)) hI' hN hpdi (F i o ho) hw' λenv' a' w' k1 k2 k3=>
    ih (G++z) _ env' a' w' (by simp at u|-;omega) (y_.2 ⟨g.1,(x?.1 g.2.1).2,λx hx y hy=>g.2.2 x hx y (by simp[hy])⟩) ζ (by simpa using hsz) hcl' k2 k3 k1.2 (by simpa using k1.1)
   unfold Go.wpOp;rw[ho];simp;split
   next κ=>rw[a6 κ]at this;exact .inl this
   next κ=>rw[ac κ]at this;exact this
theorem aN:∀(ds:Ne)(O:AB),TM O ds=X->JD ds O
 |[],O,_=>λd hd=>by simp at hd|d::ds,O,h=>by
  simp [TM]at h;intro x a;rcases x!.1 a with rfl|a
  .exact h.1
  .exact aN ds O h.2 x a
theorem NJ(I:P.follows .mixedOrders=X):Md P N (VY P N):=by
 intro F0 w0 p id ds ops rs g O a w K Q z B η c hd h ζ;refine wp_region_any I ?_;have l:=z;simp[VY]at l;obtain⟨_,_,E⟩:=UM ops.toList rs l.1.1.1.1;simp at E;have C:CI F0 w0 O a {w with drawn:=w.drawn+1}:=by
  obtain ⟨G,c⟩:=c;refine⟨G,c.ln,c.lt,⟨c.below.os,c.below.tape,c.below.output,c.below.size,c.below.block,c.below.cell,c.below.free,c.below.tab⟩,c.defers,c.dom,λs J=>?_,c.wf⟩;exact AN.kept (w:=w) (w':={w with drawn:=w.drawn+1}) (F:=AU w0.heap.size F0 G) (G:=G) (O:=O) (a:=a) (λb o u L M=>⟨L,M⟩) (λ_=>rfl) (λ_ _ _ _=>rfl) rfl (λ_ _ _ _ _=>rfl) (λr i k hr R=>⟨R,λv hv=>by cases k<;>exact hv⟩) (λr off hr t=>⟨t,rfl⟩) (λr i hr t=>⟨t,λ_ hv=>hv⟩) (c.slots s J)
 refine nk (K:=λe=>K (e.fq g)) (F0:=F0) (w0:=w0) z B (λO a w θ ε κ=>ζ _ a w θ ε (κ.fq g)) ops.size (v? ops.size) _ O a _ V List.pairwise_lt_range (λj=>?_) V (λk o δ A=>?_) η C (aN ds O hd) ?_
 .rw[x_];constructor
  .intro H;exact⟨H,by simp[A?,B_,H]⟩
  .exact λh=>h.1
 .simp[A?,B_]at A;split at A<;>simp at A
 grind [qE]
end
end Go.Sf
