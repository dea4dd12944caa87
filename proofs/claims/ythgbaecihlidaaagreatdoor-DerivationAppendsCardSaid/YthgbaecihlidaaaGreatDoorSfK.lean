/- Operations that take a list of one's own, in drawn regions. -/
import Derived.Test.YthgbaecihlidaaaGreatDoorSfSwap
set_option linter.all false
namespace Go.Sf
def AD.tkn:AD->Option QQ
 |.Abr _=>some []|.Abt _=>some []|.tkx s=>some [s]|.Abg _ s _=>some [s]|.Abw q=>some [q]|_=>none
def Pq(qs:QQ)(O:AB):AB:=qs.map (·,EV.undef)++O
theorem NF(qs:QQ)(O:AB)(n:Nat):AB.get (Pq qs O) n=if n∈qs then .undef else O.get n:=by
 induction qs with
 |nil=>rfl|cons q qs a=>
  grind [Pq,AB.ec]
theorem Hr(qs:QQ)(O:AB)(c:Nat):AB.jj c (Pq qs O)=AB.jj c O:=by
 induction qs with
 |nil=>rfl|cons q qs a=>
  simp only[Pq,List.map_cons,List.cons_append,AB.fd]at a|-;rw[a];rfl
structure bI(S:FuncId->Fq->Az->Prop)(op:AD)(qs:QQ)(d:Nat)(O:AB)(e:EV):Prop where
 dno:O.jj d=true
 AbI:e.ref=none
 slbx:∀n∈op.slots,∀cs,O.get n≠.bx cs
 sub:∀n∈qs,n∈op.slots
 again:∀env2,(∀n∈op.slots,env2.get n=O.get n)->env2.jj d=true->∀K2:EV->AB->Prop,K2 e (Pq qs env2)->op.wp S env2 (some d) K2
variable{y:AE}
theorem qc{O env2:AB}(h:∀n∈y.sl,env2.get n=O.get n):y.val env2=y.val O:=by
 cases y with
 |c t=>rfl|s n=>simp only[AE.val,AE.ev,h n (by simp[AE.sl])]
variable{O:AB}
theorem qa{t:TV}(h:y.val O=some t):∀n∈y.sl,∀cs,O.get n≠.bx cs:=by
 intro n a cs b;cases y with
 |c t=>simp[AE.sl]at a|s m=>
  grind [AE.sl,List.mem_singleton,AE.val,AE.ev,EV.val]
variable{qs:QQ}
theorem take{S:FuncId->Fq->Az->Prop}{op:AD}{d:Nat}{K:EV->AB->Prop}(c:op.tkn=some qs)(h:op.wp S O (some d) K):∃e,bI S op qs d O e/\K e (Pq qs O):=by
 cases op<;>simp only[AD.tkn,reduceCtorEq,wi]at c
 case Abt n=>
  subst c;simp only[AD.wp]at h;exact⟨_,⟨h.1,rfl,by simp[AD.slots],by simp,fun env2 _ a j b=>⟨a,b⟩⟩,h.2⟩
 case Abr n=>
  subst c;simp only[AD.wp]at h;exact⟨_,⟨h.1,rfl,by simp[AD.slots],by simp,fun env2 _ a j b=>⟨a,b⟩⟩,h.2⟩
 case tkx s=>
  subst c;simp only[AD.wp]at h;split at h
  .rename_i t n es hd i;simp only[wi]at hd;subst hd;refine⟨.xo n es,⟨h.1,rfl,fun m u cs l=>?_,by simp[AD.slots],fun env2 g a j b=>?_⟩,h.2.2⟩
   .grind[AD.slots,List.mem_singleton]
   .have:=g s (by simp[AD.slots]);simp only[AD.wp,this,i];exact⟨a,h.2.1,b⟩
  .exact h.elim
 case Abw q=>
  subst c;simp only[AD.wp]at h;split at h
  .rename_i t n k hd i;simp only[wi]at hd;subst hd;refine⟨.x1 n k,⟨h.1.1,rfl,fun m u cs l=>?_,by simp[AD.slots],fun env2 g a j b=>?_⟩,h.2⟩
   .grind[AD.slots,List.mem_singleton]
   .have:=g q (by simp[AD.slots]);simp only[AD.wp,this,i];exact⟨⟨a,h.1.2⟩,b⟩
  .exact h.elim
 case Abg n s y=>
  subst c;simp only[AD.wp]at h;split at h
  .rename_i t m es m' k hd i w;simp only[wi]at hd;subst hd;obtain⟨B,C,E,F,G,H⟩:=h;refine⟨.xo n (es++k),⟨F,rfl,fun x o cs l=>?_,by simp[AD.slots],fun env2 g a j b=>?_⟩,H⟩
   .grind[AD.slots,qa]
   .have z:=g s (by simp[AD.slots]);have A:=qc (O:=O) (env2:=env2) (y:=y) (fun x o=>g x (by simp[AD.slots,o]));simp only[AD.wp,z,i,A,w];exact⟨B,C,E,a,G,b⟩
  .exact h.elim
def PR.tk(r:PR):Option (QQ×Nat):=
 match r.op.tkn,r.guard,r.dst with
 |some qs,none,some d=>some (qs,d)|_,_,_=>none
variable{r:PR}
theorem PR.tk_some{d:Nat}(h:r.tk=some (qs,d)):r.op.tkn=some qs/\r.guard=none/\r.dst=some d:=by
 unfold PR.tk at h
 grind
theorem VN{S:FuncId->Fq->Az->Prop}{d:Nat}{K:AB->Prop}(g:r.tk=some (qs,d))(h:r.wp S O K):∃e,bI S r.op qs d O e/\K ((d,e)::Pq qs O)/\
  ∀env2,(∀n∈r.op.slots,env2.get n=O.get n)->env2.jj d=true->∀a:AB->Prop,a ((d,e)::Pq qs env2)->r.wp S env2 a:=by
 obtain ⟨l,o,t⟩:=PR.tk_some g;have k:r.op.wp S O (some d) fun e env'=>K ((d,e)::env'):=by
  grind [PR.wp,AB.put]
 obtain ⟨e,c,u⟩:=take l k;refine⟨e,c,u,fun env2 i j a b=>?_⟩;unfold PR.wp;rw[o];simp only[t,AB.put];exact c.again env2 i j (fun e env'=>a ((d,e)::env')) b
def Aaw(D:QQ)(p q:PR):Bool:=
 match q.tk with
 |some (qs,d)=>PR.Aan D p&&D.contains d&&qs.all D.contains&&EP p.dst.toList (d::q.op.slots)&&EP (d::qs) (p.op.slots++p.gsl)&&EP p.op.dem q.op.slots|none=>false
def Aa3(p q:PR):Bool:=
 match p.tk,q.tk with
 |some (_,dp),some (_,dq)=>EP (dp::p.op.slots) (dq::q.op.slots)|_,_=>false
section
variable{P:Program}{F0:Nat->Nat->Prop}{w0:W0}{N:Nat}{ops:Array Oper}{K:AB->Prop}{D:QQ}
variable{r:PR}{O pc:AB}{e:EV}{f:BG}
theorem Nr.away{S:FuncId->Fq->Az->Prop}{d:Nat}(h:Nr S r d O pc e f){x:Nat}(a:x∉r.op.slots)(b:∀y,(O.get y).ref≠some x)(u:EV):f.on x u=u:=by
 have c:=h.slot;have g:=h.cell;cases f with
 |none=>rfl|slot s t=>
  grind [BG.on,CH]
 |cell s off t=>
  simp only[BG.on]
  grind
theorem Nr.stay{S:FuncId->Fq->Az->Prop}{d:Nat}(h:Nr S r d O pc e f){x:Nat}(a:x∉r.op.dem)(b:∀cs,O.get x≠.bx cs):f.on x (O.get x)=O.get x:=by
 have c:=h.slot;have g:=h.ok;cases f with
 |none=>rfl|slot s t=>
  grind [BG.on]
 |cell s off t=>
  simp only[BG.on]
  grind
theorem TX(h:PR.Aan D r=true):∃d,r.dst=some d/\r.op.mov=true/\(r.op.x6=true->r.guard=none)/\EP r.op.Abb D=true/\(r.op.x6=true\/d∈D):=by
 simp only[PR.Aan,tg,Bool.or_eq_true,Bool.not_eq_true']at h;obtain⟨⟨⟨⟨b,c⟩,g⟩,i⟩,j⟩:=h;obtain⟨d,hd⟩:=Option.isSome_iff_exists.1 c;refine⟨d,hd,b,fun a=>?_,i,?_⟩
 .rcases g with h|h
  .rw[a]at h;cases h
  .simpa using h
 grind [PR.old]
variable{rs:List PR}
theorem qR(hR:Ki F0 w0 N O)(hj:JD D O){op:Oper}{p q:PR}(hp:Km P N ops op p=true)(a:Aaw D p q=true)(h:Ee (AO P) K (p::q::rs) O):Ee (AO P) K (q::p::rs) O:=by
 unfold Aaw at a;split at a
 .rename_i qs d ht;simp only[tg,List.contains_eq_mem,zzX,List.all_eq_true]at a;obtain⟨⟨⟨⟨⟨Z,dD⟩,sD⟩,T⟩,U⟩,c3⟩:=a;obtain⟨w,J,pm,pg',pb,_⟩:=TX Z;rw[J]at T;simp only[Option.toList_some]at T;have hpd:w≠d:=fun e=>Ax T (x:=w) (by simp) (by simp[e]);have H:w∉q.op.slots:=fun e=>Ax T (x:=w) (by simp) (by simp[e]);have i:d∉p.op.slots:=fun e=>Ax U (x:=d) (by simp) (DE e);have dng:d∉p.gsl:=fun e=>Ax U (x:=d) (by simp) (Dq e);have j:∀s∈qs,s∉p.op.slots:=fun s V e=>Ax U (x:=s) (by simp[V]) (DE e);have sng:∀s∈qs,s∉p.gsl:=fun s V e=>Ax U (x:=s) (by simp[V]) (Dq e);obtain⟨e',A,h⟩:=h;have hR':=hR.congr A.symm;have k:=hj.congr A.symm;obtain⟨pc,⟨⟨e1,l,hw⟩,ep,F,o⟩,hR1⟩:=FD hR' hp (Nw J pm pg' h);have g1:∀n,e1.get n=if w=n then ep else F.on n (e'.get n):=fun n=>by
   rw [l.1,o.pc,AB.ec,BG.get]
  have I:∀x,x∈D->x∉p.op.slots->∀e,F.on x e=e:=fun x W X e=>o.away X (fun y hy=>k.no hy W) e;obtain⟨e,M,hK,Q⟩:=VN ht hw;have z:∀n∈q.op.slots,e'.get n=e1.get n:=by
   intro n R;have hne:w≠n:=fun e=>H (e▸R);have hb:=M.slbx n R;rw[g1,b6 hne]at hb|-;refine(o.stay (fun hd=>Ax c3 hd R) (fun cs hc=>?_)).symm;refine hb (match F.on n (.bx cs)with|.bx cs'=>cs'|_=>cs) ?_;rw[hc];cases F with
   |none=>rfl|slot s t=>
    have:=o.ok;simp only[BG.on];split
    .rename_i e;subst e;simp only[BG.ok]at this;rw[hc]at this;cases this
    .rfl
   |cell s off t=>
    simp only[BG.on];split<;>rfl
  have hdn:e'.jj d=true:=by
   have:=M.dno;rw[l.2,o.pc,AB.fd,BG.jj,tg]at this;exact this.2
  refine ⟨e',A,Q e' z hdn _ ⟨_,.refl _,?_⟩⟩;have C:∀m,m≠d->m∉qs->AB.get ((d,e)::Pq qs e') m=e'.get m:=fun m u b=>by
   rw [AB.ec,b6 (fun e=>u e.symm),NF,b6 b]
  have nr:∀c,AB.jj c ((d,e)::Pq qs e')=AB.jj c e':=fun c=>by
   rw [AB.fd,Hr,EV.noR,M.AbI];rfl
  have L:Dx p.op F (some w) e' ((d,e)::Pq qs e'):=by
   refine ⟨fun x B=>.inl (C x (fun e=>i (e▸B)) (fun e=>j x e B)),fun x B r hr=>.inl (C r (fun e=>k.no hr (e▸dD)) (fun e=>k.no hr (sD r e))),fun x B _=>C x (fun e=>i (e▸CH B)) (fun e=>j x e (CH B)),?_,fun R d' hd' Y=>by rw[nr];exact Y⟩;have u:=o.slot;have b:=o.ok;have h4:=o.cell;cases F with
   |none=>trivial|slot x t=>
    simp only[BG.ok]at b|-;rw[C x (fun e=>i (e▸CH (u _ _ rfl))) (fun e=>j x e (CH (u _ _ rfl)))];exact b
   |cell x off t=>
    obtain ⟨ds,h5,h6⟩:=b;refine⟨ds,?_,h6⟩;rw[C x (fun e=>?_) (fun e=>?_)]
    .exact h5
    .rcases h4 _ _ _ rfl with h7|⟨y,_,h8⟩
     .exact i (e▸h7)
     .exact k.no h8 (e▸dD)
    .rcases h4 _ _ _ rfl with h7|⟨y,_,h8⟩
     .exact j x e h7
     .exact k.no h8 (sD x e)
  have hgp:∀g∈p.gsl,AB.get ((d,e)::Pq qs e') g=e'.get g:=fun g G=>C g (fun e=>dng (e▸G)) (fun e=>sng g e G);refine o.again _ L hgp _ (G2 hK ?_);refine⟨fun m=>?_,fun c=>?_⟩
  .simp only[AB.ec,BG.get,g1,NF];by_cases u:d=m
   .subst u;rw[az rfl,b6 hpd,I d dD i,az rfl]
   .rw[b6 u];by_cases E:w=m
    .have:m∉qs:=fun Z=>H (E▸M.sub m Z);rw[b6 this,az E,az E]
    .rw[b6 E];by_cases b:m∈qs
     .rw[az b,b6 E,I m (sD m b) (j m b),b6 u,az b]
     .rw[b6 b,b6 E,b6 u,b6 b]
  .simp only[AB.fd,BG.jj,l.2,o.pc,Hr,EV.noR,M.AbI];cases(match ep.ref with|some s=>c !=s|none=>true)<;>rfl
 .cases a
theorem qQ(hR:Ki F0 w0 N O)(hj:JD D O){op oq:Oper}{p q:PR}(hp:Km P N ops op p=true)(hq:Km P N ops oq q=true)(a:Aaw D q p=true)(h:Ee (AO P) K (p::q::rs) O):Ee (AO P) K (q::p::rs) O:=by
 unfold Aaw at a;split at a
 .rename_i w d ht;simp only[tg,List.contains_eq_mem,zzX,List.all_eq_true]at a;obtain⟨⟨⟨⟨⟨hm,M⟩,sD⟩,Z⟩,c2⟩,c3⟩:=a;obtain⟨C,Q,qm,qg',qb,qold⟩:=TX hm;rw[Q]at Z;simp only[Option.toList_some]at Z;have hqd:C≠d:=fun e=>Ax Z (x:=C) (by simp) (by simp[e]);have I:C∉p.op.slots:=fun e=>Ax Z (x:=C) (by simp) (by simp[e]);have l:d∉q.op.slots:=fun e=>Ax c2 (x:=d) (by simp) (DE e);have dng:d∉q.gsl:=fun e=>Ax c2 (x:=d) (by simp) (Dq e);have o:∀s∈w,s∉q.op.slots:=fun s hs e=>Ax c2 (x:=s) (by simp[hs]) (DE e);have sng:∀s∈w,s∉q.gsl:=fun s hs e=>Ax c2 (x:=s) (by simp[hs]) (Dq e);obtain⟨e',E,h⟩:=h;have hR':=hR.congr E.symm;have hj':=hj.congr E.symm;obtain⟨pc,⟨⟨B,b,hw⟩,V,R,F,T⟩,hR1⟩:=FD (K:=fun pc=>(∃B,Li B pc/\q.wp (AO P) B (Ee (AO P) K rs))/\∃V,bI (AO P) p.op w d e' V/\pc=(d,V)::Pq w e'/\∀env2,(∀n∈p.op.slots,env2.get n=e'.get n)->env2.jj d=true->∀K2:AB->Prop,K2 ((d,V)::Pq w env2)->p.wp (AO P) env2 K2) hR' hp (by
   obtain ⟨e,Y,k2,k3⟩:=VN ht h;exact k3 e' (fun _ _=>rfl) Y.dno _ ⟨k2,e,Y,rfl,k3⟩)
  subst F;have j:JD D B:=by
   intro x u;rw[b.2,AB.fd,Hr,EV.noR,R.AbI];exact hj' x u
  obtain ⟨X1,⟨hK,eq,U,A⟩,_⟩:=FD (hR1.congr b.symm) hq (Nw Q qm qg' hw);have G:∀n,n≠d->n∉w->B.get n=e'.get n:=fun n i k=>by
   rw [b.1,AB.ec,b6 (fun e=>i e.symm),NF,b6 k]
  have J:∀x,x∈D->x∉q.op.slots->∀e,U.on x e=e:=fun x hxD hxn e=>A.away hxn (fun y hy=>j.no hy hxD) e;have L:Dx q.op U (some C) B e':=by
   refine ⟨fun x u=>.inl (G x (fun e=>l (e▸u)) (fun e=>o x e u)).symm,fun x u r hr=>.inl (G r (fun e=>j.no hr (e▸M)) (fun e=>j.no hr (sD r e))).symm,fun x u _=>(G x (fun e=>l (e▸CH u)) (fun e=>o x e (CH u))).symm,?_,fun W d' hd' H=>?_⟩
   .have i:=A.slot;have k:=A.ok;have X:=A.cell;cases U with
    |none=>trivial|slot x t=>
     simp only[BG.ok]at k|-;rw[<-G x (fun e=>l (e▸CH (i _ _ rfl))) (fun e=>o x e (CH (i _ _ rfl)))];exact k
    |cell x off t=>
     obtain ⟨ds,h5,h6⟩:=k;refine⟨ds,?_,h6⟩;rw[<-G x (fun e=>?_) (fun e=>?_)]
     .exact h5
     .rcases X _ _ _ rfl with h7|⟨y,_,h8⟩
      .exact l (e▸h7)
      .exact j.no h8 (e▸M)
     .rcases X _ _ _ rfl with h7|⟨y,_,h8⟩
      .exact o x e h7
      .exact j.no h8 (sD x e)
   .rw[b.2,AB.fd,Hr,tg]at H;exact H.2
  have hgq:∀g∈q.gsl,e'.get g=B.get g:=fun g hg=>(G g (fun e=>dng (e▸hg)) (fun e=>sng g e hg)).symm;refine⟨e',E,A.again e' L hgq _ ⟨_,.refl _,T _ (fun n W=>?_) ?_ _ (G2 hK ?_)⟩⟩
  .have hne:C≠n:=fun e=>I (e▸W);rw[AB.ec,b6 hne,BG.get];have hb:=R.slbx n W;have Y:=A.slot;have k2:=L.eff;cases U with
   |none=>rfl|slot s t=>
    simp only[BG.on];rw[b6];intro e;subst e;exact Ax c3 (Y _ _ rfl) W
   |cell s off t=>
    simp only[BG.on];rw[b6];intro e;subst e;obtain⟨cs,k3,_⟩:=k2;exact hb cs k3
  .rw[AB.fd,BG.jj,R.dno,Bool.and_true];refine SW (fun s he=>?_);rcases A.ref s he with i|⟨x,_,k⟩
   .exact fun e=>Ax qb i (e▸M)
   .exact fun e=>j.no k (e▸M)
  .rw[A.pc];have hdd:∀e,U.on d e=e:=J d M l;refine⟨fun m=>?_,fun c=>?_⟩
   .simp only[AB.ec,BG.get,NF,b.1];by_cases i:C=m
    .have z:m∉w:=fun hm=>I (i▸R.sub m hm);have X:¬d=m:=fun e=>hqd (i.trans e.symm);rw[az i,b6 X,b6 z,az i]
    .rw[b6 i];by_cases k:d=m
     .subst k;rw[az rfl,az rfl,hdd]
     .rw[b6 k,b6 k];by_cases z:m∈w
      .rw[az z,az z,J m (sD m z) (o m z)]
      .rw[b6 z,b6 z,b6 i]
   .simp only[AB.fd,BG.jj,b.2,Hr,EV.noR,R.AbI];cases(match eq.ref with|some s=>c !=s|none=>true)<;>rfl
 .cases a
theorem qZ{S:FuncId->Fq->Az->Prop}{p q:PR}(a:Aa3 p q=true)(h:Ee S K (p::q::rs) O):Ee S K (q::p::rs) O:=by
 unfold Aa3 at a;split at a
 .rename_i F o qs A H I;have i:∀x,x=o\/x∈p.op.slots->x≠A/\x∉q.op.slots:=fun x i=>by
   grind [Ax,List.mem_cons_self,List.mem_cons_of_mem]
  obtain ⟨e',E,h⟩:=h;obtain⟨R,w,⟨G,b,M⟩,t⟩:=VN H h;obtain⟨eq,g,Q,j⟩:=VN I M;have J:∀n,n≠o->n∉F->G.get n=e'.get n:=fun n k u=>by
   rw [b.1,AB.ec,b6 (fun e=>k e.symm),NF,b6 u]
  have B:∀n∈q.op.slots,e'.get n=G.get n:=fun n l=>(J n (fun e=>(i n (.inl e)).2 l) (fun e=>(i n (.inr (w.sub n e))).2 l)).symm;have C:e'.jj A=true:=by
   have:=g.dno;rw[b.2,AB.fd,Hr,tg]at this;exact this.2
  refine ⟨e',E,j e' B C _ ⟨_,.refl _,t _ (fun n l=>?_) ?_ _ (G2 Q ?_)⟩⟩
  .rw[AB.ec,b6 (fun e=>(i n (.inr l)).1 e.symm),NF,b6 (fun e=>(i n (.inr l)).2 (g.sub n e))]
  .rw[AB.fd,Hr,w.dno,EV.noR,g.AbI];rfl
  .refine⟨fun m=>?_,fun c=>?_⟩
   .simp only[AB.ec,NF,b.1];by_cases k:A=m
    .have u:¬o=m:=fun e=>(i o (.inl rfl)).1 (e.trans k.symm);have L:m∉F:=fun z=>(i m (.inr (w.sub m z))).1 k.symm
     grind
    .rw[b6 k];by_cases u:o=m
     .have L:m∉qs:=fun z=>(i m (.inl u.symm)).2 (g.sub m z)
      grind
     grind
   .simp only[AB.fd,Hr,b.2,EV.noR,w.AbI,g.AbI]
 .cases a
end
def AD.ptr:AD->Option Nat
 |.bad s _=>some s|.fad (.s m) _=>some m|_=>none
def EV.box2(e e2:EV):Prop:=e2=e\/∃cs cs',e=.bx cs/\e2=.bx cs'
variable{m:Nat}{O:AB}
theorem Wj{S:FuncId->Fq->Az->Prop}{op:AD}{dst:Option Nat}{K:EV->AB->Prop}(ho:op.ptr=some m)(h:op.wp S O dst K):
  ∃e,K e O/\(∀s,e.ref=some s->(s∈op.Abb\/(O.get m).ref=some s))/\(∀cs,e≠.bx cs)/\∀env2,(O.get m).box2 (env2.get m)->(∀s,(O.get m).ref=some s->(O.get s).box2 (env2.get s))->∀i:EV->AB->Prop,i e env2->op.wp S env2 dst i:=by
 unfold AD.ptr at ho;split at ho
 .rename_i s k;simp only[wi]at ho;subst ho;simp only[AD.wp]at h;split at h
  .rename_i cs b;refine⟨_,h,fun s' c=>.inl (by simpa[AD.Abb,EV.ref]using c.symm),by simp,fun env2 a _ i g=>?_⟩;have:∃cs',env2.get s=.bx cs':=by
    rcases a with a|⟨_,cs',_,a⟩
    .grind
    .exact⟨cs',a⟩
   obtain ⟨cs',j⟩:=this;simp only[AD.wp,j];exact g
  .rename_i row b;refine⟨_,h,by simp[EV.ref],by simp,fun env2 a _ i g=>?_⟩;rcases a with a|⟨cs,_,a,_⟩
   .simp only[AD.wp,a,b];exact g
   .rw[b]at a;cases a
  .exact h.elim
 .rename_i m' k;simp only[wi]at ho;subst ho;simp only[AD.wp,AE.ev]at h;split at h
  .rename_i row b;refine⟨_,h,by simp[EV.ref],by simp,fun env2 a _ i g=>?_⟩;rcases a with a|⟨cs,_,a,_⟩
   .simp only[AD.wp,AE.ev,a,b];exact g
   .rw[b]at a;cases a
  .rename_i s off b;split at h
   .rename_i cs t;refine⟨_,h,fun s' c=>.inr (by rw[b];exact c),by simp,fun env2 a j i g=>?_⟩;have o:env2.get m'=.bp s off:=by
     rcases a with a|⟨_,_,a,_⟩
     .rw[a,b]
     grind
    have l:∃cs',env2.get s=.bx cs':=by
     rcases j s (by rw[b];rfl)with j|⟨_,cs',_,j⟩
     .grind
     .exact⟨cs',j⟩
    obtain ⟨cs',l⟩:=l;simp only[AD.wp,AE.ev,o,l];exact g
   .exact h.elim
  .exact h.elim
 .cases ho
def Uz(m q s:Nat)(cs:List AQ)(off:Nat)(O:AB):AB:=(s,.bx (cs.set off ⟨false,.undef⟩))::(m,.undef)::(q,.undef)::O
theorem Q1{S:FuncId->Fq->Az->Prop}{m q d:Nat}{K:EV->AB->Prop}(h:(AD.AaT m q).wp S O (some d) K):
  ∃e s off cs,O.get m=.nh s off .hd/\O.get s=.bx cs/\(∀cs,O.get q≠.bx cs)/\O.jj d=true/\e.ref=none/\K e (Uz m q s cs off O)/\
   ∀env2,env2.get m=O.get m->env2.get q=O.get q->env2.get s=O.get s->env2.jj d=true->∀c:EV->AB->Prop,c e (Uz m q s cs off env2)->(AD.AaT m q).wp S env2 (some d) c:=by
 simp only[AD.wp]at h;split at h
 .rename_i E s off n F b i j;simp only[wi]at b;subst b;split at h
  .rename_i cs k;cases a:O.nat s off with
   |none=>rw[a]at h;exact h.elim|some es=>
    rw [a]at h;simp only[AW]at h;obtain⟨z,⟨A,B⟩,C⟩:=h;refine⟨_,s,off,cs,i,k,by rw[j];simp,A,rfl,C,fun env2 l o g t c u=>?_⟩;have w:env2.nat s off=some es:=by rw[<-a];exact AB.AaC g
    simp only[AD.wp,l,o,g,i,j,k,w,AW];exact⟨z,⟨t,B⟩,u⟩
  .exact h.elim
 .exact h.elim
def Aax(D:QQ)(p q:PR):Bool:=
 match p.op.ptr,p.guard,p.dst,q.op,q.guard,q.dst with
 |some x,none,some dp,.AaT m qq,none,some d=>D.contains d&&D.contains dp&&D.contains m&&D.contains qq&&EP [dp] [d,m,qq]&&EP [x] [d,m,qq]&&EP p.op.Abb D&&dp !=x&&PR.Aan D p|_,_,_,_,_,_=>false
variable{off:Nat}
theorem N0{m q s:Nat}{cs:List AQ}(n:Nat):AB.get (Uz m q s cs off O) n=if s=n then .bx (cs.set off ⟨false,.undef⟩)else if m=n then .undef else if q=n then .undef else O.get n:=rfl
theorem NV{m q s:Nat}{cs:List AQ}(c:Nat):AB.jj c (Uz m q s cs off O)=AB.jj c O:=by
 simp [Uz,AB.fd,EV.noR,EV.ref]
section
variable{S:FuncId->Fq->Az->Prop}{K:AB->Prop}{D:QQ}
variable{O:AB}{rs:List PR}
theorem qU(Z:JD D O){p q:PR}(a:Aax D p q=true)(h:Ee S K (p::q::rs) O):Ee S K (q::p::rs) O:=by
 unfold Aax at a;split at a
 .rename_i x g m A d B L M Q R T;simp only[tg,List.contains_eq_mem,zzX,bne_iff_ne,ne_eq]at a;obtain⟨⟨⟨⟨⟨⟨⟨⟨W,dpD⟩,mD⟩,qD⟩,G⟩,H⟩,pb⟩,hdx⟩,_⟩:=a;have n1:g≠d:=fun e=>Ax G (x:=g) (by simp) (by simp[e]);have U:g≠m:=fun e=>Ax G (x:=g) (by simp) (by simp[e]);have n3:g≠A:=fun e=>Ax G (x:=g) (by simp) (by simp[e]);have n4:x≠d:=fun e=>Ax H (x:=x) (by simp) (by simp[e]);have n5:x≠m:=fun e=>Ax H (x:=x) (by simp) (by simp[e]);have n6:x≠A:=fun e=>Ax H (x:=x) (by simp) (by simp[e]);obtain⟨e',w,h⟩:=h;have k:=Z.congr w.symm;simp only[PR.wp,L,M,AB.put]at h;obtain⟨e,⟨e1,b,X⟩,hre,I,z⟩:=Wj B h;simp only[PR.wp,R,T,Q,AB.put]at X;obtain⟨eq,s,off,cs,k1,J,k3,Y,k5,hK,j⟩:=Q1 X;have l:∀n,n≠g->e1.get n=e'.get n:=fun n hn=>by rw[b.1,AB.ec,b6 (fun e=>hn e.symm)]
  have o:s≠g:=by
   intro hs;subst hs;rw[b.1,AB.ec,az rfl]at J;exact I cs J
  have C:e'.get m=.nh s off .hd:=by rw[<-l m (fun e=>U e.symm)];exact k1
  have t:e'.get s=.bx cs:=by rw[<-l s o];exact J
  have E:s∉D:=k.no (x:=m) (by rw[C];rfl);have V:s≠d:=fun e=>E (e▸W);have F:e'.jj d=true:=by rw[b.2,AB.fd,tg]at Y;exact Y.2
  refine ⟨e',w,?_⟩;simp only[PR.wp,R,T,Q,AB.put];refine j e' (l m (fun e=>U e.symm)).symm (l A (fun e=>n3 e.symm)).symm (l s o).symm F _ ⟨_,.refl _,?_⟩;simp only[PR.wp,L,M,AB.put];refine z _ ?_ (fun r hr=>?_) _ (G2 hK ?_)
  .rw[AB.ec,b6 (fun e=>n4 e.symm),N0];by_cases u:s=x
   .subst u;rw[az rfl];exact .inr ⟨cs,_,t,rfl⟩
   .rw[b6 u,b6 (fun e=>n5 e.symm),b6 (fun e=>n6 e.symm)];exact .inl rfl
  .have i:r∉D:=k.no hr;rw[AB.ec,b6 (fun(e:d=r)=>i (e▸W)),N0];by_cases u:s=r
   .subst u;rw[az rfl];exact .inr ⟨cs,_,t,rfl⟩
   .rw[b6 u,b6 (fun(e:m=r)=>i (e▸mD)),b6 (fun(e:A=r)=>i (e▸qD))];exact .inl rfl
  .refine⟨fun n=>?_,fun c=>?_⟩
   .simp only[AB.ec,N0,b.1]
    grind
   .simp only[AB.fd,NV,b.2,EV.noR,k5]
    grind
 .cases a
theorem qT(W:JD D O){p q:PR}(a:Aax D q p=true)(h:Ee S K (p::q::rs) O):Ee S K (q::p::rs) O:=by
 unfold Aax at a;split at a
 .rename_i x g m z d A H I J L M;simp only[tg,List.contains_eq_mem,zzX,bne_iff_ne,ne_eq]at a;obtain⟨⟨⟨⟨⟨⟨⟨⟨R,C⟩,mD⟩,qD⟩,E⟩,F⟩,qb⟩,hdx⟩,_⟩:=a;have n1:g≠d:=fun e=>Ax E (x:=g) (by simp) (by simp[e]);have n2:g≠m:=fun e=>Ax E (x:=g) (by simp) (by simp[e]);have n3:g≠z:=fun e=>Ax E (x:=g) (by simp) (by simp[e]);have n4:x≠d:=fun e=>Ax F (x:=x) (by simp) (by simp[e]);have n5:x≠m:=fun e=>Ax F (x:=x) (by simp) (by simp[e]);have n6:x≠z:=fun e=>Ax F (x:=x) (by simp) (by simp[e]);obtain⟨e',o,h⟩:=h;have j:=W.congr o.symm;simp only[PR.wp,L,M,J,AB.put]at h;obtain⟨ep,s,off,cs,k1,k2,k3,k4,T,⟨U,b,V⟩,t⟩:=Q1 h;simp only[PR.wp,H,I,AB.put]at V;obtain⟨e,hK,G,hnb,i⟩:=Wj A V;have k:s∉D:=j.no (x:=m) (by rw[k1];rfl);have hsd:s≠d:=fun e=>k (e▸R);have g1:∀n,n≠d->n≠m->n≠z->(U.get n).box2 (e'.get n):=by
   intro n u X Y;rw[b.1,AB.ec,b6 (fun e=>u e.symm),N0];by_cases Q:s=n
   .subst Q;rw[az rfl];exact .inr ⟨_,cs,rfl,k2⟩
   .rw[b6 Q,b6 (fun e=>X e.symm),b6 (fun e=>Y e.symm)];exact .inl rfl
  have l:JD D U:=by
   intro y Z;rw[b.2,AB.fd,NV,EV.noR,T];exact j y Z
  refine ⟨e',o,?_⟩;simp only[PR.wp,H,I,AB.put];refine i e' (g1 x n4 n5 n6) (fun r w=>?_) _ ⟨_,.refl _,?_⟩
  .have hrD:r∉D:=l.no w
   grind
  .simp only[PR.wp,L,M,J,AB.put];have B:s≠g:=fun e=>k (e▸C);refine t _ (by rw[AB.ec,b6 n2]) (by rw[AB.ec,b6 n3]) (by rw[AB.ec,b6 (fun e=>B e.symm)]) ?_ _ (G2 hK ?_)
   .rw[AB.fd,k4,Bool.and_true];refine SW (fun r w=>?_);rcases G r w with u|u
    .grind[Ax]
    .exact fun(e:r=d)=>l.no u (e▸R)
   .refine⟨fun n=>?_,fun c=>?_⟩
    .simp only[AB.ec,N0,b.1]
     grind
    .simp only[AB.fd,NV,b.2,EV.noR,T]
     grind
 .cases a
end
def Abu(p:PR):Bool:=p.tk.isSome||(match p.op,p.guard,p.dst with|.AaT _ _,none,some _=>true|_,_,_=>false)
variable{O:AB}
theorem YQ{S:FuncId->Fq->Az->Prop}{p:PR}{K:AB->Prop}(ho:Abu p=true)(h:p.wp S O K):∃pc,K pc/\(∀c,pc.jj c=O.jj c)/\∀b:AB->Prop,b pc->p.wp S O b:=by
 simp only[Abu,Bool.or_eq_true]at ho;rcases ho with ho|ho
 .obtain⟨⟨qs,d⟩,i⟩:=Option.isSome_iff_exists.1 ho;obtain⟨e,g,j,a⟩:=VN i h;exact⟨_,j,fun c=>by rw[AB.fd,Hr,EV.noR,g.AbI];rfl,a O (fun _ _=>rfl) g.dno⟩
 grind [PR.wp,AB.put,Q1,AB.fd,NV,EV.noR]
theorem cA{D:QQ}{p q:PR}(h:Aaw D q p=true):Abu p=true:=by grind[Aaw,Abu]
theorem ZY{D:QQ}{p q:PR}(h:Aaw D p q=true):PR.Aan D p=true:=by
 unfold Aaw at h
 grind
theorem cG{p q:PR}(h:Aa3 p q=true):Abu p=true:=by grind[Aa3,Abu]
theorem ZZ{D:QQ}{p q:PR}(h:Aax D p q=true):PR.Aan D p=true:=by
 unfold Aax at h
 grind
theorem cD{D:QQ}{p q:PR}(h:Aax D q p=true):Abu p=true:=by grind[Aax,Abu]
end Go.Sf
namespace Go.Sf
open Go.RowKit (Below)
def MK(rs:List PR)(i:Nat):PR:=(rs[i]?).getD ⟨none,.Abz 0,none⟩
def AbL(p:PR):Bool:=match p.op,p.guard,p.dst with
 |.Aaz _,none,some _=>true|_,_,_=>false
def Aa8(p q:PR):Bool:=match p.op,p.guard,p.dst,q.op,q.guard,q.dst with
 |.Aaz gs,none,some dp,.alc _,none,some dq=>dp !=dq&&!(gs.flatMap GC.sl).contains dq|_,_,_,_,_,_=>false
theorem b9{p q:PR}(h:Aa8 p q=true):AbL p=true:=by grind[Aa8,AbL]
def Ty(p:PR):Bool:=match p.op,p.guard,p.dst with
 |.st _ (.s _) _,none,none=>true|.xst _ _ _,none,none=>true|_,_,_=>false
def Aa4(D:QQ)(p q:PR):Bool:=match p.op,p.guard,p.dst,q.op,q.guard,q.dst with
 |.xst x v _,none,none,.xia (.s _) _ _,none,some d=>D.contains d&&!x.sl.contains d&&!v.sl.contains d|_,_,_,_,_,_=>false
def Qp(D:QQ)(p q:PR):Bool:=match p.op,p.guard,p.dst,q.op,q.guard,q.dst with
 |.st _ (.s x) v,none,none,.bad m _,none,some d=>D.contains d&&d !=x&&d !=m&&!v.sl.contains d&&!v.sl.contains m|.st _ (.s x) v,none,none,.fad (.s m) _,none,some d=>D.contains d&&d !=x&&d !=m&&!v.sl.contains d&&!v.sl.contains m|_,_,_,_,_,_=>false
theorem b8{D:QQ}{p q:PR}(h:Qp D p q=true):Ty p=true:=by grind[Qp,Ty]
theorem cF{D:QQ}{p q:PR}(h:Aa4 D p q=true):Ty p=true:=by grind[Aa4,Ty]
def AD.vops:AD->Option (List AE)
 |.len x=>some [x]|.mm _ x y=>some [x,y]|.slc _ x lo hi=>some (x::(lo.toList++hi.toList))|.bin _ _ x y=>some [x,y]|.cvt _ x=>some [x]|.fdv x _=>some [x]|.ldv x _=>some [x]|_=>none
def Abj(D:QQ)(p q:PR):Bool:=match p.op.vops,p.guard,p.dst,q.op,q.guard,q.dst with
 |some xs,none,some d,.st _ (.s x) v,none,none=>PR.Aan D p&&d !=x&&!v.sl.contains d&&EP (xs.flatMap AE.sl) v.sl|_,_,_,_,_,_=>false
def Abl(D:QQ)(p q:PR):Bool:=match p.op,p.guard,p.dst,q.op,q.guard,q.dst with
 |.ldb b _,none,some d,.st _ (.s x) v,none,none=>PR.Aan D p&&D.contains b&&b !=x&&d !=x&&d !=b&&!v.sl.contains d&&!v.sl.contains b|.bad b _,none,some d,.st _ (.s x) v,none,none=>PR.Aan D p&&d !=x&&!v.sl.contains d&&!v.sl.contains b|_,_,_,_,_,_=>false
def Aa9(D:QQ)(p q:PR):Bool:=U1 D p q||Aba D p q||Aa8 p q||Abh D p q||Abi D p q||(Qp D p q||Aa4 D p q)||Abj D p q||Abl D p q||(Aaw D p q||Aaw D q p||Aa3 p q||Aax D p q||Aax D q p)
def okQ(p:PR):Bool:=match p.op,p.guard,p.dst with
 |.tkx _,none,some _=>true|.Abo _ _ _ _,none,some _=>true|_,_,_=>false
theorem ZX{D:QQ}{p q:PR}(h:Aa9 D p q=true):((PR.Aan D p=true\/AbL p=true)\/Ty p=true)\/Abu p=true:=by
 simp [Aa9]at h;rcases h with(((((((h|h)|h)|h)|h)|h)|h)|h)|((((h|h)|h)|h)|h)
 rotate_right 5
 .grind[ZY]
 .exact .inr (cA h)
 .exact .inr (cG h)
 .grind[ZZ]
 .exact .inr (cD h)
 all_goals refine .inl ?_
 .simp[U1]at h
  grind
 .unfold Aba at h
  grind
 .grind[b9]
 .unfold Abh at h
  grind
 .unfold Abi at h
  grind
 .grind[b8,cF]
 .unfold Abj at h
  grind
 .unfold Abl at h
  grind
def kz(ops:Array Oper):QQ:=
 ops.toList.foldl (fun acc o=>acc++[o.after.toList.foldl (fun m e=>if Region.binds .any e then m|||(1<<<e.on)|||acc.getD e.on 0 else m) 0]) []
def okCa(p:PR):Bool:=match p.op,p.guard,p.dst with
 |.AaU _ _ _,none,some _=>true|_,_,_=>false
variable{O:AB}
theorem iX{S:FuncId->Fq->Az->Prop}{p:PR}{K:AB->Prop}(ho:okCa p=true)(h:p.wp S O K):p.wp S O fun pc=>K pc/\∀c,pc.jj c=O.jj c:=by
 unfold okCa at ho;split at ho
 .rename_i f args i d g j k;simp[PR.wp,g,j,k,AD.wp,AB.put]at h|-;split at h
  .rename_i t q a u;simp at a;subst a;split at h
   .rename_i cs w;refine⟨h.1,?_⟩;cases hv:HN O i args with
    |none=>rw[hv]at h;exact h.2.elim|some ts=>
     rw [hv]at h;obtain⟨_,r,l,o⟩:=h;refine⟨r,l,fun b=>⟨o b,fun c=>?_⟩⟩;have:EV.noR c r.aev=true:=by cases r<;>rfl
     rw [AB.fd,AB.fd,this];rfl
   .exact h.elim
  .exact h.elim
 .cases ho
def okCm(p:PR):Bool:=match p.op,p.dst with
 |.AaD _ _ _,some _=>true|_,_=>false
def YP(D:QQ)(r:PR):Bool:=
 Lq r.op||AbL r||okQ r||Abu r||okCa r||okCm r||(r.op.mov&&r.dst.isSome&&(!r.op.x6||r.guard.isNone)&&EP r.op.Abb D)
def SY(P:Program)(N:Nat)(D:QQ)(ops:Array Oper)(rs:List PR):Bool:=
 let n:=ops.size
 let M:=kz ops
 Kx P N ops ops.toList rs&&(List.range n).all (fun i=>YP D (MK rs i)) &&
 (List.range n).all (fun i=>match ops[i]? with
  |some o=>o.after.toList.all fun e=>!Region.binds .any e||decide (e.on<i)|none=>false) &&
 (List.range n).all (fun i=>(List.range n).all fun j=>!(M.getD i 0).testBit j||(match ops[i]? with
  |some o=>o.after.toList.any fun e=>Region.binds .any e&&(e.on==j||(decide (e.on<i)&&(M.getD e.on 0).testBit j))|none=>false)) &&
 (List.range n).all (fun i=>(List.range i).all fun j=>(M.getD i 0).testBit j||Aa9 D (MK rs j) (MK rs i))
section
variable{P:Program}{F0:Nat->Nat->Prop}{w0:W0}{N:Nat}{p:Option (Nat×Value)}{ops:Array Oper}{K:AB->Prop}{D:QQ}
variable{f:BG}{d:Option Nat}{O:AB}
theorem Dx.refl{op:AD}(h:f.ok O):Dx op f d O O:=
 ⟨fun _ _=>.inl rfl,fun _ _ _ _=>.inl rfl,fun _ _ _=>rfl,h,fun _ _ _ h=>h⟩
theorem KU(d:Nat)(a:AB):∀(qs:QQ)(O:AB),AB.jj d (O2 a qs O)=AB.jj d O
 |[],_=>rfl|q::qs,O=>by
  rw [O2,AB.fd,KU d a qs O]
  grind [KT,EV.noR,EV.ref]
theorem l8(d:Nat)(e:EV)(O:AB)(g:GC)(h:d∉g.sl):GC.cell ((d,e)::O) g=g.cell O:=by
 cases g with
 |z c=>rfl|v x k n=>
  cases x with
  |s q=>
   grind [GC.sl,List.mem_singleton,GC.cell,AE.val,AE.ev,AB.ec]
  |c t=>rfl
 |w q=>
  grind [GC.sl,List.mem_singleton,GC.cell,AB.ec]
 |g q k n=>
  grind [GC.sl,List.mem_singleton,GC.cell,AB.ec]
theorem X8(d:Nat)(e:EV)(O:AB):∀(gs:List GC),d∉gs.flatMap GC.sl->IM ((d,e)::O) gs=IM O gs
 |[],_=>rfl|g::gs,h=>by
  rw [List.flatMap_cons,List.mem_append,not_or]at h;simp[IM,l8 d e O g h.1,X8 d e O gs h.2]
variable{gs:List GC}
theorem nQ{q:Nat}(h:q∈gs.filterMap GC.slot):q∈gs.flatMap GC.sl:=by
 rw [List.mem_filterMap]at h;obtain⟨g,a,e⟩:=h;rw[List.mem_flatMap];refine⟨g,a,?_⟩;cases g<;>simp[GC.slot]at e<;>simp[GC.sl,e]
theorem Tj{S:FuncId->Fq->Az->Prop}{p:PR}{K:AB->Prop}{d:Nat}(c:p.op=.Aaz gs)(g:p.guard=none)(i:p.dst=some d)(h:p.wp S O K):
  ∃cs,((gs.filterMap GC.src).Nodup/\d∉gs.filterMap GC.slot)/\IM O gs=some cs/\K ((d,.oag cs)::O2 O (gs.filterMap GC.slot) O):=by
 simp only[PR.wp,c,g,i,AD.wp,AB.put]at h;obtain⟨j,b⟩:=h;cases a:IM O gs with
 |none=>rw[a]at b;exact b.elim|some ts=>rw[a]at b;exact⟨ts,j,rfl,b⟩
theorem Q5{S:FuncId->Fq->Az->Prop}{p:PR}{K:AB->Prop}{d:Nat}{cs:List AQ}(b:p.op=.Aaz gs)(c:p.guard=none)(g:p.dst=some d)(i:(gs.filterMap GC.src).Nodup/\d∉gs.filterMap GC.slot)(a:IM O gs=some cs)
  (h:K ((d,.oag cs)::O2 O (gs.filterMap GC.slot) O)):p.wp S O K:=by
 simp only[PR.wp,b,c,g,AD.wp,AB.put,a];exact⟨i,h⟩
variable{q:PR}{v:AE}
theorem SI{S:FuncId->Fq->Az->Prop}{K:AB->Prop}{n x:Nat}(a:q.op=.st n (.s x) v)(k:q.guard=none)(hd:q.dst=none)(h:q.wp S O K):
  ∃s off cs cs' o,(AE.s x).place O=some (s,off)/\O.get s=.bx cs/\(∀g e,o=some (g,e)->v=.s g/\(∃t,e=.tv t)/\g≠s)/\K (Mx s cs' o O)/\
   ∀env2,(AE.s x).place env2=some (s,off)->env2.get s=.bx cs->v.ev env2=v.ev O->∀i:AB->Prop,i (Mx s cs' o env2)->q.wp S env2 i:=by
 unfold PR.wp at h;rw[k,a,hd]at h;simp[AD.wp]at h;split at h
 .rename_i s off w;split at h
  .rename_i cs z;split at h
   .rename_i t hv;cases v with
    |c t=>exact h.elim|s g=>
     simp only at h;simp[AE.ev]at hv;refine⟨s,off,cs,_,some (g,.tv t),w,z,?_,h.2.2.2,fun env2 l u j i b=>?_⟩
     .intro s' A he;simp at he;obtain⟨rfl,rfl⟩:=he;exact⟨rfl,⟨t,rfl⟩,h.1⟩
     .simp[AE.ev]at j;unfold PR.wp;rw[k,a,hd];simp[AD.wp,l,u,AE.ev,j,hv];exact⟨h.1,h.2.1,h.2.2.1,b⟩
   .rename_i t hv;refine⟨s,off,cs,_,none,w,z,by simp,h.2.2,fun env2 l u j i b=>?_⟩;unfold PR.wp;rw[k,a,hd];simp[AD.wp,l,u,j,hv];exact⟨h.1,h.2.1,b⟩
   .exact h.elim
  .exact h.elim
 .exact h.elim
variable{e':AB}
theorem ub{p:PR}{o:Oper}(ho:Km P N ops o p=true){K:AB->Prop}(g:((PR.Aan D p=true\/AbL p=true)\/Ty p=true)\/Abu p=true)(H:Ki F0 w0 N e')(I:JD D e')(h:p.wp (AO P) e' K):
  ∃pc,K pc/\Ki F0 w0 N pc/\JD D pc/\∀b:AB->Prop,b pc->p.wp (AO P) e' b:=by
 rcases g with((g|g)|g)|g
 rotate_right
 .obtain⟨pc,⟨l,Q,R⟩,a⟩:=FD (K:=fun pc=>K pc/\(∀c,pc.jj c=e'.jj c)/\∀b:AB->Prop,b pc->p.wp (AO P) e' b) H ho (by
   grind [YQ])
  exact ⟨pc,l,a,fun d hd=>by rw[Q];exact I d hd,R⟩
 .simp[PR.Aan,Bool.not_eq_true']at g;obtain⟨⟨⟨⟨X,Y⟩,Z⟩,pb⟩,pD⟩:=g;obtain⟨dp,T⟩:=Option.isSome_iff_exists.1 Y;have M:p.op.x6=true->p.guard=none:=fun V=>by
   rcases Z with h|h
   .rw[V]at h;cases h
   .simpa using h
  obtain ⟨pc,⟨l,ep,fp,L⟩,a⟩:=FD H ho (Nw T X M h);exact⟨pc,l,a,L.jd pb I,fun b j=>L.again e' (.refl L.ok) (fun _ _=>rfl) _ (by rw[<-L.pc];exact j)⟩
 .unfold AbL at g;split at g
  .rename_i gs d A B C;obtain⟨pc,l,a⟩:=FD (K:=fun pc=>K pc/\∃cs,((gs.filterMap GC.src).Nodup/\d∉gs.filterMap GC.slot)/\IM e' gs=some cs/\pc=(d,.oag cs)::O2 e' (gs.filterMap GC.slot) e') H ho (by
    obtain ⟨ts,w,z,E⟩:=Tj A B C h
    grind [Q5])
   obtain ⟨l,ts,w,z,rfl⟩:=l;refine⟨_,l,a,fun x U=>?_,fun b j=>Q5 A B C w z j⟩;rw[AB.fd,KU,I x U];rfl
  .cases g
 .unfold Ty at g;split at g
  .rename_i n x v A B C;obtain⟨pc,⟨l,s,off,cs,cs',o',w,F,z,E,G⟩,a⟩:=FD (K:=fun pc=>K pc/\∃s off cs cs' o,(AE.s x).place e'=some (s,off)/\e'.get s=.bx cs/\(∀J e,o=some (J,e)->v=.s J/\(∃t,e=EV.tv t)/\J≠s)/\pc=Mx s cs' o e'/\
     ∀b:AB->Prop,b (Mx s cs' o e')->p.wp (AO P) e' b) H ho (by
    obtain ⟨s,off,cs,cs',o,w,F,z,E,G⟩:=SI A B C h;exact G e' w F rfl _ ⟨E,s,off,cs,cs',o,w,F,z,rfl,fun b j=>G e' w F rfl b j⟩)
   subst E;refine⟨_,l,a,fun d hd=>?_,G⟩;rw[FJ _ _ _ _ _ (fun J e he=>by
    obtain ⟨_,⟨t,rfl⟩,_⟩:=z J e he;rfl)]
   exact I d hd
  .rename_i x v k A B C;obtain⟨pc,⟨l,Q,R⟩,a⟩:=FD (K:=fun pc=>K pc/\(∀c,pc.jj c=e'.jj c)/\∀b:AB->Prop,b pc->p.wp (AO P) e' b) H ho (by
    simp [PR.wp,A,B,C,AD.wp,AB.put]at h|-;split at h
    .rename_i q i c U;split at h
     .rename_i n es u W hu;obtain⟨w,F,es',z,E,G,h7⟩:=h;refine⟨w,F,es',z,E,G,h7,fun c=>(NJ (es':=es') W).2.2 c,fun b j=>?_⟩
      grind
     .exact h.elim
    .exact h.elim)
   exact ⟨pc,l,a,fun d hd=>by rw[Q];exact I d hd,R⟩
  .cases g
variable{rs:List PR}
theorem qP{p q:PR}(a:Aa8 p q=true)(h:Ee (AO P) K (p::q::rs) O):Ee (AO P) K (q::p::rs) O:=by
 unfold Aa8 at a;split at a
 .rename_i gs G cs A j k l o t u;simp only[tg,bne_iff_ne,ne_eq,Bool.not_eq_true',List.contains_eq_mem,decide_eq_false_iff_not]at a;obtain⟨C,w⟩:=a;obtain⟨e',g,h⟩:=h;obtain⟨ts,E,F,x,i,c⟩:=Tj j k l h;simp[PR.wp,o,t,u,AD.wp,AB.put]at c;obtain⟨b,c⟩:=c;rw[i.2,AB.fd,KU]at b;simp[EV.noR,EV.ref]at b;refine⟨e',g,?_⟩;simp[PR.wp,o,t,u,AD.wp,AB.put];refine⟨b,_,.refl _,Q5 j k l E (by rw[X8 _ _ _ _ w];exact F) (G2 c ?_)⟩;have B:A∉gs.filterMap GC.slot:=fun z=>w (nQ z);refine⟨fun n=>?_,fun d=>?_⟩
  .rw[AB.ec,i.1,AB.ec,AB.ec,It,It]
   grind [AB.ec]
  .rw[AB.fd,i.2,AB.fd,AB.fd,KU,KU,AB.fd]
   grind
 .cases a
variable{pc:AB}
theorem dX{S:FuncId->Fq->Az->Prop}{K:AB->Prop}{m d s:Nat}{cs cs':List AQ}{o:Option (Nat×EV)}(a:(∃k,q.op=.bad m k)\/∃k,q.op=.fad (.s m) k)(g:q.guard=none)(hd:q.dst=some d)(A:O.get s=.bx cs)(ho:∀z e,o=some (z,e)->(∃t,e=.tv t)/\z≠m)
  (he:∀n,pc.get n=(Mx s cs' o O).get n)(h:q.wp S pc K):∃e,K ((d,e)::pc)/\∀i:AB->Prop,i ((d,e)::O)->q.wp S O i:=by
 have u:pc.get m=if s=m then .bx cs' else O.get m:=by
  grind [Ed]
 have C:∀r c,pc.get r=.bx c->∃l,O.get r=.bx l:=by
  grind [Ed]
 unfold PR.wp at h;rcases a with⟨k,a⟩|⟨k,a⟩
 .rw[g,a,hd]at h;simp[AD.wp,AB.put]at h;by_cases e:s=m
  .rw[u,az e]at h;refine⟨_,h,fun i b=>?_⟩;unfold PR.wp;rw[g,a,hd];simp[AD.wp,<-e,A,AB.put];rw[<-e]at b;exact b
  .rw[u,b6 e]at h;split at h
   .rename_i c j;refine⟨_,h,fun i b=>?_⟩;unfold PR.wp;rw[g,a,hd];simp[AD.wp,j,AB.put];exact b
   .rename_i row j;refine⟨_,h,fun i b=>?_⟩;unfold PR.wp;rw[g,a,hd];simp[AD.wp,j,AB.put];exact b
   .exact h.elim
 .rw[g,a,hd]at h;simp[AD.wp,AB.put,AE.ev]at h;by_cases e:s=m
  .rw[u,az e]at h;exact h.elim
  .rw[u,b6 e]at h;split at h
   .rename_i row j;refine⟨_,h,fun i b=>?_⟩;unfold PR.wp;rw[g,a,hd];simp[AD.wp,AE.ev,j,AB.put];exact b
   .rename_i r off j;split at h
    .rename_i c B;obtain⟨l,w⟩:=C r c B;refine⟨_,h,fun i b=>?_⟩;unfold PR.wp;rw[g,a,hd];simp[AD.wp,AE.ev,j,w,AB.put];exact b
    .exact h.elim
   .exact h.elim
theorem qO{p q:PR}(C:JD D O)(b:Qp D p q=true)(h:Ee (AO P) K (p::q::rs) O):Ee (AO P) K (q::p::rs) O:=by
 have key:∃n x v m d,p.op=.st n (.s x) v/\p.guard=none/\p.dst=none/\((∃k,q.op=.bad m k)\/∃k,q.op=.fad (.s m) k)/\q.guard=none/\q.dst=some d/\d∈D/\d≠x/\d∉v.sl/\m∉v.sl:=by
  unfold Qp at b
  grind
 obtain ⟨n,x,v,m,d,F,G,H,I,J,L,M,Q,R,T⟩:=key;obtain⟨e',g,h⟩:=h;have j:=C.congr g.symm;obtain⟨s,off,cs,cs',o,i,B,U,⟨y,u,V⟩,W⟩:=SI F G H h;have l:d≠s:=by
  intro e;subst e;simp[AE.place]at i;split at i
  .rename_i r w E;simp at i;exact j.no (x:=x) (s:=d) (by rw[E,<-i.1];rfl) M
  .grind
  .cases i
 have ho:∀a e,o=some (a,e)->(∃t,e=EV.tv t)/\a≠m:=fun a e he=>by
  grind [AE.sl]
 obtain ⟨e,X,Y⟩:=dX (cs':=cs') (o:=o) (O:=e') I J L B ho u.1 V;refine⟨e',g,Y _ ⟨_,.refl _,W ((d,e)::e') ?_ (by rw[AB.ec,b6 l];exact B) ?_ _ (G2 X ?_)⟩⟩
 .grind[AE.place,AB.ec]
 .cases v with
  |c t=>rfl|s a=>
   grind [AE.ev,AB.ec,AE.sl]
 .refine⟨fun z=>?_,fun z=>?_⟩
  .rw[AB.ec,u.1,Ed,Ed]
   grind [AB.ec,AE.sl]
  .have A:∀a e,o=some (a,e)->e.noR z=true:=fun a e he=>by
    obtain ⟨_,⟨t,rfl⟩,_⟩:=U a e he;rfl
   rw [AB.fd,u.2,FJ _ _ _ _ _ A,FJ _ _ _ _ _ A,AB.fd]
variable{n m:Nat}
theorem kV{e' h:AB}{c:Nat}{o:Option Nat}{es es':Fq}(a:e'.x8 c o=some (n,es))(F:es'.length=es.length)(he:∀z,h.get z=AB.get (e'.Aak c o n es') z){y q:Nat}{i:Option Nat}{l:Fq}
  (H:h.get y=.la q i)(b:h.x8 q i=some (m,l)):e'.get y=.la q i/\∃fs',e'.x8 q i=some (m,fs')/\fs'.length=l.length:=by
 obtain ⟨⟨u,I,A⟩,ho,_⟩:=NJ (es':=es') a;have t:c≠y:=by
  grind
 refine ⟨by rw[<-H,he,ho _ t],?_⟩;by_cases G:c=q
 .subst G;cases o with
  |none=>
   have g:h.get c=.xo n es':=by rw[he];simp[AB.Aak,AB.ec]
   cases i with
   |none=>
    simp [AB.x8,g]at b;obtain⟨rfl,rfl⟩:=b;exact⟨es,a,F.symm⟩
   |some k=>simp[AB.x8,g]at b
  |some E=>
   rcases A with⟨mm,M,J,_⟩|⟨cs,k,L,B,C,rfl⟩
   .simp[AB.x8,J]at a
   .cases L;have g:h.get c=.bx (cs.set E ⟨true,.xl n es'⟩):=by rw[he,I]
    cases i with
    |none=>simp[AB.x8,g]at b|some k=>
     by_cases j:E=k
     .subst j;have w:E<cs.length:=(List.getElem?_eq_some_iff.1 B).1;simp[AB.x8,g,List.getElem?_set,az w]at b;obtain⟨rfl,rfl⟩:=b;exact⟨es,a,F.symm⟩
     .refine⟨l,?_,rfl⟩;rw[<-b];simp[AB.x8,g,C,List.getElem?_set,b6 j]
 .exact⟨l,by rw[<-b];exact AB.Aav (by rw[he,ho _ G]),rfl⟩
theorem qX{p q:PR}(hj:JD D O)(a:Aa4 D p q=true)(h:Ee (AO P) K (p::q::rs) O):Ee (AO P) K (q::p::rs) O:=by
 unfold Aa4 at a;split at a
 .rename_i x v k y z m d e1 e2 e3 f1 f2 f3;simp[Bool.not_eq_true',decide_eq_false_iff_not,zzX]at a;obtain⟨⟨dD,Y⟩,Z⟩:=a;obtain⟨e',M,h⟩:=h;have V:=hj.congr M.symm;simp only[PR.wp,e1,e2,e3,AD.wp,AB.put]at h;split at h
  .rename_i U i0 c R;split at h
   .rename_i n es u B hu;obtain⟨h1,h2,es',h3,h4,h5,pc,A,b⟩:=h;have G:d≠U:=by
     rintro rfl;cases x with
     |c t=>cases R
     |s xs=>exact V.no (x:=xs) (s:=d) (by simp[AE.ev]at R;rw[R];rfl) dD
    simp [PR.wp,f1,f2,f3,AD.wp,AB.put,AE.Aae]at b;have T:=A.1;obtain⟨⟨w,hw,hww⟩,ho,_⟩:=NJ (es':=es') B;have W:w.val=none:=by rcases hww with⟨_,_,_,_,_,rfl⟩|⟨_,_,_,_,_,rfl⟩<;>rfl
    have X:∀t,z.val pc=some t->z.val e'=some t:=by
     intro t E;cases z with
     |c t'=>exact E|s zz=>
      simp [AE.val,AE.ev]at E|-;by_cases l:U=zz
      .subst l;rw[T,hw,W]at E;cases E
      .rw[T,ho _ l]at E;exact E
    have H:∃g i F j Q,pc.get y=.la g i/\pc.x8 g i=some (m,F)/\z.val pc=some (.int Q j)/\0<=j/\j<F.length/\Ee (AO P) K rs ((d,.lp g i (j.toNat*m))::pc):=by
     cases I:pc.get y<;>rw[I]at b<;>simp[AW]at b<;>try exact b.elim
     .cases l:z.val pc with
      |none=>rw[l]at b;exact b.elim|some t=>
       rw [l]at b;cases t<;>try exact b.elim
       have:=b.1.1;simp[AE.ev,I,EV.ref]at this
     .rename_i g i;cases C:pc.x8 g i with
      |none=>rw[C]at b;exact b.elim|some pp=>
       obtain ⟨m',F⟩:=pp;rw[C]at b;simp only at b;cases l:z.val pc with
       |none=>rw[l]at b;exact b.elim|some t=>
        rw [l]at b;cases t<;>try exact b.elim
        rename_i Q j;obtain⟨⟨_,rfl⟩,k1,k2,k3⟩:=b;exact⟨g,i,F,j,Q,rfl,C,rfl,k1,k2,k3⟩
    obtain ⟨g,i,F,j,Q,m1,m2,m3,m4,m5,m6⟩:=H;obtain⟨n1,fs',n2,n3⟩:=kV B h4 T m1 m2;refine⟨e',M,?_⟩;simp only[PR.wp,f1,f2,f3,AD.wp,AB.put,AE.Aae,n1,n2,AW,X _ m3,AE.ev,EV.ref];refine⟨⟨trivial,trivial⟩,m4,by rw[n3];exact m5,_,.refl _,?_⟩;have J:∀(o:AE),d∉o.sl->o.ev ((d,.lp g i (j.toNat*m))::e')=o.ev e':=by
     intro o ho;cases o with
     |c t=>rfl|s t=>
      simp only[AE.ev,AB.ec];rw[b6];intro e;exact ho (by simp[AE.sl,e])
    simp only[PR.wp,e1,e2,e3,AD.wp,AB.put,J x Y,J v Z,R,hu];have L:AB.x8 ((d,.lp g i (j.toNat*m))::e') U i0=some (n,es):=by rw[AB.Aaq G];exact B
    rw [L];refine⟨h1,h2,es',h3,h4,h5,G2 m6 ?_⟩;refine Li.symm (Li.trans (W6 (.refl _) G) ⟨fun s=>?_,fun s=>?_⟩)
    .simp[AB.ec,T]
    .simp[AB.fd,A.2]
   .exact h.elim
  .exact h.elim
 .cases a
theorem Xm{O env2:AB}{b:Nat}{o:Option AE}(h:∀y∈o.toList,y.val env2=y.val O):GV env2 b o=GV O b o:=by
 cases o with
 |none=>rfl|some y=>simp[GV];exact h y (by simp)
theorem qe{S:FuncId->Fq->Az->Prop}{p:AD}{xs:List AE}{K:EV->AB->Prop}(B:p.vops=some xs)(h:p.wp S O d K):
  ∃t,K (.tv t) O/\(∀x∈xs,∃u,x.val O=some u)/\∀env2,(∀x∈xs,x.val env2=x.val O)->∀j:EV->AB->Prop,j (.tv t) env2->p.wp S env2 d j:=by
 cases p<;>simp[AD.vops]at B<;>first|cases B|skip
 case bin k op x y=>
  simp [AD.wp]at h;split at h
  .rename_i a b g w;cases A:KP k op a b with
   |none=>rw[A]at h;exact h.elim|some t=>
    rw [A]at h;refine⟨t,h,fun z c=>?_,fun env2 he j i=>?_⟩
    .simp at c;rcases c with rfl|rfl
     .exact⟨a,g⟩
     .exact⟨b,w⟩
    .simp[AD.wp,he x (by simp),he y (by simp),g,w,A];exact i
  .exact h.elim
 case fdv x k=>
  simp [AD.wp]at h;split at h
  .rename_i row g;refine⟨_,h,fun z c=>?_,fun env2 he j i=>?_⟩
   .rw[List.mem_singleton]at c;subst c;exact⟨_,g⟩
   .simp[AD.wp,he x (by simp),g];exact i
  .exact h.elim
 case ldv x k=>
  simp [AD.wp]at h;split at h
  .rename_i row g;refine⟨_,h.2,fun z c=>?_,fun env2 he j i=>?_⟩
   .rw[List.mem_singleton]at c;subst c;exact⟨_,g⟩
   .simp[AD.wp,he x (by simp),g];exact⟨h.1,i⟩
  .exact h.elim
 case len x=>
  simp [AD.wp]at h;split at h
  .rename_i n es g;refine⟨_,h,fun z c=>?_,fun env2 he j i=>?_⟩
   .rw[List.mem_singleton.1 c];exact⟨_,g⟩
   .simp[AD.wp,he x (by simp),g];exact i
  .exact h.elim
 case cvt k x=>
  simp [AD.wp]at h;split at h
  .rename_i H n g;refine⟨_,h,fun z c=>?_,fun env2 he j i=>?_⟩
   .rw[List.mem_singleton.1 c];exact⟨_,g⟩
   .simp[AD.wp,he x (by simp),g];exact i
  .exact h.elim
 case mm b x y=>
  simp [AD.wp]at h;split at h
  .rename_i k a H a' g w;refine⟨_,h.2,fun z c=>?_,fun env2 he j i=>?_⟩
   .simp at c;rcases c with rfl|rfl
    .exact⟨_,g⟩
    .exact⟨_,w⟩
   .simp[AD.wp,he x (by simp),he y (by simp),g,w];exact⟨h.1,i⟩
  .exact h.elim
 case slc n x lo hi=>
  simp [AD.wp]at h;split at h
  .rename_i m es g;split at h
   .rename_i C l E r F G;refine⟨_,h.2.2,fun z c=>?_,fun env2 he j i=>?_⟩
    .simp at c;rcases c with rfl|c|c
     .exact⟨_,g⟩
     .cases c;exact⟨_,F⟩
     .cases c;exact⟨_,G⟩
    .have C:GV env2 0 lo=GV O 0 lo:=Xm (fun y o=>he y (by simp at o|-;exact .inr (.inl o)));have E:GV env2 es.length hi=GV O es.length hi:=Xm (fun y o=>he y (by simp at o|-;exact .inr (.inr o)));simp[AD.wp,he x (by simp),g,C,E,F,G];exact⟨h.1,h.2.1,i⟩
   .exact h.elim
  .exact h.elim
theorem qW{p q:PR}(a:Abj D p q=true)(h:Ee (AO P) K (p::q::rs) O):Ee (AO P) K (q::p::rs) O:=by
 unfold Abj at a;split at a
 .rename_i xs d n x v U Q R V W X;simp[bne_iff_ne,Bool.not_eq_true',decide_eq_false_iff_not]at a;obtain⟨⟨⟨_,hdx⟩,G⟩,H⟩:=a;obtain⟨e',I,h⟩:=h;unfold PR.wp at h;rw[Q,R]at h;simp[AB.put]at h;obtain⟨t,⟨y,j,hw⟩,hs,J⟩:=qe U h;obtain⟨s,off,cs,cs',o,h1,L,M,hK,h5⟩:=SI V W X hw;have Y:∀z,d≠z->y.get z=e'.get z:=fun z w=>by rw[j.1,AB.ec,b6 w]
  have g:d≠s:=fun e=>by
   rw [j.1,AB.ec,az e]at L;cases L
  have Z:(AE.s x).place e'=some (s,off):=by
   grind [AE.place]
  have hb:e'.get s=.bx cs:=by rw[<-Y s g];exact L
  have hv:v.ev e'=v.ev y:=by
   cases v with
   |c t=>rfl|s l=>
    grind [AE.ev,AE.sl]
  have hq:∀k:AB->Prop,k (Mx s cs' o e')->q.wp (AO P) e' k:=fun k A=>h5 e' Z hb hv k A;refine⟨e',I,hq _ ⟨_,.refl _,?_⟩⟩;unfold PR.wp;rw[Q,R];simp[AB.put];refine J _ (fun z w=>?_) _ (G2 hK ?_)
  .cases z with
   |c t=>rfl|s m=>
    obtain ⟨u,hu⟩:=hs _ w;have B:¬s=m:=fun e=>by
     grind [AE.val,AE.ev,EV.val]
    simp [AE.val,AE.ev,Ed,b6 B];cases o with
    |none=>rfl|some b=>
     have C:¬b.1=m:=fun e=>Ax H (x:=m) (List.mem_flatMap.2 ⟨_,w,by simp[AE.sl]⟩) (by rw[(M b.1 b.2 rfl).1,e];simp[AE.sl]);simp[b6 C]
  .refine⟨fun z=>?_,fun z=>?_⟩
   .rw[AB.ec,Ed,Ed];by_cases E:s=z
    .subst E;rw[az rfl,b6 g,az rfl]
    .rw[b6 E,b6 E];cases o with
     |none=>
      simp only;rw[j.1,AB.ec]
     |some b=>
      have F:¬d=b.1:=fun e=>G (by rw[(M b.1 b.2 rfl).1,e];simp[AE.sl]);simp only;by_cases i:b.1=z
      .rw[az i,az i,b6 (fun e=>F (e.trans i.symm))]
      .rw[b6 i,b6 i,j.1,AB.ec]
   .have T:∀l e,o=some (l,e)->e.noR z=true:=fun l e he=>by
     obtain ⟨_,⟨t,rfl⟩,_⟩:=M l e he;rfl
    rw [AB.fd,FJ _ _ _ _ _ T,FJ _ _ _ _ _ T,j.2,AB.fd]
 .cases a
theorem qS{p q:PR}(hj:JD D O)(a:Abl D p q=true)(h:Ee (AO P) K (p::q::rs) O):Ee (AO P) K (q::p::rs) O:=by
 unfold Abl at a;split at a
 .rename_i b m d n x v R i T Y Z f3;simp[bne_iff_ne,Bool.not_eq_true',decide_eq_false_iff_not,zzX]at a;obtain⟨⟨⟨⟨⟨⟨_,bD⟩,hbx⟩,hdx⟩,hdb⟩,M⟩,U⟩:=a;obtain⟨e',G,h⟩:=h;have hj':=hj.congr G.symm;unfold PR.wp at h;rw[R,i,T]at h;simp[AB.put,AD.wp]at h;split at h
  case h_2=>exact h.elim
  rename_i bs hbs;obtain⟨L,y,w,hw⟩:=h;obtain⟨s,off,cs,cs',o,h1,g,B,I,h5⟩:=SI Y Z f3 hw;have gy:∀z,d≠z->y.get z=e'.get z:=fun z W=>by rw[w.1,AB.ec,b6 W]
  have l:d≠s:=fun e=>by
   rw [w.1,AB.ec,az e]at g;cases g
  have H:(AE.s x).place e'=some (s,off):=by
   grind [AE.place]
  have hsb:¬s=b:=by
   intro e;subst e;simp[AE.place]at H;split at H
   .rename_i r off' hx;simp at H;exact hj'.no (x:=x) (s:=s) (by rw[hx,<-H.1];rfl) bD
   .grind
   .cases H
  have F:e'.get s=.bx cs:=by rw[<-gy s l];exact g
  have hv:v.ev e'=v.ev y:=by
   cases v with
   |c t=>rfl|s E=>
    grind [AE.ev,AE.sl]
  have hq:∀C:AB->Prop,C (Mx s cs' o e')->q.wp (AO P) e' C:=fun C X=>h5 e' H F hv C X;refine⟨e',G,hq _ ⟨_,.refl _,?_⟩⟩;have hg:(Mx s cs' o e').get b=.bx bs:=by
   grind [Ed,AE.sl]
  unfold PR.wp;rw[R,i,T];simp[AB.put,AD.wp,hg];refine⟨L,G2 I ?_⟩;refine⟨fun z=>?_,fun z=>?_⟩
  .rw[AB.ec,Ed,Ed];by_cases A:s=z
   .subst A;rw[az rfl,b6 l,az rfl]
   .rw[b6 A,b6 A];cases o with
    |none=>
     simp only;rw[w.1,AB.ec]
    |some j=>
     have J:¬d=j.1:=fun e=>M (by rw[(B j.1 j.2 rfl).1,e];simp[AE.sl]);simp only;by_cases u:j.1=z
     .rw[az u,az u,b6 (fun e=>J (e.trans u.symm))]
     .rw[b6 u,b6 u,w.1,AB.ec]
  .have L:∀E e,o=some (E,e)->e.noR z=true:=fun E e he=>by
    obtain ⟨_,⟨t,rfl⟩,_⟩:=B E e he;rfl
   rw [AB.fd,FJ _ _ _ _ _ L,FJ _ _ _ _ _ L,w.2,AB.fd]
 .rename_i b k d n x v R i T Y Z f3;simp[bne_iff_ne,Bool.not_eq_true',decide_eq_false_iff_not,zzX]at a;obtain⟨⟨⟨_,hdx⟩,M⟩,U⟩:=a;obtain⟨e',G,h⟩:=h;unfold PR.wp at h;rw[R,i,T]at h;obtain⟨V,hn0,Q,y,w,hw⟩:∃V,(∀c,V≠.bx c)/\(∀i:AB,i.get b=e'.get b\/(∃c c',e'.get b=.bx c/\i.get b=.bx c')->∀C:EV->AB->Prop,C V i->(AD.bad b k).wp (AO P) i (some d) C)/\Ee (AO P) K (q::rs) ((d,V)::e'):=by
   simp only[AB.put,AD.wp]at h;split at h
   .rename_i F;refine⟨_,by simp,fun i g C I=>?_,h⟩;obtain⟨c',B⟩:∃c',i.get b=.bx c':=by
     rcases g with g|⟨_,c',_,g⟩
     .exact⟨_,g.trans F⟩
     .exact⟨c',g⟩
    simp only[AD.wp,B];exact I
   .rename_i F;refine⟨_,by simp,fun i g C I=>?_,h⟩;have B:i.get b=e'.get b:=g.resolve_right fun⟨c,c',h4,_⟩=>by rw[F]at h4;cases h4
    simp only[AD.wp,B,F];exact I
   .exact h.elim
  obtain ⟨s,off,cs,cs',o,h1,g,B,I,h5⟩:=SI Y Z f3 hw;have gy:∀z,d≠z->y.get z=e'.get z:=fun z W=>by rw[w.1,AB.ec,b6 W]
  have l:d≠s:=fun e=>by
   rw [w.1,AB.ec,az e]at g;exact hn0 _ g
  have H:(AE.s x).place e'=some (s,off):=by
   grind [AE.place]
  have F:e'.get s=.bx cs:=by rw[<-gy s l];exact g
  have hv:v.ev e'=v.ev y:=by
   cases v with
   |c t=>rfl|s E=>
    grind [AE.ev,AE.sl]
  refine ⟨e',G,h5 e' H F hv _ ⟨_,.refl _,?_⟩⟩;unfold PR.wp;rw[R,i,T];refine Q _ ?_ _ (G2 I ?_)
  .rw[Ed];by_cases A:s=b
   .subst A;exact .inr ⟨cs,cs',F,by rw[az rfl]⟩
   .rw[b6 A];cases o with
    |none=>exact .inl rfl|some j=>
     have:¬j.1=b:=fun e=>U (by rw[(B j.1 j.2 rfl).1,e];simp[AE.sl]);simp only;rw[b6 this];exact .inl rfl
  refine ⟨fun z=>?_,fun z=>?_⟩
  .simp only[AB.put];rw[AB.ec,Ed,Ed];by_cases A:s=z
   .subst A;rw[az rfl,b6 l,az rfl]
   .rw[b6 A,b6 A];cases o with
    |none=>
     simp only;rw[w.1,AB.ec]
    |some j=>
     have J:¬d=j.1:=fun e=>M (by rw[(B j.1 j.2 rfl).1,e];simp[AE.sl]);simp only;by_cases u:j.1=z
     .rw[az u,az u,b6 (fun e=>J (e.trans u.symm))]
     .rw[b6 u,b6 u,w.1,AB.ec]
  .have L:∀E e,o=some (E,e)->e.noR z=true:=fun E e he=>by
    obtain ⟨_,⟨t,rfl⟩,_⟩:=B E e he;rfl
   simp only[AB.put];rw[AB.fd,FJ _ _ _ _ _ L,FJ _ _ _ _ _ L,w.2,AB.fd]
 .cases a
theorem df{oq:Oper}(u:Km P N ops oq q=true){b:List PR}:∀(a:List PR),(∀p∈a,Aa9 D p q=true/\∃o,Km P N ops o p=true)->∀{O:AB},Ki F0 w0 N O->JD D O->Ee (AO P) K (a++q::b) O->Ee (AO P) K (q::(a++b)) O
 |[],_,O,_,_,h=>h|p::a,g,O,B,C,h=>by
  obtain ⟨c,o,ho⟩:=g p (by simp);obtain⟨e',i,h⟩:=h;obtain⟨pc,A,k,l,j⟩:=ub ho (ZX c) (B.congr i.symm) (C.congr i.symm) h;have z:=df u a (fun p w=>g p (by simp[w])) k l A;have t:Ee (AO P) K (p::q::(a++b)) O:=⟨e',i,j _ z⟩;simp[Aa9]at c
  grind [swap,nU,qP,qV,qY,qO,qX,qW,qS,qR,qQ,qZ,qU,qT]
variable{x:AE}
theorem sG{S:FuncId->Fq->Az->Prop}{K:EV->AB->Prop}(h:(AD.st n x v).wp S O d K):(AD.st n x v).wp S O d fun e env'=>K e env'/\e=.undef/\∀c,env'.jj c=O.jj c:=by
 simp [AD.wp]at h|-;split at h
 .rename_i s off a;split at h
  .rename_i cs b;split at h
   .grind[AB.fd,EV.noR,EV.ref]
   .grind[AB.fd,EV.noR,EV.ref]
   .exact h.elim
  .exact h.elim
 .exact h.elim
variable{s:Nat}
theorem o0{S:FuncId->Fq->Az->Prop}{K:EV->AB->Prop}(h:(AD.stb n s v).wp S O d K):(AD.stb n s v).wp S O d fun e env'=>K e env'/\e=.undef/\∀c,env'.jj c=O.jj c:=by
 simp [AD.wp]at h|-;split at h
 .rename_i cs a;split at h
  .grind[AB.fd,EV.noR,EV.ref]
  .grind[AB.fd,EV.noR,EV.ref]
  .exact h.elim
 .exact h.elim
theorem Ux(O:AB)(q:Nat)(i:Option Nat)(n:Nat)(es:Fq)(c:Nat):AB.jj c (O.Aak q i n es)=AB.jj c O:=by
 cases i with
 |none=>simp[AB.Aak,AB.fd,EV.noR,EV.ref]|some k=>
  grind [AB.Aak,AB.fd,EV.noR,EV.ref]
theorem ox{S:FuncId->Fq->Az->Prop}{q:Nat}{K:EV->AB->Prop}(h:(AD.cpt x q).wp S O d K):(AD.cpt x q).wp S O d fun e env'=>K e env'/\e=.undef/\∀c,env'.jj c=O.jj c:=by
 simp [AD.wp]at h|-;split at h
 .grind[AB.fd,EV.noR,EV.ref]
 .grind[AB.fd,EV.noR,EV.ref]
 .exact h.elim
theorem o7{S:FuncId->Fq->Az->Prop}{k:Nat}{K:EV->AB->Prop}(h:(AD.xst x v k).wp S O d K):(AD.xst x v k).wp S O d fun e env'=>K e env'/\e=.undef/\∀c,env'.jj c=O.jj c:=by
 simp [AD.wp]at h|-;split at h
 .grind[Ux]
 .exact h.elim
theorem bu(O:AB)(q i:Nat)(es:Fq)(c:Nat):AB.jj c (O.AbW q i es)=AB.jj c O:=by grind[AB.AbW,AB.fd,EV.noR,EV.ref]
theorem oz{S:FuncId->Fq->Az->Prop}{K:EV->AB->Prop}(h:(AD.nst x v).wp S O d K):(AD.nst x v).wp S O d fun e env'=>K e env'/\e=.undef/\∀c,env'.jj c=O.jj c:=by
 simp [AD.wp]at h|-
 grind [bu]
theorem o5{S:FuncId->Fq->Az->Prop}{a:List (Option AQ)}{K:EV->AB->Prop}(h:(AD.stq n a x v).wp S O d K):(AD.stq n a x v).wp S O d fun e env'=>K e env'/\e=.undef/\∀c,env'.jj c=O.jj c:=by
 simp [AD.wp]at h|-;split at h
 .rename_i s off t g hv;split at h
  .rename_i cs i;cases b:D0 a t.cells with
   |none=>rw[b]at h;exact h.elim|some ds=>
    grind [AB.fd,EV.noR,EV.ref]
  .exact h.elim
 .exact h.elim
theorem oy{S:FuncId->Fq->Az->Prop}{m x v:AE}{K:EV->AB->Prop}(h:(AD.mup s m x v).wp S O d K):(AD.mup s m x v).wp S O d fun e env'=>K e env'/\e=.undef/\∀c,env'.jj c=O.jj c:=by
 simp [AD.wp]at h|-;split at h
 .rename_i b a g t i j k;split at h
  .grind[AB.fd,EV.noR,EV.ref]
  .exact h.elim
 .exact h.elim
theorem o6{S:FuncId->Fq->Az->Prop}{n s q:Nat}{K:EV->AB->Prop}(h:(AD.stx n s q).wp S O d K):(AD.stx n s q).wp S O d fun e env'=>K e env'/\e=.undef/\∀c,env'.jj c=O.jj c:=by
 simp [AD.wp]at h|-
 grind [AB.fd,EV.noR,EV.ref]
theorem iS{S:FuncId->Fq->Az->Prop}{f:FuncId}{ys:List AE}{K:EV->AB->Prop}(h:(AD.AaD f x ys).wp S O d K):(AD.AaD f x ys).wp S O d fun e env'=>K e env'/\e.ref=none/\∀c,env'.jj c=O.jj c:=by
 simp only[AD.wp]at h|-;cases a:x.Aae O with
 |none=>rw[a]at h;exact h.elim|some p=>
  cases hv:vals O ys with
  |none=>rw[a,hv]at h;exact h.2.elim|some ts=>
   rw [a,hv]at h;obtain⟨i,zs,b,j,k,l,o⟩:=h;refine⟨i,zs,b,j,k,l,fun g=>⟨o g,?_,fun c=>Ux _ _ _ _ _ c⟩⟩;unfold EV.ofs;split<;>rfl
variable{r:PR}
theorem mG{S:FuncId->Fq->Az->Prop}{K:AB->Prop}(J:YP D r=true)(hd:Lq r.op=true->r.dst=none)(a:JD D O)(h:r.wp S O K):r.wp S O fun env'=>K env'/\JD D env':=by
 simp [YP,Bool.not_eq_true']at J;rcases J with(((((A|H)|k)|W)|X)|I)|⟨⟨⟨hm,i⟩,L⟩,o⟩
 rotate_right 2
 .unfold okCm at I;split at I
  .rename_i f x ys d t u;have put:∀e:EV,e.ref=none->∀env':AB,(∀c,env'.jj c=O.jj c)->JD D (env'.put r.dst e):=fun e he env' R c Y=>by
    rw [u];show AB.jj c ((d,e)::env')=true;rw[AB.fd,R,a c Y];simp[EV.noR,he]
   have w:(r.op.wp S O r.dst fun e env'=>K (env'.put r.dst e))->r.op.wp S O r.dst fun e env'=>K (env'.put r.dst e)/\JD D (env'.put r.dst e):=fun l=>by
    rw [t]at l|-;exact AD.o4 S O _ (fun e env' he=>⟨he.1,put e he.2.1 env' he.2.2⟩) _ (iS l)
   unfold PR.wp at h|-;split
   .rename_i L;rw[L]at h;exact w h
   .rename_i g b L;rw[L]at h;simp only at h;split
    .rename_i q k;rw[k]at h;exact⟨fun o=>w (h.1 o),fun o=>⟨h.2 o,put .sk rfl O fun _=>rfl⟩⟩
    .rename_i C;rw[C]at h;exact⟨h,put .sk rfl O fun _=>rfl⟩
    .rename_i E F;split at h
     .rename_i q k;exact absurd k (E q)
     .rename_i k;exact absurd k F
     .exact h.elim
  .cases I
 rotate_right
 .exact PR.o4 _ _ (fun env' he=>⟨he.1,fun x B=>by rw[he.2];exact a x B⟩) r (iX X h)
 rotate_left 4
 .obtain⟨pc,k1,k2,k3⟩:=YQ W h;exact k3 _ ⟨k1,fun x B=>by rw[k2];exact a x B⟩
 rotate_left 1
 .have i:=hd A;have w:(r.op.wp S O r.dst fun e env'=>K (env'.put r.dst e))->r.op.wp S O r.dst fun e env'=>K (env'.put r.dst e)/\JD D (env'.put r.dst e):=by
   intro l;rw[i]at l|-;generalize r.op=p at A l|-;cases p<;>simp[Lq]at A<;>first|cases A|skip
   .refine AD.o4 S O none (fun e env' he=>⟨he.1,fun d hd=>?_⟩) _ (sG l);simp[AB.put];rw[he.2.2];exact a d hd
   .refine AD.o4 S O none (fun e env' he=>⟨he.1,fun d hd=>?_⟩) _ (o0 l);simp[AB.put];rw[he.2.2];exact a d hd
   .refine AD.o4 S O none (fun e env' he=>⟨he.1,fun d hd=>?_⟩) _ (o7 l);simp[AB.put];rw[he.2.2];exact a d hd
   .refine AD.o4 S O none (fun e env' he=>⟨he.1,fun d hd=>?_⟩) _ (o6 l);simp[AB.put];rw[he.2.2];exact a d hd
   .refine AD.o4 S O none (fun e env' he=>⟨he.1,fun d hd=>?_⟩) _ (ox l);simp[AB.put];rw[he.2.2];exact a d hd
   .refine AD.o4 S O none (fun e env' he=>⟨he.1,fun d hd=>?_⟩) _ (oz l);simp[AB.put];rw[he.2.2];exact a d hd
   .refine AD.o4 S O none (fun e env' he=>⟨he.1,fun d hd=>?_⟩) _ (o5 l);simp[AB.put];rw[he.2.2];exact a d hd
   .refine AD.o4 S O none (fun e env' he=>⟨he.1,fun d hd=>?_⟩) _ (oy l);simp[AB.put];rw[he.2.2];exact a d hd
  unfold PR.wp at h|-;split
  .grind
  .rename_i g b hr;rw[hr]at h;simp only at h;split
   .rename_i q k;rw[k]at h;exact⟨fun o=>w (h.1 o),fun o=>⟨h.2 o,by rw[i];exact a⟩⟩
   .rename_i C;rw[C]at h;exact⟨h,by rw[i];exact a⟩
   .rename_i E F;split at h
    .rename_i q k;exact absurd k (E q)
    .rename_i k;exact absurd k F
    .exact h.elim
 .unfold AbL at H;split at H
  .rename_i gs d t u G;obtain⟨ts,Q,U,V⟩:=Tj t u G h;refine Q5 t u G Q U ⟨V,fun x B=>?_⟩;rw[AB.fd,KU,a x B];rfl
  .cases H
 .unfold okQ at k;split at k
  .rename_i s d t u G;obtain⟨n,es,Q,h2,U,V⟩:=aw t u G h;refine ax t u G Q h2 U ⟨V,fun x B=>?_⟩;have:=a x B;simp[AB.fd,EV.noR,EV.ref,this]
  .rename_i n s z x d t u G;simp[PR.wp,t,u,G,AD.wp,AB.put]at h|-;split at h
   .rename_i d' m es kk j M hs B;simp at M;subst M;refine⟨h.1,h.2.1,h.2.2.1,h.2.2.2,fun y Z=>?_⟩;have:=a y Z;simp[AB.fd,EV.noR,EV.ref,this]
   .exact h.elim
  .cases k
 .obtain⟨d,hd⟩:=Option.isSome_iff_exists.1 i;have T:r.op.x6=true->r.guard=none:=fun R=>by
   rcases L with h|h
   .rw[R]at h;cases h
   .simpa using h
  refine PR.o4 S O (fun env' he=>?_) r (Nw hd hm T h);obtain⟨Q,e,f,hF⟩:=he;exact⟨Q,hF.jd o a⟩
theorem iF{S:FuncId->Fq->Az->Prop}{a:Act}{w:World}:∀{O:AB},RS rs=true->Ee S K rs O->Bi F0 w0 O a w->∃env',K env'/\Bi F0 w0 env' a w:=by
 induction rs with
 |nil=>intro O _ h b;obtain⟨e,g,i⟩:=h;exact⟨e,i,b.congr fun n=>(g.1 n).symm⟩
 |cons r rs u=>
  intro O c h b;simp[RS]at c;obtain⟨g,i⟩:=c;obtain⟨e',j,h⟩:=h;have b:=b.congr (fun n=>(j.1 n).symm);split at g
  .rename_i s k l o;simp[PR.wp,k,l,o,AD.wp]at h;split at h
   .rename_i cs t;obtain⟨G,b⟩:=b;exact u i h (b.frz t)
   .exact h.elim
  .cases g
theorem RT:∀(os:List Oper)(rs:List PR),Kx P N ops os rs=true->(∀i o,os[i]?=some o->Km P N ops o (MK rs i)=true)/\RS (rs.drop os.length)=true/\rs=(List.range os.length).map (MK rs)++rs.drop os.length
 |[],rs,h=>⟨fun i o h=>by simp at h,h,by simp⟩|o::os,[],h=>by simp[Kx]at h|o::os,r::rs,h=>by
  simp [Kx]at h;obtain⟨b,c,g⟩:=RT os rs h.2;refine⟨fun i a hi=>?_,by simpa using c,?_⟩
  .cases i with
   |zero=>simp[List.getElem?_cons_zero]at hi;subst hi;exact h.1|succ i=>simp[List.getElem?_cons_succ]at hi;exact b i a hi
  .rw[ci,List.range_succ_eq_map,List.map_cons,List.map_map,List.cons_append,List.drop_succ_cons];congr 1
theorem dm{Q:Exit->Act->World->Prop}(hok:SY P N D ops rs=true)(hpd:∀i v,p=some (i,v)->∀r∈rs,r.dst≠some i)(hQ:∀O a w,K O->Jn N p a->Bi F0 w0 O a w->Q .normal a w):
  ∀(fuel:Nat)(rem:QQ)(b:Array Bool)(O:AB)(a:Act)(w:World),rem.length=fuel->rem.Pairwise (·<·)->(∀j,j∈rem↔j<ops.size/\b.getD j true=false)->b.size=ops.size ->
   (∀k o,ops[k]?=some o->b.getD k false=true->∀e∈o.after,Region.binds .any e=true->b.getD e.on false=true) ->
   Jn N p a->Bi F0 w0 O a w->JD D O->Ee (AO P) K (rem.map (MK rs)++rs.drop ops.size) O->wpAny P .any ops Q fuel b a w:=by
 simp only[SY,tg,List.all_eq_true,List.mem_range]at hok;obtain⟨⟨⟨⟨hl,hs⟩,he⟩,hM⟩,hP⟩:=hok;obtain⟨F,hl2,hl3⟩:=RT ops.toList rs hl;simp[Array.getElem?_toList]at F hl2 hl3;intro fuel
 induction fuel with
 |zero=>
  intro rem b O a w u U c hsz V hN hI T h;have:rem=[]:=List.eq_nil_of_length_eq_zero u;subst this;refine⟨?_,?_⟩
  .refine List.eq_nil_iff_forall_not_mem.2 fun j I=>?_;rw[mem_ready]at I;obtain⟨H,o,ho,_⟩:=I;have:=(c j).2 ⟨(Array.getElem?_eq_some_iff.1 ho).1,H⟩;cases this
  .obtain⟨env',H,t⟩:=iF hl2 h hI;exact hQ env' a w H hN t
 |succ fuel ih=>
  intro rem b O a w u U c hsz V hN hI T h;refine⟨fun hnil=>?_,fun i hi=>?_⟩
  ·
   exfalso;cases rem with
   |nil=>simp at u|cons i rem=>
    have H:=(c i).1 (by simp);have l:i∈Region.ready .any ops b:=by
     rw [mem_ready];have ho:ops[i]?=some ops[i]:=Array.getElem?_eq_getElem H.1;refine⟨H.2,_,ho,fun e A L=>?_⟩;have:=he i H.1;rw[ho]at this;simp only[List.all_eq_true,Bool.or_eq_true,Bool.not_eq_true',zzX]at this;have hlt:=(this e (by simpa using A)).resolve_left (by simp[L]);cases E:b.getD e.on false with
     |true=>rfl|false=>
      have W:e.on∈i::rem:=by
       refine (c _).2 ⟨by omega,?_⟩;have:e.on<b.size:=by omega
       simp [Array.getD_eq_getD_getElem?,Array.getElem?_eq_getElem this]at E|-;exact E
      rcases List.mem_cons.1 W with t|t
      .omega
      .have:=(List.pairwise_cons.1 U).1 _ t;omega
    rw [hnil]at l;cases l
  .have hi':=hi;rw[mem_ready]at hi';obtain⟨hi1,o,ho,hi2⟩:=hi';have l:i<ops.size:=(Array.getElem?_eq_some_iff.1 ho).1;have hir:i∈rem:=(c i).2 ⟨l,hi1⟩;obtain⟨G,z,rfl⟩:=List.append_of_mem hir;have g:=List.pairwise_append.1 U;have M:∀j∈G,j<i:=fun j T=>g.2.2 j T i (by simp);have Y:∀j∈z,i<j:=fun j T=>(List.pairwise_cons.1 g.2.1).1 j T;have J:∀(k:Nat),k<ops.size->(∀o,ops[k]?=some o->∀e∈o.after,Region.binds .any e=true->b.getD e.on false=true)->∀j,j<ops.size->((kz ops).getD k 0).testBit j=true->b.getD j false=true:=by
    intro k
    induction k using Nat.strongRecOn with
    |_ k ihk=>
     intro hk hdir j C L;have:=hM k hk j C;rw[L]at this;simp only[Bool.not_true,Bool.false_or]at this;split at this
     .rename_i ok hok';simp only[List.any_eq_true,tg,Bool.or_eq_true,beq_iff_eq,zzX]at this;obtain⟨e,A,hbe,h3⟩:=this;have E:=hdir ok hok' e (by simpa using A) hbe;rcases h3 with h3|⟨h3,h4⟩
      .rw[<-h3];exact E
      .exact ihk e.on h3 (by omega) (fun R B e' he' hb'=>V e.on R B E e' he' hb') j C h4
     .cases this
   have hwp:Ee (AO P) K (MK rs i::(G.map (MK rs)++(z.map (MK rs)++rs.drop ops.size))) O:=by
    refine df (ops:=ops) (F0:=F0) (w0:=w0) (N:=N) (oq:=o) (F i o ho) (G.map (MK rs)) (fun p hp=>?_) ⟨a,w,hN.size,hI⟩ T (by simpa using h);obtain⟨j,hj1,rfl⟩:=List.mem_map.1 hp;have hlt:=M j hj1;have C:j<ops.size:=by omega
    refine ⟨?_,ops[j],F j _ (Array.getElem?_eq_getElem C)⟩;have:=hP i l j hlt;rw[Bool.or_eq_true]at this;refine this.resolve_left fun L=>?_;have H:=J i l (fun R B=>by rw[ho]at B;simp at B;subst B;exact hi2) j C L;have t:=((c j).1 (by simp[hj1])).2;have:j<b.size:=by omega
    simp [Array.getD_eq_getD_getElem?,Array.getElem?_eq_getElem this]at H t;rw[H]at t;cases t
   obtain ⟨e',heq,hw⟩:=hwp;have hI':=hI.congr (fun n=>(heq.1 n).symm);have I:=T.congr heq.symm;have hstd:Lq (MK rs i).op=true->(MK rs i).dst=none:=by
    intro hst;have:=F i o ho;simp[Km]at this;have t:=this.2;split at t
    .simp only[hst,Bool.not_true,Bool.and_false,Bool.false_and]at t;cases t
    .assumption
    .cases t
   have hw':=mG (hs i l) hstd I hw;have Z:∀j,j∈G++z↔j<ops.size/\(b.setIfInBounds i true).getD j true=false:=by
    intro j;by_cases hij:j=i
    .subst hij;constructor
     .intro W;rcases List.mem_append.1 W with W|W
      .have:=M _ W;omega
      .have:=Y _ W;omega
     .rintro⟨_,t⟩;have:j<b.size:=by omega
      simp [this]at t
    .rw[getD_set_ne true (fun e=>hij e.symm),<-c j];simp[hij]
   have hcl':∀k R,ops[k]?=some R->(b.setIfInBounds i true).getD k false=true->∀e∈R.after,Region.binds .any e=true->(b.setIfInBounds i true).getD e.on false=true:=by
    intro k R hk hlk e A L;refine getD_set_true ?_;by_cases hki:k=i
    .subst hki;rw[ho]at hk;simp at hk;subst hk;exact hi2 e A L
    .rw[getD_set_ne false (fun e=>hki e.symm)]at hlk;exact V k R hk hlk e A L
   have hpdi:∀j v,p=some (j,v)->(MK rs i).dst≠some j:=by
    intro j v hp;unfold MK;cases hr:rs[i]? with
    |none=>simp|some r=>exact hpd j v hp r (List.mem_of_getElem? hr)
   have:=T4 (Q:=Q) (next:=wpAny P .any ops Q fuel (b.setIfInBounds i true)) hI' hN hpdi (F i o ho) hw' fun env' a' w' k1 k2 k3=>
    ih (G++z) _ env' a' w' (by simp at u|-;omega) (List.pairwise_append.2 ⟨g.1,(List.pairwise_cons.1 g.2.1).2,fun x hx y hy=>g.2.2 x hx y (by simp[hy])⟩) Z (by simpa using hsz) hcl' k2 k3 k1.2 (by simpa using k1.1)
   unfold Go.wpOp;rw[ho];simp;split
   .rename_i X;rw[az X]at this;exact .inl this
   .rename_i X;rw[b6 X]at this;exact this
theorem V4:∀(ds:QQ)(O:AB),Qh O ds=true->JD ds O
 |[],O,_=>fun d hd=>by simp at hd|d::ds,O,h=>by
  simp [Qh]at h;intro x a;rcases List.mem_cons.1 a with rfl|a
  .exact h.1
  .exact V4 ds O h.2 x a
theorem KQ(J:P.follows .mixedOrders=true):Jm P N (SY P N):=by
 intro F0 w0 p id ds ops rs g O a w K Q z B X c hd h Y;refine wp_region_any J ?_;have l:=z;simp[SY]at l;obtain⟨_,_,E⟩:=RT ops.toList rs l.1.1.1.1;simp at E;have C:Bi F0 w0 O a {w with drawn:=w.drawn+1}:=by
  obtain ⟨G,c⟩:=c;refine⟨G,c.og,c.lt,⟨c.below.os,c.below.tape,c.below.output,c.below.size,c.below.block,c.below.cell,c.below.free,c.below.tab⟩,c.defers,c.dom,fun s L=>?_,c.wf⟩;exact AJ.kept (w:=w) (w':={w with drawn:=w.drawn+1}) (F:=AR w0.heap.size F0 G) (G:=G) (O:=O) (a:=a) (fun b o u M R=>⟨M,R⟩) (fun _=>rfl) (fun _ _ _ _=>rfl) rfl (fun _ _ _ _ _=>rfl) (fun r i k H T=>⟨T,fun v hv=>by cases k<;>exact hv⟩) (fun r off H t=>⟨t,rfl⟩) (fun r i H t=>⟨t,fun _ hv=>hv⟩) (c.slots s L)
 refine dm (K:=fun e=>K (e.fu g)) (F0:=F0) (w0:=w0) z B (fun O a w U V W=>Y _ a w U V (W.fu g)) ops.size (List.range ops.size) _ O a _ (by simp) List.pairwise_lt_range (fun j=>?_) (by simp) (fun k o Z A=>?_) X C (V4 ds O hd) ?_
 .rw[List.mem_range];constructor
  .intro I;exact⟨I,by simp[Array.getD_eq_getD_getElem?,Array.getElem?_replicate,I]⟩
  .exact fun h=>h.1
 .simp[Array.getD_eq_getD_getElem?,Array.getElem?_replicate]at A;split at A<;>simp at A
 grind [gQ]
end
end Go.Sf
