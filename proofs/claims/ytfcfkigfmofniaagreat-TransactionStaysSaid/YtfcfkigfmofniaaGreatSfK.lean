/- Operations that take a list of one's own, in drawn regions. -/
import Derived.Test.YtfcfkigfmofniaaGreatSfSwap
set_option linter.all false
namespace Go.Sf
def AD.tkn:AD->Option QQ
 |.Aac _=>some []|.Aaf _=>some []|.tkx s=>some [s]|.zY _ s _=>some [s]|.Aan q=>some [q]|_=>none
def RJ(qs:QQ)(O:AB):AB:=qs.map (·,EV.undef)++O
theorem Ok(qs:QQ)(O:AB)(n:Nat):AB.get (RJ qs O) n=if n∈qs then .undef else O.get n:=by
 induction qs with
 |nil=>rfl|cons q qs a=>
  grind [RJ,AB.d6]
theorem IU(qs:QQ)(O:AB)(c:Nat):AB.gt c (RJ qs O)=AB.gt c O:=by
 induction qs with
 |nil=>rfl|cons q qs a=>
  simp only[RJ,List.map_cons,List.cons_append,AB.ei]at a|-;rw[a];rfl
structure dt(S:FuncId->Fq->Al->Prop)(op:AD)(qs:QQ)(d:Nat)(O:AB)(e:EV):Prop where
 dno:O.gt d=true
 Aaw:e.yc=none
 slbx:∀n∈op.slots,∀cs,O.get n≠.bx cs
 sub:∀n∈qs,n∈op.slots
 again:∀env2,(∀n∈op.slots,env2.get n=O.get n)->env2.gt d=true->∀K2:EV->AB->Prop,K2 e (RJ qs env2)->op.wp S env2 (some d) K2
variable{y:AE}
theorem tK{O env2:AB}(h:∀n∈y.sl,env2.get n=O.get n):y.val env2=y.val O:=by
 cases y with
 |c t=>rfl|s n=>simp only[AE.val,AE.ev,h n (by simp[AE.sl])]
variable{O:AB}
theorem tJ{t:TV}(h:y.val O=some t):∀n∈y.sl,∀cs,O.get n≠.bx cs:=by
 intro n a cs b;cases y with
 |c t=>simp[AE.sl]at a|s m=>
  grind [AE.sl,List.mem_singleton,AE.val,AE.ev,EV.val]
variable{qs:QQ}
theorem take{S:FuncId->Fq->Al->Prop}{op:AD}{d:Nat}{K:EV->AB->Prop}(c:op.tkn=some qs)(h:op.wp S O (some d) K):∃e,dt S op qs d O e/\K e (RJ qs O):=by
 cases op<;>simp only[AD.tkn,reduceCtorEq,tn]at c
 case Aaf n=>
  subst c;simp only[AD.wp]at h;exact⟨_,⟨h.1,rfl,by simp[AD.slots],by simp,fun env2 _ a j b=>⟨a,b⟩⟩,h.2⟩
 case Aac n=>
  subst c;simp only[AD.wp]at h;exact⟨_,⟨h.1,rfl,by simp[AD.slots],by simp,fun env2 _ a j b=>⟨a,b⟩⟩,h.2⟩
 case tkx s=>
  subst c;simp only[AD.wp]at h;split at h
  .rename_i t n es hd i;simp only[tn]at hd;subst hd;refine⟨.xo n es,⟨h.1,rfl,fun m u cs l=>?_,by simp[AD.slots],fun env2 g a j b=>?_⟩,h.2.2⟩
   .grind[AD.slots,List.mem_singleton]
   .have:=g s (by simp[AD.slots]);simp only[AD.wp,this,i];exact⟨a,h.2.1,b⟩
  .exact h.elim
 case Aan q=>
  subst c;simp only[AD.wp]at h;split at h
  .rename_i t n k hd i;simp only[tn]at hd;subst hd;refine⟨.x1 n k,⟨h.1.1,rfl,fun m u cs l=>?_,by simp[AD.slots],fun env2 g a j b=>?_⟩,h.2⟩
   .grind[AD.slots,List.mem_singleton]
   .have:=g q (by simp[AD.slots]);simp only[AD.wp,this,i];exact⟨⟨a,h.1.2⟩,b⟩
  .exact h.elim
 case zY n s y=>
  subst c;simp only[AD.wp]at h;split at h
  .rename_i t m es m' k hd i w;simp only[tn]at hd;subst hd;obtain⟨B,C,E,F,G,H⟩:=h;refine⟨.xo n (es++k),⟨F,rfl,fun x o cs l=>?_,by simp[AD.slots],fun env2 g a j b=>?_⟩,H⟩
   .grind[AD.slots,tJ]
   .have z:=g s (by simp[AD.slots]);have A:=tK (O:=O) (env2:=env2) (y:=y) (fun x o=>g x (by simp[AD.slots,o]));simp only[AD.wp,z,i,A,w];exact⟨B,C,E,a,G,b⟩
  .exact h.elim
def PR.tk(r:PR):Option (QQ×Nat):=
 match r.op.tkn,r.guard,r.dst with
 |some qs,none,some d=>some (qs,d)|_,_,_=>none
variable{r:PR}
theorem PR.tk_some{d:Nat}(h:r.tk=some (qs,d)):r.op.tkn=some qs/\r.guard=none/\r.dst=some d:=by
 unfold PR.tk at h
 grind
theorem XC{S:FuncId->Fq->Al->Prop}{d:Nat}{K:AB->Prop}(g:r.tk=some (qs,d))(h:r.wp S O K):∃e,dt S r.op qs d O e/\K ((d,e)::RJ qs O)/\
  ∀env2,(∀n∈r.op.slots,env2.get n=O.get n)->env2.gt d=true->∀a:AB->Prop,a ((d,e)::RJ qs env2)->r.wp S env2 a:=by
 obtain ⟨l,o,t⟩:=PR.tk_some g;have k:r.op.wp S O (some d) fun e env'=>K ((d,e)::env'):=by
  grind [PR.wp,AB.put]
 obtain ⟨e,c,u⟩:=take l k;refine⟨e,c,u,fun env2 i j a b=>?_⟩;unfold PR.wp;rw[o];simp only[t,AB.put];exact c.again env2 i j (fun e env'=>a ((d,e)::env')) b
def yS(D:QQ)(p q:PR):Bool:=
 match q.tk with
 |some (qs,d)=>PR.yo D p&&D.contains d&&qs.all D.contains&&EW p.dst.toList (d::q.op.slots)&&EW (d::qs) (p.op.slots++p.zA)&&EW p.op.dem q.op.slots|none=>false
def zK(p q:PR):Bool:=
 match p.tk,q.tk with
 |some (_,dp),some (_,dq)=>EW (dp::p.op.slots) (dq::q.op.slots)|_,_=>false
section
variable{P:Program}{F0:Nat->Nat->Prop}{w0:W0}{N:Nat}{ops:Array Oper}{K:AB->Prop}{D:QQ}
variable{r:PR}{O o3:AB}{e:EV}{f:A7}
theorem PH.away{S:FuncId->Fq->Al->Prop}{d:Nat}(h:PH S r d O o3 e f){x:Nat}(a:x∉r.op.slots)(b:∀y,(O.get y).yc≠some x)(u:EV):f.on x u=u:=by
 have c:=h.slot;have g:=h.cell;cases f with
 |none=>rfl|slot s t=>
  grind [A7.on,CD]
 |cell s off t=>
  simp only[A7.on]
  grind
theorem PH.stay{S:FuncId->Fq->Al->Prop}{d:Nat}(h:PH S r d O o3 e f){x:Nat}(a:x∉r.op.dem)(b:∀cs,O.get x≠.bx cs):f.on x (O.get x)=O.get x:=by
 have c:=h.slot;have g:=h.ok;cases f with
 |none=>rfl|slot s t=>
  grind [A7.on]
 |cell s off t=>
  simp only[A7.on]
  grind
theorem VE(h:PR.yo D r=true):∃d,r.dst=some d/\r.op.mov=true/\(r.op.wi=true->r.guard=none)/\EW r.op.zT D=true/\(r.op.wi=true\/d∈D):=by
 simp only[PR.yo,sr,Bool.or_eq_true,Bool.not_eq_true']at h;obtain⟨⟨⟨⟨b,c⟩,g⟩,i⟩,j⟩:=h;obtain⟨d,hd⟩:=Option.isSome_iff_exists.1 c;refine⟨d,hd,b,fun a=>?_,i,?_⟩
 .rcases g with h|h
  .rw[a]at h;cases h
  .simpa using h
 grind [PR.old]
variable{rs:List PR}
theorem tA(hR:L0 F0 w0 N O)(hj:JD D O){op:Oper}{p q:PR}(hp:L5 P N ops op p=true)(a:yS D p q=true)(h:Ej (AX P) K (p::q::rs) O):Ej (AX P) K (q::p::rs) O:=by
 unfold yS at a;split at a
 .rename_i qs d ht;simp only[sr,List.contains_eq_mem,yf,List.all_eq_true]at a;obtain⟨⟨⟨⟨⟨Z,dD⟩,sD⟩,T⟩,U⟩,c3⟩:=a;obtain⟨w,J,pm,pg',pb,_⟩:=VE Z;rw[J]at T;simp only[Option.toList_some]at T;have hpd:w≠d:=fun e=>An T (x:=w) (by simp) (by simp[e]);have H:w∉q.op.slots:=fun e=>An T (x:=w) (by simp) (by simp[e]);have i:d∉p.op.slots:=fun e=>An U (x:=d) (by simp) (DH e);have dng:d∉p.zA:=fun e=>An U (x:=d) (by simp) (Dq e);have j:∀s∈qs,s∉p.op.slots:=fun s V e=>An U (x:=s) (by simp[V]) (DH e);have sng:∀s∈qs,s∉p.zA:=fun s V e=>An U (x:=s) (by simp[V]) (Dq e);obtain⟨e',A,h⟩:=h;have hR':=hR.congr A.symm;have k:=hj.congr A.symm;obtain⟨o3,⟨⟨e1,l,hw⟩,ep,F,o⟩,hR1⟩:=FN hR' hp (PO J pm pg' h);have g1:∀n,e1.get n=if w=n then ep else F.on n (e'.get n):=fun n=>by
   rw [l.1,o.o3,AB.d6,A7.get]
  have I:∀x,x∈D->x∉p.op.slots->∀e,F.on x e=e:=fun x W X e=>o.away X (fun y hy=>k.no hy W) e;obtain⟨e,M,hK,Q⟩:=XC ht hw;have z:∀n∈q.op.slots,e'.get n=e1.get n:=by
   intro n R;have hne:w≠n:=fun e=>H (e▸R);have hb:=M.slbx n R;rw[g1,az hne]at hb|-;refine(o.stay (fun hd=>An c3 hd R) (fun cs hc=>?_)).symm;refine hb (match F.on n (.bx cs)with|.bx cs'=>cs'|_=>cs) ?_;rw[hc];cases F with
   |none=>rfl|slot s t=>
    have:=o.ok;simp only[A7.on];split
    .rename_i e;subst e;simp only[A7.ok]at this;rw[hc]at this;cases this
    .rfl
   |cell s off t=>
    simp only[A7.on];split<;>rfl
  have hdn:e'.gt d=true:=by
   have:=M.dno;rw[l.2,o.o3,AB.ei,A7.gt,sr]at this;exact this.2
  refine ⟨e',A,Q e' z hdn _ ⟨_,.refl _,?_⟩⟩;have C:∀m,m≠d->m∉qs->AB.get ((d,e)::RJ qs e') m=e'.get m:=fun m u b=>by
   rw [AB.d6,az (fun e=>u e.symm),Ok,az b]
  have nr:∀c,AB.gt c ((d,e)::RJ qs e')=AB.gt c e':=fun c=>by
   rw [AB.ei,IU,EV.yz,M.Aaw];rfl
  have L:D0 p.op F (some w) e' ((d,e)::RJ qs e'):=by
   refine ⟨fun x B=>.inl (C x (fun e=>i (e▸B)) (fun e=>j x e B)),fun x B r hr=>.inl (C r (fun e=>k.no hr (e▸dD)) (fun e=>k.no hr (sD r e))),fun x B _=>C x (fun e=>i (e▸CD B)) (fun e=>j x e (CD B)),?_,fun R d' hd' Y=>by rw[nr];exact Y⟩;have u:=o.slot;have b:=o.ok;have h4:=o.cell;cases F with
   |none=>trivial|slot x t=>
    simp only[A7.ok]at b|-;rw[C x (fun e=>i (e▸CD (u _ _ rfl))) (fun e=>j x e (CD (u _ _ rfl)))];exact b
   |cell x off t=>
    obtain ⟨ds,h5,h6⟩:=b;refine⟨ds,?_,h6⟩;rw[C x (fun e=>?_) (fun e=>?_)]
    .exact h5
    .rcases h4 _ _ _ rfl with h7|⟨y,_,h8⟩
     .exact i (e▸h7)
     .exact k.no h8 (e▸dD)
    .rcases h4 _ _ _ rfl with h7|⟨y,_,h8⟩
     .exact j x e h7
     .exact k.no h8 (sD x e)
  have hgp:∀g∈p.zA,AB.get ((d,e)::RJ qs e') g=e'.get g:=fun g G=>C g (fun e=>dng (e▸G)) (fun e=>sng g e G);refine o.again _ L hgp _ (He hK ?_);refine⟨fun m=>?_,fun c=>?_⟩
  .simp only[AB.d6,A7.get,g1,Ok];by_cases u:d=m
   .subst u;rw[ae rfl,az hpd,I d dD i,ae rfl]
   .rw[az u];by_cases E:w=m
    .have:m∉qs:=fun Z=>H (E▸M.sub m Z);rw[az this,ae E,ae E]
    .rw[az E];by_cases b:m∈qs
     .rw[ae b,az E,I m (sD m b) (j m b),az u,ae b]
     .rw[az b,az E,az u,az b]
  .simp only[AB.ei,A7.gt,l.2,o.o3,IU,EV.yz,M.Aaw];cases(match ep.yc with|some s=>c !=s|none=>true)<;>rfl
 .cases a
theorem s9(hR:L0 F0 w0 N O)(hj:JD D O){op oq:Oper}{p q:PR}(hp:L5 P N ops op p=true)(hq:L5 P N ops oq q=true)(a:yS D q p=true)(h:Ej (AX P) K (p::q::rs) O):Ej (AX P) K (q::p::rs) O:=by
 unfold yS at a;split at a
 .rename_i w d ht;simp only[sr,List.contains_eq_mem,yf,List.all_eq_true]at a;obtain⟨⟨⟨⟨⟨hm,M⟩,sD⟩,Z⟩,c2⟩,c3⟩:=a;obtain⟨C,Q,qm,qg',qb,qold⟩:=VE hm;rw[Q]at Z;simp only[Option.toList_some]at Z;have hqd:C≠d:=fun e=>An Z (x:=C) (by simp) (by simp[e]);have I:C∉p.op.slots:=fun e=>An Z (x:=C) (by simp) (by simp[e]);have l:d∉q.op.slots:=fun e=>An c2 (x:=d) (by simp) (DH e);have dng:d∉q.zA:=fun e=>An c2 (x:=d) (by simp) (Dq e);have o:∀s∈w,s∉q.op.slots:=fun s hs e=>An c2 (x:=s) (by simp[hs]) (DH e);have sng:∀s∈w,s∉q.zA:=fun s hs e=>An c2 (x:=s) (by simp[hs]) (Dq e);obtain⟨e',E,h⟩:=h;have hR':=hR.congr E.symm;have hj':=hj.congr E.symm;obtain⟨o3,⟨⟨B,b,hw⟩,V,R,F,T⟩,hR1⟩:=FN (K:=fun o3=>(∃B,M0 B o3/\q.wp (AX P) B (Ej (AX P) K rs))/\∃V,dt (AX P) p.op w d e' V/\o3=(d,V)::RJ w e'/\∀env2,(∀n∈p.op.slots,env2.get n=e'.get n)->env2.gt d=true->∀K2:AB->Prop,K2 ((d,V)::RJ w env2)->p.wp (AX P) env2 K2) hR' hp (by
   obtain ⟨e,Y,k2,k3⟩:=XC ht h;exact k3 e' (fun _ _=>rfl) Y.dno _ ⟨k2,e,Y,rfl,k3⟩)
  subst F;have j:JD D B:=by
   intro x u;rw[b.2,AB.ei,IU,EV.yz,R.Aaw];exact hj' x u
  obtain ⟨X1,⟨hK,eq,U,A⟩,_⟩:=FN (hR1.congr b.symm) hq (PO Q qm qg' hw);have G:∀n,n≠d->n∉w->B.get n=e'.get n:=fun n i k=>by
   rw [b.1,AB.d6,az (fun e=>i e.symm),Ok,az k]
  have J:∀x,x∈D->x∉q.op.slots->∀e,U.on x e=e:=fun x hxD hxn e=>A.away hxn (fun y hy=>j.no hy hxD) e;have L:D0 q.op U (some C) B e':=by
   refine ⟨fun x u=>.inl (G x (fun e=>l (e▸u)) (fun e=>o x e u)).symm,fun x u r hr=>.inl (G r (fun e=>j.no hr (e▸M)) (fun e=>j.no hr (sD r e))).symm,fun x u _=>(G x (fun e=>l (e▸CD u)) (fun e=>o x e (CD u))).symm,?_,fun W d' hd' H=>?_⟩
   .have i:=A.slot;have k:=A.ok;have X:=A.cell;cases U with
    |none=>trivial|slot x t=>
     simp only[A7.ok]at k|-;rw[<-G x (fun e=>l (e▸CD (i _ _ rfl))) (fun e=>o x e (CD (i _ _ rfl)))];exact k
    |cell x off t=>
     obtain ⟨ds,h5,h6⟩:=k;refine⟨ds,?_,h6⟩;rw[<-G x (fun e=>?_) (fun e=>?_)]
     .exact h5
     .rcases X _ _ _ rfl with h7|⟨y,_,h8⟩
      .exact l (e▸h7)
      .exact j.no h8 (e▸M)
     .rcases X _ _ _ rfl with h7|⟨y,_,h8⟩
      .exact o x e h7
      .exact j.no h8 (sD x e)
   .rw[b.2,AB.ei,IU,sr]at H;exact H.2
  have hgq:∀g∈q.zA,e'.get g=B.get g:=fun g hg=>(G g (fun e=>dng (e▸hg)) (fun e=>sng g e hg)).symm;refine⟨e',E,A.again e' L hgq _ ⟨_,.refl _,T _ (fun n W=>?_) ?_ _ (He hK ?_)⟩⟩
  .have hne:C≠n:=fun e=>I (e▸W);rw[AB.d6,az hne,A7.get];have hb:=R.slbx n W;have Y:=A.slot;have k2:=L.eff;cases U with
   |none=>rfl|slot s t=>
    simp only[A7.on];rw[az];intro e;subst e;exact An c3 (Y _ _ rfl) W
   |cell s off t=>
    simp only[A7.on];rw[az];intro e;subst e;obtain⟨cs,k3,_⟩:=k2;exact hb cs k3
  .rw[AB.ei,A7.gt,R.dno,Bool.and_true];refine UH (fun s he=>?_);rcases A.yc s he with i|⟨x,_,k⟩
   .exact fun e=>An qb i (e▸M)
   .exact fun e=>j.no k (e▸M)
  .rw[A.o3];have hdd:∀e,U.on d e=e:=J d M l;refine⟨fun m=>?_,fun c=>?_⟩
   .simp only[AB.d6,A7.get,Ok,b.1];by_cases i:C=m
    .have z:m∉w:=fun hm=>I (i▸R.sub m hm);have X:¬d=m:=fun e=>hqd (i.trans e.symm);rw[ae i,az X,az z,ae i]
    .rw[az i];by_cases k:d=m
     .subst k;rw[ae rfl,ae rfl,hdd]
     .rw[az k,az k];by_cases z:m∈w
      .rw[ae z,ae z,J m (sD m z) (o m z)]
      .rw[az z,az z,az i]
   .simp only[AB.ei,A7.gt,b.2,IU,EV.yz,R.Aaw];cases(match eq.yc with|some s=>c !=s|none=>true)<;>rfl
 .cases a
theorem tI{S:FuncId->Fq->Al->Prop}{p q:PR}(a:zK p q=true)(h:Ej S K (p::q::rs) O):Ej S K (q::p::rs) O:=by
 unfold zK at a;split at a
 .rename_i F o qs A H I;have i:∀x,x=o\/x∈p.op.slots->x≠A/\x∉q.op.slots:=fun x i=>by
   grind [An,List.mem_cons_self,List.mem_cons_of_mem]
  obtain ⟨e',E,h⟩:=h;obtain⟨R,w,⟨G,b,M⟩,t⟩:=XC H h;obtain⟨eq,g,Q,j⟩:=XC I M;have J:∀n,n≠o->n∉F->G.get n=e'.get n:=fun n k u=>by
   rw [b.1,AB.d6,az (fun e=>k e.symm),Ok,az u]
  have B:∀n∈q.op.slots,e'.get n=G.get n:=fun n l=>(J n (fun e=>(i n (.inl e)).2 l) (fun e=>(i n (.inr (w.sub n e))).2 l)).symm;have C:e'.gt A=true:=by
   have:=g.dno;rw[b.2,AB.ei,IU,sr]at this;exact this.2
  refine ⟨e',E,j e' B C _ ⟨_,.refl _,t _ (fun n l=>?_) ?_ _ (He Q ?_)⟩⟩
  .rw[AB.d6,az (fun e=>(i n (.inr l)).1 e.symm),Ok,az (fun e=>(i n (.inr l)).2 (g.sub n e))]
  .rw[AB.ei,IU,w.dno,EV.yz,g.Aaw];rfl
  .refine⟨fun m=>?_,fun c=>?_⟩
   .simp only[AB.d6,Ok,b.1];by_cases k:A=m
    .have u:¬o=m:=fun e=>(i o (.inl rfl)).1 (e.trans k.symm);have L:m∉F:=fun z=>(i m (.inr (w.sub m z))).1 k.symm
     grind
    .rw[az k];by_cases u:o=m
     .have L:m∉qs:=fun z=>(i m (.inl u.symm)).2 (g.sub m z)
      grind
     grind
   .simp only[AB.ei,IU,b.2,EV.yz,w.Aaw,g.Aaw]
 .cases a
end
def AD.ptr:AD->Option Nat
 |.bad s _=>some s|.y5 (.s m) _=>some m|_=>none
def EV.box2(e e2:EV):Prop:=e2=e\/∃cs cs',e=.bx cs/\e2=.bx cs'
variable{m:Nat}{O:AB}
theorem Yc{S:FuncId->Fq->Al->Prop}{op:AD}{dst:Option Nat}{K:EV->AB->Prop}(ho:op.ptr=some m)(h:op.wp S O dst K):
  ∃e,K e O/\(∀s,e.yc=some s->(s∈op.zT\/(O.get m).yc=some s))/\(∀cs,e≠.bx cs)/\∀env2,(O.get m).box2 (env2.get m)->(∀s,(O.get m).yc=some s->(O.get s).box2 (env2.get s))->∀i:EV->AB->Prop,i e env2->op.wp S env2 dst i:=by
 unfold AD.ptr at ho;split at ho
 .rename_i s k;simp only[tn]at ho;subst ho;simp only[AD.wp]at h;split at h
  .rename_i cs b;refine⟨_,h,fun s' c=>.inl (by simpa[AD.zT,EV.yc]using c.symm),by simp,fun env2 a _ i g=>?_⟩;have:∃cs',env2.get s=.bx cs':=by
    rcases a with a|⟨_,cs',_,a⟩
    .grind
    .exact⟨cs',a⟩
   obtain ⟨cs',j⟩:=this;simp only[AD.wp,j];exact g
  .rename_i row b;refine⟨_,h,by simp[EV.yc],by simp,fun env2 a _ i g=>?_⟩;rcases a with a|⟨cs,_,a,_⟩
   .simp only[AD.wp,a,b];exact g
   .rw[b]at a;cases a
  .exact h.elim
 .rename_i m' k;simp only[tn]at ho;subst ho;simp only[AD.wp,AE.ev]at h;split at h
  .rename_i row b;refine⟨_,h,by simp[EV.yc],by simp,fun env2 a _ i g=>?_⟩;rcases a with a|⟨cs,_,a,_⟩
   .simp only[AD.wp,AE.ev,a,b];exact g
   .rw[b]at a;cases a
  .rename_i s off b;split at h
   .rename_i cs t;refine⟨_,h,fun s' c=>.inr (by rw[b];exact c),by simp,fun env2 a j i g=>?_⟩;have o:env2.get m'=.bp s off:=by
     rcases a with a|⟨_,_,a,_⟩
     .rw[a,b]
     grind
    have l:∃cs',env2.get s=.bx cs':=by
     rcases j s (by rw[b];rfl)with j|⟨_,cs',_,j⟩
     .grind
     .exact⟨cs',j⟩
    obtain ⟨cs',l⟩:=l;simp only[AD.wp,AE.ev,o,l];exact g
   .exact h.elim
  .exact h.elim
 .cases ho
def Wh(m q s:Nat)(cs:List AR)(off:Nat)(O:AB):AB:=(s,.bx (cs.set off ⟨false,.undef⟩))::(m,.undef)::(q,.undef)::O
theorem SF{S:FuncId->Fq->Al->Prop}{m q d:Nat}{K:EV->AB->Prop}(h:(AD.zu m q).wp S O (some d) K):
  ∃e s off cs,O.get m=.nh s off .hd/\O.get s=.bx cs/\(∀cs,O.get q≠.bx cs)/\O.gt d=true/\e.yc=none/\K e (Wh m q s cs off O)/\
   ∀env2,env2.get m=O.get m->env2.get q=O.get q->env2.get s=O.get s->env2.gt d=true->∀c:EV->AB->Prop,c e (Wh m q s cs off env2)->(AD.zu m q).wp S env2 (some d) c:=by
 simp only[AD.wp]at h;split at h
 .rename_i E s off n F b i j;simp only[tn]at b;subst b;split at h
  .rename_i cs k;cases a:O.nat s off with
   |none=>rw[a]at h;exact h.elim|some es=>
    rw [a]at h;simp only[Ad]at h;obtain⟨z,⟨A,B⟩,C⟩:=h;refine⟨_,s,off,cs,i,k,by rw[j];simp,A,rfl,C,fun env2 l o g t c u=>?_⟩;have w:env2.nat s off=some es:=by rw[<-a];exact AB.y4 g
    simp only[AD.wp,l,o,g,i,j,k,w,Ad];exact⟨z,⟨t,B⟩,u⟩
  .exact h.elim
 .exact h.elim
def yT(D:QQ)(p q:PR):Bool:=
 match p.op.ptr,p.guard,p.dst,q.op,q.guard,q.dst with
 |some x,none,some dp,.zu m qq,none,some d=>D.contains d&&D.contains dp&&D.contains m&&D.contains qq&&EW [dp] [d,m,qq]&&EW [x] [d,m,qq]&&EW p.op.zT D&&dp !=x&&PR.yo D p|_,_,_,_,_,_=>false
variable{off:Nat}
theorem PT{m q s:Nat}{cs:List AR}(n:Nat):AB.get (Wh m q s cs off O) n=if s=n then .bx (cs.set off ⟨false,.undef⟩)else if m=n then .undef else if q=n then .undef else O.get n:=rfl
theorem Oz{m q s:Nat}{cs:List AR}(c:Nat):AB.gt c (Wh m q s cs off O)=AB.gt c O:=by
 simp [Wh,AB.ei,EV.yz,EV.yc]
section
variable{S:FuncId->Fq->Al->Prop}{K:AB->Prop}{D:QQ}
variable{O:AB}{rs:List PR}
theorem tD(Z:JD D O){p q:PR}(a:yT D p q=true)(h:Ej S K (p::q::rs) O):Ej S K (q::p::rs) O:=by
 unfold yT at a;split at a
 .rename_i x g m A d B L M Q R T;simp only[sr,List.contains_eq_mem,yf,bne_iff_ne,ne_eq]at a;obtain⟨⟨⟨⟨⟨⟨⟨⟨W,dpD⟩,mD⟩,qD⟩,G⟩,H⟩,pb⟩,hdx⟩,_⟩:=a;have n1:g≠d:=fun e=>An G (x:=g) (by simp) (by simp[e]);have U:g≠m:=fun e=>An G (x:=g) (by simp) (by simp[e]);have n3:g≠A:=fun e=>An G (x:=g) (by simp) (by simp[e]);have n4:x≠d:=fun e=>An H (x:=x) (by simp) (by simp[e]);have n5:x≠m:=fun e=>An H (x:=x) (by simp) (by simp[e]);have n6:x≠A:=fun e=>An H (x:=x) (by simp) (by simp[e]);obtain⟨e',w,h⟩:=h;have k:=Z.congr w.symm;simp only[PR.wp,L,M,AB.put]at h;obtain⟨e,⟨e1,b,X⟩,hre,I,z⟩:=Yc B h;simp only[PR.wp,R,T,Q,AB.put]at X;obtain⟨eq,s,off,cs,k1,J,k3,Y,k5,hK,j⟩:=SF X;have l:∀n,n≠g->e1.get n=e'.get n:=fun n hn=>by rw[b.1,AB.d6,az (fun e=>hn e.symm)]
  have o:s≠g:=by
   intro hs;subst hs;rw[b.1,AB.d6,ae rfl]at J;exact I cs J
  have C:e'.get m=.nh s off .hd:=by rw[<-l m (fun e=>U e.symm)];exact k1
  have t:e'.get s=.bx cs:=by rw[<-l s o];exact J
  have E:s∉D:=k.no (x:=m) (by rw[C];rfl);have V:s≠d:=fun e=>E (e▸W);have F:e'.gt d=true:=by rw[b.2,AB.ei,sr]at Y;exact Y.2
  refine ⟨e',w,?_⟩;simp only[PR.wp,R,T,Q,AB.put];refine j e' (l m (fun e=>U e.symm)).symm (l A (fun e=>n3 e.symm)).symm (l s o).symm F _ ⟨_,.refl _,?_⟩;simp only[PR.wp,L,M,AB.put];refine z _ ?_ (fun r hr=>?_) _ (He hK ?_)
  .rw[AB.d6,az (fun e=>n4 e.symm),PT];by_cases u:s=x
   .subst u;rw[ae rfl];exact .inr ⟨cs,_,t,rfl⟩
   .rw[az u,az (fun e=>n5 e.symm),az (fun e=>n6 e.symm)];exact .inl rfl
  .have i:r∉D:=k.no hr;rw[AB.d6,az (fun(e:d=r)=>i (e▸W)),PT];by_cases u:s=r
   .subst u;rw[ae rfl];exact .inr ⟨cs,_,t,rfl⟩
   .rw[az u,az (fun(e:m=r)=>i (e▸mD)),az (fun(e:A=r)=>i (e▸qD))];exact .inl rfl
  .refine⟨fun n=>?_,fun c=>?_⟩
   .simp only[AB.d6,PT,b.1]
    grind
   .simp only[AB.ei,Oz,b.2,EV.yz,k5]
    grind
 .cases a
theorem tC(W:JD D O){p q:PR}(a:yT D q p=true)(h:Ej S K (p::q::rs) O):Ej S K (q::p::rs) O:=by
 unfold yT at a;split at a
 .rename_i x g m z d A H I J L M;simp only[sr,List.contains_eq_mem,yf,bne_iff_ne,ne_eq]at a;obtain⟨⟨⟨⟨⟨⟨⟨⟨R,C⟩,mD⟩,qD⟩,E⟩,F⟩,qb⟩,hdx⟩,_⟩:=a;have n1:g≠d:=fun e=>An E (x:=g) (by simp) (by simp[e]);have n2:g≠m:=fun e=>An E (x:=g) (by simp) (by simp[e]);have n3:g≠z:=fun e=>An E (x:=g) (by simp) (by simp[e]);have n4:x≠d:=fun e=>An F (x:=x) (by simp) (by simp[e]);have n5:x≠m:=fun e=>An F (x:=x) (by simp) (by simp[e]);have n6:x≠z:=fun e=>An F (x:=x) (by simp) (by simp[e]);obtain⟨e',o,h⟩:=h;have j:=W.congr o.symm;simp only[PR.wp,L,M,J,AB.put]at h;obtain⟨ep,s,off,cs,k1,k2,k3,k4,T,⟨U,b,V⟩,t⟩:=SF h;simp only[PR.wp,H,I,AB.put]at V;obtain⟨e,hK,G,hnb,i⟩:=Yc A V;have k:s∉D:=j.no (x:=m) (by rw[k1];rfl);have hsd:s≠d:=fun e=>k (e▸R);have g1:∀n,n≠d->n≠m->n≠z->(U.get n).box2 (e'.get n):=by
   intro n u X Y;rw[b.1,AB.d6,az (fun e=>u e.symm),PT];by_cases Q:s=n
   .subst Q;rw[ae rfl];exact .inr ⟨_,cs,rfl,k2⟩
   .rw[az Q,az (fun e=>X e.symm),az (fun e=>Y e.symm)];exact .inl rfl
  have l:JD D U:=by
   intro y Z;rw[b.2,AB.ei,Oz,EV.yz,T];exact j y Z
  refine ⟨e',o,?_⟩;simp only[PR.wp,H,I,AB.put];refine i e' (g1 x n4 n5 n6) (fun r w=>?_) _ ⟨_,.refl _,?_⟩
  .have hrD:r∉D:=l.no w
   grind
  .simp only[PR.wp,L,M,J,AB.put];have B:s≠g:=fun e=>k (e▸C);refine t _ (by rw[AB.d6,az n2]) (by rw[AB.d6,az n3]) (by rw[AB.d6,az (fun e=>B e.symm)]) ?_ _ (He hK ?_)
   .rw[AB.ei,k4,Bool.and_true];refine UH (fun r w=>?_);rcases G r w with u|u
    .grind[An]
    .exact fun(e:r=d)=>l.no u (e▸R)
   .refine⟨fun n=>?_,fun c=>?_⟩
    .simp only[AB.d6,PT,b.1]
     grind
    .simp only[AB.ei,Oz,b.2,EV.yz,T]
     grind
 .cases a
end
def Aad(p:PR):Bool:=p.tk.isSome||(match p.op,p.guard,p.dst with|.zu _ _,none,some _=>true|_,_,_=>false)
variable{O:AB}
theorem aO{S:FuncId->Fq->Al->Prop}{p:PR}{K:AB->Prop}(ho:Aad p=true)(h:p.wp S O K):∃o3,K o3/\(∀c,o3.gt c=O.gt c)/\∀b:AB->Prop,b o3->p.wp S O b:=by
 simp only[Aad,Bool.or_eq_true]at ho;rcases ho with ho|ho
 .obtain⟨⟨qs,d⟩,i⟩:=Option.isSome_iff_exists.1 ho;obtain⟨e,g,j,a⟩:=XC i h;exact⟨_,j,fun c=>by rw[AB.ei,IU,EV.yz,g.Aaw];rfl,a O (fun _ _=>rfl) g.dno⟩
 grind [PR.wp,AB.put,SF,AB.ei,Oz,EV.yz]
theorem ew{D:QQ}{p q:PR}(h:yS D q p=true):Aad p=true:=by grind[yS,Aad]
theorem bu{D:QQ}{p q:PR}(h:yS D p q=true):PR.yo D p=true:=by
 unfold yS at h
 grind
theorem fA{p q:PR}(h:zK p q=true):Aad p=true:=by grind[zK,Aad]
theorem bv{D:QQ}{p q:PR}(h:yT D p q=true):PR.yo D p=true:=by
 unfold yT at h
 grind
theorem ey{D:QQ}{p q:PR}(h:yT D q p=true):Aad p=true:=by grind[yT,Aad]
end Go.Sf
namespace Go.Sf
open Go.RowKit (Below)
def Nn(rs:List PR)(i:Nat):PR:=(rs[i]?).getD ⟨none,.Aat 0,none⟩
def AaB(p:PR):Bool:=match p.op,p.guard,p.dst with
 |.yt _,none,some _=>true|_,_,_=>false
def zL(p q:PR):Bool:=match p.op,p.guard,p.dst,q.op,q.guard,q.dst with
 |.yt gs,none,some dp,.alc _,none,some dq=>dp !=dq&&!(gs.flatMap GC.sl).contains dq|_,_,_,_,_,_=>false
theorem eu{p q:PR}(h:zL p q=true):AaB p=true:=by grind[zL,AaB]
def Vc(p:PR):Bool:=match p.op,p.guard,p.dst with
 |.st _ (.s _) _,none,none=>true|.xst _ _ _,none,none=>true|_,_,_=>false
def zR(D:QQ)(p q:PR):Bool:=match p.op,p.guard,p.dst,q.op,q.guard,q.dst with
 |.xst x v _,none,none,.xia (.s _) _ _,none,some d=>D.contains d&&!x.sl.contains d&&!v.sl.contains d|_,_,_,_,_,_=>false
def Rv(D:QQ)(p q:PR):Bool:=match p.op,p.guard,p.dst,q.op,q.guard,q.dst with
 |.st _ (.s x) v,none,none,.bad m _,none,some d=>D.contains d&&d !=x&&d !=m&&!v.sl.contains d&&!v.sl.contains m|.st _ (.s x) v,none,none,.y5 (.s m) _,none,some d=>D.contains d&&d !=x&&d !=m&&!v.sl.contains d&&!v.sl.contains m|_,_,_,_,_,_=>false
theorem eo{D:QQ}{p q:PR}(h:Rv D p q=true):Vc p=true:=by grind[Rv,Vc]
theorem ez{D:QQ}{p q:PR}(h:zR D p q=true):Vc p=true:=by grind[zR,Vc]
def AD.vops:AD->Option (List AE)
 |.len x=>some [x]|.mm _ x y=>some [x,y]|.y9 _ x lo hi=>some (x::(lo.toList++hi.toList))|.bin _ _ x y=>some [x,y]|.y8 _ x=>some [x]|.fdv x _=>some [x]|.ldv x _=>some [x]|_=>none
def z5(D:QQ)(p q:PR):Bool:=match p.op.vops,p.guard,p.dst,q.op,q.guard,q.dst with
 |some xs,none,some d,.st _ (.s x) v,none,none=>PR.yo D p&&d !=x&&!v.sl.contains d&&EW (xs.flatMap AE.sl) v.sl|_,_,_,_,_,_=>false
def Aaa(D:QQ)(p q:PR):Bool:=match p.op,p.guard,p.dst,q.op,q.guard,q.dst with
 |.ldb b _,none,some d,.st _ (.s x) v,none,none=>PR.yo D p&&D.contains b&&b !=x&&d !=x&&d !=b&&!v.sl.contains d&&!v.sl.contains b|.bad b _,none,some d,.st _ (.s x) v,none,none=>PR.yo D p&&d !=x&&!v.sl.contains d&&!v.sl.contains b|_,_,_,_,_,_=>false
def zN(D:QQ)(p q:PR):Bool:=Wj D p q||zH D p q||zL p q||z6 D p q||zZ D p q||(Rv D p q||zR D p q)||z5 D p q||Aaa D p q||(yS D p q||yS D q p||zK p q||yT D p q||yT D q p)
def okQ(p:PR):Bool:=match p.op,p.guard,p.dst with
 |.tkx _,none,some _=>true|.Aae _ _ _ _,none,some _=>true|_,_,_=>false
theorem br{D:QQ}{p q:PR}(h:zN D p q=true):((PR.yo D p=true\/AaB p=true)\/Vc p=true)\/Aad p=true:=by
 simp [zN]at h;rcases h with(((((((h|h)|h)|h)|h)|h)|h)|h)|((((h|h)|h)|h)|h)
 rotate_right 5
 .grind[bu]
 .exact .inr (ew h)
 .exact .inr (fA h)
 .grind[bv]
 .exact .inr (ey h)
 all_goals refine .inl ?_
 .simp[Wj]at h
  grind
 .unfold zH at h
  grind
 .grind[eu]
 .unfold z6 at h
  grind
 .unfold zZ at h
  grind
 .grind[eo,ez]
 .unfold z5 at h
  grind
 .unfold Aaa at h
  grind
def nS(ops:Array Oper):QQ:=
 ops.toList.foldl (fun acc o=>acc++[o.after.toList.foldl (fun m e=>if Region.binds .any e then m|||(1<<<e.on)|||acc.getD e.on 0 else m) 0]) []
def okCa(p:PR):Bool:=match p.op,p.guard,p.dst with
 |.zv _ _ _,none,some _=>true|_,_,_=>false
variable{O:AB}
theorem kw{S:FuncId->Fq->Al->Prop}{p:PR}{K:AB->Prop}(ho:okCa p=true)(h:p.wp S O K):p.wp S O fun o3=>K o3/\∀c,o3.gt c=O.gt c:=by
 unfold okCa at ho;split at ho
 .rename_i f args i d g j k;simp[PR.wp,g,j,k,AD.wp,AB.put]at h|-;split at h
  .rename_i t q a u;simp at a;subst a;split at h
   .rename_i cs w;refine⟨h.1,?_⟩;cases hv:H6 O i args with
    |none=>rw[hv]at h;exact h.2.elim|some z=>
     rw [hv]at h;obtain⟨_,r,l,o⟩:=h;refine⟨r,l,fun b=>⟨o b,fun c=>?_⟩⟩;have:EV.yz c r.aev=true:=by cases r<;>rfl
     rw [AB.ei,AB.ei,this];rfl
   .exact h.elim
  .exact h.elim
 .cases ho
def okCm(p:PR):Bool:=match p.op,p.dst with
 |.zj _ _ _,some _=>true|_,_=>false
def aN(D:QQ)(r:PR):Bool:=
 NA r.op||AaB r||okQ r||Aad r||okCa r||okCm r||(r.op.mov&&r.dst.isSome&&(!r.op.wi||r.guard.isNone)&&EW r.op.zT D)
def UJ(P:Program)(N:Nat)(D:QQ)(ops:Array Oper)(rs:List PR):Bool:=
 let n:=ops.size
 let M:=nS ops
 MA P N ops ops.toList rs&&(List.range n).all (fun i=>aN D (Nn rs i)) &&
 (List.range n).all (fun i=>match ops[i]? with
  |some o=>o.after.toList.all fun e=>!Region.binds .any e||decide (e.on<i)|none=>false) &&
 (List.range n).all (fun i=>(List.range n).all fun j=>!(M.getD i 0).testBit j||(match ops[i]? with
  |some o=>o.after.toList.any fun e=>Region.binds .any e&&(e.on==j||(decide (e.on<i)&&(M.getD e.on 0).testBit j))|none=>false)) &&
 (List.range n).all (fun i=>(List.range i).all fun j=>(M.getD i 0).testBit j||zN D (Nn rs j) (Nn rs i))
section
variable{P:Program}{F0:Nat->Nat->Prop}{w0:W0}{N:Nat}{p:Option (Nat×Value)}{ops:Array Oper}{K:AB->Prop}{D:QQ}
variable{f:A7}{d:Option Nat}{O:AB}
theorem D0.refl{op:AD}(h:f.ok O):D0 op f d O O:=
 ⟨fun _ _=>.inl rfl,fun _ _ _ _=>.inl rfl,fun _ _ _=>rfl,h,fun _ _ _ h=>h⟩
theorem La(d:Nat)(a:AB):∀(qs:QQ)(O:AB),AB.gt d (Qb a qs O)=AB.gt d O
 |[],_=>rfl|q::qs,O=>by
  rw [Qb,AB.ei,La d a qs O]
  grind [LZ,EV.yz,EV.yc]
theorem oQ(d:Nat)(e:EV)(O:AB)(g:GC)(h:d∉g.sl):GC.cell ((d,e)::O) g=g.cell O:=by
 cases g with
 |z c=>rfl|v x k n=>
  cases x with
  |s q=>
   grind [GC.sl,List.mem_singleton,GC.cell,AE.val,AE.ev,AB.d6]
  |c t=>rfl
 |w q=>
  grind [GC.sl,List.mem_singleton,GC.cell,AB.d6]
 |g q k n=>
  grind [GC.sl,List.mem_singleton,GC.cell,AB.d6]
theorem Z6(d:Nat)(e:EV)(O:AB):∀(gs:List GC),d∉gs.flatMap GC.sl->I9 ((d,e)::O) gs=I9 O gs
 |[],_=>rfl|g::gs,h=>by
  rw [List.flatMap_cons,List.mem_append,not_or]at h;simp[I9,oQ d e O g h.1,Z6 d e O gs h.2]
variable{gs:List GC}
theorem pk{q:Nat}(h:q∈gs.filterMap GC.slot):q∈gs.flatMap GC.sl:=by
 rw [List.mem_filterMap]at h;obtain⟨g,a,e⟩:=h;rw[List.mem_flatMap];refine⟨g,a,?_⟩;cases g<;>simp[GC.slot]at e<;>simp[GC.sl,e]
theorem VT{S:FuncId->Fq->Al->Prop}{p:PR}{K:AB->Prop}{d:Nat}(c:p.op=.yt gs)(g:p.guard=none)(i:p.dst=some d)(h:p.wp S O K):
  ∃cs,((gs.filterMap GC.src).Nodup/\d∉gs.filterMap GC.slot)/\I9 O gs=some cs/\K ((d,.yr cs)::Qb O (gs.filterMap GC.slot) O):=by
 simp only[PR.wp,c,g,i,AD.wp,AB.put]at h;obtain⟨j,b⟩:=h;cases a:I9 O gs with
 |none=>rw[a]at b;exact b.elim|some k=>rw[a]at b;exact⟨k,j,rfl,b⟩
theorem SK{S:FuncId->Fq->Al->Prop}{p:PR}{K:AB->Prop}{d:Nat}{cs:List AR}(b:p.op=.yt gs)(c:p.guard=none)(g:p.dst=some d)(i:(gs.filterMap GC.src).Nodup/\d∉gs.filterMap GC.slot)(a:I9 O gs=some cs)
  (h:K ((d,.yr cs)::Qb O (gs.filterMap GC.slot) O)):p.wp S O K:=by
 simp only[PR.wp,b,c,g,AD.wp,AB.put,a];exact⟨i,h⟩
variable{q:PR}{v:AE}
theorem T6{S:FuncId->Fq->Al->Prop}{K:AB->Prop}{n x:Nat}(a:q.op=.st n (.s x) v)(k:q.guard=none)(hd:q.dst=none)(h:q.wp S O K):
  ∃s off cs cs' o,(AE.s x).place O=some (s,off)/\O.get s=.bx cs/\(∀g e,o=some (g,e)->v=.s g/\(∃t,e=.tv t)/\g≠s)/\K (OQ s cs' o O)/\
   ∀env2,(AE.s x).place env2=some (s,off)->env2.get s=.bx cs->v.ev env2=v.ev O->∀i:AB->Prop,i (OQ s cs' o env2)->q.wp S env2 i:=by
 unfold PR.wp at h;rw[k,a,hd]at h;simp[AD.wp]at h;split at h
 .rename_i s off w;split at h
  .rename_i cs z;split at h
   .rename_i t hv;cases v with
    |c t=>exact h.elim|s g=>
     simp only at h;simp[AE.ev]at hv;refine⟨s,off,cs,_,some (g,.tv t),w,z,?_,h.2.2.2,fun env2 l u j i b=>?_⟩
     .intro s' A he;simp at he;obtain⟨rfl,rfl⟩:=he;exact⟨rfl,⟨t,rfl⟩,h.1⟩
     .simp[AE.ev]at j;unfold PR.wp;rw[k,a,hd];simp[AD.wp,l,u,AE.ev,j,hv];exact⟨h.1,h.2.1,h.2.2.1,b⟩
   .rename_i t hv;refine⟨s,off,cs,_,none,w,z,by simp,h.2.2,fun env2 l u j i b=>?_⟩;unfold PR.wp;rw[k,a,hd];simp[AD.wp,l,u,j,hv];exact⟨h.1,h.2.1,b⟩
   .exact h.elim
  .exact h.elim
 .exact h.elim
variable{e':AB}
theorem xQ{p:PR}{o:Oper}(ho:L5 P N ops o p=true){K:AB->Prop}(g:((PR.yo D p=true\/AaB p=true)\/Vc p=true)\/Aad p=true)(H:L0 F0 w0 N e')(I:JD D e')(h:p.wp (AX P) e' K):
  ∃o3,K o3/\L0 F0 w0 N o3/\JD D o3/\∀b:AB->Prop,b o3->p.wp (AX P) e' b:=by
 rcases g with((g|g)|g)|g
 rotate_right
 .obtain⟨o3,⟨l,Q,R⟩,a⟩:=FN (K:=fun o3=>K o3/\(∀c,o3.gt c=e'.gt c)/\∀b:AB->Prop,b o3->p.wp (AX P) e' b) H ho (by
   grind [aO])
  exact ⟨o3,l,a,fun d hd=>by rw[Q];exact I d hd,R⟩
 .simp[PR.yo,Bool.not_eq_true']at g;obtain⟨⟨⟨⟨X,Y⟩,Z⟩,pb⟩,pD⟩:=g;obtain⟨dp,T⟩:=Option.isSome_iff_exists.1 Y;have M:p.op.wi=true->p.guard=none:=fun V=>by
   rcases Z with h|h
   .rw[V]at h;cases h
   .simpa using h
  obtain ⟨o3,⟨l,ep,fp,L⟩,a⟩:=FN H ho (PO T X M h);exact⟨o3,l,a,L.jd pb I,fun b j=>L.again e' (.refl L.ok) (fun _ _=>rfl) _ (by rw[<-L.o3];exact j)⟩
 .unfold AaB at g;split at g
  .rename_i gs d A B C;obtain⟨o3,l,a⟩:=FN (K:=fun o3=>K o3/\∃cs,((gs.filterMap GC.src).Nodup/\d∉gs.filterMap GC.slot)/\I9 e' gs=some cs/\o3=(d,.yr cs)::Qb e' (gs.filterMap GC.slot) e') H ho (by
    obtain ⟨ts,w,z,E⟩:=VT A B C h
    grind [SK])
   obtain ⟨l,ts,w,z,rfl⟩:=l;refine⟨_,l,a,fun x U=>?_,fun b j=>SK A B C w z j⟩;rw[AB.ei,La,I x U];rfl
  .cases g
 .unfold Vc at g;split at g
  .rename_i n x v A B C;obtain⟨o3,⟨l,s,off,cs,cs',o',w,F,z,E,G⟩,a⟩:=FN (K:=fun o3=>K o3/\∃s off cs cs' o,(AE.s x).place e'=some (s,off)/\e'.get s=.bx cs/\(∀J e,o=some (J,e)->v=.s J/\(∃t,e=EV.tv t)/\J≠s)/\o3=OQ s cs' o e'/\
     ∀b:AB->Prop,b (OQ s cs' o e')->p.wp (AX P) e' b) H ho (by
    obtain ⟨s,off,cs,cs',o,w,F,z,E,G⟩:=T6 A B C h;exact G e' w F rfl _ ⟨E,s,off,cs,cs',o,w,F,z,rfl,fun b j=>G e' w F rfl b j⟩)
   subst E;refine⟨_,l,a,fun d hd=>?_,G⟩;rw[FT _ _ _ _ _ (fun J e he=>by
    obtain ⟨_,⟨t,rfl⟩,_⟩:=z J e he;rfl)]
   exact I d hd
  .rename_i x v k A B C;obtain⟨o3,⟨l,Q,R⟩,a⟩:=FN (K:=fun o3=>K o3/\(∀c,o3.gt c=e'.gt c)/\∀b:AB->Prop,b o3->p.wp (AX P) e' b) H ho (by
    simp [PR.wp,A,B,C,AD.wp,AB.put]at h|-;split at h
    .rename_i q i c U;split at h
     .rename_i n es u W hu;obtain⟨w,F,es',z,E,G,h7⟩:=h;refine⟨w,F,es',z,E,G,h7,fun c=>(On (es':=es') W).2.2 c,fun b j=>?_⟩
      grind
     .exact h.elim
    .exact h.elim)
   exact ⟨o3,l,a,fun d hd=>by rw[Q];exact I d hd,R⟩
  .cases g
variable{rs:List PR}
theorem s8{p q:PR}(a:zL p q=true)(h:Ej (AX P) K (p::q::rs) O):Ej (AX P) K (q::p::rs) O:=by
 unfold zL at a;split at a
 .rename_i gs G cs A j k l o t u;simp only[sr,bne_iff_ne,ne_eq,Bool.not_eq_true',List.contains_eq_mem,decide_eq_false_iff_not]at a;obtain⟨C,w⟩:=a;obtain⟨e',g,h⟩:=h;obtain⟨H,E,F,x,i,c⟩:=VT j k l h;simp[PR.wp,o,t,u,AD.wp,AB.put]at c;obtain⟨b,c⟩:=c;rw[i.2,AB.ei,La]at b;simp[EV.yz,EV.yc]at b;refine⟨e',g,?_⟩;simp[PR.wp,o,t,u,AD.wp,AB.put];refine⟨b,_,.refl _,SK j k l E (by rw[Z6 _ _ _ _ w];exact F) (He c ?_)⟩;have B:A∉gs.filterMap GC.slot:=fun z=>w (pk z);refine⟨fun n=>?_,fun d=>?_⟩
  .rw[AB.d6,i.1,AB.d6,AB.d6,Jh,Jh]
   grind [AB.d6]
  .rw[AB.ei,i.2,AB.ei,AB.ei,La,La,AB.ei]
   grind
 .cases a
variable{o3:AB}
theorem gK{S:FuncId->Fq->Al->Prop}{K:AB->Prop}{m d s:Nat}{cs cs':List AR}{o:Option (Nat×EV)}(a:(∃k,q.op=.bad m k)\/∃k,q.op=.y5 (.s m) k)(g:q.guard=none)(hd:q.dst=some d)(A:O.get s=.bx cs)(ho:∀z e,o=some (z,e)->(∃t,e=.tv t)/\z≠m)
  (he:∀n,o3.get n=(OQ s cs' o O).get n)(h:q.wp S o3 K):∃e,K ((d,e)::o3)/\∀i:AB->Prop,i ((d,e)::O)->q.wp S O i:=by
 have u:o3.get m=if s=m then .bx cs' else O.get m:=by
  grind [Ei]
 have C:∀r c,o3.get r=.bx c->∃l,O.get r=.bx l:=by
  grind [Ei]
 unfold PR.wp at h;rcases a with⟨k,a⟩|⟨k,a⟩
 .rw[g,a,hd]at h;simp[AD.wp,AB.put]at h;by_cases e:s=m
  .rw[u,ae e]at h;refine⟨_,h,fun i b=>?_⟩;unfold PR.wp;rw[g,a,hd];simp[AD.wp,<-e,A,AB.put];rw[<-e]at b;exact b
  .rw[u,az e]at h;split at h
   .rename_i c j;refine⟨_,h,fun i b=>?_⟩;unfold PR.wp;rw[g,a,hd];simp[AD.wp,j,AB.put];exact b
   .rename_i row j;refine⟨_,h,fun i b=>?_⟩;unfold PR.wp;rw[g,a,hd];simp[AD.wp,j,AB.put];exact b
   .exact h.elim
 .rw[g,a,hd]at h;simp[AD.wp,AB.put,AE.ev]at h;by_cases e:s=m
  .rw[u,ae e]at h;exact h.elim
  .rw[u,az e]at h;split at h
   .rename_i row j;refine⟨_,h,fun i b=>?_⟩;unfold PR.wp;rw[g,a,hd];simp[AD.wp,AE.ev,j,AB.put];exact b
   .rename_i r off j;split at h
    .rename_i c B;obtain⟨l,w⟩:=C r c B;refine⟨_,h,fun i b=>?_⟩;unfold PR.wp;rw[g,a,hd];simp[AD.wp,AE.ev,j,w,AB.put];exact b
    .exact h.elim
   .exact h.elim
theorem s7{p q:PR}(C:JD D O)(b:Rv D p q=true)(h:Ej (AX P) K (p::q::rs) O):Ej (AX P) K (q::p::rs) O:=by
 have key:∃n x v m d,p.op=.st n (.s x) v/\p.guard=none/\p.dst=none/\((∃k,q.op=.bad m k)\/∃k,q.op=.y5 (.s m) k)/\q.guard=none/\q.dst=some d/\d∈D/\d≠x/\d∉v.sl/\m∉v.sl:=by
  unfold Rv at b
  grind
 obtain ⟨n,x,v,m,d,F,G,H,I,J,L,M,Q,R,T⟩:=key;obtain⟨e',g,h⟩:=h;have j:=C.congr g.symm;obtain⟨s,off,cs,cs',o,i,B,U,⟨y,u,V⟩,W⟩:=T6 F G H h;have l:d≠s:=by
  intro e;subst e;simp[AE.place]at i;split at i
  .rename_i r w E;simp at i;exact j.no (x:=x) (s:=d) (by rw[E,<-i.1];rfl) M
  .grind
  .cases i
 have ho:∀a e,o=some (a,e)->(∃t,e=EV.tv t)/\a≠m:=fun a e he=>by
  grind [AE.sl]
 obtain ⟨e,X,Y⟩:=gK (cs':=cs') (o:=o) (O:=e') I J L B ho u.1 V;refine⟨e',g,Y _ ⟨_,.refl _,W ((d,e)::e') ?_ (by rw[AB.d6,az l];exact B) ?_ _ (He X ?_)⟩⟩
 .grind[AE.place,AB.d6]
 .cases v with
  |c t=>rfl|s a=>
   grind [AE.ev,AB.d6,AE.sl]
 .refine⟨fun z=>?_,fun z=>?_⟩
  .rw[AB.d6,u.1,Ei,Ei]
   grind [AB.d6,AE.sl]
  .have A:∀a e,o=some (a,e)->e.yz z=true:=fun a e he=>by
    obtain ⟨_,⟨t,rfl⟩,_⟩:=U a e he;rfl
   rw [AB.ei,u.2,FT _ _ _ _ _ A,FT _ _ _ _ _ A,AB.ei]
variable{n m:Nat}
theorem nC{e' h:AB}{c:Nat}{o:Option Nat}{es es':Fq}(a:e'.x4 c o=some (n,es))(F:es'.length=es.length)(he:∀z,h.get z=AB.get (e'.ym c o n es') z){y q:Nat}{i:Option Nat}{l:Fq}
  (H:h.get y=.la q i)(b:h.x4 q i=some (m,l)):e'.get y=.la q i/\∃fs',e'.x4 q i=some (m,fs')/\fs'.length=l.length:=by
 obtain ⟨⟨u,I,A⟩,ho,_⟩:=On (es':=es') a;have t:c≠y:=by
  grind
 refine ⟨by rw[<-H,he,ho _ t],?_⟩;by_cases G:c=q
 .subst G;cases o with
  |none=>
   have g:h.get c=.xo n es':=by rw[he];simp[AB.ym,AB.d6]
   cases i with
   |none=>
    simp [AB.x4,g]at b;obtain⟨rfl,rfl⟩:=b;exact⟨es,a,F.symm⟩
   |some k=>simp[AB.x4,g]at b
  |some E=>
   rcases A with⟨mm,M,J,_⟩|⟨cs,k,L,B,C,rfl⟩
   .simp[AB.x4,J]at a
   .cases L;have g:h.get c=.bx (cs.set E ⟨true,.xl n es'⟩):=by rw[he,I]
    cases i with
    |none=>simp[AB.x4,g]at b|some k=>
     by_cases j:E=k
     .subst j;have w:E<cs.length:=(List.getElem?_eq_some_iff.1 B).1;simp[AB.x4,g,List.getElem?_set,ae w]at b;obtain⟨rfl,rfl⟩:=b;exact⟨es,a,F.symm⟩
     .refine⟨l,?_,rfl⟩;rw[<-b];simp[AB.x4,g,C,List.getElem?_set,az j]
 .exact⟨l,by rw[<-b];exact AB.yx (by rw[he,ho _ G]),rfl⟩
theorem tG{p q:PR}(hj:JD D O)(a:zR D p q=true)(h:Ej (AX P) K (p::q::rs) O):Ej (AX P) K (q::p::rs) O:=by
 unfold zR at a;split at a
 .rename_i x v k y z m d e1 e2 e3 f1 f2 f3;simp[Bool.not_eq_true',decide_eq_false_iff_not,yf]at a;obtain⟨⟨dD,Y⟩,Z⟩:=a;obtain⟨e',M,h⟩:=h;have V:=hj.congr M.symm;simp only[PR.wp,e1,e2,e3,AD.wp,AB.put]at h;split at h
  .rename_i U i0 c R;split at h
   .rename_i n es u B hu;obtain⟨h1,h2,es',h3,h4,h5,o3,A,b⟩:=h;have G:d≠U:=by
     rintro rfl;cases x with
     |c t=>cases R
     |s xs=>exact V.no (x:=xs) (s:=d) (by simp[AE.ev]at R;rw[R];rfl) dD
    simp [PR.wp,f1,f2,f3,AD.wp,AB.put,AE.ya]at b;have T:=A.1;obtain⟨⟨w,hw,hww⟩,ho,_⟩:=On (es':=es') B;have W:w.val=none:=by rcases hww with⟨_,_,_,_,_,rfl⟩|⟨_,_,_,_,_,rfl⟩<;>rfl
    have X:∀t,z.val o3=some t->z.val e'=some t:=by
     intro t E;cases z with
     |c t'=>exact E|s zz=>
      simp [AE.val,AE.ev]at E|-;by_cases l:U=zz
      .subst l;rw[T,hw,W]at E;cases E
      .rw[T,ho _ l]at E;exact E
    have H:∃g i F j Q,o3.get y=.la g i/\o3.x4 g i=some (m,F)/\z.val o3=some (.int Q j)/\0<=j/\j<F.length/\Ej (AX P) K rs ((d,.lp g i (j.toNat*m))::o3):=by
     cases I:o3.get y<;>rw[I]at b<;>simp[Ad]at b<;>try exact b.elim
     .cases l:z.val o3 with
      |none=>rw[l]at b;exact b.elim|some t=>
       rw [l]at b;cases t<;>try exact b.elim
       have:=b.1.1;simp[AE.ev,I,EV.yc]at this
     .rename_i g i;cases C:o3.x4 g i with
      |none=>rw[C]at b;exact b.elim|some pp=>
       obtain ⟨m',F⟩:=pp;rw[C]at b;simp only at b;cases l:z.val o3 with
       |none=>rw[l]at b;exact b.elim|some t=>
        rw [l]at b;cases t<;>try exact b.elim
        rename_i Q j;obtain⟨⟨_,rfl⟩,k1,k2,k3⟩:=b;exact⟨g,i,F,j,Q,rfl,C,rfl,k1,k2,k3⟩
    obtain ⟨g,i,F,j,Q,m1,m2,m3,m4,m5,m6⟩:=H;obtain⟨n1,fs',n2,n3⟩:=nC B h4 T m1 m2;refine⟨e',M,?_⟩;simp only[PR.wp,f1,f2,f3,AD.wp,AB.put,AE.ya,n1,n2,Ad,X _ m3,AE.ev,EV.yc];refine⟨⟨trivial,trivial⟩,m4,by rw[n3];exact m5,_,.refl _,?_⟩;have J:∀(o:AE),d∉o.sl->o.ev ((d,.lp g i (j.toNat*m))::e')=o.ev e':=by
     intro o ho;cases o with
     |c t=>rfl|s t=>
      simp only[AE.ev,AB.d6];rw[az];intro e;exact ho (by simp[AE.sl,e])
    simp only[PR.wp,e1,e2,e3,AD.wp,AB.put,J x Y,J v Z,R,hu];have L:AB.x4 ((d,.lp g i (j.toNat*m))::e') U i0=some (n,es):=by rw[AB.yq G];exact B
    rw [L];refine⟨h1,h2,es',h3,h4,h5,He m6 ?_⟩;refine M0.symm (M0.trans (Yy (.refl _) G) ⟨fun s=>?_,fun s=>?_⟩)
    .simp[AB.d6,T]
    .simp[AB.ei,A.2]
   .exact h.elim
  .exact h.elim
 .cases a
theorem Zf{O env2:AB}{b:Nat}{o:Option AE}(h:∀y∈o.toList,y.val env2=y.val O):Gh env2 b o=Gh O b o:=by
 cases o with
 |none=>rfl|some y=>simp[Gh];exact h y (by simp)
theorem tL{S:FuncId->Fq->Al->Prop}{p:AD}{xs:List AE}{K:EV->AB->Prop}(B:p.vops=some xs)(h:p.wp S O d K):
  ∃t,K (.tv t) O/\(∀x∈xs,∃u,x.val O=some u)/\∀env2,(∀x∈xs,x.val env2=x.val O)->∀j:EV->AB->Prop,j (.tv t) env2->p.wp S env2 d j:=by
 cases p<;>simp[AD.vops]at B<;>first|cases B|skip
 case bin k op x y=>
  simp [AD.wp]at h;split at h
  .rename_i a b g w;cases A:LV k op a b with
   |none=>rw[A]at h;exact h.elim|some t=>
    rw [A]at h;refine⟨t,h,fun z c=>?_,fun env2 he j i=>?_⟩
    .simp at c;rcases c with rfl|rfl
     .exact⟨a,g⟩
     .exact⟨b,w⟩
    .simp[AD.wp,he x (by simp),he y (by simp),g,w,A];exact i
  .exact h.elim
 case fdv x k=>
  simp [AD.wp]at h;split at h
  .rename_i row g;refine⟨_,h,fun z c=>?_,fun env2 he j i=>?_⟩
   .rw[List.mem_singleton]at c;subst c;exact⟨_,g⟩
   .simp[AD.wp,he x (by simp),g];exact i
  .exact h.elim
 case ldv x k=>
  simp [AD.wp]at h;split at h
  .rename_i row g;refine⟨_,h.2,fun z c=>?_,fun env2 he j i=>?_⟩
   .rw[List.mem_singleton]at c;subst c;exact⟨_,g⟩
   .simp[AD.wp,he x (by simp),g];exact⟨h.1,i⟩
  .exact h.elim
 case len x=>
  simp [AD.wp]at h;split at h
  .rename_i n es g;refine⟨_,h,fun z c=>?_,fun env2 he j i=>?_⟩
   .rw[List.mem_singleton.1 c];exact⟨_,g⟩
   .simp[AD.wp,he x (by simp),g];exact i
  .exact h.elim
 case y8 k x=>
  simp [AD.wp]at h;split at h
  .rename_i H n g;refine⟨_,h,fun z c=>?_,fun env2 he j i=>?_⟩
   .rw[List.mem_singleton.1 c];exact⟨_,g⟩
   .simp[AD.wp,he x (by simp),g];exact i
  .exact h.elim
 case mm b x y=>
  simp [AD.wp]at h;split at h
  .rename_i k a H a' g w;refine⟨_,h.2,fun z c=>?_,fun env2 he j i=>?_⟩
   .simp at c;rcases c with rfl|rfl
    .exact⟨_,g⟩
    .exact⟨_,w⟩
   .simp[AD.wp,he x (by simp),he y (by simp),g,w];exact⟨h.1,i⟩
  .exact h.elim
 case y9 n x lo hi=>
  simp [AD.wp]at h;split at h
  .rename_i m es g;split at h
   .rename_i C l E r F G;refine⟨_,h.2.2,fun z c=>?_,fun env2 he j i=>?_⟩
    .simp at c;rcases c with rfl|c|c
     .exact⟨_,g⟩
     .cases c;exact⟨_,F⟩
     .cases c;exact⟨_,G⟩
    .have C:Gh env2 0 lo=Gh O 0 lo:=Zf (fun y o=>he y (by simp at o|-;exact .inr (.inl o)));have E:Gh env2 es.length hi=Gh O es.length hi:=Zf (fun y o=>he y (by simp at o|-;exact .inr (.inr o)));simp[AD.wp,he x (by simp),g,C,E,F,G];exact⟨h.1,h.2.1,i⟩
   .exact h.elim
  .exact h.elim
theorem tF{p q:PR}(a:z5 D p q=true)(h:Ej (AX P) K (p::q::rs) O):Ej (AX P) K (q::p::rs) O:=by
 unfold z5 at a;split at a
 .rename_i xs d n x v U Q R V W X;simp[bne_iff_ne,Bool.not_eq_true',decide_eq_false_iff_not]at a;obtain⟨⟨⟨_,hdx⟩,G⟩,H⟩:=a;obtain⟨e',I,h⟩:=h;unfold PR.wp at h;rw[Q,R]at h;simp[AB.put]at h;obtain⟨t,⟨y,j,hw⟩,hs,J⟩:=tL U h;obtain⟨s,off,cs,cs',o,h1,L,M,hK,h5⟩:=T6 V W X hw;have Y:∀z,d≠z->y.get z=e'.get z:=fun z w=>by rw[j.1,AB.d6,az w]
  have g:d≠s:=fun e=>by
   rw [j.1,AB.d6,ae e]at L;cases L
  have Z:(AE.s x).place e'=some (s,off):=by
   grind [AE.place]
  have hb:e'.get s=.bx cs:=by rw[<-Y s g];exact L
  have hv:v.ev e'=v.ev y:=by
   cases v with
   |c t=>rfl|s l=>
    grind [AE.ev,AE.sl]
  have hq:∀k:AB->Prop,k (OQ s cs' o e')->q.wp (AX P) e' k:=fun k A=>h5 e' Z hb hv k A;refine⟨e',I,hq _ ⟨_,.refl _,?_⟩⟩;unfold PR.wp;rw[Q,R];simp[AB.put];refine J _ (fun z w=>?_) _ (He hK ?_)
  .cases z with
   |c t=>rfl|s m=>
    obtain ⟨u,hu⟩:=hs _ w;have B:¬s=m:=fun e=>by
     grind [AE.val,AE.ev,EV.val]
    simp [AE.val,AE.ev,Ei,az B];cases o with
    |none=>rfl|some b=>
     have C:¬b.1=m:=fun e=>An H (x:=m) (List.mem_flatMap.2 ⟨_,w,by simp[AE.sl]⟩) (by rw[(M b.1 b.2 rfl).1,e];simp[AE.sl]);simp[az C]
  .refine⟨fun z=>?_,fun z=>?_⟩
   .rw[AB.d6,Ei,Ei];by_cases E:s=z
    .subst E;rw[ae rfl,az g,ae rfl]
    .rw[az E,az E];cases o with
     |none=>
      simp only;rw[j.1,AB.d6]
     |some b=>
      have F:¬d=b.1:=fun e=>G (by rw[(M b.1 b.2 rfl).1,e];simp[AE.sl]);simp only;by_cases i:b.1=z
      .rw[ae i,ae i,az (fun e=>F (e.trans i.symm))]
      .rw[az i,az i,j.1,AB.d6]
   .have T:∀l e,o=some (l,e)->e.yz z=true:=fun l e he=>by
     obtain ⟨_,⟨t,rfl⟩,_⟩:=M l e he;rfl
    rw [AB.ei,FT _ _ _ _ _ T,FT _ _ _ _ _ T,j.2,AB.ei]
 .cases a
theorem tB{p q:PR}(hj:JD D O)(a:Aaa D p q=true)(h:Ej (AX P) K (p::q::rs) O):Ej (AX P) K (q::p::rs) O:=by
 unfold Aaa at a;split at a
 .rename_i b m d n x v R i T Y Z f3;simp[bne_iff_ne,Bool.not_eq_true',decide_eq_false_iff_not,yf]at a;obtain⟨⟨⟨⟨⟨⟨_,bD⟩,hbx⟩,hdx⟩,hdb⟩,M⟩,U⟩:=a;obtain⟨e',G,h⟩:=h;have hj':=hj.congr G.symm;unfold PR.wp at h;rw[R,i,T]at h;simp[AB.put,AD.wp]at h;split at h
  case h_2=>exact h.elim
  rename_i bs hbs;obtain⟨L,y,w,hw⟩:=h;obtain⟨s,off,cs,cs',o,h1,g,B,I,h5⟩:=T6 Y Z f3 hw;have gy:∀z,d≠z->y.get z=e'.get z:=fun z W=>by rw[w.1,AB.d6,az W]
  have l:d≠s:=fun e=>by
   rw [w.1,AB.d6,ae e]at g;cases g
  have H:(AE.s x).place e'=some (s,off):=by
   grind [AE.place]
  have hsb:¬s=b:=by
   intro e;subst e;simp[AE.place]at H;split at H
   .rename_i r off' hx;simp at H;exact hj'.no (x:=x) (s:=s) (by rw[hx,<-H.1];rfl) bD
   .grind
   .cases H
  have F:e'.get s=.bx cs:=by rw[<-gy s l];exact g
  have hv:v.ev e'=v.ev y:=by
   cases v with
   |c t=>rfl|s E=>
    grind [AE.ev,AE.sl]
  have hq:∀C:AB->Prop,C (OQ s cs' o e')->q.wp (AX P) e' C:=fun C X=>h5 e' H F hv C X;refine⟨e',G,hq _ ⟨_,.refl _,?_⟩⟩;have hg:(OQ s cs' o e').get b=.bx bs:=by
   grind [Ei,AE.sl]
  unfold PR.wp;rw[R,i,T];simp[AB.put,AD.wp,hg];refine⟨L,He I ?_⟩;refine⟨fun z=>?_,fun z=>?_⟩
  .rw[AB.d6,Ei,Ei];by_cases A:s=z
   .subst A;rw[ae rfl,az l,ae rfl]
   .rw[az A,az A];cases o with
    |none=>
     simp only;rw[w.1,AB.d6]
    |some j=>
     have J:¬d=j.1:=fun e=>M (by rw[(B j.1 j.2 rfl).1,e];simp[AE.sl]);simp only;by_cases u:j.1=z
     .rw[ae u,ae u,az (fun e=>J (e.trans u.symm))]
     .rw[az u,az u,w.1,AB.d6]
  .have L:∀E e,o=some (E,e)->e.yz z=true:=fun E e he=>by
    obtain ⟨_,⟨t,rfl⟩,_⟩:=B E e he;rfl
   rw [AB.ei,FT _ _ _ _ _ L,FT _ _ _ _ _ L,w.2,AB.ei]
 .rename_i b k d n x v R i T Y Z f3;simp[bne_iff_ne,Bool.not_eq_true',decide_eq_false_iff_not,yf]at a;obtain⟨⟨⟨_,hdx⟩,M⟩,U⟩:=a;obtain⟨e',G,h⟩:=h;unfold PR.wp at h;rw[R,i,T]at h;obtain⟨V,hn0,Q,y,w,hw⟩:∃V,(∀c,V≠.bx c)/\(∀i:AB,i.get b=e'.get b\/(∃c c',e'.get b=.bx c/\i.get b=.bx c')->∀C:EV->AB->Prop,C V i->(AD.bad b k).wp (AX P) i (some d) C)/\Ej (AX P) K (q::rs) ((d,V)::e'):=by
   simp only[AB.put,AD.wp]at h;split at h
   .rename_i F;refine⟨_,by simp,fun i g C I=>?_,h⟩;obtain⟨c',B⟩:∃c',i.get b=.bx c':=by
     rcases g with g|⟨_,c',_,g⟩
     .exact⟨_,g.trans F⟩
     .exact⟨c',g⟩
    simp only[AD.wp,B];exact I
   .rename_i F;refine⟨_,by simp,fun i g C I=>?_,h⟩;have B:i.get b=e'.get b:=g.resolve_right fun⟨c,c',h4,_⟩=>by rw[F]at h4;cases h4
    simp only[AD.wp,B,F];exact I
   .exact h.elim
  obtain ⟨s,off,cs,cs',o,h1,g,B,I,h5⟩:=T6 Y Z f3 hw;have gy:∀z,d≠z->y.get z=e'.get z:=fun z W=>by rw[w.1,AB.d6,az W]
  have l:d≠s:=fun e=>by
   rw [w.1,AB.d6,ae e]at g;exact hn0 _ g
  have H:(AE.s x).place e'=some (s,off):=by
   grind [AE.place]
  have F:e'.get s=.bx cs:=by rw[<-gy s l];exact g
  have hv:v.ev e'=v.ev y:=by
   cases v with
   |c t=>rfl|s E=>
    grind [AE.ev,AE.sl]
  refine ⟨e',G,h5 e' H F hv _ ⟨_,.refl _,?_⟩⟩;unfold PR.wp;rw[R,i,T];refine Q _ ?_ _ (He I ?_)
  .rw[Ei];by_cases A:s=b
   .subst A;exact .inr ⟨cs,cs',F,by rw[ae rfl]⟩
   .rw[az A];cases o with
    |none=>exact .inl rfl|some j=>
     have:¬j.1=b:=fun e=>U (by rw[(B j.1 j.2 rfl).1,e];simp[AE.sl]);simp only;rw[az this];exact .inl rfl
  refine ⟨fun z=>?_,fun z=>?_⟩
  .simp only[AB.put];rw[AB.d6,Ei,Ei];by_cases A:s=z
   .subst A;rw[ae rfl,az l,ae rfl]
   .rw[az A,az A];cases o with
    |none=>
     simp only;rw[w.1,AB.d6]
    |some j=>
     have J:¬d=j.1:=fun e=>M (by rw[(B j.1 j.2 rfl).1,e];simp[AE.sl]);simp only;by_cases u:j.1=z
     .rw[ae u,ae u,az (fun e=>J (e.trans u.symm))]
     .rw[az u,az u,w.1,AB.d6]
  .have L:∀E e,o=some (E,e)->e.yz z=true:=fun E e he=>by
    obtain ⟨_,⟨t,rfl⟩,_⟩:=B E e he;rfl
   simp only[AB.put];rw[AB.ei,FT _ _ _ _ _ L,FT _ _ _ _ _ L,w.2,AB.ei]
 .cases a
theorem gQ{oq:Oper}(u:L5 P N ops oq q=true){b:List PR}:∀(a:List PR),(∀p∈a,zN D p q=true/\∃o,L5 P N ops o p=true)->∀{O:AB},L0 F0 w0 N O->JD D O->Ej (AX P) K (a++q::b) O->Ej (AX P) K (q::(a++b)) O
 |[],_,O,_,_,h=>h|p::a,g,O,B,C,h=>by
  obtain ⟨c,o,ho⟩:=g p (by simp);obtain⟨e',i,h⟩:=h;obtain⟨o3,A,k,l,j⟩:=xQ ho (br c) (B.congr i.symm) (C.congr i.symm) h;have z:=gQ u a (fun p w=>g p (by simp[w])) k l A;have t:Ej (AX P) K (p::q::(a++b)) O:=⟨e',i,j _ z⟩;simp[zN]at c
  grind [swap,pw,s8,tE,tH,s7,tG,tF,tB,tA,s9,tI,tD,tC]
variable{x:AE}
theorem vF{S:FuncId->Fq->Al->Prop}{K:EV->AB->Prop}(h:(AD.st n x v).wp S O d K):(AD.st n x v).wp S O d fun e env'=>K e env'/\e=.undef/\∀c,env'.gt c=O.gt c:=by
 simp [AD.wp]at h|-;split at h
 .rename_i s off a;split at h
  .rename_i cs b;split at h
   .grind[AB.ei,EV.yz,EV.yc]
   .grind[AB.ei,EV.yz,EV.yc]
   .exact h.elim
  .exact h.elim
 .exact h.elim
variable{s:Nat}
theorem rN{S:FuncId->Fq->Al->Prop}{K:EV->AB->Prop}(h:(AD.stb n s v).wp S O d K):(AD.stb n s v).wp S O d fun e env'=>K e env'/\e=.undef/\∀c,env'.gt c=O.gt c:=by
 simp [AD.wp]at h|-;split at h
 .rename_i cs a;split at h
  .grind[AB.ei,EV.yz,EV.yc]
  .grind[AB.ei,EV.yz,EV.yc]
  .exact h.elim
 .exact h.elim
theorem Wf(O:AB)(q:Nat)(i:Option Nat)(n:Nat)(es:Fq)(c:Nat):AB.gt c (O.ym q i n es)=AB.gt c O:=by
 cases i with
 |none=>simp[AB.ym,AB.ei,EV.yz,EV.yc]|some k=>
  grind [AB.ym,AB.ei,EV.yz,EV.yc]
theorem rK{S:FuncId->Fq->Al->Prop}{q:Nat}{K:EV->AB->Prop}(h:(AD.cpt x q).wp S O d K):(AD.cpt x q).wp S O d fun e env'=>K e env'/\e=.undef/\∀c,env'.gt c=O.gt c:=by
 simp [AD.wp]at h|-;split at h
 .grind[AB.ei,EV.yz,EV.yc]
 .grind[AB.ei,EV.yz,EV.yc]
 .exact h.elim
theorem rR{S:FuncId->Fq->Al->Prop}{k:Nat}{K:EV->AB->Prop}(h:(AD.xst x v k).wp S O d K):(AD.xst x v k).wp S O d fun e env'=>K e env'/\e=.undef/\∀c,env'.gt c=O.gt c:=by
 simp [AD.wp]at h|-;split at h
 .grind[Wf]
 .exact h.elim
theorem eY(O:AB)(q i:Nat)(es:Fq)(c:Nat):AB.gt c (O.AaL q i es)=AB.gt c O:=by grind[AB.AaL,AB.ei,EV.yz,EV.yc]
theorem rM{S:FuncId->Fq->Al->Prop}{K:EV->AB->Prop}(h:(AD.nst x v).wp S O d K):(AD.nst x v).wp S O d fun e env'=>K e env'/\e=.undef/\∀c,env'.gt c=O.gt c:=by
 simp [AD.wp]at h|-
 grind [eY]
theorem rP{S:FuncId->Fq->Al->Prop}{a:List (Option AR)}{K:EV->AB->Prop}(h:(AD.stq n a x v).wp S O d K):(AD.stq n a x v).wp S O d fun e env'=>K e env'/\e=.undef/\∀c,env'.gt c=O.gt c:=by
 simp [AD.wp]at h|-;split at h
 .rename_i s off t g hv;split at h
  .rename_i cs i;cases b:D2 a t.cells with
   |none=>rw[b]at h;exact h.elim|some ds=>
    grind [AB.ei,EV.yz,EV.yc]
  .exact h.elim
 .exact h.elim
theorem rL{S:FuncId->Fq->Al->Prop}{m x v:AE}{K:EV->AB->Prop}(h:(AD.mup s m x v).wp S O d K):(AD.mup s m x v).wp S O d fun e env'=>K e env'/\e=.undef/\∀c,env'.gt c=O.gt c:=by
 simp [AD.wp]at h|-;split at h
 .rename_i b a g t i j k;split at h
  .grind[AB.ei,EV.yz,EV.yc]
  .exact h.elim
 .exact h.elim
theorem rQ{S:FuncId->Fq->Al->Prop}{n s q:Nat}{K:EV->AB->Prop}(h:(AD.stx n s q).wp S O d K):(AD.stx n s q).wp S O d fun e env'=>K e env'/\e=.undef/\∀c,env'.gt c=O.gt c:=by
 simp [AD.wp]at h|-
 grind [AB.ei,EV.yz,EV.yc]
theorem kj{S:FuncId->Fq->Al->Prop}{f:FuncId}{ys:List AE}{K:EV->AB->Prop}(h:(AD.zj f x ys).wp S O d K):(AD.zj f x ys).wp S O d fun e env'=>K e env'/\e.yc=none/\∀c,env'.gt c=O.gt c:=by
 simp only[AD.wp]at h|-;cases a:x.ya O with
 |none=>rw[a]at h;exact h.elim|some p=>
  cases hv:vals O ys with
  |none=>rw[a,hv]at h;exact h.2.elim|some t=>
   rw [a,hv]at h;obtain⟨i,zs,b,j,k,l,o⟩:=h;refine⟨i,zs,b,j,k,l,fun g=>⟨o g,?_,fun c=>Wf _ _ _ _ _ c⟩⟩;unfold EV.ofs;split<;>rfl
variable{r:PR}
theorem oV{S:FuncId->Fq->Al->Prop}{K:AB->Prop}(J:aN D r=true)(hd:NA r.op=true->r.dst=none)(a:JD D O)(h:r.wp S O K):r.wp S O fun env'=>K env'/\JD D env':=by
 simp [aN,Bool.not_eq_true']at J;rcases J with(((((A|H)|k)|W)|X)|I)|⟨⟨⟨hm,i⟩,L⟩,o⟩
 rotate_right 2
 .unfold okCm at I;split at I
  .rename_i f x ys d t u;have put:∀e:EV,e.yc=none->∀env':AB,(∀c,env'.gt c=O.gt c)->JD D (env'.put r.dst e):=fun e he env' R c Y=>by
    rw [u];show AB.gt c ((d,e)::env')=true;rw[AB.ei,R,a c Y];simp[EV.yz,he]
   have w:(r.op.wp S O r.dst fun e env'=>K (env'.put r.dst e))->r.op.wp S O r.dst fun e env'=>K (env'.put r.dst e)/\JD D (env'.put r.dst e):=fun l=>by
    rw [t]at l|-;exact AD.og S O _ (fun e env' he=>⟨he.1,put e he.2.1 env' he.2.2⟩) _ (kj l)
   unfold PR.wp at h|-;split
   .rename_i L;rw[L]at h;exact w h
   .rename_i g b L;rw[L]at h;simp only at h;split
    .rename_i q k;rw[k]at h;exact⟨fun o=>w (h.1 o),fun o=>⟨h.2 o,put .sk rfl O fun _=>rfl⟩⟩
    .rename_i C;rw[C]at h;exact⟨h,put .sk rfl O fun _=>rfl⟩
    .rename_i E F;split at h
     .rename_i q k;exact absurd k (E q)
     .rename_i k;exact absurd k F
     .exact h.elim
  .cases I
 rotate_right
 .exact PR.og _ _ (fun env' he=>⟨he.1,fun x B=>by rw[he.2];exact a x B⟩) r (kw X h)
 rotate_left 4
 .obtain⟨o3,k1,k2,k3⟩:=aO W h;exact k3 _ ⟨k1,fun x B=>by rw[k2];exact a x B⟩
 rotate_left 1
 .have i:=hd A;have w:(r.op.wp S O r.dst fun e env'=>K (env'.put r.dst e))->r.op.wp S O r.dst fun e env'=>K (env'.put r.dst e)/\JD D (env'.put r.dst e):=by
   intro l;rw[i]at l|-;generalize r.op=p at A l|-;cases p<;>simp[NA]at A<;>first|cases A|skip
   .refine AD.og S O none (fun e env' he=>⟨he.1,fun d hd=>?_⟩) _ (vF l);simp[AB.put];rw[he.2.2];exact a d hd
   .refine AD.og S O none (fun e env' he=>⟨he.1,fun d hd=>?_⟩) _ (rN l);simp[AB.put];rw[he.2.2];exact a d hd
   .refine AD.og S O none (fun e env' he=>⟨he.1,fun d hd=>?_⟩) _ (rR l);simp[AB.put];rw[he.2.2];exact a d hd
   .refine AD.og S O none (fun e env' he=>⟨he.1,fun d hd=>?_⟩) _ (rQ l);simp[AB.put];rw[he.2.2];exact a d hd
   .refine AD.og S O none (fun e env' he=>⟨he.1,fun d hd=>?_⟩) _ (rK l);simp[AB.put];rw[he.2.2];exact a d hd
   .refine AD.og S O none (fun e env' he=>⟨he.1,fun d hd=>?_⟩) _ (rM l);simp[AB.put];rw[he.2.2];exact a d hd
   .refine AD.og S O none (fun e env' he=>⟨he.1,fun d hd=>?_⟩) _ (rP l);simp[AB.put];rw[he.2.2];exact a d hd
   .refine AD.og S O none (fun e env' he=>⟨he.1,fun d hd=>?_⟩) _ (rL l);simp[AB.put];rw[he.2.2];exact a d hd
  unfold PR.wp at h|-;split
  .grind
  .rename_i g b hr;rw[hr]at h;simp only at h;split
   .rename_i q k;rw[k]at h;exact⟨fun o=>w (h.1 o),fun o=>⟨h.2 o,by rw[i];exact a⟩⟩
   .rename_i C;rw[C]at h;exact⟨h,by rw[i];exact a⟩
   .rename_i E F;split at h
    .rename_i q k;exact absurd k (E q)
    .rename_i k;exact absurd k F
    .exact h.elim
 .unfold AaB at H;split at H
  .rename_i gs d t u G;obtain⟨ts,Q,U,V⟩:=VT t u G h;refine SK t u G Q U ⟨V,fun x B=>?_⟩;rw[AB.ei,La,a x B];rfl
  .cases H
 .unfold okQ at k;split at k
  .rename_i s d t u G;obtain⟨n,es,Q,h2,U,V⟩:=dc t u G h;refine de t u G Q h2 U ⟨V,fun x B=>?_⟩;have:=a x B;simp[AB.ei,EV.yz,EV.yc,this]
  .rename_i n s z x d t u G;simp[PR.wp,t,u,G,AD.wp,AB.put]at h|-;split at h
   .rename_i d' m es kk j M hs B;simp at M;subst M;refine⟨h.1,h.2.1,h.2.2.1,h.2.2.2,fun y Z=>?_⟩;have:=a y Z;simp[AB.ei,EV.yz,EV.yc,this]
   .exact h.elim
  .cases k
 .obtain⟨d,hd⟩:=Option.isSome_iff_exists.1 i;have T:r.op.wi=true->r.guard=none:=fun R=>by
   rcases L with h|h
   .rw[R]at h;cases h
   .simpa using h
  refine PR.og S O (fun env' he=>?_) r (PO hd hm T h);obtain⟨Q,e,f,hF⟩:=he;exact⟨Q,hF.jd o a⟩
theorem kT{S:FuncId->Fq->Al->Prop}{a:Act}{w:World}:∀{O:AB},Sh rs=true->Ej S K rs O->Bg F0 w0 O a w->∃env',K env'/\Bg F0 w0 env' a w:=by
 induction rs with
 |nil=>intro O _ h b;obtain⟨e,g,i⟩:=h;exact⟨e,i,b.congr fun n=>(g.1 n).symm⟩
 |cons r rs u=>
  intro O c h b;simp[Sh]at c;obtain⟨g,i⟩:=c;obtain⟨e',j,h⟩:=h;have b:=b.congr (fun n=>(j.1 n).symm);split at g
  .rename_i s k l o;simp[PR.wp,k,l,o,AD.wp]at h;split at h
   .rename_i cs t;obtain⟨G,b⟩:=b;exact u i h (b.frz t)
   .exact h.elim
  .cases g
theorem Si:∀(os:List Oper)(rs:List PR),MA P N ops os rs=true->(∀i o,os[i]?=some o->L5 P N ops o (Nn rs i)=true)/\Sh (rs.drop os.length)=true/\rs=(List.range os.length).map (Nn rs)++rs.drop os.length
 |[],rs,h=>⟨fun i o h=>by simp at h,h,by simp⟩|o::os,[],h=>by simp[MA]at h|o::os,r::rs,h=>by
  simp [MA]at h;obtain⟨b,c,g⟩:=Si os rs h.2;refine⟨fun i a hi=>?_,by simpa using c,?_⟩
  .cases i with
   |zero=>simp[List.getElem?_cons_zero]at hi;subst hi;exact h.1|succ i=>simp[List.getElem?_cons_succ]at hi;exact b i a hi
  .rw[c7,List.range_succ_eq_map,List.map_cons,List.map_map,List.cons_append,List.drop_succ_cons];congr 1
theorem gV{Q:Exit->Act->World->Prop}(hok:UJ P N D ops rs=true)(hpd:∀i v,p=some (i,v)->∀r∈rs,r.dst≠some i)(hQ:∀O a w,K O->Km N p a->Bg F0 w0 O a w->Q .normal a w):
  ∀(fuel:Nat)(rem:QQ)(b:Array Bool)(O:AB)(a:Act)(w:World),rem.length=fuel->rem.Pairwise (·<·)->(∀j,j∈rem↔j<ops.size/\b.getD j true=false)->b.size=ops.size ->
   (∀k o,ops[k]?=some o->b.getD k false=true->∀e∈o.after,Region.binds .any e=true->b.getD e.on false=true) ->
   Km N p a->Bg F0 w0 O a w->JD D O->Ej (AX P) K (rem.map (Nn rs)++rs.drop ops.size) O->wpAny P .any ops Q fuel b a w:=by
 simp only[UJ,sr,List.all_eq_true,List.mem_range]at hok;obtain⟨⟨⟨⟨hl,hs⟩,he⟩,hM⟩,hP⟩:=hok;obtain⟨F,hl2,hl3⟩:=Si ops.toList rs hl;simp[Array.getElem?_toList]at F hl2 hl3;intro fuel
 induction fuel with
 |zero=>
  intro rem b O a w u U c hsz V hN hI T h;have:rem=[]:=List.eq_nil_of_length_eq_zero u;subst this;refine⟨?_,?_⟩
  .refine List.eq_nil_iff_forall_not_mem.2 fun j I=>?_;rw[mem_ready]at I;obtain⟨H,o,ho,_⟩:=I;have:=(c j).2 ⟨(Array.getElem?_eq_some_iff.1 ho).1,H⟩;cases this
  .obtain⟨env',H,t⟩:=kT hl2 h hI;exact hQ env' a w H hN t
 |succ fuel ih=>
  intro rem b O a w u U c hsz V hN hI T h;refine⟨fun hnil=>?_,fun i hi=>?_⟩
  ·
   exfalso;cases rem with
   |nil=>simp at u|cons i rem=>
    have H:=(c i).1 (by simp);have l:i∈Region.ready .any ops b:=by
     rw [mem_ready];have ho:ops[i]?=some ops[i]:=Array.getElem?_eq_getElem H.1;refine⟨H.2,_,ho,fun e A L=>?_⟩;have:=he i H.1;rw[ho]at this;simp only[List.all_eq_true,Bool.or_eq_true,Bool.not_eq_true',yf]at this;have hlt:=(this e (by simpa using A)).resolve_left (by simp[L]);cases E:b.getD e.on false with
     |true=>rfl|false=>
      have W:e.on∈i::rem:=by
       refine (c _).2 ⟨by omega,?_⟩;have:e.on<b.size:=by omega
       simp [Array.getD_eq_getD_getElem?,Array.getElem?_eq_getElem this]at E|-;exact E
      rcases List.mem_cons.1 W with t|t
      .omega
      .have:=(List.pairwise_cons.1 U).1 _ t;omega
    rw [hnil]at l;cases l
  .have hi':=hi;rw[mem_ready]at hi';obtain⟨hi1,o,ho,hi2⟩:=hi';have l:i<ops.size:=(Array.getElem?_eq_some_iff.1 ho).1;have hir:i∈rem:=(c i).2 ⟨l,hi1⟩;obtain⟨G,z,rfl⟩:=List.append_of_mem hir;have g:=List.pairwise_append.1 U;have M:∀j∈G,j<i:=fun j T=>g.2.2 j T i (by simp);have Y:∀j∈z,i<j:=fun j T=>(List.pairwise_cons.1 g.2.1).1 j T;have J:∀(k:Nat),k<ops.size->(∀o,ops[k]?=some o->∀e∈o.after,Region.binds .any e=true->b.getD e.on false=true)->∀j,j<ops.size->((nS ops).getD k 0).testBit j=true->b.getD j false=true:=by
    intro k
    induction k using Nat.strongRecOn with
    |_ k ihk=>
     intro hk hdir j C L;have:=hM k hk j C;rw[L]at this;simp only[Bool.not_true,Bool.false_or]at this;split at this
     .rename_i ok hok';simp only[List.any_eq_true,sr,Bool.or_eq_true,beq_iff_eq,yf]at this;obtain⟨e,A,hbe,h3⟩:=this;have E:=hdir ok hok' e (by simpa using A) hbe;rcases h3 with h3|⟨h3,h4⟩
      .rw[<-h3];exact E
      .exact ihk e.on h3 (by omega) (fun R B e' he' hb'=>V e.on R B E e' he' hb') j C h4
     .cases this
   have hwp:Ej (AX P) K (Nn rs i::(G.map (Nn rs)++(z.map (Nn rs)++rs.drop ops.size))) O:=by
    refine gQ (ops:=ops) (F0:=F0) (w0:=w0) (N:=N) (oq:=o) (F i o ho) (G.map (Nn rs)) (fun p hp=>?_) ⟨a,w,hN.size,hI⟩ T (by simpa using h);obtain⟨j,hj1,rfl⟩:=List.mem_map.1 hp;have hlt:=M j hj1;have C:j<ops.size:=by omega
    refine ⟨?_,ops[j],F j _ (Array.getElem?_eq_getElem C)⟩;have:=hP i l j hlt;rw[Bool.or_eq_true]at this;refine this.resolve_left fun L=>?_;have H:=J i l (fun R B=>by rw[ho]at B;simp at B;subst B;exact hi2) j C L;have t:=((c j).1 (by simp[hj1])).2;have:j<b.size:=by omega
    simp [Array.getD_eq_getD_getElem?,Array.getElem?_eq_getElem this]at H t;rw[H]at t;cases t
   obtain ⟨e',heq,hw⟩:=hwp;have hI':=hI.congr (fun n=>(heq.1 n).symm);have I:=T.congr heq.symm;have hstd:NA (Nn rs i).op=true->(Nn rs i).dst=none:=by
    intro hst;have:=F i o ho;simp[L5]at this;have t:=this.2;split at t
    .simp only[hst,Bool.not_true,Bool.and_false,Bool.false_and]at t;cases t
    .assumption
    .cases t
   have hw':=oV (hs i l) hstd I hw;have Z:∀j,j∈G++z↔j<ops.size/\(b.setIfInBounds i true).getD j true=false:=by
    intro j;by_cases hij:j=i
    .subst hij;constructor
     .intro W;rcases List.mem_append.1 W with W|W
      .have:=M _ W;omega
      .have:=Y _ W;omega
     .rintro⟨_,t⟩;have:j<b.size:=by omega
      simp [this]at t
    .rw[getD_set_ne true (fun e=>hij e.symm),<-c j];simp[hij]
   have hcl':∀k R,ops[k]?=some R->(b.setIfInBounds i true).getD k false=true->∀e∈R.after,Region.binds .any e=true->(b.setIfInBounds i true).getD e.on false=true:=by
    intro k R hk hlk e A L;refine getD_set_true ?_;by_cases hki:k=i
    .subst hki;rw[ho]at hk;simp at hk;subst hk;exact hi2 e A L
    .rw[getD_set_ne false (fun e=>hki e.symm)]at hlk;exact V k R hk hlk e A L
   have hpdi:∀j v,p=some (j,v)->(Nn rs i).dst≠some j:=by
    intro j v hp;unfold Nn;cases hr:rs[i]? with
    |none=>simp|some r=>exact hpd j v hp r (List.mem_of_getElem? hr)
   have:=Vf (Q:=Q) (next:=wpAny P .any ops Q fuel (b.setIfInBounds i true)) hI' hN hpdi (F i o ho) hw' fun env' a' w' k1 k2 k3=>
    ih (G++z) _ env' a' w' (by simp at u|-;omega) (List.pairwise_append.2 ⟨g.1,(List.pairwise_cons.1 g.2.1).2,fun x hx y hy=>g.2.2 x hx y (by simp[hy])⟩) Z (by simpa using hsz) hcl' k2 k3 k1.2 (by simpa using k1.1)
   unfold Go.wpOp;rw[ho];simp;split
   .rename_i X;rw[ae X]at this;exact .inl this
   .rename_i X;rw[az X]at this;exact this
theorem Xz:∀(ds:QQ)(O:AB),Rl O ds=true->JD ds O
 |[],O,_=>fun d hd=>by simp at hd|d::ds,O,h=>by
  simp [Rl]at h;intro x a;rcases List.mem_cons.1 a with rfl|a
  .exact h.1
  .exact Xz ds O h.2 x a
theorem LX(J:P.follows .mixedOrders=true):Kl P N (UJ P N):=by
 intro F0 w0 p id ds ops rs g O a w K Q z B X c hd h Y;refine wp_region_any J ?_;have l:=z;simp[UJ]at l;obtain⟨_,_,E⟩:=Si ops.toList rs l.1.1.1.1;simp at E;have C:Bg F0 w0 O a {w with drawn:=w.drawn+1}:=by
  obtain ⟨G,c⟩:=c;refine⟨G,c.ns,c.lt,⟨c.below.os,c.below.tape,c.below.output,c.below.size,c.below.block,c.below.cell,c.below.free,c.below.tab⟩,c.defers,c.dom,fun s L=>?_,c.wf⟩;exact AL.kept (w:=w) (w':={w with drawn:=w.drawn+1}) (F:=AW w0.heap.size F0 G) (G:=G) (O:=O) (a:=a) (fun b o u M R=>⟨M,R⟩) (fun _=>rfl) (fun _ _ _ _=>rfl) rfl (fun _ _ _ _ _=>rfl) (fun r i k H T=>⟨T,fun v hv=>by cases k<;>exact hv⟩) (fun r off H t=>⟨t,rfl⟩) (fun r i H t=>⟨t,fun _ hv=>hv⟩) (c.slots s L)
 refine gV (K:=fun e=>K (e.fm g)) (F0:=F0) (w0:=w0) z B (fun O a w U V W=>Y _ a w U V (W.fm g)) ops.size (List.range ops.size) _ O a _ (by simp) List.pairwise_lt_range (fun j=>?_) (by simp) (fun k o Z A=>?_) X C (Xz ds O hd) ?_
 .rw[List.mem_range];constructor
  .intro I;exact⟨I,by simp[Array.getD_eq_getD_getElem?,Array.getElem?_replicate,I]⟩
  .exact fun h=>h.1
 .simp[Array.getD_eq_getD_getElem?,Array.getElem?_replicate]at A;split at A<;>simp at A
 grind [j5]
end
end Go.Sf
