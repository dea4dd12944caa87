/- Operations that take a list of one's own, in drawn regions. -/
import Derived.Test.YtbmogdodchhhlaaGreatSfSwap
set_option linter.all false
namespace Go.Sf
def AC.tkn:AC->Option Ne
 |.ub _=>some []|.ud _=>some []|.uR s=>some [s]|.t6 _ s _=>some [s]|.ut q=>some [q]|_=>none
def MK(qs:Ne)(O:AA):AA:=qs.map (·,EV.undef)++O
theorem KG(qs:Ne)(O:AA)(n:Nat):AA.get (MK qs O) n=if n∈qs then .undef else O.get n:=by
 induction qs with
 |nil=>rfl|cons q qs a=>
  grind [MK,AA.jj]
theorem Fd(qs:Ne)(O:AA)(c:Nat):AA.pc c (MK qs O)=AA.pc c O:=by
 induction qs with
 |nil=>rfl|cons q qs a=>
  simp only[MK,List.map_cons,List.cons_append,AA.j4]at a|-;rw[a];rfl
structure UM(S:FuncId->Fq->Ap->Prop)(op:AC)(qs:Ne)(d:Nat)(O:AA)(e:EV):Prop where
 dno:O.pc d=true
 uP:e.sE=none
 slbx:∀n∈op.slots,∀cs,O.get n≠.bx cs
 sub:∀n∈qs,n∈op.slots
 again:∀env2,(∀n∈op.slots,env2.get n=O.get n)->env2.pc d=true->∀K2:EV->AA->Prop,K2 e (MK qs env2)->op.wp S env2 (some d) K2
variable{y:AD}
theorem df{O env2:AA}(h:∀n∈y.sl,env2.get n=O.get n):y.val env2=y.val O:=by
 cases y with
 |c t=>rfl|s n=>simp only[AD.val,AD.ev,h n (by simp[AD.sl])]
variable{O:AA}
theorem de{t:TV}(h:y.val O=some t):∀n∈y.sl,∀cs,O.get n≠.bx cs:=by
 intro n a cs b;cases y with
 |c t=>simp[AD.sl]at a|s m=>
  grind [AD.sl,List.mem_singleton,AD.val,AD.ev,EV.val]
variable{qs:Ne}
theorem take{S:FuncId->Fq->Ap->Prop}{op:AC}{d:Nat}{K:EV->AA->Prop}(c:op.tkn=some qs)(h:op.wp S O (some d) K):∃e,UM S op qs d O e/\K e (MK qs O):=by
 cases op<;>simp only[AC.tkn,reduceCtorEq,se]at c
 case ud n=>
  subst c;simp only[AC.wp]at h;exact⟨_,⟨h.1,rfl,by simp[AC.slots],by simp,fun env2 _ a j b=>⟨a,b⟩⟩,h.2⟩
 case ub n=>
  subst c;simp only[AC.wp]at h;exact⟨_,⟨h.1,rfl,by simp[AC.slots],by simp,fun env2 _ a j b=>⟨a,b⟩⟩,h.2⟩
 case uR s=>
  subst c;simp only[AC.wp]at h;split at h
  .rename_i t n es hd i;simp only[se]at hd;subst hd;refine⟨.xo n es,⟨h.1,rfl,fun m u cs l=>?_,by simp[AC.slots],fun env2 g a j b=>?_⟩,h.2.2⟩
   .grind[AC.slots,List.mem_singleton]
   .have:=g s (by simp[AC.slots]);simp only[AC.wp,this,i];exact⟨a,h.2.1,b⟩
  .exact h.elim
 case ut q=>
  subst c;simp only[AC.wp]at h;split at h
  .rename_i t n k hd i;simp only[se]at hd;subst hd;refine⟨.x1 n k,⟨h.1.1,rfl,fun m u cs l=>?_,by simp[AC.slots],fun env2 g a j b=>?_⟩,h.2⟩
   .grind[AC.slots,List.mem_singleton]
   .have:=g q (by simp[AC.slots]);simp only[AC.wp,this,i];exact⟨⟨a,h.1.2⟩,b⟩
  .exact h.elim
 case t6 n s y=>
  subst c;simp only[AC.wp]at h;split at h
  .rename_i t m es m' k hd i w;simp only[se]at hd;subst hd;obtain⟨B,C,E,F,G,H⟩:=h;refine⟨.xo n (es++k),⟨F,rfl,fun x o cs l=>?_,by simp[AC.slots],fun env2 g a j b=>?_⟩,H⟩
   .grind[AC.slots,de]
   .have z:=g s (by simp[AC.slots]);have A:=df (O:=O) (env2:=env2) (y:=y) (fun x o=>g x (by simp[AC.slots,o]));simp only[AC.wp,z,i,A,w];exact⟨B,C,E,a,G,b⟩
  .exact h.elim
def PR.tk(r:PR):Option (Ne×Nat):=
 match r.op.tkn,r.guard,r.dst with
 |some qs,none,some d=>some (qs,d)|_,_,_=>none
variable{r:PR}
theorem PR.tk_some{d:Nat}(h:r.tk=some (qs,d)):r.op.tkn=some qs/\r.guard=none/\r.dst=some d:=by
 unfold PR.tk at h
 grind
theorem QR{S:FuncId->Fq->Ap->Prop}{d:Nat}{K:AA->Prop}(g:r.tk=some (qs,d))(h:r.wp S O K):∃e,UM S r.op qs d O e/\K ((d,e)::MK qs O)/\
  ∀env2,(∀n∈r.op.slots,env2.get n=O.get n)->env2.pc d=true->∀a:AA->Prop,a ((d,e)::MK qs env2)->r.wp S env2 a:=by
 obtain ⟨l,o,t⟩:=PR.tk_some g;have k:r.op.wp S O (some d) fun e env'=>K ((d,e)::env'):=by
  grind [PR.wp,AA.put]
 obtain ⟨e,c,u⟩:=take l k;refine⟨e,c,u,fun env2 i j a b=>?_⟩;unfold PR.wp;rw[o];simp only[t,AA.put];exact c.again env2 i j (fun e env'=>a ((d,e)::env')) b
def sW(D:Ne)(p q:PR):Bool:=
 match q.tk with
 |some (qs,d)=>PR.sL D p&&D.contains d&&qs.all D.contains&&DM p.dst.toList (d::q.op.slots)&&DM (d::qs) (p.op.slots++p.tQ)&&DM p.op.up q.op.slots|none=>false
def tX(p q:PR):Bool:=
 match p.tk,q.tk with
 |some (_,dp),some (_,dq)=>DM (dp::p.op.slots) (dq::q.op.slots)|_,_=>false
section
variable{P:Program}{F0:Nat->Nat->Prop}{w0:W0}{N:Nat}{ops:Array Oper}{K:AA->Prop}{D:Ne}
variable{r:PR}{O rm:AA}{e:EV}{f:A1}
theorem Kb.away{S:FuncId->Fq->Ap->Prop}{d:Nat}(h:Kb S r d O rm e f){x:Nat}(a:x∉r.op.slots)(b:∀y,(O.get y).sE≠some x)(u:EV):f.on x u=u:=by
 have c:=h.slot;have g:=h.cell;cases f with
 |none=>rfl|slot s t=>
  grind [A1.on,Bo]
 |cell s off t=>
  simp only[A1.on]
  grind
theorem Kb.stay{S:FuncId->Fq->Ap->Prop}{d:Nat}(h:Kb S r d O rm e f){x:Nat}(a:x∉r.op.up)(b:∀cs,O.get x≠.bx cs):f.on x (O.get x)=O.get x:=by
 have c:=h.slot;have g:=h.ok;cases f with
 |none=>rfl|slot s t=>
  grind [A1.on]
 |cell s off t=>
  simp only[A1.on]
  grind
theorem Ou(h:PR.sL D r=true):∃d,r.dst=some d/\r.op.mov=true/\(r.op.sg=true->r.guard=none)/\DM r.op.t7 D=true/\(r.op.sg=true\/d∈D):=by
 simp only[PR.sL,sc,Bool.or_eq_true,Bool.not_eq_true']at h;obtain⟨⟨⟨⟨b,c⟩,g⟩,i⟩,j⟩:=h;obtain⟨d,hd⟩:=Option.isSome_iff_exists.1 c;refine⟨d,hd,b,fun a=>?_,i,?_⟩
 .rcases g with h|h
  .rw[a]at h;cases h
  .simpa using h
 grind [PR.old]
variable{rs:List PR}
theorem dU(hR:IZ F0 w0 N O)(hj:JD D O){op:Oper}{p q:PR}(hp:Ie P N ops op p=true)(a:sW D p q=true)(h:DQ (AJ P) K (p::q::rs) O):DQ (AJ P) K (q::p::rs) O:=by
 unfold sW at a;split at a
 .rename_i qs d ht;simp only[sc,List.contains_eq_mem,tI,List.all_eq_true]at a;obtain⟨⟨⟨⟨⟨Z,dD⟩,sD⟩,T⟩,U⟩,c3⟩:=a;obtain⟨w,J,pm,pg',pb,_⟩:=Ou Z;rw[J]at T;simp only[Option.toList_some]at T;have hpd:w≠d:=fun e=>Al T (x:=w) (by simp) (by simp[e]);have H:w∉q.op.slots:=fun e=>Al T (x:=w) (by simp) (by simp[e]);have i:d∉p.op.slots:=fun e=>Al U (x:=d) (by simp) (Cc e);have dng:d∉p.tQ:=fun e=>Al U (x:=d) (by simp) (Cy e);have j:∀s∈qs,s∉p.op.slots:=fun s V e=>Al U (x:=s) (by simp[V]) (Cc e);have sng:∀s∈qs,s∉p.tQ:=fun s V e=>Al U (x:=s) (by simp[V]) (Cy e);obtain⟨e',A,h⟩:=h;have hR':=hR.congr A.symm;have k:=hj.congr A.symm;obtain⟨rm,⟨⟨e1,l,hw⟩,ep,F,o⟩,hR1⟩:=Dt hR' hp (Kd J pm pg' h);have g1:∀n,e1.get n=if w=n then ep else F.on n (e'.get n):=fun n=>by
   rw [l.1,o.rm,AA.jj,A1.get]
  have I:∀x,x∈D->x∉p.op.slots->∀e,F.on x e=e:=fun x W X e=>o.away X (fun y hy=>k.no hy W) e;obtain⟨e,M,hK,Q⟩:=QR ht hw;have z:∀n∈q.op.slots,e'.get n=e1.get n:=by
   intro n R;have hne:w≠n:=fun e=>H (e▸R);have hb:=M.slbx n R;rw[g1,az hne]at hb|-;refine(o.stay (fun hd=>Al c3 hd R) (fun cs hc=>?_)).symm;refine hb (match F.on n (.bx cs)with|.bx cs'=>cs'|_=>cs) ?_;rw[hc];cases F with
   |none=>rfl|slot s t=>
    have:=o.ok;simp only[A1.on];split
    .rename_i e;subst e;simp only[A1.ok]at this;rw[hc]at this;cases this
    .rfl
   |cell s off t=>
    simp only[A1.on];split<;>rfl
  have hdn:e'.pc d=true:=by
   have:=M.dno;rw[l.2,o.rm,AA.j4,A1.pc,sc]at this;exact this.2
  refine ⟨e',A,Q e' z hdn _ ⟨_,.refl _,?_⟩⟩;have C:∀m,m≠d->m∉qs->AA.get ((d,e)::MK qs e') m=e'.get m:=fun m u b=>by
   rw [AA.jj,az (fun e=>u e.symm),KG,az b]
  have nr:∀c,AA.pc c ((d,e)::MK qs e')=AA.pc c e':=fun c=>by
   rw [AA.j4,Fd,EV.sV,M.uP];rfl
  have L:C3 p.op F (some w) e' ((d,e)::MK qs e'):=by
   refine ⟨fun x B=>.inl (C x (fun e=>i (e▸B)) (fun e=>j x e B)),fun x B r hr=>.inl (C r (fun e=>k.no hr (e▸dD)) (fun e=>k.no hr (sD r e))),fun x B _=>C x (fun e=>i (e▸Bo B)) (fun e=>j x e (Bo B)),?_,fun R d' hd' Y=>by rw[nr];exact Y⟩;have u:=o.slot;have b:=o.ok;have h4:=o.cell;cases F with
   |none=>trivial|slot x t=>
    simp only[A1.ok]at b|-;rw[C x (fun e=>i (e▸Bo (u _ _ rfl))) (fun e=>j x e (Bo (u _ _ rfl)))];exact b
   |cell x off t=>
    obtain ⟨ds,h5,h6⟩:=b;refine⟨ds,?_,h6⟩;rw[C x (fun e=>?_) (fun e=>?_)]
    .exact h5
    .rcases h4 _ _ _ rfl with h7|⟨y,_,h8⟩
     .exact i (e▸h7)
     .exact k.no h8 (e▸dD)
    .rcases h4 _ _ _ rfl with h7|⟨y,_,h8⟩
     .exact j x e h7
     .exact k.no h8 (sD x e)
  have hgp:∀g∈p.tQ,AA.get ((d,e)::MK qs e') g=e'.get g:=fun g G=>C g (fun e=>dng (e▸G)) (fun e=>sng g e G);refine o.again _ L hgp _ (FA hK ?_);refine⟨fun m=>?_,fun c=>?_⟩
  .simp only[AA.jj,A1.get,g1,KG];by_cases u:d=m
   .subst u;rw[ae rfl,az hpd,I d dD i,ae rfl]
   .rw[az u];by_cases E:w=m
    .have:m∉qs:=fun Z=>H (E▸M.sub m Z);rw[az this,ae E,ae E]
    .rw[az E];by_cases b:m∈qs
     .rw[ae b,az E,I m (sD m b) (j m b),az u,ae b]
     .rw[az b,az E,az u,az b]
  .simp only[AA.j4,A1.pc,l.2,o.rm,Fd,EV.sV,M.uP];cases(match ep.sE with|some s=>c !=s|none=>true)<;>rfl
 .cases a
theorem dT(hR:IZ F0 w0 N O)(hj:JD D O){op oq:Oper}{p q:PR}(hp:Ie P N ops op p=true)(hq:Ie P N ops oq q=true)(a:sW D q p=true)(h:DQ (AJ P) K (p::q::rs) O):DQ (AJ P) K (q::p::rs) O:=by
 unfold sW at a;split at a
 .rename_i w d ht;simp only[sc,List.contains_eq_mem,tI,List.all_eq_true]at a;obtain⟨⟨⟨⟨⟨hm,M⟩,sD⟩,Z⟩,c2⟩,c3⟩:=a;obtain⟨C,Q,qm,qg',qb,qold⟩:=Ou hm;rw[Q]at Z;simp only[Option.toList_some]at Z;have hqd:C≠d:=fun e=>Al Z (x:=C) (by simp) (by simp[e]);have I:C∉p.op.slots:=fun e=>Al Z (x:=C) (by simp) (by simp[e]);have l:d∉q.op.slots:=fun e=>Al c2 (x:=d) (by simp) (Cc e);have dng:d∉q.tQ:=fun e=>Al c2 (x:=d) (by simp) (Cy e);have o:∀s∈w,s∉q.op.slots:=fun s hs e=>Al c2 (x:=s) (by simp[hs]) (Cc e);have sng:∀s∈w,s∉q.tQ:=fun s hs e=>Al c2 (x:=s) (by simp[hs]) (Cy e);obtain⟨e',E,h⟩:=h;have hR':=hR.congr E.symm;have hj':=hj.congr E.symm;obtain⟨rm,⟨⟨B,b,hw⟩,V,R,F,T⟩,hR1⟩:=Dt (K:=fun rm=>(∃B,I5 B rm/\q.wp (AJ P) B (DQ (AJ P) K rs))/\∃V,UM (AJ P) p.op w d e' V/\rm=(d,V)::MK w e'/\∀env2,(∀n∈p.op.slots,env2.get n=e'.get n)->env2.pc d=true->∀K2:AA->Prop,K2 ((d,V)::MK w env2)->p.wp (AJ P) env2 K2) hR' hp (by
   obtain ⟨e,Y,k2,k3⟩:=QR ht h;exact k3 e' (fun _ _=>rfl) Y.dno _ ⟨k2,e,Y,rfl,k3⟩)
  subst F;have j:JD D B:=by
   intro x u;rw[b.2,AA.j4,Fd,EV.sV,R.uP];exact hj' x u
  obtain ⟨X1,⟨hK,eq,U,A⟩,_⟩:=Dt (hR1.congr b.symm) hq (Kd Q qm qg' hw);have G:∀n,n≠d->n∉w->B.get n=e'.get n:=fun n i k=>by
   rw [b.1,AA.jj,az (fun e=>i e.symm),KG,az k]
  have J:∀x,x∈D->x∉q.op.slots->∀e,U.on x e=e:=fun x hxD hxn e=>A.away hxn (fun y hy=>j.no hy hxD) e;have L:C3 q.op U (some C) B e':=by
   refine ⟨fun x u=>.inl (G x (fun e=>l (e▸u)) (fun e=>o x e u)).symm,fun x u r hr=>.inl (G r (fun e=>j.no hr (e▸M)) (fun e=>j.no hr (sD r e))).symm,fun x u _=>(G x (fun e=>l (e▸Bo u)) (fun e=>o x e (Bo u))).symm,?_,fun W d' hd' H=>?_⟩
   .have i:=A.slot;have k:=A.ok;have X:=A.cell;cases U with
    |none=>trivial|slot x t=>
     simp only[A1.ok]at k|-;rw[<-G x (fun e=>l (e▸Bo (i _ _ rfl))) (fun e=>o x e (Bo (i _ _ rfl)))];exact k
    |cell x off t=>
     obtain ⟨ds,h5,h6⟩:=k;refine⟨ds,?_,h6⟩;rw[<-G x (fun e=>?_) (fun e=>?_)]
     .exact h5
     .rcases X _ _ _ rfl with h7|⟨y,_,h8⟩
      .exact l (e▸h7)
      .exact j.no h8 (e▸M)
     .rcases X _ _ _ rfl with h7|⟨y,_,h8⟩
      .exact o x e h7
      .exact j.no h8 (sD x e)
   .rw[b.2,AA.j4,Fd,sc]at H;exact H.2
  have hgq:∀g∈q.tQ,e'.get g=B.get g:=fun g hg=>(G g (fun e=>dng (e▸hg)) (fun e=>sng g e hg)).symm;refine⟨e',E,A.again e' L hgq _ ⟨_,.refl _,T _ (fun n W=>?_) ?_ _ (FA hK ?_)⟩⟩
  .have hne:C≠n:=fun e=>I (e▸W);rw[AA.jj,az hne,A1.get];have hb:=R.slbx n W;have Y:=A.slot;have k2:=L.eff;cases U with
   |none=>rfl|slot s t=>
    simp only[A1.on];rw[az];intro e;subst e;exact Al c3 (Y _ _ rfl) W
   |cell s off t=>
    simp only[A1.on];rw[az];intro e;subst e;obtain⟨cs,k3,_⟩:=k2;exact hb cs k3
  .rw[AA.j4,A1.pc,R.dno,Bool.and_true];refine N9 (fun s he=>?_);rcases A.sE s he with i|⟨x,_,k⟩
   .exact fun e=>Al qb i (e▸M)
   .exact fun e=>j.no k (e▸M)
  .rw[A.rm];have hdd:∀e,U.on d e=e:=J d M l;refine⟨fun m=>?_,fun c=>?_⟩
   .simp only[AA.jj,A1.get,KG,b.1];by_cases i:C=m
    .have z:m∉w:=fun hm=>I (i▸R.sub m hm);have X:¬d=m:=fun e=>hqd (i.trans e.symm);rw[ae i,az X,az z,ae i]
    .rw[az i];by_cases k:d=m
     .subst k;rw[ae rfl,ae rfl,hdd]
     .rw[az k,az k];by_cases z:m∈w
      .rw[ae z,ae z,J m (sD m z) (o m z)]
      .rw[az z,az z,az i]
   .simp only[AA.j4,A1.pc,b.2,Fd,EV.sV,R.uP];cases(match eq.sE with|some s=>c !=s|none=>true)<;>rfl
 .cases a
theorem dc{S:FuncId->Fq->Ap->Prop}{p q:PR}(a:tX p q=true)(h:DQ S K (p::q::rs) O):DQ S K (q::p::rs) O:=by
 unfold tX at a;split at a
 .rename_i F o qs A H I;have i:∀x,x=o\/x∈p.op.slots->x≠A/\x∉q.op.slots:=fun x i=>by
   grind [Al,List.mem_cons_self,List.mem_cons_of_mem]
  obtain ⟨e',E,h⟩:=h;obtain⟨R,w,⟨G,b,M⟩,t⟩:=QR H h;obtain⟨eq,g,Q,j⟩:=QR I M;have J:∀n,n≠o->n∉F->G.get n=e'.get n:=fun n k u=>by
   rw [b.1,AA.jj,az (fun e=>k e.symm),KG,az u]
  have B:∀n∈q.op.slots,e'.get n=G.get n:=fun n l=>(J n (fun e=>(i n (.inl e)).2 l) (fun e=>(i n (.inr (w.sub n e))).2 l)).symm;have C:e'.pc A=true:=by
   have:=g.dno;rw[b.2,AA.j4,Fd,sc]at this;exact this.2
  refine ⟨e',E,j e' B C _ ⟨_,.refl _,t _ (fun n l=>?_) ?_ _ (FA Q ?_)⟩⟩
  .rw[AA.jj,az (fun e=>(i n (.inr l)).1 e.symm),KG,az (fun e=>(i n (.inr l)).2 (g.sub n e))]
  .rw[AA.j4,Fd,w.dno,EV.sV,g.uP];rfl
  .refine⟨fun m=>?_,fun c=>?_⟩
   .simp only[AA.jj,KG,b.1];by_cases k:A=m
    .have u:¬o=m:=fun e=>(i o (.inl rfl)).1 (e.trans k.symm);have L:m∉F:=fun z=>(i m (.inr (w.sub m z))).1 k.symm
     grind
    .rw[az k];by_cases u:o=m
     .have L:m∉qs:=fun z=>(i m (.inl u.symm)).2 (g.sub m z)
      grind
     grind
   .simp only[AA.j4,Fd,b.2,EV.sV,w.uP,g.uP]
 .cases a
end
def AC.ptr:AC->Option Nat
 |.bad s _=>some s|.td (.s m) _=>some m|_=>none
def EV.box2(e e2:EV):Prop:=e2=e\/∃cs cs',e=.bx cs/\e2=.bx cs'
variable{m:Nat}{O:AA}
theorem RY{S:FuncId->Fq->Ap->Prop}{op:AC}{dst:Option Nat}{K:EV->AA->Prop}(ho:op.ptr=some m)(h:op.wp S O dst K):
  ∃e,K e O/\(∀s,e.sE=some s->(s∈op.t7\/(O.get m).sE=some s))/\(∀cs,e≠.bx cs)/\∀env2,(O.get m).box2 (env2.get m)->(∀s,(O.get m).sE=some s->(O.get s).box2 (env2.get s))->∀i:EV->AA->Prop,i e env2->op.wp S env2 dst i:=by
 unfold AC.ptr at ho;split at ho
 .rename_i s k;simp only[se]at ho;subst ho;simp only[AC.wp]at h;split at h
  .rename_i cs b;refine⟨_,h,fun o c=>.inl (by simpa[AC.t7,EV.sE]using c.symm),by simp,fun env2 a _ i g=>?_⟩;have:∃cs',env2.get s=.bx cs':=by
    rcases a with a|⟨_,cs',_,a⟩
    .grind
    .exact⟨cs',a⟩
   obtain ⟨cs',j⟩:=this;simp only[AC.wp,j];exact g
  .rename_i row b;refine⟨_,h,by simp[EV.sE],by simp,fun env2 a _ i g=>?_⟩;rcases a with a|⟨cs,_,a,_⟩
   .simp only[AC.wp,a,b];exact g
   .rw[b]at a;cases a
  .exact h.elim
 .rename_i m' k;simp only[se]at ho;subst ho;simp only[AC.wp,AD.ev]at h;split at h
  .rename_i row b;refine⟨_,h,by simp[EV.sE],by simp,fun env2 a _ i g=>?_⟩;rcases a with a|⟨cs,_,a,_⟩
   .simp only[AC.wp,AD.ev,a,b];exact g
   .rw[b]at a;cases a
  .rename_i s off b;split at h
   .rename_i cs u;refine⟨_,h,fun o c=>.inr (by rw[b];exact c),by simp,fun env2 a j i g=>?_⟩;have t:env2.get m'=.bp s off:=by
     rcases a with a|⟨_,_,a,_⟩
     .rw[a,b]
     grind
    have l:∃cs',env2.get s=.bx cs':=by
     rcases j s (by rw[b];rfl)with j|⟨_,cs',_,j⟩
     .grind
     .exact⟨cs',j⟩
    obtain ⟨cs',l⟩:=l;simp only[AC.wp,AD.ev,t,l];exact g
   .exact h.elim
  .exact h.elim
 .cases ho
def QE(m q s:Nat)(cs:List AI)(off:Nat)(O:AA):AA:=(s,.bx (cs.set off ⟨false,.undef⟩))::(m,.undef)::(q,.undef)::O
theorem Mz{S:FuncId->Fq->Ap->Prop}{m q d:Nat}{K:EV->AA->Prop}(h:(AC.tK m q).wp S O (some d) K):
  ∃e s off cs,O.get m=.nh s off .hd/\O.get s=.bx cs/\(∀cs,O.get q≠.bx cs)/\O.pc d=true/\e.sE=none/\K e (QE m q s cs off O)/\
   ∀env2,env2.get m=O.get m->env2.get q=O.get q->env2.get s=O.get s->env2.pc d=true->∀c:EV->AA->Prop,c e (QE m q s cs off env2)->(AC.tK m q).wp S env2 (some d) c:=by
 simp only[AC.wp]at h;split at h
 .rename_i E s off n F b i j;simp only[se]at b;subst b;split at h
  .rename_i cs k;cases a:O.nat s off with
   |none=>rw[a]at h;exact h.elim|some es=>
    rw [a]at h;simp only[AR]at h;obtain⟨z,⟨A,B⟩,C⟩:=h;refine⟨_,s,off,cs,i,k,by rw[j];simp,A,rfl,C,fun env2 l o g t c u=>?_⟩;have w:env2.nat s off=some es:=by rw[<-a];exact AA.te g
    simp only[AC.wp,l,o,g,i,j,k,w,AR];exact⟨z,⟨t,B⟩,u⟩
  .exact h.elim
 .exact h.elim
def sX(D:Ne)(p q:PR):Bool:=
 match p.op.ptr,p.guard,p.dst,q.op,q.guard,q.dst with
 |some x,none,some dp,.tK m qq,none,some d=>D.contains d&&D.contains dp&&D.contains m&&D.contains qq&&DM [dp] [d,m,qq]&&DM [x] [d,m,qq]&&DM p.op.t7 D&&dp !=x&&PR.sL D p|_,_,_,_,_,_=>false
variable{off:Nat}
theorem Kg{m q s:Nat}{cs:List AI}(n:Nat):AA.get (QE m q s cs off O) n=if s=n then .bx (cs.set off ⟨false,.undef⟩)else if m=n then .undef else if q=n then .undef else O.get n:=rfl
theorem KN{m q s:Nat}{cs:List AI}(c:Nat):AA.pc c (QE m q s cs off O)=AA.pc c O:=by
 simp [QE,AA.j4,EV.sV,EV.sE]
section
variable{S:FuncId->Fq->Ap->Prop}{K:AA->Prop}{D:Ne}
variable{O:AA}{rs:List PR}
theorem dX(Z:JD D O){p q:PR}(a:sX D p q=true)(h:DQ S K (p::q::rs) O):DQ S K (q::p::rs) O:=by
 unfold sX at a;split at a
 .rename_i x g m A d B L M Q R T;simp only[sc,List.contains_eq_mem,tI,bne_iff_ne,ne_eq]at a;obtain⟨⟨⟨⟨⟨⟨⟨⟨W,dpD⟩,mD⟩,qD⟩,G⟩,H⟩,pb⟩,hdx⟩,_⟩:=a;have n1:g≠d:=fun e=>Al G (x:=g) (by simp) (by simp[e]);have U:g≠m:=fun e=>Al G (x:=g) (by simp) (by simp[e]);have n3:g≠A:=fun e=>Al G (x:=g) (by simp) (by simp[e]);have n4:x≠d:=fun e=>Al H (x:=x) (by simp) (by simp[e]);have n5:x≠m:=fun e=>Al H (x:=x) (by simp) (by simp[e]);have n6:x≠A:=fun e=>Al H (x:=x) (by simp) (by simp[e]);obtain⟨e',w,h⟩:=h;have k:=Z.congr w.symm;simp only[PR.wp,L,M,AA.put]at h;obtain⟨e,⟨e1,b,X⟩,hre,I,z⟩:=RY B h;simp only[PR.wp,R,T,Q,AA.put]at X;obtain⟨eq,s,off,cs,k1,J,k3,Y,k5,hK,j⟩:=Mz X;have l:∀n,n≠g->e1.get n=e'.get n:=fun n hn=>by rw[b.1,AA.jj,az (fun e=>hn e.symm)]
  have o:s≠g:=by
   intro hs;subst hs;rw[b.1,AA.jj,ae rfl]at J;exact I cs J
  have C:e'.get m=.nh s off .hd:=by rw[<-l m (fun e=>U e.symm)];exact k1
  have t:e'.get s=.bx cs:=by rw[<-l s o];exact J
  have E:s∉D:=k.no (x:=m) (by rw[C];rfl);have V:s≠d:=fun e=>E (e▸W);have F:e'.pc d=true:=by rw[b.2,AA.j4,sc]at Y;exact Y.2
  refine ⟨e',w,?_⟩;simp only[PR.wp,R,T,Q,AA.put];refine j e' (l m (fun e=>U e.symm)).symm (l A (fun e=>n3 e.symm)).symm (l s o).symm F _ ⟨_,.refl _,?_⟩;simp only[PR.wp,L,M,AA.put];refine z _ ?_ (fun r hr=>?_) _ (FA hK ?_)
  .rw[AA.jj,az (fun e=>n4 e.symm),Kg];by_cases u:s=x
   .subst u;rw[ae rfl];exact .inr ⟨cs,_,t,rfl⟩
   .rw[az u,az (fun e=>n5 e.symm),az (fun e=>n6 e.symm)];exact .inl rfl
  .have i:r∉D:=k.no hr;rw[AA.jj,az (fun(e:d=r)=>i (e▸W)),Kg];by_cases u:s=r
   .subst u;rw[ae rfl];exact .inr ⟨cs,_,t,rfl⟩
   .rw[az u,az (fun(e:m=r)=>i (e▸mD)),az (fun(e:A=r)=>i (e▸qD))];exact .inl rfl
  .refine⟨fun n=>?_,fun c=>?_⟩
   .simp only[AA.jj,Kg,b.1]
    grind
   .simp only[AA.j4,KN,b.2,EV.sV,k5]
    grind
 .cases a
theorem dW(W:JD D O){p q:PR}(a:sX D q p=true)(h:DQ S K (p::q::rs) O):DQ S K (q::p::rs) O:=by
 unfold sX at a;split at a
 .rename_i x g m z d A H I J L M;simp only[sc,List.contains_eq_mem,tI,bne_iff_ne,ne_eq]at a;obtain⟨⟨⟨⟨⟨⟨⟨⟨R,C⟩,mD⟩,qD⟩,E⟩,F⟩,qb⟩,hdx⟩,_⟩:=a;have n1:g≠d:=fun e=>Al E (x:=g) (by simp) (by simp[e]);have n2:g≠m:=fun e=>Al E (x:=g) (by simp) (by simp[e]);have n3:g≠z:=fun e=>Al E (x:=g) (by simp) (by simp[e]);have n4:x≠d:=fun e=>Al F (x:=x) (by simp) (by simp[e]);have n5:x≠m:=fun e=>Al F (x:=x) (by simp) (by simp[e]);have n6:x≠z:=fun e=>Al F (x:=x) (by simp) (by simp[e]);obtain⟨e',o,h⟩:=h;have j:=W.congr o.symm;simp only[PR.wp,L,M,J,AA.put]at h;obtain⟨ep,s,off,cs,k1,k2,k3,k4,T,⟨U,b,V⟩,t⟩:=Mz h;simp only[PR.wp,H,I,AA.put]at V;obtain⟨e,hK,G,hnb,i⟩:=RY A V;have k:s∉D:=j.no (x:=m) (by rw[k1];rfl);have hsd:s≠d:=fun e=>k (e▸R);have g1:∀n,n≠d->n≠m->n≠z->(U.get n).box2 (e'.get n):=by
   intro n u X Y;rw[b.1,AA.jj,az (fun e=>u e.symm),Kg];by_cases Q:s=n
   .subst Q;rw[ae rfl];exact .inr ⟨_,cs,rfl,k2⟩
   .rw[az Q,az (fun e=>X e.symm),az (fun e=>Y e.symm)];exact .inl rfl
  have l:JD D U:=by
   intro y Z;rw[b.2,AA.j4,KN,EV.sV,T];exact j y Z
  refine ⟨e',o,?_⟩;simp only[PR.wp,H,I,AA.put];refine i e' (g1 x n4 n5 n6) (fun r w=>?_) _ ⟨_,.refl _,?_⟩
  .have hrD:r∉D:=l.no w
   grind
  .simp only[PR.wp,L,M,J,AA.put];have B:s≠g:=fun e=>k (e▸C);refine t _ (by rw[AA.jj,az n2]) (by rw[AA.jj,az n3]) (by rw[AA.jj,az (fun e=>B e.symm)]) ?_ _ (FA hK ?_)
   .rw[AA.j4,k4,Bool.and_true];refine N9 (fun r w=>?_);rcases G r w with u|u
    .grind[Al]
    .exact fun(e:r=d)=>l.no u (e▸R)
   .refine⟨fun n=>?_,fun c=>?_⟩
    .simp only[AA.jj,Kg,b.1]
     grind
    .simp only[AA.j4,KN,b.2,EV.sV,T]
     grind
 .cases a
end
def uo(p:PR):Bool:=p.tk.isSome||(match p.op,p.guard,p.dst with|.tK _ _,none,some _=>true|_,_,_=>false)
variable{O:AA}
theorem Sx{S:FuncId->Fq->Ap->Prop}{p:PR}{K:AA->Prop}(ho:uo p=true)(h:p.wp S O K):∃rm,K rm/\(∀c,rm.pc c=O.pc c)/\∀b:AA->Prop,b rm->p.wp S O b:=by
 simp only[uo,Bool.or_eq_true]at ho;rcases ho with ho|ho
 .obtain⟨⟨qs,d⟩,i⟩:=Option.isSome_iff_exists.1 ho;obtain⟨e,g,j,a⟩:=QR i h;exact⟨_,j,fun c=>by rw[AA.j4,Fd,EV.sV,g.uP];rfl,a O (fun _ _=>rfl) g.dno⟩
 grind [PR.wp,AA.put,Mz,AA.j4,KN,EV.sV]
theorem U2{D:Ne}{p q:PR}(h:sW D q p=true):uo p=true:=by grind[sW,uo]
theorem TX{D:Ne}{p q:PR}(h:sW D p q=true):PR.sL D p=true:=by
 unfold sW at h
 grind
theorem U5{p q:PR}(h:tX p q=true):uo p=true:=by grind[tX,uo]
theorem TY{D:Ne}{p q:PR}(h:sX D p q=true):PR.sL D p=true:=by
 unfold sX at h
 grind
theorem U3{D:Ne}{p q:PR}(h:sX D q p=true):uo p=true:=by grind[sX,uo]
end Go.Sf
namespace Go.Sf
open Go.RowKit (Below)
def Ja(rs:List PR)(i:Nat):PR:=(rs[i]?).getD ⟨none,.uq 0,none⟩
def uY(p:PR):Bool:=match p.op,p.guard,p.dst with
 |.sZ _,none,some _=>true|_,_,_=>false
def t1(p q:PR):Bool:=match p.op,p.guard,p.dst,q.op,q.guard,q.dst with
 |.sZ gs,none,some dp,.uV _,none,some dq=>dp !=dq&&!(gs.flatMap GC.sl).contains dq|_,_,_,_,_,_=>false
theorem U1{p q:PR}(h:t1 p q=true):uY p=true:=by grind[t1,uY]
def PG(p:PR):Bool:=match p.op,p.guard,p.dst with
 |.st _ (.s _) _,none,none=>true|.uB _ _ _,none,none=>true|_,_,_=>false
def tV(D:Ne)(p q:PR):Bool:=match p.op,p.guard,p.dst,q.op,q.guard,q.dst with
 |.uB x v _,none,none,.vC (.s _) _ _,none,some d=>D.contains d&&!x.sl.contains d&&!v.sl.contains d|_,_,_,_,_,_=>false
def Mn(D:Ne)(p q:PR):Bool:=match p.op,p.guard,p.dst,q.op,q.guard,q.dst with
 |.st _ (.s x) v,none,none,.bad m _,none,some d=>D.contains d&&d !=x&&d !=m&&!v.sl.contains d&&!v.sl.contains m|.st _ (.s x) v,none,none,.td (.s m) _,none,some d=>D.contains d&&d !=x&&d !=m&&!v.sl.contains d&&!v.sl.contains m|_,_,_,_,_,_=>false
theorem U0{D:Ne}{p q:PR}(h:Mn D p q=true):PG p=true:=by grind[Mn,PG]
theorem U4{D:Ne}{p q:PR}(h:tV D p q=true):PG p=true:=by grind[tV,PG]
def AC.vops:AC->Option (List AD)
 |.len x=>some [x]|.mm _ x y=>some [x,y]|.tR _ x lo hi=>some (x::(lo.toList++hi.toList))|.bin _ _ x y=>some [x,y]|.vp _ x=>some [x]|.vK x _=>some [x]|.vJ x _=>some [x]|_=>none
def uf(D:Ne)(p q:PR):Bool:=match p.op.vops,p.guard,p.dst,q.op,q.guard,q.dst with
 |some xs,none,some d,.st _ (.s x) v,none,none=>PR.sL D p&&d !=x&&!v.sl.contains d&&DM (xs.flatMap AD.sl) v.sl|_,_,_,_,_,_=>false
def uj(D:Ne)(p q:PR):Bool:=match p.op,p.guard,p.dst,q.op,q.guard,q.dst with
 |.vR b _,none,some d,.st _ (.s x) v,none,none=>PR.sL D p&&D.contains b&&b !=x&&d !=x&&d !=b&&!v.sl.contains d&&!v.sl.contains b|.bad b _,none,some d,.st _ (.s x) v,none,none=>PR.sL D p&&d !=x&&!v.sl.contains d&&!v.sl.contains b|_,_,_,_,_,_=>false
def tZ(D:Ne)(p q:PR):Bool:=QG D p q||tW D p q||t1 p q||ui D p q||uh D p q||(Mn D p q||tV D p q)||uf D p q||uj D p q||(sW D p q||sW D q p||tX p q||sX D p q||sX D q p)
def okQ(p:PR):Bool:=match p.op,p.guard,p.dst with
 |.uR _,none,some _=>true|.ue _ _ _ _,none,some _=>true|_,_,_=>false
theorem TW{D:Ne}{p q:PR}(h:tZ D p q=true):((PR.sL D p=true\/uY p=true)\/PG p=true)\/uo p=true:=by
 simp [tZ]at h;rcases h with(((((((h|h)|h)|h)|h)|h)|h)|h)|((((h|h)|h)|h)|h)
 rotate_right 5
 .grind[TX]
 .exact .inr (U2 h)
 .exact .inr (U5 h)
 .grind[TY]
 .exact .inr (U3 h)
 all_goals refine .inl ?_
 .simp[QG]at h
  grind
 .unfold tW at h
  grind
 .grind[U1]
 .unfold ui at h
  grind
 .unfold uh at h
  grind
 .grind[U0,U4]
 .unfold uf at h
  grind
 .unfold uj at h
  grind
def Y6(ops:Array Oper):Ne:=
 ops.toList.foldl (fun acc o=>acc++[o.after.toList.foldl (fun m e=>if Region.binds .any e then m|||(1<<<e.on)|||acc.getD e.on 0 else m) 0]) []
def okCa(p:PR):Bool:=match p.op,p.guard,p.dst with
 |.tG _ _ _,none,some _=>true|_,_,_=>false
variable{O:AA}
theorem Xe{S:FuncId->Fq->Ap->Prop}{p:PR}{K:AA->Prop}(ho:okCa p=true)(h:p.wp S O K):p.wp S O fun rm=>K rm/\∀c,rm.pc c=O.pc c:=by
 unfold okCa at ho;split at ho
 .rename_i f args i d g j k;simp[PR.wp,g,j,k,AC.wp,AA.put]at h|-;split at h
  .rename_i t q a u;simp at a;subst a;split at h
   .rename_i cs w;refine⟨h.1,?_⟩;cases hv:FC O i args with
    |none=>rw[hv]at h;exact h.2.elim|some z=>
     rw [hv]at h;obtain⟨_,r,l,o⟩:=h;refine⟨r,l,fun b=>⟨o b,fun c=>?_⟩⟩;have:EV.sV c r.uI=true:=by cases r<;>rfl
     rw [AA.j4,AA.j4,this];rfl
   .exact h.elim
  .exact h.elim
 .cases ho
def Sw(D:Ne)(r:PR):Bool:=
 I8 r.op||uY r||okQ r||uo r||okCa r||(r.op.mov&&r.dst.isSome&&(!r.op.sg||r.guard.isNone)&&DM r.op.t7 D)
def OB(P:Program)(N:Nat)(D:Ne)(ops:Array Oper)(rs:List PR):Bool:=
 let n:=ops.size
 let M:=Y6 ops
 Ik P N ops ops.toList rs&&(List.range n).all (fun i=>Sw D (Ja rs i)) &&
 (List.range n).all (fun i=>match ops[i]? with
  |some o=>o.after.toList.all fun e=>!Region.binds .any e||decide (e.on<i)|none=>false) &&
 (List.range n).all (fun i=>(List.range n).all fun j=>!(M.getD i 0).testBit j||(match ops[i]? with
  |some o=>o.after.toList.any fun e=>Region.binds .any e&&(e.on==j||(decide (e.on<i)&&(M.getD e.on 0).testBit j))|none=>false)) &&
 (List.range n).all (fun i=>(List.range i).all fun j=>(M.getD i 0).testBit j||tZ D (Ja rs j) (Ja rs i))
section
variable{P:Program}{F0:Nat->Nat->Prop}{w0:W0}{N:Nat}{p:Option (Nat×Value)}{ops:Array Oper}{K:AA->Prop}{D:Ne}
variable{f:A1}{d:Option Nat}{O:AA}
theorem C3.refl{op:AC}(h:f.ok O):C3 op f d O O:=
 ⟨fun _ _=>.inl rfl,fun _ _ _ _=>.inl rfl,fun _ _ _=>rfl,h,fun _ _ _ h=>h⟩
theorem H7(d:Nat)(a:AA):∀(qs:Ne)(O:AA),AA.pc d (Km a qs O)=AA.pc d O
 |[],_=>rfl|q::qs,O=>by
  rw [Km,AA.j4,H7 d a qs O]
  grind [H5,EV.sV,EV.sE]
theorem Zq(d:Nat)(e:EV)(O:AA)(g:GC)(h:d∉g.sl):GC.cell ((d,e)::O) g=g.cell O:=by
 cases g with
 |z c=>rfl|v x k n=>
  cases x with
  |s q=>
   grind [GC.sl,List.mem_singleton,GC.cell,AD.val,AD.ev,AA.jj]
  |c t=>rfl
 |w q=>
  grind [GC.sl,List.mem_singleton,GC.cell,AA.jj]
 |g q k n=>
  grind [GC.sl,List.mem_singleton,GC.cell,AA.jj]
theorem Sg(d:Nat)(e:EV)(O:AA):∀(gs:List GC),d∉gs.flatMap GC.sl->FW ((d,e)::O) gs=FW O gs
 |[],_=>rfl|g::gs,h=>by
  rw [List.flatMap_cons,List.mem_append,not_or]at h;simp[FW,Zq d e O g h.1,Sg d e O gs h.2]
variable{gs:List GC}
theorem aT{q:Nat}(h:q∈gs.filterMap GC.slot):q∈gs.flatMap GC.sl:=by
 rw [List.mem_filterMap]at h;obtain⟨g,a,e⟩:=h;rw[List.mem_flatMap];refine⟨g,a,?_⟩;cases g<;>simp[GC.slot]at e<;>simp[GC.sl,e]
theorem O5{S:FuncId->Fq->Ap->Prop}{p:PR}{K:AA->Prop}{d:Nat}(c:p.op=.sZ gs)(g:p.guard=none)(i:p.dst=some d)(h:p.wp S O K):
  ∃cs,((gs.filterMap GC.src).Nodup/\d∉gs.filterMap GC.slot)/\FW O gs=some cs/\K ((d,.sO cs)::Km O (gs.filterMap GC.slot) O):=by
 simp only[PR.wp,c,g,i,AC.wp,AA.put]at h;obtain⟨j,b⟩:=h;cases a:FW O gs with
 |none=>rw[a]at b;exact b.elim|some k=>rw[a]at b;exact⟨k,j,rfl,b⟩
theorem M1{S:FuncId->Fq->Ap->Prop}{p:PR}{K:AA->Prop}{d:Nat}{cs:List AI}(b:p.op=.sZ gs)(c:p.guard=none)(g:p.dst=some d)(i:(gs.filterMap GC.src).Nodup/\d∉gs.filterMap GC.slot)(a:FW O gs=some cs)
  (h:K ((d,.sO cs)::Km O (gs.filterMap GC.slot) O)):p.wp S O K:=by
 simp only[PR.wp,b,c,g,AC.wp,AA.put,a];exact⟨i,h⟩
variable{q:PR}{v:AD}
theorem N0{S:FuncId->Fq->Ap->Prop}{K:AA->Prop}{n x:Nat}(a:q.op=.st n (.s x) v)(k:q.guard=none)(hd:q.dst=none)(h:q.wp S O K):
  ∃s off cs cs' o,(AD.s x).place O=some (s,off)/\O.get s=.bx cs/\(∀g e,o=some (g,e)->v=.s g/\(∃t,e=.tv t)/\g≠s)/\K (J1 s cs' o O)/\
   ∀env2,(AD.s x).place env2=some (s,off)->env2.get s=.bx cs->v.ev env2=v.ev O->∀i:AA->Prop,i (J1 s cs' o env2)->q.wp S env2 i:=by
 unfold PR.wp at h;rw[k,a,hd]at h;simp[AC.wp]at h;split at h
 .rename_i s off w;split at h
  .rename_i cs z;split at h
   .rename_i t hv;cases v with
    |c t=>exact h.elim|s g=>
     simp only at h;simp[AD.ev]at hv;refine⟨s,off,cs,_,some (g,.tv t),w,z,?_,h.2.2.2,fun env2 l u j i b=>?_⟩
     .intro A B he;simp at he;obtain⟨rfl,rfl⟩:=he;exact⟨rfl,⟨t,rfl⟩,h.1⟩
     .simp[AD.ev]at j;unfold PR.wp;rw[k,a,hd];simp[AC.wp,l,u,AD.ev,j,hv];exact⟨h.1,h.2.1,h.2.2.1,b⟩
   .rename_i t hv;refine⟨s,off,cs,_,none,w,z,by simp,h.2.2,fun env2 l u j i b=>?_⟩;unfold PR.wp;rw[k,a,hd];simp[AC.wp,l,u,j,hv];exact⟨h.1,h.2.1,b⟩
   .exact h.elim
  .exact h.elim
 .exact h.elim
variable{e':AA}
theorem jR{p:PR}{o:Oper}(ho:Ie P N ops o p=true){K:AA->Prop}(g:((PR.sL D p=true\/uY p=true)\/PG p=true)\/uo p=true)(H:IZ F0 w0 N e')(I:JD D e')(h:p.wp (AJ P) e' K):
  ∃rm,K rm/\IZ F0 w0 N rm/\JD D rm/\∀b:AA->Prop,b rm->p.wp (AJ P) e' b:=by
 rcases g with((g|g)|g)|g
 rotate_right
 .obtain⟨rm,⟨l,Q,R⟩,a⟩:=Dt (K:=fun rm=>K rm/\(∀c,rm.pc c=e'.pc c)/\∀b:AA->Prop,b rm->p.wp (AJ P) e' b) H ho (by
   grind [Sx])
  exact ⟨rm,l,a,fun d hd=>by rw[Q];exact I d hd,R⟩
 .simp[PR.sL,Bool.not_eq_true']at g;obtain⟨⟨⟨⟨X,Y⟩,Z⟩,pb⟩,pD⟩:=g;obtain⟨dp,T⟩:=Option.isSome_iff_exists.1 Y;have M:p.op.sg=true->p.guard=none:=fun V=>by
   rcases Z with h|h
   .rw[V]at h;cases h
   .simpa using h
  obtain ⟨rm,⟨l,ep,fp,L⟩,a⟩:=Dt H ho (Kd T X M h);exact⟨rm,l,a,L.jd pb I,fun b j=>L.again e' (.refl L.ok) (fun _ _=>rfl) _ (by rw[<-L.rm];exact j)⟩
 .unfold uY at g;split at g
  .rename_i gs d A B C;obtain⟨rm,l,a⟩:=Dt (K:=fun rm=>K rm/\∃cs,((gs.filterMap GC.src).Nodup/\d∉gs.filterMap GC.slot)/\FW e' gs=some cs/\rm=(d,.sO cs)::Km e' (gs.filterMap GC.slot) e') H ho (by
    obtain ⟨ts,w,z,E⟩:=O5 A B C h
    grind [M1])
   obtain ⟨l,ts,w,z,rfl⟩:=l;refine⟨_,l,a,fun x U=>?_,fun b j=>M1 A B C w z j⟩;rw[AA.j4,H7,I x U];rfl
  .cases g
 .unfold PG at g;split at g
  .rename_i n x v A B C;obtain⟨rm,⟨l,s,off,cs,cs',o',w,F,z,E,G⟩,a⟩:=Dt (K:=fun rm=>K rm/\∃s off cs cs' o,(AD.s x).place e'=some (s,off)/\e'.get s=.bx cs/\(∀J e,o=some (J,e)->v=.s J/\(∃t,e=EV.tv t)/\J≠s)/\rm=J1 s cs' o e'/\
     ∀b:AA->Prop,b (J1 s cs' o e')->p.wp (AJ P) e' b) H ho (by
    obtain ⟨s,off,cs,cs',o,w,F,z,E,G⟩:=N0 A B C h;exact G e' w F rfl _ ⟨E,s,off,cs,cs',o,w,F,z,rfl,fun b j=>G e' w F rfl b j⟩)
   subst E;refine⟨_,l,a,fun d hd=>?_,G⟩;rw[Du _ _ _ _ _ (fun J e he=>by
    obtain ⟨_,⟨t,rfl⟩,_⟩:=z J e he;rfl)]
   exact I d hd
  .rename_i x v k A B C;obtain⟨rm,⟨l,Q,R⟩,a⟩:=Dt (K:=fun rm=>K rm/\(∀c,rm.pc c=e'.pc c)/\∀b:AA->Prop,b rm->p.wp (AJ P) e' b) H ho (by
    simp [PR.wp,A,B,C,AC.wp,AA.put]at h|-;split at h
    .rename_i q i c U;split at h
     .rename_i n es u W hu;obtain⟨w,F,es',z,E,G,h7⟩:=h;refine⟨w,F,es',z,E,G,h7,fun c=>(KJ (es':=es') W).2.2 c,fun b j=>?_⟩
      grind
     .exact h.elim
    .exact h.elim)
   exact ⟨rm,l,a,fun d hd=>by rw[Q];exact I d hd,R⟩
  .cases g
variable{rs:List PR}
theorem dR{p q:PR}(a:t1 p q=true)(h:DQ (AJ P) K (p::q::rs) O):DQ (AJ P) K (q::p::rs) O:=by
 unfold t1 at a;split at a
 .rename_i gs G cs A j k l o t u;simp only[sc,bne_iff_ne,ne_eq,Bool.not_eq_true',List.contains_eq_mem,decide_eq_false_iff_not]at a;obtain⟨C,w⟩:=a;obtain⟨e',g,h⟩:=h;obtain⟨H,E,F,x,i,c⟩:=O5 j k l h;simp[PR.wp,o,t,u,AC.wp,AA.put]at c;obtain⟨b,c⟩:=c;rw[i.2,AA.j4,H7]at b;simp[EV.sV,EV.sE]at b;refine⟨e',g,?_⟩;simp[PR.wp,o,t,u,AC.wp,AA.put];refine⟨b,_,.refl _,M1 j k l E (by rw[Sg _ _ _ _ w];exact F) (FA c ?_)⟩;have B:A∉gs.filterMap GC.slot:=fun z=>w (aT z);refine⟨fun n=>?_,fun d=>?_⟩
  .rw[AA.jj,i.1,AA.jj,AA.jj,Gb,Gb]
   grind [AA.jj]
  .rw[AA.j4,i.2,AA.j4,AA.j4,H7,H7,AA.j4]
   grind
 .cases a
variable{rm:AA}
theorem Vh{S:FuncId->Fq->Ap->Prop}{K:AA->Prop}{m d s:Nat}{cs cs':List AI}{o:Option (Nat×EV)}(a:(∃k,q.op=.bad m k)\/∃k,q.op=.td (.s m) k)(g:q.guard=none)(hd:q.dst=some d)(A:O.get s=.bx cs)(ho:∀z e,o=some (z,e)->(∃t,e=.tv t)/\z≠m)
  (he:∀n,rm.get n=(J1 s cs' o O).get n)(h:q.wp S rm K):∃e,K ((d,e)::rm)/\∀i:AA->Prop,i ((d,e)::O)->q.wp S O i:=by
 have u:rm.get m=if s=m then .bx cs' else O.get m:=by
  grind [DP]
 have C:∀r c,rm.get r=.bx c->∃l,O.get r=.bx l:=by
  grind [DP]
 unfold PR.wp at h;rcases a with⟨k,a⟩|⟨k,a⟩
 .rw[g,a,hd]at h;simp[AC.wp,AA.put]at h;by_cases e:s=m
  .rw[u,ae e]at h;refine⟨_,h,fun i b=>?_⟩;unfold PR.wp;rw[g,a,hd];simp[AC.wp,<-e,A,AA.put];rw[<-e]at b;exact b
  .rw[u,az e]at h;split at h
   .rename_i c j;refine⟨_,h,fun i b=>?_⟩;unfold PR.wp;rw[g,a,hd];simp[AC.wp,j,AA.put];exact b
   .rename_i row j;refine⟨_,h,fun i b=>?_⟩;unfold PR.wp;rw[g,a,hd];simp[AC.wp,j,AA.put];exact b
   .exact h.elim
 .rw[g,a,hd]at h;simp[AC.wp,AA.put,AD.ev]at h;by_cases e:s=m
  .rw[u,ae e]at h;exact h.elim
  .rw[u,az e]at h;split at h
   .rename_i row j;refine⟨_,h,fun i b=>?_⟩;unfold PR.wp;rw[g,a,hd];simp[AC.wp,AD.ev,j,AA.put];exact b
   .rename_i r off j;split at h
    .rename_i c B;obtain⟨l,w⟩:=C r c B;refine⟨_,h,fun i b=>?_⟩;unfold PR.wp;rw[g,a,hd];simp[AC.wp,AD.ev,j,w,AA.put];exact b
    .exact h.elim
   .exact h.elim
theorem dQ{p q:PR}(C:JD D O)(b:Mn D p q=true)(h:DQ (AJ P) K (p::q::rs) O):DQ (AJ P) K (q::p::rs) O:=by
 have key:∃n x v m d,p.op=.st n (.s x) v/\p.guard=none/\p.dst=none/\((∃k,q.op=.bad m k)\/∃k,q.op=.td (.s m) k)/\q.guard=none/\q.dst=some d/\d∈D/\d≠x/\d∉v.sl/\m∉v.sl:=by
  unfold Mn at b
  grind
 obtain ⟨n,x,v,m,d,F,G,H,I,J,L,M,Q,R,T⟩:=key;obtain⟨e',g,h⟩:=h;have j:=C.congr g.symm;obtain⟨s,off,cs,cs',o,i,B,U,⟨y,u,V⟩,W⟩:=N0 F G H h;have l:d≠s:=by
  intro e;subst e;simp[AD.place]at i;split at i
  .rename_i r w E;simp at i;exact j.no (x:=x) (s:=d) (by rw[E,<-i.1];rfl) M
  .grind
  .cases i
 have ho:∀a e,o=some (a,e)->(∃t,e=EV.tv t)/\a≠m:=fun a e he=>by
  grind [AD.sl]
 obtain ⟨e,X,Y⟩:=Vh (cs':=cs') (o:=o) (O:=e') I J L B ho u.1 V;refine⟨e',g,Y _ ⟨_,.refl _,W ((d,e)::e') ?_ (by rw[AA.jj,az l];exact B) ?_ _ (FA X ?_)⟩⟩
 .grind[AD.place,AA.jj]
 .cases v with
  |c t=>rfl|s a=>
   grind [AD.ev,AA.jj,AD.sl]
 .refine⟨fun z=>?_,fun z=>?_⟩
  .rw[AA.jj,u.1,DP,DP]
   grind [AA.jj,AD.sl]
  .have A:∀a e,o=some (a,e)->e.sV z=true:=fun a e he=>by
    obtain ⟨_,⟨t,rfl⟩,_⟩:=U a e he;rfl
   rw [AA.j4,u.2,Du _ _ _ _ _ A,Du _ _ _ _ _ A,AA.j4]
variable{n m:Nat}
theorem Yq{e' h:AA}{c:Nat}{o:Option Nat}{es es':Fq}(a:e'.sf c o=some (n,es))(F:es'.length=es.length)(he:∀z,h.get z=AA.get (e'.sI c o n es') z){y q:Nat}{i:Option Nat}{l:Fq}
  (H:h.get y=.la q i)(b:h.sf q i=some (m,l)):e'.get y=.la q i/\∃fs',e'.sf q i=some (m,fs')/\fs'.length=l.length:=by
 obtain ⟨⟨u,I,A⟩,ho,_⟩:=KJ (es':=es') a;have t:c≠y:=by
  grind
 refine ⟨by rw[<-H,he,ho _ t],?_⟩;by_cases G:c=q
 .subst G;cases o with
  |none=>
   have g:h.get c=.xo n es':=by rw[he];simp[AA.sI,AA.jj]
   cases i with
   |none=>
    simp [AA.sf,g]at b;obtain⟨rfl,rfl⟩:=b;exact⟨es,a,F.symm⟩
   |some k=>simp[AA.sf,g]at b
  |some E=>
   rcases A with⟨mm,M,J,_⟩|⟨cs,k,L,B,C,rfl⟩
   .simp[AA.sf,J]at a
   .cases L;have g:h.get c=.bx (cs.set E ⟨true,.xl n es'⟩):=by rw[he,I]
    cases i with
    |none=>simp[AA.sf,g]at b|some k=>
     by_cases j:E=k
     .subst j;have w:E<cs.length:=(List.getElem?_eq_some_iff.1 B).1;simp[AA.sf,g,List.getElem?_set,ae w]at b;obtain⟨rfl,rfl⟩:=b;exact⟨es,a,F.symm⟩
     .refine⟨l,?_,rfl⟩;rw[<-b];simp[AA.sf,g,C,List.getElem?_set,az j]
 .exact⟨l,by rw[<-b];exact AA.sS (by rw[he,ho _ G]),rfl⟩
theorem da{p q:PR}(hj:JD D O)(a:tV D p q=true)(h:DQ (AJ P) K (p::q::rs) O):DQ (AJ P) K (q::p::rs) O:=by
 unfold tV at a;split at a
 .rename_i x v k y z m d e1 e2 e3 f1 f2 f3;simp[Bool.not_eq_true',decide_eq_false_iff_not,tI]at a;obtain⟨⟨dD,Y⟩,Z⟩:=a;obtain⟨e',M,h⟩:=h;have V:=hj.congr M.symm;simp only[PR.wp,e1,e2,e3,AC.wp,AA.put]at h;split at h
  .rename_i U i0 c R;split at h
   .rename_i n es u B hu;obtain⟨h1,h2,es',h3,h4,h5,rm,A,b⟩:=h;have G:d≠U:=by
     rintro rfl;cases x with
     |c t=>cases R
     |s xs=>exact V.no (x:=xs) (s:=d) (by simp[AD.ev]at R;rw[R];rfl) dD
    simp [PR.wp,f1,f2,f3,AC.wp,AA.put,AD.sv]at b;have T:=A.1;obtain⟨⟨w,hw,hww⟩,ho,_⟩:=KJ (es':=es') B;have W:w.val=none:=by rcases hww with⟨_,_,_,_,_,rfl⟩|⟨_,_,_,_,_,rfl⟩<;>rfl
    have X:∀t,z.val rm=some t->z.val e'=some t:=by
     intro t E;cases z with
     |c t'=>exact E|s zz=>
      simp [AD.val,AD.ev]at E|-;by_cases l:U=zz
      .subst l;rw[T,hw,W]at E;cases E
      .rw[T,ho _ l]at E;exact E
    have H:∃g i F j Q,rm.get y=.la g i/\rm.sf g i=some (m,F)/\z.val rm=some (.int Q j)/\0<=j/\j<F.length/\DQ (AJ P) K rs ((d,.lp g i (j.toNat*m))::rm):=by
     cases I:rm.get y<;>rw[I]at b<;>simp[AR]at b<;>try exact b.elim
     .cases l:z.val rm with
      |none=>rw[l]at b;exact b.elim|some t=>
       rw [l]at b;cases t<;>try exact b.elim
       have:=b.1.1;simp[AD.ev,I,EV.sE]at this
     .rename_i g i;cases C:rm.sf g i with
      |none=>rw[C]at b;exact b.elim|some pp=>
       obtain ⟨m',F⟩:=pp;rw[C]at b;simp only at b;cases l:z.val rm with
       |none=>rw[l]at b;exact b.elim|some t=>
        rw [l]at b;cases t<;>try exact b.elim
        rename_i Q j;obtain⟨⟨_,rfl⟩,k1,k2,k3⟩:=b;exact⟨g,i,F,j,Q,rfl,C,rfl,k1,k2,k3⟩
    obtain ⟨g,i,F,j,Q,m1,m2,m3,m4,m5,m6⟩:=H;obtain⟨n1,fs',n2,n3⟩:=Yq B h4 T m1 m2;refine⟨e',M,?_⟩;simp only[PR.wp,f1,f2,f3,AC.wp,AA.put,AD.sv,n1,n2,AR,X _ m3,AD.ev,EV.sE];refine⟨⟨trivial,trivial⟩,m4,by rw[n3];exact m5,_,.refl _,?_⟩;have J:∀(o:AD),d∉o.sl->o.ev ((d,.lp g i (j.toNat*m))::e')=o.ev e':=by
     intro o ho;cases o with
     |c t=>rfl|s t=>
      simp only[AD.ev,AA.jj];rw[az];intro e;exact ho (by simp[AD.sl,e])
    simp only[PR.wp,e1,e2,e3,AC.wp,AA.put,J x Y,J v Z,R,hu];have L:AA.sf ((d,.lp g i (j.toNat*m))::e') U i0=some (n,es):=by rw[AA.sM G];exact B
    rw [L];refine⟨h1,h2,es',h3,h4,h5,FA m6 ?_⟩;refine I5.symm (I5.trans (Rj (.refl _) G) ⟨fun s=>?_,fun s=>?_⟩)
    .simp[AA.jj,T]
    .simp[AA.j4,A.2]
   .exact h.elim
  .exact h.elim
 .cases a
theorem SR{O env2:AA}{b:Nat}{o:Option AD}(h:∀y∈o.toList,y.val env2=y.val O):Df env2 b o=Df O b o:=by
 cases o with
 |none=>rfl|some y=>simp[Df];exact h y (by simp)
theorem dg{S:FuncId->Fq->Ap->Prop}{p:AC}{xs:List AD}{K:EV->AA->Prop}(B:p.vops=some xs)(h:p.wp S O d K):
  ∃t,K (.tv t) O/\(∀x∈xs,∃u,x.val O=some u)/\∀env2,(∀x∈xs,x.val env2=x.val O)->∀j:EV->AA->Prop,j (.tv t) env2->p.wp S env2 d j:=by
 cases p<;>simp[AC.vops]at B<;>first|cases B|skip
 case bin k op x y=>
  simp [AC.wp]at h;split at h
  .rename_i a b g w;cases A:C6 k op a b with
   |none=>rw[A]at h;exact h.elim|some t=>
    rw [A]at h;refine⟨t,h,fun z c=>?_,fun env2 he j i=>?_⟩
    .simp at c;rcases c with rfl|rfl
     .exact⟨a,g⟩
     .exact⟨b,w⟩
    .simp[AC.wp,he x (by simp),he y (by simp),g,w,A];exact i
  .exact h.elim
 case vK x k=>
  simp [AC.wp]at h;split at h
  .rename_i row g;refine⟨_,h,fun z c=>?_,fun env2 he j i=>?_⟩
   .rw[List.mem_singleton]at c;subst c;exact⟨_,g⟩
   .simp[AC.wp,he x (by simp),g];exact i
  .exact h.elim
 case vJ x k=>
  simp [AC.wp]at h;split at h
  .rename_i row g;refine⟨_,h.2,fun z c=>?_,fun env2 he j i=>?_⟩
   .rw[List.mem_singleton]at c;subst c;exact⟨_,g⟩
   .simp[AC.wp,he x (by simp),g];exact⟨h.1,i⟩
  .exact h.elim
 case len x=>
  simp [AC.wp]at h;split at h
  .rename_i n es g;refine⟨_,h,fun z c=>?_,fun env2 he j i=>?_⟩
   .rw[List.mem_singleton.1 c];exact⟨_,g⟩
   .simp[AC.wp,he x (by simp),g];exact i
  .exact h.elim
 case vp k x=>
  simp [AC.wp]at h;split at h
  .rename_i H n g;refine⟨_,h,fun z c=>?_,fun env2 he j i=>?_⟩
   .rw[List.mem_singleton.1 c];exact⟨_,g⟩
   .simp[AC.wp,he x (by simp),g];exact i
  .exact h.elim
 case mm b x y=>
  simp [AC.wp]at h;split at h
  .rename_i k a H a' g w;refine⟨_,h.2,fun z c=>?_,fun env2 he j i=>?_⟩
   .simp at c;rcases c with rfl|rfl
    .exact⟨_,g⟩
    .exact⟨_,w⟩
   .simp[AC.wp,he x (by simp),he y (by simp),g,w];exact⟨h.1,i⟩
  .exact h.elim
 case tR n x lo hi=>
  simp [AC.wp]at h;split at h
  .rename_i m es g;split at h
   .rename_i C l E r F G;refine⟨_,h.2.2,fun z c=>?_,fun env2 he j i=>?_⟩
    .simp at c;rcases c with rfl|c|c
     .exact⟨_,g⟩
     .cases c;exact⟨_,F⟩
     .cases c;exact⟨_,G⟩
    .have C:Df env2 0 lo=Df O 0 lo:=SR (fun y o=>he y (by simp at o|-;exact .inr (.inl o)));have E:Df env2 es.length hi=Df O es.length hi:=SR (fun y o=>he y (by simp at o|-;exact .inr (.inr o)));simp[AC.wp,he x (by simp),g,C,E,F,G];exact⟨h.1,h.2.1,i⟩
   .exact h.elim
  .exact h.elim
theorem dZ{p q:PR}(a:uf D p q=true)(h:DQ (AJ P) K (p::q::rs) O):DQ (AJ P) K (q::p::rs) O:=by
 unfold uf at a;split at a
 .rename_i xs d n x v U Q R V W X;simp[bne_iff_ne,Bool.not_eq_true',decide_eq_false_iff_not]at a;obtain⟨⟨⟨_,hdx⟩,G⟩,H⟩:=a;obtain⟨e',I,h⟩:=h;unfold PR.wp at h;rw[Q,R]at h;simp[AA.put]at h;obtain⟨t,⟨y,j,hw⟩,hs,J⟩:=dg U h;obtain⟨s,off,cs,cs',o,h1,L,M,hK,h5⟩:=N0 V W X hw;have Y:∀z,d≠z->y.get z=e'.get z:=fun z w=>by rw[j.1,AA.jj,az w]
  have g:d≠s:=fun e=>by
   rw [j.1,AA.jj,ae e]at L;cases L
  have Z:(AD.s x).place e'=some (s,off):=by
   grind [AD.place]
  have hb:e'.get s=.bx cs:=by rw[<-Y s g];exact L
  have hv:v.ev e'=v.ev y:=by
   cases v with
   |c t=>rfl|s l=>
    grind [AD.ev,AD.sl]
  have hq:∀k:AA->Prop,k (J1 s cs' o e')->q.wp (AJ P) e' k:=fun k A=>h5 e' Z hb hv k A;refine⟨e',I,hq _ ⟨_,.refl _,?_⟩⟩;unfold PR.wp;rw[Q,R];simp[AA.put];refine J _ (fun z w=>?_) _ (FA hK ?_)
  .cases z with
   |c t=>rfl|s m=>
    obtain ⟨u,hu⟩:=hs _ w;have B:¬s=m:=fun e=>by
     grind [AD.val,AD.ev,EV.val]
    simp [AD.val,AD.ev,DP,az B];cases o with
    |none=>rfl|some b=>
     have C:¬b.1=m:=fun e=>Al H (x:=m) (List.mem_flatMap.2 ⟨_,w,by simp[AD.sl]⟩) (by rw[(M b.1 b.2 rfl).1,e];simp[AD.sl]);simp[az C]
  .refine⟨fun z=>?_,fun z=>?_⟩
   .rw[AA.jj,DP,DP];by_cases E:s=z
    .subst E;rw[ae rfl,az g,ae rfl]
    .rw[az E,az E];cases o with
     |none=>
      simp only;rw[j.1,AA.jj]
     |some b=>
      have F:¬d=b.1:=fun e=>G (by rw[(M b.1 b.2 rfl).1,e];simp[AD.sl]);simp only;by_cases i:b.1=z
      .rw[ae i,ae i,az (fun e=>F (e.trans i.symm))]
      .rw[az i,az i,j.1,AA.jj]
   .have T:∀l e,o=some (l,e)->e.sV z=true:=fun l e he=>by
     obtain ⟨_,⟨t,rfl⟩,_⟩:=M l e he;rfl
    rw [AA.j4,Du _ _ _ _ _ T,Du _ _ _ _ _ T,j.2,AA.j4]
 .cases a
theorem dV{p q:PR}(hj:JD D O)(a:uj D p q=true)(h:DQ (AJ P) K (p::q::rs) O):DQ (AJ P) K (q::p::rs) O:=by
 unfold uj at a;split at a
 .rename_i b m d n x v R i T Y Z f3;simp[bne_iff_ne,Bool.not_eq_true',decide_eq_false_iff_not,tI]at a;obtain⟨⟨⟨⟨⟨⟨_,bD⟩,hbx⟩,hdx⟩,hdb⟩,M⟩,U⟩:=a;obtain⟨e',G,h⟩:=h;have hj':=hj.congr G.symm;unfold PR.wp at h;rw[R,i,T]at h;simp[AA.put,AC.wp]at h;split at h
  case h_2=>exact h.elim
  rename_i bs hbs;obtain⟨L,y,w,hw⟩:=h;obtain⟨s,off,cs,cs',o,h1,g,B,I,h5⟩:=N0 Y Z f3 hw;have gy:∀z,d≠z->y.get z=e'.get z:=fun z W=>by rw[w.1,AA.jj,az W]
  have l:d≠s:=fun e=>by
   rw [w.1,AA.jj,ae e]at g;cases g
  have H:(AD.s x).place e'=some (s,off):=by
   grind [AD.place]
  have hsb:¬s=b:=by
   intro e;subst e;simp[AD.place]at H;split at H
   .rename_i r off' hx;simp at H;exact hj'.no (x:=x) (s:=s) (by rw[hx,<-H.1];rfl) bD
   .grind
   .cases H
  have F:e'.get s=.bx cs:=by rw[<-gy s l];exact g
  have hv:v.ev e'=v.ev y:=by
   cases v with
   |c t=>rfl|s E=>
    grind [AD.ev,AD.sl]
  have hq:∀C:AA->Prop,C (J1 s cs' o e')->q.wp (AJ P) e' C:=fun C X=>h5 e' H F hv C X;refine⟨e',G,hq _ ⟨_,.refl _,?_⟩⟩;have hg:(J1 s cs' o e').get b=.bx bs:=by
   grind [DP,AD.sl]
  unfold PR.wp;rw[R,i,T];simp[AA.put,AC.wp,hg];refine⟨L,FA I ?_⟩;refine⟨fun z=>?_,fun z=>?_⟩
  .rw[AA.jj,DP,DP];by_cases A:s=z
   .subst A;rw[ae rfl,az l,ae rfl]
   .rw[az A,az A];cases o with
    |none=>
     simp only;rw[w.1,AA.jj]
    |some j=>
     have J:¬d=j.1:=fun e=>M (by rw[(B j.1 j.2 rfl).1,e];simp[AD.sl]);simp only;by_cases u:j.1=z
     .rw[ae u,ae u,az (fun e=>J (e.trans u.symm))]
     .rw[az u,az u,w.1,AA.jj]
  .have L:∀E e,o=some (E,e)->e.sV z=true:=fun E e he=>by
    obtain ⟨_,⟨t,rfl⟩,_⟩:=B E e he;rfl
   rw [AA.j4,Du _ _ _ _ _ L,Du _ _ _ _ _ L,w.2,AA.j4]
 .rename_i b k d n x v R i T Y Z f3;simp[bne_iff_ne,Bool.not_eq_true',decide_eq_false_iff_not,tI]at a;obtain⟨⟨⟨_,hdx⟩,M⟩,U⟩:=a;obtain⟨e',G,h⟩:=h;unfold PR.wp at h;rw[R,i,T]at h;obtain⟨V,hn0,Q,y,w,hw⟩:∃V,(∀c,V≠.bx c)/\(∀i:AA,i.get b=e'.get b\/(∃c c',e'.get b=.bx c/\i.get b=.bx c')->∀C:EV->AA->Prop,C V i->(AC.bad b k).wp (AJ P) i (some d) C)/\DQ (AJ P) K (q::rs) ((d,V)::e'):=by
   simp only[AA.put,AC.wp]at h;split at h
   .rename_i F;refine⟨_,by simp,fun i g C I=>?_,h⟩;obtain⟨c',B⟩:∃c',i.get b=.bx c':=by
     rcases g with g|⟨_,c',_,g⟩
     .exact⟨_,g.trans F⟩
     .exact⟨c',g⟩
    simp only[AC.wp,B];exact I
   .rename_i F;refine⟨_,by simp,fun i g C I=>?_,h⟩;have B:i.get b=e'.get b:=g.resolve_right fun⟨c,c',h4,_⟩=>by rw[F]at h4;cases h4
    simp only[AC.wp,B,F];exact I
   .exact h.elim
  obtain ⟨s,off,cs,cs',o,h1,g,B,I,h5⟩:=N0 Y Z f3 hw;have gy:∀z,d≠z->y.get z=e'.get z:=fun z W=>by rw[w.1,AA.jj,az W]
  have l:d≠s:=fun e=>by
   rw [w.1,AA.jj,ae e]at g;exact hn0 _ g
  have H:(AD.s x).place e'=some (s,off):=by
   grind [AD.place]
  have F:e'.get s=.bx cs:=by rw[<-gy s l];exact g
  have hv:v.ev e'=v.ev y:=by
   cases v with
   |c t=>rfl|s E=>
    grind [AD.ev,AD.sl]
  refine ⟨e',G,h5 e' H F hv _ ⟨_,.refl _,?_⟩⟩;unfold PR.wp;rw[R,i,T];refine Q _ ?_ _ (FA I ?_)
  .rw[DP];by_cases A:s=b
   .subst A;exact .inr ⟨cs,cs',F,by rw[ae rfl]⟩
   .rw[az A];cases o with
    |none=>exact .inl rfl|some j=>
     have:¬j.1=b:=fun e=>U (by rw[(B j.1 j.2 rfl).1,e];simp[AD.sl]);simp only;rw[az this];exact .inl rfl
  refine ⟨fun z=>?_,fun z=>?_⟩
  .simp only[AA.put];rw[AA.jj,DP,DP];by_cases A:s=z
   .subst A;rw[ae rfl,az l,ae rfl]
   .rw[az A,az A];cases o with
    |none=>
     simp only;rw[w.1,AA.jj]
    |some j=>
     have J:¬d=j.1:=fun e=>M (by rw[(B j.1 j.2 rfl).1,e];simp[AD.sl]);simp only;by_cases u:j.1=z
     .rw[ae u,ae u,az (fun e=>J (e.trans u.symm))]
     .rw[az u,az u,w.1,AA.jj]
  .have L:∀E e,o=some (E,e)->e.sV z=true:=fun E e he=>by
    obtain ⟨_,⟨t,rfl⟩,_⟩:=B E e he;rfl
   simp only[AA.put];rw[AA.j4,Du _ _ _ _ _ L,Du _ _ _ _ _ L,w.2,AA.j4]
 .cases a
theorem Vm{oq:Oper}(u:Ie P N ops oq q=true){b:List PR}:∀(a:List PR),(∀p∈a,tZ D p q=true/\∃o,Ie P N ops o p=true)->∀{O:AA},IZ F0 w0 N O->JD D O->DQ (AJ P) K (a++q::b) O->DQ (AJ P) K (q::(a++b)) O
 |[],_,O,_,_,h=>h|p::a,g,O,B,C,h=>by
  obtain ⟨c,o,ho⟩:=g p (by simp);obtain⟨e',i,h⟩:=h;obtain⟨rm,A,k,l,j⟩:=jR ho (TW c) (B.congr i.symm) (C.congr i.symm) h;have z:=Vm u a (fun p w=>g p (by simp[w])) k l A;have t:DQ (AJ P) K (p::q::(a++b)) O:=⟨e',i,j _ z⟩;simp[tZ]at c
  grind [swap,aW,dR,dY,db,dQ,da,dZ,dV,dU,dT,dc,dX,dW]
variable{x:AD}
theorem fb{S:FuncId->Fq->Ap->Prop}{K:EV->AA->Prop}(h:(AC.st n x v).wp S O d K):(AC.st n x v).wp S O d fun e env'=>K e env'/\e=.undef/\∀c,env'.pc c=O.pc c:=by
 simp [AC.wp]at h|-;split at h
 .rename_i s off a;split at h
  .rename_i cs b;split at h
   .grind[AA.j4,EV.sV,EV.sE]
   .grind[AA.j4,EV.sV,EV.sE]
   .exact h.elim
  .exact h.elim
 .exact h.elim
variable{s:Nat}
theorem cD{S:FuncId->Fq->Ap->Prop}{K:EV->AA->Prop}(h:(AC.uz n s v).wp S O d K):(AC.uz n s v).wp S O d fun e env'=>K e env'/\e=.undef/\∀c,env'.pc c=O.pc c:=by
 simp [AC.wp]at h|-;split at h
 .rename_i cs a;split at h
  .grind[AA.j4,EV.sV,EV.sE]
  .grind[AA.j4,EV.sV,EV.sE]
  .exact h.elim
 .exact h.elim
theorem Uv(O:AA)(q:Nat)(i:Option Nat)(n:Nat)(es:Fq)(c:Nat):AA.pc c (O.sI q i n es)=AA.pc c O:=by
 cases i with
 |none=>simp[AA.sI,AA.j4,EV.sV,EV.sE]|some k=>
  grind [AA.sI,AA.j4,EV.sV,EV.sE]
theorem b8{S:FuncId->Fq->Ap->Prop}{q:Nat}{K:EV->AA->Prop}(h:(AC.vk x q).wp S O d K):(AC.vk x q).wp S O d fun e env'=>K e env'/\e=.undef/\∀c,env'.pc c=O.pc c:=by
 simp [AC.wp]at h|-;split at h
 .grind[AA.j4,EV.sV,EV.sE]
 .grind[AA.j4,EV.sV,EV.sE]
 .exact h.elim
theorem cG{S:FuncId->Fq->Ap->Prop}{k:Nat}{K:EV->AA->Prop}(h:(AC.uB x v k).wp S O d K):(AC.uB x v k).wp S O d fun e env'=>K e env'/\e=.undef/\∀c,env'.pc c=O.pc c:=by
 simp [AC.wp]at h|-;split at h
 .grind[Uv]
 .exact h.elim
theorem Uu(O:AA)(q i:Nat)(es:Fq)(c:Nat):AA.pc c (O.vg q i es)=AA.pc c O:=by grind[AA.vg,AA.j4,EV.sV,EV.sE]
theorem cA{S:FuncId->Fq->Ap->Prop}{K:EV->AA->Prop}(h:(AC.uU x v).wp S O d K):(AC.uU x v).wp S O d fun e env'=>K e env'/\e=.undef/\∀c,env'.pc c=O.pc c:=by
 simp [AC.wp]at h|-
 grind [Uu]
theorem cE{S:FuncId->Fq->Ap->Prop}{a:List (Option AI)}{K:EV->AA->Prop}(h:(AC.vj n a x v).wp S O d K):(AC.vj n a x v).wp S O d fun e env'=>K e env'/\e=.undef/\∀c,env'.pc c=O.pc c:=by
 simp [AC.wp]at h|-;split at h
 .rename_i s off t g hv;split at h
  .rename_i cs i;cases b:Cg a t.cells with
   |none=>rw[b]at h;exact h.elim|some ds=>
    grind [AA.j4,EV.sV,EV.sE]
  .exact h.elim
 .exact h.elim
theorem b9{S:FuncId->Fq->Ap->Prop}{m x v:AD}{K:EV->AA->Prop}(h:(AC.vf s m x v).wp S O d K):(AC.vf s m x v).wp S O d fun e env'=>K e env'/\e=.undef/\∀c,env'.pc c=O.pc c:=by
 simp [AC.wp]at h|-;split at h
 .rename_i b a g t i j k;split at h
  .grind[AA.j4,EV.sV,EV.sE]
  .exact h.elim
 .exact h.elim
theorem cF{S:FuncId->Fq->Ap->Prop}{n s q:Nat}{K:EV->AA->Prop}(h:(AC.stx n s q).wp S O d K):(AC.stx n s q).wp S O d fun e env'=>K e env'/\e=.undef/\∀c,env'.pc c=O.pc c:=by
 simp [AC.wp]at h|-
 grind [AA.j4,EV.sV,EV.sE]
variable{r:PR}
theorem Zy{S:FuncId->Fq->Ap->Prop}{K:AA->Prop}(B:Sw D r=true)(hd:I8 r.op=true->r.dst=none)(c:JD D O)(h:r.wp S O K):r.wp S O fun env'=>K env'/\JD D env':=by
 simp [Sw,Bool.not_eq_true']at B;rcases B with((((l|A)|k)|R)|T)|⟨⟨⟨hm,a⟩,hg⟩,C⟩
 rotate_right 2
 .exact PR.rl _ _ (fun env' he=>⟨he.1,fun x o=>by rw[he.2];exact c x o⟩) r (Xe T h)
 rotate_left 4
 .obtain⟨rm,X,Y,Z⟩:=Sx R h;exact Z _ ⟨X,fun x o=>by rw[Y];exact c x o⟩
 rotate_left 1
 .have a:=hd l;have J:(r.op.wp S O r.dst fun e env'=>K (env'.put r.dst e))->r.op.wp S O r.dst fun e env'=>K (env'.put r.dst e)/\JD D (env'.put r.dst e):=by
   intro i;rw[a]at i|-;generalize r.op=p at l i|-;cases p<;>simp[I8]at l<;>first|cases l|skip
   .refine AC.rl S O none (fun e env' he=>⟨he.1,fun d hd=>?_⟩) _ (fb i);simp[AA.put];rw[he.2.2];exact c d hd
   .refine AC.rl S O none (fun e env' he=>⟨he.1,fun d hd=>?_⟩) _ (cD i);simp[AA.put];rw[he.2.2];exact c d hd
   .refine AC.rl S O none (fun e env' he=>⟨he.1,fun d hd=>?_⟩) _ (cG i);simp[AA.put];rw[he.2.2];exact c d hd
   .refine AC.rl S O none (fun e env' he=>⟨he.1,fun d hd=>?_⟩) _ (cF i);simp[AA.put];rw[he.2.2];exact c d hd
   .refine AC.rl S O none (fun e env' he=>⟨he.1,fun d hd=>?_⟩) _ (b8 i);simp[AA.put];rw[he.2.2];exact c d hd
   .refine AC.rl S O none (fun e env' he=>⟨he.1,fun d hd=>?_⟩) _ (cA i);simp[AA.put];rw[he.2.2];exact c d hd
   .refine AC.rl S O none (fun e env' he=>⟨he.1,fun d hd=>?_⟩) _ (cE i);simp[AA.put];rw[he.2.2];exact c d hd
   .refine AC.rl S O none (fun e env' he=>⟨he.1,fun d hd=>?_⟩) _ (b9 i);simp[AA.put];rw[he.2.2];exact c d hd
  unfold PR.wp at h|-;split
  .grind
  .rename_i g b W;rw[W]at h;simp only at h;split
   .rename_i q k;rw[k]at h;exact⟨fun C=>J (h.1 C),fun C=>⟨h.2 C,by rw[a];exact c⟩⟩
   .rename_i G;rw[G]at h;exact⟨h,by rw[a];exact c⟩
   .rename_i H I;split at h
    .rename_i q k;exact absurd k (H q)
    .rename_i k;exact absurd k I
    .exact h.elim
 .unfold uY at A;split at A
  .rename_i gs d t u w;obtain⟨ts,F,M,Q⟩:=O5 t u w h;refine M1 t u w F M ⟨Q,fun x o=>?_⟩;rw[AA.j4,H7,c x o];rfl
  .cases A
 .unfold okQ at k;split at k
  .rename_i s d t u w;obtain⟨n,es,F,h2,M,Q⟩:=UF t u w h;refine UG t u w F h2 M ⟨Q,fun x o=>?_⟩;have:=c x o;simp[AA.j4,EV.sV,EV.sE,this]
  .rename_i n s z x d t u w;simp[PR.wp,t,u,w,AC.wp,AA.put]at h|-;split at h
   .rename_i d' m es kk j E hs o;simp at E;subst E;refine⟨h.1,h.2.1,h.2.2.1,h.2.2.2,fun y U=>?_⟩;have:=c y U;simp[AA.j4,EV.sV,EV.sE,this]
   .exact h.elim
  .cases k
 .obtain⟨d,hd⟩:=Option.isSome_iff_exists.1 a;have L:r.op.sg=true->r.guard=none:=fun V=>by
   rcases hg with h|h
   .rw[V]at h;cases h
   .simpa using h
  refine PR.rl S O (fun env' he=>?_) r (Kd hd hm L h);obtain⟨F,e,f,hF⟩:=he;exact⟨F,hF.jd C c⟩
theorem XS{S:FuncId->Fq->Ap->Prop}{a:Act}{w:World}:∀{O:AA},NJ rs=true->DQ S K rs O->BM F0 w0 O a w->∃env',K env'/\BM F0 w0 env' a w:=by
 induction rs with
 |nil=>intro O _ h b;obtain⟨e,g,i⟩:=h;exact⟨e,i,b.congr fun n=>(g.1 n).symm⟩
 |cons r rs u=>
  intro O c h b;simp[NJ]at c;obtain⟨g,i⟩:=c;obtain⟨e',j,h⟩:=h;have b:=b.congr (fun n=>(j.1 n).symm);split at g
  .rename_i s k l o;simp[PR.wp,k,l,o,AC.wp]at h;split at h
   .rename_i cs t;obtain⟨G,b⟩:=b;exact u i h (b.vo t)
   .exact h.elim
  .cases g
theorem NM:∀(os:List Oper)(rs:List PR),Ik P N ops os rs=true->(∀i o,os[i]?=some o->Ie P N ops o (Ja rs i)=true)/\NJ (rs.drop os.length)=true/\rs=(List.range os.length).map (Ja rs)++rs.drop os.length
 |[],rs,h=>⟨fun i o h=>by simp at h,h,by simp⟩|o::os,[],h=>by simp[Ik]at h|o::os,r::rs,h=>by
  simp [Ik]at h;obtain⟨b,c,g⟩:=NM os rs h.2;refine⟨fun i a hi=>?_,by simpa using c,?_⟩
  .cases i with
   |zero=>simp[List.getElem?_cons_zero]at hi;subst hi;exact h.1|succ i=>simp[List.getElem?_cons_succ]at hi;exact b i a hi
  .rw[ec,List.range_succ_eq_map,List.map_cons,List.map_map,List.cons_append,List.drop_succ_cons];congr 1
theorem Vo{Q:Exit->Act->World->Prop}(hok:OB P N D ops rs=true)(hpd:∀i v,p=some (i,v)->∀r∈rs,r.dst≠some i)(hQ:∀O a w,K O->Hl N p a->BM F0 w0 O a w->Q .normal a w):
  ∀(fuel:Nat)(rem:Ne)(b:Array Bool)(O:AA)(a:Act)(w:World),rem.length=fuel->rem.Pairwise (·<·)->(∀j,j∈rem↔j<ops.size/\b.getD j true=false)->b.size=ops.size ->
   (∀k o,ops[k]?=some o->b.getD k false=true->∀e∈o.after,Region.binds .any e=true->b.getD e.on false=true) ->
   Hl N p a->BM F0 w0 O a w->JD D O->DQ (AJ P) K (rem.map (Ja rs)++rs.drop ops.size) O->wpAny P .any ops Q fuel b a w:=by
 simp only[OB,sc,List.all_eq_true,List.mem_range]at hok;obtain⟨⟨⟨⟨hl,hs⟩,he⟩,hM⟩,hP⟩:=hok;obtain⟨F,hl2,hl3⟩:=NM ops.toList rs hl;simp[Array.getElem?_toList]at F hl2 hl3;intro fuel
 induction fuel with
 |zero=>
  intro rem b O a w u U c hsz V hN hI T h;have:rem=[]:=List.eq_nil_of_length_eq_zero u;subst this;refine⟨?_,?_⟩
  .refine List.eq_nil_iff_forall_not_mem.2 fun j I=>?_;rw[mem_ready]at I;obtain⟨H,o,ho,_⟩:=I;have:=(c j).2 ⟨(Array.getElem?_eq_some_iff.1 ho).1,H⟩;cases this
  .obtain⟨env',H,t⟩:=XS hl2 h hI;exact hQ env' a w H hN t
 |succ fuel ih=>
  intro rem b O a w u U c hsz V hN hI T h;refine⟨fun hnil=>?_,fun i hi=>?_⟩
  ·
   exfalso;cases rem with
   |nil=>simp at u|cons i rem=>
    have H:=(c i).1 (by simp);have l:i∈Region.ready .any ops b:=by
     rw [mem_ready];have ho:ops[i]?=some ops[i]:=Array.getElem?_eq_getElem H.1;refine⟨H.2,_,ho,fun e A L=>?_⟩;have:=he i H.1;rw[ho]at this;simp only[List.all_eq_true,Bool.or_eq_true,Bool.not_eq_true',tI]at this;have hlt:=(this e (by simpa using A)).resolve_left (by simp[L]);cases E:b.getD e.on false with
     |true=>rfl|false=>
      have W:e.on∈i::rem:=by
       refine (c _).2 ⟨by omega,?_⟩;have:e.on<b.size:=by omega
       simp [Array.getD_eq_getD_getElem?,Array.getElem?_eq_getElem this]at E|-;exact E
      rcases List.mem_cons.1 W with t|t
      .omega
      .have:=(List.pairwise_cons.1 U).1 _ t;omega
    rw [hnil]at l;cases l
  .have hi':=hi;rw[mem_ready]at hi';obtain⟨hi1,o,ho,hi2⟩:=hi';have l:i<ops.size:=(Array.getElem?_eq_some_iff.1 ho).1;have hir:i∈rem:=(c i).2 ⟨l,hi1⟩;obtain⟨G,z,rfl⟩:=List.append_of_mem hir;have g:=List.pairwise_append.1 U;have M:∀j∈G,j<i:=fun j T=>g.2.2 j T i (by simp);have Y:∀j∈z,i<j:=fun j T=>(List.pairwise_cons.1 g.2.1).1 j T;have J:∀(k:Nat),k<ops.size->(∀o,ops[k]?=some o->∀e∈o.after,Region.binds .any e=true->b.getD e.on false=true)->∀j,j<ops.size->((Y6 ops).getD k 0).testBit j=true->b.getD j false=true:=by
    intro k
    induction k using Nat.strongRecOn with
    |_ k ihk=>
     intro hk hdir j C L;have:=hM k hk j C;rw[L]at this;simp only[Bool.not_true,Bool.false_or]at this;split at this
     .rename_i ok hok';simp only[List.any_eq_true,sc,Bool.or_eq_true,beq_iff_eq,tI]at this;obtain⟨e,A,hbe,h3⟩:=this;have E:=hdir ok hok' e (by simpa using A) hbe;rcases h3 with h3|⟨h3,h4⟩
      .rw[<-h3];exact E
      .exact ihk e.on h3 (by omega) (fun R B e' he' hb'=>V e.on R B E e' he' hb') j C h4
     .cases this
   have hwp:DQ (AJ P) K (Ja rs i::(G.map (Ja rs)++(z.map (Ja rs)++rs.drop ops.size))) O:=by
    refine Vm (ops:=ops) (F0:=F0) (w0:=w0) (N:=N) (oq:=o) (F i o ho) (G.map (Ja rs)) (fun p hp=>?_) ⟨a,w,hN.size,hI⟩ T (by simpa using h);obtain⟨j,hj1,rfl⟩:=List.mem_map.1 hp;have hlt:=M j hj1;have C:j<ops.size:=by omega
    refine ⟨?_,ops[j],F j _ (Array.getElem?_eq_getElem C)⟩;have:=hP i l j hlt;rw[Bool.or_eq_true]at this;refine this.resolve_left fun L=>?_;have H:=J i l (fun R B=>by rw[ho]at B;simp at B;subst B;exact hi2) j C L;have t:=((c j).1 (by simp[hj1])).2;have:j<b.size:=by omega
    simp [Array.getD_eq_getD_getElem?,Array.getElem?_eq_getElem this]at H t;rw[H]at t;cases t
   obtain ⟨e',heq,hw⟩:=hwp;have hI':=hI.congr (fun n=>(heq.1 n).symm);have I:=T.congr heq.symm;have hstd:I8 (Ja rs i).op=true->(Ja rs i).dst=none:=by
    intro hst;have:=F i o ho;simp[Ie]at this;have t:=this.2;split at t
    .simp only[hst,Bool.not_true,Bool.and_false,Bool.false_and]at t;cases t
    .assumption
    .cases t
   have hw':=Zy (hs i l) hstd I hw;have Z:∀j,j∈G++z↔j<ops.size/\(b.setIfInBounds i true).getD j true=false:=by
    intro j;by_cases hij:j=i
    .subst hij;constructor
     .intro W;rcases List.mem_append.1 W with W|W
      .have:=M _ W;omega
      .have:=Y _ W;omega
     .rintro⟨_,t⟩;have:j<b.size:=by omega
      simp [this]at t
    .rw[getD_set_ne true (fun e=>hij e.symm),<-c j];simp[hij]
   have hcl':∀k R,ops[k]?=some R->(b.setIfInBounds i true).getD k false=true->∀e∈R.after,Region.binds .any e=true->(b.setIfInBounds i true).getD e.on false=true:=by
    intro k R hk hlk e A L;refine getD_set_true ?_;by_cases hki:k=i
    .subst hki;rw[ho]at hk;simp at hk;subst hk;exact hi2 e A L
    .rw[getD_set_ne false (fun e=>hki e.symm)]at hlk;exact V k R hk hlk e A L
   have hpdi:∀j v,p=some (j,v)->(Ja rs i).dst≠some j:=by
    intro j v hp;unfold Ja;cases hr:rs[i]? with
    |none=>simp|some r=>exact hpd j v hp r (List.mem_of_getElem? hr)
   have:=PH (Q:=Q) (next:=wpAny P .any ops Q fuel (b.setIfInBounds i true)) hI' hN hpdi (F i o ho) hw' fun env' a' w' k1 k2 k3=>
    ih (G++z) _ env' a' w' (by simp at u|-;omega) (List.pairwise_append.2 ⟨g.1,(List.pairwise_cons.1 g.2.1).2,fun x hx y hy=>g.2.2 x hx y (by simp[hy])⟩) Z (by simpa using hsz) hcl' k2 k3 k1.2 (by simpa using k1.1)
   unfold Go.wpOp;rw[ho];simp;split
   .rename_i X;rw[ae X]at this;exact .inl this
   .rename_i X;rw[az X]at this;exact this
theorem RH:∀(ds:Ne)(O:AA),Mh O ds=true->JD ds O
 |[],O,_=>fun d hd=>by simp at hd|d::ds,O,h=>by
  simp [Mh]at h;intro x a;rcases List.mem_cons.1 a with rfl|a
  .exact h.1
  .exact RH ds O h.2 x a
theorem H2(J:P.follows .mixedOrders=true):Hk P N (OB P N):=by
 intro F0 w0 p id ds ops rs g O a w K Q z B X c hd h Y;refine wp_region_any J ?_;have l:=z;simp[OB]at l;obtain⟨_,_,E⟩:=NM ops.toList rs l.1.1.1.1;simp at E;have C:BM F0 w0 O a {w with drawn:=w.drawn+1}:=by
  obtain ⟨G,c⟩:=c;refine⟨G,c.rj,c.lt,⟨c.below.os,c.below.tape,c.below.output,c.below.size,c.below.block,c.below.cell,c.below.free,c.below.tab⟩,c.defers,c.dom,fun s L=>?_,c.wf⟩;exact AH.kept (w:=w) (w':={w with drawn:=w.drawn+1}) (F:=AP w0.heap.size F0 G) (G:=G) (O:=O) (a:=a) (fun b o u M R=>⟨M,R⟩) (fun _=>rfl) (fun _ _ _ _=>rfl) rfl (fun _ _ _ _ _=>rfl) (fun r i k H T=>⟨T,fun v hv=>by cases k<;>exact hv⟩) (fun r off H t=>⟨t,rfl⟩) (fun r i H t=>⟨t,fun _ hv=>hv⟩) (c.slots s L)
 refine Vo (K:=fun e=>K (e.po g)) (F0:=F0) (w0:=w0) z B (fun O a w U V W=>Y _ a w U V (W.po g)) ops.size (List.range ops.size) _ O a _ (by simp) List.pairwise_lt_range (fun j=>?_) (by simp) (fun k o Z A=>?_) X C (RH ds O hd) ?_
 .rw[List.mem_range];constructor
  .intro I;exact⟨I,by simp[Array.getD_eq_getD_getElem?,Array.getElem?_replicate,I]⟩
  .exact fun h=>h.1
 .simp[Array.getD_eq_getD_getElem?,Array.getElem?_replicate]at A;split at A<;>simp at A
 grind [Wv]
end
end Go.Sf
