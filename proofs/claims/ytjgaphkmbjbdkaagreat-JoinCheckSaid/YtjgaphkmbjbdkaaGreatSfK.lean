/- Operations that take a list of one's own, in drawn regions. -/
import Derived.Test.YtjgaphkmbjbdkaaGreatSfSwap
set_option linter.all false
namespace Go.Sf
def AE.tkn:AE->Option Ne
 |.Aa6 _=>some []|.Aba _=>some []|.tkx s=>some [s]|.AaW _ s _=>some [s]|.Abf q=>some [q]|_=>none
def RT(qs:Ne)(O:AB):AB:=qs.map (·,EV.undef)++O
theorem Oq(qs:Ne)(O:AB)(n:Nat):AB.get (RT qs O) n=if n∈qs then .undef else O.get n:=by
 induction qs with
 |nil=>rfl|cons q qs a=>
  grind [RT,AB.eb]
theorem Iu(qs:Ne)(O:AB)(c:Nat):AB.f0 c (RT qs O)=AB.f0 c O:=by
 induction qs with
 |nil=>rfl|cons q qs a=>
  simp only[RT,List.map_cons,List.cons_append,AB.ej]at a|-;rw[a];rfl
structure eM(S:FuncId->Fq->Ax->Prop)(op:AE)(qs:Ne)(d:Nat)(O:AB)(e:EV):Prop where
 dno:O.f0 d=true
 Abk:e.wi=none
 slbx:∀n∈op.slots,∀cs,O.get n≠.bx cs
 sub:∀n∈qs,n∈op.slots
 again:∀env2,(∀n∈op.slots,env2.get n=O.get n)->env2.f0 d=true->∀K2:EV->AB->Prop,K2 e (RT qs env2)->op.wp S env2 (some d) K2
variable{y:AG}
theorem sT{O env2:AB}(h:∀n∈y.sl,env2.get n=O.get n):y.val env2=y.val O:=by
 cases y with
 |c t=>rfl|s n=>simp only[AG.val,AG.ev,h n (by simp[AG.sl])]
variable{O:AB}
theorem sS{t:TV}(h:y.val O=some t):∀n∈y.sl,∀cs,O.get n≠.bx cs:=by
 intro n a cs b;cases y with
 |c t=>simp[AG.sl]at a|s m=>
  grind [AG.sl,List.mem_singleton,AG.val,AG.ev,EV.val]
variable{qs:Ne}
theorem take{S:FuncId->Fq->Ax->Prop}{op:AE}{d:Nat}{K:EV->AB->Prop}(c:op.tkn=some qs)(h:op.wp S O (some d) K):∃e,eM S op qs d O e/\K e (RT qs O):=by
 cases op<;>simp only[AE.tkn,reduceCtorEq,sr]at c
 case Aba n=>
  subst c;simp only[AE.wp]at h;exact⟨_,⟨h.1,rfl,by simp[AE.slots],by simp,fun env2 _ a j b=>⟨a,b⟩⟩,h.2⟩
 case Aa6 n=>
  subst c;simp only[AE.wp]at h;exact⟨_,⟨h.1,rfl,by simp[AE.slots],by simp,fun env2 _ a j b=>⟨a,b⟩⟩,h.2⟩
 case tkx s=>
  subst c;simp only[AE.wp]at h;split at h
  .rename_i t n es hd i;simp only[sr]at hd;subst hd;refine⟨.xo n es,⟨h.1,rfl,fun m u cs l=>?_,by simp[AE.slots],fun env2 g a j b=>?_⟩,h.2.2⟩
   .grind[AE.slots,List.mem_singleton]
   .have:=g s (by simp[AE.slots]);simp only[AE.wp,this,i];exact⟨a,h.2.1,b⟩
  .exact h.elim
 case Abf q=>
  subst c;simp only[AE.wp]at h;split at h
  .rename_i t n k hd i;simp only[sr]at hd;subst hd;refine⟨.x1 n k,⟨h.1.1,rfl,fun m u cs l=>?_,by simp[AE.slots],fun env2 g a j b=>?_⟩,h.2⟩
   .grind[AE.slots,List.mem_singleton]
   .have:=g q (by simp[AE.slots]);simp only[AE.wp,this,i];exact⟨⟨a,h.1.2⟩,b⟩
  .exact h.elim
 case AaW n s y=>
  subst c;simp only[AE.wp]at h;split at h
  .rename_i t m es m' k hd i w;simp only[sr]at hd;subst hd;obtain⟨B,C,E,F,G,H⟩:=h;refine⟨.xo n (es++k),⟨F,rfl,fun x o cs l=>?_,by simp[AE.slots],fun env2 g a j b=>?_⟩,H⟩
   .grind[AE.slots,sS]
   .have z:=g s (by simp[AE.slots]);have A:=sT (O:=O) (env2:=env2) (y:=y) (fun x o=>g x (by simp[AE.slots,o]));simp only[AE.wp,z,i,A,w];exact⟨B,C,E,a,G,b⟩
  .exact h.elim
def PR.tk(r:PR):Option (Ne×Nat):=
 match r.op.tkn,r.guard,r.dst with
 |some qs,none,some d=>some (qs,d)|_,_,_=>none
variable{r:PR}
theorem PR.tk_some{d:Nat}(h:r.tk=some (qs,d)):r.op.tkn=some qs/\r.guard=none/\r.dst=some d:=by
 unfold PR.tk at h
 grind
theorem WZ{S:FuncId->Fq->Ax->Prop}{d:Nat}{K:AB->Prop}(g:r.tk=some (qs,d))(h:r.wp S O K):∃e,eM S r.op qs d O e/\K ((d,e)::RT qs O)/\
  ∀env2,(∀n∈r.op.slots,env2.get n=O.get n)->env2.f0 d=true->∀a:AB->Prop,a ((d,e)::RT qs env2)->r.wp S env2 a:=by
 obtain ⟨l,o,t⟩:=PR.tk_some g;have k:r.op.wp S O (some d) fun e env'=>K ((d,e)::env'):=by
  grind [PR.wp,AB.put]
 obtain ⟨e,c,u⟩:=take l k;refine⟨e,c,u,fun env2 i j a b=>?_⟩;unfold PR.wp;rw[o];simp only[t,AB.put];exact c.again env2 i j (fun e env'=>a ((d,e)::env')) b
def Aac(D:Ne)(p q:PR):Bool:=
 match q.tk with
 |some (qs,d)=>PR.w2 D p&&D.contains d&&qs.all D.contains&&Et p.dst.toList (d::q.op.slots)&&Et (d::qs) (p.op.slots++p.gsl)&&Et p.op.dem q.op.slots|none=>false
def AaM(p q:PR):Bool:=
 match p.tk,q.tk with
 |some (_,dp),some (_,dq)=>Et (dp::p.op.slots) (dq::q.op.slots)|_,_=>false
section
variable{P:Program}{F0:Nat->Nat->Prop}{w0:W0}{N:Nat}{ops:Array Oper}{K:AB->Prop}{D:Ne}
variable{r:PR}{O og:AB}{e:EV}{f:BF}
theorem PI.away{S:FuncId->Fq->Ax->Prop}{d:Nat}(h:PI S r d O og e f){x:Nat}(a:x∉r.op.slots)(b:∀y,(O.get y).wi≠some x)(u:EV):f.on x u=u:=by
 have c:=h.slot;have g:=h.cell;cases f with
 |none=>rfl|slot s t=>
  grind [BF.on,Cd]
 |cell s off t=>
  simp only[BF.on]
  grind
theorem PI.stay{S:FuncId->Fq->Ax->Prop}{d:Nat}(h:PI S r d O og e f){x:Nat}(a:x∉r.op.dem)(b:∀cs,O.get x≠.bx cs):f.on x (O.get x)=O.get x:=by
 have c:=h.slot;have g:=h.ok;cases f with
 |none=>rfl|slot s t=>
  grind [BF.on]
 |cell s off t=>
  simp only[BF.on]
  grind
theorem Ud(h:PR.w2 D r=true):∃d,r.dst=some d/\r.op.mov=true/\(r.op.sA=true->r.guard=none)/\Et r.op.AaP D=true/\(r.op.sA=true\/d∈D):=by
 simp only[PR.w2,o4,Bool.or_eq_true,Bool.not_eq_true']at h;obtain⟨⟨⟨⟨b,c⟩,g⟩,i⟩,j⟩:=h;obtain⟨d,hd⟩:=Option.isSome_iff_exists.1 c;refine⟨d,hd,b,fun a=>?_,i,?_⟩
 .rcases g with h|h
  .rw[a]at h;cases h
  .simpa using h
 grind [PR.old]
variable{rs:List PR}
theorem sI(hR:MR F0 w0 N O)(hj:JD D O){op:Oper}{p q:PR}(hp:MV P N ops op p=true)(a:Aac D p q=true)(h:FA (AU P) K (p::q::rs) O):FA (AU P) K (q::p::rs) O:=by
 unfold Aac at a;split at a
 .rename_i qs d ht;simp only[o4,List.contains_eq_mem,t2,List.all_eq_true]at a;obtain⟨⟨⟨⟨⟨Z,dD⟩,sD⟩,T⟩,U⟩,c3⟩:=a;obtain⟨w,J,pm,pg',pb,_⟩:=Ud Z;rw[J]at T;simp only[Option.toList_some]at T;have hpd:w≠d:=fun e=>Aw T (x:=w) (by simp) (by simp[e]);have H:w∉q.op.slots:=fun e=>Aw T (x:=w) (by simp) (by simp[e]);have i:d∉p.op.slots:=fun e=>Aw U (x:=d) (by simp) (Dh e);have dng:d∉p.gsl:=fun e=>Aw U (x:=d) (by simp) (EH e);have j:∀s∈qs,s∉p.op.slots:=fun s V e=>Aw U (x:=s) (by simp[V]) (Dh e);have sng:∀s∈qs,s∉p.gsl:=fun s V e=>Aw U (x:=s) (by simp[V]) (EH e);obtain⟨e',A,h⟩:=h;have hR':=hR.congr A.symm;have k:=hj.congr A.symm;obtain⟨og,⟨⟨e1,l,hw⟩,ep,F,o⟩,hR1⟩:=Ff hR' hp (PP J pm pg' h);have g1:∀n,e1.get n=if w=n then ep else F.on n (e'.get n):=fun n=>by
   rw [l.1,o.og,AB.eb,BF.get]
  have I:∀x,x∈D->x∉p.op.slots->∀e,F.on x e=e:=fun x W X e=>o.away X (fun y hy=>k.no hy W) e;obtain⟨e,M,hK,Q⟩:=WZ ht hw;have z:∀n∈q.op.slots,e'.get n=e1.get n:=by
   intro n R;have hne:w≠n:=fun e=>H (e▸R);have hb:=M.slbx n R;rw[g1,ae hne]at hb|-;refine(o.stay (fun hd=>Aw c3 hd R) (fun cs hc=>?_)).symm;refine hb (match F.on n (.bx cs)with|.bx cs'=>cs'|_=>cs) ?_;rw[hc];cases F with
   |none=>rfl|slot s t=>
    have:=o.ok;simp only[BF.on];split
    .rename_i e;subst e;simp only[BF.ok]at this;rw[hc]at this;cases this
    .rfl
   |cell s off t=>
    simp only[BF.on];split<;>rfl
  have hdn:e'.f0 d=true:=by
   have:=M.dno;rw[l.2,o.og,AB.ej,BF.f0,o4]at this;exact this.2
  refine ⟨e',A,Q e' z hdn _ ⟨_,.refl _,?_⟩⟩;have C:∀m,m≠d->m∉qs->AB.get ((d,e)::RT qs e') m=e'.get m:=fun m u b=>by
   rw [AB.eb,ae (fun e=>u e.symm),Oq,ae b]
  have nr:∀c,AB.f0 c ((d,e)::RT qs e')=AB.f0 c e':=fun c=>by
   rw [AB.ej,Iu,EV.zt,M.Abk];rfl
  have L:EN p.op F (some w) e' ((d,e)::RT qs e'):=by
   refine ⟨fun x B=>.inl (C x (fun e=>i (e▸B)) (fun e=>j x e B)),fun x B r hr=>.inl (C r (fun e=>k.no hr (e▸dD)) (fun e=>k.no hr (sD r e))),fun x B _=>C x (fun e=>i (e▸Cd B)) (fun e=>j x e (Cd B)),?_,fun R d' hd' Y=>by rw[nr];exact Y⟩;have u:=o.slot;have b:=o.ok;have h4:=o.cell;cases F with
   |none=>trivial|slot x t=>
    simp only[BF.ok]at b|-;rw[C x (fun e=>i (e▸Cd (u _ _ rfl))) (fun e=>j x e (Cd (u _ _ rfl)))];exact b
   |cell x off t=>
    obtain ⟨ds,h5,h6⟩:=b;refine⟨ds,?_,h6⟩;rw[C x (fun e=>?_) (fun e=>?_)]
    .exact h5
    .rcases h4 _ _ _ rfl with h7|⟨y,_,h8⟩
     .exact i (e▸h7)
     .exact k.no h8 (e▸dD)
    .rcases h4 _ _ _ rfl with h7|⟨y,_,h8⟩
     .exact j x e h7
     .exact k.no h8 (sD x e)
  have hgp:∀g∈p.gsl,AB.get ((d,e)::RT qs e') g=e'.get g:=fun g G=>C g (fun e=>dng (e▸G)) (fun e=>sng g e G);refine o.again _ L hgp _ (H8 hK ?_);refine⟨fun m=>?_,fun c=>?_⟩
  .simp only[AB.eb,BF.get,g1,Oq];by_cases u:d=m
   .subst u;rw[a6 rfl,ae hpd,I d dD i,a6 rfl]
   .rw[ae u];by_cases E:w=m
    .have:m∉qs:=fun Z=>H (E▸M.sub m Z);rw[ae this,a6 E,a6 E]
    .rw[ae E];by_cases b:m∈qs
     .rw[a6 b,ae E,I m (sD m b) (j m b),ae u,a6 b]
     .rw[ae b,ae E,ae u,ae b]
  .simp only[AB.ej,BF.f0,l.2,o.og,Iu,EV.zt,M.Abk];cases(match ep.wi with|some s=>c !=s|none=>true)<;>rfl
 .cases a
theorem sH(hR:MR F0 w0 N O)(hj:JD D O){op oq:Oper}{p q:PR}(hp:MV P N ops op p=true)(hq:MV P N ops oq q=true)(a:Aac D q p=true)(h:FA (AU P) K (p::q::rs) O):FA (AU P) K (q::p::rs) O:=by
 unfold Aac at a;split at a
 .rename_i w d ht;simp only[o4,List.contains_eq_mem,t2,List.all_eq_true]at a;obtain⟨⟨⟨⟨⟨hm,M⟩,sD⟩,Z⟩,c2⟩,c3⟩:=a;obtain⟨C,Q,qm,qg',qb,qold⟩:=Ud hm;rw[Q]at Z;simp only[Option.toList_some]at Z;have hqd:C≠d:=fun e=>Aw Z (x:=C) (by simp) (by simp[e]);have I:C∉p.op.slots:=fun e=>Aw Z (x:=C) (by simp) (by simp[e]);have l:d∉q.op.slots:=fun e=>Aw c2 (x:=d) (by simp) (Dh e);have dng:d∉q.gsl:=fun e=>Aw c2 (x:=d) (by simp) (EH e);have o:∀s∈w,s∉q.op.slots:=fun s hs e=>Aw c2 (x:=s) (by simp[hs]) (Dh e);have sng:∀s∈w,s∉q.gsl:=fun s hs e=>Aw c2 (x:=s) (by simp[hs]) (EH e);obtain⟨e',E,h⟩:=h;have hR':=hR.congr E.symm;have hj':=hj.congr E.symm;obtain⟨og,⟨⟨B,b,hw⟩,V,R,F,T⟩,hR1⟩:=Ff (K:=fun og=>(∃B,NM B og/\q.wp (AU P) B (FA (AU P) K rs))/\∃V,eM (AU P) p.op w d e' V/\og=(d,V)::RT w e'/\∀env2,(∀n∈p.op.slots,env2.get n=e'.get n)->env2.f0 d=true->∀K2:AB->Prop,K2 ((d,V)::RT w env2)->p.wp (AU P) env2 K2) hR' hp (by
   obtain ⟨e,Y,k2,k3⟩:=WZ ht h;exact k3 e' (fun _ _=>rfl) Y.dno _ ⟨k2,e,Y,rfl,k3⟩)
  subst F;have j:JD D B:=by
   intro x u;rw[b.2,AB.ej,Iu,EV.zt,R.Abk];exact hj' x u
  obtain ⟨X1,⟨hK,eq,U,A⟩,_⟩:=Ff (hR1.congr b.symm) hq (PP Q qm qg' hw);have G:∀n,n≠d->n∉w->B.get n=e'.get n:=fun n i k=>by
   rw [b.1,AB.eb,ae (fun e=>i e.symm),Oq,ae k]
  have J:∀x,x∈D->x∉q.op.slots->∀e,U.on x e=e:=fun x hxD hxn e=>A.away hxn (fun y hy=>j.no hy hxD) e;have L:EN q.op U (some C) B e':=by
   refine ⟨fun x u=>.inl (G x (fun e=>l (e▸u)) (fun e=>o x e u)).symm,fun x u r hr=>.inl (G r (fun e=>j.no hr (e▸M)) (fun e=>j.no hr (sD r e))).symm,fun x u _=>(G x (fun e=>l (e▸Cd u)) (fun e=>o x e (Cd u))).symm,?_,fun W d' hd' H=>?_⟩
   .have i:=A.slot;have k:=A.ok;have X:=A.cell;cases U with
    |none=>trivial|slot x t=>
     simp only[BF.ok]at k|-;rw[<-G x (fun e=>l (e▸Cd (i _ _ rfl))) (fun e=>o x e (Cd (i _ _ rfl)))];exact k
    |cell x off t=>
     obtain ⟨ds,h5,h6⟩:=k;refine⟨ds,?_,h6⟩;rw[<-G x (fun e=>?_) (fun e=>?_)]
     .exact h5
     .rcases X _ _ _ rfl with h7|⟨y,_,h8⟩
      .exact l (e▸h7)
      .exact j.no h8 (e▸M)
     .rcases X _ _ _ rfl with h7|⟨y,_,h8⟩
      .exact o x e h7
      .exact j.no h8 (sD x e)
   .rw[b.2,AB.ej,Iu,o4]at H;exact H.2
  have hgq:∀g∈q.gsl,e'.get g=B.get g:=fun g hg=>(G g (fun e=>dng (e▸hg)) (fun e=>sng g e hg)).symm;refine⟨e',E,A.again e' L hgq _ ⟨_,.refl _,T _ (fun n W=>?_) ?_ _ (H8 hK ?_)⟩⟩
  .have hne:C≠n:=fun e=>I (e▸W);rw[AB.eb,ae hne,BF.get];have hb:=R.slbx n W;have Y:=A.slot;have k2:=L.eff;cases U with
   |none=>rfl|slot s t=>
    simp only[BF.on];rw[ae];intro e;subst e;exact Aw c3 (Y _ _ rfl) W
   |cell s off t=>
    simp only[BF.on];rw[ae];intro e;subst e;obtain⟨cs,k3,_⟩:=k2;exact hb cs k3
  .rw[AB.ej,BF.f0,R.dno,Bool.and_true];refine Ti (fun s he=>?_);rcases A.wi s he with i|⟨x,_,k⟩
   .exact fun e=>Aw qb i (e▸M)
   .exact fun e=>j.no k (e▸M)
  .rw[A.og];have hdd:∀e,U.on d e=e:=J d M l;refine⟨fun m=>?_,fun c=>?_⟩
   .simp only[AB.eb,BF.get,Oq,b.1];by_cases i:C=m
    .have z:m∉w:=fun hm=>I (i▸R.sub m hm);have X:¬d=m:=fun e=>hqd (i.trans e.symm);rw[a6 i,ae X,ae z,a6 i]
    .rw[ae i];by_cases k:d=m
     .subst k;rw[a6 rfl,a6 rfl,hdd]
     .rw[ae k,ae k];by_cases z:m∈w
      .rw[a6 z,a6 z,J m (sD m z) (o m z)]
      .rw[ae z,ae z,ae i]
   .simp only[AB.ej,BF.f0,b.2,Iu,EV.zt,R.Abk];cases(match eq.wi with|some s=>c !=s|none=>true)<;>rfl
 .cases a
theorem sQ{S:FuncId->Fq->Ax->Prop}{p q:PR}(a:AaM p q=true)(h:FA S K (p::q::rs) O):FA S K (q::p::rs) O:=by
 unfold AaM at a;split at a
 .rename_i F o qs A H I;have i:∀x,x=o\/x∈p.op.slots->x≠A/\x∉q.op.slots:=fun x i=>by
   grind [Aw,List.mem_cons_self,List.mem_cons_of_mem]
  obtain ⟨e',E,h⟩:=h;obtain⟨R,w,⟨G,b,M⟩,t⟩:=WZ H h;obtain⟨eq,g,Q,j⟩:=WZ I M;have J:∀n,n≠o->n∉F->G.get n=e'.get n:=fun n k u=>by
   rw [b.1,AB.eb,ae (fun e=>k e.symm),Oq,ae u]
  have B:∀n∈q.op.slots,e'.get n=G.get n:=fun n l=>(J n (fun e=>(i n (.inl e)).2 l) (fun e=>(i n (.inr (w.sub n e))).2 l)).symm;have C:e'.f0 A=true:=by
   have:=g.dno;rw[b.2,AB.ej,Iu,o4]at this;exact this.2
  refine ⟨e',E,j e' B C _ ⟨_,.refl _,t _ (fun n l=>?_) ?_ _ (H8 Q ?_)⟩⟩
  .rw[AB.eb,ae (fun e=>(i n (.inr l)).1 e.symm),Oq,ae (fun e=>(i n (.inr l)).2 (g.sub n e))]
  .rw[AB.ej,Iu,w.dno,EV.zt,g.Abk];rfl
  .refine⟨fun m=>?_,fun c=>?_⟩
   .simp only[AB.eb,Oq,b.1];by_cases k:A=m
    .have u:¬o=m:=fun e=>(i o (.inl rfl)).1 (e.trans k.symm);have L:m∉F:=fun z=>(i m (.inr (w.sub m z))).1 k.symm
     grind
    .rw[ae k];by_cases u:o=m
     .have L:m∉qs:=fun z=>(i m (.inl u.symm)).2 (g.sub m z)
      grind
     grind
   .simp only[AB.ej,Iu,b.2,EV.zt,w.Abk,g.Abk]
 .cases a
end
def AE.ptr:AE->Option Nat
 |.bad s _=>some s|.fad (.s m) _=>some m|_=>none
def EV.box2(e e2:EV):Prop:=e2=e\/∃cs cs',e=.bx cs/\e2=.bx cs'
variable{m:Nat}{O:AB}
theorem YA{S:FuncId->Fq->Ax->Prop}{op:AE}{dst:Option Nat}{K:EV->AB->Prop}(ho:op.ptr=some m)(h:op.wp S O dst K):
  ∃e,K e O/\(∀s,e.wi=some s->(s∈op.AaP\/(O.get m).wi=some s))/\(∀cs,e≠.bx cs)/\∀env2,(O.get m).box2 (env2.get m)->(∀s,(O.get m).wi=some s->(O.get s).box2 (env2.get s))->∀i:EV->AB->Prop,i e env2->op.wp S env2 dst i:=by
 unfold AE.ptr at ho;split at ho
 .rename_i s k;simp only[sr]at ho;subst ho;simp only[AE.wp]at h;split at h
  .rename_i cs b;refine⟨_,h,fun s' c=>.inl (by simpa[AE.AaP,EV.wi]using c.symm),by simp,fun env2 a _ i g=>?_⟩;have:∃cs',env2.get s=.bx cs':=by
    rcases a with a|⟨_,cs',_,a⟩
    .grind
    .exact⟨cs',a⟩
   obtain ⟨cs',j⟩:=this;simp only[AE.wp,j];exact g
  .rename_i row b;refine⟨_,h,by simp[EV.wi],by simp,fun env2 a _ i g=>?_⟩;rcases a with a|⟨cs,_,a,_⟩
   .simp only[AE.wp,a,b];exact g
   .rw[b]at a;cases a
  .exact h.elim
 .rename_i m' k;simp only[sr]at ho;subst ho;simp only[AE.wp,AG.ev]at h;split at h
  .rename_i row b;refine⟨_,h,by simp[EV.wi],by simp,fun env2 a _ i g=>?_⟩;rcases a with a|⟨cs,_,a,_⟩
   .simp only[AE.wp,AG.ev,a,b];exact g
   .rw[b]at a;cases a
  .rename_i s off b;split at h
   .rename_i cs t;refine⟨_,h,fun s' c=>.inr (by rw[b];exact c),by simp,fun env2 a j i g=>?_⟩;have o:env2.get m'=.bp s off:=by
     rcases a with a|⟨_,_,a,_⟩
     .rw[a,b]
     grind
    have l:∃cs',env2.get s=.bx cs':=by
     rcases j s (by rw[b];rfl)with j|⟨_,cs',_,j⟩
     .grind
     .exact⟨cs',j⟩
    obtain ⟨cs',l⟩:=l;simp only[AE.wp,AG.ev,o,l];exact g
   .exact h.elim
  .exact h.elim
 .cases ho
def WA(m q s:Nat)(cs:List AS)(off:Nat)(O:AB):AB:=(s,.bx (cs.set off ⟨false,.undef⟩))::(m,.undef)::(q,.undef)::O
theorem R6{S:FuncId->Fq->Ax->Prop}{m q d:Nat}{K:EV->AB->Prop}(h:(AE.Aax m q).wp S O (some d) K):
  ∃e s off cs,O.get m=.nh s off .hd/\O.get s=.bx cs/\(∀cs,O.get q≠.bx cs)/\O.f0 d=true/\e.wi=none/\K e (WA m q s cs off O)/\
   ∀env2,env2.get m=O.get m->env2.get q=O.get q->env2.get s=O.get s->env2.f0 d=true->∀c:EV->AB->Prop,c e (WA m q s cs off env2)->(AE.Aax m q).wp S env2 (some d) c:=by
 simp only[AE.wp]at h;split at h
 .rename_i E s off n F b i j;simp only[sr]at b;subst b;split at h
  .rename_i cs k;cases a:O.nat s off with
   |none=>rw[a]at h;exact h.elim|some es=>
    rw [a]at h;simp only[Al]at h;obtain⟨z,⟨A,B⟩,C⟩:=h;refine⟨_,s,off,cs,i,k,by rw[j];simp,A,rfl,C,fun env2 l o g t c u=>?_⟩;have w:env2.nat s off=some es:=by rw[<-a];exact AB.Aah g
    simp only[AE.wp,l,o,g,i,j,k,w,Al];exact⟨z,⟨t,B⟩,u⟩
  .exact h.elim
 .exact h.elim
def Aab(D:Ne)(p q:PR):Bool:=
 match p.op.ptr,p.guard,p.dst,q.op,q.guard,q.dst with
 |some x,none,some dp,.Aax m qq,none,some d=>D.contains d&&D.contains dp&&D.contains m&&D.contains qq&&Et [dp] [d,m,qq]&&Et [x] [d,m,qq]&&Et p.op.AaP D&&dp !=x&&PR.w2 D p|_,_,_,_,_,_=>false
variable{off:Nat}
theorem PT{m q s:Nat}{cs:List AS}(n:Nat):AB.get (WA m q s cs off O) n=if s=n then .bx (cs.set off ⟨false,.undef⟩)else if m=n then .undef else if q=n then .undef else O.get n:=rfl
theorem O0{m q s:Nat}{cs:List AS}(c:Nat):AB.f0 c (WA m q s cs off O)=AB.f0 c O:=by
 simp [WA,AB.ej,EV.zt,EV.wi]
section
variable{S:FuncId->Fq->Ax->Prop}{K:AB->Prop}{D:Ne}
variable{O:AB}{rs:List PR}
theorem sL(Z:JD D O){p q:PR}(a:Aab D p q=true)(h:FA S K (p::q::rs) O):FA S K (q::p::rs) O:=by
 unfold Aab at a;split at a
 .rename_i x g m A d B L M Q R T;simp only[o4,List.contains_eq_mem,t2,bne_iff_ne,ne_eq]at a;obtain⟨⟨⟨⟨⟨⟨⟨⟨W,dpD⟩,mD⟩,qD⟩,G⟩,H⟩,pb⟩,hdx⟩,_⟩:=a;have n1:g≠d:=fun e=>Aw G (x:=g) (by simp) (by simp[e]);have U:g≠m:=fun e=>Aw G (x:=g) (by simp) (by simp[e]);have n3:g≠A:=fun e=>Aw G (x:=g) (by simp) (by simp[e]);have n4:x≠d:=fun e=>Aw H (x:=x) (by simp) (by simp[e]);have n5:x≠m:=fun e=>Aw H (x:=x) (by simp) (by simp[e]);have n6:x≠A:=fun e=>Aw H (x:=x) (by simp) (by simp[e]);obtain⟨e',w,h⟩:=h;have k:=Z.congr w.symm;simp only[PR.wp,L,M,AB.put]at h;obtain⟨e,⟨e1,b,X⟩,hre,I,z⟩:=YA B h;simp only[PR.wp,R,T,Q,AB.put]at X;obtain⟨eq,s,off,cs,k1,J,k3,Y,k5,hK,j⟩:=R6 X;have l:∀n,n≠g->e1.get n=e'.get n:=fun n hn=>by rw[b.1,AB.eb,ae (fun e=>hn e.symm)]
  have o:s≠g:=by
   intro hs;subst hs;rw[b.1,AB.eb,a6 rfl]at J;exact I cs J
  have C:e'.get m=.nh s off .hd:=by rw[<-l m (fun e=>U e.symm)];exact k1
  have t:e'.get s=.bx cs:=by rw[<-l s o];exact J
  have E:s∉D:=k.no (x:=m) (by rw[C];rfl);have V:s≠d:=fun e=>E (e▸W);have F:e'.f0 d=true:=by rw[b.2,AB.ej,o4]at Y;exact Y.2
  refine ⟨e',w,?_⟩;simp only[PR.wp,R,T,Q,AB.put];refine j e' (l m (fun e=>U e.symm)).symm (l A (fun e=>n3 e.symm)).symm (l s o).symm F _ ⟨_,.refl _,?_⟩;simp only[PR.wp,L,M,AB.put];refine z _ ?_ (fun r hr=>?_) _ (H8 hK ?_)
  .rw[AB.eb,ae (fun e=>n4 e.symm),PT];by_cases u:s=x
   .subst u;rw[a6 rfl];exact .inr ⟨cs,_,t,rfl⟩
   .rw[ae u,ae (fun e=>n5 e.symm),ae (fun e=>n6 e.symm)];exact .inl rfl
  .have i:r∉D:=k.no hr;rw[AB.eb,ae (fun(e:d=r)=>i (e▸W)),PT];by_cases u:s=r
   .subst u;rw[a6 rfl];exact .inr ⟨cs,_,t,rfl⟩
   .rw[ae u,ae (fun(e:m=r)=>i (e▸mD)),ae (fun(e:A=r)=>i (e▸qD))];exact .inl rfl
  .refine⟨fun n=>?_,fun c=>?_⟩
   .simp only[AB.eb,PT,b.1]
    grind
   .simp only[AB.ej,O0,b.2,EV.zt,k5]
    grind
 .cases a
theorem sK(W:JD D O){p q:PR}(a:Aab D q p=true)(h:FA S K (p::q::rs) O):FA S K (q::p::rs) O:=by
 unfold Aab at a;split at a
 .rename_i x g m z d A H I J L M;simp only[o4,List.contains_eq_mem,t2,bne_iff_ne,ne_eq]at a;obtain⟨⟨⟨⟨⟨⟨⟨⟨R,C⟩,mD⟩,qD⟩,E⟩,F⟩,qb⟩,hdx⟩,_⟩:=a;have n1:g≠d:=fun e=>Aw E (x:=g) (by simp) (by simp[e]);have n2:g≠m:=fun e=>Aw E (x:=g) (by simp) (by simp[e]);have n3:g≠z:=fun e=>Aw E (x:=g) (by simp) (by simp[e]);have n4:x≠d:=fun e=>Aw F (x:=x) (by simp) (by simp[e]);have n5:x≠m:=fun e=>Aw F (x:=x) (by simp) (by simp[e]);have n6:x≠z:=fun e=>Aw F (x:=x) (by simp) (by simp[e]);obtain⟨e',o,h⟩:=h;have j:=W.congr o.symm;simp only[PR.wp,L,M,J,AB.put]at h;obtain⟨ep,s,off,cs,k1,k2,k3,k4,T,⟨U,b,V⟩,t⟩:=R6 h;simp only[PR.wp,H,I,AB.put]at V;obtain⟨e,hK,G,hnb,i⟩:=YA A V;have k:s∉D:=j.no (x:=m) (by rw[k1];rfl);have hsd:s≠d:=fun e=>k (e▸R);have g1:∀n,n≠d->n≠m->n≠z->(U.get n).box2 (e'.get n):=by
   intro n u X Y;rw[b.1,AB.eb,ae (fun e=>u e.symm),PT];by_cases Q:s=n
   .subst Q;rw[a6 rfl];exact .inr ⟨_,cs,rfl,k2⟩
   .rw[ae Q,ae (fun e=>X e.symm),ae (fun e=>Y e.symm)];exact .inl rfl
  have l:JD D U:=by
   intro y Z;rw[b.2,AB.ej,O0,EV.zt,T];exact j y Z
  refine ⟨e',o,?_⟩;simp only[PR.wp,H,I,AB.put];refine i e' (g1 x n4 n5 n6) (fun r w=>?_) _ ⟨_,.refl _,?_⟩
  .have hrD:r∉D:=l.no w
   grind
  .simp only[PR.wp,L,M,J,AB.put];have B:s≠g:=fun e=>k (e▸C);refine t _ (by rw[AB.eb,ae n2]) (by rw[AB.eb,ae n3]) (by rw[AB.eb,ae (fun e=>B e.symm)]) ?_ _ (H8 hK ?_)
   .rw[AB.ej,k4,Bool.and_true];refine Ti (fun r w=>?_);rcases G r w with u|u
    .grind[Aw]
    .exact fun(e:r=d)=>l.no u (e▸R)
   .refine⟨fun n=>?_,fun c=>?_⟩
    .simp only[AB.eb,PT,b.1]
     grind
    .simp only[AB.ej,O0,b.2,EV.zt,T]
     grind
 .cases a
end
def Aa9(p:PR):Bool:=p.tk.isSome||(match p.op,p.guard,p.dst with|.Aax _ _,none,some _=>true|_,_,_=>false)
variable{O:AB}
theorem aL{S:FuncId->Fq->Ax->Prop}{p:PR}{K:AB->Prop}(ho:Aa9 p=true)(h:p.wp S O K):∃og,K og/\(∀c,og.f0 c=O.f0 c)/\∀b:AB->Prop,b og->p.wp S O b:=by
 simp only[Aa9,Bool.or_eq_true]at ho;rcases ho with ho|ho
 .obtain⟨⟨qs,d⟩,i⟩:=Option.isSome_iff_exists.1 ho;obtain⟨e,g,j,a⟩:=WZ i h;exact⟨_,j,fun c=>by rw[AB.ej,Iu,EV.zt,g.Abk];rfl,a O (fun _ _=>rfl) g.dno⟩
 grind [PR.wp,AB.put,R6,AB.ej,O0,EV.zt]
theorem fL{D:Ne}{p q:PR}(h:Aac D q p=true):Aa9 p=true:=by grind[Aac,Aa9]
theorem b8{D:Ne}{p q:PR}(h:Aac D p q=true):PR.w2 D p=true:=by
 unfold Aac at h
 grind
theorem fO{p q:PR}(h:AaM p q=true):Aa9 p=true:=by grind[AaM,Aa9]
theorem b9{D:Ne}{p q:PR}(h:Aab D p q=true):PR.w2 D p=true:=by
 unfold Aab at h
 grind
theorem fM{D:Ne}{p q:PR}(h:Aab D q p=true):Aa9 p=true:=by grind[Aab,Aa9]
end Go.Sf
namespace Go.Sf
open Go.RowKit (Below)
def N4(rs:List PR)(i:Nat):PR:=(rs[i]?).getD ⟨none,.Abd 0,none⟩
def Abu(p:PR):Bool:=match p.op,p.guard,p.dst with
 |.Aad _,none,some _=>true|_,_,_=>false
def AaN(p q:PR):Bool:=match p.op,p.guard,p.dst,q.op,q.guard,q.dst with
 |.Aad gs,none,some dp,.alc _,none,some dq=>dp !=dq&&!(gs.flatMap GC.sl).contains dq|_,_,_,_,_,_=>false
theorem fK{p q:PR}(h:AaN p q=true):Abu p=true:=by grind[AaN,Abu]
def U4(p:PR):Bool:=match p.op,p.guard,p.dst with
 |.st _ (.s _) _,none,none=>true|.xst _ _ _,none,none=>true|_,_,_=>false
def AaF(D:Ne)(p q:PR):Bool:=match p.op,p.guard,p.dst,q.op,q.guard,q.dst with
 |.xst x v _,none,none,.xia (.s _) _ _,none,some d=>D.contains d&&!x.sl.contains d&&!v.sl.contains d|_,_,_,_,_,_=>false
def Rr(D:Ne)(p q:PR):Bool:=match p.op,p.guard,p.dst,q.op,q.guard,q.dst with
 |.st _ (.s x) v,none,none,.bad m _,none,some d=>D.contains d&&d !=x&&d !=m&&!v.sl.contains d&&!v.sl.contains m|.st _ (.s x) v,none,none,.fad (.s m) _,none,some d=>D.contains d&&d !=x&&d !=m&&!v.sl.contains d&&!v.sl.contains m|_,_,_,_,_,_=>false
theorem fJ{D:Ne}{p q:PR}(h:Rr D p q=true):U4 p=true:=by grind[Rr,U4]
theorem fN{D:Ne}{p q:PR}(h:AaF D p q=true):U4 p=true:=by grind[AaF,U4]
def AE.vops:AE->Option (List AG)
 |.len x=>some [x]|.mm _ x y=>some [x,y]|.slc _ x lo hi=>some (x::(lo.toList++hi.toList))|.bin _ _ x y=>some [x,y]|.cvt _ x=>some [x]|.fdv x _=>some [x]|.ldv x _=>some [x]|_=>none
def AaZ(D:Ne)(p q:PR):Bool:=match p.op.vops,p.guard,p.dst,q.op,q.guard,q.dst with
 |some xs,none,some d,.st _ (.s x) v,none,none=>PR.w2 D p&&d !=x&&!v.sl.contains d&&Et (xs.flatMap AG.sl) v.sl|_,_,_,_,_,_=>false
def AaY(D:Ne)(p q:PR):Bool:=match p.op,p.guard,p.dst,q.op,q.guard,q.dst with
 |.ldb b _,none,some d,.st _ (.s x) v,none,none=>PR.w2 D p&&D.contains b&&b !=x&&d !=x&&d !=b&&!v.sl.contains d&&!v.sl.contains b|.bad b _,none,some d,.st _ (.s x) v,none,none=>PR.w2 D p&&d !=x&&!v.sl.contains d&&!v.sl.contains b|_,_,_,_,_,_=>false
def AaH(D:Ne)(p q:PR):Bool:=WC D p q||AaG D p q||AaN p q||AaX D p q||Aa1 D p q||(Rr D p q||AaF D p q)||AaZ D p q||AaY D p q||(Aac D p q||Aac D q p||AaM p q||Aab D p q||Aab D q p)
def okQ(p:PR):Bool:=match p.op,p.guard,p.dst with
 |.tkx _,none,some _=>true|.Aa8 _ _ _ _,none,some _=>true|_,_,_=>false
theorem b7{D:Ne}{p q:PR}(h:AaH D p q=true):((PR.w2 D p=true\/Abu p=true)\/U4 p=true)\/Aa9 p=true:=by
 simp [AaH]at h;rcases h with(((((((h|h)|h)|h)|h)|h)|h)|h)|((((h|h)|h)|h)|h)
 rotate_right 5
 .grind[b8]
 .exact .inr (fL h)
 .exact .inr (fO h)
 .grind[b9]
 .exact .inr (fM h)
 all_goals refine .inl ?_
 .simp[WC]at h
  grind
 .unfold AaG at h
  grind
 .grind[fK]
 .unfold AaX at h
  grind
 .unfold Aa1 at h
  grind
 .grind[fJ,fN]
 .unfold AaZ at h
  grind
 .unfold AaY at h
  grind
def nF(ops:Array Oper):Ne:=
 ops.toList.foldl (fun acc o=>acc++[o.after.toList.foldl (fun m e=>if Region.binds .any e then m|||(1<<<e.on)|||acc.getD e.on 0 else m) 0]) []
def okCa(p:PR):Bool:=match p.op,p.guard,p.dst with
 |.AaB _ _ _,none,some _=>true|_,_,_=>false
variable{O:AB}
theorem ky{S:FuncId->Fq->Ax->Prop}{p:PR}{K:AB->Prop}(ho:okCa p=true)(h:p.wp S O K):p.wp S O fun og=>K og/\∀c,og.f0 c=O.f0 c:=by
 unfold okCa at ho;split at ho
 .rename_i f args i d g j k;simp[PR.wp,g,j,k,AE.wp,AB.put]at h|-;split at h
  .rename_i t q a u;simp at a;subst a;split at h
   .rename_i cs w;refine⟨h.1,?_⟩;cases hv:IU O i args with
    |none=>rw[hv]at h;exact h.2.elim|some z=>
     rw [hv]at h;obtain⟨_,r,l,o⟩:=h;refine⟨r,l,fun b=>⟨o b,fun c=>?_⟩⟩;have:EV.zt c r.aev=true:=by cases r<;>rfl
     rw [AB.ej,AB.ej,this];rfl
   .exact h.elim
  .exact h.elim
 .cases ho
def okCm(p:PR):Bool:=match p.op,p.dst with
 |.Aar _ _ _,some _=>true|_,_=>false
def aK(D:Ne)(r:PR):Bool:=
 NR r.op||Abu r||okQ r||Aa9 r||okCa r||okCm r||(r.op.mov&&r.dst.isSome&&(!r.op.sA||r.guard.isNone)&&Et r.op.AaP D)
def Tk(P:Program)(N:Nat)(D:Ne)(ops:Array Oper)(rs:List PR):Bool:=
 let n:=ops.size
 let M:=nF ops
 Mf P N ops ops.toList rs&&(List.range n).all (fun i=>aK D (N4 rs i)) &&
 (List.range n).all (fun i=>match ops[i]? with
  |some o=>o.after.toList.all fun e=>!Region.binds .any e||decide (e.on<i)|none=>false) &&
 (List.range n).all (fun i=>(List.range n).all fun j=>!(M.getD i 0).testBit j||(match ops[i]? with
  |some o=>o.after.toList.any fun e=>Region.binds .any e&&(e.on==j||(decide (e.on<i)&&(M.getD e.on 0).testBit j))|none=>false)) &&
 (List.range n).all (fun i=>(List.range i).all fun j=>(M.getD i 0).testBit j||AaH D (N4 rs j) (N4 rs i))
section
variable{P:Program}{F0:Nat->Nat->Prop}{w0:W0}{N:Nat}{p:Option (Nat×Value)}{ops:Array Oper}{K:AB->Prop}{D:Ne}
variable{f:BF}{d:Option Nat}{O:AB}
theorem EN.refl{op:AE}(h:f.ok O):EN op f d O O:=
 ⟨fun _ _=>.inl rfl,fun _ _ _ _=>.inl rfl,fun _ _ _=>rfl,h,fun _ _ _ h=>h⟩
theorem L9(d:Nat)(a:AB):∀(qs:Ne)(O:AB),AB.f0 d (Qf a qs O)=AB.f0 d O
 |[],_=>rfl|q::qs,O=>by
  rw [Qf,AB.ej,L9 d a qs O]
  grind [L7,EV.zt,EV.wi]
theorem oA(d:Nat)(e:EV)(O:AB)(g:GC)(h:d∉g.sl):GC.cell ((d,e)::O) g=g.cell O:=by
 cases g with
 |z c=>rfl|v x k n=>
  cases x with
  |s q=>
   grind [GC.sl,List.mem_singleton,GC.cell,AG.val,AG.ev,AB.eb]
  |c t=>rfl
 |w q=>
  grind [GC.sl,List.mem_singleton,GC.cell,AB.eb]
 |g q k n=>
  grind [GC.sl,List.mem_singleton,GC.cell,AB.eb]
theorem Z2(d:Nat)(e:EV)(O:AB):∀(gs:List GC),d∉gs.flatMap GC.sl->JT ((d,e)::O) gs=JT O gs
 |[],_=>rfl|g::gs,h=>by
  rw [List.flatMap_cons,List.mem_append,not_or]at h;simp[JT,oA d e O g h.1,Z2 d e O gs h.2]
variable{gs:List GC}
theorem pN{q:Nat}(h:q∈gs.filterMap GC.slot):q∈gs.flatMap GC.sl:=by
 rw [List.mem_filterMap]at h;obtain⟨g,a,e⟩:=h;rw[List.mem_flatMap];refine⟨g,a,?_⟩;cases g<;>simp[GC.slot]at e<;>simp[GC.sl,e]
theorem Us{S:FuncId->Fq->Ax->Prop}{p:PR}{K:AB->Prop}{d:Nat}(c:p.op=.Aad gs)(g:p.guard=none)(i:p.dst=some d)(h:p.wp S O K):
  ∃cs,((gs.filterMap GC.src).Nodup/\d∉gs.filterMap GC.slot)/\JT O gs=some cs/\K ((d,.x8 cs)::Qf O (gs.filterMap GC.slot) O):=by
 simp only[PR.wp,c,g,i,AE.wp,AB.put]at h;obtain⟨j,b⟩:=h;cases a:JT O gs with
 |none=>rw[a]at b;exact b.elim|some k=>rw[a]at b;exact⟨k,j,rfl,b⟩
theorem SC{S:FuncId->Fq->Ax->Prop}{p:PR}{K:AB->Prop}{d:Nat}{cs:List AS}(b:p.op=.Aad gs)(c:p.guard=none)(g:p.dst=some d)(i:(gs.filterMap GC.src).Nodup/\d∉gs.filterMap GC.slot)(a:JT O gs=some cs)
  (h:K ((d,.x8 cs)::Qf O (gs.filterMap GC.slot) O)):p.wp S O K:=by
 simp only[PR.wp,b,c,g,AE.wp,AB.put,a];exact⟨i,h⟩
variable{q:PR}{v:AG}
theorem TW{S:FuncId->Fq->Ax->Prop}{K:AB->Prop}{n x:Nat}(a:q.op=.st n (.s x) v)(k:q.guard=none)(hd:q.dst=none)(h:q.wp S O K):
  ∃s off cs cs' o,(AG.s x).place O=some (s,off)/\O.get s=.bx cs/\(∀g e,o=some (g,e)->v=.s g/\(∃t,e=.tv t)/\g≠s)/\K (OU s cs' o O)/\
   ∀env2,(AG.s x).place env2=some (s,off)->env2.get s=.bx cs->v.ev env2=v.ev O->∀i:AB->Prop,i (OU s cs' o env2)->q.wp S env2 i:=by
 unfold PR.wp at h;rw[k,a,hd]at h;simp[AE.wp]at h;split at h
 .rename_i s off w;split at h
  .rename_i cs z;split at h
   .rename_i t hv;cases v with
    |c t=>exact h.elim|s g=>
     simp only at h;simp[AG.ev]at hv;refine⟨s,off,cs,_,some (g,.tv t),w,z,?_,h.2.2.2,fun env2 l u j i b=>?_⟩
     .intro s' A he;simp at he;obtain⟨rfl,rfl⟩:=he;exact⟨rfl,⟨t,rfl⟩,h.1⟩
     .simp[AG.ev]at j;unfold PR.wp;rw[k,a,hd];simp[AE.wp,l,u,AG.ev,j,hv];exact⟨h.1,h.2.1,h.2.2.1,b⟩
   .rename_i t hv;refine⟨s,off,cs,_,none,w,z,by simp,h.2.2,fun env2 l u j i b=>?_⟩;unfold PR.wp;rw[k,a,hd];simp[AE.wp,l,u,j,hv];exact⟨h.1,h.2.1,b⟩
   .exact h.elim
  .exact h.elim
 .exact h.elim
variable{e':AB}
theorem w4{p:PR}{o:Oper}(ho:MV P N ops o p=true){K:AB->Prop}(g:((PR.w2 D p=true\/Abu p=true)\/U4 p=true)\/Aa9 p=true)(H:MR F0 w0 N e')(I:JD D e')(h:p.wp (AU P) e' K):
  ∃og,K og/\MR F0 w0 N og/\JD D og/\∀b:AB->Prop,b og->p.wp (AU P) e' b:=by
 rcases g with((g|g)|g)|g
 rotate_right
 .obtain⟨og,⟨l,Q,R⟩,a⟩:=Ff (K:=fun og=>K og/\(∀c,og.f0 c=e'.f0 c)/\∀b:AB->Prop,b og->p.wp (AU P) e' b) H ho (by
   grind [aL])
  exact ⟨og,l,a,fun d hd=>by rw[Q];exact I d hd,R⟩
 .simp[PR.w2,Bool.not_eq_true']at g;obtain⟨⟨⟨⟨X,Y⟩,Z⟩,pb⟩,pD⟩:=g;obtain⟨dp,T⟩:=Option.isSome_iff_exists.1 Y;have M:p.op.sA=true->p.guard=none:=fun V=>by
   rcases Z with h|h
   .rw[V]at h;cases h
   .simpa using h
  obtain ⟨og,⟨l,ep,fp,L⟩,a⟩:=Ff H ho (PP T X M h);exact⟨og,l,a,L.jd pb I,fun b j=>L.again e' (.refl L.ok) (fun _ _=>rfl) _ (by rw[<-L.og];exact j)⟩
 .unfold Abu at g;split at g
  .rename_i gs d A B C;obtain⟨og,l,a⟩:=Ff (K:=fun og=>K og/\∃cs,((gs.filterMap GC.src).Nodup/\d∉gs.filterMap GC.slot)/\JT e' gs=some cs/\og=(d,.x8 cs)::Qf e' (gs.filterMap GC.slot) e') H ho (by
    obtain ⟨ts,w,z,E⟩:=Us A B C h
    grind [SC])
   obtain ⟨l,ts,w,z,rfl⟩:=l;refine⟨_,l,a,fun x U=>?_,fun b j=>SC A B C w z j⟩;rw[AB.ej,L9,I x U];rfl
  .cases g
 .unfold U4 at g;split at g
  .rename_i n x v A B C;obtain⟨og,⟨l,s,off,cs,cs',o',w,F,z,E,G⟩,a⟩:=Ff (K:=fun og=>K og/\∃s off cs cs' o,(AG.s x).place e'=some (s,off)/\e'.get s=.bx cs/\(∀J e,o=some (J,e)->v=.s J/\(∃t,e=EV.tv t)/\J≠s)/\og=OU s cs' o e'/\
     ∀b:AB->Prop,b (OU s cs' o e')->p.wp (AU P) e' b) H ho (by
    obtain ⟨s,off,cs,cs',o,w,F,z,E,G⟩:=TW A B C h;exact G e' w F rfl _ ⟨E,s,off,cs,cs',o,w,F,z,rfl,fun b j=>G e' w F rfl b j⟩)
   subst E;refine⟨_,l,a,fun d hd=>?_,G⟩;rw[Fr _ _ _ _ _ (fun J e he=>by
    obtain ⟨_,⟨t,rfl⟩,_⟩:=z J e he;rfl)]
   exact I d hd
  .rename_i x v k A B C;obtain⟨og,⟨l,Q,R⟩,a⟩:=Ff (K:=fun og=>K og/\(∀c,og.f0 c=e'.f0 c)/\∀b:AB->Prop,b og->p.wp (AU P) e' b) H ho (by
    simp [PR.wp,A,B,C,AE.wp,AB.put]at h|-;split at h
    .rename_i q i c U;split at h
     .rename_i n es u W hu;obtain⟨w,F,es',z,E,G,h7⟩:=h;refine⟨w,F,es',z,E,G,h7,fun c=>(Ou (es':=es') W).2.2 c,fun b j=>?_⟩
      grind
     .exact h.elim
    .exact h.elim)
   exact ⟨og,l,a,fun d hd=>by rw[Q];exact I d hd,R⟩
  .cases g
variable{rs:List PR}
theorem sG{p q:PR}(a:AaN p q=true)(h:FA (AU P) K (p::q::rs) O):FA (AU P) K (q::p::rs) O:=by
 unfold AaN at a;split at a
 .rename_i gs G cs A j k l o t u;simp only[o4,bne_iff_ne,ne_eq,Bool.not_eq_true',List.contains_eq_mem,decide_eq_false_iff_not]at a;obtain⟨C,w⟩:=a;obtain⟨e',g,h⟩:=h;obtain⟨H,E,F,x,i,c⟩:=Us j k l h;simp[PR.wp,o,t,u,AE.wp,AB.put]at c;obtain⟨b,c⟩:=c;rw[i.2,AB.ej,L9]at b;simp[EV.zt,EV.wi]at b;refine⟨e',g,?_⟩;simp[PR.wp,o,t,u,AE.wp,AB.put];refine⟨b,_,.refl _,SC j k l E (by rw[Z2 _ _ _ _ w];exact F) (H8 c ?_)⟩;have B:A∉gs.filterMap GC.slot:=fun z=>w (pN z);refine⟨fun n=>?_,fun d=>?_⟩
  .rw[AB.eb,i.1,AB.eb,AB.eb,J5,J5]
   grind [AB.eb]
  .rw[AB.ej,i.2,AB.ej,AB.ej,L9,L9,AB.ej]
   grind
 .cases a
variable{og:AB}
theorem gR{S:FuncId->Fq->Ax->Prop}{K:AB->Prop}{m d s:Nat}{cs cs':List AS}{o:Option (Nat×EV)}(a:(∃k,q.op=.bad m k)\/∃k,q.op=.fad (.s m) k)(g:q.guard=none)(hd:q.dst=some d)(A:O.get s=.bx cs)(ho:∀z e,o=some (z,e)->(∃t,e=.tv t)/\z≠m)
  (he:∀n,og.get n=(OU s cs' o O).get n)(h:q.wp S og K):∃e,K ((d,e)::og)/\∀i:AB->Prop,i ((d,e)::O)->q.wp S O i:=by
 have u:og.get m=if s=m then .bx cs' else O.get m:=by
  grind [E9]
 have C:∀r c,og.get r=.bx c->∃l,O.get r=.bx l:=by
  grind [E9]
 unfold PR.wp at h;rcases a with⟨k,a⟩|⟨k,a⟩
 .rw[g,a,hd]at h;simp[AE.wp,AB.put]at h;by_cases e:s=m
  .rw[u,a6 e]at h;refine⟨_,h,fun i b=>?_⟩;unfold PR.wp;rw[g,a,hd];simp[AE.wp,<-e,A,AB.put];rw[<-e]at b;exact b
  .rw[u,ae e]at h;split at h
   .rename_i c j;refine⟨_,h,fun i b=>?_⟩;unfold PR.wp;rw[g,a,hd];simp[AE.wp,j,AB.put];exact b
   .rename_i row j;refine⟨_,h,fun i b=>?_⟩;unfold PR.wp;rw[g,a,hd];simp[AE.wp,j,AB.put];exact b
   .exact h.elim
 .rw[g,a,hd]at h;simp[AE.wp,AB.put,AG.ev]at h;by_cases e:s=m
  .rw[u,a6 e]at h;exact h.elim
  .rw[u,ae e]at h;split at h
   .rename_i row j;refine⟨_,h,fun i b=>?_⟩;unfold PR.wp;rw[g,a,hd];simp[AE.wp,AG.ev,j,AB.put];exact b
   .rename_i r off j;split at h
    .rename_i c B;obtain⟨l,w⟩:=C r c B;refine⟨_,h,fun i b=>?_⟩;unfold PR.wp;rw[g,a,hd];simp[AE.wp,AG.ev,j,w,AB.put];exact b
    .exact h.elim
   .exact h.elim
theorem sF{p q:PR}(C:JD D O)(b:Rr D p q=true)(h:FA (AU P) K (p::q::rs) O):FA (AU P) K (q::p::rs) O:=by
 have key:∃n x v m d,p.op=.st n (.s x) v/\p.guard=none/\p.dst=none/\((∃k,q.op=.bad m k)\/∃k,q.op=.fad (.s m) k)/\q.guard=none/\q.dst=some d/\d∈D/\d≠x/\d∉v.sl/\m∉v.sl:=by
  unfold Rr at b
  grind
 obtain ⟨n,x,v,m,d,F,G,H,I,J,L,M,Q,R,T⟩:=key;obtain⟨e',g,h⟩:=h;have j:=C.congr g.symm;obtain⟨s,off,cs,cs',o,i,B,U,⟨y,u,V⟩,W⟩:=TW F G H h;have l:d≠s:=by
  intro e;subst e;simp[AG.place]at i;split at i
  .rename_i r w E;simp at i;exact j.no (x:=x) (s:=d) (by rw[E,<-i.1];rfl) M
  .grind
  .cases i
 have ho:∀a e,o=some (a,e)->(∃t,e=EV.tv t)/\a≠m:=fun a e he=>by
  grind [AG.sl]
 obtain ⟨e,X,Y⟩:=gR (cs':=cs') (o:=o) (O:=e') I J L B ho u.1 V;refine⟨e',g,Y _ ⟨_,.refl _,W ((d,e)::e') ?_ (by rw[AB.eb,ae l];exact B) ?_ _ (H8 X ?_)⟩⟩
 .grind[AG.place,AB.eb]
 .cases v with
  |c t=>rfl|s a=>
   grind [AG.ev,AB.eb,AG.sl]
 .refine⟨fun z=>?_,fun z=>?_⟩
  .rw[AB.eb,u.1,E9,E9]
   grind [AB.eb,AG.sl]
  .have A:∀a e,o=some (a,e)->e.zt z=true:=fun a e he=>by
    obtain ⟨_,⟨t,rfl⟩,_⟩:=U a e he;rfl
   rw [AB.ej,u.2,Fr _ _ _ _ _ A,Fr _ _ _ _ _ A,AB.ej]
variable{n m:Nat}
theorem mu{e' h:AB}{c:Nat}{o:Option Nat}{es es':Fq}(a:e'.sR c o=some (n,es))(F:es'.length=es.length)(he:∀z,h.get z=AB.get (e'.wB c o n es') z){y q:Nat}{i:Option Nat}{l:Fq}
  (H:h.get y=.la q i)(b:h.sR q i=some (m,l)):e'.get y=.la q i/\∃fs',e'.sR q i=some (m,fs')/\fs'.length=l.length:=by
 obtain ⟨⟨u,I,A⟩,ho,_⟩:=Ou (es':=es') a;have t:c≠y:=by
  grind
 refine ⟨by rw[<-H,he,ho _ t],?_⟩;by_cases G:c=q
 .subst G;cases o with
  |none=>
   have g:h.get c=.xo n es':=by rw[he];simp[AB.wB,AB.eb]
   cases i with
   |none=>
    simp [AB.sR,g]at b;obtain⟨rfl,rfl⟩:=b;exact⟨es,a,F.symm⟩
   |some k=>simp[AB.sR,g]at b
  |some E=>
   rcases A with⟨mm,M,J,_⟩|⟨cs,k,L,B,C,rfl⟩
   .simp[AB.sR,J]at a
   .cases L;have g:h.get c=.bx (cs.set E ⟨true,.xl n es'⟩):=by rw[he,I]
    cases i with
    |none=>simp[AB.sR,g]at b|some k=>
     by_cases j:E=k
     .subst j;have w:E<cs.length:=(List.getElem?_eq_some_iff.1 B).1;simp[AB.sR,g,List.getElem?_set,a6 w]at b;obtain⟨rfl,rfl⟩:=b;exact⟨es,a,F.symm⟩
     .refine⟨l,?_,rfl⟩;rw[<-b];simp[AB.sR,g,C,List.getElem?_set,ae j]
 .exact⟨l,by rw[<-b];exact AB.x9 (by rw[he,ho _ G]),rfl⟩
theorem sO{p q:PR}(hj:JD D O)(a:AaF D p q=true)(h:FA (AU P) K (p::q::rs) O):FA (AU P) K (q::p::rs) O:=by
 unfold AaF at a;split at a
 .rename_i x v k y z m d e1 e2 e3 f1 f2 f3;simp[Bool.not_eq_true',decide_eq_false_iff_not,t2]at a;obtain⟨⟨dD,Y⟩,Z⟩:=a;obtain⟨e',M,h⟩:=h;have V:=hj.congr M.symm;simp only[PR.wp,e1,e2,e3,AE.wp,AB.put]at h;split at h
  .rename_i U i0 c R;split at h
   .rename_i n es u B hu;obtain⟨h1,h2,es',h3,h4,h5,og,A,b⟩:=h;have G:d≠U:=by
     rintro rfl;cases x with
     |c t=>cases R
     |s xs=>exact V.no (x:=xs) (s:=d) (by simp[AG.ev]at R;rw[R];rfl) dD
    simp [PR.wp,f1,f2,f3,AE.wp,AB.put,AG.up]at b;have T:=A.1;obtain⟨⟨w,hw,hww⟩,ho,_⟩:=Ou (es':=es') B;have W:w.val=none:=by rcases hww with⟨_,_,_,_,_,rfl⟩|⟨_,_,_,_,_,rfl⟩<;>rfl
    have X:∀t,z.val og=some t->z.val e'=some t:=by
     intro t E;cases z with
     |c t'=>exact E|s zz=>
      simp [AG.val,AG.ev]at E|-;by_cases l:U=zz
      .subst l;rw[T,hw,W]at E;cases E
      .rw[T,ho _ l]at E;exact E
    have H:∃g i F j Q,og.get y=.la g i/\og.sR g i=some (m,F)/\z.val og=some (.int Q j)/\0<=j/\j<F.length/\FA (AU P) K rs ((d,.lp g i (j.toNat*m))::og):=by
     cases I:og.get y<;>rw[I]at b<;>simp[Al]at b<;>try exact b.elim
     .cases l:z.val og with
      |none=>rw[l]at b;exact b.elim|some t=>
       rw [l]at b;cases t<;>try exact b.elim
       have:=b.1.1;simp[AG.ev,I,EV.wi]at this
     .rename_i g i;cases C:og.sR g i with
      |none=>rw[C]at b;exact b.elim|some pp=>
       obtain ⟨m',F⟩:=pp;rw[C]at b;simp only at b;cases l:z.val og with
       |none=>rw[l]at b;exact b.elim|some t=>
        rw [l]at b;cases t<;>try exact b.elim
        rename_i Q j;obtain⟨⟨_,rfl⟩,k1,k2,k3⟩:=b;exact⟨g,i,F,j,Q,rfl,C,rfl,k1,k2,k3⟩
    obtain ⟨g,i,F,j,Q,m1,m2,m3,m4,m5,m6⟩:=H;obtain⟨n1,fs',n2,n3⟩:=mu B h4 T m1 m2;refine⟨e',M,?_⟩;simp only[PR.wp,f1,f2,f3,AE.wp,AB.put,AG.up,n1,n2,Al,X _ m3,AG.ev,EV.wi];refine⟨⟨trivial,trivial⟩,m4,by rw[n3];exact m5,_,.refl _,?_⟩;have J:∀(o:AG),d∉o.sl->o.ev ((d,.lp g i (j.toNat*m))::e')=o.ev e':=by
     intro o ho;cases o with
     |c t=>rfl|s t=>
      simp only[AG.ev,AB.eb];rw[ae];intro e;exact ho (by simp[AG.sl,e])
    simp only[PR.wp,e1,e2,e3,AE.wp,AB.put,J x Y,J v Z,R,hu];have L:AB.sR ((d,.lp g i (j.toNat*m))::e') U i0=some (n,es):=by rw[AB.x5 G];exact B
    rw [L];refine⟨h1,h2,es',h3,h4,h5,H8 m6 ?_⟩;refine NM.symm (NM.trans (YY (.refl _) G) ⟨fun s=>?_,fun s=>?_⟩)
    .simp[AB.eb,T]
    .simp[AB.ej,A.2]
   .exact h.elim
  .exact h.elim
 .cases a
theorem Ze{O env2:AB}{b:Nat}{o:Option AG}(h:∀y∈o.toList,y.val env2=y.val O):HI env2 b o=HI O b o:=by
 cases o with
 |none=>rfl|some y=>simp[HI];exact h y (by simp)
theorem sU{S:FuncId->Fq->Ax->Prop}{p:AE}{xs:List AG}{K:EV->AB->Prop}(B:p.vops=some xs)(h:p.wp S O d K):
  ∃t,K (.tv t) O/\(∀x∈xs,∃u,x.val O=some u)/\∀env2,(∀x∈xs,x.val env2=x.val O)->∀j:EV->AB->Prop,j (.tv t) env2->p.wp S env2 d j:=by
 cases p<;>simp[AE.vops]at B<;>first|cases B|skip
 case bin k op x y=>
  simp [AE.wp]at h;split at h
  .rename_i a b g w;cases A:L0 k op a b with
   |none=>rw[A]at h;exact h.elim|some t=>
    rw [A]at h;refine⟨t,h,fun z c=>?_,fun env2 he j i=>?_⟩
    .simp at c;rcases c with rfl|rfl
     .exact⟨a,g⟩
     .exact⟨b,w⟩
    .simp[AE.wp,he x (by simp),he y (by simp),g,w,A];exact i
  .exact h.elim
 case fdv x k=>
  simp [AE.wp]at h;split at h
  .rename_i row g;refine⟨_,h,fun z c=>?_,fun env2 he j i=>?_⟩
   .rw[List.mem_singleton]at c;subst c;exact⟨_,g⟩
   .simp[AE.wp,he x (by simp),g];exact i
  .exact h.elim
 case ldv x k=>
  simp [AE.wp]at h;split at h
  .rename_i row g;refine⟨_,h.2,fun z c=>?_,fun env2 he j i=>?_⟩
   .rw[List.mem_singleton]at c;subst c;exact⟨_,g⟩
   .simp[AE.wp,he x (by simp),g];exact⟨h.1,i⟩
  .exact h.elim
 case len x=>
  simp [AE.wp]at h;split at h
  .rename_i n es g;refine⟨_,h,fun z c=>?_,fun env2 he j i=>?_⟩
   .rw[List.mem_singleton.1 c];exact⟨_,g⟩
   .simp[AE.wp,he x (by simp),g];exact i
  .exact h.elim
 case cvt k x=>
  simp [AE.wp]at h;split at h
  .rename_i H n g;refine⟨_,h,fun z c=>?_,fun env2 he j i=>?_⟩
   .rw[List.mem_singleton.1 c];exact⟨_,g⟩
   .simp[AE.wp,he x (by simp),g];exact i
  .exact h.elim
 case mm b x y=>
  simp [AE.wp]at h;split at h
  .rename_i k a H a' g w;refine⟨_,h.2,fun z c=>?_,fun env2 he j i=>?_⟩
   .simp at c;rcases c with rfl|rfl
    .exact⟨_,g⟩
    .exact⟨_,w⟩
   .simp[AE.wp,he x (by simp),he y (by simp),g,w];exact⟨h.1,i⟩
  .exact h.elim
 case slc n x lo hi=>
  simp [AE.wp]at h;split at h
  .rename_i m es g;split at h
   .rename_i C l E r F G;refine⟨_,h.2.2,fun z c=>?_,fun env2 he j i=>?_⟩
    .simp at c;rcases c with rfl|c|c
     .exact⟨_,g⟩
     .cases c;exact⟨_,F⟩
     .cases c;exact⟨_,G⟩
    .have C:HI env2 0 lo=HI O 0 lo:=Ze (fun y o=>he y (by simp at o|-;exact .inr (.inl o)));have E:HI env2 es.length hi=HI O es.length hi:=Ze (fun y o=>he y (by simp at o|-;exact .inr (.inr o)));simp[AE.wp,he x (by simp),g,C,E,F,G];exact⟨h.1,h.2.1,i⟩
   .exact h.elim
  .exact h.elim
theorem sN{p q:PR}(a:AaZ D p q=true)(h:FA (AU P) K (p::q::rs) O):FA (AU P) K (q::p::rs) O:=by
 unfold AaZ at a;split at a
 .rename_i xs d n x v U Q R V W X;simp[bne_iff_ne,Bool.not_eq_true',decide_eq_false_iff_not]at a;obtain⟨⟨⟨_,hdx⟩,G⟩,H⟩:=a;obtain⟨e',I,h⟩:=h;unfold PR.wp at h;rw[Q,R]at h;simp[AB.put]at h;obtain⟨t,⟨y,j,hw⟩,hs,J⟩:=sU U h;obtain⟨s,off,cs,cs',o,h1,L,M,hK,h5⟩:=TW V W X hw;have Y:∀z,d≠z->y.get z=e'.get z:=fun z w=>by rw[j.1,AB.eb,ae w]
  have g:d≠s:=fun e=>by
   rw [j.1,AB.eb,a6 e]at L;cases L
  have Z:(AG.s x).place e'=some (s,off):=by
   grind [AG.place]
  have hb:e'.get s=.bx cs:=by rw[<-Y s g];exact L
  have hv:v.ev e'=v.ev y:=by
   cases v with
   |c t=>rfl|s l=>
    grind [AG.ev,AG.sl]
  have hq:∀k:AB->Prop,k (OU s cs' o e')->q.wp (AU P) e' k:=fun k A=>h5 e' Z hb hv k A;refine⟨e',I,hq _ ⟨_,.refl _,?_⟩⟩;unfold PR.wp;rw[Q,R];simp[AB.put];refine J _ (fun z w=>?_) _ (H8 hK ?_)
  .cases z with
   |c t=>rfl|s m=>
    obtain ⟨u,hu⟩:=hs _ w;have B:¬s=m:=fun e=>by
     grind [AG.val,AG.ev,EV.val]
    simp [AG.val,AG.ev,E9,ae B];cases o with
    |none=>rfl|some b=>
     have C:¬b.1=m:=fun e=>Aw H (x:=m) (List.mem_flatMap.2 ⟨_,w,by simp[AG.sl]⟩) (by rw[(M b.1 b.2 rfl).1,e];simp[AG.sl]);simp[ae C]
  .refine⟨fun z=>?_,fun z=>?_⟩
   .rw[AB.eb,E9,E9];by_cases E:s=z
    .subst E;rw[a6 rfl,ae g,a6 rfl]
    .rw[ae E,ae E];cases o with
     |none=>
      simp only;rw[j.1,AB.eb]
     |some b=>
      have F:¬d=b.1:=fun e=>G (by rw[(M b.1 b.2 rfl).1,e];simp[AG.sl]);simp only;by_cases i:b.1=z
      .rw[a6 i,a6 i,ae (fun e=>F (e.trans i.symm))]
      .rw[ae i,ae i,j.1,AB.eb]
   .have T:∀l e,o=some (l,e)->e.zt z=true:=fun l e he=>by
     obtain ⟨_,⟨t,rfl⟩,_⟩:=M l e he;rfl
    rw [AB.ej,Fr _ _ _ _ _ T,Fr _ _ _ _ _ T,j.2,AB.ej]
 .cases a
theorem sJ{p q:PR}(hj:JD D O)(a:AaY D p q=true)(h:FA (AU P) K (p::q::rs) O):FA (AU P) K (q::p::rs) O:=by
 unfold AaY at a;split at a
 .rename_i b m d n x v R i T Y Z f3;simp[bne_iff_ne,Bool.not_eq_true',decide_eq_false_iff_not,t2]at a;obtain⟨⟨⟨⟨⟨⟨_,bD⟩,hbx⟩,hdx⟩,hdb⟩,M⟩,U⟩:=a;obtain⟨e',G,h⟩:=h;have hj':=hj.congr G.symm;unfold PR.wp at h;rw[R,i,T]at h;simp[AB.put,AE.wp]at h;split at h
  case h_2=>exact h.elim
  rename_i bs hbs;obtain⟨L,y,w,hw⟩:=h;obtain⟨s,off,cs,cs',o,h1,g,B,I,h5⟩:=TW Y Z f3 hw;have gy:∀z,d≠z->y.get z=e'.get z:=fun z W=>by rw[w.1,AB.eb,ae W]
  have l:d≠s:=fun e=>by
   rw [w.1,AB.eb,a6 e]at g;cases g
  have H:(AG.s x).place e'=some (s,off):=by
   grind [AG.place]
  have hsb:¬s=b:=by
   intro e;subst e;simp[AG.place]at H;split at H
   .rename_i r off' hx;simp at H;exact hj'.no (x:=x) (s:=s) (by rw[hx,<-H.1];rfl) bD
   .grind
   .cases H
  have F:e'.get s=.bx cs:=by rw[<-gy s l];exact g
  have hv:v.ev e'=v.ev y:=by
   cases v with
   |c t=>rfl|s E=>
    grind [AG.ev,AG.sl]
  have hq:∀C:AB->Prop,C (OU s cs' o e')->q.wp (AU P) e' C:=fun C X=>h5 e' H F hv C X;refine⟨e',G,hq _ ⟨_,.refl _,?_⟩⟩;have hg:(OU s cs' o e').get b=.bx bs:=by
   grind [E9,AG.sl]
  unfold PR.wp;rw[R,i,T];simp[AB.put,AE.wp,hg];refine⟨L,H8 I ?_⟩;refine⟨fun z=>?_,fun z=>?_⟩
  .rw[AB.eb,E9,E9];by_cases A:s=z
   .subst A;rw[a6 rfl,ae l,a6 rfl]
   .rw[ae A,ae A];cases o with
    |none=>
     simp only;rw[w.1,AB.eb]
    |some j=>
     have J:¬d=j.1:=fun e=>M (by rw[(B j.1 j.2 rfl).1,e];simp[AG.sl]);simp only;by_cases u:j.1=z
     .rw[a6 u,a6 u,ae (fun e=>J (e.trans u.symm))]
     .rw[ae u,ae u,w.1,AB.eb]
  .have L:∀E e,o=some (E,e)->e.zt z=true:=fun E e he=>by
    obtain ⟨_,⟨t,rfl⟩,_⟩:=B E e he;rfl
   rw [AB.ej,Fr _ _ _ _ _ L,Fr _ _ _ _ _ L,w.2,AB.ej]
 .rename_i b k d n x v R i T Y Z f3;simp[bne_iff_ne,Bool.not_eq_true',decide_eq_false_iff_not,t2]at a;obtain⟨⟨⟨_,hdx⟩,M⟩,U⟩:=a;obtain⟨e',G,h⟩:=h;unfold PR.wp at h;rw[R,i,T]at h;obtain⟨V,hn0,Q,y,w,hw⟩:∃V,(∀c,V≠.bx c)/\(∀i:AB,i.get b=e'.get b\/(∃c c',e'.get b=.bx c/\i.get b=.bx c')->∀C:EV->AB->Prop,C V i->(AE.bad b k).wp (AU P) i (some d) C)/\FA (AU P) K (q::rs) ((d,V)::e'):=by
   simp only[AB.put,AE.wp]at h;split at h
   .rename_i F;refine⟨_,by simp,fun i g C I=>?_,h⟩;obtain⟨c',B⟩:∃c',i.get b=.bx c':=by
     rcases g with g|⟨_,c',_,g⟩
     .exact⟨_,g.trans F⟩
     .exact⟨c',g⟩
    simp only[AE.wp,B];exact I
   .rename_i F;refine⟨_,by simp,fun i g C I=>?_,h⟩;have B:i.get b=e'.get b:=g.resolve_right fun⟨c,c',h4,_⟩=>by rw[F]at h4;cases h4
    simp only[AE.wp,B,F];exact I
   .exact h.elim
  obtain ⟨s,off,cs,cs',o,h1,g,B,I,h5⟩:=TW Y Z f3 hw;have gy:∀z,d≠z->y.get z=e'.get z:=fun z W=>by rw[w.1,AB.eb,ae W]
  have l:d≠s:=fun e=>by
   rw [w.1,AB.eb,a6 e]at g;exact hn0 _ g
  have H:(AG.s x).place e'=some (s,off):=by
   grind [AG.place]
  have F:e'.get s=.bx cs:=by rw[<-gy s l];exact g
  have hv:v.ev e'=v.ev y:=by
   cases v with
   |c t=>rfl|s E=>
    grind [AG.ev,AG.sl]
  refine ⟨e',G,h5 e' H F hv _ ⟨_,.refl _,?_⟩⟩;unfold PR.wp;rw[R,i,T];refine Q _ ?_ _ (H8 I ?_)
  .rw[E9];by_cases A:s=b
   .subst A;exact .inr ⟨cs,cs',F,by rw[a6 rfl]⟩
   .rw[ae A];cases o with
    |none=>exact .inl rfl|some j=>
     have:¬j.1=b:=fun e=>U (by rw[(B j.1 j.2 rfl).1,e];simp[AG.sl]);simp only;rw[ae this];exact .inl rfl
  refine ⟨fun z=>?_,fun z=>?_⟩
  .simp only[AB.put];rw[AB.eb,E9,E9];by_cases A:s=z
   .subst A;rw[a6 rfl,ae l,a6 rfl]
   .rw[ae A,ae A];cases o with
    |none=>
     simp only;rw[w.1,AB.eb]
    |some j=>
     have J:¬d=j.1:=fun e=>M (by rw[(B j.1 j.2 rfl).1,e];simp[AG.sl]);simp only;by_cases u:j.1=z
     .rw[a6 u,a6 u,ae (fun e=>J (e.trans u.symm))]
     .rw[ae u,ae u,w.1,AB.eb]
  .have L:∀E e,o=some (E,e)->e.zt z=true:=fun E e he=>by
    obtain ⟨_,⟨t,rfl⟩,_⟩:=B E e he;rfl
   simp only[AB.put];rw[AB.ej,Fr _ _ _ _ _ L,Fr _ _ _ _ _ L,w.2,AB.ej]
 .cases a
theorem gX{oq:Oper}(u:MV P N ops oq q=true){b:List PR}:∀(a:List PR),(∀p∈a,AaH D p q=true/\∃o,MV P N ops o p=true)->∀{O:AB},MR F0 w0 N O->JD D O->FA (AU P) K (a++q::b) O->FA (AU P) K (q::(a++b)) O
 |[],_,O,_,_,h=>h|p::a,g,O,B,C,h=>by
  obtain ⟨c,o,ho⟩:=g p (by simp);obtain⟨e',i,h⟩:=h;obtain⟨og,A,k,l,j⟩:=w4 ho (b7 c) (B.congr i.symm) (C.congr i.symm) h;have z:=gX u a (fun p w=>g p (by simp[w])) k l A;have t:FA (AU P) K (p::q::(a++b)) O:=⟨e',i,j _ z⟩;simp[AaH]at c
  grind [swap,pQ,sG,sM,sP,sF,sO,sN,sJ,sI,sH,sQ,sL,sK]
variable{x:AG}
theorem ug{S:FuncId->Fq->Ax->Prop}{K:EV->AB->Prop}(h:(AE.st n x v).wp S O d K):(AE.st n x v).wp S O d fun e env'=>K e env'/\e=.undef/\∀c,env'.f0 c=O.f0 c:=by
 simp [AE.wp]at h|-;split at h
 .rename_i s off a;split at h
  .rename_i cs b;split at h
   .grind[AB.ej,EV.zt,EV.wi]
   .grind[AB.ej,EV.zt,EV.wi]
   .exact h.elim
  .exact h.elim
 .exact h.elim
variable{s:Nat}
theorem qj{S:FuncId->Fq->Ax->Prop}{K:EV->AB->Prop}(h:(AE.stb n s v).wp S O d K):(AE.stb n s v).wp S O d fun e env'=>K e env'/\e=.undef/\∀c,env'.f0 c=O.f0 c:=by
 simp [AE.wp]at h|-;split at h
 .rename_i cs a;split at h
  .grind[AB.ej,EV.zt,EV.wi]
  .grind[AB.ej,EV.zt,EV.wi]
  .exact h.elim
 .exact h.elim
theorem V8(O:AB)(q:Nat)(i:Option Nat)(n:Nat)(es:Fq)(c:Nat):AB.f0 c (O.wB q i n es)=AB.f0 c O:=by
 cases i with
 |none=>simp[AB.wB,AB.ej,EV.zt,EV.wi]|some k=>
  grind [AB.wB,AB.ej,EV.zt,EV.wi]
theorem qe{S:FuncId->Fq->Ax->Prop}{q:Nat}{K:EV->AB->Prop}(h:(AE.cpt x q).wp S O d K):(AE.cpt x q).wp S O d fun e env'=>K e env'/\e=.undef/\∀c,env'.f0 c=O.f0 c:=by
 simp [AE.wp]at h|-;split at h
 .grind[AB.ej,EV.zt,EV.wi]
 .grind[AB.ej,EV.zt,EV.wi]
 .exact h.elim
theorem qn{S:FuncId->Fq->Ax->Prop}{k:Nat}{K:EV->AB->Prop}(h:(AE.xst x v k).wp S O d K):(AE.xst x v k).wp S O d fun e env'=>K e env'/\e=.undef/\∀c,env'.f0 c=O.f0 c:=by
 simp [AE.wp]at h|-;split at h
 .grind[V8]
 .exact h.elim
theorem fF(O:AB)(q i:Nat)(es:Fq)(c:Nat):AB.f0 c (O.AbC q i es)=AB.f0 c O:=by grind[AB.AbC,AB.ej,EV.zt,EV.wi]
theorem qh{S:FuncId->Fq->Ax->Prop}{K:EV->AB->Prop}(h:(AE.nst x v).wp S O d K):(AE.nst x v).wp S O d fun e env'=>K e env'/\e=.undef/\∀c,env'.f0 c=O.f0 c:=by
 simp [AE.wp]at h|-
 grind [fF]
theorem qk{S:FuncId->Fq->Ax->Prop}{a:List (Option AS)}{K:EV->AB->Prop}(h:(AE.stq n a x v).wp S O d K):(AE.stq n a x v).wp S O d fun e env'=>K e env'/\e=.undef/\∀c,env'.f0 c=O.f0 c:=by
 simp [AE.wp]at h|-;split at h
 .rename_i s off t g hv;split at h
  .rename_i cs i;cases b:EP a t.cells with
   |none=>rw[b]at h;exact h.elim|some ds=>
    grind [AB.ej,EV.zt,EV.wi]
  .exact h.elim
 .exact h.elim
theorem qf{S:FuncId->Fq->Ax->Prop}{m x v:AG}{K:EV->AB->Prop}(h:(AE.mup s m x v).wp S O d K):(AE.mup s m x v).wp S O d fun e env'=>K e env'/\e=.undef/\∀c,env'.f0 c=O.f0 c:=by
 simp [AE.wp]at h|-;split at h
 .rename_i b a g t i j k;split at h
  .grind[AB.ej,EV.zt,EV.wi]
  .exact h.elim
 .exact h.elim
theorem ql{S:FuncId->Fq->Ax->Prop}{n s q:Nat}{K:EV->AB->Prop}(h:(AE.stx n s q).wp S O d K):(AE.stx n s q).wp S O d fun e env'=>K e env'/\e=.undef/\∀c,env'.f0 c=O.f0 c:=by
 simp [AE.wp]at h|-
 grind [AB.ej,EV.zt,EV.wi]
theorem km{S:FuncId->Fq->Ax->Prop}{f:FuncId}{a:List AG}{K:EV->AB->Prop}(h:(AE.Aar f x a).wp S O d K):(AE.Aar f x a).wp S O d fun e env'=>K e env'/\e.wi=none/\∀c,env'.f0 c=O.f0 c:=by
 simp only[AE.wp]at h|-;cases b:x.up O with
 |none=>rw[b]at h;exact h.elim|some p=>
  cases hv:vals O a with
  |none=>rw[b,hv]at h;exact h.2.elim|some u=>
   rw [b,hv]at h;obtain⟨j,zs,g,k,l,o,t⟩:=h;refine⟨j,zs,g,k,l,o,fun i=>⟨t i,?_,fun c=>V8 _ _ _ _ _ c⟩⟩;unfold EV.ofs;split<;>rfl
variable{r:PR}
theorem oH{S:FuncId->Fq->Ax->Prop}{K:AB->Prop}(J:aK D r=true)(hd:NR r.op=true->r.dst=none)(a:JD D O)(h:r.wp S O K):r.wp S O fun env'=>K env'/\JD D env':=by
 simp [aK,Bool.not_eq_true']at J;rcases J with(((((A|H)|k)|W)|X)|I)|⟨⟨⟨hm,i⟩,L⟩,o⟩
 rotate_right 2
 .unfold okCm at I;split at I
  .rename_i f x ys d t u;have put:∀e:EV,e.wi=none->∀env':AB,(∀c,env'.f0 c=O.f0 c)->JD D (env'.put r.dst e):=fun e he env' R c Y=>by
    rw [u];show AB.f0 c ((d,e)::env')=true;rw[AB.ej,R,a c Y];simp[EV.zt,he]
   have w:(r.op.wp S O r.dst fun e env'=>K (env'.put r.dst e))->r.op.wp S O r.dst fun e env'=>K (env'.put r.dst e)/\JD D (env'.put r.dst e):=fun l=>by
    rw [t]at l|-;exact AE.ns S O _ (fun e env' he=>⟨he.1,put e he.2.1 env' he.2.2⟩) _ (km l)
   unfold PR.wp at h|-;split
   .rename_i L;rw[L]at h;exact w h
   .rename_i g b L;rw[L]at h;simp only at h;split
    .rename_i q k;rw[k]at h;exact⟨fun o=>w (h.1 o),fun o=>⟨h.2 o,put .sk rfl O fun _=>rfl⟩⟩
    .rename_i C;rw[C]at h;exact⟨h,put .sk rfl O fun _=>rfl⟩
    .rename_i E F;split at h
     .rename_i q k;exact absurd k (E q)
     .rename_i k;exact absurd k F
     .exact h.elim
  .cases I
 rotate_right
 .exact PR.ns _ _ (fun env' he=>⟨he.1,fun x B=>by rw[he.2];exact a x B⟩) r (ky X h)
 rotate_left 4
 .obtain⟨og,k1,k2,k3⟩:=aL W h;exact k3 _ ⟨k1,fun x B=>by rw[k2];exact a x B⟩
 rotate_left 1
 .have i:=hd A;have w:(r.op.wp S O r.dst fun e env'=>K (env'.put r.dst e))->r.op.wp S O r.dst fun e env'=>K (env'.put r.dst e)/\JD D (env'.put r.dst e):=by
   intro l;rw[i]at l|-;generalize r.op=p at A l|-;cases p<;>simp[NR]at A<;>first|cases A|skip
   .refine AE.ns S O none (fun e env' he=>⟨he.1,fun d hd=>?_⟩) _ (ug l);simp[AB.put];rw[he.2.2];exact a d hd
   .refine AE.ns S O none (fun e env' he=>⟨he.1,fun d hd=>?_⟩) _ (qj l);simp[AB.put];rw[he.2.2];exact a d hd
   .refine AE.ns S O none (fun e env' he=>⟨he.1,fun d hd=>?_⟩) _ (qn l);simp[AB.put];rw[he.2.2];exact a d hd
   .refine AE.ns S O none (fun e env' he=>⟨he.1,fun d hd=>?_⟩) _ (ql l);simp[AB.put];rw[he.2.2];exact a d hd
   .refine AE.ns S O none (fun e env' he=>⟨he.1,fun d hd=>?_⟩) _ (qe l);simp[AB.put];rw[he.2.2];exact a d hd
   .refine AE.ns S O none (fun e env' he=>⟨he.1,fun d hd=>?_⟩) _ (qh l);simp[AB.put];rw[he.2.2];exact a d hd
   .refine AE.ns S O none (fun e env' he=>⟨he.1,fun d hd=>?_⟩) _ (qk l);simp[AB.put];rw[he.2.2];exact a d hd
   .refine AE.ns S O none (fun e env' he=>⟨he.1,fun d hd=>?_⟩) _ (qf l);simp[AB.put];rw[he.2.2];exact a d hd
  unfold PR.wp at h|-;split
  .grind
  .rename_i g b hr;rw[hr]at h;simp only at h;split
   .rename_i q k;rw[k]at h;exact⟨fun o=>w (h.1 o),fun o=>⟨h.2 o,by rw[i];exact a⟩⟩
   .rename_i C;rw[C]at h;exact⟨h,by rw[i];exact a⟩
   .rename_i E F;split at h
    .rename_i q k;exact absurd k (E q)
    .rename_i k;exact absurd k F
    .exact h.elim
 .unfold Abu at H;split at H
  .rename_i gs d t u G;obtain⟨ts,Q,U,V⟩:=Us t u G h;refine SC t u G Q U ⟨V,fun x B=>?_⟩;rw[AB.ej,L9,a x B];rfl
  .cases H
 .unfold okQ at k;split at k
  .rename_i s d t u G;obtain⟨n,es,Q,h2,U,V⟩:=dz t u G h;refine d8 t u G Q h2 U ⟨V,fun x B=>?_⟩;have:=a x B;simp[AB.ej,EV.zt,EV.wi,this]
  .rename_i n s z x d t u G;simp[PR.wp,t,u,G,AE.wp,AB.put]at h|-;split at h
   .rename_i d' m es kk j M hs B;simp at M;subst M;refine⟨h.1,h.2.1,h.2.2.1,h.2.2.2,fun y Z=>?_⟩;have:=a y Z;simp[AB.ej,EV.zt,EV.wi,this]
   .exact h.elim
  .cases k
 .obtain⟨d,hd⟩:=Option.isSome_iff_exists.1 i;have T:r.op.sA=true->r.guard=none:=fun R=>by
   rcases L with h|h
   .rw[R]at h;cases h
   .simpa using h
  refine PR.ns S O (fun env' he=>?_) r (PP hd hm T h);obtain⟨Q,e,f,hF⟩:=he;exact⟨Q,hF.jd o a⟩
theorem kX{S:FuncId->Fq->Ax->Prop}{a:Act}{w:World}:∀{O:AB},SY rs=true->FA S K rs O->Bu F0 w0 O a w->∃env',K env'/\Bu F0 w0 env' a w:=by
 induction rs with
 |nil=>intro O _ h b;obtain⟨e,g,i⟩:=h;exact⟨e,i,b.congr fun n=>(g.1 n).symm⟩
 |cons r rs u=>
  intro O c h b;simp[SY]at c;obtain⟨g,i⟩:=c;obtain⟨e',j,h⟩:=h;have b:=b.congr (fun n=>(j.1 n).symm);split at g
  .rename_i s k l o;simp[PR.wp,k,l,o,AE.wp]at h;split at h
   .rename_i cs t;obtain⟨G,b⟩:=b;exact u i h (b.frz t)
   .exact h.elim
  .cases g
theorem SZ:∀(os:List Oper)(rs:List PR),Mf P N ops os rs=true->(∀i o,os[i]?=some o->MV P N ops o (N4 rs i)=true)/\SY (rs.drop os.length)=true/\rs=(List.range os.length).map (N4 rs)++rs.drop os.length
 |[],rs,h=>⟨fun i o h=>by simp at h,h,by simp⟩|o::os,[],h=>by simp[Mf]at h|o::os,r::rs,h=>by
  simp [Mf]at h;obtain⟨b,c,g⟩:=SZ os rs h.2;refine⟨fun i a hi=>?_,by simpa using c,?_⟩
  .cases i with
   |zero=>simp[List.getElem?_cons_zero]at hi;subst hi;exact h.1|succ i=>simp[List.getElem?_cons_succ]at hi;exact b i a hi
  .rw[cE,List.range_succ_eq_map,List.map_cons,List.map_map,List.cons_append,List.drop_succ_cons];congr 1
theorem gh{Q:Exit->Act->World->Prop}(hok:Tk P N D ops rs=true)(hpd:∀i v,p=some (i,v)->∀r∈rs,r.dst≠some i)(hQ:∀O a w,K O->LK N p a->Bu F0 w0 O a w->Q .normal a w):
  ∀(fuel:Nat)(rem:Ne)(b:Array Bool)(O:AB)(a:Act)(w:World),rem.length=fuel->rem.Pairwise (·<·)->(∀j,j∈rem↔j<ops.size/\b.getD j true=false)->b.size=ops.size ->
   (∀k o,ops[k]?=some o->b.getD k false=true->∀e∈o.after,Region.binds .any e=true->b.getD e.on false=true) ->
   LK N p a->Bu F0 w0 O a w->JD D O->FA (AU P) K (rem.map (N4 rs)++rs.drop ops.size) O->wpAny P .any ops Q fuel b a w:=by
 simp only[Tk,o4,List.all_eq_true,List.mem_range]at hok;obtain⟨⟨⟨⟨hl,hs⟩,he⟩,hM⟩,hP⟩:=hok;obtain⟨F,hl2,hl3⟩:=SZ ops.toList rs hl;simp[Array.getElem?_toList]at F hl2 hl3;intro fuel
 induction fuel with
 |zero=>
  intro rem b O a w u T c hsz U hN hI R h;have:rem=[]:=List.eq_nil_of_length_eq_zero u;subst this;refine⟨?_,?_⟩
  .refine List.eq_nil_iff_forall_not_mem.2 fun j I=>?_;rw[mem_ready]at I;obtain⟨H,o,ho,_⟩:=I;have:=(c j).2 ⟨(Array.getElem?_eq_some_iff.1 ho).1,H⟩;cases this
  .obtain⟨env',H,t⟩:=kX hl2 h hI;exact hQ env' a w H hN t
 |succ fuel ih=>
  intro rem b O a w u T c hsz U hN hI R h;refine⟨fun hnil=>?_,fun i hi=>?_⟩
  ·
   exfalso;cases rem with
   |nil=>simp at u|cons i rem=>
    have H:=(c i).1 (by simp);have l:i∈Region.ready .any ops b:=by
     rw [mem_ready];have ho:ops[i]?=some ops[i]:=Array.getElem?_eq_getElem H.1;refine⟨H.2,_,ho,fun e A J=>?_⟩;have:=he i H.1;rw[ho]at this;simp only[List.all_eq_true,Bool.or_eq_true,Bool.not_eq_true',t2]at this;have hlt:=(this e (by simpa using A)).resolve_left (by simp[J]);cases E:b.getD e.on false with
     |true=>rfl|false=>
      have V:e.on∈i::rem:=by
       refine (c _).2 ⟨by omega,?_⟩;have:e.on<b.size:=by omega
       simp [Array.getD_eq_getD_getElem?,Array.getElem?_eq_getElem this]at E|-;exact E
      rcases List.mem_cons.1 V with t|t
      .omega
      .have:=(List.pairwise_cons.1 T).1 _ t;omega
    rw [hnil]at l;cases l
  .have hi':=hi;rw[mem_ready]at hi';obtain⟨hi1,o,ho,hi2⟩:=hi';have l:i<ops.size:=(Array.getElem?_eq_some_iff.1 ho).1;have hir:i∈rem:=(c i).2 ⟨l,hi1⟩;obtain⟨G,z,rfl⟩:=List.append_of_mem hir;have g:=List.pairwise_append.1 T;have L:∀j∈G,j<i:=fun j R=>g.2.2 j R i (by simp);have X:∀j∈z,i<j:=fun j R=>(List.pairwise_cons.1 g.2.1).1 j R;have before:∀(k:Nat),k<ops.size->(∀o,ops[k]?=some o->∀e∈o.after,Region.binds .any e=true->b.getD e.on false=true)->∀j,j<ops.size->((nF ops).getD k 0).testBit j=true->b.getD j false=true:=by
    intro k
    induction k using Nat.strongRecOn with
    |_ k ihk=>
     intro hk hdir j C J;have:=hM k hk j C;rw[J]at this;simp only[Bool.not_true,Bool.false_or]at this;split at this
     .rename_i ok hok';simp only[List.any_eq_true,o4,Bool.or_eq_true,beq_iff_eq,t2]at this;obtain⟨e,A,hbe,h3⟩:=this;have E:=hdir ok hok' e (by simpa using A) hbe;rcases h3 with h3|⟨h3,h4⟩
      .rw[<-h3];exact E
      .exact ihk e.on h3 (by omega) (fun M B e' he' hb'=>U e.on M B E e' he' hb') j C h4
     .cases this
   have hwp:FA (AU P) K (N4 rs i::(G.map (N4 rs)++(z.map (N4 rs)++rs.drop ops.size))) O:=by
    refine gX (ops:=ops) (F0:=F0) (w0:=w0) (N:=N) (oq:=o) (F i o ho) (G.map (N4 rs)) (fun p hp=>?_) ⟨a,w,hN.size,hI⟩ R (by simpa using h);obtain⟨j,hj1,rfl⟩:=List.mem_map.1 hp;have hlt:=L j hj1;have C:j<ops.size:=by omega
    refine ⟨?_,ops[j],F j _ (Array.getElem?_eq_getElem C)⟩;have:=hP i l j hlt;rw[Bool.or_eq_true]at this;refine this.resolve_left fun J=>?_;have H:=before i l (fun M B=>by rw[ho]at B;simp at B;subst B;exact hi2) j C J;have t:=((c j).1 (by simp[hj1])).2;have:j<b.size:=by omega
    simp [Array.getD_eq_getD_getElem?,Array.getElem?_eq_getElem this]at H t;rw[H]at t;cases t
   obtain ⟨e',heq,hw⟩:=hwp;have hI':=hI.congr (fun n=>(heq.1 n).symm);have I:=R.congr heq.symm;have hstd:NR (N4 rs i).op=true->(N4 rs i).dst=none:=by
    intro hst;have:=F i o ho;simp[MV]at this;have t:=this.2;split at t
    .simp only[hst,Bool.not_true,Bool.and_false,Bool.false_and]at t;cases t
    .assumption
    .cases t
   have hw':=oH (hs i l) hstd I hw;have Y:∀j,j∈G++z↔j<ops.size/\(b.setIfInBounds i true).getD j true=false:=by
    intro j;by_cases Z:j=i
    .subst Z;constructor
     .intro V;rcases List.mem_append.1 V with V|V
      .have:=L _ V;omega
      .have:=X _ V;omega
     .rintro⟨_,t⟩;have:j<b.size:=by omega
      simp [this]at t
    .rw[getD_set_ne true (fun e=>Z e.symm),<-c j];simp[Z]
   have hcl':∀k M,ops[k]?=some M->(b.setIfInBounds i true).getD k false=true->∀e∈M.after,Region.binds .any e=true->(b.setIfInBounds i true).getD e.on false=true:=by
    intro k M hk hlk e A J;refine getD_set_true ?_;by_cases hki:k=i
    .subst hki;rw[ho]at hk;simp at hk;subst hk;exact hi2 e A J
    .rw[getD_set_ne false (fun e=>hki e.symm)]at hlk;exact U k M hk hlk e A J
   have hpdi:∀j v,p=some (j,v)->(N4 rs i).dst≠some j:=by
    intro j v hp;unfold N4;cases hr:rs[i]? with
    |none=>simp|some r=>exact hpd j v hp r (List.mem_of_getElem? hr)
   have:=U6 (Q:=Q) (next:=wpAny P .any ops Q fuel (b.setIfInBounds i true)) hI' hN hpdi (F i o ho) hw' fun env' a' w' k1 k2 k3=>
    ih (G++z) _ env' a' w' (by simp at u|-;omega) (List.pairwise_append.2 ⟨g.1,(List.pairwise_cons.1 g.2.1).2,fun x hx y hy=>g.2.2 x hx y (by simp[hy])⟩) Y (by simpa using hsz) hcl' k2 k3 k1.2 (by simpa using k1.1)
   unfold Go.wpOp;rw[ho];simp;split
   .rename_i W;rw[a6 W]at this;exact .inl this
   .rename_i W;rw[ae W]at this;exact this
theorem XU:∀(ds:Ne)(O:AB),Ri O ds=true->JD ds O
 |[],O,_=>fun d hd=>by simp at hd|d::ds,O,h=>by
  simp [Ri]at h;intro x a;rcases List.mem_cons.1 a with rfl|a
  .exact h.1
  .exact XU ds O h.2 x a
theorem L4(J:P.follows .mixedOrders=true):LJ P N (Tk P N):=by
 intro F0 w0 p id ds ops rs g O a w K Q z B X c hd h Y;refine wp_region_any J ?_;have l:=z;simp[Tk]at l;obtain⟨_,_,E⟩:=SZ ops.toList rs l.1.1.1.1;simp at E;have C:Bu F0 w0 O a {w with drawn:=w.drawn+1}:=by
  obtain ⟨G,c⟩:=c;refine⟨G,c.nd,c.lt,⟨c.below.os,c.below.tape,c.below.output,c.below.size,c.below.block,c.below.cell,c.below.free,c.below.tab⟩,c.defers,c.dom,fun s L=>?_,c.wf⟩;exact AN.kept (w:=w) (w':={w with drawn:=w.drawn+1}) (F:=AT w0.heap.size F0 G) (G:=G) (O:=O) (a:=a) (fun b o u M R=>⟨M,R⟩) (fun _=>rfl) (fun _ _ _ _=>rfl) rfl (fun _ _ _ _ _=>rfl) (fun r i k H T=>⟨T,fun v hv=>by cases k<;>exact hv⟩) (fun r off H t=>⟨t,rfl⟩) (fun r i H t=>⟨t,fun _ hv=>hv⟩) (c.slots s L)
 refine gh (K:=fun e=>K (e.ff g)) (F0:=F0) (w0:=w0) z B (fun O a w U V W=>Y _ a w U V (W.ff g)) ops.size (List.range ops.size) _ O a _ (by simp) List.pairwise_lt_range (fun j=>?_) (by simp) (fun k o Z A=>?_) X C (XU ds O hd) ?_
 .rw[List.mem_range];constructor
  .intro I;exact⟨I,by simp[Array.getD_eq_getD_getElem?,Array.getElem?_replicate,I]⟩
  .exact fun h=>h.1
 .simp[Array.getD_eq_getD_getElem?,Array.getElem?_replicate]at A;split at A<;>simp at A
 grind [j8]
end
end Go.Sf
