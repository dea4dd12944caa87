/- Operations that take a list of one's own, in drawn regions. -/
import Derived.Test.YtagcclhejecceaaGreatSfSwap
set_option linter.all false
namespace Go.Sf
def AE.tkn:AE->Option Ne
 |.ym _=>some []|.yd _=>some []|.yW s=>some [s]|.x4 _ s _=>some [s]|.yv q=>some [q]|.wP gs=>some (gs.filterMap GC.slot)|_=>none
def AE.xe:AE->Bool
 |.wP _=>true|_=>false
def NW(u:Nat->EV)(qs:Ne)(U:AB):AB:=qs.map (fun q=>(q,u q))++U
theorem Nw(u:Nat->EV)(qs:Ne)(U:AB)(n:Nat):AB.get (NW u qs U) n=if n∈qs then u n else U.get n:=by
 induction qs with
 |nil=>rfl|cons q qs a=>
  grind [NW,AB.d4]
theorem GG{u:Nat->EV}(b:∀q,(u q).we=none)(qs:Ne)(U:AB)(c:Nat):AB.f0 c (NW u qs U)=AB.f0 c U:=by
 induction qs with
 |nil=>rfl|cons q qs a=>
  simp only[NW,List.map_cons,List.cons_append,AB.ea]at a|-;rw[a,EV.wL,b];rfl
theorem U7(a:AB):∀(qs:Ne)(U:AB),Mm a qs U=NW (fun n=>(a.get n).gave) qs U
 |[],_=>rfl|q::qs,U=>by
  simp only[Mm,U7 a qs U,NW,List.map_cons,List.cons_append]
theorem iN(e:EV):e.gave.we=none:=by cases e<;>rfl
theorem ZP{gs:List GC}{q:Nat}(h:q∈gs.filterMap GC.slot):q∈gs.flatMap GC.sl:=by
 rw [List.mem_filterMap]at h;obtain⟨g,a,e⟩:=h;rw[List.mem_flatMap];refine⟨g,a,?_⟩;cases g<;>simp[GC.slot]at e<;>simp[GC.sl,e]
structure cb(S:FuncId->Fq->Am->Prop)(op:AE)(u:Nat->EV)(qs:Ne)(d:Nat)(U:AB)(e:EV):Prop where
 dno:U.f0 d=true
 yB:e.we=none
 yl:∀q,(u q).we=none
 slbx:∀n∈op.slots,∀cs,U.get n≠.bx cs
 sub:∀n∈qs,n∈op.slots
 again:∀env2,(∀n∈op.slots,env2.get n=U.get n)->env2.f0 d=true->∀K2:EV->AB->Prop,K2 e (NW u qs env2)->op.wp S env2 (some d) K2
variable{y:AF}
theorem qe{U env2:AB}(h:∀n∈y.sl,env2.get n=U.get n):y.val env2=y.val U:=by
 cases y with
 |c t=>rfl|s n=>simp only[AF.val,AF.ev,h n (by simp[AF.sl])]
variable{U:AB}{t:TV}
theorem qc(h:y.val U=some t):∀n∈y.sl,∀cs,U.get n≠.bx cs:=by
 intro n a cs b;cases y with
 |c t=>simp[AF.sl]at a|s m=>
  grind [AF.sl,List.mem_singleton,AF.val,AF.ev,EV.val]
theorem iP{U env2:AB}{g:GC}(h:∀n∈g.sl,env2.get n=U.get n):g.cell env2=g.cell U:=by
 cases g with
 |z c=>rfl|v x k n=>
  cases x with
  |c t=>rfl|s m=>simp only[GC.cell,AF.val,AF.ev,h m (by simp[GC.sl])]
 |w q=>simp only[GC.cell,h q (by simp[GC.sl])]|g q k n=>simp only[GC.cell,h q (by simp[GC.sl])]
theorem Xc{U env2:AB}:∀{gs:List GC},(∀n∈gs.flatMap GC.sl,env2.get n=U.get n)->FA env2 gs=FA U gs
 |[],_=>rfl|g::gs,h=>by
  rw [List.flatMap_cons]at h;simp only[FA,iP (g:=g) fun n a=>h n (Ci a),Xc (gs:=gs) fun n a=>h n (DL a)]
theorem Xb:∀{gs:List GC}{cs:List AN},FA U gs=some cs->∀n∈gs.flatMap GC.sl,∀ds,U.get n≠.bx ds
 |[],_,_,n,a,_=>by simp at a|g::gs,cs,h,n,a,ds=>by
  simp only[FA]at h;split at h
  .rename_i c cs' b i;rw[List.flatMap_cons,List.mem_append]at a;rcases a with a|a
   .intro j;cases g with
    |z c=>simp[GC.sl]at a|v x k m=>
     cases x with
     |c t=>simp[GC.sl]at a|s q=>simp[GC.sl]at a;subst a;simp[GC.cell,AF.val,AF.ev,j,EV.val]at b
    |w q=>simp[GC.sl]at a;subst a;simp[GC.cell,j]at b|g q k m=>simp[GC.sl]at a;subst a;simp[GC.cell,j]at b
   .exact Xb i n a ds
  .cases h
variable{qs:Ne}{d:Nat}
theorem take{S:FuncId->Fq->Am->Prop}{op:AE}{K:EV->AB->Prop}(i:op.tkn=some qs)(C:op.xe=true->U.f0 d=true)(h:op.wp S U (some d) K):∃e u,cb S op u qs d U e/\K e (NW u qs U):=by
 cases op<;>simp only[AE.tkn,reduceCtorEq,tg]at i
 case yd n=>
  subst i;simp only[AE.wp]at h;exact⟨_,fun _=>.undef,⟨h.1,rfl,fun _=>rfl,by simp[AE.slots],by simp,fun env2 _ a j b=>⟨a,b⟩⟩,h.2⟩
 case ym n=>
  subst i;simp only[AE.wp]at h;exact⟨_,fun _=>.undef,⟨h.1,rfl,fun _=>rfl,by simp[AE.slots],by simp,fun env2 _ a j b=>⟨a,b⟩⟩,h.2⟩
 case yW s=>
  subst i;simp only[AE.wp]at h;split at h
  .rename_i B n es hd k;simp only[tg]at hd;subst hd;refine⟨.xo n es,fun _=>.undef,⟨h.1,rfl,fun _=>rfl,fun m F cs z=>?_,by simp[AE.slots],fun env2 g a j b=>?_⟩,h.2.2⟩
   .grind[AE.slots,List.mem_singleton]
   .have:=g s (by simp[AE.slots]);simp only[AE.wp,this,k];exact⟨a,h.2.1,b⟩
  .exact h.elim
 case yv q=>
  subst i;simp only[AE.wp]at h;split at h
  .rename_i B n w hd k;simp only[tg]at hd;subst hd;refine⟨.x1 n w,fun _=>.undef,⟨h.1.1,rfl,fun _=>rfl,fun m F cs z=>?_,by simp[AE.slots],fun env2 g a j b=>?_⟩,h.2⟩
   .grind[AE.slots,List.mem_singleton]
   .have:=g q (by simp[AE.slots]);simp only[AE.wp,this,k];exact⟨⟨a,h.1.2⟩,b⟩
  .exact h.elim
 case x4 n s y=>
  subst i;simp only[AE.wp]at h;split at h
  .rename_i B m es m' w hd k G;simp only[tg]at hd;subst hd;obtain⟨J,L,M,O,Q,R⟩:=h;refine⟨.xo n (es++w),fun _=>.undef,⟨O,rfl,fun _=>rfl,fun x A cs z=>?_,by simp[AE.slots],fun env2 g a j b=>?_⟩,R⟩
   .grind[AE.slots,qc]
   .have H:=g s (by simp[AE.slots]);have I:=qe (U:=U) (env2:=env2) (y:=y) (fun x A=>g x (by simp[AE.slots,A]));simp only[AE.wp,H,k,I,G];exact⟨J,L,M,a,Q,b⟩
  .exact h.elim
 case wP gs=>
  subst i;simp only[AE.wp]at h;obtain⟨g,l⟩:=h;cases c:FA U gs with
  |none=>rw[c]at l;exact l.elim|some cs=>
   rw [c]at l;refine⟨.wQ cs,fun n=>(U.get n).gave,⟨C rfl,rfl,fun _=>iN _,Xb c,fun n o=>ZP o,fun env2 a _ j b=>?_⟩,by rw[<-U7];exact l⟩;simp only[AE.wp,Xc a,c];refine⟨g,?_⟩;have:Mm env2 (gs.filterMap GC.slot) env2=NW (fun n=>(U.get n).gave) (gs.filterMap GC.slot) env2:=by
    rw [U7];unfold NW;congr 1;exact List.map_congr_left fun n o=>by simp only[a n (ZP o)]
   simp only[AX,this];exact b
def PR.tk(r:PR):Option (Ne×Nat):=
 match r.op.tkn,r.guard,r.dst with
 |some qs,none,some d=>some (qs,d)|_,_,_=>none
variable{r:PR}
theorem PR.tk_some(h:r.tk=some (qs,d)):r.op.tkn=some qs/\r.guard=none/\r.dst=some d:=by
 unfold PR.tk at h
 grind
theorem Wb{S:FuncId->Fq->Am->Prop}{K:AB->Prop}(g:r.tk=some (qs,d))(i:r.op.xe=true->U.f0 d=true)(h:r.wp S U K):∃e u,cb S r.op u qs d U e/\K ((d,e)::NW u qs U)/\
  ∀env2,(∀n∈r.op.slots,env2.get n=U.get n)->env2.f0 d=true->∀a:AB->Prop,a ((d,e)::NW u qs env2)->r.wp S env2 a:=by
 obtain ⟨o,w,z⟩:=PR.tk_some g;have l:r.op.wp S U (some d) fun e env'=>K ((d,e)::env'):=by
  grind [PR.wp,AB.put]
 obtain ⟨e,u,c,A⟩:=take o i l;refine⟨e,u,c,A,fun env2 j k a b=>?_⟩;unfold PR.wp;rw[w];simp only[z,AB.put];exact c.again env2 j k (fun e env'=>a ((d,e)::env')) b
def wU(D:Ne)(p q:PR):Bool:=
 match q.tk with
 |some (qs,d)=>PR.wG D p&&D.contains d&&qs.all D.contains&&Ed p.dst.toList (d::q.op.slots)&&Ed (d::qs) (p.op.slots++p.xE)&&Ed p.op.yf q.op.slots|none=>false
def xO(D:Ne)(p q:PR):Bool:=
 match p.tk,q.tk with
 |some (_,dp),some (_,dq)=>((!p.op.xe||D.contains dp)&&(!q.op.xe||D.contains dq))&&Ed (dp::p.op.slots) (dq::q.op.slots)|_,_=>false
section
variable{P:Program}{F0:Nat->Nat->Prop}{w0:W0}{N:Nat}{ops:Array Oper}{K:AB->Prop}{D:Ne}
variable{r:PR}{d:Nat}{U og:AB}{e:EV}{f:A0}
theorem ON.away{S:FuncId->Fq->Am->Prop}(h:ON S r d U og e f){x:Nat}(a:x∉r.op.slots)(b:∀y,(U.get y).we≠some x)(u:EV):f.on x u=u:=by
 have c:=h.slot;have g:=h.cell;cases f with
 |none=>rfl|slot s t=>
  grind [A0.on,CP]
 |cell s off t=>
  simp only[A0.on]
  grind
theorem ON.stay{S:FuncId->Fq->Am->Prop}(h:ON S r d U og e f){x:Nat}(a:x∉r.op.yf)(b:∀cs,U.get x≠.bx cs):f.on x (U.get x)=U.get x:=by
 have c:=h.slot;have g:=h.ok;cases f with
 |none=>rfl|slot s t=>
  grind [A0.on]
 |cell s off t=>
  simp only[A0.on]
  grind
theorem Ul(h:PR.wG D r=true):∃d,r.dst=some d/\r.op.mov=true/\(r.op.wc=true->r.guard=none)/\Ed r.op.xV D=true/\(r.op.wc=true\/d∈D):=by
 simp only[PR.wG,pr,Bool.or_eq_true,Bool.not_eq_true']at h;obtain⟨⟨⟨⟨b,c⟩,g⟩,i⟩,j⟩:=h;obtain⟨d,hd⟩:=Option.isSome_iff_exists.1 c;refine⟨d,hd,b,fun a=>?_,i,?_⟩
 .rcases g with h|h
  .rw[a]at h;cases h
  .simpa using h
 grind [PR.old]
variable{rs:List PR}
theorem qS(hR:LI F0 w0 N U)(hj:JD D U){op:Oper}{p q:PR}(hp:LK P N ops op p=true)(a:wU D p q=true)(h:D6 (AR P) K (p::q::rs) U):D6 (AR P) K (q::p::rs) U:=by
 unfold wU at a;split at a
 .rename_i qs d ht;simp only[pr,List.contains_eq_mem,wq,List.all_eq_true]at a;obtain⟨⟨⟨⟨⟨hm,V⟩,sD⟩,W⟩,X⟩,c3⟩:=a;obtain⟨z,Q,pm,pg',pb,_⟩:=Ul hm;rw[Q]at W;simp only[Option.toList_some]at W;have hpd:z≠d:=fun e=>Ao W (x:=z) (by simp) (by simp[e]);have M:z∉q.op.slots:=fun e=>Ao W (x:=z) (by simp) (by simp[e]);have k:d∉p.op.slots:=fun e=>Ao X (x:=d) (by simp) (Ci e);have dng:d∉p.xE:=fun e=>Ao X (x:=d) (by simp) (DL e);have l:∀s∈qs,s∉p.op.slots:=fun s Y e=>Ao X (x:=s) (by simp[Y]) (Ci e);have sng:∀s∈qs,s∉p.xE:=fun s Y e=>Ao X (x:=s) (by simp[Y]) (DL e);obtain⟨e',B,h⟩:=h;have hR':=hR.congr B.symm;have i:=hj.congr B.symm;obtain⟨og,⟨⟨e1,b,hw⟩,ep,I,o⟩,hR1⟩:=FP hR' hp (OU Q pm pg' h);have g1:∀n,e1.get n=if z=n then ep else I.on n (e'.get n):=fun n=>by
   rw [b.1,o.og,AB.d4,A0.get]
  have O:∀x,x∈D->x∉p.op.slots->∀e,I.on x e=e:=fun x Z hxn e=>o.away hxn (fun y hy=>i.no hy Z) e;have hj1:JD D e1:=(o.jd pb i).congr b.symm;obtain⟨e,u,C,hK,R⟩:=Wb ht (fun _=>hj1 d V) hw;have A:∀n∈q.op.slots,e'.get n=e1.get n:=by
   intro n T;have hne:z≠n:=fun e=>M (e▸T);have hb:=C.slbx n T;rw[g1,ae hne]at hb|-;refine(o.stay (fun hd=>Ao c3 hd T) (fun cs hc=>?_)).symm;refine hb (match I.on n (.bx cs)with|.bx cs'=>cs'|_=>cs) ?_;rw[hc];cases I with
   |none=>rfl|slot s t=>
    have:=o.ok;simp only[A0.on];split
    .rename_i e;subst e;simp only[A0.ok]at this;rw[hc]at this;cases this
    .rfl
   |cell s off t=>
    simp only[A0.on];split<;>rfl
  have hdn:e'.f0 d=true:=by
   have:=C.dno;rw[b.2,o.og,AB.ea,A0.f0,pr]at this;exact this.2
  refine ⟨e',B,R e' A hdn _ ⟨_,.refl _,?_⟩⟩;have G:∀m,m≠d->m∉qs->AB.get ((d,e)::NW u qs e') m=e'.get m:=fun m w j=>by
   rw [AB.d4,ae (fun e=>w e.symm),Nw,ae j]
  have nr:∀c,AB.f0 c ((d,e)::NW u qs e')=AB.f0 c e':=fun c=>by
   rw [AB.ea,GG C.yl,EV.wL,C.yB];rfl
  have L:D7 p.op I (some z) e' ((d,e)::NW u qs e'):=by
   refine ⟨fun x F=>.inl (G x (fun e=>k (e▸F)) (fun e=>l x e F)),fun x F r hr=>.inl (G r (fun e=>i.no hr (e▸V)) (fun e=>i.no hr (sD r e))),fun x F _=>G x (fun e=>k (e▸CP F)) (fun e=>l x e (CP F)),?_,fun T d' hd' hno=>by rw[nr];exact hno⟩;have w:=o.slot;have j:=o.ok;have h4:=o.cell;cases I with
   |none=>trivial|slot x t=>
    simp only[A0.ok]at j|-;rw[G x (fun e=>k (e▸CP (w _ _ rfl))) (fun e=>l x e (CP (w _ _ rfl)))];exact j
   |cell x off t=>
    obtain ⟨ds,h5,h6⟩:=j;refine⟨ds,?_,h6⟩;rw[G x (fun e=>?_) (fun e=>?_)]
    .exact h5
    .rcases h4 _ _ _ rfl with h7|⟨y,_,h8⟩
     .exact k (e▸h7)
     .exact i.no h8 (e▸V)
    .rcases h4 _ _ _ rfl with h7|⟨y,_,h8⟩
     .exact l x e h7
     .exact i.no h8 (sD x e)
  have hgp:∀g∈p.xE,AB.get ((d,e)::NW u qs e') g=e'.get g:=fun g J=>G g (fun e=>dng (e▸J)) (fun e=>sng g e J);refine o.again _ L hgp _ (GH hK ?_);refine⟨fun m=>?_,fun c=>?_⟩
  .simp only[AB.d4,A0.get,g1,Nw];by_cases w:d=m
   .subst w;rw[a6 rfl,ae hpd,O d V k,a6 rfl]
   .rw[ae w];by_cases H:z=m
    .have:m∉qs:=fun hm=>M (H▸C.sub m hm);rw[ae this,a6 H,a6 H]
    .rw[ae H];by_cases j:m∈qs
     .rw[a6 j,ae H,O m (sD m j) (l m j),ae w,a6 j]
     .rw[ae j,ae H,ae w,ae j]
  .simp only[AB.ea,A0.f0,b.2,o.og,GG C.yl,EV.wL,C.yB];cases(match ep.we with|some s=>c !=s|none=>true)<;>rfl
 .cases a
theorem qR(hR:LI F0 w0 N U)(hj:JD D U){op oq:Oper}{p q:PR}(hp:LK P N ops op p=true)(hq:LK P N ops oq q=true)(a:wU D q p=true)(h:D6 (AR P) K (p::q::rs) U):D6 (AR P) K (q::p::rs) U:=by
 unfold wU at a;split at a
 .rename_i z d ht;simp only[pr,List.contains_eq_mem,wq,List.all_eq_true]at a;obtain⟨⟨⟨⟨⟨hm,M⟩,sD⟩,c1⟩,c2⟩,c3⟩:=a;obtain⟨G,V,qm,qg',qb,qold⟩:=Ul hm;rw[V]at c1;simp only[Option.toList_some]at c1;have hqd:G≠d:=fun e=>Ao c1 (x:=G) (by simp) (by simp[e]);have Q:G∉p.op.slots:=fun e=>Ao c1 (x:=G) (by simp) (by simp[e]);have l:d∉q.op.slots:=fun e=>Ao c2 (x:=d) (by simp) (Ci e);have dng:d∉q.xE:=fun e=>Ao c2 (x:=d) (by simp) (DL e);have o:∀s∈z,s∉q.op.slots:=fun s hs e=>Ao c2 (x:=s) (by simp[hs]) (Ci e);have sng:∀s∈z,s∉q.xE:=fun s hs e=>Ao c2 (x:=s) (by simp[hs]) (DL e);obtain⟨e',H,h⟩:=h;have hR':=hR.congr H.symm;have R:=hj.congr H.symm;obtain⟨og,⟨⟨F,b,hw⟩,Y,u,B,I,W⟩,hR1⟩:=FP (K:=fun og=>(∃F,MC F og/\q.wp (AR P) F (D6 (AR P) K rs))/\∃Y u,cb (AR P) p.op u z d e' Y/\og=(d,Y)::NW u z e'/\∀env2,(∀n∈p.op.slots,env2.get n=e'.get n)->env2.f0 d=true->∀K2:AB->Prop,K2 ((d,Y)::NW u z env2)->p.wp (AR P) env2 K2) hR' hp (by
   obtain ⟨e,u,k1,k2,k3⟩:=Wb ht (fun _=>R d M) h;exact k3 e' (fun _ _=>rfl) k1.dno _ ⟨k2,e,u,k1,rfl,k3⟩)
  subst I;have j:JD D F:=by
   intro x w;rw[b.2,AB.ea,GG B.yl,EV.wL,B.yB];exact R x w
  obtain ⟨X1,⟨hK,eq,X,C⟩,_⟩:=FP (hR1.congr b.symm) hq (OU V qm qg' hw);have J:∀n,n≠d->n∉z->F.get n=e'.get n:=fun n i k=>by
   rw [b.1,AB.d4,ae (fun e=>i e.symm),Nw,ae k]
  have T:∀x,x∈D->x∉q.op.slots->∀e,X.on x e=e:=fun x hxD hxn e=>C.away hxn (fun y hy=>j.no hy hxD) e;have L:D7 q.op X (some G) F e':=by
   refine ⟨fun x w=>.inl (J x (fun e=>l (e▸w)) (fun e=>o x e w)).symm,fun x w r hr=>.inl (J r (fun e=>j.no hr (e▸M)) (fun e=>j.no hr (sD r e))).symm,fun x w _=>(J x (fun e=>l (e▸CP w)) (fun e=>o x e (CP w))).symm,?_,fun Z d' hd' O=>?_⟩
   .have i:=C.slot;have k:=C.ok;have h4:=C.cell;cases X with
    |none=>trivial|slot x t=>
     simp only[A0.ok]at k|-;rw[<-J x (fun e=>l (e▸CP (i _ _ rfl))) (fun e=>o x e (CP (i _ _ rfl)))];exact k
    |cell x off t=>
     obtain ⟨ds,h5,h6⟩:=k;refine⟨ds,?_,h6⟩;rw[<-J x (fun e=>?_) (fun e=>?_)]
     .exact h5
     .rcases h4 _ _ _ rfl with h7|⟨y,_,h8⟩
      .exact l (e▸h7)
      .exact j.no h8 (e▸M)
     .rcases h4 _ _ _ rfl with h7|⟨y,_,h8⟩
      .exact o x e h7
      .exact j.no h8 (sD x e)
   .rw[b.2,AB.ea,GG B.yl,pr]at O;exact O.2
  have hgq:∀g∈q.xE,e'.get g=F.get g:=fun g hg=>(J g (fun e=>dng (e▸hg)) (fun e=>sng g e hg)).symm;refine⟨e',H,C.again e' L hgq _ ⟨_,.refl _,W _ (fun n Z=>?_) ?_ _ (GH hK ?_)⟩⟩
  .have hne:G≠n:=fun e=>Q (e▸Z);rw[AB.d4,ae hne,A0.get];have hb:=B.slbx n Z;have k1:=C.slot;have k2:=L.eff;cases X with
   |none=>rfl|slot s t=>
    simp only[A0.on];rw[ae];intro e;subst e;exact Ao c3 (k1 _ _ rfl) Z
   |cell s off t=>
    simp only[A0.on];rw[ae];intro e;subst e;obtain⟨cs,k3,_⟩:=k2;exact hb cs k3
  .rw[AB.ea,A0.f0,B.dno,Bool.and_true];refine Sn (fun s he=>?_);rcases C.we s he with i|⟨x,_,k⟩
   .exact fun e=>Ao qb i (e▸M)
   .exact fun e=>j.no k (e▸M)
  .rw[C.og];have hdd:∀e,X.on d e=e:=T d M l;refine⟨fun m=>?_,fun c=>?_⟩
   .simp only[AB.d4,A0.get,Nw,b.1];by_cases i:G=m
    .have A:m∉z:=fun hm=>Q (i▸B.sub m hm);have h4:¬d=m:=fun e=>hqd (i.trans e.symm);rw[a6 i,ae h4,ae A,a6 i]
    .rw[ae i];by_cases k:d=m
     .subst k;rw[a6 rfl,a6 rfl,hdd]
     .rw[ae k,ae k];by_cases A:m∈z
      .rw[a6 A,a6 A,T m (sD m A) (o m A)]
      .rw[ae A,ae A,ae i]
   .simp only[AB.ea,A0.f0,b.2,GG B.yl,EV.wL,B.yB];cases(match eq.we with|some s=>c !=s|none=>true)<;>rfl
 .cases a
theorem qa{S:FuncId->Fq->Am->Prop}(O:JD D U){p q:PR}(g:xO D p q=true)(h:D6 S K (p::q::rs) U):D6 S K (q::p::rs) U:=by
 unfold xO at g;split at g
 .rename_i I B qs J R T;simp only[pr,Bool.or_eq_true,Bool.not_eq_true',List.contains_eq_mem,wq]at g;obtain⟨⟨bp,X⟩,g⟩:=g;have k:∀x,x=B\/x∈p.op.slots->x≠J/\x∉q.op.slots:=fun x k=>by
   grind [Ao,List.mem_cons_self,List.mem_cons_of_mem]
  obtain ⟨e',w,h⟩:=h;obtain⟨ep,u,l,⟨Q,i,Y⟩,C⟩:=Wb R (fun h=>O.congr w.symm _ (bp.resolve_left fun G=>by rw[G]at h;cases h)) h;obtain⟨eq,v,j,Z,z⟩:=Wb T (fun h=>by
   have o:=O.congr w.symm _ (X.resolve_left fun G=>by rw[G]at h;cases h);rw[i.2,AB.ea,GG l.yl,EV.wL,l.yB];exact o) Y
  have V:∀n,n≠B->n∉I->Q.get n=e'.get n:=fun n o F=>by
   rw [i.1,AB.d4,ae (fun e=>o e.symm),Nw,ae F]
  have L:∀n∈q.op.slots,e'.get n=Q.get n:=fun n A=>(V n (fun e=>(k n (.inl e)).2 A) (fun e=>(k n (.inr (l.sub n e))).2 A)).symm;have M:e'.f0 J=true:=by
   have:=j.dno;rw[i.2,AB.ea,GG l.yl,pr]at this;exact this.2
  refine ⟨e',w,z e' L M _ ⟨_,.refl _,C _ (fun n A=>?_) ?_ _ (GH Z ?_)⟩⟩
  .rw[AB.d4,ae (fun e=>(k n (.inr A)).1 e.symm),Nw,ae (fun e=>(k n (.inr A)).2 (j.sub n e))]
  .rw[AB.ea,GG j.yl,l.dno,EV.wL,j.yB];rfl
  .refine⟨fun m=>?_,fun c=>?_⟩
   .simp only[AB.d4,Nw,i.1];by_cases o:J=m
    .have F:¬B=m:=fun e=>(k B (.inl rfl)).1 (e.trans o.symm);have W:m∉I:=fun H=>(k m (.inr (l.sub m H))).1 o.symm
     grind
    .rw[ae o];by_cases F:B=m
     .have W:m∉qs:=fun H=>(k m (.inl F.symm)).2 (j.sub m H)
      grind
     have h4:m∈I->m∉qs:=fun a b=>(k m (.inr (l.sub m a))).2 (j.sub m b)
     grind
   .simp only[AB.ea,GG l.yl,GG j.yl,i.2,EV.wL,l.yB,j.yB]
 .cases g
end
def AE.ptr:AE->Option Nat
 |.bad s _=>some s|.w3 (.s m) _=>some m|_=>none
def EV.box2(e e2:EV):Prop:=e2=e\/∃cs cs',e=.bx cs/\e2=.bx cs'
variable{m:Nat}{dst:Option Nat}{U:AB}
theorem Xs{S:FuncId->Fq->Am->Prop}{op:AE}{K:EV->AB->Prop}(ho:op.ptr=some m)(h:op.wp S U dst K):
  ∃e,K e U/\(∀s,e.we=some s->(s∈op.xV\/(U.get m).we=some s))/\(∀cs,e≠.bx cs)/\∀env2,(U.get m).box2 (env2.get m)->(∀s,(U.get m).we=some s->(U.get s).box2 (env2.get s))->∀i:EV->AB->Prop,i e env2->op.wp S env2 dst i:=by
 unfold AE.ptr at ho;split at ho
 .rename_i s k;simp only[tg]at ho;subst ho;simp only[AE.wp]at h;split at h
  .rename_i cs b;refine⟨_,h,fun s' c=>.inl (by simpa[AE.xV,EV.we]using c.symm),by simp,fun env2 a _ i g=>?_⟩;have:∃cs',env2.get s=.bx cs':=by
    rcases a with a|⟨_,cs',_,a⟩
    .grind
    .exact⟨cs',a⟩
   obtain ⟨cs',j⟩:=this;simp only[AE.wp,j];exact g
  .rename_i row b;refine⟨_,h,by simp[EV.we],by simp,fun env2 a _ i g=>?_⟩;rcases a with a|⟨cs,_,a,_⟩
   .simp only[AE.wp,a,b];exact g
   .rw[b]at a;cases a
  .exact h.elim
 .rename_i m' k;simp only[tg]at ho;subst ho;simp only[AE.wp,AF.ev]at h;split at h
  .rename_i row b;refine⟨_,h,by simp[EV.we],by simp,fun env2 a _ i g=>?_⟩;rcases a with a|⟨cs,_,a,_⟩
   .simp only[AE.wp,AF.ev,a,b];exact g
   .rw[b]at a;cases a
  .rename_i s off b;split at h
   .rename_i cs u;refine⟨_,h,fun s' c=>.inr (by rw[b];exact c),by simp,fun env2 a j i g=>?_⟩;have o:env2.get m'=.bp s off:=by
     rcases a with a|⟨_,_,a,_⟩
     .rw[a,b]
     grind
    have l:∃cs',env2.get s=.bx cs':=by
     rcases j s (by rw[b];rfl)with j|⟨_,cs',_,j⟩
     .grind
     .exact⟨cs',j⟩
    obtain ⟨cs',l⟩:=l;simp only[AE.wp,AF.ev,o,l];exact g
   .exact h.elim
  .exact h.elim
 .cases ho
def WC(m q s:Nat)(cs:List AN)(off:Nat)(U:AB):AB:=(s,.bx (cs.set off ⟨false,.undef⟩))::(m,.undef)::(q,.undef)::U
theorem Q2{S:FuncId->Fq->Am->Prop}{m q d:Nat}{K:EV->AB->Prop}(h:(AE.xC m q).wp S U (some d) K):
  ∃e s off cs,U.get m=.nh s off .hd/\U.get s=.bx cs/\(∀cs,U.get q≠.bx cs)/\U.f0 d=true/\e.we=none/\K e (WC m q s cs off U)/\
   ∀env2,env2.get m=U.get m->env2.get q=U.get q->env2.get s=U.get s->env2.f0 d=true->∀c:EV->AB->Prop,c e (WC m q s cs off env2)->(AE.xC m q).wp S env2 (some d) c:=by
 simp only[AE.wp]at h;split at h
 .rename_i G s off n H b i j;simp only[tg]at b;subst b;split at h
  .rename_i cs k;cases a:U.nat s off with
   |none=>rw[a]at h;exact h.elim|some es=>
    rw [a]at h;simp only[AX]at h;obtain⟨A,⟨B,C⟩,F⟩:=h;refine⟨_,s,off,cs,i,k,by rw[j];simp,B,rfl,F,fun env2 l o g u c w=>?_⟩;have z:env2.nat s off=some es:=by rw[<-a];exact AB.w7 g
    simp only[AE.wp,l,o,g,i,j,k,z,AX];exact⟨A,⟨u,C⟩,w⟩
  .exact h.elim
 .exact h.elim
def wV(D:Ne)(p q:PR):Bool:=
 match p.op.ptr,p.guard,p.dst,q.op,q.guard,q.dst with
 |some x,none,some dp,.xC m qq,none,some d=>D.contains d&&D.contains dp&&D.contains m&&D.contains qq&&Ed [dp] [d,m,qq]&&Ed [x] [d,m,qq]&&Ed p.op.xV D&&dp !=x&&PR.wG D p|_,_,_,_,_,_=>false
variable{off:Nat}
theorem OV{m q s:Nat}{cs:List AN}(n:Nat):AB.get (WC m q s cs off U) n=if s=n then .bx (cs.set off ⟨false,.undef⟩)else if m=n then .undef else if q=n then .undef else U.get n:=rfl
theorem N6{m q s:Nat}{cs:List AN}(c:Nat):AB.f0 c (WC m q s cs off U)=AB.f0 c U:=by
 simp [WC,AB.ea,EV.wL,EV.we]
section
variable{S:FuncId->Fq->Am->Prop}{K:AB->Prop}{D:Ne}
variable{U:AB}{rs:List PR}
theorem qV(hj:JD D U){p q:PR}(a:wV D p q=true)(h:D6 S K (p::q::rs) U):D6 S K (q::p::rs) U:=by
 unfold wV at a;split at a
 .rename_i x g m B d C O Q R T V;simp only[pr,List.contains_eq_mem,wq,bne_iff_ne,ne_eq]at a;obtain⟨⟨⟨⟨⟨⟨⟨⟨Y,dpD⟩,mD⟩,qD⟩,I⟩,J⟩,pb⟩,hdx⟩,_⟩:=a;have n1:g≠d:=fun e=>Ao I (x:=g) (by simp) (by simp[e]);have W:g≠m:=fun e=>Ao I (x:=g) (by simp) (by simp[e]);have n3:g≠B:=fun e=>Ao I (x:=g) (by simp) (by simp[e]);have n4:x≠d:=fun e=>Ao J (x:=x) (by simp) (by simp[e]);have n5:x≠m:=fun e=>Ao J (x:=x) (by simp) (by simp[e]);have n6:x≠B:=fun e=>Ao J (x:=x) (by simp) (by simp[e]);obtain⟨e',z,h⟩:=h;have k:=hj.congr z.symm;simp only[PR.wp,O,Q,AB.put]at h;obtain⟨e,⟨e1,b,Z⟩,hre,L,A⟩:=Xs C h;simp only[PR.wp,T,V,R,AB.put]at Z;obtain⟨eq,s,off,cs,k1,M,k3,k4,k5,hK,j⟩:=Q2 Z;have l:∀n,n≠g->e1.get n=e'.get n:=fun n hn=>by rw[b.1,AB.d4,ae (fun e=>hn e.symm)]
  have o:s≠g:=by
   intro hs;subst hs;rw[b.1,AB.d4,a6 rfl]at M;exact L cs M
  have F:e'.get m=.nh s off .hd:=by rw[<-l m (fun e=>W e.symm)];exact k1
  have u:e'.get s=.bx cs:=by rw[<-l s o];exact M
  have G:s∉D:=k.no (x:=m) (by rw[F];rfl);have X:s≠d:=fun e=>G (e▸Y);have H:e'.f0 d=true:=by rw[b.2,AB.ea,pr]at k4;exact k4.2
  refine ⟨e',z,?_⟩;simp only[PR.wp,T,V,R,AB.put];refine j e' (l m (fun e=>W e.symm)).symm (l B (fun e=>n3 e.symm)).symm (l s o).symm H _ ⟨_,.refl _,?_⟩;simp only[PR.wp,O,Q,AB.put];refine A _ ?_ (fun r hr=>?_) _ (GH hK ?_)
  .rw[AB.d4,ae (fun e=>n4 e.symm),OV];by_cases w:s=x
   .subst w;rw[a6 rfl];exact .inr ⟨cs,_,u,rfl⟩
   .rw[ae w,ae (fun e=>n5 e.symm),ae (fun e=>n6 e.symm)];exact .inl rfl
  .have i:r∉D:=k.no hr;rw[AB.d4,ae (fun(e:d=r)=>i (e▸Y)),OV];by_cases w:s=r
   .subst w;rw[a6 rfl];exact .inr ⟨cs,_,u,rfl⟩
   .rw[ae w,ae (fun(e:m=r)=>i (e▸mD)),ae (fun(e:B=r)=>i (e▸qD))];exact .inl rfl
  .refine⟨fun n=>?_,fun c=>?_⟩
   .simp only[AB.d4,OV,b.1]
    grind
   .simp only[AB.ea,N6,b.2,EV.wL,k5]
    grind
 .cases a
theorem qU(Y:JD D U){p q:PR}(a:wV D q p=true)(h:D6 S K (p::q::rs) U):D6 S K (q::p::rs) U:=by
 unfold wV at a;split at a
 .rename_i x g m A d B J L M O Q;simp only[pr,List.contains_eq_mem,wq,bne_iff_ne,ne_eq]at a;obtain⟨⟨⟨⟨⟨⟨⟨⟨T,F⟩,mD⟩,qD⟩,G⟩,H⟩,qb⟩,hdx⟩,_⟩:=a;have n1:g≠d:=fun e=>Ao G (x:=g) (by simp) (by simp[e]);have n2:g≠m:=fun e=>Ao G (x:=g) (by simp) (by simp[e]);have n3:g≠A:=fun e=>Ao G (x:=g) (by simp) (by simp[e]);have n4:x≠d:=fun e=>Ao H (x:=x) (by simp) (by simp[e]);have n5:x≠m:=fun e=>Ao H (x:=x) (by simp) (by simp[e]);have n6:x≠A:=fun e=>Ao H (x:=x) (by simp) (by simp[e]);obtain⟨e',o,h⟩:=h;have j:=Y.congr o.symm;simp only[PR.wp,O,Q,M,AB.put]at h;obtain⟨ep,s,off,cs,k1,k2,k3,k4,V,⟨W,b,X⟩,u⟩:=Q2 h;simp only[PR.wp,J,L,AB.put]at X;obtain⟨e,hK,I,hnb,i⟩:=Xs B X;have k:s∉D:=j.no (x:=m) (by rw[k1];rfl);have hsd:s≠d:=fun e=>k (e▸T);have g1:∀n,n≠d->n≠m->n≠A->(W.get n).box2 (e'.get n):=by
   intro n w Z h3;rw[b.1,AB.d4,ae (fun e=>w e.symm),OV];by_cases R:s=n
   .subst R;rw[a6 rfl];exact .inr ⟨_,cs,rfl,k2⟩
   .rw[ae R,ae (fun e=>Z e.symm),ae (fun e=>h3 e.symm)];exact .inl rfl
  have l:JD D W:=by
   intro y hy;rw[b.2,AB.ea,N6,EV.wL,V];exact j y hy
  refine ⟨e',o,?_⟩;simp only[PR.wp,J,L,AB.put];refine i e' (g1 x n4 n5 n6) (fun r z=>?_) _ ⟨_,.refl _,?_⟩
  .have hrD:r∉D:=l.no z
   grind
  .simp only[PR.wp,O,Q,M,AB.put];have C:s≠g:=fun e=>k (e▸F);refine u _ (by rw[AB.d4,ae n2]) (by rw[AB.d4,ae n3]) (by rw[AB.d4,ae (fun e=>C e.symm)]) ?_ _ (GH hK ?_)
   .rw[AB.ea,k4,Bool.and_true];refine Sn (fun r z=>?_);rcases I r z with w|w
    .grind[Ao]
    .exact fun(e:r=d)=>l.no w (e▸T)
   .refine⟨fun n=>?_,fun c=>?_⟩
    .simp only[AB.d4,OV,b.1]
     grind
    .simp only[AB.ea,N6,b.2,EV.wL,V]
     grind
 .cases a
end
def UD(s:Nat)(cs:List AN)(off:Nat)(U:AB):AB:=(s,.bx (cs.set off ⟨false,.undef⟩))::U
variable{s off:Nat}{U:AB}
theorem OQ{cs:List AN}(n:Nat):AB.get (UD s cs off U) n=if s=n then .bx (cs.set off ⟨false,.undef⟩)else U.get n:=rfl
theorem QR{cs:List AN}(c:Nat):AB.f0 c (UD s cs off U)=AB.f0 c U:=by
 simp [UD,AB.ea,EV.wL,EV.we]
def Pr(cs:List AN)(off:Nat)(e:EV):Prop:=(∃n es,cs[off]?=some ⟨true,.xl n es⟩/\e=.xo n es)\/∃es,cs[off]?=some ⟨true,.xn es⟩/\e=.xn es
variable{e:EV}
theorem Pr.we{cs:List AN}(h:Pr cs off e):e.we=none:=by
 rcases h with⟨_,_,_,rfl⟩|⟨_,_,rfl⟩<;>rfl
theorem Pr.cell{cs:List AN}(h:Pr cs off e):∃t,cs[off]?=some ⟨true,t⟩/\t.xh=true:=by
 rcases h with⟨_,_,h,_⟩|⟨_,h,_⟩<;>exact⟨_,h,rfl⟩
variable{x:AF}{d:Nat}
theorem SR{S:FuncId->Fq->Am->Prop}{K:EV->AB->Prop}(h:(AE.zb x).wp S U (some d) K):
  ∃e s off cs,x.place U=some (s,off)/\U.get s=.bx cs/\Pr cs off e/\U.f0 d=true/\K e (UD s cs off U)/\
   ∀env2 a,x.place env2=some (s,off)->env2.get s=.bx a->a[off]?=cs[off]?->env2.f0 d=true->∀c:EV->AB->Prop,c e (UD s a off env2)->(AE.zb x).wp S env2 (some d) c:=by
 simp only[AE.wp]at h;split at h
 .rename_i w s off hd o;simp only[tg]at hd;subst hd;split at h
  .rename_i cs u;split at h
   .rename_i n es b;refine⟨_,s,off,cs,o,u,.inl ⟨n,es,b,rfl⟩,h.1,h.2,fun env2 a g i j k c l=>?_⟩;simp only[AE.wp,g,i,j,b];exact⟨k,l⟩
   .rename_i es b;refine⟨_,s,off,cs,o,u,.inr ⟨es,b,rfl⟩,h.1,h.2,fun env2 a g i j k c l=>?_⟩;simp only[AE.wp,g,i,j,b];exact⟨k,l⟩
   .exact h.elim
  .exact h.elim
 .exact h.elim
def oN:AE->Bool
 |.bad _ _=>true|.w3 _ _=>true|.ld _=>true|.mv _=>true|.yb _ _ _=>true|.yI _ _=>true|.yq _ _=>true|.zg _=>true|.zv _ _ _=>true|.y8 _=>true|.zL _=>true|.app _ (.s _) _=>true|_=>false
structure Tk(op:AE)(E E2:AB):Prop where
 no:∀m∈op.slots,(∀cs,E.get m≠.bx cs)->E2.get m=E.get m
 we:∀m∈op.slots,∀r,(E.get m).we=some r->(∀cs,E.get r≠.bx cs)->E2.get r=E.get r
 bx:∀r c0,(r∈op.slots\/∃m∈op.slots,(E.get m).we=some r)->E.get r=.bx c0->∃c1,E2.get r=.bx c1/\(∀k t,t.xh=false->Em ((c0.drop k).map (·.t))=some t->Em ((c1.drop k).map (·.t))=some t)/\∀(k:Nat)t,t.xh=false->c0[k]?=some ⟨true,t⟩->c1[k]?=some ⟨true,t⟩
section
variable{op:AE}{E E2:AB}
variable{x:AF}{e:EV}
theorem Tk.ev(h:Tk op E E2)(a:∀s∈x.sl,s∈op.slots)(he:x.ev E=e)(b:∀cs,e≠.bx cs):x.ev E2=e:=by
 subst he;cases x with
 |c t=>rfl|s n=>exact h.no n (a n (by simp[AF.sl])) b
variable{t:TV}
theorem Tk.val(h:Tk op E E2)(b:∀s∈x.sl,s∈op.slots)(a:x.val E=some t):x.val E2=some t:=by
 unfold AF.val at a|-;rw[h.ev b rfl fun cs c=>by rw[c]at a;cases a];exact a
theorem Tk.vals(h:Tk op E E2):∀{xs:List AF}{b:Fq},(∀s∈Dp xs,s∈op.slots)->Go.Sf.vals E xs=some b->Go.Sf.vals E2 xs=some b
 |[],_,_,a=>a|x::xs,b,g,a=>by
  simp only[Dp,List.mem_append]at g;simp only[Go.Sf.vals]at a|-;split at a
  .rename_i t i j k;rw[h.val (fun s c=>g s (.inl c)) j,h.vals (fun s c=>g s (.inr c)) k];exact a
  .cases a
theorem Tk.parts(h:Tk op E E2):∀{xs:List (Nat×Nat×AF)}{b:List (Nat×Nat×TV)},(∀s∈PM xs,s∈op.slots)->EL E xs=some b->EL E2 xs=some b
 |[],_,_,a=>a|(i,n,x)::xs,b,g,a=>by
  simp only[PM,List.mem_append]at g;simp only[EL]at a|-;split at a
  .rename_i t j k l;rw[h.val (fun s c=>g s (.inl c)) k,h.parts (fun s c=>g s (.inr c)) l];exact a
  .cases a
theorem Tk.place(h:Tk op E E2)(g:∀s∈x.sl,s∈op.slots){p:Nat×Nat}(a:x.place E=some p):x.place E2=some p:=by
 cases x with
 |c t=>cases a
 |s n=>
  have b:=g n (by simp[AF.sl]);simp only[AF.place]at a|-;split at a
  .rename_i q off he;rw[h.no n b (by rw[he];simp),he];exact a
  .rename_i cs he;obtain⟨j,i,_⟩:=h.bx n cs (.inl b) he;rw[i];exact a
  .cases a
end
variable{dst:Option Nat}
theorem iA{S:FuncId->Fq->Am->Prop}{op:AE}(ho:oN op=true){E:AB}{K:EV->AB->Prop}(h:op.wp S E dst K):
  ∃(e:EV)(f:A0),K e (f.app E)/\f.ok E/\(∀s t,f=.slot s t->s∈op.slots)/\(∀s o t,f=.cell s o t->s∈op.slots\/∃y∈op.slots,(E.get y).we=some s)/\(∀cs,e≠.bx cs)/\
   ∀E2,Tk op E E2->∀u:EV->AB->Prop,u e (f.app E2)->op.wp S E2 dst u:=by
 have a:∀{e:EV},K e E->(∀cs,e≠.bx cs)->(∀E2,Tk op E E2->∀u:EV->AB->Prop,u e E2->op.wp S E2 dst u)->∃(e:EV)(f:A0),K e (f.app E)/\f.ok E/\(∀s t,f=.slot s t->s∈op.slots)/\(∀s o t,f=.cell s o t->s∈op.slots\/∃y∈op.slots,(E.get y).we=some s)/\(∀cs,e≠.bx cs)/\
   ∀E2,Tk op E E2->∀u:EV->AB->Prop,u e (f.app E2)->op.wp S E2 dst u:=fun{e}B C G=>⟨e,.none,B,trivial,by simp,by simp,C,G⟩
 cases op with
 |mv x=>
  simp only[AE.wp]at h;split at h
  .rename_i t l;exact a h (by simp) fun E2 b u g=>by simp only[AE.wp,b.ev (fun s h=>h) l (by simp)];exact g
  .rename_i t l;exact a h (by simp) fun E2 b u g=>by simp only[AE.wp,b.ev (fun s h=>h) l (by simp)];exact g
  .rename_i t l;exact a h (by simp) fun E2 b u g=>by simp only[AE.wp,b.ev (fun s h=>h) l (by simp)];exact g
  .exact h.elim
 |bad s k=>
  simp only[AE.wp]at h;split at h
  .rename_i cs F;refine a h (by simp) fun E2 b u g=>?_;obtain⟨R,B,_⟩:=b.bx s cs (.inl (by simp[AE.slots])) F;simp only[AE.wp,B];exact g
  .rename_i row F;exact a h (by simp) fun E2 b u g=>by simp only[AE.wp,b.no s (by simp[AE.slots]) (by rw[F];simp),F];exact g
  .exact h.elim
 |w3 x k=>
  simp only[AE.wp]at h;split at h
  .rename_i row l;exact a h (by simp) fun E2 b u g=>by simp only[AE.wp,b.ev (fun s h=>h) l (by simp)];exact g
  .rename_i s off l;split at h
   .rename_i cs F;refine a h (by simp) fun E2 b u g=>?_;have A:∃y∈x.sl,(E.get y).we=some s:=by
     cases x with
     |c t=>simp[AF.ev]at l|s n=>simp only[AF.ev]at l;exact⟨n,by simp[AF.sl],by rw[l];rfl⟩
    obtain ⟨R,B,_⟩:=b.bx s cs (.inr A) F;simp only[AE.wp,b.ev (fun s h=>h) l (by simp),B];exact g
   .exact h.elim
  .exact h.elim
 |yb x i n=>
  simp only[AE.wp]at h;split at h
  .rename_i m es k j l hi;obtain⟨B,C,e,G,Q⟩:=h;exact a Q (by simp) fun E2 b u g=>by simp only[AE.wp,b.val (fun s h=>Ci h) l,b.val (fun s h=>DL h) hi];exact⟨B,C,e,G,g⟩
  .exact h.elim
 |yI n V=>
  simp only[AE.wp]at h;cases hv:Go.Sf.vals E V with
  |none=>rw[hv]at h;exact h.elim|some W=>
   rw [hv]at h;exact a h.2 (by simp) fun E2 b u g=>by simp only[AE.wp,b.vals (fun s h=>h) hv,AX];exact⟨h.1,g⟩
 |yq z V=>
  simp only[AE.wp]at h;cases hv:EL E V with
  |none=>rw[hv]at h;exact h.elim|some W=>
   rw [hv]at h;simp only[AX]at h;cases hf:EP z W with
   |none=>rw[hf]at h;exact h.elim|some cs=>
    rw [hf]at h;exact a h (by simp) fun E2 b u g=>by simp only[AE.wp,b.parts (fun s h=>h) hv,AX,hf];exact g
 |zg s=>
  simp only[AE.wp]at h;split at h
  .rename_i m X F;exact a h (by simp) fun E2 b u g=>by simp only[AE.wp,b.no s (by simp[AE.slots]) (by rw[F];simp),F];exact g
  .exact h.elim
 |zv x i n=>
  simp only[AE.wp]at h;split at h
  .rename_i q k j l hi;split at h
   .rename_i m es M;obtain⟨B,C,G,Q⟩:=h;have A:∃y∈x.sl,(E.get y).we=some q:=by
     cases x with
     |c t=>simp[AF.ev]at l|s n=>simp only[AF.ev]at l;exact⟨n,by simp[AF.sl],by rw[l];rfl⟩
    obtain ⟨y,J,L⟩:=A;refine a Q (by simp) fun E2 b u g=>?_;simp only[AE.wp,b.ev (fun s h=>Ci h) l (by simp),b.val (fun s h=>DL h) hi,b.we y (Ci J) q L (by rw[M];simp),M];exact⟨B,C,G,g⟩
   .exact h.elim
  .exact h.elim
 |y8 x=>
  simp only[AE.wp]at h;split at h
  .rename_i q c l;split at h
   .rename_i m es M;cases w:(es.flatMap TV.cells)[c]? with
    |none=>rw[w]at h;exact h.elim|some t=>
     rw [w]at h;have A:∃y∈x.sl,(E.get y).we=some q:=by
      cases x with
      |c t=>simp[AF.ev]at l|s n=>simp only[AF.ev]at l;exact⟨n,by simp[AF.sl],by rw[l];rfl⟩
     obtain ⟨y,J,L⟩:=A;refine a h (by simp) fun E2 b u g=>?_;simp only[AE.wp,b.ev (fun s h=>h) l (by simp),b.we y J q L (by rw[M];simp),M,w,AX];exact g
   .exact h.elim
  .exact h.elim
 |ld x=>
  simp only[AE.wp]at h;cases w:A1 E (x.ev E)with
  |none=>rw[w]at h;exact h.elim|some cs=>
   rw [w]at h;simp only[AX]at h;cases b:Em cs with
   |none=>rw[b]at h;exact h.elim|some t=>
    rw [b]at h;obtain⟨T,h⟩:=h;refine a h (by simp) fun E2 hT u g=>?_;have Y:∃cs',A1 E2 (x.ev E2)=some cs'/\Em cs'=some t:=by
     cases x with
     |c O=>exact⟨cs,by rw[<-w];cases O<;>rfl,b⟩
     |s y=>
      have I:y∈(AE.ld (.s y)).slots:=by simp[AE.slots,AF.sl]
      simp only[AF.ev]at w|-;cases A:E.get y with
      |bp s off=>
       rw [hT.no y I (by rw[A];simp),A];rw[A]at w;simp only[A1]at w|-;split at w
       .rename_i ds F;cases w;obtain⟨R,B,C,_⟩:=hT.bx s ds (.inr ⟨y,I,by rw[A];rfl⟩) F;rw[B];exact⟨_,rfl,C _ _ T b⟩
       .cases w
      |tv O=>
       rw [hT.no y I (by rw[A];simp),A];rw[A]at w;exact⟨cs,by rw[<-w];cases O<;>rfl,b⟩
      |bx ds=>
       rw [A]at w;simp only[A1,tg]at w;subst w;obtain⟨R,B,C,_⟩:=hT.bx y ds (.inl I) A;rw[B];have:=C 0 t T (by simpa using b);exact⟨_,rfl,by simpa using this⟩
      |_=>rw[A]at w;cases w
    obtain ⟨cs',B,C⟩:=Y;simp only[AE.wp,B,AX,C];exact⟨T,g⟩
 |zL x=>
  simp only[AE.wp]at h;split at h
  .rename_i s off H;split at h
   .rename_i cs F;split at h
    .rename_i n es w;have A:s∈x.sl\/∃y∈x.sl,(E.get y).we=some s:=by
      cases x with
      |c t=>cases H
      |s m=>
       simp only[AF.place]at H;split at H
       .rename_i q o he;simp only[tg,Prod.mk.injEq]at H;exact .inr ⟨m,by simp[AF.sl],by rw[he,<-H.1];rfl⟩
       .simp only[tg,Prod.mk.injEq]at H;exact .inl (by simp[AF.sl,H.1])
       .cases H
     refine ⟨.ow (.list n es),.cell s off (.list n es),?_,⟨cs,F,w⟩,by simp,?_,by simp,fun E2 hT u g=>?_⟩
     .simp only[A0.app,F];exact h
     .intro s' o' O he;simp only[A0.cell.injEq]at he;rw[<-he.1];exact A
     .obtain⟨R,B,_,C⟩:=hT.bx s cs A F;have G:=C off _ rfl w;simp only[AE.wp,hT.place (fun s h=>h) H,B,G];simp only[A0.app,B]at g;exact g
    .exact h.elim
   .exact h.elim
  .exact h.elim
 |app n x y=>
  cases x with
  |c t=>cases ho
  |s q=>
   simp only[AE.wp]at h;split at h
   .rename_i m es m' X l A;obtain⟨B,C,G,Q⟩:=h;subst B;simp only[AF.ev]at l;refine⟨_,.slot q (.list m es),Q,l,?_,by simp,by simp,fun E2 hT u g=>?_⟩
    .intro s' O he;simp only[A0.slot.injEq]at he;rw[<-he.1];simp[AE.slots,AF.sl]
    .have Z:E2.get q=.ow (.list m es):=by rw[hT.no q (by simp[AE.slots,AF.sl]) (by rw[l];simp),l]
     simp only[AE.wp,AF.ev,Z,hT.val (fun s h=>DL h) A];exact⟨trivial,C,G,g⟩
   .exact h.elim
 |_=>cases ho
variable{s off d:Nat}
theorem tz{op:AE}{E E2:AB}{cs:List AN}{z:EV}(u:E.get s=.bx cs)(A:Pr cs off z)(hd:d∉op.slots)(B:E.f0 d=true)(h:∀m,m≠d->E2.get m=AB.get (UD s cs off E) m):Tk op E E2:=by
 have w:∀m r,(E.get m).we=some r->r≠d:=fun m r b e=>AB.wg d E B m (e▸b);have g:∀m,m≠d->(∀cs,E.get m≠.bx cs)->E2.get m=E.get m:=fun m j c=>by
  rw [h m j,OQ,ae (fun e:s=m=>c cs (e▸u))]
 refine ⟨fun m C c=>g m (fun e=>hd (e▸C)) c,fun m _ r b c=>g r (w m r b) c,fun r F b l=>?_⟩;have o:r≠d:=by
  rcases b with b|⟨m,_,b⟩
  .exact fun e=>hd (e▸b)
  .exact w m r b
 rw [h r o,OQ];by_cases e:s=r
 .subst e;rw[u]at l;cases l;obtain⟨G,j,c⟩:=A.cell;rw[a6 rfl];refine⟨_,rfl,fun k t i a=>?_,fun k t i a=>?_⟩
  .rw[ba]at a|-;by_cases e:off=k
   .subst e;rw[j]at a;simp at a;rw[<-a,c]at i;cases i
   .rw[List.getElem?_set_ne e];exact a
  .by_cases e:off=k
   .subst e;rw[j]at a;simp at a;rw[<-a,c]at i;cases i
   .rw[List.getElem?_set_ne e];exact a
 .rw[ae e];exact⟨F,l,fun _ _ _ h=>h,fun _ _ _ h=>h⟩
theorem cQ{E E2:AB}:∀{xs:List AF}{g:Fq},(∀k∈Dp xs,(∀cs,E.get k≠.bx cs)->E2.get k=E.get k)->Go.Sf.vals E xs=some g->Go.Sf.vals E2 xs=some g
 |[],_,_,a=>a|x::xs,g,h,a=>by
  simp only[Dp,List.mem_append]at h;simp only[Go.Sf.vals]at a|-;split at a
  .rename_i t l b o;have w:x.val E2=some t:=by
    cases x with
    |c u=>exact b|s k=>
     simp only[AF.val,AF.ev]at b|-;rw[h k (.inl (by simp[AF.sl])) fun cs i=>by rw[i]at b;cases b];exact b
   rw [w,cQ (fun s j=>h s (.inr j)) o];exact a
  .cases a
def UK(D:Ne)(p q:PR):Bool:=
 match q.op,q.guard,q.dst,p.guard,p.dst with
 |.zb (.s m),none,some d,none,some dp=>oN p.op&&PR.wG D p&&dp !=d&&dp !=m&&d !=m&&!p.op.slots.contains d|_,_,_,_,_=>false
def x7(D:Ne)(p q:PR):Bool:=
 match p.op,p.guard,p.dst,q.op,q.guard,q.dst with
 |.zb (.s m),none,some d,.yI _ ps,none,some dq=>D.contains dq&&dq !=d&&dq !=m&&!(Dp ps).contains d|_,_,_,_,_,_=>false
section
variable{S:FuncId->Fq->Am->Prop}{K:AB->Prop}{D:Ne}
variable{U:AB}{rs:List PR}
theorem qP{p q:PR}(i:UK D p q=true)(h:D6 S K (p::q::rs) U):D6 S K (q::p::rs) U:=by
 unfold UK at i;split at i
 .rename_i m d R qo qg qd pg pd;simp only[pr,bne_iff_ne,ne_eq,Bool.not_eq_true',List.contains_eq_mem,decide_eq_false_iff_not]at i;obtain⟨⟨⟨⟨⟨ho,_⟩,n1⟩,n2⟩,n3⟩,X⟩:=i;obtain⟨e',Y,h⟩:=h;simp only[PR.wp,pg,pd,AB.put]at h;obtain⟨e,f,⟨e1,l,hw⟩,Z,fsl,C,hnb,J⟩:=iA ho h;simp only[PR.wp,qg,qd,qo,AB.put]at hw;obtain⟨eq,s,off,k,a,b,w,L,hK,F⟩:=SR hw;have Q:∀n,e1.get n=if R=n then e else f.on n (e'.get n):=fun n=>by rw[l.1,AB.d4,A0.get]
  have G:R≠s:=fun h=>hnb k (by rw[<-b,Q,a6 h]);have A:e'.f0 d=true:=by
   rw [l.2,AB.ea,A0.f0,pr]at L;exact L.2
  have g:(AF.s m).place e'=some (s,off):=by
   simp only[AF.place]at a|-;rw[Q,ae n2]at a;cases f with
   |none=>exact a|slot s2 t=>
    simp only[A0.on]at a;by_cases j:s2=m
    .rw[a6 j]at a;cases a
    .rw[ae j]at a;exact a
   |cell s2 o t=>
    simp only[A0.on]at a;by_cases j:s2=m
    .rw[a6 j]at a;cases hm:e'.get m<;>rw[hm]at a<;>exact a
    .rw[ae j]at a;exact a
  have hsd2:s≠d:=by
   simp only[AF.place]at g;split at g
   .rename_i q o he;simp only[tg,Prod.mk.injEq]at g;exact fun hh=>AB.wg d e' A m (by rw[he,<-hh,<-g.1];rfl)
   .simp only[tg,Prod.mk.injEq]at g;exact fun hh=>n3 (by rw[<-hh,<-g.1])
   .cases g
  rw [Q,ae G]at b;obtain⟨t0,M,hx0⟩:=w.cell;have T:∃cs,e'.get s=.bx cs/\cs[off]?=k[off]?/\f.on s (.bx (cs.set off ⟨false,.undef⟩))=.bx (k.set off ⟨false,.undef⟩):=by
   cases f with
   |none=>exact⟨k,b,rfl,rfl⟩|slot s2 t=>
    simp only[A0.on]at b|-;by_cases j:s2=s
    .rw[a6 j]at b;cases b
    .rw[ae j]at b;exact⟨k,b,rfl,by rw[ae j]⟩
   |cell s2 o t=>
    simp only[A0.on]at b|-;by_cases j:s2=s
    .subst j;obtain⟨ds,z,I⟩:=Z;rw[a6 rfl,z]at b;simp only[EV.bx.injEq]at b;subst b;have V:=(List.getElem?_eq_some_iff.1 I).1;have H:o≠off:=by
      intro hh;subst hh;rw[List.getElem?_set_self V]at M;cases M
     exact ⟨ds,z,by rw[List.getElem?_set_ne H],by rw[a6 rfl];simp only[List.set_comm _ _ H]⟩
    .rw[ae j]at b;exact⟨k,b,rfl,by rw[ae j]⟩
  obtain ⟨cs,hs,O,hon⟩:=T;have B:Pr cs off eq:=by unfold Pr at w|-;rw[O];exact w
  have W:∀u,f.on d u=u:=fun u=>by
   cases f with
   |none=>rfl|slot s2 t=>simp only[A0.on];rw[ae (fun j:s2=d=>X (j▸fsl _ _ rfl))]|cell s2 o t=>
    simp only[A0.on];rw[ae];intro j;rcases C _ _ _ rfl with z|⟨y,_,z⟩
    .exact X (j▸z)
    .exact AB.wg d e' A y (j▸z)
  refine ⟨e',Y,?_⟩;simp only[PR.wp,qg,qd,qo,AB.put];refine F e' cs g hs O A _ ⟨_,.refl _,?_⟩;simp only[PR.wp,pg,pd,AB.put];refine J _ (tz hs B X A fun n hn=>by rw[AB.d4,ae (fun h=>hn h.symm)]) _ (GH hK ?_);refine⟨fun n=>?_,fun c=>?_⟩
  .simp only[AB.d4,OQ,A0.get,Q];by_cases j:R=n
   .subst j;rw[ae (fun h=>n1 h.symm),ae (fun h=>G h.symm),a6 rfl,a6 rfl]
   .rw[ae j,ae j];by_cases z:d=n
    .subst z;rw[a6 rfl,a6 rfl,W]
    .rw[ae z,ae z];by_cases I:s=n
     .subst I;rw[a6 rfl,a6 rfl,hon]
     .rw[ae I,ae I]
  .simp only[AB.ea,QR,A0.f0,l.2];cases EV.wL c eq<;>cases EV.wL c e<;>rfl
 .cases i
theorem qQ(Q:JD D U){p q:PR}(a:x7 D p q=true)(h:D6 S K (p::q::rs) U):D6 S K (q::p::rs) U:=by
 unfold x7 at a;split at a
 .rename_i m d n V W C F G H I J;simp only[pr,bne_iff_ne,ne_eq,Bool.not_eq_true',List.contains_eq_mem,wq,decide_eq_false_iff_not]at a;obtain⟨⟨⟨Y,n1⟩,M⟩,Z⟩:=a;obtain⟨e',l,h⟩:=h;have w:=Q.congr l.symm;simp only[PR.wp,C,F,G,AB.put]at h;obtain⟨ep,s,off,cs,b,hs,O,A,⟨B,g,i⟩,u⟩:=SR h;simp only[PR.wp,I,J,H,AB.put,AE.wp]at i;have X:∀k,k≠d->(∀cs,B.get k≠.bx cs)->e'.get k=B.get k:=fun k R j=>by
   rw [g.1,AB.d4,ae (fun h=>R h.symm),OQ]at j|-;by_cases L:s=k
   .rw[a6 L]at j;exact absurd rfl (j _)
   .rw[ae L]
  have z:s≠W:=by
   simp only[AF.place]at b;split at b
   .rename_i q o he;simp only[tg,Prod.mk.injEq]at b;exact fun hh=>w.no (x:=m) (by rw[he];rfl) (by rw[b.1,hh];exact Y)
   .simp only[tg,Prod.mk.injEq]at b;exact fun hh=>M (by rw[<-hh,<-b.1])
   .cases b
  cases hv:Go.Sf.vals B V with
  |none=>rw[hv]at i;exact i.elim|some ts=>
   rw [hv]at i;obtain⟨hl,i⟩:=i;refine⟨e',l,?_⟩;simp only[PR.wp,I,J,H,AB.put,AE.wp,cQ (fun k T j=>X k (fun h=>Z (h▸T)) j) hv,AX];refine⟨hl,_,.refl _,?_⟩;simp only[PR.wp,C,F,G,AB.put];refine u _ cs (by simp only[AF.place]at b|-;rw[AB.d4,ae M];exact b) (by rw[AB.d4,ae (fun h=>z h.symm)];exact hs) rfl (by rw[AB.ea,A];rfl) _ (GH i ?_);refine⟨fun k=>?_,fun c=>?_⟩
   .simp only[AB.d4,OQ,g.1]
    grind
   .simp only[AB.ea,QR,g.2];cases EV.wL c ep<;>rfl
 .cases a
end
def x3(p:PR):Bool:=(p.tk.isSome&&!p.op.xe)||(match p.op,p.guard,p.dst with|.xC _ _,none,some _=>true|.zb _,none,some _=>true|_,_,_=>false)
variable{U:AB}
theorem Zh{S:FuncId->Fq->Am->Prop}{p:PR}{K:AB->Prop}(ho:x3 p=true)(h:p.wp S U K):∃og,K og/\(∀c,og.f0 c=U.f0 c)/\∀b:AB->Prop,b og->p.wp S U b:=by
 simp only[x3,Bool.or_eq_true]at ho;rcases ho with ho|ho
 .simp only[pr,Bool.not_eq_true']at ho;obtain⟨⟨qs,d⟩,o⟩:=Option.isSome_iff_exists.1 ho.1;obtain⟨e,u,i,g,a⟩:=Wb o (fun h=>by rw[ho.2]at h;cases h) h;exact⟨_,g,fun c=>by rw[AB.ea,GG i.yl,EV.wL,i.yB];rfl,a U (fun _ _=>rfl) i.dno⟩
 split at ho
 .rename_i m q d j k l
  grind [PR.wp,AB.put,Q2,AB.ea,N6,EV.wL]
 .rename_i x d j k l;simp only[PR.wp,j,k,l,AB.put]at h|-;obtain⟨e,s,off,cs,w,z,A,B,C,F⟩:=SR h;exact⟨_,C,fun c=>by rw[AB.ea,QR,EV.wL,A.we];rfl,fun b g=>F U cs w z rfl B _ g⟩
 .cases ho
def yk(p:PR):Bool:=match p.op,p.guard,p.dst with
 |.wP _,none,some _=>true|_,_,_=>false
theorem lf{p:PR}{x:Ne×Nat}(h:p.tk=some x)(a:p.op.xe=true):yk p=true:=by
 obtain ⟨qs,d⟩:=x;obtain⟨g,b,c⟩:=PR.tk_some h;unfold yk;rw[b,c];cases ho:p.op<;>simp[ho,AE.xe]at a<;>rfl
theorem dR{D:Ne}{p q:PR}(h:wU D q p=true):yk p=true\/x3 p=true:=by
 unfold wU at h;split at h
 .rename_i qs d a;cases b:p.op.xe with
  |true=>exact .inl (lf a b)|false=>exact .inr (by simp[x3,a,b])
 .cases h
theorem af{D:Ne}{p q:PR}(h:wU D p q=true):PR.wG D p=true:=by
 unfold wU at h
 grind
theorem dV{D:Ne}{p q:PR}(h:xO D p q=true):yk p=true\/x3 p=true:=by
 unfold xO at h;split at h
 .rename_i c g qs i a _;cases b:p.op.xe with
  |true=>exact .inl (lf a b)|false=>exact .inr (by simp[x3,a,b])
 .cases h
theorem ah{D:Ne}{p q:PR}(h:wV D p q=true):PR.wG D p=true:=by
 unfold wV at h
 grind
theorem dT{D:Ne}{p q:PR}(h:wV D q p=true):x3 p=true:=by grind[wV,x3]
end Go.Sf
namespace Go.Sf
open Go.RowKit (Below)
def Mw(rs:List PR)(i:Nat):PR:=(rs[i]?).getD ⟨none,.yw 0,none⟩
def xR(p q:PR):Bool:=match p.op,p.guard,p.dst,q.op,q.guard,q.dst with
 |.wP gs,none,some dp,.yY _,none,some dq=>dp !=dq&&!(gs.flatMap GC.sl).contains dq|_,_,_,_,_,_=>false
theorem dQ{p q:PR}(h:xR p q=true):yk p=true:=by grind[xR,yk]
def VD(p:PR):Bool:=match p.op,p.guard,p.dst with
 |.st _ (.s _) _,none,none=>true|.yx _ _ _,none,none=>true|_,_,_=>false
def xN(D:Ne)(p q:PR):Bool:=match p.op,p.guard,p.dst,q.op,q.guard,q.dst with
 |.yx x v _,none,none,.zy (.s _) _ _,none,some d=>D.contains d&&!x.sl.contains d&&!v.sl.contains d|_,_,_,_,_,_=>false
def Qj(D:Ne)(p q:PR):Bool:=match p.op,p.guard,p.dst,q.op,q.guard,q.dst with
 |.st _ (.s x) v,none,none,.bad m _,none,some d=>D.contains d&&d !=x&&d !=m&&!v.sl.contains d&&!v.sl.contains m|.st _ (.s x) v,none,none,.w3 (.s m) _,none,some d=>D.contains d&&d !=x&&d !=m&&!v.sl.contains d&&!v.sl.contains m|_,_,_,_,_,_=>false
theorem dP{D:Ne}{p q:PR}(h:Qj D p q=true):VD p=true:=by grind[Qj,VD]
theorem dU{D:Ne}{p q:PR}(h:xN D p q=true):VD p=true:=by grind[xN,VD]
def AE.vops:AE->Option (List AF)
 |.len x=>some [x]|.mm _ x y=>some [x,y]|.xu _ x lo hi=>some (x::(lo.toList++hi.toList))|.bin _ _ x y=>some [x,y]|.yA _ x=>some [x]|.zJ x _=>some [x]|.zN x _=>some [x]|_=>none
def x9(D:Ne)(p q:PR):Bool:=match p.op.vops,p.guard,p.dst,q.op,q.guard,q.dst with
 |some xs,none,some d,.st _ (.s x) v,none,none=>PR.wG D p&&d !=x&&!v.sl.contains d&&Ed (xs.flatMap AF.sl) v.sl|_,_,_,_,_,_=>false
def ya(D:Ne)(p q:PR):Bool:=match p.op,p.guard,p.dst,q.op,q.guard,q.dst with
 |.zO b _,none,some d,.st _ (.s x) v,none,none=>PR.wG D p&&D.contains b&&b !=x&&d !=x&&d !=b&&!v.sl.contains d&&!v.sl.contains b|.bad b _,none,some d,.st _ (.s x) v,none,none=>PR.wG D p&&d !=x&&!v.sl.contains d&&!v.sl.contains b|_,_,_,_,_,_=>false
def xS(D:Ne)(p q:PR):Bool:=WE D p q||xQ D p q||xR p q||yc D p q||x8 D p q||(Qj D p q||xN D p q)||x9 D p q||ya D p q||(wU D p q||wU D q p||xO D p q||wV D p q||wV D q p)||(UK D p q||x7 D p q)
def okQ(p:PR):Bool:=match p.op,p.guard,p.dst with
 |.yW _,none,some _=>true|.yj _ _ _ _,none,some _=>true|_,_,_=>false
theorem ac{D:Ne}{p q:PR}(h:xS D p q=true):((PR.wG D p=true\/yk p=true)\/VD p=true)\/x3 p=true:=by
 simp [xS]at h;rcases h with((((((((h|h)|h)|h)|h)|h)|h)|h)|((((h|h)|h)|h)|h))|(h|h)
 rotate_right 7
 .grind[af]
 .rcases dR h with h|h
  .exact .inl (.inl (.inr h))
  .exact .inr h
 .rcases dV h with h|h
  .exact .inl (.inl (.inr h))
  .exact .inr h
 .grind[ah]
 .exact .inr (dT h)
 .grind[UK]
 .exact .inr (by unfold x7 at h;grind[x3])
 all_goals refine .inl ?_
 .simp[WE]at h
  grind
 .unfold xQ at h
  grind
 .grind[dQ]
 .unfold yc at h
  grind
 .unfold x8 at h
  grind
 .grind[dP,dU]
 .unfold x9 at h
  grind
 .unfold ya at h
  grind
def k8(ops:Array Oper):Ne:=
 ops.toList.foldl (fun acc o=>acc++[o.after.toList.foldl (fun m e=>if Region.binds .any e then m|||(1<<<e.on)|||acc.getD e.on 0 else m) 0]) []
def okCa(p:PR):Bool:=match p.op,p.guard,p.dst with
 |.xF _ _ _,none,some _=>true|_,_,_=>false
variable{U:AB}
theorem ib{S:FuncId->Fq->Am->Prop}{p:PR}{K:AB->Prop}(ho:okCa p=true)(h:p.wp S U K):p.wp S U fun og=>K og/\∀c,og.f0 c=U.f0 c:=by
 unfold okCa at ho;split at ho
 .rename_i f args i d g j k;simp[PR.wp,g,j,k,AE.wp,AB.put]at h|-;split at h
  .rename_i u q a w;simp at a;subst a;split at h
   .rename_i cs z;refine⟨h.1,?_⟩;cases hv:Hx U i args with
    |none=>rw[hv]at h;exact h.2.elim|some A=>
     rw [hv]at h;obtain⟨_,r,l,o⟩:=h;refine⟨r,l,fun b=>⟨o b,fun c=>?_⟩⟩;have:EV.wL c r.yF=true:=by cases r<;>rfl
     rw [AB.ea,AB.ea,this];rfl
   .exact h.elim
  .exact h.elim
 .cases ho
def okCm(p:PR):Bool:=match p.op,p.dst with
 |.xk _ _ _,some _=>true|_,_=>false
def Zg(D:Ne)(r:PR):Bool:=
 MK r.op||yk r||okQ r||x3 r||okCa r||okCm r||(r.op.mov&&r.dst.isSome&&(!r.op.wc||r.guard.isNone)&&Ed r.op.xV D)
def Sp(P:Program)(N:Nat)(D:Ne)(ops:Array Oper)(rs:List PR):Bool:=
 let n:=ops.size
 let M:=k8 ops
 LS P N ops ops.toList rs&&(List.range n).all (fun i=>Zg D (Mw rs i)) &&
 (List.range n).all (fun i=>match ops[i]? with
  |some o=>o.after.toList.all fun e=>!Region.binds .any e||decide (e.on<i)|none=>false) &&
 (List.range n).all (fun i=>(List.range n).all fun j=>!(M.getD i 0).testBit j||(match ops[i]? with
  |some o=>o.after.toList.any fun e=>Region.binds .any e&&(e.on==j||(decide (e.on<i)&&(M.getD e.on 0).testBit j))|none=>false)) &&
 (List.range n).all (fun i=>(List.range i).all fun j=>(M.getD i 0).testBit j||xS D (Mw rs j) (Mw rs i))
section
variable{P:Program}{F0:Nat->Nat->Prop}{w0:W0}{N:Nat}{p:Option (Nat×Value)}{ops:Array Oper}{K:AB->Prop}{D:Ne}
variable{f:A0}{U:AB}
theorem D7.refl{op:AE}{d:Option Nat}(h:f.ok U):D7 op f d U U:=
 ⟨fun _ _=>.inl rfl,fun _ _ _ _=>.inl rfl,fun _ _ _=>rfl,h,fun _ _ _ h=>h⟩
theorem Ku(d:Nat)(a:AB):∀(qs:Ne)(U:AB),AB.f0 d (Mm a qs U)=AB.f0 d U
 |[],_=>rfl|q::qs,U=>by
  rw [Mm,AB.ea,Ku d a qs U]
  grind [Kt,EV.wL,EV.we]
theorem l7(d:Nat)(e:EV)(U:AB)(g:GC)(h:d∉g.sl):GC.cell ((d,e)::U) g=g.cell U:=by
 cases g with
 |z c=>rfl|v x k n=>
  cases x with
  |s q=>
   grind [GC.sl,List.mem_singleton,GC.cell,AF.val,AF.ev,AB.d4]
  |c t=>rfl
 |w q=>
  grind [GC.sl,List.mem_singleton,GC.cell,AB.d4]
 |g q k n=>
  grind [GC.sl,List.mem_singleton,GC.cell,AB.d4]
theorem ZN(d:Nat)(e:EV)(U:AB):∀(gs:List GC),d∉gs.flatMap GC.sl->FA ((d,e)::U) gs=FA U gs
 |[],_=>rfl|g::gs,h=>by
  rw [List.flatMap_cons,List.mem_append,not_or]at h;simp[FA,l7 d e U g h.1,ZN d e U gs h.2]
theorem nF{gs:List GC}{q:Nat}(h:q∈gs.filterMap GC.slot):q∈gs.flatMap GC.sl:=by
 rw [List.mem_filterMap]at h;obtain⟨g,a,e⟩:=h;rw[List.mem_flatMap];refine⟨g,a,?_⟩;cases g<;>simp[GC.slot]at e<;>simp[GC.sl,e]
variable{d:Nat}
theorem Uy{S:FuncId->Fq->Am->Prop}{p:PR}{K:AB->Prop}{gs:List GC}(c:p.op=.wP gs)(g:p.guard=none)(i:p.dst=some d)(h:p.wp S U K):
  ∃cs,((gs.filterMap GC.src).Nodup/\d∉gs.filterMap GC.slot)/\FA U gs=some cs/\K ((d,.wQ cs)::Mm U (gs.filterMap GC.slot) U):=by
 simp only[PR.wp,c,g,i,AE.wp,AB.put]at h;obtain⟨j,b⟩:=h;cases a:FA U gs with
 |none=>rw[a]at b;exact b.elim|some k=>rw[a]at b;exact⟨k,j,rfl,b⟩
theorem Q9{S:FuncId->Fq->Am->Prop}{p:PR}{K:AB->Prop}{gs:List GC}{cs:List AN}(b:p.op=.wP gs)(c:p.guard=none)(g:p.dst=some d)(i:(gs.filterMap GC.src).Nodup/\d∉gs.filterMap GC.slot)(a:FA U gs=some cs)
  (h:K ((d,.wQ cs)::Mm U (gs.filterMap GC.slot) U)):p.wp S U K:=by
 simp only[PR.wp,b,c,g,AE.wp,AB.put,a];exact⟨i,h⟩
variable{q:PR}{v:AF}
theorem SX{S:FuncId->Fq->Am->Prop}{K:AB->Prop}{n x:Nat}(a:q.op=.st n (.s x) v)(k:q.guard=none)(hd:q.dst=none)(h:q.wp S U K):
  ∃s off cs cs' o,(AF.s x).place U=some (s,off)/\U.get s=.bx cs/\(∀g e,o=some (g,e)->v=.s g/\(∃t,e=.tv t)/\g≠s)/\K (NX s cs' o U)/\
   ∀env2,(AF.s x).place env2=some (s,off)->env2.get s=.bx cs->v.ev env2=v.ev U->∀i:AB->Prop,i (NX s cs' o env2)->q.wp S env2 i:=by
 unfold PR.wp at h;rw[k,a,hd]at h;simp[AE.wp]at h;split at h
 .rename_i s off w;split at h
  .rename_i cs z;split at h
   .rename_i t hv;cases v with
    |c t=>exact h.elim|s g=>
     simp only at h;simp[AF.ev]at hv;refine⟨s,off,cs,_,some (g,.tv t),w,z,?_,h.2.2.2,fun env2 l u j i b=>?_⟩
     .intro s' A he;simp at he;obtain⟨rfl,rfl⟩:=he;exact⟨rfl,⟨t,rfl⟩,h.1⟩
     .simp[AF.ev]at j;unfold PR.wp;rw[k,a,hd];simp[AE.wp,l,u,AF.ev,j,hv];exact⟨h.1,h.2.1,h.2.2.1,b⟩
   .rename_i t hv;refine⟨s,off,cs,_,none,w,z,by simp,h.2.2,fun env2 l u j i b=>?_⟩;unfold PR.wp;rw[k,a,hd];simp[AE.wp,l,u,j,hv];exact⟨h.1,h.2.1,b⟩
   .exact h.elim
  .exact h.elim
 .exact h.elim
variable{e':AB}
theorem head{p:PR}{o:Oper}(ho:LK P N ops o p=true){K:AB->Prop}(g:((PR.wG D p=true\/yk p=true)\/VD p=true)\/x3 p=true)(I:LI F0 w0 N e')(J:JD D e')(h:p.wp (AR P) e' K):
  ∃og,K og/\LI F0 w0 N og/\JD D og/\∀b:AB->Prop,b og->p.wp (AR P) e' b:=by
 rcases g with((g|g)|g)|g
 rotate_right
 .obtain⟨og,⟨l,Q,R⟩,a⟩:=FP (K:=fun og=>K og/\(∀c,og.f0 c=e'.f0 c)/\∀b:AB->Prop,b og->p.wp (AR P) e' b) I ho (by
   grind [Zh])
  exact ⟨og,l,a,fun d hd=>by rw[Q];exact J d hd,R⟩
 .simp[PR.wG,Bool.not_eq_true']at g;obtain⟨⟨⟨⟨Y,Z⟩,pg⟩,pb⟩,pD⟩:=g;obtain⟨dp,T⟩:=Option.isSome_iff_exists.1 Z;have O:p.op.wc=true->p.guard=none:=fun W=>by
   rcases pg with h|h
   .rw[W]at h;cases h
   .simpa using h
  obtain ⟨og,⟨l,ep,fp,M⟩,a⟩:=FP I ho (OU T Y O h);exact⟨og,l,a,M.jd pb J,fun b j=>M.again e' (.refl M.ok) (fun _ _=>rfl) _ (by rw[<-M.og];exact j)⟩
 .unfold yk at g;split at g
  .rename_i gs d A B C;obtain⟨og,l,a⟩:=FP (K:=fun og=>K og/\∃cs,((gs.filterMap GC.src).Nodup/\d∉gs.filterMap GC.slot)/\FA e' gs=some cs/\og=(d,.wQ cs)::Mm e' (gs.filterMap GC.slot) e') I ho (by
    obtain ⟨ts,w,z,F⟩:=Uy A B C h
    grind [Q9])
   obtain ⟨l,ts,w,z,rfl⟩:=l;refine⟨_,l,a,fun x V=>?_,fun b j=>Q9 A B C w z j⟩;rw[AB.ea,Ku,J x V];rfl
  .cases g
 .unfold VD at g;split at g
  .rename_i n x v A B C;obtain⟨og,⟨l,s,off,cs,cs',o',w,G,z,F,H⟩,a⟩:=FP (K:=fun og=>K og/\∃s off cs cs' o,(AF.s x).place e'=some (s,off)/\e'.get s=.bx cs/\(∀L e,o=some (L,e)->v=.s L/\(∃t,e=EV.tv t)/\L≠s)/\og=NX s cs' o e'/\
     ∀b:AB->Prop,b (NX s cs' o e')->p.wp (AR P) e' b) I ho (by
    obtain ⟨s,off,cs,cs',o,w,G,z,F,H⟩:=SX A B C h;exact H e' w G rfl _ ⟨F,s,off,cs,cs',o,w,G,z,rfl,fun b j=>H e' w G rfl b j⟩)
   subst F;refine⟨_,l,a,fun d hd=>?_,H⟩;rw[FT _ _ _ _ _ (fun L e he=>by
    obtain ⟨_,⟨t,rfl⟩,_⟩:=z L e he;rfl)]
   exact J d hd
  .rename_i x v k A B C;obtain⟨og,⟨l,Q,R⟩,a⟩:=FP (K:=fun og=>K og/\(∀c,og.f0 c=e'.f0 c)/\∀b:AB->Prop,b og->p.wp (AR P) e' b) I ho (by
    simp [PR.wp,A,B,C,AE.wp,AB.put]at h|-;split at h
    .rename_i q i c V;split at h
     .rename_i n es u X hu;obtain⟨w,G,es',z,F,H,h7⟩:=h;refine⟨w,G,es',z,F,H,h7,fun c=>(Ny (es':=es') X).2.2 c,fun b j=>?_⟩
      grind
     .exact h.elim
    .exact h.elim)
   exact ⟨og,l,a,fun d hd=>by rw[Q];exact J d hd,R⟩
  .cases g
variable{rs:List PR}
theorem qO{p q:PR}(a:xR p q=true)(h:D6 (AR P) K (p::q::rs) U):D6 (AR P) K (q::p::rs) U:=by
 unfold xR at a;split at a
 .rename_i gs I cs B j k l o u w;simp only[pr,bne_iff_ne,ne_eq,Bool.not_eq_true',List.contains_eq_mem,decide_eq_false_iff_not]at a;obtain⟨F,z⟩:=a;obtain⟨e',g,h⟩:=h;obtain⟨J,G,H,x,i,c⟩:=Uy j k l h;simp[PR.wp,o,u,w,AE.wp,AB.put]at c;obtain⟨b,c⟩:=c;rw[i.2,AB.ea,Ku]at b;simp[EV.wL,EV.we]at b;refine⟨e',g,?_⟩;simp[PR.wp,o,u,w,AE.wp,AB.put];refine⟨b,_,.refl _,Q9 j k l G (by rw[ZN _ _ _ _ z];exact H) (GH c ?_)⟩;have C:B∉gs.filterMap GC.slot:=fun A=>z (nF A);refine⟨fun n=>?_,fun d=>?_⟩
  .rw[AB.d4,i.1,AB.d4,AB.d4,JC,JC]
   grind [AB.d4]
  .rw[AB.ea,i.2,AB.ea,AB.ea,Ku,Ku,AB.ea]
   grind
 .cases a
variable{og:AB}{m s:Nat}
theorem eY{S:FuncId->Fq->Am->Prop}{K:AB->Prop}{cs cs':List AN}{o:Option (Nat×EV)}(a:(∃k,q.op=.bad m k)\/∃k,q.op=.w3 (.s m) k)(g:q.guard=none)(hd:q.dst=some d)(A:U.get s=.bx cs)(ho:∀z e,o=some (z,e)->(∃t,e=.tv t)/\z≠m)
  (he:∀n,og.get n=(NX s cs' o U).get n)(h:q.wp S og K):∃e,K ((d,e)::og)/\∀i:AB->Prop,i ((d,e)::U)->q.wp S U i:=by
 have u:og.get m=if s=m then .bx cs' else U.get m:=by
  grind [Es]
 have C:∀r c,og.get r=.bx c->∃l,U.get r=.bx l:=by
  grind [Es]
 unfold PR.wp at h;rcases a with⟨k,a⟩|⟨k,a⟩
 .rw[g,a,hd]at h;simp[AE.wp,AB.put]at h;by_cases e:s=m
  .rw[u,a6 e]at h;refine⟨_,h,fun i b=>?_⟩;unfold PR.wp;rw[g,a,hd];simp[AE.wp,<-e,A,AB.put];rw[<-e]at b;exact b
  .rw[u,ae e]at h;split at h
   .rename_i c j;refine⟨_,h,fun i b=>?_⟩;unfold PR.wp;rw[g,a,hd];simp[AE.wp,j,AB.put];exact b
   .rename_i row j;refine⟨_,h,fun i b=>?_⟩;unfold PR.wp;rw[g,a,hd];simp[AE.wp,j,AB.put];exact b
   .exact h.elim
 .rw[g,a,hd]at h;simp[AE.wp,AB.put,AF.ev]at h;by_cases e:s=m
  .rw[u,a6 e]at h;exact h.elim
  .rw[u,ae e]at h;split at h
   .rename_i row j;refine⟨_,h,fun i b=>?_⟩;unfold PR.wp;rw[g,a,hd];simp[AE.wp,AF.ev,j,AB.put];exact b
   .rename_i r off j;split at h
    .rename_i c B;obtain⟨l,w⟩:=C r c B;refine⟨_,h,fun i b=>?_⟩;unfold PR.wp;rw[g,a,hd];simp[AE.wp,AF.ev,j,w,AB.put];exact b
    .exact h.elim
   .exact h.elim
theorem qN{p q:PR}(C:JD D U)(b:Qj D p q=true)(h:D6 (AR P) K (p::q::rs) U):D6 (AR P) K (q::p::rs) U:=by
 have key:∃n x v m d,p.op=.st n (.s x) v/\p.guard=none/\p.dst=none/\((∃k,q.op=.bad m k)\/∃k,q.op=.w3 (.s m) k)/\q.guard=none/\q.dst=some d/\d∈D/\d≠x/\d∉v.sl/\m∉v.sl:=by
  unfold Qj at b
  grind
 obtain ⟨n,x,v,m,d,G,H,I,J,L,M,O,Q,R,T⟩:=key;obtain⟨e',g,h⟩:=h;have j:=C.congr g.symm;obtain⟨s,off,cs,cs',o,i,B,V,⟨y,u,W⟩,X⟩:=SX G H I h;have l:d≠s:=by
  intro e;subst e;simp[AF.place]at i;split at i
  .rename_i r w F;simp at i;exact j.no (x:=x) (s:=d) (by rw[F,<-i.1];rfl) O
  .grind
  .cases i
 have ho:∀a e,o=some (a,e)->(∃t,e=EV.tv t)/\a≠m:=fun a e he=>by
  grind [AF.sl]
 obtain ⟨e,Y,Z⟩:=eY (cs':=cs') (o:=o) (U:=e') J L M B ho u.1 W;refine⟨e',g,Z _ ⟨_,.refl _,X ((d,e)::e') ?_ (by rw[AB.d4,ae l];exact B) ?_ _ (GH Y ?_)⟩⟩
 .grind[AF.place,AB.d4]
 .cases v with
  |c t=>rfl|s a=>
   grind [AF.ev,AB.d4,AF.sl]
 .refine⟨fun z=>?_,fun z=>?_⟩
  .rw[AB.d4,u.1,Es,Es]
   grind [AB.d4,AF.sl]
  .have A:∀a e,o=some (a,e)->e.wL z=true:=fun a e he=>by
    obtain ⟨_,⟨t,rfl⟩,_⟩:=V a e he;rfl
   rw [AB.ea,u.2,FT _ _ _ _ _ A,FT _ _ _ _ _ A,AB.ea]
variable{n:Nat}
theorem kY{e' h:AB}{c:Nat}{o:Option Nat}{es es':Fq}(a:e'.tl c o=some (n,es))(H:es'.length=es.length)(he:∀z,h.get z=AB.get (e'.ww c o n es') z){y q:Nat}{i:Option Nat}{l:Fq}
  (J:h.get y=.la q i)(b:h.tl q i=some (m,l)):e'.get y=.la q i/\∃fs',e'.tl q i=some (m,fs')/\fs'.length=l.length:=by
 obtain ⟨⟨u,L,B⟩,ho,_⟩:=Ny (es':=es') a;have w:c≠y:=by
  grind
 refine ⟨by rw[<-J,he,ho _ w],?_⟩;by_cases I:c=q
 .subst I;cases o with
  |none=>
   have g:h.get c=.xo n es':=by rw[he];simp[AB.ww,AB.d4]
   cases i with
   |none=>
    simp [AB.tl,g]at b;obtain⟨rfl,rfl⟩:=b;exact⟨es,a,H.symm⟩
   |some k=>simp[AB.tl,g]at b
  |some G=>
   rcases B with⟨mm,Q,M,_⟩|⟨cs,k,O,C,F,rfl⟩
   .simp[AB.tl,M]at a
   .cases O;have g:h.get c=.bx (cs.set G ⟨true,.xl n es'⟩):=by rw[he,L]
    cases i with
    |none=>simp[AB.tl,g]at b|some k=>
     by_cases j:G=k
     .subst j;have A:G<cs.length:=(List.getElem?_eq_some_iff.1 C).1;simp[AB.tl,g,List.getElem?_set,a6 A]at b;obtain⟨rfl,rfl⟩:=b;exact⟨es,a,H.symm⟩
     .refine⟨l,?_,rfl⟩;rw[<-b];simp[AB.tl,g,F,List.getElem?_set,ae j]
 .exact⟨l,by rw[<-b];exact AB.wR (by rw[he,ho _ I]),rfl⟩
theorem qY{p q:PR}(hj:JD D U)(a:xN D p q=true)(h:D6 (AR P) K (p::q::rs) U):D6 (AR P) K (q::p::rs) U:=by
 unfold xN at a;split at a
 .rename_i x v k y z m d e1 e2 e3 f1 f2 f3;simp[Bool.not_eq_true',decide_eq_false_iff_not,wq]at a;obtain⟨⟨dD,Z⟩,hdv⟩:=a;obtain⟨e',O,h⟩:=h;have W:=hj.congr O.symm;simp only[PR.wp,e1,e2,e3,AE.wp,AB.put]at h;split at h
  .rename_i V i0 c R;split at h
   .rename_i n es u B hu;obtain⟨h1,h2,es',h3,h4,h5,og,A,b⟩:=h;have H:d≠V:=by
     rintro rfl;cases x with
     |c t=>cases R
     |s xs=>exact W.no (x:=xs) (s:=d) (by simp[AF.ev]at R;rw[R];rfl) dD
    simp [PR.wp,f1,f2,f3,AE.wp,AB.put,AF.wn]at b;have T:=A.1;obtain⟨⟨w,hw,hww⟩,ho,_⟩:=Ny (es':=es') B;have X:w.val=none:=by rcases hww with⟨_,_,_,_,_,rfl⟩|⟨_,_,_,_,_,rfl⟩<;>rfl
    have Y:∀t,z.val og=some t->z.val e'=some t:=by
     intro t F;cases z with
     |c t'=>exact F|s zz=>
      simp [AF.val,AF.ev]at F|-;by_cases l:V=zz
      .subst l;rw[T,hw,X]at F;cases F
      .rw[T,ho _ l]at F;exact F
    have I:∃g i G j Q,og.get y=.la g i/\og.tl g i=some (m,G)/\z.val og=some (.int Q j)/\0<=j/\j<G.length/\D6 (AR P) K rs ((d,.lp g i (j.toNat*m))::og):=by
     cases J:og.get y<;>rw[J]at b<;>simp[AX]at b<;>try exact b.elim
     .cases l:z.val og with
      |none=>rw[l]at b;exact b.elim|some t=>
       rw [l]at b;cases t<;>try exact b.elim
       have:=b.1.1;simp[AF.ev,J,EV.we]at this
     .rename_i g i;cases C:og.tl g i with
      |none=>rw[C]at b;exact b.elim|some pp=>
       obtain ⟨m',G⟩:=pp;rw[C]at b;simp only at b;cases l:z.val og with
       |none=>rw[l]at b;exact b.elim|some t=>
        rw [l]at b;cases t<;>try exact b.elim
        rename_i Q j;obtain⟨⟨_,rfl⟩,k1,k2,k3⟩:=b;exact⟨g,i,G,j,Q,rfl,C,rfl,k1,k2,k3⟩
    obtain ⟨g,i,G,j,Q,m1,m2,m3,m4,m5,m6⟩:=I;obtain⟨n1,fs',n2,n3⟩:=kY B h4 T m1 m2;refine⟨e',O,?_⟩;simp only[PR.wp,f1,f2,f3,AE.wp,AB.put,AF.wn,n1,n2,AX,Y _ m3,AF.ev,EV.we];refine⟨⟨trivial,trivial⟩,m4,by rw[n3];exact m5,_,.refl _,?_⟩;have L:∀(o:AF),d∉o.sl->o.ev ((d,.lp g i (j.toNat*m))::e')=o.ev e':=by
     intro o ho;cases o with
     |c t=>rfl|s t=>
      simp only[AF.ev,AB.d4];rw[ae];intro e;exact ho (by simp[AF.sl,e])
    simp only[PR.wp,e1,e2,e3,AE.wp,AB.put,L x Z,L v hdv,R,hu];have M:AB.tl ((d,.lp g i (j.toNat*m))::e') V i0=some (n,es):=by rw[AB.wJ H];exact B
    rw [M];refine⟨h1,h2,es',h3,h4,h5,GH m6 ?_⟩;refine MC.symm (MC.trans (YD (.refl _) H) ⟨fun s=>?_,fun s=>?_⟩)
    .simp[AB.d4,T]
    .simp[AB.ea,A.2]
   .exact h.elim
  .exact h.elim
 .cases a
theorem Yw{U env2:AB}{b:Nat}{o:Option AF}(h:∀y∈o.toList,y.val env2=y.val U):Gi env2 b o=Gi U b o:=by
 cases o with
 |none=>rfl|some y=>simp[Gi];exact h y (by simp)
theorem qf{S:FuncId->Fq->Am->Prop}{p:AE}{xs:List AF}{d:Option Nat}{K:EV->AB->Prop}(B:p.vops=some xs)(h:p.wp S U d K):
  ∃t,K (.tv t) U/\(∀x∈xs,∃u,x.val U=some u)/\∀env2,(∀x∈xs,x.val env2=x.val U)->∀j:EV->AB->Prop,j (.tv t) env2->p.wp S env2 d j:=by
 cases p<;>simp[AE.vops]at B<;>first|cases B|skip
 case bin k op x y=>
  simp [AE.wp]at h;split at h
  .rename_i a b g w;cases A:Kn k op a b with
   |none=>rw[A]at h;exact h.elim|some t=>
    rw [A]at h;refine⟨t,h,fun z c=>?_,fun env2 he j i=>?_⟩
    .simp at c;rcases c with rfl|rfl
     .exact⟨a,g⟩
     .exact⟨b,w⟩
    .simp[AE.wp,he x (by simp),he y (by simp),g,w,A];exact i
  .exact h.elim
 case zJ x k=>
  simp [AE.wp]at h;split at h
  .rename_i row g;refine⟨_,h,fun z c=>?_,fun env2 he j i=>?_⟩
   .rw[List.mem_singleton]at c;subst c;exact⟨_,g⟩
   .simp[AE.wp,he x (by simp),g];exact i
  .exact h.elim
 case zN x k=>
  simp [AE.wp]at h;split at h
  .rename_i row g;refine⟨_,h.2,fun z c=>?_,fun env2 he j i=>?_⟩
   .rw[List.mem_singleton]at c;subst c;exact⟨_,g⟩
   .simp[AE.wp,he x (by simp),g];exact⟨h.1,i⟩
  .exact h.elim
 case len x=>
  simp [AE.wp]at h;split at h
  .rename_i n es g;refine⟨_,h,fun z c=>?_,fun env2 he j i=>?_⟩
   .rw[List.mem_singleton.1 c];exact⟨_,g⟩
   .simp[AE.wp,he x (by simp),g];exact i
  .exact h.elim
 case yA k x=>
  simp [AE.wp]at h;split at h
  .rename_i I n g;refine⟨_,h,fun z c=>?_,fun env2 he j i=>?_⟩
   .rw[List.mem_singleton.1 c];exact⟨_,g⟩
   .simp[AE.wp,he x (by simp),g];exact i
  .exact h.elim
 case mm b x y=>
  simp [AE.wp]at h;split at h
  .rename_i k a I a' g w;refine⟨_,h.2,fun z c=>?_,fun env2 he j i=>?_⟩
   .simp at c;rcases c with rfl|rfl
    .exact⟨_,g⟩
    .exact⟨_,w⟩
   .simp[AE.wp,he x (by simp),he y (by simp),g,w];exact⟨h.1,i⟩
  .exact h.elim
 case xu n x lo hi=>
  simp [AE.wp]at h;split at h
  .rename_i m es g;split at h
   .rename_i C l F r G H;refine⟨_,h.2.2,fun z c=>?_,fun env2 he j i=>?_⟩
    .simp at c;rcases c with rfl|c|c
     .exact⟨_,g⟩
     .cases c;exact⟨_,G⟩
     .cases c;exact⟨_,H⟩
    .have C:Gi env2 0 lo=Gi U 0 lo:=Yw (fun y o=>he y (by simp at o|-;exact .inr (.inl o)));have F:Gi env2 es.length hi=Gi U es.length hi:=Yw (fun y o=>he y (by simp at o|-;exact .inr (.inr o)));simp[AE.wp,he x (by simp),g,C,F,G,H];exact⟨h.1,h.2.1,i⟩
   .exact h.elim
  .exact h.elim
theorem qX{p q:PR}(a:x9 D p q=true)(h:D6 (AR P) K (p::q::rs) U):D6 (AR P) K (q::p::rs) U:=by
 unfold x9 at a;split at a
 .rename_i xs d n x v V Q R W X Y;simp[bne_iff_ne,Bool.not_eq_true',decide_eq_false_iff_not]at a;obtain⟨⟨⟨_,hdx⟩,H⟩,I⟩:=a;obtain⟨e',J,h⟩:=h;unfold PR.wp at h;rw[Q,R]at h;simp[AB.put]at h;obtain⟨t,⟨y,j,hw⟩,hs,L⟩:=qf V h;obtain⟨s,off,cs,cs',o,h1,M,O,hK,h5⟩:=SX W X Y hw;have Z:∀z,d≠z->y.get z=e'.get z:=fun z w=>by rw[j.1,AB.d4,ae w]
  have g:d≠s:=fun e=>by
   rw [j.1,AB.d4,a6 e]at M;cases M
  have hp:(AF.s x).place e'=some (s,off):=by
   grind [AF.place]
  have hb:e'.get s=.bx cs:=by rw[<-Z s g];exact M
  have hv:v.ev e'=v.ev y:=by
   cases v with
   |c t=>rfl|s l=>
    grind [AF.ev,AF.sl]
  have hq:∀k:AB->Prop,k (NX s cs' o e')->q.wp (AR P) e' k:=fun k A=>h5 e' hp hb hv k A;refine⟨e',J,hq _ ⟨_,.refl _,?_⟩⟩;unfold PR.wp;rw[Q,R];simp[AB.put];refine L _ (fun z w=>?_) _ (GH hK ?_)
  .cases z with
   |c t=>rfl|s m=>
    obtain ⟨u,hu⟩:=hs _ w;have B:¬s=m:=fun e=>by
     grind [AF.val,AF.ev,EV.val]
    simp [AF.val,AF.ev,Es,ae B];cases o with
    |none=>rfl|some b=>
     have C:¬b.1=m:=fun e=>Ao I (x:=m) (List.mem_flatMap.2 ⟨_,w,by simp[AF.sl]⟩) (by rw[(O b.1 b.2 rfl).1,e];simp[AF.sl]);simp[ae C]
  .refine⟨fun z=>?_,fun z=>?_⟩
   .rw[AB.d4,Es,Es];by_cases F:s=z
    .subst F;rw[a6 rfl,ae g,a6 rfl]
    .rw[ae F,ae F];cases o with
     |none=>
      simp only;rw[j.1,AB.d4]
     |some b=>
      have G:¬d=b.1:=fun e=>H (by rw[(O b.1 b.2 rfl).1,e];simp[AF.sl]);simp only;by_cases i:b.1=z
      .rw[a6 i,a6 i,ae (fun e=>G (e.trans i.symm))]
      .rw[ae i,ae i,j.1,AB.d4]
   .have T:∀l e,o=some (l,e)->e.wL z=true:=fun l e he=>by
     obtain ⟨_,⟨t,rfl⟩,_⟩:=O l e he;rfl
    rw [AB.ea,FT _ _ _ _ _ T,FT _ _ _ _ _ T,j.2,AB.ea]
 .cases a
theorem qT{p q:PR}(hj:JD D U)(a:ya D p q=true)(h:D6 (AR P) K (p::q::rs) U):D6 (AR P) K (q::p::rs) U:=by
 unfold ya at a;split at a
 .rename_i b m d n x v R i T Z f2 f3;simp[bne_iff_ne,Bool.not_eq_true',decide_eq_false_iff_not,wq]at a;obtain⟨⟨⟨⟨⟨⟨_,bD⟩,hbx⟩,hdx⟩,hdb⟩,O⟩,V⟩:=a;obtain⟨e',H,h⟩:=h;have hj':=hj.congr H.symm;unfold PR.wp at h;rw[R,i,T]at h;simp[AB.put,AE.wp]at h;split at h
  case h_2=>exact h.elim
  rename_i bs hbs;obtain⟨M,y,w,hw⟩:=h;obtain⟨s,off,cs,cs',o,h1,g,B,J,h5⟩:=SX Z f2 f3 hw;have gy:∀z,d≠z->y.get z=e'.get z:=fun z X=>by rw[w.1,AB.d4,ae X]
  have l:d≠s:=fun e=>by
   rw [w.1,AB.d4,a6 e]at g;cases g
  have I:(AF.s x).place e'=some (s,off):=by
   grind [AF.place]
  have hsb:¬s=b:=by
   intro e;subst e;simp[AF.place]at I;split at I
   .rename_i r off' hx;simp at I;exact hj'.no (x:=x) (s:=s) (by rw[hx,<-I.1];rfl) bD
   .grind
   .cases I
  have G:e'.get s=.bx cs:=by rw[<-gy s l];exact g
  have hv:v.ev e'=v.ev y:=by
   cases v with
   |c t=>rfl|s F=>
    grind [AF.ev,AF.sl]
  have hq:∀C:AB->Prop,C (NX s cs' o e')->q.wp (AR P) e' C:=fun C Y=>h5 e' I G hv C Y;refine⟨e',H,hq _ ⟨_,.refl _,?_⟩⟩;have hg:(NX s cs' o e').get b=.bx bs:=by
   grind [Es,AF.sl]
  unfold PR.wp;rw[R,i,T];simp[AB.put,AE.wp,hg];refine⟨M,GH J ?_⟩;refine⟨fun z=>?_,fun z=>?_⟩
  .rw[AB.d4,Es,Es];by_cases A:s=z
   .subst A;rw[a6 rfl,ae l,a6 rfl]
   .rw[ae A,ae A];cases o with
    |none=>
     simp only;rw[w.1,AB.d4]
    |some j=>
     have L:¬d=j.1:=fun e=>O (by rw[(B j.1 j.2 rfl).1,e];simp[AF.sl]);simp only;by_cases u:j.1=z
     .rw[a6 u,a6 u,ae (fun e=>L (e.trans u.symm))]
     .rw[ae u,ae u,w.1,AB.d4]
  .have M:∀F e,o=some (F,e)->e.wL z=true:=fun F e he=>by
    obtain ⟨_,⟨t,rfl⟩,_⟩:=B F e he;rfl
   rw [AB.ea,FT _ _ _ _ _ M,FT _ _ _ _ _ M,w.2,AB.ea]
 .rename_i b k d n x v R i T Z f2 f3;simp[bne_iff_ne,Bool.not_eq_true',decide_eq_false_iff_not,wq]at a;obtain⟨⟨⟨_,hdx⟩,O⟩,V⟩:=a;obtain⟨e',H,h⟩:=h;unfold PR.wp at h;rw[R,i,T]at h;obtain⟨W,hn0,Q,y,w,hw⟩:∃W,(∀c,W≠.bx c)/\(∀i:AB,i.get b=e'.get b\/(∃c c',e'.get b=.bx c/\i.get b=.bx c')->∀C:EV->AB->Prop,C W i->(AE.bad b k).wp (AR P) i (some d) C)/\D6 (AR P) K (q::rs) ((d,W)::e'):=by
   simp only[AB.put,AE.wp]at h;split at h
   .rename_i G;refine⟨_,by simp,fun i g C J=>?_,h⟩;obtain⟨c',B⟩:∃c',i.get b=.bx c':=by
     rcases g with g|⟨_,c',_,g⟩
     .exact⟨_,g.trans G⟩
     .exact⟨c',g⟩
    simp only[AE.wp,B];exact J
   .rename_i G;refine⟨_,by simp,fun i g C J=>?_,h⟩;have B:i.get b=e'.get b:=g.resolve_right fun⟨c,c',h4,_⟩=>by rw[G]at h4;cases h4
    simp only[AE.wp,B,G];exact J
   .exact h.elim
  obtain ⟨s,off,cs,cs',o,h1,g,B,J,h5⟩:=SX Z f2 f3 hw;have gy:∀z,d≠z->y.get z=e'.get z:=fun z X=>by rw[w.1,AB.d4,ae X]
  have l:d≠s:=fun e=>by
   rw [w.1,AB.d4,a6 e]at g;exact hn0 _ g
  have I:(AF.s x).place e'=some (s,off):=by
   grind [AF.place]
  have G:e'.get s=.bx cs:=by rw[<-gy s l];exact g
  have hv:v.ev e'=v.ev y:=by
   cases v with
   |c t=>rfl|s F=>
    grind [AF.ev,AF.sl]
  refine ⟨e',H,h5 e' I G hv _ ⟨_,.refl _,?_⟩⟩;unfold PR.wp;rw[R,i,T];refine Q _ ?_ _ (GH J ?_)
  .rw[Es];by_cases A:s=b
   .subst A;exact .inr ⟨cs,cs',G,by rw[a6 rfl]⟩
   .rw[ae A];cases o with
    |none=>exact .inl rfl|some j=>
     have:¬j.1=b:=fun e=>V (by rw[(B j.1 j.2 rfl).1,e];simp[AF.sl]);simp only;rw[ae this];exact .inl rfl
  refine ⟨fun z=>?_,fun z=>?_⟩
  .simp only[AB.put];rw[AB.d4,Es,Es];by_cases A:s=z
   .subst A;rw[a6 rfl,ae l,a6 rfl]
   .rw[ae A,ae A];cases o with
    |none=>
     simp only;rw[w.1,AB.d4]
    |some j=>
     have L:¬d=j.1:=fun e=>O (by rw[(B j.1 j.2 rfl).1,e];simp[AF.sl]);simp only;by_cases u:j.1=z
     .rw[a6 u,a6 u,ae (fun e=>L (e.trans u.symm))]
     .rw[ae u,ae u,w.1,AB.d4]
  .have M:∀F e,o=some (F,e)->e.wL z=true:=fun F e he=>by
    obtain ⟨_,⟨t,rfl⟩,_⟩:=B F e he;rfl
   simp only[AB.put];rw[AB.ea,FT _ _ _ _ _ M,FT _ _ _ _ _ M,w.2,AB.ea]
 .cases a
theorem ee{oq:Oper}(w:LK P N ops oq q=true){b:List PR}:∀(a:List PR),(∀p∈a,xS D p q=true/\∃o,LK P N ops o p=true)->∀{U:AB},LI F0 w0 N U->JD D U->D6 (AR P) K (a++q::b) U->D6 (AR P) K (q::(a++b)) U
 |[],_,U,_,_,h=>h|p::a,g,U,C,F,h=>by
  obtain ⟨c,o,ho⟩:=g p (by simp);obtain⟨e',i,h⟩:=h;obtain⟨og,B,k,l,j⟩:=head ho (ac c) (C.congr i.symm) (F.congr i.symm) h;have A:=ee w a (fun p z=>g p (by simp[z])) k l B;have u:D6 (AR P) K (p::q::(a++b)) U:=⟨e',i,j _ A⟩;simp[xS]at c
  grind [swap,nH,qO,qW,qZ,qN,qY,qX,qT,qS,qR,qa,qV,qU,qP,qQ]
variable{x:AF}
theorem sY{S:FuncId->Fq->Am->Prop}{d:Option Nat}{K:EV->AB->Prop}(h:(AE.st n x v).wp S U d K):(AE.st n x v).wp S U d fun e env'=>K e env'/\e=.undef/\∀c,env'.f0 c=U.f0 c:=by
 simp [AE.wp]at h|-;split at h
 .rename_i s off a;split at h
  .rename_i cs b;split at h
   .grind[AB.ea,EV.wL,EV.we]
   .grind[AB.ea,EV.wL,EV.we]
   .exact h.elim
  .exact h.elim
 .exact h.elim
theorem oi{S:FuncId->Fq->Am->Prop}{d:Option Nat}{K:EV->AB->Prop}(h:(AE.yy n s v).wp S U d K):(AE.yy n s v).wp S U d fun e env'=>K e env'/\e=.undef/\∀c,env'.f0 c=U.f0 c:=by
 simp [AE.wp]at h|-;split at h
 .rename_i cs a;split at h
  .grind[AB.ea,EV.wL,EV.we]
  .grind[AB.ea,EV.wL,EV.we]
  .exact h.elim
 .exact h.elim
theorem WA(U:AB)(q:Nat)(i:Option Nat)(n:Nat)(es:Fq)(c:Nat):AB.f0 c (U.ww q i n es)=AB.f0 c U:=by
 cases i with
 |none=>simp[AB.ww,AB.ea,EV.wL,EV.we]|some k=>
  grind [AB.ww,AB.ea,EV.wL,EV.we]
theorem od{S:FuncId->Fq->Am->Prop}{q:Nat}{d:Option Nat}{K:EV->AB->Prop}(h:(AE.zp x q).wp S U d K):(AE.zp x q).wp S U d fun e env'=>K e env'/\e=.undef/\∀c,env'.f0 c=U.f0 c:=by
 simp [AE.wp]at h|-;split at h
 .grind[AB.ea,EV.wL,EV.we]
 .grind[AB.ea,EV.wL,EV.we]
 .exact h.elim
theorem om{S:FuncId->Fq->Am->Prop}{k:Nat}{d:Option Nat}{K:EV->AB->Prop}(h:(AE.yx x v k).wp S U d K):(AE.yx x v k).wp S U d fun e env'=>K e env'/\e=.undef/\∀c,env'.f0 c=U.f0 c:=by
 simp [AE.wp]at h|-;split at h
 .grind[WA]
 .exact h.elim
theorem dL(U:AB)(q i:Nat)(es:Fq)(c:Nat):AB.f0 c (U.za q i es)=AB.f0 c U:=by grind[AB.za,AB.ea,EV.wL,EV.we]
theorem oh{S:FuncId->Fq->Am->Prop}{d:Option Nat}{K:EV->AB->Prop}(h:(AE.yP x v).wp S U d K):(AE.yP x v).wp S U d fun e env'=>K e env'/\e=.undef/\∀c,env'.f0 c=U.f0 c:=by
 simp [AE.wp]at h|-
 grind [dL]
theorem oj{S:FuncId->Fq->Am->Prop}{a:List (Option AN)}{d:Option Nat}{K:EV->AB->Prop}(h:(AE.zh n a x v).wp S U d K):(AE.zh n a x v).wp S U d fun e env'=>K e env'/\e=.undef/\∀c,env'.f0 c=U.f0 c:=by
 simp [AE.wp]at h|-;split at h
 .rename_i s off t g hv;split at h
  .rename_i cs i;cases b:EA a t.cells with
   |none=>rw[b]at h;exact h.elim|some ds=>
    grind [AB.ea,EV.wL,EV.we]
  .exact h.elim
 .exact h.elim
theorem oe{S:FuncId->Fq->Am->Prop}{m x v:AF}{d:Option Nat}{K:EV->AB->Prop}(h:(AE.zi s m x v).wp S U d K):(AE.zi s m x v).wp S U d fun e env'=>K e env'/\e=.undef/\∀c,env'.f0 c=U.f0 c:=by
 simp [AE.wp]at h|-;split at h
 .rename_i b a g t i j k;split at h
  .grind[AB.ea,EV.wL,EV.we]
  .exact h.elim
 .exact h.elim
theorem ol{S:FuncId->Fq->Am->Prop}{n s q:Nat}{d:Option Nat}{K:EV->AB->Prop}(h:(AE.stx n s q).wp S U d K):(AE.stx n s q).wp S U d fun e env'=>K e env'/\e=.undef/\∀c,env'.f0 c=U.f0 c:=by
 simp [AE.wp]at h|-
 grind [AB.ea,EV.wL,EV.we]
theorem iX{S:FuncId->Fq->Am->Prop}{f:FuncId}{a:List AF}{d:Option Nat}{K:EV->AB->Prop}(h:(AE.xk f x a).wp S U d K):(AE.xk f x a).wp S U d fun e env'=>K e env'/\e.we=none/\∀c,env'.f0 c=U.f0 c:=by
 simp only[AE.wp]at h|-;cases b:x.wn U with
 |none=>rw[b]at h;exact h.elim|some p=>
  cases hv:vals U a with
  |none=>rw[b,hv]at h;exact h.2.elim|some w=>
   rw [b,hv]at h;obtain⟨j,zs,g,k,l,o,u⟩:=h;refine⟨j,zs,g,k,l,o,fun i=>⟨u i,?_,fun c=>WA _ _ _ _ _ c⟩⟩;unfold EV.zf;split<;>rfl
variable{r:PR}
theorem mE{S:FuncId->Fq->Am->Prop}{K:AB->Prop}(M:Zg D r=true)(hd:MK r.op=true->r.dst=none)(a:JD D U)(h:r.wp S U K):r.wp S U fun env'=>K env'/\JD D env':=by
 simp [Zg,Bool.not_eq_true']at M;rcases M with(((((B|J)|k)|Y)|Z)|L)|⟨⟨⟨hm,i⟩,O⟩,o⟩
 rotate_right 2
 .unfold okCm at L;split at L
  .rename_i f x ys d u w;have put:∀e:EV,e.we=none->∀env':AB,(∀c,env'.f0 c=U.f0 c)->JD D (env'.put r.dst e):=fun e he env' T c hc=>by
    rw [w];show AB.f0 c ((d,e)::env')=true;rw[AB.ea,T,a c hc];simp[EV.wL,he]
   have A:(r.op.wp S U r.dst fun e env'=>K (env'.put r.dst e))->r.op.wp S U r.dst fun e env'=>K (env'.put r.dst e)/\JD D (env'.put r.dst e):=fun l=>by
    rw [u]at l|-;exact AE.ns S U _ (fun e env' he=>⟨he.1,put e he.2.1 env' he.2.2⟩) _ (iX l)
   unfold PR.wp at h|-;split
   .rename_i O;rw[O]at h;exact A h
   .rename_i g b O;rw[O]at h;simp only at h;split
    .rename_i q k;rw[k]at h;exact⟨fun o=>A (h.1 o),fun o=>⟨h.2 o,put .sk rfl U fun _=>rfl⟩⟩
    .rename_i F;rw[F]at h;exact⟨h,put .sk rfl U fun _=>rfl⟩
    .rename_i G H;split at h
     .rename_i q k;exact absurd k (G q)
     .rename_i k;exact absurd k H
     .exact h.elim
  .cases L
 rotate_right
 .exact PR.ns _ _ (fun env' he=>⟨he.1,fun x C=>by rw[he.2];exact a x C⟩) r (ib Z h)
 rotate_left 4
 .obtain⟨og,k1,k2,k3⟩:=Zh Y h;exact k3 _ ⟨k1,fun x C=>by rw[k2];exact a x C⟩
 rotate_left 1
 .have i:=hd B;have A:(r.op.wp S U r.dst fun e env'=>K (env'.put r.dst e))->r.op.wp S U r.dst fun e env'=>K (env'.put r.dst e)/\JD D (env'.put r.dst e):=by
   intro l;rw[i]at l|-;generalize r.op=p at B l|-;cases p<;>simp[MK]at B<;>first|cases B|skip
   .refine AE.ns S U none (fun e env' he=>⟨he.1,fun d hd=>?_⟩) _ (sY l);simp[AB.put];rw[he.2.2];exact a d hd
   .refine AE.ns S U none (fun e env' he=>⟨he.1,fun d hd=>?_⟩) _ (oi l);simp[AB.put];rw[he.2.2];exact a d hd
   .refine AE.ns S U none (fun e env' he=>⟨he.1,fun d hd=>?_⟩) _ (om l);simp[AB.put];rw[he.2.2];exact a d hd
   .refine AE.ns S U none (fun e env' he=>⟨he.1,fun d hd=>?_⟩) _ (ol l);simp[AB.put];rw[he.2.2];exact a d hd
   .refine AE.ns S U none (fun e env' he=>⟨he.1,fun d hd=>?_⟩) _ (od l);simp[AB.put];rw[he.2.2];exact a d hd
   .refine AE.ns S U none (fun e env' he=>⟨he.1,fun d hd=>?_⟩) _ (oh l);simp[AB.put];rw[he.2.2];exact a d hd
   .refine AE.ns S U none (fun e env' he=>⟨he.1,fun d hd=>?_⟩) _ (oj l);simp[AB.put];rw[he.2.2];exact a d hd
   .refine AE.ns S U none (fun e env' he=>⟨he.1,fun d hd=>?_⟩) _ (oe l);simp[AB.put];rw[he.2.2];exact a d hd
  unfold PR.wp at h|-;split
  .grind
  .rename_i g b hr;rw[hr]at h;simp only at h;split
   .rename_i q k;rw[k]at h;exact⟨fun o=>A (h.1 o),fun o=>⟨h.2 o,by rw[i];exact a⟩⟩
   .rename_i F;rw[F]at h;exact⟨h,by rw[i];exact a⟩
   .rename_i G H;split at h
    .rename_i q k;exact absurd k (G q)
    .rename_i k;exact absurd k H
    .exact h.elim
 .unfold yk at J;split at J
  .rename_i gs d u w I;obtain⟨ts,R,W,X⟩:=Uy u w I h;refine Q9 u w I R W ⟨X,fun x C=>?_⟩;rw[AB.ea,Ku,a x C];rfl
  .cases J
 .unfold okQ at k;split at k
  .rename_i s d u w I;obtain⟨n,es,R,h2,W,X⟩:=cN u w I h;refine cO u w I R h2 W ⟨X,fun x C=>?_⟩;have:=a x C;simp[AB.ea,EV.wL,EV.we,this]
  .rename_i n s z x d u w I;simp[PR.wp,u,w,I,AE.wp,AB.put]at h|-;split at h
   .rename_i d' m es kk j Q hs C;simp at Q;subst Q;refine⟨h.1,h.2.1,h.2.2.1,h.2.2.2,fun y hy=>?_⟩;have:=a y hy;simp[AB.ea,EV.wL,EV.we,this]
   .exact h.elim
  .cases k
 .obtain⟨d,hd⟩:=Option.isSome_iff_exists.1 i;have V:r.op.wc=true->r.guard=none:=fun T=>by
   rcases O with h|h
   .rw[T]at h;cases h
   .simpa using h
  refine PR.ns S U (fun env' he=>?_) r (OU hd hm V h);obtain⟨R,e,f,hF⟩:=he;exact⟨R,hF.jd o a⟩
theorem iM{S:FuncId->Fq->Am->Prop}{a:Act}{w:World}:∀{U:AB},RQ rs=true->D6 S K rs U->Bm F0 w0 U a w->∃env',K env'/\Bm F0 w0 env' a w:=by
 induction rs with
 |nil=>intro U _ h b;obtain⟨e,g,i⟩:=h;exact⟨e,i,b.congr fun n=>(g.1 n).symm⟩
 |cons r rs z=>
  intro U c h b;simp[RQ]at c;obtain⟨g,i⟩:=c;obtain⟨e',j,h⟩:=h;have b:=b.congr (fun n=>(j.1 n).symm);split at g
  .rename_i s k l o;simp[PR.wp,k,l,o,AE.wp]at h;split at h
   .rename_i cs u;obtain⟨G,b⟩:=b;exact z i h (b.ze u)
   .exact h.elim
  .cases g
theorem RR:∀(os:List Oper)(rs:List PR),LS P N ops os rs=true->(∀i o,os[i]?=some o->LK P N ops o (Mw rs i)=true)/\RQ (rs.drop os.length)=true/\rs=(List.range os.length).map (Mw rs)++rs.drop os.length
 |[],rs,h=>⟨fun i o h=>by simp at h,h,by simp⟩|o::os,[],h=>by simp[LS]at h|o::os,r::rs,h=>by
  simp [LS]at h;obtain⟨b,c,g⟩:=RR os rs h.2;refine⟨fun i a hi=>?_,by simpa using c,?_⟩
  .cases i with
   |zero=>simp[List.getElem?_cons_zero]at hi;subst hi;exact h.1|succ i=>simp[List.getElem?_cons_succ]at hi;exact b i a hi
  .rw[cE,List.range_succ_eq_map,List.map_cons,List.map_map,List.cons_append,List.drop_succ_cons];congr 1
theorem ew{Q:Exit->Act->World->Prop}(hok:Sp P N D ops rs=true)(hpd:∀i v,p=some (i,v)->∀r∈rs,r.dst≠some i)(hQ:∀U a w,K U->KH N p a->Bm F0 w0 U a w->Q .normal a w):
  ∀(fuel:Nat)(rem:Ne)(b:Array Bool)(U:AB)(a:Act)(w:World),rem.length=fuel->rem.Pairwise (·<·)->(∀j,j∈rem↔j<ops.size/\b.getD j true=false)->b.size=ops.size ->
   (∀k o,ops[k]?=some o->b.getD k false=true->∀e∈o.after,Region.binds .any e=true->b.getD e.on false=true) ->
   KH N p a->Bm F0 w0 U a w->JD D U->D6 (AR P) K (rem.map (Mw rs)++rs.drop ops.size) U->wpAny P .any ops Q fuel b a w:=by
 simp only[Sp,pr,List.all_eq_true,List.mem_range]at hok;obtain⟨⟨⟨⟨hl,hs⟩,he⟩,hM⟩,hP⟩:=hok;obtain⟨H,hl2,hl3⟩:=RR ops.toList rs hl;simp[Array.getElem?_toList]at H hl2 hl3;intro fuel
 induction fuel with
 |zero=>
  intro rem b U a w z W c hsz X hN hI V h;have:rem=[]:=List.eq_nil_of_length_eq_zero z;subst this;refine⟨?_,?_⟩
  .refine List.eq_nil_iff_forall_not_mem.2 fun j L=>?_;rw[mem_ready]at L;obtain⟨J,o,ho,_⟩:=L;have:=(c j).2 ⟨(Array.getElem?_eq_some_iff.1 ho).1,J⟩;cases this
  .obtain⟨env',J,u⟩:=iM hl2 h hI;exact hQ env' a w J hN u
 |succ fuel ih=>
  intro rem b U a w z W c hsz X hN hI V h;refine⟨fun hnil=>?_,fun i hi=>?_⟩
  ·
   exfalso;cases rem with
   |nil=>simp at z|cons i rem=>
    have J:=(c i).1 (by simp);have l:i∈Region.ready .any ops b:=by
     rw [mem_ready];have ho:ops[i]?=some ops[i]:=Array.getElem?_eq_getElem J.1;refine⟨J.2,_,ho,fun e B O=>?_⟩;have:=he i J.1;rw[ho]at this;simp only[List.all_eq_true,Bool.or_eq_true,Bool.not_eq_true',wq]at this;have hlt:=(this e (by simpa using B)).resolve_left (by simp[O]);cases G:b.getD e.on false with
     |true=>rfl|false=>
      have Y:e.on∈i::rem:=by
       refine (c _).2 ⟨by omega,?_⟩;have:e.on<b.size:=by omega
       simp [Array.getD_eq_getD_getElem?,Array.getElem?_eq_getElem this]at G|-;exact G
      rcases List.mem_cons.1 Y with u|u
      .omega
      .have:=(List.pairwise_cons.1 W).1 _ u;omega
    rw [hnil]at l;cases l
  .have hi':=hi;rw[mem_ready]at hi';obtain⟨hi1,o,ho,hi2⟩:=hi';have l:i<ops.size:=(Array.getElem?_eq_some_iff.1 ho).1;have hir:i∈rem:=(c i).2 ⟨l,hi1⟩;obtain⟨I,A,rfl⟩:=List.append_of_mem hir;have g:=List.pairwise_append.1 W;have R:∀j∈I,j<i:=fun j V=>g.2.2 j V i (by simp);have hpost:∀j∈A,i<j:=fun j V=>(List.pairwise_cons.1 g.2.1).1 j V;have M:∀(k:Nat),k<ops.size->(∀o,ops[k]?=some o->∀e∈o.after,Region.binds .any e=true->b.getD e.on false=true)->∀j,j<ops.size->((k8 ops).getD k 0).testBit j=true->b.getD j false=true:=by
    intro k
    induction k using Nat.strongRecOn with
    |_ k ihk=>
     intro hk hdir j F O;have:=hM k hk j F;rw[O]at this;simp only[Bool.not_true,Bool.false_or]at this;split at this
     .rename_i ok hok';simp only[List.any_eq_true,pr,Bool.or_eq_true,beq_iff_eq,wq]at this;obtain⟨e,B,hbe,h3⟩:=this;have G:=hdir ok hok' e (by simpa using B) hbe;rcases h3 with h3|⟨h3,h4⟩
      .rw[<-h3];exact G
      .exact ihk e.on h3 (by omega) (fun T C e' he' hb'=>X e.on T C G e' he' hb') j F h4
     .cases this
   have hwp:D6 (AR P) K (Mw rs i::(I.map (Mw rs)++(A.map (Mw rs)++rs.drop ops.size))) U:=by
    refine ee (ops:=ops) (F0:=F0) (w0:=w0) (N:=N) (oq:=o) (H i o ho) (I.map (Mw rs)) (fun p hp=>?_) ⟨a,w,hN.size,hI⟩ V (by simpa using h);obtain⟨j,hj1,rfl⟩:=List.mem_map.1 hp;have hlt:=R j hj1;have F:j<ops.size:=by omega
    refine ⟨?_,ops[j],H j _ (Array.getElem?_eq_getElem F)⟩;have:=hP i l j hlt;rw[Bool.or_eq_true]at this;refine this.resolve_left fun O=>?_;have J:=M i l (fun T C=>by rw[ho]at C;simp at C;subst C;exact hi2) j F O;have u:=((c j).1 (by simp[hj1])).2;have:j<b.size:=by omega
    simp [Array.getD_eq_getD_getElem?,Array.getElem?_eq_getElem this]at J u;rw[J]at u;cases u
   obtain ⟨e',heq,hw⟩:=hwp;have hI':=hI.congr (fun n=>(heq.1 n).symm);have L:=V.congr heq.symm;have hstd:MK (Mw rs i).op=true->(Mw rs i).dst=none:=by
    intro hst;have:=H i o ho;simp[LK]at this;have u:=this.2;split at u
    .simp only[hst,Bool.not_true,Bool.and_false,Bool.false_and]at u;cases u
    .assumption
    .cases u
   have hw':=mE (hs i l) hstd L hw;have hmem':∀j,j∈I++A↔j<ops.size/\(b.setIfInBounds i true).getD j true=false:=by
    intro j;by_cases hij:j=i
    .subst hij;constructor
     .intro Y;rcases List.mem_append.1 Y with Y|Y
      .have:=R _ Y;omega
      .have:=hpost _ Y;omega
     .rintro⟨_,u⟩;have:j<b.size:=by omega
      simp [this]at u
    .rw[getD_set_ne true (fun e=>hij e.symm),<-c j];simp[hij]
   have hcl':∀k T,ops[k]?=some T->(b.setIfInBounds i true).getD k false=true->∀e∈T.after,Region.binds .any e=true->(b.setIfInBounds i true).getD e.on false=true:=by
    intro k T hk hlk e B O;refine getD_set_true ?_;by_cases hki:k=i
    .subst hki;rw[ho]at hk;simp at hk;subst hk;exact hi2 e B O
    .rw[getD_set_ne false (fun e=>hki e.symm)]at hlk;exact X k T hk hlk e B O
   have hpdi:∀j v,p=some (j,v)->(Mw rs i).dst≠some j:=by
    intro j v hp;unfold Mw;cases hr:rs[i]? with
    |none=>simp|some r=>exact hpd j v hp r (List.mem_of_getElem? hr)
   have:=VF (Q:=Q) (next:=wpAny P .any ops Q fuel (b.setIfInBounds i true)) hI' hN hpdi (H i o ho) hw' fun env' a' w' k1 k2 k3=>
    ih (I++A) _ env' a' w' (by simp at z|-;omega) (List.pairwise_append.2 ⟨g.1,(List.pairwise_cons.1 g.2.1).2,fun x hx y hy=>g.2.2 x hx y (by simp[hy])⟩) hmem' (by simpa using hsz) hcl' k2 k3 k1.2 (by simpa using k1.1)
   unfold Go.wpOp;rw[ho];simp;split
   .rename_i Z;rw[a6 Z]at this;exact .inl this
   .rename_i Z;rw[ae Z]at this;exact this
theorem XK:∀(ds:Ne)(U:AB),Qe U ds=true->JD ds U
 |[],U,_=>fun d hd=>by simp at hd|d::ds,U,h=>by
  simp [Qe]at h;intro x a;rcases List.mem_cons.1 a with rfl|a
  .exact h.1
  .exact XK ds U h.2 x a
theorem Ko(M:P.follows .mixedOrders=true):KG P N (Sp P N):=by
 intro F0 w0 p id ds ops rs g U a w K Q A C Z c hd h hQ;refine wp_region_any M ?_;have l:=A;simp[Sp]at l;obtain⟨_,_,I⟩:=RR ops.toList rs l.1.1.1.1;simp at I;have H:Bm F0 w0 U a {w with drawn:=w.drawn+1}:=by
  obtain ⟨G,c⟩:=c;refine⟨G,c.ne,c.lt,⟨c.below.os,c.below.tape,c.below.output,c.below.size,c.below.block,c.below.cell,c.below.free,c.below.tab⟩,c.defers,c.dom,fun s O=>?_,c.wf⟩;exact AK.kept (w:=w) (w':={w with drawn:=w.drawn+1}) (F:=AS w0.heap.size F0 G) (G:=G) (U:=U) (a:=a) (fun b o u R T=>⟨R,T⟩) (fun _=>rfl) (fun _ _ _ _=>rfl) rfl (fun _ _ _ _ _=>rfl) (fun r i k J V=>⟨V,fun v hv=>by cases k<;>exact hv⟩) (fun r off J z=>⟨z,rfl⟩) (fun r i J z=>⟨z,fun _ hv=>hv⟩) (c.slots s O)
 refine ew (K:=fun e=>K (e.ff g)) (F0:=F0) (w0:=w0) A C (fun U a w W X Y=>hQ _ a w W X (Y.ff g)) ops.size (List.range ops.size) _ U a _ (by simp) List.pairwise_lt_range (fun j=>?_) (by simp) (fun k o hk B=>?_) Z H (XK ds U hd) ?_
 .rw[List.mem_range];constructor
  .intro L;exact⟨L,by simp[Array.getD_eq_getD_getElem?,Array.getElem?_replicate,L]⟩
  .exact fun h=>h.1
 .simp[Array.getD_eq_getD_getElem?,Array.getElem?_replicate]at B;split at B<;>simp at B
 grind [gm]
end
end Go.Sf
