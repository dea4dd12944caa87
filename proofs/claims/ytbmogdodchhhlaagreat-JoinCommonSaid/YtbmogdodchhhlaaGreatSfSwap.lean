/- Two operations of a region that may change places. -/
import Derived.Test.YtbmogdodchhhlaaGreatSfFrame
set_option linter.all false
namespace Go.Sf
open Go.RowKit (Below)
theorem AA.j4(d k:Nat)(e:EV)(O:AA):AA.pc d ((k,e)::O)=(e.sV d&&AA.pc d O):=rfl
variable{d:Nat}{e:EV}
theorem N9(h:∀s,e.sE=some s->s≠d):e.sV d=true:=by grind[EV.sV]
theorem A1.pc(f:A1)(O:AA)(d:Nat):AA.pc d (f.app O)=AA.pc d O:=by
 cases f with
 |none=>rfl|slot s t=>simp[A1.app,AA.j4,EV.sV,EV.sE]|cell s c t=>
  grind [A1.app,AA.j4,EV.sV,EV.sE]
def A1.on(f:A1)(n:Nat)(e:EV):EV:=
 match f with
 |.none=>e|.slot s t=>if s=n then .tv t else e|.cell s off t=>if s=n then(match e with|.bx cs=>.bx (cs.set off ⟨false,t⟩)|e=>e)else e
theorem A1.get(f:A1)(O:AA)(n:Nat):AA.get (f.app O) n=f.on n (O.get n):=by
 cases f with
 |none=>rfl|slot s t=>simp[A1.app,AA.jj,A1.on]|cell s c t=>
  simp [A1.app,A1.on]
  grind [AA.jj]
def I5(O env2:AA):Prop:=(∀n,O.get n=env2.get n)/\∀d,O.pc d=env2.pc d
theorem I5.refl(O:AA):I5 O O:=⟨fun _=>rfl,fun _=>rfl⟩
theorem I5.trans{a b c:AA}(h:I5 a b)(f:I5 b c):I5 a c:=⟨fun n=>(h.1 n).trans (f.1 n),fun d=>(h.2 d).trans (f.2 d)⟩
variable{a b:AA}
theorem I5.symm(h:I5 a b):I5 b a:=⟨fun n=>(h.1 n).symm,fun d=>(h.2 d).symm⟩
variable{w:World}
theorem BM.congr{F0:Nat->Nat->Prop}{w0:W0}{O env2:AA}{a:Act}(h:BM F0 w0 O a w)(he:∀n,O.get n=env2.get n):BM F0 w0 env2 a w:=by
 obtain ⟨G,h⟩:=h;refine⟨G,h.rj,h.lt,h.below,h.defers,fun q c=>?_,fun q c=>?_,fun q=>?_⟩
 .rw[<-he];exact h.dom q c
 .rw[<-he];refine AH.kept (K6 _ _) (fun _=>rfl) (fun _ _ _ _=>rfl) rfl A4.rfl' (fun r i k j⟨p,f⟩=>⟨⟨p,(AA.te (he r)).trans f⟩,fun _ hv=>hv⟩) (fun r l j⟨cs,g⟩=>⟨⟨cs,by rw[he];exact g⟩,rfl⟩) (fun r i j⟨p,f⟩=>⟨⟨p,(AA.sS (he r)).trans f⟩,fun _ hv=>hv⟩) (h.slots q c)
 .rw[<-he];exact h.wf q
def DQ(S:FuncId->Fq->Ap->Prop)(K:AA->Prop):List PR->AA->Prop
 |[],O=>∃e,I5 e O/\K e|r::rs,O=>∃e,I5 e O/\r.wp S e (DQ S K rs)
section
variable{S:FuncId->Fq->Ap->Prop}{K:AA->Prop}
variable{rs:List PR}
theorem FA{O env2:AA}(h:DQ S K rs O)(he:I5 O env2):DQ S K rs env2:=by
 cases rs with
 |nil=>obtain⟨e,c,f⟩:=h;exact⟨e,c.trans he,f⟩
 |cons r rs=>obtain⟨e,c,f⟩:=h;exact⟨e,c.trans he,f⟩
theorem Wv:∀{rs:List PR}{O:AA},wpOps S K rs O->DQ S K rs O
 |[],O,h=>⟨O,.refl _,h⟩|r::rs,O,h=>⟨O,.refl _,PR.rl S O (fun e he=>Wv he) r h⟩
def PR.tQ(r:PR):Ne:=
 match r.guard with
 |some (g,_)=>[g]|none=>[]
structure Kb(S:FuncId->Fq->Ap->Prop)(r:PR)(d:Nat)(O rm:AA)(e:EV)(f:A1):Prop where
 rm:rm=(d,e)::f.app O
 ok:f.ok O
 slot:∀s t,f=.slot s t->s∈r.op.up
 cell:∀s off t,f=.cell s off t->(s∈r.op.slots\/∃x∈r.op.slots,(O.get x).sE=some s)
 sE:∀s,e.sE=some s->(s∈r.op.t7\/∃x∈r.op.slots,(O.get x).sE=some s)
 new:r.op.sg=true->e.sE=none/\O.pc d=true
 xl:∀s off t,f=.cell s off t->t.tE=false
 again:∀env2,C3 r.op f (some d) O env2->(∀g∈r.tQ,env2.get g=O.get g)->∀K2:AA->Prop,K2 ((d,e)::f.app env2)->r.wp S env2 K2
variable{r:PR}{d:Nat}{O:AA}
theorem Kd(hd:r.dst=some d)(C:r.op.mov=true)(I:r.op.sg=true->r.guard=none)(h:r.wp S O K):r.wp S O fun rm=>K rm/\∃e f,Kb S r d O rm e f:=by
 have B:∀(m:∀env2,(∀g∈r.tQ,env2.get g=O.get g)->∀u:AA->Prop,(r.op.wp S env2 (some d) fun e env'=>u (env'.put (some d) e))->r.wp S env2 u),(r.op.wp S O (some d) fun e env'=>K (env'.put (some d) e))->r.op.wp S O (some d) fun e env'=>K (env'.put (some d) e)/\∃E f,Kb S r d O (env'.put (some d) e) E f:=by
  intro m G;refine AC.rl S O (some d) (fun e env' he=>?_) r.op (frame C G);obtain⟨H,f,c⟩:=he;refine⟨H,e,f,?_,c.ok,c.slot,c.cell,c.sE,fun v=>⟨(c.new v).1,(c.new v).2 d rfl⟩,c.xl,fun env2 F k u j=>?_⟩
  .simp[AA.put];rw[c.env']
  .exact m env2 k u (c.again env2 F _ j)
 unfold PR.wp at h|-;cases l:r.guard with
 |none=>
  grind [PR.wp]
 |some gb=>
  obtain ⟨g,b⟩:=gb;rw[l]at h;rw[hd]at h|-;simp only at h|-;have k:g∈r.tQ:=by simp[PR.tQ,l]
  split at h
  .rename_i q A;refine⟨fun y=>B (fun env2 c u j=>?_) (h.1 y),fun y=>⟨h.2 y,.sk,.none,rfl,trivial,by simp,by simp,(fun s he=>by cases he),fun v=>?_,by simp,fun env2 _ c u j=>?_⟩⟩
   .grind[PR.wp]
   .grind
   .unfold PR.wp;rw[l,hd];simp only;rw[c g k,A];exact⟨fun z=>by subst z;cases q<;>simp at y,fun _=>j⟩
  .rename_i A;refine⟨h,.sk,.none,rfl,trivial,by simp,by simp,(fun s he=>by cases he),fun v=>?_,by simp,fun env2 _ c u j=>?_⟩
   .grind
   .unfold PR.wp;rw[l,hd];simp only;rw[c g k,A];exact j
  .exact h.elim
end
section
variable{P:Program}{F0:Nat->Nat->Prop}{w0:W0}{N:Nat}{ops:Array Oper}{K:AA->Prop}
def IZ(F0:Nat->Nat->Prop)(w0:W0)(N:Nat)(O:AA):Prop:=∃a w,a.tmps.size=N/\BM F0 w0 O a w
theorem IZ.congr{O env2:AA}(h:IZ F0 w0 N O)(he:I5 O env2):IZ F0 w0 N env2:=by
 obtain ⟨a,w,c,f⟩:=h;exact⟨a,w,c,f.congr he.1⟩
variable{O:AA}{s:Nat}{t:TV}
theorem IZ.list(h:IZ F0 w0 N O)(c:O.get s=.ow t):∃n es,t=.list n es:=by
 obtain ⟨a,w,_,G,f⟩:=h;have:=AS f c (by simp);simp[AH]at this;cases t<;>simp[BP]at this;exact⟨_,_,rfl⟩
variable{o:Oper}{w:World}
theorem VW{a:Act}{X:Prop}(h:o.wp P a w (fun _ _=>X) (fun _ _ _=>False)):X:=by
 unfold Oper.wp at h;generalize (execOp a.eval o).run P w=r at h;cases r with
 |ok n w'=>
  cases n with
  |value v=>exact h|skip=>exact h|defer d=>exact h|enter f args=>
   rw [Oper.upon_enter]at h;obtain⟨e,j,fr,g,_⟩:=h [];cases e with
   |returned v=>exact g|panicked c=>exact g.elim|outgrown=>obtain⟨_,_,k⟩:=g;exact k.elim
  |row r args=>
   rw [Oper.upon_row]at h;obtain⟨v,j,g,_⟩:=h default [];exact g
  |_=>exact h.elim
 |halt x w'=>
  cases x<;>exact h.elim
variable{r:PR}
theorem Dt(f:IZ F0 w0 N O)(c:Ie P N ops o r=true)(h:r.wp (AJ P) O K):∃env',K env'/\IZ F0 w0 N env':=by
 obtain ⟨a,w,l,m⟩:=f;have:=PH (p:=none) (next:=fun _ _=>∃env',K env'/\IZ F0 w0 N env') (Q:=fun _ _ _=>False) m ⟨l,by simp⟩ (by simp) c h fun env' a' w' g j k=>⟨env',g,a',w',j.size,k⟩;split at this
 .exact VW this
 .exact this
end
def DM(xs ys:Ne):Bool:=xs.all fun x=>!ys.contains x
variable{x:Nat}
theorem Al{xs c:Ne}(h:DM xs c=true)(f:x∈xs)(g:x∈c):False:=by grind[DM,List.all_eq_true,Bool.not_eq_true']
def PR.old(r:PR):Ne:=
 if r.op.sg then[]else r.dst.toList
def PR.sL(D:Ne)(r:PR):Bool:=
 r.op.mov&&r.dst.isSome&&(!r.op.sg||r.guard.isNone)&&DM r.op.t7 D&&r.old.all D.contains
def QG(D:Ne)(p q:PR):Bool:=
 PR.sL D p&&PR.sL D q&&DM p.dst.toList (q.dst.toList++(q.op.slots++q.tQ))&&DM q.dst.toList (p.op.slots++p.tQ)&&DM p.op.up (q.op.up++q.tQ)&&DM q.op.up p.tQ
variable{s:Nat}
theorem Bo{op:AC}(h:s∈op.up):s∈op.slots:=by
 cases op<;>simp only[AC.up,List.not_mem_nil]at h<;>simp only[AC.slots]
 .exact h
 .exact Cc h
theorem UV{op:AC}(h:s∈op.t7):s∈op.slots:=by
 cases op<;>simp[AC.t7]at h<;>simp[AC.slots]
 all_goals exact h
def JD(D:Ne)(O:AA):Prop:=∀d∈D,O.pc d=true
theorem JD.congr{D:Ne}{O env2:AA}(h:JD D O)(he:I5 O env2):JD D env2:=fun d hd=>by rw[<-he.2];exact h d hd
variable{O:AA}
theorem JD.no{D:Ne}(h:JD D O)(c:(O.get x).sE=some s):s∉D:=fun hd=>AA.sH s O (h s hd) x c
section
variable{S:FuncId->Fq->Ap->Prop}
variable{r:PR}{d:Nat}{e:EV}
theorem Kb.jd{D:Ne}{O rm:AA}{f:A1}(h:Kb S r d O rm e f)(k:DM r.op.t7 D=true)(j:JD D O):JD D rm:=by
 intro x g;rw[h.rm,AA.j4,A1.pc,j x g,Bool.and_true];refine N9 (fun s he c=>?_);subst c;rcases h.sE s he with l|⟨y,_,m⟩
 .exact Al k l g
 .exact j.no m g
variable{O:AA}
theorem A1.like(f:A1)(c:f.ok O)(h:∀s t,O.get s=.ow t->∃n es,t=.list n es)(k:∀s g t,f=.cell s g t->t.tE=false)(n:Nat):(O.get n).like (f.on n (O.get n)):=by
 cases f with
 |none=>exact .inl rfl|slot s t=>
  simp [A1.on];split
  .rename_i e;subst e;simp[A1.ok]at c;obtain⟨m,es,rfl⟩:=h s t c;exact .inr (.inl ⟨m,es,.inr ⟨c,rfl⟩⟩)
  .exact .inl rfl
 |cell s g t=>
  simp [A1.on];split
  .rename_i e;subst e;obtain⟨cs,j,l⟩:=c;rw[j];refine .inr (.inr ⟨cs,_,rfl,rfl,?_⟩);rw[List.map_set];refine List.ext_getElem? fun i=>?_
   grind [f0,List.getElem?_eq_some_iff,AI.key]
  .exact .inl rfl
end
variable{r:PR}{O:AA}
theorem NA{S:FuncId->Fq->Ap->Prop}{K:AA->Prop}(h:r.wp S O K):∀g∈r.tQ,∃b,O.get g=b/\(∀cs,b≠.bx cs)/\(∀t,b≠.ow t)/\∀cs,b≠.sO cs:=by grind[PR.tQ,PR.wp,List.mem_singleton]
section
variable{P:Program}{F0:Nat->Nat->Prop}{w0:W0}{N:Nat}{ops:Array Oper}{K:AA->Prop}{D:Ne}
variable{O:AA}{p q:PR}{rs:List PR}
theorem swap(hR:IZ F0 w0 N O)(hj:JD D O){op oq:Oper}(hp:Ie P N ops op p=true)(hq:Ie P N ops oq q=true)(U:QG D p q=true)(h:DQ (AJ P) K (p::q::rs) O):DQ (AJ P) K (q::p::rs) O:=by
 simp [QG,PR.sL,Bool.not_eq_true']at U;obtain⟨⟨⟨⟨⟨⟨⟨⟨⟨pm,pd⟩,pg⟩,pb⟩,pD⟩,⟨⟨⟨qm,qd⟩,qg⟩,qb⟩,qD⟩,c1⟩,c2⟩,c3⟩,c4⟩:=U;obtain⟨G,hdp⟩:=Option.isSome_iff_exists.1 pd;obtain⟨E,hdq⟩:=Option.isSome_iff_exists.1 qd;rw[hdp]at c1;rw[hdq]at c1 c2;simp at c1 c2;have hpq:G≠E:=fun e=>Al c1 (x:=G) (by simp) (by simp[e]);have I:G∉q.op.slots:=fun e=>Al c1 (x:=G) (by simp) (by simp[e]);have pngq:G∉q.tQ:=fun e=>Al c1 (x:=G) (by simp) (by simp[e]);have R:E∉p.op.slots:=fun e=>Al c2 (x:=E) (by simp) (by simp[e]);have qngp:E∉p.tQ:=fun e=>Al c2 (x:=E) (by simp) (by simp[e]);have dd:∀s,s∈p.op.up->s∈q.op.up->False:=fun s c m=>Al c3 c (Cc m);have dg1:∀s,s∈p.op.up->s∈q.tQ->False:=fun s c m=>Al c3 c (Cy m);have dg2:∀s,s∈q.op.up->s∈p.tQ->False:=fun s c m=>Al c4 c m;have oldp:p.op.sg=true\/G∈D:=by
  cases F:p.op.sg with
  |true=>exact .inl rfl|false=>exact .inr (by simpa[PR.old,F,hdp]using pD)
 have oldq:q.op.sg=true\/E∈D:=by
  cases F:q.op.sg with
  |true=>exact .inl rfl|false=>exact .inr (by simpa[PR.old,F,hdq]using qD)
 have pg':p.op.sg=true->p.guard=none:=fun F=>by
  rcases pg with h|h
  .rw[F]at h;cases h
  .simpa using h
 have qg':q.op.sg=true->q.guard=none:=fun F=>by
  rcases qg with h|h
  .rw[F]at h;cases h
  .simpa using h
 obtain ⟨M,heq,h⟩:=h;have hR':=hR.congr heq.symm;have hj':=hj.congr heq.symm;obtain⟨rm,⟨⟨L,C,hw⟩,ep,T,A⟩,hR1⟩:=Dt hR' hp (Kd hdp pm pg' h);have hRe1:=hR1.congr C.symm;have hj1:=A.jd pb hj';have hje1:=hj1.congr C.symm;obtain⟨X1,⟨hK,eq,H,Q⟩,_⟩:=Dt hRe1 hq (Kd hdq qm qg' hw);have Z:∀n,L.get n=if G=n then ep else T.on n (M.get n):=fun n=>by
  rw [C.1,A.rm,AA.jj,A1.get]
 have V:∀x s,(L.get x).sE=some s->s≠G:=by
  intro x s hx B;subst B;rcases oldp with F|hd
  .refine AA.sH s L ?_ x hx;rw[C.2,A.rm,AA.j4,A1.pc,(A.new F).2,Bool.and_true];exact N9 (fun s he _=>by rw[(A.new F).1]at he;cases he)
  .exact hje1.no hx hd
 have nq':∀x s,(M.get x).sE=some s->s≠E:=by
  intro x s hx B;subst B;rcases oldq with F|hd
  .have c:=(Q.new F).2;rw[C.2,A.rm,AA.j4,A1.pc,sc]at c;exact AA.sH s M c.2 x hx
  .exact hj'.no hx hd
 have lk:∀n,n≠G->(L.get n).like (M.get n):=by
  intro n F;rw[Z,az (fun e=>F e.symm)];exact(A1.like T A.ok (fun s t B=>hR'.list B) A.xl n).symm
 have fpdq:∀e,T.on E e=e:=by
  intro e;have:=A.slot;have m:=A.cell;cases T with
  |none=>rfl|slot s t=>
   simp only[A1.on];rw[az];intro he;subst he;exact R (Bo (this _ _ rfl))
  |cell s j t=>
   simp only[A1.on];rw[az];intro he;subst he;rcases m _ _ _ rfl with u|⟨x,_,J⟩
   .exact R u
   .exact nq' x _ J rfl
 have W:∀e,H.on G e=e:=by
  intro e;have:=Q.slot;have m:=Q.cell;cases H with
  |none=>rfl|slot s t=>
   simp only[A1.on];rw[az];intro he;subst he;exact I (Bo (this _ _ rfl))
  |cell s j t=>
   simp only[A1.on];rw[az];intro he;subst he;rcases m _ _ _ rfl with u|⟨x,_,J⟩
   .exact I u
   .exact V x _ J rfl
 have y:H.ok M:=by
  have k:=Q.ok;have hsl:=Q.slot;have hc:=W;cases H with
  |none=>trivial|slot s t=>
   simp [A1.ok]at k|-;have B:=hsl s t rfl;have f:G≠s:=fun e=>I (e▸Bo B);rw[Z,az f]at k;have c:=A.slot;have m:=A.ok;cases T with
   |none=>exact k|slot l z=>
    simp [A1.on]at k;rw[az (fun(e:l=s)=>dd l (c _ _ rfl) (by rw[e];exact B))]at k;exact k
   |cell l j z=>
    simp [A1.on]at k;split at k
    .rename_i e;subst e;obtain⟨cs,u,_⟩:=m;rw[u]at k;cases k
    .exact k
  |cell s j t=>
   obtain ⟨cs,c,m⟩:=k;have f:G≠s:=fun e=>by
    have:=hc (.bx [⟨true,.undef⟩,⟨true,.undef⟩]);rcases Q.cell s j t rfl with u|⟨x,_,J⟩
    .exact I (e▸u)
    .exact V x s J e.symm
   rw [Z,az f]at c;have u:=A.ok;cases T with
   |none=>exact⟨cs,c,m⟩|slot l z=>
    simp [A1.on]at c;split at c
    .cases c
    .exact⟨cs,c,m⟩
   |cell l v z=>
    simp [A1.on]at c;split at c
    .rename_i e;subst e;obtain⟨cs',J,h5⟩:=u;rw[J]at c;simp[EV.bx.injEq]at c;subst c;rw[List.getElem?_set]at m;split at m
     .split at m
      .simp at m
      .cases m
     .exact⟨cs',J,m⟩
    .exact⟨cs,c,m⟩
 have L1:C3 q.op H (some E) L M:=by
  refine ⟨fun s B=>lk s (fun e=>I (e▸B)),fun s B r hb=>lk r (V s r hb),fun s B hnb=>?_,y,fun F d hd Y=>?_⟩
  .have f:G≠s:=fun e=>I (e▸Bo B);rw[Z,az f];have c:=A.slot;have m:=A.ok;cases T with
   |none=>rfl|slot l z=>
    simp only[A1.on];rw[az (fun(e:l=s)=>dd l (c _ _ rfl) (by rw[e];exact B))]
   |cell l j z=>
    simp only[A1.on];split
    .rename_i e;subst e;obtain⟨cs,u,_⟩:=m;exfalso;refine hnb (cs.set j ⟨false,z⟩) ?_;rw[Z,az f];simp[A1.on,u]
    .rfl
  .rw[C.2,A.rm,AA.j4,A1.pc,sc]at Y;exact Y.2
 have hgq:∀g∈q.tQ,M.get g=L.get g:=by
  intro g hg;have f:G≠g:=fun e=>pngq (e▸hg);obtain⟨b,hb,hnx,_⟩:=NA hw g hg;have X:=hb;rw[Z,az f]at X;rw[Z,az f];have c:=A.slot;have m:=A.ok;cases T with
  |none=>rfl|slot l z=>
   simp only[A1.on];rw[az (fun(e:l=g)=>dg1 l (c _ _ rfl) (by rw[e];exact hg))]
  |cell l j z=>
   simp only[A1.on]at X|-;split
   .rename_i e;subst e;obtain⟨cs,u,_⟩:=m;rw[u]at X;simp at X;exact absurd X.symm (hnx _)
   .rfl
 have hgp:∀g∈p.tQ,AA.get ((E,eq)::H.app M) g=M.get g:=by
  intro g hg;have f:E≠g:=fun e=>qngp (e▸hg);obtain⟨b,hb,hnx,_⟩:=NA h g hg;rw[AA.jj,az f,A1.get];have c:=Q.slot;cases H with
  |none=>rfl|slot l z=>
   simp only[A1.on];rw[az (fun(e:l=g)=>dg2 l (c _ _ rfl) (by rw[e];exact hg))]
  |cell l j z=>
   simp only[A1.on];split
   .rename_i e;subst e;obtain⟨cs,u,_⟩:=y;rw[u]at hb;exact absurd hb.symm (hnx _)
   .rfl
 have offs:∀s j t v z,T=.cell s j t->H=.cell s v z->j≠v:=by
  intro s j t v z c m ho;subst ho;have u:=Q.ok;have J:=A.ok;have h5:=W;rw[c]at J;rw[m]at u;obtain⟨cs,h6,h7⟩:=J;obtain⟨ds,h8,h9⟩:=u;have f:G≠s:=fun e=>by
   rcases Q.cell s j z m with u|⟨x,_,J⟩
   .exact I (e▸u)
   .exact V x s J e.symm
  rw [Z,az f,c]at h8;simp[A1.on,h6,EV.bx.injEq]at h8;subst h8;rw[List.getElem?_set,ae rfl]at h9;split at h9
  .simp at h9
  .cases h9
 have g2:∀n,AA.get ((E,eq)::H.app M) n=if E=n then eq else H.on n (M.get n):=fun n=>by
  rw [AA.jj,A1.get]
 have lk2:∀n,n≠E->(M.get n).like (AA.get ((E,eq)::H.app M) n):=by
  intro n F;rw[g2,az (fun e=>F e.symm)];exact A1.like H y (fun s t B=>hR'.list B) Q.xl n
 have L2:C3 p.op T (some G) M ((E,eq)::H.app M):=by
  refine ⟨fun s B=>lk2 s (fun e=>R (e▸B)),fun s B r hb=>lk2 r (nq' s r hb),fun s B hnb=>?_,?_,fun F d hd Y=>?_⟩
  .have f:E≠s:=fun e=>R (e▸Bo B);rw[g2,az f];have c:=Q.slot;cases H with
   |none=>rfl|slot l z=>
    simp only[A1.on];rw[az (fun(e:l=s)=>dd l (by rw[e];exact B) (c _ _ rfl))]
   |cell l j z=>
    simp only[A1.on];split
    .rename_i e;subst e;obtain⟨cs,u,_⟩:=y;exact absurd u (hnb cs)
    .rfl
  .have k:=A.ok;have hsl:=A.slot;have hcl:=A.cell;cases T with
   |none=>trivial|slot s t=>
    simp [A1.ok]at k|-;have B:=hsl s t rfl;have f:E≠s:=fun e=>R (e▸Bo B);rw[g2,az f];have c:=Q.slot;cases H with
    |none=>exact k|slot l z=>
     simp [A1.on];rw[az (fun(e:l=s)=>dd l (by rw[e];exact B) (c _ _ rfl))];exact k
    |cell l j z=>
     simp [A1.on];split
     .rename_i e;subst e;obtain⟨cs,u,_⟩:=y;rw[u]at k;cases k
     .exact k
   |cell s j t=>
    obtain ⟨cs,c,m⟩:=k;have f:E≠s:=fun e=>by
     rcases hcl s j t rfl with u|⟨x,_,J⟩
     .exact R (e▸u)
     .exact nq' x s J e.symm
    simp [A1.ok];rw[g2,az f];have u:=y;cases H with
    |none=>exact⟨cs,c,m⟩|slot l z=>
     simp [A1.on];split
     .rename_i e;subst e;simp[A1.ok]at u;rw[u]at c;cases c
     .exact⟨cs,c,m⟩
    |cell l v z=>
     simp [A1.on];split
     .rename_i e;subst e;rw[c];have:=offs l j t v z rfl rfl;refine⟨_,rfl,?_⟩;rw[List.getElem?_set,az (fun e=>this e.symm)];exact m
     .exact⟨cs,c,m⟩
  .simp at hd;subst hd;rw[AA.j4,A1.pc,Y,Bool.and_true];refine N9 (fun s he=>?_);rcases Q.sE s he with c|⟨x,_,m⟩
   .exact fun e=>I (e▸UV c)
   .exact V x s m
 refine ⟨M,heq,Q.again M L1 hgq _ ⟨_,.refl _,A.again _ L2 hgp _ (FA hK ?_)⟩⟩;rw[Q.rm];refine⟨fun n=>?_,fun d=>?_⟩
 .rw[AA.jj,A1.get,Z,AA.jj,A1.get,g2];by_cases c:E=n
  .subst c;rw[ae rfl,az hpq,ae rfl,fpdq]
  .rw[az c,az c];by_cases m:G=n
   .subst m;rw[ae rfl,ae rfl,W]
   .rw[az m,az m];have u:=A.ok;have J:=A.slot;have h5:=Q.slot;cases T with
    |none=>rfl|slot s t=>
     cases H with
     |none=>rfl|slot l z=>
      have f:s≠l:=fun e=>dd s (J _ _ rfl) (e▸h5 _ _ rfl);simp[A1.on];by_cases L:s=n<;>by_cases e2:l=n<;>simp[L,e2];exact absurd (L.trans e2.symm) f
     |cell l v z=>
      have f:s≠l:=fun e=>by
       obtain ⟨cs,h6,_⟩:=y;simp[A1.ok]at u;rw[<-e,u]at h6;cases h6
      simp [A1.on];by_cases L:s=n<;>by_cases e2:l=n<;>simp[L,e2]
    |cell s j t=>
     cases H with
     |none=>rfl|slot l z=>
      have f:s≠l:=fun e=>by
       obtain ⟨cs,h6,_⟩:=u;simp[A1.ok]at y;rw[e,y]at h6;cases h6
      simp [A1.on];by_cases L:s=n<;>by_cases e2:l=n<;>simp[L,e2]
     |cell l v z=>
      obtain ⟨cs,h6,_⟩:=u;simp[A1.on];by_cases L:s=n
      .by_cases e2:l=n
       .subst L;subst e2;have:=offs l j t v z rfl rfl;simp[h6];rw[List.set_comm _ _ this]
       .simp[L,e2]
      .simp[L]
 .rw[AA.j4,A1.pc,C.2,A.rm,AA.j4,A1.pc,AA.j4,A1.pc,AA.j4,A1.pc];cases EV.sV d eq<;>cases EV.sV d ep<;>rfl
end
end Go.Sf
namespace Go.Sf
open Go.RowKit (Below)
def tW(D:Ne)(p q:PR):Bool:=
 match q.op,q.guard,q.dst with
 |.uz _ b v,none,none=>PR.sL D p&&D.contains b&&DM p.dst.toList (b::v.sl)&&DM [b] (p.op.slots++p.tQ)&&DM p.op.up v.sl|.stx _ b s,none,none=>PR.sL D p&&D.contains b&&DM p.dst.toList (b::[s])&&DM [b] (p.op.slots++p.tQ)&&DM p.op.up [s]&&DM [s] p.op.slots&&D.contains s|_,_,_=>false
def J1(b:Nat)(cs:List AI)(q:Option (Nat×EV))(O:AA):AA:=
 (b,.bx cs)::(match q with|some (s,t)=>(s,t)::O|none=>O)
theorem DP(b:Nat)(cs:List AI)(q:Option (Nat×EV))(O:AA)(n:Nat):AA.get (J1 b cs q O) n=if b=n then .bx cs else(match q with|some (s,t)=>if s=n then t else O.get n|none=>O.get n):=by
 cases q with
 |none=>rfl|some st=>rfl
theorem Du(b:Nat)(cs:List AI)(q:Option (Nat×EV))(O:AA)(d:Nat)(h:∀s e,q=some (s,e)->e.sV d=true):AA.pc d (J1 b cs q O)=AA.pc d O:=by
 cases q with
 |none=>simp[J1,AA.j4,EV.sV,EV.sE]|some p=>
  obtain ⟨s,e⟩:=p;have c:=h s e rfl;simp[J1,AA.j4,c];simp[EV.sV,EV.sE]
structure al(S:FuncId->Fq->Ap->Prop)(q:PR)(b:Nat)(v:AD)(O rm:AA)(cs cs':List AI)(o:Option (Nat×EV)):Prop where
 rm:rm=J1 b cs' o O
 box:O.get b=.bx cs
 own:∀s e,o=some (s,e)->v=.s s/\((∃t,e=.tv t/\O.get s=.ow t)\/(e=.undef/\(∃ds,O.get s=.sO ds)/\∃n,q.op=.stx n b s))/\s≠b
 val:∀cs,v.ev O≠.bx cs
 again:∀env2,env2.pc b=true->env2.get b=.bx cs->v.ev env2=v.ev O->∀K2:AA->Prop,K2 (J1 b cs' o env2)->q.wp S env2 K2
variable{q:PR}{O:AA}
theorem bu{S:FuncId->Fq->Ap->Prop}{K:AA->Prop}{n b:Nat}{v:AD}(f:q.op=.uz n b v\/∃s,v=.s s/\q.op=.stx n b s)(k:q.guard=none)(hd:q.dst=none)(h:q.wp S O K):∃rm,K rm/\∃cs cs' o,al S q b v O rm cs cs' o:=by
 rcases f with f|⟨s,rfl,f⟩
 .unfold PR.wp at h;rw[k,f,hd]at h;simp only[AC.wp]at h;split at h
  .rename_i cs m;split at h
   .rename_i t hv;cases v with
    |c t=>exact h.elim|s z=>
     simp only at h;simp[AD.ev]at hv;refine⟨_,h.2.2.2,cs,_,some (z,.tv t),rfl,m,?_,?_,fun env2 u l j y g=>?_⟩
     .grind
     .grind[AD.ev]
     .simp[AD.ev]at j;unfold PR.wp;rw[k,f,hd];simp[AC.wp,l,AD.ev,j,hv];exact⟨h.1,h.2.1,h.2.2.1,g⟩
   .rename_i t hv;refine⟨_,h.2.2,cs,_,none,rfl,m,by simp,by simp[hv],fun env2 u l j y g=>?_⟩;unfold PR.wp;rw[k,f,hd];simp only[AC.wp,l,j,hv];exact⟨h.1,h.2.1,g⟩
   .exact h.elim
  .exact h.elim
 .unfold PR.wp at h;rw[k,f,hd]at h;simp only[AC.wp]at h;split at h
  .rename_i cs ds m hv;refine⟨_,h.2.2.2,cs,_,some (s,.undef),rfl,m,?_,by simp[AD.ev,hv],fun env2 u l j y g=>?_⟩
   .grind
   .simp[AD.ev]at j;unfold PR.wp;rw[k,f,hd];simp only[AC.wp,l,j,hv];exact⟨h.1,⟨h.2.1.1,by rw[AA.noX_ref u,Bool.or_true]⟩,h.2.2.1,g⟩
  .exact h.elim
section
variable{P:Program}{F0:Nat->Nat->Prop}{w0:W0}{N:Nat}{ops:Array Oper}{K:AA->Prop}{D:Ne}
variable{O:AA}{p q:PR}{rs:List PR}
theorem aW(hR:IZ F0 w0 N O)(hj:JD D O){op:Oper}(hp:Ie P N ops op p=true)(f:tW D p q=true)(h:DQ (AJ P) K (p::q::rs) O):DQ (AJ P) K (q::p::rs) O:=by
 have key:∃n b v,(q.op=.uz n b v\/∃s,v=.s s/\q.op=.stx n b s)/\q.guard=none/\q.dst=none/\(((((PR.sL D p=true/\D.contains b=true)/\DM p.dst.toList (b::v.sl)=true)/\DM [b] (p.op.slots++p.tQ)=true)/\DM p.op.up v.sl=true)/\(∀n s,q.op=.stx n b s->DM [s] p.op.slots=true/\D.contains s=true)):=by
  unfold tW at f;split at f
  .grind
  .rename_i n b s T Z hd;simp only[sc]at f;refine⟨n,b,.s s,.inr ⟨s,rfl,T⟩,Z,hd,f.1.1,fun n' G h=>?_⟩
   grind
  .cases f
 clear f;obtain⟨n,b,v,T,Z,hd,f,hstx⟩:=key
 .simp[PR.sL,Bool.not_eq_true']at f;obtain⟨⟨⟨⟨⟨⟨⟨⟨pm,pd⟩,pg⟩,pb⟩,pD⟩,bD⟩,c1⟩,c2⟩,c3⟩:=f;obtain⟨I,hdp⟩:=Option.isSome_iff_exists.1 pd;rw[hdp]at c1;simp at c1;have bD:b∈D:=by simpa using bD
  have hpb:I≠b:=fun e=>Al c1 (x:=I) (by simp) (by simp[e]);have pnv:I∉v.sl:=fun e=>Al c1 (x:=I) (by simp) (by simp[e]);have z:b∉p.op.slots:=fun e=>Al c2 (x:=b) (by simp) (Cc e);have bng:b∉p.tQ:=fun e=>Al c2 (x:=b) (by simp) (Cy e);have dv:∀s,s∈p.op.up->s∈v.sl->False:=fun s l j=>Al c3 l j;have pg':p.op.sg=true->p.guard=none:=fun hn=>by
   rcases pg with h|h
   .rw[hn]at h;cases h
   .simpa using h
  obtain ⟨y,V,h⟩:=h;have hR':=hR.congr V.symm;have A:=hj.congr V.symm;obtain⟨rm,⟨⟨e1,M,hw⟩,ep,W,C⟩,hR1⟩:=Dt hR' hp (Kd hdp pm pg' h);have hj1:=C.jd pb A;have g1:∀n,e1.get n=if I=n then ep else W.on n (y.get n):=fun n=>by
   rw [M.1,C.rm,AA.jj,A1.get]
  have U:∀e,W.on b e=e:=by
   intro e;have:=C.slot;have j:=C.cell;cases W with
   |none=>rfl|slot s t=>
    simp only[A1.on];rw[az];intro he;subst he;exact z (Bo (this _ _ rfl))
   |cell s X t=>
    simp only[A1.on];rw[az];intro he;subst he;rcases j _ _ _ rfl with B|⟨x,_,H⟩
    .exact z B
    .exact A.no H bD
  have gb:e1.get b=y.get b:=by rw[g1,az hpb,U]
  obtain ⟨X1,hK,cs,cs',o,Fs⟩:=bu T Z hd hw;have hbox:y.get b=.bx cs:=by rw[<-gb];exact Fs.box
  have hv:v.ev y=v.ev e1:=by
   cases v with
   |c t=>rfl|s m=>
    have hm:I≠m:=fun e=>pnv (by simp[AD.sl,e]);simp[AD.ev];have u:=Fs.val;simp[AD.ev]at u;rw[g1,az hm]at u|-;have l:=C.slot;have j:=C.ok;cases W with
    |none=>rfl|slot s t=>
     simp only[A1.on];rw[az (fun(e:s=m)=>dv s (l _ _ rfl) (by simp[AD.sl,e]))]
    |cell s X t=>
     simp only[A1.on]at u|-;split
     .rename_i e;subst e;obtain⟨ds,B,_⟩:=j;rw[ae rfl,B]at u;exact absurd rfl (u _)
     .rfl
  have k:∀s e,o=some (s,e)->((∃t,e=.tv t/\y.get s=.ow t)\/(e=.undef/\∃ds,y.get s=.sO ds))/\s≠b/\s∈v.sl/\s≠I:=by
   intro s t ho;obtain⟨l,j,B⟩:=Fs.own s t ho;subst l;simp[AD.ev]at hv;refine⟨?_,B,by simp[AD.sl],fun e=>pnv (by simp[AD.sl,e])⟩;rw[hv];rcases j with j|⟨j,H,_⟩
   .exact .inl j
   .exact .inr ⟨j,H⟩
  have E:∀s,o=some (s,.undef)->s∉p.op.slots/\s∈D:=by
   intro s ho;obtain⟨_,j,_⟩:=Fs.own s _ ho;rcases j with⟨t,j,_⟩|⟨_,_,n',H⟩
   .cases j
   .obtain⟨h5,h6⟩:=hstx n' s H;exact⟨fun e=>Al h5 (by simp) e,by simpa using h6⟩
  have F:∀d s e,o=some (s,e)->e.sV d=true:=by
   intro d s e ho;rcases(k s e ho).1 with⟨t,rfl,_⟩|⟨rfl,_⟩<;>rfl
  have J:∀s e,o=some (s,e)->∀ds,y.get s≠.bx ds:=by
   intro s e ho ds h;rcases(k s e ho).1 with⟨t,_,j⟩|⟨_,ds',j⟩<;>rw[j]at h<;>cases h
  have g2:∀n,b≠n->(∀s t,o=some (s,t)->s≠n)->AA.get (J1 b cs' o y) n=y.get n:=by
   intro n l j;rw[DP,az l];cases o with
   |none=>rfl|some st=>
    obtain ⟨s,t⟩:=st;simp only;rw[az (j s t rfl)]
  have lk:∀n,b≠n->o≠some (n,.undef)->(y.get n).like (AA.get (J1 b cs' o y) n):=by
   intro n l h0;rw[DP,az l];cases o with
   |none=>exact .inl rfl|some st=>
    obtain ⟨s,t⟩:=st;simp only;split
    .rename_i e;subst e;rcases(k s t rfl).1 with⟨t,rfl,B⟩|⟨rfl,_⟩
     .obtain⟨m,es,rfl⟩:=hR'.list B;exact .inr (.inl ⟨m,es,.inr ⟨B,rfl⟩⟩)
     .exact absurd rfl h0
    .exact .inl rfl
  have L:C3 p.op W (some I) y (J1 b cs' o y):=by
   refine ⟨fun s Y=>lk s (fun e=>z (e▸Y)) (fun e=>(E s e).1 Y),fun s Y r Q=>lk r (fun e=>A.no Q (e▸bD)) (fun e=>A.no Q (E r e).2),fun s Y _=>g2 s (fun e=>z (e▸Bo Y)) (fun G t ho e=>dv s Y (e▸(k G t ho).2.2.1)),?_,fun hn d hd R=>by rw[Du _ _ _ _ _ (F d)];exact R⟩;have l:=C.slot;have j:=C.ok;have B:=U;have H:=C.cell;cases W with
   |none=>trivial|slot s t=>
    simp [A1.ok]at j|-;rw[g2 s (fun e=>z (e▸Bo (l _ _ rfl))) (fun G t ho e=>dv s (l _ _ rfl) (e▸(k G t ho).2.2.1))];exact j
   |cell s X t=>
    obtain ⟨ds,h5,h6⟩:=j;refine⟨ds,?_,h6⟩;rw[g2 s (fun e=>?_) (fun G t' ho e=>?_)]
    .exact h5
    .rcases H _ _ _ rfl with h7|⟨x,_,h8⟩
     .exact z (e▸h7)
     .exact A.no h8 (e▸bD)
    .exact J G t' ho _ (e▸h5)
  have hgp:∀g∈p.tQ,AA.get (J1 b cs' o y) g=y.get g:=by
   intro g Z;obtain⟨bb,Q,_,R,hno'⟩:=NA h g Z;refine g2 g (fun e=>bng (e▸Z)) (fun s t ho e=>?_);rcases(k s t ho).1 with⟨t,_,j⟩|⟨_,ds',j⟩
   .rw[<-e,j]at Q;exact absurd Q.symm (R _)
   .rw[<-e,j]at Q;exact absurd Q.symm (hno' _)
  refine ⟨y,V,Fs.again y (A _ bD) hbox hv _ ⟨_,.refl _,C.again _ L hgp _ (FA hK ?_)⟩⟩;rw[Fs.rm];refine⟨fun n=>?_,fun d=>?_⟩
  .rw[AA.jj,A1.get,DP,DP];by_cases l:I=n
   .subst l;rw[az (fun e=>hpb e.symm),ae rfl];cases o with
    |none=>simp only;rw[g1,ae rfl]|some st=>
     obtain ⟨s,t⟩:=st;simp only;rw[az (k s t rfl).2.2.2,g1,ae rfl]
   .rw[az l];by_cases j:b=n
    .subst j;rw[ae rfl,ae rfl,U]
    .rw[az j,az j];cases o with
     |none=>simp only;rw[g1,az l]|some st=>
      obtain ⟨s,t⟩:=st;simp only;by_cases B:s=n
      .subst B;rw[ae rfl,ae rfl];have H:=C.slot;have h5:=C.ok;have h6:=(k s t rfl);have h6':=J s t rfl;have h6'':∀ds,t≠.bx ds:=by
        intro ds h;rcases h6.1 with⟨t,rfl,_⟩|⟨rfl,_⟩<;>cases h
       cases W with
       |none=>rfl|slot G t'=>
        simp only[A1.on];rw[az (fun(e:G=s)=>dv G (H _ _ rfl) (by rw[e];exact h6.2.2.1))]
       |cell G X t'=>
        simp only[A1.on];split
        .rename_i e;subst e;obtain⟨ds,h7,_⟩:=h5;exact absurd h7 (h6' _)
        .rfl
      .rw[az B,az B,g1,az l]
  .rw[Du _ _ _ _ _ (F d),M.2,C.rm,AA.j4,A1.pc,AA.j4,A1.pc,Du _ _ _ _ _ (F d)]
def ui(D:Ne)(p q:PR):Bool:=
 match q.op,q.guard,q.dst with
 |.uR s,none,some d=>PR.sL D p&&D.contains s&&D.contains d&&DM p.dst.toList [s,d]&&DM [s,d] (p.op.slots++p.tQ)|_,_,_=>false
variable{s d:Nat}
theorem UF{S:FuncId->Fq->Ap->Prop}{K:AA->Prop}(c:q.op=.uR s)(f:q.guard=none)(hd:q.dst=some d)(h:q.wp S O K):∃n es,O.get s=.xo n es/\O.pc d=true/\d≠s/\K ((d,.xo n es)::(s,.undef)::O):=by
 simp [PR.wp,c,f,hd,AC.wp,AA.put]at h
 grind
variable{n:Nat}
theorem UG{S:FuncId->Fq->Ap->Prop}{K:AA->Prop}{es:Fq}(c:q.op=.uR s)(f:q.guard=none)(hd:q.dst=some d)(g:O.get s=.xo n es)(j:O.pc d=true)(k:d≠s)(h:K ((d,.xo n es)::(s,.undef)::O)):q.wp S O K:=by
 simp [PR.wp,c,f,hd,AC.wp,AA.put,g];exact⟨j,k,h⟩
theorem dY(hR:IZ F0 w0 N O)(hj:JD D O){op:Oper}(hp:Ie P N ops op p=true)(f:ui D p q=true)(h:DQ (AJ P) K (p::q::rs) O):DQ (AJ P) K (q::p::rs) O:=by
 unfold ui at f;split at f
 .rename_i s d Q hg hd;simp[PR.sL,Bool.not_eq_true']at f;obtain⟨⟨⟨⟨⟨⟨⟨⟨pm,pd⟩,pg⟩,pb⟩,pD⟩,H⟩,T⟩,Y⟩,Z⟩:=f;obtain⟨E,V⟩:=Option.isSome_iff_exists.1 pd;rw[V]at Y;simp at Y;have H:s∈D:=by simpa using H
  have T:d∈D:=by simpa using T
  have U:E≠s:=fun e=>Al Y (x:=E) (by simp) (by simp[e]);have hpd:E≠d:=fun e=>Al Y (x:=E) (by simp) (by simp[e]);have j:s∉p.op.slots:=fun e=>Al Z (x:=s) (by simp) (Cc e);have l:d∉p.op.slots:=fun e=>Al Z (x:=d) (by simp) (Cc e);have sng:s∉p.tQ:=fun e=>Al Z (x:=s) (by simp) (Cy e);have dng:d∉p.tQ:=fun e=>Al Z (x:=d) (by simp) (Cy e);have pg':p.op.sg=true->p.guard=none:=fun hn=>by
   rcases pg with h|h
   .rw[hn]at h;cases h
   .simpa using h
  obtain ⟨z,F,h⟩:=h;have hR':=hR.congr F.symm;have u:=hj.congr F.symm;obtain⟨rm,⟨⟨e1,v,hw⟩,ep,W,B⟩,hR1⟩:=Dt hR' hp (Kd V pm pg' h);have g1:∀n,e1.get n=if E=n then ep else W.on n (z.get n):=fun n=>by
   rw [v.1,B.rm,AA.jj,A1.get]
  have C:∀x,x∈D->x∉p.op.slots->∀e,W.on x e=e:=by
   intro x hxD R e;have:=B.slot;have k:=B.cell;cases W with
   |none=>rfl|slot s t=>
    simp only[A1.on];rw[az];intro he;subst he;exact R (Bo (this _ _ rfl))
   |cell s off t=>
    simp only[A1.on];rw[az];intro he;subst he;rcases k _ _ _ rfl with J|⟨y,_,X⟩
    .exact R J
    .exact u.no X hxD
  obtain ⟨n,es,k1,k2,k3,hK⟩:=UF Q hg hd hw;rw[g1,az U,C s H j]at k1;rw[v.2,B.rm,AA.j4,A1.pc,sc]at k2;have I:∀m,m≠d->m≠s->AA.get ((d,.xo n es)::(s,.undef)::z) m=z.get m:=fun m A k=>by
   rw [AA.jj,az (fun e=>A e.symm),AA.jj,az (fun e=>k e.symm)]
  have nr:∀c,AA.pc c ((d,EV.xo n es)::(s,EV.undef)::z)=AA.pc c z:=fun c=>by
   simp [AA.j4,EV.sV,EV.sE]
  have L:C3 p.op W (some E) z ((d,.xo n es)::(s,.undef)::z):=by
   refine ⟨fun x G=>.inl (I x (fun e=>l (e▸G)) (fun e=>j (e▸G))),fun x G r hr=>.inl (I r (fun e=>u.no hr (e▸T)) (fun e=>u.no hr (e▸H))),fun x G _=>I x (fun e=>l (e▸Bo G)) (fun e=>j (e▸Bo G)),?_,fun hn d' hd' hno=>by rw[nr];exact hno⟩;have A:=B.slot;have k:=B.ok;have X:=B.cell;cases W with
   |none=>trivial|slot x t=>
    simp [A1.ok]at k|-;rw[I x (fun e=>l (e▸Bo (A _ _ rfl))) (fun e=>j (e▸Bo (A _ _ rfl)))];exact k
   |cell x off t=>
    obtain ⟨ds,h5,h6⟩:=k;refine⟨ds,?_,h6⟩;rw[I x (fun e=>?_) (fun e=>?_)]
    .exact h5
    .rcases X _ _ _ rfl with h7|⟨y,_,h8⟩
     .exact l (e▸h7)
     .exact u.no h8 (e▸T)
    .rcases X _ _ _ rfl with h7|⟨y,_,h8⟩
     .exact j (e▸h7)
     .exact u.no h8 (e▸H)
  have hgp:∀g∈p.tQ,AA.get ((d,.xo n es)::(s,.undef)::z) g=z.get g:=fun g M=>I g (fun e=>dng (e▸M)) (fun e=>sng (e▸M));refine⟨z,F,UG Q hg hd k1 k2.2 k3 ⟨_,.refl _,B.again _ L hgp _ (FA hK ?_)⟩⟩;refine⟨fun m=>?_,fun c=>?_⟩
  .simp[AA.jj,A1.get,g1];by_cases A:d=m
   .subst A;rw[ae rfl,az hpd,C d T l,ae rfl]
   .rw[az A];by_cases k:s=m
    .subst k;rw[ae rfl,az U,C s H j,az A,ae rfl]
    .rw[az k];by_cases J:E=m
     .rw[ae J,ae J]
     .rw[az J,az J,az A,az k]
  .simp[AA.j4,A1.pc,v.2,B.rm];have e1:EV.sV c (EV.xo n es)=true:=rfl;have e2:EV.sV c EV.undef=true:=rfl;rw[e1,e2];cases EV.sV c ep<;>rfl
 .cases f
def cd:AC->Bool
 |.vG _=>true|.mv _=>true|.bad _ _=>true|.td _ _=>true|.ld _=>true|_=>false
def uh(D:Ne)(p q:PR):Bool:=
 match q.op,q.guard,q.dst,p.guard,p.dst with
 |.uB x v _,none,none,none,some d=>PR.sL D p&&cd p.op&&!(x.sl.contains d)&&!(v.sl.contains d)|_,_,_,_,_=>false
variable{i:Option Nat}
theorem KJ{q:Nat}{es es':Fq}(h:O.sf q i=some (n,es)):(∃u,AA.get (O.sI q i n es') q=u/\((∃m c,O.get q=.xo m c/\∃m' fs',u=.xo m' fs')\/(∃cs k,i=some k/\cs[k]?=some ⟨true,.xl n es⟩/\O.get q=.bx cs/\u=.bx (cs.set k ⟨true,.xl n es'⟩))))/\(∀m,q≠m->AA.get (O.sI q i n es') m=O.get m)/\∀d,AA.pc d (O.sI q i n es')=O.pc d:=by
 cases i with
 |none=>
  grind [AA.sf,AA.sI,AA.jj,AA.j4,EV.sV,EV.sE]
 |some k=>
  grind [AA.sf,se,AA.sI,AA.jj,AA.j4,EV.sV,EV.sE]
theorem Z0(l:List AI)(c:Nat):ED ((l.drop c).map (·.t))=(l[c]?).map (·.t):=by
 rw [show l[c]?=(l.drop c)[0]? by rw[List.getElem?_drop,Nat.add_zero]];cases l.drop c<;>rfl
variable{t:TV}
theorem X5{ds:List AI}{k c n:Nat}{es es':Fq}(g:t.tE=false)(h:ds[k]?=some ⟨true,.xl n es⟩)(f:ED ((ds.drop c).map (·.t))=some t):ED (((ds.set k ⟨true,.xl n es'⟩).drop c).map (·.t))=some t:=by
 rw [Z0]at f|-;by_cases e:k=c
 .subst e;rw[h]at f;simp at f;subst f;cases g
 grind
theorem Z9{S:FuncId->Fq->Ap->Prop}{op:AC}(ho:cd op=true){dst:Option Nat}{K:EV->AA->Prop}(h:op.wp S O dst K):
  ∃e,K e O/\(∀m J,e≠.xo m J)/\(∀cs,e≠.bx cs)/\∀(q n:Nat)(i:Option Nat)(es es':Fq),O.sf q i=some (n,es)->∀z:EV->AA->Prop,z e (O.sI q i n es')->op.wp S (O.sI q i n es') dst z:=by
 have E:∀{q n:Nat}{i:Option Nat}{es es':Fq},O.sf q i=some (n,es)->∀m e,O.get m=e->(∀k J,e≠.xo k J)->(∀cs,e≠.bx cs)->AA.get (O.sI q i n es') m=e:=fun{q n i es es'}g m e v G V=>by
  obtain ⟨⟨u,M,j⟩,I,_⟩:=KJ (es':=es') g
  grind
 have F:∀{q n:Nat}{i:Option Nat}{es es':Fq},O.sf q i=some (n,es)->∀m cs,O.get m=.bx cs->∃cs',AA.get (O.sI q i n es') m=.bx cs'/\∀C t,t.tE=false->ED ((cs.drop C).map (·.t))=some t->ED ((cs'.drop C).map (·.t))=some t:=fun{q n i es es'}g m cs v=>by
  obtain ⟨⟨u,M,j⟩,I,_⟩:=KJ (es':=es') g
  grind [X5]
 have A:∀{q n:Nat}{i:Option Nat}{es es':Fq},O.sf q i=some (n,es)->∀(x:AD)e,x.ev O=e->(∀m J,e≠.xo m J)->(∀cs,e≠.bx cs)->x.ev (O.sI q i n es')=e:=by
  intro q n i es es' g x e he v G;cases x with
  |c t=>exact he|s y=>exact E g y e he v G
 cases op with
 |mv x=>
  simp [AC.wp]at h|-;split at h
  .rename_i t l;exact⟨_,h,by simp,by simp,fun q n i es es' g z f=>by rw[A g x _ l (by simp) (by simp)];exact f⟩
  .rename_i t l;exact⟨_,h,by simp,by simp,fun q n i es es' g z f=>by rw[A g x _ l (by simp) (by simp)];exact f⟩
  .rename_i t l;exact⟨_,h,by simp,by simp,fun q n i es es' g z f=>by rw[A g x _ l (by simp) (by simp)];exact f⟩
  .exact h.elim
 |vG s=>
  simp [AC.wp]at h|-;split at h
  .rename_i m J B;refine⟨_,h,by simp,by simp,fun q n i es es' g z f=>?_⟩;obtain⟨⟨u,M,j⟩,I,_⟩:=KJ (es':=es') g;by_cases e:q=s
   .subst e;rcases j with⟨_,_,_,m',fs',rfl⟩|⟨_,_,_,_,T,_⟩
    .rw[M];exact f
    .rw[B]at T;cases T
   .rw[I s e,B];exact f
  .exact h.elim
 |bad s k=>
  simp [AC.wp]at h|-;split at h
  .rename_i cs B;refine⟨_,h,by simp,by simp,fun q n i es es' g z f=>?_⟩;obtain⟨cs',v,_⟩:=F (es':=es') g s cs B;rw[v];exact f
  .rename_i row B;exact⟨_,h,by simp,by simp,fun q n i es es' g z f=>by rw[E g s _ B (by simp) (by simp)];exact f⟩
  .exact h.elim
 |td x k=>
  simp [AC.wp]at h|-;split at h
  .rename_i row l;exact⟨_,h,by simp,by simp,fun q n i es es' g z f=>by rw[A g x _ l (by simp) (by simp)];exact f⟩
  .rename_i s C l;split at h
   .rename_i cs B;refine⟨_,h,by simp,by simp,fun q n i es es' g z f=>?_⟩;obtain⟨cs',v,_⟩:=F (es':=es') g s cs B;rw[A g x _ l (by simp) (by simp)];simp only;rw[v];exact f
   .exact h.elim
  .exact h.elim
 |ld x=>
  simp [AC.wp]at h|-;cases j:Ay O (x.ev O)with
  |none=>rw[j]at h;exact h.elim|some cs=>
   rw [j]at h;simp[AR]at h;cases L:ED cs with
   |none=>rw[L]at h;exact h.elim|some t=>
    rw [L]at h;obtain⟨Q,h⟩:=h;refine⟨_,h,by simp,by simp,fun q n i es es' g z f=>?_⟩;have U:∃cs',Ay (O.sI q i n es') (x.ev (O.sI q i n es'))=some cs'/\ED cs'=some t:=by
     cases x with
     |c R=>exact⟨cs,by rw[<-j];cases R<;>rfl,L⟩
     |s y=>
      simp [AD.ev]at j|-;cases H:O.get y with
      |bp s C=>
       rw [E g y _ H (by simp) (by simp)];rw[H]at j;simp only[Ay]at j|-;split at j
       .rename_i ds B;cases j;obtain⟨cs',v,G⟩:=F (es':=es') g s ds B;rw[v];exact⟨_,rfl,G _ _ Q L⟩
       .cases j
      |tv R=>
       rw [E g y _ H (by simp) (by simp)];rw[H]at j;exact⟨cs,by rw[<-j];cases R<;>rfl,L⟩
      |bx ds=>
       rw [H]at j;simp[Ay]at j;subst j;obtain⟨cs',v,G⟩:=F (es':=es') g y ds H;rw[v];have:=G 0 t Q (by simpa using L);exact⟨_,rfl,by simpa using this⟩
      |_=>rw[H]at j;cases j
    obtain ⟨cs',v,G⟩:=U;rw[v];simp[AR,G];exact⟨Q,f⟩
 |_=>cases ho
variable{e:EV}
theorem Rj{O g:AA}{d t n:Nat}{es:Fq}(h:I5 g ((d,e)::O))(j:d≠t):I5 (g.sI t i n es) ((d,e)::O.sI t i n es):=by
 have v:g.get t=O.get t:=by rw[h.1,AA.jj,az j]
 have f:∀u:EV,(∀c,EV.sV c u=true)->I5 ((t,u)::g) ((d,e)::(t,u)::O):=by
  intro u l;refine⟨fun m=>?_,fun c=>?_⟩
  .rw[AA.jj,h.1,AA.jj,AA.jj,AA.jj]
   grind
  .rw[AA.j4,h.2,AA.j4,AA.j4,AA.j4,l];cases EV.sV c e<;>rfl
 cases i with
 |none=>exact f _ fun c=>rfl|some k=>
  simp [AA.sI,v];split
  .exact f _ fun c=>rfl
  .exact h
theorem db(f:uh D p q=true)(h:DQ (AJ P) K (p::q::rs) O):DQ (AJ P) K (q::p::rs) O:=by
 unfold uh at f;split at f
 .rename_i x v kx d B C hd J L;simp[Bool.not_eq_true',decide_eq_false_iff_not]at f;obtain⟨⟨⟨_,ho⟩,E⟩,F⟩:=f;obtain⟨A,G,h⟩:=h;simp[PR.wp,J,L,AA.put]at h;obtain⟨e,⟨H,j,l⟩,T,U,I⟩:=Z9 ho h;have z:∀(y:AD),d∉y.sl->y.ev H=y.ev A:=by
   intro y hy;cases y with
   |c t=>rfl|s m=>
    simp [AD.ev,j.1,AA.jj]
    grind [AD.sl]
  refine ⟨A,G,?_⟩;simp[PR.wp,C,hd,B,AC.wp,z x E,z v F]at l|-;split at l
  .rename_i t i c hx;split at l
   .rename_i n es u M Q;obtain⟨V,W,es',X,Y,Z,hK⟩:=l;have g:d≠t:=by
     intro g;have C:H.get t=e:=by rw[j.1,AA.jj,ae g]
     cases i with
     |none=>
      grind [AA.sf]
     |some k=>
      grind [AA.sf]
    have R:A.sf t i=some (n,es):=by
     have C:H.get t=A.get t:=by rw[j.1,AA.jj,az g]
     grind [AA.sS]
    rw [R,Q];refine⟨V,W,es',X,Y,Z,_,.refl _,?_⟩
    grind [PR.wp,AA.put,FA,Rj]
   .exact l.elim
  .exact l.elim
 .cases f
end
end Go.Sf
