/- Two operations of a region that may change places. -/
import Derived.Test.YtjgaphkmbjbdkaaGreatSfFrame
set_option linter.all false
namespace Go.Sf
open Go.RowKit (Below)
theorem AB.ej(d k:Nat)(e:EV)(O:AB):AB.f0 d ((k,e)::O)=(e.zt d&&AB.f0 d O):=rfl
variable{d:Nat}{e:EV}
theorem Ti(h:∀s,e.wi=some s->s≠d):e.zt d=true:=by grind[EV.zt]
theorem BF.f0(f:BF)(O:AB)(d:Nat):AB.f0 d (f.app O)=AB.f0 d O:=by
 cases f with
 |none=>rfl|slot s t=>simp[BF.app,AB.ej,EV.zt,EV.wi]|cell s c t=>
  grind [BF.app,AB.ej,EV.zt,EV.wi]
def BF.on(f:BF)(n:Nat)(e:EV):EV:=
 match f with
 |.none=>e|.slot s t=>if s=n then .tv t else e|.cell s off t=>if s=n then(match e with|.bx cs=>.bx (cs.set off ⟨false,t⟩)|e=>e)else e
theorem BF.get(f:BF)(O:AB)(n:Nat):AB.get (f.app O) n=f.on n (O.get n):=by
 cases f with
 |none=>rfl|slot s t=>simp[BF.app,AB.eb,BF.on]|cell s c t=>
  simp [BF.app,BF.on]
  grind [AB.eb]
def NM(O env2:AB):Prop:=(∀n,O.get n=env2.get n)/\∀d,O.f0 d=env2.f0 d
theorem NM.refl(O:AB):NM O O:=⟨fun _=>rfl,fun _=>rfl⟩
theorem NM.trans{a b c:AB}(h:NM a b)(f:NM b c):NM a c:=⟨fun n=>(h.1 n).trans (f.1 n),fun d=>(h.2 d).trans (f.2 d)⟩
variable{a b:AB}
theorem NM.symm(h:NM a b):NM b a:=⟨fun n=>(h.1 n).symm,fun d=>(h.2 d).symm⟩
variable{w:World}
theorem Bu.congr{F0:Nat->Nat->Prop}{w0:W0}{O env2:AB}{a:Act}(h:Bu F0 w0 O a w)(he:∀n,O.get n=env2.get n):Bu F0 w0 env2 a w:=by
 obtain ⟨G,h⟩:=h;refine⟨G,h.nd,h.lt,h.below,h.defers,fun q c=>?_,fun q c=>?_,fun q=>?_⟩
 .rw[<-he];exact h.dom q c
 .rw[<-he];refine AN.kept (Pu _ _) (fun _=>rfl) (fun _ _ _ _=>rfl) rfl BI.rfl' (fun r i k j⟨p,f⟩=>⟨⟨p,(AB.Aah (he r)).trans f⟩,fun _ hv=>hv⟩) (fun r l j⟨cs,g⟩=>⟨⟨cs,by rw[he];exact g⟩,rfl⟩) (fun r i j⟨p,f⟩=>⟨⟨p,(AB.x9 (he r)).trans f⟩,fun _ hv=>hv⟩) (h.slots q c)
 .rw[<-he];exact h.wf q
def FA(S:FuncId->Fq->Ax->Prop)(K:AB->Prop):List PR->AB->Prop
 |[],O=>∃e,NM e O/\K e|r::rs,O=>∃e,NM e O/\r.wp S e (FA S K rs)
section
variable{S:FuncId->Fq->Ax->Prop}{K:AB->Prop}
variable{rs:List PR}
theorem H8{O env2:AB}(h:FA S K rs O)(he:NM O env2):FA S K rs env2:=by
 cases rs with
 |nil=>obtain⟨e,c,f⟩:=h;exact⟨e,c.trans he,f⟩
 |cons r rs=>obtain⟨e,c,f⟩:=h;exact⟨e,c.trans he,f⟩
theorem j8:∀{rs:List PR}{O:AB},wpOps S K rs O->FA S K rs O
 |[],O,h=>⟨O,.refl _,h⟩|r::rs,O,h=>⟨O,.refl _,PR.ns S O (fun e he=>j8 he) r h⟩
def PR.gsl(r:PR):Ne:=
 match r.guard with
 |some (g,_)=>[g]|none=>[]
structure PI(S:FuncId->Fq->Ax->Prop)(r:PR)(d:Nat)(O og:AB)(e:EV)(f:BF):Prop where
 og:og=(d,e)::f.app O
 ok:f.ok O
 slot:∀s t,f=.slot s t->s∈r.op.dem
 cell:∀s off t,f=.cell s off t->(s∈r.op.slots\/∃x∈r.op.slots,(O.get x).wi=some s)
 wi:∀s,e.wi=some s->(s∈r.op.AaP\/∃x∈r.op.slots,(O.get x).wi=some s)
 new:r.op.sA=true->e.wi=none/\O.f0 d=true
 xl:∀s off t,f=.cell s off t->t.Aay=false
 again:∀env2,EN r.op f (some d) O env2->(∀g∈r.gsl,env2.get g=O.get g)->∀K2:AB->Prop,K2 ((d,e)::f.app env2)->r.wp S env2 K2
variable{r:PR}{d:Nat}{O:AB}
theorem PP(hd:r.dst=some d)(C:r.op.mov=true)(I:r.op.sA=true->r.guard=none)(h:r.wp S O K):r.wp S O fun og=>K og/\∃e f,PI S r d O og e f:=by
 have B:∀(m:∀env2,(∀g∈r.gsl,env2.get g=O.get g)->∀u:AB->Prop,(r.op.wp S env2 (some d) fun e env'=>u (env'.put (some d) e))->r.wp S env2 u),(r.op.wp S O (some d) fun e env'=>K (env'.put (some d) e))->r.op.wp S O (some d) fun e env'=>K (env'.put (some d) e)/\∃E f,PI S r d O (env'.put (some d) e) E f:=by
  intro m G;refine AE.ns S O (some d) (fun e env' he=>?_) r.op (frame C G);obtain⟨H,f,c⟩:=he;refine⟨H,e,f,?_,c.ok,c.slot,c.cell,c.wi,fun v=>⟨(c.new v).1,(c.new v).2 d rfl⟩,c.xl,fun env2 F k u j=>?_⟩
  .simp[AB.put];rw[c.env']
  .exact m env2 k u (c.again env2 F _ j)
 unfold PR.wp at h|-;cases l:r.guard with
 |none=>
  grind [PR.wp]
 |some gb=>
  obtain ⟨g,b⟩:=gb;rw[l]at h;rw[hd]at h|-;simp only at h|-;have k:g∈r.gsl:=by simp[PR.gsl,l]
  split at h
  .rename_i q A;refine⟨fun y=>B (fun env2 c u j=>?_) (h.1 y),fun y=>⟨h.2 y,.sk,.none,rfl,trivial,by simp,by simp,(fun s he=>by cases he),fun v=>?_,by simp,fun env2 _ c u j=>?_⟩⟩
   .grind[PR.wp]
   .grind
   .unfold PR.wp;rw[l,hd];simp only;rw[c g k,A];exact⟨fun z=>by subst z;cases q<;>simp at y,fun _=>j⟩
  .rename_i A;refine⟨h,.sk,.none,rfl,trivial,by simp,by simp,(fun s he=>by cases he),fun v=>?_,by simp,fun env2 _ c u j=>?_⟩
   .grind
   .unfold PR.wp;rw[l,hd];simp only;rw[c g k,A];exact j
  .exact h.elim
end
section
variable{P:Program}{F0:Nat->Nat->Prop}{w0:W0}{N:Nat}{ops:Array Oper}{K:AB->Prop}
def MR(F0:Nat->Nat->Prop)(w0:W0)(N:Nat)(O:AB):Prop:=∃a w,a.tmps.size=N/\Bu F0 w0 O a w
theorem MR.congr{O env2:AB}(h:MR F0 w0 N O)(he:NM O env2):MR F0 w0 N env2:=by
 obtain ⟨a,w,c,f⟩:=h;exact⟨a,w,c,f.congr he.1⟩
variable{O:AB}{s:Nat}{t:TV}
theorem MR.list(h:MR F0 w0 N O)(c:O.get s=.ow t):∃n es,t=.list n es:=by
 obtain ⟨a,w,_,G,f⟩:=h;have:=AW f c (by simp);simp[AN]at this;cases t<;>simp[By]at this;exact⟨_,_,rfl⟩
variable{o:Oper}{w:World}
theorem gF{a:Act}{X:Prop}(h:o.wp P a w (fun _ _=>X) (fun _ _ _=>False)):X:=by
 unfold Oper.wp at h;generalize (execOp a.eval o).run P w=r at h;cases r with
 |ok n w'=>
  cases n with
  |value v=>exact h|skip=>exact h|defer d=>exact h|enter f args=>
   rw [Oper.upon_enter]at h;obtain⟨e,j,fr,g,_⟩:=h [];cases e with
   |returned v=>exact g|panicked c=>exact g.elim|outgrown=>obtain⟨_,_,k⟩:=g;exact k.elim
  |row r args=>
   rw [Oper.upon_row]at h;obtain⟨v,j,g,_⟩:=h default [];exact g
  |_=>exact h.elim
 |halt x w'=>
  cases x<;>exact h.elim
variable{r:PR}
theorem Ff(f:MR F0 w0 N O)(c:MV P N ops o r=true)(h:r.wp (AU P) O K):∃env',K env'/\MR F0 w0 N env':=by
 obtain ⟨a,w,l,m⟩:=f;have:=U6 (p:=none) (next:=fun _ _=>∃env',K env'/\MR F0 w0 N env') (Q:=fun _ _ _=>False) m ⟨l,by simp⟩ (by simp) c h fun env' a' w' g j k=>⟨env',g,a',w',j.size,k⟩;split at this
 .exact gF this
 .exact this
end
def Et(xs ys:Ne):Bool:=xs.all fun x=>!ys.contains x
variable{x:Nat}
theorem Aw{xs c:Ne}(h:Et xs c=true)(f:x∈xs)(g:x∈c):False:=by grind[Et,List.all_eq_true,Bool.not_eq_true']
def PR.old(r:PR):Ne:=
 if r.op.sA then[]else r.dst.toList
def PR.w2(D:Ne)(r:PR):Bool:=
 r.op.mov&&r.dst.isSome&&(!r.op.sA||r.guard.isNone)&&Et r.op.AaP D&&r.old.all D.contains
def WC(D:Ne)(p q:PR):Bool:=
 PR.w2 D p&&PR.w2 D q&&Et p.dst.toList (q.dst.toList++(q.op.slots++q.gsl))&&Et q.dst.toList (p.op.slots++p.gsl)&&Et p.op.dem (q.op.dem++q.gsl)&&Et q.op.dem p.gsl
variable{s:Nat}
theorem Cd{op:AE}(h:s∈op.dem):s∈op.slots:=by
 cases op<;>simp only[AE.dem,List.not_mem_nil]at h<;>simp only[AE.slots]
 .exact h
 .exact Dh h
theorem eV{op:AE}(h:s∈op.AaP):s∈op.slots:=by
 cases op<;>simp[AE.AaP]at h<;>simp[AE.slots]
 all_goals exact h
def JD(D:Ne)(O:AB):Prop:=∀d∈D,O.f0 d=true
theorem JD.congr{D:Ne}{O env2:AB}(h:JD D O)(he:NM O env2):JD D env2:=fun d hd=>by rw[<-he.2];exact h d hd
variable{O:AB}
theorem JD.no{D:Ne}(h:JD D O)(c:(O.get x).wi=some s):s∉D:=fun hd=>AB.wx s O (h s hd) x c
section
variable{S:FuncId->Fq->Ax->Prop}
variable{r:PR}{d:Nat}{e:EV}
theorem PI.jd{D:Ne}{O og:AB}{f:BF}(h:PI S r d O og e f)(k:Et r.op.AaP D=true)(j:JD D O):JD D og:=by
 intro x g;rw[h.og,AB.ej,BF.f0,j x g,Bool.and_true];refine Ti (fun s he c=>?_);subst c;rcases h.wi s he with l|⟨y,_,m⟩
 .exact Aw k l g
 .exact j.no m g
variable{O:AB}
theorem BF.like(f:BF)(c:f.ok O)(h:∀s t,O.get s=.ow t->∃n es,t=.list n es)(k:∀s g t,f=.cell s g t->t.Aay=false)(n:Nat):(O.get n).like (f.on n (O.get n)):=by
 cases f with
 |none=>exact .inl rfl|slot s t=>
  simp [BF.on];split
  .rename_i e;subst e;simp[BF.ok]at c;obtain⟨m,es,rfl⟩:=h s t c;exact .inr (.inl ⟨m,es,.inr ⟨c,rfl⟩⟩)
  .exact .inl rfl
 |cell s g t=>
  simp [BF.on];split
  .rename_i e;subst e;obtain⟨cs,j,l⟩:=c;rw[j];refine .inr (.inr ⟨cs,_,rfl,rfl,?_⟩);rw[List.map_set];refine List.ext_getElem? fun i=>?_
   grind [ca,List.getElem?_eq_some_iff,AS.key]
  .exact .inl rfl
end
variable{r:PR}{O:AB}
theorem SP{S:FuncId->Fq->Ax->Prop}{K:AB->Prop}(h:r.wp S O K):∀g∈r.gsl,∃b,O.get g=b/\(∀cs,b≠.bx cs)/\(∀t,b≠.ow t)/\∀cs,b≠.x8 cs:=by grind[PR.gsl,PR.wp,List.mem_singleton]
section
variable{P:Program}{F0:Nat->Nat->Prop}{w0:W0}{N:Nat}{ops:Array Oper}{K:AB->Prop}{D:Ne}
variable{O:AB}{p q:PR}{rs:List PR}
theorem swap(hR:MR F0 w0 N O)(hj:JD D O){op oq:Oper}(hp:MV P N ops op p=true)(hq:MV P N ops oq q=true)(T:WC D p q=true)(h:FA (AU P) K (p::q::rs) O):FA (AU P) K (q::p::rs) O:=by
 simp [WC,PR.w2,Bool.not_eq_true']at T;obtain⟨⟨⟨⟨⟨⟨⟨⟨⟨pm,pd⟩,pg⟩,pb⟩,pD⟩,⟨⟨⟨qm,qd⟩,qg⟩,qb⟩,qD⟩,c1⟩,c2⟩,c3⟩,c4⟩:=T;obtain⟨F,hdp⟩:=Option.isSome_iff_exists.1 pd;obtain⟨C,hdq⟩:=Option.isSome_iff_exists.1 qd;rw[hdp]at c1;rw[hdq]at c1 c2;simp at c1 c2;have hpq:F≠C:=fun e=>Aw c1 (x:=F) (by simp) (by simp[e]);have H:F∉q.op.slots:=fun e=>Aw c1 (x:=F) (by simp) (by simp[e]);have pngq:F∉q.gsl:=fun e=>Aw c1 (x:=F) (by simp) (by simp[e]);have Q:C∉p.op.slots:=fun e=>Aw c2 (x:=C) (by simp) (by simp[e]);have qngp:C∉p.gsl:=fun e=>Aw c2 (x:=C) (by simp) (by simp[e]);have dd:∀s,s∈p.op.dem->s∈q.op.dem->False:=fun s c l=>Aw c3 c (Dh l);have dg1:∀s,s∈p.op.dem->s∈q.gsl->False:=fun s c l=>Aw c3 c (EH l);have dg2:∀s,s∈q.op.dem->s∈p.gsl->False:=fun s c l=>Aw c4 c l;have oldp:p.op.sA=true\/F∈D:=by
  cases E:p.op.sA with
  |true=>exact .inl rfl|false=>exact .inr (by simpa[PR.old,E,hdp]using pD)
 have oldq:q.op.sA=true\/C∈D:=by
  cases E:q.op.sA with
  |true=>exact .inl rfl|false=>exact .inr (by simpa[PR.old,E,hdq]using qD)
 have pg':p.op.sA=true->p.guard=none:=fun E=>by
  rcases pg with h|h
  .rw[E]at h;cases h
  .simpa using h
 have qg':q.op.sA=true->q.guard=none:=fun E=>by
  rcases qg with h|h
  .rw[E]at h;cases h
  .simpa using h
 obtain ⟨L,heq,h⟩:=h;have hR':=hR.congr heq.symm;have hj':=hj.congr heq.symm;obtain⟨og,⟨⟨J,B,hw⟩,ep,R,z⟩,hR1⟩:=Ff hR' hp (PP hdp pm pg' h);have hRe1:=hR1.congr B.symm;have hj1:=z.jd pb hj';have hje1:=hj1.congr B.symm;obtain⟨X1,⟨hK,eq,G,M⟩,_⟩:=Ff hRe1 hq (PP hdq qm qg' hw);have Y:∀n,J.get n=if F=n then ep else R.on n (L.get n):=fun n=>by
  rw [B.1,z.og,AB.eb,BF.get]
 have U:∀x s,(J.get x).wi=some s->s≠F:=by
  intro x s hx A;subst A;rcases oldp with E|hd
  .refine AB.wx s J ?_ x hx;rw[B.2,z.og,AB.ej,BF.f0,(z.new E).2,Bool.and_true];exact Ti (fun s he _=>by rw[(z.new E).1]at he;cases he)
  .exact hje1.no hx hd
 have nq':∀x s,(L.get x).wi=some s->s≠C:=by
  intro x s hx A;subst A;rcases oldq with E|hd
  .have c:=(M.new E).2;rw[B.2,z.og,AB.ej,BF.f0,o4]at c;exact AB.wx s L c.2 x hx
  .exact hj'.no hx hd
 have lk:∀n,n≠F->(J.get n).like (L.get n):=by
  intro n E;rw[Y,ae (fun e=>E e.symm)];exact(BF.like R z.ok (fun s t A=>hR'.list A) z.xl n).symm
 have fpdq:∀e,R.on C e=e:=by
  intro e;have:=z.slot;have l:=z.cell;cases R with
  |none=>rfl|slot s t=>
   simp only[BF.on];rw[ae];intro he;subst he;exact Q (Cd (this _ _ rfl))
  |cell s j t=>
   simp only[BF.on];rw[ae];intro he;subst he;rcases l _ _ _ rfl with m|⟨x,_,I⟩
   .exact Q m
   .exact nq' x _ I rfl
 have V:∀e,G.on F e=e:=by
  intro e;have:=M.slot;have l:=M.cell;cases G with
  |none=>rfl|slot s t=>
   simp only[BF.on];rw[ae];intro he;subst he;exact H (Cd (this _ _ rfl))
  |cell s j t=>
   simp only[BF.on];rw[ae];intro he;subst he;rcases l _ _ _ rfl with m|⟨x,_,I⟩
   .exact H m
   .exact U x _ I rfl
 have v:G.ok L:=by
  have k:=M.ok;have hsl:=M.slot;have hc:=V;cases G with
  |none=>trivial|slot s t=>
   simp [BF.ok]at k|-;have A:=hsl s t rfl;have f:F≠s:=fun e=>H (e▸Cd A);rw[Y,ae f]at k;have c:=z.slot;have l:=z.ok;cases R with
   |none=>exact k|slot s' y=>
    simp [BF.on]at k;rw[ae (fun(e:s'=s)=>dd s' (c _ _ rfl) (by rw[e];exact A))]at k;exact k
   |cell s' j y=>
    simp [BF.on]at k;split at k
    .rename_i e;subst e;obtain⟨cs,m,_⟩:=l;rw[m]at k;cases k
    .exact k
  |cell s j t=>
   obtain ⟨cs,c,l⟩:=k;have f:F≠s:=fun e=>by
    have:=hc (.bx [⟨true,.undef⟩,⟨true,.undef⟩]);rcases M.cell s j t rfl with m|⟨x,_,I⟩
    .exact H (e▸m)
    .exact U x s I e.symm
   rw [Y,ae f]at c;have m:=z.ok;cases R with
   |none=>exact⟨cs,c,l⟩|slot s' y=>
    simp [BF.on]at c;split at c
    .cases c
    .exact⟨cs,c,l⟩
   |cell s' u y=>
    simp [BF.on]at c;split at c
    .rename_i e;subst e;obtain⟨cs',I,h5⟩:=m;rw[I]at c;simp[EV.bx.injEq]at c;subst c;rw[List.getElem?_set]at l;split at l
     .split at l
      .simp at l
      .cases l
     .exact⟨cs',I,l⟩
    .exact⟨cs,c,l⟩
 have L1:EN q.op G (some C) J L:=by
  refine ⟨fun s A=>lk s (fun e=>H (e▸A)),fun s A r hb=>lk r (U s r hb),fun s A hnb=>?_,v,fun E d hd X=>?_⟩
  .have f:F≠s:=fun e=>H (e▸Cd A);rw[Y,ae f];have c:=z.slot;have l:=z.ok;cases R with
   |none=>rfl|slot s' y=>
    simp only[BF.on];rw[ae (fun(e:s'=s)=>dd s' (c _ _ rfl) (by rw[e];exact A))]
   |cell s' j y=>
    simp only[BF.on];split
    .rename_i e;subst e;obtain⟨cs,m,_⟩:=l;exfalso;refine hnb (cs.set j ⟨false,y⟩) ?_;rw[Y,ae f];simp[BF.on,m]
    .rfl
  .rw[B.2,z.og,AB.ej,BF.f0,o4]at X;exact X.2
 have hgq:∀g∈q.gsl,L.get g=J.get g:=by
  intro g hg;have f:F≠g:=fun e=>pngq (e▸hg);obtain⟨b,hb,hnx,_⟩:=SP hw g hg;have W:=hb;rw[Y,ae f]at W;rw[Y,ae f];have c:=z.slot;have l:=z.ok;cases R with
  |none=>rfl|slot s' y=>
   simp only[BF.on];rw[ae (fun(e:s'=g)=>dg1 s' (c _ _ rfl) (by rw[e];exact hg))]
  |cell s' j y=>
   simp only[BF.on]at W|-;split
   .rename_i e;subst e;obtain⟨cs,m,_⟩:=l;rw[m]at W;simp at W;exact absurd W.symm (hnx _)
   .rfl
 have hgp:∀g∈p.gsl,AB.get ((C,eq)::G.app L) g=L.get g:=by
  intro g hg;have f:C≠g:=fun e=>qngp (e▸hg);obtain⟨b,hb,hnx,_⟩:=SP h g hg;rw[AB.eb,ae f,BF.get];have c:=M.slot;cases G with
  |none=>rfl|slot s' y=>
   simp only[BF.on];rw[ae (fun(e:s'=g)=>dg2 s' (c _ _ rfl) (by rw[e];exact hg))]
  |cell s' j y=>
   simp only[BF.on];split
   .rename_i e;subst e;obtain⟨cs,m,_⟩:=v;rw[m]at hb;exact absurd hb.symm (hnx _)
   .rfl
 have offs:∀s j t u y,R=.cell s j t->G=.cell s u y->j≠u:=by
  intro s j t u y c l ho;subst ho;have m:=M.ok;have I:=z.ok;have h5:=V;rw[c]at I;rw[l]at m;obtain⟨cs,h6,h7⟩:=I;obtain⟨ds,h8,h9⟩:=m;have f:F≠s:=fun e=>by
   rcases M.cell s j y l with m|⟨x,_,I⟩
   .exact H (e▸m)
   .exact U x s I e.symm
  rw [Y,ae f,c]at h8;simp[BF.on,h6,EV.bx.injEq]at h8;subst h8;rw[List.getElem?_set,a6 rfl]at h9;split at h9
  .simp at h9
  .cases h9
 have g2:∀n,AB.get ((C,eq)::G.app L) n=if C=n then eq else G.on n (L.get n):=fun n=>by
  rw [AB.eb,BF.get]
 have lk2:∀n,n≠C->(L.get n).like (AB.get ((C,eq)::G.app L) n):=by
  intro n E;rw[g2,ae (fun e=>E e.symm)];exact BF.like G v (fun s t A=>hR'.list A) M.xl n
 have L2:EN p.op R (some F) L ((C,eq)::G.app L):=by
  refine ⟨fun s A=>lk2 s (fun e=>Q (e▸A)),fun s A r hb=>lk2 r (nq' s r hb),fun s A hnb=>?_,?_,fun E d hd X=>?_⟩
  .have f:C≠s:=fun e=>Q (e▸Cd A);rw[g2,ae f];have c:=M.slot;cases G with
   |none=>rfl|slot s' y=>
    simp only[BF.on];rw[ae (fun(e:s'=s)=>dd s' (by rw[e];exact A) (c _ _ rfl))]
   |cell s' j y=>
    simp only[BF.on];split
    .rename_i e;subst e;obtain⟨cs,m,_⟩:=v;exact absurd m (hnb cs)
    .rfl
  .have k:=z.ok;have hsl:=z.slot;have hcl:=z.cell;cases R with
   |none=>trivial|slot s t=>
    simp [BF.ok]at k|-;have A:=hsl s t rfl;have f:C≠s:=fun e=>Q (e▸Cd A);rw[g2,ae f];have c:=M.slot;cases G with
    |none=>exact k|slot s' y=>
     simp [BF.on];rw[ae (fun(e:s'=s)=>dd s' (by rw[e];exact A) (c _ _ rfl))];exact k
    |cell s' j y=>
     simp [BF.on];split
     .rename_i e;subst e;obtain⟨cs,m,_⟩:=v;rw[m]at k;cases k
     .exact k
   |cell s j t=>
    obtain ⟨cs,c,l⟩:=k;have f:C≠s:=fun e=>by
     rcases hcl s j t rfl with m|⟨x,_,I⟩
     .exact Q (e▸m)
     .exact nq' x s I e.symm
    simp [BF.ok];rw[g2,ae f];have m:=v;cases G with
    |none=>exact⟨cs,c,l⟩|slot s' y=>
     simp [BF.on];split
     .rename_i e;subst e;simp[BF.ok]at m;rw[m]at c;cases c
     .exact⟨cs,c,l⟩
    |cell s' u y=>
     simp [BF.on];split
     .rename_i e;subst e;rw[c];have:=offs s' j t u y rfl rfl;refine⟨_,rfl,?_⟩;rw[List.getElem?_set,ae (fun e=>this e.symm)];exact l
     .exact⟨cs,c,l⟩
  .simp at hd;subst hd;rw[AB.ej,BF.f0,X,Bool.and_true];refine Ti (fun s he=>?_);rcases M.wi s he with c|⟨x,_,l⟩
   .exact fun e=>H (e▸eV c)
   .exact U x s l
 refine ⟨L,heq,M.again L L1 hgq _ ⟨_,.refl _,z.again _ L2 hgp _ (H8 hK ?_)⟩⟩;rw[M.og];refine⟨fun n=>?_,fun d=>?_⟩
 .rw[AB.eb,BF.get,Y,AB.eb,BF.get,g2];by_cases c:C=n
  .subst c;rw[a6 rfl,ae hpq,a6 rfl,fpdq]
  .rw[ae c,ae c];by_cases l:F=n
   .subst l;rw[a6 rfl,a6 rfl,V]
   .rw[ae l,ae l];have m:=z.ok;have I:=z.slot;have h5:=M.slot;cases R with
    |none=>rfl|slot s t=>
     cases G with
     |none=>rfl|slot s' y=>
      have f:s≠s':=fun e=>dd s (I _ _ rfl) (e▸h5 _ _ rfl);simp[BF.on];by_cases J:s=n<;>by_cases Z:s'=n<;>simp[J,Z];exact absurd (J.trans Z.symm) f
     |cell s' u y=>
      have f:s≠s':=fun e=>by
       obtain ⟨cs,h6,_⟩:=v;simp[BF.ok]at m;rw[<-e,m]at h6;cases h6
      simp [BF.on];by_cases J:s=n<;>by_cases Z:s'=n<;>simp[J,Z]
    |cell s j t=>
     cases G with
     |none=>rfl|slot s' y=>
      have f:s≠s':=fun e=>by
       obtain ⟨cs,h6,_⟩:=m;simp[BF.ok]at v;rw[e,v]at h6;cases h6
      simp [BF.on];by_cases J:s=n<;>by_cases Z:s'=n<;>simp[J,Z]
     |cell s' u y=>
      obtain ⟨cs,h6,_⟩:=m;simp[BF.on];by_cases J:s=n
      .by_cases Z:s'=n
       .subst J;subst Z;have:=offs s' j t u y rfl rfl;simp[h6];rw[List.set_comm _ _ this]
       .simp[J,Z]
      .simp[J]
 .rw[AB.ej,BF.f0,B.2,z.og,AB.ej,BF.f0,AB.ej,BF.f0,AB.ej,BF.f0];cases EV.zt d eq<;>cases EV.zt d ep<;>rfl
end
end Go.Sf
namespace Go.Sf
open Go.RowKit (Below)
def AaG(D:Ne)(p q:PR):Bool:=
 match q.op,q.guard,q.dst with
 |.stb _ b v,none,none=>PR.w2 D p&&D.contains b&&Et p.dst.toList (b::v.sl)&&Et [b] (p.op.slots++p.gsl)&&Et p.op.dem v.sl|.stx _ b s,none,none=>PR.w2 D p&&D.contains b&&Et p.dst.toList (b::[s])&&Et [b] (p.op.slots++p.gsl)&&Et p.op.dem [s]&&Et [s] p.op.slots&&D.contains s|_,_,_=>false
def OU(b:Nat)(cs:List AS)(q:Option (Nat×EV))(O:AB):AB:=
 (b,.bx cs)::(match q with|some (s,t)=>(s,t)::O|none=>O)
theorem E9(b:Nat)(cs:List AS)(q:Option (Nat×EV))(O:AB)(n:Nat):AB.get (OU b cs q O) n=if b=n then .bx cs else(match q with|some (s,t)=>if s=n then t else O.get n|none=>O.get n):=by
 cases q with
 |none=>rfl|some st=>rfl
theorem Fr(b:Nat)(cs:List AS)(q:Option (Nat×EV))(O:AB)(d:Nat)(h:∀s e,q=some (s,e)->e.zt d=true):AB.f0 d (OU b cs q O)=AB.f0 d O:=by
 cases q with
 |none=>simp[OU,AB.ej,EV.zt,EV.wi]|some p=>
  obtain ⟨s,e⟩:=p;have c:=h s e rfl;simp[OU,AB.ej,c];simp[EV.zt,EV.wi]
structure pf(S:FuncId->Fq->Ax->Prop)(q:PR)(b:Nat)(v:AG)(O og:AB)(cs cs':List AS)(o:Option (Nat×EV)):Prop where
 og:og=OU b cs' o O
 box:O.get b=.bx cs
 own:∀s e,o=some (s,e)->v=.s s/\((∃t,e=.tv t/\O.get s=.ow t)\/(e=.undef/\(∃ds,O.get s=.x8 ds)/\∃n,q.op=.stx n b s))/\s≠b
 val:∀cs,v.ev O≠.bx cs
 again:∀env2,env2.f0 b=true->env2.get b=.bx cs->v.ev env2=v.ev O->∀K2:AB->Prop,K2 (OU b cs' o env2)->q.wp S env2 K2
variable{q:PR}{O:AB}
theorem qW{S:FuncId->Fq->Ax->Prop}{K:AB->Prop}{n b:Nat}{v:AG}(f:q.op=.stb n b v\/∃s,v=.s s/\q.op=.stx n b s)(k:q.guard=none)(hd:q.dst=none)(h:q.wp S O K):∃og,K og/\∃cs cs' o,pf S q b v O og cs cs' o:=by
 rcases f with f|⟨s,rfl,f⟩
 .unfold PR.wp at h;rw[k,f,hd]at h;simp only[AE.wp]at h;split at h
  .rename_i cs m;split at h
   .rename_i t hv;cases v with
    |c t=>exact h.elim|s z=>
     simp only at h;simp[AG.ev]at hv;refine⟨_,h.2.2.2,cs,_,some (z,.tv t),rfl,m,?_,?_,fun env2 u l j y g=>?_⟩
     .grind
     .grind[AG.ev]
     .simp[AG.ev]at j;unfold PR.wp;rw[k,f,hd];simp[AE.wp,l,AG.ev,j,hv];exact⟨h.1,h.2.1,h.2.2.1,g⟩
   .rename_i t hv;refine⟨_,h.2.2,cs,_,none,rfl,m,by simp,by simp[hv],fun env2 u l j y g=>?_⟩;unfold PR.wp;rw[k,f,hd];simp only[AE.wp,l,j,hv];exact⟨h.1,h.2.1,g⟩
   .exact h.elim
  .exact h.elim
 .unfold PR.wp at h;rw[k,f,hd]at h;simp only[AE.wp]at h;split at h
  .rename_i cs ds m hv;refine⟨_,h.2.2.2,cs,_,some (s,.undef),rfl,m,?_,by simp[AG.ev,hv],fun env2 u l j y g=>?_⟩
   .grind
   .simp[AG.ev]at j;unfold PR.wp;rw[k,f,hd];simp only[AE.wp,l,j,hv];exact⟨h.1,⟨h.2.1.1,by rw[AB.noX_ref u,Bool.or_true]⟩,h.2.2.1,g⟩
  .exact h.elim
section
variable{P:Program}{F0:Nat->Nat->Prop}{w0:W0}{N:Nat}{ops:Array Oper}{K:AB->Prop}{D:Ne}
variable{O:AB}{p q:PR}{rs:List PR}
theorem pQ(hR:MR F0 w0 N O)(hj:JD D O){op:Oper}(hp:MV P N ops op p=true)(f:AaG D p q=true)(h:FA (AU P) K (p::q::rs) O):FA (AU P) K (q::p::rs) O:=by
 have key:∃n b v,(q.op=.stb n b v\/∃s,v=.s s/\q.op=.stx n b s)/\q.guard=none/\q.dst=none/\(((((PR.w2 D p=true/\D.contains b=true)/\Et p.dst.toList (b::v.sl)=true)/\Et [b] (p.op.slots++p.gsl)=true)/\Et p.op.dem v.sl=true)/\(∀n s,q.op=.stx n b s->Et [s] p.op.slots=true/\D.contains s=true)):=by
  unfold AaG at f;split at f
  .grind
  .rename_i n b s R Y hd;simp only[o4]at f;refine⟨n,b,.s s,.inr ⟨s,rfl,R⟩,Y,hd,f.1.1,fun n' s' h=>?_⟩
   grind
  .cases f
 clear f;obtain⟨n,b,v,R,Y,hd,f,hstx⟩:=key
 .simp[PR.w2,Bool.not_eq_true']at f;obtain⟨⟨⟨⟨⟨⟨⟨⟨pm,pd⟩,pg⟩,pb⟩,pD⟩,Z⟩,c1⟩,c2⟩,c3⟩:=f;obtain⟨H,hdp⟩:=Option.isSome_iff_exists.1 pd;rw[hdp]at c1;simp at c1;have Z:b∈D:=by simpa using Z
  have hpb:H≠b:=fun e=>Aw c1 (x:=H) (by simp) (by simp[e]);have pnv:H∉v.sl:=fun e=>Aw c1 (x:=H) (by simp) (by simp[e]);have z:b∉p.op.slots:=fun e=>Aw c2 (x:=b) (by simp) (Dh e);have bng:b∉p.gsl:=fun e=>Aw c2 (x:=b) (by simp) (EH e);have dv:∀s,s∈p.op.dem->s∈v.sl->False:=fun s l j=>Aw c3 l j;have pg':p.op.sA=true->p.guard=none:=fun hn=>by
   rcases pg with h|h
   .rw[hn]at h;cases h
   .simpa using h
  obtain ⟨y,U,h⟩:=h;have hR':=hR.congr U.symm;have A:=hj.congr U.symm;obtain⟨og,⟨⟨e1,J,hw⟩,ep,V,C⟩,hR1⟩:=Ff hR' hp (PP hdp pm pg' h);have hj1:=C.jd pb A;have g1:∀n,e1.get n=if H=n then ep else V.on n (y.get n):=fun n=>by
   rw [J.1,C.og,AB.eb,BF.get]
  have T:∀e,V.on b e=e:=by
   intro e;have:=C.slot;have j:=C.cell;cases V with
   |none=>rfl|slot s t=>
    simp only[BF.on];rw[ae];intro he;subst he;exact z (Cd (this _ _ rfl))
   |cell s W t=>
    simp only[BF.on];rw[ae];intro he;subst he;rcases j _ _ _ rfl with B|⟨x,_,G⟩
    .exact z B
    .exact A.no G Z
  have gb:e1.get b=y.get b:=by rw[g1,ae hpb,T]
  obtain ⟨X1,hK,cs,cs',o,Fs⟩:=qW R Y hd hw;have hbox:y.get b=.bx cs:=by rw[<-gb];exact Fs.box
  have hv:v.ev y=v.ev e1:=by
   cases v with
   |c t=>rfl|s m=>
    have hm:H≠m:=fun e=>pnv (by simp[AG.sl,e]);simp[AG.ev];have u:=Fs.val;simp[AG.ev]at u;rw[g1,ae hm]at u|-;have l:=C.slot;have j:=C.ok;cases V with
    |none=>rfl|slot s t=>
     simp only[BF.on];rw[ae (fun(e:s=m)=>dv s (l _ _ rfl) (by simp[AG.sl,e]))]
    |cell s W t=>
     simp only[BF.on]at u|-;split
     .rename_i e;subst e;obtain⟨ds,B,_⟩:=j;rw[a6 rfl,B]at u;exact absurd rfl (u _)
     .rfl
  have k:∀s e,o=some (s,e)->((∃t,e=.tv t/\y.get s=.ow t)\/(e=.undef/\∃ds,y.get s=.x8 ds))/\s≠b/\s∈v.sl/\s≠H:=by
   intro s t ho;obtain⟨l,j,B⟩:=Fs.own s t ho;subst l;simp[AG.ev]at hv;refine⟨?_,B,by simp[AG.sl],fun e=>pnv (by simp[AG.sl,e])⟩;rw[hv];rcases j with j|⟨j,G,_⟩
   .exact .inl j
   .exact .inr ⟨j,G⟩
  have E:∀s,o=some (s,.undef)->s∉p.op.slots/\s∈D:=by
   intro s ho;obtain⟨_,j,_⟩:=Fs.own s _ ho;rcases j with⟨t,j,_⟩|⟨_,_,n',G⟩
   .cases j
   .obtain⟨h5,h6⟩:=hstx n' s G;exact⟨fun e=>Aw h5 (by simp) e,by simpa using h6⟩
  have F:∀d s e,o=some (s,e)->e.zt d=true:=by
   intro d s e ho;rcases(k s e ho).1 with⟨t,rfl,_⟩|⟨rfl,_⟩<;>rfl
  have I:∀s e,o=some (s,e)->∀ds,y.get s≠.bx ds:=by
   intro s e ho ds h;rcases(k s e ho).1 with⟨t,_,j⟩|⟨_,ds',j⟩<;>rw[j]at h<;>cases h
  have g2:∀n,b≠n->(∀s t,o=some (s,t)->s≠n)->AB.get (OU b cs' o y) n=y.get n:=by
   intro n l j;rw[E9,ae l];cases o with
   |none=>rfl|some st=>
    obtain ⟨s,t⟩:=st;simp only;rw[ae (j s t rfl)]
  have lk:∀n,b≠n->o≠some (n,.undef)->(y.get n).like (AB.get (OU b cs' o y) n):=by
   intro n l h0;rw[E9,ae l];cases o with
   |none=>exact .inl rfl|some st=>
    obtain ⟨s,t⟩:=st;simp only;split
    .rename_i e;subst e;rcases(k s t rfl).1 with⟨t,rfl,B⟩|⟨rfl,_⟩
     .obtain⟨m,es,rfl⟩:=hR'.list B;exact .inr (.inl ⟨m,es,.inr ⟨B,rfl⟩⟩)
     .exact absurd rfl h0
    .exact .inl rfl
  have L:EN p.op V (some H) y (OU b cs' o y):=by
   refine ⟨fun s X=>lk s (fun e=>z (e▸X)) (fun e=>(E s e).1 X),fun s X r M=>lk r (fun e=>A.no M (e▸Z)) (fun e=>A.no M (E r e).2),fun s X _=>g2 s (fun e=>z (e▸Cd X)) (fun s' t ho e=>dv s X (e▸(k s' t ho).2.2.1)),?_,fun hn d hd Q=>by rw[Fr _ _ _ _ _ (F d)];exact Q⟩;have l:=C.slot;have j:=C.ok;have B:=T;have G:=C.cell;cases V with
   |none=>trivial|slot s t=>
    simp [BF.ok]at j|-;rw[g2 s (fun e=>z (e▸Cd (l _ _ rfl))) (fun s' t ho e=>dv s (l _ _ rfl) (e▸(k s' t ho).2.2.1))];exact j
   |cell s W t=>
    obtain ⟨ds,h5,h6⟩:=j;refine⟨ds,?_,h6⟩;rw[g2 s (fun e=>?_) (fun s' t' ho e=>?_)]
    .exact h5
    .rcases G _ _ _ rfl with h7|⟨x,_,h8⟩
     .exact z (e▸h7)
     .exact A.no h8 (e▸Z)
    .exact I s' t' ho _ (e▸h5)
  have hgp:∀g∈p.gsl,AB.get (OU b cs' o y) g=y.get g:=by
   intro g Y;obtain⟨bb,M,_,Q,hno'⟩:=SP h g Y;refine g2 g (fun e=>bng (e▸Y)) (fun s t ho e=>?_);rcases(k s t ho).1 with⟨t,_,j⟩|⟨_,ds',j⟩
   .rw[<-e,j]at M;exact absurd M.symm (Q _)
   .rw[<-e,j]at M;exact absurd M.symm (hno' _)
  refine ⟨y,U,Fs.again y (A _ Z) hbox hv _ ⟨_,.refl _,C.again _ L hgp _ (H8 hK ?_)⟩⟩;rw[Fs.og];refine⟨fun n=>?_,fun d=>?_⟩
  .rw[AB.eb,BF.get,E9,E9];by_cases l:H=n
   .subst l;rw[ae (fun e=>hpb e.symm),a6 rfl];cases o with
    |none=>simp only;rw[g1,a6 rfl]|some st=>
     obtain ⟨s,t⟩:=st;simp only;rw[ae (k s t rfl).2.2.2,g1,a6 rfl]
   .rw[ae l];by_cases j:b=n
    .subst j;rw[a6 rfl,a6 rfl,T]
    .rw[ae j,ae j];cases o with
     |none=>simp only;rw[g1,ae l]|some st=>
      obtain ⟨s,t⟩:=st;simp only;by_cases B:s=n
      .subst B;rw[a6 rfl,a6 rfl];have G:=C.slot;have h5:=C.ok;have h6:=(k s t rfl);have h6':=I s t rfl;have h6'':∀ds,t≠.bx ds:=by
        intro ds h;rcases h6.1 with⟨t,rfl,_⟩|⟨rfl,_⟩<;>cases h
       cases V with
       |none=>rfl|slot s' t'=>
        simp only[BF.on];rw[ae (fun(e:s'=s)=>dv s' (G _ _ rfl) (by rw[e];exact h6.2.2.1))]
       |cell s' W t'=>
        simp only[BF.on];split
        .rename_i e;subst e;obtain⟨ds,h7,_⟩:=h5;exact absurd h7 (h6' _)
        .rfl
      .rw[ae B,ae B,g1,ae l]
  .rw[Fr _ _ _ _ _ (F d),J.2,C.og,AB.ej,BF.f0,AB.ej,BF.f0,Fr _ _ _ _ _ (F d)]
def AaX(D:Ne)(p q:PR):Bool:=
 match q.op,q.guard,q.dst with
 |.tkx s,none,some d=>PR.w2 D p&&D.contains s&&D.contains d&&Et p.dst.toList [s,d]&&Et [s,d] (p.op.slots++p.gsl)|_,_,_=>false
variable{s d:Nat}
theorem dz{S:FuncId->Fq->Ax->Prop}{K:AB->Prop}(c:q.op=.tkx s)(f:q.guard=none)(hd:q.dst=some d)(h:q.wp S O K):∃n es,O.get s=.xo n es/\O.f0 d=true/\d≠s/\K ((d,.xo n es)::(s,.undef)::O):=by
 simp [PR.wp,c,f,hd,AE.wp,AB.put]at h
 grind
variable{n:Nat}
theorem d8{S:FuncId->Fq->Ax->Prop}{K:AB->Prop}{es:Fq}(c:q.op=.tkx s)(f:q.guard=none)(hd:q.dst=some d)(g:O.get s=.xo n es)(j:O.f0 d=true)(k:d≠s)(h:K ((d,.xo n es)::(s,.undef)::O)):q.wp S O K:=by
 simp [PR.wp,c,f,hd,AE.wp,AB.put,g];exact⟨j,k,h⟩
theorem sM(hR:MR F0 w0 N O)(hj:JD D O){op:Oper}(hp:MV P N ops op p=true)(f:AaX D p q=true)(h:FA (AU P) K (p::q::rs) O):FA (AU P) K (q::p::rs) O:=by
 unfold AaX at f;split at f
 .rename_i s d Q hg hd;simp[PR.w2,Bool.not_eq_true']at f;obtain⟨⟨⟨⟨⟨⟨⟨⟨pm,pd⟩,pg⟩,pb⟩,pD⟩,H⟩,T⟩,Y⟩,Z⟩:=f;obtain⟨E,V⟩:=Option.isSome_iff_exists.1 pd;rw[V]at Y;simp at Y;have H:s∈D:=by simpa using H
  have T:d∈D:=by simpa using T
  have U:E≠s:=fun e=>Aw Y (x:=E) (by simp) (by simp[e]);have hpd:E≠d:=fun e=>Aw Y (x:=E) (by simp) (by simp[e]);have j:s∉p.op.slots:=fun e=>Aw Z (x:=s) (by simp) (Dh e);have l:d∉p.op.slots:=fun e=>Aw Z (x:=d) (by simp) (Dh e);have sng:s∉p.gsl:=fun e=>Aw Z (x:=s) (by simp) (EH e);have dng:d∉p.gsl:=fun e=>Aw Z (x:=d) (by simp) (EH e);have pg':p.op.sA=true->p.guard=none:=fun hn=>by
   rcases pg with h|h
   .rw[hn]at h;cases h
   .simpa using h
  obtain ⟨z,F,h⟩:=h;have hR':=hR.congr F.symm;have u:=hj.congr F.symm;obtain⟨og,⟨⟨e1,v,hw⟩,ep,W,B⟩,hR1⟩:=Ff hR' hp (PP V pm pg' h);have g1:∀n,e1.get n=if E=n then ep else W.on n (z.get n):=fun n=>by
   rw [v.1,B.og,AB.eb,BF.get]
  have C:∀x,x∈D->x∉p.op.slots->∀e,W.on x e=e:=by
   intro x hxD R e;have:=B.slot;have k:=B.cell;cases W with
   |none=>rfl|slot s t=>
    simp only[BF.on];rw[ae];intro he;subst he;exact R (Cd (this _ _ rfl))
   |cell s off t=>
    simp only[BF.on];rw[ae];intro he;subst he;rcases k _ _ _ rfl with J|⟨y,_,X⟩
    .exact R J
    .exact u.no X hxD
  obtain ⟨n,es,k1,k2,k3,hK⟩:=dz Q hg hd hw;rw[g1,ae U,C s H j]at k1;rw[v.2,B.og,AB.ej,BF.f0,o4]at k2;have I:∀m,m≠d->m≠s->AB.get ((d,.xo n es)::(s,.undef)::z) m=z.get m:=fun m A k=>by
   rw [AB.eb,ae (fun e=>A e.symm),AB.eb,ae (fun e=>k e.symm)]
  have nr:∀c,AB.f0 c ((d,EV.xo n es)::(s,EV.undef)::z)=AB.f0 c z:=fun c=>by
   simp [AB.ej,EV.zt,EV.wi]
  have L:EN p.op W (some E) z ((d,.xo n es)::(s,.undef)::z):=by
   refine ⟨fun x G=>.inl (I x (fun e=>l (e▸G)) (fun e=>j (e▸G))),fun x G r hr=>.inl (I r (fun e=>u.no hr (e▸T)) (fun e=>u.no hr (e▸H))),fun x G _=>I x (fun e=>l (e▸Cd G)) (fun e=>j (e▸Cd G)),?_,fun hn d' hd' hno=>by rw[nr];exact hno⟩;have A:=B.slot;have k:=B.ok;have X:=B.cell;cases W with
   |none=>trivial|slot x t=>
    simp [BF.ok]at k|-;rw[I x (fun e=>l (e▸Cd (A _ _ rfl))) (fun e=>j (e▸Cd (A _ _ rfl)))];exact k
   |cell x off t=>
    obtain ⟨ds,h5,h6⟩:=k;refine⟨ds,?_,h6⟩;rw[I x (fun e=>?_) (fun e=>?_)]
    .exact h5
    .rcases X _ _ _ rfl with h7|⟨y,_,h8⟩
     .exact l (e▸h7)
     .exact u.no h8 (e▸T)
    .rcases X _ _ _ rfl with h7|⟨y,_,h8⟩
     .exact j (e▸h7)
     .exact u.no h8 (e▸H)
  have hgp:∀g∈p.gsl,AB.get ((d,.xo n es)::(s,.undef)::z) g=z.get g:=fun g M=>I g (fun e=>dng (e▸M)) (fun e=>sng (e▸M));refine⟨z,F,d8 Q hg hd k1 k2.2 k3 ⟨_,.refl _,B.again _ L hgp _ (H8 hK ?_)⟩⟩;refine⟨fun m=>?_,fun c=>?_⟩
  .simp[AB.eb,BF.get,g1];by_cases A:d=m
   .subst A;rw[a6 rfl,ae hpd,C d T l,a6 rfl]
   .rw[ae A];by_cases k:s=m
    .subst k;rw[a6 rfl,ae U,C s H j,ae A,a6 rfl]
    .rw[ae k];by_cases J:E=m
     .rw[a6 J,a6 J]
     .rw[ae J,ae J,ae A,ae k]
  .simp[AB.ej,BF.f0,v.2,B.og];have e1:EV.zt c (EV.xo n es)=true:=rfl;have e2:EV.zt c EV.undef=true:=rfl;rw[e1,e2];cases EV.zt c ep<;>rfl
 .cases f
def rt:AE->Bool
 |.xal _=>true|.mv _=>true|.bad _ _=>true|.fad _ _=>true|.ld _=>true|_=>false
def Aa1(D:Ne)(p q:PR):Bool:=
 match q.op,q.guard,q.dst,p.guard,p.dst with
 |.xst x v _,none,none,none,some d=>PR.w2 D p&&rt p.op&&!(x.sl.contains d)&&!(v.sl.contains d)|_,_,_,_,_=>false
variable{i:Option Nat}
theorem Ou{q:Nat}{es es':Fq}(h:O.sR q i=some (n,es)):(∃u,AB.get (O.wB q i n es') q=u/\((∃m c,O.get q=.xo m c/\∃m' fs',u=.xo m' fs')\/(∃cs k,i=some k/\cs[k]?=some ⟨true,.xl n es⟩/\O.get q=.bx cs/\u=.bx (cs.set k ⟨true,.xl n es'⟩))))/\(∀m,q≠m->AB.get (O.wB q i n es') m=O.get m)/\∀d,AB.f0 d (O.wB q i n es')=O.f0 d:=by
 cases i with
 |none=>
  grind [AB.sR,AB.wB,AB.eb,AB.ej,EV.zt,EV.wi]
 |some k=>
  grind [AB.sR,sr,AB.wB,AB.eb,AB.ej,EV.zt,EV.wi]
theorem oJ(l:List AS)(c:Nat):G8 ((l.drop c).map (·.t))=(l[c]?).map (·.t):=by
 rw [show l[c]?=(l.drop c)[0]? by rw[List.getElem?_drop,Nat.add_zero]];cases l.drop c<;>rfl
variable{t:TV}
theorem lr{ds:List AS}{k c n:Nat}{es es':Fq}(g:t.Aay=false)(h:ds[k]?=some ⟨true,.xl n es⟩)(f:G8 ((ds.drop c).map (·.t))=some t):G8 (((ds.set k ⟨true,.xl n es'⟩).drop c).map (·.t))=some t:=by
 rw [oJ]at f|-;by_cases e:k=c
 .subst e;rw[h]at f;simp at f;subst f;cases g
 grind
theorem pF{S:FuncId->Fq->Ax->Prop}{op:AE}(ho:rt op=true){dst:Option Nat}{K:EV->AB->Prop}(h:op.wp S O dst K):
  ∃e,K e O/\(∀m J,e≠.xo m J)/\(∀cs,e≠.bx cs)/\∀(q n:Nat)(i:Option Nat)(es es':Fq),O.sR q i=some (n,es)->∀z:EV->AB->Prop,z e (O.wB q i n es')->op.wp S (O.wB q i n es') dst z:=by
 have E:∀{q n:Nat}{i:Option Nat}{es es':Fq},O.sR q i=some (n,es)->∀m e,O.get m=e->(∀k J,e≠.xo k J)->(∀cs,e≠.bx cs)->AB.get (O.wB q i n es') m=e:=fun{q n i es es'}g m e v G V=>by
  obtain ⟨⟨u,M,j⟩,I,_⟩:=Ou (es':=es') g
  grind
 have F:∀{q n:Nat}{i:Option Nat}{es es':Fq},O.sR q i=some (n,es)->∀m cs,O.get m=.bx cs->∃cs',AB.get (O.wB q i n es') m=.bx cs'/\∀C t,t.Aay=false->G8 ((cs.drop C).map (·.t))=some t->G8 ((cs'.drop C).map (·.t))=some t:=fun{q n i es es'}g m cs v=>by
  obtain ⟨⟨u,M,j⟩,I,_⟩:=Ou (es':=es') g
  grind [lr]
 have A:∀{q n:Nat}{i:Option Nat}{es es':Fq},O.sR q i=some (n,es)->∀(x:AG)e,x.ev O=e->(∀m J,e≠.xo m J)->(∀cs,e≠.bx cs)->x.ev (O.wB q i n es')=e:=by
  intro q n i es es' g x e he v G;cases x with
  |c t=>exact he|s y=>exact E g y e he v G
 cases op with
 |mv x=>
  simp [AE.wp]at h|-;split at h
  .rename_i t l;exact⟨_,h,by simp,by simp,fun q n i es es' g z f=>by rw[A g x _ l (by simp) (by simp)];exact f⟩
  .rename_i t l;exact⟨_,h,by simp,by simp,fun q n i es es' g z f=>by rw[A g x _ l (by simp) (by simp)];exact f⟩
  .rename_i t l;exact⟨_,h,by simp,by simp,fun q n i es es' g z f=>by rw[A g x _ l (by simp) (by simp)];exact f⟩
  .exact h.elim
 |xal s=>
  simp [AE.wp]at h|-;split at h
  .rename_i m J B;refine⟨_,h,by simp,by simp,fun q n i es es' g z f=>?_⟩;obtain⟨⟨u,M,j⟩,I,_⟩:=Ou (es':=es') g;by_cases e:q=s
   .subst e;rcases j with⟨_,_,_,m',fs',rfl⟩|⟨_,_,_,_,T,_⟩
    .rw[M];exact f
    .rw[B]at T;cases T
   .rw[I s e,B];exact f
  .exact h.elim
 |bad s k=>
  simp [AE.wp]at h|-;split at h
  .rename_i cs B;refine⟨_,h,by simp,by simp,fun q n i es es' g z f=>?_⟩;obtain⟨cs',v,_⟩:=F (es':=es') g s cs B;rw[v];exact f
  .rename_i row B;exact⟨_,h,by simp,by simp,fun q n i es es' g z f=>by rw[E g s _ B (by simp) (by simp)];exact f⟩
  .exact h.elim
 |fad x k=>
  simp [AE.wp]at h|-;split at h
  .rename_i row l;exact⟨_,h,by simp,by simp,fun q n i es es' g z f=>by rw[A g x _ l (by simp) (by simp)];exact f⟩
  .rename_i s C l;split at h
   .rename_i cs B;refine⟨_,h,by simp,by simp,fun q n i es es' g z f=>?_⟩;obtain⟨cs',v,_⟩:=F (es':=es') g s cs B;rw[A g x _ l (by simp) (by simp)];simp only;rw[v];exact f
   .exact h.elim
  .exact h.elim
 |ld x=>
  simp [AE.wp]at h|-;cases j:BB O (x.ev O)with
  |none=>rw[j]at h;exact h.elim|some cs=>
   rw [j]at h;simp[Al]at h;cases L:G8 cs with
   |none=>rw[L]at h;exact h.elim|some t=>
    rw [L]at h;obtain⟨Q,h⟩:=h;refine⟨_,h,by simp,by simp,fun q n i es es' g z f=>?_⟩;have U:∃cs',BB (O.wB q i n es') (x.ev (O.wB q i n es'))=some cs'/\G8 cs'=some t:=by
     cases x with
     |c R=>exact⟨cs,by rw[<-j];cases R<;>rfl,L⟩
     |s y=>
      simp [AG.ev]at j|-;cases H:O.get y with
      |bp s C=>
       rw [E g y _ H (by simp) (by simp)];rw[H]at j;simp only[BB]at j|-;split at j
       .rename_i ds B;cases j;obtain⟨cs',v,G⟩:=F (es':=es') g s ds B;rw[v];exact⟨_,rfl,G _ _ Q L⟩
       .cases j
      |tv R=>
       rw [E g y _ H (by simp) (by simp)];rw[H]at j;exact⟨cs,by rw[<-j];cases R<;>rfl,L⟩
      |bx ds=>
       rw [H]at j;simp[BB]at j;subst j;obtain⟨cs',v,G⟩:=F (es':=es') g y ds H;rw[v];have:=G 0 t Q (by simpa using L);exact⟨_,rfl,by simpa using this⟩
      |_=>rw[H]at j;cases j
    obtain ⟨cs',v,G⟩:=U;rw[v];simp[Al,G];exact⟨Q,f⟩
 |_=>cases ho
variable{e:EV}
theorem YY{O g:AB}{d t n:Nat}{es:Fq}(h:NM g ((d,e)::O))(j:d≠t):NM (g.wB t i n es) ((d,e)::O.wB t i n es):=by
 have v:g.get t=O.get t:=by rw[h.1,AB.eb,ae j]
 have f:∀u:EV,(∀c,EV.zt c u=true)->NM ((t,u)::g) ((d,e)::(t,u)::O):=by
  intro u l;refine⟨fun m=>?_,fun c=>?_⟩
  .rw[AB.eb,h.1,AB.eb,AB.eb,AB.eb]
   grind
  .rw[AB.ej,h.2,AB.ej,AB.ej,AB.ej,l];cases EV.zt c e<;>rfl
 cases i with
 |none=>exact f _ fun c=>rfl|some k=>
  simp [AB.wB,v];split
  .exact f _ fun c=>rfl
  .exact h
theorem sP(f:Aa1 D p q=true)(h:FA (AU P) K (p::q::rs) O):FA (AU P) K (q::p::rs) O:=by
 unfold Aa1 at f;split at f
 .rename_i x v kx d B C hd J L;simp[Bool.not_eq_true',decide_eq_false_iff_not]at f;obtain⟨⟨⟨_,ho⟩,E⟩,F⟩:=f;obtain⟨A,G,h⟩:=h;simp[PR.wp,J,L,AB.put]at h;obtain⟨e,⟨H,j,l⟩,T,U,I⟩:=pF ho h;have z:∀(y:AG),d∉y.sl->y.ev H=y.ev A:=by
   intro y hy;cases y with
   |c t=>rfl|s m=>
    simp [AG.ev,j.1,AB.eb]
    grind [AG.sl]
  refine ⟨A,G,?_⟩;simp[PR.wp,C,hd,B,AE.wp,z x E,z v F]at l|-;split at l
  .rename_i t i c hx;split at l
   .rename_i n es u M Q;obtain⟨V,W,es',X,Y,Z,hK⟩:=l;have g:d≠t:=by
     intro g;have C:H.get t=e:=by rw[j.1,AB.eb,a6 g]
     cases i with
     |none=>
      grind [AB.sR]
     |some k=>
      grind [AB.sR]
    have R:A.sR t i=some (n,es):=by
     have C:H.get t=A.get t:=by rw[j.1,AB.eb,ae g]
     grind [AB.x9]
    rw [R,Q];refine⟨V,W,es',X,Y,Z,_,.refl _,?_⟩
    grind [PR.wp,AB.put,H8,YY]
   .exact l.elim
  .exact l.elim
 .cases f
end
end Go.Sf
