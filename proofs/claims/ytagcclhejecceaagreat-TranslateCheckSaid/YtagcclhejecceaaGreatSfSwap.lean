/- Two operations of a region that may change places. -/
import Derived.Test.YtagcclhejecceaaGreatSfFrame
set_option linter.all false
namespace Go.Sf
open Go.RowKit (Below)
theorem AB.ea(d k:Nat)(e:EV)(U:AB):AB.f0 d ((k,e)::U)=(e.wL d&&AB.f0 d U):=rfl
variable{d:Nat}{e:EV}
theorem Sn(h:∀s,e.we=some s->s≠d):e.wL d=true:=by grind[EV.wL]
theorem A0.f0(f:A0)(U:AB)(d:Nat):AB.f0 d (f.app U)=AB.f0 d U:=by
 cases f with
 |none=>rfl|slot s t=>simp[A0.app,AB.ea,EV.wL,EV.we]|cell s c t=>
  grind [A0.app,AB.ea,EV.wL,EV.we]
def A0.on(f:A0)(n:Nat)(e:EV):EV:=
 match f with
 |.none=>e|.slot s t=>if s=n then .tv t else e|.cell s off t=>if s=n then(match e with|.bx cs=>.bx (cs.set off ⟨false,t⟩)|e=>e)else e
theorem A0.get(f:A0)(U:AB)(n:Nat):AB.get (f.app U) n=f.on n (U.get n):=by
 cases f with
 |none=>rfl|slot s t=>simp[A0.app,AB.d4,A0.on]|cell s c t=>
  simp [A0.app,A0.on]
  grind [AB.d4]
def MC(U env2:AB):Prop:=(∀n,U.get n=env2.get n)/\∀d,U.f0 d=env2.f0 d
theorem MC.refl(U:AB):MC U U:=⟨fun _=>rfl,fun _=>rfl⟩
theorem MC.trans{a b c:AB}(h:MC a b)(f:MC b c):MC a c:=⟨fun n=>(h.1 n).trans (f.1 n),fun d=>(h.2 d).trans (f.2 d)⟩
variable{a b:AB}
theorem MC.symm(h:MC a b):MC b a:=⟨fun n=>(h.1 n).symm,fun d=>(h.2 d).symm⟩
def D6(S:FuncId->Fq->Am->Prop)(K:AB->Prop):List PR->AB->Prop
 |[],U=>∃e,MC e U/\K e|r::rs,U=>∃e,MC e U/\r.wp S e (D6 S K rs)
section
variable{S:FuncId->Fq->Am->Prop}{K:AB->Prop}
variable{rs:List PR}
theorem GH{U env2:AB}(h:D6 S K rs U)(he:MC U env2):D6 S K rs env2:=by
 cases rs with
 |nil=>obtain⟨e,c,f⟩:=h;exact⟨e,c.trans he,f⟩
 |cons r rs=>obtain⟨e,c,f⟩:=h;exact⟨e,c.trans he,f⟩
theorem gm:∀{rs:List PR}{U:AB},wpOps S K rs U->D6 S K rs U
 |[],U,h=>⟨U,.refl _,h⟩|r::rs,U,h=>⟨U,.refl _,PR.ns S U (fun e he=>gm he) r h⟩
def PR.xE(r:PR):Ne:=
 match r.guard with
 |some (g,_)=>[g]|none=>[]
structure ON(S:FuncId->Fq->Am->Prop)(r:PR)(d:Nat)(U og:AB)(e:EV)(f:A0):Prop where
 og:og=(d,e)::f.app U
 ok:f.ok U
 slot:∀s t,f=.slot s t->s∈r.op.yf
 cell:∀s off t,f=.cell s off t->(s∈r.op.slots\/∃x∈r.op.slots,(U.get x).we=some s)
 we:∀s,e.we=some s->(s∈r.op.xV\/∃x∈r.op.slots,(U.get x).we=some s)
 new:r.op.wc=true->e.we=none/\U.f0 d=true
 xl:∀s off t,f=.cell s off t->t.xh=false
 again:∀env2,D7 r.op f (some d) U env2->(∀g∈r.xE,env2.get g=U.get g)->∀K2:AB->Prop,K2 ((d,e)::f.app env2)->r.wp S env2 K2
variable{r:PR}{d:Nat}{U:AB}
theorem OU(hd:r.dst=some d)(B:r.op.mov=true)(H:r.op.wc=true->r.guard=none)(h:r.wp S U K):r.wp S U fun og=>K og/\∃e f,ON S r d U og e f:=by
 have A:∀(m:∀env2,(∀g∈r.xE,env2.get g=U.get g)->∀u:AB->Prop,(r.op.wp S env2 (some d) fun e env'=>u (env'.put (some d) e))->r.wp S env2 u),(r.op.wp S U (some d) fun e env'=>K (env'.put (some d) e))->r.op.wp S U (some d) fun e env'=>K (env'.put (some d) e)/\∃C f,ON S r d U (env'.put (some d) e) C f:=by
  intro m F;refine AE.ns S U (some d) (fun e env' he=>?_) r.op (frame B F);obtain⟨G,f,c⟩:=he;refine⟨G,e,f,?_,c.ok,c.slot,c.cell,c.we,fun v=>⟨(c.new v).1,(c.new v).2 d rfl⟩,c.xl,fun env2 E k u j=>?_⟩
  .simp[AB.put];rw[c.env']
  .exact m env2 k u (c.again env2 E _ j)
 unfold PR.wp at h|-;cases l:r.guard with
 |none=>
  grind [PR.wp]
 |some gb=>
  obtain ⟨g,b⟩:=gb;rw[l]at h;rw[hd]at h|-;simp only at h|-;have k:g∈r.xE:=by simp[PR.xE,l]
  split at h
  .rename_i q z;refine⟨fun w=>A (fun env2 c u j=>?_) (h.1 w),fun w=>⟨h.2 w,.sk,.none,rfl,trivial,by simp,by simp,(fun s he=>by cases he),fun v=>?_,by simp,fun env2 _ c u j=>?_⟩⟩
   .grind[PR.wp]
   .grind
   .unfold PR.wp;rw[l,hd];simp only;rw[c g k,z];exact⟨fun y=>by subst y;cases q<;>simp at w,fun _=>j⟩
  .rename_i z;refine⟨h,.sk,.none,rfl,trivial,by simp,by simp,(fun s he=>by cases he),fun v=>?_,by simp,fun env2 _ c u j=>?_⟩
   .grind
   .unfold PR.wp;rw[l,hd];simp only;rw[c g k,z];exact j
  .exact h.elim
end
section
variable{P:Program}{F0:Nat->Nat->Prop}{w0:W0}{N:Nat}{ops:Array Oper}{K:AB->Prop}
def LI(F0:Nat->Nat->Prop)(w0:W0)(N:Nat)(U:AB):Prop:=∃a w,a.tmps.size=N/\Bm F0 w0 U a w
theorem LI.congr{U env2:AB}(h:LI F0 w0 N U)(he:MC U env2):LI F0 w0 N env2:=by
 obtain ⟨a,w,c,f⟩:=h;exact⟨a,w,c,f.congr he.1⟩
variable{U:AB}{s:Nat}{t:TV}
theorem LI.list(h:LI F0 w0 N U)(c:U.get s=.ow t):∃n es,t=.list n es:=by
 obtain ⟨a,w,_,G,f⟩:=h;have:=AW f c (by simp);simp[AK]at this;cases t<;>simp[Bi]at this;exact⟨_,_,rfl⟩
variable{o:Oper}
theorem eP{a:Act}{w:World}{X:Prop}(h:o.wp P a w (fun _ _=>X) (fun _ _ _=>False)):X:=by
 unfold Oper.wp at h;generalize (execOp a.eval o).run P w=r at h;cases r with
 |ok n w'=>
  cases n with
  |value v=>exact h|skip=>exact h|defer d=>exact h|enter f args=>
   rw [Oper.upon_enter]at h;obtain⟨e,j,fr,g,_⟩:=h [];cases e with
   |returned v=>exact g|panicked c=>exact g.elim|outgrown=>obtain⟨_,_,k⟩:=g;exact k.elim
  |row r args=>
   rw [Oper.upon_row]at h;obtain⟨v,j,g,_⟩:=h default [];exact g
  |_=>exact h.elim
 |halt x w'=>
  cases x<;>exact h.elim
variable{r:PR}
theorem FP(f:LI F0 w0 N U)(c:LK P N ops o r=true)(h:r.wp (AR P) U K):∃env',K env'/\LI F0 w0 N env':=by
 obtain ⟨a,w,l,m⟩:=f;have:=VF (p:=none) (next:=fun _ _=>∃env',K env'/\LI F0 w0 N env') (Q:=fun _ _ _=>False) m ⟨l,by simp⟩ (by simp) c h fun env' a' w' g j k=>⟨env',g,a',w',j.size,k⟩;split at this
 .exact eP this
 .exact this
end
def Ed(xs ys:Ne):Bool:=xs.all fun x=>!ys.contains x
variable{x:Nat}
theorem Ao{xs c:Ne}(h:Ed xs c=true)(f:x∈xs)(g:x∈c):False:=by grind[Ed,List.all_eq_true,Bool.not_eq_true']
def PR.old(r:PR):Ne:=
 if r.op.wc then[]else r.dst.toList
def PR.wG(D:Ne)(r:PR):Bool:=
 r.op.mov&&r.dst.isSome&&(!r.op.wc||r.guard.isNone)&&Ed r.op.xV D&&r.old.all D.contains
def WE(D:Ne)(p q:PR):Bool:=
 PR.wG D p&&PR.wG D q&&Ed p.dst.toList (q.dst.toList++(q.op.slots++q.xE))&&Ed q.dst.toList (p.op.slots++p.xE)&&Ed p.op.yf (q.op.yf++q.xE)&&Ed q.op.yf p.xE
variable{s:Nat}
theorem CP{op:AE}(h:s∈op.yf):s∈op.slots:=by
 cases op<;>simp only[AE.yf,List.not_mem_nil]at h<;>simp only[AE.slots]
 .exact h
 .exact Ci h
theorem cg{op:AE}(h:s∈op.xV):s∈op.slots:=by
 cases op<;>simp[AE.xV]at h<;>simp[AE.slots]
 all_goals exact h
def JD(D:Ne)(U:AB):Prop:=∀d∈D,U.f0 d=true
theorem JD.congr{D:Ne}{U env2:AB}(h:JD D U)(he:MC U env2):JD D env2:=fun d hd=>by rw[<-he.2];exact h d hd
variable{U:AB}
theorem JD.no{D:Ne}(h:JD D U)(c:(U.get x).we=some s):s∉D:=fun hd=>AB.wg s U (h s hd) x c
section
variable{S:FuncId->Fq->Am->Prop}
variable{r:PR}{d:Nat}{e:EV}
theorem ON.jd{D:Ne}{U og:AB}{f:A0}(h:ON S r d U og e f)(k:Ed r.op.xV D=true)(j:JD D U):JD D og:=by
 intro x g;rw[h.og,AB.ea,A0.f0,j x g,Bool.and_true];refine Sn (fun s he c=>?_);subst c;rcases h.we s he with l|⟨y,_,m⟩
 .exact Ao k l g
 .exact j.no m g
variable{U:AB}
theorem A0.like(f:A0)(c:f.ok U)(h:∀s t,U.get s=.ow t->∃n es,t=.list n es)(k:∀s g t,f=.cell s g t->t.xh=false)(n:Nat):(U.get n).like (f.on n (U.get n)):=by
 cases f with
 |none=>exact .inl rfl|slot s t=>
  simp [A0.on];split
  .rename_i e;subst e;simp[A0.ok]at c;obtain⟨m,es,rfl⟩:=h s t c;exact .inr (.inl ⟨m,es,.inr ⟨c,rfl⟩⟩)
  .exact .inl rfl
 |cell s g t=>
  simp [A0.on];split
  .rename_i e;subst e;obtain⟨cs,j,l⟩:=c;rw[j];refine .inr (.inr ⟨cs,_,rfl,rfl,?_⟩);rw[List.map_set];refine List.ext_getElem? fun i=>?_
   grind [c7,List.getElem?_eq_some_iff,AN.key]
  .exact .inl rfl
end
variable{r:PR}{U:AB}
theorem RJ{S:FuncId->Fq->Am->Prop}{K:AB->Prop}(h:r.wp S U K):∀g∈r.xE,∃b,U.get g=b/\(∀cs,b≠.bx cs)/\(∀t,b≠.ow t)/\∀cs,b≠.wQ cs:=by grind[PR.xE,PR.wp,List.mem_singleton]
section
variable{P:Program}{F0:Nat->Nat->Prop}{w0:W0}{N:Nat}{ops:Array Oper}{K:AB->Prop}{D:Ne}
variable{U:AB}{p q:PR}{rs:List PR}
theorem swap(hR:LI F0 w0 N U)(hj:JD D U){op oq:Oper}(hp:LK P N ops op p=true)(hq:LK P N ops oq q=true)(Q:WE D p q=true)(h:D6 (AR P) K (p::q::rs) U):D6 (AR P) K (q::p::rs) U:=by
 simp [WE,PR.wG,Bool.not_eq_true']at Q;obtain⟨⟨⟨⟨⟨⟨⟨⟨⟨pm,pd⟩,pg⟩,pb⟩,pD⟩,⟨⟨⟨qm,qd⟩,qg⟩,qb⟩,qD⟩,c1⟩,c2⟩,c3⟩,c4⟩:=Q;obtain⟨E,hdp⟩:=Option.isSome_iff_exists.1 pd;obtain⟨B,hdq⟩:=Option.isSome_iff_exists.1 qd;rw[hdp]at c1;rw[hdq]at c1 c2;simp at c1 c2;have hpq:E≠B:=fun e=>Ao c1 (x:=E) (by simp) (by simp[e]);have G:E∉q.op.slots:=fun e=>Ao c1 (x:=E) (by simp) (by simp[e]);have pngq:E∉q.xE:=fun e=>Ao c1 (x:=E) (by simp) (by simp[e]);have M:B∉p.op.slots:=fun e=>Ao c2 (x:=B) (by simp) (by simp[e]);have qngp:B∉p.xE:=fun e=>Ao c2 (x:=B) (by simp) (by simp[e]);have dd:∀s,s∈p.op.yf->s∈q.op.yf->False:=fun s c l=>Ao c3 c (Ci l);have dg1:∀s,s∈p.op.yf->s∈q.xE->False:=fun s c l=>Ao c3 c (DL l);have dg2:∀s,s∈q.op.yf->s∈p.xE->False:=fun s c l=>Ao c4 c l;have oldp:p.op.wc=true\/E∈D:=by
  cases C:p.op.wc with
  |true=>exact .inl rfl|false=>exact .inr (by simpa[PR.old,C,hdp]using pD)
 have oldq:q.op.wc=true\/B∈D:=by
  cases C:q.op.wc with
  |true=>exact .inl rfl|false=>exact .inr (by simpa[PR.old,C,hdq]using qD)
 have pg':p.op.wc=true->p.guard=none:=fun C=>by
  rcases pg with h|h
  .rw[C]at h;cases h
  .simpa using h
 have qg':q.op.wc=true->q.guard=none:=fun C=>by
  rcases qg with h|h
  .rw[C]at h;cases h
  .simpa using h
 obtain ⟨J,heq,h⟩:=h;have hR':=hR.congr heq.symm;have hj':=hj.congr heq.symm;obtain⟨og,⟨⟨I,A,hw⟩,ep,O,y⟩,hR1⟩:=FP hR' hp (OU hdp pm pg' h);have hRe1:=hR1.congr A.symm;have hj1:=y.jd pb hj';have hje1:=hj1.congr A.symm;obtain⟨X1,⟨hK,eq,F,L⟩,_⟩:=FP hRe1 hq (OU hdq qm qg' hw);have X:∀n,I.get n=if E=n then ep else O.on n (J.get n):=fun n=>by
  rw [A.1,y.og,AB.d4,A0.get]
 have R:∀x s,(I.get x).we=some s->s≠E:=by
  intro x s hx z;subst z;rcases oldp with C|hd
  .refine AB.wg s I ?_ x hx;rw[A.2,y.og,AB.ea,A0.f0,(y.new C).2,Bool.and_true];exact Sn (fun s he _=>by rw[(y.new C).1]at he;cases he)
  .exact hje1.no hx hd
 have nq':∀x s,(J.get x).we=some s->s≠B:=by
  intro x s hx z;subst z;rcases oldq with C|hd
  .have c:=(L.new C).2;rw[A.2,y.og,AB.ea,A0.f0,pr]at c;exact AB.wg s J c.2 x hx
  .exact hj'.no hx hd
 have lk:∀n,n≠E->(I.get n).like (J.get n):=by
  intro n C;rw[X,ae (fun e=>C e.symm)];exact(A0.like O y.ok (fun s t z=>hR'.list z) y.xl n).symm
 have fpdq:∀e,O.on B e=e:=by
  intro e;have:=y.slot;have l:=y.cell;cases O with
  |none=>rfl|slot s t=>
   simp only[A0.on];rw[ae];intro he;subst he;exact M (CP (this _ _ rfl))
  |cell s j t=>
   simp only[A0.on];rw[ae];intro he;subst he;rcases l _ _ _ rfl with m|⟨x,_,H⟩
   .exact M m
   .exact nq' x _ H rfl
 have T:∀e,F.on E e=e:=by
  intro e;have:=L.slot;have l:=L.cell;cases F with
  |none=>rfl|slot s t=>
   simp only[A0.on];rw[ae];intro he;subst he;exact G (CP (this _ _ rfl))
  |cell s j t=>
   simp only[A0.on];rw[ae];intro he;subst he;rcases l _ _ _ rfl with m|⟨x,_,H⟩
   .exact G m
   .exact R x _ H rfl
 have v:F.ok J:=by
  have k:=L.ok;have hsl:=L.slot;have hc:=T;cases F with
  |none=>trivial|slot s t=>
   simp [A0.ok]at k|-;have z:=hsl s t rfl;have f:E≠s:=fun e=>G (e▸CP z);rw[X,ae f]at k;have c:=y.slot;have l:=y.ok;cases O with
   |none=>exact k|slot s' w=>
    simp [A0.on]at k;rw[ae (fun(e:s'=s)=>dd s' (c _ _ rfl) (by rw[e];exact z))]at k;exact k
   |cell s' j w=>
    simp [A0.on]at k;split at k
    .rename_i e;subst e;obtain⟨cs,m,_⟩:=l;rw[m]at k;cases k
    .exact k
  |cell s j t=>
   obtain ⟨cs,c,l⟩:=k;have f:E≠s:=fun e=>by
    have:=hc (.bx [⟨true,.undef⟩,⟨true,.undef⟩]);rcases L.cell s j t rfl with m|⟨x,_,H⟩
    .exact G (e▸m)
    .exact R x s H e.symm
   rw [X,ae f]at c;have m:=y.ok;cases O with
   |none=>exact⟨cs,c,l⟩|slot s' w=>
    simp [A0.on]at c;split at c
    .cases c
    .exact⟨cs,c,l⟩
   |cell s' u w=>
    simp [A0.on]at c;split at c
    .rename_i e;subst e;obtain⟨cs',H,h5⟩:=m;rw[H]at c;simp[EV.bx.injEq]at c;subst c;rw[List.getElem?_set]at l;split at l
     .split at l
      .simp at l
      .cases l
     .exact⟨cs',H,l⟩
    .exact⟨cs,c,l⟩
 have L1:D7 q.op F (some B) I J:=by
  refine ⟨fun s z=>lk s (fun e=>G (e▸z)),fun s z r hb=>lk r (R s r hb),fun s z hnb=>?_,v,fun C d hd W=>?_⟩
  .have f:E≠s:=fun e=>G (e▸CP z);rw[X,ae f];have c:=y.slot;have l:=y.ok;cases O with
   |none=>rfl|slot s' w=>
    simp only[A0.on];rw[ae (fun(e:s'=s)=>dd s' (c _ _ rfl) (by rw[e];exact z))]
   |cell s' j w=>
    simp only[A0.on];split
    .rename_i e;subst e;obtain⟨cs,m,_⟩:=l;exfalso;refine hnb (cs.set j ⟨false,w⟩) ?_;rw[X,ae f];simp[A0.on,m]
    .rfl
  .rw[A.2,y.og,AB.ea,A0.f0,pr]at W;exact W.2
 have hgq:∀g∈q.xE,J.get g=I.get g:=by
  intro g hg;have f:E≠g:=fun e=>pngq (e▸hg);obtain⟨b,hb,hnx,_⟩:=RJ hw g hg;have V:=hb;rw[X,ae f]at V;rw[X,ae f];have c:=y.slot;have l:=y.ok;cases O with
  |none=>rfl|slot s' w=>
   simp only[A0.on];rw[ae (fun(e:s'=g)=>dg1 s' (c _ _ rfl) (by rw[e];exact hg))]
  |cell s' j w=>
   simp only[A0.on]at V|-;split
   .rename_i e;subst e;obtain⟨cs,m,_⟩:=l;rw[m]at V;simp at V;exact absurd V.symm (hnx _)
   .rfl
 have hgp:∀g∈p.xE,AB.get ((B,eq)::F.app J) g=J.get g:=by
  intro g hg;have f:B≠g:=fun e=>qngp (e▸hg);obtain⟨b,hb,hnx,_⟩:=RJ h g hg;rw[AB.d4,ae f,A0.get];have c:=L.slot;cases F with
  |none=>rfl|slot s' w=>
   simp only[A0.on];rw[ae (fun(e:s'=g)=>dg2 s' (c _ _ rfl) (by rw[e];exact hg))]
  |cell s' j w=>
   simp only[A0.on];split
   .rename_i e;subst e;obtain⟨cs,m,_⟩:=v;rw[m]at hb;exact absurd hb.symm (hnx _)
   .rfl
 have offs:∀s j t u w,O=.cell s j t->F=.cell s u w->j≠u:=by
  intro s j t u w c l ho;subst ho;have m:=L.ok;have H:=y.ok;have h5:=T;rw[c]at H;rw[l]at m;obtain⟨cs,Z,h7⟩:=H;obtain⟨ds,h8,h9⟩:=m;have f:E≠s:=fun e=>by
   rcases L.cell s j w l with m|⟨x,_,H⟩
   .exact G (e▸m)
   .exact R x s H e.symm
  rw [X,ae f,c]at h8;simp[A0.on,Z,EV.bx.injEq]at h8;subst h8;rw[List.getElem?_set,a6 rfl]at h9;split at h9
  .simp at h9
  .cases h9
 have g2:∀n,AB.get ((B,eq)::F.app J) n=if B=n then eq else F.on n (J.get n):=fun n=>by
  rw [AB.d4,A0.get]
 have lk2:∀n,n≠B->(J.get n).like (AB.get ((B,eq)::F.app J) n):=by
  intro n C;rw[g2,ae (fun e=>C e.symm)];exact A0.like F v (fun s t z=>hR'.list z) L.xl n
 have L2:D7 p.op O (some E) J ((B,eq)::F.app J):=by
  refine ⟨fun s z=>lk2 s (fun e=>M (e▸z)),fun s z r hb=>lk2 r (nq' s r hb),fun s z hnb=>?_,?_,fun C d hd W=>?_⟩
  .have f:B≠s:=fun e=>M (e▸CP z);rw[g2,ae f];have c:=L.slot;cases F with
   |none=>rfl|slot s' w=>
    simp only[A0.on];rw[ae (fun(e:s'=s)=>dd s' (by rw[e];exact z) (c _ _ rfl))]
   |cell s' j w=>
    simp only[A0.on];split
    .rename_i e;subst e;obtain⟨cs,m,_⟩:=v;exact absurd m (hnb cs)
    .rfl
  .have k:=y.ok;have hsl:=y.slot;have hcl:=y.cell;cases O with
   |none=>trivial|slot s t=>
    simp [A0.ok]at k|-;have z:=hsl s t rfl;have f:B≠s:=fun e=>M (e▸CP z);rw[g2,ae f];have c:=L.slot;cases F with
    |none=>exact k|slot s' w=>
     simp [A0.on];rw[ae (fun(e:s'=s)=>dd s' (by rw[e];exact z) (c _ _ rfl))];exact k
    |cell s' j w=>
     simp [A0.on];split
     .rename_i e;subst e;obtain⟨cs,m,_⟩:=v;rw[m]at k;cases k
     .exact k
   |cell s j t=>
    obtain ⟨cs,c,l⟩:=k;have f:B≠s:=fun e=>by
     rcases hcl s j t rfl with m|⟨x,_,H⟩
     .exact M (e▸m)
     .exact nq' x s H e.symm
    simp [A0.ok];rw[g2,ae f];have m:=v;cases F with
    |none=>exact⟨cs,c,l⟩|slot s' w=>
     simp [A0.on];split
     .rename_i e;subst e;simp[A0.ok]at m;rw[m]at c;cases c
     .exact⟨cs,c,l⟩
    |cell s' u w=>
     simp [A0.on];split
     .rename_i e;subst e;rw[c];have:=offs s' j t u w rfl rfl;refine⟨_,rfl,?_⟩;rw[List.getElem?_set,ae (fun e=>this e.symm)];exact l
     .exact⟨cs,c,l⟩
  .simp at hd;subst hd;rw[AB.ea,A0.f0,W,Bool.and_true];refine Sn (fun s he=>?_);rcases L.we s he with c|⟨x,_,l⟩
   .exact fun e=>G (e▸cg c)
   .exact R x s l
 refine ⟨J,heq,L.again J L1 hgq _ ⟨_,.refl _,y.again _ L2 hgp _ (GH hK ?_)⟩⟩;rw[L.og];refine⟨fun n=>?_,fun d=>?_⟩
 .rw[AB.d4,A0.get,X,AB.d4,A0.get,g2];by_cases c:B=n
  .subst c;rw[a6 rfl,ae hpq,a6 rfl,fpdq]
  .rw[ae c,ae c];by_cases l:E=n
   .subst l;rw[a6 rfl,a6 rfl,T]
   .rw[ae l,ae l];have m:=y.ok;have H:=y.slot;have h5:=L.slot;cases O with
    |none=>rfl|slot s t=>
     cases F with
     |none=>rfl|slot s' w=>
      have f:s≠s':=fun e=>dd s (H _ _ rfl) (e▸h5 _ _ rfl);simp[A0.on];by_cases I:s=n<;>by_cases Y:s'=n<;>simp[I,Y];exact absurd (I.trans Y.symm) f
     |cell s' u w=>
      have f:s≠s':=fun e=>by
       obtain ⟨cs,Z,_⟩:=v;simp[A0.ok]at m;rw[<-e,m]at Z;cases Z
      simp [A0.on];by_cases I:s=n<;>by_cases Y:s'=n<;>simp[I,Y]
    |cell s j t=>
     cases F with
     |none=>rfl|slot s' w=>
      have f:s≠s':=fun e=>by
       obtain ⟨cs,Z,_⟩:=m;simp[A0.ok]at v;rw[e,v]at Z;cases Z
      simp [A0.on];by_cases I:s=n<;>by_cases Y:s'=n<;>simp[I,Y]
     |cell s' u w=>
      obtain ⟨cs,Z,_⟩:=m;simp[A0.on];by_cases I:s=n
      .by_cases Y:s'=n
       .subst I;subst Y;have:=offs s' j t u w rfl rfl;simp[Z];rw[List.set_comm _ _ this]
       .simp[I,Y]
      .simp[I]
 .rw[AB.ea,A0.f0,A.2,y.og,AB.ea,A0.f0,AB.ea,A0.f0,AB.ea,A0.f0];cases EV.wL d eq<;>cases EV.wL d ep<;>rfl
end
end Go.Sf
namespace Go.Sf
open Go.RowKit (Below)
def xQ(D:Ne)(p q:PR):Bool:=
 match q.op,q.guard,q.dst with
 |.yy _ b v,none,none=>PR.wG D p&&D.contains b&&Ed p.dst.toList (b::v.sl)&&Ed [b] (p.op.slots++p.xE)&&Ed p.op.yf v.sl|.stx _ b s,none,none=>PR.wG D p&&D.contains b&&Ed p.dst.toList (b::[s])&&Ed [b] (p.op.slots++p.xE)&&Ed p.op.yf [s]&&Ed [s] p.op.slots&&D.contains s|_,_,_=>false
def NX(b:Nat)(cs:List AN)(q:Option (Nat×EV))(U:AB):AB:=
 (b,.bx cs)::(match q with|some (s,t)=>(s,t)::U|none=>U)
theorem Es(b:Nat)(cs:List AN)(q:Option (Nat×EV))(U:AB)(n:Nat):AB.get (NX b cs q U) n=if b=n then .bx cs else(match q with|some (s,t)=>if s=n then t else U.get n|none=>U.get n):=by
 cases q with
 |none=>rfl|some st=>rfl
theorem FT(b:Nat)(cs:List AN)(q:Option (Nat×EV))(U:AB)(d:Nat)(h:∀s e,q=some (s,e)->e.wL d=true):AB.f0 d (NX b cs q U)=AB.f0 d U:=by
 cases q with
 |none=>simp[NX,AB.ea,EV.wL,EV.we]|some p=>
  obtain ⟨s,e⟩:=p;have c:=h s e rfl;simp[NX,AB.ea,c];simp[EV.wL,EV.we]
structure nS(S:FuncId->Fq->Am->Prop)(q:PR)(b:Nat)(v:AF)(U og:AB)(cs cs':List AN)(o:Option (Nat×EV)):Prop where
 og:og=NX b cs' o U
 box:U.get b=.bx cs
 own:∀s e,o=some (s,e)->v=.s s/\((∃t,e=.tv t/\U.get s=.ow t)\/(e=.undef/\(∃ds,U.get s=.wQ ds)/\∃n,q.op=.stx n b s))/\s≠b
 val:∀cs,v.ev U≠.bx cs
 again:∀env2,env2.f0 b=true->env2.get b=.bx cs->v.ev env2=v.ev U->∀K2:AB->Prop,K2 (NX b cs' o env2)->q.wp S env2 K2
variable{q:PR}{U:AB}
theorem oW{S:FuncId->Fq->Am->Prop}{K:AB->Prop}{n b:Nat}{v:AF}(f:q.op=.yy n b v\/∃s,v=.s s/\q.op=.stx n b s)(k:q.guard=none)(hd:q.dst=none)(h:q.wp S U K):∃og,K og/\∃cs cs' o,nS S q b v U og cs cs' o:=by
 rcases f with f|⟨s,rfl,f⟩
 .unfold PR.wp at h;rw[k,f,hd]at h;simp only[AE.wp]at h;split at h
  .rename_i cs m;split at h
   .rename_i t hv;cases v with
    |c t=>exact h.elim|s y=>
     simp only at h;simp[AF.ev]at hv;refine⟨_,h.2.2.2,cs,_,some (y,.tv t),rfl,m,?_,?_,fun env2 u l j w g=>?_⟩
     .grind
     .grind[AF.ev]
     .simp[AF.ev]at j;unfold PR.wp;rw[k,f,hd];simp[AE.wp,l,AF.ev,j,hv];exact⟨h.1,h.2.1,h.2.2.1,g⟩
   .rename_i t hv;refine⟨_,h.2.2,cs,_,none,rfl,m,by simp,by simp[hv],fun env2 u l j w g=>?_⟩;unfold PR.wp;rw[k,f,hd];simp only[AE.wp,l,j,hv];exact⟨h.1,h.2.1,g⟩
   .exact h.elim
  .exact h.elim
 .unfold PR.wp at h;rw[k,f,hd]at h;simp only[AE.wp]at h;split at h
  .rename_i cs ds m hv;refine⟨_,h.2.2.2,cs,_,some (s,.undef),rfl,m,?_,by simp[AF.ev,hv],fun env2 u l j w g=>?_⟩
   .grind
   .simp[AF.ev]at j;unfold PR.wp;rw[k,f,hd];simp only[AE.wp,l,j,hv];exact⟨h.1,⟨h.2.1.1,by rw[AB.noX_ref u,Bool.or_true]⟩,h.2.2.1,g⟩
  .exact h.elim
section
variable{P:Program}{F0:Nat->Nat->Prop}{w0:W0}{N:Nat}{ops:Array Oper}{K:AB->Prop}{D:Ne}
variable{U:AB}{p q:PR}{rs:List PR}
theorem nH(hR:LI F0 w0 N U)(hj:JD D U){op:Oper}(hp:LK P N ops op p=true)(f:xQ D p q=true)(h:D6 (AR P) K (p::q::rs) U):D6 (AR P) K (q::p::rs) U:=by
 have key:∃n b v,(q.op=.yy n b v\/∃s,v=.s s/\q.op=.stx n b s)/\q.guard=none/\q.dst=none/\(((((PR.wG D p=true/\D.contains b=true)/\Ed p.dst.toList (b::v.sl)=true)/\Ed [b] (p.op.slots++p.xE)=true)/\Ed p.op.yf v.sl=true)/\(∀n s,q.op=.stx n b s->Ed [s] p.op.slots=true/\D.contains s=true)):=by
  unfold xQ at f;split at f
  .grind
  .rename_i n b s O X hd;simp only[pr]at f;refine⟨n,b,.s s,.inr ⟨s,rfl,O⟩,X,hd,f.1.1,fun n' s' h=>?_⟩
   grind
  .cases f
 clear f;obtain⟨n,b,v,O,X,hd,f,hstx⟩:=key
 .simp[PR.wG,Bool.not_eq_true']at f;obtain⟨⟨⟨⟨⟨⟨⟨⟨pm,pd⟩,pg⟩,pb⟩,pD⟩,Y⟩,c1⟩,c2⟩,c3⟩:=f;obtain⟨G,hdp⟩:=Option.isSome_iff_exists.1 pd;rw[hdp]at c1;simp at c1;have Y:b∈D:=by simpa using Y
  have hpb:G≠b:=fun e=>Ao c1 (x:=G) (by simp) (by simp[e]);have pnv:G∉v.sl:=fun e=>Ao c1 (x:=G) (by simp) (by simp[e]);have y:b∉p.op.slots:=fun e=>Ao c2 (x:=b) (by simp) (Ci e);have bng:b∉p.xE:=fun e=>Ao c2 (x:=b) (by simp) (DL e);have dv:∀s,s∈p.op.yf->s∈v.sl->False:=fun s l j=>Ao c3 l j;have pg':p.op.wc=true->p.guard=none:=fun hn=>by
   rcases pg with h|h
   .rw[hn]at h;cases h
   .simpa using h
  obtain ⟨w,R,h⟩:=h;have hR':=hR.congr R.symm;have z:=hj.congr R.symm;obtain⟨og,⟨⟨e1,I,hw⟩,ep,T,B⟩,hR1⟩:=FP hR' hp (OU hdp pm pg' h);have hj1:=B.jd pb z;have Z:∀n,e1.get n=if G=n then ep else T.on n (w.get n):=fun n=>by
   rw [I.1,B.og,AB.d4,A0.get]
  have Q:∀e,T.on b e=e:=by
   intro e;have:=B.slot;have j:=B.cell;cases T with
   |none=>rfl|slot s t=>
    simp only[A0.on];rw[ae];intro he;subst he;exact y (CP (this _ _ rfl))
   |cell s V t=>
    simp only[A0.on];rw[ae];intro he;subst he;rcases j _ _ _ rfl with A|⟨x,_,F⟩
    .exact y A
    .exact z.no F Y
  have gb:e1.get b=w.get b:=by rw[Z,ae hpb,Q]
  obtain ⟨X1,hK,cs,cs',o,Fs⟩:=oW O X hd hw;have hbox:w.get b=.bx cs:=by rw[<-gb];exact Fs.box
  have hv:v.ev w=v.ev e1:=by
   cases v with
   |c t=>rfl|s m=>
    have hm:G≠m:=fun e=>pnv (by simp[AF.sl,e]);simp[AF.ev];have u:=Fs.val;simp[AF.ev]at u;rw[Z,ae hm]at u|-;have l:=B.slot;have j:=B.ok;cases T with
    |none=>rfl|slot s t=>
     simp only[A0.on];rw[ae (fun(e:s=m)=>dv s (l _ _ rfl) (by simp[AF.sl,e]))]
    |cell s V t=>
     simp only[A0.on]at u|-;split
     .rename_i e;subst e;obtain⟨ds,A,_⟩:=j;rw[a6 rfl,A]at u;exact absurd rfl (u _)
     .rfl
  have k:∀s e,o=some (s,e)->((∃t,e=.tv t/\w.get s=.ow t)\/(e=.undef/\∃ds,w.get s=.wQ ds))/\s≠b/\s∈v.sl/\s≠G:=by
   intro s t ho;obtain⟨l,j,A⟩:=Fs.own s t ho;subst l;simp[AF.ev]at hv;refine⟨?_,A,by simp[AF.sl],fun e=>pnv (by simp[AF.sl,e])⟩;rw[hv];rcases j with j|⟨j,F,_⟩
   .exact .inl j
   .exact .inr ⟨j,F⟩
  have C:∀s,o=some (s,.undef)->s∉p.op.slots/\s∈D:=by
   intro s ho;obtain⟨_,j,_⟩:=Fs.own s _ ho;rcases j with⟨t,j,_⟩|⟨_,_,n',F⟩
   .cases j
   .obtain⟨h5,h6⟩:=hstx n' s F;exact⟨fun e=>Ao h5 (by simp) e,by simpa using h6⟩
  have E:∀d s e,o=some (s,e)->e.wL d=true:=by
   intro d s e ho;rcases(k s e ho).1 with⟨t,rfl,_⟩|⟨rfl,_⟩<;>rfl
  have H:∀s e,o=some (s,e)->∀ds,w.get s≠.bx ds:=by
   intro s e ho ds h;rcases(k s e ho).1 with⟨t,_,j⟩|⟨_,ds',j⟩<;>rw[j]at h<;>cases h
  have g2:∀n,b≠n->(∀s t,o=some (s,t)->s≠n)->AB.get (NX b cs' o w) n=w.get n:=by
   intro n l j;rw[Es,ae l];cases o with
   |none=>rfl|some st=>
    obtain ⟨s,t⟩:=st;simp only;rw[ae (j s t rfl)]
  have lk:∀n,b≠n->o≠some (n,.undef)->(w.get n).like (AB.get (NX b cs' o w) n):=by
   intro n l h0;rw[Es,ae l];cases o with
   |none=>exact .inl rfl|some st=>
    obtain ⟨s,t⟩:=st;simp only;split
    .rename_i e;subst e;rcases(k s t rfl).1 with⟨t,rfl,A⟩|⟨rfl,_⟩
     .obtain⟨m,es,rfl⟩:=hR'.list A;exact .inr (.inl ⟨m,es,.inr ⟨A,rfl⟩⟩)
     .exact absurd rfl h0
    .exact .inl rfl
  have L:D7 p.op T (some G) w (NX b cs' o w):=by
   refine ⟨fun s W=>lk s (fun e=>y (e▸W)) (fun e=>(C s e).1 W),fun s W r J=>lk r (fun e=>z.no J (e▸Y)) (fun e=>z.no J (C r e).2),fun s W _=>g2 s (fun e=>y (e▸CP W)) (fun s' t ho e=>dv s W (e▸(k s' t ho).2.2.1)),?_,fun hn d hd M=>by rw[FT _ _ _ _ _ (E d)];exact M⟩;have l:=B.slot;have j:=B.ok;have A:=Q;have F:=B.cell;cases T with
   |none=>trivial|slot s t=>
    simp [A0.ok]at j|-;rw[g2 s (fun e=>y (e▸CP (l _ _ rfl))) (fun s' t ho e=>dv s (l _ _ rfl) (e▸(k s' t ho).2.2.1))];exact j
   |cell s V t=>
    obtain ⟨ds,h5,h6⟩:=j;refine⟨ds,?_,h6⟩;rw[g2 s (fun e=>?_) (fun s' t' ho e=>?_)]
    .exact h5
    .rcases F _ _ _ rfl with h7|⟨x,_,h8⟩
     .exact y (e▸h7)
     .exact z.no h8 (e▸Y)
    .exact H s' t' ho _ (e▸h5)
  have hgp:∀g∈p.xE,AB.get (NX b cs' o w) g=w.get g:=by
   intro g X;obtain⟨bb,J,_,M,hno'⟩:=RJ h g X;refine g2 g (fun e=>bng (e▸X)) (fun s t ho e=>?_);rcases(k s t ho).1 with⟨t,_,j⟩|⟨_,ds',j⟩
   .rw[<-e,j]at J;exact absurd J.symm (M _)
   .rw[<-e,j]at J;exact absurd J.symm (hno' _)
  refine ⟨w,R,Fs.again w (z _ Y) hbox hv _ ⟨_,.refl _,B.again _ L hgp _ (GH hK ?_)⟩⟩;rw[Fs.og];refine⟨fun n=>?_,fun d=>?_⟩
  .rw[AB.d4,A0.get,Es,Es];by_cases l:G=n
   .subst l;rw[ae (fun e=>hpb e.symm),a6 rfl];cases o with
    |none=>simp only;rw[Z,a6 rfl]|some st=>
     obtain ⟨s,t⟩:=st;simp only;rw[ae (k s t rfl).2.2.2,Z,a6 rfl]
   .rw[ae l];by_cases j:b=n
    .subst j;rw[a6 rfl,a6 rfl,Q]
    .rw[ae j,ae j];cases o with
     |none=>simp only;rw[Z,ae l]|some st=>
      obtain ⟨s,t⟩:=st;simp only;by_cases A:s=n
      .subst A;rw[a6 rfl,a6 rfl];have F:=B.slot;have h5:=B.ok;have h6:=(k s t rfl);have h6':=H s t rfl;have h6'':∀ds,t≠.bx ds:=by
        intro ds h;rcases h6.1 with⟨t,rfl,_⟩|⟨rfl,_⟩<;>cases h
       cases T with
       |none=>rfl|slot s' t'=>
        simp only[A0.on];rw[ae (fun(e:s'=s)=>dv s' (F _ _ rfl) (by rw[e];exact h6.2.2.1))]
       |cell s' V t'=>
        simp only[A0.on];split
        .rename_i e;subst e;obtain⟨ds,h7,_⟩:=h5;exact absurd h7 (h6' _)
        .rfl
      .rw[ae A,ae A,Z,ae l]
  .rw[FT _ _ _ _ _ (E d),I.2,B.og,AB.ea,A0.f0,AB.ea,A0.f0,FT _ _ _ _ _ (E d)]
def yc(D:Ne)(p q:PR):Bool:=
 match q.op,q.guard,q.dst with
 |.yW s,none,some d=>PR.wG D p&&D.contains s&&D.contains d&&Ed p.dst.toList [s,d]&&Ed [s,d] (p.op.slots++p.xE)|_,_,_=>false
variable{s d:Nat}
theorem cN{S:FuncId->Fq->Am->Prop}{K:AB->Prop}(c:q.op=.yW s)(f:q.guard=none)(hd:q.dst=some d)(h:q.wp S U K):∃n es,U.get s=.xo n es/\U.f0 d=true/\d≠s/\K ((d,.xo n es)::(s,.undef)::U):=by
 simp [PR.wp,c,f,hd,AE.wp,AB.put]at h
 grind
variable{n:Nat}
theorem cO{S:FuncId->Fq->Am->Prop}{K:AB->Prop}{es:Fq}(c:q.op=.yW s)(f:q.guard=none)(hd:q.dst=some d)(g:U.get s=.xo n es)(j:U.f0 d=true)(k:d≠s)(h:K ((d,.xo n es)::(s,.undef)::U)):q.wp S U K:=by
 simp [PR.wp,c,f,hd,AE.wp,AB.put,g];exact⟨j,k,h⟩
theorem qW(hR:LI F0 w0 N U)(hj:JD D U){op:Oper}(hp:LK P N ops op p=true)(f:yc D p q=true)(h:D6 (AR P) K (p::q::rs) U):D6 (AR P) K (q::p::rs) U:=by
 unfold yc at f;split at f
 .rename_i s d M hg hd;simp[PR.wG,Bool.not_eq_true']at f;obtain⟨⟨⟨⟨⟨⟨⟨⟨pm,pd⟩,pg⟩,pb⟩,pD⟩,G⟩,Q⟩,X⟩,Y⟩:=f;obtain⟨C,T⟩:=Option.isSome_iff_exists.1 pd;rw[T]at X;simp at X;have G:s∈D:=by simpa using G
  have Q:d∈D:=by simpa using Q
  have R:C≠s:=fun e=>Ao X (x:=C) (by simp) (by simp[e]);have hpd:C≠d:=fun e=>Ao X (x:=C) (by simp) (by simp[e]);have j:s∉p.op.slots:=fun e=>Ao Y (x:=s) (by simp) (Ci e);have l:d∉p.op.slots:=fun e=>Ao Y (x:=d) (by simp) (Ci e);have sng:s∉p.xE:=fun e=>Ao Y (x:=s) (by simp) (DL e);have dng:d∉p.xE:=fun e=>Ao Y (x:=d) (by simp) (DL e);have pg':p.op.wc=true->p.guard=none:=fun hn=>by
   rcases pg with h|h
   .rw[hn]at h;cases h
   .simpa using h
  obtain ⟨w,E,h⟩:=h;have hR':=hR.congr E.symm;have u:=hj.congr E.symm;obtain⟨og,⟨⟨e1,v,hw⟩,ep,V,A⟩,hR1⟩:=FP hR' hp (OU T pm pg' h);have g1:∀n,e1.get n=if C=n then ep else V.on n (w.get n):=fun n=>by
   rw [v.1,A.og,AB.d4,A0.get]
  have B:∀x,x∈D->x∉p.op.slots->∀e,V.on x e=e:=by
   intro x hxD O e;have:=A.slot;have k:=A.cell;cases V with
   |none=>rfl|slot s t=>
    simp only[A0.on];rw[ae];intro he;subst he;exact O (CP (this _ _ rfl))
   |cell s off t=>
    simp only[A0.on];rw[ae];intro he;subst he;rcases k _ _ _ rfl with I|⟨y,_,W⟩
    .exact O I
    .exact u.no W hxD
  obtain ⟨n,es,k1,k2,k3,hK⟩:=cN M hg hd hw;rw[g1,ae R,B s G j]at k1;rw[v.2,A.og,AB.ea,A0.f0,pr]at k2;have H:∀m,m≠d->m≠s->AB.get ((d,.xo n es)::(s,.undef)::w) m=w.get m:=fun m z k=>by
   rw [AB.d4,ae (fun e=>z e.symm),AB.d4,ae (fun e=>k e.symm)]
  have nr:∀c,AB.f0 c ((d,EV.xo n es)::(s,EV.undef)::w)=AB.f0 c w:=fun c=>by
   simp [AB.ea,EV.wL,EV.we]
  have L:D7 p.op V (some C) w ((d,.xo n es)::(s,.undef)::w):=by
   refine ⟨fun x F=>.inl (H x (fun e=>l (e▸F)) (fun e=>j (e▸F))),fun x F r hr=>.inl (H r (fun e=>u.no hr (e▸Q)) (fun e=>u.no hr (e▸G))),fun x F _=>H x (fun e=>l (e▸CP F)) (fun e=>j (e▸CP F)),?_,fun hn d' hd' Z=>by rw[nr];exact Z⟩;have z:=A.slot;have k:=A.ok;have W:=A.cell;cases V with
   |none=>trivial|slot x t=>
    simp [A0.ok]at k|-;rw[H x (fun e=>l (e▸CP (z _ _ rfl))) (fun e=>j (e▸CP (z _ _ rfl)))];exact k
   |cell x off t=>
    obtain ⟨ds,h5,h6⟩:=k;refine⟨ds,?_,h6⟩;rw[H x (fun e=>?_) (fun e=>?_)]
    .exact h5
    .rcases W _ _ _ rfl with h7|⟨y,_,h8⟩
     .exact l (e▸h7)
     .exact u.no h8 (e▸Q)
    .rcases W _ _ _ rfl with h7|⟨y,_,h8⟩
     .exact j (e▸h7)
     .exact u.no h8 (e▸G)
  have hgp:∀g∈p.xE,AB.get ((d,.xo n es)::(s,.undef)::w) g=w.get g:=fun g J=>H g (fun e=>dng (e▸J)) (fun e=>sng (e▸J));refine⟨w,E,cO M hg hd k1 k2.2 k3 ⟨_,.refl _,A.again _ L hgp _ (GH hK ?_)⟩⟩;refine⟨fun m=>?_,fun c=>?_⟩
  .simp[AB.d4,A0.get,g1];by_cases z:d=m
   .subst z;rw[a6 rfl,ae hpd,B d Q l,a6 rfl]
   .rw[ae z];by_cases k:s=m
    .subst k;rw[a6 rfl,ae R,B s G j,ae z,a6 rfl]
    .rw[ae k];by_cases I:C=m
     .rw[a6 I,a6 I]
     .rw[ae I,ae I,ae z,ae k]
  .simp[AB.ea,A0.f0,v.2,A.og];have e1:EV.wL c (EV.xo n es)=true:=rfl;have e2:EV.wL c EV.undef=true:=rfl;rw[e1,e2];cases EV.wL c ep<;>rfl
 .cases f
def p8:AE->Bool
 |.zg _=>true|.mv _=>true|.bad _ _=>true|.w3 _ _=>true|.ld _=>true|.zT _=>true|_=>false
def x8(D:Ne)(p q:PR):Bool:=
 match q.op,q.guard,q.dst,p.guard,p.dst with
 |.yx x v _,none,none,none,some d=>PR.wG D p&&p8 p.op&&!(x.sl.contains d)&&!(v.sl.contains d)|_,_,_,_,_=>false
variable{i:Option Nat}
theorem Ny{q:Nat}{es es':Fq}(h:U.tl q i=some (n,es)):(∃u,AB.get (U.ww q i n es') q=u/\((∃m c,U.get q=.xo m c/\∃m' fs',u=.xo m' fs')\/(∃cs k,i=some k/\cs[k]?=some ⟨true,.xl n es⟩/\U.get q=.bx cs/\u=.bx (cs.set k ⟨true,.xl n es'⟩))))/\(∀m,q≠m->AB.get (U.ww q i n es') m=U.get m)/\∀d,AB.f0 d (U.ww q i n es')=U.f0 d:=by
 cases i with
 |none=>
  grind [AB.tl,AB.ww,AB.d4,AB.ea,EV.wL,EV.we]
 |some k=>
  grind [AB.tl,tg,AB.ww,AB.d4,AB.ea,EV.wL,EV.we]
theorem ba(l:List AN)(c:Nat):Em ((l.drop c).map (·.t))=(l[c]?).map (·.t):=by
 rw [show l[c]?=(l.drop c)[0]? by rw[List.getElem?_drop,Nat.add_zero]];cases l.drop c<;>rfl
variable{t:TV}
theorem jf{ds:List AN}{k c n:Nat}{es es':Fq}(g:t.xh=false)(h:ds[k]?=some ⟨true,.xl n es⟩)(f:Em ((ds.drop c).map (·.t))=some t):Em (((ds.set k ⟨true,.xl n es'⟩).drop c).map (·.t))=some t:=by
 rw [ba]at f|-;by_cases e:k=c
 .subst e;rw[h]at f;simp at f;subst f;cases g
 grind
theorem m7{S:FuncId->Fq->Am->Prop}{op:AE}(ho:p8 op=true){dst:Option Nat}{K:EV->AB->Prop}(h:op.wp S U dst K):
  ∃e,K e U/\(∀m I,e≠.xo m I)/\(∀cs,e≠.bx cs)/\∀(q n:Nat)(i:Option Nat)(es es':Fq),U.tl q i=some (n,es)->∀A:EV->AB->Prop,A e (U.ww q i n es')->op.wp S (U.ww q i n es') dst A:=by
 have C:∀{q n:Nat}{i:Option Nat}{es es':Fq},U.tl q i=some (n,es)->∀m e,U.get m=e->(∀k I,e≠.xo k I)->(∀cs,e≠.bx cs)->AB.get (U.ww q i n es') m=e:=fun{q n i es es'}g m e w F V=>by
  obtain ⟨⟨u,M,l⟩,H,_⟩:=Ny (es':=es') g
  grind
 have E:∀{q n:Nat}{i:Option Nat}{es es':Fq},U.tl q i=some (n,es)->∀m cs,U.get m=.bx cs->∃cs',AB.get (U.ww q i n es') m=.bx cs'/\∀v t,t.xh=false->Em ((cs.drop v).map (·.t))=some t->Em ((cs'.drop v).map (·.t))=some t:=fun{q n i es es'}g m cs w=>by
  obtain ⟨⟨u,M,l⟩,H,_⟩:=Ny (es':=es') g
  grind [jf]
 have z:∀{q n:Nat}{i:Option Nat}{es es':Fq},U.tl q i=some (n,es)->∀(x:AF)e,x.ev U=e->(∀m I,e≠.xo m I)->(∀cs,e≠.bx cs)->x.ev (U.ww q i n es')=e:=by
  intro q n i es es' g x e he w F;cases x with
  |c t=>exact he|s y=>exact C g y e he w F
 cases op with
 |mv x=>
  simp [AE.wp]at h|-;split at h
  .rename_i t j;exact⟨_,h,by simp,by simp,fun q n i es es' g A f=>by rw[z g x _ j (by simp) (by simp)];exact f⟩
  .rename_i t j;exact⟨_,h,by simp,by simp,fun q n i es es' g A f=>by rw[z g x _ j (by simp) (by simp)];exact f⟩
  .rename_i t j;exact⟨_,h,by simp,by simp,fun q n i es es' g A f=>by rw[z g x _ j (by simp) (by simp)];exact f⟩
  .exact h.elim
 |zT x=>
  simp [AE.wp]at h|-;split at h
  .rename_i s v j;split at h
   .rename_i W X;refine⟨_,h,by simp,by simp,fun q n i es es' g A f=>?_⟩;rw[z g x _ j (by simp) (by simp)];have L:∃r,(U.ww q i n es').tl s (some v)=some r:=by
     cases i with
     |none=>grind[AB.tl,AB.ww,AB.d4]|some k=>grind[AB.tl,AB.ww,AB.d4]
    obtain ⟨r,L⟩:=L;simp only[L];exact f
   .exact h.elim
  .exact h.elim
 |zg s=>
  simp [AE.wp]at h|-;split at h
  .rename_i m I B;refine⟨_,h,by simp,by simp,fun q n i es es' g A f=>?_⟩;obtain⟨⟨u,M,l⟩,H,_⟩:=Ny (es':=es') g;by_cases e:q=s
   .subst e;rcases l with⟨_,_,_,m',fs',rfl⟩|⟨_,_,_,_,R,_⟩
    .rw[M];exact f
    .rw[B]at R;cases R
   .rw[H s e,B];exact f
  .exact h.elim
 |bad s k=>
  simp [AE.wp]at h|-;split at h
  .rename_i cs B;refine⟨_,h,by simp,by simp,fun q n i es es' g A f=>?_⟩;obtain⟨cs',w,_⟩:=E (es':=es') g s cs B;rw[w];exact f
  .rename_i row B;exact⟨_,h,by simp,by simp,fun q n i es es' g A f=>by rw[C g s _ B (by simp) (by simp)];exact f⟩
  .exact h.elim
 |w3 x k=>
  simp [AE.wp]at h|-;split at h
  .rename_i row j;exact⟨_,h,by simp,by simp,fun q n i es es' g A f=>by rw[z g x _ j (by simp) (by simp)];exact f⟩
  .rename_i s v j;split at h
   .rename_i cs B;refine⟨_,h,by simp,by simp,fun q n i es es' g A f=>?_⟩;obtain⟨cs',w,_⟩:=E (es':=es') g s cs B;rw[z g x _ j (by simp) (by simp)];simp only;rw[w];exact f
   .exact h.elim
  .exact h.elim
 |ld x=>
  simp [AE.wp]at h|-;cases l:A1 U (x.ev U)with
  |none=>rw[l]at h;exact h.elim|some cs=>
   rw [l]at h;simp[AX]at h;cases J:Em cs with
   |none=>rw[J]at h;exact h.elim|some t=>
    rw [J]at h;obtain⟨O,h⟩:=h;refine⟨_,h,by simp,by simp,fun q n i es es' g A f=>?_⟩;have T:∃cs',A1 (U.ww q i n es') (x.ev (U.ww q i n es'))=some cs'/\Em cs'=some t:=by
     cases x with
     |c Q=>exact⟨cs,by rw[<-l];cases Q<;>rfl,J⟩
     |s y=>
      simp [AF.ev]at l|-;cases G:U.get y with
      |bp s v=>
       rw [C g y _ G (by simp) (by simp)];rw[G]at l;simp only[A1]at l|-;split at l
       .rename_i ds B;cases l;obtain⟨cs',w,F⟩:=E (es':=es') g s ds B;rw[w];exact⟨_,rfl,F _ _ O J⟩
       .cases l
      |tv Q=>
       rw [C g y _ G (by simp) (by simp)];rw[G]at l;exact⟨cs,by rw[<-l];cases Q<;>rfl,J⟩
      |bx ds=>
       rw [G]at l;simp[A1]at l;subst l;obtain⟨cs',w,F⟩:=E (es':=es') g y ds G;rw[w];have:=F 0 t O (by simpa using J);exact⟨_,rfl,by simpa using this⟩
      |_=>rw[G]at l;cases l
    obtain ⟨cs',w,F⟩:=T;rw[w];simp[AX,F];exact⟨O,f⟩
 |_=>cases ho
variable{e:EV}
theorem YD{U g:AB}{d t n:Nat}{es:Fq}(h:MC g ((d,e)::U))(j:d≠t):MC (g.ww t i n es) ((d,e)::U.ww t i n es):=by
 have v:g.get t=U.get t:=by rw[h.1,AB.d4,ae j]
 have f:∀u:EV,(∀c,EV.wL c u=true)->MC ((t,u)::g) ((d,e)::(t,u)::U):=by
  intro u l;refine⟨fun m=>?_,fun c=>?_⟩
  .rw[AB.d4,h.1,AB.d4,AB.d4,AB.d4]
   grind
  .rw[AB.ea,h.2,AB.ea,AB.ea,AB.ea,l];cases EV.wL c e<;>rfl
 cases i with
 |none=>exact f _ fun c=>rfl|some k=>
  simp [AB.ww,v];split
  .exact f _ fun c=>rfl
  .exact h
theorem qZ(f:x8 D p q=true)(h:D6 (AR P) K (p::q::rs) U):D6 (AR P) K (q::p::rs) U:=by
 unfold x8 at f;split at f
 .rename_i x v Z d A B hd I J;simp[Bool.not_eq_true',decide_eq_false_iff_not]at f;obtain⟨⟨⟨_,ho⟩,C⟩,E⟩:=f;obtain⟨z,F,h⟩:=h;simp[PR.wp,I,J,AB.put]at h;obtain⟨e,⟨G,j,l⟩,Q,R,H⟩:=m7 ho h;have w:∀(y:AF),d∉y.sl->y.ev G=y.ev z:=by
   intro y hy;cases y with
   |c t=>rfl|s m=>
    simp [AF.ev,j.1,AB.d4]
    grind [AF.sl]
  refine ⟨z,F,?_⟩;simp[PR.wp,B,hd,A,AE.wp,w x C,w v E]at l|-;split at l
  .rename_i t i c hx;split at l
   .rename_i n es u L M;obtain⟨T,V,es',W,X,Y,hK⟩:=l;have g:d≠t:=by
     intro g;have B:G.get t=e:=by rw[j.1,AB.d4,a6 g]
     cases i with
     |none=>
      grind [AB.tl]
     |some k=>
      grind [AB.tl]
    have O:z.tl t i=some (n,es):=by
     have B:G.get t=z.get t:=by rw[j.1,AB.d4,ae g]
     grind [AB.wR]
    rw [O,M];refine⟨T,V,es',W,X,Y,_,.refl _,?_⟩
    grind [PR.wp,AB.put,GH,YD]
   .exact l.elim
  .exact l.elim
 .cases f
end
end Go.Sf
