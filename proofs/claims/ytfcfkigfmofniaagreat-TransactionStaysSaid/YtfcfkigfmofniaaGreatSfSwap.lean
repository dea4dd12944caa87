/- Two operations of a region that may change places. -/
import Derived.Test.YtfcfkigfmofniaaGreatSfFrame
set_option linter.all false
namespace Go.Sf
open Go.RowKit (Below)
theorem AB.ei(d k:Nat)(e:EV)(O:AB):AB.gt d ((k,e)::O)=(e.yz d&&AB.gt d O):=rfl
variable{d:Nat}{e:EV}
theorem UH(h:∀s,e.yc=some s->s≠d):e.yz d=true:=by grind[EV.yz]
theorem A7.gt(f:A7)(O:AB)(d:Nat):AB.gt d (f.app O)=AB.gt d O:=by
 cases f with
 |none=>rfl|slot s t=>simp[A7.app,AB.ei,EV.yz,EV.yc]|cell s c t=>
  grind [A7.app,AB.ei,EV.yz,EV.yc]
def A7.on(f:A7)(n:Nat)(e:EV):EV:=
 match f with
 |.none=>e|.slot s t=>if s=n then .tv t else e|.cell s off t=>if s=n then(match e with|.bx cs=>.bx (cs.set off ⟨false,t⟩)|e=>e)else e
theorem A7.get(f:A7)(O:AB)(n:Nat):AB.get (f.app O) n=f.on n (O.get n):=by
 cases f with
 |none=>rfl|slot s t=>simp[A7.app,AB.d6,A7.on]|cell s c t=>
  simp [A7.app,A7.on]
  grind [AB.d6]
def M0(O env2:AB):Prop:=(∀n,O.get n=env2.get n)/\∀d,O.gt d=env2.gt d
theorem M0.refl(O:AB):M0 O O:=⟨fun _=>rfl,fun _=>rfl⟩
theorem M0.trans{a b c:AB}(h:M0 a b)(f:M0 b c):M0 a c:=⟨fun n=>(h.1 n).trans (f.1 n),fun d=>(h.2 d).trans (f.2 d)⟩
variable{a b:AB}
theorem M0.symm(h:M0 a b):M0 b a:=⟨fun n=>(h.1 n).symm,fun d=>(h.2 d).symm⟩
variable{w:World}
theorem Bg.congr{F0:Nat->Nat->Prop}{w0:W0}{O env2:AB}{a:Act}(h:Bg F0 w0 O a w)(he:∀n,O.get n=env2.get n):Bg F0 w0 env2 a w:=by
 obtain ⟨G,h⟩:=h;refine⟨G,h.ns,h.lt,h.below,h.defers,fun q c=>?_,fun q c=>?_,fun q=>?_⟩
 .rw[<-he];exact h.dom q c
 .rw[<-he];refine AL.kept (P1 _ _) (fun _=>rfl) (fun _ _ _ _=>rfl) rfl BA.rfl' (fun r i k j⟨p,f⟩=>⟨⟨p,(AB.y4 (he r)).trans f⟩,fun _ hv=>hv⟩) (fun r l j⟨cs,g⟩=>⟨⟨cs,by rw[he];exact g⟩,rfl⟩) (fun r i j⟨p,f⟩=>⟨⟨p,(AB.yx (he r)).trans f⟩,fun _ hv=>hv⟩) (h.slots q c)
 .rw[<-he];exact h.wf q
def Ej(S:FuncId->Fq->Al->Prop)(K:AB->Prop):List PR->AB->Prop
 |[],O=>∃e,M0 e O/\K e|r::rs,O=>∃e,M0 e O/\r.wp S e (Ej S K rs)
section
variable{S:FuncId->Fq->Al->Prop}{K:AB->Prop}
variable{rs:List PR}
theorem He{O env2:AB}(h:Ej S K rs O)(he:M0 O env2):Ej S K rs env2:=by
 cases rs with
 |nil=>obtain⟨e,c,f⟩:=h;exact⟨e,c.trans he,f⟩
 |cons r rs=>obtain⟨e,c,f⟩:=h;exact⟨e,c.trans he,f⟩
theorem j5:∀{rs:List PR}{O:AB},wpOps S K rs O->Ej S K rs O
 |[],O,h=>⟨O,.refl _,h⟩|r::rs,O,h=>⟨O,.refl _,PR.og S O (fun e he=>j5 he) r h⟩
def PR.zA(r:PR):QQ:=
 match r.guard with
 |some (g,_)=>[g]|none=>[]
structure PH(S:FuncId->Fq->Al->Prop)(r:PR)(d:Nat)(O o3:AB)(e:EV)(f:A7):Prop where
 o3:o3=(d,e)::f.app O
 ok:f.ok O
 slot:∀s t,f=.slot s t->s∈r.op.dem
 cell:∀s off t,f=.cell s off t->(s∈r.op.slots\/∃x∈r.op.slots,(O.get x).yc=some s)
 yc:∀s,e.yc=some s->(s∈r.op.zT\/∃x∈r.op.slots,(O.get x).yc=some s)
 new:r.op.wi=true->e.yc=none/\O.gt d=true
 xl:∀s off t,f=.cell s off t->t.zt=false
 again:∀env2,D0 r.op f (some d) O env2->(∀g∈r.zA,env2.get g=O.get g)->∀K2:AB->Prop,K2 ((d,e)::f.app env2)->r.wp S env2 K2
variable{r:PR}{d:Nat}{O:AB}
theorem PO(hd:r.dst=some d)(C:r.op.mov=true)(I:r.op.wi=true->r.guard=none)(h:r.wp S O K):r.wp S O fun o3=>K o3/\∃e f,PH S r d O o3 e f:=by
 have B:∀(m:∀env2,(∀g∈r.zA,env2.get g=O.get g)->∀u:AB->Prop,(r.op.wp S env2 (some d) fun e env'=>u (env'.put (some d) e))->r.wp S env2 u),(r.op.wp S O (some d) fun e env'=>K (env'.put (some d) e))->r.op.wp S O (some d) fun e env'=>K (env'.put (some d) e)/\∃E f,PH S r d O (env'.put (some d) e) E f:=by
  intro m G;refine AD.og S O (some d) (fun e env' he=>?_) r.op (frame C G);obtain⟨H,f,c⟩:=he;refine⟨H,e,f,?_,c.ok,c.slot,c.cell,c.yc,fun v=>⟨(c.new v).1,(c.new v).2 d rfl⟩,c.xl,fun env2 F k u j=>?_⟩
  .simp[AB.put];rw[c.env']
  .exact m env2 k u (c.again env2 F _ j)
 unfold PR.wp at h|-;cases l:r.guard with
 |none=>
  grind [PR.wp]
 |some gb=>
  obtain ⟨g,b⟩:=gb;rw[l]at h;rw[hd]at h|-;simp only at h|-;have k:g∈r.zA:=by simp[PR.zA,l]
  split at h
  .rename_i q A;refine⟨fun y=>B (fun env2 c u j=>?_) (h.1 y),fun y=>⟨h.2 y,.sk,.none,rfl,trivial,by simp,by simp,(fun s he=>by cases he),fun v=>?_,by simp,fun env2 _ c u j=>?_⟩⟩
   .grind[PR.wp]
   .grind
   .unfold PR.wp;rw[l,hd];simp only;rw[c g k,A];exact⟨fun z=>by subst z;cases q<;>simp at y,fun _=>j⟩
  .rename_i A;refine⟨h,.sk,.none,rfl,trivial,by simp,by simp,(fun s he=>by cases he),fun v=>?_,by simp,fun env2 _ c u j=>?_⟩
   .grind
   .unfold PR.wp;rw[l,hd];simp only;rw[c g k,A];exact j
  .exact h.elim
end
section
variable{P:Program}{F0:Nat->Nat->Prop}{w0:W0}{N:Nat}{ops:Array Oper}{K:AB->Prop}
def L0(F0:Nat->Nat->Prop)(w0:W0)(N:Nat)(O:AB):Prop:=∃a w,a.tmps.size=N/\Bg F0 w0 O a w
theorem L0.congr{O env2:AB}(h:L0 F0 w0 N O)(he:M0 O env2):L0 F0 w0 N env2:=by
 obtain ⟨a,w,c,f⟩:=h;exact⟨a,w,c,f.congr he.1⟩
variable{O:AB}{s:Nat}{t:TV}
theorem L0.list(h:L0 F0 w0 N O)(c:O.get s=.ow t):∃n es,t=.list n es:=by
 obtain ⟨a,w,_,G,f⟩:=h;have:=AZ f c (by simp);simp[AL]at this;cases t<;>simp[Bl]at this;exact⟨_,_,rfl⟩
variable{o:Oper}{w:World}
theorem fy{a:Act}{X:Prop}(h:o.wp P a w (fun _ _=>X) (fun _ _ _=>False)):X:=by
 unfold Oper.wp at h;generalize (execOp a.eval o).run P w=r at h;cases r with
 |ok n w'=>
  cases n with
  |value v=>exact h|skip=>exact h|defer d=>exact h|enter f args=>
   rw [Oper.upon_enter]at h;obtain⟨e,j,fr,g,_⟩:=h [];cases e with
   |returned v=>exact g|panicked c=>exact g.elim|outgrown=>obtain⟨_,_,k⟩:=g;exact k.elim
  |row r args=>
   rw [Oper.upon_row]at h;obtain⟨v,j,g,_⟩:=h default [];exact g
  |_=>exact h.elim
 |halt x w'=>
  cases x<;>exact h.elim
variable{r:PR}
theorem FN(f:L0 F0 w0 N O)(c:L5 P N ops o r=true)(h:r.wp (AX P) O K):∃env',K env'/\L0 F0 w0 N env':=by
 obtain ⟨a,w,l,m⟩:=f;have:=Vf (p:=none) (next:=fun _ _=>∃env',K env'/\L0 F0 w0 N env') (Q:=fun _ _ _=>False) m ⟨l,by simp⟩ (by simp) c h fun env' a' w' g j k=>⟨env',g,a',w',j.size,k⟩;split at this
 .exact fy this
 .exact this
end
def EW(xs ys:QQ):Bool:=xs.all fun x=>!ys.contains x
variable{x:Nat}
theorem An{xs ys:QQ}(h:EW xs ys=true)(c:x∈xs)(f:x∈ys):False:=by grind[EW,List.all_eq_true,Bool.not_eq_true']
def PR.old(r:PR):QQ:=
 if r.op.wi then[]else r.dst.toList
def PR.yo(D:QQ)(r:PR):Bool:=
 r.op.mov&&r.dst.isSome&&(!r.op.wi||r.guard.isNone)&&EW r.op.zT D&&r.old.all D.contains
def Wj(D:QQ)(p q:PR):Bool:=
 PR.yo D p&&PR.yo D q&&EW p.dst.toList (q.dst.toList++(q.op.slots++q.zA))&&EW q.dst.toList (p.op.slots++p.zA)&&EW p.op.dem (q.op.dem++q.zA)&&EW q.op.dem p.zA
variable{s:Nat}
theorem CD{op:AD}(h:s∈op.dem):s∈op.slots:=by
 cases op<;>simp only[AD.dem,List.not_mem_nil]at h<;>simp only[AD.slots]
 .exact h
 .exact DH h
theorem d8{op:AD}(h:s∈op.zT):s∈op.slots:=by
 cases op<;>simp[AD.zT]at h<;>simp[AD.slots]
 all_goals exact h
def JD(D:QQ)(O:AB):Prop:=∀d∈D,O.gt d=true
theorem JD.congr{D:QQ}{O env2:AB}(h:JD D O)(he:M0 O env2):JD D env2:=fun d hd=>by rw[<-he.2];exact h d hd
variable{O:AB}
theorem JD.no{D:QQ}(h:JD D O)(c:(O.get x).yc=some s):s∉D:=fun hd=>AB.yh s O (h s hd) x c
section
variable{S:FuncId->Fq->Al->Prop}
variable{r:PR}{d:Nat}{e:EV}
theorem PH.jd{D:QQ}{O o3:AB}{f:A7}(h:PH S r d O o3 e f)(k:EW r.op.zT D=true)(j:JD D O):JD D o3:=by
 intro x g;rw[h.o3,AB.ei,A7.gt,j x g,Bool.and_true];refine UH (fun s he c=>?_);subst c;rcases h.yc s he with l|⟨y,_,m⟩
 .exact An k l g
 .exact j.no m g
variable{O:AB}
theorem A7.like(f:A7)(c:f.ok O)(h:∀s t,O.get s=.ow t->∃n es,t=.list n es)(k:∀s g t,f=.cell s g t->t.zt=false)(n:Nat):(O.get n).like (f.on n (O.get n)):=by
 cases f with
 |none=>exact .inl rfl|slot s t=>
  simp [A7.on];split
  .rename_i e;subst e;simp[A7.ok]at c;obtain⟨m,es,rfl⟩:=h s t c;exact .inr (.inl ⟨m,es,.inr ⟨c,rfl⟩⟩)
  .exact .inl rfl
 |cell s g t=>
  simp [A7.on];split
  .rename_i e;subst e;obtain⟨cs,j,l⟩:=c;rw[j];refine .inr (.inr ⟨cs,_,rfl,rfl,?_⟩);rw[List.map_set];refine List.ext_getElem? fun i=>?_
   grind [c8,List.getElem?_eq_some_iff,AR.key]
  .exact .inl rfl
end
variable{r:PR}{O:AB}
theorem SV{S:FuncId->Fq->Al->Prop}{K:AB->Prop}(h:r.wp S O K):∀g∈r.zA,∃b,O.get g=b/\(∀cs,b≠.bx cs)/\(∀t,b≠.ow t)/\∀cs,b≠.yr cs:=by grind[PR.zA,PR.wp,List.mem_singleton]
section
variable{P:Program}{F0:Nat->Nat->Prop}{w0:W0}{N:Nat}{ops:Array Oper}{K:AB->Prop}{D:QQ}
variable{O:AB}{p q:PR}{rs:List PR}
theorem swap(hR:L0 F0 w0 N O)(hj:JD D O){op oq:Oper}(hp:L5 P N ops op p=true)(hq:L5 P N ops oq q=true)(T:Wj D p q=true)(h:Ej (AX P) K (p::q::rs) O):Ej (AX P) K (q::p::rs) O:=by
 simp [Wj,PR.yo,Bool.not_eq_true']at T;obtain⟨⟨⟨⟨⟨⟨⟨⟨⟨pm,pd⟩,pg⟩,pb⟩,pD⟩,⟨⟨⟨qm,qd⟩,qg⟩,qb⟩,qD⟩,c1⟩,c2⟩,c3⟩,c4⟩:=T;obtain⟨F,hdp⟩:=Option.isSome_iff_exists.1 pd;obtain⟨C,hdq⟩:=Option.isSome_iff_exists.1 qd;rw[hdp]at c1;rw[hdq]at c1 c2;simp at c1 c2;have hpq:F≠C:=fun e=>An c1 (x:=F) (by simp) (by simp[e]);have H:F∉q.op.slots:=fun e=>An c1 (x:=F) (by simp) (by simp[e]);have pngq:F∉q.zA:=fun e=>An c1 (x:=F) (by simp) (by simp[e]);have Q:C∉p.op.slots:=fun e=>An c2 (x:=C) (by simp) (by simp[e]);have qngp:C∉p.zA:=fun e=>An c2 (x:=C) (by simp) (by simp[e]);have dd:∀s,s∈p.op.dem->s∈q.op.dem->False:=fun s c l=>An c3 c (DH l);have dg1:∀s,s∈p.op.dem->s∈q.zA->False:=fun s c l=>An c3 c (Dq l);have dg2:∀s,s∈q.op.dem->s∈p.zA->False:=fun s c l=>An c4 c l;have oldp:p.op.wi=true\/F∈D:=by
  cases E:p.op.wi with
  |true=>exact .inl rfl|false=>exact .inr (by simpa[PR.old,E,hdp]using pD)
 have oldq:q.op.wi=true\/C∈D:=by
  cases E:q.op.wi with
  |true=>exact .inl rfl|false=>exact .inr (by simpa[PR.old,E,hdq]using qD)
 have pg':p.op.wi=true->p.guard=none:=fun E=>by
  rcases pg with h|h
  .rw[E]at h;cases h
  .simpa using h
 have qg':q.op.wi=true->q.guard=none:=fun E=>by
  rcases qg with h|h
  .rw[E]at h;cases h
  .simpa using h
 obtain ⟨L,heq,h⟩:=h;have hR':=hR.congr heq.symm;have hj':=hj.congr heq.symm;obtain⟨o3,⟨⟨J,B,hw⟩,ep,R,z⟩,hR1⟩:=FN hR' hp (PO hdp pm pg' h);have hRe1:=hR1.congr B.symm;have hj1:=z.jd pb hj';have hje1:=hj1.congr B.symm;obtain⟨X1,⟨hK,eq,G,M⟩,_⟩:=FN hRe1 hq (PO hdq qm qg' hw);have Y:∀n,J.get n=if F=n then ep else R.on n (L.get n):=fun n=>by
  rw [B.1,z.o3,AB.d6,A7.get]
 have U:∀x s,(J.get x).yc=some s->s≠F:=by
  intro x s hx A;subst A;rcases oldp with E|hd
  .refine AB.yh s J ?_ x hx;rw[B.2,z.o3,AB.ei,A7.gt,(z.new E).2,Bool.and_true];exact UH (fun s he _=>by rw[(z.new E).1]at he;cases he)
  .exact hje1.no hx hd
 have nq':∀x s,(L.get x).yc=some s->s≠C:=by
  intro x s hx A;subst A;rcases oldq with E|hd
  .have c:=(M.new E).2;rw[B.2,z.o3,AB.ei,A7.gt,sr]at c;exact AB.yh s L c.2 x hx
  .exact hj'.no hx hd
 have lk:∀n,n≠F->(J.get n).like (L.get n):=by
  intro n E;rw[Y,az (fun e=>E e.symm)];exact(A7.like R z.ok (fun s t A=>hR'.list A) z.xl n).symm
 have fpdq:∀e,R.on C e=e:=by
  intro e;have:=z.slot;have l:=z.cell;cases R with
  |none=>rfl|slot s t=>
   simp only[A7.on];rw[az];intro he;subst he;exact Q (CD (this _ _ rfl))
  |cell s j t=>
   simp only[A7.on];rw[az];intro he;subst he;rcases l _ _ _ rfl with m|⟨x,_,I⟩
   .exact Q m
   .exact nq' x _ I rfl
 have V:∀e,G.on F e=e:=by
  intro e;have:=M.slot;have l:=M.cell;cases G with
  |none=>rfl|slot s t=>
   simp only[A7.on];rw[az];intro he;subst he;exact H (CD (this _ _ rfl))
  |cell s j t=>
   simp only[A7.on];rw[az];intro he;subst he;rcases l _ _ _ rfl with m|⟨x,_,I⟩
   .exact H m
   .exact U x _ I rfl
 have v:G.ok L:=by
  have k:=M.ok;have hsl:=M.slot;have hc:=V;cases G with
  |none=>trivial|slot s t=>
   simp [A7.ok]at k|-;have A:=hsl s t rfl;have f:F≠s:=fun e=>H (e▸CD A);rw[Y,az f]at k;have c:=z.slot;have l:=z.ok;cases R with
   |none=>exact k|slot s' y=>
    simp [A7.on]at k;rw[az (fun(e:s'=s)=>dd s' (c _ _ rfl) (by rw[e];exact A))]at k;exact k
   |cell s' j y=>
    simp [A7.on]at k;split at k
    .rename_i e;subst e;obtain⟨cs,m,_⟩:=l;rw[m]at k;cases k
    .exact k
  |cell s j t=>
   obtain ⟨cs,c,l⟩:=k;have f:F≠s:=fun e=>by
    have:=hc (.bx [⟨true,.undef⟩,⟨true,.undef⟩]);rcases M.cell s j t rfl with m|⟨x,_,I⟩
    .exact H (e▸m)
    .exact U x s I e.symm
   rw [Y,az f]at c;have m:=z.ok;cases R with
   |none=>exact⟨cs,c,l⟩|slot s' y=>
    simp [A7.on]at c;split at c
    .cases c
    .exact⟨cs,c,l⟩
   |cell s' u y=>
    simp [A7.on]at c;split at c
    .rename_i e;subst e;obtain⟨cs',I,h5⟩:=m;rw[I]at c;simp[EV.bx.injEq]at c;subst c;rw[List.getElem?_set]at l;split at l
     .split at l
      .simp at l
      .cases l
     .exact⟨cs',I,l⟩
    .exact⟨cs,c,l⟩
 have L1:D0 q.op G (some C) J L:=by
  refine ⟨fun s A=>lk s (fun e=>H (e▸A)),fun s A r hb=>lk r (U s r hb),fun s A hnb=>?_,v,fun E d hd X=>?_⟩
  .have f:F≠s:=fun e=>H (e▸CD A);rw[Y,az f];have c:=z.slot;have l:=z.ok;cases R with
   |none=>rfl|slot s' y=>
    simp only[A7.on];rw[az (fun(e:s'=s)=>dd s' (c _ _ rfl) (by rw[e];exact A))]
   |cell s' j y=>
    simp only[A7.on];split
    .rename_i e;subst e;obtain⟨cs,m,_⟩:=l;exfalso;refine hnb (cs.set j ⟨false,y⟩) ?_;rw[Y,az f];simp[A7.on,m]
    .rfl
  .rw[B.2,z.o3,AB.ei,A7.gt,sr]at X;exact X.2
 have hgq:∀g∈q.zA,L.get g=J.get g:=by
  intro g hg;have f:F≠g:=fun e=>pngq (e▸hg);obtain⟨b,hb,hnx,_⟩:=SV hw g hg;have W:=hb;rw[Y,az f]at W;rw[Y,az f];have c:=z.slot;have l:=z.ok;cases R with
  |none=>rfl|slot s' y=>
   simp only[A7.on];rw[az (fun(e:s'=g)=>dg1 s' (c _ _ rfl) (by rw[e];exact hg))]
  |cell s' j y=>
   simp only[A7.on]at W|-;split
   .rename_i e;subst e;obtain⟨cs,m,_⟩:=l;rw[m]at W;simp at W;exact absurd W.symm (hnx _)
   .rfl
 have hgp:∀g∈p.zA,AB.get ((C,eq)::G.app L) g=L.get g:=by
  intro g hg;have f:C≠g:=fun e=>qngp (e▸hg);obtain⟨b,hb,hnx,_⟩:=SV h g hg;rw[AB.d6,az f,A7.get];have c:=M.slot;cases G with
  |none=>rfl|slot s' y=>
   simp only[A7.on];rw[az (fun(e:s'=g)=>dg2 s' (c _ _ rfl) (by rw[e];exact hg))]
  |cell s' j y=>
   simp only[A7.on];split
   .rename_i e;subst e;obtain⟨cs,m,_⟩:=v;rw[m]at hb;exact absurd hb.symm (hnx _)
   .rfl
 have offs:∀s j t u y,R=.cell s j t->G=.cell s u y->j≠u:=by
  intro s j t u y c l ho;subst ho;have m:=M.ok;have I:=z.ok;have h5:=V;rw[c]at I;rw[l]at m;obtain⟨cs,h6,h7⟩:=I;obtain⟨ds,h8,h9⟩:=m;have f:F≠s:=fun e=>by
   rcases M.cell s j y l with m|⟨x,_,I⟩
   .exact H (e▸m)
   .exact U x s I e.symm
  rw [Y,az f,c]at h8;simp[A7.on,h6,EV.bx.injEq]at h8;subst h8;rw[List.getElem?_set,ae rfl]at h9;split at h9
  .simp at h9
  .cases h9
 have g2:∀n,AB.get ((C,eq)::G.app L) n=if C=n then eq else G.on n (L.get n):=fun n=>by
  rw [AB.d6,A7.get]
 have lk2:∀n,n≠C->(L.get n).like (AB.get ((C,eq)::G.app L) n):=by
  intro n E;rw[g2,az (fun e=>E e.symm)];exact A7.like G v (fun s t A=>hR'.list A) M.xl n
 have L2:D0 p.op R (some F) L ((C,eq)::G.app L):=by
  refine ⟨fun s A=>lk2 s (fun e=>Q (e▸A)),fun s A r hb=>lk2 r (nq' s r hb),fun s A hnb=>?_,?_,fun E d hd X=>?_⟩
  .have f:C≠s:=fun e=>Q (e▸CD A);rw[g2,az f];have c:=M.slot;cases G with
   |none=>rfl|slot s' y=>
    simp only[A7.on];rw[az (fun(e:s'=s)=>dd s' (by rw[e];exact A) (c _ _ rfl))]
   |cell s' j y=>
    simp only[A7.on];split
    .rename_i e;subst e;obtain⟨cs,m,_⟩:=v;exact absurd m (hnb cs)
    .rfl
  .have k:=z.ok;have hsl:=z.slot;have hcl:=z.cell;cases R with
   |none=>trivial|slot s t=>
    simp [A7.ok]at k|-;have A:=hsl s t rfl;have f:C≠s:=fun e=>Q (e▸CD A);rw[g2,az f];have c:=M.slot;cases G with
    |none=>exact k|slot s' y=>
     simp [A7.on];rw[az (fun(e:s'=s)=>dd s' (by rw[e];exact A) (c _ _ rfl))];exact k
    |cell s' j y=>
     simp [A7.on];split
     .rename_i e;subst e;obtain⟨cs,m,_⟩:=v;rw[m]at k;cases k
     .exact k
   |cell s j t=>
    obtain ⟨cs,c,l⟩:=k;have f:C≠s:=fun e=>by
     rcases hcl s j t rfl with m|⟨x,_,I⟩
     .exact Q (e▸m)
     .exact nq' x s I e.symm
    simp [A7.ok];rw[g2,az f];have m:=v;cases G with
    |none=>exact⟨cs,c,l⟩|slot s' y=>
     simp [A7.on];split
     .rename_i e;subst e;simp[A7.ok]at m;rw[m]at c;cases c
     .exact⟨cs,c,l⟩
    |cell s' u y=>
     simp [A7.on];split
     .rename_i e;subst e;rw[c];have:=offs s' j t u y rfl rfl;refine⟨_,rfl,?_⟩;rw[List.getElem?_set,az (fun e=>this e.symm)];exact l
     .exact⟨cs,c,l⟩
  .simp at hd;subst hd;rw[AB.ei,A7.gt,X,Bool.and_true];refine UH (fun s he=>?_);rcases M.yc s he with c|⟨x,_,l⟩
   .exact fun e=>H (e▸d8 c)
   .exact U x s l
 refine ⟨L,heq,M.again L L1 hgq _ ⟨_,.refl _,z.again _ L2 hgp _ (He hK ?_)⟩⟩;rw[M.o3];refine⟨fun n=>?_,fun d=>?_⟩
 .rw[AB.d6,A7.get,Y,AB.d6,A7.get,g2];by_cases c:C=n
  .subst c;rw[ae rfl,az hpq,ae rfl,fpdq]
  .rw[az c,az c];by_cases l:F=n
   .subst l;rw[ae rfl,ae rfl,V]
   .rw[az l,az l];have m:=z.ok;have I:=z.slot;have h5:=M.slot;cases R with
    |none=>rfl|slot s t=>
     cases G with
     |none=>rfl|slot s' y=>
      have f:s≠s':=fun e=>dd s (I _ _ rfl) (e▸h5 _ _ rfl);simp[A7.on];by_cases J:s=n<;>by_cases Z:s'=n<;>simp[J,Z];exact absurd (J.trans Z.symm) f
     |cell s' u y=>
      have f:s≠s':=fun e=>by
       obtain ⟨cs,h6,_⟩:=v;simp[A7.ok]at m;rw[<-e,m]at h6;cases h6
      simp [A7.on];by_cases J:s=n<;>by_cases Z:s'=n<;>simp[J,Z]
    |cell s j t=>
     cases G with
     |none=>rfl|slot s' y=>
      have f:s≠s':=fun e=>by
       obtain ⟨cs,h6,_⟩:=m;simp[A7.ok]at v;rw[e,v]at h6;cases h6
      simp [A7.on];by_cases J:s=n<;>by_cases Z:s'=n<;>simp[J,Z]
     |cell s' u y=>
      obtain ⟨cs,h6,_⟩:=m;simp[A7.on];by_cases J:s=n
      .by_cases Z:s'=n
       .subst J;subst Z;have:=offs s' j t u y rfl rfl;simp[h6];rw[List.set_comm _ _ this]
       .simp[J,Z]
      .simp[J]
 .rw[AB.ei,A7.gt,B.2,z.o3,AB.ei,A7.gt,AB.ei,A7.gt,AB.ei,A7.gt];cases EV.yz d eq<;>cases EV.yz d ep<;>rfl
end
end Go.Sf
namespace Go.Sf
open Go.RowKit (Below)
def zH(D:QQ)(p q:PR):Bool:=
 match q.op,q.guard,q.dst with
 |.stb _ b v,none,none=>PR.yo D p&&D.contains b&&EW p.dst.toList (b::v.sl)&&EW [b] (p.op.slots++p.zA)&&EW p.op.dem v.sl|.stx _ b s,none,none=>PR.yo D p&&D.contains b&&EW p.dst.toList (b::[s])&&EW [b] (p.op.slots++p.zA)&&EW p.op.dem [s]&&EW [s] p.op.slots&&D.contains s|_,_,_=>false
def OQ(b:Nat)(cs:List AR)(q:Option (Nat×EV))(O:AB):AB:=
 (b,.bx cs)::(match q with|some (s,t)=>(s,t)::O|none=>O)
theorem Ei(b:Nat)(cs:List AR)(q:Option (Nat×EV))(O:AB)(n:Nat):AB.get (OQ b cs q O) n=if b=n then .bx cs else(match q with|some (s,t)=>if s=n then t else O.get n|none=>O.get n):=by
 cases q with
 |none=>rfl|some st=>rfl
theorem FT(b:Nat)(cs:List AR)(q:Option (Nat×EV))(O:AB)(d:Nat)(h:∀s e,q=some (s,e)->e.yz d=true):AB.gt d (OQ b cs q O)=AB.gt d O:=by
 cases q with
 |none=>simp[OQ,AB.ei,EV.yz,EV.yc]|some p=>
  obtain ⟨s,e⟩:=p;have c:=h s e rfl;simp[OQ,AB.ei,c];simp[EV.yz,EV.yc]
structure p9(S:FuncId->Fq->Al->Prop)(q:PR)(b:Nat)(v:AE)(O o3:AB)(cs cs':List AR)(o:Option (Nat×EV)):Prop where
 o3:o3=OQ b cs' o O
 box:O.get b=.bx cs
 own:∀s e,o=some (s,e)->v=.s s/\((∃t,e=.tv t/\O.get s=.ow t)\/(e=.undef/\(∃ds,O.get s=.yr ds)/\∃n,q.op=.stx n b s))/\s≠b
 val:∀cs,v.ev O≠.bx cs
 again:∀env2,env2.gt b=true->env2.get b=.bx cs->v.ev env2=v.ev O->∀K2:AB->Prop,K2 (OQ b cs' o env2)->q.wp S env2 K2
variable{q:PR}{O:AB}
theorem rC{S:FuncId->Fq->Al->Prop}{K:AB->Prop}{n b:Nat}{v:AE}(f:q.op=.stb n b v\/∃s,v=.s s/\q.op=.stx n b s)(k:q.guard=none)(hd:q.dst=none)(h:q.wp S O K):∃o3,K o3/\∃cs cs' o,p9 S q b v O o3 cs cs' o:=by
 rcases f with f|⟨s,rfl,f⟩
 .unfold PR.wp at h;rw[k,f,hd]at h;simp only[AD.wp]at h;split at h
  .rename_i cs m;split at h
   .rename_i t hv;cases v with
    |c t=>exact h.elim|s z=>
     simp only at h;simp[AE.ev]at hv;refine⟨_,h.2.2.2,cs,_,some (z,.tv t),rfl,m,?_,?_,fun env2 u l j y g=>?_⟩
     .grind
     .grind[AE.ev]
     .simp[AE.ev]at j;unfold PR.wp;rw[k,f,hd];simp[AD.wp,l,AE.ev,j,hv];exact⟨h.1,h.2.1,h.2.2.1,g⟩
   .rename_i t hv;refine⟨_,h.2.2,cs,_,none,rfl,m,by simp,by simp[hv],fun env2 u l j y g=>?_⟩;unfold PR.wp;rw[k,f,hd];simp only[AD.wp,l,j,hv];exact⟨h.1,h.2.1,g⟩
   .exact h.elim
  .exact h.elim
 .unfold PR.wp at h;rw[k,f,hd]at h;simp only[AD.wp]at h;split at h
  .rename_i cs ds m hv;refine⟨_,h.2.2.2,cs,_,some (s,.undef),rfl,m,?_,by simp[AE.ev,hv],fun env2 u l j y g=>?_⟩
   .grind
   .simp[AE.ev]at j;unfold PR.wp;rw[k,f,hd];simp only[AD.wp,l,j,hv];exact⟨h.1,⟨h.2.1.1,by rw[AB.noX_ref u,Bool.or_true]⟩,h.2.2.1,g⟩
  .exact h.elim
section
variable{P:Program}{F0:Nat->Nat->Prop}{w0:W0}{N:Nat}{ops:Array Oper}{K:AB->Prop}{D:QQ}
variable{O:AB}{p q:PR}{rs:List PR}
theorem pw(hR:L0 F0 w0 N O)(hj:JD D O){op:Oper}(hp:L5 P N ops op p=true)(f:zH D p q=true)(h:Ej (AX P) K (p::q::rs) O):Ej (AX P) K (q::p::rs) O:=by
 have key:∃n b v,(q.op=.stb n b v\/∃s,v=.s s/\q.op=.stx n b s)/\q.guard=none/\q.dst=none/\(((((PR.yo D p=true/\D.contains b=true)/\EW p.dst.toList (b::v.sl)=true)/\EW [b] (p.op.slots++p.zA)=true)/\EW p.op.dem v.sl=true)/\(∀n s,q.op=.stx n b s->EW [s] p.op.slots=true/\D.contains s=true)):=by
  unfold zH at f;split at f
  .grind
  .rename_i n b s R Y hd;simp only[sr]at f;refine⟨n,b,.s s,.inr ⟨s,rfl,R⟩,Y,hd,f.1.1,fun n' s' h=>?_⟩
   grind
  .cases f
 clear f;obtain⟨n,b,v,R,Y,hd,f,hstx⟩:=key
 .simp[PR.yo,Bool.not_eq_true']at f;obtain⟨⟨⟨⟨⟨⟨⟨⟨pm,pd⟩,pg⟩,pb⟩,pD⟩,Z⟩,c1⟩,c2⟩,c3⟩:=f;obtain⟨H,hdp⟩:=Option.isSome_iff_exists.1 pd;rw[hdp]at c1;simp at c1;have Z:b∈D:=by simpa using Z
  have hpb:H≠b:=fun e=>An c1 (x:=H) (by simp) (by simp[e]);have pnv:H∉v.sl:=fun e=>An c1 (x:=H) (by simp) (by simp[e]);have z:b∉p.op.slots:=fun e=>An c2 (x:=b) (by simp) (DH e);have bng:b∉p.zA:=fun e=>An c2 (x:=b) (by simp) (Dq e);have dv:∀s,s∈p.op.dem->s∈v.sl->False:=fun s l j=>An c3 l j;have pg':p.op.wi=true->p.guard=none:=fun hn=>by
   rcases pg with h|h
   .rw[hn]at h;cases h
   .simpa using h
  obtain ⟨y,U,h⟩:=h;have hR':=hR.congr U.symm;have A:=hj.congr U.symm;obtain⟨o3,⟨⟨e1,J,hw⟩,ep,V,C⟩,hR1⟩:=FN hR' hp (PO hdp pm pg' h);have hj1:=C.jd pb A;have g1:∀n,e1.get n=if H=n then ep else V.on n (y.get n):=fun n=>by
   rw [J.1,C.o3,AB.d6,A7.get]
  have T:∀e,V.on b e=e:=by
   intro e;have:=C.slot;have j:=C.cell;cases V with
   |none=>rfl|slot s t=>
    simp only[A7.on];rw[az];intro he;subst he;exact z (CD (this _ _ rfl))
   |cell s W t=>
    simp only[A7.on];rw[az];intro he;subst he;rcases j _ _ _ rfl with B|⟨x,_,G⟩
    .exact z B
    .exact A.no G Z
  have gb:e1.get b=y.get b:=by rw[g1,az hpb,T]
  obtain ⟨X1,hK,cs,cs',o,Fs⟩:=rC R Y hd hw;have hbox:y.get b=.bx cs:=by rw[<-gb];exact Fs.box
  have hv:v.ev y=v.ev e1:=by
   cases v with
   |c t=>rfl|s m=>
    have hm:H≠m:=fun e=>pnv (by simp[AE.sl,e]);simp[AE.ev];have u:=Fs.val;simp[AE.ev]at u;rw[g1,az hm]at u|-;have l:=C.slot;have j:=C.ok;cases V with
    |none=>rfl|slot s t=>
     simp only[A7.on];rw[az (fun(e:s=m)=>dv s (l _ _ rfl) (by simp[AE.sl,e]))]
    |cell s W t=>
     simp only[A7.on]at u|-;split
     .rename_i e;subst e;obtain⟨ds,B,_⟩:=j;rw[ae rfl,B]at u;exact absurd rfl (u _)
     .rfl
  have k:∀s e,o=some (s,e)->((∃t,e=.tv t/\y.get s=.ow t)\/(e=.undef/\∃ds,y.get s=.yr ds))/\s≠b/\s∈v.sl/\s≠H:=by
   intro s t ho;obtain⟨l,j,B⟩:=Fs.own s t ho;subst l;simp[AE.ev]at hv;refine⟨?_,B,by simp[AE.sl],fun e=>pnv (by simp[AE.sl,e])⟩;rw[hv];rcases j with j|⟨j,G,_⟩
   .exact .inl j
   .exact .inr ⟨j,G⟩
  have E:∀s,o=some (s,.undef)->s∉p.op.slots/\s∈D:=by
   intro s ho;obtain⟨_,j,_⟩:=Fs.own s _ ho;rcases j with⟨t,j,_⟩|⟨_,_,n',G⟩
   .cases j
   .obtain⟨h5,h6⟩:=hstx n' s G;exact⟨fun e=>An h5 (by simp) e,by simpa using h6⟩
  have F:∀d s e,o=some (s,e)->e.yz d=true:=by
   intro d s e ho;rcases(k s e ho).1 with⟨t,rfl,_⟩|⟨rfl,_⟩<;>rfl
  have I:∀s e,o=some (s,e)->∀ds,y.get s≠.bx ds:=by
   intro s e ho ds h;rcases(k s e ho).1 with⟨t,_,j⟩|⟨_,ds',j⟩<;>rw[j]at h<;>cases h
  have g2:∀n,b≠n->(∀s t,o=some (s,t)->s≠n)->AB.get (OQ b cs' o y) n=y.get n:=by
   intro n l j;rw[Ei,az l];cases o with
   |none=>rfl|some st=>
    obtain ⟨s,t⟩:=st;simp only;rw[az (j s t rfl)]
  have lk:∀n,b≠n->o≠some (n,.undef)->(y.get n).like (AB.get (OQ b cs' o y) n):=by
   intro n l h0;rw[Ei,az l];cases o with
   |none=>exact .inl rfl|some st=>
    obtain ⟨s,t⟩:=st;simp only;split
    .rename_i e;subst e;rcases(k s t rfl).1 with⟨t,rfl,B⟩|⟨rfl,_⟩
     .obtain⟨m,es,rfl⟩:=hR'.list B;exact .inr (.inl ⟨m,es,.inr ⟨B,rfl⟩⟩)
     .exact absurd rfl h0
    .exact .inl rfl
  have L:D0 p.op V (some H) y (OQ b cs' o y):=by
   refine ⟨fun s X=>lk s (fun e=>z (e▸X)) (fun e=>(E s e).1 X),fun s X r M=>lk r (fun e=>A.no M (e▸Z)) (fun e=>A.no M (E r e).2),fun s X _=>g2 s (fun e=>z (e▸CD X)) (fun s' t ho e=>dv s X (e▸(k s' t ho).2.2.1)),?_,fun hn d hd Q=>by rw[FT _ _ _ _ _ (F d)];exact Q⟩;have l:=C.slot;have j:=C.ok;have B:=T;have G:=C.cell;cases V with
   |none=>trivial|slot s t=>
    simp [A7.ok]at j|-;rw[g2 s (fun e=>z (e▸CD (l _ _ rfl))) (fun s' t ho e=>dv s (l _ _ rfl) (e▸(k s' t ho).2.2.1))];exact j
   |cell s W t=>
    obtain ⟨ds,h5,h6⟩:=j;refine⟨ds,?_,h6⟩;rw[g2 s (fun e=>?_) (fun s' t' ho e=>?_)]
    .exact h5
    .rcases G _ _ _ rfl with h7|⟨x,_,h8⟩
     .exact z (e▸h7)
     .exact A.no h8 (e▸Z)
    .exact I s' t' ho _ (e▸h5)
  have hgp:∀g∈p.zA,AB.get (OQ b cs' o y) g=y.get g:=by
   intro g Y;obtain⟨bb,M,_,Q,hno'⟩:=SV h g Y;refine g2 g (fun e=>bng (e▸Y)) (fun s t ho e=>?_);rcases(k s t ho).1 with⟨t,_,j⟩|⟨_,ds',j⟩
   .rw[<-e,j]at M;exact absurd M.symm (Q _)
   .rw[<-e,j]at M;exact absurd M.symm (hno' _)
  refine ⟨y,U,Fs.again y (A _ Z) hbox hv _ ⟨_,.refl _,C.again _ L hgp _ (He hK ?_)⟩⟩;rw[Fs.o3];refine⟨fun n=>?_,fun d=>?_⟩
  .rw[AB.d6,A7.get,Ei,Ei];by_cases l:H=n
   .subst l;rw[az (fun e=>hpb e.symm),ae rfl];cases o with
    |none=>simp only;rw[g1,ae rfl]|some st=>
     obtain ⟨s,t⟩:=st;simp only;rw[az (k s t rfl).2.2.2,g1,ae rfl]
   .rw[az l];by_cases j:b=n
    .subst j;rw[ae rfl,ae rfl,T]
    .rw[az j,az j];cases o with
     |none=>simp only;rw[g1,az l]|some st=>
      obtain ⟨s,t⟩:=st;simp only;by_cases B:s=n
      .subst B;rw[ae rfl,ae rfl];have G:=C.slot;have h5:=C.ok;have h6:=(k s t rfl);have h6':=I s t rfl;have h6'':∀ds,t≠.bx ds:=by
        intro ds h;rcases h6.1 with⟨t,rfl,_⟩|⟨rfl,_⟩<;>cases h
       cases V with
       |none=>rfl|slot s' t'=>
        simp only[A7.on];rw[az (fun(e:s'=s)=>dv s' (G _ _ rfl) (by rw[e];exact h6.2.2.1))]
       |cell s' W t'=>
        simp only[A7.on];split
        .rename_i e;subst e;obtain⟨ds,h7,_⟩:=h5;exact absurd h7 (h6' _)
        .rfl
      .rw[az B,az B,g1,az l]
  .rw[FT _ _ _ _ _ (F d),J.2,C.o3,AB.ei,A7.gt,AB.ei,A7.gt,FT _ _ _ _ _ (F d)]
def z6(D:QQ)(p q:PR):Bool:=
 match q.op,q.guard,q.dst with
 |.tkx s,none,some d=>PR.yo D p&&D.contains s&&D.contains d&&EW p.dst.toList [s,d]&&EW [s,d] (p.op.slots++p.zA)|_,_,_=>false
variable{s d:Nat}
theorem dc{S:FuncId->Fq->Al->Prop}{K:AB->Prop}(c:q.op=.tkx s)(f:q.guard=none)(hd:q.dst=some d)(h:q.wp S O K):∃n es,O.get s=.xo n es/\O.gt d=true/\d≠s/\K ((d,.xo n es)::(s,.undef)::O):=by
 simp [PR.wp,c,f,hd,AD.wp,AB.put]at h
 grind
variable{n:Nat}
theorem de{S:FuncId->Fq->Al->Prop}{K:AB->Prop}{es:Fq}(c:q.op=.tkx s)(f:q.guard=none)(hd:q.dst=some d)(g:O.get s=.xo n es)(j:O.gt d=true)(k:d≠s)(h:K ((d,.xo n es)::(s,.undef)::O)):q.wp S O K:=by
 simp [PR.wp,c,f,hd,AD.wp,AB.put,g];exact⟨j,k,h⟩
theorem tE(hR:L0 F0 w0 N O)(hj:JD D O){op:Oper}(hp:L5 P N ops op p=true)(f:z6 D p q=true)(h:Ej (AX P) K (p::q::rs) O):Ej (AX P) K (q::p::rs) O:=by
 unfold z6 at f;split at f
 .rename_i s d Q hg hd;simp[PR.yo,Bool.not_eq_true']at f;obtain⟨⟨⟨⟨⟨⟨⟨⟨pm,pd⟩,pg⟩,pb⟩,pD⟩,H⟩,T⟩,Y⟩,Z⟩:=f;obtain⟨E,V⟩:=Option.isSome_iff_exists.1 pd;rw[V]at Y;simp at Y;have H:s∈D:=by simpa using H
  have T:d∈D:=by simpa using T
  have U:E≠s:=fun e=>An Y (x:=E) (by simp) (by simp[e]);have hpd:E≠d:=fun e=>An Y (x:=E) (by simp) (by simp[e]);have j:s∉p.op.slots:=fun e=>An Z (x:=s) (by simp) (DH e);have l:d∉p.op.slots:=fun e=>An Z (x:=d) (by simp) (DH e);have sng:s∉p.zA:=fun e=>An Z (x:=s) (by simp) (Dq e);have dng:d∉p.zA:=fun e=>An Z (x:=d) (by simp) (Dq e);have pg':p.op.wi=true->p.guard=none:=fun hn=>by
   rcases pg with h|h
   .rw[hn]at h;cases h
   .simpa using h
  obtain ⟨z,F,h⟩:=h;have hR':=hR.congr F.symm;have u:=hj.congr F.symm;obtain⟨o3,⟨⟨e1,v,hw⟩,ep,W,B⟩,hR1⟩:=FN hR' hp (PO V pm pg' h);have g1:∀n,e1.get n=if E=n then ep else W.on n (z.get n):=fun n=>by
   rw [v.1,B.o3,AB.d6,A7.get]
  have C:∀x,x∈D->x∉p.op.slots->∀e,W.on x e=e:=by
   intro x hxD R e;have:=B.slot;have k:=B.cell;cases W with
   |none=>rfl|slot s t=>
    simp only[A7.on];rw[az];intro he;subst he;exact R (CD (this _ _ rfl))
   |cell s off t=>
    simp only[A7.on];rw[az];intro he;subst he;rcases k _ _ _ rfl with J|⟨y,_,X⟩
    .exact R J
    .exact u.no X hxD
  obtain ⟨n,es,k1,k2,k3,hK⟩:=dc Q hg hd hw;rw[g1,az U,C s H j]at k1;rw[v.2,B.o3,AB.ei,A7.gt,sr]at k2;have I:∀m,m≠d->m≠s->AB.get ((d,.xo n es)::(s,.undef)::z) m=z.get m:=fun m A k=>by
   rw [AB.d6,az (fun e=>A e.symm),AB.d6,az (fun e=>k e.symm)]
  have nr:∀c,AB.gt c ((d,EV.xo n es)::(s,EV.undef)::z)=AB.gt c z:=fun c=>by
   simp [AB.ei,EV.yz,EV.yc]
  have L:D0 p.op W (some E) z ((d,.xo n es)::(s,.undef)::z):=by
   refine ⟨fun x G=>.inl (I x (fun e=>l (e▸G)) (fun e=>j (e▸G))),fun x G r hr=>.inl (I r (fun e=>u.no hr (e▸T)) (fun e=>u.no hr (e▸H))),fun x G _=>I x (fun e=>l (e▸CD G)) (fun e=>j (e▸CD G)),?_,fun hn d' hd' hno=>by rw[nr];exact hno⟩;have A:=B.slot;have k:=B.ok;have X:=B.cell;cases W with
   |none=>trivial|slot x t=>
    simp [A7.ok]at k|-;rw[I x (fun e=>l (e▸CD (A _ _ rfl))) (fun e=>j (e▸CD (A _ _ rfl)))];exact k
   |cell x off t=>
    obtain ⟨ds,h5,h6⟩:=k;refine⟨ds,?_,h6⟩;rw[I x (fun e=>?_) (fun e=>?_)]
    .exact h5
    .rcases X _ _ _ rfl with h7|⟨y,_,h8⟩
     .exact l (e▸h7)
     .exact u.no h8 (e▸T)
    .rcases X _ _ _ rfl with h7|⟨y,_,h8⟩
     .exact j (e▸h7)
     .exact u.no h8 (e▸H)
  have hgp:∀g∈p.zA,AB.get ((d,.xo n es)::(s,.undef)::z) g=z.get g:=fun g M=>I g (fun e=>dng (e▸M)) (fun e=>sng (e▸M));refine⟨z,F,de Q hg hd k1 k2.2 k3 ⟨_,.refl _,B.again _ L hgp _ (He hK ?_)⟩⟩;refine⟨fun m=>?_,fun c=>?_⟩
  .simp[AB.d6,A7.get,g1];by_cases A:d=m
   .subst A;rw[ae rfl,az hpd,C d T l,ae rfl]
   .rw[az A];by_cases k:s=m
    .subst k;rw[ae rfl,az U,C s H j,az A,ae rfl]
    .rw[az k];by_cases J:E=m
     .rw[ae J,ae J]
     .rw[az J,az J,az A,az k]
  .simp[AB.ei,A7.gt,v.2,B.o3];have e1:EV.yz c (EV.xo n es)=true:=rfl;have e2:EV.yz c EV.undef=true:=rfl;rw[e1,e2];cases EV.yz c ep<;>rfl
 .cases f
def sW:AD->Bool
 |.xal _=>true|.mv _=>true|.bad _ _=>true|.y5 _ _=>true|.ld _=>true|_=>false
def zZ(D:QQ)(p q:PR):Bool:=
 match q.op,q.guard,q.dst,p.guard,p.dst with
 |.xst x v _,none,none,none,some d=>PR.yo D p&&sW p.op&&!(x.sl.contains d)&&!(v.sl.contains d)|_,_,_,_,_=>false
variable{i:Option Nat}
theorem On{q:Nat}{es es':Fq}(h:O.x4 q i=some (n,es)):(∃u,AB.get (O.ym q i n es') q=u/\((∃m c,O.get q=.xo m c/\∃m' fs',u=.xo m' fs')\/(∃cs k,i=some k/\cs[k]?=some ⟨true,.xl n es⟩/\O.get q=.bx cs/\u=.bx (cs.set k ⟨true,.xl n es'⟩))))/\(∀m,q≠m->AB.get (O.ym q i n es') m=O.get m)/\∀d,AB.gt d (O.ym q i n es')=O.gt d:=by
 cases i with
 |none=>
  grind [AB.x4,AB.ym,AB.d6,AB.ei,EV.yz,EV.yc]
 |some k=>
  grind [AB.x4,tn,AB.ym,AB.d6,AB.ei,EV.yz,EV.yc]
theorem oX(l:List AR)(c:Nat):Gc ((l.drop c).map (·.t))=(l[c]?).map (·.t):=by
 rw [show l[c]?=(l.drop c)[0]? by rw[List.getElem?_drop,Nat.add_zero]];cases l.drop c<;>rfl
variable{t:TV}
theorem l7{ds:List AR}{k c n:Nat}{es es':Fq}(g:t.zt=false)(h:ds[k]?=some ⟨true,.xl n es⟩)(f:Gc ((ds.drop c).map (·.t))=some t):Gc (((ds.set k ⟨true,.xl n es'⟩).drop c).map (·.t))=some t:=by
 rw [oX]at f|-;by_cases e:k=c
 .subst e;rw[h]at f;simp at f;subst f;cases g
 grind
theorem pU{S:FuncId->Fq->Al->Prop}{op:AD}(ho:sW op=true){dst:Option Nat}{K:EV->AB->Prop}(h:op.wp S O dst K):
  ∃e,K e O/\(∀m J,e≠.xo m J)/\(∀cs,e≠.bx cs)/\∀(q n:Nat)(i:Option Nat)(es es':Fq),O.x4 q i=some (n,es)->∀z:EV->AB->Prop,z e (O.ym q i n es')->op.wp S (O.ym q i n es') dst z:=by
 have E:∀{q n:Nat}{i:Option Nat}{es es':Fq},O.x4 q i=some (n,es)->∀m e,O.get m=e->(∀k J,e≠.xo k J)->(∀cs,e≠.bx cs)->AB.get (O.ym q i n es') m=e:=fun{q n i es es'}g m e v G V=>by
  obtain ⟨⟨u,M,j⟩,I,_⟩:=On (es':=es') g
  grind
 have F:∀{q n:Nat}{i:Option Nat}{es es':Fq},O.x4 q i=some (n,es)->∀m cs,O.get m=.bx cs->∃cs',AB.get (O.ym q i n es') m=.bx cs'/\∀C t,t.zt=false->Gc ((cs.drop C).map (·.t))=some t->Gc ((cs'.drop C).map (·.t))=some t:=fun{q n i es es'}g m cs v=>by
  obtain ⟨⟨u,M,j⟩,I,_⟩:=On (es':=es') g
  grind [l7]
 have A:∀{q n:Nat}{i:Option Nat}{es es':Fq},O.x4 q i=some (n,es)->∀(x:AE)e,x.ev O=e->(∀m J,e≠.xo m J)->(∀cs,e≠.bx cs)->x.ev (O.ym q i n es')=e:=by
  intro q n i es es' g x e he v G;cases x with
  |c t=>exact he|s y=>exact E g y e he v G
 cases op with
 |mv x=>
  simp [AD.wp]at h|-;split at h
  .rename_i t l;exact⟨_,h,by simp,by simp,fun q n i es es' g z f=>by rw[A g x _ l (by simp) (by simp)];exact f⟩
  .rename_i t l;exact⟨_,h,by simp,by simp,fun q n i es es' g z f=>by rw[A g x _ l (by simp) (by simp)];exact f⟩
  .rename_i t l;exact⟨_,h,by simp,by simp,fun q n i es es' g z f=>by rw[A g x _ l (by simp) (by simp)];exact f⟩
  .exact h.elim
 |xal s=>
  simp [AD.wp]at h|-;split at h
  .rename_i m J B;refine⟨_,h,by simp,by simp,fun q n i es es' g z f=>?_⟩;obtain⟨⟨u,M,j⟩,I,_⟩:=On (es':=es') g;by_cases e:q=s
   .subst e;rcases j with⟨_,_,_,m',fs',rfl⟩|⟨_,_,_,_,T,_⟩
    .rw[M];exact f
    .rw[B]at T;cases T
   .rw[I s e,B];exact f
  .exact h.elim
 |bad s k=>
  simp [AD.wp]at h|-;split at h
  .rename_i cs B;refine⟨_,h,by simp,by simp,fun q n i es es' g z f=>?_⟩;obtain⟨cs',v,_⟩:=F (es':=es') g s cs B;rw[v];exact f
  .rename_i row B;exact⟨_,h,by simp,by simp,fun q n i es es' g z f=>by rw[E g s _ B (by simp) (by simp)];exact f⟩
  .exact h.elim
 |y5 x k=>
  simp [AD.wp]at h|-;split at h
  .rename_i row l;exact⟨_,h,by simp,by simp,fun q n i es es' g z f=>by rw[A g x _ l (by simp) (by simp)];exact f⟩
  .rename_i s C l;split at h
   .rename_i cs B;refine⟨_,h,by simp,by simp,fun q n i es es' g z f=>?_⟩;obtain⟨cs',v,_⟩:=F (es':=es') g s cs B;rw[A g x _ l (by simp) (by simp)];simp only;rw[v];exact f
   .exact h.elim
  .exact h.elim
 |ld x=>
  simp [AD.wp]at h|-;cases j:A3 O (x.ev O)with
  |none=>rw[j]at h;exact h.elim|some cs=>
   rw [j]at h;simp[Ad]at h;cases L:Gc cs with
   |none=>rw[L]at h;exact h.elim|some t=>
    rw [L]at h;obtain⟨Q,h⟩:=h;refine⟨_,h,by simp,by simp,fun q n i es es' g z f=>?_⟩;have U:∃cs',A3 (O.ym q i n es') (x.ev (O.ym q i n es'))=some cs'/\Gc cs'=some t:=by
     cases x with
     |c R=>exact⟨cs,by rw[<-j];cases R<;>rfl,L⟩
     |s y=>
      simp [AE.ev]at j|-;cases H:O.get y with
      |bp s C=>
       rw [E g y _ H (by simp) (by simp)];rw[H]at j;simp only[A3]at j|-;split at j
       .rename_i ds B;cases j;obtain⟨cs',v,G⟩:=F (es':=es') g s ds B;rw[v];exact⟨_,rfl,G _ _ Q L⟩
       .cases j
      |tv R=>
       rw [E g y _ H (by simp) (by simp)];rw[H]at j;exact⟨cs,by rw[<-j];cases R<;>rfl,L⟩
      |bx ds=>
       rw [H]at j;simp[A3]at j;subst j;obtain⟨cs',v,G⟩:=F (es':=es') g y ds H;rw[v];have:=G 0 t Q (by simpa using L);exact⟨_,rfl,by simpa using this⟩
      |_=>rw[H]at j;cases j
    obtain ⟨cs',v,G⟩:=U;rw[v];simp[Ad,G];exact⟨Q,f⟩
 |_=>cases ho
variable{e:EV}
theorem Yy{O g:AB}{d t n:Nat}{es:Fq}(h:M0 g ((d,e)::O))(j:d≠t):M0 (g.ym t i n es) ((d,e)::O.ym t i n es):=by
 have v:g.get t=O.get t:=by rw[h.1,AB.d6,az j]
 have f:∀u:EV,(∀c,EV.yz c u=true)->M0 ((t,u)::g) ((d,e)::(t,u)::O):=by
  intro u l;refine⟨fun m=>?_,fun c=>?_⟩
  .rw[AB.d6,h.1,AB.d6,AB.d6,AB.d6]
   grind
  .rw[AB.ei,h.2,AB.ei,AB.ei,AB.ei,l];cases EV.yz c e<;>rfl
 cases i with
 |none=>exact f _ fun c=>rfl|some k=>
  simp [AB.ym,v];split
  .exact f _ fun c=>rfl
  .exact h
theorem tH(f:zZ D p q=true)(h:Ej (AX P) K (p::q::rs) O):Ej (AX P) K (q::p::rs) O:=by
 unfold zZ at f;split at f
 .rename_i x v kx d B C hd J L;simp[Bool.not_eq_true',decide_eq_false_iff_not]at f;obtain⟨⟨⟨_,ho⟩,E⟩,F⟩:=f;obtain⟨A,G,h⟩:=h;simp[PR.wp,J,L,AB.put]at h;obtain⟨e,⟨H,j,l⟩,T,U,I⟩:=pU ho h;have z:∀(y:AE),d∉y.sl->y.ev H=y.ev A:=by
   intro y hy;cases y with
   |c t=>rfl|s m=>
    simp [AE.ev,j.1,AB.d6]
    grind [AE.sl]
  refine ⟨A,G,?_⟩;simp[PR.wp,C,hd,B,AD.wp,z x E,z v F]at l|-;split at l
  .rename_i t i c hx;split at l
   .rename_i n es u M Q;obtain⟨V,W,es',X,Y,Z,hK⟩:=l;have g:d≠t:=by
     intro g;have C:H.get t=e:=by rw[j.1,AB.d6,ae g]
     cases i with
     |none=>
      grind [AB.x4]
     |some k=>
      grind [AB.x4]
    have R:A.x4 t i=some (n,es):=by
     have C:H.get t=A.get t:=by rw[j.1,AB.d6,az g]
     grind [AB.yx]
    rw [R,Q];refine⟨V,W,es',X,Y,Z,_,.refl _,?_⟩
    grind [PR.wp,AB.put,He,Yy]
   .exact l.elim
  .exact l.elim
 .cases f
end
end Go.Sf
