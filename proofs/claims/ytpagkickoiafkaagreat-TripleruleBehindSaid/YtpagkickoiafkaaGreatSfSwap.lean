/- Two operations of a region that may change places. -/
import Derived.Test.YtpagkickoiafkaaGreatSfFrame
set_option linter.all false
open Option renaming some->Y,none->W
open Bool renaming true->X,false->T
open Bool renaming not_eq_true'->v?,and_true->w_
open Option renaming isSome_iff_exists->w!
namespace Go.Sf
open Go.RowKit (Below)
theorem AB.ea(d k:Nat)(e:EV)(O:AB):AB.ew d ((k,e)::O)=(e.tg d&&AB.ew d O):=rfl
variable{d:Nat}{e:EV}
theorem U5(h:∀s,e.n8=Y s->s≠d):e.tg d=X:=by grind[EV.tg]
theorem A6.ew(f:A6)(O:AB)(d:Nat):AB.ew d (f.app O)=AB.ew d O:=by
 cases f with
 |none=>rfl|slot s t=>simp[A6.app,AB.ea,EV.tg,EV.n8]|cell s c t=>
  grind [A6.app,AB.ea,EV.tg,EV.n8]
def A6.on(f:A6)(n:Nat)(e:EV):EV:=
 match f with
 |.none=>e|.slot s t=>if s=n then .tv t else e|.cell s off t=>if s=n then(match e with|.bx cs=>.bx (cs.set off ⟨T,t⟩)|e=>e)else e
theorem A6.get(f:A6)(O:AB)(n:Nat):AB.get (f.app O) n=f.on n (O.get n):=by
 cases f with
 |none=>rfl|slot s t=>simp[A6.app,AB.d3,A6.on]|cell s c t=>
  simp [A6.app,A6.on]
  grind [AB.d3]
def M7(O env2:AB):Prop:=(∀n,O.get n=env2.get n)/\∀d,O.ew d=env2.ew d
theorem M7.refl(O:AB):M7 O O:=⟨λ_=>rfl,λ_=>rfl⟩
theorem M7.trans{a b c:AB}(h:M7 a b)(f:M7 b c):M7 a c:=⟨λn=>(h.1 n).trans (f.1 n),λd=>(h.2 d).trans (f.2 d)⟩
variable{a b:AB}
theorem M7.symm(h:M7 a b):M7 b a:=⟨λn=>(h.1 n).symm,λd=>(h.2 d).symm⟩
def D0(S:FuncId->Fq->At->Prop)(K:AB->Prop):List PR->AB->Prop
 |[],O=>∃e,M7 e O/\K e|r::rs,O=>∃e,M7 e O/\r.wp S e (D0 S K rs)
section
variable{S:FuncId->Fq->At->Prop}{K:AB->Prop}
variable{rs:List PR}
theorem F4{O env2:AB}(h:D0 S K rs O)(he:M7 O env2):D0 S K rs env2:=by
 cases rs with
 |nil=>obtain⟨e,c,f⟩:=h;exact⟨e,c.trans he,f⟩
 |cons r rs=>obtain⟨e,c,f⟩:=h;exact⟨e,c.trans he,f⟩
theorem nR:∀{rs:List PR}{O:AB},wpOps S K rs O->D0 S K rs O
 |[],O,h=>⟨O,.refl _,h⟩|r::rs,O,h=>⟨O,.refl _,PR.gF S O (λe he=>nR he) r h⟩
def PR.gsl(r:PR):I2:=
 match r.guard with
 |some (g,_)=>[g]|none=>[]
structure Pb(S:FuncId->Fq->At->Prop)(r:PR)(d:Nat)(O gE:AB)(e:EV)(f:A6):Prop where
 gE:gE=(d,e)::f.app O
 ok:f.ok O
 slot:∀s t,f=.slot s t->s∈r.op.dem
 cell:∀s off t,f=.cell s off t->(s∈r.op.slots\/∃x∈r.op.slots,(O.get x).n8=Y s)
 n8:∀s,e.n8=Y s->(s∈r.op.AaH\/∃x∈r.op.slots,(O.get x).n8=Y s)
 new:r.op.nx=X->e.n8=W/\O.ew d=X
 xl:∀s off t,f=.cell s off t->t.Aai=T
 again:∀env2,EL r.op f (Y d) O env2->(∀g∈r.gsl,env2.get g=O.get g)->∀K2:AB->Prop,K2 ((d,e)::f.app env2)->r.wp S env2 K2
variable{r:PR}{d:Nat}{O:AB}
theorem Ph(hd:r.dst=Y d)(A:r.op.mov=X)(G:r.op.nx=X->r.guard=W)(h:r.wp S O K):r.wp S O λgE=>K gE/\∃e f,Pb S r d O gE e f:=by
 have z:∀(m:∀env2,(∀g∈r.gsl,env2.get g=O.get g)->∀u:AB->Prop,(r.op.wp S env2 (Y d) λe env'=>u (env'.put (Y d) e))->r.wp S env2 u),(r.op.wp S O (Y d) λe env'=>K (env'.put (Y d) e))->r.op.wp S O (Y d) λe env'=>K (env'.put (Y d) e)/\∃B f,Pb S r d O (env'.put (Y d) e) B f:=by
  intro m E;refine AE.gF S O (Y d) (λe env' he=>?_) r.op (frame A E);obtain⟨F,f,c⟩:=he;refine⟨F,e,f,?_,c.ok,c.slot,c.cell,c.n8,λhn=>⟨(c.new hn).1,(c.new hn).2 d rfl⟩,c.xl,λenv2 C k u j=>?_⟩
  .simp[AB.put];rw[c.env']
  .exact m env2 k u (c.again env2 C _ j)
 unfold PR.wp at h|-;cases l:r.guard with
 |none=>
  grind [PR.wp]
 |some gb=>
  obtain ⟨g,b⟩:=gb;rw[l]at h;rw[hd]at h|-;simp only at h|-;have k:g∈r.gsl:=by simp[PR.gsl,l]
  split at h
  .rename_i q y;refine⟨λv=>z (λenv2 c u j=>?_) (h.1 v),λv=>⟨h.2 v,.sk,.none,rfl,trivial,V,V,(λs he=>l!),λhn=>?_,V,λenv2 _ c u j=>?_⟩⟩
   .grind[PR.wp]
   .grind
   .unfold PR.wp;rw[l,hd];simp only;rw[c g k,y];exact⟨λw=>by subst w;cases q<;>simp at v,λ_=>j⟩
  .rename_i y;refine⟨h,.sk,.none,rfl,trivial,V,V,(λs he=>l!),λhn=>?_,V,λenv2 _ c u j=>?_⟩
   .grind
   .unfold PR.wp;rw[l,hd];simp only;rw[c g k,y];exact j
  .exact h.elim
end
section
variable{P:Program}{F0:Nat->Nat->Prop}{w0:W0}{N:Nat}{ops:Array Oper}{K:AB->Prop}
def LA(F0:Nat->Nat->Prop)(w0:W0)(N:Nat)(O:AB):Prop:=∃a w,a.tmps.size=N/\Bs F0 w0 O a w
theorem LA.congr{O env2:AB}(h:LA F0 w0 N O)(he:M7 O env2):LA F0 w0 N env2:=by
 obtain ⟨a,w,c,f⟩:=h;exact⟨a,w,c,f.congr he.1⟩
variable{O:AB}{s:Nat}{t:TV}
theorem LA.list(h:LA F0 w0 N O)(c:O.get s=.ow t):∃n es,t=.list n es:=by
 obtain ⟨a,w,_,G,f⟩:=h;have:=Ah f c V;simp[AK]at this;cases t<;>simp[Bo]at this;exact⟨_,_,rfl⟩
variable{o:Oper}
theorem kH{a:Act}{w:World}{ζ:Prop}(h:o.wp P a w (λ_ _=>ζ) (λ_ _ _=>False)):ζ:=by
 unfold Oper.wp at h;generalize (execOp a.eval o).run P w=r at h;cases r with
 |ok n w'=>
  cases n with
  |value v=>exact h|skip=>exact h|defer d=>exact h|enter f args=>
   rw [Oper.upon_enter]at h;obtain⟨e,j,fr,g,_⟩:=h [];cases e with
   |returned v=>exact g|panicked c=>exact g.elim|outgrown=>obtain⟨_,_,k⟩:=g;exact k.elim
  |row r args=>
   rw [Oper.upon_row]at h;obtain⟨v,j,g,_⟩:=h default [];exact g
  |_=>exact h.elim
 |halt x w'=>
  cases x<;>exact h.elim
variable{r:PR}
theorem EU(f:LA F0 w0 N O)(c:LL P N ops o r=X)(h:r.wp (AV P) O K):∃env',K env'/\LA F0 w0 N env':=by
 obtain ⟨a,w,l,m⟩:=f;have:=Wm (p:=W) (next:=λ_ _=>∃env',K env'/\LA F0 w0 N env') (Q:=λ_ _ _=>False) m ⟨l,V⟩ V c h λenv' a' w' g j k=>⟨env',g,a',w',j.size,k⟩;split at this
 .exact kH this
 .exact this
end
def Ew(xs ys:I2):Bool:=xs.all λx=>!ys.contains x
variable{x:Nat}
theorem Av{xs c:I2}(h:Ew xs c=X)(f:x∈xs)(g:x∈c):False:=by grind[Ew,List.all_eq_true,v?]
def PR.old(r:PR):I2:=
 if r.op.nx then[]else r.dst.toList
def PR.sE(D:I2)(r:PR):Bool:=
 r.op.mov&&r.dst.isSome&&(!r.op.nx||r.guard.isNone)&&Ew r.op.AaH D&&r.old.all D.contains
def Xv(D:I2)(p q:PR):Bool:=
 PR.sE D p&&PR.sE D q&&Ew p.dst.toList (q.dst.toList++(q.op.slots++q.gsl))&&Ew q.dst.toList (p.op.slots++p.gsl)&&Ew p.op.dem (q.op.dem++q.gsl)&&Ew q.op.dem p.gsl
variable{s:Nat}
theorem CR{op:AE}(h:s∈op.dem):s∈op.slots:=by
 cases op<;>simp only[AE.dem,List.not_mem_nil]at h<;>simp only[AE.slots]
 .exact h
 .exact Cq h
theorem ig{op:AE}(h:s∈op.AaH):s∈op.slots:=by
 cases op<;>simp[AE.AaH]at h<;>simp[AE.slots]
 all_goals exact h
def JD(D:I2)(O:AB):Prop:=∀d∈D,O.ew d=X
theorem JD.congr{D:I2}{O env2:AB}(h:JD D O)(he:M7 O env2):JD D env2:=λd hd=>by rw[<-he.2];exact h d hd
variable{O:AB}
theorem JD.no{D:I2}(h:JD D O)(c:(O.get x).n8=Y s):s∉D:=λhd=>AB.mo s O (h s hd) x c
section
variable{S:FuncId->Fq->At->Prop}
variable{r:PR}{d:Nat}{e:EV}
theorem Pb.jd{D:I2}{O gE:AB}{f:A6}(h:Pb S r d O gE e f)(k:Ew r.op.AaH D=X)(j:JD D O):JD D gE:=by
 intro x g;rw[h.gE,AB.ea,A6.ew,j x g,w_];refine U5 (λs he c=>?_);subst c;rcases h.n8 s he with l|⟨y,_,m⟩
 .exact Av k l g
 .exact j.no m g
variable{O:AB}
theorem A6.like(f:A6)(c:f.ok O)(h:∀s t,O.get s=.ow t->∃n es,t=.list n es)(k:∀s g t,f=.cell s g t->t.Aai=T)(n:Nat):(O.get n).like (f.on n (O.get n)):=by
 cases f with
 |none=>exact .inl rfl|slot s t=>
  simp [A6.on];split
  next e=>subst e;simp[A6.ok]at c;obtain⟨m,es,rfl⟩:=h s t c;exact .inr (.inl ⟨m,es,.inr ⟨c,rfl⟩⟩)
  .exact .inl rfl
 |cell s g t=>
  simp [A6.on];split
  .rename_i e;subst e;obtain⟨cs,j,l⟩:=c;rw[j];refine .inr (.inr ⟨cs,_,rfl,rfl,?_⟩);rw[List.map_set];refine List.ext_getElem? λi=>?_
   grind [az,List.getElem?_eq_some_iff,AQ.key]
  .exact .inl rfl
end
variable{r:PR}{O:AB}
theorem TQ{S:FuncId->Fq->At->Prop}{K:AB->Prop}(h:r.wp S O K):∀g∈r.gsl,∃b,O.get g=b/\(∀cs,b≠.bx cs)/\(∀t,b≠.ow t)/\∀cs,b≠.vS cs:=by grind[PR.gsl,PR.wp,List.mem_singleton]
section
variable{P:Program}{F0:Nat->Nat->Prop}{w0:W0}{N:Nat}{ops:Array Oper}{K:AB->Prop}{D:I2}
variable{O:AB}{p q:PR}{rs:List PR}
theorem swap(hR:LA F0 w0 N O)(hj:JD D O){op oq:Oper}(hp:LL P N ops op p=X)(hq:LL P N ops oq q=X)(Q:Xv D p q=X)(h:D0 (AV P) K (p::q::rs) O):D0 (AV P) K (q::p::rs) O:=by
 simp [Xv,PR.sE,v?]at Q;obtain⟨⟨⟨⟨⟨⟨⟨⟨⟨pm,pd⟩,pg⟩,pb⟩,pD⟩,⟨⟨⟨qm,qd⟩,qg⟩,qb⟩,qD⟩,c1⟩,c2⟩,c3⟩,c4⟩:=Q;obtain⟨C,hdp⟩:=w!.1 pd;obtain⟨B,hdq⟩:=w!.1 qd;rw[hdp]at c1;rw[hdq]at c1 c2;simp at c1 c2;have hpq:C≠B:=λe=>Av c1 (x:=C) V c!;have F:C∉q.op.slots:=λe=>Av c1 (x:=C) V c!;have pngq:C∉q.gsl:=λe=>Av c1 (x:=C) V c!;have L:B∉p.op.slots:=λe=>Av c2 (x:=B) V c!;have qngp:B∉p.gsl:=λe=>Av c2 (x:=B) V c!;have dd:∀s,s∈p.op.dem->s∈q.op.dem->False:=λs c l=>Av c3 c (Cq l);have dg1:∀s,s∈p.op.dem->s∈q.gsl->False:=λs c l=>Av c3 c (DJ l);have dg2:∀s,s∈q.op.dem->s∈p.gsl->False:=λs c l=>Av c4 c l;have oldp:p.op.nx=X\/C∈D:=by
  cases hn:p.op.nx with
  |true=>exact .inl rfl|false=>exact .inr (by simpa[PR.old,hn,hdp]using pD)
 have oldq:q.op.nx=X\/B∈D:=by
  cases hn:q.op.nx with
  |true=>exact .inl rfl|false=>exact .inr (by simpa[PR.old,hn,hdq]using qD)
 have pg':p.op.nx=X->p.guard=W:=λhn=>by
  rcases pg with h|h
  .rw[hn]at h;cases h
  .simpa using h
 have qg':q.op.nx=X->q.guard=W:=λhn=>by
  rcases qg with h|h
  .rw[hn]at h;cases h
  .simpa using h
 obtain ⟨I,heq,h⟩:=h;have hR':=hR.congr heq.symm;have hj':=hj.congr heq.symm;obtain⟨gE,⟨⟨H,A,hw⟩,ep,M,y⟩,hR1⟩:=EU hR' hp (Ph hdp pm pg' h);have hRe1:=hR1.congr A.symm;have hj1:=y.jd pb hj';have hje1:=hj1.congr A.symm;obtain⟨X1,⟨hK,eq,E,J⟩,_⟩:=EU hRe1 hq (Ph hdq qm qg' hw);have η:∀n,H.get n=if C=n then ep else M.on n (I.get n):=λn=>by
  rw [A.1,y.gE,AB.d3,A6.get]
 have R:∀x s,(H.get x).n8=Y s->s≠C:=by
  intro x s hx z;subst z;rcases oldp with hn|hd
  .refine AB.mo s H ?_ x hx;rw[A.2,y.gE,AB.ea,A6.ew,(y.new hn).2,w_];exact U5 (λs he _=>by rw[(y.new hn).1]at he;cases he)
  .exact hje1.no hx hd
 have nq':∀x s,(I.get x).n8=Y s->s≠B:=by
  intro x s hx z;subst z;rcases oldq with hn|hd
  .have c:=(J.new hn).2;rw[A.2,y.gE,AB.ea,A6.ew,gN]at c;exact AB.mo s I c.2 x hx
  .exact hj'.no hx hd
 have lk:∀n,n≠C->(H.get n).like (I.get n):=by
  intro n hn;rw[η,aE (λe=>hn e.symm)];exact(A6.like M y.ok (λs t z=>hR'.list z) y.xl n).symm
 have fpdq:∀e,M.on B e=e:=by
  intro e;have:=y.slot;have l:=y.cell;cases M with
  |none=>rfl|slot s t=>
   simp only[A6.on];rw[aE];intro he;subst he;exact L (CR (this _ _ rfl))
  |cell s j t=>
   simp only[A6.on];rw[aE];intro he;subst he;rcases l _ _ _ rfl with m|⟨x,_,G⟩
   .exact L m
   .exact nq' x _ G rfl
 have θ:∀e,E.on C e=e:=by
  intro e;have:=J.slot;have l:=J.cell;cases E with
  |none=>rfl|slot s t=>
   simp only[A6.on];rw[aE];intro he;subst he;exact F (CR (this _ _ rfl))
  |cell s j t=>
   simp only[A6.on];rw[aE];intro he;subst he;rcases l _ _ _ rfl with m|⟨x,_,G⟩
   .exact F m
   .exact R x _ G rfl
 have v:E.ok I:=by
  have k:=J.ok;have hsl:=J.slot;have hc:=θ;cases E with
  |none=>trivial|slot s t=>
   simp [A6.ok]at k|-;have z:=hsl s t rfl;have f:C≠s:=λe=>F (e▸CR z);rw[η,aE f]at k;have c:=y.slot;have l:=y.ok;cases M with
   |none=>exact k|slot s' w=>
    simp [A6.on]at k;rw[aE (λ(e:s'=s)=>dd s' (c _ _ rfl) (by rw[e];exact z))]at k;exact k
   |cell s' j w=>
    simp [A6.on]at k;split at k
    next e=>subst e;obtain⟨cs,m,_⟩:=l;rw[m]at k;cases k
    .exact k
  |cell s j t=>
   obtain ⟨cs,c,l⟩:=k;have f:C≠s:=λe=>by
    have:=hc (.bx [⟨X,.undef⟩,⟨X,.undef⟩]);rcases J.cell s j t rfl with m|⟨x,_,G⟩
    .exact F (e▸m)
    .exact R x s G e.symm
   rw [η,aE f]at c;have m:=y.ok;cases M with
   |none=>exact⟨cs,c,l⟩|slot s' w=>
    simp [A6.on]at c;split at c
    .cases c
    .exact⟨cs,c,l⟩
   |cell s' u w=>
    simp [A6.on]at c;split at c
    .rename_i e;subst e;obtain⟨cs',G,h5⟩:=m;rw[G]at c;simp[EV.bx.injEq]at c;subst c;rw[List.getElem?_set]at l;split at l
     .split at l
      .simp at l
      .cases l
     .exact⟨cs',G,l⟩
    .exact⟨cs,c,l⟩
 have L1:EL q.op E (Y B) H I:=by
  refine ⟨λs z=>lk s (λe=>F (e▸z)),λs z r Z=>lk r (R s r Z),λs z hnb=>?_,v,λhn d hd κ=>?_⟩
  .have f:C≠s:=λe=>F (e▸CR z);rw[η,aE f];have c:=y.slot;have l:=y.ok;cases M with
   |none=>rfl|slot s' w=>
    simp only[A6.on];rw[aE (λ(e:s'=s)=>dd s' (c _ _ rfl) (by rw[e];exact z))]
   |cell s' j w=>
    simp only[A6.on];split
    next e=>subst e;obtain⟨cs,m,_⟩:=l;exfalso;refine hnb (cs.set j ⟨T,w⟩) ?_;rw[η,aE f];simp[A6.on,m]
    .rfl
  .rw[A.2,y.gE,AB.ea,A6.ew,gN]at κ;exact κ.2
 have hgq:∀g∈q.gsl,I.get g=H.get g:=by
  intro g hg;have f:C≠g:=λe=>pngq (e▸hg);obtain⟨b,Z,hnx,_⟩:=TQ hw g hg;have ε:=Z;rw[η,aE f]at ε;rw[η,aE f];have c:=y.slot;have l:=y.ok;cases M with
  |none=>rfl|slot s' w=>
   simp only[A6.on];rw[aE (λ(e:s'=g)=>dg1 s' (c _ _ rfl) (by rw[e];exact hg))]
  |cell s' j w=>
   simp only[A6.on]at ε|-;split
   next e=>subst e;obtain⟨cs,m,_⟩:=l;rw[m]at ε;simp at ε;exact absurd ε.symm (hnx _)
   .rfl
 have hgp:∀g∈p.gsl,AB.get ((B,eq)::E.app I) g=I.get g:=by
  intro g hg;have f:B≠g:=λe=>qngp (e▸hg);obtain⟨b,Z,hnx,_⟩:=TQ h g hg;rw[AB.d3,aE f,A6.get];have c:=J.slot;cases E with
  |none=>rfl|slot s' w=>
   simp only[A6.on];rw[aE (λ(e:s'=g)=>dg2 s' (c _ _ rfl) (by rw[e];exact hg))]
  |cell s' j w=>
   simp only[A6.on];split
   next e=>subst e;obtain⟨cs,m,_⟩:=v;rw[m]at Z;exact absurd Z.symm (hnx _)
   .rfl
 have offs:∀s j t u w,M=.cell s j t->E=.cell s u w->j≠u:=by
  intro s j t u w c l ho;subst ho;have m:=J.ok;have G:=y.ok;have h5:=θ;rw[c]at G;rw[l]at m;obtain⟨cs,δ,h7⟩:=G;obtain⟨ds,h8,h9⟩:=m;have f:C≠s:=λe=>by
   rcases J.cell s j w l with m|⟨x,_,G⟩
   .exact F (e▸m)
   .exact R x s G e.symm
  rw [η,aE f,c]at h8;simp[A6.on,δ,EV.bx.injEq]at h8;subst h8;rw[List.getElem?_set,QQ rfl]at h9;split at h9
  .simp at h9
  .cases h9
 have g2:∀n,AB.get ((B,eq)::E.app I) n=if B=n then eq else E.on n (I.get n):=λn=>by
  rw [AB.d3,A6.get]
 have lk2:∀n,n≠B->(I.get n).like (AB.get ((B,eq)::E.app I) n):=by
  intro n hn;rw[g2,aE (λe=>hn e.symm)];exact A6.like E v (λs t z=>hR'.list z) J.xl n
 have L2:EL p.op M (Y C) I ((B,eq)::E.app I):=by
  refine ⟨λs z=>lk2 s (λe=>L (e▸z)),λs z r Z=>lk2 r (nq' s r Z),λs z hnb=>?_,?_,λhn d hd κ=>?_⟩
  .have f:B≠s:=λe=>L (e▸CR z);rw[g2,aE f];have c:=J.slot;cases E with
   |none=>rfl|slot s' w=>
    simp only[A6.on];rw[aE (λ(e:s'=s)=>dd s' (by rw[e];exact z) (c _ _ rfl))]
   |cell s' j w=>
    simp only[A6.on];split
    next e=>subst e;obtain⟨cs,m,_⟩:=v;exact absurd m (hnb cs)
    .rfl
  .have k:=y.ok;have hsl:=y.slot;have hcl:=y.cell;cases M with
   |none=>trivial|slot s t=>
    simp [A6.ok]at k|-;have z:=hsl s t rfl;have f:B≠s:=λe=>L (e▸CR z);rw[g2,aE f];have c:=J.slot;cases E with
    |none=>exact k|slot s' w=>
     simp [A6.on];rw[aE (λ(e:s'=s)=>dd s' (by rw[e];exact z) (c _ _ rfl))];exact k
    |cell s' j w=>
     simp [A6.on];split
     next e=>subst e;obtain⟨cs,m,_⟩:=v;rw[m]at k;cases k
     .exact k
   |cell s j t=>
    obtain ⟨cs,c,l⟩:=k;have f:B≠s:=λe=>by
     rcases hcl s j t rfl with m|⟨x,_,G⟩
     .exact L (e▸m)
     .exact nq' x s G e.symm
    simp [A6.ok];rw[g2,aE f];have m:=v;cases E with
    |none=>exact⟨cs,c,l⟩|slot s' w=>
     simp [A6.on];split
     next e=>subst e;simp[A6.ok]at m;rw[m]at c;cases c
     .exact⟨cs,c,l⟩
    |cell s' u w=>
     simp [A6.on];split
     next e=>subst e;rw[c];have:=offs s' j t u w rfl rfl;refine⟨_,rfl,?_⟩;rw[List.getElem?_set,aE (λe=>this e.symm)];exact l
     .exact⟨cs,c,l⟩
  .simp at hd;subst hd;rw[AB.ea,A6.ew,κ,w_];refine U5 (λs he=>?_);rcases J.n8 s he with c|⟨x,_,l⟩
   .exact λe=>F (e▸ig c)
   .exact R x s l
 refine ⟨I,heq,J.again I L1 hgq _ ⟨_,.refl _,y.again _ L2 hgp _ (F4 hK ?_)⟩⟩;rw[J.gE];refine⟨λn=>?_,λd=>?_⟩
 .rw[AB.d3,A6.get,η,AB.d3,A6.get,g2];by_cases c:B=n
  .subst c;rw[QQ rfl,aE hpq,QQ rfl,fpdq]
  .rw[aE c,aE c];by_cases l:C=n
   .subst l;rw[QQ rfl,QQ rfl,θ]
   .rw[aE l,aE l];have m:=y.ok;have G:=y.slot;have h5:=J.slot;cases M with
    |none=>rfl|slot s t=>
     cases E with
     |none=>rfl|slot s' w=>
      have f:s≠s':=λe=>dd s (G _ _ rfl) (e▸h5 _ _ rfl);simp[A6.on];by_cases H:s=n<;>by_cases ζ:s'=n<;>simp[H,ζ];exact absurd (H.trans ζ.symm) f
     |cell s' u w=>
      have f:s≠s':=λe=>by
       obtain ⟨cs,δ,_⟩:=v;simp[A6.ok]at m;rw[<-e,m]at δ;cases δ
      simp [A6.on];by_cases H:s=n<;>by_cases ζ:s'=n<;>simp[H,ζ]
    |cell s j t=>
     cases E with
     |none=>rfl|slot s' w=>
      have f:s≠s':=λe=>by
       obtain ⟨cs,δ,_⟩:=m;simp[A6.ok]at v;rw[e,v]at δ;cases δ
      simp [A6.on];by_cases H:s=n<;>by_cases ζ:s'=n<;>simp[H,ζ]
     |cell s' u w=>
      obtain ⟨cs,δ,_⟩:=m;simp[A6.on];by_cases H:s=n
      .by_cases ζ:s'=n
       .subst H;subst ζ;have:=offs s' j t u w rfl rfl;simp[δ];rw[List.set_comm _ _ this]
       .simp[H,ζ]
      .simp[H]
 .rw[AB.ea,A6.ew,A.2,y.gE,AB.ea,A6.ew,AB.ea,A6.ew,AB.ea,A6.ew];cases EV.tg d eq<;>cases EV.tg d ep<;>rfl
end
end Go.Sf
namespace Go.Sf
open Go.RowKit (Below)
def AaD(D:I2)(p q:PR):Bool:=
 match q.op,q.guard,q.dst with
 |.stb _ b v,W,W=>PR.sE D p&&D.contains b&&Ew p.dst.toList (b::v.sl)&&Ew [b] (p.op.slots++p.gsl)&&Ew p.op.dem v.sl|.stx _ b s,W,W=>PR.sE D p&&D.contains b&&Ew p.dst.toList (b::[s])&&Ew [b] (p.op.slots++p.gsl)&&Ew p.op.dem [s]&&Ew [s] p.op.slots&&D.contains s|_,_,_=>T
def Od(b:Nat)(cs:List AQ)(q:Option (Nat×EV))(O:AB):AB:=
 (b,.bx cs)::(match q with|some (s,t)=>(s,t)::O|none=>O)
theorem FC(b:Nat)(cs:List AQ)(q:Option (Nat×EV))(O:AB)(n:Nat):AB.get (Od b cs q O) n=if b=n then .bx cs else(match q with|some (s,t)=>if s=n then t else O.get n|none=>O.get n):=by
 cases q with
 |none=>rfl|some st=>rfl
theorem Fv(b:Nat)(cs:List AQ)(q:Option (Nat×EV))(O:AB)(d:Nat)(h:∀s e,q=Y (s,e)->e.tg d=X):AB.ew d (Od b cs q O)=AB.ew d O:=by
 cases q with
 |none=>simp[Od,AB.ea,EV.tg,EV.n8]|some p=>
  obtain ⟨s,e⟩:=p;have c:=h s e rfl;simp[Od,AB.ea,c];simp[EV.tg,EV.n8]
structure uE(S:FuncId->Fq->At->Prop)(q:PR)(b:Nat)(v:AF)(O gE:AB)(cs cs':List AQ)(o:Option (Nat×EV)):Prop where
 gE:gE=Od b cs' o O
 box:O.get b=.bx cs
 own:∀s e,o=Y (s,e)->v=.s s/\((∃t,e=.tv t/\O.get s=.ow t)\/(e=.undef/\(∃ds,O.get s=.vS ds)/\∃n,q.op=.stx n b s))/\s≠b
 val:∀cs,v.ev O≠.bx cs
 again:∀env2,env2.ew b=X->env2.get b=.bx cs->v.ev env2=v.ev O->∀K2:AB->Prop,K2 (Od b cs' o env2)->q.wp S env2 K2
variable{q:PR}{O:AB}
theorem vD{S:FuncId->Fq->At->Prop}{K:AB->Prop}{n b:Nat}{v:AF}(f:q.op=.stb n b v\/∃s,v=.s s/\q.op=.stx n b s)(k:q.guard=W)(hd:q.dst=W)(h:q.wp S O K):∃gE,K gE/\∃cs cs' o,uE S q b v O gE cs cs' o:=by
 rcases f with f|⟨s,rfl,f⟩
 .unfold PR.wp at h;rw[k,f,hd]at h;simp only[AE.wp]at h;split at h
  .rename_i cs m;split at h
   .rename_i t hv;cases v with
    |c t=>exact h.elim|s y=>
     simp only at h;simp[AF.ev]at hv;refine⟨_,h.2.2.2,cs,_,Y (y,.tv t),rfl,m,?_,?_,λenv2 u l j w g=>?_⟩
     .grind
     .grind[AF.ev]
     .simp[AF.ev]at j;unfold PR.wp;rw[k,f,hd];simp[AE.wp,l,AF.ev,j,hv];exact⟨h.1,h.2.1,h.2.2.1,g⟩
   next t hv=>refine⟨_,h.2.2,cs,_,W,rfl,m,V,u?,λenv2 u l j w g=>?_⟩;unfold PR.wp;rw[k,f,hd];simp only[AE.wp,l,j,hv];exact⟨h.1,h.2.1,g⟩
   .exact h.elim
  .exact h.elim
 .unfold PR.wp at h;rw[k,f,hd]at h;simp only[AE.wp]at h;split at h
  .rename_i cs ds m hv;refine⟨_,h.2.2.2,cs,_,Y (s,.undef),rfl,m,?_,by simp[AF.ev,hv],λenv2 u l j w g=>?_⟩
   .grind
   .simp[AF.ev]at j;unfold PR.wp;rw[k,f,hd];simp only[AE.wp,l,j,hv];exact⟨h.1,⟨h.2.1.1,by rw[AB.noX_ref u,Bool.or_true]⟩,h.2.2.1,g⟩
  .exact h.elim
section
variable{P:Program}{F0:Nat->Nat->Prop}{w0:W0}{N:Nat}{ops:Array Oper}{K:AB->Prop}{D:I2}
variable{O:AB}{p q:PR}{rs:List PR}
theorem tj(hR:LA F0 w0 N O)(hj:JD D O){op:Oper}(hp:LL P N ops op p=X)(f:AaD D p q=X)(h:D0 (AV P) K (p::q::rs) O):D0 (AV P) K (q::p::rs) O:=by
 have key:∃n b v,(q.op=.stb n b v\/∃s,v=.s s/\q.op=.stx n b s)/\q.guard=W/\q.dst=W/\(((((PR.sE D p=X/\D.contains b=X)/\Ew p.dst.toList (b::v.sl)=X)/\Ew [b] (p.op.slots++p.gsl)=X)/\Ew p.op.dem v.sl=X)/\(∀n s,q.op=.stx n b s->Ew [s] p.op.slots=X/\D.contains s=X)):=by
  unfold AaD at f;split at f
  .grind
  .rename_i n b s Q ζ hd;simp only[gN]at f;refine⟨n,b,.s s,.inr ⟨s,rfl,Q⟩,ζ,hd,f.1.1,λn' s' h=>?_⟩
   grind
  .cases f
 clear f;obtain⟨n,b,v,Q,ζ,hd,f,hstx⟩:=key
 .simp[PR.sE,v?]at f;obtain⟨⟨⟨⟨⟨⟨⟨⟨pm,pd⟩,pg⟩,pb⟩,pD⟩,δ⟩,c1⟩,c2⟩,c3⟩:=f;obtain⟨G,hdp⟩:=w!.1 pd;rw[hdp]at c1;simp at c1;have δ:b∈D:=by simpa using δ
  have hpb:G≠b:=λe=>Av c1 (x:=G) V c!;have pnv:G∉v.sl:=λe=>Av c1 (x:=G) V c!;have y:b∉p.op.slots:=λe=>Av c2 (x:=b) V (Cq e);have bng:b∉p.gsl:=λe=>Av c2 (x:=b) V (DJ e);have dv:∀s,s∈p.op.dem->s∈v.sl->False:=λs l j=>Av c3 l j;have pg':p.op.nx=X->p.guard=W:=λhn=>by
   rcases pg with h|h
   .rw[hn]at h;cases h
   .simpa using h
  obtain ⟨w,θ,h⟩:=h;have hR':=hR.congr θ.symm;have z:=hj.congr θ.symm;obtain⟨gE,⟨⟨e1,I,hw⟩,ep,ε,B⟩,hR1⟩:=EU hR' hp (Ph hdp pm pg' h);have hj1:=B.jd pb z;have Z:∀n,e1.get n=if G=n then ep else ε.on n (w.get n):=λn=>by
   rw [I.1,B.gE,AB.d3,A6.get]
  have R:∀e,ε.on b e=e:=by
   intro e;have:=B.slot;have j:=B.cell;cases ε with
   |none=>rfl|slot s t=>
    simp only[A6.on];rw[aE];intro he;subst he;exact y (CR (this _ _ rfl))
   |cell s κ t=>
    simp only[A6.on];rw[aE];intro he;subst he;rcases j _ _ _ rfl with A|⟨x,_,F⟩
    .exact y A
    .exact z.no F δ
  have gb:e1.get b=w.get b:=by rw[Z,aE hpb,R]
  obtain ⟨X1,hK,cs,cs',o,Fs⟩:=vD Q ζ hd hw;have hbox:w.get b=.bx cs:=by rw[<-gb];exact Fs.box
  have hv:v.ev w=v.ev e1:=by
   cases v with
   |c t=>rfl|s m=>
    have hm:G≠m:=λe=>pnv (by simp[AF.sl,e]);simp[AF.ev];have u:=Fs.val;simp[AF.ev]at u;rw[Z,aE hm]at u|-;have l:=B.slot;have j:=B.ok;cases ε with
    |none=>rfl|slot s t=>
     simp only[A6.on];rw[aE (λ(e:s=m)=>dv s (l _ _ rfl) (by simp[AF.sl,e]))]
    |cell s κ t=>
     simp only[A6.on]at u|-;split
     next e=>subst e;obtain⟨ds,A,_⟩:=j;rw[QQ rfl,A]at u;exact absurd rfl (u _)
     .rfl
  have k:∀s e,o=Y (s,e)->((∃t,e=.tv t/\w.get s=.ow t)\/(e=.undef/\∃ds,w.get s=.vS ds))/\s≠b/\s∈v.sl/\s≠G:=by
   intro s t ho;obtain⟨l,j,A⟩:=Fs.own s t ho;subst l;simp[AF.ev]at hv;refine⟨?_,A,c_,λe=>pnv (by simp[AF.sl,e])⟩;rw[hv];rcases j with j|⟨j,F,_⟩
   .exact .inl j
   .exact .inr ⟨j,F⟩
  have C:∀s,o=Y (s,.undef)->s∉p.op.slots/\s∈D:=by
   intro s ho;obtain⟨_,j,_⟩:=Fs.own s _ ho;rcases j with⟨t,j,_⟩|⟨_,_,n',F⟩
   .cases j
   .obtain⟨h5,h6⟩:=hstx n' s F;exact⟨λe=>Av h5 V e,by simpa using h6⟩
  have E:∀d s e,o=Y (s,e)->e.tg d=X:=by
   intro d s e ho;rcases(k s e ho).1 with⟨t,rfl,_⟩|⟨rfl,_⟩<;>rfl
  have H:∀s e,o=Y (s,e)->∀ds,w.get s≠.bx ds:=by
   intro s e ho ds h;rcases(k s e ho).1 with⟨t,_,j⟩|⟨_,ds',j⟩<;>rw[j]at h<;>cases h
  have g2:∀n,b≠n->(∀s t,o=Y (s,t)->s≠n)->AB.get (Od b cs' o w) n=w.get n:=by
   intro n l j;rw[FC,aE l];cases o with
   |none=>rfl|some st=>
    obtain ⟨s,t⟩:=st;simp only;rw[aE (j s t rfl)]
  have lk:∀n,b≠n->o≠Y (n,.undef)->(w.get n).like (AB.get (Od b cs' o w) n):=by
   intro n l h0;rw[FC,aE l];cases o with
   |none=>exact .inl rfl|some st=>
    obtain ⟨s,t⟩:=st;simp only;split
    .rename_i e;subst e;rcases(k s t rfl).1 with⟨t,rfl,A⟩|⟨rfl,_⟩
     .obtain⟨m,es,rfl⟩:=hR'.list A;exact .inr (.inl ⟨m,es,.inr ⟨A,rfl⟩⟩)
     .exact absurd rfl h0
    .exact .inl rfl
  have L:EL p.op ε (Y G) w (Od b cs' o w):=by
   refine ⟨λs η=>lk s (λe=>y (e▸η)) (λe=>(C s e).1 η),λs η r J=>lk r (λe=>z.no J (e▸δ)) (λe=>z.no J (C r e).2),λs η _=>g2 s (λe=>y (e▸CR η)) (λs' t ho e=>dv s η (e▸(k s' t ho).2.2.1)),?_,λhn d hd M=>by rw[Fv _ _ _ _ _ (E d)];exact M⟩;have l:=B.slot;have j:=B.ok;have A:=R;have F:=B.cell;cases ε with
   |none=>trivial|slot s t=>
    simp [A6.ok]at j|-;rw[g2 s (λe=>y (e▸CR (l _ _ rfl))) (λs' t ho e=>dv s (l _ _ rfl) (e▸(k s' t ho).2.2.1))];exact j
   |cell s κ t=>
    obtain ⟨ds,h5,h6⟩:=j;refine⟨ds,?_,h6⟩;rw[g2 s (λe=>?_) (λs' t' ho e=>?_)]
    .exact h5
    .rcases F _ _ _ rfl with h7|⟨x,_,h8⟩
     .exact y (e▸h7)
     .exact z.no h8 (e▸δ)
    .exact H s' t' ho _ (e▸h5)
  have hgp:∀g∈p.gsl,AB.get (Od b cs' o w) g=w.get g:=by
   intro g ζ;obtain⟨bb,J,_,M,hno'⟩:=TQ h g ζ;refine g2 g (λe=>bng (e▸ζ)) (λs t ho e=>?_);rcases(k s t ho).1 with⟨t,_,j⟩|⟨_,ds',j⟩
   .rw[<-e,j]at J;exact absurd J.symm (M _)
   .rw[<-e,j]at J;exact absurd J.symm (hno' _)
  refine ⟨w,θ,Fs.again w (z _ δ) hbox hv _ ⟨_,.refl _,B.again _ L hgp _ (F4 hK ?_)⟩⟩;rw[Fs.gE];refine⟨λn=>?_,λd=>?_⟩
  .rw[AB.d3,A6.get,FC,FC];by_cases l:G=n
   .subst l;rw[aE (λe=>hpb e.symm),QQ rfl];cases o with
    |none=>simp only;rw[Z,QQ rfl]|some st=>
     obtain ⟨s,t⟩:=st;simp only;rw[aE (k s t rfl).2.2.2,Z,QQ rfl]
   .rw[aE l];by_cases j:b=n
    .subst j;rw[QQ rfl,QQ rfl,R]
    .rw[aE j,aE j];cases o with
     |none=>simp only;rw[Z,aE l]|some st=>
      obtain ⟨s,t⟩:=st;simp only;by_cases A:s=n
      .subst A;rw[QQ rfl,QQ rfl];have F:=B.slot;have h5:=B.ok;have h6:=(k s t rfl);have h6':=H s t rfl;have h6'':∀ds,t≠.bx ds:=by
        intro ds h;rcases h6.1 with⟨t,rfl,_⟩|⟨rfl,_⟩<;>cases h
       cases ε with
       |none=>rfl|slot s' t'=>
        simp only[A6.on];rw[aE (λ(e:s'=s)=>dv s' (F _ _ rfl) (by rw[e];exact h6.2.2.1))]
       |cell s' κ t'=>
        simp only[A6.on];split
        next e=>subst e;obtain⟨ds,h7,_⟩:=h5;exact absurd h7 (h6' _)
        .rfl
      .rw[aE A,aE A,Z,aE l]
  .rw[Fv _ _ _ _ _ (E d),I.2,B.gE,AB.ea,A6.ew,AB.ea,A6.ew,Fv _ _ _ _ _ (E d)]
def AaT(D:I2)(p q:PR):Bool:=
 match q.op,q.guard,q.dst with
 |.tkx s,W,Y d=>PR.sE D p&&D.contains s&&D.contains d&&Ew p.dst.toList [s,d]&&Ew [s,d] (p.op.slots++p.gsl)|_,_,_=>T
variable{s d:Nat}
theorem iF{S:FuncId->Fq->At->Prop}{K:AB->Prop}(c:q.op=.tkx s)(f:q.guard=W)(hd:q.dst=Y d)(h:q.wp S O K):∃n es,O.get s=.xo n es/\O.ew d=X/\d≠s/\K ((d,.xo n es)::(s,.undef)::O):=by
 simp [PR.wp,c,f,hd,AE.wp,AB.put]at h
 grind
variable{n:Nat}
theorem iG{S:FuncId->Fq->At->Prop}{K:AB->Prop}{es:Fq}(c:q.op=.tkx s)(f:q.guard=W)(hd:q.dst=Y d)(g:O.get s=.xo n es)(j:O.ew d=X)(k:d≠s)(h:K ((d,.xo n es)::(s,.undef)::O)):q.wp S O K:=by
 simp [PR.wp,c,f,hd,AE.wp,AB.put,g];exact⟨j,k,h⟩
theorem w7(hR:LA F0 w0 N O)(hj:JD D O){op:Oper}(hp:LL P N ops op p=X)(f:AaT D p q=X)(h:D0 (AV P) K (p::q::rs) O):D0 (AV P) K (q::p::rs) O:=by
 unfold AaT at f;split at f
 .rename_i s d M hg hd;simp[PR.sE,v?]at f;obtain⟨⟨⟨⟨⟨⟨⟨⟨pm,pd⟩,pg⟩,pb⟩,pD⟩,G⟩,R⟩,ζ⟩,δ⟩:=f;obtain⟨C,ε⟩:=w!.1 pd;rw[ε]at ζ;simp at ζ;have G:s∈D:=by simpa using G
  have R:d∈D:=by simpa using R
  have θ:C≠s:=λe=>Av ζ (x:=C) V c!;have hpd:C≠d:=λe=>Av ζ (x:=C) V c!;have j:s∉p.op.slots:=λe=>Av δ (x:=s) V (Cq e);have l:d∉p.op.slots:=λe=>Av δ (x:=d) V (Cq e);have sng:s∉p.gsl:=λe=>Av δ (x:=s) V (DJ e);have dng:d∉p.gsl:=λe=>Av δ (x:=d) V (DJ e);have pg':p.op.nx=X->p.guard=W:=λhn=>by
   rcases pg with h|h
   .rw[hn]at h;cases h
   .simpa using h
  obtain ⟨w,E,h⟩:=h;have hR':=hR.congr E.symm;have u:=hj.congr E.symm;obtain⟨gE,⟨⟨e1,v,hw⟩,ep,κ,A⟩,hR1⟩:=EU hR' hp (Ph ε pm pg' h);have g1:∀n,e1.get n=if C=n then ep else κ.on n (w.get n):=λn=>by
   rw [v.1,A.gE,AB.d3,A6.get]
  have B:∀x,x∈D->x∉p.op.slots->∀e,κ.on x e=e:=by
   intro x hxD Q e;have:=A.slot;have k:=A.cell;cases κ with
   |none=>rfl|slot s t=>
    simp only[A6.on];rw[aE];intro he;subst he;exact Q (CR (this _ _ rfl))
   |cell s off t=>
    simp only[A6.on];rw[aE];intro he;subst he;rcases k _ _ _ rfl with I|⟨y,_,η⟩
    .exact Q I
    .exact u.no η hxD
  obtain ⟨n,es,k1,k2,k3,hK⟩:=iF M hg hd hw;rw[g1,aE θ,B s G j]at k1;rw[v.2,A.gE,AB.ea,A6.ew,gN]at k2;have H:∀m,m≠d->m≠s->AB.get ((d,.xo n es)::(s,.undef)::w) m=w.get m:=λm z k=>by
   rw [AB.d3,aE (λe=>z e.symm),AB.d3,aE (λe=>k e.symm)]
  have nr:∀c,AB.ew c ((d,EV.xo n es)::(s,EV.undef)::w)=AB.ew c w:=λc=>by
   simp [AB.ea,EV.tg,EV.n8]
  have L:EL p.op κ (Y C) w ((d,.xo n es)::(s,.undef)::w):=by
   refine ⟨λx F=>.inl (H x (λe=>l (e▸F)) (λe=>j (e▸F))),λx F r hr=>.inl (H r (λe=>u.no hr (e▸R)) (λe=>u.no hr (e▸G))),λx F _=>H x (λe=>l (e▸CR F)) (λe=>j (e▸CR F)),?_,λhn d' hd' Z=>by rw[nr];exact Z⟩;have z:=A.slot;have k:=A.ok;have η:=A.cell;cases κ with
   |none=>trivial|slot x t=>
    simp [A6.ok]at k|-;rw[H x (λe=>l (e▸CR (z _ _ rfl))) (λe=>j (e▸CR (z _ _ rfl)))];exact k
   |cell x off t=>
    obtain ⟨ds,h5,h6⟩:=k;refine⟨ds,?_,h6⟩;rw[H x (λe=>?_) (λe=>?_)]
    .exact h5
    .rcases η _ _ _ rfl with h7|⟨y,_,h8⟩
     .exact l (e▸h7)
     .exact u.no h8 (e▸R)
    .rcases η _ _ _ rfl with h7|⟨y,_,h8⟩
     .exact j (e▸h7)
     .exact u.no h8 (e▸G)
  have hgp:∀g∈p.gsl,AB.get ((d,.xo n es)::(s,.undef)::w) g=w.get g:=λg J=>H g (λe=>dng (e▸J)) (λe=>sng (e▸J));refine⟨w,E,iG M hg hd k1 k2.2 k3 ⟨_,.refl _,A.again _ L hgp _ (F4 hK ?_)⟩⟩;refine⟨λm=>?_,λc=>?_⟩
  .simp[AB.d3,A6.get,g1];by_cases z:d=m
   .subst z;rw[QQ rfl,aE hpd,B d R l,QQ rfl]
   .rw[aE z];by_cases k:s=m
    .subst k;rw[QQ rfl,aE θ,B s G j,aE z,QQ rfl]
    .rw[aE k];by_cases I:C=m
     .rw[QQ I,QQ I]
     .rw[aE I,aE I,aE z,aE k]
  .simp[AB.ea,A6.ew,v.2,A.gE];have e1:EV.tg c (EV.xo n es)=X:=rfl;have e2:EV.tg c EV.undef=X:=rfl;rw[e1,e2];cases EV.tg c ep<;>rfl
 .cases f
def wV:AE->Bool
 |.xal _=>X|.mv _=>X|.bad _ _=>X|.zt _ _=>X|.ld _=>X|.lac _=>X|_=>T
def AaS(D:I2)(p q:PR):Bool:=
 match q.op,q.guard,q.dst,p.guard,p.dst with
 |.xst x v _,W,W,W,Y d=>PR.sE D p&&wV p.op&&!(x.sl.contains d)&&!(v.sl.contains d)|_,_,_,_,_=>T
variable{i:Option Nat}
theorem O7{q:Nat}{es es':Fq}(h:O.ln q i=Y (n,es)):(∃u,AB.get (O.sc q i n es') q=u/\((∃m c,O.get q=.xo m c/\∃m' fs',u=.xo m' fs')\/(∃cs k,i=Y k/\cs[k]?=Y ⟨X,.xl n es⟩/\O.get q=.bx cs/\u=.bx (cs.set k ⟨X,.xl n es'⟩))))/\(∀m,q≠m->AB.get (O.sc q i n es') m=O.get m)/\∀d,AB.ew d (O.sc q i n es')=O.ew d:=by
 cases i with
 |none=>
  grind [AB.ln,AB.sc,AB.d3,AB.ea,EV.tg,EV.n8]
 |some k=>
  grind [AB.ln,kx,AB.sc,AB.d3,AB.ea,EV.tg,EV.n8]
theorem fv(l:List AQ)(c:Nat):E4 ((l.drop c).map (·.t))=(l[c]?).map (·.t):=by
 rw [show l[c]?=(l.drop c)[0]? by rw[List.getElem?_drop,Nat.add_zero]];cases l.drop c<;>rfl
variable{t:TV}
theorem pS{ds:List AQ}{k c n:Nat}{es es':Fq}(g:t.Aai=T)(h:ds[k]?=Y ⟨X,.xl n es⟩)(f:E4 ((ds.drop c).map (·.t))=Y t):E4 (((ds.set k ⟨X,.xl n es'⟩).drop c).map (·.t))=Y t:=by
 rw [fv]at f|-;by_cases e:k=c
 .subst e;rw[h]at f;simp at f;subst f;cases g
 grind
theorem tR{S:FuncId->Fq->At->Prop}{op:AE}(ho:wV op=X){dst:Option Nat}{K:EV->AB->Prop}(h:op.wp S O dst K):
  ∃e,K e O/\(∀m I,e≠.xo m I)/\(∀cs,e≠.bx cs)/\∀(q n:Nat)(i:Option Nat)(es es':Fq),O.ln q i=Y (n,es)->∀A:EV->AB->Prop,A e (O.sc q i n es')->op.wp S (O.sc q i n es') dst A:=by
 have C:∀{q n:Nat}{i:Option Nat}{es es':Fq},O.ln q i=Y (n,es)->∀m e,O.get m=e->(∀k I,e≠.xo k I)->(∀cs,e≠.bx cs)->AB.get (O.sc q i n es') m=e:=λ{q n i es es'}g m e w F κ=>by
  obtain ⟨⟨u,M,l⟩,H,_⟩:=O7 (es':=es') g
  grind
 have E:∀{q n:Nat}{i:Option Nat}{es es':Fq},O.ln q i=Y (n,es)->∀m cs,O.get m=.bx cs->∃cs',AB.get (O.sc q i n es') m=.bx cs'/\∀v t,t.Aai=T->E4 ((cs.drop v).map (·.t))=Y t->E4 ((cs'.drop v).map (·.t))=Y t:=λ{q n i es es'}g m cs w=>by
  obtain ⟨⟨u,M,l⟩,H,_⟩:=O7 (es':=es') g
  grind [pS]
 have z:∀{q n:Nat}{i:Option Nat}{es es':Fq},O.ln q i=Y (n,es)->∀(x:AF)e,x.ev O=e->(∀m I,e≠.xo m I)->(∀cs,e≠.bx cs)->x.ev (O.sc q i n es')=e:=by
  intro q n i es es' g x e he w F;cases x with
  |c t=>exact he|s y=>exact C g y e he w F
 cases op with
 |mv x=>
  simp [AE.wp]at h|-;split at h
  next t j=>exact⟨_,h,V,V,λq n i es es' g A f=>i?⟩
  next t j=>exact⟨_,h,V,V,λq n i es es' g A f=>i?⟩
  next t j=>exact⟨_,h,V,V,λq n i es es' g A f=>i?⟩
  .exact h.elim
 |lac x=>
  simp [AE.wp]at h|-;split at h
  .rename_i s v j;split at h
   .rename_i η ζ;refine⟨_,h,V,V,λq n i es es' g A f=>?_⟩;rw[z g x _ j V V];have L:∃r,(O.sc q i n es').ln s (Y v)=Y r:=by
     cases i with
     |none=>grind[AB.ln,AB.sc,AB.d3]|some k=>grind[AB.ln,AB.sc,AB.d3]
    obtain ⟨r,L⟩:=L;simp only[L];exact f
   .exact h.elim
  .exact h.elim
 |xal s=>
  simp [AE.wp]at h|-;split at h
  .rename_i m I B;refine⟨_,h,V,V,λq n i es es' g A f=>?_⟩;obtain⟨⟨u,M,l⟩,H,_⟩:=O7 (es':=es') g;by_cases e:q=s
   .subst e;rcases l with⟨_,_,_,m',fs',rfl⟩|⟨_,_,_,_,θ,_⟩
    .rw[M];exact f
    .rw[B]at θ;cases θ
   .rw[H s e,B];exact f
  .exact h.elim
 |bad s k=>
  simp [AE.wp]at h|-;split at h
  next cs B=>refine⟨_,h,V,V,λq n i es es' g A f=>?_⟩;obtain⟨cs',w,_⟩:=E (es':=es') g s cs B;rw[w];exact f
  next row B=>exact⟨_,h,V,V,λq n i es es' g A f=>by rw[C g s _ B V V];exact f⟩
  .exact h.elim
 |zt x k=>
  simp [AE.wp]at h|-;split at h
  next row j=>exact⟨_,h,V,V,λq n i es es' g A f=>i?⟩
  .rename_i s v j;split at h
   next cs B=>refine⟨_,h,V,V,λq n i es es' g A f=>?_⟩;obtain⟨cs',w,_⟩:=E (es':=es') g s cs B;rw[z g x _ j V V];simp only;rw[w];exact f
   .exact h.elim
  .exact h.elim
 |ld x=>
  simp [AE.wp]at h|-;cases l:A7 O (x.ev O)with
  |none=>rw[l]at h;exact h.elim|some cs=>
   rw [l]at h;simp[Ai]at h;cases J:E4 cs with
   |none=>rw[J]at h;exact h.elim|some t=>
    rw [J]at h;obtain⟨Q,h⟩:=h;refine⟨_,h,V,V,λq n i es es' g A f=>?_⟩;have ε:∃cs',A7 (O.sc q i n es') (x.ev (O.sc q i n es'))=Y cs'/\E4 cs'=Y t:=by
     cases x with
     |c R=>exact⟨cs,by rw[<-l];cases R<;>rfl,J⟩
     |s y=>
      simp [AF.ev]at l|-;cases G:O.get y with
      |bp s v=>
       rw [C g y _ G V V];rw[G]at l;simp only[A7]at l|-;split at l
       next ds B=>cases l;obtain⟨cs',w,F⟩:=E (es':=es') g s ds B;rw[w];exact⟨_,rfl,F _ _ Q J⟩
       .cases l
      |tv R=>
       rw [C g y _ G V V];rw[G]at l;exact⟨cs,by rw[<-l];cases R<;>rfl,J⟩
      |bx ds=>
       rw [G]at l;simp[A7]at l;subst l;obtain⟨cs',w,F⟩:=E (es':=es') g y ds G;rw[w];have:=F 0 t Q (by simpa using J);exact⟨_,rfl,by simpa using this⟩
      |_=>rw[G]at l;cases l
    obtain ⟨cs',w,F⟩:=ε;rw[w];simp[Ai,F];exact⟨Q,f⟩
 |_=>cases ho
variable{e:EV}
theorem aV{O g:AB}{d t n:Nat}{es:Fq}(h:M7 g ((d,e)::O))(j:d≠t):M7 (g.sc t i n es) ((d,e)::O.sc t i n es):=by
 have v:g.get t=O.get t:=by rw[h.1,AB.d3,aE j]
 have f:∀u:EV,(∀c,EV.tg c u=X)->M7 ((t,u)::g) ((d,e)::(t,u)::O):=by
  intro u l;refine⟨λm=>?_,λc=>?_⟩
  .rw[AB.d3,h.1,AB.d3,AB.d3,AB.d3]
   grind
  .rw[AB.ea,h.2,AB.ea,AB.ea,AB.ea,l];cases EV.tg c e<;>rfl
 cases i with
 |none=>exact f _ λc=>rfl|some k=>
  simp [AB.sc,v];split
  .exact f _ λc=>rfl
  .exact h
theorem xA(f:AaS D p q=X)(h:D0 (AV P) K (p::q::rs) O):D0 (AV P) K (q::p::rs) O:=by
 unfold AaS at f;split at f
 .rename_i x v Z d A B hd I J;simp[v?,decide_eq_false_iff_not]at f;obtain⟨⟨⟨_,ho⟩,C⟩,E⟩:=f;obtain⟨z,F,h⟩:=h;simp[PR.wp,I,J,AB.put]at h;obtain⟨e,⟨G,j,l⟩,R,θ,H⟩:=tR ho h;have w:∀(y:AF),d∉y.sl->y.ev G=y.ev z:=by
   intro y hy;cases y with
   |c t=>rfl|s m=>
    simp [AF.ev,j.1,AB.d3]
    grind [AF.sl]
  refine ⟨z,F,?_⟩;simp[PR.wp,B,hd,A,AE.wp,w x C,w v E]at l|-;split at l
  .rename_i t i c hx;split at l
   .rename_i n es u L M;obtain⟨ε,κ,es',η,ζ,δ,hK⟩:=l;have g:d≠t:=by
     intro g;have B:G.get t=e:=by rw[j.1,AB.d3,QQ g]
     cases i with
     |none=>
      grind [AB.ln]
     |some k=>
      grind [AB.ln]
    have Q:z.ln t i=Y (n,es):=by
     have B:G.get t=z.get t:=by rw[j.1,AB.d3,aE g]
     grind [AB.wm]
    rw [Q,M];refine⟨ε,κ,es',η,ζ,δ,_,.refl _,?_⟩
    grind [PR.wp,AB.put,F4,aV]
   .exact l.elim
  .exact l.elim
 .cases f
end
end Go.Sf
