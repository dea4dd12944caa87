/- Two operations of a region that may change places. -/
import Derived.Test.YtbmgmpeimdomoaaGreatSfFrame
set_option linter.all false
open Option renaming some->Y,none->W
open Bool renaming true->X,false->T
open Bool renaming not_eq_true'->w!,and_true->w?
open Option renaming isSome_iff_exists->x_
namespace Go.Sf
open Go.RowKit (Below)
theorem AB.c9(d k:Nat)(e:EV)(ε:AB):AB.ek d ((k,e)::ε)=(e.x8 d&&AB.ek d ε):=rfl
variable{d:Nat}{e:EV}
theorem Ul(h:∀s,e.pr=Y s->s≠d):e.x8 d=X:=by grind[EV.x8]
theorem A6.ek(f:A6)(ε:AB)(d:Nat):AB.ek d (f.app ε)=AB.ek d ε:=by
 cases f with
 |none=>rfl|slot s t=>simp[A6.app,AB.c9,EV.x8,EV.pr]|cell s c t=>
  grind [A6.app,AB.c9,EV.x8,EV.pr]
def A6.on(f:A6)(n:Nat)(e:EV):EV:=
 match f with
 |.none=>e|.slot s t=>if s=n then .tv t else e|.cell s off t=>if s=n then(match e with|.bx cs=>.bx (cs.set off ⟨T,t⟩)|e=>e)else e
theorem A6.get(f:A6)(ε:AB)(n:Nat):AB.get (f.app ε) n=f.on n (ε.get n):=by
 cases f with
 |none=>rfl|slot s t=>simp[A6.app,AB.bn,A6.on]|cell s c t=>
  simp [A6.app,A6.on]
  grind [AB.bn]
def Ni(ε env2:AB):Prop:=(∀n,ε.get n=env2.get n)/\∀d,ε.ek d=env2.ek d
theorem Ni.refl(ε:AB):Ni ε ε:=⟨λ_=>rfl,λ_=>rfl⟩
theorem Ni.trans{a b c:AB}(h:Ni a b)(f:Ni b c):Ni a c:=⟨λn=>(h.1 n).trans (f.1 n),λd=>(h.2 d).trans (f.2 d)⟩
variable{a b:AB}
theorem Ni.symm(h:Ni a b):Ni b a:=⟨λn=>(h.1 n).symm,λd=>(h.2 d).symm⟩
def EM(S:FuncId->Fq->As->Prop)(K:AB->Prop):List PR->AB->Prop
 |[],ε=>∃e,Ni e ε/\K e|r::rs,ε=>∃e,Ni e ε/\r.wp S e (EM S K rs)
section
variable{S:FuncId->Fq->As->Prop}{K:AB->Prop}
variable{rs:List PR}
theorem Gd{ε env2:AB}(h:EM S K rs ε)(he:Ni ε env2):EM S K rs env2:=by
 cases rs with
 |nil=>obtain⟨e,c,f⟩:=h;exact⟨e,c.trans he,f⟩
 |cons r rs=>obtain⟨e,c,f⟩:=h;exact⟨e,c.trans he,f⟩
theorem nD:∀{rs:List PR}{ε:AB},wpOps S K rs ε->EM S K rs ε
 |[],ε,h=>⟨ε,.refl _,h⟩|r::rs,ε,h=>⟨ε,.refl _,PR.gt S ε (λe he=>nD he) r h⟩
def PR.gsl(r:PR):I2:=
 match r.guard with
 |some (g,_)=>[g]|none=>[]
structure Py(S:FuncId->Fq->As->Prop)(r:PR)(d:Nat)(ε gk:AB)(e:EV)(f:A6):Prop where
 gk:gk=(d,e)::f.app ε
 ok:f.ok ε
 slot:∀s t,f=.slot s t->s∈r.op.dem
 cell:∀s off t,f=.cell s off t->(s∈r.op.slots\/∃x∈r.op.slots,(ε.get x).pr=Y s)
 pr:∀s,e.pr=Y s->(s∈r.op.Aa1\/∃x∈r.op.slots,(ε.get x).pr=Y s)
 new:r.op.pq=X->e.pr=W/\ε.ek d=X
 xl:∀s off t,f=.cell s off t->t.Aav=T
 again:∀env2,Eg r.op f (Y d) ε env2->(∀g∈r.gsl,env2.get g=ε.get g)->∀K2:AB->Prop,K2 ((d,e)::f.app env2)->r.wp S env2 K2
variable{r:PR}{d:Nat}{ε:AB}
theorem P3(hd:r.dst=Y d)(B:r.op.mov=X)(H:r.op.pq=X->r.guard=W)(h:r.wp S ε K):r.wp S ε λgk=>K gk/\∃e f,Py S r d ε gk e f:=by
 have A:∀(m:∀env2,(∀g∈r.gsl,env2.get g=ε.get g)->∀u:AB->Prop,(r.op.wp S env2 (Y d) λe env'=>u (env'.put (Y d) e))->r.wp S env2 u),(r.op.wp S ε (Y d) λe env'=>K (env'.put (Y d) e))->r.op.wp S ε (Y d) λe env'=>K (env'.put (Y d) e)/\∃C f,Py S r d ε (env'.put (Y d) e) C f:=by
  intro m F;refine AE.gt S ε (Y d) (λe env' he=>?_) r.op (frame B F);obtain⟨G,f,c⟩:=he;refine⟨G,e,f,?_,c.ok,c.slot,c.cell,c.pr,λv=>⟨(c.new v).1,(c.new v).2 d rfl⟩,c.xl,λenv2 E k u j=>?_⟩
  .simp[AB.put];rw[c.env']
  .exact m env2 k u (c.again env2 E _ j)
 unfold PR.wp at h|-;cases l:r.guard with
 |none=>
  grind [PR.wp]
 |some gb=>
  obtain ⟨g,b⟩:=gb;rw[l]at h;rw[hd]at h|-;simp only at h|-;have k:g∈r.gsl:=by simp[PR.gsl,l]
  split at h
  .rename_i q z;refine⟨λw=>A (λenv2 c u j=>?_) (h.1 w),λw=>⟨h.2 w,.sk,.none,rfl,trivial,V,V,(λs he=>o_),λv=>?_,V,λenv2 _ c u j=>?_⟩⟩
   .grind[PR.wp]
   .grind
   .unfold PR.wp;rw[l,hd];simp only;rw[c g k,z];exact⟨λy=>by subst y;cases q<;>simp at w,λ_=>j⟩
  .rename_i z;refine⟨h,.sk,.none,rfl,trivial,V,V,(λs he=>o_),λv=>?_,V,λenv2 _ c u j=>?_⟩
   .grind
   .unfold PR.wp;rw[l,hd];simp only;rw[c g k,z];exact j
  .exact h.elim
end
section
variable{P:Program}{F0:Nat->Nat->Prop}{w0:W0}{N:Nat}{ops:Array Oper}{K:AB->Prop}
def LU(F0:Nat->Nat->Prop)(w0:W0)(N:Nat)(ε:AB):Prop:=∃a w,a.tmps.size=N/\Bt F0 w0 ε a w
theorem LU.congr{ε env2:AB}(h:LU F0 w0 N ε)(he:Ni ε env2):LU F0 w0 N env2:=by
 obtain ⟨a,w,c,f⟩:=h;exact⟨a,w,c,f.congr he.1⟩
variable{ε:AB}{s:Nat}{t:TV}
theorem LU.list(h:LU F0 w0 N ε)(c:ε.get s=.ow t):∃n es,t=.list n es:=by
 obtain ⟨a,w,_,G,f⟩:=h;have:=Ag f c V;simp[AM]at this;cases t<;>simp[Bq]at this;exact⟨_,_,rfl⟩
variable{o:Oper}
theorem j6{a:Act}{w:World}{ζ:Prop}(h:o.wp P a w (λ_ _=>ζ) (λ_ _ _=>False)):ζ:=by
 unfold Oper.wp at h;generalize (execOp a.eval o).run P w=r at h;cases r with
 |ok n w'=>
  cases n with
  |value v=>exact h|skip=>exact h|defer d=>exact h|enter f args=>
   rw [Oper.upon_enter]at h;obtain⟨e,j,fr,g,_⟩:=h [];cases e with
   |returned v=>exact g|panicked c=>exact g.elim|outgrown=>obtain⟨_,_,k⟩:=g;exact k.elim
  |row r args=>
   rw [Oper.upon_row]at h;obtain⟨v,j,g,_⟩:=h default [];exact g
  |_=>exact h.elim
 |halt x w'=>
  cases x<;>exact h.elim
variable{r:PR}
theorem Ey(f:LU F0 w0 N ε)(c:Ll P N ops o r=X)(h:r.wp (AS P) ε K):∃env',K env'/\LU F0 w0 N env':=by
 obtain ⟨a,w,l,m⟩:=f;have:=Wv (p:=W) (next:=λ_ _=>∃env',K env'/\LU F0 w0 N env') (Q:=λ_ _ _=>False) m ⟨l,V⟩ V c h λenv' a' w' g j k=>⟨env',g,a',w',j.size,k⟩;split at this
 .exact j6 this
 .exact this
end
def FL(xs ys:I2):Bool:=xs.all λx=>!ys.contains x
variable{x:Nat}
theorem Aw{xs c:I2}(h:FL xs c=X)(f:x∈xs)(g:x∈c):False:=by grind[FL,List.all_eq_true,w!]
def PR.old(r:PR):I2:=
 if r.op.pq then[]else r.dst.toList
def PR.wm(D:I2)(r:PR):Bool:=
 r.op.mov&&r.dst.isSome&&(!r.op.pq||r.guard.isNone)&&FL r.op.Aa1 D&&r.old.all D.contains
def X8(D:I2)(p q:PR):Bool:=
 PR.wm D p&&PR.wm D q&&FL p.dst.toList (q.dst.toList++(q.op.slots++q.gsl))&&FL q.dst.toList (p.op.slots++p.gsl)&&FL p.op.dem (q.op.dem++q.gsl)&&FL q.op.dem p.gsl
variable{s:Nat}
theorem Ci{op:AE}(h:s∈op.dem):s∈op.slots:=by
 cases op<;>simp only[AE.dem,List.not_mem_nil]at h<;>simp only[AE.slots]
 .exact h
 .exact C3 h
theorem iQ{op:AE}(h:s∈op.Aa1):s∈op.slots:=by
 cases op<;>simp[AE.Aa1]at h<;>simp[AE.slots]
 all_goals exact h
def JD(D:I2)(ε:AB):Prop:=∀d∈D,ε.ek d=X
theorem JD.congr{D:I2}{ε env2:AB}(h:JD D ε)(he:Ni ε env2):JD D env2:=λd hd=>by rw[<-he.2];exact h d hd
variable{ε:AB}
theorem JD.no{D:I2}(h:JD D ε)(c:(ε.get x).pr=Y s):s∉D:=λhd=>AB.po s ε (h s hd) x c
section
variable{S:FuncId->Fq->As->Prop}
variable{r:PR}{d:Nat}{e:EV}
theorem Py.jd{D:I2}{ε gk:AB}{f:A6}(h:Py S r d ε gk e f)(k:FL r.op.Aa1 D=X)(j:JD D ε):JD D gk:=by
 intro x g;rw[h.gk,AB.c9,A6.ek,j x g,w?];refine Ul (λs he c=>?_);subst c;rcases h.pr s he with l|⟨y,_,m⟩
 .exact Aw k l g
 .exact j.no m g
variable{ε:AB}
theorem A6.like(f:A6)(c:f.ok ε)(h:∀s t,ε.get s=.ow t->∃n es,t=.list n es)(k:∀s g t,f=.cell s g t->t.Aav=T)(n:Nat):(ε.get n).like (f.on n (ε.get n)):=by
 cases f with
 |none=>exact .inl rfl|slot s t=>
  simp [A6.on];split
  next e=>subst e;simp[A6.ok]at c;obtain⟨m,es,rfl⟩:=h s t c;exact .inr (.inl ⟨m,es,.inr ⟨c,rfl⟩⟩)
  .exact .inl rfl
 |cell s g t=>
  simp [A6.on];split
  .rename_i e;subst e;obtain⟨cs,j,l⟩:=c;rw[j];refine .inr (.inr ⟨cs,_,rfl,rfl,?_⟩);rw[List.map_set];refine List.ext_getElem? λi=>?_
   grind [a6,List.getElem?_eq_some_iff,AO.key]
  .exact .inl rfl
end
variable{r:PR}{ε:AB}
theorem TM{S:FuncId->Fq->As->Prop}{K:AB->Prop}(h:r.wp S ε K):∀g∈r.gsl,∃b,ε.get g=b/\(∀cs,b≠.bx cs)/\(∀t,b≠.ow t)/\∀cs,b≠.oag cs:=by grind[PR.gsl,PR.wp,List.mem_singleton]
section
variable{P:Program}{F0:Nat->Nat->Prop}{w0:W0}{N:Nat}{ops:Array Oper}{K:AB->Prop}{D:I2}
variable{ε:AB}{p q:PR}{rs:List PR}
theorem swap(hR:LU F0 w0 N ε)(hj:JD D ε){op oq:Oper}(hp:Ll P N ops op p=X)(hq:Ll P N ops oq q=X)(Q:X8 D p q=X)(h:EM (AS P) K (p::q::rs) ε):EM (AS P) K (q::p::rs) ε:=by
 simp [X8,PR.wm,w!]at Q;obtain⟨⟨⟨⟨⟨⟨⟨⟨⟨pm,pd⟩,pg⟩,pb⟩,pD⟩,⟨⟨⟨qm,qd⟩,qg⟩,qb⟩,qD⟩,c1⟩,c2⟩,c3⟩,c4⟩:=Q;obtain⟨E,hdp⟩:=x_.1 pd;obtain⟨B,hdq⟩:=x_.1 qd;rw[hdp]at c1;rw[hdq]at c1 c2;simp at c1 c2;have hpq:E≠B:=λe=>Aw c1 (x:=E) V d_;have G:E∉q.op.slots:=λe=>Aw c1 (x:=E) V d_;have pngq:E∉q.gsl:=λe=>Aw c1 (x:=E) V d_;have M:B∉p.op.slots:=λe=>Aw c2 (x:=B) V d_;have qngp:B∉p.gsl:=λe=>Aw c2 (x:=B) V d_;have dd:∀s,s∈p.op.dem->s∈q.op.dem->False:=λs c l=>Aw c3 c (C3 l);have dg1:∀s,s∈p.op.dem->s∈q.gsl->False:=λs c l=>Aw c3 c (De l);have dg2:∀s,s∈q.op.dem->s∈p.gsl->False:=λs c l=>Aw c4 c l;have oldp:p.op.pq=X\/E∈D:=by
  cases C:p.op.pq with
  |true=>exact .inl rfl|false=>exact .inr (by simpa[PR.old,C,hdp]using pD)
 have oldq:q.op.pq=X\/B∈D:=by
  cases C:q.op.pq with
  |true=>exact .inl rfl|false=>exact .inr (by simpa[PR.old,C,hdq]using qD)
 have pg':p.op.pq=X->p.guard=W:=λC=>by
  rcases pg with h|h
  .rw[C]at h;cases h
  .simpa using h
 have qg':q.op.pq=X->q.guard=W:=λC=>by
  rcases qg with h|h
  .rw[C]at h;cases h
  .simpa using h
 obtain ⟨J,heq,h⟩:=h;have hR':=hR.congr heq.symm;have hj':=hj.congr heq.symm;obtain⟨gk,⟨⟨I,A,hw⟩,ep,O,y⟩,hR1⟩:=Ey hR' hp (P3 hdp pm pg' h);have hRe1:=hR1.congr A.symm;have hj1:=y.jd pb hj';have hje1:=hj1.congr A.symm;obtain⟨X1,⟨hK,eq,F,L⟩,_⟩:=Ey hRe1 hq (P3 hdq qm qg' hw);have ζ:∀n,I.get n=if E=n then ep else O.on n (J.get n):=λn=>by
  rw [A.1,y.gk,AB.bn,A6.get]
 have R:∀x s,(I.get x).pr=Y s->s≠E:=by
  intro x s hx z;subst z;rcases oldp with C|hd
  .refine AB.po s I ?_ x hx;rw[A.2,y.gk,AB.c9,A6.ek,(y.new C).2,w?];exact Ul (λs he _=>by rw[(y.new C).1]at he;cases he)
  .exact hje1.no hx hd
 have nq':∀x s,(J.get x).pr=Y s->s≠B:=by
  intro x s hx z;subst z;rcases oldq with C|hd
  .have c:=(L.new C).2;rw[A.2,y.gk,AB.c9,A6.ek,gN]at c;exact AB.po s J c.2 x hx
  .exact hj'.no hx hd
 have lk:∀n,n≠E->(I.get n).like (J.get n):=by
  intro n C;rw[ζ,QQ (λe=>C e.symm)];exact(A6.like O y.ok (λs t z=>hR'.list z) y.xl n).symm
 have fpdq:∀e,O.on B e=e:=by
  intro e;have:=y.slot;have l:=y.cell;cases O with
  |none=>rfl|slot s t=>
   simp only[A6.on];rw[QQ];intro he;subst he;exact M (Ci (this _ _ rfl))
  |cell s j t=>
   simp only[A6.on];rw[QQ];intro he;subst he;rcases l _ _ _ rfl with m|⟨x,_,H⟩
   .exact M m
   .exact nq' x _ H rfl
 have θ:∀e,F.on E e=e:=by
  intro e;have:=L.slot;have l:=L.cell;cases F with
  |none=>rfl|slot s t=>
   simp only[A6.on];rw[QQ];intro he;subst he;exact G (Ci (this _ _ rfl))
  |cell s j t=>
   simp only[A6.on];rw[QQ];intro he;subst he;rcases l _ _ _ rfl with m|⟨x,_,H⟩
   .exact G m
   .exact R x _ H rfl
 have v:F.ok J:=by
  have k:=L.ok;have hsl:=L.slot;have hc:=θ;cases F with
  |none=>trivial|slot s t=>
   simp [A6.ok]at k|-;have z:=hsl s t rfl;have f:E≠s:=λe=>G (e▸Ci z);rw[ζ,QQ f]at k;have c:=y.slot;have l:=y.ok;cases O with
   |none=>exact k|slot s' w=>
    simp [A6.on]at k;rw[QQ (λ(e:s'=s)=>dd s' (c _ _ rfl) (by rw[e];exact z))]at k;exact k
   |cell s' j w=>
    simp [A6.on]at k;split at k
    next e=>subst e;obtain⟨cs,m,_⟩:=l;rw[m]at k;cases k
    .exact k
  |cell s j t=>
   obtain ⟨cs,c,l⟩:=k;have f:E≠s:=λe=>by
    have:=hc (.bx [⟨X,.undef⟩,⟨X,.undef⟩]);rcases L.cell s j t rfl with m|⟨x,_,H⟩
    .exact G (e▸m)
    .exact R x s H e.symm
   rw [ζ,QQ f]at c;have m:=y.ok;cases O with
   |none=>exact⟨cs,c,l⟩|slot s' w=>
    simp [A6.on]at c;split at c
    .cases c
    .exact⟨cs,c,l⟩
   |cell s' u w=>
    simp [A6.on]at c;split at c
    .rename_i e;subst e;obtain⟨cs',H,h5⟩:=m;rw[H]at c;simp[EV.bx.injEq]at c;subst c;rw[List.getElem?_set]at l;split at l
     .split at l
      .simp at l
      .cases l
     .exact⟨cs',H,l⟩
    .exact⟨cs,c,l⟩
 have L1:Eg q.op F (Y B) I J:=by
  refine ⟨λs z=>lk s (λe=>G (e▸z)),λs z r hb=>lk r (R s r hb),λs z hnb=>?_,v,λC d hd η=>?_⟩
  .have f:E≠s:=λe=>G (e▸Ci z);rw[ζ,QQ f];have c:=y.slot;have l:=y.ok;cases O with
   |none=>rfl|slot s' w=>
    simp only[A6.on];rw[QQ (λ(e:s'=s)=>dd s' (c _ _ rfl) (by rw[e];exact z))]
   |cell s' j w=>
    simp only[A6.on];split
    next e=>subst e;obtain⟨cs,m,_⟩:=l;exfalso;refine hnb (cs.set j ⟨T,w⟩) ?_;rw[ζ,QQ f];simp[A6.on,m]
    .rfl
  .rw[A.2,y.gk,AB.c9,A6.ek,gN]at η;exact η.2
 have hgq:∀g∈q.gsl,J.get g=I.get g:=by
  intro g hg;have f:E≠g:=λe=>pngq (e▸hg);obtain⟨b,hb,hnx,_⟩:=TM hw g hg;have κ:=hb;rw[ζ,QQ f]at κ;rw[ζ,QQ f];have c:=y.slot;have l:=y.ok;cases O with
  |none=>rfl|slot s' w=>
   simp only[A6.on];rw[QQ (λ(e:s'=g)=>dg1 s' (c _ _ rfl) (by rw[e];exact hg))]
  |cell s' j w=>
   simp only[A6.on]at κ|-;split
   next e=>subst e;obtain⟨cs,m,_⟩:=l;rw[m]at κ;simp at κ;exact absurd κ.symm (hnx _)
   .rfl
 have hgp:∀g∈p.gsl,AB.get ((B,eq)::F.app J) g=J.get g:=by
  intro g hg;have f:B≠g:=λe=>qngp (e▸hg);obtain⟨b,hb,hnx,_⟩:=TM h g hg;rw[AB.bn,QQ f,A6.get];have c:=L.slot;cases F with
  |none=>rfl|slot s' w=>
   simp only[A6.on];rw[QQ (λ(e:s'=g)=>dg2 s' (c _ _ rfl) (by rw[e];exact hg))]
  |cell s' j w=>
   simp only[A6.on];split
   next e=>subst e;obtain⟨cs,m,_⟩:=v;rw[m]at hb;exact absurd hb.symm (hnx _)
   .rfl
 have offs:∀s j t u w,O=.cell s j t->F=.cell s u w->j≠u:=by
  intro s j t u w c l ho;subst ho;have m:=L.ok;have H:=y.ok;have h5:=θ;rw[c]at H;rw[l]at m;obtain⟨cs,Z,h7⟩:=H;obtain⟨ds,h8,h9⟩:=m;have f:E≠s:=λe=>by
   rcases L.cell s j w l with m|⟨x,_,H⟩
   .exact G (e▸m)
   .exact R x s H e.symm
  rw [ζ,QQ f,c]at h8;simp[A6.on,Z,EV.bx.injEq]at h8;subst h8;rw[List.getElem?_set,Ne rfl]at h9;split at h9
  .simp at h9
  .cases h9
 have g2:∀n,AB.get ((B,eq)::F.app J) n=if B=n then eq else F.on n (J.get n):=λn=>by
  rw [AB.bn,A6.get]
 have lk2:∀n,n≠B->(J.get n).like (AB.get ((B,eq)::F.app J) n):=by
  intro n C;rw[g2,QQ (λe=>C e.symm)];exact A6.like F v (λs t z=>hR'.list z) L.xl n
 have L2:Eg p.op O (Y E) J ((B,eq)::F.app J):=by
  refine ⟨λs z=>lk2 s (λe=>M (e▸z)),λs z r hb=>lk2 r (nq' s r hb),λs z hnb=>?_,?_,λC d hd η=>?_⟩
  .have f:B≠s:=λe=>M (e▸Ci z);rw[g2,QQ f];have c:=L.slot;cases F with
   |none=>rfl|slot s' w=>
    simp only[A6.on];rw[QQ (λ(e:s'=s)=>dd s' (by rw[e];exact z) (c _ _ rfl))]
   |cell s' j w=>
    simp only[A6.on];split
    next e=>subst e;obtain⟨cs,m,_⟩:=v;exact absurd m (hnb cs)
    .rfl
  .have k:=y.ok;have hsl:=y.slot;have hcl:=y.cell;cases O with
   |none=>trivial|slot s t=>
    simp [A6.ok]at k|-;have z:=hsl s t rfl;have f:B≠s:=λe=>M (e▸Ci z);rw[g2,QQ f];have c:=L.slot;cases F with
    |none=>exact k|slot s' w=>
     simp [A6.on];rw[QQ (λ(e:s'=s)=>dd s' (by rw[e];exact z) (c _ _ rfl))];exact k
    |cell s' j w=>
     simp [A6.on];split
     next e=>subst e;obtain⟨cs,m,_⟩:=v;rw[m]at k;cases k
     .exact k
   |cell s j t=>
    obtain ⟨cs,c,l⟩:=k;have f:B≠s:=λe=>by
     rcases hcl s j t rfl with m|⟨x,_,H⟩
     .exact M (e▸m)
     .exact nq' x s H e.symm
    simp [A6.ok];rw[g2,QQ f];have m:=v;cases F with
    |none=>exact⟨cs,c,l⟩|slot s' w=>
     simp [A6.on];split
     next e=>subst e;simp[A6.ok]at m;rw[m]at c;cases c
     .exact⟨cs,c,l⟩
    |cell s' u w=>
     simp [A6.on];split
     next e=>subst e;rw[c];have:=offs s' j t u w rfl rfl;refine⟨_,rfl,?_⟩;rw[List.getElem?_set,QQ (λe=>this e.symm)];exact l
     .exact⟨cs,c,l⟩
  .simp at hd;subst hd;rw[AB.c9,A6.ek,η,w?];refine Ul (λs he=>?_);rcases L.pr s he with c|⟨x,_,l⟩
   .exact λe=>G (e▸iQ c)
   .exact R x s l
 refine ⟨J,heq,L.again J L1 hgq _ ⟨_,.refl _,y.again _ L2 hgp _ (Gd hK ?_)⟩⟩;rw[L.gk];refine⟨λn=>?_,λd=>?_⟩
 .rw[AB.bn,A6.get,ζ,AB.bn,A6.get,g2];by_cases c:B=n
  .subst c;rw[Ne rfl,QQ hpq,Ne rfl,fpdq]
  .rw[QQ c,QQ c];by_cases l:E=n
   .subst l;rw[Ne rfl,Ne rfl,θ]
   .rw[QQ l,QQ l];have m:=y.ok;have H:=y.slot;have h5:=L.slot;cases O with
    |none=>rfl|slot s t=>
     cases F with
     |none=>rfl|slot s' w=>
      have f:s≠s':=λe=>dd s (H _ _ rfl) (e▸h5 _ _ rfl);simp[A6.on];by_cases I:s=n<;>by_cases δ:s'=n<;>simp[I,δ];exact absurd (I.trans δ.symm) f
     |cell s' u w=>
      have f:s≠s':=λe=>by
       obtain ⟨cs,Z,_⟩:=v;simp[A6.ok]at m;rw[<-e,m]at Z;cases Z
      simp [A6.on];by_cases I:s=n<;>by_cases δ:s'=n<;>simp[I,δ]
    |cell s j t=>
     cases F with
     |none=>rfl|slot s' w=>
      have f:s≠s':=λe=>by
       obtain ⟨cs,Z,_⟩:=m;simp[A6.ok]at v;rw[e,v]at Z;cases Z
      simp [A6.on];by_cases I:s=n<;>by_cases δ:s'=n<;>simp[I,δ]
     |cell s' u w=>
      obtain ⟨cs,Z,_⟩:=m;simp[A6.on];by_cases I:s=n
      .by_cases δ:s'=n
       .subst I;subst δ;have:=offs s' j t u w rfl rfl;simp[Z];rw[List.set_comm _ _ this]
       .simp[I,δ]
      .simp[I]
 .rw[AB.c9,A6.ek,A.2,y.gk,AB.c9,A6.ek,AB.c9,A6.ek,AB.c9,A6.ek];cases EV.x8 d eq<;>cases EV.x8 d ep<;>rfl
end
end Go.Sf
namespace Go.Sf
open Go.RowKit (Below)
def AaT(D:I2)(p q:PR):Bool:=
 match q.op,q.guard,q.dst with
 |.stb _ b v,W,W=>PR.wm D p&&D.contains b&&FL p.dst.toList (b::v.sl)&&FL [b] (p.op.slots++p.gsl)&&FL p.op.dem v.sl|.stx _ b s,W,W=>PR.wm D p&&D.contains b&&FL p.dst.toList (b::[s])&&FL [b] (p.op.slots++p.gsl)&&FL p.op.dem [s]&&FL [s] p.op.slots&&D.contains s|_,_,_=>T
def O3(b:Nat)(cs:List AO)(q:Option (Nat×EV))(ε:AB):AB:=
 (b,.bx cs)::(match q with|some (s,t)=>(s,t)::ε|none=>ε)
theorem Fc(b:Nat)(cs:List AO)(q:Option (Nat×EV))(ε:AB)(n:Nat):AB.get (O3 b cs q ε) n=if b=n then .bx cs else(match q with|some (s,t)=>if s=n then t else ε.get n|none=>ε.get n):=by
 cases q with
 |none=>rfl|some st=>rfl
theorem GR(b:Nat)(cs:List AO)(q:Option (Nat×EV))(ε:AB)(d:Nat)(h:∀s e,q=Y (s,e)->e.x8 d=X):AB.ek d (O3 b cs q ε)=AB.ek d ε:=by
 cases q with
 |none=>simp[O3,AB.c9,EV.x8,EV.pr]|some p=>
  obtain ⟨s,e⟩:=p;have c:=h s e rfl;simp[O3,AB.c9,c];simp[EV.x8,EV.pr]
structure tV(S:FuncId->Fq->As->Prop)(q:PR)(b:Nat)(v:AF)(ε gk:AB)(cs cs':List AO)(o:Option (Nat×EV)):Prop where
 gk:gk=O3 b cs' o ε
 box:ε.get b=.bx cs
 own:∀s e,o=Y (s,e)->v=.s s/\((∃t,e=.tv t/\ε.get s=.ow t)\/(e=.undef/\(∃ds,ε.get s=.oag ds)/\∃n,q.op=.stx n b s))/\s≠b
 val:∀cs,v.ev ε≠.bx cs
 again:∀env2,env2.ek b=X->env2.get b=.bx cs->v.ev env2=v.ev ε->∀K2:AB->Prop,K2 (O3 b cs' o env2)->q.wp S env2 K2
variable{q:PR}{ε:AB}
theorem ua{S:FuncId->Fq->As->Prop}{K:AB->Prop}{n b:Nat}{v:AF}(f:q.op=.stb n b v\/∃s,v=.s s/\q.op=.stx n b s)(k:q.guard=W)(hd:q.dst=W)(h:q.wp S ε K):∃gk,K gk/\∃cs cs' o,tV S q b v ε gk cs cs' o:=by
 rcases f with f|⟨s,rfl,f⟩
 .unfold PR.wp at h;rw[k,f,hd]at h;simp only[AE.wp]at h;split at h
  .rename_i cs m;split at h
   .rename_i t hv;cases v with
    |c t=>exact h.elim|s y=>
     simp only at h;simp[AF.ev]at hv;refine⟨_,h.2.2.2,cs,_,Y (y,.tv t),rfl,m,?_,?_,λenv2 u l j w g=>?_⟩
     .grind
     .grind[AF.ev]
     .simp[AF.ev]at j;unfold PR.wp;rw[k,f,hd];simp[AE.wp,l,AF.ev,j,hv];exact⟨h.1,h.2.1,h.2.2.1,g⟩
   next t hv=>refine⟨_,h.2.2,cs,_,W,rfl,m,V,t_,λenv2 u l j w g=>?_⟩;unfold PR.wp;rw[k,f,hd];simp only[AE.wp,l,j,hv];exact⟨h.1,h.2.1,g⟩
   .exact h.elim
  .exact h.elim
 .unfold PR.wp at h;rw[k,f,hd]at h;simp only[AE.wp]at h;split at h
  .rename_i cs ds m hv;refine⟨_,h.2.2.2,cs,_,Y (s,.undef),rfl,m,?_,by simp[AF.ev,hv],λenv2 u l j w g=>?_⟩
   .grind
   .simp[AF.ev]at j;unfold PR.wp;rw[k,f,hd];simp only[AE.wp,l,j,hv];exact⟨h.1,⟨h.2.1.1,by rw[AB.noX_ref u,Bool.or_true]⟩,h.2.2.1,g⟩
  .exact h.elim
section
variable{P:Program}{F0:Nat->Nat->Prop}{w0:W0}{N:Nat}{ops:Array Oper}{K:AB->Prop}{D:I2}
variable{ε:AB}{p q:PR}{rs:List PR}
theorem tJ(hR:LU F0 w0 N ε)(hj:JD D ε){op:Oper}(hp:Ll P N ops op p=X)(f:AaT D p q=X)(h:EM (AS P) K (p::q::rs) ε):EM (AS P) K (q::p::rs) ε:=by
 have key:∃n b v,(q.op=.stb n b v\/∃s,v=.s s/\q.op=.stx n b s)/\q.guard=W/\q.dst=W/\(((((PR.wm D p=X/\D.contains b=X)/\FL p.dst.toList (b::v.sl)=X)/\FL [b] (p.op.slots++p.gsl)=X)/\FL p.op.dem v.sl=X)/\(∀n s,q.op=.stx n b s->FL [s] p.op.slots=X/\D.contains s=X)):=by
  unfold AaT at f;split at f
  .grind
  .rename_i n b s O ζ hd;simp only[gN]at f;refine⟨n,b,.s s,.inr ⟨s,rfl,O⟩,ζ,hd,f.1.1,λn' s' h=>?_⟩
   grind
  .cases f
 clear f;obtain⟨n,b,v,O,ζ,hd,f,hstx⟩:=key
 .simp[PR.wm,w!]at f;obtain⟨⟨⟨⟨⟨⟨⟨⟨pm,pd⟩,pg⟩,pb⟩,pD⟩,δ⟩,c1⟩,c2⟩,c3⟩:=f;obtain⟨G,hdp⟩:=x_.1 pd;rw[hdp]at c1;simp at c1;have δ:b∈D:=by simpa using δ
  have hpb:G≠b:=λe=>Aw c1 (x:=G) V d_;have pnv:G∉v.sl:=λe=>Aw c1 (x:=G) V d_;have y:b∉p.op.slots:=λe=>Aw c2 (x:=b) V (C3 e);have bng:b∉p.gsl:=λe=>Aw c2 (x:=b) V (De e);have dv:∀s,s∈p.op.dem->s∈v.sl->False:=λs l j=>Aw c3 l j;have pg':p.op.pq=X->p.guard=W:=λhn=>by
   rcases pg with h|h
   .rw[hn]at h;cases h
   .simpa using h
  obtain ⟨w,R,h⟩:=h;have hR':=hR.congr R.symm;have z:=hj.congr R.symm;obtain⟨gk,⟨⟨e1,I,hw⟩,ep,θ,B⟩,hR1⟩:=Ey hR' hp (P3 hdp pm pg' h);have hj1:=B.jd pb z;have Z:∀n,e1.get n=if G=n then ep else θ.on n (w.get n):=λn=>by
   rw [I.1,B.gk,AB.bn,A6.get]
  have Q:∀e,θ.on b e=e:=by
   intro e;have:=B.slot;have j:=B.cell;cases θ with
   |none=>rfl|slot s t=>
    simp only[A6.on];rw[QQ];intro he;subst he;exact y (Ci (this _ _ rfl))
   |cell s κ t=>
    simp only[A6.on];rw[QQ];intro he;subst he;rcases j _ _ _ rfl with A|⟨x,_,F⟩
    .exact y A
    .exact z.no F δ
  have gb:e1.get b=w.get b:=by rw[Z,QQ hpb,Q]
  obtain ⟨X1,hK,cs,cs',o,Fs⟩:=ua O ζ hd hw;have hbox:w.get b=.bx cs:=by rw[<-gb];exact Fs.box
  have hv:v.ev w=v.ev e1:=by
   cases v with
   |c t=>rfl|s m=>
    have hm:G≠m:=λe=>pnv (by simp[AF.sl,e]);simp[AF.ev];have u:=Fs.val;simp[AF.ev]at u;rw[Z,QQ hm]at u|-;have l:=B.slot;have j:=B.ok;cases θ with
    |none=>rfl|slot s t=>
     simp only[A6.on];rw[QQ (λ(e:s=m)=>dv s (l _ _ rfl) (by simp[AF.sl,e]))]
    |cell s κ t=>
     simp only[A6.on]at u|-;split
     next e=>subst e;obtain⟨ds,A,_⟩:=j;rw[Ne rfl,A]at u;exact absurd rfl (u _)
     .rfl
  have k:∀s e,o=Y (s,e)->((∃t,e=.tv t/\w.get s=.ow t)\/(e=.undef/\∃ds,w.get s=.oag ds))/\s≠b/\s∈v.sl/\s≠G:=by
   intro s t ho;obtain⟨l,j,A⟩:=Fs.own s t ho;subst l;simp[AF.ev]at hv;refine⟨?_,A,c!,λe=>pnv (by simp[AF.sl,e])⟩;rw[hv];rcases j with j|⟨j,F,_⟩
   .exact .inl j
   .exact .inr ⟨j,F⟩
  have C:∀s,o=Y (s,.undef)->s∉p.op.slots/\s∈D:=by
   intro s ho;obtain⟨_,j,_⟩:=Fs.own s _ ho;rcases j with⟨t,j,_⟩|⟨_,_,n',F⟩
   .cases j
   .obtain⟨h5,h6⟩:=hstx n' s F;exact⟨λe=>Aw h5 V e,by simpa using h6⟩
  have E:∀d s e,o=Y (s,e)->e.x8 d=X:=by
   intro d s e ho;rcases(k s e ho).1 with⟨t,rfl,_⟩|⟨rfl,_⟩<;>rfl
  have H:∀s e,o=Y (s,e)->∀ds,w.get s≠.bx ds:=by
   intro s e ho ds h;rcases(k s e ho).1 with⟨t,_,j⟩|⟨_,ds',j⟩<;>rw[j]at h<;>cases h
  have g2:∀n,b≠n->(∀s t,o=Y (s,t)->s≠n)->AB.get (O3 b cs' o w) n=w.get n:=by
   intro n l j;rw[Fc,QQ l];cases o with
   |none=>rfl|some st=>
    obtain ⟨s,t⟩:=st;simp only;rw[QQ (j s t rfl)]
  have lk:∀n,b≠n->o≠Y (n,.undef)->(w.get n).like (AB.get (O3 b cs' o w) n):=by
   intro n l h0;rw[Fc,QQ l];cases o with
   |none=>exact .inl rfl|some st=>
    obtain ⟨s,t⟩:=st;simp only;split
    .rename_i e;subst e;rcases(k s t rfl).1 with⟨t,rfl,A⟩|⟨rfl,_⟩
     .obtain⟨m,es,rfl⟩:=hR'.list A;exact .inr (.inl ⟨m,es,.inr ⟨A,rfl⟩⟩)
     .exact absurd rfl h0
    .exact .inl rfl
  have L:Eg p.op θ (Y G) w (O3 b cs' o w):=by
   refine ⟨λs η=>lk s (λe=>y (e▸η)) (λe=>(C s e).1 η),λs η r J=>lk r (λe=>z.no J (e▸δ)) (λe=>z.no J (C r e).2),λs η _=>g2 s (λe=>y (e▸Ci η)) (λs' t ho e=>dv s η (e▸(k s' t ho).2.2.1)),?_,λhn d hd M=>by rw[GR _ _ _ _ _ (E d)];exact M⟩;have l:=B.slot;have j:=B.ok;have A:=Q;have F:=B.cell;cases θ with
   |none=>trivial|slot s t=>
    simp [A6.ok]at j|-;rw[g2 s (λe=>y (e▸Ci (l _ _ rfl))) (λs' t ho e=>dv s (l _ _ rfl) (e▸(k s' t ho).2.2.1))];exact j
   |cell s κ t=>
    obtain ⟨ds,h5,h6⟩:=j;refine⟨ds,?_,h6⟩;rw[g2 s (λe=>?_) (λs' t' ho e=>?_)]
    .exact h5
    .rcases F _ _ _ rfl with h7|⟨x,_,h8⟩
     .exact y (e▸h7)
     .exact z.no h8 (e▸δ)
    .exact H s' t' ho _ (e▸h5)
  have hgp:∀g∈p.gsl,AB.get (O3 b cs' o w) g=w.get g:=by
   intro g ζ;obtain⟨bb,J,_,M,hno'⟩:=TM h g ζ;refine g2 g (λe=>bng (e▸ζ)) (λs t ho e=>?_);rcases(k s t ho).1 with⟨t,_,j⟩|⟨_,ds',j⟩
   .rw[<-e,j]at J;exact absurd J.symm (M _)
   .rw[<-e,j]at J;exact absurd J.symm (hno' _)
  refine ⟨w,R,Fs.again w (z _ δ) hbox hv _ ⟨_,.refl _,B.again _ L hgp _ (Gd hK ?_)⟩⟩;rw[Fs.gk];refine⟨λn=>?_,λd=>?_⟩
  .rw[AB.bn,A6.get,Fc,Fc];by_cases l:G=n
   .subst l;rw[QQ (λe=>hpb e.symm),Ne rfl];cases o with
    |none=>simp only;rw[Z,Ne rfl]|some st=>
     obtain ⟨s,t⟩:=st;simp only;rw[QQ (k s t rfl).2.2.2,Z,Ne rfl]
   .rw[QQ l];by_cases j:b=n
    .subst j;rw[Ne rfl,Ne rfl,Q]
    .rw[QQ j,QQ j];cases o with
     |none=>simp only;rw[Z,QQ l]|some st=>
      obtain ⟨s,t⟩:=st;simp only;by_cases A:s=n
      .subst A;rw[Ne rfl,Ne rfl];have F:=B.slot;have h5:=B.ok;have h6:=(k s t rfl);have h6':=H s t rfl;have h6'':∀ds,t≠.bx ds:=by
        intro ds h;rcases h6.1 with⟨t,rfl,_⟩|⟨rfl,_⟩<;>cases h
       cases θ with
       |none=>rfl|slot s' t'=>
        simp only[A6.on];rw[QQ (λ(e:s'=s)=>dv s' (F _ _ rfl) (by rw[e];exact h6.2.2.1))]
       |cell s' κ t'=>
        simp only[A6.on];split
        next e=>subst e;obtain⟨ds,h7,_⟩:=h5;exact absurd h7 (h6' _)
        .rfl
      .rw[QQ A,QQ A,Z,QQ l]
  .rw[GR _ _ _ _ _ (E d),I.2,B.gk,AB.c9,A6.ek,AB.c9,A6.ek,GR _ _ _ _ _ (E d)]
def Aba(D:I2)(p q:PR):Bool:=
 match q.op,q.guard,q.dst with
 |.tkx s,W,Y d=>PR.wm D p&&D.contains s&&D.contains d&&FL p.dst.toList [s,d]&&FL [s,d] (p.op.slots++p.gsl)|_,_,_=>T
variable{s d:Nat}
theorem gv{S:FuncId->Fq->As->Prop}{K:AB->Prop}(c:q.op=.tkx s)(f:q.guard=W)(hd:q.dst=Y d)(h:q.wp S ε K):∃n es,ε.get s=.xo n es/\ε.ek d=X/\d≠s/\K ((d,.xo n es)::(s,.undef)::ε):=by
 simp [PR.wp,c,f,hd,AE.wp,AB.put]at h
 grind
variable{n:Nat}
theorem gw{S:FuncId->Fq->As->Prop}{K:AB->Prop}{es:Fq}(c:q.op=.tkx s)(f:q.guard=W)(hd:q.dst=Y d)(g:ε.get s=.xo n es)(j:ε.ek d=X)(k:d≠s)(h:K ((d,.xo n es)::(s,.undef)::ε)):q.wp S ε K:=by
 simp [PR.wp,c,f,hd,AE.wp,AB.put,g];exact⟨j,k,h⟩
theorem wY(hR:LU F0 w0 N ε)(hj:JD D ε){op:Oper}(hp:Ll P N ops op p=X)(f:Aba D p q=X)(h:EM (AS P) K (p::q::rs) ε):EM (AS P) K (q::p::rs) ε:=by
 unfold Aba at f;split at f
 .rename_i s d M hg hd;simp[PR.wm,w!]at f;obtain⟨⟨⟨⟨⟨⟨⟨⟨pm,pd⟩,pg⟩,pb⟩,pD⟩,G⟩,Q⟩,ζ⟩,δ⟩:=f;obtain⟨C,θ⟩:=x_.1 pd;rw[θ]at ζ;simp at ζ;have G:s∈D:=by simpa using G
  have Q:d∈D:=by simpa using Q
  have R:C≠s:=λe=>Aw ζ (x:=C) V d_;have hpd:C≠d:=λe=>Aw ζ (x:=C) V d_;have j:s∉p.op.slots:=λe=>Aw δ (x:=s) V (C3 e);have l:d∉p.op.slots:=λe=>Aw δ (x:=d) V (C3 e);have sng:s∉p.gsl:=λe=>Aw δ (x:=s) V (De e);have dng:d∉p.gsl:=λe=>Aw δ (x:=d) V (De e);have pg':p.op.pq=X->p.guard=W:=λhn=>by
   rcases pg with h|h
   .rw[hn]at h;cases h
   .simpa using h
  obtain ⟨w,E,h⟩:=h;have hR':=hR.congr E.symm;have u:=hj.congr E.symm;obtain⟨gk,⟨⟨e1,v,hw⟩,ep,κ,A⟩,hR1⟩:=Ey hR' hp (P3 θ pm pg' h);have g1:∀n,e1.get n=if C=n then ep else κ.on n (w.get n):=λn=>by
   rw [v.1,A.gk,AB.bn,A6.get]
  have B:∀x,x∈D->x∉p.op.slots->∀e,κ.on x e=e:=by
   intro x hxD O e;have:=A.slot;have k:=A.cell;cases κ with
   |none=>rfl|slot s t=>
    simp only[A6.on];rw[QQ];intro he;subst he;exact O (Ci (this _ _ rfl))
   |cell s off t=>
    simp only[A6.on];rw[QQ];intro he;subst he;rcases k _ _ _ rfl with I|⟨y,_,η⟩
    .exact O I
    .exact u.no η hxD
  obtain ⟨n,es,k1,k2,k3,hK⟩:=gv M hg hd hw;rw[g1,QQ R,B s G j]at k1;rw[v.2,A.gk,AB.c9,A6.ek,gN]at k2;have H:∀m,m≠d->m≠s->AB.get ((d,.xo n es)::(s,.undef)::w) m=w.get m:=λm z k=>by
   rw [AB.bn,QQ (λe=>z e.symm),AB.bn,QQ (λe=>k e.symm)]
  have nr:∀c,AB.ek c ((d,EV.xo n es)::(s,EV.undef)::w)=AB.ek c w:=λc=>by
   simp [AB.c9,EV.x8,EV.pr]
  have L:Eg p.op κ (Y C) w ((d,.xo n es)::(s,.undef)::w):=by
   refine ⟨λx F=>.inl (H x (λe=>l (e▸F)) (λe=>j (e▸F))),λx F r hr=>.inl (H r (λe=>u.no hr (e▸Q)) (λe=>u.no hr (e▸G))),λx F _=>H x (λe=>l (e▸Ci F)) (λe=>j (e▸Ci F)),?_,λhn d' hd' Z=>by rw[nr];exact Z⟩;have z:=A.slot;have k:=A.ok;have η:=A.cell;cases κ with
   |none=>trivial|slot x t=>
    simp [A6.ok]at k|-;rw[H x (λe=>l (e▸Ci (z _ _ rfl))) (λe=>j (e▸Ci (z _ _ rfl)))];exact k
   |cell x off t=>
    obtain ⟨ds,h5,h6⟩:=k;refine⟨ds,?_,h6⟩;rw[H x (λe=>?_) (λe=>?_)]
    .exact h5
    .rcases η _ _ _ rfl with h7|⟨y,_,h8⟩
     .exact l (e▸h7)
     .exact u.no h8 (e▸Q)
    .rcases η _ _ _ rfl with h7|⟨y,_,h8⟩
     .exact j (e▸h7)
     .exact u.no h8 (e▸G)
  have hgp:∀g∈p.gsl,AB.get ((d,.xo n es)::(s,.undef)::w) g=w.get g:=λg J=>H g (λe=>dng (e▸J)) (λe=>sng (e▸J));refine⟨w,E,gw M hg hd k1 k2.2 k3 ⟨_,.refl _,A.again _ L hgp _ (Gd hK ?_)⟩⟩;refine⟨λm=>?_,λc=>?_⟩
  .simp[AB.bn,A6.get,g1];by_cases z:d=m
   .subst z;rw[Ne rfl,QQ hpd,B d Q l,Ne rfl]
   .rw[QQ z];by_cases k:s=m
    .subst k;rw[Ne rfl,QQ R,B s G j,QQ z,Ne rfl]
    .rw[QQ k];by_cases I:C=m
     .rw[Ne I,Ne I]
     .rw[QQ I,QQ I,QQ z,QQ k]
  .simp[AB.c9,A6.ek,v.2,A.gk];have e1:EV.x8 c (EV.xo n es)=X:=rfl;have e2:EV.x8 c EV.undef=X:=rfl;rw[e1,e2];cases EV.x8 c ep<;>rfl
 .cases f
def v7:AE->Bool
 |.xal _=>X|.mv _=>X|.bad _ _=>X|.fad _ _=>X|.ld _=>X|.lac _=>X|_=>T
def Abb(D:I2)(p q:PR):Bool:=
 match q.op,q.guard,q.dst,p.guard,p.dst with
 |.xst x v _,W,W,W,Y d=>PR.wm D p&&v7 p.op&&!(x.sl.contains d)&&!(v.sl.contains d)|_,_,_,_,_=>T
variable{i:Option Nat}
theorem Pa{q:Nat}{es es':Fq}(h:ε.o3 q i=Y (n,es)):(∃u,AB.get (ε.t5 q i n es') q=u/\((∃m c,ε.get q=.xo m c/\∃m' fs',u=.xo m' fs')\/(∃cs k,i=Y k/\cs[k]?=Y ⟨X,.xl n es⟩/\ε.get q=.bx cs/\u=.bx (cs.set k ⟨X,.xl n es'⟩))))/\(∀m,q≠m->AB.get (ε.t5 q i n es') m=ε.get m)/\∀d,AB.ek d (ε.t5 q i n es')=ε.ek d:=by
 cases i with
 |none=>
  grind [AB.o3,AB.t5,AB.bn,AB.c9,EV.x8,EV.pr]
 |some k=>
  grind [AB.o3,nm,AB.t5,AB.bn,AB.c9,EV.x8,EV.pr]
theorem fg(l:List AO)(c:Nat):FW ((l.drop c).map (·.t))=(l[c]?).map (·.t):=by
 rw [show l[c]?=(l.drop c)[0]? by rw[List.getElem?_drop,Nat.add_zero]];cases l.drop c<;>rfl
variable{t:TV}
theorem o9{ds:List AO}{k c n:Nat}{es es':Fq}(g:t.Aav=T)(h:ds[k]?=Y ⟨X,.xl n es⟩)(f:FW ((ds.drop c).map (·.t))=Y t):FW (((ds.set k ⟨X,.xl n es'⟩).drop c).map (·.t))=Y t:=by
 rw [fg]at f|-;by_cases e:k=c
 .subst e;rw[h]at f;simp at f;subst f;cases g
 grind
theorem sz{S:FuncId->Fq->As->Prop}{op:AE}(ho:v7 op=X){dst:Option Nat}{K:EV->AB->Prop}(h:op.wp S ε dst K):
  ∃e,K e ε/\(∀m I,e≠.xo m I)/\(∀cs,e≠.bx cs)/\∀(q n:Nat)(i:Option Nat)(es es':Fq),ε.o3 q i=Y (n,es)->∀A:EV->AB->Prop,A e (ε.t5 q i n es')->op.wp S (ε.t5 q i n es') dst A:=by
 have C:∀{q n:Nat}{i:Option Nat}{es es':Fq},ε.o3 q i=Y (n,es)->∀m e,ε.get m=e->(∀k I,e≠.xo k I)->(∀cs,e≠.bx cs)->AB.get (ε.t5 q i n es') m=e:=λ{q n i es es'}g m e w F κ=>by
  obtain ⟨⟨u,M,l⟩,H,_⟩:=Pa (es':=es') g
  grind
 have E:∀{q n:Nat}{i:Option Nat}{es es':Fq},ε.o3 q i=Y (n,es)->∀m cs,ε.get m=.bx cs->∃cs',AB.get (ε.t5 q i n es') m=.bx cs'/\∀v t,t.Aav=T->FW ((cs.drop v).map (·.t))=Y t->FW ((cs'.drop v).map (·.t))=Y t:=λ{q n i es es'}g m cs w=>by
  obtain ⟨⟨u,M,l⟩,H,_⟩:=Pa (es':=es') g
  grind [o9]
 have z:∀{q n:Nat}{i:Option Nat}{es es':Fq},ε.o3 q i=Y (n,es)->∀(x:AF)e,x.ev ε=e->(∀m I,e≠.xo m I)->(∀cs,e≠.bx cs)->x.ev (ε.t5 q i n es')=e:=by
  intro q n i es es' g x e he w F;cases x with
  |c t=>exact he|s y=>exact C g y e he w F
 cases op with
 |mv x=>
  simp [AE.wp]at h|-;split at h
  next t j=>exact⟨_,h,V,V,λq n i es es' g A f=>l?⟩
  next t j=>exact⟨_,h,V,V,λq n i es es' g A f=>l?⟩
  next t j=>exact⟨_,h,V,V,λq n i es es' g A f=>l?⟩
  .exact h.elim
 |lac x=>
  simp [AE.wp]at h|-;split at h
  .rename_i s v j;split at h
   .rename_i η ζ;refine⟨_,h,V,V,λq n i es es' g A f=>?_⟩;rw[z g x _ j V V];have L:∃r,(ε.t5 q i n es').o3 s (Y v)=Y r:=by
     cases i with
     |none=>grind[AB.o3,AB.t5,AB.bn]|some k=>grind[AB.o3,AB.t5,AB.bn]
    obtain ⟨r,L⟩:=L;simp only[L];exact f
   .exact h.elim
  .exact h.elim
 |xal s=>
  simp [AE.wp]at h|-;split at h
  .rename_i m I B;refine⟨_,h,V,V,λq n i es es' g A f=>?_⟩;obtain⟨⟨u,M,l⟩,H,_⟩:=Pa (es':=es') g;by_cases e:q=s
   .subst e;rcases l with⟨_,_,_,m',fs',rfl⟩|⟨_,_,_,_,R,_⟩
    .rw[M];exact f
    .rw[B]at R;cases R
   .rw[H s e,B];exact f
  .exact h.elim
 |bad s k=>
  simp [AE.wp]at h|-;split at h
  next cs B=>refine⟨_,h,V,V,λq n i es es' g A f=>?_⟩;obtain⟨cs',w,_⟩:=E (es':=es') g s cs B;rw[w];exact f
  next row B=>exact⟨_,h,V,V,λq n i es es' g A f=>by rw[C g s _ B V V];exact f⟩
  .exact h.elim
 |fad x k=>
  simp [AE.wp]at h|-;split at h
  next row j=>exact⟨_,h,V,V,λq n i es es' g A f=>l?⟩
  .rename_i s v j;split at h
   next cs B=>refine⟨_,h,V,V,λq n i es es' g A f=>?_⟩;obtain⟨cs',w,_⟩:=E (es':=es') g s cs B;rw[z g x _ j V V];simp only;rw[w];exact f
   .exact h.elim
  .exact h.elim
 |ld x=>
  simp [AE.wp]at h|-;cases l:A7 ε (x.ev ε)with
  |none=>rw[l]at h;exact h.elim|some cs=>
   rw [l]at h;simp[Ai]at h;cases J:FW cs with
   |none=>rw[J]at h;exact h.elim|some t=>
    rw [J]at h;obtain⟨O,h⟩:=h;refine⟨_,h,V,V,λq n i es es' g A f=>?_⟩;have θ:∃cs',A7 (ε.t5 q i n es') (x.ev (ε.t5 q i n es'))=Y cs'/\FW cs'=Y t:=by
     cases x with
     |c Q=>exact⟨cs,by rw[<-l];cases Q<;>rfl,J⟩
     |s y=>
      simp [AF.ev]at l|-;cases G:ε.get y with
      |bp s v=>
       rw [C g y _ G V V];rw[G]at l;simp only[A7]at l|-;split at l
       next ds B=>cases l;obtain⟨cs',w,F⟩:=E (es':=es') g s ds B;rw[w];exact⟨_,rfl,F _ _ O J⟩
       .cases l
      |tv Q=>
       rw [C g y _ G V V];rw[G]at l;exact⟨cs,by rw[<-l];cases Q<;>rfl,J⟩
      |bx ds=>
       rw [G]at l;simp[A7]at l;subst l;obtain⟨cs',w,F⟩:=E (es':=es') g y ds G;rw[w];have:=F 0 t O (by simpa using J);exact⟨_,rfl,by simpa using this⟩
      |_=>rw[G]at l;cases l
    obtain ⟨cs',w,F⟩:=θ;rw[w];simp[Ai,F];exact⟨O,f⟩
 |_=>cases ho
variable{e:EV}
theorem aI{ε g:AB}{d t n:Nat}{es:Fq}(h:Ni g ((d,e)::ε))(j:d≠t):Ni (g.t5 t i n es) ((d,e)::ε.t5 t i n es):=by
 have v:g.get t=ε.get t:=by rw[h.1,AB.bn,QQ j]
 have f:∀u:EV,(∀c,EV.x8 c u=X)->Ni ((t,u)::g) ((d,e)::(t,u)::ε):=by
  intro u l;refine⟨λm=>?_,λc=>?_⟩
  .rw[AB.bn,h.1,AB.bn,AB.bn,AB.bn]
   grind
  .rw[AB.c9,h.2,AB.c9,AB.c9,AB.c9,l];cases EV.x8 c e<;>rfl
 cases i with
 |none=>exact f _ λc=>rfl|some k=>
  simp [AB.t5,v];split
  .exact f _ λc=>rfl
  .exact h
theorem wb(f:Abb D p q=X)(h:EM (AS P) K (p::q::rs) ε):EM (AS P) K (q::p::rs) ε:=by
 unfold Abb at f;split at f
 .rename_i x v Z d A B hd I J;simp[w!,decide_eq_false_iff_not]at f;obtain⟨⟨⟨_,ho⟩,C⟩,E⟩:=f;obtain⟨z,F,h⟩:=h;simp[PR.wp,I,J,AB.put]at h;obtain⟨e,⟨G,j,l⟩,Q,R,H⟩:=sz ho h;have w:∀(y:AF),d∉y.sl->y.ev G=y.ev z:=by
   intro y hy;cases y with
   |c t=>rfl|s m=>
    simp [AF.ev,j.1,AB.bn]
    grind [AF.sl]
  refine ⟨z,F,?_⟩;simp[PR.wp,B,hd,A,AE.wp,w x C,w v E]at l|-;split at l
  .rename_i t i c hx;split at l
   .rename_i n es u L M;obtain⟨θ,κ,es',η,ζ,δ,hK⟩:=l;have g:d≠t:=by
     intro g;have B:G.get t=e:=by rw[j.1,AB.bn,Ne g]
     cases i with
     |none=>
      grind [AB.o3]
     |some k=>
      grind [AB.o3]
    have O:z.o3 t i=Y (n,es):=by
     have B:G.get t=z.get t:=by rw[j.1,AB.bn,QQ g]
     grind [AB.Aae]
    rw [O,M];refine⟨θ,κ,es',η,ζ,δ,_,.refl _,?_⟩
    grind [PR.wp,AB.put,Gd,aI]
   .exact l.elim
  .exact l.elim
 .cases f
end
end Go.Sf
