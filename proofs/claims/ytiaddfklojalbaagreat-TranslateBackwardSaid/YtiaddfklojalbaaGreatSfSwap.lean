/- Two operations of a region that may change places. -/
import Derived.Test.YtiaddfklojalbaaGreatSfFrame
set_option linter.all false
open Option renaming some->Y,none->W
open Bool renaming true->X,false->T
open Bool renaming not_eq_true'->w?,and_true->x_
open Option renaming isSome_iff_exists->x!
namespace Go.Sf
open Go.RowKit (Below)
theorem AB.ea(d k:Nat)(e:EV)(ε:AB):AB.ew d ((k,e)::ε)=(e.x8 d&&AB.ew d ε):=rfl
variable{d:Nat}{e:EV}
theorem VG(h:∀s,e.q0=Y s->s≠d):e.x8 d=X:=by grind[EV.x8]
theorem BA.ew(f:BA)(ε:AB)(d:Nat):AB.ew d (f.app ε)=AB.ew d ε:=by
 cases f with
 |none=>rfl|slot s t=>simp[BA.app,AB.ea,EV.x8,EV.q0]|cell s c t=>
  grind [BA.app,AB.ea,EV.x8,EV.q0]
def BA.on(f:BA)(n:Nat)(e:EV):EV:=
 match f with
 |.none=>e|.slot s t=>if s=n then .tv t else e|.cell s off t=>if s=n then(match e with|.bx cs=>.bx (cs.set off ⟨T,t⟩)|e=>e)else e
theorem BA.get(f:BA)(ε:AB)(n:Nat):AB.get (f.app ε) n=f.on n (ε.get n):=by
 cases f with
 |none=>rfl|slot s t=>simp[BA.app,AB.c7,BA.on]|cell s c t=>
  simp [BA.app,BA.on]
  grind [AB.c7]
def Mx(ε env2:AB):Prop:=(∀n,ε.get n=env2.get n)/\∀d,ε.ew d=env2.ew d
theorem Mx.refl(ε:AB):Mx ε ε:=⟨λ_=>rfl,λ_=>rfl⟩
theorem Mx.trans{a b c:AB}(h:Mx a b)(f:Mx b c):Mx a c:=⟨λn=>(h.1 n).trans (f.1 n),λd=>(h.2 d).trans (f.2 d)⟩
variable{a b:AB}
theorem Mx.symm(h:Mx a b):Mx b a:=⟨λn=>(h.1 n).symm,λd=>(h.2 d).symm⟩
def EU(S:FuncId->Fq->Az->Prop)(K:AB->Prop):List PR->AB->Prop
 |[],ε=>∃e,Mx e ε/\K e|r::rs,ε=>∃e,Mx e ε/\r.wp S e (EU S K rs)
section
variable{S:FuncId->Fq->Az->Prop}{K:AB->Prop}
variable{rs:List PR}
theorem Gd{ε env2:AB}(h:EU S K rs ε)(he:Mx ε env2):EU S K rs env2:=by
 cases rs with
 |nil=>obtain⟨e,c,f⟩:=h;exact⟨e,c.trans he,f⟩
 |cons r rs=>obtain⟨e,c,f⟩:=h;exact⟨e,c.trans he,f⟩
theorem nA:∀{rs:List PR}{ε:AB},wpOps S K rs ε->EU S K rs ε
 |[],ε,h=>⟨ε,.refl _,h⟩|r::rs,ε,h=>⟨ε,.refl _,PR.gE S ε (λe he=>nA he) r h⟩
def PR.gsl(r:PR):MV:=
 match r.guard with
 |some (g,_)=>[g]|none=>[]
structure Oz(S:FuncId->Fq->Az->Prop)(r:PR)(d:Nat)(ε gt:AB)(e:EV)(f:BA):Prop where
 gt:gt=(d,e)::f.app ε
 ok:f.ok ε
 slot:∀s t,f=.slot s t->s∈r.op.dem
 cell:∀s off t,f=.cell s off t->(s∈r.op.slots\/∃x∈r.op.slots,(ε.get x).q0=Y s)
 q0:∀s,e.q0=Y s->(s∈r.op.AaY\/∃x∈r.op.slots,(ε.get x).q0=Y s)
 new:r.op.pN=X->e.q0=W/\ε.ew d=X
 xl:∀s off t,f=.cell s off t->t.Aaw=T
 again:∀env2,Ek r.op f (Y d) ε env2->(∀g∈r.gsl,env2.get g=ε.get g)->∀K2:AB->Prop,K2 ((d,e)::f.app env2)->r.wp S env2 K2
variable{r:PR}{d:Nat}{ε:AB}
theorem O3(hd:r.dst=Y d)(B:r.op.mov=X)(H:r.op.pN=X->r.guard=W)(h:r.wp S ε K):r.wp S ε λgt=>K gt/\∃e f,Oz S r d ε gt e f:=by
 have A:∀(m:∀env2,(∀g∈r.gsl,env2.get g=ε.get g)->∀u:AB->Prop,(r.op.wp S env2 (Y d) λe env'=>u (env'.put (Y d) e))->r.wp S env2 u),(r.op.wp S ε (Y d) λe env'=>K (env'.put (Y d) e))->r.op.wp S ε (Y d) λe env'=>K (env'.put (Y d) e)/\∃C f,Oz S r d ε (env'.put (Y d) e) C f:=by
  intro m F;refine AE.gE S ε (Y d) (λe env' he=>?_) r.op (frame B F);obtain⟨G,f,c⟩:=he;refine⟨G,e,f,?_,c.ok,c.slot,c.cell,c.q0,λv=>⟨(c.new v).1,(c.new v).2 d rfl⟩,c.xl,λenv2 E k u j=>?_⟩
  .simp[AB.put];rw[c.env']
  .exact m env2 k u (c.again env2 E _ j)
 unfold PR.wp at h|-;cases l:r.guard with
 |none=>
  grind [PR.wp]
 |some gb=>
  obtain ⟨g,b⟩:=gb;rw[l]at h;rw[hd]at h|-;simp only at h|-;have k:g∈r.gsl:=by simp[PR.gsl,l]
  split at h
  .rename_i q z;refine⟨λw=>A (λenv2 c u j=>?_) (h.1 w),λw=>⟨h.2 w,.sk,.none,rfl,trivial,V,V,(λs he=>m?),λv=>?_,V,λenv2 _ c u j=>?_⟩⟩
   .grind[PR.wp]
   .grind
   .unfold PR.wp;rw[l,hd];simp only;rw[c g k,z];exact⟨λy=>by subst y;cases q<;>simp at w,λ_=>j⟩
  .rename_i z;refine⟨h,.sk,.none,rfl,trivial,V,V,(λs he=>m?),λv=>?_,V,λenv2 _ c u j=>?_⟩
   .grind
   .unfold PR.wp;rw[l,hd];simp only;rw[c g k,z];exact j
  .exact h.elim
end
section
variable{P:Program}{F0:Nat->Nat->Prop}{w0:W0}{N:Nat}{ops:Array Oper}{K:AB->Prop}
def K0(F0:Nat->Nat->Prop)(w0:W0)(N:Nat)(ε:AB):Prop:=∃a w,a.tmps.size=N/\CB F0 w0 ε a w
theorem K0.congr{ε env2:AB}(h:K0 F0 w0 N ε)(he:Mx ε env2):K0 F0 w0 N env2:=by
 obtain ⟨a,w,c,f⟩:=h;exact⟨a,w,c,f.congr he.1⟩
variable{ε:AB}{s:Nat}{t:TV}
theorem K0.list(h:K0 F0 w0 N ε)(c:ε.get s=.ow t):∃n es,t=.list n es:=by
 obtain ⟨a,w,_,G,f⟩:=h;have:=AY f c V;simp[AO]at this;cases t<;>simp[By]at this;exact⟨_,_,rfl⟩
variable{o:Oper}
theorem kF{a:Act}{w:World}{ζ:Prop}(h:o.wp P a w (λ_ _=>ζ) (λ_ _ _=>False)):ζ:=by
 unfold Oper.wp at h;generalize (execOp a.eval o).run P w=r at h;cases r with
 |ok n w'=>
  cases n with
  |value v=>exact h|skip=>exact h|defer d=>exact h|enter f args=>
   rw [Oper.upon_enter]at h;obtain⟨e,j,fr,g,_⟩:=h [];cases e with
   |returned v=>exact g|panicked c=>exact g.elim|outgrown=>obtain⟨_,_,k⟩:=g;exact k.elim
  |row r args=>
   rw [Oper.upon_row]at h;obtain⟨v,j,g,_⟩:=h default [];exact g
  |_=>exact h.elim
 |halt x w'=>
  cases x<;>exact h.elim
variable{r:PR}
theorem E0(f:K0 F0 w0 N ε)(c:LE P N ops o r=X)(h:r.wp (AW P) ε K):∃env',K env'/\K0 F0 w0 N env':=by
 obtain ⟨a,w,l,m⟩:=f;have:=W7 (p:=W) (next:=λ_ _=>∃env',K env'/\K0 F0 w0 N env') (Q:=λ_ _ _=>False) m ⟨l,V⟩ V c h λenv' a' w' g j k=>⟨env',g,a',w',j.size,k⟩;split at this
 .exact kF this
 .exact this
end
def FL(xs ys:MV):Bool:=xs.all λx=>!ys.contains x
variable{x:Nat}
theorem A2{xs c:MV}(h:FL xs c=X)(f:x∈xs)(g:x∈c):False:=by grind[FL,List.all_eq_true,w?]
def PR.old(r:PR):MV:=
 if r.op.pN then[]else r.dst.toList
def PR.x4(D:MV)(r:PR):Bool:=
 r.op.mov&&r.dst.isSome&&(!r.op.pN||r.guard.isNone)&&FL r.op.AaY D&&r.old.all D.contains
def X6(D:MV)(p q:PR):Bool:=
 PR.x4 D p&&PR.x4 D q&&FL p.dst.toList (q.dst.toList++(q.op.slots++q.gsl))&&FL q.dst.toList (p.op.slots++p.gsl)&&FL p.op.dem (q.op.dem++q.gsl)&&FL q.op.dem p.gsl
variable{s:Nat}
theorem Cm{op:AE}(h:s∈op.dem):s∈op.slots:=by
 cases op<;>simp only[AE.dem,List.not_mem_nil]at h<;>simp only[AE.slots]
 .exact h
 .exact C9 h
theorem iS{op:AE}(h:s∈op.AaY):s∈op.slots:=by
 cases op<;>simp[AE.AaY]at h<;>simp[AE.slots]
 all_goals exact h
def JD(D:MV)(ε:AB):Prop:=∀d∈D,ε.ew d=X
theorem JD.congr{D:MV}{ε env2:AB}(h:JD D ε)(he:Mx ε env2):JD D env2:=λd hd=>by rw[<-he.2];exact h d hd
variable{ε:AB}
theorem JD.no{D:MV}(h:JD D ε)(c:(ε.get x).q0=Y s):s∉D:=λhd=>AB.pE s ε (h s hd) x c
section
variable{S:FuncId->Fq->Az->Prop}
variable{r:PR}{d:Nat}{e:EV}
theorem Oz.jd{D:MV}{ε gt:AB}{f:BA}(h:Oz S r d ε gt e f)(k:FL r.op.AaY D=X)(j:JD D ε):JD D gt:=by
 intro x g;rw[h.gt,AB.ea,BA.ew,j x g,x_];refine VG (λs he c=>?_);subst c;rcases h.q0 s he with l|⟨y,_,m⟩
 .exact A2 k l g
 .exact j.no m g
variable{ε:AB}
theorem BA.like(f:BA)(c:f.ok ε)(h:∀s t,ε.get s=.ow t->∃n es,t=.list n es)(k:∀s g t,f=.cell s g t->t.Aaw=T)(n:Nat):(ε.get n).like (f.on n (ε.get n)):=by
 cases f with
 |none=>exact .inl rfl|slot s t=>
  simp [BA.on];split
  next e=>subst e;simp[BA.ok]at c;obtain⟨m,es,rfl⟩:=h s t c;exact .inr (.inl ⟨m,es,.inr ⟨c,rfl⟩⟩)
  .exact .inl rfl
 |cell s g t=>
  simp [BA.on];split
  .rename_i e;subst e;obtain⟨cs,j,l⟩:=c;rw[j];refine .inr (.inr ⟨cs,_,rfl,rfl,?_⟩);rw[List.map_set];refine List.ext_getElem? λi=>?_
   grind [bd,List.getElem?_eq_some_iff,AQ.key]
  .exact .inl rfl
end
variable{r:PR}{ε:AB}
theorem TZ{S:FuncId->Fq->Az->Prop}{K:AB->Prop}(h:r.wp S ε K):∀g∈r.gsl,∃b,ε.get g=b/\(∀cs,b≠.bx cs)/\(∀t,b≠.ow t)/\∀cs,b≠.oag cs:=by grind[PR.gsl,PR.wp,List.mem_singleton]
section
variable{P:Program}{F0:Nat->Nat->Prop}{w0:W0}{N:Nat}{ops:Array Oper}{K:AB->Prop}{D:MV}
variable{ε:AB}{p q:PR}{rs:List PR}
theorem swap(hR:K0 F0 w0 N ε)(hj:JD D ε){op oq:Oper}(hp:LE P N ops op p=X)(hq:LE P N ops oq q=X)(Q:X6 D p q=X)(h:EU (AW P) K (p::q::rs) ε):EU (AW P) K (q::p::rs) ε:=by
 simp [X6,PR.x4,w?]at Q;obtain⟨⟨⟨⟨⟨⟨⟨⟨⟨pm,pd⟩,pg⟩,pb⟩,pD⟩,⟨⟨⟨qm,qd⟩,qg⟩,qb⟩,qD⟩,c1⟩,c2⟩,c3⟩,c4⟩:=Q;obtain⟨E,hdp⟩:=x!.1 pd;obtain⟨B,hdq⟩:=x!.1 qd;rw[hdp]at c1;rw[hdq]at c1 c2;simp at c1 c2;have hpq:E≠B:=λe=>A2 c1 (x:=E) V d!;have G:E∉q.op.slots:=λe=>A2 c1 (x:=E) V d!;have pngq:E∉q.gsl:=λe=>A2 c1 (x:=E) V d!;have M:B∉p.op.slots:=λe=>A2 c2 (x:=B) V d!;have qngp:B∉p.gsl:=λe=>A2 c2 (x:=B) V d!;have dd:∀s,s∈p.op.dem->s∈q.op.dem->False:=λs c l=>A2 c3 c (C9 l);have dg1:∀s,s∈p.op.dem->s∈q.gsl->False:=λs c l=>A2 c3 c (Di l);have dg2:∀s,s∈q.op.dem->s∈p.gsl->False:=λs c l=>A2 c4 c l;have oldp:p.op.pN=X\/E∈D:=by
  cases C:p.op.pN with
  |true=>exact .inl rfl|false=>exact .inr (by simpa[PR.old,C,hdp]using pD)
 have oldq:q.op.pN=X\/B∈D:=by
  cases C:q.op.pN with
  |true=>exact .inl rfl|false=>exact .inr (by simpa[PR.old,C,hdq]using qD)
 have pg':p.op.pN=X->p.guard=W:=λC=>by
  rcases pg with h|h
  .rw[C]at h;cases h
  .simpa using h
 have qg':q.op.pN=X->q.guard=W:=λC=>by
  rcases qg with h|h
  .rw[C]at h;cases h
  .simpa using h
 obtain ⟨J,heq,h⟩:=h;have hR':=hR.congr heq.symm;have hj':=hj.congr heq.symm;obtain⟨gt,⟨⟨I,A,hw⟩,ep,O,y⟩,hR1⟩:=E0 hR' hp (O3 hdp pm pg' h);have hRe1:=hR1.congr A.symm;have hj1:=y.jd pb hj';have hje1:=hj1.congr A.symm;obtain⟨X1,⟨hK,eq,F,L⟩,_⟩:=E0 hRe1 hq (O3 hdq qm qg' hw);have ζ:∀n,I.get n=if E=n then ep else O.on n (J.get n):=λn=>by
  rw [A.1,y.gt,AB.c7,BA.get]
 have R:∀x s,(I.get x).q0=Y s->s≠E:=by
  intro x s hx z;subst z;rcases oldp with C|hd
  .refine AB.pE s I ?_ x hx;rw[A.2,y.gt,AB.ea,BA.ew,(y.new C).2,x_];exact VG (λs he _=>by rw[(y.new C).1]at he;cases he)
  .exact hje1.no hx hd
 have nq':∀x s,(J.get x).q0=Y s->s≠B:=by
  intro x s hx z;subst z;rcases oldq with C|hd
  .have c:=(L.new C).2;rw[A.2,y.gt,AB.ea,BA.ew,kp]at c;exact AB.pE s J c.2 x hx
  .exact hj'.no hx hd
 have lk:∀n,n≠E->(I.get n).like (J.get n):=by
  intro n C;rw[ζ,aN (λe=>C e.symm)];exact(BA.like O y.ok (λs t z=>hR'.list z) y.xl n).symm
 have fpdq:∀e,O.on B e=e:=by
  intro e;have:=y.slot;have l:=y.cell;cases O with
  |none=>rfl|slot s t=>
   simp only[BA.on];rw[aN];intro he;subst he;exact M (Cm (this _ _ rfl))
  |cell s j t=>
   simp only[BA.on];rw[aN];intro he;subst he;rcases l _ _ _ rfl with m|⟨x,_,H⟩
   .exact M m
   .exact nq' x _ H rfl
 have θ:∀e,F.on E e=e:=by
  intro e;have:=L.slot;have l:=L.cell;cases F with
  |none=>rfl|slot s t=>
   simp only[BA.on];rw[aN];intro he;subst he;exact G (Cm (this _ _ rfl))
  |cell s j t=>
   simp only[BA.on];rw[aN];intro he;subst he;rcases l _ _ _ rfl with m|⟨x,_,H⟩
   .exact G m
   .exact R x _ H rfl
 have v:F.ok J:=by
  have k:=L.ok;have hsl:=L.slot;have hc:=θ;cases F with
  |none=>trivial|slot s t=>
   simp [BA.ok]at k|-;have z:=hsl s t rfl;have f:E≠s:=λe=>G (e▸Cm z);rw[ζ,aN f]at k;have c:=y.slot;have l:=y.ok;cases O with
   |none=>exact k|slot s' w=>
    simp [BA.on]at k;rw[aN (λ(e:s'=s)=>dd s' (c _ _ rfl) (by rw[e];exact z))]at k;exact k
   |cell s' j w=>
    simp [BA.on]at k;split at k
    next e=>subst e;obtain⟨cs,m,_⟩:=l;rw[m]at k;cases k
    .exact k
  |cell s j t=>
   obtain ⟨cs,c,l⟩:=k;have f:E≠s:=λe=>by
    have:=hc (.bx [⟨X,.undef⟩,⟨X,.undef⟩]);rcases L.cell s j t rfl with m|⟨x,_,H⟩
    .exact G (e▸m)
    .exact R x s H e.symm
   rw [ζ,aN f]at c;have m:=y.ok;cases O with
   |none=>exact⟨cs,c,l⟩|slot s' w=>
    simp [BA.on]at c;split at c
    .cases c
    .exact⟨cs,c,l⟩
   |cell s' u w=>
    simp [BA.on]at c;split at c
    .rename_i e;subst e;obtain⟨cs',H,h5⟩:=m;rw[H]at c;simp[EV.bx.injEq]at c;subst c;rw[List.getElem?_set]at l;split at l
     .split at l
      .simp at l
      .cases l
     .exact⟨cs',H,l⟩
    .exact⟨cs,c,l⟩
 have L1:Ek q.op F (Y B) I J:=by
  refine ⟨λs z=>lk s (λe=>G (e▸z)),λs z r hb=>lk r (R s r hb),λs z hnb=>?_,v,λC d hd η=>?_⟩
  .have f:E≠s:=λe=>G (e▸Cm z);rw[ζ,aN f];have c:=y.slot;have l:=y.ok;cases O with
   |none=>rfl|slot s' w=>
    simp only[BA.on];rw[aN (λ(e:s'=s)=>dd s' (c _ _ rfl) (by rw[e];exact z))]
   |cell s' j w=>
    simp only[BA.on];split
    next e=>subst e;obtain⟨cs,m,_⟩:=l;exfalso;refine hnb (cs.set j ⟨T,w⟩) ?_;rw[ζ,aN f];simp[BA.on,m]
    .rfl
  .rw[A.2,y.gt,AB.ea,BA.ew,kp]at η;exact η.2
 have hgq:∀g∈q.gsl,J.get g=I.get g:=by
  intro g hg;have f:E≠g:=λe=>pngq (e▸hg);obtain⟨b,hb,hnx,_⟩:=TZ hw g hg;have κ:=hb;rw[ζ,aN f]at κ;rw[ζ,aN f];have c:=y.slot;have l:=y.ok;cases O with
  |none=>rfl|slot s' w=>
   simp only[BA.on];rw[aN (λ(e:s'=g)=>dg1 s' (c _ _ rfl) (by rw[e];exact hg))]
  |cell s' j w=>
   simp only[BA.on]at κ|-;split
   next e=>subst e;obtain⟨cs,m,_⟩:=l;rw[m]at κ;simp at κ;exact absurd κ.symm (hnx _)
   .rfl
 have hgp:∀g∈p.gsl,AB.get ((B,eq)::F.app J) g=J.get g:=by
  intro g hg;have f:B≠g:=λe=>qngp (e▸hg);obtain⟨b,hb,hnx,_⟩:=TZ h g hg;rw[AB.c7,aN f,BA.get];have c:=L.slot;cases F with
  |none=>rfl|slot s' w=>
   simp only[BA.on];rw[aN (λ(e:s'=g)=>dg2 s' (c _ _ rfl) (by rw[e];exact hg))]
  |cell s' j w=>
   simp only[BA.on];split
   next e=>subst e;obtain⟨cs,m,_⟩:=v;rw[m]at hb;exact absurd hb.symm (hnx _)
   .rfl
 have offs:∀s j t u w,O=.cell s j t->F=.cell s u w->j≠u:=by
  intro s j t u w c l ho;subst ho;have m:=L.ok;have H:=y.ok;have h5:=θ;rw[c]at H;rw[l]at m;obtain⟨cs,Z,h7⟩:=H;obtain⟨ds,h8,h9⟩:=m;have f:E≠s:=λe=>by
   rcases L.cell s j w l with m|⟨x,_,H⟩
   .exact G (e▸m)
   .exact R x s H e.symm
  rw [ζ,aN f,c]at h8;simp[BA.on,Z,EV.bx.injEq]at h8;subst h8;rw[List.getElem?_set,aE rfl]at h9;split at h9
  .simp at h9
  .cases h9
 have g2:∀n,AB.get ((B,eq)::F.app J) n=if B=n then eq else F.on n (J.get n):=λn=>by
  rw [AB.c7,BA.get]
 have lk2:∀n,n≠B->(J.get n).like (AB.get ((B,eq)::F.app J) n):=by
  intro n C;rw[g2,aN (λe=>C e.symm)];exact BA.like F v (λs t z=>hR'.list z) L.xl n
 have L2:Ek p.op O (Y E) J ((B,eq)::F.app J):=by
  refine ⟨λs z=>lk2 s (λe=>M (e▸z)),λs z r hb=>lk2 r (nq' s r hb),λs z hnb=>?_,?_,λC d hd η=>?_⟩
  .have f:B≠s:=λe=>M (e▸Cm z);rw[g2,aN f];have c:=L.slot;cases F with
   |none=>rfl|slot s' w=>
    simp only[BA.on];rw[aN (λ(e:s'=s)=>dd s' (by rw[e];exact z) (c _ _ rfl))]
   |cell s' j w=>
    simp only[BA.on];split
    next e=>subst e;obtain⟨cs,m,_⟩:=v;exact absurd m (hnb cs)
    .rfl
  .have k:=y.ok;have hsl:=y.slot;have hcl:=y.cell;cases O with
   |none=>trivial|slot s t=>
    simp [BA.ok]at k|-;have z:=hsl s t rfl;have f:B≠s:=λe=>M (e▸Cm z);rw[g2,aN f];have c:=L.slot;cases F with
    |none=>exact k|slot s' w=>
     simp [BA.on];rw[aN (λ(e:s'=s)=>dd s' (by rw[e];exact z) (c _ _ rfl))];exact k
    |cell s' j w=>
     simp [BA.on];split
     next e=>subst e;obtain⟨cs,m,_⟩:=v;rw[m]at k;cases k
     .exact k
   |cell s j t=>
    obtain ⟨cs,c,l⟩:=k;have f:B≠s:=λe=>by
     rcases hcl s j t rfl with m|⟨x,_,H⟩
     .exact M (e▸m)
     .exact nq' x s H e.symm
    simp [BA.ok];rw[g2,aN f];have m:=v;cases F with
    |none=>exact⟨cs,c,l⟩|slot s' w=>
     simp [BA.on];split
     next e=>subst e;simp[BA.ok]at m;rw[m]at c;cases c
     .exact⟨cs,c,l⟩
    |cell s' u w=>
     simp [BA.on];split
     next e=>subst e;rw[c];have:=offs s' j t u w rfl rfl;refine⟨_,rfl,?_⟩;rw[List.getElem?_set,aN (λe=>this e.symm)];exact l
     .exact⟨cs,c,l⟩
  .simp at hd;subst hd;rw[AB.ea,BA.ew,η,x_];refine VG (λs he=>?_);rcases L.q0 s he with c|⟨x,_,l⟩
   .exact λe=>G (e▸iS c)
   .exact R x s l
 refine ⟨J,heq,L.again J L1 hgq _ ⟨_,.refl _,y.again _ L2 hgp _ (Gd hK ?_)⟩⟩;rw[L.gt];refine⟨λn=>?_,λd=>?_⟩
 .rw[AB.c7,BA.get,ζ,AB.c7,BA.get,g2];by_cases c:B=n
  .subst c;rw[aE rfl,aN hpq,aE rfl,fpdq]
  .rw[aN c,aN c];by_cases l:E=n
   .subst l;rw[aE rfl,aE rfl,θ]
   .rw[aN l,aN l];have m:=y.ok;have H:=y.slot;have h5:=L.slot;cases O with
    |none=>rfl|slot s t=>
     cases F with
     |none=>rfl|slot s' w=>
      have f:s≠s':=λe=>dd s (H _ _ rfl) (e▸h5 _ _ rfl);simp[BA.on];by_cases I:s=n<;>by_cases δ:s'=n<;>simp[I,δ];exact absurd (I.trans δ.symm) f
     |cell s' u w=>
      have f:s≠s':=λe=>by
       obtain ⟨cs,Z,_⟩:=v;simp[BA.ok]at m;rw[<-e,m]at Z;cases Z
      simp [BA.on];by_cases I:s=n<;>by_cases δ:s'=n<;>simp[I,δ]
    |cell s j t=>
     cases F with
     |none=>rfl|slot s' w=>
      have f:s≠s':=λe=>by
       obtain ⟨cs,Z,_⟩:=m;simp[BA.ok]at v;rw[e,v]at Z;cases Z
      simp [BA.on];by_cases I:s=n<;>by_cases δ:s'=n<;>simp[I,δ]
     |cell s' u w=>
      obtain ⟨cs,Z,_⟩:=m;simp[BA.on];by_cases I:s=n
      .by_cases δ:s'=n
       .subst I;subst δ;have:=offs s' j t u w rfl rfl;simp[Z];rw[List.set_comm _ _ this]
       .simp[I,δ]
      .simp[I]
 .rw[AB.ea,BA.ew,A.2,y.gt,AB.ea,BA.ew,AB.ea,BA.ew,AB.ea,BA.ew];cases EV.x8 d eq<;>cases EV.x8 d ep<;>rfl
end
end Go.Sf
namespace Go.Sf
open Go.RowKit (Below)
def AaU(D:MV)(p q:PR):Bool:=
 match q.op,q.guard,q.dst with
 |.stb _ b v,W,W=>PR.x4 D p&&D.contains b&&FL p.dst.toList (b::v.sl)&&FL [b] (p.op.slots++p.gsl)&&FL p.op.dem v.sl|.stx _ b s,W,W=>PR.x4 D p&&D.contains b&&FL p.dst.toList (b::[s])&&FL [b] (p.op.slots++p.gsl)&&FL p.op.dem [s]&&FL [s] p.op.slots&&D.contains s|_,_,_=>T
def OD(b:Nat)(cs:List AQ)(q:Option (Nat×EV))(ε:AB):AB:=
 (b,.bx cs)::(match q with|some (s,t)=>(s,t)::ε|none=>ε)
theorem Fc(b:Nat)(cs:List AQ)(q:Option (Nat×EV))(ε:AB)(n:Nat):AB.get (OD b cs q ε) n=if b=n then .bx cs else(match q with|some (s,t)=>if s=n then t else ε.get n|none=>ε.get n):=by
 cases q with
 |none=>rfl|some st=>rfl
theorem GO(b:Nat)(cs:List AQ)(q:Option (Nat×EV))(ε:AB)(d:Nat)(h:∀s e,q=Y (s,e)->e.x8 d=X):AB.ew d (OD b cs q ε)=AB.ew d ε:=by
 cases q with
 |none=>simp[OD,AB.ea,EV.x8,EV.q0]|some p=>
  obtain ⟨s,e⟩:=p;have c:=h s e rfl;simp[OD,AB.ea,c];simp[EV.x8,EV.q0]
structure tE(S:FuncId->Fq->Az->Prop)(q:PR)(b:Nat)(v:AG)(ε gt:AB)(cs cs':List AQ)(o:Option (Nat×EV)):Prop where
 gt:gt=OD b cs' o ε
 box:ε.get b=.bx cs
 own:∀s e,o=Y (s,e)->v=.s s/\((∃t,e=.tv t/\ε.get s=.ow t)\/(e=.undef/\(∃ds,ε.get s=.oag ds)/\∃n,q.op=.stx n b s))/\s≠b
 val:∀cs,v.ev ε≠.bx cs
 again:∀env2,env2.ew b=X->env2.get b=.bx cs->v.ev env2=v.ev ε->∀K2:AB->Prop,K2 (OD b cs' o env2)->q.wp S env2 K2
variable{q:PR}{ε:AB}
theorem uL{S:FuncId->Fq->Az->Prop}{K:AB->Prop}{n b:Nat}{v:AG}(f:q.op=.stb n b v\/∃s,v=.s s/\q.op=.stx n b s)(k:q.guard=W)(hd:q.dst=W)(h:q.wp S ε K):∃gt,K gt/\∃cs cs' o,tE S q b v ε gt cs cs' o:=by
 rcases f with f|⟨s,rfl,f⟩
 .unfold PR.wp at h;rw[k,f,hd]at h;simp only[AE.wp]at h;split at h
  .rename_i cs m;split at h
   .rename_i t hv;cases v with
    |c t=>exact h.elim|s y=>
     simp only at h;simp[AG.ev]at hv;refine⟨_,h.2.2.2,cs,_,Y (y,.tv t),rfl,m,?_,?_,λenv2 u l j w g=>?_⟩
     .grind
     .grind[AG.ev]
     .simp[AG.ev]at j;unfold PR.wp;rw[k,f,hd];simp[AE.wp,l,AG.ev,j,hv];exact⟨h.1,h.2.1,h.2.2.1,g⟩
   next t hv=>refine⟨_,h.2.2,cs,_,W,rfl,m,V,v_,λenv2 u l j w g=>?_⟩;unfold PR.wp;rw[k,f,hd];simp only[AE.wp,l,j,hv];exact⟨h.1,h.2.1,g⟩
   .exact h.elim
  .exact h.elim
 .unfold PR.wp at h;rw[k,f,hd]at h;simp only[AE.wp]at h;split at h
  .rename_i cs ds m hv;refine⟨_,h.2.2.2,cs,_,Y (s,.undef),rfl,m,?_,by simp[AG.ev,hv],λenv2 u l j w g=>?_⟩
   .grind
   .simp[AG.ev]at j;unfold PR.wp;rw[k,f,hd];simp only[AE.wp,l,j,hv];exact⟨h.1,⟨h.2.1.1,by rw[AB.noX_ref u,Bool.or_true]⟩,h.2.2.1,g⟩
  .exact h.elim
section
variable{P:Program}{F0:Nat->Nat->Prop}{w0:W0}{N:Nat}{ops:Array Oper}{K:AB->Prop}{D:MV}
variable{ε:AB}{p q:PR}{rs:List PR}
theorem sj(hR:K0 F0 w0 N ε)(hj:JD D ε){op:Oper}(hp:LE P N ops op p=X)(f:AaU D p q=X)(h:EU (AW P) K (p::q::rs) ε):EU (AW P) K (q::p::rs) ε:=by
 have key:∃n b v,(q.op=.stb n b v\/∃s,v=.s s/\q.op=.stx n b s)/\q.guard=W/\q.dst=W/\(((((PR.x4 D p=X/\D.contains b=X)/\FL p.dst.toList (b::v.sl)=X)/\FL [b] (p.op.slots++p.gsl)=X)/\FL p.op.dem v.sl=X)/\(∀n s,q.op=.stx n b s->FL [s] p.op.slots=X/\D.contains s=X)):=by
  unfold AaU at f;split at f
  .grind
  .rename_i n b s O ζ hd;simp only[kp]at f;refine⟨n,b,.s s,.inr ⟨s,rfl,O⟩,ζ,hd,f.1.1,λn' s' h=>?_⟩
   grind
  .cases f
 clear f;obtain⟨n,b,v,O,ζ,hd,f,hstx⟩:=key
 .simp[PR.x4,w?]at f;obtain⟨⟨⟨⟨⟨⟨⟨⟨pm,pd⟩,pg⟩,pb⟩,pD⟩,δ⟩,c1⟩,c2⟩,c3⟩:=f;obtain⟨G,hdp⟩:=x!.1 pd;rw[hdp]at c1;simp at c1;have δ:b∈D:=by simpa using δ
  have hpb:G≠b:=λe=>A2 c1 (x:=G) V d!;have pnv:G∉v.sl:=λe=>A2 c1 (x:=G) V d!;have y:b∉p.op.slots:=λe=>A2 c2 (x:=b) V (C9 e);have bng:b∉p.gsl:=λe=>A2 c2 (x:=b) V (Di e);have dv:∀s,s∈p.op.dem->s∈v.sl->False:=λs l j=>A2 c3 l j;have pg':p.op.pN=X->p.guard=W:=λhn=>by
   rcases pg with h|h
   .rw[hn]at h;cases h
   .simpa using h
  obtain ⟨w,R,h⟩:=h;have hR':=hR.congr R.symm;have z:=hj.congr R.symm;obtain⟨gt,⟨⟨e1,I,hw⟩,ep,θ,B⟩,hR1⟩:=E0 hR' hp (O3 hdp pm pg' h);have hj1:=B.jd pb z;have Z:∀n,e1.get n=if G=n then ep else θ.on n (w.get n):=λn=>by
   rw [I.1,B.gt,AB.c7,BA.get]
  have Q:∀e,θ.on b e=e:=by
   intro e;have:=B.slot;have j:=B.cell;cases θ with
   |none=>rfl|slot s t=>
    simp only[BA.on];rw[aN];intro he;subst he;exact y (Cm (this _ _ rfl))
   |cell s κ t=>
    simp only[BA.on];rw[aN];intro he;subst he;rcases j _ _ _ rfl with A|⟨x,_,F⟩
    .exact y A
    .exact z.no F δ
  have gb:e1.get b=w.get b:=by rw[Z,aN hpb,Q]
  obtain ⟨X1,hK,cs,cs',o,Fs⟩:=uL O ζ hd hw;have hbox:w.get b=.bx cs:=by rw[<-gb];exact Fs.box
  have hv:v.ev w=v.ev e1:=by
   cases v with
   |c t=>rfl|s m=>
    have hm:G≠m:=λe=>pnv (by simp[AG.sl,e]);simp[AG.ev];have u:=Fs.val;simp[AG.ev]at u;rw[Z,aN hm]at u|-;have l:=B.slot;have j:=B.ok;cases θ with
    |none=>rfl|slot s t=>
     simp only[BA.on];rw[aN (λ(e:s=m)=>dv s (l _ _ rfl) (by simp[AG.sl,e]))]
    |cell s κ t=>
     simp only[BA.on]at u|-;split
     next e=>subst e;obtain⟨ds,A,_⟩:=j;rw[aE rfl,A]at u;exact absurd rfl (u _)
     .rfl
  have k:∀s e,o=Y (s,e)->((∃t,e=.tv t/\w.get s=.ow t)\/(e=.undef/\∃ds,w.get s=.oag ds))/\s≠b/\s∈v.sl/\s≠G:=by
   intro s t ho;obtain⟨l,j,A⟩:=Fs.own s t ho;subst l;simp[AG.ev]at hv;refine⟨?_,A,c?,λe=>pnv (by simp[AG.sl,e])⟩;rw[hv];rcases j with j|⟨j,F,_⟩
   .exact .inl j
   .exact .inr ⟨j,F⟩
  have C:∀s,o=Y (s,.undef)->s∉p.op.slots/\s∈D:=by
   intro s ho;obtain⟨_,j,_⟩:=Fs.own s _ ho;rcases j with⟨t,j,_⟩|⟨_,_,n',F⟩
   .cases j
   .obtain⟨h5,h6⟩:=hstx n' s F;exact⟨λe=>A2 h5 V e,by simpa using h6⟩
  have E:∀d s e,o=Y (s,e)->e.x8 d=X:=by
   intro d s e ho;rcases(k s e ho).1 with⟨t,rfl,_⟩|⟨rfl,_⟩<;>rfl
  have H:∀s e,o=Y (s,e)->∀ds,w.get s≠.bx ds:=by
   intro s e ho ds h;rcases(k s e ho).1 with⟨t,_,j⟩|⟨_,ds',j⟩<;>rw[j]at h<;>cases h
  have g2:∀n,b≠n->(∀s t,o=Y (s,t)->s≠n)->AB.get (OD b cs' o w) n=w.get n:=by
   intro n l j;rw[Fc,aN l];cases o with
   |none=>rfl|some st=>
    obtain ⟨s,t⟩:=st;simp only;rw[aN (j s t rfl)]
  have lk:∀n,b≠n->o≠Y (n,.undef)->(w.get n).like (AB.get (OD b cs' o w) n):=by
   intro n l h0;rw[Fc,aN l];cases o with
   |none=>exact .inl rfl|some st=>
    obtain ⟨s,t⟩:=st;simp only;split
    .rename_i e;subst e;rcases(k s t rfl).1 with⟨t,rfl,A⟩|⟨rfl,_⟩
     .obtain⟨m,es,rfl⟩:=hR'.list A;exact .inr (.inl ⟨m,es,.inr ⟨A,rfl⟩⟩)
     .exact absurd rfl h0
    .exact .inl rfl
  have L:Ek p.op θ (Y G) w (OD b cs' o w):=by
   refine ⟨λs η=>lk s (λe=>y (e▸η)) (λe=>(C s e).1 η),λs η r J=>lk r (λe=>z.no J (e▸δ)) (λe=>z.no J (C r e).2),λs η _=>g2 s (λe=>y (e▸Cm η)) (λs' t ho e=>dv s η (e▸(k s' t ho).2.2.1)),?_,λhn d hd M=>by rw[GO _ _ _ _ _ (E d)];exact M⟩;have l:=B.slot;have j:=B.ok;have A:=Q;have F:=B.cell;cases θ with
   |none=>trivial|slot s t=>
    simp [BA.ok]at j|-;rw[g2 s (λe=>y (e▸Cm (l _ _ rfl))) (λs' t ho e=>dv s (l _ _ rfl) (e▸(k s' t ho).2.2.1))];exact j
   |cell s κ t=>
    obtain ⟨ds,h5,h6⟩:=j;refine⟨ds,?_,h6⟩;rw[g2 s (λe=>?_) (λs' t' ho e=>?_)]
    .exact h5
    .rcases F _ _ _ rfl with h7|⟨x,_,h8⟩
     .exact y (e▸h7)
     .exact z.no h8 (e▸δ)
    .exact H s' t' ho _ (e▸h5)
  have hgp:∀g∈p.gsl,AB.get (OD b cs' o w) g=w.get g:=by
   intro g ζ;obtain⟨bb,J,_,M,hno'⟩:=TZ h g ζ;refine g2 g (λe=>bng (e▸ζ)) (λs t ho e=>?_);rcases(k s t ho).1 with⟨t,_,j⟩|⟨_,ds',j⟩
   .rw[<-e,j]at J;exact absurd J.symm (M _)
   .rw[<-e,j]at J;exact absurd J.symm (hno' _)
  refine ⟨w,R,Fs.again w (z _ δ) hbox hv _ ⟨_,.refl _,B.again _ L hgp _ (Gd hK ?_)⟩⟩;rw[Fs.gt];refine⟨λn=>?_,λd=>?_⟩
  .rw[AB.c7,BA.get,Fc,Fc];by_cases l:G=n
   .subst l;rw[aN (λe=>hpb e.symm),aE rfl];cases o with
    |none=>simp only;rw[Z,aE rfl]|some st=>
     obtain ⟨s,t⟩:=st;simp only;rw[aN (k s t rfl).2.2.2,Z,aE rfl]
   .rw[aN l];by_cases j:b=n
    .subst j;rw[aE rfl,aE rfl,Q]
    .rw[aN j,aN j];cases o with
     |none=>simp only;rw[Z,aN l]|some st=>
      obtain ⟨s,t⟩:=st;simp only;by_cases A:s=n
      .subst A;rw[aE rfl,aE rfl];have F:=B.slot;have h5:=B.ok;have h6:=(k s t rfl);have h6':=H s t rfl;have h6'':∀ds,t≠.bx ds:=by
        intro ds h;rcases h6.1 with⟨t,rfl,_⟩|⟨rfl,_⟩<;>cases h
       cases θ with
       |none=>rfl|slot s' t'=>
        simp only[BA.on];rw[aN (λ(e:s'=s)=>dv s' (F _ _ rfl) (by rw[e];exact h6.2.2.1))]
       |cell s' κ t'=>
        simp only[BA.on];split
        next e=>subst e;obtain⟨ds,h7,_⟩:=h5;exact absurd h7 (h6' _)
        .rfl
      .rw[aN A,aN A,Z,aN l]
  .rw[GO _ _ _ _ _ (E d),I.2,B.gt,AB.ea,BA.ew,AB.ea,BA.ew,GO _ _ _ _ _ (E d)]
def Abb(D:MV)(p q:PR):Bool:=
 match q.op,q.guard,q.dst with
 |.tkx s,W,Y d=>PR.x4 D p&&D.contains s&&D.contains d&&FL p.dst.toList [s,d]&&FL [s,d] (p.op.slots++p.gsl)|_,_,_=>T
variable{s d:Nat}
theorem g8{S:FuncId->Fq->Az->Prop}{K:AB->Prop}(c:q.op=.tkx s)(f:q.guard=W)(hd:q.dst=Y d)(h:q.wp S ε K):∃n es,ε.get s=.xo n es/\ε.ew d=X/\d≠s/\K ((d,.xo n es)::(s,.undef)::ε):=by
 simp [PR.wp,c,f,hd,AE.wp,AB.put]at h
 grind
variable{n:Nat}
theorem g9{S:FuncId->Fq->Az->Prop}{K:AB->Prop}{es:Fq}(c:q.op=.tkx s)(f:q.guard=W)(hd:q.dst=Y d)(g:ε.get s=.xo n es)(j:ε.ew d=X)(k:d≠s)(h:K ((d,.xo n es)::(s,.undef)::ε)):q.wp S ε K:=by
 simp [PR.wp,c,f,hd,AE.wp,AB.put,g];exact⟨j,k,h⟩
theorem v8(hR:K0 F0 w0 N ε)(hj:JD D ε){op:Oper}(hp:LE P N ops op p=X)(f:Abb D p q=X)(h:EU (AW P) K (p::q::rs) ε):EU (AW P) K (q::p::rs) ε:=by
 unfold Abb at f;split at f
 .rename_i s d M hg hd;simp[PR.x4,w?]at f;obtain⟨⟨⟨⟨⟨⟨⟨⟨pm,pd⟩,pg⟩,pb⟩,pD⟩,G⟩,Q⟩,ζ⟩,δ⟩:=f;obtain⟨C,θ⟩:=x!.1 pd;rw[θ]at ζ;simp at ζ;have G:s∈D:=by simpa using G
  have Q:d∈D:=by simpa using Q
  have R:C≠s:=λe=>A2 ζ (x:=C) V d!;have hpd:C≠d:=λe=>A2 ζ (x:=C) V d!;have j:s∉p.op.slots:=λe=>A2 δ (x:=s) V (C9 e);have l:d∉p.op.slots:=λe=>A2 δ (x:=d) V (C9 e);have sng:s∉p.gsl:=λe=>A2 δ (x:=s) V (Di e);have dng:d∉p.gsl:=λe=>A2 δ (x:=d) V (Di e);have pg':p.op.pN=X->p.guard=W:=λhn=>by
   rcases pg with h|h
   .rw[hn]at h;cases h
   .simpa using h
  obtain ⟨w,E,h⟩:=h;have hR':=hR.congr E.symm;have u:=hj.congr E.symm;obtain⟨gt,⟨⟨e1,v,hw⟩,ep,κ,A⟩,hR1⟩:=E0 hR' hp (O3 θ pm pg' h);have g1:∀n,e1.get n=if C=n then ep else κ.on n (w.get n):=λn=>by
   rw [v.1,A.gt,AB.c7,BA.get]
  have B:∀x,x∈D->x∉p.op.slots->∀e,κ.on x e=e:=by
   intro x hxD O e;have:=A.slot;have k:=A.cell;cases κ with
   |none=>rfl|slot s t=>
    simp only[BA.on];rw[aN];intro he;subst he;exact O (Cm (this _ _ rfl))
   |cell s off t=>
    simp only[BA.on];rw[aN];intro he;subst he;rcases k _ _ _ rfl with I|⟨y,_,η⟩
    .exact O I
    .exact u.no η hxD
  obtain ⟨n,es,k1,k2,k3,hK⟩:=g8 M hg hd hw;rw[g1,aN R,B s G j]at k1;rw[v.2,A.gt,AB.ea,BA.ew,kp]at k2;have H:∀m,m≠d->m≠s->AB.get ((d,.xo n es)::(s,.undef)::w) m=w.get m:=λm z k=>by
   rw [AB.c7,aN (λe=>z e.symm),AB.c7,aN (λe=>k e.symm)]
  have nr:∀c,AB.ew c ((d,EV.xo n es)::(s,EV.undef)::w)=AB.ew c w:=λc=>by
   simp [AB.ea,EV.x8,EV.q0]
  have L:Ek p.op κ (Y C) w ((d,.xo n es)::(s,.undef)::w):=by
   refine ⟨λx F=>.inl (H x (λe=>l (e▸F)) (λe=>j (e▸F))),λx F r hr=>.inl (H r (λe=>u.no hr (e▸Q)) (λe=>u.no hr (e▸G))),λx F _=>H x (λe=>l (e▸Cm F)) (λe=>j (e▸Cm F)),?_,λhn d' hd' Z=>by rw[nr];exact Z⟩;have z:=A.slot;have k:=A.ok;have η:=A.cell;cases κ with
   |none=>trivial|slot x t=>
    simp [BA.ok]at k|-;rw[H x (λe=>l (e▸Cm (z _ _ rfl))) (λe=>j (e▸Cm (z _ _ rfl)))];exact k
   |cell x off t=>
    obtain ⟨ds,h5,h6⟩:=k;refine⟨ds,?_,h6⟩;rw[H x (λe=>?_) (λe=>?_)]
    .exact h5
    .rcases η _ _ _ rfl with h7|⟨y,_,h8⟩
     .exact l (e▸h7)
     .exact u.no h8 (e▸Q)
    .rcases η _ _ _ rfl with h7|⟨y,_,h8⟩
     .exact j (e▸h7)
     .exact u.no h8 (e▸G)
  have hgp:∀g∈p.gsl,AB.get ((d,.xo n es)::(s,.undef)::w) g=w.get g:=λg J=>H g (λe=>dng (e▸J)) (λe=>sng (e▸J));refine⟨w,E,g9 M hg hd k1 k2.2 k3 ⟨_,.refl _,A.again _ L hgp _ (Gd hK ?_)⟩⟩;refine⟨λm=>?_,λc=>?_⟩
  .simp[AB.c7,BA.get,g1];by_cases z:d=m
   .subst z;rw[aE rfl,aN hpd,B d Q l,aE rfl]
   .rw[aN z];by_cases k:s=m
    .subst k;rw[aE rfl,aN R,B s G j,aN z,aE rfl]
    .rw[aN k];by_cases I:C=m
     .rw[aE I,aE I]
     .rw[aN I,aN I,aN z,aN k]
  .simp[AB.ea,BA.ew,v.2,A.gt];have e1:EV.x8 c (EV.xo n es)=X:=rfl;have e2:EV.x8 c EV.undef=X:=rfl;rw[e1,e2];cases EV.x8 c ep<;>rfl
 .cases f
def vT:AE->Bool
 |.xal _=>X|.mv _=>X|.bad _ _=>X|.fad _ _=>X|.ld _=>X|.lac _=>X|_=>T
def Aba(D:MV)(p q:PR):Bool:=
 match q.op,q.guard,q.dst,p.guard,p.dst with
 |.xst x v _,W,W,W,Y d=>PR.x4 D p&&vT p.op&&!(x.sl.contains d)&&!(v.sl.contains d)|_,_,_,_,_=>T
variable{i:Option Nat}
theorem Oc{q:Nat}{es es':Fq}(h:ε.pc q i=Y (n,es)):(∃u,AB.get (ε.wi q i n es') q=u/\((∃m c,ε.get q=.xo m c/\∃m' fs',u=.xo m' fs')\/(∃cs k,i=Y k/\cs[k]?=Y ⟨X,.xl n es⟩/\ε.get q=.bx cs/\u=.bx (cs.set k ⟨X,.xl n es'⟩))))/\(∀m,q≠m->AB.get (ε.wi q i n es') m=ε.get m)/\∀d,AB.ew d (ε.wi q i n es')=ε.ew d:=by
 cases i with
 |none=>
  grind [AB.pc,AB.wi,AB.c7,AB.ea,EV.x8,EV.q0]
 |some k=>
  grind [AB.pc,o4,AB.wi,AB.c7,AB.ea,EV.x8,EV.q0]
theorem fy(l:List AQ)(c:Nat):FU ((l.drop c).map (·.t))=(l[c]?).map (·.t):=by
 rw [show l[c]?=(l.drop c)[0]? by rw[List.getElem?_drop,Nat.add_zero]];cases l.drop c<;>rfl
variable{t:TV}
theorem ot{ds:List AQ}{k c n:Nat}{es es':Fq}(g:t.Aaw=T)(h:ds[k]?=Y ⟨X,.xl n es⟩)(f:FU ((ds.drop c).map (·.t))=Y t):FU (((ds.set k ⟨X,.xl n es'⟩).drop c).map (·.t))=Y t:=by
 rw [fy]at f|-;by_cases e:k=c
 .subst e;rw[h]at f;simp at f;subst f;cases g
 grind
theorem sT{S:FuncId->Fq->Az->Prop}{op:AE}(ho:vT op=X){dst:Option Nat}{K:EV->AB->Prop}(h:op.wp S ε dst K):
  ∃e,K e ε/\(∀m I,e≠.xo m I)/\(∀cs,e≠.bx cs)/\∀(q n:Nat)(i:Option Nat)(es es':Fq),ε.pc q i=Y (n,es)->∀A:EV->AB->Prop,A e (ε.wi q i n es')->op.wp S (ε.wi q i n es') dst A:=by
 have C:∀{q n:Nat}{i:Option Nat}{es es':Fq},ε.pc q i=Y (n,es)->∀m e,ε.get m=e->(∀k I,e≠.xo k I)->(∀cs,e≠.bx cs)->AB.get (ε.wi q i n es') m=e:=λ{q n i es es'}g m e w F κ=>by
  obtain ⟨⟨u,M,l⟩,H,_⟩:=Oc (es':=es') g
  grind
 have E:∀{q n:Nat}{i:Option Nat}{es es':Fq},ε.pc q i=Y (n,es)->∀m cs,ε.get m=.bx cs->∃cs',AB.get (ε.wi q i n es') m=.bx cs'/\∀v t,t.Aaw=T->FU ((cs.drop v).map (·.t))=Y t->FU ((cs'.drop v).map (·.t))=Y t:=λ{q n i es es'}g m cs w=>by
  obtain ⟨⟨u,M,l⟩,H,_⟩:=Oc (es':=es') g
  grind [ot]
 have z:∀{q n:Nat}{i:Option Nat}{es es':Fq},ε.pc q i=Y (n,es)->∀(x:AG)e,x.ev ε=e->(∀m I,e≠.xo m I)->(∀cs,e≠.bx cs)->x.ev (ε.wi q i n es')=e:=by
  intro q n i es es' g x e he w F;cases x with
  |c t=>exact he|s y=>exact C g y e he w F
 cases op with
 |mv x=>
  simp [AE.wp]at h|-;split at h
  next t j=>exact⟨_,h,V,V,λq n i es es' g A f=>k_⟩
  next t j=>exact⟨_,h,V,V,λq n i es es' g A f=>k_⟩
  next t j=>exact⟨_,h,V,V,λq n i es es' g A f=>k_⟩
  .exact h.elim
 |lac x=>
  simp [AE.wp]at h|-;split at h
  .rename_i s v j;split at h
   .rename_i η ζ;refine⟨_,h,V,V,λq n i es es' g A f=>?_⟩;rw[z g x _ j V V];have L:∃r,(ε.wi q i n es').pc s (Y v)=Y r:=by
     cases i with
     |none=>grind[AB.pc,AB.wi,AB.c7]|some k=>grind[AB.pc,AB.wi,AB.c7]
    obtain ⟨r,L⟩:=L;simp only[L];exact f
   .exact h.elim
  .exact h.elim
 |xal s=>
  simp [AE.wp]at h|-;split at h
  .rename_i m I B;refine⟨_,h,V,V,λq n i es es' g A f=>?_⟩;obtain⟨⟨u,M,l⟩,H,_⟩:=Oc (es':=es') g;by_cases e:q=s
   .subst e;rcases l with⟨_,_,_,m',fs',rfl⟩|⟨_,_,_,_,R,_⟩
    .rw[M];exact f
    .rw[B]at R;cases R
   .rw[H s e,B];exact f
  .exact h.elim
 |bad s k=>
  simp [AE.wp]at h|-;split at h
  next cs B=>refine⟨_,h,V,V,λq n i es es' g A f=>?_⟩;obtain⟨cs',w,_⟩:=E (es':=es') g s cs B;rw[w];exact f
  next row B=>exact⟨_,h,V,V,λq n i es es' g A f=>by rw[C g s _ B V V];exact f⟩
  .exact h.elim
 |fad x k=>
  simp [AE.wp]at h|-;split at h
  next row j=>exact⟨_,h,V,V,λq n i es es' g A f=>k_⟩
  .rename_i s v j;split at h
   next cs B=>refine⟨_,h,V,V,λq n i es es' g A f=>?_⟩;obtain⟨cs',w,_⟩:=E (es':=es') g s cs B;rw[z g x _ j V V];simp only;rw[w];exact f
   .exact h.elim
  .exact h.elim
 |ld x=>
  simp [AE.wp]at h|-;cases l:BB ε (x.ev ε)with
  |none=>rw[l]at h;exact h.elim|some cs=>
   rw [l]at h;simp[Ai]at h;cases J:FU cs with
   |none=>rw[J]at h;exact h.elim|some t=>
    rw [J]at h;obtain⟨O,h⟩:=h;refine⟨_,h,V,V,λq n i es es' g A f=>?_⟩;have θ:∃cs',BB (ε.wi q i n es') (x.ev (ε.wi q i n es'))=Y cs'/\FU cs'=Y t:=by
     cases x with
     |c Q=>exact⟨cs,by rw[<-l];cases Q<;>rfl,J⟩
     |s y=>
      simp [AG.ev]at l|-;cases G:ε.get y with
      |bp s v=>
       rw [C g y _ G V V];rw[G]at l;simp only[BB]at l|-;split at l
       next ds B=>cases l;obtain⟨cs',w,F⟩:=E (es':=es') g s ds B;rw[w];exact⟨_,rfl,F _ _ O J⟩
       .cases l
      |tv Q=>
       rw [C g y _ G V V];rw[G]at l;exact⟨cs,by rw[<-l];cases Q<;>rfl,J⟩
      |bx ds=>
       rw [G]at l;simp[BB]at l;subst l;obtain⟨cs',w,F⟩:=E (es':=es') g y ds G;rw[w];have:=F 0 t O (by simpa using J);exact⟨_,rfl,by simpa using this⟩
      |_=>rw[G]at l;cases l
    obtain ⟨cs',w,F⟩:=θ;rw[w];simp[Ai,F];exact⟨O,f⟩
 |_=>cases ho
variable{e:EV}
theorem aL{ε g:AB}{d t n:Nat}{es:Fq}(h:Mx g ((d,e)::ε))(j:d≠t):Mx (g.wi t i n es) ((d,e)::ε.wi t i n es):=by
 have v:g.get t=ε.get t:=by rw[h.1,AB.c7,aN j]
 have f:∀u:EV,(∀c,EV.x8 c u=X)->Mx ((t,u)::g) ((d,e)::(t,u)::ε):=by
  intro u l;refine⟨λm=>?_,λc=>?_⟩
  .rw[AB.c7,h.1,AB.c7,AB.c7,AB.c7]
   grind
  .rw[AB.ea,h.2,AB.ea,AB.ea,AB.ea,l];cases EV.x8 c e<;>rfl
 cases i with
 |none=>exact f _ λc=>rfl|some k=>
  simp [AB.wi,v];split
  .exact f _ λc=>rfl
  .exact h
theorem wC(f:Aba D p q=X)(h:EU (AW P) K (p::q::rs) ε):EU (AW P) K (q::p::rs) ε:=by
 unfold Aba at f;split at f
 .rename_i x v Z d A B hd I J;simp[w?,decide_eq_false_iff_not]at f;obtain⟨⟨⟨_,ho⟩,C⟩,E⟩:=f;obtain⟨z,F,h⟩:=h;simp[PR.wp,I,J,AB.put]at h;obtain⟨e,⟨G,j,l⟩,Q,R,H⟩:=sT ho h;have w:∀(y:AG),d∉y.sl->y.ev G=y.ev z:=by
   intro y hy;cases y with
   |c t=>rfl|s m=>
    simp [AG.ev,j.1,AB.c7]
    grind [AG.sl]
  refine ⟨z,F,?_⟩;simp[PR.wp,B,hd,A,AE.wp,w x C,w v E]at l|-;split at l
  .rename_i t i c hx;split at l
   .rename_i n es u L M;obtain⟨θ,κ,es',η,ζ,δ,hK⟩:=l;have g:d≠t:=by
     intro g;have B:G.get t=e:=by rw[j.1,AB.c7,aE g]
     cases i with
     |none=>
      grind [AB.pc]
     |some k=>
      grind [AB.pc]
    have O:z.pc t i=Y (n,es):=by
     have B:G.get t=z.get t:=by rw[j.1,AB.c7,aN g]
     grind [AB.Aah]
    rw [O,M];refine⟨θ,κ,es',η,ζ,δ,_,.refl _,?_⟩
    grind [PR.wp,AB.put,Gd,aL]
   .exact l.elim
  .exact l.elim
 .cases f
end
end Go.Sf
