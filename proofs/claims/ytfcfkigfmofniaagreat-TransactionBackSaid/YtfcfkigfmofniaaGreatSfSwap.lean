/- Two operations of a region that may change places. -/
import Derived.Test.YtfcfkigfmofniaaGreatSfFrame
set_option linter.all false
open Option renaming some->Y,none->W
open Bool renaming true->X,false->T
open Bool renaming not_eq_true'->u!,and_true->u?
open Option renaming isSome_iff_exists->v1
namespace Go.Sf
open Go.RowKit (Below)
theorem AB.ej(d k:Nat)(e:EV)(O:AB):AB.jj d ((k,e)::O)=(e.y8 d&&AB.jj d O):=rfl
variable{d:Nat}{e:EV}
theorem UM(h:∀s,e.yi=Y s->s≠d):e.y8 d=X:=by grind[EV.y8]
theorem A7.jj(f:A7)(O:AB)(d:Nat):AB.jj d (f.app O)=AB.jj d O:=by
 cases f with
 |none=>rfl|slot s t=>simp[A7.app,AB.ej,EV.y8,EV.yi]|cell s c t=>
  grind [A7.app,AB.ej,EV.y8,EV.yi]
def A7.on(f:A7)(n:Nat)(e:EV):EV:=
 match f with
 |.none=>e|.slot s t=>if s=n then .tv t else e|.cell s off t=>if s=n then(match e with|.bx cs=>.bx (cs.set off ⟨T,t⟩)|e=>e)else e
theorem A7.get(f:A7)(O:AB)(n:Nat):AB.get (f.app O) n=f.on n (O.get n):=by
 cases f with
 |none=>rfl|slot s t=>simp[A7.app,AB.d6,A7.on]|cell s c t=>
  simp [A7.app,A7.on]
  grind [AB.d6]
def M1(O env2:AB):Prop:=(∀n,O.get n=env2.get n)/\∀d,O.jj d=env2.jj d
theorem M1.refl(O:AB):M1 O O:=⟨λ_=>rfl,λ_=>rfl⟩
theorem M1.trans{a b c:AB}(h:M1 a b)(f:M1 b c):M1 a c:=⟨λn=>(h.1 n).trans (f.1 n),λd=>(h.2 d).trans (f.2 d)⟩
variable{a b:AB}
theorem M1.symm(h:M1 a b):M1 b a:=⟨λn=>(h.1 n).symm,λd=>(h.2 d).symm⟩
variable{w:World}
theorem Bj.congr{F0:Nat->Nat->Prop}{w0:W0}{O env2:AB}{a:Act}(h:Bj F0 w0 O a w)(he:∀n,O.get n=env2.get n):Bj F0 w0 env2 a w:=by
 obtain ⟨G,h⟩:=h;refine⟨G,h.og,h.lt,h.below,h.defers,λq c=>?_,λq c=>?_,λq=>?_⟩
 .rw[<-he];exact h.dom q c
 .rw[<-he];refine AL.kept (P7 _ _) (λ_=>rfl) (λ_ _ _ _=>rfl) rfl BA.rfl' (λr i k j⟨p,f⟩=>⟨⟨p,(AB.zk (he r)).trans f⟩,λ_ hv=>hv⟩) (λr l j⟨cs,g⟩=>⟨⟨cs,by rw[he];exact g⟩,rfl⟩) (λr i j⟨p,f⟩=>⟨⟨p,(AB.y9 (he r)).trans f⟩,λ_ hv=>hv⟩) (h.slots q c)
 .rw[<-he];exact h.wf q
def Es(S:FuncId->Fq->Al->Prop)(K:AB->Prop):List PR->AB->Prop
 |[],O=>∃e,M1 e O/\K e|r::rs,O=>∃e,M1 e O/\r.wp S e (Es S K rs)
section
variable{S:FuncId->Fq->Al->Prop}{K:AB->Prop}
variable{rs:List PR}
theorem Hi{O env2:AB}(h:Es S K rs O)(he:M1 O env2):Es S K rs env2:=by
 cases rs with
 |nil=>obtain⟨e,c,f⟩:=h;exact⟨e,c.trans he,f⟩
 |cons r rs=>obtain⟨e,c,f⟩:=h;exact⟨e,c.trans he,f⟩
theorem kK:∀{rs:List PR}{O:AB},wpOps S K rs O->Es S K rs O
 |[],O,h=>⟨O,.refl _,h⟩|r::rs,O,h=>⟨O,.refl _,PR.o3 S O (λe he=>kK he) r h⟩
def PR.zN(r:PR):QQ:=
 match r.guard with
 |some (g,_)=>[g]|none=>[]
structure PM(S:FuncId->Fq->Al->Prop)(r:PR)(d:Nat)(O o4:AB)(e:EV)(f:A7):Prop where
 o4:o4=(d,e)::f.app O
 ok:f.ok O
 slot:∀s t,f=.slot s t->s∈r.op.dem
 cell:∀s off t,f=.cell s off t->(s∈r.op.slots\/∃x∈r.op.slots,(O.get x).yi=Y s)
 yi:∀s,e.yi=Y s->(s∈r.op.Aae\/∃x∈r.op.slots,(O.get x).yi=Y s)
 new:r.op.x3=X->e.yi=W/\O.jj d=X
 xl:∀s off t,f=.cell s off t->t.zK=T
 again:∀env2,D6 r.op f (Y d) O env2->(∀g∈r.zN,env2.get g=O.get g)->∀K2:AB->Prop,K2 ((d,e)::f.app env2)->r.wp S env2 K2
variable{r:PR}{d:Nat}{O:AB}
theorem PS(hd:r.dst=Y d)(C:r.op.mov=X)(I:r.op.x3=X->r.guard=W)(h:r.wp S O K):r.wp S O λo4=>K o4/\∃e f,PM S r d O o4 e f:=by
 have B:∀(m:∀env2,(∀g∈r.zN,env2.get g=O.get g)->∀u:AB->Prop,(r.op.wp S env2 (Y d) λe env'=>u (env'.put (Y d) e))->r.wp S env2 u),(r.op.wp S O (Y d) λe env'=>K (env'.put (Y d) e))->r.op.wp S O (Y d) λe env'=>K (env'.put (Y d) e)/\∃E f,PM S r d O (env'.put (Y d) e) E f:=by
  intro m G;refine AD.o3 S O (Y d) (λe env' he=>?_) r.op (frame C G);obtain⟨H,f,c⟩:=he;refine⟨H,e,f,?_,c.ok,c.slot,c.cell,c.yi,λv=>⟨(c.new v).1,(c.new v).2 d rfl⟩,c.xl,λenv2 F k u j=>?_⟩
  .simp[AB.put];rw[c.env']
  .exact m env2 k u (c.again env2 F _ j)
 unfold PR.wp at h|-;cases l:r.guard with
 |none=>
  grind [PR.wp]
 |some gb=>
  obtain ⟨g,b⟩:=gb;rw[l]at h;rw[hd]at h|-;simp only at h|-;have k:g∈r.zN:=by simp[PR.zN,l]
  split at h
  .rename_i q A;refine⟨λy=>B (λenv2 c u j=>?_) (h.1 y),λy=>⟨h.2 y,.sk,.none,rfl,trivial,V,V,(λs he=>m?),λv=>?_,V,λenv2 _ c u j=>?_⟩⟩
   .grind[PR.wp]
   .grind
   .unfold PR.wp;rw[l,hd];simp only;rw[c g k,A];exact⟨λz=>by subst z;cases q<;>simp at y,λ_=>j⟩
  .rename_i A;refine⟨h,.sk,.none,rfl,trivial,V,V,(λs he=>m?),λv=>?_,V,λenv2 _ c u j=>?_⟩
   .grind
   .unfold PR.wp;rw[l,hd];simp only;rw[c g k,A];exact j
  .exact h.elim
end
section
variable{P:Program}{F0:Nat->Nat->Prop}{w0:W0}{N:Nat}{ops:Array Oper}{K:AB->Prop}
def L0(F0:Nat->Nat->Prop)(w0:W0)(N:Nat)(O:AB):Prop:=∃a w,a.tmps.size=N/\Bj F0 w0 O a w
theorem L0.congr{O env2:AB}(h:L0 F0 w0 N O)(he:M1 O env2):L0 F0 w0 N env2:=by
 obtain ⟨a,w,c,f⟩:=h;exact⟨a,w,c,f.congr he.1⟩
variable{O:AB}{s:Nat}{t:TV}
theorem L0.list(h:L0 F0 w0 N O)(c:O.get s=.ow t):∃n es,t=.list n es:=by
 obtain ⟨a,w,_,G,f⟩:=h;have:=AZ f c V;simp[AL]at this;cases t<;>simp[Bm]at this;exact⟨_,_,rfl⟩
variable{o:Oper}{w:World}
theorem gQ{a:Act}{ζ:Prop}(h:o.wp P a w (λ_ _=>ζ) (λ_ _ _=>False)):ζ:=by
 unfold Oper.wp at h;generalize (execOp a.eval o).run P w=r at h;cases r with
 |ok n w'=>
  cases n with
  |value v=>exact h|skip=>exact h|defer d=>exact h|enter f args=>
   rw [Oper.upon_enter]at h;obtain⟨e,j,fr,g,_⟩:=h [];cases e with
   |returned v=>exact g|panicked c=>exact g.elim|outgrown=>obtain⟨_,_,k⟩:=g;exact k.elim
  |row r args=>
   rw [Oper.upon_row]at h;obtain⟨v,j,g,_⟩:=h default [];exact g
  |_=>exact h.elim
 |halt x w'=>
  cases x<;>exact h.elim
variable{r:PR}
theorem FU(f:L0 F0 w0 N O)(c:L4 P N ops o r=X)(h:r.wp (AX P) O K):∃env',K env'/\L0 F0 w0 N env':=by
 obtain ⟨a,w,l,m⟩:=f;have:=Vp (p:=W) (next:=λ_ _=>∃env',K env'/\L0 F0 w0 N env') (Q:=λ_ _ _=>False) m ⟨l,V⟩ V c h λenv' a' w' g j k=>⟨env',g,a',w',j.size,k⟩;split at this
 .exact gQ this
 .exact this
end
def Ed(xs ys:QQ):Bool:=xs.all λx=>!ys.contains x
variable{x:Nat}
theorem An{xs ys:QQ}(h:Ed xs ys=X)(c:x∈xs)(f:x∈ys):False:=by grind[Ed,List.all_eq_true,u!]
def PR.old(r:PR):QQ:=
 if r.op.x3 then[]else r.dst.toList
def PR.yu(D:QQ)(r:PR):Bool:=
 r.op.mov&&r.dst.isSome&&(!r.op.x3||r.guard.isNone)&&Ed r.op.Aae D&&r.old.all D.contains
def Wv(D:QQ)(p q:PR):Bool:=
 PR.yu D p&&PR.yu D q&&Ed p.dst.toList (q.dst.toList++(q.op.slots++q.zN))&&Ed q.dst.toList (p.op.slots++p.zN)&&Ed p.op.dem (q.op.dem++q.zN)&&Ed q.op.dem p.zN
variable{s:Nat}
theorem CD{op:AD}(h:s∈op.dem):s∈op.slots:=by
 cases op<;>simp only[AD.dem,List.not_mem_nil]at h<;>simp only[AD.slots]
 .exact h
 .exact DI h
theorem eV{op:AD}(h:s∈op.Aae):s∈op.slots:=by
 cases op<;>simp[AD.Aae]at h<;>simp[AD.slots]
 all_goals exact h
def JD(D:QQ)(O:AB):Prop:=∀d∈D,O.jj d=X
theorem JD.congr{D:QQ}{O env2:AB}(h:JD D O)(he:M1 O env2):JD D env2:=λd hd=>by rw[<-he.2];exact h d hd
variable{O:AB}
theorem JD.no{D:QQ}(h:JD D O)(c:(O.get x).yi=Y s):s∉D:=λhd=>AB.yn s O (h s hd) x c
section
variable{S:FuncId->Fq->Al->Prop}
variable{r:PR}{d:Nat}{e:EV}
theorem PM.jd{D:QQ}{O o4:AB}{f:A7}(h:PM S r d O o4 e f)(k:Ed r.op.Aae D=X)(j:JD D O):JD D o4:=by
 intro x g;rw[h.o4,AB.ej,A7.jj,j x g,u?];refine UM (λs he c=>?_);subst c;rcases h.yi s he with l|⟨y,_,m⟩
 .exact An k l g
 .exact j.no m g
variable{O:AB}
theorem A7.like(f:A7)(c:f.ok O)(h:∀s t,O.get s=.ow t->∃n es,t=.list n es)(k:∀s g t,f=.cell s g t->t.zK=T)(n:Nat):(O.get n).like (f.on n (O.get n)):=by
 cases f with
 |none=>exact .inl rfl|slot s t=>
  simp [A7.on];split
  next e=>subst e;simp[A7.ok]at c;obtain⟨m,es,rfl⟩:=h s t c;exact .inr (.inl ⟨m,es,.inr ⟨c,rfl⟩⟩)
  .exact .inl rfl
 |cell s g t=>
  simp [A7.on];split
  .rename_i e;subst e;obtain⟨cs,j,l⟩:=c;rw[j];refine .inr (.inr ⟨cs,_,rfl,rfl,?_⟩);rw[List.map_set];refine List.ext_getElem? λi=>?_
   grind [c8,List.getElem?_eq_some_iff,AR.key]
  .exact .inl rfl
end
variable{r:PR}{O:AB}
theorem SW{S:FuncId->Fq->Al->Prop}{K:AB->Prop}(h:r.wp S O K):∀g∈r.zN,∃b,O.get g=b/\(∀cs,b≠.bx cs)/\(∀t,b≠.ow t)/\∀cs,b≠.yy cs:=by grind[PR.zN,PR.wp,List.mem_singleton]
section
variable{P:Program}{F0:Nat->Nat->Prop}{w0:W0}{N:Nat}{ops:Array Oper}{K:AB->Prop}{D:QQ}
variable{O:AB}{p q:PR}{rs:List PR}
theorem swap(hR:L0 F0 w0 N O)(hj:JD D O){op oq:Oper}(hp:L4 P N ops op p=X)(hq:L4 P N ops oq q=X)(θ:Wv D p q=X)(h:Es (AX P) K (p::q::rs) O):Es (AX P) K (q::p::rs) O:=by
 simp [Wv,PR.yu,u!]at θ;obtain⟨⟨⟨⟨⟨⟨⟨⟨⟨pm,pd⟩,pg⟩,pb⟩,pD⟩,⟨⟨⟨qm,qd⟩,qg⟩,qb⟩,qD⟩,c1⟩,c2⟩,c3⟩,c4⟩:=θ;obtain⟨F,hdp⟩:=v1.1 pd;obtain⟨C,hdq⟩:=v1.1 qd;rw[hdp]at c1;rw[hdq]at c1 c2;simp at c1 c2;have hpq:F≠C:=λe=>An c1 (x:=F) V c!;have H:F∉q.op.slots:=λe=>An c1 (x:=F) V c!;have pngq:F∉q.zN:=λe=>An c1 (x:=F) V c!;have Q:C∉p.op.slots:=λe=>An c2 (x:=C) V c!;have qngp:C∉p.zN:=λe=>An c2 (x:=C) V c!;have dd:∀s,s∈p.op.dem->s∈q.op.dem->False:=λs c l=>An c3 c (DI l);have dg1:∀s,s∈p.op.dem->s∈q.zN->False:=λs c l=>An c3 c (Dw l);have dg2:∀s,s∈q.op.dem->s∈p.zN->False:=λs c l=>An c4 c l;have oldp:p.op.x3=X\/F∈D:=by
  cases E:p.op.x3 with
  |true=>exact .inl rfl|false=>exact .inr (by simpa[PR.old,E,hdp]using pD)
 have oldq:q.op.x3=X\/C∈D:=by
  cases E:q.op.x3 with
  |true=>exact .inl rfl|false=>exact .inr (by simpa[PR.old,E,hdq]using qD)
 have pg':p.op.x3=X->p.guard=W:=λE=>by
  rcases pg with h|h
  .rw[E]at h;cases h
  .simpa using h
 have qg':q.op.x3=X->q.guard=W:=λE=>by
  rcases qg with h|h
  .rw[E]at h;cases h
  .simpa using h
 obtain ⟨L,heq,h⟩:=h;have hR':=hR.congr heq.symm;have hj':=hj.congr heq.symm;obtain⟨o4,⟨⟨J,B,hw⟩,ep,R,z⟩,hR1⟩:=FU hR' hp (PS hdp pm pg' h);have hRe1:=hR1.congr B.symm;have hj1:=z.jd pb hj';have hje1:=hj1.congr B.symm;obtain⟨X1,⟨hK,eq,G,M⟩,_⟩:=FU hRe1 hq (PS hdq qm qg' hw);have δ:∀n,J.get n=if F=n then ep else R.on n (L.get n):=λn=>by
  rw [B.1,z.o4,AB.d6,A7.get]
 have ε:∀x s,(J.get x).yi=Y s->s≠F:=by
  intro x s hx A;subst A;rcases oldp with E|hd
  .refine AB.yn s J ?_ x hx;rw[B.2,z.o4,AB.ej,A7.jj,(z.new E).2,u?];exact UM (λs he _=>by rw[(z.new E).1]at he;cases he)
  .exact hje1.no hx hd
 have nq':∀x s,(L.get x).yi=Y s->s≠C:=by
  intro x s hx A;subst A;rcases oldq with E|hd
  .have c:=(M.new E).2;rw[B.2,z.o4,AB.ej,A7.jj,sx]at c;exact AB.yn s L c.2 x hx
  .exact hj'.no hx hd
 have lk:∀n,n≠F->(J.get n).like (L.get n):=by
  intro n E;rw[δ,az (λe=>E e.symm)];exact(A7.like R z.ok (λs t A=>hR'.list A) z.xl n).symm
 have fpdq:∀e,R.on C e=e:=by
  intro e;have:=z.slot;have l:=z.cell;cases R with
  |none=>rfl|slot s t=>
   simp only[A7.on];rw[az];intro he;subst he;exact Q (CD (this _ _ rfl))
  |cell s j t=>
   simp only[A7.on];rw[az];intro he;subst he;rcases l _ _ _ rfl with m|⟨x,_,I⟩
   .exact Q m
   .exact nq' x _ I rfl
 have κ:∀e,G.on F e=e:=by
  intro e;have:=M.slot;have l:=M.cell;cases G with
  |none=>rfl|slot s t=>
   simp only[A7.on];rw[az];intro he;subst he;exact H (CD (this _ _ rfl))
  |cell s j t=>
   simp only[A7.on];rw[az];intro he;subst he;rcases l _ _ _ rfl with m|⟨x,_,I⟩
   .exact H m
   .exact ε x _ I rfl
 have v:G.ok L:=by
  have k:=M.ok;have hsl:=M.slot;have hc:=κ;cases G with
  |none=>trivial|slot s t=>
   simp [A7.ok]at k|-;have A:=hsl s t rfl;have f:F≠s:=λe=>H (e▸CD A);rw[δ,az f]at k;have c:=z.slot;have l:=z.ok;cases R with
   |none=>exact k|slot s' y=>
    simp [A7.on]at k;rw[az (λ(e:s'=s)=>dd s' (c _ _ rfl) (by rw[e];exact A))]at k;exact k
   |cell s' j y=>
    simp [A7.on]at k;split at k
    next e=>subst e;obtain⟨cs,m,_⟩:=l;rw[m]at k;cases k
    .exact k
  |cell s j t=>
   obtain ⟨cs,c,l⟩:=k;have f:F≠s:=λe=>by
    have:=hc (.bx [⟨X,.undef⟩,⟨X,.undef⟩]);rcases M.cell s j t rfl with m|⟨x,_,I⟩
    .exact H (e▸m)
    .exact ε x s I e.symm
   rw [δ,az f]at c;have m:=z.ok;cases R with
   |none=>exact⟨cs,c,l⟩|slot s' y=>
    simp [A7.on]at c;split at c
    .cases c
    .exact⟨cs,c,l⟩
   |cell s' u y=>
    simp [A7.on]at c;split at c
    .rename_i e;subst e;obtain⟨cs',I,h5⟩:=m;rw[I]at c;simp[EV.bx.injEq]at c;subst c;rw[List.getElem?_set]at l;split at l
     .split at l
      .simp at l
      .cases l
     .exact⟨cs',I,l⟩
    .exact⟨cs,c,l⟩
 have L1:D6 q.op G (Y C) J L:=by
  refine ⟨λs A=>lk s (λe=>H (e▸A)),λs A r hb=>lk r (ε s r hb),λs A hnb=>?_,v,λE d hd ζ=>?_⟩
  .have f:F≠s:=λe=>H (e▸CD A);rw[δ,az f];have c:=z.slot;have l:=z.ok;cases R with
   |none=>rfl|slot s' y=>
    simp only[A7.on];rw[az (λ(e:s'=s)=>dd s' (c _ _ rfl) (by rw[e];exact A))]
   |cell s' j y=>
    simp only[A7.on];split
    next e=>subst e;obtain⟨cs,m,_⟩:=l;exfalso;refine hnb (cs.set j ⟨T,y⟩) ?_;rw[δ,az f];simp[A7.on,m]
    .rfl
  .rw[B.2,z.o4,AB.ej,A7.jj,sx]at ζ;exact ζ.2
 have hgq:∀g∈q.zN,L.get g=J.get g:=by
  intro g hg;have f:F≠g:=λe=>pngq (e▸hg);obtain⟨b,hb,hnx,_⟩:=SW hw g hg;have η:=hb;rw[δ,az f]at η;rw[δ,az f];have c:=z.slot;have l:=z.ok;cases R with
  |none=>rfl|slot s' y=>
   simp only[A7.on];rw[az (λ(e:s'=g)=>dg1 s' (c _ _ rfl) (by rw[e];exact hg))]
  |cell s' j y=>
   simp only[A7.on]at η|-;split
   next e=>subst e;obtain⟨cs,m,_⟩:=l;rw[m]at η;simp at η;exact absurd η.symm (hnx _)
   .rfl
 have hgp:∀g∈p.zN,AB.get ((C,eq)::G.app L) g=L.get g:=by
  intro g hg;have f:C≠g:=λe=>qngp (e▸hg);obtain⟨b,hb,hnx,_⟩:=SW h g hg;rw[AB.d6,az f,A7.get];have c:=M.slot;cases G with
  |none=>rfl|slot s' y=>
   simp only[A7.on];rw[az (λ(e:s'=g)=>dg2 s' (c _ _ rfl) (by rw[e];exact hg))]
  |cell s' j y=>
   simp only[A7.on];split
   next e=>subst e;obtain⟨cs,m,_⟩:=v;rw[m]at hb;exact absurd hb.symm (hnx _)
   .rfl
 have offs:∀s j t u y,R=.cell s j t->G=.cell s u y->j≠u:=by
  intro s j t u y c l ho;subst ho;have m:=M.ok;have I:=z.ok;have h5:=κ;rw[c]at I;rw[l]at m;obtain⟨cs,h6,h7⟩:=I;obtain⟨ds,h8,h9⟩:=m;have f:F≠s:=λe=>by
   rcases M.cell s j y l with m|⟨x,_,I⟩
   .exact H (e▸m)
   .exact ε x s I e.symm
  rw [δ,az f,c]at h8;simp[A7.on,h6,EV.bx.injEq]at h8;subst h8;rw[List.getElem?_set,ae rfl]at h9;split at h9
  .simp at h9
  .cases h9
 have g2:∀n,AB.get ((C,eq)::G.app L) n=if C=n then eq else G.on n (L.get n):=λn=>by
  rw [AB.d6,A7.get]
 have lk2:∀n,n≠C->(L.get n).like (AB.get ((C,eq)::G.app L) n):=by
  intro n E;rw[g2,az (λe=>E e.symm)];exact A7.like G v (λs t A=>hR'.list A) M.xl n
 have L2:D6 p.op R (Y F) L ((C,eq)::G.app L):=by
  refine ⟨λs A=>lk2 s (λe=>Q (e▸A)),λs A r hb=>lk2 r (nq' s r hb),λs A hnb=>?_,?_,λE d hd ζ=>?_⟩
  .have f:C≠s:=λe=>Q (e▸CD A);rw[g2,az f];have c:=M.slot;cases G with
   |none=>rfl|slot s' y=>
    simp only[A7.on];rw[az (λ(e:s'=s)=>dd s' (by rw[e];exact A) (c _ _ rfl))]
   |cell s' j y=>
    simp only[A7.on];split
    next e=>subst e;obtain⟨cs,m,_⟩:=v;exact absurd m (hnb cs)
    .rfl
  .have k:=z.ok;have hsl:=z.slot;have hcl:=z.cell;cases R with
   |none=>trivial|slot s t=>
    simp [A7.ok]at k|-;have A:=hsl s t rfl;have f:C≠s:=λe=>Q (e▸CD A);rw[g2,az f];have c:=M.slot;cases G with
    |none=>exact k|slot s' y=>
     simp [A7.on];rw[az (λ(e:s'=s)=>dd s' (by rw[e];exact A) (c _ _ rfl))];exact k
    |cell s' j y=>
     simp [A7.on];split
     next e=>subst e;obtain⟨cs,m,_⟩:=v;rw[m]at k;cases k
     .exact k
   |cell s j t=>
    obtain ⟨cs,c,l⟩:=k;have f:C≠s:=λe=>by
     rcases hcl s j t rfl with m|⟨x,_,I⟩
     .exact Q (e▸m)
     .exact nq' x s I e.symm
    simp [A7.ok];rw[g2,az f];have m:=v;cases G with
    |none=>exact⟨cs,c,l⟩|slot s' y=>
     simp [A7.on];split
     next e=>subst e;simp[A7.ok]at m;rw[m]at c;cases c
     .exact⟨cs,c,l⟩
    |cell s' u y=>
     simp [A7.on];split
     next e=>subst e;rw[c];have:=offs s' j t u y rfl rfl;refine⟨_,rfl,?_⟩;rw[List.getElem?_set,az (λe=>this e.symm)];exact l
     .exact⟨cs,c,l⟩
  .simp at hd;subst hd;rw[AB.ej,A7.jj,ζ,u?];refine UM (λs he=>?_);rcases M.yi s he with c|⟨x,_,l⟩
   .exact λe=>H (e▸eV c)
   .exact ε x s l
 refine ⟨L,heq,M.again L L1 hgq _ ⟨_,.refl _,z.again _ L2 hgp _ (Hi hK ?_)⟩⟩;rw[M.o4];refine⟨λn=>?_,λd=>?_⟩
 .rw[AB.d6,A7.get,δ,AB.d6,A7.get,g2];by_cases c:C=n
  .subst c;rw[ae rfl,az hpq,ae rfl,fpdq]
  .rw[az c,az c];by_cases l:F=n
   .subst l;rw[ae rfl,ae rfl,κ]
   .rw[az l,az l];have m:=z.ok;have I:=z.slot;have h5:=M.slot;cases R with
    |none=>rfl|slot s t=>
     cases G with
     |none=>rfl|slot s' y=>
      have f:s≠s':=λe=>dd s (I _ _ rfl) (e▸h5 _ _ rfl);simp[A7.on];by_cases J:s=n<;>by_cases Z:s'=n<;>simp[J,Z];exact absurd (J.trans Z.symm) f
     |cell s' u y=>
      have f:s≠s':=λe=>by
       obtain ⟨cs,h6,_⟩:=v;simp[A7.ok]at m;rw[<-e,m]at h6;cases h6
      simp [A7.on];by_cases J:s=n<;>by_cases Z:s'=n<;>simp[J,Z]
    |cell s j t=>
     cases G with
     |none=>rfl|slot s' y=>
      have f:s≠s':=λe=>by
       obtain ⟨cs,h6,_⟩:=m;simp[A7.ok]at v;rw[e,v]at h6;cases h6
      simp [A7.on];by_cases J:s=n<;>by_cases Z:s'=n<;>simp[J,Z]
     |cell s' u y=>
      obtain ⟨cs,h6,_⟩:=m;simp[A7.on];by_cases J:s=n
      .by_cases Z:s'=n
       .subst J;subst Z;have:=offs s' j t u y rfl rfl;simp[h6];rw[List.set_comm _ _ this]
       .simp[J,Z]
      .simp[J]
 .rw[AB.ej,A7.jj,B.2,z.o4,AB.ej,A7.jj,AB.ej,A7.jj,AB.ej,A7.jj];cases EV.y8 d eq<;>cases EV.y8 d ep<;>rfl
end
end Go.Sf
namespace Go.Sf
open Go.RowKit (Below)
def Aab(D:QQ)(p q:PR):Bool:=
 match q.op,q.guard,q.dst with
 |.stb _ b v,W,W=>PR.yu D p&&D.contains b&&Ed p.dst.toList (b::v.sl)&&Ed [b] (p.op.slots++p.zN)&&Ed p.op.dem v.sl|.stx _ b s,W,W=>PR.yu D p&&D.contains b&&Ed p.dst.toList (b::[s])&&Ed [b] (p.op.slots++p.zN)&&Ed p.op.dem [s]&&Ed [s] p.op.slots&&D.contains s|_,_,_=>T
def OU(b:Nat)(cs:List AR)(q:Option (Nat×EV))(O:AB):AB:=
 (b,.bx cs)::(match q with|some (s,t)=>(s,t)::O|none=>O)
theorem Er(b:Nat)(cs:List AR)(q:Option (Nat×EV))(O:AB)(n:Nat):AB.get (OU b cs q O) n=if b=n then .bx cs else(match q with|some (s,t)=>if s=n then t else O.get n|none=>O.get n):=by
 cases q with
 |none=>rfl|some st=>rfl
theorem FZ(b:Nat)(cs:List AR)(q:Option (Nat×EV))(O:AB)(d:Nat)(h:∀s e,q=Y (s,e)->e.y8 d=X):AB.jj d (OU b cs q O)=AB.jj d O:=by
 cases q with
 |none=>simp[OU,AB.ej,EV.y8,EV.yi]|some p=>
  obtain ⟨s,e⟩:=p;have c:=h s e rfl;simp[OU,AB.ej,c];simp[EV.y8,EV.yi]
structure qO(S:FuncId->Fq->Al->Prop)(q:PR)(b:Nat)(v:AE)(O o4:AB)(cs cs':List AR)(o:Option (Nat×EV)):Prop where
 o4:o4=OU b cs' o O
 box:O.get b=.bx cs
 own:∀s e,o=Y (s,e)->v=.s s/\((∃t,e=.tv t/\O.get s=.ow t)\/(e=.undef/\(∃ds,O.get s=.yy ds)/\∃n,q.op=.stx n b s))/\s≠b
 val:∀cs,v.ev O≠.bx cs
 again:∀env2,env2.jj b=X->env2.get b=.bx cs->v.ev env2=v.ev O->∀K2:AB->Prop,K2 (OU b cs' o env2)->q.wp S env2 K2
variable{q:PR}{O:AB}
theorem rR{S:FuncId->Fq->Al->Prop}{K:AB->Prop}{n b:Nat}{v:AE}(f:q.op=.stb n b v\/∃s,v=.s s/\q.op=.stx n b s)(k:q.guard=W)(hd:q.dst=W)(h:q.wp S O K):∃o4,K o4/\∃cs cs' o,qO S q b v O o4 cs cs' o:=by
 rcases f with f|⟨s,rfl,f⟩
 .unfold PR.wp at h;rw[k,f,hd]at h;simp only[AD.wp]at h;split at h
  .rename_i cs m;split at h
   .rename_i t hv;cases v with
    |c t=>exact h.elim|s z=>
     simp only at h;simp[AE.ev]at hv;refine⟨_,h.2.2.2,cs,_,Y (z,.tv t),rfl,m,?_,?_,λenv2 u l j y g=>?_⟩
     .grind
     .grind[AE.ev]
     .simp[AE.ev]at j;unfold PR.wp;rw[k,f,hd];simp[AD.wp,l,AE.ev,j,hv];exact⟨h.1,h.2.1,h.2.2.1,g⟩
   next t hv=>refine⟨_,h.2.2,cs,_,W,rfl,m,V,m_,λenv2 u l j y g=>?_⟩;unfold PR.wp;rw[k,f,hd];simp only[AD.wp,l,j,hv];exact⟨h.1,h.2.1,g⟩
   .exact h.elim
  .exact h.elim
 .unfold PR.wp at h;rw[k,f,hd]at h;simp only[AD.wp]at h;split at h
  .rename_i cs ds m hv;refine⟨_,h.2.2.2,cs,_,Y (s,.undef),rfl,m,?_,by simp[AE.ev,hv],λenv2 u l j y g=>?_⟩
   .grind
   .simp[AE.ev]at j;unfold PR.wp;rw[k,f,hd];simp only[AD.wp,l,j,hv];exact⟨h.1,⟨h.2.1.1,by rw[AB.noX_ref u,Bool.or_true]⟩,h.2.2.1,g⟩
  .exact h.elim
section
variable{P:Program}{F0:Nat->Nat->Prop}{w0:W0}{N:Nat}{ops:Array Oper}{K:AB->Prop}{D:QQ}
variable{O:AB}{p q:PR}{rs:List PR}
theorem qF(hR:L0 F0 w0 N O)(hj:JD D O){op:Oper}(hp:L4 P N ops op p=X)(f:Aab D p q=X)(h:Es (AX P) K (p::q::rs) O):Es (AX P) K (q::p::rs) O:=by
 have key:∃n b v,(q.op=.stb n b v\/∃s,v=.s s/\q.op=.stx n b s)/\q.guard=W/\q.dst=W/\(((((PR.yu D p=X/\D.contains b=X)/\Ed p.dst.toList (b::v.sl)=X)/\Ed [b] (p.op.slots++p.zN)=X)/\Ed p.op.dem v.sl=X)/\(∀n s,q.op=.stx n b s->Ed [s] p.op.slots=X/\D.contains s=X)):=by
  unfold Aab at f;split at f
  .grind
  .rename_i n b s R δ hd;simp only[sx]at f;refine⟨n,b,.s s,.inr ⟨s,rfl,R⟩,δ,hd,f.1.1,λn' s' h=>?_⟩
   grind
  .cases f
 clear f;obtain⟨n,b,v,R,δ,hd,f,hstx⟩:=key
 .simp[PR.yu,u!]at f;obtain⟨⟨⟨⟨⟨⟨⟨⟨pm,pd⟩,pg⟩,pb⟩,pD⟩,Z⟩,c1⟩,c2⟩,c3⟩:=f;obtain⟨H,hdp⟩:=v1.1 pd;rw[hdp]at c1;simp at c1;have Z:b∈D:=by simpa using Z
  have hpb:H≠b:=λe=>An c1 (x:=H) V c!;have pnv:H∉v.sl:=λe=>An c1 (x:=H) V c!;have z:b∉p.op.slots:=λe=>An c2 (x:=b) V (DI e);have bng:b∉p.zN:=λe=>An c2 (x:=b) V (Dw e);have dv:∀s,s∈p.op.dem->s∈v.sl->False:=λs l j=>An c3 l j;have pg':p.op.x3=X->p.guard=W:=λhn=>by
   rcases pg with h|h
   .rw[hn]at h;cases h
   .simpa using h
  obtain ⟨y,ε,h⟩:=h;have hR':=hR.congr ε.symm;have A:=hj.congr ε.symm;obtain⟨o4,⟨⟨e1,J,hw⟩,ep,κ,C⟩,hR1⟩:=FU hR' hp (PS hdp pm pg' h);have hj1:=C.jd pb A;have g1:∀n,e1.get n=if H=n then ep else κ.on n (y.get n):=λn=>by
   rw [J.1,C.o4,AB.d6,A7.get]
  have θ:∀e,κ.on b e=e:=by
   intro e;have:=C.slot;have j:=C.cell;cases κ with
   |none=>rfl|slot s t=>
    simp only[A7.on];rw[az];intro he;subst he;exact z (CD (this _ _ rfl))
   |cell s η t=>
    simp only[A7.on];rw[az];intro he;subst he;rcases j _ _ _ rfl with B|⟨x,_,G⟩
    .exact z B
    .exact A.no G Z
  have gb:e1.get b=y.get b:=by rw[g1,az hpb,θ]
  obtain ⟨X1,hK,cs,cs',o,Fs⟩:=rR R δ hd hw;have hbox:y.get b=.bx cs:=by rw[<-gb];exact Fs.box
  have hv:v.ev y=v.ev e1:=by
   cases v with
   |c t=>rfl|s m=>
    have hm:H≠m:=λe=>pnv (by simp[AE.sl,e]);simp[AE.ev];have u:=Fs.val;simp[AE.ev]at u;rw[g1,az hm]at u|-;have l:=C.slot;have j:=C.ok;cases κ with
    |none=>rfl|slot s t=>
     simp only[A7.on];rw[az (λ(e:s=m)=>dv s (l _ _ rfl) (by simp[AE.sl,e]))]
    |cell s η t=>
     simp only[A7.on]at u|-;split
     next e=>subst e;obtain⟨ds,B,_⟩:=j;rw[ae rfl,B]at u;exact absurd rfl (u _)
     .rfl
  have k:∀s e,o=Y (s,e)->((∃t,e=.tv t/\y.get s=.ow t)\/(e=.undef/\∃ds,y.get s=.yy ds))/\s≠b/\s∈v.sl/\s≠H:=by
   intro s t ho;obtain⟨l,j,B⟩:=Fs.own s t ho;subst l;simp[AE.ev]at hv;refine⟨?_,B,e?,λe=>pnv (by simp[AE.sl,e])⟩;rw[hv];rcases j with j|⟨j,G,_⟩
   .exact .inl j
   .exact .inr ⟨j,G⟩
  have E:∀s,o=Y (s,.undef)->s∉p.op.slots/\s∈D:=by
   intro s ho;obtain⟨_,j,_⟩:=Fs.own s _ ho;rcases j with⟨t,j,_⟩|⟨_,_,n',G⟩
   .cases j
   .obtain⟨h5,h6⟩:=hstx n' s G;exact⟨λe=>An h5 V e,by simpa using h6⟩
  have F:∀d s e,o=Y (s,e)->e.y8 d=X:=by
   intro d s e ho;rcases(k s e ho).1 with⟨t,rfl,_⟩|⟨rfl,_⟩<;>rfl
  have I:∀s e,o=Y (s,e)->∀ds,y.get s≠.bx ds:=by
   intro s e ho ds h;rcases(k s e ho).1 with⟨t,_,j⟩|⟨_,ds',j⟩<;>rw[j]at h<;>cases h
  have g2:∀n,b≠n->(∀s t,o=Y (s,t)->s≠n)->AB.get (OU b cs' o y) n=y.get n:=by
   intro n l j;rw[Er,az l];cases o with
   |none=>rfl|some st=>
    obtain ⟨s,t⟩:=st;simp only;rw[az (j s t rfl)]
  have lk:∀n,b≠n->o≠Y (n,.undef)->(y.get n).like (AB.get (OU b cs' o y) n):=by
   intro n l h0;rw[Er,az l];cases o with
   |none=>exact .inl rfl|some st=>
    obtain ⟨s,t⟩:=st;simp only;split
    .rename_i e;subst e;rcases(k s t rfl).1 with⟨t,rfl,B⟩|⟨rfl,_⟩
     .obtain⟨m,es,rfl⟩:=hR'.list B;exact .inr (.inl ⟨m,es,.inr ⟨B,rfl⟩⟩)
     .exact absurd rfl h0
    .exact .inl rfl
  have L:D6 p.op κ (Y H) y (OU b cs' o y):=by
   refine ⟨λs ζ=>lk s (λe=>z (e▸ζ)) (λe=>(E s e).1 ζ),λs ζ r M=>lk r (λe=>A.no M (e▸Z)) (λe=>A.no M (E r e).2),λs ζ _=>g2 s (λe=>z (e▸CD ζ)) (λs' t ho e=>dv s ζ (e▸(k s' t ho).2.2.1)),?_,λhn d hd Q=>by rw[FZ _ _ _ _ _ (F d)];exact Q⟩;have l:=C.slot;have j:=C.ok;have B:=θ;have G:=C.cell;cases κ with
   |none=>trivial|slot s t=>
    simp [A7.ok]at j|-;rw[g2 s (λe=>z (e▸CD (l _ _ rfl))) (λs' t ho e=>dv s (l _ _ rfl) (e▸(k s' t ho).2.2.1))];exact j
   |cell s η t=>
    obtain ⟨ds,h5,h6⟩:=j;refine⟨ds,?_,h6⟩;rw[g2 s (λe=>?_) (λs' t' ho e=>?_)]
    .exact h5
    .rcases G _ _ _ rfl with h7|⟨x,_,h8⟩
     .exact z (e▸h7)
     .exact A.no h8 (e▸Z)
    .exact I s' t' ho _ (e▸h5)
  have hgp:∀g∈p.zN,AB.get (OU b cs' o y) g=y.get g:=by
   intro g δ;obtain⟨bb,M,_,Q,hno'⟩:=SW h g δ;refine g2 g (λe=>bng (e▸δ)) (λs t ho e=>?_);rcases(k s t ho).1 with⟨t,_,j⟩|⟨_,ds',j⟩
   .rw[<-e,j]at M;exact absurd M.symm (Q _)
   .rw[<-e,j]at M;exact absurd M.symm (hno' _)
  refine ⟨y,ε,Fs.again y (A _ Z) hbox hv _ ⟨_,.refl _,C.again _ L hgp _ (Hi hK ?_)⟩⟩;rw[Fs.o4];refine⟨λn=>?_,λd=>?_⟩
  .rw[AB.d6,A7.get,Er,Er];by_cases l:H=n
   .subst l;rw[az (λe=>hpb e.symm),ae rfl];cases o with
    |none=>simp only;rw[g1,ae rfl]|some st=>
     obtain ⟨s,t⟩:=st;simp only;rw[az (k s t rfl).2.2.2,g1,ae rfl]
   .rw[az l];by_cases j:b=n
    .subst j;rw[ae rfl,ae rfl,θ]
    .rw[az j,az j];cases o with
     |none=>simp only;rw[g1,az l]|some st=>
      obtain ⟨s,t⟩:=st;simp only;by_cases B:s=n
      .subst B;rw[ae rfl,ae rfl];have G:=C.slot;have h5:=C.ok;have h6:=(k s t rfl);have h6':=I s t rfl;have h6'':∀ds,t≠.bx ds:=by
        intro ds h;rcases h6.1 with⟨t,rfl,_⟩|⟨rfl,_⟩<;>cases h
       cases κ with
       |none=>rfl|slot s' t'=>
        simp only[A7.on];rw[az (λ(e:s'=s)=>dv s' (G _ _ rfl) (by rw[e];exact h6.2.2.1))]
       |cell s' η t'=>
        simp only[A7.on];split
        next e=>subst e;obtain⟨ds,h7,_⟩:=h5;exact absurd h7 (h6' _)
        .rfl
      .rw[az B,az B,g1,az l]
  .rw[FZ _ _ _ _ _ (F d),J.2,C.o4,AB.ej,A7.jj,AB.ej,A7.jj,FZ _ _ _ _ _ (F d)]
def Aam(D:QQ)(p q:PR):Bool:=
 match q.op,q.guard,q.dst with
 |.tkx s,W,Y d=>PR.yu D p&&D.contains s&&D.contains d&&Ed p.dst.toList [s,d]&&Ed [s,d] (p.op.slots++p.zN)|_,_,_=>T
variable{s d:Nat}
theorem dz{S:FuncId->Fq->Al->Prop}{K:AB->Prop}(c:q.op=.tkx s)(f:q.guard=W)(hd:q.dst=Y d)(h:q.wp S O K):∃n es,O.get s=.xo n es/\O.jj d=X/\d≠s/\K ((d,.xo n es)::(s,.undef)::O):=by
 simp [PR.wp,c,f,hd,AD.wp,AB.put]at h
 grind
variable{n:Nat}
theorem d8{S:FuncId->Fq->Al->Prop}{K:AB->Prop}{es:Fq}(c:q.op=.tkx s)(f:q.guard=W)(hd:q.dst=Y d)(g:O.get s=.xo n es)(j:O.jj d=X)(k:d≠s)(h:K ((d,.xo n es)::(s,.undef)::O)):q.wp S O K:=by
 simp [PR.wp,c,f,hd,AD.wp,AB.put,g];exact⟨j,k,h⟩
theorem tR(hR:L0 F0 w0 N O)(hj:JD D O){op:Oper}(hp:L4 P N ops op p=X)(f:Aam D p q=X)(h:Es (AX P) K (p::q::rs) O):Es (AX P) K (q::p::rs) O:=by
 unfold Aam at f;split at f
 .rename_i s d Q hg hd;simp[PR.yu,u!]at f;obtain⟨⟨⟨⟨⟨⟨⟨⟨pm,pd⟩,pg⟩,pb⟩,pD⟩,H⟩,θ⟩,δ⟩,Z⟩:=f;obtain⟨E,κ⟩:=v1.1 pd;rw[κ]at δ;simp at δ;have H:s∈D:=by simpa using H
  have θ:d∈D:=n?
  have ε:E≠s:=λe=>An δ (x:=E) V c!;have hpd:E≠d:=λe=>An δ (x:=E) V c!;have j:s∉p.op.slots:=λe=>An Z (x:=s) V (DI e);have l:d∉p.op.slots:=λe=>An Z (x:=d) V (DI e);have sng:s∉p.zN:=λe=>An Z (x:=s) V (Dw e);have dng:d∉p.zN:=λe=>An Z (x:=d) V (Dw e);have pg':p.op.x3=X->p.guard=W:=λhn=>by
   rcases pg with h|h
   .rw[hn]at h;cases h
   .simpa using h
  obtain ⟨z,F,h⟩:=h;have hR':=hR.congr F.symm;have u:=hj.congr F.symm;obtain⟨o4,⟨⟨e1,v,hw⟩,ep,η,B⟩,hR1⟩:=FU hR' hp (PS κ pm pg' h);have g1:∀n,e1.get n=if E=n then ep else η.on n (z.get n):=λn=>by
   rw [v.1,B.o4,AB.d6,A7.get]
  have C:∀x,x∈D->x∉p.op.slots->∀e,η.on x e=e:=by
   intro x hxD R e;have:=B.slot;have k:=B.cell;cases η with
   |none=>rfl|slot s t=>
    simp only[A7.on];rw[az];intro he;subst he;exact R (CD (this _ _ rfl))
   |cell s off t=>
    simp only[A7.on];rw[az];intro he;subst he;rcases k _ _ _ rfl with J|⟨y,_,ζ⟩
    .exact R J
    .exact u.no ζ hxD
  obtain ⟨n,es,k1,k2,k3,hK⟩:=dz Q hg hd hw;rw[g1,az ε,C s H j]at k1;rw[v.2,B.o4,AB.ej,A7.jj,sx]at k2;have I:∀m,m≠d->m≠s->AB.get ((d,.xo n es)::(s,.undef)::z) m=z.get m:=λm A k=>by
   rw [AB.d6,az (λe=>A e.symm),AB.d6,az (λe=>k e.symm)]
  have nr:∀c,AB.jj c ((d,EV.xo n es)::(s,EV.undef)::z)=AB.jj c z:=λc=>by
   simp [AB.ej,EV.y8,EV.yi]
  have L:D6 p.op η (Y E) z ((d,.xo n es)::(s,.undef)::z):=by
   refine ⟨λx G=>.inl (I x (λe=>l (e▸G)) (λe=>j (e▸G))),λx G r hr=>.inl (I r (λe=>u.no hr (e▸θ)) (λe=>u.no hr (e▸H))),λx G _=>I x (λe=>l (e▸CD G)) (λe=>j (e▸CD G)),?_,λhn d' hd' hno=>by rw[nr];exact hno⟩;have A:=B.slot;have k:=B.ok;have ζ:=B.cell;cases η with
   |none=>trivial|slot x t=>
    simp [A7.ok]at k|-;rw[I x (λe=>l (e▸CD (A _ _ rfl))) (λe=>j (e▸CD (A _ _ rfl)))];exact k
   |cell x off t=>
    obtain ⟨ds,h5,h6⟩:=k;refine⟨ds,?_,h6⟩;rw[I x (λe=>?_) (λe=>?_)]
    .exact h5
    .rcases ζ _ _ _ rfl with h7|⟨y,_,h8⟩
     .exact l (e▸h7)
     .exact u.no h8 (e▸θ)
    .rcases ζ _ _ _ rfl with h7|⟨y,_,h8⟩
     .exact j (e▸h7)
     .exact u.no h8 (e▸H)
  have hgp:∀g∈p.zN,AB.get ((d,.xo n es)::(s,.undef)::z) g=z.get g:=λg M=>I g (λe=>dng (e▸M)) (λe=>sng (e▸M));refine⟨z,F,d8 Q hg hd k1 k2.2 k3 ⟨_,.refl _,B.again _ L hgp _ (Hi hK ?_)⟩⟩;refine⟨λm=>?_,λc=>?_⟩
  .simp[AB.d6,A7.get,g1];by_cases A:d=m
   .subst A;rw[ae rfl,az hpd,C d θ l,ae rfl]
   .rw[az A];by_cases k:s=m
    .subst k;rw[ae rfl,az ε,C s H j,az A,ae rfl]
    .rw[az k];by_cases J:E=m
     .rw[ae J,ae J]
     .rw[az J,az J,az A,az k]
  .simp[AB.ej,A7.jj,v.2,B.o4];have e1:EV.y8 c (EV.xo n es)=X:=rfl;have e2:EV.y8 c EV.undef=X:=rfl;rw[e1,e2];cases EV.y8 c ep<;>rfl
 .cases f
def sq:AD->Bool
 |.xal _=>X|.mv _=>X|.bad _ _=>X|.zj _ _=>X|.ld _=>X|_=>T
def Aak(D:QQ)(p q:PR):Bool:=
 match q.op,q.guard,q.dst,p.guard,p.dst with
 |.xst x v _,W,W,W,Y d=>PR.yu D p&&sq p.op&&!(x.sl.contains d)&&!(v.sl.contains d)|_,_,_,_,_=>T
variable{i:Option Nat}
theorem Ot{q:Nat}{es es':Fq}(h:O.x5 q i=Y (n,es)):(∃u,AB.get (O.yt q i n es') q=u/\((∃m c,O.get q=.xo m c/\∃m' fs',u=.xo m' fs')\/(∃cs k,i=Y k/\cs[k]?=Y ⟨X,.xl n es⟩/\O.get q=.bx cs/\u=.bx (cs.set k ⟨X,.xl n es'⟩))))/\(∀m,q≠m->AB.get (O.yt q i n es') m=O.get m)/\∀d,AB.jj d (O.yt q i n es')=O.jj d:=by
 cases i with
 |none=>
  grind [AB.x5,AB.yt,AB.d6,AB.ej,EV.y8,EV.yi]
 |some k=>
  grind [AB.x5,t5,AB.yt,AB.d6,AB.ej,EV.y8,EV.yi]
theorem om(l:List AR)(c:Nat):Gf ((l.drop c).map (·.t))=(l[c]?).map (·.t):=by
 rw [show l[c]?=(l.drop c)[0]? by rw[List.getElem?_drop,Nat.add_zero]];cases l.drop c<;>rfl
variable{t:TV}
theorem mL{ds:List AR}{k c n:Nat}{es es':Fq}(g:t.zK=T)(h:ds[k]?=Y ⟨X,.xl n es⟩)(f:Gf ((ds.drop c).map (·.t))=Y t):Gf (((ds.set k ⟨X,.xl n es'⟩).drop c).map (·.t))=Y t:=by
 rw [om]at f|-;by_cases e:k=c
 .subst e;rw[h]at f;simp at f;subst f;cases g
 grind
theorem px{S:FuncId->Fq->Al->Prop}{op:AD}(ho:sq op=X){dst:Option Nat}{K:EV->AB->Prop}(h:op.wp S O dst K):
  ∃e,K e O/\(∀m J,e≠.xo m J)/\(∀cs,e≠.bx cs)/\∀(q n:Nat)(i:Option Nat)(es es':Fq),O.x5 q i=Y (n,es)->∀z:EV->AB->Prop,z e (O.yt q i n es')->op.wp S (O.yt q i n es') dst z:=by
 have E:∀{q n:Nat}{i:Option Nat}{es es':Fq},O.x5 q i=Y (n,es)->∀m e,O.get m=e->(∀k J,e≠.xo k J)->(∀cs,e≠.bx cs)->AB.get (O.yt q i n es') m=e:=λ{q n i es es'}g m e v G κ=>by
  obtain ⟨⟨u,M,j⟩,I,_⟩:=Ot (es':=es') g
  grind
 have F:∀{q n:Nat}{i:Option Nat}{es es':Fq},O.x5 q i=Y (n,es)->∀m cs,O.get m=.bx cs->∃cs',AB.get (O.yt q i n es') m=.bx cs'/\∀C t,t.zK=T->Gf ((cs.drop C).map (·.t))=Y t->Gf ((cs'.drop C).map (·.t))=Y t:=λ{q n i es es'}g m cs v=>by
  obtain ⟨⟨u,M,j⟩,I,_⟩:=Ot (es':=es') g
  grind [mL]
 have A:∀{q n:Nat}{i:Option Nat}{es es':Fq},O.x5 q i=Y (n,es)->∀(x:AE)e,x.ev O=e->(∀m J,e≠.xo m J)->(∀cs,e≠.bx cs)->x.ev (O.yt q i n es')=e:=by
  intro q n i es es' g x e he v G;cases x with
  |c t=>exact he|s y=>exact E g y e he v G
 cases op with
 |mv x=>
  simp [AD.wp]at h|-;split at h
  next t l=>exact⟨_,h,V,V,λq n i es es' g z f=>j!⟩
  next t l=>exact⟨_,h,V,V,λq n i es es' g z f=>j!⟩
  next t l=>exact⟨_,h,V,V,λq n i es es' g z f=>j!⟩
  .exact h.elim
 |xal s=>
  simp [AD.wp]at h|-;split at h
  .rename_i m J B;refine⟨_,h,V,V,λq n i es es' g z f=>?_⟩;obtain⟨⟨u,M,j⟩,I,_⟩:=Ot (es':=es') g;by_cases e:q=s
   .subst e;rcases j with⟨_,_,_,m',fs',rfl⟩|⟨_,_,_,_,θ,_⟩
    .rw[M];exact f
    .rw[B]at θ;cases θ
   .rw[I s e,B];exact f
  .exact h.elim
 |bad s k=>
  simp [AD.wp]at h|-;split at h
  next cs B=>refine⟨_,h,V,V,λq n i es es' g z f=>?_⟩;obtain⟨cs',v,_⟩:=F (es':=es') g s cs B;rw[v];exact f
  next row B=>exact⟨_,h,V,V,λq n i es es' g z f=>by rw[E g s _ B V V];exact f⟩
  .exact h.elim
 |zj x k=>
  simp [AD.wp]at h|-;split at h
  next row l=>exact⟨_,h,V,V,λq n i es es' g z f=>j!⟩
  .rename_i s C l;split at h
   next cs B=>refine⟨_,h,V,V,λq n i es es' g z f=>?_⟩;obtain⟨cs',v,_⟩:=F (es':=es') g s cs B;rw[A g x _ l V V];simp only;rw[v];exact f
   .exact h.elim
  .exact h.elim
 |ld x=>
  simp [AD.wp]at h|-;cases j:A4 O (x.ev O)with
  |none=>rw[j]at h;exact h.elim|some cs=>
   rw [j]at h;simp[Ad]at h;cases L:Gf cs with
   |none=>rw[L]at h;exact h.elim|some t=>
    rw [L]at h;obtain⟨Q,h⟩:=h;refine⟨_,h,V,V,λq n i es es' g z f=>?_⟩;have ε:∃cs',A4 (O.yt q i n es') (x.ev (O.yt q i n es'))=Y cs'/\Gf cs'=Y t:=by
     cases x with
     |c R=>exact⟨cs,by rw[<-j];cases R<;>rfl,L⟩
     |s y=>
      simp [AE.ev]at j|-;cases H:O.get y with
      |bp s C=>
       rw [E g y _ H V V];rw[H]at j;simp only[A4]at j|-;split at j
       next ds B=>cases j;obtain⟨cs',v,G⟩:=F (es':=es') g s ds B;rw[v];exact⟨_,rfl,G _ _ Q L⟩
       .cases j
      |tv R=>
       rw [E g y _ H V V];rw[H]at j;exact⟨cs,by rw[<-j];cases R<;>rfl,L⟩
      |bx ds=>
       rw [H]at j;simp[A4]at j;subst j;obtain⟨cs',v,G⟩:=F (es':=es') g y ds H;rw[v];have:=G 0 t Q (by simpa using L);exact⟨_,rfl,by simpa using this⟩
      |_=>rw[H]at j;cases j
    obtain ⟨cs',v,G⟩:=ε;rw[v];simp[Ad,G];exact⟨Q,f⟩
 |_=>cases ho
variable{e:EV}
theorem ZC{O g:AB}{d t n:Nat}{es:Fq}(h:M1 g ((d,e)::O))(j:d≠t):M1 (g.yt t i n es) ((d,e)::O.yt t i n es):=by
 have v:g.get t=O.get t:=by rw[h.1,AB.d6,az j]
 have f:∀u:EV,(∀c,EV.y8 c u=X)->M1 ((t,u)::g) ((d,e)::(t,u)::O):=by
  intro u l;refine⟨λm=>?_,λc=>?_⟩
  .rw[AB.d6,h.1,AB.d6,AB.d6,AB.d6]
   grind
  .rw[AB.ej,h.2,AB.ej,AB.ej,AB.ej,l];cases EV.y8 c e<;>rfl
 cases i with
 |none=>exact f _ λc=>rfl|some k=>
  simp [AB.yt,v];split
  .exact f _ λc=>rfl
  .exact h
theorem tU(f:Aak D p q=X)(h:Es (AX P) K (p::q::rs) O):Es (AX P) K (q::p::rs) O:=by
 unfold Aak at f;split at f
 .rename_i x v kx d B C hd J L;simp[u!,decide_eq_false_iff_not]at f;obtain⟨⟨⟨_,ho⟩,E⟩,F⟩:=f;obtain⟨A,G,h⟩:=h;simp[PR.wp,J,L,AB.put]at h;obtain⟨e,⟨H,j,l⟩,θ,ε,I⟩:=px ho h;have z:∀(y:AE),d∉y.sl->y.ev H=y.ev A:=by
   intro y hy;cases y with
   |c t=>rfl|s m=>
    simp [AE.ev,j.1,AB.d6]
    grind [AE.sl]
  refine ⟨A,G,?_⟩;simp[PR.wp,C,hd,B,AD.wp,z x E,z v F]at l|-;split at l
  .rename_i t i c hx;split at l
   .rename_i n es u M Q;obtain⟨κ,η,es',ζ,δ,Z,hK⟩:=l;have g:d≠t:=by
     intro g;have C:H.get t=e:=by rw[j.1,AB.d6,ae g]
     cases i with
     |none=>
      grind [AB.x5]
     |some k=>
      grind [AB.x5]
    have R:A.x5 t i=Y (n,es):=by
     have C:H.get t=A.get t:=by rw[j.1,AB.d6,az g]
     grind [AB.y9]
    rw [R,Q];refine⟨κ,η,es',ζ,δ,Z,_,.refl _,?_⟩
    grind [PR.wp,AB.put,Hi,ZC]
   .exact l.elim
  .exact l.elim
 .cases f
end
end Go.Sf
