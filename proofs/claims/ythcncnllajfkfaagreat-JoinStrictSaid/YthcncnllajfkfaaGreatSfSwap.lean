/- Two operations of a region that may change places. -/
import Derived.Test.YthcncnllajfkfaaGreatSfFrame
set_option linter.all false
open Option renaming some->Y,none->W
open Bool renaming true->X,false->T
open Bool renaming not_eq_true'->v1,and_true->v5
open Option renaming isSome_iff_exists->v6
namespace Go.Sf
open Go.RowKit (Below)
theorem AB.ej(d k:Nat)(e:EV)(O:AB):AB.f0 d ((k,e)::O)=(e.noR d&&AB.f0 d O):=rfl
variable{d:Nat}{e:EV}
theorem VW(h:∀s,e.wm=Y s->s≠d):e.noR d=X:=by grind[EV.noR]
theorem BW.f0(f:BW)(O:AB)(d:Nat):AB.f0 d (f.app O)=AB.f0 d O:=by
 cases f with
 |none=>rfl|slot s t=>simp[BW.app,AB.ej,EV.noR,EV.wm]|cell s c t=>
  grind [BW.app,AB.ej,EV.noR,EV.wm]
def BW.on(f:BW)(n:Nat)(e:EV):EV:=
 match f with
 |.none=>e|.slot s t=>if s=n then .tv t else e|.cell s off t=>if s=n then(match e with|.bx cs=>.bx (cs.set off ⟨T,t⟩)|e=>e)else e
theorem BW.get(f:BW)(O:AB)(n:Nat):AB.get (f.app O) n=f.on n (O.get n):=by
 cases f with
 |none=>rfl|slot s t=>simp[BW.app,AB.d6,BW.on]|cell s c t=>
  simp [BW.app,BW.on]
  grind [AB.d6]
def Om(O env2:AB):Prop:=(∀n,O.get n=env2.get n)/\∀d,O.f0 d=env2.f0 d
theorem Om.refl(O:AB):Om O O:=⟨λ_=>rfl,λ_=>rfl⟩
theorem Om.trans{a b c:AB}(h:Om a b)(f:Om b c):Om a c:=⟨λn=>(h.1 n).trans (f.1 n),λd=>(h.2 d).trans (f.2 d)⟩
variable{a b:AB}
theorem Om.symm(h:Om a b):Om b a:=⟨λn=>(h.1 n).symm,λd=>(h.2 d).symm⟩
variable{w:World}
theorem CI.congr{F0:Nat->Nat->Prop}{w0:W0}{O env2:AB}{a:Act}(h:CI F0 w0 O a w)(he:∀n,O.get n=env2.get n):CI F0 w0 env2 a w:=by
 obtain ⟨G,h⟩:=h;refine⟨G,h.ln,h.lt,h.below,h.defers,λq c=>?_,λq c=>?_,λq=>?_⟩
 .rw[<-he];exact h.dom q c
 .rw[<-he];refine AN.kept (RP _ _) (λ_=>rfl) (λ_ _ _ _=>rfl) rfl BZ.rfl' (λr i k hr⟨p,f⟩=>⟨⟨p,(AB.Aal (he r)).trans f⟩,λ_ hv=>hv⟩) (λr j hr⟨cs,g⟩=>⟨⟨cs,by rw[he];exact g⟩,rfl⟩) (λr i hr⟨p,f⟩=>⟨⟨p,(AB.Aac (he r)).trans f⟩,λ_ hv=>hv⟩) (h.slots q c)
 .rw[<-he];exact h.wf q
def GH(S:FuncId->Fq->A9->Prop)(K:AB->Prop):List PR->AB->Prop
 |[],O=>∃e,Om e O/\K e|r::rs,O=>∃e,Om e O/\r.wp S e (GH S K rs)
section
variable{S:FuncId->Fq->A9->Prop}{K:AB->Prop}
variable{rs:List PR}
theorem JG{O env2:AB}(h:GH S K rs O)(he:Om O env2):GH S K rs env2:=by
 cases rs with
 |nil=>obtain⟨e,c,f⟩:=h;exact⟨e,c.trans he,f⟩
 |cons r rs=>obtain⟨e,c,f⟩:=h;exact⟨e,c.trans he,f⟩
theorem qE:∀{rs:List PR}{O:AB},wpOps S K rs O->GH S K rs O
 |[],O,h=>⟨O,.refl _,h⟩|r::rs,O,h=>⟨O,.refl _,PR.l3 S O (λe he=>qE he) r h⟩
def PR.gsl(r:PR):Ne:=
 match r.guard with
 |some (g,_)=>[g]|none=>[]
structure Qr(S:FuncId->Fq->A9->Prop)(r:PR)(d:Nat)(O l4:AB)(e:EV)(f:BW):Prop where
 l4:l4=(d,e)::f.app O
 ok:f.ok O
 slot:∀s t,f=.slot s t->s∈r.op.dem
 cell:∀s off t,f=.cell s off t->(s∈r.op.slots\/∃x∈r.op.slots,(O.get x).wm=Y s)
 wm:∀s,e.wm=Y s->(s∈r.op.AaS\/∃x∈r.op.slots,(O.get x).wm=Y s)
 new:r.op.sc=X->e.wm=W/\O.f0 d=X
 xl:∀s off t,f=.cell s off t->t.AaB=T
 again:∀env2,E8 r.op f (Y d) O env2->(∀g∈r.gsl,env2.get g=O.get g)->∀K2:AB->Prop,K2 ((d,e)::f.app env2)->r.wp S env2 K2
variable{r:PR}{d:Nat}{O:AB}
theorem Qw(hd:r.dst=Y d)(B:r.op.mov=X)(H:r.op.sc=X->r.guard=W)(h:r.wp S O K):r.wp S O λl4=>K l4/\∃e f,Qr S r d O l4 e f:=by
 have A:∀(m:∀env2,(∀g∈r.gsl,env2.get g=O.get g)->∀u:AB->Prop,(r.op.wp S env2 (Y d) λe env'=>u (env'.put (Y d) e))->r.wp S env2 u),(r.op.wp S O (Y d) λe env'=>K (env'.put (Y d) e))->r.op.wp S O (Y d) λe env'=>K (env'.put (Y d) e)/\∃C f,Qr S r d O (env'.put (Y d) e) C f:=by
  intro m F;refine AE.l3 S O (Y d) (λe env' he=>?_) r.op (frame B F);obtain⟨G,f,c⟩:=he;refine⟨G,e,f,?_,c.ok,c.slot,c.cell,c.wm,λv=>⟨(c.new v).1,(c.new v).2 d rfl⟩,c.xl,λenv2 E k u j=>?_⟩
  .simp[AB.put];rw[c.env']
  .exact m env2 k u (c.again env2 E _ j)
 unfold PR.wp at h|-;cases l:r.guard with
 |none=>
  grind [PR.wp]
 |some gb=>
  obtain ⟨g,b⟩:=gb;rw[l]at h;rw[hd]at h|-;simp only at h|-;have k:g∈r.gsl:=by simp[PR.gsl,l]
  split at h
  .rename_i q z;refine⟨λhb=>A (λenv2 c u j=>?_) (h.1 hb),λhb=>⟨h.2 hb,.sk,.none,rfl,trivial,V,V,(λs he=>o1),λv=>?_,V,λenv2 _ c u j=>?_⟩⟩
   .grind[PR.wp]
   .grind
   .unfold PR.wp;rw[l,hd];simp only;rw[c g k,z];exact⟨λy=>by subst y;cases q<;>simp at hb,λ_=>j⟩
  .rename_i z;refine⟨h,.sk,.none,rfl,trivial,V,V,(λs he=>o1),λv=>?_,V,λenv2 _ c u j=>?_⟩
   .grind
   .unfold PR.wp;rw[l,hd];simp only;rw[c g k,z];exact j
  .exact h.elim
end
section
variable{P:Program}{F0:Nat->Nat->Prop}{w0:W0}{N:Nat}{ops:Array Oper}{K:AB->Prop}
def Ns(F0:Nat->Nat->Prop)(w0:W0)(N:Nat)(O:AB):Prop:=∃a w,a.tmps.size=N/\CI F0 w0 O a w
theorem Ns.congr{O env2:AB}(h:Ns F0 w0 N O)(he:Om O env2):Ns F0 w0 N env2:=by
 obtain ⟨a,w,c,f⟩:=h;exact⟨a,w,c,f.congr he.1⟩
variable{O:AB}{s:Nat}{t:TV}
theorem Ns.list(h:Ns F0 w0 N O)(c:O.get s=.ow t):∃n es,t=.list n es:=by
 obtain ⟨a,w,_,G,f⟩:=h;have:=AZ f c V;simp[AN]at this;cases t<;>simp[CJ]at this;exact⟨_,_,rfl⟩
variable{o:Oper}{w:World}
theorem nJ{a:Act}{ζ:Prop}(h:o.wp P a w (λ_ _=>ζ) (λ_ _ _=>False)):ζ:=by
 unfold Oper.wp at h;generalize (execOp a.eval o).run P w=r at h;cases r with
 |ok n w'=>
  cases n with
  |value v=>exact h|skip=>exact h|defer d=>exact h|enter f args=>
   rw [Oper.upon_enter]at h;obtain⟨e,j,fr,g,_⟩:=h [];cases e with
   |returned v=>exact g|panicked c=>exact g.elim|outgrown=>obtain⟨_,_,k⟩:=g;exact k.elim
  |row r args=>
   rw [Oper.upon_row]at h;obtain⟨v,j,g,_⟩:=h default [];exact g
  |_=>exact h.elim
 |halt x w'=>
  cases x<;>exact h.elim
variable{r:PR}
theorem Gr(f:Ns F0 w0 N O)(c:Nv P N ops o r=X)(h:r.wp (AT P) O K):∃env',K env'/\Ns F0 w0 N env':=by
 obtain ⟨a,w,l,m⟩:=f;have:=XP (p:=W) (next:=λ_ _=>∃env',K env'/\Ns F0 w0 N env') (Q:=λ_ _ _=>False) m ⟨l,V⟩ V c h λenv' a' w' g j k=>⟨env',g,a',w',j.size,k⟩;split at this
 .exact nJ this
 .exact this
end
def F1(xs ys:Ne):Bool:=xs.all λx=>!ys.contains x
variable{x:Nat}
theorem BB{xs c:Ne}(h:F1 xs c=X)(f:x∈xs)(g:x∈c):False:=by grind[F1,List.all_eq_true,v1]
def PR.old(r:PR):Ne:=
 if r.op.sc then[]else r.dst.toList
def PR.x6(D:Ne)(r:PR):Bool:=
 r.op.mov&&r.dst.isSome&&(!r.op.sc||r.guard.isNone)&&F1 r.op.AaS D&&r.old.all D.contains
def Yi(D:Ne)(p q:PR):Bool:=
 PR.x6 D p&&PR.x6 D q&&F1 p.dst.toList (q.dst.toList++(q.op.slots++q.gsl))&&F1 q.dst.toList (p.op.slots++p.gsl)&&F1 p.op.dem (q.op.dem++q.gsl)&&F1 q.op.dem p.gsl
variable{s:Nat}
theorem Cx{op:AE}(h:s∈op.dem):s∈op.slots:=by
 cases op<;>simp only[AE.dem,List.not_mem_nil]at h<;>simp only[AE.slots]
 .exact h
 .exact EC h
theorem lY{op:AE}(h:s∈op.AaS):s∈op.slots:=by
 cases op<;>simp[AE.AaS]at h<;>simp[AE.slots]
 all_goals exact h
def JD(D:Ne)(O:AB):Prop:=∀d∈D,O.f0 d=X
theorem JD.congr{D:Ne}{O env2:AB}(h:JD D O)(he:Om O env2):JD D env2:=λd hd=>by rw[<-he.2];exact h d hd
variable{O:AB}
theorem JD.no{D:Ne}(h:JD D O)(c:(O.get x).wm=Y s):s∉D:=λhd=>AB.w2 s O (h s hd) x c
section
variable{S:FuncId->Fq->A9->Prop}
variable{r:PR}{d:Nat}{e:EV}
theorem Qr.jd{D:Ne}{O l4:AB}{f:BW}(h:Qr S r d O l4 e f)(hb:F1 r.op.AaS D=X)(j:JD D O):JD D l4:=by
 intro x g;rw[h.l4,AB.ej,BW.f0,j x g,v5];refine VW (λs he c=>?_);subst c;rcases h.wm s he with k|⟨y,_,l⟩
 .exact BB hb k g
 .exact j.no l g
variable{O:AB}
theorem BW.like(f:BW)(c:f.ok O)(h:∀s t,O.get s=.ow t->∃n es,t=.list n es)(k:∀s g t,f=.cell s g t->t.AaB=T)(n:Nat):(O.get n).like (f.on n (O.get n)):=by
 cases f with
 |none=>exact .inl rfl|slot s t=>
  simp [BW.on];split
  next e=>subst e;simp[BW.ok]at c;obtain⟨m,es,rfl⟩:=h s t c;exact .inr (.inl ⟨m,es,.inr ⟨c,rfl⟩⟩)
  .exact .inl rfl
 |cell s g t=>
  simp [BW.on];split
  .rename_i e;subst e;obtain⟨cs,j,l⟩:=c;rw[j];refine .inr (.inr ⟨cs,_,rfl,rfl,?_⟩);rw[List.map_set];refine List.ext_getElem? λi=>?_
   grind [c9,List.getElem?_eq_some_iff,AS.key]
  .exact .inl rfl
end
variable{r:PR}{O:AB}
theorem UC{S:FuncId->Fq->A9->Prop}{K:AB->Prop}(h:r.wp S O K):∀g∈r.gsl,∃b,O.get g=b/\(∀cs,b≠.bx cs)/\(∀t,b≠.ow t)/\∀cs,b≠.z5 cs:=by grind[PR.gsl,PR.wp,List.mem_singleton]
section
variable{P:Program}{F0:Nat->Nat->Prop}{w0:W0}{N:Nat}{ops:Array Oper}{K:AB->Prop}{D:Ne}
variable{O:AB}{p q:PR}{rs:List PR}
theorem swap(hR:Ns F0 w0 N O)(hj:JD D O){op oq:Oper}(hp:Nv P N ops op p=X)(hq:Nv P N ops oq q=X)(θ:Yi D p q=X)(h:GH (AT P) K (p::q::rs) O):GH (AT P) K (q::p::rs) O:=by
 simp [Yi,PR.x6,v1]at θ;obtain⟨⟨⟨⟨⟨⟨⟨⟨⟨pm,pd⟩,pg⟩,pb⟩,pD⟩,⟨⟨⟨qm,qd⟩,qg⟩,qb⟩,qD⟩,c1⟩,c2⟩,c3⟩,c4⟩:=θ;obtain⟨F,hdp⟩:=v6.1 pd;obtain⟨C,hdq⟩:=v6.1 qd;rw[hdp]at c1;rw[hdq]at c1 c2;simp at c1 c2;have hpq:F≠C:=λe=>BB c1 (x:=F) V b?;have H:F∉q.op.slots:=λe=>BB c1 (x:=F) V b?;have pngq:F∉q.gsl:=λe=>BB c1 (x:=F) V b?;have Q:C∉p.op.slots:=λe=>BB c2 (x:=C) V b?;have qngp:C∉p.gsl:=λe=>BB c2 (x:=C) V b?;have dd:∀s,s∈p.op.dem->s∈q.op.dem->False:=λs c l=>BB c3 c (EC l);have dg1:∀s,s∈p.op.dem->s∈q.gsl->False:=λs c l=>BB c3 c (Ey l);have dg2:∀s,s∈q.op.dem->s∈p.gsl->False:=λs c l=>BB c4 c l;have oldp:p.op.sc=X\/F∈D:=by
  cases E:p.op.sc with
  |true=>exact .inl rfl|false=>exact .inr (by simpa[PR.old,E,hdp]using pD)
 have oldq:q.op.sc=X\/C∈D:=by
  cases E:q.op.sc with
  |true=>exact .inl rfl|false=>exact .inr (by simpa[PR.old,E,hdq]using qD)
 have pg':p.op.sc=X->p.guard=W:=λE=>by
  rcases pg with h|h
  .rw[E]at h;cases h
  .simpa using h
 have qg':q.op.sc=X->q.guard=W:=λE=>by
  rcases qg with h|h
  .rw[E]at h;cases h
  .simpa using h
 obtain ⟨L,heq,h⟩:=h;have hR':=hR.congr heq.symm;have hj':=hj.congr heq.symm;obtain⟨l4,⟨⟨J,B,hw⟩,ep,R,z⟩,hR1⟩:=Gr hR' hp (Qw hdp pm pg' h);have hRe1:=hR1.congr B.symm;have hj1:=z.jd pb hj';have hje1:=hj1.congr B.symm;obtain⟨X1,⟨hK,eq,G,M⟩,_⟩:=Gr hRe1 hq (Qw hdq qm qg' hw);have δ:∀n,J.get n=if F=n then ep else R.on n (L.get n):=λn=>by
  rw [B.1,z.l4,AB.d6,BW.get]
 have ε:∀x s,(J.get x).wm=Y s->s≠F:=by
  intro x s hx A;subst A;rcases oldp with E|hd
  .refine AB.w2 s J ?_ x hx;rw[B.2,z.l4,AB.ej,BW.f0,(z.new E).2,v5];exact VW (λs he _=>by rw[(z.new E).1]at he;cases he)
  .exact hje1.no hx hd
 have nq':∀x s,(L.get x).wm=Y s->s≠C:=by
  intro x s hx A;subst A;rcases oldq with E|hd
  .have c:=(M.new E).2;rw[B.2,z.l4,AB.ej,BW.f0,ne]at c;exact AB.w2 s L c.2 x hx
  .exact hj'.no hx hd
 have lk:∀n,n≠F->(J.get n).like (L.get n):=by
  intro n E;rw[δ,ac (λe=>E e.symm)];exact(BW.like R z.ok (λs t A=>hR'.list A) z.xl n).symm
 have fpdq:∀e,R.on C e=e:=by
  intro e;have:=z.slot;have l:=z.cell;cases R with
  |none=>rfl|slot s t=>
   simp only[BW.on];rw[ac];intro he;subst he;exact Q (Cx (this _ _ rfl))
  |cell s j t=>
   simp only[BW.on];rw[ac];intro he;subst he;rcases l _ _ _ rfl with m|⟨x,_,I⟩
   .exact Q m
   .exact nq' x _ I rfl
 have κ:∀e,G.on F e=e:=by
  intro e;have:=M.slot;have l:=M.cell;cases G with
  |none=>rfl|slot s t=>
   simp only[BW.on];rw[ac];intro he;subst he;exact H (Cx (this _ _ rfl))
  |cell s j t=>
   simp only[BW.on];rw[ac];intro he;subst he;rcases l _ _ _ rfl with m|⟨x,_,I⟩
   .exact H m
   .exact ε x _ I rfl
 have v:G.ok L:=by
  have k:=M.ok;have hsl:=M.slot;have hc:=κ;cases G with
  |none=>trivial|slot s t=>
   simp [BW.ok]at k|-;have A:=hsl s t rfl;have f:F≠s:=λe=>H (e▸Cx A);rw[δ,ac f]at k;have c:=z.slot;have l:=z.ok;cases R with
   |none=>exact k|slot s' y=>
    simp [BW.on]at k;rw[ac (λ(e:s'=s)=>dd s' (c _ _ rfl) (by rw[e];exact A))]at k;exact k
   |cell s' j y=>
    simp [BW.on]at k;split at k
    next e=>subst e;obtain⟨cs,m,_⟩:=l;rw[m]at k;cases k
    .exact k
  |cell s j t=>
   obtain ⟨cs,c,l⟩:=k;have f:F≠s:=λe=>by
    have:=hc (.bx [⟨X,.undef⟩,⟨X,.undef⟩]);rcases M.cell s j t rfl with m|⟨x,_,I⟩
    .exact H (e▸m)
    .exact ε x s I e.symm
   rw [δ,ac f]at c;have m:=z.ok;cases R with
   |none=>exact⟨cs,c,l⟩|slot s' y=>
    simp [BW.on]at c;split at c
    .cases c
    .exact⟨cs,c,l⟩
   |cell s' u y=>
    simp [BW.on]at c;split at c
    .rename_i e;subst e;obtain⟨cs',I,h5⟩:=m;rw[I]at c;simp[EV.bx.injEq]at c;subst c;rw[List.getElem?_set]at l;split at l
     .split at l
      .simp at l
      .cases l
     .exact⟨cs',I,l⟩
    .exact⟨cs,c,l⟩
 have L1:E8 q.op G (Y C) J L:=by
  refine ⟨λs A=>lk s (λe=>H (e▸A)),λs A r hb=>lk r (ε s r hb),λs A hnb=>?_,v,λE d hd ζ=>?_⟩
  .have f:F≠s:=λe=>H (e▸Cx A);rw[δ,ac f];have c:=z.slot;have l:=z.ok;cases R with
   |none=>rfl|slot s' y=>
    simp only[BW.on];rw[ac (λ(e:s'=s)=>dd s' (c _ _ rfl) (by rw[e];exact A))]
   |cell s' j y=>
    simp only[BW.on];split
    next e=>subst e;obtain⟨cs,m,_⟩:=l;exfalso;refine hnb (cs.set j ⟨T,y⟩) ?_;rw[δ,ac f];simp[BW.on,m]
    .rfl
  .rw[B.2,z.l4,AB.ej,BW.f0,ne]at ζ;exact ζ.2
 have hgq:∀g∈q.gsl,L.get g=J.get g:=by
  intro g hg;have f:F≠g:=λe=>pngq (e▸hg);obtain⟨b,hb,hnx,_⟩:=UC hw g hg;have η:=hb;rw[δ,ac f]at η;rw[δ,ac f];have c:=z.slot;have l:=z.ok;cases R with
  |none=>rfl|slot s' y=>
   simp only[BW.on];rw[ac (λ(e:s'=g)=>dg1 s' (c _ _ rfl) (by rw[e];exact hg))]
  |cell s' j y=>
   simp only[BW.on]at η|-;split
   next e=>subst e;obtain⟨cs,m,_⟩:=l;rw[m]at η;simp at η;exact absurd η.symm (hnx _)
   .rfl
 have hgp:∀g∈p.gsl,AB.get ((C,eq)::G.app L) g=L.get g:=by
  intro g hg;have f:C≠g:=λe=>qngp (e▸hg);obtain⟨b,hb,hnx,_⟩:=UC h g hg;rw[AB.d6,ac f,BW.get];have c:=M.slot;cases G with
  |none=>rfl|slot s' y=>
   simp only[BW.on];rw[ac (λ(e:s'=g)=>dg2 s' (c _ _ rfl) (by rw[e];exact hg))]
  |cell s' j y=>
   simp only[BW.on];split
   next e=>subst e;obtain⟨cs,m,_⟩:=v;rw[m]at hb;exact absurd hb.symm (hnx _)
   .rfl
 have offs:∀s j t u y,R=.cell s j t->G=.cell s u y->j≠u:=by
  intro s j t u y c l ho;subst ho;have m:=M.ok;have I:=z.ok;have h5:=κ;rw[c]at I;rw[l]at m;obtain⟨cs,h6,h7⟩:=I;obtain⟨ds,h8,h9⟩:=m;have f:F≠s:=λe=>by
   rcases M.cell s j y l with m|⟨x,_,I⟩
   .exact H (e▸m)
   .exact ε x s I e.symm
  rw [δ,ac f,c]at h8;simp[BW.on,h6,EV.bx.injEq]at h8;subst h8;rw[List.getElem?_set,a6 rfl]at h9;split at h9
  .simp at h9
  .cases h9
 have g2:∀n,AB.get ((C,eq)::G.app L) n=if C=n then eq else G.on n (L.get n):=λn=>by
  rw [AB.d6,BW.get]
 have lk2:∀n,n≠C->(L.get n).like (AB.get ((C,eq)::G.app L) n):=by
  intro n E;rw[g2,ac (λe=>E e.symm)];exact BW.like G v (λs t A=>hR'.list A) M.xl n
 have L2:E8 p.op R (Y F) L ((C,eq)::G.app L):=by
  refine ⟨λs A=>lk2 s (λe=>Q (e▸A)),λs A r hb=>lk2 r (nq' s r hb),λs A hnb=>?_,?_,λE d hd ζ=>?_⟩
  .have f:C≠s:=λe=>Q (e▸Cx A);rw[g2,ac f];have c:=M.slot;cases G with
   |none=>rfl|slot s' y=>
    simp only[BW.on];rw[ac (λ(e:s'=s)=>dd s' (by rw[e];exact A) (c _ _ rfl))]
   |cell s' j y=>
    simp only[BW.on];split
    next e=>subst e;obtain⟨cs,m,_⟩:=v;exact absurd m (hnb cs)
    .rfl
  .have k:=z.ok;have hsl:=z.slot;have hcl:=z.cell;cases R with
   |none=>trivial|slot s t=>
    simp [BW.ok]at k|-;have A:=hsl s t rfl;have f:C≠s:=λe=>Q (e▸Cx A);rw[g2,ac f];have c:=M.slot;cases G with
    |none=>exact k|slot s' y=>
     simp [BW.on];rw[ac (λ(e:s'=s)=>dd s' (by rw[e];exact A) (c _ _ rfl))];exact k
    |cell s' j y=>
     simp [BW.on];split
     next e=>subst e;obtain⟨cs,m,_⟩:=v;rw[m]at k;cases k
     .exact k
   |cell s j t=>
    obtain ⟨cs,c,l⟩:=k;have f:C≠s:=λe=>by
     rcases hcl s j t rfl with m|⟨x,_,I⟩
     .exact Q (e▸m)
     .exact nq' x s I e.symm
    simp [BW.ok];rw[g2,ac f];have m:=v;cases G with
    |none=>exact⟨cs,c,l⟩|slot s' y=>
     simp [BW.on];split
     next e=>subst e;simp[BW.ok]at m;rw[m]at c;cases c
     .exact⟨cs,c,l⟩
    |cell s' u y=>
     simp [BW.on];split
     next e=>subst e;rw[c];have:=offs s' j t u y rfl rfl;refine⟨_,rfl,?_⟩;rw[List.getElem?_set,ac (λe=>this e.symm)];exact l
     .exact⟨cs,c,l⟩
  .simp at hd;subst hd;rw[AB.ej,BW.f0,ζ,v5];refine VW (λs he=>?_);rcases M.wm s he with c|⟨x,_,l⟩
   .exact λe=>H (e▸lY c)
   .exact ε x s l
 refine ⟨L,heq,M.again L L1 hgq _ ⟨_,.refl _,z.again _ L2 hgp _ (JG hK ?_)⟩⟩;rw[M.l4];refine⟨λn=>?_,λd=>?_⟩
 .rw[AB.d6,BW.get,δ,AB.d6,BW.get,g2];by_cases c:C=n
  .subst c;rw[a6 rfl,ac hpq,a6 rfl,fpdq]
  .rw[ac c,ac c];by_cases l:F=n
   .subst l;rw[a6 rfl,a6 rfl,κ]
   .rw[ac l,ac l];have m:=z.ok;have I:=z.slot;have h5:=M.slot;cases R with
    |none=>rfl|slot s t=>
     cases G with
     |none=>rfl|slot s' y=>
      have f:s≠s':=λe=>dd s (I _ _ rfl) (e▸h5 _ _ rfl);simp[BW.on];by_cases J:s=n<;>by_cases Z:s'=n<;>simp[J,Z];exact absurd (J.trans Z.symm) f
     |cell s' u y=>
      have f:s≠s':=λe=>by
       obtain ⟨cs,h6,_⟩:=v;simp[BW.ok]at m;rw[<-e,m]at h6;cases h6
      simp [BW.on];by_cases J:s=n<;>by_cases Z:s'=n<;>simp[J,Z]
    |cell s j t=>
     cases G with
     |none=>rfl|slot s' y=>
      have f:s≠s':=λe=>by
       obtain ⟨cs,h6,_⟩:=m;simp[BW.ok]at v;rw[e,v]at h6;cases h6
      simp [BW.on];by_cases J:s=n<;>by_cases Z:s'=n<;>simp[J,Z]
     |cell s' u y=>
      obtain ⟨cs,h6,_⟩:=m;simp[BW.on];by_cases J:s=n
      .by_cases Z:s'=n
       .subst J;subst Z;have:=offs s' j t u y rfl rfl;simp[h6];rw[List.set_comm _ _ this]
       .simp[J,Z]
      .simp[J]
 .rw[AB.ej,BW.f0,B.2,z.l4,AB.ej,BW.f0,AB.ej,BW.f0,AB.ej,BW.f0];cases EV.noR d eq<;>cases EV.noR d ep<;>rfl
end
end Go.Sf
namespace Go.Sf
open Go.RowKit (Below)
def AaM(D:Ne)(p q:PR):Bool:=
 match q.op,q.guard,q.dst with
 |.stb _ b v,W,W=>PR.x6 D p&&D.contains b&&F1 p.dst.toList (b::v.sl)&&F1 [b] (p.op.slots++p.gsl)&&F1 p.op.dem v.sl|.stx _ b s,W,W=>PR.x6 D p&&D.contains b&&F1 p.dst.toList (b::[s])&&F1 [b] (p.op.slots++p.gsl)&&F1 p.op.dem [s]&&F1 [s] p.op.slots&&D.contains s|_,_,_=>T
def P6(b:Nat)(cs:List AS)(q:Option (Nat×EV))(O:AB):AB:=
 (b,.bx cs)::(match q with|some (s,t)=>(s,t)::O|none=>O)
theorem GG(b:Nat)(cs:List AS)(q:Option (Nat×EV))(O:AB)(n:Nat):AB.get (P6 b cs q O) n=if b=n then .bx cs else(match q with|some (s,t)=>if s=n then t else O.get n|none=>O.get n):=by
 cases q with
 |none=>rfl|some st=>rfl
theorem Gw(b:Nat)(cs:List AS)(q:Option (Nat×EV))(O:AB)(d:Nat)(h:∀s e,q=Y (s,e)->e.noR d=X):AB.f0 d (P6 b cs q O)=AB.f0 d O:=by
 cases q with
 |none=>simp[P6,AB.ej,EV.noR,EV.wm]|some p=>
  obtain ⟨s,e⟩:=p;have c:=h s e rfl;simp[P6,AB.ej,c];simp[EV.noR,EV.wm]
structure we(S:FuncId->Fq->A9->Prop)(q:PR)(b:Nat)(v:AG)(O l4:AB)(cs cs':List AS)(o:Option (Nat×EV)):Prop where
 l4:l4=P6 b cs' o O
 box:O.get b=.bx cs
 own:∀s e,o=Y (s,e)->v=.s s/\((∃t,e=.tv t/\O.get s=.ow t)\/(e=.undef/\(∃ds,O.get s=.z5 ds)/\∃n,q.op=.stx n b s))/\s≠b
 val:∀cs,v.ev O≠.bx cs
 again:∀env2,env2.f0 b=X->env2.get b=.bx cs->v.ev env2=v.ev O->∀K2:AB->Prop,K2 (P6 b cs' o env2)->q.wp S env2 K2
variable{q:PR}{O:AB}
theorem xY{S:FuncId->Fq->A9->Prop}{K:AB->Prop}{n b:Nat}{v:AG}(f:q.op=.stb n b v\/∃s,v=.s s/\q.op=.stx n b s)(k:q.guard=W)(hd:q.dst=W)(h:q.wp S O K):∃l4,K l4/\∃cs cs' o,we S q b v O l4 cs cs' o:=by
 rcases f with f|⟨s,rfl,f⟩
 .unfold PR.wp at h;rw[k,f,hd]at h;simp only[AE.wp]at h;split at h
  .rename_i cs m;split at h
   .rename_i t hv;cases v with
    |c t=>exact h.elim|s z=>
     simp only at h;simp[AG.ev]at hv;refine⟨_,h.2.2.2,cs,_,Y (z,.tv t),rfl,m,?_,?_,λenv2 u l j y g=>?_⟩
     .grind
     .grind[AG.ev]
     .simp[AG.ev]at j;unfold PR.wp;rw[k,f,hd];simp[AE.wp,l,AG.ev,j,hv];exact⟨h.1,h.2.1,h.2.2.1,g⟩
   next t hv=>refine⟨_,h.2.2,cs,_,W,rfl,m,V,l!,λenv2 u l j y g=>?_⟩;unfold PR.wp;rw[k,f,hd];simp only[AE.wp,l,j,hv];exact⟨h.1,h.2.1,g⟩
   .exact h.elim
  .exact h.elim
 .unfold PR.wp at h;rw[k,f,hd]at h;simp only[AE.wp]at h;split at h
  .rename_i cs ds m hv;refine⟨_,h.2.2.2,cs,_,Y (s,.undef),rfl,m,?_,by simp[AG.ev,hv],λenv2 u l j y g=>?_⟩
   .grind
   .simp[AG.ev]at j;unfold PR.wp;rw[k,f,hd];simp only[AE.wp,l,j,hv];exact⟨h.1,⟨h.2.1.1,by rw[AB.noX_ref u,Bool.or_true]⟩,h.2.2.1,g⟩
  .exact h.elim
section
variable{P:Program}{F0:Nat->Nat->Prop}{w0:W0}{N:Nat}{ops:Array Oper}{K:AB->Prop}{D:Ne}
variable{O:AB}{p q:PR}{rs:List PR}
theorem wN(hR:Ns F0 w0 N O)(hj:JD D O){op:Oper}(hp:Nv P N ops op p=X)(f:AaM D p q=X)(h:GH (AT P) K (p::q::rs) O):GH (AT P) K (q::p::rs) O:=by
 have key:∃n b v,(q.op=.stb n b v\/∃s,v=.s s/\q.op=.stx n b s)/\q.guard=W/\q.dst=W/\(((((PR.x6 D p=X/\D.contains b=X)/\F1 p.dst.toList (b::v.sl)=X)/\F1 [b] (p.op.slots++p.gsl)=X)/\F1 p.op.dem v.sl=X)/\(∀n s,q.op=.stx n b s->F1 [s] p.op.slots=X/\D.contains s=X)):=by
  unfold AaM at f;split at f
  .grind
  .rename_i n b s Q ζ hd;simp only[ne]at f;refine⟨n,b,.s s,.inr ⟨s,rfl,Q⟩,ζ,hd,f.1.1,λn' s' h=>?_⟩
   grind
  .cases f
 clear f;obtain⟨n,b,v,Q,ζ,hd,f,hstx⟩:=key
 .simp[PR.x6,v1]at f;obtain⟨⟨⟨⟨⟨⟨⟨⟨pm,pd⟩,pg⟩,pb⟩,pD⟩,δ⟩,c1⟩,c2⟩,c3⟩:=f;obtain⟨H,hdp⟩:=v6.1 pd;rw[hdp]at c1;simp at c1;have δ:b∈D:=by simpa using δ
  have hpb:H≠b:=λe=>BB c1 (x:=H) V b?;have pnv:H∉v.sl:=λe=>BB c1 (x:=H) V b?;have z:b∉p.op.slots:=λe=>BB c2 (x:=b) V (EC e);have bng:b∉p.gsl:=λe=>BB c2 (x:=b) V (Ey e);have dv:∀s,s∈p.op.dem->s∈v.sl->False:=λs l j=>BB c3 l j;have pg':p.op.sc=X->p.guard=W:=λhn=>by
   rcases pg with h|h
   .rw[hn]at h;cases h
   .simpa using h
  obtain ⟨y,θ,h⟩:=h;have hR':=hR.congr θ.symm;have A:=hj.congr θ.symm;obtain⟨l4,⟨⟨e1,J,hw⟩,ep,ε,C⟩,hR1⟩:=Gr hR' hp (Qw hdp pm pg' h);have hj1:=C.jd pb A;have Z:∀n,e1.get n=if H=n then ep else ε.on n (y.get n):=λn=>by
   rw [J.1,C.l4,AB.d6,BW.get]
  have R:∀e,ε.on b e=e:=by
   intro e;have:=C.slot;have j:=C.cell;cases ε with
   |none=>rfl|slot s t=>
    simp only[BW.on];rw[ac];intro he;subst he;exact z (Cx (this _ _ rfl))
   |cell s κ t=>
    simp only[BW.on];rw[ac];intro he;subst he;rcases j _ _ _ rfl with B|⟨x,_,G⟩
    .exact z B
    .exact A.no G δ
  have gb:e1.get b=y.get b:=by rw[Z,ac hpb,R]
  obtain ⟨X1,hK,cs,cs',o,Fs⟩:=xY Q ζ hd hw;have hbox:y.get b=.bx cs:=by rw[<-gb];exact Fs.box
  have hv:v.ev y=v.ev e1:=by
   cases v with
   |c t=>rfl|s m=>
    have hm:H≠m:=λe=>pnv (by simp[AG.sl,e]);simp[AG.ev];have u:=Fs.val;simp[AG.ev]at u;rw[Z,ac hm]at u|-;have l:=C.slot;have j:=C.ok;cases ε with
    |none=>rfl|slot s t=>
     simp only[BW.on];rw[ac (λ(e:s=m)=>dv s (l _ _ rfl) (by simp[AG.sl,e]))]
    |cell s κ t=>
     simp only[BW.on]at u|-;split
     next e=>subst e;obtain⟨ds,B,_⟩:=j;rw[a6 rfl,B]at u;exact absurd rfl (u _)
     .rfl
  have k:∀s e,o=Y (s,e)->((∃t,e=.tv t/\y.get s=.ow t)\/(e=.undef/\∃ds,y.get s=.z5 ds))/\s≠b/\s∈v.sl/\s≠H:=by
   intro s t ho;obtain⟨l,j,B⟩:=Fs.own s t ho;subst l;simp[AG.ev]at hv;refine⟨?_,B,e!,λe=>pnv (by simp[AG.sl,e])⟩;rw[hv];rcases j with j|⟨j,G,_⟩
   .exact .inl j
   .exact .inr ⟨j,G⟩
  have E:∀s,o=Y (s,.undef)->s∉p.op.slots/\s∈D:=by
   intro s ho;obtain⟨_,j,_⟩:=Fs.own s _ ho;rcases j with⟨t,j,_⟩|⟨_,_,n',G⟩
   .cases j
   .obtain⟨h5,h6⟩:=hstx n' s G;exact⟨λe=>BB h5 V e,by simpa using h6⟩
  have F:∀d s e,o=Y (s,e)->e.noR d=X:=by
   intro d s e ho;rcases(k s e ho).1 with⟨t,rfl,_⟩|⟨rfl,_⟩<;>rfl
  have I:∀s e,o=Y (s,e)->∀ds,y.get s≠.bx ds:=by
   intro s e ho ds h;rcases(k s e ho).1 with⟨t,_,j⟩|⟨_,ds',j⟩<;>rw[j]at h<;>cases h
  have g2:∀n,b≠n->(∀s t,o=Y (s,t)->s≠n)->AB.get (P6 b cs' o y) n=y.get n:=by
   intro n l j;rw[GG,ac l];cases o with
   |none=>rfl|some st=>
    obtain ⟨s,t⟩:=st;simp only;rw[ac (j s t rfl)]
  have lk:∀n,b≠n->o≠Y (n,.undef)->(y.get n).like (AB.get (P6 b cs' o y) n):=by
   intro n l h0;rw[GG,ac l];cases o with
   |none=>exact .inl rfl|some st=>
    obtain ⟨s,t⟩:=st;simp only;split
    .rename_i e;subst e;rcases(k s t rfl).1 with⟨t,rfl,B⟩|⟨rfl,_⟩
     .obtain⟨m,es,rfl⟩:=hR'.list B;exact .inr (.inl ⟨m,es,.inr ⟨B,rfl⟩⟩)
     .exact absurd rfl h0
    .exact .inl rfl
  have L:E8 p.op ε (Y H) y (P6 b cs' o y):=by
   refine ⟨λs η=>lk s (λe=>z (e▸η)) (λe=>(E s e).1 η),λs η r hb=>lk r (λe=>A.no hb (e▸δ)) (λe=>A.no hb (E r e).2),λs η _=>g2 s (λe=>z (e▸Cx η)) (λs' t ho e=>dv s η (e▸(k s' t ho).2.2.1)),?_,λhn d hd M=>by rw[Gw _ _ _ _ _ (F d)];exact M⟩;have l:=C.slot;have j:=C.ok;have B:=R;have G:=C.cell;cases ε with
   |none=>trivial|slot s t=>
    simp [BW.ok]at j|-;rw[g2 s (λe=>z (e▸Cx (l _ _ rfl))) (λs' t ho e=>dv s (l _ _ rfl) (e▸(k s' t ho).2.2.1))];exact j
   |cell s κ t=>
    obtain ⟨ds,h5,h6⟩:=j;refine⟨ds,?_,h6⟩;rw[g2 s (λe=>?_) (λs' t' ho e=>?_)]
    .exact h5
    .rcases G _ _ _ rfl with h7|⟨x,_,h8⟩
     .exact z (e▸h7)
     .exact A.no h8 (e▸δ)
    .exact I s' t' ho _ (e▸h5)
  have hgp:∀g∈p.gsl,AB.get (P6 b cs' o y) g=y.get g:=by
   intro g ζ;obtain⟨bb,hb,_,M,hno'⟩:=UC h g ζ;refine g2 g (λe=>bng (e▸ζ)) (λs t ho e=>?_);rcases(k s t ho).1 with⟨t,_,j⟩|⟨_,ds',j⟩
   .rw[<-e,j]at hb;exact absurd hb.symm (M _)
   .rw[<-e,j]at hb;exact absurd hb.symm (hno' _)
  refine ⟨y,θ,Fs.again y (A _ δ) hbox hv _ ⟨_,.refl _,C.again _ L hgp _ (JG hK ?_)⟩⟩;rw[Fs.l4];refine⟨λn=>?_,λd=>?_⟩
  .rw[AB.d6,BW.get,GG,GG];by_cases l:H=n
   .subst l;rw[ac (λe=>hpb e.symm),a6 rfl];cases o with
    |none=>simp only;rw[Z,a6 rfl]|some st=>
     obtain ⟨s,t⟩:=st;simp only;rw[ac (k s t rfl).2.2.2,Z,a6 rfl]
   .rw[ac l];by_cases j:b=n
    .subst j;rw[a6 rfl,a6 rfl,R]
    .rw[ac j,ac j];cases o with
     |none=>simp only;rw[Z,ac l]|some st=>
      obtain ⟨s,t⟩:=st;simp only;by_cases B:s=n
      .subst B;rw[a6 rfl,a6 rfl];have G:=C.slot;have h5:=C.ok;have h6:=(k s t rfl);have h6':=I s t rfl;have h6'':∀ds,t≠.bx ds:=by
        intro ds h;rcases h6.1 with⟨t,rfl,_⟩|⟨rfl,_⟩<;>cases h
       cases ε with
       |none=>rfl|slot s' t'=>
        simp only[BW.on];rw[ac (λ(e:s'=s)=>dv s' (G _ _ rfl) (by rw[e];exact h6.2.2.1))]
       |cell s' κ t'=>
        simp only[BW.on];split
        next e=>subst e;obtain⟨ds,h7,_⟩:=h5;exact absurd h7 (h6' _)
        .rfl
      .rw[ac B,ac B,Z,ac l]
  .rw[Gw _ _ _ _ _ (F d),J.2,C.l4,AB.ej,BW.f0,AB.ej,BW.f0,Gw _ _ _ _ _ (F d)]
def Aa0(D:Ne)(p q:PR):Bool:=
 match q.op,q.guard,q.dst with
 |.tkx s,W,Y d=>PR.x6 D p&&D.contains s&&D.contains d&&F1 p.dst.toList [s,d]&&F1 [s,d] (p.op.slots++p.gsl)|_,_,_=>T
variable{s d:Nat}
theorem k7{S:FuncId->Fq->A9->Prop}{K:AB->Prop}(c:q.op=.tkx s)(f:q.guard=W)(hd:q.dst=Y d)(h:q.wp S O K):∃n es,O.get s=.xo n es/\O.f0 d=X/\d≠s/\K ((d,.xo n es)::(s,.undef)::O):=by
 simp [PR.wp,c,f,hd,AE.wp,AB.put]at h
 grind
variable{n:Nat}
theorem k8{S:FuncId->Fq->A9->Prop}{K:AB->Prop}{es:Fq}(c:q.op=.tkx s)(f:q.guard=W)(hd:q.dst=Y d)(g:O.get s=.xo n es)(j:O.f0 d=X)(k:d≠s)(h:K ((d,.xo n es)::(s,.undef)::O)):q.wp S O K:=by
 simp [PR.wp,c,f,hd,AE.wp,AB.put,g];exact⟨j,k,h⟩
theorem zK(hR:Ns F0 w0 N O)(hj:JD D O){op:Oper}(hp:Nv P N ops op p=X)(f:Aa0 D p q=X)(h:GH (AT P) K (p::q::rs) O):GH (AT P) K (q::p::rs) O:=by
 unfold Aa0 at f;split at f
 .rename_i s d Q hg hd;simp[PR.x6,v1]at f;obtain⟨⟨⟨⟨⟨⟨⟨⟨pm,pd⟩,pg⟩,pb⟩,pD⟩,H⟩,θ⟩,δ⟩,Z⟩:=f;obtain⟨E,κ⟩:=v6.1 pd;rw[κ]at δ;simp at δ;have H:s∈D:=by simpa using H
  have θ:d∈D:=by simpa using θ
  have ε:E≠s:=λe=>BB δ (x:=E) V b?;have hpd:E≠d:=λe=>BB δ (x:=E) V b?;have j:s∉p.op.slots:=λe=>BB Z (x:=s) V (EC e);have l:d∉p.op.slots:=λe=>BB Z (x:=d) V (EC e);have sng:s∉p.gsl:=λe=>BB Z (x:=s) V (Ey e);have dng:d∉p.gsl:=λe=>BB Z (x:=d) V (Ey e);have pg':p.op.sc=X->p.guard=W:=λhn=>by
   rcases pg with h|h
   .rw[hn]at h;cases h
   .simpa using h
  obtain ⟨z,F,h⟩:=h;have hR':=hR.congr F.symm;have u:=hj.congr F.symm;obtain⟨l4,⟨⟨e1,v,hw⟩,ep,η,B⟩,hR1⟩:=Gr hR' hp (Qw κ pm pg' h);have g1:∀n,e1.get n=if E=n then ep else η.on n (z.get n):=λn=>by
   rw [v.1,B.l4,AB.d6,BW.get]
  have C:∀x,x∈D->x∉p.op.slots->∀e,η.on x e=e:=by
   intro x hxD R e;have:=B.slot;have k:=B.cell;cases η with
   |none=>rfl|slot s t=>
    simp only[BW.on];rw[ac];intro he;subst he;exact R (Cx (this _ _ rfl))
   |cell s off t=>
    simp only[BW.on];rw[ac];intro he;subst he;rcases k _ _ _ rfl with J|⟨y,_,ζ⟩
    .exact R J
    .exact u.no ζ hxD
  obtain ⟨n,es,k1,k2,k3,hK⟩:=k7 Q hg hd hw;rw[g1,ac ε,C s H j]at k1;rw[v.2,B.l4,AB.ej,BW.f0,ne]at k2;have I:∀m,m≠d->m≠s->AB.get ((d,.xo n es)::(s,.undef)::z) m=z.get m:=λm A k=>by
   rw [AB.d6,ac (λe=>A e.symm),AB.d6,ac (λe=>k e.symm)]
  have nr:∀c,AB.f0 c ((d,EV.xo n es)::(s,EV.undef)::z)=AB.f0 c z:=λc=>by
   simp [AB.ej,EV.noR,EV.wm]
  have L:E8 p.op η (Y E) z ((d,.xo n es)::(s,.undef)::z):=by
   refine ⟨λx G=>.inl (I x (λe=>l (e▸G)) (λe=>j (e▸G))),λx G r hr=>.inl (I r (λe=>u.no hr (e▸θ)) (λe=>u.no hr (e▸H))),λx G _=>I x (λe=>l (e▸Cx G)) (λe=>j (e▸Cx G)),?_,λhn d' hd' hno=>by rw[nr];exact hno⟩;have A:=B.slot;have k:=B.ok;have ζ:=B.cell;cases η with
   |none=>trivial|slot x t=>
    simp [BW.ok]at k|-;rw[I x (λe=>l (e▸Cx (A _ _ rfl))) (λe=>j (e▸Cx (A _ _ rfl)))];exact k
   |cell x off t=>
    obtain ⟨ds,h5,h6⟩:=k;refine⟨ds,?_,h6⟩;rw[I x (λe=>?_) (λe=>?_)]
    .exact h5
    .rcases ζ _ _ _ rfl with h7|⟨y,_,h8⟩
     .exact l (e▸h7)
     .exact u.no h8 (e▸θ)
    .rcases ζ _ _ _ rfl with h7|⟨y,_,h8⟩
     .exact j (e▸h7)
     .exact u.no h8 (e▸H)
  have hgp:∀g∈p.gsl,AB.get ((d,.xo n es)::(s,.undef)::z) g=z.get g:=λg M=>I g (λe=>dng (e▸M)) (λe=>sng (e▸M));refine⟨z,F,k8 Q hg hd k1 k2.2 k3 ⟨_,.refl _,B.again _ L hgp _ (JG hK ?_)⟩⟩;refine⟨λm=>?_,λc=>?_⟩
  .simp[AB.d6,BW.get,g1];by_cases A:d=m
   .subst A;rw[a6 rfl,ac hpd,C d θ l,a6 rfl]
   .rw[ac A];by_cases k:s=m
    .subst k;rw[a6 rfl,ac ε,C s H j,ac A,a6 rfl]
    .rw[ac k];by_cases J:E=m
     .rw[a6 J,a6 J]
     .rw[ac J,ac J,ac A,ac k]
  .simp[AB.ej,BW.f0,v.2,B.l4];have e1:EV.noR c (EV.xo n es)=X:=rfl;have e2:EV.noR c EV.undef=X:=rfl;rw[e1,e2];cases EV.noR c ep<;>rfl
 .cases f
def yt:AE->Bool
 |.xal _=>X|.mv _=>X|.bad _ _=>X|.fad _ _=>X|.ld _=>X|_=>T
def AaZ(D:Ne)(p q:PR):Bool:=
 match q.op,q.guard,q.dst,p.guard,p.dst with
 |.xst x v _,W,W,W,Y d=>PR.x6 D p&&yt p.op&&!(x.sl.contains d)&&!(v.sl.contains d)|_,_,_,_,_=>T
variable{i:Option Nat}
theorem QP{q:Nat}{es es':Fq}(h:O.sx q i=Y (n,es)):(∃u,AB.get (O.x5 q i n es') q=u/\((∃m c,O.get q=.xo m c/\∃m' fs',u=.xo m' fs')\/(∃cs k,i=Y k/\cs[k]?=Y ⟨X,.xl n es⟩/\O.get q=.bx cs/\u=.bx (cs.set k ⟨X,.xl n es'⟩))))/\(∀m,q≠m->AB.get (O.x5 q i n es') m=O.get m)/\∀d,AB.f0 d (O.x5 q i n es')=O.f0 d:=by
 cases i with
 |none=>
  grind [AB.sx,AB.x5,AB.d6,AB.ej,EV.noR,EV.wm]
 |some k=>
  grind [AB.sx,q0,AB.x5,AB.d6,AB.ej,EV.noR,EV.wm]
theorem u9(l:List AS)(c:Nat):IK ((l.drop c).map (·.t))=(l[c]?).map (·.t):=by
 rw [show l[c]?=(l.drop c)[0]? by rw[List.getElem?_drop,Nat.add_zero]];cases l.drop c<;>rfl
variable{t:TV}
theorem sL{ds:List AS}{k c n:Nat}{es es':Fq}(g:t.AaB=T)(h:ds[k]?=Y ⟨X,.xl n es⟩)(f:IK ((ds.drop c).map (·.t))=Y t):IK (((ds.set k ⟨X,.xl n es'⟩).drop c).map (·.t))=Y t:=by
 rw [u9]at f|-;by_cases e:k=c
 .subst e;rw[h]at f;simp at f;subst f;cases g
 grind
theorem v8{S:FuncId->Fq->A9->Prop}{op:AE}(ho:yt op=X){dst:Option Nat}{K:EV->AB->Prop}(h:op.wp S O dst K):
  ∃e,K e O/\(∀m J,e≠.xo m J)/\(∀cs,e≠.bx cs)/\∀(q n:Nat)(i:Option Nat)(es es':Fq),O.sx q i=Y (n,es)->∀z:EV->AB->Prop,z e (O.x5 q i n es')->op.wp S (O.x5 q i n es') dst z:=by
 have E:∀{q n:Nat}{i:Option Nat}{es es':Fq},O.sx q i=Y (n,es)->∀m e,O.get m=e->(∀k J,e≠.xo k J)->(∀cs,e≠.bx cs)->AB.get (O.x5 q i n es') m=e:=λ{q n i es es'}g m e v G ε=>by
  obtain ⟨⟨u,M,j⟩,I,_⟩:=QP (es':=es') g
  grind
 have F:∀{q n:Nat}{i:Option Nat}{es es':Fq},O.sx q i=Y (n,es)->∀m cs,O.get m=.bx cs->∃cs',AB.get (O.x5 q i n es') m=.bx cs'/\∀C t,t.AaB=T->IK ((cs.drop C).map (·.t))=Y t->IK ((cs'.drop C).map (·.t))=Y t:=λ{q n i es es'}g m cs v=>by
  obtain ⟨⟨u,M,j⟩,I,_⟩:=QP (es':=es') g
  grind [sL]
 have A:∀{q n:Nat}{i:Option Nat}{es es':Fq},O.sx q i=Y (n,es)->∀(x:AG)e,x.ev O=e->(∀m J,e≠.xo m J)->(∀cs,e≠.bx cs)->x.ev (O.x5 q i n es')=e:=by
  intro q n i es es' g x e he v G;cases x with
  |c t=>exact he|s y=>exact E g y e he v G
 cases op with
 |mv x=>
  simp [AE.wp]at h|-;split at h
  next t l=>exact⟨_,h,V,V,λq n i es es' g z f=>k_⟩
  next t l=>exact⟨_,h,V,V,λq n i es es' g z f=>k_⟩
  next t l=>exact⟨_,h,V,V,λq n i es es' g z f=>k_⟩
  .exact h.elim
 |xal s=>
  simp [AE.wp]at h|-;split at h
  .rename_i m J B;refine⟨_,h,V,V,λq n i es es' g z f=>?_⟩;obtain⟨⟨u,M,j⟩,I,_⟩:=QP (es':=es') g;by_cases e:q=s
   .subst e;rcases j with⟨_,_,_,m',fs',rfl⟩|⟨_,_,_,_,θ,_⟩
    .rw[M];exact f
    .rw[B]at θ;cases θ
   .rw[I s e,B];exact f
  .exact h.elim
 |bad s k=>
  simp [AE.wp]at h|-;split at h
  next cs B=>refine⟨_,h,V,V,λq n i es es' g z f=>?_⟩;obtain⟨cs',v,_⟩:=F (es':=es') g s cs B;rw[v];exact f
  next row B=>exact⟨_,h,V,V,λq n i es es' g z f=>by rw[E g s _ B V V];exact f⟩
  .exact h.elim
 |fad x k=>
  simp [AE.wp]at h|-;split at h
  next row l=>exact⟨_,h,V,V,λq n i es es' g z f=>k_⟩
  .rename_i s C l;split at h
   next cs B=>refine⟨_,h,V,V,λq n i es es' g z f=>?_⟩;obtain⟨cs',v,_⟩:=F (es':=es') g s cs B;rw[A g x _ l V V];simp only;rw[v];exact f
   .exact h.elim
  .exact h.elim
 |ld x=>
  simp [AE.wp]at h|-;cases j:BS O (x.ev O)with
  |none=>rw[j]at h;exact h.elim|some cs=>
   rw [j]at h;simp[Ax]at h;cases L:IK cs with
   |none=>rw[L]at h;exact h.elim|some t=>
    rw [L]at h;obtain⟨Q,h⟩:=h;refine⟨_,h,V,V,λq n i es es' g z f=>?_⟩;have ha:∃cs',BS (O.x5 q i n es') (x.ev (O.x5 q i n es'))=Y cs'/\IK cs'=Y t:=by
     cases x with
     |c R=>exact⟨cs,by rw[<-j];cases R<;>rfl,L⟩
     |s y=>
      simp [AG.ev]at j|-;cases H:O.get y with
      |bp s C=>
       rw [E g y _ H V V];rw[H]at j;simp only[BS]at j|-;split at j
       next ds B=>cases j;obtain⟨cs',v,G⟩:=F (es':=es') g s ds B;rw[v];exact⟨_,rfl,G _ _ Q L⟩
       .cases j
      |tv R=>
       rw [E g y _ H V V];rw[H]at j;exact⟨cs,by rw[<-j];cases R<;>rfl,L⟩
      |bx ds=>
       rw [H]at j;simp[BS]at j;subst j;obtain⟨cs',v,G⟩:=F (es':=es') g y ds H;rw[v];have:=G 0 t Q (by simpa using L);exact⟨_,rfl,by simpa using this⟩
      |_=>rw[H]at j;cases j
    obtain ⟨cs',v,G⟩:=ha;rw[v];simp[Ax,G];exact⟨Q,f⟩
 |_=>cases ho
variable{e:EV}
theorem cG{O g:AB}{d t n:Nat}{es:Fq}(h:Om g ((d,e)::O))(j:d≠t):Om (g.x5 t i n es) ((d,e)::O.x5 t i n es):=by
 have v:g.get t=O.get t:=by rw[h.1,AB.d6,ac j]
 have f:∀u:EV,(∀c,EV.noR c u=X)->Om ((t,u)::g) ((d,e)::(t,u)::O):=by
  intro u l;refine⟨λm=>?_,λc=>?_⟩
  .rw[AB.d6,h.1,AB.d6,AB.d6,AB.d6]
   grind
  .rw[AB.ej,h.2,AB.ej,AB.ej,AB.ej,l];cases EV.noR c e<;>rfl
 cases i with
 |none=>exact f _ λc=>rfl|some k=>
  simp [AB.x5,v];split
  .exact f _ λc=>rfl
  .exact h
theorem zO(f:AaZ D p q=X)(h:GH (AT P) K (p::q::rs) O):GH (AT P) K (q::p::rs) O:=by
 unfold AaZ at f;split at f
 .rename_i x v kx d B C hd J L;simp[v1,decide_eq_false_iff_not]at f;obtain⟨⟨⟨_,ho⟩,E⟩,F⟩:=f;obtain⟨A,G,h⟩:=h;simp[PR.wp,J,L,AB.put]at h;obtain⟨e,⟨H,j,l⟩,θ,ε,I⟩:=v8 ho h;have z:∀(y:AG),d∉y.sl->y.ev H=y.ev A:=by
   intro y hy;cases y with
   |c t=>rfl|s m=>
    simp [AG.ev,j.1,AB.d6]
    grind [AG.sl]
  refine ⟨A,G,?_⟩;simp[PR.wp,C,hd,B,AE.wp,z x E,z v F]at l|-;split at l
  .rename_i t i c hx;split at l
   .rename_i n es u M Q;obtain⟨κ,η,es',ζ,δ,Z,hK⟩:=l;have g:d≠t:=by
     intro g;have C:H.get t=e:=by rw[j.1,AB.d6,a6 g]
     cases i with
     |none=>
      grind [AB.sx]
     |some k=>
      grind [AB.sx]
    have R:A.sx t i=Y (n,es):=by
     have C:H.get t=A.get t:=by rw[j.1,AB.d6,ac g]
     grind [AB.Aac]
    rw [R,Q];refine⟨κ,η,es',ζ,δ,Z,_,.refl _,?_⟩
    grind [PR.wp,AB.put,JG,cG]
   .exact l.elim
  .exact l.elim
 .cases f
end
end Go.Sf
