/- Two operations of a region that may change places. -/
import Derived.Test.YthcncnllajfkfaaGreatSfFrame
set_option linter.all false
open Option renaming some->Y,none->W
open Bool renaming true->X,false->T
open Bool renaming not_eq_true'->w_,and_true->w!
open Option renaming isSome_iff_exists->w?
namespace Go.Sf
open Go.RowKit (Below)
theorem AB.ey(d k:Nat)(e:EV)(O:AB):AB.ij d ((k,e)::O)=(e.noR d&&AB.ij d O):=rfl
variable{d:Nat}{e:EV}
theorem Vm(h:∀s,e.ref=Y s->s≠d):e.noR d=X:=by grind[EV.noR]
theorem BV.ij(f:BV)(O:AB)(d:Nat):AB.ij d (f.app O)=AB.ij d O:=by
 cases f with
 |none=>rfl|slot s t=>simp[BV.app,AB.ey,EV.noR,EV.ref]|cell s c t=>
  grind [BV.app,AB.ey,EV.noR,EV.ref]
def BV.on(f:BV)(n:Nat)(e:EV):EV:=
 match f with
 |.none=>e|.slot s t=>if s=n then .tv t else e|.cell s off t=>if s=n then(match e with|.bx cs=>.bx (cs.set off ⟨T,t⟩)|e=>e)else e
theorem BV.get(f:BV)(O:AB)(n:Nat):AB.get (f.app O) n=f.on n (O.get n):=by
 cases f with
 |none=>rfl|slot s t=>simp[BV.app,AB.eb,BV.on]|cell s c t=>
  simp [BV.app,BV.on]
  grind [AB.eb]
def Om(O env2:AB):Prop:=(∀n,O.get n=env2.get n)/\∀d,O.ij d=env2.ij d
theorem Om.refl(O:AB):Om O O:=⟨λ_=>rfl,λ_=>rfl⟩
theorem Om.trans{a b c:AB}(h:Om a b)(f:Om b c):Om a c:=⟨λn=>(h.1 n).trans (f.1 n),λd=>(h.2 d).trans (f.2 d)⟩
variable{a b:AB}
theorem Om.symm(h:Om a b):Om b a:=⟨λn=>(h.1 n).symm,λd=>(h.2 d).symm⟩
variable{w:World}
theorem B9.congr{F0:Nat->Nat->Prop}{w0:W0}{O env2:AB}{a:Act}(h:B9 F0 w0 O a w)(he:∀n,O.get n=env2.get n):B9 F0 w0 env2 a w:=by
 obtain ⟨G,h⟩:=h;refine⟨G,h.o3,h.lt,h.below,h.defers,λq c=>?_,λq c=>?_,λq=>?_⟩
 .rw[<-he];exact h.dom q c
 .rw[<-he];refine AN.kept (Ra _ _) (λ_=>rfl) (λ_ _ _ _=>rfl) rfl BY.rfl' (λr i k hr⟨p,f⟩=>⟨⟨p,(AB.Aaz (he r)).trans f⟩,λ_ hv=>hv⟩) (λr j hr⟨cs,g⟩=>⟨⟨cs,by rw[he];exact g⟩,rfl⟩) (λr i hr⟨p,f⟩=>⟨⟨p,(AB.Aaq (he r)).trans f⟩,λ_ hv=>hv⟩) (h.slots q c)
 .rw[<-he];exact h.wf q
def Fw(S:FuncId->Fq->A9->Prop)(K:AB->Prop):List PR->AB->Prop
 |[],O=>∃e,Om e O/\K e|r::rs,O=>∃e,Om e O/\r.wp S e (Fw S K rs)
section
variable{S:FuncId->Fq->A9->Prop}{K:AB->Prop}
variable{rs:List PR}
theorem I0{O env2:AB}(h:Fw S K rs O)(he:Om O env2):Fw S K rs env2:=by
 cases rs with
 |nil=>obtain⟨e,c,f⟩:=h;exact⟨e,c.trans he,f⟩
 |cons r rs=>obtain⟨e,c,f⟩:=h;exact⟨e,c.trans he,f⟩
theorem pS:∀{rs:List PR}{O:AB},wpOps S K rs O->Fw S K rs O
 |[],O,h=>⟨O,.refl _,h⟩|r::rs,O,h=>⟨O,.refl _,PR.o4 S O (λe he=>pS he) r h⟩
def PR.gsl(r:PR):QQ:=
 match r.guard with
 |some (g,_)=>[g]|none=>[]
structure Q1(S:FuncId->Fq->A9->Prop)(r:PR)(d:Nat)(O pc:AB)(e:EV)(f:BV):Prop where
 pc:pc=(d,e)::f.app O
 ok:f.ok O
 slot:∀s t,f=.slot s t->s∈r.op.dem
 cell:∀s off t,f=.cell s off t->(s∈r.op.slots\/∃x∈r.op.slots,(O.get x).ref=Y s)
 ref:∀s,e.ref=Y s->(s∈r.op.Aa6\/∃x∈r.op.slots,(O.get x).ref=Y s)
 new:r.op.t5=X->e.ref=W/\O.ij d=X
 xl:∀s off t,f=.cell s off t->t.AaN=T
 again:∀env2,Es r.op f (Y d) O env2->(∀g∈r.gsl,env2.get g=O.get g)->∀K2:AB->Prop,K2 ((d,e)::f.app env2)->r.wp S env2 K2
variable{r:PR}{d:Nat}{O:AB}
theorem Q6(hd:r.dst=Y d)(B:r.op.mov=X)(H:r.op.t5=X->r.guard=W)(h:r.wp S O K):r.wp S O λpc=>K pc/\∃e f,Q1 S r d O pc e f:=by
 have A:∀(m:∀env2,(∀g∈r.gsl,env2.get g=O.get g)->∀u:AB->Prop,(r.op.wp S env2 (Y d) λe env'=>u (env'.put (Y d) e))->r.wp S env2 u),(r.op.wp S O (Y d) λe env'=>K (env'.put (Y d) e))->r.op.wp S O (Y d) λe env'=>K (env'.put (Y d) e)/\∃C f,Q1 S r d O (env'.put (Y d) e) C f:=by
  intro m F;refine AE.o4 S O (Y d) (λe env' he=>?_) r.op (frame B F);obtain⟨G,f,c⟩:=he;refine⟨G,e,f,?_,c.ok,c.slot,c.cell,c.ref,λv=>⟨(c.new v).1,(c.new v).2 d rfl⟩,c.xl,λenv2 E k u j=>?_⟩
  .simp[AB.put];rw[c.env']
  .exact m env2 k u (c.again env2 E _ j)
 unfold PR.wp at h|-;cases l:r.guard with
 |none=>
  grind [PR.wp]
 |some gb=>
  obtain ⟨g,b⟩:=gb;rw[l]at h;rw[hd]at h|-;simp only at h|-;have k:g∈r.gsl:=by simp[PR.gsl,l]
  split at h
  .rename_i q z;refine⟨λhb=>A (λenv2 c u j=>?_) (h.1 hb),λhb=>⟨h.2 hb,.sk,.none,rfl,trivial,V,V,(λs he=>o_),λv=>?_,V,λenv2 _ c u j=>?_⟩⟩
   .grind[PR.wp]
   .grind
   .unfold PR.wp;rw[l,hd];simp only;rw[c g k,z];exact⟨λy=>by subst y;cases q<;>simp at hb,λ_=>j⟩
  .rename_i z;refine⟨h,.sk,.none,rfl,trivial,V,V,(λs he=>o_),λv=>?_,V,λenv2 _ c u j=>?_⟩
   .grind
   .unfold PR.wp;rw[l,hd];simp only;rw[c g k,z];exact j
  .exact h.elim
end
section
variable{P:Program}{F0:Nat->Nat->Prop}{w0:W0}{N:Nat}{ops:Array Oper}{K:AB->Prop}
def Nq(F0:Nat->Nat->Prop)(w0:W0)(N:Nat)(O:AB):Prop:=∃a w,a.tmps.size=N/\B9 F0 w0 O a w
theorem Nq.congr{O env2:AB}(h:Nq F0 w0 N O)(he:Om O env2):Nq F0 w0 N env2:=by
 obtain ⟨a,w,c,f⟩:=h;exact⟨a,w,c,f.congr he.1⟩
variable{O:AB}{s:Nat}{t:TV}
theorem Nq.list(h:Nq F0 w0 N O)(c:O.get s=.ow t):∃n es,t=.list n es:=by
 obtain ⟨a,w,_,G,f⟩:=h;have:=At f c V;simp[AN]at this;cases t<;>simp[CD]at this;exact⟨_,_,rfl⟩
variable{o:Oper}{w:World}
theorem mH{a:Act}{ζ:Prop}(h:o.wp P a w (λ_ _=>ζ) (λ_ _ _=>False)):ζ:=by
 unfold Oper.wp at h;generalize (execOp a.eval o).run P w=r at h;cases r with
 |ok n w'=>
  cases n with
  |value v=>exact h|skip=>exact h|defer d=>exact h|enter f args=>
   rw [Oper.upon_enter]at h;obtain⟨e,j,fr,g,_⟩:=h [];cases e with
   |returned v=>exact g|panicked c=>exact g.elim|outgrown=>obtain⟨_,_,k⟩:=g;exact k.elim
  |row r args=>
   rw [Oper.upon_row]at h;obtain⟨v,j,g,_⟩:=h default [];exact g
  |_=>exact h.elim
 |halt x w'=>
  cases x<;>exact h.elim
variable{r:PR}
theorem GU(f:Nq F0 w0 N O)(c:Nw P N ops o r=X)(h:r.wp (AV P) O K):∃env',K env'/\Nq F0 w0 N env':=by
 obtain ⟨a,w,l,m⟩:=f;have:=Xe (p:=W) (next:=λ_ _=>∃env',K env'/\Nq F0 w0 N env') (Q:=λ_ _ _=>False) m ⟨l,V⟩ V c h λenv' a' w' g j k=>⟨env',g,a',w',j.size,k⟩;split at this
 .exact mH this
 .exact this
end
def FW(xs ys:QQ):Bool:=xs.all λx=>!ys.contains x
variable{x:Nat}
theorem BB{xs ys:QQ}(h:FW xs ys=X)(c:x∈xs)(f:x∈ys):False:=by grind[FW,List.all_eq_true,w_]
def PR.old(r:PR):QQ:=
 if r.op.t5 then[]else r.dst.toList
def PR.Aai(D:QQ)(r:PR):Bool:=
 r.op.mov&&r.dst.isSome&&(!r.op.t5||r.guard.isNone)&&FW r.op.Aa6 D&&r.old.all D.contains
def Yk(D:QQ)(p q:PR):Bool:=
 PR.Aai D p&&PR.Aai D q&&FW p.dst.toList (q.dst.toList++(q.op.slots++q.gsl))&&FW q.dst.toList (p.op.slots++p.gsl)&&FW p.op.dem (q.op.dem++q.gsl)&&FW q.op.dem p.gsl
variable{s:Nat}
theorem Ck{op:AE}(h:s∈op.dem):s∈op.slots:=by
 cases op<;>simp only[AE.dem,List.not_mem_nil]at h<;>simp only[AE.slots]
 .exact h
 .exact D4 h
theorem kM{op:AE}(h:s∈op.Aa6):s∈op.slots:=by
 cases op<;>simp[AE.Aa6]at h<;>simp[AE.slots]
 all_goals exact h
def JD(D:QQ)(O:AB):Prop:=∀d∈D,O.ij d=X
theorem JD.congr{D:QQ}{O env2:AB}(h:JD D O)(he:Om O env2):JD D env2:=λd hd=>by rw[<-he.2];exact h d hd
variable{O:AB}
theorem JD.no{D:QQ}(h:JD D O)(c:(O.get x).ref=Y s):s∉D:=λhd=>AB.Aad s O (h s hd) x c
section
variable{S:FuncId->Fq->A9->Prop}
variable{r:PR}{d:Nat}{e:EV}
theorem Q1.jd{D:QQ}{O pc:AB}{f:BV}(h:Q1 S r d O pc e f)(hb:FW r.op.Aa6 D=X)(j:JD D O):JD D pc:=by
 intro x g;rw[h.pc,AB.ey,BV.ij,j x g,w!];refine Vm (λs he c=>?_);subst c;rcases h.ref s he with k|⟨y,_,l⟩
 .exact BB hb k g
 .exact j.no l g
variable{O:AB}
theorem BV.like(f:BV)(c:f.ok O)(h:∀s t,O.get s=.ow t->∃n es,t=.list n es)(k:∀s g t,f=.cell s g t->t.AaN=T)(n:Nat):(O.get n).like (f.on n (O.get n)):=by
 cases f with
 |none=>exact .inl rfl|slot s t=>
  simp [BV.on];split
  next e=>subst e;simp[BV.ok]at c;obtain⟨m,es,rfl⟩:=h s t c;exact .inr (.inl ⟨m,es,.inr ⟨c,rfl⟩⟩)
  .exact .inl rfl
 |cell s g t=>
  simp [BV.on];split
  .rename_i e;subst e;obtain⟨cs,j,l⟩:=c;rw[j];refine .inr (.inr ⟨cs,_,rfl,rfl,?_⟩);rw[List.map_set];refine List.ext_getElem? λi=>?_
   grind [c9,List.getElem?_eq_some_iff,AR.key]
  .exact .inl rfl
end
variable{r:PR}{O:AB}
theorem UO{S:FuncId->Fq->A9->Prop}{K:AB->Prop}(h:r.wp S O K):∀g∈r.gsl,∃b,O.get g=b/\(∀cs,b≠.bx cs)/\(∀t,b≠.ow t)/\∀cs,b≠.oag cs:=by grind[PR.gsl,PR.wp,List.mem_singleton]
section
variable{P:Program}{F0:Nat->Nat->Prop}{w0:W0}{N:Nat}{ops:Array Oper}{K:AB->Prop}{D:QQ}
variable{O:AB}{p q:PR}{rs:List PR}
theorem swap(hR:Nq F0 w0 N O)(hj:JD D O){op oq:Oper}(hp:Nw P N ops op p=X)(hq:Nw P N ops oq q=X)(θ:Yk D p q=X)(h:Fw (AV P) K (p::q::rs) O):Fw (AV P) K (q::p::rs) O:=by
 simp [Yk,PR.Aai,w_]at θ;obtain⟨⟨⟨⟨⟨⟨⟨⟨⟨pm,pd⟩,pg⟩,pb⟩,pD⟩,⟨⟨⟨qm,qd⟩,qg⟩,qb⟩,qD⟩,c1⟩,c2⟩,c3⟩,c4⟩:=θ;obtain⟨F,hdp⟩:=w?.1 pd;obtain⟨C,hdq⟩:=w?.1 qd;rw[hdp]at c1;rw[hdq]at c1 c2;simp at c1 c2;have hpq:F≠C:=λe=>BB c1 (x:=F) V c_;have H:F∉q.op.slots:=λe=>BB c1 (x:=F) V c_;have pngq:F∉q.gsl:=λe=>BB c1 (x:=F) V c_;have Q:C∉p.op.slots:=λe=>BB c2 (x:=C) V c_;have qngp:C∉p.gsl:=λe=>BB c2 (x:=C) V c_;have dd:∀s,s∈p.op.dem->s∈q.op.dem->False:=λs c l=>BB c3 c (D4 l);have dg1:∀s,s∈p.op.dem->s∈q.gsl->False:=λs c l=>BB c3 c (Eg l);have dg2:∀s,s∈q.op.dem->s∈p.gsl->False:=λs c l=>BB c4 c l;have oldp:p.op.t5=X\/F∈D:=by
  cases E:p.op.t5 with
  |true=>exact .inl rfl|false=>exact .inr (by simpa[PR.old,E,hdp]using pD)
 have oldq:q.op.t5=X\/C∈D:=by
  cases E:q.op.t5 with
  |true=>exact .inl rfl|false=>exact .inr (by simpa[PR.old,E,hdq]using qD)
 have pg':p.op.t5=X->p.guard=W:=λE=>by
  rcases pg with h|h
  .rw[E]at h;cases h
  .simpa using h
 have qg':q.op.t5=X->q.guard=W:=λE=>by
  rcases qg with h|h
  .rw[E]at h;cases h
  .simpa using h
 obtain ⟨L,heq,h⟩:=h;have hR':=hR.congr heq.symm;have hj':=hj.congr heq.symm;obtain⟨pc,⟨⟨J,B,hw⟩,ep,R,z⟩,hR1⟩:=GU hR' hp (Q6 hdp pm pg' h);have hRe1:=hR1.congr B.symm;have hj1:=z.jd pb hj';have hje1:=hj1.congr B.symm;obtain⟨X1,⟨hK,eq,G,M⟩,_⟩:=GU hRe1 hq (Q6 hdq qm qg' hw);have δ:∀n,J.get n=if F=n then ep else R.on n (L.get n):=λn=>by
  rw [B.1,z.pc,AB.eb,BV.get]
 have ε:∀x s,(J.get x).ref=Y s->s≠F:=by
  intro x s hx A;subst A;rcases oldp with E|hd
  .refine AB.Aad s J ?_ x hx;rw[B.2,z.pc,AB.ey,BV.ij,(z.new E).2,w!];exact Vm (λs he _=>by rw[(z.new E).1]at he;cases he)
  .exact hje1.no hx hd
 have nq':∀x s,(L.get x).ref=Y s->s≠C:=by
  intro x s hx A;subst A;rcases oldq with E|hd
  .have c:=(M.new E).2;rw[B.2,z.pc,AB.ey,BV.ij,pq]at c;exact AB.Aad s L c.2 x hx
  .exact hj'.no hx hd
 have lk:∀n,n≠F->(J.get n).like (L.get n):=by
  intro n E;rw[δ,ae (λe=>E e.symm)];exact(BV.like R z.ok (λs t A=>hR'.list A) z.xl n).symm
 have fpdq:∀e,R.on C e=e:=by
  intro e;have:=z.slot;have l:=z.cell;cases R with
  |none=>rfl|slot s t=>
   simp only[BV.on];rw[ae];intro he;subst he;exact Q (Ck (this _ _ rfl))
  |cell s j t=>
   simp only[BV.on];rw[ae];intro he;subst he;rcases l _ _ _ rfl with m|⟨x,_,I⟩
   .exact Q m
   .exact nq' x _ I rfl
 have κ:∀e,G.on F e=e:=by
  intro e;have:=M.slot;have l:=M.cell;cases G with
  |none=>rfl|slot s t=>
   simp only[BV.on];rw[ae];intro he;subst he;exact H (Ck (this _ _ rfl))
  |cell s j t=>
   simp only[BV.on];rw[ae];intro he;subst he;rcases l _ _ _ rfl with m|⟨x,_,I⟩
   .exact H m
   .exact ε x _ I rfl
 have v:G.ok L:=by
  have k:=M.ok;have hsl:=M.slot;have hc:=κ;cases G with
  |none=>trivial|slot s t=>
   simp [BV.ok]at k|-;have A:=hsl s t rfl;have f:F≠s:=λe=>H (e▸Ck A);rw[δ,ae f]at k;have c:=z.slot;have l:=z.ok;cases R with
   |none=>exact k|slot s' y=>
    simp [BV.on]at k;rw[ae (λ(e:s'=s)=>dd s' (c _ _ rfl) (by rw[e];exact A))]at k;exact k
   |cell s' j y=>
    simp [BV.on]at k;split at k
    next e=>subst e;obtain⟨cs,m,_⟩:=l;rw[m]at k;cases k
    .exact k
  |cell s j t=>
   obtain ⟨cs,c,l⟩:=k;have f:F≠s:=λe=>by
    have:=hc (.bx [⟨X,.undef⟩,⟨X,.undef⟩]);rcases M.cell s j t rfl with m|⟨x,_,I⟩
    .exact H (e▸m)
    .exact ε x s I e.symm
   rw [δ,ae f]at c;have m:=z.ok;cases R with
   |none=>exact⟨cs,c,l⟩|slot s' y=>
    simp [BV.on]at c;split at c
    .cases c
    .exact⟨cs,c,l⟩
   |cell s' u y=>
    simp [BV.on]at c;split at c
    .rename_i e;subst e;obtain⟨cs',I,h5⟩:=m;rw[I]at c;simp[EV.bx.injEq]at c;subst c;rw[List.getElem?_set]at l;split at l
     .split at l
      .simp at l
      .cases l
     .exact⟨cs',I,l⟩
    .exact⟨cs,c,l⟩
 have L1:Es q.op G (Y C) J L:=by
  refine ⟨λs A=>lk s (λe=>H (e▸A)),λs A r hb=>lk r (ε s r hb),λs A hnb=>?_,v,λE d hd ζ=>?_⟩
  .have f:F≠s:=λe=>H (e▸Ck A);rw[δ,ae f];have c:=z.slot;have l:=z.ok;cases R with
   |none=>rfl|slot s' y=>
    simp only[BV.on];rw[ae (λ(e:s'=s)=>dd s' (c _ _ rfl) (by rw[e];exact A))]
   |cell s' j y=>
    simp only[BV.on];split
    next e=>subst e;obtain⟨cs,m,_⟩:=l;exfalso;refine hnb (cs.set j ⟨T,y⟩) ?_;rw[δ,ae f];simp[BV.on,m]
    .rfl
  .rw[B.2,z.pc,AB.ey,BV.ij,pq]at ζ;exact ζ.2
 have hgq:∀g∈q.gsl,L.get g=J.get g:=by
  intro g hg;have f:F≠g:=λe=>pngq (e▸hg);obtain⟨b,hb,hnx,_⟩:=UO hw g hg;have η:=hb;rw[δ,ae f]at η;rw[δ,ae f];have c:=z.slot;have l:=z.ok;cases R with
  |none=>rfl|slot s' y=>
   simp only[BV.on];rw[ae (λ(e:s'=g)=>dg1 s' (c _ _ rfl) (by rw[e];exact hg))]
  |cell s' j y=>
   simp only[BV.on]at η|-;split
   next e=>subst e;obtain⟨cs,m,_⟩:=l;rw[m]at η;simp at η;exact absurd η.symm (hnx _)
   .rfl
 have hgp:∀g∈p.gsl,AB.get ((C,eq)::G.app L) g=L.get g:=by
  intro g hg;have f:C≠g:=λe=>qngp (e▸hg);obtain⟨b,hb,hnx,_⟩:=UO h g hg;rw[AB.eb,ae f,BV.get];have c:=M.slot;cases G with
  |none=>rfl|slot s' y=>
   simp only[BV.on];rw[ae (λ(e:s'=g)=>dg2 s' (c _ _ rfl) (by rw[e];exact hg))]
  |cell s' j y=>
   simp only[BV.on];split
   next e=>subst e;obtain⟨cs,m,_⟩:=v;rw[m]at hb;exact absurd hb.symm (hnx _)
   .rfl
 have offs:∀s j t u y,R=.cell s j t->G=.cell s u y->j≠u:=by
  intro s j t u y c l ho;subst ho;have m:=M.ok;have I:=z.ok;have h5:=κ;rw[c]at I;rw[l]at m;obtain⟨cs,h6,h7⟩:=I;obtain⟨ds,h8,h9⟩:=m;have f:F≠s:=λe=>by
   rcases M.cell s j y l with m|⟨x,_,I⟩
   .exact H (e▸m)
   .exact ε x s I e.symm
  rw [δ,ae f,c]at h8;simp[BV.on,h6,EV.bx.injEq]at h8;subst h8;rw[List.getElem?_set,ac rfl]at h9;split at h9
  .simp at h9
  .cases h9
 have g2:∀n,AB.get ((C,eq)::G.app L) n=if C=n then eq else G.on n (L.get n):=λn=>by
  rw [AB.eb,BV.get]
 have lk2:∀n,n≠C->(L.get n).like (AB.get ((C,eq)::G.app L) n):=by
  intro n E;rw[g2,ae (λe=>E e.symm)];exact BV.like G v (λs t A=>hR'.list A) M.xl n
 have L2:Es p.op R (Y F) L ((C,eq)::G.app L):=by
  refine ⟨λs A=>lk2 s (λe=>Q (e▸A)),λs A r hb=>lk2 r (nq' s r hb),λs A hnb=>?_,?_,λE d hd ζ=>?_⟩
  .have f:C≠s:=λe=>Q (e▸Ck A);rw[g2,ae f];have c:=M.slot;cases G with
   |none=>rfl|slot s' y=>
    simp only[BV.on];rw[ae (λ(e:s'=s)=>dd s' (by rw[e];exact A) (c _ _ rfl))]
   |cell s' j y=>
    simp only[BV.on];split
    next e=>subst e;obtain⟨cs,m,_⟩:=v;exact absurd m (hnb cs)
    .rfl
  .have k:=z.ok;have hsl:=z.slot;have hcl:=z.cell;cases R with
   |none=>trivial|slot s t=>
    simp [BV.ok]at k|-;have A:=hsl s t rfl;have f:C≠s:=λe=>Q (e▸Ck A);rw[g2,ae f];have c:=M.slot;cases G with
    |none=>exact k|slot s' y=>
     simp [BV.on];rw[ae (λ(e:s'=s)=>dd s' (by rw[e];exact A) (c _ _ rfl))];exact k
    |cell s' j y=>
     simp [BV.on];split
     next e=>subst e;obtain⟨cs,m,_⟩:=v;rw[m]at k;cases k
     .exact k
   |cell s j t=>
    obtain ⟨cs,c,l⟩:=k;have f:C≠s:=λe=>by
     rcases hcl s j t rfl with m|⟨x,_,I⟩
     .exact Q (e▸m)
     .exact nq' x s I e.symm
    simp [BV.ok];rw[g2,ae f];have m:=v;cases G with
    |none=>exact⟨cs,c,l⟩|slot s' y=>
     simp [BV.on];split
     next e=>subst e;simp[BV.ok]at m;rw[m]at c;cases c
     .exact⟨cs,c,l⟩
    |cell s' u y=>
     simp [BV.on];split
     next e=>subst e;rw[c];have:=offs s' j t u y rfl rfl;refine⟨_,rfl,?_⟩;rw[List.getElem?_set,ae (λe=>this e.symm)];exact l
     .exact⟨cs,c,l⟩
  .simp at hd;subst hd;rw[AB.ey,BV.ij,ζ,w!];refine Vm (λs he=>?_);rcases M.ref s he with c|⟨x,_,l⟩
   .exact λe=>H (e▸kM c)
   .exact ε x s l
 refine ⟨L,heq,M.again L L1 hgq _ ⟨_,.refl _,z.again _ L2 hgp _ (I0 hK ?_)⟩⟩;rw[M.pc];refine⟨λn=>?_,λd=>?_⟩
 .rw[AB.eb,BV.get,δ,AB.eb,BV.get,g2];by_cases c:C=n
  .subst c;rw[ac rfl,ae hpq,ac rfl,fpdq]
  .rw[ae c,ae c];by_cases l:F=n
   .subst l;rw[ac rfl,ac rfl,κ]
   .rw[ae l,ae l];have m:=z.ok;have I:=z.slot;have h5:=M.slot;cases R with
    |none=>rfl|slot s t=>
     cases G with
     |none=>rfl|slot s' y=>
      have f:s≠s':=λe=>dd s (I _ _ rfl) (e▸h5 _ _ rfl);simp[BV.on];by_cases J:s=n<;>by_cases Z:s'=n<;>simp[J,Z];exact absurd (J.trans Z.symm) f
     |cell s' u y=>
      have f:s≠s':=λe=>by
       obtain ⟨cs,h6,_⟩:=v;simp[BV.ok]at m;rw[<-e,m]at h6;cases h6
      simp [BV.on];by_cases J:s=n<;>by_cases Z:s'=n<;>simp[J,Z]
    |cell s j t=>
     cases G with
     |none=>rfl|slot s' y=>
      have f:s≠s':=λe=>by
       obtain ⟨cs,h6,_⟩:=m;simp[BV.ok]at v;rw[e,v]at h6;cases h6
      simp [BV.on];by_cases J:s=n<;>by_cases Z:s'=n<;>simp[J,Z]
     |cell s' u y=>
      obtain ⟨cs,h6,_⟩:=m;simp[BV.on];by_cases J:s=n
      .by_cases Z:s'=n
       .subst J;subst Z;have:=offs s' j t u y rfl rfl;simp[h6];rw[List.set_comm _ _ this]
       .simp[J,Z]
      .simp[J]
 .rw[AB.ey,BV.ij,B.2,z.pc,AB.ey,BV.ij,AB.ey,BV.ij,AB.ey,BV.ij];cases EV.noR d eq<;>cases EV.noR d ep<;>rfl
end
end Go.Sf
namespace Go.Sf
open Go.RowKit (Below)
def Aa1(D:QQ)(p q:PR):Bool:=
 match q.op,q.guard,q.dst with
 |.stb _ b v,W,W=>PR.Aai D p&&D.contains b&&FW p.dst.toList (b::v.sl)&&FW [b] (p.op.slots++p.gsl)&&FW p.op.dem v.sl|.stx _ b s,W,W=>PR.Aai D p&&D.contains b&&FW p.dst.toList (b::[s])&&FW [b] (p.op.slots++p.gsl)&&FW p.op.dem [s]&&FW [s] p.op.slots&&D.contains s|_,_,_=>T
def P4(b:Nat)(cs:List AR)(q:Option (Nat×EV))(O:AB):AB:=
 (b,.bx cs)::(match q with|some (s,t)=>(s,t)::O|none=>O)
theorem Fv(b:Nat)(cs:List AR)(q:Option (Nat×EV))(O:AB)(n:Nat):AB.get (P4 b cs q O) n=if b=n then .bx cs else(match q with|some (s,t)=>if s=n then t else O.get n|none=>O.get n):=by
 cases q with
 |none=>rfl|some st=>rfl
theorem GY(b:Nat)(cs:List AR)(q:Option (Nat×EV))(O:AB)(d:Nat)(h:∀s e,q=Y (s,e)->e.noR d=X):AB.ij d (P4 b cs q O)=AB.ij d O:=by
 cases q with
 |none=>simp[P4,AB.ey,EV.noR,EV.ref]|some p=>
  obtain ⟨s,e⟩:=p;have c:=h s e rfl;simp[P4,AB.ey,c];simp[EV.noR,EV.ref]
structure vu(S:FuncId->Fq->A9->Prop)(q:PR)(b:Nat)(v:AH)(O pc:AB)(cs cs':List AR)(o:Option (Nat×EV)):Prop where
 pc:pc=P4 b cs' o O
 box:O.get b=.bx cs
 own:∀s e,o=Y (s,e)->v=.s s/\((∃t,e=.tv t/\O.get s=.ow t)\/(e=.undef/\(∃ds,O.get s=.oag ds)/\∃n,q.op=.stx n b s))/\s≠b
 val:∀cs,v.ev O≠.bx cs
 again:∀env2,env2.ij b=X->env2.get b=.bx cs->v.ev env2=v.ev O->∀K2:AB->Prop,K2 (P4 b cs' o env2)->q.wp S env2 K2
variable{q:PR}{O:AB}
theorem w3{S:FuncId->Fq->A9->Prop}{K:AB->Prop}{n b:Nat}{v:AH}(f:q.op=.stb n b v\/∃s,v=.s s/\q.op=.stx n b s)(k:q.guard=W)(hd:q.dst=W)(h:q.wp S O K):∃pc,K pc/\∃cs cs' o,vu S q b v O pc cs cs' o:=by
 rcases f with f|⟨s,rfl,f⟩
 .unfold PR.wp at h;rw[k,f,hd]at h;simp only[AE.wp]at h;split at h
  .rename_i cs m;split at h
   .rename_i t hv;cases v with
    |c t=>exact h.elim|s z=>
     simp only at h;simp[AH.ev]at hv;refine⟨_,h.2.2.2,cs,_,Y (z,.tv t),rfl,m,?_,?_,λenv2 u l j y g=>?_⟩
     .grind
     .grind[AH.ev]
     .simp[AH.ev]at j;unfold PR.wp;rw[k,f,hd];simp[AE.wp,l,AH.ev,j,hv];exact⟨h.1,h.2.1,h.2.2.1,g⟩
   next t hv=>refine⟨_,h.2.2,cs,_,W,rfl,m,V,l_,λenv2 u l j y g=>?_⟩;unfold PR.wp;rw[k,f,hd];simp only[AE.wp,l,j,hv];exact⟨h.1,h.2.1,g⟩
   .exact h.elim
  .exact h.elim
 .unfold PR.wp at h;rw[k,f,hd]at h;simp only[AE.wp]at h;split at h
  .rename_i cs ds m hv;refine⟨_,h.2.2.2,cs,_,Y (s,.undef),rfl,m,?_,by simp[AH.ev,hv],λenv2 u l j y g=>?_⟩
   .grind
   .simp[AH.ev]at j;unfold PR.wp;rw[k,f,hd];simp only[AE.wp,l,j,hv];exact⟨h.1,⟨h.2.1.1,by rw[AB.noX_ref u,Bool.or_true]⟩,h.2.2.1,g⟩
  .exact h.elim
section
variable{P:Program}{F0:Nat->Nat->Prop}{w0:W0}{N:Nat}{ops:Array Oper}{K:AB->Prop}{D:QQ}
variable{O:AB}{p q:PR}{rs:List PR}
theorem ve(hR:Nq F0 w0 N O)(hj:JD D O){op:Oper}(hp:Nw P N ops op p=X)(f:Aa1 D p q=X)(h:Fw (AV P) K (p::q::rs) O):Fw (AV P) K (q::p::rs) O:=by
 have key:∃n b v,(q.op=.stb n b v\/∃s,v=.s s/\q.op=.stx n b s)/\q.guard=W/\q.dst=W/\(((((PR.Aai D p=X/\D.contains b=X)/\FW p.dst.toList (b::v.sl)=X)/\FW [b] (p.op.slots++p.gsl)=X)/\FW p.op.dem v.sl=X)/\(∀n s,q.op=.stx n b s->FW [s] p.op.slots=X/\D.contains s=X)):=by
  unfold Aa1 at f;split at f
  .grind
  .rename_i n b s Q ζ hd;simp only[pq]at f;refine⟨n,b,.s s,.inr ⟨s,rfl,Q⟩,ζ,hd,f.1.1,λn' s' h=>?_⟩
   grind
  .cases f
 clear f;obtain⟨n,b,v,Q,ζ,hd,f,hstx⟩:=key
 .simp[PR.Aai,w_]at f;obtain⟨⟨⟨⟨⟨⟨⟨⟨pm,pd⟩,pg⟩,pb⟩,pD⟩,δ⟩,c1⟩,c2⟩,c3⟩:=f;obtain⟨H,hdp⟩:=w?.1 pd;rw[hdp]at c1;simp at c1;have δ:b∈D:=by simpa using δ
  have hpb:H≠b:=λe=>BB c1 (x:=H) V c_;have pnv:H∉v.sl:=λe=>BB c1 (x:=H) V c_;have z:b∉p.op.slots:=λe=>BB c2 (x:=b) V (D4 e);have bng:b∉p.gsl:=λe=>BB c2 (x:=b) V (Eg e);have dv:∀s,s∈p.op.dem->s∈v.sl->False:=λs l j=>BB c3 l j;have pg':p.op.t5=X->p.guard=W:=λhn=>by
   rcases pg with h|h
   .rw[hn]at h;cases h
   .simpa using h
  obtain ⟨y,θ,h⟩:=h;have hR':=hR.congr θ.symm;have A:=hj.congr θ.symm;obtain⟨pc,⟨⟨e1,J,hw⟩,ep,ε,C⟩,hR1⟩:=GU hR' hp (Q6 hdp pm pg' h);have hj1:=C.jd pb A;have Z:∀n,e1.get n=if H=n then ep else ε.on n (y.get n):=λn=>by
   rw [J.1,C.pc,AB.eb,BV.get]
  have R:∀e,ε.on b e=e:=by
   intro e;have:=C.slot;have j:=C.cell;cases ε with
   |none=>rfl|slot s t=>
    simp only[BV.on];rw[ae];intro he;subst he;exact z (Ck (this _ _ rfl))
   |cell s κ t=>
    simp only[BV.on];rw[ae];intro he;subst he;rcases j _ _ _ rfl with B|⟨x,_,G⟩
    .exact z B
    .exact A.no G δ
  have gb:e1.get b=y.get b:=by rw[Z,ae hpb,R]
  obtain ⟨X1,hK,cs,cs',o,Fs⟩:=w3 Q ζ hd hw;have hbox:y.get b=.bx cs:=by rw[<-gb];exact Fs.box
  have hv:v.ev y=v.ev e1:=by
   cases v with
   |c t=>rfl|s m=>
    have hm:H≠m:=λe=>pnv (by simp[AH.sl,e]);simp[AH.ev];have u:=Fs.val;simp[AH.ev]at u;rw[Z,ae hm]at u|-;have l:=C.slot;have j:=C.ok;cases ε with
    |none=>rfl|slot s t=>
     simp only[BV.on];rw[ae (λ(e:s=m)=>dv s (l _ _ rfl) (by simp[AH.sl,e]))]
    |cell s κ t=>
     simp only[BV.on]at u|-;split
     next e=>subst e;obtain⟨ds,B,_⟩:=j;rw[ac rfl,B]at u;exact absurd rfl (u _)
     .rfl
  have k:∀s e,o=Y (s,e)->((∃t,e=.tv t/\y.get s=.ow t)\/(e=.undef/\∃ds,y.get s=.oag ds))/\s≠b/\s∈v.sl/\s≠H:=by
   intro s t ho;obtain⟨l,j,B⟩:=Fs.own s t ho;subst l;simp[AH.ev]at hv;refine⟨?_,B,e_,λe=>pnv (by simp[AH.sl,e])⟩;rw[hv];rcases j with j|⟨j,G,_⟩
   .exact .inl j
   .exact .inr ⟨j,G⟩
  have E:∀s,o=Y (s,.undef)->s∉p.op.slots/\s∈D:=by
   intro s ho;obtain⟨_,j,_⟩:=Fs.own s _ ho;rcases j with⟨t,j,_⟩|⟨_,_,n',G⟩
   .cases j
   .obtain⟨h5,h6⟩:=hstx n' s G;exact⟨λe=>BB h5 V e,by simpa using h6⟩
  have F:∀d s e,o=Y (s,e)->e.noR d=X:=by
   intro d s e ho;rcases(k s e ho).1 with⟨t,rfl,_⟩|⟨rfl,_⟩<;>rfl
  have I:∀s e,o=Y (s,e)->∀ds,y.get s≠.bx ds:=by
   intro s e ho ds h;rcases(k s e ho).1 with⟨t,_,j⟩|⟨_,ds',j⟩<;>rw[j]at h<;>cases h
  have g2:∀n,b≠n->(∀s t,o=Y (s,t)->s≠n)->AB.get (P4 b cs' o y) n=y.get n:=by
   intro n l j;rw[Fv,ae l];cases o with
   |none=>rfl|some st=>
    obtain ⟨s,t⟩:=st;simp only;rw[ae (j s t rfl)]
  have lk:∀n,b≠n->o≠Y (n,.undef)->(y.get n).like (AB.get (P4 b cs' o y) n):=by
   intro n l h0;rw[Fv,ae l];cases o with
   |none=>exact .inl rfl|some st=>
    obtain ⟨s,t⟩:=st;simp only;split
    .rename_i e;subst e;rcases(k s t rfl).1 with⟨t,rfl,B⟩|⟨rfl,_⟩
     .obtain⟨m,es,rfl⟩:=hR'.list B;exact .inr (.inl ⟨m,es,.inr ⟨B,rfl⟩⟩)
     .exact absurd rfl h0
    .exact .inl rfl
  have L:Es p.op ε (Y H) y (P4 b cs' o y):=by
   refine ⟨λs η=>lk s (λe=>z (e▸η)) (λe=>(E s e).1 η),λs η r hb=>lk r (λe=>A.no hb (e▸δ)) (λe=>A.no hb (E r e).2),λs η _=>g2 s (λe=>z (e▸Ck η)) (λs' t ho e=>dv s η (e▸(k s' t ho).2.2.1)),?_,λhn d hd M=>by rw[GY _ _ _ _ _ (F d)];exact M⟩;have l:=C.slot;have j:=C.ok;have B:=R;have G:=C.cell;cases ε with
   |none=>trivial|slot s t=>
    simp [BV.ok]at j|-;rw[g2 s (λe=>z (e▸Ck (l _ _ rfl))) (λs' t ho e=>dv s (l _ _ rfl) (e▸(k s' t ho).2.2.1))];exact j
   |cell s κ t=>
    obtain ⟨ds,h5,h6⟩:=j;refine⟨ds,?_,h6⟩;rw[g2 s (λe=>?_) (λs' t' ho e=>?_)]
    .exact h5
    .rcases G _ _ _ rfl with h7|⟨x,_,h8⟩
     .exact z (e▸h7)
     .exact A.no h8 (e▸δ)
    .exact I s' t' ho _ (e▸h5)
  have hgp:∀g∈p.gsl,AB.get (P4 b cs' o y) g=y.get g:=by
   intro g ζ;obtain⟨bb,hb,_,M,hno'⟩:=UO h g ζ;refine g2 g (λe=>bng (e▸ζ)) (λs t ho e=>?_);rcases(k s t ho).1 with⟨t,_,j⟩|⟨_,ds',j⟩
   .rw[<-e,j]at hb;exact absurd hb.symm (M _)
   .rw[<-e,j]at hb;exact absurd hb.symm (hno' _)
  refine ⟨y,θ,Fs.again y (A _ δ) hbox hv _ ⟨_,.refl _,C.again _ L hgp _ (I0 hK ?_)⟩⟩;rw[Fs.pc];refine⟨λn=>?_,λd=>?_⟩
  .rw[AB.eb,BV.get,Fv,Fv];by_cases l:H=n
   .subst l;rw[ae (λe=>hpb e.symm),ac rfl];cases o with
    |none=>simp only;rw[Z,ac rfl]|some st=>
     obtain ⟨s,t⟩:=st;simp only;rw[ae (k s t rfl).2.2.2,Z,ac rfl]
   .rw[ae l];by_cases j:b=n
    .subst j;rw[ac rfl,ac rfl,R]
    .rw[ae j,ae j];cases o with
     |none=>simp only;rw[Z,ae l]|some st=>
      obtain ⟨s,t⟩:=st;simp only;by_cases B:s=n
      .subst B;rw[ac rfl,ac rfl];have G:=C.slot;have h5:=C.ok;have h6:=(k s t rfl);have h6':=I s t rfl;have h6'':∀ds,t≠.bx ds:=by
        intro ds h;rcases h6.1 with⟨t,rfl,_⟩|⟨rfl,_⟩<;>cases h
       cases ε with
       |none=>rfl|slot s' t'=>
        simp only[BV.on];rw[ae (λ(e:s'=s)=>dv s' (G _ _ rfl) (by rw[e];exact h6.2.2.1))]
       |cell s' κ t'=>
        simp only[BV.on];split
        next e=>subst e;obtain⟨ds,h7,_⟩:=h5;exact absurd h7 (h6' _)
        .rfl
      .rw[ae B,ae B,Z,ae l]
  .rw[GY _ _ _ _ _ (F d),J.2,C.pc,AB.ey,BV.ij,AB.ey,BV.ij,GY _ _ _ _ _ (F d)]
def Abd(D:QQ)(p q:PR):Bool:=
 match q.op,q.guard,q.dst with
 |.tkx s,W,Y d=>PR.Aai D p&&D.contains s&&D.contains d&&FW p.dst.toList [s,d]&&FW [s,d] (p.op.slots++p.gsl)|_,_,_=>T
variable{s d:Nat}
theorem jz{S:FuncId->Fq->A9->Prop}{K:AB->Prop}(c:q.op=.tkx s)(f:q.guard=W)(hd:q.dst=Y d)(h:q.wp S O K):∃n es,O.get s=.xo n es/\O.ij d=X/\d≠s/\K ((d,.xo n es)::(s,.undef)::O):=by
 simp [PR.wp,c,f,hd,AE.wp,AB.put]at h
 grind
variable{n:Nat}
theorem j5{S:FuncId->Fq->A9->Prop}{K:AB->Prop}{es:Fq}(c:q.op=.tkx s)(f:q.guard=W)(hd:q.dst=Y d)(g:O.get s=.xo n es)(j:O.ij d=X)(k:d≠s)(h:K ((d,.xo n es)::(s,.undef)::O)):q.wp S O K:=by
 simp [PR.wp,c,f,hd,AE.wp,AB.put,g];exact⟨j,k,h⟩
theorem ym(hR:Nq F0 w0 N O)(hj:JD D O){op:Oper}(hp:Nw P N ops op p=X)(f:Abd D p q=X)(h:Fw (AV P) K (p::q::rs) O):Fw (AV P) K (q::p::rs) O:=by
 unfold Abd at f;split at f
 .rename_i s d Q hg hd;simp[PR.Aai,w_]at f;obtain⟨⟨⟨⟨⟨⟨⟨⟨pm,pd⟩,pg⟩,pb⟩,pD⟩,H⟩,θ⟩,δ⟩,Z⟩:=f;obtain⟨E,κ⟩:=w?.1 pd;rw[κ]at δ;simp at δ;have H:s∈D:=v_
  have θ:d∈D:=by simpa using θ
  have ε:E≠s:=λe=>BB δ (x:=E) V c_;have hpd:E≠d:=λe=>BB δ (x:=E) V c_;have j:s∉p.op.slots:=λe=>BB Z (x:=s) V (D4 e);have l:d∉p.op.slots:=λe=>BB Z (x:=d) V (D4 e);have sng:s∉p.gsl:=λe=>BB Z (x:=s) V (Eg e);have dng:d∉p.gsl:=λe=>BB Z (x:=d) V (Eg e);have pg':p.op.t5=X->p.guard=W:=λhn=>by
   rcases pg with h|h
   .rw[hn]at h;cases h
   .simpa using h
  obtain ⟨z,F,h⟩:=h;have hR':=hR.congr F.symm;have u:=hj.congr F.symm;obtain⟨pc,⟨⟨e1,v,hw⟩,ep,η,B⟩,hR1⟩:=GU hR' hp (Q6 κ pm pg' h);have g1:∀n,e1.get n=if E=n then ep else η.on n (z.get n):=λn=>by
   rw [v.1,B.pc,AB.eb,BV.get]
  have C:∀x,x∈D->x∉p.op.slots->∀e,η.on x e=e:=by
   intro x hxD R e;have:=B.slot;have k:=B.cell;cases η with
   |none=>rfl|slot s t=>
    simp only[BV.on];rw[ae];intro he;subst he;exact R (Ck (this _ _ rfl))
   |cell s off t=>
    simp only[BV.on];rw[ae];intro he;subst he;rcases k _ _ _ rfl with J|⟨y,_,ζ⟩
    .exact R J
    .exact u.no ζ hxD
  obtain ⟨n,es,k1,k2,k3,hK⟩:=jz Q hg hd hw;rw[g1,ae ε,C s H j]at k1;rw[v.2,B.pc,AB.ey,BV.ij,pq]at k2;have I:∀m,m≠d->m≠s->AB.get ((d,.xo n es)::(s,.undef)::z) m=z.get m:=λm A k=>by
   rw [AB.eb,ae (λe=>A e.symm),AB.eb,ae (λe=>k e.symm)]
  have nr:∀c,AB.ij c ((d,EV.xo n es)::(s,EV.undef)::z)=AB.ij c z:=λc=>by
   simp [AB.ey,EV.noR,EV.ref]
  have L:Es p.op η (Y E) z ((d,.xo n es)::(s,.undef)::z):=by
   refine ⟨λx G=>.inl (I x (λe=>l (e▸G)) (λe=>j (e▸G))),λx G r hr=>.inl (I r (λe=>u.no hr (e▸θ)) (λe=>u.no hr (e▸H))),λx G _=>I x (λe=>l (e▸Ck G)) (λe=>j (e▸Ck G)),?_,λhn d' hd' hno=>by rw[nr];exact hno⟩;have A:=B.slot;have k:=B.ok;have ζ:=B.cell;cases η with
   |none=>trivial|slot x t=>
    simp [BV.ok]at k|-;rw[I x (λe=>l (e▸Ck (A _ _ rfl))) (λe=>j (e▸Ck (A _ _ rfl)))];exact k
   |cell x off t=>
    obtain ⟨ds,h5,h6⟩:=k;refine⟨ds,?_,h6⟩;rw[I x (λe=>?_) (λe=>?_)]
    .exact h5
    .rcases ζ _ _ _ rfl with h7|⟨y,_,h8⟩
     .exact l (e▸h7)
     .exact u.no h8 (e▸θ)
    .rcases ζ _ _ _ rfl with h7|⟨y,_,h8⟩
     .exact j (e▸h7)
     .exact u.no h8 (e▸H)
  have hgp:∀g∈p.gsl,AB.get ((d,.xo n es)::(s,.undef)::z) g=z.get g:=λg M=>I g (λe=>dng (e▸M)) (λe=>sng (e▸M));refine⟨z,F,j5 Q hg hd k1 k2.2 k3 ⟨_,.refl _,B.again _ L hgp _ (I0 hK ?_)⟩⟩;refine⟨λm=>?_,λc=>?_⟩
  .simp[AB.eb,BV.get,g1];by_cases A:d=m
   .subst A;rw[ac rfl,ae hpd,C d θ l,ac rfl]
   .rw[ae A];by_cases k:s=m
    .subst k;rw[ac rfl,ae ε,C s H j,ae A,ac rfl]
    .rw[ae k];by_cases J:E=m
     .rw[ac J,ac J]
     .rw[ae J,ae J,ae A,ae k]
  .simp[AB.ey,BV.ij,v.2,B.pc];have e1:EV.noR c (EV.xo n es)=X:=rfl;have e2:EV.noR c EV.undef=X:=rfl;rw[e1,e2];cases EV.noR c ep<;>rfl
 .cases f
def yN:AE->Bool
 |.xal _=>X|.mv _=>X|.bad _ _=>X|.fad _ _=>X|.ld _=>X|_=>T
def Abf(D:QQ)(p q:PR):Bool:=
 match q.op,q.guard,q.dst,p.guard,p.dst with
 |.xst x v _,W,W,W,Y d=>PR.Aai D p&&yN p.op&&!(x.sl.contains d)&&!(v.sl.contains d)|_,_,_,_,_=>T
variable{i:Option Nat}
theorem QX{q:Nat}{es es':Fq}(h:O.wi q i=Y (n,es)):(∃u,AB.get (O.Aah q i n es') q=u/\((∃m c,O.get q=.xo m c/\∃m' fs',u=.xo m' fs')\/(∃cs k,i=Y k/\cs[k]?=Y ⟨X,.xl n es⟩/\O.get q=.bx cs/\u=.bx (cs.set k ⟨X,.xl n es'⟩))))/\(∀m,q≠m->AB.get (O.Aah q i n es') m=O.get m)/\∀d,AB.ij d (O.Aah q i n es')=O.ij d:=by
 cases i with
 |none=>
  grind [AB.wi,AB.Aah,AB.eb,AB.ey,EV.noR,EV.ref]
 |some k=>
  grind [AB.wi,tl,AB.Aah,AB.eb,AB.ey,EV.noR,EV.ref]
theorem uT(l:List AR)(c:Nat):Hy ((l.drop c).map (·.t))=(l[c]?).map (·.t):=by
 rw [show l[c]?=(l.drop c)[0]? by rw[List.getElem?_drop,Nat.add_zero]];cases l.drop c<;>rfl
variable{t:TV}
theorem rd{ds:List AR}{k c n:Nat}{es es':Fq}(g:t.AaN=T)(h:ds[k]?=Y ⟨X,.xl n es⟩)(f:Hy ((ds.drop c).map (·.t))=Y t):Hy (((ds.set k ⟨X,.xl n es'⟩).drop c).map (·.t))=Y t:=by
 rw [uT]at f|-;by_cases e:k=c
 .subst e;rw[h]at f;simp at f;subst f;cases g
 grind
theorem vO{S:FuncId->Fq->A9->Prop}{op:AE}(ho:yN op=X){dst:Option Nat}{K:EV->AB->Prop}(h:op.wp S O dst K):
  ∃e,K e O/\(∀m J,e≠.xo m J)/\(∀cs,e≠.bx cs)/\∀(q n:Nat)(i:Option Nat)(es es':Fq),O.wi q i=Y (n,es)->∀z:EV->AB->Prop,z e (O.Aah q i n es')->op.wp S (O.Aah q i n es') dst z:=by
 have E:∀{q n:Nat}{i:Option Nat}{es es':Fq},O.wi q i=Y (n,es)->∀m e,O.get m=e->(∀k J,e≠.xo k J)->(∀cs,e≠.bx cs)->AB.get (O.Aah q i n es') m=e:=λ{q n i es es'}g m e v G ε=>by
  obtain ⟨⟨u,M,j⟩,I,_⟩:=QX (es':=es') g
  grind
 have F:∀{q n:Nat}{i:Option Nat}{es es':Fq},O.wi q i=Y (n,es)->∀m cs,O.get m=.bx cs->∃cs',AB.get (O.Aah q i n es') m=.bx cs'/\∀C t,t.AaN=T->Hy ((cs.drop C).map (·.t))=Y t->Hy ((cs'.drop C).map (·.t))=Y t:=λ{q n i es es'}g m cs v=>by
  obtain ⟨⟨u,M,j⟩,I,_⟩:=QX (es':=es') g
  grind [rd]
 have A:∀{q n:Nat}{i:Option Nat}{es es':Fq},O.wi q i=Y (n,es)->∀(x:AH)e,x.ev O=e->(∀m J,e≠.xo m J)->(∀cs,e≠.bx cs)->x.ev (O.Aah q i n es')=e:=by
  intro q n i es es' g x e he v G;cases x with
  |c t=>exact he|s y=>exact E g y e he v G
 cases op with
 |mv x=>
  simp [AE.wp]at h|-;split at h
  next t l=>exact⟨_,h,V,V,λq n i es es' g z f=>k!⟩
  next t l=>exact⟨_,h,V,V,λq n i es es' g z f=>k!⟩
  next t l=>exact⟨_,h,V,V,λq n i es es' g z f=>k!⟩
  .exact h.elim
 |xal s=>
  simp [AE.wp]at h|-;split at h
  .rename_i m J B;refine⟨_,h,V,V,λq n i es es' g z f=>?_⟩;obtain⟨⟨u,M,j⟩,I,_⟩:=QX (es':=es') g;by_cases e:q=s
   .subst e;rcases j with⟨_,_,_,m',fs',rfl⟩|⟨_,_,_,_,θ,_⟩
    .rw[M];exact f
    .rw[B]at θ;cases θ
   .rw[I s e,B];exact f
  .exact h.elim
 |bad s k=>
  simp [AE.wp]at h|-;split at h
  next cs B=>refine⟨_,h,V,V,λq n i es es' g z f=>?_⟩;obtain⟨cs',v,_⟩:=F (es':=es') g s cs B;rw[v];exact f
  next row B=>exact⟨_,h,V,V,λq n i es es' g z f=>by rw[E g s _ B V V];exact f⟩
  .exact h.elim
 |fad x k=>
  simp [AE.wp]at h|-;split at h
  next row l=>exact⟨_,h,V,V,λq n i es es' g z f=>k!⟩
  .rename_i s C l;split at h
   next cs B=>refine⟨_,h,V,V,λq n i es es' g z f=>?_⟩;obtain⟨cs',v,_⟩:=F (es':=es') g s cs B;rw[A g x _ l V V];simp only;rw[v];exact f
   .exact h.elim
  .exact h.elim
 |ld x=>
  simp [AE.wp]at h|-;cases j:BS O (x.ev O)with
  |none=>rw[j]at h;exact h.elim|some cs=>
   rw [j]at h;simp[Ay]at h;cases L:Hy cs with
   |none=>rw[L]at h;exact h.elim|some t=>
    rw [L]at h;obtain⟨Q,h⟩:=h;refine⟨_,h,V,V,λq n i es es' g z f=>?_⟩;have ha:∃cs',BS (O.Aah q i n es') (x.ev (O.Aah q i n es'))=Y cs'/\Hy cs'=Y t:=by
     cases x with
     |c R=>exact⟨cs,by rw[<-j];cases R<;>rfl,L⟩
     |s y=>
      simp [AH.ev]at j|-;cases H:O.get y with
      |bp s C=>
       rw [E g y _ H V V];rw[H]at j;simp only[BS]at j|-;split at j
       next ds B=>cases j;obtain⟨cs',v,G⟩:=F (es':=es') g s ds B;rw[v];exact⟨_,rfl,G _ _ Q L⟩
       .cases j
      |tv R=>
       rw [E g y _ H V V];rw[H]at j;exact⟨cs,by rw[<-j];cases R<;>rfl,L⟩
      |bx ds=>
       rw [H]at j;simp[BS]at j;subst j;obtain⟨cs',v,G⟩:=F (es':=es') g y ds H;rw[v];have:=G 0 t Q (by simpa using L);exact⟨_,rfl,by simpa using this⟩
      |_=>rw[H]at j;cases j
    obtain ⟨cs',v,G⟩:=ha;rw[v];simp[Ay,G];exact⟨Q,f⟩
 |_=>cases ho
variable{e:EV}
theorem bh{O g:AB}{d t n:Nat}{es:Fq}(h:Om g ((d,e)::O))(j:d≠t):Om (g.Aah t i n es) ((d,e)::O.Aah t i n es):=by
 have v:g.get t=O.get t:=by rw[h.1,AB.eb,ae j]
 have f:∀u:EV,(∀c,EV.noR c u=X)->Om ((t,u)::g) ((d,e)::(t,u)::O):=by
  intro u l;refine⟨λm=>?_,λc=>?_⟩
  .rw[AB.eb,h.1,AB.eb,AB.eb,AB.eb]
   grind
  .rw[AB.ey,h.2,AB.ey,AB.ey,AB.ey,l];cases EV.noR c e<;>rfl
 cases i with
 |none=>exact f _ λc=>rfl|some k=>
  simp [AB.Aah,v];split
  .exact f _ λc=>rfl
  .exact h
theorem yq(f:Abf D p q=X)(h:Fw (AV P) K (p::q::rs) O):Fw (AV P) K (q::p::rs) O:=by
 unfold Abf at f;split at f
 .rename_i x v kx d B C hd J L;simp[w_,decide_eq_false_iff_not]at f;obtain⟨⟨⟨_,ho⟩,E⟩,F⟩:=f;obtain⟨A,G,h⟩:=h;simp[PR.wp,J,L,AB.put]at h;obtain⟨e,⟨H,j,l⟩,θ,ε,I⟩:=vO ho h;have z:∀(y:AH),d∉y.sl->y.ev H=y.ev A:=by
   intro y hy;cases y with
   |c t=>rfl|s m=>
    simp [AH.ev,j.1,AB.eb]
    grind [AH.sl]
  refine ⟨A,G,?_⟩;simp[PR.wp,C,hd,B,AE.wp,z x E,z v F]at l|-;split at l
  .rename_i t i c hx;split at l
   .rename_i n es u M Q;obtain⟨κ,η,es',ζ,δ,Z,hK⟩:=l;have g:d≠t:=by
     intro g;have C:H.get t=e:=by rw[j.1,AB.eb,ac g]
     cases i with
     |none=>
      grind [AB.wi]
     |some k=>
      grind [AB.wi]
    have R:A.wi t i=Y (n,es):=by
     have C:H.get t=A.get t:=by rw[j.1,AB.eb,ae g]
     grind [AB.Aaq]
    rw [R,Q];refine⟨κ,η,es',ζ,δ,Z,_,.refl _,?_⟩
    grind [PR.wp,AB.put,I0,bh]
   .exact l.elim
  .exact l.elim
 .cases f
end
end Go.Sf
