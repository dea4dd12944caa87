/- Two operations of a region that may change places. -/
import Derived.Test.YtpagkickoiafkaaGreatSfFrame
set_option linter.all false
open Option renaming some->Y,none->W
open Bool renaming true->X,false->T
open Bool renaming not_eq_true'->l!,and_true->l?
open Option renaming isSome_iff_exists->m_
namespace Go.Sf
open Go.RowKit (Below)
theorem AA.ja(d k:Nat)(e:EV)(O:AA):AA.je d ((k,e)::O)=(e.kx d&&AA.je d O):=rfl
variable{d:Nat}{e:EV}
theorem Od(h:∀s,e.jZ=Y s->s≠d):e.kx d=X:=by grind[EV.kx]
theorem An.je(f:An)(O:AA)(d:Nat):AA.je d (f.app O)=AA.je d O:=by
 cases f with
 |none=>rfl|slot s t=>simp[An.app,AA.ja,EV.kx,EV.jZ]|cell s c t=>
  grind [An.app,AA.ja,EV.kx,EV.jZ]
def An.on(f:An)(n:Nat)(e:EV):EV:=
 match f with
 |.none=>e|.slot s t=>if s=n then .tv t else e|.cell s off t=>if s=n then(match e with|.bx cs=>.bx (cs.set off ⟨T,t⟩)|e=>e)else e
theorem An.get(f:An)(O:AA)(n:Nat):AA.get (f.app O) n=f.on n (O.get n):=by
 cases f with
 |none=>rfl|slot s t=>simp[An.app,AA.gp,An.on]|cell s c t=>
  simp [An.app,An.on]
  grind [AA.gp]
def Hd(O env2:AA):Prop:=(∀n,O.get n=env2.get n)/\∀d,O.je d=env2.je d
theorem Hd.refl(O:AA):Hd O O:=⟨λ_=>rfl,λ_=>rfl⟩
theorem Hd.trans{a b c:AA}(h:Hd a b)(f:Hd b c):Hd a c:=⟨λn=>(h.1 n).trans (f.1 n),λd=>(h.2 d).trans (f.2 d)⟩
variable{a b:AA}
theorem Hd.symm(h:Hd a b):Hd b a:=⟨λn=>(h.1 n).symm,λd=>(h.2 d).symm⟩
def CG(S:FuncId->Fq->AZ->Prop)(K:AA->Prop):List PR->AA->Prop
 |[],O=>∃e,Hd e O/\K e|r::rs,O=>∃e,Hd e O/\r.wp S e (CG S K rs)
section
variable{S:FuncId->Fq->AZ->Prop}{K:AA->Prop}
variable{rs:List PR}
theorem C4{O env2:AA}(h:CG S K rs O)(he:Hd O env2):CG S K rs env2:=by
 cases rs with
 |nil=>obtain⟨e,c,f⟩:=h;exact⟨e,c.trans he,f⟩
 |cons r rs=>obtain⟨e,c,f⟩:=h;exact⟨e,c.trans he,f⟩
theorem WJ:∀{rs:List PR}{O:AA},wpOps S K rs O->CG S K rs O
 |[],O,h=>⟨O,.refl _,h⟩|r::rs,O,h=>⟨O,.refl _,PR.jr S O (λe he=>WJ he) r h⟩
def PR.lf(r:PR):Ne:=
 match r.guard with
 |some (g,_)=>[g]|none=>[]
structure JN(S:FuncId->Fq->AZ->Prop)(r:PR)(d:Nat)(O jq:AA)(e:EV)(f:An):Prop where
 jq:jq=(d,e)::f.app O
 ok:f.ok O
 slot:∀s t,f=.slot s t->s∈r.op.me
 cell:∀s off t,f=.cell s off t->(s∈r.op.slots\/∃x∈r.op.slots,(O.get x).jZ=Y s)
 jZ:∀s,e.jZ=Y s->(s∈r.op.lG\/∃x∈r.op.slots,(O.get x).jZ=Y s)
 new:r.op.jY=X->e.jZ=W/\O.je d=X
 xl:∀s off t,f=.cell s off t->t.kR=T
 again:∀env2,CO r.op f (Y d) O env2->(∀g∈r.lf,env2.get g=O.get g)->∀K2:AA->Prop,K2 ((d,e)::f.app env2)->r.wp S env2 K2
variable{r:PR}{d:Nat}{O:AA}
theorem JR(hd:r.dst=Y d)(B:r.op.mov=X)(H:r.op.jY=X->r.guard=W)(h:r.wp S O K):r.wp S O λjq=>K jq/\∃e f,JN S r d O jq e f:=by
 have A:∀(m:∀env2,(∀g∈r.lf,env2.get g=O.get g)->∀u:AA->Prop,(r.op.wp S env2 (Y d) λe env'=>u (env'.put (Y d) e))->r.wp S env2 u),(r.op.wp S O (Y d) λe env'=>K (env'.put (Y d) e))->r.op.wp S O (Y d) λe env'=>K (env'.put (Y d) e)/\∃C f,JN S r d O (env'.put (Y d) e) C f:=by
  intro m F;refine AB.jr S O (Y d) (λe env' he=>?_) r.op (frame B F);obtain⟨G,f,c⟩:=he;refine⟨G,e,f,?_,c.ok,c.slot,c.cell,c.jZ,λv=>⟨(c.new v).1,(c.new v).2 d rfl⟩,c.xl,λenv2 E k u j=>?_⟩
  .simp[AA.put];rw[c.env']
  .exact m env2 k u (c.again env2 E _ j)
 unfold PR.wp at h|-;cases l:r.guard with
 |none=>
  grind [PR.wp]
 |some gb=>
  obtain ⟨g,b⟩:=gb;rw[l]at h;rw[hd]at h|-;simp only at h|-;have k:g∈r.lf:=by simp[PR.lf,l]
  split at h
  .rename_i q z;refine⟨λw=>A (λenv2 c u j=>?_) (h.1 w),λw=>⟨h.2 w,.sk,.none,rfl,trivial,V,V,(λs he=>g!),λv=>?_,V,λenv2 _ c u j=>?_⟩⟩
   .grind[PR.wp]
   .grind
   .unfold PR.wp;rw[l,hd];simp only;rw[c g k,z];exact⟨λy=>by subst y;cases q<;>simp at w,λ_=>j⟩
  .rename_i z;refine⟨h,.sk,.none,rfl,trivial,V,V,(λs he=>g!),λv=>?_,V,λenv2 _ c u j=>?_⟩
   .grind
   .unfold PR.wp;rw[l,hd];simp only;rw[c g k,z];exact j
  .exact h.elim
end
section
variable{P:Program}{F0:Nat->Nat->Prop}{w0:W0}{N:Nat}{ops:Array Oper}{K:AA->Prop}
def GI(F0:Nat->Nat->Prop)(w0:W0)(N:Nat)(O:AA):Prop:=∃a w,a.tmps.size=N/\BF F0 w0 O a w
theorem GI.congr{O env2:AA}(h:GI F0 w0 N O)(he:Hd O env2):GI F0 w0 N env2:=by
 obtain ⟨a,w,c,f⟩:=h;exact⟨a,w,c,f.congr he.1⟩
variable{O:AA}{s:Nat}{t:TV}
theorem GI.list(h:GI F0 w0 N O)(c:O.get s=.ow t):∃n es,t=.list n es:=by
 obtain ⟨a,w,_,G,f⟩:=h;have:=AR f c V;simp[AH]at this;cases t<;>simp[BA]at this;exact⟨_,_,rfl⟩
variable{o:Oper}
theorem U6{a:Act}{w:World}{ζ:Prop}(h:o.wp P a w (λ_ _=>ζ) (λ_ _ _=>False)):ζ:=by
 unfold Oper.wp at h;generalize (execOp a.eval o).run P w=r at h;cases r with
 |ok n w'=>
  cases n with
  |value v=>exact h|skip=>exact h|defer d=>exact h|enter f args=>
   rw [Oper.upon_enter]at h;obtain⟨e,j,fr,g,_⟩:=h [];cases e with
   |returned v=>exact g|panicked c=>exact g.elim|outgrown=>obtain⟨_,_,k⟩:=g;exact k.elim
  |row r args=>
   rw [Oper.upon_row]at h;obtain⟨v,j,g,_⟩:=h default [];exact g
  |_=>exact h.elim
 |halt x w'=>
  cases x<;>exact h.elim
variable{r:PR}
theorem CR(f:GI F0 w0 N O)(c:GN P N ops o r=X)(h:r.wp (AO P) O K):∃env',K env'/\GI F0 w0 N env':=by
 obtain ⟨a,w,l,m⟩:=f;have:=Py (p:=W) (next:=λ_ _=>∃env',K env'/\GI F0 w0 N env') (Q:=λ_ _ _=>False) m ⟨l,V⟩ V c h λenv' a' w' g j k=>⟨env',g,a',w',j.size,k⟩;split at this
 .exact U6 this
 .exact this
end
def Cb(xs ys:Ne):Bool:=xs.all λx=>!ys.contains x
variable{x:Nat}
theorem Ah{xs c:Ne}(h:Cb xs c=X)(f:x∈xs)(g:x∈c):False:=by grind[Cb,List.all_eq_true,l!]
def PR.old(r:PR):Ne:=
 if r.op.jY then[]else r.dst.toList
def PR.km(D:Ne)(r:PR):Bool:=
 r.op.mov&&r.dst.isSome&&(!r.op.jY||r.guard.isNone)&&Cb r.op.lG D&&r.old.all D.contains
def Qe(D:Ne)(p q:PR):Bool:=
 PR.km D p&&PR.km D q&&Cb p.dst.toList (q.dst.toList++(q.op.slots++q.lf))&&Cb q.dst.toList (p.op.slots++p.lf)&&Cb p.op.me (q.op.me++q.lf)&&Cb q.op.me p.lf
variable{s:Nat}
theorem BW{op:AB}(h:s∈op.me):s∈op.slots:=by
 cases op<;>simp only[AB.me,List.not_mem_nil]at h<;>simp only[AB.slots]
 .exact h
 .exact Bk h
theorem UF{op:AB}(h:s∈op.lG):s∈op.slots:=by
 cases op<;>simp[AB.lG]at h<;>simp[AB.slots]
 all_goals exact h
def JD(D:Ne)(O:AA):Prop:=∀d∈D,O.je d=X
theorem JD.congr{D:Ne}{O env2:AA}(h:JD D O)(he:Hd O env2):JD D env2:=λd hd=>by rw[<-he.2];exact h d hd
variable{O:AA}
theorem JD.no{D:Ne}(h:JD D O)(c:(O.get x).jZ=Y s):s∉D:=λhd=>AA.jX s O (h s hd) x c
section
variable{S:FuncId->Fq->AZ->Prop}
variable{r:PR}{d:Nat}{e:EV}
theorem JN.jd{D:Ne}{O jq:AA}{f:An}(h:JN S r d O jq e f)(k:Cb r.op.lG D=X)(j:JD D O):JD D jq:=by
 intro x g;rw[h.jq,AA.ja,An.je,j x g,l?];refine Od (λs he c=>?_);subst c;rcases h.jZ s he with l|⟨y,_,m⟩
 .exact Ah k l g
 .exact j.no m g
variable{O:AA}
theorem An.like(f:An)(c:f.ok O)(h:∀s t,O.get s=.ow t->∃n es,t=.list n es)(k:∀s g t,f=.cell s g t->t.kR=T)(n:Nat):(O.get n).like (f.on n (O.get n)):=by
 cases f with
 |none=>exact .inl rfl|slot s t=>
  simp [An.on];split
  next e=>subst e;simp[An.ok]at c;obtain⟨m,es,rfl⟩:=h s t c;exact .inr (.inl ⟨m,es,.inr ⟨c,rfl⟩⟩)
  .exact .inl rfl
 |cell s g t=>
  simp [An.on];split
  .rename_i e;subst e;obtain⟨cs,j,l⟩:=c;rw[j];refine .inr (.inr ⟨cs,_,rfl,rfl,?_⟩);rw[List.map_set];refine List.ext_getElem? λi=>?_
   grind [ec,List.getElem?_eq_some_iff,AI.key]
  .exact .inl rfl
end
variable{r:PR}{O:AA}
theorem Mq{S:FuncId->Fq->AZ->Prop}{K:AA->Prop}(h:r.wp S O K):∀g∈r.lf,∃b,O.get g=b/\(∀cs,b≠.bx cs)/\(∀t,b≠.ow t)/\∀cs,b≠.kC cs:=by grind[PR.lf,PR.wp,List.mem_singleton]
section
variable{P:Program}{F0:Nat->Nat->Prop}{w0:W0}{N:Nat}{ops:Array Oper}{K:AA->Prop}{D:Ne}
variable{O:AA}{p q:PR}{rs:List PR}
theorem swap(hR:GI F0 w0 N O)(hj:JD D O){op oq:Oper}(hp:GN P N ops op p=X)(hq:GN P N ops oq q=X)(θ:Qe D p q=X)(h:CG (AO P) K (p::q::rs) O):CG (AO P) K (q::p::rs) O:=by
 simp [Qe,PR.km,l!]at θ;obtain⟨⟨⟨⟨⟨⟨⟨⟨⟨pm,pd⟩,pg⟩,pb⟩,pD⟩,⟨⟨⟨qm,qd⟩,qg⟩,qb⟩,qD⟩,c1⟩,c2⟩,c3⟩,c4⟩:=θ;obtain⟨F,hdp⟩:=m_.1 pd;obtain⟨C,hdq⟩:=m_.1 qd;rw[hdp]at c1;rw[hdq]at c1 c2;simp at c1 c2;have hpq:F≠C:=λe=>Ah c1 (x:=F) V c_;have H:F∉q.op.slots:=λe=>Ah c1 (x:=F) V c_;have pngq:F∉q.lf:=λe=>Ah c1 (x:=F) V c_;have Q:C∉p.op.slots:=λe=>Ah c2 (x:=C) V c_;have qngp:C∉p.lf:=λe=>Ah c2 (x:=C) V c_;have dd:∀s,s∈p.op.me->s∈q.op.me->False:=λs c m=>Ah c3 c (Bk m);have dg1:∀s,s∈p.op.me->s∈q.lf->False:=λs c m=>Ah c3 c (B0 m);have dg2:∀s,s∈q.op.me->s∈p.lf->False:=λs c m=>Ah c4 c m;have oldp:p.op.jY=X\/F∈D:=by
  cases E:p.op.jY with
  |true=>exact .inl rfl|false=>exact .inr (by simpa[PR.old,E,hdp]using pD)
 have oldq:q.op.jY=X\/C∈D:=by
  cases E:q.op.jY with
  |true=>exact .inl rfl|false=>exact .inr (by simpa[PR.old,E,hdq]using qD)
 have pg':p.op.jY=X->p.guard=W:=λE=>by
  rcases pg with h|h
  .rw[E]at h;cases h
  .simpa using h
 have qg':q.op.jY=X->q.guard=W:=λE=>by
  rcases qg with h|h
  .rw[E]at h;cases h
  .simpa using h
 obtain ⟨L,heq,h⟩:=h;have hR':=hR.congr heq.symm;have hj':=hj.congr heq.symm;obtain⟨jq,⟨⟨J,B,hw⟩,ep,R,z⟩,hR1⟩:=CR hR' hp (JR hdp pm pg' h);have hRe1:=hR1.congr B.symm;have hj1:=z.jd pb hj';have hje1:=hj1.congr B.symm;obtain⟨X1,⟨hK,eq,G,M⟩,_⟩:=CR hRe1 hq (JR hdq qm qg' hw);have δ:∀n,J.get n=if F=n then ep else R.on n (L.get n):=λn=>by
  rw [B.1,z.jq,AA.gp,An.get]
 have ε:∀x s,(J.get x).jZ=Y s->s≠F:=by
  intro x s hx A;subst A;rcases oldp with E|hd
  .refine AA.jX s J ?_ x hx;rw[B.2,z.jq,AA.ja,An.je,(z.new E).2,l?];exact Od (λs he _=>by rw[(z.new E).1]at he;cases he)
  .exact hje1.no hx hd
 have nq':∀x s,(L.get x).jZ=Y s->s≠C:=by
  intro x s hx A;subst A;rcases oldq with E|hd
  .have c:=(M.new E).2;rw[B.2,z.jq,AA.ja,An.je,jP]at c;exact AA.jX s L c.2 x hx
  .exact hj'.no hx hd
 have lk:∀n,n≠F->(J.get n).like (L.get n):=by
  intro n E;rw[δ,az (λe=>E e.symm)];exact(An.like R z.ok (λs t A=>hR'.list A) z.xl n).symm
 have fpdq:∀e,R.on C e=e:=by
  intro e;have:=z.slot;have m:=z.cell;cases R with
  |none=>rfl|slot s t=>
   simp only[An.on];rw[az];intro he;subst he;exact Q (BW (this _ _ rfl))
  |cell s j t=>
   simp only[An.on];rw[az];intro he;subst he;rcases m _ _ _ rfl with u|⟨x,_,I⟩
   .exact Q u
   .exact nq' x _ I rfl
 have κ:∀e,G.on F e=e:=by
  intro e;have:=M.slot;have m:=M.cell;cases G with
  |none=>rfl|slot s t=>
   simp only[An.on];rw[az];intro he;subst he;exact H (BW (this _ _ rfl))
  |cell s j t=>
   simp only[An.on];rw[az];intro he;subst he;rcases m _ _ _ rfl with u|⟨x,_,I⟩
   .exact H u
   .exact ε x _ I rfl
 have w:G.ok L:=by
  have k:=M.ok;have hsl:=M.slot;have hc:=κ;cases G with
  |none=>trivial|slot s t=>
   simp [An.ok]at k|-;have A:=hsl s t rfl;have f:F≠s:=λe=>H (e▸BW A);rw[δ,az f]at k;have c:=z.slot;have m:=z.ok;cases R with
   |none=>exact k|slot l y=>
    simp [An.on]at k;rw[az (λ(e:l=s)=>dd l (c _ _ rfl) (by rw[e];exact A))]at k;exact k
   |cell l j y=>
    simp [An.on]at k;split at k
    next e=>subst e;obtain⟨cs,u,_⟩:=m;rw[u]at k;cases k
    .exact k
  |cell s j t=>
   obtain ⟨cs,c,m⟩:=k;have f:F≠s:=λe=>by
    have:=hc (.bx [⟨X,.undef⟩,⟨X,.undef⟩]);rcases M.cell s j t rfl with u|⟨x,_,I⟩
    .exact H (e▸u)
    .exact ε x s I e.symm
   rw [δ,az f]at c;have u:=z.ok;cases R with
   |none=>exact⟨cs,c,m⟩|slot l y=>
    simp [An.on]at c;split at c
    .cases c
    .exact⟨cs,c,m⟩
   |cell l v y=>
    simp [An.on]at c;split at c
    .rename_i e;subst e;obtain⟨cs',I,h5⟩:=u;rw[I]at c;simp[EV.bx.injEq]at c;subst c;rw[List.getElem?_set]at m;split at m
     .split at m
      .simp at m
      .cases m
     .exact⟨cs',I,m⟩
    .exact⟨cs,c,m⟩
 have L1:CO q.op G (Y C) J L:=by
  refine ⟨λs A=>lk s (λe=>H (e▸A)),λs A r hb=>lk r (ε s r hb),λs A hnb=>?_,w,λE d hd ζ=>?_⟩
  .have f:F≠s:=λe=>H (e▸BW A);rw[δ,az f];have c:=z.slot;have m:=z.ok;cases R with
   |none=>rfl|slot l y=>
    simp only[An.on];rw[az (λ(e:l=s)=>dd l (c _ _ rfl) (by rw[e];exact A))]
   |cell l j y=>
    simp only[An.on];split
    next e=>subst e;obtain⟨cs,u,_⟩:=m;exfalso;refine hnb (cs.set j ⟨T,y⟩) ?_;rw[δ,az f];simp[An.on,u]
    .rfl
  .rw[B.2,z.jq,AA.ja,An.je,jP]at ζ;exact ζ.2
 have hgq:∀g∈q.lf,L.get g=J.get g:=by
  intro g hg;have f:F≠g:=λe=>pngq (e▸hg);obtain⟨b,hb,hnx,_⟩:=Mq hw g hg;have η:=hb;rw[δ,az f]at η;rw[δ,az f];have c:=z.slot;have m:=z.ok;cases R with
  |none=>rfl|slot l y=>
   simp only[An.on];rw[az (λ(e:l=g)=>dg1 l (c _ _ rfl) (by rw[e];exact hg))]
  |cell l j y=>
   simp only[An.on]at η|-;split
   next e=>subst e;obtain⟨cs,u,_⟩:=m;rw[u]at η;simp at η;exact absurd η.symm (hnx _)
   .rfl
 have hgp:∀g∈p.lf,AA.get ((C,eq)::G.app L) g=L.get g:=by
  intro g hg;have f:C≠g:=λe=>qngp (e▸hg);obtain⟨b,hb,hnx,_⟩:=Mq h g hg;rw[AA.gp,az f,An.get];have c:=M.slot;cases G with
  |none=>rfl|slot l y=>
   simp only[An.on];rw[az (λ(e:l=g)=>dg2 l (c _ _ rfl) (by rw[e];exact hg))]
  |cell l j y=>
   simp only[An.on];split
   next e=>subst e;obtain⟨cs,u,_⟩:=w;rw[u]at hb;exact absurd hb.symm (hnx _)
   .rfl
 have offs:∀s j t v y,R=.cell s j t->G=.cell s v y->j≠v:=by
  intro s j t v y c m ho;subst ho;have u:=M.ok;have I:=z.ok;have h5:=κ;rw[c]at I;rw[m]at u;obtain⟨cs,h6,h7⟩:=I;obtain⟨ds,h8,h9⟩:=u;have f:F≠s:=λe=>by
   rcases M.cell s j y m with u|⟨x,_,I⟩
   .exact H (e▸u)
   .exact ε x s I e.symm
  rw [δ,az f,c]at h8;simp[An.on,h6,EV.bx.injEq]at h8;subst h8;rw[List.getElem?_set,ae rfl]at h9;split at h9
  .simp at h9
  .cases h9
 have g2:∀n,AA.get ((C,eq)::G.app L) n=if C=n then eq else G.on n (L.get n):=λn=>by
  rw [AA.gp,An.get]
 have lk2:∀n,n≠C->(L.get n).like (AA.get ((C,eq)::G.app L) n):=by
  intro n E;rw[g2,az (λe=>E e.symm)];exact An.like G w (λs t A=>hR'.list A) M.xl n
 have L2:CO p.op R (Y F) L ((C,eq)::G.app L):=by
  refine ⟨λs A=>lk2 s (λe=>Q (e▸A)),λs A r hb=>lk2 r (nq' s r hb),λs A hnb=>?_,?_,λE d hd ζ=>?_⟩
  .have f:C≠s:=λe=>Q (e▸BW A);rw[g2,az f];have c:=M.slot;cases G with
   |none=>rfl|slot l y=>
    simp only[An.on];rw[az (λ(e:l=s)=>dd l (by rw[e];exact A) (c _ _ rfl))]
   |cell l j y=>
    simp only[An.on];split
    next e=>subst e;obtain⟨cs,u,_⟩:=w;exact absurd u (hnb cs)
    .rfl
  .have k:=z.ok;have hsl:=z.slot;have hcl:=z.cell;cases R with
   |none=>trivial|slot s t=>
    simp [An.ok]at k|-;have A:=hsl s t rfl;have f:C≠s:=λe=>Q (e▸BW A);rw[g2,az f];have c:=M.slot;cases G with
    |none=>exact k|slot l y=>
     simp [An.on];rw[az (λ(e:l=s)=>dd l (by rw[e];exact A) (c _ _ rfl))];exact k
    |cell l j y=>
     simp [An.on];split
     next e=>subst e;obtain⟨cs,u,_⟩:=w;rw[u]at k;cases k
     .exact k
   |cell s j t=>
    obtain ⟨cs,c,m⟩:=k;have f:C≠s:=λe=>by
     rcases hcl s j t rfl with u|⟨x,_,I⟩
     .exact Q (e▸u)
     .exact nq' x s I e.symm
    simp [An.ok];rw[g2,az f];have u:=w;cases G with
    |none=>exact⟨cs,c,m⟩|slot l y=>
     simp [An.on];split
     next e=>subst e;simp[An.ok]at u;rw[u]at c;cases c
     .exact⟨cs,c,m⟩
    |cell l v y=>
     simp [An.on];split
     next e=>subst e;rw[c];have:=offs l j t v y rfl rfl;refine⟨_,rfl,?_⟩;rw[List.getElem?_set,az (λe=>this e.symm)];exact m
     .exact⟨cs,c,m⟩
  .simp at hd;subst hd;rw[AA.ja,An.je,ζ,l?];refine Od (λs he=>?_);rcases M.jZ s he with c|⟨x,_,m⟩
   .exact λe=>H (e▸UF c)
   .exact ε x s m
 refine ⟨L,heq,M.again L L1 hgq _ ⟨_,.refl _,z.again _ L2 hgp _ (C4 hK ?_)⟩⟩;rw[M.jq];refine⟨λn=>?_,λd=>?_⟩
 .rw[AA.gp,An.get,δ,AA.gp,An.get,g2];by_cases c:C=n
  .subst c;rw[ae rfl,az hpq,ae rfl,fpdq]
  .rw[az c,az c];by_cases m:F=n
   .subst m;rw[ae rfl,ae rfl,κ]
   .rw[az m,az m];have u:=z.ok;have I:=z.slot;have h5:=M.slot;cases R with
    |none=>rfl|slot s t=>
     cases G with
     |none=>rfl|slot l y=>
      have f:s≠l:=λe=>dd s (I _ _ rfl) (e▸h5 _ _ rfl);simp[An.on];by_cases J:s=n<;>by_cases Z:l=n<;>simp[J,Z];exact absurd (J.trans Z.symm) f
     |cell l v y=>
      have f:s≠l:=λe=>by
       obtain ⟨cs,h6,_⟩:=w;simp[An.ok]at u;rw[<-e,u]at h6;cases h6
      simp [An.on];by_cases J:s=n<;>by_cases Z:l=n<;>simp[J,Z]
    |cell s j t=>
     cases G with
     |none=>rfl|slot l y=>
      have f:s≠l:=λe=>by
       obtain ⟨cs,h6,_⟩:=u;simp[An.ok]at w;rw[e,w]at h6;cases h6
      simp [An.on];by_cases J:s=n<;>by_cases Z:l=n<;>simp[J,Z]
     |cell l v y=>
      obtain ⟨cs,h6,_⟩:=u;simp[An.on];by_cases J:s=n
      .by_cases Z:l=n
       .subst J;subst Z;have:=offs l j t v y rfl rfl;simp[h6];rw[List.set_comm _ _ this]
       .simp[J,Z]
      .simp[J]
 .rw[AA.ja,An.je,B.2,z.jq,AA.ja,An.je,AA.ja,An.je,AA.ja,An.je];cases EV.kx d eq<;>cases EV.kx d ep<;>rfl
end
end Go.Sf
namespace Go.Sf
open Go.RowKit (Below)
def lm(D:Ne)(p q:PR):Bool:=
 match q.op,q.guard,q.dst with
 |.mh _ b v,W,W=>PR.km D p&&D.contains b&&Cb p.dst.toList (b::v.sl)&&Cb [b] (p.op.slots++p.lf)&&Cb p.op.me v.sl|.stx _ b s,W,W=>PR.km D p&&D.contains b&&Cb p.dst.toList (b::[s])&&Cb [b] (p.op.slots++p.lf)&&Cb p.op.me [s]&&Cb [s] p.op.slots&&D.contains s|_,_,_=>T
def If(b:Nat)(cs:List AI)(q:Option (Nat×EV))(O:AA):AA:=
 (b,.bx cs)::(match q with|some (s,t)=>(s,t)::O|none=>O)
theorem Cg(b:Nat)(cs:List AI)(q:Option (Nat×EV))(O:AA)(n:Nat):AA.get (If b cs q O) n=if b=n then .bx cs else(match q with|some (s,t)=>if s=n then t else O.get n|none=>O.get n):=by
 cases q with
 |none=>rfl|some st=>rfl
theorem Cz(b:Nat)(cs:List AI)(q:Option (Nat×EV))(O:AA)(d:Nat)(h:∀s e,q=Y (s,e)->e.kx d=X):AA.je d (If b cs q O)=AA.je d O:=by
 cases q with
 |none=>simp[If,AA.ja,EV.kx,EV.jZ]|some p=>
  obtain ⟨s,e⟩:=p;have c:=h s e rfl;simp[If,AA.ja,c];simp[EV.kx,EV.jZ]
structure ZR(S:FuncId->Fq->AZ->Prop)(q:PR)(b:Nat)(v:AC)(O jq:AA)(cs cs':List AI)(o:Option (Nat×EV)):Prop where
 jq:jq=If b cs' o O
 box:O.get b=.bx cs
 own:∀s e,o=Y (s,e)->v=.s s/\((∃t,e=.tv t/\O.get s=.ow t)\/(e=.undef/\(∃ds,O.get s=.kC ds)/\∃n,q.op=.stx n b s))/\s≠b
 val:∀cs,v.ev O≠.bx cs
 again:∀env2,env2.je b=X->env2.get b=.bx cs->v.ev env2=v.ev O->∀K2:AA->Prop,K2 (If b cs' o env2)->q.wp S env2 K2
variable{q:PR}{O:AA}
theorem aF{S:FuncId->Fq->AZ->Prop}{K:AA->Prop}{n b:Nat}{v:AC}(f:q.op=.mh n b v\/∃s,v=.s s/\q.op=.stx n b s)(k:q.guard=W)(hd:q.dst=W)(h:q.wp S O K):∃jq,K jq/\∃cs cs' o,ZR S q b v O jq cs cs' o:=by
 rcases f with f|⟨s,rfl,f⟩
 .unfold PR.wp at h;rw[k,f,hd]at h;simp only[AB.wp]at h;split at h
  .rename_i cs m;split at h
   .rename_i t hv;cases v with
    |c t=>exact h.elim|s y=>
     simp only at h;simp[AC.ev]at hv;refine⟨_,h.2.2.2,cs,_,Y (y,.tv t),rfl,m,?_,?_,λenv2 u l j w g=>?_⟩
     .grind
     .grind[AC.ev]
     .simp[AC.ev]at j;unfold PR.wp;rw[k,f,hd];simp[AB.wp,l,AC.ev,j,hv];exact⟨h.1,h.2.1,h.2.2.1,g⟩
   next t hv=>refine⟨_,h.2.2,cs,_,W,rfl,m,V,by simp[hv],λenv2 u l j w g=>?_⟩;unfold PR.wp;rw[k,f,hd];simp only[AB.wp,l,j,hv];exact⟨h.1,h.2.1,g⟩
   .exact h.elim
  .exact h.elim
 .unfold PR.wp at h;rw[k,f,hd]at h;simp only[AB.wp]at h;split at h
  .rename_i cs ds m hv;refine⟨_,h.2.2.2,cs,_,Y (s,.undef),rfl,m,?_,by simp[AC.ev,hv],λenv2 u l j w g=>?_⟩
   .grind
   .simp[AC.ev]at j;unfold PR.wp;rw[k,f,hd];simp only[AB.wp,l,j,hv];exact⟨h.1,⟨h.2.1.1,by rw[AA.noX_ref u,Bool.or_true]⟩,h.2.2.1,g⟩
  .exact h.elim
section
variable{P:Program}{F0:Nat->Nat->Prop}{w0:W0}{N:Nat}{ops:Array Oper}{K:AA->Prop}{D:Ne}
variable{O:AA}{p q:PR}{rs:List PR}
theorem ZH(hR:GI F0 w0 N O)(hj:JD D O){op:Oper}(hp:GN P N ops op p=X)(f:lm D p q=X)(h:CG (AO P) K (p::q::rs) O):CG (AO P) K (q::p::rs) O:=by
 have key:∃n b v,(q.op=.mh n b v\/∃s,v=.s s/\q.op=.stx n b s)/\q.guard=W/\q.dst=W/\(((((PR.km D p=X/\D.contains b=X)/\Cb p.dst.toList (b::v.sl)=X)/\Cb [b] (p.op.slots++p.lf)=X)/\Cb p.op.me v.sl=X)/\(∀n s,q.op=.stx n b s->Cb [s] p.op.slots=X/\D.contains s=X)):=by
  unfold lm at f;split at f
  .grind
  .rename_i n b s R δ hd;simp only[jP]at f;refine⟨n,b,.s s,.inr ⟨s,rfl,R⟩,δ,hd,f.1.1,λn' F h=>?_⟩
   grind
  .cases f
 clear f;obtain⟨n,b,v,R,δ,hd,f,hstx⟩:=key
 .simp[PR.km,l!]at f;obtain⟨⟨⟨⟨⟨⟨⟨⟨pm,pd⟩,pg⟩,pb⟩,pD⟩,Z⟩,c1⟩,c2⟩,c3⟩:=f;obtain⟨H,hdp⟩:=m_.1 pd;rw[hdp]at c1;simp at c1;have Z:b∈D:=by simpa using Z
  have hpb:H≠b:=λe=>Ah c1 (x:=H) V c_;have pnv:H∉v.sl:=λe=>Ah c1 (x:=H) V c_;have y:b∉p.op.slots:=λe=>Ah c2 (x:=b) V (Bk e);have bng:b∉p.lf:=λe=>Ah c2 (x:=b) V (B0 e);have dv:∀s,s∈p.op.me->s∈v.sl->False:=λs l j=>Ah c3 l j;have pg':p.op.jY=X->p.guard=W:=λhn=>by
   rcases pg with h|h
   .rw[hn]at h;cases h
   .simpa using h
  obtain ⟨w,ε,h⟩:=h;have hR':=hR.congr ε.symm;have z:=hj.congr ε.symm;obtain⟨jq,⟨⟨e1,J,hw⟩,ep,κ,B⟩,hR1⟩:=CR hR' hp (JR hdp pm pg' h);have hj1:=B.jd pb z;have g1:∀n,e1.get n=if H=n then ep else κ.on n (w.get n):=λn=>by
   rw [J.1,B.jq,AA.gp,An.get]
  have θ:∀e,κ.on b e=e:=by
   intro e;have:=B.slot;have j:=B.cell;cases κ with
   |none=>rfl|slot s t=>
    simp only[An.on];rw[az];intro he;subst he;exact y (BW (this _ _ rfl))
   |cell s η t=>
    simp only[An.on];rw[az];intro he;subst he;rcases j _ _ _ rfl with A|⟨x,_,G⟩
    .exact y A
    .exact z.no G Z
  have gb:e1.get b=w.get b:=by rw[g1,az hpb,θ]
  obtain ⟨X1,hK,cs,cs',o,Fs⟩:=aF R δ hd hw;have hbox:w.get b=.bx cs:=by rw[<-gb];exact Fs.box
  have hv:v.ev w=v.ev e1:=by
   cases v with
   |c t=>rfl|s m=>
    have hm:H≠m:=λe=>pnv (by simp[AC.sl,e]);simp[AC.ev];have u:=Fs.val;simp[AC.ev]at u;rw[g1,az hm]at u|-;have l:=B.slot;have j:=B.ok;cases κ with
    |none=>rfl|slot s t=>
     simp only[An.on];rw[az (λ(e:s=m)=>dv s (l _ _ rfl) (by simp[AC.sl,e]))]
    |cell s η t=>
     simp only[An.on]at u|-;split
     next e=>subst e;obtain⟨ds,A,_⟩:=j;rw[ae rfl,A]at u;exact absurd rfl (u _)
     .rfl
  have k:∀s e,o=Y (s,e)->((∃t,e=.tv t/\w.get s=.ow t)\/(e=.undef/\∃ds,w.get s=.kC ds))/\s≠b/\s∈v.sl/\s≠H:=by
   intro s t ho;obtain⟨l,j,A⟩:=Fs.own s t ho;subst l;simp[AC.ev]at hv;refine⟨?_,A,a!,λe=>pnv (by simp[AC.sl,e])⟩;rw[hv];rcases j with j|⟨j,G,_⟩
   .exact .inl j
   .exact .inr ⟨j,G⟩
  have C:∀s,o=Y (s,.undef)->s∉p.op.slots/\s∈D:=by
   intro s ho;obtain⟨_,j,_⟩:=Fs.own s _ ho;rcases j with⟨t,j,_⟩|⟨_,_,n',G⟩
   .cases j
   .obtain⟨h5,h6⟩:=hstx n' s G;exact⟨λe=>Ah h5 V e,by simpa using h6⟩
  have E:∀d s e,o=Y (s,e)->e.kx d=X:=by
   intro d s e ho;rcases(k s e ho).1 with⟨t,rfl,_⟩|⟨rfl,_⟩<;>rfl
  have I:∀s e,o=Y (s,e)->∀ds,w.get s≠.bx ds:=by
   intro s e ho ds h;rcases(k s e ho).1 with⟨t,_,j⟩|⟨_,ds',j⟩<;>rw[j]at h<;>cases h
  have g2:∀n,b≠n->(∀s t,o=Y (s,t)->s≠n)->AA.get (If b cs' o w) n=w.get n:=by
   intro n l j;rw[Cg,az l];cases o with
   |none=>rfl|some st=>
    obtain ⟨s,t⟩:=st;simp only;rw[az (j s t rfl)]
  have lk:∀n,b≠n->o≠Y (n,.undef)->(w.get n).like (AA.get (If b cs' o w) n):=by
   intro n l h0;rw[Cg,az l];cases o with
   |none=>exact .inl rfl|some st=>
    obtain ⟨s,t⟩:=st;simp only;split
    .rename_i e;subst e;rcases(k s t rfl).1 with⟨t,rfl,A⟩|⟨rfl,_⟩
     .obtain⟨m,es,rfl⟩:=hR'.list A;exact .inr (.inl ⟨m,es,.inr ⟨A,rfl⟩⟩)
     .exact absurd rfl h0
    .exact .inl rfl
  have L:CO p.op κ (Y H) w (If b cs' o w):=by
   refine ⟨λs ζ=>lk s (λe=>y (e▸ζ)) (λe=>(C s e).1 ζ),λs ζ r M=>lk r (λe=>z.no M (e▸Z)) (λe=>z.no M (C r e).2),λs ζ _=>g2 s (λe=>y (e▸BW ζ)) (λF t ho e=>dv s ζ (e▸(k F t ho).2.2.1)),?_,λhn d hd Q=>by rw[Cz _ _ _ _ _ (E d)];exact Q⟩;have l:=B.slot;have j:=B.ok;have A:=θ;have G:=B.cell;cases κ with
   |none=>trivial|slot s t=>
    simp [An.ok]at j|-;rw[g2 s (λe=>y (e▸BW (l _ _ rfl))) (λF t ho e=>dv s (l _ _ rfl) (e▸(k F t ho).2.2.1))];exact j
   |cell s η t=>
    obtain ⟨ds,h5,h6⟩:=j;refine⟨ds,?_,h6⟩;rw[g2 s (λe=>?_) (λF t' ho e=>?_)]
    .exact h5
    .rcases G _ _ _ rfl with h7|⟨x,_,h8⟩
     .exact y (e▸h7)
     .exact z.no h8 (e▸Z)
    .exact I F t' ho _ (e▸h5)
  have hgp:∀g∈p.lf,AA.get (If b cs' o w) g=w.get g:=by
   intro g δ;obtain⟨bb,M,_,Q,hno'⟩:=Mq h g δ;refine g2 g (λe=>bng (e▸δ)) (λs t ho e=>?_);rcases(k s t ho).1 with⟨t,_,j⟩|⟨_,ds',j⟩
   .rw[<-e,j]at M;exact absurd M.symm (Q _)
   .rw[<-e,j]at M;exact absurd M.symm (hno' _)
  refine ⟨w,ε,Fs.again w (z _ Z) hbox hv _ ⟨_,.refl _,B.again _ L hgp _ (C4 hK ?_)⟩⟩;rw[Fs.jq];refine⟨λn=>?_,λd=>?_⟩
  .rw[AA.gp,An.get,Cg,Cg];by_cases l:H=n
   .subst l;rw[az (λe=>hpb e.symm),ae rfl];cases o with
    |none=>simp only;rw[g1,ae rfl]|some st=>
     obtain ⟨s,t⟩:=st;simp only;rw[az (k s t rfl).2.2.2,g1,ae rfl]
   .rw[az l];by_cases j:b=n
    .subst j;rw[ae rfl,ae rfl,θ]
    .rw[az j,az j];cases o with
     |none=>simp only;rw[g1,az l]|some st=>
      obtain ⟨s,t⟩:=st;simp only;by_cases A:s=n
      .subst A;rw[ae rfl,ae rfl];have G:=B.slot;have h5:=B.ok;have h6:=(k s t rfl);have h6':=I s t rfl;have h6'':∀ds,t≠.bx ds:=by
        intro ds h;rcases h6.1 with⟨t,rfl,_⟩|⟨rfl,_⟩<;>cases h
       cases κ with
       |none=>rfl|slot F t'=>
        simp only[An.on];rw[az (λ(e:F=s)=>dv F (G _ _ rfl) (by rw[e];exact h6.2.2.1))]
       |cell F η t'=>
        simp only[An.on];split
        next e=>subst e;obtain⟨ds,h7,_⟩:=h5;exact absurd h7 (h6' _)
        .rfl
      .rw[az A,az A,g1,az l]
  .rw[Cz _ _ _ _ _ (E d),J.2,B.jq,AA.ja,An.je,AA.ja,An.je,Cz _ _ _ _ _ (E d)]
def lP(D:Ne)(p q:PR):Bool:=
 match q.op,q.guard,q.dst with
 |.mO s,W,Y d=>PR.km D p&&D.contains s&&D.contains d&&Cb p.dst.toList [s,d]&&Cb [s,d] (p.op.slots++p.lf)|_,_,_=>T
variable{s d:Nat}
theorem Ty{S:FuncId->Fq->AZ->Prop}{K:AA->Prop}(c:q.op=.mO s)(f:q.guard=W)(hd:q.dst=Y d)(h:q.wp S O K):∃n es,O.get s=.xo n es/\O.je d=X/\d≠s/\K ((d,.xo n es)::(s,.undef)::O):=by
 simp [PR.wp,c,f,hd,AB.wp,AA.put]at h
 grind
variable{n:Nat}
theorem Tz{S:FuncId->Fq->AZ->Prop}{K:AA->Prop}{es:Fq}(c:q.op=.mO s)(f:q.guard=W)(hd:q.dst=Y d)(g:O.get s=.xo n es)(j:O.je d=X)(k:d≠s)(h:K ((d,.xo n es)::(s,.undef)::O)):q.wp S O K:=by
 simp [PR.wp,c,f,hd,AB.wp,AA.put,g];exact⟨j,k,h⟩
theorem bR(hR:GI F0 w0 N O)(hj:JD D O){op:Oper}(hp:GN P N ops op p=X)(f:lP D p q=X)(h:CG (AO P) K (p::q::rs) O):CG (AO P) K (q::p::rs) O:=by
 unfold lP at f;split at f
 .rename_i s d M hg hd;simp[PR.km,l!]at f;obtain⟨⟨⟨⟨⟨⟨⟨⟨pm,pd⟩,pg⟩,pb⟩,pD⟩,G⟩,R⟩,ζ⟩,δ⟩:=f;obtain⟨C,ε⟩:=m_.1 pd;rw[ε]at ζ;simp at ζ;have G:s∈D:=by simpa using G
  have R:d∈D:=by simpa using R
  have θ:C≠s:=λe=>Ah ζ (x:=C) V c_;have hpd:C≠d:=λe=>Ah ζ (x:=C) V c_;have j:s∉p.op.slots:=λe=>Ah δ (x:=s) V (Bk e);have l:d∉p.op.slots:=λe=>Ah δ (x:=d) V (Bk e);have sng:s∉p.lf:=λe=>Ah δ (x:=s) V (B0 e);have dng:d∉p.lf:=λe=>Ah δ (x:=d) V (B0 e);have pg':p.op.jY=X->p.guard=W:=λhn=>by
   rcases pg with h|h
   .rw[hn]at h;cases h
   .simpa using h
  obtain ⟨w,E,h⟩:=h;have hR':=hR.congr E.symm;have u:=hj.congr E.symm;obtain⟨jq,⟨⟨e1,v,hw⟩,ep,κ,A⟩,hR1⟩:=CR hR' hp (JR ε pm pg' h);have g1:∀n,e1.get n=if C=n then ep else κ.on n (w.get n):=λn=>by
   rw [v.1,A.jq,AA.gp,An.get]
  have B:∀x,x∈D->x∉p.op.slots->∀e,κ.on x e=e:=by
   intro x hxD Q e;have:=A.slot;have k:=A.cell;cases κ with
   |none=>rfl|slot s t=>
    simp only[An.on];rw[az];intro he;subst he;exact Q (BW (this _ _ rfl))
   |cell s off t=>
    simp only[An.on];rw[az];intro he;subst he;rcases k _ _ _ rfl with I|⟨y,_,η⟩
    .exact Q I
    .exact u.no η hxD
  obtain ⟨n,es,k1,k2,k3,hK⟩:=Ty M hg hd hw;rw[g1,az θ,B s G j]at k1;rw[v.2,A.jq,AA.ja,An.je,jP]at k2;have H:∀m,m≠d->m≠s->AA.get ((d,.xo n es)::(s,.undef)::w) m=w.get m:=λm z k=>by
   rw [AA.gp,az (λe=>z e.symm),AA.gp,az (λe=>k e.symm)]
  have nr:∀c,AA.je c ((d,EV.xo n es)::(s,EV.undef)::w)=AA.je c w:=λc=>by
   simp [AA.ja,EV.kx,EV.jZ]
  have L:CO p.op κ (Y C) w ((d,.xo n es)::(s,.undef)::w):=by
   refine ⟨λx F=>.inl (H x (λe=>l (e▸F)) (λe=>j (e▸F))),λx F r hr=>.inl (H r (λe=>u.no hr (e▸R)) (λe=>u.no hr (e▸G))),λx F _=>H x (λe=>l (e▸BW F)) (λe=>j (e▸BW F)),?_,λhn d' hd' Z=>by rw[nr];exact Z⟩;have z:=A.slot;have k:=A.ok;have η:=A.cell;cases κ with
   |none=>trivial|slot x t=>
    simp [An.ok]at k|-;rw[H x (λe=>l (e▸BW (z _ _ rfl))) (λe=>j (e▸BW (z _ _ rfl)))];exact k
   |cell x off t=>
    obtain ⟨ds,h5,h6⟩:=k;refine⟨ds,?_,h6⟩;rw[H x (λe=>?_) (λe=>?_)]
    .exact h5
    .rcases η _ _ _ rfl with h7|⟨y,_,h8⟩
     .exact l (e▸h7)
     .exact u.no h8 (e▸R)
    .rcases η _ _ _ rfl with h7|⟨y,_,h8⟩
     .exact j (e▸h7)
     .exact u.no h8 (e▸G)
  have hgp:∀g∈p.lf,AA.get ((d,.xo n es)::(s,.undef)::w) g=w.get g:=λg J=>H g (λe=>dng (e▸J)) (λe=>sng (e▸J));refine⟨w,E,Tz M hg hd k1 k2.2 k3 ⟨_,.refl _,A.again _ L hgp _ (C4 hK ?_)⟩⟩;refine⟨λm=>?_,λc=>?_⟩
  .simp[AA.gp,An.get,g1];by_cases z:d=m
   .subst z;rw[ae rfl,az hpd,B d R l,ae rfl]
   .rw[az z];by_cases k:s=m
    .subst k;rw[ae rfl,az θ,B s G j,az z,ae rfl]
    .rw[az k];by_cases I:C=m
     .rw[ae I,ae I]
     .rw[az I,az I,az z,az k]
  .simp[AA.ja,An.je,v.2,A.jq];have e1:EV.kx c (EV.xo n es)=X:=rfl;have e2:EV.kx c EV.undef=X:=rfl;rw[e1,e2];cases EV.kx c ep<;>rfl
 .cases f
def ap:AB->Bool
 |.nm _=>X|.mv _=>X|.bad _ _=>X|.kK _ _=>X|.ld _=>X|.nH _=>X|_=>T
def lZ(D:Ne)(p q:PR):Bool:=
 match q.op,q.guard,q.dst,p.guard,p.dst with
 |.mf x v _,W,W,W,Y d=>PR.km D p&&ap p.op&&!(x.sl.contains d)&&!(v.sl.contains d)|_,_,_,_,_=>T
variable{i:Option Nat}
theorem I2{q:Nat}{es es':Fq}(h:O.jT q i=Y (n,es)):(∃u,AA.get (O.kj q i n es') q=u/\((∃m c,O.get q=.xo m c/\∃m' fs',u=.xo m' fs')\/(∃cs k,i=Y k/\cs[k]?=Y ⟨X,.xl n es⟩/\O.get q=.bx cs/\u=.bx (cs.set k ⟨X,.xl n es'⟩))))/\(∀m,q≠m->AA.get (O.kj q i n es') m=O.get m)/\∀d,AA.je d (O.kj q i n es')=O.je d:=by
 cases i with
 |none=>
  grind [AA.jT,AA.kj,AA.gp,AA.ja,EV.kx,EV.jZ]
 |some k=>
  grind [AA.jT,jR,AA.kj,AA.gp,AA.ja,EV.kx,EV.jZ]
theorem Th(l:List AI)(c:Nat):Cd ((l.drop c).map (·.t))=(l[c]?).map (·.t):=by
 rw [show l[c]?=(l.drop c)[0]? by rw[List.getElem?_drop,Nat.add_zero]];cases l.drop c<;>rfl
variable{t:TV}
theorem XL{ds:List AI}{k c n:Nat}{es es':Fq}(g:t.kR=T)(h:ds[k]?=Y ⟨X,.xl n es⟩)(f:Cd ((ds.drop c).map (·.t))=Y t):Cd (((ds.set k ⟨X,.xl n es'⟩).drop c).map (·.t))=Y t:=by
 rw [Th]at f|-;by_cases e:k=c
 .subst e;rw[h]at f;simp at f;subst f;cases g
 grind
theorem Y7{S:FuncId->Fq->AZ->Prop}{op:AB}(ho:ap op=X){dst:Option Nat}{K:EV->AA->Prop}(h:op.wp S O dst K):
  ∃e,K e O/\(∀m I,e≠.xo m I)/\(∀cs,e≠.bx cs)/\∀(q n:Nat)(i:Option Nat)(es es':Fq),O.jT q i=Y (n,es)->∀A:EV->AA->Prop,A e (O.kj q i n es')->op.wp S (O.kj q i n es') dst A:=by
 have C:∀{q n:Nat}{i:Option Nat}{es es':Fq},O.jT q i=Y (n,es)->∀m e,O.get m=e->(∀k I,e≠.xo k I)->(∀cs,e≠.bx cs)->AA.get (O.kj q i n es') m=e:=λ{q n i es es'}g m e w F κ=>by
  obtain ⟨⟨u,M,l⟩,H,_⟩:=I2 (es':=es') g
  grind
 have E:∀{q n:Nat}{i:Option Nat}{es es':Fq},O.jT q i=Y (n,es)->∀m cs,O.get m=.bx cs->∃cs',AA.get (O.kj q i n es') m=.bx cs'/\∀v t,t.kR=T->Cd ((cs.drop v).map (·.t))=Y t->Cd ((cs'.drop v).map (·.t))=Y t:=λ{q n i es es'}g m cs w=>by
  obtain ⟨⟨u,M,l⟩,H,_⟩:=I2 (es':=es') g
  grind [XL]
 have z:∀{q n:Nat}{i:Option Nat}{es es':Fq},O.jT q i=Y (n,es)->∀(x:AC)e,x.ev O=e->(∀m I,e≠.xo m I)->(∀cs,e≠.bx cs)->x.ev (O.kj q i n es')=e:=by
  intro q n i es es' g x e he w F;cases x with
  |c t=>exact he|s y=>exact C g y e he w F
 cases op with
 |mv x=>
  simp [AB.wp]at h|-;split at h
  next t j=>exact⟨_,h,V,V,λq n i es es' g A f=>e?⟩
  next t j=>exact⟨_,h,V,V,λq n i es es' g A f=>e?⟩
  next t j=>exact⟨_,h,V,V,λq n i es es' g A f=>e?⟩
  .exact h.elim
 |nH x=>
  simp [AB.wp]at h|-;split at h
  .rename_i s v j;split at h
   .rename_i η ζ;refine⟨_,h,V,V,λq n i es es' g A f=>?_⟩;rw[z g x _ j V V];have L:∃r,(O.kj q i n es').jT s (Y v)=Y r:=by
     cases i with
     |none=>grind[AA.jT,AA.kj,AA.gp]|some k=>grind[AA.jT,AA.kj,AA.gp]
    obtain ⟨r,L⟩:=L;simp only[L];exact f
   .exact h.elim
  .exact h.elim
 |nm s=>
  simp [AB.wp]at h|-;split at h
  .rename_i m I B;refine⟨_,h,V,V,λq n i es es' g A f=>?_⟩;obtain⟨⟨u,M,l⟩,H,_⟩:=I2 (es':=es') g;by_cases e:q=s
   .subst e;rcases l with⟨_,_,_,m',fs',rfl⟩|⟨_,_,_,_,θ,_⟩
    .rw[M];exact f
    .rw[B]at θ;cases θ
   .rw[H s e,B];exact f
  .exact h.elim
 |bad s k=>
  simp [AB.wp]at h|-;split at h
  next cs B=>refine⟨_,h,V,V,λq n i es es' g A f=>?_⟩;obtain⟨cs',w,_⟩:=E (es':=es') g s cs B;rw[w];exact f
  next row B=>exact⟨_,h,V,V,λq n i es es' g A f=>by rw[C g s _ B V V];exact f⟩
  .exact h.elim
 |kK x k=>
  simp [AB.wp]at h|-;split at h
  next row j=>exact⟨_,h,V,V,λq n i es es' g A f=>e?⟩
  .rename_i s v j;split at h
   next cs B=>refine⟨_,h,V,V,λq n i es es' g A f=>?_⟩;obtain⟨cs',w,_⟩:=E (es':=es') g s cs B;rw[z g x _ j V V];simp only;rw[w];exact f
   .exact h.elim
  .exact h.elim
 |ld x=>
  simp [AB.wp]at h|-;cases l:Ao O (x.ev O)with
  |none=>rw[l]at h;exact h.elim|some cs=>
   rw [l]at h;simp[AS]at h;cases J:Cd cs with
   |none=>rw[J]at h;exact h.elim|some t=>
    rw [J]at h;obtain⟨Q,h⟩:=h;refine⟨_,h,V,V,λq n i es es' g A f=>?_⟩;have ε:∃cs',Ao (O.kj q i n es') (x.ev (O.kj q i n es'))=Y cs'/\Cd cs'=Y t:=by
     cases x with
     |c R=>exact⟨cs,by rw[<-l];cases R<;>rfl,J⟩
     |s y=>
      simp [AC.ev]at l|-;cases G:O.get y with
      |bp s v=>
       rw [C g y _ G V V];rw[G]at l;simp only[Ao]at l|-;split at l
       next ds B=>cases l;obtain⟨cs',w,F⟩:=E (es':=es') g s ds B;rw[w];exact⟨_,rfl,F _ _ Q J⟩
       .cases l
      |tv R=>
       rw [C g y _ G V V];rw[G]at l;exact⟨cs,by rw[<-l];cases R<;>rfl,J⟩
      |bx ds=>
       rw [G]at l;simp[Ao]at l;subst l;obtain⟨cs',w,F⟩:=E (es':=es') g y ds G;rw[w];have:=F 0 t Q (by simpa using J);exact⟨_,rfl,by simpa using this⟩
      |_=>rw[G]at l;cases l
    obtain ⟨cs',w,F⟩:=ε;rw[w];simp[AS,F];exact⟨Q,f⟩
 |_=>cases ho
variable{e:EV}
theorem Rj{O g:AA}{d t n:Nat}{es:Fq}(h:Hd g ((d,e)::O))(j:d≠t):Hd (g.kj t i n es) ((d,e)::O.kj t i n es):=by
 have v:g.get t=O.get t:=by rw[h.1,AA.gp,az j]
 have f:∀u:EV,(∀c,EV.kx c u=X)->Hd ((t,u)::g) ((d,e)::(t,u)::O):=by
  intro u l;refine⟨λm=>?_,λc=>?_⟩
  .rw[AA.gp,h.1,AA.gp,AA.gp,AA.gp]
   grind
  .rw[AA.ja,h.2,AA.ja,AA.ja,AA.ja,l];cases EV.kx c e<;>rfl
 cases i with
 |none=>exact f _ λc=>rfl|some k=>
  simp [AA.kj,v];split
  .exact f _ λc=>rfl
  .exact h
theorem bV(f:lZ D p q=X)(h:CG (AO P) K (p::q::rs) O):CG (AO P) K (q::p::rs) O:=by
 unfold lZ at f;split at f
 .rename_i x v Z d A B hd I J;simp[l!,decide_eq_false_iff_not]at f;obtain⟨⟨⟨_,ho⟩,C⟩,E⟩:=f;obtain⟨z,F,h⟩:=h;simp[PR.wp,I,J,AA.put]at h;obtain⟨e,⟨G,j,l⟩,R,θ,H⟩:=Y7 ho h;have w:∀(y:AC),d∉y.sl->y.ev G=y.ev z:=by
   intro y hy;cases y with
   |c t=>rfl|s m=>
    simp [AC.ev,j.1,AA.gp]
    grind [AC.sl]
  refine ⟨z,F,?_⟩;simp[PR.wp,B,hd,A,AB.wp,w x C,w v E]at l|-;split at l
  .rename_i t i c hx;split at l
   .rename_i n es u L M;obtain⟨ε,κ,es',η,ζ,δ,hK⟩:=l;have g:d≠t:=by
     intro g;have B:G.get t=e:=by rw[j.1,AA.gp,ae g]
     cases i with
     |none=>
      grind [AA.jT]
     |some k=>
      grind [AA.jT]
    have Q:z.jT t i=Y (n,es):=by
     have B:G.get t=z.get t:=by rw[j.1,AA.gp,az g]
     grind [AA.kE]
    rw [Q,M];refine⟨ε,κ,es',η,ζ,δ,_,.refl _,?_⟩
    grind [PR.wp,AA.put,C4,Rj]
   .exact l.elim
  .exact l.elim
 .cases f
end
end Go.Sf
