/- Two operations of a region that may change places. -/
import Derived.Test.YtlbmpkmkmkgniaaGreatDoorSfFrame
set_option linter.all false
namespace Go.Sf
open Go.RowKit (Below)
theorem AD.noRef_cons (d k:Nat) (e:EV) (O:AD):AD.noRef d ((k,e)::O)=(e.noR d&&AD.noRef d O):=rfl
variable {d:Nat} {e:EV}
theorem Wf (h:∀ s,e.ref=some s->s≠d):e.noR d=true:=by
 unfold EV.noR;split
 ·rename_i s c; simpa using fun e=>h s c e.symm
 ·rfl
theorem CF.noRef (f:CF) (O:AD) (d:Nat):AD.noRef d (f.app O)=AD.noRef d O:=by
 cases f with
 | none=>rfl
 | slot s t=>simp [CF.app,AD.noRef_cons,EV.noR,EV.ref]
 | cell s c t=>
  simp only [CF.app];split
  ·simp [AD.noRef_cons,EV.noR,EV.ref]
  ·rfl
def CF.on (f:CF) (n:Nat) (e:EV):EV:=
 match f with
 | .none=>e
 | .slot s t=>if s=n then .tv t else e
 | .cell s off t=>if s=n then (match e with | .bx cs=>.bx (cs.set off ⟨false,t⟩) | e=>e) else e
theorem CF.get (f:CF) (O:AD) (n:Nat):AD.get (f.app O) n=f.on n (O.get n):=by
 cases f with
 | none=>rfl
 | slot s t=>simp only [CF.app,AD.get_cons,CF.on]
 | cell s g t=>
  simp only [CF.app,CF.on];cases c:O.get s with
  | bx cs=>
   simp only [AD.get_cons];split
   ·rename_i e; subst e; rw [c]
   ·rfl
  | _=>
   simp only;split
   ·rename_i e; subst e; rw [c]
   ·rfl
def Ny (O env2:AD):Prop:=(∀ n,O.get n=env2.get n)∧∀ d,O.noRef d=env2.noRef d
theorem Ny.refl (O:AD):Ny O O:=⟨fun _=>rfl,fun _=>rfl⟩
theorem Ny.trans {a b c:AD} (h:Ny a b) (f:Ny b c):Ny a c:=⟨fun n=>(h.1 n).trans (f.1 n),fun d=>(h.2 d).trans (f.2 d)⟩
variable {a b:AD}
theorem Ny.symm (h:Ny a b):Ny b a:=⟨fun n=>(h.1 n).symm,fun d=>(h.2 d).symm⟩
variable {O env2:AD} {w:World}
theorem DJ.congr {F0:Nat->Nat->Prop} {w0:W0} {a:Act} (h:DJ F0 w0 O a w) (c:∀ n,O.get n=env2.get n):DJ F0 w0 env2 a w:=by
 obtain ⟨G,h⟩:=h;refine ⟨G,h.uniq,h.lt,h.below,h.defers,fun q f=>?_,fun q f=>?_,fun q=>?_⟩
 ·rw [←c]; exact h.dom q f
 ·rw [←c];refine AX.kept (QA _ _) (fun _=>rfl) (fun _ _ _ _=>rfl) (fun r j k ⟨cs,g⟩=>⟨⟨cs,by rw [c]; exact g⟩,rfl⟩) (fun r i k ⟨p,l⟩=>⟨⟨p,(AD.xat_of (c r)).trans l⟩,fun _ hv=>hv⟩) (h.slots q f)
 ·rw [←c]; exact h.wf q
def KJ (S:FuncId->QQ->CS->Prop) (K:AD->Prop):List PR->AD->Prop
 | [],O=>∃ e,Ny e O∧K e
 | r::rs,O=>∃ e,Ny e O∧r.wp S e (KJ S K rs)
section
variable {S:FuncId->QQ->CS->Prop} {K:AD->Prop}
variable {rs:List PR} {O env2:AD}
theorem OB (h:KJ S K rs O) (g:Ny O env2):KJ S K rs env2:=by
 cases rs with
 | nil=>obtain ⟨e,c,f⟩:=h; exact ⟨e,c.trans g,f⟩
 | cons r rs=>obtain ⟨e,c,f⟩:=h; exact ⟨e,c.trans g,f⟩
theorem bj:∀ {rs:List PR} {O:AD},wpOps S K rs O->KJ S K rs O
 | [],O,h=>⟨O,.refl _,h⟩
 | r::rs,O,h=>⟨O,.refl _,PR.wp_mono S O (fun e c=>bj c) r h⟩
def PR.gsl (r:PR):ci:=
 match r.guard with
 | some (g,_)=>[g]
 | none=>[]
structure TN (S:FuncId->QQ->CS->Prop) (r:PR) (d:Nat) (O env1:AD) (e:EV) (f:CF):Prop where
 env1:env1=(d,e)::f.app O
 ok:f.ok O
 slot:∀ s t,f=.slot s t->s∈r.op.dem
 cell:∀ s off t,f=.cell s off t->(s∈r.op.slots∨∃ x∈r.op.slots,(O.get x).ref=some s)
 ref:∀ s,e.ref=some s->(s∈r.op.bads∨∃ x∈r.op.slots,(O.get x).ref=some s)
 new:r.op.isNew=true->e.ref=none∧O.noRef d=true
 xl:∀ s off t,f=.cell s off t->t.isXl=false
 again:∀ env2,GX r.op f (some d) O env2->(∀ g∈r.gsl,env2.get g=O.get g)->∀ K2:AD->Prop,K2 ((d,e)::f.app env2)->r.wp S env2 K2
variable {r:PR} {d:Nat}
theorem Pv (p:r.dst=some d) (B:r.op.mov=true) (A:r.op.isNew=true->r.guard=none) (h:r.wp S O K):r.wp S O fun env1=>K env1∧∃ e f,TN S r d O env1 e f:=by
 have y:∀ (l:∀ env2,(∀ g∈r.gsl,env2.get g=O.get g)->∀ m:AD->Prop,(r.op.wp S env2 (some d) fun e env'=>m (env'.put (some d) e))->r.wp S env2 m),(r.op.wp S O (some d) fun e env'=>K (env'.put (some d) e))->r.op.wp S O (some d) fun e env'=>K (env'.put (some d) e)∧∃ C f,TN S r d O (env'.put (some d) e) C f:=by
  intro l F;refine AJ.wp_mono S O (some d) (fun e env' u=>?_) r.op (frame B F);obtain ⟨G,f,j⟩:=u;refine ⟨G,e,f,?_,j.ok,j.slot,j.cell,j.ref,fun t=>⟨(j.new t).1,(j.new t).2 d rfl⟩,j.xl,fun env2 E k m i=>?_⟩
  ·simp only [AD.put]; rw [j.env']
  ·exact l env2 k m (j.again env2 E _ i)
 unfold PR.wp at h ⊢;cases c:r.guard with
 | none=>
  rw [c] at h;rw [p] at h ⊢;refine y (fun env2 _ m i=>?_) h;unfold PR.wp;rw [c,p];exact i
 | some gb=>
  obtain ⟨g,b⟩:=gb;rw [c] at h;rw [p] at h ⊢;simp only at h ⊢;have k:g∈r.gsl:=by simp [PR.gsl,c]
  split at h
  ·rename_i q z;refine ⟨fun v=>y (fun env2 j m i=>?_) (h.1 v),fun v=>⟨h.2 v,.sk,.none,rfl,trivial,by simp,by simp,(fun s u=>by cases u),fun t=>?_,by simp,fun env2 _ j m i=>?_⟩⟩
   ·unfold PR.wp;rw [c,p];simp only;rw [j g k,z];exact ⟨fun _=>i,fun n=>by subst v; cases q <;> simp at n⟩
   ·rw [A t] at c; cases c
   ·unfold PR.wp;rw [c,p];simp only;rw [j g k,z];exact ⟨fun n=>by subst n; cases q <;> simp at v,fun _=>i⟩
  ·rename_i z;refine ⟨h,.sk,.none,rfl,trivial,by simp,by simp,(fun s u=>by cases u),fun t=>?_,by simp,fun env2 _ j m i=>?_⟩
   ·rw [A t] at c; cases c
   ·unfold PR.wp;rw [c,p];simp only;rw [j g k,z];exact i
  ·exact h.elim
end
section
variable {P:Program} {F0:Nat->Nat->Prop} {w0:W0} {N:Nat} {ops:Array Oper} {K:AD->Prop}
def Mi (F0:Nat->Nat->Prop) (w0:W0) (N:Nat) (O:AD):Prop:=∃ a w,a.tmps.size=N∧DJ F0 w0 O a w
variable {O env2:AD}
theorem Mi.congr (h:Mi F0 w0 N O) (c:Ny O env2):Mi F0 w0 N env2:=by
 obtain ⟨a,w,f,g⟩:=h;exact ⟨a,w,f,g.congr c.1⟩
variable {s:Nat}
theorem Mi.list (h:Mi F0 w0 N O) {t:TV} (c:O.get s=.ow t):∃ n es,t=.list n es:=by
 obtain ⟨a,w,_,G,f⟩:=h;have:=A9 f c (by simp);simp only [AX] at this;cases t <;> simp only [C3] at this;exact ⟨_,_,rfl⟩
variable {o:Oper} {w:World}
theorem Zv {a:Act} {X:Prop} (h:o.wp P a w (fun _ _=>X) (fun _ _ _=>False)):X:=by
 unfold Oper.wp at h;generalize (execOp a.eval o).run P w=r at h;cases r with
 | ok n w'=>
  cases n with
  | value v=>exact h
  | skip=>exact h
  | defer d=>exact h
  | enter f args=>
   rw [Oper.upon_enter] at h;obtain ⟨e,i,k,g,_⟩:=h [];cases e with
   | returned v=>exact g
   | panicked c=>exact g.elim
   | outgrown=>obtain ⟨_,_,j⟩:=g; exact j.elim
  | row r args=>
   rw [Oper.upon_row] at h;obtain ⟨v,i,g,_⟩:=h default [];exact g
  | _=>exact h.elim
 | halt x w'=>
  cases x <;> exact h.elim
variable {r:PR}
theorem LG (f:Mi F0 w0 N O) (c:Nd P N ops o r=true) (h:r.wp (AU P) O K):∃ env',K env'∧Mi F0 w0 N env':=by
 obtain ⟨a,w,l,m⟩:=f;have:=TD (p:=none) (next:=fun _ _=>∃ env',K env'∧Mi F0 w0 N env') (Q:=fun _ _ _=>False) m ⟨l,by simp⟩ (by simp) c h fun env' g w' i j k=>⟨env',i,g,w',j.size,k⟩;split at this
 ·exact Zv this
 ·exact this
end
def Iy (xs ys:ci):Bool:=xs.all fun x=>!ys.contains x
variable {x:Nat}
theorem DO {xs c:ci} (h:Iy xs c=true) (f:x∈xs) (g:x∈c):False:=by
 simp only [Iy,List.all_eq_true,Bool.not_eq_true',List.contains_eq_mem,decide_eq_false_iff_not] at h;exact h x f g
def PR.old (r:PR):ci:=
 if r.op.isNew then [] else r.dst.toList
def PR.movOk (D:ci) (r:PR):Bool:=
 r.op.mov&&r.dst.isSome&&(!r.op.isNew||r.guard.isNone)&&Iy r.op.bads D&&r.old.all D.contains
def T3 (D:ci) (p q:PR):Bool:=
 PR.movOk D p&&PR.movOk D q&&Iy p.dst.toList (q.dst.toList++(q.op.slots++q.gsl))&&Iy q.dst.toList (p.op.slots++p.gsl)&&Iy p.op.dem (q.op.dem++q.gsl)&&Iy q.op.dem p.gsl
variable {s:Nat}
theorem F8 {op:AJ} (h:s∈op.dem):s∈op.slots:=by
 cases op <;> simp only [AJ.dem,List.not_mem_nil] at h <;> simp only [AJ.slots]
 ·exact h
 ·exact IS h
theorem Yz {op:AJ} (h:s∈op.bads):s∈op.slots:=by
 cases op <;> simp only [AJ.bads,List.not_mem_nil] at h <;> simp only [AJ.slots]
 all_goals exact h
def JD (D:ci) (O:AD):Prop:=∀ d∈D,O.noRef d=true
variable {O env2:AD}
theorem JD.congr {D:ci} (h:JD D O) (c:Ny O env2):JD D env2:=fun d f=>by rw [←c.2]; exact h d f
theorem JD.no {D:ci} (h:JD D O) (c:(O.get x).ref=some s):s ∉ D:=fun f=>AD.noRef_ref s O (h s f) x c
section
variable {S:FuncId->QQ->CS->Prop}
variable {r:PR} {d:Nat} {e:EV}
theorem TN.jd {D:ci} {O env1:AD} {f:CF} (h:TN S r d O env1 e f) (j:Iy r.op.bads D=true) (i:JD D O):JD D env1:=by
 intro x g;rw [h.env1,AD.noRef_cons,CF.noRef,i x g,Bool.and_true];refine Wf (fun s k c=>?_);subst c;rcases h.ref s k with l | ⟨y,_,m⟩
 ·exact DO j l g
 ·exact i.no m g
variable {O:AD}
theorem CF.like (f:CF) (c:f.ok O) (k:∀ s t,O.get s=.ow t->∃ n es,t=.list n es) (l:∀ s g t,f=.cell s g t->t.isXl=false) (n:Nat):(O.get n).like (f.on n (O.get n)):=by
 cases f with
 | none=>exact .inl rfl
 | slot s t=>
  simp only [CF.on];split
  ·rename_i e; subst e;simp only [CF.ok] at c;obtain ⟨m,es,rfl⟩:=k s t c;exact .inr (.inl ⟨m,es,.inr ⟨c,rfl⟩⟩)
  ·exact .inl rfl
 | cell s g t=>
  simp only [CF.on];split
  ·rename_i e; subst e;obtain ⟨cs,p,j⟩:=c;rw [p];refine .inr (.inr ⟨cs,_,rfl,rfl,?_⟩);rw [List.map_set];refine List.ext_getElem? fun i=>?_;rw [List.getElem?_set];split
   ·rename_i e; subst e;rw [d7];have h:=(List.getElem?_eq_some_iff.1 j).1;rw [d1 h,List.getElem?_map,j];simp [At.key,l _ _ _ rfl]
   ·rfl
  ·exact .inl rfl
end
variable {r:PR} {O:AD}
theorem QU {S:FuncId->QQ->CS->Prop} {K:AD->Prop} (h:r.wp S O K):∀ g∈r.gsl,∃ b,O.get g=b∧(∀ cs,b≠.bx cs)∧(∀ t,b≠.ow t)∧∀ cs,b≠.oag cs:=by
 intro g c;unfold PR.gsl at c;unfold PR.wp at h;split at c
 ·rename_i j b i;rw [i] at h;simp only [List.mem_singleton] at c;subst c;simp only at h;split at h
  ·rename_i q f; exact ⟨_,f,by simp,by simp,by simp⟩
  ·rename_i f; exact ⟨_,f,by simp,by simp,by simp⟩
  ·exact h.elim
 ·cases c
section
variable {P:Program} {F0:Nat->Nat->Prop} {w0:W0} {N:Nat} {ops:Array Oper} {K:AD->Prop} {D:ci}
variable {O:AD} {rs:List PR}
theorem swap (hR:Mi F0 w0 N O) (hj:JD D O) {op oq:Oper} {p q:PR} (hp:Nd P N ops op p=true) (hq:Nd P N ops oq q=true) (Q:T3 D p q=true) (h:KJ (AU P) K (p::q::rs) O):KJ (AU P) K (q::p::rs) O:=by
 simp only [T3,PR.movOk,zzZ,Bool.or_eq_true,Bool.not_eq_true'] at Q;obtain ⟨⟨⟨⟨⟨⟨⟨⟨⟨pm,pd⟩,pg⟩,pb⟩,pD⟩,⟨⟨⟨qm,qd⟩,qg⟩,qb⟩,qD⟩,c1⟩,c2⟩,c3⟩,c4⟩:=Q;obtain ⟨C,hdp⟩:=Option.isSome_iff_exists.1 pd;obtain ⟨A,hdq⟩:=Option.isSome_iff_exists.1 qd;rw [hdp] at c1;rw [hdq] at c1 c2;simp only [Option.toList_some] at c1 c2;have hpq:C≠A:=fun e=>DO c1 (x:=C) (by simp) (by simp [e]);have F:C ∉ q.op.slots:=fun e=>DO c1 (x:=C) (by simp) (by simp [e]);have pngq:C ∉ q.gsl:=fun e=>DO c1 (x:=C) (by simp) (by simp [e]);have J:A ∉ p.op.slots:=fun e=>DO c2 (x:=A) (by simp) (by simp [e]);have qngp:A ∉ p.gsl:=fun e=>DO c2 (x:=A) (by simp) (by simp [e]);have dd:∀ s,s∈p.op.dem->s∈q.op.dem->False:=fun s c k=>DO c3 c (IS k);have dg1:∀ s,s∈p.op.dem->s∈q.gsl->False:=fun s c k=>DO c3 c (H9 k);have dg2:∀ s,s∈q.op.dem->s∈p.gsl->False:=fun s c k=>DO c4 c k;have oldp:p.op.isNew=true∨C∈D:=by
  cases B:p.op.isNew with
  | true=>exact .inl rfl
  | false=>exact .inr (by simpa [PR.old,B,hdp] using pD)
 have oldq:q.op.isNew=true∨A∈D:=by
  cases B:q.op.isNew with
  | true=>exact .inl rfl
  | false=>exact .inr (by simpa [PR.old,B,hdq] using qD)
 have pg':p.op.isNew=true->p.guard=none:=fun B=>by
  rcases pg with h | h
  ·rw [B] at h; cases h
  ·simpa using h
 have qg':q.op.isNew=true->q.guard=none:=fun B=>by
  rcases qg with h | h
  ·rw [B] at h; cases h
  ·simpa using h
 obtain ⟨I,heq,h⟩:=h;have hR':=hR.congr heq.symm;have hj':=hj.congr heq.symm;obtain ⟨env1,⟨⟨H,z,hw⟩,ep,M,Fp⟩,hR1⟩:=LG hR' hp (Pv hdp pm pg' h);have hRe1:=hR1.congr z.symm;have hj1:=Fp.jd pb hj';have hje1:=hj1.congr z.symm;obtain ⟨X1,⟨hK,eq,E,Fq⟩,_⟩:=LG hRe1 hq (Pv hdq qm qg' hw);have W:∀ n,H.get n=if C=n then ep else M.on n (I.get n):=fun n=>by
  rw [z.1,Fp.env1,AD.get_cons,CF.get]
 have R:∀ x s,(H.get x).ref=some s->s≠C:=by
  intro x s hx y;subst y;rcases oldp with B | hd
  ·refine AD.noRef_ref s H ?_ x hx;rw [z.2,Fp.env1,AD.noRef_cons,CF.noRef,(Fp.new B).2,Bool.and_true];exact Wf (fun s L _=>by rw [(Fp.new B).1] at L; cases L)
  ·exact hje1.no hx hd
 have nq':∀ x s,(I.get x).ref=some s->s≠A:=by
  intro x s hx y;subst y;rcases oldq with B | hd
  ·have c:=(Fq.new B).2;rw [z.2,Fp.env1,AD.noRef_cons,CF.noRef,zzZ] at c;exact AD.noRef_ref s I c.2 x hx
  ·exact hj'.no hx hd
 have lk:∀ n,n≠C->(H.get n).like (I.get n):=by
  intro n B;rw [W,d2 (fun e=>B e.symm)];exact (CF.like M Fp.ok (fun s t y=>hR'.list y) Fp.xl n).symm
 have fpdq:∀ e,M.on A e=e:=by
  intro e;have:=Fp.slot;have k:=Fp.cell;cases M with
  | none=>rfl
  | slot s t=>
   simp only [CF.on];rw [d2];intro L; subst L;exact J (F8 (this _ _ rfl))
  | cell s i t=>
   simp only [CF.on];rw [d2];intro L; subst L;rcases k _ _ _ rfl with l | ⟨x,_,G⟩
   ·exact J l
   ·exact nq' x _ G rfl
 have T:∀ e,E.on C e=e:=by
  intro e;have:=Fq.slot;have k:=Fq.cell;cases E with
  | none=>rfl
  | slot s t=>
   simp only [CF.on];rw [d2];intro L; subst L;exact F (F8 (this _ _ rfl))
  | cell s i t=>
   simp only [CF.on];rw [d2];intro L; subst L;rcases k _ _ _ rfl with l | ⟨x,_,G⟩
   ·exact F l
   ·exact R x _ G rfl
 have u:E.ok I:=by
  have j:=Fq.ok;have hsl:=Fq.slot;have hc:=T;cases E with
  | none=>trivial
  | slot s t=>
   simp only [CF.ok] at j ⊢;have y:=hsl s t rfl;have f:C≠s:=fun e=>F (e ▸ F8 y);rw [W,d2 f] at j;have c:=Fp.slot;have k:=Fp.ok;cases M with
   | none=>exact j
   | slot s' v=>
    simp only [CF.on] at j;rw [d2 (fun (e:s'=s)=>dd s' (c _ _ rfl) (by rw [e]; exact y))] at j;exact j
   | cell s' i v=>
    simp only [CF.on] at j;split at j
    ·rename_i e;subst e;obtain ⟨cs,l,_⟩:=k;rw [l] at j;cases j
    ·exact j
  | cell s i t=>
   obtain ⟨cs,c,k⟩:=j;have f:C≠s:=fun e=>by
    have:=hc (.bx [⟨true,.undef⟩,⟨true,.undef⟩]);rcases Fq.cell s i t rfl with l | ⟨x,_,G⟩
    ·exact F (e ▸ l)
    ·exact R x s G e.symm
   rw [W,d2 f] at c;have l:=Fp.ok;cases M with
   | none=>exact ⟨cs,c,k⟩
   | slot s' v=>
    simp only [CF.on] at c;split at c
    ·cases c
    ·exact ⟨cs,c,k⟩
   | cell s' m v=>
    simp only [CF.on] at c;split at c
    ·rename_i e;subst e;obtain ⟨cs',G,h5⟩:=l;rw [G] at c;simp only [EV.bx.injEq] at c;subst c;rw [List.getElem?_set] at k;split at k
     ·split at k
      ·simp at k
      ·cases k
     ·exact ⟨cs',G,k⟩
    ·exact ⟨cs,c,k⟩
 have L1:GX q.op E (some A) H I:=by
  refine ⟨fun s y=>lk s (fun e=>F (e ▸ y)),fun s y r Z=>lk r (R s r Z),fun s y hnb=>?_,u,fun B d hd V=>?_⟩
  ·have f:C≠s:=fun e=>F (e ▸ F8 y);rw [W,d2 f];have c:=Fp.slot;have k:=Fp.ok;cases M with
   | none=>rfl
   | slot s' v=>
    simp only [CF.on];rw [d2 (fun (e:s'=s)=>dd s' (c _ _ rfl) (by rw [e]; exact y))]
   | cell s' i v=>
    simp only [CF.on];split
    ·rename_i e;subst e;obtain ⟨cs,l,_⟩:=k;exfalso;refine hnb (cs.set i ⟨false,v⟩) ?_;rw [W,d2 f];simp [CF.on,l]
    ·rfl
  ·rw [z.2,Fp.env1,AD.noRef_cons,CF.noRef,zzZ] at V;exact V.2
 have hgq:∀ g∈q.gsl,I.get g=H.get g:=by
  intro g hg;have f:C≠g:=fun e=>pngq (e ▸ hg);obtain ⟨b,Z,hnx,_⟩:=QU hw g hg;have U:=Z;rw [W,d2 f] at U;rw [W,d2 f];have c:=Fp.slot;have k:=Fp.ok;cases M with
  | none=>rfl
  | slot s' v=>
   simp only [CF.on];rw [d2 (fun (e:s'=g)=>dg1 s' (c _ _ rfl) (by rw [e]; exact hg))]
  | cell s' i v=>
   simp only [CF.on] at U ⊢;split
   ·rename_i e;subst e;obtain ⟨cs,l,_⟩:=k;rw [l] at U;simp at U;exact absurd U.symm (hnx _)
   ·rfl
 have hgp:∀ g∈p.gsl,AD.get ((A,eq)::E.app I) g=I.get g:=by
  intro g hg;have f:A≠g:=fun e=>qngp (e ▸ hg);obtain ⟨b,Z,hnx,_⟩:=QU h g hg;rw [AD.get_cons,d2 f,CF.get];have c:=Fq.slot;cases E with
  | none=>rfl
  | slot s' v=>
   simp only [CF.on];rw [d2 (fun (e:s'=g)=>dg2 s' (c _ _ rfl) (by rw [e]; exact hg))]
  | cell s' i v=>
   simp only [CF.on];split
   ·rename_i e;subst e;obtain ⟨cs,l,_⟩:=u;rw [l] at Z;exact absurd Z.symm (hnx _)
   ·rfl
 have offs:∀ s i t m v,M=.cell s i t->E=.cell s m v->i≠m:=by
  intro s i t m v c k ho;subst ho;have l:=Fq.ok;have G:=Fp.ok;have h5:=T;rw [c] at G;rw [k] at l;obtain ⟨cs,Y,h7⟩:=G;obtain ⟨ds,h8,h9⟩:=l;have f:C≠s:=fun e=>by
   rcases Fq.cell s i v k with l | ⟨x,_,G⟩
   ·exact F (e ▸ l)
   ·exact R x s G e.symm
  rw [W,d2 f,c] at h8;simp only [CF.on,if_true,Y,EV.bx.injEq] at h8;subst h8;rw [List.getElem?_set,d1 rfl] at h9;split at h9
  ·simp at h9
  ·cases h9
 have g2:∀ n,AD.get ((A,eq)::E.app I) n=if A=n then eq else E.on n (I.get n):=fun n=>by
  rw [AD.get_cons,CF.get]
 have lk2:∀ n,n≠A->(I.get n).like (AD.get ((A,eq)::E.app I) n):=by
  intro n B;rw [g2,d2 (fun e=>B e.symm)];exact CF.like E u (fun s t y=>hR'.list y) Fq.xl n
 have L2:GX p.op M (some C) I ((A,eq)::E.app I):=by
  refine ⟨fun s y=>lk2 s (fun e=>J (e ▸ y)),fun s y r Z=>lk2 r (nq' s r Z),fun s y hnb=>?_,?_,fun B d hd V=>?_⟩
  ·have f:A≠s:=fun e=>J (e ▸ F8 y);rw [g2,d2 f];have c:=Fq.slot;cases E with
   | none=>rfl
   | slot s' v=>
    simp only [CF.on];rw [d2 (fun (e:s'=s)=>dd s' (by rw [e]; exact y) (c _ _ rfl))]
   | cell s' i v=>
    simp only [CF.on];split
    ·rename_i e;subst e;obtain ⟨cs,l,_⟩:=u;exact absurd l (hnb cs)
    ·rfl
  ·have j:=Fp.ok;have hsl:=Fp.slot;have hcl:=Fp.cell;cases M with
   | none=>trivial
   | slot s t=>
    simp only [CF.ok] at j ⊢;have y:=hsl s t rfl;have f:A≠s:=fun e=>J (e ▸ F8 y);rw [g2,d2 f];have c:=Fq.slot;cases E with
    | none=>exact j
    | slot s' v=>
     simp only [CF.on];rw [d2 (fun (e:s'=s)=>dd s' (by rw [e]; exact y) (c _ _ rfl))];exact j
    | cell s' i v=>
     simp only [CF.on];split
     ·rename_i e;subst e;obtain ⟨cs,l,_⟩:=u;rw [l] at j;cases j
     ·exact j
   | cell s i t=>
    obtain ⟨cs,c,k⟩:=j;have f:A≠s:=fun e=>by
     rcases hcl s i t rfl with l | ⟨x,_,G⟩
     ·exact J (e ▸ l)
     ·exact nq' x s G e.symm
    simp only [CF.ok];rw [g2,d2 f];have l:=u;cases E with
    | none=>exact ⟨cs,c,k⟩
    | slot s' v=>
     simp only [CF.on];split
     ·rename_i e;subst e;simp only [CF.ok] at l;rw [l] at c;cases c
     ·exact ⟨cs,c,k⟩
    | cell s' m v=>
     simp only [CF.on];split
     ·rename_i e;subst e;rw [c];have:=offs s' i t m v rfl rfl;refine ⟨_,rfl,?_⟩;rw [List.getElem?_set,d2 (fun e=>this e.symm)];exact k
     ·exact ⟨cs,c,k⟩
  ·simp only [zzY] at hd;subst hd;rw [AD.noRef_cons,CF.noRef,V,Bool.and_true];refine Wf (fun s L=>?_);rcases Fq.ref s L with c | ⟨x,_,k⟩
   ·exact fun e=>F (e ▸ Yz c)
   ·exact R x s k
 refine ⟨I,heq,Fq.again I L1 hgq _ ⟨_,.refl _,Fp.again _ L2 hgp _ (OB hK ?_)⟩⟩;rw [Fq.env1];refine ⟨fun n=>?_,fun d=>?_⟩
 ·rw [AD.get_cons,CF.get,W,AD.get_cons,CF.get,g2];by_cases c:A=n
  ·subst c;rw [d1 rfl,d2 hpq,d1 rfl,fpdq]
  ·rw [d2 c,d2 c];by_cases k:C=n
   ·subst k;rw [d1 rfl,d1 rfl,T]
   ·rw [d2 k,d2 k];have l:=Fp.ok;have G:=Fp.slot;have h5:=Fq.slot;cases M with
    | none=>rfl
    | slot s t=>
     cases E with
     | none=>rfl
     | slot s' v=>
      have f:s≠s':=fun e=>dd s (G _ _ rfl) (e ▸ h5 _ _ rfl);simp only [CF.on];by_cases H:s=n <;> by_cases X:s'=n <;> simp [H,X];exact absurd (H.trans X.symm) f
     | cell s' m v=>
      have f:s≠s':=fun e=>by
       obtain ⟨cs,Y,_⟩:=u;simp only [CF.ok] at l;rw [←e,l] at Y;cases Y
      simp only [CF.on];by_cases H:s=n <;> by_cases X:s'=n <;> simp [H,X]
    | cell s i t=>
     cases E with
     | none=>rfl
     | slot s' v=>
      have f:s≠s':=fun e=>by
       obtain ⟨cs,Y,_⟩:=l;simp only [CF.ok] at u;rw [e,u] at Y;cases Y
      simp only [CF.on];by_cases H:s=n <;> by_cases X:s'=n <;> simp [H,X]
     | cell s' m v=>
      obtain ⟨cs,Y,_⟩:=l;simp only [CF.on];by_cases H:s=n
      ·by_cases X:s'=n
       ·subst H;subst X;have:=offs s' i t m v rfl rfl;simp only [if_true,Y];rw [List.set_comm _ _ this]
       ·simp [H,X]
      ·simp [H]
 ·rw [AD.noRef_cons,CF.noRef,z.2,Fp.env1,AD.noRef_cons,CF.noRef,AD.noRef_cons,CF.noRef,AD.noRef_cons,CF.noRef];cases EV.noR d eq <;> cases EV.noR d ep <;> rfl
end
end Go.Sf
