/- Two operations of a region that may change places. -/
import Derived.Test.YtlbmpkmkmkgniaaGreatDoorSfFrame
set_option linter.all false
namespace Go.Sf
open Go.RowKit (Below)
theorem AD.noRef_cons (d k:Nat) (e:EV) (O:AD):AD.noRef d ((k,e)::O)=(e.noR d&&AD.noRef d O):=rfl
theorem Wm {d:Nat} {e:EV} (h:∀ s,e.ref=some s->s≠d):e.noR d=true:=by
 unfold EV.noR;split
 ·rename_i s a; simpa using fun e=>h s a e.symm
 ·rfl
theorem CC.noRef (f:CC) (O:AD) (d:Nat):AD.noRef d (f.app O)=AD.noRef d O:=by
 cases f with
 | none=>rfl
 | slot s t=>simp [CC.app,AD.noRef_cons,EV.noR,EV.ref]
 | cell s a t=>
  simp only [CC.app];split
  ·simp [AD.noRef_cons,EV.noR,EV.ref]
  ·rfl
def CC.on (f:CC) (n:Nat) (e:EV):EV:=
 match f with
 | .none=>e
 | .slot s t=>if s=n then .tv t else e
 | .cell s off t=>if s=n then (match e with | .bx cs=>.bx (cs.set off ⟨false,t⟩) | e=>e) else e
theorem CC.get (f:CC) (O:AD) (n:Nat):AD.get (f.app O) n=f.on n (O.get n):=by
 cases f with
 | none=>rfl
 | slot s t=>simp only [CC.app,AD.get_cons,CC.on]
 | cell s b t=>
  simp only [CC.app,CC.on];cases a:O.get s with
  | bx cs=>
   simp only [AD.get_cons];split
   ·rename_i e; subst e; rw [a]
   ·rfl
  | _=>
   simp only;split
   ·rename_i e; subst e; rw [a]
   ·rfl
def N2 (O env2:AD):Prop:=(∀ n,O.get n=env2.get n)∧∀ d,O.noRef d=env2.noRef d
theorem N2.refl (O:AD):N2 O O:=⟨fun _=>rfl,fun _=>rfl⟩
theorem N2.trans {a b c:AD} (h:N2 a b) (e:N2 b c):N2 a c:=⟨fun n=>(h.1 n).trans (e.1 n),fun d=>(h.2 d).trans (e.2 d)⟩
theorem N2.symm {a b:AD} (h:N2 a b):N2 b a:=⟨fun n=>(h.1 n).symm,fun d=>(h.2 d).symm⟩
theorem DI.congr {F0:Nat->Nat->Prop} {w0:W0} {O b:AD} {a:Act} {w:World} (h:DI F0 w0 O a w) (c:∀ n,O.get n=b.get n):DI F0 w0 b a w:=by
 obtain ⟨G,h⟩:=h;refine ⟨G,h.uniq,h.lt,h.below,h.defers,fun q d=>?_,fun q d=>?_,fun q=>?_⟩
 ·rw [←c]; exact h.dom q d
 ·rw [←c];refine AY.kept (QL _ _) (fun _=>rfl) (fun _ _ _ _=>rfl) (fun r f g ⟨cs,e⟩=>⟨⟨cs,by rw [c]; exact e⟩,rfl⟩) (fun r i g ⟨p,j⟩=>⟨⟨p,(AD.xat_of (c r)).trans j⟩,fun _ hv=>hv⟩) (h.slots q d)
 ·rw [←c]; exact h.wf q
def KL (S:FuncId->QQ->CS->Prop) (K:AD->Prop):List PR->AD->Prop
 | [],O=>∃ e,N2 e O∧K e
 | r::rs,O=>∃ e,N2 e O∧r.wp S e (KL S K rs)
section
variable {S:FuncId->QQ->CS->Prop} {K:AD->Prop}
theorem OC {b:List PR} {O a:AD} (h:KL S K b O) (f:N2 O a):KL S K b a:=by
 cases b with
 | nil=>obtain ⟨e,c,d⟩:=h; exact ⟨e,c.trans f,d⟩
 | cons r b=>obtain ⟨e,c,d⟩:=h; exact ⟨e,c.trans f,d⟩
theorem bq:∀ {a:List PR} {O:AD},wpOps S K a O->KL S K a O
 | [],O,h=>⟨O,.refl _,h⟩
 | r::a,O,h=>⟨O,.refl _,PR.wp_mono S O (fun e b=>bq b) r h⟩
def PR.gsl (r:PR):ci:=
 match r.guard with
 | some (g,_)=>[g]
 | none=>[]
structure TW (S:FuncId->QQ->CS->Prop) (r:PR) (d:Nat) (O env1:AD) (e:EV) (f:CC):Prop where
 env1:env1=(d,e)::f.app O
 ok:f.ok O
 slot:∀ s t,f=.slot s t->s∈r.op.dem
 cell:∀ s off t,f=.cell s off t->(s∈r.op.slots∨∃ x∈r.op.slots,(O.get x).ref=some s)
 ref:∀ s,e.ref=some s->(s∈r.op.bads∨∃ x∈r.op.slots,(O.get x).ref=some s)
 new:r.op.isNew=true->e.ref=none∧O.noRef d=true
 xl:∀ s off t,f=.cell s off t->t.isXl=false
 again:∀ env2,GU r.op f (some d) O env2->(∀ g∈r.gsl,env2.get g=O.get g)->∀ K2:AD->Prop,K2 ((d,e)::f.app env2)->r.wp S env2 K2
theorem P6 {r:PR} {d:Nat} {O:AD} (o:r.dst=some d) (y:r.op.mov=true) (x:r.op.isNew=true->r.guard=none) (h:r.wp S O K):r.wp S O fun env1=>K env1∧∃ e f,TW S r d O env1 e f:=by
 have v:∀ (l:∀ a,(∀ g∈r.gsl,a.get g=O.get g)->∀ m:AD->Prop,(r.op.wp S a (some d) fun e env'=>m (env'.put (some d) e))->r.wp S a m),(r.op.wp S O (some d) fun e env'=>K (env'.put (some d) e))->r.op.wp S O (some d) fun e env'=>K (env'.put (some d) e)∧∃ z f,TW S r d O (env'.put (some d) e) z f:=by
  intro l B;refine AJ.wp_mono S O (some d) (fun e env' t=>?_) r.op (frame y B);obtain ⟨C,f,j⟩:=t;refine ⟨C,e,f,?_,j.ok,j.slot,j.cell,j.ref,fun p=>⟨(j.new p).1,(j.new p).2 d rfl⟩,j.xl,fun a A k m i=>?_⟩
  ·simp only [AD.put]; rw [j.env']
  ·exact l a k m (j.again a A _ i)
 unfold PR.wp at h ⊢;cases c:r.guard with
 | none=>
  rw [c] at h;rw [o] at h ⊢;refine v (fun a _ m i=>?_) h;unfold PR.wp;rw [c,o];exact i
 | some gb=>
  obtain ⟨g,b⟩:=gb;rw [c] at h;rw [o] at h ⊢;simp only at h ⊢;have k:g∈r.gsl:=by simp [PR.gsl,c]
  split at h
  ·rename_i q w;refine ⟨fun u=>v (fun a j m i=>?_) (h.1 u),fun u=>⟨h.2 u,.sk,.none,rfl,trivial,by simp,by simp,(fun s t=>by cases t),fun p=>?_,by simp,fun a _ j m i=>?_⟩⟩
   ·unfold PR.wp;rw [c,o];simp only;rw [j g k,w];exact ⟨fun _=>i,fun n=>by subst u; cases q <;> simp at n⟩
   ·rw [x p] at c; cases c
   ·unfold PR.wp;rw [c,o];simp only;rw [j g k,w];exact ⟨fun n=>by subst n; cases q <;> simp at u,fun _=>i⟩
  ·rename_i w;refine ⟨h,.sk,.none,rfl,trivial,by simp,by simp,(fun s t=>by cases t),fun p=>?_,by simp,fun a _ j m i=>?_⟩
   ·rw [x p] at c; cases c
   ·unfold PR.wp;rw [c,o];simp only;rw [j g k,w];exact i
  ·exact h.elim
end
section
variable {P:Program} {F0:Nat->Nat->Prop} {w0:W0} {N:Nat} {ops:Array Oper} {K:AD->Prop}
def Mn (F0:Nat->Nat->Prop) (w0:W0) (N:Nat) (O:AD):Prop:=∃ a w,a.tmps.size=N∧DI F0 w0 O a w
theorem Mn.congr {O b:AD} (h:Mn F0 w0 N O) (c:N2 O b):Mn F0 w0 N b:=by
 obtain ⟨a,w,d,e⟩:=h;exact ⟨a,w,d,e.congr c.1⟩
theorem Mn.list {O:AD} (h:Mn F0 w0 N O) {s:Nat} {t:TV} (b:O.get s=.ow t):∃ n es,t=.list n es:=by
 obtain ⟨a,w,_,G,c⟩:=h;have:=A9 c b (by simp);simp only [AY] at this;cases t <;> simp only [C1] at this;exact ⟨_,_,rfl⟩
theorem Z0 {o:Oper} {a:Act} {w:World} {X:Prop} (h:o.wp P a w (fun _ _=>X) (fun _ _ _=>False)):X:=by
 unfold Oper.wp at h;generalize (execOp a.eval o).run P w=r at h;cases r with
 | ok n w'=>
  cases n with
  | value v=>exact h
  | skip=>exact h
  | defer d=>exact h
  | enter f args=>
   rw [Oper.upon_enter] at h;obtain ⟨e,g,j,b,_⟩:=h [];cases e with
   | returned v=>exact b
   | panicked c=>exact b.elim
   | outgrown=>obtain ⟨_,_,i⟩:=b; exact i.elim
  | row r args=>
   rw [Oper.upon_row] at h;obtain ⟨v,g,b,_⟩:=h default [];exact b
  | _=>exact h.elim
 | halt x w'=>
  cases x <;> exact h.elim
theorem LF {O:AD} (c:Mn F0 w0 N O) {o:Oper} {r:PR} (b:Ng P N ops o r=true) (h:r.wp (AT P) O K):∃ env',K env'∧Mn F0 w0 N env':=by
 obtain ⟨a,w,i,j⟩:=c;have:=TJ (p:=none) (next:=fun _ _=>∃ env',K env'∧Mn F0 w0 N env') (Q:=fun _ _ _=>False) j ⟨i,by simp⟩ (by simp) b h fun env' d w' e f g=>⟨env',e,d,w',f.size,g⟩;split at this
 ·exact Z0 this
 ·exact this
end
def I1 (xs ys:ci):Bool:=xs.all fun x=>!ys.contains x
theorem DM {xs a:ci} (h:I1 xs a=true) {x:Nat} (b:x∈xs) (c:x∈a):False:=by
 simp only [I1,List.all_eq_true,Bool.not_eq_true',List.contains_eq_mem,decide_eq_false_iff_not] at h;exact h x b c
def PR.old (r:PR):ci:=
 if r.op.isNew then [] else r.dst.toList
def PR.movOk (D:ci) (r:PR):Bool:=
 r.op.mov&&r.dst.isSome&&(!r.op.isNew||r.guard.isNone)&&I1 r.op.bads D&&r.old.all D.contains
def UC (D:ci) (p q:PR):Bool:=
 PR.movOk D p&&PR.movOk D q&&I1 p.dst.toList (q.dst.toList++(q.op.slots++q.gsl))&&I1 q.dst.toList (p.op.slots++p.gsl)&&I1 p.op.dem (q.op.dem++q.gsl)&&I1 q.op.dem p.gsl
theorem F4 {op:AJ} {s:Nat} (h:s∈op.dem):s∈op.slots:=by
 cases op <;> simp only [AJ.dem,List.not_mem_nil] at h <;> simp only [AJ.slots]
 ·exact h
 ·exact IT h
theorem Y2 {op:AJ} {s:Nat} (h:s∈op.bads):s∈op.slots:=by
 cases op <;> simp only [AJ.bads,List.not_mem_nil] at h <;> simp only [AJ.slots]
 all_goals exact h
def JD (D:ci) (O:AD):Prop:=∀ d∈D,O.noRef d=true
theorem JD.congr {D:ci} {O a:AD} (h:JD D O) (b:N2 O a):JD D a:=fun d c=>by rw [←b.2]; exact h d c
theorem JD.no {D:ci} {O:AD} (h:JD D O) {x s:Nat} (a:(O.get x).ref=some s):s ∉ D:=fun b=>AD.noRef_ref s O (h s b) x a
section
variable {S:FuncId->QQ->CS->Prop}
theorem TW.jd {D:ci} {r:PR} {d:Nat} {O env1:AD} {e:EV} {f:CC} (h:TW S r d O env1 e f) (g:I1 r.op.bads D=true) (c:JD D O):JD D env1:=by
 intro x b;rw [h.env1,AD.noRef_cons,CC.noRef,c x b,Bool.and_true];refine Wm (fun s i a=>?_);subst a;rcases h.ref s i with j | ⟨y,_,k⟩
 ·exact DM g j b
 ·exact c.no k b
theorem CC.like (f:CC) {O:AD} (a:f.ok O) (g:∀ s t,O.get s=.ow t->∃ n es,t=.list n es) (h:∀ s b t,f=.cell s b t->t.isXl=false) (n:Nat):(O.get n).like (f.on n (O.get n)):=by
 cases f with
 | none=>exact .inl rfl
 | slot s t=>
  simp only [CC.on];split
  ·rename_i e; subst e;simp only [CC.ok] at a;obtain ⟨m,es,rfl⟩:=g s t a;exact .inr (.inl ⟨m,es,.inr ⟨a,rfl⟩⟩)
  ·exact .inl rfl
 | cell s b t=>
  simp only [CC.on];split
  ·rename_i e; subst e;obtain ⟨cs,j,d⟩:=a;rw [j];refine .inr (.inr ⟨cs,_,rfl,rfl,?_⟩);rw [List.map_set];refine List.ext_getElem? fun i=>?_;rw [List.getElem?_set];split
   ·rename_i e; subst e;rw [d7];have c:=(List.getElem?_eq_some_iff.1 d).1;rw [d1 c,List.getElem?_map,d];simp [A1.key,h _ _ _ rfl]
   ·rfl
  ·exact .inl rfl
end
theorem Qb {S:FuncId->QQ->CS->Prop} {r:PR} {O:AD} {K:AD->Prop} (h:r.wp S O K):∀ g∈r.gsl,∃ b,O.get g=b∧(∀ cs,b≠.bx cs)∧(∀ t,b≠.ow t)∧∀ cs,b≠.oag cs:=by
 intro g a;unfold PR.gsl at a;unfold PR.wp at h;split at a
 ·rename_i e b d;rw [d] at h;simp only [List.mem_singleton] at a;subst a;simp only at h;split at h
  ·rename_i q c; exact ⟨_,c,by simp,by simp,by simp⟩
  ·rename_i c; exact ⟨_,c,by simp,by simp,by simp⟩
  ·exact h.elim
 ·cases a
section
variable {P:Program} {F0:Nat->Nat->Prop} {w0:W0} {N:Nat} {ops:Array Oper} {K:AD->Prop} {D:ci}
theorem swap {O:AD} (hR:Mn F0 w0 N O) (hj:JD D O) {op oq:Oper} {p q:PR} (hp:Ng P N ops op p=true) (hq:Ng P N ops oq q=true) (J:UC D p q=true) {rs:List PR} (h:KL (AT P) K (p::q::rs) O):KL (AT P) K (q::p::rs) O:=by
 simp only [UC,PR.movOk,zzZ,Bool.or_eq_true,Bool.not_eq_true'] at J;obtain ⟨⟨⟨⟨⟨⟨⟨⟨⟨pm,pd⟩,pg⟩,pb⟩,pD⟩,⟨⟨⟨qm,qd⟩,qg⟩,qb⟩,qD⟩,c1⟩,c2⟩,c3⟩,c4⟩:=J;obtain ⟨z,hdp⟩:=Option.isSome_iff_exists.1 pd;obtain ⟨w,hdq⟩:=Option.isSome_iff_exists.1 qd;rw [hdp] at c1;rw [hdq] at c1 c2;simp only [Option.toList_some] at c1 c2;have hpq:z≠w:=fun e=>DM c1 (x:=z) (by simp) (by simp [e]);have B:z ∉ q.op.slots:=fun e=>DM c1 (x:=z) (by simp) (by simp [e]);have pngq:z ∉ q.gsl:=fun e=>DM c1 (x:=z) (by simp) (by simp [e]);have G:w ∉ p.op.slots:=fun e=>DM c2 (x:=w) (by simp) (by simp [e]);have qngp:w ∉ p.gsl:=fun e=>DM c2 (x:=w) (by simp) (by simp [e]);have dd:∀ s,s∈p.op.dem->s∈q.op.dem->False:=fun s a j=>DM c3 a (IT j);have dg1:∀ s,s∈p.op.dem->s∈q.gsl->False:=fun s a j=>DM c3 a (H7 j);have dg2:∀ s,s∈q.op.dem->s∈p.gsl->False:=fun s a j=>DM c4 a j;have oldp:p.op.isNew=true∨z∈D:=by
  cases y:p.op.isNew with
  | true=>exact .inl rfl
  | false=>exact .inr (by simpa [PR.old,y,hdp] using pD)
 have oldq:q.op.isNew=true∨w∈D:=by
  cases y:q.op.isNew with
  | true=>exact .inl rfl
  | false=>exact .inr (by simpa [PR.old,y,hdq] using qD)
 have pg':p.op.isNew=true->p.guard=none:=fun y=>by
  rcases pg with h | h
  ·rw [y] at h; cases h
  ·simpa using h
 have qg':q.op.isNew=true->q.guard=none:=fun y=>by
  rcases qg with h | h
  ·rw [y] at h; cases h
  ·simpa using h
 obtain ⟨F,heq,h⟩:=h;have hR':=hR.congr heq.symm;have hj':=hj.congr heq.symm;obtain ⟨env1,⟨⟨E,v,hw⟩,ep,I,Fp⟩,hR1⟩:=LF hR' hp (P6 hdp pm pg' h);have hRe1:=hR1.congr v.symm;have hj1:=Fp.jd pb hj';have hje1:=hj1.congr v.symm;obtain ⟨X1,⟨hK,eq,A,Fq⟩,_⟩:=LF hRe1 hq (P6 hdq qm qg' hw);have T:∀ n,E.get n=if z=n then ep else I.on n (F.get n):=fun n=>by
  rw [v.1,Fp.env1,AD.get_cons,CC.get]
 have L:∀ x s,(E.get x).ref=some s->s≠z:=by
  intro x s hx u;subst u;rcases oldp with y | Z
  ·refine AD.noRef_ref s E ?_ x hx;rw [v.2,Fp.env1,AD.noRef_cons,CC.noRef,(Fp.new y).2,Bool.and_true];exact Wm (fun s H _=>by rw [(Fp.new y).1] at H; cases H)
  ·exact hje1.no hx Z
 have nq':∀ x s,(F.get x).ref=some s->s≠w:=by
  intro x s hx u;subst u;rcases oldq with y | Z
  ·have a:=(Fq.new y).2;rw [v.2,Fp.env1,AD.noRef_cons,CC.noRef,zzZ] at a;exact AD.noRef_ref s F a.2 x hx
  ·exact hj'.no hx Z
 have lk:∀ n,n≠z->(E.get n).like (F.get n):=by
  intro n y;rw [T,d2 (fun e=>y e.symm)];exact (CC.like I Fp.ok (fun s t u=>hR'.list u) Fp.xl n).symm
 have fpdq:∀ e,I.on w e=e:=by
  intro e;have:=Fp.slot;have j:=Fp.cell;cases I with
  | none=>rfl
  | slot s t=>
   simp only [CC.on];rw [d2];intro H; subst H;exact G (F4 (this _ _ rfl))
  | cell s f t=>
   simp only [CC.on];rw [d2];intro H; subst H;rcases j _ _ _ rfl with k | ⟨x,_,C⟩
   ·exact G k
   ·exact nq' x _ C rfl
 have M:∀ e,A.on z e=e:=by
  intro e;have:=Fq.slot;have j:=Fq.cell;cases A with
  | none=>rfl
  | slot s t=>
   simp only [CC.on];rw [d2];intro H; subst H;exact B (F4 (this _ _ rfl))
  | cell s f t=>
   simp only [CC.on];rw [d2];intro H; subst H;rcases j _ _ _ rfl with k | ⟨x,_,C⟩
   ·exact B k
   ·exact L x _ C rfl
 have m:A.ok F:=by
  have i:=Fq.ok;have hsl:=Fq.slot;have hc:=M;cases A with
  | none=>trivial
  | slot s t=>
   simp only [CC.ok] at i ⊢;have u:=hsl s t rfl;have c:z≠s:=fun e=>B (e ▸ F4 u);rw [T,d2 c] at i;have a:=Fp.slot;have j:=Fp.ok;cases I with
   | none=>exact i
   | slot s' o=>
    simp only [CC.on] at i;rw [d2 (fun (e:s'=s)=>dd s' (a _ _ rfl) (by rw [e]; exact u))] at i;exact i
   | cell s' f o=>
    simp only [CC.on] at i;split at i
    ·rename_i e;subst e;obtain ⟨cs,k,_⟩:=j;rw [k] at i;cases i
    ·exact i
  | cell s f t=>
   obtain ⟨cs,a,j⟩:=i;have c:z≠s:=fun e=>by
    have:=hc (.bx [⟨true,.undef⟩,⟨true,.undef⟩]);rcases Fq.cell s f t rfl with k | ⟨x,_,C⟩
    ·exact B (e ▸ k)
    ·exact L x s C e.symm
   rw [T,d2 c] at a;have k:=Fp.ok;cases I with
   | none=>exact ⟨cs,a,j⟩
   | slot s' o=>
    simp only [CC.on] at a;split at a
    ·cases a
    ·exact ⟨cs,a,j⟩
   | cell s' l o=>
    simp only [CC.on] at a;split at a
    ·rename_i e;subst e;obtain ⟨cs',C,h5⟩:=k;rw [C] at a;simp only [EV.bx.injEq] at a;subst a;rw [List.getElem?_set] at j;split at j
     ·split at j
      ·simp at j
      ·cases j
     ·exact ⟨cs',C,j⟩
    ·exact ⟨cs,a,j⟩
 have L1:GU q.op A (some w) E F:=by
  refine ⟨fun s u=>lk s (fun e=>B (e ▸ u)),fun s u r W=>lk r (L s r W),fun s u Y=>?_,m,fun y d Z R=>?_⟩
  ·have c:z≠s:=fun e=>B (e ▸ F4 u);rw [T,d2 c];have a:=Fp.slot;have j:=Fp.ok;cases I with
   | none=>rfl
   | slot s' o=>
    simp only [CC.on];rw [d2 (fun (e:s'=s)=>dd s' (a _ _ rfl) (by rw [e]; exact u))]
   | cell s' f o=>
    simp only [CC.on];split
    ·rename_i e;subst e;obtain ⟨cs,k,_⟩:=j;exfalso;refine Y (cs.set f ⟨false,o⟩) ?_;rw [T,d2 c];simp [CC.on,k]
    ·rfl
  ·rw [v.2,Fp.env1,AD.noRef_cons,CC.noRef,zzZ] at R;exact R.2
 have hgq:∀ g∈q.gsl,F.get g=E.get g:=by
  intro g hg;have c:z≠g:=fun e=>pngq (e ▸ hg);obtain ⟨b,W,hnx,_⟩:=Qb hw g hg;have Q:=W;rw [T,d2 c] at Q;rw [T,d2 c];have a:=Fp.slot;have j:=Fp.ok;cases I with
  | none=>rfl
  | slot s' o=>
   simp only [CC.on];rw [d2 (fun (e:s'=g)=>dg1 s' (a _ _ rfl) (by rw [e]; exact hg))]
  | cell s' f o=>
   simp only [CC.on] at Q ⊢;split
   ·rename_i e;subst e;obtain ⟨cs,k,_⟩:=j;rw [k] at Q;simp at Q;exact absurd Q.symm (hnx _)
   ·rfl
 have hgp:∀ g∈p.gsl,AD.get ((w,eq)::A.app F) g=F.get g:=by
  intro g hg;have c:w≠g:=fun e=>qngp (e ▸ hg);obtain ⟨b,W,hnx,_⟩:=Qb h g hg;rw [AD.get_cons,d2 c,CC.get];have a:=Fq.slot;cases A with
  | none=>rfl
  | slot s' o=>
   simp only [CC.on];rw [d2 (fun (e:s'=g)=>dg2 s' (a _ _ rfl) (by rw [e]; exact hg))]
  | cell s' f o=>
   simp only [CC.on];split
   ·rename_i e;subst e;obtain ⟨cs,k,_⟩:=m;rw [k] at W;exact absurd W.symm (hnx _)
   ·rfl
 have X:∀ s f t l o,I=.cell s f t->A=.cell s l o->f≠l:=by
  intro s f t l o a j ho;subst ho;have k:=Fq.ok;have C:=Fp.ok;have h5:=M;rw [a] at C;rw [j] at k;obtain ⟨cs,V,h7⟩:=C;obtain ⟨ds,h8,h9⟩:=k;have c:z≠s:=fun e=>by
   rcases Fq.cell s f o j with k | ⟨x,_,C⟩
   ·exact B (e ▸ k)
   ·exact L x s C e.symm
  rw [T,d2 c,a] at h8;simp only [CC.on,if_true,V,EV.bx.injEq] at h8;subst h8;rw [List.getElem?_set,d1 rfl] at h9;split at h9
  ·simp at h9
  ·cases h9
 have g2:∀ n,AD.get ((w,eq)::A.app F) n=if w=n then eq else A.on n (F.get n):=fun n=>by
  rw [AD.get_cons,CC.get]
 have lk2:∀ n,n≠w->(F.get n).like (AD.get ((w,eq)::A.app F) n):=by
  intro n y;rw [g2,d2 (fun e=>y e.symm)];exact CC.like A m (fun s t u=>hR'.list u) Fq.xl n
 have L2:GU p.op I (some z) F ((w,eq)::A.app F):=by
  refine ⟨fun s u=>lk2 s (fun e=>G (e ▸ u)),fun s u r W=>lk2 r (nq' s r W),fun s u Y=>?_,?_,fun y d Z R=>?_⟩
  ·have c:w≠s:=fun e=>G (e ▸ F4 u);rw [g2,d2 c];have a:=Fq.slot;cases A with
   | none=>rfl
   | slot s' o=>
    simp only [CC.on];rw [d2 (fun (e:s'=s)=>dd s' (by rw [e]; exact u) (a _ _ rfl))]
   | cell s' f o=>
    simp only [CC.on];split
    ·rename_i e;subst e;obtain ⟨cs,k,_⟩:=m;exact absurd k (Y cs)
    ·rfl
  ·have i:=Fp.ok;have hsl:=Fp.slot;have hcl:=Fp.cell;cases I with
   | none=>trivial
   | slot s t=>
    simp only [CC.ok] at i ⊢;have u:=hsl s t rfl;have c:w≠s:=fun e=>G (e ▸ F4 u);rw [g2,d2 c];have a:=Fq.slot;cases A with
    | none=>exact i
    | slot s' o=>
     simp only [CC.on];rw [d2 (fun (e:s'=s)=>dd s' (by rw [e]; exact u) (a _ _ rfl))];exact i
    | cell s' f o=>
     simp only [CC.on];split
     ·rename_i e;subst e;obtain ⟨cs,k,_⟩:=m;rw [k] at i;cases i
     ·exact i
   | cell s f t=>
    obtain ⟨cs,a,j⟩:=i;have c:w≠s:=fun e=>by
     rcases hcl s f t rfl with k | ⟨x,_,C⟩
     ·exact G (e ▸ k)
     ·exact nq' x s C e.symm
    simp only [CC.ok];rw [g2,d2 c];have k:=m;cases A with
    | none=>exact ⟨cs,a,j⟩
    | slot s' o=>
     simp only [CC.on];split
     ·rename_i e;subst e;simp only [CC.ok] at k;rw [k] at a;cases a
     ·exact ⟨cs,a,j⟩
    | cell s' l o=>
     simp only [CC.on];split
     ·rename_i e;subst e;rw [a];have:=X s' f t l o rfl rfl;refine ⟨_,rfl,?_⟩;rw [List.getElem?_set,d2 (fun e=>this e.symm)];exact j
     ·exact ⟨cs,a,j⟩
  ·simp only [zzY] at Z;subst Z;rw [AD.noRef_cons,CC.noRef,R,Bool.and_true];refine Wm (fun s H=>?_);rcases Fq.ref s H with a | ⟨x,_,j⟩
   ·exact fun e=>B (e ▸ Y2 a)
   ·exact L x s j
 refine ⟨F,heq,Fq.again F L1 hgq _ ⟨_,.refl _,Fp.again _ L2 hgp _ (OC hK ?_)⟩⟩;rw [Fq.env1];refine ⟨fun n=>?_,fun d=>?_⟩
 ·rw [AD.get_cons,CC.get,T,AD.get_cons,CC.get,g2];by_cases a:w=n
  ·subst a;rw [d1 rfl,d2 hpq,d1 rfl,fpdq]
  ·rw [d2 a,d2 a];by_cases j:z=n
   ·subst j;rw [d1 rfl,d1 rfl,M]
   ·rw [d2 j,d2 j];have k:=Fp.ok;have C:=Fp.slot;have h5:=Fq.slot;cases I with
    | none=>rfl
    | slot s t=>
     cases A with
     | none=>rfl
     | slot s' o=>
      have c:s≠s':=fun e=>dd s (C _ _ rfl) (e ▸ h5 _ _ rfl);simp only [CC.on];by_cases E:s=n <;> by_cases U:s'=n <;> simp [E,U];exact absurd (E.trans U.symm) c
     | cell s' l o=>
      have c:s≠s':=fun e=>by
       obtain ⟨cs,V,_⟩:=m;simp only [CC.ok] at k;rw [←e,k] at V;cases V
      simp only [CC.on];by_cases E:s=n <;> by_cases U:s'=n <;> simp [E,U]
    | cell s f t=>
     cases A with
     | none=>rfl
     | slot s' o=>
      have c:s≠s':=fun e=>by
       obtain ⟨cs,V,_⟩:=k;simp only [CC.ok] at m;rw [e,m] at V;cases V
      simp only [CC.on];by_cases E:s=n <;> by_cases U:s'=n <;> simp [E,U]
     | cell s' l o=>
      obtain ⟨cs,V,_⟩:=k;simp only [CC.on];by_cases E:s=n
      ·by_cases U:s'=n
       ·subst E;subst U;have:=X s' f t l o rfl rfl;simp only [if_true,V];rw [List.set_comm _ _ this]
       ·simp [E,U]
      ·simp [E]
 ·rw [AD.noRef_cons,CC.noRef,v.2,Fp.env1,AD.noRef_cons,CC.noRef,AD.noRef_cons,CC.noRef,AD.noRef_cons,CC.noRef];cases EV.noR d eq <;> cases EV.noR d ep <;> rfl
end
end Go.Sf
