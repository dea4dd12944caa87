/- Two operations of a region that may change places. -/
import Derived.Test.YtlbmpkmkmkgniaaGreatDoorSfFrame
set_option linter.all false
namespace Go.Sf
open Go.RowKit (Below)
theorem AC.noRef_cons (d k:Nat) (e:EV) (O:AC):AC.noRef d ((k,e)::O)=(e.noR d&&AC.noRef d O):=rfl
theorem VP {d:Nat} {e:EV} (h:∀ s,e.ref=some s->s≠d):e.noR d=true:=by
 unfold EV.noR;split
 ·rename_i s a; simpa using fun e=>h s a e.symm
 ·rfl
theorem B3.noRef (f:B3) (O:AC) (d:Nat):AC.noRef d (f.app O)=AC.noRef d O:=by
 cases f with
 | none=>rfl
 | slot s t=>simp [B3.app,AC.noRef_cons,EV.noR,EV.ref]
 | cell s a t=>
  simp only [B3.app];split
  ·simp [AC.noRef_cons,EV.noR,EV.ref]
  ·rfl
def B3.on (f:B3) (n:Nat) (e:EV):EV:=
 match f with
 | .none=>e
 | .slot s t=>if s=n then .tv t else e
 | .cell s off t=>if s=n then (match e with | .bx cs=>.bx (cs.set off ⟨false,t⟩) | e=>e) else e
theorem B3.get (f:B3) (O:AC) (n:Nat):AC.get (f.app O) n=f.on n (O.get n):=by
 cases f with
 | none=>rfl
 | slot s t=>simp only [B3.app,AC.get_cons,B3.on]
 | cell s b t=>
  simp only [B3.app,B3.on];cases a:O.get s with
  | bx cs=>
   simp only [AC.get_cons];split
   ·rename_i e; subst e; rw [a]
   ·rfl
  | _=>
   simp only;split
   ·rename_i e; subst e; rw [a]
   ·rfl
def M4 (O env2:AC):Prop:=(∀ n,O.get n=env2.get n)∧∀ d,O.noRef d=env2.noRef d
theorem M4.refl (O:AC):M4 O O:=⟨fun _=>rfl,fun _=>rfl⟩
theorem M4.trans {a b c:AC} (h:M4 a b) (e:M4 b c):M4 a c:=⟨fun n=>(h.1 n).trans (e.1 n),fun d=>(h.2 d).trans (e.2 d)⟩
theorem M4.symm {a b:AC} (h:M4 a b):M4 b a:=⟨fun n=>(h.1 n).symm,fun d=>(h.2 d).symm⟩
theorem DE.congr {F0:Nat->Nat->Prop} {w0:W0} {O b:AC} {a:Act} {w:World} (h:DE F0 w0 O a w) (c:∀ n,O.get n=b.get n):DE F0 w0 b a w:=by
 obtain ⟨G,h⟩:=h;refine ⟨G,h.uniq,h.lt,h.below,h.defers,fun q d=>?_,fun q d=>?_,fun q=>?_⟩
 ·rw [←c]; exact h.dom q d
 ·rw [←c];refine AT.kept (O9 _ _) (fun _=>rfl) (fun _ _ _ _=>rfl) (fun r f g ⟨cs,e⟩=>⟨⟨cs,by rw [c]; exact e⟩,rfl⟩) (fun r i g ⟨p,j⟩=>⟨⟨p,(AC.xat_of (c r)).trans j⟩,fun _ hv=>hv⟩) (h.slots q d)
 ·rw [←c]; exact h.wf q
def Jl (S:FuncId->QQ->CM->Prop) (K:AC->Prop):List PR->AC->Prop
 | [],O=>∃ e,M4 e O∧K e
 | r::rs,O=>∃ e,M4 e O∧r.wp S e (Jl S K rs)
section
variable {S:FuncId->QQ->CM->Prop} {K:AC->Prop}
theorem ND {b:List PR} {O a:AC} (h:Jl S K b O) (f:M4 O a):Jl S K b a:=by
 cases b with
 | nil=>obtain ⟨e,c,d⟩:=h; exact ⟨e,c.trans f,d⟩
 | cons r b=>obtain ⟨e,c,d⟩:=h; exact ⟨e,c.trans f,d⟩
theorem Z4:∀ {a:List PR} {O:AC},wpOps S K a O->Jl S K a O
 | [],O,h=>⟨O,.refl _,h⟩
 | r::a,O,h=>⟨O,.refl _,PR.wp_mono S O (fun e b=>Z4 b) r h⟩
def PR.gsl (r:PR):ci:=
 match r.guard with
 | some (g,_)=>[g]
 | none=>[]
structure R3 (S:FuncId->QQ->CM->Prop) (r:PR) (d:Nat) (O env1:AC) (e:EV) (f:B3):Prop where
 env1:env1=(d,e)::f.app O
 ok:f.ok O
 slot:∀ s t,f=.slot s t->s∈r.op.dem
 cell:∀ s off t,f=.cell s off t->(s∈r.op.slots∨∃ x∈r.op.slots,(O.get x).ref=some s)
 ref:∀ s,e.ref=some s->(s∈r.op.bads∨∃ x∈r.op.slots,(O.get x).ref=some s)
 new:r.op.isNew=true->e.ref=none∧O.noRef d=true
 xl:∀ s off t,f=.cell s off t->t.isXl=false
 again:∀ env2,F8 r.op f (some d) O env2->(∀ g∈r.gsl,env2.get g=O.get g)->∀ K2:AC->Prop,K2 ((d,e)::f.app env2)->r.wp S env2 K2
theorem Ov {r:PR} {d:Nat} {O:AC} (o:r.dst=some d) (y:r.op.mov=true) (x:r.op.isNew=true->r.guard=none) (h:r.wp S O K):r.wp S O fun env1=>K env1∧∃ e f,R3 S r d O env1 e f:=by
 have v:∀ (l:∀ a,(∀ g∈r.gsl,a.get g=O.get g)->∀ m:AC->Prop,(r.op.wp S a (some d) fun e env'=>m (env'.put (some d) e))->r.wp S a m),(r.op.wp S O (some d) fun e env'=>K (env'.put (some d) e))->r.op.wp S O (some d) fun e env'=>K (env'.put (some d) e)∧∃ z f,R3 S r d O (env'.put (some d) e) z f:=by
  intro l B;refine AH.wp_mono S O (some d) (fun e env' t=>?_) r.op (frame y B);obtain ⟨C,f,j⟩:=t;refine ⟨C,e,f,?_,j.ok,j.slot,j.cell,j.ref,fun p=>⟨(j.new p).1,(j.new p).2 d rfl⟩,j.xl,fun a A k m i=>?_⟩
  ·simp only [AC.put]; rw [j.env']
  ·exact l a k m (j.again a A _ i)
 unfold PR.wp at h ⊢;cases c:r.guard with
 | none=>
  rw [c] at h;rw [o] at h ⊢;refine v (fun a _ m i=>?_) h;unfold PR.wp;rw [c,o];exact i
 | some gb=>
  obtain ⟨g,b⟩:=gb;rw [c] at h;rw [o] at h ⊢;simp only at h ⊢;have k:g∈r.gsl:=by simp [PR.gsl,c]
  split at h
  ·rename_i q w;refine ⟨fun u=>v (fun a j m i=>?_) (h.1 u),fun u=>⟨h.2 u,.sk,.none,rfl,trivial,by simp,by simp,(fun s t=>by cases t),fun p=>?_,by simp,fun a _ j m i=>?_⟩⟩
   ·unfold PR.wp;rw [c,o];simp only;rw [j g k,w];exact ⟨fun _=>i,fun n=>by subst u; cases q <;> simp at n⟩
   ·rw [x p] at c; cases c
   ·unfold PR.wp;rw [c,o];simp only;rw [j g k,w];exact ⟨fun n=>by subst n; cases q <;> simp at u,fun _=>i⟩
  ·rename_i w;refine ⟨h,.sk,.none,rfl,trivial,by simp,by simp,(fun s t=>by cases t),fun p=>?_,by simp,fun a _ j m i=>?_⟩
   ·rw [x p] at c; cases c
   ·unfold PR.wp;rw [c,o];simp only;rw [j g k,w];exact i
  ·exact h.elim
end
section
variable {P:Program} {F0:Nat->Nat->Prop} {w0:W0} {N:Nat} {ops:Array Oper} {K:AC->Prop}
def L0 (F0:Nat->Nat->Prop) (w0:W0) (N:Nat) (O:AC):Prop:=∃ a w,a.tmps.size=N∧DE F0 w0 O a w
theorem L0.congr {O b:AC} (h:L0 F0 w0 N O) (c:M4 O b):L0 F0 w0 N b:=by
 obtain ⟨a,w,d,e⟩:=h;exact ⟨a,w,d,e.congr c.1⟩
theorem L0.list {O:AC} (h:L0 F0 w0 N O) {s:Nat} {t:TV} (b:O.get s=.ow t):∃ n es,t=.list n es:=by
 obtain ⟨a,w,_,G,c⟩:=h;have:=A5 c b (by simp);simp only [AT] at this;cases t <;> simp only [CW] at this;exact ⟨_,_,rfl⟩
theorem YS {o:Oper} {a:Act} {w:World} {X:Prop} (h:o.wp P a w (fun _ _=>X) (fun _ _ _=>False)):X:=by
 unfold Oper.wp at h;generalize (execOp a.eval o).run P w=r at h;cases r with
 | ok n w'=>
  cases n with
  | value v=>exact h
  | skip=>exact h
  | defer d=>exact h
  | enter f args=>
   rw [Oper.upon_enter] at h;obtain ⟨e,g,j,b,_⟩:=h [];cases e with
   | returned v=>exact b
   | panicked c=>exact b.elim
   | outgrown=>obtain ⟨_,_,i⟩:=b; exact i.elim
  | row r args=>
   rw [Oper.upon_row] at h;obtain ⟨v,g,b,_⟩:=h default [];exact b
  | _=>exact h.elim
 | halt x w'=>
  cases x <;> exact h.elim
theorem Kh {O:AC} (c:L0 F0 w0 N O) {o:Oper} {r:PR} (b:Mj P N ops o r=true) (h:r.wp (AR P) O K):∃ env',K env'∧L0 F0 w0 N env':=by
 obtain ⟨a,w,i,j⟩:=c;have:=Rv (p:=none) (next:=fun _ _=>∃ env',K env'∧L0 F0 w0 N env') (Q:=fun _ _ _=>False) j ⟨i,by simp⟩ (by simp) b h fun env' d w' e f g=>⟨env',e,d,w',f.size,g⟩;split at this
 ·exact YS this
 ·exact this
end
def IT (xs ys:ci):Bool:=xs.all fun x=>!ys.contains x
theorem DK {xs a:ci} (h:IT xs a=true) {x:Nat} (b:x∈xs) (c:x∈a):False:=by
 simp only [IT,List.all_eq_true,Bool.not_eq_true',List.contains_eq_mem,decide_eq_false_iff_not] at h;exact h x b c
def PR.old (r:PR):ci:=
 if r.op.isNew then [] else r.dst.toList
def PR.movOk (D:ci) (r:PR):Bool:=
 r.op.mov&&r.dst.isSome&&(!r.op.isNew||r.guard.isNone)&&IT r.op.bads D&&r.old.all D.contains
def Si (D:ci) (p q:PR):Bool:=
 PR.movOk D p&&PR.movOk D q&&IT p.dst.toList (q.dst.toList++(q.op.slots++q.gsl))&&IT q.dst.toList (p.op.slots++p.gsl)&&IT p.op.dem (q.op.dem++q.gsl)&&IT q.op.dem p.gsl
theorem FU {op:AH} {s:Nat} (h:s∈op.dem):s∈op.slots:=by
 cases op <;> simp only [AH.dem,List.not_mem_nil] at h <;> simp only [AH.slots]
 ·exact h
 ·exact H2 h
theorem XY {op:AH} {s:Nat} (h:s∈op.bads):s∈op.slots:=by
 cases op <;> simp only [AH.bads,List.not_mem_nil] at h <;> simp only [AH.slots]
 all_goals exact h
def JD (D:ci) (O:AC):Prop:=∀ d∈D,O.noRef d=true
theorem JD.congr {D:ci} {O a:AC} (h:JD D O) (b:M4 O a):JD D a:=fun d c=>by rw [←b.2]; exact h d c
theorem JD.no {D:ci} {O:AC} (h:JD D O) {x s:Nat} (a:(O.get x).ref=some s):s ∉ D:=fun b=>AC.noRef_ref s O (h s b) x a
section
variable {S:FuncId->QQ->CM->Prop}
theorem R3.jd {D:ci} {r:PR} {d:Nat} {O env1:AC} {e:EV} {f:B3} (h:R3 S r d O env1 e f) (g:IT r.op.bads D=true) (c:JD D O):JD D env1:=by
 intro x b;rw [h.env1,AC.noRef_cons,B3.noRef,c x b,Bool.and_true];refine VP (fun s i a=>?_);subst a;rcases h.ref s i with j | ⟨y,_,k⟩
 ·exact DK g j b
 ·exact c.no k b
theorem B3.like (f:B3) {O:AC} (a:f.ok O) (g:∀ s t,O.get s=.ow t->∃ n es,t=.list n es) (h:∀ s b t,f=.cell s b t->t.isXl=false) (n:Nat):(O.get n).like (f.on n (O.get n)):=by
 cases f with
 | none=>exact .inl rfl
 | slot s t=>
  simp only [B3.on];split
  ·rename_i e; subst e;simp only [B3.ok] at a;obtain ⟨m,es,rfl⟩:=g s t a;exact .inr (.inl ⟨m,es,.inr ⟨a,rfl⟩⟩)
  ·exact .inl rfl
 | cell s b t=>
  simp only [B3.on];split
  ·rename_i e; subst e;obtain ⟨cs,j,d⟩:=a;rw [j];refine .inr (.inr ⟨cs,_,rfl,rfl,?_⟩);rw [List.map_set];refine List.ext_getElem? fun i=>?_;rw [List.getElem?_set];split
   ·rename_i e; subst e;rw [d7];have c:=(List.getElem?_eq_some_iff.1 d).1;rw [d1 c,List.getElem?_map,d];simp [AV.key,h _ _ _ rfl]
   ·rfl
  ·exact .inl rfl
end
theorem PU {S:FuncId->QQ->CM->Prop} {r:PR} {O:AC} {K:AC->Prop} (h:r.wp S O K):∀ g∈r.gsl,∃ b,O.get g=b∧(∀ cs,b≠.bx cs)∧(∀ t,b≠.ow t)∧∀ cs,b≠.oag cs:=by
 intro g a;unfold PR.gsl at a;unfold PR.wp at h;split at a
 ·rename_i e b d;rw [d] at h;simp only [List.mem_singleton] at a;subst a;simp only at h;split at h
  ·rename_i q c; exact ⟨_,c,by simp,by simp,by simp⟩
  ·rename_i c; exact ⟨_,c,by simp,by simp,by simp⟩
  ·exact h.elim
 ·cases a
section
variable {P:Program} {F0:Nat->Nat->Prop} {w0:W0} {N:Nat} {ops:Array Oper} {K:AC->Prop} {D:ci}
theorem swap {O:AC} (hR:L0 F0 w0 N O) (hj:JD D O) {op oq:Oper} {p q:PR} (hp:Mj P N ops op p=true) (hq:Mj P N ops oq q=true) (J:Si D p q=true) {rs:List PR} (h:Jl (AR P) K (p::q::rs) O):Jl (AR P) K (q::p::rs) O:=by
 simp only [Si,PR.movOk,zzZ,Bool.or_eq_true,Bool.not_eq_true'] at J;obtain ⟨⟨⟨⟨⟨⟨⟨⟨⟨pm,pd⟩,pg⟩,pb⟩,pD⟩,⟨⟨⟨qm,qd⟩,qg⟩,qb⟩,qD⟩,c1⟩,c2⟩,c3⟩,c4⟩:=J;obtain ⟨z,hdp⟩:=Option.isSome_iff_exists.1 pd;obtain ⟨w,hdq⟩:=Option.isSome_iff_exists.1 qd;rw [hdp] at c1;rw [hdq] at c1 c2;simp only [Option.toList_some] at c1 c2;have hpq:z≠w:=fun e=>DK c1 (x:=z) (by simp) (by simp [e]);have B:z ∉ q.op.slots:=fun e=>DK c1 (x:=z) (by simp) (by simp [e]);have pngq:z ∉ q.gsl:=fun e=>DK c1 (x:=z) (by simp) (by simp [e]);have G:w ∉ p.op.slots:=fun e=>DK c2 (x:=w) (by simp) (by simp [e]);have qngp:w ∉ p.gsl:=fun e=>DK c2 (x:=w) (by simp) (by simp [e]);have dd:∀ s,s∈p.op.dem->s∈q.op.dem->False:=fun s a j=>DK c3 a (H2 j);have dg1:∀ s,s∈p.op.dem->s∈q.gsl->False:=fun s a j=>DK c3 a (HQ j);have dg2:∀ s,s∈q.op.dem->s∈p.gsl->False:=fun s a j=>DK c4 a j;have oldp:p.op.isNew=true∨z∈D:=by
  cases y:p.op.isNew with
  | true=>exact .inl rfl
  | false=>exact .inr (by simpa [PR.old,y,hdp] using pD)
 have oldq:q.op.isNew=true∨w∈D:=by
  cases y:q.op.isNew with
  | true=>exact .inl rfl
  | false=>exact .inr (by simpa [PR.old,y,hdq] using qD)
 have pg':p.op.isNew=true->p.guard=none:=fun y=>by
  rcases pg with h | h
  ·rw [y] at h; cases h
  ·simpa using h
 have qg':q.op.isNew=true->q.guard=none:=fun y=>by
  rcases qg with h | h
  ·rw [y] at h; cases h
  ·simpa using h
 obtain ⟨F,heq,h⟩:=h;have hR':=hR.congr heq.symm;have hj':=hj.congr heq.symm;obtain ⟨env1,⟨⟨E,v,hw⟩,ep,I,Fp⟩,hR1⟩:=Kh hR' hp (Ov hdp pm pg' h);have hRe1:=hR1.congr v.symm;have hj1:=Fp.jd pb hj';have hje1:=hj1.congr v.symm;obtain ⟨X1,⟨hK,eq,A,Fq⟩,_⟩:=Kh hRe1 hq (Ov hdq qm qg' hw);have T:∀ n,E.get n=if z=n then ep else I.on n (F.get n):=fun n=>by
  rw [v.1,Fp.env1,AC.get_cons,B3.get]
 have L:∀ x s,(E.get x).ref=some s->s≠z:=by
  intro x s hx u;subst u;rcases oldp with y | Z
  ·refine AC.noRef_ref s E ?_ x hx;rw [v.2,Fp.env1,AC.noRef_cons,B3.noRef,(Fp.new y).2,Bool.and_true];exact VP (fun s H _=>by rw [(Fp.new y).1] at H; cases H)
  ·exact hje1.no hx Z
 have nq':∀ x s,(F.get x).ref=some s->s≠w:=by
  intro x s hx u;subst u;rcases oldq with y | Z
  ·have a:=(Fq.new y).2;rw [v.2,Fp.env1,AC.noRef_cons,B3.noRef,zzZ] at a;exact AC.noRef_ref s F a.2 x hx
  ·exact hj'.no hx Z
 have lk:∀ n,n≠z->(E.get n).like (F.get n):=by
  intro n y;rw [T,d2 (fun e=>y e.symm)];exact (B3.like I Fp.ok (fun s t u=>hR'.list u) Fp.xl n).symm
 have fpdq:∀ e,I.on w e=e:=by
  intro e;have:=Fp.slot;have j:=Fp.cell;cases I with
  | none=>rfl
  | slot s t=>
   simp only [B3.on];rw [d2];intro H; subst H;exact G (FU (this _ _ rfl))
  | cell s f t=>
   simp only [B3.on];rw [d2];intro H; subst H;rcases j _ _ _ rfl with k | ⟨x,_,C⟩
   ·exact G k
   ·exact nq' x _ C rfl
 have M:∀ e,A.on z e=e:=by
  intro e;have:=Fq.slot;have j:=Fq.cell;cases A with
  | none=>rfl
  | slot s t=>
   simp only [B3.on];rw [d2];intro H; subst H;exact B (FU (this _ _ rfl))
  | cell s f t=>
   simp only [B3.on];rw [d2];intro H; subst H;rcases j _ _ _ rfl with k | ⟨x,_,C⟩
   ·exact B k
   ·exact L x _ C rfl
 have m:A.ok F:=by
  have i:=Fq.ok;have hsl:=Fq.slot;have hc:=M;cases A with
  | none=>trivial
  | slot s t=>
   simp only [B3.ok] at i ⊢;have u:=hsl s t rfl;have c:z≠s:=fun e=>B (e ▸ FU u);rw [T,d2 c] at i;have a:=Fp.slot;have j:=Fp.ok;cases I with
   | none=>exact i
   | slot s' o=>
    simp only [B3.on] at i;rw [d2 (fun (e:s'=s)=>dd s' (a _ _ rfl) (by rw [e]; exact u))] at i;exact i
   | cell s' f o=>
    simp only [B3.on] at i;split at i
    ·rename_i e;subst e;obtain ⟨cs,k,_⟩:=j;rw [k] at i;cases i
    ·exact i
  | cell s f t=>
   obtain ⟨cs,a,j⟩:=i;have c:z≠s:=fun e=>by
    have:=hc (.bx [⟨true,.undef⟩,⟨true,.undef⟩]);rcases Fq.cell s f t rfl with k | ⟨x,_,C⟩
    ·exact B (e ▸ k)
    ·exact L x s C e.symm
   rw [T,d2 c] at a;have k:=Fp.ok;cases I with
   | none=>exact ⟨cs,a,j⟩
   | slot s' o=>
    simp only [B3.on] at a;split at a
    ·cases a
    ·exact ⟨cs,a,j⟩
   | cell s' l o=>
    simp only [B3.on] at a;split at a
    ·rename_i e;subst e;obtain ⟨cs',C,h5⟩:=k;rw [C] at a;simp only [EV.bx.injEq] at a;subst a;rw [List.getElem?_set] at j;split at j
     ·split at j
      ·simp at j
      ·cases j
     ·exact ⟨cs',C,j⟩
    ·exact ⟨cs,a,j⟩
 have L1:F8 q.op A (some w) E F:=by
  refine ⟨fun s u=>lk s (fun e=>B (e ▸ u)),fun s u r W=>lk r (L s r W),fun s u Y=>?_,m,fun y d Z R=>?_⟩
  ·have c:z≠s:=fun e=>B (e ▸ FU u);rw [T,d2 c];have a:=Fp.slot;have j:=Fp.ok;cases I with
   | none=>rfl
   | slot s' o=>
    simp only [B3.on];rw [d2 (fun (e:s'=s)=>dd s' (a _ _ rfl) (by rw [e]; exact u))]
   | cell s' f o=>
    simp only [B3.on];split
    ·rename_i e;subst e;obtain ⟨cs,k,_⟩:=j;exfalso;refine Y (cs.set f ⟨false,o⟩) ?_;rw [T,d2 c];simp [B3.on,k]
    ·rfl
  ·rw [v.2,Fp.env1,AC.noRef_cons,B3.noRef,zzZ] at R;exact R.2
 have hgq:∀ g∈q.gsl,F.get g=E.get g:=by
  intro g hg;have c:z≠g:=fun e=>pngq (e ▸ hg);obtain ⟨b,W,hnx,_⟩:=PU hw g hg;have Q:=W;rw [T,d2 c] at Q;rw [T,d2 c];have a:=Fp.slot;have j:=Fp.ok;cases I with
  | none=>rfl
  | slot s' o=>
   simp only [B3.on];rw [d2 (fun (e:s'=g)=>dg1 s' (a _ _ rfl) (by rw [e]; exact hg))]
  | cell s' f o=>
   simp only [B3.on] at Q ⊢;split
   ·rename_i e;subst e;obtain ⟨cs,k,_⟩:=j;rw [k] at Q;simp at Q;exact absurd Q.symm (hnx _)
   ·rfl
 have hgp:∀ g∈p.gsl,AC.get ((w,eq)::A.app F) g=F.get g:=by
  intro g hg;have c:w≠g:=fun e=>qngp (e ▸ hg);obtain ⟨b,W,hnx,_⟩:=PU h g hg;rw [AC.get_cons,d2 c,B3.get];have a:=Fq.slot;cases A with
  | none=>rfl
  | slot s' o=>
   simp only [B3.on];rw [d2 (fun (e:s'=g)=>dg2 s' (a _ _ rfl) (by rw [e]; exact hg))]
  | cell s' f o=>
   simp only [B3.on];split
   ·rename_i e;subst e;obtain ⟨cs,k,_⟩:=m;rw [k] at W;exact absurd W.symm (hnx _)
   ·rfl
 have X:∀ s f t l o,I=.cell s f t->A=.cell s l o->f≠l:=by
  intro s f t l o a j ho;subst ho;have k:=Fq.ok;have C:=Fp.ok;have h5:=M;rw [a] at C;rw [j] at k;obtain ⟨cs,V,h7⟩:=C;obtain ⟨ds,h8,h9⟩:=k;have c:z≠s:=fun e=>by
   rcases Fq.cell s f o j with k | ⟨x,_,C⟩
   ·exact B (e ▸ k)
   ·exact L x s C e.symm
  rw [T,d2 c,a] at h8;simp only [B3.on,if_true,V,EV.bx.injEq] at h8;subst h8;rw [List.getElem?_set,d1 rfl] at h9;split at h9
  ·simp at h9
  ·cases h9
 have g2:∀ n,AC.get ((w,eq)::A.app F) n=if w=n then eq else A.on n (F.get n):=fun n=>by
  rw [AC.get_cons,B3.get]
 have lk2:∀ n,n≠w->(F.get n).like (AC.get ((w,eq)::A.app F) n):=by
  intro n y;rw [g2,d2 (fun e=>y e.symm)];exact B3.like A m (fun s t u=>hR'.list u) Fq.xl n
 have L2:F8 p.op I (some z) F ((w,eq)::A.app F):=by
  refine ⟨fun s u=>lk2 s (fun e=>G (e ▸ u)),fun s u r W=>lk2 r (nq' s r W),fun s u Y=>?_,?_,fun y d Z R=>?_⟩
  ·have c:w≠s:=fun e=>G (e ▸ FU u);rw [g2,d2 c];have a:=Fq.slot;cases A with
   | none=>rfl
   | slot s' o=>
    simp only [B3.on];rw [d2 (fun (e:s'=s)=>dd s' (by rw [e]; exact u) (a _ _ rfl))]
   | cell s' f o=>
    simp only [B3.on];split
    ·rename_i e;subst e;obtain ⟨cs,k,_⟩:=m;exact absurd k (Y cs)
    ·rfl
  ·have i:=Fp.ok;have hsl:=Fp.slot;have hcl:=Fp.cell;cases I with
   | none=>trivial
   | slot s t=>
    simp only [B3.ok] at i ⊢;have u:=hsl s t rfl;have c:w≠s:=fun e=>G (e ▸ FU u);rw [g2,d2 c];have a:=Fq.slot;cases A with
    | none=>exact i
    | slot s' o=>
     simp only [B3.on];rw [d2 (fun (e:s'=s)=>dd s' (by rw [e]; exact u) (a _ _ rfl))];exact i
    | cell s' f o=>
     simp only [B3.on];split
     ·rename_i e;subst e;obtain ⟨cs,k,_⟩:=m;rw [k] at i;cases i
     ·exact i
   | cell s f t=>
    obtain ⟨cs,a,j⟩:=i;have c:w≠s:=fun e=>by
     rcases hcl s f t rfl with k | ⟨x,_,C⟩
     ·exact G (e ▸ k)
     ·exact nq' x s C e.symm
    simp only [B3.ok];rw [g2,d2 c];have k:=m;cases A with
    | none=>exact ⟨cs,a,j⟩
    | slot s' o=>
     simp only [B3.on];split
     ·rename_i e;subst e;simp only [B3.ok] at k;rw [k] at a;cases a
     ·exact ⟨cs,a,j⟩
    | cell s' l o=>
     simp only [B3.on];split
     ·rename_i e;subst e;rw [a];have:=X s' f t l o rfl rfl;refine ⟨_,rfl,?_⟩;rw [List.getElem?_set,d2 (fun e=>this e.symm)];exact j
     ·exact ⟨cs,a,j⟩
  ·simp only [zzY] at Z;subst Z;rw [AC.noRef_cons,B3.noRef,R,Bool.and_true];refine VP (fun s H=>?_);rcases Fq.ref s H with a | ⟨x,_,j⟩
   ·exact fun e=>B (e ▸ XY a)
   ·exact L x s j
 refine ⟨F,heq,Fq.again F L1 hgq _ ⟨_,.refl _,Fp.again _ L2 hgp _ (ND hK ?_)⟩⟩;rw [Fq.env1];refine ⟨fun n=>?_,fun d=>?_⟩
 ·rw [AC.get_cons,B3.get,T,AC.get_cons,B3.get,g2];by_cases a:w=n
  ·subst a;rw [d1 rfl,d2 hpq,d1 rfl,fpdq]
  ·rw [d2 a,d2 a];by_cases j:z=n
   ·subst j;rw [d1 rfl,d1 rfl,M]
   ·rw [d2 j,d2 j];have k:=Fp.ok;have C:=Fp.slot;have h5:=Fq.slot;cases I with
    | none=>rfl
    | slot s t=>
     cases A with
     | none=>rfl
     | slot s' o=>
      have c:s≠s':=fun e=>dd s (C _ _ rfl) (e ▸ h5 _ _ rfl);simp only [B3.on];by_cases E:s=n <;> by_cases U:s'=n <;> simp [E,U];exact absurd (E.trans U.symm) c
     | cell s' l o=>
      have c:s≠s':=fun e=>by
       obtain ⟨cs,V,_⟩:=m;simp only [B3.ok] at k;rw [←e,k] at V;cases V
      simp only [B3.on];by_cases E:s=n <;> by_cases U:s'=n <;> simp [E,U]
    | cell s f t=>
     cases A with
     | none=>rfl
     | slot s' o=>
      have c:s≠s':=fun e=>by
       obtain ⟨cs,V,_⟩:=k;simp only [B3.ok] at m;rw [e,m] at V;cases V
      simp only [B3.on];by_cases E:s=n <;> by_cases U:s'=n <;> simp [E,U]
     | cell s' l o=>
      obtain ⟨cs,V,_⟩:=k;simp only [B3.on];by_cases E:s=n
      ·by_cases U:s'=n
       ·subst E;subst U;have:=X s' f t l o rfl rfl;simp only [if_true,V];rw [List.set_comm _ _ this]
       ·simp [E,U]
      ·simp [E]
 ·rw [AC.noRef_cons,B3.noRef,v.2,Fp.env1,AC.noRef_cons,B3.noRef,AC.noRef_cons,B3.noRef,AC.noRef_cons,B3.noRef];cases EV.noR d eq <;> cases EV.noR d ep <;> rfl
end
end Go.Sf
