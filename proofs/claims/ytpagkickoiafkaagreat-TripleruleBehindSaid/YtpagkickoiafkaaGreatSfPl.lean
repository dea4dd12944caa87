/- Plain lemmas about the loops and lists of typed functions. No program, no memory. -/
import Derived.Test.YtpagkickoiafkaaGreatSfStep
set_option linter.all false
open Option renaming some->Y
namespace Go.Sf
theorem bs{α β:Type}(a:α)(f:α->Option β):(Y a).bind f=f a:=rfl
section loops
variable{σ ρ:Type}
def Mk(c:Int->Option ρ):Nat->Int->Option ρ
 |0,_=>none|n+1,i=>match c i with
  |some r=>Y r|none=>Mk c n (i+1)
def fst(c:Int->Option ρ)(a b:Int):Option ρ:=Mk c (b-a).toNat a
variable{c:Int->Option ρ}
theorem Mm:∀{n:Nat}{a:Int},Mk c n a=none↔∀i,a<=i->i<a+n->c i=none
 |0,a=>by simp[Mk];intro i e g;omega|n+1,a=>by
  rw [Mk];constructor
  .intro h;cases d:c a with
   |some r=>rw[d]at h;cases h
   |none=>
    rw [d]at h;intro i e g;by_cases hi:i=a
    .subst hi;exact d
    .exact(Mm.1 h) i U U
  .intro h;rw[h a (Int.le_refl _) U];exact Mm.2 (λi e g=>h i U U)
variable{a b:Int}
theorem CE:fst c a b=none↔∀i,a<=i->i<b->c i=none:=by grind[fst,Mm]
def E4(p:Int->Bool)(a b:Int):Bool:=(fst (λi=>if p i then Y ()else none) a b).isSome
variable{p:Int->Bool}
theorem WW:E4 p a b=true↔∃i,a<=i/\i<b/\p i=true:=by grind[E4,Option.isSome_iff_ne_none,CE]
theorem Gb:E4 p a b=false↔∀i,a<=i->i<b->p i=false:=by
 rw [<-Bool.not_eq_true,WW]
 grind
end loops
section lists
variable{α:Type}
def AD[Inhabited α](l:List α)(i:Int):α:=l.getD i.toNat default
variable{l:List α}{i:Int}
theorem VY[Inhabited α](d:0<=i)(e:i<l.length):idx l i=Y (AD l i):=by
 unfold idx AD
 grind
variable{x:α}
theorem SU(h:idx l i=Y x):0<=i/\i<l.length/\l[i.toNat]?=Y x:=by
 unfold idx at h
 grind
theorem CL[Inhabited α](d:0<=i)(e:i<l.length):AD l i∈l:=by
 have h:=VY d e;exact List.mem_of_getElem? (SU h).2.2
theorem FU[Inhabited α](h:x∈l):∃i:Int,0<=i/\i<l.length/\AD l i=x:=by
 obtain ⟨n,d⟩:=List.getElem?_of_mem h;have e:=(List.getElem?_eq_some_iff.1 d).1;refine⟨n,U,U,?_⟩;unfold AD
 grind
theorem OK[Inhabited α]{l m:List α}:AD (l++m) i=if i.toNat<l.length then AD l i else m.getD (i.toNat-l.length) default:=by
 unfold AD
 grind
variable{β:Type}
theorem KO[Inhabited α][Inhabited β]{g:α->β}(d:0<=i)(e:i<l.length):AD (l.map g) i=g (AD l i):=by grind[VY,SU,AD]
end lists
section wh
variable{σ ρ:Type}
inductive OJ(f:σ->Option (Dt σ ρ)):σ->σ ⊕ ρ->Prop where
 |next {s s':σ} {o:σ ⊕ ρ} (h:f s=Y (.next s')) (k:OJ f s' o):OJ f s o
 |brk {s s':σ} (h:f s=Y (.brk s')):OJ f s (.inl s')
 |ret {s:σ} {r:ρ} (h:f s=Y (.ret r)):OJ f s (.inr r)
variable{f:σ->Option (Dt σ ρ)}{s:σ}{o:σ ⊕ ρ}
theorem OJ.go(h:OJ f s o):∃N,∀n,N<=n->O9 f n s=Y o:=by
 induction h with
 |next h k g=>
  obtain ⟨N,e⟩:=g;refine⟨N+1,λn d=>?_⟩;cases n with
  |zero=>omega|succ n=>rw[O9,h];exact e n U
 |brk h=>
  refine ⟨1,λn d=>?_⟩;cases n with
  |zero=>omega|succ n=>rw[O9,h]
 |ret h=>
  refine ⟨1,λn d=>?_⟩;cases n with
  |zero=>omega|succ n=>rw[O9,h]
theorem OJ.eq(h:OJ f s o):DY f s=Y o:=by
 obtain ⟨N,d⟩:=h.go;exact aW N d
def Hh(i:Int)(c:Option (Int ⊕ ρ)):Dt Int ρ:=match c with
 |none=>.next (i+1)|some (.inl x)=>.brk x|some (.inr r)=>.ret r
end wh
section bytes
instance:LawfulBEq ByteArray where
 eq_of_beq {a b} h:=by
  cases a;cases b;exact congrArg ByteArray.mk (eq_of_beq (show((_:Array UInt8)==_)=true from h))
 rfl {a}:=show(a.data==a.data)=true from beq_self_eq_true _
def bt(s:ByteArray)(i:Int):Int:=((s.data.toList.getD i.toNat 0).toNat:Int)
end bytes
end Go.Sf
