/- Tree values for Go's data, and what it means that memory holds one. No program. -/
import Derived.WalkKit
import Derived.ProofKit
namespace Go.Sf
theorem zzZ (a b : Bool) : ((a && b) = true) = (a = true ∧ b = true) := Bool.and_eq_true a b
theorem zzY {α : Type _} (a b : α) : (some a = some b) = (a = b) := Option.some.injEq a b
theorem zzX {p : Prop} [Decidable p] : (decide p = true) = p := decide_eq_true_eq
inductive TV where
 | undef
 | int (k:IntKind) (n:Int)
 | bool (b:Bool)
 | str (s:ByteArray)
 | nil
 | list (n:Nat) (es:List TV)
 | agg (cs:List TV)
 | pt (row:List TV)
 | clo (f:FuncId) (caps:List TV)
 | xl (n:Nat) (es:List TV)
def TV.cells:TV->List TV
 | .agg cs=>cs
 | t=>[t]
section
variable (w:World) (Fb:Nat->Nat->Prop)
mutual
def A1:TV->Value->Prop
 | .undef,v=>v.oneCell'=true
 | .int k n,v=>v=.int k n
 | .bool b,v=>v=.bool b
 | .str s,v=>v=.string s
 | .nil,v=>v=.slice none 0 0
 | .list n es,v=>∃ a cap,v=.slice a es.length cap∧es.length<=cap∧(a=none->es=[])∧∀ ad,a=some ad->(es=[]∨ad.spot=none)∧HU n es ad.block ad.off
 | .agg cs,v=>∃ vs,v=.agg vs∧AQ cs vs.toList∧vs.toList.all Value.oneCell'=true
 | .pt row,v=>∃ b o,v=.pointer (some ⟨b,o,none⟩)∧D7 row b o
 | .clo f caps,v=>∃ vs,v=.func (.func f) #[] vs∧AQ caps vs.toList
 | .xl _ _,v=>v.oneCell'=true
def AQ:List TV->List Value->Prop
 | [],vs=>vs=[]
 | t::ts,vs=>∃ v r,vs=v::r∧A1 t v∧AQ ts r
def D7:List TV->Nat->Nat->Prop
 | [],_,_=>True
 | t::ts,b,o=>(∃ v,w.cell? ⟨b,o,none⟩=some v∧¬ Fb b o∧v.oneCell'=true∧A1 t v)∧D7 ts b (o+1)
def HU (n:Nat):List TV->Nat->Nat->Prop
 | [],_,_=>True
 | e::es,b,o=>Iq e b o∧e.cells.length=n∧HU n es b (o+n)
def Iq:TV->Nat->Nat->Prop
 | .agg cs,b,o=>D7 cs b o
 | .undef,b,o=>∃ v,w.cell? ⟨b,o,none⟩=some v∧¬ Fb b o∧v.oneCell'=true∧v.oneCell'=true
 | .int k n,b,o=>∃ v,w.cell? ⟨b,o,none⟩=some v∧¬ Fb b o∧v.oneCell'=true∧v=.int k n
 | .bool x,b,o=>∃ v,w.cell? ⟨b,o,none⟩=some v∧¬ Fb b o∧v.oneCell'=true∧v=.bool x
 | .str s,b,o=>∃ v,w.cell? ⟨b,o,none⟩=some v∧¬ Fb b o∧v.oneCell'=true∧v=.string s
 | .nil,b,o=>∃ v,w.cell? ⟨b,o,none⟩=some v∧¬ Fb b o∧v.oneCell'=true∧v=.slice none 0 0
 | .list n es,b,o=>∃ v,w.cell? ⟨b,o,none⟩=some v∧¬ Fb b o∧v.oneCell'=true∧∃ a cap,v=.slice a es.length cap∧es.length<=cap∧(a=none->es=[])∧∀ ad,a=some ad->(es=[]∨ad.spot=none)∧HU n es ad.block ad.off
 | .pt row,b,o=>∃ v,w.cell? ⟨b,o,none⟩=some v∧¬ Fb b o∧v.oneCell'=true∧∃ b' o',v=.pointer (some ⟨b',o',none⟩)∧D7 row b' o'
 | .clo f caps,b,o=>∃ v,w.cell? ⟨b,o,none⟩=some v∧¬ Fb b o∧v.oneCell'=true∧∃ vs,v=.func (.func f) #[] vs∧AQ caps vs.toList
 | .xl _ _,b,o=>∃ v,w.cell? ⟨b,o,none⟩=some v∧¬ Fb b o∧v.oneCell'=true∧v.oneCell'=true
end
end
theorem W6 {w:World} {Fb:Nat->Nat->Prop} {t:TV} {b o:Nat}:Iq w Fb t b o↔D7 w Fb t.cells b o:=by
 cases t <;> simp [Iq,D7,A1,TV.cells]
end Go.Sf
