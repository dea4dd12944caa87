/- Lemmas. -/
import Derived.Test.YthgbaecihlidaaaGreatDoorRows
import Derived.SevenTiedAt
import Derived.JoinedAt
import Derived.Handed
set_option linter.all false
set_option maxRecDepth 100000
namespace Go.Proofs.YthgbaecihlidaaaGreatDoor
open Go Go.Proofs.Tryz
theorem mB{P:Program}(h:(P.funcs.toList.any Func.goes)=false)s f:false=P.goesAt s f:=by
 have a:∀g:Nat,(P.funcs[g]?).any Func.goes=false:=fun g=>by
  cases e:P.funcs[g]? with
  |none=>rfl|some x=>
   have:=List.any_eq_false.1 h x (Array.mem_toList_iff.2 (Array.mem_of_getElem? e));simpa using this
 have b:P.funcs.any Func.goes=false:=by rw[<-Array.any_toList];exact h
 have c:P.goes=fun _=>false:=funext fun x=>by simp[Program.goes,a,b]
 simp only[Program.goesAt,Program.goesFrom,c];cases s<;>simp
theorem Py:false=Rows.derivationAppendsRow.goesBy Tryz.pinned.checked.prog:=mB (by kernel_rfl) _ _
end Go.Proofs.YthgbaecihlidaaaGreatDoor
