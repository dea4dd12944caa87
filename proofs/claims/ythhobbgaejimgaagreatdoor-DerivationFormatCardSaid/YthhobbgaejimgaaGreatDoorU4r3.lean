/- Lemmas. -/
import Derived.Test.YthhobbgaejimgaaGreatDoorRows
import Derived.SevenTiedAt
import Derived.JoinedAt
import Derived.Handed
set_option linter.all false
set_option maxRecDepth 100000
namespace Go.Proofs.YthhobbgaejimgaaGreatDoor
open Go Go.Proofs.Tryz
theorem Mb:Rows.derivationFormatRow.wfByText (OpenSpec.ofChange Rows.derivationFormatSpec)=true:=by kernel_rfl
theorem Li:Tryz.pinned.checked.prog.mainIs=some (true, "65088807df80f26d7211f10cecb30c75596b09202ff9963b1d56c34e7fa53c13".toList):=by kernel_rfl
theorem LF:false=Tryz.pinned.checked.prog.looks []:=by kernel_rfl
theorem LI:([31].all fun u=>!Tryz.pinned.checked.prog.wantsStandIn u)=true:=by kernel_rfl
end Go.Proofs.YthhobbgaejimgaaGreatDoor
