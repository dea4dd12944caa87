/- Contracts of functions of Go's library that give texts. No program. -/
import Derived.Test.YtbgedoajacpdbaaGreatDoorSfLib
import Derived.Lib.ItoaNum
import Derived.Lib.Join
set_option linter.all false
namespace Go.Sf
open Go.RowKit (Below)
theorem kG{P:Program}{f:FuncId}(d:DL P f=true){n:Int}{s:ByteArray}(g:s.size<=F9)(a:∀w:World,Calls P f #[.int .i64 n] w fun e w'=>e=.returned (.string s)/\w'=w):AN P f [.int .i64 n] (.sh (.str s)):=by
 refine AN.of0 (fun h=>⟨d,fun F0 w vs c=>?_⟩) rfl;have b:vs=#[.int .i64 n]:=by
  grind [AO,AY]
 subst b;refine⟨g,?_⟩;refine(a w).mono ?_;rintro _ _ ⟨rfl,rfl⟩;exact⟨_,rfl,Below.refl _ _,by simp[FN,AY]⟩
def UU(i:Nat):List UInt8:=if i<10 then[UInt8.ofNat (48+i)]else[UInt8.ofNat (48+i / 10),UInt8.ofNat (48+i % 10)]
theorem fV(i:Nat)(h:i<100):Go.Lib.decDigits i=UU i:=by
 unfold UU;by_cases a:i<10
 .rw[Go.Lib.decDigits,dif_pos a,ae a]
 .rw[Go.Lib.decDigits,dif_neg a,az a,Go.Lib.decDigits,dif_pos (show i / 10<10 by omega)];rfl
def aZ(i:Nat):ByteArray:=⟨(UU i).toArray⟩
theorem aa(i:Nat):(aZ i).size<=2:=by
 show (UU i).toArray.size<=2
 grind [UU]
end Go.Sf
