/- Contracts of functions of Go's library that give texts. No program. -/
import Derived.Test.YthgbaecihlidaaaGreatDoorSfLib
import Derived.Lib.ItoaNum
import Derived.Lib.Join
set_option linter.all false
namespace Go.Sf
open Go.RowKit (Below)
theorem mE{P:Program}{f:FuncId}(d:DO P f=true){n:Int}{s:ByteArray}(g:s.size<=Gb)(a:∀w:World,Calls P f #[.int .i64 n] w fun e w'=>e=.returned (.string s)/\w'=w):AO P f [.int .i64 n] (.sh (.str s)):=by
 refine AO.of0 (fun h=>⟨d,fun F0 w vs c _=>?_⟩) rfl;have b:vs=#[.int .i64 n]:=by
  grind [AL,AX]
 subst b;refine⟨g,?_⟩;refine(a w).mono ?_;rintro _ _ ⟨rfl,rfl⟩;exact⟨_,rfl,Below.refl _ _,by simp[FP,AX]⟩
def Up(i:Nat):List UInt8:=if i<10 then[UInt8.ofNat (48+i)]else[UInt8.ofNat (48+i / 10),UInt8.ofNat (48+i % 10)]
theorem iQ(i:Nat)(h:i<100):Go.Lib.decDigits i=Up i:=by
 unfold Up;by_cases a:i<10
 .rw[Go.Lib.decDigits,dif_pos a,az a]
 .rw[Go.Lib.decDigits,dif_neg a,b6 a,Go.Lib.decDigits,dif_pos (show i / 10<10 by omega)];rfl
def bl(i:Nat):ByteArray:=⟨(Up i).toArray⟩
theorem bn(i:Nat):(bl i).size<=2:=by
 show (Up i).toArray.size<=2
 grind [Up]
end Go.Sf
