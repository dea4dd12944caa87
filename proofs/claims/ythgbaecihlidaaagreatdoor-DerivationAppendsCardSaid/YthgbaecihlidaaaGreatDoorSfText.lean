/- Contracts of functions of Go's library that give texts. No program. -/
import Derived.Test.YthgbaecihlidaaaGreatDoorSfLib
import Derived.Lib.ItoaNum
import Derived.Lib.Join
set_option linter.all false
namespace Go.Sf
open Go.RowKit (Below)
theorem mq{P:Program}{f:FuncId}(d:DP P f=true){n:Int}{s:ByteArray}(g:s.size<=Gc)(a:∀w:World,Calls P f #[.int .i64 n] w fun e w'=>e=.returned (.string s)/\w'=w):AM P f [.int .i64 n] (.sh (.str s)):=by
 refine AM.of0 (fun h=>⟨d,fun F0 w vs c _=>?_⟩) rfl;have b:vs=#[.int .i64 n]:=by
  grind [AL,AX]
 subst b;refine⟨g,?_⟩;refine(a w).mono ?_;rintro _ _ ⟨rfl,rfl⟩;exact⟨_,rfl,Below.refl _ _,by simp[FR,AX]⟩
def Ut(i:Nat):List UInt8:=if i<10 then[UInt8.ofNat (48+i)]else[UInt8.ofNat (48+i / 10),UInt8.ofNat (48+i % 10)]
theorem ii(i:Nat)(h:i<100):Go.Lib.decDigits i=Ut i:=by
 unfold Ut;by_cases a:i<10
 .rw[Go.Lib.decDigits,dif_pos a,az a]
 .rw[Go.Lib.decDigits,dif_neg a,b6 a,Go.Lib.decDigits,dif_pos (show i / 10<10 by omega)];rfl
def br(i:Nat):ByteArray:=⟨(Ut i).toArray⟩
theorem bu(i:Nat):(br i).size<=2:=by
 show (Ut i).toArray.size<=2
 grind [Ut]
end Go.Sf
