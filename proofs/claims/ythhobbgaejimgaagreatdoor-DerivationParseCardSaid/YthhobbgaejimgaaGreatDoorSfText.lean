/- Contracts of functions of Go's library that give texts. No program. -/
import Derived.Test.YthhobbgaejimgaaGreatDoorSfLib
import Derived.Lib.ItoaNum
import Derived.Lib.Join
set_option linter.all false
namespace Go.Sf
open Go.RowKit (Below)
theorem aF{P:Program}{f:FuncId}(d:Co P f=true){n:Int}{s:ByteArray}(g:s.size<=EX)(a:∀w:World,Calls P f #[.int .i64 n] w fun e w'=>e=.returned (.string s)/\w'=w):AI P f [.int .i64 n] (.sh (.str s)):=by
 refine AI.of0 (fun h=>⟨d,fun F0 w vs c=>?_⟩) rfl;have b:vs=#[.int .i64 n]:=by
  grind [AH,AV]
 subst b;refine⟨g,?_⟩;refine(a w).mono ?_;rintro _ _ ⟨rfl,rfl⟩;exact⟨_,rfl,Below.refl _ _,by simp[Dx,AV]⟩
def P0(i:Nat):List UInt8:=if i<10 then[UInt8.ofNat (48+i)]else[UInt8.ofNat (48+i / 10),UInt8.ofNat (48+i % 10)]
theorem Xi(i:Nat)(h:i<100):Go.Lib.decDigits i=P0 i:=by
 unfold P0;by_cases a:i<10
 .rw[Go.Lib.decDigits,dif_pos a,QQ a]
 .rw[Go.Lib.decDigits,dif_neg a,a6 a,Go.Lib.decDigits,dif_pos (show i / 10<10 by omega)];rfl
def Un(i:Nat):ByteArray:=⟨(P0 i).toArray⟩
theorem Uo(i:Nat):(Un i).size<=2:=by
 show (P0 i).toArray.size<=2
 grind [P0]
end Go.Sf
