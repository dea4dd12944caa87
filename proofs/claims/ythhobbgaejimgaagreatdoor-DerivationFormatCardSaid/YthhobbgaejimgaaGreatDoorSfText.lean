/- Contracts of functions of Go's library that give texts. No program. -/
import Derived.Test.YthhobbgaejimgaaGreatDoorSfLib
import Derived.Lib.ItoaNum
import Derived.Lib.Join
set_option linter.all false
namespace Go.Sf
open Go.RowKit (Below)
variable{P:Program}{f:FuncId}{n:Int}{s:ByteArray}
theorem ap(d:Ca P f=true)(g:s.size<=Dy)(a:∀w:World,Calls P f #[.int .i64 n] w fun e w'=>e=.returned (.string s)/\w'=w):AH P f [.int .i64 n] (.sh (.str s)):=by
 refine AH.vg (fun h=>⟨d,fun F0 w vs c _=>?_⟩) rfl;have b:vs=#[.int .i64 n]:=by
  grind [AI,AS]
 subst b;refine⟨g,?_⟩;refine(a w).mono ?_;rintro _ _ ⟨rfl,rfl⟩;exact⟨_,rfl,Below.refl _ _,by simp[CJ,AS]⟩
theorem Ts:∀(k n:Nat),n<10^ (k+1)->(Go.Lib.decDigits n).length<=k+1
 |0,n,h=>by
  rw [Go.Lib.decDigits,dif_pos (by simpa using h)];simp
 |k+1,n,h=>by
  by_cases a:n<10
  .rw[Go.Lib.decDigits,dif_pos a];simp
  .have:=Ts k (n / 10) (by rw[Nat.pow_succ]at h;omega);rw[Go.Lib.decDigits,dif_neg a,ci];simp;omega
theorem YA(d:Ca P f=true)(g:s.size<=Dy)(a:∀w:World,IU w->Calls P f #[.int .i64 n] w fun e w'=>e=.returned (.string s)/\Below w.heap.size w w'):AH P f [.int .i64 n] (.sh (.str s)):=by
 refine AH.vg (fun j=>⟨d,fun F0 w vs c h=>?_⟩) rfl;have b:vs=#[.int .i64 n]:=by
  grind [AI,AS]
 subst b;refine⟨g,?_⟩;refine(a w h).mono ?_;rintro _ _ ⟨rfl,i⟩;exact⟨_,rfl,i,by simp[CJ,AS]⟩
def Pu(i:Nat):List UInt8:=if i<10 then[UInt8.ofNat (48+i)]else[UInt8.ofNat (48+i / 10),UInt8.ofNat (48+i % 10)]
theorem SN(i:Nat)(h:i<100):Go.Lib.decDigits i=Pu i:=by
 unfold Pu;by_cases a:i<10
 .rw[Go.Lib.decDigits,dif_pos a,az a]
 .rw[Go.Lib.decDigits,dif_neg a,bk a,Go.Lib.decDigits,dif_pos (show i / 10<10 by omega)];rfl
def RT(i:Nat):ByteArray:=⟨(Pu i).toArray⟩
theorem U2(i:Nat):(RT i).size<=2:=by
 show (Pu i).toArray.size<=2
 grind [Pu]
end Go.Sf
