/- Contracts of the functions. -/
import Derived.Test.YtpagkickoiafkaaGreatCon3
import Derived.Test.YtpagkickoiafkaaGreatCon5
set_option linter.all false
set_option maxRecDepth 100000
set_option maxHeartbeats 4000000
namespace Go.Sf.Sc
open Go Go.Sf Go.Proofs.Tryz
instance c16:CT (KS ) 16 [] (rS CE):=Fk f16 0x194b3f094608460c46034707460746a90ec900 [.bld [.str ⟨#[]⟩,.list 1 [],.list 3 [],.list 4 [],.int .i64 0,.list 5 [],.list 1 [],.list 3 [],.list 4 [],.int .i64 0,.list 5 [],.list 1 [],.list 1 [],.list 1 [],.list 1 [],.bool false,.int .i64 0,.list 9 [],.list 1 [],.list 1 [],.list 1 [],.list 3 [],.list 4 [],.int .i64 0,.list 5 []] [(0,1,.c (.str ⟨#[99,108,97,115,115,101,115]⟩)),(6,5,.s 6),(15,1,.c (.bool true)),(16,9,.s 7)]] [.cell 0 (some 25)] λr h a b=>by
  unfold KS at h;exact nz
instance c4:CT (Ke ) 4 [] rB:=Fe f4 0xf8746c59066eb8a99fb8a96c59016ea530b8a96c59da585ea6194be70ec9117c903881194b0ec97c9038a6a6e701c97c69 [] (Ke.eq_1 ..)
instance(a):CT (PD a) 5 [GU a] rB:=Fe f5 0xf874a16e0a74e20a747732580b6cb9c3 [] (PD.eq_1 ..)
instance c3(d:GO)(a:Ee):CT (GJ d a) 3 [GU d,Hh a] rB:=B0 f3 0xaa3736350889065f373635088906373635088906816da602497c6b1f426b1f4238ff373635088906e06c591f42558ab62644ac0ab62644ac0ab66b1c426b1f6e0ab66b6b1c42585ee1e114c914c9117c2644f3e114c92644264300653736350889069b8e6bd3a8d06bd338bb194b10c90ec990380eeaa6a6e701c97c550ecbbe0a749f0ab6ea01b60192 [] (GJ.eq_1 ..) (BA 0 55 54 0)
end Go.Sf.Sc
