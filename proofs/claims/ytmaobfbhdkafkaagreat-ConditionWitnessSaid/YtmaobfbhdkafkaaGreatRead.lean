/- What is read of the arguments of the law. -/
import Derived.Test.YtmaobfbhdkafkaaGreatTypes
import Derived.Test.YtmaobfbhdkafkaaGreatSfClaim
import Derived.KernelRfl
set_option maxRecDepth 100000
namespace Go.Sf.Sc
open Go Go.Sf Go.Proofs.Tryz
theorem Y2:∀ fuel,CY prog 9 1 eS fuel
 | 0=>BQ
 | _+1=>Wc underlying9
theorem Ku:∀ fuel,CY prog 3 1 eI fuel
 | 0=>BQ
 | _+1=>Wb underlying3
theorem kP:∀ fuel,CY prog 4 1 eB fuel
 | 0=>BQ
 | _+1=>VR underlying4
theorem jO:∀ fuel,CY prog 100 1 (eL 1 eS) fuel
 | 0=>BQ
 | n+1=>FY underlying100 (by kernel_rfl) (by decide) (of_decide_eq_true (by kernel_rfl)) (Y2 n)
theorem jP:∀ fuel,CY prog 102 4 HM fuel
 | 0=>BQ
 | n+1=>CZ (L:=[(9,0),(3,1),(3,2),(100,3)]) (m:=4) (fun y=>⟨y.1,y.2.1,y.2.2.1,y.2.2.2.1⟩) underlying102 rfl (by kernel_rfl) (AV (by kernel_rfl) (by decide) (Y2 n) (AV (by kernel_rfl) (by decide) (Ku n) (AV (by kernel_rfl) (by decide) (Ku n) (AV (by kernel_rfl) (by decide) (jO n) (DU))))) (fun _=>rfl)
theorem mt:∀ fuel,CY prog 97 1 (eL 4 HM) fuel
 | 0=>BQ
 | n+1=>FY underlying97 (by kernel_rfl) (by decide) (of_decide_eq_true (by kernel_rfl)) (jP n)
theorem mu:∀ fuel,CY prog 99 4 GG fuel
 | 0=>BQ
 | n+1=>CZ (L:=[(9,0),(3,1),(4,2),(97,3)]) (m:=4) (fun y=>⟨y.1,y.2.1,y.2.2.1,y.2.2.2.1⟩) underlying99 rfl (by kernel_rfl) (AV (by kernel_rfl) (by decide) (Y2 n) (AV (by kernel_rfl) (by decide) (Ku n) (AV (by kernel_rfl) (by decide) (kP n) (AV (by kernel_rfl) (by decide) (mt n) (DU))))) (fun _=>rfl)
theorem md:∀ fuel,CY prog 22 1 (eL 4 GG) fuel
 | 0=>BQ
 | n+1=>FY underlying22 (by kernel_rfl) (by decide) (of_decide_eq_true (by kernel_rfl)) (mu n)
theorem jQ:∀ fuel,CY prog 104 7 GZ fuel
 | 0=>BQ
 | n+1=>CZ (L:=[(9,0),(3,1),(3,2),(3,3),(3,4),(3,5),(3,6)]) (m:=7) (fun y=>⟨y.1,y.2.1,y.2.2.1,y.2.2.2.1,y.2.2.2.2.1,y.2.2.2.2.2.1,y.2.2.2.2.2.2.1⟩) underlying104 rfl (by kernel_rfl) (AV (by kernel_rfl) (by decide) (Y2 n) (AV (by kernel_rfl) (by decide) (Ku n) (AV (by kernel_rfl) (by decide) (Ku n) (AV (by kernel_rfl) (by decide) (Ku n) (AV (by kernel_rfl) (by decide) (Ku n) (AV (by kernel_rfl) (by decide) (Ku n) (AV (by kernel_rfl) (by decide) (Ku n) (DU)))))))) (fun _=>rfl)
theorem me:∀ fuel,CY prog 23 1 (eL 7 GZ) fuel
 | 0=>BQ
 | n+1=>FY underlying23 (by kernel_rfl) (by decide) (of_decide_eq_true (by kernel_rfl)) (jQ n)
theorem mf:∀ fuel,CY prog 25 2 AS fuel
 | 0=>BQ
 | n+1=>CZ (L:=[(22,0),(23,1)]) (m:=2) (fun y=>⟨y.1,y.2.1⟩) underlying25 rfl (by kernel_rfl) (AV (by kernel_rfl) (by decide) (md n) (AV (by kernel_rfl) (by decide) (me n) (DU))) (fun _=>rfl)
theorem TR:∀ fuel,CY prog 26 1 (eL 1 eI) fuel
 | 0=>BQ
 | n+1=>FY underlying26 (by kernel_rfl) (by decide) (of_decide_eq_true (by kernel_rfl)) (Ku n)
theorem ms:∀ fuel,CY prog 96 3 D0 fuel
 | 0=>BQ
 | n+1=>CZ (L:=[(3,0),(3,1),(3,2)]) (m:=3) (fun y=>⟨y.1,y.2.1,y.2.2.1⟩) underlying96 rfl (by kernel_rfl) (AV (by kernel_rfl) (by decide) (Ku n) (AV (by kernel_rfl) (by decide) (Ku n) (AV (by kernel_rfl) (by decide) (Ku n) (DU)))) (fun _=>rfl)
theorem mg:∀ fuel,CY prog 27 1 (eL 3 D0) fuel
 | 0=>BQ
 | n+1=>FY underlying27 (by kernel_rfl) (by decide) (of_decide_eq_true (by kernel_rfl)) (ms n)
theorem cc:∀ fuel,CY prog 29 2 B9 fuel
 | 0=>BQ
 | n+1=>CZ (L:=[(26,0),(27,1)]) (m:=2) (fun y=>⟨y.1,y.2.1⟩) underlying29 rfl (by kernel_rfl) (AV (by kernel_rfl) (by decide) (TR n) (AV (by kernel_rfl) (by decide) (mg n) (DU))) (fun _=>rfl)
theorem VQ:∀ fuel,CY prog 139 2 MS fuel
 | 0=>BQ
 | n+1=>CZ (L:=[(3,0),(3,1)]) (m:=2) (fun y=>⟨y.1,y.2.1⟩) underlying139 rfl (by kernel_rfl) (AV (by kernel_rfl) (by decide) (Ku n) (AV (by kernel_rfl) (by decide) (Ku n) (DU))) (fun _=>rfl)
theorem jR:∀ fuel,CY prog 141 4 KZ fuel
 | 0=>BQ
 | n+1=>CZ (L:=[(3,0),(3,1),(139,2)]) (m:=4) (fun y=>⟨y.1,y.2.1,y.2.2.1⟩) underlying141 rfl (by kernel_rfl) (AV (by kernel_rfl) (by decide) (Ku n) (AV (by kernel_rfl) (by decide) (Ku n) (AV (by kernel_rfl) (by decide) (VQ n) (DU)))) (fun _=>rfl)
theorem mh:∀ fuel,CY prog 30 1 (eL 4 KZ) fuel
 | 0=>BQ
 | n+1=>FY underlying30 (by kernel_rfl) (by decide) (of_decide_eq_true (by kernel_rfl)) (jR n)
theorem jS:∀ fuel,CY prog 144 5 Ka fuel
 | 0=>BQ
 | n+1=>CZ (L:=[(3,0),(139,1),(139,3)]) (m:=5) (fun y=>⟨y.1,y.2.1,y.2.2.1⟩) underlying144 rfl (by kernel_rfl) (AV (by kernel_rfl) (by decide) (Ku n) (AV (by kernel_rfl) (by decide) (VQ n) (AV (by kernel_rfl) (by decide) (VQ n) (DU)))) (fun _=>rfl)
theorem mi:∀ fuel,CY prog 31 1 (eL 5 Ka) fuel
 | 0=>BQ
 | n+1=>FY underlying31 (by kernel_rfl) (by decide) (of_decide_eq_true (by kernel_rfl)) (jS n)
theorem cd:∀ fuel,CY prog 33 5 BC fuel
 | 0=>BQ
 | n+1=>CZ (L:=[(29,0),(30,2),(3,3),(31,4)]) (m:=5) (fun y=>⟨y.1,y.2.1,y.2.2.1,y.2.2.2.1⟩) underlying33 rfl (by kernel_rfl) (AV (by kernel_rfl) (by decide) (cc n) (AV (by kernel_rfl) (by decide) (mh n) (AV (by kernel_rfl) (by decide) (Ku n) (AV (by kernel_rfl) (by decide) (mi n) (DU))))) (fun _=>rfl)
theorem ce:∀ fuel,CY prog 36 2 BL fuel
 | 0=>BQ
 | n+1=>CZ (L:=[(26,0),(26,1)]) (m:=2) (fun y=>⟨y.1,y.2.1⟩) underlying36 rfl (by kernel_rfl) (AV (by kernel_rfl) (by decide) (TR n) (AV (by kernel_rfl) (by decide) (TR n) (DU))) (fun _=>rfl)
theorem jT (n:Nat) (ih:∀ k,k<n->CY prog 38 9 AK k):CY prog 38 9 AK n:=by
 cases n with
 | zero=>exact BQ
 | succ n=>
  have hk34:CY prog 34 1 GP n:=by
   cases n with
   | zero=>exact BQ
   | succ m=>
    have:=FY underlying34 (n:=9) (by kernel_rfl) (by decide) (of_decide_eq_true (by kernel_rfl)) (ih m (by omega))
    have he:GP=(fun l=>TV.list 9 (l.map AK)):=funext K9
    rw [he]; exact this
  exact CZ (L:=[(3,0),(34,1),(36,2),(33,4)]) (m:=9) (fun y=>⟨y.1,y.2.1,y.2.2.1,y.2.2.2.1⟩) underlying38 rfl (by kernel_rfl) (AV (by kernel_rfl) (by decide) (Ku n) (AV (by kernel_rfl) (by decide) hk34 (AV (by kernel_rfl) (by decide) (ce n) (AV (by kernel_rfl) (by decide) (cd n) (DU))))) (fun _=>rfl)
theorem mj (fuel:Nat):CY prog 38 9 AK fuel:=Nat.strongRecOn fuel jT
theorem ml:∀ fuel,CY prog 40 14 GQ fuel
 | 0=>BQ
 | n+1=>CZ (L:=[(33,0),(38,5)]) (m:=14) (fun y=>⟨y.1,y.2.1⟩) underlying40 rfl (by kernel_rfl) (AV (by kernel_rfl) (by decide) (cd n) (AV (by kernel_rfl) (by decide) (mj n) (DU))) (fun _=>rfl)
theorem mn:∀ fuel,CY prog 48 1 (eL 1 (eL 1 eI)) fuel
 | 0=>BQ
 | n+1=>FY underlying48 (by kernel_rfl) (by decide) (of_decide_eq_true (by kernel_rfl)) (TR n)
theorem mp:∀ fuel,CY prog 50 3 FK fuel
 | 0=>BQ
 | n+1=>CZ (L:=[(29,0),(48,2)]) (m:=3) (fun y=>⟨y.1,y.2.1⟩) underlying50 rfl (by kernel_rfl) (AV (by kernel_rfl) (by decide) (cc n) (AV (by kernel_rfl) (by decide) (mn n) (DU))) (fun _=>rfl)
theorem mq:∀ fuel,CY prog 52 3 BP fuel
 | 0=>BQ
 | n+1=>CZ (L:=[(36,0),(26,2)]) (m:=3) (fun y=>⟨y.1,y.2.1⟩) underlying52 rfl (by kernel_rfl) (AV (by kernel_rfl) (by decide) (ce n) (AV (by kernel_rfl) (by decide) (TR n) (DU))) (fun _=>rfl)
theorem mr:∀ fuel,CY prog 54 7 Ko fuel
 | 0=>BQ
 | n+1=>CZ (L:=[(50,0),(52,3),(4,6)]) (m:=7) (fun y=>⟨y.1,y.2.1,y.2.2.1⟩) underlying54 rfl (by kernel_rfl) (AV (by kernel_rfl) (by decide) (mp n) (AV (by kernel_rfl) (by decide) (mq n) (AV (by kernel_rfl) (by decide) (kP n) (DU)))) (fun _=>rfl)
end Go.Sf.Sc
