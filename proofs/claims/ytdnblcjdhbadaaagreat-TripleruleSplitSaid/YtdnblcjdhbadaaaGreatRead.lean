/- What is read of the arguments of the law. -/
import Derived.Test.YtdnblcjdhbadaaaGreatTypes
import Derived.Test.YtdnblcjdhbadaaaGreatSfRead
import Derived.KernelRfl
set_option linter.all false
set_option maxRecDepth 100000
namespace Go.Sf.Sc
open Go Go.Sf Go.Proofs.Tryz
theorem fi:∀fuel,B8 prog 9 1 eS fuel
 |0=>BL|_+1=>fk underlying9
theorem L8:∀fuel,B8 prog 3 1 eI fuel
 |0=>BL|_+1=>fj underlying3
theorem uy:∀fuel,B8 prog 4 1 eB fuel
 |0=>BL|_+1=>dJ underlying4
theorem tV:∀fuel,B8 prog 122 1 (eL 1 eS) fuel
 |0=>BL|n+1=>EU underlying122 (by kernel_rfl) (by decide) (of_decide_eq_true (by kernel_rfl)) (fi n)
theorem tW:∀fuel,B8 prog 124 4 GB fuel
 |0=>BL|n+1=>Bv (L:=[(9,0),(3,1),(3,2),(122,3)]) (m:=4) (fun y=>⟨y.1,y.2.1,y.2.2.1,y.2.2.2.1⟩) underlying124 rfl (by kernel_rfl) (AV (by kernel_rfl) (by decide) (fi n) (AV (by kernel_rfl) (by decide) (L8 n) (AV (by kernel_rfl) (by decide) (L8 n) (AV (by kernel_rfl) (by decide) (tV n) (CM))))) (fun _=>rfl)
theorem tS:∀fuel,B8 prog 107 1 (eL 4 GB) fuel
 |0=>BL|n+1=>EU underlying107 (by kernel_rfl) (by decide) (of_decide_eq_true (by kernel_rfl)) (tW n)
theorem tT:∀fuel,B8 prog 109 4 Dp fuel
 |0=>BL|n+1=>Bv (L:=[(9,0),(3,1),(4,2),(107,3)]) (m:=4) (fun y=>⟨y.1,y.2.1,y.2.2.1,y.2.2.2.1⟩) underlying109 rfl (by kernel_rfl) (AV (by kernel_rfl) (by decide) (fi n) (AV (by kernel_rfl) (by decide) (L8 n) (AV (by kernel_rfl) (by decide) (uy n) (AV (by kernel_rfl) (by decide) (tS n) (CM))))) (fun _=>rfl)
theorem vh:∀fuel,B8 prog 22 1 (eL 4 Dp) fuel
 |0=>BL|n+1=>EU underlying22 (by kernel_rfl) (by decide) (of_decide_eq_true (by kernel_rfl)) (tT n)
theorem tU:∀fuel,B8 prog 111 7 EG fuel
 |0=>BL|n+1=>Bv (L:=[(9,0),(3,1),(3,2),(3,3),(3,4),(3,5),(3,6)]) (m:=7) (fun y=>⟨y.1,y.2.1,y.2.2.1,y.2.2.2.1,y.2.2.2.2.1,y.2.2.2.2.2.1,y.2.2.2.2.2.2.1⟩) underlying111 rfl (by kernel_rfl) (AV (by kernel_rfl) (by decide) (fi n) (AV (by kernel_rfl) (by decide) (L8 n) (AV (by kernel_rfl) (by decide) (L8 n) (AV (by kernel_rfl) (by decide) (L8 n) (AV (by kernel_rfl) (by decide) (L8 n) (AV (by kernel_rfl) (by decide) (L8 n) (AV (by kernel_rfl) (by decide) (L8 n) (CM)))))))) (fun _=>rfl)
theorem vj:∀fuel,B8 prog 23 1 (eL 7 EG) fuel
 |0=>BL|n+1=>EU underlying23 (by kernel_rfl) (by decide) (of_decide_eq_true (by kernel_rfl)) (tU n)
theorem vk:∀fuel,B8 prog 25 2 AO fuel
 |0=>BL|n+1=>Bv (L:=[(22,0),(23,1)]) (m:=2) (fun y=>⟨y.1,y.2.1⟩) underlying25 rfl (by kernel_rfl) (AV (by kernel_rfl) (by decide) (vh n) (AV (by kernel_rfl) (by decide) (vj n) (CM))) (fun _=>rfl)
theorem Rg:∀fuel,B8 prog 26 1 (eL 1 eI) fuel
 |0=>BL|n+1=>EU underlying26 (by kernel_rfl) (by decide) (of_decide_eq_true (by kernel_rfl)) (L8 n)
theorem vl:∀fuel,B8 prog 28 2 C2 fuel
 |0=>BL|n+1=>Bv (L:=[(26,0),(26,1)]) (m:=2) (fun y=>⟨y.1,y.2.1⟩) underlying28 rfl (by kernel_rfl) (AV (by kernel_rfl) (by decide) (Rg n) (AV (by kernel_rfl) (by decide) (Rg n) (CM))) (fun _=>rfl)
theorem vn:∀fuel,B8 prog 30 4 Kz fuel
 |0=>BL|n+1=>Bv (L:=[(25,0),(28,2)]) (m:=4) (fun y=>⟨y.1,y.2.1⟩) underlying30 rfl (by kernel_rfl) (AV (by kernel_rfl) (by decide) (vk n) (AV (by kernel_rfl) (by decide) (vl n) (CM))) (fun _=>rfl)
theorem v8:∀fuel,B8 prog 93 3 B1 fuel
 |0=>BL|n+1=>Bv (L:=[(3,0),(3,1),(3,2)]) (m:=3) (fun y=>⟨y.1,y.2.1,y.2.2.1⟩) underlying93 rfl (by kernel_rfl) (AV (by kernel_rfl) (by decide) (L8 n) (AV (by kernel_rfl) (by decide) (L8 n) (AV (by kernel_rfl) (by decide) (L8 n) (CM)))) (fun _=>rfl)
theorem vo:∀fuel,B8 prog 31 1 (eL 3 B1) fuel
 |0=>BL|n+1=>EU underlying31 (by kernel_rfl) (by decide) (of_decide_eq_true (by kernel_rfl)) (v8 n)
theorem p8:∀fuel,B8 prog 33 2 Am fuel
 |0=>BL|n+1=>Bv (L:=[(26,0),(31,1)]) (m:=2) (fun y=>⟨y.1,y.2.1⟩) underlying33 rfl (by kernel_rfl) (AV (by kernel_rfl) (by decide) (Rg n) (AV (by kernel_rfl) (by decide) (vo n) (CM))) (fun _=>rfl)
theorem dI:∀fuel,B8 prog 206 2 Om fuel
 |0=>BL|n+1=>Bv (L:=[(3,0),(3,1)]) (m:=2) (fun y=>⟨y.1,y.2.1⟩) underlying206 rfl (by kernel_rfl) (AV (by kernel_rfl) (by decide) (L8 n) (AV (by kernel_rfl) (by decide) (L8 n) (CM))) (fun _=>rfl)
theorem tX:∀fuel,B8 prog 208 4 D4 fuel
 |0=>BL|n+1=>Bv (L:=[(3,0),(3,1),(206,2)]) (m:=4) (fun y=>⟨y.1,y.2.1,y.2.2.1⟩) underlying208 rfl (by kernel_rfl) (AV (by kernel_rfl) (by decide) (L8 n) (AV (by kernel_rfl) (by decide) (L8 n) (AV (by kernel_rfl) (by decide) (dI n) (CM)))) (fun _=>rfl)
theorem vp:∀fuel,B8 prog 34 1 (eL 4 D4) fuel
 |0=>BL|n+1=>EU underlying34 (by kernel_rfl) (by decide) (of_decide_eq_true (by kernel_rfl)) (tX n)
theorem tY:∀fuel,B8 prog 210 5 Ee fuel
 |0=>BL|n+1=>Bv (L:=[(3,0),(206,1),(206,3)]) (m:=5) (fun y=>⟨y.1,y.2.1,y.2.2.1⟩) underlying210 rfl (by kernel_rfl) (AV (by kernel_rfl) (by decide) (L8 n) (AV (by kernel_rfl) (by decide) (dI n) (AV (by kernel_rfl) (by decide) (dI n) (CM)))) (fun _=>rfl)
theorem vq:∀fuel,B8 prog 35 1 (eL 5 Ee) fuel
 |0=>BL|n+1=>EU underlying35 (by kernel_rfl) (by decide) (of_decide_eq_true (by kernel_rfl)) (tY n)
theorem jI:∀fuel,B8 prog 37 5 BG fuel
 |0=>BL|n+1=>Bv (L:=[(33,0),(34,2),(3,3),(35,4)]) (m:=5) (fun y=>⟨y.1,y.2.1,y.2.2.1,y.2.2.2.1⟩) underlying37 rfl (by kernel_rfl) (AV (by kernel_rfl) (by decide) (p8 n) (AV (by kernel_rfl) (by decide) (vp n) (AV (by kernel_rfl) (by decide) (L8 n) (AV (by kernel_rfl) (by decide) (vq n) (CM))))) (fun _=>rfl)
theorem vr:∀fuel,B8 prog 38 2 Da fuel
 |0=>BL|n+1=>Bv (L:=[(26,0),(26,1)]) (m:=2) (fun y=>⟨y.1,y.2.1⟩) underlying38 rfl (by kernel_rfl) (AV (by kernel_rfl) (by decide) (Rg n) (AV (by kernel_rfl) (by decide) (Rg n) (CM))) (fun _=>rfl)
theorem ZV:∀fuel,B8 prog 39 2 As fuel
 |0=>BL|n+1=>Bv (L:=[(26,0),(26,1)]) (m:=2) (fun y=>⟨y.1,y.2.1⟩) underlying39 rfl (by kernel_rfl) (AV (by kernel_rfl) (by decide) (Rg n) (AV (by kernel_rfl) (by decide) (Rg n) (CM))) (fun _=>rfl)
theorem tZ(n:Nat)(b:∀k,k<n->B8 prog 42 9 AH k):B8 prog 42 9 AH n:=by
 cases n with
 |zero=>exact BL|succ n=>
  have a:B8 prog 40 1 DD n:=by
   cases n with
   |zero=>exact BL|succ m=>
    have:=EU underlying40 (n:=9) (by kernel_rfl) (by decide) (of_decide_eq_true (by kernel_rfl)) (b m (by omega));have he:DD=(fun l=>TV.list 9 (l.map AH)):=funext MS;rw[he];exact this
  exact Bv (L:=[(3,0),(40,1),(39,2),(37,4)]) (m:=9) (fun y=>⟨y.1,y.2.1,y.2.2.1,y.2.2.2.1⟩) underlying42 rfl (by kernel_rfl) (AV (by kernel_rfl) (by decide) (L8 n) (AV (by kernel_rfl) (by decide) a (AV (by kernel_rfl) (by decide) (ZV n) (AV (by kernel_rfl) (by decide) (jI n) (CM))))) (fun _=>rfl)
theorem vt(fuel:Nat):B8 prog 42 9 AH fuel:=Nat.strongRecOn fuel tZ
theorem vu:∀fuel,B8 prog 44 25 Bq fuel
 |0=>BL|n+1=>Bv (L:=[(9,0),(37,1),(37,6),(38,11),(39,13),(4,15),(42,16)]) (m:=25) (fun y=>⟨y.1,y.2.1,y.2.2.1,y.2.2.2.1,y.2.2.2.2.1,y.2.2.2.2.2.1,y.2.2.2.2.2.2.1⟩) underlying44 rfl (by kernel_rfl) (AV (by kernel_rfl) (by decide) (fi n) (AV (by kernel_rfl) (by decide) (jI n) (AV (by kernel_rfl) (by decide) (jI n) (AV (by kernel_rfl) (by decide) (vr n) (AV (by kernel_rfl) (by decide) (ZV n) (AV (by kernel_rfl) (by decide) (uy n) (AV (by kernel_rfl) (by decide) (vt n) (CM)))))))) (fun _=>rfl)
theorem vw:∀fuel,B8 prog 46 3 Bg fuel
 |0=>BL|n+1=>Bv (L:=[(39,0),(26,2)]) (m:=3) (fun y=>⟨y.1,y.2.1⟩) underlying46 rfl (by kernel_rfl) (AV (by kernel_rfl) (by decide) (ZV n) (AV (by kernel_rfl) (by decide) (Rg n) (CM))) (fun _=>rfl)
theorem vz:∀fuel,B8 prog 47 1 (eL 1 (eL 1 eI)) fuel
 |0=>BL|n+1=>EU underlying47 (by kernel_rfl) (by decide) (of_decide_eq_true (by kernel_rfl)) (Rg n)
theorem p9:∀fuel,B8 prog 49 3 CD fuel
 |0=>BL|n+1=>Bv (L:=[(33,0),(47,2)]) (m:=3) (fun y=>⟨y.1,y.2.1⟩) underlying49 rfl (by kernel_rfl) (AV (by kernel_rfl) (by decide) (p8 n) (AV (by kernel_rfl) (by decide) (vz n) (CM))) (fun _=>rfl)
theorem v7:∀fuel,B8 prog 51 38 C1 fuel
 |0=>BL|n+1=>Bv (L:=[(44,0),(46,25),(49,28),(49,31),(39,34),(39,36)]) (m:=38) (fun y=>⟨y.1,y.2.1,y.2.2.1,y.2.2.2.1,y.2.2.2.2.1,y.2.2.2.2.2.1⟩) underlying51 rfl (by kernel_rfl) (AV (by kernel_rfl) (by decide) (vu n) (AV (by kernel_rfl) (by decide) (vw n) (AV (by kernel_rfl) (by decide) (p9 n) (AV (by kernel_rfl) (by decide) (p9 n) (AV (by kernel_rfl) (by decide) (ZV n) (AV (by kernel_rfl) (by decide) (ZV n) (CM))))))) (fun _=>rfl)
end Go.Sf.Sc
