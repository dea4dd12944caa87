/- What is read of the arguments of the law. -/
import Derived.Test.YtmaobfbhdkafkaaGreatTypes
import Derived.Test.YtmaobfbhdkafkaaGreatSfClaim
import Derived.KernelRfl
set_option maxRecDepth 100000
namespace Go.Sf.Sc
open Go Go.Sf Go.Proofs.Tryz
theorem Y9:∀ fuel,CG prog 9 1 eS fuel
 | 0=>BH
 | _+1=>Wi underlying9
theorem KS:∀ fuel,CG prog 3 1 eI fuel
 | 0=>BH
 | _+1=>Wh underlying3
theorem kV:∀ fuel,CG prog 4 1 eB fuel
 | 0=>BH
 | _+1=>VV underlying4
theorem jT:∀ fuel,CG prog 100 1 (eL 1 eS) fuel
 | 0=>BH
 | n+1=>FG underlying100 (by kernel_rfl) (by decide) (of_decide_eq_true (by kernel_rfl)) (Y9 n)
theorem jU:∀ fuel,CG prog 102 4 HY fuel
 | 0=>BH
 | n+1=>CI (L:=[(9,0),(3,1),(3,2),(100,3)]) (m:=4) (fun y=>⟨y.1,y.2.1,y.2.2.1,y.2.2.2.1⟩) underlying102 rfl (by kernel_rfl) (AR (by kernel_rfl) (by decide) (Y9 n) (AR (by kernel_rfl) (by decide) (KS n) (AR (by kernel_rfl) (by decide) (KS n) (AR (by kernel_rfl) (by decide) (jT n) (DF))))) (fun _=>rfl)
theorem nB:∀ fuel,CG prog 97 1 (eL 4 HY) fuel
 | 0=>BH
 | n+1=>FG underlying97 (by kernel_rfl) (by decide) (of_decide_eq_true (by kernel_rfl)) (jU n)
theorem nC:∀ fuel,CG prog 99 4 GH fuel
 | 0=>BH
 | n+1=>CI (L:=[(9,0),(3,1),(4,2),(97,3)]) (m:=4) (fun y=>⟨y.1,y.2.1,y.2.2.1,y.2.2.2.1⟩) underlying99 rfl (by kernel_rfl) (AR (by kernel_rfl) (by decide) (Y9 n) (AR (by kernel_rfl) (by decide) (KS n) (AR (by kernel_rfl) (by decide) (kV n) (AR (by kernel_rfl) (by decide) (nB n) (DF))))) (fun _=>rfl)
theorem mq:∀ fuel,CG prog 22 1 (eL 4 GH) fuel
 | 0=>BH
 | n+1=>FG underlying22 (by kernel_rfl) (by decide) (of_decide_eq_true (by kernel_rfl)) (nC n)
theorem jV:∀ fuel,CG prog 104 7 G0 fuel
 | 0=>BH
 | n+1=>CI (L:=[(9,0),(3,1),(3,2),(3,3),(3,4),(3,5),(3,6)]) (m:=7) (fun y=>⟨y.1,y.2.1,y.2.2.1,y.2.2.2.1,y.2.2.2.2.1,y.2.2.2.2.2.1,y.2.2.2.2.2.2.1⟩) underlying104 rfl (by kernel_rfl) (AR (by kernel_rfl) (by decide) (Y9 n) (AR (by kernel_rfl) (by decide) (KS n) (AR (by kernel_rfl) (by decide) (KS n) (AR (by kernel_rfl) (by decide) (KS n) (AR (by kernel_rfl) (by decide) (KS n) (AR (by kernel_rfl) (by decide) (KS n) (AR (by kernel_rfl) (by decide) (KS n) (DF)))))))) (fun _=>rfl)
theorem mr:∀ fuel,CG prog 23 1 (eL 7 G0) fuel
 | 0=>BH
 | n+1=>FG underlying23 (by kernel_rfl) (by decide) (of_decide_eq_true (by kernel_rfl)) (jV n)
theorem ms:∀ fuel,CG prog 25 2 AP fuel
 | 0=>BH
 | n+1=>CI (L:=[(22,0),(23,1)]) (m:=2) (fun y=>⟨y.1,y.2.1⟩) underlying25 rfl (by kernel_rfl) (AR (by kernel_rfl) (by decide) (mq n) (AR (by kernel_rfl) (by decide) (mr n) (DF))) (fun _=>rfl)
theorem Tb:∀ fuel,CG prog 26 1 (eL 1 eI) fuel
 | 0=>BH
 | n+1=>FG underlying26 (by kernel_rfl) (by decide) (of_decide_eq_true (by kernel_rfl)) (KS n)
theorem nA:∀ fuel,CG prog 96 3 DZ fuel
 | 0=>BH
 | n+1=>CI (L:=[(3,0),(3,1),(3,2)]) (m:=3) (fun y=>⟨y.1,y.2.1,y.2.2.1⟩) underlying96 rfl (by kernel_rfl) (AR (by kernel_rfl) (by decide) (KS n) (AR (by kernel_rfl) (by decide) (KS n) (AR (by kernel_rfl) (by decide) (KS n) (DF)))) (fun _=>rfl)
theorem mt:∀ fuel,CG prog 27 1 (eL 3 DZ) fuel
 | 0=>BH
 | n+1=>FG underlying27 (by kernel_rfl) (by decide) (of_decide_eq_true (by kernel_rfl)) (nA n)
theorem cf:∀ fuel,CG prog 29 2 CA fuel
 | 0=>BH
 | n+1=>CI (L:=[(26,0),(27,1)]) (m:=2) (fun y=>⟨y.1,y.2.1⟩) underlying29 rfl (by kernel_rfl) (AR (by kernel_rfl) (by decide) (Tb n) (AR (by kernel_rfl) (by decide) (mt n) (DF))) (fun _=>rfl)
theorem VU:∀ fuel,CG prog 139 2 Ma fuel
 | 0=>BH
 | n+1=>CI (L:=[(3,0),(3,1)]) (m:=2) (fun y=>⟨y.1,y.2.1⟩) underlying139 rfl (by kernel_rfl) (AR (by kernel_rfl) (by decide) (KS n) (AR (by kernel_rfl) (by decide) (KS n) (DF))) (fun _=>rfl)
theorem jW:∀ fuel,CG prog 141 4 Kg fuel
 | 0=>BH
 | n+1=>CI (L:=[(3,0),(3,1),(139,2)]) (m:=4) (fun y=>⟨y.1,y.2.1,y.2.2.1⟩) underlying141 rfl (by kernel_rfl) (AR (by kernel_rfl) (by decide) (KS n) (AR (by kernel_rfl) (by decide) (KS n) (AR (by kernel_rfl) (by decide) (VU n) (DF)))) (fun _=>rfl)
theorem mu:∀ fuel,CG prog 30 1 (eL 4 Kg) fuel
 | 0=>BH
 | n+1=>FG underlying30 (by kernel_rfl) (by decide) (of_decide_eq_true (by kernel_rfl)) (jW n)
theorem jX:∀ fuel,CG prog 144 5 Kh fuel
 | 0=>BH
 | n+1=>CI (L:=[(3,0),(139,1),(139,3)]) (m:=5) (fun y=>⟨y.1,y.2.1,y.2.2.1⟩) underlying144 rfl (by kernel_rfl) (AR (by kernel_rfl) (by decide) (KS n) (AR (by kernel_rfl) (by decide) (VU n) (AR (by kernel_rfl) (by decide) (VU n) (DF)))) (fun _=>rfl)
theorem mw:∀ fuel,CG prog 31 1 (eL 5 Kh) fuel
 | 0=>BH
 | n+1=>FG underlying31 (by kernel_rfl) (by decide) (of_decide_eq_true (by kernel_rfl)) (jX n)
theorem cg:∀ fuel,CG prog 33 5 BE fuel
 | 0=>BH
 | n+1=>CI (L:=[(29,0),(30,2),(3,3),(31,4)]) (m:=5) (fun y=>⟨y.1,y.2.1,y.2.2.1,y.2.2.2.1⟩) underlying33 rfl (by kernel_rfl) (AR (by kernel_rfl) (by decide) (cf n) (AR (by kernel_rfl) (by decide) (mu n) (AR (by kernel_rfl) (by decide) (KS n) (AR (by kernel_rfl) (by decide) (mw n) (DF))))) (fun _=>rfl)
theorem cj:∀ fuel,CG prog 36 2 BO fuel
 | 0=>BH
 | n+1=>CI (L:=[(26,0),(26,1)]) (m:=2) (fun y=>⟨y.1,y.2.1⟩) underlying36 rfl (by kernel_rfl) (AR (by kernel_rfl) (by decide) (Tb n) (AR (by kernel_rfl) (by decide) (Tb n) (DF))) (fun _=>rfl)
theorem jY (n:Nat) (ih:∀ k,k<n->CG prog 38 9 AJ k):CG prog 38 9 AJ n:=by
 cases n with
 | zero=>exact BH
 | succ n=>
  have hk34:CG prog 34 1 GT n:=by
   cases n with
   | zero=>exact BH
   | succ m=>
    have:=FG underlying34 (n:=9) (by kernel_rfl) (by decide) (of_decide_eq_true (by kernel_rfl)) (ih m (by omega))
    have he:GT=(fun l=>TV.list 9 (l.map AJ)):=funext LH
    rw [he]; exact this
  exact CI (L:=[(3,0),(34,1),(36,2),(33,4)]) (m:=9) (fun y=>⟨y.1,y.2.1,y.2.2.1,y.2.2.2.1⟩) underlying38 rfl (by kernel_rfl) (AR (by kernel_rfl) (by decide) (KS n) (AR (by kernel_rfl) (by decide) hk34 (AR (by kernel_rfl) (by decide) (cj n) (AR (by kernel_rfl) (by decide) (cg n) (DF))))) (fun _=>rfl)
theorem my (fuel:Nat):CG prog 38 9 AJ fuel:=Nat.strongRecOn fuel jY
theorem mz:∀ fuel,CG prog 40 14 GU fuel
 | 0=>BH
 | n+1=>CI (L:=[(33,0),(38,5)]) (m:=14) (fun y=>⟨y.1,y.2.1⟩) underlying40 rfl (by kernel_rfl) (AR (by kernel_rfl) (by decide) (cg n) (AR (by kernel_rfl) (by decide) (my n) (DF))) (fun _=>rfl)
theorem m5:∀ fuel,CG prog 48 1 (eL 1 (eL 1 eI)) fuel
 | 0=>BH
 | n+1=>FG underlying48 (by kernel_rfl) (by decide) (of_decide_eq_true (by kernel_rfl)) (Tb n)
theorem m6:∀ fuel,CG prog 50 3 D2 fuel
 | 0=>BH
 | n+1=>CI (L:=[(29,0),(48,2)]) (m:=3) (fun y=>⟨y.1,y.2.1⟩) underlying50 rfl (by kernel_rfl) (AR (by kernel_rfl) (by decide) (cf n) (AR (by kernel_rfl) (by decide) (m5 n) (DF))) (fun _=>rfl)
theorem cl:∀ fuel,CG prog 52 3 BB fuel
 | 0=>BH
 | n+1=>CI (L:=[(36,0),(26,2)]) (m:=3) (fun y=>⟨y.1,y.2.1⟩) underlying52 rfl (by kernel_rfl) (AR (by kernel_rfl) (by decide) (cj n) (AR (by kernel_rfl) (by decide) (Tb n) (DF))) (fun _=>rfl)
theorem m7:∀ fuel,CG prog 54 7 Rd fuel
 | 0=>BH
 | n+1=>CI (L:=[(50,0),(52,3),(4,6)]) (m:=7) (fun y=>⟨y.1,y.2.1,y.2.2.1⟩) underlying54 rfl (by kernel_rfl) (AR (by kernel_rfl) (by decide) (m6 n) (AR (by kernel_rfl) (by decide) (cl n) (AR (by kernel_rfl) (by decide) (kV n) (DF)))) (fun _=>rfl)
theorem jZ (n:Nat) (ih:∀ k,k<n->CG prog 60 5 BZ k):CG prog 60 5 BZ n:=by
 cases n with
 | zero=>exact BH
 | succ n=>
  have hk58:CG prog 58 1 GP n:=by
   cases n with
   | zero=>exact BH
   | succ m=>
    have:=FG underlying58 (n:=5) (by kernel_rfl) (by decide) (of_decide_eq_true (by kernel_rfl)) (ih m (by omega))
    have he:GP=(fun l=>TV.list 5 (l.map BZ)):=funext NX
    rw [he]; exact this
  exact CI (L:=[(3,0),(52,1),(58,4)]) (m:=5) (fun y=>⟨y.1,y.2.1,y.2.2.1⟩) underlying60 rfl (by kernel_rfl) (AR (by kernel_rfl) (by decide) (KS n) (AR (by kernel_rfl) (by decide) (cl n) (AR (by kernel_rfl) (by decide) hk58 (DF)))) (fun _=>rfl)
theorem m8 (fuel:Nat):CG prog 60 5 BZ fuel:=Nat.strongRecOn fuel jZ
theorem m9:∀ fuel,CG prog 66 12 Im fuel
 | 0=>BH
 | n+1=>CI (L:=[(54,0),(60,7)]) (m:=12) (fun y=>⟨y.1,y.2.1⟩) underlying66 rfl (by kernel_rfl) (AR (by kernel_rfl) (by decide) (m7 n) (AR (by kernel_rfl) (by decide) (m8 n) (DF))) (fun _=>rfl)
end Go.Sf.Sc
