/- What is read of the arguments of the law. -/
import Derived.Test.YtmaobfbhdkafkaaGreatTypes
import Derived.Test.YtmaobfbhdkafkaaGreatSfClaim
import Derived.KernelRfl
set_option maxRecDepth 100000
namespace Go.Sf.Sc
open Go Go.Sf Go.Proofs.Tryz
theorem Y7:∀ fuel,CW prog 9 1 eS fuel
 | 0=>BO
 | _+1=>Wj underlying9
theorem Ks:∀ fuel,CW prog 3 1 eI fuel
 | 0=>BO
 | _+1=>Wi underlying3
theorem kQ:∀ fuel,CW prog 4 1 eB fuel
 | 0=>BO
 | _+1=>VV underlying4
theorem jP:∀ fuel,CW prog 100 1 (eL 1 eS) fuel
 | 0=>BO
 | n+1=>FT underlying100 (by kernel_rfl) (by decide) (of_decide_eq_true (by kernel_rfl)) (Y7 n)
theorem jQ:∀ fuel,CW prog 102 4 HK fuel
 | 0=>BO
 | n+1=>CX (L:=[(9,0),(3,1),(3,2),(100,3)]) (m:=4) (fun y=>⟨y.1,y.2.1,y.2.2.1,y.2.2.2.1⟩) underlying102 rfl (by kernel_rfl) (AV (by kernel_rfl) (by decide) (Y7 n) (AV (by kernel_rfl) (by decide) (Ks n) (AV (by kernel_rfl) (by decide) (Ks n) (AV (by kernel_rfl) (by decide) (jP n) (DS))))) (fun _=>rfl)
theorem mr:∀ fuel,CW prog 97 1 (eL 4 HK) fuel
 | 0=>BO
 | n+1=>FT underlying97 (by kernel_rfl) (by decide) (of_decide_eq_true (by kernel_rfl)) (jQ n)
theorem ms:∀ fuel,CW prog 99 4 GC fuel
 | 0=>BO
 | n+1=>CX (L:=[(9,0),(3,1),(4,2),(97,3)]) (m:=4) (fun y=>⟨y.1,y.2.1,y.2.2.1,y.2.2.2.1⟩) underlying99 rfl (by kernel_rfl) (AV (by kernel_rfl) (by decide) (Y7 n) (AV (by kernel_rfl) (by decide) (Ks n) (AV (by kernel_rfl) (by decide) (kQ n) (AV (by kernel_rfl) (by decide) (mr n) (DS))))) (fun _=>rfl)
theorem mb:∀ fuel,CW prog 22 1 (eL 4 GC) fuel
 | 0=>BO
 | n+1=>FT underlying22 (by kernel_rfl) (by decide) (of_decide_eq_true (by kernel_rfl)) (ms n)
theorem jR:∀ fuel,CW prog 104 7 GY fuel
 | 0=>BO
 | n+1=>CX (L:=[(9,0),(3,1),(3,2),(3,3),(3,4),(3,5),(3,6)]) (m:=7) (fun y=>⟨y.1,y.2.1,y.2.2.1,y.2.2.2.1,y.2.2.2.2.1,y.2.2.2.2.2.1,y.2.2.2.2.2.2.1⟩) underlying104 rfl (by kernel_rfl) (AV (by kernel_rfl) (by decide) (Y7 n) (AV (by kernel_rfl) (by decide) (Ks n) (AV (by kernel_rfl) (by decide) (Ks n) (AV (by kernel_rfl) (by decide) (Ks n) (AV (by kernel_rfl) (by decide) (Ks n) (AV (by kernel_rfl) (by decide) (Ks n) (AV (by kernel_rfl) (by decide) (Ks n) (DS)))))))) (fun _=>rfl)
theorem mc:∀ fuel,CW prog 23 1 (eL 7 GY) fuel
 | 0=>BO
 | n+1=>FT underlying23 (by kernel_rfl) (by decide) (of_decide_eq_true (by kernel_rfl)) (jR n)
theorem md:∀ fuel,CW prog 25 2 AP fuel
 | 0=>BO
 | n+1=>CX (L:=[(22,0),(23,1)]) (m:=2) (fun y=>⟨y.1,y.2.1⟩) underlying25 rfl (by kernel_rfl) (AV (by kernel_rfl) (by decide) (mb n) (AV (by kernel_rfl) (by decide) (mc n) (DS))) (fun _=>rfl)
theorem TM:∀ fuel,CW prog 26 1 (eL 1 eI) fuel
 | 0=>BO
 | n+1=>FT underlying26 (by kernel_rfl) (by decide) (of_decide_eq_true (by kernel_rfl)) (Ks n)
theorem mq:∀ fuel,CW prog 96 3 DZ fuel
 | 0=>BO
 | n+1=>CX (L:=[(3,0),(3,1),(3,2)]) (m:=3) (fun y=>⟨y.1,y.2.1,y.2.2.1⟩) underlying96 rfl (by kernel_rfl) (AV (by kernel_rfl) (by decide) (Ks n) (AV (by kernel_rfl) (by decide) (Ks n) (AV (by kernel_rfl) (by decide) (Ks n) (DS)))) (fun _=>rfl)
theorem me:∀ fuel,CW prog 27 1 (eL 3 DZ) fuel
 | 0=>BO
 | n+1=>FT underlying27 (by kernel_rfl) (by decide) (of_decide_eq_true (by kernel_rfl)) (mq n)
theorem cd:∀ fuel,CW prog 29 2 B7 fuel
 | 0=>BO
 | n+1=>CX (L:=[(26,0),(27,1)]) (m:=2) (fun y=>⟨y.1,y.2.1⟩) underlying29 rfl (by kernel_rfl) (AV (by kernel_rfl) (by decide) (TM n) (AV (by kernel_rfl) (by decide) (me n) (DS))) (fun _=>rfl)
theorem VU:∀ fuel,CW prog 139 2 MW fuel
 | 0=>BO
 | n+1=>CX (L:=[(3,0),(3,1)]) (m:=2) (fun y=>⟨y.1,y.2.1⟩) underlying139 rfl (by kernel_rfl) (AV (by kernel_rfl) (by decide) (Ks n) (AV (by kernel_rfl) (by decide) (Ks n) (DS))) (fun _=>rfl)
theorem jS:∀ fuel,CW prog 141 4 KV fuel
 | 0=>BO
 | n+1=>CX (L:=[(3,0),(3,1),(139,2)]) (m:=4) (fun y=>⟨y.1,y.2.1,y.2.2.1⟩) underlying141 rfl (by kernel_rfl) (AV (by kernel_rfl) (by decide) (Ks n) (AV (by kernel_rfl) (by decide) (Ks n) (AV (by kernel_rfl) (by decide) (VU n) (DS)))) (fun _=>rfl)
theorem mf:∀ fuel,CW prog 30 1 (eL 4 KV) fuel
 | 0=>BO
 | n+1=>FT underlying30 (by kernel_rfl) (by decide) (of_decide_eq_true (by kernel_rfl)) (jS n)
theorem jT:∀ fuel,CW prog 144 5 KW fuel
 | 0=>BO
 | n+1=>CX (L:=[(3,0),(139,1),(139,3)]) (m:=5) (fun y=>⟨y.1,y.2.1,y.2.2.1⟩) underlying144 rfl (by kernel_rfl) (AV (by kernel_rfl) (by decide) (Ks n) (AV (by kernel_rfl) (by decide) (VU n) (AV (by kernel_rfl) (by decide) (VU n) (DS)))) (fun _=>rfl)
theorem mg:∀ fuel,CW prog 31 1 (eL 5 KW) fuel
 | 0=>BO
 | n+1=>FT underlying31 (by kernel_rfl) (by decide) (of_decide_eq_true (by kernel_rfl)) (jT n)
theorem ce:∀ fuel,CW prog 33 5 BB fuel
 | 0=>BO
 | n+1=>CX (L:=[(29,0),(30,2),(3,3),(31,4)]) (m:=5) (fun y=>⟨y.1,y.2.1,y.2.2.1,y.2.2.2.1⟩) underlying33 rfl (by kernel_rfl) (AV (by kernel_rfl) (by decide) (cd n) (AV (by kernel_rfl) (by decide) (mf n) (AV (by kernel_rfl) (by decide) (Ks n) (AV (by kernel_rfl) (by decide) (mg n) (DS))))) (fun _=>rfl)
theorem cf:∀ fuel,CW prog 36 2 BJ fuel
 | 0=>BO
 | n+1=>CX (L:=[(26,0),(26,1)]) (m:=2) (fun y=>⟨y.1,y.2.1⟩) underlying36 rfl (by kernel_rfl) (AV (by kernel_rfl) (by decide) (TM n) (AV (by kernel_rfl) (by decide) (TM n) (DS))) (fun _=>rfl)
theorem jU (n:Nat) (ih:∀ k,k<n->CW prog 38 9 AJ k):CW prog 38 9 AJ n:=by
 cases n with
 | zero=>exact BO
 | succ n=>
  have hk34:CW prog 34 1 GP n:=by
   cases n with
   | zero=>exact BO
   | succ m=>
    have:=FT underlying34 (n:=9) (by kernel_rfl) (by decide) (of_decide_eq_true (by kernel_rfl)) (ih m (by omega))
    have he:GP=(fun l=>TV.list 9 (l.map AJ)):=funext LA
    rw [he]; exact this
  exact CX (L:=[(3,0),(34,1),(36,2),(33,4)]) (m:=9) (fun y=>⟨y.1,y.2.1,y.2.2.1,y.2.2.2.1⟩) underlying38 rfl (by kernel_rfl) (AV (by kernel_rfl) (by decide) (Ks n) (AV (by kernel_rfl) (by decide) hk34 (AV (by kernel_rfl) (by decide) (cf n) (AV (by kernel_rfl) (by decide) (ce n) (DS))))) (fun _=>rfl)
theorem mh (fuel:Nat):CW prog 38 9 AJ fuel:=Nat.strongRecOn fuel jU
theorem mi:∀ fuel,CW prog 40 14 GQ fuel
 | 0=>BO
 | n+1=>CX (L:=[(33,0),(38,5)]) (m:=14) (fun y=>⟨y.1,y.2.1⟩) underlying40 rfl (by kernel_rfl) (AV (by kernel_rfl) (by decide) (ce n) (AV (by kernel_rfl) (by decide) (mh n) (DS))) (fun _=>rfl)
theorem mj:∀ fuel,CW prog 48 1 (eL 1 (eL 1 eI)) fuel
 | 0=>BO
 | n+1=>FT underlying48 (by kernel_rfl) (by decide) (of_decide_eq_true (by kernel_rfl)) (TM n)
theorem ml:∀ fuel,CW prog 50 3 E1 fuel
 | 0=>BO
 | n+1=>CX (L:=[(29,0),(48,2)]) (m:=3) (fun y=>⟨y.1,y.2.1⟩) underlying50 rfl (by kernel_rfl) (AV (by kernel_rfl) (by decide) (cd n) (AV (by kernel_rfl) (by decide) (mj n) (DS))) (fun _=>rfl)
theorem mn:∀ fuel,CW prog 52 3 BQ fuel
 | 0=>BO
 | n+1=>CX (L:=[(36,0),(26,2)]) (m:=3) (fun y=>⟨y.1,y.2.1⟩) underlying52 rfl (by kernel_rfl) (AV (by kernel_rfl) (by decide) (cf n) (AV (by kernel_rfl) (by decide) (TM n) (DS))) (fun _=>rfl)
theorem mp:∀ fuel,CW prog 54 7 Km fuel
 | 0=>BO
 | n+1=>CX (L:=[(50,0),(52,3),(4,6)]) (m:=7) (fun y=>⟨y.1,y.2.1,y.2.2.1⟩) underlying54 rfl (by kernel_rfl) (AV (by kernel_rfl) (by decide) (ml n) (AV (by kernel_rfl) (by decide) (mn n) (AV (by kernel_rfl) (by decide) (kQ n) (DS)))) (fun _=>rfl)
end Go.Sf.Sc
