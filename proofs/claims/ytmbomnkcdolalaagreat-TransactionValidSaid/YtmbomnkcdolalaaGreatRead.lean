/- What is read of the arguments of the law. -/
import Derived.Test.YtmbomnkcdolalaaGreatTypes
import Derived.Test.YtmbomnkcdolalaaGreatSfRead
import Derived.KernelRfl
set_option linter.all false
set_option maxRecDepth 100000
namespace Go.Sf.Sc
open Go Go.Sf Go.Proofs.Tryz
theorem ce:∀fuel,Bw prog 9 1 eS fuel
 |0=>A8|_+1=>cg underlying9
theorem Ki:∀fuel,Bw prog 3 1 eI fuel
 |0=>A8|_+1=>cf underlying3
theorem sL:∀fuel,Bw prog 4 1 eB fuel
 |0=>A8|_+1=>aQ underlying4
theorem qv:∀fuel,Bw prog 127 1 (eL 1 eS) fuel
 |0=>A8|n+1=>Df underlying127 (by kernel_rfl) (by decide) (of_decide_eq_true (by kernel_rfl)) (ce n)
theorem qw:∀fuel,Bw prog 129 4 GD fuel
 |0=>A8|n+1=>Bn (L:=[(9,0),(3,1),(3,2),(127,3)]) (m:=4) (fun y=>⟨y.1,y.2.1,y.2.2.1,y.2.2.2.1⟩) underlying129 rfl (by kernel_rfl) (AT (by kernel_rfl) (by decide) (ce n) (AT (by kernel_rfl) (by decide) (Ki n) (AT (by kernel_rfl) (by decide) (Ki n) (AT (by kernel_rfl) (by decide) (qv n) (CF))))) (fun _=>rfl)
theorem qx:∀fuel,Bw prog 130 1 (eL 4 GD) fuel
 |0=>A8|n+1=>Df underlying130 (by kernel_rfl) (by decide) (of_decide_eq_true (by kernel_rfl)) (qw n)
theorem qy:∀fuel,Bw prog 132 4 EZ fuel
 |0=>A8|n+1=>Bn (L:=[(9,0),(3,1),(4,2),(130,3)]) (m:=4) (fun y=>⟨y.1,y.2.1,y.2.2.1,y.2.2.2.1⟩) underlying132 rfl (by kernel_rfl) (AT (by kernel_rfl) (by decide) (ce n) (AT (by kernel_rfl) (by decide) (Ki n) (AT (by kernel_rfl) (by decide) (sL n) (AT (by kernel_rfl) (by decide) (qx n) (CF))))) (fun _=>rfl)
theorem sq:∀fuel,Bw prog 22 1 (eL 4 EZ) fuel
 |0=>A8|n+1=>Df underlying22 (by kernel_rfl) (by decide) (of_decide_eq_true (by kernel_rfl)) (qy n)
theorem qz:∀fuel,Bw prog 134 7 E3 fuel
 |0=>A8|n+1=>Bn (L:=[(9,0),(3,1),(3,2),(3,3),(3,4),(3,5),(3,6)]) (m:=7) (fun y=>⟨y.1,y.2.1,y.2.2.1,y.2.2.2.1,y.2.2.2.2.1,y.2.2.2.2.2.1,y.2.2.2.2.2.2.1⟩) underlying134 rfl (by kernel_rfl) (AT (by kernel_rfl) (by decide) (ce n) (AT (by kernel_rfl) (by decide) (Ki n) (AT (by kernel_rfl) (by decide) (Ki n) (AT (by kernel_rfl) (by decide) (Ki n) (AT (by kernel_rfl) (by decide) (Ki n) (AT (by kernel_rfl) (by decide) (Ki n) (AT (by kernel_rfl) (by decide) (Ki n) (CF)))))))) (fun _=>rfl)
theorem su:∀fuel,Bw prog 23 1 (eL 7 E3) fuel
 |0=>A8|n+1=>Df underlying23 (by kernel_rfl) (by decide) (of_decide_eq_true (by kernel_rfl)) (qz n)
theorem sv:∀fuel,Bw prog 25 2 AN fuel
 |0=>A8|n+1=>Bn (L:=[(22,0),(23,1)]) (m:=2) (fun y=>⟨y.1,y.2.1⟩) underlying25 rfl (by kernel_rfl) (AT (by kernel_rfl) (by decide) (sq n) (AT (by kernel_rfl) (by decide) (su n) (CF))) (fun _=>rfl)
theorem SC:∀fuel,Bw prog 27 1 (eL 1 eI) fuel
 |0=>A8|n+1=>Df underlying27 (by kernel_rfl) (by decide) (of_decide_eq_true (by kernel_rfl)) (Ki n)
theorem q8:∀fuel,Bw prog 144 3 Bq fuel
 |0=>A8|n+1=>Bn (L:=[(3,0),(3,1),(3,2)]) (m:=3) (fun y=>⟨y.1,y.2.1,y.2.2.1⟩) underlying144 rfl (by kernel_rfl) (AT (by kernel_rfl) (by decide) (Ki n) (AT (by kernel_rfl) (by decide) (Ki n) (AT (by kernel_rfl) (by decide) (Ki n) (CF)))) (fun _=>rfl)
theorem sz:∀fuel,Bw prog 28 1 (eL 3 Bq) fuel
 |0=>A8|n+1=>Df underlying28 (by kernel_rfl) (by decide) (of_decide_eq_true (by kernel_rfl)) (q8 n)
theorem nH:∀fuel,Bw prog 30 2 Aq fuel
 |0=>A8|n+1=>Bn (L:=[(27,0),(28,1)]) (m:=2) (fun y=>⟨y.1,y.2.1⟩) underlying30 rfl (by kernel_rfl) (AT (by kernel_rfl) (by decide) (SC n) (AT (by kernel_rfl) (by decide) (sz n) (CF))) (fun _=>rfl)
theorem aP:∀fuel,Bw prog 247 2 N9 fuel
 |0=>A8|n+1=>Bn (L:=[(3,0),(3,1)]) (m:=2) (fun y=>⟨y.1,y.2.1⟩) underlying247 rfl (by kernel_rfl) (AT (by kernel_rfl) (by decide) (Ki n) (AT (by kernel_rfl) (by decide) (Ki n) (CF))) (fun _=>rfl)
theorem q9:∀fuel,Bw prog 249 4 FM fuel
 |0=>A8|n+1=>Bn (L:=[(3,0),(3,1),(247,2)]) (m:=4) (fun y=>⟨y.1,y.2.1,y.2.2.1⟩) underlying249 rfl (by kernel_rfl) (AT (by kernel_rfl) (by decide) (Ki n) (AT (by kernel_rfl) (by decide) (Ki n) (AT (by kernel_rfl) (by decide) (aP n) (CF)))) (fun _=>rfl)
theorem tD:∀fuel,Bw prog 50 1 (eL 4 FM) fuel
 |0=>A8|n+1=>Df underlying50 (by kernel_rfl) (by decide) (of_decide_eq_true (by kernel_rfl)) (q9 n)
theorem rA:∀fuel,Bw prog 251 5 GF fuel
 |0=>A8|n+1=>Bn (L:=[(3,0),(247,1),(247,3)]) (m:=5) (fun y=>⟨y.1,y.2.1,y.2.2.1⟩) underlying251 rfl (by kernel_rfl) (AT (by kernel_rfl) (by decide) (Ki n) (AT (by kernel_rfl) (by decide) (aP n) (AT (by kernel_rfl) (by decide) (aP n) (CF)))) (fun _=>rfl)
theorem tE:∀fuel,Bw prog 51 1 (eL 5 GF) fuel
 |0=>A8|n+1=>Df underlying51 (by kernel_rfl) (by decide) (of_decide_eq_true (by kernel_rfl)) (rA n)
theorem fE:∀fuel,Bw prog 53 5 BC fuel
 |0=>A8|n+1=>Bn (L:=[(30,0),(50,2),(3,3),(51,4)]) (m:=5) (fun y=>⟨y.1,y.2.1,y.2.2.1,y.2.2.2.1⟩) underlying53 rfl (by kernel_rfl) (AT (by kernel_rfl) (by decide) (nH n) (AT (by kernel_rfl) (by decide) (tD n) (AT (by kernel_rfl) (by decide) (Ki n) (AT (by kernel_rfl) (by decide) (tE n) (CF))))) (fun _=>rfl)
theorem tF:∀fuel,Bw prog 55 2 GE fuel
 |0=>A8|n+1=>Bn (L:=[(27,0),(27,1)]) (m:=2) (fun y=>⟨y.1,y.2.1⟩) underlying55 rfl (by kernel_rfl) (AT (by kernel_rfl) (by decide) (SC n) (AT (by kernel_rfl) (by decide) (SC n) (CF))) (fun _=>rfl)
theorem fF:∀fuel,Bw prog 56 2 An fuel
 |0=>A8|n+1=>Bn (L:=[(27,0),(27,1)]) (m:=2) (fun y=>⟨y.1,y.2.1⟩) underlying56 rfl (by kernel_rfl) (AT (by kernel_rfl) (by decide) (SC n) (AT (by kernel_rfl) (by decide) (SC n) (CF))) (fun _=>rfl)
theorem rB(n:Nat)(b:∀k,k<n->Bw prog 59 9 AJ k):Bw prog 59 9 AJ n:=by
 cases n with
 |zero=>exact A8|succ n=>
  have a:Bw prog 57 1 D7 n:=by
   cases n with
   |zero=>exact A8|succ m=>
    have:=Df underlying57 (n:=9) (by kernel_rfl) (by decide) (of_decide_eq_true (by kernel_rfl)) (b m (by omega));have he:D7=(fun l=>TV.list 9 (l.map AJ)):=funext Lv;rw[he];exact this
  exact Bn (L:=[(3,0),(57,1),(56,2),(53,4)]) (m:=9) (fun y=>⟨y.1,y.2.1,y.2.2.1,y.2.2.2.1⟩) underlying59 rfl (by kernel_rfl) (AT (by kernel_rfl) (by decide) (Ki n) (AT (by kernel_rfl) (by decide) a (AT (by kernel_rfl) (by decide) (fF n) (AT (by kernel_rfl) (by decide) (fE n) (CF))))) (fun _=>rfl)
theorem tG(fuel:Nat):Bw prog 59 9 AJ fuel:=Nat.strongRecOn fuel rB
theorem tH:∀fuel,Bw prog 61 25 Bs fuel
 |0=>A8|n+1=>Bn (L:=[(9,0),(53,1),(53,6),(55,11),(56,13),(4,15),(59,16)]) (m:=25) (fun y=>⟨y.1,y.2.1,y.2.2.1,y.2.2.2.1,y.2.2.2.2.1,y.2.2.2.2.2.1,y.2.2.2.2.2.2.1⟩) underlying61 rfl (by kernel_rfl) (AT (by kernel_rfl) (by decide) (ce n) (AT (by kernel_rfl) (by decide) (fE n) (AT (by kernel_rfl) (by decide) (fE n) (AT (by kernel_rfl) (by decide) (tF n) (AT (by kernel_rfl) (by decide) (fF n) (AT (by kernel_rfl) (by decide) (sL n) (AT (by kernel_rfl) (by decide) (tG n) (CF)))))))) (fun _=>rfl)
theorem sw:∀fuel,Bw prog 26 1 (eL 25 Bs) fuel
 |0=>A8|n+1=>Df underlying26 (by kernel_rfl) (by decide) (of_decide_eq_true (by kernel_rfl)) (tH n)
theorem s7:∀fuel,Bw prog 31 1 (eL 1 (eL 1 eI)) fuel
 |0=>A8|n+1=>Df underlying31 (by kernel_rfl) (by decide) (of_decide_eq_true (by kernel_rfl)) (SC n)
theorem s8:∀fuel,Bw prog 33 3 Bl fuel
 |0=>A8|n+1=>Bn (L:=[(30,0),(31,2)]) (m:=3) (fun y=>⟨y.1,y.2.1⟩) underlying33 rfl (by kernel_rfl) (AT (by kernel_rfl) (by decide) (nH n) (AT (by kernel_rfl) (by decide) (s7 n) (CF))) (fun _=>rfl)
theorem tI:∀fuel,Bw prog 67 3 Be fuel
 |0=>A8|n+1=>Bn (L:=[(56,0),(27,2)]) (m:=3) (fun y=>⟨y.1,y.2.1⟩) underlying67 rfl (by kernel_rfl) (AT (by kernel_rfl) (by decide) (fF n) (AT (by kernel_rfl) (by decide) (SC n) (CF))) (fun _=>rfl)
theorem tJ:∀fuel,Bw prog 69 4 Et fuel
 |0=>A8|n+1=>Bn (L:=[(3,0),(67,1)]) (m:=4) (fun y=>⟨y.1,y.2.1⟩) underlying69 rfl (by kernel_rfl) (AT (by kernel_rfl) (by decide) (Ki n) (AT (by kernel_rfl) (by decide) (tI n) (CF))) (fun _=>rfl)
theorem s9:∀fuel,Bw prog 34 1 (eL 4 Et) fuel
 |0=>A8|n+1=>Df underlying34 (by kernel_rfl) (by decide) (of_decide_eq_true (by kernel_rfl)) (tJ n)
theorem tA:∀fuel,Bw prog 36 4 De fuel
 |0=>A8|n+1=>Bn (L:=[(33,0),(34,3)]) (m:=4) (fun y=>⟨y.1,y.2.1⟩) underlying36 rfl (by kernel_rfl) (AT (by kernel_rfl) (by decide) (s8 n) (AT (by kernel_rfl) (by decide) (s9 n) (CF))) (fun _=>rfl)
theorem tB:∀fuel,Bw prog 38 5 B3 fuel
 |0=>A8|n+1=>Bn (L:=[(36,0),(27,4)]) (m:=5) (fun y=>⟨y.1,y.2.1⟩) underlying38 rfl (by kernel_rfl) (AT (by kernel_rfl) (by decide) (tA n) (AT (by kernel_rfl) (by decide) (SC n) (CF))) (fun _=>rfl)
theorem tC:∀fuel,Bw prog 40 8 GO fuel
 |0=>A8|n+1=>Bn (L:=[(25,0),(26,2),(38,3)]) (m:=8) (fun y=>⟨y.1,y.2.1,y.2.2.1⟩) underlying40 rfl (by kernel_rfl) (AT (by kernel_rfl) (by decide) (sv n) (AT (by kernel_rfl) (by decide) (sw n) (AT (by kernel_rfl) (by decide) (tB n) (CF)))) (fun _=>rfl)
end Go.Sf.Sc
