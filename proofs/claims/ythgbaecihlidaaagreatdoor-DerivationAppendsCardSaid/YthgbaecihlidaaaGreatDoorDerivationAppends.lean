/- Lemmas. -/
import Derived.Test.YthgbaecihlidaaaGreatDoorRead3
import Derived.Test.YthgbaecihlidaaaGreatDoorP130
import Derived.Test.YthgbaecihlidaaaGreatDoorCon6
import Derived.Test.YthgbaecihlidaaaGreatDoorFns
import Derived.Test.YthgbaecihlidaaaGreatDoorRows
import Derived.Test.YthgbaecihlidaaaGreatDoorCards
import Derived.Test.YthgbaecihlidaaaGreatDoorTie
import Derived.SevenTiedAt
import Derived.LaidLaws
import Derived.Lay
import Derived.JoinedOf
import Derived.JoinedAt
import Derived.Handed
import Derived.SizedLaws
import Derived.Test.YthgbaecihlidaaaGreatDoorU2r3
import Derived.Test.YthgbaecihlidaaaGreatDoorU3r3
import Derived.Test.YthgbaecihlidaaaGreatDoorU4r3
set_option linter.all false
set_option maxRecDepth 100000
namespace Go.Proofs.YthgbaecihlidaaaGreatDoor
open Go Go.Sf Go.Sf.Sc Go.Proofs.Tryz
theorem ud:ownKnob prog.godebug=none:=by kernel_rfl
theorem sO:laidOutB prog=true:=by kernel_rfl
theorem QG:Lj prog f3.params.toList (fun a=>∃cs bs,a=cs++bs/\(∃x,cs=[IL x])/\∃l:Fp,bs=[.list 1 (l.map UW)]):=by
 rw [params3];exact Vn (XB (by decide) ug fun _=>⟨_,rfl⟩) (Yo underlying29 uh)
theorem Px(a:Fq)(h:∃cs bs,a=cs++bs/\(∃x,cs=[IL x])/\∃l:Fp,bs=[.list 1 (l.map UW)])(b:TV.tn a)(_:TV.Sms a):AO prog 3 a (.sh (.bool true)):=by
 obtain ⟨cs,bs,rfl,⟨x,rfl⟩,l,rfl⟩:=h;exact(c3 x l).snd true (P8 x l (dF b.1))
theorem PG(os:Os)(a:os.Started)(H:Type)(enc:TypeId×Value->H):
  ReturnsInHanded {} checked os 3 .any (fun w args=>(Rows.derivationAppendsSpec.pre enc prog f3 Rows.derivationAppendsRow.domain false w args/\laidMetH prog Rows.derivationAppendsRow.laid w)/\sizedMet enc prog f3 (OpenSpec.ofChange Rows.derivationAppendsSpec) false w args) (Rows.derivationAppendsSpec.post enc prog f3 false true false false):=by
 refine returnsInHanded_of_change_and (C:=checked) (X:=fun w _=>laidMetH prog Rows.derivationAppendsRow.laid w) (fun _ _ _ hh h=>h.of_heap hh) ud a (by kernel_rfl) func3
  (ChangeSpec.witness_shaped (enc:=enc) (C:=checked) (os:=os) (X:=fun w _=>laidMetH prog Rows.derivationAppendsRow.laid w) false (World.laidAll prog os Rows.derivationAppendsRow.laid) #[Value.agg #[.slice none 0 0,.slice none 0 0,.slice none 0 0,.slice none 0 0,.slice none 0 0],.slice none 0 0] 8 (World.laidAll_os _ _ _)
   (World.shaped_of_ZipB (by kernel_rfl) (by kernel_rfl)) (by kernel_rfl) (by kernel_rfl) (by kernel_rfl)
   (by rw[MakeChecks.laidMetH_plain _ _ _ (by kernel_rfl)];exact laidMet_laidAll _ (by kernel_rfl) (by kernel_rfl))) ?_
 intro W base args ds g b c i _ d _ _;refine Uq sO (by kernel_rfl) (tb:=4) (by kernel_rfl) underlying4 rfl (fun H ds hd=>?_) Px H enc W args ds g b i d (fun k h=>QG H enc W base _ _ _ (fun j t v e f=>c j t v (by rw[<-Array.getElem?_toList];exact e) (by rw[<-Array.getElem?_toList];exact f)) h)
 match ds,hd with
 |[_,_],_=>rfl
theorem derivationAppends_holds:Rows.DerivationAppendsSaid:=
 OpenClaim.holds_of_wide 3 f3 rfl rfl rfl rfl rfl rfl rfl ⟨rfl,rfl,rfl,rfl,rfl⟩ rfl rfl rfl rfl rfl Ks func3 Pw
  (of_decide_eq_true (by kernel_rfl)) (by unfold Func.isWrapper;first|(rw[az (by decide +kernel)];kernel_rfl)|(rw[b6 (by decide +kernel)];exact⟨rfl,rfl⟩))
  (fun os a H enc _=>PG os a H enc)
theorem derivationAppends_card_holds:Rows.DerivationAppendsCardSaid:=
 Claim7.holds_tied_plain_at .later [] [.data,.data,.data] true (true, "b1fc1a4ab73de562339688ed86601e62a26f84d51675277b271f0f77fb2a655d") false
  derivationAppends_holds (fun _ h=>by cases h) Qf (fun _ h=>by cases h) derivationAppends_row_tie rfl ⟨rfl,rfl⟩ P0 rfl
  (fun f fn hf hfn=>by
   obtain rfl:f=3:=Option.some.inj (Ks.symm.trans hf)|>.symm;obtain rfl:fn=f3:=(Option.some.inj (func3.symm.trans hfn)).symm;exact⟨PH,fun j t ht=>by
    rw [params3]at ht;have hm:t∈[28,29]:=by simpa using Array.mem_of_getElem? ht
    simpa using List.all_eq_true.1 PK t hm⟩)
  Py
end Go.Proofs.YthgbaecihlidaaaGreatDoor
