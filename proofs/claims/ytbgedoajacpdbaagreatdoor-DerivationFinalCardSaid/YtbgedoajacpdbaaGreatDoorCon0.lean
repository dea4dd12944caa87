/- Contracts of the functions. -/
import Derived.Test.YtbgedoajacpdbaaGreatDoorShort
import Derived.Test.YtbgedoajacpdbaaGreatDoorFo
import Derived.Test.YtbgedoajacpdbaaGreatDoorTryzShelf
set_option linter.all false
set_option maxRecDepth 100000
set_option maxHeartbeats 4000000
namespace Go.Sf.Sc
open Go Go.Sf Go.Proofs.Tryz
instance zB(a:List ByteArray)(b:ByteArray):Ct prog (slices_Index_string a b) 385 [lB a,eS b] (fun r=>.sh (eI r)):=Fj f385 0x9b73d6843701865f7281636273d690df [] [.tmp 4] (h:=fun r h d e=>by
  unfold slices_Index_string at h;have:HA 0 8 7 0 fun(c:Int)(_:Unit)=>[(8,.tv (eI c))]:=⟨⟩;exact nz)
instance yU(a:List ByteArray)(b:ByteArray):Ct prog (slices_Contains_string a b) 331 [lB a,eS b] (fun r=>.sh (eB r)):=Fj f331 0xaa0e30e7 [] [.tmp 4] (h:=fun r h c d=>by
  unfold slices_Contains_string at h;exact nz)
theorem tj(s:ByteArray)(c:Int)(r:Int)(h:strings_IndexByte s c=some r):AN prog 338 [eS s,T3 c] (.sh (eI r)):=by
  unfold strings_IndexByte at h;cases h;exact mn (by rfl) ⟨Go.Lib.indexByte_ge _ _,ml _ _⟩ (fun w=>Go.Proofs.Tryz.strings_IndexByte s c w)
instance z6(s:ByteArray)(c:Int):Ct Go.Proofs.Tryz.prog (strings_IndexByte s c) 338 [eS s,T3 c] (fun r=>.sh (eI r)):=⟨tj s c⟩
instance xQ(c:List Bz)(f:Bz->K1)(b:FuncId)(a:Fq)[g:∀(d:Bz),Ct prog (f d) b (EX d::a) (fun r=>.sh (eB r))]:Ct prog (Co c f) 270 [lN c,.clo b a] (fun r=>.sh (eI r)):=Fj f270 0x9b73d68437018fc1c67281636273d690df [] [.tmp 4] (h:=fun r h i j=>by
  unfold Co at h;have:HA 0 8 7 0 fun(e:Int)(_:Unit)=>[(8,.tv (eI e))]:=⟨⟩;exact nz)
instance wG(c:List Bz)(f:Bz->K1)(b:FuncId)(a:Fq)[e:∀(d:Bz),Ct prog (f d) b (EX d::a) (fun r=>.sh (eB r))]:Ct prog (B5 c f) 196 [lN c,.clo b a] (fun r=>.sh (eB r)):=Fj f196 0xaa0e30e7 [] [.tmp 4] (h:=fun r h g i=>by
  unfold B5 at h;exact nz)
instance yT(c:List kq)(f:kq->K1)(b:FuncId)(a:Fq)[g:∀(d:kq),Ct prog (f d) b (GI d::a) (fun r=>.sh (eB r))]:Ct prog (DX c f) 330 [lA c,.clo b a] (fun r=>.sh (eI r)):=Fj f330 0x9b73d68437018fc1c67281636273d690df [] [.tmp 4] (h:=fun r h i j=>by
  unfold DX at h;have:HA 0 8 7 0 fun(e:Int)(_:Unit)=>[(8,.tv (eI e))]:=⟨⟩;exact nz)
instance xR(c:List kq)(f:kq->K1)(b:FuncId)(a:Fq)[e:∀(d:kq),Ct prog (f d) b (GI d::a) (fun r=>.sh (eB r))]:Ct prog (CQ c f) 271 [lA c,.clo b a] (fun r=>.sh (eB r)):=Fj f271 0xaa0e30e7 [] [.tmp 4] (h:=fun r h g i=>by
  unfold CQ at h;exact nz)
instance xU(c:List B9)(f:B9->K1)(b:FuncId)(a:Fq)[g:∀(d:B9),Ct prog (f d) b (E4 d::a) (fun r=>.sh (eB r))]:Ct prog (Cn c f) 274 [lX c,.clo b a] (fun r=>.sh (eI r)):=Fj f274 0x9b73d68437018f074407437281636273d690df [] [.tmp 4] (h:=fun r h i j=>by
  unfold Cn at h;have:HA 0 8 7 0 fun(e:Int)(_:Unit)=>[(8,.tv (eI e))]:=⟨⟩;exact nz)
instance wL(c:List B9)(f:B9->K1)(b:FuncId)(a:Fq)[e:∀(d:B9),Ct prog (f d) b (E4 d::a) (fun r=>.sh (eB r))]:Ct prog (B4 c f) 201 [lX c,.clo b a] (fun r=>.sh (eB r)):=Fj f201 0xaa0e30e7 [] [.tmp 4] (h:=fun r h g i=>by
  unfold B4 at h;exact nz)
instance wF(c:Fp)(f:Int->K1)(b:FuncId)(a:Fq)[g:∀(d:Int),Ct prog (f d) b (eI d::a) (fun r=>.sh (eB r))]:Ct prog (Ci c f) 193 [lI c,.clo b a] (fun r=>.sh (eI r)):=Fj f193 0x9b73d68437018f5f7281636273d690df [] [.tmp 4] (h:=fun r h i j=>by
  unfold Ci at h;have:HA 0 8 7 0 fun(e:Int)(_:Unit)=>[(8,.tv (eI e))]:=⟨⟩;exact nz)
instance u0(c:Fp)(f:Int->K1)(b:FuncId)(a:Fq)[e:∀(d:Int),Ct prog (f d) b (eI d::a) (fun r=>.sh (eB r))]:Ct prog (Ak c f) 129 [lI c,.clo b a] (fun r=>.sh (eB r)):=Fj f129 0xaa0e30e7 [] [.tmp 4] (h:=fun r h g i=>by
  unfold Ak at h;exact nz)
instance xB(c:List Bf)(f:Bf->K1)(b:FuncId)(a:Fq)[g:∀(d:Bf),Ct prog (f d) b (Br d::a) (fun r=>.sh (eB r))]:Ct prog (DY c f) 249 [lE c,.clo b a] (fun r=>.sh (eI r)):=Fj f249 0x9b73d68437018fcf437281636273d690df [] [.tmp 4] (h:=fun r h i j=>by
  unfold DY at h;have:HA 0 8 7 0 fun(e:Int)(_:Unit)=>[(8,.tv (eI e))]:=⟨⟩;exact nz)
instance vc(c:List Bf)(f:Bf->K1)(b:FuncId)(a:Fq)[e:∀(d:Bf),Ct prog (f d) b (Br d::a) (fun r=>.sh (eB r))]:Ct prog (BJ c f) 167 [lE c,.clo b a] (fun r=>.sh (eB r)):=Fj f167 0xaa0e30e7 [] [.tmp 4] (h:=fun r h g i=>by
  unfold BJ at h;exact nz)
instance xC(a:List ByteArray):Ct prog (slices_Clone_string a) 250 [lB a] (fun r=>.own (lB r)):=Fj f250 0x8201483047ffd89c3040bd [] [.tmp 2] (h:=fun r h b c=>by
  unfold slices_Clone_string at h;exact nz)
instance uz(a:Fp)(b:Int):Ct prog (slices_Index_int a b) 128 [lI a,eI b] (fun r=>.sh (eI r)):=Fj f128 0x9b73d6843701855f7281636273d690df [] [.tmp 4] (h:=fun r h d e=>by
  unfold slices_Index_int at h;have:HA 0 8 7 0 fun(c:Int)(_:Unit)=>[(8,.tv (eI c))]:=⟨⟩;exact nz)
instance c80(a:Fp)(b:Int):Ct prog (slices_Contains_int a b) 80 [lI a,eI b] (fun r=>.sh (eB r)):=Fj f80 0xaa0e30e7 [] [.tmp 4] (h:=fun r h c d=>by
  unfold slices_Contains_int at h;exact nz)
theorem ti(l r:Fp)(h:slices_Reverse_int l=some r):AN prog 318 [.list 1 (l.map (TV.int .i64))] (.turn r):=by
  unfold slices_Reverse_int at h;split at h
  · rename_i d
    unfold Ad at d;cases h;refine cW (by rfl) List.length_reverse (fun x a=>List.mem_reverse.1 a) (fun w b=>?_) (fun g cap w _ _ j c=>(Go.Proofs.Tryz.slices_Reverse_int g 0 cap l w c (by omega)).mono ?_)
    · subst b
      exact Go.Proofs.Tryz.slices_Reverse_int_empty none 0 w
    · rintro e w' ⟨f,q,i⟩
      exact ⟨f,q,#[],by rw[Go.Sort.grow_empty];exact i⟩
  .cases h
instance z1(l:Fp):Ct Go.Proofs.Tryz.prog (slices_Reverse_int l) 318 [.list 1 (l.map (TV.int .i64))] An.turn:=⟨ti l⟩
instance xX(a:a6)(b:Bool):Ct prog (H9 a b) 277 [(eL 1 eB) a,eB b] (fun r=>.sh (eI r)):=Fj f277 0x9b73d6843701875f7281636273d690df [] [.tmp 4] (h:=fun r h d e=>by
  unfold H9 at h;have:HA 0 8 7 0 fun(c:Int)(_:Unit)=>[(8,.tv (eI c))]:=⟨⟩;exact nz)
instance wV(a:a6)(b:Bool):Ct prog (Ez a b) 210 [(eL 1 eB) a,eB b] (fun r=>.sh (eB r)):=Fj f210 0xaa0e30e7 [] [.tmp 4] (h:=fun r h c d=>by
  unfold Ez at h;exact nz)
instance yc(c:List CU)(f:CU->K1)(b:FuncId)(a:Fq)[g:∀(d:CU),Ct prog (f d) b (FO d::a) (fun r=>.sh (eB r))]:Ct prog (DZ c f) 340 [lS c,.clo b a] (fun r=>.sh (eI r)):=Fj f340 0x9b73d68437018fc1c67281636273d690df [] [.tmp 4] (h:=fun r h i j=>by
  unfold DZ at h;have:HA 0 8 7 0 fun(e:Int)(_:Unit)=>[(8,.tv (eI e))]:=⟨⟩;exact nz)
instance xa(c:List CU)(f:CU->K1)(b:FuncId)(a:Fq)[e:∀(d:CU),Ct prog (f d) b (FO d::a) (fun r=>.sh (eB r))]:Ct prog (CC c f) 280 [lS c,.clo b a] (fun r=>.sh (eB r)):=Fj f280 0xaa0e30e7 [] [.tmp 4] (h:=fun r h g i=>by
  unfold CC at h;exact nz)
instance c19(a:Fp):Ct prog (slices_Clone_int a) 19 [lI a] (fun r=>.own (lI r)):=Fj f19 0x8201483047ffd89c3040bd [] [.tmp 2] (h:=fun r h b c=>by
  unfold slices_Clone_int at h;exact nz)
theorem ta(l r:Fp)(h:slices_Sort_int l=some r):AN prog 253 [.list 1 (l.map (TV.int .i64))] (.turn r):=by
  unfold slices_Sort_int at h;rw[<-fP]at h;split at h
  · rename_i e
    unfold Ad at e;cases h;refine cW (by rfl) (List.length_mergeSort _) (fun x a=>List.mem_mergeSort.1 a) (fun w b=>?_) (fun g cap w _ _ c d=>Go.Proofs.Tryz.slices_Sort_int g 0 cap l w d c (by omega));subst b;exact Go.Proofs.Tryz.slices_Sort_int_none none 0 w
  .cases h
instance zu(l:Fp):Ct Go.Proofs.Tryz.prog (slices_Sort_int l) 253 [.list 1 (l.map (TV.int .i64))] An.turn:=⟨ta l⟩
theorem td(l r:Fp)(h:slices_Compact_int l=some r):AN prog 254 [.list 1 (l.map (TV.int .i64))] (.cut r):=by
  unfold slices_Compact_int at h;split at h
  · rename_i e
    unfold Ad at e;cases h;have f:=Go.Lib.compact_length_le l;refine ma (rest:=List.replicate (l.length-(Go.Lib.compact l).length) 0) (by rfl) (by rw[List.length_replicate];omega) (fun x a=>Ye a) (fun w b=>?_) (fun g cap w c _ i d=>Go.Proofs.Tryz.slices_Compact_int g 0 cap l w d (by omega) c);subst b;exact Go.Proofs.Tryz.slices_Compact_int_empty none 0 w
  .cases h
instance zv(l:Fp):Ct Go.Proofs.Tryz.prog (slices_Compact_int l) 254 [.list 1 (l.map (TV.int .i64))] An.cut:=⟨td l⟩
theorem tf(l:Fp)(x:Int)(r:Int×Bool)(h:slices_BinarySearch_int l x=some r):AN prog 283 [lI l,eI x] (.tp [eI (r.1),eB (r.2)]):=by
  unfold slices_BinarySearch_int at h;split at h
  · rename_i d
    cases h;have g:=d.1;unfold Ad at g;refine dj (by rfl) d.1 d.2 (fun a c w i=>?_) (fun b e c w f=>Go.Proofs.Tryz.slices_BinarySearch_int b e l.length c l x w (bk _) (by omega) f (by rw[List.take_length];exact d.2));exact Go.Proofs.Tryz.slices_BinarySearch_int_empty a c x w
  .cases h
instance zw(l:Fp)(x:Int):Ct Go.Proofs.Tryz.prog (slices_BinarySearch_int l x) 283 [lI l,eI x] (fun r=>.tp [eI (r.1),eB (r.2)]):=⟨tf l x⟩
instance zH(c:List d7)(f:d7->K1)(b:FuncId)(a:Fq)[g:∀(d:d7),Ct prog (f d) b (AJ d::a) (fun r=>.sh (eB r))]:Ct prog (Cb c f) 391 [D8 c,.clo b a] (fun r=>.sh (eI r)):=Fj f391 0x9b73d68437018fa509437281636273d690df [] [.tmp 4] (h:=fun r h i j=>by
  unfold Cb at h;have:HA 0 8 7 0 fun(e:Int)(_:Unit)=>[(8,.tv (eI e))]:=⟨⟩;exact nz)
instance yf(c:List d7)(f:d7->K1)(b:FuncId)(a:Fq)[e:∀(d:d7),Ct prog (f d) b (AJ d::a) (fun r=>.sh (eB r))]:Ct prog (Bg c f) 345 [D8 c,.clo b a] (fun r=>.sh (eB r)):=Fj f345 0xaa0e30e7 [] [.tmp 4] (h:=fun r h g i=>by
  unfold Bg at h;exact nz)
instance c38(b:Fp)(a:Fp):Ct prog (slices_Equal_int b a) 38 [lI b,lI a] (fun r=>.sh (eB r)):=Fj f38 0x9bc3d6843785b5b5816362c3d690eed5010bdf [] [.tmp 4] (h:=fun r h d e=>by
  unfold slices_Equal_int at h;have:HA 0 13 12 0 fun(c:Int)(_:Unit)=>[(13,.tv (eI c))]:=⟨⟩;exact nz)
theorem tu(a b c:Int)(r:Int×Int)(h:HU a b c=some r):AN prog 395 [JS a,JS b,JS c] (.ext [JS (r.1),JS (r.2)]):=by
  unfold HU at h;split at h
  · rename_i d
    cases h;obtain⟨⟨a0,a1⟩,⟨e,g⟩,f,i⟩:=d;intro _;refine⟨⟨rfl,?_⟩,fun w vs hv=>?_⟩
    · simp only[JS,TV.x7,TV.WF,IntKind.min,IntKind.max,IntKind.signed,IntKind.bits,and_true]
      simp only[Bool.false_eq_true,if_false];refine⟨⟨by omega,?_⟩,by omega,?_⟩
      · have:(2:Int)^ 64=18446744073709551616:=by decide
        omega
      · have:(2:Int)^ 64=18446744073709551616:=by decide
        omega
    · obtain⟨x,rfl⟩:=Int.eq_ofNat_of_zero_le a0
      obtain ⟨y,rfl⟩:=Int.eq_ofNat_of_zero_le e;obtain⟨z,rfl⟩:=Int.eq_ofNat_of_zero_le f;have:=Go.Proofs.Any7.bits_Add64 Go.Proofs.Tryz.lays7n25 x y z (by omega) w;obtain⟨l⟩:=vs;simp only[JS,AO,AZ]at hv;obtain⟨j,k,rfl,rfl,m,n,rfl,rfl,o,p,rfl,rfl,rfl⟩:=hv;refine⟨_,this,?_⟩;simp only[JS,AO,AZ];exact⟨_,_,rfl,by simp,_,_,rfl,by simp,rfl⟩
  .cases h
instance z8(a b c:Int):Ct Go.Proofs.Tryz.prog (HU a b c) 395 [JS a,JS b,JS c] (fun r=>.ext [JS (r.1),JS (r.2)]):=⟨tu a b c⟩
instance ym(a:Fp):Ct prog (Li a) 352 [lI a] (fun r=>.sh (eI r)):=Fj f352 0x810131b403048437018530815f3162b4030490896301 [] [.tmp 2] (h:=fun r h c d=>by
  unfold Li at h;have:HA 0 8 7 0 fun(b:Int)(_:Unit)=>[(8,.tv (eI b))]:=⟨⟩;exact nz)
instance zF(a:Int):Ct prog (cmp_isNaN_int a) 390 [eI a] (fun r=>.sh (eB r)):=Fj f390 0xaa72bd [] [.tmp 2] (h:=fun r h b c=>by
  unfold cmp_isNaN_int at h;exact nz)
instance yn(a:Int)(y:Int):Ct prog (cmp_Compare_int a y) 353 [eI a,eI y] (fun r=>.sh (eI r)):=Fj f353 0xf28530378530c537c5890e5d0edf [] [.tmp 4] (h:=fun r h b c=>by
  unfold cmp_Compare_int at h;exact nz)
instance zL(a:Int):Ct prog (Im a) 396 [JS a] (fun r=>.sh (eB r)):=Fj f396 0xaa72bd [] [.tmp 2] (h:=fun r h b c=>by
  unfold Im at h;exact nz)
instance yo(a:Int)(y:Int):Ct prog (HL a y) 354 [JS a,JS y] (fun r=>.sh (eI r)):=Fj f354 0xf28530378530c537c5890e5d0edf [] [.tmp 4] (h:=fun r h b c=>by
  unfold HL at h;exact nz)
instance c87(a:List Bf):Ct prog (DJ a) 87 [lE a] (fun r=>.own (lE r)):=Fj f87 0x820348e547ff03c09ce540bd [] [.tmp 2] (h:=fun r h b c=>by
  unfold DJ at h;exact nz)
theorem th(l:Fp)(m:Int)(r:Fp)(h:Dx l m=some r):AN prog 299 [lI l,eI m] (.own (lI r)):=by
  unfold Dx at h;split at h
  · rename_i a
    cases h;obtain⟨x,rfl⟩:=List.length_eq_one_iff.1 a.1;obtain⟨k,rfl⟩:=Int.eq_ofNat_of_zero_le a.2.1;exact YC x k (by have:=a.2.2;omega)
  .cases h
instance zx(l:Fp)(m:Int):Ct Go.Proofs.Tryz.prog (Dx l m) 299 [lI l,eI m] (fun r=>.own (lI r)):=⟨th l m⟩
theorem uY(i:Int)(r:ByteArray)(h:strconv_Itoa i=some r):AN prog 83 [eI i] (.sh (eS r)):=by
  unfold strconv_Itoa at h;split at h
  · rename_i hi
    cases h;obtain⟨k,rfl⟩:=Int.eq_ofNat_of_zero_le hi.1;have a:k<100:=by have:=hi.2;omega
    show AN prog 83 [eI (k:Int)] (.sh (eS (aR k)));refine jw (by rfl) (by have:=aS k;unfold F6;omega) fun w=>?_;have:=Go.Proofs.Tryz.strconv_Itoa_small k a w;rw[fQ k a]at this;exact this
  .cases h
instance i83(i:Int):Ct Go.Proofs.Tryz.prog (strconv_Itoa i) 83 [eI i] (fun r=>.sh (eS r)):=⟨uY i⟩
instance c12(a:List hT):Ct prog (GE a) 12 [(eL 25 B3) a] (fun r=>.own ((eL 25 B3) r)):=Fj f12 0x821948011947ff19c09c011940bd [] [.tmp 2] (h:=fun r h b c=>by
  unfold GE at h;exact nz)
end Go.Sf.Sc
