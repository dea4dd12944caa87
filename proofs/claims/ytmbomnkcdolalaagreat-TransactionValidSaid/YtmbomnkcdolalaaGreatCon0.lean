/- Contracts of the functions. -/
import Derived.Test.YtmbomnkcdolalaaGreatShort
import Derived.Test.YtmbomnkcdolalaaGreatTw
import Derived.Test.YtmbomnkcdolalaaGreatTryzShelf
set_option linter.all false
set_option maxRecDepth 100000
set_option maxHeartbeats 4000000
namespace Go.Sf.Sc
open Go Go.Sf Go.Proofs.Tryz
instance xZ(a:List ByteArray)(b:ByteArray):Ct prog (slices_Index_string a b) 326 [lB a,eS b] (fun r=>.sh (eI r)):=Fj f326 0x9274d9cd01865e7181626174d98ddc [] [.tmp 4] (h:=fun r h d e=>by
  unfold slices_Index_string at h;have:HA 0 8 7 0 fun(c:Int)(_:Unit)=>[(8,.tv (eI c))]:=⟨⟩;exact nz)
instance wj(b:List ByteArray)(a:ByteArray):Ct prog (slices_Contains_string b a) 274 [lB b,eS a] (fun r=>.sh (eB r)):=Fj f274 0xb30e30ed [] [.tmp 4] (h:=fun r h c d=>by
  unfold slices_Contains_string at h;exact nz)
theorem sX(s:ByteArray)(c:Int)(r:Int)(h:strings_IndexByte s c=some r):AQ prog 325 [eS s,Tx c] (.sh (eI r)):=by
  unfold strings_IndexByte at h;cases h;exact lw (by rfl) ⟨Go.Lib.indexByte_ge _ _,lv _ _⟩ (fun w=>Go.Proofs.Tryz.strings_IndexByte s c w)
instance yw(s:ByteArray)(c:Int):Ct Go.Proofs.Tryz.prog (strings_IndexByte s c) 325 [eS s,Tx c] (fun r=>.sh (eI r)):=⟨sX s c⟩
instance vR(a:List B0)(f:B0->K1)(b:FuncId)(c:Fq)[g:∀(d:B0),Ct prog (f d) b (EZ d::c) (fun r=>.sh (eB r))]:Ct prog (Cm a f) 206 [lN a,.clo b c] (fun r=>.sh (eI r)):=Fj f206 0x9274d9cd018fb1b87181626174d98ddc [] [.tmp 4] (h:=fun r h i j=>by
  unfold Cm at h;have:HA 0 8 7 0 fun(e:Int)(_:Unit)=>[(8,.tv (eI e))]:=⟨⟩;exact nz)
instance uX(a:List B0)(f:B0->K1)(b:FuncId)(c:Fq)[e:∀(d:B0),Ct prog (f d) b (EZ d::c) (fun r=>.sh (eB r))]:Ct prog (B5 a f) 153 [lN a,.clo b c] (fun r=>.sh (eB r)):=Fj f153 0xb30e30ed [] [.tmp 4] (h:=fun r h g i=>by
  unfold B5 at h;exact nz)
instance wg(a:List kp)(f:kp->K1)(b:FuncId)(c:Fq)[g:∀(d:kp),Ct prog (f d) b (GD d::c) (fun r=>.sh (eB r))]:Ct prog (DQ a f) 273 [lA a,.clo b c] (fun r=>.sh (eI r)):=Fj f273 0x9274d9cd018fb1b87181626174d98ddc [] [.tmp 4] (h:=fun r h i j=>by
  unfold DQ at h;have:HA 0 8 7 0 fun(e:Int)(_:Unit)=>[(8,.tv (eI e))]:=⟨⟩;exact nz)
instance vS(a:List kp)(f:kp->K1)(b:FuncId)(c:Fq)[e:∀(d:kp),Ct prog (f d) b (GD d::c) (fun r=>.sh (eB r))]:Ct prog (CR a f) 207 [lA a,.clo b c] (fun r=>.sh (eB r)):=Fj f207 0xb30e30ed [] [.tmp 4] (h:=fun r h g i=>by
  unfold CR at h;exact nz)
instance vV(a:List B9)(f:B9->K1)(b:FuncId)(c:Fq)[g:∀(d:B9),Ct prog (f d) b (E3 d::c) (fun r=>.sh (eB r))]:Ct prog (Cl a f) 210 [lX a,.clo b c] (fun r=>.sh (eI r)):=Fj f210 0x9274d9cd018f074407437181626174d98ddc [] [.tmp 4] (h:=fun r h i j=>by
  unfold Cl at h;have:HA 0 8 7 0 fun(e:Int)(_:Unit)=>[(8,.tv (eI e))]:=⟨⟩;exact nz)
instance uc(a:List B9)(f:B9->K1)(b:FuncId)(c:Fq)[e:∀(d:B9),Ct prog (f d) b (E3 d::c) (fun r=>.sh (eB r))]:Ct prog (B4 a f) 158 [lX a,.clo b c] (fun r=>.sh (eB r)):=Fj f158 0xb30e30ed [] [.tmp 4] (h:=fun r h g i=>by
  unfold B4 at h;exact nz)
instance uf(a:Fp)(f:Int->K1)(b:FuncId)(c:Fq)[g:∀(d:Int),Ct prog (f d) b (eI d::c) (fun r=>.sh (eB r))]:Ct prog (Dn a f) 161 [lI a,.clo b c] (fun r=>.sh (eI r)):=Fj f161 0x9274d9cd018f5e7181626174d98ddc [] [.tmp 4] (h:=fun r h i j=>by
  unfold Dn at h;have:HA 0 8 7 0 fun(e:Int)(_:Unit)=>[(8,.tv (eI e))]:=⟨⟩;exact nz)
instance te(a:Fp)(f:Int->K1)(b:FuncId)(c:Fq)[e:∀(d:Int),Ct prog (f d) b (eI d::c) (fun r=>.sh (eB r))]:Ct prog (Az a f) 105 [lI a,.clo b c] (fun r=>.sh (eB r)):=Fj f105 0xb30e30ed [] [.tmp 4] (h:=fun r h g i=>by
  unfold Az at h;exact nz)
instance ug(a:List Bf)(f:Bf->K1)(b:FuncId)(c:Fq)[g:∀(d:Bf),Ct prog (f d) b (Bq d::c) (fun r=>.sh (eB r))]:Ct prog (DR a f) 162 [lE a,.clo b c] (fun r=>.sh (eI r)):=Fj f162 0x9274d9cd018fd3437181626174d98ddc [] [.tmp 4] (h:=fun r h i j=>by
  unfold DR at h;have:HA 0 8 7 0 fun(e:Int)(_:Unit)=>[(8,.tv (eI e))]:=⟨⟩;exact nz)
instance ti(a:List Bf)(f:Bf->K1)(b:FuncId)(c:Fq)[e:∀(d:Bf),Ct prog (f d) b (Bq d::c) (fun r=>.sh (eB r))]:Ct prog (BN a f) 108 [lE a,.clo b c] (fun r=>.sh (eB r)):=Fj f108 0xb30e30ed [] [.tmp 4] (h:=fun r h g i=>by
  unfold BN at h;exact nz)
instance uh(a:List ByteArray):Ct prog (slices_Clone_string a) 163 [lB a] (fun r=>.own (lB r)):=Fj f163 0x8201483047ff01c09c3040da [] [.tmp 2] (h:=fun r h b c=>by
  unfold slices_Clone_string at h;exact nz)
instance vW(a:Fp)(b:Int):Ct prog (slices_Index_int a b) 211 [lI a,eI b] (fun r=>.sh (eI r)):=Fj f211 0x9274d9cd01855e7181626174d98ddc [] [.tmp 4] (h:=fun r h d e=>by
  unfold slices_Index_int at h;have:HA 0 8 7 0 fun(c:Int)(_:Unit)=>[(8,.tv (eI c))]:=⟨⟩;exact nz)
instance uj(b:Fp)(a:Int):Ct prog (slices_Contains_int b a) 165 [lI b,eI a] (fun r=>.sh (eB r)):=Fj f165 0xb30e30ed [] [.tmp 4] (h:=fun r h c d=>by
  unfold slices_Contains_int at h;exact nz)
theorem sU(l r:Fp)(h:slices_Reverse_int l=some r):AQ prog 212 [.list 1 (l.map (TV.int .i64))] (.turn r):=by
  unfold slices_Reverse_int at h;split at h
  · rename_i d
    unfold Ad at d;cases h;refine bl (by rfl) List.length_reverse (fun x a=>List.mem_reverse.1 a) (fun w b=>?_) (fun g cap w _ _ j c=>(Go.Proofs.Tryz.slices_Reverse_int g 0 cap l w c (by omega)).mono ?_)
    · subst b
      exact Go.Proofs.Tryz.slices_Reverse_int_empty none 0 w
    · rintro e w' ⟨f,q,i⟩
      exact ⟨f,q,#[],by rw[Go.Sort.grow_empty];exact i⟩
  .cases h
instance yq(l:Fp):Ct Go.Proofs.Tryz.prog (slices_Reverse_int l) 212 [.list 1 (l.map (TV.int .i64))] Am.turn:=⟨sU l⟩
instance c76(a:Fp):Ct prog (slices_Clone_int a) 76 [lI a] (fun r=>.own (lI r)):=Fj f76 0x8201483047ff01c09c3040da [] [.tmp 2] (h:=fun r h b c=>by
  unfold slices_Clone_int at h;exact nz)
instance c77(a:List Bf):Ct prog (Cr a) 77 [lE a] (fun r=>.own (lE r)):=Fj f77 0x820348010347ff03c09c010340da [] [.tmp 2] (h:=fun r h b c=>by
  unfold Cr at h;exact nz)
instance ws(a:a5)(b:Bool):Ct prog (H6 a b) 281 [(eL 1 eB) a,eB b] (fun r=>.sh (eI r)):=Fj f281 0x9274d9cd01875e7181626174d98ddc [] [.tmp 4] (h:=fun r h d e=>by
  unfold H6 at h;have:HA 0 8 7 0 fun(c:Int)(_:Unit)=>[(8,.tv (eI c))]:=⟨⟩;exact nz)
instance ve(b:a5)(a:Bool):Ct prog (Ez b a) 220 [(eL 1 eB) b,eB a] (fun r=>.sh (eB r)):=Fj f220 0xb30e30ed [] [.tmp 4] (h:=fun r h c d=>by
  unfold Ez at h;exact nz)
instance xb(a:List CT)(f:CT->K1)(b:FuncId)(c:Fq)[g:∀(d:CT),Ct prog (f d) b (FM d::c) (fun r=>.sh (eB r))]:Ct prog (DT a f) 328 [lS a,.clo b c] (fun r=>.sh (eI r)):=Fj f328 0x9274d9cd018fb1b87181626174d98ddc [] [.tmp 4] (h:=fun r h i j=>by
  unfold DT at h;have:HA 0 8 7 0 fun(e:Int)(_:Unit)=>[(8,.tv (eI e))]:=⟨⟩;exact nz)
instance wv(a:List CT)(f:CT->K1)(b:FuncId)(c:Fq)[e:∀(d:CT),Ct prog (f d) b (FM d::c) (fun r=>.sh (eB r))]:Ct prog (CC a f) 284 [lS a,.clo b c] (fun r=>.sh (eB r)):=Fj f284 0xb30e30ed [] [.tmp 4] (h:=fun r h g i=>by
  unfold CC at h;exact nz)
theorem sV(l:Fp)(x:Int)(r:Int×Bool)(h:slices_BinarySearch_int l x=some r):AQ prog 287 [lI l,eI x] (.tp [eI (r.1),eB (r.2)]):=by
  unfold slices_BinarySearch_int at h;split at h
  · rename_i d
    cases h;have g:=d.1;unfold Ad at g;refine cz (by rfl) d.1 d.2 (fun a c w i=>?_) (fun b e c w f=>Go.Proofs.Tryz.slices_BinarySearch_int b e l.length c l x w (az _) (by omega) f (by rw[List.take_length];exact d.2));exact Go.Proofs.Tryz.slices_BinarySearch_int_empty a c x w
  .cases h
instance yt(l:Fp)(x:Int):Ct Go.Proofs.Tryz.prog (slices_BinarySearch_int l x) 287 [lI l,eI x] (fun r=>.tp [eI (r.1),eB (r.2)]):=⟨sV l x⟩
theorem sY(l r:Fp)(h:slices_Sort_int l=some r):AQ prog 332 [.list 1 (l.map (TV.int .i64))] (.turn r):=by
  unfold slices_Sort_int at h;rw[<-eU]at h;split at h
  · rename_i e
    unfold Ad at e;cases h;refine bl (by rfl) (List.length_mergeSort _) (fun x a=>List.mem_mergeSort.1 a) (fun w b=>?_) (fun g cap w _ _ c d=>Go.Proofs.Tryz.slices_Sort_int g 0 cap l w d c (by omega));subst b;exact Go.Proofs.Tryz.slices_Sort_int_none none 0 w
  .cases h
instance yx(l:Fp):Ct Go.Proofs.Tryz.prog (slices_Sort_int l) 332 [.list 1 (l.map (TV.int .i64))] Am.turn:=⟨sY l⟩
theorem sZ(l r:Fp)(h:slices_Compact_int l=some r):AQ prog 333 [.list 1 (l.map (TV.int .i64))] (.cut r):=by
  unfold slices_Compact_int at h;split at h
  · rename_i e
    unfold Ad at e;cases h;have f:=Go.Lib.compact_length_le l;refine lj (rest:=List.replicate (l.length-(Go.Lib.compact l).length) 0) (by rfl) (by rw[List.length_replicate];omega) (fun x a=>YL a) (fun w b=>?_) (fun g cap w c _ i d=>Go.Proofs.Tryz.slices_Compact_int g 0 cap l w d (by omega) c);subst b;exact Go.Proofs.Tryz.slices_Compact_int_empty none 0 w
  .cases h
instance yy(l:Fp):Ct Go.Proofs.Tryz.prog (slices_Compact_int l) 333 [.list 1 (l.map (TV.int .i64))] Am.cut:=⟨sZ l⟩
instance yJ(a:List d6)(f:d6->K1)(b:FuncId)(c:Fq)[g:∀(d:d6),Ct prog (f d) b (AJ d::c) (fun r=>.sh (eB r))]:Ct prog (Ca a f) 364 [D7 a,.clo b c] (fun r=>.sh (eI r)):=Fj f364 0x9274d9cd018fa509437181626174d98ddc [] [.tmp 4] (h:=fun r h i j=>by
  unfold Ca at h;have:HA 0 8 7 0 fun(e:Int)(_:Unit)=>[(8,.tv (eI e))]:=⟨⟩;exact nz)
instance xe(a:List d6)(f:d6->K1)(b:FuncId)(c:Fq)[e:∀(d:d6),Ct prog (f d) b (AJ d::c) (fun r=>.sh (eB r))]:Ct prog (Bh a f) 335 [D7 a,.clo b c] (fun r=>.sh (eB r)):=Fj f335 0xb30e30ed [] [.tmp 4] (h:=fun r h g i=>by
  unfold Bh at h;exact nz)
instance zR(b:Fp)(a:Fp):Ct prog (slices_Equal_int b a) 36 [lI b,lI a] (fun r=>.sh (eB r)):=Fj f36 0x92ccd9cd85b9b9816261ccd98dd6c3f8dc [] [.tmp 4] (h:=fun r h d e=>by
  unfold slices_Equal_int at h;have:HA 0 13 12 0 fun(c:Int)(_:Unit)=>[(13,.tv (eI c))]:=⟨⟩;exact nz)
theorem sb(a b c:Int)(r:Int×Int)(h:HV a b c=some r):AQ prog 404 [JV a,JV b,JV c] (.ext [JV (r.1),JV (r.2)]):=by
  unfold HV at h;split at h
  · rename_i d
    cases h;obtain⟨⟨a0,a1⟩,⟨e,g⟩,f,i⟩:=d;intro _;refine⟨⟨rfl,?_⟩,fun w vs hv=>?_⟩
    · simp only[JV,TV.x9,TV.WF,IntKind.min,IntKind.max,IntKind.signed,IntKind.bits,and_true]
      simp only[Bool.false_eq_true,if_false];refine⟨⟨by omega,?_⟩,by omega,?_⟩
      · have:(2:Int)^ 64=18446744073709551616:=by decide
        omega
      · have:(2:Int)^ 64=18446744073709551616:=by decide
        omega
    · obtain⟨x,rfl⟩:=Int.eq_ofNat_of_zero_le a0
      obtain ⟨y,rfl⟩:=Int.eq_ofNat_of_zero_le e;obtain⟨z,rfl⟩:=Int.eq_ofNat_of_zero_le f;have:=Go.Proofs.Any7.bits_Add64 Go.Proofs.Tryz.lays7n25 x y z (by omega) w;obtain⟨l⟩:=vs;simp only[JV,AR,Ae]at hv;obtain⟨j,k,rfl,rfl,m,n,rfl,rfl,o,p,rfl,rfl,rfl⟩:=hv;refine⟨_,this,?_⟩;simp only[JV,AR,Ae];exact⟨_,_,rfl,by simp,_,_,rfl,by simp,rfl⟩
  .cases h
instance y4(a b c:Int):Ct Go.Proofs.Tryz.prog (HV a b c) 404 [JV a,JV b,JV c] (fun r=>.ext [JV (r.1),JV (r.2)]):=⟨sb a b c⟩
instance yV(a:Fp):Ct prog (Lo a) 393 [lI a] (fun r=>.sh (eI r)):=Fj f393 0xd036bda8cd018530815e3661bda88d7f6201 [] [.tmp 2] (h:=fun r h c d=>by
  unfold Lo at h;have:HA 0 8 7 0 fun(b:Int)(_:Unit)=>[(8,.tv (eI b))]:=⟨⟩;exact nz)
instance yI(a:Int):Ct prog (I6 a) 361 [eI a] (fun r=>.sh (eB r)):=Fj f361 0xb371da [] [.tmp 2] (h:=fun r h b c=>by
  unfold I6 at h;exact nz)
instance yW(a:Int)(y:Int):Ct prog (HM a y) 394 [eI a,eI y] (fun r=>.sh (eI r)):=Fj f394 0xa1853038853038a138817f0e5c0edc [] [.tmp 4] (h:=fun r h b c=>by
  unfold HM at h;exact nz)
instance ya(a:Int):Ct prog (Im a) 405 [JV a] (fun r=>.sh (eB r)):=Fj f405 0xb371da [] [.tmp 2] (h:=fun r h b c=>by
  unfold Im at h;exact nz)
instance yX(a:Int)(y:Int):Ct prog (HN a y) 395 [JV a,JV y] (fun r=>.sh (eI r)):=Fj f395 0xa1853038853038a138817f0e5c0edc [] [.tmp 4] (h:=fun r h b c=>by
  unfold HN at h;exact nz)
theorem sW(l:Fp)(m:Int)(r:Fp)(h:Du l m=some r):AQ prog 301 [lI l,eI m] (.own (lI r)):=by
  unfold Du at h;split at h
  · rename_i a
    cases h;obtain⟨x,rfl⟩:=List.length_eq_one_iff.1 a.1;obtain⟨k,rfl⟩:=Int.eq_ofNat_of_zero_le a.2.1;exact Xt x k (by have:=a.2.2;omega)
  .cases h
instance yu(l:Fp)(m:Int):Ct Go.Proofs.Tryz.prog (Du l m) 301 [lI l,eI m] (fun r=>.own (lI r)):=⟨sW l m⟩
instance zC(a:List gp):Ct prog (GB a) 16 [(eL 25 Bs) a] (fun r=>.own ((eL 25 Bs) r)):=Fj f16 0x821948011947ff19c09c011940da [] [.tmp 2] (h:=fun r h b c=>by
  unfold GB at h;exact nz)
end Go.Sf.Sc
