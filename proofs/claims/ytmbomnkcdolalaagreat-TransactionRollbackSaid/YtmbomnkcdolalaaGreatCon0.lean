/- Contracts of the functions. -/
import Derived.Test.YtmbomnkcdolalaaGreatShort
import Derived.Test.YtmbomnkcdolalaaGreatTw
import Derived.Test.YtmbomnkcdolalaaGreatTryzShelf
set_option linter.all false
set_option maxRecDepth 100000
set_option maxHeartbeats 4000000
namespace Go.Sf.Sc
open Go Go.Sf Go.Proofs.Tryz
instance AA3(a:List ByteArray)(b:ByteArray):Ct prog (slices_Index_string a b) 326 [lB a,eS b] (fun r=>.sh (eI r)):=Fj f326 0x96fed101865e73816261fe8dde [] [.tmp 4] (h:=fun r h d e=>by
  unfold slices_Index_string at h;have:HA 0 8 7 0 fun(c:Int)(_:Unit)=>[(8,.tv (eI c))]:=⟨⟩;exact nz)
instance AAH(a:List ByteArray)(b:ByteArray):Ct prog (slices_Contains_string a b) 274 [lB a,eS b] (fun r=>.sh (eB r)):=Fj f274 0xac0e30ed [] [.tmp 4] (h:=fun r h c d=>by
  unfold slices_Contains_string at h;exact nz)
theorem wl(s:ByteArray)(c:Int)(r:Int)(h:strings_IndexByte s c=some r):AV prog 325 [eS s,WL c] (.sh (eI r)):=by
  unfold strings_IndexByte at h;cases h;exact qT (by rfl) ⟨Go.Lib.indexByte_ge _ _,qS _ _⟩ (fun w=>Go.Proofs.Tryz.strings_IndexByte s c w)
instance AB8(s:ByteArray)(c:Int):Ct Go.Proofs.Tryz.prog (strings_IndexByte s c) 325 [eS s,WL c] (fun r=>.sh (eI r)):=⟨wl s c⟩
instance yw(c:List B8)(f:B8->K1)(b:FuncId)(a:Fq)[g:∀(d:B8),Ct prog (f d) b (DK d::a) (fun r=>.sh (eB r))]:Ct prog (C4 c f) 206 [lN c,.clo b a] (fun r=>.sh (eI r)):=Fj f206 0x96fed1018fa8ba73816261fe8dde [] [.tmp 4] (h:=fun r h i j=>by
  unfold C4 at h;have:HA 0 8 7 0 fun(e:Int)(_:Unit)=>[(8,.tv (eI e))]:=⟨⟩;exact nz)
instance yB(c:List B8)(f:B8->K1)(b:FuncId)(a:Fq)[e:∀(d:B8),Ct prog (f d) b (DK d::a) (fun r=>.sh (eB r))]:Ct prog (CB c f) 153 [lN c,.clo b a] (fun r=>.sh (eB r)):=Fj f153 0xac0e30ed [] [.tmp 4] (h:=fun r h g i=>by
  unfold CB at h;exact nz)
instance AAG(c:List ns)(f:ns->K1)(b:FuncId)(a:Fq)[g:∀(d:ns),Ct prog (f d) b (FI d::a) (fun r=>.sh (eB r))]:Ct prog (Dl c f) 273 [lA c,.clo b a] (fun r=>.sh (eI r)):=Fj f273 0x96fed1018fa8ba73816261fe8dde [] [.tmp 4] (h:=fun r h i j=>by
  unfold Dl at h;have:HA 0 8 7 0 fun(e:Int)(_:Unit)=>[(8,.tv (eI e))]:=⟨⟩;exact nz)
instance yx(c:List ns)(f:ns->K1)(b:FuncId)(a:Fq)[e:∀(d:ns),Ct prog (f d) b (FI d::a) (fun r=>.sh (eB r))]:Ct prog (Cc c f) 207 [lA c,.clo b a] (fun r=>.sh (eB r)):=Fj f207 0xac0e30ed [] [.tmp 4] (h:=fun r h g i=>by
  unfold Cc at h;exact nz)
instance y4(c:List CG)(f:CG->K1)(b:FuncId)(a:Fq)[g:∀(d:CG),Ct prog (f d) b (DZ d::a) (fun r=>.sh (eB r))]:Ct prog (C3 c f) 210 [lX c,.clo b a] (fun r=>.sh (eI r)):=Fj f210 0x96fed1018f0744074373816261fe8dde [] [.tmp 4] (h:=fun r h i j=>by
  unfold C3 at h;have:HA 0 8 7 0 fun(e:Int)(_:Unit)=>[(8,.tv (eI e))]:=⟨⟩;exact nz)
instance yG(c:List CG)(f:CG->K1)(b:FuncId)(a:Fq)[e:∀(d:CG),Ct prog (f d) b (DZ d::a) (fun r=>.sh (eB r))]:Ct prog (CA c f) 158 [lX c,.clo b a] (fun r=>.sh (eB r)):=Fj f158 0xac0e30ed [] [.tmp 4] (h:=fun r h g i=>by
  unfold CA at h;exact nz)
instance yJ(c:Fp)(f:Int->K1)(b:FuncId)(a:Fq)[g:∀(d:Int),Ct prog (f d) b (eI d::a) (fun r=>.sh (eB r))]:Ct prog (D8 c f) 161 [lI c,.clo b a] (fun r=>.sh (eI r)):=Fj f161 0x96fed1018f5e73816261fe8dde [] [.tmp 4] (h:=fun r h i j=>by
  unfold D8 at h;have:HA 0 8 7 0 fun(e:Int)(_:Unit)=>[(8,.tv (eI e))]:=⟨⟩;exact nz)
instance xI(c:Fp)(f:Int->K1)(b:FuncId)(a:Fq)[e:∀(d:Int),Ct prog (f d) b (eI d::a) (fun r=>.sh (eB r))]:Ct prog (A5 c f) 105 [lI c,.clo b a] (fun r=>.sh (eB r)):=Fj f105 0xac0e30ed [] [.tmp 4] (h:=fun r h g i=>by
  unfold A5 at h;exact nz)
instance yK(c:List Bo)(f:Bo->K1)(b:FuncId)(a:Fq)[g:∀(d:Bo),Ct prog (f d) b (Bm d::a) (fun r=>.sh (eB r))]:Ct prog (Dm c f) 162 [lE c,.clo b a] (fun r=>.sh (eI r)):=Fj f162 0x96fed1018fd64373816261fe8dde [] [.tmp 4] (h:=fun r h i j=>by
  unfold Dm at h;have:HA 0 8 7 0 fun(e:Int)(_:Unit)=>[(8,.tv (eI e))]:=⟨⟩;exact nz)
instance xL(c:List Bo)(f:Bo->K1)(b:FuncId)(a:Fq)[e:∀(d:Bo),Ct prog (f d) b (Bm d::a) (fun r=>.sh (eB r))]:Ct prog (BT c f) 108 [lE c,.clo b a] (fun r=>.sh (eB r)):=Fj f108 0xac0e30ed [] [.tmp 4] (h:=fun r h g i=>by
  unfold BT at h;exact nz)
instance yL(a:List ByteArray):Ct prog (slices_Clone_string a) 163 [lB a] (fun r=>.own (lB r)):=Fj f163 0x8201483047ff01c09c3040d8 [] [.tmp 2] (h:=fun r h b c=>by
  unfold slices_Clone_string at h;exact nz)
instance y5(a:Fp)(b:Int):Ct prog (slices_Index_int a b) 211 [lI a,eI b] (fun r=>.sh (eI r)):=Fj f211 0x96fed101855e73816261fe8dde [] [.tmp 4] (h:=fun r h d e=>by
  unfold slices_Index_int at h;have:HA 0 8 7 0 fun(c:Int)(_:Unit)=>[(8,.tv (eI c))]:=⟨⟩;exact nz)
instance yN(a:Fp)(b:Int):Ct prog (slices_Contains_int a b) 165 [lI a,eI b] (fun r=>.sh (eB r)):=Fj f165 0xac0e30ed [] [.tmp 4] (h:=fun r h c d=>by
  unfold slices_Contains_int at h;exact nz)
theorem wg(l r:Fp)(h:slices_Reverse_int l=some r):AV prog 212 [.list 1 (l.map (TV.int .i64))] (.turn r):=by
  unfold slices_Reverse_int at h;split at h
  · rename_i d
    unfold Ah at d;cases h;refine gh (by rfl) List.length_reverse (fun x a=>List.mem_reverse.1 a) (fun w b=>?_) (fun g cap w _ _ j c=>(Go.Proofs.Tryz.slices_Reverse_int g 0 cap l w c (by omega)).mono ?_)
    · subst b
      exact Go.Proofs.Tryz.slices_Reverse_int_empty none 0 w
    · rintro e w' ⟨f,q,i⟩
      exact ⟨f,q,#[],by rw[Go.Sort.grow_empty];exact i⟩
  .cases h
instance AB3(l:Fp):Ct Go.Proofs.Tryz.prog (slices_Reverse_int l) 212 [.list 1 (l.map (TV.int .i64))] Au.turn:=⟨wg l⟩
instance c76(a:Fp):Ct prog (slices_Clone_int a) 76 [lI a] (fun r=>.own (lI r)):=Fj f76 0x8201483047ff01c09c3040d8 [] [.tmp 2] (h:=fun r h b c=>by
  unfold slices_Clone_int at h;exact nz)
instance c77(a:List Bo):Ct prog (Ck a) 77 [lE a] (fun r=>.own (lE r)):=Fj f77 0x820348010347ff03c09c010340d8 [] [.tmp 2] (h:=fun r h b c=>by
  unfold Ck at h;exact nz)
instance AAO(a:a5)(b:Bool):Ct prog (Ic a b) 281 [(eL 1 eB) a,eB b] (fun r=>.sh (eI r)):=Fj f281 0x96fed101875e73816261fe8dde [] [.tmp 4] (h:=fun r h d e=>by
  unfold Ic at h;have:HA 0 8 7 0 fun(c:Int)(_:Unit)=>[(8,.tv (eI c))]:=⟨⟩;exact nz)
instance zE(a:a5)(b:Bool):Ct prog (FO a b) 220 [(eL 1 eB) a,eB b] (fun r=>.sh (eB r)):=Fj f220 0xac0e30ed [] [.tmp 4] (h:=fun r h c d=>by
  unfold FO at h;exact nz)
instance AA5(c:List Cf)(f:Cf->K1)(b:FuncId)(a:Fq)[g:∀(d:Cf),Ct prog (f d) b (Eg d::a) (fun r=>.sh (eB r))]:Ct prog (Dn c f) 328 [lS c,.clo b a] (fun r=>.sh (eI r)):=Fj f328 0x96fed1018fa8ba73816261fe8dde [] [.tmp 4] (h:=fun r h i j=>by
  unfold Dn at h;have:HA 0 8 7 0 fun(e:Int)(_:Unit)=>[(8,.tv (eI e))]:=⟨⟩;exact nz)
instance AAR(c:List Cf)(f:Cf->K1)(b:FuncId)(a:Fq)[e:∀(d:Cf),Ct prog (f d) b (Eg d::a) (fun r=>.sh (eB r))]:Ct prog (CJ c f) 284 [lS c,.clo b a] (fun r=>.sh (eB r)):=Fj f284 0xac0e30ed [] [.tmp 4] (h:=fun r h g i=>by
  unfold CJ at h;exact nz)
theorem wj(l:Fp)(x:Int)(r:Int×Bool)(h:slices_BinarySearch_int l x=some r):AV prog 287 [lI l,eI x] (.tp [eI (r.1),eB (r.2)]):=by
  unfold slices_BinarySearch_int at h;split at h
  · rename_i d
    cases h;have g:=d.1;unfold Ah at g;refine iy (by rfl) d.1 d.2 (fun a c w i=>?_) (fun b e c w f=>Go.Proofs.Tryz.slices_BinarySearch_int b e l.length c l x w (az _) (by omega) f (by rw[List.take_length];exact d.2));exact Go.Proofs.Tryz.slices_BinarySearch_int_empty a c x w
  .cases h
instance AB5(l:Fp)(x:Int):Ct Go.Proofs.Tryz.prog (slices_BinarySearch_int l x) 287 [lI l,eI x] (fun r=>.tp [eI (r.1),eB (r.2)]):=⟨wj l x⟩
theorem wm(l r:Fp)(h:slices_Sort_int l=some r):AV prog 332 [.list 1 (l.map (TV.int .i64))] (.turn r):=by
  unfold slices_Sort_int at h;rw[<-kE]at h;split at h
  · rename_i e
    unfold Ah at e;cases h;refine gh (by rfl) (List.length_mergeSort _) (fun x a=>List.mem_mergeSort.1 a) (fun w b=>?_) (fun g cap w _ _ c d=>Go.Proofs.Tryz.slices_Sort_int g 0 cap l w d c (by omega));subst b;exact Go.Proofs.Tryz.slices_Sort_int_none none 0 w
  .cases h
instance AB9(l:Fp):Ct Go.Proofs.Tryz.prog (slices_Sort_int l) 332 [.list 1 (l.map (TV.int .i64))] Au.turn:=⟨wm l⟩
theorem wn(l r:Fp)(h:slices_Compact_int l=some r):AV prog 333 [.list 1 (l.map (TV.int .i64))] (.cut r):=by
  unfold slices_Compact_int at h;split at h
  · rename_i e
    unfold Ah at e;cases h;have f:=Go.Lib.compact_length_le l;refine qK (rest:=List.replicate (l.length-(Go.Lib.compact l).length) 0) (by rfl) (by rw[List.length_replicate];omega) (fun x a=>br a) (fun w b=>?_) (fun g cap w c _ i d=>Go.Proofs.Tryz.slices_Compact_int g 0 cap l w d (by omega) c);subst b;exact Go.Proofs.Tryz.slices_Compact_int_empty none 0 w
  .cases h
instance ACA(l:Fp):Ct Go.Proofs.Tryz.prog (slices_Compact_int l) 333 [.list 1 (l.map (TV.int .i64))] Au.cut:=⟨wn l⟩
instance ABW(c:List d7)(f:d7->K1)(b:FuncId)(a:Fq)[g:∀(d:d7),Ct prog (f d) b (AK d::a) (fun r=>.sh (eB r))]:Ct prog (Co c f) 364 [Cy c,.clo b a] (fun r=>.sh (eI r)):=Fj f364 0x96fed1018fa7094373816261fe8dde [] [.tmp 4] (h:=fun r h i j=>by
  unfold Co at h;have:HA 0 8 7 0 fun(e:Int)(_:Unit)=>[(8,.tv (eI e))]:=⟨⟩;exact nz)
instance AA8(c:List d7)(f:d7->K1)(b:FuncId)(a:Fq)[e:∀(d:d7),Ct prog (f d) b (AK d::a) (fun r=>.sh (eB r))]:Ct prog (Bq c f) 335 [Cy c,.clo b a] (fun r=>.sh (eB r)):=Fj f335 0xac0e30ed [] [.tmp 4] (h:=fun r h g i=>by
  unfold Bq at h;exact nz)
instance c36(b:Fp)(a:Fp):Ct prog (slices_Equal_int b a) 36 [lI b,lI a] (fun r=>.sh (eB r)):=Fj f36 0x96c4d5d185bbbb816261c4d58de0bcfade [] [.tmp 4] (h:=fun r h d e=>by
  unfold slices_Equal_int at h;have:HA 0 13 12 0 fun(c:Int)(_:Unit)=>[(13,.tv (eI c))]:=⟨⟩;exact nz)
theorem wq(a b c:Int)(r:Int×Int)(h:Hz a b c=some r):AV prog 404 [J3 a,J3 b,J3 c] (.ext [J3 (r.1),J3 (r.2)]):=by
  unfold Hz at h;split at h
  · rename_i d
    cases h;obtain⟨⟨a0,a1⟩,⟨e,g⟩,f,i⟩:=d;intro _;refine⟨⟨rfl,?_⟩,fun w vs hv=>?_⟩
    · simp only[J3,TV.x8,TV.WF,IntKind.min,IntKind.max,IntKind.signed,IntKind.bits,and_true]
      simp only[Bool.false_eq_true,if_false];refine⟨⟨by omega,?_⟩,by omega,?_⟩
      · have:(2:Int)^ 64=18446744073709551616:=by decide
        omega
      · have:(2:Int)^ 64=18446744073709551616:=by decide
        omega
    · obtain⟨x,rfl⟩:=Int.eq_ofNat_of_zero_le a0
      obtain ⟨y,rfl⟩:=Int.eq_ofNat_of_zero_le e;obtain⟨z,rfl⟩:=Int.eq_ofNat_of_zero_le f;have:=Go.Proofs.Any7.bits_Add64 Go.Proofs.Tryz.lays7n25 x y z (by omega) w;obtain⟨l⟩:=vs;simp only[J3,AT,Al]at hv;obtain⟨j,k,rfl,rfl,m,n,rfl,rfl,o,p,rfl,rfl,rfl⟩:=hv;refine⟨_,this,?_⟩;simp only[J3,AT,Al];exact⟨_,_,rfl,by simp,_,_,rfl,by simp,rfl⟩
  .cases h
instance ACC(a b c:Int):Ct Go.Proofs.Tryz.prog (Hz a b c) 404 [J3 a,J3 b,J3 c] (fun r=>.ext [J3 (r.1),J3 (r.2)]):=⟨wq a b c⟩
instance ABi(a:Fp):Ct prog (MN a) 393 [lI a] (fun r=>.sh (eI r)):=Fj f393 0xc836c5a5d1018530815e3661c5a58d7d6201 [] [.tmp 2] (h:=fun r h c d=>by
  unfold MN at h;have:HA 0 8 7 0 fun(b:Int)(_:Unit)=>[(8,.tv (eI b))]:=⟨⟩;exact nz)
instance ABV(a:Int):Ct prog (Jf a) 361 [eI a] (fun r=>.sh (eB r)):=Fj f361 0xac73d8 [] [.tmp 2] (h:=fun r h b c=>by
  unfold Jf at h;exact nz)
instance ABj(a:Int)(y:Int):Ct prog (Hr a y) 394 [eI a,eI y] (fun r=>.sh (eI r)):=Fj f394 0xa6853038853038a638817d0e5b0ede [] [.tmp 4] (h:=fun r h b c=>by
  unfold Hr at h;exact nz)
instance ABn(a:Int):Ct prog (JO a) 405 [J3 a] (fun r=>.sh (eB r)):=Fj f405 0xac73d8 [] [.tmp 2] (h:=fun r h b c=>by
  unfold JO at h;exact nz)
instance ABk(a:Int)(y:Int):Ct prog (Hs a y) 395 [J3 a,J3 y] (fun r=>.sh (eI r)):=Fj f395 0xa6853038853038a638817d0e5b0ede [] [.tmp 4] (h:=fun r h b c=>by
  unfold Hs at h;exact nz)
theorem wk(l:Fp)(m:Int)(r:Fp)(h:EH l m=some r):AV prog 301 [lI l,eI m] (.own (lI r)):=by
  unfold EH at h;split at h
  · rename_i a
    cases h;obtain⟨x,rfl⟩:=List.length_eq_one_iff.1 a.1;obtain⟨k,rfl⟩:=Int.eq_ofNat_of_zero_le a.2.1;exact bN x k (by have:=a.2.2;omega)
  .cases h
instance AB6(l:Fp)(m:Int):Ct Go.Proofs.Tryz.prog (EH l m) 301 [lI l,eI m] (fun r=>.own (lI r)):=⟨wk l m⟩
instance c16(a:List f0):Ct prog (EG a) 16 [(eL 25 Bc) a] (fun r=>.own ((eL 25 Bc) r)):=Fj f16 0x821948011947ff19c09c011940d8 [] [.tmp 2] (h:=fun r h b c=>by
  unfold EG at h;exact nz)
instance c52(c:List BJ)(f:BJ->K1)(b:FuncId)(a:Fq)[g:∀(d:BJ),Ct prog (f d) b (Dk d::a) (fun r=>.sh (eB r))]:Ct prog (HZ c f) 52 [(eL 5 Dk) c,.clo b a] (fun r=>.sh (eI r)):=Fj f52 0x96fed1018f6c054373816261fe8dde [] [.tmp 4] (h:=fun r h i j=>by
  unfold HZ at h;have:HA 0 8 7 0 fun(e:Int)(_:Unit)=>[(8,.tv (eI e))]:=⟨⟩;exact nz)
instance c21(c:List BJ)(f:BJ->K1)(b:FuncId)(a:Fq)[e:∀(d:BJ),Ct prog (f d) b (Dk d::a) (fun r=>.sh (eB r))]:Ct prog (DP c f) 21 [(eL 5 Dk) c,.clo b a] (fun r=>.sh (eB r)):=Fj f21 0xac0e30ed [] [.tmp 4] (h:=fun r h g i=>by
  unfold DP at h;exact nz)
instance c25(a:List BJ):Ct prog (HT a) 25 [(eL 5 Dk) a] (fun r=>.own ((eL 5 Dk) r)):=Fj f25 0x8205485847ff05c09c5840d8 [] [.tmp 2] (h:=fun r h b c=>by
  unfold HT at h;exact nz)
end Go.Sf.Sc
