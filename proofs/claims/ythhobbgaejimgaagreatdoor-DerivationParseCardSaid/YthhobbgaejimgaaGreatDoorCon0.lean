/- Contracts of the functions. -/
import Derived.Test.YthhobbgaejimgaaGreatDoorShort
import Derived.Test.YthhobbgaejimgaaGreatDoorFo
import Derived.Test.YthhobbgaejimgaaGreatDoorTryzShelf
set_option linter.all false
set_option maxRecDepth 100000
set_option maxHeartbeats 4000000
namespace Go.Sf.Sc
open Go Go.Sf Go.Proofs.Tryz
instance qY(a:D1)(f:Int->Fp)(c:FuncId)(b:D2)[g:∀(d:Int),Ct prog (f d) c (eI d::b) (fun r=>.sh (eB r))]:Ct prog (CE a f) 95 [lI a,.r6 c b] (fun r=>.sh (eI r)):=Fj f95 0xa2cab6e68f606a81d2caf5b9 [] [.tmp 4] (h:=fun r h i j=>by
  unfold CE at h;have:HA 0 8 7 0 fun(e:Int)(_:Unit)=>[(8,.tv (eI e))]:=⟨⟩;exact nz)
instance py(a:D1)(f:Int->Fp)(c:FuncId)(b:D2)[e:∀(d:Int),Ct prog (f d) c (eI d::b) (fun r=>.sh (eB r))]:Ct prog (Ag a f) 62 [lI a,.r6 c b] (fun r=>.sh (eB r)):=Fj f62 0x9ddde0 [] [.tmp 4] (h:=fun r h g i=>by
  unfold Ag at h;exact nz)
theorem kw(i:Int)(r:ByteArray)(h:strconv_Itoa i=some r):AI prog 25 [eI i] (.sh (eS r)):=by
  unfold strconv_Itoa at h;split at h
  · rename_i hi
    cases h;obtain⟨k,rfl⟩:=Int.eq_ofNat_of_zero_le hi.1;have a:k<100:=by have:=hi.2;omega
    show AI prog 25 [eI (k:Int)] (.sh (eS (Un k)));refine aF (by rfl) (by have:=Uo k;unfold EX;omega) fun w=>?_;have:=Go.Proofs.Tryz.strconv_Itoa_small k a w;rw[Xi k a]at this;exact this
  .cases h
instance qe(i:Int):Ct Go.Proofs.Tryz.prog (strconv_Itoa i) 25 [eI i] (fun r=>.sh (eS r)):=⟨kw i⟩
instance qI(a:D1):Ct prog (slices_Clone_int a) 79 [lI a] (fun r=>.own (lI r)):=Fj f79 0x8201483047ff01c09c304096 [] [.tmp 2] (h:=fun r h b c=>by
  unfold slices_Clone_int at h;exact nz)
instance qJ(a:List Bv):Ct prog (Dq a) 80 [lE a] (fun r=>.own (lE r)):=Fj f80 0x820348010347ffee9c01034096 [] [.tmp 2] (h:=fun r h b c=>by
  unfold Dq at h;exact nz)
instance nE(b:List ByteArray)(a:ByteArray):Ct prog (slices_Index_string b a) 198 [lB b,eS a] (fun r=>.sh (eI r)):=Fj f198 0xa2cab6e686606a81d2caf5b9 [] [.tmp 4] (h:=fun r h d e=>by
  unfold slices_Index_string at h;have:HA 0 8 7 0 fun(c:Int)(_:Unit)=>[(8,.tv (eI c))]:=⟨⟩;exact nz)
instance mU(b:List ByteArray)(a:ByteArray):Ct prog (slices_Contains_string b a) 158 [lB b,eS a] (fun r=>.sh (eB r)):=Fj f158 0x9ddde0 [] [.tmp 4] (h:=fun r h c d=>by
  unfold slices_Contains_string at h;exact nz)
theorem jz(s:ByteArray)(c:Int)(r:Int)(h:strings_IndexByte s c=some r):AI prog 120 [eS s,Ni c] (.sh (eI r)):=by
  unfold strings_IndexByte at h;cases h;exact cy (by rfl) ⟨Go.Lib.indexByte_ge _ _,cx _ _⟩ (fun w=>Go.Proofs.Tryz.strings_IndexByte s c w)
instance oc(s:ByteArray)(c:Int):Ct Go.Proofs.Tryz.prog (strings_IndexByte s c) 120 [eS s,Ni c] (fun r=>.sh (eI r)):=⟨jz s c⟩
instance mJ(a:List Ba)(f:Ba->Fp)(c:FuncId)(b:D2)[g:∀(d:Ba),Ct prog (f d) c (Ej d::b) (fun r=>.sh (eB r))]:Ct prog (CO a f) 147 [lN a,.r6 c b] (fun r=>.sh (eI r)):=Fj f147 0xa2cab6e68ffb6a81d2caf5b9 [] [.tmp 4] (h:=fun r h i j=>by
  unfold CO at h;have:HA 0 8 7 0 fun(e:Int)(_:Unit)=>[(8,.tv (eI e))]:=⟨⟩;exact nz)
instance qa(a:List Ba)(f:Ba->Fp)(c:FuncId)(b:D2)[e:∀(d:Ba),Ct prog (f d) c (Ej d::b) (fun r=>.sh (eB r))]:Ct prog (Be a f) 99 [lN a,.r6 c b] (fun r=>.sh (eB r)):=Fj f99 0x9ddde0 [] [.tmp 4] (h:=fun r h g i=>by
  unfold Be at h;exact nz)
instance nC(a:List o3)(f:o3->Fp)(c:FuncId)(b:D2)[g:∀(d:o3),Ct prog (f d) c (FD d::b) (fun r=>.sh (eB r))]:Ct prog (Cj a f) 195 [lA a,.r6 c b] (fun r=>.sh (eI r)):=Fj f195 0xa2cab6e68ffb6a81d2caf5b9 [] [.tmp 4] (h:=fun r h i j=>by
  unfold Cj at h;have:HA 0 8 7 0 fun(e:Int)(_:Unit)=>[(8,.tv (eI e))]:=⟨⟩;exact nz)
instance mK(a:List o3)(f:o3->Fp)(c:FuncId)(b:D2)[e:∀(d:o3),Ct prog (f d) c (FD d::b) (fun r=>.sh (eB r))]:Ct prog (B1 a f) 148 [lA a,.r6 c b] (fun r=>.sh (eB r)):=Fj f148 0x9ddde0 [] [.tmp 4] (h:=fun r h g i=>by
  unfold B1 at h;exact nz)
instance mN(a:List Bl)(f:Bl->Fp)(c:FuncId)(b:D2)[g:∀(d:Bl),Ct prog (f d) c (FQ d::b) (fun r=>.sh (eB r))]:Ct prog (CN a f) 151 [lX a,.r6 c b] (fun r=>.sh (eI r)):=Fj f151 0xa2cab6e68f074407436a81d2caf5b9 [] [.tmp 4] (h:=fun r h i j=>by
  unfold CN at h;have:HA 0 8 7 0 fun(e:Int)(_:Unit)=>[(8,.tv (eI e))]:=⟨⟩;exact nz)
instance lU(a:List Bl)(f:Bl->Fp)(c:FuncId)(b:D2)[e:∀(d:Bl),Ct prog (f d) c (FQ d::b) (fun r=>.sh (eB r))]:Ct prog (Bc a f) 104 [lX a,.r6 c b] (fun r=>.sh (eB r)):=Fj f104 0x9ddde0 [] [.tmp 4] (h:=fun r h g i=>by
  unfold Bc at h;exact nz)
instance mO(a:List Bv)(f:Bv->Fp)(c:FuncId)(b:D2)[g:∀(d:Bv),Ct prog (f d) c (Bp d::b) (fun r=>.sh (eB r))]:Ct prog (Ck a f) 152 [lE a,.r6 c b] (fun r=>.sh (eI r)):=Fj f152 0xa2cab6e68fd0436a81d2caf5b9 [] [.tmp 4] (h:=fun r h i j=>by
  unfold Ck at h;have:HA 0 8 7 0 fun(e:Int)(_:Unit)=>[(8,.tv (eI e))]:=⟨⟩;exact nz)
instance lb(a:List Bv)(f:Bv->Fp)(c:FuncId)(b:D2)[e:∀(d:Bv),Ct prog (f d) c (Bp d::b) (fun r=>.sh (eB r))]:Ct prog (BM a f) 109 [lE a,.r6 c b] (fun r=>.sh (eB r)):=Fj f109 0x9ddde0 [] [.tmp 4] (h:=fun r h g i=>by
  unfold BM at h;exact nz)
instance mP(a:List ByteArray):Ct prog (slices_Clone_string a) 153 [lB a] (fun r=>.own (lB r)):=Fj f153 0x8201483047ff01c09c304096 [] [.tmp 2] (h:=fun r h b c=>by
  unfold slices_Clone_string at h;exact nz)
instance nD(b:D1)(a:Int):Ct prog (slices_Index_int b a) 196 [lI b,eI a] (fun r=>.sh (eI r)):=Fj f196 0xa2cab6e685606a81d2caf5b9 [] [.tmp 4] (h:=fun r h d e=>by
  unfold slices_Index_int at h;have:HA 0 8 7 0 fun(c:Int)(_:Unit)=>[(8,.tv (eI c))]:=⟨⟩;exact nz)
instance mR(b:D1)(a:Int):Ct prog (slices_Contains_int b a) 155 [lI b,eI a] (fun r=>.sh (eB r)):=Fj f155 0x9ddde0 [] [.tmp 4] (h:=fun r h c d=>by
  unfold slices_Contains_int at h;exact nz)
theorem j5(l r:D1)(h:slices_Reverse_int l=some r):AI prog 197 [.list 1 (l.map (TV.int .i64))] (.turn r):=by
  unfold slices_Reverse_int at h;split at h
  · rename_i d
    unfold Bi at d;cases h;refine V7 (by rfl) List.length_reverse (fun x a=>List.mem_reverse.1 a) (fun w b=>?_) (fun g cap w _ _ j c=>(Go.Proofs.Tryz.slices_Reverse_int g 0 cap l w c (by omega)).mono ?_)
    · subst b
      exact Go.Proofs.Tryz.slices_Reverse_int_empty none 0 w
    · rintro e w' ⟨f,q,i⟩
      exact ⟨f,q,#[],by rw[Go.Sort.grow_empty];exact i⟩
  .cases h
instance oe(l:D1):Ct Go.Proofs.Tryz.prog (slices_Reverse_int l) 197 [.list 1 (l.map (TV.int .i64))] Ah.turn:=⟨j5 l⟩
instance nG(b:Ne)(a:Bool):Ct prog (H2 b a) 201 [(eL 1 eB) b,eB a] (fun r=>.sh (eI r)):=Fj f201 0xa2cab6e687606a81d2caf5b9 [] [.tmp 4] (h:=fun r h d e=>by
  unfold H2 at h;have:HA 0 8 7 0 fun(c:Int)(_:Unit)=>[(8,.tv (eI c))]:=⟨⟩;exact nz)
instance mb(b:Ne)(a:Bool):Ct prog (Gh b a) 166 [(eL 1 eB) b,eB a] (fun r=>.sh (eB r)):=Fj f166 0x9ddde0 [] [.tmp 4] (h:=fun r h c d=>by
  unfold Gh at h;exact nz)
instance ng(a:List CT)(f:CT->Fp)(c:FuncId)(b:D2)[g:∀(d:CT),Ct prog (f d) c (Ef d::b) (fun r=>.sh (eB r))]:Ct prog (Cl a f) 230 [lS a,.r6 c b] (fun r=>.sh (eI r)):=Fj f230 0xa2cab6e68ffb6a81d2caf5b9 [] [.tmp 4] (h:=fun r h i j=>by
  unfold Cl at h;have:HA 0 8 7 0 fun(e:Int)(_:Unit)=>[(8,.tv (eI e))]:=⟨⟩;exact nz)
instance nJ(a:List CT)(f:CT->Fp)(c:FuncId)(b:D2)[e:∀(d:CT),Ct prog (f d) c (Ef d::b) (fun r=>.sh (eB r))]:Ct prog (B2 a f) 204 [lS a,.r6 c b] (fun r=>.sh (eB r)):=Fj f204 0x9ddde0 [] [.tmp 4] (h:=fun r h g i=>by
  unfold B2 at h;exact nz)
theorem j6(l:D1)(x:Int)(r:Int×Bool)(h:slices_BinarySearch_int l x=some r):AI prog 207 [lI l,eI x] (.tp [eI (r.1),eB (r.2)]):=by
  unfold slices_BinarySearch_int at h;split at h
  · rename_i d
    cases h;have g:=d.1;unfold Bi at g;refine Wa (by rfl) d.1 d.2 (fun a c w i=>?_) (fun b e c w f=>Go.Proofs.Tryz.slices_BinarySearch_int b e l.length c l x w (ae _) (by omega) f (by rw[List.take_length];exact d.2));exact Go.Proofs.Tryz.slices_BinarySearch_int_empty a c x w
  .cases h
instance oh(l:D1)(x:Int):Ct Go.Proofs.Tryz.prog (slices_BinarySearch_int l x) 207 [lI l,eI x] (fun r=>.tp [eI (r.1),eB (r.2)]):=⟨j6 l x⟩
theorem j8(l r:D1)(h:slices_Sort_int l=some r):AI prog 234 [.list 1 (l.map (TV.int .i64))] (.turn r):=by
  unfold slices_Sort_int at h;rw[<-Xh]at h;split at h
  · rename_i e
    unfold Bi at e;cases h;refine V7 (by rfl) (List.length_mergeSort _) (fun x a=>List.mem_mergeSort.1 a) (fun w b=>?_) (fun g cap w _ _ c d=>Go.Proofs.Tryz.slices_Sort_int g 0 cap l w d c (by omega));subst b;exact Go.Proofs.Tryz.slices_Sort_int_none none 0 w
  .cases h
instance ol(l:D1):Ct Go.Proofs.Tryz.prog (slices_Sort_int l) 234 [.list 1 (l.map (TV.int .i64))] Ah.turn:=⟨j8 l⟩
theorem j9(l r:D1)(h:slices_Compact_int l=some r):AI prog 235 [.list 1 (l.map (TV.int .i64))] (.cut r):=by
  unfold slices_Compact_int at h;split at h
  · rename_i e
    unfold Bi at e;cases h;have f:=Go.Lib.compact_length_le l;refine cl (rest:=List.replicate (l.length-(Go.Lib.compact l).length) 0) (by rfl) (by rw[List.length_replicate];omega) (fun x a=>S7 a) (fun w b=>?_) (fun g cap w c _ i d=>Go.Proofs.Tryz.slices_Compact_int g 0 cap l w d (by omega) c);subst b;exact Go.Proofs.Tryz.slices_Compact_int_empty none 0 w
  .cases h
instance oo(l:D1):Ct Go.Proofs.Tryz.prog (slices_Compact_int l) 235 [.list 1 (l.map (TV.int .i64))] Ah.cut:=⟨j9 l⟩
instance oG(a:List fd)(f:fd->Fp)(c:FuncId)(b:D2)[g:∀(d:fd),Ct prog (f d) c (Af d::b) (fun r=>.sh (eB r))]:Ct prog (B8 a f) 260 [D8 a,.r6 c b] (fun r=>.sh (eI r)):=Fj f260 0xa2cab6e68fba09436a81d2caf5b9 [] [.tmp 4] (h:=fun r h i j=>by
  unfold B8 at h;have:HA 0 8 7 0 fun(e:Int)(_:Unit)=>[(8,.tv (eI e))]:=⟨⟩;exact nz)
instance nk(a:List fd)(f:fd->Fp)(c:FuncId)(b:D2)[e:∀(d:fd),Ct prog (f d) c (Af d::b) (fun r=>.sh (eB r))]:Ct prog (Bt a f) 237 [D8 a,.r6 c b] (fun r=>.sh (eB r)):=Fj f237 0x9ddde0 [] [.tmp 4] (h:=fun r h g i=>by
  unfold Bt at h;exact nz)
theorem kB(a b c:Int)(r:Int×Int)(h:HO a b c=some r):AI prog 264 [G8 a,G8 b,G8 c] (.ext [G8 (r.1),G8 (r.2)]):=by
  unfold HO at h;split at h
  · rename_i d
    cases h;obtain⟨⟨a0,a1⟩,⟨b0,f⟩,e,g⟩:=d;intro _;refine⟨⟨rfl,?_⟩,fun w vs hv=>?_⟩
    · simp only[G8,TV.rk,TV.WF,IntKind.min,IntKind.max,IntKind.signed,IntKind.bits,and_true]
      simp only[Bool.false_eq_true,if_false];refine⟨⟨by omega,?_⟩,by omega,?_⟩
      · have:(2:Int)^ 64=18446744073709551616:=by decide
        omega
      · have:(2:Int)^ 64=18446744073709551616:=by decide
        omega
    · obtain⟨x,rfl⟩:=Int.eq_ofNat_of_zero_le a0
      obtain ⟨y,rfl⟩:=Int.eq_ofNat_of_zero_le b0;obtain⟨z,rfl⟩:=Int.eq_ofNat_of_zero_le e;have:=Go.Proofs.Any7.bits_Add64 Go.Proofs.Tryz.lays7n25 x y z (by omega) w;obtain⟨l⟩:=vs;simp only[G8,AH,AV]at hv;obtain⟨i,j,rfl,rfl,k,m,rfl,rfl,n,o,rfl,rfl,rfl⟩:=hv;refine⟨_,this,?_⟩;simp only[G8,AH,AV];exact⟨_,_,rfl,by simp,_,_,rfl,by simp,rfl⟩
  .cases h
instance ou(a b c:Int):Ct Go.Proofs.Tryz.prog (HO a b c) 264 [G8 a,G8 b,G8 c] (fun r=>.ext [G8 (r.1),G8 (r.2)]):=⟨kB a b c⟩
instance nw(a:D1):Ct prog (L9 a) 244 [lI a] (fun r=>.sh (eI r)):=Fj f244 0x810131770603b6e685308160315f770603f56c5e01 [] [.tmp 2] (h:=fun r h c d=>by
  unfold L9 at h;have:HA 0 8 7 0 fun(b:Int)(_:Unit)=>[(8,.tv (eI b))]:=⟨⟩;exact nz)
instance oF(a:Int):Ct prog (cmp_isNaN_int a) 257 [eI a] (fun r=>.sh (eB r)):=Fj f257 0x9d6a96 [] [.tmp 2] (h:=fun r h b c=>by
  unfold cmp_isNaN_int at h;exact nz)
instance nx(a:Int)(y:Int):Ct prog (cmp_Compare_int a y) 245 [eI a,eI y] (fun r=>.sh (eI r)):=Fj f245 0x81b830b8307636766c0e550eb9 [] [.tmp 4] (h:=fun r h b c=>by
  unfold cmp_Compare_int at h;exact nz)
instance oK(a:Int):Ct prog (GQ a) 265 [G8 a] (fun r=>.sh (eB r)):=Fj f265 0x9d6a96 [] [.tmp 2] (h:=fun r h b c=>by
  unfold GQ at h;exact nz)
instance ny(a:Int)(y:Int):Ct prog (HU a y) 246 [G8 a,G8 y] (fun r=>.sh (eI r)):=Fj f246 0x81b830b8307636766c0e550eb9 [] [.tmp 4] (h:=fun r h b c=>by
  unfold HU at h;exact nz)
instance pC(a:D1)(b:D1):Ct prog (slices_Equal_int a b) 21 [lI a,lI b] (fun r=>.sh (eB r)):=Fj f21 0xa2c55eb6b8d6d681d2c55ef501b8d80bb9 [] [.tmp 4] (h:=fun r h d e=>by
  unfold slices_Equal_int at h;have:HA 0 13 12 0 fun(c:Int)(_:Unit)=>[(13,.tv (eI c))]:=⟨⟩;exact nz)
theorem j7(l:D1)(m:Int)(r:D1)(h:EZ l m=some r):AI prog 224 [lI l,eI m] (.own (lI r)):=by
  unfold EZ at h;split at h
  · rename_i a
    cases h;obtain⟨x,rfl⟩:=List.length_eq_one_iff.1 a.1;obtain⟨k,rfl⟩:=Int.eq_ofNat_of_zero_le a.2.1;exact Sb x k (by have:=a.2.2;omega)
  .cases h
instance oi(l:D1)(m:Int):Ct Go.Proofs.Tryz.prog (EZ l m) 224 [lI l,eI m] (fun r=>.own (lI r)):=⟨j7 l m⟩
end Go.Sf.Sc
