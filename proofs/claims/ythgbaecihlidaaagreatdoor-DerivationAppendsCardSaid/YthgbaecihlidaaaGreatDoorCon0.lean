/- Contracts of the functions. -/
import Derived.Test.YthgbaecihlidaaaGreatDoorShort
import Derived.Test.YthgbaecihlidaaaGreatDoorFo
import Derived.Test.YthgbaecihlidaaaGreatDoorTryzShelf
set_option linter.all false
set_option maxRecDepth 100000
set_option maxHeartbeats 4000000
namespace Go.Sf.Sc
open Go Go.Sf Go.Proofs.Tryz
instance yg(a:List ByteArray)(b:ByteArray):CT (slices_Index_string a b) 303 [lB a,eS b] rI:=Fj f303 0x91f375f2868030816561f37cde [] fun h=>by
  unfold slices_Index_string at h;have:HA 0 8 7 0 fun(c:Int)(_:Unit)=>[(8,.tv (eI c))]:=⟨⟩;exact nz
instance xx(a:List ByteArray)(b:ByteArray):CT (slices_Contains_string a b) 258 [lB a,eS b] rB:=Fj f258 0xa7fb9f [] fun h=>by
  unfold slices_Contains_string at h;exact nz
theorem uI(s:ByteArray)(c:Int)(r:Int)(h:strings_IndexByte s c=some r):AO prog 265 [eS s,Gr c] (.sh (eI r)):=by
  unfold strings_IndexByte at h;cases h;exact ov (by rfl) ⟨Go.Lib.indexByte_ge _ _,ou _ _⟩ (fun w=>Go.Proofs.Tryz.strings_IndexByte s c w)
instance zF(s:ByteArray)(c:Int):Ct Go.Proofs.Tryz.prog (strings_IndexByte s c) 265 [eS s,Gr c] (fun r=>.sh (eI r)):=⟨uI s c⟩
instance w9(b:List BL)(f:BL->K1)(a:FuncId)(c:Fq)[g:∀(d:BL),CT (f d) a (Ia d::c) rB]:CT (Cr b f) 207 [lN b,.clo a c] rI:=Fj f207 0x91f375f28fb1b930816561f37cde [] fun h=>by
  unfold Cr at h;have:HA 0 8 7 0 fun(e:Int)(_:Unit)=>[(8,.tv (eI e))]:=⟨⟩;exact nz
instance vn(b:List BL)(f:BL->K1)(a:FuncId)(c:Fq)[e:∀(d:BL),CT (f d) a (Ia d::c) rB]:CT (CD b f) 139 [lN b,.clo a c] rB:=Fj f139 0xa7fb9f [] fun h=>by
  unfold CD at h;exact nz
instance xw(b:List mh)(f:mh->K1)(a:FuncId)(c:Fq)[g:∀(d:mh),CT (f d) a (HT d::c) rB]:CT (Dc b f) 257 [lA b,.clo a c] rI:=Fj f257 0x91f375f28fb1b930816561f37cde [] fun h=>by
  unfold Dc at h;have:HA 0 8 7 0 fun(e:Int)(_:Unit)=>[(8,.tv (eI e))]:=⟨⟩;exact nz
instance xA(b:List mh)(f:mh->K1)(a:FuncId)(c:Fq)[e:∀(d:mh),CT (f d) a (HT d::c) rB]:CT (Ca b f) 208 [lA b,.clo a c] rB:=Fj f208 0xa7fb9f [] fun h=>by
  unfold Ca at h;exact nz
instance xD(b:List CA)(f:CA->K1)(a:FuncId)(c:Fq)[g:∀(d:CA),CT (f d) a (Jv d::c) rB]:CT (Cq b f) 211 [lX b,.clo a c] rI:=Fj f211 0x91f375f28f0744075f30816561f37cde [] fun h=>by
  unfold Cq at h;have:HA 0 8 7 0 fun(e:Int)(_:Unit)=>[(8,.tv (eI e))]:=⟨⟩;exact nz
instance vt(b:List CA)(f:CA->K1)(a:FuncId)(c:Fq)[e:∀(d:CA),CT (f d) a (Jv d::c) rB]:CT (CC b f) 144 [lX b,.clo a c] rB:=Fj f144 0xa7fb9f [] fun h=>by
  unfold CC at h;exact nz
instance vQ(b:Fp)(f:Int->K1)(a:FuncId)(c:Fq)[g:∀(d:Int),CT (f d) a (eI d::c) rB]:CT (Ck b f) 117 [lI b,.clo a c] rI:=Fj f117 0x91f375f28f8030816561f37cde [] fun h=>by
  unfold Ck at h;have:HA 0 8 7 0 fun(e:Int)(_:Unit)=>[(8,.tv (eI e))]:=⟨⟩;exact nz
instance c72(b:Fp)(f:Int->K1)(a:FuncId)(c:Fq)[e:∀(d:Int),CT (f d) a (eI d::c) rB]:CT (Ay b f) 72 [lI b,.clo a c] rB:=Fj f72 0xa7fb9f [] fun h=>by
  unfold Ay at h;exact nz
instance xF(b:List Bc)(f:Bc->K1)(a:FuncId)(c:Fq)[g:∀(d:Bc),CT (f d) a (CF d::c) rB]:CT (Dd b f) 213 [lE b,.clo a c] rI:=Fj f213 0x91f375f28fd75f30816561f37cde [] fun h=>by
  unfold Dd at h;have:HA 0 8 7 0 fun(e:Int)(_:Unit)=>[(8,.tv (eI e))]:=⟨⟩;exact nz
instance v8(b:List Bc)(f:Bc->K1)(a:FuncId)(c:Fq)[e:∀(d:Bc),CT (f d) a (CF d::c) rB]:CT (BV b f) 149 [lE b,.clo a c] rB:=Fj f149 0xa7fb9f [] fun h=>by
  unfold BV at h;exact nz
instance xS(a:List ByteArray):CT (slices_Clone_string a) 227 [lB a] (fun r=>.own (lB r)):=Fj f227 0x8201483047ff01c09c30400001 [] fun h=>by
  unfold slices_Clone_string at h;exact nz
instance xH(a:ae)(b:Bool):CT (H9 a b) 215 [(eL 1 eB) a,eB b] rI:=Fj f215 0x91f375f2878030816561f37cde [] fun h=>by
  unfold H9 at h;have:HA 0 8 7 0 fun(c:Int)(_:Unit)=>[(8,.tv (eI c))]:=⟨⟩;exact nz
instance wE(a:ae)(b:Bool):CT (E5 a b) 154 [(eL 1 eB) a,eB b] rB:=Fj f154 0xa7fb9f [] fun h=>by
  unfold E5 at h;exact nz
instance yF(b:List Bv)(f:Bv->K1)(a:FuncId)(c:Fq)[g:∀(d:Bv),CT (f d) a (Fr d::c) rB]:CT (De b f) 267 [lS b,.clo a c] rI:=Fj f267 0x91f375f28fb1b930816561f37cde [] fun h=>by
  unfold De at h;have:HA 0 8 7 0 fun(e:Int)(_:Unit)=>[(8,.tv (eI e))]:=⟨⟩;exact nz
instance xK(b:List Bv)(f:Bv->K1)(a:FuncId)(c:Fq)[e:∀(d:Bv),CT (f d) a (Fr d::c) rB]:CT (CI b f) 218 [lS b,.clo a c] rB:=Fj f218 0xa7fb9f [] fun h=>by
  unfold CI at h;exact nz
instance c64(a:Fp):CT (slices_Clone_int a) 64 [lI a] (fun r=>.own (lI r)):=Fj f64 0x8201483047ff01c09c30400001 [] fun h=>by
  unfold slices_Clone_int at h;exact nz
theorem uE(l:Fp)(x:Int)(r:Int×Bool)(h:slices_BinarySearch_int l x=some r):AO prog 221 [lI l,eI x] (.tp [eI (r.1),eB (r.2)]):=by
  unfold slices_BinarySearch_int at h;split at h
  · rename_i d
    cases h;have g:=d.1;unfold AZ at g;refine fa (by rfl) d.1 d.2 (fun a c w i=>?_) (fun b e c w f=>Go.Proofs.Tryz.slices_BinarySearch_int b e l.length c l x w (bk _) (by omega) f (by rw[List.take_length];exact d.2));exact Go.Proofs.Tryz.slices_BinarySearch_int_empty a c x w
  .cases h
instance zB(l:Fp)(x:Int):Ct Go.Proofs.Tryz.prog (slices_BinarySearch_int l x) 221 [lI l,eI x] (fun r=>.tp [eI (r.1),eB (r.2)]):=⟨uE l x⟩
theorem uJ(l r:Fp)(h:slices_Sort_int l=some r):AO prog 271 [.list 1 (l.map (TV.int .i64))] (.turn r []):=by
  unfold slices_Sort_int at h;rw[<-iP]at h;split at h
  · rename_i e
    unfold AZ at e;cases h;refine eM (by rfl) (List.length_mergeSort _) (fun x a=>List.mem_mergeSort.1 a) (fun w b=>?_) (fun g cap w _ _ c d=>Go.Proofs.Tryz.slices_Sort_int g 0 cap l w d c (by omega));subst b;exact Go.Proofs.Tryz.slices_Sort_int_none none 0 w
  .cases h
instance zH(l:Fp):Ct Go.Proofs.Tryz.prog (slices_Sort_int l) 271 [.list 1 (l.map (TV.int .i64))] (fun r=>.turn r []):=⟨uJ l⟩
theorem uK(l r:Fp)(h:slices_Compact_int l=some r):AO prog 272 [.list 1 (l.map (TV.int .i64))] (.cut r):=by
  unfold slices_Compact_int at h;split at h
  · rename_i e
    unfold AZ at e;cases h;have f:=Go.Lib.compact_length_le l;refine oZ (rest:=List.replicate (l.length-(Go.Lib.compact l).length) 0) (by rfl) (by rw[List.length_replicate];omega) (fun x a=>ZS a) (fun w b=>?_) (fun g cap w c _ i d=>Go.Proofs.Tryz.slices_Compact_int g 0 cap l w d (by omega) c);subst b;exact Go.Proofs.Tryz.slices_Compact_int_empty none 0 w
  .cases h
instance zI(l:Fp):Ct Go.Proofs.Tryz.prog (slices_Compact_int l) 272 [.list 1 (l.map (TV.int .i64))] Az.cut:=⟨uK l⟩
instance yH(a:Fp)(b:Int):CT (slices_Index_int a b) 273 [lI a,eI b] rI:=Fj f273 0x91f375f2858030816561f37cde [] fun h=>by
  unfold slices_Index_int at h;have:HA 0 8 7 0 fun(c:Int)(_:Unit)=>[(8,.tv (eI c))]:=⟨⟩;exact nz
instance xO(a:Fp)(b:Int):CT (slices_Contains_int a b) 223 [lI a,eI b] rB:=Fj f223 0xa7fb9f [] fun h=>by
  unfold slices_Contains_int at h;exact nz
theorem uL(l r:Fp)(h:slices_Reverse_int l=some r):AO prog 278 [.list 1 (l.map (TV.int .i64))] (.turn r []):=by
  unfold slices_Reverse_int at h;split at h
  · rename_i d
    unfold AZ at d;cases h;refine eM (by rfl) List.length_reverse (fun x a=>List.mem_reverse.1 a) (fun w b=>?_) (fun g cap w _ _ j c=>(Go.Proofs.Tryz.slices_Reverse_int g 0 cap l w c (by omega)).mono ?_)
    · subst b
      exact Go.Proofs.Tryz.slices_Reverse_int_empty none 0 w
    · rintro e w' ⟨f,q,i⟩
      exact ⟨f,q,#[],by rw[Go.Sort.grow_empty];exact i⟩
  .cases h
instance zJ(l:Fp):Ct Go.Proofs.Tryz.prog (slices_Reverse_int l) 278 [.list 1 (l.map (TV.int .i64))] (fun r=>.turn r []):=⟨uL l⟩
instance yl(b:List ea)(f:ea->K1)(a:FuncId)(c:Fq)[g:∀(d:ea),CT (f d) a (AI d::c) rB]:CT (Cg b f) 311 [Ek b,.clo a c] rI:=Fj f311 0x91f375f28f9d095f30816561f37cde [] fun h=>by
  unfold Cg at h;have:HA 0 8 7 0 fun(e:Int)(_:Unit)=>[(8,.tv (eI e))]:=⟨⟩;exact nz
instance yJ(b:List ea)(f:ea->K1)(a:FuncId)(c:Fq)[e:∀(d:ea),CT (f d) a (AI d::c) rB]:CT (Bs b f) 275 [Ek b,.clo a c] rB:=Fj f275 0xa7fb9f [] fun h=>by
  unfold Bs at h;exact nz
instance c65(a:List Bc):CT (DM a) 65 [lE a] (fun r=>.own (lE r)):=Fj f65 0x820348fe47ff03c09cfe400001 [] fun h=>by
  unfold DM at h;exact nz
theorem uN(a b c:Int)(r:Int×Int)(h:Hd a b c=some r):AO prog 315 [Hu a,Hu b,Hu c] (.ext [Hu (r.1),Hu (r.2)]):=by
  unfold Hd at h;split at h
  · rename_i d
    cases h;obtain⟨⟨a0,a1⟩,⟨e,g⟩,f,i⟩:=d;intro _;refine⟨⟨rfl,?_⟩,fun w vs hv=>?_⟩
    · simp only[Hu,TV.tn,TV.WF,IntKind.min,IntKind.max,IntKind.signed,IntKind.bits,and_true]
      simp only[Bool.false_eq_true,if_false];refine⟨⟨by omega,?_⟩,by omega,?_⟩
      · have:(2:Int)^ 64=18446744073709551616:=by decide
        omega
      · have:(2:Int)^ 64=18446744073709551616:=by decide
        omega
    · obtain⟨x,rfl⟩:=Int.eq_ofNat_of_zero_le a0
      obtain ⟨y,rfl⟩:=Int.eq_ofNat_of_zero_le e;obtain⟨z,rfl⟩:=Int.eq_ofNat_of_zero_le f;have:=Go.Proofs.Any7.bits_Add64 Go.Proofs.Tryz.lays7n25 x y z (by omega) w;obtain⟨l⟩:=vs;simp only[Hu,AL,AX]at hv;obtain⟨j,k,rfl,rfl,m,n,rfl,rfl,o,p,rfl,rfl,rfl⟩:=hv;refine⟨_,this,?_⟩;simp only[Hu,AL,AX];exact⟨_,_,rfl,by simp,_,_,rfl,by simp,rfl⟩
  .cases h
instance zL(a b c:Int):Ct Go.Proofs.Tryz.prog (Hd a b c) 315 [Hu a,Hu b,Hu c] (fun r=>.ext [Hu (r.1),Hu (r.2)]):=⟨uN a b c⟩
instance yQ(a:Fp):CT (L7 a) 283 [lI a] rI:=Fj f283 0x810131e5aa75f28530816f3161e5aa7c7f6501 [] fun h=>by
  unfold L7 at h;have:HA 0 8 7 0 fun(b:Int)(_:Unit)=>[(8,.tv (eI b))]:=⟨⟩;exact nz
instance yk(a:Int):CT (cmp_isNaN_int a) 308 [eI a] rB:=Fj f308 0xa701f1 [] fun h=>by
  unfold cmp_isNaN_int at h;exact nz
instance yR(a:Int)(y:Int):CT (cmp_Compare_int a y) 284 [eI a,eI y] rI:=Fj f284 0x81ac30ac30b536b57f0e5d0ede [] fun h=>by
  unfold cmp_Compare_int at h;exact nz
instance yp(a:Int):CT (Il a) 316 [Hu a] rB:=Fj f316 0xa701f1 [] fun h=>by
  unfold Il at h;exact nz
instance yS(a:Int)(y:Int):CT (HO a y) 285 [Hu a,Hu y] rI:=Fj f285 0x81ac30ac30b536b57f0e5d0ede [] fun h=>by
  unfold HO at h;exact nz
instance zU(b:Fp)(a:Fp):CT (slices_Equal_int b a) 17 [lI b,lI a] rB:=Fj f17 0x91dacb75acefef816561dacb7c01ac0b010bde [] fun h=>by
  unfold slices_Equal_int at h;have:HA 0 13 12 0 fun(c:Int)(_:Unit)=>[(13,.tv (eI c))]:=⟨⟩;exact nz
theorem uF(l:Fp)(m:Int)(r:Fp)(h:D6 l m=some r):AO prog 242 [lI l,eI m] (.own (lI r)):=by
  unfold D6 at h;split at h
  · rename_i a
    cases h;obtain⟨x,rfl⟩:=List.length_eq_one_iff.1 a.1;obtain⟨k,rfl⟩:=Int.eq_ofNat_of_zero_le a.2.1;exact Yu x k (by have:=a.2.2;omega)
  .cases h
instance zC(l:Fp)(m:Int):Ct Go.Proofs.Tryz.prog (D6 l m) 242 [lI l,eI m] (fun r=>.own (lI r)):=⟨uF l m⟩
theorem ux(i:Int)(r:ByteArray)(h:strconv_Itoa i=some r):AO prog 41 [eI i] (.sh (eS r)):=by
  unfold strconv_Itoa at h;split at h
  · rename_i hi
    cases h;obtain⟨k,rfl⟩:=Int.eq_ofNat_of_zero_le hi.1;have a:k<100:=by have:=hi.2;omega
    show AO prog 41 [eI (k:Int)] (.sh (eS (bl k)));refine mE (by rfl) (by have:=bn k;unfold Gb;omega) fun w=>?_;have:=Go.Proofs.Tryz.strconv_Itoa_small k a w;rw[iQ k a]at this;exact this
  .cases h
instance i41(i:Int):Ct Go.Proofs.Tryz.prog (strconv_Itoa i) 41 [eI i] (fun r=>.sh (eS r)):=⟨ux i⟩
end Go.Sf.Sc
