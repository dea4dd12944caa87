/- Contracts of the functions. -/
import Derived.Test.YtbgedoajacpdbaaGreatDoorShort
import Derived.Test.YtbgedoajacpdbaaGreatDoorFo
import Derived.Test.YtbgedoajacpdbaaGreatDoorTryzShelf
set_option linter.all false
set_option maxRecDepth 100000
set_option maxHeartbeats 4000000
namespace Go.Sf.Sc
open Go Go.Sf Go.Proofs.Tryz
instance zT(b:List ByteArray)(a:ByteArray):Ct prog (slices_Index_string b a) 385 [lB b,eS a] (fun r=>.sh (eI r)):=Fj f385 0x9b73d6803701865f7281636273d68dde [] [.tmp 4] (h:=fun r h d e=>by
  unfold slices_Index_string at h;have:HA 0 8 7 0 fun(c:Int)(_:Unit)=>[(8,.tv (eI c))]:=⟨⟩;exact nz)
instance yi(a:List ByteArray)(b:ByteArray):Ct prog (slices_Contains_string a b) 331 [lB a,eS b] (fun r=>.sh (eB r)):=Fj f331 0xa90e30ea [] [.tmp 4] (h:=fun r h c d=>by
  unfold slices_Contains_string at h;exact nz)
theorem uG(s:ByteArray)(c:Int)(r:Int)(h:strings_IndexByte s c=some r):AN prog 338 [eS s,UD c] (.sh (eI r)):=by
  unfold strings_IndexByte at h;cases h;exact nF (by rfl) ⟨Go.Lib.indexByte_ge _ _,nE _ _⟩ (fun w=>Go.Proofs.Tryz.strings_IndexByte s c w)
instance AAM(s:ByteArray)(c:Int):Ct Go.Proofs.Tryz.prog (strings_IndexByte s c) 338 [eS s,UD c] (fun r=>.sh (eI r)):=⟨uG s c⟩
instance xe(b:List B1)(f:B1->K1)(c:FuncId)(a:Fq)[g:∀(d:B1),Ct prog (f d) c (Eb d::a) (fun r=>.sh (eB r))]:Ct prog (Cr b f) 270 [lN b,.clo c a] (fun r=>.sh (eI r)):=Fj f270 0x9b73d68037018fb1b57281636273d68dde [] [.tmp 4] (h:=fun r h i j=>by
  unfold Cr at h;have:HA 0 8 7 0 fun(e:Int)(_:Unit)=>[(8,.tv (eI e))]:=⟨⟩;exact nz)
instance wV(b:List B1)(f:B1->K1)(c:FuncId)(a:Fq)[e:∀(d:B1),Ct prog (f d) c (Eb d::a) (fun r=>.sh (eB r))]:Ct prog (B7 b f) 196 [lN b,.clo c a] (fun r=>.sh (eB r)):=Fj f196 0xa90e30ea [] [.tmp 4] (h:=fun r h g i=>by
  unfold B7 at h;exact nz)
instance yh(b:List mo)(f:mo->K1)(c:FuncId)(a:Fq)[g:∀(d:mo),Ct prog (f d) c (GN d::a) (fun r=>.sh (eB r))]:Ct prog (DY b f) 330 [lA b,.clo c a] (fun r=>.sh (eI r)):=Fj f330 0x9b73d68037018fb1b57281636273d68dde [] [.tmp 4] (h:=fun r h i j=>by
  unfold DY at h;have:HA 0 8 7 0 fun(e:Int)(_:Unit)=>[(8,.tv (eI e))]:=⟨⟩;exact nz)
instance xf(b:List mo)(f:mo->K1)(c:FuncId)(a:Fq)[e:∀(d:mo),Ct prog (f d) c (GN d::a) (fun r=>.sh (eB r))]:Ct prog (CS b f) 271 [lA b,.clo c a] (fun r=>.sh (eB r)):=Fj f271 0xa90e30ea [] [.tmp 4] (h:=fun r h g i=>by
  unfold CS at h;exact nz)
instance xi(b:List CB)(f:CB->K1)(c:FuncId)(a:Fq)[g:∀(d:CB),Ct prog (f d) c (E6 d::a) (fun r=>.sh (eB r))]:Ct prog (Cq b f) 274 [lX b,.clo c a] (fun r=>.sh (eI r)):=Fj f274 0x9b73d68037018f074407437281636273d68dde [] [.tmp 4] (h:=fun r h i j=>by
  unfold Cq at h;have:HA 0 8 7 0 fun(e:Int)(_:Unit)=>[(8,.tv (eI e))]:=⟨⟩;exact nz)
instance wa(b:List CB)(f:CB->K1)(c:FuncId)(a:Fq)[e:∀(d:CB),Ct prog (f d) c (E6 d::a) (fun r=>.sh (eB r))]:Ct prog (B6 b f) 201 [lX b,.clo c a] (fun r=>.sh (eB r)):=Fj f201 0xa90e30ea [] [.tmp 4] (h:=fun r h g i=>by
  unfold B6 at h;exact nz)
instance wU(b:Fp)(f:Int->K1)(c:FuncId)(a:Fq)[g:∀(d:Int),Ct prog (f d) c (eI d::a) (fun r=>.sh (eB r))]:Ct prog (Ck b f) 193 [lI b,.clo c a] (fun r=>.sh (eI r)):=Fj f193 0x9b73d68037018f5f7281636273d68dde [] [.tmp 4] (h:=fun r h i j=>by
  unfold Ck at h;have:HA 0 8 7 0 fun(e:Int)(_:Unit)=>[(8,.tv (eI e))]:=⟨⟩;exact nz)
instance vL(b:Fp)(f:Int->K1)(c:FuncId)(a:Fq)[e:∀(d:Int),Ct prog (f d) c (eI d::a) (fun r=>.sh (eB r))]:Ct prog (Ak b f) 129 [lI b,.clo c a] (fun r=>.sh (eB r)):=Fj f129 0xa90e30ea [] [.tmp 4] (h:=fun r h g i=>by
  unfold Ak at h;exact nz)
instance xP(b:List Bl)(f:Bl->K1)(c:FuncId)(a:Fq)[g:∀(d:Bl),Ct prog (f d) c (Bs d::a) (fun r=>.sh (eB r))]:Ct prog (DZ b f) 249 [lE b,.clo c a] (fun r=>.sh (eI r)):=Fj f249 0x9b73d68037018fcf437281636273d68dde [] [.tmp 4] (h:=fun r h i j=>by
  unfold DZ at h;have:HA 0 8 7 0 fun(e:Int)(_:Unit)=>[(8,.tv (eI e))]:=⟨⟩;exact nz)
instance vu(b:List Bl)(f:Bl->K1)(c:FuncId)(a:Fq)[e:∀(d:Bl),Ct prog (f d) c (Bs d::a) (fun r=>.sh (eB r))]:Ct prog (BM b f) 167 [lE b,.clo c a] (fun r=>.sh (eB r)):=Fj f167 0xa90e30ea [] [.tmp 4] (h:=fun r h g i=>by
  unfold BM at h;exact nz)
instance xQ(a:List ByteArray):Ct prog (slices_Clone_string a) 250 [lB a] (fun r=>.own (lB r)):=Fj f250 0x8201483047ffda9c3040c4 [] [.tmp 2] (h:=fun r h b c=>by
  unfold slices_Clone_string at h;exact nz)
instance vK(b:Fp)(a:Int):Ct prog (slices_Index_int b a) 128 [lI b,eI a] (fun r=>.sh (eI r)):=Fj f128 0x9b73d6803701855f7281636273d68dde [] [.tmp 4] (h:=fun r h d e=>by
  unfold slices_Index_int at h;have:HA 0 8 7 0 fun(c:Int)(_:Unit)=>[(8,.tv (eI c))]:=⟨⟩;exact nz)
instance c80(a:Fp)(b:Int):Ct prog (slices_Contains_int a b) 80 [lI a,eI b] (fun r=>.sh (eB r)):=Fj f80 0xa90e30ea [] [.tmp 4] (h:=fun r h c d=>by
  unfold slices_Contains_int at h;exact nz)
theorem uF(l r:Fp)(h:slices_Reverse_int l=some r):AN prog 318 [.list 1 (l.map (TV.int .i64))] (.turn r):=by
  unfold slices_Reverse_int at h;split at h
  · rename_i d
    unfold Ad at d;cases h;refine cl (by rfl) List.length_reverse (fun x a=>List.mem_reverse.1 a) (fun w b=>?_) (fun g cap w _ _ j c=>(Go.Proofs.Tryz.slices_Reverse_int g 0 cap l w c (by omega)).mono ?_)
    · subst b
      exact Go.Proofs.Tryz.slices_Reverse_int_empty none 0 w
    · rintro e w' ⟨f,q,i⟩
      exact ⟨f,q,#[],by rw[Go.Sort.grow_empty];exact i⟩
  .cases h
instance AAL(l:Fp):Ct Go.Proofs.Tryz.prog (slices_Reverse_int l) 318 [.list 1 (l.map (TV.int .i64))] An.turn:=⟨uF l⟩
instance xm(b:a6)(a:Bool):Ct prog (IF b a) 277 [(eL 1 eB) b,eB a] (fun r=>.sh (eI r)):=Fj f277 0x9b73d6803701875f7281636273d68dde [] [.tmp 4] (h:=fun r h d e=>by
  unfold IF at h;have:HA 0 8 7 0 fun(c:Int)(_:Unit)=>[(8,.tv (eI c))]:=⟨⟩;exact nz)
instance wm(a:a6)(b:Bool):Ct prog (E2 a b) 210 [(eL 1 eB) a,eB b] (fun r=>.sh (eB r)):=Fj f210 0xa90e30ea [] [.tmp 4] (h:=fun r h c d=>by
  unfold E2 at h;exact nz)
instance yq(b:List CX)(f:CX->K1)(c:FuncId)(a:Fq)[g:∀(d:CX),Ct prog (f d) c (FT d::a) (fun r=>.sh (eB r))]:Ct prog (Da b f) 340 [lS b,.clo c a] (fun r=>.sh (eI r)):=Fj f340 0x9b73d68037018fb1b57281636273d68dde [] [.tmp 4] (h:=fun r h i j=>by
  unfold Da at h;have:HA 0 8 7 0 fun(e:Int)(_:Unit)=>[(8,.tv (eI e))]:=⟨⟩;exact nz)
instance xu(b:List CX)(f:CX->K1)(c:FuncId)(a:Fq)[e:∀(d:CX),Ct prog (f d) c (FT d::a) (fun r=>.sh (eB r))]:Ct prog (CE b f) 280 [lS b,.clo c a] (fun r=>.sh (eB r)):=Fj f280 0xa90e30ea [] [.tmp 4] (h:=fun r h g i=>by
  unfold CE at h;exact nz)
instance c19(a:Fp):Ct prog (slices_Clone_int a) 19 [lI a] (fun r=>.own (lI r)):=Fj f19 0x8201483047ffda9c3040c4 [] [.tmp 2] (h:=fun r h b c=>by
  unfold slices_Clone_int at h;exact nz)
theorem uB(l r:Fp)(h:slices_Sort_int l=some r):AN prog 253 [.list 1 (l.map (TV.int .i64))] (.turn r):=by
  unfold slices_Sort_int at h;rw[<-fg]at h;split at h
  · rename_i e
    unfold Ad at e;cases h;refine cl (by rfl) (List.length_mergeSort _) (fun x a=>List.mem_mergeSort.1 a) (fun w b=>?_) (fun g cap w _ _ c d=>Go.Proofs.Tryz.slices_Sort_int g 0 cap l w d c (by omega));subst b;exact Go.Proofs.Tryz.slices_Sort_int_none none 0 w
  .cases h
instance AAG(l:Fp):Ct Go.Proofs.Tryz.prog (slices_Sort_int l) 253 [.list 1 (l.map (TV.int .i64))] An.turn:=⟨uB l⟩
theorem uC(l r:Fp)(h:slices_Compact_int l=some r):AN prog 254 [.list 1 (l.map (TV.int .i64))] (.cut r):=by
  unfold slices_Compact_int at h;split at h
  · rename_i e
    unfold Ad at e;cases h;have f:=Go.Lib.compact_length_le l;refine my (rest:=List.replicate (l.length-(Go.Lib.compact l).length) 0) (by rfl) (by rw[List.length_replicate];omega) (fun x a=>Yo a) (fun w b=>?_) (fun g cap w c _ i d=>Go.Proofs.Tryz.slices_Compact_int g 0 cap l w d (by omega) c);subst b;exact Go.Proofs.Tryz.slices_Compact_int_empty none 0 w
  .cases h
instance AAH(l:Fp):Ct Go.Proofs.Tryz.prog (slices_Compact_int l) 254 [.list 1 (l.map (TV.int .i64))] An.cut:=⟨uC l⟩
theorem uD(l:Fp)(x:Int)(r:Int×Bool)(h:slices_BinarySearch_int l x=some r):AN prog 283 [lI l,eI x] (.tp [eI (r.1),eB (r.2)]):=by
  unfold slices_BinarySearch_int at h;split at h
  · rename_i d
    cases h;have g:=d.1;unfold Ad at g;refine eC (by rfl) d.1 d.2 (fun a c w i=>?_) (fun b e c w f=>Go.Proofs.Tryz.slices_BinarySearch_int b e l.length c l x w (bk _) (by omega) f (by rw[List.take_length];exact d.2));exact Go.Proofs.Tryz.slices_BinarySearch_int_empty a c x w
  .cases h
instance AAI(l:Fp)(x:Int):Ct Go.Proofs.Tryz.prog (slices_BinarySearch_int l x) 283 [lI l,eI x] (fun r=>.tp [eI (r.1),eB (r.2)]):=⟨uD l x⟩
instance zY(b:List d7)(f:d7->K1)(c:FuncId)(a:Fq)[g:∀(d:d7),Ct prog (f d) c (AK d::a) (fun r=>.sh (eB r))]:Ct prog (Cd b f) 391 [EC b,.clo c a] (fun r=>.sh (eI r)):=Fj f391 0x9b73d68037018fa509437281636273d68dde [] [.tmp 4] (h:=fun r h i j=>by
  unfold Cd at h;have:HA 0 8 7 0 fun(e:Int)(_:Unit)=>[(8,.tv (eI e))]:=⟨⟩;exact nz)
instance yu(b:List d7)(f:d7->K1)(c:FuncId)(a:Fq)[e:∀(d:d7),Ct prog (f d) c (AK d::a) (fun r=>.sh (eB r))]:Ct prog (Bg b f) 345 [EC b,.clo c a] (fun r=>.sh (eB r)):=Fj f345 0xa90e30ea [] [.tmp 4] (h:=fun r h g i=>by
  unfold Bg at h;exact nz)
instance c38(b:Fp)(a:Fp):Ct prog (slices_Equal_int b a) 38 [lI b,lI a] (fun r=>.sh (eB r)):=Fj f38 0x9bc1d6803785b8b8816362c1d68df2d2010bde [] [.tmp 4] (h:=fun r h d e=>by
  unfold slices_Equal_int at h;have:HA 0 13 12 0 fun(c:Int)(_:Unit)=>[(13,.tv (eI c))]:=⟨⟩;exact nz)
theorem uI(a b c:Int)(r:Int×Int)(h:Ha a b c=some r):AN prog 395 [JY a,JY b,JY c] (.ext [JY (r.1),JY (r.2)]):=by
  unfold Ha at h;split at h
  · rename_i d
    cases h;obtain⟨⟨a0,a1⟩,⟨e,g⟩,f,i⟩:=d;intro _;refine⟨⟨rfl,?_⟩,fun w vs hv=>?_⟩
    · simp only[JY,TV.x7,TV.WF,IntKind.min,IntKind.max,IntKind.signed,IntKind.bits,and_true]
      simp only[Bool.false_eq_true,if_false];refine⟨⟨by omega,?_⟩,by omega,?_⟩
      · have:(2:Int)^ 64=18446744073709551616:=by decide
        omega
      · have:(2:Int)^ 64=18446744073709551616:=by decide
        omega
    · obtain⟨x,rfl⟩:=Int.eq_ofNat_of_zero_le a0
      obtain ⟨y,rfl⟩:=Int.eq_ofNat_of_zero_le e;obtain⟨z,rfl⟩:=Int.eq_ofNat_of_zero_le f;have:=Go.Proofs.Any7.bits_Add64 Go.Proofs.Tryz.lays7n25 x y z (by omega) w;obtain⟨l⟩:=vs;simp only[JY,AP,AZ]at hv;obtain⟨j,k,rfl,rfl,m,n,rfl,rfl,o,p,rfl,rfl,rfl⟩:=hv;refine⟨_,this,?_⟩;simp only[JY,AP,AZ];exact⟨_,_,rfl,by simp,_,_,rfl,by simp,rfl⟩
  .cases h
instance AAO(a b c:Int):Ct Go.Proofs.Tryz.prog (Ha a b c) 395 [JY a,JY b,JY c] (fun r=>.ext [JY (r.1),JY (r.2)]):=⟨uI a b c⟩
instance y5(a:Fp):Ct prog (Lq a) 352 [lI a] (fun r=>.sh (eI r)):=Fj f352 0x810131b603048037018530815f3162b603048d8c6301 [] [.tmp 2] (h:=fun r h c d=>by
  unfold Lq at h;have:HA 0 8 7 0 fun(b:Int)(_:Unit)=>[(8,.tv (eI b))]:=⟨⟩;exact nz)
instance zX(a:Int):Ct prog (cmp_isNaN_int a) 390 [eI a] (fun r=>.sh (eB r)):=Fj f390 0xa972c4 [] [.tmp 2] (h:=fun r h b c=>by
  unfold cmp_isNaN_int at h;exact nz)
instance y6(a:Int)(y:Int):Ct prog (cmp_Compare_int a y) 353 [eI a,eI y] (fun r=>.sh (eI r)):=Fj f353 0xc6853037853037c6d08c0e5d0ede [] [.tmp 4] (h:=fun r h b c=>by
  unfold cmp_Compare_int at h;exact nz)
instance zc(a:Int):Ct prog (Iw a) 396 [JY a] (fun r=>.sh (eB r)):=Fj f396 0xa972c4 [] [.tmp 2] (h:=fun r h b c=>by
  unfold Iw at h;exact nz)
instance y7(a:Int)(y:Int):Ct prog (HO a y) 354 [JY a,JY y] (fun r=>.sh (eI r)):=Fj f354 0xc6853037853037c6d08c0e5d0ede [] [.tmp 4] (h:=fun r h b c=>by
  unfold HO at h;exact nz)
instance c87(a:List Bl):Ct prog (DK a) 87 [lE a] (fun r=>.own (lE r)):=Fj f87 0x820348e747ff03c09ce740c4 [] [.tmp 2] (h:=fun r h b c=>by
  unfold DK at h;exact nz)
theorem uE(l:Fp)(m:Int)(r:Fp)(h:D1 l m=some r):AN prog 299 [lI l,eI m] (.own (lI r)):=by
  unfold D1 at h;split at h
  · rename_i a
    cases h;obtain⟨x,rfl⟩:=List.length_eq_one_iff.1 a.1;obtain⟨k,rfl⟩:=Int.eq_ofNat_of_zero_le a.2.1;exact YO x k (by have:=a.2.2;omega)
  .cases h
instance AAJ(l:Fp)(m:Int):Ct Go.Proofs.Tryz.prog (D1 l m) 299 [lI l,eI m] (fun r=>.own (lI r)):=⟨uE l m⟩
theorem um(i:Int)(r:ByteArray)(h:strconv_Itoa i=some r):AN prog 83 [eI i] (.sh (eS r)):=by
  unfold strconv_Itoa at h;split at h
  · rename_i hi
    cases h;obtain⟨k,rfl⟩:=Int.eq_ofNat_of_zero_le hi.1;have a:k<100:=by have:=hi.2;omega
    show AN prog 83 [eI (k:Int)] (.sh (eS (ah k)));refine kI (by rfl) (by have:=ai k;unfold F9;omega) fun w=>?_;have:=Go.Proofs.Tryz.strconv_Itoa_small k a w;rw[fh k a]at this;exact this
  .cases h
instance i83(i:Int):Ct Go.Proofs.Tryz.prog (strconv_Itoa i) 83 [eI i] (fun r=>.sh (eS r)):=⟨um i⟩
instance c12(a:List gp):Ct prog (GJ a) 12 [(eL 25 Bx) a] (fun r=>.own ((eL 25 Bx) r)):=Fj f12 0x821948011947ff19c09c011940c4 [] [.tmp 2] (h:=fun r h b c=>by
  unfold GJ at h;exact nz)
end Go.Sf.Sc
