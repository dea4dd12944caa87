/- Contracts of the functions. -/
import Derived.Test.YtbgedoajacpdbaaGreatDoorShort
import Derived.Test.YtbgedoajacpdbaaGreatDoorFo
import Derived.Test.YtbgedoajacpdbaaGreatDoorTryzShelf
set_option linter.all false
set_option maxRecDepth 100000
set_option maxHeartbeats 4000000
namespace Go.Sf.Sc
open Go Go.Sf Go.Proofs.Tryz
instance zY(a:List ByteArray)(b:ByteArray):Ct prog (slices_Index_string a b) 385 [lB a,eS b] (fun r=>.sh (eI r)):=Fj f385 0x9a73d7db01865f7281636273d78ddd [] [.tmp 4] (h:=fun r h d e=>by
  unfold slices_Index_string at h;have:HA 0 8 7 0 fun(c:Int)(_:Unit)=>[(8,.tv (eI c))]:=⟨⟩;exact nz)
instance yn(b:List ByteArray)(a:ByteArray):Ct prog (slices_Contains_string b a) 331 [lB b,eS a] (fun r=>.sh (eB r)):=Fj f331 0xa80e30e4 [] [.tmp 4] (h:=fun r h c d=>by
  unfold slices_Contains_string at h;exact nz)
theorem uG(s:ByteArray)(c:Int)(r:Int)(h:strings_IndexByte s c=some r):AN prog 338 [eS s,UD c] (.sh (eI r)):=by
  unfold strings_IndexByte at h;cases h;exact nC (by rfl) ⟨Go.Lib.indexByte_ge _ _,nB _ _⟩ (fun w=>Go.Proofs.Tryz.strings_IndexByte s c w)
instance AAR(s:ByteArray)(c:Int):Ct Go.Proofs.Tryz.prog (strings_IndexByte s c) 338 [eS s,UD c] (fun r=>.sh (eI r)):=⟨uG s c⟩
instance xi(b:List B0)(f:B0->K1)(a:FuncId)(c:Fq)[g:∀(d:B0),Ct prog (f d) a (Eb d::c) (fun r=>.sh (eB r))]:Ct prog (Cm b f) 270 [lN b,.clo a c] (fun r=>.sh (eI r)):=Fj f270 0x9a73d7db018fc5b37281636273d78ddd [] [.tmp 4] (h:=fun r h i j=>by
  unfold Cm at h;have:HA 0 8 7 0 fun(e:Int)(_:Unit)=>[(8,.tv (eI e))]:=⟨⟩;exact nz)
instance wY(b:List B0)(f:B0->K1)(a:FuncId)(c:Fq)[e:∀(d:B0),Ct prog (f d) a (Eb d::c) (fun r=>.sh (eB r))]:Ct prog (B5 b f) 196 [lN b,.clo a c] (fun r=>.sh (eB r)):=Fj f196 0xa80e30e4 [] [.tmp 4] (h:=fun r h g i=>by
  unfold B5 at h;exact nz)
instance ym(b:List kl)(f:kl->K1)(a:FuncId)(c:Fq)[g:∀(d:kl),Ct prog (f d) a (GK d::c) (fun r=>.sh (eB r))]:Ct prog (DZ b f) 330 [lA b,.clo a c] (fun r=>.sh (eI r)):=Fj f330 0x9a73d7db018fc5b37281636273d78ddd [] [.tmp 4] (h:=fun r h i j=>by
  unfold DZ at h;have:HA 0 8 7 0 fun(e:Int)(_:Unit)=>[(8,.tv (eI e))]:=⟨⟩;exact nz)
instance xj(b:List kl)(f:kl->K1)(a:FuncId)(c:Fq)[e:∀(d:kl),Ct prog (f d) a (GK d::c) (fun r=>.sh (eB r))]:Ct prog (CP b f) 271 [lA b,.clo a c] (fun r=>.sh (eB r)):=Fj f271 0xa80e30e4 [] [.tmp 4] (h:=fun r h g i=>by
  unfold CP at h;exact nz)
instance xr(b:List B9)(f:B9->K1)(a:FuncId)(c:Fq)[g:∀(d:B9),Ct prog (f d) a (FC d::c) (fun r=>.sh (eB r))]:Ct prog (Cl b f) 274 [lX b,.clo a c] (fun r=>.sh (eI r)):=Fj f274 0x9a73d7db018f074407437281636273d78ddd [] [.tmp 4] (h:=fun r h i j=>by
  unfold Cl at h;have:HA 0 8 7 0 fun(e:Int)(_:Unit)=>[(8,.tv (eI e))]:=⟨⟩;exact nz)
instance wd(b:List B9)(f:B9->K1)(a:FuncId)(c:Fq)[e:∀(d:B9),Ct prog (f d) a (FC d::c) (fun r=>.sh (eB r))]:Ct prog (B4 b f) 201 [lX b,.clo a c] (fun r=>.sh (eB r)):=Fj f201 0xa80e30e4 [] [.tmp 4] (h:=fun r h g i=>by
  unfold B4 at h;exact nz)
instance wX(b:Fp)(f:Int->K1)(a:FuncId)(c:Fq)[g:∀(d:Int),Ct prog (f d) a (eI d::c) (fun r=>.sh (eB r))]:Ct prog (Ch b f) 193 [lI b,.clo a c] (fun r=>.sh (eI r)):=Fj f193 0x9a73d7db018f5f7281636273d78ddd [] [.tmp 4] (h:=fun r h i j=>by
  unfold Ch at h;have:HA 0 8 7 0 fun(e:Int)(_:Unit)=>[(8,.tv (eI e))]:=⟨⟩;exact nz)
instance vN(b:Fp)(f:Int->K1)(a:FuncId)(c:Fq)[e:∀(d:Int),Ct prog (f d) a (eI d::c) (fun r=>.sh (eB r))]:Ct prog (Al b f) 129 [lI b,.clo a c] (fun r=>.sh (eB r)):=Fj f129 0xa80e30e4 [] [.tmp 4] (h:=fun r h g i=>by
  unfold Al at h;exact nz)
instance xT(b:List Bj)(f:Bj->K1)(a:FuncId)(c:Fq)[g:∀(d:Bj),Ct prog (f d) a (Bs d::c) (fun r=>.sh (eB r))]:Ct prog (Da b f) 249 [lE b,.clo a c] (fun r=>.sh (eI r)):=Fj f249 0x9a73d7db018fc8437281636273d78ddd [] [.tmp 4] (h:=fun r h i j=>by
  unfold Da at h;have:HA 0 8 7 0 fun(e:Int)(_:Unit)=>[(8,.tv (eI e))]:=⟨⟩;exact nz)
instance v7(b:List Bj)(f:Bj->K1)(a:FuncId)(c:Fq)[e:∀(d:Bj),Ct prog (f d) a (Bs d::c) (fun r=>.sh (eB r))]:Ct prog (BL b f) 167 [lE b,.clo a c] (fun r=>.sh (eB r)):=Fj f167 0xa80e30e4 [] [.tmp 4] (h:=fun r h g i=>by
  unfold BL at h;exact nz)
instance xU(a:List ByteArray):Ct prog (slices_Clone_string a) 250 [lB a] (fun r=>.own (lB r)):=Fj f250 0x8201483047fff79c3040ca [] [.tmp 2] (h:=fun r h b c=>by
  unfold slices_Clone_string at h;exact nz)
instance vM(a:Fp)(b:Int):Ct prog (slices_Index_int a b) 128 [lI a,eI b] (fun r=>.sh (eI r)):=Fj f128 0x9a73d7db01855f7281636273d78ddd [] [.tmp 4] (h:=fun r h d e=>by
  unfold slices_Index_int at h;have:HA 0 8 7 0 fun(c:Int)(_:Unit)=>[(8,.tv (eI c))]:=⟨⟩;exact nz)
instance c80(b:Fp)(a:Int):Ct prog (slices_Contains_int b a) 80 [lI b,eI a] (fun r=>.sh (eB r)):=Fj f80 0xa80e30e4 [] [.tmp 4] (h:=fun r h c d=>by
  unfold slices_Contains_int at h;exact nz)
theorem uF(l r:Fp)(h:slices_Reverse_int l=some r):AN prog 318 [.list 1 (l.map (TV.int .i64))] (.turn r):=by
  unfold slices_Reverse_int at h;split at h
  · rename_i d
    unfold Ae at d;cases h;refine cd (by rfl) List.length_reverse (fun x a=>List.mem_reverse.1 a) (fun w b=>?_) (fun g cap w _ _ j c=>(Go.Proofs.Tryz.slices_Reverse_int g 0 cap l w c (by omega)).mono ?_)
    · subst b
      exact Go.Proofs.Tryz.slices_Reverse_int_empty none 0 w
    · rintro e w' ⟨f,q,i⟩
      exact ⟨f,q,#[],by rw[Go.Sort.grow_empty];exact i⟩
  .cases h
instance AAQ(l:Fp):Ct Go.Proofs.Tryz.prog (slices_Reverse_int l) 318 [.list 1 (l.map (TV.int .i64))] Aq.turn:=⟨uF l⟩
instance xw(a:a6)(b:Bool):Ct prog (ID a b) 277 [(eL 1 eB) a,eB b] (fun r=>.sh (eI r)):=Fj f277 0x9a73d7db01875f7281636273d78ddd [] [.tmp 4] (h:=fun r h d e=>by
  unfold ID at h;have:HA 0 8 7 0 fun(c:Int)(_:Unit)=>[(8,.tv (eI c))]:=⟨⟩;exact nz)
instance wq(b:a6)(a:Bool):Ct prog (E6 b a) 210 [(eL 1 eB) b,eB a] (fun r=>.sh (eB r)):=Fj f210 0xa80e30e4 [] [.tmp 4] (h:=fun r h c d=>by
  unfold E6 at h;exact nz)
instance yw(b:List CT)(f:CT->K1)(a:FuncId)(c:Fq)[g:∀(d:CT),Ct prog (f d) a (FZ d::c) (fun r=>.sh (eB r))]:Ct prog (Db b f) 340 [lS b,.clo a c] (fun r=>.sh (eI r)):=Fj f340 0x9a73d7db018fc5b37281636273d78ddd [] [.tmp 4] (h:=fun r h i j=>by
  unfold Db at h;have:HA 0 8 7 0 fun(e:Int)(_:Unit)=>[(8,.tv (eI e))]:=⟨⟩;exact nz)
instance xz(b:List CT)(f:CT->K1)(a:FuncId)(c:Fq)[e:∀(d:CT),Ct prog (f d) a (FZ d::c) (fun r=>.sh (eB r))]:Ct prog (CC b f) 280 [lS b,.clo a c] (fun r=>.sh (eB r)):=Fj f280 0xa80e30e4 [] [.tmp 4] (h:=fun r h g i=>by
  unfold CC at h;exact nz)
instance c19(a:Fp):Ct prog (slices_Clone_int a) 19 [lI a] (fun r=>.own (lI r)):=Fj f19 0x8201483047fff79c3040ca [] [.tmp 2] (h:=fun r h b c=>by
  unfold slices_Clone_int at h;exact nz)
theorem uB(l r:Fp)(h:slices_Sort_int l=some r):AN prog 253 [.list 1 (l.map (TV.int .i64))] (.turn r):=by
  unfold slices_Sort_int at h;rw[<-fU]at h;split at h
  · rename_i e
    unfold Ae at e;cases h;refine cd (by rfl) (List.length_mergeSort _) (fun x a=>List.mem_mergeSort.1 a) (fun w b=>?_) (fun g cap w _ _ c d=>Go.Proofs.Tryz.slices_Sort_int g 0 cap l w d c (by omega));subst b;exact Go.Proofs.Tryz.slices_Sort_int_none none 0 w
  .cases h
instance AAL(l:Fp):Ct Go.Proofs.Tryz.prog (slices_Sort_int l) 253 [.list 1 (l.map (TV.int .i64))] Aq.turn:=⟨uB l⟩
theorem uC(l r:Fp)(h:slices_Compact_int l=some r):AN prog 254 [.list 1 (l.map (TV.int .i64))] (.cut r):=by
  unfold slices_Compact_int at h;split at h
  · rename_i e
    unfold Ae at e;cases h;have f:=Go.Lib.compact_length_le l;refine mt (rest:=List.replicate (l.length-(Go.Lib.compact l).length) 0) (by rfl) (by rw[List.length_replicate];omega) (fun x a=>Yn a) (fun w b=>?_) (fun g cap w c _ i d=>Go.Proofs.Tryz.slices_Compact_int g 0 cap l w d (by omega) c);subst b;exact Go.Proofs.Tryz.slices_Compact_int_empty none 0 w
  .cases h
instance AAM(l:Fp):Ct Go.Proofs.Tryz.prog (slices_Compact_int l) 254 [.list 1 (l.map (TV.int .i64))] Aq.cut:=⟨uC l⟩
theorem uD(l:Fp)(x:Int)(r:Int×Bool)(h:slices_BinarySearch_int l x=some r):AN prog 283 [lI l,eI x] (.tp [eI (r.1),eB (r.2)]):=by
  unfold slices_BinarySearch_int at h;split at h
  · rename_i d
    cases h;have g:=d.1;unfold Ae at g;refine dm (by rfl) d.1 d.2 (fun a c w i=>?_) (fun b e c w f=>Go.Proofs.Tryz.slices_BinarySearch_int b e l.length c l x w (bk _) (by omega) f (by rw[List.take_length];exact d.2));exact Go.Proofs.Tryz.slices_BinarySearch_int_empty a c x w
  .cases h
instance AAN(l:Fp)(x:Int):Ct Go.Proofs.Tryz.prog (slices_BinarySearch_int l x) 283 [lI l,eI x] (fun r=>.tp [eI (r.1),eB (r.2)]):=⟨uD l x⟩
instance ze(b:List d7)(f:d7->K1)(a:FuncId)(c:Fq)[g:∀(d:d7),Ct prog (f d) a (AK d::c) (fun r=>.sh (eB r))]:Ct prog (Ca b f) 391 [EC b,.clo a c] (fun r=>.sh (eI r)):=Fj f391 0x9a73d7db018fa509437281636273d78ddd [] [.tmp 4] (h:=fun r h i j=>by
  unfold Ca at h;have:HA 0 8 7 0 fun(e:Int)(_:Unit)=>[(8,.tv (eI e))]:=⟨⟩;exact nz)
instance yz(b:List d7)(f:d7->K1)(a:FuncId)(c:Fq)[e:∀(d:d7),Ct prog (f d) a (AK d::c) (fun r=>.sh (eB r))]:Ct prog (Bh b f) 345 [EC b,.clo a c] (fun r=>.sh (eB r)):=Fj f345 0xa80e30e4 [] [.tmp 4] (h:=fun r h g i=>by
  unfold Bh at h;exact nz)
instance c38(a:Fp)(b:Fp):Ct prog (slices_Equal_int a b) 38 [lI a,lI b] (fun r=>.sh (eB r)):=Fj f38 0x9acfd7db85b6b6816362cfd78dd0d2010bdd [] [.tmp 4] (h:=fun r h d e=>by
  unfold slices_Equal_int at h;have:HA 0 13 12 0 fun(c:Int)(_:Unit)=>[(13,.tv (eI c))]:=⟨⟩;exact nz)
theorem uI(a b c:Int)(r:Int×Int)(h:Hf a b c=some r):AN prog 395 [JY a,JY b,JY c] (.ext [JY (r.1),JY (r.2)]):=by
  unfold Hf at h;split at h
  · rename_i d
    cases h;obtain⟨⟨a0,a1⟩,⟨e,g⟩,f,i⟩:=d;intro _;refine⟨⟨rfl,?_⟩,fun w vs hv=>?_⟩
    · simp only[JY,TV.x6,TV.WF,IntKind.min,IntKind.max,IntKind.signed,IntKind.bits,and_true]
      simp only[Bool.false_eq_true,if_false];refine⟨⟨by omega,?_⟩,by omega,?_⟩
      · have:(2:Int)^ 64=18446744073709551616:=by decide
        omega
      · have:(2:Int)^ 64=18446744073709551616:=by decide
        omega
    · obtain⟨x,rfl⟩:=Int.eq_ofNat_of_zero_le a0
      obtain ⟨y,rfl⟩:=Int.eq_ofNat_of_zero_le e;obtain⟨z,rfl⟩:=Int.eq_ofNat_of_zero_le f;have:=Go.Proofs.Any7.bits_Add64 Go.Proofs.Tryz.lays7n25 x y z (by omega) w;obtain⟨l⟩:=vs;simp only[JY,AO,AY]at hv;obtain⟨j,k,rfl,rfl,m,n,rfl,rfl,o,p,rfl,rfl,rfl⟩:=hv;refine⟨_,this,?_⟩;simp only[JY,AO,AY];exact⟨_,_,rfl,by simp,_,_,rfl,by simp,rfl⟩
  .cases h
instance AAT(a b c:Int):Ct Go.Proofs.Tryz.prog (Hf a b c) 395 [JY a,JY b,JY c] (fun r=>.ext [JY (r.1),JY (r.2)]):=⟨uI a b c⟩
instance zA(a:Fp):Ct prog (Lw a) 352 [lI a] (fun r=>.sh (eI r)):=Fj f352 0xdc31b50304db018530815f3162b503048d8c6301 [] [.tmp 2] (h:=fun r h c d=>by
  unfold Lw at h;have:HA 0 8 7 0 fun(b:Int)(_:Unit)=>[(8,.tv (eI b))]:=⟨⟩;exact nz)
instance zc(a:Int):Ct prog (cmp_isNaN_int a) 390 [eI a] (fun r=>.sh (eB r)):=Fj f390 0xa872ca [] [.tmp 2] (h:=fun r h b c=>by
  unfold cmp_isNaN_int at h;exact nz)
instance zB(a:Int)(y:Int):Ct prog (cmp_Compare_int a y) 353 [eI a,eI y] (fun r=>.sh (eI r)):=Fj f353 0xc3853037853037c3f98c0e5d0edd [] [.tmp 4] (h:=fun r h b c=>by
  unfold cmp_Compare_int at h;exact nz)
instance zi(a:Int):Ct prog (It a) 396 [JY a] (fun r=>.sh (eB r)):=Fj f396 0xa872ca [] [.tmp 2] (h:=fun r h b c=>by
  unfold It at h;exact nz)
instance zC(a:Int)(y:Int):Ct prog (HT a y) 354 [JY a,JY y] (fun r=>.sh (eI r)):=Fj f354 0xc3853037853037c3f98c0e5d0edd [] [.tmp 4] (h:=fun r h b c=>by
  unfold HT at h;exact nz)
instance c87(a:List Bj):Ct prog (DJ a) 87 [lE a] (fun r=>.own (lE r)):=Fj f87 0x820348e147ff03c09ce140ca [] [.tmp 2] (h:=fun r h b c=>by
  unfold DJ at h;exact nz)
theorem uE(l:Fp)(m:Int)(r:Fp)(h:Dz l m=some r):AN prog 299 [lI l,eI m] (.own (lI r)):=by
  unfold Dz at h;split at h
  · rename_i a
    cases h;obtain⟨x,rfl⟩:=List.length_eq_one_iff.1 a.1;obtain⟨k,rfl⟩:=Int.eq_ofNat_of_zero_le a.2.1;exact YM x k (by have:=a.2.2;omega)
  .cases h
instance AAO(l:Fp)(m:Int):Ct Go.Proofs.Tryz.prog (Dz l m) 299 [lI l,eI m] (fun r=>.own (lI r)):=⟨uE l m⟩
theorem um(i:Int)(r:ByteArray)(h:strconv_Itoa i=some r):AN prog 83 [eI i] (.sh (eS r)):=by
  unfold strconv_Itoa at h;split at h
  · rename_i hi
    cases h;obtain⟨k,rfl⟩:=Int.eq_ofNat_of_zero_le hi.1;have a:k<100:=by have:=hi.2;omega
    show AN prog 83 [eI (k:Int)] (.sh (eS (aZ k)));refine kG (by rfl) (by have:=aa k;unfold F9;omega) fun w=>?_;have:=Go.Proofs.Tryz.strconv_Itoa_small k a w;rw[fV k a]at this;exact this
  .cases h
instance i83(i:Int):Ct Go.Proofs.Tryz.prog (strconv_Itoa i) 83 [eI i] (fun r=>.sh (eS r)):=⟨um i⟩
instance c12(a:List gt):Ct prog (GH a) 12 [(eL 25 B1) a] (fun r=>.own ((eL 25 B1) r)):=Fj f12 0x821948011947ff19c09c011940ca [] [.tmp 2] (h:=fun r h b c=>by
  unfold GH at h;exact nz)
end Go.Sf.Sc
