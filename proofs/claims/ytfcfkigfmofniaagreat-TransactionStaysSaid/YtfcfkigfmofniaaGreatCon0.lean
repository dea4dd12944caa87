/- Contracts of the functions. -/
import Derived.Test.YtfcfkigfmofniaaGreatShort
import Derived.Test.YtfcfkigfmofniaaGreatTw
import Derived.Test.YtfcfkigfmofniaaGreatTryzShelf
set_option linter.all false
set_option maxRecDepth 100000
set_option maxHeartbeats 4000000
namespace Go.Sf.Sc
open Go Go.Sf Go.Proofs.Tryz
instance(a b):CT (slices_Index_string a b) 333 [lB a,eS b] rI:=Bj f333 0xa5b2f99d7d868030819664b2f99f01b7 [] (slices_Index_string.eq_1 ..) (A5 0 8 7 0)
instance(a b):CT (slices_Contains_string a b) 290 [lB a,eS b] rB:=Fe f290 0xc30e30b7 [] (slices_Contains_string.eq_1 ..)
theorem xG(s:ByteArray)(c:Int)(r:Int)(h:strings_IndexByte s c=some r):AX prog 310 [eS s,G9 c] (.sh (eI r)):=by
  unfold strings_IndexByte at h;cases h;exact rJ (by rfl) ⟨Go.Lib.indexByte_ge _ _,rH _ _⟩ (fun w=>Go.Proofs.Tryz.strings_IndexByte s c w)
instance yL(s:ByteArray)(c:Int):Ct Go.Proofs.Tryz.prog (strings_IndexByte s c) 310 [eS s,G9 c] (rS eI):=⟨xG s c⟩
instance xm(b:List BD)(f:BD->K1)(c:FuncId)(a:Fq)[e:∀(d:BD),CT (f d) c (Gn d::a) rB]:CT (Cu b f) 231 [lN b,.zc c a] rI:=Bj f231 0xa5b2f99d7d8faccc30819664b2f99f01b7 [] (Cu.eq_1 ..) (A5 0 8 7 0)
instance xh(b:List BD)(f:BD->K1)(c:FuncId)(a:Fq)[e:∀(d:BD),CT (f d) c (Gn d::a) rB]:CT (B8 b f) 156 [lN b,.zc c a] rB:=Fe f156 0xc30e30b7 [] (B8.eq_1 ..)
instance xw(b:List kq)(f:kq->K1)(c:FuncId)(a:Fq)[e:∀(d:kq),CT (f d) c (IA d::a) rB]:CT (Dd b f) 289 [lA b,.zc c a] rI:=Bj f289 0xa5b2f99d7d8faccc30819664b2f99f01b7 [] (Dd.eq_1 ..) (A5 0 8 7 0)
instance xr(b:List kq)(f:kq->K1)(c:FuncId)(a:Fq)[e:∀(d:kq),CT (f d) c (IA d::a) rB]:CT (CW b f) 232 [lA b,.zc c a] rB:=Fe f232 0xc30e30b7 [] (CW.eq_1 ..)
instance xt(b:List CI)(f:CI->K1)(c:FuncId)(a:Fq)[e:∀(d:CI),CT (f d) c (IB d::a) rB]:CT (Cs b f) 235 [lX b,.zc c a] rI:=Bj f235 0xa5b2f99d7d8f0744077330819664b2f99f01b7 [] (Cs.eq_1 ..) (A5 0 8 7 0)
instance xi(b:List CI)(f:CI->K1)(c:FuncId)(a:Fq)[e:∀(d:CI),CT (f d) c (IB d::a) rB]:CT (B7 b f) 161 [lX b,.zc c a] rB:=Fe f161 0xc30e30b7 [] (B7.eq_1 ..)
instance xj(b:Fp)(f:Int->K1)(c:FuncId)(a:Fq)[e:∀(d:Int),CT (f d) c (eI d::a) rB]:CT (Dv b f) 164 [lI b,.zc c a] rI:=Bj f164 0xa5b2f99d7d8f8030819664b2f99f01b7 [] (Dv.eq_1 ..) (A5 0 8 7 0)
instance xf(b:Fp)(f:Int->K1)(c:FuncId)(a:Fq)[e:∀(d:Int),CT (f d) c (eI d::a) rB]:CT (A0 b f) 100 [lI b,.zc c a] rB:=Fe f100 0xc30e30b7 [] (A0.eq_1 ..)
instance xk(b:List Bn)(f:Bn->K1)(c:FuncId)(a:Fq)[e:∀(d:Bn),CT (f d) c (Bu d::a) rB]:CT (De b f) 165 [lE b,.zc c a] rI:=Bj f165 0xa5b2f99d7d8ff330819664b2f99f01b7 [] (De.eq_1 ..) (A5 0 8 7 0)
instance xg(b:List Bn)(f:Bn->K1)(c:FuncId)(a:Fq)[e:∀(d:Bn),CT (f d) c (Bu d::a) rB]:CT (BP b f) 103 [lE b,.zc c a] rB:=Fe f103 0xc30e30b7 [] (BP.eq_1 ..)
instance(a):CT (slices_Clone_string a) 166 [lB a] (rO lB):=Fe f166 0x8201483047ff01c09c30400001 [] (slices_Clone_string.eq_1 ..)
instance(a b):CT (slices_Index_int a b) 236 [lI a,eI b] rI:=Bj f236 0xa5b2f99d7d858030819664b2f99f01b7 [] (slices_Index_int.eq_1 ..) (A5 0 8 7 0)
instance(a b):CT (slices_Contains_int a b) 168 [lI a,eI b] rB:=Fe f168 0xc30e30b7 [] (slices_Contains_int.eq_1 ..)
theorem xD(l r:Fp)(h:slices_Reverse_int l=some r):AX prog 237 [.list 1 (l.map (TV.int .i64))] (.turn r []):=by
  unfold slices_Reverse_int at h;split at h
  · rename_i d
    unfold AU at d;cases h;refine iB (by rfl) List.length_reverse (fun x a=>List.mem_reverse.1 a) (fun w b=>?_) (fun g cap w _ _ j c=>(Go.Proofs.Tryz.slices_Reverse_int g 0 cap l w c (by omega)).mono ?_)
    · subst b
      exact Go.Proofs.Tryz.slices_Reverse_int_empty none 0 w
    · rintro e w' ⟨f,q,i⟩
      exact ⟨f,q,#[],by rw[Go.Sort.grow_empty];exact i⟩
  .cases h
instance yH(l:Fp):Ct Go.Proofs.Tryz.prog (slices_Reverse_int l) 237 [.list 1 (l.map (TV.int .i64))] (fun r=>.turn r []):=⟨xD l⟩
instance(a b):CT (Iu a b) 266 [(eL 1 eB) a,eB b] rI:=Bj f266 0xa5b2f99d7d878030819664b2f99f01b7 [] (Iu.eq_1 ..) (A5 0 8 7 0)
instance(a b):CT (FD a b) 210 [(eL 1 eB) a,eB b] rB:=Fe f210 0xc30e30b7 [] (FD.eq_1 ..)
instance xy(b:List Bw)(f:Bw->K1)(c:FuncId)(a:Fq)[e:∀(d:Bw),CT (f d) c (F3 d::a) rB]:CT (Df b f) 312 [lS b,.zc c a] rI:=Bj f312 0xa5b2f99d7d8faccc30819664b2f99f01b7 [] (Df.eq_1 ..) (A5 0 8 7 0)
instance xu(b:List Bw)(f:Bw->K1)(c:FuncId)(a:Fq)[e:∀(d:Bw),CT (f d) c (F3 d::a) rB]:CT (CE b f) 269 [lS b,.zc c a] rB:=Fe f269 0xc30e30b7 [] (CE.eq_1 ..)
instance(a):CT (slices_Clone_int a) 46 [lI a] (rO lI):=Fe f46 0x8201483047ff01c09c30400001 [] (slices_Clone_int.eq_1 ..)
theorem xE(l:Fp)(x:Int)(r:Int×Bool)(h:slices_BinarySearch_int l x=some r):AX prog 272 [lI l,eI x] (.tp [eI (r.1),eB (r.2)]):=by
  unfold slices_BinarySearch_int at h;split at h
  · rename_i d
    cases h;have g:=d.1;unfold AU at g;refine jQ (by rfl) d.1 d.2 (fun a c w i=>?_) (fun b e c w f=>Go.Proofs.Tryz.slices_BinarySearch_int b e l.length c l x w (b6 _) (by omega) f (by rw[List.take_length];exact d.2));exact Go.Proofs.Tryz.slices_BinarySearch_int_empty a c x w
  .cases h
instance yI(l:Fp)(x:Int):Ct Go.Proofs.Tryz.prog (slices_BinarySearch_int l x) 272 [lI l,eI x] (fun r=>.tp [eI (r.1),eB (r.2)]):=⟨xE l x⟩
theorem xH(l r:Fp)(h:slices_Sort_int l=some r):AX prog 316 [.list 1 (l.map (TV.int .i64))] (.turn r []):=by
  unfold slices_Sort_int at h;rw[<-ki]at h;split at h
  · rename_i e
    unfold AU at e;cases h;refine iB (by rfl) (List.length_mergeSort _) (fun x a=>List.mem_mergeSort.1 a) (fun w b=>?_) (fun g cap w _ _ c d=>Go.Proofs.Tryz.slices_Sort_int g 0 cap l w d c (by omega));subst b;exact Go.Proofs.Tryz.slices_Sort_int_none none 0 w
  .cases h
instance yM(l:Fp):Ct Go.Proofs.Tryz.prog (slices_Sort_int l) 316 [.list 1 (l.map (TV.int .i64))] (fun r=>.turn r []):=⟨xH l⟩
theorem xI(l r:Fp)(h:slices_Compact_int l=some r):AX prog 317 [.list 1 (l.map (TV.int .i64))] (.cut r):=by
  unfold slices_Compact_int at h;split at h
  · rename_i e
    unfold AU at e;cases h;have f:=Go.Lib.compact_length_le l;refine qw (rest:=List.replicate (l.length-(Go.Lib.compact l).length) 0) (by rfl) (by rw[List.length_replicate];omega) (fun x a=>bi a) (fun w b=>?_) (fun g cap w c _ i d=>Go.Proofs.Tryz.slices_Compact_int g 0 cap l w d (by omega) c);subst b;exact Go.Proofs.Tryz.slices_Compact_int_empty none 0 w
  .cases h
instance yN(l:Fp):Ct Go.Proofs.Tryz.prog (slices_Compact_int l) 317 [.list 1 (l.map (TV.int .i64))] Al.cut:=⟨xI l⟩
instance yB(b:List d5)(f:d5->K1)(c:FuncId)(a:Fq)[e:∀(d:d5),CT (f d) c (AI d::a) rB]:CT (Ck b f) 351 [Er b,.zc c a] rI:=Bj f351 0xa5b2f99d7d8fb1097330819664b2f99f01b7 [] (Ck.eq_1 ..) (A5 0 8 7 0)
instance xz(b:List d5)(f:d5->K1)(c:FuncId)(a:Fq)[e:∀(d:d5),CT (f d) c (AI d::a) rB]:CT (Bq b f) 319 [Er b,.zc c a] rB:=Fe f319 0xc30e30b7 [] (Bq.eq_1 ..)
instance(a b):CT (slices_Equal_int a b) 18 [lI a,lI b] rB:=Bj f18 0xa5d2f99dbcdede819664d2f99f01bc0b010b01b7 [] (slices_Equal_int.eq_1 ..) (A5 0 13 12 0)
theorem xK(a b c:Int)(r:Int×Int)(h:IG a b c=some r):AX prog 388 [IZ a,IZ b,IZ c] (.ext [IZ (r.1),IZ (r.2)]):=by
  unfold IG at h;split at h
  · rename_i d
    cases h;obtain⟨⟨a0,a1⟩,⟨e,g⟩,f,i⟩:=d;intro _;refine⟨⟨rfl,?_⟩,fun w vs hv=>?_⟩
    · simp only[IZ,TV.tg,TV.WF,IntKind.min,IntKind.max,IntKind.signed,IntKind.bits,and_true]
      simp only[Bool.false_eq_true,if_false];refine⟨⟨by omega,?_⟩,by omega,?_⟩
      · have:(2:Int)^ 64=18446744073709551616:=by decide
        omega
      · have:(2:Int)^ 64=18446744073709551616:=by decide
        omega
    · obtain⟨x,rfl⟩:=Int.eq_ofNat_of_zero_le a0
      obtain ⟨y,rfl⟩:=Int.eq_ofNat_of_zero_le e;obtain⟨z,rfl⟩:=Int.eq_ofNat_of_zero_le f;have:=Go.Proofs.Any7.bits_Add64 Go.Proofs.Tryz.lays7n25 x y z (by omega) w;obtain⟨l⟩:=vs;simp only[IZ,AP,Af]at hv;obtain⟨j,k,rfl,rfl,m,n,rfl,rfl,o,p,rfl,rfl,rfl⟩:=hv;refine⟨_,this,?_⟩;simp only[IZ,AP,Af];exact⟨_,_,rfl,by simp,_,_,rfl,by simp,rfl⟩
  .cases h
instance yP(a b c:Int):Ct Go.Proofs.Tryz.prog (IG a b c) 388 [IZ a,IZ b,IZ c] (fun r=>.ext [IZ (r.1),IZ (r.2)]):=⟨xK a b c⟩
instance(a):CT (NS a) 378 [lI a] rI:=Bj f378 0xb836b3a19d7d853081603664b3a19f849601 [] (NS.eq_1 ..) (A5 0 8 7 0)
instance(a):CT (cmp_isNaN_int a) 348 [eI a] rB:=Fe f348 0x81588c01 [] (cmp_isNaN_int.eq_1 ..)
instance(a b):CT (cmp_Compare_int a b) 379 [eI a,eI b] rI:=Fe f379 0x81bc30bc30dc55dc840e610e01b7 [] (cmp_Compare_int.eq_1 ..)
instance(a):CT (Jc a) 389 [IZ a] rB:=Fe f389 0x81588c01 [] (Jc.eq_1 ..)
instance(a b):CT (H7 a b) 380 [IZ a,IZ b] rI:=Fe f380 0x81bc30bc30dc55dc840e610e01b7 [] (H7.eq_1 ..)
instance(a):CT (Cd a) 47 [lE a] (rO lE):=Fe f47 0x820348010347ff03c09c0103400001 [] (Cd.eq_1 ..)
theorem xF(l:Fp)(m:Int)(r:Fp)(h:D8 l m=some r):AX prog 286 [lI l,eI m] (.own (lI r)):=by
  unfold D8 at h;split at h
  · rename_i a
    cases h;obtain⟨x,rfl⟩:=List.length_eq_one_iff.1 a.1;obtain⟨k,rfl⟩:=Int.eq_ofNat_of_zero_le a.2.1;exact bE x k (by have:=a.2.2;omega)
  .cases h
instance yJ(l:Fp)(m:Int):Ct Go.Proofs.Tryz.prog (D8 l m) 286 [lI l,eI m] (rO lI):=⟨xF l m⟩
end Go.Sf.Sc
