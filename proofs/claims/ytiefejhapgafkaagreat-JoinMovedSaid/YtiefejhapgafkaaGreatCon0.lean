/- Contracts of the functions. -/
import Derived.Test.YtiefejhapgafkaaGreatShort
import Derived.Test.YtiefejhapgafkaaGreatTw
set_option linter.all false
set_option maxRecDepth 100000
set_option maxHeartbeats 4000000
open Option renaming some->Y,none->W
open Int renaming eq_ofNat_of_zero_le->x!
namespace Go.Sf.Sc
open Go Go.Sf Go.Proofs.Tryz
instance(a b):CT (slices_Equal_int a b) 20 [lI a,lI b] rB:=B3 f20 0xacc8b3ec85f7f7816b65c8b3970159d1010b01ba [] (slices_Equal_int.eq_1 ..) (BN 0 13 12 0)
instance(a b):CT (Gd a b) 67 [lE a,lE b] rB:=B3 f67 0xacc8b3ecbfd6bcd6bc816b65c8b3970159d1010b01ba [.bin (.a [0,0,0]) .neq (.s 19) (.s 23)] (Gd.eq_1 ..) (BN 0 13 12 0)
instance c68(d:List Fp)(c:List Fp)(e:Fp->Fp->K1)(a:FuncId)(b:Fq)[h:∀(g:Fp)(f:Fp),CT (e g f) a (lI g::lI f::b) rB]:CT (DR d c e) 68 [(eL 1 lI) d,(eL 1 lI) c,.clo a b] rB:=B3 f68 0xac11100f025aec880f013682f78281616b6511100f025a97dfd1010b3602dd [] (DR.eq_1 ..) (BN 0 17 16 0)
instance(a b):CT (slices_Index_string a b) 386 [lB a,eS b] rI:=B3 f386 0xac7cb3ec01868c36816b657cb39701ba [] (slices_Index_string.eq_1 ..) (BN 0 8 7 0)
instance(a b):CT (slices_Contains_string a b) 362 [lB a,eS b] rB:=Fe f362 0xd70e36ba [] (slices_Contains_string.eq_1 ..)
theorem ACX(s:ByteArray)(c:Int)(r:Int)(h:strings_IndexByte s c=Y r):AV prog 369 [eS s,Eu c] (.sh (eI r)):=by
  unfold strings_IndexByte at h;cases h;exact xZ t_ ⟨Go.Lib.indexByte_ge _ _,xY _ _⟩ (λw=>Go.Proofs.Tryz.strings_IndexByte s c w)
instance ADU(s:ByteArray)(c:Int):Ct Go.Proofs.Tryz.prog (strings_IndexByte s c) 369 [eS s,Eu c] (rS eI):=⟨ACX s c⟩
instance AC9(a:List Be)(f:Be->K1)(c:FuncId)(b:Fq)[e:∀(d:Be),CT (f d) c (IX d::b) rB]:CT (Db a f) 330 [lN a,.clo c b] rI:=B3 f330 0xac7cb3ec018fd9de36816b657cb39701ba [] (Db.eq_1 ..) (BN 0 8 7 0)
instance AC4(a:List Be)(f:Be->K1)(c:FuncId)(b:Fq)[e:∀(d:Be),CT (f d) c (IX d::b) rB]:CT (Ck a f) 270 [lN a,.clo c b] rB:=Fe f270 0xd70e36ba [] (Ck.eq_1 ..)
instance ADD(a:List ke)(f:ke->K1)(c:FuncId)(b:Fq)[e:∀(d:ke),CT (f d) c (Jh d::b) rB]:CT (EU a f) 361 [lA a,.clo c b] rI:=B3 f361 0xac7cb3ec018fd9de36816b657cb39701ba [] (EU.eq_1 ..) (BN 0 8 7 0)
instance ADA(a:List ke)(f:ke->K1)(c:FuncId)(b:Fq)[e:∀(d:ke),CT (f d) c (Jh d::b) rB]:CT (C9 a f) 331 [lA a,.clo c b] rB:=Fe f331 0xd70e36ba [] (C9.eq_1 ..)
instance ADB(a:List Cy)(f:Cy->K1)(c:FuncId)(b:Fq)[e:∀(d:Cy),CT (f d) c (Ji d::b) rB]:CT (Da a f) 334 [lX a,.clo c b] rI:=B3 f334 0xac7cb3ec018f0744077e36816b657cb39701ba [] (Da.eq_1 ..) (BN 0 8 7 0)
instance AC5(a:List Cy)(f:Cy->K1)(c:FuncId)(b:Fq)[e:∀(d:Cy),CT (f d) c (Ji d::b) rB]:CT (Cj a f) 275 [lX a,.clo c b] rB:=Fe f275 0xd70e36ba [] (Cj.eq_1 ..)
instance AC1(a:Fp)(f:Int->K1)(c:FuncId)(b:Fq)[e:∀(d:Int),CT (f d) c (eI d::b) rB]:CT (Es a f) 129 [lI a,.clo c b] rI:=B3 f129 0xac7cb3ec018f8c36816b657cb39701ba [] (Es.eq_1 ..) (BN 0 8 7 0)
instance c73(a:Fp)(f:Int->K1)(c:FuncId)(b:Fq)[e:∀(d:Int),CT (f d) c (eI d::b) rB]:CT (BG a f) 73 [lI a,.clo c b] rB:=Fe f73 0xd70e36ba [] (BG.eq_1 ..)
instance AC7(a:List B0)(f:B0->K1)(c:FuncId)(b:Fq)[e:∀(d:B0),CT (f d) c (CB d::b) rB]:CT (EW a f) 301 [lE a,.clo c b] rI:=B3 f301 0xac7cb3ec018fd67e36816b657cb39701ba [] (EW.eq_1 ..) (BN 0 8 7 0)
instance AC3(a:List B0)(f:B0->K1)(c:FuncId)(b:Fq)[e:∀(d:B0),CT (f d) c (CB d::b) rB]:CT (Bs a f) 233 [lE a,.clo c b] rB:=Fe f233 0xd70e36ba [] (Bs.eq_1 ..)
instance(a):CT (slices_Clone_string a) 329 [lB a] (rO lB):=Fe f329 0x8201483647ff01c09c36400001 [] (slices_Clone_string.eq_1 ..)
instance(a b):CT (Kc a b) 337 [(eL 1 eB) a,eB b] rI:=B3 f337 0xac7cb3ec01878c36816b657cb39701ba [] (Kc.eq_1 ..) (BN 0 8 7 0)
instance(a b):CT (GX a b) 284 [(eL 1 eB) a,eB b] rB:=Fe f284 0xd70e36ba [] (GX.eq_1 ..)
instance ADF(a:List CF)(f:CF->K1)(c:FuncId)(b:Fq)[e:∀(d:CF),CT (f d) c (FQ d::b) rB]:CT (EX a f) 371 [lS a,.clo c b] rI:=B3 f371 0xac7cb3ec018fd9de36816b657cb39701ba [] (EX.eq_1 ..) (BN 0 8 7 0)
instance ADC(a:List CF)(f:CF->K1)(c:FuncId)(b:Fq)[e:∀(d:CF),CT (f d) c (FQ d::b) rB]:CT (Cq a f) 340 [lS a,.clo c b] rB:=Fe f340 0xd70e36ba [] (Cq.eq_1 ..)
instance(a):CT (slices_Clone_int a) 127 [lI a] (rO lI):=Fe f127 0x8201483647ff01c09c36400001 [] (slices_Clone_int.eq_1 ..)
theorem ACT(l:Fp)(x:Int)(r:Int×Bool)(h:slices_BinarySearch_int l x=Y r):AV prog 264 [lI l,eI x] (.tp [eI (r.1),eB (r.2)]):=by
  unfold slices_BinarySearch_int at h;split at h
  · rename_i d
    cases h;have hb:=d.1;unfold AX at hb;refine pL t_ d.1 d.2 (λa c w g=>?_) (λb e c w f=>Go.Proofs.Tryz.slices_BinarySearch_int b e l.length c l x w (az _) U f (by rw[List.take_length];exact d.2));exact Go.Proofs.Tryz.slices_BinarySearch_int_empty a c x w
  .cases h
instance ADP(l:Fp)(x:Int):Ct Go.Proofs.Tryz.prog (slices_BinarySearch_int l x) 264 [lI l,eI x] (λr=>.tp [eI (r.1),eB (r.2)]):=⟨ACT l x⟩
theorem ACW(l r:Fp)(h:slices_Compact_int l=Y r):AV prog 355 [.list 1 (l.map (TV.int .i64))] (.cut r):=by
  unfold slices_Compact_int at h;split at h
  · rename_i e
    unfold AX at e;cases h;have f:=Go.Lib.compact_length_le l;refine xN (rest:=List.replicate (l.length-(Go.Lib.compact l).length) 0) t_ (by rw[List.length_replicate];omega) (λx a=>iK a) (λw b=>?_) (λg cap w c _ i d=>Go.Proofs.Tryz.slices_Compact_int g 0 cap l w d U c);subst b;exact Go.Proofs.Tryz.slices_Compact_int_empty W 0 w
  .cases h
instance ADT(l:Fp):Ct Go.Proofs.Tryz.prog (slices_Compact_int l) 355 [.list 1 (l.map (TV.int .i64))] BA.cut:=⟨ACW l⟩
theorem ACY(l r:Fp)(h:slices_Sort_int l=Y r):AV prog 372 [.list 1 (l.map (TV.int .i64))] (.turn r []):=by
  unfold slices_Sort_int at h;rw[<-rA]at h;split at h
  · rename_i e
    unfold AX at e;cases h;refine oB t_ (List.length_mergeSort _) (λx a=>List.mem_mergeSort.1 a) (λw b=>?_) (λg cap w _ _ c d=>Go.Proofs.Tryz.slices_Sort_int g 0 cap l w d c U);subst b;exact Go.Proofs.Tryz.slices_Sort_int_none W 0 w
  .cases h
instance ADV(l:Fp):Ct Go.Proofs.Tryz.prog (slices_Sort_int l) 372 [.list 1 (l.map (TV.int .i64))] (λr=>.turn r []):=⟨ACY l⟩
instance(a b):CT (slices_Index_int a b) 78 [lI a,eI b] rI:=B3 f78 0xac7cb3ec01858c36816b657cb39701ba [] (slices_Index_int.eq_1 ..) (BN 0 8 7 0)
instance(a b):CT (slices_Contains_int a b) 32 [lI a,eI b] rB:=Fe f32 0xd70e36ba [] (slices_Contains_int.eq_1 ..)
theorem ACZ(l r:Fp)(h:slices_Reverse_int l=Y r):AV prog 377 [.list 1 (l.map (TV.int .i64))] (.turn r []):=by
  unfold slices_Reverse_int at h;split at h
  · rename_i d
    unfold AX at d;cases h;refine oB t_ List.length_reverse (λx a=>List.mem_reverse.1 a) (λw b=>?_) (λg cap w _ _ j c=>(Go.Proofs.Tryz.slices_Reverse_int g 0 cap l w c U).mono ?_)
    · subst b
      exact Go.Proofs.Tryz.slices_Reverse_int_empty W 0 w
    · rintro e w' ⟨f,q,i⟩
      exact ⟨f,q,#[],by rw[Go.Sort.grow_empty];exact i⟩
  .cases h
instance ADW(l:Fp):Ct Go.Proofs.Tryz.prog (slices_Reverse_int l) 377 [.list 1 (l.map (TV.int .i64))] (λr=>.turn r []):=⟨ACZ l⟩
instance ADI(a:List d5)(f:d5->K1)(c:FuncId)(b:Fq)[e:∀(d:d5),CT (f d) c (AI d::b) rB]:CT (DM a f) 391 [Ei a,.clo c b] rI:=B3 f391 0xac7cb3ec018fa8097e36816b657cb39701ba [] (DM.eq_1 ..) (BN 0 8 7 0)
instance ADG(a:List d5)(f:d5->K1)(c:FuncId)(b:Fq)[e:∀(d:d5),CT (f d) c (AI d::b) rB]:CT (CM a f) 374 [Ei a,.clo c b] rB:=Fe f374 0xd70e36ba [] (CM.eq_1 ..)
theorem ACV(a b c:Int)(r:Int×Int)(h:Jt a b c=Y r):AV prog 352 [Iw a,Iw b,Iw c] (.ext [Iw (r.1),Iw (r.2)]):=by
  unfold Jt at h;split at h
  · rename_i d
    cases h;obtain⟨⟨a0,a1⟩,⟨e,g⟩,f,i⟩:=d;intro _;refine⟨⟨rfl,?_⟩,λw vs hv=>?_⟩
    · simp only[Iw,TV.pq,TV.WF,IntKind.min,IntKind.max,IntKind.signed,IntKind.bits,and_true]
      simp only[Bool.false_eq_true,if_false];refine⟨⟨U,?_⟩,U,?_⟩
      · have:(2:Int)^ 64=18446744073709551616:=a!
        omega
      · have:(2:Int)^ 64=18446744073709551616:=a!
        omega
    · obtain⟨x,rfl⟩:=x! a0
      obtain ⟨y,rfl⟩:=x! e;obtain⟨z,rfl⟩:=x! f;have:=Go.Proofs.Any7.bits_Add64 Go.Proofs.Tryz.lays7n25 x y z U w;obtain⟨l⟩:=vs;simp only[Iw,AR,A3]at hv;obtain⟨j,k,rfl,rfl,m,n,rfl,rfl,o,p,rfl,rfl,rfl⟩:=hv;refine⟨_,this,?_⟩;simp only[Iw,AR,A3];exact⟨_,_,rfl,V,_,_,rfl,V,rfl⟩
  .cases h
instance ADS(a b c:Int):Ct Go.Proofs.Tryz.prog (Jt a b c) 352 [Iw a,Iw b,Iw c] (λr=>.ext [Iw (r.1),Iw (r.2)]):=⟨ACV a b c⟩
instance(a):CT (PM a) 316 [lI a] rI:=B3 f316 0xc4377c06cbec018536816137657c06cb979d6b01 [] (PM.eq_1 ..) (BN 0 8 7 0)
instance(a):CT (cmp_isNaN_int a) 353 [eI a] rB:=Fe f353 0x81849101 [] (cmp_isNaN_int.eq_1 ..)
instance(a b):CT (cmp_Compare_int a b) 317 [eI a,eI b] rI:=Fe f317 0xdf853659853659dffb9d0e600e01ba [] (cmp_Compare_int.eq_1 ..)
instance(a):CT (LQ a) 354 [Iw a] rB:=Fe f354 0x81849101 [] (LQ.eq_1 ..)
instance(a b):CT (Je a b) 318 [Iw a,Iw b] rI:=Fe f318 0xdf853659853659dffb9d0e600e01ba [] (Je.eq_1 ..)
instance(a):CT (DG a) 128 [lE a] (rO lE):=Fe f128 0x820348010347ff03c09c0103400001 [] (DG.eq_1 ..)
theorem ACS(l:Fp)(m:Int)(r:Fp)(h:DH l m=Y r):AV prog 170 [lI l,eI m] (.own (lI r)):=by
  unfold DH at h;split at h
  · rename_i a
    cases h;obtain⟨x,rfl⟩:=List.length_eq_one_iff.1 a.1;obtain⟨k,rfl⟩:=x! a.2.1;exact gO x k (by have:=a.2.2;omega)
  .cases h
instance ADN(l:Fp)(m:Int):Ct Go.Proofs.Tryz.prog (DH l m) 170 [lI l,eI m] (rO lI):=⟨ACS l m⟩
instance(a b):CT (IK a b) 298 [lS a,lS b] rB:=B3 f298 0xacc8b3ecbfd904bcd904bc816b65c8b3970159d1010b01ba [.bin (.a [0,0,0,0]) .neq (.s 19) (.s 23)] (IK.eq_1 ..) (BN 0 13 12 0)
instance(a b):CT (IL a b) 299 [lT a,lT b] rB:=B3 f299 0xacc8b3ecbf9b05bc9b05bc816b65c8b3970159d1010b01ba [.bin (.a [0,0,0,0,0]) .neq (.s 19) (.s 23)] (IL.eq_1 ..) (BN 0 13 12 0)
instance AC6(d:List d5)(c:List d5)(e:d5->d5->K1)(a:FuncId)(b:Fq)[h:∀(g:d5)(f:d5),CT (e g f) a (AI g::AI f::b) rB]:CT (Cb d c e) 300 [Ei d,Ei c,.clo a b] rB:=B3 f300 0xac11100f025aec880fa8a801094b0fc9a809bc094b810fc9a809436b6511100f025a97dfd1010b3602dd [] (Cb.eq_1 ..) (BN 0 17 16 0)
theorem c79(s:Fp)(n:Int)(r:Fp)(h:J2 s n=Y r):AV prog 79 [.nil,eI n] (.own (lI r)):=by
  unfold J2 at h;split at h
  · rename_i c
    cases h;obtain⟨k,rfl⟩:=x! c.2.1;have d:k<=AX:=by have:=c.2.2;omega
    have hb:=d;unfold AX at hb;obtain⟨b,f,g,m,i⟩:∃b,prog.info? 3=Y b/\b.zero=Y (.int .i64 0)/\b.size=1/\b.bytes=8:=⟨_,rfl,rfl,rfl,rfl⟩;refine ur t_ d (e:=3) (z:=(Value.int .i64 0).cells) rfl (λw j=>?_) (λw l=>?_)
    .exact Go.Proofs.Any8.slices_Grow_room Go.Proofs.Tryz.growI W 0 0 k w (az _) U U U
    .exact Go.Proofs.Any8.slices_Grow_grow Go.Proofs.Tryz.growI b (.int .i64 0) f g U W 0 0 k [] w (az _) U (by rw[i];omega) U V (λ_=>rfl) (λa ha=>by cases ha)
  .cases h
instance i79(s:Fp)(n:Int):Ct Go.Proofs.Tryz.prog (J2 s n) 79 [.nil,eI n] (rO lI):=⟨c79 s n⟩
theorem ACg:CK f33 (Rq [Ap 2 1] [0]<|Rq [Ao 3 0] [0,3]<|Sq (Rq [Aa 9 0,Al 10 9,Ao 11 0] [0,3,9,10,11]<|Bl 0<|Lo [0,3,9,10,11]<|Rq [As 12 11 10] [0,3,9,10,11,12]<|Sq (Co 12 (Sk [0,3,9,10,11])<|Ex 0 [0,3])<|Sq (Bl 1<|Rq [Au 13 9 11 1,Aj 14 13,Ad 5 14] [0,3,5,9,10,11]<|Rq [Aa 15 3,Aa 16 5,Al 17 16,⟨Y 18,.bin (.i) .add (.s 15) (.s 17),W⟩,Aa 3 18] [0,3,9,10,11]<|Rq [Aa 19 3,⟨Y 20,.bin (.i) .lss (.s 19) (.c (.int .i64 0)),W⟩] [0,3,9,10,11,20]<|Co 20 (.bad)<|Sk [0,3,9,10,11])<|Re [Av 22 11 1,Aa 11 22] [0,3,9,10,11])<|Rq [Aa 23 3,⟨Y 24,.call 79 [.c .nil,.s 23],W⟩,Ad 6 24] [0,6]<|Sq (Rq [Aa 25 0,Al 26 25,Ao 27 0] [6,25,26,27]<|Bl 2<|Lo [6,25,26,27]<|Rq [As 28 27 26] [6,25,26,27,28]<|Sq (Co 28 (Sk [6,25,26,27])<|Ex 2 [6])<|Sq (Bl 3<|Rq [Au 29 25 27 1,Aj 30 29,Ad 8 30] [6,8,25,26,27]<|Re [Ad 31 6,Aa 32 8,⟨Y 33,.app 1 (.s 31) (.s 32),W⟩,Ad 6 33] [6,25,26,27])<|Re [Av 34 27 1,Aa 27 34] [6,25,26,27])<|Rq [Ad 35 6,Ad 2 35] [2]<|.ret) [.tmp 2]:=c_
instance(a):CT (E6 a) 33 [(eL 1 lI) a] (rO lI):=Fi ACg λr h b c=>by
  unfold E6 at h;have:=BH 0 11 10 0 (hT 3 eI);have:=BH 2 27 26 0 (hO 6 lI);exact au
theorem ACj:CK f72 (Rq [Ao 2 0] [0]<|Sq (Rq [Aa 5 0,Al 6 5,⟨Y 7,.bin (.i) .lss (.s 6) (.c (.int .i64 1)),W⟩] [0,7]<|Co 7 (.bad)<|Sk [0])<|Rq [Aa 9 0,⟨Y 10,.iad (.s 9) (.c (.int .i64 0)) 1,W⟩,Aj 11 10,Aa 3 11] [0,3]<|Sq (Rq [Ao 4 1] [0,3,4]<|Bl 0<|Lo [0,3,4]<|Sq (Rq [Aa 12 4,Aa 13 0,Al 14 13,As 15 12 14] [0,3,4,15]<|Co 15 (Sk [0,3,4])<|Ex 0 [3])<|Sq (Bl 1<|Re [Aa 18 3,Aa 19 0,Aa 20 4,Au 21 19 20 1,Aj 22 21,⟨Y 23,.mm false (.s 18) (.s 22),W⟩,Aa 3 23] [0,3,4])<|Re [Aa 16 4,Av 17 16 1,Aa 4 17] [0,3,4])<|Rq [Aa 24 3,Aa 2 24] [2]<|.ret) [.tmp 2]:=c_
instance(a):CT (slices_Min_int a) 72 [lI a] rI:=Fi ACj λr h b c=>by
  unfold slices_Min_int at h;have:=BH 0 4 0 0 (hT 3 eI);exact au
instance(a):CT (Kb a) 168 [(eL 4 NS) a] (rO (eL 4 NS)):=Fe f168 0x820448010447ff04c09c0104400001 [] (Kb.eq_1 ..)
instance AC2(a:List A7)(f:A7->K1)(c:FuncId)(b:Fq)[e:∀(d:A7),CT (f d) c (Ca d::b) rB]:CT (Du a f) 169 [(eL 9 Ca) a,.clo c b] rI:=B3 f169 0xac7cb3ec018fa8097e36816b657cb39701ba [] (Du.eq_1 ..) (BN 0 8 7 0)
instance AC0(a:List A7)(f:A7->K1)(c:FuncId)(b:Fq)[e:∀(d:A7),CT (f d) c (Ca d::b) rB]:CT (CJ a f) 118 [(eL 9 Ca) a,.clo c b] rB:=Fe f118 0xd70e36ba [] (CJ.eq_1 ..)
end Go.Sf.Sc
