/- Contracts of the functions. -/
import Derived.Test.YthcncnllajfkfaaGreatShort
import Derived.Test.YthcncnllajfkfaaGreatTw
set_option linter.all false
set_option maxRecDepth 100000
set_option maxHeartbeats 4000000
open Option renaming some->Y,none->W
open Int renaming eq_ofNat_of_zero_le->w_
namespace Go.Sf.Sc
open Go Go.Sf Go.Proofs.Tryz
instance(a b):CT (slices_Equal_int a b) 23 [lI a,lI b] rB:=Bv f23 0xaac6b496bbebeb816562c6b49701bbe5e5b9 [] (slices_Equal_int.eq_1 ..) (BM 0 13 12 0)
instance(a b):CT (GQ a b) 65 [lE a,lE b] rB:=Bv f65 0xaac6b49655bfcfc5cfc5816562c6b49701bbe5e5b9 [.bin (.a [0,0,0]) .neq (.s 19) (.s 23)] (GQ.eq_1 ..) (BM 0 13 12 0)
instance c66(b:List Fp)(c:List Fp)(g:Fp->Fp->K1)(a:FuncId)(d:Fq)[h:∀(f:Fp)(e:Fp),CT (g f e) a (lI f::lI e::d) rB]:CT (DK b c g) 66 [(eL 1 lI) b,(eL 1 lI) c,.clo a d] rB:=Bv f66 0xaa11100f02599655880f013282eb82815f656211100f02599781bbe50b3202d4 [] (DK.eq_1 ..) (BM 0 17 16 0)
instance(a b):CT (slices_Index_string a b) 421 [lB a,eS b] rI:=Bv f421 0xaa7cb4965501868d328165627cb49701b9 [] (slices_Index_string.eq_1 ..) (BM 0 8 7 0)
instance(a b):CT (slices_Contains_string a b) 397 [lB a,eS b] rB:=Fe f397 0xdb0e32b9 [] (slices_Contains_string.eq_1 ..)
theorem ACC(s:ByteArray)(c:Int)(r:Int)(h:strings_IndexByte s c=Y r):AV prog 404 [eS s,Eo c] (.sh (eI r)):=by
  unfold strings_IndexByte at h;cases h;exact xA t? ⟨Go.Lib.indexByte_ge _ _,w9 _ _⟩ (λw=>Go.Proofs.Tryz.strings_IndexByte s c w)
instance AC8(s:ByteArray)(c:Int):Ct Go.Proofs.Tryz.prog (strings_IndexByte s c) 404 [eS s,Eo c] (rS eI):=⟨ACC s c⟩
instance ACm(a:List Ba)(f:Ba->K1)(b:FuncId)(c:Fq)[e:∀(d:Ba),CT (f d) b (IH d::c) rB]:CT (DT a f) 358 [lN a,.clo b c] rI:=Bv f358 0xaa7cb49655018fd5d7328165627cb49701b9 [] (DT.eq_1 ..) (BM 0 8 7 0)
instance ACi(a:List Ba)(f:Ba->K1)(b:FuncId)(c:Fq)[e:∀(d:Ba),CT (f d) b (IH d::c) rB]:CT (Cg a f) 295 [lN a,.clo b c] rB:=Fe f295 0xdb0e32b9 [] (Cg.eq_1 ..)
instance ACr(a:List kp)(f:kp->K1)(b:FuncId)(c:Fq)[e:∀(d:kp),CT (f d) b (JU d::c) rB]:CT (EP a f) 396 [lA a,.clo b c] rI:=Bv f396 0xaa7cb49655018fd5d7328165627cb49701b9 [] (EP.eq_1 ..) (BM 0 8 7 0)
instance ACn(a:List kp)(f:kp->K1)(b:FuncId)(c:Fq)[e:∀(d:kp),CT (f d) b (JU d::c) rB]:CT (C5 a f) 359 [lA a,.clo b c] rB:=Fe f359 0xdb0e32b9 [] (C5.eq_1 ..)
instance ACo(a:List Cs)(f:Cs->K1)(b:FuncId)(c:Fq)[e:∀(d:Cs),CT (f d) b (JV d::c) rB]:CT (DR a f) 362 [lX a,.clo b c] rI:=Bv f362 0xaa7cb49655018f0744077d328165627cb49701b9 [] (DR.eq_1 ..) (BM 0 8 7 0)
instance ACj(a:List Cs)(f:Cs->K1)(b:FuncId)(c:Fq)[e:∀(d:Cs),CT (f d) b (JV d::c) rB]:CT (Cf a f) 300 [lX a,.clo b c] rB:=Fe f300 0xdb0e32b9 [] (Cf.eq_1 ..)
instance ACf(a:Fp)(f:Int->K1)(b:FuncId)(c:Fq)[e:∀(d:Int),CT (f d) b (eI d::c) rB]:CT (El a f) 127 [lI a,.clo b c] rI:=Bv f127 0xaa7cb49655018f8d328165627cb49701b9 [] (El.eq_1 ..) (BM 0 8 7 0)
instance c71(a:Fp)(f:Int->K1)(b:FuncId)(c:Fq)[e:∀(d:Int),CT (f d) b (eI d::c) rB]:CT (BF a f) 71 [lI a,.clo b c] rB:=Fe f71 0xdb0e32b9 [] (BF.eq_1 ..)
instance ACl(a:List Bx)(f:Bx->K1)(b:FuncId)(c:Fq)[e:∀(d:Bx),CT (f d) b (B5 d::c) rB]:CT (EQ a f) 326 [lE a,.clo b c] rI:=Bv f326 0xaa7cb49655018fcf7d328165627cb49701b9 [] (EQ.eq_1 ..) (BM 0 8 7 0)
instance ACh(a:List Bx)(f:Bx->K1)(b:FuncId)(c:Fq)[e:∀(d:Bx),CT (f d) b (B5 d::c) rB]:CT (Br a f) 249 [lE a,.clo b c] rB:=Fe f249 0xdb0e32b9 [] (Br.eq_1 ..)
instance(a):CT (slices_Clone_string a) 357 [lB a] (rO lB):=Fe f357 0x8201483247ffe09c32400001 [] (slices_Clone_string.eq_1 ..)
instance(a b):CT (KL a b) 365 [(eL 1 eB) a,eB b] rI:=Bv f365 0xaa7cb4965501878d328165627cb49701b9 [] (KL.eq_1 ..) (BM 0 8 7 0)
instance(a b):CT (GM a b) 309 [(eL 1 eB) a,eB b] rB:=Fe f309 0xdb0e32b9 [] (GM.eq_1 ..)
instance ACt(a:List CA)(f:CA->K1)(b:FuncId)(c:Fq)[e:∀(d:CA),CT (f d) b (FL d::c) rB]:CT (ER a f) 406 [lS a,.clo b c] rI:=Bv f406 0xaa7cb49655018fd5d7328165627cb49701b9 [] (ER.eq_1 ..) (BM 0 8 7 0)
instance ACp(a:List CA)(f:CA->K1)(b:FuncId)(c:Fq)[e:∀(d:CA),CT (f d) b (FL d::c) rB]:CT (Cm a f) 368 [lS a,.clo b c] rB:=Fe f368 0xdb0e32b9 [] (Cm.eq_1 ..)
instance(a):CT (slices_Clone_int a) 125 [lI a] (rO lI):=Fe f125 0x8201483247ffe09c32400001 [] (slices_Clone_int.eq_1 ..)
theorem AB8(l:Fp)(x:Int)(r:Int×Bool)(h:slices_BinarySearch_int l x=Y r):AV prog 286 [lI l,eI x] (.tp [eI (r.1),eB (r.2)]):=by
  unfold slices_BinarySearch_int at h;split at h
  · rename_i d
    cases h;have hb:=d.1;unfold AX at hb;refine om t? d.1 d.2 (λa c w g=>?_) (λb e c w f=>Go.Proofs.Tryz.slices_BinarySearch_int b e l.length c l x w (az _) U f (by rw[List.take_length];exact d.2));exact Go.Proofs.Tryz.slices_BinarySearch_int_empty a c x w
  .cases h
instance AC3(l:Fp)(x:Int):Ct Go.Proofs.Tryz.prog (slices_BinarySearch_int l x) 286 [lI l,eI x] (λr=>.tp [eI (r.1),eB (r.2)]):=⟨AB8 l x⟩
theorem ACB(l r:Fp)(h:slices_Compact_int l=Y r):AV prog 390 [.list 1 (l.map (TV.int .i64))] (.cut r):=by
  unfold slices_Compact_int at h;split at h
  · rename_i e
    unfold AX at e;cases h;have f:=Go.Lib.compact_length_le l;refine wv (rest:=List.replicate (l.length-(Go.Lib.compact l).length) 0) t? (by rw[List.length_replicate];omega) (λx a=>gx a) (λw b=>?_) (λg cap w c _ i d=>Go.Proofs.Tryz.slices_Compact_int g 0 cap l w d U c);subst b;exact Go.Proofs.Tryz.slices_Compact_int_empty W 0 w
  .cases h
instance AC7(l:Fp):Ct Go.Proofs.Tryz.prog (slices_Compact_int l) 390 [.list 1 (l.map (TV.int .i64))] A9.cut:=⟨ACB l⟩
theorem ACD(l r:Fp)(h:slices_Sort_int l=Y r):AV prog 407 [.list 1 (l.map (TV.int .i64))] (.turn r []):=by
  unfold slices_Sort_int at h;rw[<-qS]at h;split at h
  · rename_i e
    unfold AX at e;cases h;refine nT t? (List.length_mergeSort _) (λx a=>List.mem_mergeSort.1 a) (λw b=>?_) (λg cap w _ _ c d=>Go.Proofs.Tryz.slices_Sort_int g 0 cap l w d c U);subst b;exact Go.Proofs.Tryz.slices_Sort_int_none W 0 w
  .cases h
instance AC9(l:Fp):Ct Go.Proofs.Tryz.prog (slices_Sort_int l) 407 [.list 1 (l.map (TV.int .i64))] (λr=>.turn r []):=⟨ACD l⟩
instance(a b):CT (slices_Index_int a b) 76 [lI a,eI b] rI:=Bv f76 0xaa7cb4965501858d328165627cb49701b9 [] (slices_Index_int.eq_1 ..) (BM 0 8 7 0)
instance(a b):CT (slices_Contains_int a b) 37 [lI a,eI b] rB:=Fe f37 0xdb0e32b9 [] (slices_Contains_int.eq_1 ..)
theorem ACE(l r:Fp)(h:slices_Reverse_int l=Y r):AV prog 412 [.list 1 (l.map (TV.int .i64))] (.turn r []):=by
  unfold slices_Reverse_int at h;split at h
  · rename_i d
    unfold AX at d;cases h;refine nT t? List.length_reverse (λx a=>List.mem_reverse.1 a) (λw b=>?_) (λg cap w _ _ j c=>(Go.Proofs.Tryz.slices_Reverse_int g 0 cap l w c U).mono ?_)
    · subst b
      exact Go.Proofs.Tryz.slices_Reverse_int_empty W 0 w
    · rintro e w' ⟨f,q,i⟩
      exact ⟨f,q,#[],by rw[Go.Sort.grow_empty];exact i⟩
  .cases h
instance ADA(l:Fp):Ct Go.Proofs.Tryz.prog (slices_Reverse_int l) 412 [.list 1 (l.map (TV.int .i64))] (λr=>.turn r []):=⟨ACE l⟩
instance ACw(a:List d7)(f:d7->K1)(b:FuncId)(c:Fq)[e:∀(d:d7),CT (f d) b (AI d::c) rB]:CT (DF a f) 426 [Ed a,.clo b c] rI:=Bv f426 0xaa7cb49655018fa9097d328165627cb49701b9 [] (DF.eq_1 ..) (BM 0 8 7 0)
instance ACu(a:List d7)(f:d7->K1)(b:FuncId)(c:Fq)[e:∀(d:d7),CT (f d) b (AI d::c) rB]:CT (CI a f) 409 [Ed a,.clo b c] rB:=Fe f409 0xdb0e32b9 [] (CI.eq_1 ..)
theorem ACA(a b c:Int)(r:Int×Int)(h:Je a b c=Y r):AV prog 387 [Ih a,Ih b,Ih c] (.ext [Ih (r.1),Ih (r.2)]):=by
  unfold Je at h;split at h
  · rename_i d
    cases h;obtain⟨⟨a0,a1⟩,⟨e,g⟩,f,i⟩:=d;intro _;refine⟨⟨rfl,?_⟩,λw vs hv=>?_⟩
    · simp only[Ih,TV.tc,TV.WF,IntKind.min,IntKind.max,IntKind.signed,IntKind.bits,and_true]
      simp only[Bool.false_eq_true,if_false];refine⟨⟨U,?_⟩,U,?_⟩
      · have:(2:Int)^ 64=18446744073709551616:=a!
        omega
      · have:(2:Int)^ 64=18446744073709551616:=a!
        omega
    · obtain⟨x,rfl⟩:=w_ a0
      obtain ⟨y,rfl⟩:=w_ e;obtain⟨z,rfl⟩:=w_ f;have:=Go.Proofs.Any7.bits_Add64 Go.Proofs.Tryz.lays7n25 x y z U w;obtain⟨l⟩:=vs;simp only[Ih,AQ,A1]at hv;obtain⟨j,k,rfl,rfl,m,n,rfl,rfl,o,p,rfl,rfl,rfl⟩:=hv;refine⟨_,this,?_⟩;simp only[Ih,AQ,A1];exact⟨_,_,rfl,V,_,_,rfl,V,rfl⟩
  .cases h
instance AC6(a b c:Int):Ct Go.Proofs.Tryz.prog (Je a b c) 387 [Ih a,Ih b,Ih c] (λr=>.ext [Ih (r.1),Ih (r.2)]):=⟨ACA a b c⟩
instance(a):CT (PF a) 344 [lI a] rI:=Bv f344 0x8101367c0603049655018532815f36627c060304979a6501 [] (PF.eq_1 ..) (BM 0 8 7 0)
instance(a):CT (cmp_isNaN_int a) 388 [eI a] rB:=Fe f388 0x81a59101 [] (cmp_isNaN_int.eq_1 ..)
instance(a b):CT (cmp_Compare_int a b) 345 [eI a,eI b] rI:=Fe f345 0x81bb32bb32cc55cc9a0e600e01b9 [] (cmp_Compare_int.eq_1 ..)
instance(a):CT (K8 a) 389 [Ih a] rB:=Fe f389 0x81a59101 [] (K8.eq_1 ..)
instance(a b):CT (JR a b) 346 [Ih a,Ih b] rI:=Fe f346 0x81bb32bb32cc55cc9a0e600e01b9 [] (JR.eq_1 ..)
instance(a):CT (Dd a) 126 [lE a] (rO lE):=Fe f126 0x820348f747ff03c09cf7400001 [] (Dd.eq_1 ..)
theorem AB7(l:Fp)(m:Int)(r:Fp)(h:De l m=Y r):AV prog 170 [lI l,eI m] (.own (lI r)):=by
  unfold De at h;split at h
  · rename_i a
    cases h;obtain⟨x,rfl⟩:=List.length_eq_one_iff.1 a.1;obtain⟨k,rfl⟩:=w_ a.2.1;exact gB x k (by have:=a.2.2;omega)
  .cases h
instance AC1(l:Fp)(m:Int):Ct Go.Proofs.Tryz.prog (De l m) 170 [lI l,eI m] (rO lI):=⟨AB7 l m⟩
instance(a b):CT (H0 a b) 323 [lS a,lS b] rB:=Bv f323 0xaac6b49655bfd504c5d504c5816562c6b49701bbe5e5b9 [.bin (.a [0,0,0,0]) .neq (.s 19) (.s 23)] (H0.eq_1 ..) (BM 0 13 12 0)
instance(a b):CT (H4 a b) 324 [lT a,lT b] rB:=Bv f324 0xaac6b49655bf9e05438c4405c5816562c6b49701bbe5e5b9 [.bin (.a [0,0,0,0,0]) .neq (.s 19) (.s 23)] (H4.eq_1 ..) (BM 0 13 12 0)
instance ACk(b:List d7)(c:List d7)(g:d7->d7->K1)(a:FuncId)(d:Fq)[h:∀(f:d7)(e:d7),CT (g f e) a (AI f::AI e::d) rB]:CT (CZ b c g) 325 [Ed b,Ed c,.clo a d] rB:=Bv f325 0xaa11100f02599655880fa9a901094b0ac9a909c5094ba2c9a90943656211100f02599781bbe50b3202d4 [] (CZ.eq_1 ..) (BM 0 17 16 0)
instance(a):CT (KJ a) 168 [(eL 4 NM) a] (rO (eL 4 NM)):=Fe f168 0x820448e847ff04c09ce8400001 [] (KJ.eq_1 ..)
instance ACg(a:List A8)(f:A8->K1)(b:FuncId)(c:Fq)[e:∀(d:A8),CT (f d) b (CY d::c) rB]:CT (Dl a f) 169 [(eL 9 CY) a,.clo b c] rI:=Bv f169 0xaa7cb49655018fa9097d328165627cb49701b9 [] (Dl.eq_1 ..) (BM 0 8 7 0)
instance ACe(a:List A8)(f:A8->K1)(b:FuncId)(c:Fq)[e:∀(d:A8),CT (f d) b (CY d::c) rB]:CT (CF a f) 106 [(eL 9 CY) a,.clo b c] rB:=Fe f106 0xdb0e32b9 [] (CF.eq_1 ..)
theorem c77(s:Fp)(n:Int)(r:Fp)(h:MR s n=Y r):AV prog 77 [.nil,eI n] (.own (lI r)):=by
  unfold MR at h;split at h
  · rename_i c
    cases h;obtain⟨k,rfl⟩:=w_ c.2.1;have d:k<=AX:=by have:=c.2.2;omega
    have hb:=d;unfold AX at hb;obtain⟨b,f,g,m,i⟩:∃b,prog.info? 3=Y b/\b.zero=Y (.int .i64 0)/\b.size=1/\b.bytes=8:=⟨_,rfl,rfl,rfl,rfl⟩;refine uM t? d (e:=3) (z:=(Value.int .i64 0).cells) rfl (λw j=>?_) (λw l=>?_)
    .exact Go.Proofs.Any8.slices_Grow_room Go.Proofs.Tryz.growI W 0 0 k w (az _) U U U
    .exact Go.Proofs.Any8.slices_Grow_grow Go.Proofs.Tryz.growI b (.int .i64 0) f g U W 0 0 k [] w (az _) U (by rw[i];omega) U V (λ_=>rfl) (λa ha=>by cases ha)
  .cases h
instance i77(s:Fp)(n:Int):Ct Go.Proofs.Tryz.prog (MR s n) 77 [.nil,eI n] (rO lI):=⟨c77 s n⟩
theorem ACI:CK f38 (Rq [Ap 2 1] [0]<|Rq [Ao 3 0] [0,3]<|Sq (Rq [Aa 9 0,Al 10 9,Ao 11 0] [0,3,9,10,11]<|Bl 0<|Lo [0,3,9,10,11]<|Rq [As 12 11 10] [0,3,9,10,11,12]<|Sq (Co 12 (Sk [0,3,9,10,11])<|Ex 0 [0,3])<|Sq (Bl 1<|Rq [Au 13 9 11 1,Aj 14 13,Ad 5 14] [0,3,5,9,10,11]<|Rq [Aa 15 3,Aa 16 5,Al 17 16,⟨Y 18,.bin (.i) .add (.s 15) (.s 17),W⟩,Aa 3 18] [0,3,9,10,11]<|Rq [Aa 19 3,⟨Y 20,.bin (.i) .lss (.s 19) (.c (.int .i64 0)),W⟩] [0,3,9,10,11,20]<|Co 20 (.bad)<|Sk [0,3,9,10,11])<|Re [Av 22 11 1,Aa 11 22] [0,3,9,10,11])<|Rq [Aa 23 3,⟨Y 24,.call 77 [.c .nil,.s 23],W⟩,Ad 6 24] [0,6]<|Sq (Rq [Aa 25 0,Al 26 25,Ao 27 0] [6,25,26,27]<|Bl 2<|Lo [6,25,26,27]<|Rq [As 28 27 26] [6,25,26,27,28]<|Sq (Co 28 (Sk [6,25,26,27])<|Ex 2 [6])<|Sq (Bl 3<|Rq [Au 29 25 27 1,Aj 30 29,Ad 8 30] [6,8,25,26,27]<|Re [Ad 31 6,Aa 32 8,⟨Y 33,.app 1 (.s 31) (.s 32),W⟩,Ad 6 33] [6,25,26,27])<|Re [Av 34 27 1,Aa 27 34] [6,25,26,27])<|Rq [Ad 35 6,Ad 2 35] [2]<|.ret) [.tmp 2]:=c!
instance(a):CT (KK a) 38 [(eL 1 lI) a] (rO lI):=Fi ACI λr h b c=>by
  unfold KK at h;have:=BG 0 11 10 0 (hT 3 eI);have:=BG 2 27 26 0 (hO 6 lI);exact au
theorem ACJ:CK f70 (Rq [Ao 2 0] [0]<|Sq (Rq [Aa 5 0,Al 6 5,⟨Y 7,.bin (.i) .lss (.s 6) (.c (.int .i64 1)),W⟩] [0,7]<|Co 7 (.bad)<|Sk [0])<|Rq [Aa 9 0,⟨Y 10,.iad (.s 9) (.c (.int .i64 0)) 1,W⟩,Aj 11 10,Aa 3 11] [0,3]<|Sq (Rq [Ao 4 1] [0,3,4]<|Bl 0<|Lo [0,3,4]<|Sq (Rq [Aa 12 4,Aa 13 0,Al 14 13,As 15 12 14] [0,3,4,15]<|Co 15 (Sk [0,3,4])<|Ex 0 [3])<|Sq (Bl 1<|Re [Aa 18 3,Aa 19 0,Aa 20 4,Au 21 19 20 1,Aj 22 21,⟨Y 23,.mm false (.s 18) (.s 22),W⟩,Aa 3 23] [0,3,4])<|Re [Aa 16 4,Av 17 16 1,Aa 4 17] [0,3,4])<|Rq [Aa 24 3,Aa 2 24] [2]<|.ret) [.tmp 2]:=c!
instance(a):CT (slices_Min_int a) 70 [lI a] rI:=Fi ACJ λr h b c=>by
  unfold slices_Min_int at h;have:=BG 0 4 0 0 (hT 3 eI);exact au
end Go.Sf.Sc
