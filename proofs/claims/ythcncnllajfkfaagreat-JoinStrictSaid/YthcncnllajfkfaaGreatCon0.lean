/- Contracts of the functions. -/
import Derived.Test.YthcncnllajfkfaaGreatShort
import Derived.Test.YthcncnllajfkfaaGreatTw
set_option linter.all false
set_option maxRecDepth 100000
set_option maxHeartbeats 4000000
open Option renaming some->Y,none->W
open Int renaming eq_ofNat_of_zero_le->v1
namespace Go.Sf.Sc
open Go Go.Sf Go.Proofs.Tryz
instance(a b):CT (slices_Equal_int a b) 23 [lI a,lI b] rB:=B8 f23 0xa6c1a792b9bbbb81f9c1a79701b9f70be6 [] (slices_Equal_int.eq_1 ..) (BM 0 13 12 0)
instance(a b):CT (Gn a b) 65 [lE a,lE b] rB:=B8 f65 0xa6c1a79237bfc8b6c8b681f9c1a79701b9f70be6 [.bin (.a [0,0,0]) .neq (.s 19) (.s 23)] (Gn.eq_1 ..) (BM 0 13 12 0)
instance c66(d:List Fp)(b:List Fp)(g:Fp->Fp->K1)(c:FuncId)(a:Fq)[h:∀(e:Fp)(f:Fp),CT (g e f) c (lI e::lI f::a) rB]:CT (DY d b g) 66 [(eL 1 lI) d,(eL 1 lI) b,.clo c a] rB:=B8 f66 0xa611100f02559237880f7782bb82815ef911100f02559781b9f70b3002be [] (DY.eq_1 ..) (BM 0 17 16 0)
instance(a b):CT (slices_Index_string a b) 421 [lB a,eS b] rI:=B8 f421 0xa678a7923701865e7781f978a797e6 [] (slices_Index_string.eq_1 ..) (BM 0 8 7 0)
instance(a b):CT (slices_Contains_string a b) 397 [lB a,eS b] rB:=Fe f397 0xba0e30fc [] (slices_Contains_string.eq_1 ..)
theorem ACX(s:ByteArray)(c:Int)(r:Int)(h:strings_IndexByte s c=Y r):AT prog 404 [eS s,X6 c] (.sh (eI r)):=by
  unfold strings_IndexByte at h;cases h;exact xd q? ⟨Go.Lib.indexByte_ge _ _,xc _ _⟩ (λw=>Go.Proofs.Tryz.strings_IndexByte s c w)
instance ADJ(s:ByteArray)(c:Int):Ct Go.Proofs.Tryz.prog (strings_IndexByte s c) 404 [eS s,X6 c] (rS eI):=⟨ACX s c⟩
instance ACx(b:List Cv)(f:Cv->K1)(a:FuncId)(c:Fq)[e:∀(d:Cv),CT (f d) a (FM d::c) rB]:CT (De b f) 358 [lN b,.clo a c] rI:=B8 f358 0xa678a79237018fd504437781f978a797e6 [] (De.eq_1 ..) (BM 0 8 7 0)
instance ACt(b:List Cv)(f:Cv->K1)(a:FuncId)(c:Fq)[e:∀(d:Cv),CT (f d) a (FM d::c) rB]:CT (Cq b f) 295 [lN b,.clo a c] rB:=Fe f295 0xba0e30fc [] (Cq.eq_1 ..)
instance AC2(b:List ke)(f:ke->K1)(a:FuncId)(c:Fq)[e:∀(d:ke),CT (f d) a (HT d::c) rB]:CT (EZ b f) 396 [lA b,.clo a c] rI:=B8 f396 0xa678a79237018fd504437781f978a797e6 [] (EZ.eq_1 ..) (BM 0 8 7 0)
instance ACy(b:List ke)(f:ke->K1)(a:FuncId)(c:Fq)[e:∀(d:ke),CT (f d) a (HT d::c) rB]:CT (DG b f) 359 [lA b,.clo a c] rB:=Fe f359 0xba0e30fc [] (DG.eq_1 ..)
instance ACz(b:List C7)(f:C7->K1)(a:FuncId)(c:Fq)[e:∀(d:C7),CT (f d) a (GA d::c) rB]:CT (Dd b f) 362 [lX b,.clo a c] rI:=B8 f362 0xa678a79237018f074407437781f978a797e6 [] (Dd.eq_1 ..) (BM 0 8 7 0)
instance ACu(b:List C7)(f:C7->K1)(a:FuncId)(c:Fq)[e:∀(d:C7),CT (f d) a (GA d::c) rB]:CT (Cp b f) 300 [lX b,.clo a c] rB:=Fe f300 0xba0e30fc [] (Cp.eq_1 ..)
instance ACq(b:Fp)(f:Int->K1)(a:FuncId)(c:Fq)[e:∀(d:Int),CT (f d) a (eI d::c) rB]:CT (E4 b f) 127 [lI b,.clo a c] rI:=B8 f127 0xa678a79237018f5e7781f978a797e6 [] (E4.eq_1 ..) (BM 0 8 7 0)
instance c71(b:Fp)(f:Int->K1)(a:FuncId)(c:Fq)[e:∀(d:Int),CT (f d) a (eI d::c) rB]:CT (BE b f) 71 [lI b,.clo a c] rB:=Fe f71 0xba0e30fc [] (BE.eq_1 ..)
instance ACw(b:List CN)(f:CN->K1)(a:FuncId)(c:Fq)[e:∀(d:CN),CT (f d) a (Ba d::c) rB]:CT (Ea b f) 326 [lE b,.clo a c] rI:=B8 f326 0xa678a79237018fc8437781f978a797e6 [] (Ea.eq_1 ..) (BM 0 8 7 0)
instance ACs(b:List CN)(f:CN->K1)(a:FuncId)(c:Fq)[e:∀(d:CN),CT (f d) a (Ba d::c) rB]:CT (Bw b f) 249 [lE b,.clo a c] rB:=Fe f249 0xba0e30fc [] (Bw.eq_1 ..)
instance(a):CT (slices_Clone_string a) 357 [lB a] (rO lB):=Fe f357 0x8201483047ffe59c3040d7 [] (slices_Clone_string.eq_1 ..)
instance(a b):CT (Kd a b) 365 [(eL 1 eB) a,eB b] rI:=B8 f365 0xa678a7923701875e7781f978a797e6 [] (Kd.eq_1 ..) (BM 0 8 7 0)
instance(a b):CT (Gg a b) 309 [(eL 1 eB) a,eB b] rB:=Fe f309 0xba0e30fc [] (Gg.eq_1 ..)
instance AC4(b:List C4)(f:C4->K1)(a:FuncId)(c:Fq)[e:∀(d:C4),CT (f d) a (Dk d::c) rB]:CT (Eb b f) 406 [lS b,.clo a c] rI:=B8 f406 0xa678a79237018fd504437781f978a797e6 [] (Eb.eq_1 ..) (BM 0 8 7 0)
instance AC0(b:List C4)(f:C4->K1)(a:FuncId)(c:Fq)[e:∀(d:C4),CT (f d) a (Dk d::c) rB]:CT (Cy b f) 368 [lS b,.clo a c] rB:=Fe f368 0xba0e30fc [] (Cy.eq_1 ..)
instance(a):CT (slices_Clone_int a) 125 [lI a] (rO lI):=Fe f125 0x8201483047ffe59c3040d7 [] (slices_Clone_int.eq_1 ..)
theorem ACT(l:Fp)(x:Int)(r:Int×Bool)(h:slices_BinarySearch_int l x=Y r):AT prog 286 [lI l,eI x] (.tp [eI (r.1),eB (r.2)]):=by
  unfold slices_BinarySearch_int at h;split at h
  · rename_i d
    cases h;have hb:=d.1;unfold AY at hb;refine pP q? d.1 d.2 (λa c w g=>?_) (λb e c w f=>Go.Proofs.Tryz.slices_BinarySearch_int b e l.length c l x w (ae _) U f (by rw[List.take_length];exact d.2));exact Go.Proofs.Tryz.slices_BinarySearch_int_empty a c x w
  .cases h
instance ADE(l:Fp)(x:Int):Ct Go.Proofs.Tryz.prog (slices_BinarySearch_int l x) 286 [lI l,eI x] (λr=>.tp [eI (r.1),eB (r.2)]):=⟨ACT l x⟩
theorem ACW(l r:Fp)(h:slices_Compact_int l=Y r):AT prog 390 [.list 1 (l.map (TV.int .i64))] (.cut r):=by
  unfold slices_Compact_int at h;split at h
  · rename_i e
    unfold AY at e;cases h;have f:=Go.Lib.compact_length_le l;refine xU (rest:=List.replicate (l.length-(Go.Lib.compact l).length) 0) q? (by rw[List.length_replicate];omega) (λx a=>ir a) (λw b=>?_) (λg cap w c _ i d=>Go.Proofs.Tryz.slices_Compact_int g 0 cap l w d U c);subst b;exact Go.Proofs.Tryz.slices_Compact_int_empty W 0 w
  .cases h
instance ADI(l:Fp):Ct Go.Proofs.Tryz.prog (slices_Compact_int l) 390 [.list 1 (l.map (TV.int .i64))] A9.cut:=⟨ACW l⟩
theorem ACY(l r:Fp)(h:slices_Sort_int l=Y r):AT prog 407 [.list 1 (l.map (TV.int .i64))] (.turn r []):=by
  unfold slices_Sort_int at h;rw[<-qz]at h;split at h
  · rename_i e
    unfold AY at e;cases h;refine oH q? (List.length_mergeSort _) (λx a=>List.mem_mergeSort.1 a) (λw b=>?_) (λg cap w _ _ c d=>Go.Proofs.Tryz.slices_Sort_int g 0 cap l w d c U);subst b;exact Go.Proofs.Tryz.slices_Sort_int_none W 0 w
  .cases h
instance ADK(l:Fp):Ct Go.Proofs.Tryz.prog (slices_Sort_int l) 407 [.list 1 (l.map (TV.int .i64))] (λr=>.turn r []):=⟨ACY l⟩
instance(a b):CT (slices_Index_int a b) 76 [lI a,eI b] rI:=B8 f76 0xa678a7923701855e7781f978a797e6 [] (slices_Index_int.eq_1 ..) (BM 0 8 7 0)
instance(a b):CT (slices_Contains_int a b) 37 [lI a,eI b] rB:=Fe f37 0xba0e30fc [] (slices_Contains_int.eq_1 ..)
theorem ACZ(l r:Fp)(h:slices_Reverse_int l=Y r):AT prog 412 [.list 1 (l.map (TV.int .i64))] (.turn r []):=by
  unfold slices_Reverse_int at h;split at h
  · rename_i d
    unfold AY at d;cases h;refine oH q? List.length_reverse (λx a=>List.mem_reverse.1 a) (λw b=>?_) (λg cap w _ _ j c=>(Go.Proofs.Tryz.slices_Reverse_int g 0 cap l w c U).mono ?_)
    · subst b
      exact Go.Proofs.Tryz.slices_Reverse_int_empty W 0 w
    · rintro e w' ⟨f,q,i⟩
      exact ⟨f,q,#[],by rw[Go.Sort.grow_empty];exact i⟩
  .cases h
instance ADL(l:Fp):Ct Go.Proofs.Tryz.prog (slices_Reverse_int l) 412 [.list 1 (l.map (TV.int .i64))] (λr=>.turn r []):=⟨ACZ l⟩
instance AC7(b:List d5)(f:d5->K1)(a:FuncId)(c:Fq)[e:∀(d:d5),CT (f d) a (AJ d::c) rB]:CT (DT b f) 426 [C9 b,.clo a c] rI:=B8 f426 0xa678a79237018ffb437781f978a797e6 [] (DT.eq_1 ..) (BM 0 8 7 0)
instance AC5(b:List d5)(f:d5->K1)(a:FuncId)(c:Fq)[e:∀(d:d5),CT (f d) a (AJ d::c) rB]:CT (CR b f) 409 [C9 b,.clo a c] rB:=Fe f409 0xba0e30fc [] (CR.eq_1 ..)
theorem ACV(a b c:Int)(r:Int×Int)(h:Jr a b c=Y r):AT prog 387 [MM a,MM b,MM c] (.ext [MM (r.1),MM (r.2)]):=by
  unfold Jr at h;split at h
  · rename_i d
    cases h;obtain⟨⟨a0,a1⟩,⟨e,g⟩,f,i⟩:=d;intro _;refine⟨⟨rfl,?_⟩,λw vs hv=>?_⟩
    · simp only[MM,TV.p0,TV.WF,IntKind.min,IntKind.max,IntKind.signed,IntKind.bits,and_true]
      simp only[Bool.false_eq_true,if_false];refine⟨⟨U,?_⟩,U,?_⟩
      · have:(2:Int)^ 64=18446744073709551616:=a!
        omega
      · have:(2:Int)^ 64=18446744073709551616:=a!
        omega
    · obtain⟨x,rfl⟩:=v1 a0
      obtain ⟨y,rfl⟩:=v1 e;obtain⟨z,rfl⟩:=v1 f;have:=Go.Proofs.Any7.bits_Add64 Go.Proofs.Tryz.lays7n25 x y z U w;obtain⟨l⟩:=vs;simp only[MM,AQ,A2]at hv;obtain⟨j,k,rfl,rfl,m,n,rfl,rfl,o,p,rfl,rfl,rfl⟩:=hv;refine⟨_,this,?_⟩;simp only[MM,AQ,A2];exact⟨_,_,rfl,V,_,_,rfl,V,rfl⟩
  .cases h
instance ADH(a b c:Int):Ct Go.Proofs.Tryz.prog (Jr a b c) 387 [MM a,MM b,MM c] (λr=>.ext [MM (r.1),MM (r.2)]):=⟨ACV a b c⟩
instance(a):CT (PH a) 344 [lI a] rI:=B8 f344 0x810131da03049237018530815e3161da0304979b6001 [] (PH.eq_1 ..) (BM 0 8 7 0)
instance(a):CT (cmp_isNaN_int a) 388 [eI a] rB:=Fe f388 0xba77d7 [] (cmp_isNaN_int.eq_1 ..)
instance(a b):CT (cmp_Compare_int a b) 345 [eI a,eI b] rI:=Fe f345 0x81b930b930cb37cb9b0e5d0ee6 [] (cmp_Compare_int.eq_1 ..)
instance(a):CT (LI a) 389 [MM a] rB:=Fe f389 0xba77d7 [] (LI.eq_1 ..)
instance(a b):CT (Jg a b) 346 [MM a,MM b] rI:=Fe f346 0x81b930b930cb37cb9b0e5d0ee6 [] (Jg.eq_1 ..)
instance(a):CT (DL a) 126 [lE a] (rO lE):=Fe f126 0x820348010347ff03c09c010340d7 [] (DL.eq_1 ..)
theorem ACS(l:Fp)(m:Int)(r:Fp)(h:DM l m=Y r):AT prog 170 [lI l,eI m] (.own (lI r)):=by
  unfold DM at h;split at h
  · rename_i a
    cases h;obtain⟨x,rfl⟩:=List.length_eq_one_iff.1 a.1;obtain⟨k,rfl⟩:=v1 a.2.1;exact iA x k (by have:=a.2.2;omega)
  .cases h
instance ADC(l:Fp)(m:Int):Ct Go.Proofs.Tryz.prog (DM l m) 170 [lI l,eI m] (rO lI):=⟨ACS l m⟩
instance(a b):CT (IL a b) 323 [lS a,lS b] rB:=B8 f323 0xa6c1a79237bfd504b6d504b681f9c1a79701b9f70be6 [.bin (.a [0,0,0,0]) .neq (.s 19) (.s 23)] (IL.eq_1 ..) (BM 0 13 12 0)
instance(a b):CT (IM a b) 324 [lT a,lT b] rB:=B8 f324 0xa6c1a79237bf8905b68905b681f9c1a79701b9f70be6 [.bin (.a [0,0,0,0,0]) .neq (.s 19) (.s 23)] (IM.eq_1 ..) (BM 0 13 12 0)
instance ACv(d:List d5)(b:List d5)(g:d5->d5->K1)(c:FuncId)(a:Fq)[h:∀(e:d5)(f:d5),CT (g e f) c (AJ e::AJ f::a) rB]:CT (Ci d b g) 325 [C9 d,C9 b,.clo c a] rB:=B8 f325 0xa611100f02559237880f9f9f01094b0ac9fbb6094b80c9fb43f911100f02559781b9f70b3002be [] (Ci.eq_1 ..) (BM 0 17 16 0)
instance(a):CT (Kc a) 168 [(eL 4 GY) a] (rO (eL 4 GY)):=Fe f168 0x820448f147ff04c09cf140d7 [] (Kc.eq_1 ..)
instance ACr(b:List A7)(f:A7->K1)(a:FuncId)(c:Fq)[e:∀(d:A7),CT (f d) a (Ch d::c) rB]:CT (Dv b f) 169 [(eL 9 Ch) b,.clo a c] rI:=B8 f169 0xa678a79237018ffb437781f978a797e6 [] (Dv.eq_1 ..) (BM 0 8 7 0)
instance ACp(b:List A7)(f:A7->K1)(a:FuncId)(c:Fq)[e:∀(d:A7),CT (f d) a (Ch d::c) rB]:CT (CM b f) 106 [(eL 9 Ch) b,.clo a c] rB:=Fe f106 0xba0e30fc [] (CM.eq_1 ..)
theorem c77(s:Fp)(n:Int)(r:Fp)(h:J0 s n=Y r):AT prog 77 [.nil,eI n] (.own (lI r)):=by
  unfold J0 at h;split at h
  · rename_i c
    cases h;obtain⟨k,rfl⟩:=v1 c.2.1;have d:k<=AY:=by have:=c.2.2;omega
    have hb:=d;unfold AY at hb;obtain⟨b,f,g,m,i⟩:∃b,prog.info? 3=Y b/\b.zero=Y (.int .i64 0)/\b.size=1/\b.bytes=8:=⟨_,rfl,rfl,rfl,rfl⟩;refine uv q? d (e:=3) (z:=(Value.int .i64 0).cells) rfl (λw j=>?_) (λw l=>?_)
    .exact Go.Proofs.Any8.slices_Grow_room Go.Proofs.Tryz.growI W 0 0 k w (ae _) U U U
    .exact Go.Proofs.Any8.slices_Grow_grow Go.Proofs.Tryz.growI b (.int .i64 0) f g U W 0 0 k [] w (ae _) U (by rw[i];omega) U V (λ_=>rfl) (λa ha=>by cases ha)
  .cases h
instance i77(s:Fp)(n:Int):Ct Go.Proofs.Tryz.prog (J0 s n) 77 [.nil,eI n] (rO lI):=⟨c77 s n⟩
theorem ACc:CK f38 (Rq [⟨Y 2,.Abe 1,W⟩] [0]<|Rq [Ah 3 0] [0,3]<|Sq (Rq [Aa 9 0,Af 10 9,Ah 11 0] [0,3,9,10,11]<|Bl 0<|Lo [0,3,9,10,11]<|Rq [Ao 12 11 10] [0,3,9,10,11,12]<|Sq (Co 12 (Sk [0,3,9,10,11])<|Ex 0 [0,3])<|Sq (Bl 1<|Rq [Ar 13 9 11 1,Ag 14 13,Ae 5 14] [0,3,5,9,10,11]<|Rq [Aa 15 3,Aa 16 5,Af 17 16,⟨Y 18,.bin (.i) .add (.s 15) (.s 17),W⟩,Aa 3 18] [0,3,9,10,11]<|Rq [Aa 19 3,⟨Y 20,.bin (.i) .lss (.s 19) (.c (.int .i64 0)),W⟩] [0,3,9,10,11,20]<|Co 20 (.bad)<|Sk [0,3,9,10,11])<|Re [Ap 22 11 1,Aa 11 22] [0,3,9,10,11])<|Rq [Aa 23 3,⟨Y 24,.call 77 [.c .nil,.s 23],W⟩,Ae 6 24] [0,6]<|Sq (Rq [Aa 25 0,Af 26 25,Ah 27 0] [6,25,26,27]<|Bl 2<|Lo [6,25,26,27]<|Rq [Ao 28 27 26] [6,25,26,27,28]<|Sq (Co 28 (Sk [6,25,26,27])<|Ex 2 [6])<|Sq (Bl 3<|Rq [Ar 29 25 27 1,Ag 30 29,Ae 8 30] [6,8,25,26,27]<|Re [Ae 31 6,Aa 32 8,As 33 1 31 32,Ae 6 33] [6,25,26,27])<|Re [Ap 34 27 1,Aa 27 34] [6,25,26,27])<|Rq [Ae 35 6,Ae 2 35] [2]<|.ret) [.tmp 2]:=b!
instance(a):CT (FH a) 38 [(eL 1 lI) a] (rO lI):=Fi ACc λr h b c=>by
  unfold FH at h;have:=BI 0 11 10 0 (hT 3 eI);have:=BI 2 27 26 0 (hO 6 lI);exact au
theorem ACd:CK f70 (Rq [Ah 2 0] [0]<|Sq (Rq [Aa 5 0,Af 6 5,⟨Y 7,.bin (.i) .lss (.s 6) (.c (.int .i64 1)),W⟩] [0,7]<|Co 7 (.bad)<|Sk [0])<|Rq [Aa 9 0,⟨Y 10,.iad (.s 9) (.c (.int .i64 0)) 1,W⟩,Ag 11 10,Aa 3 11] [0,3]<|Sq (Rq [Ah 4 1] [0,3,4]<|Bl 0<|Lo [0,3,4]<|Sq (Rq [Aa 12 4,Aa 13 0,Af 14 13,Ao 15 12 14] [0,3,4,15]<|Co 15 (Sk [0,3,4])<|Ex 0 [3])<|Sq (Bl 1<|Re [Aa 18 3,Aa 19 0,Aa 20 4,Ar 21 19 20 1,Ag 22 21,⟨Y 23,.mm false (.s 18) (.s 22),W⟩,Aa 3 23] [0,3,4])<|Re [Aa 16 4,Ap 17 16 1,Aa 4 17] [0,3,4])<|Rq [Aa 24 3,Aa 2 24] [2]<|.ret) [.tmp 2]:=b!
instance(a):CT (slices_Min_int a) 70 [lI a] rI:=Fi ACd λr h b c=>by
  unfold slices_Min_int at h;have:=BI 0 4 0 0 (hT 3 eI);exact au
end Go.Sf.Sc
