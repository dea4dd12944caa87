/- Contracts of the functions. -/
import Derived.Test.YthcncnllajfkfaaGreatShort
import Derived.Test.YthcncnllajfkfaaGreatTw
set_option linter.all false
set_option maxRecDepth 100000
set_option maxHeartbeats 4000000
open Option renaming some->Y,none->W
open Int renaming eq_ofNat_of_zero_le->v5
namespace Go.Sf.Sc
open Go Go.Sf Go.Proofs.Tryz
instance(a b):CT (slices_Equal_int a b) 23 [lI a,lI b] rB:=By f23 0xa7c1a692b9bbbb81fbc1a69a01b9f80be6 [] (slices_Equal_int.eq_1 ..) (BB 0 13 12 0)
instance(a b):CT (Gd a b) 65 [lE a,lE b] rB:=By f65 0xa7c1a69237bfc8b6c8b681fbc1a69a01b9f80be6 [.bin (.a [0,0,0]) .neq (.s 19) (.s 23)] (Gd.eq_1 ..) (BB 0 13 12 0)
instance c66(b:List Fp)(c:List Fp)(e:Fp->Fp->K1)(a:FuncId)(d:Fq)[h:∀(g:Fp)(f:Fp),CT (e g f) a (lI g::lI f::d) rB]:CT (DN b c e) 66 [(eL 1 lI) b,(eL 1 lI) c,.clo a d] rB:=By f66 0xa711100f02559237880f7782bb82815dfb11100f02559a81b9f80b3002be [] (DN.eq_1 ..) (BB 0 17 16 0)
instance(a b):CT (slices_Index_string a b) 421 [lB a,eS b] rI:=By f421 0xa778a6923701865d7781fb78a69ae6 [] (slices_Index_string.eq_1 ..) (BB 0 8 7 0)
instance(a b):CT (slices_Contains_string a b) 397 [lB a,eS b] rB:=Fe f397 0xba0e30fa [] (slices_Contains_string.eq_1 ..)
theorem ACO(s:ByteArray)(c:Int)(r:Int)(h:strings_IndexByte s c=Y r):AT prog 404 [eS s,X0 c] (.sh (eI r)):=by
  unfold strings_IndexByte at h;cases h;exact xT q? ⟨Go.Lib.indexByte_ge _ _,xS _ _⟩ (λw=>Go.Proofs.Tryz.strings_IndexByte s c w)
instance ADA(s:ByteArray)(c:Int):Ct Go.Proofs.Tryz.prog (strings_IndexByte s c) 404 [eS s,X0 c] (rS eI):=⟨ACO s c⟩
instance ACo(b:List Cj)(f:Cj->K1)(c:FuncId)(a:Fq)[e:∀(d:Cj),CT (f d) c (FB d::a) rB]:CT (DU b f) 358 [lN b,.clo c a] rI:=By f358 0xa778a69237018fd504437781fb78a69ae6 [] (DU.eq_1 ..) (BB 0 8 7 0)
instance ACk(b:List Cj)(f:Cj->K1)(c:FuncId)(a:Fq)[e:∀(d:Cj),CT (f d) c (FB d::a) rB]:CT (Cf b f) 295 [lN b,.clo c a] rB:=Fe f295 0xba0e30fa [] (Cf.eq_1 ..)
instance ACt(b:List ke)(f:ke->K1)(c:FuncId)(a:Fq)[e:∀(d:ke),CT (f d) c (HF d::a) rB]:CT (EO b f) 396 [lA b,.clo c a] rI:=By f396 0xa778a69237018fd504437781fb78a69ae6 [] (EO.eq_1 ..) (BB 0 8 7 0)
instance ACp(b:List ke)(f:ke->K1)(c:FuncId)(a:Fq)[e:∀(d:ke),CT (f d) c (HF d::a) rB]:CT (C6 b f) 359 [lA b,.clo c a] rB:=Fe f359 0xba0e30fa [] (C6.eq_1 ..)
instance ACq(b:List Cx)(f:Cx->K1)(c:FuncId)(a:Fq)[e:∀(d:Cx),CT (f d) c (F1 d::a) rB]:CT (DT b f) 362 [lX b,.clo c a] rI:=By f362 0xa778a69237018f074407437781fb78a69ae6 [] (DT.eq_1 ..) (BB 0 8 7 0)
instance ACl(b:List Cx)(f:Cx->K1)(c:FuncId)(a:Fq)[e:∀(d:Cx),CT (f d) c (F1 d::a) rB]:CT (Ce b f) 300 [lX b,.clo c a] rB:=Fe f300 0xba0e30fa [] (Ce.eq_1 ..)
instance ACh(b:Fp)(f:Int->K1)(c:FuncId)(a:Fq)[e:∀(d:Int),CT (f d) c (eI d::a) rB]:CT (Es b f) 127 [lI b,.clo c a] rI:=By f127 0xa778a69237018f5d7781fb78a69ae6 [] (Es.eq_1 ..) (BB 0 8 7 0)
instance c71(b:Fp)(f:Int->K1)(c:FuncId)(a:Fq)[e:∀(d:Int),CT (f d) c (eI d::a) rB]:CT (A4 b f) 71 [lI b,.clo c a] rB:=Fe f71 0xba0e30fa [] (A4.eq_1 ..)
instance ACn(b:List CC)(f:CC->K1)(c:FuncId)(a:Fq)[e:∀(d:CC),CT (f d) c (BQ d::a) rB]:CT (EP b f) 326 [lE b,.clo c a] rI:=By f326 0xa778a69237018fc8437781fb78a69ae6 [] (EP.eq_1 ..) (BB 0 8 7 0)
instance ACj(b:List CC)(f:CC->K1)(c:FuncId)(a:Fq)[e:∀(d:CC),CT (f d) c (BQ d::a) rB]:CT (Bm b f) 249 [lE b,.clo c a] rB:=Fe f249 0xba0e30fa [] (Bm.eq_1 ..)
instance(a):CT (slices_Clone_string a) 357 [lB a] (rO lB):=Fe f357 0x8201483047ffe59c3040d7 [] (slices_Clone_string.eq_1 ..)
instance(a b):CT (KT a b) 365 [(eL 1 eB) a,eB b] rI:=By f365 0xa778a6923701875d7781fb78a69ae6 [] (KT.eq_1 ..) (BB 0 8 7 0)
instance(a b):CT (GX a b) 309 [(eL 1 eB) a,eB b] rB:=Fe f309 0xba0e30fa [] (GX.eq_1 ..)
instance ACv(b:List Cu)(f:Cu->K1)(c:FuncId)(a:Fq)[e:∀(d:Cu),CT (f d) c (Da d::a) rB]:CT (EQ b f) 406 [lS b,.clo c a] rI:=By f406 0xa778a69237018fd504437781fb78a69ae6 [] (EQ.eq_1 ..) (BB 0 8 7 0)
instance ACr(b:List Cu)(f:Cu->K1)(c:FuncId)(a:Fq)[e:∀(d:Cu),CT (f d) c (Da d::a) rB]:CT (Cm b f) 368 [lS b,.clo c a] rB:=Fe f368 0xba0e30fa [] (Cm.eq_1 ..)
instance(a):CT (slices_Clone_int a) 125 [lI a] (rO lI):=Fe f125 0x8201483047ffe59c3040d7 [] (slices_Clone_int.eq_1 ..)
theorem ACK(l:Fp)(x:Int)(r:Int×Bool)(h:slices_BinarySearch_int l x=Y r):AT prog 286 [lI l,eI x] (.tp [eI (r.1),eB (r.2)]):=by
  unfold slices_BinarySearch_int at h;split at h
  · rename_i d
    cases h;have hb:=d.1;unfold AY at hb;refine pF q? d.1 d.2 (λa c w g=>?_) (λb e c w f=>Go.Proofs.Tryz.slices_BinarySearch_int b e l.length c l x w (ae _) U f (by rw[List.take_length];exact d.2));exact Go.Proofs.Tryz.slices_BinarySearch_int_empty a c x w
  .cases h
instance AC5(l:Fp)(x:Int):Ct Go.Proofs.Tryz.prog (slices_BinarySearch_int l x) 286 [lI l,eI x] (λr=>.tp [eI (r.1),eB (r.2)]):=⟨ACK l x⟩
theorem ACN(l r:Fp)(h:slices_Compact_int l=Y r):AT prog 390 [.list 1 (l.map (TV.int .i64))] (.cut r):=by
  unfold slices_Compact_int at h;split at h
  · rename_i e
    unfold AY at e;cases h;have f:=Go.Lib.compact_length_le l;refine xK (rest:=List.replicate (l.length-(Go.Lib.compact l).length) 0) q? (by rw[List.length_replicate];omega) (λx a=>ic a) (λw b=>?_) (λg cap w c _ i d=>Go.Proofs.Tryz.slices_Compact_int g 0 cap l w d U c);subst b;exact Go.Proofs.Tryz.slices_Compact_int_empty W 0 w
  .cases h
instance AC9(l:Fp):Ct Go.Proofs.Tryz.prog (slices_Compact_int l) 390 [.list 1 (l.map (TV.int .i64))] Az.cut:=⟨ACN l⟩
theorem ACP(l r:Fp)(h:slices_Sort_int l=Y r):AT prog 407 [.list 1 (l.map (TV.int .i64))] (.turn r []):=by
  unfold slices_Sort_int at h;rw[<-ql]at h;split at h
  · rename_i e
    unfold AY at e;cases h;refine n8 q? (List.length_mergeSort _) (λx a=>List.mem_mergeSort.1 a) (λw b=>?_) (λg cap w _ _ c d=>Go.Proofs.Tryz.slices_Sort_int g 0 cap l w d c U);subst b;exact Go.Proofs.Tryz.slices_Sort_int_none W 0 w
  .cases h
instance ADB(l:Fp):Ct Go.Proofs.Tryz.prog (slices_Sort_int l) 407 [.list 1 (l.map (TV.int .i64))] (λr=>.turn r []):=⟨ACP l⟩
instance(a b):CT (slices_Index_int a b) 76 [lI a,eI b] rI:=By f76 0xa778a6923701855d7781fb78a69ae6 [] (slices_Index_int.eq_1 ..) (BB 0 8 7 0)
instance(a b):CT (slices_Contains_int a b) 37 [lI a,eI b] rB:=Fe f37 0xba0e30fa [] (slices_Contains_int.eq_1 ..)
theorem ACQ(l r:Fp)(h:slices_Reverse_int l=Y r):AT prog 412 [.list 1 (l.map (TV.int .i64))] (.turn r []):=by
  unfold slices_Reverse_int at h;split at h
  · rename_i d
    unfold AY at d;cases h;refine n8 q? List.length_reverse (λx a=>List.mem_reverse.1 a) (λw b=>?_) (λg cap w _ _ j c=>(Go.Proofs.Tryz.slices_Reverse_int g 0 cap l w c U).mono ?_)
    · subst b
      exact Go.Proofs.Tryz.slices_Reverse_int_empty W 0 w
    · rintro e w' ⟨f,q,i⟩
      exact ⟨f,q,#[],by rw[Go.Sort.grow_empty];exact i⟩
  .cases h
instance ADC(l:Fp):Ct Go.Proofs.Tryz.prog (slices_Reverse_int l) 412 [.list 1 (l.map (TV.int .i64))] (λr=>.turn r []):=⟨ACQ l⟩
instance ACy(b:List d5)(f:d5->K1)(c:FuncId)(a:Fq)[e:∀(d:d5),CT (f d) c (AJ d::a) rB]:CT (DI b f) 426 [Cz b,.clo c a] rI:=By f426 0xa778a69237018ffd437781fb78a69ae6 [] (DI.eq_1 ..) (BB 0 8 7 0)
instance ACw(b:List d5)(f:d5->K1)(c:FuncId)(a:Fq)[e:∀(d:d5),CT (f d) c (AJ d::a) rB]:CT (CG b f) 409 [Cz b,.clo c a] rB:=Fe f409 0xba0e30fa [] (CG.eq_1 ..)
theorem ACM(a b c:Int)(r:Int×Int)(h:Jh a b c=Y r):AT prog 387 [MB a,MB b,MB c] (.ext [MB (r.1),MB (r.2)]):=by
  unfold Jh at h;split at h
  · rename_i d
    cases h;obtain⟨⟨a0,a1⟩,⟨e,g⟩,f,i⟩:=d;intro _;refine⟨⟨rfl,?_⟩,λw vs hv=>?_⟩
    · simp only[MB,TV.p0,TV.WF,IntKind.min,IntKind.max,IntKind.signed,IntKind.bits,and_true]
      simp only[Bool.false_eq_true,if_false];refine⟨⟨U,?_⟩,U,?_⟩
      · have:(2:Int)^ 64=18446744073709551616:=a!
        omega
      · have:(2:Int)^ 64=18446744073709551616:=a!
        omega
    · obtain⟨x,rfl⟩:=v5 a0
      obtain ⟨y,rfl⟩:=v5 e;obtain⟨z,rfl⟩:=v5 f;have:=Go.Proofs.Any7.bits_Add64 Go.Proofs.Tryz.lays7n25 x y z U w;obtain⟨l⟩:=vs;simp only[MB,AQ,As]at hv;obtain⟨j,k,rfl,rfl,m,n,rfl,rfl,o,p,rfl,rfl,rfl⟩:=hv;refine⟨_,this,?_⟩;simp only[MB,AQ,As];exact⟨_,_,rfl,V,_,_,rfl,V,rfl⟩
  .cases h
instance AC8(a b c:Int):Ct Go.Proofs.Tryz.prog (Jh a b c) 387 [MB a,MB b,MB c] (λr=>.ext [MB (r.1),MB (r.2)]):=⟨ACM a b c⟩
instance(a):CT (O6 a) 344 [lI a] rI:=By f344 0x810131da03049237018530815d3161da03049a9e5f01 [] (O6.eq_1 ..) (BB 0 8 7 0)
instance(a):CT (cmp_isNaN_int a) 388 [eI a] rB:=Fe f388 0xba77d7 [] (cmp_isNaN_int.eq_1 ..)
instance(a b):CT (cmp_Compare_int a b) 345 [eI a,eI b] rI:=Fe f345 0x81b930b930cb37cb9e0e5e0ee6 [] (cmp_Compare_int.eq_1 ..)
instance(a):CT (K8 a) 389 [MB a] rB:=Fe f389 0xba77d7 [] (K8.eq_1 ..)
instance(a b):CT (JW a b) 346 [MB a,MB b] rI:=Fe f346 0x81b930b930cb37cb9e0e5e0ee6 [] (JW.eq_1 ..)
instance(a):CT (DB a) 126 [lE a] (rO lE):=Fe f126 0x820348010347ff03c09c010340d7 [] (DB.eq_1 ..)
theorem ACJ(l:Fp)(m:Int)(r:Fp)(h:DC l m=Y r):AT prog 170 [lI l,eI m] (.own (lI r)):=by
  unfold DC at h;split at h
  · rename_i a
    cases h;obtain⟨x,rfl⟩:=List.length_eq_one_iff.1 a.1;obtain⟨k,rfl⟩:=v5 a.2.1;exact gw x k (by have:=a.2.2;omega)
  .cases h
instance AC3(l:Fp)(m:Int):Ct Go.Proofs.Tryz.prog (DC l m) 170 [lI l,eI m] (rO lI):=⟨ACJ l m⟩
instance(a b):CT (IB a b) 323 [lS a,lS b] rB:=By f323 0xa7c1a69237bfd504b6d504b681fbc1a69a01b9f80be6 [.bin (.a [0,0,0,0]) .neq (.s 19) (.s 23)] (IB.eq_1 ..) (BB 0 13 12 0)
instance(a b):CT (IC a b) 324 [lT a,lT b] rB:=By f324 0xa7c1a69237bf8905b68905b681fbc1a69a01b9f80be6 [.bin (.a [0,0,0,0,0]) .neq (.s 19) (.s 23)] (IC.eq_1 ..) (BB 0 13 12 0)
instance ACm(b:List d5)(c:List d5)(e:d5->d5->K1)(a:FuncId)(d:Fq)[h:∀(g:d5)(f:d5),CT (e g f) a (AJ g::AJ f::d) rB]:CT (CY b c e) 325 [Cz b,Cz c,.clo a d] rB:=By f325 0xa711100f02559237880fa1a101094b0ac9fdb6094b80c9fd43fb11100f02559a81b9f80b3002be [] (CY.eq_1 ..) (BB 0 17 16 0)
instance(a):CT (KS a) 168 [(eL 4 GN) a] (rO (eL 4 GN)):=Fe f168 0x820448f147ff04c09cf140d7 [] (KS.eq_1 ..)
instance ACi(b:List Ax)(f:Ax->K1)(c:FuncId)(a:Fq)[e:∀(d:Ax),CT (f d) c (CX d::a) rB]:CT (Dk b f) 169 [(eL 9 CX) b,.clo c a] rI:=By f169 0xa778a69237018ffd437781fb78a69ae6 [] (Dk.eq_1 ..) (BB 0 8 7 0)
instance ACg(b:List Ax)(f:Ax->K1)(c:FuncId)(a:Fq)[e:∀(d:Ax),CT (f d) c (CX d::a) rB]:CT (CB b f) 106 [(eL 9 CX) b,.clo c a] rB:=Fe f106 0xba0e30fa [] (CB.eq_1 ..)
theorem c77(s:Fp)(n:Int)(r:Fp)(h:Jq s n=Y r):AT prog 77 [.nil,eI n] (.own (lI r)):=by
  unfold Jq at h;split at h
  · rename_i c
    cases h;obtain⟨k,rfl⟩:=v5 c.2.1;have d:k<=AY:=by have:=c.2.2;omega
    have hb:=d;unfold AY at hb;obtain⟨b,f,g,m,i⟩:∃b,prog.info? 3=Y b/\b.zero=Y (.int .i64 0)/\b.size=1/\b.bytes=8:=⟨_,rfl,rfl,rfl,rfl⟩;refine ui q? d (e:=3) (z:=(Value.int .i64 0).cells) rfl (λw j=>?_) (λw l=>?_)
    .exact Go.Proofs.Any8.slices_Grow_room Go.Proofs.Tryz.growI W 0 0 k w (ae _) U U U
    .exact Go.Proofs.Any8.slices_Grow_grow Go.Proofs.Tryz.growI b (.int .i64 0) f g U W 0 0 k [] w (ae _) U (by rw[i];omega) U V (λ_=>rfl) (λa ha=>by cases ha)
  .cases h
instance i77(s:Fp)(n:Int):Ct Go.Proofs.Tryz.prog (Jq s n) 77 [.nil,eI n] (rO lI):=⟨c77 s n⟩
theorem ACT:CK f38 (Rq [⟨Y 2,.Abe 1,W⟩] [0]<|Rq [Ad 3 0] [0,3]<|Sq (Rq [Aa 9 0,Ae 10 9,Ad 11 0] [0,3,9,10,11]<|Bl 0<|Lo [0,3,9,10,11]<|Rq [Ai 12 11 10] [0,3,9,10,11,12]<|Sq (Co 12 (Sk [0,3,9,10,11])<|Ex 0 [0,3])<|Sq (Bl 1<|Rq [Aj 13 9 11 1,Ac 14 13,Ab 5 14] [0,3,5,9,10,11]<|Rq [Aa 15 3,Aa 16 5,Ae 17 16,⟨Y 18,.bin (.i) .add (.s 15) (.s 17),W⟩,Aa 3 18] [0,3,9,10,11]<|Rq [Aa 19 3,⟨Y 20,.bin (.i) .lss (.s 19) (.c (.int .i64 0)),W⟩] [0,3,9,10,11,20]<|Co 20 (.bad)<|Sk [0,3,9,10,11])<|Re [Ak 22 11 1,Aa 11 22] [0,3,9,10,11])<|Rq [Aa 23 3,⟨Y 24,.call 77 [.c .nil,.s 23],W⟩,Ab 6 24] [0,6]<|Sq (Rq [Aa 25 0,Ae 26 25,Ad 27 0] [6,25,26,27]<|Bl 2<|Lo [6,25,26,27]<|Rq [Ai 28 27 26] [6,25,26,27,28]<|Sq (Co 28 (Sk [6,25,26,27])<|Ex 2 [6])<|Sq (Bl 3<|Rq [Aj 29 25 27 1,Ac 30 29,Ab 8 30] [6,8,25,26,27]<|Re [Ab 31 6,Aa 32 8,⟨Y 33,.app 1 (.s 31) (.s 32),W⟩,Ab 6 33] [6,25,26,27])<|Re [Ak 34 27 1,Aa 27 34] [6,25,26,27])<|Rq [Ab 35 6,Ab 2 35] [2]<|.ret) [.tmp 2]:=b!
instance(a):CT (E6 a) 38 [(eL 1 lI) a] (rO lI):=Fi ACT λr h b c=>by
  unfold E6 at h;have:=A8 0 11 10 0 (hT 3 eI);have:=A8 2 27 26 0 (hO 6 lI);exact au
theorem ACU:CK f70 (Rq [Ad 2 0] [0]<|Sq (Rq [Aa 5 0,Ae 6 5,⟨Y 7,.bin (.i) .lss (.s 6) (.c (.int .i64 1)),W⟩] [0,7]<|Co 7 (.bad)<|Sk [0])<|Rq [Aa 9 0,⟨Y 10,.iad (.s 9) (.c (.int .i64 0)) 1,W⟩,Ac 11 10,Aa 3 11] [0,3]<|Sq (Rq [Ad 4 1] [0,3,4]<|Bl 0<|Lo [0,3,4]<|Sq (Rq [Aa 12 4,Aa 13 0,Ae 14 13,Ai 15 12 14] [0,3,4,15]<|Co 15 (Sk [0,3,4])<|Ex 0 [3])<|Sq (Bl 1<|Re [Aa 18 3,Aa 19 0,Aa 20 4,Aj 21 19 20 1,Ac 22 21,⟨Y 23,.mm false (.s 18) (.s 22),W⟩,Aa 3 23] [0,3,4])<|Re [Aa 16 4,Ak 17 16 1,Aa 4 17] [0,3,4])<|Rq [Aa 24 3,Aa 2 24] [2]<|.ret) [.tmp 2]:=b!
instance(a):CT (slices_Min_int a) 70 [lI a] rI:=Fi ACU λr h b c=>by
  unfold slices_Min_int at h;have:=A8 0 4 0 0 (hT 3 eI);exact au
end Go.Sf.Sc
