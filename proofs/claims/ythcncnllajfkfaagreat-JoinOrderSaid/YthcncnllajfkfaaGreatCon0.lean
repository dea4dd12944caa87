/- Contracts of the functions. -/
import Derived.Test.YthcncnllajfkfaaGreatShort
import Derived.Test.YthcncnllajfkfaaGreatTw
set_option linter.all false
set_option maxRecDepth 100000
set_option maxHeartbeats 4000000
open Option renaming some->Y,none->W
open Int renaming eq_ofNat_of_zero_le->v?
namespace Go.Sf.Sc
open Go Go.Sf Go.Proofs.Tryz
instance(a b):CT (slices_Equal_int a b) 23 [lI a,lI b] rB:=B1 f23 0xadc8b3eb85f9f9816a65c8b39af8da010b01ba [] (slices_Equal_int.eq_1 ..) (BM 0 13 12 0)
instance(a b):CT (GU a b) 65 [lE a,lE b] rB:=B1 f65 0xadc8b3ebbfd8bdd8bd816a65c8b39af8da010b01ba [.bin (.a [0,0,0]) .neq (.s 19) (.s 23)] (GU.eq_1 ..) (BM 0 13 12 0)
instance c66(a:List Fp)(c:List Fp)(f:Fp->Fp->K1)(b:FuncId)(d:Fq)[h:∀(g:Fp)(e:Fp),CT (f g e) b (lI g::lI e::d) rB]:CT (DL a c f) 66 [(eL 1 lI) a,(eL 1 lI) c,.clo b d] rB:=B1 f66 0xad11100f025aeb880f013682f98281616a6511100f025a9ae2da010b3602e0 [] (DL.eq_1 ..) (BM 0 17 16 0)
instance(a b):CT (slices_Index_string a b) 421 [lB a,eS b] rI:=B1 f421 0xadb2b3eb01868d36816a65b2b39a01ba [] (slices_Index_string.eq_1 ..) (BM 0 8 7 0)
instance(a b):CT (slices_Contains_string a b) 397 [lB a,eS b] rB:=Fe f397 0xdc0e36ba [] (slices_Contains_string.eq_1 ..)
theorem AB2(s:ByteArray)(c:Int)(r:Int)(h:strings_IndexByte s c=Y r):AV prog 404 [eS s,Eh c] (.sh (eI r)):=by
  unfold strings_IndexByte at h;cases h;exact wx s? ⟨Go.Lib.indexByte_ge _ _,ww _ _⟩ (λw=>Go.Proofs.Tryz.strings_IndexByte s c w)
instance ACy(s:ByteArray)(c:Int):Ct Go.Proofs.Tryz.prog (strings_IndexByte s c) 404 [eS s,Eh c] (rS eI):=⟨AB2 s c⟩
instance ACc(a:List Ba)(f:Ba->K1)(b:FuncId)(c:Fq)[e:∀(d:Ba),CT (f d) b (IJ d::c) rB]:CT (DV a f) 358 [lN a,.clo b c] rI:=B1 f358 0xadb2b3eb018fe3e436816a65b2b39a01ba [] (DV.eq_1 ..) (BM 0 8 7 0)
instance ACY(a:List Ba)(f:Ba->K1)(b:FuncId)(c:Fq)[e:∀(d:Ba),CT (f d) b (IJ d::c) rB]:CT (Cf a f) 295 [lN a,.clo b c] rB:=Fe f295 0xdc0e36ba [] (Cf.eq_1 ..)
instance ACh(a:List kh)(f:kh->K1)(b:FuncId)(c:Fq)[e:∀(d:kh),CT (f d) b (JU d::c) rB]:CT (EO a f) 396 [lA a,.clo b c] rI:=B1 f396 0xadb2b3eb018fe3e436816a65b2b39a01ba [] (EO.eq_1 ..) (BM 0 8 7 0)
instance ACd(a:List kh)(f:kh->K1)(b:FuncId)(c:Fq)[e:∀(d:kh),CT (f d) b (JU d::c) rB]:CT (C4 a f) 359 [lA a,.clo b c] rB:=Fe f359 0xdc0e36ba [] (C4.eq_1 ..)
instance ACe(a:List Cs)(f:Cs->K1)(b:FuncId)(c:Fq)[e:∀(d:Cs),CT (f d) b (JV d::c) rB]:CT (DU a f) 362 [lX a,.clo b c] rI:=B1 f362 0xadb2b3eb018f0744077e36816a65b2b39a01ba [] (DU.eq_1 ..) (BM 0 8 7 0)
instance ACZ(a:List Cs)(f:Cs->K1)(b:FuncId)(c:Fq)[e:∀(d:Cs),CT (f d) b (JV d::c) rB]:CT (Ce a f) 300 [lX a,.clo b c] rB:=Fe f300 0xdc0e36ba [] (Ce.eq_1 ..)
instance ACV(a:Fp)(f:Int->K1)(b:FuncId)(c:Fq)[e:∀(d:Int),CT (f d) b (eI d::c) rB]:CT (Em a f) 127 [lI a,.clo b c] rI:=B1 f127 0xadb2b3eb018f8d36816a65b2b39a01ba [] (Em.eq_1 ..) (BM 0 8 7 0)
instance c71(a:Fp)(f:Int->K1)(b:FuncId)(c:Fq)[e:∀(d:Int),CT (f d) b (eI d::c) rB]:CT (BG a f) 71 [lI a,.clo b c] rB:=Fe f71 0xdc0e36ba [] (BG.eq_1 ..)
instance ACb(a:List Bt)(f:Bt->K1)(b:FuncId)(c:Fq)[e:∀(d:Bt),CT (f d) b (B6 d::c) rB]:CT (EP a f) 326 [lE a,.clo b c] rI:=B1 f326 0xadb2b3eb018fd87e36816a65b2b39a01ba [] (EP.eq_1 ..) (BM 0 8 7 0)
instance ACX(a:List Bt)(f:Bt->K1)(b:FuncId)(c:Fq)[e:∀(d:Bt),CT (f d) b (B6 d::c) rB]:CT (Bq a f) 249 [lE a,.clo b c] rB:=Fe f249 0xdc0e36ba [] (Bq.eq_1 ..)
instance(a):CT (slices_Clone_string a) 357 [lB a] (rO lB):=Fe f357 0x8201483647ff01c09c36400001 [] (slices_Clone_string.eq_1 ..)
instance(a b):CT (KK a b) 365 [(eL 1 eB) a,eB b] rI:=B1 f365 0xadb2b3eb01878d36816a65b2b39a01ba [] (KK.eq_1 ..) (BM 0 8 7 0)
instance(a b):CT (GO a b) 309 [(eL 1 eB) a,eB b] rB:=Fe f309 0xdc0e36ba [] (GO.eq_1 ..)
instance ACj(a:List CA)(f:CA->K1)(b:FuncId)(c:Fq)[e:∀(d:CA),CT (f d) b (FK d::c) rB]:CT (EQ a f) 406 [lS a,.clo b c] rI:=B1 f406 0xadb2b3eb018fe3e436816a65b2b39a01ba [] (EQ.eq_1 ..) (BM 0 8 7 0)
instance ACf(a:List CA)(f:CA->K1)(b:FuncId)(c:Fq)[e:∀(d:CA),CT (f d) b (FK d::c) rB]:CT (Cm a f) 368 [lS a,.clo b c] rB:=Fe f368 0xdc0e36ba [] (Cm.eq_1 ..)
instance(a):CT (slices_Clone_int a) 125 [lI a] (rO lI):=Fe f125 0x8201483647ff01c09c36400001 [] (slices_Clone_int.eq_1 ..)
theorem ABy(l:Fp)(x:Int)(r:Int×Bool)(h:slices_BinarySearch_int l x=Y r):AV prog 286 [lI l,eI x] (.tp [eI (r.1),eB (r.2)]):=by
  unfold slices_BinarySearch_int at h;split at h
  · rename_i d
    cases h;have hb:=d.1;unfold AX at hb;refine ob s? d.1 d.2 (λa c w g=>?_) (λb e c w f=>Go.Proofs.Tryz.slices_BinarySearch_int b e l.length c l x w (az _) U f (by rw[List.take_length];exact d.2));exact Go.Proofs.Tryz.slices_BinarySearch_int_empty a c x w
  .cases h
instance ACt(l:Fp)(x:Int):Ct Go.Proofs.Tryz.prog (slices_BinarySearch_int l x) 286 [lI l,eI x] (λr=>.tp [eI (r.1),eB (r.2)]):=⟨ABy l x⟩
theorem AB1(l r:Fp)(h:slices_Compact_int l=Y r):AV prog 390 [.list 1 (l.map (TV.int .i64))] (.cut r):=by
  unfold slices_Compact_int at h;split at h
  · rename_i e
    unfold AX at e;cases h;have f:=Go.Lib.compact_length_le l;refine wj (rest:=List.replicate (l.length-(Go.Lib.compact l).length) 0) s? (by rw[List.length_replicate];omega) (λx a=>gu a) (λw b=>?_) (λg cap w c _ i d=>Go.Proofs.Tryz.slices_Compact_int g 0 cap l w d U c);subst b;exact Go.Proofs.Tryz.slices_Compact_int_empty W 0 w
  .cases h
instance ACx(l:Fp):Ct Go.Proofs.Tryz.prog (slices_Compact_int l) 390 [.list 1 (l.map (TV.int .i64))] A9.cut:=⟨AB1 l⟩
theorem AB3(l r:Fp)(h:slices_Sort_int l=Y r):AV prog 407 [.list 1 (l.map (TV.int .i64))] (.turn r []):=by
  unfold slices_Sort_int at h;rw[<-qM]at h;split at h
  · rename_i e
    unfold AX at e;cases h;refine nM s? (List.length_mergeSort _) (λx a=>List.mem_mergeSort.1 a) (λw b=>?_) (λg cap w _ _ c d=>Go.Proofs.Tryz.slices_Sort_int g 0 cap l w d c U);subst b;exact Go.Proofs.Tryz.slices_Sort_int_none W 0 w
  .cases h
instance ACz(l:Fp):Ct Go.Proofs.Tryz.prog (slices_Sort_int l) 407 [.list 1 (l.map (TV.int .i64))] (λr=>.turn r []):=⟨AB3 l⟩
instance(a b):CT (slices_Index_int a b) 76 [lI a,eI b] rI:=B1 f76 0xadb2b3eb01858d36816a65b2b39a01ba [] (slices_Index_int.eq_1 ..) (BM 0 8 7 0)
instance(a b):CT (slices_Contains_int a b) 37 [lI a,eI b] rB:=Fe f37 0xdc0e36ba [] (slices_Contains_int.eq_1 ..)
theorem AB4(l r:Fp)(h:slices_Reverse_int l=Y r):AV prog 412 [.list 1 (l.map (TV.int .i64))] (.turn r []):=by
  unfold slices_Reverse_int at h;split at h
  · rename_i d
    unfold AX at d;cases h;refine nM s? List.length_reverse (λx a=>List.mem_reverse.1 a) (λw b=>?_) (λg cap w _ _ j c=>(Go.Proofs.Tryz.slices_Reverse_int g 0 cap l w c U).mono ?_)
    · subst b
      exact Go.Proofs.Tryz.slices_Reverse_int_empty W 0 w
    · rintro e w' ⟨f,q,i⟩
      exact ⟨f,q,#[],by rw[Go.Sort.grow_empty];exact i⟩
  .cases h
instance AC0(l:Fp):Ct Go.Proofs.Tryz.prog (slices_Reverse_int l) 412 [.list 1 (l.map (TV.int .i64))] (λr=>.turn r []):=⟨AB4 l⟩
instance ACm(a:List d5)(f:d5->K1)(b:FuncId)(c:Fq)[e:∀(d:d5),CT (f d) b (AI d::c) rB]:CT (DF a f) 426 [Ef a,.clo b c] rI:=B1 f426 0xadb2b3eb018fa7097e36816a65b2b39a01ba [] (DF.eq_1 ..) (BM 0 8 7 0)
instance ACk(a:List d5)(f:d5->K1)(b:FuncId)(c:Fq)[e:∀(d:d5),CT (f d) b (AI d::c) rB]:CT (CI a f) 409 [Ef a,.clo b c] rB:=Fe f409 0xdc0e36ba [] (CI.eq_1 ..)
theorem AB0(a b c:Int)(r:Int×Int)(h:Je a b c=Y r):AV prog 387 [Ii a,Ii b,Ii c] (.ext [Ii (r.1),Ii (r.2)]):=by
  unfold Je at h;split at h
  · rename_i d
    cases h;obtain⟨⟨a0,a1⟩,⟨e,g⟩,f,i⟩:=d;intro _;refine⟨⟨rfl,?_⟩,λw vs hv=>?_⟩
    · simp only[Ii,TV.sc,TV.WF,IntKind.min,IntKind.max,IntKind.signed,IntKind.bits,and_true]
      simp only[Bool.false_eq_true,if_false];refine⟨⟨U,?_⟩,U,?_⟩
      · have:(2:Int)^ 64=18446744073709551616:=a!
        omega
      · have:(2:Int)^ 64=18446744073709551616:=a!
        omega
    · obtain⟨x,rfl⟩:=v? a0
      obtain ⟨y,rfl⟩:=v? e;obtain⟨z,rfl⟩:=v? f;have:=Go.Proofs.Any7.bits_Add64 Go.Proofs.Tryz.lays7n25 x y z U w;obtain⟨l⟩:=vs;simp only[Ii,AP,A1]at hv;obtain⟨j,k,rfl,rfl,m,n,rfl,rfl,o,p,rfl,rfl,rfl⟩:=hv;refine⟨_,this,?_⟩;simp only[Ii,AP,A1];exact⟨_,_,rfl,V,_,_,rfl,V,rfl⟩
  .cases h
instance ACw(a b c:Int):Ct Go.Proofs.Tryz.prog (Je a b c) 387 [Ii a,Ii b,Ii c] (λr=>.ext [Ii (r.1),Ii (r.2)]):=⟨AB0 a b c⟩
instance(a):CT (O7 a) 344 [lI a] rI:=B1 f344 0xd537b80304eb01853681613765b803049a9d6a01 [] (O7.eq_1 ..) (BM 0 8 7 0)
instance(a):CT (cmp_isNaN_int a) 388 [eI a] rB:=Fe f388 0x817f9201 [] (cmp_isNaN_int.eq_1 ..)
instance(a b):CT (cmp_Compare_int a b) 345 [eI a,eI b] rI:=Fe f345 0xe2853659853659e259819d0e600e01ba [] (cmp_Compare_int.eq_1 ..)
instance(a):CT (K7 a) 389 [Ii a] rB:=Fe f389 0x817f9201 [] (K7.eq_1 ..)
instance(a b):CT (JR a b) 346 [Ii a,Ii b] rI:=Fe f346 0xe2853659853659e259819d0e600e01ba [] (JR.eq_1 ..)
instance(a):CT (De a) 126 [lE a] (rO lE):=Fe f126 0x820348fc47ff03c09cfc400001 [] (De.eq_1 ..)
theorem ABx(l:Fp)(m:Int)(r:Fp)(h:Df l m=Y r):AV prog 170 [lI l,eI m] (.own (lI r)):=by
  unfold Df at h;split at h
  · rename_i a
    cases h;obtain⟨x,rfl⟩:=List.length_eq_one_iff.1 a.1;obtain⟨k,rfl⟩:=v? a.2.1;exact fv x k (by have:=a.2.2;omega)
  .cases h
instance ACr(l:Fp)(m:Int):Ct Go.Proofs.Tryz.prog (Df l m) 170 [lI l,eI m] (rO lI):=⟨ABx l m⟩
instance(a b):CT (H6 a b) 323 [lS a,lS b] rB:=B1 f323 0xadc8b3ebbfe304bde304bd816a65c8b39af8da010b01ba [.bin (.a [0,0,0,0]) .neq (.s 19) (.s 23)] (H6.eq_1 ..) (BM 0 13 12 0)
instance(a b):CT (H7 a b) 324 [lT a,lT b] rB:=B1 f324 0xadc8b3ebbf9b05bd9b05bd816a65c8b39af8da010b01ba [.bin (.a [0,0,0,0,0]) .neq (.s 19) (.s 23)] (H7.eq_1 ..) (BM 0 13 12 0)
instance ACa(a:List d5)(c:List d5)(f:d5->d5->K1)(b:FuncId)(d:Fq)[h:∀(g:d5)(e:d5),CT (f g e) b (AI g::AI e::d) rB]:CT (CY a c f) 325 [Ef a,Ef c,.clo b d] rB:=B1 f325 0xad11100f025aeb880fa7a701094b0ac9a709bd094ba6c9a709436a6511100f025a9ae2da010b3602e0 [] (CY.eq_1 ..) (BM 0 17 16 0)
instance(a):CT (KI a) 168 [(eL 4 ND) a] (rO (eL 4 ND)):=Fe f168 0x820448f547ff04c09cf5400001 [] (KI.eq_1 ..)
instance ACW(a:List A7)(f:A7->K1)(b:FuncId)(c:Fq)[e:∀(d:A7),CT (f d) b (CX d::c) rB]:CT (Dm a f) 169 [(eL 9 CX) a,.clo b c] rI:=B1 f169 0xadb2b3eb018fa7097e36816a65b2b39a01ba [] (Dm.eq_1 ..) (BM 0 8 7 0)
instance ACU(a:List A7)(f:A7->K1)(b:FuncId)(c:Fq)[e:∀(d:A7),CT (f d) b (CX d::c) rB]:CT (CF a f) 106 [(eL 9 CX) a,.clo b c] rB:=Fe f106 0xdc0e36ba [] (CF.eq_1 ..)
theorem c77(s:Fp)(n:Int)(r:Fp)(h:MM s n=Y r):AV prog 77 [.nil,eI n] (.own (lI r)):=by
  unfold MM at h;split at h
  · rename_i c
    cases h;obtain⟨k,rfl⟩:=v? c.2.1;have d:k<=AX:=by have:=c.2.2;omega
    have hb:=d;unfold AX at hb;obtain⟨b,f,g,m,i⟩:∃b,prog.info? 3=Y b/\b.zero=Y (.int .i64 0)/\b.size=1/\b.bytes=8:=⟨_,rfl,rfl,rfl,rfl⟩;refine uG s? d (e:=3) (z:=(Value.int .i64 0).cells) rfl (λw j=>?_) (λw l=>?_)
    .exact Go.Proofs.Any8.slices_Grow_room Go.Proofs.Tryz.growI W 0 0 k w (az _) U U U
    .exact Go.Proofs.Any8.slices_Grow_grow Go.Proofs.Tryz.growI b (.int .i64 0) f g U W 0 0 k [] w (az _) U (by rw[i];omega) U V (λ_=>rfl) (λa ha=>by cases ha)
  .cases h
instance i77(s:Fp)(n:Int):Ct Go.Proofs.Tryz.prog (MM s n) 77 [.nil,eI n] (rO lI):=⟨c77 s n⟩
theorem AB8:CK f38 (Rq [Ap 2 1] [0]<|Rq [Ao 3 0] [0,3]<|Sq (Rq [Aa 9 0,Al 10 9,Ao 11 0] [0,3,9,10,11]<|Bl 0<|Lo [0,3,9,10,11]<|Rq [As 12 11 10] [0,3,9,10,11,12]<|Sq (Co 12 (Sk [0,3,9,10,11])<|Ex 0 [0,3])<|Sq (Bl 1<|Rq [Au 13 9 11 1,Aj 14 13,Ad 5 14] [0,3,5,9,10,11]<|Rq [Aa 15 3,Aa 16 5,Al 17 16,⟨Y 18,.bin (.i) .add (.s 15) (.s 17),W⟩,Aa 3 18] [0,3,9,10,11]<|Rq [Aa 19 3,⟨Y 20,.bin (.i) .lss (.s 19) (.c (.int .i64 0)),W⟩] [0,3,9,10,11,20]<|Co 20 (.bad)<|Sk [0,3,9,10,11])<|Re [Av 22 11 1,Aa 11 22] [0,3,9,10,11])<|Rq [Aa 23 3,⟨Y 24,.call 77 [.c .nil,.s 23],W⟩,Ad 6 24] [0,6]<|Sq (Rq [Aa 25 0,Al 26 25,Ao 27 0] [6,25,26,27]<|Bl 2<|Lo [6,25,26,27]<|Rq [As 28 27 26] [6,25,26,27,28]<|Sq (Co 28 (Sk [6,25,26,27])<|Ex 2 [6])<|Sq (Bl 3<|Rq [Au 29 25 27 1,Aj 30 29,Ad 8 30] [6,8,25,26,27]<|Re [Ad 31 6,Aa 32 8,⟨Y 33,.app 1 (.s 31) (.s 32),W⟩,Ad 6 33] [6,25,26,27])<|Re [Av 34 27 1,Aa 27 34] [6,25,26,27])<|Rq [Ad 35 6,Ad 2 35] [2]<|.ret) [.tmp 2]:=c!
instance(a):CT (KJ a) 38 [(eL 1 lI) a] (rO lI):=Fi AB8 λr h b c=>by
  unfold KJ at h;have:=BH 0 11 10 0 (hT 3 eI);have:=BH 2 27 26 0 (hO 6 lI);exact au
theorem AB9:CK f70 (Rq [Ao 2 0] [0]<|Sq (Rq [Aa 5 0,Al 6 5,⟨Y 7,.bin (.i) .lss (.s 6) (.c (.int .i64 1)),W⟩] [0,7]<|Co 7 (.bad)<|Sk [0])<|Rq [Aa 9 0,⟨Y 10,.iad (.s 9) (.c (.int .i64 0)) 1,W⟩,Aj 11 10,Aa 3 11] [0,3]<|Sq (Rq [Ao 4 1] [0,3,4]<|Bl 0<|Lo [0,3,4]<|Sq (Rq [Aa 12 4,Aa 13 0,Al 14 13,As 15 12 14] [0,3,4,15]<|Co 15 (Sk [0,3,4])<|Ex 0 [3])<|Sq (Bl 1<|Re [Aa 18 3,Aa 19 0,Aa 20 4,Au 21 19 20 1,Aj 22 21,⟨Y 23,.mm false (.s 18) (.s 22),W⟩,Aa 3 23] [0,3,4])<|Re [Aa 16 4,Av 17 16 1,Aa 4 17] [0,3,4])<|Rq [Aa 24 3,Aa 2 24] [2]<|.ret) [.tmp 2]:=c!
instance(a):CT (slices_Min_int a) 70 [lI a] rI:=Fi AB9 λr h b c=>by
  unfold slices_Min_int at h;have:=BH 0 4 0 0 (hT 3 eI);exact au
end Go.Sf.Sc
