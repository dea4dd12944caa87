/- Contracts of the functions. -/
import Derived.Test.YthcncnllajfkfaaGreatShort
import Derived.Test.YthcncnllajfkfaaGreatTw
set_option linter.all false
set_option maxRecDepth 100000
set_option maxHeartbeats 4000000
open Option renaming some->Y,none->W
open Int renaming eq_ofNat_of_zero_le->w_
namespace Go.Sf.Sc
open Go Go.Sf Go.Proofs.Tryz
instance(a b):CT (slices_Equal_int a b) 23 [lI a,lI b] rB:=Bi f23 0xadc8b597bcecec816a65c8b59a01bce6e6ba [] (slices_Equal_int.eq_1 ..) (A9 0 13 12 0)
instance(a b):CT (GE a b) 65 [lE a,lE b] rB:=Bi f65 0xadc8b59759bfd0c6d0c6816a65c8b59a01bce6e6ba [.bin (.a [0,0,0]) .neq (.s 19) (.s 23)] (GE.eq_1 ..) (A9 0 13 12 0)
instance c66(c:List Fp)(b:List Fp)(e:Fp->Fp->K1)(d:FuncId)(a:Fq)[h:∀(f:Fp)(g:Fp),CT (e f g) d (lI f::lI g::a) rB]:CT (C8 c b e) 66 [(eL 1 lI) c,(eL 1 lI) b,.clo d a] rB:=Bi f66 0xad11100f025a9759880f013682ec8281606a6511100f025a9a81bce60b3602d5 [] (C8.eq_1 ..) (A9 0 17 16 0)
instance(a b):CT (slices_Index_string a b) 421 [lB a,eS b] rI:=Bi f421 0xad7db5975901869036816a657db59a01ba [] (slices_Index_string.eq_1 ..) (A9 0 8 7 0)
instance(a b):CT (slices_Contains_string a b) 397 [lB a,eS b] rB:=Fe f397 0xdc0e36ba [] (slices_Contains_string.eq_1 ..)
theorem AB0(s:ByteArray)(c:Int)(r:Int)(h:strings_IndexByte s c=Y r):AV prog 404 [eS s,Eb c] (.sh (eI r)):=by
  unfold strings_IndexByte at h;cases h;exact ww t_ ⟨Go.Lib.indexByte_ge _ _,wv _ _⟩ (λw=>Go.Proofs.Tryz.strings_IndexByte s c w)
instance ACv(s:ByteArray)(c:Int):Ct Go.Proofs.Tryz.prog (strings_IndexByte s c) 404 [eS s,Eb c] (rS eI):=⟨AB0 s c⟩
instance ACZ(c:List BO)(f:BO->K1)(a:FuncId)(b:Fq)[e:∀(d:BO),CT (f d) a (H5 d::b) rB]:CT (DG c f) 358 [lN c,.clo a b] rI:=Bi f358 0xad7db59759018fd7d936816a657db59a01ba [] (DG.eq_1 ..) (A9 0 8 7 0)
instance ACV(c:List BO)(f:BO->K1)(a:FuncId)(b:Fq)[e:∀(d:BO),CT (f d) a (H5 d::b) rB]:CT (CS c f) 295 [lN c,.clo a b] rB:=Fe f295 0xdc0e36ba [] (CS.eq_1 ..)
instance ACe(c:List kp)(f:kp->K1)(a:FuncId)(b:Fq)[e:∀(d:kp),CT (f d) a (JI d::b) rB]:CT (ED c f) 396 [lA c,.clo a b] rI:=Bi f396 0xad7db59759018fd7d936816a657db59a01ba [] (ED.eq_1 ..) (A9 0 8 7 0)
instance ACa(c:List kp)(f:kp->K1)(a:FuncId)(b:Fq)[e:∀(d:kp),CT (f d) a (JI d::b) rB]:CT (Cs c f) 359 [lA c,.clo a b] rB:=Fe f359 0xdc0e36ba [] (Cs.eq_1 ..)
instance ACb(c:List Cf)(f:Cf->K1)(a:FuncId)(b:Fq)[e:∀(d:Cf),CT (f d) a (JJ d::b) rB]:CT (DF c f) 362 [lX c,.clo a b] rI:=Bi f362 0xad7db59759018f0744077e36816a657db59a01ba [] (DF.eq_1 ..) (A9 0 8 7 0)
instance ACW(c:List Cf)(f:Cf->K1)(a:FuncId)(b:Fq)[e:∀(d:Cf),CT (f d) a (JJ d::b) rB]:CT (CR c f) 300 [lX c,.clo a b] rB:=Fe f300 0xdc0e36ba [] (CR.eq_1 ..)
instance ACS(c:Fp)(f:Int->K1)(a:FuncId)(b:Fq)[e:∀(d:Int),CT (f d) a (eI d::b) rB]:CT (EZ c f) 127 [lI c,.clo a b] rI:=Bi f127 0xad7db59759018f9036816a657db59a01ba [] (EZ.eq_1 ..) (A9 0 8 7 0)
instance c71(c:Fp)(f:Int->K1)(a:FuncId)(b:Fq)[e:∀(d:Int),CT (f d) a (eI d::b) rB]:CT (A3 c f) 71 [lI c,.clo a b] rB:=Fe f71 0xdc0e36ba [] (A3.eq_1 ..)
instance ACY(c:List Bk)(f:Bk->K1)(a:FuncId)(b:Fq)[e:∀(d:Bk),CT (f d) a (Bt d::b) rB]:CT (EE c f) 326 [lE c,.clo a b] rI:=Bi f326 0xad7db59759018fd07e36816a657db59a01ba [] (EE.eq_1 ..) (A9 0 8 7 0)
instance ACU(c:List Bk)(f:Bk->K1)(a:FuncId)(b:Fq)[e:∀(d:Bk),CT (f d) a (Bt d::b) rB]:CT (Be c f) 249 [lE c,.clo a b] rB:=Fe f249 0xdc0e36ba [] (Be.eq_1 ..)
instance(a):CT (slices_Clone_string a) 357 [lB a] (rO lB):=Fe f357 0x8201483647ffe19c36400001 [] (slices_Clone_string.eq_1 ..)
instance(a b):CT (J9 a b) 365 [(eL 1 eB) a,eB b] rI:=Bi f365 0xad7db5975901879036816a657db59a01ba [] (J9.eq_1 ..) (A9 0 8 7 0)
instance(a b):CT (F9 a b) 309 [(eL 1 eB) a,eB b] rB:=Fe f309 0xdc0e36ba [] (F9.eq_1 ..)
instance ACg(c:List By)(f:By->K1)(a:FuncId)(b:Fq)[e:∀(d:By),CT (f d) a (E8 d::b) rB]:CT (EF c f) 406 [lS c,.clo a b] rI:=Bi f406 0xad7db59759018fd7d936816a657db59a01ba [] (EF.eq_1 ..) (A9 0 8 7 0)
instance ACc(c:List By)(f:By->K1)(a:FuncId)(b:Fq)[e:∀(d:By),CT (f d) a (E8 d::b) rB]:CT (Ca c f) 368 [lS c,.clo a b] rB:=Fe f368 0xdc0e36ba [] (Ca.eq_1 ..)
instance(a):CT (slices_Clone_int a) 125 [lI a] (rO lI):=Fe f125 0x8201483647ffe19c36400001 [] (slices_Clone_int.eq_1 ..)
theorem ABw(l:Fp)(x:Int)(r:Int×Bool)(h:slices_BinarySearch_int l x=Y r):AV prog 286 [lI l,eI x] (.tp [eI (r.1),eB (r.2)]):=by
  unfold slices_BinarySearch_int at h;split at h
  · rename_i d
    cases h;have hb:=d.1;unfold AX at hb;refine oX t_ d.1 d.2 (λa c w g=>?_) (λb e c w f=>Go.Proofs.Tryz.slices_BinarySearch_int b e l.length c l x w (az _) U f (by rw[List.take_length];exact d.2));exact Go.Proofs.Tryz.slices_BinarySearch_int_empty a c x w
  .cases h
instance ACq(l:Fp)(x:Int):Ct Go.Proofs.Tryz.prog (slices_BinarySearch_int l x) 286 [lI l,eI x] (λr=>.tp [eI (r.1),eB (r.2)]):=⟨ABw l x⟩
theorem ABz(l r:Fp)(h:slices_Compact_int l=Y r):AV prog 390 [.list 1 (l.map (TV.int .i64))] (.cut r):=by
  unfold slices_Compact_int at h;split at h
  · rename_i e
    unfold AX at e;cases h;have f:=Go.Lib.compact_length_le l;refine wc (rest:=List.replicate (l.length-(Go.Lib.compact l).length) 0) t_ (by rw[List.length_replicate];omega) (λx a=>gZ a) (λw b=>?_) (λg cap w c _ i d=>Go.Proofs.Tryz.slices_Compact_int g 0 cap l w d U c);subst b;exact Go.Proofs.Tryz.slices_Compact_int_empty W 0 w
  .cases h
instance ACu(l:Fp):Ct Go.Proofs.Tryz.prog (slices_Compact_int l) 390 [.list 1 (l.map (TV.int .i64))] Ax.cut:=⟨ABz l⟩
theorem AB1(l r:Fp)(h:slices_Sort_int l=Y r):AV prog 407 [.list 1 (l.map (TV.int .i64))] (.turn r []):=by
  unfold slices_Sort_int at h;rw[<-qG]at h;split at h
  · rename_i e
    unfold AX at e;cases h;refine nH t_ (List.length_mergeSort _) (λx a=>List.mem_mergeSort.1 a) (λw b=>?_) (λg cap w _ _ c d=>Go.Proofs.Tryz.slices_Sort_int g 0 cap l w d c U);subst b;exact Go.Proofs.Tryz.slices_Sort_int_none W 0 w
  .cases h
instance ACw(l:Fp):Ct Go.Proofs.Tryz.prog (slices_Sort_int l) 407 [.list 1 (l.map (TV.int .i64))] (λr=>.turn r []):=⟨AB1 l⟩
instance(a b):CT (slices_Index_int a b) 76 [lI a,eI b] rI:=Bi f76 0xad7db5975901859036816a657db59a01ba [] (slices_Index_int.eq_1 ..) (A9 0 8 7 0)
instance(a b):CT (slices_Contains_int a b) 37 [lI a,eI b] rB:=Fe f37 0xdc0e36ba [] (slices_Contains_int.eq_1 ..)
theorem AB2(l r:Fp)(h:slices_Reverse_int l=Y r):AV prog 412 [.list 1 (l.map (TV.int .i64))] (.turn r []):=by
  unfold slices_Reverse_int at h;split at h
  · rename_i d
    unfold AX at d;cases h;refine nH t_ List.length_reverse (λx a=>List.mem_reverse.1 a) (λw b=>?_) (λg cap w _ _ j c=>(Go.Proofs.Tryz.slices_Reverse_int g 0 cap l w c U).mono ?_)
    · subst b
      exact Go.Proofs.Tryz.slices_Reverse_int_empty W 0 w
    · rintro e w' ⟨f,q,i⟩
      exact ⟨f,q,#[],by rw[Go.Sort.grow_empty];exact i⟩
  .cases h
instance ACx(l:Fp):Ct Go.Proofs.Tryz.prog (slices_Reverse_int l) 412 [.list 1 (l.map (TV.int .i64))] (λr=>.turn r []):=⟨AB2 l⟩
instance ACj(c:List d7)(f:d7->K1)(a:FuncId)(b:Fq)[e:∀(d:d7),CT (f d) a (AI d::b) rB]:CT (C3 c f) 426 [EQ c,.clo a b] rI:=Bi f426 0xad7db59759018fac097e36816a657db59a01ba [] (C3.eq_1 ..) (A9 0 8 7 0)
instance ACh(c:List d7)(f:d7->K1)(a:FuncId)(b:Fq)[e:∀(d:d7),CT (f d) a (AI d::b) rB]:CT (B6 c f) 409 [EQ c,.clo a b] rB:=Fe f409 0xdc0e36ba [] (B6.eq_1 ..)
theorem ABy(a b c:Int)(r:Int×Int)(h:JS a b c=Y r):AV prog 387 [IU a,IU b,IU c] (.ext [IU (r.1),IU (r.2)]):=by
  unfold JS at h;split at h
  · rename_i d
    cases h;obtain⟨⟨a0,a1⟩,⟨e,g⟩,f,i⟩:=d;intro _;refine⟨⟨rfl,?_⟩,λw vs hv=>?_⟩
    · simp only[IU,TV.tc,TV.WF,IntKind.min,IntKind.max,IntKind.signed,IntKind.bits,and_true]
      simp only[Bool.false_eq_true,if_false];refine⟨⟨U,?_⟩,U,?_⟩
      · have:(2:Int)^ 64=18446744073709551616:=a!
        omega
      · have:(2:Int)^ 64=18446744073709551616:=a!
        omega
    · obtain⟨x,rfl⟩:=w_ a0
      obtain ⟨y,rfl⟩:=w_ e;obtain⟨z,rfl⟩:=w_ f;have:=Go.Proofs.Any7.bits_Add64 Go.Proofs.Tryz.lays7n25 x y z U w;obtain⟨l⟩:=vs;simp only[IU,AQ,Ap]at hv;obtain⟨j,k,rfl,rfl,m,n,rfl,rfl,o,p,rfl,rfl,rfl⟩:=hv;refine⟨_,this,?_⟩;simp only[IU,AQ,Ap];exact⟨_,_,rfl,V,_,_,rfl,V,rfl⟩
  .cases h
instance ACt(a b c:Int):Ct Go.Proofs.Tryz.prog (JS a b c) 387 [IU a,IU b,IU c] (λr=>.ext [IU (r.1),IU (r.2)]):=⟨ABy a b c⟩
instance(a):CT (O2 a) 344 [lI a] rI:=Bi f344 0x8101377d0603049759018536816037657d0603049a9b6a01 [] (O2.eq_1 ..) (A9 0 8 7 0)
instance(a):CT (cmp_isNaN_int a) 388 [eI a] rB:=Fe f388 0x81a69201 [] (cmp_isNaN_int.eq_1 ..)
instance(a b):CT (cmp_Compare_int a b) 345 [eI a,eI b] rI:=Fe f345 0x81bc36bc36cd59cd9b0e610e01ba [] (cmp_Compare_int.eq_1 ..)
instance(a):CT (Ku a) 389 [IU a] rB:=Fe f389 0x81a69201 [] (Ku.eq_1 ..)
instance(a b):CT (JF a b) 346 [IU a,IU b] rI:=Fe f346 0x81bc36bc36cd59cd9b0e610e01ba [] (JF.eq_1 ..)
instance(a):CT (DQ a) 126 [lE a] (rO lE):=Fe f126 0x820348f847ff03c09cf8400001 [] (DQ.eq_1 ..)
theorem ABv(l:Fp)(m:Int)(r:Fp)(h:DR l m=Y r):AV prog 170 [lI l,eI m] (.own (lI r)):=by
  unfold DR at h;split at h
  · rename_i a
    cases h;obtain⟨x,rfl⟩:=List.length_eq_one_iff.1 a.1;obtain⟨k,rfl⟩:=w_ a.2.1;exact fg x k (by have:=a.2.2;omega)
  .cases h
instance ACo(l:Fp)(m:Int):Ct Go.Proofs.Tryz.prog (DR l m) 170 [lI l,eI m] (rO lI):=⟨ABv l m⟩
instance(a b):CT (Ho a b) 323 [lS a,lS b] rB:=Bi f323 0xadc8b59759bfd704c6d704c6816a65c8b59a01bce6e6ba [.bin (.a [0,0,0,0]) .neq (.s 19) (.s 23)] (Ho.eq_1 ..) (A9 0 13 12 0)
instance(a b):CT (Hp a b) 324 [lT a,lT b] rB:=Bi f324 0xadc8b59759bf9f05438d4405c6816a65c8b59a01bce6e6ba [.bin (.a [0,0,0,0,0]) .neq (.s 19) (.s 23)] (Hp.eq_1 ..) (A9 0 13 12 0)
instance ACX(c:List d7)(b:List d7)(e:d7->d7->K1)(d:FuncId)(a:Fq)[h:∀(f:d7)(g:d7),CT (e f g) d (AI f::AI g::a) rB]:CT (CL c b e) 325 [EQ c,EQ b,.clo d a] rB:=Bi f325 0xad11100f025a9759880facac01094b0ac9ac09c6094ba5c9ac09436a6511100f025a9a81bce60b3602d5 [] (CL.eq_1 ..) (A9 0 17 16 0)
instance(a):CT (J7 a) 168 [(eL 4 M7) a] (rO (eL 4 M7)):=Fe f168 0x820448e947ff04c09ce9400001 [] (J7.eq_1 ..)
instance ACT(c:List Aw)(f:Aw->K1)(a:FuncId)(b:Fq)[e:∀(d:Aw),CT (f d) a (CJ d::b) rB]:CT (DZ c f) 169 [(eL 9 CJ) c,.clo a b] rI:=Bi f169 0xad7db59759018fac097e36816a657db59a01ba [] (DZ.eq_1 ..) (A9 0 8 7 0)
instance ACR(c:List Aw)(f:Aw->K1)(a:FuncId)(b:Fq)[e:∀(d:Aw),CT (f d) a (CJ d::b) rB]:CT (B3 c f) 106 [(eL 9 CJ) c,.clo a b] rB:=Fe f106 0xdc0e36ba [] (B3.eq_1 ..)
theorem c77(s:Fp)(n:Int)(r:Fp)(h:ME s n=Y r):AV prog 77 [.nil,eI n] (.own (lI r)):=by
  unfold ME at h;split at h
  · rename_i c
    cases h;obtain⟨k,rfl⟩:=w_ c.2.1;have d:k<=AX:=by have:=c.2.2;omega
    have hb:=d;unfold AX at hb;obtain⟨b,f,g,m,i⟩:∃b,prog.info? 3=Y b/\b.zero=Y (.int .i64 0)/\b.size=1/\b.bytes=8:=⟨_,rfl,rfl,rfl,rfl⟩;refine uA t_ d (e:=3) (z:=(Value.int .i64 0).cells) rfl (λw j=>?_) (λw l=>?_)
    .exact Go.Proofs.Any8.slices_Grow_room Go.Proofs.Tryz.growI W 0 0 k w (az _) U U U
    .exact Go.Proofs.Any8.slices_Grow_grow Go.Proofs.Tryz.growI b (.int .i64 0) f g U W 0 0 k [] w (az _) U (by rw[i];omega) U V (λ_=>rfl) (λa ha=>by cases ha)
  .cases h
instance i77(s:Fp)(n:Int):Ct Go.Proofs.Tryz.prog (ME s n) 77 [.nil,eI n] (rO lI):=⟨c77 s n⟩
theorem AB5:CK f38 (Rq [⟨Y 2,.Abq 1,W⟩] [0]<|Rq [Ad 3 0] [0,3]<|Sq (Rq [Aa 9 0,Ae 10 9,Ad 11 0] [0,3,9,10,11]<|Bl 0<|Lo [0,3,9,10,11]<|Rq [Ai 12 11 10] [0,3,9,10,11,12]<|Sq (Co 12 (Sk [0,3,9,10,11])<|Ex 0 [0,3])<|Sq (Bl 1<|Rq [Aj 13 9 11 1,Ac 14 13,Ab 5 14] [0,3,5,9,10,11]<|Rq [Aa 15 3,Aa 16 5,Ae 17 16,⟨Y 18,.bin (.i) .add (.s 15) (.s 17),W⟩,Aa 3 18] [0,3,9,10,11]<|Rq [Aa 19 3,⟨Y 20,.bin (.i) .lss (.s 19) (.c (.int .i64 0)),W⟩] [0,3,9,10,11,20]<|Co 20 (.bad)<|Sk [0,3,9,10,11])<|Re [Ak 22 11 1,Aa 11 22] [0,3,9,10,11])<|Rq [Aa 23 3,⟨Y 24,.call 77 [.c .nil,.s 23],W⟩,Ab 6 24] [0,6]<|Sq (Rq [Aa 25 0,Ae 26 25,Ad 27 0] [6,25,26,27]<|Bl 2<|Lo [6,25,26,27]<|Rq [Ai 28 27 26] [6,25,26,27,28]<|Sq (Co 28 (Sk [6,25,26,27])<|Ex 2 [6])<|Sq (Bl 3<|Rq [Aj 29 25 27 1,Ac 30 29,Ab 8 30] [6,8,25,26,27]<|Re [Ab 31 6,Aa 32 8,⟨Y 33,.app 1 (.s 31) (.s 32),W⟩,Ab 6 33] [6,25,26,27])<|Re [Ak 34 27 1,Aa 27 34] [6,25,26,27])<|Rq [Ab 35 6,Ab 2 35] [2]<|.ret) [.tmp 2]:=c!
instance(a):CT (J8 a) 38 [(eL 1 lI) a] (rO lI):=Fi AB5 λr h b c=>by
  unfold J8 at h;have:=A4 0 11 10 0 (hT 3 eI);have:=A4 2 27 26 0 (hO 6 lI);exact au
theorem AB6:CK f70 (Rq [Ad 2 0] [0]<|Sq (Rq [Aa 5 0,Ae 6 5,⟨Y 7,.bin (.i) .lss (.s 6) (.c (.int .i64 1)),W⟩] [0,7]<|Co 7 (.bad)<|Sk [0])<|Rq [Aa 9 0,⟨Y 10,.iad (.s 9) (.c (.int .i64 0)) 1,W⟩,Ac 11 10,Aa 3 11] [0,3]<|Sq (Rq [Ad 4 1] [0,3,4]<|Bl 0<|Lo [0,3,4]<|Sq (Rq [Aa 12 4,Aa 13 0,Ae 14 13,Ai 15 12 14] [0,3,4,15]<|Co 15 (Sk [0,3,4])<|Ex 0 [3])<|Sq (Bl 1<|Re [Aa 18 3,Aa 19 0,Aa 20 4,Aj 21 19 20 1,Ac 22 21,⟨Y 23,.mm false (.s 18) (.s 22),W⟩,Aa 3 23] [0,3,4])<|Re [Aa 16 4,Ak 17 16 1,Aa 4 17] [0,3,4])<|Rq [Aa 24 3,Aa 2 24] [2]<|.ret) [.tmp 2]:=c!
instance(a):CT (slices_Min_int a) 70 [lI a] rI:=Fi AB6 λr h b c=>by
  unfold slices_Min_int at h;have:=A4 0 4 0 0 (hT 3 eI);exact au
end Go.Sf.Sc
