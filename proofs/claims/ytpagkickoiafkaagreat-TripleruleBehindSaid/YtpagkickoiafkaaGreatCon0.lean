/- Contracts of the functions. -/
import Derived.Test.YtpagkickoiafkaaGreatShort
import Derived.Test.YtpagkickoiafkaaGreatTw
set_option linter.all false
set_option maxRecDepth 100000
set_option maxHeartbeats 4000000
open Option renaming some->Y,none->W
open Int renaming eq_ofNat_of_zero_le->v?
namespace Go.Sf.Sc
open Go Go.Sf Go.Proofs.Tryz
instance(a b):CT (slices_Index_int a b) 38 [lI a,eI b] rI:=B0 f38 0xaa84b1d70185913081fd84b19bfa [] (slices_Index_int.eq_1 ..) (BA 0 8 7 0)
instance AA4(b:List Cd)(f:Cd->I1)(a:FuncId)(c:Fq)[e:∀(d:Cd),CT (f d) a (GT d::c) rB]:CT (HF b f) 205 [lN b,.z5 a c] rI:=B0 f205 0xaa84b1d7018feadf3081fd84b19bfa [] (HF.eq_1 ..) (BA 0 8 7 0)
instance AA2(b:List Cd)(f:Cd->I1)(a:FuncId)(c:Fq)[e:∀(d:Cd),CT (f d) a (GT d::c) rB]:CT (DH b f) 139 [lN b,.z5 a c] rB:=Fe f139 0xbc0e30bd [] (DH.eq_1 ..)
instance(a b):CT (slices_Index_string a b) 354 [lB a,eS b] rI:=B0 f354 0xaa84b1d70186913081fd84b19bfa [] (slices_Index_string.eq_1 ..) (BA 0 8 7 0)
instance(a b):CT (slices_Contains_string a b) 329 [lB a,eS b] rB:=Fe f329 0xbc0e30bd [] (slices_Contains_string.eq_1 ..)
theorem AAU(s:ByteArray)(c:Int)(r:Int)(h:strings_IndexByte s c=Y r):AV prog 336 [eS s,Oa c] (.sh (eI r)):=by
  unfold strings_IndexByte at h;cases h;exact vJ l? ⟨Go.Lib.indexByte_ge _ _,vI _ _⟩ (λw=>Go.Proofs.Tryz.strings_IndexByte s c w)
instance ABW(s:ByteArray)(c:Int):Ct Go.Proofs.Tryz.prog (strings_IndexByte s c) 336 [eS s,Oa c] (rS eI):=⟨AAU s c⟩
instance ABF(b:List gt)(f:gt->I1)(a:FuncId)(c:Fq)[e:∀(d:gt),CT (f d) a (IW d::c) rB]:CT (Jb b f) 328 [lA b,.z5 a c] rI:=B0 f328 0xaa84b1d7018feadf3081fd84b19bfa [] (Jb.eq_1 ..) (BA 0 8 7 0)
instance AA9(b:List gt)(f:gt->I1)(a:FuncId)(c:Fq)[e:∀(d:gt),CT (f d) a (IW d::c) rB]:CT (FY b f) 287 [lA b,.z5 a c] rB:=Fe f287 0xbc0e30bd [] (FY.eq_1 ..)
instance ABA(b:List DC)(f:DC->I1)(a:FuncId)(c:Fq)[e:∀(d:DC),CT (f d) a (HI d::c) rB]:CT (HE b f) 290 [lX b,.z5 a c] rI:=B0 f290 0xaa84b1d7018f074407783081fd84b19bfa [] (HE.eq_1 ..) (BA 0 8 7 0)
instance AA6(b:List DC)(f:DC->I1)(a:FuncId)(c:Fq)[e:∀(d:DC),CT (f d) a (HI d::c) rB]:CT (ED b f) 229 [lX b,.z5 a c] rB:=Fe f229 0xbc0e30bd [] (ED.eq_1 ..)
instance ABB(b:Fp)(f:Int->I1)(a:FuncId)(c:Fq)[e:∀(d:Int),CT (f d) a (eI d::c) rB]:CT (KA b f) 292 [lI b,.z5 a c] rI:=B0 f292 0xaa84b1d7018f913081fd84b19bfa [] (KA.eq_1 ..) (BA 0 8 7 0)
instance AA7(b:Fp)(f:Int->I1)(a:FuncId)(c:Fq)[e:∀(d:Int),CT (f d) a (eI d::c) rB]:CT (BX b f) 233 [lI b,.z5 a c] rB:=Fe f233 0xbc0e30bd [] (BX.eq_1 ..)
instance ABC(b:List Bu)(f:Bu->I1)(a:FuncId)(c:Fq)[e:∀(d:Bu),CT (f d) a (CD d::c) rB]:CT (Jc b f) 293 [lE b,.z5 a c] rI:=B0 f293 0xaa84b1d7018f6bd63081fd84b19bfa [] (Jc.eq_1 ..) (BA 0 8 7 0)
instance AA8(b:List Bu)(f:Bu->I1)(a:FuncId)(c:Fq)[e:∀(d:Bu),CT (f d) a (CD d::c) rB]:CT (B9 b f) 235 [lE b,.z5 a c] rB:=Fe f235 0xbc0e30bd [] (B9.eq_1 ..)
instance(a):CT (slices_Clone_string a) 269 [lB a] (rO lB):=Fe f269 0x8201483047ff01c09c30400001 [] (slices_Clone_string.eq_1 ..)
instance(a b):CT (JE a b) 295 [(eL 1 eB) a,eB b] rI:=B0 f295 0xaa84b1d70187913081fd84b19bfa [] (JE.eq_1 ..) (BA 0 8 7 0)
instance(a b):CT (FZ a b) 240 [(eL 1 eB) a,eB b] rB:=Fe f240 0xbc0e30bd [] (FZ.eq_1 ..)
instance ABH(b:List Cz)(f:Cz->I1)(a:FuncId)(c:Fq)[e:∀(d:Cz),CT (f d) a (El d::c) rB]:CT (Jd b f) 338 [lS b,.z5 a c] rI:=B0 f338 0xaa84b1d7018feadf3081fd84b19bfa [] (Jd.eq_1 ..) (BA 0 8 7 0)
instance ABD(b:List Cz)(f:Cz->I1)(a:FuncId)(c:Fq)[e:∀(d:Cz),CT (f d) a (El d::c) rB]:CT (Dy b f) 298 [lS b,.z5 a c] rB:=Fe f298 0xbc0e30bd [] (Dy.eq_1 ..)
instance(a):CT (slices_Clone_int a) 88 [lI a] (rO lI):=Fe f88 0x8201483047ff01c09c30400001 [] (slices_Clone_int.eq_1 ..)
theorem AAO(l:Fp)(x:Int)(r:Int×Bool)(h:slices_BinarySearch_int l x=Y r):AV prog 196 [lI l,eI x] (.tp [eI (r.1),eB (r.2)]):=by
  unfold slices_BinarySearch_int at h;split at h
  · rename_i d
    cases h;have g:=d.1;unfold AY at g;refine md l? d.1 d.2 (λa c w i=>?_) (λb e c w f=>Go.Proofs.Tryz.slices_BinarySearch_int b e l.length c l x w (aN _) U f (by rw[List.take_length];exact d.2));exact Go.Proofs.Tryz.slices_BinarySearch_int_empty a c x w
  .cases h
instance ABP(l:Fp)(x:Int):Ct Go.Proofs.Tryz.prog (slices_BinarySearch_int l x) 196 [lI l,eI x] (λr=>.tp [eI (r.1),eB (r.2)]):=⟨AAO l x⟩
theorem AAS(l r:Fp)(h:slices_Compact_int l=Y r):AV prog 304 [.list 1 (l.map (TV.int .i64))] (.cut r):=by
  unfold slices_Compact_int at h;split at h
  · rename_i e
    unfold AY at e;cases h;have f:=Go.Lib.compact_length_le l;refine uv (rest:=List.replicate (l.length-(Go.Lib.compact l).length) 0) l? (by rw[List.length_replicate];omega) (λx a=>eH a) (λw b=>?_) (λg cap w c _ i d=>Go.Proofs.Tryz.slices_Compact_int g 0 cap l w d U c);subst b;exact Go.Proofs.Tryz.slices_Compact_int_empty W 0 w
  .cases h
instance ABU(l:Fp):Ct Go.Proofs.Tryz.prog (slices_Compact_int l) 304 [.list 1 (l.map (TV.int .i64))] At.cut:=⟨AAS l⟩
theorem AAV(l r:Fp)(h:slices_Sort_int l=Y r):AV prog 339 [.list 1 (l.map (TV.int .i64))] (.turn r []):=by
  unfold slices_Sort_int at h;rw[<-oT]at h;split at h
  · rename_i e
    unfold AY at e;cases h;refine lO l? (List.length_mergeSort _) (λx a=>List.mem_mergeSort.1 a) (λw b=>?_) (λg cap w _ _ c d=>Go.Proofs.Tryz.slices_Sort_int g 0 cap l w d c U);subst b;exact Go.Proofs.Tryz.slices_Sort_int_none W 0 w
  .cases h
instance ABX(l:Fp):Ct Go.Proofs.Tryz.prog (slices_Sort_int l) 339 [.list 1 (l.map (TV.int .i64))] (λr=>.turn r []):=⟨AAV l⟩
instance(a b):CT (slices_Contains_int a b) 90 [lI a,eI b] rB:=Fe f90 0xbc0e30bd [] (slices_Contains_int.eq_1 ..)
theorem AAT(l r:Fp)(h:slices_Reverse_int l=Y r):AV prog 319 [.list 1 (l.map (TV.int .i64))] (.turn r []):=by
  unfold slices_Reverse_int at h;split at h
  · rename_i d
    unfold AY at d;cases h;refine lO l? List.length_reverse (λx a=>List.mem_reverse.1 a) (λw b=>?_) (λg cap w _ _ j c=>(Go.Proofs.Tryz.slices_Reverse_int g 0 cap l w c U).mono ?_)
    · subst b
      exact Go.Proofs.Tryz.slices_Reverse_int_empty W 0 w
    · rintro e w' ⟨f,q,i⟩
      exact ⟨f,q,#[],by rw[Go.Sort.grow_empty];exact i⟩
  .cases h
instance ABV(l:Fp):Ct Go.Proofs.Tryz.prog (slices_Reverse_int l) 319 [.list 1 (l.map (TV.int .i64))] (λr=>.turn r []):=⟨AAT l⟩
instance ABJ(b:List c9)(f:c9->I1)(a:FuncId)(c:Fq)[e:∀(d:c9),CT (f d) a (AI d::c) rB]:CT (Gq b f) 359 [D1 b,.z5 a c] rI:=B0 f359 0xaa84b1d7018fad09783081fd84b19bfa [] (Gq.eq_1 ..) (BA 0 8 7 0)
instance ABI(b:List c9)(f:c9->I1)(a:FuncId)(c:Fq)[e:∀(d:c9),CT (f d) a (AI d::c) rB]:CT (C7 b f) 341 [D1 b,.z5 a c] rB:=Fe f341 0xbc0e30bd [] (C7.eq_1 ..)
theorem AAQ(s:Fp)(n:Int)(r:Fp)(h:Ir s n=Y r):AV prog 204 [.nil,eI n] (.own (lI r)):=by
  unfold Ir at h;split at h
  · rename_i c
    cases h;obtain⟨k,rfl⟩:=v? c.2.1;have d:k<=AY:=by have:=c.2.2;omega
    have g:=d;unfold AY at g;obtain⟨b,i,j,p,l⟩:∃b,prog.info? 3=Y b/\b.zero=Y (.int .i64 0)/\b.size=1/\b.bytes=8:=⟨_,rfl,rfl,rfl,rfl⟩;refine sF l? d (e:=3) (z:=(Value.int .i64 0).cells) rfl (λw m=>?_) (λw o=>?_)
    .exact Go.Proofs.Any8.slices_Grow_room Go.Proofs.Tryz.growI W 0 0 k w (aN _) U U U
    .exact Go.Proofs.Any8.slices_Grow_grow Go.Proofs.Tryz.growI b (.int .i64 0) i j U W 0 0 k [] w (aN _) U (by rw[l];omega) U V (λ_=>rfl) (λa f=>by cases f)
  .cases h
instance ABS(s:Fp)(n:Int):Ct Go.Proofs.Tryz.prog (Ir s n) 204 [.nil,eI n] (rO lI):=⟨AAQ s n⟩
theorem ya:CK f138 (Rq [⟨Y 2,.Aa8 1,W⟩] [0]<|Rq [Af 3 0] [0,3]<|Sq (Rq [Aa 9 0,⟨Y 10,.len (.s 9),W⟩,Af 11 0] [0,3,9,10,11]<|Bl 0<|Lo [0,3,9,10,11]<|Rq [⟨Y 12,.bin (.i) .lss (.s 11) (.s 10),W⟩] [0,3,9,10,11,12]<|Sq (Co 12 (Sk [0,3,9,10,11])<|Ex 0 [0,3])<|Sq (Bl 1<|Rq [⟨Y 13,.iad (.s 9) (.s 11) 1,W⟩,⟨Y 14,.ld (.s 13),W⟩,Ab 5 14] [0,3,5,9,10,11]<|Rq [Aa 15 3,Aa 16 5,⟨Y 17,.len (.s 16),W⟩,⟨Y 18,.bin (.i) .add (.s 15) (.s 17),W⟩,Aa 3 18] [0,3,9,10,11]<|Rq [Aa 19 3,⟨Y 20,.bin (.i) .lss (.s 19) (.c (.int .i64 0)),W⟩] [0,3,9,10,11,20]<|Co 20 (.bad)<|Sk [0,3,9,10,11])<|Re [⟨Y 22,.bin (.i) .add (.s 11) (.c (.int .i64 1)),W⟩,Aa 11 22] [0,3,9,10,11])<|Rq [Aa 23 3,⟨Y 24,.call 204 [.c .nil,.s 23],W⟩,Ab 6 24] [0,6]<|Sq (Rq [Aa 25 0,⟨Y 26,.len (.s 25),W⟩,Af 27 0] [6,25,26,27]<|Bl 2<|Lo [6,25,26,27]<|Rq [⟨Y 28,.bin (.i) .lss (.s 27) (.s 26),W⟩] [6,25,26,27,28]<|Sq (Co 28 (Sk [6,25,26,27])<|Ex 2 [6])<|Sq (Bl 3<|Rq [⟨Y 29,.iad (.s 25) (.s 27) 1,W⟩,⟨Y 30,.ld (.s 29),W⟩,Ab 8 30] [6,8,25,26,27]<|Re [Ab 31 6,Aa 32 8,⟨Y 33,.app 1 (.s 31) (.s 32),W⟩,Ab 6 33] [6,25,26,27])<|Re [⟨Y 34,.bin (.i) .add (.s 27) (.c (.int .i64 1)),W⟩,Aa 27 34] [6,25,26,27])<|Rq [Ab 35 6,Ab 2 35] [2]<|.ret) [.tmp 2]:=b!
instance(a):CT (Gy a) 138 [(eL 1 lI) a] (rO lI):=Fi ya λr h b c=>by
  unfold Gy at h;have:=BG 0 11 10 0 (hT 3 eI);have:=BG 2 27 26 0 (hO 6 lI);exact au
instance(a):CT (DA a) 89 [lE a] (rO lE):=Fe f89 0x820348010347ff03c09c0103400001 [] (DA.eq_1 ..)
instance(a b):CT (slices_Equal_int a b) 18 [lI a,lI b] rB:=B0 f18 0xaad1b1d785dcdc81fdd1b19bf2e0010bfa [] (slices_Equal_int.eq_1 ..) (BA 0 13 12 0)
theorem AAW(a b c:Int)(r:Int×Int)(h:Ie a b c=Y r):AV prog 361 [Kr a,Kr b,Kr c] (.ext [Kr (r.1),Kr (r.2)]):=by
  unfold Ie at h;split at h
  · rename_i d
    cases h;obtain⟨⟨a0,a1⟩,⟨e,g⟩,f,i⟩:=d;intro _;refine⟨⟨rfl,?_⟩,λw vs hv=>?_⟩
    · simp only[Kr,TV.k7,TV.WF,IntKind.min,IntKind.max,IntKind.signed,IntKind.bits,and_true]
      simp only[Bool.false_eq_true,if_false];refine⟨⟨U,?_⟩,U,?_⟩
      · have:(2:Int)^ 64=18446744073709551616:=a_
        omega
      · have:(2:Int)^ 64=18446744073709551616:=a_
        omega
    · obtain⟨x,rfl⟩:=v? a0
      obtain ⟨y,rfl⟩:=v? e;obtain⟨z,rfl⟩:=v? f;have:=Go.Proofs.Any7.bits_Add64 Go.Proofs.Tryz.lays7n25 x y z U w;obtain⟨l⟩:=vs;simp only[Kr,AT,Ap]at hv;obtain⟨j,k,rfl,rfl,m,n,rfl,rfl,o,p,rfl,rfl,rfl⟩:=hv;refine⟨_,this,?_⟩;simp only[Kr,AT,Ap];exact⟨_,_,rfl,V,_,_,rfl,V,rfl⟩
  .cases h
instance ABY(a b c:Int):Ct Go.Proofs.Tryz.prog (Ie a b c) 361 [Kr a,Kr b,Kr c] (λr=>.ext [Kr (r.1),Kr (r.2)]):=⟨AAW a b c⟩
instance(a):CT (Nj a) 348 [lI a] rI:=B0 f348 0xd9318406d2d7018530815d31658406d29ba26901 [] (Nj.eq_1 ..) (BA 0 8 7 0)
instance(a):CT (cmp_isNaN_int a) 314 [eI a] rB:=Fe f314 0xbc018c01 [] (cmp_isNaN_int.eq_1 ..)
instance(a b):CT (cmp_Compare_int a b) 349 [eI a,eI b] rI:=Fe f349 0xb4853055853055b45581a20e5e0efa [] (cmp_Compare_int.eq_1 ..)
instance(a):CT (Jw a) 362 [Kr a] rB:=Fe f362 0xbc018c01 [] (Jw.eq_1 ..)
instance(a b):CT (IS a b) 350 [Kr a,Kr b] rI:=Fe f350 0xb4853055853055b45581a20e5e0efa [] (IS.eq_1 ..)
theorem AAP(l:Fp)(m:Int)(r:Fp)(h:EO l m=Y r):AV prog 197 [lI l,eI m] (.own (lI r)):=by
  unfold EO at h;split at h
  · rename_i a
    cases h;obtain⟨x,rfl⟩:=List.length_eq_one_iff.1 a.1;obtain⟨k,rfl⟩:=v? a.2.1;exact dR x k (by have:=a.2.2;omega)
  .cases h
instance ABQ(l:Fp)(m:Int):Ct Go.Proofs.Tryz.prog (EO l m) 197 [lI l,eI m] (rO lI):=⟨AAP l m⟩
instance(a b):CT (Ff a b) 174 [lE a,lE b] rB:=B0 f174 0xaad1b1d7bf6b0343306b03433081fdd1b19bf2e0010bfa [.bin (.a [0,0,0]) .neq (.s 19) (.s 23)] (Ff.eq_1 ..) (BA 0 13 12 0)
instance(a b):CT (Gz a b) 222 [lS a,lS b] rB:=B0 f222 0xaad1b1d7bfeae630eae63081fdd1b19bf2e0010bfa [.bin (.a [0,0,0,0]) .neq (.s 19) (.s 23)] (Gz.eq_1 ..) (BA 0 13 12 0)
instance(a b):CT (G0 a b) 223 [lT a,lT b] rB:=B0 f223 0xaad1b1d7bf9a0543964405433081fdd1b19bf2e0010bfa [.bin (.a [0,0,0,0,0]) .neq (.s 19) (.s 23)] (G0.eq_1 ..) (BA 0 13 12 0)
instance AA5(a:List c9)(c:List c9)(g:c9->c9->I1)(d:FuncId)(b:Fq)[h:∀(e:c9)(f:c9),CT (g e f) d (AI e::AI f::b) rB]:CT (DZ a c g) 224 [D1 a,D1 c,.z5 d b] rB:=B0 f224 0xaa11100f0258d7880fadad01094b0bc9ad094330094b810bc9ad0943fd11100f02589bb4e0010b3002ca [] (DZ.eq_1 ..) (BA 0 17 16 0)
instance AA3(a:List Fp)(c:List Fp)(g:Fp->Fp->I1)(d:FuncId)(b:Fq)[h:∀(e:Fp)(f:Fp),CT (g e f) d (lI e::lI f::b) rB]:CT (Fa a c g) 175 [(eL 1 lI) a,(eL 1 lI) c,.z5 d b] rB:=B0 f175 0xaa11100f0258d7880f013082dc82815dfd11100f02589bb4e0010b3002ca [] (Fa.eq_1 ..) (BA 0 17 16 0)
end Go.Sf.Sc
