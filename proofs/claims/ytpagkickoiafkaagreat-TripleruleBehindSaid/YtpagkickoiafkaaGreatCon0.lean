/- Contracts of the functions. -/
import Derived.Test.YtpagkickoiafkaaGreatShort
import Derived.Test.YtpagkickoiafkaaGreatTw
set_option linter.all false
set_option maxRecDepth 100000
set_option maxHeartbeats 4000000
open Option renaming some->Y,none->W
open Int renaming eq_ofNat_of_zero_le->l!
namespace Go.Sf.Sc
open Go Go.Sf Go.Proofs.Tryz
instance(a b):CT (slices_Index_int a b) 38 [lI a,eI b] rI:=BJ f38 0xaa84b1d70185913081fd84b19bfa [] (slices_Index_int.eq_1 ..) (Ap 0 8 7 0)
instance iN(b:List Bn)(f:Bn->K1)(c:FuncId)(a:Fq)[e:∀(d:Bn),CT (f d) c (Dj d::a) rB]:CT (Dh b f) 205 [lN b,.kL c a] rI:=BJ f205 0xaa84b1d7018feadf3081fd84b19bfa [] (Dh.eq_1 ..) (Ap 0 8 7 0)
instance iL(b:List Bn)(f:Bn->K1)(c:FuncId)(a:Fq)[e:∀(d:Bn),CT (f d) c (Dj d::a) rB]:CT (CJ b f) 139 [lN b,.kL c a] rB:=Fe f139 0xbc0e30bd [] (CJ.eq_1 ..)
instance(a b):CT (slices_Index_string a b) 354 [lB a,eS b] rI:=BJ f354 0xaa84b1d70186913081fd84b19bfa [] (slices_Index_string.eq_1 ..) (Ap 0 8 7 0)
instance(a b):CT (slices_Contains_string a b) 329 [lB a,eS b] rB:=Fe f329 0xbc0e30bd [] (slices_Contains_string.eq_1 ..)
theorem fa(s:ByteArray)(c:Int)(r:Int)(h:strings_IndexByte s c=Y r):AO prog 336 [eS s,JP c] (.sh (eI r)):=by
  unfold strings_IndexByte at h;cases h;exact aK (by rfl) ⟨Go.Lib.indexByte_ge _ _,aJ _ _⟩ (λw=>Go.Proofs.Tryz.strings_IndexByte s c w)
instance iz(s:ByteArray)(c:Int):Ct Go.Proofs.Tryz.prog (strings_IndexByte s c) 336 [eS s,JP c] (rS eI):=⟨fa s c⟩
instance iY(b:List jy)(f:jy->K1)(c:FuncId)(a:Fq)[e:∀(d:jy),CT (f d) c (Ec d::a) rB]:CT (Et b f) 328 [lA b,.kL c a] rI:=BJ f328 0xaa84b1d7018feadf3081fd84b19bfa [] (Et.eq_1 ..) (Ap 0 8 7 0)
instance iS(b:List jy)(f:jy->K1)(c:FuncId)(a:Fq)[e:∀(d:jy),CT (f d) c (Ec d::a) rB]:CT (D0 b f) 287 [lA b,.kL c a] rB:=Fe f287 0xbc0e30bd [] (D0.eq_1 ..)
instance iT(b:List B9)(f:B9->K1)(c:FuncId)(a:Fq)[e:∀(d:B9),CT (f d) c (Di d::a) rB]:CT (Dg b f) 290 [lX b,.kL c a] rI:=BJ f290 0xaa84b1d7018f074407783081fd84b19bfa [] (Dg.eq_1 ..) (Ap 0 8 7 0)
instance iP(b:List B9)(f:B9->K1)(c:FuncId)(a:Fq)[e:∀(d:B9),CT (f d) c (Di d::a) rB]:CT (DA b f) 229 [lX b,.kL c a] rB:=Fe f229 0xbc0e30bd [] (DA.eq_1 ..)
instance iU(b:Fp)(f:Int->K1)(c:FuncId)(a:Fq)[e:∀(d:Int),CT (f d) c (eI d::a) rB]:CT (FL b f) 292 [lI b,.kL c a] rI:=BJ f292 0xaa84b1d7018f913081fd84b19bfa [] (FL.eq_1 ..) (Ap 0 8 7 0)
instance iQ(b:Fp)(f:Int->K1)(c:FuncId)(a:Fq)[e:∀(d:Int),CT (f d) c (eI d::a) rB]:CT (BO b f) 233 [lI b,.kL c a] rB:=Fe f233 0xbc0e30bd [] (BO.eq_1 ..)
instance iV(b:List Bp)(f:Bp->K1)(c:FuncId)(a:Fq)[e:∀(d:Bp),CT (f d) c (BS d::a) rB]:CT (Eu b f) 293 [lE b,.kL c a] rI:=BJ f293 0xaa84b1d7018f6bd63081fd84b19bfa [] (Eu.eq_1 ..) (Ap 0 8 7 0)
instance iR(b:List Bp)(f:Bp->K1)(c:FuncId)(a:Fq)[e:∀(d:Bp),CT (f d) c (BS d::a) rB]:CT (By b f) 235 [lE b,.kL c a] rB:=Fe f235 0xbc0e30bd [] (By.eq_1 ..)
instance(a):CT (slices_Clone_string a) 269 [lB a] (rO lB):=Fe f269 0x8201483047ff01c09c30400001 [] (slices_Clone_string.eq_1 ..)
instance(a b):CT (Gw a b) 295 [(eL 1 eB) a,eB b] rI:=BJ f295 0xaa84b1d70187913081fd84b19bfa [] (Gw.eq_1 ..) (Ap 0 8 7 0)
instance(a b):CT (FJ a b) 240 [(eL 1 eB) a,eB b] rB:=Fe f240 0xbc0e30bd [] (FJ.eq_1 ..)
instance ia(b:List Ci)(f:Ci->K1)(c:FuncId)(a:Fq)[e:∀(d:Ci),CT (f d) c (Cp d::a) rB]:CT (Ew b f) 338 [lS b,.kL c a] rI:=BJ f338 0xaa84b1d7018feadf3081fd84b19bfa [] (Ew.eq_1 ..) (Ap 0 8 7 0)
instance iW(b:List Ci)(f:Ci->K1)(c:FuncId)(a:Fq)[e:∀(d:Ci),CT (f d) c (Cp d::a) rB]:CT (Cu b f) 298 [lS b,.kL c a] rB:=Fe f298 0xbc0e30bd [] (Cu.eq_1 ..)
instance(a):CT (slices_Clone_int a) 88 [lI a] (rO lI):=Fe f88 0x8201483047ff01c09c30400001 [] (slices_Clone_int.eq_1 ..)
theorem fU(l:Fp)(x:Int)(r:Int×Bool)(h:slices_BinarySearch_int l x=Y r):AO prog 196 [lI l,eI x] (.tp [eI (r.1),eB (r.2)]):=by
  unfold slices_BinarySearch_int at h;split at h
  · rename_i d
    cases h;have g:=d.1;unfold CA at g;refine Vu (by rfl) d.1 d.2 (λa c w i=>?_) (λb e c w f=>Go.Proofs.Tryz.slices_BinarySearch_int b e l.length c l x w (bk _) U f (by rw[List.take_length];exact d.2));exact Go.Proofs.Tryz.slices_BinarySearch_int_empty a c x w
  .cases h
instance io(l:Fp)(x:Int):Ct Go.Proofs.Tryz.prog (slices_BinarySearch_int l x) 196 [lI l,eI x] (λr=>.tp [eI (r.1),eB (r.2)]):=⟨fU l x⟩
theorem fY(l r:Fp)(h:slices_Compact_int l=Y r):AO prog 304 [.list 1 (l.map (TV.int .i64))] (.cut r):=by
  unfold slices_Compact_int at h;split at h
  · rename_i e
    unfold CA at e;cases h;have f:=Go.Lib.compact_length_le l;refine aA (rest:=List.replicate (l.length-(Go.Lib.compact l).length) 0) (by rfl) (by rw[List.length_replicate];omega) (λx a=>TD a) (λw b=>?_) (λg cap w c _ i d=>Go.Proofs.Tryz.slices_Compact_int g 0 cap l w d U c);subst b;exact Go.Proofs.Tryz.slices_Compact_int_empty W 0 w
  .cases h
instance iw(l:Fp):Ct Go.Proofs.Tryz.prog (slices_Compact_int l) 304 [.list 1 (l.map (TV.int .i64))] AZ.cut:=⟨fY l⟩
theorem fb(l r:Fp)(h:slices_Sort_int l=Y r):AO prog 339 [.list 1 (l.map (TV.int .i64))] (.turn r []):=by
  unfold slices_Sort_int at h;rw[<-Wu]at h;split at h
  · rename_i e
    unfold CA at e;cases h;refine Ve (by rfl) (List.length_mergeSort _) (λx a=>List.mem_mergeSort.1 a) (λw b=>?_) (λg cap w _ _ c d=>Go.Proofs.Tryz.slices_Sort_int g 0 cap l w d c U);subst b;exact Go.Proofs.Tryz.slices_Sort_int_none W 0 w
  .cases h
instance i7(l:Fp):Ct Go.Proofs.Tryz.prog (slices_Sort_int l) 339 [.list 1 (l.map (TV.int .i64))] (λr=>.turn r []):=⟨fb l⟩
instance(a b):CT (slices_Contains_int a b) 90 [lI a,eI b] rB:=Fe f90 0xbc0e30bd [] (slices_Contains_int.eq_1 ..)
theorem fZ(l r:Fp)(h:slices_Reverse_int l=Y r):AO prog 319 [.list 1 (l.map (TV.int .i64))] (.turn r []):=by
  unfold slices_Reverse_int at h;split at h
  · rename_i d
    unfold CA at d;cases h;refine Ve (by rfl) List.length_reverse (λx a=>List.mem_reverse.1 a) (λw b=>?_) (λg cap w _ _ j c=>(Go.Proofs.Tryz.slices_Reverse_int g 0 cap l w c U).mono ?_)
    · subst b
      exact Go.Proofs.Tryz.slices_Reverse_int_empty W 0 w
    · rintro e w' ⟨f,q,i⟩
      exact ⟨f,q,#[],by rw[Go.Sort.grow_empty];exact i⟩
  .cases h
instance iy(l:Fp):Ct Go.Proofs.Tryz.prog (slices_Reverse_int l) 319 [.list 1 (l.map (TV.int .i64))] (λr=>.turn r []):=⟨fZ l⟩
instance ic(b:List gt)(f:gt->K1)(c:FuncId)(a:Fq)[e:∀(d:gt),CT (f d) c (AG d::a) rB]:CT (DT b f) 359 [CU b,.kL c a] rI:=BJ f359 0xaa84b1d7018fad09783081fd84b19bfa [] (DT.eq_1 ..) (Ap 0 8 7 0)
instance ib(b:List gt)(f:gt->K1)(c:FuncId)(a:Fq)[e:∀(d:gt),CT (f d) c (AG d::a) rB]:CT (C0 b f) 341 [CU b,.kL c a] rB:=Fe f341 0xbc0e30bd [] (C0.eq_1 ..)
theorem fW(s:Fp)(n:Int)(r:Fp)(h:GE s n=Y r):AO prog 204 [.nil,eI n] (.own (lI r)):=by
  unfold GE at h;split at h
  · rename_i c
    cases h;obtain⟨k,rfl⟩:=l! c.2.1;have d:k<=CA:=by have:=c.2.2;omega
    have g:=d;unfold CA at g;obtain⟨b,i,j,p,l⟩:∃b,prog.info? 3=Y b/\b.zero=Y (.int .i64 0)/\b.size=1/\b.bytes=8:=⟨_,rfl,rfl,rfl,rfl⟩;refine Yu (by rfl) d (e:=3) (z:=(Value.int .i64 0).cells) rfl (λw m=>?_) (λw o=>?_)
    .exact Go.Proofs.Any8.slices_Grow_room Go.Proofs.Tryz.growI W 0 0 k w (bk _) U U U
    .exact Go.Proofs.Any8.slices_Grow_grow Go.Proofs.Tryz.growI b (.int .i64 0) i j U W 0 0 k [] w (bk _) U (by rw[l];omega) U V (λ_=>rfl) (λa f=>by cases f)
  .cases h
instance iu(s:Fp)(n:Int):Ct Go.Proofs.Tryz.prog (GE s n) 204 [.nil,eI n] (rO lI):=⟨fW s n⟩
theorem dB:CK f138 (Rq [⟨Y 2,.mr 1,W⟩] [0]<|Rq [Af 3 0] [0,3]<|Sq (Rq [Aa 9 0,⟨Y 10,.len (.s 9),W⟩,Af 11 0] [0,3,9,10,11]<|Bl 0<|Lo [0,3,9,10,11]<|Rq [⟨Y 12,.bin (.i) .lss (.s 11) (.s 10),W⟩] [0,3,9,10,11,12]<|Sq (Co 12 (Sk [0,3,9,10,11])<|Ex 0 [0,3])<|Sq (Bl 1<|Rq [⟨Y 13,.l4 (.s 9) (.s 11) 1,W⟩,⟨Y 14,.ld (.s 13),W⟩,Ab 5 14] [0,3,5,9,10,11]<|Rq [Aa 15 3,Aa 16 5,⟨Y 17,.len (.s 16),W⟩,⟨Y 18,.bin (.i) .add (.s 15) (.s 17),W⟩,Aa 3 18] [0,3,9,10,11]<|Rq [Aa 19 3,⟨Y 20,.bin (.i) .lss (.s 19) (.c (.int .i64 0)),W⟩] [0,3,9,10,11,20]<|Co 20 (.bad)<|Sk [0,3,9,10,11])<|Re [⟨Y 22,.bin (.i) .add (.s 11) (.c (.int .i64 1)),W⟩,Aa 11 22] [0,3,9,10,11])<|Rq [Aa 23 3,⟨Y 24,.call 204 [.c .nil,.s 23],W⟩,Ab 6 24] [0,6]<|Sq (Rq [Aa 25 0,⟨Y 26,.len (.s 25),W⟩,Af 27 0] [6,25,26,27]<|Bl 2<|Lo [6,25,26,27]<|Rq [⟨Y 28,.bin (.i) .lss (.s 27) (.s 26),W⟩] [6,25,26,27,28]<|Sq (Co 28 (Sk [6,25,26,27])<|Ex 2 [6])<|Sq (Bl 3<|Rq [⟨Y 29,.l4 (.s 25) (.s 27) 1,W⟩,⟨Y 30,.ld (.s 29),W⟩,Ab 8 30] [6,8,25,26,27]<|Re [Ab 31 6,Aa 32 8,⟨Y 33,.app 1 (.s 31) (.s 32),W⟩,Ab 6 33] [6,25,26,27])<|Re [⟨Y 34,.bin (.i) .add (.s 27) (.c (.int .i64 1)),W⟩,Aa 27 34] [6,25,26,27])<|Rq [Ab 35 6,Ab 2 35] [2]<|.ret) [.tmp 2]:=b_
instance(a):CT (Gv a) 138 [(eL 1 lI) a] (rO lI):=Fi dB λr h b c=>by
  unfold Gv at h;have:=As 0 11 10 0 (hT 3 eI);have:=As 2 27 26 0 (hO 6 lI);exact au
instance(a):CT (Cv a) 89 [lE a] (rO lE):=Fe f89 0x820348010347ff03c09c0103400001 [] (Cv.eq_1 ..)
instance(a b):CT (slices_Equal_int a b) 18 [lI a,lI b] rB:=BJ f18 0xaad1b1d785dcdc81fdd1b19bf2e0010bfa [] (slices_Equal_int.eq_1 ..) (Ap 0 13 12 0)
theorem fc(a b c:Int)(r:Int×Int)(h:GA a b c=Y r):AO prog 361 [Ft a,Ft b,Ft c] (.ext [Ft (r.1),Ft (r.2)]):=by
  unfold GA at h;split at h
  · rename_i d
    cases h;obtain⟨⟨a0,a1⟩,⟨e,g⟩,f,i⟩:=d;intro _;refine⟨⟨rfl,?_⟩,λw vs hv=>?_⟩
    · simp only[Ft,TV.jU,TV.WF,IntKind.min,IntKind.max,IntKind.signed,IntKind.bits,and_true]
      simp only[Bool.false_eq_true,if_false];refine⟨⟨U,?_⟩,U,?_⟩
      · have:(2:Int)^ 64=18446744073709551616:=a?
        omega
      · have:(2:Int)^ 64=18446744073709551616:=a?
        omega
    · obtain⟨x,rfl⟩:=l! a0
      obtain ⟨y,rfl⟩:=l! e;obtain⟨z,rfl⟩:=l! f;have:=Go.Proofs.Any7.bits_Add64 Go.Proofs.Tryz.lays7n25 x y z U w;obtain⟨l⟩:=vs;simp only[Ft,AM,AV]at hv;obtain⟨j,k,rfl,rfl,m,n,rfl,rfl,o,p,rfl,rfl,rfl⟩:=hv;refine⟨_,this,?_⟩;simp only[Ft,AM,AV];exact⟨_,_,rfl,V,_,_,rfl,V,rfl⟩
  .cases h
instance jA(a b c:Int):Ct Go.Proofs.Tryz.prog (GA a b c) 361 [Ft a,Ft b,Ft c] (λr=>.ext [Ft (r.1),Ft (r.2)]):=⟨fc a b c⟩
instance(a):CT (Mc a) 348 [lI a] rI:=BJ f348 0xd9318406d2d7018530815d31658406d29ba26901 [] (Mc.eq_1 ..) (Ap 0 8 7 0)
instance(a):CT (cmp_isNaN_int a) 314 [eI a] rB:=Fe f314 0xbc018c01 [] (cmp_isNaN_int.eq_1 ..)
instance(a b):CT (cmp_Compare_int a b) 349 [eI a,eI b] rI:=Fe f349 0xb4853055853055b45581a20e5e0efa [] (cmp_Compare_int.eq_1 ..)
instance(a):CT (E6 a) 362 [Ft a] rB:=Fe f362 0xbc018c01 [] (E6.eq_1 ..)
instance(a b):CT (GJ a b) 350 [Ft a,Ft b] rI:=Fe f350 0xb4853055853055b45581a20e5e0efa [] (GJ.eq_1 ..)
theorem fV(l:Fp)(m:Int)(r:Fp)(h:DX l m=Y r):AO prog 197 [lI l,eI m] (.own (lI r)):=by
  unfold DX at h;split at h
  · rename_i a
    cases h;obtain⟨x,rfl⟩:=List.length_eq_one_iff.1 a.1;obtain⟨k,rfl⟩:=l! a.2.1;exact Ss x k (by have:=a.2.2;omega)
  .cases h
instance ip(l:Fp)(m:Int):Ct Go.Proofs.Tryz.prog (DX l m) 197 [lI l,eI m] (rO lI):=⟨fV l m⟩
instance(a b):CT (DW a b) 174 [lE a,lE b] rB:=BJ f174 0xaad1b1d7bf6b0343306b03433081fdd1b19bf2e0010bfa [.bin (.a [0,0,0]) .neq (.s 19) (.s 23)] (DW.eq_1 ..) (Ap 0 13 12 0)
instance(a b):CT (Ed a b) 222 [lS a,lS b] rB:=BJ f222 0xaad1b1d7bfeae630eae63081fdd1b19bf2e0010bfa [.bin (.a [0,0,0,0]) .neq (.s 19) (.s 23)] (Ed.eq_1 ..) (Ap 0 13 12 0)
instance(a b):CT (Ee a b) 223 [lT a,lT b] rB:=BJ f223 0xaad1b1d7bf9a0543964405433081fdd1b19bf2e0010bfa [.bin (.a [0,0,0,0,0]) .neq (.s 19) (.s 23)] (Ee.eq_1 ..) (Ap 0 13 12 0)
instance iO(b:List gt)(c:List gt)(e:gt->gt->K1)(a:FuncId)(d:Fq)[h:∀(g:gt)(f:gt),CT (e g f) a (AG g::AG f::d) rB]:CT (DR b c e) 224 [CU b,CU c,.kL a d] rB:=BJ f224 0xaa11100f0258d7880fadad01094b0bc9ad094330094b810bc9ad0943fd11100f02589bb4e0010b3002ca [] (DR.eq_1 ..) (Ap 0 17 16 0)
instance iM(b:List Fp)(c:List Fp)(e:Fp->Fp->K1)(a:FuncId)(d:Fq)[h:∀(g:Fp)(f:Fp),CT (e g f) a (lI g::lI f::d) rB]:CT (FK b c e) 175 [(eL 1 lI) b,(eL 1 lI) c,.kL a d] rB:=BJ f175 0xaa11100f0258d7880f013082dc82815dfd11100f02589bb4e0010b3002ca [] (FK.eq_1 ..) (Ap 0 17 16 0)
end Go.Sf.Sc
