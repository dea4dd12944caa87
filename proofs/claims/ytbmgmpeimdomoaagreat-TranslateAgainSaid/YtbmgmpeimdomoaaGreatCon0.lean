/- Contracts of the functions. -/
import Derived.Test.YtbmgmpeimdomoaaGreatShort
import Derived.Test.YtbmgmpeimdomoaaGreatTw
set_option linter.all false
set_option maxRecDepth 100000
set_option maxHeartbeats 4000000
open Option renaming some->Y,none->W
open Int renaming eq_ofNat_of_zero_le->w_
namespace Go.Sf.Sc
open Go Go.Sf Go.Proofs.Tryz
instance ABc(c:List B2)(f:B2->I1)(b:FuncId)(a:Fq)[e:∀(d:B2),CT (f d) b (D9 d::a) rB]:CT (DR c f) 101 [lN c,.clo b a] rI:=CJ f101 0xaa80bd9b848febd430816b6a80bd9e01ca [] (DR.eq_1 ..) (BC 0 8 7 0)
instance c53(c:List B2)(f:B2->I1)(b:FuncId)(a:Fq)[e:∀(d:B2),CT (f d) b (D9 d::a) rB]:CT (BS c f) 53 [lN c,.clo b a] rB:=Fe f53 0xdb0e30ca [] (BS.eq_1 ..)
instance(a b):CT (slices_Index_string a b) 366 [lB a,eS b] rI:=CJ f366 0xaa80bd9b84869230816b6a80bd9e01ca [] (slices_Index_string.eq_1 ..) (BC 0 8 7 0)
instance(a b):CT (slices_Contains_string a b) 323 [lB a,eS b] rB:=Fe f323 0xdb0e30ca [] (slices_Contains_string.eq_1 ..)
theorem ABI(s:ByteArray)(c:Int)(r:Int)(h:strings_IndexByte s c=Y r):AT prog 350 [eS s,M8 c] (.sh (eI r)):=by
  unfold strings_IndexByte at h;cases h;exact wF o? ⟨Go.Lib.indexByte_ge _ _,wE _ _⟩ (λw=>Go.Proofs.Tryz.strings_IndexByte s c w)
instance AB3(s:ByteArray)(c:Int):Ct Go.Proofs.Tryz.prog (strings_IndexByte s c) 350 [eS s,M8 c] (rS eI):=⟨ABI s c⟩
instance ABj(c:List ff)(f:ff->I1)(b:FuncId)(a:Fq)[e:∀(d:ff),CT (f d) b (JL d::a) rB]:CT (EJ c f) 322 [lA c,.clo b a] rI:=CJ f322 0xaa80bd9b848febd430816b6a80bd9e01ca [] (EJ.eq_1 ..) (BC 0 8 7 0)
instance ABg(c:List ff)(f:ff->I1)(b:FuncId)(a:Fq)[e:∀(d:ff),CT (f d) b (JL d::a) rB]:CT (C7 c f) 265 [lA c,.clo b a] rB:=Fe f265 0xdb0e30ca [] (C7.eq_1 ..)
instance ABh(c:List Cy)(f:Cy->I1)(b:FuncId)(a:Fq)[e:∀(d:Cy),CT (f d) b (E9 d::a) rB]:CT (DQ c f) 268 [lX c,.clo b a] rI:=CJ f268 0xaa80bd9b848f0744079030816b6a80bd9e01ca [] (DQ.eq_1 ..) (BC 0 8 7 0)
instance ABf(c:List Cy)(f:Cy->I1)(b:FuncId)(a:Fq)[e:∀(d:Cy),CT (f d) b (E9 d::a) rB]:CT (Cc c f) 194 [lX c,.clo b a] rB:=Fe f194 0xdb0e30ca [] (Cc.eq_1 ..)
instance(a):CT (slices_Clone_int a) 62 [lI a] (rO lI):=Fe f62 0x8201483047ff01c09c30400001 [] (slices_Clone_int.eq_1 ..)
instance ABd(c:Fp)(f:Int->I1)(b:FuncId)(a:Fq)[e:∀(d:Int),CT (f d) b (eI d::a) rB]:CT (Ep c f) 116 [lI c,.clo b a] rI:=CJ f116 0xaa80bd9b848f9230816b6a80bd9e01ca [] (Ep.eq_1 ..) (BC 0 8 7 0)
instance c58(c:Fp)(f:Int->I1)(b:FuncId)(a:Fq)[e:∀(d:Int),CT (f d) b (eI d::a) rB]:CT (BA c f) 58 [lI c,.clo b a] rB:=Fe f58 0xdb0e30ca [] (BA.eq_1 ..)
instance(a b):CT (slices_Index_int a b) 49 [lI a,eI b] rI:=CJ f49 0xaa80bd9b84859230816b6a80bd9e01ca [] (slices_Index_int.eq_1 ..) (BC 0 8 7 0)
instance(a b):CT (slices_Contains_int a b) 24 [lI a,eI b] rB:=Fe f24 0xdb0e30ca [] (slices_Contains_int.eq_1 ..)
theorem ABH(l r:Fp)(h:slices_Reverse_int l=Y r):AT prog 269 [.list 1 (l.map (TV.int .i64))] (.turn r []):=by
  unfold slices_Reverse_int at h;split at h
  · rename_i d
    unfold AW at d;cases h;refine mg o? List.length_reverse (λx a=>List.mem_reverse.1 a) (λw b=>?_) (λg cap w _ _ j c=>(Go.Proofs.Tryz.slices_Reverse_int g 0 cap l w c U).mono ?_)
    · subst b
      exact Go.Proofs.Tryz.slices_Reverse_int_empty W 0 w
    · rintro e w' ⟨f,q,i⟩
      exact ⟨f,q,#[],by rw[Go.Sort.grow_empty];exact i⟩
  .cases h
instance AB2(l:Fp):Ct Go.Proofs.Tryz.prog (slices_Reverse_int l) 269 [.list 1 (l.map (TV.int .i64))] (λr=>.turn r []):=⟨ABH l⟩
instance ABe(c:List B1)(f:B1->I1)(b:FuncId)(a:Fq)[e:∀(d:B1),CT (f d) b (CC d::a) rB]:CT (EK c f) 117 [lE c,.clo b a] rI:=CJ f117 0xaa80bd9b848fdc9030816b6a80bd9e01ca [] (EK.eq_1 ..) (BC 0 8 7 0)
instance c60(c:List B1)(f:B1->I1)(b:FuncId)(a:Fq)[e:∀(d:B1),CT (f d) b (CC d::a) rB]:CT (BR c f) 60 [lE c,.clo b a] rB:=Fe f60 0xdb0e30ca [] (BR.eq_1 ..)
instance(a b):CT (J7 a b) 259 [(eL 1 eB) a,eB b] rI:=CJ f259 0xaa80bd9b84879230816b6a80bd9e01ca [] (J7.eq_1 ..) (BC 0 8 7 0)
instance(a b):CT (DM a b) 185 [(eL 1 eB) a,eB b] rB:=Fe f185 0xdb0e30ca [] (DM.eq_1 ..)
instance(a):CT (slices_Clone_string a) 197 [lB a] (rO lB):=Fe f197 0x8201483047ff01c09c30400001 [] (slices_Clone_string.eq_1 ..)
instance ABm(c:List DW)(f:DW->I1)(b:FuncId)(a:Fq)[e:∀(d:DW),CT (f d) b (G8 d::a) rB]:CT (EL c f) 352 [lS c,.clo b a] rI:=CJ f352 0xaa80bd9b848febd430816b6a80bd9e01ca [] (EL.eq_1 ..) (BC 0 8 7 0)
instance ABi(c:List DW)(f:DW->I1)(b:FuncId)(a:Fq)[e:∀(d:DW),CT (f d) b (G8 d::a) rB]:CT (Cp c f) 306 [lS c,.clo b a] rB:=Fe f306 0xdb0e30ca [] (Cp.eq_1 ..)
theorem ABB(l r:Fp)(h:slices_Sort_int l=Y r):AT prog 130 [.list 1 (l.map (TV.int .i64))] (.turn r []):=by
  unfold slices_Sort_int at h;rw[<-pY]at h;split at h
  · rename_i e
    unfold AW at e;cases h;refine mg o? (List.length_mergeSort _) (λx a=>List.mem_mergeSort.1 a) (λw b=>?_) (λg cap w _ _ c d=>Go.Proofs.Tryz.slices_Sort_int g 0 cap l w d c U);subst b;exact Go.Proofs.Tryz.slices_Sort_int_none W 0 w
  .cases h
instance ABv(l:Fp):Ct Go.Proofs.Tryz.prog (slices_Sort_int l) 130 [.list 1 (l.map (TV.int .i64))] (λr=>.turn r []):=⟨ABB l⟩
theorem ABC(l r:Fp)(h:slices_Compact_int l=Y r):AT prog 131 [.list 1 (l.map (TV.int .i64))] (.cut r):=by
  unfold slices_Compact_int at h;split at h
  · rename_i e
    unfold AW at e;cases h;have f:=Go.Lib.compact_length_le l;refine vw (rest:=List.replicate (l.length-(Go.Lib.compact l).length) 0) o? (by rw[List.length_replicate];omega) (λx a=>gA a) (λw b=>?_) (λg cap w c _ i d=>Go.Proofs.Tryz.slices_Compact_int g 0 cap l w d U c);subst b;exact Go.Proofs.Tryz.slices_Compact_int_empty W 0 w
  .cases h
instance ABw(l:Fp):Ct Go.Proofs.Tryz.prog (slices_Compact_int l) 131 [.list 1 (l.map (TV.int .i64))] As.cut:=⟨ABC l⟩
theorem ABD(l:Fp)(x:Int)(r:Int×Bool)(h:slices_BinarySearch_int l x=Y r):AT prog 135 [lI l,eI x] (.tp [eI (r.1),eB (r.2)]):=by
  unfold slices_BinarySearch_int at h;split at h
  · rename_i d
    cases h;have g:=d.1;unfold AW at g;refine nt o? d.1 d.2 (λa c w i=>?_) (λb e c w f=>Go.Proofs.Tryz.slices_BinarySearch_int b e l.length c l x w (R0 _) U f (by rw[List.take_length];exact d.2));exact Go.Proofs.Tryz.slices_BinarySearch_int_empty a c x w
  .cases h
instance ABx(l:Fp)(x:Int):Ct Go.Proofs.Tryz.prog (slices_BinarySearch_int l x) 135 [lI l,eI x] (λr=>.tp [eI (r.1),eB (r.2)]):=⟨ABD l x⟩
instance ABo(c:List ca)(f:ca->I1)(b:FuncId)(a:Fq)[e:∀(d:ca),CT (f d) b (AQ d::a) rB]:CT (DI c f) 375 [F6 c,.clo b a] rI:=CJ f375 0xaa80bd9b848fc8099030816b6a80bd9e01ca [] (DI.eq_1 ..) (BC 0 8 7 0)
instance ABn(c:List ca)(f:ca->I1)(b:FuncId)(a:Fq)[e:∀(d:ca),CT (f d) b (AQ d::a) rB]:CT (CA c f) 354 [F6 c,.clo b a] rB:=Fe f354 0xdb0e30ca [] (CA.eq_1 ..)
theorem ABE(s:Fp)(n:Int)(r:Fp)(h:Jb s n=Y r):AT prog 172 [.nil,eI n] (.own (lI r)):=by
  unfold Jb at h;split at h
  · rename_i c
    cases h;obtain⟨k,rfl⟩:=w_ c.2.1;have d:k<=AW:=by have:=c.2.2;omega
    have g:=d;unfold AW at g;obtain⟨b,i,j,p,l⟩:∃b,prog.info? 3=Y b/\b.zero=Y (.int .i64 0)/\b.size=1/\b.bytes=8:=⟨_,rfl,rfl,rfl,rfl⟩;refine tY o? d (e:=3) (z:=(Value.int .i64 0).cells) rfl (λw m=>?_) (λw o=>?_)
    .exact Go.Proofs.Any8.slices_Grow_room Go.Proofs.Tryz.growI W 0 0 k w (R0 _) U U U
    .exact Go.Proofs.Any8.slices_Grow_grow Go.Proofs.Tryz.growI b (.int .i64 0) i j U W 0 0 k [] w (R0 _) U (by rw[l];omega) U V (λ_=>rfl) (λa f=>by cases f)
  .cases h
instance ABy(s:Fp)(n:Int):Ct Go.Proofs.Tryz.prog (Jb s n) 172 [.nil,eI n] (rO lI):=⟨ABE s n⟩
theorem zS:CK f104 (Rq [⟨Y 2,.Abn 1,W⟩] [0]<|Rq [Af 3 0] [0,3]<|Sq (Rq [Aa 9 0,⟨Y 10,.len (.s 9),W⟩,Af 11 0] [0,3,9,10,11]<|Bl 0<|Lo [0,3,9,10,11]<|Rq [⟨Y 12,.bin (.i) .lss (.s 11) (.s 10),W⟩] [0,3,9,10,11,12]<|Sq (Co 12 (Sk [0,3,9,10,11])<|Ex 0 [0,3])<|Sq (Bl 1<|Rq [⟨Y 13,.iad (.s 9) (.s 11) 1,W⟩,⟨Y 14,.ld (.s 13),W⟩,Ab 5 14] [0,3,5,9,10,11]<|Rq [Aa 15 3,Aa 16 5,⟨Y 17,.len (.s 16),W⟩,⟨Y 18,.bin (.i) .add (.s 15) (.s 17),W⟩,Aa 3 18] [0,3,9,10,11]<|Rq [Aa 19 3,⟨Y 20,.bin (.i) .lss (.s 19) (.c (.int .i64 0)),W⟩] [0,3,9,10,11,20]<|Co 20 (.bad)<|Sk [0,3,9,10,11])<|Re [⟨Y 22,.bin (.i) .add (.s 11) (.c (.int .i64 1)),W⟩,Aa 11 22] [0,3,9,10,11])<|Rq [Aa 23 3,⟨Y 24,.call 172 [.c .nil,.s 23],W⟩,Ab 6 24] [0,6]<|Sq (Rq [Aa 25 0,⟨Y 26,.len (.s 25),W⟩,Af 27 0] [6,25,26,27]<|Bl 2<|Lo [6,25,26,27]<|Rq [⟨Y 28,.bin (.i) .lss (.s 27) (.s 26),W⟩] [6,25,26,27,28]<|Sq (Co 28 (Sk [6,25,26,27])<|Ex 2 [6])<|Sq (Bl 3<|Rq [⟨Y 29,.iad (.s 25) (.s 27) 1,W⟩,⟨Y 30,.ld (.s 29),W⟩,Ab 8 30] [6,8,25,26,27]<|Re [Ab 31 6,Aa 32 8,⟨Y 33,.app 1 (.s 31) (.s 32),W⟩,Ab 6 33] [6,25,26,27])<|Re [⟨Y 34,.bin (.i) .add (.s 27) (.c (.int .i64 1)),W⟩,Aa 27 34] [6,25,26,27])<|Rq [Ab 35 6,Ab 2 35] [2]<|.ret) [.tmp 2]:=b!
instance(a):CT (Hw a) 104 [(eL 1 lI) a] (rO lI):=Fi zS λr h b c=>by
  unfold Hw at h;have:=BG 0 11 10 0 (hT 3 eI);have:=BG 2 27 26 0 (hO 6 lI);exact au
instance(a b):CT (slices_Equal_int a b) 19 [lI a,lI b] rB:=CJ f19 0xaa0d0cbd9bc6fcfc816b6a0d0cbd9e01c60b010b01ca [] (slices_Equal_int.eq_1 ..) (BC 0 13 12 0)
theorem ABJ(a b c:Int)(r:Int×Int)(h:JS a b c=Y r):AT prog 377 [LV a,LV b,LV c] (.ext [LV (r.1),LV (r.2)]):=by
  unfold JS at h;split at h
  · rename_i d
    cases h;obtain⟨⟨a0,a1⟩,⟨e,g⟩,f,i⟩:=d;intro _;refine⟨⟨rfl,?_⟩,λw vs hv=>?_⟩
    · simp only[LV,TV.nm,TV.WF,IntKind.min,IntKind.max,IntKind.signed,IntKind.bits,and_true]
      simp only[Bool.false_eq_true,if_false];refine⟨⟨U,?_⟩,U,?_⟩
      · have:(2:Int)^ 64=18446744073709551616:=a_
        omega
      · have:(2:Int)^ 64=18446744073709551616:=a_
        omega
    · obtain⟨x,rfl⟩:=w_ a0
      obtain ⟨y,rfl⟩:=w_ e;obtain⟨z,rfl⟩:=w_ f;have:=Go.Proofs.Any7.bits_Add64 Go.Proofs.Tryz.lays7n25 x y z U w;obtain⟨l⟩:=vs;simp only[LV,AR,Aq]at hv;obtain⟨j,k,rfl,rfl,m,n,rfl,rfl,o,p,rfl,rfl,rfl⟩:=hv;refine⟨_,this,?_⟩;simp only[LV,AR,Aq];exact⟨_,_,rfl,V,_,_,rfl,V,rfl⟩
  .cases h
instance AB4(a b c:Int):Ct Go.Proofs.Tryz.prog (JS a b c) 377 [LV a,LV b,LV c] (λr=>.ext [LV (r.1),LV (r.2)]):=⟨ABJ a b c⟩
instance(a):CT (OZ a) 361 [lI a] rI:=CJ f361 0xcb318006c19b8485308161316a8006c19ea16b01 [] (OZ.eq_1 ..) (BC 0 8 7 0)
instance(a):CT (cmp_isNaN_int a) 282 [eI a] rB:=Fe f282 0x81969d01 [] (cmp_isNaN_int.eq_1 ..)
instance(a b):CT (cmp_Compare_int a b) 362 [eI a,eI b] rI:=Fe f362 0x81c630c630fb58fba10e600e01ca [] (cmp_Compare_int.eq_1 ..)
instance(a):CT (Kd a) 378 [LV a] rB:=Fe f378 0x81969d01 [] (Kd.eq_1 ..)
instance(a b):CT (JJ a b) 363 [LV a,LV b] rI:=Fe f363 0x81c630c630fb58fba10e600e01ca [] (JJ.eq_1 ..)
instance(a):CT (Cf a) 63 [lE a] (rO lE):=Fe f63 0x820348010347ff03c09c0103400001 [] (Cf.eq_1 ..)
theorem ABF(l:Fp)(m:Int)(r:Fp)(h:E3 l m=Y r):AT prog 182 [lI l,eI m] (.own (lI r)):=by
  unfold E3 at h;split at h
  · rename_i a
    cases h;obtain⟨x,rfl⟩:=List.length_eq_one_iff.1 a.1;obtain⟨k,rfl⟩:=w_ a.2.1;exact fI x k (by have:=a.2.2;omega)
  .cases h
instance ABz(l:Fp)(m:Int):Ct Go.Proofs.Tryz.prog (E3 l m) 182 [lI l,eI m] (rO lI):=⟨ABF l m⟩
instance(a):CT (Hv a) 263 [(eL 1 eB) a] (rO (eL 1 eB)):=Fe f263 0x8201483047ff01c09c30400001 [] (Hv.eq_1 ..)
instance(a):CT (J6 a) 264 [(eL 4 J2) a] (rO (eL 4 J2)):=Fe f264 0x820448f047ff04c09cf0400001 [] (J6.eq_1 ..)
end Go.Sf.Sc
