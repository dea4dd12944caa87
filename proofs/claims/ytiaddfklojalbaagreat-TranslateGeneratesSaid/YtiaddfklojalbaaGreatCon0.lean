/- Contracts of the functions. -/
import Derived.Test.YtiaddfklojalbaaGreatShort
import Derived.Test.YtiaddfklojalbaaGreatTw
set_option linter.all false
set_option maxRecDepth 100000
set_option maxHeartbeats 4000000
open Option renaming some->Y,none->W
open Int renaming eq_ofNat_of_zero_le->w?
namespace Go.Sf.Sc
open Go Go.Sf Go.Proofs.Tryz
instance AAN(c:List B6)(f:B6->K1)(b:FuncId)(a:Fq)[e:∀(d:B6),CT (f d) b (CZ d::a) rB]:CT (DR c f) 138 [lN c,.clo b a] rI:=CW f138 0x9e89cad5018fe5da32816b6989ca9701bc [] (DR.eq_1 ..) (BJ 0 8 7 0)
instance c88(c:List B6)(f:B6->K1)(b:FuncId)(a:Fq)[e:∀(d:B6),CT (f d) b (CZ d::a) rB]:CT (BW c f) 88 [lN c,.clo b a] rB:=Fe f88 0xd00e32bc [] (BW.eq_1 ..)
instance(a b):CT (slices_Index_string a b) 326 [lB a,eS b] rI:=CW f326 0x9e89cad501868c32816b6989ca9701bc [] (slices_Index_string.eq_1 ..) (BJ 0 8 7 0)
instance(a b):CT (slices_Contains_string a b) 284 [lB a,eS b] rB:=Fe f284 0xd00e32bc [] (slices_Contains_string.eq_1 ..)
theorem zu(s:ByteArray)(c:Int)(r:Int)(h:strings_IndexByte s c=Y r):AW prog 325 [eS s,QF c] (.sh (eI r)):=by
  unfold strings_IndexByte at h;cases h;exact uP q? ⟨Go.Lib.indexByte_ge _ _,uO _ _⟩ (λw=>Go.Proofs.Tryz.strings_IndexByte s c w)
instance AAm(s:ByteArray)(c:Int):Ct Go.Proofs.Tryz.prog (strings_IndexByte s c) 325 [eS s,QF c] (rS eI):=⟨zu s c⟩
instance AAR(c:List gi)(f:gi->K1)(b:FuncId)(a:Fq)[e:∀(d:gi),CT (f d) b (F4 d::a) rB]:CT (ED c f) 283 [lA c,.clo b a] rI:=CW f283 0x9e89cad5018fe5da32816b6989ca9701bc [] (ED.eq_1 ..) (BJ 0 8 7 0)
instance AAP(c:List gi)(f:gi->K1)(b:FuncId)(a:Fq)[e:∀(d:gi),CT (f d) b (F4 d::a) rB]:CT (C7 c f) 226 [lA c,.clo b a] rB:=Fe f226 0xd00e32bc [] (C7.eq_1 ..)
instance AAQ(c:List Cy)(f:Cy->K1)(b:FuncId)(a:Fq)[e:∀(d:Cy),CT (f d) b (Cu d::a) rB]:CT (DQ c f) 229 [lX c,.clo b a] rI:=CW f229 0x9e89cad5018f0744077f32816b6989ca9701bc [] (DQ.eq_1 ..) (BJ 0 8 7 0)
instance AAO(c:List Cy)(f:Cy->K1)(b:FuncId)(a:Fq)[e:∀(d:Cy),CT (f d) b (Cu d::a) rB]:CT (Cd c f) 168 [lX c,.clo b a] rB:=Fe f168 0xd00e32bc [] (Cd.eq_1 ..)
instance(a):CT (slices_Clone_int a) 53 [lI a] (rO lI):=Fe f53 0x8201483247ff01c09c32400001 [] (slices_Clone_int.eq_1 ..)
instance c91(c:Fp)(f:Int->K1)(b:FuncId)(a:Fq)[e:∀(d:Int),CT (f d) b (eI d::a) rB]:CT (Ef c f) 91 [lI c,.clo b a] rI:=CW f91 0x9e89cad5018f8c32816b6989ca9701bc [] (Ef.eq_1 ..) (BJ 0 8 7 0)
instance c49(c:Fp)(f:Int->K1)(b:FuncId)(a:Fq)[e:∀(d:Int),CT (f d) b (eI d::a) rB]:CT (BE c f) 49 [lI c,.clo b a] rB:=Fe f49 0xd00e32bc [] (BE.eq_1 ..)
instance(a b):CT (slices_Index_int a b) 212 [lI a,eI b] rI:=CW f212 0x9e89cad501858c32816b6989ca9701bc [] (slices_Index_int.eq_1 ..) (BJ 0 8 7 0)
instance(a b):CT (slices_Contains_int a b) 173 [lI a,eI b] rB:=Fe f173 0xd00e32bc [] (slices_Contains_int.eq_1 ..)
theorem zq(l r:Fp)(h:slices_Reverse_int l=Y r):AW prog 230 [.list 1 (l.map (TV.int .i64))] (.turn r []):=by
  unfold slices_Reverse_int at h;split at h
  · rename_i d
    unfold Ak at d;cases h;refine lL q? List.length_reverse (λx a=>List.mem_reverse.1 a) (λw b=>?_) (λg cap w _ _ j c=>(Go.Proofs.Tryz.slices_Reverse_int g 0 cap l w c U).mono ?_)
    · subst b
      exact Go.Proofs.Tryz.slices_Reverse_int_empty W 0 w
    · rintro e w' ⟨f,q,i⟩
      exact ⟨f,q,#[],by rw[Go.Sort.grow_empty];exact i⟩
  .cases h
instance AAk(l:Fp):Ct Go.Proofs.Tryz.prog (slices_Reverse_int l) 230 [.list 1 (l.map (TV.int .i64))] (λr=>.turn r []):=⟨zq l⟩
instance c92(c:List B3)(f:B3->K1)(b:FuncId)(a:Fq)[e:∀(d:B3),CT (f d) b (Bx d::a) rB]:CT (EE c f) 92 [lE c,.clo b a] rI:=CW f92 0x9e89cad5018fef32816b6989ca9701bc [] (EE.eq_1 ..) (BJ 0 8 7 0)
instance c51(c:List B3)(f:B3->K1)(b:FuncId)(a:Fq)[e:∀(d:B3),CT (f d) b (Bx d::a) rB]:CT (BV c f) 51 [lE c,.clo b a] rB:=Fe f51 0xd00e32bc [] (BV.eq_1 ..)
instance(a b):CT (JI a b) 205 [(eL 1 eB) a,eB b] rI:=CW f205 0x9e89cad501878c32816b6989ca9701bc [] (JI.eq_1 ..) (BJ 0 8 7 0)
instance(a b):CT (DI a b) 143 [(eL 1 eB) a,eB b] rB:=Fe f143 0xd00e32bc [] (DI.eq_1 ..)
instance(a):CT (slices_Clone_string a) 171 [lB a] (rO lB):=Fe f171 0x8201483247ff01c09c32400001 [] (slices_Clone_string.eq_1 ..)
instance AAV(c:List Dj)(f:Dj->K1)(b:FuncId)(a:Fq)[e:∀(d:Dj),CT (f d) b (FI d::a) rB]:CT (EF c f) 330 [lS c,.clo b a] rI:=CW f330 0x9e89cad5018fe5da32816b6989ca9701bc [] (EF.eq_1 ..) (BJ 0 8 7 0)
instance AAT(c:List Dj)(f:Dj->K1)(b:FuncId)(a:Fq)[e:∀(d:Dj),CT (f d) b (FI d::a) rB]:CT (Cp c f) 303 [lS c,.clo b a] rB:=Fe f303 0xd00e32bc [] (Cp.eq_1 ..)
theorem zj(l r:Fp)(h:slices_Sort_int l=Y r):AW prog 113 [.list 1 (l.map (TV.int .i64))] (.turn r []):=by
  unfold slices_Sort_int at h;rw[<-ny]at h;split at h
  · rename_i e
    unfold Ak at e;cases h;refine lL q? (List.length_mergeSort _) (λx a=>List.mem_mergeSort.1 a) (λw b=>?_) (λg cap w _ _ c d=>Go.Proofs.Tryz.slices_Sort_int g 0 cap l w d c U);subst b;exact Go.Proofs.Tryz.slices_Sort_int_none W 0 w
  .cases h
instance AAd(l:Fp):Ct Go.Proofs.Tryz.prog (slices_Sort_int l) 113 [.list 1 (l.map (TV.int .i64))] (λr=>.turn r []):=⟨zj l⟩
theorem zk(l r:Fp)(h:slices_Compact_int l=Y r):AW prog 114 [.list 1 (l.map (TV.int .i64))] (.cut r):=by
  unfold slices_Compact_int at h;split at h
  · rename_i e
    unfold Ak at e;cases h;have f:=Go.Lib.compact_length_le l;refine uH (rest:=List.replicate (l.length-(Go.Lib.compact l).length) 0) q? (by rw[List.length_replicate];omega) (λx a=>eZ a) (λw b=>?_) (λg cap w c _ i d=>Go.Proofs.Tryz.slices_Compact_int g 0 cap l w d U c);subst b;exact Go.Proofs.Tryz.slices_Compact_int_empty W 0 w
  .cases h
instance AAe(l:Fp):Ct Go.Proofs.Tryz.prog (slices_Compact_int l) 114 [.list 1 (l.map (TV.int .i64))] Az.cut:=⟨zk l⟩
theorem zl(l:Fp)(x:Int)(r:Int×Bool)(h:slices_BinarySearch_int l x=Y r):AW prog 116 [lI l,eI x] (.tp [eI (r.1),eB (r.2)]):=by
  unfold slices_BinarySearch_int at h;split at h
  · rename_i d
    cases h;have g:=d.1;unfold Ak at g;refine mP q? d.1 d.2 (λa c w i=>?_) (λb e c w f=>Go.Proofs.Tryz.slices_BinarySearch_int b e l.length c l x w (a5 _) U f (by rw[List.take_length];exact d.2));exact Go.Proofs.Tryz.slices_BinarySearch_int_empty a c x w
  .cases h
instance AAf(l:Fp)(x:Int):Ct Go.Proofs.Tryz.prog (slices_BinarySearch_int l x) 116 [lI l,eI x] (λr=>.tp [eI (r.1),eB (r.2)]):=⟨zl l x⟩
instance AAY(c:List c8)(f:c8->K1)(b:FuncId)(a:Fq)[e:∀(d:c8),CT (f d) b (AR d::a) rB]:CT (DF c f) 348 [DM c,.clo b a] rI:=CW f348 0x9e89cad5018fcf097f32816b6989ca9701bc [] (DF.eq_1 ..) (BJ 0 8 7 0)
instance AAW(c:List c8)(f:c8->K1)(b:FuncId)(a:Fq)[e:∀(d:c8),CT (f d) b (AR d::a) rB]:CT (CC c f) 332 [DM c,.clo b a] rB:=Fe f332 0xd00e32bc [] (CC.eq_1 ..)
theorem zm(s:Fp)(n:Int)(r:Fp)(h:Iu s n=Y r):AW prog 204 [.nil,eI n] (.own (lI r)):=by
  unfold Iu at h;split at h
  · rename_i c
    cases h;obtain⟨k,rfl⟩:=w? c.2.1;have d:k<=Ak:=by have:=c.2.2;omega
    have g:=d;unfold Ak at g;obtain⟨b,i,j,p,l⟩:∃b,prog.info? 3=Y b/\b.zero=Y (.int .i64 0)/\b.size=1/\b.bytes=8:=⟨_,rfl,rfl,rfl,rfl⟩;refine rV q? d (e:=3) (z:=(Value.int .i64 0).cells) rfl (λw m=>?_) (λw o=>?_)
    .exact Go.Proofs.Any8.slices_Grow_room Go.Proofs.Tryz.growI W 0 0 k w (a5 _) U U U
    .exact Go.Proofs.Any8.slices_Grow_grow Go.Proofs.Tryz.growI b (.int .i64 0) i j U W 0 0 k [] w (a5 _) U (by rw[l];omega) U V (λ_=>rfl) (λa f=>by cases f)
  .cases h
instance AAh(s:Fp)(n:Int):Ct Go.Proofs.Tryz.prog (Iu s n) 204 [.nil,eI n] (rO lI):=⟨zm s n⟩
theorem xT:CK f141 (Rq [⟨Y 2,.Abp 1,W⟩] [0]<|Rq [Af 3 0] [0,3]<|Sq (Rq [Aa 9 0,⟨Y 10,.len (.s 9),W⟩,Af 11 0] [0,3,9,10,11]<|Bl 0<|Lo [0,3,9,10,11]<|Rq [⟨Y 12,.bin (.i) .lss (.s 11) (.s 10),W⟩] [0,3,9,10,11,12]<|Sq (Co 12 (Sk [0,3,9,10,11])<|Ex 0 [0,3])<|Sq (Bl 1<|Rq [⟨Y 13,.iad (.s 9) (.s 11) 1,W⟩,⟨Y 14,.ld (.s 13),W⟩,Ab 5 14] [0,3,5,9,10,11]<|Rq [Aa 15 3,Aa 16 5,⟨Y 17,.len (.s 16),W⟩,⟨Y 18,.bin (.i) .add (.s 15) (.s 17),W⟩,Aa 3 18] [0,3,9,10,11]<|Rq [Aa 19 3,⟨Y 20,.bin (.i) .lss (.s 19) (.c (.int .i64 0)),W⟩] [0,3,9,10,11,20]<|Co 20 (.bad)<|Sk [0,3,9,10,11])<|Re [⟨Y 22,.bin (.i) .add (.s 11) (.c (.int .i64 1)),W⟩,Aa 11 22] [0,3,9,10,11])<|Rq [Aa 23 3,⟨Y 24,.call 204 [.c .nil,.s 23],W⟩,Ab 6 24] [0,6]<|Sq (Rq [Aa 25 0,⟨Y 26,.len (.s 25),W⟩,Af 27 0] [6,25,26,27]<|Bl 2<|Lo [6,25,26,27]<|Rq [⟨Y 28,.bin (.i) .lss (.s 27) (.s 26),W⟩] [6,25,26,27,28]<|Sq (Co 28 (Sk [6,25,26,27])<|Ex 2 [6])<|Sq (Bl 3<|Rq [⟨Y 29,.iad (.s 25) (.s 27) 1,W⟩,⟨Y 30,.ld (.s 29),W⟩,Ab 8 30] [6,8,25,26,27]<|Re [Ab 31 6,Aa 32 8,⟨Y 33,.app 1 (.s 31) (.s 32),W⟩,Ab 6 33] [6,25,26,27])<|Re [⟨Y 34,.bin (.i) .add (.s 27) (.c (.int .i64 1)),W⟩,Aa 27 34] [6,25,26,27])<|Rq [Ab 35 6,Ab 2 35] [2]<|.ret) [.tmp 2]:=b!
instance(a):CT (HU a) 141 [(eL 1 lI) a] (rO lI):=Fi xT λr h b c=>by
  unfold HU at h;have:=Bu 0 11 10 0 (hT 3 eI);have:=Bu 2 27 26 0 (hO 6 lI);exact au
instance(a b):CT (slices_Equal_int a b) 22 [lI a,lI b] rB:=CW f22 0x9e0d0ccad58560326032816b690d0cca970157e7010b01bc [] (slices_Equal_int.eq_1 ..) (BJ 0 13 12 0)
theorem zv(a b c:Int)(r:Int×Int)(h:Ik a b c=Y r):AW prog 350 [Kl a,Kl b,Kl c] (.ext [Kl (r.1),Kl (r.2)]):=by
  unfold Ik at h;split at h
  · rename_i d
    cases h;obtain⟨⟨a0,a1⟩,⟨e,g⟩,f,i⟩:=d;intro _;refine⟨⟨rfl,?_⟩,λw vs hv=>?_⟩
    · simp only[Kl,TV.pr,TV.WF,IntKind.min,IntKind.max,IntKind.signed,IntKind.bits,and_true]
      simp only[Bool.false_eq_true,if_false];refine⟨⟨U,?_⟩,U,?_⟩
      · have:(2:Int)^ 64=18446744073709551616:=a_
        omega
      · have:(2:Int)^ 64=18446744073709551616:=a_
        omega
    · obtain⟨x,rfl⟩:=w? a0
      obtain ⟨y,rfl⟩:=w? e;obtain⟨z,rfl⟩:=w? f;have:=Go.Proofs.Any7.bits_Add64 Go.Proofs.Tryz.lays7n25 x y z U w;obtain⟨l⟩:=vs;simp only[Kl,AT,At]at hv;obtain⟨j,k,rfl,rfl,m,n,rfl,rfl,o,p,rfl,rfl,rfl⟩:=hv;refine⟨_,this,?_⟩;simp only[Kl,AT,At];exact⟨_,_,rfl,V,_,_,rfl,V,rfl⟩
  .cases h
instance AAn(a b c:Int):Ct Go.Proofs.Tryz.prog (Ik a b c) 350 [Kl a,Kl b,Kl c] (λr=>.ext [Kl (r.1),Kl (r.2)]):=⟨zv a b c⟩
instance(a):CT (NP a) 342 [lI a] rI:=CW f342 0xde308906bad5018532816030698906ba97a16b01 [] (NP.eq_1 ..) (BJ 0 8 7 0)
instance(a):CT (cmp_isNaN_int a) 243 [eI a] rB:=Fe f243 0x819a9001 [] (cmp_isNaN_int.eq_1 ..)
instance(a b):CT (cmp_Compare_int a b) 343 [eI a,eI b] rI:=Fe f343 0xaa853257853257aa5781a10e610e01bc [] (cmp_Compare_int.eq_1 ..)
instance(a):CT (Jv a) 351 [Kl a] rB:=Fe f351 0x819a9001 [] (Jv.eq_1 ..)
instance(a b):CT (Ib a b) 344 [Kl a,Kl b] rI:=Fe f344 0xaa853257853257aa5781a10e610e01bc [] (Ib.eq_1 ..)
instance(a):CT (Cf a) 54 [lE a] (rO lE):=Fe f54 0x820348010347ff03c09c0103400001 [] (Cf.eq_1 ..)
theorem zp(l:Fp)(m:Int)(r:Fp)(h:Ep l m=Y r):AW prog 222 [lI l,eI m] (.own (lI r)):=by
  unfold Ep at h;split at h
  · rename_i a
    cases h;obtain⟨x,rfl⟩:=List.length_eq_one_iff.1 a.1;obtain⟨k,rfl⟩:=w? a.2.1;exact db x k (by have:=a.2.2;omega)
  .cases h
instance AAi(l:Fp)(m:Int):Ct Go.Proofs.Tryz.prog (Ep l m) 222 [lI l,eI m] (rO lI):=⟨zp l m⟩
instance(a):CT (HT a) 210 [(eL 1 eB) a] (rO (eL 1 eB)):=Fe f210 0x8201483247ff01c09c32400001 [] (HT.eq_1 ..)
instance(a):CT (JH a) 211 [(eL 4 JC) a] (rO (eL 4 JC)):=Fe f211 0x820448ec47ff04c09cec400001 [] (JH.eq_1 ..)
instance(a):CT (D0 a) 9 [(eL 25 Bb) a] (rO (eL 25 Bb)):=Fe f9 0x821948011947ff19c09c0119400001 [] (D0.eq_1 ..)
end Go.Sf.Sc
