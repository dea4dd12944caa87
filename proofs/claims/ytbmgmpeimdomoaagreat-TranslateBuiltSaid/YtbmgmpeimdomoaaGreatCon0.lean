/- Contracts of the functions. -/
import Derived.Test.YtbmgmpeimdomoaaGreatShort
import Derived.Test.YtbmgmpeimdomoaaGreatTw
set_option linter.all false
set_option maxRecDepth 100000
set_option maxHeartbeats 4000000
open Option renaming some->Y,none->W
open Int renaming eq_ofNat_of_zero_le->w!
namespace Go.Sf.Sc
open Go Go.Sf Go.Proofs.Tryz
instance AAt(c:List Bx)(f:Bx->I1)(a:FuncId)(b:Fq)[e:∀(d:Bx),CT (f d) a (Dy d::b) rB]:CT (DJ c f) 101 [lN c,.clo a b] rI:=CA f101 0xa87ebb9bfb8fe9d330816b6a7ebba101c3 [] (DJ.eq_1 ..) (BA 0 8 7 0)
instance c53(c:List Bx)(f:Bx->I1)(a:FuncId)(b:Fq)[e:∀(d:Bx),CT (f d) a (Dy d::b) rB]:CT (BP c f) 53 [lN c,.clo a b] rB:=Fe f53 0xbe0e30c3 [] (BP.eq_1 ..)
instance(a b):CT (slices_Index_string a b) 366 [lB a,eS b] rI:=CA f366 0xa87ebb9bfb869130816b6a7ebba101c3 [] (slices_Index_string.eq_1 ..) (BA 0 8 7 0)
instance(a b):CT (slices_Contains_string a b) 323 [lB a,eS b] rB:=Fe f323 0xbe0e30c3 [] (slices_Contains_string.eq_1 ..)
theorem AAT(s:ByteArray)(c:Int)(r:Int)(h:strings_IndexByte s c=Y r):AS prog 350 [eS s,Nn c] (.sh (eI r)):=by
  unfold strings_IndexByte at h;cases h;exact uf r_ ⟨Go.Lib.indexByte_ge _ _,ue _ _⟩ (λw=>Go.Proofs.Tryz.strings_IndexByte s c w)
instance ABK(s:ByteArray)(c:Int):Ct Go.Proofs.Tryz.prog (strings_IndexByte s c) 350 [eS s,Nn c] (rS eI):=⟨AAT s c⟩
instance AA0(c:List ff)(f:ff->I1)(a:FuncId)(b:Fq)[e:∀(d:ff),CT (f d) a (Iy d::b) rB]:CT (D8 c f) 322 [lA c,.clo a b] rI:=CA f322 0xa87ebb9bfb8fe9d330816b6a7ebba101c3 [] (D8.eq_1 ..) (BA 0 8 7 0)
instance AAx(c:List ff)(f:ff->I1)(a:FuncId)(b:Fq)[e:∀(d:ff),CT (f d) a (Iy d::b) rB]:CT (C1 c f) 265 [lA c,.clo a b] rB:=Fe f265 0xbe0e30c3 [] (C1.eq_1 ..)
instance AAy(c:List Cq)(f:Cq->I1)(a:FuncId)(b:Fq)[e:∀(d:Cq),CT (f d) a (Et d::b) rB]:CT (DI c f) 268 [lX c,.clo a b] rI:=CA f268 0xa87ebb9bfb8f0744078c30816b6a7ebba101c3 [] (DI.eq_1 ..) (BA 0 8 7 0)
instance AAw(c:List Cq)(f:Cq->I1)(a:FuncId)(b:Fq)[e:∀(d:Cq),CT (f d) a (Et d::b) rB]:CT (CX c f) 194 [lX c,.clo a b] rB:=Fe f194 0xbe0e30c3 [] (CX.eq_1 ..)
instance(a):CT (slices_Clone_int a) 62 [lI a] (rO lI):=Fe f62 0x8201483047ff01c09c30400001 [] (slices_Clone_int.eq_1 ..)
instance AAu(c:Fp)(f:Int->I1)(a:FuncId)(b:Fq)[e:∀(d:Int),CT (f d) a (eI d::b) rB]:CT (Eb c f) 116 [lI c,.clo a b] rI:=CA f116 0xa87ebb9bfb8f9130816b6a7ebba101c3 [] (Eb.eq_1 ..) (BA 0 8 7 0)
instance c58(c:Fp)(f:Int->I1)(a:FuncId)(b:Fq)[e:∀(d:Int),CT (f d) a (eI d::b) rB]:CT (A9 c f) 58 [lI c,.clo a b] rB:=Fe f58 0xbe0e30c3 [] (A9.eq_1 ..)
instance(a b):CT (slices_Index_int a b) 49 [lI a,eI b] rI:=CA f49 0xa87ebb9bfb859130816b6a7ebba101c3 [] (slices_Index_int.eq_1 ..) (BA 0 8 7 0)
instance(a b):CT (slices_Contains_int a b) 24 [lI a,eI b] rB:=Fe f24 0xbe0e30c3 [] (slices_Contains_int.eq_1 ..)
theorem AAS(l r:Fp)(h:slices_Reverse_int l=Y r):AS prog 269 [.list 1 (l.map (TV.int .i64))] (.turn r []):=by
  unfold slices_Reverse_int at h;split at h
  · rename_i d
    unfold AX at d;cases h;refine lC r_ List.length_reverse (λx a=>List.mem_reverse.1 a) (λw b=>?_) (λg cap w _ _ j c=>(Go.Proofs.Tryz.slices_Reverse_int g 0 cap l w c U).mono ?_)
    · subst b
      exact Go.Proofs.Tryz.slices_Reverse_int_empty W 0 w
    · rintro e w' ⟨f,q,i⟩
      exact ⟨f,q,#[],by rw[Go.Sort.grow_empty];exact i⟩
  .cases h
instance ABJ(l:Fp):Ct Go.Proofs.Tryz.prog (slices_Reverse_int l) 269 [.list 1 (l.map (TV.int .i64))] (λr=>.turn r []):=⟨AAS l⟩
instance AAv(c:List Bw)(f:Bw->I1)(a:FuncId)(b:Fq)[e:∀(d:Bw),CT (f d) a (B6 d::b) rB]:CT (D9 c f) 117 [lE c,.clo a b] rI:=CA f117 0xa87ebb9bfb8fd58c30816b6a7ebba101c3 [] (D9.eq_1 ..) (BA 0 8 7 0)
instance c60(c:List Bw)(f:Bw->I1)(a:FuncId)(b:Fq)[e:∀(d:Bw),CT (f d) a (B6 d::b) rB]:CT (BO c f) 60 [lE c,.clo a b] rB:=Fe f60 0xbe0e30c3 [] (BO.eq_1 ..)
instance(a b):CT (Jn a b) 259 [(eL 1 eB) a,eB b] rI:=CA f259 0xa87ebb9bfb879130816b6a7ebba101c3 [] (Jn.eq_1 ..) (BA 0 8 7 0)
instance(a b):CT (DE a b) 185 [(eL 1 eB) a,eB b] rB:=Fe f185 0xbe0e30c3 [] (DE.eq_1 ..)
instance(a):CT (slices_Clone_string a) 197 [lB a] (rO lB):=Fe f197 0x8201483047ff01c09c30400001 [] (slices_Clone_string.eq_1 ..)
instance AA3(c:List DN)(f:DN->I1)(a:FuncId)(b:Fq)[e:∀(d:DN),CT (f d) a (Gp d::b) rB]:CT (EA c f) 352 [lS c,.clo a b] rI:=CA f352 0xa87ebb9bfb8fe9d330816b6a7ebba101c3 [] (EA.eq_1 ..) (BA 0 8 7 0)
instance AAz(c:List DN)(f:DN->I1)(a:FuncId)(b:Fq)[e:∀(d:DN),CT (f d) a (Gp d::b) rB]:CT (Ck c f) 306 [lS c,.clo a b] rB:=Fe f306 0xbe0e30c3 [] (Ck.eq_1 ..)
theorem AAM(l r:Fp)(h:slices_Sort_int l=Y r):AS prog 130 [.list 1 (l.map (TV.int .i64))] (.turn r []):=by
  unfold slices_Sort_int at h;rw[<-oC]at h;split at h
  · rename_i e
    unfold AX at e;cases h;refine lC r_ (List.length_mergeSort _) (λx a=>List.mem_mergeSort.1 a) (λw b=>?_) (λg cap w _ _ c d=>Go.Proofs.Tryz.slices_Sort_int g 0 cap l w d c U);subst b;exact Go.Proofs.Tryz.slices_Sort_int_none W 0 w
  .cases h
instance ABC(l:Fp):Ct Go.Proofs.Tryz.prog (slices_Sort_int l) 130 [.list 1 (l.map (TV.int .i64))] (λr=>.turn r []):=⟨AAM l⟩
theorem AAN(l r:Fp)(h:slices_Compact_int l=Y r):AS prog 131 [.list 1 (l.map (TV.int .i64))] (.cut r):=by
  unfold slices_Compact_int at h;split at h
  · rename_i e
    unfold AX at e;cases h;have f:=Go.Lib.compact_length_le l;refine uW (rest:=List.replicate (l.length-(Go.Lib.compact l).length) 0) r_ (by rw[List.length_replicate];omega) (λx a=>eF a) (λw b=>?_) (λg cap w c _ i d=>Go.Proofs.Tryz.slices_Compact_int g 0 cap l w d U c);subst b;exact Go.Proofs.Tryz.slices_Compact_int_empty W 0 w
  .cases h
instance ABD(l:Fp):Ct Go.Proofs.Tryz.prog (slices_Compact_int l) 131 [.list 1 (l.map (TV.int .i64))] As.cut:=⟨AAN l⟩
theorem AAO(l:Fp)(x:Int)(r:Int×Bool)(h:slices_BinarySearch_int l x=Y r):AS prog 135 [lI l,eI x] (.tp [eI (r.1),eB (r.2)]):=by
  unfold slices_BinarySearch_int at h;split at h
  · rename_i d
    cases h;have g:=d.1;unfold AX at g;refine mP r_ d.1 d.2 (λa c w i=>?_) (λb e c w f=>Go.Proofs.Tryz.slices_BinarySearch_int b e l.length c l x w (R0 _) U f (by rw[List.take_length];exact d.2));exact Go.Proofs.Tryz.slices_BinarySearch_int_empty a c x w
  .cases h
instance ABE(l:Fp)(x:Int):Ct Go.Proofs.Tryz.prog (slices_BinarySearch_int l x) 135 [lI l,eI x] (λr=>.tp [eI (r.1),eB (r.2)]):=⟨AAO l x⟩
instance AA5(c:List bq)(f:bq->I1)(a:FuncId)(b:Fq)[e:∀(d:bq),CT (f d) a (AQ d::b) rB]:CT (DA c f) 375 [Fo c,.clo a b] rI:=CA f375 0xa87ebb9bfb8fc6098c30816b6a7ebba101c3 [] (DA.eq_1 ..) (BA 0 8 7 0)
instance AA4(c:List bq)(f:bq->I1)(a:FuncId)(b:Fq)[e:∀(d:bq),CT (f d) a (AQ d::b) rB]:CT (B5 c f) 354 [Fo c,.clo a b] rB:=Fe f354 0xbe0e30c3 [] (B5.eq_1 ..)
theorem AAP(s:Fp)(n:Int)(r:Fp)(h:JH s n=Y r):AS prog 172 [.nil,eI n] (.own (lI r)):=by
  unfold JH at h;split at h
  · rename_i c
    cases h;obtain⟨k,rfl⟩:=w! c.2.1;have d:k<=AX:=by have:=c.2.2;omega
    have g:=d;unfold AX at g;obtain⟨b,i,j,p,l⟩:∃b,prog.info? 3=Y b/\b.zero=Y (.int .i64 0)/\b.size=1/\b.bytes=8:=⟨_,rfl,rfl,rfl,rfl⟩;refine rj r_ d (e:=3) (z:=(Value.int .i64 0).cells) rfl (λw m=>?_) (λw o=>?_)
    .exact Go.Proofs.Any8.slices_Grow_room Go.Proofs.Tryz.growI W 0 0 k w (R0 _) U U U
    .exact Go.Proofs.Any8.slices_Grow_grow Go.Proofs.Tryz.growI b (.int .i64 0) i j U W 0 0 k [] w (R0 _) U (by rw[l];omega) U V (λ_=>rfl) (λa f=>by cases f)
  .cases h
instance ABF(s:Fp)(n:Int):Ct Go.Proofs.Tryz.prog (JH s n) 172 [.nil,eI n] (rO lI):=⟨AAP s n⟩
theorem xy:CK f104 (Rq [⟨Y 2,.Abo 1,W⟩] [0]<|Rq [Af 3 0] [0,3]<|Sq (Rq [Aa 9 0,⟨Y 10,.len (.s 9),W⟩,Af 11 0] [0,3,9,10,11]<|Bl 0<|Lo [0,3,9,10,11]<|Rq [⟨Y 12,.bin (.i) .lss (.s 11) (.s 10),W⟩] [0,3,9,10,11,12]<|Sq (Co 12 (Sk [0,3,9,10,11])<|Ex 0 [0,3])<|Sq (Bl 1<|Rq [⟨Y 13,.iad (.s 9) (.s 11) 1,W⟩,⟨Y 14,.ld (.s 13),W⟩,Ab 5 14] [0,3,5,9,10,11]<|Rq [Aa 15 3,Aa 16 5,⟨Y 17,.len (.s 16),W⟩,⟨Y 18,.bin (.i) .add (.s 15) (.s 17),W⟩,Aa 3 18] [0,3,9,10,11]<|Rq [Aa 19 3,⟨Y 20,.bin (.i) .lss (.s 19) (.c (.int .i64 0)),W⟩] [0,3,9,10,11,20]<|Co 20 (.bad)<|Sk [0,3,9,10,11])<|Re [⟨Y 22,.bin (.i) .add (.s 11) (.c (.int .i64 1)),W⟩,Aa 11 22] [0,3,9,10,11])<|Rq [Aa 23 3,⟨Y 24,.call 172 [.c .nil,.s 23],W⟩,Ab 6 24] [0,6]<|Sq (Rq [Aa 25 0,⟨Y 26,.len (.s 25),W⟩,Af 27 0] [6,25,26,27]<|Bl 2<|Lo [6,25,26,27]<|Rq [⟨Y 28,.bin (.i) .lss (.s 27) (.s 26),W⟩] [6,25,26,27,28]<|Sq (Co 28 (Sk [6,25,26,27])<|Ex 2 [6])<|Sq (Bl 3<|Rq [⟨Y 29,.iad (.s 25) (.s 27) 1,W⟩,⟨Y 30,.ld (.s 29),W⟩,Ab 8 30] [6,8,25,26,27]<|Re [Ab 31 6,Aa 32 8,⟨Y 33,.app 1 (.s 31) (.s 32),W⟩,Ab 6 33] [6,25,26,27])<|Re [⟨Y 34,.bin (.i) .add (.s 27) (.c (.int .i64 1)),W⟩,Aa 27 34] [6,25,26,27])<|Rq [Ab 35 6,Ab 2 35] [2]<|.ret) [.tmp 2]:=b!
instance(a):CT (Hc a) 104 [(eL 1 lI) a] (rO lI):=Fi xy λr h b c=>by
  unfold Hc at h;have:=BI 0 11 10 0 (hT 3 eI);have:=BI 2 27 26 0 (hO 6 lI);exact au
instance(a b):CT (slices_Equal_int a b) 19 [lI a,lI b] rB:=CA f19 0xa80d0cbb9bc1eded816b6a0d0cbba101c1fcfcc3 [] (slices_Equal_int.eq_1 ..) (BA 0 13 12 0)
theorem AAU(a b c:Int)(r:Int×Int)(h:I7 a b c=Y r):AS prog 377 [LB a,LB b,LB c] (.ext [LB (r.1),LB (r.2)]):=by
  unfold I7 at h;split at h
  · rename_i d
    cases h;obtain⟨⟨a0,a1⟩,⟨e,g⟩,f,i⟩:=d;intro _;refine⟨⟨rfl,?_⟩,λw vs hv=>?_⟩
    · simp only[LB,TV.ns,TV.WF,IntKind.min,IntKind.max,IntKind.signed,IntKind.bits,and_true]
      simp only[Bool.false_eq_true,if_false];refine⟨⟨U,?_⟩,U,?_⟩
      · have:(2:Int)^ 64=18446744073709551616:=a_
        omega
      · have:(2:Int)^ 64=18446744073709551616:=a_
        omega
    · obtain⟨x,rfl⟩:=w! a0
      obtain ⟨y,rfl⟩:=w! e;obtain⟨z,rfl⟩:=w! f;have:=Go.Proofs.Any7.bits_Add64 Go.Proofs.Tryz.lays7n25 x y z U w;obtain⟨l⟩:=vs;simp only[LB,AR,Aq]at hv;obtain⟨j,k,rfl,rfl,m,n,rfl,rfl,o,p,rfl,rfl,rfl⟩:=hv;refine⟨_,this,?_⟩;simp only[LB,AR,Aq];exact⟨_,_,rfl,V,_,_,rfl,V,rfl⟩
  .cases h
instance ABL(a b c:Int):Ct Go.Proofs.Tryz.prog (I7 a b c) 377 [LB a,LB b,LB c] (λr=>.ext [LB (r.1),LB (r.2)]):=⟨AAU a b c⟩
instance(a):CT (OF a) 361 [lI a] rI:=CA f361 0xeb317e06c89bfb85308160316a7e06c8a1a26b01 [] (OF.eq_1 ..) (BA 0 8 7 0)
instance(a):CT (cmp_isNaN_int a) 282 [eI a] rB:=Fe f282 0xbe019601 [] (cmp_isNaN_int.eq_1 ..)
instance(a b):CT (cmp_Compare_int a b) 362 [eI a,eI b] rI:=Fe f362 0x81c130c130d658d6a20e61f4c3 [] (cmp_Compare_int.eq_1 ..)
instance(a):CT (KH a) 378 [LB a] rB:=Fe f378 0xbe019601 [] (KH.eq_1 ..)
instance(a b):CT (Iw a b) 363 [LB a,LB b] rI:=Fe f363 0x81c130c130d658d6a20e61f4c3 [] (Iw.eq_1 ..)
instance(a):CT (Ca a) 63 [lE a] (rO lE):=Fe f63 0x820348010347ff03c09c0103400001 [] (Ca.eq_1 ..)
theorem AAQ(l:Fp)(m:Int)(r:Fp)(h:El l m=Y r):AS prog 182 [lI l,eI m] (.own (lI r)):=by
  unfold El at h;split at h
  · rename_i a
    cases h;obtain⟨x,rfl⟩:=List.length_eq_one_iff.1 a.1;obtain⟨k,rfl⟩:=w! a.2.1;exact dP x k (by have:=a.2.2;omega)
  .cases h
instance ABG(l:Fp)(m:Int):Ct Go.Proofs.Tryz.prog (El l m) 182 [lI l,eI m] (rO lI):=⟨AAQ l m⟩
instance(a):CT (Hb a) 263 [(eL 1 eB) a] (rO (eL 1 eB)):=Fe f263 0x8201483047ff01c09c30400001 [] (Hb.eq_1 ..)
instance(a):CT (Jm a) 264 [(eL 4 Ji) a] (rO (eL 4 Ji)):=Fe f264 0x820448f347ff04c09cf3400001 [] (Jm.eq_1 ..)
end Go.Sf.Sc
