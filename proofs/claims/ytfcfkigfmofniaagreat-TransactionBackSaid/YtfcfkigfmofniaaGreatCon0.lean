/- Contracts of the functions. -/
import Derived.Test.YtfcfkigfmofniaaGreatShort
import Derived.Test.YtfcfkigfmofniaaGreatTw
set_option linter.all false
set_option maxRecDepth 100000
set_option maxHeartbeats 4000000
open Int renaming eq_ofNat_of_zero_le->u!
namespace Go.Sf.Sc
open Go Go.Sf Go.Proofs.Tryz
instance(a b):CT (slices_Index_string a b) 333 [lB a,eS b] rI:=Bl f333 0xa6a8f99d7d868030819764a8f9a101b7 [] (slices_Index_string.eq_1 ..) (A3 0 8 7 0)
instance(a b):CT (slices_Contains_string a b) 290 [lB a,eS b] rB:=Fe f290 0xc50e30b7 [] (slices_Contains_string.eq_1 ..)
theorem xU(s:ByteArray)(c:Int)(r:Int)(h:strings_IndexByte s c=some r):AX prog 310 [eS s,HF c] (.sh (eI r)):=by
  unfold strings_IndexByte at h;cases h;exact rZ r! ⟨Go.Lib.indexByte_ge _ _,rY _ _⟩ (λw=>Go.Proofs.Tryz.strings_IndexByte s c w)
instance yZ(s:ByteArray)(c:Int):Ct Go.Proofs.Tryz.prog (strings_IndexByte s c) 310 [eS s,HF c] (rS eI):=⟨xU s c⟩
instance yG(c:List BD)(f:BD->K1)(a:FuncId)(b:Fq)[e:∀(d:BD),CT (f d) a (Gq d::b) rB]:CT (Cv c f) 231 [lN c,.zv a b] rI:=Bl f231 0xa6a8f99d7d8fadc630819764a8f9a101b7 [] (Cv.eq_1 ..) (A3 0 8 7 0)
instance yC(c:List BD)(f:BD->K1)(a:FuncId)(b:Fq)[e:∀(d:BD),CT (f d) a (Gq d::b) rB]:CT (B8 c f) 156 [lN c,.zv a b] rB:=Fe f156 0xc50e30b7 [] (B8.eq_1 ..)
instance yK(c:List mh)(f:mh->K1)(a:FuncId)(b:Fq)[e:∀(d:mh),CT (f d) a (IF d::b) rB]:CT (Dg c f) 289 [lA c,.zv a b] rI:=Bl f289 0xa6a8f99d7d8fadc630819764a8f9a101b7 [] (Dg.eq_1 ..) (A3 0 8 7 0)
instance yH(c:List mh)(f:mh->K1)(a:FuncId)(b:Fq)[e:∀(d:mh),CT (f d) a (IF d::b) rB]:CT (CW c f) 232 [lA c,.zv a b] rB:=Fe f232 0xc50e30b7 [] (CW.eq_1 ..)
instance yI(c:List CI)(f:CI->K1)(a:FuncId)(b:Fq)[e:∀(d:CI),CT (f d) a (IG d::b) rB]:CT (Cu c f) 235 [lX c,.zv a b] rI:=Bl f235 0xa6a8f99d7d8f0744077330819764a8f9a101b7 [] (Cu.eq_1 ..) (A3 0 8 7 0)
instance yD(c:List CI)(f:CI->K1)(a:FuncId)(b:Fq)[e:∀(d:CI),CT (f d) a (IG d::b) rB]:CT (B7 c f) 161 [lX c,.zv a b] rB:=Fe f161 0xc50e30b7 [] (B7.eq_1 ..)
instance yE(c:Fp)(f:Int->K1)(a:FuncId)(b:Fq)[e:∀(d:Int),CT (f d) a (eI d::b) rB]:CT (D0 c f) 164 [lI c,.zv a b] rI:=Bl f164 0xa6a8f99d7d8f8030819764a8f9a101b7 [] (D0.eq_1 ..) (A3 0 8 7 0)
instance yA(c:Fp)(f:Int->K1)(a:FuncId)(b:Fq)[e:∀(d:Int),CT (f d) a (eI d::b) rB]:CT (A0 c f) 100 [lI c,.zv a b] rB:=Fe f100 0xc50e30b7 [] (A0.eq_1 ..)
instance yF(c:List Bo)(f:Bo->K1)(a:FuncId)(b:Fq)[e:∀(d:Bo),CT (f d) a (Bu d::b) rB]:CT (Dh c f) 165 [lE c,.zv a b] rI:=Bl f165 0xa6a8f99d7d8ff630819764a8f9a101b7 [] (Dh.eq_1 ..) (A3 0 8 7 0)
instance yB(c:List Bo)(f:Bo->K1)(a:FuncId)(b:Fq)[e:∀(d:Bo),CT (f d) a (Bu d::b) rB]:CT (BP c f) 103 [lE c,.zv a b] rB:=Fe f103 0xc50e30b7 [] (BP.eq_1 ..)
instance(a):CT (slices_Clone_string a) 166 [lB a] (rO lB):=Fe f166 0x8201483047ff01c09c30400001 [] (slices_Clone_string.eq_1 ..)
instance(a b):CT (slices_Index_int a b) 236 [lI a,eI b] rI:=Bl f236 0xa6a8f99d7d858030819764a8f9a101b7 [] (slices_Index_int.eq_1 ..) (A3 0 8 7 0)
instance(a b):CT (slices_Contains_int a b) 168 [lI a,eI b] rB:=Fe f168 0xc50e30b7 [] (slices_Contains_int.eq_1 ..)
theorem xR(l r:Fp)(h:slices_Reverse_int l=some r):AX prog 237 [.list 1 (l.map (TV.int .i64))] (.turn r []):=by
  unfold slices_Reverse_int at h;split at h
  · rename_i d
    unfold AU at d;cases h;refine iR r! List.length_reverse (λx a=>List.mem_reverse.1 a) (λw b=>?_) (λg cap w _ _ j c=>(Go.Proofs.Tryz.slices_Reverse_int g 0 cap l w c U).mono ?_)
    · subst b
      exact Go.Proofs.Tryz.slices_Reverse_int_empty none 0 w
    · rintro e w' ⟨f,q,i⟩
      exact ⟨f,q,#[],by rw[Go.Sort.grow_empty];exact i⟩
  .cases h
instance yV(l:Fp):Ct Go.Proofs.Tryz.prog (slices_Reverse_int l) 237 [.list 1 (l.map (TV.int .i64))] (λr=>.turn r []):=⟨xR l⟩
instance(a b):CT (Iz a b) 266 [(eL 1 eB) a,eB b] rI:=Bl f266 0xa6a8f99d7d878030819764a8f9a101b7 [] (Iz.eq_1 ..) (A3 0 8 7 0)
instance(a b):CT (FJ a b) 210 [(eL 1 eB) a,eB b] rB:=Fe f210 0xc50e30b7 [] (FJ.eq_1 ..)
instance yM(c:List Bw)(f:Bw->K1)(a:FuncId)(b:Fq)[e:∀(d:Bw),CT (f d) a (F7 d::b) rB]:CT (Di c f) 312 [lS c,.zv a b] rI:=Bl f312 0xa6a8f99d7d8fadc630819764a8f9a101b7 [] (Di.eq_1 ..) (A3 0 8 7 0)
instance yJ(c:List Bw)(f:Bw->K1)(a:FuncId)(b:Fq)[e:∀(d:Bw),CT (f d) a (F7 d::b) rB]:CT (CE c f) 269 [lS c,.zv a b] rB:=Fe f269 0xc50e30b7 [] (CE.eq_1 ..)
instance(a):CT (slices_Clone_int a) 46 [lI a] (rO lI):=Fe f46 0x8201483047ff01c09c30400001 [] (slices_Clone_int.eq_1 ..)
theorem xS(l:Fp)(x:Int)(r:Int×Bool)(h:slices_BinarySearch_int l x=some r):AX prog 272 [lI l,eI x] (.tp [eI (r.1),eB (r.2)]):=by
  unfold slices_BinarySearch_int at h;split at h
  · rename_i d
    cases h;have g:=d.1;unfold AU at g;refine jh r! d.1 d.2 (λa c w i=>?_) (λb e c w f=>Go.Proofs.Tryz.slices_BinarySearch_int b e l.length c l x w (b6 _) U f (by rw[List.take_length];exact d.2));exact Go.Proofs.Tryz.slices_BinarySearch_int_empty a c x w
  .cases h
instance yW(l:Fp)(x:Int):Ct Go.Proofs.Tryz.prog (slices_BinarySearch_int l x) 272 [lI l,eI x] (λr=>.tp [eI (r.1),eB (r.2)]):=⟨xS l x⟩
theorem xV(l r:Fp)(h:slices_Sort_int l=some r):AX prog 316 [.list 1 (l.map (TV.int .i64))] (.turn r []):=by
  unfold slices_Sort_int at h;rw[<-lD]at h;split at h
  · rename_i e
    unfold AU at e;cases h;refine iR r! (List.length_mergeSort _) (λx a=>List.mem_mergeSort.1 a) (λw b=>?_) (λg cap w _ _ c d=>Go.Proofs.Tryz.slices_Sort_int g 0 cap l w d c U);subst b;exact Go.Proofs.Tryz.slices_Sort_int_none none 0 w
  .cases h
instance ya(l:Fp):Ct Go.Proofs.Tryz.prog (slices_Sort_int l) 316 [.list 1 (l.map (TV.int .i64))] (λr=>.turn r []):=⟨xV l⟩
theorem xW(l r:Fp)(h:slices_Compact_int l=some r):AX prog 317 [.list 1 (l.map (TV.int .i64))] (.cut r):=by
  unfold slices_Compact_int at h;split at h
  · rename_i e
    unfold AU at e;cases h;have f:=Go.Lib.compact_length_le l;refine rJ (rest:=List.replicate (l.length-(Go.Lib.compact l).length) 0) r! (by rw[List.length_replicate];omega) (λx a=>cD a) (λw b=>?_) (λg cap w c _ i d=>Go.Proofs.Tryz.slices_Compact_int g 0 cap l w d U c);subst b;exact Go.Proofs.Tryz.slices_Compact_int_empty none 0 w
  .cases h
instance yb(l:Fp):Ct Go.Proofs.Tryz.prog (slices_Compact_int l) 317 [.list 1 (l.map (TV.int .i64))] Al.cut:=⟨xW l⟩
instance yP(c:List d5)(f:d5->K1)(a:FuncId)(b:Fq)[e:∀(d:d5),CT (f d) a (AI d::b) rB]:CT (Ck c f) 351 [Ey c,.zv a b] rI:=Bl f351 0xa6a8f99d7d8fb2097330819764a8f9a101b7 [] (Ck.eq_1 ..) (A3 0 8 7 0)
instance yN(c:List d5)(f:d5->K1)(a:FuncId)(b:Fq)[e:∀(d:d5),CT (f d) a (AI d::b) rB]:CT (Bq c f) 319 [Ey c,.zv a b] rB:=Fe f319 0xc50e30b7 [] (Bq.eq_1 ..)
instance(a b):CT (slices_Equal_int a b) 18 [lI a,lI b] rB:=Bl f18 0xa6d2f99dbae0e0819764d2f9a101baf3f3b7 [] (slices_Equal_int.eq_1 ..) (A3 0 13 12 0)
theorem xY(a b c:Int)(r:Int×Int)(h:IL a b c=some r):AX prog 388 [Ig a,Ig b,Ig c] (.ext [Ig (r.1),Ig (r.2)]):=by
  unfold IL at h;split at h
  · rename_i d
    cases h;obtain⟨⟨a0,a1⟩,⟨e,g⟩,f,i⟩:=d;intro _;refine⟨⟨rfl,?_⟩,λw vs hv=>?_⟩
    · simp only[Ig,TV.tl,TV.WF,IntKind.min,IntKind.max,IntKind.signed,IntKind.bits,and_true]
      simp only[Bool.false_eq_true,if_false];refine⟨⟨U,?_⟩,U,?_⟩
      · have:(2:Int)^ 64=18446744073709551616:=a?
        omega
      · have:(2:Int)^ 64=18446744073709551616:=a?
        omega
    · obtain⟨x,rfl⟩:=u! a0
      obtain ⟨y,rfl⟩:=u! e;obtain⟨z,rfl⟩:=u! f;have:=Go.Proofs.Any7.bits_Add64 Go.Proofs.Tryz.lays7n25 x y z U w;obtain⟨l⟩:=vs;simp only[Ig,AP,Af]at hv;obtain⟨j,k,rfl,rfl,m,n,rfl,rfl,o,p,rfl,rfl,rfl⟩:=hv;refine⟨_,this,?_⟩;simp only[Ig,AP,Af];exact⟨_,_,rfl,V,_,_,rfl,V,rfl⟩
  .cases h
instance yd(a b c:Int):Ct Go.Proofs.Tryz.prog (IL a b c) 388 [Ig a,Ig b,Ig c] (λr=>.ext [Ig (r.1),Ig (r.2)]):=⟨xY a b c⟩
instance(a):CT (NV a) 378 [lI a] rI:=Bl f378 0xb836b39b9d7d853081603664b39ba1899701 [] (NV.eq_1 ..) (A3 0 8 7 0)
instance(a):CT (cmp_isNaN_int a) 348 [eI a] rB:=Fe f348 0x81588401 [] (cmp_isNaN_int.eq_1 ..)
instance(a b):CT (cmp_Compare_int a b) 379 [eI a,eI b] rI:=Fe f379 0x81ba30ba30dd55dd890e610e01b7 [] (cmp_Compare_int.eq_1 ..)
instance(a):CT (Jg a) 389 [Ig a] rB:=Fe f389 0x81588401 [] (Jg.eq_1 ..)
instance(a b):CT (IC a b) 380 [Ig a,Ig b] rI:=Fe f380 0x81ba30ba30dd55dd890e610e01b7 [] (IC.eq_1 ..)
instance(a):CT (Cd a) 47 [lE a] (rO lE):=Fe f47 0x820348010347ff03c09c0103400001 [] (Cd.eq_1 ..)
theorem xT(l:Fp)(m:Int)(r:Fp)(h:EF l m=some r):AX prog 286 [lI l,eI m] (.own (lI r)):=by
  unfold EF at h;split at h
  · rename_i a
    cases h;obtain⟨x,rfl⟩:=List.length_eq_one_iff.1 a.1;obtain⟨k,rfl⟩:=u! a.2.1;exact bU x k (by have:=a.2.2;omega)
  .cases h
instance yX(l:Fp)(m:Int):Ct Go.Proofs.Tryz.prog (EF l m) 286 [lI l,eI m] (rO lI):=⟨xT l m⟩
end Go.Sf.Sc
