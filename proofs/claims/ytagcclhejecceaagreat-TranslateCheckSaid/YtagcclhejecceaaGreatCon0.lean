/- Contracts of the functions. -/
import Derived.Test.YtagcclhejecceaaGreatShort
import Derived.Test.YtagcclhejecceaaGreatTw
import Derived.Test.YtagcclhejecceaaGreatTryzShelf
set_option linter.all false
set_option maxRecDepth 100000
set_option maxHeartbeats 4000000
namespace Go.Sf.Sc
open Go Go.Sf Go.Proofs.Tryz
instance wE(c:List Bb)(f:Bb->K1)(a:FuncId)(b:Fq)[e:∀(d:Bb),CT (f d) a (Cj d::b) rB]:CT (C1 c f) 92 [lN c,.w8 a b] rI:=Bz f92 0xa580b5d5018fecd430816b6a80b5a101bd [] (C1.eq_1 ..) (A4 0 8 7 0)
instance wB(c:List Bb)(f:Bb->K1)(a:FuncId)(b:Fq)[e:∀(d:Bb),CT (f d) a (Cj d::b) rB]:CT (BM c f) 43 [lN c,.w8 a b] rB:=Fe f43 0xba0e30bd [] (BM.eq_1 ..)
instance(a b):CT (slices_Index_string a b) 357 [lB a,eS b] rI:=Bz f357 0xa580b5d501869130816b6a80b5a101bd [] (slices_Index_string.eq_1 ..) (A4 0 8 7 0)
instance(a b):CT (slices_Contains_string a b) 315 [lB a,eS b] rB:=Fe f315 0xba0e30bd [] (slices_Contains_string.eq_1 ..)
theorem um(s:ByteArray)(c:Int)(r:Int)(h:strings_IndexByte s c=some r):AR prog 338 [eS s,Pc c] (.sh (eI r)):=by
  unfold strings_IndexByte at h;cases h;exact oc (by rfl) ⟨Go.Lib.indexByte_ge _ _,ob _ _⟩ (fun w=>Go.Proofs.Tryz.strings_IndexByte s c w)
instance vt(s:ByteArray)(c:Int):Ct Go.Proofs.Tryz.prog (strings_IndexByte s c) 338 [eS s,Pc c] (rS eI):=⟨um s c⟩
instance vW(c:List kl)(f:kl->K1)(a:FuncId)(b:Fq)[e:∀(d:kl),CT (f d) a (Fu d::b) rB]:CT (Dk c f) 314 [lA c,.w8 a b] rI:=Bz f314 0xa580b5d5018fecd430816b6a80b5a101bd [] (Dk.eq_1 ..) (A4 0 8 7 0)
instance vT(c:List kl)(f:kl->K1)(a:FuncId)(b:Fq)[e:∀(d:kl),CT (f d) a (Fu d::b) rB]:CT (Cg c f) 259 [lA c,.w8 a b] rB:=Fe f259 0xba0e30bd [] (Cg.eq_1 ..)
instance vU(c:List CZ)(f:CZ->K1)(a:FuncId)(b:Fq)[e:∀(d:CZ),CT (f d) a (C4 d::b) rB]:CT (C0 c f) 262 [lX c,.w8 a b] rI:=Bz f262 0xa580b5d5018f0744078930816b6a80b5a101bd [] (C0.eq_1 ..) (A4 0 8 7 0)
instance vS(c:List CZ)(f:CZ->K1)(a:FuncId)(b:Fq)[e:∀(d:CZ),CT (f d) a (C4 d::b) rB]:CT (CI c f) 197 [lX c,.w8 a b] rB:=Fe f197 0xba0e30bd [] (CI.eq_1 ..)
instance(a):CT (slices_Clone_int a) 75 [lI a] (rO lI):=Fe f75 0x8201483047ff01c09c30400001 [] (slices_Clone_int.eq_1 ..)
instance vQ(c:Fp)(f:Int->K1)(a:FuncId)(b:Fq)[e:∀(d:Int),CT (f d) a (eI d::b) rB]:CT (D4 c f) 138 [lI c,.w8 a b] rI:=Bz f138 0xa580b5d5018f9130816b6a80b5a101bd [] (D4.eq_1 ..) (A4 0 8 7 0)
instance wC(c:Fp)(f:Int->K1)(a:FuncId)(b:Fq)[e:∀(d:Int),CT (f d) a (eI d::b) rB]:CT (A2 c f) 71 [lI c,.w8 a b] rB:=Fe f71 0xba0e30bd [] (A2.eq_1 ..)
instance(a b):CT (slices_Index_int a b) 263 [lI a,eI b] rI:=Bz f263 0xa580b5d501859130816b6a80b5a101bd [] (slices_Index_int.eq_1 ..) (A4 0 8 7 0)
instance(a b):CT (slices_Contains_int a b) 202 [lI a,eI b] rB:=Fe f202 0xba0e30bd [] (slices_Contains_int.eq_1 ..)
theorem ul(l r:Fp)(h:slices_Reverse_int l=some r):AR prog 264 [.list 1 (l.map (TV.int .i64))] (.turn r []):=by
  unfold slices_Reverse_int at h;split at h
  · rename_i d
    unfold Aj at d;cases h;refine fH (by rfl) List.length_reverse (fun x a=>List.mem_reverse.1 a) (fun w b=>?_) (fun g cap w _ _ j c=>(Go.Proofs.Tryz.slices_Reverse_int g 0 cap l w c (by omega)).mono ?_)
    · subst b
      exact Go.Proofs.Tryz.slices_Reverse_int_empty none 0 w
    · rintro e w' ⟨f,q,i⟩
      exact ⟨f,q,#[],by rw[Go.Sort.grow_empty];exact i⟩
  .cases h
instance vr(l:Fp):Ct Go.Proofs.Tryz.prog (slices_Reverse_int l) 264 [.list 1 (l.map (TV.int .i64))] (fun r=>.turn r []):=⟨ul l⟩
instance vR(c:List Bw)(f:Bw->K1)(a:FuncId)(b:Fq)[e:∀(d:Bw),CT (f d) a (Bp d::b) rB]:CT (Dl c f) 139 [lE c,.w8 a b] rI:=Bz f139 0xa580b5d5018ff830816b6a80b5a101bd [] (Dl.eq_1 ..) (A4 0 8 7 0)
instance wD(c:List Bw)(f:Bw->K1)(a:FuncId)(b:Fq)[e:∀(d:Bw),CT (f d) a (Bp d::b) rB]:CT (BL c f) 73 [lE c,.w8 a b] rB:=Fe f73 0xba0e30bd [] (BL.eq_1 ..)
instance(a b):CT (Ia a b) 276 [(eL 1 eB) a,eB b] rI:=Bz f276 0xa580b5d501879130816b6a80b5a101bd [] (Ia.eq_1 ..) (A4 0 8 7 0)
instance(a b):CT (DP a b) 208 [(eL 1 eB) a,eB b] rB:=Fe f208 0xba0e30bd [] (DP.eq_1 ..)
instance(a):CT (slices_Clone_string a) 200 [lB a] (rO lB):=Fe f200 0x8201483047ff01c09c30400001 [] (slices_Clone_string.eq_1 ..)
instance vZ(c:List Cx)(f:Cx->K1)(a:FuncId)(b:Fq)[e:∀(d:Cx),CT (f d) a (E8 d::b) rB]:CT (Dm c f) 340 [lS c,.w8 a b] rI:=Bz f340 0xa580b5d5018fecd430816b6a80b5a101bd [] (Dm.eq_1 ..) (A4 0 8 7 0)
instance vV(c:List Cx)(f:Cx->K1)(a:FuncId)(b:Fq)[e:∀(d:Cx),CT (f d) a (E8 d::b) rB]:CT (CR c f) 293 [lS c,.w8 a b] rB:=Fe f293 0xba0e30bd [] (CR.eq_1 ..)
theorem uf(l r:Fp)(h:slices_Sort_int l=some r):AR prog 127 [.list 1 (l.map (TV.int .i64))] (.turn r []):=by
  unfold slices_Sort_int at h;rw[<-iW]at h;split at h
  · rename_i e
    unfold Aj at e;cases h;refine fH (by rfl) (List.length_mergeSort _) (fun x a=>List.mem_mergeSort.1 a) (fun w b=>?_) (fun g cap w _ _ c d=>Go.Proofs.Tryz.slices_Sort_int g 0 cap l w d c (by omega));subst b;exact Go.Proofs.Tryz.slices_Sort_int_none none 0 w
  .cases h
instance vj(l:Fp):Ct Go.Proofs.Tryz.prog (slices_Sort_int l) 127 [.list 1 (l.map (TV.int .i64))] (fun r=>.turn r []):=⟨uf l⟩
theorem ug(l r:Fp)(h:slices_Compact_int l=some r):AR prog 128 [.list 1 (l.map (TV.int .i64))] (.cut r):=by
  unfold slices_Compact_int at h;split at h
  · rename_i e
    unfold Aj at e;cases h;have f:=Go.Lib.compact_length_le l;refine oS (rest:=List.replicate (l.length-(Go.Lib.compact l).length) 0) (by rfl) (by rw[List.length_replicate];omega) (fun x a=>aW a) (fun w b=>?_) (fun g cap w c _ i d=>Go.Proofs.Tryz.slices_Compact_int g 0 cap l w d (by omega) c);subst b;exact Go.Proofs.Tryz.slices_Compact_int_empty none 0 w
  .cases h
instance vk(l:Fp):Ct Go.Proofs.Tryz.prog (slices_Compact_int l) 128 [.list 1 (l.map (TV.int .i64))] Am.cut:=⟨ug l⟩
theorem ui(l:Fp)(x:Int)(r:Int×Bool)(h:slices_BinarySearch_int l x=some r):AR prog 176 [lI l,eI x] (.tp [eI (r.1),eB (r.2)]):=by
  unfold slices_BinarySearch_int at h;split at h
  · rename_i d
    cases h;have g:=d.1;unfold Aj at g;refine gD (by rfl) d.1 d.2 (fun a c w i=>?_) (fun b e c w f=>Go.Proofs.Tryz.slices_BinarySearch_int b e l.length c l x w (az _) (by omega) f (by rw[List.take_length];exact d.2));exact Go.Proofs.Tryz.slices_BinarySearch_int_empty a c x w
  .cases h
instance vn(l:Fp)(x:Int):Ct Go.Proofs.Tryz.prog (slices_BinarySearch_int l x) 176 [lI l,eI x] (fun r=>.tp [eI (r.1),eB (r.2)]):=⟨ui l x⟩
instance vb(c:List d5)(f:d5->K1)(a:FuncId)(b:Fq)[e:∀(d:d5),CT (f d) a (AP d::b) rB]:CT (Cr c f) 363 [DW c,.w8 a b] rI:=Bz f363 0xa580b5d5018fc8098930816b6a80b5a101bd [] (Cr.eq_1 ..) (A4 0 8 7 0)
instance va(c:List d5)(f:d5->K1)(a:FuncId)(b:Fq)[e:∀(d:d5),CT (f d) a (AP d::b) rB]:CT (Bu c f) 342 [DW c,.w8 a b] rB:=Fe f342 0xba0e30bd [] (Bu.eq_1 ..)
theorem uh(s:Fp)(n:Int)(r:Fp)(h:IC s n=some r):AR prog 166 [.nil,eI n] (.own (lI r)):=by
  unfold IC at h;split at h
  · rename_i c
    cases h;obtain⟨k,rfl⟩:=Int.eq_ofNat_of_zero_le c.2.1;have d:k<=Aj:=by have:=c.2.2;omega
    have g:=d;unfold Aj at g;obtain⟨b,i,j,p,l⟩:∃b,prog.info? 3=some b/\b.zero=some (.int .i64 0)/\b.size=1/\b.bytes=8:=⟨_,rfl,rfl,rfl,rfl⟩;refine mA (by rfl) d (e:=3) (z:=(Value.int .i64 0).cells) rfl (fun w m=>?_) (fun w o=>?_)
    .exact Go.Proofs.Any8.slices_Grow_room Go.Proofs.Tryz.growI none 0 0 k w (az _) (by omega) (by omega) (by omega)
    .exact Go.Proofs.Any8.slices_Grow_grow Go.Proofs.Tryz.growI b (.int .i64 0) i j (by omega) none 0 0 k [] w (az _) (by omega) (by rw[l];omega) (by omega) (by simp) (fun _=>rfl) (fun a f=>by cases f)
  .cases h
instance vl(s:Fp)(n:Int):Ct Go.Proofs.Tryz.prog (IC s n) 166 [.nil,eI n] (rO lI):=⟨uh s n⟩
theorem uv:CK f95 (Rq [⟨some 2,.yw 1,none⟩] [0]<|Rq [Af 3 0] [0,3]<|Sq (Rq [Aa 9 0,⟨some 10,.len (.s 9),none⟩,Af 11 0] [0,3,9,10,11]<|Bl 0<|Lo [0,3,9,10,11]<|Rq [⟨some 12,.bin (.i) .lss (.s 11) (.s 10),none⟩] [0,3,9,10,11,12]<|Sq (Co 12 (Sk [0,3,9,10,11])<|Ex 0 [0,3])<|Sq (Bl 1<|Rq [⟨some 13,.yb (.s 9) (.s 11) 1,none⟩,⟨some 14,.ld (.s 13),none⟩,Ab 5 14] [0,3,5,9,10,11]<|Rq [Aa 15 3,Aa 16 5,⟨some 17,.len (.s 16),none⟩,⟨some 18,.bin (.i) .add (.s 15) (.s 17),none⟩,Aa 3 18] [0,3,9,10,11]<|Rq [Aa 19 3,⟨some 20,.bin (.i) .lss (.s 19) (.c (.int .i64 0)),none⟩] [0,3,9,10,11,20]<|Co 20 (.bad)<|Sk [0,3,9,10,11])<|Re [⟨some 22,.bin (.i) .add (.s 11) (.c (.int .i64 1)),none⟩,Aa 11 22] [0,3,9,10,11])<|Rq [Aa 23 3,⟨some 24,.call 166 [.c .nil,.s 23],none⟩,Ab 6 24] [0,6]<|Sq (Rq [Aa 25 0,⟨some 26,.len (.s 25),none⟩,Af 27 0] [6,25,26,27]<|Bl 2<|Lo [6,25,26,27]<|Rq [⟨some 28,.bin (.i) .lss (.s 27) (.s 26),none⟩] [6,25,26,27,28]<|Sq (Co 28 (Sk [6,25,26,27])<|Ex 2 [6])<|Sq (Bl 3<|Rq [⟨some 29,.yb (.s 25) (.s 27) 1,none⟩,⟨some 30,.ld (.s 29),none⟩,Ab 8 30] [6,8,25,26,27]<|Re [Ab 31 6,Aa 32 8,⟨some 33,.app 1 (.s 31) (.s 32),none⟩,Ab 6 33] [6,25,26,27])<|Re [⟨some 34,.bin (.i) .add (.s 27) (.c (.int .i64 1)),none⟩,Aa 27 34] [6,25,26,27])<|Rq [Ab 35 6,Ab 2 35] [2]<|.ret) [.tmp 2]:=by decide +kernel
instance(a):CT (Ge a) 95 [(eL 1 lI) a] (rO lI):=Fi uv fun r h b c=>by
  unfold Ge at h;have:=BH 0 11 10 0 (hT 3 eI);have:=BH 2 27 26 0 (hO 6 lI);exact au
instance(a b):CT (slices_Equal_int a b) 18 [lI a,lI b] rB:=Bz f18 0xa50d0cb5d585eaea816b6a0d0cb5a1fbe5010b01bd [] (slices_Equal_int.eq_1 ..) (A4 0 13 12 0)
theorem uo(a b c:Int)(r:Int×Int)(h:H7 a b c=some r):AR prog 365 [Jz a,Jz b,Jz c] (.ext [Jz (r.1),Jz (r.2)]):=by
  unfold H7 at h;split at h
  · rename_i d
    cases h;obtain⟨⟨a0,a1⟩,⟨e,g⟩,f,i⟩:=d;intro _;refine⟨⟨rfl,?_⟩,fun w vs hv=>?_⟩
    · simp only[Jz,TV.tn,TV.WF,IntKind.min,IntKind.max,IntKind.signed,IntKind.bits,and_true]
      simp only[Bool.false_eq_true,if_false];refine⟨⟨by omega,?_⟩,by omega,?_⟩
      · have:(2:Int)^ 64=18446744073709551616:=by decide
        omega
      · have:(2:Int)^ 64=18446744073709551616:=by decide
        omega
    · obtain⟨x,rfl⟩:=Int.eq_ofNat_of_zero_le a0
      obtain ⟨y,rfl⟩:=Int.eq_ofNat_of_zero_le e;obtain⟨z,rfl⟩:=Int.eq_ofNat_of_zero_le f;have:=Go.Proofs.Any7.bits_Add64 Go.Proofs.Tryz.lays7n25 x y z (by omega) w;obtain⟨l⟩:=vs;simp only[Jz,AQ,Ah]at hv;obtain⟨j,k,rfl,rfl,m,n,rfl,rfl,o,p,rfl,rfl,rfl⟩:=hv;refine⟨_,this,?_⟩;simp only[Jz,AQ,Ah];exact⟨_,_,rfl,by simp,_,_,rfl,by simp,rfl⟩
  .cases h
instance vu(a b c:Int):Ct Go.Proofs.Tryz.prog (H7 a b c) 365 [Jz a,Jz b,Jz c] (fun r=>.ext [Jz (r.1),Jz (r.2)]):=⟨uo a b c⟩
instance(a):CT (Mf a) 349 [lI a] rI:=Bz f349 0xd8318006cdd50185308160316a8006cda19e6b01 [] (Mf.eq_1 ..) (A4 0 8 7 0)
instance(a):CT (cmp_isNaN_int a) 307 [eI a] rB:=Fe f307 0xba019201 [] (cmp_isNaN_int.eq_1 ..)
instance(a b):CT (cmp_Compare_int a b) 350 [eI a,eI b] rI:=Fe f350 0xb2853058853058b258819e0e610e01bd [] (cmp_Compare_int.eq_1 ..)
instance(a):CT (JA a) 366 [Jz a] rB:=Fe f366 0xba019201 [] (JA.eq_1 ..)
instance(a b):CT (Hy a b) 351 [Jz a,Jz b] rI:=Fe f351 0xb2853058853058b258819e0e610e01bd [] (Hy.eq_1 ..)
instance(a):CT (C6 a) 76 [lE a] (rO lE):=Fe f76 0x820348010347ff03c09c0103400001 [] (C6.eq_1 ..)
theorem uj(l:Fp)(m:Int)(r:Fp)(h:ED l m=some r):AR prog 177 [lI l,eI m] (.own (lI r)):=by
  unfold ED at h;split at h
  · rename_i a
    cases h;obtain⟨x,rfl⟩:=List.length_eq_one_iff.1 a.1;obtain⟨k,rfl⟩:=Int.eq_ofNat_of_zero_le a.2.1;exact Z4 x k (by have:=a.2.2;omega)
  .cases h
instance vo(l:Fp)(m:Int):Ct Go.Proofs.Tryz.prog (ED l m) 177 [lI l,eI m] (rO lI):=⟨uj l m⟩
instance(a):CT (Gd a) 9 [(eL 4 E7) a] (rO (eL 4 E7)):=Fe f9 0x820448f347ff04c09cf3400001 [] (Gd.eq_1 ..)
instance(a):CT (IZ a) 280 [(eL 1 eB) a] (rO (eL 1 eB)):=Fe f280 0x8201483047ff01c09c30400001 [] (IZ.eq_1 ..)
instance wA(c:List D8)(f:D8->K1)(a:FuncId)(b:Fq)[e:∀(d:D8),CT (f d) a (E7 d::b) rB]:CT (Ix c f) 41 [(eL 4 E7) c,.w8 a b] rI:=Bz f41 0xa580b5d5018fecd430816b6a80b5a101bd [] (Ix.eq_1 ..) (A4 0 8 7 0)
instance v8(c:List D8)(f:D8->K1)(a:FuncId)(b:Fq)[e:∀(d:D8),CT (f d) a (E7 d::b) rB]:CT (FJ c f) 21 [(eL 4 E7) c,.w8 a b] rB:=Fe f21 0xba0e30bd [] (FJ.eq_1 ..)
end Go.Sf.Sc
