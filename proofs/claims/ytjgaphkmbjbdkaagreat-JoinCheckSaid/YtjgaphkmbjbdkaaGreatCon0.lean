/- Contracts of the functions. -/
import Derived.Test.YtjgaphkmbjbdkaaGreatShort
import Derived.Test.YtjgaphkmbjbdkaaGreatTw
import Derived.Test.YtjgaphkmbjbdkaaGreatTryzShelf
set_option linter.all false
set_option maxRecDepth 100000
set_option maxHeartbeats 4000000
namespace Go.Sf.Sc
open Go Go.Sf Go.Proofs.Tryz
instance c16(b:Fp)(a:Fp):CT (slices_Equal_int b a) 16 [lI b,lI a] rB:=Fj f16 0xa2b7d791b5bbbb81f8b7d79701b5ee0be5 [] fun h=>by
  unfold slices_Equal_int at h;have:HA 0 13 12 0 fun(c:Int)(_:Unit)=>[(13,.tv (eI c))]:=⟨⟩;exact nz
instance c52(c:List Bk)(b:List Bk):CT (Fa c b) 52 [lE c,lE b] rB:=Fj f52 0xa2b7d79137bfcdc3cdc381f8b7d79701b5ee0be5 [.bin (.a [0,0,0]) .neq (.s 19) (.s 23)] fun h=>by
  unfold Fa at h;have:HA 0 13 12 0 fun(d:Int)(_:Unit)=>[(13,.tv (eI d))]:=⟨⟩;exact nz
instance c53(a:List Fp)(b:List Fp)(e:Fp->Fp->K1)(c:FuncId)(d:Fq)[j:∀(g:Fp)(f:Fp),CT (e g f) c (lI g::lI f::d) rB]:CT (C8 a b e) 53 [(eL 1 lI) a,(eL 1 lI) b,.clo c d] rB:=Fj f53 0xa211100f02559137880f7882bb82815ef811100f02559781b5ee0b30026003 [] fun h=>by
  unfold C8 at h;have:HA 0 17 16 0 fun(i:Int)(_:Unit)=>[(17,.tv (eI i))]:=⟨⟩;exact nz
instance ACR(a:List ByteArray)(b:ByteArray):CT (slices_Index_string a b) 379 [lB a,eS b] rI:=Fj f379 0xa27cd7913701865e7881f87cd797e5 [] fun h=>by
  unfold slices_Index_string at h;have:HA 0 8 7 0 fun(c:Int)(_:Unit)=>[(8,.tv (eI c))]:=⟨⟩;exact nz
instance AB6(a:List ByteArray)(b:ByteArray):CT (slices_Contains_string a b) 351 [lB a,eS b] rB:=Fj f351 0xd60e30f7 [] fun h=>by
  unfold slices_Contains_string at h;exact nz
theorem wZ(s:ByteArray)(c:Int)(r:Int)(h:strings_IndexByte s c=some r):AU prog 358 [eS s,Vj c] (.sh (eI r)):=by
  unfold strings_IndexByte at h;cases h;exact qc (by rfl) ⟨Go.Lib.indexByte_ge _ _,qa _ _⟩ (fun w=>Go.Proofs.Tryz.strings_IndexByte s c w)
instance ACo(s:ByteArray)(c:Int):Ct Go.Proofs.Tryz.prog (strings_IndexByte s c) 358 [eS s,Vj c] (fun r=>.sh (eI r)):=⟨wZ s c⟩
instance ABX(a:List CN)(f:CN->K1)(b:FuncId)(c:Fq)[g:∀(d:CN),CT (f d) b (Fc d::c) rB]:CT (DH a f) 313 [lN a,.clo b c] rI:=Fj f313 0xa27cd79137018fd404437881f87cd797e5 [] fun h=>by
  unfold DH at h;have:HA 0 8 7 0 fun(e:Int)(_:Unit)=>[(8,.tv (eI e))]:=⟨⟩;exact nz
instance AAY(a:List CN)(f:CN->K1)(b:FuncId)(c:Fq)[e:∀(d:CN),CT (f d) b (Fc d::c) rB]:CT (CW a f) 248 [lN a,.clo b c] rB:=Fj f248 0xd60e30f7 [] fun h=>by
  unfold CW at h;exact nz
instance AB5(a:List kg)(f:kg->K1)(b:FuncId)(c:Fq)[g:∀(d:kg),CT (f d) b (HL d::c) rB]:CT (D0 a f) 350 [lA a,.clo b c] rI:=Fj f350 0xa27cd79137018fd404437881f87cd797e5 [] fun h=>by
  unfold D0 at h;have:HA 0 8 7 0 fun(e:Int)(_:Unit)=>[(8,.tv (eI e))]:=⟨⟩;exact nz
instance ABY(a:List kg)(f:kg->K1)(b:FuncId)(c:Fq)[e:∀(d:kg),CT (f d) b (HL d::c) rB]:CT (Cv a f) 314 [lA a,.clo b c] rB:=Fj f314 0xd60e30f7 [] fun h=>by
  unfold Cv at h;exact nz
instance ABb(a:List Cb)(f:Cb->K1)(b:FuncId)(c:Fq)[g:∀(d:Cb),CT (f d) b (GR d::c) rB]:CT (DG a f) 317 [lX a,.clo b c] rI:=Fj f317 0xa27cd79137018f074407437881f87cd797e5 [] fun h=>by
  unfold DG at h;have:HA 0 8 7 0 fun(e:Int)(_:Unit)=>[(8,.tv (eI e))]:=⟨⟩;exact nz
instance AAd(a:List Cb)(f:Cb->K1)(b:FuncId)(c:Fq)[e:∀(d:Cb),CT (f d) b (GR d::c) rB]:CT (CU a f) 253 [lX a,.clo b c] rB:=Fj f253 0xd60e30f7 [] fun h=>by
  unfold CU at h;exact nz
instance xd(a:Fp)(f:Int->K1)(b:FuncId)(c:Fq)[g:∀(d:Int),CT (f d) b (eI d::c) rB]:CT (EL a f) 105 [lI a,.clo b c] rI:=Fj f105 0xa27cd79137018f5e7881f87cd797e5 [] fun h=>by
  unfold EL at h;have:HA 0 8 7 0 fun(e:Int)(_:Unit)=>[(8,.tv (eI e))]:=⟨⟩;exact nz
instance c58(a:Fp)(f:Int->K1)(b:FuncId)(c:Fq)[e:∀(d:Int),CT (f d) b (eI d::c) rB]:CT (A1 a f) 58 [lI a,.clo b c] rB:=Fj f58 0xd60e30f7 [] fun h=>by
  unfold A1 at h;exact nz
instance ABE(a:List Bk)(f:Bk->K1)(b:FuncId)(c:Fq)[g:∀(d:Bk),CT (f d) b (BP d::c) rB]:CT (D1 a f) 292 [lE a,.clo b c] rI:=Fj f292 0xa27cd79137018fcd437881f87cd797e5 [] fun h=>by
  unfold D1 at h;have:HA 0 8 7 0 fun(e:Int)(_:Unit)=>[(8,.tv (eI e))]:=⟨⟩;exact nz
instance AAD(a:List Bk)(f:Bk->K1)(b:FuncId)(c:Fq)[e:∀(d:Bk),CT (f d) b (BP d::c) rB]:CT (Be a f) 226 [lE a,.clo b c] rB:=Fj f226 0xd60e30f7 [] fun h=>by
  unfold Be at h;exact nz
instance ABo(a:List ByteArray):CT (slices_Clone_string a) 330 [lB a] (fun r=>.own (lB r)):=Fj f330 0x8201483047ffe29c3040d8 [] fun h=>by
  unfold slices_Clone_string at h;exact nz
instance ABe(a:a5)(b:Bool):CT (JM a b) 320 [(eL 1 eB) a,eB b] rI:=Fj f320 0xa27cd7913701875e7881f87cd797e5 [] fun h=>by
  unfold JM at h;have:HA 0 8 7 0 fun(c:Int)(_:Unit)=>[(8,.tv (eI c))]:=⟨⟩;exact nz
instance AAm(a:a5)(b:Bool):CT (FX a b) 262 [(eL 1 eB) a,eB b] rB:=Fj f262 0xd60e30f7 [] fun h=>by
  unfold FX at h;exact nz
instance ACE(a:List CP)(f:CP->K1)(b:FuncId)(c:Fq)[g:∀(d:CP),CT (f d) b (Da d::c) rB]:CT (D2 a f) 360 [lS a,.clo b c] rI:=Fj f360 0xa27cd79137018fd404437881f87cd797e5 [] fun h=>by
  unfold D2 at h;have:HA 0 8 7 0 fun(e:Int)(_:Unit)=>[(8,.tv (eI e))]:=⟨⟩;exact nz
instance ABh(a:List CP)(f:CP->K1)(b:FuncId)(c:Fq)[e:∀(d:CP),CT (f d) b (Da d::c) rB]:CT (Ce a f) 323 [lS a,.clo b c] rB:=Fj f323 0xd60e30f7 [] fun h=>by
  unfold Ce at h;exact nz
instance xb(a:Fp):CT (slices_Clone_int a) 103 [lI a] (fun r=>.own (lI r)):=Fj f103 0x8201483047ffe29c3040d8 [] fun h=>by
  unfold slices_Clone_int at h;exact nz
theorem wX(l:Fp)(x:Int)(r:Int×Bool)(h:slices_BinarySearch_int l x=some r):AU prog 285 [lI l,eI x] (.tp [eI (r.1),eB (r.2)]):=by
  unfold slices_BinarySearch_int at h;split at h
  · rename_i d
    cases h;have g:=d.1;unfold AZ at g;refine jU (by rfl) d.1 d.2 (fun a c w i=>?_) (fun b e c w f=>Go.Proofs.Tryz.slices_BinarySearch_int b e l.length c l x w (az _) (by omega) f (by rw[List.take_length];exact d.2));exact Go.Proofs.Tryz.slices_BinarySearch_int_empty a c x w
  .cases h
instance ACl(l:Fp)(x:Int):Ct Go.Proofs.Tryz.prog (slices_BinarySearch_int l x) 285 [lI l,eI x] (fun r=>.tp [eI (r.1),eB (r.2)]):=⟨wX l x⟩
theorem wc(l r:Fp)(h:slices_Sort_int l=some r):AU prog 362 [.list 1 (l.map (TV.int .i64))] (.turn r []):=by
  unfold slices_Sort_int at h;rw[<-kj]at h;split at h
  · rename_i e
    unfold AZ at e;cases h;refine iD (by rfl) (List.length_mergeSort _) (fun x a=>List.mem_mergeSort.1 a) (fun w b=>?_) (fun g cap w _ _ c d=>Go.Proofs.Tryz.slices_Sort_int g 0 cap l w d c (by omega));subst b;exact Go.Proofs.Tryz.slices_Sort_int_none none 0 w
  .cases h
instance ACp(l:Fp):Ct Go.Proofs.Tryz.prog (slices_Sort_int l) 362 [.list 1 (l.map (TV.int .i64))] (fun r=>.turn r []):=⟨wc l⟩
theorem wd(l r:Fp)(h:slices_Compact_int l=some r):AU prog 363 [.list 1 (l.map (TV.int .i64))] (.cut r):=by
  unfold slices_Compact_int at h;split at h
  · rename_i e
    unfold AZ at e;cases h;have f:=Go.Lib.compact_length_le l;refine qS (rest:=List.replicate (l.length-(Go.Lib.compact l).length) 0) (by rfl) (by rw[List.length_replicate];omega) (fun x a=>bu a) (fun w b=>?_) (fun g cap w c _ i d=>Go.Proofs.Tryz.slices_Compact_int g 0 cap l w d (by omega) c);subst b;exact Go.Proofs.Tryz.slices_Compact_int_empty none 0 w
  .cases h
instance ACq(l:Fp):Ct Go.Proofs.Tryz.prog (slices_Compact_int l) 363 [.list 1 (l.map (TV.int .i64))] Ax.cut:=⟨wd l⟩
instance c64(a:Fp)(b:Int):CT (slices_Index_int a b) 64 [lI a,eI b] rI:=Fj f64 0xa27cd7913701855e7881f87cd797e5 [] fun h=>by
  unfold slices_Index_int at h;have:HA 0 8 7 0 fun(c:Int)(_:Unit)=>[(8,.tv (eI c))]:=⟨⟩;exact nz
instance c30(a:Fp)(b:Int):CT (slices_Contains_int a b) 30 [lI a,eI b] rB:=Fj f30 0xd60e30f7 [] fun h=>by
  unfold slices_Contains_int at h;exact nz
theorem we(l r:Fp)(h:slices_Reverse_int l=some r):AU prog 368 [.list 1 (l.map (TV.int .i64))] (.turn r []):=by
  unfold slices_Reverse_int at h;split at h
  · rename_i d
    unfold AZ at d;cases h;refine iD (by rfl) List.length_reverse (fun x a=>List.mem_reverse.1 a) (fun w b=>?_) (fun g cap w _ _ j c=>(Go.Proofs.Tryz.slices_Reverse_int g 0 cap l w c (by omega)).mono ?_)
    · subst b
      exact Go.Proofs.Tryz.slices_Reverse_int_empty none 0 w
    · rintro e w' ⟨f,q,i⟩
      exact ⟨f,q,#[],by rw[Go.Sort.grow_empty];exact i⟩
  .cases h
instance ACr(l:Fp):Ct Go.Proofs.Tryz.prog (slices_Reverse_int l) 368 [.list 1 (l.map (TV.int .i64))] (fun r=>.turn r []):=⟨we l⟩
instance ACV(a:List d7)(f:d7->K1)(b:FuncId)(c:Fq)[g:∀(d:d7),CT (f d) b (AH d::c) rB]:CT (C3 a f) 386 [DB a,.clo b c] rI:=Fj f386 0xa27cd79137018ffa437881f87cd797e5 [] fun h=>by
  unfold C3 at h;have:HA 0 8 7 0 fun(e:Int)(_:Unit)=>[(8,.tv (eI e))]:=⟨⟩;exact nz
instance ACH(a:List d7)(f:d7->K1)(b:FuncId)(c:Fq)[e:∀(d:d7),CT (f d) b (AH d::c) rB]:CT (B2 a f) 365 [DB a,.clo b c] rB:=Fj f365 0xd60e30f7 [] fun h=>by
  unfold B2 at h;exact nz
theorem wg(a b c:Int)(r:Int×Int)(h:Ig a b c=some r):AU prog 377 [K0 a,K0 b,K0 c] (.ext [K0 (r.1),K0 (r.2)]):=by
  unfold Ig at h;split at h
  · rename_i d
    cases h;obtain⟨⟨a0,a1⟩,⟨e,g⟩,f,i⟩:=d;intro _;refine⟨⟨rfl,?_⟩,fun w vs hv=>?_⟩
    · simp only[K0,TV.sc,TV.WF,IntKind.min,IntKind.max,IntKind.signed,IntKind.bits,and_true]
      simp only[Bool.false_eq_true,if_false];refine⟨⟨by omega,?_⟩,by omega,?_⟩
      · have:(2:Int)^ 64=18446744073709551616:=by decide
        omega
      · have:(2:Int)^ 64=18446744073709551616:=by decide
        omega
    · obtain⟨x,rfl⟩:=Int.eq_ofNat_of_zero_le a0
      obtain ⟨y,rfl⟩:=Int.eq_ofNat_of_zero_le e;obtain⟨z,rfl⟩:=Int.eq_ofNat_of_zero_le f;have:=Go.Proofs.Any7.bits_Add64 Go.Proofs.Tryz.lays7n25 x y z (by omega) w;obtain⟨l⟩:=vs;simp only[K0,AQ,An]at hv;obtain⟨j,k,rfl,rfl,m,n,rfl,rfl,o,p,rfl,rfl,rfl⟩:=hv;refine⟨_,this,?_⟩;simp only[K0,AQ,An];exact⟨_,_,rfl,by simp,_,_,rfl,by simp,rfl⟩
  .cases h
instance ACs(a b c:Int):Ct Go.Proofs.Tryz.prog (Ig a b c) 377 [K0 a,K0 b,K0 c] (fun r=>.ext [K0 (r.1),K0 (r.2)]):=⟨wg a b c⟩
instance AB2(a:Fp):CT (Nn a) 347 [lI a] rI:=Fj f347 0x810131d103049137018530815e3161d10304979d6001 [] fun h=>by
  unfold Nn at h;have:HA 0 8 7 0 fun(b:Int)(_:Unit)=>[(8,.tv (eI b))]:=⟨⟩;exact nz
instance ACO(a:Int):CT (cmp_isNaN_int a) 375 [eI a] rB:=Fj f375 0xd678d8 [] fun h=>by
  unfold cmp_isNaN_int at h;exact nz
instance AB3(a:Int)(y:Int):CT (cmp_Compare_int a y) 348 [eI a,eI y] rI:=Fj f348 0x81b530b530b937b99d0e5d0ee5 [] fun h=>by
  unfold cmp_Compare_int at h;exact nz
instance ACQ(a:Int):CT (J1 a) 378 [K0 a] rB:=Fj f378 0xd678d8 [] fun h=>by
  unfold J1 at h;exact nz
instance AB4(a:Int)(y:Int):CT (IV a y) 349 [K0 a,K0 y] rI:=Fj f349 0x81b530b530b937b99d0e5d0ee5 [] fun h=>by
  unfold IV at h;exact nz
instance xc(a:List Bk):CT (Cz a) 104 [lE a] (fun r=>.own (lE r)):=Fj f104 0x820348010347ff03c09c010340d8 [] fun h=>by
  unfold Cz at h;exact nz
theorem wU(l:Fp)(m:Int)(r:Fp)(h:DL l m=some r):AU prog 164 [lI l,eI m] (.own (lI r)):=by
  unfold DL at h;split at h
  · rename_i a
    cases h;obtain⟨x,rfl⟩:=List.length_eq_one_iff.1 a.1;obtain⟨k,rfl⟩:=Int.eq_ofNat_of_zero_le a.2.1;exact bG x k (by have:=a.2.2;omega)
  .cases h
instance ACj(l:Fp)(m:Int):Ct Go.Proofs.Tryz.prog (DL l m) 164 [lI l,eI m] (fun r=>.own (lI r)):=⟨wU l m⟩
instance ABB(c:List CP)(b:List CP):CT (HD c b) 289 [lS c,lS b] rB:=Fj f289 0xa2b7d79137bfd404c3d404c381f8b7d79701b5ee0be5 [.bin (.a [0,0,0,0]) .neq (.s 19) (.s 23)] fun h=>by
  unfold HD at h;have:HA 0 13 12 0 fun(d:Int)(_:Unit)=>[(13,.tv (eI d))]:=⟨⟩;exact nz
instance ABC(c:List Test)(b:List Test):CT (HE c b) 290 [lT c,lT b] rB:=Fj f290 0xa2b7d79137bf8905c38905c381f8b7d79701b5ee0be5 [.bin (.a [0,0,0,0,0]) .neq (.s 19) (.s 23)] fun h=>by
  unfold HE at h;have:HA 0 13 12 0 fun(d:Int)(_:Unit)=>[(13,.tv (eI d))]:=⟨⟩;exact nz
instance ABD(a:List d7)(b:List d7)(e:d7->d7->K1)(c:FuncId)(d:Fq)[j:∀(g:d7)(f:d7),CT (e g f) c (AH g::AH f::d) rB]:CT (CL a b e) 291 [DB a,DB b,.clo c d] rB:=Fj f291 0xa211100f02559137880fa1a101094b0ac9fac3094b90c9fa43f811100f02559781b5ee0b30026003 [] fun h=>by
  unfold CL at h;have:HA 0 17 16 0 fun(i:Int)(_:Unit)=>[(17,.tv (eI i))]:=⟨⟩;exact nz
theorem xU(s:Fp)(n:Int)(r:Fp)(h:Ip s n=some r):AU prog 65 [.nil,eI n] (.own (lI r)):=by
  unfold Ip at h;split at h
  · rename_i c
    cases h;obtain⟨k,rfl⟩:=Int.eq_ofNat_of_zero_le c.2.1;have d:k<=AZ:=by have:=c.2.2;omega
    have g:=d;unfold AZ at g;obtain⟨b,i,j,p,l⟩:∃b,prog.info? 3=some b/\b.zero=some (.int .i64 0)/\b.size=1/\b.bytes=8:=⟨_,rfl,rfl,rfl,rfl⟩;refine oD (by rfl) d (e:=3) (z:=(Value.int .i64 0).cells) rfl (fun w m=>?_) (fun w o=>?_)
    .exact Go.Proofs.Any8.slices_Grow_room Go.Proofs.Tryz.growI none 0 0 k w (az _) (by omega) (by omega) (by omega)
    .exact Go.Proofs.Any8.slices_Grow_grow Go.Proofs.Tryz.growI b (.int .i64 0) i j (by omega) none 0 0 k [] w (az _) (by omega) (by rw[l];omega) (by omega) (by simp) (fun _=>rfl) (fun a f=>by cases f)
  .cases h
instance i65(s:Fp)(n:Int):Ct Go.Proofs.Tryz.prog (Ip s n) 65 [.nil,eI n] (fun r=>.own (lI r)):=⟨xU s n⟩
theorem ws:CK f31 (Rq [⟨some 2,.Abd 1,none⟩] [0]<|Rq [Ad 3 0] [0,3]<|Sq (Rq [Aa 9 0,Ae 10 9,Ad 11 0] [0,3,9,10,11]<|Bl 0<|Lo [0,3,9,10,11]<|Rq [Ai 12 11 10] [0,3,9,10,11,12]<|Sq (Co 12 (Sk [0,3,9,10,11])<|Ex 0 [0,3])<|Sq (Bl 1<|Rq [Aj 13 9 11 1,Ac 14 13,Ab 5 14] [0,3,5,9,10,11]<|Rq [Aa 15 3,Aa 16 5,Ae 17 16,⟨some 18,.bin (.i) .add (.s 15) (.s 17),none⟩,Aa 3 18] [0,3,9,10,11]<|Rq [Aa 19 3,⟨some 20,.bin (.i) .lss (.s 19) (.c (.int .i64 0)),none⟩] [0,3,9,10,11,20]<|Co 20 (.bad)<|Sk [0,3,9,10,11])<|Re [Ak 22 11 1,Aa 11 22] [0,3,9,10,11])<|Rq [Aa 23 3,⟨some 24,.call 65 [.c .nil,.s 23],none⟩,Ab 6 24] [0,6]<|Sq (Rq [Aa 25 0,Ae 26 25,Ad 27 0] [6,25,26,27]<|Bl 2<|Lo [6,25,26,27]<|Rq [Ai 28 27 26] [6,25,26,27,28]<|Sq (Co 28 (Sk [6,25,26,27])<|Ex 2 [6])<|Sq (Bl 3<|Rq [Aj 29 25 27 1,Ac 30 29,Ab 8 30] [6,8,25,26,27]<|Re [Ab 31 6,Aa 32 8,⟨some 33,.app 1 (.s 31) (.s 32),none⟩,Ab 6 33] [6,25,26,27])<|Re [Ak 34 27 1,Aa 27 34] [6,25,26,27])<|Rq [Ab 35 6,Ab 2 35] [2]<|.ret) [.tmp 2]:=by decide +kernel
instance c31(a:List Fp):CT (EU a) 31 [(eL 1 lI) a] (fun r=>.own (lI r)):=Fi ws fun r h f g=>by
  unfold EU at h;have:HA 0 11 10 0 fun(b:Int)(c:Int)=>[(3,.tv (eI c)),(11,.tv (eI b))]:=⟨⟩;have:HA 2 27 26 0 fun(e:Int)(d:Fp)=>[(6,.ow (lI d)),(27,.tv (eI e))]:=⟨⟩;exact au
theorem wt:CK f57 (Rq [Ad 2 0] [0]<|Sq (Rq [Aa 5 0,Ae 6 5,⟨some 7,.bin (.i) .lss (.s 6) (.c (.int .i64 1)),none⟩] [0,7]<|Co 7 (.bad)<|Sk [0])<|Rq [Aa 9 0,⟨some 10,.iad (.s 9) (.c (.int .i64 0)) 1,none⟩,Ac 11 10,Aa 3 11] [0,3]<|Sq (Rq [Ad 4 1] [0,3,4]<|Bl 0<|Lo [0,3,4]<|Sq (Rq [Aa 12 4,Aa 13 0,Ae 14 13,Ai 15 12 14] [0,3,4,15]<|Co 15 (Sk [0,3,4])<|Ex 0 [3])<|Sq (Bl 1<|Re [Aa 18 3,Aa 19 0,Aa 20 4,Aj 21 19 20 1,Ac 22 21,⟨some 23,.mm false (.s 18) (.s 22),none⟩,Aa 3 23] [0,3,4])<|Re [Aa 16 4,Ak 17 16 1,Aa 4 17] [0,3,4])<|Rq [Aa 24 3,Aa 2 24] [2]<|.ret) [.tmp 2]:=by decide +kernel
instance c57(a:Fp):CT (slices_Min_int a) 57 [lI a] rI:=Fi wt fun r h d e=>by
  unfold slices_Min_int at h;have:HA 0 4 0 0 fun(c:Int)(b:Int)=>[(3,.tv (eI b)),(4,.tv (eI c))]:=⟨⟩;exact au
instance zY(a:List HF):CT (MY a) 196 [(eL 4 GE) a] (fun r=>.own ((eL 4 GE) r)):=Fj f196 0x820448f647ff04c09cf640d8 [] fun h=>by
  unfold MY at h;exact nz
instance zZ(a:List Aq)(f:Aq->K1)(b:FuncId)(c:Fq)[g:∀(d:Aq),CT (f d) b (CJ d::c) rB]:CT (DQ a f) 197 [(eL 9 CJ) a,.clo b c] rI:=Fj f197 0xa27cd79137018ffa437881f87cd797e5 [] fun h=>by
  unfold DQ at h;have:HA 0 8 7 0 fun(e:Int)(_:Unit)=>[(8,.tv (eI e))]:=⟨⟩;exact nz
instance yW(a:List Aq)(f:Aq->K1)(b:FuncId)(c:Fq)[e:∀(d:Aq),CT (f d) b (CJ d::c) rB]:CT (Cx a f) 142 [(eL 9 CJ) a,.clo b c] rB:=Fj f142 0xd60e30f7 [] fun h=>by
  unfold Cx at h;exact nz
end Go.Sf.Sc
