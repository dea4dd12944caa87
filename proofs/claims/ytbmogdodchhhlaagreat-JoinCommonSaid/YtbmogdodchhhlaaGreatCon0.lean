/- Contracts of the functions. -/
import Derived.Test.YtbmogdodchhhlaaGreatShort
import Derived.Test.YtbmogdodchhhlaaGreatTw
import Derived.Test.YtbmogdodchhhlaaGreatTryzShelf
set_option linter.all false
set_option maxRecDepth 100000
set_option maxHeartbeats 4000000
namespace Go.Sf.Sc
open Go Go.Sf Go.Proofs.Tryz
instance pv(b:Fp)(a:Fp):Ct prog (slices_Equal_int b a) 15 [lI b,lI a] (fun r=>.sh (eB r)):=Fj f15 0x9eb3a7c585b9b981efb3a77fd9c1f3df [] [.tmp 4] (h:=fun r h d e=>by
  unfold slices_Equal_int at h;have:HA 0 13 12 0 fun(c:Int)(_:Unit)=>[(13,.tv (eI c))]:=⟨⟩;exact nz)
instance qF(c:List Bh)(b:List Bh):Ct prog (Dq c b) 30 [lE c,lE b] (fun r=>.sh (eB r)):=Fj f30 0x9eb3a7c5bfbdcbbdcb81efb3a77fd9c1f3df [.bin (.a [0,0,0]) .neq (.s 19) (.s 23)] [.tmp 4] (h:=fun r h e f=>by
  unfold Dq at h;have:HA 0 13 12 0 fun(d:Int)(_:Unit)=>[(13,.tv (eI d))]:=⟨⟩;exact nz)
instance qG(c:List Fp)(b:List Fp)(g:Fp->Fp->K1)(a:FuncId)(d:Fq)[j:∀(f:Fp)(e:Fp),Ct prog (g f e) a (lI f::lI e::d) (fun r=>.sh (eB r))]:Ct prog (CD c b g) 31 [(eL 1 lI) c,(eL 1 lI) b,.sR a d] (fun r=>.sh (eB r)):=Fj f31 0x9e11100f0255c5880f7782b982815cef11100f02557facc1f33002bb [] [.tmp 6] (h:=fun r h k l=>by
  unfold CD at h;have:HA 0 17 16 0 fun(i:Int)(_:Unit)=>[(17,.tv (eI i))]:=⟨⟩;exact nz)
instance pE(b:List ByteArray)(a:ByteArray):Ct prog (slices_Index_string b a) 345 [lB b,eS a] (fun r=>.sh (eI r)):=Fj f345 0x9e75a7c501865c7781ef75a77fdf [] [.tmp 4] (h:=fun r h d e=>by
  unfold slices_Index_string at h;have:HA 0 8 7 0 fun(c:Int)(_:Unit)=>[(8,.tv (eI c))]:=⟨⟩;exact nz)
instance oj(b:List ByteArray)(a:ByteArray):Ct prog (slices_Contains_string b a) 321 [lB b,eS a] (fun r=>.sh (eB r)):=Fj f321 0xd60e30f6 [] [.tmp 4] (h:=fun r h c d=>by
  unfold slices_Contains_string at h;exact nz)
theorem jD(s:ByteArray)(c:Int)(r:Int)(h:strings_IndexByte s c=some r):AJ prog 328 [eS s,Pp c] (.sh (eI r)):=by
  unfold strings_IndexByte at h;cases h;exact b7 (by rfl) ⟨Go.Lib.indexByte_ge _ _,b6 _ _⟩ (fun w=>Go.Proofs.Tryz.strings_IndexByte s c w)
instance pX(s:ByteArray)(c:Int):Ct Go.Proofs.Tryz.prog (strings_IndexByte s c) 328 [eS s,Pp c] (fun r=>.sh (eI r)):=⟨jD s c⟩
instance oD(c:List Bn)(f:Bn->K1)(b:FuncId)(a:Fq)[g:∀(d:Bn),Ct prog (f d) b (FT d::a) (fun r=>.sh (eB r))]:Ct prog (CJ c f) 289 [lN c,.sR b a] (fun r=>.sh (eI r)):=Fj f289 0x9e75a7c5018ffa437781ef75a77fdf [] [.tmp 4] (h:=fun r h i j=>by
  unfold CJ at h;have:HA 0 8 7 0 fun(e:Int)(_:Unit)=>[(8,.tv (eI e))]:=⟨⟩;exact nz)
instance mr(c:List Bn)(f:Bn->K1)(b:FuncId)(a:Fq)[e:∀(d:Bn),Ct prog (f d) b (FT d::a) (fun r=>.sh (eB r))]:Ct prog (B0 c f) 227 [lN c,.sR b a] (fun r=>.sh (eB r)):=Fj f227 0xd60e30f6 [] [.tmp 4] (h:=fun r h g i=>by
  unfold B0 at h;exact nz)
instance oi(c:List ri)(f:ri->K1)(b:FuncId)(a:Fq)[g:∀(d:ri),Ct prog (f d) b (Fw d::a) (fun r=>.sh (eB r))]:Ct prog (Cm c f) 320 [lA c,.sR b a] (fun r=>.sh (eI r)):=Fj f320 0x9e75a7c5018ffa437781ef75a77fdf [] [.tmp 4] (h:=fun r h i j=>by
  unfold Cm at h;have:HA 0 8 7 0 fun(e:Int)(_:Unit)=>[(8,.tv (eI e))]:=⟨⟩;exact nz)
instance oE(c:List ri)(f:ri->K1)(b:FuncId)(a:Fq)[e:∀(d:ri),Ct prog (f d) b (Fw d::a) (fun r=>.sh (eB r))]:Ct prog (CQ c f) 290 [lA c,.sR b a] (fun r=>.sh (eB r)):=Fj f290 0xd60e30f6 [] [.tmp 4] (h:=fun r h g i=>by
  unfold CQ at h;exact nz)
instance oH(c:List Bv)(f:Bv->K1)(b:FuncId)(a:Fq)[g:∀(d:Bv),Ct prog (f d) b (FR d::a) (fun r=>.sh (eB r))]:Ct prog (CI c f) 293 [lX c,.sR b a] (fun r=>.sh (eI r)):=Fj f293 0x9e75a7c5018f074407437781ef75a77fdf [] [.tmp 4] (h:=fun r h i j=>by
  unfold CI at h;have:HA 0 8 7 0 fun(e:Int)(_:Unit)=>[(8,.tv (eI e))]:=⟨⟩;exact nz)
instance mz(c:List Bv)(f:Bv->K1)(b:FuncId)(a:Fq)[e:∀(d:Bv),Ct prog (f d) b (FR d::a) (fun r=>.sh (eB r))]:Ct prog (Bz c f) 232 [lX c,.sR b a] (fun r=>.sh (eB r)):=Fj f232 0xd60e30f6 [] [.tmp 4] (h:=fun r h g i=>by
  unfold Bz at h;exact nz)
instance rT(c:Fp)(f:Int->K1)(b:FuncId)(a:Fq)[g:∀(d:Int),Ct prog (f d) b (eI d::a) (fun r=>.sh (eB r))]:Ct prog (C2 c f) 91 [lI c,.sR b a] (fun r=>.sh (eI r)):=Fj f91 0x9e75a7c5018f5c7781ef75a77fdf [] [.tmp 4] (h:=fun r h i j=>by
  unfold C2 at h;have:HA 0 8 7 0 fun(e:Int)(_:Unit)=>[(8,.tv (eI e))]:=⟨⟩;exact nz)
instance qc(c:Fp)(f:Int->K1)(b:FuncId)(a:Fq)[e:∀(d:Int),Ct prog (f d) b (eI d::a) (fun r=>.sh (eB r))]:Ct prog (A0 c f) 52 [lI c,.sR b a] (fun r=>.sh (eB r)):=Fj f52 0xd60e30f6 [] [.tmp 4] (h:=fun r h g i=>by
  unfold A0 at h;exact nz)
instance nW(c:List Bh)(f:Bh->K1)(b:FuncId)(a:Fq)[g:∀(d:Bh),Ct prog (f d) b (BN d::a) (fun r=>.sh (eB r))]:Ct prog (Cn c f) 258 [lE c,.sR b a] (fun r=>.sh (eI r)):=Fj f258 0x9e75a7c5018fbd437781ef75a77fdf [] [.tmp 4] (h:=fun r h i j=>by
  unfold Cn at h;have:HA 0 8 7 0 fun(e:Int)(_:Unit)=>[(8,.tv (eI e))]:=⟨⟩;exact nz)
instance mF(c:List Bh)(f:Bh->K1)(b:FuncId)(a:Fq)[e:∀(d:Bh),Ct prog (f d) b (BN d::a) (fun r=>.sh (eB r))]:Ct prog (Ba c f) 189 [lE c,.sR b a] (fun r=>.sh (eB r)):=Fj f189 0xd60e30f6 [] [.tmp 4] (h:=fun r h g i=>by
  unfold Ba at h;exact nz)
instance oC(a:List ByteArray):Ct prog (slices_Clone_string a) 288 [lB a] (fun r=>.own (lB r)):=Fj f288 0x8201483047ff01c09c3040e2 [] [.tmp 2] (h:=fun r h b c=>by
  unfold slices_Clone_string at h;exact nz)
instance oK(b:a5)(a:Bool):Ct prog (Ig b a) 296 [(eL 1 eB) b,eB a] (fun r=>.sh (eI r)):=Fj f296 0x9e75a7c501875c7781ef75a77fdf [] [.tmp 4] (h:=fun r h d e=>by
  unfold Ig at h;have:HA 0 8 7 0 fun(c:Int)(_:Unit)=>[(8,.tv (eI c))]:=⟨⟩;exact nz)
instance nF(b:a5)(a:Bool):Ct prog (Gm b a) 241 [(eL 1 eB) b,eB a] (fun r=>.sh (eB r)):=Fj f241 0xd60e30f6 [] [.tmp 4] (h:=fun r h c d=>by
  unfold Gm at h;exact nz)
instance oy(c:List Bw)(f:Bw->K1)(b:FuncId)(a:Fq)[g:∀(d:Bw),Ct prog (f d) b (DI d::a) (fun r=>.sh (eB r))]:Ct prog (Cp c f) 330 [lS c,.sR b a] (fun r=>.sh (eI r)):=Fj f330 0x9e75a7c5018ffa437781ef75a77fdf [] [.tmp 4] (h:=fun r h i j=>by
  unfold Cp at h;have:HA 0 8 7 0 fun(e:Int)(_:Unit)=>[(8,.tv (eI e))]:=⟨⟩;exact nz)
instance oN(c:List Bw)(f:Bw->K1)(b:FuncId)(a:Fq)[e:∀(d:Bw),Ct prog (f d) b (DI d::a) (fun r=>.sh (eB r))]:Ct prog (B2 c f) 299 [lS c,.sR b a] (fun r=>.sh (eB r)):=Fj f299 0xd60e30f6 [] [.tmp 4] (h:=fun r h g i=>by
  unfold B2 at h;exact nz)
instance rR(a:Fp):Ct prog (slices_Clone_int a) 89 [lI a] (fun r=>.own (lI r)):=Fj f89 0x8201483047ff01c09c3040e2 [] [.tmp 2] (h:=fun r h b c=>by
  unfold slices_Clone_int at h;exact nz)
theorem i7(l:Fp)(x:Int)(r:Int×Bool)(h:slices_BinarySearch_int l x=some r):AJ prog 221 [lI l,eI x] (.tp [eI (r.1),eB (r.2)]):=by
  unfold slices_BinarySearch_int at h;split at h
  · rename_i d
    cases h;have g:=d.1;unfold CX at g;refine WS (by rfl) d.1 d.2 (fun a c w i=>?_) (fun b e c w f=>Go.Proofs.Tryz.slices_BinarySearch_int b e l.length c l x w (bk _) (by omega) f (by rw[List.take_length];exact d.2));exact Go.Proofs.Tryz.slices_BinarySearch_int_empty a c x w
  .cases h
instance pS(l:Fp)(x:Int):Ct Go.Proofs.Tryz.prog (slices_BinarySearch_int l x) 221 [lI l,eI x] (fun r=>.tp [eI (r.1),eB (r.2)]):=⟨i7 l x⟩
theorem jC(l r:Fp)(h:slices_Compact_int l=some r):AJ prog 314 [.list 1 (l.map (TV.int .i64))] (.cut r):=by
  unfold slices_Compact_int at h;split at h
  · rename_i e
    unfold CX at e;cases h;have f:=Go.Lib.compact_length_le l;refine bl (rest:=List.replicate (l.length-(Go.Lib.compact l).length) 0) (by rfl) (by rw[List.length_replicate];omega) (fun x a=>TQ a) (fun w b=>?_) (fun g cap w c _ i d=>Go.Proofs.Tryz.slices_Compact_int g 0 cap l w d (by omega) c);subst b;exact Go.Proofs.Tryz.slices_Compact_int_empty none 0 w
  .cases h
instance pW(l:Fp):Ct Go.Proofs.Tryz.prog (slices_Compact_int l) 314 [.list 1 (l.map (TV.int .i64))] Ap.cut:=⟨jC l⟩
theorem jE(l r:Fp)(h:slices_Sort_int l=some r):AJ prog 331 [.list 1 (l.map (TV.int .i64))] (.turn r):=by
  unfold slices_Sort_int at h;rw[<-Xa]at h;split at h
  · rename_i e
    unfold CX at e;cases h;refine V2 (by rfl) (List.length_mergeSort _) (fun x a=>List.mem_mergeSort.1 a) (fun w b=>?_) (fun g cap w _ _ c d=>Go.Proofs.Tryz.slices_Sort_int g 0 cap l w d c (by omega));subst b;exact Go.Proofs.Tryz.slices_Sort_int_none none 0 w
  .cases h
instance pY(l:Fp):Ct Go.Proofs.Tryz.prog (slices_Sort_int l) 331 [.list 1 (l.map (TV.int .i64))] Ap.turn:=⟨jE l⟩
instance qk(b:Fp)(a:Int):Ct prog (slices_Index_int b a) 57 [lI b,eI a] (fun r=>.sh (eI r)):=Fj f57 0x9e75a7c501855c7781ef75a77fdf [] [.tmp 4] (h:=fun r h d e=>by
  unfold slices_Index_int at h;have:HA 0 8 7 0 fun(c:Int)(_:Unit)=>[(8,.tv (eI c))]:=⟨⟩;exact nz)
instance qC(b:Fp)(a:Int):Ct prog (slices_Contains_int b a) 28 [lI b,eI a] (fun r=>.sh (eB r)):=Fj f28 0xd60e30f6 [] [.tmp 4] (h:=fun r h c d=>by
  unfold slices_Contains_int at h;exact nz)
theorem jF(l r:Fp)(h:slices_Reverse_int l=some r):AJ prog 336 [.list 1 (l.map (TV.int .i64))] (.turn r):=by
  unfold slices_Reverse_int at h;split at h
  · rename_i d
    unfold CX at d;cases h;refine V2 (by rfl) List.length_reverse (fun x a=>List.mem_reverse.1 a) (fun w b=>?_) (fun g cap w _ _ j c=>(Go.Proofs.Tryz.slices_Reverse_int g 0 cap l w c (by omega)).mono ?_)
    · subst b
      exact Go.Proofs.Tryz.slices_Reverse_int_empty none 0 w
    · rintro e w' ⟨f,q,i⟩
      exact ⟨f,q,#[],by rw[Go.Sort.grow_empty];exact i⟩
  .cases h
instance pZ(l:Fp):Ct Go.Proofs.Tryz.prog (slices_Reverse_int l) 336 [.list 1 (l.map (TV.int .i64))] Ap.turn:=⟨jF l⟩
instance pG(c:List hV)(f:hV->K1)(b:FuncId)(a:Fq)[g:∀(d:hV),Ct prog (f d) b (AL d::a) (fun r=>.sh (eB r))]:Ct prog (B7 c f) 350 [Ce c,.sR b a] (fun r=>.sh (eI r)):=Fj f350 0x9e75a7c5018fa809437781ef75a77fdf [] [.tmp 4] (h:=fun r h i j=>by
  unfold B7 at h;have:HA 0 8 7 0 fun(e:Int)(_:Unit)=>[(8,.tv (eI e))]:=⟨⟩;exact nz)
instance o0(c:List hV)(f:hV->K1)(b:FuncId)(a:Fq)[e:∀(d:hV),Ct prog (f d) b (AL d::a) (fun r=>.sh (eB r))]:Ct prog (Bt c f) 333 [Ce c,.sR b a] (fun r=>.sh (eB r)):=Fj f333 0xd60e30f6 [] [.tmp 4] (h:=fun r h g i=>by
  unfold Bt at h;exact nz)
theorem jB(a b c:Int)(r:Int×Int)(h:Hg a b c=some r):AJ prog 311 [HP a,HP b,HP c] (.ext [HP (r.1),HP (r.2)]):=by
  unfold Hg at h;split at h
  · rename_i d
    cases h;obtain⟨⟨a0,a1⟩,⟨e,g⟩,f,i⟩:=d;intro _;refine⟨⟨rfl,?_⟩,fun w vs hv=>?_⟩
    · simp only[HP,TV.sq,TV.WF,IntKind.min,IntKind.max,IntKind.signed,IntKind.bits,and_true]
      simp only[Bool.false_eq_true,if_false];refine⟨⟨by omega,?_⟩,by omega,?_⟩
      · have:(2:Int)^ 64=18446744073709551616:=by decide
        omega
      · have:(2:Int)^ 64=18446744073709551616:=by decide
        omega
    · obtain⟨x,rfl⟩:=Int.eq_ofNat_of_zero_le a0
      obtain ⟨y,rfl⟩:=Int.eq_ofNat_of_zero_le e;obtain⟨z,rfl⟩:=Int.eq_ofNat_of_zero_le f;have:=Go.Proofs.Any7.bits_Add64 Go.Proofs.Tryz.lays7n25 x y z (by omega) w;obtain⟨l⟩:=vs;simp only[HP,AN,AX]at hv;obtain⟨j,k,rfl,rfl,m,n,rfl,rfl,o,p,rfl,rfl,rfl⟩:=hv;refine⟨_,this,?_⟩;simp only[HP,AN,AX];exact⟨_,_,rfl,by simp,_,_,rfl,by simp,rfl⟩
  .cases h
instance pV(a b c:Int):Ct Go.Proofs.Tryz.prog (Hg a b c) 311 [HP a,HP b,HP c] (fun r=>.ext [HP (r.1),HP (r.2)]):=⟨jB a b c⟩
instance nu(a:Fp):Ct prog (M3 a) 275 [lI a] (fun r=>.sh (eI r)):=Fj f275 0xcd31dd0304c5018530815c3161dd03047f8c5e01 [] [.tmp 2] (h:=fun r h c d=>by
  unfold M3 at h;have:HA 0 8 7 0 fun(b:Int)(_:Unit)=>[(8,.tv (eI b))]:=⟨⟩;exact nz)
instance ob(a:Int):Ct prog (cmp_isNaN_int a) 312 [eI a] (fun r=>.sh (eB r)):=Fj f312 0xd677e2 [] [.tmp 2] (h:=fun r h b c=>by
  unfold cmp_isNaN_int at h;exact nz)
instance nv(a:Int)(y:Int):Ct prog (cmp_Compare_int a y) 276 [eI a,eI y] (fun r=>.sh (eI r)):=Fj f276 0xac853037853037ac37818c0e5b0edf [] [.tmp 4] (h:=fun r h b c=>by
  unfold cmp_Compare_int at h;exact nz)
instance oc(a:Int):Ct prog (GU a) 313 [HP a] (fun r=>.sh (eB r)):=Fj f313 0xd677e2 [] [.tmp 2] (h:=fun r h b c=>by
  unfold GU at h;exact nz)
instance nw(a:Int)(y:Int):Ct prog (Hp a y) 277 [HP a,HP y] (fun r=>.sh (eI r)):=Fj f277 0xac853037853037ac37818c0e5b0edf [] [.tmp 4] (h:=fun r h b c=>by
  unfold Hp at h;exact nz)
instance rS(a:List Bh):Ct prog (Dp a) 90 [lE a] (fun r=>.own (lE r)):=Fj f90 0x820348010347ff03c09c010340e2 [] [.tmp 2] (h:=fun r h b c=>by
  unfold Dp at h;exact nz)
theorem iz(l:Fp)(m:Int)(r:Fp)(h:Ds l m=some r):AJ prog 124 [lI l,eI m] (.own (lI r)):=by
  unfold Ds at h;split at h
  · rename_i a
    cases h;obtain⟨x,rfl⟩:=List.length_eq_one_iff.1 a.1;obtain⟨k,rfl⟩:=Int.eq_ofNat_of_zero_le a.2.1;exact S4 x k (by have:=a.2.2;omega)
  .cases h
instance pQ(l:Fp)(m:Int):Ct Go.Proofs.Tryz.prog (Ds l m) 124 [lI l,eI m] (fun r=>.own (lI r)):=⟨iz l m⟩
instance nT(c:List Bw)(b:List Bw):Ct prog (F1 c b) 255 [lS c,lS b] (fun r=>.sh (eB r)):=Fj f255 0x9eb3a7c5bffacbfacb81efb3a77fd9c1f3df [.bin (.a [0,0,0,0]) .neq (.s 19) (.s 23)] [.tmp 4] (h:=fun r h e f=>by
  unfold F1 at h;have:HA 0 13 12 0 fun(d:Int)(_:Unit)=>[(13,.tv (eI d))]:=⟨⟩;exact nz)
instance nU(c:List Test)(b:List Test):Ct prog (F2 c b) 256 [lT c,lT b] (fun r=>.sh (eB r)):=Fj f256 0x9eb3a7c5bf9f05cb9f05cb81efb3a77fd9c1f3df [.bin (.a [0,0,0,0,0]) .neq (.s 19) (.s 23)] [.tmp 4] (h:=fun r h e f=>by
  unfold F2 at h;have:HA 0 13 12 0 fun(d:Int)(_:Unit)=>[(13,.tv (eI d))]:=⟨⟩;exact nz)
instance nV(c:List hV)(b:List hV)(g:hV->hV->K1)(a:FuncId)(d:Fq)[j:∀(f:hV)(e:hV),Ct prog (g f e) a (AL f::AL e::d) (fun r=>.sh (eB r))]:Ct prog (B6 c b g) 257 [Ce c,Ce b,.sR a d] (fun r=>.sh (eB r)):=Fj f257 0x9e11100f0255c5880fa8a801094b13c9a809cb094b8113c9a80943ef11100f02557facc1f33002bb [] [.tmp 6] (h:=fun r h k l=>by
  unfold B6 at h;have:HA 0 17 16 0 fun(i:Int)(_:Unit)=>[(17,.tv (eI i))]:=⟨⟩;exact nz)
instance ke(a:List JO):Ct prog (If a) 122 [(eL 4 H3) a] (fun r=>.own ((eL 4 H3) r)):=Fj f122 0x820448fb47ff04c09cfb40e2 [] [.tmp 2] (h:=fun r h b c=>by
  unfold If at h;exact nz)
instance kf(c:List AU)(f:AU->K1)(b:FuncId)(a:Fq)[g:∀(d:AU),Ct prog (f d) b (Bc d::a) (fun r=>.sh (eB r))]:Ct prog (CR c f) 123 [(eL 9 Bc) c,.sR b a] (fun r=>.sh (eI r)):=Fj f123 0x9e75a7c5018fa809437781ef75a77fdf [] [.tmp 4] (h:=fun r h i j=>by
  unfold CR at h;have:HA 0 8 7 0 fun(e:Int)(_:Unit)=>[(8,.tv (eI e))]:=⟨⟩;exact nz)
instance rI(c:List AU)(f:AU->K1)(b:FuncId)(a:Fq)[e:∀(d:AU),Ct prog (f d) b (Bc d::a) (fun r=>.sh (eB r))]:Ct prog (B3 c f) 80 [(eL 9 Bc) c,.sR b a] (fun r=>.sh (eB r)):=Fj f80 0xd60e30f6 [] [.tmp 4] (h:=fun r h g i=>by
  unfold B3 at h;exact nz)
theorem jv(s:Fp)(n:Int)(r:Fp)(h:Hj s n=some r):AJ prog 58 [.nil,eI n] (.own (lI r)):=by
  unfold Hj at h;split at h
  · rename_i c
    cases h;obtain⟨k,rfl⟩:=Int.eq_ofNat_of_zero_le c.2.1;have d:k<=CX:=by have:=c.2.2;omega
    have g:=d;unfold CX at g;obtain⟨b,i,j,p,l⟩:∃b,prog.info? 3=some b/\b.zero=some (.int .i64 0)/\b.size=1/\b.bytes=8:=⟨_,rfl,rfl,rfl,rfl⟩;refine Zu (by rfl) d (e:=3) (z:=(Value.int .i64 0).cells) rfl (fun w m=>?_) (fun w o=>?_)
    .exact Go.Proofs.Any8.slices_Grow_room Go.Proofs.Tryz.growI none 0 0 k w (bk _) (by omega) (by omega) (by omega)
    .exact Go.Proofs.Any8.slices_Grow_grow Go.Proofs.Tryz.growI b (.int .i64 0) i j (by omega) none 0 0 k [] w (bk _) (by omega) (by rw[l];omega) (by omega) (by simp) (fun _=>rfl) (fun a f=>by cases f)
  .cases h
instance rd(s:Fp)(n:Int):Ct Go.Proofs.Tryz.prog (Hj s n) 58 [.nil,eI n] (fun r=>.own (lI r)):=⟨jv s n⟩
theorem jI:CK f29 (Rq [⟨some 2,.uq 1,none⟩] [0]<|Rq [Ad 3 0] [0,3]<|Sq (Rq [Aa 9 0,Ae 10 9,Ad 11 0] [0,3,9,10,11]<|Bl 0<|Lo [0,3,9,10,11]<|Rq [Ai 12 11 10] [0,3,9,10,11,12]<|Sq (Co 12 (Sk [0,3,9,10,11])<|Ex 0 [0,3])<|Sq (Bl 1<|Rq [Aj 13 9 11 1,Ac 14 13,Ab 5 14] [0,3,5,9,10,11]<|Rq [Aa 15 3,Aa 16 5,Ae 17 16,⟨some 18,.bin (.i) .add (.s 15) (.s 17),none⟩,Aa 3 18] [0,3,9,10,11]<|Rq [Aa 19 3,⟨some 20,.bin (.i) .lss (.s 19) (.c (.int .i64 0)),none⟩] [0,3,9,10,11,20]<|Co 20 (.bad)<|Sk [0,3,9,10,11])<|Re [Ak 22 11 1,Aa 11 22] [0,3,9,10,11])<|Rq [Aa 23 3,⟨some 24,.call 58 [.c .nil,.s 23],none⟩,Ab 6 24] [0,6]<|Sq (Rq [Aa 25 0,Ae 26 25,Ad 27 0] [6,25,26,27]<|Bl 2<|Lo [6,25,26,27]<|Rq [Ai 28 27 26] [6,25,26,27,28]<|Sq (Co 28 (Sk [6,25,26,27])<|Ex 2 [6])<|Sq (Bl 3<|Rq [Aj 29 25 27 1,Ac 30 29,Ab 8 30] [6,8,25,26,27]<|Re [Ab 31 6,Aa 32 8,⟨some 33,.app 1 (.s 31) (.s 32),none⟩,Ab 6 33] [6,25,26,27])<|Re [Ak 34 27 1,Aa 27 34] [6,25,26,27])<|Rq [Ab 35 6,Ab 2 35] [2]<|.ret) [.tmp 2]:=by decide +kernel
instance qE(a:List Fp):Ct prog (Fy a) 29 [(eL 1 lI) a] (fun r=>.own (lI r)):=Fi jI fun r h f g=>by
  unfold Fy at h;have:HA 0 11 10 0 fun(d:Int)(b:Int)=>[(3,.tv (eI b)),(11,.tv (eI d))]:=⟨⟩;have:HA 2 27 26 0 fun(c:Int)(e:Fp)=>[(6,.ow (lI e)),(27,.tv (eI c))]:=⟨⟩;exact au
theorem jL:CK f51 (Rq [Ad 2 0] [0]<|Sq (Rq [Aa 5 0,Ae 6 5,⟨some 7,.bin (.i) .lss (.s 6) (.c (.int .i64 1)),none⟩] [0,7]<|Co 7 (.bad)<|Sk [0])<|Rq [Aa 9 0,⟨some 10,.ur (.s 9) (.c (.int .i64 0)) 1,none⟩,Ac 11 10,Aa 3 11] [0,3]<|Sq (Rq [Ad 4 1] [0,3,4]<|Bl 0<|Lo [0,3,4]<|Sq (Rq [Aa 12 4,Aa 13 0,Ae 14 13,Ai 15 12 14] [0,3,4,15]<|Co 15 (Sk [0,3,4])<|Ex 0 [3])<|Sq (Bl 1<|Re [Aa 18 3,Aa 19 0,Aa 20 4,Aj 21 19 20 1,Ac 22 21,⟨some 23,.mm false (.s 18) (.s 22),none⟩,Aa 3 23] [0,3,4])<|Re [Aa 16 4,Ak 17 16 1,Aa 4 17] [0,3,4])<|Rq [Aa 24 3,Aa 2 24] [2]<|.ret) [.tmp 2]:=by decide +kernel
instance qa(a:Fp):Ct prog (slices_Min_int a) 51 [lI a] (fun r=>.sh (eI r)):=Fi jL fun r h d e=>by
  unfold slices_Min_int at h;have:HA 0 4 0 0 fun(c:Int)(b:Int)=>[(3,.tv (eI b)),(4,.tv (eI c))]:=⟨⟩;exact au
end Go.Sf.Sc
