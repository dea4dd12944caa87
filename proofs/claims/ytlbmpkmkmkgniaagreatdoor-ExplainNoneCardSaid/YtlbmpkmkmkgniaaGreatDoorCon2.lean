/- Contracts of the functions. -/
import Derived.Test.YtlbmpkmkmkgniaaGreatDoorCon1
import Derived.Test.YtlbmpkmkmkgniaaGreatDoorTryzShelf
import Derived.Test.YtlbmpkmkmkgniaaGreatDoorRp
set_option maxRecDepth 100000
set_option maxHeartbeats 4000000
namespace Go.Sf.Sc
open Go Go.Sf Go.Proofs.Tryz
theorem iu:CK f152 (Rq [Af 2 0,Aj 4] [1,2]<|Rq [Ac 5 2 0,Ab 6 5,Ag 7 6,Ac 8 2 1,Ab 9 8,Ag 10 9,Bo 11 7 10,Aa 12 1,⟨some 13,.bin (.i) .leq (.s 11) (.s 12),none⟩,Aa 4 13] [4]<|.ret) [.tmp 4]:=by decide +kernel
instance qW (m:Morphism) (n:Int):Ct prog (Nr m n) 152 [C9 m,eI n] (fun r=>.sh (eB r)):=Fi iu fun r h hw hR=>by
  unfold Nr at h
  exact au
theorem iD:CK f103 (Rq [Af 2 0,Ae 4 0] [1,2]<|Rq [Aa 6 1,Ci 7 6 1,Aa 1 7] [1,2]<|Sq (Rq [Ac 8 2 4,Ad 9 8 5,Ay 10 55 9,Az 11 10,Aa 12 11,Av 13 2 2 12,Cb 14 13 2 12,⟨some 15,.call 152 [.s 14,.c (.int .i64 140)],some (12,false)⟩,Br 16 15 12,Au 17 12 16] [1,2,17]<|Co 17 (Rq [Bq 4 (-1)] [4]<|.ret)<|Sk [1,2])<|Sq (Rq [Ae 5 0] [1,2,5]<|Bl 0<|Lo [1,2,5]<|Sq (Rq [Aa 18 5,Ac 19 2 1,Ab 20 19,Ag 21 20,Al 22 18 21,Aa 23 22,Ar 24 1 23,Gh 25 24 0 23,As 26 23 25] [1,2,5,26]<|Co 26 (Sk [1,2,5])<|Ex 0 [1])<|Sq (Bl 1<|Re [Ac 29 2 1,Ab 30 29,Aa 31 5,Ai 32 30 31 9,Ad 33 32 9,Aa 34 1,Aq 35 103 33 34,Aa 1 35] [1,2,5])<|Re [Aa 27 5,Am 28 27 1,Aa 5 28] [1,2,5])<|Rq [Aa 36 1,Aa 4 36] [4]<|.ret) [.tmp 4]:=by decide +kernel
theorem gf (n:Nat) (_ih_103:∀ (c:AA) (most:Int),Ct prog (FQ n c most) 103 [AF c,eI most] (fun r=>.sh (eI r))) (c:AA) (most:Int):Ct prog (FQ (n+1) c most) 103 [AF c,eI most] (fun r=>.sh (eI r)):=Fi iD fun r h hw hR=>by
  unfold FQ at h
  have:HW 0 fun (s0:Int × Int)=>[(1,.tv (eI s0.1)),(5,.tv (eI s0.2))]:=⟨⟩
  exact au
theorem gc:∀ n:Nat,(∀ (c:AA) (most:Int),Ct prog (FQ n c most) 103 [AF c,eI most] (fun r=>.sh (eI r))):=by
  intro n
  induction n with
  | zero=>exact (fun c most=>⟨fun _ h=>by cases h⟩)
  | succ n ih=>exact gf n ih
instance po (c:AA) (most:Int):Ct prog (Oo c most) 103 [AF c,eI most] (fun r=>.sh (eI r)):=⟨fun r h=>by
  obtain ⟨N,hN⟩:=CO h
  exact ((gc N) c most).snd r (hN N (Nat.le_refl _))⟩
theorem oP:CK f54 (Rq [Af 1 0,Aj 2] [1]<|Rq [Ad 3 1 9,Cr 4 103 3 40,Bn 5 4 0,Aa 2 5] [2]<|.ret) [.tmp 2]:=by decide +kernel
instance tX (c:AA):Ct prog (MP c) 54 [AF c] (fun r=>.sh (eB r)):=Fi oP fun r h hw hR=>by
  unfold MP at h
  exact au
theorem oR:CK f56 (Rq [Af 1 0,Aj 2] [1]<|Sq (Rq [Ac 4 1 0,Ad 5 4 2,Ay 6 104 5,Az 7 6,Aa 8 7,Av 9 1 2 8,Ap 10 9 8,Bg 11 10 8,Bz 12 11 45 8,Au 13 8 12] [1,13]<|Co 13 (Rq [Aj 2] [2]<|.ret)<|Sk [1])<|Sq (Rq [Ae 3 0] [1,3]<|Bl 0<|Lo [1,3]<|Sq (Rq [Aa 14 3,Ac 15 1 2,Ab 16 15,Ag 17 16,Al 18 14 17] [1,3,18]<|Co 18 (Sk [1,3])<|Ex 0 [])<|Sq (Bl 1<|Rq [Ac 21 1 2,Ab 22 21,Aa 23 3,Ai 24 22 23 1,Ab 25 24,Ag 26 25,Bj 27 26 12] [1,3,27]<|Co 27 (Rq [Aj 2] [2]<|.ret)<|Sk [1,3])<|Re [Aa 19 3,Am 20 19 1,Aa 3 20] [1,3])<|Rq [Bx 2] [2]<|.ret) [.tmp 2]:=by decide +kernel
instance tZ (h_0:A2):Ct prog (K8 h_0) 56 [IP h_0] (fun r=>.sh (eB r)):=Fi oR fun r h hw hR=>by
  unfold K8 at h
  have:HA 0 3 1 2 fun (i0:Int) (_:Unit)=>[(3,.tv (eI i0))]:=⟨⟩
  exact au
theorem iU:CK f127 (Rq [Aj 2] [0]<|Rq [Aa 3 0,Bn 4 3 0,Aa 5 4,Ar 6 0 5,Cd 7 6 99 5,As 8 5 7,Aa 2 8] [2]<|.ret) [.tmp 2]:=by decide +kernel
instance qE (n:Int):Ct prog (KG n) 127 [eI n] (fun r=>.sh (eB r)):=Fi iU fun r h hw hR=>by
  unfold KG at h
  exact au
theorem iV:CK f128 (Rq [Af 2 0,Aj 4] [1,2]<|Rq [Ac 5 2 0,Ab 6 5,Ay 7 127 6,Aa 8 7,Bc 9 2 1 8,Be 10 9 8,Gh 11 10 0 8,As 12 8 11,Aa 13 12,Bc 14 2 1 13,Be 15 14 13,Ar 16 1 13,Ep 17 15 16 13,As 18 13 17,Aa 19 18,Bc 20 2 2 19,Be 21 20 19,Gh 22 21 0 19,As 23 19 22,Aa 24 23,Bc 25 2 2 24,Be 26 25 24,Ar 27 1 24,Ep 28 26 27 24,As 29 24 28,Aa 4 29] [4]<|.ret) [.tmp 4]:=by decide +kernel
instance qF (e:DS) (nodes:Int):Ct prog (MG e nodes) 128 [EQ e,eI nodes] (fun r=>.sh (eB r)):=Fi iV fun r h hw hR=>by
  unfold MG at h
  exact au
theorem oj:CK f85 (Rq [Af 1 0,Ae 2 0] [1]<|Sq (Rq [Ac 5 1 0,Ab 6 5,Ag 7 6,Bj 8 7 40,Aa 9 8,Av 10 1 1 9,Ap 11 10 9,Bg 12 11 9,Bz 13 12 80 9,Au 14 9 13] [1,14]<|Co 14 (Rq [Ae 2 3] [2]<|.ret)<|Sk [1])<|Sq (Rq [Ae 3 0] [1,3]<|Bl 0<|Lo [1,3]<|Sq (Rq [Aa 15 3,Ac 16 1 0,Ab 17 16,Ag 18 17,Al 19 15 18] [1,3,19]<|Co 19 (Sk [1,3])<|Ex 0 [1])<|Sq (Bl 1<|Rq [Ac 22 1 0,Ab 23 22,Aa 24 3,Ai 25 23 24 1,Ab 26 25,Ay 27 127 26,Az 28 27] [1,3,28]<|Co 28 (Rq [Ae 2 6] [2]<|.ret)<|Sk [1,3])<|Re [Aa 20 3,Am 21 20 1,Aa 3 21] [1,3])<|Sq (Rq [Ae 4 0] [1,4]<|Bl 2<|Lo [1,4]<|Sq (Rq [Aa 29 4,Ac 30 1 1,Ab 31 30,Ag 32 31,Al 33 29 32] [1,4,33]<|Co 33 (Sk [1,4])<|Ex 2 [])<|Sq (Bl 3<|Sq (Dr [36,37,38,39,40,41,42,43,44,45] [Ac 36 1 1,Ab 37 36,Aa 38 4,Ai 39 37 38 3,Ad 40 39 3,Ac 41 1 0,Ab 42 41,Ag 43 42,Aq 44 128 40 43,Az 45 44] [1,4,45])<|Co 45 (Rq [Ae 2 6] [2]<|.ret)<|Sk [1,4])<|Re [Aa 34 4,Am 35 34 1,Aa 4 35] [1,4])<|Rq [Ae 2 0] [2]<|.ret) [.tmp 2]:=by decide +kernel
instance t6 (g:Graph):Ct prog (G9 g) 85 [DN g] (fun r=>.sh (eI r)):=Fi oj fun r h hw hR=>by
  unfold G9 at h
  have:HA 0 3 1 0 fun (i0:Int) (_:Unit)=>[(3,.tv (eI i0))]:=⟨⟩
  have:HA 2 4 1 1 fun (i2:Int) (_:Unit)=>[(4,.tv (eI i2))]:=⟨⟩
  exact au
theorem kv:CK f295 (Rq [Af 1 0,Ck 2] [1]<|Sq (Rq [Ac 3 1 0,Ab 4 3,Bb 5 4 3] [1,5]<|Co 5 (Rq [Ac 6 1 1,Ab 7 6,⟨some 8,.bin (.s) .add (.c (.str ⟨#[34]⟩)) (.s 7),none⟩,⟨some 9,.bin (.s) .add (.s 8) (.c (.str ⟨#[34]⟩)),none⟩,Aa 2 9] [2]<|.ret)<|Sk [1])<|Rq [Ac 10 1 1,Ab 11 10,Aa 2 11] [2]<|.ret) [.tmp 2]:=by decide +kernel
instance sM (t:FT):Ct prog (Mr t) 295 [Q1 t] (fun r=>.sh (eS r)):=Fi kv fun r h hw hR=>by
  unfold Mr at h
  exact au
theorem lC:CK f310 (Rq [Aj 2] [0]<|Rq [Aa 3 0,Dy 4 3 97,Aa 5 4,Ar 6 0 5,Dk 7 6 122 5,As 8 5 7,Aa 9 8,Ba 10 0 9,Gi 11 10 65 9,Ba 12 11 9,Ar 13 0 12,Dk 14 13 90 12,Cf 15 12 14 9,Au 16 9 15,Aa 2 16] [2]<|.ret) [.tmp 2]:=by decide +kernel
instance sV (c:Int):Ct prog (J4 c) 310 [Q2 c] (fun r=>.sh (eB r)):=Fi lC fun r h hw hR=>by
  unfold J4 at h
  exact au
theorem lD:CK f311 (Rq [Aj 2] [0]<|Rq [Aa 3 0,Dy 4 3 48,Aa 5 4,Ar 6 0 5,Dk 7 6 57 5,As 8 5 7,Aa 2 8] [2]<|.ret) [.tmp 2]:=by decide +kernel
instance sW (c:Int):Ct prog (Ii c) 311 [Q2 c] (fun r=>.sh (eB r)):=Fi lD fun r h hw hR=>by
  unfold Ii at h
  exact au
theorem lF:CK f312 (Rq [Ae 6 0] [0,1,2]<|Rq [Ae 7 0] [0,1,2,7]<|Sq (Bl 0<|Lo [0,1,2,7]<|Sq (Rq [Aa 8 1,Aa 9 7,Bo 10 8 9,Aa 11 0,Cj 12 11,Al 13 10 12,Aa 14 13,Ar 15 0 14,Ar 16 1 14,Ar 17 7 14,Ej 18 16 17 14,Fe 19 15 18 14,Cc 20 311 19 14,Ar 21 20 14,Ba 22 2 21,Br 23 22 21,Ba 24 23 21,Ar 25 0 24,Ar 26 1 24,Ar 27 7 24,Ej 28 26 27 24,Fe 29 25 28 24,Cc 30 310 29 24,Ar 31 30 24,Ba 32 0 31,Ba 33 1 31,Ba 34 7 31,⟨some 35,.bin (.i) .add (.s 33) (.s 34),some (31,false)⟩,⟨some 36,.sidx (.s 32) (.s 35),some (31,false)⟩,Gk 37 36 95 31,Dl 38 31 37 24,Cf 39 24 38 21,Dl 40 21 39 14,As 41 14 40] [0,1,2,7,41]<|Co 41 (Sk [0,1,2,7])<|Ex 0 [7])<|Bl 1<|Re [Aa 42 7,Am 43 42 1,Aa 7 43] [0,1,2,7])<|Rq [Aa 44 7,Aa 6 44] [6]<|.ret) [.tmp 6]:=by decide +kernel
instance sX (s_0:ByteArray) (AB:Int) (digits:Bool):Ct prog (MN s_0 AB digits) 312 [eS s_0,eI AB,eB digits] (fun r=>.sh (eI r)):=Fi lF fun r h hw hR=>by
  unfold MN at h
  have:HW 0 fun (s0:Int)=>[(7,.tv (eI s0))]:=⟨⟩
  exact au
theorem lG:CK f313 (Rq [Ae 4 0] [0,1]<|Sq (Rq [Ae 5 1] [0,1,5]<|Bl 0<|Lo [0,1,5]<|Sq (Rq [Aa 7 1,Aa 8 5,Bo 9 7 8,Aa 10 0,Cj 11 10,Al 12 9 11] [0,1,5,12]<|Co 12 (Sk [0,1,5])<|Ex 0 [])<|Sq (Bl 1<|Rq [Aa 15 0,Aa 16 1,Aa 17 5,Bo 18 16 17,⟨some 19,.sidx (.s 15) (.s 18),none⟩,Aa 6 19] [0,1,5,6]<|Sq (Rq [Aa 20 6,Ff 21 20 34] [0,1,5,6,21]<|Co 21 (Rq [Aa 22 5,Am 23 22 1,Aa 4 23] [4]<|.ret)<|Sk [0,1,5,6])<|Rq [Aa 24 6,⟨some 25,.bin (.i) .lss (.s 24) (.c (.int .u8 32)),none⟩,Aa 26 25,Ba 27 6 26,⟨some 28,.bin (.i) .gtr (.s 27) (.c (.int .u8 126)),some (26,false)⟩,Au 29 26 28] [0,1,5,29]<|Co 29 (Rq [Ae 4 0] [4]<|.ret)<|Sk [0,1,5])<|Re [Aa 13 5,Am 14 13 1,Aa 5 14] [0,1,5])<|Rq [Ae 4 0] [4]<|.ret) [.tmp 4]:=by decide +kernel
instance sY (s_0:ByteArray) (AB:Int):Ct prog (J5 s_0 AB) 313 [eS s_0,eI AB] (fun r=>.sh (eI r)):=Fi lG fun r h hw hR=>by
  unfold J5 at h
  have:HW 0 fun (s0:Int)=>[(5,.tv (eI s0))]:=⟨⟩
  exact au
theorem lH:CK f314 (Rq [Aw 0 1] []<|Rq [⟨some 1,.lst 1 [.c (.str ⟨#[45,62]⟩),.c (.str ⟨#[60,61]⟩),.c (.str ⟨#[62,61]⟩),.c (.str ⟨#[61,61]⟩),.c (.str ⟨#[33,61]⟩),.c (.str ⟨#[123]⟩),.c (.str ⟨#[125]⟩),.c (.str ⟨#[40]⟩),.c (.str ⟨#[41]⟩),.c (.str ⟨#[91]⟩),.c (.str ⟨#[93]⟩),.c (.str ⟨#[44]⟩),.c (.str ⟨#[59]⟩),.c (.str ⟨#[58]⟩),.c (.str ⟨#[61]⟩),.c (.str ⟨#[43]⟩),.c (.str ⟨#[45]⟩),.c (.str ⟨#[42]⟩),.c (.str ⟨#[60]⟩),.c (.str ⟨#[62]⟩),.c (.str ⟨#[33]⟩),.c (.str ⟨#[38]⟩),.c (.str ⟨#[124]⟩),.c (.str ⟨#[46]⟩),.c (.str ⟨#[63]⟩)],none⟩,Ak 0 1] [0]<|.ret) [.tmp 0]:=by decide +kernel
instance sZ :Ct prog (ME ) 314 [] (fun r=>.own (lB r)):=Fi lH fun r h hw hR=>by
  unfold ME at h
  exact au
theorem kw:CK f296 (Rq [Ha 4 0 0,Ae 5 0,Ae 6 0] [0,1,4]<|Rq [Aa 14 0,Aa 15 1,⟨some 16,.sidx (.s 14) (.s 15),none⟩,Aa 7 16] [0,1,4,7]<|Sq (Rq [Aa 17 7,Ay 18 310 17,Aa 19 18,Ba 20 7 19,Dt 21 311 20 19,Au 22 19 21] [0,1,4,7,22]<|Co 22 (Rq [Aa 23 0,Aa 24 1,Aa 25 7,Ay 26 311 25,Bf 27 312 23 24 26,Aa 8 27] [0,1,4,7,8]<|Rq [Ae 9 1,Ae 10 20] [0,1,4,7,8,9,10]<|Sq (Rq [Aa 28 7,Ay 29 311 28] [0,1,4,8,9,10,29]<|Co 29 (Re [Ae 9 2,Ae 10 9] [0,1,4,8,9,10])<|Sk [0,1,4,8,9,10])<|Sq (Rq [Aa 30 8,Aa 31 10,Fw 32 30 31] [0,1,4,8,9,32]<|Co 32 (Rq [Fd 33 0 0,Ao 3 4 33,Ae 5 0,Ae 6 3] [4,5,6]<|.ret)<|Sk [0,1,4,8,9])<|Rq [Aa 34 9,Aa 35 0,Aa 36 1,Aa 37 1,Aa 38 8,Bo 39 37 38,⟨some 40,.sslc (.s 35) (some (.s 36)) (some (.s 39)),none⟩,⟨some 41,.bld [.int .i64 0,.str ⟨#[]⟩,.int .i64 0] [(0,1,.s 34),(1,1,.s 40)],none⟩,Aa 42 8,Ao 3 4 41,Aa 5 42,Ae 6 0] [4,5,6]<|.ret)<|Sk [0,1,4,7])<|Sq (Rq [Aa 43 7,Ff 44 43 34] [0,1,4,44]<|Co 44 (Rq [Aa 45 0,Aa 46 1,Aq 47 313 45 46,Aa 11 47] [0,1,4,11]<|Sq (Rq [Aa 48 11,Bb 49 48 0] [0,1,4,11,49]<|Co 49 (Rq [Fd 50 0 0,Ao 3 4 50,Ae 5 0,Ae 6 2] [4,5,6]<|.ret)<|Sk [0,1,4,11])<|Sq (Rq [Aa 51 11,Ci 52 51 2,Bj 53 52 60] [0,1,4,11,53]<|Co 53 (Rq [Fd 54 0 0,Ao 3 4 54,Ae 5 0,Ae 6 3] [4,5,6]<|.ret)<|Sk [0,1,4,11])<|Rq [Aa 55 0,Aa 56 1,Am 57 56 1,Aa 58 1,Aa 59 11,Bo 60 58 59,Ci 61 60 1,⟨some 62,.sslc (.s 55) (some (.s 57)) (some (.s 61)),none⟩,El 63 0 0 0 1 3 1 1 62,Aa 64 11,Ao 3 4 63,Aa 5 64,Ae 6 0] [4,5,6]<|.ret)<|Sk [0,1,4])<|Rq [Ei 65 314,Ak 12 65] [0,1,4,12]<|Sq (Rq [Ae 13 0] [0,1,4,12,13]<|Bl 0<|Lo [0,1,4,12,13]<|Sq (Rq [Aa 66 13,Aa 67 12,Ag 68 67,Al 69 66 68] [0,1,4,12,13,69]<|Co 69 (Sk [0,1,4,12,13])<|Ex 0 [4])<|Sq (Bl 1<|Sq (Dr [72,73,74,75,76,77,78,79,80,81,82,83,84,85,86,87,88,89,90,91,92,93,94,95,96,97,98] [Aa 72 1,Aa 73 12,Aa 74 13,Ai 75 73 74 1,Ab 76 75,Cj 77 76,Bo 78 72 77,Aa 79 0,Cj 80 79,⟨some 81,.bin (.i) .leq (.s 78) (.s 80),none⟩,Aa 82 81,Ar 83 0 82,Ar 84 1 82,Ar 85 1 82,Ar 86 12 82,Ar 87 13 82,Fp 88 86 87 1 82,Be 89 88 82,Fg 90 89 82,Ej 91 85 90 82,⟨some 92,.sslc (.s 83) (some (.s 84)) (some (.s 91)),some (82,true)⟩,Ar 93 12 82,Ar 94 13 82,Fp 95 93 94 1 82,Be 96 95 82,⟨some 97,.bin (.s) .eql (.s 92) (.s 96),some (82,true)⟩,As 98 82 97] [0,1,4,12,13,98])<|Co 98 (Sq (Dr [4,5,6,99,100,101,102,103,104,105,106,107,108] [Aa 99 12,Aa 100 13,Ai 101 99 100 1,Ab 102 101,El 103 0 0 0 1 4 1 1 102,Aa 104 12,Aa 105 13,Ai 106 104 105 1,Ab 107 106,Cj 108 107,Ao 3 4 103,Aa 5 108,Ae 6 0] [4,5,6])<|.ret)<|Sk [0,1,4,12,13])<|Re [Aa 70 13,Am 71 70 1,Aa 13 71] [0,1,4,12,13])<|Rq [Fd 109 0 0,Ao 3 4 109,Ae 5 0,Ae 6 2] [4,5,6]<|.ret) [.cell 4 (some 3),.tmp 5,.tmp 6]:=by decide +kernel
instance sN (s_0:ByteArray) (AB:Int):Ct prog (MM s_0 AB) 296 [eS s_0,eI AB] (fun r=>.tp [Q1 r.1,eI r.2.1,eI r.2.2]):=Fi kw fun r h hw hR=>by
  unfold MM at h
  have:HJ 29 fun (w1:Int × Int)=>[(9,.tv (eI w1.1)),(10,.tv (eI w1.2))]:=⟨⟩
  have:HA 0 13 12 0 fun (i0:Int) (s0:FT)=>[(4,.bx [⟨false,eI s0.Kind⟩,⟨false,eS s0.Text⟩,⟨false,eI s0.Line⟩]),(13,.tv (eI i0))]:=⟨⟩
  exact au
theorem kH:CK f251 (Rq [Af 1 0,Aj 2] [1]<|Rq [Ad 7 1 3,Ay 8 295 7,Aa 3 8] [1,3]<|Sq (Rq [Aa 9 3,⟨some 10,.bin (.s) .eql (.s 9) (.c (.str ⟨#[]⟩)),none⟩] [1,3,10]<|Co 10 (Rq [Aj 2] [2]<|.ret)<|Sk [1,3])<|Rq [Aa 12 3,Cr 13 296 12 0,Aa 11 13,An 14 11 0,An 15 11 1,An 16 11 2,Ha 4 0 0,Ao 3 4 14,Aa 5 15,Aa 6 16] [1,3,4,5,6]<|Rq [Aa 17 6,Bb 18 17 0,Aa 19 18,Ar 20 5 19,Ar 21 3 19,Fg 22 21 19,De 23 20 22 19,As 24 19 23,Aa 25 24,Bc 26 4 0 25,Be 27 26 25,Bc 28 1 0 25,Be 29 28 25,De 30 27 29 25,As 31 25 30,Aa 2 31] [2]<|.ret) [.tmp 2]:=by decide +kernel
instance rk (t:FT):Ct prog (MD t) 251 [Q1 t] (fun r=>.sh (eB r)):=Fi kH fun r h hw hR=>by
  unfold MD at h
  exact au
theorem jQ:CK f185 (Rq [Aj 2] [0]<|Rq [Aa 3 0,El 4 0 0 0 1 1 1 1 3,Ay 5 251 4,Aa 2 5] [2]<|.ret) [.tmp 2]:=by decide +kernel
instance qz (s_0:ByteArray):Ct prog (HN s_0) 185 [eS s_0] (fun r=>.sh (eB r)):=Fi jQ fun r h hw hR=>by
  unfold HN at h
  exact au
theorem jR:CK f186 (Rq [Aj 6] [0,1,2]<|Rq [Aa 7 0,Aa 8 1,Dg 9 7 8,Aa 10 9,Ar 11 0 10,Ar 12 2 10,Eo 13 11 12 10,As 14 10 13,Aa 6 14] [6]<|.ret) [.tmp 6]:=by decide +kernel
instance q0 (n:Int) (low:Int) (high:Int):Ct prog (E8 n low high) 186 [eI n,eI low,eI high] (fun r=>.sh (eB r)):=Fi jR fun r h hw hR=>by
  unfold E8 at h
  exact au
theorem jS:CK f187 (Rq [Af 2 0,Aw 4 4] [1,2]<|Sq (Rq [Aa 5 1,Bs 6 5 0] [1,2,6]<|Co 6 (Rq [Aw 4 4] [4]<|.ret)<|Sk [1,2])<|Sq (Dr [4,7,8,9,10,11,12,13,14,15,16,17,18,19,20,21,22,23] [Eq 7 4,Ad 8 2 2,Ac 9 2 0,Ab 10 9,Aa 11 1,Ai 12 10 11 4,Ah 13 12 1,Ab 14 13,Aq 15 187 8 14,Bm 16 4 7 15,Ac 17 2 0,Ab 18 17,Aa 19 1,Ai 20 18 19 4,Ah 21 20 3,Ab 22 21,Bm 23 4 16 22,Ak 4 23] [4])<|.ret) [.tmp 4]:=by decide +kernel
theorem g4 (n:Nat) (_ih_187:∀ (t:AD) (a:Int),Ct prog (HO n t a) 187 [At t,eI a] (fun r=>.own (lA r))) (t:AD) (a:Int):Ct prog (HO (n+1) t a) 187 [At t,eI a] (fun r=>.own (lA r)):=Fi jS fun r h hw hR=>by
  unfold HO at h
  exact au
theorem g3:∀ n:Nat,(∀ (t:AD) (a:Int),Ct prog (HO n t a) 187 [At t,eI a] (fun r=>.own (lA r))):=by
  intro n
  induction n with
  | zero=>exact (fun t a=>⟨fun _ h=>by cases h⟩)
  | succ n ih=>exact g4 n ih
instance q5 (t:AD) (a:Int):Ct prog (MF t a) 187 [At t,eI a] (fun r=>.own (lA r)):=⟨fun r h=>by
  obtain ⟨N,hN⟩:=CO h
  exact ((g3 N) t a).snd r (hN N (Nat.le_refl _))⟩
theorem kI:CK f252 (Rq [Ae 2 0] [0]<|Sq (Rq [Aa 5 0,Ag 6 5,Bj 7 6 20] [0,7]<|Co 7 (Rq [Ae 2 3] [2]<|.ret)<|Sk [0])<|Sq (Rq [Ae 3 0] [0,3]<|Bl 0<|Lo [0,3]<|Sq (Rq [Aa 8 3,Aa 9 0,Ag 10 9,Al 11 8 10] [0,3,11]<|Co 11 (Sk [0,3])<|Ex 0 [])<|Sq (Bl 1<|Sq (Rq [Aa 14 0,Aa 15 3,Ai 16 14 15 1,Ab 17 16,Ay 18 185 17,Az 19 18] [0,3,19]<|Co 19 (Rq [Ae 2 2] [2]<|.ret)<|Sk [0,3])<|Rq [Ae 4 0] [0,3,4]<|Bl 2<|Lo [0,3,4]<|Sq (Rq [Aa 20 4,Aa 21 3,Al 22 20 21] [0,3,4,22]<|Co 22 (Sk [0,3,4])<|Ex 2 [0,3])<|Sq (Bl 3<|Sq (Dr [25,26,27,28,29,30,31,32,33] [Aa 25 0,Aa 26 4,Ai 27 25 26 1,Ab 28 27,Aa 29 0,Aa 30 3,Ai 31 29 30 1,Ab 32 31,Dd 33 28 32] [0,3,4,33])<|Co 33 (Rq [Ae 2 5] [2]<|.ret)<|Sk [0,3,4])<|Re [Aa 23 4,Am 24 23 1,Aa 4 24] [0,3,4])<|Re [Aa 12 3,Am 13 12 1,Aa 3 13] [0,3])<|Rq [Ae 2 0] [2]<|.ret) [.tmp 2]:=by decide +kernel
instance rl (l:List ByteArray):Ct prog (Kd l) 252 [lB l] (fun r=>.sh (eI r)):=Fi kI fun r h hw hR=>by
  unfold Kd at h
  have:HA 0 3 0 0 fun (i0:Int) (_:Unit)=>[(3,.tv (eI i0))]:=⟨⟩
  have:HA 2 4 3 0 fun (i2:Int) (_:Unit)=>[(4,.tv (eI i2))]:=⟨⟩
  exact au
theorem jT:CK f188 (Rq [Af 1 0,Ae 2 0] [1]<|Sq (Rq [Ac 4 1 3,Ab 5 4,Ag 6 5,Bb 7 6 0] [1,7]<|Co 7 (Sq (Rq [Ac 8 1 1,Ab 9 8,⟨some 10,.call 186 [.s 9,.c (.int .i64 (-1000000)),.c (.int .i64 1000000)],none⟩,Az 11 10,Aa 12 11,Av 13 1 2 12,Ap 14 13 12,Av 15 1 1 12,Ap 16 15 12,Hb 17 186 14 16 1000000 12,Br 18 17 12,Au 19 12 18] [19]<|Co 19 (Rq [Ae 2 6] [2]<|.ret)<|Sk [])<|Rq [Ae 2 0] [2]<|.ret)<|Sk [1])<|Sq (Rq [Ac 20 1 3,Ab 21 20,Ay 22 252 21,Aa 3 22] [1,3]<|Rq [Aa 23 3,Ax 24 23 0] [1,3,24]<|Co 24 (Rq [Aa 25 3,Aa 2 25] [2]<|.ret)<|Sk [1])<|Sq (Rq [Ac 26 1 1,Ab 27 26,Ax 28 27 0,Aa 29 28,Av 30 1 2 29,Ap 31 30 29,Av 32 1 3 29,Ap 33 32 29,Bg 34 33 29,Fr 35 34 1 29,Da 36 31 35 29,Au 37 29 36] [37]<|Co 37 (Rq [Ae 2 6] [2]<|.ret)<|Sk [])<|Rq [Ae 2 0] [2]<|.ret) [.tmp 2]:=by decide +kernel
instance q6 (a:Attr):Ct prog (IW a) 188 [Hk a] (fun r=>.sh (eI r)):=Fi jT fun r h hw hR=>by
  unfold IW at h
  exact au
theorem ia:CK f133 (Rq [Af 2 0,Ae 4 0] [1,2]<|Rq [Ac 11 2 0,Ab 12 11,Aa 13 1,Ai 14 12 13 4,Ad 15 14 4,Fj 5 0 4,Ao 4 5 15] [1,2,5]<|Sq (Rq [Ac 16 5 0,Ab 17 16,Ay 18 185 17,Az 19 18] [1,2,5,19]<|Co 19 (Rq [Ae 4 2] [4]<|.ret)<|Sk [1,2,5])<|Sq (Rq [Ae 6 0] [1,2,5,6]<|Bl 0<|Lo [1,2,5,6]<|Sq (Rq [Aa 20 6,Aa 21 1,Al 22 20 21] [1,2,5,6,22]<|Co 22 (Sk [1,2,5,6])<|Ex 0 [1,2,5])<|Sq (Bl 1<|Sq (Dr [25,26,27,28,29,30,31,32,33] [Ac 25 2 0,Ab 26 25,Aa 27 6,Ai 28 26 27 4,Ah 29 28 0,Ab 30 29,Ac 31 5 0,Ab 32 31,Dd 33 30 32] [1,2,5,6,33])<|Co 33 (Rq [Ae 4 5] [4]<|.ret)<|Sk [1,2,5,6])<|Re [Aa 23 6,Am 24 23 1,Aa 6 24] [1,2,5,6])<|Sq (Rq [Ac 34 5 1,Ab 35 34,Aa 36 1,Ci 37 36 1,⟨some 38,.call 186 [.s 35,.c (.int .i64 (-1)),.s 37],none⟩,Az 39 38] [1,2,5,39]<|Co 39 (Rq [Ae 4 6] [4]<|.ret)<|Sk [1,2,5])<|Rq [Ad 40 2 2,Aa 41 1,Aq 42 187 40 41,Ak 7 42] [5,7]<|Sq (Rq [Ac 43 5 3,Ab 44 43,Ag 45 44,Bj 46 45 4,Aa 47 46,Ba 48 7 47,Bg 49 48 47,Bz 50 49 8 47,Au 51 47 50] [5,7,51]<|Co 51 (Rq [Ae 4 3] [4]<|.ret)<|Sk [5,7])<|Sq (Rq [Aa 52 7,Ag 53 52,Ac 54 5 3,Ab 55 54,Ag 56 55,Du 57 53 56,Aa 8 57] [7,8]<|Bl 2<|Lo [7,8]<|Sq (Rq [Aa 58 8,Aa 59 7,Ag 60 59,Al 61 58 60] [7,8,61]<|Co 61 (Sk [7,8])<|Ex 2 [])<|Sq (Bl 3<|Sq (Rq [Aa 64 7,Aa 65 8,Ai 66 64 65 4,Ah 67 66 0,Ab 68 67,Ay 69 185 68,Az 70 69] [7,8,70]<|Co 70 (Rq [Ae 4 2] [4]<|.ret)<|Sk [7,8])<|Sq (Rq [Ae 9 0] [7,8,9]<|Bl 4<|Lo [7,8,9]<|Sq (Rq [Aa 71 9,Aa 72 8,Al 73 71 72] [7,8,9,73]<|Co 73 (Sk [7,8,9])<|Ex 4 [7,8])<|Sq (Bl 5<|Sq (Dr [76,77,78,79,80,81,82,83,84,85,86] [Aa 76 7,Aa 77 9,Ai 78 76 77 4,Ah 79 78 0,Ab 80 79,Aa 81 7,Aa 82 8,Ai 83 81 82 4,Ah 84 83 0,Ab 85 84,Dd 86 80 85] [7,8,9,86])<|Co 86 (Rq [Ae 4 5] [4]<|.ret)<|Sk [7,8,9])<|Re [Aa 74 9,Am 75 74 1,Aa 9 75] [7,8,9])<|Rq [Aa 87 7,Aa 88 8,Ai 89 87 88 4,Ad 90 89 4,Ay 91 188 90,Aa 10 91] [7,8,10]<|Rq [Aa 92 10,Ax 93 92 0] [7,8,10,93]<|Co 93 (Rq [Aa 94 10,Aa 4 94] [4]<|.ret)<|Sk [7,8])<|Re [Aa 62 8,Am 63 62 1,Aa 8 63] [7,8])<|Rq [Ae 4 0] [4]<|.ret) [.tmp 4]:=by decide +kernel
instance qK (t:AD) (i_1:Int):Ct prog (LX t i_1) 133 [At t,eI i_1] (fun r=>.sh (eI r)):=Fi ia fun r h hw hR=>by
  unfold LX at h
  have:HA 0 6 1 0 fun (i0:Int) (_:Unit)=>[(6,.tv (eI i0))]:=⟨⟩
  have:HA 2 8 7 0 fun (i2:Int) (_:Unit)=>[(8,.tv (eI i2))]:=⟨⟩
  have:HA 4 9 8 0 fun (i4:Int) (_:Unit)=>[(9,.tv (eI i4))]:=⟨⟩
  exact au
theorem jU:CK f189 (Rq [Aj 4] [0,1]<|Rq [Aa 5 0,Gn 6 186 5 0 40,Aa 7 6,Ar 8 1 7,Gl 9 8 (-1) 7,Ar 10 9 7,Ba 11 1 10,Ba 12 0 10,Hb 13 186 11 12 40 10,Dl 14 10 13 7,As 15 7 14,Aa 4 15] [4]<|.ret) [.tmp 4]:=by decide +kernel
instance q7 (low:Int) (high:Int):Ct prog (Je low high) 189 [eI low,eI high] (fun r=>.sh (eB r)):=Fi jU fun r h hw hR=>by
  unfold Je at h
  exact au
theorem ib:CK f134 (Rq [Af 2 0,Ae 4 0] [1,2]<|Rq [Ac 8 2 1,Ab 9 8,Aa 10 1,Ai 11 9 10 7,Ad 12 11 7,Fm 5 0 0 0 0 0 0,Ao 7 5 12] [1,2,5]<|Sq (Rq [Ac 13 5 0,Ab 14 13,Ay 15 185 14,Az 16 15] [1,2,5,16]<|Co 16 (Rq [Ae 4 2] [4]<|.ret)<|Sk [1,2,5])<|Sq (Rq [Ae 6 0] [1,2,5,6]<|Bl 0<|Lo [1,2,5,6]<|Sq (Rq [Aa 17 6,Aa 18 1,Al 19 17 18] [1,2,5,6,19]<|Co 19 (Sk [1,2,5,6])<|Ex 0 [2,5])<|Sq (Bl 1<|Sq (Dr [22,23,24,25,26,27,28,29,30] [Ac 22 2 1,Ab 23 22,Aa 24 6,Ai 25 23 24 7,Ah 26 25 0,Ab 27 26,Ac 28 5 0,Ab 29 28,Dd 30 27 29] [1,2,5,6,30])<|Co 30 (Rq [Ae 4 5] [4]<|.ret)<|Sk [1,2,5,6])<|Re [Aa 20 6,Am 21 20 1,Aa 6 21] [1,2,5,6])<|Rq [Ac 31 2 0,Ab 32 31,Ag 33 32,Ci 34 33 1,Aa 7 34] [5,7]<|Sq (Rq [Ac 35 5 1,Ab 36 35,Aa 37 7,Dp 38 186 36 0 37,Az 39 38,Aa 40 39,Av 41 5 2 40,Ap 42 41 40,Ba 43 7 40,Hc 44 186 42 0 43 40,Br 45 44 40,Au 46 40 45,Aa 47 46,Av 48 5 3 47,Ap 49 48 47,Av 50 5 4 47,Ap 51 50 47,Dm 52 189 49 51 47,Br 53 52 47,Au 54 47 53,Aa 55 54,Av 56 5 5 55,Ap 57 56 55,Av 58 5 6 55,Ap 59 58 55,Dm 60 189 57 59 55,Br 61 60 55,Au 62 55 61] [62]<|Co 62 (Rq [Ae 4 6] [4]<|.ret)<|Sk [])<|Rq [Ae 4 0] [4]<|.ret) [.tmp 4]:=by decide +kernel
instance qL (t:AD) (i_1:Int):Ct prog (LV t i_1) 134 [At t,eI i_1] (fun r=>.sh (eI r)):=Fi ib fun r h hw hR=>by
  unfold LV at h
  have:HA 0 6 1 0 fun (i0:Int) (_:Unit)=>[(6,.tv (eI i0))]:=⟨⟩
  exact au
theorem oo:CK f92 (Rq [Af 1 0,Ck 2,Ae 3 0] [1]<|Sq (Rq [Ac 8 1 0,Ab 9 8,Ag 10 9,Bb 11 10 0] [1,11]<|Co 11 (Rq [Ck 2,Ae 3 7] [2,3]<|.ret)<|Sk [1])<|Sq (Rq [Ac 12 1 0,Ab 13 12,Ag 14 13,Bj 15 14 12,Aa 16 15,Av 17 1 1 16,Ap 18 17 16,Bg 19 18 16,Bz 20 19 20 16,Au 21 16 20] [1,21]<|Co 21 (Rq [Ck 2,Ae 3 3] [2,3]<|.ret)<|Sk [1])<|Sq (Rq [Ae 4 0] [1,4]<|Bl 0<|Lo [1,4]<|Sq (Rq [Aa 22 4,Ac 23 1 0,Ab 24 23,Ag 25 24,Al 26 22 25] [1,4,26]<|Co 26 (Sk [1,4])<|Ex 0 [1])<|Sq (Bl 1<|Rq [Ad 29 1 2,Aa 30 4,Aq 31 133 29 30,Aa 5 31] [1,4,5]<|Rq [Aa 32 5,Ax 33 32 0] [1,4,5,33]<|Co 33 (Rq [Ac 34 1 0,Ab 35 34,Aa 36 4,Ai 37 35 36 4,Ah 38 37 0,Ab 39 38,Aa 40 5,Aa 2 39,Aa 3 40] [2,3]<|.ret)<|Sk [1,4])<|Re [Aa 27 4,Am 28 27 1,Aa 4 28] [1,4])<|Sq (Rq [Ae 6 0] [1,6]<|Bl 2<|Lo [1,6]<|Sq (Rq [Aa 41 6,Ac 42 1 1,Ab 43 42,Ag 44 43,Al 45 41 44] [1,6,45]<|Co 45 (Sk [1,6])<|Ex 2 [])<|Sq (Bl 3<|Rq [Ad 48 1 2,Aa 49 6,Aq 50 134 48 49,Aa 7 50] [1,6,7]<|Rq [Aa 51 7,Ax 52 51 0] [1,6,7,52]<|Co 52 (Rq [Ac 53 1 1,Ab 54 53,Aa 55 6,Ai 56 54 55 7,Ah 57 56 0,Ab 58 57,Aa 59 7,Aa 2 58,Aa 3 59] [2,3]<|.ret)<|Sk [1,6])<|Re [Aa 46 6,Am 47 46 1,Aa 6 47] [1,6])<|Rq [Ck 2,Ae 3 0] [2,3]<|.ret) [.tmp 2,.tmp 3]:=by decide +kernel
instance uA (t:AD):Ct prog (Ij t) 92 [At t] (fun r=>.tp [eS r.1,eI r.2]):=Fi oo fun r h hw hR=>by
  unfold Ij at h
  have:HA 0 4 1 0 fun (i0:Int) (_:Unit)=>[(4,.tv (eI i0))]:=⟨⟩
  have:HA 2 6 1 1 fun (i2:Int) (_:Unit)=>[(6,.tv (eI i2))]:=⟨⟩
  exact au
theorem ot:CK f93 (Rq [Af 2 0,Af 3 1,Aj 4] [2,3]<|Sq (Rq [Ae 5 0] [2,3,5]<|Bl 0<|Lo [2,3,5]<|Sq (Rq [Aa 7 5,Ac 8 3 0,Ab 9 8,Ag 10 9,Al 11 7 10] [2,3,5,11]<|Co 11 (Sk [2,3,5])<|Ex 0 [2,3])<|Sq (Bl 1<|Sq (Dr [14,15,16,17,18,19,20,21,22,23,24,25,26,27,28,29,30] [Ac 14 3 0,Ab 15 14,Aa 16 5,Ai 17 15 16 1,Ab 18 17,Bs 19 18 0,Aa 20 19,Av 21 3 0 20,Ap 22 21 20,Ba 23 5 20,Ch 24 22 23 1 20,Ap 25 24 20,Av 26 2 0 20,Ap 27 26 20,Bg 28 27 20,Bw 29 25 28 20,Au 30 20 29] [2,3,5,30])<|Co 30 (Rq [Aj 4] [4]<|.ret)<|Sk [2,3,5])<|Re [Aa 12 5,Am 13 12 1,Aa 5 13] [2,3,5])<|Sq (Rq [Ae 6 0] [2,3,6]<|Bl 2<|Lo [2,3,6]<|Sq (Rq [Aa 31 6,Ac 32 3 1,Ab 33 32,Ag 34 33,Al 35 31 34] [2,3,6,35]<|Co 35 (Sk [2,3,6])<|Ex 2 [])<|Sq (Bl 3<|Sq (Dr [38,39,40,41,42,43,44,45,46,47,48,49,50,51,52,53,54,55,56] [Ac 38 3 1,Ab 39 38,Aa 40 6,Ai 41 39 40 3,Ah 42 41 0,Ab 43 42,Bs 44 43 0,Aa 45 44,Av 46 3 1 45,Ap 47 46 45,Ba 48 6 45,Ch 49 47 48 3 45,Bu 50 49 0 45,Ap 51 50 45,Av 52 2 1 45,Ap 53 52 45,Bg 54 53 45,Bw 55 51 54 45,Au 56 45 55] [2,3,6,56])<|Co 56 (Rq [Aj 4] [4]<|.ret)<|Sk [2,3,6])<|Re [Aa 36 6,Am 37 36 1,Aa 6 37] [2,3,6])<|Rq [Bx 4] [4]<|.ret) [.tmp 4]:=by decide +kernel
instance uB (t:AD) (g:Graph):Ct prog (Ik t g) 93 [At t,DN g] (fun r=>.sh (eB r)):=Fi ot fun r h hw hR=>by
  unfold Ik at h
  have:HA 0 5 3 0 fun (i0:Int) (_:Unit)=>[(5,.tv (eI i0))]:=⟨⟩
  have:HA 2 6 3 1 fun (i2:Int) (_:Unit)=>[(6,.tv (eI i2))]:=⟨⟩
  exact au
theorem jv:CK f217 (Rq [Af 3 0,Ae 6 0] [1,2,3]<|Sq (Rq [Ad 10 3 2,Ay 11 92 10,Aa 9 11,An 12 9 0,An 13 9 1,Aa 7 12,Aa 8 13] [1,2,3,8]<|Rq [Aa 14 8,Ax 15 14 0] [1,2,3,8,15]<|Co 15 (Rq [Aa 16 8,Aa 6 16] [6]<|.ret)<|Sk [1,2,3])<|Sq (Rq [Aa 17 1,Ac 18 3 0,Ab 19 18,Ag 20 19,Ci 21 20 1,Dp 22 186 17 0 21,Az 23 22,Aa 24 23,Ba 25 2 24,Av 26 3 0 24,Ap 27 26 24,Bg 28 27 24,Fr 29 28 1 24,Hc 30 186 25 0 29 24,Br 31 30 24,Au 32 24 31] [32]<|Co 32 (Rq [Ae 6 6] [6]<|.ret)<|Sk [])<|Rq [Ae 6 0] [6]<|.ret) [.tmp 6]:=by decide +kernel
instance rT (t:AD) (a:Int) (b:Int):Ct prog (Kc t a b) 217 [At t,eI a,eI b] (fun r=>.sh (eI r)):=Fi jv fun r h hw hR=>by
  unfold Kc at h
  exact au
theorem jm:CK f209 (Rq [Af 2 0,Aw 4 4,Ae 5 0] [1,2]<|Sq (Rq [Ad 11 2 2,Aa 12 1,Aa 13 1,Bf 14 217 11 12 13,Aa 6 14] [1,2,6]<|Rq [Aa 15 6,Ax 16 15 0] [1,2,6,16]<|Co 16 (Rq [Aa 17 6,Aw 4 4,Aa 5 17] [4,5]<|.ret)<|Sk [1,2])<|Rq [Aw 7 4] [1,2,7]<|Rq [Ad 18 2 2,Aa 19 1,Aq 20 187 18 19,Ak 8 20] [7,8]<|Sq (Rq [Ae 9 0] [7,8,9]<|Bl 0<|Lo [7,8,9]<|Sq (Rq [Aa 21 9,Aa 22 8,Ag 23 22,Al 24 21 23] [7,8,9,24]<|Co 24 (Sk [7,8,9])<|Ex 0 [7])<|Sq (Bl 1<|Rq [Aa 27 8,Aa 28 9,Ai 29 27 28 4,Ad 30 29 4,Dn 10 0 0 1,Ao 4 10 30] [7,8,9,10]<|Rq [Eq 31 1,Ac 32 10 3,Ab 33 32,Bm 34 1 31 33,Ac 35 10 3,Ef 1 35 34] [7,8,9,10]<|Re [Ak 36 7,Ad 37 10 4,Bi 38 4 37,Bm 39 4 36 38,Ak 7 39] [7,8,9])<|Re [Aa 25 9,Am 26 25 1,Aa 9 26] [7,8,9])<|Rq [Ak 40 7,Ak 4 40,Ae 5 0] [4,5]<|.ret) [.tmp 4,.tmp 5]:=by decide +kernel
instance rL (t:AD) (a:Int):Ct prog (Kb t a) 209 [At t,eI a] (fun r=>.tp [lA r.1,eI r.2]):=Fi jm fun r h hw hR=>by
  unfold Kb at h
  have:HA 0 9 8 0 fun (i0:Int) (s0:List Attr)=>[(7,.ow (lA s0)),(9,.tv (eI i0))]:=⟨⟩
  exact au
theorem iv:CK f153 (Rq [Af 4 0,Af 5 1,Dn 8 0 0 1,Aj 9] [2,3,4,5,8]<|Sq (Rq [Aa 12 2,Bs 13 12 0,Aa 14 13,Ba 15 2 14,Av 16 5 0 14,Bu 17 16 0 14,Ap 18 17 14,Bg 19 18 14,Bw 20 15 19 14,Au 21 14 20] [2,3,4,5,8,21]<|Co 21 (Rq [Et 22 0 0 1,Ao 4 8 22,Aj 9] [8,9]<|.ret)<|Sk [2,3,4,5,8])<|Sq (Dr [10,11,23,24,25,26,27,28,29,30,31,32,33] [Ad 24 4 2,Ac 25 5 0,Ah 26 25 0,Ab 27 26,Aa 28 2,Ai 29 27 28 1,Ab 30 29,Aq 31 209 24 30,Aa 23 31,An 32 23 0,An 33 23 1,Ak 10 32,Aa 11 33] [3,8,10,11])<|Sq (Rq [Aa 34 11,Ax 35 34 0,Aa 36 35,Ba 37 3 36,Gm 38 37 0 36,Au 39 36 38,Aa 40 39,Ba 41 3 40,Ba 42 10 40,Bg 43 42 40,Bw 44 41 43 40,Au 45 40 44] [3,8,10,45]<|Co 45 (Rq [Et 46 0 0 1,Ao 4 8 46,Aj 9] [8,9]<|.ret)<|Sk [3,8,10])<|Rq [Aa 47 10,Aa 48 3,Ai 49 47 48 4,Ad 50 49 4,Ao 4 8 50,Bx 9] [8,9]<|.ret) [.cell 8 (some 4),.tmp 9]:=by decide +kernel
instance qX (t:AD) (p:Pattern) (node:Int) (index:Int):Ct prog (LY t p node index) 153 [At t,B1 p,eI node,eI index] (fun r=>.tp [Hk r.1,eB r.2]):=Fi iv fun r h hw hR=>by
  unfold LY at h
  exact au
theorem iw:CK f154 (Rq [Aj 2] [0]<|Rq [Aa 3 0,⟨some 4,.bin (.i) .geq (.s 3) (.c (.int .i64 (-1000000))),none⟩,Aa 5 4,Ar 6 0 5,Cd 7 6 1000000 5,As 8 5 7,Aa 2 8] [2]<|.ret) [.tmp 2]:=by decide +kernel
instance qY (n:Int):Ct prog (Kq n) 154 [eI n] (fun r=>.sh (eB r)):=Fi iw fun r h hw hR=>by
  unfold Kq at h
  exact au
theorem kP:CK f264 (Rq [Af 3 1,Ae 4 0] [0,3]<|Sq (Rq [Ac 5 3 0,Ab 6 5,Fk 7 6 (-1),Aa 8 7,Av 9 3 0 8,Ap 10 9 8,Ba 11 0 8,Bw 12 10 11 8,Au 13 8 12,Aa 14 13,Av 15 3 1 14,Ap 16 15 14,Hd 17 16 (-1000000) 14,Au 18 14 17,Aa 19 18,Av 20 3 1 19,Ap 21 20 19,Bz 22 21 1000000 19,Au 23 19 22] [23]<|Co 23 (Rq [Ae 4 6] [4]<|.ret)<|Sk [])<|Rq [Ae 4 0] [4]<|.ret) [.tmp 4]:=by decide +kernel
instance rt (n:Int) (t:Term):Ct prog (I4 n t) 264 [eI n,Ps t] (fun r=>.sh (eI r)):=Fi kP fun r h hw hR=>by
  unfold I4 at h
  exact au
theorem jn:CK f210 (Rq [Af 3 1,Ae 4 0] [0,3]<|Sq (Rq [Ac 6 3 0,Ab 7 6,Ax 8 7 1,Aa 9 8,Bc 10 3 0 9,Be 11 10 9,Fq 12 11 2 9,As 13 9 12] [0,3,13]<|Co 13 (Rq [Ae 4 1] [4]<|.ret)<|Sk [0,3])<|Sq (Rq [Aa 14 0,Ac 15 3 1,Ad 16 15 2,Aq 17 264 14 16,Aa 5 17] [0,3,5]<|Rq [Aa 18 5,Ax 19 18 0] [0,3,5,19]<|Co 19 (Rq [Aa 20 5,Aa 4 20] [4]<|.ret)<|Sk [0,3])<|Rq [Aa 21 0,Ac 22 3 3,Ad 23 22 2,Aq 24 264 21 23,Aa 4 24] [4]<|.ret) [.tmp 4]:=by decide +kernel
instance rM (n:Int) (x_1:Test):Ct prog (MO n x_1) 210 [eI n,LM x_1] (fun r=>.sh (eI r)):=Fi jn fun r h hw hR=>by
  unfold MO at h
  exact au
theorem iy:CK f155 (Rq [Ae 4 0] [0,1]<|Sq (Rq [Aa 7 0,Bs 8 7 0,Aa 9 8,Ba 10 0 9,Bz 11 10 12 9,Au 12 9 11] [0,1,12]<|Co 12 (Rq [Ae 4 6] [4]<|.ret)<|Sk [0,1])<|Sq (Rq [Aa 13 1,Ag 14 13,Bj 15 14 40] [0,1,15]<|Co 15 (Rq [Ae 4 3] [4]<|.ret)<|Sk [0,1])<|Sq (Rq [Ae 5 0] [0,1,5]<|Bl 0<|Lo [0,1,5]<|Sq (Rq [Aa 16 5,Aa 17 1,Ag 18 17,Al 19 16 18] [0,1,5,19]<|Co 19 (Sk [0,1,5])<|Ex 0 [])<|Sq (Bl 1<|Rq [Aa 22 0,Aa 23 1,Aa 24 5,Ai 25 23 24 5,Ad 26 25 5,Aq 27 210 22 26,Aa 6 27] [0,1,5,6]<|Rq [Aa 28 6,Ax 29 28 0] [0,1,5,6,29]<|Co 29 (Rq [Aa 30 6,Aa 4 30] [4]<|.ret)<|Sk [0,1,5])<|Re [Aa 20 5,Am 21 20 1,Aa 5 21] [0,1,5])<|Rq [Ae 4 0] [4]<|.ret) [.tmp 4]:=by decide +kernel
instance qZ (n:Int) (l:List Test):Ct prog (Ka n l) 155 [eI n,lT l] (fun r=>.sh (eI r)):=Fi iy fun r h hw hR=>by
  unfold Ka at h
  have:HA 0 5 1 0 fun (i0:Int) (_:Unit)=>[(5,.tv (eI i0))]:=⟨⟩
  exact au
theorem iz:CK f156 (Rq [Af 2 0,Aj 4] [1,2]<|Sq (Rq [Ae 5 0] [1,2,5]<|Bl 0<|Lo [1,2,5]<|Sq (Rq [Aa 6 5,Ac 7 2 2,Ab 8 7,Ag 9 8,Al 10 6 9] [1,2,5,10]<|Co 10 (Sk [1,2,5])<|Ex 0 [])<|Sq (Bl 1<|Rq [Ac 13 2 2,Ab 14 13,Aa 15 5,Ai 16 14 15 4,Ah 17 16 2,Ah 18 17 0,Ab 19 18,Aa 20 1,Dc 21 19 20] [1,2,5,21]<|Co 21 (Rq [Bx 4] [4]<|.ret)<|Sk [1,2,5])<|Re [Aa 11 5,Am 12 11 1,Aa 5 12] [1,2,5])<|Rq [Aj 4] [4]<|.ret) [.tmp 4]:=by decide +kernel
instance qa (p:Pattern) (v_1:Int):Ct prog (J6 p v_1) 156 [B1 p,eI v_1] (fun r=>.sh (eB r)):=Fi iz fun r h hw hR=>by
  unfold J6 at h
  have:HA 0 5 2 2 fun (i0:Int) (_:Unit)=>[(5,.tv (eI i0))]:=⟨⟩
  exact au
theorem iF:CK f105 (Rq [Af 2 0,Af 3 1,Ae 4 0] [2,3]<|Sq (Rq [Ad 15 2 2,Ay 16 92 15,Aa 14 16,An 17 14 0,An 18 14 1,Aa 5 17,Aa 6 18] [2,3,6]<|Rq [Aa 19 6,Ax 20 19 0] [2,3,6,20]<|Co 20 (Rq [Aa 21 6,Aa 4 21] [4]<|.ret)<|Sk [2,3])<|Sq (Rq [Ac 22 3 0,Ad 23 22 2,Ay 24 85 23,Aa 7 24] [2,3,7]<|Rq [Aa 25 7,Ax 26 25 0] [2,3,7,26]<|Co 26 (Rq [Aa 27 7,Aa 4 27] [4]<|.ret)<|Sk [2,3])<|Sq (Rq [Ad 28 2 2,Ac 29 3 0,Ad 30 29 2,Aq 31 93 28 30,Az 32 31] [2,3,32]<|Co 32 (Rq [Ae 4 13] [4]<|.ret)<|Sk [2,3])<|Sq (Rq [Ac 33 3 3,Ab 34 33,Bs 35 34 0,Aa 36 35,Av 37 3 3 36,Ap 38 37 36,Bz 39 38 12 36,Au 40 36 39] [2,3,40]<|Co 40 (Rq [Ae 4 6] [4]<|.ret)<|Sk [2,3])<|Sq (Rq [Ac 41 3 2,Ab 42 41,Ag 43 42,Bj 44 43 10,Aa 45 44,Av 46 3 4 45,Ap 47 46 45,Bg 48 47 45,Bz 49 48 10 45,Au 50 45 49] [2,3,50]<|Co 50 (Rq [Ae 4 3] [4]<|.ret)<|Sk [2,3])<|Sq (Rq [Ae 8 0] [2,3,8]<|Bl 0<|Lo [2,3,8]<|Sq (Rq [Aa 51 8,Ac 52 3 2,Ab 53 52,Ag 54 53,Al 55 51 54] [2,3,8,55]<|Co 55 (Sk [2,3,8])<|Ex 0 [3])<|Sq (Bl 1<|Rq [Ac 58 3 2,Ab 59 58,Aa 60 8,Ai 61 59 60 4,Ad 62 61 4,Ec 9 0 0 0 0,Ao 4 9 62] [2,3,8,9]<|Rq [Ad 64 2 2,Ad 65 3 5,Ac 66 9 0,Ab 67 66,Ac 68 9 1,Ab 69 68,Do 70 153 64 65 67 69,Aa 63 70,An 71 63 0,An 72 63 1,Dn 10 0 0 1,Ao 4 10 71,Aa 11 72] [2,3,8,9,11]<|Rq [Aa 73 11,Az 74 73,Aa 75 74,Av 76 9 2 75,Bu 77 76 0 75,Ap 78 77 75,Hd 79 78 (-1) 75,Au 80 75 79,Aa 81 80,Av 82 9 2 81,Bu 83 82 0 81,Ap 84 83 81,Av 85 3 3 81,Ap 86 85 81,Bw 87 84 86 81,Au 88 81 87,Aa 89 88,Av 90 9 2 89,Bu 91 90 1 89,Ap 92 91 89,Dt 93 154 92 89,Br 94 93 89,Au 95 89 94] [2,3,8,95]<|Co 95 (Rq [Ae 4 6] [4]<|.ret)<|Sk [2,3,8])<|Re [Aa 56 8,Am 57 56 1,Aa 8 57] [2,3,8])<|Sq (Rq [Ac 96 3 3,Ab 97 96,Ac 98 3 4,Ab 99 98,Aq 100 155 97 99,Aa 12 100] [3,12]<|Rq [Aa 101 12,Ax 102 101 0] [3,12,102]<|Co 102 (Rq [Aa 103 12,Aa 4 103] [4]<|.ret)<|Sk [3])<|Sq (Rq [Ae 13 0] [3,13]<|Bl 2<|Lo [3,13]<|Sq (Rq [Aa 104 13,Ac 105 3 3,Ab 106 105,Al 107 104 106] [3,13,107]<|Co 107 (Sk [3,13])<|Ex 2 [])<|Sq (Bl 3<|Rq [Ad 110 3 5,Aa 111 13,Aq 112 156 110 111,Az 113 112] [3,13,113]<|Co 113 (Rq [Ae 4 9] [4]<|.ret)<|Sk [3,13])<|Re [Aa 108 13,Am 109 108 1,Aa 13 109] [3,13])<|Rq [Ae 4 0] [4]<|.ret) [.tmp 4]:=by decide +kernel
instance pv (t:AD) (p:Pattern):Ct prog (Jg t p) 105 [At t,B1 p] (fun r=>.sh (eI r)):=Fi iF fun r h hw hR=>by
  unfold Jg at h
  have:HA 0 8 3 2 fun (i0:Int) (_:Unit)=>[(8,.tv (eI i0))]:=⟨⟩
  have:HA 2 13 3 3 fun (i2:Int) (_:Unit)=>[(13,.tv (eI i2))]:=⟨⟩
  exact au
theorem kQ:CK f265 (Rq [Af 1 0,Aj 2] [1]<|Rq [Ac 4 1 2,Ah 5 4 0,Ab 6 5,Ag 7 6,Ac 8 1 2,Ah 9 8 1,Ab 10 9,Ag 11 10,Bo 12 7 11,Ac 13 1 4,Ah 14 13 0,Ah 15 14 0,Ab 16 15,Ag 17 16,Bo 18 12 17,Ac 19 1 4,Ah 20 19 0,Ah 21 20 1,Ab 22 21,Ag 23 22,Bo 24 18 23,Bb 25 24 0,Aa 3 25] [1,3]<|Rq [Aa 26 3,Aa 27 26,Bc 28 1 4 27,Ca 29 28 2 27,Be 30 29 27,Bv 31 30 27,Bc 32 1 4 27,Ca 33 32 4 27,Be 34 33 27,Bv 35 34 27,Ej 36 31 35 27,Cz 37 36 0 27,As 38 27 37,Aa 39 38,Bc 40 1 4 39,Ca 41 40 3 39,Be 42 41 39,Cz 43 42 0 39,As 44 39 43,Aa 2 44] [2]<|.ret) [.tmp 2]:=by decide +kernel
instance ru (c:AA):Ct prog (H6 c) 265 [AF c] (fun r=>.sh (eB r)):=Fi kQ fun r h hw hR=>by
  unfold H6 at h
  exact au
theorem jo:CK f211 (Rq [Af 1 0,Aj 2] [1]<|Sq (Rq [Ac 3 1 0,Ab 4 3] [1,4]<|Bl 0<|Rq [Bb 6 4 1,Aa 5 6] [1,4,5]<|Co 5 (Rq [Ac 7 1 1,Ab 8 7,Ag 9 8,Bb 10 9 0,Aa 11 10,Bh 12 1 9 11,Cc 13 265 12 11,As 14 11 13,Aa 2 14] [2]<|.ret)<|Rq [Bb 16 4 2,Aa 15 16] [1,4,15]<|Co 15 (Rq [Ac 17 1 1,Ab 18 17,Ag 19 18,Bb 20 19 1,Aa 21 20,Bh 22 1 9 21,Cc 23 265 22 21,As 24 21 23,Aa 2 24] [2]<|.ret)<|Sq (Rq [Bb 26 4 3,Aa 25 26] [1,4,25]<|Co 25 (Sk [1,4,25])<|Re [Bb 27 4 4,Aa 25 27] [1,4,25])<|Co 25 (Rq [Ac 28 1 1,Ab 29 28,Ag 30 29,Bj 31 30 0,Aa 32 31,Bh 33 1 9 32,Cc 34 265 33 32,As 35 32 34,Aa 2 35] [2]<|.ret)<|Rq [Bb 37 4 5,Aa 36 37] [1,36]<|Co 36 (Rq [Ac 38 1 1,Ab 39 38,Ag 40 39,Bb 41 40 1,Aa 2 41] [2]<|.ret)<|Sk [])<|Rq [Aj 2] [2]<|.ret) [.tmp 2]:=by decide +kernel
instance rN (c:AA):Ct prog (Kk c) 211 [AF c] (fun r=>.sh (eB r)):=Fi jo fun r h hw hR=>by
  unfold Kk at h
  have:HJ 25 fun (w1:Bool)=>[(25,.tv (eB w1))]:=⟨⟩
  exact au
theorem i7:CK f157 (Rq [Af 1 0,Aj 2] [1]<|Sq (Rq [Ad 4 1 9,Ay 5 211 4,Az 6 5] [1,6]<|Co 6 (Rq [Aj 2] [2]<|.ret)<|Sk [1])<|Sq (Rq [Ae 3 0] [1,3]<|Bl 0<|Lo [1,3]<|Sq (Rq [Aa 7 3,Ac 8 1 1,Ab 9 8,Ag 10 9,Al 11 7 10] [1,3,11]<|Co 11 (Sk [1,3])<|Ex 0 [])<|Sq (Bl 1<|Rq [Ac 14 1 1,Ab 15 14,Aa 16 3,Ai 17 15 16 9,Ad 18 17 9,Ay 19 157 18,Az 20 19] [1,3,20]<|Co 20 (Rq [Aj 2] [2]<|.ret)<|Sk [1,3])<|Re [Aa 12 3,Am 13 12 1,Aa 3 13] [1,3])<|Rq [Bx 2] [2]<|.ret) [.tmp 2]:=by decide +kernel
theorem gv (n:Nat) (_ih_157:∀ (c:AA),Ct prog (FI n c) 157 [AF c] (fun r=>.sh (eB r))) (c:AA):Ct prog (FI (n+1) c) 157 [AF c] (fun r=>.sh (eB r)):=Fi i7 fun r h hw hR=>by
  unfold FI at h
  have:HA 0 3 1 1 fun (i0:Int) (_:Unit)=>[(3,.tv (eI i0))]:=⟨⟩
  exact au
theorem gu:∀ n:Nat,(∀ (c:AA),Ct prog (FI n c) 157 [AF c] (fun r=>.sh (eB r))):=by
  intro n
  induction n with
  | zero=>exact (fun c=>⟨fun _ h=>by cases h⟩)
  | succ n ih=>exact gv n ih
instance qc (c:AA):Ct prog (L5 c) 157 [AF c] (fun r=>.sh (eB r)):=⟨fun r h=>by
  obtain ⟨N,hN⟩:=CO h
  exact ((gu N) c).snd r (hN N (Nat.le_refl _))⟩
theorem jA:CK f158 (Rq [Af 1 0,Ae 2 0,Ae 3 0] [1]<|Rq [Ae 4 1,Ae 5 0] [1,4,5]<|Sq (Rq [Ae 6 0] [1,4,5,6]<|Bl 0<|Lo [1,4,5,6]<|Sq (Rq [Aa 9 6,Ac 10 1 1,Ab 11 10,Ag 12 11,Al 13 9 12] [1,4,5,6,13]<|Co 13 (Sk [1,4,5,6])<|Ex 0 [1,4,5])<|Sq (Bl 1<|Rq [Ac 17 1 1,Ab 18 17,Aa 19 6,Ai 20 18 19 9,Ad 21 20 9,Ay 22 158 21,Aa 16 22,An 23 16 0,An 24 16 1,Aa 7 23,Aa 8 24] [1,4,5,6,7,8]<|Re [Aa 25 4,Aa 26 7,Bo 27 25 26,Aa 28 5,Aa 29 8,Fs 30 28 29,Aa 4 27,Aa 5 30] [1,4,5,6])<|Re [Aa 14 6,Am 15 14 1,Aa 6 15] [1,4,5,6])<|Sq (Rq [Ac 31 1 0,Ab 32 31,Bb 33 32 5] [4,5,33]<|Co 33 (Re [Aa 34 5,Am 35 34 1,Aa 5 35] [4,5])<|Sk [4,5])<|Rq [Aa 36 4,Aa 37 5,Aa 2 36,Aa 3 37] [2,3]<|.ret) [.tmp 2,.tmp 3]:=by decide +kernel
theorem gx (n:Nat) (_ih_158:∀ (c:AA),Ct prog (F9 n c) 158 [AF c] (fun r=>.tp [eI r.1,eI r.2])) (c:AA):Ct prog (F9 (n+1) c) 158 [AF c] (fun r=>.tp [eI r.1,eI r.2]):=Fi jA fun r h hw hR=>by
  unfold F9 at h
  have:HA 0 6 1 1 fun (i0:Int) (s0:Int × Int)=>[(4,.tv (eI s0.1)),(5,.tv (eI s0.2)),(6,.tv (eI i0))]:=⟨⟩
  have:HJ 33 fun (w1:Int)=>[(5,.tv (eI w1))]:=⟨⟩
  exact au
theorem gw:∀ n:Nat,(∀ (c:AA),Ct prog (F9 n c) 158 [AF c] (fun r=>.tp [eI r.1,eI r.2])):=by
  intro n
  induction n with
  | zero=>exact (fun c=>⟨fun _ h=>by cases h⟩)
  | succ n ih=>exact gx n ih
instance qe (c:AA):Ct prog (Me c) 158 [AF c] (fun r=>.tp [eI r.1,eI r.2]):=⟨fun r h=>by
  obtain ⟨N,hN⟩:=CO h
  exact ((gw N) c).snd r (hN N (Nat.le_refl _))⟩
theorem iG:CK f106 (Rq [Af 1 0,Ae 2 0] [1]<|Sq (Rq [Ad 5 1 9,Ay 6 157 5,Az 7 6] [1,7]<|Co 7 (Rq [Ae 2 1] [2]<|.ret)<|Sk [1])<|Sq (Rq [Ad 9 1 9,Ay 10 158 9,Aa 8 10,An 11 8 0,An 12 8 1,Aa 3 11,Aa 4 12] [3,4]<|Rq [Aa 13 3,Bj 14 13 12,Aa 15 14,Ba 16 4 15,Bz 17 16 3 15,Au 18 15 17] [18]<|Co 18 (Rq [Ae 2 3] [2]<|.ret)<|Sk [])<|Rq [Ae 2 0] [2]<|.ret) [.tmp 2]:=by decide +kernel
instance pw (c:AA):Ct prog (Kh c) 106 [AF c] (fun r=>.sh (eI r)):=Fi iG fun r h hw hR=>by
  unfold Kh at h
  exact au
theorem jp:CK f212 (Rq [Af 2 0,Aj 4] [1,2]<|Sq (Rq [Ae 5 0] [1,2,5]<|Bl 0<|Lo [1,2,5]<|Sq (Rq [Aa 6 5,Ac 7 2 2,Ab 8 7,Ag 9 8,Al 10 6 9] [1,2,5,10]<|Co 10 (Sk [1,2,5])<|Ex 0 [])<|Sq (Bl 1<|Rq [Ac 13 2 2,Ab 14 13,Aa 15 5,Ai 16 14 15 4,Ah 17 16 2,Ah 18 17 0,Ab 19 18,Aa 20 1,Dc 21 19 20] [1,2,5,21]<|Co 21 (Rq [Bx 4] [4]<|.ret)<|Sk [1,2,5])<|Re [Aa 11 5,Am 12 11 1,Aa 5 12] [1,2,5])<|Rq [Aj 4] [4]<|.ret) [.tmp 4]:=by decide +kernel
instance rO (p:Pattern) (v_1:Int):Ct prog (LZ p v_1) 212 [B1 p,eI v_1] (fun r=>.sh (eB r)):=Fi jp fun r h hw hR=>by
  unfold LZ at h
  have:HA 0 5 2 2 fun (i0:Int) (_:Unit)=>[(5,.tv (eI i0))]:=⟨⟩
  exact au
theorem jB:CK f159 (Rq [Af 3 0,Af 5 2,Ae 6 0] [1,3,5]<|Sq (Rq [Ac 9 5 3,Ab 10 9,Aa 11 1,Al 12 10 11] [1,3,5,12]<|Co 12 (Rq [Ae 6 20] [6]<|.ret)<|Sk [1,3,5])<|Rq [Ad 13 3 2,Ad 14 5 5,Aq 15 105 13 14,Aa 7 15] [1,5,7]<|Sq (Rq [Aa 16 7,Ax 17 16 9] [1,5,7,17]<|Co 17 (Rq [Aa 18 7,Aa 6 18] [6]<|.ret)<|Sk [1,5,7])<|Sq (Rq [Aa 19 1,Aa 8 19] [5,7,8]<|Bl 0<|Lo [5,7,8]<|Sq (Rq [Aa 20 8,Ac 21 5 3,Ab 22 21,Al 23 20 22] [5,7,8,23]<|Co 23 (Sk [5,7,8])<|Ex 0 [])<|Sq (Bl 1<|Rq [Ad 26 5 5,Aa 27 8,Aq 28 212 26 27,Az 29 28] [5,7,8,29]<|Co 29 (Rq [Aa 30 7,Aa 6 30] [6]<|.ret)<|Sk [5,7,8])<|Re [Aa 24 8,Am 25 24 1,Aa 8 25] [5,7,8])<|Rq [Ae 6 0] [6]<|.ret) [.tmp 6]:=by decide +kernel
instance qf (t:AD) (vars:Int) (q:Pattern):Ct prog (Kj t vars q) 159 [At t,eI vars,B1 q] (fun r=>.sh (eI r)):=Fi jB fun r h hw hR=>by
  unfold Kj at h
  have:HA 0 8 5 3 fun (i0:Int) (_:Unit)=>[(8,.tv (eI i0))]:=⟨⟩
  exact au
theorem jC:CK f160 (Rq [Af 3 0,Af 4 1,Af 5 2,Ae 6 0] [3,4,5]<|Sq (Rq [Ad 13 3 2,Ay 14 85 13,Aa 7 14] [3,4,5,7]<|Rq [Aa 15 7,Ax 16 15 0] [3,4,5,7,16]<|Co 16 (Rq [Aa 17 7,Aa 6 17] [6]<|.ret)<|Sk [3,4,5])<|Sq (Rq [Ad 18 4 2,Ay 19 85 18,Aa 8 19] [3,4,5,8]<|Rq [Aa 20 8,Ax 21 20 0] [3,4,5,8,21]<|Co 21 (Rq [Aa 22 8,Aa 6 22] [6]<|.ret)<|Sk [3,4,5])<|Sq (Rq [Ac 23 5 0,Ab 24 23,Ag 25 24,Ac 26 3 0,Ab 27 26,Ag 28 27,Bp 29 25 28,Aa 30 29,Av 31 5 1 30,Ap 32 31 30,Bg 33 32 30,Av 34 3 1 30,Ap 35 34 30,Bg 36 35 30,Da 37 33 36 30,Au 38 30 37] [3,4,5,38]<|Co 38 (Rq [Ae 6 20] [6]<|.ret)<|Sk [3,4,5])<|Sq (Rq [Ae 9 0] [3,4,5,9]<|Bl 0<|Lo [3,4,5,9]<|Sq (Rq [Aa 39 9,Ac 40 3 0,Ab 41 40,Ag 42 41,Al 43 39 42] [3,4,5,9,43]<|Co 43 (Sk [3,4,5,9])<|Ex 0 [3,4,5])<|Sq (Bl 1<|Sq (Sq (Dr [46,47,48,49,50,51,52,53,54,55,56,57,58,59,60,61,62] [Ac 46 5 0,Ab 47 46,Aa 48 9,Ai 49 47 48 1,Ab 50 49,Bs 51 50 0,Aa 52 51,Av 53 5 0 52,Ap 54 53 52,Ba 55 9 52,Ch 56 54 55 1 52,Ap 57 56 52,Av 58 4 0 52,Ap 59 58 52,Bg 60 59 52,Bw 61 57 60 52,Au 62 52 61] [3,4,5,9,62])<|Co 62 (Rq [Ae 6 6] [6]<|.ret)<|Sk [3,4,5,9])<|Sq (Dr [63,64,65,66,67,68,69,70,71,72,73,74,75,76,77] [Ac 63 4 0,Ab 64 63,Ac 65 5 0,Ab 66 65,Aa 67 9,Ai 68 66 67 1,Ab 69 68,Ai 70 64 69 1,Ab 71 70,Ac 72 3 0,Ab 73 72,Aa 74 9,Ai 75 73 74 1,Ab 76 75,Bp 77 71 76] [3,4,5,9,77])<|Co 77 (Rq [Ae 6 13] [6]<|.ret)<|Sk [3,4,5,9])<|Re [Aa 44 9,Am 45 44 1,Aa 9 45] [3,4,5,9])<|Sq (Rq [Ae 10 0] [3,4,5,10]<|Bl 2<|Lo [3,4,5,10]<|Sq (Rq [Aa 78 10,Ac 79 3 1,Ab 80 79,Ag 81 80,Al 82 78 81] [3,4,5,10,82]<|Co 82 (Sk [3,4,5,10])<|Ex 2 [])<|Sq (Bl 3<|Sq (Sq (Dr [85,86,87,88,89,90,91,92,93,94,95,96,97,98,99,100,101] [Ac 85 5 1,Ab 86 85,Aa 87 10,Ai 88 86 87 1,Ab 89 88,Bs 90 89 0,Aa 91 90,Av 92 5 1 91,Ap 93 92 91,Ba 94 10 91,Ch 95 93 94 1 91,Ap 96 95 91,Av 97 4 1 91,Ap 98 97 91,Bg 99 98 91,Bw 100 96 99 91,Au 101 91 100] [3,4,5,10,101])<|Co 101 (Rq [Ae 6 6] [6]<|.ret)<|Sk [3,4,5,10])<|Sq (Dr [11,12,102,103,104,105,106,107,108,109,110,111,112,113,114,115] [Ac 102 3 1,Ab 103 102,Aa 104 10,Ai 105 103 104 3,Ad 106 105 3,Ac 107 4 1,Ab 108 107,Ac 109 5 1,Ab 110 109,Aa 111 10,Ai 112 110 111 1,Ab 113 112,Ai 114 108 113 3,Ad 115 114 3,Cs 11 0 0 0,Cs 12 0 0 0,Ao 3 11 106,Ao 3 12 115] [3,4,5,10,11,12])<|Sq (Rq [Ac 116 11 0,Ab 117 116,Ac 118 12 0,Ab 119 118,Bp 120 117 119] [3,4,5,10,11,12,120]<|Co 120 (Rq [Ae 6 13] [6]<|.ret)<|Sk [3,4,5,10,11,12])<|Sq (Dr [121,122,123,124,125,126,127,128,129,130,131,132,133,134,135,136,137,138,139,140] [Ac 121 5 0,Ab 122 121,Ac 123 11 1,Ab 124 123,Ai 125 122 124 1,Ab 126 125,Ac 127 12 1,Ab 128 127,Bp 129 126 128,Aa 130 129,Av 131 5 0 130,Ap 132 131 130,Av 133 11 2 130,Ap 134 133 130,Ch 135 132 134 1 130,Ap 136 135 130,Av 137 12 2 130,Ap 138 137 130,Da 139 136 138 130,Au 140 130 139] [3,4,5,10,140])<|Co 140 (Rq [Ae 6 11] [6]<|.ret)<|Sk [3,4,5,10])<|Re [Aa 83 10,Am 84 83 1,Aa 10 84] [3,4,5,10])<|Rq [Ae 6 0] [6]<|.ret) [.tmp 6]:=by decide +kernel
instance qh (a:Graph) (b:Graph) (m:Morphism):Ct prog (Jf a b m) 160 [DN a,DN b,C9 m] (fun r=>.sh (eI r)):=Fi jC fun r h hw hR=>by
  unfold Jf at h
  have:HA 0 9 3 0 fun (i0:Int) (_:Unit)=>[(9,.tv (eI i0))]:=⟨⟩
  have:HA 2 10 3 1 fun (i2:Int) (_:Unit)=>[(10,.tv (eI i2))]:=⟨⟩
  exact au
theorem jq:CK f213 (Rq [Aj 2] [0]<|Sq (Rq [Ae 3 0] [0,3]<|Bl 0<|Lo [0,3]<|Sq (Rq [Aa 5 3,Aa 6 0,Ag 7 6,Al 8 5 7] [0,3,8]<|Co 8 (Sk [0,3])<|Ex 0 [])<|Sq (Bl 1<|Rq [Ae 4 0] [0,3,4]<|Bl 2<|Lo [0,3,4]<|Sq (Rq [Aa 11 4,Aa 12 3,Al 13 11 12] [0,3,4,13]<|Co 13 (Sk [0,3,4])<|Ex 2 [0,3])<|Sq (Bl 3<|Sq (Dr [16,17,18,19,20,21,22,23,24] [Aa 16 0,Aa 17 3,Ai 18 16 17 1,Ab 19 18,Aa 20 0,Aa 21 4,Ai 22 20 21 1,Ab 23 22,Dc 24 19 23] [0,3,4,24])<|Co 24 (Rq [Aj 2] [2]<|.ret)<|Sk [0,3,4])<|Re [Aa 14 4,Am 15 14 1,Aa 4 15] [0,3,4])<|Re [Aa 9 3,Am 10 9 1,Aa 3 10] [0,3])<|Rq [Bx 2] [2]<|.ret) [.tmp 2]:=by decide +kernel
instance rP (l:List Int):Ct prog (H0 l) 213 [lI l] (fun r=>.sh (eB r)):=Fi jq fun r h hw hR=>by
  unfold H0 at h
  have:HA 0 3 0 0 fun (i0:Int) (_:Unit)=>[(3,.tv (eI i0))]:=⟨⟩
  have:HA 2 4 3 0 fun (i2:Int) (_:Unit)=>[(4,.tv (eI i2))]:=⟨⟩
  exact au
theorem jD:CK f161 (Rq [Af 3 0,Af 4 1,Af 5 2,Aj 6] [3,4,5]<|Rq [Ad 7 3 2,Ad 8 4 2,Ad 9 5 2,Bf 10 160 7 8 9,Bb 11 10 0,Aa 12 11,Bc 13 5 0 12,Be 14 13 12,Cc 15 213 14 12,As 16 12 15,Aa 17 16,Bc 18 5 1 17,Be 19 18 17,Cc 20 213 19 17,As 21 17 20,Aa 6 21] [6]<|.ret) [.tmp 6]:=by decide +kernel
instance qj (a:Graph) (b:Graph) (m:Morphism):Ct prog (IX a b m) 161 [DN a,DN b,C9 m] (fun r=>.sh (eB r)):=Fi jD fun r h hw hR=>by
  unfold IX at h
  exact au
theorem iH:CK f107 (Rq [Af 3 0,Af 4 1,Af 5 2,Ae 6 0] [3,4,5]<|Rq [Ad 12 4 5,Dx 7 1 3 4 0 5,Ao 5 7 12] [3,4,5,7]<|Sq (Rq [Ac 13 5 0,Ab 14 13,Bb 15 14 5] [3,4,5,7,15]<|Co 15 (Sq (Rq [Ad 16 3 2,Ac 17 4 3,Ab 18 17,Ac 19 5 4,Ad 20 19 5,Bf 21 159 16 18 20,Aa 8 21] [3,4,5,7,8]<|Rq [Aa 22 8,Ax 23 22 0] [3,4,5,7,8,23]<|Co 23 (Rq [Aa 24 8,Aa 6 24] [6]<|.ret)<|Sk [3,4,5,7])<|Sq (Rq [Ac 25 4 0,Ad 26 25 2,Ac 27 5 4,Ah 28 27 0,Ad 29 28 2,Ac 30 5 2,Ad 31 30 2,Bf 32 160 26 29 31,Aa 9 32] [3,4,5,7,9]<|Rq [Aa 33 9,Ax 34 33 0] [3,4,5,7,9,34]<|Co 34 (Rq [Aa 35 9,Aa 6 35] [6]<|.ret)<|Sk [3,4,5,7])<|Sq (Rq [Ac 36 4 0,Ad 37 36 2,Ac 38 5 4,Ah 39 38 0,Ad 40 39 2,Ac 41 5 2,Ad 42 41 2,Bf 43 161 37 40 42,Az 44 43] [3,5,7,44]<|Co 44 (Rq [Ae 6 1] [6]<|.ret)<|Sk [3,5,7])<|Re [Ac 45 5 4,Ad 46 45 5,Ao 5 7 46] [3,5,7])<|Sk [3,5,7])<|Sq (Rq [Ae 10 0] [3,5,7,10]<|Bl 0<|Lo [3,5,7,10]<|Sq (Rq [Aa 47 10,Ac 48 5 1,Ab 49 48,Ag 50 49,Al 51 47 50] [3,5,7,10,51]<|Co 51 (Sk [3,5,7,10])<|Ex 0 [])<|Sq (Bl 1<|Sq (Dr [11,54,55,56,57,58,59,60,61] [Ad 54 3 2,Ad 55 7 5,Ac 56 5 1,Ab 57 56,Aa 58 10,Ai 59 57 58 9,Ad 60 59 9,Bf 61 107 54 55 60,Aa 11 61] [3,5,7,10,11])<|Rq [Aa 62 11,Ax 63 62 0] [3,5,7,10,11,63]<|Co 63 (Rq [Aa 64 11,Aa 6 64] [6]<|.ret)<|Sk [3,5,7,10])<|Re [Aa 52 10,Am 53 52 1,Aa 10 53] [3,5,7,10])<|Rq [Ae 6 0] [6]<|.ret) [.tmp 6]:=by decide +kernel
theorem gi (n:Nat) (_ih_107:∀ (t:AD) (p:Pattern) (c:AA),Ct prog (GE n t p c) 107 [At t,B1 p,AF c] (fun r=>.sh (eI r))) (t:AD) (p:Pattern) (c:AA):Ct prog (GE (n+1) t p c) 107 [At t,B1 p,AF c] (fun r=>.sh (eI r)):=Fi iH fun r h hw hR=>by
  unfold GE at h
  have:HA 0 10 5 1 fun (i0:Int) (_:Unit)=>[(10,.tv (eI i0))]:=⟨⟩
  exact au
theorem gh:∀ n:Nat,(∀ (t:AD) (p:Pattern) (c:AA),Ct prog (GE n t p c) 107 [At t,B1 p,AF c] (fun r=>.sh (eI r))):=by
  intro n
  induction n with
  | zero=>exact (fun t p c=>⟨fun _ h=>by cases h⟩)
  | succ n ih=>exact gi n ih
instance px (t:AD) (p:Pattern) (c:AA):Ct prog (R1 t p c) 107 [At t,B1 p,AF c] (fun r=>.sh (eI r)):=⟨fun r h=>by
  obtain ⟨N,hN⟩:=CO h
  exact ((gh N) t p c).snd r (hN N (Nat.le_refl _))⟩
theorem oS:CK f57 (Rq [Af 3 0,Af 4 1,Af 5 2,Ae 6 0] [3,4,5]<|Sq (Rq [Ad 9 3 2,Ad 10 4 5,Aq 11 105 9 10,Aa 7 11] [3,4,5,7]<|Rq [Aa 12 7,Ax 13 12 0] [3,4,5,7,13]<|Co 13 (Rq [Aa 14 7,Aa 6 14] [6]<|.ret)<|Sk [3,4,5])<|Sq (Rq [Ad 15 5 9,Ay 16 106 15,Aa 8 16] [3,4,5,8]<|Rq [Aa 17 8,Ax 18 17 0] [3,4,5,8,18]<|Co 18 (Rq [Aa 19 8,Aa 6 19] [6]<|.ret)<|Sk [3,4,5])<|Rq [Ad 20 3 2,Ad 21 4 5,Ad 22 5 9,Bf 23 107 20 21 22,Aa 6 23] [6]<|.ret) [.tmp 6]:=by decide +kernel
instance ta (t:AD) (p:Pattern) (c:AA):Ct prog (Ki t p c) 57 [At t,B1 p,AF c] (fun r=>.sh (eI r)):=Fi oS fun r h hw hR=>by
  unfold Ki at h
  exact au
theorem oN:CK f48 (Rq [Af 3 0,Af 4 1,Af 5 2,Ae 6 0] [3,4,5]<|Sq (Rq [Ad 12 3 2,Ay 13 92 12,Aa 11 13,An 14 11 0,An 15 11 1,Aa 7 14,Aa 8 15] [3,4,5,8]<|Rq [Aa 16 8,Ax 17 16 0] [3,4,5,8,17]<|Co 17 (Rq [Aa 18 8,Aa 6 18] [6]<|.ret)<|Sk [3,4,5])<|Sq (Rq [Ad 19 4 2,Ay 20 85 19,Aa 9 20] [3,4,5,9]<|Rq [Aa 21 9,Ax 22 21 0] [3,4,5,9,22]<|Co 22 (Rq [Aa 23 9,Aa 6 23] [6]<|.ret)<|Sk [3,4,5])<|Sq (Rq [Ad 24 5 2,Ay 25 85 24,Aa 10 25] [3,4,5,10]<|Rq [Aa 26 10,Ax 27 26 0] [3,4,5,10,27]<|Co 27 (Rq [Aa 28 10,Aa 6 28] [6]<|.ret)<|Sk [3,4,5])<|Sq (Rq [Ad 29 3 2,Ad 30 4 2,Aq 31 93 29 30,Az 32 31,Aa 33 32,Cb 34 3 2 33,Cb 35 5 2 33,Dm 36 93 34 35 33,Br 37 36 33,Au 38 33 37] [38]<|Co 38 (Rq [Ae 6 13] [6]<|.ret)<|Sk [])<|Rq [Ae 6 0] [6]<|.ret) [.tmp 6]:=by decide +kernel
instance tV (t:AD) (p:Graph) (g:Graph):Ct prog (Kf t p g) 48 [At t,DN p,DN g] (fun r=>.sh (eI r)):=Fi oN fun r h hw hR=>by
  unfold Kf at h
  exact au
theorem iI:CK f108 (Rq [Af 3 0,Af 4 1,Af 5 2,Aj 6] [3,4,5]<|Rq [Ad 7 3 2,Ay 8 32 7,Aa 9 8,Bh 10 4 2 9,Cc 11 104 10 9,As 12 9 11,Aa 13 12,Bh 14 5 2 13,Cc 15 104 14 13,As 16 13 15,Aa 17 16,Bh 18 3 2 17,Bh 19 4 2 17,Bh 20 5 2 17,Es 21 48 18 19 20 17,Fq 22 21 0 17,Ar 23 22 17,Av 24 4 0 23,Ap 25 24 23,Bg 26 25 23,Av 27 4 1 23,Ap 28 27 23,Bg 29 28 23,⟨some 30,.bin (.i) .add (.s 26) (.s 29),some (23,false)⟩,⟨some 31,.bin (.i) .leq (.s 30) (.c (.int .i64 6)),some (23,false)⟩,Ba 32 31 23,Bc 33 5 0 32,Be 34 33 32,Bv 35 34 32,Cd 36 35 8 32,Cf 37 32 36 23,Ba 38 37 23,Bc 39 5 1 38,Be 40 39 38,Bv 41 40 38,Cd 42 41 12 38,Cf 43 38 42 23,Dl 44 23 43 17,As 45 17 44,Aa 6 45] [6]<|.ret) [.tmp 6]:=by decide +kernel
instance py (t:AD) (p:Graph) (g:Graph):Ct prog (Ke t p g) 108 [At t,DN p,DN g] (fun r=>.sh (eB r)):=Fi iI fun r h hw hR=>by
  unfold Ke at h
  exact au
theorem oT:CK f58 (Rq [Af 3 0,Af 4 1,Af 5 2,Aj 6] [3,4,5]<|Rq [Ad 7 4 5,Ay 8 55 7,Aa 9 8,Bh 10 5 3 9,Cc 11 56 10 9,As 12 9 11,Aa 13 12,Bh 14 3 2 13,Bc 15 4 0 13,Bh 16 15 2 13,Bc 17 5 0 13,Bh 18 17 2 13,Es 19 108 14 16 18 13,As 20 13 19,Aa 6 20] [6]<|.ret) [.tmp 6]:=by decide +kernel
instance tc (t:AD) (p:Pattern) (h_2:A2):Ct prog (Kg t p h_2) 58 [At t,B1 p,IP h_2] (fun r=>.sh (eB r)):=Fi oT fun r h hw hR=>by
  unfold Kg at h
  exact au
theorem oU:CK f59 (Rq [Af 1 0,Aj 2] [1]<|Sq (Rq [Ae 3 0] [1,3]<|Bl 0<|Lo [1,3]<|Sq (Rq [Aa 4 3,Ac 5 1 1,Ab 6 5,Ag 7 6,Al 8 4 7] [1,3,8]<|Co 8 (Sk [1,3])<|Ex 0 [1])<|Sq (Bl 1<|Rq [Ac 11 1 1,Ab 12 11,Aa 13 3,Ai 14 12 13 9,Ad 15 14 9,Ay 16 59 15,Az 17 16] [1,3,17]<|Co 17 (Rq [Aj 2] [2]<|.ret)<|Sk [1,3])<|Re [Aa 9 3,Am 10 9 1,Aa 3 10] [1,3])<|Rq [Ac 18 1 4,Ah 19 18 0,Ah 20 19 0,Ab 21 20,Ag 22 21,Ac 23 1 4,Ah 24 23 0,Ah 25 24 1,Ab 26 25,Ag 27 26,Bo 28 22 27,Gg 29 28 6,Aa 2 29] [2]<|.ret) [.tmp 2]:=by decide +kernel
theorem nk (n:Nat) (_ih_59:∀ (c:AA),Ct prog (GT n c) 59 [AF c] (fun r=>.sh (eB r))) (c:AA):Ct prog (GT (n+1) c) 59 [AF c] (fun r=>.sh (eB r)):=Fi oU fun r h hw hR=>by
  unfold GT at h
  have:HA 0 3 1 1 fun (i0:Int) (_:Unit)=>[(3,.tv (eI i0))]:=⟨⟩
  exact au
theorem nj:∀ n:Nat,(∀ (c:AA),Ct prog (GT n c) 59 [AF c] (fun r=>.sh (eB r))):=by
  intro n
  induction n with
  | zero=>exact (fun c=>⟨fun _ h=>by cases h⟩)
  | succ n ih=>exact nk n ih
instance td (c:AA):Ct prog (NL c) 59 [AF c] (fun r=>.sh (eB r)):=⟨fun r h=>by
  obtain ⟨N,hN⟩:=CO h
  exact ((nj N) c).snd r (hN N (Nat.le_refl _))⟩
theorem oV:CK f60 (Rq [Af 4 0,Af 5 1,Aj 8] [2,3,4,5]<|Rq [Ad 14 4 5,Dx 9 1 3 4 0 5,Ao 5 9 14] [2,3,4,5,9]<|Sq (Rq [Ac 15 5 0,Ab 16 15,Bb 17 16 5] [2,3,4,5,9,17]<|Co 17 (Re [Ac 18 5 4,Ad 19 18 5,Ao 5 9 19] [2,3,4,5,9])<|Sk [2,3,4,5,9])<|Rq [Ae 10 1] [2,3,4,5,9,10]<|Sq (Rq [Ac 20 4 0,Ah 21 20 0,Ab 22 21,Ag 23 22,Aa 11 23] [2,3,4,5,9,10,11]<|Bl 0<|Lo [2,3,4,5,9,10,11]<|Sq (Rq [Aa 24 11,Ac 25 9 0,Ah 26 25 0,Ab 27 26,Ag 28 27,Al 29 24 28] [2,3,4,5,9,10,11,29]<|Co 29 (Sk [2,3,4,5,9,10,11])<|Ex 0 [2,3,4,5,9,10])<|Sq (Bl 1<|Re [Aa 32 10,Aa 33 2,⟨some 34,.bin (.i) .mul (.s 32) (.s 33),none⟩,Aa 10 34] [2,3,4,5,9,10,11])<|Re [Aa 30 11,Am 31 30 1,Aa 11 31] [2,3,4,5,9,10,11])<|Sq (Rq [Ac 35 4 0,Ah 36 35 1,Ab 37 36,Ag 38 37,Aa 12 38] [2,3,5,9,10,12]<|Bl 2<|Lo [2,3,5,9,10,12]<|Sq (Rq [Aa 39 12,Ac 40 9 0,Ah 41 40 1,Ab 42 41,Ag 43 42,Al 44 39 43] [2,3,5,9,10,12,44]<|Co 44 (Sk [2,3,5,9,10,12])<|Ex 2 [2,3,5,9,10])<|Sq (Bl 3<|Re [Aa 47 10,Aa 48 3,⟨some 49,.bin (.i) .mul (.s 47) (.s 48),none⟩,Aa 10 49] [2,3,5,9,10,12])<|Re [Aa 45 12,Am 46 45 1,Aa 12 46] [2,3,5,9,10,12])<|Sq (Rq [Ae 13 0] [2,3,5,9,10,13]<|Bl 4<|Lo [2,3,5,9,10,13]<|Sq (Rq [Aa 50 13,Ac 51 5 1,Ab 52 51,Ag 53 52,Al 54 50 53] [2,3,5,9,10,13,54]<|Co 54 (Sk [2,3,5,9,10,13])<|Ex 4 [10])<|Sq (Bl 5<|Sq (Dr [57,58,59,60,61,62,63,64,65,66] [Ad 57 9 5,Ac 58 5 1,Ab 59 58,Aa 60 13,Ai 61 59 60 9,Ad 62 61 9,Aa 63 2,Aa 64 3,Do 65 60 57 62 63 64,Az 66 65] [2,3,5,9,10,13,66])<|Co 66 (Rq [Aj 8] [8]<|.ret)<|Sk [2,3,5,9,10,13])<|Re [Aa 55 13,Am 56 55 1,Aa 13 56] [2,3,5,9,10,13])<|Rq [Aa 67 10,Gg 68 67 5000,Aa 8 68] [8]<|.ret) [.tmp 8]:=by decide +kernel
theorem np (n:Nat) (_ih_60:∀ (p:Pattern) (c:AA) (nodes:Int) (edges:Int),Ct prog (E3 n p c nodes edges) 60 [B1 p,AF c,eI nodes,eI edges] (fun r=>.sh (eB r))) (p:Pattern) (c:AA) (nodes:Int) (edges:Int):Ct prog (E3 (n+1) p c nodes edges) 60 [B1 p,AF c,eI nodes,eI edges] (fun r=>.sh (eB r)):=Fi oV fun r h hw hR=>by
  unfold E3 at h
  have:HJ 17 fun (w1:Pattern)=>[(9,.bx [⟨false,lI w1.Graph.Nodes⟩,⟨false,lE w1.Graph.Edges⟩,⟨false,lS w1.Slots⟩,⟨false,eI w1.Vars⟩,⟨false,lT w1.Tests⟩])]:=⟨⟩
  have:HW 0 fun (s0:Int × Int)=>[(10,.tv (eI s0.1)),(11,.tv (eI s0.2))]:=⟨⟩
  have:HW 2 fun (s2:Int × Int)=>[(10,.tv (eI s2.1)),(12,.tv (eI s2.2))]:=⟨⟩
  have:HA 4 13 5 1 fun (i4:Int) (_:Unit)=>[(13,.tv (eI i4))]:=⟨⟩
  exact au
theorem nm:∀ n:Nat,(∀ (p:Pattern) (c:AA) (nodes:Int) (edges:Int),Ct prog (E3 n p c nodes edges) 60 [B1 p,AF c,eI nodes,eI edges] (fun r=>.sh (eB r))):=by
  intro n
  induction n with
  | zero=>exact (fun p c nodes edges=>⟨fun _ h=>by cases h⟩)
  | succ n ih=>exact np n ih
instance te (p:Pattern) (c:AA) (nodes:Int) (edges:Int):Ct prog (Md p c nodes edges) 60 [B1 p,AF c,eI nodes,eI edges] (fun r=>.sh (eB r)):=⟨fun r h=>by
  obtain ⟨N,hN⟩:=CO h
  exact ((nm N) p c nodes edges).snd r (hN N (Nat.le_refl _))⟩
theorem oF:CK f33 (Rq [Af 4 0,Af 5 1,Af 6 2,Af 7 3,Aj 8] [4,5,6,7]<|Sq (Rq [Ad 9 6 9,Ay 10 54 9,Az 11 10,Aa 12 11,Cb 13 5 5 12,Dt 14 55 13 12,Br 15 14 12,Au 16 12 15,Aa 17 16,Cb 18 7 3 17,Dt 19 56 18 17,Br 20 19 17,Au 21 17 20] [4,5,6,7,21]<|Co 21 (Rq [Aj 8] [8]<|.ret)<|Sk [4,5,6,7])<|Rq [Ad 22 4 2,Ad 23 5 5,Ad 24 6 9,Bf 25 57 22 23 24,Ax 26 25 0,Aa 27 26,Cb 28 4 2 27,Cb 29 5 5 27,Cb 30 7 3 27,Ge 31 58 28 29 30 27,Ba 32 31 27,Bh 33 6 9 32,Cc 34 59 33 32,Cf 35 32 34 27,Ba 36 35 27,Bc 37 7 0 36,Ca 38 37 0 36,Be 39 38 36,Bv 40 39 36,Cd 41 40 6 36,Cf 42 36 41 27,Ba 43 42 27,Bc 44 7 0 43,Ca 45 44 1 43,Be 46 45 43,Bv 47 46 43,Cd 48 47 8 43,Cf 49 43 48 27,Ba 50 49 27,Bh 51 5 5 50,Bh 52 6 9 50,⟨some 53,.call 60 [.s 51,.s 52,.c (.int .i64 14),.c (.int .i64 18)],some (50,true)⟩,Cf 54 50 53 27,Au 55 27 54,Aa 8 55] [8]<|.ret) [.tmp 8]:=by decide +kernel
instance tN (t:AD) (p:Pattern) (c:AA) (h_3:A2):Ct prog (FP t p c h_3) 33 [At t,B1 p,AF c,IP h_3] (fun r=>.sh (eB r)):=Fi oF fun r h hw hR=>by
  unfold FP at h
  exact au
theorem nx:CK f10 (Rq [Af 3 0,Af 4 1,Af 5 2,Aj 6] [3,4,5]<|Rq [Ad 7 3 2,Ay 8 32 7,Aa 9 8,Bh 10 3 2 9,Bc 11 4 0 9,Bh 12 11 5 9,Bc 13 4 5 9,Bh 14 13 9 9,Bc 15 5 0 9,Bh 16 15 3 9,⟨some 17,.call 33 [.s 10,.s 12,.s 14,.s 16],some (9,true)⟩,As 18 9 17,Aa 19 18,Bc 20 5 3 19,Ca 21 20 0 19,Ca 22 21 0 19,Be 23 22 19,Bv 24 23 19,Bc 25 5 3 19,Ca 26 25 0 19,Ca 27 26 1 19,Be 28 27 19,Bv 29 28 19,Ej 30 24 29 19,Cd 31 30 150 19,As 32 19 31,Aa 33 32,Bc 34 5 3 33,Ca 35 34 2 33,Be 36 35 33,Bv 37 36 33,Cd 38 37 40 33,As 39 33 38,Aa 6 39] [6]<|.ret) [.tmp 6]:=by decide +kernel
instance tB (t:AD) (x_1:G7) (y:JK):Ct prog (KY t x_1 y) 10 [At t,G4 x_1,Jv y] (fun r=>.sh (eB r)):=Fi nx fun r h hw hR=>by
  unfold KY at h
  exact au
theorem pX:CK f6 (Rq [Af 3 0,Af 4 1,Af 5 2,Aj 6] [3,4,5]<|Sq (Rq [Ei 14 9,Az 15 14,Aa 16 15,Cb 17 3 2 16,Cb 18 4 14 16,Cb 19 5 7 16,Ge 20 10 17 18 19 16,Br 21 20 16,Au 22 16 21] [3,4,5,22]<|Co 22 (Rq [Ei 23 9,Aa 6 23] [6]<|.ret)<|Sk [3,4,5])<|Rq [Ad 25 3 2,Ac 26 4 0,Ad 27 26 5,Ac 28 4 5,Ad 29 28 9,Ac 30 5 0,Ad 31 30 3,Ac 32 5 3,Ad 33 32 3,Ac 34 5 6,Ab 35 34,Cn 36 22 25 27 29 31 33 35,Aa 24 36,An 37 24 0,An 38 24 1,Aa 7 37,Aa 8 38] [3,4,5,7,8]<|Rq [Ad 40 3 2,Ac 41 4 0,Ad 42 41 5,Ac 43 4 5,Ad 44 43 9,Ac 45 5 0,Ad 46 45 3,Ac 47 5 3,Ad 48 47 3,Ac 49 5 6,Ab 50 49,Cn 51 11 40 42 44 46 48 50,Aa 39 51,An 52 39 0,An 53 39 1,Ak 9 52,Aa 10 53] [3,4,5,7,8,10]<|Sq (Rq [Aa 54 8,Ax 55 54 0] [3,4,5,7,8,10,55]<|Co 55 (Rq [Aa 56 10,Aa 57 8,Dc 58 56 57,Aa 6 58] [6]<|.ret)<|Sk [3,4,5,7,10])<|Rq [Ac 59 4 5,Ad 60 59 9,Bi 61 9 60,Gz 62 0 9 1 1 1 3 4 0 5 0 1 2 1 1 61,Cu 11 0 9 1 1 1 3 4 0 5,Ao 9 11 62] [3,4,5,7,10,11]<|Rq [Ad 64 3 2,Ac 65 4 0,Ad 66 65 5,Ad 67 11 9,Ac 68 5 0,Ad 69 68 3,Ac 70 5 3,Ad 71 70 3,Ac 72 5 6,Ab 73 72,Cn 74 11 64 66 67 69 71 73,Aa 63 74,An 75 63 0,An 76 63 1,Ak 12 75,Aa 13 76] [7,10,13]<|Rq [Aa 77 7,Aa 78 10,Bb 79 78 10,Dw 80 77 79,Aa 81 80,Ar 82 7 81,Ar 83 13 81,Cz 84 83 0 81,⟨some 85,.bin (.b) .eql (.s 82) (.s 84),some (81,true)⟩,Ar 86 85 81,Ba 87 13 86,Gp 88 87 3 86,Dl 89 86 88 81,As 90 81 89,Aa 6 90] [6]<|.ret) [.tmp 6]:=by decide +kernel
instance c6 (t:AD) (x_1:G7) (y:JK):Ct prog (Is t x_1 y) 6 [At t,G4 x_1,Jv y] (fun r=>.sh (eB r)):=Fi pX fun r h hw hR=>by
  unfold Is at h
  exact au
end Go.Sf.Sc
