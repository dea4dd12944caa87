/- Contracts of the functions. -/
import Derived.Test.YtmaobfbhdkafkaaGreatCon0
import Derived.Test.YtmaobfbhdkafkaaGreatTryzShelf
import Derived.Test.YtmaobfbhdkafkaaGreatRp
set_option maxRecDepth 100000
namespace Go.Sf.Sc
open Go Go.Sf Go.Proofs.Tryz
theorem kZ (l:List Int) (m:Int) (r:List Int) (h:HK l m=some r):AU prog 235 [lI l,eI m] (.own (lI r)):=by
  unfold HK at h
  split at h
  · rename_i hl
    cases h
    obtain ⟨x,rfl⟩:=List.length_eq_one_iff.1 hl.1
    obtain ⟨k,rfl⟩:=Int.eq_ofNat_of_zero_le hl.2.1
    exact TX x k (by have:=hl.2.2; omega)
  · cases h
instance qI (l:List Int) (m:Int):Ct Go.Proofs.Tryz.prog (HK l m) 235 [lI l,eI m] (fun r=>.own (lI r)):=⟨kZ l m⟩
theorem fk:CK f181 (Rq [Bc 6 1] [0,1,2]<|Rq [⟨some 10,.lst 1 [.c (.int .i64 (-1))],none⟩,Aa 11 0,Fq 12 235 10 11,Bv 7 12] [1,2,7]<|Sq (Rq [Aa 13 1,Ag 14 13,Ad 15 0] [2,7,13,14,15]<|Bl 0<|Lo [2,7,13,14,15]<|Rq [An 16 15 14] [2,7,13,14,15,16]<|Sq (Co 16 (Sk [2,7,13,14,15])<|Ex 0 [7])<|Sq (Bl 1<|Rq [Aa 17 15,Ai 18 13 15 1,Ab 19 18,Aa 8 17,Aa 9 19] [2,7,8,9,13,14,15]<|Re [Bm 20 7,Aa 21 9,Aa 22 2,Aa 23 8,Ai 24 22 23 1,Ab 25 24,Cg 26 20 21 1,Di 26 25] [2,7,13,14,15])<|Re [Ao 27 15 1,Aa 15 27] [2,7,13,14,15])<|Rq [Db 28 7,Be 6 28] [6]<|.ret) [.tmp 6]:=by decide +kernel
instance oP (n:Int) (AA:List Int) (images:List Int):Ct prog (GM n AA images) 181 [eI n,lI AA,lI images] (fun r=>.own (lI r)):=Fi fk fun r h hw hR=>by
  unfold GM at h
  have:HA 0 15 14 0 fun (i0:Int) (s0:List Int)=>[(7,.xo 1 (List.map eI s0)),(15,.tv (eI i0))]:=⟨⟩
  exact au
theorem gh:CK f236 (Rq [Af 2 0,Ad 4 0,Ad 5 0] [1,2]<|Sq (Rq [Ac 6 2 0,Ab 7 6,Aa 8 1,Ag 9 8,Cw 10 9 1,⟨some 11,.call 85 [.s 7,.c (.int .i64 (-1)),.s 10],none⟩,Bb 12 11] [1,2,12]<|Co 12 (Rq [Ad 4 0,Ad 5 6] [4,5]<|.ret)<|Sk [1,2])<|Rq [Ae 13 2 2,Aa 14 1,Ay 15 232 13 14,Aa 4 15,Ad 5 0] [4,5]<|.ret) [.tmp 4,.tmp 5]:=by decide +kernel
instance pC (x_0:Term) (A5:List Int):Ct prog (GL x_0 A5) 236 [MS x_0,lI A5] (fun r=>.tp [eI r.1,eI r.2]):=Fi gh fun r h hw hR=>by
  unfold GL at h
  exact au
theorem fl:CK f182 (Rq [Af 4 0,Af 5 1,Af 6 2,Bc 8 1,Aj 9] [3,4,5,6]<|Sq (Dr [10,21,22,23,24,25,26,27,28] [Aa 21 3,⟨some 22,.callx 138 [.s 21],none⟩,Ac 23 5 3,Ab 24 23,Aa 25 3,Ag 26 25,Dm 27 24 26,⟨some 28,.appz 1 22 (.int .i64 0) (.s 27),none⟩,Bv 10 28] [3,4,5,6,10])<|Rq [Ac 29 5 3,Ab 30 29,Dw 31 1 30,Bv 11 31] [3,4,5,6,10,11]<|Sq (Rq [Aa 32 3,Ag 33 32,Ad 34 0] [4,5,6,10,11,33,34]<|Bl 0<|Lo [4,5,6,10,11,33,34]<|Rq [An 35 34 33] [4,5,6,10,11,33,34,35]<|Sq (Co 35 (Sk [4,5,6,10,11,33,34])<|Ex 0 [4,5,6,10,11])<|Sq (Bl 1<|Rq [Aa 36 34,Aa 12 36] [4,5,6,10,11,12,33,34]<|Re [Bm 37 11,Aa 38 12,Cg 39 37 38 1,Dq 39] [4,5,6,10,11,33,34])<|Re [Ao 40 34 1,Aa 34 40] [4,5,6,10,11,33,34])<|Sq (Rq [Ac 41 5 2,Ab 42 41,Ag 43 42,Ad 44 0] [4,5,6,10,11,42,43,44]<|Bl 2<|Lo [4,5,6,10,11,42,43,44]<|Rq [An 45 44 43] [4,5,6,10,11,42,43,44,45]<|Sq (Co 45 (Sk [4,5,6,10,11,42,43,44])<|Ex 2 [5,10])<|Sq (Bl 3<|Rq [Ai 46 42 44 4,Ae 47 46 4,Dp 14 0 0 0 0,Am 4 14 47] [4,5,6,10,11,14,42,43,44]<|Sq (Dr [15,48,49,50,51,52,53,54,55,56,57,58,59,60,61,62] [Ac 48 4 2,Ah 49 48 2,Ab 50 49,Ac 51 6 0,Ab 52 51,Ac 53 14 0,Ab 54 53,Ai 55 52 54 1,Ab 56 55,Ai 57 50 56 1,Ab 58 57,Ac 59 14 1,Ab 60 59,Ai 61 58 60 1,Ab 62 61,Aa 15 62] [4,5,6,10,11,14,15,42,43,44])<|Sq (Rq [Ac 63 14 2,Ah 64 63 0,Ab 65 64,Aa 16 65] [4,5,6,10,11,14,15,16,42,43,44]<|Rq [Aa 66 16,Bj 67 66 0,Aa 68 67,Ey 69 11 68,Av 70 16 68,Ez 71 69 70 1 68,Fa 72 71 68,Dc 73 72 68,Ar 74 68 73] [4,5,6,10,11,14,15,16,42,43,44,74]<|Co 74 (Re [Bm 75 10,Aa 76 16,Bm 77 11,Aa 78 16,Aa 79 15,Ac 80 14 2,Ah 81 80 1,Ab 82 81,Dm 83 79 82,Cg 84 75 76 1,Di 84 83,Cg 85 77 78 1,Dq 85] [4,5,6,10,11,14,15,42,43,44])<|Sk [4,5,6,10,11,14,15,42,43,44])<|Rq [Ac 87 14 2,Ae 88 87 2,Bm 89 10,De 90 236 88 89,Aa 86 90,Ak 91 86 0,Ak 92 86 1,Aa 17 91,Aa 18 92] [4,5,6,10,11,15,17,18,42,43,44]<|Rq [Aa 93 18,As 94 93 0,Aa 95 94,Au 96 17 95,Au 97 15 95,Ch 98 96 97 95,Aq 99 95 98] [4,5,6,10,11,42,43,44,99]<|Co 99 (Rq [Bc 8 1,Aj 9] [8,9]<|.ret)<|Sk [4,5,6,10,11,42,43,44])<|Re [Ao 100 44 1,Aa 44 100] [4,5,6,10,11,42,43,44])<|Sq (Rq [Ac 101 5 4,Ab 102 101,Ag 103 102,Ad 104 0] [10,102,103,104]<|Bl 4<|Lo [10,102,103,104]<|Rq [An 105 104 103] [10,102,103,104,105]<|Sq (Co 105 (Sk [10,102,103,104])<|Ex 4 [10])<|Sq (Bl 5<|Rq [Ai 106 102 104 5,Ae 107 106 5,Eu 20 0 0 0 0 0,Am 5 20 107] [10,20,102,103,104]<|Rq [Ae 108 20 5,Bm 109 10,De 110 233 108 109,Bb 111 110] [10,102,103,104,111]<|Co 111 (Rq [Bc 8 1,Aj 9] [8,9]<|.ret)<|Sk [10,102,103,104])<|Re [Ao 112 104 1,Aa 104 112] [10,102,103,104])<|Rq [Db 113 10,Be 8 113,Bt 9] [8,9]<|.ret) [.tmp 8,.tmp 9]:=by decide +kernel
instance oQ (s_0:AP) (q:Pattern) (m:Morphism) (given:List Int):Ct prog (EJ s_0 q m given) 182 [BX s_0,BC q,BL m,lI given] (fun r=>.tp [lI r.1,eB r.2]):=Fi fl fun r h hw hR=>by
  unfold EJ at h
  have:HA 0 34 33 0 fun (i0:Int) (s0:List Bool)=>[(11,.xo 1 (List.map eB s0)),(34,.tv (eI i0))]:=⟨⟩
  have:HA 2 44 43 0 fun (i2:Int) (s2:List Int × List Bool)=>[(10,.xo 1 (List.map eI s2.1)),(11,.xo 1 (List.map eB s2.2)),(44,.tv (eI i2))]:=⟨⟩
  have:HA 4 104 103 0 fun (i4:Int) (_:Unit)=>[(104,.tv (eI i4))]:=⟨⟩
  exact au
theorem ef:CK f115 (Rq [Af 3 0,Af 4 1,Af 5 2,Bc 6 3,Ad 7 0] [3,4,5]<|Rq [Ac 17 4 4,Ah 18 17 0,Ae 19 18 2,Dd 8 1 3,Am 2 8 19] [3,4,5,8]<|Sq (Dr [9,20,21,22,23,24,25,26,27,28,29,30,31,32,33,34,35,36,37,38,39,40] [Ac 20 8 0,Ab 21 20,Ag 22 21,Ac 23 4 2,Ah 24 23 0,Ab 25 24,Ac 26 5 0,Ah 27 26 0,Ab 28 27,Bf 29 181 22 25 28,Ac 30 8 1,Ab 31 30,Ag 32 31,Ac 33 4 2,Ah 34 33 1,Ab 35 34,Ac 36 5 0,Ah 37 36 1,Ab 38 37,Bf 39 181 32 35 38,Cz 40 1 1 0 1 29 1 1 39,Dd 9 1 1,Am 2 9 40] [3,4,5,8,9])<|Rq [Ac 42 3 0,Ae 43 42 2,Ae 44 8 2,Ac 45 3 2,Ah 46 45 0,Ae 47 46 2,Ae 48 9 2,Ac 49 3 5,Ab 50 49,Ck 51 29 43 44 47 48 50,Aa 41 51,Ak 52 41 0,Ak 53 41 1,Be 10 52,Aa 11 53] [3,4,5,10,11]<|Sq (Rq [Aa 54 11,As 55 54 0] [3,4,5,10,11,55]<|Co 55 (Rq [Aa 56 11,Bc 6 3,Aa 7 56] [6,7]<|.ret)<|Sk [3,4,5,10])<|Rq [Bc 12 3] [3,4,5,10,12]<|Sq (Rq [Aa 57 10,Ag 58 57,Ad 59 0] [3,4,5,12,57,58,59]<|Bl 0<|Lo [3,4,5,12,57,58,59]<|Rq [An 60 59 58] [3,4,5,12,57,58,59,60]<|Sq (Co 60 (Sk [3,4,5,12,57,58,59])<|Ex 0 [12])<|Sq (Bl 1<|Rq [Ai 61 57 59 2,Ae 62 61 2,Dd 14 1 1,Am 2 14 62] [3,4,5,12,14,57,58,59]<|Rq [Ae 64 3 6,Ac 65 4 4,Ae 66 65 5,Ae 67 14 2,Ac 68 5 2,Ab 69 68,Cs 70 182 64 66 67 69,Aa 63 70,Ak 71 63 0,Ak 72 63 1,Be 15 71,Aa 16 72] [3,4,5,12,14,15,16,57,58,59]<|Rq [Aa 73 16] [3,4,5,12,14,15,57,58,59,73]<|Co 73 (Re [Be 74 12,Ae 75 14 2,Aa 76 15,Ej 77 1 1 1 0 2 75 2 1 76,Bq 78 3 77,Cb 79 3 74 78,Be 12 79] [3,4,5,12,57,58,59])<|Sk [3,4,5,12,57,58,59])<|Re [Ao 80 59 1,Aa 59 80] [3,4,5,12,57,58,59])<|Rq [Aa 81 12,Be 6 81,Ad 7 0] [6,7]<|.ret) [.tmp 6,.tmp 7]:=by decide +kernel
instance nP (s_0:AP) (c:AB) (m:AH):Ct prog (BW s_0 c m) 115 [BX s_0,AK c,BP m] (fun r=>.tp [(eL 3 BP) r.1,eI r.2]):=Fi ef fun r h hw hR=>by
  unfold BW at h
  have:HA 0 59 58 0 fun (i0:Int) (s0:List AH)=>[(12,.ow ((eL 3 BP) s0)),(59,.tv (eI i0))]:=⟨⟩
  exact au
theorem lr:CK f48 (Rq [Af 3 0,Af 4 1,Af 5 2,By 6 0 1 1 1 5,Ad 7 0] [3,4,5,6]<|Sq (Rq [Ac 19 4 0,Ab 20 19] [3,4,5,6,20]<|Bl 0<|Rq [Ba 22 20 2,Aa 21 22] [3,4,5,6,20,21]<|Co 21 (Sq (Dr [8,9,23,24,25,26,27,28,29,30,31,32] [Ae 24 3 6,Ac 25 4 1,Ab 26 25,Dt 27 26 0 9,Ae 28 27 9,Ae 29 5 3,Bf 30 48 24 28 29,Aa 23 30,Ak 31 23 0,Ak 32 23 1,By 8 0 1 1 1 5,Am 5 8 31,Aa 9 32] [6,9])<|Sq (Rq [Aa 33 9] [6,9,33]<|Bl 1<|Rq [Ba 35 33 0,Aa 34 35] [6,9,33,34]<|Co 34 (Rq [Bz 36 0 1 1 1 5,Am 5 6 36,Ad 7 10] [6,7]<|.ret)<|Rq [Ba 38 33 10,Aa 37 38] [6,9,37]<|Co 37 (Rq [Bz 39 0 1 1 1 5,Am 5 6 39,Ad 7 0] [6,7]<|.ret)<|Sk [6,9])<|Rq [Bz 40 0 1 1 1 5,Aa 41 9,Am 5 6 40,Aa 7 41] [6,7]<|.ret)<|Rq [Ba 43 20 3,Aa 42 43] [3,4,5,6,20,42]<|Co 42 (Rq [By 10 0 1 1 1 5] [3,4,5,6,10]<|Sq (Rq [Ac 44 4 1,Ab 45 44,Ag 46 45,Ad 47 0] [3,5,6,10,45,46,47]<|Bl 2<|Lo [3,5,6,10,45,46,47]<|Rq [An 48 47 46] [3,5,6,10,45,46,47,48]<|Sq (Co 48 (Sk [3,5,6,10,45,46,47])<|Ex 2 [6,10])<|Sq (Bl 3<|Rq [Ai 49 45 47 9,Ae 50 49 9,Dy 12 0 9 1 1 1 3 4 0 5,Am 9 12 50] [3,5,6,10,12,45,46,47]<|Rq [Ae 52 3 6,Ae 53 12 9,Ae 54 5 3,Bf 55 48 52 53 54,Aa 51 55,Ak 56 51 0,Ak 57 51 1,By 13 0 1 1 1 5,Am 5 13 56,Aa 14 57] [3,5,6,10,13,14,45,46,47]<|Sq (Rq [Aa 58 14,As 59 58 0] [3,5,6,10,13,14,45,46,47,59]<|Co 59 (Rq [Bz 60 0 1 1 1 5,Aa 61 14,Am 5 6 60,Aa 7 61] [6,7]<|.ret)<|Sk [3,5,6,10,13,45,46,47])<|Re [Ac 62 10 4,Fd 63 62,Ae 64 13 5,Bq 65 5 64,Cb 66 5 63 65,Ac 67 10 4,Ei 1 67 66] [3,5,6,10,45,46,47])<|Re [Ao 68 47 1,Aa 47 68] [3,5,6,10,45,46,47])<|Rq [Ae 69 10 5,Am 5 6 69,Ad 7 0] [6,7]<|.ret)<|Rq [Ba 71 20 4,Aa 70 71] [3,4,5,6,20,70]<|Co 70 (Sq (Rq [Ac 72 4 1,Ab 73 72,Ag 74 73,Ad 75 0] [3,5,6,73,74,75]<|Bl 4<|Lo [3,5,6,73,74,75]<|Rq [An 76 75 74] [3,5,6,73,74,75,76]<|Sq (Co 76 (Sk [3,5,6,73,74,75])<|Ex 4 [6])<|Sq (Bl 5<|Rq [Aa 77 75,Ai 78 73 75 9,Ae 79 78 9,Dy 16 0 9 1 1 1 3 4 0 5,Aa 15 77,Am 9 16 79] [3,5,6,15,16,73,74,75]<|Rq [Ae 81 3 6,Ae 82 16 9,Ae 83 5 3,Bf 84 48 81 82 83,Aa 80 84,Ak 85 80 0,Ak 86 80 1,By 17 0 1 1 1 5,Am 5 17 85,Aa 18 86] [3,5,6,15,17,18,73,74,75]<|Sq (Rq [Aa 87 18,Ba 88 87 0] [3,5,6,15,17,18,73,74,75,88]<|Co 88 (Rq [Aa 89 15,Ae 90 17 5,Bq 91 5 90,Fe 92 0 1 1 1 5 0 1 89 4 1 91,Am 5 6 92,Ad 7 0] [6,7]<|.ret)<|Sk [3,5,6,18,73,74,75])<|Rq [Aa 93 18,As 94 93 10] [3,5,6,18,73,74,75,94]<|Co 94 (Rq [Bz 95 0 1 1 1 5,Aa 96 18,Am 5 6 95,Aa 7 96] [6,7]<|.ret)<|Sk [3,5,6,73,74,75])<|Re [Ao 97 75 1,Aa 75 97] [3,5,6,73,74,75])<|Rq [Bz 98 0 1 1 1 5,Am 5 6 98,Ad 7 10] [6,7]<|.ret)<|Rq [Ba 100 20 5,Aa 99 100] [3,4,5,6,99]<|Co 99 (Rq [Ae 101 3 6,Ae 102 4 9,Ae 103 5 3,Bf 104 111 101 102 103,Ak 105 104 0,Ak 106 104 1,Am 5 6 105,Aa 7 106] [6,7]<|.ret)<|Sk [6])<|Rq [Bz 107 0 1 1 1 5,Am 5 6 107,Ad 7 0] [6,7]<|.ret) [.cell 6 (some 5),.tmp 7]:=by decide +kernel
theorem eb:CK f111 (Rq [Af 3 0,Af 4 1,Af 5 2,By 6 0 1 1 1 5,Ad 7 0] [3,4,5,6]<|Rq [Ae 15 3 6,Ae 16 4 9,Ae 17 5 3,Bf 18 115 15 16 17,Aa 14 18,Ak 19 14 0,Ak 20 14 1,Be 8 19,Aa 9 20] [3,4,6,8,9]<|Sq (Rq [Aa 21 9,As 22 21 0] [3,4,6,8,9,22]<|Co 22 (Rq [Bz 23 0 1 1 1 5,Aa 24 9,Am 5 6 23,Aa 7 24] [6,7]<|.ret)<|Sk [3,4,6,8])<|Sq (Rq [Aa 25 8,Ag 26 25,Ad 27 0] [3,4,6,25,26,27]<|Bl 0<|Lo [3,4,6,25,26,27]<|Rq [An 28 27 26] [3,4,6,25,26,27,28]<|Sq (Co 28 (Sk [3,4,6,25,26,27])<|Ex 0 [6])<|Sq (Bl 1<|Rq [Ai 29 25 27 3,Ae 30 29 3,Ff 11 1 1 1,Am 3 11 30] [3,4,6,11,25,26,27]<|Sq (Dr [12,13,31,32,33,34,35,36,37,38,39,40] [Ae 32 3 6,Ac 33 4 1,Ab 34 33,Dt 35 34 0 9,Ae 36 35 9,Ae 37 11 3,Bf 38 48 32 36 37,Aa 31 38,Ak 39 31 0,Ak 40 31 1,By 12 0 1 1 1 5,Am 5 12 39,Aa 13 40] [3,4,6,11,12,13,25,26,27])<|Sq (Rq [Aa 41 13,Ba 42 41 0] [3,4,6,11,12,13,25,26,27,42]<|Co 42 (Rq [Ae 43 11 3,Ae 44 12 5,Bq 45 5 44,Fe 46 0 1 1 1 5 1 3 43 4 1 45,Am 5 6 46,Ad 7 0] [6,7]<|.ret)<|Sk [3,4,6,13,25,26,27])<|Rq [Aa 47 13,As 48 47 10] [3,4,6,13,25,26,27,48]<|Co 48 (Rq [Bz 49 0 1 1 1 5,Aa 50 13,Am 5 6 49,Aa 7 50] [6,7]<|.ret)<|Sk [3,4,6,25,26,27])<|Re [Ao 51 27 1,Aa 27 51] [3,4,6,25,26,27])<|Rq [Bz 52 0 1 1 1 5,Am 5 6 52,Ad 7 10] [6,7]<|.ret) [.cell 6 (some 5),.tmp 7]:=by decide +kernel
theorem ku (n:Nat) (_ih_48:∀ (s_0:AP) (c:AB) (m:AH),Ct prog (AY n s_0 c m) 48 [BX s_0,AK c,BP m] (fun r=>.tp [CQ r.1,eI r.2])) (_ih_111:∀ (s_0:AP) (c:AB) (m:AH),Ct prog (BF n s_0 c m) 111 [BX s_0,AK c,BP m] (fun r=>.tp [CQ r.1,eI r.2])) (s_0:AP) (c:AB) (m:AH):Ct prog (AY (n+1) s_0 c m) 48 [BX s_0,AK c,BP m] (fun r=>.tp [CQ r.1,eI r.2]):=Fi lr fun r h hw hR=>by
  unfold AY at h
  have:HA 2 47 46 0 fun (i2:Int) (s2:AL × AL)=>[(6,.bx [⟨false,eI s2.1.Choice⟩,⟨true,lI s2.1.Match.Morphism.Nodes⟩,⟨true,lI s2.1.Match.Morphism.Edges⟩,⟨true,lI s2.1.Match.Vars⟩,⟨true,Hz s2.1.Kids⟩]),(10,.bx [⟨false,eI s2.2.Choice⟩,⟨true,lI s2.2.Match.Morphism.Nodes⟩,⟨true,lI s2.2.Match.Morphism.Edges⟩,⟨true,lI s2.2.Match.Vars⟩,⟨true,Hz s2.2.Kids⟩]),(47,.tv (eI i2))]:=⟨⟩
  have:HA 4 75 74 0 fun (i4:Int) (s4:AL)=>[(6,.bx [⟨false,eI s4.Choice⟩,⟨true,lI s4.Match.Morphism.Nodes⟩,⟨true,lI s4.Match.Morphism.Edges⟩,⟨true,lI s4.Match.Vars⟩,⟨true,Hz s4.Kids⟩]),(75,.tv (eI i4))]:=⟨⟩
  exact au
theorem dx (n:Nat) (_ih_48:∀ (s_0:AP) (c:AB) (m:AH),Ct prog (AY n s_0 c m) 48 [BX s_0,AK c,BP m] (fun r=>.tp [CQ r.1,eI r.2])) (_ih_111:∀ (s_0:AP) (c:AB) (m:AH),Ct prog (BF n s_0 c m) 111 [BX s_0,AK c,BP m] (fun r=>.tp [CQ r.1,eI r.2])) (s_0:AP) (c:AB) (m:AH):Ct prog (BF (n+1) s_0 c m) 111 [BX s_0,AK c,BP m] (fun r=>.tp [CQ r.1,eI r.2]):=Fi eb fun r h hw hR=>by
  unfold BF at h
  have:HA 0 27 26 0 fun (i0:Int) (s0:AL)=>[(6,.bx [⟨false,eI s0.Choice⟩,⟨true,lI s0.Match.Morphism.Nodes⟩,⟨true,lI s0.Match.Morphism.Edges⟩,⟨true,lI s0.Match.Vars⟩,⟨true,Hz s0.Kids⟩]),(27,.tv (eI i0))]:=⟨⟩
  exact au
theorem ba:∀ n:Nat,(∀ (s_0:AP) (c:AB) (m:AH),Ct prog (AY n s_0 c m) 48 [BX s_0,AK c,BP m] (fun r=>.tp [CQ r.1,eI r.2]))∧(∀ (s_0:AP) (c:AB) (m:AH),Ct prog (BF n s_0 c m) 111 [BX s_0,AK c,BP m] (fun r=>.tp [CQ r.1,eI r.2])):=by
  intro n
  induction n with
  | zero=>exact ⟨(fun s_0 c m=>⟨fun _ h=>by cases h⟩),(fun s_0 c m=>⟨fun _ h=>by cases h⟩)⟩
  | succ n ih=>exact ⟨ku n ih.1 ih.2,dx n ih.1 ih.2⟩
instance qt (s_0:AP) (c:AB) (m:AH):Ct prog (C1 s_0 c m) 48 [BX s_0,AK c,BP m] (fun r=>.tp [CQ r.1,eI r.2]):=⟨fun r h=>by
  obtain ⟨N,hN⟩:=DL h
  exact ((ba N).1 s_0 c m).snd r (hN N (Nat.le_refl _))⟩
instance nL (s_0:AP) (c:AB) (m:AH):Ct prog (ME s_0 c m) 111 [BX s_0,AK c,BP m] (fun r=>.tp [CQ r.1,eI r.2]):=⟨fun r h=>by
  obtain ⟨N,hN⟩:=DL h
  exact ((ba N).2 s_0 c m).snd r (hN N (Nat.le_refl _))⟩
theorem lP:CK f20 (Rq [Af 6 0,Af 7 1,Af 8 2,Af 9 3,Af 10 4,By 12 0 1 1 1 5,Ad 13 0] [5,6,7,8,9,10,12]<|Sq (Rq [Ae 15 6 2,Ae 16 7 5,Ae 17 8 9,Ae 18 9 3,Ae 19 10 3,Aa 20 5,Du 21 47 15 16 17 18 19 20,Aa 14 21] [5,6,8,9,10,12,14]<|Rq [Aa 22 14,As 23 22 0] [5,6,8,9,10,12,14,23]<|Co 23 (Rq [Bz 24 0 1 1 1 5,Aa 25 14,Am 5 12 24,Aa 13 25] [12,13]<|.ret)<|Sk [5,6,8,9,10,12])<|Rq [Ae 26 6 2,Ae 27 9 3,Aa 28 5,⟨some 29,.bld [.list 4 [],.list 7 [],.list 1 [],.list 3 [],.list 1 [],.bool false] [(0,2,.s 26),(2,3,.s 27),(5,1,.s 28)],none⟩,Ae 30 8 9,Ae 31 10 3,Bf 32 48 29 30 31,Ak 33 32 0,Ak 34 32 1,Am 5 12 33,Aa 13 34] [12,13]<|.ret) [.cell 12 (some 5),.tmp 13]:=by decide +kernel
instance qU (t:AD) (p:Pattern) (c:AB) (h_3:AZ) (m:AH) (injective:Bool):Ct prog (DI t p c h_3 m injective) 20 [AS t,BC p,AK c,FK h_3,BP m,eB injective] (fun r=>.tp [CQ r.1,eI r.2]):=Fi lP fun r h hw hR=>by
  unfold DI at h
  exact au
theorem lO:CK f18 (Rq [Af 6 0,Af 7 1,Af 8 2,Af 9 3,Af 10 4,Aj 12,Ad 13 0] [5,6,7,8,9,10]<|Rq [Ae 17 6 2,Ae 18 7 5,Ae 19 8 9,Ae 20 9 3,Ae 21 10 3,Aa 22 5,Du 23 20 17 18 19 20 21 22,Aa 16 23,Ak 24 16 0,Ak 25 16 1,By 14 0 1 1 1 5,Am 5 14 24,Aa 15 25] [15]<|Sq (Rq [Aa 26 15,Ba 27 26 10] [15,27]<|Co 27 (Rq [Aj 12,Ad 13 0] [12,13]<|.ret)<|Sk [15])<|Rq [Aa 28 15,Ba 29 28 0,Aa 30 15,Aa 12 29,Aa 13 30] [12,13]<|.ret) [.tmp 12,.tmp 13]:=by decide +kernel
instance qT (t:AD) (p:Pattern) (c:AB) (h_3:AZ) (m:AH) (injective:Bool):Ct prog (DD t p c h_3 m injective) 18 [AS t,BC p,AK c,FK h_3,BP m,eB injective] (fun r=>.tp [eB r.1,eI r.2]):=Fi lO fun r h hw hR=>by
  unfold DD at h
  exact au
theorem ee:CK f114 (Rq [Af 1 0,Aj 2] [1]<|Rq [Ac 3 1 0,Ah 4 3 0,Ab 5 4,Ag 6 5,Ac 7 1 0,Ah 8 7 1,Ab 9 8,Ag 10 9,Br 11 6 10,Ac 12 1 2,Ab 13 12,Ag 14 13,Br 15 11 14,Ba 16 15 0,Aa 2 16] [2]<|.ret) [.tmp 2]:=by decide +kernel
instance nO (m:AH):Ct prog (D7 m) 114 [BP m] (fun r=>.sh (eB r)):=Fi ee fun r h hw hR=>by
  unfold D7 at h
  exact au
theorem fm:CK f183 (Rq [Ad 4 0] [0,1]<|Sq (Rq [Aa 6 0,Ag 7 6,Ad 8 0] [0,1,7,8]<|Bl 0<|Lo [0,1,7,8]<|Rq [An 9 8 7] [0,1,7,8,9]<|Sq (Co 9 (Sk [0,1,7,8])<|Ex 0 [])<|Sq (Bl 1<|Rq [Aa 10 8,Aa 5 10] [0,1,5,7,8]<|Rq [Aa 11 1,Aa 12 0,Aa 13 5,Ai 14 12 13 3,Ae 15 14 3,Cq 16 11 15] [0,1,5,7,8,16]<|Co 16 (Rq [Aa 17 5,Aa 4 17] [4]<|.ret)<|Sk [0,1,7,8])<|Re [Ao 18 8 1,Aa 8 18] [0,1,7,8])<|Rq [Bs 4 (-1)] [4]<|.ret) [.tmp 4]:=by decide +kernel
instance oR (s_0:List AH) (f:AH->Option Bool) (f_f:FuncId) (k_f:List TV) [h_f:∀ (y0:AH),Ct prog (f y0) f_f (BP y0::k_f) (fun r=>.sh (eB r))]:Ct prog (D5 s_0 f) 183 [(eL 3 BP) s_0,.clo f_f k_f] (fun r=>.sh (eI r)):=Fi fm fun r h hw hR=>by
  unfold D5 at h
  have:HA 0 8 7 0 fun (i0:Int) (_:Unit)=>[(8,.tv (eI i0))]:=⟨⟩
  exact au
theorem eg:CK f116 (Rq [Aj 4] [0,1]<|Rq [Aa 5 0,Aa 6 1,Ay 7 183 5 6,Bj 8 7 0,Aa 4 8] [4]<|.ret) [.tmp 4]:=by decide +kernel
instance nQ (s_0:List AH) (f:AH->Option Bool) (f_f:FuncId) (k_f:List TV) [h_f:∀ (y0:AH),Ct prog (f y0) f_f (BP y0::k_f) (fun r=>.sh (eB r))]:Ct prog (C3 s_0 f) 116 [(eL 3 BP) s_0,.clo f_f k_f] (fun r=>.sh (eB r)):=Fi eg fun r h hw hR=>by
  unfold C3 at h
  exact au
theorem mA:CK f72 (Rq [Af 2 0,Af 3 1,Aj 4] [2,3]<|Rq [Ac 5 2 0,Ab 6 5,Ac 7 3 0,Ab 8 7,Ay 9 73 6 8,Aa 10 9,Aw 11 2 1 10,Ax 12 11 10,Aw 13 3 1 10,Ax 14 13 10,Da 15 73 12 14 10,Ar 16 10 15,Aa 4 16] [4]<|.ret) [.tmp 4]:=by decide +kernel
instance rA (a:Morphism) (b:Morphism):Ct prog (JF a b) 72 [BL a,BL b] (fun r=>.sh (eB r)):=Fi mA fun r h hw hR=>by
  unfold JF at h
  exact au
theorem ei:CK f118 (Rq [Af 2 0,Af 3 1,Aj 4] [2,3]<|Rq [Ac 5 2 0,Ae 6 5 2,Ac 7 3 0,Ae 8 7 2,Ay 9 72 6 8,Aa 10 9,Aw 11 2 2 10,Ax 12 11 10,Aw 13 3 2 10,Ax 14 13 10,Da 15 73 12 14 10,Ar 16 10 15,Aa 4 16] [4]<|.ret) [.tmp 4]:=by decide +kernel
instance nS (a:AH) (b:AH):Ct prog (E9 a b) 118 [BP a,BP b] (fun r=>.sh (eB r)):=Fi ei fun r h hw hR=>by
  unfold E9 at h
  exact au
theorem eh:CK f117 (Rq [Af 2 0,Aj 3] [1,2]<|Rq [Ae 4 2 3,Ac 5 1 1,Ae 6 5 3,Ay 7 118 4 6,Aa 3 7] [3]<|.ret) [.tmp 3]:=by decide +kernel
instance nR (x_0:AH) (c0:AL):Ct prog (HL x_0 c0) 117 [BP x_0,.pt (CQ c0).cells] (fun r=>.sh (eB r)):=Fi eh fun r h hw hR=>by
  unfold HL at h
  exact au
theorem lv:CK f51 (Rq [Af 4 0,Af 5 1,Af 6 2,Af 7 3,Aj 8] [4,5,6,7]<|Rq [Ac 16 7 4,Ab 17 16,Ag 18 17,Aa 9 18] [4,5,6,7,9]<|Sq (Rq [Ac 19 5 0,Ab 20 19] [4,5,6,7,9,20]<|Bl 0<|Rq [Ba 22 20 1,Aa 21 22] [4,5,6,7,9,20,21]<|Co 21 (Rq [Aa 23 9,Ba 24 23 0,Aa 25 24,Aw 26 7 0 25,Ax 27 26 25,Cx 28 27 0 25,Ar 29 25 28,Aa 30 29,Aw 31 7 1 30,Bg 32 31 3 30,Bx 33 114 32 30,Ar 34 30 33,Aa 8 34] [8]<|.ret)<|Rq [Ba 36 20 2,Aa 35 36] [4,5,6,7,9,20,35]<|Co 35 (Sq (Dr [10,11,37,38,39,40,41,42,43,44,45,46] [Ae 38 4 6,Ac 39 5 1,Ab 40 39,Dt 41 40 0 9,Ae 42 41 9,Ae 43 6 3,Bf 44 48 38 42 43,Aa 37 44,Ak 45 37 0,Ak 46 37 1,By 10 0 1 1 1 5,Am 5 10 45,Aa 11 46] [7,9,11])<|Rq [Aa 47 9,Ba 48 47 0,Aa 49 48,Aw 50 7 0 49,Ax 51 50 49,Cx 52 51 0 49,Ar 53 49 52,Aa 54 53,Aw 55 7 1 54,Bg 56 55 3 54,Bx 57 114 56 54,Ar 58 54 57,Aa 59 58,Av 60 11 59,Cx 61 60 10 59,Ar 62 59 61,Aa 8 62] [8]<|.ret)<|Rq [Ba 64 20 3,Aa 63 64] [4,5,6,7,9,20,63]<|Co 63 (Sq (Rq [Aa 65 9,Ac 66 5 1,Ab 67 66,Ag 68 67,Bi 69 65 68,Aa 70 69,Ap 71 7 0 70,Al 72 71 70,Gm 73 72 0 70,Aq 74 70 73,Aa 75 74,Ap 76 7 1 75,Cc 77 76 3 75,Df 78 114 77 75,Bk 79 78 75,Aq 80 75 79] [4,5,6,7,80]<|Co 80 (Rq [Aj 8] [8]<|.ret)<|Sk [4,5,6,7])<|Sq (Rq [Ac 81 5 1,Ab 82 81,Ag 83 82,Ad 84 0] [4,6,7,82,83,84]<|Bl 1<|Lo [4,6,7,82,83,84]<|Rq [An 85 84 83] [4,6,7,82,83,84,85]<|Sq (Co 85 (Sk [4,6,7,82,83,84])<|Ex 1 [])<|Sq (Bl 2<|Rq [Aa 86 84,Ai 87 82 84 9,Ae 88 87 9,Dy 13 0 9 1 1 1 3 4 0 5,Aa 12 86,Am 9 13 88] [4,6,7,12,13,82,83,84]<|Sq (Dr [89,90,91,92,93,94,95,96,97,98] [Ae 89 4 6,Ae 90 13 9,Ae 91 6 3,Ac 92 7 4,Ab 93 92,Aa 94 12,Ai 95 93 94 5,Ae 96 95 5,Cs 97 51 89 90 91 96,Bb 98 97] [4,6,7,82,83,84,98])<|Co 98 (Rq [Aj 8] [8]<|.ret)<|Sk [4,6,7,82,83,84])<|Re [Ao 99 84 1,Aa 84 99] [4,6,7,82,83,84])<|Rq [Bt 8] [8]<|.ret)<|Rq [Ba 101 20 4,Aa 100 101] [4,5,6,7,9,100]<|Co 100 (Sq (Dr [8,102,103,104,105,106,107,108,109,110,111,112,113,114,115,116,117,118,119,120,121,122,123,124,125,126,127,128,129,130,131,132,133,134,135,136] [Aa 102 9,Ba 103 102 1,Aa 104 103,Aw 105 7 0 104,Ax 106 105 104,Fg 107 106 0 104,Ar 108 104 107,Aa 109 108,Aw 110 7 0 109,Ax 111 110 109,Aw 112 5 1 109,Ax 113 112 109,Ce 114 113 109,Ee 115 111 114 109,Ar 116 109 115,Aa 117 116,Aw 118 7 1 117,Bg 119 118 3 117,Bx 120 114 119 117,Ar 121 117 120,Aa 122 121,Bg 123 4 6 122,Aw 124 5 1 122,Ax 125 124 122,Aw 126 7 0 122,Ax 127 126 122,Cy 128 125 127 9 122,Bg 129 128 9 122,Bg 130 6 3 122,Aw 131 7 4 122,Ax 132 131 122,⟨some 133,.iad (.s 132) (.c (.int .i64 0)) 5,some (122,true)⟩,Bg 134 133 5 122,Ga 135 51 123 129 130 134 122,Ar 136 122 135,Aa 8 136] [8])<|.ret)<|Sk [4,5,6,7,9])<|Sq (Rq [Aa 137 9,As 138 137 1,Aa 139 138,Ap 140 7 0 139,Al 141 140 139,Gm 142 141 0 139,Aq 143 139 142] [4,5,6,7,143]<|Co 143 (Rq [Aj 8] [8]<|.ret)<|Sk [4,5,6,7])<|Rq [Ae 145 4 6,Ae 146 5 9,Ae 147 6 3,Bf 148 115 145 146 147,Aa 144 148,Ak 149 144 0,Ak 150 144 1,Be 14 149,Aa 15 150] [4,5,7,14,15]<|Sq (Rq [Aa 151 15,As 152 151 0,Aa 153 152,Au 154 14 153,⟨some 155,.clo 117 [.s 7],some (153,false)⟩,Cv 156 116 154 155 153,Bk 157 156 153,Aq 158 153 157] [4,5,7,158]<|Co 158 (Rq [Aj 8] [8]<|.ret)<|Sk [4,5,7])<|Sq (Dr [8,159,160,161,162,163,164,165,166,167,168,169,170] [Ae 159 4 6,Ac 160 5 1,Ab 161 160,Dt 162 161 0 9,Ae 163 162 9,Ac 164 7 1,Ae 165 164 3,Ac 166 7 4,Ab 167 166,Dt 168 167 0 5,Ae 169 168 5,Cs 170 51 159 163 165 169,Aa 8 170] [8])<|.ret) [.tmp 8]:=by decide +kernel
theorem ky (n:Nat) (_ih_51:∀ (s_0:AP) (c:AB) (m:AH) (w:AL),Ct prog (BB n s_0 c m w) 51 [BX s_0,AK c,BP m,CQ w] (fun r=>.sh (eB r))) (s_0:AP) (c:AB) (m:AH) (w:AL):Ct prog (BB (n+1) s_0 c m w) 51 [BX s_0,AK c,BP m,CQ w] (fun r=>.sh (eB r)):=Fi lv fun r h hw hR=>by
  unfold BB at h
  have:HA 1 84 83 0 fun (i1:Int) (_:Unit)=>[(84,.tv (eI i1))]:=⟨⟩
  exact au
theorem kx:∀ n:Nat,(∀ (s_0:AP) (c:AB) (m:AH) (w:AL),Ct prog (BB n s_0 c m w) 51 [BX s_0,AK c,BP m,CQ w] (fun r=>.sh (eB r))):=by
  intro n
  induction n with
  | zero=>exact (fun s_0 c m w=>⟨fun _ h=>by cases h⟩)
  | succ n ih=>exact ky n ih
instance qw (s_0:AP) (c:AB) (m:AH) (w:AL):Ct prog (EU s_0 c m w) 51 [BX s_0,AK c,BP m,CQ w] (fun r=>.sh (eB r)):=⟨fun r h=>by
  obtain ⟨N,hN⟩:=DL h
  exact ((kx N) s_0 c m w).snd r (hN N (Nat.le_refl _))⟩
theorem lU:CK f23 (Rq [Af 7 0,Af 8 1,Af 9 2,Af 10 3,Af 11 4,Af 13 6,Aj 14] [5,7,8,9,10,11,13]<|Rq [Ae 15 7 2,Ae 16 8 5,Ae 17 9 9,Ae 18 10 3,Ae 19 11 3,Aa 20 5,Du 21 47 15 16 17 18 19 20,Ba 22 21 0,Aa 23 22,Bg 24 7 2 23,Bg 25 10 3 23,Av 26 5 23,⟨some 27,.bld [.list 4 [],.list 7 [],.list 1 [],.list 3 [],.list 1 [],.bool false] [(0,2,.s 24),(2,3,.s 25),(5,1,.s 26)],some (23,true)⟩,Bg 28 9 9 23,Bg 29 11 3 23,Bg 30 13 5 23,Ga 31 51 27 28 29 30 23,Ar 32 23 31,Aa 14 32] [14]<|.ret) [.tmp 14]:=by decide +kernel
instance qX (t:AD) (p:Pattern) (c:AB) (h_3:AZ) (m:AH) (injective:Bool) (w:AL):Ct prog (CM t p c h_3 m injective w) 23 [AS t,BC p,AK c,FK h_3,BP m,eB injective,CQ w] (fun r=>.sh (eB r)):=Fi lU fun r h hw hR=>by
  unfold CM at h
  exact au
theorem lZ:CK f35 (Rq [Dd 0 4 7] [0]<|Rq [⟨some 1,.bld [.str ⟨#[]⟩,.int .i64 0,.int .i64 0,.list 1 []] [(0,1,.c (.str ⟨#[98,97,108,97,110,99,101]⟩)),(1,1,.c (.int .i64 (-1000))),(2,1,.c (.int .i64 1000))],none⟩,Bq 2 4 1,⟨some 3,.bld [.str ⟨#[]⟩,.int .i64 0,.bool false,.list 4 []] [(0,1,.c (.str ⟨#[65,99,99,111,117,110,116]⟩)),(1,1,.c (.int .i64 (-1))),(2,1,.c (.bool true)),(3,1,.s 2)],none⟩,⟨some 4,.bld [.str ⟨#[]⟩,.int .i64 0,.bool false,.list 4 []] [(0,1,.c (.str ⟨#[67,97,115,104]⟩)),(1,1,.c (.int .i64 0))],none⟩,⟨some 5,.lst 1 [.c (.str ⟨#[111,112,101,110]⟩),.c (.str ⟨#[99,108,111,115,101,100]⟩)],none⟩,⟨some 6,.bld [.str ⟨#[]⟩,.int .i64 0,.int .i64 0,.list 1 []] [(0,1,.c (.str ⟨#[115,116,97,116,101]⟩)),(2,1,.c (.int .i64 1)),(3,1,.s 5)],none⟩,Bq 7 4 6,⟨some 8,.bld [.str ⟨#[]⟩,.int .i64 0,.bool false,.list 4 []] [(0,1,.c (.str ⟨#[76,111,97,110]⟩)),(1,1,.c (.int .i64 0)),(3,1,.s 7)],none⟩,⟨some 9,.bld [.str ⟨#[]⟩,.int .i64 0,.bool false,.list 4 []] [(0,1,.c (.str ⟨#[80,101,114,115,111,110]⟩)),(1,1,.c (.int .i64 (-1)))],none⟩,⟨some 10,.lst 4 [.s 3,.s 4,.s 8,.s 9],none⟩,⟨some 11,.bld [.str ⟨#[]⟩,.int .i64 0,.int .i64 0,.int .i64 0,.int .i64 0,.int .i64 0,.int .i64 0] [(0,1,.c (.str ⟨#[111,119,110,115]⟩)),(1,1,.c (.int .i64 3)),(2,1,.c (.int .i64 0)),(4,1,.c (.int .i64 (-1))),(5,1,.c (.int .i64 1)),(6,1,.c (.int .i64 1))],none⟩,⟨some 12,.bld [.str ⟨#[]⟩,.int .i64 0,.int .i64 0,.int .i64 0,.int .i64 0,.int .i64 0,.int .i64 0] [(0,1,.c (.str ⟨#[112,97,121,115]⟩)),(1,1,.c (.int .i64 1)),(2,1,.c (.int .i64 1)),(4,1,.c (.int .i64 (-1))),(6,1,.c (.int .i64 (-1)))],none⟩,Ds 13 7 11 12,⟨some 14,.bldo [10,13],none⟩,⟨none,.stx 2 0 14,none⟩] [0]<|.ret) [.cell 0 (some 2)]:=by decide +kernel
instance qc :Ct prog (MJ ) 35 [] (fun r=>.oag [⟨true,lN r.Nodes⟩,⟨true,lX r.Edges⟩]):=Fi lZ fun r h hw hR=>by
  unfold MJ at h
  exact au
theorem lb:CK f36 (Rq [Gn 0 1 3 4 0 5 0 9 1 1 1 3 4 0 5] [0]<|Rq [Fh 6 1 3 0,Ek 7 0 0 0 1 1 0 2 1 1,Bq 8 3 7,Cz 9 1 3 0 1 6 1 1 8,Dd 1 1 3,Am 2 1 9] [0,1]<|Rq [Gp 10 1 3 0 0,Ek 11 0 0 0 1 1 0 2 1 1,Ek 12 0 0 0 1 1 0 2 1 2,Ds 13 3 11 12,Cz 14 1 3 0 1 10 1 1 13,Dd 2 1 3,Am 2 2 14] [0,1,2]<|Rq [Fj 15 0 0 0 1 0,Gq 16 0 0 0 0 0 1 1 2 2 15,Dp 3 0 0 0 0,Am 4 3 16] [0,1,2,3]<|Rq [Ae 17 2 2,Ae 18 3 4,Fj 19 0 0 0 1 1,Gq 20 0 0 0 0 0 1 2 2 2 19,Ds 21 4 18 20,Fj 22 0 0 0 1 0,Fj 23 0 0 0 1 1,⟨some 24,.bld [.int .i64 0,.int .i64 0,.int .i64 0,.int .i64 0,.int .i64 0] [(0,1,.c (.int .i64 1)),(1,2,.s 22),(3,2,.s 23)],none⟩,Bq 25 5 24,⟨some 26,.bld [.list 1 [],.list 3 [],.list 4 [],.int .i64 0,.list 5 []] [(0,2,.s 17),(3,1,.c (.int .i64 2)),(2,1,.s 21),(4,1,.s 25)],none⟩,Dx 4 1 3 4 0 5,Am 5 4 26] [0,1,3,4]<|Rq [Fh 27 1 0 1,Dj 28 1 0,Cz 29 1 1 0 1 27 1 1 28,Ae 30 4 5,⟨some 31,.bld [.int .i64 0,.list 9 [],.list 1 [],.list 1 [],.list 1 [],.list 3 [],.list 4 [],.int .i64 0,.list 5 []] [(0,1,.c (.int .i64 1))],none⟩,Bq 32 9 31,⟨some 33,.bld [.int .i64 0,.list 9 [],.list 1 [],.list 1 [],.list 1 [],.list 3 [],.list 4 [],.int .i64 0,.list 5 []] [(0,1,.c (.int .i64 5)),(2,2,.s 29),(4,5,.s 30),(1,1,.s 32)],none⟩,Dy 5 0 9 1 1 1 3 4 0 5,Am 9 5 33] [0,1,3,5]<|Rq [Ae 34 1 2,Ae 35 3 4,Bq 36 4 35,⟨some 37,.bld [.list 1 [],.list 3 [],.list 4 [],.int .i64 0,.list 5 []] [(0,2,.s 34),(3,1,.c (.int .i64 1)),(2,1,.s 36)],none⟩,Ae 38 5 9,⟨some 39,.bld [.list 1 [],.list 3 [],.list 4 [],.int .i64 0,.list 5 [],.int .i64 0,.list 9 [],.list 1 [],.list 1 [],.list 1 [],.list 3 [],.list 4 [],.int .i64 0,.list 5 []] [(0,5,.s 37),(5,9,.s 38)],none⟩,Am 14 0 39] [0]<|.ret) [.cell 0 (some 14)]:=by decide +kernel
instance qe :Ct prog (MH ) 36 [] (fun r=>.sh (GQ r)):=Fi lb fun r h hw hR=>by
  unfold MH at h
  exact au
theorem lF:CK f11 (Rq [Aj 0] []<|Rq [El 10 35,El 11 36,Dd 1 4 7,Gn 2 1 3 4 0 5 0 9 1 1 1 3 4 0 5,Am 2 1 10,Am 14 2 11] [1,2]<|Rq [Gp 12 1 3 1 1,Ek 13 0 0 0 1 1 0 2 1 1,Ek 14 0 0 0 1 1 0 2 1 2,Ds 15 3 13 14,Cz 16 1 3 0 1 12 1 1 15,Dj 17 1 10,Dj 18 1 5,⟨some 19,.lst 1 [.c (.list 1 []),.s 17,.s 18],none⟩,Ej 20 1 3 1 0 2 16 2 1 19,Ff 3 1 3 1,Am 3 3 20] [1,2,3]<|Rq [Fh 21 1 0 2,Dj 22 1 1,Cz 23 1 1 0 1 21 1 1 22,Dj 24 1 5,Ej 25 1 1 1 0 2 23 2 1 24,Ff 4 1 1 1,Am 3 4 25] [1,2,3,4]<|Rq [Fh 26 1 0 1,Dj 27 1 0,Cz 28 1 1 0 1 26 1 1 27,Dj 29 1 10,Ej 30 1 1 1 0 2 28 2 1 29,Ff 5 1 1 1,Am 3 5 30] [1,2,3,4,5]<|Rq [Ae 32 1 2,Ac 33 2 0,Ae 34 33 5,Ac 35 2 5,Ae 36 35 9,Ae 37 3 3,Ae 38 4 3,Gr 39 20 32 34 36 37 38,Aa 31 39,Ak 40 31 0,Ak 41 31 1,By 6 0 1 1 1 5,Am 5 6 40,Aa 7 41] [1,2,3,4,5,6,7]<|Rq [Ae 43 1 2,Ac 44 2 0,Ae 45 44 5,Ac 46 2 5,Ae 47 46 9,Ae 48 3 3,Ae 49 5 3,Gr 50 18 43 45 47 48 49,Aa 42 50,Ak 51 42 0,Ak 52 42 1,Aa 8 51,Aa 9 52] [1,2,3,4,6,7,8,9]<|Rq [Aa 53 7,Ba 54 53 0,Aa 55 54,Av 56 9 55,Cx 57 56 0 55,Ar 58 55 57,Aa 59 58,Av 60 8 59,Dc 61 60 59,Ar 62 59 61,Aa 63 62,Aw 64 6 1 63,Bn 65 64 2 63,Ax 66 65 63,Ce 67 66 63,Cx 68 67 2 63,Ar 69 63 68,Aa 70 69,Aw 71 6 1 70,Bn 72 71 2 70,Ax 73 72 70,⟨some 74,.iad (.s 73) (.c (.int .i64 1)) 1,some (70,true)⟩,Ax 75 74 70,Cx 76 75 10 70,Ar 77 70 76,Aa 78 77,Bg 79 1 2 78,Aw 80 2 0 78,Bg 81 80 5 78,Aw 82 2 5 78,Bg 83 82 9 78,Bg 84 3 3 78,Bg 85 4 3 78,Bg 86 6 5 78,⟨some 87,.call 23 [.s 79,.s 81,.s 83,.s 84,.s 85,.c (.bool true),.s 86],some (78,true)⟩,Ar 88 78 87,Aa 0 88] [0]<|.ret) [.tmp 0]:=by decide +kernel
instance qM :Ct prog (FD ) 11 [] (fun r=>.sh (eB r)):=Fi lF fun r h hw hR=>by
  unfold FD at h
  exact au
theorem lG:CK f12 (Rq [Af 1 0,Aj 2] [1]<|Sq (Rq [Ac 9 1 0,Ab 10 9,Ag 11 10,Bo 12 11 20,Aa 13 12,Ap 14 1 1 13,Al 15 14 13,Bh 16 15 13,Cf 17 16 30 13,Aq 18 13 17] [1,18]<|Co 18 (Rq [Aj 2] [2]<|.ret)<|Sk [1])<|Rq [Ad 3 0] [1,3]<|Sq (Rq [Ad 4 0] [1,3,4]<|Bl 0<|Lo [1,3,4]<|Sq (Rq [Aa 19 4,Ac 20 1 0,Ab 21 20,Ag 22 21,An 23 19 22] [1,3,4,23]<|Co 23 (Sk [1,3,4])<|Ex 0 [1])<|Sq (Bl 1<|Rq [Aa 26 3,Ac 27 1 0,Ab 28 27,Aa 29 4,Ai 30 28 29 4,Ah 31 30 3,Ab 32 31,Ag 33 32,Br 34 26 33,Aa 3 34] [1,3,4]<|Sq (Rq [Aa 35 3,Bo 36 35 30,Aa 37 36,Ap 38 1 0 37,Al 39 38 37,Au 40 4 37,Bw 41 39 40 4 37,Bp 42 41 0 37,Al 43 42 37,⟨some 44,.slen (.s 43),some (37,false)⟩,Cf 45 44 40 37,Aq 46 37 45] [1,3,4,46]<|Co 46 (Rq [Aj 2] [2]<|.ret)<|Sk [1,3,4])<|Rq [Ad 5 0] [1,3,4,5]<|Bl 2<|Lo [1,3,4,5]<|Sq (Rq [Aa 47 5,Ac 48 1 0,Ab 49 48,Aa 50 4,Ai 51 49 50 4,Ah 52 51 3,Ab 53 52,Ag 54 53,An 55 47 54] [1,3,4,5,55]<|Co 55 (Sk [1,3,4,5])<|Ex 2 [1,3,4])<|Sq (Bl 3<|Rq [Ac 58 1 0,Ab 59 58,Aa 60 4,Ai 61 59 60 4,Ah 62 61 3,Ab 63 62,Aa 64 5,Ai 65 63 64 4,Ae 66 65 4,Do 6 0 0 1,Am 4 6 66] [1,3,4,5,6]<|Sq (Rq [Ac 67 6 0,Ab 68 67,Cn 69 68,Bo 70 69 40,Aa 71 70,Ap 72 6 3 71,Al 73 72 71,Bh 74 73 71,Cf 75 74 25 71,Aq 76 71 75] [1,3,4,5,6,76]<|Co 76 (Rq [Aj 2] [2]<|.ret)<|Sk [1,3,4,5,6])<|Rq [Ad 7 0] [1,3,4,5,6,7]<|Bl 4<|Lo [1,3,4,5,6,7]<|Sq (Rq [Aa 77 7,Ac 78 6 3,Ab 79 78,Ag 80 79,An 81 77 80] [1,3,4,5,6,7,81]<|Co 81 (Sk [1,3,4,5,6,7])<|Ex 4 [1,3,4,5])<|Sq (Bl 5<|Rq [Ac 84 6 3,Ab 85 84,Aa 86 7,Ai 87 85 86 1,Ab 88 87,Cn 89 88,Bo 90 89 40] [1,3,4,5,6,7,90]<|Co 90 (Rq [Aj 2] [2]<|.ret)<|Sk [1,3,4,5,6,7])<|Re [Aa 82 7,Ao 83 82 1,Aa 7 83] [1,3,4,5,6,7])<|Re [Aa 56 5,Ao 57 56 1,Aa 5 57] [1,3,4,5])<|Re [Aa 24 4,Ao 25 24 1,Aa 4 25] [1,3,4])<|Sq (Rq [Ad 8 0] [1,8]<|Bl 6<|Lo [1,8]<|Sq (Rq [Aa 91 8,Ac 92 1 1,Ab 93 92,Ag 94 93,An 95 91 94] [1,8,95]<|Co 95 (Sk [1,8])<|Ex 6 [])<|Sq (Bl 7<|Rq [Ac 98 1 1,Ab 99 98,Aa 100 8,Ai 101 99 100 7,Ah 102 101 0,Ab 103 102,Cn 104 103,Bo 105 104 40] [1,8,105]<|Co 105 (Rq [Aj 2] [2]<|.ret)<|Sk [1,8])<|Re [Aa 96 8,Ao 97 96 1,Aa 8 97] [1,8])<|Rq [Bt 2] [2]<|.ret) [.tmp 2]:=by decide +kernel
instance qN (t:AD):Ct prog (Kw t) 12 [AS t] (fun r=>.sh (eB r)):=Fi lG fun r h hw hR=>by
  unfold Kw at h
  have:HA 0 4 1 0 fun (i0:Int) (s0:Int)=>[(3,.tv (eI s0)),(4,.tv (eI i0))]:=⟨⟩
  have:HW 2 fun (s2:Int)=>[(5,.tv (eI s2))]:=⟨⟩
  have:HW 4 fun (s4:Int)=>[(7,.tv (eI s4))]:=⟨⟩
  have:HA 6 8 1 1 fun (i6:Int) (_:Unit)=>[(8,.tv (eI i6))]:=⟨⟩
  exact au
theorem lf:CK f38 (Rq [Af 1 0,Aj 2] [1]<|Rq [Ac 3 1 0,Ab 4 3,Ag 5 4,Gb 6 5 45,Aa 7 6,Aw 8 1 1 7,Ax 9 8 7,Ce 10 9 7,Cj 11 10 90 7,Ar 12 7 11,Aa 2 12] [2]<|.ret) [.tmp 2]:=by decide +kernel
instance qh (g:Graph):Ct prog (Ir g) 38 [B9 g] (fun r=>.sh (eB r)):=Fi lf fun r h hw hR=>by
  unfold Ir at h
  exact au
theorem lJ:CK f14 (Rq [Af 1 0,Aj 2] [1]<|Rq [Ac 3 1 0,Ae 4 3 2,Az 5 38 4,Aa 6 5,Aw 7 1 2 6,Ax 8 7 6,Ce 9 8 6,Cj 10 9 15 6,Ar 11 6 10,Aa 12 11,Aw 13 1 4 12,Ax 14 13 12,Ce 15 14 12,Cj 16 15 15 12,Ar 17 12 16,Aa 2 17] [2]<|.ret) [.tmp 2]:=by decide +kernel
instance qP (p:Pattern):Ct prog (Ky p) 14 [BC p] (fun r=>.sh (eB r)):=Fi lJ fun r h hw hR=>by
  unfold Ky at h
  exact au
theorem mC:CK f78 (Rq [Af 2 0,Aj 4] [1,2]<|Rq [Ac 5 2 0,Ab 6 5,Ag 7 6,Ac 8 2 1,Ab 9 8,Ag 10 9,Br 11 7 10,Aa 12 1,⟨some 13,.bin (.i) .leq (.s 11) (.s 12),none⟩,Aa 4 13] [4]<|.ret) [.tmp 4]:=by decide +kernel
instance rC (m:Morphism) (n:Int):Ct prog (NJ m n) 78 [BL m,eI n] (fun r=>.sh (eB r)):=Fi mC fun r h hw hR=>by
  unfold NJ at h
  exact au
theorem lc:CK f37 (Rq [Af 2 0,Ad 4 0] [1,2]<|Rq [Aa 6 1,Cw 7 6 1,Aa 1 7] [1,2]<|Sq (Rq [Ac 8 2 4,Ae 9 8 5,Az 10 14 9,Bb 11 10,Aa 12 11,Ap 13 2 2 12,Cc 14 13 2 12,⟨some 15,.call 78 [.s 14,.c (.int .i64 140)],some (12,false)⟩,Bk 16 15 12,Aq 17 12 16] [1,2,17]<|Co 17 (Rq [Bs 4 (-1)] [4]<|.ret)<|Sk [1,2])<|Sq (Rq [Ad 5 0] [1,2,5]<|Bl 0<|Lo [1,2,5]<|Sq (Rq [Aa 18 5,Ac 19 2 1,Ab 20 19,Ag 21 20,An 22 18 21,Aa 23 22,Av 24 1 23,Fg 25 24 0 23,Ar 26 23 25] [1,2,5,26]<|Co 26 (Sk [1,2,5])<|Ex 0 [1])<|Sq (Bl 1<|Re [Ac 29 2 1,Ab 30 29,Aa 31 5,Ai 32 30 31 9,Ae 33 32 9,Aa 34 1,Ay 35 37 33 34,Aa 1 35] [1,2,5])<|Re [Aa 27 5,Ao 28 27 1,Aa 5 28] [1,2,5])<|Rq [Aa 36 1,Aa 4 36] [4]<|.ret) [.tmp 4]:=by decide +kernel
theorem ki (n:Nat) (_ih_37:∀ (c:AB) (most:Int),Ct prog (FF n c most) 37 [AK c,eI most] (fun r=>.sh (eI r))) (c:AB) (most:Int):Ct prog (FF (n+1) c most) 37 [AK c,eI most] (fun r=>.sh (eI r)):=Fi lc fun r h hw hR=>by
  unfold FF at h
  have:HW 0 fun (s0:Int × Int)=>[(1,.tv (eI s0.1)),(5,.tv (eI s0.2))]:=⟨⟩
  exact au
theorem kh:∀ n:Nat,(∀ (c:AB) (most:Int),Ct prog (FF n c most) 37 [AK c,eI most] (fun r=>.sh (eI r))):=by
  intro n
  induction n with
  | zero=>exact (fun c most=>⟨fun _ h=>by cases h⟩)
  | succ n ih=>exact ki n ih
instance qf (c:AB) (most:Int):Ct prog (Ot c most) 37 [AK c,eI most] (fun r=>.sh (eI r)):=⟨fun r h=>by
  obtain ⟨N,hN⟩:=DL h
  exact ((kh N) c most).snd r (hN N (Nat.le_refl _))⟩
theorem lH:CK f13 (Rq [Af 1 0,Aj 2] [1]<|Rq [Ae 3 1 9,Er 4 37 3 40,Bj 5 4 0,Aa 2 5] [2]<|.ret) [.tmp 2]:=by decide +kernel
instance qO (c:AB):Ct prog (L9 c) 13 [AK c] (fun r=>.sh (eB r)):=Fi lH fun r h hw hR=>by
  unfold L9 at h
  exact au
theorem ft:CK f186 (Rq [Af 2 0,Bc 4 4] [1,2]<|Sq (Rq [Aa 5 1,Ca 6 5 0] [1,2,6]<|Co 6 (Rq [Bc 4 4] [4]<|.ret)<|Sk [1,2])<|Sq (Dr [4,7,8,9,10,11,12,13,14,15,16,17,18,19,20,21,22,23] [Dh 7 4,Ae 8 2 2,Ac 9 2 0,Ab 10 9,Aa 11 1,Ai 12 10 11 4,Ah 13 12 1,Ab 14 13,Ay 15 186 8 14,Cb 16 4 7 15,Ac 17 2 0,Ab 18 17,Aa 19 1,Ai 20 18 19 4,Ah 21 20 3,Ab 22 21,Cb 23 4 16 22,Be 4 23] [4])<|.ret) [.tmp 4]:=by decide +kernel
theorem d9 (n:Nat) (_ih_186:∀ (t:AD) (a:Int),Ct prog (Gx n t a) 186 [AS t,eI a] (fun r=>.own (lA r))) (t:AD) (a:Int):Ct prog (Gx (n+1) t a) 186 [AS t,eI a] (fun r=>.own (lA r)):=Fi ft fun r h hw hR=>by
  unfold Gx at h
  exact au
theorem d8:∀ n:Nat,(∀ (t:AD) (a:Int),Ct prog (Gx n t a) 186 [AS t,eI a] (fun r=>.own (lA r))):=by
  intro n
  induction n with
  | zero=>exact (fun t a=>⟨fun _ h=>by cases h⟩)
  | succ n ih=>exact d9 n ih
instance oT (t:AD) (a:Int):Ct prog (Lt t a) 186 [AS t,eI a] (fun r=>.own (lA r)):=⟨fun r h=>by
  obtain ⟨N,hN⟩:=DL h
  exact ((d8 N) t a).snd r (hN N (Nat.le_refl _))⟩
theorem fu:CK f188 (Rq [Aj 6] [0,1,2]<|Rq [Aa 7 0,Aa 8 1,Cm 9 7 8,Aa 10 9,Av 11 0 10,Av 12 2 10,Ec 13 11 12 10,Ar 14 10 13,Aa 6 14] [6]<|.ret) [.tmp 6]:=by decide +kernel
instance oU (n:Int) (low:Int) (high:Int):Ct prog (D9 n low high) 188 [eI n,eI low,eI high] (fun r=>.sh (eB r)):=Fi fu fun r h hw hR=>by
  unfold D9 at h
  exact au
theorem iF:CK f280 (Rq [Af 1 0,Cp 2] [1]<|Sq (Rq [Ac 3 1 0,Ab 4 3,Ba 5 4 3] [1,5]<|Co 5 (Rq [Ac 6 1 1,Ab 7 6,⟨some 8,.bin (.s) .add (.c (.str ⟨#[34]⟩)) (.s 7),none⟩,⟨some 9,.bin (.s) .add (.s 8) (.c (.str ⟨#[34]⟩)),none⟩,Aa 2 9] [2]<|.ret)<|Sk [1])<|Rq [Ac 10 1 1,Ab 11 10,Aa 2 11] [2]<|.ret) [.tmp 2]:=by decide +kernel
instance pk (t:FI):Ct prog (MW t) 280 [Qg t] (fun r=>.sh (eS r)):=Fi iF fun r h hw hR=>by
  unfold MW at h
  exact au
theorem iQ:CK f302 (Rq [Aj 2] [0]<|Rq [Aa 3 0,Eb 4 3 97,Aa 5 4,Av 6 0 5,Dk 7 6 122 5,Ar 8 5 7,Aa 9 8,Au 10 0 9,Ge 11 10 65 9,Au 12 11 9,Av 13 0 12,Dk 14 13 90 12,Cd 15 12 14 9,Aq 16 9 15,Aa 2 16] [2]<|.ret) [.tmp 2]:=by decide +kernel
instance p4 (c:Int):Ct prog (Jn c) 302 [Qh c] (fun r=>.sh (eB r)):=Fi iQ fun r h hw hR=>by
  unfold Jn at h
  exact au
theorem iR:CK f303 (Rq [Aj 2] [0]<|Rq [Aa 3 0,Eb 4 3 48,Aa 5 4,Av 6 0 5,Dk 7 6 57 5,Ar 8 5 7,Aa 2 8] [2]<|.ret) [.tmp 2]:=by decide +kernel
instance p5 (c:Int):Ct prog (IL c) 303 [Qh c] (fun r=>.sh (eB r)):=Fi iR fun r h hw hR=>by
  unfold IL at h
  exact au
theorem iS:CK f304 (Rq [Ad 6 0] [0,1,2]<|Rq [Ad 7 0] [0,1,2,7]<|Sq (Bl 0<|Lo [0,1,2,7]<|Sq (Rq [Aa 8 1,Aa 9 7,Br 10 8 9,Aa 11 0,Cn 12 11,An 13 10 12,Aa 14 13,Av 15 0 14,Av 16 1 14,Av 17 7 14,Ea 18 16 17 14,Fm 19 15 18 14,Bx 20 303 19 14,Av 21 20 14,Au 22 2 21,Bk 23 22 21,Au 24 23 21,Av 25 0 24,Av 26 1 24,Av 27 7 24,Ea 28 26 27 24,Fm 29 25 28 24,Bx 30 302 29 24,Av 31 30 24,Au 32 0 31,Au 33 1 31,Au 34 7 31,⟨some 35,.bin (.i) .add (.s 33) (.s 34),some (31,false)⟩,⟨some 36,.sidx (.s 32) (.s 35),some (31,false)⟩,Gf 37 36 95 31,Dn 38 31 37 24,Cd 39 24 38 21,Dn 40 21 39 14,Ar 41 14 40] [0,1,2,7,41]<|Co 41 (Sk [0,1,2,7])<|Ex 0 [7])<|Bl 1<|Re [Aa 42 7,Ao 43 42 1,Aa 7 43] [0,1,2,7])<|Rq [Aa 44 7,Aa 6 44] [6]<|.ret) [.tmp 6]:=by decide +kernel
instance p6 (s_0:ByteArray) (AA:Int) (digits:Bool):Ct prog (L6 s_0 AA digits) 304 [eS s_0,eI AA,eB digits] (fun r=>.sh (eI r)):=Fi iS fun r h hw hR=>by
  unfold L6 at h
  have:HW 0 fun (s0:Int)=>[(7,.tv (eI s0))]:=⟨⟩
  exact au
theorem iT:CK f305 (Rq [Ad 4 0] [0,1]<|Sq (Rq [Ad 5 1] [0,1,5]<|Bl 0<|Lo [0,1,5]<|Sq (Rq [Aa 7 1,Aa 8 5,Br 9 7 8,Aa 10 0,Cn 11 10,An 12 9 11] [0,1,5,12]<|Co 12 (Sk [0,1,5])<|Ex 0 [])<|Sq (Bl 1<|Rq [Aa 15 0,Aa 16 1,Aa 17 5,Br 18 16 17,⟨some 19,.sidx (.s 15) (.s 18),none⟩,Aa 6 19] [0,1,5,6]<|Sq (Rq [Aa 20 6,Fo 21 20 34] [0,1,5,6,21]<|Co 21 (Rq [Aa 22 5,Ao 23 22 1,Aa 4 23] [4]<|.ret)<|Sk [0,1,5,6])<|Rq [Aa 24 6,⟨some 25,.bin (.i) .lss (.s 24) (.c (.int .u8 32)),none⟩,Aa 26 25,Au 27 6 26,⟨some 28,.bin (.i) .gtr (.s 27) (.c (.int .u8 126)),some (26,false)⟩,Aq 29 26 28] [0,1,5,29]<|Co 29 (Rq [Ad 4 0] [4]<|.ret)<|Sk [0,1,5])<|Re [Aa 13 5,Ao 14 13 1,Aa 5 14] [0,1,5])<|Rq [Ad 4 0] [4]<|.ret) [.tmp 4]:=by decide +kernel
instance p7 (s_0:ByteArray) (AA:Int):Ct prog (Jo s_0 AA) 305 [eS s_0,eI AA] (fun r=>.sh (eI r)):=Fi iT fun r h hw hR=>by
  unfold Jo at h
  have:HW 0 fun (s0:Int)=>[(5,.tv (eI s0))]:=⟨⟩
  exact au
theorem iU:CK f306 (Rq [Bc 0 1] []<|Rq [⟨some 1,.lst 1 [.c (.str ⟨#[45,62]⟩),.c (.str ⟨#[60,61]⟩),.c (.str ⟨#[62,61]⟩),.c (.str ⟨#[61,61]⟩),.c (.str ⟨#[33,61]⟩),.c (.str ⟨#[123]⟩),.c (.str ⟨#[125]⟩),.c (.str ⟨#[40]⟩),.c (.str ⟨#[41]⟩),.c (.str ⟨#[91]⟩),.c (.str ⟨#[93]⟩),.c (.str ⟨#[44]⟩),.c (.str ⟨#[59]⟩),.c (.str ⟨#[58]⟩),.c (.str ⟨#[61]⟩),.c (.str ⟨#[43]⟩),.c (.str ⟨#[45]⟩),.c (.str ⟨#[42]⟩),.c (.str ⟨#[60]⟩),.c (.str ⟨#[62]⟩),.c (.str ⟨#[33]⟩),.c (.str ⟨#[38]⟩),.c (.str ⟨#[124]⟩),.c (.str ⟨#[46]⟩),.c (.str ⟨#[63]⟩)],none⟩,Be 0 1] [0]<|.ret) [.tmp 0]:=by decide +kernel
instance p8 :Ct prog (Ls ) 306 [] (fun r=>.own (lB r)):=Fi iU fun r h hw hR=>by
  unfold Ls at h
  exact au
theorem iG:CK f281 (Rq [Gs 4 0 0,Ad 5 0,Ad 6 0] [0,1,4]<|Rq [Aa 14 0,Aa 15 1,⟨some 16,.sidx (.s 14) (.s 15),none⟩,Aa 7 16] [0,1,4,7]<|Sq (Rq [Aa 17 7,Az 18 302 17,Aa 19 18,Au 20 7 19,Df 21 303 20 19,Aq 22 19 21] [0,1,4,7,22]<|Co 22 (Rq [Aa 23 0,Aa 24 1,Aa 25 7,Az 26 303 25,Bf 27 304 23 24 26,Aa 8 27] [0,1,4,7,8]<|Rq [Ad 9 1,Ad 10 20] [0,1,4,7,8,9,10]<|Sq (Rq [Aa 28 7,Az 29 303 28] [0,1,4,8,9,10,29]<|Co 29 (Re [Ad 9 2,Ad 10 9] [0,1,4,8,9,10])<|Sk [0,1,4,8,9,10])<|Sq (Rq [Aa 30 8,Aa 31 10,Eg 32 30 31] [0,1,4,8,9,32]<|Co 32 (Rq [Fk 33 0 0,Am 3 4 33,Ad 5 0,Ad 6 3] [4,5,6]<|.ret)<|Sk [0,1,4,8,9])<|Rq [Aa 34 9,Aa 35 0,Aa 36 1,Aa 37 1,Aa 38 8,Br 39 37 38,⟨some 40,.sslc (.s 35) (some (.s 36)) (some (.s 39)),none⟩,⟨some 41,.bld [.int .i64 0,.str ⟨#[]⟩,.int .i64 0] [(0,1,.s 34),(1,1,.s 40)],none⟩,Aa 42 8,Am 3 4 41,Aa 5 42,Ad 6 0] [4,5,6]<|.ret)<|Sk [0,1,4,7])<|Sq (Rq [Aa 43 7,Fo 44 43 34] [0,1,4,44]<|Co 44 (Rq [Aa 45 0,Aa 46 1,Ay 47 305 45 46,Aa 11 47] [0,1,4,11]<|Sq (Rq [Aa 48 11,Ba 49 48 0] [0,1,4,11,49]<|Co 49 (Rq [Fk 50 0 0,Am 3 4 50,Ad 5 0,Ad 6 2] [4,5,6]<|.ret)<|Sk [0,1,4,11])<|Sq (Rq [Aa 51 11,Cw 52 51 2,Bo 53 52 60] [0,1,4,11,53]<|Co 53 (Rq [Fk 54 0 0,Am 3 4 54,Ad 5 0,Ad 6 3] [4,5,6]<|.ret)<|Sk [0,1,4,11])<|Rq [Aa 55 0,Aa 56 1,Ao 57 56 1,Aa 58 1,Aa 59 11,Br 60 58 59,Cw 61 60 1,⟨some 62,.sslc (.s 55) (some (.s 57)) (some (.s 61)),none⟩,En 63 0 0 0 1 3 1 1 62,Aa 64 11,Am 3 4 63,Aa 5 64,Ad 6 0] [4,5,6]<|.ret)<|Sk [0,1,4])<|Rq [El 65 306,Be 12 65] [0,1,4,12]<|Sq (Rq [Ad 13 0] [0,1,4,12,13]<|Bl 0<|Lo [0,1,4,12,13]<|Sq (Rq [Aa 66 13,Aa 67 12,Ag 68 67,An 69 66 68] [0,1,4,12,13,69]<|Co 69 (Sk [0,1,4,12,13])<|Ex 0 [4])<|Sq (Bl 1<|Sq (Dr [72,73,74,75,76,77,78,79,80,81,82,83,84,85,86,87,88,89,90,91,92,93,94,95,96,97,98] [Aa 72 1,Aa 73 12,Aa 74 13,Ai 75 73 74 1,Ab 76 75,Cn 77 76,Br 78 72 77,Aa 79 0,Cn 80 79,⟨some 81,.bin (.i) .leq (.s 78) (.s 80),none⟩,Aa 82 81,Av 83 0 82,Av 84 1 82,Av 85 1 82,Av 86 12 82,Av 87 13 82,Cy 88 86 87 1 82,Ax 89 88 82,Fp 90 89 82,Ea 91 85 90 82,⟨some 92,.sslc (.s 83) (some (.s 84)) (some (.s 91)),some (82,true)⟩,Av 93 12 82,Av 94 13 82,Cy 95 93 94 1 82,Ax 96 95 82,⟨some 97,.bin (.s) .eql (.s 92) (.s 96),some (82,true)⟩,Ar 98 82 97] [0,1,4,12,13,98])<|Co 98 (Sq (Dr [4,5,6,99,100,101,102,103,104,105,106,107,108] [Aa 99 12,Aa 100 13,Ai 101 99 100 1,Ab 102 101,En 103 0 0 0 1 4 1 1 102,Aa 104 12,Aa 105 13,Ai 106 104 105 1,Ab 107 106,Cn 108 107,Am 3 4 103,Aa 5 108,Ad 6 0] [4,5,6])<|.ret)<|Sk [0,1,4,12,13])<|Re [Aa 70 13,Ao 71 70 1,Aa 13 71] [0,1,4,12,13])<|Rq [Fk 109 0 0,Am 3 4 109,Ad 5 0,Ad 6 2] [4,5,6]<|.ret) [.cell 4 (some 3),.tmp 5,.tmp 6]:=by decide +kernel
instance po (s_0:ByteArray) (AA:Int):Ct prog (L5 s_0 AA) 281 [eS s_0,eI AA] (fun r=>.tp [Qg r.1,eI r.2.1,eI r.2.2]):=Fi iG fun r h hw hR=>by
  unfold L5 at h
  have:HJ 29 fun (w1:Int × Int)=>[(9,.tv (eI w1.1)),(10,.tv (eI w1.2))]:=⟨⟩
  have:HA 0 13 12 0 fun (i0:Int) (s0:FI)=>[(4,.bx [⟨false,eI s0.Kind⟩,⟨false,eS s0.Text⟩,⟨false,eI s0.Line⟩]),(13,.tv (eI i0))]:=⟨⟩
  exact au
theorem g0:CK f253 (Rq [Af 1 0,Aj 2] [1]<|Rq [Ae 7 1 3,Az 8 280 7,Aa 3 8] [1,3]<|Sq (Rq [Aa 9 3,⟨some 10,.bin (.s) .eql (.s 9) (.c (.str ⟨#[]⟩)),none⟩] [1,3,10]<|Co 10 (Rq [Aj 2] [2]<|.ret)<|Sk [1,3])<|Rq [Aa 12 3,Er 13 281 12 0,Aa 11 13,Ak 14 11 0,Ak 15 11 1,Ak 16 11 2,Gs 4 0 0,Am 3 4 14,Aa 5 15,Aa 6 16] [1,3,4,5,6]<|Rq [Aa 17 6,Ba 18 17 0,Aa 19 18,Av 20 5 19,Av 21 3 19,Fp 22 21 19,Cu 23 20 22 19,Ar 24 19 23,Aa 25 24,Aw 26 4 0 25,Ax 27 26 25,Aw 28 1 0 25,Ax 29 28 25,Cu 30 27 29 25,Ar 31 25 30,Aa 2 31] [2]<|.ret) [.tmp 2]:=by decide +kernel
instance pR (t:FI):Ct prog (Lr t) 253 [Qg t] (fun r=>.sh (eB r)):=Fi g0 fun r h hw hR=>by
  unfold Lr at h
  exact au
theorem gS:CK f223 (Rq [Aj 2] [0]<|Rq [Aa 3 0,En 4 0 0 0 1 1 1 1 3,Az 5 253 4,Aa 2 5] [2]<|.ret) [.tmp 2]:=by decide +kernel
instance o2 (s_0:ByteArray):Ct prog (Gw s_0) 223 [eS s_0] (fun r=>.sh (eB r)):=Fi gS fun r h hw hR=>by
  unfold Gw at h
  exact au
theorem g5:CK f254 (Rq [Ad 2 0] [0]<|Sq (Rq [Aa 5 0,Ag 6 5,Bo 7 6 20] [0,7]<|Co 7 (Rq [Ad 2 3] [2]<|.ret)<|Sk [0])<|Sq (Rq [Ad 3 0] [0,3]<|Bl 0<|Lo [0,3]<|Sq (Rq [Aa 8 3,Aa 9 0,Ag 10 9,An 11 8 10] [0,3,11]<|Co 11 (Sk [0,3])<|Ex 0 [])<|Sq (Bl 1<|Sq (Rq [Aa 14 0,Aa 15 3,Ai 16 14 15 1,Ab 17 16,Az 18 223 17,Bb 19 18] [0,3,19]<|Co 19 (Rq [Ad 2 2] [2]<|.ret)<|Sk [0,3])<|Rq [Ad 4 0] [0,3,4]<|Bl 2<|Lo [0,3,4]<|Sq (Rq [Aa 20 4,Aa 21 3,An 22 20 21] [0,3,4,22]<|Co 22 (Sk [0,3,4])<|Ex 2 [0,3])<|Sq (Bl 3<|Sq (Dr [25,26,27,28,29,30,31,32,33] [Aa 25 0,Aa 26 4,Ai 27 25 26 1,Ab 28 27,Aa 29 0,Aa 30 3,Ai 31 29 30 1,Ab 32 31,Dg 33 28 32] [0,3,4,33])<|Co 33 (Rq [Ad 2 5] [2]<|.ret)<|Sk [0,3,4])<|Re [Aa 23 4,Ao 24 23 1,Aa 4 24] [0,3,4])<|Re [Aa 12 3,Ao 13 12 1,Aa 3 13] [0,3])<|Rq [Ad 2 0] [2]<|.ret) [.tmp 2]:=by decide +kernel
instance pS (l:List ByteArray):Ct prog (KO l) 254 [lB l] (fun r=>.sh (eI r)):=Fi g5 fun r h hw hR=>by
  unfold KO at h
  have:HA 0 3 0 0 fun (i0:Int) (_:Unit)=>[(3,.tv (eI i0))]:=⟨⟩
  have:HA 2 4 3 0 fun (i2:Int) (_:Unit)=>[(4,.tv (eI i2))]:=⟨⟩
  exact au
theorem gT:CK f224 (Rq [Af 1 0,Ad 2 0] [1]<|Sq (Rq [Ac 4 1 3,Ab 5 4,Ag 6 5,Ba 7 6 0] [1,7]<|Co 7 (Sq (Rq [Ac 8 1 1,Ab 9 8,⟨some 10,.call 188 [.s 9,.c (.int .i64 (-1000000)),.c (.int .i64 1000000)],none⟩,Bb 11 10,Aa 12 11,Ap 13 1 2 12,Al 14 13 12,Ap 15 1 1 12,Al 16 15 12,Gt 17 188 14 16 1000000 12,Bk 18 17 12,Aq 19 12 18] [19]<|Co 19 (Rq [Ad 2 6] [2]<|.ret)<|Sk [])<|Rq [Ad 2 0] [2]<|.ret)<|Sk [1])<|Sq (Rq [Ac 20 1 3,Ab 21 20,Az 22 254 21,Aa 3 22] [1,3]<|Rq [Aa 23 3,As 24 23 0] [1,3,24]<|Co 24 (Rq [Aa 25 3,Aa 2 25] [2]<|.ret)<|Sk [1])<|Sq (Rq [Ac 26 1 1,Ab 27 26,As 28 27 0,Aa 29 28,Ap 30 1 2 29,Al 31 30 29,Ap 32 1 3 29,Al 33 32 29,Bh 34 33 29,Ew 35 34 1 29,Ch 36 31 35 29,Aq 37 29 36] [37]<|Co 37 (Rq [Ad 2 6] [2]<|.ret)<|Sk [])<|Rq [Ad 2 0] [2]<|.ret) [.tmp 2]:=by decide +kernel
instance o3 (a:Attr):Ct prog (IC a) 224 [HM a] (fun r=>.sh (eI r)):=Fi gT fun r h hw hR=>by
  unfold IC at h
  exact au
theorem fR:CK f162 (Rq [Af 2 0,Ad 4 0] [1,2]<|Rq [Ac 11 2 0,Ab 12 11,Aa 13 1,Ai 14 12 13 4,Ae 15 14 4,Fs 5 0 4,Am 4 5 15] [1,2,5]<|Sq (Rq [Ac 16 5 0,Ab 17 16,Az 18 223 17,Bb 19 18] [1,2,5,19]<|Co 19 (Rq [Ad 4 2] [4]<|.ret)<|Sk [1,2,5])<|Sq (Rq [Ad 6 0] [1,2,5,6]<|Bl 0<|Lo [1,2,5,6]<|Sq (Rq [Aa 20 6,Aa 21 1,An 22 20 21] [1,2,5,6,22]<|Co 22 (Sk [1,2,5,6])<|Ex 0 [1,2,5])<|Sq (Bl 1<|Sq (Dr [25,26,27,28,29,30,31,32,33] [Ac 25 2 0,Ab 26 25,Aa 27 6,Ai 28 26 27 4,Ah 29 28 0,Ab 30 29,Ac 31 5 0,Ab 32 31,Dg 33 30 32] [1,2,5,6,33])<|Co 33 (Rq [Ad 4 5] [4]<|.ret)<|Sk [1,2,5,6])<|Re [Aa 23 6,Ao 24 23 1,Aa 6 24] [1,2,5,6])<|Sq (Rq [Ac 34 5 1,Ab 35 34,Aa 36 1,Cw 37 36 1,⟨some 38,.call 188 [.s 35,.c (.int .i64 (-1)),.s 37],none⟩,Bb 39 38] [1,2,5,39]<|Co 39 (Rq [Ad 4 6] [4]<|.ret)<|Sk [1,2,5])<|Rq [Ae 40 2 2,Aa 41 1,Ay 42 186 40 41,Be 7 42] [5,7]<|Sq (Rq [Ac 43 5 3,Ab 44 43,Ag 45 44,Bo 46 45 4,Aa 47 46,Au 48 7 47,Bh 49 48 47,Cf 50 49 8 47,Aq 51 47 50] [5,7,51]<|Co 51 (Rq [Ad 4 3] [4]<|.ret)<|Sk [5,7])<|Sq (Rq [Aa 52 7,Ag 53 52,Ac 54 5 3,Ab 55 54,Ag 56 55,Dm 57 53 56,Aa 8 57] [7,8]<|Bl 2<|Lo [7,8]<|Sq (Rq [Aa 58 8,Aa 59 7,Ag 60 59,An 61 58 60] [7,8,61]<|Co 61 (Sk [7,8])<|Ex 2 [])<|Sq (Bl 3<|Sq (Rq [Aa 64 7,Aa 65 8,Ai 66 64 65 4,Ah 67 66 0,Ab 68 67,Az 69 223 68,Bb 70 69] [7,8,70]<|Co 70 (Rq [Ad 4 2] [4]<|.ret)<|Sk [7,8])<|Sq (Rq [Ad 9 0] [7,8,9]<|Bl 4<|Lo [7,8,9]<|Sq (Rq [Aa 71 9,Aa 72 8,An 73 71 72] [7,8,9,73]<|Co 73 (Sk [7,8,9])<|Ex 4 [7,8])<|Sq (Bl 5<|Sq (Dr [76,77,78,79,80,81,82,83,84,85,86] [Aa 76 7,Aa 77 9,Ai 78 76 77 4,Ah 79 78 0,Ab 80 79,Aa 81 7,Aa 82 8,Ai 83 81 82 4,Ah 84 83 0,Ab 85 84,Dg 86 80 85] [7,8,9,86])<|Co 86 (Rq [Ad 4 5] [4]<|.ret)<|Sk [7,8,9])<|Re [Aa 74 9,Ao 75 74 1,Aa 9 75] [7,8,9])<|Rq [Aa 87 7,Aa 88 8,Ai 89 87 88 4,Ae 90 89 4,Az 91 224 90,Aa 10 91] [7,8,10]<|Rq [Aa 92 10,As 93 92 0] [7,8,10,93]<|Co 93 (Rq [Aa 94 10,Aa 4 94] [4]<|.ret)<|Sk [7,8])<|Re [Aa 62 8,Ao 63 62 1,Aa 8 63] [7,8])<|Rq [Ad 4 0] [4]<|.ret) [.tmp 4]:=by decide +kernel
instance n7 (t:AD) (i_1:Int):Ct prog (LH t i_1) 162 [AS t,eI i_1] (fun r=>.sh (eI r)):=Fi fR fun r h hw hR=>by
  unfold LH at h
  have:HA 0 6 1 0 fun (i0:Int) (_:Unit)=>[(6,.tv (eI i0))]:=⟨⟩
  have:HA 2 8 7 0 fun (i2:Int) (_:Unit)=>[(8,.tv (eI i2))]:=⟨⟩
  have:HA 4 9 8 0 fun (i4:Int) (_:Unit)=>[(9,.tv (eI i4))]:=⟨⟩
  exact au
theorem gU:CK f225 (Rq [Aj 4] [0,1]<|Rq [Aa 5 0,Gh 6 188 5 0 40,Aa 7 6,Av 8 1 7,Gg 9 8 (-1) 7,Av 10 9 7,Au 11 1 10,Au 12 0 10,Gt 13 188 11 12 40 10,Dn 14 10 13 7,Ar 15 7 14,Aa 4 15] [4]<|.ret) [.tmp 4]:=by decide +kernel
instance o4 (low:Int) (high:Int):Ct prog (JO low high) 225 [eI low,eI high] (fun r=>.sh (eB r)):=Fi gU fun r h hw hR=>by
  unfold JO at h
  exact au
theorem fS:CK f163 (Rq [Af 2 0,Ad 4 0] [1,2]<|Rq [Ac 8 2 1,Ab 9 8,Aa 10 1,Ai 11 9 10 7,Ae 12 11 7,Ft 5 0 0 0 0 0 0,Am 7 5 12] [1,2,5]<|Sq (Rq [Ac 13 5 0,Ab 14 13,Az 15 223 14,Bb 16 15] [1,2,5,16]<|Co 16 (Rq [Ad 4 2] [4]<|.ret)<|Sk [1,2,5])<|Sq (Rq [Ad 6 0] [1,2,5,6]<|Bl 0<|Lo [1,2,5,6]<|Sq (Rq [Aa 17 6,Aa 18 1,An 19 17 18] [1,2,5,6,19]<|Co 19 (Sk [1,2,5,6])<|Ex 0 [2,5])<|Sq (Bl 1<|Sq (Dr [22,23,24,25,26,27,28,29,30] [Ac 22 2 1,Ab 23 22,Aa 24 6,Ai 25 23 24 7,Ah 26 25 0,Ab 27 26,Ac 28 5 0,Ab 29 28,Dg 30 27 29] [1,2,5,6,30])<|Co 30 (Rq [Ad 4 5] [4]<|.ret)<|Sk [1,2,5,6])<|Re [Aa 20 6,Ao 21 20 1,Aa 6 21] [1,2,5,6])<|Rq [Ac 31 2 0,Ab 32 31,Ag 33 32,Cw 34 33 1,Aa 7 34] [5,7]<|Sq (Rq [Ac 35 5 1,Ab 36 35,Aa 37 7,Es 38 188 36 0 37,Bb 39 38,Aa 40 39,Ap 41 5 2 40,Al 42 41 40,Au 43 7 40,Gc 44 188 42 0 43 40,Bk 45 44 40,Aq 46 40 45,Aa 47 46,Ap 48 5 3 47,Al 49 48 47,Ap 50 5 4 47,Al 51 50 47,Cv 52 225 49 51 47,Bk 53 52 47,Aq 54 47 53,Aa 55 54,Ap 56 5 5 55,Al 57 56 55,Ap 58 5 6 55,Al 59 58 55,Cv 60 225 57 59 55,Bk 61 60 55,Aq 62 55 61] [62]<|Co 62 (Rq [Ad 4 6] [4]<|.ret)<|Sk [])<|Rq [Ad 4 0] [4]<|.ret) [.tmp 4]:=by decide +kernel
instance n8 (t:AD) (i_1:Int):Ct prog (LG t i_1) 163 [AS t,eI i_1] (fun r=>.sh (eI r)):=Fi fS fun r h hw hR=>by
  unfold LG at h
  have:HA 0 6 1 0 fun (i0:Int) (_:Unit)=>[(6,.tv (eI i0))]:=⟨⟩
  exact au
theorem mS:CK f94 (Rq [Af 1 0,Cp 2,Ad 3 0] [1]<|Sq (Rq [Ac 8 1 0,Ab 9 8,Ag 10 9,Ba 11 10 0] [1,11]<|Co 11 (Rq [Cp 2,Ad 3 7] [2,3]<|.ret)<|Sk [1])<|Sq (Rq [Ac 12 1 0,Ab 13 12,Ag 14 13,Bo 15 14 12,Aa 16 15,Ap 17 1 1 16,Al 18 17 16,Bh 19 18 16,Cf 20 19 20 16,Aq 21 16 20] [1,21]<|Co 21 (Rq [Cp 2,Ad 3 3] [2,3]<|.ret)<|Sk [1])<|Sq (Rq [Ad 4 0] [1,4]<|Bl 0<|Lo [1,4]<|Sq (Rq [Aa 22 4,Ac 23 1 0,Ab 24 23,Ag 25 24,An 26 22 25] [1,4,26]<|Co 26 (Sk [1,4])<|Ex 0 [1])<|Sq (Bl 1<|Rq [Ae 29 1 2,Aa 30 4,Ay 31 162 29 30,Aa 5 31] [1,4,5]<|Rq [Aa 32 5,As 33 32 0] [1,4,5,33]<|Co 33 (Rq [Ac 34 1 0,Ab 35 34,Aa 36 4,Ai 37 35 36 4,Ah 38 37 0,Ab 39 38,Aa 40 5,Aa 2 39,Aa 3 40] [2,3]<|.ret)<|Sk [1,4])<|Re [Aa 27 4,Ao 28 27 1,Aa 4 28] [1,4])<|Sq (Rq [Ad 6 0] [1,6]<|Bl 2<|Lo [1,6]<|Sq (Rq [Aa 41 6,Ac 42 1 1,Ab 43 42,Ag 44 43,An 45 41 44] [1,6,45]<|Co 45 (Sk [1,6])<|Ex 2 [])<|Sq (Bl 3<|Rq [Ae 48 1 2,Aa 49 6,Ay 50 163 48 49,Aa 7 50] [1,6,7]<|Rq [Aa 51 7,As 52 51 0] [1,6,7,52]<|Co 52 (Rq [Ac 53 1 1,Ab 54 53,Aa 55 6,Ai 56 54 55 7,Ah 57 56 0,Ab 58 57,Aa 59 7,Aa 2 58,Aa 3 59] [2,3]<|.ret)<|Sk [1,6])<|Re [Aa 46 6,Ao 47 46 1,Aa 6 47] [1,6])<|Rq [Cp 2,Ad 3 0] [2,3]<|.ret) [.tmp 2,.tmp 3]:=by decide +kernel
instance rS (t:AD):Ct prog (HU t) 94 [AS t] (fun r=>.tp [eS r.1,eI r.2]):=Fi mS fun r h hw hR=>by
  unfold HU at h
  have:HA 0 4 1 0 fun (i0:Int) (_:Unit)=>[(4,.tv (eI i0))]:=⟨⟩
  have:HA 2 6 1 1 fun (i2:Int) (_:Unit)=>[(6,.tv (eI i2))]:=⟨⟩
  exact au
theorem fT:CK f164 (Rq [Aj 2] [0]<|Rq [Aa 3 0,Bj 4 3 0,Aa 5 4,Av 6 0 5,Cj 7 6 99 5,Ar 8 5 7,Aa 2 8] [2]<|.ret) [.tmp 2]:=by decide +kernel
instance n9 (n:Int):Ct prog (J2 n) 164 [eI n] (fun r=>.sh (eB r)):=Fi fT fun r h hw hR=>by
  unfold J2 at h
  exact au
theorem fU:CK f165 (Rq [Af 2 0,Aj 4] [1,2]<|Rq [Ac 5 2 0,Ab 6 5,Az 7 164 6,Aa 8 7,Aw 9 2 1 8,Ax 10 9 8,Fg 11 10 0 8,Ar 12 8 11,Aa 13 12,Aw 14 2 1 13,Ax 15 14 13,Av 16 1 13,Ee 17 15 16 13,Ar 18 13 17,Aa 19 18,Aw 20 2 2 19,Ax 21 20 19,Fg 22 21 0 19,Ar 23 19 22,Aa 24 23,Aw 25 2 2 24,Ax 26 25 24,Av 27 1 24,Ee 28 26 27 24,Ar 29 24 28,Aa 4 29] [4]<|.ret) [.tmp 4]:=by decide +kernel
instance oA (e:CW) (nodes:Int):Ct prog (Lu e nodes) 165 [D0 e,eI nodes] (fun r=>.sh (eB r)):=Fi fU fun r h hw hR=>by
  unfold Lu at h
  exact au
theorem mT:CK f95 (Rq [Af 1 0,Ad 2 0] [1]<|Sq (Rq [Ac 5 1 0,Ab 6 5,Ag 7 6,Bo 8 7 40,Aa 9 8,Ap 10 1 1 9,Al 11 10 9,Bh 12 11 9,Cf 13 12 80 9,Aq 14 9 13] [1,14]<|Co 14 (Rq [Ad 2 3] [2]<|.ret)<|Sk [1])<|Sq (Rq [Ad 3 0] [1,3]<|Bl 0<|Lo [1,3]<|Sq (Rq [Aa 15 3,Ac 16 1 0,Ab 17 16,Ag 18 17,An 19 15 18] [1,3,19]<|Co 19 (Sk [1,3])<|Ex 0 [1])<|Sq (Bl 1<|Rq [Ac 22 1 0,Ab 23 22,Aa 24 3,Ai 25 23 24 1,Ab 26 25,Az 27 164 26,Bb 28 27] [1,3,28]<|Co 28 (Rq [Ad 2 6] [2]<|.ret)<|Sk [1,3])<|Re [Aa 20 3,Ao 21 20 1,Aa 3 21] [1,3])<|Sq (Rq [Ad 4 0] [1,4]<|Bl 2<|Lo [1,4]<|Sq (Rq [Aa 29 4,Ac 30 1 1,Ab 31 30,Ag 32 31,An 33 29 32] [1,4,33]<|Co 33 (Sk [1,4])<|Ex 2 [])<|Sq (Bl 3<|Sq (Dr [36,37,38,39,40,41,42,43,44,45] [Ac 36 1 1,Ab 37 36,Aa 38 4,Ai 39 37 38 3,Ae 40 39 3,Ac 41 1 0,Ab 42 41,Ag 43 42,Ay 44 165 40 43,Bb 45 44] [1,4,45])<|Co 45 (Rq [Ad 2 6] [2]<|.ret)<|Sk [1,4])<|Re [Aa 34 4,Ao 35 34 1,Aa 4 35] [1,4])<|Rq [Ad 2 0] [2]<|.ret) [.tmp 2]:=by decide +kernel
instance rT (g:Graph):Ct prog (FZ g) 95 [B9 g] (fun r=>.sh (eI r)):=Fi mT fun r h hw hR=>by
  unfold FZ at h
  have:HA 0 3 1 0 fun (i0:Int) (_:Unit)=>[(3,.tv (eI i0))]:=⟨⟩
  have:HA 2 4 1 1 fun (i2:Int) (_:Unit)=>[(4,.tv (eI i2))]:=⟨⟩
  exact au
theorem mU:CK f96 (Rq [Af 2 0,Af 3 1,Aj 4] [2,3]<|Sq (Rq [Ad 5 0] [2,3,5]<|Bl 0<|Lo [2,3,5]<|Sq (Rq [Aa 7 5,Ac 8 3 0,Ab 9 8,Ag 10 9,An 11 7 10] [2,3,5,11]<|Co 11 (Sk [2,3,5])<|Ex 0 [2,3])<|Sq (Bl 1<|Sq (Dr [14,15,16,17,18,19,20,21,22,23,24,25,26,27,28,29,30] [Ac 14 3 0,Ab 15 14,Aa 16 5,Ai 17 15 16 1,Ab 18 17,Ca 19 18 0,Aa 20 19,Ap 21 3 0 20,Al 22 21 20,Au 23 5 20,Bw 24 22 23 1 20,Al 25 24 20,Ap 26 2 0 20,Al 27 26 20,Bh 28 27 20,Bu 29 25 28 20,Aq 30 20 29] [2,3,5,30])<|Co 30 (Rq [Aj 4] [4]<|.ret)<|Sk [2,3,5])<|Re [Aa 12 5,Ao 13 12 1,Aa 5 13] [2,3,5])<|Sq (Rq [Ad 6 0] [2,3,6]<|Bl 2<|Lo [2,3,6]<|Sq (Rq [Aa 31 6,Ac 32 3 1,Ab 33 32,Ag 34 33,An 35 31 34] [2,3,6,35]<|Co 35 (Sk [2,3,6])<|Ex 2 [])<|Sq (Bl 3<|Sq (Dr [38,39,40,41,42,43,44,45,46,47,48,49,50,51,52,53,54,55,56] [Ac 38 3 1,Ab 39 38,Aa 40 6,Ai 41 39 40 3,Ah 42 41 0,Ab 43 42,Ca 44 43 0,Aa 45 44,Ap 46 3 1 45,Al 47 46 45,Au 48 6 45,Bw 49 47 48 3 45,Bp 50 49 0 45,Al 51 50 45,Ap 52 2 1 45,Al 53 52 45,Bh 54 53 45,Bu 55 51 54 45,Aq 56 45 55] [2,3,6,56])<|Co 56 (Rq [Aj 4] [4]<|.ret)<|Sk [2,3,6])<|Re [Aa 36 6,Ao 37 36 1,Aa 6 37] [2,3,6])<|Rq [Bt 4] [4]<|.ret) [.tmp 4]:=by decide +kernel
instance rU (t:AD) (g:Graph):Ct prog (IM t g) 96 [AS t,B9 g] (fun r=>.sh (eB r)):=Fi mU fun r h hw hR=>by
  unfold IM at h
  have:HA 0 5 3 0 fun (i0:Int) (_:Unit)=>[(5,.tv (eI i0))]:=⟨⟩
  have:HA 2 6 3 1 fun (i2:Int) (_:Unit)=>[(6,.tv (eI i2))]:=⟨⟩
  exact au
theorem fo:CK f185 (Rq [Af 3 0,Ad 6 0] [1,2,3]<|Sq (Rq [Ae 10 3 2,Az 11 94 10,Aa 9 11,Ak 12 9 0,Ak 13 9 1,Aa 7 12,Aa 8 13] [1,2,3,8]<|Rq [Aa 14 8,As 15 14 0] [1,2,3,8,15]<|Co 15 (Rq [Aa 16 8,Aa 6 16] [6]<|.ret)<|Sk [1,2,3])<|Sq (Rq [Aa 17 1,Ac 18 3 0,Ab 19 18,Ag 20 19,Cw 21 20 1,Es 22 188 17 0 21,Bb 23 22,Aa 24 23,Au 25 2 24,Ap 26 3 0 24,Al 27 26 24,Bh 28 27 24,Ew 29 28 1 24,Gc 30 188 25 0 29 24,Bk 31 30 24,Aq 32 24 31] [32]<|Co 32 (Rq [Ad 6 6] [6]<|.ret)<|Sk [])<|Rq [Ad 6 0] [6]<|.ret) [.tmp 6]:=by decide +kernel
instance oS (t:AD) (a:Int) (b:Int):Ct prog (JP t a b) 185 [AS t,eI a,eI b] (fun r=>.sh (eI r)):=Fi fo fun r h hw hR=>by
  unfold JP at h
  exact au
theorem ej:CK f121 (Rq [Af 2 0,Bc 4 4,Ad 5 0] [1,2]<|Sq (Rq [Ae 11 2 2,Aa 12 1,Aa 13 1,Bf 14 185 11 12 13,Aa 6 14] [1,2,6]<|Rq [Aa 15 6,As 16 15 0] [1,2,6,16]<|Co 16 (Rq [Aa 17 6,Bc 4 4,Aa 5 17] [4,5]<|.ret)<|Sk [1,2])<|Rq [Bc 7 4] [1,2,7]<|Rq [Ae 18 2 2,Aa 19 1,Ay 20 186 18 19,Be 8 20] [7,8]<|Sq (Rq [Ad 9 0] [7,8,9]<|Bl 0<|Lo [7,8,9]<|Sq (Rq [Aa 21 9,Aa 22 8,Ag 23 22,An 24 21 23] [7,8,9,24]<|Co 24 (Sk [7,8,9])<|Ex 0 [7])<|Sq (Bl 1<|Rq [Aa 27 8,Aa 28 9,Ai 29 27 28 4,Ae 30 29 4,Do 10 0 0 1,Am 4 10 30] [7,8,9,10]<|Rq [Dh 31 1,Ac 32 10 3,Ab 33 32,Cb 34 1 31 33,Ac 35 10 3,Ei 1 35 34] [7,8,9,10]<|Re [Be 36 7,Ae 37 10 4,Bq 38 4 37,Cb 39 4 36 38,Be 7 39] [7,8,9])<|Re [Aa 25 9,Ao 26 25 1,Aa 9 26] [7,8,9])<|Rq [Aa 40 7,Be 4 40,Ad 5 0] [4,5]<|.ret) [.tmp 4,.tmp 5]:=by decide +kernel
instance nT (t:AD) (a:Int):Ct prog (JN t a) 121 [AS t,eI a] (fun r=>.tp [lA r.1,eI r.2]):=Fi ej fun r h hw hR=>by
  unfold JN at h
  have:HA 0 9 8 0 fun (i0:Int) (s0:List Attr)=>[(7,.ow (lA s0)),(9,.tv (eI i0))]:=⟨⟩
  exact au
theorem mV:CK f97 (Rq [Af 4 0,Af 5 1,Do 8 0 0 1,Aj 9] [2,3,4,5,8]<|Sq (Rq [Aa 12 2,Ca 13 12 0,Aa 14 13,Au 15 2 14,Ap 16 5 0 14,Bp 17 16 0 14,Al 18 17 14,Bh 19 18 14,Bu 20 15 19 14,Aq 21 14 20] [2,3,4,5,8,21]<|Co 21 (Rq [Et 22 0 0 1,Am 4 8 22,Aj 9] [8,9]<|.ret)<|Sk [2,3,4,5,8])<|Sq (Dr [10,11,23,24,25,26,27,28,29,30,31,32,33] [Ae 24 4 2,Ac 25 5 0,Ah 26 25 0,Ab 27 26,Aa 28 2,Ai 29 27 28 1,Ab 30 29,Ay 31 121 24 30,Aa 23 31,Ak 32 23 0,Ak 33 23 1,Be 10 32,Aa 11 33] [3,8,10,11])<|Sq (Rq [Aa 34 11,As 35 34 0,Aa 36 35,Au 37 3 36,Gi 38 37 0 36,Aq 39 36 38,Aa 40 39,Au 41 3 40,Au 42 10 40,Bh 43 42 40,Bu 44 41 43 40,Aq 45 40 44] [3,8,10,45]<|Co 45 (Rq [Et 46 0 0 1,Am 4 8 46,Aj 9] [8,9]<|.ret)<|Sk [3,8,10])<|Rq [Aa 47 10,Aa 48 3,Ai 49 47 48 4,Ae 50 49 4,Am 4 8 50,Bt 9] [8,9]<|.ret) [.cell 8 (some 4),.tmp 9]:=by decide +kernel
instance rV (t:AD) (p:Pattern) (node:Int) (index:Int):Ct prog (LJ t p node index) 97 [AS t,BC p,eI node,eI index] (fun r=>.tp [HM r.1,eB r.2]):=Fi mV fun r h hw hR=>by
  unfold LJ at h
  exact au
theorem mW:CK f98 (Rq [Aj 2] [0]<|Rq [Aa 3 0,⟨some 4,.bin (.i) .geq (.s 3) (.c (.int .i64 (-1000000))),none⟩,Aa 5 4,Av 6 0 5,Cj 7 6 1000000 5,Ar 8 5 7,Aa 2 8] [2]<|.ret) [.tmp 2]:=by decide +kernel
instance rW (n:Int):Ct prog (Ke n) 98 [eI n] (fun r=>.sh (eB r)):=Fi mW fun r h hw hR=>by
  unfold Ke at h
  exact au
theorem gV:CK f226 (Rq [Af 3 1,Ad 4 0] [0,3]<|Sq (Rq [Ac 5 3 0,Ab 6 5,Ed 7 6 (-1),Aa 8 7,Ap 9 3 0 8,Al 10 9 8,Au 11 0 8,Bu 12 10 11 8,Aq 13 8 12,Aa 14 13,Ap 15 3 1 14,Al 16 15 14,Gu 17 16 (-1000000) 14,Aq 18 14 17,Aa 19 18,Ap 20 3 1 19,Al 21 20 19,Cf 22 21 1000000 19,Aq 23 19 22] [23]<|Co 23 (Rq [Ad 4 6] [4]<|.ret)<|Sk [])<|Rq [Ad 4 0] [4]<|.ret) [.tmp 4]:=by decide +kernel
instance o5 (n:Int) (t:Term):Ct prog (Ih n t) 226 [eI n,MS t] (fun r=>.sh (eI r)):=Fi gV fun r h hw hR=>by
  unfold Ih at h
  exact au
theorem fV:CK f166 (Rq [Af 3 1,Ad 4 0] [0,3]<|Sq (Rq [Ac 6 3 0,Ab 7 6,As 8 7 1,Aa 9 8,Aw 10 3 0 9,Ax 11 10 9,Fu 12 11 2 9,Ar 13 9 12] [0,3,13]<|Co 13 (Rq [Ad 4 1] [4]<|.ret)<|Sk [0,3])<|Sq (Rq [Aa 14 0,Ac 15 3 1,Ae 16 15 2,Ay 17 226 14 16,Aa 5 17] [0,3,5]<|Rq [Aa 18 5,As 19 18 0] [0,3,5,19]<|Co 19 (Rq [Aa 20 5,Aa 4 20] [4]<|.ret)<|Sk [0,3])<|Rq [Aa 21 0,Ac 22 3 3,Ae 23 22 2,Ay 24 226 21 23,Aa 4 24] [4]<|.ret) [.tmp 4]:=by decide +kernel
instance oB (n:Int) (x_1:Test):Ct prog (L7 n x_1) 166 [eI n,Ka x_1] (fun r=>.sh (eI r)):=Fi fV fun r h hw hR=>by
  unfold L7 at h
  exact au
theorem mX:CK f99 (Rq [Ad 4 0] [0,1]<|Sq (Rq [Aa 7 0,Ca 8 7 0,Aa 9 8,Au 10 0 9,Cf 11 10 12 9,Aq 12 9 11] [0,1,12]<|Co 12 (Rq [Ad 4 6] [4]<|.ret)<|Sk [0,1])<|Sq (Rq [Aa 13 1,Ag 14 13,Bo 15 14 40] [0,1,15]<|Co 15 (Rq [Ad 4 3] [4]<|.ret)<|Sk [0,1])<|Sq (Rq [Ad 5 0] [0,1,5]<|Bl 0<|Lo [0,1,5]<|Sq (Rq [Aa 16 5,Aa 17 1,Ag 18 17,An 19 16 18] [0,1,5,19]<|Co 19 (Sk [0,1,5])<|Ex 0 [])<|Sq (Bl 1<|Rq [Aa 22 0,Aa 23 1,Aa 24 5,Ai 25 23 24 5,Ae 26 25 5,Ay 27 166 22 26,Aa 6 27] [0,1,5,6]<|Rq [Aa 28 6,As 29 28 0] [0,1,5,6,29]<|Co 29 (Rq [Aa 30 6,Aa 4 30] [4]<|.ret)<|Sk [0,1,5])<|Re [Aa 20 5,Ao 21 20 1,Aa 5 21] [0,1,5])<|Rq [Ad 4 0] [4]<|.ret) [.tmp 4]:=by decide +kernel
instance rX (n:Int) (l:List Test):Ct prog (KN n l) 99 [eI n,lT l] (fun r=>.sh (eI r)):=Fi mX fun r h hw hR=>by
  unfold KN at h
  have:HA 0 5 1 0 fun (i0:Int) (_:Unit)=>[(5,.tv (eI i0))]:=⟨⟩
  exact au
theorem eO:CK f100 (Rq [Af 2 0,Aj 4] [1,2]<|Sq (Rq [Ad 5 0] [1,2,5]<|Bl 0<|Lo [1,2,5]<|Sq (Rq [Aa 6 5,Ac 7 2 2,Ab 8 7,Ag 9 8,An 10 6 9] [1,2,5,10]<|Co 10 (Sk [1,2,5])<|Ex 0 [])<|Sq (Bl 1<|Rq [Ac 13 2 2,Ab 14 13,Aa 15 5,Ai 16 14 15 4,Ah 17 16 2,Ah 18 17 0,Ab 19 18,Aa 20 1,Cl 21 19 20] [1,2,5,21]<|Co 21 (Rq [Bt 4] [4]<|.ret)<|Sk [1,2,5])<|Re [Aa 11 5,Ao 12 11 1,Aa 5 12] [1,2,5])<|Rq [Aj 4] [4]<|.ret) [.tmp 4]:=by decide +kernel
instance nA (p:Pattern) (v_1:Int):Ct prog (Jr p v_1) 100 [BC p,eI v_1] (fun r=>.sh (eB r)):=Fi eO fun r h hw hR=>by
  unfold Jr at h
  have:HA 0 5 2 2 fun (i0:Int) (_:Unit)=>[(5,.tv (eI i0))]:=⟨⟩
  exact au
theorem lj:CK f42 (Rq [Af 2 0,Af 3 1,Ad 4 0] [2,3]<|Sq (Rq [Ae 15 2 2,Az 16 94 15,Aa 14 16,Ak 17 14 0,Ak 18 14 1,Aa 5 17,Aa 6 18] [2,3,6]<|Rq [Aa 19 6,As 20 19 0] [2,3,6,20]<|Co 20 (Rq [Aa 21 6,Aa 4 21] [4]<|.ret)<|Sk [2,3])<|Sq (Rq [Ac 22 3 0,Ae 23 22 2,Az 24 95 23,Aa 7 24] [2,3,7]<|Rq [Aa 25 7,As 26 25 0] [2,3,7,26]<|Co 26 (Rq [Aa 27 7,Aa 4 27] [4]<|.ret)<|Sk [2,3])<|Sq (Rq [Ae 28 2 2,Ac 29 3 0,Ae 30 29 2,Ay 31 96 28 30,Bb 32 31] [2,3,32]<|Co 32 (Rq [Ad 4 13] [4]<|.ret)<|Sk [2,3])<|Sq (Rq [Ac 33 3 3,Ab 34 33,Ca 35 34 0,Aa 36 35,Ap 37 3 3 36,Al 38 37 36,Cf 39 38 12 36,Aq 40 36 39] [2,3,40]<|Co 40 (Rq [Ad 4 6] [4]<|.ret)<|Sk [2,3])<|Sq (Rq [Ac 41 3 2,Ab 42 41,Ag 43 42,Bo 44 43 10,Aa 45 44,Ap 46 3 4 45,Al 47 46 45,Bh 48 47 45,Cf 49 48 10 45,Aq 50 45 49] [2,3,50]<|Co 50 (Rq [Ad 4 3] [4]<|.ret)<|Sk [2,3])<|Sq (Rq [Ad 8 0] [2,3,8]<|Bl 0<|Lo [2,3,8]<|Sq (Rq [Aa 51 8,Ac 52 3 2,Ab 53 52,Ag 54 53,An 55 51 54] [2,3,8,55]<|Co 55 (Sk [2,3,8])<|Ex 0 [3])<|Sq (Bl 1<|Rq [Ac 58 3 2,Ab 59 58,Aa 60 8,Ai 61 59 60 4,Ae 62 61 4,Dp 9 0 0 0 0,Am 4 9 62] [2,3,8,9]<|Rq [Ae 64 2 2,Ae 65 3 5,Ac 66 9 0,Ab 67 66,Ac 68 9 1,Ab 69 68,Cs 70 97 64 65 67 69,Aa 63 70,Ak 71 63 0,Ak 72 63 1,Do 10 0 0 1,Am 4 10 71,Aa 11 72] [2,3,8,9,11]<|Rq [Aa 73 11,Bb 74 73,Aa 75 74,Ap 76 9 2 75,Bp 77 76 0 75,Al 78 77 75,Gu 79 78 (-1) 75,Aq 80 75 79,Aa 81 80,Ap 82 9 2 81,Bp 83 82 0 81,Al 84 83 81,Ap 85 3 3 81,Al 86 85 81,Bu 87 84 86 81,Aq 88 81 87,Aa 89 88,Ap 90 9 2 89,Bp 91 90 1 89,Al 92 91 89,Df 93 98 92 89,Bk 94 93 89,Aq 95 89 94] [2,3,8,95]<|Co 95 (Rq [Ad 4 6] [4]<|.ret)<|Sk [2,3,8])<|Re [Aa 56 8,Ao 57 56 1,Aa 8 57] [2,3,8])<|Sq (Rq [Ac 96 3 3,Ab 97 96,Ac 98 3 4,Ab 99 98,Ay 100 99 97 99,Aa 12 100] [3,12]<|Rq [Aa 101 12,As 102 101 0] [3,12,102]<|Co 102 (Rq [Aa 103 12,Aa 4 103] [4]<|.ret)<|Sk [3])<|Sq (Rq [Ad 13 0] [3,13]<|Bl 2<|Lo [3,13]<|Sq (Rq [Aa 104 13,Ac 105 3 3,Ab 106 105,An 107 104 106] [3,13,107]<|Co 107 (Sk [3,13])<|Ex 2 [])<|Sq (Bl 3<|Rq [Ae 110 3 5,Aa 111 13,Ay 112 100 110 111,Bb 113 112] [3,13,113]<|Co 113 (Rq [Ad 4 9] [4]<|.ret)<|Sk [3,13])<|Re [Aa 108 13,Ao 109 108 1,Aa 13 109] [3,13])<|Rq [Ad 4 0] [4]<|.ret) [.tmp 4]:=by decide +kernel
instance qn (t:AD) (p:Pattern):Ct prog (IP t p) 42 [AS t,BC p] (fun r=>.sh (eI r)):=Fi lj fun r h hw hR=>by
  unfold IP at h
  have:HA 0 8 3 2 fun (i0:Int) (_:Unit)=>[(8,.tv (eI i0))]:=⟨⟩
  have:HA 2 13 3 3 fun (i2:Int) (_:Unit)=>[(13,.tv (eI i2))]:=⟨⟩
  exact au
theorem gW:CK f227 (Rq [Af 1 0,Aj 2] [1]<|Rq [Ac 4 1 2,Ah 5 4 0,Ab 6 5,Ag 7 6,Ac 8 1 2,Ah 9 8 1,Ab 10 9,Ag 11 10,Br 12 7 11,Ac 13 1 4,Ah 14 13 0,Ah 15 14 0,Ab 16 15,Ag 17 16,Br 18 12 17,Ac 19 1 4,Ah 20 19 0,Ah 21 20 1,Ab 22 21,Ag 23 22,Br 24 18 23,Ba 25 24 0,Aa 3 25] [1,3]<|Rq [Aa 26 3,Aa 27 26,Aw 28 1 4 27,Bn 29 28 2 27,Ax 30 29 27,Ce 31 30 27,Aw 32 1 4 27,Bn 33 32 4 27,Ax 34 33 27,Ce 35 34 27,Ea 36 31 35 27,Cx 37 36 0 27,Ar 38 27 37,Aa 39 38,Aw 40 1 4 39,Bn 41 40 3 39,Ax 42 41 39,Cx 43 42 0 39,Ar 44 39 43,Aa 2 44] [2]<|.ret) [.tmp 2]:=by decide +kernel
instance o6 (c:AB):Ct prog (Hn c) 227 [AK c] (fun r=>.sh (eB r)):=Fi gW fun r h hw hR=>by
  unfold Hn at h
  exact au
theorem fW:CK f167 (Rq [Af 1 0,Aj 2] [1]<|Sq (Rq [Ac 3 1 0,Ab 4 3] [1,4]<|Bl 0<|Rq [Ba 6 4 1,Aa 5 6] [1,4,5]<|Co 5 (Rq [Ac 7 1 1,Ab 8 7,Ag 9 8,Ba 10 9 0,Aa 11 10,Bg 12 1 9 11,Bx 13 227 12 11,Ar 14 11 13,Aa 2 14] [2]<|.ret)<|Rq [Ba 16 4 2,Aa 15 16] [1,4,15]<|Co 15 (Rq [Ac 17 1 1,Ab 18 17,Ag 19 18,Ba 20 19 1,Aa 21 20,Bg 22 1 9 21,Bx 23 227 22 21,Ar 24 21 23,Aa 2 24] [2]<|.ret)<|Sq (Rq [Ba 26 4 3,Aa 25 26] [1,4,25]<|Co 25 (Sk [1,4,25])<|Re [Ba 27 4 4,Aa 25 27] [1,4,25])<|Co 25 (Rq [Ac 28 1 1,Ab 29 28,Ag 30 29,Bo 31 30 0,Aa 32 31,Bg 33 1 9 32,Bx 34 227 33 32,Ar 35 32 34,Aa 2 35] [2]<|.ret)<|Rq [Ba 37 4 5,Aa 36 37] [1,36]<|Co 36 (Rq [Ac 38 1 1,Ab 39 38,Ag 40 39,Ba 41 40 1,Aa 2 41] [2]<|.ret)<|Sk [])<|Rq [Aj 2] [2]<|.ret) [.tmp 2]:=by decide +kernel
instance oC (c:AB):Ct prog (KY c) 167 [AK c] (fun r=>.sh (eB r)):=Fi fW fun r h hw hR=>by
  unfold KY at h
  have:HJ 25 fun (w1:Bool)=>[(25,.tv (eB w1))]:=⟨⟩
  exact au
theorem eP:CK f101 (Rq [Af 1 0,Aj 2] [1]<|Sq (Rq [Ae 4 1 9,Az 5 167 4,Bb 6 5] [1,6]<|Co 6 (Rq [Aj 2] [2]<|.ret)<|Sk [1])<|Sq (Rq [Ad 3 0] [1,3]<|Bl 0<|Lo [1,3]<|Sq (Rq [Aa 7 3,Ac 8 1 1,Ab 9 8,Ag 10 9,An 11 7 10] [1,3,11]<|Co 11 (Sk [1,3])<|Ex 0 [])<|Sq (Bl 1<|Rq [Ac 14 1 1,Ab 15 14,Aa 16 3,Ai 17 15 16 9,Ae 18 17 9,Az 19 101 18,Bb 20 19] [1,3,20]<|Co 20 (Rq [Aj 2] [2]<|.ret)<|Sk [1,3])<|Re [Aa 12 3,Ao 13 12 1,Aa 3 13] [1,3])<|Rq [Bt 2] [2]<|.ret) [.tmp 2]:=by decide +kernel
theorem dt (n:Nat) (_ih_101:∀ (c:AB),Ct prog (E5 n c) 101 [AK c] (fun r=>.sh (eB r))) (c:AB):Ct prog (E5 (n+1) c) 101 [AK c] (fun r=>.sh (eB r)):=Fi eP fun r h hw hR=>by
  unfold E5 at h
  have:HA 0 3 1 1 fun (i0:Int) (_:Unit)=>[(3,.tv (eI i0))]:=⟨⟩
  exact au
theorem dr:∀ n:Nat,(∀ (c:AB),Ct prog (E5 n c) 101 [AK c] (fun r=>.sh (eB r))):=by
  intro n
  induction n with
  | zero=>exact (fun c=>⟨fun _ h=>by cases h⟩)
  | succ n ih=>exact dt n ih
instance nB (c:AB):Ct prog (Lg c) 101 [AK c] (fun r=>.sh (eB r)):=⟨fun r h=>by
  obtain ⟨N,hN⟩:=DL h
  exact ((dr N) c).snd r (hN N (Nat.le_refl _))⟩
theorem eQ:CK f102 (Rq [Af 1 0,Ad 2 0,Ad 3 0] [1]<|Rq [Ad 4 1,Ad 5 0] [1,4,5]<|Sq (Rq [Ad 6 0] [1,4,5,6]<|Bl 0<|Lo [1,4,5,6]<|Sq (Rq [Aa 9 6,Ac 10 1 1,Ab 11 10,Ag 12 11,An 13 9 12] [1,4,5,6,13]<|Co 13 (Sk [1,4,5,6])<|Ex 0 [1,4,5])<|Sq (Bl 1<|Rq [Ac 17 1 1,Ab 18 17,Aa 19 6,Ai 20 18 19 9,Ae 21 20 9,Az 22 102 21,Aa 16 22,Ak 23 16 0,Ak 24 16 1,Aa 7 23,Aa 8 24] [1,4,5,6,7,8]<|Re [Aa 25 4,Aa 26 7,Br 27 25 26,Aa 28 5,Aa 29 8,Fv 30 28 29,Aa 4 27,Aa 5 30] [1,4,5,6])<|Re [Aa 14 6,Ao 15 14 1,Aa 6 15] [1,4,5,6])<|Sq (Rq [Ac 31 1 0,Ab 32 31,Ba 33 32 5] [4,5,33]<|Co 33 (Re [Aa 34 5,Ao 35 34 1,Aa 5 35] [4,5])<|Sk [4,5])<|Rq [Aa 36 4,Aa 37 5,Aa 2 36,Aa 3 37] [2,3]<|.ret) [.tmp 2,.tmp 3]:=by decide +kernel
theorem dw (n:Nat) (_ih_102:∀ (c:AB),Ct prog (FW n c) 102 [AK c] (fun r=>.tp [eI r.1,eI r.2])) (c:AB):Ct prog (FW (n+1) c) 102 [AK c] (fun r=>.tp [eI r.1,eI r.2]):=Fi eQ fun r h hw hR=>by
  unfold FW at h
  have:HA 0 6 1 1 fun (i0:Int) (s0:Int × Int)=>[(4,.tv (eI s0.1)),(5,.tv (eI s0.2)),(6,.tv (eI i0))]:=⟨⟩
  have:HJ 33 fun (w1:Int)=>[(5,.tv (eI w1))]:=⟨⟩
  exact au
theorem du:∀ n:Nat,(∀ (c:AB),Ct prog (FW n c) 102 [AK c] (fun r=>.tp [eI r.1,eI r.2])):=by
  intro n
  induction n with
  | zero=>exact (fun c=>⟨fun _ h=>by cases h⟩)
  | succ n ih=>exact dw n ih
instance nC (c:AB):Ct prog (ML c) 102 [AK c] (fun r=>.tp [eI r.1,eI r.2]):=⟨fun r h=>by
  obtain ⟨N,hN⟩:=DL h
  exact ((du N) c).snd r (hN N (Nat.le_refl _))⟩
theorem ll:CK f43 (Rq [Af 1 0,Ad 2 0] [1]<|Sq (Rq [Ae 5 1 9,Az 6 101 5,Bb 7 6] [1,7]<|Co 7 (Rq [Ad 2 1] [2]<|.ret)<|Sk [1])<|Sq (Rq [Ae 9 1 9,Az 10 102 9,Aa 8 10,Ak 11 8 0,Ak 12 8 1,Aa 3 11,Aa 4 12] [3,4]<|Rq [Aa 13 3,Bo 14 13 12,Aa 15 14,Au 16 4 15,Cf 17 16 3 15,Aq 18 15 17] [18]<|Co 18 (Rq [Ad 2 3] [2]<|.ret)<|Sk [])<|Rq [Ad 2 0] [2]<|.ret) [.tmp 2]:=by decide +kernel
instance qo (c:AB):Ct prog (KV c) 43 [AK c] (fun r=>.sh (eI r)):=Fi ll fun r h hw hR=>by
  unfold KV at h
  exact au
theorem fX:CK f168 (Rq [Af 2 0,Aj 4] [1,2]<|Sq (Rq [Ad 5 0] [1,2,5]<|Bl 0<|Lo [1,2,5]<|Sq (Rq [Aa 6 5,Ac 7 2 2,Ab 8 7,Ag 9 8,An 10 6 9] [1,2,5,10]<|Co 10 (Sk [1,2,5])<|Ex 0 [])<|Sq (Bl 1<|Rq [Ac 13 2 2,Ab 14 13,Aa 15 5,Ai 16 14 15 4,Ah 17 16 2,Ah 18 17 0,Ab 19 18,Aa 20 1,Cl 21 19 20] [1,2,5,21]<|Co 21 (Rq [Bt 4] [4]<|.ret)<|Sk [1,2,5])<|Re [Aa 11 5,Ao 12 11 1,Aa 5 12] [1,2,5])<|Rq [Aj 4] [4]<|.ret) [.tmp 4]:=by decide +kernel
instance oD (p:Pattern) (v_1:Int):Ct prog (LM p v_1) 168 [BC p,eI v_1] (fun r=>.sh (eB r)):=Fi fX fun r h hw hR=>by
  unfold LM at h
  have:HA 0 5 2 2 fun (i0:Int) (_:Unit)=>[(5,.tv (eI i0))]:=⟨⟩
  exact au
theorem eR:CK f103 (Rq [Af 3 0,Af 5 2,Ad 6 0] [1,3,5]<|Sq (Rq [Ac 9 5 3,Ab 10 9,Aa 11 1,An 12 10 11] [1,3,5,12]<|Co 12 (Rq [Ad 6 20] [6]<|.ret)<|Sk [1,3,5])<|Rq [Ae 13 3 2,Ae 14 5 5,Ay 15 42 13 14,Aa 7 15] [1,5,7]<|Sq (Rq [Aa 16 7,As 17 16 9] [1,5,7,17]<|Co 17 (Rq [Aa 18 7,Aa 6 18] [6]<|.ret)<|Sk [1,5,7])<|Sq (Rq [Aa 19 1,Aa 8 19] [5,7,8]<|Bl 0<|Lo [5,7,8]<|Sq (Rq [Aa 20 8,Ac 21 5 3,Ab 22 21,An 23 20 22] [5,7,8,23]<|Co 23 (Sk [5,7,8])<|Ex 0 [])<|Sq (Bl 1<|Rq [Ae 26 5 5,Aa 27 8,Ay 28 168 26 27,Bb 29 28] [5,7,8,29]<|Co 29 (Rq [Aa 30 7,Aa 6 30] [6]<|.ret)<|Sk [5,7,8])<|Re [Aa 24 8,Ao 25 24 1,Aa 8 25] [5,7,8])<|Rq [Ad 6 0] [6]<|.ret) [.tmp 6]:=by decide +kernel
instance nD (t:AD) (vars:Int) (q:Pattern):Ct prog (KX t vars q) 103 [AS t,eI vars,BC q] (fun r=>.sh (eI r)):=Fi eR fun r h hw hR=>by
  unfold KX at h
  have:HA 0 8 5 3 fun (i0:Int) (_:Unit)=>[(8,.tv (eI i0))]:=⟨⟩
  exact au
theorem eT:CK f104 (Rq [Af 3 0,Af 4 1,Af 5 2,Ad 6 0] [3,4,5]<|Sq (Rq [Ae 13 3 2,Az 14 95 13,Aa 7 14] [3,4,5,7]<|Rq [Aa 15 7,As 16 15 0] [3,4,5,7,16]<|Co 16 (Rq [Aa 17 7,Aa 6 17] [6]<|.ret)<|Sk [3,4,5])<|Sq (Rq [Ae 18 4 2,Az 19 95 18,Aa 8 19] [3,4,5,8]<|Rq [Aa 20 8,As 21 20 0] [3,4,5,8,21]<|Co 21 (Rq [Aa 22 8,Aa 6 22] [6]<|.ret)<|Sk [3,4,5])<|Sq (Rq [Ac 23 5 0,Ab 24 23,Ag 25 24,Ac 26 3 0,Ab 27 26,Ag 28 27,Bi 29 25 28,Aa 30 29,Ap 31 5 1 30,Al 32 31 30,Bh 33 32 30,Ap 34 3 1 30,Al 35 34 30,Bh 36 35 30,Ch 37 33 36 30,Aq 38 30 37] [3,4,5,38]<|Co 38 (Rq [Ad 6 20] [6]<|.ret)<|Sk [3,4,5])<|Sq (Rq [Ad 9 0] [3,4,5,9]<|Bl 0<|Lo [3,4,5,9]<|Sq (Rq [Aa 39 9,Ac 40 3 0,Ab 41 40,Ag 42 41,An 43 39 42] [3,4,5,9,43]<|Co 43 (Sk [3,4,5,9])<|Ex 0 [3,4,5])<|Sq (Bl 1<|Sq (Sq (Dr [46,47,48,49,50,51,52,53,54,55,56,57,58,59,60,61,62] [Ac 46 5 0,Ab 47 46,Aa 48 9,Ai 49 47 48 1,Ab 50 49,Ca 51 50 0,Aa 52 51,Ap 53 5 0 52,Al 54 53 52,Au 55 9 52,Bw 56 54 55 1 52,Al 57 56 52,Ap 58 4 0 52,Al 59 58 52,Bh 60 59 52,Bu 61 57 60 52,Aq 62 52 61] [3,4,5,9,62])<|Co 62 (Rq [Ad 6 6] [6]<|.ret)<|Sk [3,4,5,9])<|Sq (Dr [63,64,65,66,67,68,69,70,71,72,73,74,75,76,77] [Ac 63 4 0,Ab 64 63,Ac 65 5 0,Ab 66 65,Aa 67 9,Ai 68 66 67 1,Ab 69 68,Ai 70 64 69 1,Ab 71 70,Ac 72 3 0,Ab 73 72,Aa 74 9,Ai 75 73 74 1,Ab 76 75,Bi 77 71 76] [3,4,5,9,77])<|Co 77 (Rq [Ad 6 13] [6]<|.ret)<|Sk [3,4,5,9])<|Re [Aa 44 9,Ao 45 44 1,Aa 9 45] [3,4,5,9])<|Sq (Rq [Ad 10 0] [3,4,5,10]<|Bl 2<|Lo [3,4,5,10]<|Sq (Rq [Aa 78 10,Ac 79 3 1,Ab 80 79,Ag 81 80,An 82 78 81] [3,4,5,10,82]<|Co 82 (Sk [3,4,5,10])<|Ex 2 [])<|Sq (Bl 3<|Sq (Sq (Dr [85,86,87,88,89,90,91,92,93,94,95,96,97,98,99,100,101] [Ac 85 5 1,Ab 86 85,Aa 87 10,Ai 88 86 87 1,Ab 89 88,Ca 90 89 0,Aa 91 90,Ap 92 5 1 91,Al 93 92 91,Au 94 10 91,Bw 95 93 94 1 91,Al 96 95 91,Ap 97 4 1 91,Al 98 97 91,Bh 99 98 91,Bu 100 96 99 91,Aq 101 91 100] [3,4,5,10,101])<|Co 101 (Rq [Ad 6 6] [6]<|.ret)<|Sk [3,4,5,10])<|Sq (Dr [11,12,102,103,104,105,106,107,108,109,110,111,112,113,114,115] [Ac 102 3 1,Ab 103 102,Aa 104 10,Ai 105 103 104 3,Ae 106 105 3,Ac 107 4 1,Ab 108 107,Ac 109 5 1,Ab 110 109,Aa 111 10,Ai 112 110 111 1,Ab 113 112,Ai 114 108 113 3,Ae 115 114 3,Ci 11 0 0 0,Ci 12 0 0 0,Am 3 11 106,Am 3 12 115] [3,4,5,10,11,12])<|Sq (Rq [Ac 116 11 0,Ab 117 116,Ac 118 12 0,Ab 119 118,Bi 120 117 119] [3,4,5,10,11,12,120]<|Co 120 (Rq [Ad 6 13] [6]<|.ret)<|Sk [3,4,5,10,11,12])<|Sq (Dr [121,122,123,124,125,126,127,128,129,130,131,132,133,134,135,136,137,138,139,140] [Ac 121 5 0,Ab 122 121,Ac 123 11 1,Ab 124 123,Ai 125 122 124 1,Ab 126 125,Ac 127 12 1,Ab 128 127,Bi 129 126 128,Aa 130 129,Ap 131 5 0 130,Al 132 131 130,Ap 133 11 2 130,Al 134 133 130,Bw 135 132 134 1 130,Al 136 135 130,Ap 137 12 2 130,Al 138 137 130,Ch 139 136 138 130,Aq 140 130 139] [3,4,5,10,140])<|Co 140 (Rq [Ad 6 11] [6]<|.ret)<|Sk [3,4,5,10])<|Re [Aa 83 10,Ao 84 83 1,Aa 10 84] [3,4,5,10])<|Rq [Ad 6 0] [6]<|.ret) [.tmp 6]:=by decide +kernel
instance nE (a:Graph) (b:Graph) (m:Morphism):Ct prog (JQ a b m) 104 [B9 a,B9 b,BL m] (fun r=>.sh (eI r)):=Fi eT fun r h hw hR=>by
  unfold JQ at h
  have:HA 0 9 3 0 fun (i0:Int) (_:Unit)=>[(9,.tv (eI i0))]:=⟨⟩
  have:HA 2 10 3 1 fun (i2:Int) (_:Unit)=>[(10,.tv (eI i2))]:=⟨⟩
  exact au
theorem fY:CK f169 (Rq [Aj 2] [0]<|Sq (Rq [Ad 3 0] [0,3]<|Bl 0<|Lo [0,3]<|Sq (Rq [Aa 5 3,Aa 6 0,Ag 7 6,An 8 5 7] [0,3,8]<|Co 8 (Sk [0,3])<|Ex 0 [])<|Sq (Bl 1<|Rq [Ad 4 0] [0,3,4]<|Bl 2<|Lo [0,3,4]<|Sq (Rq [Aa 11 4,Aa 12 3,An 13 11 12] [0,3,4,13]<|Co 13 (Sk [0,3,4])<|Ex 2 [0,3])<|Sq (Bl 3<|Sq (Dr [16,17,18,19,20,21,22,23,24] [Aa 16 0,Aa 17 3,Ai 18 16 17 1,Ab 19 18,Aa 20 0,Aa 21 4,Ai 22 20 21 1,Ab 23 22,Cl 24 19 23] [0,3,4,24])<|Co 24 (Rq [Aj 2] [2]<|.ret)<|Sk [0,3,4])<|Re [Aa 14 4,Ao 15 14 1,Aa 4 15] [0,3,4])<|Re [Aa 9 3,Ao 10 9 1,Aa 3 10] [0,3])<|Rq [Bt 2] [2]<|.ret) [.tmp 2]:=by decide +kernel
instance oE (l:List Int):Ct prog (Hf l) 169 [lI l] (fun r=>.sh (eB r)):=Fi fY fun r h hw hR=>by
  unfold Hf at h
  have:HA 0 3 0 0 fun (i0:Int) (_:Unit)=>[(3,.tv (eI i0))]:=⟨⟩
  have:HA 2 4 3 0 fun (i2:Int) (_:Unit)=>[(4,.tv (eI i2))]:=⟨⟩
  exact au
theorem eU:CK f105 (Rq [Af 3 0,Af 4 1,Af 5 2,Aj 6] [3,4,5]<|Rq [Ae 7 3 2,Ae 8 4 2,Ae 9 5 2,Bf 10 104 7 8 9,Ba 11 10 0,Aa 12 11,Aw 13 5 0 12,Ax 14 13 12,Bx 15 169 14 12,Ar 16 12 15,Aa 17 16,Aw 18 5 1 17,Ax 19 18 17,Bx 20 169 19 17,Ar 21 17 20,Aa 6 21] [6]<|.ret) [.tmp 6]:=by decide +kernel
instance nF (a:Graph) (b:Graph) (m:Morphism):Ct prog (ID a b m) 105 [B9 a,B9 b,BL m] (fun r=>.sh (eB r)):=Fi eU fun r h hw hR=>by
  unfold ID at h
  exact au
theorem lm:CK f44 (Rq [Af 3 0,Af 4 1,Af 5 2,Ad 6 0] [3,4,5]<|Rq [Ae 12 4 5,Dx 7 1 3 4 0 5,Am 5 7 12] [3,4,5,7]<|Sq (Rq [Ac 13 5 0,Ab 14 13,Ba 15 14 5] [3,4,5,7,15]<|Co 15 (Sq (Rq [Ae 16 3 2,Ac 17 4 3,Ab 18 17,Ac 19 5 4,Ae 20 19 5,Bf 21 103 16 18 20,Aa 8 21] [3,4,5,7,8]<|Rq [Aa 22 8,As 23 22 0] [3,4,5,7,8,23]<|Co 23 (Rq [Aa 24 8,Aa 6 24] [6]<|.ret)<|Sk [3,4,5,7])<|Sq (Rq [Ac 25 4 0,Ae 26 25 2,Ac 27 5 4,Ah 28 27 0,Ae 29 28 2,Ac 30 5 2,Ae 31 30 2,Bf 32 104 26 29 31,Aa 9 32] [3,4,5,7,9]<|Rq [Aa 33 9,As 34 33 0] [3,4,5,7,9,34]<|Co 34 (Rq [Aa 35 9,Aa 6 35] [6]<|.ret)<|Sk [3,4,5,7])<|Sq (Rq [Ac 36 4 0,Ae 37 36 2,Ac 38 5 4,Ah 39 38 0,Ae 40 39 2,Ac 41 5 2,Ae 42 41 2,Bf 43 105 37 40 42,Bb 44 43] [3,5,7,44]<|Co 44 (Rq [Ad 6 1] [6]<|.ret)<|Sk [3,5,7])<|Re [Ac 45 5 4,Ae 46 45 5,Am 5 7 46] [3,5,7])<|Sk [3,5,7])<|Sq (Rq [Ad 10 0] [3,5,7,10]<|Bl 0<|Lo [3,5,7,10]<|Sq (Rq [Aa 47 10,Ac 48 5 1,Ab 49 48,Ag 50 49,An 51 47 50] [3,5,7,10,51]<|Co 51 (Sk [3,5,7,10])<|Ex 0 [])<|Sq (Bl 1<|Sq (Dr [11,54,55,56,57,58,59,60,61] [Ae 54 3 2,Ae 55 7 5,Ac 56 5 1,Ab 57 56,Aa 58 10,Ai 59 57 58 9,Ae 60 59 9,Bf 61 44 54 55 60,Aa 11 61] [3,5,7,10,11])<|Rq [Aa 62 11,As 63 62 0] [3,5,7,10,11,63]<|Co 63 (Rq [Aa 64 11,Aa 6 64] [6]<|.ret)<|Sk [3,5,7,10])<|Re [Aa 52 10,Ao 53 52 1,Aa 10 53] [3,5,7,10])<|Rq [Ad 6 0] [6]<|.ret) [.tmp 6]:=by decide +kernel
theorem kt (n:Nat) (_ih_44:∀ (t:AD) (p:Pattern) (c:AB),Ct prog (F1 n t p c) 44 [AS t,BC p,AK c] (fun r=>.sh (eI r))) (t:AD) (p:Pattern) (c:AB):Ct prog (F1 (n+1) t p c) 44 [AS t,BC p,AK c] (fun r=>.sh (eI r)):=Fi lm fun r h hw hR=>by
  unfold F1 at h
  have:HA 0 10 5 1 fun (i0:Int) (_:Unit)=>[(10,.tv (eI i0))]:=⟨⟩
  exact au
theorem ko:∀ n:Nat,(∀ (t:AD) (p:Pattern) (c:AB),Ct prog (F1 n t p c) 44 [AS t,BC p,AK c] (fun r=>.sh (eI r))):=by
  intro n
  induction n with
  | zero=>exact (fun t p c=>⟨fun _ h=>by cases h⟩)
  | succ n ih=>exact kt n ih
instance qp (t:AD) (p:Pattern) (c:AB):Ct prog (Q2 t p c) 44 [AS t,BC p,AK c] (fun r=>.sh (eI r)):=⟨fun r h=>by
  obtain ⟨N,hN⟩:=DL h
  exact ((ko N) t p c).snd r (hN N (Nat.le_refl _))⟩
theorem lL:CK f16 (Rq [Af 3 0,Af 4 1,Af 5 2,Ad 6 0] [3,4,5]<|Sq (Rq [Ae 9 3 2,Ae 10 4 5,Ay 11 42 9 10,Aa 7 11] [3,4,5,7]<|Rq [Aa 12 7,As 13 12 0] [3,4,5,7,13]<|Co 13 (Rq [Aa 14 7,Aa 6 14] [6]<|.ret)<|Sk [3,4,5])<|Sq (Rq [Ae 15 5 9,Az 16 43 15,Aa 8 16] [3,4,5,8]<|Rq [Aa 17 8,As 18 17 0] [3,4,5,8,18]<|Co 18 (Rq [Aa 19 8,Aa 6 19] [6]<|.ret)<|Sk [3,4,5])<|Rq [Ae 20 3 2,Ae 21 4 5,Ae 22 5 9,Bf 23 44 20 21 22,Aa 6 23] [6]<|.ret) [.tmp 6]:=by decide +kernel
instance qR (t:AD) (p:Pattern) (c:AB):Ct prog (JT t p c) 16 [AS t,BC p,AK c] (fun r=>.sh (eI r)):=Fi lL fun r h hw hR=>by
  unfold JT at h
  exact au
theorem lw:CK f58 (Rq [Af 1 0,Aj 2] [1]<|Sq (Rq [Ac 4 1 0,Ae 5 4 2,Az 6 38 5,Bb 7 6,Aa 8 7,Ap 9 1 2 8,Al 10 9 8,Bh 11 10 8,Cf 12 11 45 8,Aq 13 8 12] [1,13]<|Co 13 (Rq [Aj 2] [2]<|.ret)<|Sk [1])<|Sq (Rq [Ad 3 0] [1,3]<|Bl 0<|Lo [1,3]<|Sq (Rq [Aa 14 3,Ac 15 1 2,Ab 16 15,Ag 17 16,An 18 14 17] [1,3,18]<|Co 18 (Sk [1,3])<|Ex 0 [])<|Sq (Bl 1<|Rq [Ac 21 1 2,Ab 22 21,Aa 23 3,Ai 24 22 23 1,Ab 25 24,Ag 26 25,Bo 27 26 12] [1,3,27]<|Co 27 (Rq [Aj 2] [2]<|.ret)<|Sk [1,3])<|Re [Aa 19 3,Ao 20 19 1,Aa 3 20] [1,3])<|Rq [Bt 2] [2]<|.ret) [.tmp 2]:=by decide +kernel
instance qx (h_0:AZ):Ct prog (Kx h_0) 58 [FK h_0] (fun r=>.sh (eB r)):=Fi lw fun r h hw hR=>by
  unfold Kx at h
  have:HA 0 3 1 2 fun (i0:Int) (_:Unit)=>[(3,.tv (eI i0))]:=⟨⟩
  exact au
theorem l7:CK f65 (Rq [Af 3 0,Af 4 1,Af 5 2,Ad 6 0] [3,4,5]<|Sq (Rq [Ae 12 3 2,Az 13 94 12,Aa 11 13,Ak 14 11 0,Ak 15 11 1,Aa 7 14,Aa 8 15] [3,4,5,8]<|Rq [Aa 16 8,As 17 16 0] [3,4,5,8,17]<|Co 17 (Rq [Aa 18 8,Aa 6 18] [6]<|.ret)<|Sk [3,4,5])<|Sq (Rq [Ae 19 4 2,Az 20 95 19,Aa 9 20] [3,4,5,9]<|Rq [Aa 21 9,As 22 21 0] [3,4,5,9,22]<|Co 22 (Rq [Aa 23 9,Aa 6 23] [6]<|.ret)<|Sk [3,4,5])<|Sq (Rq [Ae 24 5 2,Az 25 95 24,Aa 10 25] [3,4,5,10]<|Rq [Aa 26 10,As 27 26 0] [3,4,5,10,27]<|Co 27 (Rq [Aa 28 10,Aa 6 28] [6]<|.ret)<|Sk [3,4,5])<|Sq (Rq [Ae 29 3 2,Ae 30 4 2,Ay 31 96 29 30,Bb 32 31,Aa 33 32,Cc 34 3 2 33,Cc 35 5 2 33,Cv 36 96 34 35 33,Bk 37 36 33,Aq 38 33 37] [38]<|Co 38 (Rq [Ad 6 13] [6]<|.ret)<|Sk [])<|Rq [Ad 6 0] [6]<|.ret) [.tmp 6]:=by decide +kernel
instance q7 (t:AD) (p:Graph) (g:Graph):Ct prog (IN t p g) 65 [AS t,B9 p,B9 g] (fun r=>.sh (eI r)):=Fi l7 fun r h hw hR=>by
  unfold IN at h
  exact au
theorem eu:CK f130 (Rq [Af 3 0,Af 4 1,Af 5 2,Aj 6] [3,4,5]<|Rq [Ae 7 3 2,Az 8 12 7,Aa 9 8,Bg 10 4 2 9,Bx 11 38 10 9,Ar 12 9 11,Aa 13 12,Bg 14 5 2 13,Bx 15 38 14 13,Ar 16 13 15,Aa 17 16,Bg 18 3 2 17,Bg 19 4 2 17,Bg 20 5 2 17,Ef 21 65 18 19 20 17,Fu 22 21 0 17,Av 23 22 17,Ap 24 4 0 23,Al 25 24 23,Bh 26 25 23,Ap 27 4 1 23,Al 28 27 23,Bh 29 28 23,⟨some 30,.bin (.i) .add (.s 26) (.s 29),some (23,false)⟩,⟨some 31,.bin (.i) .leq (.s 30) (.c (.int .i64 6)),some (23,false)⟩,Au 32 31 23,Aw 33 5 0 32,Ax 34 33 32,Ce 35 34 32,Cj 36 35 8 32,Cd 37 32 36 23,Au 38 37 23,Aw 39 5 1 38,Ax 40 39 38,Ce 41 40 38,Cj 42 41 12 38,Cd 43 38 42 23,Dn 44 23 43 17,Ar 45 17 44,Aa 6 45] [6]<|.ret) [.tmp 6]:=by decide +kernel
instance nX (t:AD) (p:Graph) (g:Graph):Ct prog (KP t p g) 130 [AS t,B9 p,B9 g] (fun r=>.sh (eB r)):=Fi eu fun r h hw hR=>by
  unfold KP at h
  exact au
theorem ly:CK f59 (Rq [Af 3 0,Af 4 1,Af 5 2,Aj 6] [3,4,5]<|Rq [Ae 7 4 5,Az 8 14 7,Aa 9 8,Bg 10 5 3 9,Bx 11 58 10 9,Ar 12 9 11,Aa 13 12,Bg 14 3 2 13,Aw 15 4 0 13,Bg 16 15 2 13,Aw 17 5 0 13,Bg 18 17 2 13,Ef 19 130 14 16 18 13,Ar 20 13 19,Aa 6 20] [6]<|.ret) [.tmp 6]:=by decide +kernel
instance qy (t:AD) (p:Pattern) (h_2:AZ):Ct prog (Lv t p h_2) 59 [AS t,BC p,FK h_2] (fun r=>.sh (eB r)):=Fi ly fun r h hw hR=>by
  unfold Lv at h
  exact au
theorem lz:CK f60 (Rq [Af 1 0,Aj 2] [1]<|Sq (Rq [Ad 3 0] [1,3]<|Bl 0<|Lo [1,3]<|Sq (Rq [Aa 4 3,Ac 5 1 1,Ab 6 5,Ag 7 6,An 8 4 7] [1,3,8]<|Co 8 (Sk [1,3])<|Ex 0 [1])<|Sq (Bl 1<|Rq [Ac 11 1 1,Ab 12 11,Aa 13 3,Ai 14 12 13 9,Ae 15 14 9,Az 16 60 15,Bb 17 16] [1,3,17]<|Co 17 (Rq [Aj 2] [2]<|.ret)<|Sk [1,3])<|Re [Aa 9 3,Ao 10 9 1,Aa 3 10] [1,3])<|Rq [Ac 18 1 4,Ah 19 18 0,Ah 20 19 0,Ab 21 20,Ag 22 21,Ac 23 1 4,Ah 24 23 0,Ah 25 24 1,Ab 26 25,Ag 27 26,Br 28 22 27,Gb 29 28 6,Aa 2 29] [2]<|.ret) [.tmp 2]:=by decide +kernel
theorem k6 (n:Nat) (_ih_60:∀ (c:AB),Ct prog (GI n c) 60 [AK c] (fun r=>.sh (eB r))) (c:AB):Ct prog (GI (n+1) c) 60 [AK c] (fun r=>.sh (eB r)):=Fi lz fun r h hw hR=>by
  unfold GI at h
  have:HA 0 3 1 1 fun (i0:Int) (_:Unit)=>[(3,.tv (eI i0))]:=⟨⟩
  exact au
theorem kz:∀ n:Nat,(∀ (c:AB),Ct prog (GI n c) 60 [AK c] (fun r=>.sh (eB r))):=by
  intro n
  induction n with
  | zero=>exact (fun c=>⟨fun _ h=>by cases h⟩)
  | succ n ih=>exact k6 n ih
instance qz (c:AB):Ct prog (Mz c) 60 [AK c] (fun r=>.sh (eB r)):=⟨fun r h=>by
  obtain ⟨N,hN⟩:=DL h
  exact ((kz N) c).snd r (hN N (Nat.le_refl _))⟩
theorem l3:CK f61 (Rq [Af 4 0,Af 5 1,Aj 8] [2,3,4,5]<|Rq [Ae 14 4 5,Dx 9 1 3 4 0 5,Am 5 9 14] [2,3,4,5,9]<|Sq (Rq [Ac 15 5 0,Ab 16 15,Ba 17 16 5] [2,3,4,5,9,17]<|Co 17 (Re [Ac 18 5 4,Ae 19 18 5,Am 5 9 19] [2,3,4,5,9])<|Sk [2,3,4,5,9])<|Rq [Ad 10 1] [2,3,4,5,9,10]<|Sq (Rq [Ac 20 4 0,Ah 21 20 0,Ab 22 21,Ag 23 22,Aa 11 23] [2,3,4,5,9,10,11]<|Bl 0<|Lo [2,3,4,5,9,10,11]<|Sq (Rq [Aa 24 11,Ac 25 9 0,Ah 26 25 0,Ab 27 26,Ag 28 27,An 29 24 28] [2,3,4,5,9,10,11,29]<|Co 29 (Sk [2,3,4,5,9,10,11])<|Ex 0 [2,3,4,5,9,10])<|Sq (Bl 1<|Re [Aa 32 10,Aa 33 2,⟨some 34,.bin (.i) .mul (.s 32) (.s 33),none⟩,Aa 10 34] [2,3,4,5,9,10,11])<|Re [Aa 30 11,Ao 31 30 1,Aa 11 31] [2,3,4,5,9,10,11])<|Sq (Rq [Ac 35 4 0,Ah 36 35 1,Ab 37 36,Ag 38 37,Aa 12 38] [2,3,5,9,10,12]<|Bl 2<|Lo [2,3,5,9,10,12]<|Sq (Rq [Aa 39 12,Ac 40 9 0,Ah 41 40 1,Ab 42 41,Ag 43 42,An 44 39 43] [2,3,5,9,10,12,44]<|Co 44 (Sk [2,3,5,9,10,12])<|Ex 2 [2,3,5,9,10])<|Sq (Bl 3<|Re [Aa 47 10,Aa 48 3,⟨some 49,.bin (.i) .mul (.s 47) (.s 48),none⟩,Aa 10 49] [2,3,5,9,10,12])<|Re [Aa 45 12,Ao 46 45 1,Aa 12 46] [2,3,5,9,10,12])<|Sq (Rq [Ad 13 0] [2,3,5,9,10,13]<|Bl 4<|Lo [2,3,5,9,10,13]<|Sq (Rq [Aa 50 13,Ac 51 5 1,Ab 52 51,Ag 53 52,An 54 50 53] [2,3,5,9,10,13,54]<|Co 54 (Sk [2,3,5,9,10,13])<|Ex 4 [10])<|Sq (Bl 5<|Sq (Dr [57,58,59,60,61,62,63,64,65,66] [Ae 57 9 5,Ac 58 5 1,Ab 59 58,Aa 60 13,Ai 61 59 60 9,Ae 62 61 9,Aa 63 2,Aa 64 3,Cs 65 61 57 62 63 64,Bb 66 65] [2,3,5,9,10,13,66])<|Co 66 (Rq [Aj 8] [8]<|.ret)<|Sk [2,3,5,9,10,13])<|Re [Aa 55 13,Ao 56 55 1,Aa 13 56] [2,3,5,9,10,13])<|Rq [Aa 67 10,Gb 68 67 5000,Aa 8 68] [8]<|.ret) [.tmp 8]:=by decide +kernel
theorem k8 (n:Nat) (_ih_61:∀ (p:Pattern) (c:AB) (nodes:Int) (edges:Int),Ct prog (ER n p c nodes edges) 61 [BC p,AK c,eI nodes,eI edges] (fun r=>.sh (eB r))) (p:Pattern) (c:AB) (nodes:Int) (edges:Int):Ct prog (ER (n+1) p c nodes edges) 61 [BC p,AK c,eI nodes,eI edges] (fun r=>.sh (eB r)):=Fi l3 fun r h hw hR=>by
  unfold ER at h
  have:HJ 17 fun (w1:Pattern)=>[(9,.bx [⟨false,lI w1.Graph.Nodes⟩,⟨false,lE w1.Graph.Edges⟩,⟨false,lS w1.Slots⟩,⟨false,eI w1.Vars⟩,⟨false,lT w1.Tests⟩])]:=⟨⟩
  have:HW 0 fun (s0:Int × Int)=>[(10,.tv (eI s0.1)),(11,.tv (eI s0.2))]:=⟨⟩
  have:HW 2 fun (s2:Int × Int)=>[(10,.tv (eI s2.1)),(12,.tv (eI s2.2))]:=⟨⟩
  have:HA 4 13 5 1 fun (i4:Int) (_:Unit)=>[(13,.tv (eI i4))]:=⟨⟩
  exact au
theorem k7:∀ n:Nat,(∀ (p:Pattern) (c:AB) (nodes:Int) (edges:Int),Ct prog (ER n p c nodes edges) 61 [BC p,AK c,eI nodes,eI edges] (fun r=>.sh (eB r))):=by
  intro n
  induction n with
  | zero=>exact (fun p c nodes edges=>⟨fun _ h=>by cases h⟩)
  | succ n ih=>exact k8 n ih
instance q0 (p:Pattern) (c:AB) (nodes:Int) (edges:Int):Ct prog (MK p c nodes edges) 61 [BC p,AK c,eI nodes,eI edges] (fun r=>.sh (eB r)):=⟨fun r h=>by
  obtain ⟨N,hN⟩:=DL h
  exact ((k7 N) p c nodes edges).snd r (hN N (Nat.le_refl _))⟩
theorem lV:CK f28 (Rq [Af 4 0,Af 5 1,Af 6 2,Af 7 3,Aj 8] [4,5,6,7]<|Sq (Rq [Ae 9 6 9,Az 10 13 9,Bb 11 10,Aa 12 11,Cc 13 5 5 12,Df 14 14 13 12,Bk 15 14 12,Aq 16 12 15,Aa 17 16,Cc 18 7 3 17,Df 19 58 18 17,Bk 20 19 17,Aq 21 17 20] [4,5,6,7,21]<|Co 21 (Rq [Aj 8] [8]<|.ret)<|Sk [4,5,6,7])<|Rq [Ae 22 4 2,Ae 23 5 5,Ae 24 6 9,Bf 25 16 22 23 24,As 26 25 0,Aa 27 26,Cc 28 4 2 27,Cc 29 5 5 27,Cc 30 7 3 27,Gd 31 59 28 29 30 27,Au 32 31 27,Bg 33 6 9 32,Bx 34 60 33 32,Cd 35 32 34 27,Au 36 35 27,Aw 37 7 0 36,Bn 38 37 0 36,Ax 39 38 36,Ce 40 39 36,Cj 41 40 6 36,Cd 42 36 41 27,Au 43 42 27,Aw 44 7 0 43,Bn 45 44 1 43,Ax 46 45 43,Ce 47 46 43,Cj 48 47 8 43,Cd 49 43 48 27,Au 50 49 27,Bg 51 5 5 50,Bg 52 6 9 50,⟨some 53,.call 61 [.s 51,.s 52,.c (.int .i64 14),.c (.int .i64 18)],some (50,true)⟩,Cd 54 50 53 27,Aq 55 27 54,Aa 8 55] [8]<|.ret) [.tmp 8]:=by decide +kernel
instance qY (t:AD) (p:Pattern) (c:AB) (h_3:AZ):Ct prog (KU t p c h_3) 28 [AS t,BC p,AK c,FK h_3] (fun r=>.sh (eB r)):=Fi lV fun r h hw hR=>by
  unfold KU at h
  exact au
theorem lM:CK f17 (Rq [Af 3 0,Af 4 1,Af 5 2,Aj 6] [3,4,5]<|Rq [Ae 7 3 2,Az 8 12 7,Aa 9 8,Bg 10 3 2 9,Aw 11 4 0 9,Bg 12 11 5 9,Aw 13 4 5 9,Bg 14 13 9 9,Aw 15 5 0 9,Bg 16 15 3 9,Ga 17 28 10 12 14 16 9,Ar 18 9 17,Aa 19 18,Aw 20 5 3 19,Bn 21 20 0 19,Bn 22 21 0 19,Ax 23 22 19,Ce 24 23 19,Aw 25 5 3 19,Bn 26 25 0 19,Bn 27 26 1 19,Ax 28 27 19,Ce 29 28 19,Ea 30 24 29 19,Aw 31 5 3 19,Bn 32 31 2 19,Ax 33 32 19,Ce 34 33 19,Ea 35 30 34 19,Cj 36 35 200 19,Ar 37 19 36,Aa 6 37] [6]<|.ret) [.tmp 6]:=by decide +kernel
instance qS (t:AD) (x_1:GU) (y:Ki):Ct prog (KI t x_1 y) 17 [AS t,GQ x_1,Ko y] (fun r=>.sh (eB r)):=Fi lM fun r h hw hR=>by
  unfold KI at h
  exact au
theorem fv:CK f189 (Rq [Af 3 0,Aj 6] [1,2,3]<|Sq (Dr [6,7,8,9,10,11,12,13,14,15,16,17,18,19,20,21,22,23,24] [Aa 7 1,Aa 8 2,Cl 9 7 8,Aa 10 9,Au 11 1 10,⟨some 12,.bin (.i) .geq (.s 11) (.c (.int .i64 0)),some (10,false)⟩,Au 13 12 10,Bg 14 3 2 13,Aw 15 3 0 13,Ax 16 15 13,Av 17 1 13,Cy 18 16 17 4 13,Bn 19 18 1 13,Ax 20 19 13,Av 21 2 13,Ef 22 189 14 20 21 13,Cd 23 13 22 10,Aq 24 10 23,Aa 6 24] [6])<|.ret) [.tmp 6]:=by decide +kernel
theorem eC (n:Nat) (_ih_189:∀ (t:AD) (a:Int) (b:Int),Ct prog (GH n t a b) 189 [AS t,eI a,eI b] (fun r=>.sh (eB r))) (t:AD) (a:Int) (b:Int):Ct prog (GH (n+1) t a b) 189 [AS t,eI a,eI b] (fun r=>.sh (eB r)):=Fi fv fun r h hw hR=>by
  unfold GH at h
  exact au
theorem eA:∀ n:Nat,(∀ (t:AD) (a:Int) (b:Int),Ct prog (GH n t a b) 189 [AS t,eI a,eI b] (fun r=>.sh (eB r))):=by
  intro n
  induction n with
  | zero=>exact (fun t a b=>⟨fun _ h=>by cases h⟩)
  | succ n ih=>exact eC n ih
instance oV (t:AD) (a:Int) (b:Int):Ct prog (Hl t a b) 189 [AS t,eI a,eI b] (fun r=>.sh (eB r)):=⟨fun r h=>by
  obtain ⟨N,hN⟩:=DL h
  exact ((eA N) t a b).snd r (hN N (Nat.le_refl _))⟩
theorem en:CK f124 (Rq [Af 4 0,Aj 8] [1,2,3,4]<|Sq (Rq [Ae 9 4 2,Aa 10 2,Aa 11 3,Bf 12 185 9 10 11,As 13 12 0,Aa 14 13,Au 15 1 14,Ap 16 4 1 14,Al 17 16 14,Bh 18 17 14,Ew 19 18 1 14,Gc 20 188 15 0 19 14,Bk 21 20 14,Aq 22 14 21] [1,2,3,4,22]<|Co 22 (Rq [Aj 8] [8]<|.ret)<|Sk [1,2,3,4])<|Sq (Dr [8,23,24,25,26,27,28,29,30,31,32,33,34,35,36,37,38,39,40,41,42] [Ae 23 4 2,Aa 24 2,Ac 25 4 1,Ab 26 25,Aa 27 1,Ai 28 26 27 7,Ah 29 28 1,Ab 30 29,Bf 31 189 23 24 30,Aa 32 31,Bg 33 4 2 32,Av 34 3 32,Aw 35 4 1 32,Ax 36 35 32,Av 37 1 32,Cy 38 36 37 7 32,Bn 39 38 2 32,Ax 40 39 32,Ef 41 189 33 34 40 32,Ar 42 32 41,Aa 8 42] [8])<|.ret) [.tmp 8]:=by decide +kernel
instance nU (t:AD) (edge:Int) (from':Int) (to':Int):Ct prog (LF t edge from' to') 124 [AS t,eI edge,eI from',eI to'] (fun r=>.sh (eB r)):=Fi en fun r h hw hR=>by
  unfold LF at h
  exact au
theorem fZ:CK f170 (Rq [Af 3 0,Ad 6 0] [1,2,3]<|Sq (Rq [Aa 10 1,Ac 11 3 0,Ab 12 11,Ag 13 12,Cm 14 10 13] [1,2,3,14]<|Co 14 (Rq [Ad 6 6] [6]<|.ret)<|Sk [1,2,3])<|Sq (Rq [Ac 15 3 0,Ab 16 15,Aa 17 1,Ai 18 16 17 4,Ah 19 18 2,Ab 20 19] [1,2,3,20]<|Co 20 (Rq [Ad 6 13] [6]<|.ret)<|Sk [1,2,3])<|Rq [Ae 22 3 2,Aa 23 1,Ay 24 121 22 23,Aa 21 24,Ak 25 21 0,Ak 26 21 1,Be 7 25,Aa 8 26] [2,7]<|Sq (Rq [Aa 27 2,Ag 28 27,Aa 29 7,Ag 30 29,Bi 31 28 30] [2,7,31]<|Co 31 (Rq [Ad 6 20] [6]<|.ret)<|Sk [2,7])<|Sq (Rq [Ad 9 0] [2,7,9]<|Bl 0<|Lo [2,7,9]<|Sq (Rq [Aa 32 9,Aa 33 7,Ag 34 33,An 35 32 34] [2,7,9,35]<|Co 35 (Sk [2,7,9])<|Ex 0 [])<|Sq (Bl 1<|Sq (Dr [38,39,40,41,42,43,44,45,46,47,48,49,50,51,52,53,54,55,56,57,58,59] [Aa 38 2,Aa 39 9,Ai 40 38 39 1,Ab 41 40,Aa 42 7,Aa 43 9,Ai 44 42 43 4,Ah 45 44 1,Ab 46 45,An 47 41 46,Aa 48 47,Au 49 2 48,Au 50 9 48,Bw 51 49 50 1 48,Al 52 51 48,Au 53 7 48,Au 54 9 48,Bw 55 53 54 4 48,Bp 56 55 2 48,Al 57 56 48,⟨some 58,.bin (.i) .gtr (.s 52) (.s 57),some (48,false)⟩,Aq 59 48 58] [2,7,9,59])<|Co 59 (Rq [Ad 6 6] [6]<|.ret)<|Sk [2,7,9])<|Re [Aa 36 9,Ao 37 36 1,Aa 9 37] [2,7,9])<|Rq [Ad 6 0] [6]<|.ret) [.tmp 6]:=by decide +kernel
instance oF (t:AD) (kind:Int) (A5:List Int):Ct prog (LI t kind A5) 170 [AS t,eI kind,lI A5] (fun r=>.sh (eI r)):=Fi fZ fun r h hw hR=>by
  unfold LI at h
  have:HA 0 9 7 0 fun (i0:Int) (_:Unit)=>[(9,.tv (eI i0))]:=⟨⟩
  exact au
theorem eV:CK f106 (Rq [Af 2 0,Af 3 1,Ad 4 0,Ad 5 0] [2,3]<|Sq (Rq [Ae 14 2 2,Az 15 94 14,Aa 13 15,Ak 16 13 0,Ak 17 13 1,Aa 6 16,Aa 7 17] [2,3,7]<|Rq [Aa 18 7,As 19 18 0] [2,3,7,19]<|Co 19 (Rq [Aa 20 7,Bs 4 (-1),Aa 5 20] [4,5]<|.ret)<|Sk [2,3])<|Sq (Rq [Ac 21 3 0,Ae 22 21 2,Az 23 95 22,Aa 8 23] [2,3,8]<|Rq [Aa 24 8,As 25 24 0] [2,3,8,25]<|Co 25 (Rq [Aa 26 8,Bs 4 (-1),Aa 5 26] [4,5]<|.ret)<|Sk [2,3])<|Sq (Rq [Ac 27 3 2,Ab 28 27,Ag 29 28,Ac 30 3 0,Ah 31 30 0,Ab 32 31,Ag 33 32,Bi 34 29 33] [2,3,34]<|Co 34 (Rq [Bs 4 (-1),Ad 5 20] [4,5]<|.ret)<|Sk [2,3])<|Sq (Rq [Ad 9 0] [2,3,9]<|Bl 0<|Lo [2,3,9]<|Sq (Rq [Aa 35 9,Ac 36 3 0,Ah 37 36 0,Ab 38 37,Ag 39 38,An 40 35 39] [2,3,9,40]<|Co 40 (Sk [2,3,9])<|Ex 0 [2,3])<|Sq (Bl 1<|Sq (Dr [10,43,44,45,46,47,48,49,50,51,52,53,54,55] [Ae 43 2 2,Ac 44 3 0,Ah 45 44 0,Ab 46 45,Aa 47 9,Ai 48 46 47 1,Ab 49 48,Ac 50 3 2,Ab 51 50,Aa 52 9,Ai 53 51 52 1,Ab 54 53,Bf 55 170 43 49 54,Aa 10 55] [2,3,9,10])<|Rq [Aa 56 10,As 57 56 0] [2,3,9,10,57]<|Co 57 (Rq [Aa 58 9,Aa 59 10,Aa 4 58,Aa 5 59] [4,5]<|.ret)<|Sk [2,3,9])<|Re [Aa 41 9,Ao 42 41 1,Aa 9 42] [2,3,9])<|Sq (Rq [Ad 11 0] [2,3,11]<|Bl 2<|Lo [2,3,11]<|Sq (Rq [Aa 60 11,Ac 61 3 0,Ah 62 61 1,Ab 63 62,Ag 64 63,An 65 60 64] [2,3,11,65]<|Co 65 (Sk [2,3,11])<|Ex 2 [])<|Sq (Bl 3<|Rq [Ac 68 3 0,Ah 69 68 1,Ab 70 69,Aa 71 11,Ai 72 70 71 3,Ae 73 72 3,Ci 12 0 0 0,Am 3 12 73] [2,3,11,12]<|Sq (Rq [Ac 74 12 0,Ab 75 74,Ac 76 2 1,Ab 77 76,Ag 78 77,Cm 79 75 78] [2,3,11,12,79]<|Co 79 (Rq [Aa 80 11,Aa 4 80,Ad 5 6] [4,5]<|.ret)<|Sk [2,3,11,12])<|Sq (Dr [81,82,83,84,85,86,87,88,89,90,91,92,93,94,95,96,97,98,99] [Ae 81 2 2,Ac 82 12 0,Ab 83 82,Ac 84 3 0,Ah 85 84 0,Ab 86 85,Ac 87 12 1,Ab 88 87,Ai 89 86 88 1,Ab 90 89,Ac 91 3 0,Ah 92 91 0,Ab 93 92,Ac 94 12 2,Ab 95 94,Ai 96 93 95 1,Ab 97 96,Cs 98 124 81 83 90 97,Bb 99 98] [2,3,11,99])<|Co 99 (Rq [Aa 100 11,Aa 4 100,Ad 5 13] [4,5]<|.ret)<|Sk [2,3,11])<|Re [Aa 66 11,Ao 67 66 1,Aa 11 67] [2,3,11])<|Rq [Bs 4 (-1),Ad 5 0] [4,5]<|.ret) [.tmp 4,.tmp 5]:=by decide +kernel
instance nG (t:AD) (h_1:AZ):Ct prog (JR t h_1) 106 [AS t,FK h_1] (fun r=>.tp [eI r.1,eI r.2]):=Fi eV fun r h hw hR=>by
  unfold JR at h
  have:HA 0 9 3 0 fun (i0:Int) (_:Unit)=>[(9,.tv (eI i0))]:=⟨⟩
  have:HA 2 11 3 1 fun (i2:Int) (_:Unit)=>[(11,.tv (eI i2))]:=⟨⟩
  exact au
theorem e9:CK f143 (Rq [Aj 4] [0,1]<|Sq (Rq [Aa 6 0,Ag 7 6,Aa 8 1,Ag 9 8,Bi 10 7 9] [0,1,10]<|Co 10 (Rq [Aj 4] [4]<|.ret)<|Sk [0,1])<|Sq (Rq [Ad 5 0] [0,1,5]<|Bl 0<|Lo [0,1,5]<|Sq (Rq [Aa 11 5,Aa 12 0,Ag 13 12,An 14 11 13] [0,1,5,14]<|Co 14 (Sk [0,1,5])<|Ex 0 [])<|Sq (Bl 1<|Sq (Dr [17,18,19,20,21,22,23,24,25] [Aa 17 0,Aa 18 5,Ai 19 17 18 1,Ab 20 19,Aa 21 1,Aa 22 5,Ai 23 21 22 1,Ab 24 23,Bi 25 20 24] [0,1,5,25])<|Co 25 (Rq [Aj 4] [4]<|.ret)<|Sk [0,1,5])<|Re [Aa 15 5,Ao 16 15 1,Aa 5 16] [0,1,5])<|Rq [Bt 4] [4]<|.ret) [.tmp 4]:=by decide +kernel
instance nf (a:List Int) (b:List Int):Ct prog (J1 a b) 143 [lI a,lI b] (fun r=>.sh (eB r)):=Fi e9 fun r h hw hR=>by
  unfold J1 at h
  have:HA 0 5 0 0 fun (i0:Int) (_:Unit)=>[(5,.tv (eI i0))]:=⟨⟩
  exact au
theorem g6:CK f255 (Rq [Aj 2] [0]<|Sq (Rq [Ad 3 0] [0,3]<|Bl 0<|Lo [0,3]<|Sq (Rq [Aa 5 3,Aa 6 0,Ag 7 6,An 8 5 7] [0,3,8]<|Co 8 (Sk [0,3])<|Ex 0 [])<|Sq (Bl 1<|Rq [Ad 4 0] [0,3,4]<|Bl 2<|Lo [0,3,4]<|Sq (Rq [Aa 11 4,Aa 12 3,An 13 11 12] [0,3,4,13]<|Co 13 (Sk [0,3,4])<|Ex 2 [0,3])<|Sq (Bl 3<|Sq (Dr [16,17,18,19,20,21,22,23,24] [Aa 16 0,Aa 17 3,Ai 18 16 17 1,Ab 19 18,Aa 20 0,Aa 21 4,Ai 22 20 21 1,Ab 23 22,Cl 24 19 23] [0,3,4,24])<|Co 24 (Rq [Aj 2] [2]<|.ret)<|Sk [0,3,4])<|Re [Aa 14 4,Ao 15 14 1,Aa 4 15] [0,3,4])<|Re [Aa 9 3,Ao 10 9 1,Aa 3 10] [0,3])<|Rq [Bt 2] [2]<|.ret) [.tmp 2]:=by decide +kernel
instance pT (l:List Int):Ct prog (Ii l) 255 [lI l] (fun r=>.sh (eB r)):=Fi g6 fun r h hw hR=>by
  unfold Ii at h
  have:HA 0 3 0 0 fun (i0:Int) (_:Unit)=>[(3,.tv (eI i0))]:=⟨⟩
  have:HA 2 4 3 0 fun (i2:Int) (_:Unit)=>[(4,.tv (eI i2))]:=⟨⟩
  exact au
end Go.Sf.Sc
