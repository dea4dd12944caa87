/- Contracts of the functions. -/
import Derived.Test.YtmaobfbhdkafkaaGreatCon0
import Derived.Test.YtmaobfbhdkafkaaGreatTryzShelf
import Derived.Test.YtmaobfbhdkafkaaGreatRp
set_option maxRecDepth 100000
set_option maxHeartbeats 4000000
namespace Go.Sf.Sc
open Go Go.Sf Go.Proofs.Tryz
theorem n9 (l:List Int) (m:Int) (r:List Int) (h:Hp l m=some r):AS prog 235 [lI l,eI m] (.own (lI r)):=by
  unfold Hp at h
  split at h
  · rename_i hl
    cases h
    obtain ⟨x,rfl⟩:=List.length_eq_one_iff.1 hl.1
    obtain ⟨k,rfl⟩:=Int.eq_ofNat_of_zero_le hl.2.1
    exact U9 x k (by have:=hl.2.2; omega)
  · cases h
instance tV (l:List Int) (m:Int):Ct Go.Proofs.Tryz.prog (Hp l m) 235 [lI l,eI m] (fun r=>.own (lI r)):=⟨n9 l m⟩
theorem j9:CK f181 (Rq [Bb 6 1] [0,1,2]<|Rq [Gr 10 1 (-1),Aa 11 0,Gd 12 235 10 11,Ci 7 12] [1,2,7]<|Sq (Rq [Aa 13 1,Ah 14 13,Ad 15 0] [2,7,13,14,15]<|Bl 0<|Lo [2,7,13,14,15]<|Rq [Am 16 15 14] [2,7,13,14,15,16]<|Sq (Co 16 (Sk [2,7,13,14,15])<|Ex 0 [7])<|Sq (Bl 1<|Rq [Aa 17 15,Ai 18 13 15 1,Ac 19 18,Aa 8 17,Aa 9 19] [2,7,8,9,13,14,15]<|Re [Bu 20 7,Aa 21 9,Aa 22 2,Aa 23 8,Ai 24 22 23 1,Ac 25 24,Cj 26 20 21 1,Dw 26 25] [2,7,13,14,15])<|Re [Al 27 15 1,Aa 15 27] [2,7,13,14,15])<|Rq [Dx 28 7,Ax 6 28] [6]<|.ret) [.tmp 6]:=by decide +kernel
instance rY (n:Int) (AB:List Int) (images:List Int):Ct prog (GV n AB images) 181 [eI n,lI AB,lI images] (fun r=>.own (lI r)):=Fi j9 fun r h hw hR=>by
  unfold GV at h
  have:HA 0 15 14 0 fun (i0:Int) (s0:List Int)=>[(7,.xo 1 (List.map eI s0)),(15,.tv (eI i0))]:=⟨⟩
  exact au
theorem k7:CK f236 (Rq [Ag 2 0,Ad 4 0,Ad 5 0] [1,2]<|Sq (Rq [Ab 6 2 0,Ac 7 6,Aa 8 1,Ah 9 8,Bw 10 9 1,⟨some 11,.call 85 [.s 7,.c (.int .i64 (-1)),.s 10],none⟩,Be 12 11] [1,2,12]<|Co 12 (Rq [Ad 4 0,Ad 5 6] [4,5]<|.ret)<|Sk [1,2])<|Rq [Ae 13 2 2,Aa 14 1,Av 15 232 13 14,Aa 4 15,Ad 5 0] [4,5]<|.ret) [.tmp 4,.tmp 5]:=by decide +kernel
instance sS (x_0:Term) (BB:List Int):Ct prog (GU x_0 BB) 236 [Pa x_0,lI BB] (fun r=>.tp [eI r.1,eI r.2]):=Fi k7 fun r h hw hR=>by
  unfold GU at h
  exact au
theorem kA:CK f182 (Rq [Ag 4 0,Ag 5 1,Ag 6 2,Bb 8 1,Aj 9] [3,4,5,6]<|Sq (Dr [10,21,22,23,24,25,26,27,28] [Aa 21 3,⟨some 22,.callx 138 [.s 21],none⟩,Ab 23 5 3,Ac 24 23,Aa 25 3,Ah 26 25,Dv 27 24 26,⟨some 28,.appz 1 22 (.int .i64 0) (.s 27),none⟩,Ci 10 28] [3,4,5,6,10])<|Rq [Ab 29 5 3,Ac 30 29,Ey 31 1 30,Ci 11 31] [3,4,5,6,10,11]<|Sq (Rq [Aa 32 3,Ah 33 32,Ad 34 0] [4,5,6,10,11,33,34]<|Bl 0<|Lo [4,5,6,10,11,33,34]<|Rq [Am 35 34 33] [4,5,6,10,11,33,34,35]<|Sq (Co 35 (Sk [4,5,6,10,11,33,34])<|Ex 0 [4,5,6,10,11])<|Sq (Bl 1<|Rq [Aa 36 34,Aa 12 36] [4,5,6,10,11,12,33,34]<|Re [Bu 37 11,Aa 38 12,Cj 39 37 38 1,Eh 39] [4,5,6,10,11,33,34])<|Re [Al 40 34 1,Aa 34 40] [4,5,6,10,11,33,34])<|Sq (Rq [Ab 41 5 2,Ac 42 41,Ah 43 42,Ad 44 0] [4,5,6,10,11,42,43,44]<|Bl 2<|Lo [4,5,6,10,11,42,43,44]<|Rq [Am 45 44 43] [4,5,6,10,11,42,43,44,45]<|Sq (Co 45 (Sk [4,5,6,10,11,42,43,44])<|Ex 2 [5,10])<|Sq (Bl 3<|Rq [Ai 46 42 44 4,Ae 47 46 4,Dz 14 0 0 0 0,Ak 4 14 47] [4,5,6,10,11,14,42,43,44]<|Sq (Dr [15,48,49,50,51,52,53,54,55,56,57,58,59,60,61,62] [Ab 48 4 2,Af 49 48 2,Ac 50 49,Ab 51 6 0,Ac 52 51,Ab 53 14 0,Ac 54 53,Ai 55 52 54 1,Ac 56 55,Ai 57 50 56 1,Ac 58 57,Ab 59 14 1,Ac 60 59,Ai 61 58 60 1,Ac 62 61,Aa 15 62] [4,5,6,10,11,14,15,42,43,44])<|Sq (Rq [Ab 63 14 2,Af 64 63 0,Ac 65 64,Aa 16 65] [4,5,6,10,11,14,15,16,42,43,44]<|Rq [Aa 66 16,Bp 67 66 0,Aa 68 67,Gk 69 11 68,As 70 16 68,Gl 71 69 70 1 68,Gm 72 71 68,Ei 73 72 68,Ap 74 68 73] [4,5,6,10,11,14,15,16,42,43,44,74]<|Co 74 (Re [Bu 75 10,Aa 76 16,Bu 77 11,Aa 78 16,Aa 79 15,Ab 80 14 2,Af 81 80 1,Ac 82 81,Dv 83 79 82,Cj 84 75 76 1,Dw 84 83,Cj 85 77 78 1,Eh 85] [4,5,6,10,11,14,15,42,43,44])<|Sk [4,5,6,10,11,14,15,42,43,44])<|Rq [Ab 87 14 2,Ae 88 87 2,Bu 89 10,Ek 90 236 88 89,Aa 86 90,An 91 86 0,An 92 86 1,Aa 17 91,Aa 18 92] [4,5,6,10,11,15,17,18,42,43,44]<|Rq [Aa 93 18,Aw 94 93 0,Aa 95 94,Au 96 17 95,Au 97 15 95,Cp 98 96 97 95,Aq 99 95 98] [4,5,6,10,11,42,43,44,99]<|Co 99 (Rq [Bb 8 1,Aj 9] [8,9]<|.ret)<|Sk [4,5,6,10,11,42,43,44])<|Re [Al 100 44 1,Aa 44 100] [4,5,6,10,11,42,43,44])<|Sq (Rq [Ab 101 5 4,Ac 102 101,Ah 103 102,Ad 104 0] [10,102,103,104]<|Bl 4<|Lo [10,102,103,104]<|Rq [Am 105 104 103] [10,102,103,104,105]<|Sq (Co 105 (Sk [10,102,103,104])<|Ex 4 [10])<|Sq (Bl 5<|Rq [Ai 106 102 104 5,Ae 107 106 5,Fr 20 0 0 0 0 0,Ak 5 20 107] [10,20,102,103,104]<|Rq [Ae 108 20 5,Bu 109 10,Ek 110 233 108 109,Be 111 110] [10,102,103,104,111]<|Co 111 (Rq [Bb 8 1,Aj 9] [8,9]<|.ret)<|Sk [10,102,103,104])<|Re [Al 112 104 1,Aa 104 112] [10,102,103,104])<|Rq [Dx 113 10,Ax 8 113,Bx 9] [8,9]<|.ret) [.tmp 8,.tmp 9]:=by decide +kernel
instance rZ (s_0:AR) (q:Pattern) (m:Morphism) (given:List Int):Ct prog (EC s_0 q m given) 182 [BX s_0,BA q,BN m,lI given] (fun r=>.tp [lI r.1,eB r.2]):=Fi kA fun r h hw hR=>by
  unfold EC at h
  have:HA 0 34 33 0 fun (i0:Int) (s0:List Bool)=>[(11,.xo 1 (List.map eB s0)),(34,.tv (eI i0))]:=⟨⟩
  have:HA 2 44 43 0 fun (i2:Int) (s2:List Int × List Bool)=>[(10,.xo 1 (List.map eI s2.1)),(11,.xo 1 (List.map eB s2.2)),(44,.tv (eI i2))]:=⟨⟩
  have:HA 4 104 103 0 fun (i4:Int) (_:Unit)=>[(104,.tv (eI i4))]:=⟨⟩
  exact au
theorem jA:CK f115 (Rq [Ag 3 0,Ag 4 1,Ag 5 2,Bb 6 3,Ad 7 0] [3,4,5]<|Rq [Ab 17 4 4,Af 18 17 0,Ae 19 18 2,Cc 8 1 3,Ak 2 8 19] [3,4,5,8]<|Sq (Dr [9,20,21,22,23,24,25,26,27,28,29,30,31,32,33,34,35,36,37,38,39,40] [Ab 20 8 0,Ac 21 20,Ah 22 21,Ab 23 4 2,Af 24 23 0,Ac 25 24,Ab 26 5 0,Af 27 26 0,Ac 28 27,Bf 29 181 22 25 28,Ab 30 8 1,Ac 31 30,Ah 32 31,Ab 33 4 2,Af 34 33 1,Ac 35 34,Ab 36 5 0,Af 37 36 1,Ac 38 37,Bf 39 181 32 35 38,Di 40 1 1 0 1 29 1 1 39,Cc 9 1 1,Ak 2 9 40] [3,4,5,8,9])<|Rq [Ab 42 3 0,Ae 43 42 2,Ae 44 8 2,Ab 45 3 2,Af 46 45 0,Ae 47 46 2,Ae 48 9 2,Ab 49 3 5,Ac 50 49,Fa 51 29 43 44 47 48 50,Aa 41 51,An 52 41 0,An 53 41 1,Ax 10 52,Aa 11 53] [3,4,5,10,11]<|Sq (Rq [Aa 54 11,Aw 55 54 0] [3,4,5,10,11,55]<|Co 55 (Rq [Aa 56 11,Bb 6 3,Aa 7 56] [6,7]<|.ret)<|Sk [3,4,5,10])<|Rq [Bb 12 3] [3,4,5,10,12]<|Sq (Rq [Aa 57 10,Ah 58 57,Ad 59 0] [3,4,5,12,57,58,59]<|Bl 0<|Lo [3,4,5,12,57,58,59]<|Rq [Am 60 59 58] [3,4,5,12,57,58,59,60]<|Sq (Co 60 (Sk [3,4,5,12,57,58,59])<|Ex 0 [12])<|Sq (Bl 1<|Rq [Ai 61 57 59 2,Ae 62 61 2,Cc 14 1 1,Ak 2 14 62] [3,4,5,12,14,57,58,59]<|Rq [Ae 64 3 6,Ab 65 4 4,Ae 66 65 5,Ae 67 14 2,Ab 68 5 2,Ac 69 68,Cq 70 182 64 66 67 69,Aa 63 70,An 71 63 0,An 72 63 1,Ax 15 71,Aa 16 72] [3,4,5,12,14,15,16,57,58,59]<|Rq [Aa 73 16] [3,4,5,12,14,15,57,58,59,73]<|Co 73 (Re [Ax 74 12,Ae 75 14 2,Aa 76 15,Fb 77 1 1 1 0 2 75 2 1 76,Bh 78 3 77,Bj 79 3 74 78,Ax 12 79] [3,4,5,12,57,58,59])<|Sk [3,4,5,12,57,58,59])<|Re [Al 80 59 1,Aa 59 80] [3,4,5,12,57,58,59])<|Rq [Aa 81 12,Ax 6 81,Ad 7 0] [6,7]<|.ret) [.tmp 6,.tmp 7]:=by decide +kernel
instance qX (s_0:AR) (c:AA) (m:AL):Ct prog (BV s_0 c m) 115 [BX s_0,AJ c,CH m] (fun r=>.tp [(eL 3 CH) r.1,eI r.2]):=Fi jA fun r h hw hR=>by
  unfold BV at h
  have:HA 0 59 58 0 fun (i0:Int) (s0:List AL)=>[(12,.ow ((eL 3 CH) s0)),(59,.tv (eI i0))]:=⟨⟩
  exact au
theorem o3:CK f48 (Rq [Ag 3 0,Ag 4 1,Ag 5 2,De 6 0 1 1 1 5,Ad 7 0] [3,4,5,6]<|Sq (Rq [Ab 19 4 0,Ac 20 19] [3,4,5,6,20]<|Bl 0<|Rq [Bc 22 20 2,Aa 21 22] [3,4,5,6,20,21]<|Co 21 (Sq (Dr [8,9,23,24,25,26,27,28,29,30,31,32] [Ae 24 3 6,Ab 25 4 1,Ac 26 25,Do 27 26 0 9,Ae 28 27 9,Ae 29 5 3,Bf 30 48 24 28 29,Aa 23 30,An 31 23 0,An 32 23 1,De 8 0 1 1 1 5,Ak 5 8 31,Aa 9 32] [6,9])<|Sq (Rq [Aa 33 9] [6,9,33]<|Bl 1<|Rq [Bc 35 33 0,Aa 34 35] [6,9,33,34]<|Co 34 (Rq [Df 36 0 1 1 1 5,Ak 5 6 36,Ad 7 10] [6,7]<|.ret)<|Rq [Bc 38 33 10,Aa 37 38] [6,9,37]<|Co 37 (Rq [Df 39 0 1 1 1 5,Ak 5 6 39,Ad 7 0] [6,7]<|.ret)<|Sk [6,9])<|Rq [Df 40 0 1 1 1 5,Aa 41 9,Ak 5 6 40,Aa 7 41] [6,7]<|.ret)<|Rq [Bc 43 20 3,Aa 42 43] [3,4,5,6,20,42]<|Co 42 (Rq [De 10 0 1 1 1 5] [3,4,5,6,10]<|Sq (Rq [Ab 44 4 1,Ac 45 44,Ah 46 45,Ad 47 0] [3,5,6,10,45,46,47]<|Bl 2<|Lo [3,5,6,10,45,46,47]<|Rq [Am 48 47 46] [3,5,6,10,45,46,47,48]<|Sq (Co 48 (Sk [3,5,6,10,45,46,47])<|Ex 2 [6,10])<|Sq (Bl 3<|Rq [Ai 49 45 47 9,Ae 50 49 9,Cs 12 0 9 1 1 1 3 4 0 5,Ak 9 12 50] [3,5,6,10,12,45,46,47]<|Rq [Ae 52 3 6,Ae 53 12 9,Ae 54 5 3,Bf 55 48 52 53 54,Aa 51 55,An 56 51 0,An 57 51 1,De 13 0 1 1 1 5,Ak 5 13 56,Aa 14 57] [3,5,6,10,13,14,45,46,47]<|Sq (Rq [Aa 58 14,Aw 59 58 0] [3,5,6,10,13,14,45,46,47,59]<|Co 59 (Rq [Df 60 0 1 1 1 5,Aa 61 14,Ak 5 6 60,Aa 7 61] [6,7]<|.ret)<|Sk [3,5,6,10,13,45,46,47])<|Re [Ab 62 10 4,Ch 63 62,Ae 64 13 5,Bh 65 5 64,Bj 66 5 63 65,Ab 67 10 4,Bm 1 67 66] [3,5,6,10,45,46,47])<|Re [Al 68 47 1,Aa 47 68] [3,5,6,10,45,46,47])<|Rq [Ae 69 10 5,Ak 5 6 69,Ad 7 0] [6,7]<|.ret)<|Rq [Bc 71 20 4,Aa 70 71] [3,4,5,6,20,70]<|Co 70 (Sq (Rq [Ab 72 4 1,Ac 73 72,Ah 74 73,Ad 75 0] [3,5,6,73,74,75]<|Bl 4<|Lo [3,5,6,73,74,75]<|Rq [Am 76 75 74] [3,5,6,73,74,75,76]<|Sq (Co 76 (Sk [3,5,6,73,74,75])<|Ex 4 [6])<|Sq (Bl 5<|Rq [Aa 77 75,Ai 78 73 75 9,Ae 79 78 9,Cs 16 0 9 1 1 1 3 4 0 5,Aa 15 77,Ak 9 16 79] [3,5,6,15,16,73,74,75]<|Rq [Ae 81 3 6,Ae 82 16 9,Ae 83 5 3,Bf 84 48 81 82 83,Aa 80 84,An 85 80 0,An 86 80 1,De 17 0 1 1 1 5,Ak 5 17 85,Aa 18 86] [3,5,6,15,17,18,73,74,75]<|Sq (Rq [Aa 87 18,Bc 88 87 0] [3,5,6,15,17,18,73,74,75,88]<|Co 88 (Rq [Aa 89 15,Ae 90 17 5,Bh 91 5 90,Hf 92 0 1 1 1 5 0 1 89 4 1 91,Ak 5 6 92,Ad 7 0] [6,7]<|.ret)<|Sk [3,5,6,18,73,74,75])<|Rq [Aa 93 18,Aw 94 93 10] [3,5,6,18,73,74,75,94]<|Co 94 (Rq [Df 95 0 1 1 1 5,Aa 96 18,Ak 5 6 95,Aa 7 96] [6,7]<|.ret)<|Sk [3,5,6,73,74,75])<|Re [Al 97 75 1,Aa 75 97] [3,5,6,73,74,75])<|Rq [Df 98 0 1 1 1 5,Ak 5 6 98,Ad 7 10] [6,7]<|.ret)<|Rq [Bc 100 20 5,Aa 99 100] [3,4,5,6,99]<|Co 99 (Rq [Ae 101 3 6,Ae 102 4 9,Ae 103 5 3,Bf 104 111 101 102 103,An 105 104 0,An 106 104 1,Ak 5 6 105,Aa 7 106] [6,7]<|.ret)<|Sk [6])<|Rq [Df 107 0 1 1 1 5,Ak 5 6 107,Ad 7 0] [6,7]<|.ret) [.cell 6 (some 5),.tmp 7]:=by decide +kernel
theorem i5:CK f111 (Rq [Ag 3 0,Ag 4 1,Ag 5 2,De 6 0 1 1 1 5,Ad 7 0] [3,4,5,6]<|Rq [Ae 15 3 6,Ae 16 4 9,Ae 17 5 3,Bf 18 115 15 16 17,Aa 14 18,An 19 14 0,An 20 14 1,Ax 8 19,Aa 9 20] [3,4,6,8,9]<|Sq (Rq [Aa 21 9,Aw 22 21 0] [3,4,6,8,9,22]<|Co 22 (Rq [Df 23 0 1 1 1 5,Aa 24 9,Ak 5 6 23,Aa 7 24] [6,7]<|.ret)<|Sk [3,4,6,8])<|Sq (Rq [Aa 25 8,Ah 26 25,Ad 27 0] [3,4,6,25,26,27]<|Bl 0<|Lo [3,4,6,25,26,27]<|Rq [Am 28 27 26] [3,4,6,25,26,27,28]<|Sq (Co 28 (Sk [3,4,6,25,26,27])<|Ex 0 [6])<|Sq (Bl 1<|Rq [Ai 29 25 27 3,Ae 30 29 3,Dj 11 1 1 1,Ak 3 11 30] [3,4,6,11,25,26,27]<|Sq (Dr [12,13,31,32,33,34,35,36,37,38,39,40] [Ae 32 3 6,Ab 33 4 1,Ac 34 33,Do 35 34 0 9,Ae 36 35 9,Ae 37 11 3,Bf 38 48 32 36 37,Aa 31 38,An 39 31 0,An 40 31 1,De 12 0 1 1 1 5,Ak 5 12 39,Aa 13 40] [3,4,6,11,12,13,25,26,27])<|Sq (Rq [Aa 41 13,Bc 42 41 0] [3,4,6,11,12,13,25,26,27,42]<|Co 42 (Rq [Ae 43 11 3,Ae 44 12 5,Bh 45 5 44,Hf 46 0 1 1 1 5 1 3 43 4 1 45,Ak 5 6 46,Ad 7 0] [6,7]<|.ret)<|Sk [3,4,6,13,25,26,27])<|Rq [Aa 47 13,Aw 48 47 10] [3,4,6,13,25,26,27,48]<|Co 48 (Rq [Df 49 0 1 1 1 5,Aa 50 13,Ak 5 6 49,Aa 7 50] [6,7]<|.ret)<|Sk [3,4,6,25,26,27])<|Re [Al 51 27 1,Aa 27 51] [3,4,6,25,26,27])<|Rq [Df 52 0 1 1 1 5,Ak 5 6 52,Ad 7 10] [6,7]<|.ret) [.cell 6 (some 5),.tmp 7]:=by decide +kernel
theorem oJ (n:Nat) (_ih_48:∀ (s_0:AR) (c:AA) (m:AL),Ct prog (AX n s_0 c m) 48 [BX s_0,AJ c,CH m] (fun r=>.tp [EE r.1,eI r.2])) (_ih_111:∀ (s_0:AR) (c:AA) (m:AL),Ct prog (BH n s_0 c m) 111 [BX s_0,AJ c,CH m] (fun r=>.tp [EE r.1,eI r.2])) (s_0:AR) (c:AA) (m:AL):Ct prog (AX (n+1) s_0 c m) 48 [BX s_0,AJ c,CH m] (fun r=>.tp [EE r.1,eI r.2]):=Fi o3 fun r h hw hR=>by
  unfold AX at h
  have:HA 2 47 46 0 fun (i2:Int) (s2:A4 × A4)=>[(6,.bx [⟨false,eI s2.1.Choice⟩,⟨true,lI s2.1.Match.Morphism.Nodes⟩,⟨true,lI s2.1.Match.Morphism.Edges⟩,⟨true,lI s2.1.Match.Vars⟩,⟨true,LP s2.1.Kids⟩]),(10,.bx [⟨false,eI s2.2.Choice⟩,⟨true,lI s2.2.Match.Morphism.Nodes⟩,⟨true,lI s2.2.Match.Morphism.Edges⟩,⟨true,lI s2.2.Match.Vars⟩,⟨true,LP s2.2.Kids⟩]),(47,.tv (eI i2))]:=⟨⟩
  have:HA 4 75 74 0 fun (i4:Int) (s4:A4)=>[(6,.bx [⟨false,eI s4.Choice⟩,⟨true,lI s4.Match.Morphism.Nodes⟩,⟨true,lI s4.Match.Morphism.Edges⟩,⟨true,lI s4.Match.Vars⟩,⟨true,LP s4.Kids⟩]),(75,.tv (eI i4))]:=⟨⟩
  exact au
theorem iR (n:Nat) (_ih_48:∀ (s_0:AR) (c:AA) (m:AL),Ct prog (AX n s_0 c m) 48 [BX s_0,AJ c,CH m] (fun r=>.tp [EE r.1,eI r.2])) (_ih_111:∀ (s_0:AR) (c:AA) (m:AL),Ct prog (BH n s_0 c m) 111 [BX s_0,AJ c,CH m] (fun r=>.tp [EE r.1,eI r.2])) (s_0:AR) (c:AA) (m:AL):Ct prog (BH (n+1) s_0 c m) 111 [BX s_0,AJ c,CH m] (fun r=>.tp [EE r.1,eI r.2]):=Fi i5 fun r h hw hR=>by
  unfold BH at h
  have:HA 0 27 26 0 fun (i0:Int) (s0:A4)=>[(6,.bx [⟨false,eI s0.Choice⟩,⟨true,lI s0.Match.Morphism.Nodes⟩,⟨true,lI s0.Match.Morphism.Edges⟩,⟨true,lI s0.Match.Vars⟩,⟨true,LP s0.Kids⟩]),(27,.tv (eI i0))]:=⟨⟩
  exact au
theorem ej:∀ n:Nat,(∀ (s_0:AR) (c:AA) (m:AL),Ct prog (AX n s_0 c m) 48 [BX s_0,AJ c,CH m] (fun r=>.tp [EE r.1,eI r.2]))∧(∀ (s_0:AR) (c:AA) (m:AL),Ct prog (BH n s_0 c m) 111 [BX s_0,AJ c,CH m] (fun r=>.tp [EE r.1,eI r.2])):=by
  intro n
  induction n with
  | zero=>exact ⟨(fun s_0 c m=>⟨fun _ h=>by cases h⟩),(fun s_0 c m=>⟨fun _ h=>by cases h⟩)⟩
  | succ n ih=>exact ⟨oJ n ih.1 ih.2,iR n ih.1 ih.2⟩
instance uF (s_0:AR) (c:AA) (m:AL):Ct prog (DM s_0 c m) 48 [BX s_0,AJ c,CH m] (fun r=>.tp [EE r.1,eI r.2]):=⟨fun r h=>by
  obtain ⟨N,hN⟩:=DK h
  exact ((ej N).1 s_0 c m).snd r (hN N (Nat.le_refl _))⟩
instance qV (s_0:AR) (c:AA) (m:AL):Ct prog (M8 s_0 c m) 111 [BX s_0,AJ c,CH m] (fun r=>.tp [EE r.1,eI r.2]):=⟨fun r h=>by
  obtain ⟨N,hN⟩:=DK h
  exact ((ej N).2 s_0 c m).snd r (hN N (Nat.le_refl _))⟩
theorem oc:CK f20 (Rq [Ag 6 0,Ag 7 1,Ag 8 2,Ag 9 3,Ag 10 4,De 12 0 1 1 1 5,Ad 13 0] [5,6,7,8,9,10,12]<|Sq (Rq [Ae 15 6 2,Ae 16 7 5,Ae 17 8 9,Ae 18 9 3,Ae 19 10 3,Aa 20 5,Fw 21 47 15 16 17 18 19 20,Aa 14 21] [5,6,8,9,10,12,14]<|Rq [Aa 22 14,Aw 23 22 0] [5,6,8,9,10,12,14,23]<|Co 23 (Rq [Df 24 0 1 1 1 5,Aa 25 14,Ak 5 12 24,Aa 13 25] [12,13]<|.ret)<|Sk [5,6,8,9,10,12])<|Rq [Ae 26 6 2,Ae 27 9 3,Aa 28 5,⟨some 29,.bld [.list 4 [],.list 7 [],.list 1 [],.list 3 [],.list 1 [],.bool false] [(0,2,.s 26),(2,3,.s 27),(5,1,.s 28)],none⟩,Ae 30 8 9,Ae 31 10 3,Bf 32 48 29 30 31,An 33 32 0,An 34 32 1,Ak 5 12 33,Aa 13 34] [12,13]<|.ret) [.cell 12 (some 5),.tmp 13]:=by decide +kernel
instance ti (t:Types) (p:Pattern) (c:AA) (h_3:AY) (m:AL) (injective:Bool):Ct prog (DQ t p c h_3 m injective) 20 [AU t,BA p,AJ c,IV h_3,CH m,eB injective] (fun r=>.tp [EE r.1,eI r.2]):=Fi oc fun r h hw hR=>by
  unfold DQ at h
  exact au
theorem ob:CK f18 (Rq [Ag 6 0,Ag 7 1,Ag 8 2,Ag 9 3,Ag 10 4,Aj 12,Ad 13 0] [5,6,7,8,9,10]<|Rq [Ae 17 6 2,Ae 18 7 5,Ae 19 8 9,Ae 20 9 3,Ae 21 10 3,Aa 22 5,Fw 23 20 17 18 19 20 21 22,Aa 16 23,An 24 16 0,An 25 16 1,De 14 0 1 1 1 5,Ak 5 14 24,Aa 15 25] [15]<|Sq (Rq [Aa 26 15,Bc 27 26 10] [15,27]<|Co 27 (Rq [Aj 12,Ad 13 0] [12,13]<|.ret)<|Sk [15])<|Rq [Aa 28 15,Bc 29 28 0,Aa 30 15,Aa 12 29,Aa 13 30] [12,13]<|.ret) [.tmp 12,.tmp 13]:=by decide +kernel
instance th (t:Types) (p:Pattern) (c:AA) (h_3:AY) (m:AL) (injective:Bool):Ct prog (CW t p c h_3 m injective) 18 [AU t,BA p,AJ c,IV h_3,CH m,eB injective] (fun r=>.tp [eB r.1,eI r.2]):=Fi ob fun r h hw hR=>by
  unfold CW at h
  exact au
theorem i7:CK f114 (Rq [Ag 1 0,Aj 2] [1]<|Rq [Ab 3 1 0,Af 4 3 0,Ac 5 4,Ah 6 5,Ab 7 1 0,Af 8 7 1,Ac 9 8,Ah 10 9,Bo 11 6 10,Ab 12 1 2,Ac 13 12,Ah 14 13,Bo 15 11 14,Bc 16 15 0,Aa 2 16] [2]<|.ret) [.tmp 2]:=by decide +kernel
instance qW (m:AL):Ct prog (E3 m) 114 [CH m] (fun r=>.sh (eB r)):=Fi i7 fun r h hw hR=>by
  unfold E3 at h
  exact au
theorem kB:CK f183 (Rq [Ad 4 0] [0,1]<|Sq (Rq [Aa 6 0,Ah 7 6,Ad 8 0] [0,1,7,8]<|Bl 0<|Lo [0,1,7,8]<|Rq [Am 9 8 7] [0,1,7,8,9]<|Sq (Co 9 (Sk [0,1,7,8])<|Ex 0 [])<|Sq (Bl 1<|Rq [Aa 10 8,Aa 5 10] [0,1,5,7,8]<|Rq [Aa 11 1,Aa 12 0,Aa 13 5,Ai 14 12 13 3,Ae 15 14 3,Da 16 11 15] [0,1,5,7,8,16]<|Co 16 (Rq [Aa 17 5,Aa 4 17] [4]<|.ret)<|Sk [0,1,7,8])<|Re [Al 18 8 1,Aa 8 18] [0,1,7,8])<|Rq [Bt 4 (-1)] [4]<|.ret) [.tmp 4]:=by decide +kernel
instance ra (s_0:List AL) (f:AL->Option Bool) (f_f:FuncId) (k_f:List TV) [h_f:∀ (y0:AL),Ct prog (f y0) f_f (CH y0::k_f) (fun r=>.sh (eB r))]:Ct prog (D1 s_0 f) 183 [(eL 3 CH) s_0,.clo f_f k_f] (fun r=>.sh (eI r)):=Fi kB fun r h hw hR=>by
  unfold D1 at h
  have:HA 0 8 7 0 fun (i0:Int) (_:Unit)=>[(8,.tv (eI i0))]:=⟨⟩
  exact au
theorem jB:CK f116 (Rq [Aj 4] [0,1]<|Rq [Aa 5 0,Aa 6 1,Av 7 183 5 6,Bp 8 7 0,Aa 4 8] [4]<|.ret) [.tmp 4]:=by decide +kernel
instance qY (s_0:List AL) (f:AL->Option Bool) (f_f:FuncId) (k_f:List TV) [h_f:∀ (y0:AL),Ct prog (f y0) f_f (CH y0::k_f) (fun r=>.sh (eB r))]:Ct prog (DN s_0 f) 116 [(eL 3 CH) s_0,.clo f_f k_f] (fun r=>.sh (eB r)):=Fi jB fun r h hw hR=>by
  unfold DN at h
  exact au
theorem pL:CK f72 (Rq [Ag 2 0,Ag 3 1,Aj 4] [2,3]<|Rq [Ab 5 2 0,Ac 6 5,Ab 7 3 0,Ac 8 7,Av 9 73 6 8,Aa 10 9,Ay 11 2 1 10,Az 12 11 10,Ay 13 3 1 10,Az 14 13 10,Dt 15 73 12 14 10,Ap 16 10 15,Aa 4 16] [4]<|.ret) [.tmp 4]:=by decide +kernel
instance uW (a:Morphism) (b:Morphism):Ct prog (NG a b) 72 [BN a,BN b] (fun r=>.sh (eB r)):=Fi pL fun r h hw hR=>by
  unfold NG at h
  exact au
theorem jD:CK f118 (Rq [Ag 2 0,Ag 3 1,Aj 4] [2,3]<|Rq [Ab 5 2 0,Ae 6 5 2,Ab 7 3 0,Ae 8 7 2,Av 9 72 6 8,Aa 10 9,Ay 11 2 2 10,Az 12 11 10,Ay 13 3 2 10,Az 14 13 10,Dt 15 73 12 14 10,Ap 16 10 15,Aa 4 16] [4]<|.ret) [.tmp 4]:=by decide +kernel
instance qa (a:AL) (b:AL):Ct prog (J3 a b) 118 [CH a,CH b] (fun r=>.sh (eB r)):=Fi jD fun r h hw hR=>by
  unfold J3 at h
  exact au
theorem jC:CK f117 (Rq [Ag 2 0,Aj 3] [1,2]<|Rq [Ae 4 2 3,Ab 5 1 1,Ae 6 5 3,Av 7 118 4 6,Aa 3 7] [3]<|.ret) [.tmp 3]:=by decide +kernel
instance qZ (x_0:AL) (c0:A4):Ct prog (Hq x_0 c0) 117 [CH x_0,.pt (EE c0).cells] (fun r=>.sh (eB r)):=Fi jC fun r h hw hR=>by
  unfold Hq at h
  exact au
theorem o4:CK f51 (Rq [Ag 4 0,Ag 5 1,Ag 6 2,Ag 7 3,Aj 8] [4,5,6,7]<|Rq [Ab 16 7 4,Ac 17 16,Ah 18 17,Aa 9 18] [4,5,6,7,9]<|Sq (Rq [Ab 19 5 0,Ac 20 19] [4,5,6,7,9,20]<|Bl 0<|Rq [Bc 22 20 1,Aa 21 22] [4,5,6,7,9,20,21]<|Co 21 (Rq [Aa 23 9,Bc 24 23 0,Aa 25 24,Ay 26 7 0 25,Az 27 26 25,Cv 28 27 0 25,Ap 29 25 28,Aa 30 29,Ay 31 7 1 30,Bg 32 31 3 30,Ca 33 114 32 30,Ap 34 30 33,Aa 8 34] [8]<|.ret)<|Rq [Bc 36 20 2,Aa 35 36] [4,5,6,7,9,20,35]<|Co 35 (Sq (Dr [10,11,37,38,39,40,41,42,43,44,45,46] [Ae 38 4 6,Ab 39 5 1,Ac 40 39,Do 41 40 0 9,Ae 42 41 9,Ae 43 6 3,Bf 44 48 38 42 43,Aa 37 44,An 45 37 0,An 46 37 1,De 10 0 1 1 1 5,Ak 5 10 45,Aa 11 46] [7,9,11])<|Rq [Aa 47 9,Bc 48 47 0,Aa 49 48,Ay 50 7 0 49,Az 51 50 49,Cv 52 51 0 49,Ap 53 49 52,Aa 54 53,Ay 55 7 1 54,Bg 56 55 3 54,Ca 57 114 56 54,Ap 58 54 57,Aa 59 58,As 60 11 59,Cv 61 60 10 59,Ap 62 59 61,Aa 8 62] [8]<|.ret)<|Rq [Bc 64 20 3,Aa 63 64] [4,5,6,7,9,20,63]<|Co 63 (Sq (Rq [Aa 65 9,Ab 66 5 1,Ac 67 66,Ah 68 67,Br 69 65 68,Aa 70 69,Ar 71 7 0 70,Ao 72 71 70,Eo 73 72 0 70,Aq 74 70 73,Aa 75 74,Ar 76 7 1 75,Cm 77 76 3 75,Ds 78 114 77 75,Bs 79 78 75,Aq 80 75 79] [4,5,6,7,80]<|Co 80 (Rq [Aj 8] [8]<|.ret)<|Sk [4,5,6,7])<|Sq (Rq [Ab 81 5 1,Ac 82 81,Ah 83 82,Ad 84 0] [4,6,7,82,83,84]<|Bl 1<|Lo [4,6,7,82,83,84]<|Rq [Am 85 84 83] [4,6,7,82,83,84,85]<|Sq (Co 85 (Sk [4,6,7,82,83,84])<|Ex 1 [])<|Sq (Bl 2<|Rq [Aa 86 84,Ai 87 82 84 9,Ae 88 87 9,Cs 13 0 9 1 1 1 3 4 0 5,Aa 12 86,Ak 9 13 88] [4,6,7,12,13,82,83,84]<|Sq (Dr [89,90,91,92,93,94,95,96,97,98] [Ae 89 4 6,Ae 90 13 9,Ae 91 6 3,Ab 92 7 4,Ac 93 92,Aa 94 12,Ai 95 93 94 5,Ae 96 95 5,Cq 97 51 89 90 91 96,Be 98 97] [4,6,7,82,83,84,98])<|Co 98 (Rq [Aj 8] [8]<|.ret)<|Sk [4,6,7,82,83,84])<|Re [Al 99 84 1,Aa 84 99] [4,6,7,82,83,84])<|Rq [Bx 8] [8]<|.ret)<|Rq [Bc 101 20 4,Aa 100 101] [4,5,6,7,9,100]<|Co 100 (Sq (Dr [8,102,103,104,105,106,107,108,109,110,111,112,113,114,115,116,117,118,119,120,121,122,123,124,125,126,127,128,129,130,131,132,133,134,135,136] [Aa 102 9,Bc 103 102 1,Aa 104 103,Ay 105 7 0 104,Az 106 105 104,Fx 107 106 0 104,Ap 108 104 107,Aa 109 108,Ay 110 7 0 109,Az 111 110 109,Ay 112 5 1 109,Az 113 112 109,Bv 114 113 109,Eu 115 111 114 109,Ap 116 109 115,Aa 117 116,Ay 118 7 1 117,Bg 119 118 3 117,Ca 120 114 119 117,Ap 121 117 120,Aa 122 121,Bg 123 4 6 122,Ay 124 5 1 122,Az 125 124 122,Ay 126 7 0 122,Az 127 126 122,Dh 128 125 127 9 122,Bg 129 128 9 122,Bg 130 6 3 122,Ay 131 7 4 122,Az 132 131 122,⟨some 133,.iad (.s 132) (.c (.int .i64 0)) 5,some (122,true)⟩,Bg 134 133 5 122,Gs 135 51 123 129 130 134 122,Ap 136 122 135,Aa 8 136] [8])<|.ret)<|Sk [4,5,6,7,9])<|Sq (Rq [Aa 137 9,Aw 138 137 1,Aa 139 138,Ar 140 7 0 139,Ao 141 140 139,Eo 142 141 0 139,Aq 143 139 142] [4,5,6,7,143]<|Co 143 (Rq [Aj 8] [8]<|.ret)<|Sk [4,5,6,7])<|Rq [Ae 145 4 6,Ae 146 5 9,Ae 147 6 3,Bf 148 115 145 146 147,Aa 144 148,An 149 144 0,An 150 144 1,Ax 14 149,Aa 15 150] [4,5,7,14,15]<|Sq (Rq [Aa 151 15,Aw 152 151 0,Aa 153 152,Au 154 14 153,⟨some 155,.clo 117 [.s 7],some (153,false)⟩,Dk 156 116 154 155 153,Bs 157 156 153,Aq 158 153 157] [4,5,7,158]<|Co 158 (Rq [Aj 8] [8]<|.ret)<|Sk [4,5,7])<|Sq (Dr [8,159,160,161,162,163,164,165,166,167,168,169,170] [Ae 159 4 6,Ab 160 5 1,Ac 161 160,Do 162 161 0 9,Ae 163 162 9,Ab 164 7 1,Ae 165 164 3,Ab 166 7 4,Ac 167 166,Do 168 167 0 5,Ae 169 168 5,Cq 170 51 159 163 165 169,Aa 8 170] [8])<|.ret) [.tmp 8]:=by decide +kernel
theorem oL (n:Nat) (_ih_51:∀ (s_0:AR) (c:AA) (m:AL) (w:A4),Ct prog (BT n s_0 c m w) 51 [BX s_0,AJ c,CH m,EE w] (fun r=>.sh (eB r))) (s_0:AR) (c:AA) (m:AL) (w:A4):Ct prog (BT (n+1) s_0 c m w) 51 [BX s_0,AJ c,CH m,EE w] (fun r=>.sh (eB r)):=Fi o4 fun r h hw hR=>by
  unfold BT at h
  have:HA 1 84 83 0 fun (i1:Int) (_:Unit)=>[(84,.tv (eI i1))]:=⟨⟩
  exact au
theorem oK:∀ n:Nat,(∀ (s_0:AR) (c:AA) (m:AL) (w:A4),Ct prog (BT n s_0 c m w) 51 [BX s_0,AJ c,CH m,EE w] (fun r=>.sh (eB r))):=by
  intro n
  induction n with
  | zero=>exact (fun s_0 c m w=>⟨fun _ h=>by cases h⟩)
  | succ n ih=>exact oL n ih
instance uG (s_0:AR) (c:AA) (m:AL) (w:A4):Ct prog (GM s_0 c m w) 51 [BX s_0,AJ c,CH m,EE w] (fun r=>.sh (eB r)):=⟨fun r h=>by
  obtain ⟨N,hN⟩:=DK h
  exact ((oK N) s_0 c m w).snd r (hN N (Nat.le_refl _))⟩
theorem od:CK f23 (Rq [Ag 7 0,Ag 8 1,Ag 9 2,Ag 10 3,Ag 11 4,Ag 13 6,Aj 14] [5,7,8,9,10,11,13]<|Rq [Ae 15 7 2,Ae 16 8 5,Ae 17 9 9,Ae 18 10 3,Ae 19 11 3,Aa 20 5,Fw 21 47 15 16 17 18 19 20,Bc 22 21 0,Aa 23 22,Bg 24 7 2 23,Bg 25 10 3 23,As 26 5 23,⟨some 27,.bld [.list 4 [],.list 7 [],.list 1 [],.list 3 [],.list 1 [],.bool false] [(0,2,.s 24),(2,3,.s 25),(5,1,.s 26)],some (23,true)⟩,Bg 28 9 9 23,Bg 29 11 3 23,Bg 30 13 5 23,Gs 31 51 27 28 29 30 23,Ap 32 23 31,Aa 14 32] [14]<|.ret) [.tmp 14]:=by decide +kernel
instance tj (t:Types) (p:Pattern) (c:AA) (h_3:AY) (m:AL) (injective:Bool) (w:A4):Ct prog (DY t p c h_3 m injective w) 23 [AU t,BA p,AJ c,IV h_3,CH m,eB injective,EE w] (fun r=>.sh (eB r)):=Fi od fun r h hw hR=>by
  unfold DY at h
  exact au
theorem om:CK f35 (Rq [Cc 0 4 7] [0]<|Rq [⟨some 1,.bld [.str ⟨#[]⟩,.int .i64 0,.int .i64 0,.list 1 []] [(0,1,.c (.str ⟨#[98,97,108,97,110,99,101]⟩)),(1,1,.c (.int .i64 (-1000))),(2,1,.c (.int .i64 1000))],none⟩,Bh 2 4 1,⟨some 3,.bld [.str ⟨#[]⟩,.int .i64 0,.bool false,.list 4 []] [(0,1,.c (.str ⟨#[65,99,99,111,117,110,116]⟩)),(1,1,.c (.int .i64 (-1))),(2,1,.c (.bool true)),(3,1,.s 2)],none⟩,⟨some 4,.bld [.str ⟨#[]⟩,.int .i64 0,.bool false,.list 4 []] [(0,1,.c (.str ⟨#[67,97,115,104]⟩)),(1,1,.c (.int .i64 0))],none⟩,⟨some 5,.lst 1 [.c (.str ⟨#[111,112,101,110]⟩),.c (.str ⟨#[99,108,111,115,101,100]⟩)],none⟩,⟨some 6,.bld [.str ⟨#[]⟩,.int .i64 0,.int .i64 0,.list 1 []] [(0,1,.c (.str ⟨#[115,116,97,116,101]⟩)),(2,1,.c (.int .i64 1)),(3,1,.s 5)],none⟩,Bh 7 4 6,⟨some 8,.bld [.str ⟨#[]⟩,.int .i64 0,.bool false,.list 4 []] [(0,1,.c (.str ⟨#[76,111,97,110]⟩)),(1,1,.c (.int .i64 0)),(3,1,.s 7)],none⟩,⟨some 9,.bld [.str ⟨#[]⟩,.int .i64 0,.bool false,.list 4 []] [(0,1,.c (.str ⟨#[80,101,114,115,111,110]⟩)),(1,1,.c (.int .i64 (-1)))],none⟩,⟨some 10,.lst 4 [.s 3,.s 4,.s 8,.s 9],none⟩,⟨some 11,.bld [.str ⟨#[]⟩,.int .i64 0,.int .i64 0,.int .i64 0,.int .i64 0,.int .i64 0,.int .i64 0] [(0,1,.c (.str ⟨#[111,119,110,115]⟩)),(1,1,.c (.int .i64 3)),(2,1,.c (.int .i64 0)),(4,1,.c (.int .i64 (-1))),(5,1,.c (.int .i64 1)),(6,1,.c (.int .i64 1))],none⟩,⟨some 12,.bld [.str ⟨#[]⟩,.int .i64 0,.int .i64 0,.int .i64 0,.int .i64 0,.int .i64 0,.int .i64 0] [(0,1,.c (.str ⟨#[112,97,121,115]⟩)),(1,1,.c (.int .i64 1)),(2,1,.c (.int .i64 1)),(4,1,.c (.int .i64 (-1))),(6,1,.c (.int .i64 (-1)))],none⟩,Ea 13 7 11 12,Gt 14 10 13,Eb 2 0 14] [0]<|.ret) [.cell 0 (some 2)]:=by decide +kernel
instance tz :Ct prog (NH ) 35 [] (fun r=>.oag [⟨true,lN r.Nodes⟩,⟨true,lX r.Edges⟩]):=Fi om fun r h hw hR=>by
  unfold NH at h
  exact au
theorem oo:CK f36 (Rq [Fc 0 1 3 4 0 5 0 9 1 1 1 3 4 0 5] [0]<|Rq [Fy 6 1 3 0,Fd 7 0 0 0 1 1 0 2 1 1,Bh 8 3 7,Di 9 1 3 0 1 6 1 1 8,Cc 1 1 3,Ak 2 1 9] [0,1]<|Rq [Hg 10 1 3 0 0,Fd 11 0 0 0 1 1 0 2 1 1,Fd 12 0 0 0 1 1 0 2 1 2,Ea 13 3 11 12,Di 14 1 3 0 1 10 1 1 13,Cc 2 1 3,Ak 2 2 14] [0,1,2]<|Rq [Fe 15 0 0 0 1 0,Hh 16 0 0 0 0 0 1 1 2 2 15,Dz 3 0 0 0 0,Ak 4 3 16] [0,1,2,3]<|Rq [Ae 17 2 2,Ae 18 3 4,Fe 19 0 0 0 1 1,Hh 20 0 0 0 0 0 1 2 2 2 19,Ea 21 4 18 20,Fe 22 0 0 0 1 0,Fe 23 0 0 0 1 1,⟨some 24,.bld [.int .i64 0,.int .i64 0,.int .i64 0,.int .i64 0,.int .i64 0] [(0,1,.c (.int .i64 1)),(1,2,.s 22),(3,2,.s 23)],none⟩,Bh 25 5 24,⟨some 26,.bld [.list 1 [],.list 3 [],.list 4 [],.int .i64 0,.list 5 []] [(0,2,.s 17),(3,1,.c (.int .i64 2)),(2,1,.s 21),(4,1,.s 25)],none⟩,Dd 4 1 3 4 0 5,Ak 5 4 26] [0,1,3,4]<|Rq [Fy 27 1 0 1,Ec 28 1 0,Di 29 1 1 0 1 27 1 1 28,Ae 30 4 5,Gu 31 0 9 1 1 1 3 4 0 5 0 1 1,Bh 32 9 31,⟨some 33,.bld [.int .i64 0,.list 9 [],.list 1 [],.list 1 [],.list 1 [],.list 3 [],.list 4 [],.int .i64 0,.list 5 []] [(0,1,.c (.int .i64 5)),(2,2,.s 29),(4,5,.s 30),(1,1,.s 32)],none⟩,Cs 5 0 9 1 1 1 3 4 0 5,Ak 9 5 33] [0,1,3,5]<|Rq [Ae 34 1 2,Ae 35 3 4,Bh 36 4 35,Hi 37 1 3 4 0 5 0 2 34 3 1 1 2 1 36,Ae 38 5 9,⟨some 39,.bld [.list 1 [],.list 3 [],.list 4 [],.int .i64 0,.list 5 [],.int .i64 0,.list 9 [],.list 1 [],.list 1 [],.list 1 [],.list 3 [],.list 4 [],.int .i64 0,.list 5 []] [(0,5,.s 37),(5,9,.s 38)],none⟩,Ak 14 0 39] [0]<|.ret) [.cell 0 (some 14)]:=by decide +kernel
instance t1 :Ct prog (ND ) 36 [] (fun r=>.sh (RD r)):=Fi oo fun r h hw hR=>by
  unfold ND at h
  exact au
theorem oV:CK f11 (Rq [Aj 0] []<|Rq [Ep 10 35,Ep 11 36,Cc 1 4 7,Fc 2 1 3 4 0 5 0 9 1 1 1 3 4 0 5,Ak 2 1 10,Ak 14 2 11] [1,2]<|Rq [Hg 12 1 3 1 1,Fd 13 0 0 0 1 1 0 2 1 1,Fd 14 0 0 0 1 1 0 2 1 2,Ea 15 3 13 14,Di 16 1 3 0 1 12 1 1 15,Ec 17 1 10,Ec 18 1 5,⟨some 19,.lst 1 [.c (.list 1 []),.s 17,.s 18],none⟩,Fb 20 1 3 1 0 2 16 2 1 19,Dj 3 1 3 1,Ak 3 3 20] [1,2,3]<|Rq [Fy 21 1 0 2,Ec 22 1 1,Di 23 1 1 0 1 21 1 1 22,Ec 24 1 5,Fb 25 1 1 1 0 2 23 2 1 24,Dj 4 1 1 1,Ak 3 4 25] [1,2,3,4]<|Rq [Fy 26 1 0 1,Ec 27 1 0,Di 28 1 1 0 1 26 1 1 27,Ec 29 1 10,Fb 30 1 1 1 0 2 28 2 1 29,Dj 5 1 1 1,Ak 3 5 30] [1,2,3,4,5]<|Rq [Ae 32 1 2,Ab 33 2 0,Ae 34 33 5,Ab 35 2 5,Ae 36 35 9,Ae 37 3 3,Ae 38 4 3,Hj 39 20 32 34 36 37 38,Aa 31 39,An 40 31 0,An 41 31 1,De 6 0 1 1 1 5,Ak 5 6 40,Aa 7 41] [1,2,3,4,5,6,7]<|Rq [Ae 43 1 2,Ab 44 2 0,Ae 45 44 5,Ab 46 2 5,Ae 47 46 9,Ae 48 3 3,Ae 49 5 3,Hj 50 18 43 45 47 48 49,Aa 42 50,An 51 42 0,An 52 42 1,Aa 8 51,Aa 9 52] [1,2,3,4,6,7,8,9]<|Rq [Aa 53 7,Bc 54 53 0,Aa 55 54,As 56 9 55,Cv 57 56 0 55,Ap 58 55 57,Aa 59 58,As 60 8 59,Ei 61 60 59,Ap 62 59 61,Aa 63 62,Ay 64 6 1 63,By 65 64 2 63,Az 66 65 63,Bv 67 66 63,Cv 68 67 2 63,Ap 69 63 68,Aa 70 69,Ay 71 6 1 70,By 72 71 2 70,Az 73 72 70,⟨some 74,.iad (.s 73) (.c (.int .i64 1)) 1,some (70,true)⟩,Az 75 74 70,Cv 76 75 10 70,Ap 77 70 76,Aa 78 77,Bg 79 1 2 78,Ay 80 2 0 78,Bg 81 80 5 78,Ay 82 2 5 78,Bg 83 82 9 78,Bg 84 3 3 78,Bg 85 4 3 78,Bg 86 6 5 78,⟨some 87,.call 23 [.s 79,.s 81,.s 83,.s 84,.s 85,.c (.bool true),.s 86],some (78,true)⟩,Ap 88 78 87,Aa 0 88] [0]<|.ret) [.tmp 0]:=by decide +kernel
instance tZ :Ct prog (FT ) 11 [] (fun r=>.sh (eB r)):=Fi oV fun r h hw hR=>by
  unfold FT at h
  exact au
theorem kE:CK f186 (Rq [Ag 2 0,Bb 4 4] [1,2]<|Sq (Rq [Aa 5 1,Ce 6 5 0] [1,2,6]<|Co 6 (Rq [Bb 4 4] [4]<|.ret)<|Sk [1,2])<|Sq (Dr [4,7,8,9,10,11,12,13,14,15,16,17,18,19,20,21,22,23] [Dc 7 4,Ae 8 2 2,Ab 9 2 0,Ac 10 9,Aa 11 1,Ai 12 10 11 4,Af 13 12 1,Ac 14 13,Av 15 186 8 14,Bj 16 4 7 15,Ab 17 2 0,Ac 18 17,Aa 19 1,Ai 20 18 19 4,Af 21 20 3,Ac 22 21,Bj 23 4 16 22,Ax 4 23] [4])<|.ret) [.tmp 4]:=by decide +kernel
theorem iW (n:Nat) (_ih_186:∀ (t:Types) (a:Int),Ct prog (HE n t a) 186 [AU t,eI a] (fun r=>.own (lA r))) (t:Types) (a:Int):Ct prog (HE (n+1) t a) 186 [AU t,eI a] (fun r=>.own (lA r)):=Fi kE fun r h hw hR=>by
  unfold HE at h
  exact au
theorem iV:∀ n:Nat,(∀ (t:Types) (a:Int),Ct prog (HE n t a) 186 [AU t,eI a] (fun r=>.own (lA r))):=by
  intro n
  induction n with
  | zero=>exact (fun t a=>⟨fun _ h=>by cases h⟩)
  | succ n ih=>exact iW n ih
instance rd (t:Types) (a:Int):Ct prog (Mq t a) 186 [AU t,eI a] (fun r=>.own (lA r)):=⟨fun r h=>by
  obtain ⟨N,hN⟩:=DK h
  exact ((iV N) t a).snd r (hN N (Nat.le_refl _))⟩
theorem kG:CK f188 (Rq [Aj 6] [0,1,2]<|Rq [Aa 7 0,Aa 8 1,Cu 9 7 8,Aa 10 9,As 11 0 10,As 12 2 10,Et 13 11 12 10,Ap 14 10 13,Aa 6 14] [6]<|.ret) [.tmp 6]:=by decide +kernel
instance rf (n:Int) (low:Int) (high:Int):Ct prog (D3 n low high) 188 [eI n,eI low,eI high] (fun r=>.sh (eB r)):=Fi kG fun r h hw hR=>by
  unfold D3 at h
  exact au
theorem lj:CK f280 (Rq [Ag 1 0,Cz 2] [1]<|Sq (Rq [Ab 3 1 0,Ac 4 3,Bc 5 4 3] [1,5]<|Co 5 (Rq [Ab 6 1 1,Ac 7 6,⟨some 8,.bin (.s) .add (.c (.str ⟨#[34]⟩)) (.s 7),none⟩,⟨some 9,.bin (.s) .add (.s 8) (.c (.str ⟨#[34]⟩)),none⟩,Aa 2 9] [2]<|.ret)<|Sk [1])<|Rq [Ab 10 1 1,Ac 11 10,Aa 2 11] [2]<|.ret) [.tmp 2]:=by decide +kernel
instance s5 (t:E8):Ct prog (NU t) 280 [Ry t] (fun r=>.sh (eS r)):=Fi lj fun r h hw hR=>by
  unfold NU at h
  exact au
theorem l3:CK f302 (Rq [Aj 2] [0]<|Rq [Aa 3 0,Es 4 3 97,Aa 5 4,As 6 0 5,Dq 7 6 122 5,Ap 8 5 7,Aa 9 8,Au 10 0 9,Gz 11 10 65 9,Au 12 11 9,As 13 0 12,Dq 14 13 90 12,Cf 15 12 14 9,Aq 16 9 15,Aa 2 16] [2]<|.ret) [.tmp 2]:=by decide +kernel
instance tI (c:Int):Ct prog (KO c) 302 [G6 c] (fun r=>.sh (eB r)):=Fi l3 fun r h hw hR=>by
  unfold KO at h
  exact au
theorem l4:CK f303 (Rq [Aj 2] [0]<|Rq [Aa 3 0,Es 4 3 48,Aa 5 4,As 6 0 5,Dq 7 6 57 5,Ap 8 5 7,Aa 2 8] [2]<|.ret) [.tmp 2]:=by decide +kernel
instance tJ (c:Int):Ct prog (Ir c) 303 [G6 c] (fun r=>.sh (eB r)):=Fi l4 fun r h hw hR=>by
  unfold Ir at h
  exact au
theorem l5:CK f304 (Rq [Ad 6 0] [0,1,2]<|Rq [Ad 7 0] [0,1,2,7]<|Sq (Bl 0<|Lo [0,1,2,7]<|Sq (Rq [Aa 8 1,Aa 9 7,Bo 10 8 9,Aa 11 0,Cx 12 11,Am 13 10 12,Aa 14 13,As 15 0 14,As 16 1 14,As 17 7 14,Fz 18 16 17 14,Gb 19 15 18 14,Ca 20 303 19 14,As 21 20 14,Au 22 2 21,Bs 23 22 21,Au 24 23 21,As 25 0 24,As 26 1 24,As 27 7 24,Fz 28 26 27 24,Gb 29 25 28 24,Ca 30 302 29 24,As 31 30 24,Au 32 0 31,Au 33 1 31,Au 34 7 31,Gv 35 33 34 31,⟨some 36,.sidx (.s 32) (.s 35),some (31,false)⟩,Ha 37 36 95 31,Eg 38 31 37 24,Cf 39 24 38 21,Eg 40 21 39 14,Ap 41 14 40] [0,1,2,7,41]<|Co 41 (Sk [0,1,2,7])<|Ex 0 [7])<|Bl 1<|Re [Aa 42 7,Al 43 42 1,Aa 7 43] [0,1,2,7])<|Rq [Aa 44 7,Aa 6 44] [6]<|.ret) [.tmp 6]:=by decide +kernel
instance tK (s_0:ByteArray) (AB:Int) (digits:Bool):Ct prog (M1 s_0 AB digits) 304 [eS s_0,eI AB,eB digits] (fun r=>.sh (eI r)):=Fi l5 fun r h hw hR=>by
  unfold M1 at h
  have:HW 0 fun (s0:Int)=>[(7,.tv (eI s0))]:=⟨⟩
  exact au
theorem l6:CK f305 (Rq [Ad 4 0] [0,1]<|Sq (Rq [Ad 5 1] [0,1,5]<|Bl 0<|Lo [0,1,5]<|Sq (Rq [Aa 7 1,Aa 8 5,Bo 9 7 8,Aa 10 0,Cx 11 10,Am 12 9 11] [0,1,5,12]<|Co 12 (Sk [0,1,5])<|Ex 0 [])<|Sq (Bl 1<|Rq [Aa 15 0,Aa 16 1,Aa 17 5,Bo 18 16 17,⟨some 19,.sidx (.s 15) (.s 18),none⟩,Aa 6 19] [0,1,5,6]<|Sq (Rq [Aa 20 6,Cn 21 20 34] [0,1,5,6,21]<|Co 21 (Rq [Aa 22 5,Al 23 22 1,Aa 4 23] [4]<|.ret)<|Sk [0,1,5,6])<|Rq [Aa 24 6,⟨some 25,.bin (.i) .lss (.s 24) (.c (.int .u8 32)),none⟩,Aa 26 25,Au 27 6 26,⟨some 28,.bin (.i) .gtr (.s 27) (.c (.int .u8 126)),some (26,false)⟩,Aq 29 26 28] [0,1,5,29]<|Co 29 (Rq [Ad 4 0] [4]<|.ret)<|Sk [0,1,5])<|Re [Aa 13 5,Al 14 13 1,Aa 5 14] [0,1,5])<|Rq [Ad 4 0] [4]<|.ret) [.tmp 4]:=by decide +kernel
instance tL (s_0:ByteArray) (AB:Int):Ct prog (KP s_0 AB) 305 [eS s_0,eI AB] (fun r=>.sh (eI r)):=Fi l6 fun r h hw hR=>by
  unfold KP at h
  have:HW 0 fun (s0:Int)=>[(5,.tv (eI s0))]:=⟨⟩
  exact au
theorem l7:CK f306 (Rq [Bb 0 1] []<|Rq [⟨some 1,.lst 1 [.c (.str ⟨#[45,62]⟩),.c (.str ⟨#[60,61]⟩),.c (.str ⟨#[62,61]⟩),.c (.str ⟨#[61,61]⟩),.c (.str ⟨#[33,61]⟩),.c (.str ⟨#[123]⟩),.c (.str ⟨#[125]⟩),.c (.str ⟨#[40]⟩),.c (.str ⟨#[41]⟩),.c (.str ⟨#[91]⟩),.c (.str ⟨#[93]⟩),.c (.str ⟨#[44]⟩),.c (.str ⟨#[59]⟩),.c (.str ⟨#[58]⟩),.c (.str ⟨#[61]⟩),.c (.str ⟨#[43]⟩),.c (.str ⟨#[45]⟩),.c (.str ⟨#[42]⟩),.c (.str ⟨#[60]⟩),.c (.str ⟨#[62]⟩),.c (.str ⟨#[33]⟩),.c (.str ⟨#[38]⟩),.c (.str ⟨#[124]⟩),.c (.str ⟨#[46]⟩),.c (.str ⟨#[63]⟩)],none⟩,Ax 0 1] [0]<|.ret) [.tmp 0]:=by decide +kernel
instance tM :Ct prog (Mp ) 306 [] (fun r=>.own (lB r)):=Fi l7 fun r h hw hR=>by
  unfold Mp at h
  exact au
theorem ll:CK f281 (Rq [Hk 4 0 0,Ad 5 0,Ad 6 0] [0,1,4]<|Rq [Aa 14 0,Aa 15 1,⟨some 16,.sidx (.s 14) (.s 15),none⟩,Aa 7 16] [0,1,4,7]<|Sq (Rq [Aa 17 7,Ba 18 302 17,Aa 19 18,Au 20 7 19,Ds 21 303 20 19,Aq 22 19 21] [0,1,4,7,22]<|Co 22 (Rq [Aa 23 0,Aa 24 1,Aa 25 7,Ba 26 303 25,Bf 27 304 23 24 26,Aa 8 27] [0,1,4,7,8]<|Rq [Ad 9 1,Ad 10 20] [0,1,4,7,8,9,10]<|Sq (Rq [Aa 28 7,Ba 29 303 28] [0,1,4,8,9,10,29]<|Co 29 (Re [Ad 9 2,Ad 10 9] [0,1,4,8,9,10])<|Sk [0,1,4,8,9,10])<|Sq (Rq [Aa 30 8,Aa 31 10,Ez 32 30 31] [0,1,4,8,9,32]<|Co 32 (Rq [Ga 33 0 0,Ak 3 4 33,Ad 5 0,Ad 6 3] [4,5,6]<|.ret)<|Sk [0,1,4,8,9])<|Rq [Aa 34 9,Aa 35 0,Aa 36 1,Aa 37 1,Aa 38 8,Bo 39 37 38,⟨some 40,.sslc (.s 35) (some (.s 36)) (some (.s 39)),none⟩,⟨some 41,.bld [.int .i64 0,.str ⟨#[]⟩,.int .i64 0] [(0,1,.s 34),(1,1,.s 40)],none⟩,Aa 42 8,Ak 3 4 41,Aa 5 42,Ad 6 0] [4,5,6]<|.ret)<|Sk [0,1,4,7])<|Sq (Rq [Aa 43 7,Cn 44 43 34] [0,1,4,44]<|Co 44 (Rq [Aa 45 0,Aa 46 1,Av 47 305 45 46,Aa 11 47] [0,1,4,11]<|Sq (Rq [Aa 48 11,Bc 49 48 0] [0,1,4,11,49]<|Co 49 (Rq [Ga 50 0 0,Ak 3 4 50,Ad 5 0,Ad 6 2] [4,5,6]<|.ret)<|Sk [0,1,4,11])<|Sq (Rq [Aa 51 11,Bw 52 51 2,Bk 53 52 60] [0,1,4,11,53]<|Co 53 (Rq [Ga 54 0 0,Ak 3 4 54,Ad 5 0,Ad 6 3] [4,5,6]<|.ret)<|Sk [0,1,4,11])<|Rq [Aa 55 0,Aa 56 1,Al 57 56 1,Aa 58 1,Aa 59 11,Bo 60 58 59,Bw 61 60 1,⟨some 62,.sslc (.s 55) (some (.s 57)) (some (.s 61)),none⟩,Fj 63 0 0 0 1 3 1 1 62,Aa 64 11,Ak 3 4 63,Aa 5 64,Ad 6 0] [4,5,6]<|.ret)<|Sk [0,1,4])<|Rq [Ep 65 306,Ax 12 65] [0,1,4,12]<|Sq (Rq [Ad 13 0] [0,1,4,12,13]<|Bl 0<|Lo [0,1,4,12,13]<|Sq (Rq [Aa 66 13,Aa 67 12,Ah 68 67,Am 69 66 68] [0,1,4,12,13,69]<|Co 69 (Sk [0,1,4,12,13])<|Ex 0 [4])<|Sq (Bl 1<|Sq (Dr [72,73,74,75,76,77,78,79,80,81,82,83,84,85,86,87,88,89,90,91,92,93,94,95,96,97,98] [Aa 72 1,Aa 73 12,Aa 74 13,Ai 75 73 74 1,Ac 76 75,Cx 77 76,Bo 78 72 77,Aa 79 0,Cx 80 79,⟨some 81,.bin (.i) .leq (.s 78) (.s 80),none⟩,Aa 82 81,As 83 0 82,As 84 1 82,As 85 1 82,As 86 12 82,As 87 13 82,Dh 88 86 87 1 82,Az 89 88 82,Gc 90 89 82,Fz 91 85 90 82,⟨some 92,.sslc (.s 83) (some (.s 84)) (some (.s 91)),some (82,true)⟩,As 93 12 82,As 94 13 82,Dh 95 93 94 1 82,Az 96 95 82,⟨some 97,.bin (.s) .eql (.s 92) (.s 96),some (82,true)⟩,Ap 98 82 97] [0,1,4,12,13,98])<|Co 98 (Sq (Dr [4,5,6,99,100,101,102,103,104,105,106,107,108] [Aa 99 12,Aa 100 13,Ai 101 99 100 1,Ac 102 101,Fj 103 0 0 0 1 4 1 1 102,Aa 104 12,Aa 105 13,Ai 106 104 105 1,Ac 107 106,Cx 108 107,Ak 3 4 103,Aa 5 108,Ad 6 0] [4,5,6])<|.ret)<|Sk [0,1,4,12,13])<|Re [Aa 70 13,Al 71 70 1,Aa 13 71] [0,1,4,12,13])<|Rq [Ga 109 0 0,Ak 3 4 109,Ad 5 0,Ad 6 2] [4,5,6]<|.ret) [.cell 4 (some 3),.tmp 5,.tmp 6]:=by decide +kernel
instance s7 (s_0:ByteArray) (AB:Int):Ct prog (M0 s_0 AB) 281 [eS s_0,eI AB] (fun r=>.tp [Ry r.1,eI r.2.1,eI r.2.2]):=Fi ll fun r h hw hR=>by
  unfold M0 at h
  have:HJ 29 fun (w1:Int × Int)=>[(9,.tv (eI w1.1)),(10,.tv (eI w1.2))]:=⟨⟩
  have:HA 0 13 12 0 fun (i0:Int) (s0:E8)=>[(4,.bx [⟨false,eI s0.Kind⟩,⟨false,eS s0.Text⟩,⟨false,eI s0.Line⟩]),(13,.tv (eI i0))]:=⟨⟩
  exact au
theorem lR:CK f253 (Rq [Ag 1 0,Aj 2] [1]<|Rq [Ae 7 1 3,Ba 8 280 7,Aa 3 8] [1,3]<|Sq (Rq [Aa 9 3,⟨some 10,.bin (.s) .eql (.s 9) (.c (.str ⟨#[]⟩)),none⟩] [1,3,10]<|Co 10 (Rq [Aj 2] [2]<|.ret)<|Sk [1,3])<|Rq [Aa 12 3,Ew 13 281 12 0,Aa 11 13,An 14 11 0,An 15 11 1,An 16 11 2,Hk 4 0 0,Ak 3 4 14,Aa 5 15,Aa 6 16] [1,3,4,5,6]<|Rq [Aa 17 6,Bc 18 17 0,Aa 19 18,As 20 5 19,As 21 3 19,Gc 22 21 19,Dg 23 20 22 19,Ap 24 19 23,Aa 25 24,Ay 26 4 0 25,Az 27 26 25,Ay 28 1 0 25,Az 29 28 25,Dg 30 27 29 25,Ap 31 25 30,Aa 2 31] [2]<|.ret) [.tmp 2]:=by decide +kernel
instance si (t:E8):Ct prog (Mn t) 253 [Ry t] (fun r=>.sh (eB r)):=Fi lR fun r h hw hR=>by
  unfold Mn at h
  exact au
theorem kt:CK f223 (Rq [Aj 2] [0]<|Rq [Aa 3 0,Fj 4 0 0 0 1 1 1 1 3,Ba 5 253 4,Aa 2 5] [2]<|.ret) [.tmp 2]:=by decide +kernel
instance sK (s_0:ByteArray):Ct prog (HC s_0) 223 [eS s_0] (fun r=>.sh (eB r)):=Fi kt fun r h hw hR=>by
  unfold HC at h
  exact au
theorem lU:CK f254 (Rq [Ad 2 0] [0]<|Sq (Rq [Aa 5 0,Ah 6 5,Bk 7 6 20] [0,7]<|Co 7 (Rq [Ad 2 3] [2]<|.ret)<|Sk [0])<|Sq (Rq [Ad 3 0] [0,3]<|Bl 0<|Lo [0,3]<|Sq (Rq [Aa 8 3,Aa 9 0,Ah 10 9,Am 11 8 10] [0,3,11]<|Co 11 (Sk [0,3])<|Ex 0 [])<|Sq (Bl 1<|Sq (Rq [Aa 14 0,Aa 15 3,Ai 16 14 15 1,Ac 17 16,Ba 18 223 17,Be 19 18] [0,3,19]<|Co 19 (Rq [Ad 2 2] [2]<|.ret)<|Sk [0,3])<|Rq [Ad 4 0] [0,3,4]<|Bl 2<|Lo [0,3,4]<|Sq (Rq [Aa 20 4,Aa 21 3,Am 22 20 21] [0,3,4,22]<|Co 22 (Sk [0,3,4])<|Ex 2 [0,3])<|Sq (Bl 3<|Sq (Dr [25,26,27,28,29,30,31,32,33] [Aa 25 0,Aa 26 4,Ai 27 25 26 1,Ac 28 27,Aa 29 0,Aa 30 3,Ai 31 29 30 1,Ac 32 31,Dm 33 28 32] [0,3,4,33])<|Co 33 (Rq [Ad 2 5] [2]<|.ret)<|Sk [0,3,4])<|Re [Aa 23 4,Al 24 23 1,Aa 4 24] [0,3,4])<|Re [Aa 12 3,Al 13 12 1,Aa 3 13] [0,3])<|Rq [Ad 2 0] [2]<|.ret) [.tmp 2]:=by decide +kernel
instance sj (l:List ByteArray):Ct prog (K3 l) 254 [lB l] (fun r=>.sh (eI r)):=Fi lU fun r h hw hR=>by
  unfold K3 at h
  have:HA 0 3 0 0 fun (i0:Int) (_:Unit)=>[(3,.tv (eI i0))]:=⟨⟩
  have:HA 2 4 3 0 fun (i2:Int) (_:Unit)=>[(4,.tv (eI i2))]:=⟨⟩
  exact au
theorem ku:CK f224 (Rq [Ag 1 0,Ad 2 0] [1]<|Sq (Rq [Ab 4 1 3,Ac 5 4,Ah 6 5,Bc 7 6 0] [1,7]<|Co 7 (Sq (Rq [Ab 8 1 1,Ac 9 8,⟨some 10,.call 188 [.s 9,.c (.int .i64 (-1000000)),.c (.int .i64 1000000)],none⟩,Be 11 10,Aa 12 11,Ar 13 1 2 12,Ao 14 13 12,Ar 15 1 1 12,Ao 16 15 12,Hl 17 188 14 16 1000000 12,Bs 18 17 12,Aq 19 12 18] [19]<|Co 19 (Rq [Ad 2 6] [2]<|.ret)<|Sk [])<|Rq [Ad 2 0] [2]<|.ret)<|Sk [1])<|Sq (Rq [Ab 20 1 3,Ac 21 20,Ba 22 254 21,Aa 3 22] [1,3]<|Rq [Aa 23 3,Aw 24 23 0] [1,3,24]<|Co 24 (Rq [Aa 25 3,Aa 2 25] [2]<|.ret)<|Sk [1])<|Sq (Rq [Ab 26 1 1,Ac 27 26,Aw 28 27 0,Aa 29 28,Ar 30 1 2 29,Ao 31 30 29,Ar 32 1 3 29,Ao 33 32 29,Bi 34 33 29,Fs 35 34 1 29,Cp 36 31 35 29,Aq 37 29 36] [37]<|Co 37 (Rq [Ad 2 6] [2]<|.ret)<|Sk [])<|Rq [Ad 2 0] [2]<|.ret) [.tmp 2]:=by decide +kernel
instance sL (a:Attr):Ct prog (Ib a) 224 [IT a] (fun r=>.sh (eI r)):=Fi ku fun r h hw hR=>by
  unfold Ib at h
  exact au
theorem jp:CK f162 (Rq [Ag 2 0,Ad 4 0] [1,2]<|Rq [Ab 11 2 0,Ac 12 11,Aa 13 1,Ai 14 12 13 4,Ae 15 14 4,Fk 5 0 4,Ak 4 5 15] [1,2,5]<|Sq (Rq [Ab 16 5 0,Ac 17 16,Ba 18 223 17,Be 19 18] [1,2,5,19]<|Co 19 (Rq [Ad 4 2] [4]<|.ret)<|Sk [1,2,5])<|Sq (Rq [Ad 6 0] [1,2,5,6]<|Bl 0<|Lo [1,2,5,6]<|Sq (Rq [Aa 20 6,Aa 21 1,Am 22 20 21] [1,2,5,6,22]<|Co 22 (Sk [1,2,5,6])<|Ex 0 [1,2,5])<|Sq (Bl 1<|Sq (Dr [25,26,27,28,29,30,31,32,33] [Ab 25 2 0,Ac 26 25,Aa 27 6,Ai 28 26 27 4,Af 29 28 0,Ac 30 29,Ab 31 5 0,Ac 32 31,Dm 33 30 32] [1,2,5,6,33])<|Co 33 (Rq [Ad 4 5] [4]<|.ret)<|Sk [1,2,5,6])<|Re [Aa 23 6,Al 24 23 1,Aa 6 24] [1,2,5,6])<|Sq (Rq [Ab 34 5 1,Ac 35 34,Aa 36 1,Bw 37 36 1,⟨some 38,.call 188 [.s 35,.c (.int .i64 (-1)),.s 37],none⟩,Be 39 38] [1,2,5,39]<|Co 39 (Rq [Ad 4 6] [4]<|.ret)<|Sk [1,2,5])<|Rq [Ae 40 2 2,Aa 41 1,Av 42 186 40 41,Ax 7 42] [5,7]<|Sq (Rq [Ab 43 5 3,Ac 44 43,Ah 45 44,Bk 46 45 4,Aa 47 46,Au 48 7 47,Bi 49 48 47,Cd 50 49 8 47,Aq 51 47 50] [5,7,51]<|Co 51 (Rq [Ad 4 3] [4]<|.ret)<|Sk [5,7])<|Sq (Rq [Aa 52 7,Ah 53 52,Ab 54 5 3,Ac 55 54,Ah 56 55,Dv 57 53 56,Aa 8 57] [7,8]<|Bl 2<|Lo [7,8]<|Sq (Rq [Aa 58 8,Aa 59 7,Ah 60 59,Am 61 58 60] [7,8,61]<|Co 61 (Sk [7,8])<|Ex 2 [])<|Sq (Bl 3<|Sq (Rq [Aa 64 7,Aa 65 8,Ai 66 64 65 4,Af 67 66 0,Ac 68 67,Ba 69 223 68,Be 70 69] [7,8,70]<|Co 70 (Rq [Ad 4 2] [4]<|.ret)<|Sk [7,8])<|Sq (Rq [Ad 9 0] [7,8,9]<|Bl 4<|Lo [7,8,9]<|Sq (Rq [Aa 71 9,Aa 72 8,Am 73 71 72] [7,8,9,73]<|Co 73 (Sk [7,8,9])<|Ex 4 [7,8])<|Sq (Bl 5<|Sq (Dr [76,77,78,79,80,81,82,83,84,85,86] [Aa 76 7,Aa 77 9,Ai 78 76 77 4,Af 79 78 0,Ac 80 79,Aa 81 7,Aa 82 8,Ai 83 81 82 4,Af 84 83 0,Ac 85 84,Dm 86 80 85] [7,8,9,86])<|Co 86 (Rq [Ad 4 5] [4]<|.ret)<|Sk [7,8,9])<|Re [Aa 74 9,Al 75 74 1,Aa 9 75] [7,8,9])<|Rq [Aa 87 7,Aa 88 8,Ai 89 87 88 4,Ae 90 89 4,Ba 91 224 90,Aa 10 91] [7,8,10]<|Rq [Aa 92 10,Aw 93 92 0] [7,8,10,93]<|Co 93 (Rq [Aa 94 10,Aa 4 94] [4]<|.ret)<|Sk [7,8])<|Re [Aa 62 8,Al 63 62 1,Aa 8 63] [7,8])<|Rq [Ad 4 0] [4]<|.ret) [.tmp 4]:=by decide +kernel
instance rK (t:Types) (i_1:Int):Ct prog (L3 t i_1) 162 [AU t,eI i_1] (fun r=>.sh (eI r)):=Fi jp fun r h hw hR=>by
  unfold L3 at h
  have:HA 0 6 1 0 fun (i0:Int) (_:Unit)=>[(6,.tv (eI i0))]:=⟨⟩
  have:HA 2 8 7 0 fun (i2:Int) (_:Unit)=>[(8,.tv (eI i2))]:=⟨⟩
  have:HA 4 9 8 0 fun (i4:Int) (_:Unit)=>[(9,.tv (eI i4))]:=⟨⟩
  exact au
theorem kv:CK f225 (Rq [Aj 4] [0,1]<|Rq [Aa 5 0,Hc 6 188 5 0 40,Aa 7 6,As 8 1 7,Hb 9 8 (-1) 7,As 10 9 7,Au 11 1 10,Au 12 0 10,Hl 13 188 11 12 40 10,Eg 14 10 13 7,Ap 15 7 14,Aa 4 15] [4]<|.ret) [.tmp 4]:=by decide +kernel
instance sM (low:Int) (high:Int):Ct prog (Js low high) 225 [eI low,eI high] (fun r=>.sh (eB r)):=Fi kv fun r h hw hR=>by
  unfold Js at h
  exact au
theorem jq:CK f163 (Rq [Ag 2 0,Ad 4 0] [1,2]<|Rq [Ab 8 2 1,Ac 9 8,Aa 10 1,Ai 11 9 10 7,Ae 12 11 7,Gf 5 0 0 0 0 0 0,Ak 7 5 12] [1,2,5]<|Sq (Rq [Ab 13 5 0,Ac 14 13,Ba 15 223 14,Be 16 15] [1,2,5,16]<|Co 16 (Rq [Ad 4 2] [4]<|.ret)<|Sk [1,2,5])<|Sq (Rq [Ad 6 0] [1,2,5,6]<|Bl 0<|Lo [1,2,5,6]<|Sq (Rq [Aa 17 6,Aa 18 1,Am 19 17 18] [1,2,5,6,19]<|Co 19 (Sk [1,2,5,6])<|Ex 0 [2,5])<|Sq (Bl 1<|Sq (Dr [22,23,24,25,26,27,28,29,30] [Ab 22 2 1,Ac 23 22,Aa 24 6,Ai 25 23 24 7,Af 26 25 0,Ac 27 26,Ab 28 5 0,Ac 29 28,Dm 30 27 29] [1,2,5,6,30])<|Co 30 (Rq [Ad 4 5] [4]<|.ret)<|Sk [1,2,5,6])<|Re [Aa 20 6,Al 21 20 1,Aa 6 21] [1,2,5,6])<|Rq [Ab 31 2 0,Ac 32 31,Ah 33 32,Bw 34 33 1,Aa 7 34] [5,7]<|Sq (Rq [Ab 35 5 1,Ac 36 35,Aa 37 7,Fp 38 188 36 0 37,Be 39 38,Aa 40 39,Ar 41 5 2 40,Ao 42 41 40,Au 43 7 40,Gw 44 188 42 0 43 40,Bs 45 44 40,Aq 46 40 45,Aa 47 46,Ar 48 5 3 47,Ao 49 48 47,Ar 50 5 4 47,Ao 51 50 47,Dk 52 225 49 51 47,Bs 53 52 47,Aq 54 47 53,Aa 55 54,Ar 56 5 5 55,Ao 57 56 55,Ar 58 5 6 55,Ao 59 58 55,Dk 60 225 57 59 55,Bs 61 60 55,Aq 62 55 61] [62]<|Co 62 (Rq [Ad 4 6] [4]<|.ret)<|Sk [])<|Rq [Ad 4 0] [4]<|.ret) [.tmp 4]:=by decide +kernel
instance rL (t:Types) (i_1:Int):Ct prog (L0 t i_1) 163 [AU t,eI i_1] (fun r=>.sh (eI r)):=Fi jq fun r h hw hR=>by
  unfold L0 at h
  have:HA 0 6 1 0 fun (i0:Int) (_:Unit)=>[(6,.tv (eI i0))]:=⟨⟩
  exact au
theorem pk:CK f94 (Rq [Ag 1 0,Cz 2,Ad 3 0] [1]<|Sq (Rq [Ab 8 1 0,Ac 9 8,Ah 10 9,Bc 11 10 0] [1,11]<|Co 11 (Rq [Cz 2,Ad 3 7] [2,3]<|.ret)<|Sk [1])<|Sq (Rq [Ab 12 1 0,Ac 13 12,Ah 14 13,Bk 15 14 12,Aa 16 15,Ar 17 1 1 16,Ao 18 17 16,Bi 19 18 16,Cd 20 19 20 16,Aq 21 16 20] [1,21]<|Co 21 (Rq [Cz 2,Ad 3 3] [2,3]<|.ret)<|Sk [1])<|Sq (Rq [Ad 4 0] [1,4]<|Bl 0<|Lo [1,4]<|Sq (Rq [Aa 22 4,Ab 23 1 0,Ac 24 23,Ah 25 24,Am 26 22 25] [1,4,26]<|Co 26 (Sk [1,4])<|Ex 0 [1])<|Sq (Bl 1<|Rq [Ae 29 1 2,Aa 30 4,Av 31 162 29 30,Aa 5 31] [1,4,5]<|Rq [Aa 32 5,Aw 33 32 0] [1,4,5,33]<|Co 33 (Rq [Ab 34 1 0,Ac 35 34,Aa 36 4,Ai 37 35 36 4,Af 38 37 0,Ac 39 38,Aa 40 5,Aa 2 39,Aa 3 40] [2,3]<|.ret)<|Sk [1,4])<|Re [Aa 27 4,Al 28 27 1,Aa 4 28] [1,4])<|Sq (Rq [Ad 6 0] [1,6]<|Bl 2<|Lo [1,6]<|Sq (Rq [Aa 41 6,Ab 42 1 1,Ac 43 42,Ah 44 43,Am 45 41 44] [1,6,45]<|Co 45 (Sk [1,6])<|Ex 2 [])<|Sq (Bl 3<|Rq [Ae 48 1 2,Aa 49 6,Av 50 163 48 49,Aa 7 50] [1,6,7]<|Rq [Aa 51 7,Aw 52 51 0] [1,6,7,52]<|Co 52 (Rq [Ab 53 1 1,Ac 54 53,Aa 55 6,Ai 56 54 55 7,Af 57 56 0,Ac 58 57,Aa 59 7,Aa 2 58,Aa 3 59] [2,3]<|.ret)<|Sk [1,6])<|Re [Aa 46 6,Al 47 46 1,Aa 6 47] [1,6])<|Rq [Cz 2,Ad 3 0] [2,3]<|.ret) [.tmp 2,.tmp 3]:=by decide +kernel
instance uq (t:Types):Ct prog (Hw t) 94 [AU t] (fun r=>.tp [eS r.1,eI r.2]):=Fi pk fun r h hw hR=>by
  unfold Hw at h
  have:HA 0 4 1 0 fun (i0:Int) (_:Unit)=>[(4,.tv (eI i0))]:=⟨⟩
  have:HA 2 6 1 1 fun (i2:Int) (_:Unit)=>[(6,.tv (eI i2))]:=⟨⟩
  exact au
theorem jr:CK f164 (Rq [Aj 2] [0]<|Rq [Aa 3 0,Bp 4 3 0,Aa 5 4,As 6 0 5,Cl 7 6 99 5,Ap 8 5 7,Aa 2 8] [2]<|.ret) [.tmp 2]:=by decide +kernel
instance rM (n:Int):Ct prog (Ke n) 164 [eI n] (fun r=>.sh (eB r)):=Fi jr fun r h hw hR=>by
  unfold Ke at h
  exact au
theorem jt:CK f165 (Rq [Ag 2 0,Aj 4] [1,2]<|Rq [Ab 5 2 0,Ac 6 5,Ba 7 164 6,Aa 8 7,Ay 9 2 1 8,Az 10 9 8,Fx 11 10 0 8,Ap 12 8 11,Aa 13 12,Ay 14 2 1 13,Az 15 14 13,As 16 1 13,Eu 17 15 16 13,Ap 18 13 17,Aa 19 18,Ay 20 2 2 19,Az 21 20 19,Fx 22 21 0 19,Ap 23 19 22,Aa 24 23,Ay 25 2 2 24,Az 26 25 24,As 27 1 24,Eu 28 26 27 24,Ap 29 24 28,Aa 4 29] [4]<|.ret) [.tmp 4]:=by decide +kernel
instance rN (e:B6) (nodes:Int):Ct prog (Mr e nodes) 165 [EB e,eI nodes] (fun r=>.sh (eB r)):=Fi jt fun r h hw hR=>by
  unfold Mr at h
  exact au
theorem po:CK f95 (Rq [Ag 1 0,Ad 2 0] [1]<|Sq (Rq [Ab 5 1 0,Ac 6 5,Ah 7 6,Bk 8 7 40,Aa 9 8,Ar 10 1 1 9,Ao 11 10 9,Bi 12 11 9,Cd 13 12 80 9,Aq 14 9 13] [1,14]<|Co 14 (Rq [Ad 2 3] [2]<|.ret)<|Sk [1])<|Sq (Rq [Ad 3 0] [1,3]<|Bl 0<|Lo [1,3]<|Sq (Rq [Aa 15 3,Ab 16 1 0,Ac 17 16,Ah 18 17,Am 19 15 18] [1,3,19]<|Co 19 (Sk [1,3])<|Ex 0 [1])<|Sq (Bl 1<|Rq [Ab 22 1 0,Ac 23 22,Aa 24 3,Ai 25 23 24 1,Ac 26 25,Ba 27 164 26,Be 28 27] [1,3,28]<|Co 28 (Rq [Ad 2 6] [2]<|.ret)<|Sk [1,3])<|Re [Aa 20 3,Al 21 20 1,Aa 3 21] [1,3])<|Sq (Rq [Ad 4 0] [1,4]<|Bl 2<|Lo [1,4]<|Sq (Rq [Aa 29 4,Ab 30 1 1,Ac 31 30,Ah 32 31,Am 33 29 32] [1,4,33]<|Co 33 (Sk [1,4])<|Ex 2 [])<|Sq (Bl 3<|Sq (Dr [36,37,38,39,40,41,42,43,44,45] [Ab 36 1 1,Ac 37 36,Aa 38 4,Ai 39 37 38 3,Ae 40 39 3,Ab 41 1 0,Ac 42 41,Ah 43 42,Av 44 165 40 43,Be 45 44] [1,4,45])<|Co 45 (Rq [Ad 2 6] [2]<|.ret)<|Sk [1,4])<|Re [Aa 34 4,Al 35 34 1,Aa 4 35] [1,4])<|Rq [Ad 2 0] [2]<|.ret) [.tmp 2]:=by decide +kernel
instance ur (g:Graph):Ct prog (FU g) 95 [B3 g] (fun r=>.sh (eI r)):=Fi po fun r h hw hR=>by
  unfold FU at h
  have:HA 0 3 1 0 fun (i0:Int) (_:Unit)=>[(3,.tv (eI i0))]:=⟨⟩
  have:HA 2 4 1 1 fun (i2:Int) (_:Unit)=>[(4,.tv (eI i2))]:=⟨⟩
  exact au
theorem pu:CK f96 (Rq [Ag 2 0,Ag 3 1,Aj 4] [2,3]<|Sq (Rq [Ad 5 0] [2,3,5]<|Bl 0<|Lo [2,3,5]<|Sq (Rq [Aa 7 5,Ab 8 3 0,Ac 9 8,Ah 10 9,Am 11 7 10] [2,3,5,11]<|Co 11 (Sk [2,3,5])<|Ex 0 [2,3])<|Sq (Bl 1<|Sq (Dr [14,15,16,17,18,19,20,21,22,23,24,25,26,27,28,29,30] [Ab 14 3 0,Ac 15 14,Aa 16 5,Ai 17 15 16 1,Ac 18 17,Ce 19 18 0,Aa 20 19,Ar 21 3 0 20,Ao 22 21 20,Au 23 5 20,Cb 24 22 23 1 20,Ao 25 24 20,Ar 26 2 0 20,Ao 27 26 20,Bi 28 27 20,Bz 29 25 28 20,Aq 30 20 29] [2,3,5,30])<|Co 30 (Rq [Aj 4] [4]<|.ret)<|Sk [2,3,5])<|Re [Aa 12 5,Al 13 12 1,Aa 5 13] [2,3,5])<|Sq (Rq [Ad 6 0] [2,3,6]<|Bl 2<|Lo [2,3,6]<|Sq (Rq [Aa 31 6,Ab 32 3 1,Ac 33 32,Ah 34 33,Am 35 31 34] [2,3,6,35]<|Co 35 (Sk [2,3,6])<|Ex 2 [])<|Sq (Bl 3<|Sq (Dr [38,39,40,41,42,43,44,45,46,47,48,49,50,51,52,53,54,55,56] [Ab 38 3 1,Ac 39 38,Aa 40 6,Ai 41 39 40 3,Af 42 41 0,Ac 43 42,Ce 44 43 0,Aa 45 44,Ar 46 3 1 45,Ao 47 46 45,Au 48 6 45,Cb 49 47 48 3 45,Bn 50 49 0 45,Ao 51 50 45,Ar 52 2 1 45,Ao 53 52 45,Bi 54 53 45,Bz 55 51 54 45,Aq 56 45 55] [2,3,6,56])<|Co 56 (Rq [Aj 4] [4]<|.ret)<|Sk [2,3,6])<|Re [Aa 36 6,Al 37 36 1,Aa 6 37] [2,3,6])<|Rq [Bx 4] [4]<|.ret) [.tmp 4]:=by decide +kernel
instance ut (t:Types) (g:Graph):Ct prog (It t g) 96 [AU t,B3 g] (fun r=>.sh (eB r)):=Fi pu fun r h hw hR=>by
  unfold It at h
  have:HA 0 5 3 0 fun (i0:Int) (_:Unit)=>[(5,.tv (eI i0))]:=⟨⟩
  have:HA 2 6 3 1 fun (i2:Int) (_:Unit)=>[(6,.tv (eI i2))]:=⟨⟩
  exact au
theorem kD:CK f185 (Rq [Ag 3 0,Ad 6 0] [1,2,3]<|Sq (Rq [Ae 10 3 2,Ba 11 94 10,Aa 9 11,An 12 9 0,An 13 9 1,Aa 7 12,Aa 8 13] [1,2,3,8]<|Rq [Aa 14 8,Aw 15 14 0] [1,2,3,8,15]<|Co 15 (Rq [Aa 16 8,Aa 6 16] [6]<|.ret)<|Sk [1,2,3])<|Sq (Rq [Aa 17 1,Ab 18 3 0,Ac 19 18,Ah 20 19,Bw 21 20 1,Fp 22 188 17 0 21,Be 23 22,Aa 24 23,Au 25 2 24,Ar 26 3 0 24,Ao 27 26 24,Bi 28 27 24,Fs 29 28 1 24,Gw 30 188 25 0 29 24,Bs 31 30 24,Aq 32 24 31] [32]<|Co 32 (Rq [Ad 6 6] [6]<|.ret)<|Sk [])<|Rq [Ad 6 0] [6]<|.ret) [.tmp 6]:=by decide +kernel
instance rc (t:Types) (a:Int) (b:Int):Ct prog (Jt t a b) 185 [AU t,eI a,eI b] (fun r=>.sh (eI r)):=Fi kD fun r h hw hR=>by
  unfold Jt at h
  exact au
theorem jF:CK f121 (Rq [Ag 2 0,Bb 4 4,Ad 5 0] [1,2]<|Sq (Rq [Ae 11 2 2,Aa 12 1,Aa 13 1,Bf 14 185 11 12 13,Aa 6 14] [1,2,6]<|Rq [Aa 15 6,Aw 16 15 0] [1,2,6,16]<|Co 16 (Rq [Aa 17 6,Bb 4 4,Aa 5 17] [4,5]<|.ret)<|Sk [1,2])<|Rq [Bb 7 4] [1,2,7]<|Rq [Ae 18 2 2,Aa 19 1,Av 20 186 18 19,Ax 8 20] [7,8]<|Sq (Rq [Ad 9 0] [7,8,9]<|Bl 0<|Lo [7,8,9]<|Sq (Rq [Aa 21 9,Aa 22 8,Ah 23 22,Am 24 21 23] [7,8,9,24]<|Co 24 (Sk [7,8,9])<|Ex 0 [7])<|Sq (Bl 1<|Rq [Aa 27 8,Aa 28 9,Ai 29 27 28 4,Ae 30 29 4,Dy 10 0 0 1,Ak 4 10 30] [7,8,9,10]<|Rq [Dc 31 1,Ab 32 10 3,Ac 33 32,Bj 34 1 31 33,Ab 35 10 3,Bm 1 35 34] [7,8,9,10]<|Re [Ax 36 7,Ae 37 10 4,Bh 38 4 37,Bj 39 4 36 38,Ax 7 39] [7,8,9])<|Re [Aa 25 9,Al 26 25 1,Aa 9 26] [7,8,9])<|Rq [Aa 40 7,Ax 4 40,Ad 5 0] [4,5]<|.ret) [.tmp 4,.tmp 5]:=by decide +kernel
instance qf (t:Types) (a:Int):Ct prog (Hv t a) 121 [AU t,eI a] (fun r=>.tp [lA r.1,eI r.2]):=Fi jF fun r h hw hR=>by
  unfold Hv at h
  have:HA 0 9 8 0 fun (i0:Int) (s0:List Attr)=>[(7,.ow (lA s0)),(9,.tv (eI i0))]:=⟨⟩
  exact au
theorem pv:CK f97 (Rq [Ag 4 0,Ag 5 1,Dy 8 0 0 1,Aj 9] [2,3,4,5,8]<|Sq (Rq [Aa 12 2,Ce 13 12 0,Aa 14 13,Au 15 2 14,Ar 16 5 0 14,Bn 17 16 0 14,Ao 18 17 14,Bi 19 18 14,Bz 20 15 19 14,Aq 21 14 20] [2,3,4,5,8,21]<|Co 21 (Rq [Fq 22 0 0 1,Ak 4 8 22,Aj 9] [8,9]<|.ret)<|Sk [2,3,4,5,8])<|Sq (Dr [10,11,23,24,25,26,27,28,29,30,31,32,33] [Ae 24 4 2,Ab 25 5 0,Af 26 25 0,Ac 27 26,Aa 28 2,Ai 29 27 28 1,Ac 30 29,Av 31 121 24 30,Aa 23 31,An 32 23 0,An 33 23 1,Ax 10 32,Aa 11 33] [3,8,10,11])<|Sq (Rq [Aa 34 11,Aw 35 34 0,Aa 36 35,Au 37 3 36,Hd 38 37 0 36,Aq 39 36 38,Aa 40 39,Au 41 3 40,Au 42 10 40,Bi 43 42 40,Bz 44 41 43 40,Aq 45 40 44] [3,8,10,45]<|Co 45 (Rq [Fq 46 0 0 1,Ak 4 8 46,Aj 9] [8,9]<|.ret)<|Sk [3,8,10])<|Rq [Aa 47 10,Aa 48 3,Ai 49 47 48 4,Ae 50 49 4,Ak 4 8 50,Bx 9] [8,9]<|.ret) [.cell 8 (some 4),.tmp 9]:=by decide +kernel
instance uu (t:Types) (p:Pattern) (node:Int) (index:Int):Ct prog (MA t p node index) 97 [AU t,BA p,eI node,eI index] (fun r=>.tp [IT r.1,eB r.2]):=Fi pv fun r h hw hR=>by
  unfold MA at h
  exact au
theorem pw:CK f98 (Rq [Aj 2] [0]<|Rq [Aa 3 0,⟨some 4,.bin (.i) .geq (.s 3) (.c (.int .i64 (-1000000))),none⟩,Aa 5 4,As 6 0 5,Cl 7 6 1000000 5,Ap 8 5 7,Aa 2 8] [2]<|.ret) [.tmp 2]:=by decide +kernel
instance uv (n:Int):Ct prog (LE n) 98 [eI n] (fun r=>.sh (eB r)):=Fi pw fun r h hw hR=>by
  unfold LE at h
  exact au
theorem kw:CK f226 (Rq [Ag 3 1,Ad 4 0] [0,3]<|Sq (Rq [Ab 5 3 0,Ac 6 5,Fo 7 6 (-1),Aa 8 7,Ar 9 3 0 8,Ao 10 9 8,Au 11 0 8,Bz 12 10 11 8,Aq 13 8 12,Aa 14 13,Ar 15 3 1 14,Ao 16 15 14,Hm 17 16 (-1000000) 14,Aq 18 14 17,Aa 19 18,Ar 20 3 1 19,Ao 21 20 19,Cd 22 21 1000000 19,Aq 23 19 22] [23]<|Co 23 (Rq [Ad 4 6] [4]<|.ret)<|Sk [])<|Rq [Ad 4 0] [4]<|.ret) [.tmp 4]:=by decide +kernel
instance sN (n:Int) (t:Term):Ct prog (I7 n t) 226 [eI n,Pa t] (fun r=>.sh (eI r)):=Fi kw fun r h hw hR=>by
  unfold I7 at h
  exact au
theorem ju:CK f166 (Rq [Ag 3 1,Ad 4 0] [0,3]<|Sq (Rq [Ab 6 3 0,Ac 7 6,Aw 8 7 1,Aa 9 8,Ay 10 3 0 9,Az 11 10 9,Gg 12 11 2 9,Ap 13 9 12] [0,3,13]<|Co 13 (Rq [Ad 4 1] [4]<|.ret)<|Sk [0,3])<|Sq (Rq [Aa 14 0,Ab 15 3 1,Ae 16 15 2,Av 17 226 14 16,Aa 5 17] [0,3,5]<|Rq [Aa 18 5,Aw 19 18 0] [0,3,5,19]<|Co 19 (Rq [Aa 20 5,Aa 4 20] [4]<|.ret)<|Sk [0,3])<|Rq [Aa 21 0,Ab 22 3 3,Ae 23 22 2,Av 24 226 21 23,Aa 4 24] [4]<|.ret) [.tmp 4]:=by decide +kernel
instance rO (n:Int) (x_1:Test):Ct prog (M2 n x_1) 166 [eI n,Ln x_1] (fun r=>.sh (eI r)):=Fi ju fun r h hw hR=>by
  unfold M2 at h
  exact au
theorem px:CK f99 (Rq [Ad 4 0] [0,1]<|Sq (Rq [Aa 7 0,Ce 8 7 0,Aa 9 8,Au 10 0 9,Cd 11 10 12 9,Aq 12 9 11] [0,1,12]<|Co 12 (Rq [Ad 4 6] [4]<|.ret)<|Sk [0,1])<|Sq (Rq [Aa 13 1,Ah 14 13,Bk 15 14 40] [0,1,15]<|Co 15 (Rq [Ad 4 3] [4]<|.ret)<|Sk [0,1])<|Sq (Rq [Ad 5 0] [0,1,5]<|Bl 0<|Lo [0,1,5]<|Sq (Rq [Aa 16 5,Aa 17 1,Ah 18 17,Am 19 16 18] [0,1,5,19]<|Co 19 (Sk [0,1,5])<|Ex 0 [])<|Sq (Bl 1<|Rq [Aa 22 0,Aa 23 1,Aa 24 5,Ai 25 23 24 5,Ae 26 25 5,Av 27 166 22 26,Aa 6 27] [0,1,5,6]<|Rq [Aa 28 6,Aw 29 28 0] [0,1,5,6,29]<|Co 29 (Rq [Aa 30 6,Aa 4 30] [4]<|.ret)<|Sk [0,1,5])<|Re [Aa 20 5,Al 21 20 1,Aa 5 21] [0,1,5])<|Rq [Ad 4 0] [4]<|.ret) [.tmp 4]:=by decide +kernel
instance uw (n:Int) (l:List Test):Ct prog (K1 n l) 99 [eI n,lT l] (fun r=>.sh (eI r)):=Fi px fun r h hw hR=>by
  unfold K1 at h
  have:HA 0 5 1 0 fun (i0:Int) (_:Unit)=>[(5,.tv (eI i0))]:=⟨⟩
  exact au
theorem im:CK f100 (Rq [Ag 2 0,Aj 4] [1,2]<|Sq (Rq [Ad 5 0] [1,2,5]<|Bl 0<|Lo [1,2,5]<|Sq (Rq [Aa 6 5,Ab 7 2 2,Ac 8 7,Ah 9 8,Am 10 6 9] [1,2,5,10]<|Co 10 (Sk [1,2,5])<|Ex 0 [])<|Sq (Bl 1<|Rq [Ab 13 2 2,Ac 14 13,Aa 15 5,Ai 16 14 15 4,Af 17 16 2,Af 18 17 0,Ac 19 18,Aa 20 1,Cy 21 19 20] [1,2,5,21]<|Co 21 (Rq [Bx 4] [4]<|.ret)<|Sk [1,2,5])<|Re [Aa 11 5,Al 12 11 1,Aa 5 12] [1,2,5])<|Rq [Aj 4] [4]<|.ret) [.tmp 4]:=by decide +kernel
instance qL (p:Pattern) (v_1:Int):Ct prog (KS p v_1) 100 [BA p,eI v_1] (fun r=>.sh (eB r)):=Fi im fun r h hw hR=>by
  unfold KS at h
  have:HA 0 5 2 2 fun (i0:Int) (_:Unit)=>[(5,.tv (eI i0))]:=⟨⟩
  exact au
theorem oz:CK f42 (Rq [Ag 2 0,Ag 3 1,Ad 4 0] [2,3]<|Sq (Rq [Ae 15 2 2,Ba 16 94 15,Aa 14 16,An 17 14 0,An 18 14 1,Aa 5 17,Aa 6 18] [2,3,6]<|Rq [Aa 19 6,Aw 20 19 0] [2,3,6,20]<|Co 20 (Rq [Aa 21 6,Aa 4 21] [4]<|.ret)<|Sk [2,3])<|Sq (Rq [Ab 22 3 0,Ae 23 22 2,Ba 24 95 23,Aa 7 24] [2,3,7]<|Rq [Aa 25 7,Aw 26 25 0] [2,3,7,26]<|Co 26 (Rq [Aa 27 7,Aa 4 27] [4]<|.ret)<|Sk [2,3])<|Sq (Rq [Ae 28 2 2,Ab 29 3 0,Ae 30 29 2,Av 31 96 28 30,Be 32 31] [2,3,32]<|Co 32 (Rq [Ad 4 13] [4]<|.ret)<|Sk [2,3])<|Sq (Rq [Ab 33 3 3,Ac 34 33,Ce 35 34 0,Aa 36 35,Ar 37 3 3 36,Ao 38 37 36,Cd 39 38 12 36,Aq 40 36 39] [2,3,40]<|Co 40 (Rq [Ad 4 6] [4]<|.ret)<|Sk [2,3])<|Sq (Rq [Ab 41 3 2,Ac 42 41,Ah 43 42,Bk 44 43 10,Aa 45 44,Ar 46 3 4 45,Ao 47 46 45,Bi 48 47 45,Cd 49 48 10 45,Aq 50 45 49] [2,3,50]<|Co 50 (Rq [Ad 4 3] [4]<|.ret)<|Sk [2,3])<|Sq (Rq [Ad 8 0] [2,3,8]<|Bl 0<|Lo [2,3,8]<|Sq (Rq [Aa 51 8,Ab 52 3 2,Ac 53 52,Ah 54 53,Am 55 51 54] [2,3,8,55]<|Co 55 (Sk [2,3,8])<|Ex 0 [3])<|Sq (Bl 1<|Rq [Ab 58 3 2,Ac 59 58,Aa 60 8,Ai 61 59 60 4,Ae 62 61 4,Dz 9 0 0 0 0,Ak 4 9 62] [2,3,8,9]<|Rq [Ae 64 2 2,Ae 65 3 5,Ab 66 9 0,Ac 67 66,Ab 68 9 1,Ac 69 68,Cq 70 97 64 65 67 69,Aa 63 70,An 71 63 0,An 72 63 1,Dy 10 0 0 1,Ak 4 10 71,Aa 11 72] [2,3,8,9,11]<|Rq [Aa 73 11,Be 74 73,Aa 75 74,Ar 76 9 2 75,Bn 77 76 0 75,Ao 78 77 75,Hm 79 78 (-1) 75,Aq 80 75 79,Aa 81 80,Ar 82 9 2 81,Bn 83 82 0 81,Ao 84 83 81,Ar 85 3 3 81,Ao 86 85 81,Bz 87 84 86 81,Aq 88 81 87,Aa 89 88,Ar 90 9 2 89,Bn 91 90 1 89,Ao 92 91 89,Ds 93 98 92 89,Bs 94 93 89,Aq 95 89 94] [2,3,8,95]<|Co 95 (Rq [Ad 4 6] [4]<|.ret)<|Sk [2,3,8])<|Re [Aa 56 8,Al 57 56 1,Aa 8 57] [2,3,8])<|Sq (Rq [Ab 96 3 3,Ac 97 96,Ab 98 3 4,Ac 99 98,Av 100 99 97 99,Aa 12 100] [3,12]<|Rq [Aa 101 12,Aw 102 101 0] [3,12,102]<|Co 102 (Rq [Aa 103 12,Aa 4 103] [4]<|.ret)<|Sk [3])<|Sq (Rq [Ad 13 0] [3,13]<|Bl 2<|Lo [3,13]<|Sq (Rq [Aa 104 13,Ab 105 3 3,Ac 106 105,Am 107 104 106] [3,13,107]<|Co 107 (Sk [3,13])<|Ex 2 [])<|Sq (Bl 3<|Rq [Ae 110 3 5,Aa 111 13,Av 112 100 110 111,Be 113 112] [3,13,113]<|Co 113 (Rq [Ad 4 9] [4]<|.ret)<|Sk [3,13])<|Re [Aa 108 13,Al 109 108 1,Aa 13 109] [3,13])<|Rq [Ad 4 0] [4]<|.ret) [.tmp 4]:=by decide +kernel
instance uB (t:Types) (p:Pattern):Ct prog (FV t p) 42 [AU t,BA p] (fun r=>.sh (eI r)):=Fi oz fun r h hw hR=>by
  unfold FV at h
  have:HA 0 8 3 2 fun (i0:Int) (_:Unit)=>[(8,.tv (eI i0))]:=⟨⟩
  have:HA 2 13 3 3 fun (i2:Int) (_:Unit)=>[(13,.tv (eI i2))]:=⟨⟩
  exact au
theorem kx:CK f227 (Rq [Ag 1 0,Aj 2] [1]<|Rq [Ab 4 1 2,Af 5 4 0,Ac 6 5,Ah 7 6,Ab 8 1 2,Af 9 8 1,Ac 10 9,Ah 11 10,Bo 12 7 11,Ab 13 1 4,Af 14 13 0,Af 15 14 0,Ac 16 15,Ah 17 16,Bo 18 12 17,Ab 19 1 4,Af 20 19 0,Af 21 20 1,Ac 22 21,Ah 23 22,Bo 24 18 23,Bc 25 24 0,Aa 3 25] [1,3]<|Rq [Aa 26 3,Aa 27 26,Ay 28 1 4 27,By 29 28 2 27,Az 30 29 27,Bv 31 30 27,Ay 32 1 4 27,By 33 32 4 27,Az 34 33 27,Bv 35 34 27,Fz 36 31 35 27,Cv 37 36 0 27,Ap 38 27 37,Aa 39 38,Ay 40 1 4 39,By 41 40 3 39,Az 42 41 39,Cv 43 42 0 39,Ap 44 39 43,Aa 2 44] [2]<|.ret) [.tmp 2]:=by decide +kernel
instance sO (c:AA):Ct prog (H9 c) 227 [AJ c] (fun r=>.sh (eB r)):=Fi kx fun r h hw hR=>by
  unfold H9 at h
  exact au
theorem jv:CK f167 (Rq [Ag 1 0,Aj 2] [1]<|Sq (Rq [Ab 3 1 0,Ac 4 3] [1,4]<|Bl 0<|Rq [Bc 6 4 1,Aa 5 6] [1,4,5]<|Co 5 (Rq [Ab 7 1 1,Ac 8 7,Ah 9 8,Bc 10 9 0,Aa 11 10,Bg 12 1 9 11,Ca 13 227 12 11,Ap 14 11 13,Aa 2 14] [2]<|.ret)<|Rq [Bc 16 4 2,Aa 15 16] [1,4,15]<|Co 15 (Rq [Ab 17 1 1,Ac 18 17,Ah 19 18,Bc 20 19 1,Aa 21 20,Bg 22 1 9 21,Ca 23 227 22 21,Ap 24 21 23,Aa 2 24] [2]<|.ret)<|Sq (Rq [Bc 26 4 3,Aa 25 26] [1,4,25]<|Co 25 (Sk [1,4,25])<|Re [Bc 27 4 4,Aa 25 27] [1,4,25])<|Co 25 (Rq [Ab 28 1 1,Ac 29 28,Ah 30 29,Bk 31 30 0,Aa 32 31,Bg 33 1 9 32,Ca 34 227 33 32,Ap 35 32 34,Aa 2 35] [2]<|.ret)<|Rq [Bc 37 4 5,Aa 36 37] [1,36]<|Co 36 (Rq [Ab 38 1 1,Ac 39 38,Ah 40 39,Bc 41 40 1,Aa 2 41] [2]<|.ret)<|Sk [])<|Rq [Aj 2] [2]<|.ret) [.tmp 2]:=by decide +kernel
instance rP (c:AA):Ct prog (LA c) 167 [AJ c] (fun r=>.sh (eB r)):=Fi jv fun r h hw hR=>by
  unfold LA at h
  have:HJ 25 fun (w1:Bool)=>[(25,.tv (eB w1))]:=⟨⟩
  exact au
theorem io:CK f101 (Rq [Ag 1 0,Aj 2] [1]<|Sq (Rq [Ae 4 1 9,Ba 5 167 4,Be 6 5] [1,6]<|Co 6 (Rq [Aj 2] [2]<|.ret)<|Sk [1])<|Sq (Rq [Ad 3 0] [1,3]<|Bl 0<|Lo [1,3]<|Sq (Rq [Aa 7 3,Ab 8 1 1,Ac 9 8,Ah 10 9,Am 11 7 10] [1,3,11]<|Co 11 (Sk [1,3])<|Ex 0 [])<|Sq (Bl 1<|Rq [Ab 14 1 1,Ac 15 14,Aa 16 3,Ai 17 15 16 9,Ae 18 17 9,Ba 19 101 18,Be 20 19] [1,3,20]<|Co 20 (Rq [Aj 2] [2]<|.ret)<|Sk [1,3])<|Re [Aa 12 3,Al 13 12 1,Aa 3 13] [1,3])<|Rq [Bx 2] [2]<|.ret) [.tmp 2]:=by decide +kernel
theorem iO (n:Nat) (_ih_101:∀ (c:AA),Ct prog (E1 n c) 101 [AJ c] (fun r=>.sh (eB r))) (c:AA):Ct prog (E1 (n+1) c) 101 [AJ c] (fun r=>.sh (eB r)):=Fi io fun r h hw hR=>by
  unfold E1 at h
  have:HA 0 3 1 1 fun (i0:Int) (_:Unit)=>[(3,.tv (eI i0))]:=⟨⟩
  exact au
theorem iN:∀ n:Nat,(∀ (c:AA),Ct prog (E1 n c) 101 [AJ c] (fun r=>.sh (eB r))):=by
  intro n
  induction n with
  | zero=>exact (fun c=>⟨fun _ h=>by cases h⟩)
  | succ n ih=>exact iO n ih
instance qM (c:AA):Ct prog (Ma c) 101 [AJ c] (fun r=>.sh (eB r)):=⟨fun r h=>by
  obtain ⟨N,hN⟩:=DK h
  exact ((iN N) c).snd r (hN N (Nat.le_refl _))⟩
theorem ip:CK f102 (Rq [Ag 1 0,Ad 2 0,Ad 3 0] [1]<|Rq [Ad 4 1,Ad 5 0] [1,4,5]<|Sq (Rq [Ad 6 0] [1,4,5,6]<|Bl 0<|Lo [1,4,5,6]<|Sq (Rq [Aa 9 6,Ab 10 1 1,Ac 11 10,Ah 12 11,Am 13 9 12] [1,4,5,6,13]<|Co 13 (Sk [1,4,5,6])<|Ex 0 [1,4,5])<|Sq (Bl 1<|Rq [Ab 17 1 1,Ac 18 17,Aa 19 6,Ai 20 18 19 9,Ae 21 20 9,Ba 22 102 21,Aa 16 22,An 23 16 0,An 24 16 1,Aa 7 23,Aa 8 24] [1,4,5,6,7,8]<|Re [Aa 25 4,Aa 26 7,Bo 27 25 26,Aa 28 5,Aa 29 8,Gh 30 28 29,Aa 4 27,Aa 5 30] [1,4,5,6])<|Re [Aa 14 6,Al 15 14 1,Aa 6 15] [1,4,5,6])<|Sq (Rq [Ab 31 1 0,Ac 32 31,Bc 33 32 5] [4,5,33]<|Co 33 (Re [Aa 34 5,Al 35 34 1,Aa 5 35] [4,5])<|Sk [4,5])<|Rq [Aa 36 4,Aa 37 5,Aa 2 36,Aa 3 37] [2,3]<|.ret) [.tmp 2,.tmp 3]:=by decide +kernel
theorem iQ (n:Nat) (_ih_102:∀ (c:AA),Ct prog (FM n c) 102 [AJ c] (fun r=>.tp [eI r.1,eI r.2])) (c:AA):Ct prog (FM (n+1) c) 102 [AJ c] (fun r=>.tp [eI r.1,eI r.2]):=Fi ip fun r h hw hR=>by
  unfold FM at h
  have:HA 0 6 1 1 fun (i0:Int) (s0:Int × Int)=>[(4,.tv (eI s0.1)),(5,.tv (eI s0.2)),(6,.tv (eI i0))]:=⟨⟩
  have:HJ 33 fun (w1:Int)=>[(5,.tv (eI w1))]:=⟨⟩
  exact au
theorem iP:∀ n:Nat,(∀ (c:AA),Ct prog (FM n c) 102 [AJ c] (fun r=>.tp [eI r.1,eI r.2])):=by
  intro n
  induction n with
  | zero=>exact (fun c=>⟨fun _ h=>by cases h⟩)
  | succ n ih=>exact iQ n ih
instance qN (c:AA):Ct prog (NJ c) 102 [AJ c] (fun r=>.tp [eI r.1,eI r.2]):=⟨fun r h=>by
  obtain ⟨N,hN⟩:=DK h
  exact ((iP N) c).snd r (hN N (Nat.le_refl _))⟩
theorem o0:CK f43 (Rq [Ag 1 0,Ad 2 0] [1]<|Sq (Rq [Ae 5 1 9,Ba 6 101 5,Be 7 6] [1,7]<|Co 7 (Rq [Ad 2 1] [2]<|.ret)<|Sk [1])<|Sq (Rq [Ae 9 1 9,Ba 10 102 9,Aa 8 10,An 11 8 0,An 12 8 1,Aa 3 11,Aa 4 12] [3,4]<|Rq [Aa 13 3,Bk 14 13 12,Aa 15 14,Au 16 4 15,Cd 17 16 3 15,Aq 18 15 17] [18]<|Co 18 (Rq [Ad 2 3] [2]<|.ret)<|Sk [])<|Rq [Ad 2 0] [2]<|.ret) [.tmp 2]:=by decide +kernel
instance uC (c:AA):Ct prog (K8 c) 43 [AJ c] (fun r=>.sh (eI r)):=Fi o0 fun r h hw hR=>by
  unfold K8 at h
  exact au
theorem jw:CK f168 (Rq [Ag 2 0,Aj 4] [1,2]<|Sq (Rq [Ad 5 0] [1,2,5]<|Bl 0<|Lo [1,2,5]<|Sq (Rq [Aa 6 5,Ab 7 2 2,Ac 8 7,Ah 9 8,Am 10 6 9] [1,2,5,10]<|Co 10 (Sk [1,2,5])<|Ex 0 [])<|Sq (Bl 1<|Rq [Ab 13 2 2,Ac 14 13,Aa 15 5,Ai 16 14 15 4,Af 17 16 2,Af 18 17 0,Ac 19 18,Aa 20 1,Cy 21 19 20] [1,2,5,21]<|Co 21 (Rq [Bx 4] [4]<|.ret)<|Sk [1,2,5])<|Re [Aa 11 5,Al 12 11 1,Aa 5 12] [1,2,5])<|Rq [Aj 4] [4]<|.ret) [.tmp 4]:=by decide +kernel
instance rQ (p:Pattern) (v_1:Int):Ct prog (MC p v_1) 168 [BA p,eI v_1] (fun r=>.sh (eB r)):=Fi jw fun r h hw hR=>by
  unfold MC at h
  have:HA 0 5 2 2 fun (i0:Int) (_:Unit)=>[(5,.tv (eI i0))]:=⟨⟩
  exact au
theorem iq:CK f103 (Rq [Ag 3 0,Ag 5 2,Ad 6 0] [1,3,5]<|Sq (Rq [Ab 9 5 3,Ac 10 9,Aa 11 1,Am 12 10 11] [1,3,5,12]<|Co 12 (Rq [Ad 6 20] [6]<|.ret)<|Sk [1,3,5])<|Rq [Ae 13 3 2,Ae 14 5 5,Av 15 42 13 14,Aa 7 15] [1,5,7]<|Sq (Rq [Aa 16 7,Aw 17 16 9] [1,5,7,17]<|Co 17 (Rq [Aa 18 7,Aa 6 18] [6]<|.ret)<|Sk [1,5,7])<|Sq (Rq [Aa 19 1,Aa 8 19] [5,7,8]<|Bl 0<|Lo [5,7,8]<|Sq (Rq [Aa 20 8,Ab 21 5 3,Ac 22 21,Am 23 20 22] [5,7,8,23]<|Co 23 (Sk [5,7,8])<|Ex 0 [])<|Sq (Bl 1<|Rq [Ae 26 5 5,Aa 27 8,Av 28 168 26 27,Be 29 28] [5,7,8,29]<|Co 29 (Rq [Aa 30 7,Aa 6 30] [6]<|.ret)<|Sk [5,7,8])<|Re [Aa 24 8,Al 25 24 1,Aa 8 25] [5,7,8])<|Rq [Ad 6 0] [6]<|.ret) [.tmp 6]:=by decide +kernel
instance qO (t:Types) (vars:Int) (q:Pattern):Ct prog (K9 t vars q) 103 [AU t,eI vars,BA q] (fun r=>.sh (eI r)):=Fi iq fun r h hw hR=>by
  unfold K9 at h
  have:HA 0 8 5 3 fun (i0:Int) (_:Unit)=>[(8,.tv (eI i0))]:=⟨⟩
  exact au
theorem ir:CK f104 (Rq [Ag 3 0,Ag 4 1,Ag 5 2,Ad 6 0] [3,4,5]<|Sq (Rq [Ae 13 3 2,Ba 14 95 13,Aa 7 14] [3,4,5,7]<|Rq [Aa 15 7,Aw 16 15 0] [3,4,5,7,16]<|Co 16 (Rq [Aa 17 7,Aa 6 17] [6]<|.ret)<|Sk [3,4,5])<|Sq (Rq [Ae 18 4 2,Ba 19 95 18,Aa 8 19] [3,4,5,8]<|Rq [Aa 20 8,Aw 21 20 0] [3,4,5,8,21]<|Co 21 (Rq [Aa 22 8,Aa 6 22] [6]<|.ret)<|Sk [3,4,5])<|Sq (Rq [Ab 23 5 0,Ac 24 23,Ah 25 24,Ab 26 3 0,Ac 27 26,Ah 28 27,Br 29 25 28,Aa 30 29,Ar 31 5 1 30,Ao 32 31 30,Bi 33 32 30,Ar 34 3 1 30,Ao 35 34 30,Bi 36 35 30,Cp 37 33 36 30,Aq 38 30 37] [3,4,5,38]<|Co 38 (Rq [Ad 6 20] [6]<|.ret)<|Sk [3,4,5])<|Sq (Rq [Ad 9 0] [3,4,5,9]<|Bl 0<|Lo [3,4,5,9]<|Sq (Rq [Aa 39 9,Ab 40 3 0,Ac 41 40,Ah 42 41,Am 43 39 42] [3,4,5,9,43]<|Co 43 (Sk [3,4,5,9])<|Ex 0 [3,4,5])<|Sq (Bl 1<|Sq (Sq (Dr [46,47,48,49,50,51,52,53,54,55,56,57,58,59,60,61,62] [Ab 46 5 0,Ac 47 46,Aa 48 9,Ai 49 47 48 1,Ac 50 49,Ce 51 50 0,Aa 52 51,Ar 53 5 0 52,Ao 54 53 52,Au 55 9 52,Cb 56 54 55 1 52,Ao 57 56 52,Ar 58 4 0 52,Ao 59 58 52,Bi 60 59 52,Bz 61 57 60 52,Aq 62 52 61] [3,4,5,9,62])<|Co 62 (Rq [Ad 6 6] [6]<|.ret)<|Sk [3,4,5,9])<|Sq (Dr [63,64,65,66,67,68,69,70,71,72,73,74,75,76,77] [Ab 63 4 0,Ac 64 63,Ab 65 5 0,Ac 66 65,Aa 67 9,Ai 68 66 67 1,Ac 69 68,Ai 70 64 69 1,Ac 71 70,Ab 72 3 0,Ac 73 72,Aa 74 9,Ai 75 73 74 1,Ac 76 75,Br 77 71 76] [3,4,5,9,77])<|Co 77 (Rq [Ad 6 13] [6]<|.ret)<|Sk [3,4,5,9])<|Re [Aa 44 9,Al 45 44 1,Aa 9 45] [3,4,5,9])<|Sq (Rq [Ad 10 0] [3,4,5,10]<|Bl 2<|Lo [3,4,5,10]<|Sq (Rq [Aa 78 10,Ab 79 3 1,Ac 80 79,Ah 81 80,Am 82 78 81] [3,4,5,10,82]<|Co 82 (Sk [3,4,5,10])<|Ex 2 [])<|Sq (Bl 3<|Sq (Sq (Dr [85,86,87,88,89,90,91,92,93,94,95,96,97,98,99,100,101] [Ab 85 5 1,Ac 86 85,Aa 87 10,Ai 88 86 87 1,Ac 89 88,Ce 90 89 0,Aa 91 90,Ar 92 5 1 91,Ao 93 92 91,Au 94 10 91,Cb 95 93 94 1 91,Ao 96 95 91,Ar 97 4 1 91,Ao 98 97 91,Bi 99 98 91,Bz 100 96 99 91,Aq 101 91 100] [3,4,5,10,101])<|Co 101 (Rq [Ad 6 6] [6]<|.ret)<|Sk [3,4,5,10])<|Sq (Dr [11,12,102,103,104,105,106,107,108,109,110,111,112,113,114,115] [Ab 102 3 1,Ac 103 102,Aa 104 10,Ai 105 103 104 3,Ae 106 105 3,Ab 107 4 1,Ac 108 107,Ab 109 5 1,Ac 110 109,Aa 111 10,Ai 112 110 111 1,Ac 113 112,Ai 114 108 113 3,Ae 115 114 3,Ck 11 0 0 0,Ck 12 0 0 0,Ak 3 11 106,Ak 3 12 115] [3,4,5,10,11,12])<|Sq (Rq [Ab 116 11 0,Ac 117 116,Ab 118 12 0,Ac 119 118,Br 120 117 119] [3,4,5,10,11,12,120]<|Co 120 (Rq [Ad 6 13] [6]<|.ret)<|Sk [3,4,5,10,11,12])<|Sq (Dr [121,122,123,124,125,126,127,128,129,130,131,132,133,134,135,136,137,138,139,140] [Ab 121 5 0,Ac 122 121,Ab 123 11 1,Ac 124 123,Ai 125 122 124 1,Ac 126 125,Ab 127 12 1,Ac 128 127,Br 129 126 128,Aa 130 129,Ar 131 5 0 130,Ao 132 131 130,Ar 133 11 2 130,Ao 134 133 130,Cb 135 132 134 1 130,Ao 136 135 130,Ar 137 12 2 130,Ao 138 137 130,Cp 139 136 138 130,Aq 140 130 139] [3,4,5,10,140])<|Co 140 (Rq [Ad 6 11] [6]<|.ret)<|Sk [3,4,5,10])<|Re [Aa 83 10,Al 84 83 1,Aa 10 84] [3,4,5,10])<|Rq [Ad 6 0] [6]<|.ret) [.tmp 6]:=by decide +kernel
instance qP (a:Graph) (b:Graph) (m:Morphism):Ct prog (Jv a b m) 104 [B3 a,B3 b,BN m] (fun r=>.sh (eI r)):=Fi ir fun r h hw hR=>by
  unfold Jv at h
  have:HA 0 9 3 0 fun (i0:Int) (_:Unit)=>[(9,.tv (eI i0))]:=⟨⟩
  have:HA 2 10 3 1 fun (i2:Int) (_:Unit)=>[(10,.tv (eI i2))]:=⟨⟩
  exact au
theorem jx:CK f169 (Rq [Aj 2] [0]<|Sq (Rq [Ad 3 0] [0,3]<|Bl 0<|Lo [0,3]<|Sq (Rq [Aa 5 3,Aa 6 0,Ah 7 6,Am 8 5 7] [0,3,8]<|Co 8 (Sk [0,3])<|Ex 0 [])<|Sq (Bl 1<|Rq [Ad 4 0] [0,3,4]<|Bl 2<|Lo [0,3,4]<|Sq (Rq [Aa 11 4,Aa 12 3,Am 13 11 12] [0,3,4,13]<|Co 13 (Sk [0,3,4])<|Ex 2 [0,3])<|Sq (Bl 3<|Sq (Dr [16,17,18,19,20,21,22,23,24] [Aa 16 0,Aa 17 3,Ai 18 16 17 1,Ac 19 18,Aa 20 0,Aa 21 4,Ai 22 20 21 1,Ac 23 22,Cy 24 19 23] [0,3,4,24])<|Co 24 (Rq [Aj 2] [2]<|.ret)<|Sk [0,3,4])<|Re [Aa 14 4,Al 15 14 1,Aa 4 15] [0,3,4])<|Re [Aa 9 3,Al 10 9 1,Aa 3 10] [0,3])<|Rq [Bx 2] [2]<|.ret) [.tmp 2]:=by decide +kernel
instance rR (l:List Int):Ct prog (H3 l) 169 [lI l] (fun r=>.sh (eB r)):=Fi jx fun r h hw hR=>by
  unfold H3 at h
  have:HA 0 3 0 0 fun (i0:Int) (_:Unit)=>[(3,.tv (eI i0))]:=⟨⟩
  have:HA 2 4 3 0 fun (i2:Int) (_:Unit)=>[(4,.tv (eI i2))]:=⟨⟩
  exact au
theorem iu:CK f105 (Rq [Ag 3 0,Ag 4 1,Ag 5 2,Aj 6] [3,4,5]<|Rq [Ae 7 3 2,Ae 8 4 2,Ae 9 5 2,Bf 10 104 7 8 9,Bc 11 10 0,Aa 12 11,Ay 13 5 0 12,Az 14 13 12,Ca 15 169 14 12,Ap 16 12 15,Aa 17 16,Ay 18 5 1 17,Az 19 18 17,Ca 20 169 19 17,Ap 21 17 20,Aa 6 21] [6]<|.ret) [.tmp 6]:=by decide +kernel
instance qQ (a:Graph) (b:Graph) (m:Morphism):Ct prog (Ic a b m) 105 [B3 a,B3 b,BN m] (fun r=>.sh (eB r)):=Fi iu fun r h hw hR=>by
  unfold Ic at h
  exact au
theorem o1:CK f44 (Rq [Ag 3 0,Ag 4 1,Ag 5 2,Ad 6 0] [3,4,5]<|Rq [Ae 12 4 5,Dd 7 1 3 4 0 5,Ak 5 7 12] [3,4,5,7]<|Sq (Rq [Ab 13 5 0,Ac 14 13,Bc 15 14 5] [3,4,5,7,15]<|Co 15 (Sq (Rq [Ae 16 3 2,Ab 17 4 3,Ac 18 17,Ab 19 5 4,Ae 20 19 5,Bf 21 103 16 18 20,Aa 8 21] [3,4,5,7,8]<|Rq [Aa 22 8,Aw 23 22 0] [3,4,5,7,8,23]<|Co 23 (Rq [Aa 24 8,Aa 6 24] [6]<|.ret)<|Sk [3,4,5,7])<|Sq (Rq [Ab 25 4 0,Ae 26 25 2,Ab 27 5 4,Af 28 27 0,Ae 29 28 2,Ab 30 5 2,Ae 31 30 2,Bf 32 104 26 29 31,Aa 9 32] [3,4,5,7,9]<|Rq [Aa 33 9,Aw 34 33 0] [3,4,5,7,9,34]<|Co 34 (Rq [Aa 35 9,Aa 6 35] [6]<|.ret)<|Sk [3,4,5,7])<|Sq (Rq [Ab 36 4 0,Ae 37 36 2,Ab 38 5 4,Af 39 38 0,Ae 40 39 2,Ab 41 5 2,Ae 42 41 2,Bf 43 105 37 40 42,Be 44 43] [3,5,7,44]<|Co 44 (Rq [Ad 6 1] [6]<|.ret)<|Sk [3,5,7])<|Re [Ab 45 5 4,Ae 46 45 5,Ak 5 7 46] [3,5,7])<|Sk [3,5,7])<|Sq (Rq [Ad 10 0] [3,5,7,10]<|Bl 0<|Lo [3,5,7,10]<|Sq (Rq [Aa 47 10,Ab 48 5 1,Ac 49 48,Ah 50 49,Am 51 47 50] [3,5,7,10,51]<|Co 51 (Sk [3,5,7,10])<|Ex 0 [])<|Sq (Bl 1<|Sq (Dr [11,54,55,56,57,58,59,60,61] [Ae 54 3 2,Ae 55 7 5,Ab 56 5 1,Ac 57 56,Aa 58 10,Ai 59 57 58 9,Ae 60 59 9,Bf 61 44 54 55 60,Aa 11 61] [3,5,7,10,11])<|Rq [Aa 62 11,Aw 63 62 0] [3,5,7,10,11,63]<|Co 63 (Rq [Aa 64 11,Aa 6 64] [6]<|.ret)<|Sk [3,5,7,10])<|Re [Aa 52 10,Al 53 52 1,Aa 10 53] [3,5,7,10])<|Rq [Ad 6 0] [6]<|.ret) [.tmp 6]:=by decide +kernel
theorem oI (n:Nat) (_ih_44:∀ (t:Types) (p:Pattern) (c:AA),Ct prog (FW n t p c) 44 [AU t,BA p,AJ c] (fun r=>.sh (eI r))) (t:Types) (p:Pattern) (c:AA):Ct prog (FW (n+1) t p c) 44 [AU t,BA p,AJ c] (fun r=>.sh (eI r)):=Fi o1 fun r h hw hR=>by
  unfold FW at h
  have:HA 0 10 5 1 fun (i0:Int) (_:Unit)=>[(10,.tv (eI i0))]:=⟨⟩
  exact au
theorem oH:∀ n:Nat,(∀ (t:Types) (p:Pattern) (c:AA),Ct prog (FW n t p c) 44 [AU t,BA p,AJ c] (fun r=>.sh (eI r))):=by
  intro n
  induction n with
  | zero=>exact (fun t p c=>⟨fun _ h=>by cases h⟩)
  | succ n ih=>exact oI n ih
instance uD (t:Types) (p:Pattern) (c:AA):Ct prog (SP t p c) 44 [AU t,BA p,AJ c] (fun r=>.sh (eI r)):=⟨fun r h=>by
  obtain ⟨N,hN⟩:=DK h
  exact ((oH N) t p c).snd r (hN N (Nat.le_refl _))⟩
theorem oa:CK f16 (Rq [Ag 3 0,Ag 4 1,Ag 5 2,Ad 6 0] [3,4,5]<|Sq (Rq [Ae 9 3 2,Ae 10 4 5,Av 11 42 9 10,Aa 7 11] [3,4,5,7]<|Rq [Aa 12 7,Aw 13 12 0] [3,4,5,7,13]<|Co 13 (Rq [Aa 14 7,Aa 6 14] [6]<|.ret)<|Sk [3,4,5])<|Sq (Rq [Ae 15 5 9,Ba 16 43 15,Aa 8 16] [3,4,5,8]<|Rq [Aa 17 8,Aw 18 17 0] [3,4,5,8,18]<|Co 18 (Rq [Aa 19 8,Aa 6 19] [6]<|.ret)<|Sk [3,4,5])<|Rq [Ae 20 3 2,Ae 21 4 5,Ae 22 5 9,Bf 23 44 20 21 22,Aa 6 23] [6]<|.ret) [.tmp 6]:=by decide +kernel
instance tf (t:Types) (p:Pattern) (c:AA):Ct prog (Jz t p c) 16 [AU t,BA p,AJ c] (fun r=>.sh (eI r)):=Fi oa fun r h hw hR=>by
  unfold Jz at h
  exact au
theorem jM:CK f128 (Rq [Cs 0 0 9 1 1 1 3 4 0 5] [0]<|Rq [Gu 1 0 9 1 1 1 3 4 0 5 0 1 1,Ak 9 0 1] [0]<|.ret) [.cell 0 (some 9)]:=by decide +kernel
instance qq :Ct prog (Kf ) 128 [] (fun r=>.sh (AJ r)):=Fi jM fun r h hw hR=>by
  unfold Kf at h
  exact au
theorem k9:CK f238 (Rq [Bb 2 1] [0]<|Rq [Bb 3 1] [0,3]<|Sq (Rq [Ad 4 0] [0,3,4]<|Bl 0<|Lo [0,3,4]<|Sq (Rq [Aa 5 4,Aa 6 0,Am 7 5 6] [0,3,4,7]<|Co 7 (Sk [0,3,4])<|Ex 0 [3])<|Sq (Bl 1<|Re [Ax 10 3,Aa 11 4,Bh 12 1 11,Bj 13 1 10 12,Ax 3 13] [0,3,4])<|Re [Aa 8 4,Al 9 8 1,Aa 4 9] [0,3,4])<|Rq [Aa 14 3,Ax 2 14] [2]<|.ret) [.tmp 2]:=by decide +kernel
instance sU (n:Int):Ct prog (I6 n) 238 [eI n] (fun r=>.sh (lI r)):=Fi k9 fun r h hw hR=>by
  unfold I6 at h
  have:HA 0 4 0 0 fun (i0:Int) (s0:List Int)=>[(3,.ow (lI s0)),(4,.tv (eI i0))]:=⟨⟩
  exact au
theorem kL:CK f193 (Rq [Ag 1 0,Cc 2 1 1] [1,2]<|Sq (Dr [2,3,4,5,6,7,8,9,10,11] [Ab 3 1 0,Ac 4 3,Ah 5 4,Ba 6 238 5,Ab 7 1 1,Ac 8 7,Ah 9 8,Ba 10 238 9,Di 11 1 1 0 1 6 1 1 10,Ak 2 2 11] [2])<|.ret) [.cell 2 (some 2)]:=by decide +kernel
instance rk (g:Graph):Ct prog (Pv g) 193 [B3 g] (fun r=>.sh (BN r)):=Fi kL fun r h hw hR=>by
  unfold Pv at h
  exact au
theorem kM:CK f194 (Rq [Ag 1 0,Cc 2 1 3] [1,2]<|Sq (Dr [2,3,4,5,6,7,8,9,10,11] [Dc 3 1,Ab 4 1 0,Ac 5 4,Bj 6 1 3 5,Dc 7 3,Ab 8 1 1,Ac 9 8,Bj 10 3 7 9,Gt 11 6 10,Eb 2 2 11] [2])<|.ret) [.cell 2 (some 2)]:=by decide +kernel
instance rl (g:Graph):Ct prog (L4 g) 194 [B3 g] (fun r=>.oag [⟨true,lI r.Nodes⟩,⟨true,lE r.Edges⟩]):=Fi kM fun r h hw hR=>by
  unfold L4 at h
  exact au
theorem jN:CK f129 (Rq [Ag 4 0,Ag 5 1,Dd 8 1 3 4 0 5,Cc 9 1 1] [2,3,4,5,8,9]<|Rq [Ab 17 5 0,Ae 18 17 2,Ba 19 193 18,Cc 10 1 1,Ak 2 10 19] [2,3,4,5,8,9,10]<|Sq (Dr [11,20,21,22,23,24,25] [Ab 20 5 0,Ae 21 20 2,⟨some 22,.callg 194 [.s 21],none⟩,Ab 23 5 3,Ac 24 23,⟨some 25,.bldg [.g 22 0 2,.g 22 1 2,.z ⟨true,.list 4 []⟩,.v (.s 24) 0 1,.z ⟨true,.list 5 []⟩],none⟩,Dd 11 1 3 4 0 5,Eb 5 11 25] [2,3,4,8,9,10,11])<|Rq [Ab 26 11 0,Af 27 26 0,Ac 28 27,Ah 29 28,Aa 12 29] [2,3,4,8,9,10,11,12]<|Sq (Rq [Aa 30 2,Eq 31 30 3,⟨some 32,.bin (.i) .gtr (.s 31) (.c (.int .u8 0)),none⟩] [2,3,4,8,9,10,11,12,32]<|Co 32 (Sq (Dr [33,34,35,36,37,38,39,40,41,42,43,44,45,46] [Ab 33 11 0,Af 34 33 0,Ch 35 34,Aa 36 2,Ff 37 36 4,Bq 38 37,Ab 39 4 0,Ac 40 39,Ah 41 40,Cg 42 38 41,Bh 43 1 42,Bj 44 1 35 43,Ab 45 11 0,Af 46 45 0,Bm 1 46 44] [2,3,4,8,9,10,11,12])<|Re [Aa 47 12,Al 48 47 1,Aa 12 48] [2,3,4,8,9,10,11,12])<|Sk [2,3,4,8,9,10,11,12])<|Sq (Rq [Aa 49 12,Bk 50 49 0,Aa 51 50,As 52 2 51,⟨some 53,.bin (.i) .rem (.s 52) (.c (.int .u8 4)),some (51,true)⟩,⟨some 54,.bin (.i) .gtr (.s 53) (.c (.int .u8 0)),some (51,true)⟩,Ap 55 51 54] [2,3,4,8,9,10,11,12,55]<|Co 55 (Rq [Ad 13 0] [2,3,4,8,9,10,11,12,13]<|Bl 0<|Lo [2,3,4,8,9,10,11,12,13]<|Sq (Rq [Aa 56 13,Ab 57 4 1,Ac 58 57,Ah 59 58,Am 60 56 59] [2,3,4,8,9,10,11,12,13,60]<|Co 60 (Sk [2,3,4,8,9,10,11,12,13])<|Ex 0 [2,3,4,8,9,10,11,12])<|Sq (Bl 1<|Sq (Dr [14,63,64,65,66,67,68,69,70,71,72,73,74,75,76,77] [Aa 63 13,Aa 64 2,Bq 65 64,Bo 66 63 65,Ab 67 4 1,Ac 68 67,Ah 69 68,Cg 70 66 69,Aa 71 3,Bq 72 71,Aa 73 12,Cg 74 72 73,Aa 75 12,Bw 76 75 1,Fv 77 0 0 0 0 1 70 1 1 74 2 1 76,Ck 14 0 0 0,Ak 3 14 77] [2,3,4,8,9,10,11,12,14])<|Sq (Rq [Aa 78 3,Eq 79 78 2,Cn 80 79 1] [2,3,4,8,9,10,11,12,14,80]<|Co 80 (Re [Ab 81 14 2,Ac 82 81,Ab 83 14 1,Ac 84 83,Ab 85 14 1,Bm 1 85 82,Ab 86 14 2,Bm 1 86 84] [2,3,4,8,9,10,11,12,14])<|Sk [2,3,4,8,9,10,11,12,14])<|Rq [Ab 87 11 0,Af 88 87 1,Ch 89 88,Ae 90 14 3,Bh 91 3 90,Bj 92 3 89 91,Ab 93 11 0,Af 94 93 1,Bm 1 94 92] [2,3,4,8,9,10,11,12]<|Ex 0 [2,3,4,8,9,10,11,12])<|Re [Aa 61 13,Al 62 61 1,Aa 13 62] [2,3,4,8,9,10,11,12,13,98,99,100,122,123,124,125])<|Sk [2,3,4,8,9,10,11,12])<|Sq (Rq [Aa 95 12,Bk 96 95 0,Aa 97 96,Ay 98 11 3 97,Az 99 98 97,Dl 100 99 6 97,Ap 101 97 100] [2,3,4,8,9,10,11,12,101]<|Co 101 (Rq [Ab 102 11 0,Af 103 102 0,Ac 104 103,Aa 105 12,Bw 106 105 1,Ai 107 104 106 1,Ac 108 107,Aa 15 108] [2,3,4,8,9,10,11,12,15]<|Rq [Ab 109 11 0,Ae 110 109 2,Aa 111 12,Bw 112 111 1,⟨some 113,.bld [.int .i64 0,.int .i64 0,.int .i64 0,.int .i64 0] [(0,1,.s 112)],none⟩,Bh 114 4 113,Hi 115 1 3 4 0 5 0 2 110 3 1 1 2 1 114,Dd 16 1 3 4 0 5,Ak 5 16 115] [2,3,4,8,9,10,11,12,15,16]<|Rq [Aa 116 15,Ab 117 4 0,Ac 118 117,Ah 119 118,Am 120 116 119,Aa 121 120,Bg 122 4 2 121,Bg 123 16 5 121,Dt 124 42 122 123 121,Cv 125 124 0 121,Ap 126 121 125] [2,3,8,9,10,11,12,126]<|Co 126 (Rq [Ab 127 11 2,Ch 128 127,Aa 129 12,Bw 130 129 1,Ab 131 11 3,Ac 132 131,Aa 133 3,Eq 134 133 3,Bq 135 134,Fg 136 0 0 0 1 132 1 1 135,⟨some 137,.bld [.int .i64 0,.int .i64 0,.int .i64 0,.int .i64 0] [(0,1,.s 130),(2,2,.s 136)],none⟩,Bh 138 4 137,Bj 139 4 128 138,Ab 140 11 2,Bm 1 140 139] [2,3,8,9,10,11]<|Rq [Ab 141 11 3,Ac 142 141,Al 143 142 1,Ab 144 11 3,Bm 1 144 143] [2,3,8,9,10,11]<|Rq [Ab 145 11 3,Ac 146 145,Bk 147 146 1] [2,3,8,9,10,11,147]<|Co 147 (Re [Ab 148 11 4,Ch 149 148,Aa 150 2,Ff 151 150 64,Bq 152 151,Dp 153 152 2,Ee 154 1 153,Fe 155 0 0 0 1 0,Ab 156 11 3,Ac 157 156,Bw 158 157 1,Aa 159 3,Ff 160 159 8,Bq 161 160,Dp 162 161 9,Bw 163 162 4,Fg 164 0 0 0 1 158 1 1 163,Hn 165 0 0 0 0 0 0 1 154 1 2 155 3 2 164,Bh 166 5 165,Bj 167 5 149 166,Ab 168 11 4,Bm 1 168 167] [8,9,10,11])<|Sk [8,9,10,11])<|Sk [8,9,10,11])<|Sk [8,9,10,11])<|Sq (Dr [8,9,169,170] [Ae 169 11 5,Ae 170 10 2,Ak 5 8 169,Ak 2 9 170] [8,9])<|.ret) [.cell 8 (some 5),.cell 9 (some 2)]:=by decide +kernel
instance qr (t:Types) (p:Pattern) (x_2:Int) (y:Int):Ct prog (J0 t p x_2 y) 129 [AU t,BA p,G6 x_2,G6 y] (fun r=>.tp [BA r.1,BN r.2]):=Fi jN fun r h hw hR=>by
  unfold J0 at h
  have:HJ 32 fun (w1:Pattern × Int)=>[(11,.bx [⟨true,lI w1.1.Graph.Nodes⟩,⟨true,lE w1.1.Graph.Edges⟩,⟨true,lS w1.1.Slots⟩,⟨false,eI w1.1.Vars⟩,⟨true,lT w1.1.Tests⟩]),(12,.tv (eI w1.2))]:=⟨⟩
  have:HA 0 13 4 1 fun (i0:Int) (s0:Pattern)=>[(11,.bx [⟨true,lI s0.Graph.Nodes⟩,⟨true,lE s0.Graph.Edges⟩,⟨true,lS s0.Slots⟩,⟨false,eI s0.Vars⟩,⟨true,lT s0.Tests⟩]),(13,.tv (eI i0))]:=⟨⟩
  have:HJ 55 fun (w2:Pattern)=>[(11,.bx [⟨true,lI w2.Graph.Nodes⟩,⟨true,lE w2.Graph.Edges⟩,⟨true,lS w2.Slots⟩,⟨false,eI w2.Vars⟩,⟨true,lT w2.Tests⟩])]:=⟨⟩
  have:HJ 101 fun (w3:Pattern)=>[(11,.bx [⟨true,lI w3.Graph.Nodes⟩,⟨true,lE w3.Graph.Edges⟩,⟨true,lS w3.Slots⟩,⟨false,eI w3.Vars⟩,⟨true,lT w3.Tests⟩])]:=⟨⟩
  exact au
theorem o9:CK f57 (Rq [Ag 4 0,Ag 5 1,Cs 8 0 9 1 1 1 3 4 0 5,Bb 9 1] [2,3,4,5,8]<|Sq (Rq [Aa 19 2,Ah 20 19,Ce 21 20 3] [2,3,4,5,8,21]<|Co 21 (Rq [Ep 22 128,Ak 9 8 22,Bb 9 1] [8,9]<|.ret)<|Sk [2,3,4,5,8])<|Sq (Dr [10,11,12,23,24,25,26,27,28,29,30] [Aa 23 2,Do 24 23 1 1,Ac 25 24,Aa 26 2,Do 27 26 2 1,Ac 28 27,Aa 29 2,⟨some 30,.slc 1 (.s 29) (some (.c (.int .i64 3))) none,none⟩,Aa 10 25,Aa 11 28,Ax 12 30] [2,3,4,5,8,10,11,12])<|Rq [⟨some 31,.bldg [.v (.c (.int .i64 1)) 0 1,.z ⟨true,.list 9 []⟩,.z ⟨true,.list 1 []⟩,.z ⟨true,.list 1 []⟩,.z ⟨true,.list 1 []⟩,.z ⟨true,.list 3 []⟩,.z ⟨true,.list 4 []⟩,.z ⟨false,.int .i64 0⟩,.z ⟨true,.list 5 []⟩],none⟩,Cs 13 0 9 1 1 1 3 4 0 5,Eb 9 13 31] [2,3,4,5,8,10,11,12,13]<|Sq (Rq [Aa 32 2,Do 33 32 0 1,Ac 34 33,Eq 35 34 8] [3,4,5,8,10,11,12,13,35]<|Bl 0<|Sq (Rq [Cn 37 35 1,Aa 36 37] [3,4,5,8,10,11,12,13,35,36]<|Co 36 (Sk [3,4,5,8,10,11,12,13,35,36])<|Re [Cn 38 35 2,Aa 36 38] [3,4,5,8,10,11,12,13,35,36])<|Co 36 (Re [Ab 39 13 0,Er 1 39 2] [3,4,5,8,10,11,12,13])<|Rq [Cn 41 35 3,Aa 40 41] [3,4,5,8,10,11,12,13,35,40]<|Co 40 (Re [Ab 42 13 0,Er 1 42 3] [3,4,5,8,10,11,12,13])<|Rq [Cn 44 35 4,Aa 43 44] [3,4,5,8,10,11,12,13,35,43]<|Co 43 (Re [Ab 45 13 0,Er 1 45 4] [3,4,5,8,10,11,12,13])<|Sq (Rq [Cn 47 35 5,Aa 46 47] [3,4,5,8,10,11,12,13,35,46]<|Co 46 (Sk [3,4,5,8,10,11,12,13,46])<|Rq [Cn 48 35 6,Aa 46 48] [3,4,5,8,10,11,12,13,35,46]<|Co 46 (Sk [3,4,5,8,10,11,12,13,46])<|Re [Cn 49 35 7,Aa 46 49] [3,4,5,8,10,11,12,13,46])<|Co 46 (Re [Ab 50 13 0,Er 1 50 5] [3,4,5,8,10,11,12,13])<|Sk [3,4,5,8,10,11,12,13])<|Rq [Aa 51 10,Bq 52 51,Dp 53 52 2,Ee 54 1 53,Aa 55 10,Bq 56 55,Dp 57 56 2,Ee 58 1 57,⟨some 59,.lst 1 [.c (.int .i64 0),.c (.int .i64 0),.c (.int .i64 1),.s 54,.s 58,.c (.int .i64 1)],none⟩,Ab 60 13 0,Ac 61 60,Ai 62 59 61 1,Ac 63 62,Aa 14 63] [3,4,5,8,10,11,12,13,14]<|Rq [Ae 64 5 5,Dd 15 1 3 4 0 5,Ak 5 15 64] [3,4,5,8,10,11,12,13,14,15]<|Sq (Rq [Ab 65 13 0,Ac 66 65,Bc 67 66 5] [3,4,5,8,10,11,12,13,14,15,67]<|Co 67 (Sq (Rq [Aa 68 3,Bc 69 68 0,Aa 70 69,Ar 71 5 0 70,Bn 72 71 0 70,Ao 73 72 70,Bi 74 73 70,Ar 75 5 0 70,Bn 76 75 1 70,Ao 77 76 70,Bi 78 77 70,Gv 79 74 78 70,Cd 80 79 4 70,Aq 81 70 80] [3,4,5,8,10,11,12,13,14,15,81]<|Co 81 (Rq [Ep 82 128,Aa 83 12,Ak 9 8 82,Ax 9 83] [8,9]<|.ret)<|Sk [3,4,5,8,10,11,12,13,14,15])<|Rq [Ae 85 4 2,Ae 86 5 5,Aa 87 10,Aa 88 11,Cq 89 129 85 86 87 88,Aa 84 89,An 90 84 0,An 91 84 1,Ak 5 15 90,Ab 92 13 2,Bm 2 92 91] [3,4,8,12,13,14,15]<|Rq [Ae 93 15 5,Ab 94 13 4,Bm 5 94 93] [3,4,8,12,13,14,15]<|Re [Aa 95 3,Bw 96 95 1,Aa 3 96] [3,4,8,12,13,14,15])<|Sk [3,4,8,12,13,14,15])<|Sq (Rq [Ad 16 0] [3,4,8,12,13,14,15,16]<|Bl 1<|Lo [3,4,8,12,13,14,15,16]<|Sq (Rq [Aa 97 16,Aa 98 14,Am 99 97 98] [3,4,8,12,13,14,15,16,99]<|Co 99 (Sk [3,4,8,12,13,14,15,16])<|Ex 1 [8,12,13])<|Sq (Bl 2<|Rq [Ae 103 4 2,Ae 104 15 5,Aa 105 12,Aa 106 3,Cq 107 57 103 104 105 106,Aa 102 107,An 108 102 0,An 109 102 1,Cs 17 0 9 1 1 1 3 4 0 5,Ak 9 17 108,Ax 18 109] [3,4,8,13,14,15,16,17,18]<|Re [Ab 110 13 1,Ch 111 110,Ae 112 17 9,Bh 113 9 112,Bj 114 9 111 113,Aa 115 18,Ab 116 13 1,Bm 1 116 114,Ax 12 115] [3,4,8,12,13,14,15,16])<|Re [Aa 100 16,Al 101 100 1,Aa 16 101] [3,4,8,12,13,14,15,16])<|Rq [Ae 117 13 9,Aa 118 12,Ak 9 8 117,Ax 9 118] [8,9]<|.ret) [.cell 8 (some 9),.tmp 9]:=by decide +kernel
theorem oN (n:Nat) (_ih_57:∀ (t:Types) (p:Pattern) (codes:List Int) (depth:Int),Ct prog (C3 n t p codes depth) 57 [AU t,BA p,(eL 1 G6) codes,eI depth] (fun r=>.tp [AJ r.1,(eL 1 G6) r.2])) (t:Types) (p:Pattern) (codes:List Int) (depth:Int):Ct prog (C3 (n+1) t p codes depth) 57 [AU t,BA p,(eL 1 G6) codes,eI depth] (fun r=>.tp [AJ r.1,(eL 1 G6) r.2]):=Fi o9 fun r h hw hR=>by
  unfold C3 at h
  have:HJ 36 fun (w1:Bool)=>[(36,.tv (eB w1))]:=⟨⟩
  have:HJ 36 fun (w2:AA)=>[(13,.bx [⟨false,eI w2.Kind⟩,⟨true,FR w2.Kids⟩,⟨true,lI w2.Map.Nodes⟩,⟨true,lI w2.Map.Edges⟩,⟨true,lI w2.Pattern.Graph.Nodes⟩,⟨true,lE w2.Pattern.Graph.Edges⟩,⟨true,lS w2.Pattern.Slots⟩,⟨false,eI w2.Pattern.Vars⟩,⟨true,lT w2.Pattern.Tests⟩])]:=⟨⟩
  have:HA 1 16 14 0 fun (i1:Int) (s1:List Int × AA)=>[(12,.tv ((eL 1 G6) s1.1)),(13,.bx [⟨false,eI s1.2.Kind⟩,⟨true,FR s1.2.Kids⟩,⟨true,lI s1.2.Map.Nodes⟩,⟨true,lI s1.2.Map.Edges⟩,⟨true,lI s1.2.Pattern.Graph.Nodes⟩,⟨true,lE s1.2.Pattern.Graph.Edges⟩,⟨true,lS s1.2.Pattern.Slots⟩,⟨false,eI s1.2.Pattern.Vars⟩,⟨true,lT s1.2.Pattern.Tests⟩]),(16,.tv (eI i1))]:=⟨⟩
  have:HB 1 16 14 0 fun (i1:Int) (s1:List Int × AA)=>[(12,.tv ((eL 1 G6) s1.1)),(13,.bx [⟨false,eI s1.2.Kind⟩,⟨true,FR s1.2.Kids⟩,⟨false,lI s1.2.Map.Nodes⟩,⟨false,lI s1.2.Map.Edges⟩,⟨false,lI s1.2.Pattern.Graph.Nodes⟩,⟨false,lE s1.2.Pattern.Graph.Edges⟩,⟨false,lS s1.2.Pattern.Slots⟩,⟨false,eI s1.2.Pattern.Vars⟩,⟨false,lT s1.2.Pattern.Tests⟩]),(16,.tv (eI i1))]:=⟨⟩
  exact au
theorem oM:∀ n:Nat,(∀ (t:Types) (p:Pattern) (codes:List Int) (depth:Int),Ct prog (C3 n t p codes depth) 57 [AU t,BA p,(eL 1 G6) codes,eI depth] (fun r=>.tp [AJ r.1,(eL 1 G6) r.2])):=by
  intro n
  induction n with
  | zero=>exact (fun t p codes depth=>⟨fun _ h=>by cases h⟩)
  | succ n ih=>exact oN n ih
instance uL (t:Types) (p:Pattern) (codes:List Int) (depth:Int):Ct prog (Px t p codes depth) 57 [AU t,BA p,(eL 1 G6) codes,eI depth] (fun r=>.tp [AJ r.1,(eL 1 G6) r.2]):=⟨fun r h=>by
  obtain ⟨N,hN⟩:=DK h
  exact ((oM N) t p codes depth).snd r (hN N (Nat.le_refl _))⟩
theorem oh:CK f27 (Rq [Ag 3 0,Ag 4 1,Cs 6 0 9 1 1 1 3 4 0 5] [2,3,4,6]<|Sq (Dr [7,8,9,10,11,12,13,14,15,16,17,18,19] [Ae 10 3 2,Ae 11 4 5,Aa 12 2,Aa 13 2,Ah 14 13,Gx 15 14 15,Du 16 1 12 15,⟨some 17,.call 57 [.s 10,.s 11,.s 16,.c (.int .i64 2)],none⟩,Aa 9 17,An 18 9 0,An 19 9 1,Cs 7 0 9 1 1 1 3 4 0 5,Ak 9 7 18,Ax 8 19] [6,7])<|Rq [Ae 20 7 9,Ak 9 6 20] [6]<|.ret) [.cell 6 (some 9)]:=by decide +kernel
instance tq (t:Types) (p:Pattern) (codes:List Int):Ct prog (MB t p codes) 27 [AU t,BA p,(eL 1 G6) codes] (fun r=>.sh (AJ r)):=Fi oh fun r h hw hR=>by
  unfold MB at h
  exact au
theorem ou:CK f38 (Rq [Ag 1 0,Aj 2] [1]<|Rq [Ab 3 1 0,Ac 4 3,Ah 5 4,Gy 6 5 45,Aa 7 6,Ay 8 1 1 7,Az 9 8 7,Bv 10 9 7,Cl 11 10 90 7,Ap 12 7 11,Aa 2 12] [2]<|.ret) [.tmp 2]:=by decide +kernel
instance t6 (g:Graph):Ct prog (JJ g) 38 [B3 g] (fun r=>.sh (eB r)):=Fi ou fun r h hw hR=>by
  unfold JJ at h
  exact au
theorem oY:CK f14 (Rq [Ag 1 0,Aj 2] [1]<|Rq [Ab 3 1 0,Ae 4 3 2,Ba 5 38 4,Aa 6 5,Ay 7 1 2 6,Az 8 7 6,Bv 9 8 6,Cl 10 9 15 6,Ap 11 6 10,Aa 12 11,Ay 13 1 4 12,Az 14 13 12,Bv 15 14 12,Cl 16 15 15 12,Ap 17 12 16,Aa 2 17] [2]<|.ret) [.tmp 2]:=by decide +kernel
instance td (p:Pattern):Ct prog (LV p) 14 [BA p] (fun r=>.sh (eB r)):=Fi oY fun r h hw hR=>by
  unfold LV at h
  exact au
theorem pN:CK f78 (Rq [Ag 2 0,Aj 4] [1,2]<|Rq [Ab 5 2 0,Ac 6 5,Ah 7 6,Ab 8 2 1,Ac 9 8,Ah 10 9,Bo 11 7 10,Aa 12 1,⟨some 13,.bin (.i) .leq (.s 11) (.s 12),none⟩,Aa 4 13] [4]<|.ret) [.tmp 4]:=by decide +kernel
instance uY (m:Morphism) (n:Int):Ct prog (OK m n) 78 [BN m,eI n] (fun r=>.sh (eB r)):=Fi pN fun r h hw hR=>by
  unfold OK at h
  exact au
theorem ot:CK f37 (Rq [Ag 2 0,Ad 4 0] [1,2]<|Rq [Aa 6 1,Bw 7 6 1,Aa 1 7] [1,2]<|Sq (Rq [Ab 8 2 4,Ae 9 8 5,Ba 10 14 9,Be 11 10,Aa 12 11,Ar 13 2 2 12,Cm 14 13 2 12,⟨some 15,.call 78 [.s 14,.c (.int .i64 140)],some (12,false)⟩,Bs 16 15 12,Aq 17 12 16] [1,2,17]<|Co 17 (Rq [Bt 4 (-1)] [4]<|.ret)<|Sk [1,2])<|Sq (Rq [Ad 5 0] [1,2,5]<|Bl 0<|Lo [1,2,5]<|Sq (Rq [Aa 18 5,Ab 19 2 1,Ac 20 19,Ah 21 20,Am 22 18 21,Aa 23 22,As 24 1 23,Fx 25 24 0 23,Ap 26 23 25] [1,2,5,26]<|Co 26 (Sk [1,2,5])<|Ex 0 [1])<|Sq (Bl 1<|Re [Ab 29 2 1,Ac 30 29,Aa 31 5,Ai 32 30 31 9,Ae 33 32 9,Aa 34 1,Av 35 37 33 34,Aa 1 35] [1,2,5])<|Re [Aa 27 5,Al 28 27 1,Aa 5 28] [1,2,5])<|Rq [Aa 36 1,Aa 4 36] [4]<|.ret) [.tmp 4]:=by decide +kernel
theorem oE (n:Nat) (_ih_37:∀ (c:AA) (most:Int),Ct prog (E5 n c most) 37 [AJ c,eI most] (fun r=>.sh (eI r))) (c:AA) (most:Int):Ct prog (E5 (n+1) c most) 37 [AJ c,eI most] (fun r=>.sh (eI r)):=Fi ot fun r h hw hR=>by
  unfold E5 at h
  have:HW 0 fun (s0:Int × Int)=>[(1,.tv (eI s0.1)),(5,.tv (eI s0.2))]:=⟨⟩
  exact au
theorem oD:∀ n:Nat,(∀ (c:AA) (most:Int),Ct prog (E5 n c most) 37 [AJ c,eI most] (fun r=>.sh (eI r))):=by
  intro n
  induction n with
  | zero=>exact (fun c most=>⟨fun _ h=>by cases h⟩)
  | succ n ih=>exact oE n ih
instance t2 (c:AA) (most:Int):Ct prog (Pw c most) 37 [AJ c,eI most] (fun r=>.sh (eI r)):=⟨fun r h=>by
  obtain ⟨N,hN⟩:=DK h
  exact ((oD N) c most).snd r (hN N (Nat.le_refl _))⟩
theorem oX:CK f13 (Rq [Ag 1 0,Aj 2] [1]<|Rq [Ae 3 1 9,Ew 4 37 3 40,Bp 5 4 0,Aa 2 5] [2]<|.ret) [.tmp 2]:=by decide +kernel
instance tc (c:AA):Ct prog (M5 c) 13 [AJ c] (fun r=>.sh (eB r)):=Fi oX fun r h hw hR=>by
  unfold M5 at h
  exact au
theorem pA:CK f58 (Rq [Ag 1 0,Aj 2] [1]<|Sq (Rq [Ab 4 1 0,Ae 5 4 2,Ba 6 38 5,Be 7 6,Aa 8 7,Ar 9 1 2 8,Ao 10 9 8,Bi 11 10 8,Cd 12 11 45 8,Aq 13 8 12] [1,13]<|Co 13 (Rq [Aj 2] [2]<|.ret)<|Sk [1])<|Sq (Rq [Ad 3 0] [1,3]<|Bl 0<|Lo [1,3]<|Sq (Rq [Aa 14 3,Ab 15 1 2,Ac 16 15,Ah 17 16,Am 18 14 17] [1,3,18]<|Co 18 (Sk [1,3])<|Ex 0 [])<|Sq (Bl 1<|Rq [Ab 21 1 2,Ac 22 21,Aa 23 3,Ai 24 22 23 1,Ac 25 24,Ah 26 25,Bk 27 26 12] [1,3,27]<|Co 27 (Rq [Aj 2] [2]<|.ret)<|Sk [1,3])<|Re [Aa 19 3,Al 20 19 1,Aa 3 20] [1,3])<|Rq [Bx 2] [2]<|.ret) [.tmp 2]:=by decide +kernel
instance uM (h_0:AY):Ct prog (LT h_0) 58 [IV h_0] (fun r=>.sh (eB r)):=Fi pA fun r h hw hR=>by
  unfold LT at h
  have:HA 0 3 1 2 fun (i0:Int) (_:Unit)=>[(3,.tv (eI i0))]:=⟨⟩
  exact au
theorem oW:CK f12 (Rq [Ag 1 0,Aj 2] [1]<|Sq (Rq [Ab 9 1 0,Ac 10 9,Ah 11 10,Bk 12 11 20,Aa 13 12,Ar 14 1 1 13,Ao 15 14 13,Bi 16 15 13,Cd 17 16 30 13,Aq 18 13 17] [1,18]<|Co 18 (Rq [Aj 2] [2]<|.ret)<|Sk [1])<|Rq [Ad 3 0] [1,3]<|Sq (Rq [Ad 4 0] [1,3,4]<|Bl 0<|Lo [1,3,4]<|Sq (Rq [Aa 19 4,Ab 20 1 0,Ac 21 20,Ah 22 21,Am 23 19 22] [1,3,4,23]<|Co 23 (Sk [1,3,4])<|Ex 0 [1])<|Sq (Bl 1<|Rq [Aa 26 3,Ab 27 1 0,Ac 28 27,Aa 29 4,Ai 30 28 29 4,Af 31 30 3,Ac 32 31,Ah 33 32,Bo 34 26 33,Aa 3 34] [1,3,4]<|Sq (Rq [Aa 35 3,Bk 36 35 30,Aa 37 36,Ar 38 1 0 37,Ao 39 38 37,Au 40 4 37,Cb 41 39 40 4 37,Bn 42 41 0 37,Ao 43 42 37,⟨some 44,.slen (.s 43),some (37,false)⟩,Cd 45 44 40 37,Aq 46 37 45] [1,3,4,46]<|Co 46 (Rq [Aj 2] [2]<|.ret)<|Sk [1,3,4])<|Rq [Ad 5 0] [1,3,4,5]<|Bl 2<|Lo [1,3,4,5]<|Sq (Rq [Aa 47 5,Ab 48 1 0,Ac 49 48,Aa 50 4,Ai 51 49 50 4,Af 52 51 3,Ac 53 52,Ah 54 53,Am 55 47 54] [1,3,4,5,55]<|Co 55 (Sk [1,3,4,5])<|Ex 2 [1,3,4])<|Sq (Bl 3<|Rq [Ab 58 1 0,Ac 59 58,Aa 60 4,Ai 61 59 60 4,Af 62 61 3,Ac 63 62,Aa 64 5,Ai 65 63 64 4,Ae 66 65 4,Dy 6 0 0 1,Ak 4 6 66] [1,3,4,5,6]<|Sq (Rq [Ab 67 6 0,Ac 68 67,Cx 69 68,Bk 70 69 40,Aa 71 70,Ar 72 6 3 71,Ao 73 72 71,Bi 74 73 71,Cd 75 74 25 71,Aq 76 71 75] [1,3,4,5,6,76]<|Co 76 (Rq [Aj 2] [2]<|.ret)<|Sk [1,3,4,5,6])<|Rq [Ad 7 0] [1,3,4,5,6,7]<|Bl 4<|Lo [1,3,4,5,6,7]<|Sq (Rq [Aa 77 7,Ab 78 6 3,Ac 79 78,Ah 80 79,Am 81 77 80] [1,3,4,5,6,7,81]<|Co 81 (Sk [1,3,4,5,6,7])<|Ex 4 [1,3,4,5])<|Sq (Bl 5<|Rq [Ab 84 6 3,Ac 85 84,Aa 86 7,Ai 87 85 86 1,Ac 88 87,Cx 89 88,Bk 90 89 40] [1,3,4,5,6,7,90]<|Co 90 (Rq [Aj 2] [2]<|.ret)<|Sk [1,3,4,5,6,7])<|Re [Aa 82 7,Al 83 82 1,Aa 7 83] [1,3,4,5,6,7])<|Re [Aa 56 5,Al 57 56 1,Aa 5 57] [1,3,4,5])<|Re [Aa 24 4,Al 25 24 1,Aa 4 25] [1,3,4])<|Sq (Rq [Ad 8 0] [1,8]<|Bl 6<|Lo [1,8]<|Sq (Rq [Aa 91 8,Ab 92 1 1,Ac 93 92,Ah 94 93,Am 95 91 94] [1,8,95]<|Co 95 (Sk [1,8])<|Ex 6 [])<|Sq (Bl 7<|Rq [Ab 98 1 1,Ac 99 98,Aa 100 8,Ai 101 99 100 7,Af 102 101 0,Ac 103 102,Cx 104 103,Bk 105 104 40] [1,8,105]<|Co 105 (Rq [Aj 2] [2]<|.ret)<|Sk [1,8])<|Re [Aa 96 8,Al 97 96 1,Aa 8 97] [1,8])<|Rq [Bx 2] [2]<|.ret) [.tmp 2]:=by decide +kernel
instance ta (t:Types):Ct prog (M3 t) 12 [AU t] (fun r=>.sh (eB r)):=Fi oW fun r h hw hR=>by
  unfold M3 at h
  have:HA 0 4 1 0 fun (i0:Int) (s0:Int)=>[(3,.tv (eI s0)),(4,.tv (eI i0))]:=⟨⟩
  have:HW 2 fun (s2:Int)=>[(5,.tv (eI s2))]:=⟨⟩
  have:HW 4 fun (s4:Int)=>[(7,.tv (eI s4))]:=⟨⟩
  have:HA 6 8 1 1 fun (i6:Int) (_:Unit)=>[(8,.tv (eI i6))]:=⟨⟩
  exact au
theorem pI:CK f65 (Rq [Ag 3 0,Ag 4 1,Ag 5 2,Ad 6 0] [3,4,5]<|Sq (Rq [Ae 12 3 2,Ba 13 94 12,Aa 11 13,An 14 11 0,An 15 11 1,Aa 7 14,Aa 8 15] [3,4,5,8]<|Rq [Aa 16 8,Aw 17 16 0] [3,4,5,8,17]<|Co 17 (Rq [Aa 18 8,Aa 6 18] [6]<|.ret)<|Sk [3,4,5])<|Sq (Rq [Ae 19 4 2,Ba 20 95 19,Aa 9 20] [3,4,5,9]<|Rq [Aa 21 9,Aw 22 21 0] [3,4,5,9,22]<|Co 22 (Rq [Aa 23 9,Aa 6 23] [6]<|.ret)<|Sk [3,4,5])<|Sq (Rq [Ae 24 5 2,Ba 25 95 24,Aa 10 25] [3,4,5,10]<|Rq [Aa 26 10,Aw 27 26 0] [3,4,5,10,27]<|Co 27 (Rq [Aa 28 10,Aa 6 28] [6]<|.ret)<|Sk [3,4,5])<|Sq (Rq [Ae 29 3 2,Ae 30 4 2,Av 31 96 29 30,Be 32 31,Aa 33 32,Cm 34 3 2 33,Cm 35 5 2 33,Dk 36 96 34 35 33,Bs 37 36 33,Aq 38 33 37] [38]<|Co 38 (Rq [Ad 6 13] [6]<|.ret)<|Sk [])<|Rq [Ad 6 0] [6]<|.ret) [.tmp 6]:=by decide +kernel
instance uT (t:Types) (p:Graph) (g:Graph):Ct prog (Iu t p g) 65 [AU t,B3 p,B3 g] (fun r=>.sh (eI r)):=Fi pI fun r h hw hR=>by
  unfold Iu at h
  exact au
theorem jO:CK f130 (Rq [Ag 3 0,Ag 4 1,Ag 5 2,Aj 6] [3,4,5]<|Rq [Ae 7 3 2,Ba 8 12 7,Aa 9 8,Bg 10 4 2 9,Ca 11 38 10 9,Ap 12 9 11,Aa 13 12,Bg 14 5 2 13,Ca 15 38 14 13,Ap 16 13 15,Aa 17 16,Bg 18 3 2 17,Bg 19 4 2 17,Bg 20 5 2 17,Ej 21 65 18 19 20 17,Gg 22 21 0 17,As 23 22 17,Ar 24 4 0 23,Ao 25 24 23,Bi 26 25 23,Ar 27 4 1 23,Ao 28 27 23,Bi 29 28 23,Gv 30 26 29 23,⟨some 31,.bin (.i) .leq (.s 30) (.c (.int .i64 6)),some (23,false)⟩,Au 32 31 23,Ay 33 5 0 32,Az 34 33 32,Bv 35 34 32,Cl 36 35 8 32,Cf 37 32 36 23,Au 38 37 23,Ay 39 5 1 38,Az 40 39 38,Bv 41 40 38,Cl 42 41 12 38,Cf 43 38 42 23,Eg 44 23 43 17,Ap 45 17 44,Aa 6 45] [6]<|.ret) [.tmp 6]:=by decide +kernel
instance qt (t:Types) (p:Graph) (g:Graph):Ct prog (K5 t p g) 130 [AU t,B3 p,B3 g] (fun r=>.sh (eB r)):=Fi jO fun r h hw hR=>by
  unfold K5 at h
  exact au
theorem pB:CK f59 (Rq [Ag 3 0,Ag 4 1,Ag 5 2,Aj 6] [3,4,5]<|Rq [Ae 7 4 5,Ba 8 14 7,Aa 9 8,Bg 10 5 3 9,Ca 11 58 10 9,Ap 12 9 11,Aa 13 12,Bg 14 3 2 13,Ay 15 4 0 13,Bg 16 15 2 13,Ay 17 5 0 13,Bg 18 17 2 13,Ej 19 130 14 16 18 13,Ap 20 13 19,Aa 6 20] [6]<|.ret) [.tmp 6]:=by decide +kernel
instance uN (t:Types) (p:Pattern) (h_2:AY):Ct prog (Ms t p h_2) 59 [AU t,BA p,IV h_2] (fun r=>.sh (eB r)):=Fi pB fun r h hw hR=>by
  unfold Ms at h
  exact au
theorem pC:CK f60 (Rq [Ag 1 0,Aj 2] [1]<|Sq (Rq [Ad 3 0] [1,3]<|Bl 0<|Lo [1,3]<|Sq (Rq [Aa 4 3,Ab 5 1 1,Ac 6 5,Ah 7 6,Am 8 4 7] [1,3,8]<|Co 8 (Sk [1,3])<|Ex 0 [1])<|Sq (Bl 1<|Rq [Ab 11 1 1,Ac 12 11,Aa 13 3,Ai 14 12 13 9,Ae 15 14 9,Ba 16 60 15,Be 17 16] [1,3,17]<|Co 17 (Rq [Aj 2] [2]<|.ret)<|Sk [1,3])<|Re [Aa 9 3,Al 10 9 1,Aa 3 10] [1,3])<|Rq [Ab 18 1 4,Af 19 18 0,Af 20 19 0,Ac 21 20,Ah 22 21,Ab 23 1 4,Af 24 23 0,Af 25 24 1,Ac 26 25,Ah 27 26,Bo 28 22 27,Gy 29 28 6,Aa 2 29] [2]<|.ret) [.tmp 2]:=by decide +kernel
theorem oP (n:Nat) (_ih_60:∀ (c:AA),Ct prog (GI n c) 60 [AJ c] (fun r=>.sh (eB r))) (c:AA):Ct prog (GI (n+1) c) 60 [AJ c] (fun r=>.sh (eB r)):=Fi pC fun r h hw hR=>by
  unfold GI at h
  have:HA 0 3 1 1 fun (i0:Int) (_:Unit)=>[(3,.tv (eI i0))]:=⟨⟩
  exact au
theorem oO:∀ n:Nat,(∀ (c:AA),Ct prog (GI n c) 60 [AJ c] (fun r=>.sh (eB r))):=by
  intro n
  induction n with
  | zero=>exact (fun c=>⟨fun _ h=>by cases h⟩)
  | succ n ih=>exact oP n ih
instance uO (c:AA):Ct prog (Ns c) 60 [AJ c] (fun r=>.sh (eB r)):=⟨fun r h=>by
  obtain ⟨N,hN⟩:=DK h
  exact ((oO N) c).snd r (hN N (Nat.le_refl _))⟩
end Go.Sf.Sc
