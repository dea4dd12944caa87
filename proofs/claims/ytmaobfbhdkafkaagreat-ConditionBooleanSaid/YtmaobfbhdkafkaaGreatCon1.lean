/- Contracts of the functions. -/
import Derived.Test.YtmaobfbhdkafkaaGreatCon0
import Derived.Test.YtmaobfbhdkafkaaGreatTryzShelf
import Derived.Test.YtmaobfbhdkafkaaGreatRp
set_option maxRecDepth 100000
set_option maxHeartbeats 4000000
namespace Go.Sf.Sc
open Go Go.Sf Go.Proofs.Tryz
theorem ny (l:List Int) (m:Int) (r:List Int) (h:HV l m=some r):AS prog 235 [lI l,eI m] (.own (lI r)):=by
  unfold HV at h
  split at h
  · rename_i hl
    cases h
    obtain ⟨x,rfl⟩:=List.length_eq_one_iff.1 hl.1
    obtain ⟨k,rfl⟩:=Int.eq_ofNat_of_zero_le hl.2.1
    exact VA x k (by have:=hl.2.2; omega)
  · cases h
instance tO (l:List Int) (m:Int):Ct Go.Proofs.Tryz.prog (HV l m) 235 [lI l,eI m] (fun r=>.own (lI r)):=⟨ny l m⟩
theorem jz:CK f181 (Rq [Bb 6 1] [0,1,2]<|Rq [⟨some 10,.lst 1 [.c (.int .i64 (-1))],none⟩,Aa 11 0,Gc 12 235 10 11,Cj 7 12] [1,2,7]<|Sq (Rq [Aa 13 1,Ah 14 13,Ae 15 0] [2,7,13,14,15]<|Bl 0<|Lo [2,7,13,14,15]<|Rq [An 16 15 14] [2,7,13,14,15,16]<|Sq (Co 16 (Sk [2,7,13,14,15])<|Ex 0 [7])<|Sq (Bl 1<|Rq [Aa 17 15,Ai 18 13 15 1,Ac 19 18,Aa 8 17,Aa 9 19] [2,7,8,9,13,14,15]<|Re [Bu 20 7,Aa 21 9,Aa 22 2,Aa 23 8,Ai 24 22 23 1,Ac 25 24,Cp 26 20 21 1,Et 26 25] [2,7,13,14,15])<|Re [Am 27 15 1,Aa 15 27] [2,7,13,14,15])<|Rq [Dy 28 7,Ax 6 28] [6]<|.ret) [.tmp 6]:=by decide +kernel
instance rR (n:Int) (AB:List Int) (images:List Int):Ct prog (GU n AB images) 181 [eI n,lI AB,lI images] (fun r=>.own (lI r)):=Fi jz fun r h hw hR=>by
  unfold GU at h
  have:HA 0 15 14 0 fun (i0:Int) (s0:List Int)=>[(7,.xo 1 (List.map eI s0)),(15,.tv (eI i0))]:=⟨⟩
  exact au
theorem kw:CK f236 (Rq [Af 2 0,Ae 4 0,Ae 5 0] [1,2]<|Sq (Rq [Ab 6 2 0,Ac 7 6,Aa 8 1,Ah 9 8,Bx 10 9 1,⟨some 11,.call 85 [.s 7,.c (.int .i64 (-1)),.s 10],none⟩,Be 12 11] [1,2,12]<|Co 12 (Rq [Ae 4 0,Ae 5 6] [4,5]<|.ret)<|Sk [1,2])<|Rq [Ad 13 2 2,Aa 14 1,Av 15 232 13 14,Aa 4 15,Ae 5 0] [4,5]<|.ret) [.tmp 4,.tmp 5]:=by decide +kernel
instance sL (x_0:Term) (BB:List Int):Ct prog (GT x_0 BB) 236 [PW x_0,lI BB] (fun r=>.tp [eI r.1,eI r.2]):=Fi kw fun r h hw hR=>by
  unfold GT at h
  exact au
theorem j5:CK f182 (Rq [Af 4 0,Af 5 1,Af 6 2,Bb 8 1,Aj 9] [3,4,5,6]<|Sq (Dr [10,21,22,23,24,25,26,27,28] [Aa 21 3,⟨some 22,.callx 138 [.s 21],none⟩,Ab 23 5 3,Ac 24 23,Aa 25 3,Ah 26 25,Dx 27 24 26,⟨some 28,.appz 1 22 (.int .i64 0) (.s 27),none⟩,Cj 10 28] [3,4,5,6,10])<|Rq [Ab 29 5 3,Ac 30 29,Eu 31 1 30,Cj 11 31] [3,4,5,6,10,11]<|Sq (Rq [Aa 32 3,Ah 33 32,Ae 34 0] [4,5,6,10,11,33,34]<|Bl 0<|Lo [4,5,6,10,11,33,34]<|Rq [An 35 34 33] [4,5,6,10,11,33,34,35]<|Sq (Co 35 (Sk [4,5,6,10,11,33,34])<|Ex 0 [4,5,6,10,11])<|Sq (Bl 1<|Rq [Aa 36 34,Aa 12 36] [4,5,6,10,11,12,33,34]<|Re [Bu 37 11,Aa 38 12,Cp 39 37 38 1,Eg 39] [4,5,6,10,11,33,34])<|Re [Am 40 34 1,Aa 34 40] [4,5,6,10,11,33,34])<|Sq (Rq [Ab 41 5 2,Ac 42 41,Ah 43 42,Ae 44 0] [4,5,6,10,11,42,43,44]<|Bl 2<|Lo [4,5,6,10,11,42,43,44]<|Rq [An 45 44 43] [4,5,6,10,11,42,43,44,45]<|Sq (Co 45 (Sk [4,5,6,10,11,42,43,44])<|Ex 2 [5,10])<|Sq (Bl 3<|Rq [Ai 46 42 44 4,Ad 47 46 4,Ea 14 0 0 0 0,Ak 4 14 47] [4,5,6,10,11,14,42,43,44]<|Sq (Dr [15,48,49,50,51,52,53,54,55,56,57,58,59,60,61,62] [Ab 48 4 2,Ag 49 48 2,Ac 50 49,Ab 51 6 0,Ac 52 51,Ab 53 14 0,Ac 54 53,Ai 55 52 54 1,Ac 56 55,Ai 57 50 56 1,Ac 58 57,Ab 59 14 1,Ac 60 59,Ai 61 58 60 1,Ac 62 61,Aa 15 62] [4,5,6,10,11,14,15,42,43,44])<|Sq (Rq [Ab 63 14 2,Ag 64 63 0,Ac 65 64,Aa 16 65] [4,5,6,10,11,14,15,16,42,43,44]<|Rq [Aa 66 16,Bp 67 66 0,Aa 68 67,Gk 69 11 68,Au 70 16 68,Gl 71 69 70 1 68,Gm 72 71 68,Eh 73 72 68,Ap 74 68 73] [4,5,6,10,11,14,15,16,42,43,44,74]<|Co 74 (Re [Bu 75 10,Aa 76 16,Bu 77 11,Aa 78 16,Aa 79 15,Ab 80 14 2,Ag 81 80 1,Ac 82 81,Dx 83 79 82,Cp 84 75 76 1,Et 84 83,Cp 85 77 78 1,Eg 85] [4,5,6,10,11,14,15,42,43,44])<|Sk [4,5,6,10,11,14,15,42,43,44])<|Rq [Ab 87 14 2,Ad 88 87 2,Bu 89 10,Ej 90 236 88 89,Aa 86 90,Al 91 86 0,Al 92 86 1,Aa 17 91,Aa 18 92] [4,5,6,10,11,15,17,18,42,43,44]<|Rq [Aa 93 18,Aw 94 93 0,Aa 95 94,As 96 17 95,As 97 15 95,Cv 98 96 97 95,Aq 99 95 98] [4,5,6,10,11,42,43,44,99]<|Co 99 (Rq [Bb 8 1,Aj 9] [8,9]<|.ret)<|Sk [4,5,6,10,11,42,43,44])<|Re [Am 100 44 1,Aa 44 100] [4,5,6,10,11,42,43,44])<|Sq (Rq [Ab 101 5 4,Ac 102 101,Ah 103 102,Ae 104 0] [10,102,103,104]<|Bl 4<|Lo [10,102,103,104]<|Rq [An 105 104 103] [10,102,103,104,105]<|Sq (Co 105 (Sk [10,102,103,104])<|Ex 4 [10])<|Sq (Bl 5<|Rq [Ai 106 102 104 5,Ad 107 106 5,Fo 20 0 0 0 0 0,Ak 5 20 107] [10,20,102,103,104]<|Rq [Ad 108 20 5,Bu 109 10,Ej 110 233 108 109,Be 111 110] [10,102,103,104,111]<|Co 111 (Rq [Bb 8 1,Aj 9] [8,9]<|.ret)<|Sk [10,102,103,104])<|Re [Am 112 104 1,Aa 104 112] [10,102,103,104])<|Rq [Dy 113 10,Ax 8 113,Bv 9] [8,9]<|.ret) [.tmp 8,.tmp 9]:=by decide +kernel
instance rS (s_0:AR) (q:Pattern) (m:Morphism) (given:List Int):Ct prog (EC s_0 q m given) 182 [BY s_0,BA q,BS m,lI given] (fun r=>.tp [lI r.1,eB r.2]):=Fi j5 fun r h hw hR=>by
  unfold EC at h
  have:HA 0 34 33 0 fun (i0:Int) (s0:List Bool)=>[(11,.xo 1 (List.map eB s0)),(34,.tv (eI i0))]:=⟨⟩
  have:HA 2 44 43 0 fun (i2:Int) (s2:List Int × List Bool)=>[(10,.xo 1 (List.map eI s2.1)),(11,.xo 1 (List.map eB s2.2)),(44,.tv (eI i2))]:=⟨⟩
  have:HA 4 104 103 0 fun (i4:Int) (_:Unit)=>[(104,.tv (eI i4))]:=⟨⟩
  exact au
theorem iw:CK f115 (Rq [Af 3 0,Af 4 1,Af 5 2,Bb 6 3,Ae 7 0] [3,4,5]<|Rq [Ab 17 4 4,Ag 18 17 0,Ad 19 18 2,Cb 8 1 3,Ak 2 8 19] [3,4,5,8]<|Sq (Dr [9,20,21,22,23,24,25,26,27,28,29,30,31,32,33,34,35,36,37,38,39,40] [Ab 20 8 0,Ac 21 20,Ah 22 21,Ab 23 4 2,Ag 24 23 0,Ac 25 24,Ab 26 5 0,Ag 27 26 0,Ac 28 27,Bf 29 181 22 25 28,Ab 30 8 1,Ac 31 30,Ah 32 31,Ab 33 4 2,Ag 34 33 1,Ac 35 34,Ab 36 5 0,Ag 37 36 1,Ac 38 37,Bf 39 181 32 35 38,Di 40 1 1 0 1 29 1 1 39,Cb 9 1 1,Ak 2 9 40] [3,4,5,8,9])<|Rq [Ab 42 3 0,Ad 43 42 2,Ad 44 8 2,Ab 45 3 2,Ag 46 45 0,Ad 47 46 2,Ad 48 9 2,Ab 49 3 5,Ac 50 49,Gn 51 29 43 44 47 48 50,Aa 41 51,Al 52 41 0,Al 53 41 1,Ax 10 52,Aa 11 53] [3,4,5,10,11]<|Sq (Rq [Aa 54 11,Aw 55 54 0] [3,4,5,10,11,55]<|Co 55 (Rq [Aa 56 11,Bb 6 3,Aa 7 56] [6,7]<|.ret)<|Sk [3,4,5,10])<|Rq [Bb 12 3] [3,4,5,10,12]<|Sq (Rq [Aa 57 10,Ah 58 57,Ae 59 0] [3,4,5,12,57,58,59]<|Bl 0<|Lo [3,4,5,12,57,58,59]<|Rq [An 60 59 58] [3,4,5,12,57,58,59,60]<|Sq (Co 60 (Sk [3,4,5,12,57,58,59])<|Ex 0 [12])<|Sq (Bl 1<|Rq [Ai 61 57 59 2,Ad 62 61 2,Cb 14 1 1,Ak 2 14 62] [3,4,5,12,14,57,58,59]<|Rq [Ad 64 3 6,Ab 65 4 4,Ad 66 65 5,Ad 67 14 2,Ab 68 5 2,Ac 69 68,Cq 70 182 64 66 67 69,Aa 63 70,Al 71 63 0,Al 72 63 1,Ax 15 71,Aa 16 72] [3,4,5,12,14,15,16,57,58,59]<|Rq [Aa 73 16] [3,4,5,12,14,15,57,58,59,73]<|Co 73 (Re [Ax 74 12,Ad 75 14 2,Aa 76 15,Ey 77 1 1 1 0 2 75 2 1 76,Bh 78 3 77,Bj 79 3 74 78,Ax 12 79] [3,4,5,12,57,58,59])<|Sk [3,4,5,12,57,58,59])<|Re [Am 80 59 1,Aa 59 80] [3,4,5,12,57,58,59])<|Rq [Aa 81 12,Ax 6 81,Ae 7 0] [6,7]<|.ret) [.tmp 6,.tmp 7]:=by decide +kernel
instance qQ (s_0:AR) (c:AA) (m:AL):Ct prog (BW s_0 c m) 115 [BY s_0,AJ c,CH m] (fun r=>.tp [(eL 3 CH) r.1,eI r.2]):=Fi iw fun r h hw hR=>by
  unfold BW at h
  have:HA 0 59 58 0 fun (i0:Int) (s0:List AL)=>[(12,.ow ((eL 3 CH) s0)),(59,.tv (eI i0))]:=⟨⟩
  exact au
theorem ox:CK f48 (Rq [Af 3 0,Af 4 1,Af 5 2,Dd 6 0 1 1 1 5,Ae 7 0] [3,4,5,6]<|Sq (Rq [Ab 19 4 0,Ac 20 19] [3,4,5,6,20]<|Bl 0<|Rq [Bc 22 20 2,Aa 21 22] [3,4,5,6,20,21]<|Co 21 (Sq (Dr [8,9,23,24,25,26,27,28,29,30,31,32] [Ad 24 3 6,Ab 25 4 1,Ac 26 25,Dq 27 26 0 9,Ad 28 27 9,Ad 29 5 3,Bf 30 48 24 28 29,Aa 23 30,Al 31 23 0,Al 32 23 1,Dd 8 0 1 1 1 5,Ak 5 8 31,Aa 9 32] [6,9])<|Sq (Rq [Aa 33 9] [6,9,33]<|Bl 1<|Rq [Bc 35 33 0,Aa 34 35] [6,9,33,34]<|Co 34 (Rq [De 36 0 1 1 1 5,Ak 5 6 36,Ae 7 10] [6,7]<|.ret)<|Rq [Bc 38 33 10,Aa 37 38] [6,9,37]<|Co 37 (Rq [De 39 0 1 1 1 5,Ak 5 6 39,Ae 7 0] [6,7]<|.ret)<|Sk [6,9])<|Rq [De 40 0 1 1 1 5,Aa 41 9,Ak 5 6 40,Aa 7 41] [6,7]<|.ret)<|Rq [Bc 43 20 3,Aa 42 43] [3,4,5,6,20,42]<|Co 42 (Rq [Dd 10 0 1 1 1 5] [3,4,5,6,10]<|Sq (Rq [Ab 44 4 1,Ac 45 44,Ah 46 45,Ae 47 0] [3,5,6,10,45,46,47]<|Bl 2<|Lo [3,5,6,10,45,46,47]<|Rq [An 48 47 46] [3,5,6,10,45,46,47,48]<|Sq (Co 48 (Sk [3,5,6,10,45,46,47])<|Ex 2 [6,10])<|Sq (Bl 3<|Rq [Ai 49 45 47 9,Ad 50 49 9,Ck 12 0 9 1 1 1 3 4 0 5,Ak 9 12 50] [3,5,6,10,12,45,46,47]<|Rq [Ad 52 3 6,Ad 53 12 9,Ad 54 5 3,Bf 55 48 52 53 54,Aa 51 55,Al 56 51 0,Al 57 51 1,Dd 13 0 1 1 1 5,Ak 5 13 56,Aa 14 57] [3,5,6,10,13,14,45,46,47]<|Sq (Rq [Aa 58 14,Aw 59 58 0] [3,5,6,10,13,14,45,46,47,59]<|Co 59 (Rq [De 60 0 1 1 1 5,Aa 61 14,Ak 5 6 60,Aa 7 61] [6,7]<|.ret)<|Sk [3,5,6,10,13,45,46,47])<|Re [Ab 62 10 4,Ci 63 62,Ad 64 13 5,Bh 65 5 64,Bj 66 5 63 65,Ab 67 10 4,Bo 1 67 66] [3,5,6,10,45,46,47])<|Re [Am 68 47 1,Aa 47 68] [3,5,6,10,45,46,47])<|Rq [Ad 69 10 5,Ak 5 6 69,Ae 7 0] [6,7]<|.ret)<|Rq [Bc 71 20 4,Aa 70 71] [3,4,5,6,20,70]<|Co 70 (Sq (Rq [Ab 72 4 1,Ac 73 72,Ah 74 73,Ae 75 0] [3,5,6,73,74,75]<|Bl 4<|Lo [3,5,6,73,74,75]<|Rq [An 76 75 74] [3,5,6,73,74,75,76]<|Sq (Co 76 (Sk [3,5,6,73,74,75])<|Ex 4 [6])<|Sq (Bl 5<|Rq [Aa 77 75,Ai 78 73 75 9,Ad 79 78 9,Ck 16 0 9 1 1 1 3 4 0 5,Aa 15 77,Ak 9 16 79] [3,5,6,15,16,73,74,75]<|Rq [Ad 81 3 6,Ad 82 16 9,Ad 83 5 3,Bf 84 48 81 82 83,Aa 80 84,Al 85 80 0,Al 86 80 1,Dd 17 0 1 1 1 5,Ak 5 17 85,Aa 18 86] [3,5,6,15,17,18,73,74,75]<|Sq (Rq [Aa 87 18,Bc 88 87 0] [3,5,6,15,17,18,73,74,75,88]<|Co 88 (Rq [Aa 89 15,Ad 90 17 5,Bh 91 5 90,He 92 0 1 1 1 5 0 1 89 4 1 91,Ak 5 6 92,Ae 7 0] [6,7]<|.ret)<|Sk [3,5,6,18,73,74,75])<|Rq [Aa 93 18,Aw 94 93 10] [3,5,6,18,73,74,75,94]<|Co 94 (Rq [De 95 0 1 1 1 5,Aa 96 18,Ak 5 6 95,Aa 7 96] [6,7]<|.ret)<|Sk [3,5,6,73,74,75])<|Re [Am 97 75 1,Aa 75 97] [3,5,6,73,74,75])<|Rq [De 98 0 1 1 1 5,Ak 5 6 98,Ae 7 10] [6,7]<|.ret)<|Rq [Bc 100 20 5,Aa 99 100] [3,4,5,6,99]<|Co 99 (Rq [Ad 101 3 6,Ad 102 4 9,Ad 103 5 3,Bf 104 111 101 102 103,Al 105 104 0,Al 106 104 1,Ak 5 6 105,Aa 7 106] [6,7]<|.ret)<|Sk [6])<|Rq [De 107 0 1 1 1 5,Ak 5 6 107,Ae 7 0] [6,7]<|.ret) [.cell 6 (some 5),.tmp 7]:=by decide +kernel
theorem iu:CK f111 (Rq [Af 3 0,Af 4 1,Af 5 2,Dd 6 0 1 1 1 5,Ae 7 0] [3,4,5,6]<|Rq [Ad 15 3 6,Ad 16 4 9,Ad 17 5 3,Bf 18 115 15 16 17,Aa 14 18,Al 19 14 0,Al 20 14 1,Ax 8 19,Aa 9 20] [3,4,6,8,9]<|Sq (Rq [Aa 21 9,Aw 22 21 0] [3,4,6,8,9,22]<|Co 22 (Rq [De 23 0 1 1 1 5,Aa 24 9,Ak 5 6 23,Aa 7 24] [6,7]<|.ret)<|Sk [3,4,6,8])<|Sq (Rq [Aa 25 8,Ah 26 25,Ae 27 0] [3,4,6,25,26,27]<|Bl 0<|Lo [3,4,6,25,26,27]<|Rq [An 28 27 26] [3,4,6,25,26,27,28]<|Sq (Co 28 (Sk [3,4,6,25,26,27])<|Ex 0 [6])<|Sq (Bl 1<|Rq [Ai 29 25 27 3,Ad 30 29 3,Dj 11 1 1 1,Ak 3 11 30] [3,4,6,11,25,26,27]<|Sq (Dr [12,13,31,32,33,34,35,36,37,38,39,40] [Ad 32 3 6,Ab 33 4 1,Ac 34 33,Dq 35 34 0 9,Ad 36 35 9,Ad 37 11 3,Bf 38 48 32 36 37,Aa 31 38,Al 39 31 0,Al 40 31 1,Dd 12 0 1 1 1 5,Ak 5 12 39,Aa 13 40] [3,4,6,11,12,13,25,26,27])<|Sq (Rq [Aa 41 13,Bc 42 41 0] [3,4,6,11,12,13,25,26,27,42]<|Co 42 (Rq [Ad 43 11 3,Ad 44 12 5,Bh 45 5 44,He 46 0 1 1 1 5 1 3 43 4 1 45,Ak 5 6 46,Ae 7 0] [6,7]<|.ret)<|Sk [3,4,6,13,25,26,27])<|Rq [Aa 47 13,Aw 48 47 10] [3,4,6,13,25,26,27,48]<|Co 48 (Rq [De 49 0 1 1 1 5,Aa 50 13,Ak 5 6 49,Aa 7 50] [6,7]<|.ret)<|Sk [3,4,6,25,26,27])<|Re [Am 51 27 1,Aa 27 51] [3,4,6,25,26,27])<|Rq [De 52 0 1 1 1 5,Ak 5 6 52,Ae 7 10] [6,7]<|.ret) [.cell 6 (some 5),.tmp 7]:=by decide +kernel
theorem oE (n:Nat) (_ih_48:∀ (s_0:AR) (c:AA) (m:AL),Ct prog (AX n s_0 c m) 48 [BY s_0,AJ c,CH m] (fun r=>.tp [EE r.1,eI r.2])) (_ih_111:∀ (s_0:AR) (c:AA) (m:AL),Ct prog (BH n s_0 c m) 111 [BY s_0,AJ c,CH m] (fun r=>.tp [EE r.1,eI r.2])) (s_0:AR) (c:AA) (m:AL):Ct prog (AX (n+1) s_0 c m) 48 [BY s_0,AJ c,CH m] (fun r=>.tp [EE r.1,eI r.2]):=Fi ox fun r h hw hR=>by
  unfold AX at h
  have:HA 2 47 46 0 fun (i2:Int) (s2:A4 × A4)=>[(6,.bx [⟨false,eI s2.1.Choice⟩,⟨true,lI s2.1.Match.Morphism.Nodes⟩,⟨true,lI s2.1.Match.Morphism.Edges⟩,⟨true,lI s2.1.Match.Vars⟩,⟨true,LP s2.1.Kids⟩]),(10,.bx [⟨false,eI s2.2.Choice⟩,⟨true,lI s2.2.Match.Morphism.Nodes⟩,⟨true,lI s2.2.Match.Morphism.Edges⟩,⟨true,lI s2.2.Match.Vars⟩,⟨true,LP s2.2.Kids⟩]),(47,.tv (eI i2))]:=⟨⟩
  have:HA 4 75 74 0 fun (i4:Int) (s4:A4)=>[(6,.bx [⟨false,eI s4.Choice⟩,⟨true,lI s4.Match.Morphism.Nodes⟩,⟨true,lI s4.Match.Morphism.Edges⟩,⟨true,lI s4.Match.Vars⟩,⟨true,LP s4.Kids⟩]),(75,.tv (eI i4))]:=⟨⟩
  exact au
theorem iM (n:Nat) (_ih_48:∀ (s_0:AR) (c:AA) (m:AL),Ct prog (AX n s_0 c m) 48 [BY s_0,AJ c,CH m] (fun r=>.tp [EE r.1,eI r.2])) (_ih_111:∀ (s_0:AR) (c:AA) (m:AL),Ct prog (BH n s_0 c m) 111 [BY s_0,AJ c,CH m] (fun r=>.tp [EE r.1,eI r.2])) (s_0:AR) (c:AA) (m:AL):Ct prog (BH (n+1) s_0 c m) 111 [BY s_0,AJ c,CH m] (fun r=>.tp [EE r.1,eI r.2]):=Fi iu fun r h hw hR=>by
  unfold BH at h
  have:HA 0 27 26 0 fun (i0:Int) (s0:A4)=>[(6,.bx [⟨false,eI s0.Choice⟩,⟨true,lI s0.Match.Morphism.Nodes⟩,⟨true,lI s0.Match.Morphism.Edges⟩,⟨true,lI s0.Match.Vars⟩,⟨true,LP s0.Kids⟩]),(27,.tv (eI i0))]:=⟨⟩
  exact au
theorem ef:∀ n:Nat,(∀ (s_0:AR) (c:AA) (m:AL),Ct prog (AX n s_0 c m) 48 [BY s_0,AJ c,CH m] (fun r=>.tp [EE r.1,eI r.2]))∧(∀ (s_0:AR) (c:AA) (m:AL),Ct prog (BH n s_0 c m) 111 [BY s_0,AJ c,CH m] (fun r=>.tp [EE r.1,eI r.2])):=by
  intro n
  induction n with
  | zero=>exact ⟨(fun s_0 c m=>⟨fun _ h=>by cases h⟩),(fun s_0 c m=>⟨fun _ h=>by cases h⟩)⟩
  | succ n ih=>exact ⟨oE n ih.1 ih.2,iM n ih.1 ih.2⟩
instance t6 (s_0:AR) (c:AA) (m:AL):Ct prog (DM s_0 c m) 48 [BY s_0,AJ c,CH m] (fun r=>.tp [EE r.1,eI r.2]):=⟨fun r h=>by
  obtain ⟨N,hN⟩:=DK h
  exact ((ef N).1 s_0 c m).snd r (hN N (Nat.le_refl _))⟩
instance qO (s_0:AR) (c:AA) (m:AL):Ct prog (M3 s_0 c m) 111 [BY s_0,AJ c,CH m] (fun r=>.tp [EE r.1,eI r.2]):=⟨fun r h=>by
  obtain ⟨N,hN⟩:=DK h
  exact ((ef N).2 s_0 c m).snd r (hN N (Nat.le_refl _))⟩
theorem oX:CK f20 (Rq [Af 6 0,Af 7 1,Af 8 2,Af 9 3,Af 10 4,Dd 12 0 1 1 1 5,Ae 13 0] [5,6,7,8,9,10,12]<|Sq (Rq [Ad 15 6 2,Ad 16 7 5,Ad 17 8 9,Ad 18 9 3,Ad 19 10 3,Aa 20 5,Ds 21 47 15 16 17 18 19 20,Aa 14 21] [5,6,8,9,10,12,14]<|Rq [Aa 22 14,Aw 23 22 0] [5,6,8,9,10,12,14,23]<|Co 23 (Rq [De 24 0 1 1 1 5,Aa 25 14,Ak 5 12 24,Aa 13 25] [12,13]<|.ret)<|Sk [5,6,8,9,10,12])<|Rq [Ad 26 6 2,Ad 27 9 3,Aa 28 5,⟨some 29,.bld [.list 4 [],.list 7 [],.list 1 [],.list 3 [],.list 1 [],.bool false] [(0,2,.s 26),(2,3,.s 27),(5,1,.s 28)],none⟩,Ad 30 8 9,Ad 31 10 3,Bf 32 48 29 30 31,Al 33 32 0,Al 34 32 1,Ak 5 12 33,Aa 13 34] [12,13]<|.ret) [.cell 12 (some 5),.tmp 13]:=by decide +kernel
instance tZ (t:Types) (p:Pattern) (c:AA) (h_3:AY) (m:AL) (injective:Bool):Ct prog (DQ t p c h_3 m injective) 20 [AU t,BA p,AJ c,IU h_3,CH m,eB injective] (fun r=>.tp [EE r.1,eI r.2]):=Fi oX fun r h hw hR=>by
  unfold DQ at h
  exact au
theorem oW:CK f18 (Rq [Af 6 0,Af 7 1,Af 8 2,Af 9 3,Af 10 4,Aj 12,Ae 13 0] [5,6,7,8,9,10]<|Rq [Ad 17 6 2,Ad 18 7 5,Ad 19 8 9,Ad 20 9 3,Ad 21 10 3,Aa 22 5,Ds 23 20 17 18 19 20 21 22,Aa 16 23,Al 24 16 0,Al 25 16 1,Dd 14 0 1 1 1 5,Ak 5 14 24,Aa 15 25] [15]<|Sq (Rq [Aa 26 15,Bc 27 26 10] [15,27]<|Co 27 (Rq [Aj 12,Ae 13 0] [12,13]<|.ret)<|Sk [15])<|Rq [Aa 28 15,Bc 29 28 0,Aa 30 15,Aa 12 29,Aa 13 30] [12,13]<|.ret) [.tmp 12,.tmp 13]:=by decide +kernel
instance tY (t:Types) (p:Pattern) (c:AA) (h_3:AY) (m:AL) (injective:Bool):Ct prog (BU t p c h_3 m injective) 18 [AU t,BA p,AJ c,IU h_3,CH m,eB injective] (fun r=>.tp [eB r.1,eI r.2]):=Fi oW fun r h hw hR=>by
  unfold BU at h
  exact au
theorem iv:CK f114 (Rq [Af 1 0,Aj 2] [1]<|Rq [Ab 3 1 0,Ag 4 3 0,Ac 5 4,Ah 6 5,Ab 7 1 0,Ag 8 7 1,Ac 9 8,Ah 10 9,Bm 11 6 10,Ab 12 1 2,Ac 13 12,Ah 14 13,Bm 15 11 14,Bc 16 15 0,Aa 2 16] [2]<|.ret) [.tmp 2]:=by decide +kernel
instance qP (m:AL):Ct prog (E2 m) 114 [CH m] (fun r=>.sh (eB r)):=Fi iv fun r h hw hR=>by
  unfold E2 at h
  exact au
theorem j6:CK f183 (Rq [Ae 4 0] [0,1]<|Sq (Rq [Aa 6 0,Ah 7 6,Ae 8 0] [0,1,7,8]<|Bl 0<|Lo [0,1,7,8]<|Rq [An 9 8 7] [0,1,7,8,9]<|Sq (Co 9 (Sk [0,1,7,8])<|Ex 0 [])<|Sq (Bl 1<|Rq [Aa 10 8,Aa 5 10] [0,1,5,7,8]<|Rq [Aa 11 1,Aa 12 0,Aa 13 5,Ai 14 12 13 3,Ad 15 14 3,Cz 16 11 15] [0,1,5,7,8,16]<|Co 16 (Rq [Aa 17 5,Aa 4 17] [4]<|.ret)<|Sk [0,1,7,8])<|Re [Am 18 8 1,Aa 8 18] [0,1,7,8])<|Rq [Bs 4 (-1)] [4]<|.ret) [.tmp 4]:=by decide +kernel
instance rT (s_0:List AL) (f:AL->Option Bool) (f_f:FuncId) (k_f:List TV) [h_f:∀ (y0:AL),Ct prog (f y0) f_f (CH y0::k_f) (fun r=>.sh (eB r))]:Ct prog (D0 s_0 f) 183 [(eL 3 CH) s_0,.clo f_f k_f] (fun r=>.sh (eI r)):=Fi j6 fun r h hw hR=>by
  unfold D0 at h
  have:HA 0 8 7 0 fun (i0:Int) (_:Unit)=>[(8,.tv (eI i0))]:=⟨⟩
  exact au
theorem iy:CK f116 (Rq [Aj 4] [0,1]<|Rq [Aa 5 0,Aa 6 1,Av 7 183 5 6,Bp 8 7 0,Aa 4 8] [4]<|.ret) [.tmp 4]:=by decide +kernel
instance qR (s_0:List AL) (f:AL->Option Bool) (f_f:FuncId) (k_f:List TV) [h_f:∀ (y0:AL),Ct prog (f y0) f_f (CH y0::k_f) (fun r=>.sh (eB r))]:Ct prog (DN s_0 f) 116 [(eL 3 CH) s_0,.clo f_f k_f] (fun r=>.sh (eB r)):=Fi iy fun r h hw hR=>by
  unfold DN at h
  exact au
theorem pE:CK f72 (Rq [Af 2 0,Af 3 1,Aj 4] [2,3]<|Rq [Ab 5 2 0,Ac 6 5,Ab 7 3 0,Ac 8 7,Av 9 73 6 8,Aa 10 9,Ay 11 2 1 10,Az 12 11 10,Ay 13 3 1 10,Az 14 13 10,Dw 15 73 12 14 10,Ap 16 10 15,Aa 4 16] [4]<|.ret) [.tmp 4]:=by decide +kernel
instance uN (a:Morphism) (b:Morphism):Ct prog (NA a b) 72 [BS a,BS b] (fun r=>.sh (eB r)):=Fi pE fun r h hw hR=>by
  unfold NA at h
  exact au
theorem i5:CK f118 (Rq [Af 2 0,Af 3 1,Aj 4] [2,3]<|Rq [Ab 5 2 0,Ad 6 5 2,Ab 7 3 0,Ad 8 7 2,Av 9 72 6 8,Aa 10 9,Ay 11 2 2 10,Az 12 11 10,Ay 13 3 2 10,Az 14 13 10,Dw 15 73 12 14 10,Ap 16 10 15,Aa 4 16] [4]<|.ret) [.tmp 4]:=by decide +kernel
instance qT (a:AL) (b:AL):Ct prog (J2 a b) 118 [CH a,CH b] (fun r=>.sh (eB r)):=Fi i5 fun r h hw hR=>by
  unfold J2 at h
  exact au
theorem iz:CK f117 (Rq [Af 2 0,Aj 3] [1,2]<|Rq [Ad 4 2 3,Ab 5 1 1,Ad 6 5 3,Av 7 118 4 6,Aa 3 7] [3]<|.ret) [.tmp 3]:=by decide +kernel
instance qS (x_0:AL) (c0:A4):Ct prog (HY x_0 c0) 117 [CH x_0,.pt (EE c0).cells] (fun r=>.sh (eB r)):=Fi iz fun r h hw hR=>by
  unfold HY at h
  exact au
theorem oy:CK f51 (Rq [Af 4 0,Af 5 1,Af 6 2,Af 7 3,Aj 8] [4,5,6,7]<|Rq [Ab 16 7 4,Ac 17 16,Ah 18 17,Aa 9 18] [4,5,6,7,9]<|Sq (Rq [Ab 19 5 0,Ac 20 19] [4,5,6,7,9,20]<|Bl 0<|Rq [Bc 22 20 1,Aa 21 22] [4,5,6,7,9,20,21]<|Co 21 (Rq [Aa 23 9,Bc 24 23 0,Aa 25 24,Ay 26 7 0 25,Az 27 26 25,Cu 28 27 0 25,Ap 29 25 28,Aa 30 29,Ay 31 7 1 30,Bg 32 31 3 30,Ca 33 114 32 30,Ap 34 30 33,Aa 8 34] [8]<|.ret)<|Rq [Bc 36 20 2,Aa 35 36] [4,5,6,7,9,20,35]<|Co 35 (Sq (Dr [10,11,37,38,39,40,41,42,43,44,45,46] [Ad 38 4 6,Ab 39 5 1,Ac 40 39,Dq 41 40 0 9,Ad 42 41 9,Ad 43 6 3,Bf 44 48 38 42 43,Aa 37 44,Al 45 37 0,Al 46 37 1,Dd 10 0 1 1 1 5,Ak 5 10 45,Aa 11 46] [7,9,11])<|Rq [Aa 47 9,Bc 48 47 0,Aa 49 48,Ay 50 7 0 49,Az 51 50 49,Cu 52 51 0 49,Ap 53 49 52,Aa 54 53,Ay 55 7 1 54,Bg 56 55 3 54,Ca 57 114 56 54,Ap 58 54 57,Aa 59 58,Au 60 11 59,Cu 61 60 10 59,Ap 62 59 61,Aa 8 62] [8]<|.ret)<|Rq [Bc 64 20 3,Aa 63 64] [4,5,6,7,9,20,63]<|Co 63 (Sq (Rq [Aa 65 9,Ab 66 5 1,Ac 67 66,Ah 68 67,Bt 69 65 68,Aa 70 69,Ar 71 7 0 70,Ao 72 71 70,Eb 73 72 0 70,Aq 74 70 73,Aa 75 74,Ar 76 7 1 75,Ce 77 76 3 75,Dv 78 114 77 75,Br 79 78 75,Aq 80 75 79] [4,5,6,7,80]<|Co 80 (Rq [Aj 8] [8]<|.ret)<|Sk [4,5,6,7])<|Sq (Rq [Ab 81 5 1,Ac 82 81,Ah 83 82,Ae 84 0] [4,6,7,82,83,84]<|Bl 1<|Lo [4,6,7,82,83,84]<|Rq [An 85 84 83] [4,6,7,82,83,84,85]<|Sq (Co 85 (Sk [4,6,7,82,83,84])<|Ex 1 [])<|Sq (Bl 2<|Rq [Aa 86 84,Ai 87 82 84 9,Ad 88 87 9,Ck 13 0 9 1 1 1 3 4 0 5,Aa 12 86,Ak 9 13 88] [4,6,7,12,13,82,83,84]<|Sq (Dr [89,90,91,92,93,94,95,96,97,98] [Ad 89 4 6,Ad 90 13 9,Ad 91 6 3,Ab 92 7 4,Ac 93 92,Aa 94 12,Ai 95 93 94 5,Ad 96 95 5,Cq 97 51 89 90 91 96,Be 98 97] [4,6,7,82,83,84,98])<|Co 98 (Rq [Aj 8] [8]<|.ret)<|Sk [4,6,7,82,83,84])<|Re [Am 99 84 1,Aa 84 99] [4,6,7,82,83,84])<|Rq [Bv 8] [8]<|.ret)<|Rq [Bc 101 20 4,Aa 100 101] [4,5,6,7,9,100]<|Co 100 (Sq (Dr [8,102,103,104,105,106,107,108,109,110,111,112,113,114,115,116,117,118,119,120,121,122,123,124,125,126,127,128,129,130,131,132,133,134,135,136] [Aa 102 9,Bc 103 102 1,Aa 104 103,Ay 105 7 0 104,Az 106 105 104,Fv 107 106 0 104,Ap 108 104 107,Aa 109 108,Ay 110 7 0 109,Az 111 110 109,Ay 112 5 1 109,Az 113 112 109,Bw 114 113 109,Er 115 111 114 109,Ap 116 109 115,Aa 117 116,Ay 118 7 1 117,Bg 119 118 3 117,Ca 120 114 119 117,Ap 121 117 120,Aa 122 121,Bg 123 4 6 122,Ay 124 5 1 122,Az 125 124 122,Ay 126 7 0 122,Az 127 126 122,Dg 128 125 127 9 122,Bg 129 128 9 122,Bg 130 6 3 122,Ay 131 7 4 122,Az 132 131 122,⟨some 133,.iad (.s 132) (.c (.int .i64 0)) 5,some (122,true)⟩,Bg 134 133 5 122,Gr 135 51 123 129 130 134 122,Ap 136 122 135,Aa 8 136] [8])<|.ret)<|Sk [4,5,6,7,9])<|Sq (Rq [Aa 137 9,Aw 138 137 1,Aa 139 138,Ar 140 7 0 139,Ao 141 140 139,Eb 142 141 0 139,Aq 143 139 142] [4,5,6,7,143]<|Co 143 (Rq [Aj 8] [8]<|.ret)<|Sk [4,5,6,7])<|Rq [Ad 145 4 6,Ad 146 5 9,Ad 147 6 3,Bf 148 115 145 146 147,Aa 144 148,Al 149 144 0,Al 150 144 1,Ax 14 149,Aa 15 150] [4,5,7,14,15]<|Sq (Rq [Aa 151 15,Aw 152 151 0,Aa 153 152,As 154 14 153,⟨some 155,.clo 117 [.s 7],some (153,false)⟩,Dk 156 116 154 155 153,Br 157 156 153,Aq 158 153 157] [4,5,7,158]<|Co 158 (Rq [Aj 8] [8]<|.ret)<|Sk [4,5,7])<|Sq (Dr [8,159,160,161,162,163,164,165,166,167,168,169,170] [Ad 159 4 6,Ab 160 5 1,Ac 161 160,Dq 162 161 0 9,Ad 163 162 9,Ab 164 7 1,Ad 165 164 3,Ab 166 7 4,Ac 167 166,Dq 168 167 0 5,Ad 169 168 5,Cq 170 51 159 163 165 169,Aa 8 170] [8])<|.ret) [.tmp 8]:=by decide +kernel
theorem oG (n:Nat) (_ih_51:∀ (s_0:AR) (c:AA) (m:AL) (w:A4),Ct prog (BR n s_0 c m w) 51 [BY s_0,AJ c,CH m,EE w] (fun r=>.sh (eB r))) (s_0:AR) (c:AA) (m:AL) (w:A4):Ct prog (BR (n+1) s_0 c m w) 51 [BY s_0,AJ c,CH m,EE w] (fun r=>.sh (eB r)):=Fi oy fun r h hw hR=>by
  unfold BR at h
  have:HA 1 84 83 0 fun (i1:Int) (_:Unit)=>[(84,.tv (eI i1))]:=⟨⟩
  exact au
theorem oF:∀ n:Nat,(∀ (s_0:AR) (c:AA) (m:AL) (w:A4),Ct prog (BR n s_0 c m w) 51 [BY s_0,AJ c,CH m,EE w] (fun r=>.sh (eB r))):=by
  intro n
  induction n with
  | zero=>exact (fun s_0 c m w=>⟨fun _ h=>by cases h⟩)
  | succ n ih=>exact oG n ih
instance t7 (s_0:AR) (c:AA) (m:AL) (w:A4):Ct prog (GM s_0 c m w) 51 [BY s_0,AJ c,CH m,EE w] (fun r=>.sh (eB r)):=⟨fun r h=>by
  obtain ⟨N,hN⟩:=DK h
  exact ((oF N) s_0 c m w).snd r (hN N (Nat.le_refl _))⟩
theorem oY:CK f23 (Rq [Af 7 0,Af 8 1,Af 9 2,Af 10 3,Af 11 4,Af 13 6,Aj 14] [5,7,8,9,10,11,13]<|Rq [Ad 15 7 2,Ad 16 8 5,Ad 17 9 9,Ad 18 10 3,Ad 19 11 3,Aa 20 5,Ds 21 47 15 16 17 18 19 20,Bc 22 21 0,Aa 23 22,Bg 24 7 2 23,Bg 25 10 3 23,Au 26 5 23,⟨some 27,.bld [.list 4 [],.list 7 [],.list 1 [],.list 3 [],.list 1 [],.bool false] [(0,2,.s 24),(2,3,.s 25),(5,1,.s 26)],some (23,true)⟩,Bg 28 9 9 23,Bg 29 11 3 23,Bg 30 13 5 23,Gr 31 51 27 28 29 30 23,Ap 32 23 31,Aa 14 32] [14]<|.ret) [.tmp 14]:=by decide +kernel
instance ta (t:Types) (p:Pattern) (c:AA) (h_3:AY) (m:AL) (injective:Bool) (w:A4):Ct prog (DX t p c h_3 m injective w) 23 [AU t,BA p,AJ c,IU h_3,CH m,eB injective,EE w] (fun r=>.sh (eB r)):=Fi oY fun r h hw hR=>by
  unfold DX at h
  exact au
theorem od:CK f35 (Rq [Cb 0 4 7] [0]<|Rq [⟨some 1,.bld [.str ⟨#[]⟩,.int .i64 0,.int .i64 0,.list 1 []] [(0,1,.c (.str ⟨#[98,97,108,97,110,99,101]⟩)),(1,1,.c (.int .i64 (-1000))),(2,1,.c (.int .i64 1000))],none⟩,Bh 2 4 1,⟨some 3,.bld [.str ⟨#[]⟩,.int .i64 0,.bool false,.list 4 []] [(0,1,.c (.str ⟨#[65,99,99,111,117,110,116]⟩)),(1,1,.c (.int .i64 (-1))),(2,1,.c (.bool true)),(3,1,.s 2)],none⟩,⟨some 4,.bld [.str ⟨#[]⟩,.int .i64 0,.bool false,.list 4 []] [(0,1,.c (.str ⟨#[67,97,115,104]⟩)),(1,1,.c (.int .i64 0))],none⟩,⟨some 5,.lst 1 [.c (.str ⟨#[111,112,101,110]⟩),.c (.str ⟨#[99,108,111,115,101,100]⟩)],none⟩,⟨some 6,.bld [.str ⟨#[]⟩,.int .i64 0,.int .i64 0,.list 1 []] [(0,1,.c (.str ⟨#[115,116,97,116,101]⟩)),(2,1,.c (.int .i64 1)),(3,1,.s 5)],none⟩,Bh 7 4 6,⟨some 8,.bld [.str ⟨#[]⟩,.int .i64 0,.bool false,.list 4 []] [(0,1,.c (.str ⟨#[76,111,97,110]⟩)),(1,1,.c (.int .i64 0)),(3,1,.s 7)],none⟩,⟨some 9,.bld [.str ⟨#[]⟩,.int .i64 0,.bool false,.list 4 []] [(0,1,.c (.str ⟨#[80,101,114,115,111,110]⟩)),(1,1,.c (.int .i64 (-1)))],none⟩,⟨some 10,.lst 4 [.s 3,.s 4,.s 8,.s 9],none⟩,⟨some 11,.bld [.str ⟨#[]⟩,.int .i64 0,.int .i64 0,.int .i64 0,.int .i64 0,.int .i64 0,.int .i64 0] [(0,1,.c (.str ⟨#[111,119,110,115]⟩)),(1,1,.c (.int .i64 3)),(2,1,.c (.int .i64 0)),(4,1,.c (.int .i64 (-1))),(5,1,.c (.int .i64 1)),(6,1,.c (.int .i64 1))],none⟩,⟨some 12,.bld [.str ⟨#[]⟩,.int .i64 0,.int .i64 0,.int .i64 0,.int .i64 0,.int .i64 0,.int .i64 0] [(0,1,.c (.str ⟨#[112,97,121,115]⟩)),(1,1,.c (.int .i64 1)),(2,1,.c (.int .i64 1)),(4,1,.c (.int .i64 (-1))),(6,1,.c (.int .i64 (-1)))],none⟩,Dl 13 7 11 12,Gs 14 10 13,Ek 2 0 14] [0]<|.ret) [.cell 0 (some 2)]:=by decide +kernel
instance th :Ct prog (NB ) 35 [] (fun r=>.oag [⟨true,lN r.Nodes⟩,⟨true,lX r.Edges⟩]):=Fi od fun r h hw hR=>by
  unfold NB at h
  exact au
theorem oe:CK f36 (Rq [Ez 0 1 3 4 0 5 0 9 1 1 1 3 4 0 5] [0]<|Rq [Fw 6 1 3 0,Fa 7 0 0 0 1 1 0 2 1 1,Bh 8 3 7,Di 9 1 3 0 1 6 1 1 8,Cb 1 1 3,Ak 2 1 9] [0,1]<|Rq [Hf 10 1 3 0 0,Fa 11 0 0 0 1 1 0 2 1 1,Fa 12 0 0 0 1 1 0 2 1 2,Dl 13 3 11 12,Di 14 1 3 0 1 10 1 1 13,Cb 2 1 3,Ak 2 2 14] [0,1,2]<|Rq [Fb 15 0 0 0 1 0,Hg 16 0 0 0 0 0 1 1 2 2 15,Ea 3 0 0 0 0,Ak 4 3 16] [0,1,2,3]<|Rq [Ad 17 2 2,Ad 18 3 4,Fb 19 0 0 0 1 1,Hg 20 0 0 0 0 0 1 2 2 2 19,Dl 21 4 18 20,Fb 22 0 0 0 1 0,Fb 23 0 0 0 1 1,⟨some 24,.bld [.int .i64 0,.int .i64 0,.int .i64 0,.int .i64 0,.int .i64 0] [(0,1,.c (.int .i64 1)),(1,2,.s 22),(3,2,.s 23)],none⟩,Bh 25 5 24,⟨some 26,.bld [.list 1 [],.list 3 [],.list 4 [],.int .i64 0,.list 5 []] [(0,2,.s 17),(3,1,.c (.int .i64 2)),(2,1,.s 21),(4,1,.s 25)],none⟩,Dc 4 1 3 4 0 5,Ak 5 4 26] [0,1,3,4]<|Rq [Fw 27 1 0 1,Ec 28 1 0,Di 29 1 1 0 1 27 1 1 28,Ad 30 4 5,Hh 31 0 9 1 1 1 3 4 0 5 0 1 1,Bh 32 9 31,⟨some 33,.bld [.int .i64 0,.list 9 [],.list 1 [],.list 1 [],.list 1 [],.list 3 [],.list 4 [],.int .i64 0,.list 5 []] [(0,1,.c (.int .i64 5)),(2,2,.s 29),(4,5,.s 30),(1,1,.s 32)],none⟩,Ck 5 0 9 1 1 1 3 4 0 5,Ak 9 5 33] [0,1,3,5]<|Rq [Ad 34 1 2,Ad 35 3 4,Bh 36 4 35,Hi 37 1 3 4 0 5 0 2 34 3 1 1 2 1 36,Ad 38 5 9,⟨some 39,.bld [.list 1 [],.list 3 [],.list 4 [],.int .i64 0,.list 5 [],.int .i64 0,.list 9 [],.list 1 [],.list 1 [],.list 1 [],.list 3 [],.list 4 [],.int .i64 0,.list 5 []] [(0,5,.s 37),(5,9,.s 38)],none⟩,Ak 14 0 39] [0]<|.ret) [.cell 0 (some 14)]:=by decide +kernel
instance ti :Ct prog (M8 ) 36 [] (fun r=>.sh (RB r)):=Fi oe fun r h hw hR=>by
  unfold M8 at h
  exact au
theorem oQ:CK f11 (Rq [Aj 0] []<|Rq [El 10 35,El 11 36,Cb 1 4 7,Ez 2 1 3 4 0 5 0 9 1 1 1 3 4 0 5,Ak 2 1 10,Ak 14 2 11] [1,2]<|Rq [Hf 12 1 3 1 1,Fa 13 0 0 0 1 1 0 2 1 1,Fa 14 0 0 0 1 1 0 2 1 2,Dl 15 3 13 14,Di 16 1 3 0 1 12 1 1 15,Ec 17 1 10,Ec 18 1 5,⟨some 19,.lst 1 [.c (.list 1 []),.s 17,.s 18],none⟩,Ey 20 1 3 1 0 2 16 2 1 19,Dj 3 1 3 1,Ak 3 3 20] [1,2,3]<|Rq [Fw 21 1 0 2,Ec 22 1 1,Di 23 1 1 0 1 21 1 1 22,Ec 24 1 5,Ey 25 1 1 1 0 2 23 2 1 24,Dj 4 1 1 1,Ak 3 4 25] [1,2,3,4]<|Rq [Fw 26 1 0 1,Ec 27 1 0,Di 28 1 1 0 1 26 1 1 27,Ec 29 1 10,Ey 30 1 1 1 0 2 28 2 1 29,Dj 5 1 1 1,Ak 3 5 30] [1,2,3,4,5]<|Rq [Ad 32 1 2,Ab 33 2 0,Ad 34 33 5,Ab 35 2 5,Ad 36 35 9,Ad 37 3 3,Ad 38 4 3,Hj 39 20 32 34 36 37 38,Aa 31 39,Al 40 31 0,Al 41 31 1,Dd 6 0 1 1 1 5,Ak 5 6 40,Aa 7 41] [1,2,3,4,5,6,7]<|Rq [Ad 43 1 2,Ab 44 2 0,Ad 45 44 5,Ab 46 2 5,Ad 47 46 9,Ad 48 3 3,Ad 49 5 3,Hj 50 18 43 45 47 48 49,Aa 42 50,Al 51 42 0,Al 52 42 1,Aa 8 51,Aa 9 52] [1,2,3,4,6,7,8,9]<|Rq [Aa 53 7,Bc 54 53 0,Aa 55 54,Au 56 9 55,Cu 57 56 0 55,Ap 58 55 57,Aa 59 58,Au 60 8 59,Eh 61 60 59,Ap 62 59 61,Aa 63 62,Ay 64 6 1 63,By 65 64 2 63,Az 66 65 63,Bw 67 66 63,Cu 68 67 2 63,Ap 69 63 68,Aa 70 69,Ay 71 6 1 70,By 72 71 2 70,Az 73 72 70,⟨some 74,.iad (.s 73) (.c (.int .i64 1)) 1,some (70,true)⟩,Az 75 74 70,Cu 76 75 10 70,Ap 77 70 76,Aa 78 77,Bg 79 1 2 78,Ay 80 2 0 78,Bg 81 80 5 78,Ay 82 2 5 78,Bg 83 82 9 78,Bg 84 3 3 78,Bg 85 4 3 78,Bg 86 6 5 78,⟨some 87,.call 23 [.s 79,.s 81,.s 83,.s 84,.s 85,.c (.bool true),.s 86],some (78,true)⟩,Ap 88 78 87,Aa 0 88] [0]<|.ret) [.tmp 0]:=by decide +kernel
instance tS :Ct prog (FR ) 11 [] (fun r=>.sh (eB r)):=Fi oQ fun r h hw hR=>by
  unfold FR at h
  exact au
theorem j9:CK f186 (Rq [Af 2 0,Bb 4 4] [1,2]<|Sq (Rq [Aa 5 1,Cd 6 5 0] [1,2,6]<|Co 6 (Rq [Bb 4 4] [4]<|.ret)<|Sk [1,2])<|Sq (Dr [4,7,8,9,10,11,12,13,14,15,16,17,18,19,20,21,22,23] [Db 7 4,Ad 8 2 2,Ab 9 2 0,Ac 10 9,Aa 11 1,Ai 12 10 11 4,Ag 13 12 1,Ac 14 13,Av 15 186 8 14,Bj 16 4 7 15,Ab 17 2 0,Ac 18 17,Aa 19 1,Ai 20 18 19 4,Ag 21 20 3,Ac 22 21,Bj 23 4 16 22,Ax 4 23] [4])<|.ret) [.tmp 4]:=by decide +kernel
theorem iR (n:Nat) (_ih_186:∀ (t:Types) (a:Int),Ct prog (G9 n t a) 186 [AU t,eI a] (fun r=>.own (lA r))) (t:Types) (a:Int):Ct prog (G9 (n+1) t a) 186 [AU t,eI a] (fun r=>.own (lA r)):=Fi j9 fun r h hw hR=>by
  unfold G9 at h
  exact au
theorem iQ:∀ n:Nat,(∀ (t:Types) (a:Int),Ct prog (G9 n t a) 186 [AU t,eI a] (fun r=>.own (lA r))):=by
  intro n
  induction n with
  | zero=>exact (fun t a=>⟨fun _ h=>by cases h⟩)
  | succ n ih=>exact iR n ih
instance rW (t:Types) (a:Int):Ct prog (Mj t a) 186 [AU t,eI a] (fun r=>.own (lA r)):=⟨fun r h=>by
  obtain ⟨N,hN⟩:=DK h
  exact ((iQ N) t a).snd r (hN N (Nat.le_refl _))⟩
theorem kB:CK f188 (Rq [Aj 6] [0,1,2]<|Rq [Aa 7 0,Aa 8 1,Cs 9 7 8,Aa 10 9,Au 11 0 10,Au 12 2 10,Eq 13 11 12 10,Ap 14 10 13,Aa 6 14] [6]<|.ret) [.tmp 6]:=by decide +kernel
instance rY (n:Int) (low:Int) (high:Int):Ct prog (D2 n low high) 188 [eI n,eI low,eI high] (fun r=>.sh (eB r)):=Fi kB fun r h hw hR=>by
  unfold D2 at h
  exact au
theorem lc:CK f280 (Rq [Af 1 0,Cy 2] [1]<|Sq (Rq [Ab 3 1 0,Ac 4 3,Bc 5 4 3] [1,5]<|Co 5 (Rq [Ab 6 1 1,Ac 7 6,⟨some 8,.bin (.s) .add (.c (.str ⟨#[34]⟩)) (.s 7),none⟩,⟨some 9,.bin (.s) .add (.s 8) (.c (.str ⟨#[34]⟩)),none⟩,Aa 2 9] [2]<|.ret)<|Sk [1])<|Rq [Ab 10 1 1,Ac 11 10,Aa 2 11] [2]<|.ret) [.tmp 2]:=by decide +kernel
instance sr (t:E7):Ct prog (NQ t) 280 [Ry t] (fun r=>.sh (eS r)):=Fi lc fun r h hw hR=>by
  unfold NQ at h
  exact au
theorem ls:CK f302 (Rq [Aj 2] [0]<|Rq [Aa 3 0,Ep 4 3 97,Aa 5 4,Au 6 0 5,Du 7 6 122 5,Ap 8 5 7,Aa 9 8,As 10 0 9,Gx 11 10 65 9,As 12 11 9,Au 13 0 12,Du 14 13 90 12,Cc 15 12 14 9,Aq 16 9 15,Aa 2 16] [2]<|.ret) [.tmp 2]:=by decide +kernel
instance tB (c:Int):Ct prog (KN c) 302 [G4 c] (fun r=>.sh (eB r)):=Fi ls fun r h hw hR=>by
  unfold KN at h
  exact au
theorem lu:CK f303 (Rq [Aj 2] [0]<|Rq [Aa 3 0,Ep 4 3 48,Aa 5 4,Au 6 0 5,Du 7 6 57 5,Ap 8 5 7,Aa 2 8] [2]<|.ret) [.tmp 2]:=by decide +kernel
instance tC (c:Int):Ct prog (Ip c) 303 [G4 c] (fun r=>.sh (eB r)):=Fi lu fun r h hw hR=>by
  unfold Ip at h
  exact au
theorem lv:CK f304 (Rq [Ae 6 0] [0,1,2]<|Rq [Ae 7 0] [0,1,2,7]<|Sq (Bl 0<|Lo [0,1,2,7]<|Sq (Rq [Aa 8 1,Aa 9 7,Bm 10 8 9,Aa 11 0,Cw 12 11,An 13 10 12,Aa 14 13,Au 15 0 14,Au 16 1 14,Au 17 7 14,Fx 18 16 17 14,Ga 19 15 18 14,Ca 20 303 19 14,Au 21 20 14,As 22 2 21,Br 23 22 21,As 24 23 21,Au 25 0 24,Au 26 1 24,Au 27 7 24,Fx 28 26 27 24,Ga 29 25 28 24,Ca 30 302 29 24,Au 31 30 24,As 32 0 31,As 33 1 31,As 34 7 31,Gt 35 33 34 31,⟨some 36,.sidx (.s 32) (.s 35),some (31,false)⟩,Gy 37 36 95 31,Ef 38 31 37 24,Cc 39 24 38 21,Ef 40 21 39 14,Ap 41 14 40] [0,1,2,7,41]<|Co 41 (Sk [0,1,2,7])<|Ex 0 [7])<|Bl 1<|Re [Aa 42 7,Am 43 42 1,Aa 7 43] [0,1,2,7])<|Rq [Aa 44 7,Aa 6 44] [6]<|.ret) [.tmp 6]:=by decide +kernel
instance tD (s_0:ByteArray) (AB:Int) (digits:Bool):Ct prog (Mv s_0 AB digits) 304 [eS s_0,eI AB,eB digits] (fun r=>.sh (eI r)):=Fi lv fun r h hw hR=>by
  unfold Mv at h
  have:HW 0 fun (s0:Int)=>[(7,.tv (eI s0))]:=⟨⟩
  exact au
theorem lw:CK f305 (Rq [Ae 4 0] [0,1]<|Sq (Rq [Ae 5 1] [0,1,5]<|Bl 0<|Lo [0,1,5]<|Sq (Rq [Aa 7 1,Aa 8 5,Bm 9 7 8,Aa 10 0,Cw 11 10,An 12 9 11] [0,1,5,12]<|Co 12 (Sk [0,1,5])<|Ex 0 [])<|Sq (Bl 1<|Rq [Aa 15 0,Aa 16 1,Aa 17 5,Bm 18 16 17,⟨some 19,.sidx (.s 15) (.s 18),none⟩,Aa 6 19] [0,1,5,6]<|Sq (Rq [Aa 20 6,Cn 21 20 34] [0,1,5,6,21]<|Co 21 (Rq [Aa 22 5,Am 23 22 1,Aa 4 23] [4]<|.ret)<|Sk [0,1,5,6])<|Rq [Aa 24 6,⟨some 25,.bin (.i) .lss (.s 24) (.c (.int .u8 32)),none⟩,Aa 26 25,As 27 6 26,⟨some 28,.bin (.i) .gtr (.s 27) (.c (.int .u8 126)),some (26,false)⟩,Aq 29 26 28] [0,1,5,29]<|Co 29 (Rq [Ae 4 0] [4]<|.ret)<|Sk [0,1,5])<|Re [Aa 13 5,Am 14 13 1,Aa 5 14] [0,1,5])<|Rq [Ae 4 0] [4]<|.ret) [.tmp 4]:=by decide +kernel
instance tE (s_0:ByteArray) (AB:Int):Ct prog (KO s_0 AB) 305 [eS s_0,eI AB] (fun r=>.sh (eI r)):=Fi lw fun r h hw hR=>by
  unfold KO at h
  have:HW 0 fun (s0:Int)=>[(5,.tv (eI s0))]:=⟨⟩
  exact au
theorem ly:CK f306 (Rq [Bb 0 1] []<|Rq [⟨some 1,.lst 1 [.c (.str ⟨#[45,62]⟩),.c (.str ⟨#[60,61]⟩),.c (.str ⟨#[62,61]⟩),.c (.str ⟨#[61,61]⟩),.c (.str ⟨#[33,61]⟩),.c (.str ⟨#[123]⟩),.c (.str ⟨#[125]⟩),.c (.str ⟨#[40]⟩),.c (.str ⟨#[41]⟩),.c (.str ⟨#[91]⟩),.c (.str ⟨#[93]⟩),.c (.str ⟨#[44]⟩),.c (.str ⟨#[59]⟩),.c (.str ⟨#[58]⟩),.c (.str ⟨#[61]⟩),.c (.str ⟨#[43]⟩),.c (.str ⟨#[45]⟩),.c (.str ⟨#[42]⟩),.c (.str ⟨#[60]⟩),.c (.str ⟨#[62]⟩),.c (.str ⟨#[33]⟩),.c (.str ⟨#[38]⟩),.c (.str ⟨#[124]⟩),.c (.str ⟨#[46]⟩),.c (.str ⟨#[63]⟩)],none⟩,Ax 0 1] [0]<|.ret) [.tmp 0]:=by decide +kernel
instance tF :Ct prog (Mi ) 306 [] (fun r=>.own (lB r)):=Fi ly fun r h hw hR=>by
  unfold Mi at h
  exact au
theorem lf:CK f281 (Rq [Hk 4 0 0,Ae 5 0,Ae 6 0] [0,1,4]<|Rq [Aa 14 0,Aa 15 1,⟨some 16,.sidx (.s 14) (.s 15),none⟩,Aa 7 16] [0,1,4,7]<|Sq (Rq [Aa 17 7,Ba 18 302 17,Aa 19 18,As 20 7 19,Dv 21 303 20 19,Aq 22 19 21] [0,1,4,7,22]<|Co 22 (Rq [Aa 23 0,Aa 24 1,Aa 25 7,Ba 26 303 25,Bf 27 304 23 24 26,Aa 8 27] [0,1,4,7,8]<|Rq [Ae 9 1,Ae 10 20] [0,1,4,7,8,9,10]<|Sq (Rq [Aa 28 7,Ba 29 303 28] [0,1,4,8,9,10,29]<|Co 29 (Re [Ae 9 2,Ae 10 9] [0,1,4,8,9,10])<|Sk [0,1,4,8,9,10])<|Sq (Rq [Aa 30 8,Aa 31 10,Ew 32 30 31] [0,1,4,8,9,32]<|Co 32 (Rq [Fy 33 0 0,Ak 3 4 33,Ae 5 0,Ae 6 3] [4,5,6]<|.ret)<|Sk [0,1,4,8,9])<|Rq [Aa 34 9,Aa 35 0,Aa 36 1,Aa 37 1,Aa 38 8,Bm 39 37 38,⟨some 40,.sslc (.s 35) (some (.s 36)) (some (.s 39)),none⟩,⟨some 41,.bld [.int .i64 0,.str ⟨#[]⟩,.int .i64 0] [(0,1,.s 34),(1,1,.s 40)],none⟩,Aa 42 8,Ak 3 4 41,Aa 5 42,Ae 6 0] [4,5,6]<|.ret)<|Sk [0,1,4,7])<|Sq (Rq [Aa 43 7,Cn 44 43 34] [0,1,4,44]<|Co 44 (Rq [Aa 45 0,Aa 46 1,Av 47 305 45 46,Aa 11 47] [0,1,4,11]<|Sq (Rq [Aa 48 11,Bc 49 48 0] [0,1,4,11,49]<|Co 49 (Rq [Fy 50 0 0,Ak 3 4 50,Ae 5 0,Ae 6 2] [4,5,6]<|.ret)<|Sk [0,1,4,11])<|Sq (Rq [Aa 51 11,Bx 52 51 2,Bk 53 52 60] [0,1,4,11,53]<|Co 53 (Rq [Fy 54 0 0,Ak 3 4 54,Ae 5 0,Ae 6 3] [4,5,6]<|.ret)<|Sk [0,1,4,11])<|Rq [Aa 55 0,Aa 56 1,Am 57 56 1,Aa 58 1,Aa 59 11,Bm 60 58 59,Bx 61 60 1,⟨some 62,.sslc (.s 55) (some (.s 57)) (some (.s 61)),none⟩,Ff 63 0 0 0 1 3 1 1 62,Aa 64 11,Ak 3 4 63,Aa 5 64,Ae 6 0] [4,5,6]<|.ret)<|Sk [0,1,4])<|Rq [El 65 306,Ax 12 65] [0,1,4,12]<|Sq (Rq [Ae 13 0] [0,1,4,12,13]<|Bl 0<|Lo [0,1,4,12,13]<|Sq (Rq [Aa 66 13,Aa 67 12,Ah 68 67,An 69 66 68] [0,1,4,12,13,69]<|Co 69 (Sk [0,1,4,12,13])<|Ex 0 [4])<|Sq (Bl 1<|Sq (Dr [72,73,74,75,76,77,78,79,80,81,82,83,84,85,86,87,88,89,90,91,92,93,94,95,96,97,98] [Aa 72 1,Aa 73 12,Aa 74 13,Ai 75 73 74 1,Ac 76 75,Cw 77 76,Bm 78 72 77,Aa 79 0,Cw 80 79,⟨some 81,.bin (.i) .leq (.s 78) (.s 80),none⟩,Aa 82 81,Au 83 0 82,Au 84 1 82,Au 85 1 82,Au 86 12 82,Au 87 13 82,Dg 88 86 87 1 82,Az 89 88 82,Gb 90 89 82,Fx 91 85 90 82,⟨some 92,.sslc (.s 83) (some (.s 84)) (some (.s 91)),some (82,true)⟩,Au 93 12 82,Au 94 13 82,Dg 95 93 94 1 82,Az 96 95 82,⟨some 97,.bin (.s) .eql (.s 92) (.s 96),some (82,true)⟩,Ap 98 82 97] [0,1,4,12,13,98])<|Co 98 (Sq (Dr [4,5,6,99,100,101,102,103,104,105,106,107,108] [Aa 99 12,Aa 100 13,Ai 101 99 100 1,Ac 102 101,Ff 103 0 0 0 1 4 1 1 102,Aa 104 12,Aa 105 13,Ai 106 104 105 1,Ac 107 106,Cw 108 107,Ak 3 4 103,Aa 5 108,Ae 6 0] [4,5,6])<|.ret)<|Sk [0,1,4,12,13])<|Re [Aa 70 13,Am 71 70 1,Aa 13 71] [0,1,4,12,13])<|Rq [Fy 109 0 0,Ak 3 4 109,Ae 5 0,Ae 6 2] [4,5,6]<|.ret) [.cell 4 (some 3),.tmp 5,.tmp 6]:=by decide +kernel
instance su (s_0:ByteArray) (AB:Int):Ct prog (Mu s_0 AB) 281 [eS s_0,eI AB] (fun r=>.tp [Ry r.1,eI r.2.1,eI r.2.2]):=Fi lf fun r h hw hR=>by
  unfold Mu at h
  have:HJ 29 fun (w1:Int × Int)=>[(9,.tv (eI w1.1)),(10,.tv (eI w1.2))]:=⟨⟩
  have:HA 0 13 12 0 fun (i0:Int) (s0:E7)=>[(4,.bx [⟨false,eI s0.Kind⟩,⟨false,eS s0.Text⟩,⟨false,eI s0.Line⟩]),(13,.tv (eI i0))]:=⟨⟩
  exact au
theorem lL:CK f253 (Rq [Af 1 0,Aj 2] [1]<|Rq [Ad 7 1 3,Ba 8 280 7,Aa 3 8] [1,3]<|Sq (Rq [Aa 9 3,⟨some 10,.bin (.s) .eql (.s 9) (.c (.str ⟨#[]⟩)),none⟩] [1,3,10]<|Co 10 (Rq [Aj 2] [2]<|.ret)<|Sk [1,3])<|Rq [Aa 12 3,Es 13 281 12 0,Aa 11 13,Al 14 11 0,Al 15 11 1,Al 16 11 2,Hk 4 0 0,Ak 3 4 14,Aa 5 15,Aa 6 16] [1,3,4,5,6]<|Rq [Aa 17 6,Bc 18 17 0,Aa 19 18,Au 20 5 19,Au 21 3 19,Gb 22 21 19,Df 23 20 22 19,Ap 24 19 23,Aa 25 24,Ay 26 4 0 25,Az 27 26 25,Ay 28 1 0 25,Az 29 28 25,Df 30 27 29 25,Ap 31 25 30,Aa 2 31] [2]<|.ret) [.tmp 2]:=by decide +kernel
instance sa (t:E7):Ct prog (Mh t) 253 [Ry t] (fun r=>.sh (eB r)):=Fi lL fun r h hw hR=>by
  unfold Mh at h
  exact au
theorem kh:CK f223 (Rq [Aj 2] [0]<|Rq [Aa 3 0,Ff 4 0 0 0 1 1 1 1 3,Ba 5 253 4,Aa 2 5] [2]<|.ret) [.tmp 2]:=by decide +kernel
instance sC (s_0:ByteArray):Ct prog (G7 s_0) 223 [eS s_0] (fun r=>.sh (eB r)):=Fi kh fun r h hw hR=>by
  unfold G7 at h
  exact au
theorem lM:CK f254 (Rq [Ae 2 0] [0]<|Sq (Rq [Aa 5 0,Ah 6 5,Bk 7 6 20] [0,7]<|Co 7 (Rq [Ae 2 3] [2]<|.ret)<|Sk [0])<|Sq (Rq [Ae 3 0] [0,3]<|Bl 0<|Lo [0,3]<|Sq (Rq [Aa 8 3,Aa 9 0,Ah 10 9,An 11 8 10] [0,3,11]<|Co 11 (Sk [0,3])<|Ex 0 [])<|Sq (Bl 1<|Sq (Rq [Aa 14 0,Aa 15 3,Ai 16 14 15 1,Ac 17 16,Ba 18 223 17,Be 19 18] [0,3,19]<|Co 19 (Rq [Ae 2 2] [2]<|.ret)<|Sk [0,3])<|Rq [Ae 4 0] [0,3,4]<|Bl 2<|Lo [0,3,4]<|Sq (Rq [Aa 20 4,Aa 21 3,An 22 20 21] [0,3,4,22]<|Co 22 (Sk [0,3,4])<|Ex 2 [0,3])<|Sq (Bl 3<|Sq (Dr [25,26,27,28,29,30,31,32,33] [Aa 25 0,Aa 26 4,Ai 27 25 26 1,Ac 28 27,Aa 29 0,Aa 30 3,Ai 31 29 30 1,Ac 32 31,Dn 33 28 32] [0,3,4,33])<|Co 33 (Rq [Ae 2 5] [2]<|.ret)<|Sk [0,3,4])<|Re [Aa 23 4,Am 24 23 1,Aa 4 24] [0,3,4])<|Re [Aa 12 3,Am 13 12 1,Aa 3 13] [0,3])<|Rq [Ae 2 0] [2]<|.ret) [.tmp 2]:=by decide +kernel
instance sb (l:List ByteArray):Ct prog (K3 l) 254 [lB l] (fun r=>.sh (eI r)):=Fi lM fun r h hw hR=>by
  unfold K3 at h
  have:HA 0 3 0 0 fun (i0:Int) (_:Unit)=>[(3,.tv (eI i0))]:=⟨⟩
  have:HA 2 4 3 0 fun (i2:Int) (_:Unit)=>[(4,.tv (eI i2))]:=⟨⟩
  exact au
theorem ki:CK f224 (Rq [Af 1 0,Ae 2 0] [1]<|Sq (Rq [Ab 4 1 3,Ac 5 4,Ah 6 5,Bc 7 6 0] [1,7]<|Co 7 (Sq (Rq [Ab 8 1 1,Ac 9 8,⟨some 10,.call 188 [.s 9,.c (.int .i64 (-1000000)),.c (.int .i64 1000000)],none⟩,Be 11 10,Aa 12 11,Ar 13 1 2 12,Ao 14 13 12,Ar 15 1 1 12,Ao 16 15 12,Hl 17 188 14 16 1000000 12,Br 18 17 12,Aq 19 12 18] [19]<|Co 19 (Rq [Ae 2 6] [2]<|.ret)<|Sk [])<|Rq [Ae 2 0] [2]<|.ret)<|Sk [1])<|Sq (Rq [Ab 20 1 3,Ac 21 20,Ba 22 254 21,Aa 3 22] [1,3]<|Rq [Aa 23 3,Aw 24 23 0] [1,3,24]<|Co 24 (Rq [Aa 25 3,Aa 2 25] [2]<|.ret)<|Sk [1])<|Sq (Rq [Ab 26 1 1,Ac 27 26,Aw 28 27 0,Aa 29 28,Ar 30 1 2 29,Ao 31 30 29,Ar 32 1 3 29,Ao 33 32 29,Bi 34 33 29,Fp 35 34 1 29,Cv 36 31 35 29,Aq 37 29 36] [37]<|Co 37 (Rq [Ae 2 6] [2]<|.ret)<|Sk [])<|Rq [Ae 2 0] [2]<|.ret) [.tmp 2]:=by decide +kernel
instance sE (a:Attr):Ct prog (Ia a) 224 [IS a] (fun r=>.sh (eI r)):=Fi ki fun r h hw hR=>by
  unfold Ia at h
  exact au
theorem ji:CK f162 (Rq [Af 2 0,Ae 4 0] [1,2]<|Rq [Ab 11 2 0,Ac 12 11,Aa 13 1,Ai 14 12 13 4,Ad 15 14 4,Fh 5 0 4,Ak 4 5 15] [1,2,5]<|Sq (Rq [Ab 16 5 0,Ac 17 16,Ba 18 223 17,Be 19 18] [1,2,5,19]<|Co 19 (Rq [Ae 4 2] [4]<|.ret)<|Sk [1,2,5])<|Sq (Rq [Ae 6 0] [1,2,5,6]<|Bl 0<|Lo [1,2,5,6]<|Sq (Rq [Aa 20 6,Aa 21 1,An 22 20 21] [1,2,5,6,22]<|Co 22 (Sk [1,2,5,6])<|Ex 0 [1,2,5])<|Sq (Bl 1<|Sq (Dr [25,26,27,28,29,30,31,32,33] [Ab 25 2 0,Ac 26 25,Aa 27 6,Ai 28 26 27 4,Ag 29 28 0,Ac 30 29,Ab 31 5 0,Ac 32 31,Dn 33 30 32] [1,2,5,6,33])<|Co 33 (Rq [Ae 4 5] [4]<|.ret)<|Sk [1,2,5,6])<|Re [Aa 23 6,Am 24 23 1,Aa 6 24] [1,2,5,6])<|Sq (Rq [Ab 34 5 1,Ac 35 34,Aa 36 1,Bx 37 36 1,⟨some 38,.call 188 [.s 35,.c (.int .i64 (-1)),.s 37],none⟩,Be 39 38] [1,2,5,39]<|Co 39 (Rq [Ae 4 6] [4]<|.ret)<|Sk [1,2,5])<|Rq [Ad 40 2 2,Aa 41 1,Av 42 186 40 41,Ax 7 42] [5,7]<|Sq (Rq [Ab 43 5 3,Ac 44 43,Ah 45 44,Bk 46 45 4,Aa 47 46,As 48 7 47,Bi 49 48 47,Cg 50 49 8 47,Aq 51 47 50] [5,7,51]<|Co 51 (Rq [Ae 4 3] [4]<|.ret)<|Sk [5,7])<|Sq (Rq [Aa 52 7,Ah 53 52,Ab 54 5 3,Ac 55 54,Ah 56 55,Dx 57 53 56,Aa 8 57] [7,8]<|Bl 2<|Lo [7,8]<|Sq (Rq [Aa 58 8,Aa 59 7,Ah 60 59,An 61 58 60] [7,8,61]<|Co 61 (Sk [7,8])<|Ex 2 [])<|Sq (Bl 3<|Sq (Rq [Aa 64 7,Aa 65 8,Ai 66 64 65 4,Ag 67 66 0,Ac 68 67,Ba 69 223 68,Be 70 69] [7,8,70]<|Co 70 (Rq [Ae 4 2] [4]<|.ret)<|Sk [7,8])<|Sq (Rq [Ae 9 0] [7,8,9]<|Bl 4<|Lo [7,8,9]<|Sq (Rq [Aa 71 9,Aa 72 8,An 73 71 72] [7,8,9,73]<|Co 73 (Sk [7,8,9])<|Ex 4 [7,8])<|Sq (Bl 5<|Sq (Dr [76,77,78,79,80,81,82,83,84,85,86] [Aa 76 7,Aa 77 9,Ai 78 76 77 4,Ag 79 78 0,Ac 80 79,Aa 81 7,Aa 82 8,Ai 83 81 82 4,Ag 84 83 0,Ac 85 84,Dn 86 80 85] [7,8,9,86])<|Co 86 (Rq [Ae 4 5] [4]<|.ret)<|Sk [7,8,9])<|Re [Aa 74 9,Am 75 74 1,Aa 9 75] [7,8,9])<|Rq [Aa 87 7,Aa 88 8,Ai 89 87 88 4,Ad 90 89 4,Ba 91 224 90,Aa 10 91] [7,8,10]<|Rq [Aa 92 10,Aw 93 92 0] [7,8,10,93]<|Co 93 (Rq [Aa 94 10,Aa 4 94] [4]<|.ret)<|Sk [7,8])<|Re [Aa 62 8,Am 63 62 1,Aa 8 63] [7,8])<|Rq [Ae 4 0] [4]<|.ret) [.tmp 4]:=by decide +kernel
instance rD (t:Types) (i_1:Int):Ct prog (Lz t i_1) 162 [AU t,eI i_1] (fun r=>.sh (eI r)):=Fi ji fun r h hw hR=>by
  unfold Lz at h
  have:HA 0 6 1 0 fun (i0:Int) (_:Unit)=>[(6,.tv (eI i0))]:=⟨⟩
  have:HA 2 8 7 0 fun (i2:Int) (_:Unit)=>[(8,.tv (eI i2))]:=⟨⟩
  have:HA 4 9 8 0 fun (i4:Int) (_:Unit)=>[(9,.tv (eI i4))]:=⟨⟩
  exact au
theorem kj:CK f225 (Rq [Aj 4] [0,1]<|Rq [Aa 5 0,Ha 6 188 5 0 40,Aa 7 6,Au 8 1 7,Gz 9 8 (-1) 7,Au 10 9 7,As 11 1 10,As 12 0 10,Hl 13 188 11 12 40 10,Ef 14 10 13 7,Ap 15 7 14,Aa 4 15] [4]<|.ret) [.tmp 4]:=by decide +kernel
instance sF (low:Int) (high:Int):Ct prog (Jr low high) 225 [eI low,eI high] (fun r=>.sh (eB r)):=Fi kj fun r h hw hR=>by
  unfold Jr at h
  exact au
theorem jk:CK f163 (Rq [Af 2 0,Ae 4 0] [1,2]<|Rq [Ab 8 2 1,Ac 9 8,Aa 10 1,Ai 11 9 10 7,Ad 12 11 7,Gf 5 0 0 0 0 0 0,Ak 7 5 12] [1,2,5]<|Sq (Rq [Ab 13 5 0,Ac 14 13,Ba 15 223 14,Be 16 15] [1,2,5,16]<|Co 16 (Rq [Ae 4 2] [4]<|.ret)<|Sk [1,2,5])<|Sq (Rq [Ae 6 0] [1,2,5,6]<|Bl 0<|Lo [1,2,5,6]<|Sq (Rq [Aa 17 6,Aa 18 1,An 19 17 18] [1,2,5,6,19]<|Co 19 (Sk [1,2,5,6])<|Ex 0 [2,5])<|Sq (Bl 1<|Sq (Dr [22,23,24,25,26,27,28,29,30] [Ab 22 2 1,Ac 23 22,Aa 24 6,Ai 25 23 24 7,Ag 26 25 0,Ac 27 26,Ab 28 5 0,Ac 29 28,Dn 30 27 29] [1,2,5,6,30])<|Co 30 (Rq [Ae 4 5] [4]<|.ret)<|Sk [1,2,5,6])<|Re [Aa 20 6,Am 21 20 1,Aa 6 21] [1,2,5,6])<|Rq [Ab 31 2 0,Ac 32 31,Ah 33 32,Bx 34 33 1,Aa 7 34] [5,7]<|Sq (Rq [Ab 35 5 1,Ac 36 35,Aa 37 7,Fk 38 188 36 0 37,Be 39 38,Aa 40 39,Ar 41 5 2 40,Ao 42 41 40,As 43 7 40,Gu 44 188 42 0 43 40,Br 45 44 40,Aq 46 40 45,Aa 47 46,Ar 48 5 3 47,Ao 49 48 47,Ar 50 5 4 47,Ao 51 50 47,Dk 52 225 49 51 47,Br 53 52 47,Aq 54 47 53,Aa 55 54,Ar 56 5 5 55,Ao 57 56 55,Ar 58 5 6 55,Ao 59 58 55,Dk 60 225 57 59 55,Br 61 60 55,Aq 62 55 61] [62]<|Co 62 (Rq [Ae 4 6] [4]<|.ret)<|Sk [])<|Rq [Ae 4 0] [4]<|.ret) [.tmp 4]:=by decide +kernel
instance rE (t:Types) (i_1:Int):Ct prog (Ly t i_1) 163 [AU t,eI i_1] (fun r=>.sh (eI r)):=Fi jk fun r h hw hR=>by
  unfold Ly at h
  have:HA 0 6 1 0 fun (i0:Int) (_:Unit)=>[(6,.tv (eI i0))]:=⟨⟩
  exact au
theorem pW:CK f94 (Rq [Af 1 0,Cy 2,Ae 3 0] [1]<|Sq (Rq [Ab 8 1 0,Ac 9 8,Ah 10 9,Bc 11 10 0] [1,11]<|Co 11 (Rq [Cy 2,Ae 3 7] [2,3]<|.ret)<|Sk [1])<|Sq (Rq [Ab 12 1 0,Ac 13 12,Ah 14 13,Bk 15 14 12,Aa 16 15,Ar 17 1 1 16,Ao 18 17 16,Bi 19 18 16,Cg 20 19 20 16,Aq 21 16 20] [1,21]<|Co 21 (Rq [Cy 2,Ae 3 3] [2,3]<|.ret)<|Sk [1])<|Sq (Rq [Ae 4 0] [1,4]<|Bl 0<|Lo [1,4]<|Sq (Rq [Aa 22 4,Ab 23 1 0,Ac 24 23,Ah 25 24,An 26 22 25] [1,4,26]<|Co 26 (Sk [1,4])<|Ex 0 [1])<|Sq (Bl 1<|Rq [Ad 29 1 2,Aa 30 4,Av 31 162 29 30,Aa 5 31] [1,4,5]<|Rq [Aa 32 5,Aw 33 32 0] [1,4,5,33]<|Co 33 (Rq [Ab 34 1 0,Ac 35 34,Aa 36 4,Ai 37 35 36 4,Ag 38 37 0,Ac 39 38,Aa 40 5,Aa 2 39,Aa 3 40] [2,3]<|.ret)<|Sk [1,4])<|Re [Aa 27 4,Am 28 27 1,Aa 4 28] [1,4])<|Sq (Rq [Ae 6 0] [1,6]<|Bl 2<|Lo [1,6]<|Sq (Rq [Aa 41 6,Ab 42 1 1,Ac 43 42,Ah 44 43,An 45 41 44] [1,6,45]<|Co 45 (Sk [1,6])<|Ex 2 [])<|Sq (Bl 3<|Rq [Ad 48 1 2,Aa 49 6,Av 50 163 48 49,Aa 7 50] [1,6,7]<|Rq [Aa 51 7,Aw 52 51 0] [1,6,7,52]<|Co 52 (Rq [Ab 53 1 1,Ac 54 53,Aa 55 6,Ai 56 54 55 7,Ag 57 56 0,Ac 58 57,Aa 59 7,Aa 2 58,Aa 3 59] [2,3]<|.ret)<|Sk [1,6])<|Re [Aa 46 6,Am 47 46 1,Aa 6 47] [1,6])<|Rq [Cy 2,Ae 3 0] [2,3]<|.ret) [.tmp 2,.tmp 3]:=by decide +kernel
instance uf (t:Types):Ct prog (Ht t) 94 [AU t] (fun r=>.tp [eS r.1,eI r.2]):=Fi pW fun r h hw hR=>by
  unfold Ht at h
  have:HA 0 4 1 0 fun (i0:Int) (_:Unit)=>[(4,.tv (eI i0))]:=⟨⟩
  have:HA 2 6 1 1 fun (i2:Int) (_:Unit)=>[(6,.tv (eI i2))]:=⟨⟩
  exact au
theorem jm:CK f164 (Rq [Aj 2] [0]<|Rq [Aa 3 0,Bp 4 3 0,Aa 5 4,Au 6 0 5,Cm 7 6 99 5,Ap 8 5 7,Aa 2 8] [2]<|.ret) [.tmp 2]:=by decide +kernel
instance rF (n:Int):Ct prog (Kb n) 164 [eI n] (fun r=>.sh (eB r)):=Fi jm fun r h hw hR=>by
  unfold Kb at h
  exact au
theorem jn:CK f165 (Rq [Af 2 0,Aj 4] [1,2]<|Rq [Ab 5 2 0,Ac 6 5,Ba 7 164 6,Aa 8 7,Ay 9 2 1 8,Az 10 9 8,Fv 11 10 0 8,Ap 12 8 11,Aa 13 12,Ay 14 2 1 13,Az 15 14 13,Au 16 1 13,Er 17 15 16 13,Ap 18 13 17,Aa 19 18,Ay 20 2 2 19,Az 21 20 19,Fv 22 21 0 19,Ap 23 19 22,Aa 24 23,Ay 25 2 2 24,Az 26 25 24,Au 27 1 24,Er 28 26 27 24,Ap 29 24 28,Aa 4 29] [4]<|.ret) [.tmp 4]:=by decide +kernel
instance rG (e:B6) (nodes:Int):Ct prog (Mk e nodes) 165 [EB e,eI nodes] (fun r=>.sh (eB r)):=Fi jn fun r h hw hR=>by
  unfold Mk at h
  exact au
theorem pX:CK f95 (Rq [Af 1 0,Ae 2 0] [1]<|Sq (Rq [Ab 5 1 0,Ac 6 5,Ah 7 6,Bk 8 7 40,Aa 9 8,Ar 10 1 1 9,Ao 11 10 9,Bi 12 11 9,Cg 13 12 80 9,Aq 14 9 13] [1,14]<|Co 14 (Rq [Ae 2 3] [2]<|.ret)<|Sk [1])<|Sq (Rq [Ae 3 0] [1,3]<|Bl 0<|Lo [1,3]<|Sq (Rq [Aa 15 3,Ab 16 1 0,Ac 17 16,Ah 18 17,An 19 15 18] [1,3,19]<|Co 19 (Sk [1,3])<|Ex 0 [1])<|Sq (Bl 1<|Rq [Ab 22 1 0,Ac 23 22,Aa 24 3,Ai 25 23 24 1,Ac 26 25,Ba 27 164 26,Be 28 27] [1,3,28]<|Co 28 (Rq [Ae 2 6] [2]<|.ret)<|Sk [1,3])<|Re [Aa 20 3,Am 21 20 1,Aa 3 21] [1,3])<|Sq (Rq [Ae 4 0] [1,4]<|Bl 2<|Lo [1,4]<|Sq (Rq [Aa 29 4,Ab 30 1 1,Ac 31 30,Ah 32 31,An 33 29 32] [1,4,33]<|Co 33 (Sk [1,4])<|Ex 2 [])<|Sq (Bl 3<|Sq (Dr [36,37,38,39,40,41,42,43,44,45] [Ab 36 1 1,Ac 37 36,Aa 38 4,Ai 39 37 38 3,Ad 40 39 3,Ab 41 1 0,Ac 42 41,Ah 43 42,Av 44 165 40 43,Be 45 44] [1,4,45])<|Co 45 (Rq [Ae 2 6] [2]<|.ret)<|Sk [1,4])<|Re [Aa 34 4,Am 35 34 1,Aa 4 35] [1,4])<|Rq [Ae 2 0] [2]<|.ret) [.tmp 2]:=by decide +kernel
instance ug (g:Graph):Ct prog (FT g) 95 [CA g] (fun r=>.sh (eI r)):=Fi pX fun r h hw hR=>by
  unfold FT at h
  have:HA 0 3 1 0 fun (i0:Int) (_:Unit)=>[(3,.tv (eI i0))]:=⟨⟩
  have:HA 2 4 1 1 fun (i2:Int) (_:Unit)=>[(4,.tv (eI i2))]:=⟨⟩
  exact au
theorem pY:CK f96 (Rq [Af 2 0,Af 3 1,Aj 4] [2,3]<|Sq (Rq [Ae 5 0] [2,3,5]<|Bl 0<|Lo [2,3,5]<|Sq (Rq [Aa 7 5,Ab 8 3 0,Ac 9 8,Ah 10 9,An 11 7 10] [2,3,5,11]<|Co 11 (Sk [2,3,5])<|Ex 0 [2,3])<|Sq (Bl 1<|Sq (Dr [14,15,16,17,18,19,20,21,22,23,24,25,26,27,28,29,30] [Ab 14 3 0,Ac 15 14,Aa 16 5,Ai 17 15 16 1,Ac 18 17,Cd 19 18 0,Aa 20 19,Ar 21 3 0 20,Ao 22 21 20,As 23 5 20,Cf 24 22 23 1 20,Ao 25 24 20,Ar 26 2 0 20,Ao 27 26 20,Bi 28 27 20,Bz 29 25 28 20,Aq 30 20 29] [2,3,5,30])<|Co 30 (Rq [Aj 4] [4]<|.ret)<|Sk [2,3,5])<|Re [Aa 12 5,Am 13 12 1,Aa 5 13] [2,3,5])<|Sq (Rq [Ae 6 0] [2,3,6]<|Bl 2<|Lo [2,3,6]<|Sq (Rq [Aa 31 6,Ab 32 3 1,Ac 33 32,Ah 34 33,An 35 31 34] [2,3,6,35]<|Co 35 (Sk [2,3,6])<|Ex 2 [])<|Sq (Bl 3<|Sq (Dr [38,39,40,41,42,43,44,45,46,47,48,49,50,51,52,53,54,55,56] [Ab 38 3 1,Ac 39 38,Aa 40 6,Ai 41 39 40 3,Ag 42 41 0,Ac 43 42,Cd 44 43 0,Aa 45 44,Ar 46 3 1 45,Ao 47 46 45,As 48 6 45,Cf 49 47 48 3 45,Bn 50 49 0 45,Ao 51 50 45,Ar 52 2 1 45,Ao 53 52 45,Bi 54 53 45,Bz 55 51 54 45,Aq 56 45 55] [2,3,6,56])<|Co 56 (Rq [Aj 4] [4]<|.ret)<|Sk [2,3,6])<|Re [Aa 36 6,Am 37 36 1,Aa 6 37] [2,3,6])<|Rq [Bv 4] [4]<|.ret) [.tmp 4]:=by decide +kernel
instance uh (t:Types) (g:Graph):Ct prog (Ir t g) 96 [AU t,CA g] (fun r=>.sh (eB r)):=Fi pY fun r h hw hR=>by
  unfold Ir at h
  have:HA 0 5 3 0 fun (i0:Int) (_:Unit)=>[(5,.tv (eI i0))]:=⟨⟩
  have:HA 2 6 3 1 fun (i2:Int) (_:Unit)=>[(6,.tv (eI i2))]:=⟨⟩
  exact au
theorem j8:CK f185 (Rq [Af 3 0,Ae 6 0] [1,2,3]<|Sq (Rq [Ad 10 3 2,Ba 11 94 10,Aa 9 11,Al 12 9 0,Al 13 9 1,Aa 7 12,Aa 8 13] [1,2,3,8]<|Rq [Aa 14 8,Aw 15 14 0] [1,2,3,8,15]<|Co 15 (Rq [Aa 16 8,Aa 6 16] [6]<|.ret)<|Sk [1,2,3])<|Sq (Rq [Aa 17 1,Ab 18 3 0,Ac 19 18,Ah 20 19,Bx 21 20 1,Fk 22 188 17 0 21,Be 23 22,Aa 24 23,As 25 2 24,Ar 26 3 0 24,Ao 27 26 24,Bi 28 27 24,Fp 29 28 1 24,Gu 30 188 25 0 29 24,Br 31 30 24,Aq 32 24 31] [32]<|Co 32 (Rq [Ae 6 6] [6]<|.ret)<|Sk [])<|Rq [Ae 6 0] [6]<|.ret) [.tmp 6]:=by decide +kernel
instance rV (t:Types) (a:Int) (b:Int):Ct prog (Js t a b) 185 [AU t,eI a,eI b] (fun r=>.sh (eI r)):=Fi j8 fun r h hw hR=>by
  unfold Js at h
  exact au
theorem jA:CK f121 (Rq [Af 2 0,Bb 4 4,Ae 5 0] [1,2]<|Sq (Rq [Ad 11 2 2,Aa 12 1,Aa 13 1,Bf 14 185 11 12 13,Aa 6 14] [1,2,6]<|Rq [Aa 15 6,Aw 16 15 0] [1,2,6,16]<|Co 16 (Rq [Aa 17 6,Bb 4 4,Aa 5 17] [4,5]<|.ret)<|Sk [1,2])<|Rq [Bb 7 4] [1,2,7]<|Rq [Ad 18 2 2,Aa 19 1,Av 20 186 18 19,Ax 8 20] [7,8]<|Sq (Rq [Ae 9 0] [7,8,9]<|Bl 0<|Lo [7,8,9]<|Sq (Rq [Aa 21 9,Aa 22 8,Ah 23 22,An 24 21 23] [7,8,9,24]<|Co 24 (Sk [7,8,9])<|Ex 0 [7])<|Sq (Bl 1<|Rq [Aa 27 8,Aa 28 9,Ai 29 27 28 4,Ad 30 29 4,Dz 10 0 0 1,Ak 4 10 30] [7,8,9,10]<|Rq [Db 31 1,Ab 32 10 3,Ac 33 32,Bj 34 1 31 33,Ab 35 10 3,Bo 1 35 34] [7,8,9,10]<|Re [Ax 36 7,Ad 37 10 4,Bh 38 4 37,Bj 39 4 36 38,Ax 7 39] [7,8,9])<|Re [Aa 25 9,Am 26 25 1,Aa 9 26] [7,8,9])<|Rq [Aa 40 7,Ax 4 40,Ae 5 0] [4,5]<|.ret) [.tmp 4,.tmp 5]:=by decide +kernel
instance qV (t:Types) (a:Int):Ct prog (Hs t a) 121 [AU t,eI a] (fun r=>.tp [lA r.1,eI r.2]):=Fi jA fun r h hw hR=>by
  unfold Hs at h
  have:HA 0 9 8 0 fun (i0:Int) (s0:List Attr)=>[(7,.ow (lA s0)),(9,.tv (eI i0))]:=⟨⟩
  exact au
theorem pZ:CK f97 (Rq [Af 4 0,Af 5 1,Dz 8 0 0 1,Aj 9] [2,3,4,5,8]<|Sq (Rq [Aa 12 2,Cd 13 12 0,Aa 14 13,As 15 2 14,Ar 16 5 0 14,Bn 17 16 0 14,Ao 18 17 14,Bi 19 18 14,Bz 20 15 19 14,Aq 21 14 20] [2,3,4,5,8,21]<|Co 21 (Rq [Fm 22 0 0 1,Ak 4 8 22,Aj 9] [8,9]<|.ret)<|Sk [2,3,4,5,8])<|Sq (Dr [10,11,23,24,25,26,27,28,29,30,31,32,33] [Ad 24 4 2,Ab 25 5 0,Ag 26 25 0,Ac 27 26,Aa 28 2,Ai 29 27 28 1,Ac 30 29,Av 31 121 24 30,Aa 23 31,Al 32 23 0,Al 33 23 1,Ax 10 32,Aa 11 33] [3,8,10,11])<|Sq (Rq [Aa 34 11,Aw 35 34 0,Aa 36 35,As 37 3 36,Hb 38 37 0 36,Aq 39 36 38,Aa 40 39,As 41 3 40,As 42 10 40,Bi 43 42 40,Bz 44 41 43 40,Aq 45 40 44] [3,8,10,45]<|Co 45 (Rq [Fm 46 0 0 1,Ak 4 8 46,Aj 9] [8,9]<|.ret)<|Sk [3,8,10])<|Rq [Aa 47 10,Aa 48 3,Ai 49 47 48 4,Ad 50 49 4,Ak 4 8 50,Bv 9] [8,9]<|.ret) [.cell 8 (some 4),.tmp 9]:=by decide +kernel
instance ui (t:Types) (p:Pattern) (node:Int) (index:Int):Ct prog (L8 t p node index) 97 [AU t,BA p,eI node,eI index] (fun r=>.tp [IS r.1,eB r.2]):=Fi pZ fun r h hw hR=>by
  unfold L8 at h
  exact au
theorem pf:CK f98 (Rq [Aj 2] [0]<|Rq [Aa 3 0,⟨some 4,.bin (.i) .geq (.s 3) (.c (.int .i64 (-1000000))),none⟩,Aa 5 4,Au 6 0 5,Cm 7 6 1000000 5,Ap 8 5 7,Aa 2 8] [2]<|.ret) [.tmp 2]:=by decide +kernel
instance uj (n:Int):Ct prog (LD n) 98 [eI n] (fun r=>.sh (eB r)):=Fi pf fun r h hw hR=>by
  unfold LD at h
  exact au
theorem km:CK f226 (Rq [Af 3 1,Ae 4 0] [0,3]<|Sq (Rq [Ab 5 3 0,Ac 6 5,Ge 7 6 (-1),Aa 8 7,Ar 9 3 0 8,Ao 10 9 8,As 11 0 8,Bz 12 10 11 8,Aq 13 8 12,Aa 14 13,Ar 15 3 1 14,Ao 16 15 14,Hm 17 16 (-1000000) 14,Aq 18 14 17,Aa 19 18,Ar 20 3 1 19,Ao 21 20 19,Cg 22 21 1000000 19,Aq 23 19 22] [23]<|Co 23 (Rq [Ae 4 6] [4]<|.ret)<|Sk [])<|Rq [Ae 4 0] [4]<|.ret) [.tmp 4]:=by decide +kernel
instance sG (n:Int) (t:Term):Ct prog (I7 n t) 226 [eI n,PW t] (fun r=>.sh (eI r)):=Fi km fun r h hw hR=>by
  unfold I7 at h
  exact au
theorem jo:CK f166 (Rq [Af 3 1,Ae 4 0] [0,3]<|Sq (Rq [Ab 6 3 0,Ac 7 6,Aw 8 7 1,Aa 9 8,Ay 10 3 0 9,Az 11 10 9,Gg 12 11 2 9,Ap 13 9 12] [0,3,13]<|Co 13 (Rq [Ae 4 1] [4]<|.ret)<|Sk [0,3])<|Sq (Rq [Aa 14 0,Ab 15 3 1,Ad 16 15 2,Av 17 226 14 16,Aa 5 17] [0,3,5]<|Rq [Aa 18 5,Aw 19 18 0] [0,3,5,19]<|Co 19 (Rq [Aa 20 5,Aa 4 20] [4]<|.ret)<|Sk [0,3])<|Rq [Aa 21 0,Ab 22 3 3,Ad 23 22 2,Av 24 226 21 23,Aa 4 24] [4]<|.ret) [.tmp 4]:=by decide +kernel
instance rH (n:Int) (x_1:Test):Ct prog (Mw n x_1) 166 [eI n,Lk x_1] (fun r=>.sh (eI r)):=Fi jo fun r h hw hR=>by
  unfold Mw at h
  exact au
theorem pi:CK f99 (Rq [Ae 4 0] [0,1]<|Sq (Rq [Aa 7 0,Cd 8 7 0,Aa 9 8,As 10 0 9,Cg 11 10 12 9,Aq 12 9 11] [0,1,12]<|Co 12 (Rq [Ae 4 6] [4]<|.ret)<|Sk [0,1])<|Sq (Rq [Aa 13 1,Ah 14 13,Bk 15 14 40] [0,1,15]<|Co 15 (Rq [Ae 4 3] [4]<|.ret)<|Sk [0,1])<|Sq (Rq [Ae 5 0] [0,1,5]<|Bl 0<|Lo [0,1,5]<|Sq (Rq [Aa 16 5,Aa 17 1,Ah 18 17,An 19 16 18] [0,1,5,19]<|Co 19 (Sk [0,1,5])<|Ex 0 [])<|Sq (Bl 1<|Rq [Aa 22 0,Aa 23 1,Aa 24 5,Ai 25 23 24 5,Ad 26 25 5,Av 27 166 22 26,Aa 6 27] [0,1,5,6]<|Rq [Aa 28 6,Aw 29 28 0] [0,1,5,6,29]<|Co 29 (Rq [Aa 30 6,Aa 4 30] [4]<|.ret)<|Sk [0,1,5])<|Re [Aa 20 5,Am 21 20 1,Aa 5 21] [0,1,5])<|Rq [Ae 4 0] [4]<|.ret) [.tmp 4]:=by decide +kernel
instance uk (n:Int) (l:List Test):Ct prog (K1 n l) 99 [eI n,lT l] (fun r=>.sh (eI r)):=Fi pi fun r h hw hR=>by
  unfold K1 at h
  have:HA 0 5 1 0 fun (i0:Int) (_:Unit)=>[(5,.tv (eI i0))]:=⟨⟩
  exact au
theorem ic:CK f100 (Rq [Af 2 0,Aj 4] [1,2]<|Sq (Rq [Ae 5 0] [1,2,5]<|Bl 0<|Lo [1,2,5]<|Sq (Rq [Aa 6 5,Ab 7 2 2,Ac 8 7,Ah 9 8,An 10 6 9] [1,2,5,10]<|Co 10 (Sk [1,2,5])<|Ex 0 [])<|Sq (Bl 1<|Rq [Ab 13 2 2,Ac 14 13,Aa 15 5,Ai 16 14 15 4,Ag 17 16 2,Ag 18 17 0,Ac 19 18,Aa 20 1,Cx 21 19 20] [1,2,5,21]<|Co 21 (Rq [Bv 4] [4]<|.ret)<|Sk [1,2,5])<|Re [Aa 11 5,Am 12 11 1,Aa 5 12] [1,2,5])<|Rq [Aj 4] [4]<|.ret) [.tmp 4]:=by decide +kernel
instance qE (p:Pattern) (v_1:Int):Ct prog (KP p v_1) 100 [BA p,eI v_1] (fun r=>.sh (eB r)):=Fi ic fun r h hw hR=>by
  unfold KP at h
  have:HA 0 5 2 2 fun (i0:Int) (_:Unit)=>[(5,.tv (eI i0))]:=⟨⟩
  exact au
theorem oo:CK f42 (Rq [Af 2 0,Af 3 1,Ae 4 0] [2,3]<|Sq (Rq [Ad 15 2 2,Ba 16 94 15,Aa 14 16,Al 17 14 0,Al 18 14 1,Aa 5 17,Aa 6 18] [2,3,6]<|Rq [Aa 19 6,Aw 20 19 0] [2,3,6,20]<|Co 20 (Rq [Aa 21 6,Aa 4 21] [4]<|.ret)<|Sk [2,3])<|Sq (Rq [Ab 22 3 0,Ad 23 22 2,Ba 24 95 23,Aa 7 24] [2,3,7]<|Rq [Aa 25 7,Aw 26 25 0] [2,3,7,26]<|Co 26 (Rq [Aa 27 7,Aa 4 27] [4]<|.ret)<|Sk [2,3])<|Sq (Rq [Ad 28 2 2,Ab 29 3 0,Ad 30 29 2,Av 31 96 28 30,Be 32 31] [2,3,32]<|Co 32 (Rq [Ae 4 13] [4]<|.ret)<|Sk [2,3])<|Sq (Rq [Ab 33 3 3,Ac 34 33,Cd 35 34 0,Aa 36 35,Ar 37 3 3 36,Ao 38 37 36,Cg 39 38 12 36,Aq 40 36 39] [2,3,40]<|Co 40 (Rq [Ae 4 6] [4]<|.ret)<|Sk [2,3])<|Sq (Rq [Ab 41 3 2,Ac 42 41,Ah 43 42,Bk 44 43 10,Aa 45 44,Ar 46 3 4 45,Ao 47 46 45,Bi 48 47 45,Cg 49 48 10 45,Aq 50 45 49] [2,3,50]<|Co 50 (Rq [Ae 4 3] [4]<|.ret)<|Sk [2,3])<|Sq (Rq [Ae 8 0] [2,3,8]<|Bl 0<|Lo [2,3,8]<|Sq (Rq [Aa 51 8,Ab 52 3 2,Ac 53 52,Ah 54 53,An 55 51 54] [2,3,8,55]<|Co 55 (Sk [2,3,8])<|Ex 0 [3])<|Sq (Bl 1<|Rq [Ab 58 3 2,Ac 59 58,Aa 60 8,Ai 61 59 60 4,Ad 62 61 4,Ea 9 0 0 0 0,Ak 4 9 62] [2,3,8,9]<|Rq [Ad 64 2 2,Ad 65 3 5,Ab 66 9 0,Ac 67 66,Ab 68 9 1,Ac 69 68,Cq 70 97 64 65 67 69,Aa 63 70,Al 71 63 0,Al 72 63 1,Dz 10 0 0 1,Ak 4 10 71,Aa 11 72] [2,3,8,9,11]<|Rq [Aa 73 11,Be 74 73,Aa 75 74,Ar 76 9 2 75,Bn 77 76 0 75,Ao 78 77 75,Hm 79 78 (-1) 75,Aq 80 75 79,Aa 81 80,Ar 82 9 2 81,Bn 83 82 0 81,Ao 84 83 81,Ar 85 3 3 81,Ao 86 85 81,Bz 87 84 86 81,Aq 88 81 87,Aa 89 88,Ar 90 9 2 89,Bn 91 90 1 89,Ao 92 91 89,Dv 93 98 92 89,Br 94 93 89,Aq 95 89 94] [2,3,8,95]<|Co 95 (Rq [Ae 4 6] [4]<|.ret)<|Sk [2,3,8])<|Re [Aa 56 8,Am 57 56 1,Aa 8 57] [2,3,8])<|Sq (Rq [Ab 96 3 3,Ac 97 96,Ab 98 3 4,Ac 99 98,Av 100 99 97 99,Aa 12 100] [3,12]<|Rq [Aa 101 12,Aw 102 101 0] [3,12,102]<|Co 102 (Rq [Aa 103 12,Aa 4 103] [4]<|.ret)<|Sk [3])<|Sq (Rq [Ae 13 0] [3,13]<|Bl 2<|Lo [3,13]<|Sq (Rq [Aa 104 13,Ab 105 3 3,Ac 106 105,An 107 104 106] [3,13,107]<|Co 107 (Sk [3,13])<|Ex 2 [])<|Sq (Bl 3<|Rq [Ad 110 3 5,Aa 111 13,Av 112 100 110 111,Be 113 112] [3,13,113]<|Co 113 (Rq [Ae 4 9] [4]<|.ret)<|Sk [3,13])<|Re [Aa 108 13,Am 109 108 1,Aa 13 109] [3,13])<|Rq [Ae 4 0] [4]<|.ret) [.tmp 4]:=by decide +kernel
instance tw (t:Types) (p:Pattern):Ct prog (FU t p) 42 [AU t,BA p] (fun r=>.sh (eI r)):=Fi oo fun r h hw hR=>by
  unfold FU at h
  have:HA 0 8 3 2 fun (i0:Int) (_:Unit)=>[(8,.tv (eI i0))]:=⟨⟩
  have:HA 2 13 3 3 fun (i2:Int) (_:Unit)=>[(13,.tv (eI i2))]:=⟨⟩
  exact au
theorem ko:CK f227 (Rq [Af 1 0,Aj 2] [1]<|Rq [Ab 4 1 2,Ag 5 4 0,Ac 6 5,Ah 7 6,Ab 8 1 2,Ag 9 8 1,Ac 10 9,Ah 11 10,Bm 12 7 11,Ab 13 1 4,Ag 14 13 0,Ag 15 14 0,Ac 16 15,Ah 17 16,Bm 18 12 17,Ab 19 1 4,Ag 20 19 0,Ag 21 20 1,Ac 22 21,Ah 23 22,Bm 24 18 23,Bc 25 24 0,Aa 3 25] [1,3]<|Rq [Aa 26 3,Aa 27 26,Ay 28 1 4 27,By 29 28 2 27,Az 30 29 27,Bw 31 30 27,Ay 32 1 4 27,By 33 32 4 27,Az 34 33 27,Bw 35 34 27,Fx 36 31 35 27,Cu 37 36 0 27,Ap 38 27 37,Aa 39 38,Ay 40 1 4 39,By 41 40 3 39,Az 42 41 39,Cu 43 42 0 39,Ap 44 39 43,Aa 2 44] [2]<|.ret) [.tmp 2]:=by decide +kernel
instance sH (c:AA):Ct prog (H8 c) 227 [AJ c] (fun r=>.sh (eB r)):=Fi ko fun r h hw hR=>by
  unfold H8 at h
  exact au
theorem jp:CK f167 (Rq [Af 1 0,Aj 2] [1]<|Sq (Rq [Ab 3 1 0,Ac 4 3] [1,4]<|Bl 0<|Rq [Bc 6 4 1,Aa 5 6] [1,4,5]<|Co 5 (Rq [Ab 7 1 1,Ac 8 7,Ah 9 8,Bc 10 9 0,Aa 11 10,Bg 12 1 9 11,Ca 13 227 12 11,Ap 14 11 13,Aa 2 14] [2]<|.ret)<|Rq [Bc 16 4 2,Aa 15 16] [1,4,15]<|Co 15 (Rq [Ab 17 1 1,Ac 18 17,Ah 19 18,Bc 20 19 1,Aa 21 20,Bg 22 1 9 21,Ca 23 227 22 21,Ap 24 21 23,Aa 2 24] [2]<|.ret)<|Sq (Rq [Bc 26 4 3,Aa 25 26] [1,4,25]<|Co 25 (Sk [1,4,25])<|Re [Bc 27 4 4,Aa 25 27] [1,4,25])<|Co 25 (Rq [Ab 28 1 1,Ac 29 28,Ah 30 29,Bk 31 30 0,Aa 32 31,Bg 33 1 9 32,Ca 34 227 33 32,Ap 35 32 34,Aa 2 35] [2]<|.ret)<|Rq [Bc 37 4 5,Aa 36 37] [1,36]<|Co 36 (Rq [Ab 38 1 1,Ac 39 38,Ah 40 39,Bc 41 40 1,Aa 2 41] [2]<|.ret)<|Sk [])<|Rq [Aj 2] [2]<|.ret) [.tmp 2]:=by decide +kernel
instance rI (c:AA):Ct prog (K9 c) 167 [AJ c] (fun r=>.sh (eB r)):=Fi jp fun r h hw hR=>by
  unfold K9 at h
  have:HJ 25 fun (w1:Bool)=>[(25,.tv (eB w1))]:=⟨⟩
  exact au
theorem ig:CK f101 (Rq [Af 1 0,Aj 2] [1]<|Sq (Rq [Ad 4 1 9,Ba 5 167 4,Be 6 5] [1,6]<|Co 6 (Rq [Aj 2] [2]<|.ret)<|Sk [1])<|Sq (Rq [Ae 3 0] [1,3]<|Bl 0<|Lo [1,3]<|Sq (Rq [Aa 7 3,Ab 8 1 1,Ac 9 8,Ah 10 9,An 11 7 10] [1,3,11]<|Co 11 (Sk [1,3])<|Ex 0 [])<|Sq (Bl 1<|Rq [Ab 14 1 1,Ac 15 14,Aa 16 3,Ai 17 15 16 9,Ad 18 17 9,Ba 19 101 18,Be 20 19] [1,3,20]<|Co 20 (Rq [Aj 2] [2]<|.ret)<|Sk [1,3])<|Re [Aa 12 3,Am 13 12 1,Aa 3 13] [1,3])<|Rq [Bv 2] [2]<|.ret) [.tmp 2]:=by decide +kernel
theorem iJ (n:Nat) (_ih_101:∀ (c:AA),Ct prog (E0 n c) 101 [AJ c] (fun r=>.sh (eB r))) (c:AA):Ct prog (E0 (n+1) c) 101 [AJ c] (fun r=>.sh (eB r)):=Fi ig fun r h hw hR=>by
  unfold E0 at h
  have:HA 0 3 1 1 fun (i0:Int) (_:Unit)=>[(3,.tv (eI i0))]:=⟨⟩
  exact au
theorem iI:∀ n:Nat,(∀ (c:AA),Ct prog (E0 n c) 101 [AJ c] (fun r=>.sh (eB r))):=by
  intro n
  induction n with
  | zero=>exact (fun c=>⟨fun _ h=>by cases h⟩)
  | succ n ih=>exact iJ n ih
instance qF (c:AA):Ct prog (MW c) 101 [AJ c] (fun r=>.sh (eB r)):=⟨fun r h=>by
  obtain ⟨N,hN⟩:=DK h
  exact ((iI N) c).snd r (hN N (Nat.le_refl _))⟩
theorem ii:CK f102 (Rq [Af 1 0,Ae 2 0,Ae 3 0] [1]<|Rq [Ae 4 1,Ae 5 0] [1,4,5]<|Sq (Rq [Ae 6 0] [1,4,5,6]<|Bl 0<|Lo [1,4,5,6]<|Sq (Rq [Aa 9 6,Ab 10 1 1,Ac 11 10,Ah 12 11,An 13 9 12] [1,4,5,6,13]<|Co 13 (Sk [1,4,5,6])<|Ex 0 [1,4,5])<|Sq (Bl 1<|Rq [Ab 17 1 1,Ac 18 17,Aa 19 6,Ai 20 18 19 9,Ad 21 20 9,Ba 22 102 21,Aa 16 22,Al 23 16 0,Al 24 16 1,Aa 7 23,Aa 8 24] [1,4,5,6,7,8]<|Re [Aa 25 4,Aa 26 7,Bm 27 25 26,Aa 28 5,Aa 29 8,Gh 30 28 29,Aa 4 27,Aa 5 30] [1,4,5,6])<|Re [Aa 14 6,Am 15 14 1,Aa 6 15] [1,4,5,6])<|Sq (Rq [Ab 31 1 0,Ac 32 31,Bc 33 32 5] [4,5,33]<|Co 33 (Re [Aa 34 5,Am 35 34 1,Aa 5 35] [4,5])<|Sk [4,5])<|Rq [Aa 36 4,Aa 37 5,Aa 2 36,Aa 3 37] [2,3]<|.ret) [.tmp 2,.tmp 3]:=by decide +kernel
theorem iL (n:Nat) (_ih_102:∀ (c:AA),Ct prog (FL n c) 102 [AJ c] (fun r=>.tp [eI r.1,eI r.2])) (c:AA):Ct prog (FL (n+1) c) 102 [AJ c] (fun r=>.tp [eI r.1,eI r.2]):=Fi ii fun r h hw hR=>by
  unfold FL at h
  have:HA 0 6 1 1 fun (i0:Int) (s0:Int × Int)=>[(4,.tv (eI s0.1)),(5,.tv (eI s0.2)),(6,.tv (eI i0))]:=⟨⟩
  have:HJ 33 fun (w1:Int)=>[(5,.tv (eI w1))]:=⟨⟩
  exact au
theorem iK:∀ n:Nat,(∀ (c:AA),Ct prog (FL n c) 102 [AJ c] (fun r=>.tp [eI r.1,eI r.2])):=by
  intro n
  induction n with
  | zero=>exact (fun c=>⟨fun _ h=>by cases h⟩)
  | succ n ih=>exact iL n ih
instance qG (c:AA):Ct prog (ND c) 102 [AJ c] (fun r=>.tp [eI r.1,eI r.2]):=⟨fun r h=>by
  obtain ⟨N,hN⟩:=DK h
  exact ((iK N) c).snd r (hN N (Nat.le_refl _))⟩
theorem ot:CK f43 (Rq [Af 1 0,Ae 2 0] [1]<|Sq (Rq [Ad 5 1 9,Ba 6 101 5,Be 7 6] [1,7]<|Co 7 (Rq [Ae 2 1] [2]<|.ret)<|Sk [1])<|Sq (Rq [Ad 9 1 9,Ba 10 102 9,Aa 8 10,Al 11 8 0,Al 12 8 1,Aa 3 11,Aa 4 12] [3,4]<|Rq [Aa 13 3,Bk 14 13 12,Aa 15 14,As 16 4 15,Cg 17 16 3 15,Aq 18 15 17] [18]<|Co 18 (Rq [Ae 2 3] [2]<|.ret)<|Sk [])<|Rq [Ae 2 0] [2]<|.ret) [.tmp 2]:=by decide +kernel
instance tz (c:AA):Ct prog (K7 c) 43 [AJ c] (fun r=>.sh (eI r)):=Fi ot fun r h hw hR=>by
  unfold K7 at h
  exact au
theorem jq:CK f168 (Rq [Af 2 0,Aj 4] [1,2]<|Sq (Rq [Ae 5 0] [1,2,5]<|Bl 0<|Lo [1,2,5]<|Sq (Rq [Aa 6 5,Ab 7 2 2,Ac 8 7,Ah 9 8,An 10 6 9] [1,2,5,10]<|Co 10 (Sk [1,2,5])<|Ex 0 [])<|Sq (Bl 1<|Rq [Ab 13 2 2,Ac 14 13,Aa 15 5,Ai 16 14 15 4,Ag 17 16 2,Ag 18 17 0,Ac 19 18,Aa 20 1,Cx 21 19 20] [1,2,5,21]<|Co 21 (Rq [Bv 4] [4]<|.ret)<|Sk [1,2,5])<|Re [Aa 11 5,Am 12 11 1,Aa 5 12] [1,2,5])<|Rq [Aj 4] [4]<|.ret) [.tmp 4]:=by decide +kernel
instance rJ (p:Pattern) (v_1:Int):Ct prog (L9 p v_1) 168 [BA p,eI v_1] (fun r=>.sh (eB r)):=Fi jq fun r h hw hR=>by
  unfold L9 at h
  have:HA 0 5 2 2 fun (i0:Int) (_:Unit)=>[(5,.tv (eI i0))]:=⟨⟩
  exact au
theorem ij:CK f103 (Rq [Af 3 0,Af 5 2,Ae 6 0] [1,3,5]<|Sq (Rq [Ab 9 5 3,Ac 10 9,Aa 11 1,An 12 10 11] [1,3,5,12]<|Co 12 (Rq [Ae 6 20] [6]<|.ret)<|Sk [1,3,5])<|Rq [Ad 13 3 2,Ad 14 5 5,Av 15 42 13 14,Aa 7 15] [1,5,7]<|Sq (Rq [Aa 16 7,Aw 17 16 9] [1,5,7,17]<|Co 17 (Rq [Aa 18 7,Aa 6 18] [6]<|.ret)<|Sk [1,5,7])<|Sq (Rq [Aa 19 1,Aa 8 19] [5,7,8]<|Bl 0<|Lo [5,7,8]<|Sq (Rq [Aa 20 8,Ab 21 5 3,Ac 22 21,An 23 20 22] [5,7,8,23]<|Co 23 (Sk [5,7,8])<|Ex 0 [])<|Sq (Bl 1<|Rq [Ad 26 5 5,Aa 27 8,Av 28 168 26 27,Be 29 28] [5,7,8,29]<|Co 29 (Rq [Aa 30 7,Aa 6 30] [6]<|.ret)<|Sk [5,7,8])<|Re [Aa 24 8,Am 25 24 1,Aa 8 25] [5,7,8])<|Rq [Ae 6 0] [6]<|.ret) [.tmp 6]:=by decide +kernel
instance qH (t:Types) (vars:Int) (q:Pattern):Ct prog (K8 t vars q) 103 [AU t,eI vars,BA q] (fun r=>.sh (eI r)):=Fi ij fun r h hw hR=>by
  unfold K8 at h
  have:HA 0 8 5 3 fun (i0:Int) (_:Unit)=>[(8,.tv (eI i0))]:=⟨⟩
  exact au
theorem il:CK f104 (Rq [Af 3 0,Af 4 1,Af 5 2,Ae 6 0] [3,4,5]<|Sq (Rq [Ad 13 3 2,Ba 14 95 13,Aa 7 14] [3,4,5,7]<|Rq [Aa 15 7,Aw 16 15 0] [3,4,5,7,16]<|Co 16 (Rq [Aa 17 7,Aa 6 17] [6]<|.ret)<|Sk [3,4,5])<|Sq (Rq [Ad 18 4 2,Ba 19 95 18,Aa 8 19] [3,4,5,8]<|Rq [Aa 20 8,Aw 21 20 0] [3,4,5,8,21]<|Co 21 (Rq [Aa 22 8,Aa 6 22] [6]<|.ret)<|Sk [3,4,5])<|Sq (Rq [Ab 23 5 0,Ac 24 23,Ah 25 24,Ab 26 3 0,Ac 27 26,Ah 28 27,Bt 29 25 28,Aa 30 29,Ar 31 5 1 30,Ao 32 31 30,Bi 33 32 30,Ar 34 3 1 30,Ao 35 34 30,Bi 36 35 30,Cv 37 33 36 30,Aq 38 30 37] [3,4,5,38]<|Co 38 (Rq [Ae 6 20] [6]<|.ret)<|Sk [3,4,5])<|Sq (Rq [Ae 9 0] [3,4,5,9]<|Bl 0<|Lo [3,4,5,9]<|Sq (Rq [Aa 39 9,Ab 40 3 0,Ac 41 40,Ah 42 41,An 43 39 42] [3,4,5,9,43]<|Co 43 (Sk [3,4,5,9])<|Ex 0 [3,4,5])<|Sq (Bl 1<|Sq (Sq (Dr [46,47,48,49,50,51,52,53,54,55,56,57,58,59,60,61,62] [Ab 46 5 0,Ac 47 46,Aa 48 9,Ai 49 47 48 1,Ac 50 49,Cd 51 50 0,Aa 52 51,Ar 53 5 0 52,Ao 54 53 52,As 55 9 52,Cf 56 54 55 1 52,Ao 57 56 52,Ar 58 4 0 52,Ao 59 58 52,Bi 60 59 52,Bz 61 57 60 52,Aq 62 52 61] [3,4,5,9,62])<|Co 62 (Rq [Ae 6 6] [6]<|.ret)<|Sk [3,4,5,9])<|Sq (Dr [63,64,65,66,67,68,69,70,71,72,73,74,75,76,77] [Ab 63 4 0,Ac 64 63,Ab 65 5 0,Ac 66 65,Aa 67 9,Ai 68 66 67 1,Ac 69 68,Ai 70 64 69 1,Ac 71 70,Ab 72 3 0,Ac 73 72,Aa 74 9,Ai 75 73 74 1,Ac 76 75,Bt 77 71 76] [3,4,5,9,77])<|Co 77 (Rq [Ae 6 13] [6]<|.ret)<|Sk [3,4,5,9])<|Re [Aa 44 9,Am 45 44 1,Aa 9 45] [3,4,5,9])<|Sq (Rq [Ae 10 0] [3,4,5,10]<|Bl 2<|Lo [3,4,5,10]<|Sq (Rq [Aa 78 10,Ab 79 3 1,Ac 80 79,Ah 81 80,An 82 78 81] [3,4,5,10,82]<|Co 82 (Sk [3,4,5,10])<|Ex 2 [])<|Sq (Bl 3<|Sq (Sq (Dr [85,86,87,88,89,90,91,92,93,94,95,96,97,98,99,100,101] [Ab 85 5 1,Ac 86 85,Aa 87 10,Ai 88 86 87 1,Ac 89 88,Cd 90 89 0,Aa 91 90,Ar 92 5 1 91,Ao 93 92 91,As 94 10 91,Cf 95 93 94 1 91,Ao 96 95 91,Ar 97 4 1 91,Ao 98 97 91,Bi 99 98 91,Bz 100 96 99 91,Aq 101 91 100] [3,4,5,10,101])<|Co 101 (Rq [Ae 6 6] [6]<|.ret)<|Sk [3,4,5,10])<|Sq (Dr [11,12,102,103,104,105,106,107,108,109,110,111,112,113,114,115] [Ab 102 3 1,Ac 103 102,Aa 104 10,Ai 105 103 104 3,Ad 106 105 3,Ab 107 4 1,Ac 108 107,Ab 109 5 1,Ac 110 109,Aa 111 10,Ai 112 110 111 1,Ac 113 112,Ai 114 108 113 3,Ad 115 114 3,Cl 11 0 0 0,Cl 12 0 0 0,Ak 3 11 106,Ak 3 12 115] [3,4,5,10,11,12])<|Sq (Rq [Ab 116 11 0,Ac 117 116,Ab 118 12 0,Ac 119 118,Bt 120 117 119] [3,4,5,10,11,12,120]<|Co 120 (Rq [Ae 6 13] [6]<|.ret)<|Sk [3,4,5,10,11,12])<|Sq (Dr [121,122,123,124,125,126,127,128,129,130,131,132,133,134,135,136,137,138,139,140] [Ab 121 5 0,Ac 122 121,Ab 123 11 1,Ac 124 123,Ai 125 122 124 1,Ac 126 125,Ab 127 12 1,Ac 128 127,Bt 129 126 128,Aa 130 129,Ar 131 5 0 130,Ao 132 131 130,Ar 133 11 2 130,Ao 134 133 130,Cf 135 132 134 1 130,Ao 136 135 130,Ar 137 12 2 130,Ao 138 137 130,Cv 139 136 138 130,Aq 140 130 139] [3,4,5,10,140])<|Co 140 (Rq [Ae 6 11] [6]<|.ret)<|Sk [3,4,5,10])<|Re [Aa 83 10,Am 84 83 1,Aa 10 84] [3,4,5,10])<|Rq [Ae 6 0] [6]<|.ret) [.tmp 6]:=by decide +kernel
instance qI (a:Graph) (b:Graph) (m:Morphism):Ct prog (Ju a b m) 104 [CA a,CA b,BS m] (fun r=>.sh (eI r)):=Fi il fun r h hw hR=>by
  unfold Ju at h
  have:HA 0 9 3 0 fun (i0:Int) (_:Unit)=>[(9,.tv (eI i0))]:=⟨⟩
  have:HA 2 10 3 1 fun (i2:Int) (_:Unit)=>[(10,.tv (eI i2))]:=⟨⟩
  exact au
theorem jr:CK f169 (Rq [Aj 2] [0]<|Sq (Rq [Ae 3 0] [0,3]<|Bl 0<|Lo [0,3]<|Sq (Rq [Aa 5 3,Aa 6 0,Ah 7 6,An 8 5 7] [0,3,8]<|Co 8 (Sk [0,3])<|Ex 0 [])<|Sq (Bl 1<|Rq [Ae 4 0] [0,3,4]<|Bl 2<|Lo [0,3,4]<|Sq (Rq [Aa 11 4,Aa 12 3,An 13 11 12] [0,3,4,13]<|Co 13 (Sk [0,3,4])<|Ex 2 [0,3])<|Sq (Bl 3<|Sq (Dr [16,17,18,19,20,21,22,23,24] [Aa 16 0,Aa 17 3,Ai 18 16 17 1,Ac 19 18,Aa 20 0,Aa 21 4,Ai 22 20 21 1,Ac 23 22,Cx 24 19 23] [0,3,4,24])<|Co 24 (Rq [Aj 2] [2]<|.ret)<|Sk [0,3,4])<|Re [Aa 14 4,Am 15 14 1,Aa 4 15] [0,3,4])<|Re [Aa 9 3,Am 10 9 1,Aa 3 10] [0,3])<|Rq [Bv 2] [2]<|.ret) [.tmp 2]:=by decide +kernel
instance rK (l:List Int):Ct prog (H1 l) 169 [lI l] (fun r=>.sh (eB r)):=Fi jr fun r h hw hR=>by
  unfold H1 at h
  have:HA 0 3 0 0 fun (i0:Int) (_:Unit)=>[(3,.tv (eI i0))]:=⟨⟩
  have:HA 2 4 3 0 fun (i2:Int) (_:Unit)=>[(4,.tv (eI i2))]:=⟨⟩
  exact au
theorem im:CK f105 (Rq [Af 3 0,Af 4 1,Af 5 2,Aj 6] [3,4,5]<|Rq [Ad 7 3 2,Ad 8 4 2,Ad 9 5 2,Bf 10 104 7 8 9,Bc 11 10 0,Aa 12 11,Ay 13 5 0 12,Az 14 13 12,Ca 15 169 14 12,Ap 16 12 15,Aa 17 16,Ay 18 5 1 17,Az 19 18 17,Ca 20 169 19 17,Ap 21 17 20,Aa 6 21] [6]<|.ret) [.tmp 6]:=by decide +kernel
instance qJ (a:Graph) (b:Graph) (m:Morphism):Ct prog (Ib a b m) 105 [CA a,CA b,BS m] (fun r=>.sh (eB r)):=Fi im fun r h hw hR=>by
  unfold Ib at h
  exact au
theorem ou:CK f44 (Rq [Af 3 0,Af 4 1,Af 5 2,Ae 6 0] [3,4,5]<|Rq [Ad 12 4 5,Dc 7 1 3 4 0 5,Ak 5 7 12] [3,4,5,7]<|Sq (Rq [Ab 13 5 0,Ac 14 13,Bc 15 14 5] [3,4,5,7,15]<|Co 15 (Sq (Rq [Ad 16 3 2,Ab 17 4 3,Ac 18 17,Ab 19 5 4,Ad 20 19 5,Bf 21 103 16 18 20,Aa 8 21] [3,4,5,7,8]<|Rq [Aa 22 8,Aw 23 22 0] [3,4,5,7,8,23]<|Co 23 (Rq [Aa 24 8,Aa 6 24] [6]<|.ret)<|Sk [3,4,5,7])<|Sq (Rq [Ab 25 4 0,Ad 26 25 2,Ab 27 5 4,Ag 28 27 0,Ad 29 28 2,Ab 30 5 2,Ad 31 30 2,Bf 32 104 26 29 31,Aa 9 32] [3,4,5,7,9]<|Rq [Aa 33 9,Aw 34 33 0] [3,4,5,7,9,34]<|Co 34 (Rq [Aa 35 9,Aa 6 35] [6]<|.ret)<|Sk [3,4,5,7])<|Sq (Rq [Ab 36 4 0,Ad 37 36 2,Ab 38 5 4,Ag 39 38 0,Ad 40 39 2,Ab 41 5 2,Ad 42 41 2,Bf 43 105 37 40 42,Be 44 43] [3,5,7,44]<|Co 44 (Rq [Ae 6 1] [6]<|.ret)<|Sk [3,5,7])<|Re [Ab 45 5 4,Ad 46 45 5,Ak 5 7 46] [3,5,7])<|Sk [3,5,7])<|Sq (Rq [Ae 10 0] [3,5,7,10]<|Bl 0<|Lo [3,5,7,10]<|Sq (Rq [Aa 47 10,Ab 48 5 1,Ac 49 48,Ah 50 49,An 51 47 50] [3,5,7,10,51]<|Co 51 (Sk [3,5,7,10])<|Ex 0 [])<|Sq (Bl 1<|Sq (Dr [11,54,55,56,57,58,59,60,61] [Ad 54 3 2,Ad 55 7 5,Ab 56 5 1,Ac 57 56,Aa 58 10,Ai 59 57 58 9,Ad 60 59 9,Bf 61 44 54 55 60,Aa 11 61] [3,5,7,10,11])<|Rq [Aa 62 11,Aw 63 62 0] [3,5,7,10,11,63]<|Co 63 (Rq [Aa 64 11,Aa 6 64] [6]<|.ret)<|Sk [3,5,7,10])<|Re [Aa 52 10,Am 53 52 1,Aa 10 53] [3,5,7,10])<|Rq [Ae 6 0] [6]<|.ret) [.tmp 6]:=by decide +kernel
theorem oD (n:Nat) (_ih_44:∀ (t:Types) (p:Pattern) (c:AA),Ct prog (FV n t p c) 44 [AU t,BA p,AJ c] (fun r=>.sh (eI r))) (t:Types) (p:Pattern) (c:AA):Ct prog (FV (n+1) t p c) 44 [AU t,BA p,AJ c] (fun r=>.sh (eI r)):=Fi ou fun r h hw hR=>by
  unfold FV at h
  have:HA 0 10 5 1 fun (i0:Int) (_:Unit)=>[(10,.tv (eI i0))]:=⟨⟩
  exact au
theorem oC:∀ n:Nat,(∀ (t:Types) (p:Pattern) (c:AA),Ct prog (FV n t p c) 44 [AU t,BA p,AJ c] (fun r=>.sh (eI r))):=by
  intro n
  induction n with
  | zero=>exact (fun t p c=>⟨fun _ h=>by cases h⟩)
  | succ n ih=>exact oD n ih
instance t1 (t:Types) (p:Pattern) (c:AA):Ct prog (SP t p c) 44 [AU t,BA p,AJ c] (fun r=>.sh (eI r)):=⟨fun r h=>by
  obtain ⟨N,hN⟩:=DK h
  exact ((oC N) t p c).snd r (hN N (Nat.le_refl _))⟩
theorem oV:CK f16 (Rq [Af 3 0,Af 4 1,Af 5 2,Ae 6 0] [3,4,5]<|Sq (Rq [Ad 9 3 2,Ad 10 4 5,Av 11 42 9 10,Aa 7 11] [3,4,5,7]<|Rq [Aa 12 7,Aw 13 12 0] [3,4,5,7,13]<|Co 13 (Rq [Aa 14 7,Aa 6 14] [6]<|.ret)<|Sk [3,4,5])<|Sq (Rq [Ad 15 5 9,Ba 16 43 15,Aa 8 16] [3,4,5,8]<|Rq [Aa 17 8,Aw 18 17 0] [3,4,5,8,18]<|Co 18 (Rq [Aa 19 8,Aa 6 19] [6]<|.ret)<|Sk [3,4,5])<|Rq [Ad 20 3 2,Ad 21 4 5,Ad 22 5 9,Bf 23 44 20 21 22,Aa 6 23] [6]<|.ret) [.tmp 6]:=by decide +kernel
instance tX (t:Types) (p:Pattern) (c:AA):Ct prog (Hu t p c) 16 [AU t,BA p,AJ c] (fun r=>.sh (eI r)):=Fi oV fun r h hw hR=>by
  unfold Hu at h
  exact au
theorem jH:CK f128 (Rq [Ck 0 0 9 1 1 1 3 4 0 5] [0]<|Rq [Hh 1 0 9 1 1 1 3 4 0 5 0 1 1,Ak 9 0 1] [0]<|.ret) [.cell 0 (some 9)]:=by decide +kernel
instance qf :Ct prog (Kd ) 128 [] (fun r=>.sh (AJ r)):=Fi jH fun r h hw hR=>by
  unfold Kd at h
  exact au
theorem ky:CK f238 (Rq [Bb 2 1] [0]<|Rq [Bb 3 1] [0,3]<|Sq (Rq [Ae 4 0] [0,3,4]<|Bl 0<|Lo [0,3,4]<|Sq (Rq [Aa 5 4,Aa 6 0,An 7 5 6] [0,3,4,7]<|Co 7 (Sk [0,3,4])<|Ex 0 [3])<|Sq (Bl 1<|Re [Ax 10 3,Aa 11 4,Bh 12 1 11,Bj 13 1 10 12,Ax 3 13] [0,3,4])<|Re [Aa 8 4,Am 9 8 1,Aa 4 9] [0,3,4])<|Rq [Aa 14 3,Ax 2 14] [2]<|.ret) [.tmp 2]:=by decide +kernel
instance sN (n:Int):Ct prog (I6 n) 238 [eI n] (fun r=>.sh (lI r)):=Fi ky fun r h hw hR=>by
  unfold I6 at h
  have:HA 0 4 0 0 fun (i0:Int) (s0:List Int)=>[(3,.ow (lI s0)),(4,.tv (eI i0))]:=⟨⟩
  exact au
theorem kG:CK f193 (Rq [Af 1 0,Cb 2 1 1] [1,2]<|Sq (Dr [2,3,4,5,6,7,8,9,10,11] [Ab 3 1 0,Ac 4 3,Ah 5 4,Ba 6 238 5,Ab 7 1 1,Ac 8 7,Ah 9 8,Ba 10 238 9,Di 11 1 1 0 1 6 1 1 10,Ak 2 2 11] [2])<|.ret) [.cell 2 (some 2)]:=by decide +kernel
instance rd (g:Graph):Ct prog (Pt g) 193 [CA g] (fun r=>.sh (BS r)):=Fi kG fun r h hw hR=>by
  unfold Pt at h
  exact au
theorem kH:CK f194 (Rq [Af 1 0,Cb 2 1 3] [1,2]<|Sq (Dr [2,3,4,5,6,7,8,9,10,11] [Db 3 1,Ab 4 1 0,Ac 5 4,Bj 6 1 3 5,Db 7 3,Ab 8 1 1,Ac 9 8,Bj 10 3 7 9,Gs 11 6 10,Ek 2 2 11] [2])<|.ret) [.cell 2 (some 2)]:=by decide +kernel
instance re (g:Graph):Ct prog (L0 g) 194 [CA g] (fun r=>.oag [⟨true,lI r.Nodes⟩,⟨true,lE r.Edges⟩]):=Fi kH fun r h hw hR=>by
  unfold L0 at h
  exact au
theorem jI:CK f129 (Rq [Af 4 0,Af 5 1,Dc 8 1 3 4 0 5,Cb 9 1 1] [2,3,4,5,8,9]<|Rq [Ab 17 5 0,Ad 18 17 2,Ba 19 193 18,Cb 10 1 1,Ak 2 10 19] [2,3,4,5,8,9,10]<|Sq (Dr [11,20,21,22,23,24,25] [Ab 20 5 0,Ad 21 20 2,⟨some 22,.callg 194 [.s 21],none⟩,Ab 23 5 3,Ac 24 23,⟨some 25,.bldg [.g 22 0 2,.g 22 1 2,.z ⟨true,.list 4 []⟩,.v (.s 24) 0 1,.z ⟨true,.list 5 []⟩],none⟩,Dc 11 1 3 4 0 5,Ek 5 11 25] [2,3,4,8,9,10,11])<|Rq [Ab 26 11 0,Ag 27 26 0,Ac 28 27,Ah 29 28,Aa 12 29] [2,3,4,8,9,10,11,12]<|Sq (Rq [Aa 30 2,Em 31 30 3,⟨some 32,.bin (.i) .gtr (.s 31) (.c (.int .u8 0)),none⟩] [2,3,4,8,9,10,11,12,32]<|Co 32 (Sq (Dr [33,34,35,36,37,38,39,40,41,42,43,44,45,46] [Ab 33 11 0,Ag 34 33 0,Ci 35 34,Aa 36 2,Fc 37 36 4,Bq 38 37,Ab 39 4 0,Ac 40 39,Ah 41 40,Ch 42 38 41,Bh 43 1 42,Bj 44 1 35 43,Ab 45 11 0,Ag 46 45 0,Bo 1 46 44] [2,3,4,8,9,10,11,12])<|Re [Aa 47 12,Am 48 47 1,Aa 12 48] [2,3,4,8,9,10,11,12])<|Sk [2,3,4,8,9,10,11,12])<|Sq (Rq [Aa 49 12,Bk 50 49 0,Aa 51 50,Au 52 2 51,⟨some 53,.bin (.i) .rem (.s 52) (.c (.int .u8 4)),some (51,true)⟩,⟨some 54,.bin (.i) .gtr (.s 53) (.c (.int .u8 0)),some (51,true)⟩,Ap 55 51 54] [2,3,4,8,9,10,11,12,55]<|Co 55 (Rq [Ae 13 0] [2,3,4,8,9,10,11,12,13]<|Bl 0<|Lo [2,3,4,8,9,10,11,12,13]<|Sq (Rq [Aa 56 13,Ab 57 4 1,Ac 58 57,Ah 59 58,An 60 56 59] [2,3,4,8,9,10,11,12,13,60]<|Co 60 (Sk [2,3,4,8,9,10,11,12,13])<|Ex 0 [2,3,4,8,9,10,11,12])<|Sq (Bl 1<|Sq (Dr [14,63,64,65,66,67,68,69,70,71,72,73,74,75,76,77] [Aa 63 13,Aa 64 2,Bq 65 64,Bm 66 63 65,Ab 67 4 1,Ac 68 67,Ah 69 68,Ch 70 66 69,Aa 71 3,Bq 72 71,Aa 73 12,Ch 74 72 73,Aa 75 12,Bx 76 75 1,Fs 77 0 0 0 0 1 70 1 1 74 2 1 76,Cl 14 0 0 0,Ak 3 14 77] [2,3,4,8,9,10,11,12,14])<|Sq (Rq [Aa 78 3,Em 79 78 2,Cn 80 79 1] [2,3,4,8,9,10,11,12,14,80]<|Co 80 (Re [Ab 81 14 2,Ac 82 81,Ab 83 14 1,Ac 84 83,Ab 85 14 1,Bo 1 85 82,Ab 86 14 2,Bo 1 86 84] [2,3,4,8,9,10,11,12,14])<|Sk [2,3,4,8,9,10,11,12,14])<|Rq [Ab 87 11 0,Ag 88 87 1,Ci 89 88,Ad 90 14 3,Bh 91 3 90,Bj 92 3 89 91,Ab 93 11 0,Ag 94 93 1,Bo 1 94 92] [2,3,4,8,9,10,11,12]<|Ex 0 [2,3,4,8,9,10,11,12])<|Re [Aa 61 13,Am 62 61 1,Aa 13 62] [2,3,4,8,9,10,11,12,13,98,99,100,122,123,124,125])<|Sk [2,3,4,8,9,10,11,12])<|Sq (Rq [Aa 95 12,Bk 96 95 0,Aa 97 96,Ay 98 11 3 97,Az 99 98 97,Dm 100 99 6 97,Ap 101 97 100] [2,3,4,8,9,10,11,12,101]<|Co 101 (Rq [Ab 102 11 0,Ag 103 102 0,Ac 104 103,Aa 105 12,Bx 106 105 1,Ai 107 104 106 1,Ac 108 107,Aa 15 108] [2,3,4,8,9,10,11,12,15]<|Rq [Ab 109 11 0,Ad 110 109 2,Aa 111 12,Bx 112 111 1,⟨some 113,.bld [.int .i64 0,.int .i64 0,.int .i64 0,.int .i64 0] [(0,1,.s 112)],none⟩,Bh 114 4 113,Hi 115 1 3 4 0 5 0 2 110 3 1 1 2 1 114,Dc 16 1 3 4 0 5,Ak 5 16 115] [2,3,4,8,9,10,11,12,15,16]<|Rq [Aa 116 15,Ab 117 4 0,Ac 118 117,Ah 119 118,An 120 116 119,Aa 121 120,Bg 122 4 2 121,Bg 123 16 5 121,Dw 124 42 122 123 121,Cu 125 124 0 121,Ap 126 121 125] [2,3,8,9,10,11,12,126]<|Co 126 (Rq [Ab 127 11 2,Ci 128 127,Aa 129 12,Bx 130 129 1,Ab 131 11 3,Ac 132 131,Aa 133 3,Em 134 133 3,Bq 135 134,Fd 136 0 0 0 1 132 1 1 135,⟨some 137,.bld [.int .i64 0,.int .i64 0,.int .i64 0,.int .i64 0] [(0,1,.s 130),(2,2,.s 136)],none⟩,Bh 138 4 137,Bj 139 4 128 138,Ab 140 11 2,Bo 1 140 139] [2,3,8,9,10,11]<|Rq [Ab 141 11 3,Ac 142 141,Am 143 142 1,Ab 144 11 3,Bo 1 144 143] [2,3,8,9,10,11]<|Rq [Ab 145 11 3,Ac 146 145,Bk 147 146 1] [2,3,8,9,10,11,147]<|Co 147 (Re [Ab 148 11 4,Ci 149 148,Aa 150 2,Fc 151 150 64,Bq 152 151,Dt 153 152 2,Ee 154 1 153,Fb 155 0 0 0 1 0,Ab 156 11 3,Ac 157 156,Bx 158 157 1,Aa 159 3,Fc 160 159 8,Bq 161 160,Dt 162 161 9,Bx 163 162 4,Fd 164 0 0 0 1 158 1 1 163,Hn 165 0 0 0 0 0 0 1 154 1 2 155 3 2 164,Bh 166 5 165,Bj 167 5 149 166,Ab 168 11 4,Bo 1 168 167] [8,9,10,11])<|Sk [8,9,10,11])<|Sk [8,9,10,11])<|Sk [8,9,10,11])<|Sq (Dr [8,9,169,170] [Ad 169 11 5,Ad 170 10 2,Ak 5 8 169,Ak 2 9 170] [8,9])<|.ret) [.cell 8 (some 5),.cell 9 (some 2)]:=by decide +kernel
instance qh (t:Types) (p:Pattern) (x_2:Int) (y:Int):Ct prog (Jz t p x_2 y) 129 [AU t,BA p,G4 x_2,G4 y] (fun r=>.tp [BA r.1,BS r.2]):=Fi jI fun r h hw hR=>by
  unfold Jz at h
  have:HJ 32 fun (w1:Pattern × Int)=>[(11,.bx [⟨true,lI w1.1.Graph.Nodes⟩,⟨true,lE w1.1.Graph.Edges⟩,⟨true,lS w1.1.Slots⟩,⟨false,eI w1.1.Vars⟩,⟨true,lT w1.1.Tests⟩]),(12,.tv (eI w1.2))]:=⟨⟩
  have:HA 0 13 4 1 fun (i0:Int) (s0:Pattern)=>[(11,.bx [⟨true,lI s0.Graph.Nodes⟩,⟨true,lE s0.Graph.Edges⟩,⟨true,lS s0.Slots⟩,⟨false,eI s0.Vars⟩,⟨true,lT s0.Tests⟩]),(13,.tv (eI i0))]:=⟨⟩
  have:HJ 55 fun (w2:Pattern)=>[(11,.bx [⟨true,lI w2.Graph.Nodes⟩,⟨true,lE w2.Graph.Edges⟩,⟨true,lS w2.Slots⟩,⟨false,eI w2.Vars⟩,⟨true,lT w2.Tests⟩])]:=⟨⟩
  have:HJ 101 fun (w3:Pattern)=>[(11,.bx [⟨true,lI w3.Graph.Nodes⟩,⟨true,lE w3.Graph.Edges⟩,⟨true,lS w3.Slots⟩,⟨false,eI w3.Vars⟩,⟨true,lT w3.Tests⟩])]:=⟨⟩
  exact au
theorem o3:CK f57 (Rq [Af 4 0,Af 5 1,Ck 8 0 9 1 1 1 3 4 0 5,Bb 9 1] [2,3,4,5,8]<|Sq (Rq [Aa 19 2,Ah 20 19,Cd 21 20 3] [2,3,4,5,8,21]<|Co 21 (Rq [El 22 128,Ak 9 8 22,Bb 9 1] [8,9]<|.ret)<|Sk [2,3,4,5,8])<|Sq (Dr [10,11,12,23,24,25,26,27,28,29,30] [Aa 23 2,Dq 24 23 1 1,Ac 25 24,Aa 26 2,Dq 27 26 2 1,Ac 28 27,Aa 29 2,⟨some 30,.slc 1 (.s 29) (some (.c (.int .i64 3))) none,none⟩,Aa 10 25,Aa 11 28,Ax 12 30] [2,3,4,5,8,10,11,12])<|Rq [⟨some 31,.bldg [.v (.c (.int .i64 1)) 0 1,.z ⟨true,.list 9 []⟩,.z ⟨true,.list 1 []⟩,.z ⟨true,.list 1 []⟩,.z ⟨true,.list 1 []⟩,.z ⟨true,.list 3 []⟩,.z ⟨true,.list 4 []⟩,.z ⟨false,.int .i64 0⟩,.z ⟨true,.list 5 []⟩],none⟩,Ck 13 0 9 1 1 1 3 4 0 5,Ek 9 13 31] [2,3,4,5,8,10,11,12,13]<|Sq (Rq [Aa 32 2,Dq 33 32 0 1,Ac 34 33,Em 35 34 8] [3,4,5,8,10,11,12,13,35]<|Bl 0<|Sq (Rq [Cn 37 35 1,Aa 36 37] [3,4,5,8,10,11,12,13,35,36]<|Co 36 (Sk [3,4,5,8,10,11,12,13,35,36])<|Re [Cn 38 35 2,Aa 36 38] [3,4,5,8,10,11,12,13,35,36])<|Co 36 (Re [Ab 39 13 0,Eo 1 39 2] [3,4,5,8,10,11,12,13])<|Rq [Cn 41 35 3,Aa 40 41] [3,4,5,8,10,11,12,13,35,40]<|Co 40 (Re [Ab 42 13 0,Eo 1 42 3] [3,4,5,8,10,11,12,13])<|Rq [Cn 44 35 4,Aa 43 44] [3,4,5,8,10,11,12,13,35,43]<|Co 43 (Re [Ab 45 13 0,Eo 1 45 4] [3,4,5,8,10,11,12,13])<|Sq (Rq [Cn 47 35 5,Aa 46 47] [3,4,5,8,10,11,12,13,35,46]<|Co 46 (Sk [3,4,5,8,10,11,12,13,46])<|Rq [Cn 48 35 6,Aa 46 48] [3,4,5,8,10,11,12,13,35,46]<|Co 46 (Sk [3,4,5,8,10,11,12,13,46])<|Re [Cn 49 35 7,Aa 46 49] [3,4,5,8,10,11,12,13,46])<|Co 46 (Re [Ab 50 13 0,Eo 1 50 5] [3,4,5,8,10,11,12,13])<|Sk [3,4,5,8,10,11,12,13])<|Rq [Aa 51 10,Bq 52 51,Dt 53 52 2,Ee 54 1 53,Aa 55 10,Bq 56 55,Dt 57 56 2,Ee 58 1 57,⟨some 59,.lst 1 [.c (.int .i64 0),.c (.int .i64 0),.c (.int .i64 1),.s 54,.s 58,.c (.int .i64 1)],none⟩,Ab 60 13 0,Ac 61 60,Ai 62 59 61 1,Ac 63 62,Aa 14 63] [3,4,5,8,10,11,12,13,14]<|Rq [Ad 64 5 5,Dc 15 1 3 4 0 5,Ak 5 15 64] [3,4,5,8,10,11,12,13,14,15]<|Sq (Rq [Ab 65 13 0,Ac 66 65,Bc 67 66 5] [3,4,5,8,10,11,12,13,14,15,67]<|Co 67 (Sq (Rq [Aa 68 3,Bc 69 68 0,Aa 70 69,Ar 71 5 0 70,Bn 72 71 0 70,Ao 73 72 70,Bi 74 73 70,Ar 75 5 0 70,Bn 76 75 1 70,Ao 77 76 70,Bi 78 77 70,Gt 79 74 78 70,Cg 80 79 4 70,Aq 81 70 80] [3,4,5,8,10,11,12,13,14,15,81]<|Co 81 (Rq [El 82 128,Aa 83 12,Ak 9 8 82,Ax 9 83] [8,9]<|.ret)<|Sk [3,4,5,8,10,11,12,13,14,15])<|Rq [Ad 85 4 2,Ad 86 5 5,Aa 87 10,Aa 88 11,Cq 89 129 85 86 87 88,Aa 84 89,Al 90 84 0,Al 91 84 1,Ak 5 15 90,Ab 92 13 2,Bo 2 92 91] [3,4,8,12,13,14,15]<|Rq [Ad 93 15 5,Ab 94 13 4,Bo 5 94 93] [3,4,8,12,13,14,15]<|Re [Aa 95 3,Bx 96 95 1,Aa 3 96] [3,4,8,12,13,14,15])<|Sk [3,4,8,12,13,14,15])<|Sq (Rq [Ae 16 0] [3,4,8,12,13,14,15,16]<|Bl 1<|Lo [3,4,8,12,13,14,15,16]<|Sq (Rq [Aa 97 16,Aa 98 14,An 99 97 98] [3,4,8,12,13,14,15,16,99]<|Co 99 (Sk [3,4,8,12,13,14,15,16])<|Ex 1 [8,12,13])<|Sq (Bl 2<|Rq [Ad 103 4 2,Ad 104 15 5,Aa 105 12,Aa 106 3,Cq 107 57 103 104 105 106,Aa 102 107,Al 108 102 0,Al 109 102 1,Ck 17 0 9 1 1 1 3 4 0 5,Ak 9 17 108,Ax 18 109] [3,4,8,13,14,15,16,17,18]<|Re [Ab 110 13 1,Ci 111 110,Ad 112 17 9,Bh 113 9 112,Bj 114 9 111 113,Aa 115 18,Ab 116 13 1,Bo 1 116 114,Ax 12 115] [3,4,8,12,13,14,15,16])<|Re [Aa 100 16,Am 101 100 1,Aa 16 101] [3,4,8,12,13,14,15,16])<|Rq [Ad 117 13 9,Aa 118 12,Ak 9 8 117,Ax 9 118] [8,9]<|.ret) [.cell 8 (some 9),.tmp 9]:=by decide +kernel
theorem oI (n:Nat) (_ih_57:∀ (t:Types) (p:Pattern) (codes:List Int) (depth:Int),Ct prog (C3 n t p codes depth) 57 [AU t,BA p,(eL 1 G4) codes,eI depth] (fun r=>.tp [AJ r.1,(eL 1 G4) r.2])) (t:Types) (p:Pattern) (codes:List Int) (depth:Int):Ct prog (C3 (n+1) t p codes depth) 57 [AU t,BA p,(eL 1 G4) codes,eI depth] (fun r=>.tp [AJ r.1,(eL 1 G4) r.2]):=Fi o3 fun r h hw hR=>by
  unfold C3 at h
  have:HJ 36 fun (w1:Bool)=>[(36,.tv (eB w1))]:=⟨⟩
  have:HJ 36 fun (w2:AA)=>[(13,.bx [⟨false,eI w2.Kind⟩,⟨true,FQ w2.Kids⟩,⟨true,lI w2.Map.Nodes⟩,⟨true,lI w2.Map.Edges⟩,⟨true,lI w2.Pattern.Graph.Nodes⟩,⟨true,lE w2.Pattern.Graph.Edges⟩,⟨true,lS w2.Pattern.Slots⟩,⟨false,eI w2.Pattern.Vars⟩,⟨true,lT w2.Pattern.Tests⟩])]:=⟨⟩
  have:HA 1 16 14 0 fun (i1:Int) (s1:List Int × AA)=>[(12,.tv ((eL 1 G4) s1.1)),(13,.bx [⟨false,eI s1.2.Kind⟩,⟨true,FQ s1.2.Kids⟩,⟨true,lI s1.2.Map.Nodes⟩,⟨true,lI s1.2.Map.Edges⟩,⟨true,lI s1.2.Pattern.Graph.Nodes⟩,⟨true,lE s1.2.Pattern.Graph.Edges⟩,⟨true,lS s1.2.Pattern.Slots⟩,⟨false,eI s1.2.Pattern.Vars⟩,⟨true,lT s1.2.Pattern.Tests⟩]),(16,.tv (eI i1))]:=⟨⟩
  have:HB 1 16 14 0 fun (i1:Int) (s1:List Int × AA)=>[(12,.tv ((eL 1 G4) s1.1)),(13,.bx [⟨false,eI s1.2.Kind⟩,⟨true,FQ s1.2.Kids⟩,⟨false,lI s1.2.Map.Nodes⟩,⟨false,lI s1.2.Map.Edges⟩,⟨false,lI s1.2.Pattern.Graph.Nodes⟩,⟨false,lE s1.2.Pattern.Graph.Edges⟩,⟨false,lS s1.2.Pattern.Slots⟩,⟨false,eI s1.2.Pattern.Vars⟩,⟨false,lT s1.2.Pattern.Tests⟩]),(16,.tv (eI i1))]:=⟨⟩
  exact au
theorem oH:∀ n:Nat,(∀ (t:Types) (p:Pattern) (codes:List Int) (depth:Int),Ct prog (C3 n t p codes depth) 57 [AU t,BA p,(eL 1 G4) codes,eI depth] (fun r=>.tp [AJ r.1,(eL 1 G4) r.2])):=by
  intro n
  induction n with
  | zero=>exact (fun t p codes depth=>⟨fun _ h=>by cases h⟩)
  | succ n ih=>exact oI n ih
instance uD (t:Types) (p:Pattern) (codes:List Int) (depth:Int):Ct prog (Pv t p codes depth) 57 [AU t,BA p,(eL 1 G4) codes,eI depth] (fun r=>.tp [AJ r.1,(eL 1 G4) r.2]):=⟨fun r h=>by
  obtain ⟨N,hN⟩:=DK h
  exact ((oH N) t p codes depth).snd r (hN N (Nat.le_refl _))⟩
theorem oa:CK f27 (Rq [Af 3 0,Af 4 1,Ck 6 0 9 1 1 1 3 4 0 5] [2,3,4,6]<|Sq (Dr [7,8,9,10,11,12,13,14,15,16,17,18,19] [Ad 10 3 2,Ad 11 4 5,Aa 12 2,Aa 13 2,Ah 14 13,Fz 15 14 15,Do 16 1 12 15,⟨some 17,.call 57 [.s 10,.s 11,.s 16,.c (.int .i64 2)],none⟩,Aa 9 17,Al 18 9 0,Al 19 9 1,Ck 7 0 9 1 1 1 3 4 0 5,Ak 9 7 18,Ax 8 19] [6,7])<|Rq [Ad 20 7 9,Ak 9 6 20] [6]<|.ret) [.cell 6 (some 9)]:=by decide +kernel
instance td (t:Types) (p:Pattern) (codes:List Int):Ct prog (Kc t p codes) 27 [AU t,BA p,(eL 1 G4) codes] (fun r=>.sh (AJ r)):=Fi oa fun r h hw hR=>by
  unfold Kc at h
  exact au
theorem oi:CK f38 (Rq [Af 1 0,Aj 2] [1]<|Rq [Ab 3 1 0,Ac 4 3,Ah 5 4,Gv 6 5 45,Aa 7 6,Ay 8 1 1 7,Az 9 8 7,Bw 10 9 7,Cm 11 10 90 7,Ap 12 7 11,Aa 2 12] [2]<|.ret) [.tmp 2]:=by decide +kernel
instance tm (g:Graph):Ct prog (JI g) 38 [CA g] (fun r=>.sh (eB r)):=Fi oi fun r h hw hR=>by
  unfold JI at h
  exact au
theorem oT:CK f14 (Rq [Af 1 0,Aj 2] [1]<|Rq [Ab 3 1 0,Ad 4 3 2,Ba 5 38 4,Aa 6 5,Ay 7 1 2 6,Az 8 7 6,Bw 9 8 6,Cm 10 9 15 6,Ap 11 6 10,Aa 12 11,Ay 13 1 4 12,Az 14 13 12,Bw 15 14 12,Cm 16 15 15 12,Ap 17 12 16,Aa 2 17] [2]<|.ret) [.tmp 2]:=by decide +kernel
instance tV (p:Pattern):Ct prog (LU p) 14 [BA p] (fun r=>.sh (eB r)):=Fi oT fun r h hw hR=>by
  unfold LU at h
  exact au
theorem pG:CK f78 (Rq [Af 2 0,Aj 4] [1,2]<|Rq [Ab 5 2 0,Ac 6 5,Ah 7 6,Ab 8 2 1,Ac 9 8,Ah 10 9,Bm 11 7 10,Aa 12 1,⟨some 13,.bin (.i) .leq (.s 11) (.s 12),none⟩,Aa 4 13] [4]<|.ret) [.tmp 4]:=by decide +kernel
instance uP (m:Morphism) (n:Int):Ct prog (OG m n) 78 [BS m,eI n] (fun r=>.sh (eB r)):=Fi pG fun r h hw hR=>by
  unfold OG at h
  exact au
theorem oh:CK f37 (Rq [Af 2 0,Ae 4 0] [1,2]<|Rq [Aa 6 1,Bx 7 6 1,Aa 1 7] [1,2]<|Sq (Rq [Ab 8 2 4,Ad 9 8 5,Ba 10 14 9,Be 11 10,Aa 12 11,Ar 13 2 2 12,Ce 14 13 2 12,⟨some 15,.call 78 [.s 14,.c (.int .i64 140)],some (12,false)⟩,Br 16 15 12,Aq 17 12 16] [1,2,17]<|Co 17 (Rq [Bs 4 (-1)] [4]<|.ret)<|Sk [1,2])<|Sq (Rq [Ae 5 0] [1,2,5]<|Bl 0<|Lo [1,2,5]<|Sq (Rq [Aa 18 5,Ab 19 2 1,Ac 20 19,Ah 21 20,An 22 18 21,Aa 23 22,Au 24 1 23,Fv 25 24 0 23,Ap 26 23 25] [1,2,5,26]<|Co 26 (Sk [1,2,5])<|Ex 0 [1])<|Sq (Bl 1<|Re [Ab 29 2 1,Ac 30 29,Aa 31 5,Ai 32 30 31 9,Ad 33 32 9,Aa 34 1,Av 35 37 33 34,Aa 1 35] [1,2,5])<|Re [Aa 27 5,Am 28 27 1,Aa 5 28] [1,2,5])<|Rq [Aa 36 1,Aa 4 36] [4]<|.ret) [.tmp 4]:=by decide +kernel
theorem n9 (n:Nat) (_ih_37:∀ (c:AA) (most:Int),Ct prog (E4 n c most) 37 [AJ c,eI most] (fun r=>.sh (eI r))) (c:AA) (most:Int):Ct prog (E4 (n+1) c most) 37 [AJ c,eI most] (fun r=>.sh (eI r)):=Fi oh fun r h hw hR=>by
  unfold E4 at h
  have:HW 0 fun (s0:Int × Int)=>[(1,.tv (eI s0.1)),(5,.tv (eI s0.2))]:=⟨⟩
  exact au
theorem n8:∀ n:Nat,(∀ (c:AA) (most:Int),Ct prog (E4 n c most) 37 [AJ c,eI most] (fun r=>.sh (eI r))):=by
  intro n
  induction n with
  | zero=>exact (fun c most=>⟨fun _ h=>by cases h⟩)
  | succ n ih=>exact n9 n ih
instance tj (c:AA) (most:Int):Ct prog (Pu c most) 37 [AJ c,eI most] (fun r=>.sh (eI r)):=⟨fun r h=>by
  obtain ⟨N,hN⟩:=DK h
  exact ((n8 N) c most).snd r (hN N (Nat.le_refl _))⟩
theorem oS:CK f13 (Rq [Af 1 0,Aj 2] [1]<|Rq [Ad 3 1 9,Es 4 37 3 40,Bp 5 4 0,Aa 2 5] [2]<|.ret) [.tmp 2]:=by decide +kernel
instance tU (c:AA):Ct prog (M0 c) 13 [AJ c] (fun r=>.sh (eB r)):=Fi oS fun r h hw hR=>by
  unfold M0 at h
  exact au
theorem o4:CK f58 (Rq [Af 1 0,Aj 2] [1]<|Sq (Rq [Ab 4 1 0,Ad 5 4 2,Ba 6 38 5,Be 7 6,Aa 8 7,Ar 9 1 2 8,Ao 10 9 8,Bi 11 10 8,Cg 12 11 45 8,Aq 13 8 12] [1,13]<|Co 13 (Rq [Aj 2] [2]<|.ret)<|Sk [1])<|Sq (Rq [Ae 3 0] [1,3]<|Bl 0<|Lo [1,3]<|Sq (Rq [Aa 14 3,Ab 15 1 2,Ac 16 15,Ah 17 16,An 18 14 17] [1,3,18]<|Co 18 (Sk [1,3])<|Ex 0 [])<|Sq (Bl 1<|Rq [Ab 21 1 2,Ac 22 21,Aa 23 3,Ai 24 22 23 1,Ac 25 24,Ah 26 25,Bk 27 26 12] [1,3,27]<|Co 27 (Rq [Aj 2] [2]<|.ret)<|Sk [1,3])<|Re [Aa 19 3,Am 20 19 1,Aa 3 20] [1,3])<|Rq [Bv 2] [2]<|.ret) [.tmp 2]:=by decide +kernel
instance uE (h_0:AY):Ct prog (LT h_0) 58 [IU h_0] (fun r=>.sh (eB r)):=Fi o4 fun r h hw hR=>by
  unfold LT at h
  have:HA 0 3 1 2 fun (i0:Int) (_:Unit)=>[(3,.tv (eI i0))]:=⟨⟩
  exact au
theorem oR:CK f12 (Rq [Af 1 0,Aj 2] [1]<|Sq (Rq [Ab 9 1 0,Ac 10 9,Ah 11 10,Bk 12 11 20,Aa 13 12,Ar 14 1 1 13,Ao 15 14 13,Bi 16 15 13,Cg 17 16 30 13,Aq 18 13 17] [1,18]<|Co 18 (Rq [Aj 2] [2]<|.ret)<|Sk [1])<|Rq [Ae 3 0] [1,3]<|Sq (Rq [Ae 4 0] [1,3,4]<|Bl 0<|Lo [1,3,4]<|Sq (Rq [Aa 19 4,Ab 20 1 0,Ac 21 20,Ah 22 21,An 23 19 22] [1,3,4,23]<|Co 23 (Sk [1,3,4])<|Ex 0 [1])<|Sq (Bl 1<|Rq [Aa 26 3,Ab 27 1 0,Ac 28 27,Aa 29 4,Ai 30 28 29 4,Ag 31 30 3,Ac 32 31,Ah 33 32,Bm 34 26 33,Aa 3 34] [1,3,4]<|Sq (Rq [Aa 35 3,Bk 36 35 30,Aa 37 36,Ar 38 1 0 37,Ao 39 38 37,As 40 4 37,Cf 41 39 40 4 37,Bn 42 41 0 37,Ao 43 42 37,⟨some 44,.slen (.s 43),some (37,false)⟩,Cg 45 44 40 37,Aq 46 37 45] [1,3,4,46]<|Co 46 (Rq [Aj 2] [2]<|.ret)<|Sk [1,3,4])<|Rq [Ae 5 0] [1,3,4,5]<|Bl 2<|Lo [1,3,4,5]<|Sq (Rq [Aa 47 5,Ab 48 1 0,Ac 49 48,Aa 50 4,Ai 51 49 50 4,Ag 52 51 3,Ac 53 52,Ah 54 53,An 55 47 54] [1,3,4,5,55]<|Co 55 (Sk [1,3,4,5])<|Ex 2 [1,3,4])<|Sq (Bl 3<|Rq [Ab 58 1 0,Ac 59 58,Aa 60 4,Ai 61 59 60 4,Ag 62 61 3,Ac 63 62,Aa 64 5,Ai 65 63 64 4,Ad 66 65 4,Dz 6 0 0 1,Ak 4 6 66] [1,3,4,5,6]<|Sq (Rq [Ab 67 6 0,Ac 68 67,Cw 69 68,Bk 70 69 40,Aa 71 70,Ar 72 6 3 71,Ao 73 72 71,Bi 74 73 71,Cg 75 74 25 71,Aq 76 71 75] [1,3,4,5,6,76]<|Co 76 (Rq [Aj 2] [2]<|.ret)<|Sk [1,3,4,5,6])<|Rq [Ae 7 0] [1,3,4,5,6,7]<|Bl 4<|Lo [1,3,4,5,6,7]<|Sq (Rq [Aa 77 7,Ab 78 6 3,Ac 79 78,Ah 80 79,An 81 77 80] [1,3,4,5,6,7,81]<|Co 81 (Sk [1,3,4,5,6,7])<|Ex 4 [1,3,4,5])<|Sq (Bl 5<|Rq [Ab 84 6 3,Ac 85 84,Aa 86 7,Ai 87 85 86 1,Ac 88 87,Cw 89 88,Bk 90 89 40] [1,3,4,5,6,7,90]<|Co 90 (Rq [Aj 2] [2]<|.ret)<|Sk [1,3,4,5,6,7])<|Re [Aa 82 7,Am 83 82 1,Aa 7 83] [1,3,4,5,6,7])<|Re [Aa 56 5,Am 57 56 1,Aa 5 57] [1,3,4,5])<|Re [Aa 24 4,Am 25 24 1,Aa 4 25] [1,3,4])<|Sq (Rq [Ae 8 0] [1,8]<|Bl 6<|Lo [1,8]<|Sq (Rq [Aa 91 8,Ab 92 1 1,Ac 93 92,Ah 94 93,An 95 91 94] [1,8,95]<|Co 95 (Sk [1,8])<|Ex 6 [])<|Sq (Bl 7<|Rq [Ab 98 1 1,Ac 99 98,Aa 100 8,Ai 101 99 100 7,Ag 102 101 0,Ac 103 102,Cw 104 103,Bk 105 104 40] [1,8,105]<|Co 105 (Rq [Aj 2] [2]<|.ret)<|Sk [1,8])<|Re [Aa 96 8,Am 97 96 1,Aa 8 97] [1,8])<|Rq [Bv 2] [2]<|.ret) [.tmp 2]:=by decide +kernel
instance tT (t:Types):Ct prog (Mx t) 12 [AU t] (fun r=>.sh (eB r)):=Fi oR fun r h hw hR=>by
  unfold Mx at h
  have:HA 0 4 1 0 fun (i0:Int) (s0:Int)=>[(3,.tv (eI s0)),(4,.tv (eI i0))]:=⟨⟩
  have:HW 2 fun (s2:Int)=>[(5,.tv (eI s2))]:=⟨⟩
  have:HW 4 fun (s4:Int)=>[(7,.tv (eI s4))]:=⟨⟩
  have:HA 6 8 1 1 fun (i6:Int) (_:Unit)=>[(8,.tv (eI i6))]:=⟨⟩
  exact au
theorem pB:CK f65 (Rq [Af 3 0,Af 4 1,Af 5 2,Ae 6 0] [3,4,5]<|Sq (Rq [Ad 12 3 2,Ba 13 94 12,Aa 11 13,Al 14 11 0,Al 15 11 1,Aa 7 14,Aa 8 15] [3,4,5,8]<|Rq [Aa 16 8,Aw 17 16 0] [3,4,5,8,17]<|Co 17 (Rq [Aa 18 8,Aa 6 18] [6]<|.ret)<|Sk [3,4,5])<|Sq (Rq [Ad 19 4 2,Ba 20 95 19,Aa 9 20] [3,4,5,9]<|Rq [Aa 21 9,Aw 22 21 0] [3,4,5,9,22]<|Co 22 (Rq [Aa 23 9,Aa 6 23] [6]<|.ret)<|Sk [3,4,5])<|Sq (Rq [Ad 24 5 2,Ba 25 95 24,Aa 10 25] [3,4,5,10]<|Rq [Aa 26 10,Aw 27 26 0] [3,4,5,10,27]<|Co 27 (Rq [Aa 28 10,Aa 6 28] [6]<|.ret)<|Sk [3,4,5])<|Sq (Rq [Ad 29 3 2,Ad 30 4 2,Av 31 96 29 30,Be 32 31,Aa 33 32,Ce 34 3 2 33,Ce 35 5 2 33,Dk 36 96 34 35 33,Br 37 36 33,Aq 38 33 37] [38]<|Co 38 (Rq [Ae 6 13] [6]<|.ret)<|Sk [])<|Rq [Ae 6 0] [6]<|.ret) [.tmp 6]:=by decide +kernel
instance uL (t:Types) (p:Graph) (g:Graph):Ct prog (Jw t p g) 65 [AU t,CA p,CA g] (fun r=>.sh (eI r)):=Fi pB fun r h hw hR=>by
  unfold Jw at h
  exact au
theorem jJ:CK f130 (Rq [Af 3 0,Af 4 1,Af 5 2,Aj 6] [3,4,5]<|Rq [Ad 7 3 2,Ba 8 12 7,Aa 9 8,Bg 10 4 2 9,Ca 11 38 10 9,Ap 12 9 11,Aa 13 12,Bg 14 5 2 13,Ca 15 38 14 13,Ap 16 13 15,Aa 17 16,Bg 18 3 2 17,Bg 19 4 2 17,Bg 20 5 2 17,Ei 21 65 18 19 20 17,Gg 22 21 0 17,Au 23 22 17,Ar 24 4 0 23,Ao 25 24 23,Bi 26 25 23,Ar 27 4 1 23,Ao 28 27 23,Bi 29 28 23,Gt 30 26 29 23,⟨some 31,.bin (.i) .leq (.s 30) (.c (.int .i64 6)),some (23,false)⟩,As 32 31 23,Ay 33 5 0 32,Az 34 33 32,Bw 35 34 32,Cm 36 35 8 32,Cc 37 32 36 23,As 38 37 23,Ay 39 5 1 38,Az 40 39 38,Bw 41 40 38,Cm 42 41 12 38,Cc 43 38 42 23,Ef 44 23 43 17,Ap 45 17 44,Aa 6 45] [6]<|.ret) [.tmp 6]:=by decide +kernel
instance qj (t:Types) (p:Graph) (g:Graph):Ct prog (K5 t p g) 130 [AU t,CA p,CA g] (fun r=>.sh (eB r)):=Fi jJ fun r h hw hR=>by
  unfold K5 at h
  exact au
theorem o5:CK f59 (Rq [Af 3 0,Af 4 1,Af 5 2,Aj 6] [3,4,5]<|Rq [Ad 7 4 5,Ba 8 14 7,Aa 9 8,Bg 10 5 3 9,Ca 11 58 10 9,Ap 12 9 11,Aa 13 12,Bg 14 3 2 13,Ay 15 4 0 13,Bg 16 15 2 13,Ay 17 5 0 13,Bg 18 17 2 13,Ei 19 130 14 16 18 13,Ap 20 13 19,Aa 6 20] [6]<|.ret) [.tmp 6]:=by decide +kernel
instance uF (t:Types) (p:Pattern) (h_2:AY):Ct prog (Mm t p h_2) 59 [AU t,BA p,IU h_2] (fun r=>.sh (eB r)):=Fi o5 fun r h hw hR=>by
  unfold Mm at h
  exact au
theorem o6:CK f60 (Rq [Af 1 0,Aj 2] [1]<|Sq (Rq [Ae 3 0] [1,3]<|Bl 0<|Lo [1,3]<|Sq (Rq [Aa 4 3,Ab 5 1 1,Ac 6 5,Ah 7 6,An 8 4 7] [1,3,8]<|Co 8 (Sk [1,3])<|Ex 0 [1])<|Sq (Bl 1<|Rq [Ab 11 1 1,Ac 12 11,Aa 13 3,Ai 14 12 13 9,Ad 15 14 9,Ba 16 60 15,Be 17 16] [1,3,17]<|Co 17 (Rq [Aj 2] [2]<|.ret)<|Sk [1,3])<|Re [Aa 9 3,Am 10 9 1,Aa 3 10] [1,3])<|Rq [Ab 18 1 4,Ag 19 18 0,Ag 20 19 0,Ac 21 20,Ah 22 21,Ab 23 1 4,Ag 24 23 0,Ag 25 24 1,Ac 26 25,Ah 27 26,Bm 28 22 27,Gv 29 28 6,Aa 2 29] [2]<|.ret) [.tmp 2]:=by decide +kernel
theorem oK (n:Nat) (_ih_60:∀ (c:AA),Ct prog (GH n c) 60 [AJ c] (fun r=>.sh (eB r))) (c:AA):Ct prog (GH (n+1) c) 60 [AJ c] (fun r=>.sh (eB r)):=Fi o6 fun r h hw hR=>by
  unfold GH at h
  have:HA 0 3 1 1 fun (i0:Int) (_:Unit)=>[(3,.tv (eI i0))]:=⟨⟩
  exact au
theorem oJ:∀ n:Nat,(∀ (c:AA),Ct prog (GH n c) 60 [AJ c] (fun r=>.sh (eB r))):=by
  intro n
  induction n with
  | zero=>exact (fun c=>⟨fun _ h=>by cases h⟩)
  | succ n ih=>exact oK n ih
instance uG (c:AA):Ct prog (Np c) 60 [AJ c] (fun r=>.sh (eB r)):=⟨fun r h=>by
  obtain ⟨N,hN⟩:=DK h
  exact ((oJ N) c).snd r (hN N (Nat.le_refl _))⟩
end Go.Sf.Sc
