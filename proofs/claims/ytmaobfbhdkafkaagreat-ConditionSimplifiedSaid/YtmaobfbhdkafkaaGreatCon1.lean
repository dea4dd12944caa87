/- Contracts of the functions. -/
import Derived.Test.YtmaobfbhdkafkaaGreatCon0
import Derived.Test.YtmaobfbhdkafkaaGreatTryzShelf
import Derived.Test.YtmaobfbhdkafkaaGreatRp
set_option maxRecDepth 100000
set_option maxHeartbeats 4000000
namespace Go.Sf.Sc
open Go Go.Sf Go.Proofs.Tryz
theorem p6 (l:List Int) (m:Int) (r:List Int) (h:H4 l m=some r):AS prog 235 [lI l,eI m] (.own (lI r)):=by
  unfold H4 at h
  split at h
  · rename_i hl
    cases h
    obtain ⟨x,rfl⟩:=List.length_eq_one_iff.1 hl.1
    obtain ⟨k,rfl⟩:=Int.eq_ofNat_of_zero_le hl.2.1
    exact V2 x k (by have:=hl.2.2; omega)
  · cases h
instance ve (l:List Int) (m:Int):Ct Go.Proofs.Tryz.prog (H4 l m) 235 [lI l,eI m] (fun r=>.own (lI r)):=⟨p6 l m⟩
theorem mD:CK f181 (Rq [Bc 6 1] [0,1,2]<|Rq [⟨some 10,.lst 1 [.c (.int .i64 (-1))],none⟩,Aa 11 0,Gd 12 235 10 11,Ck 7 12] [1,2,7]<|Sq (Rq [Aa 13 1,Ag 14 13,Ae 15 0] [2,7,13,14,15]<|Bl 0<|Lo [2,7,13,14,15]<|Rq [Am 16 15 14] [2,7,13,14,15,16]<|Sq (Co 16 (Sk [2,7,13,14,15])<|Ex 0 [7])<|Sq (Bl 1<|Rq [Aa 17 15,Ai 18 13 15 1,Ab 19 18,Aa 8 17,Aa 9 19] [2,7,8,9,13,14,15]<|Re [Bw 20 7,Aa 21 9,Aa 22 2,Aa 23 8,Ai 24 22 23 1,Ab 25 24,Cq 26 20 21 1,Et 26 25] [2,7,13,14,15])<|Re [Al 27 15 1,Aa 15 27] [2,7,13,14,15])<|Rq [Dx 28 7,Aw 6 28] [6]<|.ret) [.tmp 6]:=by decide +kernel
instance ti (n:Int) (AB:List Int) (images:List Int):Ct prog (G7 n AB images) 181 [eI n,lI AB,lI images] (fun r=>.own (lI r)):=Fi mD fun r h hw hR=>by
  unfold G7 at h
  have:HA 0 15 14 0 fun (i0:Int) (s0:List Int)=>[(7,.xo 1 (List.map eI s0)),(15,.tv (eI i0))]:=⟨⟩
  exact au
theorem nA:CK f236 (Rq [Af 2 0,Ae 4 0,Ae 5 0] [1,2]<|Sq (Rq [Ac 6 2 0,Ab 7 6,Aa 8 1,Ag 9 8,Bz 10 9 1,⟨some 11,.call 85 [.s 7,.c (.int .i64 (-1)),.s 10],none⟩,Be 12 11] [1,2,12]<|Co 12 (Rq [Ae 4 0,Ae 5 6] [4,5]<|.ret)<|Sk [1,2])<|Rq [Ad 13 2 2,Aa 14 1,Av 15 232 13 14,Aa 4 15,Ae 5 0] [4,5]<|.ret) [.tmp 4,.tmp 5]:=by decide +kernel
instance uj (x_0:Term) (BD:List Int):Ct prog (G4 x_0 BD) 236 [QD x_0,lI BD] (fun r=>.tp [eI r.1,eI r.2]):=Fi nA fun r h hw hR=>by
  unfold G4 at h
  exact au
theorem mE:CK f182 (Rq [Af 4 0,Af 5 1,Af 6 2,Bc 8 1,Ak 9] [3,4,5,6]<|Sq (Dr [10,21,22,23,24,25,26,27,28] [Aa 21 3,⟨some 22,.callx 138 [.s 21],none⟩,Ac 23 5 3,Ab 24 23,Aa 25 3,Ag 26 25,Dw 27 24 26,⟨some 28,.appz 1 22 (.int .i64 0) (.s 27),none⟩,Ck 10 28] [3,4,5,6,10])<|Rq [Ac 29 5 3,Ab 30 29,Eu 31 1 30,Ck 11 31] [3,4,5,6,10,11]<|Sq (Rq [Aa 32 3,Ag 33 32,Ae 34 0] [4,5,6,10,11,33,34]<|Bl 0<|Lo [4,5,6,10,11,33,34]<|Rq [Am 35 34 33] [4,5,6,10,11,33,34,35]<|Sq (Co 35 (Sk [4,5,6,10,11,33,34])<|Ex 0 [4,5,6,10,11])<|Sq (Bl 1<|Rq [Aa 36 34,Aa 12 36] [4,5,6,10,11,12,33,34]<|Re [Bw 37 11,Aa 38 12,Cq 39 37 38 1,Eh 39] [4,5,6,10,11,33,34])<|Re [Al 40 34 1,Aa 34 40] [4,5,6,10,11,33,34])<|Sq (Rq [Ac 41 5 2,Ab 42 41,Ag 43 42,Ae 44 0] [4,5,6,10,11,42,43,44]<|Bl 2<|Lo [4,5,6,10,11,42,43,44]<|Rq [Am 45 44 43] [4,5,6,10,11,42,43,44,45]<|Sq (Co 45 (Sk [4,5,6,10,11,42,43,44])<|Ex 2 [5,10])<|Sq (Bl 3<|Rq [Ai 46 42 44 4,Ad 47 46 4,Dz 14 0 0 0 0,Aj 4 14 47] [4,5,6,10,11,14,42,43,44]<|Sq (Dr [15,48,49,50,51,52,53,54,55,56,57,58,59,60,61,62] [Ac 48 4 2,Ah 49 48 2,Ab 50 49,Ac 51 6 0,Ab 52 51,Ac 53 14 0,Ab 54 53,Ai 55 52 54 1,Ab 56 55,Ai 57 50 56 1,Ab 58 57,Ac 59 14 1,Ab 60 59,Ai 61 58 60 1,Ab 62 61,Aa 15 62] [4,5,6,10,11,14,15,42,43,44])<|Sq (Rq [Ac 63 14 2,Ah 64 63 0,Ab 65 64,Aa 16 65] [4,5,6,10,11,14,15,16,42,43,44]<|Rq [Aa 66 16,Bq 67 66 0,Aa 68 67,Gl 69 11 68,As 70 16 68,Gm 71 69 70 1 68,Gn 72 71 68,Ea 73 72 68,Ap 74 68 73] [4,5,6,10,11,14,15,16,42,43,44,74]<|Co 74 (Re [Bw 75 10,Aa 76 16,Bw 77 11,Aa 78 16,Aa 79 15,Ac 80 14 2,Ah 81 80 1,Ab 82 81,Dw 83 79 82,Cq 84 75 76 1,Et 84 83,Cq 85 77 78 1,Eh 85] [4,5,6,10,11,14,15,42,43,44])<|Sk [4,5,6,10,11,14,15,42,43,44])<|Rq [Ac 87 14 2,Ad 88 87 2,Bw 89 10,Ej 90 236 88 89,Aa 86 90,An 91 86 0,An 92 86 1,Aa 17 91,Aa 18 92] [4,5,6,10,11,15,17,18,42,43,44]<|Rq [Aa 93 18,Az 94 93 0,Aa 95 94,Au 96 17 95,Au 97 15 95,Cx 98 96 97 95,Ar 99 95 98] [4,5,6,10,11,42,43,44,99]<|Co 99 (Rq [Bc 8 1,Ak 9] [8,9]<|.ret)<|Sk [4,5,6,10,11,42,43,44])<|Re [Al 100 44 1,Aa 44 100] [4,5,6,10,11,42,43,44])<|Sq (Rq [Ac 101 5 4,Ab 102 101,Ag 103 102,Ae 104 0] [10,102,103,104]<|Bl 4<|Lo [10,102,103,104]<|Rq [Am 105 104 103] [10,102,103,104,105]<|Sq (Co 105 (Sk [10,102,103,104])<|Ex 4 [10])<|Sq (Bl 5<|Rq [Ai 106 102 104 5,Ad 107 106 5,Fo 20 0 0 0 0 0,Aj 5 20 107] [10,20,102,103,104]<|Rq [Ad 108 20 5,Bw 109 10,Ej 110 233 108 109,Be 111 110] [10,102,103,104,111]<|Co 111 (Rq [Bc 8 1,Ak 9] [8,9]<|.ret)<|Sk [10,102,103,104])<|Re [Al 112 104 1,Aa 104 112] [10,102,103,104])<|Rq [Dx 113 10,Aw 8 113,Bt 9] [8,9]<|.ret) [.tmp 8,.tmp 9]:=by decide +kernel
instance tj (s_0:AR) (q:Pattern) (m:Morphism) (given:List Int):Ct prog (EN s_0 q m given) 182 [B0 s_0,A8 q,BU m,lI given] (fun r=>.tp [lI r.1,eB r.2]):=Fi mE fun r h hw hR=>by
  unfold EN at h
  have:HA 0 34 33 0 fun (i0:Int) (s0:List Bool)=>[(11,.xo 1 (List.map eB s0)),(34,.tv (eI i0))]:=⟨⟩
  have:HA 2 44 43 0 fun (i2:Int) (s2:List Int × List Bool)=>[(10,.xo 1 (List.map eI s2.1)),(11,.xo 1 (List.map eB s2.2)),(44,.tv (eI i2))]:=⟨⟩
  have:HA 4 104 103 0 fun (i4:Int) (_:Unit)=>[(104,.tv (eI i4))]:=⟨⟩
  exact au
theorem ku:CK f115 (Rq [Af 3 0,Af 4 1,Af 5 2,Bc 6 3,Ae 7 0] [3,4,5]<|Rq [Ac 17 4 4,Ah 18 17 0,Ad 19 18 2,Ca 8 1 3,Aj 2 8 19] [3,4,5,8]<|Sq (Dr [9,20,21,22,23,24,25,26,27,28,29,30,31,32,33,34,35,36,37,38,39,40] [Ac 20 8 0,Ab 21 20,Ag 22 21,Ac 23 4 2,Ah 24 23 0,Ab 25 24,Ac 26 5 0,Ah 27 26 0,Ab 28 27,Bi 29 181 22 25 28,Ac 30 8 1,Ab 31 30,Ag 32 31,Ac 33 4 2,Ah 34 33 1,Ab 35 34,Ac 36 5 0,Ah 37 36 1,Ab 38 37,Bi 39 181 32 35 38,Dd 40 1 1 0 1 29 1 1 39,Ca 9 1 1,Aj 2 9 40] [3,4,5,8,9])<|Rq [Ac 42 3 0,Ad 43 42 2,Ad 44 8 2,Ac 45 3 2,Ah 46 45 0,Ad 47 46 2,Ad 48 9 2,Ac 49 3 5,Ab 50 49,Gp 51 29 43 44 47 48 50,Aa 41 51,An 52 41 0,An 53 41 1,Aw 10 52,Aa 11 53] [3,4,5,10,11]<|Sq (Rq [Aa 54 11,Az 55 54 0] [3,4,5,10,11,55]<|Co 55 (Rq [Aa 56 11,Bc 6 3,Aa 7 56] [6,7]<|.ret)<|Sk [3,4,5,10])<|Rq [Bc 12 3] [3,4,5,10,12]<|Sq (Rq [Aa 57 10,Ag 58 57,Ae 59 0] [3,4,5,12,57,58,59]<|Bl 0<|Lo [3,4,5,12,57,58,59]<|Rq [Am 60 59 58] [3,4,5,12,57,58,59,60]<|Sq (Co 60 (Sk [3,4,5,12,57,58,59])<|Ex 0 [12])<|Sq (Bl 1<|Rq [Ai 61 57 59 2,Ad 62 61 2,Ca 14 1 1,Aj 2 14 62] [3,4,5,12,14,57,58,59]<|Rq [Ad 64 3 6,Ac 65 4 4,Ad 66 65 5,Ad 67 14 2,Ac 68 5 2,Ab 69 68,Cs 70 182 64 66 67 69,Aa 63 70,An 71 63 0,An 72 63 1,Aw 15 71,Aa 16 72] [3,4,5,12,14,15,16,57,58,59]<|Rq [Aa 73 16] [3,4,5,12,14,15,57,58,59,73]<|Co 73 (Re [Aw 74 12,Ad 75 14 2,Aa 76 15,Ey 77 1 1 1 0 2 75 2 1 76,Bf 78 3 77,Bg 79 3 74 78,Aw 12 79] [3,4,5,12,57,58,59])<|Sk [3,4,5,12,57,58,59])<|Re [Al 80 59 1,Aa 59 80] [3,4,5,12,57,58,59])<|Rq [Aa 81 12,Aw 6 81,Ae 7 0] [6,7]<|.ret) [.tmp 6,.tmp 7]:=by decide +kernel
instance sZ (s_0:AR) (c:AA) (m:AL):Ct prog (BY s_0 c m) 115 [B0 s_0,AG c,CJ m] (fun r=>.tp [(eL 3 CJ) r.1,eI r.2]):=Fi ku fun r h hw hR=>by
  unfold BY at h
  have:HA 0 59 58 0 fun (i0:Int) (s0:List AL)=>[(12,.ow ((eL 3 CJ) s0)),(59,.tv (eI i0))]:=⟨⟩
  exact au
theorem rA:CK f48 (Rq [Af 3 0,Af 4 1,Af 5 2,Dh 6 0 1 1 1 5,Ae 7 0] [3,4,5,6]<|Sq (Rq [Ac 19 4 0,Ab 20 19] [3,4,5,6,20]<|Bl 0<|Rq [Bb 22 20 2,Aa 21 22] [3,4,5,6,20,21]<|Co 21 (Sq (Dr [8,9,23,24,25,26,27,28,29,30,31,32] [Ad 24 3 6,Ac 25 4 1,Ab 26 25,Cy 27 26 0 9,Ad 28 27 9,Ad 29 5 3,Bi 30 48 24 28 29,Aa 23 30,An 31 23 0,An 32 23 1,Dh 8 0 1 1 1 5,Aj 5 8 31,Aa 9 32] [6,9])<|Sq (Rq [Aa 33 9] [6,9,33]<|Bl 1<|Rq [Bb 35 33 0,Aa 34 35] [6,9,33,34]<|Co 34 (Rq [Di 36 0 1 1 1 5,Aj 5 6 36,Ae 7 10] [6,7]<|.ret)<|Rq [Bb 38 33 10,Aa 37 38] [6,9,37]<|Co 37 (Rq [Di 39 0 1 1 1 5,Aj 5 6 39,Ae 7 0] [6,7]<|.ret)<|Sk [6,9])<|Rq [Di 40 0 1 1 1 5,Aa 41 9,Aj 5 6 40,Aa 7 41] [6,7]<|.ret)<|Rq [Bb 43 20 3,Aa 42 43] [3,4,5,6,20,42]<|Co 42 (Rq [Dh 10 0 1 1 1 5] [3,4,5,6,10]<|Sq (Rq [Ac 44 4 1,Ab 45 44,Ag 46 45,Ae 47 0] [3,5,6,10,45,46,47]<|Bl 2<|Lo [3,5,6,10,45,46,47]<|Rq [Am 48 47 46] [3,5,6,10,45,46,47,48]<|Sq (Co 48 (Sk [3,5,6,10,45,46,47])<|Ex 2 [6,10])<|Sq (Bl 3<|Rq [Ai 49 45 47 9,Ad 50 49 9,Bv 12 0 9 1 1 1 3 4 0 5,Aj 9 12 50] [3,5,6,10,12,45,46,47]<|Rq [Ad 52 3 6,Ad 53 12 9,Ad 54 5 3,Bi 55 48 52 53 54,Aa 51 55,An 56 51 0,An 57 51 1,Dh 13 0 1 1 1 5,Aj 5 13 56,Aa 14 57] [3,5,6,10,13,14,45,46,47]<|Sq (Rq [Aa 58 14,Az 59 58 0] [3,5,6,10,13,14,45,46,47,59]<|Co 59 (Rq [Di 60 0 1 1 1 5,Aa 61 14,Aj 5 6 60,Aa 7 61] [6,7]<|.ret)<|Sk [3,5,6,10,13,45,46,47])<|Re [Ac 62 10 4,Cj 63 62,Ad 64 13 5,Bf 65 5 64,Bg 66 5 63 65,Ac 67 10 4,Bp 1 67 66] [3,5,6,10,45,46,47])<|Re [Al 68 47 1,Aa 47 68] [3,5,6,10,45,46,47])<|Rq [Ad 69 10 5,Aj 5 6 69,Ae 7 0] [6,7]<|.ret)<|Rq [Bb 71 20 4,Aa 70 71] [3,4,5,6,20,70]<|Co 70 (Sq (Rq [Ac 72 4 1,Ab 73 72,Ag 74 73,Ae 75 0] [3,5,6,73,74,75]<|Bl 4<|Lo [3,5,6,73,74,75]<|Rq [Am 76 75 74] [3,5,6,73,74,75,76]<|Sq (Co 76 (Sk [3,5,6,73,74,75])<|Ex 4 [6])<|Sq (Bl 5<|Rq [Aa 77 75,Ai 78 73 75 9,Ad 79 78 9,Bv 16 0 9 1 1 1 3 4 0 5,Aa 15 77,Aj 9 16 79] [3,5,6,15,16,73,74,75]<|Rq [Ad 81 3 6,Ad 82 16 9,Ad 83 5 3,Bi 84 48 81 82 83,Aa 80 84,An 85 80 0,An 86 80 1,Dh 17 0 1 1 1 5,Aj 5 17 85,Aa 18 86] [3,5,6,15,17,18,73,74,75]<|Sq (Rq [Aa 87 18,Bb 88 87 0] [3,5,6,15,17,18,73,74,75,88]<|Co 88 (Rq [Aa 89 15,Ad 90 17 5,Bf 91 5 90,Hh 92 0 1 1 1 5 0 1 89 4 1 91,Aj 5 6 92,Ae 7 0] [6,7]<|.ret)<|Sk [3,5,6,18,73,74,75])<|Rq [Aa 93 18,Az 94 93 10] [3,5,6,18,73,74,75,94]<|Co 94 (Rq [Di 95 0 1 1 1 5,Aa 96 18,Aj 5 6 95,Aa 7 96] [6,7]<|.ret)<|Sk [3,5,6,73,74,75])<|Re [Al 97 75 1,Aa 75 97] [3,5,6,73,74,75])<|Rq [Di 98 0 1 1 1 5,Aj 5 6 98,Ae 7 10] [6,7]<|.ret)<|Rq [Bb 100 20 5,Aa 99 100] [3,4,5,6,99]<|Co 99 (Rq [Ad 101 3 6,Ad 102 4 9,Ad 103 5 3,Bi 104 111 101 102 103,An 105 104 0,An 106 104 1,Aj 5 6 105,Aa 7 106] [6,7]<|.ret)<|Sk [6])<|Rq [Di 107 0 1 1 1 5,Aj 5 6 107,Ae 7 0] [6,7]<|.ret) [.cell 6 (some 5),.tmp 7]:=by decide +kernel
theorem ko:CK f111 (Rq [Af 3 0,Af 4 1,Af 5 2,Dh 6 0 1 1 1 5,Ae 7 0] [3,4,5,6]<|Rq [Ad 15 3 6,Ad 16 4 9,Ad 17 5 3,Bi 18 115 15 16 17,Aa 14 18,An 19 14 0,An 20 14 1,Aw 8 19,Aa 9 20] [3,4,6,8,9]<|Sq (Rq [Aa 21 9,Az 22 21 0] [3,4,6,8,9,22]<|Co 22 (Rq [Di 23 0 1 1 1 5,Aa 24 9,Aj 5 6 23,Aa 7 24] [6,7]<|.ret)<|Sk [3,4,6,8])<|Sq (Rq [Aa 25 8,Ag 26 25,Ae 27 0] [3,4,6,25,26,27]<|Bl 0<|Lo [3,4,6,25,26,27]<|Rq [Am 28 27 26] [3,4,6,25,26,27,28]<|Sq (Co 28 (Sk [3,4,6,25,26,27])<|Ex 0 [6])<|Sq (Bl 1<|Rq [Ai 29 25 27 3,Ad 30 29 3,Dm 11 1 1 1,Aj 3 11 30] [3,4,6,11,25,26,27]<|Sq (Dr [12,13,31,32,33,34,35,36,37,38,39,40] [Ad 32 3 6,Ac 33 4 1,Ab 34 33,Cy 35 34 0 9,Ad 36 35 9,Ad 37 11 3,Bi 38 48 32 36 37,Aa 31 38,An 39 31 0,An 40 31 1,Dh 12 0 1 1 1 5,Aj 5 12 39,Aa 13 40] [3,4,6,11,12,13,25,26,27])<|Sq (Rq [Aa 41 13,Bb 42 41 0] [3,4,6,11,12,13,25,26,27,42]<|Co 42 (Rq [Ad 43 11 3,Ad 44 12 5,Bf 45 5 44,Hh 46 0 1 1 1 5 1 3 43 4 1 45,Aj 5 6 46,Ae 7 0] [6,7]<|.ret)<|Sk [3,4,6,13,25,26,27])<|Rq [Aa 47 13,Az 48 47 10] [3,4,6,13,25,26,27,48]<|Co 48 (Rq [Di 49 0 1 1 1 5,Aa 50 13,Aj 5 6 49,Aa 7 50] [6,7]<|.ret)<|Sk [3,4,6,25,26,27])<|Re [Al 51 27 1,Aa 27 51] [3,4,6,25,26,27])<|Rq [Di 52 0 1 1 1 5,Aj 5 6 52,Ae 7 10] [6,7]<|.ret) [.cell 6 (some 5),.tmp 7]:=by decide +kernel
theorem qJ (n:Nat) (_ih_48:∀ (s_0:AR) (c:AA) (m:AL),Ct prog (AY n s_0 c m) 48 [B0 s_0,AG c,CJ m] (fun r=>.tp [EP r.1,eI r.2])) (_ih_111:∀ (s_0:AR) (c:AA) (m:AL),Ct prog (BL n s_0 c m) 111 [B0 s_0,AG c,CJ m] (fun r=>.tp [EP r.1,eI r.2])) (s_0:AR) (c:AA) (m:AL):Ct prog (AY (n+1) s_0 c m) 48 [B0 s_0,AG c,CJ m] (fun r=>.tp [EP r.1,eI r.2]):=Fi rA fun r h hw hR=>by
  unfold AY at h
  have:HA 2 47 46 0 fun (i2:Int) (s2:A4 × A4)=>[(6,.bx [⟨false,eI s2.1.Choice⟩,⟨true,lI s2.1.Match.Morphism.Nodes⟩,⟨true,lI s2.1.Match.Morphism.Edges⟩,⟨true,lI s2.1.Match.Vars⟩,⟨true,Ly s2.1.Kids⟩]),(10,.bx [⟨false,eI s2.2.Choice⟩,⟨true,lI s2.2.Match.Morphism.Nodes⟩,⟨true,lI s2.2.Match.Morphism.Edges⟩,⟨true,lI s2.2.Match.Vars⟩,⟨true,Ly s2.2.Kids⟩]),(47,.tv (eI i2))]:=⟨⟩
  have:HA 4 75 74 0 fun (i4:Int) (s4:A4)=>[(6,.bx [⟨false,eI s4.Choice⟩,⟨true,lI s4.Match.Morphism.Nodes⟩,⟨true,lI s4.Match.Morphism.Edges⟩,⟨true,lI s4.Match.Vars⟩,⟨true,Ly s4.Kids⟩]),(75,.tv (eI i4))]:=⟨⟩
  exact au
theorem kG (n:Nat) (_ih_48:∀ (s_0:AR) (c:AA) (m:AL),Ct prog (AY n s_0 c m) 48 [B0 s_0,AG c,CJ m] (fun r=>.tp [EP r.1,eI r.2])) (_ih_111:∀ (s_0:AR) (c:AA) (m:AL),Ct prog (BL n s_0 c m) 111 [B0 s_0,AG c,CJ m] (fun r=>.tp [EP r.1,eI r.2])) (s_0:AR) (c:AA) (m:AL):Ct prog (BL (n+1) s_0 c m) 111 [B0 s_0,AG c,CJ m] (fun r=>.tp [EP r.1,eI r.2]):=Fi ko fun r h hw hR=>by
  unfold BL at h
  have:HA 0 27 26 0 fun (i0:Int) (s0:A4)=>[(6,.bx [⟨false,eI s0.Choice⟩,⟨true,lI s0.Match.Morphism.Nodes⟩,⟨true,lI s0.Match.Morphism.Edges⟩,⟨true,lI s0.Match.Vars⟩,⟨true,Ly s0.Kids⟩]),(27,.tv (eI i0))]:=⟨⟩
  exact au
theorem gj:∀ n:Nat,(∀ (s_0:AR) (c:AA) (m:AL),Ct prog (AY n s_0 c m) 48 [B0 s_0,AG c,CJ m] (fun r=>.tp [EP r.1,eI r.2]))∧(∀ (s_0:AR) (c:AA) (m:AL),Ct prog (BL n s_0 c m) 111 [B0 s_0,AG c,CJ m] (fun r=>.tp [EP r.1,eI r.2])):=by
  intro n
  induction n with
  | zero=>exact ⟨(fun s_0 c m=>⟨fun _ h=>by cases h⟩),(fun s_0 c m=>⟨fun _ h=>by cases h⟩)⟩
  | succ n ih=>exact ⟨qJ n ih.1 ih.2,kG n ih.1 ih.2⟩
instance wM (s_0:AR) (c:AA) (m:AL):Ct prog (DR s_0 c m) 48 [B0 s_0,AG c,CJ m] (fun r=>.tp [EP r.1,eI r.2]):=⟨fun r h=>by
  obtain ⟨N,hN⟩:=DE h
  exact ((gj N).1 s_0 c m).snd r (hN N (Nat.le_refl _))⟩
instance sX (s_0:AR) (c:AA) (m:AL):Ct prog (Nd s_0 c m) 111 [B0 s_0,AG c,CJ m] (fun r=>.tp [EP r.1,eI r.2]):=⟨fun r h=>by
  obtain ⟨N,hN⟩:=DE h
  exact ((gj N).2 s_0 c m).snd r (hN N (Nat.le_refl _))⟩
theorem qk:CK f20 (Rq [Af 6 0,Af 7 1,Af 8 2,Af 9 3,Af 10 4,Dh 12 0 1 1 1 5,Ae 13 0] [5,6,7,8,9,10,12]<|Sq (Rq [Ad 15 6 2,Ad 16 7 5,Ad 17 8 9,Ad 18 9 3,Ad 19 10 3,Aa 20 5,Ez 21 47 15 16 17 18 19 20,Aa 14 21] [5,6,8,9,10,12,14]<|Rq [Aa 22 14,Az 23 22 0] [5,6,8,9,10,12,14,23]<|Co 23 (Rq [Di 24 0 1 1 1 5,Aa 25 14,Aj 5 12 24,Aa 13 25] [12,13]<|.ret)<|Sk [5,6,8,9,10,12])<|Rq [Ad 26 6 2,Ad 27 9 3,Aa 28 5,⟨some 29,.bld [.list 4 [],.list 7 [],.list 1 [],.list 3 [],.list 1 [],.bool false] [(0,2,.s 26),(2,3,.s 27),(5,1,.s 28)],none⟩,Ad 30 8 9,Ad 31 10 3,Bi 32 48 29 30 31,An 33 32 0,An 34 32 1,Aj 5 12 33,Aa 13 34] [12,13]<|.ret) [.cell 12 (some 5),.tmp 13]:=by decide +kernel
instance vr (t:Types) (p:Pattern) (c:AA) (h_3:A0) (m:AL) (injective:Bool):Ct prog (DV t p c h_3 m injective) 20 [AU t,A8 p,AG c,Ir h_3,CJ m,eB injective] (fun r=>.tp [EP r.1,eI r.2]):=Fi qk fun r h hw hR=>by
  unfold DV at h
  exact au
theorem qj:CK f18 (Rq [Af 6 0,Af 7 1,Af 8 2,Af 9 3,Af 10 4,Ak 12,Ae 13 0] [5,6,7,8,9,10]<|Rq [Ad 17 6 2,Ad 18 7 5,Ad 19 8 9,Ad 20 9 3,Ad 21 10 3,Aa 22 5,Ez 23 20 17 18 19 20 21 22,Aa 16 23,An 24 16 0,An 25 16 1,Dh 14 0 1 1 1 5,Aj 5 14 24,Aa 15 25] [15]<|Sq (Rq [Aa 26 15,Bb 27 26 10] [15,27]<|Co 27 (Rq [Ak 12,Ae 13 0] [12,13]<|.ret)<|Sk [15])<|Rq [Aa 28 15,Bb 29 28 0,Aa 30 15,Aa 12 29,Aa 13 30] [12,13]<|.ret) [.tmp 12,.tmp 13]:=by decide +kernel
instance vq (t:Types) (p:Pattern) (c:AA) (h_3:A0) (m:AL) (injective:Bool):Ct prog (CM t p c h_3 m injective) 18 [AU t,A8 p,AG c,Ir h_3,CJ m,eB injective] (fun r=>.tp [eB r.1,eI r.2]):=Fi qj fun r h hw hR=>by
  unfold CM at h
  exact au
theorem kt:CK f114 (Rq [Af 1 0,Ak 2] [1]<|Rq [Ac 3 1 0,Ah 4 3 0,Ab 5 4,Ag 6 5,Ac 7 1 0,Ah 8 7 1,Ab 9 8,Ag 10 9,Bn 11 6 10,Ac 12 1 2,Ab 13 12,Ag 14 13,Bn 15 11 14,Bb 16 15 0,Aa 2 16] [2]<|.ret) [.tmp 2]:=by decide +kernel
instance sY (m:AL):Ct prog (FF m) 114 [CJ m] (fun r=>.sh (eB r)):=Fi kt fun r h hw hR=>by
  unfold FF at h
  exact au
theorem mF:CK f183 (Rq [Ae 4 0] [0,1]<|Sq (Rq [Aa 6 0,Ag 7 6,Ae 8 0] [0,1,7,8]<|Bl 0<|Lo [0,1,7,8]<|Rq [Am 9 8 7] [0,1,7,8,9]<|Sq (Co 9 (Sk [0,1,7,8])<|Ex 0 [])<|Sq (Bl 1<|Rq [Aa 10 8,Aa 5 10] [0,1,5,7,8]<|Rq [Aa 11 1,Aa 12 0,Aa 13 5,Ai 14 12 13 3,Ad 15 14 3,Cv 16 11 15] [0,1,5,7,8,16]<|Co 16 (Rq [Aa 17 5,Aa 4 17] [4]<|.ret)<|Sk [0,1,7,8])<|Re [Al 18 8 1,Aa 8 18] [0,1,7,8])<|Rq [Bu 4 (-1)] [4]<|.ret) [.tmp 4]:=by decide +kernel
instance tm (s_0:List AL) (f:AL->Option Bool) (f_f:FuncId) (k_f:List TV) [h_f:∀ (y0:AL),Ct prog (f y0) f_f (CJ y0::k_f) (fun r=>.sh (eB r))]:Ct prog (EA s_0 f) 183 [(eL 3 CJ) s_0,.clo f_f k_f] (fun r=>.sh (eI r)):=Fi mF fun r h hw hR=>by
  unfold EA at h
  have:HA 0 8 7 0 fun (i0:Int) (_:Unit)=>[(8,.tv (eI i0))]:=⟨⟩
  exact au
theorem kv:CK f116 (Rq [Ak 4] [0,1]<|Rq [Aa 5 0,Aa 6 1,Av 7 183 5 6,Bq 8 7 0,Aa 4 8] [4]<|.ret) [.tmp 4]:=by decide +kernel
instance sa (s_0:List AL) (f:AL->Option Bool) (f_f:FuncId) (k_f:List TV) [h_f:∀ (y0:AL),Ct prog (f y0) f_f (CJ y0::k_f) (fun r=>.sh (eB r))]:Ct prog (DS s_0 f) 116 [(eL 3 CJ) s_0,.clo f_f k_f] (fun r=>.sh (eB r)):=Fi kv fun r h hw hR=>by
  unfold DS at h
  exact au
theorem rR:CK f72 (Rq [Af 2 0,Af 3 1,Ak 4] [2,3]<|Rq [Ac 5 2 0,Ab 6 5,Ac 7 3 0,Ab 8 7,Av 9 73 6 8,Aa 10 9,Ay 11 2 1 10,Ba 12 11 10,Ay 13 3 1 10,Ba 14 13 10,Dn 15 73 12 14 10,Ap 16 10 15,Aa 4 16] [4]<|.ret) [.tmp 4]:=by decide +kernel
instance we (a:Morphism) (b:Morphism):Ct prog (If a b) 72 [BU a,BU b] (fun r=>.sh (eB r)):=Fi rR fun r h hw hR=>by
  unfold If at h
  exact au
theorem kx:CK f118 (Rq [Af 2 0,Af 3 1,Ak 4] [2,3]<|Rq [Ac 5 2 0,Ad 6 5 2,Ac 7 3 0,Ad 8 7 2,Av 9 72 6 8,Aa 10 9,Ay 11 2 2 10,Ba 12 11 10,Ay 13 3 2 10,Ba 14 13 10,Dn 15 73 12 14 10,Ap 16 10 15,Aa 4 16] [4]<|.ret) [.tmp 4]:=by decide +kernel
instance sc (a:AL) (b:AL):Ct prog (KX a b) 118 [CJ a,CJ b] (fun r=>.sh (eB r)):=Fi kx fun r h hw hR=>by
  unfold KX at h
  exact au
theorem kw:CK f117 (Rq [Af 2 0,Ak 3] [1,2]<|Rq [Ad 4 2 3,Ac 5 1 1,Ad 6 5 3,Av 7 118 4 6,Aa 3 7] [3]<|.ret) [.tmp 3]:=by decide +kernel
instance sb (x_0:AL) (c0:A4):Ct prog (H5 x_0 c0) 117 [CJ x_0,.pt (EP c0).cells] (fun r=>.sh (eB r)):=Fi kw fun r h hw hR=>by
  unfold H5 at h
  exact au
theorem rB:CK f51 (Rq [Af 4 0,Af 5 1,Af 6 2,Af 7 3,Ak 8] [4,5,6,7]<|Rq [Ac 16 7 4,Ab 17 16,Ag 18 17,Aa 9 18] [4,5,6,7,9]<|Sq (Rq [Ac 19 5 0,Ab 20 19] [4,5,6,7,9,20]<|Bl 0<|Rq [Bb 22 20 1,Aa 21 22] [4,5,6,7,9,20,21]<|Co 21 (Rq [Aa 23 9,Bb 24 23 0,Aa 25 24,Ay 26 7 0 25,Ba 27 26 25,Cw 28 27 0 25,Ap 29 25 28,Aa 30 29,Ay 31 7 1 30,Bh 32 31 3 30,Cc 33 114 32 30,Ap 34 30 33,Aa 8 34] [8]<|.ret)<|Rq [Bb 36 20 2,Aa 35 36] [4,5,6,7,9,20,35]<|Co 35 (Sq (Dr [10,11,37,38,39,40,41,42,43,44,45,46] [Ad 38 4 6,Ac 39 5 1,Ab 40 39,Cy 41 40 0 9,Ad 42 41 9,Ad 43 6 3,Bi 44 48 38 42 43,Aa 37 44,An 45 37 0,An 46 37 1,Dh 10 0 1 1 1 5,Aj 5 10 45,Aa 11 46] [7,9,11])<|Rq [Aa 47 9,Bb 48 47 0,Aa 49 48,Ay 50 7 0 49,Ba 51 50 49,Cw 52 51 0 49,Ap 53 49 52,Aa 54 53,Ay 55 7 1 54,Bh 56 55 3 54,Cc 57 114 56 54,Ap 58 54 57,Aa 59 58,As 60 11 59,Cw 61 60 10 59,Ap 62 59 61,Aa 8 62] [8]<|.ret)<|Rq [Bb 64 20 3,Aa 63 64] [4,5,6,7,9,20,63]<|Co 63 (Sq (Rq [Aa 65 9,Ac 66 5 1,Ab 67 66,Ag 68 67,Bo 69 65 68,Aa 70 69,Aq 71 7 0 70,Ao 72 71 70,Fv 73 72 0 70,Ar 74 70 73,Aa 75 74,Aq 76 7 1 75,Ci 77 76 3 75,Du 78 114 77 75,Br 79 78 75,Ar 80 75 79] [4,5,6,7,80]<|Co 80 (Rq [Ak 8] [8]<|.ret)<|Sk [4,5,6,7])<|Sq (Rq [Ac 81 5 1,Ab 82 81,Ag 83 82,Ae 84 0] [4,6,7,82,83,84]<|Bl 1<|Lo [4,6,7,82,83,84]<|Rq [Am 85 84 83] [4,6,7,82,83,84,85]<|Sq (Co 85 (Sk [4,6,7,82,83,84])<|Ex 1 [])<|Sq (Bl 2<|Rq [Aa 86 84,Ai 87 82 84 9,Ad 88 87 9,Bv 13 0 9 1 1 1 3 4 0 5,Aa 12 86,Aj 9 13 88] [4,6,7,12,13,82,83,84]<|Sq (Dr [89,90,91,92,93,94,95,96,97,98] [Ad 89 4 6,Ad 90 13 9,Ad 91 6 3,Ac 92 7 4,Ab 93 92,Aa 94 12,Ai 95 93 94 5,Ad 96 95 5,Cs 97 51 89 90 91 96,Be 98 97] [4,6,7,82,83,84,98])<|Co 98 (Rq [Ak 8] [8]<|.ret)<|Sk [4,6,7,82,83,84])<|Re [Al 99 84 1,Aa 84 99] [4,6,7,82,83,84])<|Rq [Bt 8] [8]<|.ret)<|Rq [Bb 101 20 4,Aa 100 101] [4,5,6,7,9,100]<|Co 100 (Sq (Dr [8,102,103,104,105,106,107,108,109,110,111,112,113,114,115,116,117,118,119,120,121,122,123,124,125,126,127,128,129,130,131,132,133,134,135,136] [Aa 102 9,Bb 103 102 1,Aa 104 103,Ay 105 7 0 104,Ba 106 105 104,Fw 107 106 0 104,Ap 108 104 107,Aa 109 108,Ay 110 7 0 109,Ba 111 110 109,Ay 112 5 1 109,Ba 113 112 109,By 114 113 109,Er 115 111 114 109,Ap 116 109 115,Aa 117 116,Ay 118 7 1 117,Bh 119 118 3 117,Cc 120 114 119 117,Ap 121 117 120,Aa 122 121,Bh 123 4 6 122,Ay 124 5 1 122,Ba 125 124 122,Ay 126 7 0 122,Ba 127 126 122,Dk 128 125 127 9 122,Bh 129 128 9 122,Bh 130 6 3 122,Ay 131 7 4 122,Ba 132 131 122,Gs 133 132 0 5 122,Bh 134 133 5 122,Gt 135 51 123 129 130 134 122,Ap 136 122 135,Aa 8 136] [8])<|.ret)<|Sk [4,5,6,7,9])<|Sq (Rq [Aa 137 9,Az 138 137 1,Aa 139 138,Aq 140 7 0 139,Ao 141 140 139,Fv 142 141 0 139,Ar 143 139 142] [4,5,6,7,143]<|Co 143 (Rq [Ak 8] [8]<|.ret)<|Sk [4,5,6,7])<|Rq [Ad 145 4 6,Ad 146 5 9,Ad 147 6 3,Bi 148 115 145 146 147,Aa 144 148,An 149 144 0,An 150 144 1,Aw 14 149,Aa 15 150] [4,5,7,14,15]<|Sq (Rq [Aa 151 15,Az 152 151 0,Aa 153 152,Au 154 14 153,⟨some 155,.clo 117 [.s 7],some (153,false)⟩,Db 156 116 154 155 153,Br 157 156 153,Ar 158 153 157] [4,5,7,158]<|Co 158 (Rq [Ak 8] [8]<|.ret)<|Sk [4,5,7])<|Sq (Dr [8,159,160,161,162,163,164,165,166,167,168,169,170] [Ad 159 4 6,Ac 160 5 1,Ab 161 160,Cy 162 161 0 9,Ad 163 162 9,Ac 164 7 1,Ad 165 164 3,Ac 166 7 4,Ab 167 166,Cy 168 167 0 5,Ad 169 168 5,Cs 170 51 159 163 165 169,Aa 8 170] [8])<|.ret) [.tmp 8]:=by decide +kernel
theorem qL (n:Nat) (_ih_51:∀ (s_0:AR) (c:AA) (m:AL) (w:A4),Ct prog (BT n s_0 c m w) 51 [B0 s_0,AG c,CJ m,EP w] (fun r=>.sh (eB r))) (s_0:AR) (c:AA) (m:AL) (w:A4):Ct prog (BT (n+1) s_0 c m w) 51 [B0 s_0,AG c,CJ m,EP w] (fun r=>.sh (eB r)):=Fi rB fun r h hw hR=>by
  unfold BT at h
  have:HA 1 84 83 0 fun (i1:Int) (_:Unit)=>[(84,.tv (eI i1))]:=⟨⟩
  exact au
theorem qK:∀ n:Nat,(∀ (s_0:AR) (c:AA) (m:AL) (w:A4),Ct prog (BT n s_0 c m w) 51 [B0 s_0,AG c,CJ m,EP w] (fun r=>.sh (eB r))):=by
  intro n
  induction n with
  | zero=>exact (fun s_0 c m w=>⟨fun _ h=>by cases h⟩)
  | succ n ih=>exact qL n ih
instance wN (s_0:AR) (c:AA) (m:AL) (w:A4):Ct prog (GY s_0 c m w) 51 [B0 s_0,AG c,CJ m,EP w] (fun r=>.sh (eB r)):=⟨fun r h=>by
  obtain ⟨N,hN⟩:=DE h
  exact ((qK N) s_0 c m w).snd r (hN N (Nat.le_refl _))⟩
theorem ql:CK f23 (Rq [Af 7 0,Af 8 1,Af 9 2,Af 10 3,Af 11 4,Af 13 6,Ak 14] [5,7,8,9,10,11,13]<|Rq [Ad 15 7 2,Ad 16 8 5,Ad 17 9 9,Ad 18 10 3,Ad 19 11 3,Aa 20 5,Ez 21 47 15 16 17 18 19 20,Bb 22 21 0,Aa 23 22,Bh 24 7 2 23,Bh 25 10 3 23,As 26 5 23,⟨some 27,.bld [.list 4 [],.list 7 [],.list 1 [],.list 3 [],.list 1 [],.bool false] [(0,2,.s 24),(2,3,.s 25),(5,1,.s 26)],some (23,true)⟩,Bh 28 9 9 23,Bh 29 11 3 23,Bh 30 13 5 23,Gt 31 51 27 28 29 30 23,Ap 32 23 31,Aa 14 32] [14]<|.ret) [.tmp 14]:=by decide +kernel
instance vt (t:Types) (p:Pattern) (c:AA) (h_3:A0) (m:AL) (injective:Bool) (w:A4):Ct prog (D6 t p c h_3 m injective w) 23 [AU t,A8 p,AG c,Ir h_3,CJ m,eB injective,EP w] (fun r=>.sh (eB r)):=Fi ql fun r h hw hR=>by
  unfold D6 at h
  exact au
theorem qv:CK f35 (Rq [Ca 0 4 7] [0]<|Rq [⟨some 1,.bld [.str ⟨#[]⟩,.int .i64 0,.int .i64 0,.list 1 []] [(0,1,.c (.str ⟨#[98,97,108,97,110,99,101]⟩)),(1,1,.c (.int .i64 (-1000))),(2,1,.c (.int .i64 1000))],none⟩,Bf 2 4 1,⟨some 3,.bld [.str ⟨#[]⟩,.int .i64 0,.bool false,.list 4 []] [(0,1,.c (.str ⟨#[65,99,99,111,117,110,116]⟩)),(1,1,.c (.int .i64 (-1))),(2,1,.c (.bool true)),(3,1,.s 2)],none⟩,⟨some 4,.bld [.str ⟨#[]⟩,.int .i64 0,.bool false,.list 4 []] [(0,1,.c (.str ⟨#[67,97,115,104]⟩)),(1,1,.c (.int .i64 0))],none⟩,⟨some 5,.lst 1 [.c (.str ⟨#[111,112,101,110]⟩),.c (.str ⟨#[99,108,111,115,101,100]⟩)],none⟩,⟨some 6,.bld [.str ⟨#[]⟩,.int .i64 0,.int .i64 0,.list 1 []] [(0,1,.c (.str ⟨#[115,116,97,116,101]⟩)),(2,1,.c (.int .i64 1)),(3,1,.s 5)],none⟩,Bf 7 4 6,⟨some 8,.bld [.str ⟨#[]⟩,.int .i64 0,.bool false,.list 4 []] [(0,1,.c (.str ⟨#[76,111,97,110]⟩)),(1,1,.c (.int .i64 0)),(3,1,.s 7)],none⟩,⟨some 9,.bld [.str ⟨#[]⟩,.int .i64 0,.bool false,.list 4 []] [(0,1,.c (.str ⟨#[80,101,114,115,111,110]⟩)),(1,1,.c (.int .i64 (-1)))],none⟩,⟨some 10,.lst 4 [.s 3,.s 4,.s 8,.s 9],none⟩,⟨some 11,.bld [.str ⟨#[]⟩,.int .i64 0,.int .i64 0,.int .i64 0,.int .i64 0,.int .i64 0,.int .i64 0] [(0,1,.c (.str ⟨#[111,119,110,115]⟩)),(1,1,.c (.int .i64 3)),(2,1,.c (.int .i64 0)),(4,1,.c (.int .i64 (-1))),(5,1,.c (.int .i64 1)),(6,1,.c (.int .i64 1))],none⟩,⟨some 12,.bld [.str ⟨#[]⟩,.int .i64 0,.int .i64 0,.int .i64 0,.int .i64 0,.int .i64 0,.int .i64 0] [(0,1,.c (.str ⟨#[112,97,121,115]⟩)),(1,1,.c (.int .i64 1)),(2,1,.c (.int .i64 1)),(4,1,.c (.int .i64 (-1))),(6,1,.c (.int .i64 (-1)))],none⟩,Eb 13 7 11 12,Gu 14 10 13,Ek 2 0 14] [0]<|.ret) [.cell 0 (some 2)]:=by decide +kernel
instance wB :Ct prog (Nl ) 35 [] (fun r=>.oag [⟨true,lN r.Nodes⟩,⟨true,lX r.Edges⟩]):=Fi qv fun r h hw hR=>by
  unfold Nl at h
  exact au
theorem qw:CK f36 (Rq [Fa 0 1 3 4 0 5 0 9 1 1 1 3 4 0 5] [0]<|Rq [Fx 6 1 3 0,Fb 7 0 0 0 1 1 0 2 1 1,Bf 8 3 7,Dd 9 1 3 0 1 6 1 1 8,Ca 1 1 3,Aj 2 1 9] [0,1]<|Rq [Hi 10 1 3 0 0,Fb 11 0 0 0 1 1 0 2 1 1,Fb 12 0 0 0 1 1 0 2 1 2,Eb 13 3 11 12,Dd 14 1 3 0 1 10 1 1 13,Ca 2 1 3,Aj 2 2 14] [0,1,2]<|Rq [Fc 15 0 0 0 1 0,Hj 16 0 0 0 0 0 1 1 2 2 15,Dz 3 0 0 0 0,Aj 4 3 16] [0,1,2,3]<|Rq [Ad 17 2 2,Ad 18 3 4,Fc 19 0 0 0 1 1,Hj 20 0 0 0 0 0 1 2 2 2 19,Eb 21 4 18 20,Fc 22 0 0 0 1 0,Fc 23 0 0 0 1 1,⟨some 24,.bld [.int .i64 0,.int .i64 0,.int .i64 0,.int .i64 0,.int .i64 0] [(0,1,.c (.int .i64 1)),(1,2,.s 22),(3,2,.s 23)],none⟩,Bf 25 5 24,⟨some 26,.bld [.list 1 [],.list 3 [],.list 4 [],.int .i64 0,.list 5 []] [(0,2,.s 17),(3,1,.c (.int .i64 2)),(2,1,.s 21),(4,1,.s 25)],none⟩,Cr 4 1 3 4 0 5,Aj 5 4 26] [0,1,3,4]<|Rq [Fx 27 1 0 1,Ec 28 1 0,Dd 29 1 1 0 1 27 1 1 28,Ad 30 4 5,Gv 31 0 9 1 1 1 3 4 0 5 0 1 1,Bf 32 9 31,Hk 33 0 9 1 1 1 3 4 0 5 0 1 5 2 2 29 4 5 30 1 1 32,Bv 5 0 9 1 1 1 3 4 0 5,Aj 9 5 33] [0,1,3,5]<|Rq [Ad 34 1 2,Ad 35 3 4,Bf 36 4 35,Hl 37 1 3 4 0 5 0 2 34 3 1 1 2 1 36,Ad 38 5 9,⟨some 39,.bld [.list 1 [],.list 3 [],.list 4 [],.int .i64 0,.list 5 [],.int .i64 0,.list 9 [],.list 1 [],.list 1 [],.list 1 [],.list 3 [],.list 4 [],.int .i64 0,.list 5 []] [(0,5,.s 37),(5,9,.s 38)],none⟩,Aj 14 0 39] [0]<|.ret) [.cell 0 (some 14)]:=by decide +kernel
instance wC :Ct prog (Nj ) 36 [] (fun r=>.sh (Rv r)):=Fi qw fun r h hw hR=>by
  unfold Nj at h
  exact au
theorem qY:CK f11 (Rq [Ak 0] []<|Rq [Cz 10 35,Cz 11 36,Ca 1 4 7,Fa 2 1 3 4 0 5 0 9 1 1 1 3 4 0 5,Aj 2 1 10,Aj 14 2 11] [1,2]<|Rq [Hi 12 1 3 1 1,Fb 13 0 0 0 1 1 0 2 1 1,Fb 14 0 0 0 1 1 0 2 1 2,Eb 15 3 13 14,Dd 16 1 3 0 1 12 1 1 15,Ec 17 1 10,Ec 18 1 5,⟨some 19,.lst 1 [.c (.list 1 []),.s 17,.s 18],none⟩,Ey 20 1 3 1 0 2 16 2 1 19,Dm 3 1 3 1,Aj 3 3 20] [1,2,3]<|Rq [Fx 21 1 0 2,Ec 22 1 1,Dd 23 1 1 0 1 21 1 1 22,Ec 24 1 5,Ey 25 1 1 1 0 2 23 2 1 24,Dm 4 1 1 1,Aj 3 4 25] [1,2,3,4]<|Rq [Fx 26 1 0 1,Ec 27 1 0,Dd 28 1 1 0 1 26 1 1 27,Ec 29 1 10,Ey 30 1 1 1 0 2 28 2 1 29,Dm 5 1 1 1,Aj 3 5 30] [1,2,3,4,5]<|Rq [Ad 32 1 2,Ac 33 2 0,Ad 34 33 5,Ac 35 2 5,Ad 36 35 9,Ad 37 3 3,Ad 38 4 3,Hm 39 20 32 34 36 37 38,Aa 31 39,An 40 31 0,An 41 31 1,Dh 6 0 1 1 1 5,Aj 5 6 40,Aa 7 41] [1,2,3,4,5,6,7]<|Rq [Ad 43 1 2,Ac 44 2 0,Ad 45 44 5,Ac 46 2 5,Ad 47 46 9,Ad 48 3 3,Ad 49 5 3,Hm 50 18 43 45 47 48 49,Aa 42 50,An 51 42 0,An 52 42 1,Aa 8 51,Aa 9 52] [1,2,3,4,6,7,8,9]<|Rq [Aa 53 7,Bb 54 53 0,Aa 55 54,As 56 9 55,Cw 57 56 0 55,Ap 58 55 57,Aa 59 58,As 60 8 59,Ea 61 60 59,Ap 62 59 61,Aa 63 62,Ay 64 6 1 63,Bx 65 64 2 63,Ba 66 65 63,By 67 66 63,Cw 68 67 2 63,Ap 69 63 68,Aa 70 69,Ay 71 6 1 70,Bx 72 71 2 70,Ba 73 72 70,Gs 74 73 1 1 70,Ba 75 74 70,Cw 76 75 10 70,Ap 77 70 76,Aa 78 77,Bh 79 1 2 78,Ay 80 2 0 78,Bh 81 80 5 78,Ay 82 2 5 78,Bh 83 82 9 78,Bh 84 3 3 78,Bh 85 4 3 78,Bh 86 6 5 78,⟨some 87,.call 23 [.s 79,.s 81,.s 83,.s 84,.s 85,.c (.bool true),.s 86],some (78,true)⟩,Ap 88 78 87,Aa 0 88] [0]<|.ret) [.tmp 0]:=by decide +kernel
instance vj :Ct prog (F6 ) 11 [] (fun r=>.sh (eB r)):=Fi qY fun r h hw hR=>by
  unfold F6 at h
  exact au
theorem mI:CK f186 (Rq [Af 2 0,Bc 4 4] [1,2]<|Sq (Rq [Aa 5 1,Cd 6 5 0] [1,2,6]<|Co 6 (Rq [Bc 4 4] [4]<|.ret)<|Sk [1,2])<|Sq (Dr [4,7,8,9,10,11,12,13,14,15,16,17,18,19,20,21,22,23] [Cp 7 4,Ad 8 2 2,Ac 9 2 0,Ab 10 9,Aa 11 1,Ai 12 10 11 4,Ah 13 12 1,Ab 14 13,Av 15 186 8 14,Bg 16 4 7 15,Ac 17 2 0,Ab 18 17,Aa 19 1,Ai 20 18 19 4,Ah 21 20 3,Ab 22 21,Bg 23 4 16 22,Aw 4 23] [4])<|.ret) [.tmp 4]:=by decide +kernel
theorem kL (n:Nat) (_ih_186:∀ (t:Types) (a:Int),Ct prog (HQ n t a) 186 [AU t,eI a] (fun r=>.own (lA r))) (t:Types) (a:Int):Ct prog (HQ (n+1) t a) 186 [AU t,eI a] (fun r=>.own (lA r)):=Fi mI fun r h hw hR=>by
  unfold HQ at h
  exact au
theorem kK:∀ n:Nat,(∀ (t:Types) (a:Int),Ct prog (HQ n t a) 186 [AU t,eI a] (fun r=>.own (lA r))):=by
  intro n
  induction n with
  | zero=>exact (fun t a=>⟨fun _ h=>by cases h⟩)
  | succ n ih=>exact kL n ih
instance tu (t:Types) (a:Int):Ct prog (NL t a) 186 [AU t,eI a] (fun r=>.own (lA r)):=⟨fun r h=>by
  obtain ⟨N,hN⟩:=DE h
  exact ((kK N) t a).snd r (hN N (Nat.le_refl _))⟩
theorem mK:CK f188 (Rq [Ak 6] [0,1,2]<|Rq [Aa 7 0,Aa 8 1,Dc 9 7 8,Aa 10 9,As 11 0 10,As 12 2 10,Ep 13 11 12 10,Ap 14 10 13,Aa 6 14] [6]<|.ret) [.tmp 6]:=by decide +kernel
instance tz (n:Int) (low:Int) (high:Int):Ct prog (EC n low high) 188 [eI n,eI low,eI high] (fun r=>.sh (eB r)):=Fi mK fun r h hw hR=>by
  unfold EC at h
  exact au
theorem nc:CK f280 (Rq [Af 1 0,Df 2] [1]<|Sq (Rq [Ac 3 1 0,Ab 4 3,Bb 5 4 3] [1,5]<|Co 5 (Rq [Ac 6 1 1,Ab 7 6,⟨some 8,.bin (.s) .add (.c (.str ⟨#[34]⟩)) (.s 7),none⟩,⟨some 9,.bin (.s) .add (.s 8) (.c (.str ⟨#[34]⟩)),none⟩,Aa 2 9] [2]<|.ret)<|Sk [1])<|Rq [Ac 10 1 1,Ab 11 10,Aa 2 11] [2]<|.ret) [.tmp 2]:=by decide +kernel
instance vG (t:FK):Ct prog (N3 t) 280 [Sj t] (fun r=>.sh (eS r)):=Fi nc fun r h hw hR=>by
  unfold N3 at h
  exact au
theorem nv:CK f302 (Rq [Ak 2] [0]<|Rq [Aa 3 0,Eo 4 3 97,Aa 5 4,As 6 0 5,Dt 7 6 122 5,Ap 8 5 7,Aa 9 8,Au 10 0 9,Ha 11 10 65 9,Au 12 11 9,As 13 0 12,Dt 14 13 90 12,Cf 15 12 14 9,Ar 16 9 15,Aa 2 16] [2]<|.ret) [.tmp 2]:=by decide +kernel
instance vR (c:Int):Ct prog (Kv c) 302 [HL c] (fun r=>.sh (eB r)):=Fi nv fun r h hw hR=>by
  unfold Kv at h
  exact au
theorem nw:CK f303 (Rq [Ak 2] [0]<|Rq [Aa 3 0,Eo 4 3 48,Aa 5 4,As 6 0 5,Dt 7 6 57 5,Ap 8 5 7,Aa 2 8] [2]<|.ret) [.tmp 2]:=by decide +kernel
instance vS (c:Int):Ct prog (JA c) 303 [HL c] (fun r=>.sh (eB r)):=Fi nw fun r h hw hR=>by
  unfold JA at h
  exact au
theorem nx:CK f304 (Rq [Ae 6 0] [0,1,2]<|Rq [Ae 7 0] [0,1,2,7]<|Sq (Bl 0<|Lo [0,1,2,7]<|Sq (Rq [Aa 8 1,Aa 9 7,Bn 10 8 9,Aa 11 0,De 12 11,Am 13 10 12,Aa 14 13,As 15 0 14,As 16 1 14,As 17 7 14,Fy 18 16 17 14,Gb 19 15 18 14,Cc 20 303 19 14,As 21 20 14,Au 22 2 21,Br 23 22 21,Au 24 23 21,As 25 0 24,As 26 1 24,As 27 7 24,Fy 28 26 27 24,Gb 29 25 28 24,Cc 30 302 29 24,As 31 30 24,Au 32 0 31,Au 33 1 31,Au 34 7 31,Gw 35 33 34 31,⟨some 36,.sidx (.s 32) (.s 35),some (31,false)⟩,Hb 37 36 95 31,Ef 38 31 37 24,Cf 39 24 38 21,Ef 40 21 39 14,Ap 41 14 40] [0,1,2,7,41]<|Co 41 (Sk [0,1,2,7])<|Ex 0 [7])<|Bl 1<|Re [Aa 42 7,Al 43 42 1,Aa 7 43] [0,1,2,7])<|Rq [Aa 44 7,Aa 6 44] [6]<|.ret) [.tmp 6]:=by decide +kernel
instance vT (s_0:ByteArray) (AB:Int) (digits:Bool):Ct prog (NV s_0 AB digits) 304 [eS s_0,eI AB,eB digits] (fun r=>.sh (eI r)):=Fi nx fun r h hw hR=>by
  unfold NV at h
  have:HW 0 fun (s0:Int)=>[(7,.tv (eI s0))]:=⟨⟩
  exact au
theorem ny:CK f305 (Rq [Ae 4 0] [0,1]<|Sq (Rq [Ae 5 1] [0,1,5]<|Bl 0<|Lo [0,1,5]<|Sq (Rq [Aa 7 1,Aa 8 5,Bn 9 7 8,Aa 10 0,De 11 10,Am 12 9 11] [0,1,5,12]<|Co 12 (Sk [0,1,5])<|Ex 0 [])<|Sq (Bl 1<|Rq [Aa 15 0,Aa 16 1,Aa 17 5,Bn 18 16 17,⟨some 19,.sidx (.s 15) (.s 18),none⟩,Aa 6 19] [0,1,5,6]<|Sq (Rq [Aa 20 6,Cn 21 20 34] [0,1,5,6,21]<|Co 21 (Rq [Aa 22 5,Al 23 22 1,Aa 4 23] [4]<|.ret)<|Sk [0,1,5,6])<|Rq [Aa 24 6,⟨some 25,.bin (.i) .lss (.s 24) (.c (.int .u8 32)),none⟩,Aa 26 25,Au 27 6 26,⟨some 28,.bin (.i) .gtr (.s 27) (.c (.int .u8 126)),some (26,false)⟩,Ar 29 26 28] [0,1,5,29]<|Co 29 (Rq [Ae 4 0] [4]<|.ret)<|Sk [0,1,5])<|Re [Aa 13 5,Al 14 13 1,Aa 5 14] [0,1,5])<|Rq [Ae 4 0] [4]<|.ret) [.tmp 4]:=by decide +kernel
instance vU (s_0:ByteArray) (AB:Int):Ct prog (Kw s_0 AB) 305 [eS s_0,eI AB] (fun r=>.sh (eI r)):=Fi ny fun r h hw hR=>by
  unfold Kw at h
  have:HW 0 fun (s0:Int)=>[(5,.tv (eI s0))]:=⟨⟩
  exact au
theorem n0:CK f306 (Rq [Bc 0 1] []<|Rq [⟨some 1,.lst 1 [.c (.str ⟨#[45,62]⟩),.c (.str ⟨#[60,61]⟩),.c (.str ⟨#[62,61]⟩),.c (.str ⟨#[61,61]⟩),.c (.str ⟨#[33,61]⟩),.c (.str ⟨#[123]⟩),.c (.str ⟨#[125]⟩),.c (.str ⟨#[40]⟩),.c (.str ⟨#[41]⟩),.c (.str ⟨#[91]⟩),.c (.str ⟨#[93]⟩),.c (.str ⟨#[44]⟩),.c (.str ⟨#[59]⟩),.c (.str ⟨#[58]⟩),.c (.str ⟨#[61]⟩),.c (.str ⟨#[43]⟩),.c (.str ⟨#[45]⟩),.c (.str ⟨#[42]⟩),.c (.str ⟨#[60]⟩),.c (.str ⟨#[62]⟩),.c (.str ⟨#[33]⟩),.c (.str ⟨#[38]⟩),.c (.str ⟨#[124]⟩),.c (.str ⟨#[46]⟩),.c (.str ⟨#[63]⟩)],none⟩,Aw 0 1] [0]<|.ret) [.tmp 0]:=by decide +kernel
instance vV :Ct prog (NK ) 306 [] (fun r=>.own (lB r)):=Fi n0 fun r h hw hR=>by
  unfold NK at h
  exact au
theorem ng:CK f281 (Rq [Hn 4 0 0,Ae 5 0,Ae 6 0] [0,1,4]<|Rq [Aa 14 0,Aa 15 1,⟨some 16,.sidx (.s 14) (.s 15),none⟩,Aa 7 16] [0,1,4,7]<|Sq (Rq [Aa 17 7,Ax 18 302 17,Aa 19 18,Au 20 7 19,Du 21 303 20 19,Ar 22 19 21] [0,1,4,7,22]<|Co 22 (Rq [Aa 23 0,Aa 24 1,Aa 25 7,Ax 26 303 25,Bi 27 304 23 24 26,Aa 8 27] [0,1,4,7,8]<|Rq [Ae 9 1,Ae 10 20] [0,1,4,7,8,9,10]<|Sq (Rq [Aa 28 7,Ax 29 303 28] [0,1,4,8,9,10,29]<|Co 29 (Re [Ae 9 2,Ae 10 9] [0,1,4,8,9,10])<|Sk [0,1,4,8,9,10])<|Sq (Rq [Aa 30 8,Aa 31 10,Ew 32 30 31] [0,1,4,8,9,32]<|Co 32 (Rq [Fz 33 0 0,Aj 3 4 33,Ae 5 0,Ae 6 3] [4,5,6]<|.ret)<|Sk [0,1,4,8,9])<|Rq [Aa 34 9,Aa 35 0,Aa 36 1,Aa 37 1,Aa 38 8,Bn 39 37 38,⟨some 40,.sslc (.s 35) (some (.s 36)) (some (.s 39)),none⟩,⟨some 41,.bld [.int .i64 0,.str ⟨#[]⟩,.int .i64 0] [(0,1,.s 34),(1,1,.s 40)],none⟩,Aa 42 8,Aj 3 4 41,Aa 5 42,Ae 6 0] [4,5,6]<|.ret)<|Sk [0,1,4,7])<|Sq (Rq [Aa 43 7,Cn 44 43 34] [0,1,4,44]<|Co 44 (Rq [Aa 45 0,Aa 46 1,Av 47 305 45 46,Aa 11 47] [0,1,4,11]<|Sq (Rq [Aa 48 11,Bb 49 48 0] [0,1,4,11,49]<|Co 49 (Rq [Fz 50 0 0,Aj 3 4 50,Ae 5 0,Ae 6 2] [4,5,6]<|.ret)<|Sk [0,1,4,11])<|Sq (Rq [Aa 51 11,Bz 52 51 2,Bk 53 52 60] [0,1,4,11,53]<|Co 53 (Rq [Fz 54 0 0,Aj 3 4 54,Ae 5 0,Ae 6 3] [4,5,6]<|.ret)<|Sk [0,1,4,11])<|Rq [Aa 55 0,Aa 56 1,Al 57 56 1,Aa 58 1,Aa 59 11,Bn 60 58 59,Bz 61 60 1,⟨some 62,.sslc (.s 55) (some (.s 57)) (some (.s 61)),none⟩,Fg 63 0 0 0 1 3 1 1 62,Aa 64 11,Aj 3 4 63,Aa 5 64,Ae 6 0] [4,5,6]<|.ret)<|Sk [0,1,4])<|Rq [Cz 65 306,Aw 12 65] [0,1,4,12]<|Sq (Rq [Ae 13 0] [0,1,4,12,13]<|Bl 0<|Lo [0,1,4,12,13]<|Sq (Rq [Aa 66 13,Aa 67 12,Ag 68 67,Am 69 66 68] [0,1,4,12,13,69]<|Co 69 (Sk [0,1,4,12,13])<|Ex 0 [4])<|Sq (Bl 1<|Sq (Dr [72,73,74,75,76,77,78,79,80,81,82,83,84,85,86,87,88,89,90,91,92,93,94,95,96,97,98] [Aa 72 1,Aa 73 12,Aa 74 13,Ai 75 73 74 1,Ab 76 75,De 77 76,Bn 78 72 77,Aa 79 0,De 80 79,⟨some 81,.bin (.i) .leq (.s 78) (.s 80),none⟩,Aa 82 81,As 83 0 82,As 84 1 82,As 85 1 82,As 86 12 82,As 87 13 82,Dk 88 86 87 1 82,Ba 89 88 82,Gc 90 89 82,Fy 91 85 90 82,⟨some 92,.sslc (.s 83) (some (.s 84)) (some (.s 91)),some (82,true)⟩,As 93 12 82,As 94 13 82,Dk 95 93 94 1 82,Ba 96 95 82,⟨some 97,.bin (.s) .eql (.s 92) (.s 96),some (82,true)⟩,Ap 98 82 97] [0,1,4,12,13,98])<|Co 98 (Sq (Dr [4,5,6,99,100,101,102,103,104,105,106,107,108] [Aa 99 12,Aa 100 13,Ai 101 99 100 1,Ab 102 101,Fg 103 0 0 0 1 4 1 1 102,Aa 104 12,Aa 105 13,Ai 106 104 105 1,Ab 107 106,De 108 107,Aj 3 4 103,Aa 5 108,Ae 6 0] [4,5,6])<|.ret)<|Sk [0,1,4,12,13])<|Re [Aa 70 13,Al 71 70 1,Aa 13 71] [0,1,4,12,13])<|Rq [Fz 109 0 0,Aj 3 4 109,Ae 5 0,Ae 6 2] [4,5,6]<|.ret) [.cell 4 (some 3),.tmp 5,.tmp 6]:=by decide +kernel
instance vH (s_0:ByteArray) (AB:Int):Ct prog (NU s_0 AB) 281 [eS s_0,eI AB] (fun r=>.tp [Sj r.1,eI r.2.1,eI r.2.2]):=Fi ng fun r h hw hR=>by
  unfold NU at h
  have:HJ 29 fun (w1:Int × Int)=>[(9,.tv (eI w1.1)),(10,.tv (eI w1.2))]:=⟨⟩
  have:HA 0 13 12 0 fun (i0:Int) (s0:FK)=>[(4,.bx [⟨false,eI s0.Kind⟩,⟨false,eS s0.Text⟩,⟨false,eI s0.Line⟩]),(13,.tv (eI i0))]:=⟨⟩
  exact au
theorem nP:CK f253 (Rq [Af 1 0,Ak 2] [1]<|Rq [Ad 7 1 3,Ax 8 280 7,Aa 3 8] [1,3]<|Sq (Rq [Aa 9 3,⟨some 10,.bin (.s) .eql (.s 9) (.c (.str ⟨#[]⟩)),none⟩] [1,3,10]<|Co 10 (Rq [Ak 2] [2]<|.ret)<|Sk [1,3])<|Rq [Aa 12 3,Es 13 281 12 0,Aa 11 13,An 14 11 0,An 15 11 1,An 16 11 2,Hn 4 0 0,Aj 3 4 14,Aa 5 15,Aa 6 16] [1,3,4,5,6]<|Rq [Aa 17 6,Bb 18 17 0,Aa 19 18,As 20 5 19,As 21 3 19,Gc 22 21 19,Dj 23 20 22 19,Ap 24 19 23,Aa 25 24,Ay 26 4 0 25,Ba 27 26 25,Ay 28 1 0 25,Ba 29 28 25,Dj 30 27 29 25,Ap 31 25 30,Aa 2 31] [2]<|.ret) [.tmp 2]:=by decide +kernel
instance u3 (t:FK):Ct prog (NJ t) 253 [Sj t] (fun r=>.sh (eB r)):=Fi nP fun r h hw hR=>by
  unfold NJ at h
  exact au
theorem mw:CK f223 (Rq [Ak 2] [0]<|Rq [Aa 3 0,Fg 4 0 0 0 1 1 1 1 3,Ax 5 253 4,Aa 2 5] [2]<|.ret) [.tmp 2]:=by decide +kernel
instance ub (s_0:ByteArray):Ct prog (HO s_0) 223 [eS s_0] (fun r=>.sh (eB r)):=Fi mw fun r h hw hR=>by
  unfold HO at h
  exact au
theorem nQ:CK f254 (Rq [Ae 2 0] [0]<|Sq (Rq [Aa 5 0,Ag 6 5,Bk 7 6 20] [0,7]<|Co 7 (Rq [Ae 2 3] [2]<|.ret)<|Sk [0])<|Sq (Rq [Ae 3 0] [0,3]<|Bl 0<|Lo [0,3]<|Sq (Rq [Aa 8 3,Aa 9 0,Ag 10 9,Am 11 8 10] [0,3,11]<|Co 11 (Sk [0,3])<|Ex 0 [])<|Sq (Bl 1<|Sq (Rq [Aa 14 0,Aa 15 3,Ai 16 14 15 1,Ab 17 16,Ax 18 223 17,Be 19 18] [0,3,19]<|Co 19 (Rq [Ae 2 2] [2]<|.ret)<|Sk [0,3])<|Rq [Ae 4 0] [0,3,4]<|Bl 2<|Lo [0,3,4]<|Sq (Rq [Aa 20 4,Aa 21 3,Am 22 20 21] [0,3,4,22]<|Co 22 (Sk [0,3,4])<|Ex 2 [0,3])<|Sq (Bl 3<|Sq (Dr [25,26,27,28,29,30,31,32,33] [Aa 25 0,Aa 26 4,Ai 27 25 26 1,Ab 28 27,Aa 29 0,Aa 30 3,Ai 31 29 30 1,Ab 32 31,Dp 33 28 32] [0,3,4,33])<|Co 33 (Rq [Ae 2 5] [2]<|.ret)<|Sk [0,3,4])<|Re [Aa 23 4,Al 24 23 1,Aa 4 24] [0,3,4])<|Re [Aa 12 3,Al 13 12 1,Aa 3 13] [0,3])<|Rq [Ae 2 0] [2]<|.ret) [.tmp 2]:=by decide +kernel
instance u4 (l:List ByteArray):Ct prog (La l) 254 [lB l] (fun r=>.sh (eI r)):=Fi nQ fun r h hw hR=>by
  unfold La at h
  have:HA 0 3 0 0 fun (i0:Int) (_:Unit)=>[(3,.tv (eI i0))]:=⟨⟩
  have:HA 2 4 3 0 fun (i2:Int) (_:Unit)=>[(4,.tv (eI i2))]:=⟨⟩
  exact au
theorem my:CK f224 (Rq [Af 1 0,Ae 2 0] [1]<|Sq (Rq [Ac 4 1 3,Ab 5 4,Ag 6 5,Bb 7 6 0] [1,7]<|Co 7 (Sq (Rq [Ac 8 1 1,Ab 9 8,⟨some 10,.call 188 [.s 9,.c (.int .i64 (-1000000)),.c (.int .i64 1000000)],none⟩,Be 11 10,Aa 12 11,Aq 13 1 2 12,Ao 14 13 12,Aq 15 1 1 12,Ao 16 15 12,Ho 17 188 14 16 1000000 12,Br 18 17 12,Ar 19 12 18] [19]<|Co 19 (Rq [Ae 2 6] [2]<|.ret)<|Sk [])<|Rq [Ae 2 0] [2]<|.ret)<|Sk [1])<|Sq (Rq [Ac 20 1 3,Ab 21 20,Ax 22 254 21,Aa 3 22] [1,3]<|Rq [Aa 23 3,Az 24 23 0] [1,3,24]<|Co 24 (Rq [Aa 25 3,Aa 2 25] [2]<|.ret)<|Sk [1])<|Sq (Rq [Ac 26 1 1,Ab 27 26,Az 28 27 0,Aa 29 28,Aq 30 1 2 29,Ao 31 30 29,Aq 32 1 3 29,Ao 33 32 29,Bj 34 33 29,Fp 35 34 1 29,Cx 36 31 35 29,Ar 37 29 36] [37]<|Co 37 (Rq [Ae 2 6] [2]<|.ret)<|Sk [])<|Rq [Ae 2 0] [2]<|.ret) [.tmp 2]:=by decide +kernel
instance uc (a:Attr):Ct prog (Ix a) 224 [Ip a] (fun r=>.sh (eI r)):=Fi my fun r h hw hR=>by
  unfold Ix at h
  exact au
theorem lv:CK f162 (Rq [Af 2 0,Ae 4 0] [1,2]<|Rq [Ac 11 2 0,Ab 12 11,Aa 13 1,Ai 14 12 13 4,Ad 15 14 4,Fj 5 0 4,Aj 4 5 15] [1,2,5]<|Sq (Rq [Ac 16 5 0,Ab 17 16,Ax 18 223 17,Be 19 18] [1,2,5,19]<|Co 19 (Rq [Ae 4 2] [4]<|.ret)<|Sk [1,2,5])<|Sq (Rq [Ae 6 0] [1,2,5,6]<|Bl 0<|Lo [1,2,5,6]<|Sq (Rq [Aa 20 6,Aa 21 1,Am 22 20 21] [1,2,5,6,22]<|Co 22 (Sk [1,2,5,6])<|Ex 0 [1,2,5])<|Sq (Bl 1<|Sq (Dr [25,26,27,28,29,30,31,32,33] [Ac 25 2 0,Ab 26 25,Aa 27 6,Ai 28 26 27 4,Ah 29 28 0,Ab 30 29,Ac 31 5 0,Ab 32 31,Dp 33 30 32] [1,2,5,6,33])<|Co 33 (Rq [Ae 4 5] [4]<|.ret)<|Sk [1,2,5,6])<|Re [Aa 23 6,Al 24 23 1,Aa 6 24] [1,2,5,6])<|Sq (Rq [Ac 34 5 1,Ab 35 34,Aa 36 1,Bz 37 36 1,⟨some 38,.call 188 [.s 35,.c (.int .i64 (-1)),.s 37],none⟩,Be 39 38] [1,2,5,39]<|Co 39 (Rq [Ae 4 6] [4]<|.ret)<|Sk [1,2,5])<|Rq [Ad 40 2 2,Aa 41 1,Av 42 186 40 41,Aw 7 42] [5,7]<|Sq (Rq [Ac 43 5 3,Ab 44 43,Ag 45 44,Bk 46 45 4,Aa 47 46,Au 48 7 47,Bj 49 48 47,Cg 50 49 8 47,Ar 51 47 50] [5,7,51]<|Co 51 (Rq [Ae 4 3] [4]<|.ret)<|Sk [5,7])<|Sq (Rq [Aa 52 7,Ag 53 52,Ac 54 5 3,Ab 55 54,Ag 56 55,Dw 57 53 56,Aa 8 57] [7,8]<|Bl 2<|Lo [7,8]<|Sq (Rq [Aa 58 8,Aa 59 7,Ag 60 59,Am 61 58 60] [7,8,61]<|Co 61 (Sk [7,8])<|Ex 2 [])<|Sq (Bl 3<|Sq (Rq [Aa 64 7,Aa 65 8,Ai 66 64 65 4,Ah 67 66 0,Ab 68 67,Ax 69 223 68,Be 70 69] [7,8,70]<|Co 70 (Rq [Ae 4 2] [4]<|.ret)<|Sk [7,8])<|Sq (Rq [Ae 9 0] [7,8,9]<|Bl 4<|Lo [7,8,9]<|Sq (Rq [Aa 71 9,Aa 72 8,Am 73 71 72] [7,8,9,73]<|Co 73 (Sk [7,8,9])<|Ex 4 [7,8])<|Sq (Bl 5<|Sq (Dr [76,77,78,79,80,81,82,83,84,85,86] [Aa 76 7,Aa 77 9,Ai 78 76 77 4,Ah 79 78 0,Ab 80 79,Aa 81 7,Aa 82 8,Ai 83 81 82 4,Ah 84 83 0,Ab 85 84,Dp 86 80 85] [7,8,9,86])<|Co 86 (Rq [Ae 4 5] [4]<|.ret)<|Sk [7,8,9])<|Re [Aa 74 9,Al 75 74 1,Aa 9 75] [7,8,9])<|Rq [Aa 87 7,Aa 88 8,Ai 89 87 88 4,Ad 90 89 4,Ax 91 224 90,Aa 10 91] [7,8,10]<|Rq [Aa 92 10,Az 93 92 0] [7,8,10,93]<|Co 93 (Rq [Aa 94 10,Aa 4 94] [4]<|.ret)<|Sk [7,8])<|Re [Aa 62 8,Al 63 62 1,Aa 8 63] [7,8])<|Rq [Ae 4 0] [4]<|.ret) [.tmp 4]:=by decide +kernel
instance tS (t:Types) (i_1:Int):Ct prog (MY t i_1) 162 [AU t,eI i_1] (fun r=>.sh (eI r)):=Fi lv fun r h hw hR=>by
  unfold MY at h
  have:HA 0 6 1 0 fun (i0:Int) (_:Unit)=>[(6,.tv (eI i0))]:=⟨⟩
  have:HA 2 8 7 0 fun (i2:Int) (_:Unit)=>[(8,.tv (eI i2))]:=⟨⟩
  have:HA 4 9 8 0 fun (i4:Int) (_:Unit)=>[(9,.tv (eI i4))]:=⟨⟩
  exact au
theorem mz:CK f225 (Rq [Ak 4] [0,1]<|Rq [Aa 5 0,Hd 6 188 5 0 40,Aa 7 6,As 8 1 7,Hc 9 8 (-1) 7,As 10 9 7,Au 11 1 10,Au 12 0 10,Ho 13 188 11 12 40 10,Ef 14 10 13 7,Ap 15 7 14,Aa 4 15] [4]<|.ret) [.tmp 4]:=by decide +kernel
instance ud (low:Int) (high:Int):Ct prog (KK low high) 225 [eI low,eI high] (fun r=>.sh (eB r)):=Fi mz fun r h hw hR=>by
  unfold KK at h
  exact au
theorem lw:CK f163 (Rq [Af 2 0,Ae 4 0] [1,2]<|Rq [Ac 8 2 1,Ab 9 8,Aa 10 1,Ai 11 9 10 7,Ad 12 11 7,Gg 5 0 0 0 0 0 0,Aj 7 5 12] [1,2,5]<|Sq (Rq [Ac 13 5 0,Ab 14 13,Ax 15 223 14,Be 16 15] [1,2,5,16]<|Co 16 (Rq [Ae 4 2] [4]<|.ret)<|Sk [1,2,5])<|Sq (Rq [Ae 6 0] [1,2,5,6]<|Bl 0<|Lo [1,2,5,6]<|Sq (Rq [Aa 17 6,Aa 18 1,Am 19 17 18] [1,2,5,6,19]<|Co 19 (Sk [1,2,5,6])<|Ex 0 [2,5])<|Sq (Bl 1<|Sq (Dr [22,23,24,25,26,27,28,29,30] [Ac 22 2 1,Ab 23 22,Aa 24 6,Ai 25 23 24 7,Ah 26 25 0,Ab 27 26,Ac 28 5 0,Ab 29 28,Dp 30 27 29] [1,2,5,6,30])<|Co 30 (Rq [Ae 4 5] [4]<|.ret)<|Sk [1,2,5,6])<|Re [Aa 20 6,Al 21 20 1,Aa 6 21] [1,2,5,6])<|Rq [Ac 31 2 0,Ab 32 31,Ag 33 32,Bz 34 33 1,Aa 7 34] [5,7]<|Sq (Rq [Ac 35 5 1,Ab 36 35,Aa 37 7,Fk 38 188 36 0 37,Be 39 38,Aa 40 39,Aq 41 5 2 40,Ao 42 41 40,Au 43 7 40,Gx 44 188 42 0 43 40,Br 45 44 40,Ar 46 40 45,Aa 47 46,Aq 48 5 3 47,Ao 49 48 47,Aq 50 5 4 47,Ao 51 50 47,Db 52 225 49 51 47,Br 53 52 47,Ar 54 47 53,Aa 55 54,Aq 56 5 5 55,Ao 57 56 55,Aq 58 5 6 55,Ao 59 58 55,Db 60 225 57 59 55,Br 61 60 55,Ar 62 55 61] [62]<|Co 62 (Rq [Ae 4 6] [4]<|.ret)<|Sk [])<|Rq [Ae 4 0] [4]<|.ret) [.tmp 4]:=by decide +kernel
instance tT (t:Types) (i_1:Int):Ct prog (MX t i_1) 163 [AU t,eI i_1] (fun r=>.sh (eI r)):=Fi lw fun r h hw hR=>by
  unfold MX at h
  have:HA 0 6 1 0 fun (i0:Int) (_:Unit)=>[(6,.tv (eI i0))]:=⟨⟩
  exact au
theorem rn:CK f94 (Rq [Af 1 0,Df 2,Ae 3 0] [1]<|Sq (Rq [Ac 8 1 0,Ab 9 8,Ag 10 9,Bb 11 10 0] [1,11]<|Co 11 (Rq [Df 2,Ae 3 7] [2,3]<|.ret)<|Sk [1])<|Sq (Rq [Ac 12 1 0,Ab 13 12,Ag 14 13,Bk 15 14 12,Aa 16 15,Aq 17 1 1 16,Ao 18 17 16,Bj 19 18 16,Cg 20 19 20 16,Ar 21 16 20] [1,21]<|Co 21 (Rq [Df 2,Ae 3 3] [2,3]<|.ret)<|Sk [1])<|Sq (Rq [Ae 4 0] [1,4]<|Bl 0<|Lo [1,4]<|Sq (Rq [Aa 22 4,Ac 23 1 0,Ab 24 23,Ag 25 24,Am 26 22 25] [1,4,26]<|Co 26 (Sk [1,4])<|Ex 0 [1])<|Sq (Bl 1<|Rq [Ad 29 1 2,Aa 30 4,Av 31 162 29 30,Aa 5 31] [1,4,5]<|Rq [Aa 32 5,Az 33 32 0] [1,4,5,33]<|Co 33 (Rq [Ac 34 1 0,Ab 35 34,Aa 36 4,Ai 37 35 36 4,Ah 38 37 0,Ab 39 38,Aa 40 5,Aa 2 39,Aa 3 40] [2,3]<|.ret)<|Sk [1,4])<|Re [Aa 27 4,Al 28 27 1,Aa 4 28] [1,4])<|Sq (Rq [Ae 6 0] [1,6]<|Bl 2<|Lo [1,6]<|Sq (Rq [Aa 41 6,Ac 42 1 1,Ab 43 42,Ag 44 43,Am 45 41 44] [1,6,45]<|Co 45 (Sk [1,6])<|Ex 2 [])<|Sq (Bl 3<|Rq [Ad 48 1 2,Aa 49 6,Av 50 163 48 49,Aa 7 50] [1,6,7]<|Rq [Aa 51 7,Az 52 51 0] [1,6,7,52]<|Co 52 (Rq [Ac 53 1 1,Ab 54 53,Aa 55 6,Ai 56 54 55 7,Ah 57 56 0,Ab 58 57,Aa 59 7,Aa 2 58,Aa 3 59] [2,3]<|.ret)<|Sk [1,6])<|Re [Aa 46 6,Al 47 46 1,Aa 6 47] [1,6])<|Rq [Df 2,Ae 3 0] [2,3]<|.ret) [.tmp 2,.tmp 3]:=by decide +kernel
instance xA (t:Types):Ct prog (IB t) 94 [AU t] (fun r=>.tp [eS r.1,eI r.2]):=Fi rn fun r h hw hR=>by
  unfold IB at h
  have:HA 0 4 1 0 fun (i0:Int) (_:Unit)=>[(4,.tv (eI i0))]:=⟨⟩
  have:HA 2 6 1 1 fun (i2:Int) (_:Unit)=>[(6,.tv (eI i2))]:=⟨⟩
  exact au
theorem ly:CK f164 (Rq [Ak 2] [0]<|Rq [Aa 3 0,Bq 4 3 0,Aa 5 4,As 6 0 5,Cm 7 6 99 5,Ap 8 5 7,Aa 2 8] [2]<|.ret) [.tmp 2]:=by decide +kernel
instance tU (n:Int):Ct prog (K9 n) 164 [eI n] (fun r=>.sh (eB r)):=Fi ly fun r h hw hR=>by
  unfold K9 at h
  exact au
theorem lz:CK f165 (Rq [Af 2 0,Ak 4] [1,2]<|Rq [Ac 5 2 0,Ab 6 5,Ax 7 164 6,Aa 8 7,Ay 9 2 1 8,Ba 10 9 8,Fw 11 10 0 8,Ap 12 8 11,Aa 13 12,Ay 14 2 1 13,Ba 15 14 13,As 16 1 13,Er 17 15 16 13,Ap 18 13 17,Aa 19 18,Ay 20 2 2 19,Ba 21 20 19,Fw 22 21 0 19,Ap 23 19 22,Aa 24 23,Ay 25 2 2 24,Ba 26 25 24,As 27 1 24,Er 28 26 27 24,Ap 29 24 28,Aa 4 29] [4]<|.ret) [.tmp 4]:=by decide +kernel
instance tV (e:BX) (nodes:Int):Ct prog (NM e nodes) 165 [EM e,eI nodes] (fun r=>.sh (eB r)):=Fi lz fun r h hw hR=>by
  unfold NM at h
  exact au
theorem ro:CK f95 (Rq [Af 1 0,Ae 2 0] [1]<|Sq (Rq [Ac 5 1 0,Ab 6 5,Ag 7 6,Bk 8 7 40,Aa 9 8,Aq 10 1 1 9,Ao 11 10 9,Bj 12 11 9,Cg 13 12 80 9,Ar 14 9 13] [1,14]<|Co 14 (Rq [Ae 2 3] [2]<|.ret)<|Sk [1])<|Sq (Rq [Ae 3 0] [1,3]<|Bl 0<|Lo [1,3]<|Sq (Rq [Aa 15 3,Ac 16 1 0,Ab 17 16,Ag 18 17,Am 19 15 18] [1,3,19]<|Co 19 (Sk [1,3])<|Ex 0 [1])<|Sq (Bl 1<|Rq [Ac 22 1 0,Ab 23 22,Aa 24 3,Ai 25 23 24 1,Ab 26 25,Ax 27 164 26,Be 28 27] [1,3,28]<|Co 28 (Rq [Ae 2 6] [2]<|.ret)<|Sk [1,3])<|Re [Aa 20 3,Al 21 20 1,Aa 3 21] [1,3])<|Sq (Rq [Ae 4 0] [1,4]<|Bl 2<|Lo [1,4]<|Sq (Rq [Aa 29 4,Ac 30 1 1,Ab 31 30,Ag 32 31,Am 33 29 32] [1,4,33]<|Co 33 (Sk [1,4])<|Ex 2 [])<|Sq (Bl 3<|Sq (Dr [36,37,38,39,40,41,42,43,44,45] [Ac 36 1 1,Ab 37 36,Aa 38 4,Ai 39 37 38 3,Ad 40 39 3,Ac 41 1 0,Ab 42 41,Ag 43 42,Av 44 165 40 43,Be 45 44] [1,4,45])<|Co 45 (Rq [Ae 2 6] [2]<|.ret)<|Sk [1,4])<|Re [Aa 34 4,Al 35 34 1,Aa 4 35] [1,4])<|Rq [Ae 2 0] [2]<|.ret) [.tmp 2]:=by decide +kernel
instance xB (g:Graph):Ct prog (F7 g) 95 [CC g] (fun r=>.sh (eI r)):=Fi ro fun r h hw hR=>by
  unfold F7 at h
  have:HA 0 3 1 0 fun (i0:Int) (_:Unit)=>[(3,.tv (eI i0))]:=⟨⟩
  have:HA 2 4 1 1 fun (i2:Int) (_:Unit)=>[(4,.tv (eI i2))]:=⟨⟩
  exact au
theorem rp:CK f96 (Rq [Af 2 0,Af 3 1,Ak 4] [2,3]<|Sq (Rq [Ae 5 0] [2,3,5]<|Bl 0<|Lo [2,3,5]<|Sq (Rq [Aa 7 5,Ac 8 3 0,Ab 9 8,Ag 10 9,Am 11 7 10] [2,3,5,11]<|Co 11 (Sk [2,3,5])<|Ex 0 [2,3])<|Sq (Bl 1<|Sq (Dr [14,15,16,17,18,19,20,21,22,23,24,25,26,27,28,29,30] [Ac 14 3 0,Ab 15 14,Aa 16 5,Ai 17 15 16 1,Ab 18 17,Cd 19 18 0,Aa 20 19,Aq 21 3 0 20,Ao 22 21 20,Au 23 5 20,Ce 24 22 23 1 20,Ao 25 24 20,Aq 26 2 0 20,Ao 27 26 20,Bj 28 27 20,Cb 29 25 28 20,Ar 30 20 29] [2,3,5,30])<|Co 30 (Rq [Ak 4] [4]<|.ret)<|Sk [2,3,5])<|Re [Aa 12 5,Al 13 12 1,Aa 5 13] [2,3,5])<|Sq (Rq [Ae 6 0] [2,3,6]<|Bl 2<|Lo [2,3,6]<|Sq (Rq [Aa 31 6,Ac 32 3 1,Ab 33 32,Ag 34 33,Am 35 31 34] [2,3,6,35]<|Co 35 (Sk [2,3,6])<|Ex 2 [])<|Sq (Bl 3<|Sq (Dr [38,39,40,41,42,43,44,45,46,47,48,49,50,51,52,53,54,55,56] [Ac 38 3 1,Ab 39 38,Aa 40 6,Ai 41 39 40 3,Ah 42 41 0,Ab 43 42,Cd 44 43 0,Aa 45 44,Aq 46 3 1 45,Ao 47 46 45,Au 48 6 45,Ce 49 47 48 3 45,Bm 50 49 0 45,Ao 51 50 45,Aq 52 2 1 45,Ao 53 52 45,Bj 54 53 45,Cb 55 51 54 45,Ar 56 45 55] [2,3,6,56])<|Co 56 (Rq [Ak 4] [4]<|.ret)<|Sk [2,3,6])<|Re [Aa 36 6,Al 37 36 1,Aa 6 37] [2,3,6])<|Rq [Bt 4] [4]<|.ret) [.tmp 4]:=by decide +kernel
instance xC (t:Types) (g:Graph):Ct prog (JC t g) 96 [AU t,CC g] (fun r=>.sh (eB r)):=Fi rp fun r h hw hR=>by
  unfold JC at h
  have:HA 0 5 3 0 fun (i0:Int) (_:Unit)=>[(5,.tv (eI i0))]:=⟨⟩
  have:HA 2 6 3 1 fun (i2:Int) (_:Unit)=>[(6,.tv (eI i2))]:=⟨⟩
  exact au
theorem mH:CK f185 (Rq [Af 3 0,Ae 6 0] [1,2,3]<|Sq (Rq [Ad 10 3 2,Ax 11 94 10,Aa 9 11,An 12 9 0,An 13 9 1,Aa 7 12,Aa 8 13] [1,2,3,8]<|Rq [Aa 14 8,Az 15 14 0] [1,2,3,8,15]<|Co 15 (Rq [Aa 16 8,Aa 6 16] [6]<|.ret)<|Sk [1,2,3])<|Sq (Rq [Aa 17 1,Ac 18 3 0,Ab 19 18,Ag 20 19,Bz 21 20 1,Fk 22 188 17 0 21,Be 23 22,Aa 24 23,Au 25 2 24,Aq 26 3 0 24,Ao 27 26 24,Bj 28 27 24,Fp 29 28 1 24,Gx 30 188 25 0 29 24,Br 31 30 24,Ar 32 24 31] [32]<|Co 32 (Rq [Ae 6 6] [6]<|.ret)<|Sk [])<|Rq [Ae 6 0] [6]<|.ret) [.tmp 6]:=by decide +kernel
instance tr (t:Types) (a:Int) (b:Int):Ct prog (KL t a b) 185 [AU t,eI a,eI b] (fun r=>.sh (eI r)):=Fi mH fun r h hw hR=>by
  unfold KL at h
  exact au
theorem kz:CK f121 (Rq [Af 2 0,Bc 4 4,Ae 5 0] [1,2]<|Sq (Rq [Ad 11 2 2,Aa 12 1,Aa 13 1,Bi 14 185 11 12 13,Aa 6 14] [1,2,6]<|Rq [Aa 15 6,Az 16 15 0] [1,2,6,16]<|Co 16 (Rq [Aa 17 6,Bc 4 4,Aa 5 17] [4,5]<|.ret)<|Sk [1,2])<|Rq [Bc 7 4] [1,2,7]<|Rq [Ad 18 2 2,Aa 19 1,Av 20 186 18 19,Aw 8 20] [7,8]<|Sq (Rq [Ae 9 0] [7,8,9]<|Bl 0<|Lo [7,8,9]<|Sq (Rq [Aa 21 9,Aa 22 8,Ag 23 22,Am 24 21 23] [7,8,9,24]<|Co 24 (Sk [7,8,9])<|Ex 0 [7])<|Sq (Bl 1<|Rq [Aa 27 8,Aa 28 9,Ai 29 27 28 4,Ad 30 29 4,Dy 10 0 0 1,Aj 4 10 30] [7,8,9,10]<|Rq [Cp 31 1,Ac 32 10 3,Ab 33 32,Bg 34 1 31 33,Ac 35 10 3,Bp 1 35 34] [7,8,9,10]<|Re [Aw 36 7,Ad 37 10 4,Bf 38 4 37,Bg 39 4 36 38,Aw 7 39] [7,8,9])<|Re [Aa 25 9,Al 26 25 1,Aa 9 26] [7,8,9])<|Rq [Aa 40 7,Aw 4 40,Ae 5 0] [4,5]<|.ret) [.tmp 4,.tmp 5]:=by decide +kernel
instance se (t:Types) (a:Int):Ct prog (IA t a) 121 [AU t,eI a] (fun r=>.tp [lA r.1,eI r.2]):=Fi kz fun r h hw hR=>by
  unfold IA at h
  have:HA 0 9 8 0 fun (i0:Int) (s0:List Attr)=>[(7,.ow (lA s0)),(9,.tv (eI i0))]:=⟨⟩
  exact au
theorem rq:CK f97 (Rq [Af 4 0,Af 5 1,Dy 8 0 0 1,Ak 9] [2,3,4,5,8]<|Sq (Rq [Aa 12 2,Cd 13 12 0,Aa 14 13,Au 15 2 14,Aq 16 5 0 14,Bm 17 16 0 14,Ao 18 17 14,Bj 19 18 14,Cb 20 15 19 14,Ar 21 14 20] [2,3,4,5,8,21]<|Co 21 (Rq [Fm 22 0 0 1,Aj 4 8 22,Ak 9] [8,9]<|.ret)<|Sk [2,3,4,5,8])<|Sq (Dr [10,11,23,24,25,26,27,28,29,30,31,32,33] [Ad 24 4 2,Ac 25 5 0,Ah 26 25 0,Ab 27 26,Aa 28 2,Ai 29 27 28 1,Ab 30 29,Av 31 121 24 30,Aa 23 31,An 32 23 0,An 33 23 1,Aw 10 32,Aa 11 33] [3,8,10,11])<|Sq (Rq [Aa 34 11,Az 35 34 0,Aa 36 35,Au 37 3 36,He 38 37 0 36,Ar 39 36 38,Aa 40 39,Au 41 3 40,Au 42 10 40,Bj 43 42 40,Cb 44 41 43 40,Ar 45 40 44] [3,8,10,45]<|Co 45 (Rq [Fm 46 0 0 1,Aj 4 8 46,Ak 9] [8,9]<|.ret)<|Sk [3,8,10])<|Rq [Aa 47 10,Aa 48 3,Ai 49 47 48 4,Ad 50 49 4,Aj 4 8 50,Bt 9] [8,9]<|.ret) [.cell 8 (some 4),.tmp 9]:=by decide +kernel
instance xD (t:Types) (p:Pattern) (node:Int) (index:Int):Ct prog (Mf t p node index) 97 [AU t,A8 p,eI node,eI index] (fun r=>.tp [Ip r.1,eB r.2]):=Fi rq fun r h hw hR=>by
  unfold Mf at h
  exact au
theorem rr:CK f98 (Rq [Ak 2] [0]<|Rq [Aa 3 0,⟨some 4,.bin (.i) .geq (.s 3) (.c (.int .i64 (-1000000))),none⟩,Aa 5 4,As 6 0 5,Cm 7 6 1000000 5,Ap 8 5 7,Aa 2 8] [2]<|.ret) [.tmp 2]:=by decide +kernel
instance xE (n:Int):Ct prog (Ln n) 98 [eI n] (fun r=>.sh (eB r)):=Fi rr fun r h hw hR=>by
  unfold Ln at h
  exact au
theorem m5:CK f226 (Rq [Af 3 1,Ae 4 0] [0,3]<|Sq (Rq [Ac 5 3 0,Ab 6 5,Gf 7 6 (-1),Aa 8 7,Aq 9 3 0 8,Ao 10 9 8,Au 11 0 8,Cb 12 10 11 8,Ar 13 8 12,Aa 14 13,Aq 15 3 1 14,Ao 16 15 14,Hp 17 16 (-1000000) 14,Ar 18 14 17,Aa 19 18,Aq 20 3 1 19,Ao 21 20 19,Cg 22 21 1000000 19,Ar 23 19 22] [23]<|Co 23 (Rq [Ae 4 6] [4]<|.ret)<|Sk [])<|Rq [Ae 4 0] [4]<|.ret) [.tmp 4]:=by decide +kernel
instance ue (n:Int) (t:Term):Ct prog (JY n t) 226 [eI n,QD t] (fun r=>.sh (eI r)):=Fi m5 fun r h hw hR=>by
  unfold JY at h
  exact au
theorem l3:CK f166 (Rq [Af 3 1,Ae 4 0] [0,3]<|Sq (Rq [Ac 6 3 0,Ab 7 6,Az 8 7 1,Aa 9 8,Ay 10 3 0 9,Ba 11 10 9,Gh 12 11 2 9,Ap 13 9 12] [0,3,13]<|Co 13 (Rq [Ae 4 1] [4]<|.ret)<|Sk [0,3])<|Sq (Rq [Aa 14 0,Ac 15 3 1,Ad 16 15 2,Av 17 226 14 16,Aa 5 17] [0,3,5]<|Rq [Aa 18 5,Az 19 18 0] [0,3,5,19]<|Co 19 (Rq [Aa 20 5,Aa 4 20] [4]<|.ret)<|Sk [0,3])<|Rq [Aa 21 0,Ac 22 3 3,Ad 23 22 2,Av 24 226 21 23,Aa 4 24] [4]<|.ret) [.tmp 4]:=by decide +kernel
instance tW (n:Int) (x_1:Test):Ct prog (NW n x_1) 166 [eI n,Jq x_1] (fun r=>.sh (eI r)):=Fi l3 fun r h hw hR=>by
  unfold NW at h
  exact au
theorem rt:CK f99 (Rq [Ae 4 0] [0,1]<|Sq (Rq [Aa 7 0,Cd 8 7 0,Aa 9 8,Au 10 0 9,Cg 11 10 12 9,Ar 12 9 11] [0,1,12]<|Co 12 (Rq [Ae 4 6] [4]<|.ret)<|Sk [0,1])<|Sq (Rq [Aa 13 1,Ag 14 13,Bk 15 14 40] [0,1,15]<|Co 15 (Rq [Ae 4 3] [4]<|.ret)<|Sk [0,1])<|Sq (Rq [Ae 5 0] [0,1,5]<|Bl 0<|Lo [0,1,5]<|Sq (Rq [Aa 16 5,Aa 17 1,Ag 18 17,Am 19 16 18] [0,1,5,19]<|Co 19 (Sk [0,1,5])<|Ex 0 [])<|Sq (Bl 1<|Rq [Aa 22 0,Aa 23 1,Aa 24 5,Ai 25 23 24 5,Ad 26 25 5,Av 27 166 22 26,Aa 6 27] [0,1,5,6]<|Rq [Aa 28 6,Az 29 28 0] [0,1,5,6,29]<|Co 29 (Rq [Aa 30 6,Aa 4 30] [4]<|.ret)<|Sk [0,1,5])<|Re [Aa 20 5,Al 21 20 1,Aa 5 21] [0,1,5])<|Rq [Ae 4 0] [4]<|.ret) [.tmp 4]:=by decide +kernel
instance xF (n:Int) (l:List Test):Ct prog (LZ n l) 99 [eI n,lT l] (fun r=>.sh (eI r)):=Fi rt fun r h hw hR=>by
  unfold LZ at h
  have:HA 0 5 1 0 fun (i0:Int) (_:Unit)=>[(5,.tv (eI i0))]:=⟨⟩
  exact au
theorem kW:CK f100 (Rq [Af 2 0,Ak 4] [1,2]<|Sq (Rq [Ae 5 0] [1,2,5]<|Bl 0<|Lo [1,2,5]<|Sq (Rq [Aa 6 5,Ac 7 2 2,Ab 8 7,Ag 9 8,Am 10 6 9] [1,2,5,10]<|Co 10 (Sk [1,2,5])<|Ex 0 [])<|Sq (Bl 1<|Rq [Ac 13 2 2,Ab 14 13,Aa 15 5,Ai 16 14 15 4,Ah 17 16 2,Ah 18 17 0,Ab 19 18,Aa 20 1,Da 21 19 20] [1,2,5,21]<|Co 21 (Rq [Bt 4] [4]<|.ret)<|Sk [1,2,5])<|Re [Aa 11 5,Al 12 11 1,Aa 5 12] [1,2,5])<|Rq [Ak 4] [4]<|.ret) [.tmp 4]:=by decide +kernel
instance sN (p:Pattern) (v_1:Int):Ct prog (Kx p v_1) 100 [A8 p,eI v_1] (fun r=>.sh (eB r)):=Fi kW fun r h hw hR=>by
  unfold Kx at h
  have:HA 0 5 2 2 fun (i0:Int) (_:Unit)=>[(5,.tv (eI i0))]:=⟨⟩
  exact au
theorem q6:CK f42 (Rq [Af 2 0,Af 3 1,Ae 4 0] [2,3]<|Sq (Rq [Ad 15 2 2,Ax 16 94 15,Aa 14 16,An 17 14 0,An 18 14 1,Aa 5 17,Aa 6 18] [2,3,6]<|Rq [Aa 19 6,Az 20 19 0] [2,3,6,20]<|Co 20 (Rq [Aa 21 6,Aa 4 21] [4]<|.ret)<|Sk [2,3])<|Sq (Rq [Ac 22 3 0,Ad 23 22 2,Ax 24 95 23,Aa 7 24] [2,3,7]<|Rq [Aa 25 7,Az 26 25 0] [2,3,7,26]<|Co 26 (Rq [Aa 27 7,Aa 4 27] [4]<|.ret)<|Sk [2,3])<|Sq (Rq [Ad 28 2 2,Ac 29 3 0,Ad 30 29 2,Av 31 96 28 30,Be 32 31] [2,3,32]<|Co 32 (Rq [Ae 4 13] [4]<|.ret)<|Sk [2,3])<|Sq (Rq [Ac 33 3 3,Ab 34 33,Cd 35 34 0,Aa 36 35,Aq 37 3 3 36,Ao 38 37 36,Cg 39 38 12 36,Ar 40 36 39] [2,3,40]<|Co 40 (Rq [Ae 4 6] [4]<|.ret)<|Sk [2,3])<|Sq (Rq [Ac 41 3 2,Ab 42 41,Ag 43 42,Bk 44 43 10,Aa 45 44,Aq 46 3 4 45,Ao 47 46 45,Bj 48 47 45,Cg 49 48 10 45,Ar 50 45 49] [2,3,50]<|Co 50 (Rq [Ae 4 3] [4]<|.ret)<|Sk [2,3])<|Sq (Rq [Ae 8 0] [2,3,8]<|Bl 0<|Lo [2,3,8]<|Sq (Rq [Aa 51 8,Ac 52 3 2,Ab 53 52,Ag 54 53,Am 55 51 54] [2,3,8,55]<|Co 55 (Sk [2,3,8])<|Ex 0 [3])<|Sq (Bl 1<|Rq [Ac 58 3 2,Ab 59 58,Aa 60 8,Ai 61 59 60 4,Ad 62 61 4,Dz 9 0 0 0 0,Aj 4 9 62] [2,3,8,9]<|Rq [Ad 64 2 2,Ad 65 3 5,Ac 66 9 0,Ab 67 66,Ac 68 9 1,Ab 69 68,Cs 70 97 64 65 67 69,Aa 63 70,An 71 63 0,An 72 63 1,Dy 10 0 0 1,Aj 4 10 71,Aa 11 72] [2,3,8,9,11]<|Rq [Aa 73 11,Be 74 73,Aa 75 74,Aq 76 9 2 75,Bm 77 76 0 75,Ao 78 77 75,Hp 79 78 (-1) 75,Ar 80 75 79,Aa 81 80,Aq 82 9 2 81,Bm 83 82 0 81,Ao 84 83 81,Aq 85 3 3 81,Ao 86 85 81,Cb 87 84 86 81,Ar 88 81 87,Aa 89 88,Aq 90 9 2 89,Bm 91 90 1 89,Ao 92 91 89,Du 93 98 92 89,Br 94 93 89,Ar 95 89 94] [2,3,8,95]<|Co 95 (Rq [Ae 4 6] [4]<|.ret)<|Sk [2,3,8])<|Re [Aa 56 8,Al 57 56 1,Aa 8 57] [2,3,8])<|Sq (Rq [Ac 96 3 3,Ab 97 96,Ac 98 3 4,Ab 99 98,Av 100 99 97 99,Aa 12 100] [3,12]<|Rq [Aa 101 12,Az 102 101 0] [3,12,102]<|Co 102 (Rq [Aa 103 12,Aa 4 103] [4]<|.ret)<|Sk [3])<|Sq (Rq [Ae 13 0] [3,13]<|Bl 2<|Lo [3,13]<|Sq (Rq [Aa 104 13,Ac 105 3 3,Ab 106 105,Am 107 104 106] [3,13,107]<|Co 107 (Sk [3,13])<|Ex 2 [])<|Sq (Bl 3<|Rq [Ad 110 3 5,Aa 111 13,Av 112 100 110 111,Be 113 112] [3,13,113]<|Co 113 (Rq [Ae 4 9] [4]<|.ret)<|Sk [3,13])<|Re [Aa 108 13,Al 109 108 1,Aa 13 109] [3,13])<|Rq [Ae 4 0] [4]<|.ret) [.tmp 4]:=by decide +kernel
instance wI (t:Types) (p:Pattern):Ct prog (F8 t p) 42 [AU t,A8 p] (fun r=>.sh (eI r)):=Fi q6 fun r h hw hR=>by
  unfold F8 at h
  have:HA 0 8 3 2 fun (i0:Int) (_:Unit)=>[(8,.tv (eI i0))]:=⟨⟩
  have:HA 2 13 3 3 fun (i2:Int) (_:Unit)=>[(13,.tv (eI i2))]:=⟨⟩
  exact au
theorem m6:CK f227 (Rq [Af 1 0,Ak 2] [1]<|Rq [Ac 4 1 2,Ah 5 4 0,Ab 6 5,Ag 7 6,Ac 8 1 2,Ah 9 8 1,Ab 10 9,Ag 11 10,Bn 12 7 11,Ac 13 1 4,Ah 14 13 0,Ah 15 14 0,Ab 16 15,Ag 17 16,Bn 18 12 17,Ac 19 1 4,Ah 20 19 0,Ah 21 20 1,Ab 22 21,Ag 23 22,Bn 24 18 23,Bb 25 24 0,Aa 3 25] [1,3]<|Rq [Aa 26 3,Aa 27 26,Ay 28 1 4 27,Bx 29 28 2 27,Ba 30 29 27,By 31 30 27,Ay 32 1 4 27,Bx 33 32 4 27,Ba 34 33 27,By 35 34 27,Fy 36 31 35 27,Cw 37 36 0 27,Ap 38 27 37,Aa 39 38,Ay 40 1 4 39,Bx 41 40 3 39,Ba 42 41 39,Cw 43 42 0 39,Ap 44 39 43,Aa 2 44] [2]<|.ret) [.tmp 2]:=by decide +kernel
instance uf (c:AA):Ct prog (IS c) 227 [AG c] (fun r=>.sh (eB r)):=Fi m6 fun r h hw hR=>by
  unfold IS at h
  exact au
theorem l4:CK f167 (Rq [Af 1 0,Ak 2] [1]<|Sq (Rq [Ac 3 1 0,Ab 4 3] [1,4]<|Bl 0<|Rq [Bb 6 4 1,Aa 5 6] [1,4,5]<|Co 5 (Rq [Ac 7 1 1,Ab 8 7,Ag 9 8,Bb 10 9 0,Aa 11 10,Bh 12 1 9 11,Cc 13 227 12 11,Ap 14 11 13,Aa 2 14] [2]<|.ret)<|Rq [Bb 16 4 2,Aa 15 16] [1,4,15]<|Co 15 (Rq [Ac 17 1 1,Ab 18 17,Ag 19 18,Bb 20 19 1,Aa 21 20,Bh 22 1 9 21,Cc 23 227 22 21,Ap 24 21 23,Aa 2 24] [2]<|.ret)<|Sq (Rq [Bb 26 4 3,Aa 25 26] [1,4,25]<|Co 25 (Sk [1,4,25])<|Re [Bb 27 4 4,Aa 25 27] [1,4,25])<|Co 25 (Rq [Ac 28 1 1,Ab 29 28,Ag 30 29,Bk 31 30 0,Aa 32 31,Bh 33 1 9 32,Cc 34 227 33 32,Ap 35 32 34,Aa 2 35] [2]<|.ret)<|Rq [Bb 37 4 5,Aa 36 37] [1,36]<|Co 36 (Rq [Ac 38 1 1,Ab 39 38,Ag 40 39,Bb 41 40 1,Aa 2 41] [2]<|.ret)<|Sk [])<|Rq [Ak 2] [2]<|.ret) [.tmp 2]:=by decide +kernel
instance tX (c:AA):Ct prog (Li c) 167 [AG c] (fun r=>.sh (eB r)):=Fi l4 fun r h hw hR=>by
  unfold Li at h
  have:HJ 25 fun (w1:Bool)=>[(25,.tv (eB w1))]:=⟨⟩
  exact au
theorem kX:CK f101 (Rq [Af 1 0,Ak 2] [1]<|Sq (Rq [Ad 4 1 9,Ax 5 167 4,Be 6 5] [1,6]<|Co 6 (Rq [Ak 2] [2]<|.ret)<|Sk [1])<|Sq (Rq [Ae 3 0] [1,3]<|Bl 0<|Lo [1,3]<|Sq (Rq [Aa 7 3,Ac 8 1 1,Ab 9 8,Ag 10 9,Am 11 7 10] [1,3,11]<|Co 11 (Sk [1,3])<|Ex 0 [])<|Sq (Bl 1<|Rq [Ac 14 1 1,Ab 15 14,Aa 16 3,Ai 17 15 16 9,Ad 18 17 9,Ax 19 101 18,Be 20 19] [1,3,20]<|Co 20 (Rq [Ak 2] [2]<|.ret)<|Sk [1,3])<|Re [Aa 12 3,Al 13 12 1,Aa 3 13] [1,3])<|Rq [Bt 2] [2]<|.ret) [.tmp 2]:=by decide +kernel
theorem kD (n:Nat) (_ih_101:∀ (c:AA),Ct prog (FD n c) 101 [AG c] (fun r=>.sh (eB r))) (c:AA):Ct prog (FD (n+1) c) 101 [AG c] (fun r=>.sh (eB r)):=Fi kX fun r h hw hR=>by
  unfold FD at h
  have:HA 0 3 1 1 fun (i0:Int) (_:Unit)=>[(3,.tv (eI i0))]:=⟨⟩
  exact au
theorem kC:∀ n:Nat,(∀ (c:AA),Ct prog (FD n c) 101 [AG c] (fun r=>.sh (eB r))):=by
  intro n
  induction n with
  | zero=>exact (fun c=>⟨fun _ h=>by cases h⟩)
  | succ n ih=>exact kD n ih
instance sO (c:AA):Ct prog (M6 c) 101 [AG c] (fun r=>.sh (eB r)):=⟨fun r h=>by
  obtain ⟨N,hN⟩:=DE h
  exact ((kC N) c).snd r (hN N (Nat.le_refl _))⟩
theorem kY:CK f102 (Rq [Af 1 0,Ae 2 0,Ae 3 0] [1]<|Rq [Ae 4 1,Ae 5 0] [1,4,5]<|Sq (Rq [Ae 6 0] [1,4,5,6]<|Bl 0<|Lo [1,4,5,6]<|Sq (Rq [Aa 9 6,Ac 10 1 1,Ab 11 10,Ag 12 11,Am 13 9 12] [1,4,5,6,13]<|Co 13 (Sk [1,4,5,6])<|Ex 0 [1,4,5])<|Sq (Bl 1<|Rq [Ac 17 1 1,Ab 18 17,Aa 19 6,Ai 20 18 19 9,Ad 21 20 9,Ax 22 102 21,Aa 16 22,An 23 16 0,An 24 16 1,Aa 7 23,Aa 8 24] [1,4,5,6,7,8]<|Re [Aa 25 4,Aa 26 7,Bn 27 25 26,Aa 28 5,Aa 29 8,Gi 30 28 29,Aa 4 27,Aa 5 30] [1,4,5,6])<|Re [Aa 14 6,Al 15 14 1,Aa 6 15] [1,4,5,6])<|Sq (Rq [Ac 31 1 0,Ab 32 31,Bb 33 32 5] [4,5,33]<|Co 33 (Re [Aa 34 5,Al 35 34 1,Aa 5 35] [4,5])<|Sk [4,5])<|Rq [Aa 36 4,Aa 37 5,Aa 2 36,Aa 3 37] [2,3]<|.ret) [.tmp 2,.tmp 3]:=by decide +kernel
theorem kF (n:Nat) (_ih_102:∀ (c:AA),Ct prog (FY n c) 102 [AG c] (fun r=>.tp [eI r.1,eI r.2])) (c:AA):Ct prog (FY (n+1) c) 102 [AG c] (fun r=>.tp [eI r.1,eI r.2]):=Fi kY fun r h hw hR=>by
  unfold FY at h
  have:HA 0 6 1 1 fun (i0:Int) (s0:Int × Int)=>[(4,.tv (eI s0.1)),(5,.tv (eI s0.2)),(6,.tv (eI i0))]:=⟨⟩
  have:HJ 33 fun (w1:Int)=>[(5,.tv (eI w1))]:=⟨⟩
  exact au
theorem kE:∀ n:Nat,(∀ (c:AA),Ct prog (FY n c) 102 [AG c] (fun r=>.tp [eI r.1,eI r.2])):=by
  intro n
  induction n with
  | zero=>exact (fun c=>⟨fun _ h=>by cases h⟩)
  | succ n ih=>exact kF n ih
instance sP (c:AA):Ct prog (Np c) 102 [AG c] (fun r=>.tp [eI r.1,eI r.2]):=⟨fun r h=>by
  obtain ⟨N,hN⟩:=DE h
  exact ((kE N) c).snd r (hN N (Nat.le_refl _))⟩
theorem q7:CK f43 (Rq [Af 1 0,Ae 2 0] [1]<|Sq (Rq [Ad 5 1 9,Ax 6 101 5,Be 7 6] [1,7]<|Co 7 (Rq [Ae 2 1] [2]<|.ret)<|Sk [1])<|Sq (Rq [Ad 9 1 9,Ax 10 102 9,Aa 8 10,An 11 8 0,An 12 8 1,Aa 3 11,Aa 4 12] [3,4]<|Rq [Aa 13 3,Bk 14 13 12,Aa 15 14,Au 16 4 15,Cg 17 16 3 15,Ar 18 15 17] [18]<|Co 18 (Rq [Ae 2 3] [2]<|.ret)<|Sk [])<|Rq [Ae 2 0] [2]<|.ret) [.tmp 2]:=by decide +kernel
instance wJ (c:AA):Ct prog (Lg c) 43 [AG c] (fun r=>.sh (eI r)):=Fi q7 fun r h hw hR=>by
  unfold Lg at h
  exact au
theorem l5:CK f168 (Rq [Af 2 0,Ak 4] [1,2]<|Sq (Rq [Ae 5 0] [1,2,5]<|Bl 0<|Lo [1,2,5]<|Sq (Rq [Aa 6 5,Ac 7 2 2,Ab 8 7,Ag 9 8,Am 10 6 9] [1,2,5,10]<|Co 10 (Sk [1,2,5])<|Ex 0 [])<|Sq (Bl 1<|Rq [Ac 13 2 2,Ab 14 13,Aa 15 5,Ai 16 14 15 4,Ah 17 16 2,Ah 18 17 0,Ab 19 18,Aa 20 1,Da 21 19 20] [1,2,5,21]<|Co 21 (Rq [Bt 4] [4]<|.ret)<|Sk [1,2,5])<|Re [Aa 11 5,Al 12 11 1,Aa 5 12] [1,2,5])<|Rq [Ak 4] [4]<|.ret) [.tmp 4]:=by decide +kernel
instance tY (p:Pattern) (v_1:Int):Ct prog (Mh p v_1) 168 [A8 p,eI v_1] (fun r=>.sh (eB r)):=Fi l5 fun r h hw hR=>by
  unfold Mh at h
  have:HA 0 5 2 2 fun (i0:Int) (_:Unit)=>[(5,.tv (eI i0))]:=⟨⟩
  exact au
theorem kZ:CK f103 (Rq [Af 3 0,Af 5 2,Ae 6 0] [1,3,5]<|Sq (Rq [Ac 9 5 3,Ab 10 9,Aa 11 1,Am 12 10 11] [1,3,5,12]<|Co 12 (Rq [Ae 6 20] [6]<|.ret)<|Sk [1,3,5])<|Rq [Ad 13 3 2,Ad 14 5 5,Av 15 42 13 14,Aa 7 15] [1,5,7]<|Sq (Rq [Aa 16 7,Az 17 16 9] [1,5,7,17]<|Co 17 (Rq [Aa 18 7,Aa 6 18] [6]<|.ret)<|Sk [1,5,7])<|Sq (Rq [Aa 19 1,Aa 8 19] [5,7,8]<|Bl 0<|Lo [5,7,8]<|Sq (Rq [Aa 20 8,Ac 21 5 3,Ab 22 21,Am 23 20 22] [5,7,8,23]<|Co 23 (Sk [5,7,8])<|Ex 0 [])<|Sq (Bl 1<|Rq [Ad 26 5 5,Aa 27 8,Av 28 168 26 27,Be 29 28] [5,7,8,29]<|Co 29 (Rq [Aa 30 7,Aa 6 30] [6]<|.ret)<|Sk [5,7,8])<|Re [Aa 24 8,Al 25 24 1,Aa 8 25] [5,7,8])<|Rq [Ae 6 0] [6]<|.ret) [.tmp 6]:=by decide +kernel
instance sQ (t:Types) (vars:Int) (q:Pattern):Ct prog (Lh t vars q) 103 [AU t,eI vars,A8 q] (fun r=>.sh (eI r)):=Fi kZ fun r h hw hR=>by
  unfold Lh at h
  have:HA 0 8 5 3 fun (i0:Int) (_:Unit)=>[(8,.tv (eI i0))]:=⟨⟩
  exact au
theorem kc:CK f104 (Rq [Af 3 0,Af 4 1,Af 5 2,Ae 6 0] [3,4,5]<|Sq (Rq [Ad 13 3 2,Ax 14 95 13,Aa 7 14] [3,4,5,7]<|Rq [Aa 15 7,Az 16 15 0] [3,4,5,7,16]<|Co 16 (Rq [Aa 17 7,Aa 6 17] [6]<|.ret)<|Sk [3,4,5])<|Sq (Rq [Ad 18 4 2,Ax 19 95 18,Aa 8 19] [3,4,5,8]<|Rq [Aa 20 8,Az 21 20 0] [3,4,5,8,21]<|Co 21 (Rq [Aa 22 8,Aa 6 22] [6]<|.ret)<|Sk [3,4,5])<|Sq (Rq [Ac 23 5 0,Ab 24 23,Ag 25 24,Ac 26 3 0,Ab 27 26,Ag 28 27,Bo 29 25 28,Aa 30 29,Aq 31 5 1 30,Ao 32 31 30,Bj 33 32 30,Aq 34 3 1 30,Ao 35 34 30,Bj 36 35 30,Cx 37 33 36 30,Ar 38 30 37] [3,4,5,38]<|Co 38 (Rq [Ae 6 20] [6]<|.ret)<|Sk [3,4,5])<|Sq (Rq [Ae 9 0] [3,4,5,9]<|Bl 0<|Lo [3,4,5,9]<|Sq (Rq [Aa 39 9,Ac 40 3 0,Ab 41 40,Ag 42 41,Am 43 39 42] [3,4,5,9,43]<|Co 43 (Sk [3,4,5,9])<|Ex 0 [3,4,5])<|Sq (Bl 1<|Sq (Sq (Dr [46,47,48,49,50,51,52,53,54,55,56,57,58,59,60,61,62] [Ac 46 5 0,Ab 47 46,Aa 48 9,Ai 49 47 48 1,Ab 50 49,Cd 51 50 0,Aa 52 51,Aq 53 5 0 52,Ao 54 53 52,Au 55 9 52,Ce 56 54 55 1 52,Ao 57 56 52,Aq 58 4 0 52,Ao 59 58 52,Bj 60 59 52,Cb 61 57 60 52,Ar 62 52 61] [3,4,5,9,62])<|Co 62 (Rq [Ae 6 6] [6]<|.ret)<|Sk [3,4,5,9])<|Sq (Dr [63,64,65,66,67,68,69,70,71,72,73,74,75,76,77] [Ac 63 4 0,Ab 64 63,Ac 65 5 0,Ab 66 65,Aa 67 9,Ai 68 66 67 1,Ab 69 68,Ai 70 64 69 1,Ab 71 70,Ac 72 3 0,Ab 73 72,Aa 74 9,Ai 75 73 74 1,Ab 76 75,Bo 77 71 76] [3,4,5,9,77])<|Co 77 (Rq [Ae 6 13] [6]<|.ret)<|Sk [3,4,5,9])<|Re [Aa 44 9,Al 45 44 1,Aa 9 45] [3,4,5,9])<|Sq (Rq [Ae 10 0] [3,4,5,10]<|Bl 2<|Lo [3,4,5,10]<|Sq (Rq [Aa 78 10,Ac 79 3 1,Ab 80 79,Ag 81 80,Am 82 78 81] [3,4,5,10,82]<|Co 82 (Sk [3,4,5,10])<|Ex 2 [])<|Sq (Bl 3<|Sq (Sq (Dr [85,86,87,88,89,90,91,92,93,94,95,96,97,98,99,100,101] [Ac 85 5 1,Ab 86 85,Aa 87 10,Ai 88 86 87 1,Ab 89 88,Cd 90 89 0,Aa 91 90,Aq 92 5 1 91,Ao 93 92 91,Au 94 10 91,Ce 95 93 94 1 91,Ao 96 95 91,Aq 97 4 1 91,Ao 98 97 91,Bj 99 98 91,Cb 100 96 99 91,Ar 101 91 100] [3,4,5,10,101])<|Co 101 (Rq [Ae 6 6] [6]<|.ret)<|Sk [3,4,5,10])<|Sq (Dr [11,12,102,103,104,105,106,107,108,109,110,111,112,113,114,115] [Ac 102 3 1,Ab 103 102,Aa 104 10,Ai 105 103 104 3,Ad 106 105 3,Ac 107 4 1,Ab 108 107,Ac 109 5 1,Ab 110 109,Aa 111 10,Ai 112 110 111 1,Ab 113 112,Ai 114 108 113 3,Ad 115 114 3,Cl 11 0 0 0,Cl 12 0 0 0,Aj 3 11 106,Aj 3 12 115] [3,4,5,10,11,12])<|Sq (Rq [Ac 116 11 0,Ab 117 116,Ac 118 12 0,Ab 119 118,Bo 120 117 119] [3,4,5,10,11,12,120]<|Co 120 (Rq [Ae 6 13] [6]<|.ret)<|Sk [3,4,5,10,11,12])<|Sq (Dr [121,122,123,124,125,126,127,128,129,130,131,132,133,134,135,136,137,138,139,140] [Ac 121 5 0,Ab 122 121,Ac 123 11 1,Ab 124 123,Ai 125 122 124 1,Ab 126 125,Ac 127 12 1,Ab 128 127,Bo 129 126 128,Aa 130 129,Aq 131 5 0 130,Ao 132 131 130,Aq 133 11 2 130,Ao 134 133 130,Ce 135 132 134 1 130,Ao 136 135 130,Aq 137 12 2 130,Ao 138 137 130,Cx 139 136 138 130,Ar 140 130 139] [3,4,5,10,140])<|Co 140 (Rq [Ae 6 11] [6]<|.ret)<|Sk [3,4,5,10])<|Re [Aa 83 10,Al 84 83 1,Aa 10 84] [3,4,5,10])<|Rq [Ae 6 0] [6]<|.ret) [.tmp 6]:=by decide +kernel
instance sR (a:Graph) (b:Graph) (m:Morphism):Ct prog (KN a b m) 104 [CC a,CC b,BU m] (fun r=>.sh (eI r)):=Fi kc fun r h hw hR=>by
  unfold KN at h
  have:HA 0 9 3 0 fun (i0:Int) (_:Unit)=>[(9,.tv (eI i0))]:=⟨⟩
  have:HA 2 10 3 1 fun (i2:Int) (_:Unit)=>[(10,.tv (eI i2))]:=⟨⟩
  exact au
theorem l6:CK f169 (Rq [Ak 2] [0]<|Sq (Rq [Ae 3 0] [0,3]<|Bl 0<|Lo [0,3]<|Sq (Rq [Aa 5 3,Aa 6 0,Ag 7 6,Am 8 5 7] [0,3,8]<|Co 8 (Sk [0,3])<|Ex 0 [])<|Sq (Bl 1<|Rq [Ae 4 0] [0,3,4]<|Bl 2<|Lo [0,3,4]<|Sq (Rq [Aa 11 4,Aa 12 3,Am 13 11 12] [0,3,4,13]<|Co 13 (Sk [0,3,4])<|Ex 2 [0,3])<|Sq (Bl 3<|Sq (Dr [16,17,18,19,20,21,22,23,24] [Aa 16 0,Aa 17 3,Ai 18 16 17 1,Ab 19 18,Aa 20 0,Aa 21 4,Ai 22 20 21 1,Ab 23 22,Da 24 19 23] [0,3,4,24])<|Co 24 (Rq [Ak 2] [2]<|.ret)<|Sk [0,3,4])<|Re [Aa 14 4,Al 15 14 1,Aa 4 15] [0,3,4])<|Re [Aa 9 3,Al 10 9 1,Aa 3 10] [0,3])<|Rq [Bt 2] [2]<|.ret) [.tmp 2]:=by decide +kernel
instance tZ (l:List Int):Ct prog (IK l) 169 [lI l] (fun r=>.sh (eB r)):=Fi l6 fun r h hw hR=>by
  unfold IK at h
  have:HA 0 3 0 0 fun (i0:Int) (_:Unit)=>[(3,.tv (eI i0))]:=⟨⟩
  have:HA 2 4 3 0 fun (i2:Int) (_:Unit)=>[(4,.tv (eI i2))]:=⟨⟩
  exact au
theorem kf:CK f105 (Rq [Af 3 0,Af 4 1,Af 5 2,Ak 6] [3,4,5]<|Rq [Ad 7 3 2,Ad 8 4 2,Ad 9 5 2,Bi 10 104 7 8 9,Bb 11 10 0,Aa 12 11,Ay 13 5 0 12,Ba 14 13 12,Cc 15 169 14 12,Ap 16 12 15,Aa 17 16,Ay 18 5 1 17,Ba 19 18 17,Cc 20 169 19 17,Ap 21 17 20,Aa 6 21] [6]<|.ret) [.tmp 6]:=by decide +kernel
instance sS (a:Graph) (b:Graph) (m:Morphism):Ct prog (Iy a b m) 105 [CC a,CC b,BU m] (fun r=>.sh (eB r)):=Fi kf fun r h hw hR=>by
  unfold Iy at h
  exact au
theorem q8:CK f44 (Rq [Af 3 0,Af 4 1,Af 5 2,Ae 6 0] [3,4,5]<|Rq [Ad 12 4 5,Cr 7 1 3 4 0 5,Aj 5 7 12] [3,4,5,7]<|Sq (Rq [Ac 13 5 0,Ab 14 13,Bb 15 14 5] [3,4,5,7,15]<|Co 15 (Sq (Rq [Ad 16 3 2,Ac 17 4 3,Ab 18 17,Ac 19 5 4,Ad 20 19 5,Bi 21 103 16 18 20,Aa 8 21] [3,4,5,7,8]<|Rq [Aa 22 8,Az 23 22 0] [3,4,5,7,8,23]<|Co 23 (Rq [Aa 24 8,Aa 6 24] [6]<|.ret)<|Sk [3,4,5,7])<|Sq (Rq [Ac 25 4 0,Ad 26 25 2,Ac 27 5 4,Ah 28 27 0,Ad 29 28 2,Ac 30 5 2,Ad 31 30 2,Bi 32 104 26 29 31,Aa 9 32] [3,4,5,7,9]<|Rq [Aa 33 9,Az 34 33 0] [3,4,5,7,9,34]<|Co 34 (Rq [Aa 35 9,Aa 6 35] [6]<|.ret)<|Sk [3,4,5,7])<|Sq (Rq [Ac 36 4 0,Ad 37 36 2,Ac 38 5 4,Ah 39 38 0,Ad 40 39 2,Ac 41 5 2,Ad 42 41 2,Bi 43 105 37 40 42,Be 44 43] [3,5,7,44]<|Co 44 (Rq [Ae 6 1] [6]<|.ret)<|Sk [3,5,7])<|Re [Ac 45 5 4,Ad 46 45 5,Aj 5 7 46] [3,5,7])<|Sk [3,5,7])<|Sq (Rq [Ae 10 0] [3,5,7,10]<|Bl 0<|Lo [3,5,7,10]<|Sq (Rq [Aa 47 10,Ac 48 5 1,Ab 49 48,Ag 50 49,Am 51 47 50] [3,5,7,10,51]<|Co 51 (Sk [3,5,7,10])<|Ex 0 [])<|Sq (Bl 1<|Sq (Dr [11,54,55,56,57,58,59,60,61] [Ad 54 3 2,Ad 55 7 5,Ac 56 5 1,Ab 57 56,Aa 58 10,Ai 59 57 58 9,Ad 60 59 9,Bi 61 44 54 55 60,Aa 11 61] [3,5,7,10,11])<|Rq [Aa 62 11,Az 63 62 0] [3,5,7,10,11,63]<|Co 63 (Rq [Aa 64 11,Aa 6 64] [6]<|.ret)<|Sk [3,5,7,10])<|Re [Aa 52 10,Al 53 52 1,Aa 10 53] [3,5,7,10])<|Rq [Ae 6 0] [6]<|.ret) [.tmp 6]:=by decide +kernel
theorem qI (n:Nat) (_ih_44:∀ (t:Types) (p:Pattern) (c:AA),Ct prog (F9 n t p c) 44 [AU t,A8 p,AG c] (fun r=>.sh (eI r))) (t:Types) (p:Pattern) (c:AA):Ct prog (F9 (n+1) t p c) 44 [AU t,A8 p,AG c] (fun r=>.sh (eI r)):=Fi q8 fun r h hw hR=>by
  unfold F9 at h
  have:HA 0 10 5 1 fun (i0:Int) (_:Unit)=>[(10,.tv (eI i0))]:=⟨⟩
  exact au
theorem qH:∀ n:Nat,(∀ (t:Types) (p:Pattern) (c:AA),Ct prog (F9 n t p c) 44 [AU t,A8 p,AG c] (fun r=>.sh (eI r))):=by
  intro n
  induction n with
  | zero=>exact (fun t p c=>⟨fun _ h=>by cases h⟩)
  | succ n ih=>exact qI n ih
instance wK (t:Types) (p:Pattern) (c:AA):Ct prog (TE t p c) 44 [AU t,A8 p,AG c] (fun r=>.sh (eI r)):=⟨fun r h=>by
  obtain ⟨N,hN⟩:=DE h
  exact ((qH N) t p c).snd r (hN N (Nat.le_refl _))⟩
theorem qh:CK f16 (Rq [Af 3 0,Af 4 1,Af 5 2,Ae 6 0] [3,4,5]<|Sq (Rq [Ad 9 3 2,Ad 10 4 5,Av 11 42 9 10,Aa 7 11] [3,4,5,7]<|Rq [Aa 12 7,Az 13 12 0] [3,4,5,7,13]<|Co 13 (Rq [Aa 14 7,Aa 6 14] [6]<|.ret)<|Sk [3,4,5])<|Sq (Rq [Ad 15 5 9,Ax 16 43 15,Aa 8 16] [3,4,5,8]<|Rq [Aa 17 8,Az 18 17 0] [3,4,5,8,18]<|Co 18 (Rq [Aa 19 8,Aa 6 19] [6]<|.ret)<|Sk [3,4,5])<|Rq [Ad 20 3 2,Ad 21 4 5,Ad 22 5 9,Bi 23 44 20 21 22,Aa 6 23] [6]<|.ret) [.tmp 6]:=by decide +kernel
instance vp (t:Types) (p:Pattern) (c:AA):Ct prog (KT t p c) 16 [AU t,A8 p,AG c] (fun r=>.sh (eI r)):=Fi qh fun r h hw hR=>by
  unfold KT at h
  exact au
theorem lF:CK f128 (Rq [Bv 0 0 9 1 1 1 3 4 0 5] [0]<|Rq [Gv 1 0 9 1 1 1 3 4 0 5 0 1 1,Aj 9 0 1] [0]<|.ret) [.cell 0 (some 9)]:=by decide +kernel
instance sq :Ct prog (LA ) 128 [] (fun r=>.sh (AG r)):=Fi lF fun r h hw hR=>by
  unfold LA at h
  exact au
theorem nC:CK f238 (Rq [Bc 2 1] [0]<|Rq [Bc 3 1] [0,3]<|Sq (Rq [Ae 4 0] [0,3,4]<|Bl 0<|Lo [0,3,4]<|Sq (Rq [Aa 5 4,Aa 6 0,Am 7 5 6] [0,3,4,7]<|Co 7 (Sk [0,3,4])<|Ex 0 [3])<|Sq (Bl 1<|Re [Aw 10 3,Aa 11 4,Bf 12 1 11,Bg 13 1 10 12,Aw 3 13] [0,3,4])<|Re [Aa 8 4,Al 9 8 1,Aa 4 9] [0,3,4])<|Rq [Aa 14 3,Aw 2 14] [2]<|.ret) [.tmp 2]:=by decide +kernel
instance ul (n:Int):Ct prog (JX n) 238 [eI n] (fun r=>.sh (lI r)):=Fi nC fun r h hw hR=>by
  unfold JX at h
  have:HA 0 4 0 0 fun (i0:Int) (s0:List Int)=>[(3,.ow (lI s0)),(4,.tv (eI i0))]:=⟨⟩
  exact au
theorem mP:CK f193 (Rq [Af 1 0,Ca 2 1 1] [1,2]<|Sq (Dr [2,3,4,5,6,7,8,9,10,11] [Ac 3 1 0,Ab 4 3,Ag 5 4,Ax 6 238 5,Ac 7 1 1,Ab 8 7,Ag 9 8,Ax 10 238 9,Dd 11 1 1 0 1 6 1 1 10,Aj 2 2 11] [2])<|.ret) [.cell 2 (some 2)]:=by decide +kernel
instance t8 (g:Graph):Ct prog (QZ g) 193 [CC g] (fun r=>.sh (BU r)):=Fi mP fun r h hw hR=>by
  unfold QZ at h
  exact au
theorem mQ:CK f194 (Rq [Af 1 0,Ca 2 1 3] [1,2]<|Sq (Dr [2,3,4,5,6,7,8,9,10,11] [Cp 3 1,Ac 4 1 0,Ab 5 4,Bg 6 1 3 5,Cp 7 3,Ac 8 1 1,Ab 9 8,Bg 10 3 7 9,Gu 11 6 10,Ek 2 2 11] [2])<|.ret) [.cell 2 (some 2)]:=by decide +kernel
instance uA (g:Graph):Ct prog (MZ g) 194 [CC g] (fun r=>.oag [⟨true,lI r.Nodes⟩,⟨true,lE r.Edges⟩]):=Fi mQ fun r h hw hR=>by
  unfold MZ at h
  exact au
theorem lG:CK f129 (Rq [Af 4 0,Af 5 1,Cr 8 1 3 4 0 5,Ca 9 1 1] [2,3,4,5,8,9]<|Rq [Ac 17 5 0,Ad 18 17 2,Ax 19 193 18,Ca 10 1 1,Aj 2 10 19] [2,3,4,5,8,9,10]<|Sq (Dr [11,20,21,22,23,24,25] [Ac 20 5 0,Ad 21 20 2,⟨some 22,.callg 194 [.s 21],none⟩,Ac 23 5 3,Ab 24 23,⟨some 25,.bldg [.g 22 0 2,.g 22 1 2,.z ⟨true,.list 4 []⟩,.v (.s 24) 0 1,.z ⟨true,.list 5 []⟩],none⟩,Cr 11 1 3 4 0 5,Ek 5 11 25] [2,3,4,8,9,10,11])<|Rq [Ac 26 11 0,Ah 27 26 0,Ab 28 27,Ag 29 28,Aa 12 29] [2,3,4,8,9,10,11,12]<|Sq (Rq [Aa 30 2,El 31 30 3,⟨some 32,.bin (.i) .gtr (.s 31) (.c (.int .u8 0)),none⟩] [2,3,4,8,9,10,11,12,32]<|Co 32 (Sq (Dr [33,34,35,36,37,38,39,40,41,42,43,44,45,46] [Ac 33 11 0,Ah 34 33 0,Cj 35 34,Aa 36 2,Fd 37 36 4,Bs 38 37,Ac 39 4 0,Ab 40 39,Ag 41 40,Ch 42 38 41,Bf 43 1 42,Bg 44 1 35 43,Ac 45 11 0,Ah 46 45 0,Bp 1 46 44] [2,3,4,8,9,10,11,12])<|Re [Aa 47 12,Al 48 47 1,Aa 12 48] [2,3,4,8,9,10,11,12])<|Sk [2,3,4,8,9,10,11,12])<|Sq (Rq [Aa 49 12,Bk 50 49 0,Aa 51 50,As 52 2 51,⟨some 53,.bin (.i) .rem (.s 52) (.c (.int .u8 4)),some (51,true)⟩,⟨some 54,.bin (.i) .gtr (.s 53) (.c (.int .u8 0)),some (51,true)⟩,Ap 55 51 54] [2,3,4,8,9,10,11,12,55]<|Co 55 (Rq [Ae 13 0] [2,3,4,8,9,10,11,12,13]<|Bl 0<|Lo [2,3,4,8,9,10,11,12,13]<|Sq (Rq [Aa 56 13,Ac 57 4 1,Ab 58 57,Ag 59 58,Am 60 56 59] [2,3,4,8,9,10,11,12,13,60]<|Co 60 (Sk [2,3,4,8,9,10,11,12,13])<|Ex 0 [2,3,4,8,9,10,11,12])<|Sq (Bl 1<|Sq (Dr [14,63,64,65,66,67,68,69,70,71,72,73,74,75,76,77] [Aa 63 13,Aa 64 2,Bs 65 64,Bn 66 63 65,Ac 67 4 1,Ab 68 67,Ag 69 68,Ch 70 66 69,Aa 71 3,Bs 72 71,Aa 73 12,Ch 74 72 73,Aa 75 12,Bz 76 75 1,Fs 77 0 0 0 0 1 70 1 1 74 2 1 76,Cl 14 0 0 0,Aj 3 14 77] [2,3,4,8,9,10,11,12,14])<|Sq (Rq [Aa 78 3,El 79 78 2,Cn 80 79 1] [2,3,4,8,9,10,11,12,14,80]<|Co 80 (Re [Ac 81 14 2,Ab 82 81,Ac 83 14 1,Ab 84 83,Ac 85 14 1,Bp 1 85 82,Ac 86 14 2,Bp 1 86 84] [2,3,4,8,9,10,11,12,14])<|Sk [2,3,4,8,9,10,11,12,14])<|Rq [Ac 87 11 0,Ah 88 87 1,Cj 89 88,Ad 90 14 3,Bf 91 3 90,Bg 92 3 89 91,Ac 93 11 0,Ah 94 93 1,Bp 1 94 92] [2,3,4,8,9,10,11,12]<|Ex 0 [2,3,4,8,9,10,11,12])<|Re [Aa 61 13,Al 62 61 1,Aa 13 62] [2,3,4,8,9,10,11,12,13,98,99,100,122,123,124,125])<|Sk [2,3,4,8,9,10,11,12])<|Sq (Rq [Aa 95 12,Bk 96 95 0,Aa 97 96,Ay 98 11 3 97,Ba 99 98 97,Do 100 99 6 97,Ap 101 97 100] [2,3,4,8,9,10,11,12,101]<|Co 101 (Rq [Ac 102 11 0,Ah 103 102 0,Ab 104 103,Aa 105 12,Bz 106 105 1,Ai 107 104 106 1,Ab 108 107,Aa 15 108] [2,3,4,8,9,10,11,12,15]<|Rq [Ac 109 11 0,Ad 110 109 2,Aa 111 12,Bz 112 111 1,⟨some 113,.bld [.int .i64 0,.int .i64 0,.int .i64 0,.int .i64 0] [(0,1,.s 112)],none⟩,Bf 114 4 113,Hl 115 1 3 4 0 5 0 2 110 3 1 1 2 1 114,Cr 16 1 3 4 0 5,Aj 5 16 115] [2,3,4,8,9,10,11,12,15,16]<|Rq [Aa 116 15,Ac 117 4 0,Ab 118 117,Ag 119 118,Am 120 116 119,Aa 121 120,Bh 122 4 2 121,Bh 123 16 5 121,Dn 124 42 122 123 121,Cw 125 124 0 121,Ap 126 121 125] [2,3,8,9,10,11,12,126]<|Co 126 (Rq [Ac 127 11 2,Cj 128 127,Aa 129 12,Bz 130 129 1,Ac 131 11 3,Ab 132 131,Aa 133 3,El 134 133 3,Bs 135 134,Fe 136 0 0 0 1 132 1 1 135,⟨some 137,.bld [.int .i64 0,.int .i64 0,.int .i64 0,.int .i64 0] [(0,1,.s 130),(2,2,.s 136)],none⟩,Bf 138 4 137,Bg 139 4 128 138,Ac 140 11 2,Bp 1 140 139] [2,3,8,9,10,11]<|Rq [Ac 141 11 3,Ab 142 141,Al 143 142 1,Ac 144 11 3,Bp 1 144 143] [2,3,8,9,10,11]<|Rq [Ac 145 11 3,Ab 146 145,Bk 147 146 1] [2,3,8,9,10,11,147]<|Co 147 (Re [Ac 148 11 4,Cj 149 148,Aa 150 2,Fd 151 150 64,Bs 152 151,Ds 153 152 2,Ee 154 1 153,Fc 155 0 0 0 1 0,Ac 156 11 3,Ab 157 156,Bz 158 157 1,Aa 159 3,Fd 160 159 8,Bs 161 160,Ds 162 161 9,Bz 163 162 4,Fe 164 0 0 0 1 158 1 1 163,Hq 165 0 0 0 0 0 0 1 154 1 2 155 3 2 164,Bf 166 5 165,Bg 167 5 149 166,Ac 168 11 4,Bp 1 168 167] [8,9,10,11])<|Sk [8,9,10,11])<|Sk [8,9,10,11])<|Sk [8,9,10,11])<|Sq (Dr [8,9,169,170] [Ad 169 11 5,Ad 170 10 2,Aj 5 8 169,Aj 2 9 170] [8,9])<|.ret) [.cell 8 (some 5),.cell 9 (some 2)]:=by decide +kernel
instance sr (t:Types) (p:Pattern) (x_2:Int) (y:Int):Ct prog (KU t p x_2 y) 129 [AU t,A8 p,HL x_2,HL y] (fun r=>.tp [A8 r.1,BU r.2]):=Fi lG fun r h hw hR=>by
  unfold KU at h
  have:HJ 32 fun (w1:Pattern × Int)=>[(11,.bx [⟨true,lI w1.1.Graph.Nodes⟩,⟨true,lE w1.1.Graph.Edges⟩,⟨true,lS w1.1.Slots⟩,⟨false,eI w1.1.Vars⟩,⟨true,lT w1.1.Tests⟩]),(12,.tv (eI w1.2))]:=⟨⟩
  have:HA 0 13 4 1 fun (i0:Int) (s0:Pattern)=>[(11,.bx [⟨true,lI s0.Graph.Nodes⟩,⟨true,lE s0.Graph.Edges⟩,⟨true,lS s0.Slots⟩,⟨false,eI s0.Vars⟩,⟨true,lT s0.Tests⟩]),(13,.tv (eI i0))]:=⟨⟩
  have:HJ 55 fun (w2:Pattern)=>[(11,.bx [⟨true,lI w2.Graph.Nodes⟩,⟨true,lE w2.Graph.Edges⟩,⟨true,lS w2.Slots⟩,⟨false,eI w2.Vars⟩,⟨true,lT w2.Tests⟩])]:=⟨⟩
  have:HJ 101 fun (w3:Pattern)=>[(11,.bx [⟨true,lI w3.Graph.Nodes⟩,⟨true,lE w3.Graph.Edges⟩,⟨true,lS w3.Slots⟩,⟨false,eI w3.Vars⟩,⟨true,lT w3.Tests⟩])]:=⟨⟩
  exact au
theorem rG:CK f57 (Rq [Af 4 0,Af 5 1,Bv 8 0 9 1 1 1 3 4 0 5,Bc 9 1] [2,3,4,5,8]<|Sq (Rq [Aa 19 2,Ag 20 19,Cd 21 20 3] [2,3,4,5,8,21]<|Co 21 (Rq [Cz 22 128,Aj 9 8 22,Bc 9 1] [8,9]<|.ret)<|Sk [2,3,4,5,8])<|Sq (Dr [10,11,12,23,24,25,26,27,28,29,30] [Aa 23 2,Cy 24 23 1 1,Ab 25 24,Aa 26 2,Cy 27 26 2 1,Ab 28 27,Aa 29 2,⟨some 30,.slc 1 (.s 29) (some (.c (.int .i64 3))) none,none⟩,Aa 10 25,Aa 11 28,Aw 12 30] [2,3,4,5,8,10,11,12])<|Rq [⟨some 31,.bldg [.v (.c (.int .i64 1)) 0 1,.z ⟨true,.list 9 []⟩,.z ⟨true,.list 1 []⟩,.z ⟨true,.list 1 []⟩,.z ⟨true,.list 1 []⟩,.z ⟨true,.list 3 []⟩,.z ⟨true,.list 4 []⟩,.z ⟨false,.int .i64 0⟩,.z ⟨true,.list 5 []⟩],none⟩,Bv 13 0 9 1 1 1 3 4 0 5,Ek 9 13 31] [2,3,4,5,8,10,11,12,13]<|Sq (Rq [Aa 32 2,Cy 33 32 0 1,Ab 34 33,El 35 34 8] [3,4,5,8,10,11,12,13,35]<|Bl 0<|Sq (Rq [Cn 37 35 1,Aa 36 37] [3,4,5,8,10,11,12,13,35,36]<|Co 36 (Sk [3,4,5,8,10,11,12,13,35,36])<|Re [Cn 38 35 2,Aa 36 38] [3,4,5,8,10,11,12,13,35,36])<|Co 36 (Re [Ac 39 13 0,Em 1 39 2] [3,4,5,8,10,11,12,13])<|Rq [Cn 41 35 3,Aa 40 41] [3,4,5,8,10,11,12,13,35,40]<|Co 40 (Re [Ac 42 13 0,Em 1 42 3] [3,4,5,8,10,11,12,13])<|Rq [Cn 44 35 4,Aa 43 44] [3,4,5,8,10,11,12,13,35,43]<|Co 43 (Re [Ac 45 13 0,Em 1 45 4] [3,4,5,8,10,11,12,13])<|Sq (Rq [Cn 47 35 5,Aa 46 47] [3,4,5,8,10,11,12,13,35,46]<|Co 46 (Sk [3,4,5,8,10,11,12,13,46])<|Rq [Cn 48 35 6,Aa 46 48] [3,4,5,8,10,11,12,13,35,46]<|Co 46 (Sk [3,4,5,8,10,11,12,13,46])<|Re [Cn 49 35 7,Aa 46 49] [3,4,5,8,10,11,12,13,46])<|Co 46 (Re [Ac 50 13 0,Em 1 50 5] [3,4,5,8,10,11,12,13])<|Sk [3,4,5,8,10,11,12,13])<|Rq [Aa 51 10,Bs 52 51,Ds 53 52 2,Ee 54 1 53,Aa 55 10,Bs 56 55,Ds 57 56 2,Ee 58 1 57,⟨some 59,.lst 1 [.c (.int .i64 0),.c (.int .i64 0),.c (.int .i64 1),.s 54,.s 58,.c (.int .i64 1)],none⟩,Ac 60 13 0,Ab 61 60,Ai 62 59 61 1,Ab 63 62,Aa 14 63] [3,4,5,8,10,11,12,13,14]<|Rq [Ad 64 5 5,Cr 15 1 3 4 0 5,Aj 5 15 64] [3,4,5,8,10,11,12,13,14,15]<|Sq (Rq [Ac 65 13 0,Ab 66 65,Bb 67 66 5] [3,4,5,8,10,11,12,13,14,15,67]<|Co 67 (Sq (Rq [Aa 68 3,Bb 69 68 0,Aa 70 69,Aq 71 5 0 70,Bm 72 71 0 70,Ao 73 72 70,Bj 74 73 70,Aq 75 5 0 70,Bm 76 75 1 70,Ao 77 76 70,Bj 78 77 70,Gw 79 74 78 70,Cg 80 79 4 70,Ar 81 70 80] [3,4,5,8,10,11,12,13,14,15,81]<|Co 81 (Rq [Cz 82 128,Aa 83 12,Aj 9 8 82,Aw 9 83] [8,9]<|.ret)<|Sk [3,4,5,8,10,11,12,13,14,15])<|Rq [Ad 85 4 2,Ad 86 5 5,Aa 87 10,Aa 88 11,Cs 89 129 85 86 87 88,Aa 84 89,An 90 84 0,An 91 84 1,Aj 5 15 90,Ac 92 13 2,Bp 2 92 91] [3,4,8,12,13,14,15]<|Rq [Ad 93 15 5,Ac 94 13 4,Bp 5 94 93] [3,4,8,12,13,14,15]<|Re [Aa 95 3,Bz 96 95 1,Aa 3 96] [3,4,8,12,13,14,15])<|Sk [3,4,8,12,13,14,15])<|Sq (Rq [Ae 16 0] [3,4,8,12,13,14,15,16]<|Bl 1<|Lo [3,4,8,12,13,14,15,16]<|Sq (Rq [Aa 97 16,Aa 98 14,Am 99 97 98] [3,4,8,12,13,14,15,16,99]<|Co 99 (Sk [3,4,8,12,13,14,15,16])<|Ex 1 [8,12,13])<|Sq (Bl 2<|Rq [Ad 103 4 2,Ad 104 15 5,Aa 105 12,Aa 106 3,Cs 107 57 103 104 105 106,Aa 102 107,An 108 102 0,An 109 102 1,Bv 17 0 9 1 1 1 3 4 0 5,Aj 9 17 108,Aw 18 109] [3,4,8,13,14,15,16,17,18]<|Re [Ac 110 13 1,Cj 111 110,Ad 112 17 9,Bf 113 9 112,Bg 114 9 111 113,Aa 115 18,Ac 116 13 1,Bp 1 116 114,Aw 12 115] [3,4,8,12,13,14,15,16])<|Re [Aa 100 16,Al 101 100 1,Aa 16 101] [3,4,8,12,13,14,15,16])<|Rq [Ad 117 13 9,Aa 118 12,Aj 9 8 117,Aw 9 118] [8,9]<|.ret) [.cell 8 (some 9),.tmp 9]:=by decide +kernel
theorem qN (n:Nat) (_ih_57:∀ (t:Types) (p:Pattern) (codes:List Int) (depth:Int),Ct prog (C8 n t p codes depth) 57 [AU t,A8 p,(eL 1 HL) codes,eI depth] (fun r=>.tp [AG r.1,(eL 1 HL) r.2])) (t:Types) (p:Pattern) (codes:List Int) (depth:Int):Ct prog (C8 (n+1) t p codes depth) 57 [AU t,A8 p,(eL 1 HL) codes,eI depth] (fun r=>.tp [AG r.1,(eL 1 HL) r.2]):=Fi rG fun r h hw hR=>by
  unfold C8 at h
  have:HJ 36 fun (w1:Bool)=>[(36,.tv (eB w1))]:=⟨⟩
  have:HJ 36 fun (w2:AA)=>[(13,.bx [⟨false,eI w2.Kind⟩,⟨true,C5 w2.Kids⟩,⟨true,lI w2.Map.Nodes⟩,⟨true,lI w2.Map.Edges⟩,⟨true,lI w2.Pattern.Graph.Nodes⟩,⟨true,lE w2.Pattern.Graph.Edges⟩,⟨true,lS w2.Pattern.Slots⟩,⟨false,eI w2.Pattern.Vars⟩,⟨true,lT w2.Pattern.Tests⟩])]:=⟨⟩
  have:HA 1 16 14 0 fun (i1:Int) (s1:List Int × AA)=>[(12,.tv ((eL 1 HL) s1.1)),(13,.bx [⟨false,eI s1.2.Kind⟩,⟨true,C5 s1.2.Kids⟩,⟨true,lI s1.2.Map.Nodes⟩,⟨true,lI s1.2.Map.Edges⟩,⟨true,lI s1.2.Pattern.Graph.Nodes⟩,⟨true,lE s1.2.Pattern.Graph.Edges⟩,⟨true,lS s1.2.Pattern.Slots⟩,⟨false,eI s1.2.Pattern.Vars⟩,⟨true,lT s1.2.Pattern.Tests⟩]),(16,.tv (eI i1))]:=⟨⟩
  have:HB 1 16 14 0 fun (i1:Int) (s1:List Int × AA)=>[(12,.tv ((eL 1 HL) s1.1)),(13,.bx [⟨false,eI s1.2.Kind⟩,⟨true,C5 s1.2.Kids⟩,⟨false,lI s1.2.Map.Nodes⟩,⟨false,lI s1.2.Map.Edges⟩,⟨false,lI s1.2.Pattern.Graph.Nodes⟩,⟨false,lE s1.2.Pattern.Graph.Edges⟩,⟨false,lS s1.2.Pattern.Slots⟩,⟨false,eI s1.2.Pattern.Vars⟩,⟨false,lT s1.2.Pattern.Tests⟩]),(16,.tv (eI i1))]:=⟨⟩
  exact au
theorem qM:∀ n:Nat,(∀ (t:Types) (p:Pattern) (codes:List Int) (depth:Int),Ct prog (C8 n t p codes depth) 57 [AU t,A8 p,(eL 1 HL) codes,eI depth] (fun r=>.tp [AG r.1,(eL 1 HL) r.2])):=by
  intro n
  induction n with
  | zero=>exact (fun t p codes depth=>⟨fun _ h=>by cases h⟩)
  | succ n ih=>exact qN n ih
instance wT (t:Types) (p:Pattern) (codes:List Int) (depth:Int):Ct prog (Qb t p codes depth) 57 [AU t,A8 p,(eL 1 HL) codes,eI depth] (fun r=>.tp [AG r.1,(eL 1 HL) r.2]):=⟨fun r h=>by
  obtain ⟨N,hN⟩:=DE h
  exact ((qM N) t p codes depth).snd r (hN N (Nat.le_refl _))⟩
theorem qp:CK f27 (Rq [Af 3 0,Af 4 1,Bv 6 0 9 1 1 1 3 4 0 5] [2,3,4,6]<|Sq (Dr [7,8,9,10,11,12,13,14,15,16,17,18,19] [Ad 10 3 2,Ad 11 4 5,Aa 12 2,Aa 13 2,Ag 14 13,Gy 15 14 15,Dv 16 1 12 15,⟨some 17,.call 57 [.s 10,.s 11,.s 16,.c (.int .i64 2)],none⟩,Aa 9 17,An 18 9 0,An 19 9 1,Bv 7 0 9 1 1 1 3 4 0 5,Aj 9 7 18,Aw 8 19] [6,7])<|Rq [Ad 20 7 9,Aj 9 6 20] [6]<|.ret) [.cell 6 (some 9)]:=by decide +kernel
instance vw (t:Types) (p:Pattern) (codes:List Int):Ct prog (Mg t p codes) 27 [AU t,A8 p,(eL 1 HL) codes] (fun r=>.sh (AG r)):=Fi qp fun r h hw hR=>by
  unfold Mg at h
  exact au
theorem qy:CK f38 (Rq [Af 1 0,Ak 2] [1]<|Rq [Ac 3 1 0,Ab 4 3,Ag 5 4,Gz 6 5 45,Aa 7 6,Ay 8 1 1 7,Ba 9 8 7,By 10 9 7,Cm 11 10 90 7,Ap 12 7 11,Aa 2 12] [2]<|.ret) [.tmp 2]:=by decide +kernel
instance wE (g:Graph):Ct prog (Ji g) 38 [CC g] (fun r=>.sh (eB r)):=Fi qy fun r h hw hR=>by
  unfold Ji at h
  exact au
theorem qc:CK f14 (Rq [Af 1 0,Ak 2] [1]<|Rq [Ac 3 1 0,Ad 4 3 2,Ax 5 38 4,Aa 6 5,Ay 7 1 2 6,Ba 8 7 6,By 9 8 6,Cm 10 9 15 6,Ap 11 6 10,Aa 12 11,Ay 13 1 4 12,Ba 14 13 12,By 15 14 12,Cm 16 15 15 12,Ap 17 12 16,Aa 2 17] [2]<|.ret) [.tmp 2]:=by decide +kernel
instance vn (p:Pattern):Ct prog (L5 p) 14 [A8 p] (fun r=>.sh (eB r)):=Fi qc fun r h hw hR=>by
  unfold L5 at h
  exact au
theorem rX:CK f78 (Rq [Af 2 0,Ak 4] [1,2]<|Rq [Ac 5 2 0,Ab 6 5,Ag 7 6,Ac 8 2 1,Ab 9 8,Ag 10 9,Bn 11 7 10,Aa 12 1,⟨some 13,.bin (.i) .leq (.s 11) (.s 12),none⟩,Aa 4 13] [4]<|.ret) [.tmp 4]:=by decide +kernel
instance wn (m:Morphism) (n:Int):Ct prog (PU m n) 78 [BU m,eI n] (fun r=>.sh (eB r)):=Fi rX fun r h hw hR=>by
  unfold PU at h
  exact au
theorem qx:CK f37 (Rq [Af 2 0,Ae 4 0] [1,2]<|Rq [Aa 6 1,Bz 7 6 1,Aa 1 7] [1,2]<|Sq (Rq [Ac 8 2 4,Ad 9 8 5,Ax 10 14 9,Be 11 10,Aa 12 11,Aq 13 2 2 12,Ci 14 13 2 12,⟨some 15,.call 78 [.s 14,.c (.int .i64 140)],some (12,false)⟩,Br 16 15 12,Ar 17 12 16] [1,2,17]<|Co 17 (Rq [Bu 4 (-1)] [4]<|.ret)<|Sk [1,2])<|Sq (Rq [Ae 5 0] [1,2,5]<|Bl 0<|Lo [1,2,5]<|Sq (Rq [Aa 18 5,Ac 19 2 1,Ab 20 19,Ag 21 20,Am 22 18 21,Aa 23 22,As 24 1 23,Fw 25 24 0 23,Ap 26 23 25] [1,2,5,26]<|Co 26 (Sk [1,2,5])<|Ex 0 [1])<|Sq (Bl 1<|Re [Ac 29 2 1,Ab 30 29,Aa 31 5,Ai 32 30 31 9,Ad 33 32 9,Aa 34 1,Av 35 37 33 34,Aa 1 35] [1,2,5])<|Re [Aa 27 5,Al 28 27 1,Aa 5 28] [1,2,5])<|Rq [Aa 36 1,Aa 4 36] [4]<|.ret) [.tmp 4]:=by decide +kernel
theorem qE (n:Nat) (_ih_37:∀ (c:AA) (most:Int),Ct prog (FH n c most) 37 [AG c,eI most] (fun r=>.sh (eI r))) (c:AA) (most:Int):Ct prog (FH (n+1) c most) 37 [AG c,eI most] (fun r=>.sh (eI r)):=Fi qx fun r h hw hR=>by
  unfold FH at h
  have:HW 0 fun (s0:Int × Int)=>[(1,.tv (eI s0.1)),(5,.tv (eI s0.2))]:=⟨⟩
  exact au
theorem qC:∀ n:Nat,(∀ (c:AA) (most:Int),Ct prog (FH n c most) 37 [AG c,eI most] (fun r=>.sh (eI r))):=by
  intro n
  induction n with
  | zero=>exact (fun c most=>⟨fun _ h=>by cases h⟩)
  | succ n ih=>exact qE n ih
instance wD (c:AA) (most:Int):Ct prog (Qa c most) 37 [AG c,eI most] (fun r=>.sh (eI r)):=⟨fun r h=>by
  obtain ⟨N,hN⟩:=DE h
  exact ((qC N) c most).snd r (hN N (Nat.le_refl _))⟩
theorem qa:CK f13 (Rq [Af 1 0,Ak 2] [1]<|Rq [Ad 3 1 9,Es 4 37 3 40,Bq 5 4 0,Aa 2 5] [2]<|.ret) [.tmp 2]:=by decide +kernel
instance vl (c:AA):Ct prog (Na c) 13 [AG c] (fun r=>.sh (eB r)):=Fi qa fun r h hw hR=>by
  unfold Na at h
  exact au
theorem rH:CK f58 (Rq [Af 1 0,Ak 2] [1]<|Sq (Rq [Ac 4 1 0,Ad 5 4 2,Ax 6 38 5,Be 7 6,Aa 8 7,Aq 9 1 2 8,Ao 10 9 8,Bj 11 10 8,Cg 12 11 45 8,Ar 13 8 12] [1,13]<|Co 13 (Rq [Ak 2] [2]<|.ret)<|Sk [1])<|Sq (Rq [Ae 3 0] [1,3]<|Bl 0<|Lo [1,3]<|Sq (Rq [Aa 14 3,Ac 15 1 2,Ab 16 15,Ag 17 16,Am 18 14 17] [1,3,18]<|Co 18 (Sk [1,3])<|Ex 0 [])<|Sq (Bl 1<|Rq [Ac 21 1 2,Ab 22 21,Aa 23 3,Ai 24 22 23 1,Ab 25 24,Ag 26 25,Bk 27 26 12] [1,3,27]<|Co 27 (Rq [Ak 2] [2]<|.ret)<|Sk [1,3])<|Re [Aa 19 3,Al 20 19 1,Aa 3 20] [1,3])<|Rq [Bt 2] [2]<|.ret) [.tmp 2]:=by decide +kernel
instance wU (h_0:A0):Ct prog (L4 h_0) 58 [Ir h_0] (fun r=>.sh (eB r)):=Fi rH fun r h hw hR=>by
  unfold L4 at h
  have:HA 0 3 1 2 fun (i0:Int) (_:Unit)=>[(3,.tv (eI i0))]:=⟨⟩
  exact au
theorem qZ:CK f12 (Rq [Af 1 0,Ak 2] [1]<|Sq (Rq [Ac 9 1 0,Ab 10 9,Ag 11 10,Bk 12 11 20,Aa 13 12,Aq 14 1 1 13,Ao 15 14 13,Bj 16 15 13,Cg 17 16 30 13,Ar 18 13 17] [1,18]<|Co 18 (Rq [Ak 2] [2]<|.ret)<|Sk [1])<|Rq [Ae 3 0] [1,3]<|Sq (Rq [Ae 4 0] [1,3,4]<|Bl 0<|Lo [1,3,4]<|Sq (Rq [Aa 19 4,Ac 20 1 0,Ab 21 20,Ag 22 21,Am 23 19 22] [1,3,4,23]<|Co 23 (Sk [1,3,4])<|Ex 0 [1])<|Sq (Bl 1<|Rq [Aa 26 3,Ac 27 1 0,Ab 28 27,Aa 29 4,Ai 30 28 29 4,Ah 31 30 3,Ab 32 31,Ag 33 32,Bn 34 26 33,Aa 3 34] [1,3,4]<|Sq (Rq [Aa 35 3,Bk 36 35 30,Aa 37 36,Aq 38 1 0 37,Ao 39 38 37,Au 40 4 37,Ce 41 39 40 4 37,Bm 42 41 0 37,Ao 43 42 37,⟨some 44,.slen (.s 43),some (37,false)⟩,Cg 45 44 40 37,Ar 46 37 45] [1,3,4,46]<|Co 46 (Rq [Ak 2] [2]<|.ret)<|Sk [1,3,4])<|Rq [Ae 5 0] [1,3,4,5]<|Bl 2<|Lo [1,3,4,5]<|Sq (Rq [Aa 47 5,Ac 48 1 0,Ab 49 48,Aa 50 4,Ai 51 49 50 4,Ah 52 51 3,Ab 53 52,Ag 54 53,Am 55 47 54] [1,3,4,5,55]<|Co 55 (Sk [1,3,4,5])<|Ex 2 [1,3,4])<|Sq (Bl 3<|Rq [Ac 58 1 0,Ab 59 58,Aa 60 4,Ai 61 59 60 4,Ah 62 61 3,Ab 63 62,Aa 64 5,Ai 65 63 64 4,Ad 66 65 4,Dy 6 0 0 1,Aj 4 6 66] [1,3,4,5,6]<|Sq (Rq [Ac 67 6 0,Ab 68 67,De 69 68,Bk 70 69 40,Aa 71 70,Aq 72 6 3 71,Ao 73 72 71,Bj 74 73 71,Cg 75 74 25 71,Ar 76 71 75] [1,3,4,5,6,76]<|Co 76 (Rq [Ak 2] [2]<|.ret)<|Sk [1,3,4,5,6])<|Rq [Ae 7 0] [1,3,4,5,6,7]<|Bl 4<|Lo [1,3,4,5,6,7]<|Sq (Rq [Aa 77 7,Ac 78 6 3,Ab 79 78,Ag 80 79,Am 81 77 80] [1,3,4,5,6,7,81]<|Co 81 (Sk [1,3,4,5,6,7])<|Ex 4 [1,3,4,5])<|Sq (Bl 5<|Rq [Ac 84 6 3,Ab 85 84,Aa 86 7,Ai 87 85 86 1,Ab 88 87,De 89 88,Bk 90 89 40] [1,3,4,5,6,7,90]<|Co 90 (Rq [Ak 2] [2]<|.ret)<|Sk [1,3,4,5,6,7])<|Re [Aa 82 7,Al 83 82 1,Aa 7 83] [1,3,4,5,6,7])<|Re [Aa 56 5,Al 57 56 1,Aa 5 57] [1,3,4,5])<|Re [Aa 24 4,Al 25 24 1,Aa 4 25] [1,3,4])<|Sq (Rq [Ae 8 0] [1,8]<|Bl 6<|Lo [1,8]<|Sq (Rq [Aa 91 8,Ac 92 1 1,Ab 93 92,Ag 94 93,Am 95 91 94] [1,8,95]<|Co 95 (Sk [1,8])<|Ex 6 [])<|Sq (Bl 7<|Rq [Ac 98 1 1,Ab 99 98,Aa 100 8,Ai 101 99 100 7,Ah 102 101 0,Ab 103 102,De 104 103,Bk 105 104 40] [1,8,105]<|Co 105 (Rq [Ak 2] [2]<|.ret)<|Sk [1,8])<|Re [Aa 96 8,Al 97 96 1,Aa 8 97] [1,8])<|Rq [Bt 2] [2]<|.ret) [.tmp 2]:=by decide +kernel
instance vk (t:Types):Ct prog (NX t) 12 [AU t] (fun r=>.sh (eB r)):=Fi qZ fun r h hw hR=>by
  unfold NX at h
  have:HA 0 4 1 0 fun (i0:Int) (s0:Int)=>[(3,.tv (eI s0)),(4,.tv (eI i0))]:=⟨⟩
  have:HW 2 fun (s2:Int)=>[(5,.tv (eI s2))]:=⟨⟩
  have:HW 4 fun (s4:Int)=>[(7,.tv (eI s4))]:=⟨⟩
  have:HA 6 8 1 1 fun (i6:Int) (_:Unit)=>[(8,.tv (eI i6))]:=⟨⟩
  exact au
theorem rO:CK f65 (Rq [Af 3 0,Af 4 1,Af 5 2,Ae 6 0] [3,4,5]<|Sq (Rq [Ad 12 3 2,Ax 13 94 12,Aa 11 13,An 14 11 0,An 15 11 1,Aa 7 14,Aa 8 15] [3,4,5,8]<|Rq [Aa 16 8,Az 17 16 0] [3,4,5,8,17]<|Co 17 (Rq [Aa 18 8,Aa 6 18] [6]<|.ret)<|Sk [3,4,5])<|Sq (Rq [Ad 19 4 2,Ax 20 95 19,Aa 9 20] [3,4,5,9]<|Rq [Aa 21 9,Az 22 21 0] [3,4,5,9,22]<|Co 22 (Rq [Aa 23 9,Aa 6 23] [6]<|.ret)<|Sk [3,4,5])<|Sq (Rq [Ad 24 5 2,Ax 25 95 24,Aa 10 25] [3,4,5,10]<|Rq [Aa 26 10,Az 27 26 0] [3,4,5,10,27]<|Co 27 (Rq [Aa 28 10,Aa 6 28] [6]<|.ret)<|Sk [3,4,5])<|Sq (Rq [Ad 29 3 2,Ad 30 4 2,Av 31 96 29 30,Be 32 31,Aa 33 32,Ci 34 3 2 33,Ci 35 5 2 33,Db 36 96 34 35 33,Br 37 36 33,Ar 38 33 37] [38]<|Co 38 (Rq [Ae 6 13] [6]<|.ret)<|Sk [])<|Rq [Ae 6 0] [6]<|.ret) [.tmp 6]:=by decide +kernel
instance wb (t:Types) (p:Graph) (g:Graph):Ct prog (KP t p g) 65 [AU t,CC p,CC g] (fun r=>.sh (eI r)):=Fi rO fun r h hw hR=>by
  unfold KP at h
  exact au
theorem lH:CK f130 (Rq [Af 3 0,Af 4 1,Af 5 2,Ak 6] [3,4,5]<|Rq [Ad 7 3 2,Ax 8 12 7,Aa 9 8,Bh 10 4 2 9,Cc 11 38 10 9,Ap 12 9 11,Aa 13 12,Bh 14 5 2 13,Cc 15 38 14 13,Ap 16 13 15,Aa 17 16,Bh 18 3 2 17,Bh 19 4 2 17,Bh 20 5 2 17,Ei 21 65 18 19 20 17,Gh 22 21 0 17,As 23 22 17,Aq 24 4 0 23,Ao 25 24 23,Bj 26 25 23,Aq 27 4 1 23,Ao 28 27 23,Bj 29 28 23,Gw 30 26 29 23,⟨some 31,.bin (.i) .leq (.s 30) (.c (.int .i64 6)),some (23,false)⟩,Au 32 31 23,Ay 33 5 0 32,Ba 34 33 32,By 35 34 32,Cm 36 35 8 32,Cf 37 32 36 23,Au 38 37 23,Ay 39 5 1 38,Ba 40 39 38,By 41 40 38,Cm 42 41 12 38,Cf 43 38 42 23,Ef 44 23 43 17,Ap 45 17 44,Aa 6 45] [6]<|.ret) [.tmp 6]:=by decide +kernel
instance su (t:Types) (p:Graph) (g:Graph):Ct prog (Lc t p g) 130 [AU t,CC p,CC g] (fun r=>.sh (eB r)):=Fi lH fun r h hw hR=>by
  unfold Lc at h
  exact au
theorem rI:CK f59 (Rq [Af 3 0,Af 4 1,Af 5 2,Ak 6] [3,4,5]<|Rq [Ad 7 4 5,Ax 8 14 7,Aa 9 8,Bh 10 5 3 9,Cc 11 58 10 9,Ap 12 9 11,Aa 13 12,Bh 14 3 2 13,Ay 15 4 0 13,Bh 16 15 2 13,Ay 17 5 0 13,Bh 18 17 2 13,Ei 19 130 14 16 18 13,Ap 20 13 19,Aa 6 20] [6]<|.ret) [.tmp 6]:=by decide +kernel
instance wV (t:Types) (p:Pattern) (h_2:A0):Ct prog (NN t p h_2) 59 [AU t,A8 p,Ir h_2] (fun r=>.sh (eB r)):=Fi rI fun r h hw hR=>by
  unfold NN at h
  exact au
theorem rJ:CK f60 (Rq [Af 1 0,Ak 2] [1]<|Sq (Rq [Ae 3 0] [1,3]<|Bl 0<|Lo [1,3]<|Sq (Rq [Aa 4 3,Ac 5 1 1,Ab 6 5,Ag 7 6,Am 8 4 7] [1,3,8]<|Co 8 (Sk [1,3])<|Ex 0 [1])<|Sq (Bl 1<|Rq [Ac 11 1 1,Ab 12 11,Aa 13 3,Ai 14 12 13 9,Ad 15 14 9,Ax 16 60 15,Be 17 16] [1,3,17]<|Co 17 (Rq [Ak 2] [2]<|.ret)<|Sk [1,3])<|Re [Aa 9 3,Al 10 9 1,Aa 3 10] [1,3])<|Rq [Ac 18 1 4,Ah 19 18 0,Ah 20 19 0,Ab 21 20,Ag 22 21,Ac 23 1 4,Ah 24 23 0,Ah 25 24 1,Ab 26 25,Ag 27 26,Bn 28 22 27,Gz 29 28 6,Aa 2 29] [2]<|.ret) [.tmp 2]:=by decide +kernel
theorem qP (n:Nat) (_ih_60:∀ (c:AA),Ct prog (GU n c) 60 [AG c] (fun r=>.sh (eB r))) (c:AA):Ct prog (GU (n+1) c) 60 [AG c] (fun r=>.sh (eB r)):=Fi rJ fun r h hw hR=>by
  unfold GU at h
  have:HA 0 3 1 1 fun (i0:Int) (_:Unit)=>[(3,.tv (eI i0))]:=⟨⟩
  exact au
theorem qO:∀ n:Nat,(∀ (c:AA),Ct prog (GU n c) 60 [AG c] (fun r=>.sh (eB r))):=by
  intro n
  induction n with
  | zero=>exact (fun c=>⟨fun _ h=>by cases h⟩)
  | succ n ih=>exact qP n ih
instance wW (c:AA):Ct prog (OY c) 60 [AG c] (fun r=>.sh (eB r)):=⟨fun r h=>by
  obtain ⟨N,hN⟩:=DE h
  exact ((qO N) c).snd r (hN N (Nat.le_refl _))⟩
end Go.Sf.Sc
