/- Contracts of the functions. -/
import Derived.Test.YtmaobfbhdkafkaaGreatCon0
import Derived.Test.YtmaobfbhdkafkaaGreatTryzShelf
import Derived.Test.YtmaobfbhdkafkaaGreatRp
set_option maxRecDepth 100000
namespace Go.Sf.Sc
open Go Go.Sf Go.Proofs.Tryz
theorem kh (l:List Int) (m:Int) (r:List Int) (h:HU l m=some r):AV prog 235 [lI l,eI m] (.own (lI r)):=by
  unfold HU at h
  split at h
  · rename_i hl
    cases h
    obtain ⟨x,rfl⟩:=List.length_eq_one_iff.1 hl.1
    obtain ⟨k,rfl⟩:=Int.eq_ofNat_of_zero_le hl.2.1
    exact Tg x k (by have:=hl.2.2; omega)
  · cases h
instance qU (l:List Int) (m:Int):Ct Go.Proofs.Tryz.prog (HU l m) 235 [lI l,eI m] (fun r=>.own (lI r)):=⟨kh l m⟩
theorem fu:CK f181 (Rq [Bc 6 1] [0,1,2]<|Rq [⟨some 10,.lst 1 [.c (.int .i64 (-1))],none⟩,Aa 11 0,Fs 12 235 10 11,Bv 7 12] [1,2,7]<|Sq (Rq [Aa 13 1,Ag 14 13,Ae 15 0] [2,7,13,14,15]<|Bl 0<|Lo [2,7,13,14,15]<|Rq [Am 16 15 14] [2,7,13,14,15,16]<|Sq (Co 16 (Sk [2,7,13,14,15])<|Ex 0 [7])<|Sq (Bl 1<|Rq [Aa 17 15,Ai 18 13 15 1,Ab 19 18,Aa 8 17,Aa 9 19] [2,7,8,9,13,14,15]<|Re [Bk 20 7,Aa 21 9,Aa 22 2,Aa 23 8,Ai 24 22 23 1,Ab 25 24,Cg 26 20 21 1,Dj 26 25] [2,7,13,14,15])<|Re [An 27 15 1,Aa 15 27] [2,7,13,14,15])<|Rq [Dd 28 7,Be 6 28] [6]<|.ret) [.tmp 6]:=by decide +kernel
instance ob (n:Int) (AA:List Int) (images:List Int):Ct prog (GN n AA images) 181 [eI n,lI AA,lI images] (fun r=>.own (lI r)):=Fi fu fun r h hw hR=>by
  unfold GN at h
  have:HA 0 15 14 0 fun (i0:Int) (s0:List Int)=>[(7,.xo 1 (List.map eI s0)),(15,.tv (eI i0))]:=⟨⟩
  exact au
theorem gm:CK f236 (Rq [Af 2 0,Ae 4 0,Ae 5 0] [1,2]<|Sq (Rq [Ac 6 2 0,Ab 7 6,Aa 8 1,Ag 9 8,Cy 10 9 1,⟨some 11,.call 85 [.s 7,.c (.int .i64 (-1)),.s 10],none⟩,Bb 12 11] [1,2,12]<|Co 12 (Rq [Ae 4 0,Ae 5 6] [4,5]<|.ret)<|Sk [1,2])<|Rq [Ad 13 2 2,Aa 14 1,Ay 15 232 13 14,Aa 4 15,Ae 5 0] [4,5]<|.ret) [.tmp 4,.tmp 5]:=by decide +kernel
instance pP (x_0:Term) (A6:List Int):Ct prog (GM x_0 A6) 236 [Ma x_0,lI A6] (fun r=>.tp [eI r.1,eI r.2]):=Fi gm fun r h hw hR=>by
  unfold GM at h
  exact au
theorem fv:CK f182 (Rq [Af 4 0,Af 5 1,Af 6 2,Bc 8 1,Aj 9] [3,4,5,6]<|Sq (Dr [10,21,22,23,24,25,26,27,28] [Aa 21 3,⟨some 22,.callx 138 [.s 21],none⟩,Ac 23 5 3,Ab 24 23,Aa 25 3,Ag 26 25,Dn 27 24 26,⟨some 28,.appz 1 22 (.int .i64 0) (.s 27),none⟩,Bv 10 28] [3,4,5,6,10])<|Rq [Ac 29 5 3,Ab 30 29,Dw 31 1 30,Bv 11 31] [3,4,5,6,10,11]<|Sq (Rq [Aa 32 3,Ag 33 32,Ae 34 0] [4,5,6,10,11,33,34]<|Bl 0<|Lo [4,5,6,10,11,33,34]<|Rq [Am 35 34 33] [4,5,6,10,11,33,34,35]<|Sq (Co 35 (Sk [4,5,6,10,11,33,34])<|Ex 0 [4,5,6,10,11])<|Sq (Bl 1<|Rq [Aa 36 34,Aa 12 36] [4,5,6,10,11,12,33,34]<|Re [Bk 37 11,Aa 38 12,Cg 39 37 38 1,Ds 39] [4,5,6,10,11,33,34])<|Re [An 40 34 1,Aa 34 40] [4,5,6,10,11,33,34])<|Sq (Rq [Ac 41 5 2,Ab 42 41,Ag 43 42,Ae 44 0] [4,5,6,10,11,42,43,44]<|Bl 2<|Lo [4,5,6,10,11,42,43,44]<|Rq [Am 45 44 43] [4,5,6,10,11,42,43,44,45]<|Sq (Co 45 (Sk [4,5,6,10,11,42,43,44])<|Ex 2 [5,10])<|Sq (Bl 3<|Rq [Ai 46 42 44 4,Ad 47 46 4,Dq 14 0 0 0 0,Ao 4 14 47] [4,5,6,10,11,14,42,43,44]<|Sq (Dr [15,48,49,50,51,52,53,54,55,56,57,58,59,60,61,62] [Ac 48 4 2,Ah 49 48 2,Ab 50 49,Ac 51 6 0,Ab 52 51,Ac 53 14 0,Ab 54 53,Ai 55 52 54 1,Ab 56 55,Ai 57 50 56 1,Ab 58 57,Ac 59 14 1,Ab 60 59,Ai 61 58 60 1,Ab 62 61,Aa 15 62] [4,5,6,10,11,14,15,42,43,44])<|Sq (Rq [Ac 63 14 2,Ah 64 63 0,Ab 65 64,Aa 16 65] [4,5,6,10,11,14,15,16,42,43,44]<|Rq [Aa 66 16,Bj 67 66 0,Aa 68 67,Fa 69 11 68,As 70 16 68,Fb 71 69 70 1 68,Fc 72 71 68,Cu 73 72 68,Ar 74 68 73] [4,5,6,10,11,14,15,16,42,43,44,74]<|Co 74 (Re [Bk 75 10,Aa 76 16,Bk 77 11,Aa 78 16,Aa 79 15,Ac 80 14 2,Ah 81 80 1,Ab 82 81,Dn 83 79 82,Cg 84 75 76 1,Dj 84 83,Cg 85 77 78 1,Ds 85] [4,5,6,10,11,14,15,42,43,44])<|Sk [4,5,6,10,11,14,15,42,43,44])<|Rq [Ac 87 14 2,Ad 88 87 2,Bk 89 10,Df 90 236 88 89,Aa 86 90,Ak 91 86 0,Ak 92 86 1,Aa 17 91,Aa 18 92] [4,5,6,10,11,15,17,18,42,43,44]<|Rq [Aa 93 18,Av 94 93 0,Aa 95 94,Au 96 17 95,Au 97 15 95,Cj 98 96 97 95,Aq 99 95 98] [4,5,6,10,11,42,43,44,99]<|Co 99 (Rq [Bc 8 1,Aj 9] [8,9]<|.ret)<|Sk [4,5,6,10,11,42,43,44])<|Re [An 100 44 1,Aa 44 100] [4,5,6,10,11,42,43,44])<|Sq (Rq [Ac 101 5 4,Ab 102 101,Ag 103 102,Ae 104 0] [10,102,103,104]<|Bl 4<|Lo [10,102,103,104]<|Rq [Am 105 104 103] [10,102,103,104,105]<|Sq (Co 105 (Sk [10,102,103,104])<|Ex 4 [10])<|Sq (Bl 5<|Rq [Ai 106 102 104 5,Ad 107 106 5,Ey 20 0 0 0 0 0,Ao 5 20 107] [10,20,102,103,104]<|Rq [Ad 108 20 5,Bk 109 10,Df 110 233 108 109,Bb 111 110] [10,102,103,104,111]<|Co 111 (Rq [Bc 8 1,Aj 9] [8,9]<|.ret)<|Sk [10,102,103,104])<|Re [An 112 104 1,Aa 104 112] [10,102,103,104])<|Rq [Dd 113 10,Be 8 113,Bt 9] [8,9]<|.ret) [.tmp 8,.tmp 9]:=by decide +kernel
instance oc (s_0:AS) (q:Pattern) (m:Morphism) (given:List Int):Ct prog (EG s_0 q m given) 182 [BX s_0,BE q,BO m,lI given] (fun r=>.tp [lI r.1,eB r.2]):=Fi fv fun r h hw hR=>by
  unfold EG at h
  have:HA 0 34 33 0 fun (i0:Int) (s0:List Bool)=>[(11,.xo 1 (List.map eB s0)),(34,.tv (eI i0))]:=⟨⟩
  have:HA 2 44 43 0 fun (i2:Int) (s2:List Int × List Bool)=>[(10,.xo 1 (List.map eI s2.1)),(11,.xo 1 (List.map eB s2.2)),(44,.tv (eI i2))]:=⟨⟩
  have:HA 4 104 103 0 fun (i4:Int) (_:Unit)=>[(104,.tv (eI i4))]:=⟨⟩
  exact au
theorem ej:CK f115 (Rq [Af 3 0,Af 4 1,Af 5 2,Bc 6 3,Ae 7 0] [3,4,5]<|Rq [Ac 17 4 4,Ah 18 17 0,Ad 19 18 2,De 8 1 3,Ao 2 8 19] [3,4,5,8]<|Sq (Dr [9,20,21,22,23,24,25,26,27,28,29,30,31,32,33,34,35,36,37,38,39,40] [Ac 20 8 0,Ab 21 20,Ag 22 21,Ac 23 4 2,Ah 24 23 0,Ab 25 24,Ac 26 5 0,Ah 27 26 0,Ab 28 27,Bg 29 181 22 25 28,Ac 30 8 1,Ab 31 30,Ag 32 31,Ac 33 4 2,Ah 34 33 1,Ab 35 34,Ac 36 5 0,Ah 37 36 1,Ab 38 37,Bg 39 181 32 35 38,Cz 40 1 1 0 1 29 1 1 39,De 9 1 1,Ao 2 9 40] [3,4,5,8,9])<|Rq [Ac 42 3 0,Ad 43 42 2,Ad 44 8 2,Ac 45 3 2,Ah 46 45 0,Ad 47 46 2,Ad 48 9 2,Ac 49 3 5,Ab 50 49,Ck 51 29 43 44 47 48 50,Aa 41 51,Ak 52 41 0,Ak 53 41 1,Be 10 52,Aa 11 53] [3,4,5,10,11]<|Sq (Rq [Aa 54 11,Av 55 54 0] [3,4,5,10,11,55]<|Co 55 (Rq [Aa 56 11,Bc 6 3,Aa 7 56] [6,7]<|.ret)<|Sk [3,4,5,10])<|Rq [Bc 12 3] [3,4,5,10,12]<|Sq (Rq [Aa 57 10,Ag 58 57,Ae 59 0] [3,4,5,12,57,58,59]<|Bl 0<|Lo [3,4,5,12,57,58,59]<|Rq [Am 60 59 58] [3,4,5,12,57,58,59,60]<|Sq (Co 60 (Sk [3,4,5,12,57,58,59])<|Ex 0 [12])<|Sq (Bl 1<|Rq [Ai 61 57 59 2,Ad 62 61 2,De 14 1 1,Ao 2 14 62] [3,4,5,12,14,57,58,59]<|Rq [Ad 64 3 6,Ac 65 4 4,Ad 66 65 5,Ad 67 14 2,Ac 68 5 2,Ab 69 68,Cw 70 182 64 66 67 69,Aa 63 70,Ak 71 63 0,Ak 72 63 1,Be 15 71,Aa 16 72] [3,4,5,12,14,15,16,57,58,59]<|Rq [Aa 73 16] [3,4,5,12,14,15,57,58,59,73]<|Co 73 (Re [Be 74 12,Ad 75 14 2,Aa 76 15,Ej 77 1 1 1 0 2 75 2 1 76,Br 78 3 77,Bz 79 3 74 78,Be 12 79] [3,4,5,12,57,58,59])<|Sk [3,4,5,12,57,58,59])<|Re [An 80 59 1,Aa 59 80] [3,4,5,12,57,58,59])<|Rq [Aa 81 12,Be 6 81,Ae 7 0] [6,7]<|.ret) [.tmp 6,.tmp 7]:=by decide +kernel
instance na (s_0:AS) (c:AB) (m:AH):Ct prog (BW s_0 c m) 115 [BX s_0,AJ c,BB m] (fun r=>.tp [(eL 3 BB) r.1,eI r.2]):=Fi ej fun r h hw hR=>by
  unfold BW at h
  have:HA 0 59 58 0 fun (i0:Int) (s0:List AH)=>[(12,.ow ((eL 3 BB) s0)),(59,.tv (eI i0))]:=⟨⟩
  exact au
theorem l5:CK f48 (Rq [Af 3 0,Af 4 1,Af 5 2,Ce 6 0 1 1 1 5,Ae 7 0] [3,4,5,6]<|Sq (Rq [Ac 19 4 0,Ab 20 19] [3,4,5,6,20]<|Bl 0<|Rq [Az 22 20 2,Aa 21 22] [3,4,5,6,20,21]<|Co 21 (Sq (Dr [8,9,23,24,25,26,27,28,29,30,31,32] [Ad 24 3 6,Ac 25 4 1,Ab 26 25,Da 27 26 0 9,Ad 28 27 9,Ad 29 5 3,Bg 30 48 24 28 29,Aa 23 30,Ak 31 23 0,Ak 32 23 1,Ce 8 0 1 1 1 5,Ao 5 8 31,Aa 9 32] [6,9])<|Sq (Rq [Aa 33 9] [6,9,33]<|Bl 1<|Rq [Az 35 33 0,Aa 34 35] [6,9,33,34]<|Co 34 (Rq [Cc 36 0 1 1 1 5,Ao 5 6 36,Ae 7 10] [6,7]<|.ret)<|Rq [Az 38 33 10,Aa 37 38] [6,9,37]<|Co 37 (Rq [Cc 39 0 1 1 1 5,Ao 5 6 39,Ae 7 0] [6,7]<|.ret)<|Sk [6,9])<|Rq [Cc 40 0 1 1 1 5,Aa 41 9,Ao 5 6 40,Aa 7 41] [6,7]<|.ret)<|Rq [Az 43 20 3,Aa 42 43] [3,4,5,6,20,42]<|Co 42 (Rq [Ce 10 0 1 1 1 5] [3,4,5,6,10]<|Sq (Rq [Ac 44 4 1,Ab 45 44,Ag 46 45,Ae 47 0] [3,5,6,10,45,46,47]<|Bl 2<|Lo [3,5,6,10,45,46,47]<|Rq [Am 48 47 46] [3,5,6,10,45,46,47,48]<|Sq (Co 48 (Sk [3,5,6,10,45,46,47])<|Ex 2 [6,10])<|Sq (Bl 3<|Rq [Ai 49 45 47 9,Ad 50 49 9,Dy 12 0 9 1 1 1 3 4 0 5,Ao 9 12 50] [3,5,6,10,12,45,46,47]<|Rq [Ad 52 3 6,Ad 53 12 9,Ad 54 5 3,Bg 55 48 52 53 54,Aa 51 55,Ak 56 51 0,Ak 57 51 1,Ce 13 0 1 1 1 5,Ao 5 13 56,Aa 14 57] [3,5,6,10,13,14,45,46,47]<|Sq (Rq [Aa 58 14,Av 59 58 0] [3,5,6,10,13,14,45,46,47,59]<|Co 59 (Rq [Cc 60 0 1 1 1 5,Aa 61 14,Ao 5 6 60,Aa 7 61] [6,7]<|.ret)<|Sk [3,5,6,10,13,45,46,47])<|Re [Ac 62 10 4,Ff 63 62,Ad 64 13 5,Br 65 5 64,Bz 66 5 63 65,Ac 67 10 4,Ei 1 67 66] [3,5,6,10,45,46,47])<|Re [An 68 47 1,Aa 47 68] [3,5,6,10,45,46,47])<|Rq [Ad 69 10 5,Ao 5 6 69,Ae 7 0] [6,7]<|.ret)<|Rq [Az 71 20 4,Aa 70 71] [3,4,5,6,20,70]<|Co 70 (Sq (Rq [Ac 72 4 1,Ab 73 72,Ag 74 73,Ae 75 0] [3,5,6,73,74,75]<|Bl 4<|Lo [3,5,6,73,74,75]<|Rq [Am 76 75 74] [3,5,6,73,74,75,76]<|Sq (Co 76 (Sk [3,5,6,73,74,75])<|Ex 4 [6])<|Sq (Bl 5<|Rq [Aa 77 75,Ai 78 73 75 9,Ad 79 78 9,Dy 16 0 9 1 1 1 3 4 0 5,Aa 15 77,Ao 9 16 79] [3,5,6,15,16,73,74,75]<|Rq [Ad 81 3 6,Ad 82 16 9,Ad 83 5 3,Bg 84 48 81 82 83,Aa 80 84,Ak 85 80 0,Ak 86 80 1,Ce 17 0 1 1 1 5,Ao 5 17 85,Aa 18 86] [3,5,6,15,17,18,73,74,75]<|Sq (Rq [Aa 87 18,Az 88 87 0] [3,5,6,15,17,18,73,74,75,88]<|Co 88 (Rq [Aa 89 15,Ad 90 17 5,Br 91 5 90,Fg 92 0 1 1 1 5 0 1 89 4 1 91,Ao 5 6 92,Ae 7 0] [6,7]<|.ret)<|Sk [3,5,6,18,73,74,75])<|Rq [Aa 93 18,Av 94 93 10] [3,5,6,18,73,74,75,94]<|Co 94 (Rq [Cc 95 0 1 1 1 5,Aa 96 18,Ao 5 6 95,Aa 7 96] [6,7]<|.ret)<|Sk [3,5,6,73,74,75])<|Re [An 97 75 1,Aa 75 97] [3,5,6,73,74,75])<|Rq [Cc 98 0 1 1 1 5,Ao 5 6 98,Ae 7 10] [6,7]<|.ret)<|Rq [Az 100 20 5,Aa 99 100] [3,4,5,6,99]<|Co 99 (Rq [Ad 101 3 6,Ad 102 4 9,Ad 103 5 3,Bg 104 111 101 102 103,Ak 105 104 0,Ak 106 104 1,Ao 5 6 105,Aa 7 106] [6,7]<|.ret)<|Sk [6])<|Rq [Cc 107 0 1 1 1 5,Ao 5 6 107,Ae 7 0] [6,7]<|.ret) [.cell 6 (some 5),.tmp 7]:=by decide +kernel
theorem ef:CK f111 (Rq [Af 3 0,Af 4 1,Af 5 2,Ce 6 0 1 1 1 5,Ae 7 0] [3,4,5,6]<|Rq [Ad 15 3 6,Ad 16 4 9,Ad 17 5 3,Bg 18 115 15 16 17,Aa 14 18,Ak 19 14 0,Ak 20 14 1,Be 8 19,Aa 9 20] [3,4,6,8,9]<|Sq (Rq [Aa 21 9,Av 22 21 0] [3,4,6,8,9,22]<|Co 22 (Rq [Cc 23 0 1 1 1 5,Aa 24 9,Ao 5 6 23,Aa 7 24] [6,7]<|.ret)<|Sk [3,4,6,8])<|Sq (Rq [Aa 25 8,Ag 26 25,Ae 27 0] [3,4,6,25,26,27]<|Bl 0<|Lo [3,4,6,25,26,27]<|Rq [Am 28 27 26] [3,4,6,25,26,27,28]<|Sq (Co 28 (Sk [3,4,6,25,26,27])<|Ex 0 [6])<|Sq (Bl 1<|Rq [Ai 29 25 27 3,Ad 30 29 3,Fh 11 1 1 1,Ao 3 11 30] [3,4,6,11,25,26,27]<|Sq (Dr [12,13,31,32,33,34,35,36,37,38,39,40] [Ad 32 3 6,Ac 33 4 1,Ab 34 33,Da 35 34 0 9,Ad 36 35 9,Ad 37 11 3,Bg 38 48 32 36 37,Aa 31 38,Ak 39 31 0,Ak 40 31 1,Ce 12 0 1 1 1 5,Ao 5 12 39,Aa 13 40] [3,4,6,11,12,13,25,26,27])<|Sq (Rq [Aa 41 13,Az 42 41 0] [3,4,6,11,12,13,25,26,27,42]<|Co 42 (Rq [Ad 43 11 3,Ad 44 12 5,Br 45 5 44,Fg 46 0 1 1 1 5 1 3 43 4 1 45,Ao 5 6 46,Ae 7 0] [6,7]<|.ret)<|Sk [3,4,6,13,25,26,27])<|Rq [Aa 47 13,Av 48 47 10] [3,4,6,13,25,26,27,48]<|Co 48 (Rq [Cc 49 0 1 1 1 5,Aa 50 13,Ao 5 6 49,Aa 7 50] [6,7]<|.ret)<|Sk [3,4,6,25,26,27])<|Re [An 51 27 1,Aa 27 51] [3,4,6,25,26,27])<|Rq [Cc 52 0 1 1 1 5,Ao 5 6 52,Ae 7 10] [6,7]<|.ret) [.cell 6 (some 5),.tmp 7]:=by decide +kernel
theorem k6 (n:Nat) (_ih_48:∀ (s_0:AS) (c:AB) (m:AH),Ct prog (AZ n s_0 c m) 48 [BX s_0,AJ c,BB m] (fun r=>.tp [BZ r.1,eI r.2])) (_ih_111:∀ (s_0:AS) (c:AB) (m:AH),Ct prog (BJ n s_0 c m) 111 [BX s_0,AJ c,BB m] (fun r=>.tp [BZ r.1,eI r.2])) (s_0:AS) (c:AB) (m:AH):Ct prog (AZ (n+1) s_0 c m) 48 [BX s_0,AJ c,BB m] (fun r=>.tp [BZ r.1,eI r.2]):=Fi l5 fun r h hw hR=>by
  unfold AZ at h
  have:HA 2 47 46 0 fun (i2:Int) (s2:AM × AM)=>[(6,.bx [⟨false,eI s2.1.Choice⟩,⟨true,lI s2.1.Match.Morphism.Nodes⟩,⟨true,lI s2.1.Match.Morphism.Edges⟩,⟨true,lI s2.1.Match.Vars⟩,⟨true,GP s2.1.Kids⟩]),(10,.bx [⟨false,eI s2.2.Choice⟩,⟨true,lI s2.2.Match.Morphism.Nodes⟩,⟨true,lI s2.2.Match.Morphism.Edges⟩,⟨true,lI s2.2.Match.Vars⟩,⟨true,GP s2.2.Kids⟩]),(47,.tv (eI i2))]:=⟨⟩
  have:HA 4 75 74 0 fun (i4:Int) (s4:AM)=>[(6,.bx [⟨false,eI s4.Choice⟩,⟨true,lI s4.Match.Morphism.Nodes⟩,⟨true,lI s4.Match.Morphism.Edges⟩,⟨true,lI s4.Match.Vars⟩,⟨true,GP s4.Kids⟩]),(75,.tv (eI i4))]:=⟨⟩
  exact au
theorem d8 (n:Nat) (_ih_48:∀ (s_0:AS) (c:AB) (m:AH),Ct prog (AZ n s_0 c m) 48 [BX s_0,AJ c,BB m] (fun r=>.tp [BZ r.1,eI r.2])) (_ih_111:∀ (s_0:AS) (c:AB) (m:AH),Ct prog (BJ n s_0 c m) 111 [BX s_0,AJ c,BB m] (fun r=>.tp [BZ r.1,eI r.2])) (s_0:AS) (c:AB) (m:AH):Ct prog (BJ (n+1) s_0 c m) 111 [BX s_0,AJ c,BB m] (fun r=>.tp [BZ r.1,eI r.2]):=Fi ef fun r h hw hR=>by
  unfold BJ at h
  have:HA 0 27 26 0 fun (i0:Int) (s0:AM)=>[(6,.bx [⟨false,eI s0.Choice⟩,⟨true,lI s0.Match.Morphism.Nodes⟩,⟨true,lI s0.Match.Morphism.Edges⟩,⟨true,lI s0.Match.Vars⟩,⟨true,GP s0.Kids⟩]),(27,.tv (eI i0))]:=⟨⟩
  exact au
theorem bg:∀ n:Nat,(∀ (s_0:AS) (c:AB) (m:AH),Ct prog (AZ n s_0 c m) 48 [BX s_0,AJ c,BB m] (fun r=>.tp [BZ r.1,eI r.2]))∧(∀ (s_0:AS) (c:AB) (m:AH),Ct prog (BJ n s_0 c m) 111 [BX s_0,AJ c,BB m] (fun r=>.tp [BZ r.1,eI r.2])):=by
  intro n
  induction n with
  | zero=>exact ⟨(fun s_0 c m=>⟨fun _ h=>by cases h⟩),(fun s_0 c m=>⟨fun _ h=>by cases h⟩)⟩
  | succ n ih=>exact ⟨k6 n ih.1 ih.2,d8 n ih.1 ih.2⟩
instance q9 (s_0:AS) (c:AB) (m:AH):Ct prog (DQ s_0 c m) 48 [BX s_0,AJ c,BB m] (fun r=>.tp [BZ r.1,eI r.2]):=⟨fun r h=>by
  obtain ⟨N,hN⟩:=DB h
  exact ((bg N).1 s_0 c m).snd r (hN N (Nat.le_refl _))⟩
instance nW (s_0:AS) (c:AB) (m:AH):Ct prog (MM s_0 c m) 111 [BX s_0,AJ c,BB m] (fun r=>.tp [BZ r.1,eI r.2]):=⟨fun r h=>by
  obtain ⟨N,hN⟩:=DB h
  exact ((bg N).2 s_0 c m).snd r (hN N (Nat.le_refl _))⟩
theorem lb:CK f20 (Rq [Af 6 0,Af 7 1,Af 8 2,Af 9 3,Af 10 4,Ce 12 0 1 1 1 5,Ae 13 0] [5,6,7,8,9,10,12]<|Sq (Rq [Ad 15 6 2,Ad 16 7 5,Ad 17 8 9,Ad 18 9 3,Ad 19 10 3,Aa 20 5,Ea 21 47 15 16 17 18 19 20,Aa 14 21] [5,6,8,9,10,12,14]<|Rq [Aa 22 14,Av 23 22 0] [5,6,8,9,10,12,14,23]<|Co 23 (Rq [Cc 24 0 1 1 1 5,Aa 25 14,Ao 5 12 24,Aa 13 25] [12,13]<|.ret)<|Sk [5,6,8,9,10,12])<|Rq [Ad 26 6 2,Ad 27 9 3,Aa 28 5,⟨some 29,.bld [.list 4 [],.list 7 [],.list 1 [],.list 3 [],.list 1 [],.bool false] [(0,2,.s 26),(2,3,.s 27),(5,1,.s 28)],none⟩,Ad 30 8 9,Ad 31 10 3,Bg 32 48 29 30 31,Ak 33 32 0,Ak 34 32 1,Ao 5 12 33,Aa 13 34] [12,13]<|.ret) [.cell 12 (some 5),.tmp 13]:=by decide +kernel
instance qk (t:AD) (p:Pattern) (c:AB) (h_3:AY) (m:AH) (injective:Bool):Ct prog (EX t p c h_3 m injective) 20 [AP t,BE p,AJ c,D2 h_3,BB m,eB injective] (fun r=>.tp [BZ r.1,eI r.2]):=Fi lb fun r h hw hR=>by
  unfold EX at h
  exact au
theorem lZ:CK f18 (Rq [Af 6 0,Af 7 1,Af 8 2,Af 9 3,Af 10 4,Aj 12,Ae 13 0] [5,6,7,8,9,10]<|Rq [Ad 17 6 2,Ad 18 7 5,Ad 19 8 9,Ad 20 9 3,Ad 21 10 3,Aa 22 5,Ea 23 20 17 18 19 20 21 22,Aa 16 23,Ak 24 16 0,Ak 25 16 1,Ce 14 0 1 1 1 5,Ao 5 14 24,Aa 15 25] [15]<|Sq (Rq [Aa 26 15,Az 27 26 10] [15,27]<|Co 27 (Rq [Aj 12,Ae 13 0] [12,13]<|.ret)<|Sk [15])<|Rq [Aa 28 15,Az 29 28 0,Aa 30 15,Aa 12 29,Aa 13 30] [12,13]<|.ret) [.tmp 12,.tmp 13]:=by decide +kernel
instance qj (t:AD) (p:Pattern) (c:AB) (h_3:AY) (m:AH) (injective:Bool):Ct prog (E9 t p c h_3 m injective) 18 [AP t,BE p,AJ c,D2 h_3,BB m,eB injective] (fun r=>.tp [eB r.1,eI r.2]):=Fi lZ fun r h hw hR=>by
  unfold E9 at h
  exact au
theorem ei:CK f114 (Rq [Af 1 0,Aj 2] [1]<|Rq [Ac 3 1 0,Ah 4 3 0,Ab 5 4,Ag 6 5,Ac 7 1 0,Ah 8 7 1,Ab 9 8,Ag 10 9,Bo 11 6 10,Ac 12 1 2,Ab 13 12,Ag 14 13,Bo 15 11 14,Az 16 15 0,Aa 2 16] [2]<|.ret) [.tmp 2]:=by decide +kernel
instance nZ (m:AH):Ct prog (D7 m) 114 [BB m] (fun r=>.sh (eB r)):=Fi ei fun r h hw hR=>by
  unfold D7 at h
  exact au
theorem fw:CK f183 (Rq [Ae 4 0] [0,1]<|Sq (Rq [Aa 6 0,Ag 7 6,Ae 8 0] [0,1,7,8]<|Bl 0<|Lo [0,1,7,8]<|Rq [Am 9 8 7] [0,1,7,8,9]<|Sq (Co 9 (Sk [0,1,7,8])<|Ex 0 [])<|Sq (Bl 1<|Rq [Aa 10 8,Aa 5 10] [0,1,5,7,8]<|Rq [Aa 11 1,Aa 12 0,Aa 13 5,Ai 14 12 13 3,Ad 15 14 3,Cq 16 11 15] [0,1,5,7,8,16]<|Co 16 (Rq [Aa 17 5,Aa 4 17] [4]<|.ret)<|Sk [0,1,7,8])<|Re [An 18 8 1,Aa 8 18] [0,1,7,8])<|Rq [Bs 4 (-1)] [4]<|.ret) [.tmp 4]:=by decide +kernel
instance od (s_0:List AH) (f:AH->Option Bool) (f_f:FuncId) (k_f:List TV) [h_f:∀ (y0:AH),Ct prog (f y0) f_f (BB y0::k_f) (fun r=>.sh (eB r))]:Ct prog (D5 s_0 f) 183 [(eL 3 BB) s_0,.clo f_f k_f] (fun r=>.sh (eI r)):=Fi fw fun r h hw hR=>by
  unfold D5 at h
  have:HA 0 8 7 0 fun (i0:Int) (_:Unit)=>[(8,.tv (eI i0))]:=⟨⟩
  exact au
theorem en:CK f116 (Rq [Aj 4] [0,1]<|Rq [Aa 5 0,Aa 6 1,Ay 7 183 5 6,Bj 8 7 0,Aa 4 8] [4]<|.ret) [.tmp 4]:=by decide +kernel
instance nc (s_0:List AH) (f:AH->Option Bool) (f_f:FuncId) (k_f:List TV) [h_f:∀ (y0:AH),Ct prog (f y0) f_f (BB y0::k_f) (fun r=>.sh (eB r))]:Ct prog (C4 s_0 f) 116 [(eL 3 BB) s_0,.clo f_f k_f] (fun r=>.sh (eB r)):=Fi en fun r h hw hR=>by
  unfold C4 at h
  exact au
theorem mK:CK f72 (Rq [Af 2 0,Af 3 1,Aj 4] [2,3]<|Rq [Ac 5 2 0,Ab 6 5,Ac 7 3 0,Ab 8 7,Ay 9 73 6 8,Aa 10 9,Aw 11 2 1 10,Ax 12 11 10,Aw 13 3 1 10,Ax 14 13 10,Dc 15 73 12 14 10,Ar 16 10 15,Aa 4 16] [4]<|.ret) [.tmp 4]:=by decide +kernel
instance rO (a:Morphism) (b:Morphism):Ct prog (JK a b) 72 [BO a,BO b] (fun r=>.sh (eB r)):=Fi mK fun r h hw hR=>by
  unfold JK at h
  exact au
theorem et:CK f118 (Rq [Af 2 0,Af 3 1,Aj 4] [2,3]<|Rq [Ac 5 2 0,Ad 6 5 2,Ac 7 3 0,Ad 8 7 2,Ay 9 72 6 8,Aa 10 9,Aw 11 2 2 10,Ax 12 11 10,Aw 13 3 2 10,Ax 14 13 10,Dc 15 73 12 14 10,Ar 16 10 15,Aa 4 16] [4]<|.ret) [.tmp 4]:=by decide +kernel
instance nf (a:AH) (b:AH):Ct prog (FA a b) 118 [BB a,BB b] (fun r=>.sh (eB r)):=Fi et fun r h hw hR=>by
  unfold FA at h
  exact au
theorem eo:CK f117 (Rq [Af 2 0,Aj 3] [1,2]<|Rq [Ad 4 2 3,Ac 5 1 1,Ad 6 5 3,Ay 7 118 4 6,Aa 3 7] [3]<|.ret) [.tmp 3]:=by decide +kernel
instance nd (x_0:AH) (c0:AM):Ct prog (HV x_0 c0) 117 [BB x_0,.pt (BZ c0).cells] (fun r=>.sh (eB r)):=Fi eo fun r h hw hR=>by
  unfold HV at h
  exact au
theorem l8:CK f51 (Rq [Af 4 0,Af 5 1,Af 6 2,Af 7 3,Aj 8] [4,5,6,7]<|Rq [Ac 16 7 4,Ab 17 16,Ag 18 17,Aa 9 18] [4,5,6,7,9]<|Sq (Rq [Ac 19 5 0,Ab 20 19] [4,5,6,7,9,20]<|Bl 0<|Rq [Az 22 20 1,Aa 21 22] [4,5,6,7,9,20,21]<|Co 21 (Rq [Aa 23 9,Az 24 23 0,Aa 25 24,Aw 26 7 0 25,Ax 27 26 25,Cs 28 27 0 25,Ar 29 25 28,Aa 30 29,Aw 31 7 1 30,Bf 32 31 3 30,Bw 33 114 32 30,Ar 34 30 33,Aa 8 34] [8]<|.ret)<|Rq [Az 36 20 2,Aa 35 36] [4,5,6,7,9,20,35]<|Co 35 (Sq (Dr [10,11,37,38,39,40,41,42,43,44,45,46] [Ad 38 4 6,Ac 39 5 1,Ab 40 39,Da 41 40 0 9,Ad 42 41 9,Ad 43 6 3,Bg 44 48 38 42 43,Aa 37 44,Ak 45 37 0,Ak 46 37 1,Ce 10 0 1 1 1 5,Ao 5 10 45,Aa 11 46] [7,9,11])<|Rq [Aa 47 9,Az 48 47 0,Aa 49 48,Aw 50 7 0 49,Ax 51 50 49,Cs 52 51 0 49,Ar 53 49 52,Aa 54 53,Aw 55 7 1 54,Bf 56 55 3 54,Bw 57 114 56 54,Ar 58 54 57,Aa 59 58,As 60 11 59,Cs 61 60 10 59,Ar 62 59 61,Aa 8 62] [8]<|.ret)<|Rq [Az 64 20 3,Aa 63 64] [4,5,6,7,9,20,63]<|Co 63 (Sq (Rq [Aa 65 9,Ac 66 5 1,Ab 67 66,Ag 68 67,Bi 69 65 68,Aa 70 69,Ap 71 7 0 70,Al 72 71 70,Fj 73 72 0 70,Aq 74 70 73,Aa 75 74,Ap 76 7 1 75,Cf 77 76 3 75,Db 78 114 77 75,Bp 79 78 75,Aq 80 75 79] [4,5,6,7,80]<|Co 80 (Rq [Aj 8] [8]<|.ret)<|Sk [4,5,6,7])<|Sq (Rq [Ac 81 5 1,Ab 82 81,Ag 83 82,Ae 84 0] [4,6,7,82,83,84]<|Bl 1<|Lo [4,6,7,82,83,84]<|Rq [Am 85 84 83] [4,6,7,82,83,84,85]<|Sq (Co 85 (Sk [4,6,7,82,83,84])<|Ex 1 [])<|Sq (Bl 2<|Rq [Aa 86 84,Ai 87 82 84 9,Ad 88 87 9,Dy 13 0 9 1 1 1 3 4 0 5,Aa 12 86,Ao 9 13 88] [4,6,7,12,13,82,83,84]<|Sq (Dr [89,90,91,92,93,94,95,96,97,98] [Ad 89 4 6,Ad 90 13 9,Ad 91 6 3,Ac 92 7 4,Ab 93 92,Aa 94 12,Ai 95 93 94 5,Ad 96 95 5,Cw 97 51 89 90 91 96,Bb 98 97] [4,6,7,82,83,84,98])<|Co 98 (Rq [Aj 8] [8]<|.ret)<|Sk [4,6,7,82,83,84])<|Re [An 99 84 1,Aa 84 99] [4,6,7,82,83,84])<|Rq [Bt 8] [8]<|.ret)<|Rq [Az 101 20 4,Aa 100 101] [4,5,6,7,9,100]<|Co 100 (Sq (Dr [8,102,103,104,105,106,107,108,109,110,111,112,113,114,115,116,117,118,119,120,121,122,123,124,125,126,127,128,129,130,131,132,133,134,135,136] [Aa 102 9,Az 103 102 1,Aa 104 103,Aw 105 7 0 104,Ax 106 105 104,Ek 107 106 0 104,Ar 108 104 107,Aa 109 108,Aw 110 7 0 109,Ax 111 110 109,Aw 112 5 1 109,Ax 113 112 109,Cb 114 113 109,Du 115 111 114 109,Ar 116 109 115,Aa 117 116,Aw 118 7 1 117,Bf 119 118 3 117,Bw 120 114 119 117,Ar 121 117 120,Aa 122 121,Bf 123 4 6 122,Aw 124 5 1 122,Ax 125 124 122,Aw 126 7 0 122,Ax 127 126 122,Cv 128 125 127 9 122,Bf 129 128 9 122,Bf 130 6 3 122,Aw 131 7 4 122,Ax 132 131 122,Gb 133 132 0 5 122,Bf 134 133 5 122,Gc 135 51 123 129 130 134 122,Ar 136 122 135,Aa 8 136] [8])<|.ret)<|Sk [4,5,6,7,9])<|Sq (Rq [Aa 137 9,Av 138 137 1,Aa 139 138,Ap 140 7 0 139,Al 141 140 139,Fj 142 141 0 139,Aq 143 139 142] [4,5,6,7,143]<|Co 143 (Rq [Aj 8] [8]<|.ret)<|Sk [4,5,6,7])<|Rq [Ad 145 4 6,Ad 146 5 9,Ad 147 6 3,Bg 148 115 145 146 147,Aa 144 148,Ak 149 144 0,Ak 150 144 1,Be 14 149,Aa 15 150] [4,5,7,14,15]<|Sq (Rq [Aa 151 15,Av 152 151 0,Aa 153 152,Au 154 14 153,⟨some 155,.clo 117 [.s 7],some (153,false)⟩,Dh 156 116 154 155 153,Bp 157 156 153,Aq 158 153 157] [4,5,7,158]<|Co 158 (Rq [Aj 8] [8]<|.ret)<|Sk [4,5,7])<|Sq (Dr [8,159,160,161,162,163,164,165,166,167,168,169,170] [Ad 159 4 6,Ac 160 5 1,Ab 161 160,Da 162 161 0 9,Ad 163 162 9,Ac 164 7 1,Ad 165 164 3,Ac 166 7 4,Ab 167 166,Da 168 167 0 5,Ad 169 168 5,Cw 170 51 159 163 165 169,Aa 8 170] [8])<|.ret) [.tmp 8]:=by decide +kernel
theorem lC (n:Nat) (_ih_51:∀ (s_0:AS) (c:AB) (m:AH) (w:AM),Ct prog (BD n s_0 c m w) 51 [BX s_0,AJ c,BB m,BZ w] (fun r=>.sh (eB r))) (s_0:AS) (c:AB) (m:AH) (w:AM):Ct prog (BD (n+1) s_0 c m w) 51 [BX s_0,AJ c,BB m,BZ w] (fun r=>.sh (eB r)):=Fi l8 fun r h hw hR=>by
  unfold BD at h
  have:HA 1 84 83 0 fun (i1:Int) (_:Unit)=>[(84,.tv (eI i1))]:=⟨⟩
  exact au
theorem k9:∀ n:Nat,(∀ (s_0:AS) (c:AB) (m:AH) (w:AM),Ct prog (BD n s_0 c m w) 51 [BX s_0,AJ c,BB m,BZ w] (fun r=>.sh (eB r))):=by
  intro n
  induction n with
  | zero=>exact (fun s_0 c m w=>⟨fun _ h=>by cases h⟩)
  | succ n ih=>exact lC n ih
instance rC (s_0:AS) (c:AB) (m:AH) (w:AM):Ct prog (ER s_0 c m w) 51 [BX s_0,AJ c,BB m,BZ w] (fun r=>.sh (eB r)):=⟨fun r h=>by
  obtain ⟨N,hN⟩:=DB h
  exact ((k9 N) s_0 c m w).snd r (hN N (Nat.le_refl _))⟩
theorem lc:CK f23 (Rq [Af 7 0,Af 8 1,Af 9 2,Af 10 3,Af 11 4,Af 13 6,Aj 14] [5,7,8,9,10,11,13]<|Rq [Ad 15 7 2,Ad 16 8 5,Ad 17 9 9,Ad 18 10 3,Ad 19 11 3,Aa 20 5,Ea 21 47 15 16 17 18 19 20,Az 22 21 0,Aa 23 22,Bf 24 7 2 23,Bf 25 10 3 23,As 26 5 23,⟨some 27,.bld [.list 4 [],.list 7 [],.list 1 [],.list 3 [],.list 1 [],.bool false] [(0,2,.s 24),(2,3,.s 25),(5,1,.s 26)],some (23,true)⟩,Bf 28 9 9 23,Bf 29 11 3 23,Bf 30 13 5 23,Gc 31 51 27 28 29 30 23,Ar 32 23 31,Aa 14 32] [14]<|.ret) [.tmp 14]:=by decide +kernel
instance ql (t:AD) (p:Pattern) (c:AB) (h_3:AY) (m:AH) (injective:Bool) (w:AM):Ct prog (CP t p c h_3 m injective w) 23 [AP t,BE p,AJ c,D2 h_3,BB m,eB injective,BZ w] (fun r=>.sh (eB r)):=Fi lc fun r h hw hR=>by
  unfold CP at h
  exact au
theorem ll:CK f35 (Rq [De 0 4 7] [0]<|Rq [⟨some 1,.bld [.str ⟨#[]⟩,.int .i64 0,.int .i64 0,.list 1 []] [(0,1,.c (.str ⟨#[98,97,108,97,110,99,101]⟩)),(1,1,.c (.int .i64 (-1000))),(2,1,.c (.int .i64 1000))],none⟩,Br 2 4 1,⟨some 3,.bld [.str ⟨#[]⟩,.int .i64 0,.bool false,.list 4 []] [(0,1,.c (.str ⟨#[65,99,99,111,117,110,116]⟩)),(1,1,.c (.int .i64 (-1))),(2,1,.c (.bool true)),(3,1,.s 2)],none⟩,⟨some 4,.bld [.str ⟨#[]⟩,.int .i64 0,.bool false,.list 4 []] [(0,1,.c (.str ⟨#[67,97,115,104]⟩)),(1,1,.c (.int .i64 0))],none⟩,⟨some 5,.lst 1 [.c (.str ⟨#[111,112,101,110]⟩),.c (.str ⟨#[99,108,111,115,101,100]⟩)],none⟩,⟨some 6,.bld [.str ⟨#[]⟩,.int .i64 0,.int .i64 0,.list 1 []] [(0,1,.c (.str ⟨#[115,116,97,116,101]⟩)),(2,1,.c (.int .i64 1)),(3,1,.s 5)],none⟩,Br 7 4 6,⟨some 8,.bld [.str ⟨#[]⟩,.int .i64 0,.bool false,.list 4 []] [(0,1,.c (.str ⟨#[76,111,97,110]⟩)),(1,1,.c (.int .i64 0)),(3,1,.s 7)],none⟩,⟨some 9,.bld [.str ⟨#[]⟩,.int .i64 0,.bool false,.list 4 []] [(0,1,.c (.str ⟨#[80,101,114,115,111,110]⟩)),(1,1,.c (.int .i64 (-1)))],none⟩,⟨some 10,.lst 4 [.s 3,.s 4,.s 8,.s 9],none⟩,⟨some 11,.bld [.str ⟨#[]⟩,.int .i64 0,.int .i64 0,.int .i64 0,.int .i64 0,.int .i64 0,.int .i64 0] [(0,1,.c (.str ⟨#[111,119,110,115]⟩)),(1,1,.c (.int .i64 3)),(2,1,.c (.int .i64 0)),(4,1,.c (.int .i64 (-1))),(5,1,.c (.int .i64 1)),(6,1,.c (.int .i64 1))],none⟩,⟨some 12,.bld [.str ⟨#[]⟩,.int .i64 0,.int .i64 0,.int .i64 0,.int .i64 0,.int .i64 0,.int .i64 0] [(0,1,.c (.str ⟨#[112,97,121,115]⟩)),(1,1,.c (.int .i64 1)),(2,1,.c (.int .i64 1)),(4,1,.c (.int .i64 (-1))),(6,1,.c (.int .i64 (-1)))],none⟩,Dt 13 7 11 12,⟨some 14,.bldo [10,13],none⟩,⟨none,.stx 2 0 14,none⟩] [0]<|.ret) [.cell 0 (some 2)]:=by decide +kernel
instance qt :Ct prog (MR ) 35 [] (fun r=>.oag [⟨true,lN r.Nodes⟩,⟨true,lX r.Edges⟩]):=Fi ll fun r h hw hR=>by
  unfold MR at h
  exact au
theorem lm:CK f36 (Rq [Gp 0 1 3 4 0 5 0 9 1 1 1 3 4 0 5] [0]<|Rq [Fk 6 1 3 0,El 7 0 0 0 1 1 0 2 1 1,Br 8 3 7,Cz 9 1 3 0 1 6 1 1 8,De 1 1 3,Ao 2 1 9] [0,1]<|Rq [Gq 10 1 3 0 0,El 11 0 0 0 1 1 0 2 1 1,El 12 0 0 0 1 1 0 2 1 2,Dt 13 3 11 12,Cz 14 1 3 0 1 10 1 1 13,De 2 1 3,Ao 2 2 14] [0,1,2]<|Rq [Fm 15 0 0 0 1 0,Gr 16 0 0 0 0 0 1 1 2 2 15,Dq 3 0 0 0 0,Ao 4 3 16] [0,1,2,3]<|Rq [Ad 17 2 2,Ad 18 3 4,Fm 19 0 0 0 1 1,Gr 20 0 0 0 0 0 1 2 2 2 19,Dt 21 4 18 20,Fm 22 0 0 0 1 0,Fm 23 0 0 0 1 1,⟨some 24,.bld [.int .i64 0,.int .i64 0,.int .i64 0,.int .i64 0,.int .i64 0] [(0,1,.c (.int .i64 1)),(1,2,.s 22),(3,2,.s 23)],none⟩,Br 25 5 24,⟨some 26,.bld [.list 1 [],.list 3 [],.list 4 [],.int .i64 0,.list 5 []] [(0,2,.s 17),(3,1,.c (.int .i64 2)),(2,1,.s 21),(4,1,.s 25)],none⟩,Dx 4 1 3 4 0 5,Ao 5 4 26] [0,1,3,4]<|Rq [Fk 27 1 0 1,Dk 28 1 0,Cz 29 1 1 0 1 27 1 1 28,Ad 30 4 5,⟨some 31,.bld [.int .i64 0,.list 9 [],.list 1 [],.list 1 [],.list 1 [],.list 3 [],.list 4 [],.int .i64 0,.list 5 []] [(0,1,.c (.int .i64 1))],none⟩,Br 32 9 31,⟨some 33,.bld [.int .i64 0,.list 9 [],.list 1 [],.list 1 [],.list 1 [],.list 3 [],.list 4 [],.int .i64 0,.list 5 []] [(0,1,.c (.int .i64 5)),(2,2,.s 29),(4,5,.s 30),(1,1,.s 32)],none⟩,Dy 5 0 9 1 1 1 3 4 0 5,Ao 9 5 33] [0,1,3,5]<|Rq [Ad 34 1 2,Ad 35 3 4,Br 36 4 35,⟨some 37,.bld [.list 1 [],.list 3 [],.list 4 [],.int .i64 0,.list 5 []] [(0,2,.s 34),(3,1,.c (.int .i64 1)),(2,1,.s 36)],none⟩,Ad 38 5 9,⟨some 39,.bld [.list 1 [],.list 3 [],.list 4 [],.int .i64 0,.list 5 [],.int .i64 0,.list 9 [],.list 1 [],.list 1 [],.list 1 [],.list 3 [],.list 4 [],.int .i64 0,.list 5 []] [(0,5,.s 37),(5,9,.s 38)],none⟩,Ao 14 0 39] [0]<|.ret) [.cell 0 (some 14)]:=by decide +kernel
instance qu :Ct prog (MP ) 36 [] (fun r=>.sh (GU r)):=Fi lm fun r h hw hR=>by
  unfold MP at h
  exact au
theorem lP:CK f11 (Rq [Aj 0] []<|Rq [Em 10 35,Em 11 36,De 1 4 7,Gp 2 1 3 4 0 5 0 9 1 1 1 3 4 0 5,Ao 2 1 10,Ao 14 2 11] [1,2]<|Rq [Gq 12 1 3 1 1,El 13 0 0 0 1 1 0 2 1 1,El 14 0 0 0 1 1 0 2 1 2,Dt 15 3 13 14,Cz 16 1 3 0 1 12 1 1 15,Dk 17 1 10,Dk 18 1 5,⟨some 19,.lst 1 [.c (.list 1 []),.s 17,.s 18],none⟩,Ej 20 1 3 1 0 2 16 2 1 19,Fh 3 1 3 1,Ao 3 3 20] [1,2,3]<|Rq [Fk 21 1 0 2,Dk 22 1 1,Cz 23 1 1 0 1 21 1 1 22,Dk 24 1 5,Ej 25 1 1 1 0 2 23 2 1 24,Fh 4 1 1 1,Ao 3 4 25] [1,2,3,4]<|Rq [Fk 26 1 0 1,Dk 27 1 0,Cz 28 1 1 0 1 26 1 1 27,Dk 29 1 10,Ej 30 1 1 1 0 2 28 2 1 29,Fh 5 1 1 1,Ao 3 5 30] [1,2,3,4,5]<|Rq [Ad 32 1 2,Ac 33 2 0,Ad 34 33 5,Ac 35 2 5,Ad 36 35 9,Ad 37 3 3,Ad 38 4 3,Gs 39 20 32 34 36 37 38,Aa 31 39,Ak 40 31 0,Ak 41 31 1,Ce 6 0 1 1 1 5,Ao 5 6 40,Aa 7 41] [1,2,3,4,5,6,7]<|Rq [Ad 43 1 2,Ac 44 2 0,Ad 45 44 5,Ac 46 2 5,Ad 47 46 9,Ad 48 3 3,Ad 49 5 3,Gs 50 18 43 45 47 48 49,Aa 42 50,Ak 51 42 0,Ak 52 42 1,Aa 8 51,Aa 9 52] [1,2,3,4,6,7,8,9]<|Rq [Aa 53 7,Az 54 53 0,Aa 55 54,As 56 9 55,Cs 57 56 0 55,Ar 58 55 57,Aa 59 58,As 60 8 59,Cu 61 60 59,Ar 62 59 61,Aa 63 62,Aw 64 6 1 63,Bm 65 64 2 63,Ax 66 65 63,Cb 67 66 63,Cs 68 67 2 63,Ar 69 63 68,Aa 70 69,Aw 71 6 1 70,Bm 72 71 2 70,Ax 73 72 70,Gb 74 73 1 1 70,Ax 75 74 70,Cs 76 75 10 70,Ar 77 70 76,Aa 78 77,Bf 79 1 2 78,Aw 80 2 0 78,Bf 81 80 5 78,Aw 82 2 5 78,Bf 83 82 9 78,Bf 84 3 3 78,Bf 85 4 3 78,Bf 86 6 5 78,⟨some 87,.call 23 [.s 79,.s 81,.s 83,.s 84,.s 85,.c (.bool true),.s 86],some (78,true)⟩,Ar 88 78 87,Aa 0 88] [0]<|.ret) [.tmp 0]:=by decide +kernel
instance qY :Ct prog (FE ) 11 [] (fun r=>.sh (eB r)):=Fi lP fun r h hw hR=>by
  unfold FE at h
  exact au
theorem lQ:CK f12 (Rq [Af 1 0,Aj 2] [1]<|Sq (Rq [Ac 9 1 0,Ab 10 9,Ag 11 10,Bn 12 11 20,Aa 13 12,Ap 14 1 1 13,Al 15 14 13,Bh 16 15 13,Cd 17 16 30 13,Aq 18 13 17] [1,18]<|Co 18 (Rq [Aj 2] [2]<|.ret)<|Sk [1])<|Rq [Ae 3 0] [1,3]<|Sq (Rq [Ae 4 0] [1,3,4]<|Bl 0<|Lo [1,3,4]<|Sq (Rq [Aa 19 4,Ac 20 1 0,Ab 21 20,Ag 22 21,Am 23 19 22] [1,3,4,23]<|Co 23 (Sk [1,3,4])<|Ex 0 [1])<|Sq (Bl 1<|Rq [Aa 26 3,Ac 27 1 0,Ab 28 27,Aa 29 4,Ai 30 28 29 4,Ah 31 30 3,Ab 32 31,Ag 33 32,Bo 34 26 33,Aa 3 34] [1,3,4]<|Sq (Rq [Aa 35 3,Bn 36 35 30,Aa 37 36,Ap 38 1 0 37,Al 39 38 37,Au 40 4 37,Bx 41 39 40 4 37,Bq 42 41 0 37,Al 43 42 37,⟨some 44,.slen (.s 43),some (37,false)⟩,Cd 45 44 40 37,Aq 46 37 45] [1,3,4,46]<|Co 46 (Rq [Aj 2] [2]<|.ret)<|Sk [1,3,4])<|Rq [Ae 5 0] [1,3,4,5]<|Bl 2<|Lo [1,3,4,5]<|Sq (Rq [Aa 47 5,Ac 48 1 0,Ab 49 48,Aa 50 4,Ai 51 49 50 4,Ah 52 51 3,Ab 53 52,Ag 54 53,Am 55 47 54] [1,3,4,5,55]<|Co 55 (Sk [1,3,4,5])<|Ex 2 [1,3,4])<|Sq (Bl 3<|Rq [Ac 58 1 0,Ab 59 58,Aa 60 4,Ai 61 59 60 4,Ah 62 61 3,Ab 63 62,Aa 64 5,Ai 65 63 64 4,Ad 66 65 4,Dp 6 0 0 1,Ao 4 6 66] [1,3,4,5,6]<|Sq (Rq [Ac 67 6 0,Ab 68 67,Cn 69 68,Bn 70 69 40,Aa 71 70,Ap 72 6 3 71,Al 73 72 71,Bh 74 73 71,Cd 75 74 25 71,Aq 76 71 75] [1,3,4,5,6,76]<|Co 76 (Rq [Aj 2] [2]<|.ret)<|Sk [1,3,4,5,6])<|Rq [Ae 7 0] [1,3,4,5,6,7]<|Bl 4<|Lo [1,3,4,5,6,7]<|Sq (Rq [Aa 77 7,Ac 78 6 3,Ab 79 78,Ag 80 79,Am 81 77 80] [1,3,4,5,6,7,81]<|Co 81 (Sk [1,3,4,5,6,7])<|Ex 4 [1,3,4,5])<|Sq (Bl 5<|Rq [Ac 84 6 3,Ab 85 84,Aa 86 7,Ai 87 85 86 1,Ab 88 87,Cn 89 88,Bn 90 89 40] [1,3,4,5,6,7,90]<|Co 90 (Rq [Aj 2] [2]<|.ret)<|Sk [1,3,4,5,6,7])<|Re [Aa 82 7,An 83 82 1,Aa 7 83] [1,3,4,5,6,7])<|Re [Aa 56 5,An 57 56 1,Aa 5 57] [1,3,4,5])<|Re [Aa 24 4,An 25 24 1,Aa 4 25] [1,3,4])<|Sq (Rq [Ae 8 0] [1,8]<|Bl 6<|Lo [1,8]<|Sq (Rq [Aa 91 8,Ac 92 1 1,Ab 93 92,Ag 94 93,Am 95 91 94] [1,8,95]<|Co 95 (Sk [1,8])<|Ex 6 [])<|Sq (Bl 7<|Rq [Ac 98 1 1,Ab 99 98,Aa 100 8,Ai 101 99 100 7,Ah 102 101 0,Ab 103 102,Cn 104 103,Bn 105 104 40] [1,8,105]<|Co 105 (Rq [Aj 2] [2]<|.ret)<|Sk [1,8])<|Re [Aa 96 8,An 97 96 1,Aa 8 97] [1,8])<|Rq [Bt 2] [2]<|.ret) [.tmp 2]:=by decide +kernel
instance qZ (t:AD):Ct prog (K3 t) 12 [AP t] (fun r=>.sh (eB r)):=Fi lQ fun r h hw hR=>by
  unfold K3 at h
  have:HA 0 4 1 0 fun (i0:Int) (s0:Int)=>[(3,.tv (eI s0)),(4,.tv (eI i0))]:=⟨⟩
  have:HW 2 fun (s2:Int)=>[(5,.tv (eI s2))]:=⟨⟩
  have:HW 4 fun (s4:Int)=>[(7,.tv (eI s4))]:=⟨⟩
  have:HA 6 8 1 1 fun (i6:Int) (_:Unit)=>[(8,.tv (eI i6))]:=⟨⟩
  exact au
theorem lq:CK f38 (Rq [Af 1 0,Aj 2] [1]<|Rq [Ac 3 1 0,Ab 4 3,Ag 5 4,Gd 6 5 45,Aa 7 6,Aw 8 1 1 7,Ax 9 8 7,Cb 10 9 7,Ci 11 10 90 7,Ar 12 7 11,Aa 2 12] [2]<|.ret) [.tmp 2]:=by decide +kernel
instance qw (g:Graph):Ct prog (Iz g) 38 [CA g] (fun r=>.sh (eB r)):=Fi lq fun r h hw hR=>by
  unfold Iz at h
  exact au
theorem lU:CK f14 (Rq [Af 1 0,Aj 2] [1]<|Rq [Ac 3 1 0,Ad 4 3 2,Ba 5 38 4,Aa 6 5,Aw 7 1 2 6,Ax 8 7 6,Cb 9 8 6,Ci 10 9 15 6,Ar 11 6 10,Aa 12 11,Aw 13 1 4 12,Ax 14 13 12,Cb 15 14 12,Ci 16 15 15 12,Ar 17 12 16,Aa 2 17] [2]<|.ret) [.tmp 2]:=by decide +kernel
instance qc (p:Pattern):Ct prog (K5 p) 14 [BE p] (fun r=>.sh (eB r)):=Fi lU fun r h hw hR=>by
  unfold K5 at h
  exact au
theorem mM:CK f78 (Rq [Af 2 0,Aj 4] [1,2]<|Rq [Ac 5 2 0,Ab 6 5,Ag 7 6,Ac 8 2 1,Ab 9 8,Ag 10 9,Bo 11 7 10,Aa 12 1,⟨some 13,.bin (.i) .leq (.s 11) (.s 12),none⟩,Aa 4 13] [4]<|.ret) [.tmp 4]:=by decide +kernel
instance rQ (m:Morphism) (n:Int):Ct prog (NR m n) 78 [BO m,eI n] (fun r=>.sh (eB r)):=Fi mM fun r h hw hR=>by
  unfold NR at h
  exact au
theorem ln:CK f37 (Rq [Af 2 0,Ae 4 0] [1,2]<|Rq [Aa 6 1,Cy 7 6 1,Aa 1 7] [1,2]<|Sq (Rq [Ac 8 2 4,Ad 9 8 5,Ba 10 14 9,Bb 11 10,Aa 12 11,Ap 13 2 2 12,Cf 14 13 2 12,⟨some 15,.call 78 [.s 14,.c (.int .i64 140)],some (12,false)⟩,Bp 16 15 12,Aq 17 12 16] [1,2,17]<|Co 17 (Rq [Bs 4 (-1)] [4]<|.ret)<|Sk [1,2])<|Sq (Rq [Ae 5 0] [1,2,5]<|Bl 0<|Lo [1,2,5]<|Sq (Rq [Aa 18 5,Ac 19 2 1,Ab 20 19,Ag 21 20,Am 22 18 21,Aa 23 22,As 24 1 23,Ek 25 24 0 23,Ar 26 23 25] [1,2,5,26]<|Co 26 (Sk [1,2,5])<|Ex 0 [1])<|Sq (Bl 1<|Re [Ac 29 2 1,Ab 30 29,Aa 31 5,Ai 32 30 31 9,Ad 33 32 9,Aa 34 1,Ay 35 37 33 34,Aa 1 35] [1,2,5])<|Re [Aa 27 5,An 28 27 1,Aa 5 28] [1,2,5])<|Rq [Aa 36 1,Aa 4 36] [4]<|.ret) [.tmp 4]:=by decide +kernel
theorem kv (n:Nat) (_ih_37:∀ (c:AB) (most:Int),Ct prog (FH n c most) 37 [AJ c,eI most] (fun r=>.sh (eI r))) (c:AB) (most:Int):Ct prog (FH (n+1) c most) 37 [AJ c,eI most] (fun r=>.sh (eI r)):=Fi ln fun r h hw hR=>by
  unfold FH at h
  have:HW 0 fun (s0:Int × Int)=>[(1,.tv (eI s0.1)),(5,.tv (eI s0.2))]:=⟨⟩
  exact au
theorem ku:∀ n:Nat,(∀ (c:AB) (most:Int),Ct prog (FH n c most) 37 [AJ c,eI most] (fun r=>.sh (eI r))):=by
  intro n
  induction n with
  | zero=>exact (fun c most=>⟨fun _ h=>by cases h⟩)
  | succ n ih=>exact kv n ih
instance qv (c:AB) (most:Int):Ct prog (OS c most) 37 [AJ c,eI most] (fun r=>.sh (eI r)):=⟨fun r h=>by
  obtain ⟨N,hN⟩:=DB h
  exact ((ku N) c most).snd r (hN N (Nat.le_refl _))⟩
theorem lR:CK f13 (Rq [Af 1 0,Aj 2] [1]<|Rq [Ad 3 1 9,Es 4 37 3 40,Bj 5 4 0,Aa 2 5] [2]<|.ret) [.tmp 2]:=by decide +kernel
instance qa (c:AB):Ct prog (MH c) 13 [AJ c] (fun r=>.sh (eB r)):=Fi lR fun r h hw hR=>by
  unfold MH at h
  exact au
theorem fy:CK f186 (Rq [Af 2 0,Bc 4 4] [1,2]<|Sq (Rq [Aa 5 1,By 6 5 0] [1,2,6]<|Co 6 (Rq [Bc 4 4] [4]<|.ret)<|Sk [1,2])<|Sq (Dr [4,7,8,9,10,11,12,13,14,15,16,17,18,19,20,21,22,23] [Di 7 4,Ad 8 2 2,Ac 9 2 0,Ab 10 9,Aa 11 1,Ai 12 10 11 4,Ah 13 12 1,Ab 14 13,Ay 15 186 8 14,Bz 16 4 7 15,Ac 17 2 0,Ab 18 17,Aa 19 1,Ai 20 18 19 4,Ah 21 20 3,Ab 22 21,Bz 23 4 16 22,Be 4 23] [4])<|.ret) [.tmp 4]:=by decide +kernel
theorem eE (n:Nat) (_ih_186:∀ (t:AD) (a:Int),Ct prog (G3 n t a) 186 [AP t,eI a] (fun r=>.own (lA r))) (t:AD) (a:Int):Ct prog (G3 (n+1) t a) 186 [AP t,eI a] (fun r=>.own (lA r)):=Fi fy fun r h hw hR=>by
  unfold G3 at h
  exact au
theorem eD:∀ n:Nat,(∀ (t:AD) (a:Int),Ct prog (G3 n t a) 186 [AP t,eI a] (fun r=>.own (lA r))):=by
  intro n
  induction n with
  | zero=>exact (fun t a=>⟨fun _ h=>by cases h⟩)
  | succ n ih=>exact eE n ih
instance oh (t:AD) (a:Int):Ct prog (L0 t a) 186 [AP t,eI a] (fun r=>.own (lA r)):=⟨fun r h=>by
  obtain ⟨N,hN⟩:=DB h
  exact ((eD N) t a).snd r (hN N (Nat.le_refl _))⟩
theorem fz:CK f188 (Rq [Aj 6] [0,1,2]<|Rq [Aa 7 0,Aa 8 1,Cm 9 7 8,Aa 10 9,As 11 0 10,As 12 2 10,Ed 13 11 12 10,Ar 14 10 13,Aa 6 14] [6]<|.ret) [.tmp 6]:=by decide +kernel
instance oi (n:Int) (low:Int) (high:Int):Ct prog (D8 n low high) 188 [eI n,eI low,eI high] (fun r=>.sh (eB r)):=Fi fz fun r h hw hR=>by
  unfold D8 at h
  exact au
theorem iK:CK f280 (Rq [Af 1 0,Cp 2] [1]<|Sq (Rq [Ac 3 1 0,Ab 4 3,Az 5 4 3] [1,5]<|Co 5 (Rq [Ac 6 1 1,Ab 7 6,⟨some 8,.bin (.s) .add (.c (.str ⟨#[34]⟩)) (.s 7),none⟩,⟨some 9,.bin (.s) .add (.s 8) (.c (.str ⟨#[34]⟩)),none⟩,Aa 2 9] [2]<|.ret)<|Sk [1])<|Rq [Ac 10 1 1,Ab 11 10,Aa 2 11] [2]<|.ret) [.tmp 2]:=by decide +kernel
instance p5 (t:FK):Ct prog (Me t) 280 [Qp t] (fun r=>.sh (eS r)):=Fi iK fun r h hw hR=>by
  unfold Me at h
  exact au
theorem iV:CK f302 (Rq [Aj 2] [0]<|Rq [Aa 3 0,Ec 4 3 97,Aa 5 4,As 6 0 5,Dl 7 6 122 5,Ar 8 5 7,Aa 9 8,Au 10 0 9,Gg 11 10 65 9,Au 12 11 9,As 13 0 12,Dl 14 13 90 12,Ca 15 12 14 9,Aq 16 9 15,Aa 2 16] [2]<|.ret) [.tmp 2]:=by decide +kernel
instance qH (c:Int):Ct prog (Jr c) 302 [Qq c] (fun r=>.sh (eB r)):=Fi iV fun r h hw hR=>by
  unfold Jr at h
  exact au
theorem iW:CK f303 (Rq [Aj 2] [0]<|Rq [Aa 3 0,Ec 4 3 48,Aa 5 4,As 6 0 5,Dl 7 6 57 5,Ar 8 5 7,Aa 2 8] [2]<|.ret) [.tmp 2]:=by decide +kernel
instance qI (c:Int):Ct prog (IU c) 303 [Qq c] (fun r=>.sh (eB r)):=Fi iW fun r h hw hR=>by
  unfold IU at h
  exact au
theorem iX:CK f304 (Rq [Ae 6 0] [0,1,2]<|Rq [Ae 7 0] [0,1,2,7]<|Sq (Bl 0<|Lo [0,1,2,7]<|Sq (Rq [Aa 8 1,Aa 9 7,Bo 10 8 9,Aa 11 0,Cn 12 11,Am 13 10 12,Aa 14 13,As 15 0 14,As 16 1 14,As 17 7 14,Eb 18 16 17 14,Fp 19 15 18 14,Bw 20 303 19 14,As 21 20 14,Au 22 2 21,Bp 23 22 21,Au 24 23 21,As 25 0 24,As 26 1 24,As 27 7 24,Eb 28 26 27 24,Fp 29 25 28 24,Bw 30 302 29 24,As 31 30 24,Au 32 0 31,Au 33 1 31,Au 34 7 31,⟨some 35,.bin (.i) .add (.s 33) (.s 34),some (31,false)⟩,⟨some 36,.sidx (.s 32) (.s 35),some (31,false)⟩,Gh 37 36 95 31,Do 38 31 37 24,Ca 39 24 38 21,Do 40 21 39 14,Ar 41 14 40] [0,1,2,7,41]<|Co 41 (Sk [0,1,2,7])<|Ex 0 [7])<|Bl 1<|Re [Aa 42 7,An 43 42 1,Aa 7 43] [0,1,2,7])<|Rq [Aa 44 7,Aa 6 44] [6]<|.ret) [.tmp 6]:=by decide +kernel
instance qJ (s_0:ByteArray) (AA:Int) (digits:Bool):Ct prog (ME s_0 AA digits) 304 [eS s_0,eI AA,eB digits] (fun r=>.sh (eI r)):=Fi iX fun r h hw hR=>by
  unfold ME at h
  have:HW 0 fun (s0:Int)=>[(7,.tv (eI s0))]:=⟨⟩
  exact au
theorem iY:CK f305 (Rq [Ae 4 0] [0,1]<|Sq (Rq [Ae 5 1] [0,1,5]<|Bl 0<|Lo [0,1,5]<|Sq (Rq [Aa 7 1,Aa 8 5,Bo 9 7 8,Aa 10 0,Cn 11 10,Am 12 9 11] [0,1,5,12]<|Co 12 (Sk [0,1,5])<|Ex 0 [])<|Sq (Bl 1<|Rq [Aa 15 0,Aa 16 1,Aa 17 5,Bo 18 16 17,⟨some 19,.sidx (.s 15) (.s 18),none⟩,Aa 6 19] [0,1,5,6]<|Sq (Rq [Aa 20 6,Fq 21 20 34] [0,1,5,6,21]<|Co 21 (Rq [Aa 22 5,An 23 22 1,Aa 4 23] [4]<|.ret)<|Sk [0,1,5,6])<|Rq [Aa 24 6,⟨some 25,.bin (.i) .lss (.s 24) (.c (.int .u8 32)),none⟩,Aa 26 25,Au 27 6 26,⟨some 28,.bin (.i) .gtr (.s 27) (.c (.int .u8 126)),some (26,false)⟩,Aq 29 26 28] [0,1,5,29]<|Co 29 (Rq [Ae 4 0] [4]<|.ret)<|Sk [0,1,5])<|Re [Aa 13 5,An 14 13 1,Aa 5 14] [0,1,5])<|Rq [Ae 4 0] [4]<|.ret) [.tmp 4]:=by decide +kernel
instance qK (s_0:ByteArray) (AA:Int):Ct prog (Js s_0 AA) 305 [eS s_0,eI AA] (fun r=>.sh (eI r)):=Fi iY fun r h hw hR=>by
  unfold Js at h
  have:HW 0 fun (s0:Int)=>[(5,.tv (eI s0))]:=⟨⟩
  exact au
theorem iZ:CK f306 (Rq [Bc 0 1] []<|Rq [⟨some 1,.lst 1 [.c (.str ⟨#[45,62]⟩),.c (.str ⟨#[60,61]⟩),.c (.str ⟨#[62,61]⟩),.c (.str ⟨#[61,61]⟩),.c (.str ⟨#[33,61]⟩),.c (.str ⟨#[123]⟩),.c (.str ⟨#[125]⟩),.c (.str ⟨#[40]⟩),.c (.str ⟨#[41]⟩),.c (.str ⟨#[91]⟩),.c (.str ⟨#[93]⟩),.c (.str ⟨#[44]⟩),.c (.str ⟨#[59]⟩),.c (.str ⟨#[58]⟩),.c (.str ⟨#[61]⟩),.c (.str ⟨#[43]⟩),.c (.str ⟨#[45]⟩),.c (.str ⟨#[42]⟩),.c (.str ⟨#[60]⟩),.c (.str ⟨#[62]⟩),.c (.str ⟨#[33]⟩),.c (.str ⟨#[38]⟩),.c (.str ⟨#[124]⟩),.c (.str ⟨#[46]⟩),.c (.str ⟨#[63]⟩)],none⟩,Be 0 1] [0]<|.ret) [.tmp 0]:=by decide +kernel
instance qL :Ct prog (Lz ) 306 [] (fun r=>.own (lB r)):=Fi iZ fun r h hw hR=>by
  unfold Lz at h
  exact au
theorem iL:CK f281 (Rq [Gt 4 0 0,Ae 5 0,Ae 6 0] [0,1,4]<|Rq [Aa 14 0,Aa 15 1,⟨some 16,.sidx (.s 14) (.s 15),none⟩,Aa 7 16] [0,1,4,7]<|Sq (Rq [Aa 17 7,Ba 18 302 17,Aa 19 18,Au 20 7 19,Db 21 303 20 19,Aq 22 19 21] [0,1,4,7,22]<|Co 22 (Rq [Aa 23 0,Aa 24 1,Aa 25 7,Ba 26 303 25,Bg 27 304 23 24 26,Aa 8 27] [0,1,4,7,8]<|Rq [Ae 9 1,Ae 10 20] [0,1,4,7,8,9,10]<|Sq (Rq [Aa 28 7,Ba 29 303 28] [0,1,4,8,9,10,29]<|Co 29 (Re [Ae 9 2,Ae 10 9] [0,1,4,8,9,10])<|Sk [0,1,4,8,9,10])<|Sq (Rq [Aa 30 8,Aa 31 10,Eg 32 30 31] [0,1,4,8,9,32]<|Co 32 (Rq [Fo 33 0 0,Ao 3 4 33,Ae 5 0,Ae 6 3] [4,5,6]<|.ret)<|Sk [0,1,4,8,9])<|Rq [Aa 34 9,Aa 35 0,Aa 36 1,Aa 37 1,Aa 38 8,Bo 39 37 38,⟨some 40,.sslc (.s 35) (some (.s 36)) (some (.s 39)),none⟩,⟨some 41,.bld [.int .i64 0,.str ⟨#[]⟩,.int .i64 0] [(0,1,.s 34),(1,1,.s 40)],none⟩,Aa 42 8,Ao 3 4 41,Aa 5 42,Ae 6 0] [4,5,6]<|.ret)<|Sk [0,1,4,7])<|Sq (Rq [Aa 43 7,Fq 44 43 34] [0,1,4,44]<|Co 44 (Rq [Aa 45 0,Aa 46 1,Ay 47 305 45 46,Aa 11 47] [0,1,4,11]<|Sq (Rq [Aa 48 11,Az 49 48 0] [0,1,4,11,49]<|Co 49 (Rq [Fo 50 0 0,Ao 3 4 50,Ae 5 0,Ae 6 2] [4,5,6]<|.ret)<|Sk [0,1,4,11])<|Sq (Rq [Aa 51 11,Cy 52 51 2,Bn 53 52 60] [0,1,4,11,53]<|Co 53 (Rq [Fo 54 0 0,Ao 3 4 54,Ae 5 0,Ae 6 3] [4,5,6]<|.ret)<|Sk [0,1,4,11])<|Rq [Aa 55 0,Aa 56 1,An 57 56 1,Aa 58 1,Aa 59 11,Bo 60 58 59,Cy 61 60 1,⟨some 62,.sslc (.s 55) (some (.s 57)) (some (.s 61)),none⟩,Eo 63 0 0 0 1 3 1 1 62,Aa 64 11,Ao 3 4 63,Aa 5 64,Ae 6 0] [4,5,6]<|.ret)<|Sk [0,1,4])<|Rq [Em 65 306,Be 12 65] [0,1,4,12]<|Sq (Rq [Ae 13 0] [0,1,4,12,13]<|Bl 0<|Lo [0,1,4,12,13]<|Sq (Rq [Aa 66 13,Aa 67 12,Ag 68 67,Am 69 66 68] [0,1,4,12,13,69]<|Co 69 (Sk [0,1,4,12,13])<|Ex 0 [4])<|Sq (Bl 1<|Sq (Dr [72,73,74,75,76,77,78,79,80,81,82,83,84,85,86,87,88,89,90,91,92,93,94,95,96,97,98] [Aa 72 1,Aa 73 12,Aa 74 13,Ai 75 73 74 1,Ab 76 75,Cn 77 76,Bo 78 72 77,Aa 79 0,Cn 80 79,⟨some 81,.bin (.i) .leq (.s 78) (.s 80),none⟩,Aa 82 81,As 83 0 82,As 84 1 82,As 85 1 82,As 86 12 82,As 87 13 82,Cv 88 86 87 1 82,Ax 89 88 82,Fr 90 89 82,Eb 91 85 90 82,⟨some 92,.sslc (.s 83) (some (.s 84)) (some (.s 91)),some (82,true)⟩,As 93 12 82,As 94 13 82,Cv 95 93 94 1 82,Ax 96 95 82,⟨some 97,.bin (.s) .eql (.s 92) (.s 96),some (82,true)⟩,Ar 98 82 97] [0,1,4,12,13,98])<|Co 98 (Sq (Dr [4,5,6,99,100,101,102,103,104,105,106,107,108] [Aa 99 12,Aa 100 13,Ai 101 99 100 1,Ab 102 101,Eo 103 0 0 0 1 4 1 1 102,Aa 104 12,Aa 105 13,Ai 106 104 105 1,Ab 107 106,Cn 108 107,Ao 3 4 103,Aa 5 108,Ae 6 0] [4,5,6])<|.ret)<|Sk [0,1,4,12,13])<|Re [Aa 70 13,An 71 70 1,Aa 13 71] [0,1,4,12,13])<|Rq [Fo 109 0 0,Ao 3 4 109,Ae 5 0,Ae 6 2] [4,5,6]<|.ret) [.cell 4 (some 3),.tmp 5,.tmp 6]:=by decide +kernel
instance p6 (s_0:ByteArray) (AA:Int):Ct prog (MD s_0 AA) 281 [eS s_0,eI AA] (fun r=>.tp [Qp r.1,eI r.2.1,eI r.2.2]):=Fi iL fun r h hw hR=>by
  unfold MD at h
  have:HJ 29 fun (w1:Int × Int)=>[(9,.tv (eI w1.1)),(10,.tv (eI w1.2))]:=⟨⟩
  have:HA 0 13 12 0 fun (i0:Int) (s0:FK)=>[(4,.bx [⟨false,eI s0.Kind⟩,⟨false,eS s0.Text⟩,⟨false,eI s0.Line⟩]),(13,.tv (eI i0))]:=⟨⟩
  exact au
theorem g9:CK f253 (Rq [Af 1 0,Aj 2] [1]<|Rq [Ad 7 1 3,Ba 8 280 7,Aa 3 8] [1,3]<|Sq (Rq [Aa 9 3,⟨some 10,.bin (.s) .eql (.s 9) (.c (.str ⟨#[]⟩)),none⟩] [1,3,10]<|Co 10 (Rq [Aj 2] [2]<|.ret)<|Sk [1,3])<|Rq [Aa 12 3,Es 13 281 12 0,Aa 11 13,Ak 14 11 0,Ak 15 11 1,Ak 16 11 2,Gt 4 0 0,Ao 3 4 14,Aa 5 15,Aa 6 16] [1,3,4,5,6]<|Rq [Aa 17 6,Az 18 17 0,Aa 19 18,As 20 5 19,As 21 3 19,Fr 22 21 19,Cx 23 20 22 19,Ar 24 19 23,Aa 25 24,Aw 26 4 0 25,Ax 27 26 25,Aw 28 1 0 25,Ax 29 28 25,Cx 30 27 29 25,Ar 31 25 30,Aa 2 31] [2]<|.ret) [.tmp 2]:=by decide +kernel
instance pj (t:FK):Ct prog (Ly t) 253 [Qp t] (fun r=>.sh (eB r)):=Fi g9 fun r h hw hR=>by
  unfold Ly at h
  exact au
theorem gX:CK f223 (Rq [Aj 2] [0]<|Rq [Aa 3 0,Eo 4 0 0 0 1 1 1 1 3,Ba 5 253 4,Aa 2 5] [2]<|.ret) [.tmp 2]:=by decide +kernel
instance pF (s_0:ByteArray):Ct prog (G2 s_0) 223 [eS s_0] (fun r=>.sh (eB r)):=Fi gX fun r h hw hR=>by
  unfold G2 at h
  exact au
theorem hO:CK f254 (Rq [Ae 2 0] [0]<|Sq (Rq [Aa 5 0,Ag 6 5,Bn 7 6 20] [0,7]<|Co 7 (Rq [Ae 2 3] [2]<|.ret)<|Sk [0])<|Sq (Rq [Ae 3 0] [0,3]<|Bl 0<|Lo [0,3]<|Sq (Rq [Aa 8 3,Aa 9 0,Ag 10 9,Am 11 8 10] [0,3,11]<|Co 11 (Sk [0,3])<|Ex 0 [])<|Sq (Bl 1<|Sq (Rq [Aa 14 0,Aa 15 3,Ai 16 14 15 1,Ab 17 16,Ba 18 223 17,Bb 19 18] [0,3,19]<|Co 19 (Rq [Ae 2 2] [2]<|.ret)<|Sk [0,3])<|Rq [Ae 4 0] [0,3,4]<|Bl 2<|Lo [0,3,4]<|Sq (Rq [Aa 20 4,Aa 21 3,Am 22 20 21] [0,3,4,22]<|Co 22 (Sk [0,3,4])<|Ex 2 [0,3])<|Sq (Bl 3<|Sq (Dr [25,26,27,28,29,30,31,32,33] [Aa 25 0,Aa 26 4,Ai 27 25 26 1,Ab 28 27,Aa 29 0,Aa 30 3,Ai 31 29 30 1,Ab 32 31,Dg 33 28 32] [0,3,4,33])<|Co 33 (Rq [Ae 2 5] [2]<|.ret)<|Sk [0,3,4])<|Re [Aa 23 4,An 24 23 1,Aa 4 24] [0,3,4])<|Re [Aa 12 3,An 13 12 1,Aa 3 13] [0,3])<|Rq [Ae 2 0] [2]<|.ret) [.tmp 2]:=by decide +kernel
instance pk (l:List ByteArray):Ct prog (KV l) 254 [lB l] (fun r=>.sh (eI r)):=Fi hO fun r h hw hR=>by
  unfold KV at h
  have:HA 0 3 0 0 fun (i0:Int) (_:Unit)=>[(3,.tv (eI i0))]:=⟨⟩
  have:HA 2 4 3 0 fun (i2:Int) (_:Unit)=>[(4,.tv (eI i2))]:=⟨⟩
  exact au
theorem gY:CK f224 (Rq [Af 1 0,Ae 2 0] [1]<|Sq (Rq [Ac 4 1 3,Ab 5 4,Ag 6 5,Az 7 6 0] [1,7]<|Co 7 (Sq (Rq [Ac 8 1 1,Ab 9 8,⟨some 10,.call 188 [.s 9,.c (.int .i64 (-1000000)),.c (.int .i64 1000000)],none⟩,Bb 11 10,Aa 12 11,Ap 13 1 2 12,Al 14 13 12,Ap 15 1 1 12,Al 16 15 12,Gu 17 188 14 16 1000000 12,Bp 18 17 12,Aq 19 12 18] [19]<|Co 19 (Rq [Ae 2 6] [2]<|.ret)<|Sk [])<|Rq [Ae 2 0] [2]<|.ret)<|Sk [1])<|Sq (Rq [Ac 20 1 3,Ab 21 20,Ba 22 254 21,Aa 3 22] [1,3]<|Rq [Aa 23 3,Av 24 23 0] [1,3,24]<|Co 24 (Rq [Aa 25 3,Aa 2 25] [2]<|.ret)<|Sk [1])<|Sq (Rq [Ac 26 1 1,Ab 27 26,Av 28 27 0,Aa 29 28,Ap 30 1 2 29,Al 31 30 29,Ap 32 1 3 29,Al 33 32 29,Bh 34 33 29,Ez 35 34 1 29,Cj 36 31 35 29,Aq 37 29 36] [37]<|Co 37 (Rq [Ae 2 6] [2]<|.ret)<|Sk [])<|Rq [Ae 2 0] [2]<|.ret) [.tmp 2]:=by decide +kernel
instance pG (a:Attr):Ct prog (IK a) 224 [HY a] (fun r=>.sh (eI r)):=Fi gY fun r h hw hR=>by
  unfold IK at h
  exact au
theorem fW:CK f162 (Rq [Af 2 0,Ae 4 0] [1,2]<|Rq [Ac 11 2 0,Ab 12 11,Aa 13 1,Ai 14 12 13 4,Ad 15 14 4,Fu 5 0 4,Ao 4 5 15] [1,2,5]<|Sq (Rq [Ac 16 5 0,Ab 17 16,Ba 18 223 17,Bb 19 18] [1,2,5,19]<|Co 19 (Rq [Ae 4 2] [4]<|.ret)<|Sk [1,2,5])<|Sq (Rq [Ae 6 0] [1,2,5,6]<|Bl 0<|Lo [1,2,5,6]<|Sq (Rq [Aa 20 6,Aa 21 1,Am 22 20 21] [1,2,5,6,22]<|Co 22 (Sk [1,2,5,6])<|Ex 0 [1,2,5])<|Sq (Bl 1<|Sq (Dr [25,26,27,28,29,30,31,32,33] [Ac 25 2 0,Ab 26 25,Aa 27 6,Ai 28 26 27 4,Ah 29 28 0,Ab 30 29,Ac 31 5 0,Ab 32 31,Dg 33 30 32] [1,2,5,6,33])<|Co 33 (Rq [Ae 4 5] [4]<|.ret)<|Sk [1,2,5,6])<|Re [Aa 23 6,An 24 23 1,Aa 6 24] [1,2,5,6])<|Sq (Rq [Ac 34 5 1,Ab 35 34,Aa 36 1,Cy 37 36 1,⟨some 38,.call 188 [.s 35,.c (.int .i64 (-1)),.s 37],none⟩,Bb 39 38] [1,2,5,39]<|Co 39 (Rq [Ae 4 6] [4]<|.ret)<|Sk [1,2,5])<|Rq [Ad 40 2 2,Aa 41 1,Ay 42 186 40 41,Be 7 42] [5,7]<|Sq (Rq [Ac 43 5 3,Ab 44 43,Ag 45 44,Bn 46 45 4,Aa 47 46,Au 48 7 47,Bh 49 48 47,Cd 50 49 8 47,Aq 51 47 50] [5,7,51]<|Co 51 (Rq [Ae 4 3] [4]<|.ret)<|Sk [5,7])<|Sq (Rq [Aa 52 7,Ag 53 52,Ac 54 5 3,Ab 55 54,Ag 56 55,Dn 57 53 56,Aa 8 57] [7,8]<|Bl 2<|Lo [7,8]<|Sq (Rq [Aa 58 8,Aa 59 7,Ag 60 59,Am 61 58 60] [7,8,61]<|Co 61 (Sk [7,8])<|Ex 2 [])<|Sq (Bl 3<|Sq (Rq [Aa 64 7,Aa 65 8,Ai 66 64 65 4,Ah 67 66 0,Ab 68 67,Ba 69 223 68,Bb 70 69] [7,8,70]<|Co 70 (Rq [Ae 4 2] [4]<|.ret)<|Sk [7,8])<|Sq (Rq [Ae 9 0] [7,8,9]<|Bl 4<|Lo [7,8,9]<|Sq (Rq [Aa 71 9,Aa 72 8,Am 73 71 72] [7,8,9,73]<|Co 73 (Sk [7,8,9])<|Ex 4 [7,8])<|Sq (Bl 5<|Sq (Dr [76,77,78,79,80,81,82,83,84,85,86] [Aa 76 7,Aa 77 9,Ai 78 76 77 4,Ah 79 78 0,Ab 80 79,Aa 81 7,Aa 82 8,Ai 83 81 82 4,Ah 84 83 0,Ab 85 84,Dg 86 80 85] [7,8,9,86])<|Co 86 (Rq [Ae 4 5] [4]<|.ret)<|Sk [7,8,9])<|Re [Aa 74 9,An 75 74 1,Aa 9 75] [7,8,9])<|Rq [Aa 87 7,Aa 88 8,Ai 89 87 88 4,Ad 90 89 4,Ba 91 224 90,Aa 10 91] [7,8,10]<|Rq [Aa 92 10,Av 93 92 0] [7,8,10,93]<|Co 93 (Rq [Aa 94 10,Aa 4 94] [4]<|.ret)<|Sk [7,8])<|Re [Aa 62 8,An 63 62 1,Aa 8 63] [7,8])<|Rq [Ae 4 0] [4]<|.ret) [.tmp 4]:=by decide +kernel
instance oJ (t:AD) (i_1:Int):Ct prog (LQ t i_1) 162 [AP t,eI i_1] (fun r=>.sh (eI r)):=Fi fW fun r h hw hR=>by
  unfold LQ at h
  have:HA 0 6 1 0 fun (i0:Int) (_:Unit)=>[(6,.tv (eI i0))]:=⟨⟩
  have:HA 2 8 7 0 fun (i2:Int) (_:Unit)=>[(8,.tv (eI i2))]:=⟨⟩
  have:HA 4 9 8 0 fun (i4:Int) (_:Unit)=>[(9,.tv (eI i4))]:=⟨⟩
  exact au
theorem gZ:CK f225 (Rq [Aj 4] [0,1]<|Rq [Aa 5 0,Gk 6 188 5 0 40,Aa 7 6,As 8 1 7,Gi 9 8 (-1) 7,As 10 9 7,Au 11 1 10,Au 12 0 10,Gu 13 188 11 12 40 10,Do 14 10 13 7,Ar 15 7 14,Aa 4 15] [4]<|.ret) [.tmp 4]:=by decide +kernel
instance pH (low:Int) (high:Int):Ct prog (JS low high) 225 [eI low,eI high] (fun r=>.sh (eB r)):=Fi gZ fun r h hw hR=>by
  unfold JS at h
  exact au
theorem fX:CK f163 (Rq [Af 2 0,Ae 4 0] [1,2]<|Rq [Ac 8 2 1,Ab 9 8,Aa 10 1,Ai 11 9 10 7,Ad 12 11 7,Fv 5 0 0 0 0 0 0,Ao 7 5 12] [1,2,5]<|Sq (Rq [Ac 13 5 0,Ab 14 13,Ba 15 223 14,Bb 16 15] [1,2,5,16]<|Co 16 (Rq [Ae 4 2] [4]<|.ret)<|Sk [1,2,5])<|Sq (Rq [Ae 6 0] [1,2,5,6]<|Bl 0<|Lo [1,2,5,6]<|Sq (Rq [Aa 17 6,Aa 18 1,Am 19 17 18] [1,2,5,6,19]<|Co 19 (Sk [1,2,5,6])<|Ex 0 [2,5])<|Sq (Bl 1<|Sq (Dr [22,23,24,25,26,27,28,29,30] [Ac 22 2 1,Ab 23 22,Aa 24 6,Ai 25 23 24 7,Ah 26 25 0,Ab 27 26,Ac 28 5 0,Ab 29 28,Dg 30 27 29] [1,2,5,6,30])<|Co 30 (Rq [Ae 4 5] [4]<|.ret)<|Sk [1,2,5,6])<|Re [Aa 20 6,An 21 20 1,Aa 6 21] [1,2,5,6])<|Rq [Ac 31 2 0,Ab 32 31,Ag 33 32,Cy 34 33 1,Aa 7 34] [5,7]<|Sq (Rq [Ac 35 5 1,Ab 36 35,Aa 37 7,Et 38 188 36 0 37,Bb 39 38,Aa 40 39,Ap 41 5 2 40,Al 42 41 40,Au 43 7 40,Ge 44 188 42 0 43 40,Bp 45 44 40,Aq 46 40 45,Aa 47 46,Ap 48 5 3 47,Al 49 48 47,Ap 50 5 4 47,Al 51 50 47,Dh 52 225 49 51 47,Bp 53 52 47,Aq 54 47 53,Aa 55 54,Ap 56 5 5 55,Al 57 56 55,Ap 58 5 6 55,Al 59 58 55,Dh 60 225 57 59 55,Bp 61 60 55,Aq 62 55 61] [62]<|Co 62 (Rq [Ae 4 6] [4]<|.ret)<|Sk [])<|Rq [Ae 4 0] [4]<|.ret) [.tmp 4]:=by decide +kernel
instance oK (t:AD) (i_1:Int):Ct prog (LP t i_1) 163 [AP t,eI i_1] (fun r=>.sh (eI r)):=Fi fX fun r h hw hR=>by
  unfold LP at h
  have:HA 0 6 1 0 fun (i0:Int) (_:Unit)=>[(6,.tv (eI i0))]:=⟨⟩
  exact au
theorem mc:CK f94 (Rq [Af 1 0,Cp 2,Ae 3 0] [1]<|Sq (Rq [Ac 8 1 0,Ab 9 8,Ag 10 9,Az 11 10 0] [1,11]<|Co 11 (Rq [Cp 2,Ae 3 7] [2,3]<|.ret)<|Sk [1])<|Sq (Rq [Ac 12 1 0,Ab 13 12,Ag 14 13,Bn 15 14 12,Aa 16 15,Ap 17 1 1 16,Al 18 17 16,Bh 19 18 16,Cd 20 19 20 16,Aq 21 16 20] [1,21]<|Co 21 (Rq [Cp 2,Ae 3 3] [2,3]<|.ret)<|Sk [1])<|Sq (Rq [Ae 4 0] [1,4]<|Bl 0<|Lo [1,4]<|Sq (Rq [Aa 22 4,Ac 23 1 0,Ab 24 23,Ag 25 24,Am 26 22 25] [1,4,26]<|Co 26 (Sk [1,4])<|Ex 0 [1])<|Sq (Bl 1<|Rq [Ad 29 1 2,Aa 30 4,Ay 31 162 29 30,Aa 5 31] [1,4,5]<|Rq [Aa 32 5,Av 33 32 0] [1,4,5,33]<|Co 33 (Rq [Ac 34 1 0,Ab 35 34,Aa 36 4,Ai 37 35 36 4,Ah 38 37 0,Ab 39 38,Aa 40 5,Aa 2 39,Aa 3 40] [2,3]<|.ret)<|Sk [1,4])<|Re [Aa 27 4,An 28 27 1,Aa 4 28] [1,4])<|Sq (Rq [Ae 6 0] [1,6]<|Bl 2<|Lo [1,6]<|Sq (Rq [Aa 41 6,Ac 42 1 1,Ab 43 42,Ag 44 43,Am 45 41 44] [1,6,45]<|Co 45 (Sk [1,6])<|Ex 2 [])<|Sq (Bl 3<|Rq [Ad 48 1 2,Aa 49 6,Ay 50 163 48 49,Aa 7 50] [1,6,7]<|Rq [Aa 51 7,Av 52 51 0] [1,6,7,52]<|Co 52 (Rq [Ac 53 1 1,Ab 54 53,Aa 55 6,Ai 56 54 55 7,Ah 57 56 0,Ab 58 57,Aa 59 7,Aa 2 58,Aa 3 59] [2,3]<|.ret)<|Sk [1,6])<|Re [Aa 46 6,An 47 46 1,Aa 6 47] [1,6])<|Rq [Cp 2,Ae 3 0] [2,3]<|.ret) [.tmp 2,.tmp 3]:=by decide +kernel
instance rg (t:AD):Ct prog (He t) 94 [AP t] (fun r=>.tp [eS r.1,eI r.2]):=Fi mc fun r h hw hR=>by
  unfold He at h
  have:HA 0 4 1 0 fun (i0:Int) (_:Unit)=>[(4,.tv (eI i0))]:=⟨⟩
  have:HA 2 6 1 1 fun (i2:Int) (_:Unit)=>[(6,.tv (eI i2))]:=⟨⟩
  exact au
theorem fY:CK f164 (Rq [Aj 2] [0]<|Rq [Aa 3 0,Bj 4 3 0,Aa 5 4,As 6 0 5,Ci 7 6 99 5,Ar 8 5 7,Aa 2 8] [2]<|.ret) [.tmp 2]:=by decide +kernel
instance oL (n:Int):Ct prog (J6 n) 164 [eI n] (fun r=>.sh (eB r)):=Fi fY fun r h hw hR=>by
  unfold J6 at h
  exact au
theorem fZ:CK f165 (Rq [Af 2 0,Aj 4] [1,2]<|Rq [Ac 5 2 0,Ab 6 5,Ba 7 164 6,Aa 8 7,Aw 9 2 1 8,Ax 10 9 8,Ek 11 10 0 8,Ar 12 8 11,Aa 13 12,Aw 14 2 1 13,Ax 15 14 13,As 16 1 13,Du 17 15 16 13,Ar 18 13 17,Aa 19 18,Aw 20 2 2 19,Ax 21 20 19,Ek 22 21 0 19,Ar 23 19 22,Aa 24 23,Aw 25 2 2 24,Ax 26 25 24,As 27 1 24,Du 28 26 27 24,Ar 29 24 28,Aa 4 29] [4]<|.ret) [.tmp 4]:=by decide +kernel
instance oM (e:CY) (nodes:Int):Ct prog (L3 e nodes) 165 [DZ e,eI nodes] (fun r=>.sh (eB r)):=Fi fZ fun r h hw hR=>by
  unfold L3 at h
  exact au
theorem md:CK f95 (Rq [Af 1 0,Ae 2 0] [1]<|Sq (Rq [Ac 5 1 0,Ab 6 5,Ag 7 6,Bn 8 7 40,Aa 9 8,Ap 10 1 1 9,Al 11 10 9,Bh 12 11 9,Cd 13 12 80 9,Aq 14 9 13] [1,14]<|Co 14 (Rq [Ae 2 3] [2]<|.ret)<|Sk [1])<|Sq (Rq [Ae 3 0] [1,3]<|Bl 0<|Lo [1,3]<|Sq (Rq [Aa 15 3,Ac 16 1 0,Ab 17 16,Ag 18 17,Am 19 15 18] [1,3,19]<|Co 19 (Sk [1,3])<|Ex 0 [1])<|Sq (Bl 1<|Rq [Ac 22 1 0,Ab 23 22,Aa 24 3,Ai 25 23 24 1,Ab 26 25,Ba 27 164 26,Bb 28 27] [1,3,28]<|Co 28 (Rq [Ae 2 6] [2]<|.ret)<|Sk [1,3])<|Re [Aa 20 3,An 21 20 1,Aa 3 21] [1,3])<|Sq (Rq [Ae 4 0] [1,4]<|Bl 2<|Lo [1,4]<|Sq (Rq [Aa 29 4,Ac 30 1 1,Ab 31 30,Ag 32 31,Am 33 29 32] [1,4,33]<|Co 33 (Sk [1,4])<|Ex 2 [])<|Sq (Bl 3<|Sq (Dr [36,37,38,39,40,41,42,43,44,45] [Ac 36 1 1,Ab 37 36,Aa 38 4,Ai 39 37 38 3,Ad 40 39 3,Ac 41 1 0,Ab 42 41,Ag 43 42,Ay 44 165 40 43,Bb 45 44] [1,4,45])<|Co 45 (Rq [Ae 2 6] [2]<|.ret)<|Sk [1,4])<|Re [Aa 34 4,An 35 34 1,Aa 4 35] [1,4])<|Rq [Ae 2 0] [2]<|.ret) [.tmp 2]:=by decide +kernel
instance rh (g:Graph):Ct prog (F1 g) 95 [CA g] (fun r=>.sh (eI r)):=Fi md fun r h hw hR=>by
  unfold F1 at h
  have:HA 0 3 1 0 fun (i0:Int) (_:Unit)=>[(3,.tv (eI i0))]:=⟨⟩
  have:HA 2 4 1 1 fun (i2:Int) (_:Unit)=>[(4,.tv (eI i2))]:=⟨⟩
  exact au
theorem me:CK f96 (Rq [Af 2 0,Af 3 1,Aj 4] [2,3]<|Sq (Rq [Ae 5 0] [2,3,5]<|Bl 0<|Lo [2,3,5]<|Sq (Rq [Aa 7 5,Ac 8 3 0,Ab 9 8,Ag 10 9,Am 11 7 10] [2,3,5,11]<|Co 11 (Sk [2,3,5])<|Ex 0 [2,3])<|Sq (Bl 1<|Sq (Dr [14,15,16,17,18,19,20,21,22,23,24,25,26,27,28,29,30] [Ac 14 3 0,Ab 15 14,Aa 16 5,Ai 17 15 16 1,Ab 18 17,By 19 18 0,Aa 20 19,Ap 21 3 0 20,Al 22 21 20,Au 23 5 20,Bx 24 22 23 1 20,Al 25 24 20,Ap 26 2 0 20,Al 27 26 20,Bh 28 27 20,Bu 29 25 28 20,Aq 30 20 29] [2,3,5,30])<|Co 30 (Rq [Aj 4] [4]<|.ret)<|Sk [2,3,5])<|Re [Aa 12 5,An 13 12 1,Aa 5 13] [2,3,5])<|Sq (Rq [Ae 6 0] [2,3,6]<|Bl 2<|Lo [2,3,6]<|Sq (Rq [Aa 31 6,Ac 32 3 1,Ab 33 32,Ag 34 33,Am 35 31 34] [2,3,6,35]<|Co 35 (Sk [2,3,6])<|Ex 2 [])<|Sq (Bl 3<|Sq (Dr [38,39,40,41,42,43,44,45,46,47,48,49,50,51,52,53,54,55,56] [Ac 38 3 1,Ab 39 38,Aa 40 6,Ai 41 39 40 3,Ah 42 41 0,Ab 43 42,By 44 43 0,Aa 45 44,Ap 46 3 1 45,Al 47 46 45,Au 48 6 45,Bx 49 47 48 3 45,Bq 50 49 0 45,Al 51 50 45,Ap 52 2 1 45,Al 53 52 45,Bh 54 53 45,Bu 55 51 54 45,Aq 56 45 55] [2,3,6,56])<|Co 56 (Rq [Aj 4] [4]<|.ret)<|Sk [2,3,6])<|Re [Aa 36 6,An 37 36 1,Aa 6 37] [2,3,6])<|Rq [Bt 4] [4]<|.ret) [.tmp 4]:=by decide +kernel
instance ri (t:AD) (g:Graph):Ct prog (IV t g) 96 [AP t,CA g] (fun r=>.sh (eB r)):=Fi me fun r h hw hR=>by
  unfold IV at h
  have:HA 0 5 3 0 fun (i0:Int) (_:Unit)=>[(5,.tv (eI i0))]:=⟨⟩
  have:HA 2 6 3 1 fun (i2:Int) (_:Unit)=>[(6,.tv (eI i2))]:=⟨⟩
  exact au
theorem fx:CK f185 (Rq [Af 3 0,Ae 6 0] [1,2,3]<|Sq (Rq [Ad 10 3 2,Ba 11 94 10,Aa 9 11,Ak 12 9 0,Ak 13 9 1,Aa 7 12,Aa 8 13] [1,2,3,8]<|Rq [Aa 14 8,Av 15 14 0] [1,2,3,8,15]<|Co 15 (Rq [Aa 16 8,Aa 6 16] [6]<|.ret)<|Sk [1,2,3])<|Sq (Rq [Aa 17 1,Ac 18 3 0,Ab 19 18,Ag 20 19,Cy 21 20 1,Et 22 188 17 0 21,Bb 23 22,Aa 24 23,Au 25 2 24,Ap 26 3 0 24,Al 27 26 24,Bh 28 27 24,Ez 29 28 1 24,Ge 30 188 25 0 29 24,Bp 31 30 24,Aq 32 24 31] [32]<|Co 32 (Rq [Ae 6 6] [6]<|.ret)<|Sk [])<|Rq [Ae 6 0] [6]<|.ret) [.tmp 6]:=by decide +kernel
instance oe (t:AD) (a:Int) (b:Int):Ct prog (JT t a b) 185 [AP t,eI a,eI b] (fun r=>.sh (eI r)):=Fi fx fun r h hw hR=>by
  unfold JT at h
  exact au
theorem ew:CK f121 (Rq [Af 2 0,Bc 4 4,Ae 5 0] [1,2]<|Sq (Rq [Ad 11 2 2,Aa 12 1,Aa 13 1,Bg 14 185 11 12 13,Aa 6 14] [1,2,6]<|Rq [Aa 15 6,Av 16 15 0] [1,2,6,16]<|Co 16 (Rq [Aa 17 6,Bc 4 4,Aa 5 17] [4,5]<|.ret)<|Sk [1,2])<|Rq [Bc 7 4] [1,2,7]<|Rq [Ad 18 2 2,Aa 19 1,Ay 20 186 18 19,Be 8 20] [7,8]<|Sq (Rq [Ae 9 0] [7,8,9]<|Bl 0<|Lo [7,8,9]<|Sq (Rq [Aa 21 9,Aa 22 8,Ag 23 22,Am 24 21 23] [7,8,9,24]<|Co 24 (Sk [7,8,9])<|Ex 0 [7])<|Sq (Bl 1<|Rq [Aa 27 8,Aa 28 9,Ai 29 27 28 4,Ad 30 29 4,Dp 10 0 0 1,Ao 4 10 30] [7,8,9,10]<|Rq [Di 31 1,Ac 32 10 3,Ab 33 32,Bz 34 1 31 33,Ac 35 10 3,Ei 1 35 34] [7,8,9,10]<|Re [Be 36 7,Ad 37 10 4,Br 38 4 37,Bz 39 4 36 38,Be 7 39] [7,8,9])<|Re [Aa 25 9,An 26 25 1,Aa 9 26] [7,8,9])<|Rq [Aa 40 7,Be 4 40,Ae 5 0] [4,5]<|.ret) [.tmp 4,.tmp 5]:=by decide +kernel
instance nh (t:AD) (a:Int):Ct prog (JR t a) 121 [AP t,eI a] (fun r=>.tp [lA r.1,eI r.2]):=Fi ew fun r h hw hR=>by
  unfold JR at h
  have:HA 0 9 8 0 fun (i0:Int) (s0:List Attr)=>[(7,.ow (lA s0)),(9,.tv (eI i0))]:=⟨⟩
  exact au
theorem mf:CK f97 (Rq [Af 4 0,Af 5 1,Dp 8 0 0 1,Aj 9] [2,3,4,5,8]<|Sq (Rq [Aa 12 2,By 13 12 0,Aa 14 13,Au 15 2 14,Ap 16 5 0 14,Bq 17 16 0 14,Al 18 17 14,Bh 19 18 14,Bu 20 15 19 14,Aq 21 14 20] [2,3,4,5,8,21]<|Co 21 (Rq [Eu 22 0 0 1,Ao 4 8 22,Aj 9] [8,9]<|.ret)<|Sk [2,3,4,5,8])<|Sq (Dr [10,11,23,24,25,26,27,28,29,30,31,32,33] [Ad 24 4 2,Ac 25 5 0,Ah 26 25 0,Ab 27 26,Aa 28 2,Ai 29 27 28 1,Ab 30 29,Ay 31 121 24 30,Aa 23 31,Ak 32 23 0,Ak 33 23 1,Be 10 32,Aa 11 33] [3,8,10,11])<|Sq (Rq [Aa 34 11,Av 35 34 0,Aa 36 35,Au 37 3 36,Gl 38 37 0 36,Aq 39 36 38,Aa 40 39,Au 41 3 40,Au 42 10 40,Bh 43 42 40,Bu 44 41 43 40,Aq 45 40 44] [3,8,10,45]<|Co 45 (Rq [Eu 46 0 0 1,Ao 4 8 46,Aj 9] [8,9]<|.ret)<|Sk [3,8,10])<|Rq [Aa 47 10,Aa 48 3,Ai 49 47 48 4,Ad 50 49 4,Ao 4 8 50,Bt 9] [8,9]<|.ret) [.cell 8 (some 4),.tmp 9]:=by decide +kernel
instance rj (t:AD) (p:Pattern) (node:Int) (index:Int):Ct prog (LS t p node index) 97 [AP t,BE p,eI node,eI index] (fun r=>.tp [HY r.1,eB r.2]):=Fi mf fun r h hw hR=>by
  unfold LS at h
  exact au
theorem mg:CK f98 (Rq [Aj 2] [0]<|Rq [Aa 3 0,⟨some 4,.bin (.i) .geq (.s 3) (.c (.int .i64 (-1000000))),none⟩,Aa 5 4,As 6 0 5,Ci 7 6 1000000 5,Ar 8 5 7,Aa 2 8] [2]<|.ret) [.tmp 2]:=by decide +kernel
instance rk (n:Int):Ct prog (Kl n) 98 [eI n] (fun r=>.sh (eB r)):=Fi mg fun r h hw hR=>by
  unfold Kl at h
  exact au
theorem gc:CK f226 (Rq [Af 3 1,Ae 4 0] [0,3]<|Sq (Rq [Ac 5 3 0,Ab 6 5,Ee 7 6 (-1),Aa 8 7,Ap 9 3 0 8,Al 10 9 8,Au 11 0 8,Bu 12 10 11 8,Aq 13 8 12,Aa 14 13,Ap 15 3 1 14,Al 16 15 14,Gv 17 16 (-1000000) 14,Aq 18 14 17,Aa 19 18,Ap 20 3 1 19,Al 21 20 19,Cd 22 21 1000000 19,Aq 23 19 22] [23]<|Co 23 (Rq [Ae 4 6] [4]<|.ret)<|Sk [])<|Rq [Ae 4 0] [4]<|.ret) [.tmp 4]:=by decide +kernel
instance pI (n:Int) (t:Term):Ct prog (Ip n t) 226 [eI n,Ma t] (fun r=>.sh (eI r)):=Fi gc fun r h hw hR=>by
  unfold Ip at h
  exact au
theorem fa:CK f166 (Rq [Af 3 1,Ae 4 0] [0,3]<|Sq (Rq [Ac 6 3 0,Ab 7 6,Av 8 7 1,Aa 9 8,Aw 10 3 0 9,Ax 11 10 9,Ew 12 11 2 9,Ar 13 9 12] [0,3,13]<|Co 13 (Rq [Ae 4 1] [4]<|.ret)<|Sk [0,3])<|Sq (Rq [Aa 14 0,Ac 15 3 1,Ad 16 15 2,Ay 17 226 14 16,Aa 5 17] [0,3,5]<|Rq [Aa 18 5,Av 19 18 0] [0,3,5,19]<|Co 19 (Rq [Aa 20 5,Aa 4 20] [4]<|.ret)<|Sk [0,3])<|Rq [Aa 21 0,Ac 22 3 3,Ad 23 22 2,Ay 24 226 21 23,Aa 4 24] [4]<|.ret) [.tmp 4]:=by decide +kernel
instance oN (n:Int) (x_1:Test):Ct prog (MF n x_1) 166 [eI n,Kh x_1] (fun r=>.sh (eI r)):=Fi fa fun r h hw hR=>by
  unfold MF at h
  exact au
theorem mh:CK f99 (Rq [Ae 4 0] [0,1]<|Sq (Rq [Aa 7 0,By 8 7 0,Aa 9 8,Au 10 0 9,Cd 11 10 12 9,Aq 12 9 11] [0,1,12]<|Co 12 (Rq [Ae 4 6] [4]<|.ret)<|Sk [0,1])<|Sq (Rq [Aa 13 1,Ag 14 13,Bn 15 14 40] [0,1,15]<|Co 15 (Rq [Ae 4 3] [4]<|.ret)<|Sk [0,1])<|Sq (Rq [Ae 5 0] [0,1,5]<|Bl 0<|Lo [0,1,5]<|Sq (Rq [Aa 16 5,Aa 17 1,Ag 18 17,Am 19 16 18] [0,1,5,19]<|Co 19 (Sk [0,1,5])<|Ex 0 [])<|Sq (Bl 1<|Rq [Aa 22 0,Aa 23 1,Aa 24 5,Ai 25 23 24 5,Ad 26 25 5,Ay 27 166 22 26,Aa 6 27] [0,1,5,6]<|Rq [Aa 28 6,Av 29 28 0] [0,1,5,6,29]<|Co 29 (Rq [Aa 30 6,Aa 4 30] [4]<|.ret)<|Sk [0,1,5])<|Re [Aa 20 5,An 21 20 1,Aa 5 21] [0,1,5])<|Rq [Ae 4 0] [4]<|.ret) [.tmp 4]:=by decide +kernel
instance rl (n:Int) (l:List Test):Ct prog (KU n l) 99 [eI n,lT l] (fun r=>.sh (eI r)):=Fi mh fun r h hw hR=>by
  unfold KU at h
  have:HA 0 5 1 0 fun (i0:Int) (_:Unit)=>[(5,.tv (eI i0))]:=⟨⟩
  exact au
theorem eT:CK f100 (Rq [Af 2 0,Aj 4] [1,2]<|Sq (Rq [Ae 5 0] [1,2,5]<|Bl 0<|Lo [1,2,5]<|Sq (Rq [Aa 6 5,Ac 7 2 2,Ab 8 7,Ag 9 8,Am 10 6 9] [1,2,5,10]<|Co 10 (Sk [1,2,5])<|Ex 0 [])<|Sq (Bl 1<|Rq [Ac 13 2 2,Ab 14 13,Aa 15 5,Ai 16 14 15 4,Ah 17 16 2,Ah 18 17 0,Ab 19 18,Aa 20 1,Cl 21 19 20] [1,2,5,21]<|Co 21 (Rq [Bt 4] [4]<|.ret)<|Sk [1,2,5])<|Re [Aa 11 5,An 12 11 1,Aa 5 12] [1,2,5])<|Rq [Aj 4] [4]<|.ret) [.tmp 4]:=by decide +kernel
instance nL (p:Pattern) (v_1:Int):Ct prog (Jv p v_1) 100 [BE p,eI v_1] (fun r=>.sh (eB r)):=Fi eT fun r h hw hR=>by
  unfold Jv at h
  have:HA 0 5 2 2 fun (i0:Int) (_:Unit)=>[(5,.tv (eI i0))]:=⟨⟩
  exact au
theorem lv:CK f42 (Rq [Af 2 0,Af 3 1,Ae 4 0] [2,3]<|Sq (Rq [Ad 15 2 2,Ba 16 94 15,Aa 14 16,Ak 17 14 0,Ak 18 14 1,Aa 5 17,Aa 6 18] [2,3,6]<|Rq [Aa 19 6,Av 20 19 0] [2,3,6,20]<|Co 20 (Rq [Aa 21 6,Aa 4 21] [4]<|.ret)<|Sk [2,3])<|Sq (Rq [Ac 22 3 0,Ad 23 22 2,Ba 24 95 23,Aa 7 24] [2,3,7]<|Rq [Aa 25 7,Av 26 25 0] [2,3,7,26]<|Co 26 (Rq [Aa 27 7,Aa 4 27] [4]<|.ret)<|Sk [2,3])<|Sq (Rq [Ad 28 2 2,Ac 29 3 0,Ad 30 29 2,Ay 31 96 28 30,Bb 32 31] [2,3,32]<|Co 32 (Rq [Ae 4 13] [4]<|.ret)<|Sk [2,3])<|Sq (Rq [Ac 33 3 3,Ab 34 33,By 35 34 0,Aa 36 35,Ap 37 3 3 36,Al 38 37 36,Cd 39 38 12 36,Aq 40 36 39] [2,3,40]<|Co 40 (Rq [Ae 4 6] [4]<|.ret)<|Sk [2,3])<|Sq (Rq [Ac 41 3 2,Ab 42 41,Ag 43 42,Bn 44 43 10,Aa 45 44,Ap 46 3 4 45,Al 47 46 45,Bh 48 47 45,Cd 49 48 10 45,Aq 50 45 49] [2,3,50]<|Co 50 (Rq [Ae 4 3] [4]<|.ret)<|Sk [2,3])<|Sq (Rq [Ae 8 0] [2,3,8]<|Bl 0<|Lo [2,3,8]<|Sq (Rq [Aa 51 8,Ac 52 3 2,Ab 53 52,Ag 54 53,Am 55 51 54] [2,3,8,55]<|Co 55 (Sk [2,3,8])<|Ex 0 [3])<|Sq (Bl 1<|Rq [Ac 58 3 2,Ab 59 58,Aa 60 8,Ai 61 59 60 4,Ad 62 61 4,Dq 9 0 0 0 0,Ao 4 9 62] [2,3,8,9]<|Rq [Ad 64 2 2,Ad 65 3 5,Ac 66 9 0,Ab 67 66,Ac 68 9 1,Ab 69 68,Cw 70 97 64 65 67 69,Aa 63 70,Ak 71 63 0,Ak 72 63 1,Dp 10 0 0 1,Ao 4 10 71,Aa 11 72] [2,3,8,9,11]<|Rq [Aa 73 11,Bb 74 73,Aa 75 74,Ap 76 9 2 75,Bq 77 76 0 75,Al 78 77 75,Gv 79 78 (-1) 75,Aq 80 75 79,Aa 81 80,Ap 82 9 2 81,Bq 83 82 0 81,Al 84 83 81,Ap 85 3 3 81,Al 86 85 81,Bu 87 84 86 81,Aq 88 81 87,Aa 89 88,Ap 90 9 2 89,Bq 91 90 1 89,Al 92 91 89,Db 93 98 92 89,Bp 94 93 89,Aq 95 89 94] [2,3,8,95]<|Co 95 (Rq [Ae 4 6] [4]<|.ret)<|Sk [2,3,8])<|Re [Aa 56 8,An 57 56 1,Aa 8 57] [2,3,8])<|Sq (Rq [Ac 96 3 3,Ab 97 96,Ac 98 3 4,Ab 99 98,Ay 100 99 97 99,Aa 12 100] [3,12]<|Rq [Aa 101 12,Av 102 101 0] [3,12,102]<|Co 102 (Rq [Aa 103 12,Aa 4 103] [4]<|.ret)<|Sk [3])<|Sq (Rq [Ae 13 0] [3,13]<|Bl 2<|Lo [3,13]<|Sq (Rq [Aa 104 13,Ac 105 3 3,Ab 106 105,Am 107 104 106] [3,13,107]<|Co 107 (Sk [3,13])<|Ex 2 [])<|Sq (Bl 3<|Rq [Ad 110 3 5,Aa 111 13,Ay 112 100 110 111,Bb 113 112] [3,13,113]<|Co 113 (Rq [Ae 4 9] [4]<|.ret)<|Sk [3,13])<|Re [Aa 108 13,An 109 108 1,Aa 13 109] [3,13])<|Rq [Ae 4 0] [4]<|.ret) [.tmp 4]:=by decide +kernel
instance q0 (t:AD) (p:Pattern):Ct prog (IX t p) 42 [AP t,BE p] (fun r=>.sh (eI r)):=Fi lv fun r h hw hR=>by
  unfold IX at h
  have:HA 0 8 3 2 fun (i0:Int) (_:Unit)=>[(8,.tv (eI i0))]:=⟨⟩
  have:HA 2 13 3 3 fun (i2:Int) (_:Unit)=>[(13,.tv (eI i2))]:=⟨⟩
  exact au
theorem gf:CK f227 (Rq [Af 1 0,Aj 2] [1]<|Rq [Ac 4 1 2,Ah 5 4 0,Ab 6 5,Ag 7 6,Ac 8 1 2,Ah 9 8 1,Ab 10 9,Ag 11 10,Bo 12 7 11,Ac 13 1 4,Ah 14 13 0,Ah 15 14 0,Ab 16 15,Ag 17 16,Bo 18 12 17,Ac 19 1 4,Ah 20 19 0,Ah 21 20 1,Ab 22 21,Ag 23 22,Bo 24 18 23,Az 25 24 0,Aa 3 25] [1,3]<|Rq [Aa 26 3,Aa 27 26,Aw 28 1 4 27,Bm 29 28 2 27,Ax 30 29 27,Cb 31 30 27,Aw 32 1 4 27,Bm 33 32 4 27,Ax 34 33 27,Cb 35 34 27,Eb 36 31 35 27,Cs 37 36 0 27,Ar 38 27 37,Aa 39 38,Aw 40 1 4 39,Bm 41 40 3 39,Ax 42 41 39,Cs 43 42 0 39,Ar 44 39 43,Aa 2 44] [2]<|.ret) [.tmp 2]:=by decide +kernel
instance pJ (c:AB):Ct prog (Hu c) 227 [AJ c] (fun r=>.sh (eB r)):=Fi gf fun r h hw hR=>by
  unfold Hu at h
  exact au
theorem fb:CK f167 (Rq [Af 1 0,Aj 2] [1]<|Sq (Rq [Ac 3 1 0,Ab 4 3] [1,4]<|Bl 0<|Rq [Az 6 4 1,Aa 5 6] [1,4,5]<|Co 5 (Rq [Ac 7 1 1,Ab 8 7,Ag 9 8,Az 10 9 0,Aa 11 10,Bf 12 1 9 11,Bw 13 227 12 11,Ar 14 11 13,Aa 2 14] [2]<|.ret)<|Rq [Az 16 4 2,Aa 15 16] [1,4,15]<|Co 15 (Rq [Ac 17 1 1,Ab 18 17,Ag 19 18,Az 20 19 1,Aa 21 20,Bf 22 1 9 21,Bw 23 227 22 21,Ar 24 21 23,Aa 2 24] [2]<|.ret)<|Sq (Rq [Az 26 4 3,Aa 25 26] [1,4,25]<|Co 25 (Sk [1,4,25])<|Re [Az 27 4 4,Aa 25 27] [1,4,25])<|Co 25 (Rq [Ac 28 1 1,Ab 29 28,Ag 30 29,Bn 31 30 0,Aa 32 31,Bf 33 1 9 32,Bw 34 227 33 32,Ar 35 32 34,Aa 2 35] [2]<|.ret)<|Rq [Az 37 4 5,Aa 36 37] [1,36]<|Co 36 (Rq [Ac 38 1 1,Ab 39 38,Ag 40 39,Az 41 40 1,Aa 2 41] [2]<|.ret)<|Sk [])<|Rq [Aj 2] [2]<|.ret) [.tmp 2]:=by decide +kernel
instance oO (c:AB):Ct prog (Kf c) 167 [AJ c] (fun r=>.sh (eB r)):=Fi fb fun r h hw hR=>by
  unfold Kf at h
  have:HJ 25 fun (w1:Bool)=>[(25,.tv (eB w1))]:=⟨⟩
  exact au
theorem eU:CK f101 (Rq [Af 1 0,Aj 2] [1]<|Sq (Rq [Ad 4 1 9,Ba 5 167 4,Bb 6 5] [1,6]<|Co 6 (Rq [Aj 2] [2]<|.ret)<|Sk [1])<|Sq (Rq [Ae 3 0] [1,3]<|Bl 0<|Lo [1,3]<|Sq (Rq [Aa 7 3,Ac 8 1 1,Ab 9 8,Ag 10 9,Am 11 7 10] [1,3,11]<|Co 11 (Sk [1,3])<|Ex 0 [])<|Sq (Bl 1<|Rq [Ac 14 1 1,Ab 15 14,Aa 16 3,Ai 17 15 16 9,Ad 18 17 9,Ba 19 101 18,Bb 20 19] [1,3,20]<|Co 20 (Rq [Aj 2] [2]<|.ret)<|Sk [1,3])<|Re [Aa 12 3,An 13 12 1,Aa 3 13] [1,3])<|Rq [Bt 2] [2]<|.ret) [.tmp 2]:=by decide +kernel
theorem dy (n:Nat) (_ih_101:∀ (c:AB),Ct prog (E5 n c) 101 [AJ c] (fun r=>.sh (eB r))) (c:AB):Ct prog (E5 (n+1) c) 101 [AJ c] (fun r=>.sh (eB r)):=Fi eU fun r h hw hR=>by
  unfold E5 at h
  have:HA 0 3 1 1 fun (i0:Int) (_:Unit)=>[(3,.tv (eI i0))]:=⟨⟩
  exact au
theorem dx:∀ n:Nat,(∀ (c:AB),Ct prog (E5 n c) 101 [AJ c] (fun r=>.sh (eB r))):=by
  intro n
  induction n with
  | zero=>exact (fun c=>⟨fun _ h=>by cases h⟩)
  | succ n ih=>exact dy n ih
instance nM (c:AB):Ct prog (Lp c) 101 [AJ c] (fun r=>.sh (eB r)):=⟨fun r h=>by
  obtain ⟨N,hN⟩:=DB h
  exact ((dx N) c).snd r (hN N (Nat.le_refl _))⟩
theorem eV:CK f102 (Rq [Af 1 0,Ae 2 0,Ae 3 0] [1]<|Rq [Ae 4 1,Ae 5 0] [1,4,5]<|Sq (Rq [Ae 6 0] [1,4,5,6]<|Bl 0<|Lo [1,4,5,6]<|Sq (Rq [Aa 9 6,Ac 10 1 1,Ab 11 10,Ag 12 11,Am 13 9 12] [1,4,5,6,13]<|Co 13 (Sk [1,4,5,6])<|Ex 0 [1,4,5])<|Sq (Bl 1<|Rq [Ac 17 1 1,Ab 18 17,Aa 19 6,Ai 20 18 19 9,Ad 21 20 9,Ba 22 102 21,Aa 16 22,Ak 23 16 0,Ak 24 16 1,Aa 7 23,Aa 8 24] [1,4,5,6,7,8]<|Re [Aa 25 4,Aa 26 7,Bo 27 25 26,Aa 28 5,Aa 29 8,Fw 30 28 29,Aa 4 27,Aa 5 30] [1,4,5,6])<|Re [Aa 14 6,An 15 14 1,Aa 6 15] [1,4,5,6])<|Sq (Rq [Ac 31 1 0,Ab 32 31,Az 33 32 5] [4,5,33]<|Co 33 (Re [Aa 34 5,An 35 34 1,Aa 5 35] [4,5])<|Sk [4,5])<|Rq [Aa 36 4,Aa 37 5,Aa 2 36,Aa 3 37] [2,3]<|.ret) [.tmp 2,.tmp 3]:=by decide +kernel
theorem d0 (n:Nat) (_ih_102:∀ (c:AB),Ct prog (FY n c) 102 [AJ c] (fun r=>.tp [eI r.1,eI r.2])) (c:AB):Ct prog (FY (n+1) c) 102 [AJ c] (fun r=>.tp [eI r.1,eI r.2]):=Fi eV fun r h hw hR=>by
  unfold FY at h
  have:HA 0 6 1 1 fun (i0:Int) (s0:Int × Int)=>[(4,.tv (eI s0.1)),(5,.tv (eI s0.2)),(6,.tv (eI i0))]:=⟨⟩
  have:HJ 33 fun (w1:Int)=>[(5,.tv (eI w1))]:=⟨⟩
  exact au
theorem dz:∀ n:Nat,(∀ (c:AB),Ct prog (FY n c) 102 [AJ c] (fun r=>.tp [eI r.1,eI r.2])):=by
  intro n
  induction n with
  | zero=>exact (fun c=>⟨fun _ h=>by cases h⟩)
  | succ n ih=>exact d0 n ih
instance nN (c:AB):Ct prog (MT c) 102 [AJ c] (fun r=>.tp [eI r.1,eI r.2]):=⟨fun r h=>by
  obtain ⟨N,hN⟩:=DB h
  exact ((dz N) c).snd r (hN N (Nat.le_refl _))⟩
theorem lw:CK f43 (Rq [Af 1 0,Ae 2 0] [1]<|Sq (Rq [Ad 5 1 9,Ba 6 101 5,Bb 7 6] [1,7]<|Co 7 (Rq [Ae 2 1] [2]<|.ret)<|Sk [1])<|Sq (Rq [Ad 9 1 9,Ba 10 102 9,Aa 8 10,Ak 11 8 0,Ak 12 8 1,Aa 3 11,Aa 4 12] [3,4]<|Rq [Aa 13 3,Bn 14 13 12,Aa 15 14,Au 16 4 15,Cd 17 16 3 15,Aq 18 15 17] [18]<|Co 18 (Rq [Ae 2 3] [2]<|.ret)<|Sk [])<|Rq [Ae 2 0] [2]<|.ret) [.tmp 2]:=by decide +kernel
instance q4 (c:AB):Ct prog (Kc c) 43 [AJ c] (fun r=>.sh (eI r)):=Fi lw fun r h hw hR=>by
  unfold Kc at h
  exact au
theorem fc:CK f168 (Rq [Af 2 0,Aj 4] [1,2]<|Sq (Rq [Ae 5 0] [1,2,5]<|Bl 0<|Lo [1,2,5]<|Sq (Rq [Aa 6 5,Ac 7 2 2,Ab 8 7,Ag 9 8,Am 10 6 9] [1,2,5,10]<|Co 10 (Sk [1,2,5])<|Ex 0 [])<|Sq (Bl 1<|Rq [Ac 13 2 2,Ab 14 13,Aa 15 5,Ai 16 14 15 4,Ah 17 16 2,Ah 18 17 0,Ab 19 18,Aa 20 1,Cl 21 19 20] [1,2,5,21]<|Co 21 (Rq [Bt 4] [4]<|.ret)<|Sk [1,2,5])<|Re [Aa 11 5,An 12 11 1,Aa 5 12] [1,2,5])<|Rq [Aj 4] [4]<|.ret) [.tmp 4]:=by decide +kernel
instance oP (p:Pattern) (v_1:Int):Ct prog (LT p v_1) 168 [BE p,eI v_1] (fun r=>.sh (eB r)):=Fi fc fun r h hw hR=>by
  unfold LT at h
  have:HA 0 5 2 2 fun (i0:Int) (_:Unit)=>[(5,.tv (eI i0))]:=⟨⟩
  exact au
theorem eW:CK f103 (Rq [Af 3 0,Af 5 2,Ae 6 0] [1,3,5]<|Sq (Rq [Ac 9 5 3,Ab 10 9,Aa 11 1,Am 12 10 11] [1,3,5,12]<|Co 12 (Rq [Ae 6 20] [6]<|.ret)<|Sk [1,3,5])<|Rq [Ad 13 3 2,Ad 14 5 5,Ay 15 42 13 14,Aa 7 15] [1,5,7]<|Sq (Rq [Aa 16 7,Av 17 16 9] [1,5,7,17]<|Co 17 (Rq [Aa 18 7,Aa 6 18] [6]<|.ret)<|Sk [1,5,7])<|Sq (Rq [Aa 19 1,Aa 8 19] [5,7,8]<|Bl 0<|Lo [5,7,8]<|Sq (Rq [Aa 20 8,Ac 21 5 3,Ab 22 21,Am 23 20 22] [5,7,8,23]<|Co 23 (Sk [5,7,8])<|Ex 0 [])<|Sq (Bl 1<|Rq [Ad 26 5 5,Aa 27 8,Ay 28 168 26 27,Bb 29 28] [5,7,8,29]<|Co 29 (Rq [Aa 30 7,Aa 6 30] [6]<|.ret)<|Sk [5,7,8])<|Re [Aa 24 8,An 25 24 1,Aa 8 25] [5,7,8])<|Rq [Ae 6 0] [6]<|.ret) [.tmp 6]:=by decide +kernel
instance nO (t:AD) (vars:Int) (q:Pattern):Ct prog (Ke t vars q) 103 [AP t,eI vars,BE q] (fun r=>.sh (eI r)):=Fi eW fun r h hw hR=>by
  unfold Ke at h
  have:HA 0 8 5 3 fun (i0:Int) (_:Unit)=>[(8,.tv (eI i0))]:=⟨⟩
  exact au
theorem eX:CK f104 (Rq [Af 3 0,Af 4 1,Af 5 2,Ae 6 0] [3,4,5]<|Sq (Rq [Ad 13 3 2,Ba 14 95 13,Aa 7 14] [3,4,5,7]<|Rq [Aa 15 7,Av 16 15 0] [3,4,5,7,16]<|Co 16 (Rq [Aa 17 7,Aa 6 17] [6]<|.ret)<|Sk [3,4,5])<|Sq (Rq [Ad 18 4 2,Ba 19 95 18,Aa 8 19] [3,4,5,8]<|Rq [Aa 20 8,Av 21 20 0] [3,4,5,8,21]<|Co 21 (Rq [Aa 22 8,Aa 6 22] [6]<|.ret)<|Sk [3,4,5])<|Sq (Rq [Ac 23 5 0,Ab 24 23,Ag 25 24,Ac 26 3 0,Ab 27 26,Ag 28 27,Bi 29 25 28,Aa 30 29,Ap 31 5 1 30,Al 32 31 30,Bh 33 32 30,Ap 34 3 1 30,Al 35 34 30,Bh 36 35 30,Cj 37 33 36 30,Aq 38 30 37] [3,4,5,38]<|Co 38 (Rq [Ae 6 20] [6]<|.ret)<|Sk [3,4,5])<|Sq (Rq [Ae 9 0] [3,4,5,9]<|Bl 0<|Lo [3,4,5,9]<|Sq (Rq [Aa 39 9,Ac 40 3 0,Ab 41 40,Ag 42 41,Am 43 39 42] [3,4,5,9,43]<|Co 43 (Sk [3,4,5,9])<|Ex 0 [3,4,5])<|Sq (Bl 1<|Sq (Sq (Dr [46,47,48,49,50,51,52,53,54,55,56,57,58,59,60,61,62] [Ac 46 5 0,Ab 47 46,Aa 48 9,Ai 49 47 48 1,Ab 50 49,By 51 50 0,Aa 52 51,Ap 53 5 0 52,Al 54 53 52,Au 55 9 52,Bx 56 54 55 1 52,Al 57 56 52,Ap 58 4 0 52,Al 59 58 52,Bh 60 59 52,Bu 61 57 60 52,Aq 62 52 61] [3,4,5,9,62])<|Co 62 (Rq [Ae 6 6] [6]<|.ret)<|Sk [3,4,5,9])<|Sq (Dr [63,64,65,66,67,68,69,70,71,72,73,74,75,76,77] [Ac 63 4 0,Ab 64 63,Ac 65 5 0,Ab 66 65,Aa 67 9,Ai 68 66 67 1,Ab 69 68,Ai 70 64 69 1,Ab 71 70,Ac 72 3 0,Ab 73 72,Aa 74 9,Ai 75 73 74 1,Ab 76 75,Bi 77 71 76] [3,4,5,9,77])<|Co 77 (Rq [Ae 6 13] [6]<|.ret)<|Sk [3,4,5,9])<|Re [Aa 44 9,An 45 44 1,Aa 9 45] [3,4,5,9])<|Sq (Rq [Ae 10 0] [3,4,5,10]<|Bl 2<|Lo [3,4,5,10]<|Sq (Rq [Aa 78 10,Ac 79 3 1,Ab 80 79,Ag 81 80,Am 82 78 81] [3,4,5,10,82]<|Co 82 (Sk [3,4,5,10])<|Ex 2 [])<|Sq (Bl 3<|Sq (Sq (Dr [85,86,87,88,89,90,91,92,93,94,95,96,97,98,99,100,101] [Ac 85 5 1,Ab 86 85,Aa 87 10,Ai 88 86 87 1,Ab 89 88,By 90 89 0,Aa 91 90,Ap 92 5 1 91,Al 93 92 91,Au 94 10 91,Bx 95 93 94 1 91,Al 96 95 91,Ap 97 4 1 91,Al 98 97 91,Bh 99 98 91,Bu 100 96 99 91,Aq 101 91 100] [3,4,5,10,101])<|Co 101 (Rq [Ae 6 6] [6]<|.ret)<|Sk [3,4,5,10])<|Sq (Dr [11,12,102,103,104,105,106,107,108,109,110,111,112,113,114,115] [Ac 102 3 1,Ab 103 102,Aa 104 10,Ai 105 103 104 3,Ad 106 105 3,Ac 107 4 1,Ab 108 107,Ac 109 5 1,Ab 110 109,Aa 111 10,Ai 112 110 111 1,Ab 113 112,Ai 114 108 113 3,Ad 115 114 3,Ch 11 0 0 0,Ch 12 0 0 0,Ao 3 11 106,Ao 3 12 115] [3,4,5,10,11,12])<|Sq (Rq [Ac 116 11 0,Ab 117 116,Ac 118 12 0,Ab 119 118,Bi 120 117 119] [3,4,5,10,11,12,120]<|Co 120 (Rq [Ae 6 13] [6]<|.ret)<|Sk [3,4,5,10,11,12])<|Sq (Dr [121,122,123,124,125,126,127,128,129,130,131,132,133,134,135,136,137,138,139,140] [Ac 121 5 0,Ab 122 121,Ac 123 11 1,Ab 124 123,Ai 125 122 124 1,Ab 126 125,Ac 127 12 1,Ab 128 127,Bi 129 126 128,Aa 130 129,Ap 131 5 0 130,Al 132 131 130,Ap 133 11 2 130,Al 134 133 130,Bx 135 132 134 1 130,Al 136 135 130,Ap 137 12 2 130,Al 138 137 130,Cj 139 136 138 130,Aq 140 130 139] [3,4,5,10,140])<|Co 140 (Rq [Ae 6 11] [6]<|.ret)<|Sk [3,4,5,10])<|Re [Aa 83 10,An 84 83 1,Aa 10 84] [3,4,5,10])<|Rq [Ae 6 0] [6]<|.ret) [.tmp 6]:=by decide +kernel
instance nP (a:Graph) (b:Graph) (m:Morphism):Ct prog (JU a b m) 104 [CA a,CA b,BO m] (fun r=>.sh (eI r)):=Fi eX fun r h hw hR=>by
  unfold JU at h
  have:HA 0 9 3 0 fun (i0:Int) (_:Unit)=>[(9,.tv (eI i0))]:=⟨⟩
  have:HA 2 10 3 1 fun (i2:Int) (_:Unit)=>[(10,.tv (eI i2))]:=⟨⟩
  exact au
theorem fe:CK f169 (Rq [Aj 2] [0]<|Sq (Rq [Ae 3 0] [0,3]<|Bl 0<|Lo [0,3]<|Sq (Rq [Aa 5 3,Aa 6 0,Ag 7 6,Am 8 5 7] [0,3,8]<|Co 8 (Sk [0,3])<|Ex 0 [])<|Sq (Bl 1<|Rq [Ae 4 0] [0,3,4]<|Bl 2<|Lo [0,3,4]<|Sq (Rq [Aa 11 4,Aa 12 3,Am 13 11 12] [0,3,4,13]<|Co 13 (Sk [0,3,4])<|Ex 2 [0,3])<|Sq (Bl 3<|Sq (Dr [16,17,18,19,20,21,22,23,24] [Aa 16 0,Aa 17 3,Ai 18 16 17 1,Ab 19 18,Aa 20 0,Aa 21 4,Ai 22 20 21 1,Ab 23 22,Cl 24 19 23] [0,3,4,24])<|Co 24 (Rq [Aj 2] [2]<|.ret)<|Sk [0,3,4])<|Re [Aa 14 4,An 15 14 1,Aa 4 15] [0,3,4])<|Re [Aa 9 3,An 10 9 1,Aa 3 10] [0,3])<|Rq [Bt 2] [2]<|.ret) [.tmp 2]:=by decide +kernel
instance oQ (l:List Int):Ct prog (Hn l) 169 [lI l] (fun r=>.sh (eB r)):=Fi fe fun r h hw hR=>by
  unfold Hn at h
  have:HA 0 3 0 0 fun (i0:Int) (_:Unit)=>[(3,.tv (eI i0))]:=⟨⟩
  have:HA 2 4 3 0 fun (i2:Int) (_:Unit)=>[(4,.tv (eI i2))]:=⟨⟩
  exact au
theorem eY:CK f105 (Rq [Af 3 0,Af 4 1,Af 5 2,Aj 6] [3,4,5]<|Rq [Ad 7 3 2,Ad 8 4 2,Ad 9 5 2,Bg 10 104 7 8 9,Az 11 10 0,Aa 12 11,Aw 13 5 0 12,Ax 14 13 12,Bw 15 169 14 12,Ar 16 12 15,Aa 17 16,Aw 18 5 1 17,Ax 19 18 17,Bw 20 169 19 17,Ar 21 17 20,Aa 6 21] [6]<|.ret) [.tmp 6]:=by decide +kernel
instance nQ (a:Graph) (b:Graph) (m:Morphism):Ct prog (IL a b m) 105 [CA a,CA b,BO m] (fun r=>.sh (eB r)):=Fi eY fun r h hw hR=>by
  unfold IL at h
  exact au
theorem ly:CK f44 (Rq [Af 3 0,Af 4 1,Af 5 2,Ae 6 0] [3,4,5]<|Rq [Ad 12 4 5,Dx 7 1 3 4 0 5,Ao 5 7 12] [3,4,5,7]<|Sq (Rq [Ac 13 5 0,Ab 14 13,Az 15 14 5] [3,4,5,7,15]<|Co 15 (Sq (Rq [Ad 16 3 2,Ac 17 4 3,Ab 18 17,Ac 19 5 4,Ad 20 19 5,Bg 21 103 16 18 20,Aa 8 21] [3,4,5,7,8]<|Rq [Aa 22 8,Av 23 22 0] [3,4,5,7,8,23]<|Co 23 (Rq [Aa 24 8,Aa 6 24] [6]<|.ret)<|Sk [3,4,5,7])<|Sq (Rq [Ac 25 4 0,Ad 26 25 2,Ac 27 5 4,Ah 28 27 0,Ad 29 28 2,Ac 30 5 2,Ad 31 30 2,Bg 32 104 26 29 31,Aa 9 32] [3,4,5,7,9]<|Rq [Aa 33 9,Av 34 33 0] [3,4,5,7,9,34]<|Co 34 (Rq [Aa 35 9,Aa 6 35] [6]<|.ret)<|Sk [3,4,5,7])<|Sq (Rq [Ac 36 4 0,Ad 37 36 2,Ac 38 5 4,Ah 39 38 0,Ad 40 39 2,Ac 41 5 2,Ad 42 41 2,Bg 43 105 37 40 42,Bb 44 43] [3,5,7,44]<|Co 44 (Rq [Ae 6 1] [6]<|.ret)<|Sk [3,5,7])<|Re [Ac 45 5 4,Ad 46 45 5,Ao 5 7 46] [3,5,7])<|Sk [3,5,7])<|Sq (Rq [Ae 10 0] [3,5,7,10]<|Bl 0<|Lo [3,5,7,10]<|Sq (Rq [Aa 47 10,Ac 48 5 1,Ab 49 48,Ag 50 49,Am 51 47 50] [3,5,7,10,51]<|Co 51 (Sk [3,5,7,10])<|Ex 0 [])<|Sq (Bl 1<|Sq (Dr [11,54,55,56,57,58,59,60,61] [Ad 54 3 2,Ad 55 7 5,Ac 56 5 1,Ab 57 56,Aa 58 10,Ai 59 57 58 9,Ad 60 59 9,Bg 61 44 54 55 60,Aa 11 61] [3,5,7,10,11])<|Rq [Aa 62 11,Av 63 62 0] [3,5,7,10,11,63]<|Co 63 (Rq [Aa 64 11,Aa 6 64] [6]<|.ret)<|Sk [3,5,7,10])<|Re [Aa 52 10,An 53 52 1,Aa 10 53] [3,5,7,10])<|Rq [Ae 6 0] [6]<|.ret) [.tmp 6]:=by decide +kernel
theorem kz (n:Nat) (_ih_44:∀ (t:AD) (p:Pattern) (c:AB),Ct prog (F2 n t p c) 44 [AP t,BE p,AJ c] (fun r=>.sh (eI r))) (t:AD) (p:Pattern) (c:AB):Ct prog (F2 (n+1) t p c) 44 [AP t,BE p,AJ c] (fun r=>.sh (eI r)):=Fi ly fun r h hw hR=>by
  unfold F2 at h
  have:HA 0 10 5 1 fun (i0:Int) (_:Unit)=>[(10,.tv (eI i0))]:=⟨⟩
  exact au
theorem ky:∀ n:Nat,(∀ (t:AD) (p:Pattern) (c:AB),Ct prog (F2 n t p c) 44 [AP t,BE p,AJ c] (fun r=>.sh (eI r))):=by
  intro n
  induction n with
  | zero=>exact (fun t p c=>⟨fun _ h=>by cases h⟩)
  | succ n ih=>exact kz n ih
instance q5 (t:AD) (p:Pattern) (c:AB):Ct prog (RB t p c) 44 [AP t,BE p,AJ c] (fun r=>.sh (eI r)):=⟨fun r h=>by
  obtain ⟨N,hN⟩:=DB h
  exact ((ky N) t p c).snd r (hN N (Nat.le_refl _))⟩
theorem lW:CK f16 (Rq [Af 3 0,Af 4 1,Af 5 2,Ae 6 0] [3,4,5]<|Sq (Rq [Ad 9 3 2,Ad 10 4 5,Ay 11 42 9 10,Aa 7 11] [3,4,5,7]<|Rq [Aa 12 7,Av 13 12 0] [3,4,5,7,13]<|Co 13 (Rq [Aa 14 7,Aa 6 14] [6]<|.ret)<|Sk [3,4,5])<|Sq (Rq [Ad 15 5 9,Ba 16 43 15,Aa 8 16] [3,4,5,8]<|Rq [Aa 17 8,Av 18 17 0] [3,4,5,8,18]<|Co 18 (Rq [Aa 19 8,Aa 6 19] [6]<|.ret)<|Sk [3,4,5])<|Rq [Ad 20 3 2,Ad 21 4 5,Ad 22 5 9,Bg 23 44 20 21 22,Aa 6 23] [6]<|.ret) [.tmp 6]:=by decide +kernel
instance qf (t:AD) (p:Pattern) (c:AB):Ct prog (JX t p c) 16 [AP t,BE p,AJ c] (fun r=>.sh (eI r)):=Fi lW fun r h hw hR=>by
  unfold JX at h
  exact au
theorem mA:CK f58 (Rq [Af 1 0,Aj 2] [1]<|Sq (Rq [Ac 4 1 0,Ad 5 4 2,Ba 6 38 5,Bb 7 6,Aa 8 7,Ap 9 1 2 8,Al 10 9 8,Bh 11 10 8,Cd 12 11 45 8,Aq 13 8 12] [1,13]<|Co 13 (Rq [Aj 2] [2]<|.ret)<|Sk [1])<|Sq (Rq [Ae 3 0] [1,3]<|Bl 0<|Lo [1,3]<|Sq (Rq [Aa 14 3,Ac 15 1 2,Ab 16 15,Ag 17 16,Am 18 14 17] [1,3,18]<|Co 18 (Sk [1,3])<|Ex 0 [])<|Sq (Bl 1<|Rq [Ac 21 1 2,Ab 22 21,Aa 23 3,Ai 24 22 23 1,Ab 25 24,Ag 26 25,Bn 27 26 12] [1,3,27]<|Co 27 (Rq [Aj 2] [2]<|.ret)<|Sk [1,3])<|Re [Aa 19 3,An 20 19 1,Aa 3 20] [1,3])<|Rq [Bt 2] [2]<|.ret) [.tmp 2]:=by decide +kernel
instance rE (h_0:AY):Ct prog (K4 h_0) 58 [D2 h_0] (fun r=>.sh (eB r)):=Fi mA fun r h hw hR=>by
  unfold K4 at h
  have:HA 0 3 1 2 fun (i0:Int) (_:Unit)=>[(3,.tv (eI i0))]:=⟨⟩
  exact au
theorem mH:CK f65 (Rq [Af 3 0,Af 4 1,Af 5 2,Ae 6 0] [3,4,5]<|Sq (Rq [Ad 12 3 2,Ba 13 94 12,Aa 11 13,Ak 14 11 0,Ak 15 11 1,Aa 7 14,Aa 8 15] [3,4,5,8]<|Rq [Aa 16 8,Av 17 16 0] [3,4,5,8,17]<|Co 17 (Rq [Aa 18 8,Aa 6 18] [6]<|.ret)<|Sk [3,4,5])<|Sq (Rq [Ad 19 4 2,Ba 20 95 19,Aa 9 20] [3,4,5,9]<|Rq [Aa 21 9,Av 22 21 0] [3,4,5,9,22]<|Co 22 (Rq [Aa 23 9,Aa 6 23] [6]<|.ret)<|Sk [3,4,5])<|Sq (Rq [Ad 24 5 2,Ba 25 95 24,Aa 10 25] [3,4,5,10]<|Rq [Aa 26 10,Av 27 26 0] [3,4,5,10,27]<|Co 27 (Rq [Aa 28 10,Aa 6 28] [6]<|.ret)<|Sk [3,4,5])<|Sq (Rq [Ad 29 3 2,Ad 30 4 2,Ay 31 96 29 30,Bb 32 31,Aa 33 32,Cf 34 3 2 33,Cf 35 5 2 33,Dh 36 96 34 35 33,Bp 37 36 33,Aq 38 33 37] [38]<|Co 38 (Rq [Ae 6 13] [6]<|.ret)<|Sk [])<|Rq [Ae 6 0] [6]<|.ret) [.tmp 6]:=by decide +kernel
instance rL (t:AD) (p:Graph) (g:Graph):Ct prog (IW t p g) 65 [AP t,CA p,CA g] (fun r=>.sh (eI r)):=Fi mH fun r h hw hR=>by
  unfold IW at h
  exact au
theorem e8:CK f130 (Rq [Af 3 0,Af 4 1,Af 5 2,Aj 6] [3,4,5]<|Rq [Ad 7 3 2,Ba 8 12 7,Aa 9 8,Bf 10 4 2 9,Bw 11 38 10 9,Ar 12 9 11,Aa 13 12,Bf 14 5 2 13,Bw 15 38 14 13,Ar 16 13 15,Aa 17 16,Bf 18 3 2 17,Bf 19 4 2 17,Bf 20 5 2 17,Ef 21 65 18 19 20 17,Ew 22 21 0 17,As 23 22 17,Ap 24 4 0 23,Al 25 24 23,Bh 26 25 23,Ap 27 4 1 23,Al 28 27 23,Bh 29 28 23,⟨some 30,.bin (.i) .add (.s 26) (.s 29),some (23,false)⟩,⟨some 31,.bin (.i) .leq (.s 30) (.c (.int .i64 6)),some (23,false)⟩,Au 32 31 23,Aw 33 5 0 32,Ax 34 33 32,Cb 35 34 32,Ci 36 35 8 32,Ca 37 32 36 23,Au 38 37 23,Aw 39 5 1 38,Ax 40 39 38,Cb 41 40 38,Ci 42 41 12 38,Ca 43 38 42 23,Do 44 23 43 17,Ar 45 17 44,Aa 6 45] [6]<|.ret) [.tmp 6]:=by decide +kernel
instance nm (t:AD) (p:Graph) (g:Graph):Ct prog (KW t p g) 130 [AP t,CA p,CA g] (fun r=>.sh (eB r)):=Fi e8 fun r h hw hR=>by
  unfold KW at h
  exact au
theorem mB:CK f59 (Rq [Af 3 0,Af 4 1,Af 5 2,Aj 6] [3,4,5]<|Rq [Ad 7 4 5,Ba 8 14 7,Aa 9 8,Bf 10 5 3 9,Bw 11 58 10 9,Ar 12 9 11,Aa 13 12,Bf 14 3 2 13,Aw 15 4 0 13,Bf 16 15 2 13,Aw 17 5 0 13,Bf 18 17 2 13,Ef 19 130 14 16 18 13,Ar 20 13 19,Aa 6 20] [6]<|.ret) [.tmp 6]:=by decide +kernel
instance rF (t:AD) (p:Pattern) (h_2:AY):Ct prog (L4 t p h_2) 59 [AP t,BE p,D2 h_2] (fun r=>.sh (eB r)):=Fi mB fun r h hw hR=>by
  unfold L4 at h
  exact au
theorem mC:CK f60 (Rq [Af 1 0,Aj 2] [1]<|Sq (Rq [Ae 3 0] [1,3]<|Bl 0<|Lo [1,3]<|Sq (Rq [Aa 4 3,Ac 5 1 1,Ab 6 5,Ag 7 6,Am 8 4 7] [1,3,8]<|Co 8 (Sk [1,3])<|Ex 0 [1])<|Sq (Bl 1<|Rq [Ac 11 1 1,Ab 12 11,Aa 13 3,Ai 14 12 13 9,Ad 15 14 9,Ba 16 60 15,Bb 17 16] [1,3,17]<|Co 17 (Rq [Aj 2] [2]<|.ret)<|Sk [1,3])<|Re [Aa 9 3,An 10 9 1,Aa 3 10] [1,3])<|Rq [Ac 18 1 4,Ah 19 18 0,Ah 20 19 0,Ab 21 20,Ag 22 21,Ac 23 1 4,Ah 24 23 0,Ah 25 24 1,Ab 26 25,Ag 27 26,Bo 28 22 27,Gd 29 28 6,Aa 2 29] [2]<|.ret) [.tmp 2]:=by decide +kernel
theorem lH (n:Nat) (_ih_60:∀ (c:AB),Ct prog (GJ n c) 60 [AJ c] (fun r=>.sh (eB r))) (c:AB):Ct prog (GJ (n+1) c) 60 [AJ c] (fun r=>.sh (eB r)):=Fi mC fun r h hw hR=>by
  unfold GJ at h
  have:HA 0 3 1 1 fun (i0:Int) (_:Unit)=>[(3,.tv (eI i0))]:=⟨⟩
  exact au
theorem lG:∀ n:Nat,(∀ (c:AB),Ct prog (GJ n c) 60 [AJ c] (fun r=>.sh (eB r))):=by
  intro n
  induction n with
  | zero=>exact (fun c=>⟨fun _ h=>by cases h⟩)
  | succ n ih=>exact lH n ih
instance rG (c:AB):Ct prog (M7 c) 60 [AJ c] (fun r=>.sh (eB r)):=⟨fun r h=>by
  obtain ⟨N,hN⟩:=DB h
  exact ((lG N) c).snd r (hN N (Nat.le_refl _))⟩
theorem mD:CK f61 (Rq [Af 4 0,Af 5 1,Aj 8] [2,3,4,5]<|Rq [Ad 14 4 5,Dx 9 1 3 4 0 5,Ao 5 9 14] [2,3,4,5,9]<|Sq (Rq [Ac 15 5 0,Ab 16 15,Az 17 16 5] [2,3,4,5,9,17]<|Co 17 (Re [Ac 18 5 4,Ad 19 18 5,Ao 5 9 19] [2,3,4,5,9])<|Sk [2,3,4,5,9])<|Rq [Ae 10 1] [2,3,4,5,9,10]<|Sq (Rq [Ac 20 4 0,Ah 21 20 0,Ab 22 21,Ag 23 22,Aa 11 23] [2,3,4,5,9,10,11]<|Bl 0<|Lo [2,3,4,5,9,10,11]<|Sq (Rq [Aa 24 11,Ac 25 9 0,Ah 26 25 0,Ab 27 26,Ag 28 27,Am 29 24 28] [2,3,4,5,9,10,11,29]<|Co 29 (Sk [2,3,4,5,9,10,11])<|Ex 0 [2,3,4,5,9,10])<|Sq (Bl 1<|Re [Aa 32 10,Aa 33 2,⟨some 34,.bin (.i) .mul (.s 32) (.s 33),none⟩,Aa 10 34] [2,3,4,5,9,10,11])<|Re [Aa 30 11,An 31 30 1,Aa 11 31] [2,3,4,5,9,10,11])<|Sq (Rq [Ac 35 4 0,Ah 36 35 1,Ab 37 36,Ag 38 37,Aa 12 38] [2,3,5,9,10,12]<|Bl 2<|Lo [2,3,5,9,10,12]<|Sq (Rq [Aa 39 12,Ac 40 9 0,Ah 41 40 1,Ab 42 41,Ag 43 42,Am 44 39 43] [2,3,5,9,10,12,44]<|Co 44 (Sk [2,3,5,9,10,12])<|Ex 2 [2,3,5,9,10])<|Sq (Bl 3<|Re [Aa 47 10,Aa 48 3,⟨some 49,.bin (.i) .mul (.s 47) (.s 48),none⟩,Aa 10 49] [2,3,5,9,10,12])<|Re [Aa 45 12,An 46 45 1,Aa 12 46] [2,3,5,9,10,12])<|Sq (Rq [Ae 13 0] [2,3,5,9,10,13]<|Bl 4<|Lo [2,3,5,9,10,13]<|Sq (Rq [Aa 50 13,Ac 51 5 1,Ab 52 51,Ag 53 52,Am 54 50 53] [2,3,5,9,10,13,54]<|Co 54 (Sk [2,3,5,9,10,13])<|Ex 4 [10])<|Sq (Bl 5<|Sq (Dr [57,58,59,60,61,62,63,64,65,66] [Ad 57 9 5,Ac 58 5 1,Ab 59 58,Aa 60 13,Ai 61 59 60 9,Ad 62 61 9,Aa 63 2,Aa 64 3,Cw 65 61 57 62 63 64,Bb 66 65] [2,3,5,9,10,13,66])<|Co 66 (Rq [Aj 8] [8]<|.ret)<|Sk [2,3,5,9,10,13])<|Re [Aa 55 13,An 56 55 1,Aa 13 56] [2,3,5,9,10,13])<|Rq [Aa 67 10,Gd 68 67 5000,Aa 8 68] [8]<|.ret) [.tmp 8]:=by decide +kernel
theorem lK (n:Nat) (_ih_61:∀ (p:Pattern) (c:AB) (nodes:Int) (edges:Int),Ct prog (EN n p c nodes edges) 61 [BE p,AJ c,eI nodes,eI edges] (fun r=>.sh (eB r))) (p:Pattern) (c:AB) (nodes:Int) (edges:Int):Ct prog (EN (n+1) p c nodes edges) 61 [BE p,AJ c,eI nodes,eI edges] (fun r=>.sh (eB r)):=Fi mD fun r h hw hR=>by
  unfold EN at h
  have:HJ 17 fun (w1:Pattern)=>[(9,.bx [⟨false,lI w1.Graph.Nodes⟩,⟨false,lE w1.Graph.Edges⟩,⟨false,lS w1.Slots⟩,⟨false,eI w1.Vars⟩,⟨false,lT w1.Tests⟩])]:=⟨⟩
  have:HW 0 fun (s0:Int × Int)=>[(10,.tv (eI s0.1)),(11,.tv (eI s0.2))]:=⟨⟩
  have:HW 2 fun (s2:Int × Int)=>[(10,.tv (eI s2.1)),(12,.tv (eI s2.2))]:=⟨⟩
  have:HA 4 13 5 1 fun (i4:Int) (_:Unit)=>[(13,.tv (eI i4))]:=⟨⟩
  exact au
theorem lJ:∀ n:Nat,(∀ (p:Pattern) (c:AB) (nodes:Int) (edges:Int),Ct prog (EN n p c nodes edges) 61 [BE p,AJ c,eI nodes,eI edges] (fun r=>.sh (eB r))):=by
  intro n
  induction n with
  | zero=>exact (fun p c nodes edges=>⟨fun _ h=>by cases h⟩)
  | succ n ih=>exact lK n ih
instance rH (p:Pattern) (c:AB) (nodes:Int) (edges:Int):Ct prog (MS p c nodes edges) 61 [BE p,AJ c,eI nodes,eI edges] (fun r=>.sh (eB r)):=⟨fun r h=>by
  obtain ⟨N,hN⟩:=DB h
  exact ((lJ N) p c nodes edges).snd r (hN N (Nat.le_refl _))⟩
theorem lh:CK f28 (Rq [Af 4 0,Af 5 1,Af 6 2,Af 7 3,Aj 8] [4,5,6,7]<|Sq (Rq [Ad 9 6 9,Ba 10 13 9,Bb 11 10,Aa 12 11,Cf 13 5 5 12,Db 14 14 13 12,Bp 15 14 12,Aq 16 12 15,Aa 17 16,Cf 18 7 3 17,Db 19 58 18 17,Bp 20 19 17,Aq 21 17 20] [4,5,6,7,21]<|Co 21 (Rq [Aj 8] [8]<|.ret)<|Sk [4,5,6,7])<|Rq [Ad 22 4 2,Ad 23 5 5,Ad 24 6 9,Bg 25 16 22 23 24,Av 26 25 0,Aa 27 26,Cf 28 4 2 27,Cf 29 5 5 27,Cf 30 7 3 27,Gf 31 59 28 29 30 27,Au 32 31 27,Bf 33 6 9 32,Bw 34 60 33 32,Ca 35 32 34 27,Au 36 35 27,Aw 37 7 0 36,Bm 38 37 0 36,Ax 39 38 36,Cb 40 39 36,Ci 41 40 6 36,Ca 42 36 41 27,Au 43 42 27,Aw 44 7 0 43,Bm 45 44 1 43,Ax 46 45 43,Cb 47 46 43,Ci 48 47 8 43,Ca 49 43 48 27,Au 50 49 27,Bf 51 5 5 50,Bf 52 6 9 50,⟨some 53,.call 61 [.s 51,.s 52,.c (.int .i64 14),.c (.int .i64 18)],some (50,true)⟩,Ca 54 50 53 27,Aq 55 27 54,Aa 8 55] [8]<|.ret) [.tmp 8]:=by decide +kernel
instance qp (t:AD) (p:Pattern) (c:AB) (h_3:AY):Ct prog (Kb t p c h_3) 28 [AP t,BE p,AJ c,D2 h_3] (fun r=>.sh (eB r)):=Fi lh fun r h hw hR=>by
  unfold Kb at h
  exact au
theorem lY:CK f17 (Rq [Af 3 0,Af 4 1,Af 5 2,Aj 6] [3,4,5]<|Rq [Ad 7 3 2,Ba 8 12 7,Aa 9 8,Bf 10 3 2 9,Aw 11 4 0 9,Bf 12 11 5 9,Aw 13 4 5 9,Bf 14 13 9 9,Aw 15 5 0 9,Bf 16 15 3 9,Gc 17 28 10 12 14 16 9,Ar 18 9 17,Aa 19 18,Aw 20 5 3 19,Bm 21 20 0 19,Bm 22 21 0 19,Ax 23 22 19,Cb 24 23 19,Aw 25 5 3 19,Bm 26 25 0 19,Bm 27 26 1 19,Ax 28 27 19,Cb 29 28 19,Eb 30 24 29 19,Aw 31 5 3 19,Bm 32 31 2 19,Ax 33 32 19,Cb 34 33 19,Eb 35 30 34 19,Ci 36 35 200 19,Ar 37 19 36,Aa 6 37] [6]<|.ret) [.tmp 6]:=by decide +kernel
instance qh (t:AD) (x_1:GW) (y:M2):Ct prog (KN t x_1 y) 17 [AP t,GU x_1,Rd y] (fun r=>.sh (eB r)):=Fi lY fun r h hw hR=>by
  unfold KN at h
  exact au
theorem lf:CK f24 (Rq [Af 1 0,Ae 2 0] [1]<|Rq [Ae 3 1] [1,3]<|Sq (Rq [Ae 4 0] [1,3,4]<|Bl 0<|Lo [1,3,4]<|Sq (Rq [Aa 5 4,Ac 6 1 4,Ab 7 6,Ag 8 7,Am 9 5 8,Aa 10 9,As 11 3 10,⟨some 12,.bin (.i) .lss (.s 11) (.c (.int .i64 100)),some (10,true)⟩,Ar 13 10 12] [1,3,4,13]<|Co 13 (Sk [1,3,4])<|Ex 0 [3])<|Sq (Bl 1<|Re [Aa 16 3,Ac 17 1 4,Ab 18 17,Aa 19 4,Ai 20 18 19 5,Ad 21 20 5,Ba 22 24 21,Bo 23 16 22,Aa 3 23] [1,3,4])<|Re [Aa 14 4,An 15 14 1,Aa 4 15] [1,3,4])<|Rq [Aa 24 3,Aa 2 24] [2]<|.ret) [.tmp 2]:=by decide +kernel
theorem kj (n:Nat) (_ih_24:∀ (w:AM),Ct prog (GX n w) 24 [BZ w] (fun r=>.sh (eI r))) (w:AM):Ct prog (GX (n+1) w) 24 [BZ w] (fun r=>.sh (eI r)):=Fi lf fun r h hw hR=>by
  unfold GX at h
  have:HW 0 fun (s0:Int × Int)=>[(3,.tv (eI s0.1)),(4,.tv (eI s0.2))]:=⟨⟩
  exact au
theorem ki:∀ n:Nat,(∀ (w:AM),Ct prog (GX n w) 24 [BZ w] (fun r=>.sh (eI r))):=by
  intro n
  induction n with
  | zero=>exact (fun w=>⟨fun _ h=>by cases h⟩)
  | succ n ih=>exact kj n ih
instance qn (w:AM):Ct prog (OE w) 24 [BZ w] (fun r=>.sh (eI r)):=⟨fun r h=>by
  obtain ⟨N,hN⟩:=DB h
  exact ((ki N) w).snd r (hN N (Nat.le_refl _))⟩
theorem f0:CK f189 (Rq [Af 3 0,Aj 6] [1,2,3]<|Sq (Dr [6,7,8,9,10,11,12,13,14,15,16,17,18,19,20,21,22,23,24] [Aa 7 1,Aa 8 2,Cl 9 7 8,Aa 10 9,Au 11 1 10,⟨some 12,.bin (.i) .geq (.s 11) (.c (.int .i64 0)),some (10,false)⟩,Au 13 12 10,Bf 14 3 2 13,Aw 15 3 0 13,Ax 16 15 13,As 17 1 13,Cv 18 16 17 4 13,Bm 19 18 1 13,Ax 20 19 13,As 21 2 13,Ef 22 189 14 20 21 13,Ca 23 13 22 10,Aq 24 10 23,Aa 6 24] [6])<|.ret) [.tmp 6]:=by decide +kernel
theorem eG (n:Nat) (_ih_189:∀ (t:AD) (a:Int) (b:Int),Ct prog (GI n t a b) 189 [AP t,eI a,eI b] (fun r=>.sh (eB r))) (t:AD) (a:Int) (b:Int):Ct prog (GI (n+1) t a b) 189 [AP t,eI a,eI b] (fun r=>.sh (eB r)):=Fi f0 fun r h hw hR=>by
  unfold GI at h
  exact au
theorem eF:∀ n:Nat,(∀ (t:AD) (a:Int) (b:Int),Ct prog (GI n t a b) 189 [AP t,eI a,eI b] (fun r=>.sh (eB r))):=by
  intro n
  induction n with
  | zero=>exact (fun t a b=>⟨fun _ h=>by cases h⟩)
  | succ n ih=>exact eG n ih
instance oj (t:AD) (a:Int) (b:Int):Ct prog (Ht t a b) 189 [AP t,eI a,eI b] (fun r=>.sh (eB r)):=⟨fun r h=>by
  obtain ⟨N,hN⟩:=DB h
  exact ((eF N) t a b).snd r (hN N (Nat.le_refl _))⟩
theorem ex:CK f124 (Rq [Af 4 0,Aj 8] [1,2,3,4]<|Sq (Rq [Ad 9 4 2,Aa 10 2,Aa 11 3,Bg 12 185 9 10 11,Av 13 12 0,Aa 14 13,Au 15 1 14,Ap 16 4 1 14,Al 17 16 14,Bh 18 17 14,Ez 19 18 1 14,Ge 20 188 15 0 19 14,Bp 21 20 14,Aq 22 14 21] [1,2,3,4,22]<|Co 22 (Rq [Aj 8] [8]<|.ret)<|Sk [1,2,3,4])<|Sq (Dr [8,23,24,25,26,27,28,29,30,31,32,33,34,35,36,37,38,39,40,41,42] [Ad 23 4 2,Aa 24 2,Ac 25 4 1,Ab 26 25,Aa 27 1,Ai 28 26 27 7,Ah 29 28 1,Ab 30 29,Bg 31 189 23 24 30,Aa 32 31,Bf 33 4 2 32,As 34 3 32,Aw 35 4 1 32,Ax 36 35 32,As 37 1 32,Cv 38 36 37 7 32,Bm 39 38 2 32,Ax 40 39 32,Ef 41 189 33 34 40 32,Ar 42 32 41,Aa 8 42] [8])<|.ret) [.tmp 8]:=by decide +kernel
instance ni (t:AD) (edge:Int) (from':Int) (to':Int):Ct prog (LO t edge from' to') 124 [AP t,eI edge,eI from',eI to'] (fun r=>.sh (eB r)):=Fi ex fun r h hw hR=>by
  unfold LO at h
  exact au
theorem ff:CK f170 (Rq [Af 3 0,Ae 6 0] [1,2,3]<|Sq (Rq [Aa 10 1,Ac 11 3 0,Ab 12 11,Ag 13 12,Cm 14 10 13] [1,2,3,14]<|Co 14 (Rq [Ae 6 6] [6]<|.ret)<|Sk [1,2,3])<|Sq (Rq [Ac 15 3 0,Ab 16 15,Aa 17 1,Ai 18 16 17 4,Ah 19 18 2,Ab 20 19] [1,2,3,20]<|Co 20 (Rq [Ae 6 13] [6]<|.ret)<|Sk [1,2,3])<|Rq [Ad 22 3 2,Aa 23 1,Ay 24 121 22 23,Aa 21 24,Ak 25 21 0,Ak 26 21 1,Be 7 25,Aa 8 26] [2,7]<|Sq (Rq [Aa 27 2,Ag 28 27,Aa 29 7,Ag 30 29,Bi 31 28 30] [2,7,31]<|Co 31 (Rq [Ae 6 20] [6]<|.ret)<|Sk [2,7])<|Sq (Rq [Ae 9 0] [2,7,9]<|Bl 0<|Lo [2,7,9]<|Sq (Rq [Aa 32 9,Aa 33 7,Ag 34 33,Am 35 32 34] [2,7,9,35]<|Co 35 (Sk [2,7,9])<|Ex 0 [])<|Sq (Bl 1<|Sq (Dr [38,39,40,41,42,43,44,45,46,47,48,49,50,51,52,53,54,55,56,57,58,59] [Aa 38 2,Aa 39 9,Ai 40 38 39 1,Ab 41 40,Aa 42 7,Aa 43 9,Ai 44 42 43 4,Ah 45 44 1,Ab 46 45,Am 47 41 46,Aa 48 47,Au 49 2 48,Au 50 9 48,Bx 51 49 50 1 48,Al 52 51 48,Au 53 7 48,Au 54 9 48,Bx 55 53 54 4 48,Bq 56 55 2 48,Al 57 56 48,⟨some 58,.bin (.i) .gtr (.s 52) (.s 57),some (48,false)⟩,Aq 59 48 58] [2,7,9,59])<|Co 59 (Rq [Ae 6 6] [6]<|.ret)<|Sk [2,7,9])<|Re [Aa 36 9,An 37 36 1,Aa 9 37] [2,7,9])<|Rq [Ae 6 0] [6]<|.ret) [.tmp 6]:=by decide +kernel
instance oR (t:AD) (kind:Int) (A6:List Int):Ct prog (LR t kind A6) 170 [AP t,eI kind,lI A6] (fun r=>.sh (eI r)):=Fi ff fun r h hw hR=>by
  unfold LR at h
  have:HA 0 9 7 0 fun (i0:Int) (_:Unit)=>[(9,.tv (eI i0))]:=⟨⟩
  exact au
theorem eZ:CK f106 (Rq [Af 2 0,Af 3 1,Ae 4 0,Ae 5 0] [2,3]<|Sq (Rq [Ad 14 2 2,Ba 15 94 14,Aa 13 15,Ak 16 13 0,Ak 17 13 1,Aa 6 16,Aa 7 17] [2,3,7]<|Rq [Aa 18 7,Av 19 18 0] [2,3,7,19]<|Co 19 (Rq [Aa 20 7,Bs 4 (-1),Aa 5 20] [4,5]<|.ret)<|Sk [2,3])<|Sq (Rq [Ac 21 3 0,Ad 22 21 2,Ba 23 95 22,Aa 8 23] [2,3,8]<|Rq [Aa 24 8,Av 25 24 0] [2,3,8,25]<|Co 25 (Rq [Aa 26 8,Bs 4 (-1),Aa 5 26] [4,5]<|.ret)<|Sk [2,3])<|Sq (Rq [Ac 27 3 2,Ab 28 27,Ag 29 28,Ac 30 3 0,Ah 31 30 0,Ab 32 31,Ag 33 32,Bi 34 29 33] [2,3,34]<|Co 34 (Rq [Bs 4 (-1),Ae 5 20] [4,5]<|.ret)<|Sk [2,3])<|Sq (Rq [Ae 9 0] [2,3,9]<|Bl 0<|Lo [2,3,9]<|Sq (Rq [Aa 35 9,Ac 36 3 0,Ah 37 36 0,Ab 38 37,Ag 39 38,Am 40 35 39] [2,3,9,40]<|Co 40 (Sk [2,3,9])<|Ex 0 [2,3])<|Sq (Bl 1<|Sq (Dr [10,43,44,45,46,47,48,49,50,51,52,53,54,55] [Ad 43 2 2,Ac 44 3 0,Ah 45 44 0,Ab 46 45,Aa 47 9,Ai 48 46 47 1,Ab 49 48,Ac 50 3 2,Ab 51 50,Aa 52 9,Ai 53 51 52 1,Ab 54 53,Bg 55 170 43 49 54,Aa 10 55] [2,3,9,10])<|Rq [Aa 56 10,Av 57 56 0] [2,3,9,10,57]<|Co 57 (Rq [Aa 58 9,Aa 59 10,Aa 4 58,Aa 5 59] [4,5]<|.ret)<|Sk [2,3,9])<|Re [Aa 41 9,An 42 41 1,Aa 9 42] [2,3,9])<|Sq (Rq [Ae 11 0] [2,3,11]<|Bl 2<|Lo [2,3,11]<|Sq (Rq [Aa 60 11,Ac 61 3 0,Ah 62 61 1,Ab 63 62,Ag 64 63,Am 65 60 64] [2,3,11,65]<|Co 65 (Sk [2,3,11])<|Ex 2 [])<|Sq (Bl 3<|Rq [Ac 68 3 0,Ah 69 68 1,Ab 70 69,Aa 71 11,Ai 72 70 71 3,Ad 73 72 3,Ch 12 0 0 0,Ao 3 12 73] [2,3,11,12]<|Sq (Rq [Ac 74 12 0,Ab 75 74,Ac 76 2 1,Ab 77 76,Ag 78 77,Cm 79 75 78] [2,3,11,12,79]<|Co 79 (Rq [Aa 80 11,Aa 4 80,Ae 5 6] [4,5]<|.ret)<|Sk [2,3,11,12])<|Sq (Dr [81,82,83,84,85,86,87,88,89,90,91,92,93,94,95,96,97,98,99] [Ad 81 2 2,Ac 82 12 0,Ab 83 82,Ac 84 3 0,Ah 85 84 0,Ab 86 85,Ac 87 12 1,Ab 88 87,Ai 89 86 88 1,Ab 90 89,Ac 91 3 0,Ah 92 91 0,Ab 93 92,Ac 94 12 2,Ab 95 94,Ai 96 93 95 1,Ab 97 96,Cw 98 124 81 83 90 97,Bb 99 98] [2,3,11,99])<|Co 99 (Rq [Aa 100 11,Aa 4 100,Ae 5 13] [4,5]<|.ret)<|Sk [2,3,11])<|Re [Aa 66 11,An 67 66 1,Aa 11 67] [2,3,11])<|Rq [Bs 4 (-1),Ae 5 0] [4,5]<|.ret) [.tmp 4,.tmp 5]:=by decide +kernel
instance nR (t:AD) (h_1:AY):Ct prog (JV t h_1) 106 [AP t,D2 h_1] (fun r=>.tp [eI r.1,eI r.2]):=Fi eZ fun r h hw hR=>by
  unfold JV at h
  have:HA 0 9 3 0 fun (i0:Int) (_:Unit)=>[(9,.tv (eI i0))]:=⟨⟩
  have:HA 2 11 3 1 fun (i2:Int) (_:Unit)=>[(11,.tv (eI i2))]:=⟨⟩
  exact au
theorem fE:CK f143 (Rq [Aj 4] [0,1]<|Sq (Rq [Aa 6 0,Ag 7 6,Aa 8 1,Ag 9 8,Bi 10 7 9] [0,1,10]<|Co 10 (Rq [Aj 4] [4]<|.ret)<|Sk [0,1])<|Sq (Rq [Ae 5 0] [0,1,5]<|Bl 0<|Lo [0,1,5]<|Sq (Rq [Aa 11 5,Aa 12 0,Ag 13 12,Am 14 11 13] [0,1,5,14]<|Co 14 (Sk [0,1,5])<|Ex 0 [])<|Sq (Bl 1<|Sq (Dr [17,18,19,20,21,22,23,24,25] [Aa 17 0,Aa 18 5,Ai 19 17 18 1,Ab 20 19,Aa 21 1,Aa 22 5,Ai 23 21 22 1,Ab 24 23,Bi 25 20 24] [0,1,5,25])<|Co 25 (Rq [Aj 4] [4]<|.ret)<|Sk [0,1,5])<|Re [Aa 15 5,An 16 15 1,Aa 5 16] [0,1,5])<|Rq [Bt 4] [4]<|.ret) [.tmp 4]:=by decide +kernel
instance nv (a:List Int) (b:List Int):Ct prog (J5 a b) 143 [lI a,lI b] (fun r=>.sh (eB r)):=Fi fE fun r h hw hR=>by
  unfold J5 at h
  have:HA 0 5 0 0 fun (i0:Int) (_:Unit)=>[(5,.tv (eI i0))]:=⟨⟩
  exact au
theorem hU:CK f255 (Rq [Aj 2] [0]<|Sq (Rq [Ae 3 0] [0,3]<|Bl 0<|Lo [0,3]<|Sq (Rq [Aa 5 3,Aa 6 0,Ag 7 6,Am 8 5 7] [0,3,8]<|Co 8 (Sk [0,3])<|Ex 0 [])<|Sq (Bl 1<|Rq [Ae 4 0] [0,3,4]<|Bl 2<|Lo [0,3,4]<|Sq (Rq [Aa 11 4,Aa 12 3,Am 13 11 12] [0,3,4,13]<|Co 13 (Sk [0,3,4])<|Ex 2 [0,3])<|Sq (Bl 3<|Sq (Dr [16,17,18,19,20,21,22,23,24] [Aa 16 0,Aa 17 3,Ai 18 16 17 1,Ab 19 18,Aa 20 0,Aa 21 4,Ai 22 20 21 1,Ab 23 22,Cl 24 19 23] [0,3,4,24])<|Co 24 (Rq [Aj 2] [2]<|.ret)<|Sk [0,3,4])<|Re [Aa 14 4,An 15 14 1,Aa 4 15] [0,3,4])<|Re [Aa 9 3,An 10 9 1,Aa 3 10] [0,3])<|Rq [Bt 2] [2]<|.ret) [.tmp 2]:=by decide +kernel
instance po (l:List Int):Ct prog (Iq l) 255 [lI l] (fun r=>.sh (eB r)):=Fi hU fun r h hw hR=>by
  unfold Iq at h
  have:HA 0 3 0 0 fun (i0:Int) (_:Unit)=>[(3,.tv (eI i0))]:=⟨⟩
  have:HA 2 4 3 0 fun (i2:Int) (_:Unit)=>[(4,.tv (eI i2))]:=⟨⟩
  exact au
end Go.Sf.Sc
