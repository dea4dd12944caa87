/- Contracts of the functions. -/
import Derived.Test.YtbedpmpjdnooiaaGreatCon1
import Derived.Test.YtbedpmpjdnooiaaGreatTryzShelf
set_option maxRecDepth 100000
namespace Go.Sf.Sc
open Go Go.Sf Go.Proofs.Tryz
theorem ck116:CK f116 (Rq [Af 1 0,Bf 2 1] [1]<|Rq [Bf 3 1] [1,3]<|Sq (Rq [Ad 4 0] [1,3,4]<|Bl 0<|Lo [1,3,4]<|Sq (Rq [Aa 5 4,Ac 6 1 0,Ab 7 6,Ah 8 7,Ap 9 5 8] [1,3,4,9]<|Co 9 (Sk [1,3,4])<|Ex 0 [3])<|Sq (Bl 1<|Rq [Ac 12 1 0,Ab 13 12,Aa 14 4,Ag 15 13 14 4,Ai 16 15 2,Ab 17 16,Az 18 17] [1,3,4,18]<|Co 18 (Re [Ay 19 3,Aa 20 4,Bh 21 1 20,Bb 22 1 19 21,Ay 3 22] [1,3,4])<|Sk [1,3,4])<|Re [Aa 10 4,An 11 10 1,Aa 4 11] [1,3,4])<|Rq [Aa 23 3,Ay 2 23] [2]<|.ret) [.tmp 2]:= by decide +kernel
theorem c116 (t:Types) (r:(List Int)) (h:ref15_concrete t=some r):Sound prog 116 [eTypes t] (.sh (lI r)):= by
 refine Fn ck116 fun hw=>?_
 unfold ref15_concrete at h
 refine D<|F<|a4 rfl rfl<|f0<|E (kt<|kn) fun _=>?_
 refine D<|F<|f0<|E (kt<|ko<|kn) fun _=>?_
 refine D<|D<|F<|C rfl<|E (kt<|ko<|kt<|kn) fun _=>?_
 obtain ⟨s0,hs0,h⟩:=I h
 refine f5 hs0 (fun (i0:Int) (s0:List Int)=>[(1,.tv (.pt (eTypes t).cells)),(3,.ow (lI s0)),(4,.tv (eI i0))]) (fun (s0:List Int)=>[(3,.ow (lI s0))]) rfl ?_ ?_ ?_
 ·clear h hs0
  intro i0 s0 r0 hi0 h hw0
  refine D<|D<|F<|C rfl<|K rfl<|J rfl<|U rfl rfl<|V rfl rfl<|E (kt<|ko<|kt<|kt<|kn) fun _=>?_
  refine b5 rfl (b6 hi0)<|P (kt<|ko<|kt<|kn) fun _=>?_
  refine D<|b0<|D<|F<|K rfl<|J rfl<|C rfl ?_
  obtain ⟨x15,hx15,h⟩:=I h
  refine W rfl rfl rfl hx15 rfl<|a6 rfl<|J rfl<|d0 rfl<|E (kt<|ko<|kt<|kt<|kn) fun _=>?_
  refine S rfl (fun hc18=>?_) (fun hc18=>?_)
  ·replace h:=M hc18 h
   refine F<|f2 rfl<|C rfl<|e1 (e:=eI) (l:=[i0]) rfl rfl (fun _=>rfl) ?_
   obtain ⟨x22,hx22,h⟩:=I h
   refine e7 rfl rfl rfl rfl hx22 rfl<|f2 rfl<|E (kt<|ko<|kt<|kn) fun _=>?_
   refine F<|C rfl<|a7 rfl rfl<|C rfl<|E (kt<|ko<|kt<|kn) ?_
   cases h
   show Env.keep _ _=_
   rw [Ktv rfl (Kow rfl (Ktv rfl (Knil _)))]
   rw [b4 (a5 (hw0 4)) hi0 (e9 (g0 (g1 (hw0 1)) (i:=0) rfl) rfl)]
   all_goals rfl
  ·replace h:=O hc18 h
   refine P (kt<|ko<|kt<|kn) fun _=>?_
   refine F<|C rfl<|a7 rfl rfl<|C rfl<|E (kt<|ko<|kt<|kn) ?_
   cases h
   show Env.keep _ _=_
   rw [Ktv rfl (Kow rfl (Ktv rfl (Knil _)))]
   rw [b4 (a5 (hw0 4)) hi0 (e9 (g0 (g1 (hw0 1)) (i:=0) rfl) rfl)]
   all_goals rfl
 ·intro i0 s0 hi0
  refine D<|D<|F<|C rfl<|K rfl<|J rfl<|U rfl rfl<|V rfl rfl<|E (kt<|ko<|kt<|kt<|kn) fun _=>?_
  refine b7 rfl (b8 hi0)<|b3 (ko<|kn) ?_
  exact ⟨rfl,rfl⟩
 ·intro _
  refine D<|F<|C rfl<|f1 rfl<|E (kt<|kn) fun _=>?_
  exact L (by cases h;rfl)
theorem ck117:CK f117 (Rq [Af 2 0,Bf 4 4,Ad 5 0] [1,2]<|Sq (Rq [Ae 11 2 2,Aa 12 1,Aa 13 1,Bg 14 118 11 12 13,Aa 6 14] [1,2,6]<|Rq [Aa 15 6,Av 16 15 0] [1,2,6,16]<|Co 16 (Rq [Aa 17 6,Bf 4 4,Aa 5 17] [4,5]<|.ret)<|Sk [1,2])<|Rq [Bf 7 4] [1,2,7]<|Rq [Ae 18 2 2,Aa 19 1,Al 20 168 18 19,Ay 8 20] [7,8]<|Sq (Rq [Ad 9 0] [7,8,9]<|Bl 0<|Lo [7,8,9]<|Sq (Rq [Aa 21 9,Aa 22 8,Ah 23 22,Ap 24 21 23] [7,8,9,24]<|Co 24 (Sk [7,8,9])<|Ex 0 [7])<|Sq (Bl 1<|Rq [Aa 27 8,Aa 28 9,Ag 29 27 28 4,Ae 30 29 4,Dp 10 0 0 1,Aj 4 10 30] [7,8,9,10]<|Rq [Cj 31 1,Ac 32 10 3,Ab 33 32,Bb 34 1 31 33,Ac 35 10 3,Bj 1 35 34] [7,8,9,10]<|Re [Ay 36 7,Ae 37 10 4,Bh 38 4 37,Bb 39 4 36 38,Ay 7 39] [7,8,9])<|Re [Aa 25 9,An 26 25 1,Aa 9 26] [7,8,9])<|Rq [Aa 40 7,Ay 4 40,Ad 5 0] [4,5]<|.ret) [.tmp 4,.tmp 5]:= by decide +kernel
theorem c117 (t:Types) (a:Int) (r:(List Attr × Int)) (h:ref04_Attrs t a=some r):Sound prog 117 [eTypes t,eI a] (.tp [lA r.1,eI r.2]):= by
 refine Fn ck117 fun hw=>?_
 unfold ref04_Attrs at h
 refine D<|F<|a4 rfl rfl<|f0<|C rfl<|E (kt<|kt<|kn) fun _=>?_
 refine D<|D<|F<|R rfl rfl (show _=eTypes t from rfl)<|C rfl<|C rfl ?_
 obtain ⟨x14,hx14,h⟩:=I h
 refine T rfl (c118 t a a _ hx14)<|C rfl<|E (kt<|kt<|kt<|kn) fun _=>?_
 refine D<|F<|C rfl<|a9 rfl rfl<|E (kt<|kt<|kt<|kt<|kn) fun _=>?_
 refine S rfl (fun hc16=>?_) (fun hc16=>?_)
 ·replace h:=M hc16 h
  refine D<|F<|C rfl<|f0<|C rfl<|E (ko<|kt<|kn) fun _=>?_
  refine L ?_
  cases h
  exact ⟨by decide,rfl⟩
 ·replace h:=O hc16 h
  refine P (kt<|kt<|kn) fun _=>?_
  refine D<|F<|f0<|E (kt<|kt<|ko<|kn) fun _=>?_
  refine D<|F<|R rfl rfl (show _=eTypes t from rfl)<|C rfl ?_
  obtain ⟨x20,hx20,h⟩:=I h
  refine g6 rfl (c168 t a _ hx20)<|f2 rfl<|E (ko<|ko<|kn) fun _=>?_
  refine D<|D<|F<|C rfl<|E (ko<|ko<|kt<|kn) fun _=>?_
  obtain ⟨s0,hs0,h⟩:=I h
  refine f5 hs0 (fun (i0:Int) (s0:List Attr)=>[(7,.ow (lA s0)),(8,.ow (lA x20)),(9,.tv (eI i0))]) (fun (s0:List Attr)=>[(7,.ow (lA s0))]) rfl ?_ ?_ ?_
  ·clear h hs0
   intro i0 s0 r0 hi0 h hw0
   refine D<|D<|F<|C rfl<|C rfl<|U rfl rfl<|V rfl rfl<|E (ko<|ko<|kt<|kt<|kn) fun _=>?_
   refine b5 rfl (b6 hi0)<|P (ko<|ko<|kt<|kn) fun _=>?_
   refine D<|b0<|D<|F<|C rfl<|C rfl ?_
   obtain ⟨x29,hx29,h⟩:=I h
   refine W rfl rfl rfl hx29 rfl<|R rfl rfl (show _=eAttr x29 from rfl)<|b1 rfl<|a8 rfl rfl rfl rfl rfl<|E (ko<|ko<|kt<|kb<|kn) fun _=>?_
   refine D<|F<|e1 (e:=eS) (l:=[]) rfl rfl (fun _=>rfl)<|a3 rfl<|J rfl ?_
   obtain ⟨x34,hx34,h⟩:=I h
   refine e7 rfl rfl rfl rfl hx34 rfl<|a3 rfl<|f7 rfl rfl rfl (by decide) rfl rfl<|E (ko<|ko<|kt<|kb<|kn) fun _=>?_
   refine F<|f2 rfl<|R rfl rfl (show _=eAttr (Attr.mk x29.Name x29.Low x29.High x34) from rfl)<|e1 (e:=eAttr) (l:=[Attr.mk x29.Name x29.Low x29.High x34]) rfl rfl (fun _=>rfl) ?_
   obtain ⟨x39,hx39,h⟩:=I h
   refine e7 rfl rfl rfl rfl hx39 rfl<|f2 rfl<|E (ko<|ko<|kt<|kn) fun _=>?_
   refine F<|C rfl<|a7 rfl rfl<|C rfl<|E (ko<|ko<|kt<|kn) ?_
   cases h
   show Env.keep _ _=_
   rw [Kow rfl (Kow rfl (Ktv rfl (Knil _)))]
   rw [b4 (a5 (hw0 9)) hi0 (e9 (m2 (hw0 8)) rfl)]
   all_goals rfl
  ·intro i0 s0 hi0
   refine D<|D<|F<|C rfl<|C rfl<|U rfl rfl<|V rfl rfl<|E (ko<|ko<|kt<|kt<|kn) fun _=>?_
   refine b7 rfl (b8 hi0)<|b3 (ko<|kn) ?_
   exact ⟨rfl,rfl⟩
  ·intro _
   refine D<|F<|C rfl<|f1 rfl<|C rfl<|E (kt<|kt<|kn) fun _=>?_
   refine L ?_
   cases h
   exact ⟨by decide,rfl⟩
theorem ck66:CK f66 (Rq [Af 2 0,Af 3 1,Fl 4 1 3 1] [2,3,4]<|Rq [Fl 5 1 3 1] [2,3,4,5]<|Rq [Ae 16 2 2,Au 17 116 16,Ay 6 17] [2,3,4,5,6]<|Sq (Rq [Ad 7 0] [2,3,4,5,6,7]<|Bl 0<|Lo [2,3,4,5,6,7]<|Sq (Rq [Aa 18 7,Ac 19 3 0,Ab 20 19,Ah 21 20,Ap 22 18 21,Aa 23 22,Aq 24 7 23,Eh 25 24 8 23,At 26 23 25,Aa 27 26,Aq 28 6 27,Ca 29 28 27,Ei 30 29 0 27,At 31 27 30] [2,3,4,5,6,7,31]<|Co 31 (Sk [2,3,4,5,6,7])<|Ex 0 [2,3,4,5])<|Sq (Bl 1<|Rq [Aa 34 6,Ac 35 3 0,Ab 36 35,Aa 37 7,Ag 38 36 37 2,Cy 39 38 0 1 2,Ab 40 39,Cr 41 40,Aa 42 6,Ah 43 42,Cs 44 41 43,Ag 45 34 44 1,Ab 46 45,Aa 8 46] [2,3,4,5,6,7,8]<|Rq [Ae 48 2 2,Aa 49 8,Al 50 117 48 49,Aa 47 50,Am 51 47 0,Am 52 47 1,Ay 9 51,Aa 10 52] [2,3,4,5,6,7,8,9]<|Rq [Cj 53 1,Ay 11 53] [2,3,4,5,6,7,8,9,11]<|Sq (Rq [Ad 12 0] [2,3,4,5,6,7,8,9,11,12]<|Bl 2<|Lo [2,3,4,5,6,7,8,9,11,12]<|Sq (Rq [Aa 54 12,Aa 55 9,Ah 56 55,Ap 57 54 56] [2,3,4,5,6,7,8,9,11,12,57]<|Co 57 (Sk [2,3,4,5,6,7,8,9,11,12])<|Ex 2 [2,3,4,5,6,7,8,11])<|Sq (Bl 3<|Dr [11,60,61,62,63,64,65,66,67,68,69,70,71,72,73,74,75,76,77,78,79,80,81,82,83,84,85,86,87,88,89,90,91] [Ay 60 11,Aa 61 9,Aa 62 12,Ag 63 61 62 4,Ai 64 63 1,Ab 65 64,Ac 66 3 0,Ab 67 66,Aa 68 7,Ag 69 67 68 2,Cy 70 69 1 1 2,Ab 71 70,Cr 72 71,Aa 73 12,⟨some 74,.bin (.i) .mul (.c (.int .i64 7)) (.s 73),none⟩,Bn 75 72 74,Aa 76 9,Aa 77 12,Ag 78 76 77 4,Ai 79 78 2,Ab 80 79,Aa 81 9,Aa 82 12,Ag 83 81 82 4,Ai 84 83 1,Ab 85 84,Eo 86 80 85,An 87 86 1,Cs 88 75 87,Bn 89 65 88,Bh 90 1 89,Bb 91 1 60 90,Ay 11 91] [2,3,4,5,6,7,8,9,11,12])<|Re [Aa 58 12,An 59 58 1,Aa 12 59] [2,3,4,5,6,7,8,9,11,12])<|Dr [92,93,94,95,96,97,98,99,100,101,102,103,104,105] [Ac 92 5 0,Ai 93 92 0,Bm 94 93,Aa 95 8,Bh 96 1 95,Bb 97 1 94 96,Ac 98 5 2,Bm 99 98,Aa 100 11,Bh 101 1 100,Bb 102 1 99 101,Ac 103 5 0,Ai 104 103 0,Bj 1 104 97,Ac 105 5 2,Bj 1 105 102] [2,3,4,5,6,7])<|Re [Aa 32 7,An 33 32 1,Aa 7 33] [2,3,4,5,6,7])<|Rq [Ac 106 5 0,Ai 107 106 0,Ab 108 107,Ah 109 108,Aa 13 109] [2,3,4,5,13]<|Sq (Rq [Ad 14 0] [2,3,4,5,13,14]<|Bl 4<|Lo [2,3,4,5,13,14]<|Sq (Rq [Aa 110 14,Ac 111 3 1,Ab 112 111,Ah 113 112,Ap 114 110 113,Aa 115 114,Aq 116 14 115,Eh 117 116 10 115,At 118 115 117,Aa 119 118,Aq 120 13 119,Ei 121 120 0 119,At 122 119 121,Aa 123 122,Ba 124 2 1 123,Ax 125 124 123,Ca 126 125 123,Ei 127 126 0 123,At 128 123 127] [2,3,4,5,13,14,128]<|Co 128 (Sk [2,3,4,5,13,14])<|Ex 4 [4,5])<|Sq (Bl 5<|Sq (Dr [15,131,132,133,134,135,136,137,138,139,140,141,142,143,144,145,146,147,148,149,150,151,152,153,154,155,156,157,158,159,160] [Ac 131 3 1,Ab 132 131,Aa 133 14,Ag 134 132 133 3,Cy 135 134 0 1 3,Ab 136 135,Cr 137 136,Ac 138 2 1,Ab 139 138,Ah 140 139,Cs 141 137 140,Ac 142 3 1,Ab 143 142,Aa 144 14,Ag 145 143 144 3,Cy 146 145 1 1 3,Ab 147 146,Cr 148 147,Aa 149 13,Cs 150 148 149,Ac 151 3 1,Ab 152 151,Aa 153 14,Ag 154 152 153 3,Cy 155 154 2 1 3,Ab 156 155,Cr 157 156,Aa 158 13,Cs 159 157 158,Ds 160 0 0 0 0 1 141 1 1 150 2 1 159,By 15 0 0 0,Aj 3 15 160] [2,3,4,5,13,14,15])<|Sq (Dr [161,162,163,164,165,166,167,168,169,170,171,172,173,174,175,176,177,178] [Ae 161 2 2,Ac 162 15 0,Ab 163 162,Ac 164 5 0,Ai 165 164 0,Ab 166 165,Ac 167 15 1,Ab 168 167,Ag 169 166 168 1,Ab 170 169,Ac 171 5 0,Ai 172 171 0,Ab 173 172,Ac 174 15 2,Ab 175 174,Ag 176 173 175 1,Ab 177 176,Bz 178 68 161 163 170 177] [2,3,4,5,13,14,15,178])<|Co 178 (Re [Ac 179 5 0,Ai 180 179 1,Bm 181 180,Ae 182 15 3,Bh 183 3 182,Bb 184 3 181 183,Ac 185 5 0,Ai 186 185 1,Bj 1 186 184] [2,3,4,5,13,14])<|Sk [2,3,4,5,13,14])<|Re [Aa 129 14,An 130 129 1,Aa 14 130] [2,3,4,5,13,14])<|Rq [Ae 187 5 3,Aj 3 4 187] [4]<|.ret) [.cell 4 (some 3)]:= by decide +kernel
theorem c66 (t:Types) (d:ref15_Draft) (r:Host) (h:ref15_Made t d=some r):Sound prog 66 [eTypes t,eref15_Draft d] (.sh (eHost r)):= by
 refine Fn ck66 fun hw=>?_
 unfold ref15_Made at h
 refine D<|F<|a4 rfl rfl<|a4 rfl rfl<|b1 rfl<|E (kt<|kt<|kb<|kn) fun _=>?_
 refine D<|F<|b1 rfl<|E (kt<|kt<|kb<|kb<|kn) fun _=>?_
 refine D<|F<|R rfl rfl (show _=eTypes t from rfl) ?_
 obtain ⟨x17,hx17,h⟩:=I h
 refine T rfl (c116 t _ hx17)<|f1 rfl<|E (kt<|kt<|kb<|kb<|kt<|kn) fun _=>?_
 refine D<|D<|F<|C rfl<|E (kt<|kt<|kb<|kb<|kt<|kt<|kn) fun _=>?_
 obtain ⟨o0,ho0,h⟩:=d2 h
 refine g9 ho0 (fun (s0:Host × Int)=>[(2,.tv (.pt (eTypes t).cells)),(3,.tv (.pt (eref15_Draft d).cells)),(4,.bx [⟨true,lI []⟩,⟨true,lE []⟩,⟨true,(eL 1 lI) []⟩]),(5,.bx [⟨true,lI s0.1.Graph.Nodes⟩,⟨true,lE s0.1.Graph.Edges⟩,⟨true,(eL 1 lI) s0.1.Values⟩]),(6,.tv (lI x17)),(7,.tv (eI s0.2))]) (fun (s0:Host × Int)=>[(2,.tv (.pt (eTypes t).cells)),(3,.tv (.pt (eref15_Draft d).cells)),(4,.bx [⟨true,lI []⟩,⟨true,lE []⟩,⟨true,(eL 1 lI) []⟩]),(5,.bx [⟨true,lI s0.1.Graph.Nodes⟩,⟨true,lE s0.1.Graph.Edges⟩,⟨true,(eL 1 lI) s0.1.Values⟩])]) (fun zv ze=>resIs ([.cell 4 (some 3)]) (.sh (eHost zv)) ze) rfl ?_ ?_ ?_
 ·clear h ho0
  intro s0 r0 h hw0
  refine D<|D<|F<|C rfl<|K rfl<|J rfl<|U rfl rfl<|V rfl rfl<|C rfl ?_
  refine gA 3 [24,25] 26 (decide (s0.2<(d.Nodes.length:Int))) (decide (s0.2<8)) (fun hg26=>?_) (fun hg26=>?_) ?_
  ·refine G rfl hg26<|C rfl<|G rfl hg26<|V rfl rfl<|Y rfl hg26 rfl ?_
   exact ⟨⟨_,_,rfl⟩⟩
  ·refine H rfl hg26<|H rfl hg26<|Z rfl hg26 rfl ?_
   exact ⟨⟨_,_,rfl⟩⟩
  rintro _ ⟨_,_,rfl⟩
  refine C rfl ?_
  refine gA 4 [28,29,30] 31 ((decide (s0.2<(d.Nodes.length:Int)))&&(decide (s0.2<8))) (decide (0<(x17.length:Int))) (fun hg31=>?_) (fun hg31=>?_) ?_
  ·refine G rfl hg31<|C rfl<|G rfl hg31<|U rfl rfl<|G rfl hg31<|e4 rfl rfl<|Y rfl hg31 rfl ?_
   exact ⟨⟨_,_,_,rfl⟩⟩
  ·refine H rfl hg31<|H rfl hg31<|H rfl hg31<|Z rfl hg31 rfl ?_
   exact ⟨⟨_,_,_,rfl⟩⟩
  rintro _ ⟨_,_,_,rfl⟩
  refine E (kt<|kt<|kb<|kb<|kt<|kt<|kt<|kn) fun _=>?_
  refine S rfl (fun hc31=>?_) (fun hc31=>?_)
  ·replace h:=M hc31 h
   refine P (kt<|kt<|kb<|kb<|kt<|kt<|kn) fun _=>?_
   refine D<|b0<|D<|F<|C rfl<|K rfl<|J rfl<|C rfl ?_
   obtain ⟨x38,hx38,h⟩:=I h
   refine W rfl rfl rfl hx38 rfl<|l7 (j':=0) rfl rfl (by decide) (by decide) (Nat.le_of_ble_eq_true rfl) rfl<|J rfl<|l4 rfl<|C rfl<|U rfl rfl ?_
   obtain ⟨x44,hx44,h⟩:=I h
   refine l5 rfl rfl hx44 ?_
   obtain ⟨x45,hx45,h⟩:=I h
   refine W rfl rfl rfl hx45 rfl<|J rfl<|C rfl<|E (kt<|kt<|kb<|kb<|kt<|kt<|kt<|kn) fun _=>?_
   refine D<|F<|R rfl rfl (show _=eTypes t from rfl)<|C rfl ?_
   obtain ⟨x50,hx50,h⟩:=I h
   refine e5 rfl (c117 t x45 _ hx50)<|e6 rfl<|b2 rfl rfl<|b2 rfl rfl<|f1 rfl<|C rfl<|E (kt<|kt<|kb<|kb<|kt<|kt<|kt<|kt<|kn) fun _=>?_
   refine D<|F<|e1 (e:=eI) (l:=[]) rfl rfl (fun _=>rfl)<|f2 rfl<|E (kt<|kt<|kb<|kb<|kt<|kt<|kt<|kt<|ko<|kn) fun _=>?_
   refine D<|D<|F<|C rfl<|E (kt<|kt<|kb<|kb<|kt<|kt<|kt<|kt<|ko<|kt<|kn) fun _=>?_
   obtain ⟨s2,hs2,h⟩:=I h
   refine f5 hs2 (fun (i2:Int) (s2:List Int)=>[(2,.tv (.pt (eTypes t).cells)),(3,.tv (.pt (eref15_Draft d).cells)),(4,.bx [⟨true,lI []⟩,⟨true,lE []⟩,⟨true,(eL 1 lI) []⟩]),(5,.bx [⟨true,lI s0.1.Graph.Nodes⟩,⟨true,lE s0.1.Graph.Edges⟩,⟨true,(eL 1 lI) s0.1.Values⟩]),(6,.tv (lI x17)),(7,.tv (eI s0.2)),(8,.tv (eI x45)),(9,.tv (lA x50.1)),(11,.ow (lI s2)),(12,.tv (eI i2))]) (fun (s2:List Int)=>[(2,.tv (.pt (eTypes t).cells)),(3,.tv (.pt (eref15_Draft d).cells)),(4,.bx [⟨true,lI []⟩,⟨true,lE []⟩,⟨true,(eL 1 lI) []⟩]),(5,.bx [⟨true,lI s0.1.Graph.Nodes⟩,⟨true,lE s0.1.Graph.Edges⟩,⟨true,(eL 1 lI) s0.1.Values⟩]),(6,.tv (lI x17)),(7,.tv (eI s0.2)),(8,.tv (eI x45)),(11,.ow (lI s2))]) rfl ?_ ?_ ?_
   ·clear h hs2
    intro i2 s2 r2 hi2 h hw2
    refine D<|D<|F<|C rfl<|C rfl<|U rfl rfl<|V rfl rfl<|E (kt<|kt<|kb<|kb<|kt<|kt<|kt<|kt<|ko<|kt<|kt<|kn) fun _=>?_
    refine b5 rfl (b6 hi2)<|P (kt<|kt<|kb<|kb<|kt<|kt<|kt<|kt<|ko<|kt<|kn) fun _=>?_
    refine D<|b0<|b9 rfl<|f2 rfl<|C rfl<|C rfl ?_
    obtain ⟨x63,hx63,h⟩:=I h
    refine W rfl rfl rfl hx63 rfl<|a6 rfl<|J rfl<|K rfl<|J rfl<|C rfl ?_
    obtain ⟨x69,hx69,h⟩:=I h
    refine W rfl rfl rfl hx69 rfl<|l7 (j':=1) rfl rfl (by decide) (by decide) (Nat.le_of_ble_eq_true rfl) rfl<|J rfl<|l4 rfl<|C rfl<|q5 rfl rfl<|a7 rfl rfl<|C rfl<|C rfl ?_
    obtain ⟨x78,hx78,h⟩:=I h
    refine W rfl rfl rfl hx78 rfl<|a6 rfl<|J rfl<|C rfl<|C rfl ?_
    obtain ⟨x83,hx83,h⟩:=I h
    refine W rfl rfl rfl hx83 rfl<|a6 rfl<|J rfl<|g4 rfl rfl<|a7 rfl rfl ?_
    obtain ⟨x88,hx88,h⟩:=I h
    refine l5 rfl rfl hx88<|a7 rfl rfl<|e1 (e:=eI) (l:=[w64 (x63.Low+x88)]) rfl rfl (fun _=>rfl) ?_
    obtain ⟨x91,hx91,h⟩:=I h
    refine e7 rfl rfl rfl rfl hx91 rfl<|f2 rfl<|E (kt<|kt<|kb<|kb<|kt<|kt<|kt<|kt<|ko<|kt<|kn) fun _=>?_
    refine F<|C rfl<|a7 rfl rfl<|C rfl<|E (kt<|kt<|kb<|kb<|kt<|kt<|kt<|kt<|ko<|kt<|kn) ?_
    cases h
    show Env.keep _ _=_
    rw [Ktv rfl (Ktv rfl (Kbx rfl (Kbx rfl (Ktv rfl (Ktv rfl (Ktv rfl (Ktv rfl (Kow rfl (Ktv rfl (Knil _))))))))))]
    rw [b4 (a5 (hw2 12)) hi2 (e9 (a5 (hw2 9)) rfl)]
    all_goals rfl
   ·intro i2 s2 hi2
    refine D<|D<|F<|C rfl<|C rfl<|U rfl rfl<|V rfl rfl<|E (kt<|kt<|kb<|kb<|kt<|kt<|kt<|kt<|ko<|kt<|kt<|kn) fun _=>?_
    refine b7 rfl (b8 hi2)<|b3 (kt<|kt<|kb<|kb<|kt<|kt<|kt<|ko<|kn) ?_
    exact ⟨rfl,rfl⟩
   ·intro _
    refine b9 rfl<|a3 rfl<|f3 rfl rfl<|f8 rfl rfl rfl rfl<|C rfl<|e1 (e:=eI) (l:=[x45]) rfl rfl (fun _=>rfl) ?_
    obtain ⟨x97,hx97,h⟩:=I h
    refine e7 rfl rfl rfl rfl hx97 rfl<|a3 rfl<|f8 rfl rfl rfl rfl<|C rfl<|e1 (e:=lI) (l:=[s2]) rfl rfl (fun _=>rfl) ?_
    obtain ⟨x102,hx102,h⟩:=I h
    refine e7 rfl rfl rfl rfl hx102 rfl<|a3 rfl<|f3 rfl rfl<|f7 rfl rfl rfl (by decide) rfl rfl<|a3 rfl<|f7 rfl rfl rfl (by decide) rfl rfl<|E (kt<|kt<|kb<|kb<|kt<|kt<|kn) fun _=>?_
    refine F<|C rfl<|a7 rfl rfl<|C rfl<|E (kt<|kt<|kb<|kb<|kt<|kt<|kn) ?_
    cases h
    refine ⟨_,rfl,?_⟩
    rw [Ktv rfl (Ktv rfl (Kbx rfl (Kbx rfl (Ktv rfl (Ktv rfl (Knil _))))))]
    all_goals rfl
  ·replace h:=O hc31 h
   refine b3 (kt<|kt<|kb<|kb<|kn) ?_
   refine ⟨rfl,?_⟩
   cases h
   exact ⟨_,rfl,rfl⟩
 ·intro s0 hs
  replace h:=d3 h hs
  intro _
  refine D<|F<|a3 rfl<|f3 rfl rfl<|J rfl<|U rfl rfl<|C rfl<|E (kt<|kt<|kb<|kb<|kt<|kn) fun _=>?_
  refine D<|D<|F<|C rfl<|E (kt<|kt<|kb<|kb<|kt<|kt<|kn) fun _=>?_
  obtain ⟨o4,ho4,h⟩:=d2 h
  refine g9 ho4 (fun (s4:Host × Int)=>[(2,.tv (.pt (eTypes t).cells)),(3,.tv (.pt (eref15_Draft d).cells)),(4,.bx [⟨true,lI []⟩,⟨true,lE []⟩,⟨true,(eL 1 lI) []⟩]),(5,.bx [⟨true,lI s4.1.Graph.Nodes⟩,⟨true,lE s4.1.Graph.Edges⟩,⟨true,(eL 1 lI) s4.1.Values⟩]),(13,.tv (eI (s0.1.Graph.Nodes.length:Int))),(14,.tv (eI s4.2))]) (fun (s4:Host × Int)=>[(4,.bx [⟨true,lI []⟩,⟨true,lE []⟩,⟨true,(eL 1 lI) []⟩]),(5,.bx [⟨true,lI s4.1.Graph.Nodes⟩,⟨true,lE s4.1.Graph.Edges⟩,⟨true,(eL 1 lI) s4.1.Values⟩])]) (fun zv ze=>resIs ([.cell 4 (some 3)]) (.sh (eHost zv)) ze) rfl ?_ ?_ ?_
  ·clear h ho4
   intro s4 r4 h hw4
   refine D<|D<|F<|C rfl<|K rfl<|J rfl<|U rfl rfl<|V rfl rfl<|C rfl ?_
   refine gA 3 [116,117] 118 (decide (s4.2<(d.Edges.length:Int))) (decide (s4.2<10)) (fun hg118=>?_) (fun hg118=>?_) ?_
   ·refine G rfl hg118<|C rfl<|G rfl hg118<|V rfl rfl<|Y rfl hg118 rfl ?_
    exact ⟨⟨_,_,rfl⟩⟩
   ·refine H rfl hg118<|H rfl hg118<|Z rfl hg118 rfl ?_
    exact ⟨⟨_,_,rfl⟩⟩
   rintro _ ⟨_,_,rfl⟩
   refine C rfl ?_
   refine gA 3 [120,121] 122 ((decide (s4.2<(d.Edges.length:Int)))&&(decide (s4.2<10))) (decide (0<(s0.1.Graph.Nodes.length:Int))) (fun hg122=>?_) (fun hg122=>?_) ?_
   ·refine G rfl hg122<|C rfl<|G rfl hg122<|e4 rfl rfl<|Y rfl hg122 rfl ?_
    exact ⟨⟨_,_,rfl⟩⟩
   ·refine H rfl hg122<|H rfl hg122<|Z rfl hg122 rfl ?_
    exact ⟨⟨_,_,rfl⟩⟩
   rintro _ ⟨_,_,rfl⟩
   refine C rfl ?_
   refine gA 5 [124,125,126,127] 128 (((decide (s4.2<(d.Edges.length:Int)))&&(decide (s4.2<10)))&&(decide (0<(s0.1.Graph.Nodes.length:Int)))) (decide (0<(t.Edges.length:Int))) (fun hg128=>?_) (fun hg128=>?_) ?_
   ·refine G rfl hg128<|K rfl<|G rfl hg128<|J rfl<|G rfl hg128<|U rfl rfl<|G rfl hg128<|e4 rfl rfl<|Y rfl hg128 rfl ?_
    exact ⟨⟨_,_,_,_,rfl⟩⟩
   ·refine H rfl hg128<|H rfl hg128<|H rfl hg128<|H rfl hg128<|Z rfl hg128 rfl ?_
    exact ⟨⟨_,_,_,_,rfl⟩⟩
   rintro _ ⟨_,_,_,_,rfl⟩
   refine E (kt<|kt<|kb<|kb<|kt<|kt<|kt<|kn) fun _=>?_
   refine S rfl (fun hc128=>?_) (fun hc128=>?_)
   ·replace h:=M hc128 h
    refine P (kt<|kt<|kb<|kb<|kt<|kt<|kn) fun _=>?_
    refine D<|b0<|D<|b9 rfl<|K rfl<|J rfl<|C rfl ?_
    obtain ⟨x134,hx134,h⟩:=I h
    refine W rfl rfl rfl hx134 rfl<|l7 (j':=0) rfl rfl (by decide) (by decide) (Nat.le_of_ble_eq_true rfl) rfl<|J rfl<|l4 rfl<|K rfl<|J rfl<|U rfl rfl ?_
    obtain ⟨x141,hx141,h⟩:=I h
    refine l5 rfl rfl hx141<|K rfl<|J rfl<|C rfl ?_
    obtain ⟨x145,hx145,h⟩:=I h
    refine W rfl rfl rfl hx145 rfl<|l7 (j':=1) rfl rfl (by decide) (by decide) (Nat.le_of_ble_eq_true rfl) rfl<|J rfl<|l4 rfl<|C rfl ?_
    obtain ⟨x150,hx150,h⟩:=I h
    refine l5 rfl rfl hx150<|K rfl<|J rfl<|C rfl ?_
    obtain ⟨x154,hx154,h⟩:=I h
    refine W rfl rfl rfl hx154 rfl<|l7 (j':=2) rfl rfl (by decide) (by decide) (Nat.le_of_ble_eq_true rfl) rfl<|J rfl<|l4 rfl<|C rfl ?_
    obtain ⟨x159,hx159,h⟩:=I h
    refine l5 rfl rfl hx159<|g5 rfl rfl rfl (show _=eEdge (Edge.mk x141 x150 x159) from rfl)<|b1 rfl<|a8 rfl rfl rfl rfl rfl<|E (kt<|kt<|kb<|kb<|kt<|kt<|kb<|kn) fun _=>?_
    refine D<|b9 rfl<|R rfl rfl (show _=eTypes t from rfl)<|a3 rfl<|J rfl<|a3 rfl<|f3 rfl rfl<|J rfl<|a3 rfl<|J rfl ?_
    obtain ⟨x169,hx169,h⟩:=I h
    refine W rfl rfl rfl hx169 rfl<|J rfl<|a3 rfl<|f3 rfl rfl<|J rfl<|a3 rfl<|J rfl ?_
    obtain ⟨x176,hx176,h⟩:=I h
    refine W rfl rfl rfl hx176 rfl<|J rfl ?_
    obtain ⟨x178,hx178,h⟩:=I h
    refine T rfl (c68 t x141 x169 x176 _ hx178)<|E (kt<|kt<|kb<|kb<|kt<|kt<|kb<|kt<|kn) fun _=>?_
    refine S rfl (fun hc178=>?_) (fun hc178=>?_)
    ·replace h:=M hc178 h
     refine F<|a3 rfl<|f3 rfl rfl<|f8 rfl rfl rfl rfl<|R rfl rfl (show _=eEdge (Edge.mk x141 x150 x159) from rfl)<|e1 (e:=eEdge) (l:=[Edge.mk x141 x150 x159]) rfl rfl (fun _=>rfl) ?_
     obtain ⟨x184,hx184,h⟩:=I h
     refine e7 rfl rfl rfl rfl hx184 rfl<|a3 rfl<|f3 rfl rfl<|f7 rfl rfl rfl (by decide) rfl rfl<|E (kt<|kt<|kb<|kb<|kt<|kt<|kn) fun _=>?_
     refine F<|C rfl<|a7 rfl rfl<|C rfl<|E (kt<|kt<|kb<|kb<|kt<|kt<|kn) ?_
     cases h
     refine ⟨_,rfl,?_⟩
     rw [Ktv rfl (Ktv rfl (Kbx rfl (Kbx rfl (Ktv rfl (Ktv rfl (Knil _))))))]
     all_goals rfl
    ·replace h:=O hc178 h
     refine P (kt<|kt<|kb<|kb<|kt<|kt<|kn) fun _=>?_
     refine F<|C rfl<|a7 rfl rfl<|C rfl<|E (kt<|kt<|kb<|kb<|kt<|kt<|kn) ?_
     cases h
     refine ⟨_,rfl,?_⟩
     rw [Ktv rfl (Ktv rfl (Kbx rfl (Kbx rfl (Ktv rfl (Ktv rfl (Knil _))))))]
     all_goals rfl
   ·replace h:=O hc128 h
    refine b3 (kb<|kb<|kn) ?_
    refine ⟨rfl,?_⟩
    cases h
    exact ⟨_,rfl,rfl⟩
  ·intro s4 hs
   replace h:=d3 h hs
   intro _
   refine D<|F<|R rfl rfl (show _=eHost s4.1 from rfl)<|a8 rfl rfl rfl rfl rfl<|E (kb<|kn) fun _=>?_
   exact L (by cases h;rfl)
  ·intro v4 ze hv hR
   replace h:=d4 h hv
   cases h
   exact hR
 ·intro v0 ze hv hR
  replace h:=d4 h hv
  cases h
  exact hR
theorem ck67:CK f67 (Rq [Af 1 0,Bd 2 1 3] [1,2]<|Sq (Dr [2,3,4,5,6,7,8,9,10,11] [Cj 3 1,Ac 4 1 0,Ab 5 4,Bb 6 1 3 5,Cj 7 3,Ac 8 1 1,Ab 9 8,Bb 10 3 7 9,⟨some 11,.bldo [6,10],none⟩,Ee 2 2 11] [2])<|.ret) [.cell 2 (some 2)]:= by decide +kernel
theorem c67 (g:Graph) (r:Graph) (h:ref05_Copied g=some r):Sound prog 67 [eGraph g] (.oag [⟨true,lI r.Nodes⟩,⟨true,lE r.Edges⟩]):= by
 refine Fn ck67 fun hw=>?_
 unfold ref05_Copied at h
 refine D<|F<|a4 rfl rfl<|b1 rfl<|E (kt<|kb<|kn) fun _=>?_
 refine D<|b9 rfl<|e1 (e:=eI) (l:=[]) rfl rfl (fun _=>rfl)<|K rfl<|J rfl ?_
 obtain ⟨x6,hx6,h⟩:=I h
 refine e7 rfl rfl rfl rfl hx6 rfl<|e1 (e:=eEdge) (l:=[]) rfl rfl (fun _=>rfl)<|K rfl<|J rfl ?_
 obtain ⟨x10,hx10,h⟩:=I h
 refine e7 rfl rfl rfl rfl hx10 rfl<|p0 (by decide) (by decide) rfl rfl rfl<|m4 rfl rfl (by decide) rfl rfl rfl<|E (kb<|kn) fun _=>?_
 exact L (by cases h;exact ⟨rfl,rfl⟩)
theorem ck169:CK f169 (Rq [Bf 4 1] [0,1]<|Rq [Bf 5 1] [0,1,5]<|Sq (Rq [Ad 6 0] [0,1,5,6]<|Bl 0<|Lo [0,1,5,6]<|Sq (Rq [Aa 7 6,Aa 8 1,Ap 9 7 8] [0,1,5,6,9]<|Co 9 (Sk [0,1,5,6])<|Ex 0 [5])<|Sq (Bl 1<|Re [Ay 12 5,Aa 13 0,Aa 14 6,Bn 15 13 14,Bh 16 1 15,Bb 17 1 12 16,Ay 5 17] [0,1,5,6])<|Re [Aa 10 6,An 11 10 1,Aa 6 11] [0,1,5,6])<|Rq [Aa 18 5,Ay 4 18] [4]<|.ret) [.tmp 4]:= by decide +kernel
theorem c169 (from':Int) (count:Int) (r:(List Int)) (h:ref05_Numbers from' count=some r):Sound prog 169 [eI from',eI count] (.sh (lI r)):= by
 refine Fn ck169 fun hw=>?_
 unfold ref05_Numbers at h
 refine D<|F<|f0<|E (kt<|kt<|kn) fun _=>?_
 refine D<|F<|f0<|E (kt<|kt<|ko<|kn) fun _=>?_
 refine D<|D<|F<|C rfl<|E (kt<|kt<|ko<|kt<|kn) fun _=>?_
 obtain ⟨s0,hs0,h⟩:=I h
 refine f5 hs0 (fun (i0:Int) (s0:List Int)=>[(0,.tv (eI from')),(1,.tv (eI count)),(5,.ow (lI s0)),(6,.tv (eI i0))]) (fun (s0:List Int)=>[(5,.ow (lI s0))]) rfl ?_ ?_ ?_
 ·clear h hs0
  intro i0 s0 r0 hi0 h hw0
  refine D<|D<|F<|C rfl<|C rfl<|V rfl rfl<|E (kt<|kt<|ko<|kt<|kt<|kn) fun _=>?_
  refine b5 rfl (b6 hi0)<|P (kt<|kt<|ko<|kt<|kn) fun _=>?_
  refine D<|b0<|F<|f2 rfl<|C rfl<|C rfl<|a7 rfl rfl<|e1 (e:=eI) (l:=[w64 (from'+i0)]) rfl rfl (fun _=>rfl) ?_
  obtain ⟨x17,hx17,h⟩:=I h
  refine e7 rfl rfl rfl rfl hx17 rfl<|f2 rfl<|E (kt<|kt<|ko<|kt<|kn) fun _=>?_
  refine F<|C rfl<|a7 rfl rfl<|C rfl<|E (kt<|kt<|ko<|kt<|kn) ?_
  cases h
  show Env.keep _ _=_
  rw [Ktv rfl (Ktv rfl (Kow rfl (Ktv rfl (Knil _))))]
  rw [b4 (a5 (hw0 6)) hi0 (e0 (a5 (hw0 1)))]
  all_goals rfl
 ·intro i0 s0 hi0
  refine D<|D<|F<|C rfl<|C rfl<|V rfl rfl<|E (kt<|kt<|ko<|kt<|kt<|kn) fun _=>?_
  refine b7 rfl (b8 hi0)<|b3 (ko<|kn) ?_
  exact ⟨rfl,rfl⟩
 ·intro _
  refine D<|F<|C rfl<|f1 rfl<|E (kt<|kn) fun _=>?_
  exact L (by cases h;rfl)
theorem ck121:CK f121 (Rq [Af 1 0,Bd 2 1 1] [1,2]<|Sq (Dr [2,3,4,5,6,7,8,9,10,11] [Ac 3 1 0,Ab 4 3,Ah 5 4,⟨some 6,.call 169 [.c (.int .i64 0),.s 5],none⟩,Ac 7 1 1,Ab 8 7,Ah 9 8,⟨some 10,.call 169 [.c (.int .i64 0),.s 9],none⟩,Ck 11 1 1 0 1 6 1 1 10,Aj 2 2 11] [2])<|.ret) [.cell 2 (some 2)]:= by decide +kernel
theorem c121 (g:Graph) (r:Part) (h:ref53_whole g=some r):Sound prog 121 [eGraph g] (.sh (ePart r)):= by
 refine Fn ck121 fun hw=>?_
 unfold ref53_whole at h
 refine D<|F<|a4 rfl rfl<|b1 rfl<|E (kt<|kb<|kn) fun _=>?_
 refine D<|b9 rfl<|K rfl<|J rfl<|U rfl rfl ?_
 obtain ⟨x6,hx6,h⟩:=I h
 refine T rfl (c169 0 (g.Nodes.length:Int) _ hx6)<|K rfl<|J rfl<|U rfl rfl ?_
 obtain ⟨x10,hx10,h⟩:=I h
 refine T rfl (c169 0 (g.Edges.length:Int) _ hx10)<|g5 rfl rfl rfl (show _=ePart (Part.mk x6 x10) from rfl)<|a8 rfl rfl rfl rfl rfl<|E (kb<|kn) fun _=>?_
 exact L (by cases h;rfl)
theorem ck69:CK f69 (Rq [Af 4 0,Af 5 1,Af 6 2,Af 7 3,Bv 8 1 3 4 0 5 1 3 4 0 5 1 1 1 1 0 9 1 1 1 3 4 0 5] [4,5,6,7,8]<|Sq (Dr [8,9,10,11,12,13,14,15,16,17,18,19] [Ac 9 4 0,Ab 10 9,Ae 11 5 2,Dt 12 1 3 4 0 5 0 2 11,Ae 13 6 2,Dt 14 1 3 4 0 5 0 2 13,Ae 15 5 2,Au 16 121 15,Ae 17 7 2,Ev 18 0 9 1 1 1 3 4 0 5 0 1 1,Fg 19 1 3 4 0 5 1 3 4 0 5 1 1 1 1 0 9 1 1 1 3 4 0 5 0 1 10 1 5 12 6 5 14 11 2 16 13 2 17 15 1 16 9 18,Aj 25 8 19] [8])<|.ret) [.cell 8 (some 25)]:= by decide +kernel
theorem c69 (r_0:Rule) (left:Graph) (right:Graph) (into:Morphism) (r:Rule) (h:ref53_rule r_0 left right into=some r):Sound prog 69 [eRule r_0,eGraph left,eGraph right,eMorphism into] (.sh (eRule r)):= by
 refine Fn ck69 fun hw=>?_
 unfold ref53_rule at h
 refine D<|F<|a4 rfl rfl<|a4 rfl rfl<|a4 rfl rfl<|a4 rfl rfl<|b1 rfl<|E (kt<|kt<|kt<|kt<|kb<|kn) fun _=>?_
 refine D<|b9 rfl<|K rfl<|J rfl<|R rfl rfl (show _=eGraph left from rfl)<|e8 rfl rfl (show _=ePattern (Pattern.mk left [] 0 []) from rfl)<|R rfl rfl (show _=eGraph right from rfl)<|e8 rfl rfl (show _=ePattern (Pattern.mk right [] 0 []) from rfl)<|R rfl rfl (show _=eGraph left from rfl) ?_
 obtain ⟨x16,hx16,h⟩:=I h
 refine T rfl (c121 left _ hx16)<|R rfl rfl (show _=eMorphism into from rfl)<|e8 rfl rfl (show _=eCondition (Condition.mk 1 [] (Morphism.mk [] []) (Pattern.mk (Graph.mk [] []) [] 0 [])) from rfl)<|g5 rfl rfl rfl (show _=eRule (Rule.mk r_0.Name (Pattern.mk left [] 0 []) (Pattern.mk right [] 0 []) x16 into true (Condition.mk 1 [] (Morphism.mk [] []) (Pattern.mk (Graph.mk [] []) [] 0 []))) from rfl)<|a8 rfl rfl rfl rfl rfl<|E (kb<|kn) fun _=>?_
 exact L (by cases h;rfl)
theorem ck122:CK f122 (Rq [Bf 2 1] [0]<|Rq [Bf 3 1] [0,3]<|Sq (Rq [Ad 4 0] [0,3,4]<|Bl 0<|Lo [0,3,4]<|Sq (Rq [Aa 5 4,Aa 6 0,Ap 7 5 6] [0,3,4,7]<|Co 7 (Sk [0,3,4])<|Ex 0 [3])<|Sq (Bl 1<|Re [Ay 10 3,Aa 11 4,Bh 12 1 11,Bb 13 1 10 12,Ay 3 13] [0,3,4])<|Re [Aa 8 4,An 9 8 1,Aa 4 9] [0,3,4])<|Rq [Aa 14 3,Ay 2 14] [2]<|.ret) [.tmp 2]:= by decide +kernel
theorem c122 (n:Int) (r:(List Int)) (h:ref02_Finest n=some r):Sound prog 122 [eI n] (.sh (lI r)):= by
 refine Fn ck122 fun hw=>?_
 unfold ref02_Finest at h
 refine D<|F<|f0<|E (kt<|kn) fun _=>?_
 refine D<|F<|f0<|E (kt<|ko<|kn) fun _=>?_
 refine D<|D<|F<|C rfl<|E (kt<|ko<|kt<|kn) fun _=>?_
 obtain ⟨s0,hs0,h⟩:=I h
 refine f5 hs0 (fun (i0:Int) (s0:List Int)=>[(0,.tv (eI n)),(3,.ow (lI s0)),(4,.tv (eI i0))]) (fun (s0:List Int)=>[(3,.ow (lI s0))]) rfl ?_ ?_ ?_
 ·clear h hs0
  intro i0 s0 r0 hi0 h hw0
  refine D<|D<|F<|C rfl<|C rfl<|V rfl rfl<|E (kt<|ko<|kt<|kt<|kn) fun _=>?_
  refine b5 rfl (b6 hi0)<|P (kt<|ko<|kt<|kn) fun _=>?_
  refine D<|b0<|F<|f2 rfl<|C rfl<|e1 (e:=eI) (l:=[i0]) rfl rfl (fun _=>rfl) ?_
  obtain ⟨x13,hx13,h⟩:=I h
  refine e7 rfl rfl rfl rfl hx13 rfl<|f2 rfl<|E (kt<|ko<|kt<|kn) fun _=>?_
  refine F<|C rfl<|a7 rfl rfl<|C rfl<|E (kt<|ko<|kt<|kn) ?_
  cases h
  show Env.keep _ _=_
  rw [Ktv rfl (Kow rfl (Ktv rfl (Knil _)))]
  rw [b4 (a5 (hw0 4)) hi0 (e0 (a5 (hw0 0)))]
  all_goals rfl
 ·intro i0 s0 hi0
  refine D<|D<|F<|C rfl<|C rfl<|V rfl rfl<|E (kt<|ko<|kt<|kt<|kn) fun _=>?_
  refine b7 rfl (b8 hi0)<|b3 (ko<|kn) ?_
  exact ⟨rfl,rfl⟩
 ·intro _
  refine D<|F<|C rfl<|f1 rfl<|E (kt<|kn) fun _=>?_
  exact L (by cases h;rfl)
theorem ck70:CK f70 (Rq [Af 1 0,Bd 2 1 1] [1,2]<|Sq (Dr [2,3,4,5,6,7,8,9,10,11] [Ac 3 1 0,Ab 4 3,Ah 5 4,Au 6 122 5,Ac 7 1 1,Ab 8 7,Ah 9 8,Au 10 122 9,Ck 11 1 1 0 1 6 1 1 10,Aj 2 2 11] [2])<|.ret) [.cell 2 (some 2)]:= by decide +kernel
theorem c70 (g:Graph) (r:Morphism) (h:ref06_Of g=some r):Sound prog 70 [eGraph g] (.sh (eMorphism r)):= by
 refine Fn ck70 fun hw=>?_
 unfold ref06_Of at h
 refine D<|F<|a4 rfl rfl<|b1 rfl<|E (kt<|kb<|kn) fun _=>?_
 refine D<|b9 rfl<|K rfl<|J rfl<|U rfl rfl ?_
 obtain ⟨x6,hx6,h⟩:=I h
 refine T rfl (c122 (g.Nodes.length:Int) _ hx6)<|K rfl<|J rfl<|U rfl rfl ?_
 obtain ⟨x10,hx10,h⟩:=I h
 refine T rfl (c122 (g.Edges.length:Int) _ hx10)<|g5 rfl rfl rfl (show _=eMorphism (Morphism.mk x6 x10) from rfl)<|a8 rfl rfl rfl rfl rfl<|E (kb<|kn) fun _=>?_
 exact L (by cases h;rfl)
theorem ck27:CK f27 (Rq [Af 1 0,Bv 2 1 3 4 0 5 1 3 4 0 5 1 1 1 1 0 9 1 1 1 3 4 0 5] [1,2]<|Rq [Cx 12 26,Aa 11 12,Am 13 11 0,Am 14 11 1,Bd 3 4 7,Bd 4 1 1,Aj 2 3 13,Aj 2 4 14] [1,2,3]<|Sq (Dr [5,15,16,17,18,19,20,21,22,23,24,25,26,27,28,29,30,31,32,33,34,35,36] [Ae 15 3 2,Ac 16 1 0,Ai 17 16 0,Ab 18 17,Ac 19 1 0,Ai 20 19 0,Ab 21 20,Ah 22 21,⟨some 23,.mm false (.c (.int .i64 3)) (.s 22),none⟩,Da 24 2 18 23,Ac 25 1 0,Ai 26 25 1,Ab 27 26,Ac 28 1 0,Ai 29 28 1,Ab 30 29,Ah 31 30,⟨some 32,.mm false (.c (.int .i64 3)) (.s 31),none⟩,Da 33 3 27 32,Ck 34 2 3 0 1 24 1 1 33,Al 35 66 15 34,⟨some 36,.fldv (.s 35) 0 2 true,none⟩,Bd 5 1 3,Aj 2 5 36] [1,2,3,5])<|Rq [Ae 37 5 2,⟨some 38,.callg 67 [.s 37],none⟩,Bd 6 1 3,Ee 2 6 38] [1,2,3,5,6]<|Sq (Rq [Ad 7 0] [1,2,3,5,6,7]<|Bl 0<|Lo [1,2,3,5,6,7]<|Sq (Rq [Aa 39 7,Ac 40 1 2,Ab 41 40,Ah 42 41,Ap 43 39 42,Aa 44 43,Aq 45 7 44,Eh 46 45 3 44,At 47 44 46] [1,2,3,5,6,7,47]<|Co 47 (Sk [1,2,3,5,6,7])<|Ex 0 [1,2,3,5,6])<|Sq (Bl 1<|Dr [50,51,52,53,54,55,56,57,58,59,60,61,62,63,64] [Ac 50 6 0,Bm 51 50,Ac 52 1 2,Ab 53 52,Aa 54 7,Ag 55 53 54 1,Ab 56 55,Cr 57 56,Ac 58 3 0,Ab 59 58,Ah 60 59,Cs 61 57 60,Bh 62 1 61,Bb 63 1 51 62,Ac 64 6 0,Bj 1 64 63] [1,2,3,5,6,7])<|Re [Aa 48 7,An 49 48 1,Aa 7 49] [1,2,3,5,6,7])<|Rq [Ac 65 6 0,Ab 66 65,Ah 67 66,Aa 8 67] [1,2,3,5,6,8]<|Sq (Rq [Ad 9 0] [1,2,3,5,6,8,9]<|Bl 2<|Lo [1,2,3,5,6,8,9]<|Sq (Rq [Aa 68 9,Ac 69 1 3,Ab 70 69,Ah 71 70,Ap 72 68 71,Aa 73 72,Aq 74 9 73,Eh 75 74 4 73,At 76 73 75,Aa 77 76,Aq 78 8 77,Ei 79 78 0 77,At 80 77 79] [1,2,3,5,6,8,9,80]<|Co 80 (Sk [1,2,3,5,6,8,9])<|Ex 2 [2,5,6])<|Sq (Bl 3<|Sq (Dr [10,83,84,85,86,87,88,89,90,91,92,93,94,95,96,97,98,99,100,101,102,103,104,105,106,107,108,109,110,111,112] [Ac 83 1 3,Ab 84 83,Aa 85 9,Ag 86 84 85 3,Cy 87 86 0 1 3,Ab 88 87,Cr 89 88,Ac 90 3 1,Ab 91 90,Ah 92 91,Cs 93 89 92,Ac 94 1 3,Ab 95 94,Aa 96 9,Ag 97 95 96 3,Cy 98 97 1 1 3,Ab 99 98,Cr 100 99,Aa 101 8,Cs 102 100 101,Ac 103 1 3,Ab 104 103,Aa 105 9,Ag 106 104 105 3,Cy 107 106 2 1 3,Ab 108 107,Cr 109 108,Aa 110 8,Cs 111 109 110,Ds 112 0 0 0 0 1 93 1 1 102 2 1 111,By 10 0 0 0,Aj 3 10 112] [1,2,3,5,6,8,9,10])<|Sq (Dr [113,114,115,116,117,118,119,120,121,122,123,124,125,126,127,128] [Ae 113 3 2,Ac 114 10 0,Ab 115 114,Ac 116 6 0,Ab 117 116,Ac 118 10 1,Ab 119 118,Ag 120 117 119 1,Ab 121 120,Ac 122 6 0,Ab 123 122,Ac 124 10 2,Ab 125 124,Ag 126 123 125 1,Ab 127 126,Bz 128 68 113 115 121 127] [1,2,3,5,6,8,9,10,128])<|Co 128 (Re [Ac 129 6 1,Bm 130 129,Ae 131 10 3,Bh 132 3 131,Bb 133 3 130 132,Ac 134 6 1,Bj 1 134 133] [1,2,3,5,6,8,9])<|Sk [1,2,3,5,6,8,9])<|Re [Aa 81 9,An 82 81 1,Aa 9 82] [1,2,3,5,6,8,9])<|Sq (Dr [2,135,136,137,138,139,140] [⟨some 135,.bld [.str ⟨#[]⟩,.list 1 [],.list 3 [],.list 4 [],.int .i64 0,.list 5 [],.list 1 [],.list 3 [],.list 4 [],.int .i64 0,.list 5 [],.list 1 [],.list 1 [],.list 1 [],.list 1 [],.bool false,.int .i64 0,.list 9 [],.list 1 [],.list 1 [],.list 1 [],.list 3 [],.list 4 [],.int .i64 0,.list 5 []] [(0,1,.c (.str ⟨#[114]⟩))],none⟩,Ae 136 5 2,Ae 137 6 2,Ae 138 5 2,Au 139 70 138,Bz 140 69 135 136 137 139,Aj 25 2 140] [2])<|.ret) [.cell 2 (some 25)]:= by decide +kernel
theorem c27 (d:ref53_Draft) (r:Rule) (h:ref53_Made d=some r):Sound prog 27 [eref53_Draft d] (.sh (eRule r)):= by
 refine Fn ck27 fun hw=>?_
 unfold ref53_Made at h
 refine D<|F<|a4 rfl rfl<|b1 rfl<|E (kt<|kb<|kn) fun _=>?_
 refine D<|F ?_
 obtain ⟨x12,hx12,h⟩:=I h
 refine e5 rfl (c26  _ hx12)<|e6 rfl<|b2 rfl rfl<|b2 rfl rfl<|b1 rfl<|b1 rfl<|a8 rfl rfl rfl rfl rfl<|a8 rfl rfl rfl rfl rfl<|E (kt<|kb<|kb<|kn) fun _=>?_
 refine D<|b9 rfl<|R rfl rfl (show _=eTypes x12.1 from rfl)<|K rfl<|a6 rfl<|J rfl<|K rfl<|a6 rfl<|J rfl<|U rfl rfl<|q0 rfl rfl ?_
 obtain ⟨x24,hx24,h⟩:=I h
 refine l8 rfl rfl rfl rfl hx24<|K rfl<|a6 rfl<|J rfl<|K rfl<|a6 rfl<|J rfl<|U rfl rfl<|q0 rfl rfl ?_
 obtain ⟨x33,hx33,h⟩:=I h
 refine l8 rfl rfl rfl rfl hx33<|g5 rfl rfl rfl (show _=eref15_Draft (ref15_Draft.mk x24 x33) from rfl) ?_
 obtain ⟨x35,hx35,h⟩:=I h
 refine T rfl (c66 x12.1 (ref15_Draft.mk x24 x33) _ hx35)<|q6 rfl rfl (show _=eGraph x35.Graph from rfl)<|b1 rfl<|a8 rfl rfl rfl rfl rfl<|E (kt<|kb<|kb<|kb<|kn) fun _=>?_
 refine D<|F<|R rfl rfl (show _=eGraph x35.Graph from rfl) ?_
 obtain ⟨x38,hx38,h⟩:=I h
 refine q7 rfl (c67 x35.Graph _ hx38)<|b1 rfl<|m4 rfl rfl (by decide) rfl rfl rfl<|E (kt<|kb<|kb<|kb<|kb<|kn) fun _=>?_
 refine D<|D<|F<|C rfl<|E (kt<|kb<|kb<|kb<|kb<|kt<|kn) fun _=>?_
 obtain ⟨o0,ho0,h⟩:=d2 h
 refine g9 ho0 (fun (s0:Graph × Int)=>[(1,.tv (.pt (eref53_Draft d).cells)),(2,.bx [⟨false,eS (⟨#[]⟩:ByteArray)⟩,⟨true,lI []⟩,⟨true,lE []⟩,⟨true,lS []⟩,⟨false,eI 0⟩,⟨true,lT []⟩,⟨true,lI []⟩,⟨true,lE []⟩,⟨true,lS []⟩,⟨false,eI 0⟩,⟨true,lT []⟩,⟨true,lI []⟩,⟨true,lI []⟩,⟨true,lI []⟩,⟨true,lI []⟩,⟨false,eB false⟩,⟨false,eI 0⟩,⟨true,eLCondition []⟩,⟨true,lI []⟩,⟨true,lI []⟩,⟨true,lI []⟩,⟨true,lE []⟩,⟨true,lS []⟩,⟨false,eI 0⟩,⟨true,lT []⟩]),(3,.bx [⟨false,lN x12.1.Nodes⟩,⟨false,lX x12.1.Edges⟩]),(5,.bx [⟨false,lI x35.Graph.Nodes⟩,⟨false,lE x35.Graph.Edges⟩]),(6,.bx [⟨true,lI s0.1.Nodes⟩,⟨true,lE s0.1.Edges⟩]),(7,.tv (eI s0.2))]) (fun (s0:Graph × Int)=>[(1,.tv (.pt (eref53_Draft d).cells)),(2,.bx [⟨false,eS (⟨#[]⟩:ByteArray)⟩,⟨true,lI []⟩,⟨true,lE []⟩,⟨true,lS []⟩,⟨false,eI 0⟩,⟨true,lT []⟩,⟨true,lI []⟩,⟨true,lE []⟩,⟨true,lS []⟩,⟨false,eI 0⟩,⟨true,lT []⟩,⟨true,lI []⟩,⟨true,lI []⟩,⟨true,lI []⟩,⟨true,lI []⟩,⟨false,eB false⟩,⟨false,eI 0⟩,⟨true,eLCondition []⟩,⟨true,lI []⟩,⟨true,lI []⟩,⟨true,lI []⟩,⟨true,lE []⟩,⟨true,lS []⟩,⟨false,eI 0⟩,⟨true,lT []⟩]),(3,.bx [⟨false,lN x12.1.Nodes⟩,⟨false,lX x12.1.Edges⟩]),(5,.bx [⟨false,lI x35.Graph.Nodes⟩,⟨false,lE x35.Graph.Edges⟩]),(6,.bx [⟨true,lI s0.1.Nodes⟩,⟨true,lE s0.1.Edges⟩])]) (fun zv ze=>resIs ([.cell 2 (some 25)]) (.sh (eRule zv)) ze) rfl ?_ ?_ ?_
 ·clear h ho0
  intro s0 r0 h hw0
  refine D<|D<|F<|C rfl<|K rfl<|J rfl<|U rfl rfl<|V rfl rfl<|C rfl ?_
  refine gA 3 [45,46] 47 (decide (s0.2<(d.Nodes.length:Int))) (decide (s0.2<3)) (fun hg47=>?_) (fun hg47=>?_) ?_
  ·refine G rfl hg47<|C rfl<|G rfl hg47<|V rfl rfl<|Y rfl hg47 rfl ?_
   exact ⟨⟨_,_,rfl⟩⟩
  ·refine H rfl hg47<|H rfl hg47<|Z rfl hg47 rfl ?_
   exact ⟨⟨_,_,rfl⟩⟩
  rintro _ ⟨_,_,rfl⟩
  refine E (kt<|kb<|kb<|kb<|kb<|kt<|kt<|kn) fun _=>?_
  refine S rfl (fun hc47=>?_) (fun hc47=>?_)
  ·replace h:=M hc47 h
   refine P (kt<|kb<|kb<|kb<|kb<|kt<|kn) fun _=>?_
   refine D<|b0<|b9 rfl<|a3 rfl<|f8 rfl rfl rfl rfl<|K rfl<|J rfl<|C rfl ?_
   obtain ⟨x55,hx55,h⟩:=I h
   refine W rfl rfl rfl hx55 rfl<|J rfl<|l4 rfl<|a3 rfl<|J rfl<|U rfl rfl ?_
   obtain ⟨x61,hx61,h⟩:=I h
   refine l5 rfl rfl hx61<|e1 (e:=eI) (l:=[x61]) rfl rfl (fun _=>rfl) ?_
   obtain ⟨x63,hx63,h⟩:=I h
   refine e7 rfl rfl rfl rfl hx63 rfl<|a3 rfl<|f7 rfl rfl rfl (by decide) rfl rfl<|E (kt<|kb<|kb<|kb<|kb<|kt<|kn) fun _=>?_
   refine F<|C rfl<|a7 rfl rfl<|C rfl<|E (kt<|kb<|kb<|kb<|kb<|kt<|kn) ?_
   cases h
   refine ⟨_,rfl,?_⟩
   rw [Ktv rfl (Kbx rfl (Kbx rfl (Kbx rfl (Kbx rfl (Ktv rfl (Knil _))))))]
   all_goals rfl
  ·replace h:=O hc47 h
   refine b3 (kt<|kb<|kb<|kb<|kb<|kn) ?_
   refine ⟨rfl,?_⟩
   cases h
   exact ⟨_,rfl,rfl⟩
 ·intro s0 hs
  replace h:=d3 h hs
  intro _
  refine D<|F<|a3 rfl<|J rfl<|U rfl rfl<|C rfl<|E (kt<|kb<|kb<|kb<|kb<|kt<|kn) fun _=>?_
  refine D<|D<|F<|C rfl<|E (kt<|kb<|kb<|kb<|kb<|kt<|kt<|kn) fun _=>?_
  obtain ⟨o2,ho2,h⟩:=d2 h
  refine g9 ho2 (fun (s2:Graph × Int)=>[(1,.tv (.pt (eref53_Draft d).cells)),(2,.bx [⟨false,eS (⟨#[]⟩:ByteArray)⟩,⟨true,lI []⟩,⟨true,lE []⟩,⟨true,lS []⟩,⟨false,eI 0⟩,⟨true,lT []⟩,⟨true,lI []⟩,⟨true,lE []⟩,⟨true,lS []⟩,⟨false,eI 0⟩,⟨true,lT []⟩,⟨true,lI []⟩,⟨true,lI []⟩,⟨true,lI []⟩,⟨true,lI []⟩,⟨false,eB false⟩,⟨false,eI 0⟩,⟨true,eLCondition []⟩,⟨true,lI []⟩,⟨true,lI []⟩,⟨true,lI []⟩,⟨true,lE []⟩,⟨true,lS []⟩,⟨false,eI 0⟩,⟨true,lT []⟩]),(3,.bx [⟨false,lN x12.1.Nodes⟩,⟨false,lX x12.1.Edges⟩]),(5,.bx [⟨false,lI x35.Graph.Nodes⟩,⟨false,lE x35.Graph.Edges⟩]),(6,.bx [⟨true,lI s2.1.Nodes⟩,⟨true,lE s2.1.Edges⟩]),(8,.tv (eI (s0.1.Nodes.length:Int))),(9,.tv (eI s2.2))]) (fun (s2:Graph × Int)=>[(2,.bx [⟨false,eS (⟨#[]⟩:ByteArray)⟩,⟨true,lI []⟩,⟨true,lE []⟩,⟨true,lS []⟩,⟨false,eI 0⟩,⟨true,lT []⟩,⟨true,lI []⟩,⟨true,lE []⟩,⟨true,lS []⟩,⟨false,eI 0⟩,⟨true,lT []⟩,⟨true,lI []⟩,⟨true,lI []⟩,⟨true,lI []⟩,⟨true,lI []⟩,⟨false,eB false⟩,⟨false,eI 0⟩,⟨true,eLCondition []⟩,⟨true,lI []⟩,⟨true,lI []⟩,⟨true,lI []⟩,⟨true,lE []⟩,⟨true,lS []⟩,⟨false,eI 0⟩,⟨true,lT []⟩]),(5,.bx [⟨false,lI x35.Graph.Nodes⟩,⟨false,lE x35.Graph.Edges⟩]),(6,.bx [⟨true,lI s2.1.Nodes⟩,⟨true,lE s2.1.Edges⟩])]) (fun zv ze=>resIs ([.cell 2 (some 25)]) (.sh (eRule zv)) ze) rfl ?_ ?_ ?_
  ·clear h ho2
   intro s2 r2 h hw2
   refine D<|D<|F<|C rfl<|K rfl<|J rfl<|U rfl rfl<|V rfl rfl<|C rfl ?_
   refine gA 3 [74,75] 76 (decide (s2.2<(d.Edges.length:Int))) (decide (s2.2<4)) (fun hg76=>?_) (fun hg76=>?_) ?_
   ·refine G rfl hg76<|C rfl<|G rfl hg76<|V rfl rfl<|Y rfl hg76 rfl ?_
    exact ⟨⟨_,_,rfl⟩⟩
   ·refine H rfl hg76<|H rfl hg76<|Z rfl hg76 rfl ?_
    exact ⟨⟨_,_,rfl⟩⟩
   rintro _ ⟨_,_,rfl⟩
   refine C rfl ?_
   refine gA 3 [78,79] 80 ((decide (s2.2<(d.Edges.length:Int)))&&(decide (s2.2<4))) (decide (0<(s0.1.Nodes.length:Int))) (fun hg80=>?_) (fun hg80=>?_) ?_
   ·refine G rfl hg80<|C rfl<|G rfl hg80<|e4 rfl rfl<|Y rfl hg80 rfl ?_
    exact ⟨⟨_,_,rfl⟩⟩
   ·refine H rfl hg80<|H rfl hg80<|Z rfl hg80 rfl ?_
    exact ⟨⟨_,_,rfl⟩⟩
   rintro _ ⟨_,_,rfl⟩
   refine E (kt<|kb<|kb<|kb<|kb<|kt<|kt<|kt<|kn) fun _=>?_
   refine S rfl (fun hc80=>?_) (fun hc80=>?_)
   ·replace h:=M hc80 h
    refine P (kt<|kb<|kb<|kb<|kb<|kt<|kt<|kn) fun _=>?_
    refine D<|b0<|D<|b9 rfl<|K rfl<|J rfl<|C rfl ?_
    obtain ⟨x86,hx86,h⟩:=I h
    refine W rfl rfl rfl hx86 rfl<|l7 (j':=0) rfl rfl (by decide) (by decide) (Nat.le_of_ble_eq_true rfl) rfl<|J rfl<|l4 rfl<|a3 rfl<|J rfl<|U rfl rfl ?_
    obtain ⟨x93,hx93,h⟩:=I h
    refine l5 rfl rfl hx93<|K rfl<|J rfl<|C rfl ?_
    obtain ⟨x97,hx97,h⟩:=I h
    refine W rfl rfl rfl hx97 rfl<|l7 (j':=1) rfl rfl (by decide) (by decide) (Nat.le_of_ble_eq_true rfl) rfl<|J rfl<|l4 rfl<|C rfl ?_
    obtain ⟨x102,hx102,h⟩:=I h
    refine l5 rfl rfl hx102<|K rfl<|J rfl<|C rfl ?_
    obtain ⟨x106,hx106,h⟩:=I h
    refine W rfl rfl rfl hx106 rfl<|l7 (j':=2) rfl rfl (by decide) (by decide) (Nat.le_of_ble_eq_true rfl) rfl<|J rfl<|l4 rfl<|C rfl ?_
    obtain ⟨x111,hx111,h⟩:=I h
    refine l5 rfl rfl hx111<|g5 rfl rfl rfl (show _=eEdge (Edge.mk x93 x102 x111) from rfl)<|b1 rfl<|a8 rfl rfl rfl rfl rfl<|E (kt<|kb<|kb<|kb<|kb<|kt<|kt<|kb<|kn) fun _=>?_
    refine D<|b9 rfl<|R rfl rfl (show _=eTypes x12.1 from rfl)<|a3 rfl<|J rfl<|a3 rfl<|J rfl<|a3 rfl<|J rfl ?_
    obtain ⟨x120,hx120,h⟩:=I h
    refine W rfl rfl rfl hx120 rfl<|J rfl<|a3 rfl<|J rfl<|a3 rfl<|J rfl ?_
    obtain ⟨x126,hx126,h⟩:=I h
    refine W rfl rfl rfl hx126 rfl<|J rfl ?_
    obtain ⟨x128,hx128,h⟩:=I h
    refine T rfl (c68 x12.1 x93 x120 x126 _ hx128)<|E (kt<|kb<|kb<|kb<|kb<|kt<|kt<|kb<|kt<|kn) fun _=>?_
    refine S rfl (fun hc128=>?_) (fun hc128=>?_)
    ·replace h:=M hc128 h
     refine F<|a3 rfl<|f8 rfl rfl rfl rfl<|R rfl rfl (show _=eEdge (Edge.mk x93 x102 x111) from rfl)<|e1 (e:=eEdge) (l:=[Edge.mk x93 x102 x111]) rfl rfl (fun _=>rfl) ?_
     obtain ⟨x133,hx133,h⟩:=I h
     refine e7 rfl rfl rfl rfl hx133 rfl<|a3 rfl<|f7 rfl rfl rfl (by decide) rfl rfl<|E (kt<|kb<|kb<|kb<|kb<|kt<|kt<|kn) fun _=>?_
     refine F<|C rfl<|a7 rfl rfl<|C rfl<|E (kt<|kb<|kb<|kb<|kb<|kt<|kt<|kn) ?_
     cases h
     refine ⟨_,rfl,?_⟩
     rw [Ktv rfl (Kbx rfl (Kbx rfl (Kbx rfl (Kbx rfl (Ktv rfl (Ktv rfl (Knil _)))))))]
     all_goals rfl
    ·replace h:=O hc128 h
     refine P (kt<|kb<|kb<|kb<|kb<|kt<|kt<|kn) fun _=>?_
     refine F<|C rfl<|a7 rfl rfl<|C rfl<|E (kt<|kb<|kb<|kb<|kb<|kt<|kt<|kn) ?_
     cases h
     refine ⟨_,rfl,?_⟩
     rw [Ktv rfl (Kbx rfl (Kbx rfl (Kbx rfl (Kbx rfl (Ktv rfl (Ktv rfl (Knil _)))))))]
     all_goals rfl
   ·replace h:=O hc80 h
    refine b3 (kb<|kb<|kb<|kn) ?_
    refine ⟨rfl,?_⟩
    cases h
    exact ⟨_,rfl,rfl⟩
  ·intro s2 hs
   replace h:=d3 h hs
   intro _
   refine D<|b9 rfl<|e8 rfl rfl (show _=eRule (Rule.mk (⟨#[114]⟩:ByteArray) (Pattern.mk (Graph.mk [] []) [] 0 []) (Pattern.mk (Graph.mk [] []) [] 0 []) (Part.mk [] []) (Morphism.mk [] []) false (Condition.mk 0 [] (Morphism.mk [] []) (Pattern.mk (Graph.mk [] []) [] 0 []))) from rfl)<|R rfl rfl (show _=eGraph x35.Graph from rfl)<|R rfl rfl (show _=eGraph s2.1 from rfl)<|R rfl rfl (show _=eGraph x35.Graph from rfl) ?_
   obtain ⟨x139,hx139,h⟩:=I h
   refine T rfl (c70 x35.Graph _ hx139) ?_
   obtain ⟨x140,hx140,h⟩:=I h
   refine T rfl (c69 (Rule.mk (⟨#[114]⟩:ByteArray) (Pattern.mk (Graph.mk [] []) [] 0 []) (Pattern.mk (Graph.mk [] []) [] 0 []) (Part.mk [] []) (Morphism.mk [] []) false (Condition.mk 0 [] (Morphism.mk [] []) (Pattern.mk (Graph.mk [] []) [] 0 []))) x35.Graph s2.1 x139 _ hx140)<|a8 rfl rfl rfl rfl rfl<|E (kb<|kn) fun _=>?_
   exact L (by cases h;rfl)
  ·intro v2 ze hv hR
   replace h:=d4 h hv
   cases h
   exact hR
 ·intro v0 ze hv hR
  replace h:=d4 h hv
  cases h
  exact hR
theorem ck170:CK f170 (Rq [Ak 4] [0,1]<|Sq (Rq [Ad 5 0] [0,1,5]<|Bl 0<|Lo [0,1,5]<|Sq (Rq [Aa 6 5,Aa 7 0,Ah 8 7,Ap 9 6 8] [0,1,5,9]<|Co 9 (Sk [0,1,5])<|Ex 0 [])<|Sq (Bl 1<|Rq [Aa 12 0,Aa 13 5,Ag 14 12 13 1,Ab 15 14,Aa 16 1,Bt 17 15 16] [0,1,5,17]<|Co 17 (Rq [Cg 4] [4]<|.ret)<|Sk [0,1,5])<|Re [Aa 10 5,An 11 10 1,Aa 5 11] [0,1,5])<|Rq [Ak 4] [4]<|.ret) [.tmp 4]:= by decide +kernel
theorem c170 (l:List Int) (n:Int) (r:Bool) (h:ref24_has l n=some r):Sound prog 170 [lI l,eI n] (.sh (eB r)):= by
 refine Fn ck170 fun hw=>?_
 unfold ref24_has at h
 refine D<|F<|C rfl<|E (kt<|kt<|kn) fun _=>?_
 refine D<|D<|F<|C rfl<|E (kt<|kt<|kt<|kn) fun _=>?_
 obtain ⟨o0,ho0,h⟩:=d2 h
 refine d6 ho0 (fun (i0:Int) (_:Unit)=>[(0,.tv (lI l)),(1,.tv (eI n)),(5,.tv (eI i0))]) (fun (_:Unit)=>[]) (fun zv ze=>resIs ([.tmp 4]) (.sh (eB zv)) ze) rfl ?_ ?_ ?_ ?_
 ·clear h ho0
  intro i0 s0 r0 hi0 h hw0
  refine D<|D<|F<|C rfl<|C rfl<|U rfl rfl<|V rfl rfl<|E (kt<|kt<|kt<|kt<|kn) fun _=>?_
  refine b5 rfl (b6 hi0)<|P (kt<|kt<|kt<|kn) fun _=>?_
  refine D<|b0<|D<|F<|C rfl<|C rfl ?_
  obtain ⟨x14,hx14,h⟩:=I h
  refine W rfl rfl rfl hx14 rfl<|J rfl<|C rfl<|d1 rfl rfl<|E (kt<|kt<|kt<|kt<|kn) fun _=>?_
  refine S rfl (fun hc17=>?_) (fun hc17=>?_)
  ·replace h:=M hc17 h
   refine D<|F<|C rfl<|E (kt<|kn) fun _=>?_
   refine L ?_
   cases h
   exact ⟨_,rfl,rfl⟩
  ·replace h:=O hc17 h
   refine P (kt<|kt<|kt<|kn) fun _=>?_
   refine F<|C rfl<|a7 rfl rfl<|C rfl<|E (kt<|kt<|kt<|kn) ?_
   cases h
   refine ⟨_,rfl,?_⟩
   rw [Ktv rfl (Ktv rfl (Ktv rfl (Knil _)))]
   rw [b4 (a5 (hw0 5)) hi0 (e9 (a5 (hw0 0)) rfl)]
   all_goals rfl
 ·intro i0 s0 hi0
  refine D<|D<|F<|C rfl<|C rfl<|U rfl rfl<|V rfl rfl<|E (kt<|kt<|kt<|kt<|kn) fun _=>?_
  refine b7 rfl (b8 hi0)<|b3 (kn) ?_
  exact ⟨rfl,rfl⟩
 ·intro s0 hs
  replace h:=d3 h hs
  intro _
  refine D<|F<|C rfl<|E (kt<|kn) fun _=>?_
  exact L (by cases h;rfl)
 ·intro v0 ze hv hR
  replace h:=d4 h hv
  cases h
  exact hR
theorem ck123:CK f123 (Rq [Bf 4 1] [0,1]<|Rq [Bf 5 1] [0,1,5]<|Sq (Rq [Ad 6 0] [0,1,5,6]<|Bl 0<|Lo [0,1,5,6]<|Sq (Rq [Aa 7 6,Aa 8 0,Ap 9 7 8] [0,1,5,6,9]<|Co 9 (Sk [0,1,5,6])<|Ex 0 [5])<|Sq (Bl 1<|Rq [Aa 12 1,Aa 13 6,Al 14 170 12 13,Az 15 14] [0,1,5,6,15]<|Co 15 (Re [Ay 16 5,Aa 17 6,Bh 18 1 17,Bb 19 1 16 18,Ay 5 19] [0,1,5,6])<|Sk [0,1,5,6])<|Re [Aa 10 6,An 11 10 1,Aa 6 11] [0,1,5,6])<|Rq [Aa 20 5,Ay 4 20] [4]<|.ret) [.tmp 4]:= by decide +kernel
theorem c123 (n:Int) (l:List Int) (r:(List Int)) (h:ref24_rest n l=some r):Sound prog 123 [eI n,lI l] (.sh (lI r)):= by
 refine Fn ck123 fun hw=>?_
 unfold ref24_rest at h
 refine D<|F<|f0<|E (kt<|kt<|kn) fun _=>?_
 refine D<|F<|f0<|E (kt<|kt<|ko<|kn) fun _=>?_
 refine D<|D<|F<|C rfl<|E (kt<|kt<|ko<|kt<|kn) fun _=>?_
 obtain ⟨s0,hs0,h⟩:=I h
 refine f5 hs0 (fun (i0:Int) (s0:List Int)=>[(0,.tv (eI n)),(1,.tv (lI l)),(5,.ow (lI s0)),(6,.tv (eI i0))]) (fun (s0:List Int)=>[(5,.ow (lI s0))]) rfl ?_ ?_ ?_
 ·clear h hs0
  intro i0 s0 r0 hi0 h hw0
  refine D<|D<|F<|C rfl<|C rfl<|V rfl rfl<|E (kt<|kt<|ko<|kt<|kt<|kn) fun _=>?_
  refine b5 rfl (b6 hi0)<|P (kt<|kt<|ko<|kt<|kn) fun _=>?_
  refine D<|b0<|D<|F<|C rfl<|C rfl ?_
  obtain ⟨x14,hx14,h⟩:=I h
  refine T rfl (c170 l i0 _ hx14)<|d0 rfl<|E (kt<|kt<|ko<|kt<|kt<|kn) fun _=>?_
  refine S rfl (fun hc15=>?_) (fun hc15=>?_)
  ·replace h:=M hc15 h
   refine F<|f2 rfl<|C rfl<|e1 (e:=eI) (l:=[i0]) rfl rfl (fun _=>rfl) ?_
   obtain ⟨x19,hx19,h⟩:=I h
   refine e7 rfl rfl rfl rfl hx19 rfl<|f2 rfl<|E (kt<|kt<|ko<|kt<|kn) fun _=>?_
   refine F<|C rfl<|a7 rfl rfl<|C rfl<|E (kt<|kt<|ko<|kt<|kn) ?_
   cases h
   show Env.keep _ _=_
   rw [Ktv rfl (Ktv rfl (Kow rfl (Ktv rfl (Knil _))))]
   rw [b4 (a5 (hw0 6)) hi0 (e0 (a5 (hw0 0)))]
   all_goals rfl
  ·replace h:=O hc15 h
   refine P (kt<|kt<|ko<|kt<|kn) fun _=>?_
   refine F<|C rfl<|a7 rfl rfl<|C rfl<|E (kt<|kt<|ko<|kt<|kn) ?_
   cases h
   show Env.keep _ _=_
   rw [Ktv rfl (Ktv rfl (Kow rfl (Ktv rfl (Knil _))))]
   rw [b4 (a5 (hw0 6)) hi0 (e0 (a5 (hw0 0)))]
   all_goals rfl
 ·intro i0 s0 hi0
  refine D<|D<|F<|C rfl<|C rfl<|V rfl rfl<|E (kt<|kt<|ko<|kt<|kt<|kn) fun _=>?_
  refine b7 rfl (b8 hi0)<|b3 (ko<|kn) ?_
  exact ⟨rfl,rfl⟩
 ·intro _
  refine D<|F<|C rfl<|f1 rfl<|E (kt<|kn) fun _=>?_
  exact L (by cases h;rfl)
theorem ck71:CK f71 (Rq [Af 1 0,Bf 2 1,Bf 3 1] [1]<|Sq (Dr [2,3,4,5,6,7,8,9,10,11,12,13,14,15,16,17,18,19,20,21] [Ac 4 1 6,Ai 5 4 0,Ai 6 5 0,Ab 7 6,Ah 8 7,Ac 9 1 13,Ai 10 9 0,Ab 11 10,Al 12 123 8 11,Ac 13 1 6,Ai 14 13 0,Ai 15 14 1,Ab 16 15,Ah 17 16,Ac 18 1 13,Ai 19 18 1,Ab 20 19,Al 21 123 17 20,Ay 2 12,Ay 3 21] [2,3])<|.ret) [.tmp 2,.tmp 3]:= by decide +kernel
theorem c71 (r_0:Rule) (r:(List Int × List Int)) (h:ref24_created r_0=some r):Sound prog 71 [eRule r_0] (.tp [lI r.1,lI r.2]):= by
 refine Fn ck71 fun hw=>?_
 unfold ref24_created at h
 refine D<|F<|a4 rfl rfl<|f0<|f0<|E (kt<|kn) fun _=>?_
 refine D<|b9 rfl<|K rfl<|a6 rfl<|a6 rfl<|J rfl<|U rfl rfl<|K rfl<|a6 rfl<|J rfl ?_
 obtain ⟨x12,hx12,h⟩:=I h
 refine T rfl (c123 (r_0.Right.Graph.Nodes.length:Int) r_0.Into.Nodes _ hx12)<|K rfl<|a6 rfl<|a6 rfl<|J rfl<|U rfl rfl<|K rfl<|a6 rfl<|J rfl ?_
 obtain ⟨x21,hx21,h⟩:=I h
 refine T rfl (c123 (r_0.Right.Graph.Edges.length:Int) r_0.Into.Edges _ hx21)<|f1 rfl<|f1 rfl<|E (kt<|kt<|kn) fun _=>?_
 refine L ?_
 cases h
 exact ⟨by decide,rfl⟩
theorem ck175:CK f175 (Rq [Ak 2] [0]<|Rq [Aa 3 0,Bo 4 3 0,Aa 5 4,Aq 6 0 5,Ci 7 6 99 5,At 8 5 7,Aa 2 8] [2]<|.ret) [.tmp 2]:= by decide +kernel
theorem c175 (n:Int) (r:Bool) (h:ref05_kind n=some r):Sound prog 175 [eI n] (.sh (eB r)):= by
 refine Fn ck175 fun hw=>?_
 unfold ref05_kind at h
 refine D<|F<|C rfl<|E (kt<|kn) fun _=>?_
 refine D<|F<|C rfl<|d5 rfl rfl<|C rfl ?_
 refine gA 3 [6,7] 8 (decide (0<=n)) (decide (n<=99)) (fun hg8=>?_) (fun hg8=>?_) ?_
 ·refine G rfl hg8<|C rfl<|G rfl hg8<|f4 rfl rfl<|Y rfl hg8 rfl ?_
  exact ⟨⟨_,_,rfl⟩⟩
 ·refine H rfl hg8<|H rfl hg8<|Z rfl hg8 rfl ?_
  exact ⟨⟨_,_,rfl⟩⟩
 rintro _ ⟨_,_,rfl⟩
 refine C rfl<|E (kt<|kn) fun _=>?_
 exact L (by cases h;rfl)
theorem ck176:CK f176 (Rq [Af 2 0,Ak 4] [1,2]<|Rq [Ac 5 2 0,Ab 6 5,Au 7 175 6,Aa 8 7,Ba 9 2 1 8,Ax 10 9 8,Fm 11 10 0 8,At 12 8 11,Aa 13 12,Ba 14 2 1 13,Ax 15 14 13,Aq 16 1 13,Dw 17 15 16 13,At 18 13 17,Aa 19 18,Ba 20 2 2 19,Ax 21 20 19,Fm 22 21 0 19,At 23 19 22,Aa 24 23,Ba 25 2 2 24,Ax 26 25 24,Aq 27 1 24,Dw 28 26 27 24,At 29 24 28,Aa 4 29] [4]<|.ret) [.tmp 4]:= by decide +kernel
theorem c176 (e:Edge) (nodes:Int) (r:Bool) (h:ref05_right e nodes=some r):Sound prog 176 [eEdge e,eI nodes] (.sh (eB r)):= by
 refine Fn ck176 fun hw=>?_
 unfold ref05_right at h
 refine D<|F<|a4 rfl rfl<|C rfl<|E (kt<|kt<|kn) fun _=>?_
 refine D<|F<|K rfl<|J rfl ?_
 obtain ⟨x7,hx7,h⟩:=I h
 refine T rfl (c175 e.Type' _ hx7)<|C rfl ?_
 refine gA 4 [9,10,11] 12 x7 (decide (0<=e.From)) (fun hg12=>?_) (fun hg12=>?_) ?_
 ·refine G rfl hg12<|K rfl<|G rfl hg12<|J rfl<|G rfl hg12<|d5 rfl rfl<|Y rfl hg12 rfl ?_
  exact ⟨⟨_,_,_,rfl⟩⟩
 ·refine H rfl hg12<|H rfl hg12<|H rfl hg12<|Z rfl hg12 rfl ?_
  exact ⟨⟨_,_,_,rfl⟩⟩
 rintro _ ⟨_,_,_,rfl⟩
 refine C rfl ?_
 refine gA 5 [14,15,16,17] 18 (x7&&(decide (0<=e.From))) (decide (e.From<nodes)) (fun hg18=>?_) (fun hg18=>?_) ?_
 ·refine G rfl hg18<|K rfl<|G rfl hg18<|J rfl<|G rfl hg18<|C rfl<|G rfl hg18<|V rfl rfl<|Y rfl hg18 rfl ?_
  exact ⟨⟨_,_,_,_,rfl⟩⟩
 ·refine H rfl hg18<|H rfl hg18<|H rfl hg18<|H rfl hg18<|Z rfl hg18 rfl ?_
  exact ⟨⟨_,_,_,_,rfl⟩⟩
 rintro _ ⟨_,_,_,_,rfl⟩
 refine C rfl ?_
 refine gA 4 [20,21,22] 23 ((x7&&(decide (0<=e.From)))&&(decide (e.From<nodes))) (decide (0<=e.To)) (fun hg23=>?_) (fun hg23=>?_) ?_
 ·refine G rfl hg23<|K rfl<|G rfl hg23<|J rfl<|G rfl hg23<|d5 rfl rfl<|Y rfl hg23 rfl ?_
  exact ⟨⟨_,_,_,rfl⟩⟩
 ·refine H rfl hg23<|H rfl hg23<|H rfl hg23<|Z rfl hg23 rfl ?_
  exact ⟨⟨_,_,_,rfl⟩⟩
 rintro _ ⟨_,_,_,rfl⟩
 refine C rfl ?_
 refine gA 5 [25,26,27,28] 29 (((x7&&(decide (0<=e.From)))&&(decide (e.From<nodes)))&&(decide (0<=e.To))) (decide (e.To<nodes)) (fun hg29=>?_) (fun hg29=>?_) ?_
 ·refine G rfl hg29<|K rfl<|G rfl hg29<|J rfl<|G rfl hg29<|C rfl<|G rfl hg29<|V rfl rfl<|Y rfl hg29 rfl ?_
  exact ⟨⟨_,_,_,_,rfl⟩⟩
 ·refine H rfl hg29<|H rfl hg29<|H rfl hg29<|H rfl hg29<|Z rfl hg29 rfl ?_
  exact ⟨⟨_,_,_,_,rfl⟩⟩
 rintro _ ⟨_,_,_,_,rfl⟩
 refine C rfl<|E (kt<|kn) fun _=>?_
 exact L (by cases h;rfl)
theorem ck127:CK f127 (Rq [Af 1 0,Ad 2 0] [1]<|Sq (Rq [Ac 5 1 0,Ab 6 5,Ah 7 6,Bk 8 7 40,Aa 9 8,Ar 10 1 1 9,Ao 11 10 9,Bc 12 11 9,Bs 13 12 80 9,As 14 9 13] [1,14]<|Co 14 (Rq [Ad 2 3] [2]<|.ret)<|Sk [1])<|Sq (Rq [Ad 3 0] [1,3]<|Bl 0<|Lo [1,3]<|Sq (Rq [Aa 15 3,Ac 16 1 0,Ab 17 16,Ah 18 17,Ap 19 15 18] [1,3,19]<|Co 19 (Sk [1,3])<|Ex 0 [1])<|Sq (Bl 1<|Rq [Ac 22 1 0,Ab 23 22,Aa 24 3,Ag 25 23 24 1,Ab 26 25,Au 27 175 26,Az 28 27] [1,3,28]<|Co 28 (Rq [Ad 2 6] [2]<|.ret)<|Sk [1,3])<|Re [Aa 20 3,An 21 20 1,Aa 3 21] [1,3])<|Sq (Rq [Ad 4 0] [1,4]<|Bl 2<|Lo [1,4]<|Sq (Rq [Aa 29 4,Ac 30 1 1,Ab 31 30,Ah 32 31,Ap 33 29 32] [1,4,33]<|Co 33 (Sk [1,4])<|Ex 2 [])<|Sq (Bl 3<|Sq (Dr [36,37,38,39,40,41,42,43,44,45] [Ac 36 1 1,Ab 37 36,Aa 38 4,Ag 39 37 38 3,Ae 40 39 3,Ac 41 1 0,Ab 42 41,Ah 43 42,Al 44 176 40 43,Az 45 44] [1,4,45])<|Co 45 (Rq [Ad 2 6] [2]<|.ret)<|Sk [1,4])<|Re [Aa 34 4,An 35 34 1,Aa 4 35] [1,4])<|Rq [Ad 2 0] [2]<|.ret) [.tmp 2]:= by decide +kernel
theorem c127 (g:Graph) (r:Int) (h:ref05_Valid g=some r):Sound prog 127 [eGraph g] (.sh (eI r)):= by
 refine Fn ck127 fun hw=>?_
 unfold ref05_Valid at h
 refine D<|F<|a4 rfl rfl<|C rfl<|E (kt<|kn) fun _=>?_
 refine D<|D<|F<|K rfl<|J rfl<|U rfl rfl<|e4 rfl rfl<|C rfl ?_
 refine gO 5 [10,11,12,13] 14 (decide (40<(g.Nodes.length:Int))) (decide (80<(g.Edges.length:Int))) (fun hg14=>?_) (fun hg14=>?_) ?_
 ·refine H rfl hg14<|H rfl hg14<|H rfl hg14<|H rfl hg14<|Y rfl hg14 rfl ?_
  exact ⟨⟨_,_,_,_,rfl⟩⟩
 ·refine G rfl hg14<|K rfl<|G rfl hg14<|J rfl<|G rfl hg14<|U rfl rfl<|G rfl hg14<|e4 rfl rfl<|Z rfl hg14 rfl ?_
  exact ⟨⟨_,_,_,_,rfl⟩⟩
 rintro _ ⟨_,_,_,_,rfl⟩
 refine E (kt<|kt<|kn) fun _=>?_
 refine S rfl (fun hc14=>?_) (fun hc14=>?_)
 ·replace h:=M hc14 h
  refine D<|F<|C rfl<|E (kt<|kn) fun _=>?_
  exact L (by cases h;rfl)
 ·replace h:=O hc14 h
  refine P (kt<|kn) fun _=>?_
  refine D<|D<|F<|C rfl<|E (kt<|kt<|kn) fun _=>?_
  obtain ⟨o0,ho0,h⟩:=d2 h
  refine d6 ho0 (fun (i0:Int) (_:Unit)=>[(1,.tv (.pt (eGraph g).cells)),(3,.tv (eI i0))]) (fun (_:Unit)=>[(1,.tv (.pt (eGraph g).cells))]) (fun zv ze=>resIs ([.tmp 2]) (.sh (eI zv)) ze) rfl ?_ ?_ ?_ ?_
  ·clear h ho0
   intro i0 s0 r0 hi0 h hw0
   refine D<|D<|F<|C rfl<|K rfl<|J rfl<|U rfl rfl<|V rfl rfl<|E (kt<|kt<|kt<|kn) fun _=>?_
   refine b5 rfl (b6 hi0)<|P (kt<|kt<|kn) fun _=>?_
   refine D<|b0<|D<|F<|K rfl<|J rfl<|C rfl ?_
   obtain ⟨x25,hx25,h⟩:=I h
   refine W rfl rfl rfl hx25 rfl<|J rfl ?_
   obtain ⟨x27,hx27,h⟩:=I h
   refine T rfl (c175 x25 _ hx27)<|d0 rfl<|E (kt<|kt<|kt<|kn) fun _=>?_
   refine S rfl (fun hc28=>?_) (fun hc28=>?_)
   ·replace h:=M hc28 h
    refine D<|F<|C rfl<|E (kt<|kn) fun _=>?_
    refine L ?_
    cases h
    exact ⟨_,rfl,rfl⟩
   ·replace h:=O hc28 h
    refine P (kt<|kt<|kn) fun _=>?_
    refine F<|C rfl<|a7 rfl rfl<|C rfl<|E (kt<|kt<|kn) ?_
    cases h
    refine ⟨_,rfl,?_⟩
    rw [Ktv rfl (Ktv rfl (Knil _))]
    rw [b4 (a5 (hw0 3)) hi0 (e9 (g0 (g1 (hw0 1)) (i:=0) rfl) rfl)]
    all_goals rfl
  ·intro i0 s0 hi0
   refine D<|D<|F<|C rfl<|K rfl<|J rfl<|U rfl rfl<|V rfl rfl<|E (kt<|kt<|kt<|kn) fun _=>?_
   refine b7 rfl (b8 hi0)<|b3 (kt<|kn) ?_
   exact ⟨rfl,rfl⟩
  ·intro s0 hs
   replace h:=d3 h hs
   intro _
   refine D<|D<|F<|C rfl<|E (kt<|kt<|kn) fun _=>?_
   obtain ⟨o2,ho2,h⟩:=d2 h
   refine d6 ho2 (fun (i2:Int) (_:Unit)=>[(1,.tv (.pt (eGraph g).cells)),(4,.tv (eI i2))]) (fun (_:Unit)=>[]) (fun zv ze=>resIs ([.tmp 2]) (.sh (eI zv)) ze) rfl ?_ ?_ ?_ ?_
   ·clear h ho2
    intro i2 s2 r2 hi2 h hw2
    refine D<|D<|F<|C rfl<|K rfl<|J rfl<|U rfl rfl<|V rfl rfl<|E (kt<|kt<|kt<|kn) fun _=>?_
    refine b5 rfl (b6 hi2)<|P (kt<|kt<|kn) fun _=>?_
    refine D<|b0<|D<|b9 rfl<|K rfl<|J rfl<|C rfl ?_
    obtain ⟨x39,hx39,h⟩:=I h
    refine W rfl rfl rfl hx39 rfl<|R rfl rfl (show _=eEdge x39 from rfl)<|K rfl<|J rfl<|U rfl rfl ?_
    obtain ⟨x44,hx44,h⟩:=I h
    refine T rfl (c176 x39 (g.Nodes.length:Int) _ hx44)<|d0 rfl<|E (kt<|kt<|kt<|kn) fun _=>?_
    refine S rfl (fun hc45=>?_) (fun hc45=>?_)
    ·replace h:=M hc45 h
     refine D<|F<|C rfl<|E (kt<|kn) fun _=>?_
     refine L ?_
     cases h
     exact ⟨_,rfl,rfl⟩
    ·replace h:=O hc45 h
     refine P (kt<|kt<|kn) fun _=>?_
     refine F<|C rfl<|a7 rfl rfl<|C rfl<|E (kt<|kt<|kn) ?_
     cases h
     refine ⟨_,rfl,?_⟩
     rw [Ktv rfl (Ktv rfl (Knil _))]
     rw [b4 (a5 (hw2 4)) hi2 (e9 (g0 (g1 (hw2 1)) (i:=1) rfl) rfl)]
     all_goals rfl
   ·intro i2 s2 hi2
    refine D<|D<|F<|C rfl<|K rfl<|J rfl<|U rfl rfl<|V rfl rfl<|E (kt<|kt<|kt<|kn) fun _=>?_
    refine b7 rfl (b8 hi2)<|b3 (kn) ?_
    exact ⟨rfl,rfl⟩
   ·intro s2 hs
    replace h:=d3 h hs
    intro _
    refine D<|F<|C rfl<|E (kt<|kn) fun _=>?_
    exact L (by cases h;rfl)
   ·intro v2 ze hv hR
    replace h:=d4 h hv
    cases h
    exact hR
  ·intro v0 ze hv hR
   replace h:=d4 h hv
   cases h
   exact hR
theorem ck128:CK f128 (Rq [Af 2 0,Af 3 1,Ak 4] [2,3]<|Sq (Rq [Ad 5 0] [2,3,5]<|Bl 0<|Lo [2,3,5]<|Sq (Rq [Aa 7 5,Ac 8 3 0,Ab 9 8,Ah 10 9,Ap 11 7 10] [2,3,5,11]<|Co 11 (Sk [2,3,5])<|Ex 0 [2,3])<|Sq (Bl 1<|Sq (Dr [14,15,16,17,18,19,20,21,22,23,24,25,26,27,28,29,30] [Ac 14 3 0,Ab 15 14,Aa 16 5,Ag 17 15 16 1,Ab 18 17,Bq 19 18 0,Aa 20 19,Ar 21 3 0 20,Ao 22 21 20,Aw 23 5 20,Cw 24 22 23 1 20,Ao 25 24 20,Ar 26 2 0 20,Ao 27 26 20,Bc 28 27 20,Bp 29 25 28 20,As 30 20 29] [2,3,5,30])<|Co 30 (Rq [Ak 4] [4]<|.ret)<|Sk [2,3,5])<|Re [Aa 12 5,An 13 12 1,Aa 5 13] [2,3,5])<|Sq (Rq [Ad 6 0] [2,3,6]<|Bl 2<|Lo [2,3,6]<|Sq (Rq [Aa 31 6,Ac 32 3 1,Ab 33 32,Ah 34 33,Ap 35 31 34] [2,3,6,35]<|Co 35 (Sk [2,3,6])<|Ex 2 [])<|Sq (Bl 3<|Sq (Dr [38,39,40,41,42,43,44,45,46,47,48,49,50,51,52,53,54,55,56] [Ac 38 3 1,Ab 39 38,Aa 40 6,Ag 41 39 40 3,Ai 42 41 0,Ab 43 42,Bq 44 43 0,Aa 45 44,Ar 46 3 1 45,Ao 47 46 45,Aw 48 6 45,Cw 49 47 48 3 45,Bi 50 49 0 45,Ao 51 50 45,Ar 52 2 1 45,Ao 53 52 45,Bc 54 53 45,Bp 55 51 54 45,As 56 45 55] [2,3,6,56])<|Co 56 (Rq [Ak 4] [4]<|.ret)<|Sk [2,3,6])<|Re [Aa 36 6,An 37 36 1,Aa 6 37] [2,3,6])<|Rq [Cg 4] [4]<|.ret) [.tmp 4]:= by decide +kernel
theorem c128 (t:Types) (g:Graph) (r:Bool) (h:ref17_Typed t g=some r):Sound prog 128 [eTypes t,eGraph g] (.sh (eB r)):= by
 refine Fn ck128 fun hw=>?_
 unfold ref17_Typed at h
 refine D<|F<|a4 rfl rfl<|a4 rfl rfl<|C rfl<|E (kt<|kt<|kn) fun _=>?_
 refine D<|D<|F<|C rfl<|E (kt<|kt<|kt<|kn) fun _=>?_
 obtain ⟨o0,ho0,h⟩:=d2 h
 refine d6 ho0 (fun (i0:Int) (_:Unit)=>[(2,.tv (.pt (eTypes t).cells)),(3,.tv (.pt (eGraph g).cells)),(5,.tv (eI i0))]) (fun (_:Unit)=>[(2,.tv (.pt (eTypes t).cells)),(3,.tv (.pt (eGraph g).cells))]) (fun zv ze=>resIs ([.tmp 4]) (.sh (eB zv)) ze) rfl ?_ ?_ ?_ ?_
 ·clear h ho0
  intro i0 s0 r0 hi0 h hw0
  refine D<|D<|F<|C rfl<|K rfl<|J rfl<|U rfl rfl<|V rfl rfl<|E (kt<|kt<|kt<|kt<|kn) fun _=>?_
  refine b5 rfl (b6 hi0)<|P (kt<|kt<|kt<|kn) fun _=>?_
  refine D<|b0<|D<|b9 rfl<|K rfl<|J rfl<|C rfl ?_
  obtain ⟨x17,hx17,h⟩:=I h
  refine W rfl rfl rfl hx17 rfl<|J rfl<|V rfl rfl<|C rfl ?_
  obtain ⟨x30,hx30,h⟩:=I h
  refine gX 10 [21,22,23,24,25,26,27,28,29] 30 x30 (decide (x17<0)) (fun hg30=>?_) (fun hg30=>?_) ?_
  ·replace h:=M hg30 hx30
   cases h
   refine H rfl hg30<|H rfl hg30<|H rfl hg30<|H rfl hg30<|H rfl hg30<|H rfl hg30<|H rfl hg30<|H rfl hg30<|H rfl hg30<|Y rfl hg30 rfl ?_
   exact ⟨⟨_,_,_,_,_,_,_,_,_,rfl⟩⟩
  ·replace h:=O hg30 hx30
   refine G rfl hg30<|K rfl<|G rfl hg30<|J rfl<|G rfl hg30<|C rfl ?_
   obtain ⟨x24,hx24,h⟩:=I h
   refine G rfl hg30<|W rfl rfl rfl hx24 rfl<|G rfl hg30<|J rfl<|G rfl hg30<|K rfl<|G rfl hg30<|J rfl<|G rfl hg30<|U rfl rfl<|G rfl hg30<|d5 rfl rfl ?_
   cases h
   refine Z rfl hg30 rfl ?_
   exact ⟨⟨_,_,_,_,_,_,_,_,_,rfl⟩⟩
  rintro _ ⟨_,_,_,_,_,_,_,_,_,rfl⟩
  refine E (kt<|kt<|kt<|kt<|kn) fun _=>?_
  refine S rfl (fun hc30=>?_) (fun hc30=>?_)
  ·replace h:=M hc30 h
   refine D<|F<|C rfl<|E (kt<|kn) fun _=>?_
   refine L ?_
   cases h
   exact ⟨_,rfl,rfl⟩
  ·replace h:=O hc30 h
   refine P (kt<|kt<|kt<|kn) fun _=>?_
   refine F<|C rfl<|a7 rfl rfl<|C rfl<|E (kt<|kt<|kt<|kn) ?_
   cases h
   refine ⟨_,rfl,?_⟩
   rw [Ktv rfl (Ktv rfl (Ktv rfl (Knil _)))]
   rw [b4 (a5 (hw0 5)) hi0 (e9 (g0 (g1 (hw0 3)) (i:=0) rfl) rfl)]
   all_goals rfl
 ·intro i0 s0 hi0
  refine D<|D<|F<|C rfl<|K rfl<|J rfl<|U rfl rfl<|V rfl rfl<|E (kt<|kt<|kt<|kt<|kn) fun _=>?_
  refine b7 rfl (b8 hi0)<|b3 (kt<|kt<|kn) ?_
  exact ⟨rfl,rfl⟩
 ·intro s0 hs
  replace h:=d3 h hs
  intro _
  refine D<|D<|F<|C rfl<|E (kt<|kt<|kt<|kn) fun _=>?_
  obtain ⟨o2,ho2,h⟩:=d2 h
  refine d6 ho2 (fun (i2:Int) (_:Unit)=>[(2,.tv (.pt (eTypes t).cells)),(3,.tv (.pt (eGraph g).cells)),(6,.tv (eI i2))]) (fun (_:Unit)=>[]) (fun zv ze=>resIs ([.tmp 4]) (.sh (eB zv)) ze) rfl ?_ ?_ ?_ ?_
  ·clear h ho2
   intro i2 s2 r2 hi2 h hw2
   refine D<|D<|F<|C rfl<|K rfl<|J rfl<|U rfl rfl<|V rfl rfl<|E (kt<|kt<|kt<|kt<|kn) fun _=>?_
   refine b5 rfl (b6 hi2)<|P (kt<|kt<|kt<|kn) fun _=>?_
   refine D<|b0<|D<|b9 rfl<|K rfl<|J rfl<|C rfl ?_
   obtain ⟨x41,hx41,h⟩:=I h
   refine W rfl rfl rfl hx41 rfl<|a6 rfl<|J rfl<|V rfl rfl<|C rfl ?_
   obtain ⟨x56,hx56,h⟩:=I h
   refine gX 11 [46,47,48,49,50,51,52,53,54,55] 56 x56 (decide (x41.Type'<0)) (fun hg56=>?_) (fun hg56=>?_) ?_
   ·replace h:=M hg56 hx56
    cases h
    refine H rfl hg56<|H rfl hg56<|H rfl hg56<|H rfl hg56<|H rfl hg56<|H rfl hg56<|H rfl hg56<|H rfl hg56<|H rfl hg56<|H rfl hg56<|Y rfl hg56 rfl ?_
    exact ⟨⟨_,_,_,_,_,_,_,_,_,_,rfl⟩⟩
   ·replace h:=O hg56 hx56
    refine G rfl hg56<|K rfl<|G rfl hg56<|J rfl<|G rfl hg56<|C rfl ?_
    obtain ⟨x49,hx49,h⟩:=I h
    refine G rfl hg56<|W rfl rfl rfl hx49 rfl<|G rfl hg56<|a6 rfl<|G rfl hg56<|J rfl<|G rfl hg56<|K rfl<|G rfl hg56<|J rfl<|G rfl hg56<|U rfl rfl<|G rfl hg56<|d5 rfl rfl ?_
    cases h
    refine Z rfl hg56 rfl ?_
    exact ⟨⟨_,_,_,_,_,_,_,_,_,_,rfl⟩⟩
   rintro _ ⟨_,_,_,_,_,_,_,_,_,_,rfl⟩
   refine E (kt<|kt<|kt<|kt<|kn) fun _=>?_
   refine S rfl (fun hc56=>?_) (fun hc56=>?_)
   ·replace h:=M hc56 h
    refine D<|F<|C rfl<|E (kt<|kn) fun _=>?_
    refine L ?_
    cases h
    exact ⟨_,rfl,rfl⟩
   ·replace h:=O hc56 h
    refine P (kt<|kt<|kt<|kn) fun _=>?_
    refine F<|C rfl<|a7 rfl rfl<|C rfl<|E (kt<|kt<|kt<|kn) ?_
    cases h
    refine ⟨_,rfl,?_⟩
    rw [Ktv rfl (Ktv rfl (Ktv rfl (Knil _)))]
    rw [b4 (a5 (hw2 6)) hi2 (e9 (g0 (g1 (hw2 3)) (i:=1) rfl) rfl)]
    all_goals rfl
  ·intro i2 s2 hi2
   refine D<|D<|F<|C rfl<|K rfl<|J rfl<|U rfl rfl<|V rfl rfl<|E (kt<|kt<|kt<|kt<|kn) fun _=>?_
   refine b7 rfl (b8 hi2)<|b3 (kn) ?_
   exact ⟨rfl,rfl⟩
  ·intro s2 hs
   replace h:=d3 h hs
   intro _
   refine D<|F<|C rfl<|E (kt<|kn) fun _=>?_
   exact L (by cases h;rfl)
  ·intro v2 ze hv hR
   replace h:=d4 h hv
   cases h
   exact hR
 ·intro v0 ze hv hR
  replace h:=d4 h hv
  cases h
  exact hR
theorem ck129:CK f129 (Rq [Af 4 0,Af 5 1,Dp 8 0 0 1,Ak 9] [2,3,4,5,8]<|Sq (Rq [Aa 12 2,Bq 13 12 0,Aa 14 13,Aw 15 2 14,Ar 16 5 0 14,Bi 17 16 0 14,Ao 18 17 14,Bc 19 18 14,Bp 20 15 19 14,As 21 14 20] [2,3,4,5,8,21]<|Co 21 (Rq [Eb 22 0 0 1,Aj 4 8 22,Ak 9] [8,9]<|.ret)<|Sk [2,3,4,5,8])<|Sq (Dr [10,11,23,24,25,26,27,28,29,30,31,32,33] [Ae 24 4 2,Ac 25 5 0,Ai 26 25 0,Ab 27 26,Aa 28 2,Ag 29 27 28 1,Ab 30 29,Al 31 117 24 30,Aa 23 31,Am 32 23 0,Am 33 23 1,Ay 10 32,Aa 11 33] [3,8,10,11])<|Sq (Rq [Aa 34 11,Av 35 34 0,Aa 36 35,Aw 37 3 36,Fe 38 37 0 36,As 39 36 38,Aa 40 39,Aw 41 3 40,Aw 42 10 40,Bc 43 42 40,Bp 44 41 43 40,As 45 40 44] [3,8,10,45]<|Co 45 (Rq [Eb 46 0 0 1,Aj 4 8 46,Ak 9] [8,9]<|.ret)<|Sk [3,8,10])<|Rq [Aa 47 10,Aa 48 3,Ag 49 47 48 4,Ae 50 49 4,Aj 4 8 50,Cg 9] [8,9]<|.ret) [.cell 8 (some 4),.tmp 9]:= by decide +kernel
theorem c129 (t:Types) (p:Pattern) (node:Int) (index:Int) (r:(Attr × Bool)) (h:ref21_attr t p node index=some r):Sound prog 129 [eTypes t,ePattern p,eI node,eI index] (.tp [eAttr r.1,eB r.2]):= by
 refine Fn ck129 fun hw=>?_
 unfold ref21_attr at h
 refine D<|F<|a4 rfl rfl<|a4 rfl rfl<|b1 rfl<|C rfl<|E (kt<|kt<|kt<|kt<|kb<|kn) fun _=>?_
 refine D<|D<|F<|C rfl<|V rfl rfl<|C rfl ?_
 refine gO 7 [15,16,17,18,19,20] 21 (decide (node<0)) (decide ((p.Graph.Nodes.length:Int)<=node)) (fun hg21=>?_) (fun hg21=>?_) ?_
 ·refine H rfl hg21<|H rfl hg21<|H rfl hg21<|H rfl hg21<|H rfl hg21<|H rfl hg21<|Y rfl hg21 rfl ?_
  exact ⟨⟨_,_,_,_,_,_,rfl⟩⟩
 ·refine G rfl hg21<|C rfl<|G rfl hg21<|K rfl<|G rfl hg21<|a6 rfl<|G rfl hg21<|J rfl<|G rfl hg21<|U rfl rfl<|G rfl hg21<|d5 rfl rfl<|Z rfl hg21 rfl ?_
  exact ⟨⟨_,_,_,_,_,_,rfl⟩⟩
 rintro _ ⟨_,_,_,_,_,_,rfl⟩
 refine E (kt<|kt<|kt<|kt<|kb<|kt<|kn) fun _=>?_
 refine S rfl (fun hc21=>?_) (fun hc21=>?_)
 ·replace h:=M hc21 h
  refine D<|F<|e8 rfl rfl (show _=eAttr (Attr.mk (⟨#[]⟩:ByteArray) 0 0 []) from rfl)<|a8 rfl rfl rfl rfl rfl<|C rfl<|E (kb<|kt<|kn) fun _=>?_
  refine L ?_
  cases h
  exact ⟨by decide,rfl⟩
 ·replace h:=O hc21 h
  refine P (kt<|kt<|kt<|kt<|kb<|kn) fun _=>?_
  refine D<|b9 rfl<|R rfl rfl (show _=eTypes t from rfl)<|K rfl<|a6 rfl<|J rfl<|C rfl ?_
  obtain ⟨x29,hx29,h⟩:=I h
  refine W rfl rfl rfl hx29 rfl<|J rfl ?_
  obtain ⟨x31,hx31,h⟩:=I h
  refine e5 rfl (c117 t x29 _ hx31)<|e6 rfl<|b2 rfl rfl<|b2 rfl rfl<|f1 rfl<|C rfl<|E (kt<|kb<|kt<|kt<|kn) fun _=>?_
  refine D<|D<|F<|C rfl<|a9 rfl rfl<|C rfl ?_
  refine gO 3 [37,38] 39 (!decide (x31.2=0)) (decide (index<0)) (fun hg39=>?_) (fun hg39=>?_) ?_
  ·refine H rfl hg39<|H rfl hg39<|Y rfl hg39 rfl ?_
   exact ⟨⟨_,_,rfl⟩⟩
  ·refine G rfl hg39<|C rfl<|G rfl hg39<|V rfl rfl<|Z rfl hg39 rfl ?_
   exact ⟨⟨_,_,rfl⟩⟩
  rintro _ ⟨_,_,rfl⟩
  refine C rfl ?_
  refine gO 5 [41,42,43,44] 45 ((!decide (x31.2=0))||(decide (index<0))) (decide ((x31.1.length:Int)<=index)) (fun hg45=>?_) (fun hg45=>?_) ?_
  ·refine H rfl hg45<|H rfl hg45<|H rfl hg45<|H rfl hg45<|Y rfl hg45 rfl ?_
   exact ⟨⟨_,_,_,_,rfl⟩⟩
  ·refine G rfl hg45<|C rfl<|G rfl hg45<|C rfl<|G rfl hg45<|U rfl rfl<|G rfl hg45<|d5 rfl rfl<|Z rfl hg45 rfl ?_
   exact ⟨⟨_,_,_,_,rfl⟩⟩
  rintro _ ⟨_,_,_,_,rfl⟩
  refine E (kt<|kb<|kt<|kt<|kn) fun _=>?_
  refine S rfl (fun hc45=>?_) (fun hc45=>?_)
  ·replace h:=M hc45 h
   refine D<|F<|e8 rfl rfl (show _=eAttr (Attr.mk (⟨#[]⟩:ByteArray) 0 0 []) from rfl)<|a8 rfl rfl rfl rfl rfl<|C rfl<|E (kb<|kt<|kn) fun _=>?_
   refine L ?_
   cases h
   exact ⟨by decide,rfl⟩
  ·replace h:=O hc45 h
   refine P (kt<|kb<|kt<|kn) fun _=>?_
   refine D<|F<|C rfl<|C rfl ?_
   obtain ⟨x49,hx49,h⟩:=I h
   refine W rfl rfl rfl hx49 rfl<|R rfl rfl (show _=eAttr x49 from rfl)<|a8 rfl rfl rfl rfl rfl<|C rfl<|E (kb<|kt<|kn) fun _=>?_
   refine L ?_
   cases h
   exact ⟨by decide,rfl⟩
theorem ck130:CK f130 (Rq [Ak 2] [0]<|Rq [Aa 3 0,⟨some 4,.bin (.i) .geq (.s 3) (.c (.int .i64 (-1000000))),none⟩,Aa 5 4,Aq 6 0 5,Ci 7 6 1000000 5,At 8 5 7,Aa 2 8] [2]<|.ret) [.tmp 2]:= by decide +kernel
theorem c130 (n:Int) (r:Bool) (h:ref21_bounded n=some r):Sound prog 130 [eI n] (.sh (eB r)):= by
 refine Fn ck130 fun hw=>?_
 unfold ref21_bounded at h
 refine D<|F<|C rfl<|E (kt<|kn) fun _=>?_
 refine D<|F<|C rfl<|d5 rfl rfl<|C rfl ?_
 refine gA 3 [6,7] 8 (decide ((-1000000)<=n)) (decide (n<=1000000)) (fun hg8=>?_) (fun hg8=>?_) ?_
 ·refine G rfl hg8<|C rfl<|G rfl hg8<|f4 rfl rfl<|Y rfl hg8 rfl ?_
  exact ⟨⟨_,_,rfl⟩⟩
 ·refine H rfl hg8<|H rfl hg8<|Z rfl hg8 rfl ?_
  exact ⟨⟨_,_,rfl⟩⟩
 rintro _ ⟨_,_,rfl⟩
 refine C rfl<|E (kt<|kn) fun _=>?_
 exact L (by cases h;rfl)
theorem ck219:CK f219 (Rq [Af 3 1,Ad 4 0] [0,3]<|Sq (Rq [Ac 5 3 0,Ab 6 5,⟨some 7,.bin (.i) .lss (.s 6) (.c (.int .i64 (-1))),none⟩,Aa 8 7,Ar 9 3 0 8,Ao 10 9 8,Aw 11 0 8,Bp 12 10 11 8,As 13 8 12,Aa 14 13,Ar 15 3 1 14,Ao 16 15 14,Dg 17 16 (-1000000) 14,As 18 14 17,Aa 19 18,Ar 20 3 1 19,Ao 21 20 19,Bs 22 21 1000000 19,As 23 19 22] [23]<|Co 23 (Rq [Ad 4 6] [4]<|.ret)<|Sk [])<|Rq [Ad 4 0] [4]<|.ret) [.tmp 4]:= by decide +kernel
theorem c219 (n:Int) (t:Term) (r:Int) (h:ref03_within n t=some r):Sound prog 219 [eI n,eTerm t] (.sh (eI r)):= by
 refine Fn ck219 fun hw=>?_
 unfold ref03_within at h
 refine D<|F<|a4 rfl rfl<|C rfl<|E (kt<|kt<|kn) fun _=>?_
 refine D<|D<|F<|K rfl<|J rfl<|V rfl rfl<|C rfl ?_
 refine gO 5 [9,10,11,12] 13 (decide (t.Var<(-1))) (decide (n<=t.Var)) (fun hg13=>?_) (fun hg13=>?_) ?_
 ·refine H rfl hg13<|H rfl hg13<|H rfl hg13<|H rfl hg13<|Y rfl hg13 rfl ?_
  exact ⟨⟨_,_,_,_,rfl⟩⟩
 ·refine G rfl hg13<|K rfl<|G rfl hg13<|J rfl<|G rfl hg13<|C rfl<|G rfl hg13<|d5 rfl rfl<|Z rfl hg13 rfl ?_
  exact ⟨⟨_,_,_,_,rfl⟩⟩
 rintro _ ⟨_,_,_,_,rfl⟩
 refine C rfl ?_
 refine gO 4 [15,16,17] 18 ((decide (t.Var<(-1)))||(decide (n<=t.Var))) (decide (t.Add<(-1000000))) (fun hg18=>?_) (fun hg18=>?_) ?_
 ·refine H rfl hg18<|H rfl hg18<|H rfl hg18<|Y rfl hg18 rfl ?_
  exact ⟨⟨_,_,_,rfl⟩⟩
 ·refine G rfl hg18<|K rfl<|G rfl hg18<|J rfl<|G rfl hg18<|V rfl rfl<|Z rfl hg18 rfl ?_
  exact ⟨⟨_,_,_,rfl⟩⟩
 rintro _ ⟨_,_,_,rfl⟩
 refine C rfl ?_
 refine gO 4 [20,21,22] 23 (((decide (t.Var<(-1)))||(decide (n<=t.Var)))||(decide (t.Add<(-1000000)))) (decide (1000000<t.Add)) (fun hg23=>?_) (fun hg23=>?_) ?_
 ·refine H rfl hg23<|H rfl hg23<|H rfl hg23<|Y rfl hg23 rfl ?_
  exact ⟨⟨_,_,_,rfl⟩⟩
 ·refine G rfl hg23<|K rfl<|G rfl hg23<|J rfl<|G rfl hg23<|e4 rfl rfl<|Z rfl hg23 rfl ?_
  exact ⟨⟨_,_,_,rfl⟩⟩
 rintro _ ⟨_,_,_,rfl⟩
 refine E (kt<|kn) fun _=>?_
 refine S rfl (fun hc23=>?_) (fun hc23=>?_)
 ·replace h:=M hc23 h
  refine D<|F<|C rfl<|E (kt<|kn) fun _=>?_
  exact L (by cases h;rfl)
 ·replace h:=O hc23 h
  refine P (kn) fun _=>?_
  refine D<|F<|C rfl<|E (kt<|kn) fun _=>?_
  exact L (by cases h;rfl)
theorem ck177:CK f177 (Rq [Af 3 1,Ad 4 0] [0,3]<|Sq (Rq [Ac 6 3 0,Ab 7 6,Av 8 7 1,Aa 9 8,Ba 10 3 0 9,Ax 11 10 9,Fc 12 11 2 9,At 13 9 12] [0,3,13]<|Co 13 (Rq [Ad 4 1] [4]<|.ret)<|Sk [0,3])<|Sq (Rq [Aa 14 0,Ac 15 3 1,Ae 16 15 2,Al 17 219 14 16,Aa 5 17] [0,3,5]<|Rq [Aa 18 5,Av 19 18 0] [0,3,5,19]<|Co 19 (Rq [Aa 20 5,Aa 4 20] [4]<|.ret)<|Sk [0,3])<|Rq [Aa 21 0,Ac 22 3 3,Ae 23 22 2,Al 24 219 21 23,Aa 4 24] [4]<|.ret) [.tmp 4]:= by decide +kernel
theorem c177 (n:Int) (x_1:Test) (r:Int) (h:ref03_One n x_1=some r):Sound prog 177 [eI n,eTest x_1] (.sh (eI r)):= by
 refine Fn ck177 fun hw=>?_
 unfold ref03_One at h
 refine D<|F<|a4 rfl rfl<|C rfl<|E (kt<|kt<|kn) fun _=>?_
 refine D<|D<|F<|K rfl<|J rfl<|a9 rfl rfl<|C rfl ?_
 refine gA 4 [10,11,12] 13 (!decide (x_1.Kind=1)) (!decide (x_1.Kind=2)) (fun hg13=>?_) (fun hg13=>?_) ?_
 ·refine G rfl hg13<|K rfl<|G rfl hg13<|J rfl<|G rfl hg13<|a9 rfl rfl<|Y rfl hg13 rfl ?_
  exact ⟨⟨_,_,_,rfl⟩⟩
 ·refine H rfl hg13<|H rfl hg13<|H rfl hg13<|Z rfl hg13 rfl ?_
  exact ⟨⟨_,_,_,rfl⟩⟩
 rintro _ ⟨_,_,_,rfl⟩
 refine E (kt<|kt<|kt<|kn) fun _=>?_
 refine S rfl (fun hc13=>?_) (fun hc13=>?_)
 ·replace h:=M hc13 h
  refine D<|F<|C rfl<|E (kt<|kn) fun _=>?_
  exact L (by cases h;rfl)
 ·replace h:=O hc13 h
  refine P (kt<|kt<|kn) fun _=>?_
  refine D<|D<|F<|C rfl<|K rfl<|R rfl rfl (show _=eTerm x_1.Left from rfl) ?_
  obtain ⟨x17,hx17,h⟩:=I h
  refine T rfl (c219 n x_1.Left _ hx17)<|C rfl<|E (kt<|kt<|kt<|kn) fun _=>?_
  refine D<|F<|C rfl<|a9 rfl rfl<|E (kt<|kt<|kt<|kt<|kn) fun _=>?_
  refine S rfl (fun hc19=>?_) (fun hc19=>?_)
  ·replace h:=M hc19 h
   refine D<|F<|C rfl<|C rfl<|E (kt<|kn) fun _=>?_
   exact L (by cases h;rfl)
  ·replace h:=O hc19 h
   refine P (kt<|kt<|kn) fun _=>?_
   refine D<|F<|C rfl<|K rfl<|R rfl rfl (show _=eTerm x_1.Right from rfl) ?_
   obtain ⟨x24,hx24,h⟩:=I h
   refine T rfl (c219 n x_1.Right _ hx24)<|C rfl<|E (kt<|kn) fun _=>?_
   exact L (by cases h;rfl)
theorem ck131:CK f131 (Rq [Ad 4 0] [0,1]<|Sq (Rq [Aa 7 0,Bq 8 7 0,Aa 9 8,Aw 10 0 9,Bs 11 10 12 9,As 12 9 11] [0,1,12]<|Co 12 (Rq [Ad 4 6] [4]<|.ret)<|Sk [0,1])<|Sq (Rq [Aa 13 1,Ah 14 13,Bk 15 14 40] [0,1,15]<|Co 15 (Rq [Ad 4 3] [4]<|.ret)<|Sk [0,1])<|Sq (Rq [Ad 5 0] [0,1,5]<|Bl 0<|Lo [0,1,5]<|Sq (Rq [Aa 16 5,Aa 17 1,Ah 18 17,Ap 19 16 18] [0,1,5,19]<|Co 19 (Sk [0,1,5])<|Ex 0 [])<|Sq (Bl 1<|Rq [Aa 22 0,Aa 23 1,Aa 24 5,Ag 25 23 24 5,Ae 26 25 5,Al 27 177 22 26,Aa 6 27] [0,1,5,6]<|Rq [Aa 28 6,Av 29 28 0] [0,1,5,6,29]<|Co 29 (Rq [Aa 30 6,Aa 4 30] [4]<|.ret)<|Sk [0,1,5])<|Re [Aa 20 5,An 21 20 1,Aa 5 21] [0,1,5])<|Rq [Ad 4 0] [4]<|.ret) [.tmp 4]:= by decide +kernel
theorem c131 (n:Int) (l:List Test) (r:Int) (h:ref03_Valid n l=some r):Sound prog 131 [eI n,lT l] (.sh (eI r)):= by
 refine Fn ck131 fun hw=>?_
 unfold ref03_Valid at h
 refine D<|F<|C rfl<|E (kt<|kt<|kn) fun _=>?_
 refine D<|D<|F<|C rfl<|V rfl rfl<|C rfl ?_
 refine gO 3 [10,11] 12 (decide (n<0)) (decide (12<n)) (fun hg12=>?_) (fun hg12=>?_) ?_
 ·refine H rfl hg12<|H rfl hg12<|Y rfl hg12 rfl ?_
  exact ⟨⟨_,_,rfl⟩⟩
 ·refine G rfl hg12<|C rfl<|G rfl hg12<|e4 rfl rfl<|Z rfl hg12 rfl ?_
  exact ⟨⟨_,_,rfl⟩⟩
 rintro _ ⟨_,_,rfl⟩
 refine E (kt<|kt<|kt<|kn) fun _=>?_
 refine S rfl (fun hc12=>?_) (fun hc12=>?_)
 ·replace h:=M hc12 h
  refine D<|F<|C rfl<|E (kt<|kn) fun _=>?_
  exact L (by cases h;rfl)
 ·replace h:=O hc12 h
  refine P (kt<|kt<|kn) fun _=>?_
  refine D<|D<|F<|C rfl<|U rfl rfl<|e4 rfl rfl<|E (kt<|kt<|kt<|kn) fun _=>?_
  refine S rfl (fun hc15=>?_) (fun hc15=>?_)
  ·replace h:=M hc15 h
   refine D<|F<|C rfl<|E (kt<|kn) fun _=>?_
   exact L (by cases h;rfl)
  ·replace h:=O hc15 h
   refine P (kt<|kt<|kn) fun _=>?_
   refine D<|D<|F<|C rfl<|E (kt<|kt<|kt<|kn) fun _=>?_
   obtain ⟨o0,ho0,h⟩:=d2 h
   refine d6 ho0 (fun (i0:Int) (_:Unit)=>[(0,.tv (eI n)),(1,.tv (lT l)),(5,.tv (eI i0))]) (fun (_:Unit)=>[]) (fun zv ze=>resIs ([.tmp 4]) (.sh (eI zv)) ze) rfl ?_ ?_ ?_ ?_
   ·clear h ho0
    intro i0 s0 r0 hi0 h hw0
    refine D<|D<|F<|C rfl<|C rfl<|U rfl rfl<|V rfl rfl<|E (kt<|kt<|kt<|kt<|kn) fun _=>?_
    refine b5 rfl (b6 hi0)<|P (kt<|kt<|kt<|kn) fun _=>?_
    refine D<|b0<|D<|F<|C rfl<|C rfl<|C rfl ?_
    obtain ⟨x25,hx25,h⟩:=I h
    refine W rfl rfl rfl hx25 rfl<|R rfl rfl (show _=eTest x25 from rfl) ?_
    obtain ⟨x27,hx27,h⟩:=I h
    refine T rfl (c177 n x25 _ hx27)<|C rfl<|E (kt<|kt<|kt<|kt<|kn) fun _=>?_
    refine D<|F<|C rfl<|a9 rfl rfl<|E (kt<|kt<|kt<|kt<|kt<|kn) fun _=>?_
    refine S rfl (fun hc29=>?_) (fun hc29=>?_)
    ·replace h:=M hc29 h
     refine D<|F<|C rfl<|C rfl<|E (kt<|kn) fun _=>?_
     refine L ?_
     cases h
     exact ⟨_,rfl,rfl⟩
    ·replace h:=O hc29 h
     refine P (kt<|kt<|kt<|kn) fun _=>?_
     refine F<|C rfl<|a7 rfl rfl<|C rfl<|E (kt<|kt<|kt<|kn) ?_
     cases h
     refine ⟨_,rfl,?_⟩
     rw [Ktv rfl (Ktv rfl (Ktv rfl (Knil _)))]
     rw [b4 (a5 (hw0 5)) hi0 (e9 (a5 (hw0 1)) rfl)]
     all_goals rfl
   ·intro i0 s0 hi0
    refine D<|D<|F<|C rfl<|C rfl<|U rfl rfl<|V rfl rfl<|E (kt<|kt<|kt<|kt<|kn) fun _=>?_
    refine b7 rfl (b8 hi0)<|b3 (kn) ?_
    exact ⟨rfl,rfl⟩
   ·intro s0 hs
    replace h:=d3 h hs
    intro _
    refine D<|F<|C rfl<|E (kt<|kn) fun _=>?_
    exact L (by cases h;rfl)
   ·intro v0 ze hv hR
    replace h:=d4 h hv
    cases h
    exact hR
theorem ck132:CK f132 (Rq [Af 2 0,Ak 4] [1,2]<|Sq (Rq [Ad 5 0] [1,2,5]<|Bl 0<|Lo [1,2,5]<|Sq (Rq [Aa 6 5,Ac 7 2 2,Ab 8 7,Ah 9 8,Ap 10 6 9] [1,2,5,10]<|Co 10 (Sk [1,2,5])<|Ex 0 [])<|Sq (Bl 1<|Rq [Ac 13 2 2,Ab 14 13,Aa 15 5,Ag 16 14 15 4,Ai 17 16 2,Ai 18 17 0,Ab 19 18,Aa 20 1,Bt 21 19 20] [1,2,5,21]<|Co 21 (Rq [Cg 4] [4]<|.ret)<|Sk [1,2,5])<|Re [Aa 11 5,An 12 11 1,Aa 5 12] [1,2,5])<|Rq [Ak 4] [4]<|.ret) [.tmp 4]:= by decide +kernel
theorem c132 (p:Pattern) (v_1:Int) (r:Bool) (h:ref21_occurs p v_1=some r):Sound prog 132 [ePattern p,eI v_1] (.sh (eB r)):= by
 refine Fn ck132 fun hw=>?_
 unfold ref21_occurs at h
 refine D<|F<|a4 rfl rfl<|C rfl<|E (kt<|kt<|kn) fun _=>?_
 refine D<|D<|F<|C rfl<|E (kt<|kt<|kt<|kn) fun _=>?_
 obtain ⟨o0,ho0,h⟩:=d2 h
 refine d6 ho0 (fun (i0:Int) (_:Unit)=>[(1,.tv (eI v_1)),(2,.tv (.pt (ePattern p).cells)),(5,.tv (eI i0))]) (fun (_:Unit)=>[]) (fun zv ze=>resIs ([.tmp 4]) (.sh (eB zv)) ze) rfl ?_ ?_ ?_ ?_
 ·clear h ho0
  intro i0 s0 r0 hi0 h hw0
  refine D<|D<|F<|C rfl<|K rfl<|J rfl<|U rfl rfl<|V rfl rfl<|E (kt<|kt<|kt<|kt<|kn) fun _=>?_
  refine b5 rfl (b6 hi0)<|P (kt<|kt<|kt<|kn) fun _=>?_
  refine D<|b0<|D<|F<|K rfl<|J rfl<|C rfl ?_
  obtain ⟨x16,hx16,h⟩:=I h
  refine W rfl rfl rfl hx16 rfl<|a6 rfl<|a6 rfl<|J rfl<|C rfl<|d1 rfl rfl<|E (kt<|kt<|kt<|kt<|kn) fun _=>?_
  refine S rfl (fun hc21=>?_) (fun hc21=>?_)
  ·replace h:=M hc21 h
   refine D<|F<|C rfl<|E (kt<|kn) fun _=>?_
   refine L ?_
   cases h
   exact ⟨_,rfl,rfl⟩
  ·replace h:=O hc21 h
   refine P (kt<|kt<|kt<|kn) fun _=>?_
   refine F<|C rfl<|a7 rfl rfl<|C rfl<|E (kt<|kt<|kt<|kn) ?_
   cases h
   refine ⟨_,rfl,?_⟩
   rw [Ktv rfl (Ktv rfl (Ktv rfl (Knil _)))]
   rw [b4 (a5 (hw0 5)) hi0 (e9 (g0 (g1 (hw0 2)) (i:=2) rfl) rfl)]
   all_goals rfl
 ·intro i0 s0 hi0
  refine D<|D<|F<|C rfl<|K rfl<|J rfl<|U rfl rfl<|V rfl rfl<|E (kt<|kt<|kt<|kt<|kn) fun _=>?_
  refine b7 rfl (b8 hi0)<|b3 (kn) ?_
  exact ⟨rfl,rfl⟩
 ·intro s0 hs
  replace h:=d3 h hs
  intro _
  refine D<|F<|C rfl<|E (kt<|kn) fun _=>?_
  exact L (by cases h;rfl)
 ·intro v0 ze hv hR
  replace h:=d4 h hv
  cases h
  exact hR
theorem ck76:CK f76 (Rq [Af 2 0,Af 3 1,Ad 4 0] [2,3]<|Sq (Rq [Ae 15 2 2,Au 16 74 15,Aa 14 16,Am 17 14 0,Am 18 14 1,Aa 5 17,Aa 6 18] [2,3,6]<|Rq [Aa 19 6,Av 20 19 0] [2,3,6,20]<|Co 20 (Rq [Aa 21 6,Aa 4 21] [4]<|.ret)<|Sk [2,3])<|Sq (Rq [Ac 22 3 0,Ae 23 22 2,Au 24 127 23,Aa 7 24] [2,3,7]<|Rq [Aa 25 7,Av 26 25 0] [2,3,7,26]<|Co 26 (Rq [Aa 27 7,Aa 4 27] [4]<|.ret)<|Sk [2,3])<|Sq (Rq [Ae 28 2 2,Ac 29 3 0,Ae 30 29 2,Al 31 128 28 30,Az 32 31] [2,3,32]<|Co 32 (Rq [Ad 4 13] [4]<|.ret)<|Sk [2,3])<|Sq (Rq [Ac 33 3 3,Ab 34 33,Bq 35 34 0,Aa 36 35,Ar 37 3 3 36,Ao 38 37 36,Bs 39 38 12 36,As 40 36 39] [2,3,40]<|Co 40 (Rq [Ad 4 6] [4]<|.ret)<|Sk [2,3])<|Sq (Rq [Ac 41 3 2,Ab 42 41,Ah 43 42,Bk 44 43 10,Aa 45 44,Ar 46 3 4 45,Ao 47 46 45,Bc 48 47 45,Bs 49 48 10 45,As 50 45 49] [2,3,50]<|Co 50 (Rq [Ad 4 3] [4]<|.ret)<|Sk [2,3])<|Sq (Rq [Ad 8 0] [2,3,8]<|Bl 0<|Lo [2,3,8]<|Sq (Rq [Aa 51 8,Ac 52 3 2,Ab 53 52,Ah 54 53,Ap 55 51 54] [2,3,8,55]<|Co 55 (Sk [2,3,8])<|Ex 0 [3])<|Sq (Bl 1<|Rq [Ac 58 3 2,Ab 59 58,Aa 60 8,Ag 61 59 60 4,Ae 62 61 4,Ec 9 0 0 0 0,Aj 4 9 62] [2,3,8,9]<|Rq [Ae 64 2 2,Ae 65 3 5,Ac 66 9 0,Ab 67 66,Ac 68 9 1,Ab 69 68,Bz 70 129 64 65 67 69,Aa 63 70,Am 71 63 0,Am 72 63 1,Dp 10 0 0 1,Aj 4 10 71,Aa 11 72] [2,3,8,9,11]<|Rq [Aa 73 11,Az 74 73,Aa 75 74,Ar 76 9 2 75,Bi 77 76 0 75,Ao 78 77 75,Dg 79 78 (-1) 75,As 80 75 79,Aa 81 80,Ar 82 9 2 81,Bi 83 82 0 81,Ao 84 83 81,Ar 85 3 3 81,Ao 86 85 81,Bp 87 84 86 81,As 88 81 87,Aa 89 88,Ar 90 9 2 89,Bi 91 90 1 89,Ao 92 91 89,Dm 93 130 92 89,Br 94 93 89,As 95 89 94] [2,3,8,95]<|Co 95 (Rq [Ad 4 6] [4]<|.ret)<|Sk [2,3,8])<|Re [Aa 56 8,An 57 56 1,Aa 8 57] [2,3,8])<|Sq (Rq [Ac 96 3 3,Ab 97 96,Ac 98 3 4,Ab 99 98,Al 100 131 97 99,Aa 12 100] [3,12]<|Rq [Aa 101 12,Av 102 101 0] [3,12,102]<|Co 102 (Rq [Aa 103 12,Aa 4 103] [4]<|.ret)<|Sk [3])<|Sq (Rq [Ad 13 0] [3,13]<|Bl 2<|Lo [3,13]<|Sq (Rq [Aa 104 13,Ac 105 3 3,Ab 106 105,Ap 107 104 106] [3,13,107]<|Co 107 (Sk [3,13])<|Ex 2 [])<|Sq (Bl 3<|Rq [Ae 110 3 5,Aa 111 13,Al 112 132 110 111,Az 113 112] [3,13,113]<|Co 113 (Rq [Ad 4 9] [4]<|.ret)<|Sk [3,13])<|Re [Aa 108 13,An 109 108 1,Aa 13 109] [3,13])<|Rq [Ad 4 0] [4]<|.ret) [.tmp 4]:= by decide +kernel
theorem c76 (t:Types) (p:Pattern) (r:Int) (h:ref21_Valid t p=some r):Sound prog 76 [eTypes t,ePattern p] (.sh (eI r)):= by
 refine Fn ck76 fun hw=>?_
 unfold ref21_Valid at h
 refine D<|F<|a4 rfl rfl<|a4 rfl rfl<|C rfl<|E (kt<|kt<|kn) fun _=>?_
 refine D<|D<|F<|R rfl rfl (show _=eTypes t from rfl) ?_
 obtain ⟨x16,hx16,h⟩:=I h
 refine e5 rfl (c74 t _ hx16)<|e6 rfl<|b2 rfl rfl<|b2 rfl rfl<|C rfl<|C rfl<|E (kt<|kt<|kt<|kn) fun _=>?_
 refine D<|F<|C rfl<|a9 rfl rfl<|E (kt<|kt<|kt<|kt<|kn) fun _=>?_
 refine S rfl (fun hc20=>?_) (fun hc20=>?_)
 ·replace h:=M hc20 h
  refine D<|F<|C rfl<|C rfl<|E (kt<|kn) fun _=>?_
  exact L (by cases h;rfl)
 ·replace h:=O hc20 h
  refine P (kt<|kt<|kn) fun _=>?_
  refine D<|D<|F<|K rfl<|R rfl rfl (show _=eGraph p.Graph from rfl) ?_
  obtain ⟨x24,hx24,h⟩:=I h
  refine T rfl (c127 p.Graph _ hx24)<|C rfl<|E (kt<|kt<|kt<|kn) fun _=>?_
  refine D<|F<|C rfl<|a9 rfl rfl<|E (kt<|kt<|kt<|kt<|kn) fun _=>?_
  refine S rfl (fun hc26=>?_) (fun hc26=>?_)
  ·replace h:=M hc26 h
   refine D<|F<|C rfl<|C rfl<|E (kt<|kn) fun _=>?_
   exact L (by cases h;rfl)
  ·replace h:=O hc26 h
   refine P (kt<|kt<|kn) fun _=>?_
   refine D<|D<|F<|R rfl rfl (show _=eTypes t from rfl)<|K rfl<|R rfl rfl (show _=eGraph p.Graph from rfl) ?_
   obtain ⟨x31,hx31,h⟩:=I h
   refine T rfl (c128 t p.Graph _ hx31)<|d0 rfl<|E (kt<|kt<|kt<|kn) fun _=>?_
   refine S rfl (fun hc32=>?_) (fun hc32=>?_)
   ·replace h:=M hc32 h
    refine D<|F<|C rfl<|E (kt<|kn) fun _=>?_
    exact L (by cases h;rfl)
   ·replace h:=O hc32 h
    refine P (kt<|kt<|kn) fun _=>?_
    refine D<|D<|F<|K rfl<|J rfl<|V rfl rfl<|C rfl ?_
    refine gO 4 [37,38,39] 40 (decide (p.Vars<0)) (decide (12<p.Vars)) (fun hg40=>?_) (fun hg40=>?_) ?_
    ·refine H rfl hg40<|H rfl hg40<|H rfl hg40<|Y rfl hg40 rfl ?_
     exact ⟨⟨_,_,_,rfl⟩⟩
    ·refine G rfl hg40<|K rfl<|G rfl hg40<|J rfl<|G rfl hg40<|e4 rfl rfl<|Z rfl hg40 rfl ?_
     exact ⟨⟨_,_,_,rfl⟩⟩
    rintro _ ⟨_,_,_,rfl⟩
    refine E (kt<|kt<|kt<|kn) fun _=>?_
    refine S rfl (fun hc40=>?_) (fun hc40=>?_)
    ·replace h:=M hc40 h
     refine D<|F<|C rfl<|E (kt<|kn) fun _=>?_
     exact L (by cases h;rfl)
    ·replace h:=O hc40 h
     refine P (kt<|kt<|kn) fun _=>?_
     refine D<|D<|F<|K rfl<|J rfl<|U rfl rfl<|e4 rfl rfl<|C rfl ?_
     refine gO 5 [46,47,48,49] 50 (decide (10<(p.Slots.length:Int))) (decide (10<(p.Tests.length:Int))) (fun hg50=>?_) (fun hg50=>?_) ?_
     ·refine H rfl hg50<|H rfl hg50<|H rfl hg50<|H rfl hg50<|Y rfl hg50 rfl ?_
      exact ⟨⟨_,_,_,_,rfl⟩⟩
     ·refine G rfl hg50<|K rfl<|G rfl hg50<|J rfl<|G rfl hg50<|U rfl rfl<|G rfl hg50<|e4 rfl rfl<|Z rfl hg50 rfl ?_
      exact ⟨⟨_,_,_,_,rfl⟩⟩
     rintro _ ⟨_,_,_,_,rfl⟩
     refine E (kt<|kt<|kt<|kn) fun _=>?_
     refine S rfl (fun hc50=>?_) (fun hc50=>?_)
     ·replace h:=M hc50 h
      refine D<|F<|C rfl<|E (kt<|kn) fun _=>?_
      exact L (by cases h;rfl)
     ·replace h:=O hc50 h
      refine P (kt<|kt<|kn) fun _=>?_
      refine D<|D<|F<|C rfl<|E (kt<|kt<|kt<|kn) fun _=>?_
      obtain ⟨o0,ho0,h⟩:=d2 h
      refine d6 ho0 (fun (i0:Int) (_:Unit)=>[(2,.tv (.pt (eTypes t).cells)),(3,.tv (.pt (ePattern p).cells)),(8,.tv (eI i0))]) (fun (_:Unit)=>[(3,.tv (.pt (ePattern p).cells))]) (fun zv ze=>resIs ([.tmp 4]) (.sh (eI zv)) ze) rfl ?_ ?_ ?_ ?_
      ·clear h ho0
       intro i0 s0 r0 hi0 h hw0
       refine D<|D<|F<|C rfl<|K rfl<|J rfl<|U rfl rfl<|V rfl rfl<|E (kt<|kt<|kt<|kt<|kn) fun _=>?_
       refine b5 rfl (b6 hi0)<|P (kt<|kt<|kt<|kn) fun _=>?_
       refine D<|b0<|D<|F<|K rfl<|J rfl<|C rfl ?_
       obtain ⟨x61,hx61,h⟩:=I h
       refine W rfl rfl rfl hx61 rfl<|R rfl rfl (show _=eSlot x61 from rfl)<|b1 rfl<|a8 rfl rfl rfl rfl rfl<|E (kt<|kt<|kt<|kb<|kn) fun _=>?_
       refine D<|F<|R rfl rfl (show _=eTypes t from rfl)<|R rfl rfl (show _=ePattern p from rfl)<|a3 rfl<|J rfl<|a3 rfl<|J rfl ?_
       obtain ⟨x70,hx70,h⟩:=I h
       refine e5 rfl (c129 t p x61.Node x61.Attr _ hx70)<|e6 rfl<|b2 rfl rfl<|b2 rfl rfl<|b1 rfl<|a8 rfl rfl rfl rfl rfl<|C rfl<|E (kt<|kt<|kt<|kb<|kt<|kn) fun _=>?_
       refine D<|F<|C rfl<|d0 rfl<|C rfl ?_
       refine gO 5 [76,77,78,79] 80 (!x70.2) (decide (x61.Term.Var<(-1))) (fun hg80=>?_) (fun hg80=>?_) ?_
       ·refine H rfl hg80<|H rfl hg80<|H rfl hg80<|H rfl hg80<|Y rfl hg80 rfl ?_
        exact ⟨⟨_,_,_,_,rfl⟩⟩
       ·refine G rfl hg80<|a3 rfl<|G rfl hg80<|f3 rfl rfl<|G rfl hg80<|J rfl<|G rfl hg80<|V rfl rfl<|Z rfl hg80 rfl ?_
        exact ⟨⟨_,_,_,_,rfl⟩⟩
       rintro _ ⟨_,_,_,_,rfl⟩
       refine C rfl ?_
       refine gO 7 [82,83,84,85,86,87] 88 ((!x70.2)||(decide (x61.Term.Var<(-1)))) (decide (p.Vars<=x61.Term.Var)) (fun hg88=>?_) (fun hg88=>?_) ?_
       ·refine H rfl hg88<|H rfl hg88<|H rfl hg88<|H rfl hg88<|H rfl hg88<|H rfl hg88<|Y rfl hg88 rfl ?_
        exact ⟨⟨_,_,_,_,_,_,rfl⟩⟩
       ·refine G rfl hg88<|a3 rfl<|G rfl hg88<|f3 rfl rfl<|G rfl hg88<|J rfl<|G rfl hg88<|K rfl<|G rfl hg88<|J rfl<|G rfl hg88<|d5 rfl rfl<|Z rfl hg88 rfl ?_
        exact ⟨⟨_,_,_,_,_,_,rfl⟩⟩
       rintro _ ⟨_,_,_,_,_,_,rfl⟩
       refine C rfl ?_
       obtain ⟨x95,hx95,h⟩:=I h
       refine gX 6 [90,91,92,93,94] 95 x95 (((!x70.2)||(decide (x61.Term.Var<(-1))))||(decide (p.Vars<=x61.Term.Var))) (fun hg95=>?_) (fun hg95=>?_) ?_
       ·replace h:=M hg95 hx95
        cases h
        refine H rfl hg95<|H rfl hg95<|H rfl hg95<|H rfl hg95<|H rfl hg95<|Y rfl hg95 rfl ?_
        exact ⟨⟨_,_,_,_,_,rfl⟩⟩
       ·replace h:=O hg95 hx95
        refine G rfl hg95<|a3 rfl<|G rfl hg95<|f3 rfl rfl<|G rfl hg95<|J rfl ?_
        obtain ⟨x93,hx93,h⟩:=I h
        refine G rfl hg95<|T rfl (c130 x61.Term.Add _ hx93)<|G rfl hg95<|d0 rfl ?_
        cases h
        refine Z rfl hg95 rfl ?_
        exact ⟨⟨_,_,_,_,_,rfl⟩⟩
       rintro _ ⟨_,_,_,_,_,rfl⟩
       refine E (kt<|kt<|kt<|kt<|kn) fun _=>?_
       refine S rfl (fun hc95=>?_) (fun hc95=>?_)
       ·replace h:=M hc95 h
        refine D<|F<|C rfl<|E (kt<|kn) fun _=>?_
        refine L ?_
        cases h
        exact ⟨_,rfl,rfl⟩
       ·replace h:=O hc95 h
        refine P (kt<|kt<|kt<|kn) fun _=>?_
        refine F<|C rfl<|a7 rfl rfl<|C rfl<|E (kt<|kt<|kt<|kn) ?_
        cases h
        refine ⟨_,rfl,?_⟩
        rw [Ktv rfl (Ktv rfl (Ktv rfl (Knil _)))]
        rw [b4 (a5 (hw0 8)) hi0 (e9 (g0 (g1 (hw0 3)) (i:=2) rfl) rfl)]
        all_goals rfl
      ·intro i0 s0 hi0
       refine D<|D<|F<|C rfl<|K rfl<|J rfl<|U rfl rfl<|V rfl rfl<|E (kt<|kt<|kt<|kt<|kn) fun _=>?_
       refine b7 rfl (b8 hi0)<|b3 (kt<|kn) ?_
       exact ⟨rfl,rfl⟩
      ·intro s0 hs
       replace h:=d3 h hs
       intro _
       refine D<|D<|F<|K rfl<|J rfl<|K rfl<|J rfl ?_
       obtain ⟨x100,hx100,h⟩:=I h
       refine T rfl (c131 p.Vars p.Tests _ hx100)<|C rfl<|E (kt<|kt<|kn) fun _=>?_
       refine D<|F<|C rfl<|a9 rfl rfl<|E (kt<|kt<|kt<|kn) fun _=>?_
       refine S rfl (fun hc102=>?_) (fun hc102=>?_)
       ·replace h:=M hc102 h
        refine D<|F<|C rfl<|C rfl<|E (kt<|kn) fun _=>?_
        exact L (by cases h;rfl)
       ·replace h:=O hc102 h
        refine P (kt<|kn) fun _=>?_
        refine D<|D<|F<|C rfl<|E (kt<|kt<|kn) fun _=>?_
        obtain ⟨o2,ho2,h⟩:=d2 h
        refine d6 ho2 (fun (i2:Int) (_:Unit)=>[(3,.tv (.pt (ePattern p).cells)),(13,.tv (eI i2))]) (fun (_:Unit)=>[]) (fun zv ze=>resIs ([.tmp 4]) (.sh (eI zv)) ze) rfl ?_ ?_ ?_ ?_
        ·clear h ho2
         intro i2 s2 r2 hi2 h hw2
         refine D<|D<|F<|C rfl<|K rfl<|J rfl<|V rfl rfl<|E (kt<|kt<|kt<|kn) fun _=>?_
         refine b5 rfl (b6 hi2)<|P (kt<|kt<|kn) fun _=>?_
         refine D<|b0<|D<|F<|R rfl rfl (show _=ePattern p from rfl)<|C rfl ?_
         obtain ⟨x112,hx112,h⟩:=I h
         refine T rfl (c132 p i2 _ hx112)<|d0 rfl<|E (kt<|kt<|kt<|kn) fun _=>?_
         refine S rfl (fun hc113=>?_) (fun hc113=>?_)
         ·replace h:=M hc113 h
          refine D<|F<|C rfl<|E (kt<|kn) fun _=>?_
          refine L ?_
          cases h
          exact ⟨_,rfl,rfl⟩
         ·replace h:=O hc113 h
          refine P (kt<|kt<|kn) fun _=>?_
          refine F<|C rfl<|a7 rfl rfl<|C rfl<|E (kt<|kt<|kn) ?_
          cases h
          refine ⟨_,rfl,?_⟩
          rw [Ktv rfl (Ktv rfl (Knil _))]
          rw [b4 (a5 (hw2 13)) hi2 (e0 (g0 (g1 (hw2 3)) (i:=3) rfl))]
          all_goals rfl
        ·intro i2 s2 hi2
         refine D<|D<|F<|C rfl<|K rfl<|J rfl<|V rfl rfl<|E (kt<|kt<|kt<|kn) fun _=>?_
         refine b7 rfl (b8 hi2)<|b3 (kn) ?_
         exact ⟨rfl,rfl⟩
        ·intro s2 hs
         replace h:=d3 h hs
         intro _
         refine D<|F<|C rfl<|E (kt<|kn) fun _=>?_
         exact L (by cases h;rfl)
        ·intro v2 ze hv hR
         replace h:=d4 h hv
         cases h
         exact hR
      ·intro v0 ze hv hR
       replace h:=d4 h hv
       cases h
       exact hR
theorem ck133:CK f133 (Rq [Af 3 0,Af 4 1,Ad 6 0] [2,3,4]<|Rq [Ac 11 4 2,Ab 12 11,Aa 13 2,Ag 14 12 13 4,Ae 15 14 4,Ec 7 0 0 0 0,Aj 4 7 15] [2,3,4,7]<|Sq (Rq [Ac 16 7 0,Ab 17 16,Bq 18 17 0,Aa 19 18,Ar 20 7 0 19,Ao 21 20 19,Ar 22 4 0 19,Bi 23 22 0 19,Ao 24 23 19,Bc 25 24 19,Bp 26 21 25 19,As 27 19 26] [2,3,4,7,27]<|Co 27 (Rq [Ad 6 6] [6]<|.ret)<|Sk [2,3,4,7])<|Sq (Dr [8,9,28,29,30,31,32,33,34,35,36,37,38,39] [Ae 29 3 2,Ac 30 4 0,Ai 31 30 0,Ab 32 31,Ac 33 7 0,Ab 34 33,Ag 35 32 34 1,Ab 36 35,Al 37 117 29 36,Aa 28 37,Am 38 28 0,Am 39 28 1,Ay 8 38,Aa 9 39] [2,4,7,8])<|Sq (Rq [Ac 40 7 1,Ab 41 40,Bq 42 41 0,Aa 43 42,Ar 44 7 1 43,Ao 45 44 43,Aw 46 8 43,Bc 47 46 43,Bp 48 45 47 43,As 49 43 48,Aa 50 49,Ar 51 7 2 50,Bi 52 51 0 50,Ao 53 52 50,Dg 54 53 (-1) 50,As 55 50 54,Aa 56 55,Ar 57 7 2 56,Bi 58 57 0 56,Ao 59 58 56,Ar 60 4 3 56,Ao 61 60 56,Bp 62 59 61 56,As 63 56 62,Aa 64 63,Ar 65 7 2 64,Bi 66 65 1 64,Ao 67 66 64,Dg 68 67 (-1000000) 64,As 69 64 68,Aa 70 69,Ar 71 7 2 70,Bi 72 71 1 70,Ao 73 72 70,Bs 74 73 1000000 70,As 75 70 74] [2,4,7,75]<|Co 75 (Rq [Ad 6 6] [6]<|.ret)<|Sk [2,4,7])<|Sq (Rq [Ad 10 0] [2,4,7,10]<|Bl 0<|Lo [2,4,7,10]<|Sq (Rq [Aa 76 10,Aa 77 2,Ap 78 76 77] [2,4,7,10,78]<|Co 78 (Sk [2,4,7,10])<|Ex 0 [])<|Sq (Bl 1<|Sq (Dr [81,82,83,84,85,86,87,88,89,90,91,92,93,94,95,96,97,98,99,100] [Ac 81 4 2,Ab 82 81,Aa 83 10,Ag 84 82 83 4,Ai 85 84 0,Ab 86 85,Ac 87 7 0,Ab 88 87,Bt 89 86 88,Aa 90 89,Ba 91 4 2 90,Ax 92 91 90,Aq 93 10 90,Cb 94 92 93 4 90,Bu 95 94 1 90,Ax 96 95 90,Ba 97 7 1 90,Ax 98 97 90,Cl 99 96 98 90,At 100 90 99] [2,4,7,10,100])<|Co 100 (Rq [Ad 6 5] [6]<|.ret)<|Sk [2,4,7,10])<|Re [Aa 79 10,An 80 79 1,Aa 10 80] [2,4,7,10])<|Rq [Ad 6 0] [6]<|.ret) [.tmp 6]:= by decide +kernel
theorem c133 (t:Types) (p:Pattern) (i_2:Int) (r:Int) (h:ref24_slot t p i_2=some r):Sound prog 133 [eTypes t,ePattern p,eI i_2] (.sh (eI r)):= by
 refine Fn ck133 fun hw=>?_
 unfold ref24_slot at h
 refine D<|F<|a4 rfl rfl<|a4 rfl rfl<|C rfl<|E (kt<|kt<|kt<|kn) fun _=>?_
 refine D<|F<|K rfl<|J rfl<|C rfl ?_
 obtain ⟨x14,hx14,h⟩:=I h
 refine W rfl rfl rfl hx14 rfl<|R rfl rfl (show _=eSlot x14 from rfl)<|b1 rfl<|a8 rfl rfl rfl rfl rfl<|E (kt<|kt<|kt<|kb<|kn) fun _=>?_
 refine D<|D<|F<|a3 rfl<|J rfl<|V rfl rfl<|C rfl ?_
 refine gO 8 [20,21,22,23,24,25,26] 27 (decide (x14.Node<0)) (decide ((p.Graph.Nodes.length:Int)<=x14.Node)) (fun hg27=>?_) (fun hg27=>?_) ?_
 ·refine H rfl hg27<|H rfl hg27<|H rfl hg27<|H rfl hg27<|H rfl hg27<|H rfl hg27<|H rfl hg27<|Y rfl hg27 rfl ?_
  exact ⟨⟨_,_,_,_,_,_,_,rfl⟩⟩
 ·refine G rfl hg27<|a3 rfl<|G rfl hg27<|J rfl<|G rfl hg27<|K rfl<|G rfl hg27<|a6 rfl<|G rfl hg27<|J rfl<|G rfl hg27<|U rfl rfl<|G rfl hg27<|d5 rfl rfl<|Z rfl hg27 rfl ?_
  exact ⟨⟨_,_,_,_,_,_,_,rfl⟩⟩
 rintro _ ⟨_,_,_,_,_,_,_,rfl⟩
 refine E (kt<|kt<|kt<|kb<|kt<|kn) fun _=>?_
 refine S rfl (fun hc27=>?_) (fun hc27=>?_)
 ·replace h:=M hc27 h
  refine D<|F<|C rfl<|E (kt<|kn) fun _=>?_
  exact L (by cases h;rfl)
 ·replace h:=O hc27 h
  refine P (kt<|kt<|kt<|kb<|kn) fun _=>?_
  refine D<|b9 rfl<|R rfl rfl (show _=eTypes t from rfl)<|K rfl<|a6 rfl<|J rfl<|a3 rfl<|J rfl ?_
  obtain ⟨x35,hx35,h⟩:=I h
  refine W rfl rfl rfl hx35 rfl<|J rfl ?_
  obtain ⟨x37,hx37,h⟩:=I h
  refine e5 rfl (c117 t x35 _ hx37)<|e6 rfl<|b2 rfl rfl<|b2 rfl rfl<|f1 rfl<|C rfl<|E (kt<|kt<|kb<|kt<|kn) fun _=>?_
  refine D<|D<|F<|a3 rfl<|J rfl<|V rfl rfl<|C rfl ?_
  refine gO 6 [44,45,46,47,48] 49 (decide (x14.Attr<0)) (decide ((x37.1.length:Int)<=x14.Attr)) (fun hg49=>?_) (fun hg49=>?_) ?_
  ·refine H rfl hg49<|H rfl hg49<|H rfl hg49<|H rfl hg49<|H rfl hg49<|Y rfl hg49 rfl ?_
   exact ⟨⟨_,_,_,_,_,rfl⟩⟩
  ·refine G rfl hg49<|a3 rfl<|G rfl hg49<|J rfl<|G rfl hg49<|C rfl<|G rfl hg49<|U rfl rfl<|G rfl hg49<|d5 rfl rfl<|Z rfl hg49 rfl ?_
   exact ⟨⟨_,_,_,_,_,rfl⟩⟩
  rintro _ ⟨_,_,_,_,_,rfl⟩
  refine C rfl ?_
  refine gO 5 [51,52,53,54] 55 ((decide (x14.Attr<0))||(decide ((x37.1.length:Int)<=x14.Attr))) (decide (x14.Term.Var<(-1))) (fun hg55=>?_) (fun hg55=>?_) ?_
  ·refine H rfl hg55<|H rfl hg55<|H rfl hg55<|H rfl hg55<|Y rfl hg55 rfl ?_
   exact ⟨⟨_,_,_,_,rfl⟩⟩
  ·refine G rfl hg55<|a3 rfl<|G rfl hg55<|f3 rfl rfl<|G rfl hg55<|J rfl<|G rfl hg55<|V rfl rfl<|Z rfl hg55 rfl ?_
   exact ⟨⟨_,_,_,_,rfl⟩⟩
  rintro _ ⟨_,_,_,_,rfl⟩
  refine C rfl ?_
  refine gO 7 [57,58,59,60,61,62] 63 (((decide (x14.Attr<0))||(decide ((x37.1.length:Int)<=x14.Attr)))||(decide (x14.Term.Var<(-1)))) (decide (p.Vars<=x14.Term.Var)) (fun hg63=>?_) (fun hg63=>?_) ?_
  ·refine H rfl hg63<|H rfl hg63<|H rfl hg63<|H rfl hg63<|H rfl hg63<|H rfl hg63<|Y rfl hg63 rfl ?_
   exact ⟨⟨_,_,_,_,_,_,rfl⟩⟩
  ·refine G rfl hg63<|a3 rfl<|G rfl hg63<|f3 rfl rfl<|G rfl hg63<|J rfl<|G rfl hg63<|K rfl<|G rfl hg63<|J rfl<|G rfl hg63<|d5 rfl rfl<|Z rfl hg63 rfl ?_
   exact ⟨⟨_,_,_,_,_,_,rfl⟩⟩
  rintro _ ⟨_,_,_,_,_,_,rfl⟩
  refine C rfl ?_
  refine gO 5 [65,66,67,68] 69 ((((decide (x14.Attr<0))||(decide ((x37.1.length:Int)<=x14.Attr)))||(decide (x14.Term.Var<(-1))))||(decide (p.Vars<=x14.Term.Var))) (decide (x14.Term.Add<(-1000000))) (fun hg69=>?_) (fun hg69=>?_) ?_
  ·refine H rfl hg69<|H rfl hg69<|H rfl hg69<|H rfl hg69<|Y rfl hg69 rfl ?_
   exact ⟨⟨_,_,_,_,rfl⟩⟩
  ·refine G rfl hg69<|a3 rfl<|G rfl hg69<|f3 rfl rfl<|G rfl hg69<|J rfl<|G rfl hg69<|V rfl rfl<|Z rfl hg69 rfl ?_
   exact ⟨⟨_,_,_,_,rfl⟩⟩
  rintro _ ⟨_,_,_,_,rfl⟩
  refine C rfl ?_
  refine gO 5 [71,72,73,74] 75 (((((decide (x14.Attr<0))||(decide ((x37.1.length:Int)<=x14.Attr)))||(decide (x14.Term.Var<(-1))))||(decide (p.Vars<=x14.Term.Var)))||(decide (x14.Term.Add<(-1000000)))) (decide (1000000<x14.Term.Add)) (fun hg75=>?_) (fun hg75=>?_) ?_
  ·refine H rfl hg75<|H rfl hg75<|H rfl hg75<|H rfl hg75<|Y rfl hg75 rfl ?_
   exact ⟨⟨_,_,_,_,rfl⟩⟩
  ·refine G rfl hg75<|a3 rfl<|G rfl hg75<|f3 rfl rfl<|G rfl hg75<|J rfl<|G rfl hg75<|e4 rfl rfl<|Z rfl hg75 rfl ?_
   exact ⟨⟨_,_,_,_,rfl⟩⟩
  rintro _ ⟨_,_,_,_,rfl⟩
  refine E (kt<|kt<|kb<|kt<|kn) fun _=>?_
  refine S rfl (fun hc75=>?_) (fun hc75=>?_)
  ·replace h:=M hc75 h
   refine D<|F<|C rfl<|E (kt<|kn) fun _=>?_
   exact L (by cases h;rfl)
  ·replace h:=O hc75 h
   refine P (kt<|kt<|kb<|kn) fun _=>?_
   refine D<|D<|F<|C rfl<|E (kt<|kt<|kb<|kt<|kn) fun _=>?_
   obtain ⟨o0,ho0,h⟩:=d2 h
   refine d6 ho0 (fun (i0:Int) (_:Unit)=>[(2,.tv (eI i_2)),(4,.tv (.pt (ePattern p).cells)),(7,.bx [⟨false,eI x14.Node⟩,⟨false,eI x14.Attr⟩,⟨false,eI x14.Term.Var⟩,⟨false,eI x14.Term.Add⟩]),(10,.tv (eI i0))]) (fun (_:Unit)=>[]) (fun zv ze=>resIs ([.tmp 6]) (.sh (eI zv)) ze) rfl ?_ ?_ ?_ ?_
   ·clear h ho0
    intro i0 s0 r0 hi0 h hw0
    refine D<|D<|F<|C rfl<|C rfl<|V rfl rfl<|E (kt<|kt<|kb<|kt<|kt<|kn) fun _=>?_
    refine b5 rfl (b6 hi0)<|P (kt<|kt<|kb<|kt<|kn) fun _=>?_
    refine D<|b0<|D<|b9 rfl<|K rfl<|J rfl<|C rfl ?_
    obtain ⟨x84,hx84,h⟩:=I h
    refine W rfl rfl rfl hx84 rfl<|a6 rfl<|J rfl<|a3 rfl<|J rfl<|d1 rfl rfl<|C rfl ?_
    obtain ⟨x100,hx100,h⟩:=I h
    refine gX 10 [91,92,93,94,95,96,97,98,99] 100 x100 (decide (x84.Node=x14.Node)) (fun hg100=>?_) (fun hg100=>?_) ?_
    ·replace h:=M hg100 hx100
     refine G rfl hg100<|K rfl<|G rfl hg100<|J rfl<|G rfl hg100<|C rfl ?_
     obtain ⟨x94,hx94,h⟩:=I h
     refine G rfl hg100<|W rfl rfl rfl hx94 rfl<|G rfl hg100<|a6 rfl<|G rfl hg100<|J rfl<|G rfl hg100<|a3 rfl<|G rfl hg100<|J rfl<|G rfl hg100<|d1 rfl rfl ?_
     cases h
     refine Y rfl hg100 rfl ?_
     exact ⟨⟨_,_,_,_,_,_,_,_,_,rfl⟩⟩
    ·replace h:=O hg100 hx100
     cases h
     refine H rfl hg100<|H rfl hg100<|H rfl hg100<|H rfl hg100<|H rfl hg100<|H rfl hg100<|H rfl hg100<|H rfl hg100<|H rfl hg100<|Z rfl hg100 rfl ?_
     exact ⟨⟨_,_,_,_,_,_,_,_,_,rfl⟩⟩
    rintro _ ⟨_,_,_,_,_,_,_,_,_,rfl⟩
    refine E (kt<|kt<|kb<|kt<|kt<|kn) fun _=>?_
    refine S rfl (fun hc100=>?_) (fun hc100=>?_)
    ·replace h:=M hc100 h
     refine D<|F<|C rfl<|E (kt<|kn) fun _=>?_
     refine L ?_
     cases h
     exact ⟨_,rfl,rfl⟩
    ·replace h:=O hc100 h
     refine P (kt<|kt<|kb<|kt<|kn) fun _=>?_
     refine F<|C rfl<|a7 rfl rfl<|C rfl<|E (kt<|kt<|kb<|kt<|kn) ?_
     cases h
     refine ⟨_,rfl,?_⟩
     rw [Ktv rfl (Ktv rfl (Kbx rfl (Ktv rfl (Knil _))))]
     rw [b4 (a5 (hw0 10)) hi0 (e0 (a5 (hw0 2)))]
     all_goals rfl
   ·intro i0 s0 hi0
    refine D<|D<|F<|C rfl<|C rfl<|V rfl rfl<|E (kt<|kt<|kb<|kt<|kt<|kn) fun _=>?_
    refine b7 rfl (b8 hi0)<|b3 (kn) ?_
    exact ⟨rfl,rfl⟩
   ·intro s0 hs
    replace h:=d3 h hs
    intro _
    refine D<|F<|C rfl<|E (kt<|kn) fun _=>?_
    exact L (by cases h;rfl)
   ·intro v0 ze hv hR
    replace h:=d4 h hv
    cases h
    exact hR
theorem ck77:CK f77 (Rq [Af 2 0,Af 3 1,Ad 4 0] [2,3]<|Sq (Rq [Ac 8 3 6,Ai 9 8 0,Ae 10 9 2,Au 11 127 10,Aa 5 11] [2,3,5]<|Rq [Aa 12 5,Av 13 12 0] [2,3,5,13]<|Co 13 (Rq [Aa 14 5,Aa 4 14] [4]<|.ret)<|Sk [2,3])<|Sq (Rq [Ae 15 2 2,Ac 16 3 6,Ai 17 16 0,Ae 18 17 2,Al 19 128 15 18,Az 20 19] [2,3,20]<|Co 20 (Rq [Ad 4 13] [4]<|.ret)<|Sk [2,3])<|Sq (Rq [Ac 21 3 6,Ai 22 21 3,Ab 23 22,Ac 24 3 1,Ai 25 24 3,Ab 26 25,Bx 27 23 26,Aa 28 27,Ar 29 3 6 28,Bi 30 29 4 28,Ao 31 30 28,Bc 32 31 28,Bs 33 32 0 28,As 34 28 33] [2,3,34]<|Co 34 (Rq [Ad 4 1] [4]<|.ret)<|Sk [2,3])<|Sq (Rq [Ac 35 3 6,Ai 36 35 2,Ab 37 36,Ah 38 37,Bk 39 38 10] [2,3,39]<|Co 39 (Rq [Ad 4 3] [4]<|.ret)<|Sk [2,3])<|Sq (Rq [Ad 6 0] [2,3,6]<|Bl 0<|Lo [2,3,6]<|Sq (Rq [Aa 40 6,Ac 41 3 6,Ai 42 41 2,Ab 43 42,Ah 44 43,Ap 45 40 44] [2,3,6,45]<|Co 45 (Sk [2,3,6])<|Ex 0 [])<|Sq (Bl 1<|Rq [Ae 48 2 2,Ac 49 3 6,Ae 50 49 5,Aa 51 6,Bg 52 133 48 50 51,Aa 7 52] [2,3,6,7]<|Rq [Aa 53 7,Av 54 53 0] [2,3,6,7,54]<|Co 54 (Rq [Aa 55 7,Aa 4 55] [4]<|.ret)<|Sk [2,3,6])<|Re [Aa 46 6,An 47 46 1,Aa 6 47] [2,3,6])<|Rq [Ad 4 0] [4]<|.ret) [.tmp 4]:= by decide +kernel
theorem c77 (t:Types) (r_1:Rule) (r:Int) (h:ref24_right t r_1=some r):Sound prog 77 [eTypes t,eRule r_1] (.sh (eI r)):= by
 refine Fn ck77 fun hw=>?_
 unfold ref24_right at h
 refine D<|F<|a4 rfl rfl<|a4 rfl rfl<|C rfl<|E (kt<|kt<|kn) fun _=>?_
 refine D<|D<|F<|K rfl<|a6 rfl<|R rfl rfl (show _=eGraph r_1.Right.Graph from rfl) ?_
 obtain ⟨x11,hx11,h⟩:=I h
 refine T rfl (c127 r_1.Right.Graph _ hx11)<|C rfl<|E (kt<|kt<|kt<|kn) fun _=>?_
 refine D<|F<|C rfl<|a9 rfl rfl<|E (kt<|kt<|kt<|kt<|kn) fun _=>?_
 refine S rfl (fun hc13=>?_) (fun hc13=>?_)
 ·replace h:=M hc13 h
  refine D<|F<|C rfl<|C rfl<|E (kt<|kn) fun _=>?_
  exact L (by cases h;rfl)
 ·replace h:=O hc13 h
  refine P (kt<|kt<|kn) fun _=>?_
  refine D<|D<|F<|R rfl rfl (show _=eTypes t from rfl)<|K rfl<|a6 rfl<|R rfl rfl (show _=eGraph r_1.Right.Graph from rfl) ?_
  obtain ⟨x19,hx19,h⟩:=I h
  refine T rfl (c128 t r_1.Right.Graph _ hx19)<|d0 rfl<|E (kt<|kt<|kt<|kn) fun _=>?_
  refine S rfl (fun hc20=>?_) (fun hc20=>?_)
  ·replace h:=M hc20 h
   refine D<|F<|C rfl<|E (kt<|kn) fun _=>?_
   exact L (by cases h;rfl)
  ·replace h:=O hc20 h
   refine P (kt<|kt<|kn) fun _=>?_
   refine D<|D<|F<|K rfl<|a6 rfl<|J rfl<|K rfl<|a6 rfl<|J rfl<|a9 rfl rfl<|C rfl ?_
   refine gO 6 [29,30,31,32,33] 34 (!decide (r_1.Right.Vars=r_1.Left.Vars)) (decide (0<(r_1.Right.Tests.length:Int))) (fun hg34=>?_) (fun hg34=>?_) ?_
   ·refine H rfl hg34<|H rfl hg34<|H rfl hg34<|H rfl hg34<|H rfl hg34<|Y rfl hg34 rfl ?_
    exact ⟨⟨_,_,_,_,_,rfl⟩⟩
   ·refine G rfl hg34<|K rfl<|G rfl hg34<|a6 rfl<|G rfl hg34<|J rfl<|G rfl hg34<|U rfl rfl<|G rfl hg34<|e4 rfl rfl<|Z rfl hg34 rfl ?_
    exact ⟨⟨_,_,_,_,_,rfl⟩⟩
   rintro _ ⟨_,_,_,_,_,rfl⟩
   refine E (kt<|kt<|kt<|kn) fun _=>?_
   refine S rfl (fun hc34=>?_) (fun hc34=>?_)
   ·replace h:=M hc34 h
    refine D<|F<|C rfl<|E (kt<|kn) fun _=>?_
    exact L (by cases h;rfl)
   ·replace h:=O hc34 h
    refine P (kt<|kt<|kn) fun _=>?_
    refine D<|D<|F<|K rfl<|a6 rfl<|J rfl<|U rfl rfl<|e4 rfl rfl<|E (kt<|kt<|kt<|kn) fun _=>?_
    refine S rfl (fun hc39=>?_) (fun hc39=>?_)
    ·replace h:=M hc39 h
     refine D<|F<|C rfl<|E (kt<|kn) fun _=>?_
     exact L (by cases h;rfl)
    ·replace h:=O hc39 h
     refine P (kt<|kt<|kn) fun _=>?_
     refine D<|D<|F<|C rfl<|E (kt<|kt<|kt<|kn) fun _=>?_
     obtain ⟨o0,ho0,h⟩:=d2 h
     refine d6 ho0 (fun (i0:Int) (_:Unit)=>[(2,.tv (.pt (eTypes t).cells)),(3,.tv (.pt (eRule r_1).cells)),(6,.tv (eI i0))]) (fun (_:Unit)=>[]) (fun zv ze=>resIs ([.tmp 4]) (.sh (eI zv)) ze) rfl ?_ ?_ ?_ ?_
     ·clear h ho0
      intro i0 s0 r0 hi0 h hw0
      refine D<|D<|F<|C rfl<|K rfl<|a6 rfl<|J rfl<|U rfl rfl<|V rfl rfl<|E (kt<|kt<|kt<|kt<|kn) fun _=>?_
      refine b5 rfl (b6 hi0)<|P (kt<|kt<|kt<|kn) fun _=>?_
      refine D<|b0<|D<|F<|R rfl rfl (show _=eTypes t from rfl)<|K rfl<|R rfl rfl (show _=ePattern r_1.Right from rfl)<|C rfl ?_
      obtain ⟨x52,hx52,h⟩:=I h
      refine T rfl (c133 t r_1.Right i0 _ hx52)<|C rfl<|E (kt<|kt<|kt<|kt<|kn) fun _=>?_
      refine D<|F<|C rfl<|a9 rfl rfl<|E (kt<|kt<|kt<|kt<|kt<|kn) fun _=>?_
      refine S rfl (fun hc54=>?_) (fun hc54=>?_)
      ·replace h:=M hc54 h
       refine D<|F<|C rfl<|C rfl<|E (kt<|kn) fun _=>?_
       refine L ?_
       cases h
       exact ⟨_,rfl,rfl⟩
      ·replace h:=O hc54 h
       refine P (kt<|kt<|kt<|kn) fun _=>?_
       refine F<|C rfl<|a7 rfl rfl<|C rfl<|E (kt<|kt<|kt<|kn) ?_
       cases h
       refine ⟨_,rfl,?_⟩
       rw [Ktv rfl (Ktv rfl (Ktv rfl (Knil _)))]
       rw [b4 (a5 (hw0 6)) hi0 (e9 (g0 (g1 (hw0 3)) (i:=8) rfl) rfl)]
       all_goals rfl
     ·intro i0 s0 hi0
      refine D<|D<|F<|C rfl<|K rfl<|a6 rfl<|J rfl<|U rfl rfl<|V rfl rfl<|E (kt<|kt<|kt<|kt<|kn) fun _=>?_
      refine b7 rfl (b8 hi0)<|b3 (kn) ?_
      exact ⟨rfl,rfl⟩
     ·intro s0 hs
      replace h:=d3 h hs
      intro _
      refine D<|F<|C rfl<|E (kt<|kn) fun _=>?_
      exact L (by cases h;rfl)
     ·intro v0 ze hv hR
      replace h:=d4 h hv
      cases h
      exact hR
theorem ck220:CK f220 (Rq [Ad 4 0] [0,1]<|Sq (Rq [Ad 5 0] [0,1,5]<|Bl 0<|Lo [0,1,5]<|Sq (Rq [Aa 6 5,Aa 7 0,Ah 8 7,Ap 9 6 8] [0,1,5,9]<|Co 9 (Sk [0,1,5])<|Ex 0 [])<|Sq (Bl 1<|Sq (Rq [Aa 12 0,Aa 13 5,Ag 14 12 13 1,Ab 15 14,Bq 16 15 0,Aa 17 16,Aw 18 0 17,Aw 19 5 17,Cw 20 18 19 1 17,Ao 21 20 17,Aw 22 1 17,Bp 23 21 22 17,As 24 17 23] [0,1,5,24]<|Co 24 (Rq [Ad 4 6] [4]<|.ret)<|Sk [0,1,5])<|Sq (Dr [25,26,27,28,29,30,31,32,33,34,35,36,37,38] [Aa 25 5,Bk 26 25 0,Aa 27 26,Aq 28 0 27,Aq 29 5 27,Cb 30 28 29 1 27,Ax 31 30 27,Aq 32 0 27,Aq 33 5 27,Dn 34 33 1 27,Cb 35 32 34 1 27,Ax 36 35 27,Dd 37 31 36 27,At 38 27 37] [0,1,5,38])<|Co 38 (Rq [Ad 4 12] [4]<|.ret)<|Sk [0,1,5])<|Re [Aa 10 5,An 11 10 1,Aa 5 11] [0,1,5])<|Rq [Ad 4 0] [4]<|.ret) [.tmp 4]:= by decide +kernel
theorem c220 (l:List Int) (n:Int) (r:Int) (h:ref07_ascending l n=some r):Sound prog 220 [lI l,eI n] (.sh (eI r)):= by
 refine Fn ck220 fun hw=>?_
 unfold ref07_ascending at h
 refine D<|F<|C rfl<|E (kt<|kt<|kn) fun _=>?_
 refine D<|D<|F<|C rfl<|E (kt<|kt<|kt<|kn) fun _=>?_
 obtain ⟨o0,ho0,h⟩:=d2 h
 refine d6 ho0 (fun (i0:Int) (_:Unit)=>[(0,.tv (lI l)),(1,.tv (eI n)),(5,.tv (eI i0))]) (fun (_:Unit)=>[]) (fun zv ze=>resIs ([.tmp 4]) (.sh (eI zv)) ze) rfl ?_ ?_ ?_ ?_
 ·clear h ho0
  intro i0 s0 r0 hi0 h hw0
  refine D<|D<|F<|C rfl<|C rfl<|U rfl rfl<|V rfl rfl<|E (kt<|kt<|kt<|kt<|kn) fun _=>?_
  refine b5 rfl (b6 hi0)<|P (kt<|kt<|kt<|kn) fun _=>?_
  refine D<|b0<|D<|D<|F<|C rfl<|C rfl ?_
  obtain ⟨x14,hx14,h⟩:=I h
  refine W rfl rfl rfl hx14 rfl<|J rfl<|V rfl rfl<|C rfl ?_
  obtain ⟨x24,hx24,h⟩:=I h
  refine gX 7 [18,19,20,21,22,23] 24 x24 (decide (x14<0)) (fun hg24=>?_) (fun hg24=>?_) ?_
  ·replace h:=M hg24 hx24
   cases h
   refine H rfl hg24<|H rfl hg24<|H rfl hg24<|H rfl hg24<|H rfl hg24<|H rfl hg24<|Y rfl hg24 rfl ?_
   exact ⟨⟨_,_,_,_,_,_,rfl⟩⟩
  ·replace h:=O hg24 hx24
   refine G rfl hg24<|C rfl<|G rfl hg24<|C rfl ?_
   obtain ⟨x20,hx20,h⟩:=I h
   refine G rfl hg24<|W rfl rfl rfl hx20 rfl<|G rfl hg24<|J rfl<|G rfl hg24<|C rfl<|G rfl hg24<|d5 rfl rfl ?_
   cases h
   refine Z rfl hg24 rfl ?_
   exact ⟨⟨_,_,_,_,_,_,rfl⟩⟩
  rintro _ ⟨_,_,_,_,_,_,rfl⟩
  refine E (kt<|kt<|kt<|kt<|kn) fun _=>?_
  refine S rfl (fun hc24=>?_) (fun hc24=>?_)
  ·replace h:=M hc24 h
   refine D<|F<|C rfl<|E (kt<|kn) fun _=>?_
   refine L ?_
   cases h
   exact ⟨_,rfl,rfl⟩
  ·replace h:=O hc24 h
   refine P (kt<|kt<|kt<|kn) fun _=>?_
   refine D<|b9 rfl<|C rfl<|e4 rfl rfl<|C rfl ?_
   obtain ⟨x38,hx38,h⟩:=I h
   refine gX 11 [28,29,30,31,32,33,34,35,36,37] 38 x38 (decide (0<i0)) (fun hg38=>?_) (fun hg38=>?_) ?_
   ·replace h:=M hg38 hx38
    refine G rfl hg38<|C rfl<|G rfl hg38<|C rfl ?_
    obtain ⟨x30,hx30,h⟩:=I h
    refine G rfl hg38<|W rfl rfl rfl hx30 rfl<|G rfl hg38<|J rfl<|G rfl hg38<|C rfl<|G rfl hg38<|C rfl<|G rfl hg38<|g4 rfl rfl ?_
    obtain ⟨x35,hx35,h⟩:=I h
    refine G rfl hg38<|W rfl rfl rfl hx35 rfl<|G rfl hg38<|J rfl<|G rfl hg38<|f4 rfl rfl ?_
    cases h
    refine Y rfl hg38 rfl ?_
    exact ⟨⟨_,_,_,_,_,_,_,_,_,_,rfl⟩⟩
   ·replace h:=O hg38 hx38
    cases h
    refine H rfl hg38<|H rfl hg38<|H rfl hg38<|H rfl hg38<|H rfl hg38<|H rfl hg38<|H rfl hg38<|H rfl hg38<|H rfl hg38<|H rfl hg38<|Z rfl hg38 rfl ?_
    exact ⟨⟨_,_,_,_,_,_,_,_,_,_,rfl⟩⟩
   rintro _ ⟨_,_,_,_,_,_,_,_,_,_,rfl⟩
   refine E (kt<|kt<|kt<|kt<|kn) fun _=>?_
   refine S rfl (fun hc38=>?_) (fun hc38=>?_)
   ·replace h:=M hc38 h
    refine D<|F<|C rfl<|E (kt<|kn) fun _=>?_
    refine L ?_
    cases h
    exact ⟨_,rfl,rfl⟩
   ·replace h:=O hc38 h
    refine P (kt<|kt<|kt<|kn) fun _=>?_
    refine F<|C rfl<|a7 rfl rfl<|C rfl<|E (kt<|kt<|kt<|kn) ?_
    cases h
    refine ⟨_,rfl,?_⟩
    rw [Ktv rfl (Ktv rfl (Ktv rfl (Knil _)))]
    rw [b4 (a5 (hw0 5)) hi0 (e9 (a5 (hw0 0)) rfl)]
    all_goals rfl
 ·intro i0 s0 hi0
  refine D<|D<|F<|C rfl<|C rfl<|U rfl rfl<|V rfl rfl<|E (kt<|kt<|kt<|kt<|kn) fun _=>?_
  refine b7 rfl (b8 hi0)<|b3 (kn) ?_
  exact ⟨rfl,rfl⟩
 ·intro s0 hs
  replace h:=d3 h hs
  intro _
  refine D<|F<|C rfl<|E (kt<|kn) fun _=>?_
  exact L (by cases h;rfl)
 ·intro v0 ze hv hR
  replace h:=d4 h hv
  cases h
  exact hR
theorem ck221:CK f221 (Rq [Ak 4] [0,1]<|Sq (Rq [Ad 5 0] [0,1,5]<|Bl 0<|Lo [0,1,5]<|Sq (Rq [Aa 6 5,Aa 7 0,Ah 8 7,Ap 9 6 8] [0,1,5,9]<|Co 9 (Sk [0,1,5])<|Ex 0 [])<|Sq (Bl 1<|Rq [Aa 12 0,Aa 13 5,Ag 14 12 13 1,Ab 15 14,Aa 16 1,Bt 17 15 16] [0,1,5,17]<|Co 17 (Rq [Cg 4] [4]<|.ret)<|Sk [0,1,5])<|Re [Aa 10 5,An 11 10 1,Aa 5 11] [0,1,5])<|Rq [Ak 4] [4]<|.ret) [.tmp 4]:= by decide +kernel
theorem c221 (l:List Int) (n:Int) (r:Bool) (h:ref07_has l n=some r):Sound prog 221 [lI l,eI n] (.sh (eB r)):= by
 refine Fn ck221 fun hw=>?_
 unfold ref07_has at h
 refine D<|F<|C rfl<|E (kt<|kt<|kn) fun _=>?_
 refine D<|D<|F<|C rfl<|E (kt<|kt<|kt<|kn) fun _=>?_
 obtain ⟨o0,ho0,h⟩:=d2 h
 refine d6 ho0 (fun (i0:Int) (_:Unit)=>[(0,.tv (lI l)),(1,.tv (eI n)),(5,.tv (eI i0))]) (fun (_:Unit)=>[]) (fun zv ze=>resIs ([.tmp 4]) (.sh (eB zv)) ze) rfl ?_ ?_ ?_ ?_
 ·clear h ho0
  intro i0 s0 r0 hi0 h hw0
  refine D<|D<|F<|C rfl<|C rfl<|U rfl rfl<|V rfl rfl<|E (kt<|kt<|kt<|kt<|kn) fun _=>?_
  refine b5 rfl (b6 hi0)<|P (kt<|kt<|kt<|kn) fun _=>?_
  refine D<|b0<|D<|F<|C rfl<|C rfl ?_
  obtain ⟨x14,hx14,h⟩:=I h
  refine W rfl rfl rfl hx14 rfl<|J rfl<|C rfl<|d1 rfl rfl<|E (kt<|kt<|kt<|kt<|kn) fun _=>?_
  refine S rfl (fun hc17=>?_) (fun hc17=>?_)
  ·replace h:=M hc17 h
   refine D<|F<|C rfl<|E (kt<|kn) fun _=>?_
   refine L ?_
   cases h
   exact ⟨_,rfl,rfl⟩
  ·replace h:=O hc17 h
   refine P (kt<|kt<|kt<|kn) fun _=>?_
   refine F<|C rfl<|a7 rfl rfl<|C rfl<|E (kt<|kt<|kt<|kn) ?_
   cases h
   refine ⟨_,rfl,?_⟩
   rw [Ktv rfl (Ktv rfl (Ktv rfl (Knil _)))]
   rw [b4 (a5 (hw0 5)) hi0 (e9 (a5 (hw0 0)) rfl)]
   all_goals rfl
 ·intro i0 s0 hi0
  refine D<|D<|F<|C rfl<|C rfl<|U rfl rfl<|V rfl rfl<|E (kt<|kt<|kt<|kt<|kn) fun _=>?_
  refine b7 rfl (b8 hi0)<|b3 (kn) ?_
  exact ⟨rfl,rfl⟩
 ·intro s0 hs
  replace h:=d3 h hs
  intro _
  refine D<|F<|C rfl<|E (kt<|kn) fun _=>?_
  exact L (by cases h;rfl)
 ·intro v0 ze hv hR
  replace h:=d4 h hv
  cases h
  exact hR
theorem ck178:CK f178 (Rq [Af 2 0,Af 3 1,Ad 4 0] [2,3]<|Sq (Rq [Ac 9 3 0,Ab 10 9,Ac 11 2 0,Ab 12 11,Ah 13 12,Al 14 220 10 13,Aa 5 14] [2,3,5]<|Rq [Aa 15 5,Av 16 15 0] [2,3,5,16]<|Co 16 (Rq [Aa 17 5,Aa 4 17] [4]<|.ret)<|Sk [2,3])<|Sq (Rq [Ac 18 3 1,Ab 19 18,Ac 20 2 1,Ab 21 20,Ah 22 21,Al 23 220 19 22,Aa 6 23] [2,3,6]<|Rq [Aa 24 6,Av 25 24 0] [2,3,6,25]<|Co 25 (Rq [Aa 26 6,Aa 4 26] [4]<|.ret)<|Sk [2,3])<|Sq (Rq [Ad 7 0] [2,3,7]<|Bl 0<|Lo [2,3,7]<|Sq (Rq [Aa 27 7,Ac 28 3 1,Ab 29 28,Ah 30 29,Ap 31 27 30] [2,3,7,31]<|Co 31 (Sk [2,3,7])<|Ex 0 [])<|Sq (Bl 1<|Sq (Dr [8,34,35,36,37,38,39,40,41,42] [Ac 34 2 1,Ab 35 34,Ac 36 3 1,Ab 37 36,Aa 38 7,Ag 39 37 38 1,Ab 40 39,Ag 41 35 40 3,Ae 42 41 3,By 8 0 0 0,Aj 3 8 42] [2,3,7,8])<|Rq [Ac 43 3 0,Ab 44 43,Ac 45 8 1,Ab 46 45,Al 47 221 44 46,Az 48 47,Aa 49 48,Ar 50 3 0 49,Ao 51 50 49,Ar 52 8 2 49,Ao 53 52 49,Db 54 221 51 53 49,Br 55 54 49,As 56 49 55] [2,3,7,56]<|Co 56 (Rq [Ad 4 14] [4]<|.ret)<|Sk [2,3,7])<|Re [Aa 32 7,An 33 32 1,Aa 7 33] [2,3,7])<|Rq [Ad 4 0] [4]<|.ret) [.tmp 4]:= by decide +kernel
theorem c178 (g:Graph) (p:Part) (r:Int) (h:ref07_Right g p=some r):Sound prog 178 [eGraph g,ePart p] (.sh (eI r)):= by
 refine Fn ck178 fun hw=>?_
 unfold ref07_Right at h
 refine D<|F<|a4 rfl rfl<|a4 rfl rfl<|C rfl<|E (kt<|kt<|kn) fun _=>?_
 refine D<|D<|F<|K rfl<|J rfl<|K rfl<|J rfl<|U rfl rfl ?_
 obtain ⟨x14,hx14,h⟩:=I h
 refine T rfl (c220 p.Nodes (g.Nodes.length:Int) _ hx14)<|C rfl<|E (kt<|kt<|kt<|kn) fun _=>?_
 refine D<|F<|C rfl<|a9 rfl rfl<|E (kt<|kt<|kt<|kt<|kn) fun _=>?_
 refine S rfl (fun hc16=>?_) (fun hc16=>?_)
 ·replace h:=M hc16 h
  refine D<|F<|C rfl<|C rfl<|E (kt<|kn) fun _=>?_
  exact L (by cases h;rfl)
 ·replace h:=O hc16 h
  refine P (kt<|kt<|kn) fun _=>?_
  refine D<|D<|F<|K rfl<|J rfl<|K rfl<|J rfl<|U rfl rfl ?_
  obtain ⟨x23,hx23,h⟩:=I h
  refine T rfl (c220 p.Edges (g.Edges.length:Int) _ hx23)<|C rfl<|E (kt<|kt<|kt<|kn) fun _=>?_
  refine D<|F<|C rfl<|a9 rfl rfl<|E (kt<|kt<|kt<|kt<|kn) fun _=>?_
  refine S rfl (fun hc25=>?_) (fun hc25=>?_)
  ·replace h:=M hc25 h
   refine D<|F<|C rfl<|C rfl<|E (kt<|kn) fun _=>?_
   exact L (by cases h;rfl)
  ·replace h:=O hc25 h
   refine P (kt<|kt<|kn) fun _=>?_
   refine D<|D<|F<|C rfl<|E (kt<|kt<|kt<|kn) fun _=>?_
   obtain ⟨o0,ho0,h⟩:=d2 h
   refine d6 ho0 (fun (i0:Int) (_:Unit)=>[(2,.tv (.pt (eGraph g).cells)),(3,.tv (.pt (ePart p).cells)),(7,.tv (eI i0))]) (fun (_:Unit)=>[]) (fun zv ze=>resIs ([.tmp 4]) (.sh (eI zv)) ze) rfl ?_ ?_ ?_ ?_
   ·clear h ho0
    intro i0 s0 r0 hi0 h hw0
    refine D<|D<|F<|C rfl<|K rfl<|J rfl<|U rfl rfl<|V rfl rfl<|E (kt<|kt<|kt<|kt<|kn) fun _=>?_
    refine b5 rfl (b6 hi0)<|P (kt<|kt<|kt<|kn) fun _=>?_
    refine D<|b0<|D<|b9 rfl<|K rfl<|J rfl<|K rfl<|J rfl<|C rfl ?_
    obtain ⟨x39,hx39,h⟩:=I h
    refine W rfl rfl rfl hx39 rfl<|J rfl ?_
    obtain ⟨x41,hx41,h⟩:=I h
    refine W rfl rfl rfl hx41 rfl<|R rfl rfl (show _=eEdge x41 from rfl)<|b1 rfl<|a8 rfl rfl rfl rfl rfl<|E (kt<|kt<|kt<|kb<|kn) fun _=>?_
    refine D<|F<|K rfl<|J rfl<|a3 rfl<|J rfl ?_
    obtain ⟨x47,hx47,h⟩:=I h
    refine T rfl (c221 p.Nodes x41.From _ hx47)<|d0 rfl<|C rfl ?_
    obtain ⟨x56,hx56,h⟩:=I h
    refine gX 7 [50,51,52,53,54,55] 56 x56 (!x47) (fun hg56=>?_) (fun hg56=>?_) ?_
    ·replace h:=M hg56 hx56
     cases h
     refine H rfl hg56<|H rfl hg56<|H rfl hg56<|H rfl hg56<|H rfl hg56<|H rfl hg56<|Y rfl hg56 rfl ?_
     exact ⟨⟨_,_,_,_,_,_,rfl⟩⟩
    ·replace h:=O hg56 hx56
     refine G rfl hg56<|K rfl<|G rfl hg56<|J rfl<|G rfl hg56<|a3 rfl<|G rfl hg56<|J rfl ?_
     obtain ⟨x54,hx54,h⟩:=I h
     refine G rfl hg56<|T rfl (c221 p.Nodes x41.To _ hx54)<|G rfl hg56<|d0 rfl ?_
     cases h
     refine Z rfl hg56 rfl ?_
     exact ⟨⟨_,_,_,_,_,_,rfl⟩⟩
    rintro _ ⟨_,_,_,_,_,_,rfl⟩
    refine E (kt<|kt<|kt<|kt<|kn) fun _=>?_
    refine S rfl (fun hc56=>?_) (fun hc56=>?_)
    ·replace h:=M hc56 h
     refine D<|F<|C rfl<|E (kt<|kn) fun _=>?_
     refine L ?_
     cases h
     exact ⟨_,rfl,rfl⟩
    ·replace h:=O hc56 h
     refine P (kt<|kt<|kt<|kn) fun _=>?_
     refine F<|C rfl<|a7 rfl rfl<|C rfl<|E (kt<|kt<|kt<|kn) ?_
     cases h
     refine ⟨_,rfl,?_⟩
     rw [Ktv rfl (Ktv rfl (Ktv rfl (Knil _)))]
     rw [b4 (a5 (hw0 7)) hi0 (e9 (g0 (g1 (hw0 3)) (i:=1) rfl) rfl)]
     all_goals rfl
   ·intro i0 s0 hi0
    refine D<|D<|F<|C rfl<|K rfl<|J rfl<|U rfl rfl<|V rfl rfl<|E (kt<|kt<|kt<|kt<|kn) fun _=>?_
    refine b7 rfl (b8 hi0)<|b3 (kn) ?_
    exact ⟨rfl,rfl⟩
   ·intro s0 hs
    replace h:=d3 h hs
    intro _
    refine D<|F<|C rfl<|E (kt<|kn) fun _=>?_
    exact L (by cases h;rfl)
   ·intro v0 ze hv hR
    replace h:=d4 h hv
    cases h
    exact hR
theorem ck134:CK f134 (Rq [Af 2 0,Af 3 1,Ad 4 0] [2,3]<|Sq (Rq [Ae 6 2 2,Au 7 127 6,Aa 5 7] [2,3,5]<|Rq [Aa 8 5,Av 9 8 0] [2,3,5,9]<|Co 9 (Rq [Aa 10 5,Aa 4 10] [4]<|.ret)<|Sk [2,3])<|Rq [Ae 11 2 2,Ae 12 3 2,Al 13 178 11 12,Aa 4 13] [4]<|.ret) [.tmp 4]:= by decide +kernel
theorem c134 (g:Graph) (p:Part) (r:Int) (h:ref07_Valid g p=some r):Sound prog 134 [eGraph g,ePart p] (.sh (eI r)):= by
 refine Fn ck134 fun hw=>?_
 unfold ref07_Valid at h
 refine D<|F<|a4 rfl rfl<|a4 rfl rfl<|C rfl<|E (kt<|kt<|kn) fun _=>?_
 refine D<|D<|F<|R rfl rfl (show _=eGraph g from rfl) ?_
 obtain ⟨x7,hx7,h⟩:=I h
 refine T rfl (c127 g _ hx7)<|C rfl<|E (kt<|kt<|kt<|kn) fun _=>?_
 refine D<|F<|C rfl<|a9 rfl rfl<|E (kt<|kt<|kt<|kt<|kn) fun _=>?_
 refine S rfl (fun hc9=>?_) (fun hc9=>?_)
 ·replace h:=M hc9 h
  refine D<|F<|C rfl<|C rfl<|E (kt<|kn) fun _=>?_
  exact L (by cases h;rfl)
 ·replace h:=O hc9 h
  refine P (kt<|kt<|kn) fun _=>?_
  refine D<|F<|R rfl rfl (show _=eGraph g from rfl)<|R rfl rfl (show _=ePart p from rfl) ?_
  obtain ⟨x13,hx13,h⟩:=I h
  refine T rfl (c178 g p _ hx13)<|C rfl<|E (kt<|kn) fun _=>?_
  exact L (by cases h;rfl)
theorem ck179:CK f179 (Rq [Ad 4 0] [0,1]<|Sq (Rq [Ad 5 0] [0,1,5]<|Bl 0<|Lo [0,1,5]<|Sq (Rq [Aa 6 5,Aa 7 0,Ah 8 7,Ap 9 6 8] [0,1,5,9]<|Co 9 (Sk [0,1,5])<|Ex 0 [])<|Sq (Bl 1<|Rq [Aa 12 0,Aa 13 5,Ag 14 12 13 1,Ab 15 14,Aa 16 1,Bt 17 15 16] [0,1,5,17]<|Co 17 (Rq [Aa 18 5,Aa 4 18] [4]<|.ret)<|Sk [0,1,5])<|Re [Aa 10 5,An 11 10 1,Aa 5 11] [0,1,5])<|Rq [Cd 4 (-1)] [4]<|.ret) [.tmp 4]:= by decide +kernel
theorem c179 (l:List Int) (n:Int) (r:Int) (h:ref07_index l n=some r):Sound prog 179 [lI l,eI n] (.sh (eI r)):= by
 refine Fn ck179 fun hw=>?_
 unfold ref07_index at h
 refine D<|F<|C rfl<|E (kt<|kt<|kn) fun _=>?_
 refine D<|D<|F<|C rfl<|E (kt<|kt<|kt<|kn) fun _=>?_
 obtain ⟨o0,ho0,h⟩:=d2 h
 refine d6 ho0 (fun (i0:Int) (_:Unit)=>[(0,.tv (lI l)),(1,.tv (eI n)),(5,.tv (eI i0))]) (fun (_:Unit)=>[]) (fun zv ze=>resIs ([.tmp 4]) (.sh (eI zv)) ze) rfl ?_ ?_ ?_ ?_
 ·clear h ho0
  intro i0 s0 r0 hi0 h hw0
  refine D<|D<|F<|C rfl<|C rfl<|U rfl rfl<|V rfl rfl<|E (kt<|kt<|kt<|kt<|kn) fun _=>?_
  refine b5 rfl (b6 hi0)<|P (kt<|kt<|kt<|kn) fun _=>?_
  refine D<|b0<|D<|F<|C rfl<|C rfl ?_
  obtain ⟨x14,hx14,h⟩:=I h
  refine W rfl rfl rfl hx14 rfl<|J rfl<|C rfl<|d1 rfl rfl<|E (kt<|kt<|kt<|kt<|kn) fun _=>?_
  refine S rfl (fun hc17=>?_) (fun hc17=>?_)
  ·replace h:=M hc17 h
   refine D<|F<|C rfl<|C rfl<|E (kt<|kn) fun _=>?_
   refine L ?_
   cases h
   exact ⟨_,rfl,rfl⟩
  ·replace h:=O hc17 h
   refine P (kt<|kt<|kt<|kn) fun _=>?_
   refine F<|C rfl<|a7 rfl rfl<|C rfl<|E (kt<|kt<|kt<|kn) ?_
   cases h
   refine ⟨_,rfl,?_⟩
   rw [Ktv rfl (Ktv rfl (Ktv rfl (Knil _)))]
   rw [b4 (a5 (hw0 5)) hi0 (e9 (a5 (hw0 0)) rfl)]
   all_goals rfl
 ·intro i0 s0 hi0
  refine D<|D<|F<|C rfl<|C rfl<|U rfl rfl<|V rfl rfl<|E (kt<|kt<|kt<|kt<|kn) fun _=>?_
  refine b7 rfl (b8 hi0)<|b3 (kn) ?_
  exact ⟨rfl,rfl⟩
 ·intro s0 hs
  replace h:=d3 h hs
  intro _
  refine D<|F<|C rfl<|E (kt<|kn) fun _=>?_
  exact L (by cases h;rfl)
 ·intro v0 ze hv hR
  replace h:=d4 h hv
  cases h
  exact hR
theorem ck135:CK f135 (Rq [Af 2 0,Af 3 1,Bd 4 1 3,Bd 5 1 1,Ad 6 0] [2,3,4,5]<|Sq (Rq [Ae 12 2 2,Ae 13 3 2,Al 14 134 12 13,Aa 7 14] [2,3,4,5,7]<|Rq [Aa 15 7,Av 16 15 0] [2,3,4,5,7,16]<|Co 16 (Rq [De 17 1 3,De 18 1 1,Aa 19 7,Aj 2 4 17,Aj 2 5 18,Aa 6 19] [4,5,6]<|.ret)<|Sk [2,3,4,5])<|Rq [Bd 8 1 3] [2,3,4,5,8]<|Sq (Rq [Ad 9 0] [2,3,4,5,8,9]<|Bl 0<|Lo [2,3,4,5,8,9]<|Sq (Rq [Aa 20 9,Ac 21 3 0,Ab 22 21,Ah 23 22,Ap 24 20 23] [2,3,4,5,8,9,24]<|Co 24 (Sk [2,3,4,5,8,9])<|Ex 0 [2,3,4,5,8])<|Sq (Bl 1<|Dr [27,28,29,30,31,32,33,34,35,36,37,38,39,40] [Ac 27 8 0,Bm 28 27,Ac 29 2 0,Ab 30 29,Ac 31 3 0,Ab 32 31,Aa 33 9,Ag 34 32 33 1,Ab 35 34,Ag 36 30 35 1,Ab 37 36,Bh 38 1 37,Bb 39 1 28 38,Ac 40 8 0,Bj 1 40 39] [2,3,4,5,8,9])<|Re [Aa 25 9,An 26 25 1,Aa 9 26] [2,3,4,5,8,9])<|Sq (Rq [Ad 10 0] [2,3,4,5,8,10]<|Bl 2<|Lo [2,3,4,5,8,10]<|Sq (Rq [Aa 41 10,Ac 42 3 1,Ab 43 42,Ah 44 43,Ap 45 41 44] [2,3,4,5,8,10,45]<|Co 45 (Sk [2,3,4,5,8,10])<|Ex 2 [3,4,5,8])<|Sq (Bl 3<|Sq (Dr [11,48,49,50,51,52,53,54,55,56] [Ac 48 2 1,Ab 49 48,Ac 50 3 1,Ab 51 50,Aa 52 10,Ag 53 51 52 1,Ab 54 53,Ag 55 49 54 3,Ae 56 55 3,By 11 0 0 0,Aj 3 11 56] [2,3,4,5,8,10,11])<|Dr [57,58,59,60,61,62,63,64,65,66,67,68,69,70,71,72,73,74] [Ac 57 8 1,Bm 58 57,Ac 59 11 0,Ab 60 59,Ac 61 3 0,Ab 62 61,Ac 63 11 1,Ab 64 63,Al 65 179 62 64,Ac 66 3 0,Ab 67 66,Ac 68 11 2,Ab 69 68,Al 70 179 67 69,Ds 71 0 0 0 0 1 60 1 1 65 2 1 70,Bh 72 3 71,Bb 73 3 58 72,Ac 74 8 1,Bj 1 74 73] [2,3,4,5,8,10])<|Re [Aa 46 10,An 47 46 1,Aa 10 47] [2,3,4,5,8,10])<|Sq (Dr [4,5,6,75,76,77,78,79,80,81,82,83,84] [Ae 75 8 2,Cj 76 1,Ac 77 3 0,Ab 78 77,Bb 79 1 76 78,Cj 80 1,Ac 81 3 1,Ab 82 81,Bb 83 1 80 82,Ck 84 1 1 0 1 79 1 1 83,Aj 2 4 75,Aj 2 5 84,Ad 6 0] [4,5,6])<|.ret) [.cell 4 (some 2),.cell 5 (some 2),.tmp 6]:= by decide +kernel
theorem c135 (g:Graph) (p:Part) (r:(Graph × Morphism × Int)) (h:ref07_Extract g p=some r):Sound prog 135 [eGraph g,ePart p] (.tp [eGraph r.1,eMorphism r.2.1,eI r.2.2]):= by
 refine Fn ck135 fun hw=>?_
 unfold ref07_Extract at h
 refine D<|F<|a4 rfl rfl<|a4 rfl rfl<|b1 rfl<|b1 rfl<|C rfl<|E (kt<|kt<|kb<|kb<|kn) fun _=>?_
 refine D<|D<|F<|R rfl rfl (show _=eGraph g from rfl)<|R rfl rfl (show _=ePart p from rfl) ?_
 obtain ⟨x14,hx14,h⟩:=I h
 refine T rfl (c134 g p _ hx14)<|C rfl<|E (kt<|kt<|kb<|kb<|kt<|kn) fun _=>?_
 refine D<|F<|C rfl<|a9 rfl rfl<|E (kt<|kt<|kb<|kb<|kt<|kt<|kn) fun _=>?_
 refine S rfl (fun hc16=>?_) (fun hc16=>?_)
 ·replace h:=M hc16 h
  refine D<|F<|e8 rfl rfl (show _=eGraph (Graph.mk [] []) from rfl)<|e8 rfl rfl (show _=eMorphism (Morphism.mk [] []) from rfl)<|C rfl<|a8 rfl rfl rfl rfl rfl<|a8 rfl rfl rfl rfl rfl<|C rfl<|E (kb<|kb<|kt<|kn) fun _=>?_
  refine L ?_
  cases h
  exact ⟨by decide,rfl⟩
 ·replace h:=O hc16 h
  refine P (kt<|kt<|kb<|kb<|kn) fun _=>?_
  refine D<|F<|b1 rfl<|E (kt<|kt<|kb<|kb<|kb<|kn) fun _=>?_
  refine D<|D<|F<|C rfl<|E (kt<|kt<|kb<|kb<|kb<|kt<|kn) fun _=>?_
  obtain ⟨s0,hs0,h⟩:=I h
  refine f5 hs0 (fun (i0:Int) (s0:Graph)=>[(2,.tv (.pt (eGraph g).cells)),(3,.tv (.pt (ePart p).cells)),(4,.bx [⟨true,lI []⟩,⟨true,lE []⟩]),(5,.bx [⟨true,lI []⟩,⟨true,lI []⟩]),(8,.bx [⟨true,lI s0.Nodes⟩,⟨true,lE s0.Edges⟩]),(9,.tv (eI i0))]) (fun (s0:Graph)=>[(2,.tv (.pt (eGraph g).cells)),(3,.tv (.pt (ePart p).cells)),(4,.bx [⟨true,lI []⟩,⟨true,lE []⟩]),(5,.bx [⟨true,lI []⟩,⟨true,lI []⟩]),(8,.bx [⟨true,lI s0.Nodes⟩,⟨true,lE s0.Edges⟩])]) rfl ?_ ?_ ?_
  ·clear h hs0
   intro i0 s0 r0 hi0 h hw0
   refine D<|D<|F<|C rfl<|K rfl<|J rfl<|U rfl rfl<|V rfl rfl<|E (kt<|kt<|kb<|kb<|kb<|kt<|kt<|kn) fun _=>?_
   refine b5 rfl (b6 hi0)<|P (kt<|kt<|kb<|kb<|kb<|kt<|kn) fun _=>?_
   refine D<|b0<|b9 rfl<|a3 rfl<|f8 rfl rfl rfl rfl<|K rfl<|J rfl<|K rfl<|J rfl<|C rfl ?_
   obtain ⟨x34,hx34,h⟩:=I h
   refine W rfl rfl rfl hx34 rfl<|J rfl ?_
   obtain ⟨x36,hx36,h⟩:=I h
   refine W rfl rfl rfl hx36 rfl<|J rfl<|e1 (e:=eI) (l:=[x36]) rfl rfl (fun _=>rfl) ?_
   obtain ⟨x39,hx39,h⟩:=I h
   refine e7 rfl rfl rfl rfl hx39 rfl<|a3 rfl<|f7 rfl rfl rfl (by decide) rfl rfl<|E (kt<|kt<|kb<|kb<|kb<|kt<|kn) fun _=>?_
   refine F<|C rfl<|a7 rfl rfl<|C rfl<|E (kt<|kt<|kb<|kb<|kb<|kt<|kn) ?_
   cases h
   show Env.keep _ _=_
   rw [Ktv rfl (Ktv rfl (Kbx rfl (Kbx rfl (Kbx rfl (Ktv rfl (Knil _))))))]
   rw [b4 (a5 (hw0 9)) hi0 (e9 (g0 (g1 (hw0 3)) (i:=0) rfl) rfl)]
   all_goals rfl
  ·intro i0 s0 hi0
   refine D<|D<|F<|C rfl<|K rfl<|J rfl<|U rfl rfl<|V rfl rfl<|E (kt<|kt<|kb<|kb<|kb<|kt<|kt<|kn) fun _=>?_
   refine b7 rfl (b8 hi0)<|b3 (kt<|kt<|kb<|kb<|kb<|kn) ?_
   exact ⟨rfl,rfl⟩
  ·intro _
   refine D<|D<|F<|C rfl<|E (kt<|kt<|kb<|kb<|kb<|kt<|kn) fun _=>?_
   obtain ⟨s2,hs2,h⟩:=I h
   refine f5 hs2 (fun (i2:Int) (s2:Graph)=>[(2,.tv (.pt (eGraph g).cells)),(3,.tv (.pt (ePart p).cells)),(4,.bx [⟨true,lI []⟩,⟨true,lE []⟩]),(5,.bx [⟨true,lI []⟩,⟨true,lI []⟩]),(8,.bx [⟨true,lI s2.Nodes⟩,⟨true,lE s2.Edges⟩]),(10,.tv (eI i2))]) (fun (s2:Graph)=>[(3,.tv (.pt (ePart p).cells)),(4,.bx [⟨true,lI []⟩,⟨true,lE []⟩]),(5,.bx [⟨true,lI []⟩,⟨true,lI []⟩]),(8,.bx [⟨true,lI s2.Nodes⟩,⟨true,lE s2.Edges⟩])]) rfl ?_ ?_ ?_
   ·clear h hs2
    intro i2 s2 r2 hi2 h hw2
    refine D<|D<|F<|C rfl<|K rfl<|J rfl<|U rfl rfl<|V rfl rfl<|E (kt<|kt<|kb<|kb<|kb<|kt<|kt<|kn) fun _=>?_
    refine b5 rfl (b6 hi2)<|P (kt<|kt<|kb<|kb<|kb<|kt<|kn) fun _=>?_
    refine D<|b0<|D<|b9 rfl<|K rfl<|J rfl<|K rfl<|J rfl<|C rfl ?_
    obtain ⟨x53,hx53,h⟩:=I h
    refine W rfl rfl rfl hx53 rfl<|J rfl ?_
    obtain ⟨x55,hx55,h⟩:=I h
    refine W rfl rfl rfl hx55 rfl<|R rfl rfl (show _=eEdge x55 from rfl)<|b1 rfl<|a8 rfl rfl rfl rfl rfl<|E (kt<|kt<|kb<|kb<|kb<|kt<|kb<|kn) fun _=>?_
    refine b9 rfl<|a3 rfl<|f8 rfl rfl rfl rfl<|a3 rfl<|J rfl<|K rfl<|J rfl<|a3 rfl<|J rfl ?_
    obtain ⟨x65,hx65,h⟩:=I h
    refine T rfl (c179 p.Nodes x55.From _ hx65)<|K rfl<|J rfl<|a3 rfl<|J rfl ?_
    obtain ⟨x70,hx70,h⟩:=I h
    refine T rfl (c179 p.Nodes x55.To _ hx70)<|g5 rfl rfl rfl (show _=eEdge (Edge.mk x55.Type' x65 x70) from rfl)<|e1 (e:=eEdge) (l:=[Edge.mk x55.Type' x65 x70]) rfl rfl (fun _=>rfl) ?_
    obtain ⟨x73,hx73,h⟩:=I h
    refine e7 rfl rfl rfl rfl hx73 rfl<|a3 rfl<|f7 rfl rfl rfl (by decide) rfl rfl<|E (kt<|kt<|kb<|kb<|kb<|kt<|kn) fun _=>?_
    refine F<|C rfl<|a7 rfl rfl<|C rfl<|E (kt<|kt<|kb<|kb<|kb<|kt<|kn) ?_
    cases h
    show Env.keep _ _=_
    rw [Ktv rfl (Ktv rfl (Kbx rfl (Kbx rfl (Kbx rfl (Ktv rfl (Knil _))))))]
    rw [b4 (a5 (hw2 10)) hi2 (e9 (g0 (g1 (hw2 3)) (i:=1) rfl) rfl)]
    all_goals rfl
   ·intro i2 s2 hi2
    refine D<|D<|F<|C rfl<|K rfl<|J rfl<|U rfl rfl<|V rfl rfl<|E (kt<|kt<|kb<|kb<|kb<|kt<|kt<|kn) fun _=>?_
    refine b7 rfl (b8 hi2)<|b3 (kt<|kb<|kb<|kb<|kn) ?_
    exact ⟨rfl,rfl⟩
   ·intro _
    refine D<|b9 rfl<|R rfl rfl (show _=eGraph s2 from rfl)<|e1 (e:=eI) (l:=[]) rfl rfl (fun _=>rfl)<|K rfl<|J rfl ?_
    obtain ⟨x79,hx79,h⟩:=I h
    refine e7 rfl rfl rfl rfl hx79 rfl<|e1 (e:=eI) (l:=[]) rfl rfl (fun _=>rfl)<|K rfl<|J rfl ?_
    obtain ⟨x83,hx83,h⟩:=I h
    refine e7 rfl rfl rfl rfl hx83 rfl<|g5 rfl rfl rfl (show _=eMorphism (Morphism.mk x79 x83) from rfl)<|a8 rfl rfl rfl rfl rfl<|a8 rfl rfl rfl rfl rfl<|C rfl<|E (kb<|kb<|kt<|kn) fun _=>?_
    refine L ?_
    cases h
    exact ⟨by decide,rfl⟩
theorem ck136:CK f136 (Rq [Af 3 0,Af 4 1,Af 5 2,Ad 6 0] [3,4,5]<|Sq (Rq [Ae 13 3 2,Au 14 127 13,Aa 7 14] [3,4,5,7]<|Rq [Aa 15 7,Av 16 15 0] [3,4,5,7,16]<|Co 16 (Rq [Aa 17 7,Aa 6 17] [6]<|.ret)<|Sk [3,4,5])<|Sq (Rq [Ae 18 4 2,Au 19 127 18,Aa 8 19] [3,4,5,8]<|Rq [Aa 20 8,Av 21 20 0] [3,4,5,8,21]<|Co 21 (Rq [Aa 22 8,Aa 6 22] [6]<|.ret)<|Sk [3,4,5])<|Sq (Rq [Ac 23 5 0,Ab 24 23,Ah 25 24,Ac 26 3 0,Ab 27 26,Ah 28 27,Bx 29 25 28,Aa 30 29,Ar 31 5 1 30,Ao 32 31 30,Bc 33 32 30,Ar 34 3 1 30,Ao 35 34 30,Bc 36 35 30,Cv 37 33 36 30,As 38 30 37] [3,4,5,38]<|Co 38 (Rq [Ad 6 20] [6]<|.ret)<|Sk [3,4,5])<|Sq (Rq [Ad 9 0] [3,4,5,9]<|Bl 0<|Lo [3,4,5,9]<|Sq (Rq [Aa 39 9,Ac 40 3 0,Ab 41 40,Ah 42 41,Ap 43 39 42] [3,4,5,9,43]<|Co 43 (Sk [3,4,5,9])<|Ex 0 [3,4,5])<|Sq (Bl 1<|Sq (Sq (Dr [46,47,48,49,50,51,52,53,54,55,56,57,58,59,60,61,62] [Ac 46 5 0,Ab 47 46,Aa 48 9,Ag 49 47 48 1,Ab 50 49,Bq 51 50 0,Aa 52 51,Ar 53 5 0 52,Ao 54 53 52,Aw 55 9 52,Cw 56 54 55 1 52,Ao 57 56 52,Ar 58 4 0 52,Ao 59 58 52,Bc 60 59 52,Bp 61 57 60 52,As 62 52 61] [3,4,5,9,62])<|Co 62 (Rq [Ad 6 6] [6]<|.ret)<|Sk [3,4,5,9])<|Sq (Dr [63,64,65,66,67,68,69,70,71,72,73,74,75,76,77] [Ac 63 4 0,Ab 64 63,Ac 65 5 0,Ab 66 65,Aa 67 9,Ag 68 66 67 1,Ab 69 68,Ag 70 64 69 1,Ab 71 70,Ac 72 3 0,Ab 73 72,Aa 74 9,Ag 75 73 74 1,Ab 76 75,Bx 77 71 76] [3,4,5,9,77])<|Co 77 (Rq [Ad 6 13] [6]<|.ret)<|Sk [3,4,5,9])<|Re [Aa 44 9,An 45 44 1,Aa 9 45] [3,4,5,9])<|Sq (Rq [Ad 10 0] [3,4,5,10]<|Bl 2<|Lo [3,4,5,10]<|Sq (Rq [Aa 78 10,Ac 79 3 1,Ab 80 79,Ah 81 80,Ap 82 78 81] [3,4,5,10,82]<|Co 82 (Sk [3,4,5,10])<|Ex 2 [])<|Sq (Bl 3<|Sq (Sq (Dr [85,86,87,88,89,90,91,92,93,94,95,96,97,98,99,100,101] [Ac 85 5 1,Ab 86 85,Aa 87 10,Ag 88 86 87 1,Ab 89 88,Bq 90 89 0,Aa 91 90,Ar 92 5 1 91,Ao 93 92 91,Aw 94 10 91,Cw 95 93 94 1 91,Ao 96 95 91,Ar 97 4 1 91,Ao 98 97 91,Bc 99 98 91,Bp 100 96 99 91,As 101 91 100] [3,4,5,10,101])<|Co 101 (Rq [Ad 6 6] [6]<|.ret)<|Sk [3,4,5,10])<|Sq (Dr [11,12,102,103,104,105,106,107,108,109,110,111,112,113,114,115] [Ac 102 3 1,Ab 103 102,Aa 104 10,Ag 105 103 104 3,Ae 106 105 3,Ac 107 4 1,Ab 108 107,Ac 109 5 1,Ab 110 109,Aa 111 10,Ag 112 110 111 1,Ab 113 112,Ag 114 108 113 3,Ae 115 114 3,By 11 0 0 0,By 12 0 0 0,Aj 3 11 106,Aj 3 12 115] [3,4,5,10,11,12])<|Sq (Rq [Ac 116 11 0,Ab 117 116,Ac 118 12 0,Ab 119 118,Bx 120 117 119] [3,4,5,10,11,12,120]<|Co 120 (Rq [Ad 6 13] [6]<|.ret)<|Sk [3,4,5,10,11,12])<|Sq (Dr [121,122,123,124,125,126,127,128,129,130,131,132,133,134,135,136,137,138,139,140] [Ac 121 5 0,Ab 122 121,Ac 123 11 1,Ab 124 123,Ag 125 122 124 1,Ab 126 125,Ac 127 12 1,Ab 128 127,Bx 129 126 128,Aa 130 129,Ar 131 5 0 130,Ao 132 131 130,Ar 133 11 2 130,Ao 134 133 130,Cw 135 132 134 1 130,Ao 136 135 130,Ar 137 12 2 130,Ao 138 137 130,Cv 139 136 138 130,As 140 130 139] [3,4,5,10,140])<|Co 140 (Rq [Ad 6 11] [6]<|.ret)<|Sk [3,4,5,10])<|Re [Aa 83 10,An 84 83 1,Aa 10 84] [3,4,5,10])<|Rq [Ad 6 0] [6]<|.ret) [.tmp 6]:= by decide +kernel
theorem c136 (a:Graph) (b:Graph) (m:Morphism) (r:Int) (h:ref06_Valid a b m=some r):Sound prog 136 [eGraph a,eGraph b,eMorphism m] (.sh (eI r)):= by
 refine Fn ck136 fun hw=>?_
 unfold ref06_Valid at h
 refine D<|F<|a4 rfl rfl<|a4 rfl rfl<|a4 rfl rfl<|C rfl<|E (kt<|kt<|kt<|kn) fun _=>?_
 refine D<|D<|F<|R rfl rfl (show _=eGraph a from rfl) ?_
 obtain ⟨x14,hx14,h⟩:=I h
 refine T rfl (c127 a _ hx14)<|C rfl<|E (kt<|kt<|kt<|kt<|kn) fun _=>?_
 refine D<|F<|C rfl<|a9 rfl rfl<|E (kt<|kt<|kt<|kt<|kt<|kn) fun _=>?_
 refine S rfl (fun hc16=>?_) (fun hc16=>?_)
 ·replace h:=M hc16 h
  refine D<|F<|C rfl<|C rfl<|E (kt<|kn) fun _=>?_
  exact L (by cases h;rfl)
 ·replace h:=O hc16 h
  refine P (kt<|kt<|kt<|kn) fun _=>?_
  refine D<|D<|F<|R rfl rfl (show _=eGraph b from rfl) ?_
  obtain ⟨x19,hx19,h⟩:=I h
  refine T rfl (c127 b _ hx19)<|C rfl<|E (kt<|kt<|kt<|kt<|kn) fun _=>?_
  refine D<|F<|C rfl<|a9 rfl rfl<|E (kt<|kt<|kt<|kt<|kt<|kn) fun _=>?_
  refine S rfl (fun hc21=>?_) (fun hc21=>?_)
  ·replace h:=M hc21 h
   refine D<|F<|C rfl<|C rfl<|E (kt<|kn) fun _=>?_
   exact L (by cases h;rfl)
  ·replace h:=O hc21 h
   refine P (kt<|kt<|kt<|kn) fun _=>?_
   refine D<|D<|F<|K rfl<|J rfl<|U rfl rfl<|K rfl<|J rfl<|U rfl rfl<|a9 rfl rfl<|C rfl ?_
   refine gO 8 [31,32,33,34,35,36,37] 38 (!decide ((m.Nodes.length:Int)=(a.Nodes.length:Int))) (!decide ((m.Edges.length:Int)=(a.Edges.length:Int))) (fun hg38=>?_) (fun hg38=>?_) ?_
   ·refine H rfl hg38<|H rfl hg38<|H rfl hg38<|H rfl hg38<|H rfl hg38<|H rfl hg38<|H rfl hg38<|Y rfl hg38 rfl ?_
    exact ⟨⟨_,_,_,_,_,_,_,rfl⟩⟩
   ·refine G rfl hg38<|K rfl<|G rfl hg38<|J rfl<|G rfl hg38<|U rfl rfl<|G rfl hg38<|K rfl<|G rfl hg38<|J rfl<|G rfl hg38<|U rfl rfl<|G rfl hg38<|a9 rfl rfl<|Z rfl hg38 rfl ?_
    exact ⟨⟨_,_,_,_,_,_,_,rfl⟩⟩
   rintro _ ⟨_,_,_,_,_,_,_,rfl⟩
   refine E (kt<|kt<|kt<|kt<|kn) fun _=>?_
   refine S rfl (fun hc38=>?_) (fun hc38=>?_)
   ·replace h:=M hc38 h
    refine D<|F<|C rfl<|E (kt<|kn) fun _=>?_
    exact L (by cases h;rfl)
   ·replace h:=O hc38 h
    refine P (kt<|kt<|kt<|kn) fun _=>?_
    refine D<|D<|F<|C rfl<|E (kt<|kt<|kt<|kt<|kn) fun _=>?_
    obtain ⟨o0,ho0,h⟩:=d2 h
    refine d6 ho0 (fun (i0:Int) (_:Unit)=>[(3,.tv (.pt (eGraph a).cells)),(4,.tv (.pt (eGraph b).cells)),(5,.tv (.pt (eMorphism m).cells)),(9,.tv (eI i0))]) (fun (_:Unit)=>[(3,.tv (.pt (eGraph a).cells)),(4,.tv (.pt (eGraph b).cells)),(5,.tv (.pt (eMorphism m).cells))]) (fun zv ze=>resIs ([.tmp 6]) (.sh (eI zv)) ze) rfl ?_ ?_ ?_ ?_
    ·clear h ho0
     intro i0 s0 r0 hi0 h hw0
     refine D<|D<|F<|C rfl<|K rfl<|J rfl<|U rfl rfl<|V rfl rfl<|E (kt<|kt<|kt<|kt<|kt<|kn) fun _=>?_
     refine b5 rfl (b6 hi0)<|P (kt<|kt<|kt<|kt<|kn) fun _=>?_
     refine D<|b0<|D<|D<|b9 rfl<|K rfl<|J rfl<|C rfl ?_
     obtain ⟨x49,hx49,h⟩:=I h
     refine W rfl rfl rfl hx49 rfl<|J rfl<|V rfl rfl<|C rfl ?_
     obtain ⟨x62,hx62,h⟩:=I h
     refine gX 10 [53,54,55,56,57,58,59,60,61] 62 x62 (decide (x49<0)) (fun hg62=>?_) (fun hg62=>?_) ?_
     ·replace h:=M hg62 hx62
      cases h
      refine H rfl hg62<|H rfl hg62<|H rfl hg62<|H rfl hg62<|H rfl hg62<|H rfl hg62<|H rfl hg62<|H rfl hg62<|H rfl hg62<|Y rfl hg62 rfl ?_
      exact ⟨⟨_,_,_,_,_,_,_,_,_,rfl⟩⟩
     ·replace h:=O hg62 hx62
      refine G rfl hg62<|K rfl<|G rfl hg62<|J rfl<|G rfl hg62<|C rfl ?_
      obtain ⟨x56,hx56,h⟩:=I h
      refine G rfl hg62<|W rfl rfl rfl hx56 rfl<|G rfl hg62<|J rfl<|G rfl hg62<|K rfl<|G rfl hg62<|J rfl<|G rfl hg62<|U rfl rfl<|G rfl hg62<|d5 rfl rfl ?_
      cases h
      refine Z rfl hg62 rfl ?_
      exact ⟨⟨_,_,_,_,_,_,_,_,_,rfl⟩⟩
     rintro _ ⟨_,_,_,_,_,_,_,_,_,rfl⟩
     refine E (kt<|kt<|kt<|kt<|kt<|kn) fun _=>?_
     refine S rfl (fun hc62=>?_) (fun hc62=>?_)
     ·replace h:=M hc62 h
      refine D<|F<|C rfl<|E (kt<|kn) fun _=>?_
      refine L ?_
      cases h
      exact ⟨_,rfl,rfl⟩
     ·replace h:=O hc62 h
      refine P (kt<|kt<|kt<|kt<|kn) fun _=>?_
      refine D<|b9 rfl<|K rfl<|J rfl<|K rfl<|J rfl<|C rfl ?_
      obtain ⟨x68,hx68,h⟩:=I h
      refine W rfl rfl rfl hx68 rfl<|J rfl ?_
      obtain ⟨x70,hx70,h⟩:=I h
      refine W rfl rfl rfl hx70 rfl<|J rfl<|K rfl<|J rfl<|C rfl ?_
      obtain ⟨x75,hx75,h⟩:=I h
      refine W rfl rfl rfl hx75 rfl<|J rfl<|a9 rfl rfl<|E (kt<|kt<|kt<|kt<|kt<|kn) fun _=>?_
      refine S rfl (fun hc77=>?_) (fun hc77=>?_)
      ·replace h:=M hc77 h
       refine D<|F<|C rfl<|E (kt<|kn) fun _=>?_
       refine L ?_
       cases h
       exact ⟨_,rfl,rfl⟩
      ·replace h:=O hc77 h
       refine P (kt<|kt<|kt<|kt<|kn) fun _=>?_
       refine F<|C rfl<|a7 rfl rfl<|C rfl<|E (kt<|kt<|kt<|kt<|kn) ?_
       cases h
       refine ⟨_,rfl,?_⟩
       rw [Ktv rfl (Ktv rfl (Ktv rfl (Ktv rfl (Knil _))))]
       rw [b4 (a5 (hw0 9)) hi0 (e9 (g0 (g1 (hw0 3)) (i:=0) rfl) rfl)]
       all_goals rfl
    ·intro i0 s0 hi0
     refine D<|D<|F<|C rfl<|K rfl<|J rfl<|U rfl rfl<|V rfl rfl<|E (kt<|kt<|kt<|kt<|kt<|kn) fun _=>?_
     refine b7 rfl (b8 hi0)<|b3 (kt<|kt<|kt<|kn) ?_
     exact ⟨rfl,rfl⟩
    ·intro s0 hs
     replace h:=d3 h hs
     intro _
     refine D<|D<|F<|C rfl<|E (kt<|kt<|kt<|kt<|kn) fun _=>?_
     obtain ⟨o2,ho2,h⟩:=d2 h
     refine d6 ho2 (fun (i2:Int) (_:Unit)=>[(3,.tv (.pt (eGraph a).cells)),(4,.tv (.pt (eGraph b).cells)),(5,.tv (.pt (eMorphism m).cells)),(10,.tv (eI i2))]) (fun (_:Unit)=>[]) (fun zv ze=>resIs ([.tmp 6]) (.sh (eI zv)) ze) rfl ?_ ?_ ?_ ?_
     ·clear h ho2
      intro i2 s2 r2 hi2 h hw2
      refine D<|D<|F<|C rfl<|K rfl<|J rfl<|U rfl rfl<|V rfl rfl<|E (kt<|kt<|kt<|kt<|kt<|kn) fun _=>?_
      refine b5 rfl (b6 hi2)<|P (kt<|kt<|kt<|kt<|kn) fun _=>?_
      refine D<|b0<|D<|D<|b9 rfl<|K rfl<|J rfl<|C rfl ?_
      obtain ⟨x88,hx88,h⟩:=I h
      refine W rfl rfl rfl hx88 rfl<|J rfl<|V rfl rfl<|C rfl ?_
      obtain ⟨x101,hx101,h⟩:=I h
      refine gX 10 [92,93,94,95,96,97,98,99,100] 101 x101 (decide (x88<0)) (fun hg101=>?_) (fun hg101=>?_) ?_
      ·replace h:=M hg101 hx101
       cases h
       refine H rfl hg101<|H rfl hg101<|H rfl hg101<|H rfl hg101<|H rfl hg101<|H rfl hg101<|H rfl hg101<|H rfl hg101<|H rfl hg101<|Y rfl hg101 rfl ?_
       exact ⟨⟨_,_,_,_,_,_,_,_,_,rfl⟩⟩
      ·replace h:=O hg101 hx101
       refine G rfl hg101<|K rfl<|G rfl hg101<|J rfl<|G rfl hg101<|C rfl ?_
       obtain ⟨x95,hx95,h⟩:=I h
       refine G rfl hg101<|W rfl rfl rfl hx95 rfl<|G rfl hg101<|J rfl<|G rfl hg101<|K rfl<|G rfl hg101<|J rfl<|G rfl hg101<|U rfl rfl<|G rfl hg101<|d5 rfl rfl ?_
       cases h
       refine Z rfl hg101 rfl ?_
       exact ⟨⟨_,_,_,_,_,_,_,_,_,rfl⟩⟩
      rintro _ ⟨_,_,_,_,_,_,_,_,_,rfl⟩
      refine E (kt<|kt<|kt<|kt<|kt<|kn) fun _=>?_
      refine S rfl (fun hc101=>?_) (fun hc101=>?_)
      ·replace h:=M hc101 h
       refine D<|F<|C rfl<|E (kt<|kn) fun _=>?_
       refine L ?_
       cases h
       exact ⟨_,rfl,rfl⟩
      ·replace h:=O hc101 h
       refine P (kt<|kt<|kt<|kt<|kn) fun _=>?_
       refine D<|b9 rfl<|K rfl<|J rfl<|C rfl ?_
       obtain ⟨x105,hx105,h⟩:=I h
       refine W rfl rfl rfl hx105 rfl<|R rfl rfl (show _=eEdge x105 from rfl)<|K rfl<|J rfl<|K rfl<|J rfl<|C rfl ?_
       obtain ⟨x112,hx112,h⟩:=I h
       refine W rfl rfl rfl hx112 rfl<|J rfl ?_
       obtain ⟨x114,hx114,h⟩:=I h
       refine W rfl rfl rfl hx114 rfl<|R rfl rfl (show _=eEdge x114 from rfl)<|b1 rfl<|b1 rfl<|a8 rfl rfl rfl rfl rfl<|a8 rfl rfl rfl rfl rfl<|E (kt<|kt<|kt<|kt<|kb<|kb<|kn) fun _=>?_
       refine D<|D<|F<|a3 rfl<|J rfl<|a3 rfl<|J rfl<|a9 rfl rfl<|E (kt<|kt<|kt<|kt<|kb<|kb<|kt<|kn) fun _=>?_
       refine S rfl (fun hc120=>?_) (fun hc120=>?_)
       ·replace h:=M hc120 h
        refine D<|F<|C rfl<|E (kt<|kn) fun _=>?_
        refine L ?_
        cases h
        exact ⟨_,rfl,rfl⟩
       ·replace h:=O hc120 h
        refine P (kt<|kt<|kt<|kt<|kb<|kb<|kn) fun _=>?_
        refine D<|b9 rfl<|K rfl<|J rfl<|a3 rfl<|J rfl ?_
        obtain ⟨x125,hx125,h⟩:=I h
        refine W rfl rfl rfl hx125 rfl<|J rfl<|a3 rfl<|J rfl<|a9 rfl rfl<|C rfl ?_
        obtain ⟨x140,hx140,h⟩:=I h
        refine gX 10 [131,132,133,134,135,136,137,138,139] 140 x140 (!decide (x125=x114.From)) (fun hg140=>?_) (fun hg140=>?_) ?_
        ·replace h:=M hg140 hx140
         cases h
         refine H rfl hg140<|H rfl hg140<|H rfl hg140<|H rfl hg140<|H rfl hg140<|H rfl hg140<|H rfl hg140<|H rfl hg140<|H rfl hg140<|Y rfl hg140 rfl ?_
         exact ⟨⟨_,_,_,_,_,_,_,_,_,rfl⟩⟩
        ·replace h:=O hg140 hx140
         refine G rfl hg140<|K rfl<|G rfl hg140<|J rfl<|G rfl hg140<|a3 rfl<|G rfl hg140<|J rfl ?_
         obtain ⟨x135,hx135,h⟩:=I h
         refine G rfl hg140<|W rfl rfl rfl hx135 rfl<|G rfl hg140<|J rfl<|G rfl hg140<|a3 rfl<|G rfl hg140<|J rfl<|G rfl hg140<|a9 rfl rfl ?_
         cases h
         refine Z rfl hg140 rfl ?_
         exact ⟨⟨_,_,_,_,_,_,_,_,_,rfl⟩⟩
        rintro _ ⟨_,_,_,_,_,_,_,_,_,rfl⟩
        refine E (kt<|kt<|kt<|kt<|kt<|kn) fun _=>?_
        refine S rfl (fun hc140=>?_) (fun hc140=>?_)
        ·replace h:=M hc140 h
         refine D<|F<|C rfl<|E (kt<|kn) fun _=>?_
         refine L ?_
         cases h
         exact ⟨_,rfl,rfl⟩
        ·replace h:=O hc140 h
         refine P (kt<|kt<|kt<|kt<|kn) fun _=>?_
         refine F<|C rfl<|a7 rfl rfl<|C rfl<|E (kt<|kt<|kt<|kt<|kn) ?_
         cases h
         refine ⟨_,rfl,?_⟩
         rw [Ktv rfl (Ktv rfl (Ktv rfl (Ktv rfl (Knil _))))]
         rw [b4 (a5 (hw2 10)) hi2 (e9 (g0 (g1 (hw2 3)) (i:=1) rfl) rfl)]
         all_goals rfl
     ·intro i2 s2 hi2
      refine D<|D<|F<|C rfl<|K rfl<|J rfl<|U rfl rfl<|V rfl rfl<|E (kt<|kt<|kt<|kt<|kt<|kn) fun _=>?_
      refine b7 rfl (b8 hi2)<|b3 (kn) ?_
      exact ⟨rfl,rfl⟩
     ·intro s2 hs
      replace h:=d3 h hs
      intro _
      refine D<|F<|C rfl<|E (kt<|kn) fun _=>?_
      exact L (by cases h;rfl)
     ·intro v2 ze hv hR
      replace h:=d4 h hv
      cases h
      exact hR
    ·intro v0 ze hv hR
     replace h:=d4 h hv
     cases h
     exact hR
theorem ck78:CK f78 (Rq [Af 1 0,Ad 2 0] [1]<|Sq (Rq [Ac 7 1 1,Ai 8 7 0,Ae 9 8 2,Ac 10 1 11,Ae 11 10 2,Al 12 134 9 11,Aa 3 12] [1,3]<|Rq [Aa 13 3,Av 14 13 0] [1,3,14]<|Co 14 (Rq [Aa 15 3,Aa 2 15] [2]<|.ret)<|Sk [1])<|Rq [Ac 17 1 1,Ai 18 17 0,Ae 19 18 2,Ac 20 1 11,Ae 21 20 2,Al 22 135 19 21,Aa 16 22,Am 23 16 0,Am 24 16 1,Am 25 16 2,Bd 4 1 3,Bd 5 1 1,Aj 2 4 23,Aj 2 5 24,Aa 6 25] [1,4]<|Rq [Ae 26 4 2,Ac 27 1 6,Ai 28 27 0,Ae 29 28 2,Ac 30 1 13,Ae 31 30 2,Bg 32 136 26 29 31,Aa 2 32] [2]<|.ret) [.tmp 2]:= by decide +kernel
theorem c78 (r_0:Rule) (r:Int) (h:ref24_span r_0=some r):Sound prog 78 [eRule r_0] (.sh (eI r)):= by
 refine Fn ck78 fun hw=>?_
 unfold ref24_span at h
 refine D<|F<|a4 rfl rfl<|C rfl<|E (kt<|kn) fun _=>?_
 refine D<|D<|F<|K rfl<|a6 rfl<|R rfl rfl (show _=eGraph r_0.Left.Graph from rfl)<|K rfl<|R rfl rfl (show _=ePart r_0.Keep from rfl) ?_
 obtain ⟨x12,hx12,h⟩:=I h
 refine T rfl (c134 r_0.Left.Graph r_0.Keep _ hx12)<|C rfl<|E (kt<|kt<|kn) fun _=>?_
 refine D<|F<|C rfl<|a9 rfl rfl<|E (kt<|kt<|kt<|kn) fun _=>?_
 refine S rfl (fun hc14=>?_) (fun hc14=>?_)
 ·replace h:=M hc14 h
  refine D<|F<|C rfl<|C rfl<|E (kt<|kn) fun _=>?_
  exact L (by cases h;rfl)
 ·replace h:=O hc14 h
  refine P (kt<|kn) fun _=>?_
  refine D<|F<|K rfl<|a6 rfl<|R rfl rfl (show _=eGraph r_0.Left.Graph from rfl)<|K rfl<|R rfl rfl (show _=ePart r_0.Keep from rfl) ?_
  obtain ⟨x22,hx22,h⟩:=I h
  refine e5 rfl (c135 r_0.Left.Graph r_0.Keep _ hx22)<|e6 rfl<|b2 rfl rfl<|b2 rfl rfl<|b2 rfl rfl<|b1 rfl<|b1 rfl<|a8 rfl rfl rfl rfl rfl<|a8 rfl rfl rfl rfl rfl<|C rfl<|E (kt<|kb<|kn) fun _=>?_
  refine D<|F<|R rfl rfl (show _=eGraph x22.1 from rfl)<|K rfl<|a6 rfl<|R rfl rfl (show _=eGraph r_0.Right.Graph from rfl)<|K rfl<|R rfl rfl (show _=eMorphism r_0.Into from rfl) ?_
  obtain ⟨x32,hx32,h⟩:=I h
  refine T rfl (c136 x22.1 r_0.Right.Graph r_0.Into _ hx32)<|C rfl<|E (kt<|kn) fun _=>?_
  exact L (by cases h;rfl)
theorem ck79:CK f79 (Rq [Ak 2] [0]<|Sq (Rq [Ad 3 0] [0,3]<|Bl 0<|Lo [0,3]<|Sq (Rq [Aa 5 3,Aa 6 0,Ah 7 6,Ap 8 5 7] [0,3,8]<|Co 8 (Sk [0,3])<|Ex 0 [])<|Sq (Bl 1<|Rq [Ad 4 0] [0,3,4]<|Bl 2<|Lo [0,3,4]<|Sq (Rq [Aa 11 4,Aa 12 3,Ap 13 11 12] [0,3,4,13]<|Co 13 (Sk [0,3,4])<|Ex 2 [0,3])<|Sq (Bl 3<|Sq (Dr [16,17,18,19,20,21,22,23,24] [Aa 16 0,Aa 17 3,Ag 18 16 17 1,Ab 19 18,Aa 20 0,Aa 21 4,Ag 22 20 21 1,Ab 23 22,Bt 24 19 23] [0,3,4,24])<|Co 24 (Rq [Ak 2] [2]<|.ret)<|Sk [0,3,4])<|Re [Aa 14 4,An 15 14 1,Aa 4 15] [0,3,4])<|Re [Aa 9 3,An 10 9 1,Aa 3 10] [0,3])<|Rq [Cg 2] [2]<|.ret) [.tmp 2]:= by decide +kernel
theorem c79 (l:List Int) (r:Bool) (h:ref06_Distinct l=some r):Sound prog 79 [lI l] (.sh (eB r)):= by
 refine Fn ck79 fun hw=>?_
 unfold ref06_Distinct at h
 refine D<|F<|C rfl<|E (kt<|kn) fun _=>?_
 refine D<|D<|F<|C rfl<|E (kt<|kt<|kn) fun _=>?_
 obtain ⟨o0,ho0,h⟩:=d2 h
 refine d6 ho0 (fun (i0:Int) (_:Unit)=>[(0,.tv (lI l)),(3,.tv (eI i0))]) (fun (_:Unit)=>[]) (fun zv ze=>resIs ([.tmp 2]) (.sh (eB zv)) ze) rfl ?_ ?_ ?_ ?_
 ·clear h ho0
  intro i0 s0 r0 hi0 h hw0
  refine D<|D<|F<|C rfl<|C rfl<|U rfl rfl<|V rfl rfl<|E (kt<|kt<|kt<|kn) fun _=>?_
  refine b5 rfl (b6 hi0)<|P (kt<|kt<|kn) fun _=>?_
  refine D<|b0<|D<|F<|C rfl<|E (kt<|kt<|kt<|kn) fun _=>?_
  obtain ⟨o2,ho2,h⟩:=d2 h
  refine d6 ho2 (fun (i2:Int) (_:Unit)=>[(0,.tv (lI l)),(3,.tv (eI i0)),(4,.tv (eI i2))]) (fun (_:Unit)=>[(0,.tv (lI l)),(3,.tv (eI i0))]) (fun zv ze=>resIs ([.tmp 2]) (.sh (eB zv)) ze) rfl ?_ ?_ ?_ ?_
  ·clear h ho2
   intro i2 s2 r2 hi2 h hw2
   refine D<|D<|F<|C rfl<|C rfl<|V rfl rfl<|E (kt<|kt<|kt<|kt<|kn) fun _=>?_
   refine b5 rfl (b6 hi2)<|P (kt<|kt<|kt<|kn) fun _=>?_
   refine D<|b0<|D<|b9 rfl<|C rfl<|C rfl ?_
   obtain ⟨x18,hx18,h⟩:=I h
   refine W rfl rfl rfl hx18 rfl<|J rfl<|C rfl<|C rfl ?_
   obtain ⟨x22,hx22,h⟩:=I h
   refine W rfl rfl rfl hx22 rfl<|J rfl<|d1 rfl rfl<|E (kt<|kt<|kt<|kt<|kn) fun _=>?_
   refine S rfl (fun hc24=>?_) (fun hc24=>?_)
   ·replace h:=M hc24 h
    refine D<|F<|C rfl<|E (kt<|kn) fun _=>?_
    refine L ?_
    cases h
    exact ⟨_,rfl,rfl⟩
   ·replace h:=O hc24 h
    refine P (kt<|kt<|kt<|kn) fun _=>?_
    refine F<|C rfl<|a7 rfl rfl<|C rfl<|E (kt<|kt<|kt<|kn) ?_
    cases h
    refine ⟨_,rfl,?_⟩
    rw [Ktv rfl (Ktv rfl (Ktv rfl (Knil _)))]
    rw [b4 (a5 (hw2 4)) hi2 (e0 (a5 (hw2 3)))]
    all_goals rfl
  ·intro i2 s2 hi2
   refine D<|D<|F<|C rfl<|C rfl<|V rfl rfl<|E (kt<|kt<|kt<|kt<|kn) fun _=>?_
   refine b7 rfl (b8 hi2)<|b3 (kt<|kt<|kn) ?_
   exact ⟨rfl,rfl⟩
  ·intro s2 hs
   replace h:=d3 h hs
   intro _
   refine F<|C rfl<|a7 rfl rfl<|C rfl<|E (kt<|kt<|kn) ?_
   cases h
   refine ⟨_,rfl,?_⟩
   rw [Ktv rfl (Ktv rfl (Knil _))]
   rw [b4 (a5 (hw0 3)) hi0 (e9 (a5 (hw0 0)) rfl)]
   all_goals rfl
  ·intro v2 ze hv hR
   replace h:=d4 h hv
   cases h
   exact ⟨_,rfl,hR⟩
 ·intro i0 s0 hi0
  refine D<|D<|F<|C rfl<|C rfl<|U rfl rfl<|V rfl rfl<|E (kt<|kt<|kt<|kn) fun _=>?_
  refine b7 rfl (b8 hi0)<|b3 (kn) ?_
  exact ⟨rfl,rfl⟩
 ·intro s0 hs
  replace h:=d3 h hs
  intro _
  refine D<|F<|C rfl<|E (kt<|kn) fun _=>?_
  exact L (by cases h;rfl)
 ·intro v0 ze hv hR
  replace h:=d4 h hv
  cases h
  exact hR
theorem ck80:CK f80 (Rq [Af 4 0,Af 5 1,Ak 8] [2,3,4,5]<|Sq (Rq [Ad 9 0] [2,3,4,5,9]<|Bl 0<|Lo [2,3,4,5,9]<|Sq (Rq [Aa 12 9,Aa 13 2,Ah 14 13,Ap 15 12 14] [2,3,4,5,9,15]<|Co 15 (Sk [2,3,4,5,9])<|Ex 0 [3,4,5])<|Sq (Bl 1<|Sq (Dr [18,19,20,21,22,23,24,25,26,27,28,29,30] [Ac 18 4 0,Ab 19 18,Ac 20 5 0,Ab 21 20,Aa 22 2,Aa 23 9,Ag 24 22 23 1,Ab 25 24,Ag 26 21 25 1,Ab 27 26,Ag 28 19 27 4,Ai 29 28 2,Ab 30 29] [2,3,4,5,9,30])<|Co 30 (Rq [Ak 8] [8]<|.ret)<|Sk [2,3,4,5,9])<|Re [Aa 16 9,An 17 16 1,Aa 9 17] [2,3,4,5,9])<|Sq (Rq [Ad 10 0] [3,4,5,10]<|Bl 2<|Lo [3,4,5,10]<|Sq (Rq [Aa 31 10,Aa 32 3,Ah 33 32,Ap 34 31 33] [3,4,5,10,34]<|Co 34 (Sk [3,4,5,10])<|Ex 2 [])<|Sq (Bl 3<|Sq (Dr [11,37,38,39,40,41,42,43,44] [Ac 37 5 1,Ab 38 37,Aa 39 3,Aa 40 10,Ag 41 39 40 1,Ab 42 41,Ag 43 38 42 3,Ae 44 43 3,By 11 0 0 0,Aj 3 11 44] [3,4,5,10,11])<|Sq (Dr [45,46,47,48,49,50,51,52,53,54,55,56,57,58,59,60,61] [Ae 45 4 2,Ac 46 11 0,Ab 47 46,Ac 48 5 0,Ab 49 48,Ac 50 11 1,Ab 51 50,Ag 52 49 51 1,Ab 53 52,Ac 54 5 0,Ab 55 54,Ac 56 11 2,Ab 57 56,Ag 58 55 57 1,Ab 59 58,Bz 60 68 45 47 53 59,Az 61 60] [3,4,5,10,61])<|Co 61 (Rq [Ak 8] [8]<|.ret)<|Sk [3,4,5,10])<|Re [Aa 35 10,An 36 35 1,Aa 10 36] [3,4,5,10])<|Rq [Cg 8] [8]<|.ret) [.tmp 8]:= by decide +kernel
theorem c80 (t:Types) (g:Graph) (nodes:List Int) (edges:List Int) (r:Bool) (h:ref24_proper t g nodes edges=some r):Sound prog 80 [eTypes t,eGraph g,lI nodes,lI edges] (.sh (eB r)):= by
 refine Fn ck80 fun hw=>?_
 unfold ref24_proper at h
 refine D<|F<|a4 rfl rfl<|a4 rfl rfl<|C rfl<|E (kt<|kt<|kt<|kt<|kn) fun _=>?_
 refine D<|D<|F<|C rfl<|E (kt<|kt<|kt<|kt<|kt<|kn) fun _=>?_
 obtain ⟨o0,ho0,h⟩:=d2 h
 refine d6 ho0 (fun (i0:Int) (_:Unit)=>[(2,.tv (lI nodes)),(3,.tv (lI edges)),(4,.tv (.pt (eTypes t).cells)),(5,.tv (.pt (eGraph g).cells)),(9,.tv (eI i0))]) (fun (_:Unit)=>[(3,.tv (lI edges)),(4,.tv (.pt (eTypes t).cells)),(5,.tv (.pt (eGraph g).cells))]) (fun zv ze=>resIs ([.tmp 8]) (.sh (eB zv)) ze) rfl ?_ ?_ ?_ ?_
 ·clear h ho0
  intro i0 s0 r0 hi0 h hw0
  refine D<|D<|F<|C rfl<|C rfl<|U rfl rfl<|V rfl rfl<|E (kt<|kt<|kt<|kt<|kt<|kt<|kn) fun _=>?_
  refine b5 rfl (b6 hi0)<|P (kt<|kt<|kt<|kt<|kt<|kn) fun _=>?_
  refine D<|b0<|D<|b9 rfl<|K rfl<|J rfl<|K rfl<|J rfl<|C rfl<|C rfl ?_
  obtain ⟨x24,hx24,h⟩:=I h
  refine W rfl rfl rfl hx24 rfl<|J rfl ?_
  obtain ⟨x26,hx26,h⟩:=I h
  refine W rfl rfl rfl hx26 rfl<|J rfl ?_
  obtain ⟨x28,hx28,h⟩:=I h
  refine W rfl rfl rfl hx28 rfl<|a6 rfl<|J rfl<|E (kt<|kt<|kt<|kt<|kt<|kt<|kn) fun _=>?_
  refine S rfl (fun hc30=>?_) (fun hc30=>?_)
  ·replace h:=M hc30 h
   refine D<|F<|C rfl<|E (kt<|kn) fun _=>?_
   refine L ?_
   cases h
   exact ⟨_,rfl,rfl⟩
  ·replace h:=O hc30 h
   refine P (kt<|kt<|kt<|kt<|kt<|kn) fun _=>?_
   refine F<|C rfl<|a7 rfl rfl<|C rfl<|E (kt<|kt<|kt<|kt<|kt<|kn) ?_
   cases h
   refine ⟨_,rfl,?_⟩
   rw [Ktv rfl (Ktv rfl (Ktv rfl (Ktv rfl (Ktv rfl (Knil _)))))]
   rw [b4 (a5 (hw0 9)) hi0 (e9 (a5 (hw0 2)) rfl)]
   all_goals rfl
 ·intro i0 s0 hi0
  refine D<|D<|F<|C rfl<|C rfl<|U rfl rfl<|V rfl rfl<|E (kt<|kt<|kt<|kt<|kt<|kt<|kn) fun _=>?_
  refine b7 rfl (b8 hi0)<|b3 (kt<|kt<|kt<|kn) ?_
  exact ⟨rfl,rfl⟩
 ·intro s0 hs
  replace h:=d3 h hs
  intro _
  refine D<|D<|F<|C rfl<|E (kt<|kt<|kt<|kt<|kn) fun _=>?_
  obtain ⟨o2,ho2,h⟩:=d2 h
  refine d6 ho2 (fun (i2:Int) (_:Unit)=>[(3,.tv (lI edges)),(4,.tv (.pt (eTypes t).cells)),(5,.tv (.pt (eGraph g).cells)),(10,.tv (eI i2))]) (fun (_:Unit)=>[]) (fun zv ze=>resIs ([.tmp 8]) (.sh (eB zv)) ze) rfl ?_ ?_ ?_ ?_
  ·clear h ho2
   intro i2 s2 r2 hi2 h hw2
   refine D<|D<|F<|C rfl<|C rfl<|U rfl rfl<|V rfl rfl<|E (kt<|kt<|kt<|kt<|kt<|kn) fun _=>?_
   refine b5 rfl (b6 hi2)<|P (kt<|kt<|kt<|kt<|kn) fun _=>?_
   refine D<|b0<|D<|b9 rfl<|K rfl<|J rfl<|C rfl<|C rfl ?_
   obtain ⟨x41,hx41,h⟩:=I h
   refine W rfl rfl rfl hx41 rfl<|J rfl ?_
   obtain ⟨x43,hx43,h⟩:=I h
   refine W rfl rfl rfl hx43 rfl<|R rfl rfl (show _=eEdge x43 from rfl)<|b1 rfl<|a8 rfl rfl rfl rfl rfl<|E (kt<|kt<|kt<|kt<|kb<|kn) fun _=>?_
   refine D<|b9 rfl<|R rfl rfl (show _=eTypes t from rfl)<|a3 rfl<|J rfl<|K rfl<|J rfl<|a3 rfl<|J rfl ?_
   obtain ⟨x52,hx52,h⟩:=I h
   refine W rfl rfl rfl hx52 rfl<|J rfl<|K rfl<|J rfl<|a3 rfl<|J rfl ?_
   obtain ⟨x58,hx58,h⟩:=I h
   refine W rfl rfl rfl hx58 rfl<|J rfl ?_
   obtain ⟨x60,hx60,h⟩:=I h
   refine T rfl (c68 t x43.Type' x52 x58 _ hx60)<|d0 rfl<|E (kt<|kt<|kt<|kt<|kt<|kn) fun _=>?_
   refine S rfl (fun hc61=>?_) (fun hc61=>?_)
   ·replace h:=M hc61 h
    refine D<|F<|C rfl<|E (kt<|kn) fun _=>?_
    refine L ?_
    cases h
    exact ⟨_,rfl,rfl⟩
   ·replace h:=O hc61 h
    refine P (kt<|kt<|kt<|kt<|kn) fun _=>?_
    refine F<|C rfl<|a7 rfl rfl<|C rfl<|E (kt<|kt<|kt<|kt<|kn) ?_
    cases h
    refine ⟨_,rfl,?_⟩
    rw [Ktv rfl (Ktv rfl (Ktv rfl (Ktv rfl (Knil _))))]
    rw [b4 (a5 (hw2 10)) hi2 (e9 (a5 (hw2 3)) rfl)]
    all_goals rfl
  ·intro i2 s2 hi2
   refine D<|D<|F<|C rfl<|C rfl<|U rfl rfl<|V rfl rfl<|E (kt<|kt<|kt<|kt<|kt<|kn) fun _=>?_
   refine b7 rfl (b8 hi2)<|b3 (kn) ?_
   exact ⟨rfl,rfl⟩
  ·intro s2 hs
   replace h:=d3 h hs
   intro _
   refine D<|F<|C rfl<|E (kt<|kn) fun _=>?_
   exact L (by cases h;rfl)
  ·intro v2 ze hv hR
   replace h:=d4 h hv
   cases h
   exact hR
 ·intro v0 ze hv hR
  replace h:=d4 h hv
  cases h
  exact hR
theorem ck247:CK f247 (Rq [Af 1 0,Ak 2] [1]<|Rq [Ac 4 1 2,Ai 5 4 0,Ab 6 5,Ah 7 6,Ac 8 1 2,Ai 9 8 1,Ab 10 9,Ah 11 10,Bn 12 7 11,Ac 13 1 4,Ai 14 13 0,Ai 15 14 0,Ab 16 15,Ah 17 16,Bn 18 12 17,Ac 19 1 4,Ai 20 19 0,Ai 21 20 1,Ab 22 21,Ah 23 22,Bn 24 18 23,Be 25 24 0,Aa 3 25] [1,3]<|Rq [Aa 26 3,Aa 27 26,Ba 28 1 4 27,Bu 29 28 2 27,Ax 30 29 27,Ca 31 30 27,Ba 32 1 4 27,Bu 33 32 4 27,Ax 34 33 27,Ca 35 34 27,Ef 36 31 35 27,Di 37 36 0 27,At 38 27 37,Aa 39 38,Ba 40 1 4 39,Bu 41 40 3 39,Ax 42 41 39,Di 43 42 0 39,At 44 39 43,Aa 2 44] [2]<|.ret) [.tmp 2]:= by decide +kernel
theorem c247 (c:Condition) (r:Bool) (h:ref22_unused c=some r):Sound prog 247 [eCondition c] (.sh (eB r)):= by
 refine Fn ck247 fun hw=>?_
 unfold ref22_unused at h
 refine D<|F<|a4 rfl rfl<|C rfl<|E (kt<|kn) fun _=>?_
 refine D<|F<|K rfl<|a6 rfl<|J rfl<|U rfl rfl<|K rfl<|a6 rfl<|J rfl<|U rfl rfl<|a7 rfl rfl<|K rfl<|a6 rfl<|a6 rfl<|J rfl<|U rfl rfl<|a7 rfl rfl<|K rfl<|a6 rfl<|a6 rfl<|J rfl<|U rfl rfl<|a7 rfl rfl<|d1 rfl rfl<|C rfl<|E (kt<|kt<|kn) fun _=>?_
 refine D<|F<|C rfl<|C rfl ?_
 refine gA 11 [28,29,30,31,32,33,34,35,36,37] 38 (decide ((w64 ((w64 ((w64 ((c.Map.Nodes.length:Int)+(c.Map.Edges.length:Int)))+(c.Pattern.Graph.Nodes.length:Int)))+(c.Pattern.Graph.Edges.length:Int)))=0)) (decide ((w64 ((c.Pattern.Slots.length:Int)+(c.Pattern.Tests.length:Int)))=0)) (fun hg38=>?_) (fun hg38=>?_) ?_
 ·refine G rfl hg38<|K rfl<|G rfl hg38<|a6 rfl<|G rfl hg38<|J rfl<|G rfl hg38<|U rfl rfl<|G rfl hg38<|K rfl<|G rfl hg38<|a6 rfl<|G rfl hg38<|J rfl<|G rfl hg38<|U rfl rfl<|G rfl hg38<|a7 rfl rfl<|G rfl hg38<|d1 rfl rfl<|Y rfl hg38 rfl ?_
  exact ⟨⟨_,_,_,_,_,_,_,_,_,_,rfl⟩⟩
 ·refine H rfl hg38<|H rfl hg38<|H rfl hg38<|H rfl hg38<|H rfl hg38<|H rfl hg38<|H rfl hg38<|H rfl hg38<|H rfl hg38<|H rfl hg38<|Z rfl hg38 rfl ?_
  exact ⟨⟨_,_,_,_,_,_,_,_,_,_,rfl⟩⟩
 rintro _ ⟨_,_,_,_,_,_,_,_,_,_,rfl⟩
 refine C rfl ?_
 refine gA 5 [40,41,42,43] 44 ((decide ((w64 ((w64 ((w64 ((c.Map.Nodes.length:Int)+(c.Map.Edges.length:Int)))+(c.Pattern.Graph.Nodes.length:Int)))+(c.Pattern.Graph.Edges.length:Int)))=0))&&(decide ((w64 ((c.Pattern.Slots.length:Int)+(c.Pattern.Tests.length:Int)))=0))) (decide (c.Pattern.Vars=0)) (fun hg44=>?_) (fun hg44=>?_) ?_
 ·refine G rfl hg44<|K rfl<|G rfl hg44<|a6 rfl<|G rfl hg44<|J rfl<|G rfl hg44<|d1 rfl rfl<|Y rfl hg44 rfl ?_
  exact ⟨⟨_,_,_,_,rfl⟩⟩
 ·refine H rfl hg44<|H rfl hg44<|H rfl hg44<|H rfl hg44<|Z rfl hg44 rfl ?_
  exact ⟨⟨_,_,_,_,rfl⟩⟩
 rintro _ ⟨_,_,_,_,rfl⟩
 refine C rfl<|E (kt<|kn) fun _=>?_
 exact L (by cases h;rfl)
theorem ck222:CK f222 (Rq [Af 1 0,Ak 2] [1]<|Sq (Rq [Ac 3 1 0,Ab 4 3] [1,4]<|Bl 0<|Rq [Be 6 4 1,Aa 5 6] [1,4,5]<|Co 5 (Rq [Ac 7 1 1,Ab 8 7,Ah 9 8,Be 10 9 0,Aa 11 10,Cq 12 1 9 11,Cc 13 247 12 11,At 14 11 13,Aa 2 14] [2]<|.ret)<|Rq [Be 16 4 2,Aa 15 16] [1,4,15]<|Co 15 (Rq [Ac 17 1 1,Ab 18 17,Ah 19 18,Be 20 19 1,Aa 21 20,Cq 22 1 9 21,Cc 23 247 22 21,At 24 21 23,Aa 2 24] [2]<|.ret)<|Sq (Rq [Be 26 4 3,Aa 25 26] [1,4,25]<|Co 25 (Sk [1,4,25])<|Re [Be 27 4 4,Aa 25 27] [1,4,25])<|Co 25 (Rq [Ac 28 1 1,Ab 29 28,Ah 30 29,Bk 31 30 0,Aa 32 31,Cq 33 1 9 32,Cc 34 247 33 32,At 35 32 34,Aa 2 35] [2]<|.ret)<|Rq [Be 37 4 5,Aa 36 37] [1,36]<|Co 36 (Rq [Ac 38 1 1,Ab 39 38,Ah 40 39,Be 41 40 1,Aa 2 41] [2]<|.ret)<|Sk [])<|Rq [Ak 2] [2]<|.ret) [.tmp 2]:= by decide +kernel
theorem c222 (c:Condition) (r:Bool) (h:ref22_right c=some r):Sound prog 222 [eCondition c] (.sh (eB r)):= by
 refine Fn ck222 fun hw=>?_
 unfold ref22_right at h
 refine D<|F<|a4 rfl rfl<|C rfl<|E (kt<|kn) fun _=>?_
 refine D<|D<|F<|K rfl<|J rfl<|E (kt<|kt<|kn) fun _=>?_
 refine b0<|D<|F<|d1 rfl rfl<|C rfl<|E (kt<|kt<|kt<|kn) fun _=>?_
 refine S rfl (fun hc5=>?_) (fun hc5=>?_)
 ·replace h:=M hc5 h
  refine D<|F<|K rfl<|J rfl<|U rfl (eLCondition_eq _)<|d1 rfl rfl<|C rfl ?_
  obtain ⟨x14,hx14,h⟩:=I h
  refine gX 3 [12,13] 14 x14 (decide ((c.Kids.length:Int)=0)) (fun hg14=>?_) (fun hg14=>?_) ?_
  ·replace h:=M hg14 hx14
   refine G rfl hg14<|R rfl rfl (show _=eCondition c from rfl) ?_
   obtain ⟨x13,hx13,h⟩:=I h
   refine G rfl hg14<|T rfl (c247 c _ hx13) ?_
   cases h
   refine Y rfl hg14 rfl ?_
   exact ⟨⟨_,_,rfl⟩⟩
  ·replace h:=O hg14 hx14
   cases h
   refine H rfl hg14<|H rfl hg14<|Z rfl hg14 rfl ?_
   exact ⟨⟨_,_,rfl⟩⟩
  rintro _ ⟨_,_,rfl⟩
  refine C rfl<|E (kt<|kn) fun _=>?_
  exact L (by cases h;rfl)
 ·replace h:=O hc5 h
  refine D<|F<|d1 rfl rfl<|C rfl<|E (kt<|kt<|kt<|kn) fun _=>?_
  refine S rfl (fun hc15=>?_) (fun hc15=>?_)
  ·replace h:=M hc15 h
   refine D<|F<|K rfl<|J rfl<|U rfl (eLCondition_eq _)<|d1 rfl rfl<|C rfl ?_
   obtain ⟨x24,hx24,h⟩:=I h
   refine gX 3 [22,23] 24 x24 (decide ((c.Kids.length:Int)=1)) (fun hg24=>?_) (fun hg24=>?_) ?_
   ·replace h:=M hg24 hx24
    refine G rfl hg24<|R rfl rfl (show _=eCondition c from rfl) ?_
    obtain ⟨x23,hx23,h⟩:=I h
    refine G rfl hg24<|T rfl (c247 c _ hx23) ?_
    cases h
    refine Y rfl hg24 rfl ?_
    exact ⟨⟨_,_,rfl⟩⟩
   ·replace h:=O hg24 hx24
    cases h
    refine H rfl hg24<|H rfl hg24<|Z rfl hg24 rfl ?_
    exact ⟨⟨_,_,rfl⟩⟩
   rintro _ ⟨_,_,rfl⟩
   refine C rfl<|E (kt<|kn) fun _=>?_
   exact L (by cases h;rfl)
  ·replace h:=O hc15 h
   refine D<|D<|F<|d1 rfl rfl<|C rfl<|E (kt<|kt<|kt<|kn) fun _=>?_
   obtain ⟨w1,hw1,h⟩:=I h
   refine l0 (fun ze=>ze=[(1,.tv (.pt (eCondition c).cells)),(4,.tv (eI c.Kind)),(25,.tv (eB w1))]) ?_ ?_
   ·replace h:=hw1
    clear hw1
    refine S rfl (fun hc25=>?_) (fun hc25=>?_)
    ·replace h:=M hc25 h
     refine P (kt<|kt<|kt<|kn) ?_
     cases h
     exact rfl
    ·replace h:=O hc25 h
     refine F<|d1 rfl rfl<|C rfl<|E (kt<|kt<|kt<|kn) ?_
     cases h
     exact rfl
   rintro _ rfl
   intro _
   refine S rfl (fun hc25=>?_) (fun hc25=>?_)
   ·replace h:=M hc25 h
    refine D<|F<|K rfl<|J rfl<|U rfl (eLCondition_eq _)<|e4 rfl rfl<|C rfl ?_
    obtain ⟨x35,hx35,h⟩:=I h
    refine gX 3 [33,34] 35 x35 (decide (0<(c.Kids.length:Int))) (fun hg35=>?_) (fun hg35=>?_) ?_
    ·replace h:=M hg35 hx35
     refine G rfl hg35<|R rfl rfl (show _=eCondition c from rfl) ?_
     obtain ⟨x34,hx34,h⟩:=I h
     refine G rfl hg35<|T rfl (c247 c _ hx34) ?_
     cases h
     refine Y rfl hg35 rfl ?_
     exact ⟨⟨_,_,rfl⟩⟩
    ·replace h:=O hg35 hx35
     cases h
     refine H rfl hg35<|H rfl hg35<|Z rfl hg35 rfl ?_
     exact ⟨⟨_,_,rfl⟩⟩
    rintro _ ⟨_,_,rfl⟩
    refine C rfl<|E (kt<|kn) fun _=>?_
    exact L (by cases h;rfl)
   ·replace h:=O hc25 h
    refine D<|F<|d1 rfl rfl<|C rfl<|E (kt<|kt<|kn) fun _=>?_
    refine S rfl (fun hc36=>?_) (fun hc36=>?_)
    ·replace h:=M hc36 h
     refine D<|F<|K rfl<|J rfl<|U rfl (eLCondition_eq _)<|d1 rfl rfl<|C rfl<|E (kt<|kn) fun _=>?_
     exact L (by cases h;rfl)
    ·replace h:=O hc36 h
     refine P (kn) fun _=>?_
     refine D<|F<|C rfl<|E (kt<|kn) fun _=>?_
     exact L (by cases h;rfl)
theorem ck180:CK f180 (Rq [Af 1 0,Ak 2] [1]<|Sq (Rq [Ae 4 1 9,Au 5 222 4,Az 6 5] [1,6]<|Co 6 (Rq [Ak 2] [2]<|.ret)<|Sk [1])<|Sq (Rq [Ad 3 0] [1,3]<|Bl 0<|Lo [1,3]<|Sq (Rq [Aa 7 3,Ac 8 1 1,Ab 9 8,Ah 10 9,Ap 11 7 10] [1,3,11]<|Co 11 (Sk [1,3])<|Ex 0 [])<|Sq (Bl 1<|Rq [Ac 14 1 1,Ab 15 14,Aa 16 3,Ag 17 15 16 9,Ae 18 17 9,Au 19 180 18,Az 20 19] [1,3,20]<|Co 20 (Rq [Ak 2] [2]<|.ret)<|Sk [1,3])<|Re [Aa 12 3,An 13 12 1,Aa 3 13] [1,3])<|Rq [Cg 2] [2]<|.ret) [.tmp 2]:= by decide +kernel
theorem c180S (n:Nat) (ih_180:∀ (c:Condition) (r:Bool) (_:ref22_allRightF n c=some r),Sound prog 180 [eCondition c] (.sh (eB r))):∀ (c:Condition) (r:Bool) (_:ref22_allRightF (n+1) c=some r),Sound prog 180 [eCondition c] (.sh (eB r)):= by
 intro c r h
 refine Fn ck180 fun hw=>?_
 unfold ref22_allRightF at h
 refine D<|F<|a4 rfl rfl<|C rfl<|E (kt<|kn) fun _=>?_
 refine D<|D<|F<|R rfl rfl (show _=eCondition c from rfl) ?_
 obtain ⟨x5,hx5,h⟩:=I h
 refine T rfl (c222 c _ hx5)<|d0 rfl<|E (kt<|kt<|kn) fun _=>?_
 refine S rfl (fun hc6=>?_) (fun hc6=>?_)
 ·replace h:=M hc6 h
  refine D<|F<|C rfl<|E (kt<|kn) fun _=>?_
  exact L (by cases h;rfl)
 ·replace h:=O hc6 h
  refine P (kt<|kn) fun _=>?_
  refine D<|D<|F<|C rfl<|E (kt<|kt<|kn) fun _=>?_
  obtain ⟨o0,ho0,h⟩:=d2 h
  refine d6 ho0 (fun (i0:Int) (_:Unit)=>[(1,.tv (.pt (eCondition c).cells)),(3,.tv (eI i0))]) (fun (_:Unit)=>[]) (fun zv ze=>resIs ([.tmp 2]) (.sh (eB zv)) ze) rfl ?_ ?_ ?_ ?_
  ·clear h ho0
   intro i0 s0 r0 hi0 h hw0
   refine D<|D<|F<|C rfl<|K rfl<|J rfl<|U rfl (eLCondition_eq _)<|V rfl rfl<|E (kt<|kt<|kt<|kn) fun _=>?_
   refine b5 rfl (b6 hi0)<|P (kt<|kt<|kn) fun _=>?_
   refine D<|b0<|D<|F<|K rfl<|J rfl<|C rfl ?_
   obtain ⟨x17,hx17,h⟩:=I h
   refine W rfl rfl (eLCondition_eq _) hx17 rfl<|R rfl rfl (show _=eCondition x17 from rfl) ?_
   obtain ⟨x19,hx19,h⟩:=I h
   refine T rfl (ih_180 x17 _ hx19)<|d0 rfl<|E (kt<|kt<|kt<|kn) fun _=>?_
   refine S rfl (fun hc20=>?_) (fun hc20=>?_)
   ·replace h:=M hc20 h
    refine D<|F<|C rfl<|E (kt<|kn) fun _=>?_
    refine L ?_
    cases h
    exact ⟨_,rfl,rfl⟩
   ·replace h:=O hc20 h
    refine P (kt<|kt<|kn) fun _=>?_
    refine F<|C rfl<|a7 rfl rfl<|C rfl<|E (kt<|kt<|kn) ?_
    cases h
    refine ⟨_,rfl,?_⟩
    rw [Ktv rfl (Ktv rfl (Knil _))]
    rw [b4 (a5 (hw0 3)) hi0 (e9 (g0 (g1 (hw0 1)) (i:=1) rfl) (eLCondition_eq _))]
    all_goals rfl
  ·intro i0 s0 hi0
   refine D<|D<|F<|C rfl<|K rfl<|J rfl<|U rfl (eLCondition_eq _)<|V rfl rfl<|E (kt<|kt<|kt<|kn) fun _=>?_
   refine b7 rfl (b8 hi0)<|b3 (kn) ?_
   exact ⟨rfl,rfl⟩
  ·intro s0 hs
   replace h:=d3 h hs
   intro _
   refine D<|F<|C rfl<|E (kt<|kn) fun _=>?_
   exact L (by cases h;rfl)
  ·intro v0 ze hv hR
   replace h:=d4 h hv
   cases h
   exact hR
theorem c180A:∀ n:Nat,(∀ (c:Condition) (r:Bool) (_:ref22_allRightF n c=some r),Sound prog 180 [eCondition c] (.sh (eB r))):=by
  intro n
  induction n with
  | zero=>intro c r h; cases h
  | succ n ih=>exact c180S n ih
theorem c180 (c:Condition) (r:Bool) (h:ref22_allRight c=some r):Sound prog 180 [eCondition c] (.sh (eB r)):=by
  obtain ⟨N,hN⟩:=lim_some h
  exact (c180A N) c r (hN N (Nat.le_refl _))
theorem ck181:CK f181 (Rq [Af 1 0,Ad 2 0,Ad 3 0] [1]<|Rq [Ad 4 1,Ad 5 0] [1,4,5]<|Sq (Rq [Ad 6 0] [1,4,5,6]<|Bl 0<|Lo [1,4,5,6]<|Sq (Rq [Aa 9 6,Ac 10 1 1,Ab 11 10,Ah 12 11,Ap 13 9 12] [1,4,5,6,13]<|Co 13 (Sk [1,4,5,6])<|Ex 0 [1,4,5])<|Sq (Bl 1<|Rq [Ac 17 1 1,Ab 18 17,Aa 19 6,Ag 20 18 19 9,Ae 21 20 9,Au 22 181 21,Aa 16 22,Am 23 16 0,Am 24 16 1,Aa 7 23,Aa 8 24] [1,4,5,6,7,8]<|Re [Aa 25 4,Aa 26 7,Bn 27 25 26,Aa 28 5,Aa 29 8,⟨some 30,.mm true (.s 28) (.s 29),none⟩,Aa 4 27,Aa 5 30] [1,4,5,6])<|Re [Aa 14 6,An 15 14 1,Aa 6 15] [1,4,5,6])<|Sq (Rq [Ac 31 1 0,Ab 32 31,Be 33 32 5] [4,5,33]<|Co 33 (Re [Aa 34 5,An 35 34 1,Aa 5 35] [4,5])<|Sk [4,5])<|Rq [Aa 36 4,Aa 37 5,Aa 2 36,Aa 3 37] [2,3]<|.ret) [.tmp 2,.tmp 3]:= by decide +kernel
theorem c181S (n:Nat) (ih_181:∀ (c:Condition) (r:(Int × Int)) (_:ref22_MeasureF n c=some r),Sound prog 181 [eCondition c] (.tp [eI r.1,eI r.2])):∀ (c:Condition) (r:(Int × Int)) (_:ref22_MeasureF (n+1) c=some r),Sound prog 181 [eCondition c] (.tp [eI r.1,eI r.2]):= by
 intro c r h
 refine Fn ck181 fun hw=>?_
 unfold ref22_MeasureF at h
 refine D<|F<|a4 rfl rfl<|C rfl<|C rfl<|E (kt<|kn) fun _=>?_
 refine D<|F<|C rfl<|C rfl<|E (kt<|kt<|kt<|kn) fun _=>?_
 refine D<|D<|F<|C rfl<|E (kt<|kt<|kt<|kt<|kn) fun _=>?_
 obtain ⟨s0,hs0,h⟩:=I h
 refine f5 hs0 (fun (i0:Int) (s0:Int × Int)=>[(1,.tv (.pt (eCondition c).cells)),(4,.tv (eI s0.1)),(5,.tv (eI s0.2)),(6,.tv (eI i0))]) (fun (s0:Int × Int)=>[(1,.tv (.pt (eCondition c).cells)),(4,.tv (eI s0.1)),(5,.tv (eI s0.2))]) rfl ?_ ?_ ?_
 ·clear h hs0
  intro i0 s0 r0 hi0 h hw0
  refine D<|D<|F<|C rfl<|K rfl<|J rfl<|U rfl (eLCondition_eq _)<|V rfl rfl<|E (kt<|kt<|kt<|kt<|kt<|kn) fun _=>?_
  refine b5 rfl (b6 hi0)<|P (kt<|kt<|kt<|kt<|kn) fun _=>?_
  refine D<|b0<|D<|F<|K rfl<|J rfl<|C rfl ?_
  obtain ⟨x20,hx20,h⟩:=I h
  refine W rfl rfl (eLCondition_eq _) hx20 rfl<|R rfl rfl (show _=eCondition x20 from rfl) ?_
  obtain ⟨x22,hx22,h⟩:=I h
  refine e5 rfl (ih_181 x20 _ hx22)<|e6 rfl<|b2 rfl rfl<|b2 rfl rfl<|C rfl<|C rfl<|E (kt<|kt<|kt<|kt<|kt<|kt<|kn) fun _=>?_
  refine F<|C rfl<|C rfl<|a7 rfl rfl<|C rfl<|C rfl<|p9 rfl rfl<|C rfl<|C rfl<|E (kt<|kt<|kt<|kt<|kn) fun _=>?_
  refine F<|C rfl<|a7 rfl rfl<|C rfl<|E (kt<|kt<|kt<|kt<|kn) ?_
  cases h
  show Env.keep _ _=_
  rw [Ktv rfl (Ktv rfl (Ktv rfl (Ktv rfl (Knil _))))]
  rw [b4 (a5 (hw0 6)) hi0 (e9 (g0 (g1 (hw0 1)) (i:=1) rfl) (eLCondition_eq _))]
  all_goals rfl
 ·intro i0 s0 hi0
  refine D<|D<|F<|C rfl<|K rfl<|J rfl<|U rfl (eLCondition_eq _)<|V rfl rfl<|E (kt<|kt<|kt<|kt<|kt<|kn) fun _=>?_
  refine b7 rfl (b8 hi0)<|b3 (kt<|kt<|kt<|kn) ?_
  exact ⟨rfl,rfl⟩
 ·intro _
  refine D<|D<|F<|K rfl<|J rfl<|d1 rfl rfl<|E (kt<|kt<|kt<|kn) fun _=>?_
  obtain ⟨w1,hw1,h⟩:=I h
  refine l0 (fun ze=>ze=[(4,.tv (eI s0.1)),(5,.tv (eI w1))]) ?_ ?_
  ·replace h:=hw1
   clear hw1
   refine S rfl (fun hc33=>?_) (fun hc33=>?_)
   ·replace h:=M hc33 h
    refine F<|C rfl<|a7 rfl rfl<|C rfl<|E (kt<|kt<|kn) ?_
    cases h
    exact rfl
   ·replace h:=O hc33 h
    refine P (kt<|kt<|kn) ?_
    cases h
    exact rfl
  rintro _ rfl
  intro _
  refine D<|F<|C rfl<|C rfl<|C rfl<|C rfl<|E (kt<|kt<|kn) fun _=>?_
  refine L ?_
  cases h
  exact ⟨by decide,rfl⟩
theorem c181A:∀ n:Nat,(∀ (c:Condition) (r:(Int × Int)) (_:ref22_MeasureF n c=some r),Sound prog 181 [eCondition c] (.tp [eI r.1,eI r.2])):=by
  intro n
  induction n with
  | zero=>intro c r h; cases h
  | succ n ih=>exact c181S n ih
theorem c181 (c:Condition) (r:(Int × Int)) (h:ref22_Measure c=some r):Sound prog 181 [eCondition c] (.tp [eI r.1,eI r.2]):=by
  obtain ⟨N,hN⟩:=lim_some h
  exact (c181A N) c r (hN N (Nat.le_refl _))
theorem ck137:CK f137 (Rq [Af 1 0,Ad 2 0] [1]<|Sq (Rq [Ae 5 1 9,Au 6 180 5,Az 7 6] [1,7]<|Co 7 (Rq [Ad 2 1] [2]<|.ret)<|Sk [1])<|Sq (Rq [Ae 9 1 9,Au 10 181 9,Aa 8 10,Am 11 8 0,Am 12 8 1,Aa 3 11,Aa 4 12] [3,4]<|Rq [Aa 13 3,Bk 14 13 12,Aa 15 14,Aw 16 4 15,Bs 17 16 3 15,As 18 15 17] [18]<|Co 18 (Rq [Ad 2 3] [2]<|.ret)<|Sk [])<|Rq [Ad 2 0] [2]<|.ret) [.tmp 2]:= by decide +kernel
theorem c137 (c:Condition) (r:Int) (h:ref22_Shape c=some r):Sound prog 137 [eCondition c] (.sh (eI r)):= by
 refine Fn ck137 fun hw=>?_
 unfold ref22_Shape at h
 refine D<|F<|a4 rfl rfl<|C rfl<|E (kt<|kn) fun _=>?_
 refine D<|D<|F<|R rfl rfl (show _=eCondition c from rfl) ?_
 obtain ⟨x6,hx6,h⟩:=I h
 refine T rfl (c180 c _ hx6)<|d0 rfl<|E (kt<|kt<|kn) fun _=>?_
 refine S rfl (fun hc7=>?_) (fun hc7=>?_)
 ·replace h:=M hc7 h
  refine D<|F<|C rfl<|E (kt<|kn) fun _=>?_
  exact L (by cases h;rfl)
 ·replace h:=O hc7 h
  refine P (kt<|kn) fun _=>?_
  refine D<|D<|F<|R rfl rfl (show _=eCondition c from rfl) ?_
  obtain ⟨x10,hx10,h⟩:=I h
  refine e5 rfl (c181 c _ hx10)<|e6 rfl<|b2 rfl rfl<|b2 rfl rfl<|C rfl<|C rfl<|E (kt<|kt<|kn) fun _=>?_
  refine D<|F<|C rfl<|e4 rfl rfl<|C rfl ?_
  refine gO 3 [16,17] 18 (decide (12<x10.1)) (decide (3<x10.2)) (fun hg18=>?_) (fun hg18=>?_) ?_
  ·refine H rfl hg18<|H rfl hg18<|Y rfl hg18 rfl ?_
   exact ⟨⟨_,_,rfl⟩⟩
  ·refine G rfl hg18<|C rfl<|G rfl hg18<|e4 rfl rfl<|Z rfl hg18 rfl ?_
   exact ⟨⟨_,_,rfl⟩⟩
  rintro _ ⟨_,_,rfl⟩
  refine E (kt<|kn) fun _=>?_
  refine S rfl (fun hc18=>?_) (fun hc18=>?_)
  ·replace h:=M hc18 h
   refine D<|F<|C rfl<|E (kt<|kn) fun _=>?_
   exact L (by cases h;rfl)
  ·replace h:=O hc18 h
   refine P (kn) fun _=>?_
   refine D<|F<|C rfl<|E (kt<|kn) fun _=>?_
   exact L (by cases h;rfl)
theorem ck223:CK f223 (Rq [Af 2 0,Ak 4] [1,2]<|Sq (Rq [Ad 5 0] [1,2,5]<|Bl 0<|Lo [1,2,5]<|Sq (Rq [Aa 6 5,Ac 7 2 2,Ab 8 7,Ah 9 8,Ap 10 6 9] [1,2,5,10]<|Co 10 (Sk [1,2,5])<|Ex 0 [])<|Sq (Bl 1<|Rq [Ac 13 2 2,Ab 14 13,Aa 15 5,Ag 16 14 15 4,Ai 17 16 2,Ai 18 17 0,Ab 19 18,Aa 20 1,Bt 21 19 20] [1,2,5,21]<|Co 21 (Rq [Cg 4] [4]<|.ret)<|Sk [1,2,5])<|Re [Aa 11 5,An 12 11 1,Aa 5 12] [1,2,5])<|Rq [Ak 4] [4]<|.ret) [.tmp 4]:= by decide +kernel
theorem c223 (p:Pattern) (v_1:Int) (r:Bool) (h:ref22_occurs p v_1=some r):Sound prog 223 [ePattern p,eI v_1] (.sh (eB r)):= by
 refine Fn ck223 fun hw=>?_
 unfold ref22_occurs at h
 refine D<|F<|a4 rfl rfl<|C rfl<|E (kt<|kt<|kn) fun _=>?_
 refine D<|D<|F<|C rfl<|E (kt<|kt<|kt<|kn) fun _=>?_
 obtain ⟨o0,ho0,h⟩:=d2 h
 refine d6 ho0 (fun (i0:Int) (_:Unit)=>[(1,.tv (eI v_1)),(2,.tv (.pt (ePattern p).cells)),(5,.tv (eI i0))]) (fun (_:Unit)=>[]) (fun zv ze=>resIs ([.tmp 4]) (.sh (eB zv)) ze) rfl ?_ ?_ ?_ ?_
 ·clear h ho0
  intro i0 s0 r0 hi0 h hw0
  refine D<|D<|F<|C rfl<|K rfl<|J rfl<|U rfl rfl<|V rfl rfl<|E (kt<|kt<|kt<|kt<|kn) fun _=>?_
  refine b5 rfl (b6 hi0)<|P (kt<|kt<|kt<|kn) fun _=>?_
  refine D<|b0<|D<|F<|K rfl<|J rfl<|C rfl ?_
  obtain ⟨x16,hx16,h⟩:=I h
  refine W rfl rfl rfl hx16 rfl<|a6 rfl<|a6 rfl<|J rfl<|C rfl<|d1 rfl rfl<|E (kt<|kt<|kt<|kt<|kn) fun _=>?_
  refine S rfl (fun hc21=>?_) (fun hc21=>?_)
  ·replace h:=M hc21 h
   refine D<|F<|C rfl<|E (kt<|kn) fun _=>?_
   refine L ?_
   cases h
   exact ⟨_,rfl,rfl⟩
  ·replace h:=O hc21 h
   refine P (kt<|kt<|kt<|kn) fun _=>?_
   refine F<|C rfl<|a7 rfl rfl<|C rfl<|E (kt<|kt<|kt<|kn) ?_
   cases h
   refine ⟨_,rfl,?_⟩
   rw [Ktv rfl (Ktv rfl (Ktv rfl (Knil _)))]
   rw [b4 (a5 (hw0 5)) hi0 (e9 (g0 (g1 (hw0 2)) (i:=2) rfl) rfl)]
   all_goals rfl
 ·intro i0 s0 hi0
  refine D<|D<|F<|C rfl<|K rfl<|J rfl<|U rfl rfl<|V rfl rfl<|E (kt<|kt<|kt<|kt<|kn) fun _=>?_
  refine b7 rfl (b8 hi0)<|b3 (kn) ?_
  exact ⟨rfl,rfl⟩
 ·intro s0 hs
  replace h:=d3 h hs
  intro _
  refine D<|F<|C rfl<|E (kt<|kn) fun _=>?_
  exact L (by cases h;rfl)
 ·intro v0 ze hv hR
  replace h:=d4 h hv
  cases h
  exact hR
theorem ck182:CK f182 (Rq [Af 3 0,Af 5 2,Ad 6 0] [1,3,5]<|Sq (Rq [Ac 9 5 3,Ab 10 9,Aa 11 1,Ap 12 10 11] [1,3,5,12]<|Co 12 (Rq [Ad 6 20] [6]<|.ret)<|Sk [1,3,5])<|Rq [Ae 13 3 2,Ae 14 5 5,Al 15 76 13 14,Aa 7 15] [1,5,7]<|Sq (Rq [Aa 16 7,Av 17 16 9] [1,5,7,17]<|Co 17 (Rq [Aa 18 7,Aa 6 18] [6]<|.ret)<|Sk [1,5,7])<|Sq (Rq [Aa 19 1,Aa 8 19] [5,7,8]<|Bl 0<|Lo [5,7,8]<|Sq (Rq [Aa 20 8,Ac 21 5 3,Ab 22 21,Ap 23 20 22] [5,7,8,23]<|Co 23 (Sk [5,7,8])<|Ex 0 [])<|Sq (Bl 1<|Rq [Ae 26 5 5,Aa 27 8,Al 28 223 26 27,Az 29 28] [5,7,8,29]<|Co 29 (Rq [Aa 30 7,Aa 6 30] [6]<|.ret)<|Sk [5,7,8])<|Re [Aa 24 8,An 25 24 1,Aa 8 25] [5,7,8])<|Rq [Ad 6 0] [6]<|.ret) [.tmp 6]:= by decide +kernel
theorem c182 (t:Types) (vars:Int) (q:Pattern) (r:Int) (h:ref22_inner t vars q=some r):Sound prog 182 [eTypes t,eI vars,ePattern q] (.sh (eI r)):= by
 refine Fn ck182 fun hw=>?_
 unfold ref22_inner at h
 refine D<|F<|a4 rfl rfl<|a4 rfl rfl<|C rfl<|E (kt<|kt<|kt<|kn) fun _=>?_
 refine D<|D<|F<|K rfl<|J rfl<|C rfl<|V rfl rfl<|E (kt<|kt<|kt<|kt<|kn) fun _=>?_
 refine S rfl (fun hc12=>?_) (fun hc12=>?_)
 ·replace h:=M hc12 h
  refine D<|F<|C rfl<|E (kt<|kn) fun _=>?_
  exact L (by cases h;rfl)
 ·replace h:=O hc12 h
  refine P (kt<|kt<|kt<|kn) fun _=>?_
  refine D<|F<|R rfl rfl (show _=eTypes t from rfl)<|R rfl rfl (show _=ePattern q from rfl) ?_
  obtain ⟨x15,hx15,h⟩:=I h
  refine T rfl (c76 t q _ hx15)<|C rfl<|E (kt<|kt<|kt<|kn) fun _=>?_
  refine D<|D<|F<|C rfl<|a9 rfl rfl<|E (kt<|kt<|kt<|kt<|kn) fun _=>?_
  refine S rfl (fun hc17=>?_) (fun hc17=>?_)
  ·replace h:=M hc17 h
   refine D<|F<|C rfl<|C rfl<|E (kt<|kn) fun _=>?_
   exact L (by cases h;rfl)
  ·replace h:=O hc17 h
   refine P (kt<|kt<|kt<|kn) fun _=>?_
   refine D<|D<|F<|C rfl<|C rfl<|E (kt<|kt<|kt<|kn) fun _=>?_
   obtain ⟨o0,ho0,h⟩:=d2 h
   refine d6 ho0 (fun (i0:Int) (_:Unit)=>[(5,.tv (.pt (ePattern q).cells)),(7,.tv (eI x15)),(8,.tv (eI i0))]) (fun (_:Unit)=>[]) (fun zv ze=>resIs ([.tmp 6]) (.sh (eI zv)) ze) rfl ?_ ?_ ?_ ?_
   ·clear h ho0
    intro i0 s0 r0 hi0 h hw0
    refine D<|D<|F<|C rfl<|K rfl<|J rfl<|V rfl rfl<|E (kt<|kt<|kt<|kt<|kn) fun _=>?_
    refine b5 rfl (b6 hi0)<|P (kt<|kt<|kt<|kn) fun _=>?_
    refine D<|b0<|D<|F<|R rfl rfl (show _=ePattern q from rfl)<|C rfl ?_
    obtain ⟨x28,hx28,h⟩:=I h
    refine T rfl (c223 q i0 _ hx28)<|d0 rfl<|E (kt<|kt<|kt<|kt<|kn) fun _=>?_
    refine S rfl (fun hc29=>?_) (fun hc29=>?_)
    ·replace h:=M hc29 h
     refine D<|F<|C rfl<|C rfl<|E (kt<|kn) fun _=>?_
     refine L ?_
     cases h
     exact ⟨_,rfl,rfl⟩
    ·replace h:=O hc29 h
     refine P (kt<|kt<|kt<|kn) fun _=>?_
     refine F<|C rfl<|a7 rfl rfl<|C rfl<|E (kt<|kt<|kt<|kn) ?_
     cases h
     refine ⟨_,rfl,?_⟩
     rw [Ktv rfl (Ktv rfl (Ktv rfl (Knil _)))]
     rw [b4 (a5 (hw0 8)) hi0 (e0 (g0 (g1 (hw0 5)) (i:=3) rfl))]
     all_goals rfl
   ·intro i0 s0 hi0
    refine D<|D<|F<|C rfl<|K rfl<|J rfl<|V rfl rfl<|E (kt<|kt<|kt<|kt<|kn) fun _=>?_
    refine b7 rfl (b8 hi0)<|b3 (kn) ?_
    exact ⟨rfl,rfl⟩
   ·intro s0 hs
    replace h:=d3 h hs
    intro _
    refine D<|F<|C rfl<|E (kt<|kn) fun _=>?_
    exact L (by cases h;rfl)
   ·intro v0 ze hv hR
    replace h:=d4 h hv
    cases h
    exact hR
theorem ck183:CK f183 (Rq [Af 3 0,Af 4 1,Af 5 2,Ak 6] [3,4,5]<|Rq [Ae 7 3 2,Ae 8 4 2,Ae 9 5 2,Bg 10 136 7 8 9,Be 11 10 0,Aa 12 11,Ba 13 5 0 12,Ax 14 13 12,Cc 15 79 14 12,At 16 12 15,Aa 17 16,Ba 18 5 1 17,Ax 19 18 17,Cc 20 79 19 17,At 21 17 20,Aa 6 21] [6]<|.ret) [.tmp 6]:= by decide +kernel
theorem c183 (a:Graph) (b:Graph) (m:Morphism) (r:Bool) (h:ref06_Injective a b m=some r):Sound prog 183 [eGraph a,eGraph b,eMorphism m] (.sh (eB r)):= by
 refine Fn ck183 fun hw=>?_
 unfold ref06_Injective at h
 refine D<|F<|a4 rfl rfl<|a4 rfl rfl<|a4 rfl rfl<|C rfl<|E (kt<|kt<|kt<|kn) fun _=>?_
 refine D<|F<|R rfl rfl (show _=eGraph a from rfl)<|R rfl rfl (show _=eGraph b from rfl)<|R rfl rfl (show _=eMorphism m from rfl) ?_
 obtain ⟨x10,hx10,h⟩:=I h
 refine T rfl (c136 a b m _ hx10)<|d1 rfl rfl<|C rfl ?_
 obtain ⟨x16,hx16,h⟩:=I h
 refine gX 4 [13,14,15] 16 x16 (decide (x10=0)) (fun hg16=>?_) (fun hg16=>?_) ?_
 ·replace h:=M hg16 hx16
  refine G rfl hg16<|K rfl<|G rfl hg16<|J rfl ?_
  obtain ⟨x15,hx15,h⟩:=I h
  refine G rfl hg16<|T rfl (c79 m.Nodes _ hx15) ?_
  cases h
  refine Y rfl hg16 rfl ?_
  exact ⟨⟨_,_,_,rfl⟩⟩
 ·replace h:=O hg16 hx16
  cases h
  refine H rfl hg16<|H rfl hg16<|H rfl hg16<|Z rfl hg16 rfl ?_
  exact ⟨⟨_,_,_,rfl⟩⟩
 rintro _ ⟨_,_,_,rfl⟩
 refine C rfl ?_
 obtain ⟨x21,hx21,h⟩:=I h
 refine gX 4 [18,19,20] 21 x21 x16 (fun hg21=>?_) (fun hg21=>?_) ?_
 ·replace h:=M hg21 hx21
  refine G rfl hg21<|K rfl<|G rfl hg21<|J rfl ?_
  obtain ⟨x20,hx20,h⟩:=I h
  refine G rfl hg21<|T rfl (c79 m.Edges _ hx20) ?_
  cases h
  refine Y rfl hg21 rfl ?_
  exact ⟨⟨_,_,_,rfl⟩⟩
 ·replace h:=O hg21 hx21
  cases h
  refine H rfl hg21<|H rfl hg21<|H rfl hg21<|Z rfl hg21 rfl ?_
  exact ⟨⟨_,_,_,rfl⟩⟩
 rintro _ ⟨_,_,_,rfl⟩
 refine C rfl<|E (kt<|kn) fun _=>?_
 exact L (by cases h;rfl)
theorem ck138:CK f138 (Rq [Af 3 0,Af 4 1,Af 5 2,Ad 6 0] [3,4,5]<|Rq [Ae 12 4 5,Et 7 1 3 4 0 5,Aj 5 7 12] [3,4,5,7]<|Sq (Rq [Ac 13 5 0,Ab 14 13,Be 15 14 5] [3,4,5,7,15]<|Co 15 (Sq (Rq [Ae 16 3 2,Ac 17 4 3,Ab 18 17,Ac 19 5 4,Ae 20 19 5,Bg 21 182 16 18 20,Aa 8 21] [3,4,5,7,8]<|Rq [Aa 22 8,Av 23 22 0] [3,4,5,7,8,23]<|Co 23 (Rq [Aa 24 8,Aa 6 24] [6]<|.ret)<|Sk [3,4,5,7])<|Sq (Rq [Ac 25 4 0,Ae 26 25 2,Ac 27 5 4,Ai 28 27 0,Ae 29 28 2,Ac 30 5 2,Ae 31 30 2,Bg 32 136 26 29 31,Aa 9 32] [3,4,5,7,9]<|Rq [Aa 33 9,Av 34 33 0] [3,4,5,7,9,34]<|Co 34 (Rq [Aa 35 9,Aa 6 35] [6]<|.ret)<|Sk [3,4,5,7])<|Sq (Rq [Ac 36 4 0,Ae 37 36 2,Ac 38 5 4,Ai 39 38 0,Ae 40 39 2,Ac 41 5 2,Ae 42 41 2,Bg 43 183 37 40 42,Az 44 43] [3,5,7,44]<|Co 44 (Rq [Ad 6 1] [6]<|.ret)<|Sk [3,5,7])<|Re [Ac 45 5 4,Ae 46 45 5,Aj 5 7 46] [3,5,7])<|Sk [3,5,7])<|Sq (Rq [Ad 10 0] [3,5,7,10]<|Bl 0<|Lo [3,5,7,10]<|Sq (Rq [Aa 47 10,Ac 48 5 1,Ab 49 48,Ah 50 49,Ap 51 47 50] [3,5,7,10,51]<|Co 51 (Sk [3,5,7,10])<|Ex 0 [])<|Sq (Bl 1<|Sq (Dr [11,54,55,56,57,58,59,60,61] [Ae 54 3 2,Ae 55 7 5,Ac 56 5 1,Ab 57 56,Aa 58 10,Ag 59 57 58 9,Ae 60 59 9,Bg 61 138 54 55 60,Aa 11 61] [3,5,7,10,11])<|Rq [Aa 62 11,Av 63 62 0] [3,5,7,10,11,63]<|Co 63 (Rq [Aa 64 11,Aa 6 64] [6]<|.ret)<|Sk [3,5,7,10])<|Re [Aa 52 10,An 53 52 1,Aa 10 53] [3,5,7,10])<|Rq [Ad 6 0] [6]<|.ret) [.tmp 6]:= by decide +kernel
theorem c138S (n:Nat) (ih_138:∀ (t:Types) (p:Pattern) (c:Condition) (r:Int) (_:ref22_overF n t p c=some r),Sound prog 138 [eTypes t,ePattern p,eCondition c] (.sh (eI r))):∀ (t:Types) (p:Pattern) (c:Condition) (r:Int) (_:ref22_overF (n+1) t p c=some r),Sound prog 138 [eTypes t,ePattern p,eCondition c] (.sh (eI r)):= by
 intro t p c r h
 refine Fn ck138 fun hw=>?_
 unfold ref22_overF at h
 refine D<|F<|a4 rfl rfl<|a4 rfl rfl<|a4 rfl rfl<|C rfl<|E (kt<|kt<|kt<|kn) fun _=>?_
 refine D<|F<|R rfl rfl (show _=ePattern p from rfl)<|b1 rfl<|a8 rfl rfl rfl rfl rfl<|E (kt<|kt<|kt<|kb<|kn) fun _=>?_
 refine D<|D<|F<|K rfl<|J rfl<|d1 rfl rfl<|E (kt<|kt<|kt<|kb<|kt<|kn) fun _=>?_
 refine S rfl (fun hc15=>?_) (fun hc15=>?_)
 ·replace h:=M hc15 h
  refine D<|D<|F<|R rfl rfl (show _=eTypes t from rfl)<|K rfl<|J rfl<|K rfl<|R rfl rfl (show _=ePattern c.Pattern from rfl) ?_
  obtain ⟨x21,hx21,h⟩:=I h
  refine T rfl (c182 t p.Vars c.Pattern _ hx21)<|C rfl<|E (kt<|kt<|kt<|kb<|kt<|kn) fun _=>?_
  refine D<|F<|C rfl<|a9 rfl rfl<|E (kt<|kt<|kt<|kb<|kt<|kt<|kn) fun _=>?_
  refine S rfl (fun hc23=>?_) (fun hc23=>?_)
  ·replace h:=M hc23 h
   refine D<|F<|C rfl<|C rfl<|E (kt<|kn) fun _=>?_
   exact L (by cases h;rfl)
  ·replace h:=O hc23 h
   refine P (kt<|kt<|kt<|kb<|kn) fun _=>?_
   refine D<|D<|F<|K rfl<|R rfl rfl (show _=eGraph p.Graph from rfl)<|K rfl<|a6 rfl<|R rfl rfl (show _=eGraph c.Pattern.Graph from rfl)<|K rfl<|R rfl rfl (show _=eMorphism c.Map from rfl) ?_
   obtain ⟨x32,hx32,h⟩:=I h
   refine T rfl (c136 p.Graph c.Pattern.Graph c.Map _ hx32)<|C rfl<|E (kt<|kt<|kt<|kb<|kt<|kn) fun _=>?_
   refine D<|F<|C rfl<|a9 rfl rfl<|E (kt<|kt<|kt<|kb<|kt<|kt<|kn) fun _=>?_
   refine S rfl (fun hc34=>?_) (fun hc34=>?_)
   ·replace h:=M hc34 h
    refine D<|F<|C rfl<|C rfl<|E (kt<|kn) fun _=>?_
    exact L (by cases h;rfl)
   ·replace h:=O hc34 h
    refine P (kt<|kt<|kt<|kb<|kn) fun _=>?_
    refine D<|D<|F<|K rfl<|R rfl rfl (show _=eGraph p.Graph from rfl)<|K rfl<|a6 rfl<|R rfl rfl (show _=eGraph c.Pattern.Graph from rfl)<|K rfl<|R rfl rfl (show _=eMorphism c.Map from rfl) ?_
    obtain ⟨x43,hx43,h⟩:=I h
    refine T rfl (c183 p.Graph c.Pattern.Graph c.Map _ hx43)<|d0 rfl<|E (kt<|kt<|kb<|kt<|kn) fun _=>?_
    refine S rfl (fun hc44=>?_) (fun hc44=>?_)
    ·replace h:=M hc44 h
     refine D<|F<|C rfl<|E (kt<|kn) fun _=>?_
     exact L (by cases h;rfl)
    ·replace h:=O hc44 h
     refine P (kt<|kt<|kb<|kn) fun _=>?_
     refine F<|K rfl<|R rfl rfl (show _=ePattern c.Pattern from rfl)<|a8 rfl rfl rfl rfl rfl<|E (kt<|kt<|kb<|kn) fun _=>?_
     refine D<|D<|F<|C rfl<|E (kt<|kt<|kb<|kt<|kn) fun _=>?_
     obtain ⟨o0,ho0,h⟩:=d2 h
     refine d6 ho0 (fun (i0:Int) (_:Unit)=>[(3,.tv (.pt (eTypes t).cells)),(5,.tv (.pt (eCondition c).cells)),(7,.bx [⟨false,lI c.Pattern.Graph.Nodes⟩,⟨false,lE c.Pattern.Graph.Edges⟩,⟨false,lS c.Pattern.Slots⟩,⟨false,eI c.Pattern.Vars⟩,⟨false,lT c.Pattern.Tests⟩]),(10,.tv (eI i0))]) (fun (_:Unit)=>[]) (fun zv ze=>resIs ([.tmp 6]) (.sh (eI zv)) ze) rfl ?_ ?_ ?_ ?_
     ·clear h ho0
      intro i0 s0 r0 hi0 h hw0
      refine D<|D<|F<|C rfl<|K rfl<|J rfl<|U rfl (eLCondition_eq _)<|V rfl rfl<|E (kt<|kt<|kb<|kt<|kt<|kn) fun _=>?_
      refine b5 rfl (b6 hi0)<|P (kt<|kt<|kb<|kt<|kn) fun _=>?_
      refine D<|b0<|D<|b9 rfl<|R rfl rfl (show _=eTypes t from rfl)<|R rfl rfl (show _=ePattern c.Pattern from rfl)<|K rfl<|J rfl<|C rfl ?_
      obtain ⟨x59,hx59,h⟩:=I h
      refine W rfl rfl (eLCondition_eq _) hx59 rfl<|R rfl rfl (show _=eCondition x59 from rfl) ?_
      obtain ⟨x61,hx61,h⟩:=I h
      refine T rfl (ih_138 t c.Pattern x59 _ hx61)<|C rfl<|E (kt<|kt<|kb<|kt<|kt<|kn) fun _=>?_
      refine D<|F<|C rfl<|a9 rfl rfl<|E (kt<|kt<|kb<|kt<|kt<|kt<|kn) fun _=>?_
      refine S rfl (fun hc63=>?_) (fun hc63=>?_)
      ·replace h:=M hc63 h
       refine D<|F<|C rfl<|C rfl<|E (kt<|kn) fun _=>?_
       refine L ?_
       cases h
       exact ⟨_,rfl,rfl⟩
      ·replace h:=O hc63 h
       refine P (kt<|kt<|kb<|kt<|kn) fun _=>?_
       refine F<|C rfl<|a7 rfl rfl<|C rfl<|E (kt<|kt<|kb<|kt<|kn) ?_
       cases h
       refine ⟨_,rfl,?_⟩
       rw [Ktv rfl (Ktv rfl (Kbx rfl (Ktv rfl (Knil _))))]
       rw [b4 (a5 (hw0 10)) hi0 (e9 (g0 (g1 (hw0 5)) (i:=1) rfl) (eLCondition_eq _))]
       all_goals rfl
     ·intro i0 s0 hi0
      refine D<|D<|F<|C rfl<|K rfl<|J rfl<|U rfl (eLCondition_eq _)<|V rfl rfl<|E (kt<|kt<|kb<|kt<|kt<|kn) fun _=>?_
      refine b7 rfl (b8 hi0)<|b3 (kn) ?_
      exact ⟨rfl,rfl⟩
     ·intro s0 hs
      replace h:=d3 h hs
      intro _
      refine D<|F<|C rfl<|E (kt<|kn) fun _=>?_
      exact L (by cases h;rfl)
     ·intro v0 ze hv hR
      replace h:=d4 h hv
      cases h
      exact hR
 ·replace h:=O hc15 h
  refine P (kt<|kt<|kb<|kn) fun _=>?_
  refine D<|D<|F<|C rfl<|E (kt<|kt<|kb<|kt<|kn) fun _=>?_
  obtain ⟨o0,ho0,h⟩:=d2 h
  refine d6 ho0 (fun (i0:Int) (_:Unit)=>[(3,.tv (.pt (eTypes t).cells)),(5,.tv (.pt (eCondition c).cells)),(7,.bx [⟨false,lI p.Graph.Nodes⟩,⟨false,lE p.Graph.Edges⟩,⟨false,lS p.Slots⟩,⟨false,eI p.Vars⟩,⟨false,lT p.Tests⟩]),(10,.tv (eI i0))]) (fun (_:Unit)=>[]) (fun zv ze=>resIs ([.tmp 6]) (.sh (eI zv)) ze) rfl ?_ ?_ ?_ ?_
  ·clear h ho0
   intro i0 s0 r0 hi0 h hw0
   refine D<|D<|F<|C rfl<|K rfl<|J rfl<|U rfl (eLCondition_eq _)<|V rfl rfl<|E (kt<|kt<|kb<|kt<|kt<|kn) fun _=>?_
   refine b5 rfl (b6 hi0)<|P (kt<|kt<|kb<|kt<|kn) fun _=>?_
   refine D<|b0<|D<|b9 rfl<|R rfl rfl (show _=eTypes t from rfl)<|R rfl rfl (show _=ePattern p from rfl)<|K rfl<|J rfl<|C rfl ?_
   obtain ⟨x59,hx59,h⟩:=I h
   refine W rfl rfl (eLCondition_eq _) hx59 rfl<|R rfl rfl (show _=eCondition x59 from rfl) ?_
   obtain ⟨x61,hx61,h⟩:=I h
   refine T rfl (ih_138 t p x59 _ hx61)<|C rfl<|E (kt<|kt<|kb<|kt<|kt<|kn) fun _=>?_
   refine D<|F<|C rfl<|a9 rfl rfl<|E (kt<|kt<|kb<|kt<|kt<|kt<|kn) fun _=>?_
   refine S rfl (fun hc63=>?_) (fun hc63=>?_)
   ·replace h:=M hc63 h
    refine D<|F<|C rfl<|C rfl<|E (kt<|kn) fun _=>?_
    refine L ?_
    cases h
    exact ⟨_,rfl,rfl⟩
   ·replace h:=O hc63 h
    refine P (kt<|kt<|kb<|kt<|kn) fun _=>?_
    refine F<|C rfl<|a7 rfl rfl<|C rfl<|E (kt<|kt<|kb<|kt<|kn) ?_
    cases h
    refine ⟨_,rfl,?_⟩
    rw [Ktv rfl (Ktv rfl (Kbx rfl (Ktv rfl (Knil _))))]
    rw [b4 (a5 (hw0 10)) hi0 (e9 (g0 (g1 (hw0 5)) (i:=1) rfl) (eLCondition_eq _))]
    all_goals rfl
  ·intro i0 s0 hi0
   refine D<|D<|F<|C rfl<|K rfl<|J rfl<|U rfl (eLCondition_eq _)<|V rfl rfl<|E (kt<|kt<|kb<|kt<|kt<|kn) fun _=>?_
   refine b7 rfl (b8 hi0)<|b3 (kn) ?_
   exact ⟨rfl,rfl⟩
  ·intro s0 hs
   replace h:=d3 h hs
   intro _
   refine D<|F<|C rfl<|E (kt<|kn) fun _=>?_
   exact L (by cases h;rfl)
  ·intro v0 ze hv hR
   replace h:=d4 h hv
   cases h
   exact hR
theorem c138A:∀ n:Nat,(∀ (t:Types) (p:Pattern) (c:Condition) (r:Int) (_:ref22_overF n t p c=some r),Sound prog 138 [eTypes t,ePattern p,eCondition c] (.sh (eI r))):=by
  intro n
  induction n with
  | zero=>intro t p c r h; cases h
  | succ n ih=>exact c138S n ih
theorem c138 (t:Types) (p:Pattern) (c:Condition) (r:Int) (h:ref22_over t p c=some r):Sound prog 138 [eTypes t,ePattern p,eCondition c] (.sh (eI r)):=by
  obtain ⟨N,hN⟩:=lim_some h
  exact (c138A N) t p c r (hN N (Nat.le_refl _))
theorem ck81:CK f81 (Rq [Af 3 0,Af 4 1,Af 5 2,Ad 6 0] [3,4,5]<|Sq (Rq [Ae 9 3 2,Ae 10 4 5,Al 11 76 9 10,Aa 7 11] [3,4,5,7]<|Rq [Aa 12 7,Av 13 12 0] [3,4,5,7,13]<|Co 13 (Rq [Aa 14 7,Aa 6 14] [6]<|.ret)<|Sk [3,4,5])<|Sq (Rq [Ae 15 5 9,Au 16 137 15,Aa 8 16] [3,4,5,8]<|Rq [Aa 17 8,Av 18 17 0] [3,4,5,8,18]<|Co 18 (Rq [Aa 19 8,Aa 6 19] [6]<|.ret)<|Sk [3,4,5])<|Rq [Ae 20 3 2,Ae 21 4 5,Ae 22 5 9,Bg 23 138 20 21 22,Aa 6 23] [6]<|.ret) [.tmp 6]:= by decide +kernel
theorem c81 (t:Types) (p:Pattern) (c:Condition) (r:Int) (h:ref22_Valid t p c=some r):Sound prog 81 [eTypes t,ePattern p,eCondition c] (.sh (eI r)):= by
 refine Fn ck81 fun hw=>?_
 unfold ref22_Valid at h
 refine D<|F<|a4 rfl rfl<|a4 rfl rfl<|a4 rfl rfl<|C rfl<|E (kt<|kt<|kt<|kn) fun _=>?_
 refine D<|D<|F<|R rfl rfl (show _=eTypes t from rfl)<|R rfl rfl (show _=ePattern p from rfl) ?_
 obtain ⟨x11,hx11,h⟩:=I h
 refine T rfl (c76 t p _ hx11)<|C rfl<|E (kt<|kt<|kt<|kt<|kn) fun _=>?_
 refine D<|F<|C rfl<|a9 rfl rfl<|E (kt<|kt<|kt<|kt<|kt<|kn) fun _=>?_
 refine S rfl (fun hc13=>?_) (fun hc13=>?_)
 ·replace h:=M hc13 h
  refine D<|F<|C rfl<|C rfl<|E (kt<|kn) fun _=>?_
  exact L (by cases h;rfl)
 ·replace h:=O hc13 h
  refine P (kt<|kt<|kt<|kn) fun _=>?_
  refine D<|D<|F<|R rfl rfl (show _=eCondition c from rfl) ?_
  obtain ⟨x16,hx16,h⟩:=I h
  refine T rfl (c137 c _ hx16)<|C rfl<|E (kt<|kt<|kt<|kt<|kn) fun _=>?_
  refine D<|F<|C rfl<|a9 rfl rfl<|E (kt<|kt<|kt<|kt<|kt<|kn) fun _=>?_
  refine S rfl (fun hc18=>?_) (fun hc18=>?_)
  ·replace h:=M hc18 h
   refine D<|F<|C rfl<|C rfl<|E (kt<|kn) fun _=>?_
   exact L (by cases h;rfl)
  ·replace h:=O hc18 h
   refine P (kt<|kt<|kt<|kn) fun _=>?_
   refine D<|F<|R rfl rfl (show _=eTypes t from rfl)<|R rfl rfl (show _=ePattern p from rfl)<|R rfl rfl (show _=eCondition c from rfl) ?_
   obtain ⟨x23,hx23,h⟩:=I h
   refine T rfl (c138 t p c _ hx23)<|C rfl<|E (kt<|kn) fun _=>?_
   exact L (by cases h;rfl)
theorem ck42:CK f42 (Rq [Af 2 0,Af 3 1,Ad 4 0] [2,3]<|Sq (Rq [Ae 13 2 2,Au 14 74 13,Aa 12 14,Am 15 12 0,Am 16 12 1,Aa 5 15,Aa 6 16] [2,3,6]<|Rq [Aa 17 6,Av 18 17 0] [2,3,6,18]<|Co 18 (Rq [Aa 19 6,Aa 4 19] [4]<|.ret)<|Sk [2,3])<|Sq (Rq [Ac 20 3 0,Ab 21 20,Au 22 75 21,Az 23 22] [2,3,23]<|Co 23 (Rq [Ad 4 2] [4]<|.ret)<|Sk [2,3])<|Sq (Rq [Ae 24 2 2,Ac 25 3 1,Ae 26 25 5,Al 27 76 24 26,Aa 7 27] [2,3,7]<|Rq [Aa 28 7,Av 29 28 0] [2,3,7,29]<|Co 29 (Rq [Aa 30 7,Aa 4 30] [4]<|.ret)<|Sk [2,3])<|Sq (Rq [Ae 31 2 2,Ae 32 3 25,Al 33 77 31 32,Aa 8 33] [2,3,8]<|Rq [Aa 34 8,Av 35 34 0] [2,3,8,35]<|Co 35 (Rq [Aa 36 8,Aa 4 36] [4]<|.ret)<|Sk [2,3])<|Sq (Rq [Ae 37 3 25,Au 38 78 37,Aa 9 38] [2,3,9]<|Rq [Aa 39 9,Av 40 39 0] [2,3,9,40]<|Co 40 (Rq [Aa 41 9,Aa 4 41] [4]<|.ret)<|Sk [2,3])<|Sq (Rq [Ac 42 3 13,Ai 43 42 0,Ab 44 43,Au 45 79 44,Az 46 45,Aa 47 46,Ar 48 3 13 47,Bi 49 48 1 47,Ao 50 49 47,Dm 51 79 50 47,Br 52 51 47,As 53 47 52] [2,3,53]<|Co 53 (Rq [Ad 4 11] [4]<|.ret)<|Sk [2,3])<|Rq [Ae 55 3 25,Au 56 71 55,Aa 54 56,Am 57 54 0,Am 58 54 1,Ay 10 57,Ay 11 58] [2,3,10,11]<|Sq (Rq [Ae 59 2 2,Ac 60 3 6,Ai 61 60 0,Ae 62 61 2,Aa 63 10,Aa 64 11,Bz 65 80 59 62 63 64,Az 66 65] [2,3,66]<|Co 66 (Rq [Ad 4 13] [4]<|.ret)<|Sk [2,3])<|Rq [Ae 67 2 2,Ac 68 3 1,Ae 69 68 5,Ac 70 3 16,Ae 71 70 9,Bg 72 81 67 69 71,Aa 4 72] [4]<|.ret) [.tmp 4]:= by decide +kernel
theorem c42 (t:Types) (r_1:Rule) (r:Int) (h:ref24_Valid t r_1=some r):Sound prog 42 [eTypes t,eRule r_1] (.sh (eI r)):= by
 refine Fn ck42 fun hw=>?_
 unfold ref24_Valid at h
 refine D<|F<|a4 rfl rfl<|a4 rfl rfl<|C rfl<|E (kt<|kt<|kn) fun _=>?_
 refine D<|D<|F<|R rfl rfl (show _=eTypes t from rfl) ?_
 obtain ⟨x14,hx14,h⟩:=I h
 refine e5 rfl (c74 t _ hx14)<|e6 rfl<|b2 rfl rfl<|b2 rfl rfl<|C rfl<|C rfl<|E (kt<|kt<|kt<|kn) fun _=>?_
 refine D<|F<|C rfl<|a9 rfl rfl<|E (kt<|kt<|kt<|kt<|kn) fun _=>?_
 refine S rfl (fun hc18=>?_) (fun hc18=>?_)
 ·replace h:=M hc18 h
  refine D<|F<|C rfl<|C rfl<|E (kt<|kn) fun _=>?_
  exact L (by cases h;rfl)
 ·replace h:=O hc18 h
  refine P (kt<|kt<|kn) fun _=>?_
  refine D<|D<|F<|K rfl<|J rfl ?_
  obtain ⟨x22,hx22,h⟩:=I h
  refine T rfl (c75 r_1.Name _ hx22)<|d0 rfl<|E (kt<|kt<|kt<|kn) fun _=>?_
  refine S rfl (fun hc23=>?_) (fun hc23=>?_)
  ·replace h:=M hc23 h
   refine D<|F<|C rfl<|E (kt<|kn) fun _=>?_
   exact L (by cases h;rfl)
  ·replace h:=O hc23 h
   refine P (kt<|kt<|kn) fun _=>?_
   refine D<|D<|F<|R rfl rfl (show _=eTypes t from rfl)<|K rfl<|R rfl rfl (show _=ePattern r_1.Left from rfl) ?_
   obtain ⟨x27,hx27,h⟩:=I h
   refine T rfl (c76 t r_1.Left _ hx27)<|C rfl<|E (kt<|kt<|kt<|kn) fun _=>?_
   refine D<|F<|C rfl<|a9 rfl rfl<|E (kt<|kt<|kt<|kt<|kn) fun _=>?_
   refine S rfl (fun hc29=>?_) (fun hc29=>?_)
   ·replace h:=M hc29 h
    refine D<|F<|C rfl<|C rfl<|E (kt<|kn) fun _=>?_
    exact L (by cases h;rfl)
   ·replace h:=O hc29 h
    refine P (kt<|kt<|kn) fun _=>?_
    refine D<|D<|F<|R rfl rfl (show _=eTypes t from rfl)<|R rfl rfl (show _=eRule r_1 from rfl) ?_
    obtain ⟨x33,hx33,h⟩:=I h
    refine T rfl (c77 t r_1 _ hx33)<|C rfl<|E (kt<|kt<|kt<|kn) fun _=>?_
    refine D<|F<|C rfl<|a9 rfl rfl<|E (kt<|kt<|kt<|kt<|kn) fun _=>?_
    refine S rfl (fun hc35=>?_) (fun hc35=>?_)
    ·replace h:=M hc35 h
     refine D<|F<|C rfl<|C rfl<|E (kt<|kn) fun _=>?_
     exact L (by cases h;rfl)
    ·replace h:=O hc35 h
     refine P (kt<|kt<|kn) fun _=>?_
     refine D<|D<|F<|R rfl rfl (show _=eRule r_1 from rfl) ?_
     obtain ⟨x38,hx38,h⟩:=I h
     refine T rfl (c78 r_1 _ hx38)<|C rfl<|E (kt<|kt<|kt<|kn) fun _=>?_
     refine D<|F<|C rfl<|a9 rfl rfl<|E (kt<|kt<|kt<|kt<|kn) fun _=>?_
     refine S rfl (fun hc40=>?_) (fun hc40=>?_)
     ·replace h:=M hc40 h
      refine D<|F<|C rfl<|C rfl<|E (kt<|kn) fun _=>?_
      exact L (by cases h;rfl)
     ·replace h:=O hc40 h
      refine P (kt<|kt<|kn) fun _=>?_
      refine D<|D<|F<|K rfl<|a6 rfl<|J rfl ?_
      obtain ⟨x45,hx45,h⟩:=I h
      refine T rfl (c79 r_1.Into.Nodes _ hx45)<|d0 rfl<|C rfl ?_
      obtain ⟨x53,hx53,h⟩:=I h
      refine gX 6 [48,49,50,51,52] 53 x53 (!x45) (fun hg53=>?_) (fun hg53=>?_) ?_
      ·replace h:=M hg53 hx53
       cases h
       refine H rfl hg53<|H rfl hg53<|H rfl hg53<|H rfl hg53<|H rfl hg53<|Y rfl hg53 rfl ?_
       exact ⟨⟨_,_,_,_,_,rfl⟩⟩
      ·replace h:=O hg53 hx53
       refine G rfl hg53<|K rfl<|G rfl hg53<|a6 rfl<|G rfl hg53<|J rfl ?_
       obtain ⟨x51,hx51,h⟩:=I h
       refine G rfl hg53<|T rfl (c79 r_1.Into.Edges _ hx51)<|G rfl hg53<|d0 rfl ?_
       cases h
       refine Z rfl hg53 rfl ?_
       exact ⟨⟨_,_,_,_,_,rfl⟩⟩
      rintro _ ⟨_,_,_,_,_,rfl⟩
      refine E (kt<|kt<|kt<|kn) fun _=>?_
      refine S rfl (fun hc53=>?_) (fun hc53=>?_)
      ·replace h:=M hc53 h
       refine D<|F<|C rfl<|E (kt<|kn) fun _=>?_
       exact L (by cases h;rfl)
      ·replace h:=O hc53 h
       refine P (kt<|kt<|kn) fun _=>?_
       refine D<|F<|R rfl rfl (show _=eRule r_1 from rfl) ?_
       obtain ⟨x56,hx56,h⟩:=I h
       refine e5 rfl (c71 r_1 _ hx56)<|e6 rfl<|b2 rfl rfl<|b2 rfl rfl<|f1 rfl<|f1 rfl<|E (kt<|kt<|kt<|kt<|kn) fun _=>?_
       refine D<|D<|F<|R rfl rfl (show _=eTypes t from rfl)<|K rfl<|a6 rfl<|R rfl rfl (show _=eGraph r_1.Right.Graph from rfl)<|C rfl<|C rfl ?_
       obtain ⟨x65,hx65,h⟩:=I h
       refine T rfl (c80 t r_1.Right.Graph x56.1 x56.2 _ hx65)<|d0 rfl<|E (kt<|kt<|kt<|kn) fun _=>?_
       refine S rfl (fun hc66=>?_) (fun hc66=>?_)
       ·replace h:=M hc66 h
        refine D<|F<|C rfl<|E (kt<|kn) fun _=>?_
        exact L (by cases h;rfl)
       ·replace h:=O hc66 h
        refine P (kt<|kt<|kn) fun _=>?_
        refine D<|F<|R rfl rfl (show _=eTypes t from rfl)<|K rfl<|R rfl rfl (show _=ePattern r_1.Left from rfl)<|K rfl<|R rfl rfl (show _=eCondition r_1.Condition from rfl) ?_
        obtain ⟨x72,hx72,h⟩:=I h
        refine T rfl (c81 t r_1.Left r_1.Condition _ hx72)<|C rfl<|E (kt<|kn) fun _=>?_
        exact L (by cases h;rfl)
theorem ck28:CK f28 (Rq [Af 2 0,Af 3 1,Bf 4 1,Bf 5 1,Ad 6 0] [2,3]<|Sq (Rq [Ae 10 2 2,Ae 11 3 25,Al 12 42 10 11,Aa 7 12] [3,7]<|Rq [Aa 13 7,Av 14 13 0] [3,7,14]<|Co 14 (Rq [Aa 15 7,Bf 4 1,Bf 5 1,Aa 6 15] [4,5,6]<|.ret)<|Sk [3])<|Rq [Ae 17 3 25,Au 18 71 17,Aa 16 18,Am 19 16 0,Am 20 16 1,Ay 8 19,Ay 9 20] [8,9]<|Rq [Aa 21 8,Aa 22 9,Ay 4 21,Ay 5 22,Ad 6 0] [4,5,6]<|.ret) [.tmp 4,.tmp 5,.tmp 6]:= by decide +kernel
theorem c28 (t:Types) (r_1:Rule) (r:(List Int × List Int × Int)) (h:ref24_Created t r_1=some r):Sound prog 28 [eTypes t,eRule r_1] (.tp [lI r.1,lI r.2.1,eI r.2.2]):= by
 refine Fn ck28 fun hw=>?_
 unfold ref24_Created at h
 refine D<|F<|a4 rfl rfl<|a4 rfl rfl<|f0<|f0<|C rfl<|E (kt<|kt<|kn) fun _=>?_
 refine D<|D<|F<|R rfl rfl (show _=eTypes t from rfl)<|R rfl rfl (show _=eRule r_1 from rfl) ?_
 obtain ⟨x12,hx12,h⟩:=I h
 refine T rfl (c42 t r_1 _ hx12)<|C rfl<|E (kt<|kt<|kn) fun _=>?_
 refine D<|F<|C rfl<|a9 rfl rfl<|E (kt<|kt<|kt<|kn) fun _=>?_
 refine S rfl (fun hc14=>?_) (fun hc14=>?_)
 ·replace h:=M hc14 h
  refine D<|F<|C rfl<|f0<|f0<|C rfl<|E (ko<|ko<|kt<|kn) fun _=>?_
  refine L ?_
  cases h
  exact ⟨by decide,rfl⟩
 ·replace h:=O hc14 h
  refine P (kt<|kn) fun _=>?_
  refine D<|F<|R rfl rfl (show _=eRule r_1 from rfl) ?_
  obtain ⟨x18,hx18,h⟩:=I h
  refine e5 rfl (c71 r_1 _ hx18)<|e6 rfl<|b2 rfl rfl<|b2 rfl rfl<|f1 rfl<|f1 rfl<|E (kt<|kt<|kn) fun _=>?_
  refine D<|F<|C rfl<|C rfl<|f1 rfl<|f1 rfl<|C rfl<|E (kt<|kt<|kt<|kn) fun _=>?_
  refine L ?_
  cases h
  exact ⟨by decide,rfl⟩
theorem ck31:CK f31 (Rq [Ak 4] [0,1,2]<|Sq (Dr [4,5,6,7,8,9] [Ab 5 1,Ab 6 2,Aa 7 0,Bw 8 6 7,Bw 9 5 8,Aa 4 9] [4])<|.ret) [.tmp 4]:= by decide +kernel
theorem c31 (n:Int) (c0:Int->Option Bool) (f_c0:FuncId) (k_c0:List TV) (h_c0:∀ (y0:Int) r,c0 y0=some r->Sound prog f_c0 ([eI y0]++k_c0) (.sh (eB r))) (c1:Int->Option Int) (f_c1:FuncId) (k_c1:List TV) (h_c1:∀ (y0:Int) r,c1 y0=some r->Sound prog f_c1 ([eI y0]++k_c1) (.sh (eI r))) (r:Bool) (h:law53_TripleruleMarks_1_1 n c0 c1=some r):Sound prog 31 [eI n,.pt [.clo f_c0 k_c0],.pt [.clo f_c1 k_c1]] (.sh (eB r)):= by
 refine Fn ck31 fun hw=>?_
 unfold law53_TripleruleMarks_1_1 at h
 refine D<|F<|C rfl<|E (kt<|kt<|kt<|kn) fun _=>?_
 refine D<|b9 rfl<|J rfl<|J rfl<|C rfl ?_
 obtain ⟨x8,hx8,h⟩:=I h
 refine g3 rfl rfl (h_c1 _ _ hx8) ?_
 obtain ⟨x9,hx9,h⟩:=I h
 refine g3 rfl rfl (h_c0 _ _ hx9)<|C rfl<|E (kt<|kn) fun _=>?_
 exact L (by cases h;rfl)
theorem ck29:CK f29 (Rq [Af 4 1,Af 5 2,Ak 6] [0,4,5]<|Rq [Aa 7 0,Dh 8 31 5 4,Al 9 30 7 8,Az 10 9,Aa 6 10] [6]<|.ret) [.tmp 6]:= by decide +kernel
theorem c29 (l:List Int) (kind:Int->Option Int) (f_kind:FuncId) (k_kind:List TV) (h_kind:∀ (y0:Int) r,kind y0=some r->Sound prog f_kind ([eI y0]++k_kind) (.sh (eI r))) (wrong:Int->Option Bool) (f_wrong:FuncId) (k_wrong:List TV) (h_wrong:∀ (y0:Int) r,wrong y0=some r->Sound prog f_wrong ([eI y0]++k_wrong) (.sh (eB r))) (r:Bool) (h:law53_TripleruleMarks_1 l kind wrong=some r):Sound prog 29 [lI l,.clo f_kind k_kind,.clo f_wrong k_wrong] (.sh (eB r)):= by
 refine Fn ck29 fun hw=>?_
 unfold law53_TripleruleMarks_1 at h
 refine D<|F<|a4 rfl rfl<|a4 rfl rfl<|C rfl<|E (kt<|kt<|kt<|kn) fun _=>?_
 refine D<|F<|C rfl<|g2 rfl ?_
 obtain ⟨x9,hx9,h⟩:=I h
 refine T rfl (c30 l (fun y0=>law53_TripleruleMarks_1_1 y0 wrong kind) _ _ (fun y0 r h=>c31 y0 wrong _ _ h_wrong kind _ _ h_kind r h) _ hx9)<|d0 rfl<|C rfl<|E (kt<|kn) fun _=>?_
 exact L (by cases h;rfl)
theorem ck32:CK f32 (Rq [Ad 4 0] [0,1,2]<|Sq (Dr [4,5,6,7,8,9,10,11,12,13,14,15] [Ac 5 1 0,Ab 6 5,Ac 7 2 1,Ai 8 7 0,Ai 9 8 0,Ab 10 9,Aa 11 0,Ag 12 10 11 1,Ab 13 12,Ag 14 6 13 1,Ab 15 14,Aa 4 15] [4])<|.ret) [.tmp 4]:= by decide +kernel
theorem c32 (n:Int) (c0:Sorts) (c1:Rule) (r:Int) (h:law53_TripleruleMarks_2 n c0 c1=some r):Sound prog 32 [eI n,.pt (eSorts c0).cells,.pt (eRule c1).cells] (.sh (eI r)):= by
 refine Fn ck32 fun hw=>?_
 unfold law53_TripleruleMarks_2 at h
 refine D<|F<|C rfl<|E (kt<|kt<|kt<|kn) fun _=>?_
 refine D<|b9 rfl<|K rfl<|J rfl<|K rfl<|a6 rfl<|a6 rfl<|J rfl<|C rfl ?_
 obtain ⟨x12,hx12,h⟩:=I h
 refine W rfl rfl rfl hx12 rfl<|J rfl ?_
 obtain ⟨x14,hx14,h⟩:=I h
 refine W rfl rfl rfl hx14 rfl<|J rfl<|C rfl<|E (kt<|kn) fun _=>?_
 exact L (by cases h;rfl)
theorem ck33:CK f33 (Rq [Ad 4 0] [0,1,2]<|Sq (Dr [4,5,6,7,8,9,10,11,12,13,14,15] [Ac 5 1 0,Ab 6 5,Ac 7 2 6,Ai 8 7 0,Ai 9 8 0,Ab 10 9,Aa 11 0,Ag 12 10 11 1,Ab 13 12,Ag 14 6 13 1,Ab 15 14,Aa 4 15] [4])<|.ret) [.tmp 4]:= by decide +kernel
theorem c33 (n:Int) (c0:Sorts) (c1:Rule) (r:Int) (h:law53_TripleruleMarks_3 n c0 c1=some r):Sound prog 33 [eI n,.pt (eSorts c0).cells,.pt (eRule c1).cells] (.sh (eI r)):= by
 refine Fn ck33 fun hw=>?_
 unfold law53_TripleruleMarks_3 at h
 refine D<|F<|C rfl<|E (kt<|kt<|kt<|kn) fun _=>?_
 refine D<|b9 rfl<|K rfl<|J rfl<|K rfl<|a6 rfl<|a6 rfl<|J rfl<|C rfl ?_
 obtain ⟨x12,hx12,h⟩:=I h
 refine W rfl rfl rfl hx12 rfl<|J rfl ?_
 obtain ⟨x14,hx14,h⟩:=I h
 refine W rfl rfl rfl hx14 rfl<|J rfl<|C rfl<|E (kt<|kn) fun _=>?_
 exact L (by cases h;rfl)
theorem ck34:CK f34 (Rq [Ad 4 0] [0,1,2]<|Sq (Dr [4,5,6,7,8,9,10,11,12,13,14,15,16] [Ac 5 1 1,Ab 6 5,Ac 7 2 6,Ai 8 7 0,Ai 9 8 1,Ab 10 9,Aa 11 0,Ag 12 10 11 3,Ai 13 12 0,Ab 14 13,Ag 15 6 14 1,Ab 16 15,Aa 4 16] [4])<|.ret) [.tmp 4]:= by decide +kernel
theorem c34 (n:Int) (c0:Sorts) (c1:Rule) (r:Int) (h:law53_TripleruleMarks_4 n c0 c1=some r):Sound prog 34 [eI n,.pt (eSorts c0).cells,.pt (eRule c1).cells] (.sh (eI r)):= by
 refine Fn ck34 fun hw=>?_
 unfold law53_TripleruleMarks_4 at h
 refine D<|F<|C rfl<|E (kt<|kt<|kt<|kn) fun _=>?_
 refine D<|b9 rfl<|K rfl<|J rfl<|K rfl<|a6 rfl<|a6 rfl<|J rfl<|C rfl ?_
 obtain ⟨x12,hx12,h⟩:=I h
 refine W rfl rfl rfl hx12 rfl<|a6 rfl<|J rfl ?_
 obtain ⟨x15,hx15,h⟩:=I h
 refine W rfl rfl rfl hx15 rfl<|J rfl<|C rfl<|E (kt<|kn) fun _=>?_
 exact L (by cases h;rfl)
theorem ck35:CK f35 (Rq [Ak 2] [0]<|Rq [Aa 3 0,Av 4 3 1,Aa 2 4] [2]<|.ret) [.tmp 2]:= by decide +kernel
theorem c35 (k:Int) (r:Bool) (h:law53_TripleruleMarks_5 k=some r):Sound prog 35 [eI k] (.sh (eB r)):= by
 refine Fn ck35 fun hw=>?_
 unfold law53_TripleruleMarks_5 at h
 refine D<|F<|C rfl<|E (kt<|kn) fun _=>?_
 refine D<|F<|C rfl<|a9 rfl rfl<|C rfl<|E (kt<|kn) fun _=>?_
 exact L (by cases h;rfl)
theorem ck36:CK f36 (Rq [Ak 2] [0]<|Rq [Aa 3 0,Be 4 3 1,Aa 2 4] [2]<|.ret) [.tmp 2]:= by decide +kernel
theorem c36 (k:Int) (r:Bool) (h:law53_TripleruleMarks_6 k=some r):Sound prog 36 [eI k] (.sh (eB r)):= by
 refine Fn ck36 fun hw=>?_
 unfold law53_TripleruleMarks_6 at h
 refine D<|F<|C rfl<|E (kt<|kn) fun _=>?_
 refine D<|F<|C rfl<|d1 rfl rfl<|C rfl<|E (kt<|kn) fun _=>?_
 exact L (by cases h;rfl)
theorem ck37:CK f37 (Rq [Ak 2] [0]<|Rq [Aa 3 0,Be 4 3 1,Aa 2 4] [2]<|.ret) [.tmp 2]:= by decide +kernel
theorem c37 (k:Int) (r:Bool) (h:law53_TripleruleMarks_7 k=some r):Sound prog 37 [eI k] (.sh (eB r)):= by
 refine Fn ck37 fun hw=>?_
 unfold law53_TripleruleMarks_7 at h
 refine D<|F<|C rfl<|E (kt<|kn) fun _=>?_
 refine D<|F<|C rfl<|d1 rfl rfl<|C rfl<|E (kt<|kn) fun _=>?_
 exact L (by cases h;rfl)
theorem ck38:CK f38 (Rq [Ak 2] [0]<|Rq [Aa 3 0,Av 4 3 2,Aa 2 4] [2]<|.ret) [.tmp 2]:= by decide +kernel
theorem c38 (k:Int) (r:Bool) (h:law53_TripleruleMarks_8 k=some r):Sound prog 38 [eI k] (.sh (eB r)):= by
 refine Fn ck38 fun hw=>?_
 unfold law53_TripleruleMarks_8 at h
 refine D<|F<|C rfl<|E (kt<|kn) fun _=>?_
 refine D<|F<|C rfl<|a9 rfl rfl<|C rfl<|E (kt<|kn) fun _=>?_
 exact L (by cases h;rfl)
theorem ck39:CK f39 (Rq [Ak 2] [0]<|Rq [Aa 3 0,Av 4 3 2,Aa 2 4] [2]<|.ret) [.tmp 2]:= by decide +kernel
theorem c39 (k:Int) (r:Bool) (h:law53_TripleruleMarks_9 k=some r):Sound prog 39 [eI k] (.sh (eB r)):= by
 refine Fn ck39 fun hw=>?_
 unfold law53_TripleruleMarks_9 at h
 refine D<|F<|C rfl<|E (kt<|kn) fun _=>?_
 refine D<|F<|C rfl<|a9 rfl rfl<|C rfl<|E (kt<|kn) fun _=>?_
 exact L (by cases h;rfl)
end Go.Sf.Sc
