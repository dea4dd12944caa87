/- Contracts of the functions. -/
import Derived.Test.YtbedpmpjdnooiaaGreatCon2
import Derived.Test.YtbedpmpjdnooiaaGreatTryzShelf
set_option maxRecDepth 100000
namespace Go.Sf.Sc
open Go Go.Sf Go.Proofs.Tryz
theorem ck42:CK f42 (Rq [Af 2 0,Af 3 1,Ad 4 0] [2,3]<|Sq (Rq [Ae 13 2 2,Au 14 74 13,Aa 12 14,At 15 12 0,At 16 12 1,Aa 5 15,Aa 6 16] [2,3,6]<|Rq [Aa 17 6,Ax 18 17 0] [2,3,6,18]<|Co 18 (Rq [Aa 19 6,Aa 4 19] [4]<|.ret)<|Sk [2,3])<|Sq (Rq [Ac 20 3 0,Ab 21 20,Au 22 75 21,Ay 23 22] [2,3,23]<|Co 23 (Rq [Ad 4 2] [4]<|.ret)<|Sk [2,3])<|Sq (Rq [Ae 24 2 2,Ac 25 3 1,Ae 26 25 5,An 27 76 24 26,Aa 7 27] [2,3,7]<|Rq [Aa 28 7,Ax 29 28 0] [2,3,7,29]<|Co 29 (Rq [Aa 30 7,Aa 4 30] [4]<|.ret)<|Sk [2,3])<|Sq (Rq [Ae 31 2 2,Ae 32 3 25,An 33 77 31 32,Aa 8 33] [2,3,8]<|Rq [Aa 34 8,Ax 35 34 0] [2,3,8,35]<|Co 35 (Rq [Aa 36 8,Aa 4 36] [4]<|.ret)<|Sk [2,3])<|Sq (Rq [Ae 37 3 25,Au 38 78 37,Aa 9 38] [2,3,9]<|Rq [Aa 39 9,Ax 40 39 0] [2,3,9,40]<|Co 40 (Rq [Aa 41 9,Aa 4 41] [4]<|.ret)<|Sk [2,3])<|Sq (Rq [Ac 42 3 13,Aj 43 42 0,Ab 44 43,Au 45 79 44,Ay 46 45,Aa 47 46,Am 48 3 13 47,Bi 49 48 1 47,Al 50 49 47,Dp 51 79 50 47,Bq 52 51 47,Ar 53 47 52] [2,3,53]<|Co 53 (Rq [Ad 4 11] [4]<|.ret)<|Sk [2,3])<|Rq [Ae 55 3 25,Au 56 71 55,Aa 54 56,At 57 54 0,At 58 54 1,Bb 10 57,Bb 11 58] [2,3,10,11]<|Sq (Rq [Ae 59 2 2,Ac 60 3 6,Aj 61 60 0,Ae 62 61 2,Aa 63 10,Aa 64 11,Cg 65 80 59 62 63 64,Ay 66 65] [2,3,66]<|Co 66 (Rq [Ad 4 13] [4]<|.ret)<|Sk [2,3])<|Rq [Ae 67 2 2,Ac 68 3 1,Ae 69 68 5,Ac 70 3 16,Ae 71 70 9,Bf 72 81 67 69 71,Aa 4 72] [4]<|.ret) [.tmp 4]:= by decide +kernel
theorem c42 (t:Types) (r_1:Rule) (r:Int) (h:ref24_Valid t r_1=some r):Sound prog 42 [eTypes t,eRule r_1] (.sh (eI r)):= by
 refine Fn ck42 fun hw=>?_
 unfold ref24_Valid at h
 refine D<|F<|a1 rfl rfl<|a1 rfl rfl<|C rfl<|E (kt<|kt<|kn) fun _=>?_
 refine D<|D<|F<|R rfl rfl (show _=eTypes t from rfl) ?_
 obtain ⟨x14,hx14,h⟩:=J h
 refine e6 rfl (c74 t _ hx14)<|e8 rfl<|b9 rfl rfl<|b9 rfl rfl<|C rfl<|C rfl<|E (kt<|kt<|kt<|kn) fun _=>?_
 refine D<|F<|C rfl<|a7 rfl rfl<|E (kt<|kt<|kt<|kt<|kn) fun _=>?_
 refine U rfl (fun hc18=>?_) (fun hc18=>?_)
 ·replace h:=M hc18 h
  refine D<|F<|C rfl<|C rfl<|E (kt<|kn) fun _=>?_
  exact L (by cases h;rfl)
 ·replace h:=O hc18 h
  refine P (kt<|kt<|kn) fun _=>?_
  refine D<|D<|F<|K rfl<|I rfl ?_
  obtain ⟨x22,hx22,h⟩:=J h
  refine W rfl (c75 r_1.Name _ hx22)<|b7 rfl<|E (kt<|kt<|kt<|kn) fun _=>?_
  refine U rfl (fun hc23=>?_) (fun hc23=>?_)
  ·replace h:=M hc23 h
   refine D<|F<|C rfl<|E (kt<|kn) fun _=>?_
   exact L (by cases h;rfl)
  ·replace h:=O hc23 h
   refine P (kt<|kt<|kn) fun _=>?_
   refine D<|D<|F<|R rfl rfl (show _=eTypes t from rfl)<|K rfl<|R rfl rfl (show _=ePattern r_1.Left from rfl) ?_
   obtain ⟨x27,hx27,h⟩:=J h
   refine W rfl (c76 t r_1.Left _ hx27)<|C rfl<|E (kt<|kt<|kt<|kn) fun _=>?_
   refine D<|F<|C rfl<|a7 rfl rfl<|E (kt<|kt<|kt<|kt<|kn) fun _=>?_
   refine U rfl (fun hc29=>?_) (fun hc29=>?_)
   ·replace h:=M hc29 h
    refine D<|F<|C rfl<|C rfl<|E (kt<|kn) fun _=>?_
    exact L (by cases h;rfl)
   ·replace h:=O hc29 h
    refine P (kt<|kt<|kn) fun _=>?_
    refine D<|D<|F<|R rfl rfl (show _=eTypes t from rfl)<|R rfl rfl (show _=eRule r_1 from rfl) ?_
    obtain ⟨x33,hx33,h⟩:=J h
    refine W rfl (c77 t r_1 _ hx33)<|C rfl<|E (kt<|kt<|kt<|kn) fun _=>?_
    refine D<|F<|C rfl<|a7 rfl rfl<|E (kt<|kt<|kt<|kt<|kn) fun _=>?_
    refine U rfl (fun hc35=>?_) (fun hc35=>?_)
    ·replace h:=M hc35 h
     refine D<|F<|C rfl<|C rfl<|E (kt<|kn) fun _=>?_
     exact L (by cases h;rfl)
    ·replace h:=O hc35 h
     refine P (kt<|kt<|kn) fun _=>?_
     refine D<|D<|F<|R rfl rfl (show _=eRule r_1 from rfl) ?_
     obtain ⟨x38,hx38,h⟩:=J h
     refine W rfl (c78 r_1 _ hx38)<|C rfl<|E (kt<|kt<|kt<|kn) fun _=>?_
     refine D<|F<|C rfl<|a7 rfl rfl<|E (kt<|kt<|kt<|kt<|kn) fun _=>?_
     refine U rfl (fun hc40=>?_) (fun hc40=>?_)
     ·replace h:=M hc40 h
      refine D<|F<|C rfl<|C rfl<|E (kt<|kn) fun _=>?_
      exact L (by cases h;rfl)
     ·replace h:=O hc40 h
      refine P (kt<|kt<|kn) fun _=>?_
      refine D<|D<|F<|K rfl<|a6 rfl<|I rfl ?_
      obtain ⟨x45,hx45,h⟩:=J h
      refine W rfl (c79 r_1.Into.Nodes _ hx45)<|b7 rfl<|C rfl ?_
      obtain ⟨x53,hx53,h⟩:=J h
      refine gX 6 [48,49,50,51,52] 53 x53 (!x45) (fun hg53=>?_) (fun hg53=>?_) ?_
      ·replace h:=M hg53 hx53
       cases h
       refine H rfl hg53<|H rfl hg53<|H rfl hg53<|H rfl hg53<|H rfl hg53<|Z rfl hg53 rfl ?_
       exact ⟨⟨_,_,_,_,_,rfl⟩⟩
      ·replace h:=O hg53 hx53
       refine G rfl hg53<|K rfl<|G rfl hg53<|a6 rfl<|G rfl hg53<|I rfl ?_
       obtain ⟨x51,hx51,h⟩:=J h
       refine G rfl hg53<|W rfl (c79 r_1.Into.Edges _ hx51)<|G rfl hg53<|b7 rfl ?_
       cases h
       refine a0 rfl hg53 rfl ?_
       exact ⟨⟨_,_,_,_,_,rfl⟩⟩
      rintro _ ⟨_,_,_,_,_,rfl⟩
      refine E (kt<|kt<|kt<|kn) fun _=>?_
      refine U rfl (fun hc53=>?_) (fun hc53=>?_)
      ·replace h:=M hc53 h
       refine D<|F<|C rfl<|E (kt<|kn) fun _=>?_
       exact L (by cases h;rfl)
      ·replace h:=O hc53 h
       refine P (kt<|kt<|kn) fun _=>?_
       refine D<|F<|R rfl rfl (show _=eRule r_1 from rfl) ?_
       obtain ⟨x56,hx56,h⟩:=J h
       refine e6 rfl (c71 r_1 _ hx56)<|e8 rfl<|b9 rfl rfl<|b9 rfl rfl<|g1 rfl<|g1 rfl<|E (kt<|kt<|kt<|kt<|kn) fun _=>?_
       refine D<|D<|F<|R rfl rfl (show _=eTypes t from rfl)<|K rfl<|a6 rfl<|R rfl rfl (show _=eGraph r_1.Right.Graph from rfl)<|C rfl<|C rfl ?_
       obtain ⟨x65,hx65,h⟩:=J h
       refine W rfl (c80 t r_1.Right.Graph x56.1 x56.2 _ hx65)<|b7 rfl<|E (kt<|kt<|kt<|kn) fun _=>?_
       refine U rfl (fun hc66=>?_) (fun hc66=>?_)
       ·replace h:=M hc66 h
        refine D<|F<|C rfl<|E (kt<|kn) fun _=>?_
        exact L (by cases h;rfl)
       ·replace h:=O hc66 h
        refine P (kt<|kt<|kn) fun _=>?_
        refine D<|F<|R rfl rfl (show _=eTypes t from rfl)<|K rfl<|R rfl rfl (show _=ePattern r_1.Left from rfl)<|K rfl<|R rfl rfl (show _=eCondition r_1.Condition from rfl) ?_
        obtain ⟨x72,hx72,h⟩:=J h
        refine W rfl (c81 t r_1.Left r_1.Condition _ hx72)<|C rfl<|E (kt<|kn) fun _=>?_
        exact L (by cases h;rfl)
theorem ck108:CK f108 (Rq [Ai 2] [0]<|Rq [Aa 3 0,Bo 4 3 1,Aa 5 4,As 6 0 5,Cn 7 6 3 5,Aq 8 5 7,Aa 2 8] [2]<|.ret) [.tmp 2]:= by decide +kernel
theorem c108 (n:Int) (r:Bool) (h:ref52_sort n=some r):Sound prog 108 [eI n] (.sh (eB r)):= by
 refine Fn ck108 fun hw=>?_
 unfold ref52_sort at h
 refine D<|F<|C rfl<|E (kt<|kn) fun _=>?_
 refine D<|F<|C rfl<|d6 rfl rfl<|C rfl ?_
 refine gA 3 [6,7] 8 (decide (1<=n)) (decide (n<=3)) (fun hg8=>?_) (fun hg8=>?_) ?_
 ·refine G rfl hg8<|C rfl<|G rfl hg8<|f1 rfl rfl<|Z rfl hg8 rfl ?_
  exact ⟨⟨_,_,rfl⟩⟩
 ·refine H rfl hg8<|H rfl hg8<|a0 rfl hg8 rfl ?_
  exact ⟨⟨_,_,rfl⟩⟩
 rintro _ ⟨_,_,rfl⟩
 refine C rfl<|E (kt<|kn) fun _=>?_
 exact L (by cases h;rfl)
theorem ck57:CK f57 (Rq [Af 2 0,Af 3 1,Ad 4 0] [2,3]<|Sq (Rq [Ae 13 2 2,Au 14 74 13,Aa 12 14,At 15 12 0,At 16 12 1,Aa 5 15,Aa 6 16] [2,3,6]<|Rq [Aa 17 6,Ax 18 17 0] [2,3,6,18]<|Co 18 (Rq [Aa 19 6,Aa 4 19] [4]<|.ret)<|Sk [2,3])<|Sq (Rq [Ac 20 3 0,Ab 21 20,Ag 22 21,Ac 23 2 0,Ab 24 23,Ag 25 24,Bs 26 22 25,Aa 27 26,Am 28 3 1 27,Al 29 28 27,Ba 30 29 27,Am 31 2 1 27,Al 32 31 27,Ba 33 32 27,Cj 34 30 33 27,Ar 35 27 34] [2,3,35]<|Co 35 (Rq [Ad 4 20] [4]<|.ret)<|Sk [2,3])<|Sq (Rq [Ad 7 0] [2,3,7]<|Bl 0<|Lo [2,3,7]<|Sq (Rq [Aa 36 7,Ac 37 2 0,Ab 38 37,Ag 39 38,Ap 40 36 39] [2,3,7,40]<|Co 40 (Sk [2,3,7])<|Ex 0 [2,3])<|Sq (Bl 1<|Sq (Rq [Ac 43 3 0,Ab 44 43,Aa 45 7,Ah 46 44 45 1,Ab 47 46,Au 48 108 47,Ay 49 48] [2,3,7,49]<|Co 49 (Rq [Ad 4 6] [4]<|.ret)<|Sk [2,3,7])<|Rq [Ac 50 2 0,Ab 51 50,Aa 52 7,Ah 53 51 52 4,Aj 54 53 1,Ab 55 54,Aa 8 55] [2,3,7,8]<|Sq (Dr [56,57,58,59,60,61,62,63,64,65,66,67,68,69,70] [Aa 56 8,Bo 57 56 0,Aa 58 57,Av 59 3 0 58,Aw 60 59 58,As 61 8 58,Cb 62 60 61 1 58,Aw 63 62 58,Av 64 3 0 58,Aw 65 64 58,As 66 7 58,Cb 67 65 66 1 58,Aw 68 67 58,El 69 63 68 58,Aq 70 58 69] [2,3,7,70])<|Co 70 (Rq [Ad 4 13] [4]<|.ret)<|Sk [2,3,7])<|Re [Aa 41 7,Ao 42 41 1,Aa 7 42] [2,3,7])<|Sq (Rq [Ad 9 0] [2,3,9]<|Bl 2<|Lo [2,3,9]<|Sq (Rq [Aa 71 9,Ac 72 2 1,Ab 73 72,Ag 74 73,Ap 75 71 74] [2,3,9,75]<|Co 75 (Sk [2,3,9])<|Ex 2 [])<|Sq (Bl 3<|Sq (Rq [Ac 78 3 1,Ab 79 78,Aa 80 9,Ah 81 79 80 1,Ab 82 81,Au 83 108 82,Ay 84 83] [2,3,9,84]<|Co 84 (Rq [Ad 4 6] [4]<|.ret)<|Sk [2,3,9])<|Sq (Dr [10,11,85,86,87,88,89,90,91,92,93,94,95,96,97,98,99,100,101,102,103,104] [Ac 85 3 0,Ab 86 85,Ac 87 2 1,Ab 88 87,Aa 89 9,Ah 90 88 89 7,Aj 91 90 1,Ab 92 91,Ah 93 86 92 1,Ab 94 93,Ac 95 3 0,Ab 96 95,Ac 97 2 1,Ab 98 97,Aa 99 9,Ah 100 98 99 7,Aj 101 100 2,Ab 102 101,Ah 103 96 102 1,Ab 104 103,Aa 10 94,Aa 11 104] [2,3,9,10,11])<|Rq [Aa 105 10,Ac 106 3 1,Ab 107 106,Aa 108 9,Ah 109 107 108 1,Ab 110 109,Bs 111 105 110,Aa 112 111,Am 113 3 1 112,Al 114 113 112,Az 115 9 112,Cr 116 114 115 1 112,Al 117 116 112,Ff 118 117 2 112,Az 119 118 112,As 120 11 119,Av 121 3 1 119,Aw 122 121 119,As 123 9 119,Cb 124 122 123 1 119,Aw 125 124 119,El 126 120 125 119,Ct 127 119 126 112,Ar 128 112 127,Aa 129 128,Am 130 3 1 129,Al 131 130 129,Az 132 9 129,Cr 133 131 132 1 129,Al 134 133 129,Dv 135 134 2 129,Az 136 135 129,As 137 11 136,Cs 138 137 2 136,Ct 139 136 138 129,Ar 140 129 139] [2,3,9,140]<|Co 140 (Rq [Ad 4 13] [4]<|.ret)<|Sk [2,3,9])<|Re [Aa 76 9,Ao 77 76 1,Aa 9 77] [2,3,9])<|Rq [Ad 4 0] [4]<|.ret) [.tmp 4]:= by decide +kernel
theorem c57 (t:Types) (s_1:Sorts) (r:Int) (h:ref52_Sorts t s_1=some r):Sound prog 57 [eTypes t,eSorts s_1] (.sh (eI r)):= by
 refine Fn ck57 fun hw=>?_
 unfold ref52_Sorts at h
 refine D<|F<|a1 rfl rfl<|a1 rfl rfl<|C rfl<|E (kt<|kt<|kn) fun _=>?_
 refine D<|D<|F<|R rfl rfl (show _=eTypes t from rfl) ?_
 obtain ⟨x14,hx14,h⟩:=J h
 refine e6 rfl (c74 t _ hx14)<|e8 rfl<|b9 rfl rfl<|b9 rfl rfl<|C rfl<|C rfl<|E (kt<|kt<|kt<|kn) fun _=>?_
 refine D<|F<|C rfl<|a7 rfl rfl<|E (kt<|kt<|kt<|kt<|kn) fun _=>?_
 refine U rfl (fun hc18=>?_) (fun hc18=>?_)
 ·replace h:=M hc18 h
  refine D<|F<|C rfl<|C rfl<|E (kt<|kn) fun _=>?_
  exact L (by cases h;rfl)
 ·replace h:=O hc18 h
  refine P (kt<|kt<|kn) fun _=>?_
  refine D<|D<|F<|K rfl<|I rfl<|V rfl rfl<|K rfl<|I rfl<|V rfl rfl<|a7 rfl rfl<|C rfl ?_
  refine gO 8 [28,29,30,31,32,33,34] 35 (!decide ((s_1.Nodes.length:Int)=(t.Nodes.length:Int))) (!decide ((s_1.Edges.length:Int)=(t.Edges.length:Int))) (fun hg35=>?_) (fun hg35=>?_) ?_
  ·refine H rfl hg35<|H rfl hg35<|H rfl hg35<|H rfl hg35<|H rfl hg35<|H rfl hg35<|H rfl hg35<|Z rfl hg35 rfl ?_
   exact ⟨⟨_,_,_,_,_,_,_,rfl⟩⟩
  ·refine G rfl hg35<|K rfl<|G rfl hg35<|I rfl<|G rfl hg35<|V rfl rfl<|G rfl hg35<|K rfl<|G rfl hg35<|I rfl<|G rfl hg35<|V rfl rfl<|G rfl hg35<|a7 rfl rfl<|a0 rfl hg35 rfl ?_
   exact ⟨⟨_,_,_,_,_,_,_,rfl⟩⟩
  rintro _ ⟨_,_,_,_,_,_,_,rfl⟩
  refine E (kt<|kt<|kt<|kn) fun _=>?_
  refine U rfl (fun hc35=>?_) (fun hc35=>?_)
  ·replace h:=M hc35 h
   refine D<|F<|C rfl<|E (kt<|kn) fun _=>?_
   exact L (by cases h;rfl)
  ·replace h:=O hc35 h
   refine P (kt<|kt<|kn) fun _=>?_
   refine D<|D<|F<|C rfl<|E (kt<|kt<|kt<|kn) fun _=>?_
   obtain ⟨o0,ho0,h⟩:=d0 h
   refine d5 ho0 (fun (i0:Int) (_:Unit)=>[(2,.tv (.pt (eTypes t).cells)),(3,.tv (.pt (eSorts s_1).cells)),(7,.tv (eI i0))]) (fun (_:Unit)=>[(2,.tv (.pt (eTypes t).cells)),(3,.tv (.pt (eSorts s_1).cells))]) (fun zv ze=>resIs ([.tmp 4]) (.sh (eI zv)) ze) rfl ?_ ?_ ?_ ?_
   ·clear h ho0
    intro i0 s0 r0 hi0 h hw0
    refine D<|D<|F<|C rfl<|K rfl<|I rfl<|V rfl rfl<|X rfl rfl<|E (kt<|kt<|kt<|kt<|kn) fun _=>?_
    refine b3 rfl (b4 hi0)<|P (kt<|kt<|kt<|kn) fun _=>?_
    refine D<|a8<|D<|D<|F<|K rfl<|I rfl<|C rfl ?_
    obtain ⟨x46,hx46,h⟩:=J h
    refine a2 rfl rfl rfl hx46 rfl<|I rfl ?_
    obtain ⟨x48,hx48,h⟩:=J h
    refine W rfl (c108 x46 _ hx48)<|b7 rfl<|E (kt<|kt<|kt<|kt<|kn) fun _=>?_
    refine U rfl (fun hc49=>?_) (fun hc49=>?_)
    ·replace h:=M hc49 h
     refine D<|F<|C rfl<|E (kt<|kn) fun _=>?_
     refine L ?_
     cases h
     exact ⟨_,rfl,rfl⟩
    ·replace h:=O hc49 h
     refine P (kt<|kt<|kt<|kn) fun _=>?_
     refine D<|F<|K rfl<|I rfl<|C rfl ?_
     obtain ⟨x53,hx53,h⟩:=J h
     refine a2 rfl rfl rfl hx53 rfl<|a6 rfl<|I rfl<|C rfl<|E (kt<|kt<|kt<|kt<|kn) fun _=>?_
     refine D<|d4 rfl<|C rfl<|d6 rfl rfl<|C rfl ?_
     obtain ⟨x70,hx70,h⟩:=J h
     refine gX 12 [59,60,61,62,63,64,65,66,67,68,69] 70 x70 (decide (0<=x53.Parent)) (fun hg70=>?_) (fun hg70=>?_) ?_
     ·replace h:=M hg70 hx70
      refine G rfl hg70<|K rfl<|G rfl hg70<|I rfl<|G rfl hg70<|C rfl ?_
      obtain ⟨x62,hx62,h⟩:=J h
      refine G rfl hg70<|a2 rfl rfl rfl hx62 rfl<|G rfl hg70<|I rfl<|G rfl hg70<|K rfl<|G rfl hg70<|I rfl<|G rfl hg70<|C rfl ?_
      obtain ⟨x67,hx67,h⟩:=J h
      refine G rfl hg70<|a2 rfl rfl rfl hx67 rfl<|G rfl hg70<|I rfl<|G rfl hg70<|a7 rfl rfl ?_
      cases h
      refine Z rfl hg70 rfl ?_
      exact ⟨⟨_,_,_,_,_,_,_,_,_,_,_,rfl⟩⟩
     ·replace h:=O hg70 hx70
      cases h
      refine H rfl hg70<|H rfl hg70<|H rfl hg70<|H rfl hg70<|H rfl hg70<|H rfl hg70<|H rfl hg70<|H rfl hg70<|H rfl hg70<|H rfl hg70<|H rfl hg70<|a0 rfl hg70 rfl ?_
      exact ⟨⟨_,_,_,_,_,_,_,_,_,_,_,rfl⟩⟩
     rintro _ ⟨_,_,_,_,_,_,_,_,_,_,_,rfl⟩
     refine E (kt<|kt<|kt<|kt<|kn) fun _=>?_
     refine U rfl (fun hc70=>?_) (fun hc70=>?_)
     ·replace h:=M hc70 h
      refine D<|F<|C rfl<|E (kt<|kn) fun _=>?_
      refine L ?_
      cases h
      exact ⟨_,rfl,rfl⟩
     ·replace h:=O hc70 h
      refine P (kt<|kt<|kt<|kn) fun _=>?_
      refine F<|C rfl<|a5 rfl rfl<|C rfl<|E (kt<|kt<|kt<|kn) ?_
      cases h
      refine ⟨_,rfl,?_⟩
      rw [Ktv rfl (Ktv rfl (Ktv rfl (Knil _)))]
      rw [b2 (a4 (hw0 7)) hi0 (e4 (e9 (f0 (hw0 2)) (i:=0) rfl) rfl)]
      all_goals rfl
   ·intro i0 s0 hi0
    refine D<|D<|F<|C rfl<|K rfl<|I rfl<|V rfl rfl<|X rfl rfl<|E (kt<|kt<|kt<|kt<|kn) fun _=>?_
    refine b5 rfl (b6 hi0)<|b0 (kt<|kt<|kn) ?_
    exact ⟨rfl,rfl⟩
   ·intro s0 hs
    replace h:=d1 h hs
    intro _
    refine D<|D<|F<|C rfl<|E (kt<|kt<|kt<|kn) fun _=>?_
    obtain ⟨o2,ho2,h⟩:=d0 h
    refine d5 ho2 (fun (i2:Int) (_:Unit)=>[(2,.tv (.pt (eTypes t).cells)),(3,.tv (.pt (eSorts s_1).cells)),(9,.tv (eI i2))]) (fun (_:Unit)=>[]) (fun zv ze=>resIs ([.tmp 4]) (.sh (eI zv)) ze) rfl ?_ ?_ ?_ ?_
    ·clear h ho2
     intro i2 s2 r2 hi2 h hw2
     refine D<|D<|F<|C rfl<|K rfl<|I rfl<|V rfl rfl<|X rfl rfl<|E (kt<|kt<|kt<|kt<|kn) fun _=>?_
     refine b3 rfl (b4 hi2)<|P (kt<|kt<|kt<|kn) fun _=>?_
     refine D<|a8<|D<|D<|F<|K rfl<|I rfl<|C rfl ?_
     obtain ⟨x81,hx81,h⟩:=J h
     refine a2 rfl rfl rfl hx81 rfl<|I rfl ?_
     obtain ⟨x83,hx83,h⟩:=J h
     refine W rfl (c108 x81 _ hx83)<|b7 rfl<|E (kt<|kt<|kt<|kt<|kn) fun _=>?_
     refine U rfl (fun hc84=>?_) (fun hc84=>?_)
     ·replace h:=M hc84 h
      refine D<|F<|C rfl<|E (kt<|kn) fun _=>?_
      refine L ?_
      cases h
      exact ⟨_,rfl,rfl⟩
     ·replace h:=O hc84 h
      refine P (kt<|kt<|kt<|kn) fun _=>?_
      refine D<|d4 rfl<|K rfl<|I rfl<|K rfl<|I rfl<|C rfl ?_
      obtain ⟨x90,hx90,h⟩:=J h
      refine a2 rfl rfl rfl hx90 rfl<|a6 rfl<|I rfl ?_
      obtain ⟨x93,hx93,h⟩:=J h
      refine a2 rfl rfl rfl hx93 rfl<|I rfl<|K rfl<|I rfl<|K rfl<|I rfl<|C rfl ?_
      obtain ⟨x100,hx100,h⟩:=J h
      refine a2 rfl rfl rfl hx100 rfl<|a6 rfl<|I rfl ?_
      obtain ⟨x103,hx103,h⟩:=J h
      refine a2 rfl rfl rfl hx103 rfl<|I rfl<|C rfl<|C rfl<|E (kt<|kt<|kt<|kt<|kt<|kn) fun _=>?_
      refine D<|F<|C rfl<|K rfl<|I rfl<|C rfl ?_
      obtain ⟨x109,hx109,h⟩:=J h
      refine a2 rfl rfl rfl hx109 rfl<|I rfl<|a7 rfl rfl<|C rfl ?_
      obtain ⟨x128,hx128,h⟩:=J h
      refine gX 16 [113,114,115,116,117,118,119,120,121,122,123,124,125,126,127] 128 x128 (!decide (x93=x109)) (fun hg128=>?_) (fun hg128=>?_) ?_
      ·replace h:=M hg128 hx128
       cases h
       refine H rfl hg128<|H rfl hg128<|H rfl hg128<|H rfl hg128<|H rfl hg128<|H rfl hg128<|H rfl hg128<|d3 rfl<|d3 rfl<|d3 rfl<|d3 rfl<|d3 rfl<|d3 rfl<|d3 rfl<|H rfl hg128<|Z rfl hg128 rfl ?_
       exact ⟨⟨_,_,_,_,_,_,_,_,_,_,_,_,_,_,_,rfl⟩⟩
      ·replace h:=O hg128 hx128
       refine G rfl hg128<|K rfl<|G rfl hg128<|I rfl<|G rfl hg128<|C rfl ?_
       obtain ⟨x116,hx116,h⟩:=J h
       refine G rfl hg128<|a2 rfl rfl rfl hx116 rfl<|G rfl hg128<|I rfl<|G rfl hg128<|a7 rfl rfl<|G rfl hg128<|C rfl ?_
       obtain ⟨x127,hx127,h⟩:=J h
       refine gX 8 [120,121,122,123,124,125,126] 127 x127 (!decide (x116=2)) (fun hg127=>?_) (fun hg127=>?_) ?_
       ·replace h:=M hg127 hx127
        refine G rfl hg127<|C rfl<|G rfl hg127<|K rfl<|G rfl hg127<|I rfl<|G rfl hg127<|C rfl ?_
        obtain ⟨x124,hx124,h⟩:=J h
        refine G rfl hg127<|a2 rfl rfl rfl hx124 rfl<|G rfl hg127<|I rfl<|G rfl hg127<|a7 rfl rfl ?_
        cases h
        refine G rfl hg128<|Z rfl hg127 rfl ?_
        exact ⟨⟨_,_,_,_,_,_,_,rfl⟩⟩
       ·replace h:=O hg127 hx127
        cases h
        refine H rfl hg127<|H rfl hg127<|H rfl hg127<|H rfl hg127<|H rfl hg127<|H rfl hg127<|H rfl hg127<|G rfl hg128<|a0 rfl hg127 rfl ?_
        exact ⟨⟨_,_,_,_,_,_,_,rfl⟩⟩
       rintro _ ⟨_,_,_,_,_,_,_,rfl⟩
       cases h
       refine a0 rfl hg128 rfl ?_
       exact ⟨⟨_,_,_,_,_,_,_,_,_,_,_,_,_,_,_,rfl⟩⟩
      rintro _ ⟨_,_,_,_,_,_,_,_,_,_,_,_,_,_,_,rfl⟩
      refine C rfl ?_
      obtain ⟨x140,hx140,h⟩:=J h
      refine gX 11 [130,131,132,133,134,135,136,137,138,139] 140 x140 x128 (fun hg140=>?_) (fun hg140=>?_) ?_
      ·replace h:=M hg140 hx140
       cases h
       refine H rfl hg140<|H rfl hg140<|H rfl hg140<|H rfl hg140<|H rfl hg140<|H rfl hg140<|H rfl hg140<|d3 rfl<|d3 rfl<|H rfl hg140<|Z rfl hg140 rfl ?_
       exact ⟨⟨_,_,_,_,_,_,_,_,_,_,rfl⟩⟩
      ·replace h:=O hg140 hx140
       refine G rfl hg140<|K rfl<|G rfl hg140<|I rfl<|G rfl hg140<|C rfl ?_
       obtain ⟨x133,hx133,h⟩:=J h
       refine G rfl hg140<|a2 rfl rfl rfl hx133 rfl<|G rfl hg140<|I rfl<|G rfl hg140<|b8 rfl rfl<|G rfl hg140<|C rfl ?_
       refine gA 3 [137,138] 139 (decide (x133=2)) (decide (x103=2)) (fun hg139=>?_) (fun hg139=>?_) ?_
       ·refine G rfl hg139<|C rfl<|G rfl hg139<|b8 rfl rfl<|G rfl hg140<|Z rfl hg139 rfl ?_
        exact ⟨⟨_,_,rfl⟩⟩
       ·refine H rfl hg139<|H rfl hg139<|G rfl hg140<|a0 rfl hg139 rfl ?_
        exact ⟨⟨_,_,rfl⟩⟩
       rintro _ ⟨_,_,rfl⟩
       cases h
       refine a0 rfl hg140 rfl ?_
       exact ⟨⟨_,_,_,_,_,_,_,_,_,_,rfl⟩⟩
      rintro _ ⟨_,_,_,_,_,_,_,_,_,_,rfl⟩
      refine E (kt<|kt<|kt<|kt<|kn) fun _=>?_
      refine U rfl (fun hc140=>?_) (fun hc140=>?_)
      ·replace h:=M hc140 h
       refine D<|F<|C rfl<|E (kt<|kn) fun _=>?_
       refine L ?_
       cases h
       exact ⟨_,rfl,rfl⟩
      ·replace h:=O hc140 h
       refine P (kt<|kt<|kt<|kn) fun _=>?_
       refine F<|C rfl<|a5 rfl rfl<|C rfl<|E (kt<|kt<|kt<|kn) ?_
       cases h
       refine ⟨_,rfl,?_⟩
       rw [Ktv rfl (Ktv rfl (Ktv rfl (Knil _)))]
       rw [b2 (a4 (hw2 9)) hi2 (e4 (e9 (f0 (hw2 2)) (i:=1) rfl) rfl)]
       all_goals rfl
    ·intro i2 s2 hi2
     refine D<|D<|F<|C rfl<|K rfl<|I rfl<|V rfl rfl<|X rfl rfl<|E (kt<|kt<|kt<|kt<|kn) fun _=>?_
     refine b5 rfl (b6 hi2)<|b0 (kn) ?_
     exact ⟨rfl,rfl⟩
    ·intro s2 hs
     replace h:=d1 h hs
     intro _
     refine D<|F<|C rfl<|E (kt<|kn) fun _=>?_
     exact L (by cases h;rfl)
    ·intro v2 ze hv hR
     replace h:=d2 h hv
     cases h
     exact hR
   ·intro v0 ze hv hR
    replace h:=d2 h hv
    cases h
    exact hR
theorem ck58:CK f58 (Rq [Af 1 0,Ai 2] [1]<|Rq [Ac 4 1 1,Ae 5 4 5,Ec 3 1 3 4 0 5,Ak 5 3 5] [1,3]<|Rq [Ac 6 3 2,Ab 7 6,Ag 8 7,Ac 9 1 6,Aj 10 9 2,Ab 11 10,Ag 12 11,Bn 13 8 12,Ac 14 3 4,Ab 15 14,Ag 16 15,Bn 17 13 16,Be 18 17 0,Aa 19 18,Av 20 3 3 19,Aw 21 20 19,Cs 22 21 0 19,Aq 23 19 22,Aa 24 23,Av 25 1 15 24,Aw 26 25 24,Aq 27 24 26,Aa 28 27,Av 29 1 16 28,Bx 30 29 0 28,Aw 31 30 28,Cs 32 31 1 28,Aq 33 28 32,Aa 34 33,Av 35 1 11 34,Bx 36 35 0 34,Aw 37 36 34,Cc 38 37 34,Av 39 3 0 34,Bx 40 39 0 34,Aw 41 40 34,Cc 42 41 34,Cl 43 38 42 34,Aq 44 34 43,Aa 45 44,Av 46 1 11 45,Bx 47 46 1 45,Aw 48 47 45,Cc 49 48 45,Av 50 3 0 45,Bx 51 50 1 45,Aw 52 51 45,Cc 53 52 45,Cl 54 49 53 45,Aq 55 45 54,Aa 2 55] [2]<|.ret) [.tmp 2]:= by decide +kernel
theorem c58 (r_0:Rule) (r:Bool) (h:ref53_creating r_0=some r):Sound prog 58 [eRule r_0] (.sh (eB r)):= by
 refine Fn ck58 fun hw=>?_
 unfold ref53_creating at h
 refine D<|F<|a1 rfl rfl<|C rfl<|E (kt<|kn) fun _=>?_
 refine D<|F<|K rfl<|R rfl rfl (show _=ePattern r_0.Left from rfl)<|b1 rfl<|a9 rfl rfl rfl rfl rfl<|E (kt<|kb<|kn) fun _=>?_
 refine D<|F<|a3 rfl<|I rfl<|V rfl rfl<|K rfl<|a6 rfl<|I rfl<|V rfl rfl<|a5 rfl rfl<|a3 rfl<|I rfl<|V rfl rfl<|a5 rfl rfl<|b8 rfl rfl<|C rfl ?_
 refine gA 4 [20,21,22] 23 (decide ((w64 ((w64 ((r_0.Left.Slots.length:Int)+(r_0.Right.Slots.length:Int)))+(r_0.Left.Tests.length:Int)))=0)) (decide (r_0.Left.Vars=0)) (fun hg23=>?_) (fun hg23=>?_) ?_
 ·refine G rfl hg23<|a3 rfl<|G rfl hg23<|I rfl<|G rfl hg23<|b8 rfl rfl<|Z rfl hg23 rfl ?_
  exact ⟨⟨_,_,_,rfl⟩⟩
 ·refine H rfl hg23<|H rfl hg23<|H rfl hg23<|a0 rfl hg23 rfl ?_
  exact ⟨⟨_,_,_,rfl⟩⟩
 rintro _ ⟨_,_,_,rfl⟩
 refine C rfl ?_
 refine gA 3 [25,26] 27 ((decide ((w64 ((w64 ((r_0.Left.Slots.length:Int)+(r_0.Right.Slots.length:Int)))+(r_0.Left.Tests.length:Int)))=0))&&(decide (r_0.Left.Vars=0))) r_0.Injective (fun hg27=>?_) (fun hg27=>?_) ?_
 ·refine G rfl hg27<|K rfl<|G rfl hg27<|I rfl<|Z rfl hg27 rfl ?_
  exact ⟨⟨_,_,rfl⟩⟩
 ·refine H rfl hg27<|H rfl hg27<|a0 rfl hg27 rfl ?_
  exact ⟨⟨_,_,rfl⟩⟩
 rintro _ ⟨_,_,rfl⟩
 refine C rfl ?_
 refine gA 5 [29,30,31,32] 33 (((decide ((w64 ((w64 ((r_0.Left.Slots.length:Int)+(r_0.Right.Slots.length:Int)))+(r_0.Left.Tests.length:Int)))=0))&&(decide (r_0.Left.Vars=0)))&&r_0.Injective) (decide (r_0.Condition.Kind=1)) (fun hg33=>?_) (fun hg33=>?_) ?_
 ·refine G rfl hg33<|K rfl<|G rfl hg33<|a6 rfl<|G rfl hg33<|I rfl<|G rfl hg33<|b8 rfl rfl<|Z rfl hg33 rfl ?_
  exact ⟨⟨_,_,_,_,rfl⟩⟩
 ·refine H rfl hg33<|H rfl hg33<|H rfl hg33<|H rfl hg33<|a0 rfl hg33 rfl ?_
  exact ⟨⟨_,_,_,_,rfl⟩⟩
 rintro _ ⟨_,_,_,_,rfl⟩
 refine C rfl ?_
 refine gA 10 [35,36,37,38,39,40,41,42,43] 44 ((((decide ((w64 ((w64 ((r_0.Left.Slots.length:Int)+(r_0.Right.Slots.length:Int)))+(r_0.Left.Tests.length:Int)))=0))&&(decide (r_0.Left.Vars=0)))&&r_0.Injective)&&(decide (r_0.Condition.Kind=1))) (decide ((r_0.Keep.Nodes.length:Int)=(r_0.Left.Graph.Nodes.length:Int))) (fun hg44=>?_) (fun hg44=>?_) ?_
 ·refine G rfl hg44<|K rfl<|G rfl hg44<|a6 rfl<|G rfl hg44<|I rfl<|G rfl hg44<|V rfl rfl<|G rfl hg44<|a3 rfl<|G rfl hg44<|f3 rfl rfl<|G rfl hg44<|I rfl<|G rfl hg44<|V rfl rfl<|G rfl hg44<|b8 rfl rfl<|Z rfl hg44 rfl ?_
  exact ⟨⟨_,_,_,_,_,_,_,_,_,rfl⟩⟩
 ·refine H rfl hg44<|H rfl hg44<|H rfl hg44<|H rfl hg44<|H rfl hg44<|H rfl hg44<|H rfl hg44<|H rfl hg44<|H rfl hg44<|a0 rfl hg44 rfl ?_
  exact ⟨⟨_,_,_,_,_,_,_,_,_,rfl⟩⟩
 rintro _ ⟨_,_,_,_,_,_,_,_,_,rfl⟩
 refine C rfl ?_
 refine gA 10 [46,47,48,49,50,51,52,53,54] 55 (((((decide ((w64 ((w64 ((r_0.Left.Slots.length:Int)+(r_0.Right.Slots.length:Int)))+(r_0.Left.Tests.length:Int)))=0))&&(decide (r_0.Left.Vars=0)))&&r_0.Injective)&&(decide (r_0.Condition.Kind=1)))&&(decide ((r_0.Keep.Nodes.length:Int)=(r_0.Left.Graph.Nodes.length:Int)))) (decide ((r_0.Keep.Edges.length:Int)=(r_0.Left.Graph.Edges.length:Int))) (fun hg55=>?_) (fun hg55=>?_) ?_
 ·refine G rfl hg55<|K rfl<|G rfl hg55<|a6 rfl<|G rfl hg55<|I rfl<|G rfl hg55<|V rfl rfl<|G rfl hg55<|a3 rfl<|G rfl hg55<|f3 rfl rfl<|G rfl hg55<|I rfl<|G rfl hg55<|V rfl rfl<|G rfl hg55<|b8 rfl rfl<|Z rfl hg55 rfl ?_
  exact ⟨⟨_,_,_,_,_,_,_,_,_,rfl⟩⟩
 ·refine H rfl hg55<|H rfl hg55<|H rfl hg55<|H rfl hg55<|H rfl hg55<|H rfl hg55<|H rfl hg55<|H rfl hg55<|H rfl hg55<|a0 rfl hg55 rfl ?_
  exact ⟨⟨_,_,_,_,_,_,_,_,_,rfl⟩⟩
 rintro _ ⟨_,_,_,_,_,_,_,_,_,rfl⟩
 refine C rfl<|E (kt<|kn) fun _=>?_
 exact L (by cases h;rfl)
theorem ck59:CK f59 (Rq [Af 2 0,Af 3 1,Ai 4] [2,3]<|Sq (Rq [Ad 5 0] [2,3,5]<|Bl 0<|Lo [2,3,5]<|Sq (Rq [Aa 7 5,Ac 8 3 0,Ab 9 8,Ag 10 9,Ap 11 7 10] [2,3,5,11]<|Co 11 (Sk [2,3,5])<|Ex 0 [])<|Sq (Bl 1<|Rq [Ad 6 0] [2,3,5,6]<|Bl 2<|Lo [2,3,5,6]<|Sq (Rq [Aa 14 6,Ac 15 2 0,Ab 16 15,Ag 17 16,Ap 18 14 17] [2,3,5,6,18]<|Co 18 (Sk [2,3,5,6])<|Ex 2 [2,3,5])<|Sq (Bl 3<|Sq (Dr [21,22,23,24,25,26,27,28,29,30,31,32] [Ac 21 2 0,Ab 22 21,Aa 23 6,Ah 24 22 23 4,Aj 25 24 1,Ab 26 25,Ac 27 3 0,Ab 28 27,Aa 29 5,Ah 30 28 29 1,Ab 31 30,By 32 26 31] [2,3,5,6,32])<|Co 32 (Rq [Ai 4] [4]<|.ret)<|Sk [2,3,5,6])<|Re [Aa 19 6,Ao 20 19 1,Aa 6 20] [2,3,5,6])<|Re [Aa 12 5,Ao 13 12 1,Aa 5 13] [2,3,5])<|Rq [Bw 4] [4]<|.ret) [.tmp 4]:= by decide +kernel
theorem c59 (t:Types) (g:Graph) (r:Bool) (h:ref53_leaves t g=some r):Sound prog 59 [eTypes t,eGraph g] (.sh (eB r)):= by
 refine Fn ck59 fun hw=>?_
 unfold ref53_leaves at h
 refine D<|F<|a1 rfl rfl<|a1 rfl rfl<|C rfl<|E (kt<|kt<|kn) fun _=>?_
 refine D<|D<|F<|C rfl<|E (kt<|kt<|kt<|kn) fun _=>?_
 obtain ⟨o0,ho0,h⟩:=d0 h
 refine d5 ho0 (fun (i0:Int) (_:Unit)=>[(2,.tv (.pt (eTypes t).cells)),(3,.tv (.pt (eGraph g).cells)),(5,.tv (eI i0))]) (fun (_:Unit)=>[]) (fun zv ze=>resIs ([.tmp 4]) (.sh (eB zv)) ze) rfl ?_ ?_ ?_ ?_
 ·clear h ho0
  intro i0 s0 r0 hi0 h hw0
  refine D<|D<|F<|C rfl<|K rfl<|I rfl<|V rfl rfl<|X rfl rfl<|E (kt<|kt<|kt<|kt<|kn) fun _=>?_
  refine b3 rfl (b4 hi0)<|P (kt<|kt<|kt<|kn) fun _=>?_
  refine D<|a8<|D<|F<|C rfl<|E (kt<|kt<|kt<|kt<|kn) fun _=>?_
  obtain ⟨o2,ho2,h⟩:=d0 h
  refine d5 ho2 (fun (i2:Int) (_:Unit)=>[(2,.tv (.pt (eTypes t).cells)),(3,.tv (.pt (eGraph g).cells)),(5,.tv (eI i0)),(6,.tv (eI i2))]) (fun (_:Unit)=>[(2,.tv (.pt (eTypes t).cells)),(3,.tv (.pt (eGraph g).cells)),(5,.tv (eI i0))]) (fun zv ze=>resIs ([.tmp 4]) (.sh (eB zv)) ze) rfl ?_ ?_ ?_ ?_
  ·clear h ho2
   intro i2 s2 r2 hi2 h hw2
   refine D<|D<|F<|C rfl<|K rfl<|I rfl<|V rfl rfl<|X rfl rfl<|E (kt<|kt<|kt<|kt<|kt<|kn) fun _=>?_
   refine b3 rfl (b4 hi2)<|P (kt<|kt<|kt<|kt<|kn) fun _=>?_
   refine D<|a8<|D<|d4 rfl<|K rfl<|I rfl<|C rfl ?_
   obtain ⟨x24,hx24,h⟩:=J h
   refine a2 rfl rfl rfl hx24 rfl<|a6 rfl<|I rfl<|K rfl<|I rfl<|C rfl ?_
   obtain ⟨x30,hx30,h⟩:=J h
   refine a2 rfl rfl rfl hx30 rfl<|I rfl<|b8 rfl rfl<|E (kt<|kt<|kt<|kt<|kt<|kn) fun _=>?_
   refine U rfl (fun hc32=>?_) (fun hc32=>?_)
   ·replace h:=M hc32 h
    refine D<|F<|C rfl<|E (kt<|kn) fun _=>?_
    refine L ?_
    cases h
    exact ⟨_,rfl,rfl⟩
   ·replace h:=O hc32 h
    refine P (kt<|kt<|kt<|kt<|kn) fun _=>?_
    refine F<|C rfl<|a5 rfl rfl<|C rfl<|E (kt<|kt<|kt<|kt<|kn) ?_
    cases h
    refine ⟨_,rfl,?_⟩
    rw [Ktv rfl (Ktv rfl (Ktv rfl (Ktv rfl (Knil _))))]
    rw [b2 (a4 (hw2 6)) hi2 (e4 (e9 (f0 (hw2 2)) (i:=0) rfl) rfl)]
    all_goals rfl
  ·intro i2 s2 hi2
   refine D<|D<|F<|C rfl<|K rfl<|I rfl<|V rfl rfl<|X rfl rfl<|E (kt<|kt<|kt<|kt<|kt<|kn) fun _=>?_
   refine b5 rfl (b6 hi2)<|b0 (kt<|kt<|kt<|kn) ?_
   exact ⟨rfl,rfl⟩
  ·intro s2 hs
   replace h:=d1 h hs
   intro _
   refine F<|C rfl<|a5 rfl rfl<|C rfl<|E (kt<|kt<|kt<|kn) ?_
   cases h
   refine ⟨_,rfl,?_⟩
   rw [Ktv rfl (Ktv rfl (Ktv rfl (Knil _)))]
   rw [b2 (a4 (hw0 5)) hi0 (e4 (e9 (f0 (hw0 3)) (i:=0) rfl) rfl)]
   all_goals rfl
  ·intro v2 ze hv hR
   replace h:=d2 h hv
   cases h
   exact ⟨_,rfl,hR⟩
 ·intro i0 s0 hi0
  refine D<|D<|F<|C rfl<|K rfl<|I rfl<|V rfl rfl<|X rfl rfl<|E (kt<|kt<|kt<|kt<|kn) fun _=>?_
  refine b5 rfl (b6 hi0)<|b0 (kn) ?_
  exact ⟨rfl,rfl⟩
 ·intro s0 hs
  replace h:=d1 h hs
  intro _
  refine D<|F<|C rfl<|E (kt<|kn) fun _=>?_
  exact L (by cases h;rfl)
 ·intro v0 ze hv hR
  replace h:=d2 h hv
  cases h
  exact hR
theorem ck60:CK f60 (Rq [Af 2 0,Af 3 1,Ai 4] [2,3]<|Sq (Rq [Ad 5 0] [2,3,5]<|Bl 0<|Lo [2,3,5]<|Sq (Rq [Aa 7 5,Ac 8 3 1,Ab 9 8,Ag 10 9,Ap 11 7 10] [2,3,5,11]<|Co 11 (Sk [2,3,5])<|Ex 0 [])<|Sq (Bl 1<|Rq [Ac 14 3 1,Ab 15 14,Aa 16 5,Ah 17 15 16 3,Ae 18 17 3,Cd 6 0 0 0,Ak 3 6 18] [2,3,5,6]<|Sq (Dr [19,20,21,22,23,24,25,26,27,28,29,30,31,32,33,34,35] [Ae 19 2 2,Ac 20 6 0,Ab 21 20,Ac 22 3 0,Ab 23 22,Ac 24 6 1,Ab 25 24,Ah 26 23 25 1,Ab 27 26,Ac 28 3 0,Ab 29 28,Ac 30 6 2,Ab 31 30,Ah 32 29 31 1,Ab 33 32,Cg 34 68 19 21 27 33,Ay 35 34] [2,3,5,35])<|Co 35 (Rq [Ai 4] [4]<|.ret)<|Sk [2,3,5])<|Re [Aa 12 5,Ao 13 12 1,Aa 5 13] [2,3,5])<|Rq [Bw 4] [4]<|.ret) [.tmp 4]:= by decide +kernel
theorem c60 (t:Types) (g:Graph) (r:Bool) (h:ref53_fits t g=some r):Sound prog 60 [eTypes t,eGraph g] (.sh (eB r)):= by
 refine Fn ck60 fun hw=>?_
 unfold ref53_fits at h
 refine D<|F<|a1 rfl rfl<|a1 rfl rfl<|C rfl<|E (kt<|kt<|kn) fun _=>?_
 refine D<|D<|F<|C rfl<|E (kt<|kt<|kt<|kn) fun _=>?_
 obtain ⟨o0,ho0,h⟩:=d0 h
 refine d5 ho0 (fun (i0:Int) (_:Unit)=>[(2,.tv (.pt (eTypes t).cells)),(3,.tv (.pt (eGraph g).cells)),(5,.tv (eI i0))]) (fun (_:Unit)=>[]) (fun zv ze=>resIs ([.tmp 4]) (.sh (eB zv)) ze) rfl ?_ ?_ ?_ ?_
 ·clear h ho0
  intro i0 s0 r0 hi0 h hw0
  refine D<|D<|F<|C rfl<|K rfl<|I rfl<|V rfl rfl<|X rfl rfl<|E (kt<|kt<|kt<|kt<|kn) fun _=>?_
  refine b3 rfl (b4 hi0)<|P (kt<|kt<|kt<|kn) fun _=>?_
  refine D<|a8<|D<|F<|K rfl<|I rfl<|C rfl ?_
  obtain ⟨x17,hx17,h⟩:=J h
  refine a2 rfl rfl rfl hx17 rfl<|R rfl rfl (show _=eEdge x17 from rfl)<|b1 rfl<|a9 rfl rfl rfl rfl rfl<|E (kt<|kt<|kt<|kb<|kn) fun _=>?_
  refine D<|d4 rfl<|R rfl rfl (show _=eTypes t from rfl)<|a3 rfl<|I rfl<|K rfl<|I rfl<|a3 rfl<|I rfl ?_
  obtain ⟨x26,hx26,h⟩:=J h
  refine a2 rfl rfl rfl hx26 rfl<|I rfl<|K rfl<|I rfl<|a3 rfl<|I rfl ?_
  obtain ⟨x32,hx32,h⟩:=J h
  refine a2 rfl rfl rfl hx32 rfl<|I rfl ?_
  obtain ⟨x34,hx34,h⟩:=J h
  refine W rfl (c68 t x17.Type' x26 x32 _ hx34)<|b7 rfl<|E (kt<|kt<|kt<|kt<|kn) fun _=>?_
  refine U rfl (fun hc35=>?_) (fun hc35=>?_)
  ·replace h:=M hc35 h
   refine D<|F<|C rfl<|E (kt<|kn) fun _=>?_
   refine L ?_
   cases h
   exact ⟨_,rfl,rfl⟩
  ·replace h:=O hc35 h
   refine P (kt<|kt<|kt<|kn) fun _=>?_
   refine F<|C rfl<|a5 rfl rfl<|C rfl<|E (kt<|kt<|kt<|kn) ?_
   cases h
   refine ⟨_,rfl,?_⟩
   rw [Ktv rfl (Ktv rfl (Ktv rfl (Knil _)))]
   rw [b2 (a4 (hw0 5)) hi0 (e4 (e9 (f0 (hw0 3)) (i:=1) rfl) rfl)]
   all_goals rfl
 ·intro i0 s0 hi0
  refine D<|D<|F<|C rfl<|K rfl<|I rfl<|V rfl rfl<|X rfl rfl<|E (kt<|kt<|kt<|kt<|kn) fun _=>?_
  refine b5 rfl (b6 hi0)<|b0 (kn) ?_
  exact ⟨rfl,rfl⟩
 ·intro s0 hs
  replace h:=d1 h hs
  intro _
  refine D<|F<|C rfl<|E (kt<|kn) fun _=>?_
  exact L (by cases h;rfl)
 ·intro v0 ze hv hR
  replace h:=d2 h hv
  cases h
  exact hR
theorem ck16:CK f16 (Rq [Af 3 0,Af 4 1,Af 5 2,Ad 6 0] [3,4,5]<|Sq (Rq [Ae 9 3 2,Ae 10 4 2,An 11 57 9 10,Aa 7 11] [3,5,7]<|Rq [Aa 12 7,Ax 13 12 0] [3,5,7,13]<|Co 13 (Rq [Aa 14 7,Aa 6 14] [6]<|.ret)<|Sk [3,5])<|Sq (Rq [Ae 15 3 2,Ae 16 5 25,An 17 42 15 16,Aa 8 17] [3,5,8]<|Rq [Aa 18 8,Ax 19 18 0] [3,5,8,19]<|Co 19 (Rq [Aa 20 8,Aa 6 20] [6]<|.ret)<|Sk [3,5])<|Sq (Rq [Ae 21 5 25,Au 22 58 21,Ay 23 22] [3,5,23]<|Co 23 (Rq [Ad 6 8] [6]<|.ret)<|Sk [3,5])<|Sq (Rq [Ae 24 3 2,Ac 25 5 1,Aj 26 25 0,Ae 27 26 2,An 28 59 24 27,Ay 29 28,Aa 30 29,Cf 31 3 2 30,Am 32 5 6 30,Bi 33 32 0 30,Cf 34 33 2 30,Cp 35 59 31 34 30,Bq 36 35 30,Ar 37 30 36,Aa 38 37,Cf 39 3 2 38,Am 40 5 1 38,Bi 41 40 0 38,Cf 42 41 2 38,Cp 43 60 39 42 38,Bq 44 43 38,Ar 45 38 44] [45]<|Co 45 (Rq [Ad 6 13] [6]<|.ret)<|Sk [])<|Rq [Ad 6 0] [6]<|.ret) [.tmp 6]:= by decide +kernel
theorem c16 (t:Types) (s_1:Sorts) (r_2:Rule) (r:Int) (h:ref53_Valid t s_1 r_2=some r):Sound prog 16 [eTypes t,eSorts s_1,eRule r_2] (.sh (eI r)):= by
 refine Fn ck16 fun hw=>?_
 unfold ref53_Valid at h
 refine D<|F<|a1 rfl rfl<|a1 rfl rfl<|a1 rfl rfl<|C rfl<|E (kt<|kt<|kt<|kn) fun _=>?_
 refine D<|D<|F<|R rfl rfl (show _=eTypes t from rfl)<|R rfl rfl (show _=eSorts s_1 from rfl) ?_
 obtain ⟨x11,hx11,h⟩:=J h
 refine W rfl (c57 t s_1 _ hx11)<|C rfl<|E (kt<|kt<|kt<|kn) fun _=>?_
 refine D<|F<|C rfl<|a7 rfl rfl<|E (kt<|kt<|kt<|kt<|kn) fun _=>?_
 refine U rfl (fun hc13=>?_) (fun hc13=>?_)
 ·replace h:=M hc13 h
  refine D<|F<|C rfl<|C rfl<|E (kt<|kn) fun _=>?_
  exact L (by cases h;rfl)
 ·replace h:=O hc13 h
  refine P (kt<|kt<|kn) fun _=>?_
  refine D<|D<|F<|R rfl rfl (show _=eTypes t from rfl)<|R rfl rfl (show _=eRule r_2 from rfl) ?_
  obtain ⟨x17,hx17,h⟩:=J h
  refine W rfl (c42 t r_2 _ hx17)<|C rfl<|E (kt<|kt<|kt<|kn) fun _=>?_
  refine D<|F<|C rfl<|a7 rfl rfl<|E (kt<|kt<|kt<|kt<|kn) fun _=>?_
  refine U rfl (fun hc19=>?_) (fun hc19=>?_)
  ·replace h:=M hc19 h
   refine D<|F<|C rfl<|C rfl<|E (kt<|kn) fun _=>?_
   exact L (by cases h;rfl)
  ·replace h:=O hc19 h
   refine P (kt<|kt<|kn) fun _=>?_
   refine D<|D<|F<|R rfl rfl (show _=eRule r_2 from rfl) ?_
   obtain ⟨x22,hx22,h⟩:=J h
   refine W rfl (c58 r_2 _ hx22)<|b7 rfl<|E (kt<|kt<|kt<|kn) fun _=>?_
   refine U rfl (fun hc23=>?_) (fun hc23=>?_)
   ·replace h:=M hc23 h
    refine D<|F<|C rfl<|E (kt<|kn) fun _=>?_
    exact L (by cases h;rfl)
   ·replace h:=O hc23 h
    refine P (kt<|kt<|kn) fun _=>?_
    refine D<|D<|F<|R rfl rfl (show _=eTypes t from rfl)<|K rfl<|a6 rfl<|R rfl rfl (show _=eGraph r_2.Left.Graph from rfl) ?_
    obtain ⟨x28,hx28,h⟩:=J h
    refine W rfl (c59 t r_2.Left.Graph _ hx28)<|b7 rfl<|C rfl ?_
    obtain ⟨x37,hx37,h⟩:=J h
    refine gX 7 [31,32,33,34,35,36] 37 x37 (!x28) (fun hg37=>?_) (fun hg37=>?_) ?_
    ·replace h:=M hg37 hx37
     cases h
     refine H rfl hg37<|H rfl hg37<|H rfl hg37<|H rfl hg37<|H rfl hg37<|H rfl hg37<|Z rfl hg37 rfl ?_
     exact ⟨⟨_,_,_,_,_,_,rfl⟩⟩
    ·replace h:=O hg37 hx37
     refine G rfl hg37<|R rfl rfl (show _=eTypes t from rfl)<|G rfl hg37<|K rfl<|G rfl hg37<|a6 rfl<|G rfl hg37<|R rfl rfl (show _=eGraph r_2.Right.Graph from rfl) ?_
     obtain ⟨x35,hx35,h⟩:=J h
     refine G rfl hg37<|W rfl (c59 t r_2.Right.Graph _ hx35)<|G rfl hg37<|b7 rfl ?_
     cases h
     refine a0 rfl hg37 rfl ?_
     exact ⟨⟨_,_,_,_,_,_,rfl⟩⟩
    rintro _ ⟨_,_,_,_,_,_,rfl⟩
    refine C rfl ?_
    obtain ⟨x45,hx45,h⟩:=J h
    refine gX 7 [39,40,41,42,43,44] 45 x45 x37 (fun hg45=>?_) (fun hg45=>?_) ?_
    ·replace h:=M hg45 hx45
     cases h
     refine H rfl hg45<|H rfl hg45<|H rfl hg45<|H rfl hg45<|H rfl hg45<|H rfl hg45<|Z rfl hg45 rfl ?_
     exact ⟨⟨_,_,_,_,_,_,rfl⟩⟩
    ·replace h:=O hg45 hx45
     refine G rfl hg45<|R rfl rfl (show _=eTypes t from rfl)<|G rfl hg45<|K rfl<|G rfl hg45<|a6 rfl<|G rfl hg45<|R rfl rfl (show _=eGraph r_2.Left.Graph from rfl) ?_
     obtain ⟨x43,hx43,h⟩:=J h
     refine G rfl hg45<|W rfl (c60 t r_2.Left.Graph _ hx43)<|G rfl hg45<|b7 rfl ?_
     cases h
     refine a0 rfl hg45 rfl ?_
     exact ⟨⟨_,_,_,_,_,_,rfl⟩⟩
    rintro _ ⟨_,_,_,_,_,_,rfl⟩
    refine E (kt<|kn) fun _=>?_
    refine U rfl (fun hc45=>?_) (fun hc45=>?_)
    ·replace h:=M hc45 h
     refine D<|F<|C rfl<|E (kt<|kn) fun _=>?_
     exact L (by cases h;rfl)
    ·replace h:=O hc45 h
     refine P (kn) fun _=>?_
     refine D<|F<|C rfl<|E (kt<|kn) fun _=>?_
     exact L (by cases h;rfl)
theorem ck67:CK f67 (Rq [Af 1 0,Bd 2 1 3] [1,2]<|Sq (Dr [2,3,4,5,6,7,8,9,10,11] [Cq 3 1,Ac 4 1 0,Ab 5 4,Bc 6 1 3 5,Cq 7 3,Ac 8 1 1,Ab 9 8,Bc 10 3 7 9,Ee 11 6 10,Do 2 2 11] [2])<|.ret) [.cell 2 (some 2)]:= by decide +kernel
theorem c67 (g:Graph) (r:Graph) (h:ref05_Copied g=some r):Sound prog 67 [eGraph g] (.oag [⟨true,lI r.Nodes⟩,⟨true,lE r.Edges⟩]):= by
 refine Fn ck67 fun hw=>?_
 unfold ref05_Copied at h
 refine D<|F<|a1 rfl rfl<|b1 rfl<|E (kt<|kb<|kn) fun _=>?_
 refine D<|d4 rfl<|e2 (e:=eI) (l:=[]) rfl rfl (fun _=>rfl)<|K rfl<|I rfl ?_
 obtain ⟨x6,hx6,h⟩:=J h
 refine e5 rfl rfl rfl rfl hx6 rfl<|e2 (e:=eEdge) (l:=[]) rfl rfl (fun _=>rfl)<|K rfl<|I rfl ?_
 obtain ⟨x10,hx10,h⟩:=J h
 refine e5 rfl rfl rfl rfl hx10 rfl<|m1 (by decide) (by decide) rfl rfl rfl<|l7 rfl rfl (by decide) rfl rfl rfl<|E (kb<|kn) fun _=>?_
 exact L (by cases h;exact ⟨rfl,rfl⟩)
theorem ck169:CK f169 (Rq [Bk 4 1] [0,1]<|Rq [Bk 5 1] [0,1,5]<|Sq (Rq [Ad 6 0] [0,1,5,6]<|Bl 0<|Lo [0,1,5,6]<|Sq (Rq [Aa 7 6,Aa 8 1,Ap 9 7 8] [0,1,5,6,9]<|Co 9 (Sk [0,1,5,6])<|Ex 0 [5])<|Sq (Bl 1<|Re [Bb 12 5,Aa 13 0,Aa 14 6,Bn 15 13 14,Bh 16 1 15,Bc 17 1 12 16,Bb 5 17] [0,1,5,6])<|Re [Aa 10 6,Ao 11 10 1,Aa 6 11] [0,1,5,6])<|Rq [Aa 18 5,Bb 4 18] [4]<|.ret) [.tmp 4]:= by decide +kernel
theorem c169 (from':Int) (count:Int) (r:(List Int)) (h:ref05_Numbers from' count=some r):Sound prog 169 [eI from',eI count] (.sh (lI r)):= by
 refine Fn ck169 fun hw=>?_
 unfold ref05_Numbers at h
 refine D<|F<|f2<|E (kt<|kt<|kn) fun _=>?_
 refine D<|F<|f2<|E (kt<|kt<|ko<|kn) fun _=>?_
 refine D<|D<|F<|C rfl<|E (kt<|kt<|ko<|kt<|kn) fun _=>?_
 obtain ⟨s0,hs0,h⟩:=J h
 refine f8 hs0 (fun (i0:Int) (s0:List Int)=>[(0,.tv (eI from')),(1,.tv (eI count)),(5,.ow (lI s0)),(6,.tv (eI i0))]) (fun (s0:List Int)=>[(5,.ow (lI s0))]) rfl ?_ ?_ ?_
 ·clear h hs0
  intro i0 s0 r0 hi0 h hw0
  refine D<|D<|F<|C rfl<|C rfl<|X rfl rfl<|E (kt<|kt<|ko<|kt<|kt<|kn) fun _=>?_
  refine b3 rfl (b4 hi0)<|P (kt<|kt<|ko<|kt<|kn) fun _=>?_
  refine D<|a8<|F<|f7 rfl<|C rfl<|C rfl<|a5 rfl rfl<|e2 (e:=eI) (l:=[w64 (from'+i0)]) rfl rfl (fun _=>rfl) ?_
  obtain ⟨x17,hx17,h⟩:=J h
  refine e5 rfl rfl rfl rfl hx17 rfl<|f7 rfl<|E (kt<|kt<|ko<|kt<|kn) fun _=>?_
  refine F<|C rfl<|a5 rfl rfl<|C rfl<|E (kt<|kt<|ko<|kt<|kn) ?_
  cases h
  show Env.keep _ _=_
  rw [Ktv rfl (Ktv rfl (Kow rfl (Ktv rfl (Knil _))))]
  rw [b2 (a4 (hw0 6)) hi0 (d9 (a4 (hw0 1)))]
  all_goals rfl
 ·intro i0 s0 hi0
  refine D<|D<|F<|C rfl<|C rfl<|X rfl rfl<|E (kt<|kt<|ko<|kt<|kt<|kn) fun _=>?_
  refine b5 rfl (b6 hi0)<|b0 (ko<|kn) ?_
  exact ⟨rfl,rfl⟩
 ·intro _
  refine D<|F<|C rfl<|g1 rfl<|E (kt<|kn) fun _=>?_
  exact L (by cases h;rfl)
theorem ck121:CK f121 (Rq [Af 1 0,Bd 2 1 1] [1,2]<|Sq (Dr [2,3,4,5,6,7,8,9,10,11] [Ac 3 1 0,Ab 4 3,Ag 5 4,⟨some 6,.call 169 [.c (.int .i64 0),.s 5],none⟩,Ac 7 1 1,Ab 8 7,Ag 9 8,⟨some 10,.call 169 [.c (.int .i64 0),.s 9],none⟩,Cx 11 1 1 0 1 6 1 1 10,Ak 2 2 11] [2])<|.ret) [.cell 2 (some 2)]:= by decide +kernel
theorem c121 (g:Graph) (r:Part) (h:ref53_whole g=some r):Sound prog 121 [eGraph g] (.sh (ePart r)):= by
 refine Fn ck121 fun hw=>?_
 unfold ref53_whole at h
 refine D<|F<|a1 rfl rfl<|b1 rfl<|E (kt<|kb<|kn) fun _=>?_
 refine D<|d4 rfl<|K rfl<|I rfl<|V rfl rfl ?_
 obtain ⟨x6,hx6,h⟩:=J h
 refine W rfl (c169 0 (g.Nodes.length:Int) _ hx6)<|K rfl<|I rfl<|V rfl rfl ?_
 obtain ⟨x10,hx10,h⟩:=J h
 refine W rfl (c169 0 (g.Edges.length:Int) _ hx10)<|g5 rfl rfl rfl (show _=ePart (Part.mk x6 x10) from rfl)<|a9 rfl rfl rfl rfl rfl<|E (kb<|kn) fun _=>?_
 exact L (by cases h;rfl)
theorem ck69:CK f69 (Rq [Af 4 0,Af 5 1,Af 6 2,Af 7 3,Ca 8 1 3 4 0 5 1 3 4 0 5 1 1 1 1 0 9 1 1 1 3 4 0 5] [4,5,6,7,8]<|Sq (Dr [8,9,10,11,12,13,14,15,16,17,18,19] [Ac 9 4 0,Ab 10 9,Ae 11 5 2,Dn 12 1 3 4 0 5 0 2 11,Ae 13 6 2,Dn 14 1 3 4 0 5 0 2 13,Ae 15 5 2,Au 16 121 15,Ae 17 7 2,Eq 18 0 9 1 1 1 3 4 0 5 0 1 1,Fg 19 1 3 4 0 5 1 3 4 0 5 1 1 1 1 0 9 1 1 1 3 4 0 5 0 1 10 1 5 12 6 5 14 11 2 16 13 2 17 15 1 16 9 18,Ak 25 8 19] [8])<|.ret) [.cell 8 (some 25)]:= by decide +kernel
theorem c69 (r_0:Rule) (left:Graph) (right:Graph) (into:Morphism) (r:Rule) (h:ref53_rule r_0 left right into=some r):Sound prog 69 [eRule r_0,eGraph left,eGraph right,eMorphism into] (.sh (eRule r)):= by
 refine Fn ck69 fun hw=>?_
 unfold ref53_rule at h
 refine D<|F<|a1 rfl rfl<|a1 rfl rfl<|a1 rfl rfl<|a1 rfl rfl<|b1 rfl<|E (kt<|kt<|kt<|kt<|kb<|kn) fun _=>?_
 refine D<|d4 rfl<|K rfl<|I rfl<|R rfl rfl (show _=eGraph left from rfl)<|e7 rfl rfl (show _=ePattern (Pattern.mk left [] 0 []) from rfl)<|R rfl rfl (show _=eGraph right from rfl)<|e7 rfl rfl (show _=ePattern (Pattern.mk right [] 0 []) from rfl)<|R rfl rfl (show _=eGraph left from rfl) ?_
 obtain ⟨x16,hx16,h⟩:=J h
 refine W rfl (c121 left _ hx16)<|R rfl rfl (show _=eMorphism into from rfl)<|e7 rfl rfl (show _=eCondition (Condition.mk 1 [] (Morphism.mk [] []) (Pattern.mk (Graph.mk [] []) [] 0 [])) from rfl)<|g5 rfl rfl rfl (show _=eRule (Rule.mk r_0.Name (Pattern.mk left [] 0 []) (Pattern.mk right [] 0 []) x16 into true (Condition.mk 1 [] (Morphism.mk [] []) (Pattern.mk (Graph.mk [] []) [] 0 []))) from rfl)<|a9 rfl rfl rfl rfl rfl<|E (kb<|kn) fun _=>?_
 exact L (by cases h;rfl)
theorem ck93:CK f93 (Rq [Ad 4 0] [0,1]<|Sq (Rq [Ad 5 0] [0,1,5]<|Bl 0<|Lo [0,1,5]<|Sq (Rq [Aa 6 5,Aa 7 0,Ag 8 7,Ap 9 6 8] [0,1,5,9]<|Co 9 (Sk [0,1,5])<|Ex 0 [])<|Sq (Bl 1<|Rq [Aa 12 0,Aa 13 5,Ah 14 12 13 1,Ab 15 14,Aa 16 1,By 17 15 16] [0,1,5,17]<|Co 17 (Rq [Aa 18 5,Aa 4 18] [4]<|.ret)<|Sk [0,1,5])<|Re [Aa 10 5,Ao 11 10 1,Aa 5 11] [0,1,5])<|Rq [Ce 4 (-1)] [4]<|.ret) [.tmp 4]:= by decide +kernel
theorem c93 (l:List Int) (n:Int) (r:Int) (h:ref53_index l n=some r):Sound prog 93 [lI l,eI n] (.sh (eI r)):= by
 refine Fn ck93 fun hw=>?_
 unfold ref53_index at h
 refine D<|F<|C rfl<|E (kt<|kt<|kn) fun _=>?_
 refine D<|D<|F<|C rfl<|E (kt<|kt<|kt<|kn) fun _=>?_
 obtain ⟨o0,ho0,h⟩:=d0 h
 refine d5 ho0 (fun (i0:Int) (_:Unit)=>[(0,.tv (lI l)),(1,.tv (eI n)),(5,.tv (eI i0))]) (fun (_:Unit)=>[]) (fun zv ze=>resIs ([.tmp 4]) (.sh (eI zv)) ze) rfl ?_ ?_ ?_ ?_
 ·clear h ho0
  intro i0 s0 r0 hi0 h hw0
  refine D<|D<|F<|C rfl<|C rfl<|V rfl rfl<|X rfl rfl<|E (kt<|kt<|kt<|kt<|kn) fun _=>?_
  refine b3 rfl (b4 hi0)<|P (kt<|kt<|kt<|kn) fun _=>?_
  refine D<|a8<|D<|F<|C rfl<|C rfl ?_
  obtain ⟨x14,hx14,h⟩:=J h
  refine a2 rfl rfl rfl hx14 rfl<|I rfl<|C rfl<|b8 rfl rfl<|E (kt<|kt<|kt<|kt<|kn) fun _=>?_
  refine U rfl (fun hc17=>?_) (fun hc17=>?_)
  ·replace h:=M hc17 h
   refine D<|F<|C rfl<|C rfl<|E (kt<|kn) fun _=>?_
   refine L ?_
   cases h
   exact ⟨_,rfl,rfl⟩
  ·replace h:=O hc17 h
   refine P (kt<|kt<|kt<|kn) fun _=>?_
   refine F<|C rfl<|a5 rfl rfl<|C rfl<|E (kt<|kt<|kt<|kn) ?_
   cases h
   refine ⟨_,rfl,?_⟩
   rw [Ktv rfl (Ktv rfl (Ktv rfl (Knil _)))]
   rw [b2 (a4 (hw0 5)) hi0 (e4 (a4 (hw0 0)) rfl)]
   all_goals rfl
 ·intro i0 s0 hi0
  refine D<|D<|F<|C rfl<|C rfl<|V rfl rfl<|X rfl rfl<|E (kt<|kt<|kt<|kt<|kn) fun _=>?_
  refine b5 rfl (b6 hi0)<|b0 (kn) ?_
  exact ⟨rfl,rfl⟩
 ·intro s0 hs
  replace h:=d1 h hs
  intro _
  refine D<|F<|C rfl<|E (kt<|kn) fun _=>?_
  exact L (by cases h;rfl)
 ·intro v0 ze hv hR
  replace h:=d2 h hv
  cases h
  exact hR
theorem ck115:CK f115 (Rq [Af 4 0,Af 5 1,Ca 8 1 3 4 0 5 1 3 4 0 5 1 1 1 1 0 9 1 1 1 3 4 0 5,Bd 9 1 1] [2,3,4,5,8,9]<|Sq (Dr [10,11,19,20,21,22,23,24,25] [Ac 19 5 1,Aj 20 19 0,Ae 21 20 2,⟨some 22,.callg 67 [.s 21],none⟩,Ac 23 5 6,Aj 24 23 0,Ae 25 24 2,Bd 10 1 3,Bd 11 1 3,Do 2 10 22,Ak 2 11 25] [2,3,4,5,8,9,10,11])<|Sq (Dr [12,26,27,28,29,30,31,32,33,34,35,36] [Cq 26 1,Ac 27 5 13,Aj 28 27 0,Ab 29 28,Bc 30 1 26 29,Cq 31 1,Ac 32 5 13,Aj 33 32 1,Ab 34 33,Bc 35 1 31 34,Ee 36 30 35,Bd 12 1 1,Do 2 12 36] [2,3,4,5,8,9,10,11,12])<|Rq [Bd 13 1 1] [2,3,4,5,8,9,10,11,12,13]<|Sq (Rq [Ad 14 0] [2,3,4,5,8,9,10,11,12,13,14]<|Bl 0<|Lo [2,3,4,5,8,9,10,11,12,13,14]<|Sq (Rq [Aa 37 14,Ac 38 11 0,Ab 39 38,Ag 40 39,Ap 41 37 40] [2,3,4,5,8,9,10,11,12,13,14,41]<|Co 41 (Sk [2,3,4,5,8,9,10,11,12,13,14])<|Ex 0 [2,3,4,5,8,9,10,11,12,13])<|Sq (Bl 1<|Sq (Dr [15,44,45,46,47,48,49,50,51,52] [Ac 44 4 0,Ab 45 44,Ac 46 11 0,Ab 47 46,Aa 48 14,Ah 49 47 48 1,Ab 50 49,Ah 51 45 50 1,Ab 52 51,Aa 15 52] [2,3,4,5,8,9,10,11,12,13,14,15])<|Rq [Ac 53 5 13,Aj 54 53 0,Ab 55 54,Aa 56 14,An 57 93 55 56,Bt 58 57 0,Aa 59 58,As 60 15 59,Cs 61 60 1 59,As 62 61 59,As 63 2 62,Fk 64 62 63 59,As 65 64 59,Az 66 15 65,Dv 67 66 3 65,Az 68 67 65,As 69 3 68,Ct 70 68 69 65,Dd 71 65 70 59,Aq 72 59 71] [2,3,4,5,8,9,10,11,12,13,14,72]<|Co 72 (Rq [Ac 73 13 0,Bp 74 73,Ac 75 10 0,Ab 76 75,Ag 77 76,Bh 78 1 77,Bc 79 1 74 78,Ac 80 13 0,Bm 1 80 79] [2,3,4,5,8,9,10,11,12,13,14]<|Sq (Dr [81,82,83,84,85,86,87,88,89,90] [Ac 81 10 0,Bp 82 81,Ac 83 11 0,Ab 84 83,Aa 85 14,Ah 86 84 85 1,Ab 87 86,Bh 88 1 87,Bc 89 1 82 88,Ac 90 10 0,Bm 1 90 89] [2,3,4,5,8,9,10,11,12,13,14])<|Re [Ac 91 12 0,Bp 92 91,Aa 93 14,Bh 94 1 93,Bc 95 1 92 94,Ac 96 12 0,Bm 1 96 95] [2,3,4,5,8,9,10,11,12,13,14])<|Sk [2,3,4,5,8,9,10,11,12,13,14])<|Re [Aa 42 14,Ao 43 42 1,Aa 14 43] [2,3,4,5,8,9,10,11,12,13,14])<|Sq (Rq [Ad 16 0] [2,3,4,5,8,9,10,11,12,13,16]<|Bl 2<|Lo [2,3,4,5,8,9,10,11,12,13,16]<|Sq (Rq [Aa 97 16,Ac 98 11 1,Ab 99 98,Ag 100 99,Ap 101 97 100] [2,3,4,5,8,9,10,11,12,13,16,101]<|Co 101 (Sk [2,3,4,5,8,9,10,11,12,13,16])<|Ex 2 [5,8,9,10,11,12,13])<|Sq (Bl 3<|Rq [Ac 104 11 1,Ab 105 104,Aa 106 16,Ah 107 105 106 3,Ae 108 107 3,Cd 17 0 0 0,Ak 3 17 108] [2,3,4,5,8,9,10,11,12,13,16,17]<|Rq [Ac 109 4 1,Ab 110 109,Ac 111 17 0,Ab 112 111,Ah 113 110 112 1,Ab 114 113,Aa 18 114] [2,3,4,5,8,9,10,11,12,13,16,17,18]<|Rq [Ac 115 5 13,Aj 116 115 1,Ab 117 116,Aa 118 16,An 119 93 117 118,Bt 120 119 0,Aa 121 120,As 122 18 121,Cs 123 122 1 121,As 124 123 121,As 125 2 124,Fk 126 124 125 121,As 127 126 121,Az 128 18 127,Dv 129 128 3 127,Az 130 129 127,As 131 3 130,Ct 132 130 131 127,Dd 133 127 132 121,Aq 134 121 133] [2,3,4,5,8,9,10,11,12,13,16,17,134]<|Co 134 (Rq [Ac 135 13 1,Bp 136 135,Ac 137 10 1,Ab 138 137,Ag 139 138,Bh 140 1 139,Bc 141 1 136 140,Ac 142 13 1,Bm 1 142 141] [2,3,4,5,8,9,10,11,12,13,16,17]<|Sq (Dr [143,144,145,146,147,148,149,150,151,152,153,154,155,156,157,158,159,160] [Ac 143 10 1,Bp 144 143,Ac 145 17 0,Ab 146 145,Ac 147 12 0,Ab 148 147,Ac 149 17 1,Ab 150 149,An 151 93 148 150,Ac 152 12 0,Ab 153 152,Ac 154 17 2,Ab 155 154,An 156 93 153 155,Ed 157 0 0 0 0 1 146 1 1 151 2 1 156,Bh 158 3 157,Bc 159 3 144 158,Ac 160 10 1,Bm 1 160 159] [2,3,4,5,8,9,10,11,12,13,16])<|Re [Ac 161 12 1,Bp 162 161,Aa 163 16,Bh 164 1 163,Bc 165 1 162 164,Ac 166 12 1,Bm 1 166 165] [2,3,4,5,8,9,10,11,12,13,16])<|Sk [2,3,4,5,8,9,10,11,12,13,16])<|Re [Aa 102 16,Ao 103 102 1,Aa 16 103] [2,3,4,5,8,9,10,11,12,13,16])<|Sq (Dr [8,9,167,168,169,170,171,172,173] [Ae 167 5 25,Ae 168 10 2,Ae 169 11 2,Au 170 67 169,Ae 171 12 2,Cg 172 69 167 168 170 171,Ae 173 13 2,Ak 25 8 172,Ak 2 9 173] [8,9])<|.ret) [.cell 8 (some 25),.cell 9 (some 2)]:= by decide +kernel
theorem c115 (s_0:Sorts) (r_1:Rule) (source:Bool) (target:Bool) (r:(Rule × Part)) (h:ref53_translating s_0 r_1 source target=some r):Sound prog 115 [eSorts s_0,eRule r_1,eB source,eB target] (.tp [eRule r.1,ePart r.2]):= by
 refine Fn ck115 fun hw=>?_
 unfold ref53_translating at h
 refine D<|F<|a1 rfl rfl<|a1 rfl rfl<|b1 rfl<|b1 rfl<|E (kt<|kt<|kt<|kt<|kb<|kb<|kn) fun _=>?_
 refine D<|d4 rfl<|K rfl<|a6 rfl<|R rfl rfl (show _=eGraph r_1.Left.Graph from rfl) ?_
 obtain ⟨x22,hx22,h⟩:=J h
 refine q1 rfl (c67 r_1.Left.Graph _ hx22)<|K rfl<|a6 rfl<|R rfl rfl (show _=eGraph r_1.Right.Graph from rfl)<|b1 rfl<|b1 rfl<|l7 rfl rfl (by decide) rfl rfl rfl<|a9 rfl rfl rfl rfl rfl<|E (kt<|kt<|kt<|kt<|kb<|kb<|kb<|kb<|kn) fun _=>?_
 refine D<|d4 rfl<|e2 (e:=eI) (l:=[]) rfl rfl (fun _=>rfl)<|K rfl<|a6 rfl<|I rfl ?_
 obtain ⟨x30,hx30,h⟩:=J h
 refine e5 rfl rfl rfl rfl hx30 rfl<|e2 (e:=eI) (l:=[]) rfl rfl (fun _=>rfl)<|K rfl<|a6 rfl<|I rfl ?_
 obtain ⟨x35,hx35,h⟩:=J h
 refine e5 rfl rfl rfl rfl hx35 rfl<|m1 (by decide) (by decide) rfl rfl rfl<|b1 rfl<|l7 rfl rfl (by decide) rfl rfl rfl<|E (kt<|kt<|kt<|kt<|kb<|kb<|kb<|kb<|kb<|kn) fun _=>?_
 refine D<|F<|b1 rfl<|E (kt<|kt<|kt<|kt<|kb<|kb<|kb<|kb<|kb<|kb<|kn) fun _=>?_
 refine D<|D<|F<|C rfl<|E (kt<|kt<|kt<|kt<|kb<|kb<|kb<|kb<|kb<|kb<|kt<|kn) fun _=>?_
 obtain ⟨o0,ho0,h⟩:=d0 h
 refine g8 ho0 (fun (s0:Graph × Morphism × Part × Int)=>[(2,.tv (eB source)),(3,.tv (eB target)),(4,.tv (.pt (eSorts s_0).cells)),(5,.tv (.pt (eRule r_1).cells)),(8,.bx [⟨false,eS (⟨#[]⟩:ByteArray)⟩,⟨true,lI []⟩,⟨true,lE []⟩,⟨true,lS []⟩,⟨false,eI 0⟩,⟨true,lT []⟩,⟨true,lI []⟩,⟨true,lE []⟩,⟨true,lS []⟩,⟨false,eI 0⟩,⟨true,lT []⟩,⟨true,lI []⟩,⟨true,lI []⟩,⟨true,lI []⟩,⟨true,lI []⟩,⟨false,eB false⟩,⟨false,eI 0⟩,⟨true,eLCondition []⟩,⟨true,lI []⟩,⟨true,lI []⟩,⟨true,lI []⟩,⟨true,lE []⟩,⟨true,lS []⟩,⟨false,eI 0⟩,⟨true,lT []⟩]),(9,.bx [⟨true,lI []⟩,⟨true,lI []⟩]),(10,.bx [⟨true,lI s0.1.Nodes⟩,⟨true,lE s0.1.Edges⟩]),(11,.bx [⟨false,lI r_1.Right.Graph.Nodes⟩,⟨false,lE r_1.Right.Graph.Edges⟩]),(12,.bx [⟨true,lI s0.2.1.Nodes⟩,⟨true,lI s0.2.1.Edges⟩]),(13,.bx [⟨true,lI s0.2.2.1.Nodes⟩,⟨true,lI s0.2.2.1.Edges⟩]),(14,.tv (eI s0.2.2.2))]) (fun (s0:Graph × Morphism × Part × Int)=>[(2,.tv (eB source)),(3,.tv (eB target)),(4,.tv (.pt (eSorts s_0).cells)),(5,.tv (.pt (eRule r_1).cells)),(8,.bx [⟨false,eS (⟨#[]⟩:ByteArray)⟩,⟨true,lI []⟩,⟨true,lE []⟩,⟨true,lS []⟩,⟨false,eI 0⟩,⟨true,lT []⟩,⟨true,lI []⟩,⟨true,lE []⟩,⟨true,lS []⟩,⟨false,eI 0⟩,⟨true,lT []⟩,⟨true,lI []⟩,⟨true,lI []⟩,⟨true,lI []⟩,⟨true,lI []⟩,⟨false,eB false⟩,⟨false,eI 0⟩,⟨true,eLCondition []⟩,⟨true,lI []⟩,⟨true,lI []⟩,⟨true,lI []⟩,⟨true,lE []⟩,⟨true,lS []⟩,⟨false,eI 0⟩,⟨true,lT []⟩]),(9,.bx [⟨true,lI []⟩,⟨true,lI []⟩]),(10,.bx [⟨true,lI s0.1.Nodes⟩,⟨true,lE s0.1.Edges⟩]),(11,.bx [⟨false,lI r_1.Right.Graph.Nodes⟩,⟨false,lE r_1.Right.Graph.Edges⟩]),(12,.bx [⟨true,lI s0.2.1.Nodes⟩,⟨true,lI s0.2.1.Edges⟩]),(13,.bx [⟨true,lI s0.2.2.1.Nodes⟩,⟨true,lI s0.2.2.1.Edges⟩])]) (fun zv ze=>resIs ([.cell 8 (some 25),.cell 9 (some 2)]) (.tp [eRule zv.1,ePart zv.2]) ze) rfl ?_ ?_ ?_
 ·clear h ho0
  intro s0 r0 h hw0
  refine D<|D<|F<|C rfl<|a3 rfl<|I rfl<|V rfl rfl<|X rfl rfl<|E (kt<|kt<|kt<|kt<|kb<|kb<|kb<|kb<|kb<|kb<|kt<|kt<|kn) fun _=>?_
  refine U rfl (fun hc41=>?_) (fun hc41=>?_)
  ·replace h:=M hc41 h
   refine P (kt<|kt<|kt<|kt<|kb<|kb<|kb<|kb<|kb<|kb<|kt<|kn) fun _=>?_
   refine D<|a8<|D<|d4 rfl<|K rfl<|I rfl<|a3 rfl<|I rfl<|C rfl ?_
   obtain ⟨x49,hx49,h⟩:=J h
   refine a2 rfl rfl rfl hx49 rfl<|I rfl ?_
   obtain ⟨x51,hx51,h⟩:=J h
   refine a2 rfl rfl rfl hx51 rfl<|I rfl<|C rfl<|E (kt<|kt<|kt<|kt<|kb<|kb<|kb<|kb<|kb<|kb<|kt<|kt<|kn) fun _=>?_
   refine D<|F<|K rfl<|a6 rfl<|I rfl<|C rfl ?_
   obtain ⟨x57,hx57,h⟩:=J h
   refine W rfl (c93 r_1.Into.Nodes s0.2.2.2 _ hx57)<|X rfl rfl<|C rfl ?_
   refine gA 13 [60,61,62,63,64,65,66,67,68,69,70,71] 72 (decide (x57<0)) (((decide (x51=1))&&source)||((decide (x51=3))&&target)) (fun hg72=>?_) (fun hg72=>?_) ?_
   ·refine G rfl hg72<|C rfl<|G rfl hg72<|b8 rfl rfl<|G rfl hg72<|C rfl ?_
    refine gA 2 [63] 64 (decide (x51=1)) source (fun hg64=>?_) (fun hg64=>?_) ?_
    ·refine G rfl hg64<|C rfl<|G rfl hg72<|Z rfl hg64 rfl ?_
     exact ⟨⟨_,rfl⟩⟩
    ·refine H rfl hg64<|G rfl hg72<|a0 rfl hg64 rfl ?_
     exact ⟨⟨_,rfl⟩⟩
    rintro _ ⟨_,rfl⟩
    refine G rfl hg72<|C rfl ?_
    refine gO 6 [66,67,68,69,70] 71 ((decide (x51=1))&&source) ((decide (x51=3))&&target) (fun hg71=>?_) (fun hg71=>?_) ?_
    ·refine H rfl hg71<|H rfl hg71<|H rfl hg71<|d3 rfl<|H rfl hg71<|G rfl hg72<|Z rfl hg71 rfl ?_
     exact ⟨⟨_,_,_,_,_,rfl⟩⟩
    ·refine G rfl hg71<|C rfl<|G rfl hg71<|b8 rfl rfl<|G rfl hg71<|C rfl ?_
     refine gA 2 [69] 70 (decide (x51=3)) target (fun hg70=>?_) (fun hg70=>?_) ?_
     ·refine G rfl hg70<|C rfl<|G rfl hg71<|Z rfl hg70 rfl ?_
      exact ⟨⟨_,rfl⟩⟩
     ·refine H rfl hg70<|G rfl hg71<|a0 rfl hg70 rfl ?_
      exact ⟨⟨_,rfl⟩⟩
     rintro _ ⟨_,rfl⟩
     refine G rfl hg72<|a0 rfl hg71 rfl ?_
     exact ⟨⟨_,_,_,_,_,rfl⟩⟩
    rintro _ ⟨_,_,_,_,_,rfl⟩
    refine Z rfl hg72 rfl ?_
    exact ⟨⟨_,_,_,_,_,_,_,_,_,_,_,_,rfl⟩⟩
   ·refine H rfl hg72<|H rfl hg72<|H rfl hg72<|d3 rfl<|H rfl hg72<|H rfl hg72<|d3 rfl<|d3 rfl<|d3 rfl<|d3 rfl<|d3 rfl<|H rfl hg72<|a0 rfl hg72 rfl ?_
    exact ⟨⟨_,_,_,_,_,_,_,_,_,_,_,_,rfl⟩⟩
   rintro _ ⟨_,_,_,_,_,_,_,_,_,_,_,_,rfl⟩
   refine E (kt<|kt<|kt<|kt<|kb<|kb<|kb<|kb<|kb<|kb<|kt<|kt<|kn) fun _=>?_
   refine U rfl (fun hc72=>?_) (fun hc72=>?_)
   ·replace h:=M hc72 h
    refine D<|F<|a3 rfl<|f6 rfl rfl rfl rfl<|a3 rfl<|I rfl<|V rfl rfl<|e2 (e:=eI) (l:=[(s0.1.Nodes.length:Int)]) rfl rfl (fun _=>rfl) ?_
    obtain ⟨x79,hx79,h⟩:=J h
    refine e5 rfl rfl rfl rfl hx79 rfl<|a3 rfl<|f4 rfl rfl rfl (by decide) rfl rfl<|E (kt<|kt<|kt<|kt<|kb<|kb<|kb<|kb<|kb<|kb<|kt<|kn) fun _=>?_
    refine D<|d4 rfl<|a3 rfl<|f6 rfl rfl rfl rfl<|a3 rfl<|I rfl<|C rfl ?_
    obtain ⟨x86,hx86,h⟩:=J h
    refine a2 rfl rfl rfl hx86 rfl<|I rfl<|e2 (e:=eI) (l:=[x86]) rfl rfl (fun _=>rfl) ?_
    obtain ⟨x89,hx89,h⟩:=J h
    refine e5 rfl rfl rfl rfl hx89 rfl<|a3 rfl<|f4 rfl rfl rfl (by decide) rfl rfl<|E (kt<|kt<|kt<|kt<|kb<|kb<|kb<|kb<|kb<|kb<|kt<|kn) fun _=>?_
    refine F<|a3 rfl<|f6 rfl rfl rfl rfl<|C rfl<|e2 (e:=eI) (l:=[s0.2.2.2]) rfl rfl (fun _=>rfl) ?_
    obtain ⟨x95,hx95,h⟩:=J h
    refine e5 rfl rfl rfl rfl hx95 rfl<|a3 rfl<|f4 rfl rfl rfl (by decide) rfl rfl<|E (kt<|kt<|kt<|kt<|kb<|kb<|kb<|kb<|kb<|kb<|kt<|kn) fun _=>?_
    refine F<|C rfl<|a5 rfl rfl<|C rfl<|E (kt<|kt<|kt<|kt<|kb<|kb<|kb<|kb<|kb<|kb<|kt<|kn) ?_
    cases h
    refine ⟨_,rfl,?_⟩
    rw [Ktv rfl (Ktv rfl (Ktv rfl (Ktv rfl (Kbx rfl (Kbx rfl (Kbx rfl (Kbx rfl (Kbx rfl (Kbx rfl (Ktv rfl (Knil _)))))))))))]
    all_goals rfl
   ·replace h:=O hc72 h
    refine P (kt<|kt<|kt<|kt<|kb<|kb<|kb<|kb<|kb<|kb<|kt<|kn) fun _=>?_
    refine F<|C rfl<|a5 rfl rfl<|C rfl<|E (kt<|kt<|kt<|kt<|kb<|kb<|kb<|kb<|kb<|kb<|kt<|kn) ?_
    cases h
    refine ⟨_,rfl,?_⟩
    rw [Ktv rfl (Ktv rfl (Ktv rfl (Ktv rfl (Kbx rfl (Kbx rfl (Kbx rfl (Kbx rfl (Kbx rfl (Kbx rfl (Ktv rfl (Knil _)))))))))))]
    all_goals rfl
  ·replace h:=O hc41 h
   refine b0 (kt<|kt<|kt<|kt<|kb<|kb<|kb<|kb<|kb<|kb<|kn) ?_
   refine ⟨rfl,?_⟩
   cases h
   exact ⟨_,rfl,rfl⟩
 ·intro s0 hs
  replace h:=d1 h hs
  intro _
  refine D<|D<|F<|C rfl<|E (kt<|kt<|kt<|kt<|kb<|kb<|kb<|kb<|kb<|kb<|kt<|kn) fun _=>?_
  obtain ⟨o2,ho2,h⟩:=d0 h
  refine g8 ho2 (fun (s2:Graph × Morphism × Part × Int)=>[(2,.tv (eB source)),(3,.tv (eB target)),(4,.tv (.pt (eSorts s_0).cells)),(5,.tv (.pt (eRule r_1).cells)),(8,.bx [⟨false,eS (⟨#[]⟩:ByteArray)⟩,⟨true,lI []⟩,⟨true,lE []⟩,⟨true,lS []⟩,⟨false,eI 0⟩,⟨true,lT []⟩,⟨true,lI []⟩,⟨true,lE []⟩,⟨true,lS []⟩,⟨false,eI 0⟩,⟨true,lT []⟩,⟨true,lI []⟩,⟨true,lI []⟩,⟨true,lI []⟩,⟨true,lI []⟩,⟨false,eB false⟩,⟨false,eI 0⟩,⟨true,eLCondition []⟩,⟨true,lI []⟩,⟨true,lI []⟩,⟨true,lI []⟩,⟨true,lE []⟩,⟨true,lS []⟩,⟨false,eI 0⟩,⟨true,lT []⟩]),(9,.bx [⟨true,lI []⟩,⟨true,lI []⟩]),(10,.bx [⟨true,lI s2.1.Nodes⟩,⟨true,lE s2.1.Edges⟩]),(11,.bx [⟨false,lI r_1.Right.Graph.Nodes⟩,⟨false,lE r_1.Right.Graph.Edges⟩]),(12,.bx [⟨true,lI s2.2.1.Nodes⟩,⟨true,lI s2.2.1.Edges⟩]),(13,.bx [⟨true,lI s2.2.2.1.Nodes⟩,⟨true,lI s2.2.2.1.Edges⟩]),(16,.tv (eI s2.2.2.2))]) (fun (s2:Graph × Morphism × Part × Int)=>[(5,.tv (.pt (eRule r_1).cells)),(8,.bx [⟨false,eS (⟨#[]⟩:ByteArray)⟩,⟨true,lI []⟩,⟨true,lE []⟩,⟨true,lS []⟩,⟨false,eI 0⟩,⟨true,lT []⟩,⟨true,lI []⟩,⟨true,lE []⟩,⟨true,lS []⟩,⟨false,eI 0⟩,⟨true,lT []⟩,⟨true,lI []⟩,⟨true,lI []⟩,⟨true,lI []⟩,⟨true,lI []⟩,⟨false,eB false⟩,⟨false,eI 0⟩,⟨true,eLCondition []⟩,⟨true,lI []⟩,⟨true,lI []⟩,⟨true,lI []⟩,⟨true,lE []⟩,⟨true,lS []⟩,⟨false,eI 0⟩,⟨true,lT []⟩]),(9,.bx [⟨true,lI []⟩,⟨true,lI []⟩]),(10,.bx [⟨true,lI s2.1.Nodes⟩,⟨true,lE s2.1.Edges⟩]),(11,.bx [⟨false,lI r_1.Right.Graph.Nodes⟩,⟨false,lE r_1.Right.Graph.Edges⟩]),(12,.bx [⟨true,lI s2.2.1.Nodes⟩,⟨true,lI s2.2.1.Edges⟩]),(13,.bx [⟨true,lI s2.2.2.1.Nodes⟩,⟨true,lI s2.2.2.1.Edges⟩])]) (fun zv ze=>resIs ([.cell 8 (some 25),.cell 9 (some 2)]) (.tp [eRule zv.1,ePart zv.2]) ze) rfl ?_ ?_ ?_
  ·clear h ho2
   intro s2 r2 h hw2
   refine D<|D<|F<|C rfl<|a3 rfl<|I rfl<|V rfl rfl<|X rfl rfl<|E (kt<|kt<|kt<|kt<|kb<|kb<|kb<|kb<|kb<|kb<|kt<|kt<|kn) fun _=>?_
   refine U rfl (fun hc101=>?_) (fun hc101=>?_)
   ·replace h:=M hc101 h
    refine P (kt<|kt<|kt<|kt<|kb<|kb<|kb<|kb<|kb<|kb<|kt<|kn) fun _=>?_
    refine D<|a8<|D<|F<|a3 rfl<|I rfl<|C rfl ?_
    obtain ⟨x107,hx107,h⟩:=J h
    refine a2 rfl rfl rfl hx107 rfl<|R rfl rfl (show _=eEdge x107 from rfl)<|b1 rfl<|a9 rfl rfl rfl rfl rfl<|E (kt<|kt<|kt<|kt<|kb<|kb<|kb<|kb<|kb<|kb<|kt<|kb<|kn) fun _=>?_
    refine D<|F<|K rfl<|I rfl<|a3 rfl<|I rfl ?_
    obtain ⟨x113,hx113,h⟩:=J h
    refine a2 rfl rfl rfl hx113 rfl<|I rfl<|C rfl<|E (kt<|kt<|kt<|kt<|kb<|kb<|kb<|kb<|kb<|kb<|kt<|kb<|kt<|kn) fun _=>?_
    refine D<|F<|K rfl<|a6 rfl<|I rfl<|C rfl ?_
    obtain ⟨x119,hx119,h⟩:=J h
    refine W rfl (c93 r_1.Into.Edges s2.2.2.2 _ hx119)<|X rfl rfl<|C rfl ?_
    refine gA 13 [122,123,124,125,126,127,128,129,130,131,132,133] 134 (decide (x119<0)) (((decide (x113=1))&&source)||((decide (x113=3))&&target)) (fun hg134=>?_) (fun hg134=>?_) ?_
    ·refine G rfl hg134<|C rfl<|G rfl hg134<|b8 rfl rfl<|G rfl hg134<|C rfl ?_
     refine gA 2 [125] 126 (decide (x113=1)) source (fun hg126=>?_) (fun hg126=>?_) ?_
     ·refine G rfl hg126<|C rfl<|G rfl hg134<|Z rfl hg126 rfl ?_
      exact ⟨⟨_,rfl⟩⟩
     ·refine H rfl hg126<|G rfl hg134<|a0 rfl hg126 rfl ?_
      exact ⟨⟨_,rfl⟩⟩
     rintro _ ⟨_,rfl⟩
     refine G rfl hg134<|C rfl ?_
     refine gO 6 [128,129,130,131,132] 133 ((decide (x113=1))&&source) ((decide (x113=3))&&target) (fun hg133=>?_) (fun hg133=>?_) ?_
     ·refine H rfl hg133<|H rfl hg133<|H rfl hg133<|d3 rfl<|H rfl hg133<|G rfl hg134<|Z rfl hg133 rfl ?_
      exact ⟨⟨_,_,_,_,_,rfl⟩⟩
     ·refine G rfl hg133<|C rfl<|G rfl hg133<|b8 rfl rfl<|G rfl hg133<|C rfl ?_
      refine gA 2 [131] 132 (decide (x113=3)) target (fun hg132=>?_) (fun hg132=>?_) ?_
      ·refine G rfl hg132<|C rfl<|G rfl hg133<|Z rfl hg132 rfl ?_
       exact ⟨⟨_,rfl⟩⟩
      ·refine H rfl hg132<|G rfl hg133<|a0 rfl hg132 rfl ?_
       exact ⟨⟨_,rfl⟩⟩
      rintro _ ⟨_,rfl⟩
      refine G rfl hg134<|a0 rfl hg133 rfl ?_
      exact ⟨⟨_,_,_,_,_,rfl⟩⟩
     rintro _ ⟨_,_,_,_,_,rfl⟩
     refine Z rfl hg134 rfl ?_
     exact ⟨⟨_,_,_,_,_,_,_,_,_,_,_,_,rfl⟩⟩
    ·refine H rfl hg134<|H rfl hg134<|H rfl hg134<|d3 rfl<|H rfl hg134<|H rfl hg134<|d3 rfl<|d3 rfl<|d3 rfl<|d3 rfl<|d3 rfl<|H rfl hg134<|a0 rfl hg134 rfl ?_
     exact ⟨⟨_,_,_,_,_,_,_,_,_,_,_,_,rfl⟩⟩
    rintro _ ⟨_,_,_,_,_,_,_,_,_,_,_,_,rfl⟩
    refine E (kt<|kt<|kt<|kt<|kb<|kb<|kb<|kb<|kb<|kb<|kt<|kb<|kt<|kn) fun _=>?_
    refine U rfl (fun hc134=>?_) (fun hc134=>?_)
    ·replace h:=M hc134 h
     refine D<|F<|a3 rfl<|f6 rfl rfl rfl rfl<|a3 rfl<|I rfl<|V rfl rfl<|e2 (e:=eI) (l:=[(s2.1.Edges.length:Int)]) rfl rfl (fun _=>rfl) ?_
     obtain ⟨x141,hx141,h⟩:=J h
     refine e5 rfl rfl rfl rfl hx141 rfl<|a3 rfl<|f4 rfl rfl rfl (by decide) rfl rfl<|E (kt<|kt<|kt<|kt<|kb<|kb<|kb<|kb<|kb<|kb<|kt<|kb<|kn) fun _=>?_
     refine D<|d4 rfl<|a3 rfl<|f6 rfl rfl rfl rfl<|a3 rfl<|I rfl<|a3 rfl<|I rfl<|a3 rfl<|I rfl ?_
     obtain ⟨x151,hx151,h⟩:=J h
     refine W rfl (c93 s2.2.1.Nodes x107.From _ hx151)<|a3 rfl<|I rfl<|a3 rfl<|I rfl ?_
     obtain ⟨x156,hx156,h⟩:=J h
     refine W rfl (c93 s2.2.1.Nodes x107.To _ hx156)<|g5 rfl rfl rfl (show _=eEdge (Edge.mk x107.Type' x151 x156) from rfl)<|e2 (e:=eEdge) (l:=[Edge.mk x107.Type' x151 x156]) rfl rfl (fun _=>rfl) ?_
     obtain ⟨x159,hx159,h⟩:=J h
     refine e5 rfl rfl rfl rfl hx159 rfl<|a3 rfl<|f4 rfl rfl rfl (by decide) rfl rfl<|E (kt<|kt<|kt<|kt<|kb<|kb<|kb<|kb<|kb<|kb<|kt<|kn) fun _=>?_
     refine F<|a3 rfl<|f6 rfl rfl rfl rfl<|C rfl<|e2 (e:=eI) (l:=[s2.2.2.2]) rfl rfl (fun _=>rfl) ?_
     obtain ⟨x165,hx165,h⟩:=J h
     refine e5 rfl rfl rfl rfl hx165 rfl<|a3 rfl<|f4 rfl rfl rfl (by decide) rfl rfl<|E (kt<|kt<|kt<|kt<|kb<|kb<|kb<|kb<|kb<|kb<|kt<|kn) fun _=>?_
     refine F<|C rfl<|a5 rfl rfl<|C rfl<|E (kt<|kt<|kt<|kt<|kb<|kb<|kb<|kb<|kb<|kb<|kt<|kn) ?_
     cases h
     refine ⟨_,rfl,?_⟩
     rw [Ktv rfl (Ktv rfl (Ktv rfl (Ktv rfl (Kbx rfl (Kbx rfl (Kbx rfl (Kbx rfl (Kbx rfl (Kbx rfl (Ktv rfl (Knil _)))))))))))]
     all_goals rfl
    ·replace h:=O hc134 h
     refine P (kt<|kt<|kt<|kt<|kb<|kb<|kb<|kb<|kb<|kb<|kt<|kn) fun _=>?_
     refine F<|C rfl<|a5 rfl rfl<|C rfl<|E (kt<|kt<|kt<|kt<|kb<|kb<|kb<|kb<|kb<|kb<|kt<|kn) ?_
     cases h
     refine ⟨_,rfl,?_⟩
     rw [Ktv rfl (Ktv rfl (Ktv rfl (Ktv rfl (Kbx rfl (Kbx rfl (Kbx rfl (Kbx rfl (Kbx rfl (Kbx rfl (Ktv rfl (Knil _)))))))))))]
     all_goals rfl
   ·replace h:=O hc101 h
    refine b0 (kt<|kb<|kb<|kb<|kb<|kb<|kb<|kn) ?_
    refine ⟨rfl,?_⟩
    cases h
    exact ⟨_,rfl,rfl⟩
  ·intro s2 hs
   replace h:=d1 h hs
   intro _
   refine D<|d4 rfl<|R rfl rfl (show _=eRule r_1 from rfl)<|R rfl rfl (show _=eGraph s2.1 from rfl)<|R rfl rfl (show _=eGraph r_1.Right.Graph from rfl) ?_
   obtain ⟨x170,hx170,h⟩:=J h
   refine q2 rfl (c67 r_1.Right.Graph _ hx170) (show _=eGraph x170 from rfl)<|R rfl rfl (show _=eMorphism s2.2.1 from rfl) ?_
   obtain ⟨x172,hx172,h⟩:=J h
   refine W rfl (c69 r_1 s2.1 x170 s2.2.1 _ hx172)<|R rfl rfl (show _=ePart s2.2.2.1 from rfl)<|a9 rfl rfl rfl rfl rfl<|a9 rfl rfl rfl rfl rfl<|E (kb<|kb<|kn) fun _=>?_
   refine L ?_
   cases h
   exact ⟨by decide,rfl⟩
  ·intro v2 ze hv hR
   replace h:=d2 h hv
   cases h
   exact hR
 ·intro v0 ze hv hR
  replace h:=d2 h hv
  cases h
  exact hR
theorem ck63:CK f63 (Rq [Af 5 0,Af 6 1,Af 7 2,Ca 10 1 3 4 0 5 1 3 4 0 5 1 1 1 1 0 9 1 1 1 3 4 0 5,Bd 11 1 1,Ad 12 0] [3,4,5,6,7,10,11]<|Sq (Rq [Ae 16 5 2,Ae 17 6 2,Ae 18 7 25,Bf 19 16 16 17 18,Aa 13 19] [3,4,6,7,10,11,13]<|Rq [Aa 20 13,Ax 21 20 0] [3,4,6,7,10,11,13,21]<|Co 21 (Rq [Er 22 1 3 4 0 5 1 3 4 0 5 1 1 1 1 0 9 1 1 1 3 4 0 5,Da 23 1 1,Aa 24 13,Ak 25 10 22,Ak 2 11 23,Aa 12 24] [10,11,12]<|.ret)<|Sk [3,4,6,7,10,11])<|Rq [Ae 26 6 2,Ae 27 7 25,Aa 28 3,Aa 29 4,Cg 30 115 26 27 28 29,Aa 25 30,At 31 25 0,At 32 25 1,Ca 14 1 3 4 0 5 1 3 4 0 5 1 1 1 1 0 9 1 1 1 3 4 0 5,Bd 15 1 1,Ak 25 14 31,Ak 2 15 32] [10,11,14,15]<|Sq (Dr [10,11,12,33,34] [Ae 33 14 25,Ae 34 15 2,Ak 25 10 33,Ak 2 11 34,Ad 12 0] [10,11,12])<|.ret) [.cell 10 (some 25),.cell 11 (some 2),.tmp 12]:= by decide +kernel
theorem c63 (t:Types) (s_1:Sorts) (r_2:Rule) (source:Bool) (target:Bool) (r:(Rule × Part × Int)) (h:ref53_Translating t s_1 r_2 source target=some r):Sound prog 63 [eTypes t,eSorts s_1,eRule r_2,eB source,eB target] (.tp [eRule r.1,ePart r.2.1,eI r.2.2]):= by
 refine Fn ck63 fun hw=>?_
 unfold ref53_Translating at h
 refine D<|F<|a1 rfl rfl<|a1 rfl rfl<|a1 rfl rfl<|b1 rfl<|b1 rfl<|C rfl<|E (kt<|kt<|kt<|kt<|kt<|kb<|kb<|kn) fun _=>?_
 refine D<|D<|F<|R rfl rfl (show _=eTypes t from rfl)<|R rfl rfl (show _=eSorts s_1 from rfl)<|R rfl rfl (show _=eRule r_2 from rfl) ?_
 obtain ⟨x19,hx19,h⟩:=J h
 refine W rfl (c16 t s_1 r_2 _ hx19)<|C rfl<|E (kt<|kt<|kt<|kt<|kb<|kb<|kt<|kn) fun _=>?_
 refine D<|F<|C rfl<|a7 rfl rfl<|E (kt<|kt<|kt<|kt<|kb<|kb<|kt<|kt<|kn) fun _=>?_
 refine U rfl (fun hc21=>?_) (fun hc21=>?_)
 ·replace h:=M hc21 h
  refine D<|F<|e7 rfl rfl (show _=eRule (Rule.mk (⟨#[]⟩:ByteArray) (Pattern.mk (Graph.mk [] []) [] 0 []) (Pattern.mk (Graph.mk [] []) [] 0 []) (Part.mk [] []) (Morphism.mk [] []) false (Condition.mk 0 [] (Morphism.mk [] []) (Pattern.mk (Graph.mk [] []) [] 0 []))) from rfl)<|e7 rfl rfl (show _=ePart (Part.mk [] []) from rfl)<|C rfl<|a9 rfl rfl rfl rfl rfl<|a9 rfl rfl rfl rfl rfl<|C rfl<|E (kb<|kb<|kt<|kn) fun _=>?_
  refine L ?_
  cases h
  exact ⟨by decide,rfl⟩
 ·replace h:=O hc21 h
  refine P (kt<|kt<|kt<|kt<|kb<|kb<|kn) fun _=>?_
  refine D<|F<|R rfl rfl (show _=eSorts s_1 from rfl)<|R rfl rfl (show _=eRule r_2 from rfl)<|C rfl<|C rfl ?_
  obtain ⟨x30,hx30,h⟩:=J h
  refine e6 rfl (c115 s_1 r_2 source target _ hx30)<|e8 rfl<|b9 rfl rfl<|b9 rfl rfl<|b1 rfl<|b1 rfl<|a9 rfl rfl rfl rfl rfl<|a9 rfl rfl rfl rfl rfl<|E (kb<|kb<|kb<|kb<|kn) fun _=>?_
  refine D<|d4 rfl<|R rfl rfl (show _=eRule x30.1 from rfl)<|R rfl rfl (show _=ePart x30.2 from rfl)<|a9 rfl rfl rfl rfl rfl<|a9 rfl rfl rfl rfl rfl<|C rfl<|E (kb<|kb<|kt<|kn) fun _=>?_
  refine L ?_
  cases h
  exact ⟨by decide,rfl⟩
theorem ck24:CK f24 (Rq [Af 3 0,Af 4 1,Af 5 2,Ca 6 1 3 4 0 5 1 3 4 0 5 1 1 1 1 0 9 1 1 1 3 4 0 5,Bd 7 1 1,Ad 8 0] [3,4,5,6,7]<|Rq [Ae 9 3 2,Ae 10 4 2,Ae 11 5 25,⟨some 12,.call 63 [.s 9,.s 10,.s 11,.c (.bool true),.c (.bool true)],none⟩,At 13 12 0,At 14 12 1,At 15 12 2,Ak 25 6 13,Ak 2 7 14,Aa 8 15] [6,7,8]<|.ret) [.cell 6 (some 25),.cell 7 (some 2),.tmp 8]:= by decide +kernel
theorem c24 (t:Types) (s_1:Sorts) (r_2:Rule) (r:(Rule × Part × Int)) (h:ref53_Consistency t s_1 r_2=some r):Sound prog 24 [eTypes t,eSorts s_1,eRule r_2] (.tp [eRule r.1,ePart r.2.1,eI r.2.2]):= by
 refine Fn ck24 fun hw=>?_
 unfold ref53_Consistency at h
 refine D<|F<|a1 rfl rfl<|a1 rfl rfl<|a1 rfl rfl<|b1 rfl<|b1 rfl<|C rfl<|E (kt<|kt<|kt<|kb<|kb<|kn) fun _=>?_
 refine D<|F<|R rfl rfl (show _=eTypes t from rfl)<|R rfl rfl (show _=eSorts s_1 from rfl)<|R rfl rfl (show _=eRule r_2 from rfl) ?_
 obtain ⟨x12,hx12,h⟩:=J h
 refine e6 rfl (c63 t s_1 r_2 true true _ hx12)<|b9 rfl rfl<|b9 rfl rfl<|b9 rfl rfl<|a9 rfl rfl rfl rfl rfl<|a9 rfl rfl rfl rfl rfl<|C rfl<|E (kb<|kb<|kt<|kn) fun _=>?_
 refine L ?_
 cases h
 exact ⟨by decide,rfl⟩
theorem ck5:CK f5 (Rq [Af 2 0,Af 3 1,Ai 4] [2,3]<|Sq (Rq [Dh 11 9,Ay 12 11,Aa 13 12,Am 14 2 0 13,Cf 15 14 2 13,Am 16 2 2 13,Cf 17 16 2 13,Cf 18 3 25 13,⟨some 19,.call 10 [.s 15,.s 17,.s 18],some (13,false)⟩,Bq 20 19 13,Ar 21 13 20] [2,3,21]<|Co 21 (Rq [Dh 22 9,Aa 4 22] [4]<|.ret)<|Sk [2,3])<|Rq [Ac 24 2 0,Ae 25 24 2,Ac 26 2 2,Ae 27 26 2,Ae 28 3 25,Bf 29 23 25 27 28,Aa 23 29,At 30 23 0,At 31 23 1,At 32 23 2,Ca 5 1 3 4 0 5 1 3 4 0 5 1 1 1 1 0 9 1 1 1 3 4 0 5,Bd 6 1 1,Ak 25 5 30,Ak 2 6 31,Aa 7 32] [2,3,5,6,7]<|Rq [Ac 34 2 0,Ae 35 34 2,Ac 36 2 2,Ae 37 36 2,Ae 38 3 25,Bf 39 24 35 37 38,Aa 33 39,At 40 33 0,At 41 33 1,At 42 33 2,Ca 8 1 3 4 0 5 1 3 4 0 5 1 1 1 1 0 9 1 1 1 3 4 0 5,Bd 9 1 1,Ak 25 8 40,Ak 2 9 41,Aa 10 42] [5,6,7,8,9,10]<|Rq [Aa 43 7,Aa 44 10,By 45 43 44,Aa 46 45,Bj 47 5 25 46,Bj 48 8 25 46,Bv 49 17 47 48 46,Aq 50 46 49,Aa 51 50,Bj 52 6 2 51,Bj 53 9 2 51,Bv 54 22 52 53 51,Aq 55 51 54,Aa 4 55] [4]<|.ret) [.tmp 4]:= by decide +kernel
theorem c5 (c:law53_Case) (r_1:Rule) (r:Bool) (h:law53_TripleruleConsistency c r_1=some r):Sound prog 5 [elaw53_Case c,eRule r_1] (.sh (eB r)):= by
 refine Fn ck5 fun hw=>?_
 unfold law53_TripleruleConsistency at h
 refine D<|F<|a1 rfl rfl<|a1 rfl rfl<|C rfl<|E (kt<|kt<|kn) fun _=>?_
 refine D<|D<|F ?_
 obtain ⟨x11,hx11,h⟩:=J h
 refine W rfl (c9  _ hx11)<|b7 rfl<|C rfl ?_
 obtain ⟨x21,hx21,h⟩:=J h
 refine gX 8 [14,15,16,17,18,19,20] 21 x21 (!x11) (fun hg21=>?_) (fun hg21=>?_) ?_
 ·replace h:=M hg21 hx21
  cases h
  refine H rfl hg21<|H rfl hg21<|H rfl hg21<|H rfl hg21<|H rfl hg21<|H rfl hg21<|H rfl hg21<|Z rfl hg21 rfl ?_
  exact ⟨⟨_,_,_,_,_,_,_,rfl⟩⟩
 ·replace h:=O hg21 hx21
  refine G rfl hg21<|K rfl<|G rfl hg21<|R rfl rfl (show _=eTypes c.T from rfl)<|G rfl hg21<|K rfl<|G rfl hg21<|R rfl rfl (show _=eSorts c.S from rfl)<|G rfl hg21<|R rfl rfl (show _=eRule r_1 from rfl) ?_
  obtain ⟨x19,hx19,h⟩:=J h
  refine G rfl hg21<|W rfl (c10 c.T c.S r_1 _ hx19)<|G rfl hg21<|b7 rfl ?_
  cases h
  refine a0 rfl hg21 rfl ?_
  exact ⟨⟨_,_,_,_,_,_,_,rfl⟩⟩
 rintro _ ⟨_,_,_,_,_,_,_,rfl⟩
 refine E (kt<|kt<|kt<|kn) fun _=>?_
 refine U rfl (fun hc21=>?_) (fun hc21=>?_)
 ·replace h:=M hc21 h
  refine D<|F ?_
  obtain ⟨x22,hx22,h⟩:=J h
  refine W rfl (c9  _ hx22)<|C rfl<|E (kt<|kn) fun _=>?_
  exact L (by cases h;rfl)
 ·replace h:=O hc21 h
  refine P (kt<|kt<|kn) fun _=>?_
  refine D<|F<|K rfl<|R rfl rfl (show _=eTypes c.T from rfl)<|K rfl<|R rfl rfl (show _=eSorts c.S from rfl)<|R rfl rfl (show _=eRule r_1 from rfl) ?_
  obtain ⟨x29,hx29,h⟩:=J h
  refine e6 rfl (c23 c.T c.S r_1 _ hx29)<|e8 rfl<|b9 rfl rfl<|b9 rfl rfl<|b9 rfl rfl<|b1 rfl<|b1 rfl<|a9 rfl rfl rfl rfl rfl<|a9 rfl rfl rfl rfl rfl<|C rfl<|E (kt<|kt<|kb<|kb<|kt<|kn) fun _=>?_
  refine D<|F<|K rfl<|R rfl rfl (show _=eTypes c.T from rfl)<|K rfl<|R rfl rfl (show _=eSorts c.S from rfl)<|R rfl rfl (show _=eRule r_1 from rfl) ?_
  obtain ⟨x39,hx39,h⟩:=J h
  refine e6 rfl (c24 c.T c.S r_1 _ hx39)<|e8 rfl<|b9 rfl rfl<|b9 rfl rfl<|b9 rfl rfl<|b1 rfl<|b1 rfl<|a9 rfl rfl rfl rfl rfl<|a9 rfl rfl rfl rfl rfl<|C rfl<|E (kb<|kb<|kt<|kb<|kb<|kt<|kn) fun _=>?_
  refine D<|F<|C rfl<|C rfl<|b8 rfl rfl<|C rfl ?_
  obtain ⟨x50,hx50,h⟩:=J h
  refine gX 4 [47,48,49] 50 x50 (decide (x29.2.2=x39.2.2)) (fun hg50=>?_) (fun hg50=>?_) ?_
  ·replace h:=M hg50 hx50
   refine G rfl hg50<|R rfl rfl (show _=eRule x29.1 from rfl)<|G rfl hg50<|R rfl rfl (show _=eRule x39.1 from rfl) ?_
   obtain ⟨x49,hx49,h⟩:=J h
   refine G rfl hg50<|W rfl (c17 x29.1 x39.1 _ hx49) ?_
   cases h
   refine Z rfl hg50 rfl ?_
   exact ⟨⟨_,_,_,rfl⟩⟩
  ·replace h:=O hg50 hx50
   cases h
   refine H rfl hg50<|H rfl hg50<|H rfl hg50<|a0 rfl hg50 rfl ?_
   exact ⟨⟨_,_,_,rfl⟩⟩
  rintro _ ⟨_,_,_,rfl⟩
  refine C rfl ?_
  obtain ⟨x55,hx55,h⟩:=J h
  refine gX 4 [52,53,54] 55 x55 x50 (fun hg55=>?_) (fun hg55=>?_) ?_
  ·replace h:=M hg55 hx55
   refine G rfl hg55<|R rfl rfl (show _=ePart x29.2.1 from rfl)<|G rfl hg55<|R rfl rfl (show _=ePart x39.2.1 from rfl) ?_
   obtain ⟨x54,hx54,h⟩:=J h
   refine G rfl hg55<|W rfl (c22 x29.2.1 x39.2.1 _ hx54) ?_
   cases h
   refine Z rfl hg55 rfl ?_
   exact ⟨⟨_,_,_,rfl⟩⟩
  ·replace h:=O hg55 hx55
   cases h
   refine H rfl hg55<|H rfl hg55<|H rfl hg55<|a0 rfl hg55 rfl ?_
   exact ⟨⟨_,_,_,rfl⟩⟩
  rintro _ ⟨_,_,_,rfl⟩
  refine C rfl<|E (kt<|kn) fun _=>?_
  exact L (by cases h;rfl)
end Go.Sf.Sc
