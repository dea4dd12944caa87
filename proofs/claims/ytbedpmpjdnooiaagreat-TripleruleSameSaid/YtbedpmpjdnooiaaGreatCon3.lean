/- Contracts of the functions. -/
import Derived.Test.YtbedpmpjdnooiaaGreatCon2
import Derived.Test.YtbedpmpjdnooiaaGreatTryzShelf
set_option maxRecDepth 100000
namespace Go.Sf.Sc
open Go Go.Sf Go.Proofs.Tryz
theorem ck8:CK f8 (Rq [Af 1 0,Ak 2] [1]<|Sq (Rq [Cx 19 9,Ay 20 19,Aa 21 20,Ea 22 1 4 21,Dk 23 25 22 21,Bq 24 23 21,Ar 25 21 24] [1,25]<|Co 25 (Rq [Cx 26 9,Aa 2 26] [2]<|.ret)<|Sk [1])<|Rq [Cx 28 26,Aa 27 28,Aq 29 27 0,Aq 30 27 1,Bc 3 4 7,Bc 4 1 1,Aj 2 3 29,Aj 2 4 30] [1,3,4]<|Rq [Ae 31 1 4,At 32 27 31,Bu 5 1 3 4 0 5 1 3 4 0 5 1 1 1 1 0 9 1 1 1 3 4 0 5,Aj 25 5 32] [3,4,5]<|Rq [Ae 34 3 2,Ae 35 4 2,Ae 36 5 25,Bg 37 18 34 35 36,Aa 33 37,Aq 38 33 0,Aq 39 33 1,Aq 40 33 2,Bu 6 1 3 4 0 5 1 3 4 0 5 1 1 1 1 0 9 1 1 1 3 4 0 5,Bc 7 1 1,Aj 25 6 38,Aj 2 7 39,Aa 8 40] [3,4,5,6,8]<|Rq [Ae 42 3 2,Ae 43 4 2,Ae 44 5 25,Bg 45 20 42 43 44,Aa 41 45,Aq 46 41 0,Aq 47 41 1,Aq 48 41 2,Bu 9 1 3 4 0 5 1 3 4 0 5 1 1 1 1 0 9 1 1 1 3 4 0 5,Bc 10 1 1,Aj 25 9 46,Aj 2 10 47,Aa 11 48] [3,4,5,6,8,9,11]<|Rq [Ae 50 3 2,Ae 51 4 2,Ae 52 5 25,Bg 53 23 50 51 52,Aa 49 53,Aq 54 49 0,Aq 55 49 1,Aq 56 49 2,Bu 12 1 3 4 0 5 1 3 4 0 5 1 1 1 1 0 9 1 1 1 3 4 0 5,Bc 13 1 1,Aj 25 12 54,Aj 2 13 55,Aa 14 56] [3,5,6,8,9,11,12,14]<|Sq (Rq [Aa 57 8,Av 58 57 0,Aa 59 58,Ax 60 11 59,Ed 61 60 0 59,Ar 62 59 61,Aa 63 62,Ax 64 14 63,Ed 65 64 0 63,Ar 66 63 65] [3,5,6,9,12,66]<|Co 66 (Rq [Ak 2] [2]<|.ret)<|Sk [3,5,6,9,12])<|Sq (Rq [Ae 67 6 25,Ae 68 9 25,Ae 69 12 25,⟨some 70,.lst 25 [.s 67,.s 68,.s 69],none⟩,Ag 71 70,Ad 72 0] [3,5,12,70,71,72]<|Bl 0<|Lo [3,5,12,70,71,72]<|Rq [Ao 73 72 71] [3,5,12,70,71,72,73]<|Sq (Co 73 (Sk [3,5,12,70,71,72])<|Ex 0 [])<|Sq (Bl 1<|Rq [Ah 74 70 72 25,Ae 75 74 25,Bu 16 1 3 4 0 5 1 3 4 0 5 1 1 1 1 0 9 1 1 1 3 4 0 5,Aj 25 16 75] [3,5,12,16,70,71,72]<|Sq (Dr [17,18,76,77,78,79,80,81,82,83,84,85] [Ac 76 5 1,Ai 77 76 0,Ai 78 77 0,Ab 79 78,Ag 80 79,Ac 81 5 1,Ai 82 81 0,Ai 83 82 1,Ab 84 83,Ag 85 84,Aa 17 80,Aa 18 85] [3,5,12,16,17,18,70,71,72])<|Sq (Rq [Ac 86 16 6,Ai 87 86 0,Ae 88 87 2,Ac 89 5 6,Ai 90 89 0,Ae 91 90 2,Am 92 41 88 91,Ay 93 92,Aa 94 93,Ap 95 16 1 94,Be 96 95 0 94,Be 97 96 0 94,An 98 97 94,Bb 99 98 94,Ax 100 17 94,Ee 101 99 100 94,Ar 102 94 101,Aa 103 102,Ap 104 16 1 103,Be 105 104 0 103,Be 106 105 1 103,An 107 106 103,Bb 108 107 103,Ax 109 18 103,Ee 110 108 109 103,Ar 111 103 110,Aa 112 111,Ea 113 3 2 112,Ea 114 16 25 112,Cn 115 42 113 114 112,Ed 116 115 0 112,Ar 117 112 116] [3,5,12,16,17,18,70,71,72,117]<|Co 117 (Rq [Ak 2] [2]<|.ret)<|Sk [3,5,12,16,17,18,70,71,72])<|Sq (Dr [118,119,120,121,122,123,124,125,126,127,128,129,130,131,132,133,134,135,136,137,138,139,140,141,142,143,144,145,146,147,148,149,150,151,152,153,154,155,156] [Ac 118 16 1,Ai 119 118 0,Ai 120 119 0,Ab 121 120,Aa 122 17,Cv 123 1 121 122,Ac 124 5 1,Ai 125 124 0,Ai 126 125 0,Ab 127 126,Am 128 43 123 127,Ay 129 128,Aa 130 129,Ap 131 16 1 130,Be 132 131 0 130,Be 133 132 1 130,An 134 133 130,Ax 135 18 130,⟨some 136,.slc 3 (.s 134) none (some (.s 135)),some (130,false)⟩,Ap 137 5 1 130,Be 138 137 0 130,Be 139 138 1 130,An 140 139 130,Cn 141 44 136 140 130,Bq 142 141 130,Ar 143 130 142,Aa 144 143,Ap 145 16 1 144,Be 146 145 0 144,Be 147 146 0 144,An 148 147 144,Bb 149 148 144,Ap 150 12 1 144,Be 151 150 0 144,Be 152 151 0 144,An 153 152 144,Bb 154 153 144,⟨some 155,.bin (.i) .gtr (.s 149) (.s 154),some (144,false)⟩,Ar 156 144 155] [3,5,12,70,71,72,156])<|Co 156 (Rq [Ak 2] [2]<|.ret)<|Sk [3,5,12,70,71,72])<|Re [Al 157 72 1,Aa 72 157] [3,5,12,70,71,72])<|Rq [Bw 2] [2]<|.ret) [.tmp 2]:= by decide +kernel
theorem c8 (d:ref53_Draft) (r:Bool) (h:law53_TripleruleSame d=some r):Sound prog 8 [eref53_Draft d] (.sh (eB r)):= by
 refine Fn ck8 fun hw=>?_
 unfold law53_TripleruleSame at h
 refine D<|F<|a4 rfl rfl<|C rfl<|E (kt<|kn) fun _=>?_
 refine D<|D<|F ?_
 obtain ⟨x19,hx19,h⟩:=I h
 refine U rfl (c9  _ hx19)<|b9 rfl<|C rfl ?_
 obtain ⟨x25,hx25,h⟩:=I h
 refine gX 4 [22,23,24] 25 x25 (!x19) (fun hg25=>?_) (fun hg25=>?_) ?_
 ·replace h:=O hg25 hx25
  cases h
  refine H rfl hg25<|H rfl hg25<|H rfl hg25<|Z rfl hg25 rfl ?_
  exact ⟨⟨_,_,_,rfl⟩⟩
 ·replace h:=P hg25 hx25
  refine G rfl hg25<|R rfl rfl (show _=eref53_Draft d from rfl) ?_
  obtain ⟨x23,hx23,h⟩:=I h
  refine G rfl hg25<|U rfl (c25 d _ hx23)<|G rfl hg25<|b9 rfl ?_
  cases h
  refine a3 rfl hg25 rfl ?_
  exact ⟨⟨_,_,_,rfl⟩⟩
 rintro _ ⟨_,_,_,rfl⟩
 refine E (kt<|kt<|kn) fun _=>?_
 refine S rfl (fun hc25=>?_) (fun hc25=>?_)
 ·replace h:=O hc25 h
  refine D<|F ?_
  obtain ⟨x26,hx26,h⟩:=I h
  refine U rfl (c9  _ hx26)<|C rfl<|E (kt<|kn) fun _=>?_
  exact L (by cases h;rfl)
 ·replace h:=P hc25 h
  refine M (kt<|kn) fun _=>?_
  refine D<|F ?_
  obtain ⟨x28,hx28,h⟩:=I h
  refine e6 rfl (c26  _ hx28)<|e8 rfl<|b4 rfl rfl<|b4 rfl rfl<|b1 rfl<|b1 rfl<|a8 rfl rfl rfl rfl rfl<|a8 rfl rfl rfl rfl rfl<|E (kt<|kb<|kb<|kn) fun _=>?_
  refine D<|F<|R rfl rfl (show _=eref53_Draft d from rfl) ?_
  obtain ⟨x32,hx32,h⟩:=I h
  refine U rfl (c27 d _ hx32)<|b1 rfl<|a8 rfl rfl rfl rfl rfl<|E (kb<|kb<|kb<|kn) fun _=>?_
  refine D<|F<|R rfl rfl (show _=eTypes x28.1 from rfl)<|R rfl rfl (show _=eSorts x28.2 from rfl)<|R rfl rfl (show _=eRule x32 from rfl) ?_
  obtain ⟨x37,hx37,h⟩:=I h
  refine e6 rfl (c18 x28.1 x28.2 x32 _ hx37)<|e8 rfl<|b4 rfl rfl<|b4 rfl rfl<|b4 rfl rfl<|b1 rfl<|b1 rfl<|a8 rfl rfl rfl rfl rfl<|a8 rfl rfl rfl rfl rfl<|C rfl<|E (kb<|kb<|kb<|kb<|kt<|kn) fun _=>?_
  refine D<|F<|R rfl rfl (show _=eTypes x28.1 from rfl)<|R rfl rfl (show _=eSorts x28.2 from rfl)<|R rfl rfl (show _=eRule x32 from rfl) ?_
  obtain ⟨x45,hx45,h⟩:=I h
  refine e6 rfl (c20 x28.1 x28.2 x32 _ hx45)<|e8 rfl<|b4 rfl rfl<|b4 rfl rfl<|b4 rfl rfl<|b1 rfl<|b1 rfl<|a8 rfl rfl rfl rfl rfl<|a8 rfl rfl rfl rfl rfl<|C rfl<|E (kb<|kb<|kb<|kb<|kt<|kb<|kt<|kn) fun _=>?_
  refine D<|F<|R rfl rfl (show _=eTypes x28.1 from rfl)<|R rfl rfl (show _=eSorts x28.2 from rfl)<|R rfl rfl (show _=eRule x32 from rfl) ?_
  obtain ⟨x53,hx53,h⟩:=I h
  refine e6 rfl (c23 x28.1 x28.2 x32 _ hx53)<|e8 rfl<|b4 rfl rfl<|b4 rfl rfl<|b4 rfl rfl<|b1 rfl<|b1 rfl<|a8 rfl rfl rfl rfl rfl<|a8 rfl rfl rfl rfl rfl<|C rfl<|E (kb<|kb<|kb<|kt<|kb<|kt<|kb<|kt<|kn) fun _=>?_
  refine D<|D<|F<|C rfl<|b0 rfl rfl<|C rfl ?_
  refine gO 3 [60,61] 62 (!decide (x37.2.2=0)) (!decide (x45.2.2=0)) (fun hg62=>?_) (fun hg62=>?_) ?_
  ·refine H rfl hg62<|H rfl hg62<|Z rfl hg62 rfl ?_
   exact ⟨⟨_,_,rfl⟩⟩
  ·refine G rfl hg62<|C rfl<|G rfl hg62<|b0 rfl rfl<|a3 rfl hg62 rfl ?_
   exact ⟨⟨_,_,rfl⟩⟩
  rintro _ ⟨_,_,rfl⟩
  refine C rfl ?_
  refine gO 3 [64,65] 66 ((!decide (x37.2.2=0))||(!decide (x45.2.2=0))) (!decide (x53.2.2=0)) (fun hg66=>?_) (fun hg66=>?_) ?_
  ·refine H rfl hg66<|H rfl hg66<|Z rfl hg66 rfl ?_
   exact ⟨⟨_,_,rfl⟩⟩
  ·refine G rfl hg66<|C rfl<|G rfl hg66<|b0 rfl rfl<|a3 rfl hg66 rfl ?_
   exact ⟨⟨_,_,rfl⟩⟩
  rintro _ ⟨_,_,rfl⟩
  refine E (kb<|kb<|kb<|kb<|kb<|kt<|kn) fun _=>?_
  refine S rfl (fun hc66=>?_) (fun hc66=>?_)
  ·replace h:=O hc66 h
   refine D<|F<|C rfl<|E (kt<|kn) fun _=>?_
   exact L (by cases h;rfl)
  ·replace h:=P hc66 h
   refine M (kb<|kb<|kb<|kb<|kb<|kn) fun _=>?_
   refine D<|D<|F<|R rfl rfl (show _=eRule x37.1 from rfl)<|R rfl rfl (show _=eRule x45.1 from rfl)<|R rfl rfl (show _=eRule x53.1 from rfl)<|e1 (e:=eRule) (l:=[x37.1,x45.1,x53.1]) rfl rfl (fun _=>rfl)<|T rfl rfl<|C rfl<|E (kb<|kb<|kb<|ko<|kt<|kt<|kn) fun _=>?_
   obtain ⟨o0,ho0,h⟩:=d1 h
   refine d5 ho0 (fun (i0:Int) (_:Unit)=>[(3,.bx [⟨false,lN x28.1.Nodes⟩,⟨false,lX x28.1.Edges⟩]),(5,.bx [⟨false,eS x32.Name⟩,⟨false,lI x32.Left.Graph.Nodes⟩,⟨false,lE x32.Left.Graph.Edges⟩,⟨false,lS x32.Left.Slots⟩,⟨false,eI x32.Left.Vars⟩,⟨false,lT x32.Left.Tests⟩,⟨false,lI x32.Right.Graph.Nodes⟩,⟨false,lE x32.Right.Graph.Edges⟩,⟨false,lS x32.Right.Slots⟩,⟨false,eI x32.Right.Vars⟩,⟨false,lT x32.Right.Tests⟩,⟨false,lI x32.Keep.Nodes⟩,⟨false,lI x32.Keep.Edges⟩,⟨false,lI x32.Into.Nodes⟩,⟨false,lI x32.Into.Edges⟩,⟨false,eB x32.Injective⟩,⟨false,eI x32.Condition.Kind⟩,⟨false,eLCondition x32.Condition.Kids⟩,⟨false,lI x32.Condition.Map.Nodes⟩,⟨false,lI x32.Condition.Map.Edges⟩,⟨false,lI x32.Condition.Pattern.Graph.Nodes⟩,⟨false,lE x32.Condition.Pattern.Graph.Edges⟩,⟨false,lS x32.Condition.Pattern.Slots⟩,⟨false,eI x32.Condition.Pattern.Vars⟩,⟨false,lT x32.Condition.Pattern.Tests⟩]),(12,.bx [⟨false,eS x53.1.Name⟩,⟨false,lI x53.1.Left.Graph.Nodes⟩,⟨false,lE x53.1.Left.Graph.Edges⟩,⟨false,lS x53.1.Left.Slots⟩,⟨false,eI x53.1.Left.Vars⟩,⟨false,lT x53.1.Left.Tests⟩,⟨false,lI x53.1.Right.Graph.Nodes⟩,⟨false,lE x53.1.Right.Graph.Edges⟩,⟨false,lS x53.1.Right.Slots⟩,⟨false,eI x53.1.Right.Vars⟩,⟨false,lT x53.1.Right.Tests⟩,⟨false,lI x53.1.Keep.Nodes⟩,⟨false,lI x53.1.Keep.Edges⟩,⟨false,lI x53.1.Into.Nodes⟩,⟨false,lI x53.1.Into.Edges⟩,⟨false,eB x53.1.Injective⟩,⟨false,eI x53.1.Condition.Kind⟩,⟨false,eLCondition x53.1.Condition.Kids⟩,⟨false,lI x53.1.Condition.Map.Nodes⟩,⟨false,lI x53.1.Condition.Map.Edges⟩,⟨false,lI x53.1.Condition.Pattern.Graph.Nodes⟩,⟨false,lE x53.1.Condition.Pattern.Graph.Edges⟩,⟨false,lS x53.1.Condition.Pattern.Slots⟩,⟨false,eI x53.1.Condition.Pattern.Vars⟩,⟨false,lT x53.1.Condition.Pattern.Tests⟩]),(70,.ow ((eL 25 eRule) [x37.1,x45.1,x53.1])),(71,.tv (eI ([x37.1,x45.1,x53.1].length:Int))),(72,.tv (eI i0))]) (fun (_:Unit)=>[]) (fun zv ze=>resIs ([.tmp 2]) (.sh (eB zv)) ze) rfl ?_ ?_ ?_ ?_
   ·clear h ho0
    intro i0 s0 r0 hi0 h hw0
    refine D<|F<|V rfl rfl<|E (kb<|kb<|kb<|ko<|kt<|kt<|kt<|kn) fun _=>?_
    refine D<|b5 rfl (b6 hi0)<|M (kb<|kb<|kb<|ko<|kt<|kt<|kn) fun _=>?_
    refine D<|a9<|D<|F ?_
    obtain ⟨x74,hx74,h⟩:=I h
    refine W rfl rfl rfl hx74 rfl<|R rfl rfl (show _=eRule x74 from rfl)<|b1 rfl<|a8 rfl rfl rfl rfl rfl<|E (kb<|kb<|kb<|kb<|ko<|kt<|kt<|kn) fun _=>?_
    refine D<|d0 rfl<|X rfl<|e4 rfl rfl<|e4 rfl rfl<|J rfl<|T rfl rfl<|X rfl<|e4 rfl rfl<|e4 rfl rfl<|J rfl<|T rfl rfl<|C rfl<|C rfl<|E (kb<|kb<|kb<|kb<|kt<|kt<|ko<|kt<|kt<|kn) fun _=>?_
    refine D<|D<|F<|X rfl<|e4 rfl rfl<|R rfl rfl (show _=eGraph x74.Right.Graph from rfl)<|X rfl<|e4 rfl rfl<|R rfl rfl (show _=eGraph x32.Right.Graph from rfl) ?_
    obtain ⟨x92,hx92,h⟩:=I h
    refine U rfl (c41 x74.Right.Graph x32.Right.Graph _ hx92)<|b9 rfl<|C rfl ?_
    refine gO 8 [95,96,97,98,99,100,101] 102 (!x92) (decide ((x74.Left.Graph.Nodes.length:Int)<(x32.Left.Graph.Nodes.length:Int))) (fun hg102=>?_) (fun hg102=>?_) ?_
    ·refine H rfl hg102<|H rfl hg102<|H rfl hg102<|H rfl hg102<|H rfl hg102<|H rfl hg102<|H rfl hg102<|Z rfl hg102 rfl ?_
     exact ⟨⟨_,_,_,_,_,_,_,rfl⟩⟩
    ·refine G rfl hg102<|X rfl<|G rfl hg102<|e4 rfl rfl<|G rfl hg102<|e4 rfl rfl<|G rfl hg102<|J rfl<|G rfl hg102<|T rfl rfl<|G rfl hg102<|C rfl<|G rfl hg102<|V rfl rfl<|a3 rfl hg102 rfl ?_
     exact ⟨⟨_,_,_,_,_,_,_,rfl⟩⟩
    rintro _ ⟨_,_,_,_,_,_,_,rfl⟩
    refine C rfl ?_
    refine gO 8 [104,105,106,107,108,109,110] 111 ((!x92)||(decide ((x74.Left.Graph.Nodes.length:Int)<(x32.Left.Graph.Nodes.length:Int)))) (decide ((x74.Left.Graph.Edges.length:Int)<(x32.Left.Graph.Edges.length:Int))) (fun hg111=>?_) (fun hg111=>?_) ?_
    ·refine H rfl hg111<|H rfl hg111<|H rfl hg111<|H rfl hg111<|H rfl hg111<|H rfl hg111<|H rfl hg111<|Z rfl hg111 rfl ?_
     exact ⟨⟨_,_,_,_,_,_,_,rfl⟩⟩
    ·refine G rfl hg111<|X rfl<|G rfl hg111<|e4 rfl rfl<|G rfl hg111<|e4 rfl rfl<|G rfl hg111<|J rfl<|G rfl hg111<|T rfl rfl<|G rfl hg111<|C rfl<|G rfl hg111<|V rfl rfl<|a3 rfl hg111 rfl ?_
     exact ⟨⟨_,_,_,_,_,_,_,rfl⟩⟩
    rintro _ ⟨_,_,_,_,_,_,_,rfl⟩
    refine C rfl ?_
    obtain ⟨x117,hx117,h⟩:=I h
    refine gX 5 [113,114,115,116] 117 x117 (((!x92)||(decide ((x74.Left.Graph.Nodes.length:Int)<(x32.Left.Graph.Nodes.length:Int))))||(decide ((x74.Left.Graph.Edges.length:Int)<(x32.Left.Graph.Edges.length:Int)))) (fun hg117=>?_) (fun hg117=>?_) ?_
    ·replace h:=O hg117 hx117
     cases h
     refine H rfl hg117<|H rfl hg117<|H rfl hg117<|H rfl hg117<|Z rfl hg117 rfl ?_
     exact ⟨⟨_,_,_,_,rfl⟩⟩
    ·replace h:=P hg117 hx117
     refine G rfl hg117<|R rfl rfl (show _=eTypes x28.1 from rfl)<|G rfl hg117<|R rfl rfl (show _=eRule x74 from rfl) ?_
     obtain ⟨x115,hx115,h⟩:=I h
     refine G rfl hg117<|U rfl (c42 x28.1 x74 _ hx115)<|G rfl hg117<|b0 rfl rfl ?_
     cases h
     refine a3 rfl hg117 rfl ?_
     exact ⟨⟨_,_,_,_,rfl⟩⟩
    rintro _ ⟨_,_,_,_,rfl⟩
    refine E (kb<|kb<|kb<|kb<|kt<|kt<|ko<|kt<|kt<|kt<|kn) fun _=>?_
    refine S rfl (fun hc117=>?_) (fun hc117=>?_)
    ·replace h:=O hc117 h
     refine D<|F<|C rfl<|E (kt<|kn) fun _=>?_
     refine L ?_
     cases h
     exact ⟨_,rfl,rfl⟩
    ·replace h:=P hc117 h
     refine M (kb<|kb<|kb<|kb<|kt<|kt<|ko<|kt<|kt<|kn) fun _=>?_
     refine D<|d0 rfl<|X rfl<|e4 rfl rfl<|e4 rfl rfl<|J rfl<|C rfl ?_
     obtain ⟨x123,hx123,h⟩:=I h
     refine l2 rfl rfl rfl rfl hx123<|X rfl<|e4 rfl rfl<|e4 rfl rfl<|J rfl ?_
     obtain ⟨x128,hx128,h⟩:=I h
     refine U rfl (c43 x123 x32.Left.Graph.Nodes _ hx128)<|b9 rfl<|C rfl ?_
     obtain ⟨x143,hx143,h⟩:=I h
     refine gX 13 [131,132,133,134,135,136,137,138,139,140,141,142] 143 x143 (!x128) (fun hg143=>?_) (fun hg143=>?_) ?_
     ·replace h:=O hg143 hx143
      cases h
      refine H rfl hg143<|H rfl hg143<|H rfl hg143<|H rfl hg143<|H rfl hg143<|H rfl hg143<|H rfl hg143<|H rfl hg143<|H rfl hg143<|H rfl hg143<|H rfl hg143<|H rfl hg143<|Z rfl hg143 rfl ?_
      exact ⟨⟨_,_,_,_,_,_,_,_,_,_,_,_,rfl⟩⟩
     ·replace h:=P hg143 hx143
      refine G rfl hg143<|X rfl<|G rfl hg143<|e4 rfl rfl<|G rfl hg143<|e4 rfl rfl<|G rfl hg143<|J rfl<|G rfl hg143<|C rfl ?_
      obtain ⟨x136,hx136,h⟩:=I h
      refine G rfl hg143<|l2 rfl rfl rfl rfl hx136<|G rfl hg143<|X rfl<|G rfl hg143<|e4 rfl rfl<|G rfl hg143<|e4 rfl rfl<|G rfl hg143<|J rfl ?_
      obtain ⟨x141,hx141,h⟩:=I h
      refine G rfl hg143<|U rfl (c44 x136 x32.Left.Graph.Edges _ hx141)<|G rfl hg143<|b9 rfl ?_
      cases h
      refine a3 rfl hg143 rfl ?_
      exact ⟨⟨_,_,_,_,_,_,_,_,_,_,_,_,rfl⟩⟩
     rintro _ ⟨_,_,_,_,_,_,_,_,_,_,_,_,rfl⟩
     refine C rfl ?_
     refine gO 12 [145,146,147,148,149,150,151,152,153,154,155] 156 x143 (decide ((x53.1.Left.Graph.Nodes.length:Int)<(x74.Left.Graph.Nodes.length:Int))) (fun hg156=>?_) (fun hg156=>?_) ?_
     ·refine H rfl hg156<|H rfl hg156<|H rfl hg156<|H rfl hg156<|H rfl hg156<|H rfl hg156<|H rfl hg156<|H rfl hg156<|H rfl hg156<|H rfl hg156<|H rfl hg156<|Z rfl hg156 rfl ?_
      exact ⟨⟨_,_,_,_,_,_,_,_,_,_,_,rfl⟩⟩
     ·refine G rfl hg156<|X rfl<|G rfl hg156<|e4 rfl rfl<|G rfl hg156<|e4 rfl rfl<|G rfl hg156<|J rfl<|G rfl hg156<|T rfl rfl<|G rfl hg156<|X rfl<|G rfl hg156<|e4 rfl rfl<|G rfl hg156<|e4 rfl rfl<|G rfl hg156<|J rfl<|G rfl hg156<|T rfl rfl<|G rfl hg156<|e5 rfl rfl<|a3 rfl hg156 rfl ?_
      exact ⟨⟨_,_,_,_,_,_,_,_,_,_,_,rfl⟩⟩
     rintro _ ⟨_,_,_,_,_,_,_,_,_,_,_,rfl⟩
     refine E (kb<|kb<|kb<|ko<|kt<|kt<|kt<|kn) fun _=>?_
     refine S rfl (fun hc156=>?_) (fun hc156=>?_)
     ·replace h:=O hc156 h
      refine D<|F<|C rfl<|E (kt<|kn) fun _=>?_
      refine L ?_
      cases h
      exact ⟨_,rfl,rfl⟩
     ·replace h:=P hc156 h
      refine M (kb<|kb<|kb<|ko<|kt<|kt<|kn) fun _=>?_
      refine F<|a6 rfl rfl<|C rfl<|E (kb<|kb<|kb<|ko<|kt<|kt<|kn) ?_
      cases h
      refine ⟨_,rfl,?_⟩
      rw [Kbx rfl (Kbx rfl (Kbx rfl (Kow rfl (Ktv rfl (Ktv rfl (Knil _))))))]
      rw [b3 (a5 (hw0 72)) hi0 (d7 (a5 (hw0 71)))]
      all_goals rfl
   ·intro i0 s0 hi0
    refine D<|F<|V rfl rfl<|E (kb<|kb<|kb<|ko<|kt<|kt<|kt<|kn) fun _=>?_
    refine D<|b7 rfl (b8 hi0)<|b2 (kn) ?_
    exact ⟨rfl,rfl⟩
   ·intro s0 hs
    replace h:=d2 h hs
    intro _
    refine D<|F<|C rfl<|E (kt<|kn) fun _=>?_
    exact L (by cases h;rfl)
   ·intro v0 ze hv hR
    replace h:=d3 h hv
    cases h
    exact hR
end Go.Sf.Sc
