/- Contracts of the functions. -/
import Derived.Test.YtbedpmpjdnooiaaGreatCon2
import Derived.Test.YtbedpmpjdnooiaaGreatTryzShelf
set_option maxRecDepth 100000
namespace Go.Sf.Sc
open Go Go.Sf Go.Proofs.Tryz
theorem ck6:CK f6 (Rq [Af 1 0,Ak 2] [1]<|Sq (Rq [Cx 27 9,Az 28 27,Aa 29 28,⟨some 30,.lda (.s 1) 4,some (29,false)⟩,Dm 31 25 30 29,Br 32 31 29,As 33 29 32] [1,33]<|Co 33 (Rq [Cx 34 9,Aa 2 34] [2]<|.ret)<|Sk [1])<|Rq [Cx 36 26,Aa 35 36,Am 37 35 0,Am 38 35 1,Bd 3 4 7,Bd 4 1 1,Aj 2 3 37,Aj 2 4 38,Cn 4] [1,3,4]<|Rq [Ae 39 1 4,Au 40 27 39,Bv 5 1 3 4 0 5 1 3 4 0 5 1 1 1 1 0 9 1 1 1 3 4 0 5,Aj 25 5 40,Cn 5] [3,4,5]<|Rq [Ae 42 3 2,Ae 43 4 2,Ae 44 5 25,Bg 45 11 42 43 44,Aa 41 45,Am 46 41 0,Am 47 41 1,Bv 6 1 3 4 0 5 1 3 4 0 5 1 1 1 1 0 9 1 1 1 3 4 0 5,Aj 25 6 46,Aa 7 47] [3,4,5,6,7]<|Rq [Ae 49 3 2,Ae 50 4 2,Ae 51 5 25,Bg 52 18 49 50 51,Aa 48 52,Am 53 48 0,Am 54 48 1,Am 55 48 2,Bv 8 1 3 4 0 5 1 3 4 0 5 1 1 1 1 0 9 1 1 1 3 4 0 5,Bd 9 1 1,Aj 25 8 53,Aj 2 9 54,Aa 10 55,Cn 8] [3,4,5,6,7,8,9,10]<|Rq [Ae 57 3 2,Ae 58 4 2,Ae 59 5 25,Bg 60 23 57 58 59,Aa 56 60,Am 61 56 0,Am 62 56 1,Am 63 56 2,Bv 11 1 3 4 0 5 1 3 4 0 5 1 1 1 1 0 9 1 1 1 3 4 0 5,Bd 12 1 1,Aj 25 11 61,Aj 2 12 62,Aa 13 63] [3,4,5,6,7,8,9,10,11,13]<|Rq [Ae 65 3 2,Ae 66 6 25,Al 67 28 65 66,Aa 64 67,Am 68 64 0,Am 69 64 1,Am 70 64 2,Ay 14 68,Ay 15 69,Aa 16 70] [3,4,5,7,8,9,10,11,13,14,15,16]<|Rq [Ae 72 3 2,Ae 73 8 25,Al 74 28 72 73,Aa 71 74,Am 75 71 0,Am 76 71 1,Am 77 71 2,Ay 17 75,Ay 18 76,Aa 19 77] [3,4,5,7,8,9,10,11,13,14,15,16,17,18,19]<|Rq [Ae 79 3 2,Ae 80 11 25,Al 81 28 79 80,Aa 78 81,Am 82 78 0,Am 83 78 1,Am 84 78 2,Ay 20 82,Ay 21 83,Aa 22 84] [4,5,7,8,9,10,13,14,15,16,17,18,19,20,21,22]<|Sq (Rq [Aa 85 7,Av 86 85 0,Aa 87 86,Aw 88 10 87,Dj 89 88 0 87,As 90 87 89,Aa 91 90,Aw 92 13 91,Dj 93 92 0 91,As 94 91 93,Aa 95 94,Aw 96 16 95,Dj 97 96 0 95,As 98 95 97,Aa 99 98,Aw 100 19 99,Dj 101 100 0 99,As 102 99 101,Aa 103 102,Aw 104 22 103,Dj 105 104 0 103,As 106 103 105,Aa 107 106,Ar 108 9 0 107,Ao 109 108 107,Bc 110 109 107,Aw 111 14 107,Bc 112 111 107,Cv 113 110 112 107,As 114 107 113,Aa 115 114,Ar 116 9 1 115,Ao 117 116 115,Bc 118 117 115,Aw 119 15 115,Bc 120 119 115,Cv 121 118 120 115,As 122 115 121] [4,5,8,9,17,18,20,21,122]<|Co 122 (Rq [Ak 2] [2]<|.ret)<|Sk [4,5,8,9,17,18,20,21])<|Rq [⟨some 23,.mv (.c (.clo 29 [])),none⟩] [4,5,8,9,17,18,20,21,23]<|Rq [Dh 123 32 4 8,Aa 24 123] [4,5,9,17,18,20,21,23,24]<|Rq [Dh 124 33 4 5,Aa 25 124] [4,5,9,17,18,20,21,23,24,25]<|Rq [Dh 125 34 4 5,Aa 26 125] [9,17,18,20,21,23,24,25,26]<|Rq [Aa 126 23,Ac 127 9 0,Ab 128 127,Aa 129 24,⟨some 130,.callv (.s 126) [.s 128,.s 129,.c (.clo 35 [])],none⟩,Aa 131 130,Aq 132 23 131,Aq 133 17 131,Aq 134 25 131,Ej 135 132 133 134 36 131,At 136 131 135,Aa 137 136,Aq 138 23 137,Aq 139 18 137,Aq 140 26 137,Ej 141 138 139 140 37 137,At 142 137 141,Aa 143 142,Aq 144 23 143,Aq 145 20 143,Aq 146 25 143,Ej 147 144 145 146 38 143,At 148 143 147,Aa 149 148,Aq 150 23 149,Aq 151 21 149,Aq 152 26 149,Ej 153 150 151 152 39 149,At 154 149 153,Aa 2 154] [2]<|.ret) [.tmp 2]:= by decide +kernel
theorem c6 (d:ref53_Draft) (r:Bool) (h:law53_TripleruleMarks d=some r):Sound prog 6 [eref53_Draft d] (.sh (eB r)):= by
 refine Fn ck6 fun hw=>?_
 unfold law53_TripleruleMarks at h
 refine D<|F<|a4 rfl rfl<|C rfl<|E (kt<|kn) fun _=>?_
 refine D<|D<|F ?_
 obtain ⟨x27,hx27,h⟩:=I h
 refine T rfl (c9  _ hx27)<|d0 rfl<|C rfl ?_
 obtain ⟨x33,hx33,h⟩:=I h
 refine gX 4 [30,31,32] 33 x33 (!x27) (fun hg33=>?_) (fun hg33=>?_) ?_
 ·replace h:=M hg33 hx33
  cases h
  refine H rfl hg33<|H rfl hg33<|H rfl hg33<|Y rfl hg33 rfl ?_
  exact ⟨⟨_,_,_,rfl⟩⟩
 ·replace h:=O hg33 hx33
  refine G rfl hg33<|R rfl rfl (show _=eref53_Draft d from rfl) ?_
  obtain ⟨x31,hx31,h⟩:=I h
  refine G rfl hg33<|T rfl (c25 d _ hx31)<|G rfl hg33<|d0 rfl ?_
  cases h
  refine Z rfl hg33 rfl ?_
  exact ⟨⟨_,_,_,rfl⟩⟩
 rintro _ ⟨_,_,_,rfl⟩
 refine E (kt<|kt<|kn) fun _=>?_
 refine S rfl (fun hc33=>?_) (fun hc33=>?_)
 ·replace h:=M hc33 h
  refine D<|F ?_
  obtain ⟨x34,hx34,h⟩:=I h
  refine T rfl (c9  _ hx34)<|C rfl<|E (kt<|kn) fun _=>?_
  exact L (by cases h;rfl)
 ·replace h:=O hc33 h
  refine P (kt<|kn) fun _=>?_
  refine D<|F ?_
  obtain ⟨x36,hx36,h⟩:=I h
  refine e5 rfl (c26  _ hx36)<|e6 rfl<|b2 rfl rfl<|b2 rfl rfl<|b1 rfl<|b1 rfl<|a8 rfl rfl rfl rfl rfl<|a8 rfl rfl rfl rfl rfl<|l2 rfl rfl<|E (kt<|kb<|kt<|kn) fun _=>?_
  refine D<|F<|R rfl rfl (show _=eref53_Draft d from rfl) ?_
  obtain ⟨x40,hx40,h⟩:=I h
  refine T rfl (c27 d _ hx40)<|b1 rfl<|a8 rfl rfl rfl rfl rfl<|l2 rfl rfl<|E (kb<|kt<|kt<|kn) fun _=>?_
  refine D<|F<|R rfl rfl (show _=eTypes x36.1 from rfl)<|R rfl rfl (show _=eSorts x36.2 from rfl)<|R rfl rfl (show _=eRule x40 from rfl) ?_
  obtain ⟨x45,hx45,h⟩:=I h
  refine e5 rfl (c11 x36.1 x36.2 x40 _ hx45)<|e6 rfl<|b2 rfl rfl<|b2 rfl rfl<|b1 rfl<|a8 rfl rfl rfl rfl rfl<|C rfl<|E (kb<|kt<|kt<|kb<|kt<|kn) fun _=>?_
  refine D<|F<|R rfl rfl (show _=eTypes x36.1 from rfl)<|R rfl rfl (show _=eSorts x36.2 from rfl)<|R rfl rfl (show _=eRule x40 from rfl) ?_
  obtain ⟨x52,hx52,h⟩:=I h
  refine e5 rfl (c18 x36.1 x36.2 x40 _ hx52)<|e6 rfl<|b2 rfl rfl<|b2 rfl rfl<|b2 rfl rfl<|b1 rfl<|b1 rfl<|a8 rfl rfl rfl rfl rfl<|a8 rfl rfl rfl rfl rfl<|C rfl<|l2 rfl rfl<|E (kb<|kt<|kt<|kb<|kt<|kt<|kb<|kt<|kn) fun _=>?_
  refine D<|F<|R rfl rfl (show _=eTypes x36.1 from rfl)<|R rfl rfl (show _=eSorts x36.2 from rfl)<|R rfl rfl (show _=eRule x40 from rfl) ?_
  obtain ⟨x60,hx60,h⟩:=I h
  refine e5 rfl (c23 x36.1 x36.2 x40 _ hx60)<|e6 rfl<|b2 rfl rfl<|b2 rfl rfl<|b2 rfl rfl<|b1 rfl<|b1 rfl<|a8 rfl rfl rfl rfl rfl<|a8 rfl rfl rfl rfl rfl<|C rfl<|E (kb<|kt<|kt<|kb<|kt<|kt<|kb<|kt<|kb<|kt<|kn) fun _=>?_
  refine D<|F<|R rfl rfl (show _=eTypes x36.1 from rfl)<|R rfl rfl (show _=eRule x45.1 from rfl) ?_
  obtain ⟨x67,hx67,h⟩:=I h
  refine e5 rfl (c28 x36.1 x45.1 _ hx67)<|e6 rfl<|b2 rfl rfl<|b2 rfl rfl<|b2 rfl rfl<|f1 rfl<|f1 rfl<|C rfl<|E (kb<|kt<|kt<|kt<|kt<|kb<|kt<|kb<|kt<|kt<|kt<|kt<|kn) fun _=>?_
  refine D<|F<|R rfl rfl (show _=eTypes x36.1 from rfl)<|R rfl rfl (show _=eRule x52.1 from rfl) ?_
  obtain ⟨x74,hx74,h⟩:=I h
  refine e5 rfl (c28 x36.1 x52.1 _ hx74)<|e6 rfl<|b2 rfl rfl<|b2 rfl rfl<|b2 rfl rfl<|f1 rfl<|f1 rfl<|C rfl<|E (kb<|kt<|kt<|kt<|kt<|kb<|kt<|kb<|kt<|kt<|kt<|kt<|kt<|kt<|kt<|kn) fun _=>?_
  refine D<|F<|R rfl rfl (show _=eTypes x36.1 from rfl)<|R rfl rfl (show _=eRule x60.1 from rfl) ?_
  obtain ⟨x81,hx81,h⟩:=I h
  refine e5 rfl (c28 x36.1 x60.1 _ hx81)<|e6 rfl<|b2 rfl rfl<|b2 rfl rfl<|b2 rfl rfl<|f1 rfl<|f1 rfl<|C rfl<|E (kt<|kt<|kt<|kt<|kb<|kt<|kt<|kt<|kt<|kt<|kt<|kt<|kt<|kt<|kt<|kt<|kn) fun _=>?_
  refine D<|D<|F<|C rfl<|a9 rfl rfl<|C rfl ?_
  refine gO 3 [88,89] 90 (!decide (x45.2=0)) (!decide (x52.2.2=0)) (fun hg90=>?_) (fun hg90=>?_) ?_
  ·refine H rfl hg90<|H rfl hg90<|Y rfl hg90 rfl ?_
   exact ⟨⟨_,_,rfl⟩⟩
  ·refine G rfl hg90<|C rfl<|G rfl hg90<|a9 rfl rfl<|Z rfl hg90 rfl ?_
   exact ⟨⟨_,_,rfl⟩⟩
  rintro _ ⟨_,_,rfl⟩
  refine C rfl ?_
  refine gO 3 [92,93] 94 ((!decide (x45.2=0))||(!decide (x52.2.2=0))) (!decide (x60.2.2=0)) (fun hg94=>?_) (fun hg94=>?_) ?_
  ·refine H rfl hg94<|H rfl hg94<|Y rfl hg94 rfl ?_
   exact ⟨⟨_,_,rfl⟩⟩
  ·refine G rfl hg94<|C rfl<|G rfl hg94<|a9 rfl rfl<|Z rfl hg94 rfl ?_
   exact ⟨⟨_,_,rfl⟩⟩
  rintro _ ⟨_,_,rfl⟩
  refine C rfl ?_
  refine gO 3 [96,97] 98 (((!decide (x45.2=0))||(!decide (x52.2.2=0)))||(!decide (x60.2.2=0))) (!decide (x67.2.2=0)) (fun hg98=>?_) (fun hg98=>?_) ?_
  ·refine H rfl hg98<|H rfl hg98<|Y rfl hg98 rfl ?_
   exact ⟨⟨_,_,rfl⟩⟩
  ·refine G rfl hg98<|C rfl<|G rfl hg98<|a9 rfl rfl<|Z rfl hg98 rfl ?_
   exact ⟨⟨_,_,rfl⟩⟩
  rintro _ ⟨_,_,rfl⟩
  refine C rfl ?_
  refine gO 3 [100,101] 102 ((((!decide (x45.2=0))||(!decide (x52.2.2=0)))||(!decide (x60.2.2=0)))||(!decide (x67.2.2=0))) (!decide (x74.2.2=0)) (fun hg102=>?_) (fun hg102=>?_) ?_
  ·refine H rfl hg102<|H rfl hg102<|Y rfl hg102 rfl ?_
   exact ⟨⟨_,_,rfl⟩⟩
  ·refine G rfl hg102<|C rfl<|G rfl hg102<|a9 rfl rfl<|Z rfl hg102 rfl ?_
   exact ⟨⟨_,_,rfl⟩⟩
  rintro _ ⟨_,_,rfl⟩
  refine C rfl ?_
  refine gO 3 [104,105] 106 (((((!decide (x45.2=0))||(!decide (x52.2.2=0)))||(!decide (x60.2.2=0)))||(!decide (x67.2.2=0)))||(!decide (x74.2.2=0))) (!decide (x81.2.2=0)) (fun hg106=>?_) (fun hg106=>?_) ?_
  ·refine H rfl hg106<|H rfl hg106<|Y rfl hg106 rfl ?_
   exact ⟨⟨_,_,rfl⟩⟩
  ·refine G rfl hg106<|C rfl<|G rfl hg106<|a9 rfl rfl<|Z rfl hg106 rfl ?_
   exact ⟨⟨_,_,rfl⟩⟩
  rintro _ ⟨_,_,rfl⟩
  refine C rfl ?_
  refine gO 7 [108,109,110,111,112,113] 114 ((((((!decide (x45.2=0))||(!decide (x52.2.2=0)))||(!decide (x60.2.2=0)))||(!decide (x67.2.2=0)))||(!decide (x74.2.2=0)))||(!decide (x81.2.2=0))) (!decide ((x52.2.1.Nodes.length:Int)=(x67.1.length:Int))) (fun hg114=>?_) (fun hg114=>?_) ?_
  ·refine H rfl hg114<|H rfl hg114<|H rfl hg114<|H rfl hg114<|H rfl hg114<|H rfl hg114<|Y rfl hg114 rfl ?_
   exact ⟨⟨_,_,_,_,_,_,rfl⟩⟩
  ·refine G rfl hg114<|a3 rfl<|G rfl hg114<|J rfl<|G rfl hg114<|U rfl rfl<|G rfl hg114<|C rfl<|G rfl hg114<|U rfl rfl<|G rfl hg114<|a9 rfl rfl<|Z rfl hg114 rfl ?_
   exact ⟨⟨_,_,_,_,_,_,rfl⟩⟩
  rintro _ ⟨_,_,_,_,_,_,rfl⟩
  refine C rfl ?_
  refine gO 7 [116,117,118,119,120,121] 122 (((((((!decide (x45.2=0))||(!decide (x52.2.2=0)))||(!decide (x60.2.2=0)))||(!decide (x67.2.2=0)))||(!decide (x74.2.2=0)))||(!decide (x81.2.2=0)))||(!decide ((x52.2.1.Nodes.length:Int)=(x67.1.length:Int)))) (!decide ((x52.2.1.Edges.length:Int)=(x67.2.1.length:Int))) (fun hg122=>?_) (fun hg122=>?_) ?_
  ·refine H rfl hg122<|H rfl hg122<|H rfl hg122<|H rfl hg122<|H rfl hg122<|H rfl hg122<|Y rfl hg122 rfl ?_
   exact ⟨⟨_,_,_,_,_,_,rfl⟩⟩
  ·refine G rfl hg122<|a3 rfl<|G rfl hg122<|J rfl<|G rfl hg122<|U rfl rfl<|G rfl hg122<|C rfl<|G rfl hg122<|U rfl rfl<|G rfl hg122<|a9 rfl rfl<|Z rfl hg122 rfl ?_
   exact ⟨⟨_,_,_,_,_,_,rfl⟩⟩
  rintro _ ⟨_,_,_,_,_,_,rfl⟩
  refine E (kt<|kt<|kt<|kb<|kt<|kt<|kt<|kt<|kt<|kn) fun _=>?_
  refine S rfl (fun hc122=>?_) (fun hc122=>?_)
  ·replace h:=M hc122 h
   refine D<|F<|C rfl<|E (kt<|kn) fun _=>?_
   exact L (by cases h;rfl)
  ·replace h:=O hc122 h
   refine P (kt<|kt<|kt<|kb<|kt<|kt<|kt<|kt<|kn) fun _=>?_
   refine D<|F<|C rfl<|E (kt<|kt<|kt<|kb<|kt<|kt<|kt<|kt<|kt<|kn) fun _=>?_
   refine D<|F<|g2 rfl<|C rfl<|E (kt<|kt<|kb<|kt<|kt<|kt<|kt<|kt<|kt<|kn) fun _=>?_
   refine D<|F<|g2 rfl<|C rfl<|E (kt<|kt<|kb<|kt<|kt<|kt<|kt<|kt<|kt<|kt<|kn) fun _=>?_
   refine D<|F<|g2 rfl<|C rfl<|E (kb<|kt<|kt<|kt<|kt<|kt<|kt<|kt<|kt<|kn) fun _=>?_
   refine D<|F<|C rfl<|a3 rfl<|J rfl<|C rfl ?_
   obtain ⟨x130,hx130,h⟩:=I h
   refine g3 rfl rfl (c29 x52.2.1.Nodes (fun y0=>law53_TripleruleMarks_2 y0 x36.2 x52.1) _ _ (fun y0 r h=>c32 y0 x36.2 x52.1 r h) law53_TripleruleMarks_5 _ _ (fun y0 r h=>c35 y0 r h) _ hx130)<|C rfl ?_
   obtain ⟨x136,hx136,h⟩:=I h
   refine gX 5 [132,133,134,135] 136 x136 x130 (fun hg136=>?_) (fun hg136=>?_) ?_
   ·replace h:=M hg136 hx136
    refine G rfl hg136<|C rfl<|G rfl hg136<|C rfl<|G rfl hg136<|C rfl ?_
    obtain ⟨x135,hx135,h⟩:=I h
    refine G rfl hg136<|g3 rfl rfl (c29 x74.1 (fun y0=>law53_TripleruleMarks_3 y0 x36.2 x40) _ _ (fun y0 r h=>c33 y0 x36.2 x40 r h) law53_TripleruleMarks_6 _ _ (fun y0 r h=>c36 y0 r h) _ hx135) ?_
    cases h
    refine Y rfl hg136 rfl ?_
    exact ⟨⟨_,_,_,_,rfl⟩⟩
   ·replace h:=O hg136 hx136
    cases h
    refine H rfl hg136<|H rfl hg136<|H rfl hg136<|H rfl hg136<|Z rfl hg136 rfl ?_
    exact ⟨⟨_,_,_,_,rfl⟩⟩
   rintro _ ⟨_,_,_,_,rfl⟩
   refine C rfl ?_
   obtain ⟨x142,hx142,h⟩:=I h
   refine gX 5 [138,139,140,141] 142 x142 x136 (fun hg142=>?_) (fun hg142=>?_) ?_
   ·replace h:=M hg142 hx142
    refine G rfl hg142<|C rfl<|G rfl hg142<|C rfl<|G rfl hg142<|C rfl ?_
    obtain ⟨x141,hx141,h⟩:=I h
    refine G rfl hg142<|g3 rfl rfl (c29 x74.2.1 (fun y0=>law53_TripleruleMarks_4 y0 x36.2 x40) _ _ (fun y0 r h=>c34 y0 x36.2 x40 r h) law53_TripleruleMarks_7 _ _ (fun y0 r h=>c37 y0 r h) _ hx141) ?_
    cases h
    refine Y rfl hg142 rfl ?_
    exact ⟨⟨_,_,_,_,rfl⟩⟩
   ·replace h:=O hg142 hx142
    cases h
    refine H rfl hg142<|H rfl hg142<|H rfl hg142<|H rfl hg142<|Z rfl hg142 rfl ?_
    exact ⟨⟨_,_,_,_,rfl⟩⟩
   rintro _ ⟨_,_,_,_,rfl⟩
   refine C rfl ?_
   obtain ⟨x148,hx148,h⟩:=I h
   refine gX 5 [144,145,146,147] 148 x148 x142 (fun hg148=>?_) (fun hg148=>?_) ?_
   ·replace h:=M hg148 hx148
    refine G rfl hg148<|C rfl<|G rfl hg148<|C rfl<|G rfl hg148<|C rfl ?_
    obtain ⟨x147,hx147,h⟩:=I h
    refine G rfl hg148<|g3 rfl rfl (c29 x81.1 (fun y0=>law53_TripleruleMarks_3 y0 x36.2 x40) _ _ (fun y0 r h=>c33 y0 x36.2 x40 r h) law53_TripleruleMarks_8 _ _ (fun y0 r h=>c38 y0 r h) _ hx147) ?_
    cases h
    refine Y rfl hg148 rfl ?_
    exact ⟨⟨_,_,_,_,rfl⟩⟩
   ·replace h:=O hg148 hx148
    cases h
    refine H rfl hg148<|H rfl hg148<|H rfl hg148<|H rfl hg148<|Z rfl hg148 rfl ?_
    exact ⟨⟨_,_,_,_,rfl⟩⟩
   rintro _ ⟨_,_,_,_,rfl⟩
   refine C rfl ?_
   obtain ⟨x154,hx154,h⟩:=I h
   refine gX 5 [150,151,152,153] 154 x154 x148 (fun hg154=>?_) (fun hg154=>?_) ?_
   ·replace h:=M hg154 hx154
    refine G rfl hg154<|C rfl<|G rfl hg154<|C rfl<|G rfl hg154<|C rfl ?_
    obtain ⟨x153,hx153,h⟩:=I h
    refine G rfl hg154<|g3 rfl rfl (c29 x81.2.1 (fun y0=>law53_TripleruleMarks_4 y0 x36.2 x40) _ _ (fun y0 r h=>c34 y0 x36.2 x40 r h) law53_TripleruleMarks_9 _ _ (fun y0 r h=>c39 y0 r h) _ hx153) ?_
    cases h
    refine Y rfl hg154 rfl ?_
    exact ⟨⟨_,_,_,_,rfl⟩⟩
   ·replace h:=O hg154 hx154
    cases h
    refine H rfl hg154<|H rfl hg154<|H rfl hg154<|H rfl hg154<|Z rfl hg154 rfl ?_
    exact ⟨⟨_,_,_,_,rfl⟩⟩
   rintro _ ⟨_,_,_,_,rfl⟩
   refine C rfl<|E (kt<|kn) fun _=>?_
   exact L (by cases h;rfl)
end Go.Sf.Sc
