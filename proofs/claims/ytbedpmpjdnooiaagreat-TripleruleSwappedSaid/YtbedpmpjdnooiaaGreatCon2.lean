/- Contracts of the functions. -/
import Derived.Test.YtbedpmpjdnooiaaGreatCon1
import Derived.Test.YtbedpmpjdnooiaaGreatTryzShelf
set_option maxRecDepth 100000
namespace Go.Sf.Sc
open Go Go.Sf Go.Proofs.Tryz
theorem ck124:CK f124 (Rq [Af 2 0,Ad 4 0] [1,2]<|Rq [Ac 11 2 0,Ab 12 11,Aa 13 1,Ag 14 12 13 4,Ae 15 14 4,Ef 5 0 4,Ai 4 5 15] [1,2,5]<|Sq (Rq [Ac 16 5 0,Ab 17 16,At 18 75 17,Ay 19 18] [1,2,5,19]<|Co 19 (Rq [Ad 4 2] [4]<|.ret)<|Sk [1,2,5])<|Sq (Rq [Ad 6 0] [1,2,5,6]<|Bl 0<|Lo [1,2,5,6]<|Sq (Rq [Aa 20 6,Aa 21 1,Aq 22 20 21] [1,2,5,6,22]<|Co 22 (Sk [1,2,5,6])<|Ex 0 [1,2,5])<|Sq (Bl 1<|Sq (Dr [25,26,27,28,29,30,31,32,33] [Ac 25 2 0,Ab 26 25,Aa 27 6,Ag 28 26 27 4,Aj 29 28 0,Ab 30 29,Ac 31 5 0,Ab 32 31,Cf 33 30 32] [1,2,5,6,33])<|Co 33 (Rq [Ad 4 5] [4]<|.ret)<|Sk [1,2,5,6])<|Re [Aa 23 6,Ap 24 23 1,Aa 6 24] [1,2,5,6])<|Sq (Rq [Ac 34 5 1,Ab 35 34,Aa 36 1,Da 37 36 1,⟨some 38,.call 119 [.s 35,.c (.int .i64 (-1)),.s 37],none⟩,Ay 39 38] [1,2,5,39]<|Co 39 (Rq [Ad 4 6] [4]<|.ret)<|Sk [1,2,5])<|Rq [Ae 40 2 2,Aa 41 1,Al 42 168 40 41,Ba 7 42] [5,7]<|Sq (Rq [Ac 43 5 3,Ab 44 43,Ah 45 44,Bp 46 45 4,Aa 47 46,Az 48 7 47,Bd 49 48 47,Ci 50 49 8 47,Au 51 47 50] [5,7,51]<|Co 51 (Rq [Ad 4 3] [4]<|.ret)<|Sk [5,7])<|Sq (Rq [Aa 52 7,Ah 53 52,Ac 54 5 3,Ab 55 54,Ah 56 55,Eg 57 53 56,Aa 8 57] [7,8]<|Bl 2<|Lo [7,8]<|Sq (Rq [Aa 58 8,Aa 59 7,Ah 60 59,Aq 61 58 60] [7,8,61]<|Co 61 (Sk [7,8])<|Ex 2 [])<|Sq (Bl 3<|Sq (Rq [Aa 64 7,Aa 65 8,Ag 66 64 65 4,Aj 67 66 0,Ab 68 67,At 69 75 68,Ay 70 69] [7,8,70]<|Co 70 (Rq [Ad 4 2] [4]<|.ret)<|Sk [7,8])<|Sq (Rq [Ad 9 0] [7,8,9]<|Bl 4<|Lo [7,8,9]<|Sq (Rq [Aa 71 9,Aa 72 8,Aq 73 71 72] [7,8,9,73]<|Co 73 (Sk [7,8,9])<|Ex 4 [7,8])<|Sq (Bl 5<|Sq (Dr [76,77,78,79,80,81,82,83,84,85,86] [Aa 76 7,Aa 77 9,Ag 78 76 77 4,Aj 79 78 0,Ab 80 79,Aa 81 7,Aa 82 8,Ag 83 81 82 4,Aj 84 83 0,Ab 85 84,Cf 86 80 85] [7,8,9,86])<|Co 86 (Rq [Ad 4 5] [4]<|.ret)<|Sk [7,8,9])<|Re [Aa 74 9,Ap 75 74 1,Aa 9 75] [7,8,9])<|Rq [Aa 87 7,Aa 88 8,Ag 89 87 88 4,Ae 90 89 4,At 91 171 90,Aa 10 91] [7,8,10]<|Rq [Aa 92 10,Ax 93 92 0] [7,8,10,93]<|Co 93 (Rq [Aa 94 10,Aa 4 94] [4]<|.ret)<|Sk [7,8])<|Re [Aa 62 8,Ap 63 62 1,Aa 8 63] [7,8])<|Rq [Ad 4 0] [4]<|.ret) [.tmp 4]:= by decide +kernel
theorem c124 (t:Types) (i_1:Int) (r:Int) (h:ref04_node t i_1=some r):Sound prog 124 [eTypes t,eI i_1] (.sh (eI r)):= by
 refine Fn ck124 fun hw=>?_
 unfold ref04_node at h
 refine D<|F<|a3 rfl rfl<|C rfl<|E (kt<|kt<|kn) fun _=>?_
 refine D<|F<|K rfl<|J rfl<|C rfl ?_
 obtain ⟨x14,hx14,h⟩:=I h
 refine Z rfl rfl rfl hx14 rfl<|R rfl rfl (show _=eNodeType x14 from rfl)<|a9 rfl<|a7 rfl rfl rfl rfl rfl<|E (kt<|kt<|kb<|kn) fun _=>?_
 refine D<|D<|F<|a4 rfl<|J rfl ?_
 obtain ⟨x18,hx18,h⟩:=I h
 refine S rfl (c75 x14.Name _ hx18)<|b6 rfl<|E (kt<|kt<|kb<|kt<|kn) fun _=>?_
 refine T rfl (fun hc19=>?_) (fun hc19=>?_)
 ·replace h:=M hc19 h
  refine D<|F<|C rfl<|E (kt<|kn) fun _=>?_
  exact L (by cases h;rfl)
 ·replace h:=O hc19 h
  refine P (kt<|kt<|kb<|kn) fun _=>?_
  refine D<|D<|F<|C rfl<|E (kt<|kt<|kb<|kt<|kn) fun _=>?_
  obtain ⟨o0,ho0,h⟩:=d4 h
  refine e1 ho0 (fun (i0:Int) (_:Unit)=>[(1,.tv (eI i_1)),(2,.tv (.pt (eTypes t).cells)),(5,.bx [⟨false,eS x14.Name⟩,⟨false,eI x14.Parent⟩,⟨false,eB x14.Abstract⟩,⟨false,lA x14.Attrs⟩]),(6,.tv (eI i0))]) (fun (_:Unit)=>[(1,.tv (eI i_1)),(2,.tv (.pt (eTypes t).cells)),(5,.bx [⟨false,eS x14.Name⟩,⟨false,eI x14.Parent⟩,⟨false,eB x14.Abstract⟩,⟨false,lA x14.Attrs⟩])]) (fun zv ze=>resIs ([.tmp 4]) (.sh (eI zv)) ze) rfl ?_ ?_ ?_ ?_
  ·clear h ho0
   intro i0 s0 r0 hi0 h hw0
   refine D<|D<|F<|C rfl<|C rfl<|V rfl rfl<|E (kt<|kt<|kb<|kt<|kt<|kn) fun _=>?_
   refine b7 rfl (b8 hi0)<|P (kt<|kt<|kb<|kt<|kn) fun _=>?_
   refine D<|b0<|D<|d1 rfl<|K rfl<|J rfl<|C rfl ?_
   obtain ⟨x28,hx28,h⟩:=I h
   refine Z rfl rfl rfl hx28 rfl<|a8 rfl<|J rfl<|a4 rfl<|J rfl<|g5 rfl rfl<|E (kt<|kt<|kb<|kt<|kt<|kn) fun _=>?_
   refine T rfl (fun hc33=>?_) (fun hc33=>?_)
   ·replace h:=M hc33 h
    refine D<|F<|C rfl<|E (kt<|kn) fun _=>?_
    refine L ?_
    cases h
    exact ⟨_,rfl,rfl⟩
   ·replace h:=O hc33 h
    refine P (kt<|kt<|kb<|kt<|kn) fun _=>?_
    refine F<|C rfl<|a6 rfl rfl<|C rfl<|E (kt<|kt<|kb<|kt<|kn) ?_
    cases h
    refine ⟨_,rfl,?_⟩
    rw [Ktv rfl (Ktv rfl (Kbx rfl (Ktv rfl (Knil _))))]
    rw [b4 (a5 (hw0 6)) hi0 (d3 (a5 (hw0 1)))]
    all_goals rfl
  ·intro i0 s0 hi0
   refine D<|D<|F<|C rfl<|C rfl<|V rfl rfl<|E (kt<|kt<|kb<|kt<|kt<|kn) fun _=>?_
   refine b9 rfl (d0 hi0)<|b3 (kt<|kt<|kb<|kn) ?_
   exact ⟨rfl,rfl⟩
  ·intro s0 hs
   replace h:=d5 h hs
   intro _
   refine D<|D<|F<|a4 rfl<|J rfl<|C rfl<|f6 rfl rfl ?_
   obtain ⟨x38,hx38,h⟩:=I h
   refine S rfl (c119 x14.Parent (-1) (w64 (i_1 - 1)) _ hx38)<|b6 rfl<|E (kt<|kt<|kb<|kt<|kn) fun _=>?_
   refine T rfl (fun hc39=>?_) (fun hc39=>?_)
   ·replace h:=M hc39 h
    refine D<|F<|C rfl<|E (kt<|kn) fun _=>?_
    exact L (by cases h;rfl)
   ·replace h:=O hc39 h
    refine P (kt<|kt<|kb<|kn) fun _=>?_
    refine D<|F<|R rfl rfl (show _=eTypes t from rfl)<|C rfl ?_
    obtain ⟨x42,hx42,h⟩:=I h
    refine g3 rfl (c168 t i_1 _ hx42)<|e9 rfl<|E (kb<|ko<|kn) fun _=>?_
    refine D<|D<|F<|a4 rfl<|J rfl<|U rfl rfl<|e7 rfl rfl<|C rfl ?_
    refine gO 4 [48,49,50] 51 (decide (4<(x14.Attrs.length:Int))) (decide (8<(x42.length:Int))) (fun hg51=>?_) (fun hg51=>?_) ?_
    ·refine H rfl hg51<|H rfl hg51<|H rfl hg51<|X rfl hg51 rfl ?_
     exact ⟨⟨_,_,_,rfl⟩⟩
    ·refine G rfl hg51<|C rfl<|G rfl hg51<|U rfl rfl<|G rfl hg51<|e7 rfl rfl<|Y rfl hg51 rfl ?_
     exact ⟨⟨_,_,_,rfl⟩⟩
    rintro _ ⟨_,_,_,rfl⟩
    refine E (kb<|ko<|kt<|kn) fun _=>?_
    refine T rfl (fun hc51=>?_) (fun hc51=>?_)
    ·replace h:=M hc51 h
     refine D<|F<|C rfl<|E (kt<|kn) fun _=>?_
     exact L (by cases h;rfl)
    ·replace h:=O hc51 h
     refine P (kb<|ko<|kn) fun _=>?_
     refine D<|D<|F<|C rfl<|U rfl rfl<|a4 rfl<|J rfl<|U rfl rfl<|f6 rfl rfl<|C rfl<|E (ko<|kt<|kn) fun _=>?_
     obtain ⟨o2,ho2,h⟩:=d4 h
     refine e1 ho2 (fun (i2:Int) (_:Unit)=>[(7,.ow (lA x42)),(8,.tv (eI i2))]) (fun (_:Unit)=>[]) (fun zv ze=>resIs ([.tmp 4]) (.sh (eI zv)) ze) rfl ?_ ?_ ?_ ?_
     ·clear h ho2
      intro i2 s2 r2 hi2 h hw2
      refine D<|D<|F<|C rfl<|C rfl<|U rfl rfl<|V rfl rfl<|E (ko<|kt<|kt<|kn) fun _=>?_
      refine b7 rfl (b8 hi2)<|P (ko<|kt<|kn) fun _=>?_
      refine D<|b0<|D<|D<|F<|C rfl<|C rfl ?_
      obtain ⟨x66,hx66,h⟩:=I h
      refine Z rfl rfl rfl hx66 rfl<|a8 rfl<|J rfl ?_
      obtain ⟨x69,hx69,h⟩:=I h
      refine S rfl (c75 x66.Name _ hx69)<|b6 rfl<|E (ko<|kt<|kt<|kn) fun _=>?_
      refine T rfl (fun hc70=>?_) (fun hc70=>?_)
      ·replace h:=M hc70 h
       refine D<|F<|C rfl<|E (kt<|kn) fun _=>?_
       refine L ?_
       cases h
       exact ⟨_,rfl,rfl⟩
      ·replace h:=O hc70 h
       refine P (ko<|kt<|kn) fun _=>?_
       refine D<|D<|F<|C rfl<|E (ko<|kt<|kt<|kn) fun _=>?_
       obtain ⟨o4,ho4,h⟩:=d4 h
       refine e1 ho4 (fun (i4:Int) (_:Unit)=>[(7,.ow (lA x42)),(8,.tv (eI i2)),(9,.tv (eI i4))]) (fun (_:Unit)=>[(7,.ow (lA x42)),(8,.tv (eI i2))]) (fun zv ze=>resIs ([.tmp 4]) (.sh (eI zv)) ze) rfl ?_ ?_ ?_ ?_
       ·clear h ho4
        intro i4 s4 r4 hi4 h hw4
        refine D<|D<|F<|C rfl<|C rfl<|V rfl rfl<|E (ko<|kt<|kt<|kt<|kn) fun _=>?_
        refine b7 rfl (b8 hi4)<|P (ko<|kt<|kt<|kn) fun _=>?_
        refine D<|b0<|D<|d1 rfl<|C rfl<|C rfl ?_
        obtain ⟨x78,hx78,h⟩:=I h
        refine Z rfl rfl rfl hx78 rfl<|a8 rfl<|J rfl<|C rfl<|C rfl ?_
        obtain ⟨x83,hx83,h⟩:=I h
        refine Z rfl rfl rfl hx83 rfl<|a8 rfl<|J rfl<|g5 rfl rfl<|E (ko<|kt<|kt<|kt<|kn) fun _=>?_
        refine T rfl (fun hc86=>?_) (fun hc86=>?_)
        ·replace h:=M hc86 h
         refine D<|F<|C rfl<|E (kt<|kn) fun _=>?_
         refine L ?_
         cases h
         exact ⟨_,rfl,rfl⟩
        ·replace h:=O hc86 h
         refine P (ko<|kt<|kt<|kn) fun _=>?_
         refine F<|C rfl<|a6 rfl rfl<|C rfl<|E (ko<|kt<|kt<|kn) ?_
         cases h
         refine ⟨_,rfl,?_⟩
         rw [Kow rfl (Ktv rfl (Ktv rfl (Knil _)))]
         rw [b4 (a5 (hw4 9)) hi4 (d3 (a5 (hw4 8)))]
         all_goals rfl
       ·intro i4 s4 hi4
        refine D<|D<|F<|C rfl<|C rfl<|V rfl rfl<|E (ko<|kt<|kt<|kt<|kn) fun _=>?_
        refine b9 rfl (d0 hi4)<|b3 (ko<|kt<|kn) ?_
        exact ⟨rfl,rfl⟩
       ·intro s4 hs
        replace h:=d5 h hs
        intro _
        refine D<|F<|C rfl<|C rfl ?_
        obtain ⟨x89,hx89,h⟩:=I h
        refine Z rfl rfl rfl hx89 rfl<|R rfl rfl (show _=eAttr x89 from rfl) ?_
        obtain ⟨x91,hx91,h⟩:=I h
        refine S rfl (c171 x89 _ hx91)<|C rfl<|E (ko<|kt<|kt<|kn) fun _=>?_
        refine D<|F<|C rfl<|b1 rfl rfl<|E (ko<|kt<|kt<|kt<|kn) fun _=>?_
        refine T rfl (fun hc93=>?_) (fun hc93=>?_)
        ·replace h:=M hc93 h
         refine D<|F<|C rfl<|C rfl<|E (kt<|kn) fun _=>?_
         refine L ?_
         cases h
         exact ⟨_,rfl,rfl⟩
        ·replace h:=O hc93 h
         refine P (ko<|kt<|kn) fun _=>?_
         refine F<|C rfl<|a6 rfl rfl<|C rfl<|E (ko<|kt<|kn) ?_
         cases h
         refine ⟨_,rfl,?_⟩
         rw [Kow rfl (Ktv rfl (Knil _))]
         rw [b4 (a5 (hw2 8)) hi2 (f8 (m2 (hw2 7)) rfl)]
         all_goals rfl
       ·intro v4 ze hv hR
        replace h:=d6 h hv
        cases h
        exact ⟨_,rfl,hR⟩
     ·intro i2 s2 hi2
      refine D<|D<|F<|C rfl<|C rfl<|U rfl rfl<|V rfl rfl<|E (ko<|kt<|kt<|kn) fun _=>?_
      refine b9 rfl (d0 hi2)<|b3 (kn) ?_
      exact ⟨rfl,rfl⟩
     ·intro s2 hs
      replace h:=d5 h hs
      intro _
      refine D<|F<|C rfl<|E (kt<|kn) fun _=>?_
      exact L (by cases h;rfl)
     ·intro v2 ze hv hR
      replace h:=d6 h hv
      cases h
      exact hR
  ·intro v0 ze hv hR
   replace h:=d6 h hv
   cases h
   exact hR
theorem ck172:CK f172 (Rq [Ak 4] [0,1]<|Rq [Aa 5 0,Ey 6 119 5 0 40,Aa 7 6,Am 8 1 7,Eu 9 8 (-1) 7,Am 10 9 7,Az 11 1 10,Az 12 0 10,Fj 13 119 11 12 40 10,Dp 14 10 13 7,An 15 7 14,Aa 4 15] [4]<|.ret) [.tmp 4]:= by decide +kernel
theorem c172 (low:Int) (high:Int) (r:Bool) (h:ref04_bound low high=some r):Sound prog 172 [eI low,eI high] (.sh (eB r)):= by
 refine Fn ck172 fun hw=>?_
 unfold ref04_bound at h
 refine D<|F<|C rfl<|E (kt<|kt<|kn) fun _=>?_
 refine D<|F<|C rfl ?_
 obtain ⟨x6,hx6,h⟩:=I h
 refine S rfl (c119 low 0 40 _ hx6)<|C rfl ?_
 obtain ⟨x15,hx15,h⟩:=I h
 refine gX 8 [8,9,10,11,12,13,14] 15 x15 x6 (fun hg15=>?_) (fun hg15=>?_) ?_
 ·replace h:=M hg15 hx15
  refine G rfl hg15<|C rfl<|G rfl hg15<|d2 rfl rfl<|G rfl hg15<|C rfl ?_
  obtain ⟨x14,hx14,h⟩:=I h
  refine gX 4 [11,12,13] 14 x14 (decide (high=(-1))) (fun hg14=>?_) (fun hg14=>?_) ?_
  ·replace h:=M hg14 hx14
   cases h
   refine H rfl hg14<|H rfl hg14<|H rfl hg14<|G rfl hg15<|X rfl hg14 rfl ?_
   exact ⟨⟨_,_,_,rfl⟩⟩
  ·replace h:=O hg14 hx14
   refine G rfl hg14<|C rfl<|G rfl hg14<|C rfl ?_
   obtain ⟨x13,hx13,h⟩:=I h
   refine G rfl hg14<|S rfl (c119 high low 40 _ hx13) ?_
   cases h
   refine G rfl hg15<|Y rfl hg14 rfl ?_
   exact ⟨⟨_,_,_,rfl⟩⟩
  rintro _ ⟨_,_,_,rfl⟩
  cases h
  refine X rfl hg15 rfl ?_
  exact ⟨⟨_,_,_,_,_,_,_,rfl⟩⟩
 ·replace h:=O hg15 hx15
  cases h
  refine H rfl hg15<|H rfl hg15<|H rfl hg15<|b5 rfl<|b5 rfl<|b5 rfl<|H rfl hg15<|Y rfl hg15 rfl ?_
  exact ⟨⟨_,_,_,_,_,_,_,rfl⟩⟩
 rintro _ ⟨_,_,_,_,_,_,_,rfl⟩
 refine C rfl<|E (kt<|kn) fun _=>?_
 exact L (by cases h;rfl)
theorem ck125:CK f125 (Rq [Af 2 0,Ad 4 0] [1,2]<|Rq [Ac 8 2 1,Ab 9 8,Aa 10 1,Ag 11 9 10 7,Ae 12 11 7,Dq 5 0 0 0 0 0 0,Ai 7 5 12] [1,2,5]<|Sq (Rq [Ac 13 5 0,Ab 14 13,At 15 75 14,Ay 16 15] [1,2,5,16]<|Co 16 (Rq [Ad 4 2] [4]<|.ret)<|Sk [1,2,5])<|Sq (Rq [Ad 6 0] [1,2,5,6]<|Bl 0<|Lo [1,2,5,6]<|Sq (Rq [Aa 17 6,Aa 18 1,Aq 19 17 18] [1,2,5,6,19]<|Co 19 (Sk [1,2,5,6])<|Ex 0 [2,5])<|Sq (Bl 1<|Sq (Dr [22,23,24,25,26,27,28,29,30] [Ac 22 2 1,Ab 23 22,Aa 24 6,Ag 25 23 24 7,Aj 26 25 0,Ab 27 26,Ac 28 5 0,Ab 29 28,Cf 30 27 29] [1,2,5,6,30])<|Co 30 (Rq [Ad 4 5] [4]<|.ret)<|Sk [1,2,5,6])<|Re [Aa 20 6,Ap 21 20 1,Aa 6 21] [1,2,5,6])<|Rq [Ac 31 2 0,Ab 32 31,Ah 33 32,Da 34 33 1,Aa 7 34] [5,7]<|Sq (Rq [Ac 35 5 1,Ab 36 35,Aa 37 7,Dt 38 119 36 0 37,Ay 39 38,Aa 40 39,Ar 41 5 2 40,As 42 41 40,Az 43 7 40,Er 44 119 42 0 43 40,Bq 45 44 40,Au 46 40 45,Aa 47 46,Ar 48 5 3 47,As 49 48 47,Ar 50 5 4 47,As 51 50 47,Ct 52 172 49 51 47,Bq 53 52 47,Au 54 47 53,Aa 55 54,Ar 56 5 5 55,As 57 56 55,Ar 58 5 6 55,As 59 58 55,Ct 60 172 57 59 55,Bq 61 60 55,Au 62 55 61] [62]<|Co 62 (Rq [Ad 4 6] [4]<|.ret)<|Sk [])<|Rq [Ad 4 0] [4]<|.ret) [.tmp 4]:= by decide +kernel
theorem c125 (t:Types) (i_1:Int) (r:Int) (h:ref04_edge t i_1=some r):Sound prog 125 [eTypes t,eI i_1] (.sh (eI r)):= by
 refine Fn ck125 fun hw=>?_
 unfold ref04_edge at h
 refine D<|F<|a3 rfl rfl<|C rfl<|E (kt<|kt<|kn) fun _=>?_
 refine D<|F<|K rfl<|J rfl<|C rfl ?_
 obtain ⟨x11,hx11,h⟩:=I h
 refine Z rfl rfl rfl hx11 rfl<|R rfl rfl (show _=eEdgeType x11 from rfl)<|a9 rfl<|a7 rfl rfl rfl rfl rfl<|E (kt<|kt<|kb<|kn) fun _=>?_
 refine D<|D<|F<|a4 rfl<|J rfl ?_
 obtain ⟨x15,hx15,h⟩:=I h
 refine S rfl (c75 x11.Name _ hx15)<|b6 rfl<|E (kt<|kt<|kb<|kt<|kn) fun _=>?_
 refine T rfl (fun hc16=>?_) (fun hc16=>?_)
 ·replace h:=M hc16 h
  refine D<|F<|C rfl<|E (kt<|kn) fun _=>?_
  exact L (by cases h;rfl)
 ·replace h:=O hc16 h
  refine P (kt<|kt<|kb<|kn) fun _=>?_
  refine D<|D<|F<|C rfl<|E (kt<|kt<|kb<|kt<|kn) fun _=>?_
  obtain ⟨o0,ho0,h⟩:=d4 h
  refine e1 ho0 (fun (i0:Int) (_:Unit)=>[(1,.tv (eI i_1)),(2,.tv (.pt (eTypes t).cells)),(5,.bx [⟨false,eS x11.Name⟩,⟨false,eI x11.From⟩,⟨false,eI x11.To⟩,⟨false,eI x11.OutLow⟩,⟨false,eI x11.OutHigh⟩,⟨false,eI x11.InLow⟩,⟨false,eI x11.InHigh⟩]),(6,.tv (eI i0))]) (fun (_:Unit)=>[(2,.tv (.pt (eTypes t).cells)),(5,.bx [⟨false,eS x11.Name⟩,⟨false,eI x11.From⟩,⟨false,eI x11.To⟩,⟨false,eI x11.OutLow⟩,⟨false,eI x11.OutHigh⟩,⟨false,eI x11.InLow⟩,⟨false,eI x11.InHigh⟩])]) (fun zv ze=>resIs ([.tmp 4]) (.sh (eI zv)) ze) rfl ?_ ?_ ?_ ?_
  ·clear h ho0
   intro i0 s0 r0 hi0 h hw0
   refine D<|D<|F<|C rfl<|C rfl<|V rfl rfl<|E (kt<|kt<|kb<|kt<|kt<|kn) fun _=>?_
   refine b7 rfl (b8 hi0)<|P (kt<|kt<|kb<|kt<|kn) fun _=>?_
   refine D<|b0<|D<|d1 rfl<|K rfl<|J rfl<|C rfl ?_
   obtain ⟨x25,hx25,h⟩:=I h
   refine Z rfl rfl rfl hx25 rfl<|a8 rfl<|J rfl<|a4 rfl<|J rfl<|g5 rfl rfl<|E (kt<|kt<|kb<|kt<|kt<|kn) fun _=>?_
   refine T rfl (fun hc30=>?_) (fun hc30=>?_)
   ·replace h:=M hc30 h
    refine D<|F<|C rfl<|E (kt<|kn) fun _=>?_
    refine L ?_
    cases h
    exact ⟨_,rfl,rfl⟩
   ·replace h:=O hc30 h
    refine P (kt<|kt<|kb<|kt<|kn) fun _=>?_
    refine F<|C rfl<|a6 rfl rfl<|C rfl<|E (kt<|kt<|kb<|kt<|kn) ?_
    cases h
    refine ⟨_,rfl,?_⟩
    rw [Ktv rfl (Ktv rfl (Kbx rfl (Ktv rfl (Knil _))))]
    rw [b4 (a5 (hw0 6)) hi0 (d3 (a5 (hw0 1)))]
    all_goals rfl
  ·intro i0 s0 hi0
   refine D<|D<|F<|C rfl<|C rfl<|V rfl rfl<|E (kt<|kt<|kb<|kt<|kt<|kn) fun _=>?_
   refine b9 rfl (d0 hi0)<|b3 (kt<|kb<|kn) ?_
   exact ⟨rfl,rfl⟩
  ·intro s0 hs
   replace h:=d5 h hs
   intro _
   refine D<|F<|K rfl<|J rfl<|U rfl rfl<|f6 rfl rfl<|C rfl<|E (kb<|kt<|kn) fun _=>?_
   refine D<|D<|F<|a4 rfl<|J rfl<|C rfl ?_
   obtain ⟨x38,hx38,h⟩:=I h
   refine S rfl (c119 x11.From 0 (w64 ((t.Nodes.length:Int) - 1)) _ hx38)<|b6 rfl<|C rfl ?_
   obtain ⟨x46,hx46,h⟩:=I h
   refine gX 6 [41,42,43,44,45] 46 x46 (!x38) (fun hg46=>?_) (fun hg46=>?_) ?_
   ·replace h:=M hg46 hx46
    cases h
    refine H rfl hg46<|H rfl hg46<|H rfl hg46<|H rfl hg46<|H rfl hg46<|X rfl hg46 rfl ?_
    exact ⟨⟨_,_,_,_,_,rfl⟩⟩
   ·replace h:=O hg46 hx46
    refine G rfl hg46<|a4 rfl<|G rfl hg46<|J rfl<|G rfl hg46<|C rfl ?_
    obtain ⟨x44,hx44,h⟩:=I h
    refine G rfl hg46<|S rfl (c119 x11.To 0 (w64 ((t.Nodes.length:Int) - 1)) _ hx44)<|G rfl hg46<|b6 rfl ?_
    cases h
    refine Y rfl hg46 rfl ?_
    exact ⟨⟨_,_,_,_,_,rfl⟩⟩
   rintro _ ⟨_,_,_,_,_,rfl⟩
   refine C rfl ?_
   obtain ⟨x54,hx54,h⟩:=I h
   refine gX 7 [48,49,50,51,52,53] 54 x54 x46 (fun hg54=>?_) (fun hg54=>?_) ?_
   ·replace h:=M hg54 hx54
    cases h
    refine H rfl hg54<|H rfl hg54<|H rfl hg54<|H rfl hg54<|H rfl hg54<|H rfl hg54<|X rfl hg54 rfl ?_
    exact ⟨⟨_,_,_,_,_,_,rfl⟩⟩
   ·replace h:=O hg54 hx54
    refine G rfl hg54<|a4 rfl<|G rfl hg54<|J rfl<|G rfl hg54<|a4 rfl<|G rfl hg54<|J rfl ?_
    obtain ⟨x52,hx52,h⟩:=I h
    refine G rfl hg54<|S rfl (c172 x11.OutLow x11.OutHigh _ hx52)<|G rfl hg54<|b6 rfl ?_
    cases h
    refine Y rfl hg54 rfl ?_
    exact ⟨⟨_,_,_,_,_,_,rfl⟩⟩
   rintro _ ⟨_,_,_,_,_,_,rfl⟩
   refine C rfl ?_
   obtain ⟨x62,hx62,h⟩:=I h
   refine gX 7 [56,57,58,59,60,61] 62 x62 x54 (fun hg62=>?_) (fun hg62=>?_) ?_
   ·replace h:=M hg62 hx62
    cases h
    refine H rfl hg62<|H rfl hg62<|H rfl hg62<|H rfl hg62<|H rfl hg62<|H rfl hg62<|X rfl hg62 rfl ?_
    exact ⟨⟨_,_,_,_,_,_,rfl⟩⟩
   ·replace h:=O hg62 hx62
    refine G rfl hg62<|a4 rfl<|G rfl hg62<|J rfl<|G rfl hg62<|a4 rfl<|G rfl hg62<|J rfl ?_
    obtain ⟨x60,hx60,h⟩:=I h
    refine G rfl hg62<|S rfl (c172 x11.InLow x11.InHigh _ hx60)<|G rfl hg62<|b6 rfl ?_
    cases h
    refine Y rfl hg62 rfl ?_
    exact ⟨⟨_,_,_,_,_,_,rfl⟩⟩
   rintro _ ⟨_,_,_,_,_,_,rfl⟩
   refine E (kt<|kn) fun _=>?_
   refine T rfl (fun hc62=>?_) (fun hc62=>?_)
   ·replace h:=M hc62 h
    refine D<|F<|C rfl<|E (kt<|kn) fun _=>?_
    exact L (by cases h;rfl)
   ·replace h:=O hc62 h
    refine P (kn) fun _=>?_
    refine D<|F<|C rfl<|E (kt<|kn) fun _=>?_
    exact L (by cases h;rfl)
  ·intro v0 ze hv hR
   replace h:=d6 h hv
   cases h
   exact hR
theorem ck74:CK f74 (Rq [Af 1 0,Bw 2,Ad 3 0] [1]<|Sq (Rq [Ac 8 1 0,Ab 9 8,Ah 10 9,Bh 11 10 0] [1,11]<|Co 11 (Rq [Bw 2,Ad 3 7] [2,3]<|.ret)<|Sk [1])<|Sq (Rq [Ac 12 1 0,Ab 13 12,Ah 14 13,Bp 15 14 12,Aa 16 15,Ar 17 1 1 16,As 18 17 16,Bd 19 18 16,Ci 20 19 20 16,Au 21 16 20] [1,21]<|Co 21 (Rq [Bw 2,Ad 3 3] [2,3]<|.ret)<|Sk [1])<|Sq (Rq [Ad 4 0] [1,4]<|Bl 0<|Lo [1,4]<|Sq (Rq [Aa 22 4,Ac 23 1 0,Ab 24 23,Ah 25 24,Aq 26 22 25] [1,4,26]<|Co 26 (Sk [1,4])<|Ex 0 [1])<|Sq (Bl 1<|Rq [Ae 29 1 2,Aa 30 4,Al 31 124 29 30,Aa 5 31] [1,4,5]<|Rq [Aa 32 5,Ax 33 32 0] [1,4,5,33]<|Co 33 (Rq [Ac 34 1 0,Ab 35 34,Aa 36 4,Ag 37 35 36 4,Aj 38 37 0,Ab 39 38,Aa 40 5,Aa 2 39,Aa 3 40] [2,3]<|.ret)<|Sk [1,4])<|Re [Aa 27 4,Ap 28 27 1,Aa 4 28] [1,4])<|Sq (Rq [Ad 6 0] [1,6]<|Bl 2<|Lo [1,6]<|Sq (Rq [Aa 41 6,Ac 42 1 1,Ab 43 42,Ah 44 43,Aq 45 41 44] [1,6,45]<|Co 45 (Sk [1,6])<|Ex 2 [])<|Sq (Bl 3<|Rq [Ae 48 1 2,Aa 49 6,Al 50 125 48 49,Aa 7 50] [1,6,7]<|Rq [Aa 51 7,Ax 52 51 0] [1,6,7,52]<|Co 52 (Rq [Ac 53 1 1,Ab 54 53,Aa 55 6,Ag 56 54 55 7,Aj 57 56 0,Ab 58 57,Aa 59 7,Aa 2 58,Aa 3 59] [2,3]<|.ret)<|Sk [1,6])<|Re [Aa 46 6,Ap 47 46 1,Aa 6 47] [1,6])<|Rq [Bw 2,Ad 3 0] [2,3]<|.ret) [.tmp 2,.tmp 3]:= by decide +kernel
theorem c74 (t:Types) (r:(ByteArray × Int)) (h:ref04_Valid t=some r):Sound prog 74 [eTypes t] (.tp [eS r.1,eI r.2]):= by
 refine Fn ck74 fun hw=>?_
 unfold ref04_Valid at h
 refine D<|F<|a3 rfl rfl<|C rfl<|C rfl<|E (kt<|kn) fun _=>?_
 refine D<|D<|F<|K rfl<|J rfl<|U rfl rfl<|d2 rfl rfl<|E (kt<|kt<|kn) fun _=>?_
 refine T rfl (fun hc11=>?_) (fun hc11=>?_)
 ·replace h:=M hc11 h
  refine D<|F<|C rfl<|C rfl<|E (kt<|kt<|kn) fun _=>?_
  refine L ?_
  cases h
  exact ⟨by decide,rfl⟩
 ·replace h:=O hc11 h
  refine P (kt<|kn) fun _=>?_
  refine D<|D<|F<|K rfl<|J rfl<|U rfl rfl<|e7 rfl rfl<|C rfl ?_
  refine gO 5 [17,18,19,20] 21 (decide (12<(t.Nodes.length:Int))) (decide (20<(t.Edges.length:Int))) (fun hg21=>?_) (fun hg21=>?_) ?_
  ·refine H rfl hg21<|H rfl hg21<|H rfl hg21<|H rfl hg21<|X rfl hg21 rfl ?_
   exact ⟨⟨_,_,_,_,rfl⟩⟩
  ·refine G rfl hg21<|K rfl<|G rfl hg21<|J rfl<|G rfl hg21<|U rfl rfl<|G rfl hg21<|e7 rfl rfl<|Y rfl hg21 rfl ?_
   exact ⟨⟨_,_,_,_,rfl⟩⟩
  rintro _ ⟨_,_,_,_,rfl⟩
  refine E (kt<|kt<|kn) fun _=>?_
  refine T rfl (fun hc21=>?_) (fun hc21=>?_)
  ·replace h:=M hc21 h
   refine D<|F<|C rfl<|C rfl<|E (kt<|kt<|kn) fun _=>?_
   refine L ?_
   cases h
   exact ⟨by decide,rfl⟩
  ·replace h:=O hc21 h
   refine P (kt<|kn) fun _=>?_
   refine D<|D<|F<|C rfl<|E (kt<|kt<|kn) fun _=>?_
   obtain ⟨o0,ho0,h⟩:=d4 h
   refine e1 ho0 (fun (i0:Int) (_:Unit)=>[(1,.tv (.pt (eTypes t).cells)),(4,.tv (eI i0))]) (fun (_:Unit)=>[(1,.tv (.pt (eTypes t).cells))]) (fun zv ze=>resIs ([.tmp 2,.tmp 3]) (.tp [eS zv.1,eI zv.2]) ze) rfl ?_ ?_ ?_ ?_
   ·clear h ho0
    intro i0 s0 r0 hi0 h hw0
    refine D<|D<|F<|C rfl<|K rfl<|J rfl<|U rfl rfl<|V rfl rfl<|E (kt<|kt<|kt<|kn) fun _=>?_
    refine b7 rfl (b8 hi0)<|P (kt<|kt<|kn) fun _=>?_
    refine D<|b0<|D<|F<|R rfl rfl (show _=eTypes t from rfl)<|C rfl ?_
    obtain ⟨x31,hx31,h⟩:=I h
    refine S rfl (c124 t i0 _ hx31)<|C rfl<|E (kt<|kt<|kt<|kn) fun _=>?_
    refine D<|F<|C rfl<|b1 rfl rfl<|E (kt<|kt<|kt<|kt<|kn) fun _=>?_
    refine T rfl (fun hc33=>?_) (fun hc33=>?_)
    ·replace h:=M hc33 h
     refine D<|F<|K rfl<|J rfl<|C rfl ?_
     obtain ⟨x37,hx37,h⟩:=I h
     refine Z rfl rfl rfl hx37 rfl<|a8 rfl<|J rfl<|C rfl<|C rfl<|C rfl<|E (kt<|kt<|kn) fun _=>?_
     refine L ?_
     cases h
     exact ⟨_,rfl,⟨by decide,rfl⟩⟩
    ·replace h:=O hc33 h
     refine P (kt<|kt<|kn) fun _=>?_
     refine F<|C rfl<|a6 rfl rfl<|C rfl<|E (kt<|kt<|kn) ?_
     cases h
     refine ⟨_,rfl,?_⟩
     rw [Ktv rfl (Ktv rfl (Knil _))]
     rw [b4 (a5 (hw0 4)) hi0 (f8 (g7 (g8 (hw0 1)) (i:=0) rfl) rfl)]
     all_goals rfl
   ·intro i0 s0 hi0
    refine D<|D<|F<|C rfl<|K rfl<|J rfl<|U rfl rfl<|V rfl rfl<|E (kt<|kt<|kt<|kn) fun _=>?_
    refine b9 rfl (d0 hi0)<|b3 (kt<|kn) ?_
    exact ⟨rfl,rfl⟩
   ·intro s0 hs
    replace h:=d5 h hs
    intro _
    refine D<|D<|F<|C rfl<|E (kt<|kt<|kn) fun _=>?_
    obtain ⟨o2,ho2,h⟩:=d4 h
    refine e1 ho2 (fun (i2:Int) (_:Unit)=>[(1,.tv (.pt (eTypes t).cells)),(6,.tv (eI i2))]) (fun (_:Unit)=>[]) (fun zv ze=>resIs ([.tmp 2,.tmp 3]) (.tp [eS zv.1,eI zv.2]) ze) rfl ?_ ?_ ?_ ?_
    ·clear h ho2
     intro i2 s2 r2 hi2 h hw2
     refine D<|D<|F<|C rfl<|K rfl<|J rfl<|U rfl rfl<|V rfl rfl<|E (kt<|kt<|kt<|kn) fun _=>?_
     refine b7 rfl (b8 hi2)<|P (kt<|kt<|kn) fun _=>?_
     refine D<|b0<|D<|F<|R rfl rfl (show _=eTypes t from rfl)<|C rfl ?_
     obtain ⟨x50,hx50,h⟩:=I h
     refine S rfl (c125 t i2 _ hx50)<|C rfl<|E (kt<|kt<|kt<|kn) fun _=>?_
     refine D<|F<|C rfl<|b1 rfl rfl<|E (kt<|kt<|kt<|kt<|kn) fun _=>?_
     refine T rfl (fun hc52=>?_) (fun hc52=>?_)
     ·replace h:=M hc52 h
      refine D<|F<|K rfl<|J rfl<|C rfl ?_
      obtain ⟨x56,hx56,h⟩:=I h
      refine Z rfl rfl rfl hx56 rfl<|a8 rfl<|J rfl<|C rfl<|C rfl<|C rfl<|E (kt<|kt<|kn) fun _=>?_
      refine L ?_
      cases h
      exact ⟨_,rfl,⟨by decide,rfl⟩⟩
     ·replace h:=O hc52 h
      refine P (kt<|kt<|kn) fun _=>?_
      refine F<|C rfl<|a6 rfl rfl<|C rfl<|E (kt<|kt<|kn) ?_
      cases h
      refine ⟨_,rfl,?_⟩
      rw [Ktv rfl (Ktv rfl (Knil _))]
      rw [b4 (a5 (hw2 6)) hi2 (f8 (g7 (g8 (hw2 1)) (i:=1) rfl) rfl)]
      all_goals rfl
    ·intro i2 s2 hi2
     refine D<|D<|F<|C rfl<|K rfl<|J rfl<|U rfl rfl<|V rfl rfl<|E (kt<|kt<|kt<|kn) fun _=>?_
     refine b9 rfl (d0 hi2)<|b3 (kn) ?_
     exact ⟨rfl,rfl⟩
    ·intro s2 hs
     replace h:=d5 h hs
     intro _
     refine D<|F<|C rfl<|C rfl<|E (kt<|kt<|kn) fun _=>?_
     refine L ?_
     cases h
     exact ⟨by decide,rfl⟩
    ·intro v2 ze hv hR
     replace h:=d6 h hv
     cases h
     exact hR
   ·intro v0 ze hv hR
    replace h:=d6 h hv
    cases h
    exact hR
theorem ck118:CK f118 (Rq [Af 3 0,Ad 6 0] [1,2,3]<|Sq (Rq [Ae 10 3 2,At 11 74 10,Aa 9 11,Ao 12 9 0,Ao 13 9 1,Aa 7 12,Aa 8 13] [1,2,3,8]<|Rq [Aa 14 8,Ax 15 14 0] [1,2,3,8,15]<|Co 15 (Rq [Aa 16 8,Aa 6 16] [6]<|.ret)<|Sk [1,2,3])<|Sq (Rq [Aa 17 1,Ac 18 3 0,Ab 19 18,Ah 20 19,Da 21 20 1,Dt 22 119 17 0 21,Ay 23 22,Aa 24 23,Az 25 2 24,Ar 26 3 0 24,As 27 26 24,Bd 28 27 24,Du 29 28 1 24,Er 30 119 25 0 29 24,Bq 31 30 24,Au 32 24 31] [32]<|Co 32 (Rq [Ad 6 6] [6]<|.ret)<|Sk [])<|Rq [Ad 6 0] [6]<|.ret) [.tmp 6]:= by decide +kernel
theorem c118 (t:Types) (a:Int) (b:Int) (r:Int) (h:ref04_given t a b=some r):Sound prog 118 [eTypes t,eI a,eI b] (.sh (eI r)):= by
 refine Fn ck118 fun hw=>?_
 unfold ref04_given at h
 refine D<|F<|a3 rfl rfl<|C rfl<|E (kt<|kt<|kt<|kn) fun _=>?_
 refine D<|D<|F<|R rfl rfl (show _=eTypes t from rfl) ?_
 obtain ⟨x11,hx11,h⟩:=I h
 refine e5 rfl (c74 t _ hx11)<|e8 rfl<|b2 rfl rfl<|b2 rfl rfl<|C rfl<|C rfl<|E (kt<|kt<|kt<|kt<|kn) fun _=>?_
 refine D<|F<|C rfl<|b1 rfl rfl<|E (kt<|kt<|kt<|kt<|kt<|kn) fun _=>?_
 refine T rfl (fun hc15=>?_) (fun hc15=>?_)
 ·replace h:=M hc15 h
  refine D<|F<|C rfl<|C rfl<|E (kt<|kn) fun _=>?_
  exact L (by cases h;rfl)
 ·replace h:=O hc15 h
  refine P (kt<|kt<|kt<|kn) fun _=>?_
  refine D<|D<|F<|C rfl<|K rfl<|J rfl<|U rfl rfl<|f6 rfl rfl ?_
  obtain ⟨x22,hx22,h⟩:=I h
  refine S rfl (c119 a 0 (w64 ((t.Nodes.length:Int) - 1)) _ hx22)<|b6 rfl<|C rfl ?_
  obtain ⟨x32,hx32,h⟩:=I h
  refine gX 8 [25,26,27,28,29,30,31] 32 x32 (!x22) (fun hg32=>?_) (fun hg32=>?_) ?_
  ·replace h:=M hg32 hx32
   cases h
   refine H rfl hg32<|H rfl hg32<|H rfl hg32<|H rfl hg32<|H rfl hg32<|H rfl hg32<|H rfl hg32<|X rfl hg32 rfl ?_
   exact ⟨⟨_,_,_,_,_,_,_,rfl⟩⟩
  ·replace h:=O hg32 hx32
   refine G rfl hg32<|C rfl<|G rfl hg32<|K rfl<|G rfl hg32<|J rfl<|G rfl hg32<|U rfl rfl<|G rfl hg32<|f6 rfl rfl ?_
   obtain ⟨x30,hx30,h⟩:=I h
   refine G rfl hg32<|S rfl (c119 b 0 (w64 ((t.Nodes.length:Int) - 1)) _ hx30)<|G rfl hg32<|b6 rfl ?_
   cases h
   refine Y rfl hg32 rfl ?_
   exact ⟨⟨_,_,_,_,_,_,_,rfl⟩⟩
  rintro _ ⟨_,_,_,_,_,_,_,rfl⟩
  refine E (kt<|kn) fun _=>?_
  refine T rfl (fun hc32=>?_) (fun hc32=>?_)
  ·replace h:=M hc32 h
   refine D<|F<|C rfl<|E (kt<|kn) fun _=>?_
   exact L (by cases h;rfl)
  ·replace h:=O hc32 h
   refine P (kn) fun _=>?_
   refine D<|F<|C rfl<|E (kt<|kn) fun _=>?_
   exact L (by cases h;rfl)
theorem ck120:CK f120 (Rq [Af 3 0,Ak 6] [1,2,3]<|Sq (Dr [6,7,8,9,10,11,12,13,14,15,16,17,18,19,20,21,22,23,24] [Aa 7 1,Aa 8 2,Cr 9 7 8,Aa 10 9,Az 11 1 10,⟨some 12,.bin (.i) .geq (.s 11) (.c (.int .i64 0)),some (10,false)⟩,Az 13 12 10,Bk 14 3 2 13,Aw 15 3 0 13,Av 16 15 13,Am 17 1 13,Bv 18 16 17 4 13,By 19 18 1 13,Av 20 19 13,Am 21 2 13,Em 22 120 14 20 21 13,Cy 23 13 22 10,Au 24 10 23,Aa 6 24] [6])<|.ret) [.tmp 6]:= by decide +kernel
theorem c120S (n:Nat) (ih_120:∀ (t:Types) (a:Int) (b:Int) (r:Bool) (_:ref04_Below1F n t a b=some r),Sound prog 120 [eTypes t,eI a,eI b] (.sh (eB r))):∀ (t:Types) (a:Int) (b:Int) (r:Bool) (_:ref04_Below1F (n+1) t a b=some r),Sound prog 120 [eTypes t,eI a,eI b] (.sh (eB r)):= by
 intro t a b r h
 refine Fn ck120 fun hw=>?_
 unfold ref04_Below1F at h
 refine D<|F<|a3 rfl rfl<|C rfl<|E (kt<|kt<|kt<|kn) fun _=>?_
 refine D<|d1 rfl<|C rfl<|C rfl<|d2 rfl rfl<|C rfl ?_
 obtain ⟨x24,hx24,h⟩:=I h
 refine gX 14 [11,12,13,14,15,16,17,18,19,20,21,22,23] 24 x24 (decide (a=b)) (fun hg24=>?_) (fun hg24=>?_) ?_
 ·replace h:=M hg24 hx24
  cases h
  refine H rfl hg24<|H rfl hg24<|H rfl hg24<|b5 rfl<|b5 rfl<|b5 rfl<|b5 rfl<|b5 rfl<|b5 rfl<|b5 rfl<|b5 rfl<|b5 rfl<|H rfl hg24<|X rfl hg24 rfl ?_
  exact ⟨⟨_,_,_,_,_,_,_,_,_,_,_,_,_,rfl⟩⟩
 ·replace h:=O hg24 hx24
  refine G rfl hg24<|C rfl<|G rfl hg24<|d8 rfl rfl<|G rfl hg24<|C rfl ?_
  obtain ⟨x23,hx23,h⟩:=I h
  refine gX 10 [14,15,16,17,18,19,20,21,22] 23 x23 (decide (0<=a)) (fun hg23=>?_) (fun hg23=>?_) ?_
  ·replace h:=M hg23 hx23
   refine G rfl hg23<|R rfl rfl (show _=eTypes t from rfl)<|G rfl hg23<|K rfl<|G rfl hg23<|J rfl<|G rfl hg23<|C rfl ?_
   obtain ⟨x18,hx18,h⟩:=I h
   refine G rfl hg23<|Z rfl rfl rfl hx18 rfl<|G rfl hg23<|a8 rfl<|G rfl hg23<|J rfl<|G rfl hg23<|C rfl ?_
   obtain ⟨x22,hx22,h⟩:=I h
   refine G rfl hg23<|S rfl (ih_120 t x18.Parent b _ hx22) ?_
   cases h
   refine G rfl hg24<|X rfl hg23 rfl ?_
   exact ⟨⟨_,_,_,_,_,_,_,_,_,rfl⟩⟩
  ·replace h:=O hg23 hx23
   cases h
   refine H rfl hg23<|H rfl hg23<|H rfl hg23<|H rfl hg23<|H rfl hg23<|H rfl hg23<|H rfl hg23<|H rfl hg23<|H rfl hg23<|G rfl hg24<|Y rfl hg23 rfl ?_
   exact ⟨⟨_,_,_,_,_,_,_,_,_,rfl⟩⟩
  rintro _ ⟨_,_,_,_,_,_,_,_,_,rfl⟩
  cases h
  refine Y rfl hg24 rfl ?_
  exact ⟨⟨_,_,_,_,_,_,_,_,_,_,_,_,_,rfl⟩⟩
 rintro _ ⟨_,_,_,_,_,_,_,_,_,_,_,_,_,rfl⟩
 refine C rfl<|E (kt<|kn) fun _=>?_
 exact L (by cases h;rfl)
theorem c120A:∀ n:Nat,(∀ (t:Types) (a:Int) (b:Int) (r:Bool) (_:ref04_Below1F n t a b=some r),Sound prog 120 [eTypes t,eI a,eI b] (.sh (eB r))):=by
  intro n
  induction n with
  | zero=>intro t a b r h; cases h
  | succ n ih=>exact c120S n ih
theorem c120 (t:Types) (a:Int) (b:Int) (r:Bool) (h:ref04_Below1 t a b=some r):Sound prog 120 [eTypes t,eI a,eI b] (.sh (eB r)):=by
  obtain ⟨N,hN⟩:=lim_some h
  exact (c120A N) t a b r (hN N (Nat.le_refl _))
theorem ck68:CK f68 (Rq [Af 4 0,Ak 8] [1,2,3,4]<|Sq (Rq [Ae 9 4 2,Aa 10 2,Aa 11 3,Bg 12 118 9 10 11,Ax 13 12 0,Aa 14 13,Az 15 1 14,Ar 16 4 1 14,As 17 16 14,Bd 18 17 14,Du 19 18 1 14,Er 20 119 15 0 19 14,Bq 21 20 14,Au 22 14 21] [1,2,3,4,22]<|Co 22 (Rq [Ak 8] [8]<|.ret)<|Sk [1,2,3,4])<|Sq (Dr [8,23,24,25,26,27,28,29,30,31,32,33,34,35,36,37,38,39,40,41,42] [Ae 23 4 2,Aa 24 2,Ac 25 4 1,Ab 26 25,Aa 27 1,Ag 28 26 27 7,Aj 29 28 1,Ab 30 29,Bg 31 120 23 24 30,Aa 32 31,Bk 33 4 2 32,Am 34 3 32,Aw 35 4 1 32,Av 36 35 32,Am 37 1 32,Bv 38 36 37 7 32,By 39 38 2 32,Av 40 39 32,Em 41 120 33 34 40 32,An 42 32 41,Aa 8 42] [8])<|.ret) [.tmp 8]:= by decide +kernel
theorem c68 (t:Types) (edge:Int) (from':Int) (to':Int) (r:Bool) (h:ref04_Fits t edge from' to'=some r):Sound prog 68 [eTypes t,eI edge,eI from',eI to'] (.sh (eB r)):= by
 refine Fn ck68 fun hw=>?_
 unfold ref04_Fits at h
 refine D<|F<|a3 rfl rfl<|C rfl<|E (kt<|kt<|kt<|kt<|kn) fun _=>?_
 refine D<|D<|F<|R rfl rfl (show _=eTypes t from rfl)<|C rfl<|C rfl ?_
 obtain ⟨x12,hx12,h⟩:=I h
 refine S rfl (c118 t from' to' _ hx12)<|b1 rfl rfl<|C rfl ?_
 obtain ⟨x22,hx22,h⟩:=I h
 refine gX 8 [15,16,17,18,19,20,21] 22 x22 (!decide (x12=0)) (fun hg22=>?_) (fun hg22=>?_) ?_
 ·replace h:=M hg22 hx22
  cases h
  refine H rfl hg22<|H rfl hg22<|H rfl hg22<|H rfl hg22<|H rfl hg22<|H rfl hg22<|H rfl hg22<|X rfl hg22 rfl ?_
  exact ⟨⟨_,_,_,_,_,_,_,rfl⟩⟩
 ·replace h:=O hg22 hx22
  refine G rfl hg22<|C rfl<|G rfl hg22<|K rfl<|G rfl hg22<|J rfl<|G rfl hg22<|U rfl rfl<|G rfl hg22<|f6 rfl rfl ?_
  obtain ⟨x20,hx20,h⟩:=I h
  refine G rfl hg22<|S rfl (c119 edge 0 (w64 ((t.Edges.length:Int) - 1)) _ hx20)<|G rfl hg22<|b6 rfl ?_
  cases h
  refine Y rfl hg22 rfl ?_
  exact ⟨⟨_,_,_,_,_,_,_,rfl⟩⟩
 rintro _ ⟨_,_,_,_,_,_,_,rfl⟩
 refine E (kt<|kt<|kt<|kt<|kt<|kn) fun _=>?_
 refine T rfl (fun hc22=>?_) (fun hc22=>?_)
 ·replace h:=M hc22 h
  refine D<|F<|C rfl<|E (kt<|kn) fun _=>?_
  exact L (by cases h;rfl)
 ·replace h:=O hc22 h
  refine P (kt<|kt<|kt<|kt<|kn) fun _=>?_
  refine D<|d1 rfl<|R rfl rfl (show _=eTypes t from rfl)<|C rfl<|K rfl<|J rfl<|C rfl ?_
  obtain ⟨x28,hx28,h⟩:=I h
  refine Z rfl rfl rfl hx28 rfl<|a8 rfl<|J rfl ?_
  obtain ⟨x31,hx31,h⟩:=I h
  refine S rfl (c120 t from' x28.From _ hx31)<|C rfl ?_
  obtain ⟨x42,hx42,h⟩:=I h
  refine gX 10 [33,34,35,36,37,38,39,40,41] 42 x42 x31 (fun hg42=>?_) (fun hg42=>?_) ?_
  ·replace h:=M hg42 hx42
   refine G rfl hg42<|R rfl rfl (show _=eTypes t from rfl)<|G rfl hg42<|C rfl<|G rfl hg42<|K rfl<|G rfl hg42<|J rfl<|G rfl hg42<|C rfl ?_
   obtain ⟨x38,hx38,h⟩:=I h
   refine G rfl hg42<|Z rfl rfl rfl hx38 rfl<|G rfl hg42<|a8 rfl<|G rfl hg42<|J rfl ?_
   obtain ⟨x41,hx41,h⟩:=I h
   refine G rfl hg42<|S rfl (c120 t to' x38.To _ hx41) ?_
   cases h
   refine X rfl hg42 rfl ?_
   exact ⟨⟨_,_,_,_,_,_,_,_,_,rfl⟩⟩
  ·replace h:=O hg42 hx42
   cases h
   refine H rfl hg42<|H rfl hg42<|H rfl hg42<|H rfl hg42<|H rfl hg42<|H rfl hg42<|H rfl hg42<|H rfl hg42<|H rfl hg42<|Y rfl hg42 rfl ?_
   exact ⟨⟨_,_,_,_,_,_,_,_,_,rfl⟩⟩
  rintro _ ⟨_,_,_,_,_,_,_,_,_,rfl⟩
  refine C rfl<|E (kt<|kn) fun _=>?_
  exact L (by cases h;rfl)
theorem ck116:CK f116 (Rq [Af 1 0,Bf 2 1] [1]<|Rq [Bf 3 1] [1,3]<|Sq (Rq [Ad 4 0] [1,3,4]<|Bl 0<|Lo [1,3,4]<|Sq (Rq [Aa 5 4,Ac 6 1 0,Ab 7 6,Ah 8 7,Aq 9 5 8] [1,3,4,9]<|Co 9 (Sk [1,3,4])<|Ex 0 [3])<|Sq (Bl 1<|Rq [Ac 12 1 0,Ab 13 12,Aa 14 4,Ag 15 13 14 4,Aj 16 15 2,Ab 17 16,Ay 18 17] [1,3,4,18]<|Co 18 (Re [Ba 19 3,Aa 20 4,Be 21 1 20,Bb 22 1 19 21,Ba 3 22] [1,3,4])<|Sk [1,3,4])<|Re [Aa 10 4,Ap 11 10 1,Aa 4 11] [1,3,4])<|Rq [Aa 23 3,Ba 2 23] [2]<|.ret) [.tmp 2]:= by decide +kernel
theorem c116 (t:Types) (r:(List Int)) (h:ref15_concrete t=some r):Sound prog 116 [eTypes t] (.sh (lI r)):= by
 refine Fn ck116 fun hw=>?_
 unfold ref15_concrete at h
 refine D<|F<|a3 rfl rfl<|f0<|E (kt<|kn) fun _=>?_
 refine D<|F<|f0<|E (kt<|ko<|kn) fun _=>?_
 refine D<|D<|F<|C rfl<|E (kt<|ko<|kt<|kn) fun _=>?_
 obtain ⟨s0,hs0,h⟩:=I h
 refine f3 hs0 (fun (i0:Int) (s0:List Int)=>[(1,.tv (.pt (eTypes t).cells)),(3,.ow (lI s0)),(4,.tv (eI i0))]) (fun (s0:List Int)=>[(3,.ow (lI s0))]) rfl ?_ ?_ ?_
 ·clear h hs0
  intro i0 s0 r0 hi0 h hw0
  refine D<|D<|F<|C rfl<|K rfl<|J rfl<|U rfl rfl<|V rfl rfl<|E (kt<|ko<|kt<|kt<|kn) fun _=>?_
  refine b7 rfl (b8 hi0)<|P (kt<|ko<|kt<|kn) fun _=>?_
  refine D<|b0<|D<|F<|K rfl<|J rfl<|C rfl ?_
  obtain ⟨x15,hx15,h⟩:=I h
  refine Z rfl rfl rfl hx15 rfl<|a8 rfl<|J rfl<|b6 rfl<|E (kt<|ko<|kt<|kt<|kn) fun _=>?_
  refine T rfl (fun hc18=>?_) (fun hc18=>?_)
  ·replace h:=M hc18 h
   refine F<|e9 rfl<|C rfl<|d7 (e:=eI) (l:=[i0]) rfl rfl (fun _=>rfl) ?_
   obtain ⟨x22,hx22,h⟩:=I h
   refine e4 rfl rfl rfl rfl hx22 rfl<|e9 rfl<|E (kt<|ko<|kt<|kn) fun _=>?_
   refine F<|C rfl<|a6 rfl rfl<|C rfl<|E (kt<|ko<|kt<|kn) ?_
   cases h
   show Env.keep _ _=_
   rw [Ktv rfl (Kow rfl (Ktv rfl (Knil _)))]
   rw [b4 (a5 (hw0 4)) hi0 (f8 (g7 (g8 (hw0 1)) (i:=0) rfl) rfl)]
   all_goals rfl
  ·replace h:=O hc18 h
   refine P (kt<|ko<|kt<|kn) fun _=>?_
   refine F<|C rfl<|a6 rfl rfl<|C rfl<|E (kt<|ko<|kt<|kn) ?_
   cases h
   show Env.keep _ _=_
   rw [Ktv rfl (Kow rfl (Ktv rfl (Knil _)))]
   rw [b4 (a5 (hw0 4)) hi0 (f8 (g7 (g8 (hw0 1)) (i:=0) rfl) rfl)]
   all_goals rfl
 ·intro i0 s0 hi0
  refine D<|D<|F<|C rfl<|K rfl<|J rfl<|U rfl rfl<|V rfl rfl<|E (kt<|ko<|kt<|kt<|kn) fun _=>?_
  refine b9 rfl (d0 hi0)<|b3 (ko<|kn) ?_
  exact ⟨rfl,rfl⟩
 ·intro _
  refine D<|F<|C rfl<|g2 rfl<|E (kt<|kn) fun _=>?_
  exact L (by cases h;rfl)
theorem ck117:CK f117 (Rq [Af 2 0,Bf 4 4,Ad 5 0] [1,2]<|Sq (Rq [Ae 11 2 2,Aa 12 1,Aa 13 1,Bg 14 118 11 12 13,Aa 6 14] [1,2,6]<|Rq [Aa 15 6,Ax 16 15 0] [1,2,6,16]<|Co 16 (Rq [Aa 17 6,Bf 4 4,Aa 5 17] [4,5]<|.ret)<|Sk [1,2])<|Rq [Bf 7 4] [1,2,7]<|Rq [Ae 18 2 2,Aa 19 1,Al 20 168 18 19,Ba 8 20] [7,8]<|Sq (Rq [Ad 9 0] [7,8,9]<|Bl 0<|Lo [7,8,9]<|Sq (Rq [Aa 21 9,Aa 22 8,Ah 23 22,Aq 24 21 23] [7,8,9,24]<|Co 24 (Sk [7,8,9])<|Ex 0 [7])<|Sq (Bl 1<|Rq [Aa 27 8,Aa 28 9,Ag 29 27 28 4,Ae 30 29 4,Ej 10 0 0 1,Ai 4 10 30] [7,8,9,10]<|Rq [Cu 31 1,Ac 32 10 3,Ab 33 32,Bb 34 1 31 33,Ac 35 10 3,Bi 1 35 34] [7,8,9,10]<|Re [Ba 36 7,Ae 37 10 4,Be 38 4 37,Bb 39 4 36 38,Ba 7 39] [7,8,9])<|Re [Aa 25 9,Ap 26 25 1,Aa 9 26] [7,8,9])<|Rq [Aa 40 7,Ba 4 40,Ad 5 0] [4,5]<|.ret) [.tmp 4,.tmp 5]:= by decide +kernel
theorem c117 (t:Types) (a:Int) (r:(List Attr × Int)) (h:ref04_Attrs t a=some r):Sound prog 117 [eTypes t,eI a] (.tp [lA r.1,eI r.2]):= by
 refine Fn ck117 fun hw=>?_
 unfold ref04_Attrs at h
 refine D<|F<|a3 rfl rfl<|f0<|C rfl<|E (kt<|kt<|kn) fun _=>?_
 refine D<|D<|F<|R rfl rfl (show _=eTypes t from rfl)<|C rfl<|C rfl ?_
 obtain ⟨x14,hx14,h⟩:=I h
 refine S rfl (c118 t a a _ hx14)<|C rfl<|E (kt<|kt<|kt<|kn) fun _=>?_
 refine D<|F<|C rfl<|b1 rfl rfl<|E (kt<|kt<|kt<|kt<|kn) fun _=>?_
 refine T rfl (fun hc16=>?_) (fun hc16=>?_)
 ·replace h:=M hc16 h
  refine D<|F<|C rfl<|f0<|C rfl<|E (ko<|kt<|kn) fun _=>?_
  refine L ?_
  cases h
  exact ⟨by decide,rfl⟩
 ·replace h:=O hc16 h
  refine P (kt<|kt<|kn) fun _=>?_
  refine D<|F<|f0<|E (kt<|kt<|ko<|kn) fun _=>?_
  refine D<|F<|R rfl rfl (show _=eTypes t from rfl)<|C rfl ?_
  obtain ⟨x20,hx20,h⟩:=I h
  refine g3 rfl (c168 t a _ hx20)<|e9 rfl<|E (ko<|ko<|kn) fun _=>?_
  refine D<|D<|F<|C rfl<|E (ko<|ko<|kt<|kn) fun _=>?_
  obtain ⟨s0,hs0,h⟩:=I h
  refine f3 hs0 (fun (i0:Int) (s0:List Attr)=>[(7,.ow (lA s0)),(8,.ow (lA x20)),(9,.tv (eI i0))]) (fun (s0:List Attr)=>[(7,.ow (lA s0))]) rfl ?_ ?_ ?_
  ·clear h hs0
   intro i0 s0 r0 hi0 h hw0
   refine D<|D<|F<|C rfl<|C rfl<|U rfl rfl<|V rfl rfl<|E (ko<|ko<|kt<|kt<|kn) fun _=>?_
   refine b7 rfl (b8 hi0)<|P (ko<|ko<|kt<|kn) fun _=>?_
   refine D<|b0<|D<|F<|C rfl<|C rfl ?_
   obtain ⟨x29,hx29,h⟩:=I h
   refine Z rfl rfl rfl hx29 rfl<|R rfl rfl (show _=eAttr x29 from rfl)<|a9 rfl<|a7 rfl rfl rfl rfl rfl<|E (ko<|ko<|kt<|kb<|kn) fun _=>?_
   refine D<|F<|d7 (e:=eS) (l:=[]) rfl rfl (fun _=>rfl)<|a4 rfl<|J rfl ?_
   obtain ⟨x34,hx34,h⟩:=I h
   refine e4 rfl rfl rfl rfl hx34 rfl<|a4 rfl<|f4 rfl rfl rfl (by decide) rfl rfl<|E (ko<|ko<|kt<|kb<|kn) fun _=>?_
   refine F<|e9 rfl<|R rfl rfl (show _=eAttr (Attr.mk x29.Name x29.Low x29.High x34) from rfl)<|d7 (e:=eAttr) (l:=[Attr.mk x29.Name x29.Low x29.High x34]) rfl rfl (fun _=>rfl) ?_
   obtain ⟨x39,hx39,h⟩:=I h
   refine e4 rfl rfl rfl rfl hx39 rfl<|e9 rfl<|E (ko<|ko<|kt<|kn) fun _=>?_
   refine F<|C rfl<|a6 rfl rfl<|C rfl<|E (ko<|ko<|kt<|kn) ?_
   cases h
   show Env.keep _ _=_
   rw [Kow rfl (Kow rfl (Ktv rfl (Knil _)))]
   rw [b4 (a5 (hw0 9)) hi0 (f8 (m2 (hw0 8)) rfl)]
   all_goals rfl
  ·intro i0 s0 hi0
   refine D<|D<|F<|C rfl<|C rfl<|U rfl rfl<|V rfl rfl<|E (ko<|ko<|kt<|kt<|kn) fun _=>?_
   refine b9 rfl (d0 hi0)<|b3 (ko<|kn) ?_
   exact ⟨rfl,rfl⟩
  ·intro _
   refine D<|F<|C rfl<|g2 rfl<|C rfl<|E (kt<|kt<|kn) fun _=>?_
   refine L ?_
   cases h
   exact ⟨by decide,rfl⟩
theorem ck66:CK f66 (Rq [Af 2 0,Af 3 1,Fk 4 1 3 1] [2,3,4]<|Rq [Fk 5 1 3 1] [2,3,4,5]<|Rq [Ae 16 2 2,At 17 116 16,Ba 6 17] [2,3,4,5,6]<|Sq (Rq [Ad 7 0] [2,3,4,5,6,7]<|Bl 0<|Lo [2,3,4,5,6,7]<|Sq (Rq [Aa 18 7,Ac 19 3 0,Ab 20 19,Ah 21 20,Aq 22 18 21,Aa 23 22,Am 24 7 23,Dz 25 24 8 23,An 26 23 25,Aa 27 26,Am 28 6 27,Ca 29 28 27,Ea 30 29 0 27,An 31 27 30] [2,3,4,5,6,7,31]<|Co 31 (Sk [2,3,4,5,6,7])<|Ex 0 [2,3,4,5])<|Sq (Bl 1<|Rq [Aa 34 6,Ac 35 3 0,Ab 36 35,Aa 37 7,Ag 38 36 37 2,Cw 39 38 0 1 2,Ab 40 39,Cn 41 40,Aa 42 6,Ah 43 42,Cp 44 41 43,Ag 45 34 44 1,Ab 46 45,Aa 8 46] [2,3,4,5,6,7,8]<|Rq [Ae 48 2 2,Aa 49 8,Al 50 117 48 49,Aa 47 50,Ao 51 47 0,Ao 52 47 1,Ba 9 51,Aa 10 52] [2,3,4,5,6,7,8,9]<|Rq [Cu 53 1,Ba 11 53] [2,3,4,5,6,7,8,9,11]<|Sq (Rq [Ad 12 0] [2,3,4,5,6,7,8,9,11,12]<|Bl 2<|Lo [2,3,4,5,6,7,8,9,11,12]<|Sq (Rq [Aa 54 12,Aa 55 9,Ah 56 55,Aq 57 54 56] [2,3,4,5,6,7,8,9,11,12,57]<|Co 57 (Sk [2,3,4,5,6,7,8,9,11,12])<|Ex 2 [2,3,4,5,6,7,8,11])<|Sq (Bl 3<|Dr [11,60,61,62,63,64,65,66,67,68,69,70,71,72,73,74,75,76,77,78,79,80,81,82,83,84,85,86,87,88,89,90,91] [Ba 60 11,Aa 61 9,Aa 62 12,Ag 63 61 62 4,Aj 64 63 1,Ab 65 64,Ac 66 3 0,Ab 67 66,Aa 68 7,Ag 69 67 68 2,Cw 70 69 1 1 2,Ab 71 70,Cn 72 71,Aa 73 12,⟨some 74,.bin (.i) .mul (.c (.int .i64 7)) (.s 73),none⟩,Bo 75 72 74,Aa 76 9,Aa 77 12,Ag 78 76 77 4,Aj 79 78 2,Ab 80 79,Aa 81 9,Aa 82 12,Ag 83 81 82 4,Aj 84 83 1,Ab 85 84,Eg 86 80 85,Ap 87 86 1,Cp 88 75 87,Bo 89 65 88,Be 90 1 89,Bb 91 1 60 90,Ba 11 91] [2,3,4,5,6,7,8,9,11,12])<|Re [Aa 58 12,Ap 59 58 1,Aa 12 59] [2,3,4,5,6,7,8,9,11,12])<|Dr [92,93,94,95,96,97,98,99,100,101,102,103,104,105] [Ac 92 5 0,Aj 93 92 0,Bm 94 93,Aa 95 8,Be 96 1 95,Bb 97 1 94 96,Ac 98 5 2,Bm 99 98,Aa 100 11,Be 101 1 100,Bb 102 1 99 101,Ac 103 5 0,Aj 104 103 0,Bi 1 104 97,Ac 105 5 2,Bi 1 105 102] [2,3,4,5,6,7])<|Re [Aa 32 7,Ap 33 32 1,Aa 7 33] [2,3,4,5,6,7])<|Rq [Ac 106 5 0,Aj 107 106 0,Ab 108 107,Ah 109 108,Aa 13 109] [2,3,4,5,13]<|Sq (Rq [Ad 14 0] [2,3,4,5,13,14]<|Bl 4<|Lo [2,3,4,5,13,14]<|Sq (Rq [Aa 110 14,Ac 111 3 1,Ab 112 111,Ah 113 112,Aq 114 110 113,Aa 115 114,Am 116 14 115,Dz 117 116 10 115,An 118 115 117,Aa 119 118,Am 120 13 119,Ea 121 120 0 119,An 122 119 121,Aa 123 122,Aw 124 2 1 123,Av 125 124 123,Ca 126 125 123,Ea 127 126 0 123,An 128 123 127] [2,3,4,5,13,14,128]<|Co 128 (Sk [2,3,4,5,13,14])<|Ex 4 [4,5])<|Sq (Bl 5<|Sq (Dr [15,131,132,133,134,135,136,137,138,139,140,141,142,143,144,145,146,147,148,149,150,151,152,153,154,155,156,157,158,159,160] [Ac 131 3 1,Ab 132 131,Aa 133 14,Ag 134 132 133 3,Cw 135 134 0 1 3,Ab 136 135,Cn 137 136,Ac 138 2 1,Ab 139 138,Ah 140 139,Cp 141 137 140,Ac 142 3 1,Ab 143 142,Aa 144 14,Ag 145 143 144 3,Cw 146 145 1 1 3,Ab 147 146,Cn 148 147,Aa 149 13,Cp 150 148 149,Ac 151 3 1,Ab 152 151,Aa 153 14,Ag 154 152 153 3,Cw 155 154 2 1 3,Ab 156 155,Cn 157 156,Aa 158 13,Cp 159 157 158,Dw 160 0 0 0 0 1 141 1 1 150 2 1 159,Cl 15 0 0 0,Ai 3 15 160] [2,3,4,5,13,14,15])<|Sq (Dr [161,162,163,164,165,166,167,168,169,170,171,172,173,174,175,176,177,178] [Ae 161 2 2,Ac 162 15 0,Ab 163 162,Ac 164 5 0,Aj 165 164 0,Ab 166 165,Ac 167 15 1,Ab 168 167,Ag 169 166 168 1,Ab 170 169,Ac 171 5 0,Aj 172 171 0,Ab 173 172,Ac 174 15 2,Ab 175 174,Ag 176 173 175 1,Ab 177 176,Ce 178 68 161 163 170 177] [2,3,4,5,13,14,15,178])<|Co 178 (Re [Ac 179 5 0,Aj 180 179 1,Bm 181 180,Ae 182 15 3,Be 183 3 182,Bb 184 3 181 183,Ac 185 5 0,Aj 186 185 1,Bi 1 186 184] [2,3,4,5,13,14])<|Sk [2,3,4,5,13,14])<|Re [Aa 129 14,Ap 130 129 1,Aa 14 130] [2,3,4,5,13,14])<|Rq [Ae 187 5 3,Ai 3 4 187] [4]<|.ret) [.cell 4 (some 3)]:= by decide +kernel
theorem c66 (t:Types) (d:ref15_Draft) (r:Host) (h:ref15_Made t d=some r):Sound prog 66 [eTypes t,eref15_Draft d] (.sh (eHost r)):= by
 refine Fn ck66 fun hw=>?_
 unfold ref15_Made at h
 refine D<|F<|a3 rfl rfl<|a3 rfl rfl<|a9 rfl<|E (kt<|kt<|kb<|kn) fun _=>?_
 refine D<|F<|a9 rfl<|E (kt<|kt<|kb<|kb<|kn) fun _=>?_
 refine D<|F<|R rfl rfl (show _=eTypes t from rfl) ?_
 obtain ⟨x17,hx17,h⟩:=I h
 refine S rfl (c116 t _ hx17)<|g2 rfl<|E (kt<|kt<|kb<|kb<|kt<|kn) fun _=>?_
 refine D<|D<|F<|C rfl<|E (kt<|kt<|kb<|kb<|kt<|kt<|kn) fun _=>?_
 obtain ⟨o0,ho0,h⟩:=d4 h
 refine g9 ho0 (fun (s0:Host × Int)=>[(2,.tv (.pt (eTypes t).cells)),(3,.tv (.pt (eref15_Draft d).cells)),(4,.bx [⟨true,lI []⟩,⟨true,lE []⟩,⟨true,(eL 1 lI) []⟩]),(5,.bx [⟨true,lI s0.1.Graph.Nodes⟩,⟨true,lE s0.1.Graph.Edges⟩,⟨true,(eL 1 lI) s0.1.Values⟩]),(6,.tv (lI x17)),(7,.tv (eI s0.2))]) (fun (s0:Host × Int)=>[(2,.tv (.pt (eTypes t).cells)),(3,.tv (.pt (eref15_Draft d).cells)),(4,.bx [⟨true,lI []⟩,⟨true,lE []⟩,⟨true,(eL 1 lI) []⟩]),(5,.bx [⟨true,lI s0.1.Graph.Nodes⟩,⟨true,lE s0.1.Graph.Edges⟩,⟨true,(eL 1 lI) s0.1.Values⟩])]) (fun zv ze=>resIs ([.cell 4 (some 3)]) (.sh (eHost zv)) ze) rfl ?_ ?_ ?_
 ·clear h ho0
  intro s0 r0 h hw0
  refine D<|D<|F<|C rfl<|K rfl<|J rfl<|U rfl rfl<|V rfl rfl<|C rfl ?_
  refine gA 3 [24,25] 26 (decide (s0.2<(d.Nodes.length:Int))) (decide (s0.2<8)) (fun hg26=>?_) (fun hg26=>?_) ?_
  ·refine G rfl hg26<|C rfl<|G rfl hg26<|V rfl rfl<|X rfl hg26 rfl ?_
   exact ⟨⟨_,_,rfl⟩⟩
  ·refine H rfl hg26<|H rfl hg26<|Y rfl hg26 rfl ?_
   exact ⟨⟨_,_,rfl⟩⟩
  rintro _ ⟨_,_,rfl⟩
  refine C rfl ?_
  refine gA 4 [28,29,30] 31 ((decide (s0.2<(d.Nodes.length:Int)))&&(decide (s0.2<8))) (decide (0<(x17.length:Int))) (fun hg31=>?_) (fun hg31=>?_) ?_
  ·refine G rfl hg31<|C rfl<|G rfl hg31<|U rfl rfl<|G rfl hg31<|e7 rfl rfl<|X rfl hg31 rfl ?_
   exact ⟨⟨_,_,_,rfl⟩⟩
  ·refine H rfl hg31<|H rfl hg31<|H rfl hg31<|Y rfl hg31 rfl ?_
   exact ⟨⟨_,_,_,rfl⟩⟩
  rintro _ ⟨_,_,_,rfl⟩
  refine E (kt<|kt<|kb<|kb<|kt<|kt<|kt<|kn) fun _=>?_
  refine T rfl (fun hc31=>?_) (fun hc31=>?_)
  ·replace h:=M hc31 h
   refine P (kt<|kt<|kb<|kb<|kt<|kt<|kn) fun _=>?_
   refine D<|b0<|D<|F<|C rfl<|K rfl<|J rfl<|C rfl ?_
   obtain ⟨x38,hx38,h⟩:=I h
   refine Z rfl rfl rfl hx38 rfl<|l5 (j':=0) rfl rfl (by decide) (by decide) (Nat.le_of_ble_eq_true rfl) rfl<|J rfl<|l2 rfl<|C rfl<|U rfl rfl ?_
   obtain ⟨x44,hx44,h⟩:=I h
   refine l3 rfl rfl hx44 ?_
   obtain ⟨x45,hx45,h⟩:=I h
   refine Z rfl rfl rfl hx45 rfl<|J rfl<|C rfl<|E (kt<|kt<|kb<|kb<|kt<|kt<|kt<|kn) fun _=>?_
   refine D<|F<|R rfl rfl (show _=eTypes t from rfl)<|C rfl ?_
   obtain ⟨x50,hx50,h⟩:=I h
   refine e5 rfl (c117 t x45 _ hx50)<|e8 rfl<|b2 rfl rfl<|b2 rfl rfl<|g2 rfl<|C rfl<|E (kt<|kt<|kb<|kb<|kt<|kt<|kt<|kt<|kn) fun _=>?_
   refine D<|F<|d7 (e:=eI) (l:=[]) rfl rfl (fun _=>rfl)<|e9 rfl<|E (kt<|kt<|kb<|kb<|kt<|kt<|kt<|kt<|ko<|kn) fun _=>?_
   refine D<|D<|F<|C rfl<|E (kt<|kt<|kb<|kb<|kt<|kt<|kt<|kt<|ko<|kt<|kn) fun _=>?_
   obtain ⟨s2,hs2,h⟩:=I h
   refine f3 hs2 (fun (i2:Int) (s2:List Int)=>[(2,.tv (.pt (eTypes t).cells)),(3,.tv (.pt (eref15_Draft d).cells)),(4,.bx [⟨true,lI []⟩,⟨true,lE []⟩,⟨true,(eL 1 lI) []⟩]),(5,.bx [⟨true,lI s0.1.Graph.Nodes⟩,⟨true,lE s0.1.Graph.Edges⟩,⟨true,(eL 1 lI) s0.1.Values⟩]),(6,.tv (lI x17)),(7,.tv (eI s0.2)),(8,.tv (eI x45)),(9,.tv (lA x50.1)),(11,.ow (lI s2)),(12,.tv (eI i2))]) (fun (s2:List Int)=>[(2,.tv (.pt (eTypes t).cells)),(3,.tv (.pt (eref15_Draft d).cells)),(4,.bx [⟨true,lI []⟩,⟨true,lE []⟩,⟨true,(eL 1 lI) []⟩]),(5,.bx [⟨true,lI s0.1.Graph.Nodes⟩,⟨true,lE s0.1.Graph.Edges⟩,⟨true,(eL 1 lI) s0.1.Values⟩]),(6,.tv (lI x17)),(7,.tv (eI s0.2)),(8,.tv (eI x45)),(11,.ow (lI s2))]) rfl ?_ ?_ ?_
   ·clear h hs2
    intro i2 s2 r2 hi2 h hw2
    refine D<|D<|F<|C rfl<|C rfl<|U rfl rfl<|V rfl rfl<|E (kt<|kt<|kb<|kb<|kt<|kt<|kt<|kt<|ko<|kt<|kt<|kn) fun _=>?_
    refine b7 rfl (b8 hi2)<|P (kt<|kt<|kb<|kb<|kt<|kt<|kt<|kt<|ko<|kt<|kn) fun _=>?_
    refine D<|b0<|d1 rfl<|e9 rfl<|C rfl<|C rfl ?_
    obtain ⟨x63,hx63,h⟩:=I h
    refine Z rfl rfl rfl hx63 rfl<|a8 rfl<|J rfl<|K rfl<|J rfl<|C rfl ?_
    obtain ⟨x69,hx69,h⟩:=I h
    refine Z rfl rfl rfl hx69 rfl<|l5 (j':=1) rfl rfl (by decide) (by decide) (Nat.le_of_ble_eq_true rfl) rfl<|J rfl<|l2 rfl<|C rfl<|q6 rfl rfl<|a6 rfl rfl<|C rfl<|C rfl ?_
    obtain ⟨x78,hx78,h⟩:=I h
    refine Z rfl rfl rfl hx78 rfl<|a8 rfl<|J rfl<|C rfl<|C rfl ?_
    obtain ⟨x83,hx83,h⟩:=I h
    refine Z rfl rfl rfl hx83 rfl<|a8 rfl<|J rfl<|f6 rfl rfl<|a6 rfl rfl ?_
    obtain ⟨x88,hx88,h⟩:=I h
    refine l3 rfl rfl hx88<|a6 rfl rfl<|d7 (e:=eI) (l:=[w64 (x63.Low+x88)]) rfl rfl (fun _=>rfl) ?_
    obtain ⟨x91,hx91,h⟩:=I h
    refine e4 rfl rfl rfl rfl hx91 rfl<|e9 rfl<|E (kt<|kt<|kb<|kb<|kt<|kt<|kt<|kt<|ko<|kt<|kn) fun _=>?_
    refine F<|C rfl<|a6 rfl rfl<|C rfl<|E (kt<|kt<|kb<|kb<|kt<|kt<|kt<|kt<|ko<|kt<|kn) ?_
    cases h
    show Env.keep _ _=_
    rw [Ktv rfl (Ktv rfl (Kbx rfl (Kbx rfl (Ktv rfl (Ktv rfl (Ktv rfl (Ktv rfl (Kow rfl (Ktv rfl (Knil _))))))))))]
    rw [b4 (a5 (hw2 12)) hi2 (f8 (a5 (hw2 9)) rfl)]
    all_goals rfl
   ·intro i2 s2 hi2
    refine D<|D<|F<|C rfl<|C rfl<|U rfl rfl<|V rfl rfl<|E (kt<|kt<|kb<|kb<|kt<|kt<|kt<|kt<|ko<|kt<|kt<|kn) fun _=>?_
    refine b9 rfl (d0 hi2)<|b3 (kt<|kt<|kb<|kb<|kt<|kt<|kt<|ko<|kn) ?_
    exact ⟨rfl,rfl⟩
   ·intro _
    refine d1 rfl<|a4 rfl<|f2 rfl rfl<|f5 rfl rfl rfl rfl<|C rfl<|d7 (e:=eI) (l:=[x45]) rfl rfl (fun _=>rfl) ?_
    obtain ⟨x97,hx97,h⟩:=I h
    refine e4 rfl rfl rfl rfl hx97 rfl<|a4 rfl<|f5 rfl rfl rfl rfl<|C rfl<|d7 (e:=lI) (l:=[s2]) rfl rfl (fun _=>rfl) ?_
    obtain ⟨x102,hx102,h⟩:=I h
    refine e4 rfl rfl rfl rfl hx102 rfl<|a4 rfl<|f2 rfl rfl<|f4 rfl rfl rfl (by decide) rfl rfl<|a4 rfl<|f4 rfl rfl rfl (by decide) rfl rfl<|E (kt<|kt<|kb<|kb<|kt<|kt<|kn) fun _=>?_
    refine F<|C rfl<|a6 rfl rfl<|C rfl<|E (kt<|kt<|kb<|kb<|kt<|kt<|kn) ?_
    cases h
    refine ⟨_,rfl,?_⟩
    rw [Ktv rfl (Ktv rfl (Kbx rfl (Kbx rfl (Ktv rfl (Ktv rfl (Knil _))))))]
    all_goals rfl
  ·replace h:=O hc31 h
   refine b3 (kt<|kt<|kb<|kb<|kn) ?_
   refine ⟨rfl,?_⟩
   cases h
   exact ⟨_,rfl,rfl⟩
 ·intro s0 hs
  replace h:=d5 h hs
  intro _
  refine D<|F<|a4 rfl<|f2 rfl rfl<|J rfl<|U rfl rfl<|C rfl<|E (kt<|kt<|kb<|kb<|kt<|kn) fun _=>?_
  refine D<|D<|F<|C rfl<|E (kt<|kt<|kb<|kb<|kt<|kt<|kn) fun _=>?_
  obtain ⟨o4,ho4,h⟩:=d4 h
  refine g9 ho4 (fun (s4:Host × Int)=>[(2,.tv (.pt (eTypes t).cells)),(3,.tv (.pt (eref15_Draft d).cells)),(4,.bx [⟨true,lI []⟩,⟨true,lE []⟩,⟨true,(eL 1 lI) []⟩]),(5,.bx [⟨true,lI s4.1.Graph.Nodes⟩,⟨true,lE s4.1.Graph.Edges⟩,⟨true,(eL 1 lI) s4.1.Values⟩]),(13,.tv (eI (s0.1.Graph.Nodes.length:Int))),(14,.tv (eI s4.2))]) (fun (s4:Host × Int)=>[(4,.bx [⟨true,lI []⟩,⟨true,lE []⟩,⟨true,(eL 1 lI) []⟩]),(5,.bx [⟨true,lI s4.1.Graph.Nodes⟩,⟨true,lE s4.1.Graph.Edges⟩,⟨true,(eL 1 lI) s4.1.Values⟩])]) (fun zv ze=>resIs ([.cell 4 (some 3)]) (.sh (eHost zv)) ze) rfl ?_ ?_ ?_
  ·clear h ho4
   intro s4 r4 h hw4
   refine D<|D<|F<|C rfl<|K rfl<|J rfl<|U rfl rfl<|V rfl rfl<|C rfl ?_
   refine gA 3 [116,117] 118 (decide (s4.2<(d.Edges.length:Int))) (decide (s4.2<10)) (fun hg118=>?_) (fun hg118=>?_) ?_
   ·refine G rfl hg118<|C rfl<|G rfl hg118<|V rfl rfl<|X rfl hg118 rfl ?_
    exact ⟨⟨_,_,rfl⟩⟩
   ·refine H rfl hg118<|H rfl hg118<|Y rfl hg118 rfl ?_
    exact ⟨⟨_,_,rfl⟩⟩
   rintro _ ⟨_,_,rfl⟩
   refine C rfl ?_
   refine gA 3 [120,121] 122 ((decide (s4.2<(d.Edges.length:Int)))&&(decide (s4.2<10))) (decide (0<(s0.1.Graph.Nodes.length:Int))) (fun hg122=>?_) (fun hg122=>?_) ?_
   ·refine G rfl hg122<|C rfl<|G rfl hg122<|e7 rfl rfl<|X rfl hg122 rfl ?_
    exact ⟨⟨_,_,rfl⟩⟩
   ·refine H rfl hg122<|H rfl hg122<|Y rfl hg122 rfl ?_
    exact ⟨⟨_,_,rfl⟩⟩
   rintro _ ⟨_,_,rfl⟩
   refine C rfl ?_
   refine gA 5 [124,125,126,127] 128 (((decide (s4.2<(d.Edges.length:Int)))&&(decide (s4.2<10)))&&(decide (0<(s0.1.Graph.Nodes.length:Int)))) (decide (0<(t.Edges.length:Int))) (fun hg128=>?_) (fun hg128=>?_) ?_
   ·refine G rfl hg128<|K rfl<|G rfl hg128<|J rfl<|G rfl hg128<|U rfl rfl<|G rfl hg128<|e7 rfl rfl<|X rfl hg128 rfl ?_
    exact ⟨⟨_,_,_,_,rfl⟩⟩
   ·refine H rfl hg128<|H rfl hg128<|H rfl hg128<|H rfl hg128<|Y rfl hg128 rfl ?_
    exact ⟨⟨_,_,_,_,rfl⟩⟩
   rintro _ ⟨_,_,_,_,rfl⟩
   refine E (kt<|kt<|kb<|kb<|kt<|kt<|kt<|kn) fun _=>?_
   refine T rfl (fun hc128=>?_) (fun hc128=>?_)
   ·replace h:=M hc128 h
    refine P (kt<|kt<|kb<|kb<|kt<|kt<|kn) fun _=>?_
    refine D<|b0<|D<|d1 rfl<|K rfl<|J rfl<|C rfl ?_
    obtain ⟨x134,hx134,h⟩:=I h
    refine Z rfl rfl rfl hx134 rfl<|l5 (j':=0) rfl rfl (by decide) (by decide) (Nat.le_of_ble_eq_true rfl) rfl<|J rfl<|l2 rfl<|K rfl<|J rfl<|U rfl rfl ?_
    obtain ⟨x141,hx141,h⟩:=I h
    refine l3 rfl rfl hx141<|K rfl<|J rfl<|C rfl ?_
    obtain ⟨x145,hx145,h⟩:=I h
    refine Z rfl rfl rfl hx145 rfl<|l5 (j':=1) rfl rfl (by decide) (by decide) (Nat.le_of_ble_eq_true rfl) rfl<|J rfl<|l2 rfl<|C rfl ?_
    obtain ⟨x150,hx150,h⟩:=I h
    refine l3 rfl rfl hx150<|K rfl<|J rfl<|C rfl ?_
    obtain ⟨x154,hx154,h⟩:=I h
    refine Z rfl rfl rfl hx154 rfl<|l5 (j':=2) rfl rfl (by decide) (by decide) (Nat.le_of_ble_eq_true rfl) rfl<|J rfl<|l2 rfl<|C rfl ?_
    obtain ⟨x159,hx159,h⟩:=I h
    refine l3 rfl rfl hx159<|g1 rfl rfl rfl (show _=eEdge (Edge.mk x141 x150 x159) from rfl)<|a9 rfl<|a7 rfl rfl rfl rfl rfl<|E (kt<|kt<|kb<|kb<|kt<|kt<|kb<|kn) fun _=>?_
    refine D<|d1 rfl<|R rfl rfl (show _=eTypes t from rfl)<|a4 rfl<|J rfl<|a4 rfl<|f2 rfl rfl<|J rfl<|a4 rfl<|J rfl ?_
    obtain ⟨x169,hx169,h⟩:=I h
    refine Z rfl rfl rfl hx169 rfl<|J rfl<|a4 rfl<|f2 rfl rfl<|J rfl<|a4 rfl<|J rfl ?_
    obtain ⟨x176,hx176,h⟩:=I h
    refine Z rfl rfl rfl hx176 rfl<|J rfl ?_
    obtain ⟨x178,hx178,h⟩:=I h
    refine S rfl (c68 t x141 x169 x176 _ hx178)<|E (kt<|kt<|kb<|kb<|kt<|kt<|kb<|kt<|kn) fun _=>?_
    refine T rfl (fun hc178=>?_) (fun hc178=>?_)
    ·replace h:=M hc178 h
     refine F<|a4 rfl<|f2 rfl rfl<|f5 rfl rfl rfl rfl<|R rfl rfl (show _=eEdge (Edge.mk x141 x150 x159) from rfl)<|d7 (e:=eEdge) (l:=[Edge.mk x141 x150 x159]) rfl rfl (fun _=>rfl) ?_
     obtain ⟨x184,hx184,h⟩:=I h
     refine e4 rfl rfl rfl rfl hx184 rfl<|a4 rfl<|f2 rfl rfl<|f4 rfl rfl rfl (by decide) rfl rfl<|E (kt<|kt<|kb<|kb<|kt<|kt<|kn) fun _=>?_
     refine F<|C rfl<|a6 rfl rfl<|C rfl<|E (kt<|kt<|kb<|kb<|kt<|kt<|kn) ?_
     cases h
     refine ⟨_,rfl,?_⟩
     rw [Ktv rfl (Ktv rfl (Kbx rfl (Kbx rfl (Ktv rfl (Ktv rfl (Knil _))))))]
     all_goals rfl
    ·replace h:=O hc178 h
     refine P (kt<|kt<|kb<|kb<|kt<|kt<|kn) fun _=>?_
     refine F<|C rfl<|a6 rfl rfl<|C rfl<|E (kt<|kt<|kb<|kb<|kt<|kt<|kn) ?_
     cases h
     refine ⟨_,rfl,?_⟩
     rw [Ktv rfl (Ktv rfl (Kbx rfl (Kbx rfl (Ktv rfl (Ktv rfl (Knil _))))))]
     all_goals rfl
   ·replace h:=O hc128 h
    refine b3 (kb<|kb<|kn) ?_
    refine ⟨rfl,?_⟩
    cases h
    exact ⟨_,rfl,rfl⟩
  ·intro s4 hs
   replace h:=d5 h hs
   intro _
   refine D<|F<|R rfl rfl (show _=eHost s4.1 from rfl)<|a7 rfl rfl rfl rfl rfl<|E (kb<|kn) fun _=>?_
   exact L (by cases h;rfl)
  ·intro v4 ze hv hR
   replace h:=d6 h hv
   cases h
   exact hR
 ·intro v0 ze hv hR
  replace h:=d6 h hv
  cases h
  exact hR
theorem ck67:CK f67 (Rq [Af 1 0,Bc 2 1 3] [1,2]<|Sq (Dr [2,3,4,5,6,7,8,9,10,11] [Cu 3 1,Ac 4 1 0,Ab 5 4,Bb 6 1 3 5,Cu 7 3,Ac 8 1 1,Ab 9 8,Bb 10 3 7 9,⟨some 11,.bldo [6,10],none⟩,Dx 2 2 11] [2])<|.ret) [.cell 2 (some 2)]:= by decide +kernel
theorem c67 (g:Graph) (r:Graph) (h:ref05_Copied g=some r):Sound prog 67 [eGraph g] (.oag [⟨true,lI r.Nodes⟩,⟨true,lE r.Edges⟩]):= by
 refine Fn ck67 fun hw=>?_
 unfold ref05_Copied at h
 refine D<|F<|a3 rfl rfl<|a9 rfl<|E (kt<|kb<|kn) fun _=>?_
 refine D<|d1 rfl<|d7 (e:=eI) (l:=[]) rfl rfl (fun _=>rfl)<|K rfl<|J rfl ?_
 obtain ⟨x6,hx6,h⟩:=I h
 refine e4 rfl rfl rfl rfl hx6 rfl<|d7 (e:=eEdge) (l:=[]) rfl rfl (fun _=>rfl)<|K rfl<|J rfl ?_
 obtain ⟨x10,hx10,h⟩:=I h
 refine e4 rfl rfl rfl rfl hx10 rfl<|p1 (by decide) (by decide) rfl rfl rfl<|m4 rfl rfl (by decide) rfl rfl rfl<|E (kb<|kn) fun _=>?_
 exact L (by cases h;exact ⟨rfl,rfl⟩)
theorem ck169:CK f169 (Rq [Bf 4 1] [0,1]<|Rq [Bf 5 1] [0,1,5]<|Sq (Rq [Ad 6 0] [0,1,5,6]<|Bl 0<|Lo [0,1,5,6]<|Sq (Rq [Aa 7 6,Aa 8 1,Aq 9 7 8] [0,1,5,6,9]<|Co 9 (Sk [0,1,5,6])<|Ex 0 [5])<|Sq (Bl 1<|Re [Ba 12 5,Aa 13 0,Aa 14 6,Bo 15 13 14,Be 16 1 15,Bb 17 1 12 16,Ba 5 17] [0,1,5,6])<|Re [Aa 10 6,Ap 11 10 1,Aa 6 11] [0,1,5,6])<|Rq [Aa 18 5,Ba 4 18] [4]<|.ret) [.tmp 4]:= by decide +kernel
theorem c169 (from':Int) (count:Int) (r:(List Int)) (h:ref05_Numbers from' count=some r):Sound prog 169 [eI from',eI count] (.sh (lI r)):= by
 refine Fn ck169 fun hw=>?_
 unfold ref05_Numbers at h
 refine D<|F<|f0<|E (kt<|kt<|kn) fun _=>?_
 refine D<|F<|f0<|E (kt<|kt<|ko<|kn) fun _=>?_
 refine D<|D<|F<|C rfl<|E (kt<|kt<|ko<|kt<|kn) fun _=>?_
 obtain ⟨s0,hs0,h⟩:=I h
 refine f3 hs0 (fun (i0:Int) (s0:List Int)=>[(0,.tv (eI from')),(1,.tv (eI count)),(5,.ow (lI s0)),(6,.tv (eI i0))]) (fun (s0:List Int)=>[(5,.ow (lI s0))]) rfl ?_ ?_ ?_
 ·clear h hs0
  intro i0 s0 r0 hi0 h hw0
  refine D<|D<|F<|C rfl<|C rfl<|V rfl rfl<|E (kt<|kt<|ko<|kt<|kt<|kn) fun _=>?_
  refine b7 rfl (b8 hi0)<|P (kt<|kt<|ko<|kt<|kn) fun _=>?_
  refine D<|b0<|F<|e9 rfl<|C rfl<|C rfl<|a6 rfl rfl<|d7 (e:=eI) (l:=[w64 (from'+i0)]) rfl rfl (fun _=>rfl) ?_
  obtain ⟨x17,hx17,h⟩:=I h
  refine e4 rfl rfl rfl rfl hx17 rfl<|e9 rfl<|E (kt<|kt<|ko<|kt<|kn) fun _=>?_
  refine F<|C rfl<|a6 rfl rfl<|C rfl<|E (kt<|kt<|ko<|kt<|kn) ?_
  cases h
  show Env.keep _ _=_
  rw [Ktv rfl (Ktv rfl (Kow rfl (Ktv rfl (Knil _))))]
  rw [b4 (a5 (hw0 6)) hi0 (d3 (a5 (hw0 1)))]
  all_goals rfl
 ·intro i0 s0 hi0
  refine D<|D<|F<|C rfl<|C rfl<|V rfl rfl<|E (kt<|kt<|ko<|kt<|kt<|kn) fun _=>?_
  refine b9 rfl (d0 hi0)<|b3 (ko<|kn) ?_
  exact ⟨rfl,rfl⟩
 ·intro _
  refine D<|F<|C rfl<|g2 rfl<|E (kt<|kn) fun _=>?_
  exact L (by cases h;rfl)
theorem ck121:CK f121 (Rq [Af 1 0,Bc 2 1 1] [1,2]<|Sq (Dr [2,3,4,5,6,7,8,9,10,11] [Ac 3 1 0,Ab 4 3,Ah 5 4,⟨some 6,.call 169 [.c (.int .i64 0),.s 5],none⟩,Ac 7 1 1,Ab 8 7,Ah 9 8,⟨some 10,.call 169 [.c (.int .i64 0),.s 9],none⟩,Cd 11 1 1 0 1 6 1 1 10,Ai 2 2 11] [2])<|.ret) [.cell 2 (some 2)]:= by decide +kernel
theorem c121 (g:Graph) (r:Part) (h:ref53_whole g=some r):Sound prog 121 [eGraph g] (.sh (ePart r)):= by
 refine Fn ck121 fun hw=>?_
 unfold ref53_whole at h
 refine D<|F<|a3 rfl rfl<|a9 rfl<|E (kt<|kb<|kn) fun _=>?_
 refine D<|d1 rfl<|K rfl<|J rfl<|U rfl rfl ?_
 obtain ⟨x6,hx6,h⟩:=I h
 refine S rfl (c169 0 (g.Nodes.length:Int) _ hx6)<|K rfl<|J rfl<|U rfl rfl ?_
 obtain ⟨x10,hx10,h⟩:=I h
 refine S rfl (c169 0 (g.Edges.length:Int) _ hx10)<|g1 rfl rfl rfl (show _=ePart (Part.mk x6 x10) from rfl)<|a7 rfl rfl rfl rfl rfl<|E (kb<|kn) fun _=>?_
 exact L (by cases h;rfl)
theorem ck69:CK f69 (Rq [Af 4 0,Af 5 1,Af 6 2,Af 7 3,Br 8 1 3 4 0 5 1 3 4 0 5 1 1 1 1 0 9 1 1 1 3 4 0 5] [4,5,6,7,8]<|Sq (Dr [8,9,10,11,12,13,14,15,16,17,18,19] [Ac 9 4 0,Ab 10 9,Ae 11 5 2,Dl 12 1 3 4 0 5 0 2 11,Ae 13 6 2,Dl 14 1 3 4 0 5 0 2 13,Ae 15 5 2,At 16 121 15,Ae 17 7 2,Eo 18 0 9 1 1 1 3 4 0 5 0 1 1,Fe 19 1 3 4 0 5 1 3 4 0 5 1 1 1 1 0 9 1 1 1 3 4 0 5 0 1 10 1 5 12 6 5 14 11 2 16 13 2 17 15 1 16 9 18,Ai 25 8 19] [8])<|.ret) [.cell 8 (some 25)]:= by decide +kernel
theorem c69 (r_0:Rule) (left:Graph) (right:Graph) (into:Morphism) (r:Rule) (h:ref53_rule r_0 left right into=some r):Sound prog 69 [eRule r_0,eGraph left,eGraph right,eMorphism into] (.sh (eRule r)):= by
 refine Fn ck69 fun hw=>?_
 unfold ref53_rule at h
 refine D<|F<|a3 rfl rfl<|a3 rfl rfl<|a3 rfl rfl<|a3 rfl rfl<|a9 rfl<|E (kt<|kt<|kt<|kt<|kb<|kn) fun _=>?_
 refine D<|d1 rfl<|K rfl<|J rfl<|R rfl rfl (show _=eGraph left from rfl)<|e6 rfl rfl (show _=ePattern (Pattern.mk left [] 0 []) from rfl)<|R rfl rfl (show _=eGraph right from rfl)<|e6 rfl rfl (show _=ePattern (Pattern.mk right [] 0 []) from rfl)<|R rfl rfl (show _=eGraph left from rfl) ?_
 obtain ⟨x16,hx16,h⟩:=I h
 refine S rfl (c121 left _ hx16)<|R rfl rfl (show _=eMorphism into from rfl)<|e6 rfl rfl (show _=eCondition (Condition.mk 1 [] (Morphism.mk [] []) (Pattern.mk (Graph.mk [] []) [] 0 [])) from rfl)<|g1 rfl rfl rfl (show _=eRule (Rule.mk r_0.Name (Pattern.mk left [] 0 []) (Pattern.mk right [] 0 []) x16 into true (Condition.mk 1 [] (Morphism.mk [] []) (Pattern.mk (Graph.mk [] []) [] 0 []))) from rfl)<|a7 rfl rfl rfl rfl rfl<|E (kb<|kn) fun _=>?_
 exact L (by cases h;rfl)
theorem ck122:CK f122 (Rq [Bf 2 1] [0]<|Rq [Bf 3 1] [0,3]<|Sq (Rq [Ad 4 0] [0,3,4]<|Bl 0<|Lo [0,3,4]<|Sq (Rq [Aa 5 4,Aa 6 0,Aq 7 5 6] [0,3,4,7]<|Co 7 (Sk [0,3,4])<|Ex 0 [3])<|Sq (Bl 1<|Re [Ba 10 3,Aa 11 4,Be 12 1 11,Bb 13 1 10 12,Ba 3 13] [0,3,4])<|Re [Aa 8 4,Ap 9 8 1,Aa 4 9] [0,3,4])<|Rq [Aa 14 3,Ba 2 14] [2]<|.ret) [.tmp 2]:= by decide +kernel
theorem c122 (n:Int) (r:(List Int)) (h:ref02_Finest n=some r):Sound prog 122 [eI n] (.sh (lI r)):= by
 refine Fn ck122 fun hw=>?_
 unfold ref02_Finest at h
 refine D<|F<|f0<|E (kt<|kn) fun _=>?_
 refine D<|F<|f0<|E (kt<|ko<|kn) fun _=>?_
 refine D<|D<|F<|C rfl<|E (kt<|ko<|kt<|kn) fun _=>?_
 obtain ⟨s0,hs0,h⟩:=I h
 refine f3 hs0 (fun (i0:Int) (s0:List Int)=>[(0,.tv (eI n)),(3,.ow (lI s0)),(4,.tv (eI i0))]) (fun (s0:List Int)=>[(3,.ow (lI s0))]) rfl ?_ ?_ ?_
 ·clear h hs0
  intro i0 s0 r0 hi0 h hw0
  refine D<|D<|F<|C rfl<|C rfl<|V rfl rfl<|E (kt<|ko<|kt<|kt<|kn) fun _=>?_
  refine b7 rfl (b8 hi0)<|P (kt<|ko<|kt<|kn) fun _=>?_
  refine D<|b0<|F<|e9 rfl<|C rfl<|d7 (e:=eI) (l:=[i0]) rfl rfl (fun _=>rfl) ?_
  obtain ⟨x13,hx13,h⟩:=I h
  refine e4 rfl rfl rfl rfl hx13 rfl<|e9 rfl<|E (kt<|ko<|kt<|kn) fun _=>?_
  refine F<|C rfl<|a6 rfl rfl<|C rfl<|E (kt<|ko<|kt<|kn) ?_
  cases h
  show Env.keep _ _=_
  rw [Ktv rfl (Kow rfl (Ktv rfl (Knil _)))]
  rw [b4 (a5 (hw0 4)) hi0 (d3 (a5 (hw0 0)))]
  all_goals rfl
 ·intro i0 s0 hi0
  refine D<|D<|F<|C rfl<|C rfl<|V rfl rfl<|E (kt<|ko<|kt<|kt<|kn) fun _=>?_
  refine b9 rfl (d0 hi0)<|b3 (ko<|kn) ?_
  exact ⟨rfl,rfl⟩
 ·intro _
  refine D<|F<|C rfl<|g2 rfl<|E (kt<|kn) fun _=>?_
  exact L (by cases h;rfl)
theorem ck70:CK f70 (Rq [Af 1 0,Bc 2 1 1] [1,2]<|Sq (Dr [2,3,4,5,6,7,8,9,10,11] [Ac 3 1 0,Ab 4 3,Ah 5 4,At 6 122 5,Ac 7 1 1,Ab 8 7,Ah 9 8,At 10 122 9,Cd 11 1 1 0 1 6 1 1 10,Ai 2 2 11] [2])<|.ret) [.cell 2 (some 2)]:= by decide +kernel
theorem c70 (g:Graph) (r:Morphism) (h:ref06_Of g=some r):Sound prog 70 [eGraph g] (.sh (eMorphism r)):= by
 refine Fn ck70 fun hw=>?_
 unfold ref06_Of at h
 refine D<|F<|a3 rfl rfl<|a9 rfl<|E (kt<|kb<|kn) fun _=>?_
 refine D<|d1 rfl<|K rfl<|J rfl<|U rfl rfl ?_
 obtain ⟨x6,hx6,h⟩:=I h
 refine S rfl (c122 (g.Nodes.length:Int) _ hx6)<|K rfl<|J rfl<|U rfl rfl ?_
 obtain ⟨x10,hx10,h⟩:=I h
 refine S rfl (c122 (g.Edges.length:Int) _ hx10)<|g1 rfl rfl rfl (show _=eMorphism (Morphism.mk x6 x10) from rfl)<|a7 rfl rfl rfl rfl rfl<|E (kb<|kn) fun _=>?_
 exact L (by cases h;rfl)
theorem ck27:CK f27 (Rq [Af 1 0,Br 2 1 3 4 0 5 1 3 4 0 5 1 1 1 1 0 9 1 1 1 3 4 0 5] [1,2]<|Rq [Cv 12 26,Aa 11 12,Ao 13 11 0,Ao 14 11 1,Bc 3 4 7,Bc 4 1 1,Ai 2 3 13,Ai 2 4 14] [1,2,3]<|Sq (Dr [5,15,16,17,18,19,20,21,22,23,24,25,26,27,28,29,30,31,32,33,34,35,36] [Ae 15 3 2,Ac 16 1 0,Aj 17 16 0,Ab 18 17,Ac 19 1 0,Aj 20 19 0,Ab 21 20,Ah 22 21,⟨some 23,.mm false (.c (.int .i64 3)) (.s 22),none⟩,Cz 24 2 18 23,Ac 25 1 0,Aj 26 25 1,Ab 27 26,Ac 28 1 0,Aj 29 28 1,Ab 30 29,Ah 31 30,⟨some 32,.mm false (.c (.int .i64 3)) (.s 31),none⟩,Cz 33 3 27 32,Cd 34 2 3 0 1 24 1 1 33,Al 35 66 15 34,⟨some 36,.fldv (.s 35) 0 2 true,none⟩,Bc 5 1 3,Ai 2 5 36] [1,2,3,5])<|Rq [Ae 37 5 2,⟨some 38,.callg 67 [.s 37],none⟩,Bc 6 1 3,Dx 2 6 38] [1,2,3,5,6]<|Sq (Rq [Ad 7 0] [1,2,3,5,6,7]<|Bl 0<|Lo [1,2,3,5,6,7]<|Sq (Rq [Aa 39 7,Ac 40 1 2,Ab 41 40,Ah 42 41,Aq 43 39 42,Aa 44 43,Am 45 7 44,Dz 46 45 3 44,An 47 44 46] [1,2,3,5,6,7,47]<|Co 47 (Sk [1,2,3,5,6,7])<|Ex 0 [1,2,3,5,6])<|Sq (Bl 1<|Dr [50,51,52,53,54,55,56,57,58,59,60,61,62,63,64] [Ac 50 6 0,Bm 51 50,Ac 52 1 2,Ab 53 52,Aa 54 7,Ag 55 53 54 1,Ab 56 55,Cn 57 56,Ac 58 3 0,Ab 59 58,Ah 60 59,Cp 61 57 60,Be 62 1 61,Bb 63 1 51 62,Ac 64 6 0,Bi 1 64 63] [1,2,3,5,6,7])<|Re [Aa 48 7,Ap 49 48 1,Aa 7 49] [1,2,3,5,6,7])<|Rq [Ac 65 6 0,Ab 66 65,Ah 67 66,Aa 8 67] [1,2,3,5,6,8]<|Sq (Rq [Ad 9 0] [1,2,3,5,6,8,9]<|Bl 2<|Lo [1,2,3,5,6,8,9]<|Sq (Rq [Aa 68 9,Ac 69 1 3,Ab 70 69,Ah 71 70,Aq 72 68 71,Aa 73 72,Am 74 9 73,Dz 75 74 4 73,An 76 73 75,Aa 77 76,Am 78 8 77,Ea 79 78 0 77,An 80 77 79] [1,2,3,5,6,8,9,80]<|Co 80 (Sk [1,2,3,5,6,8,9])<|Ex 2 [2,5,6])<|Sq (Bl 3<|Sq (Dr [10,83,84,85,86,87,88,89,90,91,92,93,94,95,96,97,98,99,100,101,102,103,104,105,106,107,108,109,110,111,112] [Ac 83 1 3,Ab 84 83,Aa 85 9,Ag 86 84 85 3,Cw 87 86 0 1 3,Ab 88 87,Cn 89 88,Ac 90 3 1,Ab 91 90,Ah 92 91,Cp 93 89 92,Ac 94 1 3,Ab 95 94,Aa 96 9,Ag 97 95 96 3,Cw 98 97 1 1 3,Ab 99 98,Cn 100 99,Aa 101 8,Cp 102 100 101,Ac 103 1 3,Ab 104 103,Aa 105 9,Ag 106 104 105 3,Cw 107 106 2 1 3,Ab 108 107,Cn 109 108,Aa 110 8,Cp 111 109 110,Dw 112 0 0 0 0 1 93 1 1 102 2 1 111,Cl 10 0 0 0,Ai 3 10 112] [1,2,3,5,6,8,9,10])<|Sq (Dr [113,114,115,116,117,118,119,120,121,122,123,124,125,126,127,128] [Ae 113 3 2,Ac 114 10 0,Ab 115 114,Ac 116 6 0,Ab 117 116,Ac 118 10 1,Ab 119 118,Ag 120 117 119 1,Ab 121 120,Ac 122 6 0,Ab 123 122,Ac 124 10 2,Ab 125 124,Ag 126 123 125 1,Ab 127 126,Ce 128 68 113 115 121 127] [1,2,3,5,6,8,9,10,128])<|Co 128 (Re [Ac 129 6 1,Bm 130 129,Ae 131 10 3,Be 132 3 131,Bb 133 3 130 132,Ac 134 6 1,Bi 1 134 133] [1,2,3,5,6,8,9])<|Sk [1,2,3,5,6,8,9])<|Re [Aa 81 9,Ap 82 81 1,Aa 9 82] [1,2,3,5,6,8,9])<|Sq (Dr [2,135,136,137,138,139,140] [⟨some 135,.bld [.str ⟨#[]⟩,.list 1 [],.list 3 [],.list 4 [],.int .i64 0,.list 5 [],.list 1 [],.list 3 [],.list 4 [],.int .i64 0,.list 5 [],.list 1 [],.list 1 [],.list 1 [],.list 1 [],.bool false,.int .i64 0,.list 9 [],.list 1 [],.list 1 [],.list 1 [],.list 3 [],.list 4 [],.int .i64 0,.list 5 []] [(0,1,.c (.str ⟨#[114]⟩))],none⟩,Ae 136 5 2,Ae 137 6 2,Ae 138 5 2,At 139 70 138,Ce 140 69 135 136 137 139,Ai 25 2 140] [2])<|.ret) [.cell 2 (some 25)]:= by decide +kernel
theorem c27 (d:ref53_Draft) (r:Rule) (h:ref53_Made d=some r):Sound prog 27 [eref53_Draft d] (.sh (eRule r)):= by
 refine Fn ck27 fun hw=>?_
 unfold ref53_Made at h
 refine D<|F<|a3 rfl rfl<|a9 rfl<|E (kt<|kb<|kn) fun _=>?_
 refine D<|F ?_
 obtain ⟨x12,hx12,h⟩:=I h
 refine e5 rfl (c26  _ hx12)<|e8 rfl<|b2 rfl rfl<|b2 rfl rfl<|a9 rfl<|a9 rfl<|a7 rfl rfl rfl rfl rfl<|a7 rfl rfl rfl rfl rfl<|E (kt<|kb<|kb<|kn) fun _=>?_
 refine D<|d1 rfl<|R rfl rfl (show _=eTypes x12.1 from rfl)<|K rfl<|a8 rfl<|J rfl<|K rfl<|a8 rfl<|J rfl<|U rfl rfl<|q0 rfl rfl ?_
 obtain ⟨x24,hx24,h⟩:=I h
 refine l7 rfl rfl rfl rfl hx24<|K rfl<|a8 rfl<|J rfl<|K rfl<|a8 rfl<|J rfl<|U rfl rfl<|q0 rfl rfl ?_
 obtain ⟨x33,hx33,h⟩:=I h
 refine l7 rfl rfl rfl rfl hx33<|g1 rfl rfl rfl (show _=eref15_Draft (ref15_Draft.mk x24 x33) from rfl) ?_
 obtain ⟨x35,hx35,h⟩:=I h
 refine S rfl (c66 x12.1 (ref15_Draft.mk x24 x33) _ hx35)<|q7 rfl rfl (show _=eGraph x35.Graph from rfl)<|a9 rfl<|a7 rfl rfl rfl rfl rfl<|E (kt<|kb<|kb<|kb<|kn) fun _=>?_
 refine D<|F<|R rfl rfl (show _=eGraph x35.Graph from rfl) ?_
 obtain ⟨x38,hx38,h⟩:=I h
 refine q8 rfl (c67 x35.Graph _ hx38)<|a9 rfl<|m4 rfl rfl (by decide) rfl rfl rfl<|E (kt<|kb<|kb<|kb<|kb<|kn) fun _=>?_
 refine D<|D<|F<|C rfl<|E (kt<|kb<|kb<|kb<|kb<|kt<|kn) fun _=>?_
 obtain ⟨o0,ho0,h⟩:=d4 h
 refine g9 ho0 (fun (s0:Graph × Int)=>[(1,.tv (.pt (eref53_Draft d).cells)),(2,.bx [⟨false,eS (⟨#[]⟩:ByteArray)⟩,⟨true,lI []⟩,⟨true,lE []⟩,⟨true,lS []⟩,⟨false,eI 0⟩,⟨true,lT []⟩,⟨true,lI []⟩,⟨true,lE []⟩,⟨true,lS []⟩,⟨false,eI 0⟩,⟨true,lT []⟩,⟨true,lI []⟩,⟨true,lI []⟩,⟨true,lI []⟩,⟨true,lI []⟩,⟨false,eB false⟩,⟨false,eI 0⟩,⟨true,eLCondition []⟩,⟨true,lI []⟩,⟨true,lI []⟩,⟨true,lI []⟩,⟨true,lE []⟩,⟨true,lS []⟩,⟨false,eI 0⟩,⟨true,lT []⟩]),(3,.bx [⟨false,lN x12.1.Nodes⟩,⟨false,lX x12.1.Edges⟩]),(5,.bx [⟨false,lI x35.Graph.Nodes⟩,⟨false,lE x35.Graph.Edges⟩]),(6,.bx [⟨true,lI s0.1.Nodes⟩,⟨true,lE s0.1.Edges⟩]),(7,.tv (eI s0.2))]) (fun (s0:Graph × Int)=>[(1,.tv (.pt (eref53_Draft d).cells)),(2,.bx [⟨false,eS (⟨#[]⟩:ByteArray)⟩,⟨true,lI []⟩,⟨true,lE []⟩,⟨true,lS []⟩,⟨false,eI 0⟩,⟨true,lT []⟩,⟨true,lI []⟩,⟨true,lE []⟩,⟨true,lS []⟩,⟨false,eI 0⟩,⟨true,lT []⟩,⟨true,lI []⟩,⟨true,lI []⟩,⟨true,lI []⟩,⟨true,lI []⟩,⟨false,eB false⟩,⟨false,eI 0⟩,⟨true,eLCondition []⟩,⟨true,lI []⟩,⟨true,lI []⟩,⟨true,lI []⟩,⟨true,lE []⟩,⟨true,lS []⟩,⟨false,eI 0⟩,⟨true,lT []⟩]),(3,.bx [⟨false,lN x12.1.Nodes⟩,⟨false,lX x12.1.Edges⟩]),(5,.bx [⟨false,lI x35.Graph.Nodes⟩,⟨false,lE x35.Graph.Edges⟩]),(6,.bx [⟨true,lI s0.1.Nodes⟩,⟨true,lE s0.1.Edges⟩])]) (fun zv ze=>resIs ([.cell 2 (some 25)]) (.sh (eRule zv)) ze) rfl ?_ ?_ ?_
 ·clear h ho0
  intro s0 r0 h hw0
  refine D<|D<|F<|C rfl<|K rfl<|J rfl<|U rfl rfl<|V rfl rfl<|C rfl ?_
  refine gA 3 [45,46] 47 (decide (s0.2<(d.Nodes.length:Int))) (decide (s0.2<3)) (fun hg47=>?_) (fun hg47=>?_) ?_
  ·refine G rfl hg47<|C rfl<|G rfl hg47<|V rfl rfl<|X rfl hg47 rfl ?_
   exact ⟨⟨_,_,rfl⟩⟩
  ·refine H rfl hg47<|H rfl hg47<|Y rfl hg47 rfl ?_
   exact ⟨⟨_,_,rfl⟩⟩
  rintro _ ⟨_,_,rfl⟩
  refine E (kt<|kb<|kb<|kb<|kb<|kt<|kt<|kn) fun _=>?_
  refine T rfl (fun hc47=>?_) (fun hc47=>?_)
  ·replace h:=M hc47 h
   refine P (kt<|kb<|kb<|kb<|kb<|kt<|kn) fun _=>?_
   refine D<|b0<|d1 rfl<|a4 rfl<|f5 rfl rfl rfl rfl<|K rfl<|J rfl<|C rfl ?_
   obtain ⟨x55,hx55,h⟩:=I h
   refine Z rfl rfl rfl hx55 rfl<|J rfl<|l2 rfl<|a4 rfl<|J rfl<|U rfl rfl ?_
   obtain ⟨x61,hx61,h⟩:=I h
   refine l3 rfl rfl hx61<|d7 (e:=eI) (l:=[x61]) rfl rfl (fun _=>rfl) ?_
   obtain ⟨x63,hx63,h⟩:=I h
   refine e4 rfl rfl rfl rfl hx63 rfl<|a4 rfl<|f4 rfl rfl rfl (by decide) rfl rfl<|E (kt<|kb<|kb<|kb<|kb<|kt<|kn) fun _=>?_
   refine F<|C rfl<|a6 rfl rfl<|C rfl<|E (kt<|kb<|kb<|kb<|kb<|kt<|kn) ?_
   cases h
   refine ⟨_,rfl,?_⟩
   rw [Ktv rfl (Kbx rfl (Kbx rfl (Kbx rfl (Kbx rfl (Ktv rfl (Knil _))))))]
   all_goals rfl
  ·replace h:=O hc47 h
   refine b3 (kt<|kb<|kb<|kb<|kb<|kn) ?_
   refine ⟨rfl,?_⟩
   cases h
   exact ⟨_,rfl,rfl⟩
 ·intro s0 hs
  replace h:=d5 h hs
  intro _
  refine D<|F<|a4 rfl<|J rfl<|U rfl rfl<|C rfl<|E (kt<|kb<|kb<|kb<|kb<|kt<|kn) fun _=>?_
  refine D<|D<|F<|C rfl<|E (kt<|kb<|kb<|kb<|kb<|kt<|kt<|kn) fun _=>?_
  obtain ⟨o2,ho2,h⟩:=d4 h
  refine g9 ho2 (fun (s2:Graph × Int)=>[(1,.tv (.pt (eref53_Draft d).cells)),(2,.bx [⟨false,eS (⟨#[]⟩:ByteArray)⟩,⟨true,lI []⟩,⟨true,lE []⟩,⟨true,lS []⟩,⟨false,eI 0⟩,⟨true,lT []⟩,⟨true,lI []⟩,⟨true,lE []⟩,⟨true,lS []⟩,⟨false,eI 0⟩,⟨true,lT []⟩,⟨true,lI []⟩,⟨true,lI []⟩,⟨true,lI []⟩,⟨true,lI []⟩,⟨false,eB false⟩,⟨false,eI 0⟩,⟨true,eLCondition []⟩,⟨true,lI []⟩,⟨true,lI []⟩,⟨true,lI []⟩,⟨true,lE []⟩,⟨true,lS []⟩,⟨false,eI 0⟩,⟨true,lT []⟩]),(3,.bx [⟨false,lN x12.1.Nodes⟩,⟨false,lX x12.1.Edges⟩]),(5,.bx [⟨false,lI x35.Graph.Nodes⟩,⟨false,lE x35.Graph.Edges⟩]),(6,.bx [⟨true,lI s2.1.Nodes⟩,⟨true,lE s2.1.Edges⟩]),(8,.tv (eI (s0.1.Nodes.length:Int))),(9,.tv (eI s2.2))]) (fun (s2:Graph × Int)=>[(2,.bx [⟨false,eS (⟨#[]⟩:ByteArray)⟩,⟨true,lI []⟩,⟨true,lE []⟩,⟨true,lS []⟩,⟨false,eI 0⟩,⟨true,lT []⟩,⟨true,lI []⟩,⟨true,lE []⟩,⟨true,lS []⟩,⟨false,eI 0⟩,⟨true,lT []⟩,⟨true,lI []⟩,⟨true,lI []⟩,⟨true,lI []⟩,⟨true,lI []⟩,⟨false,eB false⟩,⟨false,eI 0⟩,⟨true,eLCondition []⟩,⟨true,lI []⟩,⟨true,lI []⟩,⟨true,lI []⟩,⟨true,lE []⟩,⟨true,lS []⟩,⟨false,eI 0⟩,⟨true,lT []⟩]),(5,.bx [⟨false,lI x35.Graph.Nodes⟩,⟨false,lE x35.Graph.Edges⟩]),(6,.bx [⟨true,lI s2.1.Nodes⟩,⟨true,lE s2.1.Edges⟩])]) (fun zv ze=>resIs ([.cell 2 (some 25)]) (.sh (eRule zv)) ze) rfl ?_ ?_ ?_
  ·clear h ho2
   intro s2 r2 h hw2
   refine D<|D<|F<|C rfl<|K rfl<|J rfl<|U rfl rfl<|V rfl rfl<|C rfl ?_
   refine gA 3 [74,75] 76 (decide (s2.2<(d.Edges.length:Int))) (decide (s2.2<4)) (fun hg76=>?_) (fun hg76=>?_) ?_
   ·refine G rfl hg76<|C rfl<|G rfl hg76<|V rfl rfl<|X rfl hg76 rfl ?_
    exact ⟨⟨_,_,rfl⟩⟩
   ·refine H rfl hg76<|H rfl hg76<|Y rfl hg76 rfl ?_
    exact ⟨⟨_,_,rfl⟩⟩
   rintro _ ⟨_,_,rfl⟩
   refine C rfl ?_
   refine gA 3 [78,79] 80 ((decide (s2.2<(d.Edges.length:Int)))&&(decide (s2.2<4))) (decide (0<(s0.1.Nodes.length:Int))) (fun hg80=>?_) (fun hg80=>?_) ?_
   ·refine G rfl hg80<|C rfl<|G rfl hg80<|e7 rfl rfl<|X rfl hg80 rfl ?_
    exact ⟨⟨_,_,rfl⟩⟩
   ·refine H rfl hg80<|H rfl hg80<|Y rfl hg80 rfl ?_
    exact ⟨⟨_,_,rfl⟩⟩
   rintro _ ⟨_,_,rfl⟩
   refine E (kt<|kb<|kb<|kb<|kb<|kt<|kt<|kt<|kn) fun _=>?_
   refine T rfl (fun hc80=>?_) (fun hc80=>?_)
   ·replace h:=M hc80 h
    refine P (kt<|kb<|kb<|kb<|kb<|kt<|kt<|kn) fun _=>?_
    refine D<|b0<|D<|d1 rfl<|K rfl<|J rfl<|C rfl ?_
    obtain ⟨x86,hx86,h⟩:=I h
    refine Z rfl rfl rfl hx86 rfl<|l5 (j':=0) rfl rfl (by decide) (by decide) (Nat.le_of_ble_eq_true rfl) rfl<|J rfl<|l2 rfl<|a4 rfl<|J rfl<|U rfl rfl ?_
    obtain ⟨x93,hx93,h⟩:=I h
    refine l3 rfl rfl hx93<|K rfl<|J rfl<|C rfl ?_
    obtain ⟨x97,hx97,h⟩:=I h
    refine Z rfl rfl rfl hx97 rfl<|l5 (j':=1) rfl rfl (by decide) (by decide) (Nat.le_of_ble_eq_true rfl) rfl<|J rfl<|l2 rfl<|C rfl ?_
    obtain ⟨x102,hx102,h⟩:=I h
    refine l3 rfl rfl hx102<|K rfl<|J rfl<|C rfl ?_
    obtain ⟨x106,hx106,h⟩:=I h
    refine Z rfl rfl rfl hx106 rfl<|l5 (j':=2) rfl rfl (by decide) (by decide) (Nat.le_of_ble_eq_true rfl) rfl<|J rfl<|l2 rfl<|C rfl ?_
    obtain ⟨x111,hx111,h⟩:=I h
    refine l3 rfl rfl hx111<|g1 rfl rfl rfl (show _=eEdge (Edge.mk x93 x102 x111) from rfl)<|a9 rfl<|a7 rfl rfl rfl rfl rfl<|E (kt<|kb<|kb<|kb<|kb<|kt<|kt<|kb<|kn) fun _=>?_
    refine D<|d1 rfl<|R rfl rfl (show _=eTypes x12.1 from rfl)<|a4 rfl<|J rfl<|a4 rfl<|J rfl<|a4 rfl<|J rfl ?_
    obtain ⟨x120,hx120,h⟩:=I h
    refine Z rfl rfl rfl hx120 rfl<|J rfl<|a4 rfl<|J rfl<|a4 rfl<|J rfl ?_
    obtain ⟨x126,hx126,h⟩:=I h
    refine Z rfl rfl rfl hx126 rfl<|J rfl ?_
    obtain ⟨x128,hx128,h⟩:=I h
    refine S rfl (c68 x12.1 x93 x120 x126 _ hx128)<|E (kt<|kb<|kb<|kb<|kb<|kt<|kt<|kb<|kt<|kn) fun _=>?_
    refine T rfl (fun hc128=>?_) (fun hc128=>?_)
    ·replace h:=M hc128 h
     refine F<|a4 rfl<|f5 rfl rfl rfl rfl<|R rfl rfl (show _=eEdge (Edge.mk x93 x102 x111) from rfl)<|d7 (e:=eEdge) (l:=[Edge.mk x93 x102 x111]) rfl rfl (fun _=>rfl) ?_
     obtain ⟨x133,hx133,h⟩:=I h
     refine e4 rfl rfl rfl rfl hx133 rfl<|a4 rfl<|f4 rfl rfl rfl (by decide) rfl rfl<|E (kt<|kb<|kb<|kb<|kb<|kt<|kt<|kn) fun _=>?_
     refine F<|C rfl<|a6 rfl rfl<|C rfl<|E (kt<|kb<|kb<|kb<|kb<|kt<|kt<|kn) ?_
     cases h
     refine ⟨_,rfl,?_⟩
     rw [Ktv rfl (Kbx rfl (Kbx rfl (Kbx rfl (Kbx rfl (Ktv rfl (Ktv rfl (Knil _)))))))]
     all_goals rfl
    ·replace h:=O hc128 h
     refine P (kt<|kb<|kb<|kb<|kb<|kt<|kt<|kn) fun _=>?_
     refine F<|C rfl<|a6 rfl rfl<|C rfl<|E (kt<|kb<|kb<|kb<|kb<|kt<|kt<|kn) ?_
     cases h
     refine ⟨_,rfl,?_⟩
     rw [Ktv rfl (Kbx rfl (Kbx rfl (Kbx rfl (Kbx rfl (Ktv rfl (Ktv rfl (Knil _)))))))]
     all_goals rfl
   ·replace h:=O hc80 h
    refine b3 (kb<|kb<|kb<|kn) ?_
    refine ⟨rfl,?_⟩
    cases h
    exact ⟨_,rfl,rfl⟩
  ·intro s2 hs
   replace h:=d5 h hs
   intro _
   refine D<|d1 rfl<|e6 rfl rfl (show _=eRule (Rule.mk (⟨#[114]⟩:ByteArray) (Pattern.mk (Graph.mk [] []) [] 0 []) (Pattern.mk (Graph.mk [] []) [] 0 []) (Part.mk [] []) (Morphism.mk [] []) false (Condition.mk 0 [] (Morphism.mk [] []) (Pattern.mk (Graph.mk [] []) [] 0 []))) from rfl)<|R rfl rfl (show _=eGraph x35.Graph from rfl)<|R rfl rfl (show _=eGraph s2.1 from rfl)<|R rfl rfl (show _=eGraph x35.Graph from rfl) ?_
   obtain ⟨x139,hx139,h⟩:=I h
   refine S rfl (c70 x35.Graph _ hx139) ?_
   obtain ⟨x140,hx140,h⟩:=I h
   refine S rfl (c69 (Rule.mk (⟨#[114]⟩:ByteArray) (Pattern.mk (Graph.mk [] []) [] 0 []) (Pattern.mk (Graph.mk [] []) [] 0 []) (Part.mk [] []) (Morphism.mk [] []) false (Condition.mk 0 [] (Morphism.mk [] []) (Pattern.mk (Graph.mk [] []) [] 0 []))) x35.Graph s2.1 x139 _ hx140)<|a7 rfl rfl rfl rfl rfl<|E (kb<|kn) fun _=>?_
   exact L (by cases h;rfl)
  ·intro v2 ze hv hR
   replace h:=d6 h hv
   cases h
   exact hR
 ·intro v0 ze hv hR
  replace h:=d6 h hv
  cases h
  exact hR
theorem ck108:CK f108 (Rq [Ak 2] [0]<|Rq [Aa 3 0,Bj 4 3 1,Aa 5 4,Am 6 0 5,Ch 7 6 3 5,An 8 5 7,Aa 2 8] [2]<|.ret) [.tmp 2]:= by decide +kernel
theorem c108 (n:Int) (r:Bool) (h:ref52_sort n=some r):Sound prog 108 [eI n] (.sh (eB r)):= by
 refine Fn ck108 fun hw=>?_
 unfold ref52_sort at h
 refine D<|F<|C rfl<|E (kt<|kn) fun _=>?_
 refine D<|F<|C rfl<|d8 rfl rfl<|C rfl ?_
 refine gA 3 [6,7] 8 (decide (1<=n)) (decide (n<=3)) (fun hg8=>?_) (fun hg8=>?_) ?_
 ·refine G rfl hg8<|C rfl<|G rfl hg8<|f1 rfl rfl<|X rfl hg8 rfl ?_
  exact ⟨⟨_,_,rfl⟩⟩
 ·refine H rfl hg8<|H rfl hg8<|Y rfl hg8 rfl ?_
  exact ⟨⟨_,_,rfl⟩⟩
 rintro _ ⟨_,_,rfl⟩
 refine C rfl<|E (kt<|kn) fun _=>?_
 exact L (by cases h;rfl)
theorem ck57:CK f57 (Rq [Af 2 0,Af 3 1,Ad 4 0] [2,3]<|Sq (Rq [Ae 13 2 2,At 14 74 13,Aa 12 14,Ao 15 12 0,Ao 16 12 1,Aa 5 15,Aa 6 16] [2,3,6]<|Rq [Aa 17 6,Ax 18 17 0] [2,3,6,18]<|Co 18 (Rq [Aa 19 6,Aa 4 19] [4]<|.ret)<|Sk [2,3])<|Sq (Rq [Ac 20 3 0,Ab 21 20,Ah 22 21,Ac 23 2 0,Ab 24 23,Ah 25 24,Bs 26 22 25,Aa 27 26,Ar 28 3 1 27,As 29 28 27,Bd 30 29 27,Ar 31 2 1 27,As 32 31 27,Bd 33 32 27,Cc 34 30 33 27,Au 35 27 34] [2,3,35]<|Co 35 (Rq [Ad 4 20] [4]<|.ret)<|Sk [2,3])<|Sq (Rq [Ad 7 0] [2,3,7]<|Bl 0<|Lo [2,3,7]<|Sq (Rq [Aa 36 7,Ac 37 2 0,Ab 38 37,Ah 39 38,Aq 40 36 39] [2,3,7,40]<|Co 40 (Sk [2,3,7])<|Ex 0 [2,3])<|Sq (Bl 1<|Sq (Rq [Ac 43 3 0,Ab 44 43,Aa 45 7,Ag 46 44 45 1,Ab 47 46,At 48 108 47,Ay 49 48] [2,3,7,49]<|Co 49 (Rq [Ad 4 6] [4]<|.ret)<|Sk [2,3,7])<|Rq [Ac 50 2 0,Ab 51 50,Aa 52 7,Ag 53 51 52 4,Aj 54 53 1,Ab 55 54,Aa 8 55] [2,3,7,8]<|Sq (Dr [56,57,58,59,60,61,62,63,64,65,66,67,68,69,70] [Aa 56 8,Bj 57 56 0,Aa 58 57,Aw 59 3 0 58,Av 60 59 58,Am 61 8 58,Bv 62 60 61 1 58,Av 63 62 58,Aw 64 3 0 58,Av 65 64 58,Am 66 7 58,Bv 67 65 66 1 58,Av 68 67 58,Eh 69 63 68 58,An 70 58 69] [2,3,7,70])<|Co 70 (Rq [Ad 4 13] [4]<|.ret)<|Sk [2,3,7])<|Re [Aa 41 7,Ap 42 41 1,Aa 7 42] [2,3,7])<|Sq (Rq [Ad 9 0] [2,3,9]<|Bl 2<|Lo [2,3,9]<|Sq (Rq [Aa 71 9,Ac 72 2 1,Ab 73 72,Ah 74 73,Aq 75 71 74] [2,3,9,75]<|Co 75 (Sk [2,3,9])<|Ex 2 [])<|Sq (Bl 3<|Sq (Rq [Ac 78 3 1,Ab 79 78,Aa 80 9,Ag 81 79 80 1,Ab 82 81,At 83 108 82,Ay 84 83] [2,3,9,84]<|Co 84 (Rq [Ad 4 6] [4]<|.ret)<|Sk [2,3,9])<|Sq (Dr [10,11,85,86,87,88,89,90,91,92,93,94,95,96,97,98,99,100,101,102,103,104] [Ac 85 3 0,Ab 86 85,Ac 87 2 1,Ab 88 87,Aa 89 9,Ag 90 88 89 7,Aj 91 90 1,Ab 92 91,Ag 93 86 92 1,Ab 94 93,Ac 95 3 0,Ab 96 95,Ac 97 2 1,Ab 98 97,Aa 99 9,Ag 100 98 99 7,Aj 101 100 2,Ab 102 101,Ag 103 96 102 1,Ab 104 103,Aa 10 94,Aa 11 104] [2,3,9,10,11])<|Rq [Aa 105 10,Ac 106 3 1,Ab 107 106,Aa 108 9,Ag 109 107 108 1,Ab 110 109,Bs 111 105 110,Aa 112 111,Ar 113 3 1 112,As 114 113 112,Az 115 9 112,Dv 116 114 115 1 112,As 117 116 112,Fd 118 117 2 112,Az 119 118 112,Am 120 11 119,Aw 121 3 1 119,Av 122 121 119,Am 123 9 119,Bv 124 122 123 1 119,Av 125 124 119,Eh 126 120 125 119,Cy 127 119 126 112,Au 128 112 127,Aa 129 128,Ar 130 3 1 129,As 131 130 129,Az 132 9 129,Dv 133 131 132 1 129,As 134 133 129,Ev 135 134 2 129,Az 136 135 129,Am 137 11 136,Cm 138 137 2 136,Cy 139 136 138 129,Au 140 129 139] [2,3,9,140]<|Co 140 (Rq [Ad 4 13] [4]<|.ret)<|Sk [2,3,9])<|Re [Aa 76 9,Ap 77 76 1,Aa 9 77] [2,3,9])<|Rq [Ad 4 0] [4]<|.ret) [.tmp 4]:= by decide +kernel
theorem c57 (t:Types) (s_1:Sorts) (r:Int) (h:ref52_Sorts t s_1=some r):Sound prog 57 [eTypes t,eSorts s_1] (.sh (eI r)):= by
 refine Fn ck57 fun hw=>?_
 unfold ref52_Sorts at h
 refine D<|F<|a3 rfl rfl<|a3 rfl rfl<|C rfl<|E (kt<|kt<|kn) fun _=>?_
 refine D<|D<|F<|R rfl rfl (show _=eTypes t from rfl) ?_
 obtain ⟨x14,hx14,h⟩:=I h
 refine e5 rfl (c74 t _ hx14)<|e8 rfl<|b2 rfl rfl<|b2 rfl rfl<|C rfl<|C rfl<|E (kt<|kt<|kt<|kn) fun _=>?_
 refine D<|F<|C rfl<|b1 rfl rfl<|E (kt<|kt<|kt<|kt<|kn) fun _=>?_
 refine T rfl (fun hc18=>?_) (fun hc18=>?_)
 ·replace h:=M hc18 h
  refine D<|F<|C rfl<|C rfl<|E (kt<|kn) fun _=>?_
  exact L (by cases h;rfl)
 ·replace h:=O hc18 h
  refine P (kt<|kt<|kn) fun _=>?_
  refine D<|D<|F<|K rfl<|J rfl<|U rfl rfl<|K rfl<|J rfl<|U rfl rfl<|b1 rfl rfl<|C rfl ?_
  refine gO 8 [28,29,30,31,32,33,34] 35 (!decide ((s_1.Nodes.length:Int)=(t.Nodes.length:Int))) (!decide ((s_1.Edges.length:Int)=(t.Edges.length:Int))) (fun hg35=>?_) (fun hg35=>?_) ?_
  ·refine H rfl hg35<|H rfl hg35<|H rfl hg35<|H rfl hg35<|H rfl hg35<|H rfl hg35<|H rfl hg35<|X rfl hg35 rfl ?_
   exact ⟨⟨_,_,_,_,_,_,_,rfl⟩⟩
  ·refine G rfl hg35<|K rfl<|G rfl hg35<|J rfl<|G rfl hg35<|U rfl rfl<|G rfl hg35<|K rfl<|G rfl hg35<|J rfl<|G rfl hg35<|U rfl rfl<|G rfl hg35<|b1 rfl rfl<|Y rfl hg35 rfl ?_
   exact ⟨⟨_,_,_,_,_,_,_,rfl⟩⟩
  rintro _ ⟨_,_,_,_,_,_,_,rfl⟩
  refine E (kt<|kt<|kt<|kn) fun _=>?_
  refine T rfl (fun hc35=>?_) (fun hc35=>?_)
  ·replace h:=M hc35 h
   refine D<|F<|C rfl<|E (kt<|kn) fun _=>?_
   exact L (by cases h;rfl)
  ·replace h:=O hc35 h
   refine P (kt<|kt<|kn) fun _=>?_
   refine D<|D<|F<|C rfl<|E (kt<|kt<|kt<|kn) fun _=>?_
   obtain ⟨o0,ho0,h⟩:=d4 h
   refine e1 ho0 (fun (i0:Int) (_:Unit)=>[(2,.tv (.pt (eTypes t).cells)),(3,.tv (.pt (eSorts s_1).cells)),(7,.tv (eI i0))]) (fun (_:Unit)=>[(2,.tv (.pt (eTypes t).cells)),(3,.tv (.pt (eSorts s_1).cells))]) (fun zv ze=>resIs ([.tmp 4]) (.sh (eI zv)) ze) rfl ?_ ?_ ?_ ?_
   ·clear h ho0
    intro i0 s0 r0 hi0 h hw0
    refine D<|D<|F<|C rfl<|K rfl<|J rfl<|U rfl rfl<|V rfl rfl<|E (kt<|kt<|kt<|kt<|kn) fun _=>?_
    refine b7 rfl (b8 hi0)<|P (kt<|kt<|kt<|kn) fun _=>?_
    refine D<|b0<|D<|D<|F<|K rfl<|J rfl<|C rfl ?_
    obtain ⟨x46,hx46,h⟩:=I h
    refine Z rfl rfl rfl hx46 rfl<|J rfl ?_
    obtain ⟨x48,hx48,h⟩:=I h
    refine S rfl (c108 x46 _ hx48)<|b6 rfl<|E (kt<|kt<|kt<|kt<|kn) fun _=>?_
    refine T rfl (fun hc49=>?_) (fun hc49=>?_)
    ·replace h:=M hc49 h
     refine D<|F<|C rfl<|E (kt<|kn) fun _=>?_
     refine L ?_
     cases h
     exact ⟨_,rfl,rfl⟩
    ·replace h:=O hc49 h
     refine P (kt<|kt<|kt<|kn) fun _=>?_
     refine D<|F<|K rfl<|J rfl<|C rfl ?_
     obtain ⟨x53,hx53,h⟩:=I h
     refine Z rfl rfl rfl hx53 rfl<|a8 rfl<|J rfl<|C rfl<|E (kt<|kt<|kt<|kt<|kn) fun _=>?_
     refine D<|d1 rfl<|C rfl<|d8 rfl rfl<|C rfl ?_
     obtain ⟨x70,hx70,h⟩:=I h
     refine gX 12 [59,60,61,62,63,64,65,66,67,68,69] 70 x70 (decide (0<=x53.Parent)) (fun hg70=>?_) (fun hg70=>?_) ?_
     ·replace h:=M hg70 hx70
      refine G rfl hg70<|K rfl<|G rfl hg70<|J rfl<|G rfl hg70<|C rfl ?_
      obtain ⟨x62,hx62,h⟩:=I h
      refine G rfl hg70<|Z rfl rfl rfl hx62 rfl<|G rfl hg70<|J rfl<|G rfl hg70<|K rfl<|G rfl hg70<|J rfl<|G rfl hg70<|C rfl ?_
      obtain ⟨x67,hx67,h⟩:=I h
      refine G rfl hg70<|Z rfl rfl rfl hx67 rfl<|G rfl hg70<|J rfl<|G rfl hg70<|b1 rfl rfl ?_
      cases h
      refine X rfl hg70 rfl ?_
      exact ⟨⟨_,_,_,_,_,_,_,_,_,_,_,rfl⟩⟩
     ·replace h:=O hg70 hx70
      cases h
      refine H rfl hg70<|H rfl hg70<|H rfl hg70<|H rfl hg70<|H rfl hg70<|H rfl hg70<|H rfl hg70<|H rfl hg70<|H rfl hg70<|H rfl hg70<|H rfl hg70<|Y rfl hg70 rfl ?_
      exact ⟨⟨_,_,_,_,_,_,_,_,_,_,_,rfl⟩⟩
     rintro _ ⟨_,_,_,_,_,_,_,_,_,_,_,rfl⟩
     refine E (kt<|kt<|kt<|kt<|kn) fun _=>?_
     refine T rfl (fun hc70=>?_) (fun hc70=>?_)
     ·replace h:=M hc70 h
      refine D<|F<|C rfl<|E (kt<|kn) fun _=>?_
      refine L ?_
      cases h
      exact ⟨_,rfl,rfl⟩
     ·replace h:=O hc70 h
      refine P (kt<|kt<|kt<|kn) fun _=>?_
      refine F<|C rfl<|a6 rfl rfl<|C rfl<|E (kt<|kt<|kt<|kn) ?_
      cases h
      refine ⟨_,rfl,?_⟩
      rw [Ktv rfl (Ktv rfl (Ktv rfl (Knil _)))]
      rw [b4 (a5 (hw0 7)) hi0 (f8 (g7 (g8 (hw0 2)) (i:=0) rfl) rfl)]
      all_goals rfl
   ·intro i0 s0 hi0
    refine D<|D<|F<|C rfl<|K rfl<|J rfl<|U rfl rfl<|V rfl rfl<|E (kt<|kt<|kt<|kt<|kn) fun _=>?_
    refine b9 rfl (d0 hi0)<|b3 (kt<|kt<|kn) ?_
    exact ⟨rfl,rfl⟩
   ·intro s0 hs
    replace h:=d5 h hs
    intro _
    refine D<|D<|F<|C rfl<|E (kt<|kt<|kt<|kn) fun _=>?_
    obtain ⟨o2,ho2,h⟩:=d4 h
    refine e1 ho2 (fun (i2:Int) (_:Unit)=>[(2,.tv (.pt (eTypes t).cells)),(3,.tv (.pt (eSorts s_1).cells)),(9,.tv (eI i2))]) (fun (_:Unit)=>[]) (fun zv ze=>resIs ([.tmp 4]) (.sh (eI zv)) ze) rfl ?_ ?_ ?_ ?_
    ·clear h ho2
     intro i2 s2 r2 hi2 h hw2
     refine D<|D<|F<|C rfl<|K rfl<|J rfl<|U rfl rfl<|V rfl rfl<|E (kt<|kt<|kt<|kt<|kn) fun _=>?_
     refine b7 rfl (b8 hi2)<|P (kt<|kt<|kt<|kn) fun _=>?_
     refine D<|b0<|D<|D<|F<|K rfl<|J rfl<|C rfl ?_
     obtain ⟨x81,hx81,h⟩:=I h
     refine Z rfl rfl rfl hx81 rfl<|J rfl ?_
     obtain ⟨x83,hx83,h⟩:=I h
     refine S rfl (c108 x81 _ hx83)<|b6 rfl<|E (kt<|kt<|kt<|kt<|kn) fun _=>?_
     refine T rfl (fun hc84=>?_) (fun hc84=>?_)
     ·replace h:=M hc84 h
      refine D<|F<|C rfl<|E (kt<|kn) fun _=>?_
      refine L ?_
      cases h
      exact ⟨_,rfl,rfl⟩
     ·replace h:=O hc84 h
      refine P (kt<|kt<|kt<|kn) fun _=>?_
      refine D<|d1 rfl<|K rfl<|J rfl<|K rfl<|J rfl<|C rfl ?_
      obtain ⟨x90,hx90,h⟩:=I h
      refine Z rfl rfl rfl hx90 rfl<|a8 rfl<|J rfl ?_
      obtain ⟨x93,hx93,h⟩:=I h
      refine Z rfl rfl rfl hx93 rfl<|J rfl<|K rfl<|J rfl<|K rfl<|J rfl<|C rfl ?_
      obtain ⟨x100,hx100,h⟩:=I h
      refine Z rfl rfl rfl hx100 rfl<|a8 rfl<|J rfl ?_
      obtain ⟨x103,hx103,h⟩:=I h
      refine Z rfl rfl rfl hx103 rfl<|J rfl<|C rfl<|C rfl<|E (kt<|kt<|kt<|kt<|kt<|kn) fun _=>?_
      refine D<|F<|C rfl<|K rfl<|J rfl<|C rfl ?_
      obtain ⟨x109,hx109,h⟩:=I h
      refine Z rfl rfl rfl hx109 rfl<|J rfl<|b1 rfl rfl<|C rfl ?_
      obtain ⟨x128,hx128,h⟩:=I h
      refine gX 16 [113,114,115,116,117,118,119,120,121,122,123,124,125,126,127] 128 x128 (!decide (x93=x109)) (fun hg128=>?_) (fun hg128=>?_) ?_
      ·replace h:=M hg128 hx128
       cases h
       refine H rfl hg128<|H rfl hg128<|H rfl hg128<|H rfl hg128<|H rfl hg128<|H rfl hg128<|H rfl hg128<|b5 rfl<|b5 rfl<|b5 rfl<|b5 rfl<|b5 rfl<|b5 rfl<|b5 rfl<|H rfl hg128<|X rfl hg128 rfl ?_
       exact ⟨⟨_,_,_,_,_,_,_,_,_,_,_,_,_,_,_,rfl⟩⟩
      ·replace h:=O hg128 hx128
       refine G rfl hg128<|K rfl<|G rfl hg128<|J rfl<|G rfl hg128<|C rfl ?_
       obtain ⟨x116,hx116,h⟩:=I h
       refine G rfl hg128<|Z rfl rfl rfl hx116 rfl<|G rfl hg128<|J rfl<|G rfl hg128<|b1 rfl rfl<|G rfl hg128<|C rfl ?_
       obtain ⟨x127,hx127,h⟩:=I h
       refine gX 8 [120,121,122,123,124,125,126] 127 x127 (!decide (x116=2)) (fun hg127=>?_) (fun hg127=>?_) ?_
       ·replace h:=M hg127 hx127
        refine G rfl hg127<|C rfl<|G rfl hg127<|K rfl<|G rfl hg127<|J rfl<|G rfl hg127<|C rfl ?_
        obtain ⟨x124,hx124,h⟩:=I h
        refine G rfl hg127<|Z rfl rfl rfl hx124 rfl<|G rfl hg127<|J rfl<|G rfl hg127<|b1 rfl rfl ?_
        cases h
        refine G rfl hg128<|X rfl hg127 rfl ?_
        exact ⟨⟨_,_,_,_,_,_,_,rfl⟩⟩
       ·replace h:=O hg127 hx127
        cases h
        refine H rfl hg127<|H rfl hg127<|H rfl hg127<|H rfl hg127<|H rfl hg127<|H rfl hg127<|H rfl hg127<|G rfl hg128<|Y rfl hg127 rfl ?_
        exact ⟨⟨_,_,_,_,_,_,_,rfl⟩⟩
       rintro _ ⟨_,_,_,_,_,_,_,rfl⟩
       cases h
       refine Y rfl hg128 rfl ?_
       exact ⟨⟨_,_,_,_,_,_,_,_,_,_,_,_,_,_,_,rfl⟩⟩
      rintro _ ⟨_,_,_,_,_,_,_,_,_,_,_,_,_,_,_,rfl⟩
      refine C rfl ?_
      obtain ⟨x140,hx140,h⟩:=I h
      refine gX 11 [130,131,132,133,134,135,136,137,138,139] 140 x140 x128 (fun hg140=>?_) (fun hg140=>?_) ?_
      ·replace h:=M hg140 hx140
       cases h
       refine H rfl hg140<|H rfl hg140<|H rfl hg140<|H rfl hg140<|H rfl hg140<|H rfl hg140<|H rfl hg140<|b5 rfl<|b5 rfl<|H rfl hg140<|X rfl hg140 rfl ?_
       exact ⟨⟨_,_,_,_,_,_,_,_,_,_,rfl⟩⟩
      ·replace h:=O hg140 hx140
       refine G rfl hg140<|K rfl<|G rfl hg140<|J rfl<|G rfl hg140<|C rfl ?_
       obtain ⟨x133,hx133,h⟩:=I h
       refine G rfl hg140<|Z rfl rfl rfl hx133 rfl<|G rfl hg140<|J rfl<|G rfl hg140<|d2 rfl rfl<|G rfl hg140<|C rfl ?_
       refine gA 3 [137,138] 139 (decide (x133=2)) (decide (x103=2)) (fun hg139=>?_) (fun hg139=>?_) ?_
       ·refine G rfl hg139<|C rfl<|G rfl hg139<|d2 rfl rfl<|G rfl hg140<|X rfl hg139 rfl ?_
        exact ⟨⟨_,_,rfl⟩⟩
       ·refine H rfl hg139<|H rfl hg139<|G rfl hg140<|Y rfl hg139 rfl ?_
        exact ⟨⟨_,_,rfl⟩⟩
       rintro _ ⟨_,_,rfl⟩
       cases h
       refine Y rfl hg140 rfl ?_
       exact ⟨⟨_,_,_,_,_,_,_,_,_,_,rfl⟩⟩
      rintro _ ⟨_,_,_,_,_,_,_,_,_,_,rfl⟩
      refine E (kt<|kt<|kt<|kt<|kn) fun _=>?_
      refine T rfl (fun hc140=>?_) (fun hc140=>?_)
      ·replace h:=M hc140 h
       refine D<|F<|C rfl<|E (kt<|kn) fun _=>?_
       refine L ?_
       cases h
       exact ⟨_,rfl,rfl⟩
      ·replace h:=O hc140 h
       refine P (kt<|kt<|kt<|kn) fun _=>?_
       refine F<|C rfl<|a6 rfl rfl<|C rfl<|E (kt<|kt<|kt<|kn) ?_
       cases h
       refine ⟨_,rfl,?_⟩
       rw [Ktv rfl (Ktv rfl (Ktv rfl (Knil _)))]
       rw [b4 (a5 (hw2 9)) hi2 (f8 (g7 (g8 (hw2 2)) (i:=1) rfl) rfl)]
       all_goals rfl
    ·intro i2 s2 hi2
     refine D<|D<|F<|C rfl<|K rfl<|J rfl<|U rfl rfl<|V rfl rfl<|E (kt<|kt<|kt<|kt<|kn) fun _=>?_
     refine b9 rfl (d0 hi2)<|b3 (kn) ?_
     exact ⟨rfl,rfl⟩
    ·intro s2 hs
     replace h:=d5 h hs
     intro _
     refine D<|F<|C rfl<|E (kt<|kn) fun _=>?_
     exact L (by cases h;rfl)
    ·intro v2 ze hv hR
     replace h:=d6 h hv
     cases h
     exact hR
   ·intro v0 ze hv hR
    replace h:=d6 h hv
    cases h
    exact hR
theorem ck73:CK f73 (Rq [Bf 2 1] [0]<|Rq [Bf 3 1] [0,3]<|Sq (Rq [Ad 4 0] [0,3,4]<|Bl 0<|Lo [0,3,4]<|Sq (Rq [Aa 5 4,Aa 6 0,Ah 7 6,Aq 8 5 7] [0,3,4,8]<|Co 8 (Sk [0,3,4])<|Ex 0 [3])<|Sq (Bl 1<|Re [Ba 11 3,Aa 12 0,Aa 13 4,Ag 14 12 13 1,Ab 15 14,⟨some 16,.bin (.i) .sub (.c (.int .i64 4)) (.s 15),none⟩,Be 17 1 16,Bb 18 1 11 17,Ba 3 18] [0,3,4])<|Re [Aa 9 4,Ap 10 9 1,Aa 4 10] [0,3,4])<|Rq [Aa 19 3,Ba 2 19] [2]<|.ret) [.tmp 2]:= by decide +kernel
theorem c73 (l:List Int) (r:(List Int)) (h:ref52_turned l=some r):Sound prog 73 [lI l] (.sh (lI r)):= by
 refine Fn ck73 fun hw=>?_
 unfold ref52_turned at h
 refine D<|F<|f0<|E (kt<|kn) fun _=>?_
 refine D<|F<|f0<|E (kt<|ko<|kn) fun _=>?_
 refine D<|D<|F<|C rfl<|E (kt<|ko<|kt<|kn) fun _=>?_
 obtain ⟨s0,hs0,h⟩:=I h
 refine f3 hs0 (fun (i0:Int) (s0:List Int)=>[(0,.tv (lI l)),(3,.ow (lI s0)),(4,.tv (eI i0))]) (fun (s0:List Int)=>[(3,.ow (lI s0))]) rfl ?_ ?_ ?_
 ·clear h hs0
  intro i0 s0 r0 hi0 h hw0
  refine D<|D<|F<|C rfl<|C rfl<|U rfl rfl<|V rfl rfl<|E (kt<|ko<|kt<|kt<|kn) fun _=>?_
  refine b7 rfl (b8 hi0)<|P (kt<|ko<|kt<|kn) fun _=>?_
  refine D<|b0<|F<|e9 rfl<|C rfl<|C rfl ?_
  obtain ⟨x14,hx14,h⟩:=I h
  refine Z rfl rfl rfl hx14 rfl<|J rfl<|f6 rfl rfl<|d7 (e:=eI) (l:=[w64 (4 - x14)]) rfl rfl (fun _=>rfl) ?_
  obtain ⟨x18,hx18,h⟩:=I h
  refine e4 rfl rfl rfl rfl hx18 rfl<|e9 rfl<|E (kt<|ko<|kt<|kn) fun _=>?_
  refine F<|C rfl<|a6 rfl rfl<|C rfl<|E (kt<|ko<|kt<|kn) ?_
  cases h
  show Env.keep _ _=_
  rw [Ktv rfl (Kow rfl (Ktv rfl (Knil _)))]
  rw [b4 (a5 (hw0 4)) hi0 (f8 (a5 (hw0 0)) rfl)]
  all_goals rfl
 ·intro i0 s0 hi0
  refine D<|D<|F<|C rfl<|C rfl<|U rfl rfl<|V rfl rfl<|E (kt<|ko<|kt<|kt<|kn) fun _=>?_
  refine b9 rfl (d0 hi0)<|b3 (ko<|kn) ?_
  exact ⟨rfl,rfl⟩
 ·intro _
  refine D<|F<|C rfl<|g2 rfl<|E (kt<|kn) fun _=>?_
  exact L (by cases h;rfl)
theorem ck40:CK f40 (Rq [Af 2 0,Af 3 1,Bc 4 1 1,Ad 5 0] [2,3,4]<|Sq (Rq [Ae 7 2 2,Ae 8 3 2,Al 9 57 7 8,Aa 6 9] [3,4,6]<|Rq [Aa 10 6,Ax 11 10 0] [3,4,6,11]<|Co 11 (Rq [Dj 12 1 1,Aa 13 6,Ai 2 4 12,Aa 5 13] [4,5]<|.ret)<|Sk [3,4])<|Sq (Dr [4,5,14,15,16,17,18,19,20] [Ac 14 3 0,Ab 15 14,At 16 73 15,Ac 17 3 1,Ab 18 17,At 19 73 18,Cd 20 1 1 0 1 16 1 1 19,Ai 2 4 20,Ad 5 0] [4,5])<|.ret) [.cell 4 (some 2),.tmp 5]:= by decide +kernel
theorem c40 (t:Types) (s_1:Sorts) (r:(Sorts × Int)) (h:ref52_Swap t s_1=some r):Sound prog 40 [eTypes t,eSorts s_1] (.tp [eSorts r.1,eI r.2]):= by
 refine Fn ck40 fun hw=>?_
 unfold ref52_Swap at h
 refine D<|F<|a3 rfl rfl<|a3 rfl rfl<|a9 rfl<|C rfl<|E (kt<|kt<|kb<|kn) fun _=>?_
 refine D<|D<|F<|R rfl rfl (show _=eTypes t from rfl)<|R rfl rfl (show _=eSorts s_1 from rfl) ?_
 obtain ⟨x9,hx9,h⟩:=I h
 refine S rfl (c57 t s_1 _ hx9)<|C rfl<|E (kt<|kb<|kt<|kn) fun _=>?_
 refine D<|F<|C rfl<|b1 rfl rfl<|E (kt<|kb<|kt<|kt<|kn) fun _=>?_
 refine T rfl (fun hc11=>?_) (fun hc11=>?_)
 ·replace h:=M hc11 h
  refine D<|F<|e6 rfl rfl (show _=eSorts (Sorts.mk [] []) from rfl)<|C rfl<|a7 rfl rfl rfl rfl rfl<|C rfl<|E (kb<|kt<|kn) fun _=>?_
  refine L ?_
  cases h
  exact ⟨by decide,rfl⟩
 ·replace h:=O hc11 h
  refine P (kt<|kb<|kn) fun _=>?_
  refine D<|d1 rfl<|K rfl<|J rfl ?_
  obtain ⟨x16,hx16,h⟩:=I h
  refine S rfl (c73 s_1.Nodes _ hx16)<|K rfl<|J rfl ?_
  obtain ⟨x19,hx19,h⟩:=I h
  refine S rfl (c73 s_1.Edges _ hx19)<|g1 rfl rfl rfl (show _=eSorts (Sorts.mk x16 x19) from rfl)<|a7 rfl rfl rfl rfl rfl<|C rfl<|E (kb<|kt<|kn) fun _=>?_
  refine L ?_
  cases h
  exact ⟨by decide,rfl⟩
theorem ck7:CK f7 (Rq [Af 1 0,Ak 2] [1]<|Sq (Rq [Cv 18 9,Ay 19 18,Aa 20 19,Df 21 1 4 20,Ec 22 25 21 20,Bq 23 22 20,Au 24 20 23] [1,24]<|Co 24 (Rq [Cv 25 9,Aa 2 25] [2]<|.ret)<|Sk [1])<|Rq [Cv 27 26,Aa 26 27,Ao 28 26 0,Ao 29 26 1,Bc 3 4 7,Bc 4 1 1,Ai 2 3 28,Ai 2 4 29] [1,3,4]<|Rq [Ae 30 1 4,At 31 27 30,Br 5 1 3 4 0 5 1 3 4 0 5 1 1 1 1 0 9 1 1 1 3 4 0 5,Ai 25 5 31] [3,4,5]<|Rq [Ae 33 3 2,Ae 34 4 2,Al 35 40 33 34,Aa 32 35,Ao 36 32 0,Ao 37 32 1,Bc 6 1 1,Ai 2 6 36,Aa 7 37] [3,4,5,6,7]<|Rq [Ae 39 3 2,Ae 40 6 2,Ae 41 5 25,Bg 42 18 39 40 41,Aa 38 42,Ao 43 38 0,Ao 44 38 1,Ao 45 38 2,Br 8 1 3 4 0 5 1 3 4 0 5 1 1 1 1 0 9 1 1 1 3 4 0 5,Bc 9 1 1,Ai 25 8 43,Ai 2 9 44,Aa 10 45] [3,4,5,6,7,8,9,10]<|Rq [Ae 47 3 2,Ae 48 4 2,Ae 49 5 25,Bg 50 20 47 48 49,Aa 46 50,Ao 51 46 0,Ao 52 46 1,Ao 53 46 2,Br 11 1 3 4 0 5 1 3 4 0 5 1 1 1 1 0 9 1 1 1 3 4 0 5,Bc 12 1 1,Ai 25 11 51,Ai 2 12 52,Aa 13 53] [3,4,5,6,7,8,9,10,11,12,13]<|Rq [Ae 55 3 2,Ae 56 6 2,Ae 57 5 25,Bg 58 11 55 56 57,Aa 54 58,Ao 59 54 0,Ao 60 54 1,Br 14 1 3 4 0 5 1 3 4 0 5 1 1 1 1 0 9 1 1 1 3 4 0 5,Ai 25 14 59,Aa 15 60] [3,4,5,7,8,9,10,11,12,13,14,15]<|Rq [Ae 62 3 2,Ae 63 4 2,Ae 64 5 25,Bg 65 13 62 63 64,Aa 61 65,Ao 66 61 0,Ao 67 61 1,Br 16 1 3 4 0 5 1 3 4 0 5 1 1 1 1 0 9 1 1 1 3 4 0 5,Ai 25 16 66,Aa 17 67] [7,8,9,10,11,12,13,14,15,16,17]<|Rq [Aa 68 7,Bh 69 68 0,Aa 70 69,Am 71 10 70,Cm 72 71 0 70,An 73 70 72,Aa 74 73,Am 75 13 74,Cm 76 75 0 74,An 77 74 76,Aa 78 77,Am 79 15 78,Cm 80 79 0 78,An 81 78 80,Aa 82 81,Am 83 17 82,Cm 84 83 0 82,An 85 82 84,Aa 86 85,Bk 87 8 25 86,Bk 88 11 25 86,Bn 89 17 87 88 86,An 90 86 89,Aa 91 90,Bk 92 9 2 91,Bk 93 12 2 91,Bn 94 22 92 93 91,An 95 91 94,Aa 96 95,Bk 97 14 25 96,Bk 98 16 25 96,Bn 99 17 97 98 96,An 100 96 99,Aa 2 100] [2]<|.ret) [.tmp 2]:= by decide +kernel
theorem c7 (d:ref53_Draft) (r:Bool) (h:law53_TripleruleSwapped d=some r):Sound prog 7 [eref53_Draft d] (.sh (eB r)):= by
 refine Fn ck7 fun hw=>?_
 unfold law53_TripleruleSwapped at h
 refine D<|F<|a3 rfl rfl<|C rfl<|E (kt<|kn) fun _=>?_
 refine D<|D<|F ?_
 obtain ⟨x18,hx18,h⟩:=I h
 refine S rfl (c9  _ hx18)<|b6 rfl<|C rfl ?_
 obtain ⟨x24,hx24,h⟩:=I h
 refine gX 4 [21,22,23] 24 x24 (!x18) (fun hg24=>?_) (fun hg24=>?_) ?_
 ·replace h:=M hg24 hx24
  cases h
  refine H rfl hg24<|H rfl hg24<|H rfl hg24<|X rfl hg24 rfl ?_
  exact ⟨⟨_,_,_,rfl⟩⟩
 ·replace h:=O hg24 hx24
  refine G rfl hg24<|R rfl rfl (show _=eref53_Draft d from rfl) ?_
  obtain ⟨x22,hx22,h⟩:=I h
  refine G rfl hg24<|S rfl (c25 d _ hx22)<|G rfl hg24<|b6 rfl ?_
  cases h
  refine Y rfl hg24 rfl ?_
  exact ⟨⟨_,_,_,rfl⟩⟩
 rintro _ ⟨_,_,_,rfl⟩
 refine E (kt<|kt<|kn) fun _=>?_
 refine T rfl (fun hc24=>?_) (fun hc24=>?_)
 ·replace h:=M hc24 h
  refine D<|F ?_
  obtain ⟨x25,hx25,h⟩:=I h
  refine S rfl (c9  _ hx25)<|C rfl<|E (kt<|kn) fun _=>?_
  exact L (by cases h;rfl)
 ·replace h:=O hc24 h
  refine P (kt<|kn) fun _=>?_
  refine D<|F ?_
  obtain ⟨x27,hx27,h⟩:=I h
  refine e5 rfl (c26  _ hx27)<|e8 rfl<|b2 rfl rfl<|b2 rfl rfl<|a9 rfl<|a9 rfl<|a7 rfl rfl rfl rfl rfl<|a7 rfl rfl rfl rfl rfl<|E (kt<|kb<|kb<|kn) fun _=>?_
  refine D<|F<|R rfl rfl (show _=eref53_Draft d from rfl) ?_
  obtain ⟨x31,hx31,h⟩:=I h
  refine S rfl (c27 d _ hx31)<|a9 rfl<|a7 rfl rfl rfl rfl rfl<|E (kb<|kb<|kb<|kn) fun _=>?_
  refine D<|F<|R rfl rfl (show _=eTypes x27.1 from rfl)<|R rfl rfl (show _=eSorts x27.2 from rfl) ?_
  obtain ⟨x35,hx35,h⟩:=I h
  refine e5 rfl (c40 x27.1 x27.2 _ hx35)<|e8 rfl<|b2 rfl rfl<|b2 rfl rfl<|a9 rfl<|a7 rfl rfl rfl rfl rfl<|C rfl<|E (kb<|kb<|kb<|kb<|kt<|kn) fun _=>?_
  refine D<|F<|R rfl rfl (show _=eTypes x27.1 from rfl)<|R rfl rfl (show _=eSorts x35.1 from rfl)<|R rfl rfl (show _=eRule x31 from rfl) ?_
  obtain ⟨x42,hx42,h⟩:=I h
  refine e5 rfl (c18 x27.1 x35.1 x31 _ hx42)<|e8 rfl<|b2 rfl rfl<|b2 rfl rfl<|b2 rfl rfl<|a9 rfl<|a9 rfl<|a7 rfl rfl rfl rfl rfl<|a7 rfl rfl rfl rfl rfl<|C rfl<|E (kb<|kb<|kb<|kb<|kt<|kb<|kb<|kt<|kn) fun _=>?_
  refine D<|F<|R rfl rfl (show _=eTypes x27.1 from rfl)<|R rfl rfl (show _=eSorts x27.2 from rfl)<|R rfl rfl (show _=eRule x31 from rfl) ?_
  obtain ⟨x50,hx50,h⟩:=I h
  refine e5 rfl (c20 x27.1 x27.2 x31 _ hx50)<|e8 rfl<|b2 rfl rfl<|b2 rfl rfl<|b2 rfl rfl<|a9 rfl<|a9 rfl<|a7 rfl rfl rfl rfl rfl<|a7 rfl rfl rfl rfl rfl<|C rfl<|E (kb<|kb<|kb<|kb<|kt<|kb<|kb<|kt<|kb<|kb<|kt<|kn) fun _=>?_
  refine D<|F<|R rfl rfl (show _=eTypes x27.1 from rfl)<|R rfl rfl (show _=eSorts x35.1 from rfl)<|R rfl rfl (show _=eRule x31 from rfl) ?_
  obtain ⟨x58,hx58,h⟩:=I h
  refine e5 rfl (c11 x27.1 x35.1 x31 _ hx58)<|e8 rfl<|b2 rfl rfl<|b2 rfl rfl<|a9 rfl<|a7 rfl rfl rfl rfl rfl<|C rfl<|E (kb<|kb<|kb<|kt<|kb<|kb<|kt<|kb<|kb<|kt<|kb<|kt<|kn) fun _=>?_
  refine D<|F<|R rfl rfl (show _=eTypes x27.1 from rfl)<|R rfl rfl (show _=eSorts x27.2 from rfl)<|R rfl rfl (show _=eRule x31 from rfl) ?_
  obtain ⟨x65,hx65,h⟩:=I h
  refine e5 rfl (c13 x27.1 x27.2 x31 _ hx65)<|e8 rfl<|b2 rfl rfl<|b2 rfl rfl<|a9 rfl<|a7 rfl rfl rfl rfl rfl<|C rfl<|E (kt<|kb<|kb<|kt<|kb<|kb<|kt<|kb<|kt<|kb<|kt<|kn) fun _=>?_
  refine D<|F<|C rfl<|d2 rfl rfl<|C rfl ?_
  refine gA 3 [71,72] 73 (decide (x35.2=0)) (decide (x42.2.2=0)) (fun hg73=>?_) (fun hg73=>?_) ?_
  ·refine G rfl hg73<|C rfl<|G rfl hg73<|d2 rfl rfl<|X rfl hg73 rfl ?_
   exact ⟨⟨_,_,rfl⟩⟩
  ·refine H rfl hg73<|H rfl hg73<|Y rfl hg73 rfl ?_
   exact ⟨⟨_,_,rfl⟩⟩
  rintro _ ⟨_,_,rfl⟩
  refine C rfl ?_
  refine gA 3 [75,76] 77 ((decide (x35.2=0))&&(decide (x42.2.2=0))) (decide (x50.2.2=0)) (fun hg77=>?_) (fun hg77=>?_) ?_
  ·refine G rfl hg77<|C rfl<|G rfl hg77<|d2 rfl rfl<|X rfl hg77 rfl ?_
   exact ⟨⟨_,_,rfl⟩⟩
  ·refine H rfl hg77<|H rfl hg77<|Y rfl hg77 rfl ?_
   exact ⟨⟨_,_,rfl⟩⟩
  rintro _ ⟨_,_,rfl⟩
  refine C rfl ?_
  refine gA 3 [79,80] 81 (((decide (x35.2=0))&&(decide (x42.2.2=0)))&&(decide (x50.2.2=0))) (decide (x58.2=0)) (fun hg81=>?_) (fun hg81=>?_) ?_
  ·refine G rfl hg81<|C rfl<|G rfl hg81<|d2 rfl rfl<|X rfl hg81 rfl ?_
   exact ⟨⟨_,_,rfl⟩⟩
  ·refine H rfl hg81<|H rfl hg81<|Y rfl hg81 rfl ?_
   exact ⟨⟨_,_,rfl⟩⟩
  rintro _ ⟨_,_,rfl⟩
  refine C rfl ?_
  refine gA 3 [83,84] 85 ((((decide (x35.2=0))&&(decide (x42.2.2=0)))&&(decide (x50.2.2=0)))&&(decide (x58.2=0))) (decide (x65.2=0)) (fun hg85=>?_) (fun hg85=>?_) ?_
  ·refine G rfl hg85<|C rfl<|G rfl hg85<|d2 rfl rfl<|X rfl hg85 rfl ?_
   exact ⟨⟨_,_,rfl⟩⟩
  ·refine H rfl hg85<|H rfl hg85<|Y rfl hg85 rfl ?_
   exact ⟨⟨_,_,rfl⟩⟩
  rintro _ ⟨_,_,rfl⟩
  refine C rfl ?_
  obtain ⟨x90,hx90,h⟩:=I h
  refine gX 4 [87,88,89] 90 x90 (((((decide (x35.2=0))&&(decide (x42.2.2=0)))&&(decide (x50.2.2=0)))&&(decide (x58.2=0)))&&(decide (x65.2=0))) (fun hg90=>?_) (fun hg90=>?_) ?_
  ·replace h:=M hg90 hx90
   refine G rfl hg90<|R rfl rfl (show _=eRule x42.1 from rfl)<|G rfl hg90<|R rfl rfl (show _=eRule x50.1 from rfl) ?_
   obtain ⟨x89,hx89,h⟩:=I h
   refine G rfl hg90<|S rfl (c17 x42.1 x50.1 _ hx89) ?_
   cases h
   refine X rfl hg90 rfl ?_
   exact ⟨⟨_,_,_,rfl⟩⟩
  ·replace h:=O hg90 hx90
   cases h
   refine H rfl hg90<|H rfl hg90<|H rfl hg90<|Y rfl hg90 rfl ?_
   exact ⟨⟨_,_,_,rfl⟩⟩
  rintro _ ⟨_,_,_,rfl⟩
  refine C rfl ?_
  obtain ⟨x95,hx95,h⟩:=I h
  refine gX 4 [92,93,94] 95 x95 x90 (fun hg95=>?_) (fun hg95=>?_) ?_
  ·replace h:=M hg95 hx95
   refine G rfl hg95<|R rfl rfl (show _=ePart x42.2.1 from rfl)<|G rfl hg95<|R rfl rfl (show _=ePart x50.2.1 from rfl) ?_
   obtain ⟨x94,hx94,h⟩:=I h
   refine G rfl hg95<|S rfl (c22 x42.2.1 x50.2.1 _ hx94) ?_
   cases h
   refine X rfl hg95 rfl ?_
   exact ⟨⟨_,_,_,rfl⟩⟩
  ·replace h:=O hg95 hx95
   cases h
   refine H rfl hg95<|H rfl hg95<|H rfl hg95<|Y rfl hg95 rfl ?_
   exact ⟨⟨_,_,_,rfl⟩⟩
  rintro _ ⟨_,_,_,rfl⟩
  refine C rfl ?_
  obtain ⟨x100,hx100,h⟩:=I h
  refine gX 4 [97,98,99] 100 x100 x95 (fun hg100=>?_) (fun hg100=>?_) ?_
  ·replace h:=M hg100 hx100
   refine G rfl hg100<|R rfl rfl (show _=eRule x58.1 from rfl)<|G rfl hg100<|R rfl rfl (show _=eRule x65.1 from rfl) ?_
   obtain ⟨x99,hx99,h⟩:=I h
   refine G rfl hg100<|S rfl (c17 x58.1 x65.1 _ hx99) ?_
   cases h
   refine X rfl hg100 rfl ?_
   exact ⟨⟨_,_,_,rfl⟩⟩
  ·replace h:=O hg100 hx100
   cases h
   refine H rfl hg100<|H rfl hg100<|H rfl hg100<|Y rfl hg100 rfl ?_
   exact ⟨⟨_,_,_,rfl⟩⟩
  rintro _ ⟨_,_,_,rfl⟩
  refine C rfl<|E (kt<|kn) fun _=>?_
  exact L (by cases h;rfl)
end Go.Sf.Sc
