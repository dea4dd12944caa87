/- Contracts of the functions. -/
import Derived.Test.YtmaobfbhdkafkaaGreatCon1
import Derived.Test.YtmaobfbhdkafkaaGreatTryzShelf
import Derived.Test.YtmaobfbhdkafkaaGreatRp
set_option maxRecDepth 100000
namespace Go.Sf.Sc
open Go Go.Sf Go.Proofs.Tryz
theorem ck12:CK f12 (Rq [Af 1 0,Aj 2] [1]<|Sq (Rq [Ac 9 1 0,Ab 10 9,Ag 11 10,Bf 12 11 20,Aa 13 12,Ap 14 1 1 13,An 15 14 13,Be 16 15 13,Br 17 16 30 13,Ar 18 13 17] [1,18]<|Co 18 (Rq [Aj 2] [2]<|.ret)<|Sk [1])<|Rq [Ad 3 0] [1,3]<|Sq (Rq [Ad 4 0] [1,3,4]<|Bl 0<|Lo [1,3,4]<|Sq (Rq [Aa 19 4,Ac 20 1 0,Ab 21 20,Ag 22 21,Am 23 19 22] [1,3,4,23]<|Co 23 (Sk [1,3,4])<|Ex 0 [1])<|Sq (Bl 1<|Rq [Aa 26 3,Ac 27 1 0,Ab 28 27,Aa 29 4,Ai 30 28 29 4,Ah 31 30 3,Ab 32 31,Ag 33 32,Bi 34 26 33,Aa 3 34] [1,3,4]<|Sq (Rq [Aa 35 3,Bf 36 35 30,Aa 37 36,Ap 38 1 0 37,An 39 38 37,Aw 40 4 37,Bw 41 39 40 4 37,Bq 42 41 0 37,An 43 42 37,⟨some 44,.slen (.s 43),some (37,false)⟩,Br 45 44 40 37,Ar 46 37 45] [1,3,4,46]<|Co 46 (Rq [Aj 2] [2]<|.ret)<|Sk [1,3,4])<|Rq [Ad 5 0] [1,3,4,5]<|Bl 2<|Lo [1,3,4,5]<|Sq (Rq [Aa 47 5,Ac 48 1 0,Ab 49 48,Aa 50 4,Ai 51 49 50 4,Ah 52 51 3,Ab 53 52,Ag 54 53,Am 55 47 54] [1,3,4,5,55]<|Co 55 (Sk [1,3,4,5])<|Ex 2 [1,3,4])<|Sq (Bl 3<|Rq [Ac 58 1 0,Ab 59 58,Aa 60 4,Ai 61 59 60 4,Ah 62 61 3,Ab 63 62,Aa 64 5,Ai 65 63 64 4,Ae 66 65 4,Cy 6 0 0 1,Al 4 6 66] [1,3,4,5,6]<|Sq (Rq [Ac 67 6 0,Ab 68 67,Bx 69 68,Bf 70 69 40,Aa 71 70,Ap 72 6 3 71,An 73 72 71,Be 74 73 71,Br 75 74 25 71,Ar 76 71 75] [1,3,4,5,6,76]<|Co 76 (Rq [Aj 2] [2]<|.ret)<|Sk [1,3,4,5,6])<|Rq [Ad 7 0] [1,3,4,5,6,7]<|Bl 4<|Lo [1,3,4,5,6,7]<|Sq (Rq [Aa 77 7,Ac 78 6 3,Ab 79 78,Ag 80 79,Am 81 77 80] [1,3,4,5,6,7,81]<|Co 81 (Sk [1,3,4,5,6,7])<|Ex 4 [1,3,4,5])<|Sq (Bl 5<|Rq [Ac 84 6 3,Ab 85 84,Aa 86 7,Ai 87 85 86 1,Ab 88 87,Bx 89 88,Bf 90 89 40] [1,3,4,5,6,7,90]<|Co 90 (Rq [Aj 2] [2]<|.ret)<|Sk [1,3,4,5,6,7])<|Re [Aa 82 7,Ao 83 82 1,Aa 7 83] [1,3,4,5,6,7])<|Re [Aa 56 5,Ao 57 56 1,Aa 5 57] [1,3,4,5])<|Re [Aa 24 4,Ao 25 24 1,Aa 4 25] [1,3,4])<|Sq (Rq [Ad 8 0] [1,8]<|Bl 6<|Lo [1,8]<|Sq (Rq [Aa 91 8,Ac 92 1 1,Ab 93 92,Ag 94 93,Am 95 91 94] [1,8,95]<|Co 95 (Sk [1,8])<|Ex 6 [])<|Sq (Bl 7<|Rq [Ac 98 1 1,Ab 99 98,Aa 100 8,Ai 101 99 100 7,Ah 102 101 0,Ab 103 102,Bx 104 103,Bf 105 104 40] [1,8,105]<|Co 105 (Rq [Aj 2] [2]<|.ret)<|Sk [1,8])<|Re [Aa 96 8,Ao 97 96 1,Aa 8 97] [1,8])<|Rq [Bu 2] [2]<|.ret) [.tmp 2]:= by decide +kernel
theorem c12 (t:Types) (r:Bool) (h:ref04_Few t=some r):Sound prog 12 [eTypes t] (.sh (eB r)):= by
 refine Fn ck12 fun hw=>?_
 unfold ref04_Few at h
 refine E<|G<|Y B B<|D B<|F km1 fun _=>?_
 refine E<|E<|G<|M B<|K B<|V B B<|e8 B B<|D B ?_
 refine gO 5 [14,15,16,17] 18 (decide (20<(t.Nodes.length:Int))) (decide (30<(t.Edges.length:Int))) (fun hg18=>?_) (fun hg18=>?_) ?_
 ·refine I B hg18<|I B hg18<|I B hg18<|I B hg18<|a2 B hg18 B ?_
  exact ⟨⟨_,_,_,_,B⟩⟩
 ·refine H B hg18<|M B<|H B hg18<|K B<|H B hg18<|V B B<|H B hg18<|e8 B B<|a3 B hg18 B ?_
  exact ⟨⟨_,_,_,_,B⟩⟩
 rintro _ ⟨_,_,_,_,rfl⟩
 refine F km2 fun _=>?_
 refine U B (fun hc18=>?_) (fun hc18=>?_)
 ·replace h:=O hc18 h
  refine E<|G<|D B<|F km1 fun _=>?_
  exact L (by cases h;rfl)
 ·replace h:=R hc18 h
  refine T km1 fun _=>?_
  refine E<|G<|D B<|F km2 fun _=>?_
  refine E<|E<|G<|D B<|F km3 fun _=>?_
  obtain ⟨o0,ho0,h⟩:=d4 h
  refine e0 ho0 (fun (i0:Int) (s0:Int)=>[(1,.tv (.pt (eTypes t).cells)),(3,.tv (eI s0)),(4,.tv (eI i0))]) (fun (s0:Int)=>[(1,.tv (.pt (eTypes t).cells))]) (fun zv ze=>resIs ([.tmp 2]) (.sh (eB zv)) ze) B ?_ ?_ ?_ ?_
  ·clear h ho0
   intro i0 s0 r0 hi0 h hw0
   refine E<|E<|G<|D B<|M B<|K B<|V B B<|X B B<|F km4 fun _=>?_
   refine d0 B (d1 hi0)<|T km3 fun _=>?_
   refine E<|a9<|E<|G<|D B<|M B<|K B<|D B ?_
   obtain ⟨x30,hx30,h⟩:=J h
   refine a4 B B B hx30 B<|b8 B<|K B<|V B B<|a7 B B<|D B<|F km3 fun _=>?_
   refine E<|E<|G<|D B<|e8 B B<|D B ?_
   obtain ⟨x46,hx46,h⟩:=J h
   refine gX 9 [38,39,40,41,42,43,44,45] 46 x46 (decide (30<(w64 (s0+(x30.Attrs.length:Int))))) (fun hg46=>?_) (fun hg46=>?_) ?_
   ·replace h:=O hg46 hx46
    cases h
    refine I B hg46<|I B hg46<|I B hg46<|I B hg46<|I B hg46<|I B hg46<|I B hg46<|I B hg46<|a2 B hg46 B ?_
    exact ⟨⟨_,_,_,_,_,_,_,_,B⟩⟩
   ·replace h:=R hg46 hx46
    refine H B hg46<|M B<|H B hg46<|K B<|H B hg46<|D B ?_
    obtain ⟨x41,hx41,h⟩:=J h
    refine H B hg46<|a4 B B B hx41 B<|H B hg46<|b8 B<|H B hg46<|K B<|H B hg46<|g3 B<|H B hg46<|e8 B B ?_
    cases h
    refine a3 B hg46 B ?_
    exact ⟨⟨_,_,_,_,_,_,_,_,B⟩⟩
   rintro _ ⟨_,_,_,_,_,_,_,_,rfl⟩
   refine F km4 fun _=>?_
   refine U B (fun hc46=>?_) (fun hc46=>?_)
   ·replace h:=O hc46 h
    refine E<|G<|D B<|F km1 fun _=>?_
    refine L ?_
    cases h
    exact ⟨_,rfl,rfl⟩
   ·replace h:=R hc46 h
    refine T km3 fun _=>?_
    refine E<|G<|D B<|F km4 fun _=>?_
    obtain ⟨o2,ho2,h⟩:=d4 h
    refine l4 ho2 (fun (s2:Int)=>[(1,.tv (.pt (eTypes t).cells)),(3,.tv (eI (w64 (s0+(x30.Attrs.length:Int))))),(4,.tv (eI i0)),(5,.tv (eI s2))]) (fun (s2:Int)=>[(1,.tv (.pt (eTypes t).cells)),(3,.tv (eI (w64 (s0+(x30.Attrs.length:Int))))),(4,.tv (eI i0))]) (fun zv ze=>resIs ([.tmp 2]) (.sh (eB zv)) ze) B ?_ ?_ ?_
    ·clear h ho2
     intro s2 r2 h hw2
     refine E<|E<|G<|D B<|M B<|K B<|D B ?_
     obtain ⟨x51,hx51,h⟩:=J h
     refine a4 B B B hx51 B<|b8 B<|K B<|V B B<|X B B<|F km5 fun _=>?_
     refine U B (fun hc55=>?_) (fun hc55=>?_)
     ·replace h:=O hc55 h
      refine T km4 fun _=>?_
      refine E<|a9<|E<|G<|M B<|K B<|D B ?_
      obtain ⟨x61,hx61,h⟩:=J h
      refine a4 B B B hx61 B<|b8 B<|K B<|D B ?_
      obtain ⟨x65,hx65,h⟩:=J h
      refine a4 B B B hx65 B<|S B B (B:_=eAttr x65)<|d8 B<|b3 B B B B B<|F (kt<|kt<|kt<|kt<|kb<|kn) fun _=>?_
      refine E<|E<|G<|a6 B<|K B<|g3 B<|e8 B B<|D B ?_
      refine gO 5 [72,73,74,75] 76 (decide (40<(x65.Name.size:Int))) (decide (25<(x65.Names.length:Int))) (fun hg76=>?_) (fun hg76=>?_) ?_
      ·refine I B hg76<|I B hg76<|I B hg76<|I B hg76<|a2 B hg76 B ?_
       exact ⟨⟨_,_,_,_,B⟩⟩
      ·refine H B hg76<|a6 B<|H B hg76<|K B<|H B hg76<|V B B<|H B hg76<|e8 B B<|a3 B hg76 B ?_
       exact ⟨⟨_,_,_,_,B⟩⟩
      rintro _ ⟨_,_,_,_,rfl⟩
      refine F (kt<|kt<|kt<|kt<|kb<|kt<|kn) fun _=>?_
      refine U B (fun hc76=>?_) (fun hc76=>?_)
      ·replace h:=O hc76 h
       refine E<|G<|D B<|F km1 fun _=>?_
       refine L ?_
       cases h
       exact ⟨_,rfl,rfl⟩
      ·replace h:=R hc76 h
       refine T (kt<|kt<|kt<|kt<|kb<|kn) fun _=>?_
       refine E<|G<|D B<|F (kt<|kt<|kt<|kt<|kb<|kt<|kn) fun _=>?_
       obtain ⟨o4,ho4,h⟩:=d4 h
       refine l4 ho4 (fun (s4:Int)=>[(1,.tv (.pt (eTypes t).cells)),(3,.tv (eI (w64 (s0+(x30.Attrs.length:Int))))),(4,.tv (eI i0)),(5,.tv (eI s2)),(6,.bx [⟨false,eS x65.Name⟩,⟨false,eI x65.Low⟩,⟨false,eI x65.High⟩,⟨false,lB x65.Names⟩]),(7,.tv (eI s4))]) (fun (s4:Int)=>[(1,.tv (.pt (eTypes t).cells)),(3,.tv (eI (w64 (s0+(x30.Attrs.length:Int))))),(4,.tv (eI i0)),(5,.tv (eI s2))]) (fun zv ze=>resIs ([.tmp 2]) (.sh (eB zv)) ze) B ?_ ?_ ?_
       ·clear h ho4
        intro s4 r4 h hw4
        refine E<|E<|G<|D B<|a6 B<|K B<|V B B<|X B B<|F (kt<|kt<|kt<|kt<|kb<|kt<|kt<|kn) fun _=>?_
        refine U B (fun hc81=>?_) (fun hc81=>?_)
        ·replace h:=O hc81 h
         refine T (kt<|kt<|kt<|kt<|kb<|kt<|kn) fun _=>?_
         refine E<|a9<|E<|G<|a6 B<|K B<|D B ?_
         obtain ⟨x87,hx87,h⟩:=J h
         refine a4 B B B hx87 B<|K B<|g3 B<|e8 B B<|F (kt<|kt<|kt<|kt<|kb<|kt<|kt<|kn) fun _=>?_
         refine U B (fun hc90=>?_) (fun hc90=>?_)
         ·replace h:=O hc90 h
          refine E<|G<|D B<|F km1 fun _=>?_
          refine L ?_
          cases h
          exact ⟨_,rfl,rfl⟩
         ·replace h:=R hc90 h
          refine T (kt<|kt<|kt<|kt<|kb<|kt<|kn) fun _=>?_
          refine G<|D B<|a7 B B<|D B<|F (kt<|kt<|kt<|kt<|kb<|kt<|kn) ?_
          cases h
          refine ⟨_,B,?_⟩
          rw [Ktv rfl (Ktv rfl (Ktv rfl (Ktv rfl (Kbx rfl (Ktv rfl (Knil _))))))]
          all_goals rfl
        ·replace h:=R hc81 h
         refine b4 km4 ?_
         refine ⟨rfl,?_⟩
         cases h
         exact ⟨_,rfl,rfl⟩
       ·intro s4 hs
        replace h:=d5 h hs
        intro _
        refine G<|D B<|a7 B B<|D B<|F km4 ?_
        cases h
        refine ⟨_,B,?_⟩
        rw [Ktv rfl (Ktv rfl (Ktv rfl (Ktv rfl (Knil _))))]
        all_goals rfl
       ·intro v4 ze hv hR
        replace h:=d6 h hv
        cases h
        exact ⟨_,rfl,hR⟩
     ·replace h:=R hc55 h
      refine b4 km3 ?_
      refine ⟨rfl,?_⟩
      cases h
      exact ⟨_,rfl,rfl⟩
    ·intro s2 hs
     replace h:=d5 h hs
     intro _
     refine G<|D B<|a7 B B<|D B<|F km3 ?_
     cases h
     refine ⟨_,B,?_⟩
     rw [Ktv rfl (Ktv rfl (Ktv rfl (Knil _)))]
     rw [b6 (a5 (hw0 4)) hi0 (f5 (g0 (g1 (hw0 1)) (i:=0) rfl) rfl)]
     all_goals rfl
    ·intro v2 ze hv hR
     replace h:=d6 h hv
     cases h
     exact ⟨_,rfl,hR⟩
  ·intro i0 s0 hi0
   refine E<|E<|G<|D B<|M B<|K B<|V B B<|X B B<|F km4 fun _=>?_
   refine b9 B (d2 hi0)<|b4 km1 ?_
   exact ⟨rfl,rfl⟩
  ·intro s0 hs
   replace h:=d5 h hs
   intro _
   refine E<|E<|G<|D B<|F km2 fun _=>?_
   obtain ⟨o6,ho6,h⟩:=d4 h
   refine e0 ho6 (fun (i6:Int) (_:Unit)=>[(1,.tv (.pt (eTypes t).cells)),(8,.tv (eI i6))]) (fun (_:Unit)=>[]) (fun zv ze=>resIs ([.tmp 2]) (.sh (eB zv)) ze) B ?_ ?_ ?_ ?_
   ·clear h ho6
    intro i6 s6 r6 hi6 h hw6
    refine E<|E<|G<|D B<|M B<|K B<|V B B<|X B B<|F km3 fun _=>?_
    refine d0 B (d1 hi6)<|T km2 fun _=>?_
    refine E<|a9<|E<|G<|M B<|K B<|D B ?_
    obtain ⟨x101,hx101,h⟩:=J h
    refine a4 B B B hx101 B<|b8 B<|K B<|g3 B<|e8 B B<|F km3 fun _=>?_
    refine U B (fun hc105=>?_) (fun hc105=>?_)
    ·replace h:=O hc105 h
     refine E<|G<|D B<|F km1 fun _=>?_
     refine L ?_
     cases h
     exact ⟨_,rfl,rfl⟩
    ·replace h:=R hc105 h
     refine T km2 fun _=>?_
     refine G<|D B<|a7 B B<|D B<|F km2 ?_
     cases h
     refine ⟨_,B,?_⟩
     rw [Ktv rfl (Ktv rfl (Knil _))]
     rw [b6 (a5 (hw6 8)) hi6 (f5 (g0 (g1 (hw6 1)) (i:=1) rfl) rfl)]
     all_goals rfl
   ·intro i6 s6 hi6
    refine E<|E<|G<|D B<|M B<|K B<|V B B<|X B B<|F km3 fun _=>?_
    refine b9 B (d2 hi6)<|b4 kn ?_
    exact ⟨rfl,rfl⟩
   ·intro s6 hs
    replace h:=d5 h hs
    intro _
    refine E<|G<|D B<|F km1 fun _=>?_
    exact L (by cases h;rfl)
   ·intro v6 ze hv hR
    replace h:=d6 h hv
    cases h
    exact hR
  ·intro v0 ze hv hR
   replace h:=d6 h hv
   cases h
   exact hR
theorem ck38:CK f38 (Rq [Af 1 0,Aj 2] [1]<|Rq [Ac 3 1 0,Ab 4 3,Ag 5 4,⟨some 6,.bin (.i) .leq (.s 5) (.c (.int .i64 45)),none⟩,Aa 7 6,Ax 8 1 1 7,Ay 9 8 7,Cb 10 9 7,Cf 11 10 90 7,Aq 12 7 11,Aa 2 12] [2]<|.ret) [.tmp 2]:= by decide +kernel
theorem c38 (g:Graph) (r:Bool) (h:ref05_Few g=some r):Sound prog 38 [eGraph g] (.sh (eB r)):= by
 refine Fn ck38 fun hw=>?_
 unfold ref05_Few at h
 refine E<|G<|Y B B<|D B<|F km1 fun _=>?_
 refine E<|G<|M B<|K B<|V B B<|f4 B B<|D B ?_
 refine gA 5 [8,9,10,11] 12 (decide ((g.Nodes.length:Int)<=45)) (decide ((g.Edges.length:Int)<=90)) (fun hg12=>?_) (fun hg12=>?_) ?_
 ·refine H B hg12<|M B<|H B hg12<|K B<|H B hg12<|V B B<|H B hg12<|f4 B B<|a2 B hg12 B ?_
  exact ⟨⟨_,_,_,_,B⟩⟩
 ·refine I B hg12<|I B hg12<|I B hg12<|I B hg12<|a3 B hg12 B ?_
  exact ⟨⟨_,_,_,_,B⟩⟩
 rintro _ ⟨_,_,_,_,rfl⟩
 refine D B<|F km1 fun _=>?_
 exact L (by cases h;rfl)
theorem ck14:CK f14 (Rq [Af 1 0,Aj 2] [1]<|Rq [Ac 3 1 0,Ae 4 3 2,Av 5 38 4,Aa 6 5,Ax 7 1 2 6,Ay 8 7 6,Cb 9 8 6,Cf 10 9 15 6,Aq 11 6 10,Aa 12 11,Ax 13 1 4 12,Ay 14 13 12,Cb 15 14 12,Cf 16 15 15 12,Aq 17 12 16,Aa 2 17] [2]<|.ret) [.tmp 2]:= by decide +kernel
theorem c14 (p:Pattern) (r:Bool) (h:ref21_Few p=some r):Sound prog 14 [ePattern p] (.sh (eB r)):= by
 refine Fn ck14 fun hw=>?_
 unfold ref21_Few at h
 refine E<|G<|Y B B<|D B<|F km1 fun _=>?_
 refine E<|G<|M B<|S B B (B:_=eGraph p.Graph) ?_
 obtain ⟨x5,hx5,h⟩:=J h
 refine W B (c38 p.Graph _ hx5)<|D B ?_
 refine gA 5 [7,8,9,10] 11 x5 (decide ((p.Slots.length:Int)<=15)) (fun hg11=>?_) (fun hg11=>?_) ?_
 ·refine H B hg11<|M B<|H B hg11<|K B<|H B hg11<|V B B<|H B hg11<|f4 B B<|a2 B hg11 B ?_
  exact ⟨⟨_,_,_,_,B⟩⟩
 ·refine I B hg11<|I B hg11<|I B hg11<|I B hg11<|a3 B hg11 B ?_
  exact ⟨⟨_,_,_,_,B⟩⟩
 rintro _ ⟨_,_,_,_,rfl⟩
 refine D B ?_
 refine gA 5 [13,14,15,16] 17 (x5&&(decide ((p.Slots.length:Int)<=15))) (decide ((p.Tests.length:Int)<=15)) (fun hg17=>?_) (fun hg17=>?_) ?_
 ·refine H B hg17<|M B<|H B hg17<|K B<|H B hg17<|V B B<|H B hg17<|f4 B B<|a2 B hg17 B ?_
  exact ⟨⟨_,_,_,_,B⟩⟩
 ·refine I B hg17<|I B hg17<|I B hg17<|I B hg17<|a3 B hg17 B ?_
  exact ⟨⟨_,_,_,_,B⟩⟩
 rintro _ ⟨_,_,_,_,rfl⟩
 refine D B<|F km1 fun _=>?_
 exact L (by cases h;rfl)
theorem ck78:CK f78 (Rq [Af 2 0,Aj 4] [1,2]<|Rq [Ac 5 2 0,Ab 6 5,Ag 7 6,Ac 8 2 1,Ab 9 8,Ag 10 9,Bi 11 7 10,Aa 12 1,⟨some 13,.bin (.i) .leq (.s 11) (.s 12),none⟩,Aa 4 13] [4]<|.ret) [.tmp 4]:= by decide +kernel
theorem c78 (m:Morphism) (n:Int) (r:Bool) (h:ref06_Few m n=some r):Sound prog 78 [eMorphism m,eI n] (.sh (eB r)):= by
 refine Fn ck78 fun hw=>?_
 unfold ref06_Few at h
 refine E<|G<|Y B B<|D B<|F km2 fun _=>?_
 refine E<|G<|M B<|K B<|V B B<|M B<|K B<|V B B<|a7 B B<|D B<|f4 B B<|D B<|F km1 fun _=>?_
 exact L (by cases h;rfl)
theorem ck37:CK f37 (Rq [Af 2 0,Ad 4 0] [1,2]<|Rq [Aa 6 1,Ch 7 6 1,Aa 1 7] [1,2]<|Sq (Rq [Ac 8 2 4,Ae 9 8 5,Av 10 14 9,Ba 11 10,Aa 12 11,Ap 13 2 2 12,Cr 14 13 2 12,⟨some 15,.call 78 [.s 14,.c (.int .i64 140)],some (12,false)⟩,Bm 16 15 12,Ar 17 12 16] [1,2,17]<|Co 17 (Rq [Bk 4 (-1)] [4]<|.ret)<|Sk [1,2])<|Sq (Rq [Ad 5 0] [1,2,5]<|Bl 0<|Lo [1,2,5]<|Sq (Rq [Aa 18 5,Ac 19 2 1,Ab 20 19,Ag 21 20,Am 22 18 21,Aa 23 22,At 24 1 23,El 25 24 0 23,Aq 26 23 25] [1,2,5,26]<|Co 26 (Sk [1,2,5])<|Ex 0 [1])<|Sq (Bl 1<|Re [Ac 29 2 1,Ab 30 29,Aa 31 5,Ai 32 30 31 9,Ae 33 32 9,Aa 34 1,As 35 37 33 34,Aa 1 35] [1,2,5])<|Re [Aa 27 5,Ao 28 27 1,Aa 5 28] [1,2,5])<|Rq [Aa 36 1,Aa 4 36] [4]<|.ret) [.tmp 4]:= by decide +kernel
theorem c37S (n:Nat) (ih_37:∀ (c:Condition) (most:Int) (r:Int) (_:ref22_leftF n c most=some r),Sound prog 37 [eCondition c,eI most] (.sh (eI r))):∀ (c:Condition) (most:Int) (r:Int) (_:ref22_leftF (n+1) c most=some r),Sound prog 37 [eCondition c,eI most] (.sh (eI r)):= by
 intro c most r h
 refine Fn ck37 fun hw=>?_
 unfold ref22_leftF at h
 refine E<|G<|Y B B<|D B<|F km2 fun _=>?_
 refine E<|G<|D B<|f7 B B<|D B<|F km2 fun _=>?_
 refine E<|E<|G<|M B<|S B B (B:_=ePattern c.Pattern) ?_
 obtain ⟨x10,hx10,h⟩:=J h
 refine W B (c14 c.Pattern _ hx10)<|d3 B<|D B ?_
 obtain ⟨x17,hx17,h⟩:=J h
 refine gX 5 [13,14,15,16] 17 x17 (!x10) (fun hg17=>?_) (fun hg17=>?_) ?_
 ·replace h:=O hg17 hx17
  cases h
  refine I B hg17<|I B hg17<|I B hg17<|I B hg17<|a2 B hg17 B ?_
  exact ⟨⟨_,_,_,_,B⟩⟩
 ·replace h:=R hg17 hx17
  refine H B hg17<|M B<|H B hg17<|S B B (B:_=eMorphism c.Map) ?_
  obtain ⟨x15,hx15,h⟩:=J h
  refine H B hg17<|W B (c78 c.Map 140 _ hx15)<|H B hg17<|d3 B ?_
  cases h
  refine a3 B hg17 B ?_
  exact ⟨⟨_,_,_,_,B⟩⟩
 rintro _ ⟨_,_,_,_,rfl⟩
 refine F km3 fun _=>?_
 refine U B (fun hc17=>?_) (fun hc17=>?_)
 ·replace h:=O hc17 h
  refine E<|G<|D B<|F km1 fun _=>?_
  exact L (by cases h;rfl)
 ·replace h:=R hc17 h
  refine T km2 fun _=>?_
  refine E<|E<|G<|D B<|F km3 fun _=>?_
  obtain ⟨o0,ho0,h⟩:=d4 h
  refine l4 ho0 (fun (s0:Int × Int)=>[(1,.tv (eI s0.1)),(2,.tv (.pt (eCondition c).cells)),(5,.tv (eI s0.2))]) (fun (s0:Int × Int)=>[(1,.tv (eI s0.1))]) (fun zv ze=>resIs ([.tmp 4]) (.sh (eI zv)) ze) B ?_ ?_ ?_
  ·clear h ho0
   intro s0 r0 h hw0
   refine E<|E<|G<|D B<|M B<|K B<|V B (eLCondition_eq _)<|X B B<|D B ?_
   refine gA 3 [24,25] 26 (decide (s0.2<(c.Kids.length:Int))) (decide (0<=s0.1)) (fun hg26=>?_) (fun hg26=>?_) ?_
   ·refine H B hg26<|D B<|H B hg26<|d9 B B<|a2 B hg26 B ?_
    exact ⟨⟨_,_,B⟩⟩
   ·refine I B hg26<|I B hg26<|a3 B hg26 B ?_
    exact ⟨⟨_,_,B⟩⟩
   rintro _ ⟨_,_,rfl⟩
   refine F km4 fun _=>?_
   refine U B (fun hc26=>?_) (fun hc26=>?_)
   ·replace h:=O hc26 h
    refine T km3 fun _=>?_
    refine E<|a9<|G<|M B<|K B<|D B ?_
    obtain ⟨x32,hx32,h⟩:=J h
    refine a4 B B (eLCondition_eq _) hx32 B<|S B B (B:_=eCondition x32)<|D B ?_
    obtain ⟨x35,hx35,h⟩:=J h
    refine W B (ih_37 x32 s0.1 _ hx35)<|D B<|F km3 fun _=>?_
    refine G<|D B<|a7 B B<|D B<|F km3 ?_
    cases h
    refine ⟨_,B,?_⟩
    rw [Ktv rfl (Ktv rfl (Ktv rfl (Knil _)))]
    all_goals rfl
   ·replace h:=R hc26 h
    refine b4 km1 ?_
    refine ⟨rfl,?_⟩
    cases h
    exact ⟨_,rfl,rfl⟩
  ·intro s0 hs
   replace h:=d5 h hs
   intro _
   refine E<|G<|D B<|D B<|F km1 fun _=>?_
   exact L (by cases h;rfl)
  ·intro v0 ze hv hR
   replace h:=d6 h hv
   cases h
   exact hR
theorem c37A:∀ n:Nat,(∀ (c:Condition) (most:Int) (r:Int) (_:ref22_leftF n c most=some r),Sound prog 37 [eCondition c,eI most] (.sh (eI r))):=by
  intro n
  induction n with
  | zero=>intro c most r h; cases h
  | succ n ih=>exact c37S n ih
theorem c37 (c:Condition) (most:Int) (r:Int) (h:ref22_left c most=some r):Sound prog 37 [eCondition c,eI most] (.sh (eI r)):=by
  obtain ⟨N,hN⟩:=lim_some h
  exact (c37A N) c most r (hN N (Nat.le_refl _))
theorem ck13:CK f13 (Rq [Af 1 0,Aj 2] [1]<|Rq [Ae 3 1 9,Dy 4 37 3 40,Bg 5 4 0,Aa 2 5] [2]<|.ret) [.tmp 2]:= by decide +kernel
theorem c13 (c:Condition) (r:Bool) (h:ref22_Few c=some r):Sound prog 13 [eCondition c] (.sh (eB r)):= by
 refine Fn ck13 fun hw=>?_
 unfold ref22_Few at h
 refine E<|G<|Y B B<|D B<|F km1 fun _=>?_
 refine E<|G<|S B B (B:_=eCondition c) ?_
 obtain ⟨x4,hx4,h⟩:=J h
 refine W B (c37 c 40 _ hx4)<|d9 B B<|D B<|F km1 fun _=>?_
 exact L (by cases h;rfl)
theorem ck186:CK f186 (Rq [Af 2 0,Bc 4 4] [1,2]<|Sq (Rq [Aa 5 1,Bs 6 5 0] [1,2,6]<|Co 6 (Rq [Bc 4 4] [4]<|.ret)<|Sk [1,2])<|Sq (Dr [4,7,8,9,10,11,12,13,14,15,16,17,18,19,20,21,22,23] [Dz 7 4,Ae 8 2 2,Ac 9 2 0,Ab 10 9,Aa 11 1,Ai 12 10 11 4,Ah 13 12 1,Ab 14 13,As 15 186 8 14,Cc 16 4 7 15,Ac 17 2 0,Ab 18 17,Aa 19 1,Ai 20 18 19 4,Ah 21 20 3,Ab 22 21,Cc 23 4 16 22,Bb 4 23] [4])<|.ret) [.tmp 4]:= by decide +kernel
theorem c186S (n:Nat) (ih_186:∀ (t:Types) (a:Int) (r:(List Attr)) (_:ref04_attrsF n t a=some r),Sound prog 186 [eTypes t,eI a] (.own (lA r))):∀ (t:Types) (a:Int) (r:(List Attr)) (_:ref04_attrsF (n+1) t a=some r),Sound prog 186 [eTypes t,eI a] (.own (lA r)):= by
 intro t a r h
 refine Fn ck186 fun hw=>?_
 unfold ref04_attrsF at h
 refine E<|G<|Y B B<|f2<|F km2 fun _=>?_
 refine E<|E<|G<|D B<|X B B<|F km3 fun _=>?_
 refine U B (fun hc6=>?_) (fun hc6=>?_)
 ·replace h:=O hc6 h
  refine E<|G<|f2<|F (ko<|kn) fun _=>?_
  exact L (by cases h;rfl)
 ·replace h:=R hc6 h
  refine T km2 fun _=>?_
  refine E<|e2 B<|e9 (e:=eAttr) (l:=[]) B B (fun _=>rfl)<|S B B (B:_=eTypes t)<|M B<|K B<|D B ?_
  obtain ⟨x12,hx12,h⟩:=J h
  refine a4 B B B hx12 B<|b8 B<|K B ?_
  obtain ⟨x15,hx15,h⟩:=J h
  refine l7 B (ih_186 t x12.Parent _ hx15) ?_
  obtain ⟨x16,hx16,h⟩:=J h
  refine l0 B B B B hx16 B<|M B<|K B<|D B ?_
  obtain ⟨x20,hx20,h⟩:=J h
  refine a4 B B B hx20 B<|b8 B<|K B ?_
  obtain ⟨x23,hx23,h⟩:=J h
  refine l0 B B B B hx23 B<|f8 B<|F (ko<|kn) fun _=>?_
  exact L (by cases h;rfl)
theorem c186A:∀ n:Nat,(∀ (t:Types) (a:Int) (r:(List Attr)) (_:ref04_attrsF n t a=some r),Sound prog 186 [eTypes t,eI a] (.own (lA r))):=by
  intro n
  induction n with
  | zero=>intro t a r h; cases h
  | succ n ih=>exact c186S n ih
theorem c186 (t:Types) (a:Int) (r:(List Attr)) (h:ref04_attrs t a=some r):Sound prog 186 [eTypes t,eI a] (.own (lA r)):=by
  obtain ⟨N,hN⟩:=lim_some h
  exact (c186A N) t a r (hN N (Nat.le_refl _))
theorem ck188:CK f188 (Rq [Aj 6] [0,1,2]<|Rq [Aa 7 0,Aa 8 1,Cq 9 7 8,Aa 10 9,At 11 0 10,At 12 2 10,Dw 13 11 12 10,Aq 14 10 13,Aa 6 14] [6]<|.ret) [.tmp 6]:= by decide +kernel
theorem c188 (n:Int) (low:Int) (high:Int) (r:Bool) (h:ref04_in n low high=some r):Sound prog 188 [eI n,eI low,eI high] (.sh (eB r)):= by
 refine Fn ck188 fun hw=>?_
 unfold ref04_in at h
 refine E<|G<|D B<|F km3 fun _=>?_
 refine E<|G<|D B<|D B<|d9 B B<|D B ?_
 refine gA 4 [11,12,13] 14 (decide (low<=n)) (decide (n<=high)) (fun hg14=>?_) (fun hg14=>?_) ?_
 ·refine H B hg14<|D B<|H B hg14<|D B<|H B hg14<|f4 B B<|a2 B hg14 B ?_
  exact ⟨⟨_,_,_,B⟩⟩
 ·refine I B hg14<|I B hg14<|I B hg14<|a3 B hg14 B ?_
  exact ⟨⟨_,_,_,B⟩⟩
 rintro _ ⟨_,_,_,rfl⟩
 refine D B<|F km1 fun _=>?_
 exact L (by cases h;rfl)
theorem ck280:CK f280 (Rq [Af 1 0,By 2] [1]<|Sq (Rq [Ac 3 1 0,Ab 4 3,Az 5 4 3] [1,5]<|Co 5 (Rq [Ac 6 1 1,Ab 7 6,⟨some 8,.bin (.s) .add (.c (.str ⟨#[34]⟩)) (.s 7),none⟩,⟨some 9,.bin (.s) .add (.s 8) (.c (.str ⟨#[34]⟩)),none⟩,Aa 2 9] [2]<|.ret)<|Sk [1])<|Rq [Ac 10 1 1,Ab 11 10,Aa 2 11] [2]<|.ret) [.tmp 2]:= by decide +kernel
theorem c280 (t:Token) (r:ByteArray) (h:ref01_text t=some r):Sound prog 280 [eToken t] (.sh (eS r)):= by
 refine Fn ck280 fun hw=>?_
 unfold ref01_text at h
 refine E<|G<|Y B B<|D B<|F km1 fun _=>?_
 refine E<|E<|G<|M B<|K B<|b5 B B<|F km2 fun _=>?_
 refine U B (fun hc5=>?_) (fun hc5=>?_)
 ·replace h:=O hc5 h
  refine E<|G<|M B<|K B ?_
  obtain ⟨x8,hx8,h⟩:=J h
  refine m4 B B hx8 ?_
  obtain ⟨x9,hx9,h⟩:=J h
  refine m4 B B hx9<|D B<|F km1 fun _=>?_
  exact L (by cases h;rfl)
 ·replace h:=R hc5 h
  refine T km1 fun _=>?_
  refine E<|G<|M B<|K B<|D B<|F km1 fun _=>?_
  exact L (by cases h;rfl)
theorem ck302:CK f302 (Rq [Aj 2] [0]<|Rq [Aa 3 0,Dh 4 3 97,Aa 5 4,At 6 0 5,Cu 7 6 122 5,Aq 8 5 7,Aa 9 8,Aw 10 0 9,Fj 11 10 65 9,Aw 12 11 9,At 13 0 12,Cu 14 13 90 12,Cv 15 12 14 9,Ar 16 9 15,Aa 2 16] [2]<|.ret) [.tmp 2]:= by decide +kernel
theorem c302 (c:Int) (r:Bool) (h:ref01_letter c=some r):Sound prog 302 [eU8 c] (.sh (eB r)):= by
 refine Fn ck302 fun hw=>?_
 unfold ref01_letter at h
 refine E<|G<|D B<|F km1 fun _=>?_
 refine E<|G<|D B<|d9 B B<|D B ?_
 refine gA 3 [6,7] 8 (decide (97<=c)) (decide (c<=122)) (fun hg8=>?_) (fun hg8=>?_) ?_
 ·refine H B hg8<|D B<|H B hg8<|f4 B B<|a2 B hg8 B ?_
  exact ⟨⟨_,_,B⟩⟩
 ·refine I B hg8<|I B hg8<|a3 B hg8 B ?_
  exact ⟨⟨_,_,B⟩⟩
 rintro _ ⟨_,_,rfl⟩
 refine D B ?_
 refine gO 7 [10,11,12,13,14,15] 16 ((decide (97<=c))&&(decide (c<=122))) ((decide (65<=c))&&(decide (c<=90))) (fun hg16=>?_) (fun hg16=>?_) ?_
 ·refine I B hg16<|I B hg16<|I B hg16<|d7 B<|d7 B<|I B hg16<|a2 B hg16 B ?_
  exact ⟨⟨_,_,_,_,_,_,B⟩⟩
 ·refine H B hg16<|D B<|H B hg16<|d9 B B<|H B hg16<|D B ?_
  refine gA 3 [13,14] 15 (decide (65<=c)) (decide (c<=90)) (fun hg15=>?_) (fun hg15=>?_) ?_
  ·refine H B hg15<|D B<|H B hg15<|f4 B B<|H B hg16<|a2 B hg15 B ?_
   exact ⟨⟨_,_,B⟩⟩
  ·refine I B hg15<|I B hg15<|H B hg16<|a3 B hg15 B ?_
   exact ⟨⟨_,_,B⟩⟩
  rintro _ ⟨_,_,rfl⟩
  refine a3 B hg16 B ?_
  exact ⟨⟨_,_,_,_,_,_,B⟩⟩
 rintro _ ⟨_,_,_,_,_,_,rfl⟩
 refine D B<|F km1 fun _=>?_
 exact L (by cases h;rfl)
theorem ck303:CK f303 (Rq [Aj 2] [0]<|Rq [Aa 3 0,Dh 4 3 48,Aa 5 4,At 6 0 5,Cu 7 6 57 5,Aq 8 5 7,Aa 2 8] [2]<|.ret) [.tmp 2]:= by decide +kernel
theorem c303 (c:Int) (r:Bool) (h:ref01_digit c=some r):Sound prog 303 [eU8 c] (.sh (eB r)):= by
 refine Fn ck303 fun hw=>?_
 unfold ref01_digit at h
 refine E<|G<|D B<|F km1 fun _=>?_
 refine E<|G<|D B<|d9 B B<|D B ?_
 refine gA 3 [6,7] 8 (decide (48<=c)) (decide (c<=57)) (fun hg8=>?_) (fun hg8=>?_) ?_
 ·refine H B hg8<|D B<|H B hg8<|f4 B B<|a2 B hg8 B ?_
  exact ⟨⟨_,_,B⟩⟩
 ·refine I B hg8<|I B hg8<|a3 B hg8 B ?_
  exact ⟨⟨_,_,B⟩⟩
 rintro _ ⟨_,_,rfl⟩
 refine D B<|F km1 fun _=>?_
 exact L (by cases h;rfl)
theorem ck304:CK f304 (Rq [Ad 6 0] [0,1,2]<|Rq [Ad 7 0] [0,1,2,7]<|Sq (Bl 0<|Lo [0,1,2,7]<|Sq (Rq [Aa 8 1,Aa 9 7,Bi 10 8 9,Aa 11 0,Bx 12 11,Am 13 10 12,Aa 14 13,At 15 0 14,At 16 1 14,At 17 7 14,Eo 18 16 17 14,Eq 19 15 18 14,Bt 20 303 19 14,At 21 20 14,Aw 22 2 21,Bm 23 22 21,Aw 24 23 21,At 25 0 24,At 26 1 24,At 27 7 24,Eo 28 26 27 24,Eq 29 25 28 24,Bt 30 302 29 24,At 31 30 24,Aw 32 0 31,Aw 33 1 31,Aw 34 7 31,⟨some 35,.bin (.i) .add (.s 33) (.s 34),some (31,false)⟩,⟨some 36,.sidx (.s 32) (.s 35),some (31,false)⟩,Fk 37 36 95 31,Dk 38 31 37 24,Cv 39 24 38 21,Dk 40 21 39 14,Aq 41 14 40] [0,1,2,7,41]<|Co 41 (Sk [0,1,2,7])<|Ex 0 [7])<|Bl 1<|Re [Aa 42 7,Ao 43 42 1,Aa 7 43] [0,1,2,7])<|Rq [Aa 44 7,Aa 6 44] [6]<|.ret) [.tmp 6]:= by decide +kernel
theorem c304 (s_0:ByteArray) (at':Int) (digits:Bool) (r:Int) (h:ref01_run s_0 at' digits=some r):Sound prog 304 [eS s_0,eI at',eB digits] (.sh (eI r)):= by
 refine Fn ck304 fun hw=>?_
 unfold ref01_run at h
 refine E<|G<|D B<|F km3 fun _=>?_
 refine E<|G<|D B<|F km4 fun _=>?_
 refine E ?_
 obtain ⟨o0,ho0,h⟩:=d4 h
 refine l4 ho0 (fun (s0:Int)=>[(0,.tv (eS s_0)),(1,.tv (eI at')),(2,.tv (eB digits)),(7,.tv (eI s0))]) (fun (s0:Int)=>[(7,.tv (eI s0))]) (fun zv ze=>resIs ([.tmp 6]) (.sh (eI zv)) ze) B ?_ ?_ ?_
 ·clear h ho0
  intro s0 r0 h hw0
  refine E<|E<|G<|D B<|D B<|a7 B B<|D B<|g3 B<|X B B<|D B ?_
  obtain ⟨x41,hx41,h⟩:=J h
  refine gX 27 [15,16,17,18,19,20,21,22,23,24,25,26,27,28,29,30,31,32,33,34,35,36,37,38,39,40] 41 x41 (decide ((w64 (at'+s0))<(s_0.size:Int))) (fun hg41=>?_) (fun hg41=>?_) ?_
  ·replace h:=O hg41 hx41
   refine H B hg41<|D B<|H B hg41<|D B<|H B hg41<|D B<|H B hg41<|a7 B B ?_
   obtain ⟨x19,hx19,h⟩:=J h
   refine H B hg41<|l5 B B hx19 ?_
   obtain ⟨x20,hx20,h⟩:=J h
   refine H B hg41<|W B (c303 x19 _ hx20)<|H B hg41<|D B ?_
   obtain ⟨x40,hx40,h⟩:=J h
   refine gX 19 [22,23,24,25,26,27,28,29,30,31,32,33,34,35,36,37,38,39] 40 x40 x20 (fun hg40=>?_) (fun hg40=>?_) ?_
   ·replace h:=O hg40 hx40
    cases h
    refine I B hg40<|I B hg40<|I B hg40<|d7 B<|d7 B<|d7 B<|d7 B<|d7 B<|d7 B<|d7 B<|d7 B<|d7 B<|d7 B<|d7 B<|d7 B<|d7 B<|d7 B<|I B hg40<|H B hg41<|a2 B hg40 B ?_
    exact ⟨⟨_,_,_,_,_,_,_,_,_,_,_,_,_,_,_,_,_,_,B⟩⟩
   ·replace h:=R hg40 hx40
    refine H B hg40<|D B<|H B hg40<|d3 B<|H B hg40<|D B ?_
    obtain ⟨x39,hx39,h⟩:=J h
    refine gX 15 [25,26,27,28,29,30,31,32,33,34,35,36,37,38] 39 x39 (!digits) (fun hg39=>?_) (fun hg39=>?_) ?_
    ·replace h:=O hg39 hx39
     refine H B hg39<|D B<|H B hg39<|D B<|H B hg39<|D B<|H B hg39<|a7 B B ?_
     obtain ⟨x29,hx29,h⟩:=J h
     refine H B hg39<|l5 B B hx29 ?_
     obtain ⟨x30,hx30,h⟩:=J h
     refine H B hg39<|W B (c302 x29 _ hx30)<|H B hg39<|D B ?_
     obtain ⟨x38,hx38,h⟩:=J h
     refine gX 7 [32,33,34,35,36,37] 38 x38 x30 (fun hg38=>?_) (fun hg38=>?_) ?_
     ·replace h:=O hg38 hx38
      cases h
      refine I B hg38<|I B hg38<|I B hg38<|I B hg38<|I B hg38<|I B hg38<|H B hg39<|a2 B hg38 B ?_
      exact ⟨⟨_,_,_,_,_,_,B⟩⟩
     ·replace h:=R hg38 hx38
      refine H B hg38<|D B<|H B hg38<|D B<|H B hg38<|D B<|H B hg38<|a7 B B ?_
      obtain ⟨x36,hx36,h⟩:=J h
      refine H B hg38<|l5 B B hx36<|H B hg38<|b5 B B ?_
      cases h
      refine H B hg39<|a3 B hg38 B ?_
      exact ⟨⟨_,_,_,_,_,_,B⟩⟩
     rintro _ ⟨_,_,_,_,_,_,rfl⟩
     cases h
     refine H B hg40<|a2 B hg39 B ?_
     exact ⟨⟨_,_,_,_,_,_,_,_,_,_,_,_,_,_,B⟩⟩
    ·replace h:=R hg39 hx39
     cases h
     refine I B hg39<|I B hg39<|I B hg39<|I B hg39<|I B hg39<|I B hg39<|I B hg39<|d7 B<|d7 B<|d7 B<|d7 B<|d7 B<|d7 B<|I B hg39<|H B hg40<|a3 B hg39 B ?_
     exact ⟨⟨_,_,_,_,_,_,_,_,_,_,_,_,_,_,B⟩⟩
    rintro _ ⟨_,_,_,_,_,_,_,_,_,_,_,_,_,_,rfl⟩
    cases h
    refine H B hg41<|a3 B hg40 B ?_
    exact ⟨⟨_,_,_,_,_,_,_,_,_,_,_,_,_,_,_,_,_,_,B⟩⟩
   rintro _ ⟨_,_,_,_,_,_,_,_,_,_,_,_,_,_,_,_,_,_,rfl⟩
   cases h
   refine a2 B hg41 B ?_
   exact ⟨⟨_,_,_,_,_,_,_,_,_,_,_,_,_,_,_,_,_,_,_,_,_,_,_,_,_,_,B⟩⟩
  ·replace h:=R hg41 hx41
   cases h
   refine I B hg41<|I B hg41<|I B hg41<|I B hg41<|I B hg41<|I B hg41<|I B hg41<|d7 B<|d7 B<|d7 B<|d7 B<|d7 B<|d7 B<|d7 B<|d7 B<|d7 B<|d7 B<|d7 B<|d7 B<|d7 B<|d7 B<|d7 B<|d7 B<|d7 B<|d7 B<|I B hg41<|a3 B hg41 B ?_
   exact ⟨⟨_,_,_,_,_,_,_,_,_,_,_,_,_,_,_,_,_,_,_,_,_,_,_,_,_,_,B⟩⟩
  rintro _ ⟨_,_,_,_,_,_,_,_,_,_,_,_,_,_,_,_,_,_,_,_,_,_,_,_,_,_,rfl⟩
  refine F km5 fun _=>?_
  refine U B (fun hc41=>?_) (fun hc41=>?_)
  ·replace h:=O hc41 h
   refine T km4 fun _=>?_
   refine a9<|G<|D B<|a7 B B<|D B<|F km4 ?_
   cases h
   refine ⟨_,B,?_⟩
   rw [Ktv rfl (Ktv rfl (Ktv rfl (Ktv rfl (Knil _))))]
   all_goals rfl
  ·replace h:=R hc41 h
   refine b4 km1 ?_
   refine ⟨rfl,?_⟩
   cases h
   exact ⟨_,rfl,rfl⟩
 ·intro s0 hs
  replace h:=d5 h hs
  intro _
  refine E<|G<|D B<|D B<|F km1 fun _=>?_
  exact L (by cases h;rfl)
 ·intro v0 ze hv hR
  replace h:=d6 h hv
  cases h
  exact hR
theorem ck305:CK f305 (Rq [Ad 4 0] [0,1]<|Sq (Rq [Ad 5 1] [0,1,5]<|Bl 0<|Lo [0,1,5]<|Sq (Rq [Aa 7 1,Aa 8 5,Bi 9 7 8,Aa 10 0,Bx 11 10,Am 12 9 11] [0,1,5,12]<|Co 12 (Sk [0,1,5])<|Ex 0 [])<|Sq (Bl 1<|Rq [Aa 15 0,Aa 16 1,Aa 17 5,Bi 18 16 17,⟨some 19,.sidx (.s 15) (.s 18),none⟩,Aa 6 19] [0,1,5,6]<|Sq (Rq [Aa 20 6,Er 21 20 34] [0,1,5,6,21]<|Co 21 (Rq [Aa 22 5,Ao 23 22 1,Aa 4 23] [4]<|.ret)<|Sk [0,1,5,6])<|Rq [Aa 24 6,⟨some 25,.bin (.i) .lss (.s 24) (.c (.int .u8 32)),none⟩,Aa 26 25,Aw 27 6 26,⟨some 28,.bin (.i) .gtr (.s 27) (.c (.int .u8 126)),some (26,false)⟩,Ar 29 26 28] [0,1,5,29]<|Co 29 (Rq [Ad 4 0] [4]<|.ret)<|Sk [0,1,5])<|Re [Aa 13 5,Ao 14 13 1,Aa 5 14] [0,1,5])<|Rq [Ad 4 0] [4]<|.ret) [.tmp 4]:= by decide +kernel
theorem c305 (s_0:ByteArray) (at':Int) (r:Int) (h:ref01_quoted s_0 at'=some r):Sound prog 305 [eS s_0,eI at'] (.sh (eI r)):= by
 refine Fn ck305 fun hw=>?_
 unfold ref01_quoted at h
 refine E<|G<|D B<|F km2 fun _=>?_
 refine E<|E<|G<|D B<|F km3 fun _=>?_
 obtain ⟨o0,ho0,h⟩:=d4 h
 refine l4 ho0 (fun (s0:Int)=>[(0,.tv (eS s_0)),(1,.tv (eI at')),(5,.tv (eI s0))]) (fun (s0:Int)=>[]) (fun zv ze=>resIs ([.tmp 4]) (.sh (eI zv)) ze) B ?_ ?_ ?_
 ·clear h ho0
  intro s0 r0 h hw0
  refine E<|E<|G<|D B<|D B<|a7 B B<|D B<|g3 B<|X B B<|F km4 fun _=>?_
  refine U B (fun hc12=>?_) (fun hc12=>?_)
  ·replace h:=O hc12 h
   refine T km3 fun _=>?_
   refine E<|a9<|E<|G<|D B<|D B<|D B<|a7 B B ?_
   obtain ⟨x19,hx19,h⟩:=J h
   refine l5 B B hx19<|D B<|F km4 fun _=>?_
   refine E<|E<|G<|D B<|b5 B B<|F km5 fun _=>?_
   refine U B (fun hc21=>?_) (fun hc21=>?_)
   ·replace h:=O hc21 h
    refine E<|G<|D B<|a7 B B<|D B<|F km1 fun _=>?_
    refine L ?_
    cases h
    exact ⟨_,rfl,rfl⟩
   ·replace h:=R hc21 h
    refine T km4 fun _=>?_
    refine E<|G<|D B<|X B B<|D B ?_
    refine gO 3 [27,28] 29 (decide (x19<32)) (decide (126<x19)) (fun hg29=>?_) (fun hg29=>?_) ?_
    ·refine I B hg29<|I B hg29<|a2 B hg29 B ?_
     exact ⟨⟨_,_,B⟩⟩
    ·refine H B hg29<|D B<|H B hg29<|e8 B B<|a3 B hg29 B ?_
     exact ⟨⟨_,_,B⟩⟩
    rintro _ ⟨_,_,rfl⟩
    refine F km4 fun _=>?_
    refine U B (fun hc29=>?_) (fun hc29=>?_)
    ·replace h:=O hc29 h
     refine E<|G<|D B<|F km1 fun _=>?_
     refine L ?_
     cases h
     exact ⟨_,rfl,rfl⟩
    ·replace h:=R hc29 h
     refine T km3 fun _=>?_
     refine G<|D B<|a7 B B<|D B<|F km3 ?_
     cases h
     refine ⟨_,B,?_⟩
     rw [Ktv rfl (Ktv rfl (Ktv rfl (Knil _)))]
     all_goals rfl
  ·replace h:=R hc12 h
   refine b4 kn ?_
   refine ⟨rfl,?_⟩
   cases h
   exact ⟨_,rfl,rfl⟩
 ·intro s0 hs
  replace h:=d5 h hs
  intro _
  refine E<|G<|D B<|F km1 fun _=>?_
  exact L (by cases h;rfl)
 ·intro v0 ze hv hR
  replace h:=d6 h hv
  cases h
  exact hR
theorem ck306:CK f306 (Rq [Bc 0 1] []<|Rq [⟨some 1,.lst 1 [.c (.str ⟨#[45,62]⟩),.c (.str ⟨#[60,61]⟩),.c (.str ⟨#[62,61]⟩),.c (.str ⟨#[61,61]⟩),.c (.str ⟨#[33,61]⟩),.c (.str ⟨#[123]⟩),.c (.str ⟨#[125]⟩),.c (.str ⟨#[40]⟩),.c (.str ⟨#[41]⟩),.c (.str ⟨#[91]⟩),.c (.str ⟨#[93]⟩),.c (.str ⟨#[44]⟩),.c (.str ⟨#[59]⟩),.c (.str ⟨#[58]⟩),.c (.str ⟨#[61]⟩),.c (.str ⟨#[43]⟩),.c (.str ⟨#[45]⟩),.c (.str ⟨#[42]⟩),.c (.str ⟨#[60]⟩),.c (.str ⟨#[62]⟩),.c (.str ⟨#[33]⟩),.c (.str ⟨#[38]⟩),.c (.str ⟨#[124]⟩),.c (.str ⟨#[46]⟩),.c (.str ⟨#[63]⟩)],none⟩,Bb 0 1] [0]<|.ret) [.tmp 0]:= by decide +kernel
theorem c306  (r:(List ByteArray)) (h:ref01_signs =some r):Sound prog 306 [] (.own (lB r)):= by
 refine Fn ck306 fun hw=>?_
 unfold ref01_signs at h
 refine E<|G<|f2<|F kn fun _=>?_
 refine E<|G<|e9 (e:=eS) (l:=[(⟨#[45,62]⟩:ByteArray),(⟨#[60,61]⟩:ByteArray),(⟨#[62,61]⟩:ByteArray),(⟨#[61,61]⟩:ByteArray),(⟨#[33,61]⟩:ByteArray),(⟨#[123]⟩:ByteArray),(⟨#[125]⟩:ByteArray),(⟨#[40]⟩:ByteArray),(⟨#[41]⟩:ByteArray),(⟨#[91]⟩:ByteArray),(⟨#[93]⟩:ByteArray),(⟨#[44]⟩:ByteArray),(⟨#[59]⟩:ByteArray),(⟨#[58]⟩:ByteArray),(⟨#[61]⟩:ByteArray),(⟨#[43]⟩:ByteArray),(⟨#[45]⟩:ByteArray),(⟨#[42]⟩:ByteArray),(⟨#[60]⟩:ByteArray),(⟨#[62]⟩:ByteArray),(⟨#[33]⟩:ByteArray),(⟨#[38]⟩:ByteArray),(⟨#[124]⟩:ByteArray),(⟨#[46]⟩:ByteArray),(⟨#[63]⟩:ByteArray)]) B B (fun _=>rfl)<|f8 B<|F (ko<|kn) fun _=>?_
 exact L (by cases h;rfl)
theorem ck281:CK f281 (Rq [Fw 4 0 0,Ad 5 0,Ad 6 0] [0,1,4]<|Rq [Aa 14 0,Aa 15 1,⟨some 16,.sidx (.s 14) (.s 15),none⟩,Aa 7 16] [0,1,4,7]<|Sq (Rq [Aa 17 7,Av 18 302 17,Aa 19 18,Aw 20 7 19,Cm 21 303 20 19,Ar 22 19 21] [0,1,4,7,22]<|Co 22 (Rq [Aa 23 0,Aa 24 1,Aa 25 7,Av 26 303 25,Bd 27 304 23 24 26,Aa 8 27] [0,1,4,7,8]<|Rq [Ad 9 1,Ad 10 20] [0,1,4,7,8,9,10]<|Sq (Rq [Aa 28 7,Av 29 303 28] [0,1,4,8,9,10,29]<|Co 29 (Re [Ad 9 2,Ad 10 9] [0,1,4,8,9,10])<|Sk [0,1,4,8,9,10])<|Sq (Rq [Aa 30 8,Aa 31 10,Fd 32 30 31] [0,1,4,8,9,32]<|Co 32 (Rq [Ep 33 0 0,Al 3 4 33,Ad 5 0,Ad 6 3] [4,5,6]<|.ret)<|Sk [0,1,4,8,9])<|Rq [Aa 34 9,Aa 35 0,Aa 36 1,Aa 37 1,Aa 38 8,Bi 39 37 38,⟨some 40,.sslc (.s 35) (some (.s 36)) (some (.s 39)),none⟩,⟨some 41,.bld [.int .i64 0,.str ⟨#[]⟩,.int .i64 0] [(0,1,.s 34),(1,1,.s 40)],none⟩,Aa 42 8,Al 3 4 41,Aa 5 42,Ad 6 0] [4,5,6]<|.ret)<|Sk [0,1,4,7])<|Sq (Rq [Aa 43 7,Er 44 43 34] [0,1,4,44]<|Co 44 (Rq [Aa 45 0,Aa 46 1,As 47 305 45 46,Aa 11 47] [0,1,4,11]<|Sq (Rq [Aa 48 11,Az 49 48 0] [0,1,4,11,49]<|Co 49 (Rq [Ep 50 0 0,Al 3 4 50,Ad 5 0,Ad 6 2] [4,5,6]<|.ret)<|Sk [0,1,4,11])<|Sq (Rq [Aa 51 11,Ch 52 51 2,Bf 53 52 60] [0,1,4,11,53]<|Co 53 (Rq [Ep 54 0 0,Al 3 4 54,Ad 5 0,Ad 6 3] [4,5,6]<|.ret)<|Sk [0,1,4,11])<|Rq [Aa 55 0,Aa 56 1,Ao 57 56 1,Aa 58 1,Aa 59 11,Bi 60 58 59,Ch 61 60 1,⟨some 62,.sslc (.s 55) (some (.s 57)) (some (.s 61)),none⟩,Dt 63 0 0 0 1 3 1 1 62,Aa 64 11,Al 3 4 63,Aa 5 64,Ad 6 0] [4,5,6]<|.ret)<|Sk [0,1,4])<|Rq [Dq 65 306,Bb 12 65] [0,1,4,12]<|Sq (Rq [Ad 13 0] [0,1,4,12,13]<|Bl 0<|Lo [0,1,4,12,13]<|Sq (Rq [Aa 66 13,Aa 67 12,Ag 68 67,Am 69 66 68] [0,1,4,12,13,69]<|Co 69 (Sk [0,1,4,12,13])<|Ex 0 [4])<|Sq (Bl 1<|Sq (Dr [72,73,74,75,76,77,78,79,80,81,82,83,84,85,86,87,88,89,90,91,92,93,94,95,96,97,98] [Aa 72 1,Aa 73 12,Aa 74 13,Ai 75 73 74 1,Ab 76 75,Bx 77 76,Bi 78 72 77,Aa 79 0,Bx 80 79,⟨some 81,.bin (.i) .leq (.s 78) (.s 80),none⟩,Aa 82 81,At 83 0 82,At 84 1 82,At 85 1 82,At 86 12 82,At 87 13 82,Ef 88 86 87 1 82,Ay 89 88 82,Es 90 89 82,Eo 91 85 90 82,⟨some 92,.sslc (.s 83) (some (.s 84)) (some (.s 91)),some (82,true)⟩,At 93 12 82,At 94 13 82,Ef 95 93 94 1 82,Ay 96 95 82,⟨some 97,.bin (.s) .eql (.s 92) (.s 96),some (82,true)⟩,Aq 98 82 97] [0,1,4,12,13,98])<|Co 98 (Sq (Dr [4,5,6,99,100,101,102,103,104,105,106,107,108] [Aa 99 12,Aa 100 13,Ai 101 99 100 1,Ab 102 101,Dt 103 0 0 0 1 4 1 1 102,Aa 104 12,Aa 105 13,Ai 106 104 105 1,Ab 107 106,Bx 108 107,Al 3 4 103,Aa 5 108,Ad 6 0] [4,5,6])<|.ret)<|Sk [0,1,4,12,13])<|Re [Aa 70 13,Ao 71 70 1,Aa 13 71] [0,1,4,12,13])<|Rq [Ep 109 0 0,Al 3 4 109,Ad 5 0,Ad 6 2] [4,5,6]<|.ret) [.cell 4 (some 3),.tmp 5,.tmp 6]:= by decide +kernel
theorem c281 (s_0:ByteArray) (at':Int) (r:(Token × Int × Int)) (h:ref01_one s_0 at'=some r):Sound prog 281 [eS s_0,eI at'] (.tp [eToken r.1,eI r.2.1,eI r.2.2]):= by
 refine Fn ck281 fun hw=>?_
 unfold ref01_one at h
 refine E<|G<|d8 B<|D B<|D B<|F (kt<|kt<|kb<|kn) fun _=>?_
 refine E<|G<|D B<|D B ?_
 obtain ⟨x16,hx16,h⟩:=J h
 refine l5 B B hx16<|D B<|F (kt<|kt<|kb<|kt<|kn) fun _=>?_
 refine E<|E<|G<|D B ?_
 obtain ⟨x18,hx18,h⟩:=J h
 refine W B (c302 x16 _ hx18)<|D B ?_
 obtain ⟨x22,hx22,h⟩:=J h
 refine gX 3 [20,21] 22 x22 x18 (fun hg22=>?_) (fun hg22=>?_) ?_
 ·replace h:=O hg22 hx22
  cases h
  refine I B hg22<|I B hg22<|a2 B hg22 B ?_
  exact ⟨⟨_,_,B⟩⟩
 ·replace h:=R hg22 hx22
  refine H B hg22<|D B ?_
  obtain ⟨x21,hx21,h⟩:=J h
  refine H B hg22<|W B (c303 x16 _ hx21) ?_
  cases h
  refine a3 B hg22 B ?_
  exact ⟨⟨_,_,B⟩⟩
 rintro _ ⟨_,_,rfl⟩
 refine F (kt<|kt<|kb<|kt<|kt<|kn) fun _=>?_
 refine U B (fun hc22=>?_) (fun hc22=>?_)
 ·replace h:=O hc22 h
  refine E<|G<|D B<|D B<|D B ?_
  obtain ⟨x26,hx26,h⟩:=J h
  refine W B (c303 x16 _ hx26) ?_
  obtain ⟨x27,hx27,h⟩:=J h
  refine W B (c304 s_0 at' x26 _ hx27)<|D B<|F (kt<|kt<|kb<|kt<|kt<|kn) fun _=>?_
  refine E<|G<|D B<|D B<|F (kt<|kt<|kb<|kt<|kt<|kt<|kt<|kn) fun _=>?_
  refine E<|E<|G<|D B ?_
  obtain ⟨x29,hx29,h⟩:=J h
  refine W B (c303 x16 _ hx29)<|F (kt<|kt<|kb<|kt<|kt<|kt<|kt<|kn) fun _=>?_
  obtain ⟨w1,hw1,h⟩:=J h
  refine l1 (fun ze=>ze=[(0,.tv (eS s_0)),(1,.tv (eI at')),(4,.bx [⟨false,eI 0⟩,⟨false,eS (⟨#[]⟩:ByteArray)⟩,⟨false,eI 0⟩]),(8,.tv (eI x27)),(9,.tv (eI w1.1)),(10,.tv (eI w1.2))]) ?_ ?_
  ·replace h:=hw1
   clear hw1
   refine U B (fun hc29=>?_) (fun hc29=>?_)
   ·replace h:=O hc29 h
    refine G<|D B<|D B<|F (kt<|kt<|kb<|kt<|kt<|kt<|kn) ?_
    cases h
    exact rfl
   ·replace h:=R hc29 h
    refine T (kt<|kt<|kb<|kt<|kt<|kt<|kn) ?_
    cases h
    exact rfl
  rintro _ rfl
  intro _
  refine E<|E<|G<|D B<|D B<|e8 B B<|F (kt<|kt<|kb<|kt<|kt<|kt<|kn) fun _=>?_
  refine U B (fun hc32=>?_) (fun hc32=>?_)
  ·replace h:=O hc32 h
   refine E<|G<|e5 B B (B:_=eToken (Token.mk 0 (⟨#[]⟩:ByteArray) 0))<|b3 B B B B B<|D B<|D B<|F (kb<|kt<|kt<|kn) fun _=>?_
   refine L ?_
   cases h
   exact ⟨by decide,rfl⟩
  ·replace h:=R hc32 h
   refine T (kt<|kt<|kb<|kt<|kt<|kn) fun _=>?_
   refine E<|G<|D B<|D B<|D B<|D B<|D B<|a7 B B ?_
   obtain ⟨x40,hx40,h⟩:=J h
   refine m0 B B B hx40<|e5 B B (B:_=eToken (Token.mk w1.1 x40 0))<|D B<|b3 B B B B B<|D B<|D B<|F (kb<|kt<|kt<|kn) fun _=>?_
   refine L ?_
   cases h
   exact ⟨by decide,rfl⟩
 ·replace h:=R hc22 h
  refine T (kt<|kt<|kb<|kt<|kn) fun _=>?_
  refine E<|E<|G<|D B<|b5 B B<|F (kt<|kt<|kb<|kt<|kn) fun _=>?_
  refine U B (fun hc44=>?_) (fun hc44=>?_)
  ·replace h:=O hc44 h
   refine E<|G<|D B<|D B ?_
   obtain ⟨x47,hx47,h⟩:=J h
   refine W B (c305 s_0 at' _ hx47)<|D B<|F (kt<|kt<|kb<|kt<|kn) fun _=>?_
   refine E<|E<|G<|D B<|b5 B B<|F (kt<|kt<|kb<|kt<|kt<|kn) fun _=>?_
   refine U B (fun hc49=>?_) (fun hc49=>?_)
   ·replace h:=O hc49 h
    refine E<|G<|e5 B B (B:_=eToken (Token.mk 0 (⟨#[]⟩:ByteArray) 0))<|b3 B B B B B<|D B<|D B<|F (kb<|kt<|kt<|kn) fun _=>?_
    refine L ?_
    cases h
    exact ⟨by decide,rfl⟩
   ·replace h:=R hc49 h
    refine T (kt<|kt<|kb<|kt<|kn) fun _=>?_
    refine E<|E<|G<|D B<|f7 B B<|e8 B B<|F (kt<|kt<|kb<|kt<|kt<|kn) fun _=>?_
    refine U B (fun hc53=>?_) (fun hc53=>?_)
    ·replace h:=O hc53 h
     refine E<|G<|e5 B B (B:_=eToken (Token.mk 0 (⟨#[]⟩:ByteArray) 0))<|b3 B B B B B<|D B<|D B<|F (kb<|kt<|kt<|kn) fun _=>?_
     refine L ?_
     cases h
     exact ⟨by decide,rfl⟩
    ·replace h:=R hc53 h
     refine T (kt<|kt<|kb<|kt<|kn) fun _=>?_
     refine E<|G<|D B<|D B<|a7 B B<|D B<|D B<|a7 B B<|f7 B B ?_
     obtain ⟨x62,hx62,h⟩:=J h
     refine m0 B B B hx62<|e5 B B (B:_=eToken (Token.mk 3 x62 0))<|D B<|b3 B B B B B<|D B<|D B<|F (kb<|kt<|kt<|kn) fun _=>?_
     refine L ?_
     cases h
     exact ⟨by decide,rfl⟩
  ·replace h:=R hc44 h
   refine T (kt<|kt<|kb<|kn) fun _=>?_
   refine E<|G ?_
   obtain ⟨x65,hx65,h⟩:=J h
   refine l7 B (c306  _ hx65)<|f8 B<|F (kt<|kt<|kb<|ko<|kn) fun _=>?_
   refine E<|E<|G<|D B<|F (kt<|kt<|kb<|ko<|kt<|kn) fun _=>?_
   obtain ⟨o0,ho0,h⟩:=d4 h
   refine e0 ho0 (fun (i0:Int) (s0:Token)=>[(0,.tv (eS s_0)),(1,.tv (eI at')),(4,.bx [⟨false,eI s0.Kind⟩,⟨false,eS s0.Text⟩,⟨false,eI s0.Line⟩]),(12,.ow (lB x65)),(13,.tv (eI i0))]) (fun (s0:Token)=>[(4,.bx [⟨false,eI s0.Kind⟩,⟨false,eS s0.Text⟩,⟨false,eI s0.Line⟩])]) (fun zv ze=>resIs ([.cell 4 (some 3),.tmp 5,.tmp 6]) (.tp [eToken zv.1,eI zv.2.1,eI zv.2.2]) ze) B ?_ ?_ ?_ ?_
   ·clear h ho0
    intro i0 s0 r0 hi0 h hw0
    refine E<|E<|G<|D B<|D B<|V B B<|X B B<|F (kt<|kt<|kb<|ko<|kt<|kt<|kn) fun _=>?_
    refine d0 B (d1 hi0)<|T (kt<|kt<|kb<|ko<|kt<|kn) fun _=>?_
    refine E<|a9<|E<|e2 B<|D B<|D B<|D B ?_
    obtain ⟨x75,hx75,h⟩:=J h
    refine a4 B B B hx75 B<|K B<|g3 B<|a7 B B<|D B<|g3 B<|f4 B B<|D B ?_
    obtain ⟨x98,hx98,h⟩:=J h
    refine gX 16 [83,84,85,86,87,88,89,90,91,92,93,94,95,96,97] 98 x98 (decide ((w64 (at'+(x75.size:Int)))<=(s_0.size:Int))) (fun hg98=>?_) (fun hg98=>?_) ?_
    ·replace h:=O hg98 hx98
     refine H B hg98<|D B<|H B hg98<|D B<|H B hg98<|D B<|H B hg98<|D B<|H B hg98<|D B ?_
     obtain ⟨x88,hx88,h⟩:=J h
     refine H B hg98<|a4 B B B hx88 B<|H B hg98<|K B<|H B hg98<|g3 B<|H B hg98<|a7 B B ?_
     obtain ⟨x92,hx92,h⟩:=J h
     refine H B hg98<|m0 B B B hx92<|H B hg98<|D B<|H B hg98<|D B ?_
     obtain ⟨x95,hx95,h⟩:=J h
     refine H B hg98<|a4 B B B hx95 B<|H B hg98<|K B<|H B hg98<|g9 B B ?_
     cases h
     refine a2 B hg98 B ?_
     exact ⟨⟨_,_,_,_,_,_,_,_,_,_,_,_,_,_,_,B⟩⟩
    ·replace h:=R hg98 hx98
     cases h
     refine I B hg98<|I B hg98<|I B hg98<|I B hg98<|I B hg98<|I B hg98<|I B hg98<|I B hg98<|I B hg98<|I B hg98<|I B hg98<|I B hg98<|I B hg98<|I B hg98<|I B hg98<|a3 B hg98 B ?_
     exact ⟨⟨_,_,_,_,_,_,_,_,_,_,_,_,_,_,_,B⟩⟩
    rintro _ ⟨_,_,_,_,_,_,_,_,_,_,_,_,_,_,_,rfl⟩
    refine F (kt<|kt<|kb<|ko<|kt<|kt<|kn) fun _=>?_
    refine U B (fun hc98=>?_) (fun hc98=>?_)
    ·replace h:=O hc98 h
     refine E<|e2 B<|D B<|D B ?_
     obtain ⟨x101,hx101,h⟩:=J h
     refine a4 B B B hx101 B<|K B<|e5 B B (B:_=eToken (Token.mk 4 x101 0))<|D B<|D B ?_
     obtain ⟨x106,hx106,h⟩:=J h
     refine a4 B B B hx106 B<|K B<|g3 B<|b3 B B B B B<|D B<|D B<|F (kb<|kt<|kt<|kn) fun _=>?_
     refine L ?_
     cases h
     exact ⟨_,rfl,⟨by decide,rfl⟩⟩
    ·replace h:=R hc98 h
     refine T (kt<|kt<|kb<|ko<|kt<|kn) fun _=>?_
     refine G<|D B<|a7 B B<|D B<|F (kt<|kt<|kb<|ko<|kt<|kn) ?_
     cases h
     refine ⟨_,B,?_⟩
     rw [Ktv rfl (Ktv rfl (Kbx rfl (Kow rfl (Ktv rfl (Knil _)))))]
     rw [b6 (a5 (hw0 13)) hi0 (f5 (m8 (hw0 12)) rfl)]
     all_goals rfl
   ·intro i0 s0 hi0
    refine E<|E<|G<|D B<|D B<|V B B<|X B B<|F (kt<|kt<|kb<|ko<|kt<|kt<|kn) fun _=>?_
    refine b9 B (d2 hi0)<|b4 (kb<|kn) ?_
    exact ⟨rfl,rfl⟩
   ·intro s0 hs
    replace h:=d5 h hs
    intro _
    refine E<|G<|e5 B B (B:_=eToken (Token.mk 0 (⟨#[]⟩:ByteArray) 0))<|b3 B B B B B<|D B<|D B<|F (kb<|kt<|kt<|kn) fun _=>?_
    refine L ?_
    cases h
    exact ⟨by decide,rfl⟩
   ·intro v0 ze hv hR
    replace h:=d6 h hv
    cases h
    exact hR
theorem ck253:CK f253 (Rq [Af 1 0,Aj 2] [1]<|Rq [Ae 7 1 3,Av 8 280 7,Aa 3 8] [1,3]<|Sq (Rq [Aa 9 3,⟨some 10,.bin (.s) .eql (.s 9) (.c (.str ⟨#[]⟩)),none⟩] [1,3,10]<|Co 10 (Rq [Aj 2] [2]<|.ret)<|Sk [1,3])<|Rq [Aa 12 3,Dy 13 281 12 0,Aa 11 13,Ak 14 11 0,Ak 15 11 1,Ak 16 11 2,Fw 4 0 0,Al 3 4 14,Aa 5 15,Aa 6 16] [1,3,4,5,6]<|Rq [Aa 17 6,Az 18 17 0,Aa 19 18,At 20 5 19,At 21 3 19,Es 22 21 19,Cw 23 20 22 19,Aq 24 19 23,Aa 25 24,Ax 26 4 0 25,Ay 27 26 25,Ax 28 1 0 25,Ay 29 28 25,Cw 30 27 29 25,Aq 31 25 30,Aa 2 31] [2]<|.ret) [.tmp 2]:= by decide +kernel
theorem c253 (t:Token) (r:Bool) (h:ref01_Right t=some r):Sound prog 253 [eToken t] (.sh (eB r)):= by
 refine Fn ck253 fun hw=>?_
 unfold ref01_Right at h
 refine E<|G<|Y B B<|D B<|F km1 fun _=>?_
 refine E<|G<|S B B (B:_=eToken t) ?_
 obtain ⟨x8,hx8,h⟩:=J h
 refine W B (c280 t _ hx8)<|D B<|F km2 fun _=>?_
 refine E<|E<|G<|D B<|g9 B B<|F km3 fun _=>?_
 refine U B (fun hc10=>?_) (fun hc10=>?_)
 ·replace h:=O hc10 h
  refine E<|G<|D B<|F km1 fun _=>?_
  exact L (by cases h;rfl)
 ·replace h:=R hc10 h
  refine T km2 fun _=>?_
  refine E<|G<|D B ?_
  obtain ⟨x13,hx13,h⟩:=J h
  refine f1 B (c281 x8 0 _ hx13)<|f0 B<|b2 B B<|b2 B B<|b2 B B<|d8 B<|b3 B B B B B<|D B<|D B<|F (kt<|kt<|kb<|kt<|kt<|kn) fun _=>?_
  refine E<|G<|D B<|b5 B B<|D B ?_
  refine gA 5 [20,21,22,23] 24 (decide (x13.2.2=0)) (decide (x13.2.1=(x8.size:Int))) (fun hg24=>?_) (fun hg24=>?_) ?_
  ·refine H B hg24<|D B<|H B hg24<|D B<|H B hg24<|g3 B<|H B hg24<|b5 B B<|a2 B hg24 B ?_
   exact ⟨⟨_,_,_,_,B⟩⟩
  ·refine I B hg24<|I B hg24<|I B hg24<|I B hg24<|a3 B hg24 B ?_
   exact ⟨⟨_,_,_,_,B⟩⟩
  rintro _ ⟨_,_,_,_,rfl⟩
  refine D B ?_
  refine gA 6 [26,27,28,29,30] 31 ((decide (x13.2.2=0))&&(decide (x13.2.1=(x8.size:Int)))) (decide (x13.1.Kind=t.Kind)) (fun hg31=>?_) (fun hg31=>?_) ?_
  ·refine H B hg31<|a6 B<|H B hg31<|K B<|H B hg31<|M B<|H B hg31<|K B<|H B hg31<|b5 B B<|a2 B hg31 B ?_
   exact ⟨⟨_,_,_,_,_,B⟩⟩
  ·refine I B hg31<|I B hg31<|I B hg31<|I B hg31<|I B hg31<|a3 B hg31 B ?_
   exact ⟨⟨_,_,_,_,_,B⟩⟩
  rintro _ ⟨_,_,_,_,_,rfl⟩
  refine D B<|F km1 fun _=>?_
  exact L (by cases h;rfl)
theorem ck223:CK f223 (Rq [Aj 2] [0]<|Rq [Aa 3 0,Dt 4 0 0 0 1 1 1 1 3,Av 5 253 4,Aa 2 5] [2]<|.ret) [.tmp 2]:= by decide +kernel
theorem c223 (s_0:ByteArray) (r:Bool) (h:ref01_IsName s_0=some r):Sound prog 223 [eS s_0] (.sh (eB r)):= by
 refine Fn ck223 fun hw=>?_
 unfold ref01_IsName at h
 refine E<|G<|D B<|F km1 fun _=>?_
 refine E<|G<|D B<|e5 B B (B:_=eToken (Token.mk 1 s_0 0)) ?_
 obtain ⟨x5,hx5,h⟩:=J h
 refine W B (c253 (Token.mk 1 s_0 0) _ hx5)<|D B<|F km1 fun _=>?_
 exact L (by cases h;rfl)
theorem ck254:CK f254 (Rq [Ad 2 0] [0]<|Sq (Rq [Aa 5 0,Ag 6 5,Bf 7 6 20] [0,7]<|Co 7 (Rq [Ad 2 3] [2]<|.ret)<|Sk [0])<|Sq (Rq [Ad 3 0] [0,3]<|Bl 0<|Lo [0,3]<|Sq (Rq [Aa 8 3,Aa 9 0,Ag 10 9,Am 11 8 10] [0,3,11]<|Co 11 (Sk [0,3])<|Ex 0 [])<|Sq (Bl 1<|Sq (Rq [Aa 14 0,Aa 15 3,Ai 16 14 15 1,Ab 17 16,Av 18 223 17,Ba 19 18] [0,3,19]<|Co 19 (Rq [Ad 2 2] [2]<|.ret)<|Sk [0,3])<|Rq [Ad 4 0] [0,3,4]<|Bl 2<|Lo [0,3,4]<|Sq (Rq [Aa 20 4,Aa 21 3,Am 22 20 21] [0,3,4,22]<|Co 22 (Sk [0,3,4])<|Ex 2 [0,3])<|Sq (Bl 3<|Sq (Dr [25,26,27,28,29,30,31,32,33] [Aa 25 0,Aa 26 4,Ai 27 25 26 1,Ab 28 27,Aa 29 0,Aa 30 3,Ai 31 29 30 1,Ab 32 31,Cp 33 28 32] [0,3,4,33])<|Co 33 (Rq [Ad 2 5] [2]<|.ret)<|Sk [0,3,4])<|Re [Aa 23 4,Ao 24 23 1,Aa 4 24] [0,3,4])<|Re [Aa 12 3,Ao 13 12 1,Aa 3 13] [0,3])<|Rq [Ad 2 0] [2]<|.ret) [.tmp 2]:= by decide +kernel
theorem c254 (l:List ByteArray) (r:Int) (h:ref04_names l=some r):Sound prog 254 [lB l] (.sh (eI r)):= by
 refine Fn ck254 fun hw=>?_
 unfold ref04_names at h
 refine E<|G<|D B<|F km1 fun _=>?_
 refine E<|E<|G<|D B<|V B B<|e8 B B<|F km2 fun _=>?_
 refine U B (fun hc7=>?_) (fun hc7=>?_)
 ·replace h:=O hc7 h
  refine E<|G<|D B<|F km1 fun _=>?_
  exact L (by cases h;rfl)
 ·replace h:=R hc7 h
  refine T km1 fun _=>?_
  refine E<|E<|G<|D B<|F km2 fun _=>?_
  obtain ⟨o0,ho0,h⟩:=d4 h
  refine e0 ho0 (fun (i0:Int) (_:Unit)=>[(0,.tv (lB l)),(3,.tv (eI i0))]) (fun (_:Unit)=>[]) (fun zv ze=>resIs ([.tmp 2]) (.sh (eI zv)) ze) B ?_ ?_ ?_ ?_
  ·clear h ho0
   intro i0 s0 r0 hi0 h hw0
   refine E<|E<|G<|D B<|D B<|V B B<|X B B<|F km3 fun _=>?_
   refine d0 B (d1 hi0)<|T km2 fun _=>?_
   refine E<|a9<|E<|E<|G<|D B<|D B ?_
   obtain ⟨x16,hx16,h⟩:=J h
   refine a4 B B B hx16 B<|K B ?_
   obtain ⟨x18,hx18,h⟩:=J h
   refine W B (c223 x16 _ hx18)<|d3 B<|F km3 fun _=>?_
   refine U B (fun hc19=>?_) (fun hc19=>?_)
   ·replace h:=O hc19 h
    refine E<|G<|D B<|F km1 fun _=>?_
    refine L ?_
    cases h
    exact ⟨_,rfl,rfl⟩
   ·replace h:=R hc19 h
    refine T km2 fun _=>?_
    refine E<|G<|D B<|F km3 fun _=>?_
    obtain ⟨o2,ho2,h⟩:=d4 h
    refine e0 ho2 (fun (i2:Int) (_:Unit)=>[(0,.tv (lB l)),(3,.tv (eI i0)),(4,.tv (eI i2))]) (fun (_:Unit)=>[(0,.tv (lB l)),(3,.tv (eI i0))]) (fun zv ze=>resIs ([.tmp 2]) (.sh (eI zv)) ze) B ?_ ?_ ?_ ?_
    ·clear h ho2
     intro i2 s2 r2 hi2 h hw2
     refine E<|E<|G<|D B<|D B<|X B B<|F km4 fun _=>?_
     refine d0 B (d1 hi2)<|T km3 fun _=>?_
     refine E<|a9<|E<|e2 B<|D B<|D B ?_
     obtain ⟨x27,hx27,h⟩:=J h
     refine a4 B B B hx27 B<|K B<|D B<|D B ?_
     obtain ⟨x31,hx31,h⟩:=J h
     refine a4 B B B hx31 B<|K B<|g9 B B<|F km4 fun _=>?_
     refine U B (fun hc33=>?_) (fun hc33=>?_)
     ·replace h:=O hc33 h
      refine E<|G<|D B<|F km1 fun _=>?_
      refine L ?_
      cases h
      exact ⟨_,rfl,rfl⟩
     ·replace h:=R hc33 h
      refine T km3 fun _=>?_
      refine G<|D B<|a7 B B<|D B<|F km3 ?_
      cases h
      refine ⟨_,B,?_⟩
      rw [Ktv rfl (Ktv rfl (Ktv rfl (Knil _)))]
      rw [b6 (a5 (hw2 4)) hi2 (e1 (a5 (hw2 3)))]
      all_goals rfl
    ·intro i2 s2 hi2
     refine E<|E<|G<|D B<|D B<|X B B<|F km4 fun _=>?_
     refine b9 B (d2 hi2)<|b4 km2 ?_
     exact ⟨rfl,rfl⟩
    ·intro s2 hs
     replace h:=d5 h hs
     intro _
     refine G<|D B<|a7 B B<|D B<|F km2 ?_
     cases h
     refine ⟨_,B,?_⟩
     rw [Ktv rfl (Ktv rfl (Knil _))]
     rw [b6 (a5 (hw0 3)) hi0 (f5 (a5 (hw0 0)) rfl)]
     all_goals rfl
    ·intro v2 ze hv hR
     replace h:=d6 h hv
     cases h
     exact ⟨_,rfl,hR⟩
  ·intro i0 s0 hi0
   refine E<|E<|G<|D B<|D B<|V B B<|X B B<|F km3 fun _=>?_
   refine b9 B (d2 hi0)<|b4 kn ?_
   exact ⟨rfl,rfl⟩
  ·intro s0 hs
   replace h:=d5 h hs
   intro _
   refine E<|G<|D B<|F km1 fun _=>?_
   exact L (by cases h;rfl)
  ·intro v0 ze hv hR
   replace h:=d6 h hv
   cases h
   exact hR
theorem ck224:CK f224 (Rq [Af 1 0,Ad 2 0] [1]<|Sq (Rq [Ac 4 1 3,Ab 5 4,Ag 6 5,Az 7 6 0] [1,7]<|Co 7 (Sq (Rq [Ac 8 1 1,Ab 9 8,⟨some 10,.call 188 [.s 9,.c (.int .i64 (-1000000)),.c (.int .i64 1000000)],none⟩,Ba 11 10,Aa 12 11,Ap 13 1 2 12,An 14 13 12,Ap 15 1 1 12,An 16 15 12,Fx 17 188 14 16 1000000 12,Bm 18 17 12,Ar 19 12 18] [19]<|Co 19 (Rq [Ad 2 6] [2]<|.ret)<|Sk [])<|Rq [Ad 2 0] [2]<|.ret)<|Sk [1])<|Sq (Rq [Ac 20 1 3,Ab 21 20,Av 22 254 21,Aa 3 22] [1,3]<|Rq [Aa 23 3,Au 24 23 0] [1,3,24]<|Co 24 (Rq [Aa 25 3,Aa 2 25] [2]<|.ret)<|Sk [1])<|Sq (Rq [Ac 26 1 1,Ab 27 26,Au 28 27 0,Aa 29 28,Ap 30 1 2 29,An 31 30 29,Ap 32 1 3 29,An 33 32 29,Be 34 33 29,Fa 35 34 1 29,Ck 36 31 35 29,Ar 37 29 36] [37]<|Co 37 (Rq [Ad 2 6] [2]<|.ret)<|Sk [])<|Rq [Ad 2 0] [2]<|.ret) [.tmp 2]:= by decide +kernel
theorem c224 (a:Attr) (r:Int) (h:ref04_attribute a=some r):Sound prog 224 [eAttr a] (.sh (eI r)):= by
 refine Fn ck224 fun hw=>?_
 unfold ref04_attribute at h
 refine E<|G<|Y B B<|D B<|F km1 fun _=>?_
 refine E<|E<|G<|M B<|K B<|V B B<|b5 B B<|F km2 fun _=>?_
 refine U B (fun hc7=>?_) (fun hc7=>?_)
 ·replace h:=O hc7 h
  refine E<|E<|G<|M B<|K B ?_
  obtain ⟨x10,hx10,h⟩:=J h
  refine W B (c188 a.Low (-1000000) 1000000 _ hx10)<|d3 B<|D B ?_
  obtain ⟨x19,hx19,h⟩:=J h
  refine gX 7 [13,14,15,16,17,18] 19 x19 (!x10) (fun hg19=>?_) (fun hg19=>?_) ?_
  ·replace h:=O hg19 hx19
   cases h
   refine I B hg19<|I B hg19<|I B hg19<|I B hg19<|I B hg19<|I B hg19<|a2 B hg19 B ?_
   exact ⟨⟨_,_,_,_,_,_,B⟩⟩
  ·replace h:=R hg19 hx19
   refine H B hg19<|M B<|H B hg19<|K B<|H B hg19<|M B<|H B hg19<|K B ?_
   obtain ⟨x17,hx17,h⟩:=J h
   refine H B hg19<|W B (c188 a.High a.Low 1000000 _ hx17)<|H B hg19<|d3 B ?_
   cases h
   refine a3 B hg19 B ?_
   exact ⟨⟨_,_,_,_,_,_,B⟩⟩
  rintro _ ⟨_,_,_,_,_,_,rfl⟩
  refine F km1 fun _=>?_
  refine U B (fun hc19=>?_) (fun hc19=>?_)
  ·replace h:=O hc19 h
   refine E<|G<|D B<|F km1 fun _=>?_
   exact L (by cases h;rfl)
  ·replace h:=R hc19 h
   refine T kn fun _=>?_
   refine E<|G<|D B<|F km1 fun _=>?_
   exact L (by cases h;rfl)
 ·replace h:=R hc7 h
  refine T km1 fun _=>?_
  refine E<|E<|G<|M B<|K B ?_
  obtain ⟨x22,hx22,h⟩:=J h
  refine W B (c254 a.Names _ hx22)<|D B<|F km2 fun _=>?_
  refine E<|G<|D B<|a8 B B<|F km3 fun _=>?_
  refine U B (fun hc24=>?_) (fun hc24=>?_)
  ·replace h:=O hc24 h
   refine E<|G<|D B<|D B<|F km1 fun _=>?_
   exact L (by cases h;rfl)
  ·replace h:=R hc24 h
   refine T km1 fun _=>?_
   refine E<|E<|G<|M B<|K B<|a8 B B<|D B ?_
   refine gO 8 [30,31,32,33,34,35,36] 37 (!decide (a.Low=0)) (!decide (a.High=(w64 ((a.Names.length:Int) - 1)))) (fun hg37=>?_) (fun hg37=>?_) ?_
   ·refine I B hg37<|I B hg37<|I B hg37<|I B hg37<|I B hg37<|I B hg37<|I B hg37<|a2 B hg37 B ?_
    exact ⟨⟨_,_,_,_,_,_,_,B⟩⟩
   ·refine H B hg37<|M B<|H B hg37<|K B<|H B hg37<|M B<|H B hg37<|K B<|H B hg37<|V B B<|H B hg37<|f7 B B<|H B hg37<|a8 B B<|a3 B hg37 B ?_
    exact ⟨⟨_,_,_,_,_,_,_,B⟩⟩
   rintro _ ⟨_,_,_,_,_,_,_,rfl⟩
   refine F km1 fun _=>?_
   refine U B (fun hc37=>?_) (fun hc37=>?_)
   ·replace h:=O hc37 h
    refine E<|G<|D B<|F km1 fun _=>?_
    exact L (by cases h;rfl)
   ·replace h:=R hc37 h
    refine T kn fun _=>?_
    refine E<|G<|D B<|F km1 fun _=>?_
    exact L (by cases h;rfl)
theorem ck162:CK f162 (Rq [Af 2 0,Ad 4 0] [1,2]<|Rq [Ac 11 2 0,Ab 12 11,Aa 13 1,Ai 14 12 13 4,Ae 15 14 4,Ev 5 0 4,Al 4 5 15] [1,2,5]<|Sq (Rq [Ac 16 5 0,Ab 17 16,Av 18 223 17,Ba 19 18] [1,2,5,19]<|Co 19 (Rq [Ad 4 2] [4]<|.ret)<|Sk [1,2,5])<|Sq (Rq [Ad 6 0] [1,2,5,6]<|Bl 0<|Lo [1,2,5,6]<|Sq (Rq [Aa 20 6,Aa 21 1,Am 22 20 21] [1,2,5,6,22]<|Co 22 (Sk [1,2,5,6])<|Ex 0 [1,2,5])<|Sq (Bl 1<|Sq (Dr [25,26,27,28,29,30,31,32,33] [Ac 25 2 0,Ab 26 25,Aa 27 6,Ai 28 26 27 4,Ah 29 28 0,Ab 30 29,Ac 31 5 0,Ab 32 31,Cp 33 30 32] [1,2,5,6,33])<|Co 33 (Rq [Ad 4 5] [4]<|.ret)<|Sk [1,2,5,6])<|Re [Aa 23 6,Ao 24 23 1,Aa 6 24] [1,2,5,6])<|Sq (Rq [Ac 34 5 1,Ab 35 34,Aa 36 1,Ch 37 36 1,⟨some 38,.call 188 [.s 35,.c (.int .i64 (-1)),.s 37],none⟩,Ba 39 38] [1,2,5,39]<|Co 39 (Rq [Ad 4 6] [4]<|.ret)<|Sk [1,2,5])<|Rq [Ae 40 2 2,Aa 41 1,As 42 186 40 41,Bb 7 42] [5,7]<|Sq (Rq [Ac 43 5 3,Ab 44 43,Ag 45 44,Bf 46 45 4,Aa 47 46,Aw 48 7 47,Be 49 48 47,Br 50 49 8 47,Ar 51 47 50] [5,7,51]<|Co 51 (Rq [Ad 4 3] [4]<|.ret)<|Sk [5,7])<|Sq (Rq [Aa 52 7,Ag 53 52,Ac 54 5 3,Ab 55 54,Ag 56 55,Di 57 53 56,Aa 8 57] [7,8]<|Bl 2<|Lo [7,8]<|Sq (Rq [Aa 58 8,Aa 59 7,Ag 60 59,Am 61 58 60] [7,8,61]<|Co 61 (Sk [7,8])<|Ex 2 [])<|Sq (Bl 3<|Sq (Rq [Aa 64 7,Aa 65 8,Ai 66 64 65 4,Ah 67 66 0,Ab 68 67,Av 69 223 68,Ba 70 69] [7,8,70]<|Co 70 (Rq [Ad 4 2] [4]<|.ret)<|Sk [7,8])<|Sq (Rq [Ad 9 0] [7,8,9]<|Bl 4<|Lo [7,8,9]<|Sq (Rq [Aa 71 9,Aa 72 8,Am 73 71 72] [7,8,9,73]<|Co 73 (Sk [7,8,9])<|Ex 4 [7,8])<|Sq (Bl 5<|Sq (Dr [76,77,78,79,80,81,82,83,84,85,86] [Aa 76 7,Aa 77 9,Ai 78 76 77 4,Ah 79 78 0,Ab 80 79,Aa 81 7,Aa 82 8,Ai 83 81 82 4,Ah 84 83 0,Ab 85 84,Cp 86 80 85] [7,8,9,86])<|Co 86 (Rq [Ad 4 5] [4]<|.ret)<|Sk [7,8,9])<|Re [Aa 74 9,Ao 75 74 1,Aa 9 75] [7,8,9])<|Rq [Aa 87 7,Aa 88 8,Ai 89 87 88 4,Ae 90 89 4,Av 91 224 90,Aa 10 91] [7,8,10]<|Rq [Aa 92 10,Au 93 92 0] [7,8,10,93]<|Co 93 (Rq [Aa 94 10,Aa 4 94] [4]<|.ret)<|Sk [7,8])<|Re [Aa 62 8,Ao 63 62 1,Aa 8 63] [7,8])<|Rq [Ad 4 0] [4]<|.ret) [.tmp 4]:= by decide +kernel
theorem c162 (t:Types) (i_1:Int) (r:Int) (h:ref04_node t i_1=some r):Sound prog 162 [eTypes t,eI i_1] (.sh (eI r)):= by
 refine Fn ck162 fun hw=>?_
 unfold ref04_node at h
 refine E<|G<|Y B B<|D B<|F km2 fun _=>?_
 refine E<|G<|M B<|K B<|D B ?_
 obtain ⟨x14,hx14,h⟩:=J h
 refine a4 B B B hx14 B<|S B B (B:_=eNodeType x14)<|d8 B<|b3 B B B B B<|F (kt<|kt<|kb<|kn) fun _=>?_
 refine E<|E<|G<|a6 B<|K B ?_
 obtain ⟨x18,hx18,h⟩:=J h
 refine W B (c223 x14.Name _ hx18)<|d3 B<|F (kt<|kt<|kb<|kt<|kn) fun _=>?_
 refine U B (fun hc19=>?_) (fun hc19=>?_)
 ·replace h:=O hc19 h
  refine E<|G<|D B<|F km1 fun _=>?_
  exact L (by cases h;rfl)
 ·replace h:=R hc19 h
  refine T (kt<|kt<|kb<|kn) fun _=>?_
  refine E<|E<|G<|D B<|F (kt<|kt<|kb<|kt<|kn) fun _=>?_
  obtain ⟨o0,ho0,h⟩:=d4 h
  refine e0 ho0 (fun (i0:Int) (_:Unit)=>[(1,.tv (eI i_1)),(2,.tv (.pt (eTypes t).cells)),(5,.bx [⟨false,eS x14.Name⟩,⟨false,eI x14.Parent⟩,⟨false,eB x14.Abstract⟩,⟨false,lA x14.Attrs⟩]),(6,.tv (eI i0))]) (fun (_:Unit)=>[(1,.tv (eI i_1)),(2,.tv (.pt (eTypes t).cells)),(5,.bx [⟨false,eS x14.Name⟩,⟨false,eI x14.Parent⟩,⟨false,eB x14.Abstract⟩,⟨false,lA x14.Attrs⟩])]) (fun zv ze=>resIs ([.tmp 4]) (.sh (eI zv)) ze) B ?_ ?_ ?_ ?_
  ·clear h ho0
   intro i0 s0 r0 hi0 h hw0
   refine E<|E<|G<|D B<|D B<|X B B<|F (kt<|kt<|kb<|kt<|kt<|kn) fun _=>?_
   refine d0 B (d1 hi0)<|T (kt<|kt<|kb<|kt<|kn) fun _=>?_
   refine E<|a9<|E<|e2 B<|M B<|K B<|D B ?_
   obtain ⟨x28,hx28,h⟩:=J h
   refine a4 B B B hx28 B<|b8 B<|K B<|a6 B<|K B<|g9 B B<|F (kt<|kt<|kb<|kt<|kt<|kn) fun _=>?_
   refine U B (fun hc33=>?_) (fun hc33=>?_)
   ·replace h:=O hc33 h
    refine E<|G<|D B<|F km1 fun _=>?_
    refine L ?_
    cases h
    exact ⟨_,rfl,rfl⟩
   ·replace h:=R hc33 h
    refine T (kt<|kt<|kb<|kt<|kn) fun _=>?_
    refine G<|D B<|a7 B B<|D B<|F (kt<|kt<|kb<|kt<|kn) ?_
    cases h
    refine ⟨_,B,?_⟩
    rw [Ktv rfl (Ktv rfl (Kbx rfl (Ktv rfl (Knil _))))]
    rw [b6 (a5 (hw0 6)) hi0 (e1 (a5 (hw0 1)))]
    all_goals rfl
  ·intro i0 s0 hi0
   refine E<|E<|G<|D B<|D B<|X B B<|F (kt<|kt<|kb<|kt<|kt<|kn) fun _=>?_
   refine b9 B (d2 hi0)<|b4 (kt<|kt<|kb<|kn) ?_
   exact ⟨rfl,rfl⟩
  ·intro s0 hs
   replace h:=d5 h hs
   intro _
   refine E<|E<|G<|a6 B<|K B<|D B<|f7 B B ?_
   obtain ⟨x38,hx38,h⟩:=J h
   refine W B (c188 x14.Parent (-1) (w64 (i_1 - 1)) _ hx38)<|d3 B<|F (kt<|kt<|kb<|kt<|kn) fun _=>?_
   refine U B (fun hc39=>?_) (fun hc39=>?_)
   ·replace h:=O hc39 h
    refine E<|G<|D B<|F km1 fun _=>?_
    exact L (by cases h;rfl)
   ·replace h:=R hc39 h
    refine T (kt<|kt<|kb<|kn) fun _=>?_
    refine E<|G<|S B B (B:_=eTypes t)<|D B ?_
    obtain ⟨x42,hx42,h⟩:=J h
    refine l7 B (c186 t i_1 _ hx42)<|f8 B<|F (kb<|ko<|kn) fun _=>?_
    refine E<|E<|G<|a6 B<|K B<|V B B<|e8 B B<|D B ?_
    refine gO 4 [48,49,50] 51 (decide (4<(x14.Attrs.length:Int))) (decide (8<(x42.length:Int))) (fun hg51=>?_) (fun hg51=>?_) ?_
    ·refine I B hg51<|I B hg51<|I B hg51<|a2 B hg51 B ?_
     exact ⟨⟨_,_,_,B⟩⟩
    ·refine H B hg51<|D B<|H B hg51<|V B B<|H B hg51<|e8 B B<|a3 B hg51 B ?_
     exact ⟨⟨_,_,_,B⟩⟩
    rintro _ ⟨_,_,_,rfl⟩
    refine F (kb<|ko<|kt<|kn) fun _=>?_
    refine U B (fun hc51=>?_) (fun hc51=>?_)
    ·replace h:=O hc51 h
     refine E<|G<|D B<|F km1 fun _=>?_
     exact L (by cases h;rfl)
    ·replace h:=R hc51 h
     refine T (kb<|ko<|kn) fun _=>?_
     refine E<|E<|G<|D B<|V B B<|a6 B<|K B<|V B B<|f7 B B<|D B<|F (ko<|kt<|kn) fun _=>?_
     obtain ⟨o2,ho2,h⟩:=d4 h
     refine e0 ho2 (fun (i2:Int) (_:Unit)=>[(7,.ow (lA x42)),(8,.tv (eI i2))]) (fun (_:Unit)=>[]) (fun zv ze=>resIs ([.tmp 4]) (.sh (eI zv)) ze) B ?_ ?_ ?_ ?_
     ·clear h ho2
      intro i2 s2 r2 hi2 h hw2
      refine E<|E<|G<|D B<|D B<|V B B<|X B B<|F (ko<|kt<|kt<|kn) fun _=>?_
      refine d0 B (d1 hi2)<|T (ko<|kt<|kn) fun _=>?_
      refine E<|a9<|E<|E<|G<|D B<|D B ?_
      obtain ⟨x66,hx66,h⟩:=J h
      refine a4 B B B hx66 B<|b8 B<|K B ?_
      obtain ⟨x69,hx69,h⟩:=J h
      refine W B (c223 x66.Name _ hx69)<|d3 B<|F (ko<|kt<|kt<|kn) fun _=>?_
      refine U B (fun hc70=>?_) (fun hc70=>?_)
      ·replace h:=O hc70 h
       refine E<|G<|D B<|F km1 fun _=>?_
       refine L ?_
       cases h
       exact ⟨_,rfl,rfl⟩
      ·replace h:=R hc70 h
       refine T (ko<|kt<|kn) fun _=>?_
       refine E<|E<|G<|D B<|F (ko<|kt<|kt<|kn) fun _=>?_
       obtain ⟨o4,ho4,h⟩:=d4 h
       refine e0 ho4 (fun (i4:Int) (_:Unit)=>[(7,.ow (lA x42)),(8,.tv (eI i2)),(9,.tv (eI i4))]) (fun (_:Unit)=>[(7,.ow (lA x42)),(8,.tv (eI i2))]) (fun zv ze=>resIs ([.tmp 4]) (.sh (eI zv)) ze) B ?_ ?_ ?_ ?_
       ·clear h ho4
        intro i4 s4 r4 hi4 h hw4
        refine E<|E<|G<|D B<|D B<|X B B<|F (ko<|kt<|kt<|kt<|kn) fun _=>?_
        refine d0 B (d1 hi4)<|T (ko<|kt<|kt<|kn) fun _=>?_
        refine E<|a9<|E<|e2 B<|D B<|D B ?_
        obtain ⟨x78,hx78,h⟩:=J h
        refine a4 B B B hx78 B<|b8 B<|K B<|D B<|D B ?_
        obtain ⟨x83,hx83,h⟩:=J h
        refine a4 B B B hx83 B<|b8 B<|K B<|g9 B B<|F (ko<|kt<|kt<|kt<|kn) fun _=>?_
        refine U B (fun hc86=>?_) (fun hc86=>?_)
        ·replace h:=O hc86 h
         refine E<|G<|D B<|F km1 fun _=>?_
         refine L ?_
         cases h
         exact ⟨_,rfl,rfl⟩
        ·replace h:=R hc86 h
         refine T (ko<|kt<|kt<|kn) fun _=>?_
         refine G<|D B<|a7 B B<|D B<|F (ko<|kt<|kt<|kn) ?_
         cases h
         refine ⟨_,B,?_⟩
         rw [Kow rfl (Ktv rfl (Ktv rfl (Knil _)))]
         rw [b6 (a5 (hw4 9)) hi4 (e1 (a5 (hw4 8)))]
         all_goals rfl
       ·intro i4 s4 hi4
        refine E<|E<|G<|D B<|D B<|X B B<|F (ko<|kt<|kt<|kt<|kn) fun _=>?_
        refine b9 B (d2 hi4)<|b4 (ko<|kt<|kn) ?_
        exact ⟨rfl,rfl⟩
       ·intro s4 hs
        replace h:=d5 h hs
        intro _
        refine E<|G<|D B<|D B ?_
        obtain ⟨x89,hx89,h⟩:=J h
        refine a4 B B B hx89 B<|S B B (B:_=eAttr x89) ?_
        obtain ⟨x91,hx91,h⟩:=J h
        refine W B (c224 x89 _ hx91)<|D B<|F (ko<|kt<|kt<|kn) fun _=>?_
        refine E<|G<|D B<|a8 B B<|F (ko<|kt<|kt<|kt<|kn) fun _=>?_
        refine U B (fun hc93=>?_) (fun hc93=>?_)
        ·replace h:=O hc93 h
         refine E<|G<|D B<|D B<|F km1 fun _=>?_
         refine L ?_
         cases h
         exact ⟨_,rfl,rfl⟩
        ·replace h:=R hc93 h
         refine T (ko<|kt<|kn) fun _=>?_
         refine G<|D B<|a7 B B<|D B<|F (ko<|kt<|kn) ?_
         cases h
         refine ⟨_,B,?_⟩
         rw [Kow rfl (Ktv rfl (Knil _))]
         rw [b6 (a5 (hw2 8)) hi2 (f5 (m8 (hw2 7)) rfl)]
         all_goals rfl
       ·intro v4 ze hv hR
        replace h:=d6 h hv
        cases h
        exact ⟨_,rfl,hR⟩
     ·intro i2 s2 hi2
      refine E<|E<|G<|D B<|D B<|V B B<|X B B<|F (ko<|kt<|kt<|kn) fun _=>?_
      refine b9 B (d2 hi2)<|b4 kn ?_
      exact ⟨rfl,rfl⟩
     ·intro s2 hs
      replace h:=d5 h hs
      intro _
      refine E<|G<|D B<|F km1 fun _=>?_
      exact L (by cases h;rfl)
     ·intro v2 ze hv hR
      replace h:=d6 h hv
      cases h
      exact hR
  ·intro v0 ze hv hR
   replace h:=d6 h hv
   cases h
   exact hR
theorem ck225:CK f225 (Rq [Aj 4] [0,1]<|Rq [Aa 5 0,Fo 6 188 5 0 40,Aa 7 6,At 8 1 7,Fl 9 8 (-1) 7,At 10 9 7,Aw 11 1 10,Aw 12 0 10,Fx 13 188 11 12 40 10,Dk 14 10 13 7,Aq 15 7 14,Aa 4 15] [4]<|.ret) [.tmp 4]:= by decide +kernel
theorem c225 (low:Int) (high:Int) (r:Bool) (h:ref04_bound low high=some r):Sound prog 225 [eI low,eI high] (.sh (eB r)):= by
 refine Fn ck225 fun hw=>?_
 unfold ref04_bound at h
 refine E<|G<|D B<|F km2 fun _=>?_
 refine E<|G<|D B ?_
 obtain ⟨x6,hx6,h⟩:=J h
 refine W B (c188 low 0 40 _ hx6)<|D B ?_
 obtain ⟨x15,hx15,h⟩:=J h
 refine gX 8 [8,9,10,11,12,13,14] 15 x15 x6 (fun hg15=>?_) (fun hg15=>?_) ?_
 ·replace h:=O hg15 hx15
  refine H B hg15<|D B<|H B hg15<|b5 B B<|H B hg15<|D B ?_
  obtain ⟨x14,hx14,h⟩:=J h
  refine gX 4 [11,12,13] 14 x14 (decide (high=(-1))) (fun hg14=>?_) (fun hg14=>?_) ?_
  ·replace h:=O hg14 hx14
   cases h
   refine I B hg14<|I B hg14<|I B hg14<|H B hg15<|a2 B hg14 B ?_
   exact ⟨⟨_,_,_,B⟩⟩
  ·replace h:=R hg14 hx14
   refine H B hg14<|D B<|H B hg14<|D B ?_
   obtain ⟨x13,hx13,h⟩:=J h
   refine H B hg14<|W B (c188 high low 40 _ hx13) ?_
   cases h
   refine H B hg15<|a3 B hg14 B ?_
   exact ⟨⟨_,_,_,B⟩⟩
  rintro _ ⟨_,_,_,rfl⟩
  cases h
  refine a2 B hg15 B ?_
  exact ⟨⟨_,_,_,_,_,_,_,B⟩⟩
 ·replace h:=R hg15 hx15
  cases h
  refine I B hg15<|I B hg15<|I B hg15<|d7 B<|d7 B<|d7 B<|I B hg15<|a3 B hg15 B ?_
  exact ⟨⟨_,_,_,_,_,_,_,B⟩⟩
 rintro _ ⟨_,_,_,_,_,_,_,rfl⟩
 refine D B<|F km1 fun _=>?_
 exact L (by cases h;rfl)
theorem ck163:CK f163 (Rq [Af 2 0,Ad 4 0] [1,2]<|Rq [Ac 8 2 1,Ab 9 8,Aa 10 1,Ai 11 9 10 7,Ae 12 11 7,Ey 5 0 0 0 0 0 0,Al 7 5 12] [1,2,5]<|Sq (Rq [Ac 13 5 0,Ab 14 13,Av 15 223 14,Ba 16 15] [1,2,5,16]<|Co 16 (Rq [Ad 4 2] [4]<|.ret)<|Sk [1,2,5])<|Sq (Rq [Ad 6 0] [1,2,5,6]<|Bl 0<|Lo [1,2,5,6]<|Sq (Rq [Aa 17 6,Aa 18 1,Am 19 17 18] [1,2,5,6,19]<|Co 19 (Sk [1,2,5,6])<|Ex 0 [2,5])<|Sq (Bl 1<|Sq (Dr [22,23,24,25,26,27,28,29,30] [Ac 22 2 1,Ab 23 22,Aa 24 6,Ai 25 23 24 7,Ah 26 25 0,Ab 27 26,Ac 28 5 0,Ab 29 28,Cp 30 27 29] [1,2,5,6,30])<|Co 30 (Rq [Ad 4 5] [4]<|.ret)<|Sk [1,2,5,6])<|Re [Aa 20 6,Ao 21 20 1,Aa 6 21] [1,2,5,6])<|Rq [Ac 31 2 0,Ab 32 31,Ag 33 32,Ch 34 33 1,Aa 7 34] [5,7]<|Sq (Rq [Ac 35 5 1,Ab 36 35,Aa 37 7,Eb 38 188 36 0 37,Ba 39 38,Aa 40 39,Ap 41 5 2 40,An 42 41 40,Aw 43 7 40,Fy 44 188 42 0 43 40,Bm 45 44 40,Ar 46 40 45,Aa 47 46,Ap 48 5 3 47,An 49 48 47,Ap 50 5 4 47,An 51 50 47,Cx 52 225 49 51 47,Bm 53 52 47,Ar 54 47 53,Aa 55 54,Ap 56 5 5 55,An 57 56 55,Ap 58 5 6 55,An 59 58 55,Cx 60 225 57 59 55,Bm 61 60 55,Ar 62 55 61] [62]<|Co 62 (Rq [Ad 4 6] [4]<|.ret)<|Sk [])<|Rq [Ad 4 0] [4]<|.ret) [.tmp 4]:= by decide +kernel
theorem c163 (t:Types) (i_1:Int) (r:Int) (h:ref04_edge t i_1=some r):Sound prog 163 [eTypes t,eI i_1] (.sh (eI r)):= by
 refine Fn ck163 fun hw=>?_
 unfold ref04_edge at h
 refine E<|G<|Y B B<|D B<|F km2 fun _=>?_
 refine E<|G<|M B<|K B<|D B ?_
 obtain ⟨x11,hx11,h⟩:=J h
 refine a4 B B B hx11 B<|S B B (B:_=eEdgeType x11)<|d8 B<|b3 B B B B B<|F (kt<|kt<|kb<|kn) fun _=>?_
 refine E<|E<|G<|a6 B<|K B ?_
 obtain ⟨x15,hx15,h⟩:=J h
 refine W B (c223 x11.Name _ hx15)<|d3 B<|F (kt<|kt<|kb<|kt<|kn) fun _=>?_
 refine U B (fun hc16=>?_) (fun hc16=>?_)
 ·replace h:=O hc16 h
  refine E<|G<|D B<|F km1 fun _=>?_
  exact L (by cases h;rfl)
 ·replace h:=R hc16 h
  refine T (kt<|kt<|kb<|kn) fun _=>?_
  refine E<|E<|G<|D B<|F (kt<|kt<|kb<|kt<|kn) fun _=>?_
  obtain ⟨o0,ho0,h⟩:=d4 h
  refine e0 ho0 (fun (i0:Int) (_:Unit)=>[(1,.tv (eI i_1)),(2,.tv (.pt (eTypes t).cells)),(5,.bx [⟨false,eS x11.Name⟩,⟨false,eI x11.From⟩,⟨false,eI x11.To⟩,⟨false,eI x11.OutLow⟩,⟨false,eI x11.OutHigh⟩,⟨false,eI x11.InLow⟩,⟨false,eI x11.InHigh⟩]),(6,.tv (eI i0))]) (fun (_:Unit)=>[(2,.tv (.pt (eTypes t).cells)),(5,.bx [⟨false,eS x11.Name⟩,⟨false,eI x11.From⟩,⟨false,eI x11.To⟩,⟨false,eI x11.OutLow⟩,⟨false,eI x11.OutHigh⟩,⟨false,eI x11.InLow⟩,⟨false,eI x11.InHigh⟩])]) (fun zv ze=>resIs ([.tmp 4]) (.sh (eI zv)) ze) B ?_ ?_ ?_ ?_
  ·clear h ho0
   intro i0 s0 r0 hi0 h hw0
   refine E<|E<|G<|D B<|D B<|X B B<|F (kt<|kt<|kb<|kt<|kt<|kn) fun _=>?_
   refine d0 B (d1 hi0)<|T (kt<|kt<|kb<|kt<|kn) fun _=>?_
   refine E<|a9<|E<|e2 B<|M B<|K B<|D B ?_
   obtain ⟨x25,hx25,h⟩:=J h
   refine a4 B B B hx25 B<|b8 B<|K B<|a6 B<|K B<|g9 B B<|F (kt<|kt<|kb<|kt<|kt<|kn) fun _=>?_
   refine U B (fun hc30=>?_) (fun hc30=>?_)
   ·replace h:=O hc30 h
    refine E<|G<|D B<|F km1 fun _=>?_
    refine L ?_
    cases h
    exact ⟨_,rfl,rfl⟩
   ·replace h:=R hc30 h
    refine T (kt<|kt<|kb<|kt<|kn) fun _=>?_
    refine G<|D B<|a7 B B<|D B<|F (kt<|kt<|kb<|kt<|kn) ?_
    cases h
    refine ⟨_,B,?_⟩
    rw [Ktv rfl (Ktv rfl (Kbx rfl (Ktv rfl (Knil _))))]
    rw [b6 (a5 (hw0 6)) hi0 (e1 (a5 (hw0 1)))]
    all_goals rfl
  ·intro i0 s0 hi0
   refine E<|E<|G<|D B<|D B<|X B B<|F (kt<|kt<|kb<|kt<|kt<|kn) fun _=>?_
   refine b9 B (d2 hi0)<|b4 (kt<|kb<|kn) ?_
   exact ⟨rfl,rfl⟩
  ·intro s0 hs
   replace h:=d5 h hs
   intro _
   refine E<|G<|M B<|K B<|V B B<|f7 B B<|D B<|F (kb<|kt<|kn) fun _=>?_
   refine E<|E<|G<|a6 B<|K B<|D B ?_
   obtain ⟨x38,hx38,h⟩:=J h
   refine W B (c188 x11.From 0 (w64 ((t.Nodes.length:Int) - 1)) _ hx38)<|d3 B<|D B ?_
   obtain ⟨x46,hx46,h⟩:=J h
   refine gX 6 [41,42,43,44,45] 46 x46 (!x38) (fun hg46=>?_) (fun hg46=>?_) ?_
   ·replace h:=O hg46 hx46
    cases h
    refine I B hg46<|I B hg46<|I B hg46<|I B hg46<|I B hg46<|a2 B hg46 B ?_
    exact ⟨⟨_,_,_,_,_,B⟩⟩
   ·replace h:=R hg46 hx46
    refine H B hg46<|a6 B<|H B hg46<|K B<|H B hg46<|D B ?_
    obtain ⟨x44,hx44,h⟩:=J h
    refine H B hg46<|W B (c188 x11.To 0 (w64 ((t.Nodes.length:Int) - 1)) _ hx44)<|H B hg46<|d3 B ?_
    cases h
    refine a3 B hg46 B ?_
    exact ⟨⟨_,_,_,_,_,B⟩⟩
   rintro _ ⟨_,_,_,_,_,rfl⟩
   refine D B ?_
   obtain ⟨x54,hx54,h⟩:=J h
   refine gX 7 [48,49,50,51,52,53] 54 x54 x46 (fun hg54=>?_) (fun hg54=>?_) ?_
   ·replace h:=O hg54 hx54
    cases h
    refine I B hg54<|I B hg54<|I B hg54<|I B hg54<|I B hg54<|I B hg54<|a2 B hg54 B ?_
    exact ⟨⟨_,_,_,_,_,_,B⟩⟩
   ·replace h:=R hg54 hx54
    refine H B hg54<|a6 B<|H B hg54<|K B<|H B hg54<|a6 B<|H B hg54<|K B ?_
    obtain ⟨x52,hx52,h⟩:=J h
    refine H B hg54<|W B (c225 x11.OutLow x11.OutHigh _ hx52)<|H B hg54<|d3 B ?_
    cases h
    refine a3 B hg54 B ?_
    exact ⟨⟨_,_,_,_,_,_,B⟩⟩
   rintro _ ⟨_,_,_,_,_,_,rfl⟩
   refine D B ?_
   obtain ⟨x62,hx62,h⟩:=J h
   refine gX 7 [56,57,58,59,60,61] 62 x62 x54 (fun hg62=>?_) (fun hg62=>?_) ?_
   ·replace h:=O hg62 hx62
    cases h
    refine I B hg62<|I B hg62<|I B hg62<|I B hg62<|I B hg62<|I B hg62<|a2 B hg62 B ?_
    exact ⟨⟨_,_,_,_,_,_,B⟩⟩
   ·replace h:=R hg62 hx62
    refine H B hg62<|a6 B<|H B hg62<|K B<|H B hg62<|a6 B<|H B hg62<|K B ?_
    obtain ⟨x60,hx60,h⟩:=J h
    refine H B hg62<|W B (c225 x11.InLow x11.InHigh _ hx60)<|H B hg62<|d3 B ?_
    cases h
    refine a3 B hg62 B ?_
    exact ⟨⟨_,_,_,_,_,_,B⟩⟩
   rintro _ ⟨_,_,_,_,_,_,rfl⟩
   refine F km1 fun _=>?_
   refine U B (fun hc62=>?_) (fun hc62=>?_)
   ·replace h:=O hc62 h
    refine E<|G<|D B<|F km1 fun _=>?_
    exact L (by cases h;rfl)
   ·replace h:=R hc62 h
    refine T kn fun _=>?_
    refine E<|G<|D B<|F km1 fun _=>?_
    exact L (by cases h;rfl)
  ·intro v0 ze hv hR
   replace h:=d6 h hv
   cases h
   exact hR
theorem ck94:CK f94 (Rq [Af 1 0,By 2,Ad 3 0] [1]<|Sq (Rq [Ac 8 1 0,Ab 9 8,Ag 10 9,Az 11 10 0] [1,11]<|Co 11 (Rq [By 2,Ad 3 7] [2,3]<|.ret)<|Sk [1])<|Sq (Rq [Ac 12 1 0,Ab 13 12,Ag 14 13,Bf 15 14 12,Aa 16 15,Ap 17 1 1 16,An 18 17 16,Be 19 18 16,Br 20 19 20 16,Ar 21 16 20] [1,21]<|Co 21 (Rq [By 2,Ad 3 3] [2,3]<|.ret)<|Sk [1])<|Sq (Rq [Ad 4 0] [1,4]<|Bl 0<|Lo [1,4]<|Sq (Rq [Aa 22 4,Ac 23 1 0,Ab 24 23,Ag 25 24,Am 26 22 25] [1,4,26]<|Co 26 (Sk [1,4])<|Ex 0 [1])<|Sq (Bl 1<|Rq [Ae 29 1 2,Aa 30 4,As 31 162 29 30,Aa 5 31] [1,4,5]<|Rq [Aa 32 5,Au 33 32 0] [1,4,5,33]<|Co 33 (Rq [Ac 34 1 0,Ab 35 34,Aa 36 4,Ai 37 35 36 4,Ah 38 37 0,Ab 39 38,Aa 40 5,Aa 2 39,Aa 3 40] [2,3]<|.ret)<|Sk [1,4])<|Re [Aa 27 4,Ao 28 27 1,Aa 4 28] [1,4])<|Sq (Rq [Ad 6 0] [1,6]<|Bl 2<|Lo [1,6]<|Sq (Rq [Aa 41 6,Ac 42 1 1,Ab 43 42,Ag 44 43,Am 45 41 44] [1,6,45]<|Co 45 (Sk [1,6])<|Ex 2 [])<|Sq (Bl 3<|Rq [Ae 48 1 2,Aa 49 6,As 50 163 48 49,Aa 7 50] [1,6,7]<|Rq [Aa 51 7,Au 52 51 0] [1,6,7,52]<|Co 52 (Rq [Ac 53 1 1,Ab 54 53,Aa 55 6,Ai 56 54 55 7,Ah 57 56 0,Ab 58 57,Aa 59 7,Aa 2 58,Aa 3 59] [2,3]<|.ret)<|Sk [1,6])<|Re [Aa 46 6,Ao 47 46 1,Aa 6 47] [1,6])<|Rq [By 2,Ad 3 0] [2,3]<|.ret) [.tmp 2,.tmp 3]:= by decide +kernel
theorem c94 (t:Types) (r:(ByteArray × Int)) (h:ref04_Valid t=some r):Sound prog 94 [eTypes t] (.tp [eS r.1,eI r.2]):= by
 refine Fn ck94 fun hw=>?_
 unfold ref04_Valid at h
 refine E<|G<|Y B B<|D B<|D B<|F km1 fun _=>?_
 refine E<|E<|G<|M B<|K B<|V B B<|b5 B B<|F km2 fun _=>?_
 refine U B (fun hc11=>?_) (fun hc11=>?_)
 ·replace h:=O hc11 h
  refine E<|G<|D B<|D B<|F km2 fun _=>?_
  refine L ?_
  cases h
  exact ⟨by decide,rfl⟩
 ·replace h:=R hc11 h
  refine T km1 fun _=>?_
  refine E<|E<|G<|M B<|K B<|V B B<|e8 B B<|D B ?_
  refine gO 5 [17,18,19,20] 21 (decide (12<(t.Nodes.length:Int))) (decide (20<(t.Edges.length:Int))) (fun hg21=>?_) (fun hg21=>?_) ?_
  ·refine I B hg21<|I B hg21<|I B hg21<|I B hg21<|a2 B hg21 B ?_
   exact ⟨⟨_,_,_,_,B⟩⟩
  ·refine H B hg21<|M B<|H B hg21<|K B<|H B hg21<|V B B<|H B hg21<|e8 B B<|a3 B hg21 B ?_
   exact ⟨⟨_,_,_,_,B⟩⟩
  rintro _ ⟨_,_,_,_,rfl⟩
  refine F km2 fun _=>?_
  refine U B (fun hc21=>?_) (fun hc21=>?_)
  ·replace h:=O hc21 h
   refine E<|G<|D B<|D B<|F km2 fun _=>?_
   refine L ?_
   cases h
   exact ⟨by decide,rfl⟩
  ·replace h:=R hc21 h
   refine T km1 fun _=>?_
   refine E<|E<|G<|D B<|F km2 fun _=>?_
   obtain ⟨o0,ho0,h⟩:=d4 h
   refine e0 ho0 (fun (i0:Int) (_:Unit)=>[(1,.tv (.pt (eTypes t).cells)),(4,.tv (eI i0))]) (fun (_:Unit)=>[(1,.tv (.pt (eTypes t).cells))]) (fun zv ze=>resIs ([.tmp 2,.tmp 3]) (.tp [eS zv.1,eI zv.2]) ze) B ?_ ?_ ?_ ?_
   ·clear h ho0
    intro i0 s0 r0 hi0 h hw0
    refine E<|E<|G<|D B<|M B<|K B<|V B B<|X B B<|F km3 fun _=>?_
    refine d0 B (d1 hi0)<|T km2 fun _=>?_
    refine E<|a9<|E<|G<|S B B (B:_=eTypes t)<|D B ?_
    obtain ⟨x31,hx31,h⟩:=J h
    refine W B (c162 t i0 _ hx31)<|D B<|F km3 fun _=>?_
    refine E<|G<|D B<|a8 B B<|F km4 fun _=>?_
    refine U B (fun hc33=>?_) (fun hc33=>?_)
    ·replace h:=O hc33 h
     refine E<|G<|M B<|K B<|D B ?_
     obtain ⟨x37,hx37,h⟩:=J h
     refine a4 B B B hx37 B<|b8 B<|K B<|D B<|D B<|D B<|F km2 fun _=>?_
     refine L ?_
     cases h
     exact ⟨_,rfl,⟨by decide,rfl⟩⟩
    ·replace h:=R hc33 h
     refine T km2 fun _=>?_
     refine G<|D B<|a7 B B<|D B<|F km2 ?_
     cases h
     refine ⟨_,B,?_⟩
     rw [Ktv rfl (Ktv rfl (Knil _))]
     rw [b6 (a5 (hw0 4)) hi0 (f5 (g0 (g1 (hw0 1)) (i:=0) rfl) rfl)]
     all_goals rfl
   ·intro i0 s0 hi0
    refine E<|E<|G<|D B<|M B<|K B<|V B B<|X B B<|F km3 fun _=>?_
    refine b9 B (d2 hi0)<|b4 km1 ?_
    exact ⟨rfl,rfl⟩
   ·intro s0 hs
    replace h:=d5 h hs
    intro _
    refine E<|E<|G<|D B<|F km2 fun _=>?_
    obtain ⟨o2,ho2,h⟩:=d4 h
    refine e0 ho2 (fun (i2:Int) (_:Unit)=>[(1,.tv (.pt (eTypes t).cells)),(6,.tv (eI i2))]) (fun (_:Unit)=>[]) (fun zv ze=>resIs ([.tmp 2,.tmp 3]) (.tp [eS zv.1,eI zv.2]) ze) B ?_ ?_ ?_ ?_
    ·clear h ho2
     intro i2 s2 r2 hi2 h hw2
     refine E<|E<|G<|D B<|M B<|K B<|V B B<|X B B<|F km3 fun _=>?_
     refine d0 B (d1 hi2)<|T km2 fun _=>?_
     refine E<|a9<|E<|G<|S B B (B:_=eTypes t)<|D B ?_
     obtain ⟨x50,hx50,h⟩:=J h
     refine W B (c163 t i2 _ hx50)<|D B<|F km3 fun _=>?_
     refine E<|G<|D B<|a8 B B<|F km4 fun _=>?_
     refine U B (fun hc52=>?_) (fun hc52=>?_)
     ·replace h:=O hc52 h
      refine E<|G<|M B<|K B<|D B ?_
      obtain ⟨x56,hx56,h⟩:=J h
      refine a4 B B B hx56 B<|b8 B<|K B<|D B<|D B<|D B<|F km2 fun _=>?_
      refine L ?_
      cases h
      exact ⟨_,rfl,⟨by decide,rfl⟩⟩
     ·replace h:=R hc52 h
      refine T km2 fun _=>?_
      refine G<|D B<|a7 B B<|D B<|F km2 ?_
      cases h
      refine ⟨_,B,?_⟩
      rw [Ktv rfl (Ktv rfl (Knil _))]
      rw [b6 (a5 (hw2 6)) hi2 (f5 (g0 (g1 (hw2 1)) (i:=1) rfl) rfl)]
      all_goals rfl
    ·intro i2 s2 hi2
     refine E<|E<|G<|D B<|M B<|K B<|V B B<|X B B<|F km3 fun _=>?_
     refine b9 B (d2 hi2)<|b4 kn ?_
     exact ⟨rfl,rfl⟩
    ·intro s2 hs
     replace h:=d5 h hs
     intro _
     refine E<|G<|D B<|D B<|F km2 fun _=>?_
     refine L ?_
     cases h
     exact ⟨by decide,rfl⟩
    ·intro v2 ze hv hR
     replace h:=d6 h hv
     cases h
     exact hR
   ·intro v0 ze hv hR
    replace h:=d6 h hv
    cases h
    exact hR
theorem ck164:CK f164 (Rq [Aj 2] [0]<|Rq [Aa 3 0,Bg 4 3 0,Aa 5 4,At 6 0 5,Cf 7 6 99 5,Aq 8 5 7,Aa 2 8] [2]<|.ret) [.tmp 2]:= by decide +kernel
theorem c164 (n:Int) (r:Bool) (h:ref05_kind n=some r):Sound prog 164 [eI n] (.sh (eB r)):= by
 refine Fn ck164 fun hw=>?_
 unfold ref05_kind at h
 refine E<|G<|D B<|F km1 fun _=>?_
 refine E<|G<|D B<|d9 B B<|D B ?_
 refine gA 3 [6,7] 8 (decide (0<=n)) (decide (n<=99)) (fun hg8=>?_) (fun hg8=>?_) ?_
 ·refine H B hg8<|D B<|H B hg8<|f4 B B<|a2 B hg8 B ?_
  exact ⟨⟨_,_,B⟩⟩
 ·refine I B hg8<|I B hg8<|a3 B hg8 B ?_
  exact ⟨⟨_,_,B⟩⟩
 rintro _ ⟨_,_,rfl⟩
 refine D B<|F km1 fun _=>?_
 exact L (by cases h;rfl)
theorem ck165:CK f165 (Rq [Af 2 0,Aj 4] [1,2]<|Rq [Ac 5 2 0,Ab 6 5,Av 7 164 6,Aa 8 7,Ax 9 2 1 8,Ay 10 9 8,El 11 10 0 8,Aq 12 8 11,Aa 13 12,Ax 14 2 1 13,Ay 15 14 13,At 16 1 13,Dj 17 15 16 13,Aq 18 13 17,Aa 19 18,Ax 20 2 2 19,Ay 21 20 19,El 22 21 0 19,Aq 23 19 22,Aa 24 23,Ax 25 2 2 24,Ay 26 25 24,At 27 1 24,Dj 28 26 27 24,Aq 29 24 28,Aa 4 29] [4]<|.ret) [.tmp 4]:= by decide +kernel
theorem c165 (e:Edge) (nodes:Int) (r:Bool) (h:ref05_right e nodes=some r):Sound prog 165 [eEdge e,eI nodes] (.sh (eB r)):= by
 refine Fn ck165 fun hw=>?_
 unfold ref05_right at h
 refine E<|G<|Y B B<|D B<|F km2 fun _=>?_
 refine E<|G<|M B<|K B ?_
 obtain ⟨x7,hx7,h⟩:=J h
 refine W B (c164 e.Type' _ hx7)<|D B ?_
 refine gA 4 [9,10,11] 12 x7 (decide (0<=e.From)) (fun hg12=>?_) (fun hg12=>?_) ?_
 ·refine H B hg12<|M B<|H B hg12<|K B<|H B hg12<|d9 B B<|a2 B hg12 B ?_
  exact ⟨⟨_,_,_,B⟩⟩
 ·refine I B hg12<|I B hg12<|I B hg12<|a3 B hg12 B ?_
  exact ⟨⟨_,_,_,B⟩⟩
 rintro _ ⟨_,_,_,rfl⟩
 refine D B ?_
 refine gA 5 [14,15,16,17] 18 (x7&&(decide (0<=e.From))) (decide (e.From<nodes)) (fun hg18=>?_) (fun hg18=>?_) ?_
 ·refine H B hg18<|M B<|H B hg18<|K B<|H B hg18<|D B<|H B hg18<|X B B<|a2 B hg18 B ?_
  exact ⟨⟨_,_,_,_,B⟩⟩
 ·refine I B hg18<|I B hg18<|I B hg18<|I B hg18<|a3 B hg18 B ?_
  exact ⟨⟨_,_,_,_,B⟩⟩
 rintro _ ⟨_,_,_,_,rfl⟩
 refine D B ?_
 refine gA 4 [20,21,22] 23 ((x7&&(decide (0<=e.From)))&&(decide (e.From<nodes))) (decide (0<=e.To)) (fun hg23=>?_) (fun hg23=>?_) ?_
 ·refine H B hg23<|M B<|H B hg23<|K B<|H B hg23<|d9 B B<|a2 B hg23 B ?_
  exact ⟨⟨_,_,_,B⟩⟩
 ·refine I B hg23<|I B hg23<|I B hg23<|a3 B hg23 B ?_
  exact ⟨⟨_,_,_,B⟩⟩
 rintro _ ⟨_,_,_,rfl⟩
 refine D B ?_
 refine gA 5 [25,26,27,28] 29 (((x7&&(decide (0<=e.From)))&&(decide (e.From<nodes)))&&(decide (0<=e.To))) (decide (e.To<nodes)) (fun hg29=>?_) (fun hg29=>?_) ?_
 ·refine H B hg29<|M B<|H B hg29<|K B<|H B hg29<|D B<|H B hg29<|X B B<|a2 B hg29 B ?_
  exact ⟨⟨_,_,_,_,B⟩⟩
 ·refine I B hg29<|I B hg29<|I B hg29<|I B hg29<|a3 B hg29 B ?_
  exact ⟨⟨_,_,_,_,B⟩⟩
 rintro _ ⟨_,_,_,_,rfl⟩
 refine D B<|F km1 fun _=>?_
 exact L (by cases h;rfl)
theorem ck95:CK f95 (Rq [Af 1 0,Ad 2 0] [1]<|Sq (Rq [Ac 5 1 0,Ab 6 5,Ag 7 6,Bf 8 7 40,Aa 9 8,Ap 10 1 1 9,An 11 10 9,Be 12 11 9,Br 13 12 80 9,Ar 14 9 13] [1,14]<|Co 14 (Rq [Ad 2 3] [2]<|.ret)<|Sk [1])<|Sq (Rq [Ad 3 0] [1,3]<|Bl 0<|Lo [1,3]<|Sq (Rq [Aa 15 3,Ac 16 1 0,Ab 17 16,Ag 18 17,Am 19 15 18] [1,3,19]<|Co 19 (Sk [1,3])<|Ex 0 [1])<|Sq (Bl 1<|Rq [Ac 22 1 0,Ab 23 22,Aa 24 3,Ai 25 23 24 1,Ab 26 25,Av 27 164 26,Ba 28 27] [1,3,28]<|Co 28 (Rq [Ad 2 6] [2]<|.ret)<|Sk [1,3])<|Re [Aa 20 3,Ao 21 20 1,Aa 3 21] [1,3])<|Sq (Rq [Ad 4 0] [1,4]<|Bl 2<|Lo [1,4]<|Sq (Rq [Aa 29 4,Ac 30 1 1,Ab 31 30,Ag 32 31,Am 33 29 32] [1,4,33]<|Co 33 (Sk [1,4])<|Ex 2 [])<|Sq (Bl 3<|Sq (Dr [36,37,38,39,40,41,42,43,44,45] [Ac 36 1 1,Ab 37 36,Aa 38 4,Ai 39 37 38 3,Ae 40 39 3,Ac 41 1 0,Ab 42 41,Ag 43 42,As 44 165 40 43,Ba 45 44] [1,4,45])<|Co 45 (Rq [Ad 2 6] [2]<|.ret)<|Sk [1,4])<|Re [Aa 34 4,Ao 35 34 1,Aa 4 35] [1,4])<|Rq [Ad 2 0] [2]<|.ret) [.tmp 2]:= by decide +kernel
theorem c95 (g:Graph) (r:Int) (h:ref05_Valid g=some r):Sound prog 95 [eGraph g] (.sh (eI r)):= by
 refine Fn ck95 fun hw=>?_
 unfold ref05_Valid at h
 refine E<|G<|Y B B<|D B<|F km1 fun _=>?_
 refine E<|E<|G<|M B<|K B<|V B B<|e8 B B<|D B ?_
 refine gO 5 [10,11,12,13] 14 (decide (40<(g.Nodes.length:Int))) (decide (80<(g.Edges.length:Int))) (fun hg14=>?_) (fun hg14=>?_) ?_
 ·refine I B hg14<|I B hg14<|I B hg14<|I B hg14<|a2 B hg14 B ?_
  exact ⟨⟨_,_,_,_,B⟩⟩
 ·refine H B hg14<|M B<|H B hg14<|K B<|H B hg14<|V B B<|H B hg14<|e8 B B<|a3 B hg14 B ?_
  exact ⟨⟨_,_,_,_,B⟩⟩
 rintro _ ⟨_,_,_,_,rfl⟩
 refine F km2 fun _=>?_
 refine U B (fun hc14=>?_) (fun hc14=>?_)
 ·replace h:=O hc14 h
  refine E<|G<|D B<|F km1 fun _=>?_
  exact L (by cases h;rfl)
 ·replace h:=R hc14 h
  refine T km1 fun _=>?_
  refine E<|E<|G<|D B<|F km2 fun _=>?_
  obtain ⟨o0,ho0,h⟩:=d4 h
  refine e0 ho0 (fun (i0:Int) (_:Unit)=>[(1,.tv (.pt (eGraph g).cells)),(3,.tv (eI i0))]) (fun (_:Unit)=>[(1,.tv (.pt (eGraph g).cells))]) (fun zv ze=>resIs ([.tmp 2]) (.sh (eI zv)) ze) B ?_ ?_ ?_ ?_
  ·clear h ho0
   intro i0 s0 r0 hi0 h hw0
   refine E<|E<|G<|D B<|M B<|K B<|V B B<|X B B<|F km3 fun _=>?_
   refine d0 B (d1 hi0)<|T km2 fun _=>?_
   refine E<|a9<|E<|G<|M B<|K B<|D B ?_
   obtain ⟨x25,hx25,h⟩:=J h
   refine a4 B B B hx25 B<|K B ?_
   obtain ⟨x27,hx27,h⟩:=J h
   refine W B (c164 x25 _ hx27)<|d3 B<|F km3 fun _=>?_
   refine U B (fun hc28=>?_) (fun hc28=>?_)
   ·replace h:=O hc28 h
    refine E<|G<|D B<|F km1 fun _=>?_
    refine L ?_
    cases h
    exact ⟨_,rfl,rfl⟩
   ·replace h:=R hc28 h
    refine T km2 fun _=>?_
    refine G<|D B<|a7 B B<|D B<|F km2 ?_
    cases h
    refine ⟨_,B,?_⟩
    rw [Ktv rfl (Ktv rfl (Knil _))]
    rw [b6 (a5 (hw0 3)) hi0 (f5 (g0 (g1 (hw0 1)) (i:=0) rfl) rfl)]
    all_goals rfl
  ·intro i0 s0 hi0
   refine E<|E<|G<|D B<|M B<|K B<|V B B<|X B B<|F km3 fun _=>?_
   refine b9 B (d2 hi0)<|b4 km1 ?_
   exact ⟨rfl,rfl⟩
  ·intro s0 hs
   replace h:=d5 h hs
   intro _
   refine E<|E<|G<|D B<|F km2 fun _=>?_
   obtain ⟨o2,ho2,h⟩:=d4 h
   refine e0 ho2 (fun (i2:Int) (_:Unit)=>[(1,.tv (.pt (eGraph g).cells)),(4,.tv (eI i2))]) (fun (_:Unit)=>[]) (fun zv ze=>resIs ([.tmp 2]) (.sh (eI zv)) ze) B ?_ ?_ ?_ ?_
   ·clear h ho2
    intro i2 s2 r2 hi2 h hw2
    refine E<|E<|G<|D B<|M B<|K B<|V B B<|X B B<|F km3 fun _=>?_
    refine d0 B (d1 hi2)<|T km2 fun _=>?_
    refine E<|a9<|E<|e2 B<|M B<|K B<|D B ?_
    obtain ⟨x39,hx39,h⟩:=J h
    refine a4 B B B hx39 B<|S B B (B:_=eEdge x39)<|M B<|K B<|V B B ?_
    obtain ⟨x44,hx44,h⟩:=J h
    refine W B (c165 x39 (g.Nodes.length:Int) _ hx44)<|d3 B<|F km3 fun _=>?_
    refine U B (fun hc45=>?_) (fun hc45=>?_)
    ·replace h:=O hc45 h
     refine E<|G<|D B<|F km1 fun _=>?_
     refine L ?_
     cases h
     exact ⟨_,rfl,rfl⟩
    ·replace h:=R hc45 h
     refine T km2 fun _=>?_
     refine G<|D B<|a7 B B<|D B<|F km2 ?_
     cases h
     refine ⟨_,B,?_⟩
     rw [Ktv rfl (Ktv rfl (Knil _))]
     rw [b6 (a5 (hw2 4)) hi2 (f5 (g0 (g1 (hw2 1)) (i:=1) rfl) rfl)]
     all_goals rfl
   ·intro i2 s2 hi2
    refine E<|E<|G<|D B<|M B<|K B<|V B B<|X B B<|F km3 fun _=>?_
    refine b9 B (d2 hi2)<|b4 kn ?_
    exact ⟨rfl,rfl⟩
   ·intro s2 hs
    replace h:=d5 h hs
    intro _
    refine E<|G<|D B<|F km1 fun _=>?_
    exact L (by cases h;rfl)
   ·intro v2 ze hv hR
    replace h:=d6 h hv
    cases h
    exact hR
  ·intro v0 ze hv hR
   replace h:=d6 h hv
   cases h
   exact hR
theorem ck96:CK f96 (Rq [Af 2 0,Af 3 1,Aj 4] [2,3]<|Sq (Rq [Ad 5 0] [2,3,5]<|Bl 0<|Lo [2,3,5]<|Sq (Rq [Aa 7 5,Ac 8 3 0,Ab 9 8,Ag 10 9,Am 11 7 10] [2,3,5,11]<|Co 11 (Sk [2,3,5])<|Ex 0 [2,3])<|Sq (Bl 1<|Sq (Dr [14,15,16,17,18,19,20,21,22,23,24,25,26,27,28,29,30] [Ac 14 3 0,Ab 15 14,Aa 16 5,Ai 17 15 16 1,Ab 18 17,Bs 19 18 0,Aa 20 19,Ap 21 3 0 20,An 22 21 20,Aw 23 5 20,Bw 24 22 23 1 20,An 25 24 20,Ap 26 2 0 20,An 27 26 20,Be 28 27 20,Bp 29 25 28 20,Ar 30 20 29] [2,3,5,30])<|Co 30 (Rq [Aj 4] [4]<|.ret)<|Sk [2,3,5])<|Re [Aa 12 5,Ao 13 12 1,Aa 5 13] [2,3,5])<|Sq (Rq [Ad 6 0] [2,3,6]<|Bl 2<|Lo [2,3,6]<|Sq (Rq [Aa 31 6,Ac 32 3 1,Ab 33 32,Ag 34 33,Am 35 31 34] [2,3,6,35]<|Co 35 (Sk [2,3,6])<|Ex 2 [])<|Sq (Bl 3<|Sq (Dr [38,39,40,41,42,43,44,45,46,47,48,49,50,51,52,53,54,55,56] [Ac 38 3 1,Ab 39 38,Aa 40 6,Ai 41 39 40 3,Ah 42 41 0,Ab 43 42,Bs 44 43 0,Aa 45 44,Ap 46 3 1 45,An 47 46 45,Aw 48 6 45,Bw 49 47 48 3 45,Bq 50 49 0 45,An 51 50 45,Ap 52 2 1 45,An 53 52 45,Be 54 53 45,Bp 55 51 54 45,Ar 56 45 55] [2,3,6,56])<|Co 56 (Rq [Aj 4] [4]<|.ret)<|Sk [2,3,6])<|Re [Aa 36 6,Ao 37 36 1,Aa 6 37] [2,3,6])<|Rq [Bu 4] [4]<|.ret) [.tmp 4]:= by decide +kernel
theorem c96 (t:Types) (g:Graph) (r:Bool) (h:ref17_Typed t g=some r):Sound prog 96 [eTypes t,eGraph g] (.sh (eB r)):= by
 refine Fn ck96 fun hw=>?_
 unfold ref17_Typed at h
 refine E<|G<|Y B B<|Y B B<|D B<|F km2 fun _=>?_
 refine E<|E<|G<|D B<|F km3 fun _=>?_
 obtain ⟨o0,ho0,h⟩:=d4 h
 refine e0 ho0 (fun (i0:Int) (_:Unit)=>[(2,.tv (.pt (eTypes t).cells)),(3,.tv (.pt (eGraph g).cells)),(5,.tv (eI i0))]) (fun (_:Unit)=>[(2,.tv (.pt (eTypes t).cells)),(3,.tv (.pt (eGraph g).cells))]) (fun zv ze=>resIs ([.tmp 4]) (.sh (eB zv)) ze) B ?_ ?_ ?_ ?_
 ·clear h ho0
  intro i0 s0 r0 hi0 h hw0
  refine E<|E<|G<|D B<|M B<|K B<|V B B<|X B B<|F km4 fun _=>?_
  refine d0 B (d1 hi0)<|T km3 fun _=>?_
  refine E<|a9<|E<|e2 B<|M B<|K B<|D B ?_
  obtain ⟨x17,hx17,h⟩:=J h
  refine a4 B B B hx17 B<|K B<|X B B<|D B ?_
  obtain ⟨x30,hx30,h⟩:=J h
  refine gX 10 [21,22,23,24,25,26,27,28,29] 30 x30 (decide (x17<0)) (fun hg30=>?_) (fun hg30=>?_) ?_
  ·replace h:=O hg30 hx30
   cases h
   refine I B hg30<|I B hg30<|I B hg30<|I B hg30<|I B hg30<|I B hg30<|I B hg30<|I B hg30<|I B hg30<|a2 B hg30 B ?_
   exact ⟨⟨_,_,_,_,_,_,_,_,_,B⟩⟩
  ·replace h:=R hg30 hx30
   refine H B hg30<|M B<|H B hg30<|K B<|H B hg30<|D B ?_
   obtain ⟨x24,hx24,h⟩:=J h
   refine H B hg30<|a4 B B B hx24 B<|H B hg30<|K B<|H B hg30<|M B<|H B hg30<|K B<|H B hg30<|V B B<|H B hg30<|d9 B B ?_
   cases h
   refine a3 B hg30 B ?_
   exact ⟨⟨_,_,_,_,_,_,_,_,_,B⟩⟩
  rintro _ ⟨_,_,_,_,_,_,_,_,_,rfl⟩
  refine F km4 fun _=>?_
  refine U B (fun hc30=>?_) (fun hc30=>?_)
  ·replace h:=O hc30 h
   refine E<|G<|D B<|F km1 fun _=>?_
   refine L ?_
   cases h
   exact ⟨_,rfl,rfl⟩
  ·replace h:=R hc30 h
   refine T km3 fun _=>?_
   refine G<|D B<|a7 B B<|D B<|F km3 ?_
   cases h
   refine ⟨_,B,?_⟩
   rw [Ktv rfl (Ktv rfl (Ktv rfl (Knil _)))]
   rw [b6 (a5 (hw0 5)) hi0 (f5 (g0 (g1 (hw0 3)) (i:=0) rfl) rfl)]
   all_goals rfl
 ·intro i0 s0 hi0
  refine E<|E<|G<|D B<|M B<|K B<|V B B<|X B B<|F km4 fun _=>?_
  refine b9 B (d2 hi0)<|b4 km2 ?_
  exact ⟨rfl,rfl⟩
 ·intro s0 hs
  replace h:=d5 h hs
  intro _
  refine E<|E<|G<|D B<|F km3 fun _=>?_
  obtain ⟨o2,ho2,h⟩:=d4 h
  refine e0 ho2 (fun (i2:Int) (_:Unit)=>[(2,.tv (.pt (eTypes t).cells)),(3,.tv (.pt (eGraph g).cells)),(6,.tv (eI i2))]) (fun (_:Unit)=>[]) (fun zv ze=>resIs ([.tmp 4]) (.sh (eB zv)) ze) B ?_ ?_ ?_ ?_
  ·clear h ho2
   intro i2 s2 r2 hi2 h hw2
   refine E<|E<|G<|D B<|M B<|K B<|V B B<|X B B<|F km4 fun _=>?_
   refine d0 B (d1 hi2)<|T km3 fun _=>?_
   refine E<|a9<|E<|e2 B<|M B<|K B<|D B ?_
   obtain ⟨x41,hx41,h⟩:=J h
   refine a4 B B B hx41 B<|b8 B<|K B<|X B B<|D B ?_
   obtain ⟨x56,hx56,h⟩:=J h
   refine gX 11 [46,47,48,49,50,51,52,53,54,55] 56 x56 (decide (x41.Type'<0)) (fun hg56=>?_) (fun hg56=>?_) ?_
   ·replace h:=O hg56 hx56
    cases h
    refine I B hg56<|I B hg56<|I B hg56<|I B hg56<|I B hg56<|I B hg56<|I B hg56<|I B hg56<|I B hg56<|I B hg56<|a2 B hg56 B ?_
    exact ⟨⟨_,_,_,_,_,_,_,_,_,_,B⟩⟩
   ·replace h:=R hg56 hx56
    refine H B hg56<|M B<|H B hg56<|K B<|H B hg56<|D B ?_
    obtain ⟨x49,hx49,h⟩:=J h
    refine H B hg56<|a4 B B B hx49 B<|H B hg56<|b8 B<|H B hg56<|K B<|H B hg56<|M B<|H B hg56<|K B<|H B hg56<|V B B<|H B hg56<|d9 B B ?_
    cases h
    refine a3 B hg56 B ?_
    exact ⟨⟨_,_,_,_,_,_,_,_,_,_,B⟩⟩
   rintro _ ⟨_,_,_,_,_,_,_,_,_,_,rfl⟩
   refine F km4 fun _=>?_
   refine U B (fun hc56=>?_) (fun hc56=>?_)
   ·replace h:=O hc56 h
    refine E<|G<|D B<|F km1 fun _=>?_
    refine L ?_
    cases h
    exact ⟨_,rfl,rfl⟩
   ·replace h:=R hc56 h
    refine T km3 fun _=>?_
    refine G<|D B<|a7 B B<|D B<|F km3 ?_
    cases h
    refine ⟨_,B,?_⟩
    rw [Ktv rfl (Ktv rfl (Ktv rfl (Knil _)))]
    rw [b6 (a5 (hw2 6)) hi2 (f5 (g0 (g1 (hw2 3)) (i:=1) rfl) rfl)]
    all_goals rfl
  ·intro i2 s2 hi2
   refine E<|E<|G<|D B<|M B<|K B<|V B B<|X B B<|F km4 fun _=>?_
   refine b9 B (d2 hi2)<|b4 kn ?_
   exact ⟨rfl,rfl⟩
  ·intro s2 hs
   replace h:=d5 h hs
   intro _
   refine E<|G<|D B<|F km1 fun _=>?_
   exact L (by cases h;rfl)
  ·intro v2 ze hv hR
   replace h:=d6 h hv
   cases h
   exact hR
 ·intro v0 ze hv hR
  replace h:=d6 h hv
  cases h
  exact hR
theorem ck185:CK f185 (Rq [Af 3 0,Ad 6 0] [1,2,3]<|Sq (Rq [Ae 10 3 2,Av 11 94 10,Aa 9 11,Ak 12 9 0,Ak 13 9 1,Aa 7 12,Aa 8 13] [1,2,3,8]<|Rq [Aa 14 8,Au 15 14 0] [1,2,3,8,15]<|Co 15 (Rq [Aa 16 8,Aa 6 16] [6]<|.ret)<|Sk [1,2,3])<|Sq (Rq [Aa 17 1,Ac 18 3 0,Ab 19 18,Ag 20 19,Ch 21 20 1,Eb 22 188 17 0 21,Ba 23 22,Aa 24 23,Aw 25 2 24,Ap 26 3 0 24,An 27 26 24,Be 28 27 24,Fa 29 28 1 24,Fy 30 188 25 0 29 24,Bm 31 30 24,Ar 32 24 31] [32]<|Co 32 (Rq [Ad 6 6] [6]<|.ret)<|Sk [])<|Rq [Ad 6 0] [6]<|.ret) [.tmp 6]:= by decide +kernel
theorem c185 (t:Types) (a:Int) (b:Int) (r:Int) (h:ref04_given t a b=some r):Sound prog 185 [eTypes t,eI a,eI b] (.sh (eI r)):= by
 refine Fn ck185 fun hw=>?_
 unfold ref04_given at h
 refine E<|G<|Y B B<|D B<|F km3 fun _=>?_
 refine E<|E<|G<|S B B (B:_=eTypes t) ?_
 obtain ⟨x11,hx11,h⟩:=J h
 refine f1 B (c94 t _ hx11)<|f0 B<|b2 B B<|b2 B B<|D B<|D B<|F km4 fun _=>?_
 refine E<|G<|D B<|a8 B B<|F km5 fun _=>?_
 refine U B (fun hc15=>?_) (fun hc15=>?_)
 ·replace h:=O hc15 h
  refine E<|G<|D B<|D B<|F km1 fun _=>?_
  exact L (by cases h;rfl)
 ·replace h:=R hc15 h
  refine T km3 fun _=>?_
  refine E<|E<|G<|D B<|M B<|K B<|V B B<|f7 B B ?_
  obtain ⟨x22,hx22,h⟩:=J h
  refine W B (c188 a 0 (w64 ((t.Nodes.length:Int) - 1)) _ hx22)<|d3 B<|D B ?_
  obtain ⟨x32,hx32,h⟩:=J h
  refine gX 8 [25,26,27,28,29,30,31] 32 x32 (!x22) (fun hg32=>?_) (fun hg32=>?_) ?_
  ·replace h:=O hg32 hx32
   cases h
   refine I B hg32<|I B hg32<|I B hg32<|I B hg32<|I B hg32<|I B hg32<|I B hg32<|a2 B hg32 B ?_
   exact ⟨⟨_,_,_,_,_,_,_,B⟩⟩
  ·replace h:=R hg32 hx32
   refine H B hg32<|D B<|H B hg32<|M B<|H B hg32<|K B<|H B hg32<|V B B<|H B hg32<|f7 B B ?_
   obtain ⟨x30,hx30,h⟩:=J h
   refine H B hg32<|W B (c188 b 0 (w64 ((t.Nodes.length:Int) - 1)) _ hx30)<|H B hg32<|d3 B ?_
   cases h
   refine a3 B hg32 B ?_
   exact ⟨⟨_,_,_,_,_,_,_,B⟩⟩
  rintro _ ⟨_,_,_,_,_,_,_,rfl⟩
  refine F km1 fun _=>?_
  refine U B (fun hc32=>?_) (fun hc32=>?_)
  ·replace h:=O hc32 h
   refine E<|G<|D B<|F km1 fun _=>?_
   exact L (by cases h;rfl)
  ·replace h:=R hc32 h
   refine T kn fun _=>?_
   refine E<|G<|D B<|F km1 fun _=>?_
   exact L (by cases h;rfl)
theorem ck121:CK f121 (Rq [Af 2 0,Bc 4 4,Ad 5 0] [1,2]<|Sq (Rq [Ae 11 2 2,Aa 12 1,Aa 13 1,Bd 14 185 11 12 13,Aa 6 14] [1,2,6]<|Rq [Aa 15 6,Au 16 15 0] [1,2,6,16]<|Co 16 (Rq [Aa 17 6,Bc 4 4,Aa 5 17] [4,5]<|.ret)<|Sk [1,2])<|Rq [Bc 7 4] [1,2,7]<|Rq [Ae 18 2 2,Aa 19 1,As 20 186 18 19,Bb 8 20] [7,8]<|Sq (Rq [Ad 9 0] [7,8,9]<|Bl 0<|Lo [7,8,9]<|Sq (Rq [Aa 21 9,Aa 22 8,Ag 23 22,Am 24 21 23] [7,8,9,24]<|Co 24 (Sk [7,8,9])<|Ex 0 [7])<|Sq (Bl 1<|Rq [Aa 27 8,Aa 28 9,Ai 29 27 28 4,Ae 30 29 4,Cy 10 0 0 1,Al 4 10 30] [7,8,9,10]<|Rq [Dz 31 1,Ac 32 10 3,Ab 33 32,Cc 34 1 31 33,Ac 35 10 3,Fh 1 35 34] [7,8,9,10]<|Re [Bb 36 7,Ae 37 10 4,Bn 38 4 37,Cc 39 4 36 38,Bb 7 39] [7,8,9])<|Re [Aa 25 9,Ao 26 25 1,Aa 9 26] [7,8,9])<|Rq [Aa 40 7,Bb 4 40,Ad 5 0] [4,5]<|.ret) [.tmp 4,.tmp 5]:= by decide +kernel
theorem c121 (t:Types) (a:Int) (r:(List Attr × Int)) (h:ref04_Attrs t a=some r):Sound prog 121 [eTypes t,eI a] (.tp [lA r.1,eI r.2]):= by
 refine Fn ck121 fun hw=>?_
 unfold ref04_Attrs at h
 refine E<|G<|Y B B<|f2<|D B<|F km2 fun _=>?_
 refine E<|E<|G<|S B B (B:_=eTypes t)<|D B<|D B ?_
 obtain ⟨x14,hx14,h⟩:=J h
 refine W B (c185 t a a _ hx14)<|D B<|F km3 fun _=>?_
 refine E<|G<|D B<|a8 B B<|F km4 fun _=>?_
 refine U B (fun hc16=>?_) (fun hc16=>?_)
 ·replace h:=O hc16 h
  refine E<|G<|D B<|f2<|D B<|F (ko<|kt<|kn) fun _=>?_
  refine L ?_
  cases h
  exact ⟨by decide,rfl⟩
 ·replace h:=R hc16 h
  refine T km2 fun _=>?_
  refine E<|G<|f2<|F (kt<|kt<|ko<|kn) fun _=>?_
  refine E<|G<|S B B (B:_=eTypes t)<|D B ?_
  obtain ⟨x20,hx20,h⟩:=J h
  refine l7 B (c186 t a _ hx20)<|f8 B<|F (ko<|ko<|kn) fun _=>?_
  refine E<|E<|G<|D B<|F (ko<|ko<|kt<|kn) fun _=>?_
  obtain ⟨s0,hs0,h⟩:=J h
  refine g6 hs0 (fun (i0:Int) (s0:List Attr)=>[(7,.ow (lA s0)),(8,.ow (lA x20)),(9,.tv (eI i0))]) (fun (s0:List Attr)=>[(7,.ow (lA s0))]) B ?_ ?_ ?_
  ·clear h hs0
   intro i0 s0 r0 hi0 h hw0
   refine E<|E<|G<|D B<|D B<|V B B<|X B B<|F (ko<|ko<|kt<|kt<|kn) fun _=>?_
   refine d0 B (d1 hi0)<|T (ko<|ko<|kt<|kn) fun _=>?_
   refine E<|a9<|E<|G<|D B<|D B ?_
   obtain ⟨x29,hx29,h⟩:=J h
   refine a4 B B B hx29 B<|S B B (B:_=eAttr x29)<|d8 B<|b3 B B B B B<|F (ko<|ko<|kt<|kb<|kn) fun _=>?_
   refine E<|G<|e9 (e:=eS) (l:=[]) B B (fun _=>rfl)<|a6 B<|K B ?_
   obtain ⟨x34,hx34,h⟩:=J h
   refine l0 B B B B hx34 B<|a6 B<|p9 B B B (by decide) B B<|F (ko<|ko<|kt<|kb<|kn) fun _=>?_
   refine G<|f8 B<|S B B (B:_=eAttr (Attr.mk x29.Name x29.Low x29.High x34))<|e9 (e:=eAttr) (l:=[Attr.mk x29.Name x29.Low x29.High x34]) B B (fun _=>rfl) ?_
   obtain ⟨x39,hx39,h⟩:=J h
   refine l0 B B B B hx39 B<|f8 B<|F (ko<|ko<|kt<|kn) fun _=>?_
   refine G<|D B<|a7 B B<|D B<|F (ko<|ko<|kt<|kn) ?_
   cases h
   show Env.keep _ _=_
   rw [Kow rfl (Kow rfl (Ktv rfl (Knil _)))]
   rw [b6 (a5 (hw0 9)) hi0 (f5 (m8 (hw0 8)) rfl)]
   all_goals rfl
  ·intro i0 s0 hi0
   refine E<|E<|G<|D B<|D B<|V B B<|X B B<|F (ko<|ko<|kt<|kt<|kn) fun _=>?_
   refine b9 B (d2 hi0)<|b4 (ko<|kn) ?_
   exact ⟨rfl,rfl⟩
  ·intro _
   refine E<|G<|D B<|f9 B<|D B<|F km2 fun _=>?_
   refine L ?_
   cases h
   exact ⟨by decide,rfl⟩
theorem ck97:CK f97 (Rq [Af 4 0,Af 5 1,Cy 8 0 0 1,Aj 9] [2,3,4,5,8]<|Sq (Rq [Aa 12 2,Bs 13 12 0,Aa 14 13,Aw 15 2 14,Ap 16 5 0 14,Bq 17 16 0 14,An 18 17 14,Be 19 18 14,Bp 20 15 19 14,Ar 21 14 20] [2,3,4,5,8,21]<|Co 21 (Rq [Ec 22 0 0 1,Al 4 8 22,Aj 9] [8,9]<|.ret)<|Sk [2,3,4,5,8])<|Sq (Dr [10,11,23,24,25,26,27,28,29,30,31,32,33] [Ae 24 4 2,Ac 25 5 0,Ah 26 25 0,Ab 27 26,Aa 28 2,Ai 29 27 28 1,Ab 30 29,As 31 121 24 30,Aa 23 31,Ak 32 23 0,Ak 33 23 1,Bb 10 32,Aa 11 33] [3,8,10,11])<|Sq (Rq [Aa 34 11,Au 35 34 0,Aa 36 35,Aw 37 3 36,Fp 38 37 0 36,Ar 39 36 38,Aa 40 39,Aw 41 3 40,Aw 42 10 40,Be 43 42 40,Bp 44 41 43 40,Ar 45 40 44] [3,8,10,45]<|Co 45 (Rq [Ec 46 0 0 1,Al 4 8 46,Aj 9] [8,9]<|.ret)<|Sk [3,8,10])<|Rq [Aa 47 10,Aa 48 3,Ai 49 47 48 4,Ae 50 49 4,Al 4 8 50,Bu 9] [8,9]<|.ret) [.cell 8 (some 4),.tmp 9]:= by decide +kernel
theorem c97 (t:Types) (p:Pattern) (node:Int) (index:Int) (r:(Attr × Bool)) (h:ref21_attr t p node index=some r):Sound prog 97 [eTypes t,ePattern p,eI node,eI index] (.tp [eAttr r.1,eB r.2]):= by
 refine Fn ck97 fun hw=>?_
 unfold ref21_attr at h
 refine E<|G<|Y B B<|Y B B<|d8 B<|D B<|F (kt<|kt<|kt<|kt<|kb<|kn) fun _=>?_
 refine E<|E<|G<|D B<|X B B<|D B ?_
 refine gO 7 [15,16,17,18,19,20] 21 (decide (node<0)) (decide ((p.Graph.Nodes.length:Int)<=node)) (fun hg21=>?_) (fun hg21=>?_) ?_
 ·refine I B hg21<|I B hg21<|I B hg21<|I B hg21<|I B hg21<|I B hg21<|a2 B hg21 B ?_
  exact ⟨⟨_,_,_,_,_,_,B⟩⟩
 ·refine H B hg21<|D B<|H B hg21<|M B<|H B hg21<|b8 B<|H B hg21<|K B<|H B hg21<|V B B<|H B hg21<|d9 B B<|a3 B hg21 B ?_
  exact ⟨⟨_,_,_,_,_,_,B⟩⟩
 rintro _ ⟨_,_,_,_,_,_,rfl⟩
 refine F (kt<|kt<|kt<|kt<|kb<|kt<|kn) fun _=>?_
 refine U B (fun hc21=>?_) (fun hc21=>?_)
 ·replace h:=O hc21 h
  refine E<|G<|e5 B B (B:_=eAttr (Attr.mk (⟨#[]⟩:ByteArray) 0 0 []))<|b3 B B B B B<|D B<|F (kb<|kt<|kn) fun _=>?_
  refine L ?_
  cases h
  exact ⟨by decide,rfl⟩
 ·replace h:=R hc21 h
  refine T (kt<|kt<|kt<|kt<|kb<|kn) fun _=>?_
  refine E<|e2 B<|S B B (B:_=eTypes t)<|M B<|b8 B<|K B<|D B ?_
  obtain ⟨x29,hx29,h⟩:=J h
  refine a4 B B B hx29 B<|K B ?_
  obtain ⟨x31,hx31,h⟩:=J h
  refine f1 B (c121 t x29 _ hx31)<|f0 B<|b2 B B<|b2 B B<|f9 B<|D B<|F (kt<|kb<|kt<|kt<|kn) fun _=>?_
  refine E<|E<|G<|D B<|a8 B B<|D B ?_
  refine gO 3 [37,38] 39 (!decide (x31.2=0)) (decide (index<0)) (fun hg39=>?_) (fun hg39=>?_) ?_
  ·refine I B hg39<|I B hg39<|a2 B hg39 B ?_
   exact ⟨⟨_,_,B⟩⟩
  ·refine H B hg39<|D B<|H B hg39<|X B B<|a3 B hg39 B ?_
   exact ⟨⟨_,_,B⟩⟩
  rintro _ ⟨_,_,rfl⟩
  refine D B ?_
  refine gO 5 [41,42,43,44] 45 ((!decide (x31.2=0))||(decide (index<0))) (decide ((x31.1.length:Int)<=index)) (fun hg45=>?_) (fun hg45=>?_) ?_
  ·refine I B hg45<|I B hg45<|I B hg45<|I B hg45<|a2 B hg45 B ?_
   exact ⟨⟨_,_,_,_,B⟩⟩
  ·refine H B hg45<|D B<|H B hg45<|D B<|H B hg45<|V B B<|H B hg45<|d9 B B<|a3 B hg45 B ?_
   exact ⟨⟨_,_,_,_,B⟩⟩
  rintro _ ⟨_,_,_,_,rfl⟩
  refine F (kt<|kb<|kt<|kt<|kn) fun _=>?_
  refine U B (fun hc45=>?_) (fun hc45=>?_)
  ·replace h:=O hc45 h
   refine E<|G<|e5 B B (B:_=eAttr (Attr.mk (⟨#[]⟩:ByteArray) 0 0 []))<|b3 B B B B B<|D B<|F (kb<|kt<|kn) fun _=>?_
   refine L ?_
   cases h
   exact ⟨by decide,rfl⟩
  ·replace h:=R hc45 h
   refine T (kt<|kb<|kt<|kn) fun _=>?_
   refine E<|G<|D B<|D B ?_
   obtain ⟨x49,hx49,h⟩:=J h
   refine a4 B B B hx49 B<|S B B (B:_=eAttr x49)<|b3 B B B B B<|D B<|F (kb<|kt<|kn) fun _=>?_
   refine L ?_
   cases h
   exact ⟨by decide,rfl⟩
theorem ck98:CK f98 (Rq [Aj 2] [0]<|Rq [Aa 3 0,⟨some 4,.bin (.i) .geq (.s 3) (.c (.int .i64 (-1000000))),none⟩,Aa 5 4,At 6 0 5,Cf 7 6 1000000 5,Aq 8 5 7,Aa 2 8] [2]<|.ret) [.tmp 2]:= by decide +kernel
theorem c98 (n:Int) (r:Bool) (h:ref21_bounded n=some r):Sound prog 98 [eI n] (.sh (eB r)):= by
 refine Fn ck98 fun hw=>?_
 unfold ref21_bounded at h
 refine E<|G<|D B<|F km1 fun _=>?_
 refine E<|G<|D B<|d9 B B<|D B ?_
 refine gA 3 [6,7] 8 (decide ((-1000000)<=n)) (decide (n<=1000000)) (fun hg8=>?_) (fun hg8=>?_) ?_
 ·refine H B hg8<|D B<|H B hg8<|f4 B B<|a2 B hg8 B ?_
  exact ⟨⟨_,_,B⟩⟩
 ·refine I B hg8<|I B hg8<|a3 B hg8 B ?_
  exact ⟨⟨_,_,B⟩⟩
 rintro _ ⟨_,_,rfl⟩
 refine D B<|F km1 fun _=>?_
 exact L (by cases h;rfl)
theorem ck226:CK f226 (Rq [Af 3 1,Ad 4 0] [0,3]<|Sq (Rq [Ac 5 3 0,Ab 6 5,Ew 7 6 (-1),Aa 8 7,Ap 9 3 0 8,An 10 9 8,Aw 11 0 8,Bp 12 10 11 8,Ar 13 8 12,Aa 14 13,Ap 15 3 1 14,An 16 15 14,Fz 17 16 (-1000000) 14,Ar 18 14 17,Aa 19 18,Ap 20 3 1 19,An 21 20 19,Br 22 21 1000000 19,Ar 23 19 22] [23]<|Co 23 (Rq [Ad 4 6] [4]<|.ret)<|Sk [])<|Rq [Ad 4 0] [4]<|.ret) [.tmp 4]:= by decide +kernel
theorem c226 (n:Int) (t:Term) (r:Int) (h:ref03_within n t=some r):Sound prog 226 [eI n,eTerm t] (.sh (eI r)):= by
 refine Fn ck226 fun hw=>?_
 unfold ref03_within at h
 refine E<|G<|Y B B<|D B<|F km2 fun _=>?_
 refine E<|E<|G<|M B<|K B<|X B B<|D B ?_
 refine gO 5 [9,10,11,12] 13 (decide (t.Var<(-1))) (decide (n<=t.Var)) (fun hg13=>?_) (fun hg13=>?_) ?_
 ·refine I B hg13<|I B hg13<|I B hg13<|I B hg13<|a2 B hg13 B ?_
  exact ⟨⟨_,_,_,_,B⟩⟩
 ·refine H B hg13<|M B<|H B hg13<|K B<|H B hg13<|D B<|H B hg13<|d9 B B<|a3 B hg13 B ?_
  exact ⟨⟨_,_,_,_,B⟩⟩
 rintro _ ⟨_,_,_,_,rfl⟩
 refine D B ?_
 refine gO 4 [15,16,17] 18 ((decide (t.Var<(-1)))||(decide (n<=t.Var))) (decide (t.Add<(-1000000))) (fun hg18=>?_) (fun hg18=>?_) ?_
 ·refine I B hg18<|I B hg18<|I B hg18<|a2 B hg18 B ?_
  exact ⟨⟨_,_,_,B⟩⟩
 ·refine H B hg18<|M B<|H B hg18<|K B<|H B hg18<|X B B<|a3 B hg18 B ?_
  exact ⟨⟨_,_,_,B⟩⟩
 rintro _ ⟨_,_,_,rfl⟩
 refine D B ?_
 refine gO 4 [20,21,22] 23 (((decide (t.Var<(-1)))||(decide (n<=t.Var)))||(decide (t.Add<(-1000000)))) (decide (1000000<t.Add)) (fun hg23=>?_) (fun hg23=>?_) ?_
 ·refine I B hg23<|I B hg23<|I B hg23<|a2 B hg23 B ?_
  exact ⟨⟨_,_,_,B⟩⟩
 ·refine H B hg23<|M B<|H B hg23<|K B<|H B hg23<|e8 B B<|a3 B hg23 B ?_
  exact ⟨⟨_,_,_,B⟩⟩
 rintro _ ⟨_,_,_,rfl⟩
 refine F km1 fun _=>?_
 refine U B (fun hc23=>?_) (fun hc23=>?_)
 ·replace h:=O hc23 h
  refine E<|G<|D B<|F km1 fun _=>?_
  exact L (by cases h;rfl)
 ·replace h:=R hc23 h
  refine T kn fun _=>?_
  refine E<|G<|D B<|F km1 fun _=>?_
  exact L (by cases h;rfl)
theorem ck166:CK f166 (Rq [Af 3 1,Ad 4 0] [0,3]<|Sq (Rq [Ac 6 3 0,Ab 7 6,Au 8 7 1,Aa 9 8,Ax 10 3 0 9,Ay 11 10 9,Fm 12 11 2 9,Aq 13 9 12] [0,3,13]<|Co 13 (Rq [Ad 4 1] [4]<|.ret)<|Sk [0,3])<|Sq (Rq [Aa 14 0,Ac 15 3 1,Ae 16 15 2,As 17 226 14 16,Aa 5 17] [0,3,5]<|Rq [Aa 18 5,Au 19 18 0] [0,3,5,19]<|Co 19 (Rq [Aa 20 5,Aa 4 20] [4]<|.ret)<|Sk [0,3])<|Rq [Aa 21 0,Ac 22 3 3,Ae 23 22 2,As 24 226 21 23,Aa 4 24] [4]<|.ret) [.tmp 4]:= by decide +kernel
theorem c166 (n:Int) (x_1:Test) (r:Int) (h:ref03_One n x_1=some r):Sound prog 166 [eI n,eTest x_1] (.sh (eI r)):= by
 refine Fn ck166 fun hw=>?_
 unfold ref03_One at h
 refine E<|G<|Y B B<|D B<|F km2 fun _=>?_
 refine E<|E<|G<|M B<|K B<|a8 B B<|D B ?_
 refine gA 4 [10,11,12] 13 (!decide (x_1.Kind=1)) (!decide (x_1.Kind=2)) (fun hg13=>?_) (fun hg13=>?_) ?_
 ·refine H B hg13<|M B<|H B hg13<|K B<|H B hg13<|a8 B B<|a2 B hg13 B ?_
  exact ⟨⟨_,_,_,B⟩⟩
 ·refine I B hg13<|I B hg13<|I B hg13<|a3 B hg13 B ?_
  exact ⟨⟨_,_,_,B⟩⟩
 rintro _ ⟨_,_,_,rfl⟩
 refine F km3 fun _=>?_
 refine U B (fun hc13=>?_) (fun hc13=>?_)
 ·replace h:=O hc13 h
  refine E<|G<|D B<|F km1 fun _=>?_
  exact L (by cases h;rfl)
 ·replace h:=R hc13 h
  refine T km2 fun _=>?_
  refine E<|E<|G<|D B<|M B<|S B B (B:_=eTerm x_1.Left) ?_
  obtain ⟨x17,hx17,h⟩:=J h
  refine W B (c226 n x_1.Left _ hx17)<|D B<|F km3 fun _=>?_
  refine E<|G<|D B<|a8 B B<|F km4 fun _=>?_
  refine U B (fun hc19=>?_) (fun hc19=>?_)
  ·replace h:=O hc19 h
   refine E<|G<|D B<|D B<|F km1 fun _=>?_
   exact L (by cases h;rfl)
  ·replace h:=R hc19 h
   refine T km2 fun _=>?_
   refine E<|G<|D B<|M B<|S B B (B:_=eTerm x_1.Right) ?_
   obtain ⟨x24,hx24,h⟩:=J h
   refine W B (c226 n x_1.Right _ hx24)<|D B<|F km1 fun _=>?_
   exact L (by cases h;rfl)
theorem ck99:CK f99 (Rq [Ad 4 0] [0,1]<|Sq (Rq [Aa 7 0,Bs 8 7 0,Aa 9 8,Aw 10 0 9,Br 11 10 12 9,Ar 12 9 11] [0,1,12]<|Co 12 (Rq [Ad 4 6] [4]<|.ret)<|Sk [0,1])<|Sq (Rq [Aa 13 1,Ag 14 13,Bf 15 14 40] [0,1,15]<|Co 15 (Rq [Ad 4 3] [4]<|.ret)<|Sk [0,1])<|Sq (Rq [Ad 5 0] [0,1,5]<|Bl 0<|Lo [0,1,5]<|Sq (Rq [Aa 16 5,Aa 17 1,Ag 18 17,Am 19 16 18] [0,1,5,19]<|Co 19 (Sk [0,1,5])<|Ex 0 [])<|Sq (Bl 1<|Rq [Aa 22 0,Aa 23 1,Aa 24 5,Ai 25 23 24 5,Ae 26 25 5,As 27 166 22 26,Aa 6 27] [0,1,5,6]<|Rq [Aa 28 6,Au 29 28 0] [0,1,5,6,29]<|Co 29 (Rq [Aa 30 6,Aa 4 30] [4]<|.ret)<|Sk [0,1,5])<|Re [Aa 20 5,Ao 21 20 1,Aa 5 21] [0,1,5])<|Rq [Ad 4 0] [4]<|.ret) [.tmp 4]:= by decide +kernel
theorem c99 (n:Int) (l:List Test) (r:Int) (h:ref03_Valid n l=some r):Sound prog 99 [eI n,lT l] (.sh (eI r)):= by
 refine Fn ck99 fun hw=>?_
 unfold ref03_Valid at h
 refine E<|G<|D B<|F km2 fun _=>?_
 refine E<|E<|G<|D B<|X B B<|D B ?_
 refine gO 3 [10,11] 12 (decide (n<0)) (decide (12<n)) (fun hg12=>?_) (fun hg12=>?_) ?_
 ·refine I B hg12<|I B hg12<|a2 B hg12 B ?_
  exact ⟨⟨_,_,B⟩⟩
 ·refine H B hg12<|D B<|H B hg12<|e8 B B<|a3 B hg12 B ?_
  exact ⟨⟨_,_,B⟩⟩
 rintro _ ⟨_,_,rfl⟩
 refine F km3 fun _=>?_
 refine U B (fun hc12=>?_) (fun hc12=>?_)
 ·replace h:=O hc12 h
  refine E<|G<|D B<|F km1 fun _=>?_
  exact L (by cases h;rfl)
 ·replace h:=R hc12 h
  refine T km2 fun _=>?_
  refine E<|E<|G<|D B<|V B B<|e8 B B<|F km3 fun _=>?_
  refine U B (fun hc15=>?_) (fun hc15=>?_)
  ·replace h:=O hc15 h
   refine E<|G<|D B<|F km1 fun _=>?_
   exact L (by cases h;rfl)
  ·replace h:=R hc15 h
   refine T km2 fun _=>?_
   refine E<|E<|G<|D B<|F km3 fun _=>?_
   obtain ⟨o0,ho0,h⟩:=d4 h
   refine e0 ho0 (fun (i0:Int) (_:Unit)=>[(0,.tv (eI n)),(1,.tv (lT l)),(5,.tv (eI i0))]) (fun (_:Unit)=>[]) (fun zv ze=>resIs ([.tmp 4]) (.sh (eI zv)) ze) B ?_ ?_ ?_ ?_
   ·clear h ho0
    intro i0 s0 r0 hi0 h hw0
    refine E<|E<|G<|D B<|D B<|V B B<|X B B<|F km4 fun _=>?_
    refine d0 B (d1 hi0)<|T km3 fun _=>?_
    refine E<|a9<|E<|G<|D B<|D B<|D B ?_
    obtain ⟨x25,hx25,h⟩:=J h
    refine a4 B B B hx25 B<|S B B (B:_=eTest x25) ?_
    obtain ⟨x27,hx27,h⟩:=J h
    refine W B (c166 n x25 _ hx27)<|D B<|F km4 fun _=>?_
    refine E<|G<|D B<|a8 B B<|F km5 fun _=>?_
    refine U B (fun hc29=>?_) (fun hc29=>?_)
    ·replace h:=O hc29 h
     refine E<|G<|D B<|D B<|F km1 fun _=>?_
     refine L ?_
     cases h
     exact ⟨_,rfl,rfl⟩
    ·replace h:=R hc29 h
     refine T km3 fun _=>?_
     refine G<|D B<|a7 B B<|D B<|F km3 ?_
     cases h
     refine ⟨_,B,?_⟩
     rw [Ktv rfl (Ktv rfl (Ktv rfl (Knil _)))]
     rw [b6 (a5 (hw0 5)) hi0 (f5 (a5 (hw0 1)) rfl)]
     all_goals rfl
   ·intro i0 s0 hi0
    refine E<|E<|G<|D B<|D B<|V B B<|X B B<|F km4 fun _=>?_
    refine b9 B (d2 hi0)<|b4 kn ?_
    exact ⟨rfl,rfl⟩
   ·intro s0 hs
    replace h:=d5 h hs
    intro _
    refine E<|G<|D B<|F km1 fun _=>?_
    exact L (by cases h;rfl)
   ·intro v0 ze hv hR
    replace h:=d6 h hv
    cases h
    exact hR
theorem ck100:CK f100 (Rq [Af 2 0,Aj 4] [1,2]<|Sq (Rq [Ad 5 0] [1,2,5]<|Bl 0<|Lo [1,2,5]<|Sq (Rq [Aa 6 5,Ac 7 2 2,Ab 8 7,Ag 9 8,Am 10 6 9] [1,2,5,10]<|Co 10 (Sk [1,2,5])<|Ex 0 [])<|Sq (Bl 1<|Rq [Ac 13 2 2,Ab 14 13,Aa 15 5,Ai 16 14 15 4,Ah 17 16 2,Ah 18 17 0,Ab 19 18,Aa 20 1,Cn 21 19 20] [1,2,5,21]<|Co 21 (Rq [Bu 4] [4]<|.ret)<|Sk [1,2,5])<|Re [Aa 11 5,Ao 12 11 1,Aa 5 12] [1,2,5])<|Rq [Aj 4] [4]<|.ret) [.tmp 4]:= by decide +kernel
theorem c100 (p:Pattern) (v_1:Int) (r:Bool) (h:ref21_occurs p v_1=some r):Sound prog 100 [ePattern p,eI v_1] (.sh (eB r)):= by
 refine Fn ck100 fun hw=>?_
 unfold ref21_occurs at h
 refine E<|G<|Y B B<|D B<|F km2 fun _=>?_
 refine E<|E<|G<|D B<|F km3 fun _=>?_
 obtain ⟨o0,ho0,h⟩:=d4 h
 refine e0 ho0 (fun (i0:Int) (_:Unit)=>[(1,.tv (eI v_1)),(2,.tv (.pt (ePattern p).cells)),(5,.tv (eI i0))]) (fun (_:Unit)=>[]) (fun zv ze=>resIs ([.tmp 4]) (.sh (eB zv)) ze) B ?_ ?_ ?_ ?_
 ·clear h ho0
  intro i0 s0 r0 hi0 h hw0
  refine E<|E<|G<|D B<|M B<|K B<|V B B<|X B B<|F km4 fun _=>?_
  refine d0 B (d1 hi0)<|T km3 fun _=>?_
  refine E<|a9<|E<|G<|M B<|K B<|D B ?_
  obtain ⟨x16,hx16,h⟩:=J h
  refine a4 B B B hx16 B<|b8 B<|b8 B<|K B<|D B<|b5 B B<|F km4 fun _=>?_
  refine U B (fun hc21=>?_) (fun hc21=>?_)
  ·replace h:=O hc21 h
   refine E<|G<|D B<|F km1 fun _=>?_
   refine L ?_
   cases h
   exact ⟨_,rfl,rfl⟩
  ·replace h:=R hc21 h
   refine T km3 fun _=>?_
   refine G<|D B<|a7 B B<|D B<|F km3 ?_
   cases h
   refine ⟨_,B,?_⟩
   rw [Ktv rfl (Ktv rfl (Ktv rfl (Knil _)))]
   rw [b6 (a5 (hw0 5)) hi0 (f5 (g0 (g1 (hw0 2)) (i:=2) rfl) rfl)]
   all_goals rfl
 ·intro i0 s0 hi0
  refine E<|E<|G<|D B<|M B<|K B<|V B B<|X B B<|F km4 fun _=>?_
  refine b9 B (d2 hi0)<|b4 kn ?_
  exact ⟨rfl,rfl⟩
 ·intro s0 hs
  replace h:=d5 h hs
  intro _
  refine E<|G<|D B<|F km1 fun _=>?_
  exact L (by cases h;rfl)
 ·intro v0 ze hv hR
  replace h:=d6 h hv
  cases h
  exact hR
theorem ck42:CK f42 (Rq [Af 2 0,Af 3 1,Ad 4 0] [2,3]<|Sq (Rq [Ae 15 2 2,Av 16 94 15,Aa 14 16,Ak 17 14 0,Ak 18 14 1,Aa 5 17,Aa 6 18] [2,3,6]<|Rq [Aa 19 6,Au 20 19 0] [2,3,6,20]<|Co 20 (Rq [Aa 21 6,Aa 4 21] [4]<|.ret)<|Sk [2,3])<|Sq (Rq [Ac 22 3 0,Ae 23 22 2,Av 24 95 23,Aa 7 24] [2,3,7]<|Rq [Aa 25 7,Au 26 25 0] [2,3,7,26]<|Co 26 (Rq [Aa 27 7,Aa 4 27] [4]<|.ret)<|Sk [2,3])<|Sq (Rq [Ae 28 2 2,Ac 29 3 0,Ae 30 29 2,As 31 96 28 30,Ba 32 31] [2,3,32]<|Co 32 (Rq [Ad 4 13] [4]<|.ret)<|Sk [2,3])<|Sq (Rq [Ac 33 3 3,Ab 34 33,Bs 35 34 0,Aa 36 35,Ap 37 3 3 36,An 38 37 36,Br 39 38 12 36,Ar 40 36 39] [2,3,40]<|Co 40 (Rq [Ad 4 6] [4]<|.ret)<|Sk [2,3])<|Sq (Rq [Ac 41 3 2,Ab 42 41,Ag 43 42,Bf 44 43 10,Aa 45 44,Ap 46 3 4 45,An 47 46 45,Be 48 47 45,Br 49 48 10 45,Ar 50 45 49] [2,3,50]<|Co 50 (Rq [Ad 4 3] [4]<|.ret)<|Sk [2,3])<|Sq (Rq [Ad 8 0] [2,3,8]<|Bl 0<|Lo [2,3,8]<|Sq (Rq [Aa 51 8,Ac 52 3 2,Ab 53 52,Ag 54 53,Am 55 51 54] [2,3,8,55]<|Co 55 (Sk [2,3,8])<|Ex 0 [3])<|Sq (Bl 1<|Rq [Ac 58 3 2,Ab 59 58,Aa 60 8,Ai 61 59 60 4,Ae 62 61 4,Dl 9 0 0 0 0,Al 4 9 62] [2,3,8,9]<|Rq [Ae 64 2 2,Ae 65 3 5,Ac 66 9 0,Ab 67 66,Ac 68 9 1,Ab 69 68,Da 70 97 64 65 67 69,Aa 63 70,Ak 71 63 0,Ak 72 63 1,Cy 10 0 0 1,Al 4 10 71,Aa 11 72] [2,3,8,9,11]<|Rq [Aa 73 11,Ba 74 73,Aa 75 74,Ap 76 9 2 75,Bq 77 76 0 75,An 78 77 75,Fz 79 78 (-1) 75,Ar 80 75 79,Aa 81 80,Ap 82 9 2 81,Bq 83 82 0 81,An 84 83 81,Ap 85 3 3 81,An 86 85 81,Bp 87 84 86 81,Ar 88 81 87,Aa 89 88,Ap 90 9 2 89,Bq 91 90 1 89,An 92 91 89,Cm 93 98 92 89,Bm 94 93 89,Ar 95 89 94] [2,3,8,95]<|Co 95 (Rq [Ad 4 6] [4]<|.ret)<|Sk [2,3,8])<|Re [Aa 56 8,Ao 57 56 1,Aa 8 57] [2,3,8])<|Sq (Rq [Ac 96 3 3,Ab 97 96,Ac 98 3 4,Ab 99 98,As 100 99 97 99,Aa 12 100] [3,12]<|Rq [Aa 101 12,Au 102 101 0] [3,12,102]<|Co 102 (Rq [Aa 103 12,Aa 4 103] [4]<|.ret)<|Sk [3])<|Sq (Rq [Ad 13 0] [3,13]<|Bl 2<|Lo [3,13]<|Sq (Rq [Aa 104 13,Ac 105 3 3,Ab 106 105,Am 107 104 106] [3,13,107]<|Co 107 (Sk [3,13])<|Ex 2 [])<|Sq (Bl 3<|Rq [Ae 110 3 5,Aa 111 13,As 112 100 110 111,Ba 113 112] [3,13,113]<|Co 113 (Rq [Ad 4 9] [4]<|.ret)<|Sk [3,13])<|Re [Aa 108 13,Ao 109 108 1,Aa 13 109] [3,13])<|Rq [Ad 4 0] [4]<|.ret) [.tmp 4]:= by decide +kernel
theorem c42 (t:Types) (p:Pattern) (r:Int) (h:ref21_Valid t p=some r):Sound prog 42 [eTypes t,ePattern p] (.sh (eI r)):= by
 refine Fn ck42 fun hw=>?_
 unfold ref21_Valid at h
 refine E<|G<|Y B B<|Y B B<|D B<|F km2 fun _=>?_
 refine E<|E<|G<|S B B (B:_=eTypes t) ?_
 obtain ⟨x16,hx16,h⟩:=J h
 refine f1 B (c94 t _ hx16)<|f0 B<|b2 B B<|b2 B B<|D B<|D B<|F km3 fun _=>?_
 refine E<|G<|D B<|a8 B B<|F km4 fun _=>?_
 refine U B (fun hc20=>?_) (fun hc20=>?_)
 ·replace h:=O hc20 h
  refine E<|G<|D B<|D B<|F km1 fun _=>?_
  exact L (by cases h;rfl)
 ·replace h:=R hc20 h
  refine T km2 fun _=>?_
  refine E<|E<|G<|M B<|S B B (B:_=eGraph p.Graph) ?_
  obtain ⟨x24,hx24,h⟩:=J h
  refine W B (c95 p.Graph _ hx24)<|D B<|F km3 fun _=>?_
  refine E<|G<|D B<|a8 B B<|F km4 fun _=>?_
  refine U B (fun hc26=>?_) (fun hc26=>?_)
  ·replace h:=O hc26 h
   refine E<|G<|D B<|D B<|F km1 fun _=>?_
   exact L (by cases h;rfl)
  ·replace h:=R hc26 h
   refine T km2 fun _=>?_
   refine E<|E<|G<|S B B (B:_=eTypes t)<|M B<|S B B (B:_=eGraph p.Graph) ?_
   obtain ⟨x31,hx31,h⟩:=J h
   refine W B (c96 t p.Graph _ hx31)<|d3 B<|F km3 fun _=>?_
   refine U B (fun hc32=>?_) (fun hc32=>?_)
   ·replace h:=O hc32 h
    refine E<|G<|D B<|F km1 fun _=>?_
    exact L (by cases h;rfl)
   ·replace h:=R hc32 h
    refine T km2 fun _=>?_
    refine E<|E<|G<|M B<|K B<|X B B<|D B ?_
    refine gO 4 [37,38,39] 40 (decide (p.Vars<0)) (decide (12<p.Vars)) (fun hg40=>?_) (fun hg40=>?_) ?_
    ·refine I B hg40<|I B hg40<|I B hg40<|a2 B hg40 B ?_
     exact ⟨⟨_,_,_,B⟩⟩
    ·refine H B hg40<|M B<|H B hg40<|K B<|H B hg40<|e8 B B<|a3 B hg40 B ?_
     exact ⟨⟨_,_,_,B⟩⟩
    rintro _ ⟨_,_,_,rfl⟩
    refine F km3 fun _=>?_
    refine U B (fun hc40=>?_) (fun hc40=>?_)
    ·replace h:=O hc40 h
     refine E<|G<|D B<|F km1 fun _=>?_
     exact L (by cases h;rfl)
    ·replace h:=R hc40 h
     refine T km2 fun _=>?_
     refine E<|E<|G<|M B<|K B<|V B B<|e8 B B<|D B ?_
     refine gO 5 [46,47,48,49] 50 (decide (10<(p.Slots.length:Int))) (decide (10<(p.Tests.length:Int))) (fun hg50=>?_) (fun hg50=>?_) ?_
     ·refine I B hg50<|I B hg50<|I B hg50<|I B hg50<|a2 B hg50 B ?_
      exact ⟨⟨_,_,_,_,B⟩⟩
     ·refine H B hg50<|M B<|H B hg50<|K B<|H B hg50<|V B B<|H B hg50<|e8 B B<|a3 B hg50 B ?_
      exact ⟨⟨_,_,_,_,B⟩⟩
     rintro _ ⟨_,_,_,_,rfl⟩
     refine F km3 fun _=>?_
     refine U B (fun hc50=>?_) (fun hc50=>?_)
     ·replace h:=O hc50 h
      refine E<|G<|D B<|F km1 fun _=>?_
      exact L (by cases h;rfl)
     ·replace h:=R hc50 h
      refine T km2 fun _=>?_
      refine E<|E<|G<|D B<|F km3 fun _=>?_
      obtain ⟨o0,ho0,h⟩:=d4 h
      refine e0 ho0 (fun (i0:Int) (_:Unit)=>[(2,.tv (.pt (eTypes t).cells)),(3,.tv (.pt (ePattern p).cells)),(8,.tv (eI i0))]) (fun (_:Unit)=>[(3,.tv (.pt (ePattern p).cells))]) (fun zv ze=>resIs ([.tmp 4]) (.sh (eI zv)) ze) B ?_ ?_ ?_ ?_
      ·clear h ho0
       intro i0 s0 r0 hi0 h hw0
       refine E<|E<|G<|D B<|M B<|K B<|V B B<|X B B<|F km4 fun _=>?_
       refine d0 B (d1 hi0)<|T km3 fun _=>?_
       refine E<|a9<|E<|G<|M B<|K B<|D B ?_
       obtain ⟨x61,hx61,h⟩:=J h
       refine a4 B B B hx61 B<|S B B (B:_=eSlot x61)<|d8 B<|b3 B B B B B<|F (kt<|kt<|kt<|kb<|kn) fun _=>?_
       refine E<|G<|S B B (B:_=eTypes t)<|S B B (B:_=ePattern p)<|a6 B<|K B<|a6 B<|K B ?_
       obtain ⟨x70,hx70,h⟩:=J h
       refine f1 B (c97 t p x61.Node x61.Attr _ hx70)<|f0 B<|b2 B B<|b2 B B<|d8 B<|b3 B B B B B<|D B<|F (kt<|kt<|kt<|kb<|kt<|kn) fun _=>?_
       refine E<|G<|D B<|d3 B<|D B ?_
       refine gO 5 [76,77,78,79] 80 (!x70.2) (decide (x61.Term.Var<(-1))) (fun hg80=>?_) (fun hg80=>?_) ?_
       ·refine I B hg80<|I B hg80<|I B hg80<|I B hg80<|a2 B hg80 B ?_
        exact ⟨⟨_,_,_,_,B⟩⟩
       ·refine H B hg80<|a6 B<|H B hg80<|b7 B B<|H B hg80<|K B<|H B hg80<|X B B<|a3 B hg80 B ?_
        exact ⟨⟨_,_,_,_,B⟩⟩
       rintro _ ⟨_,_,_,_,rfl⟩
       refine D B ?_
       refine gO 7 [82,83,84,85,86,87] 88 ((!x70.2)||(decide (x61.Term.Var<(-1)))) (decide (p.Vars<=x61.Term.Var)) (fun hg88=>?_) (fun hg88=>?_) ?_
       ·refine I B hg88<|I B hg88<|I B hg88<|I B hg88<|I B hg88<|I B hg88<|a2 B hg88 B ?_
        exact ⟨⟨_,_,_,_,_,_,B⟩⟩
       ·refine H B hg88<|a6 B<|H B hg88<|b7 B B<|H B hg88<|K B<|H B hg88<|M B<|H B hg88<|K B<|H B hg88<|d9 B B<|a3 B hg88 B ?_
        exact ⟨⟨_,_,_,_,_,_,B⟩⟩
       rintro _ ⟨_,_,_,_,_,_,rfl⟩
       refine D B ?_
       obtain ⟨x95,hx95,h⟩:=J h
       refine gX 6 [90,91,92,93,94] 95 x95 (((!x70.2)||(decide (x61.Term.Var<(-1))))||(decide (p.Vars<=x61.Term.Var))) (fun hg95=>?_) (fun hg95=>?_) ?_
       ·replace h:=O hg95 hx95
        cases h
        refine I B hg95<|I B hg95<|I B hg95<|I B hg95<|I B hg95<|a2 B hg95 B ?_
        exact ⟨⟨_,_,_,_,_,B⟩⟩
       ·replace h:=R hg95 hx95
        refine H B hg95<|a6 B<|H B hg95<|b7 B B<|H B hg95<|K B ?_
        obtain ⟨x93,hx93,h⟩:=J h
        refine H B hg95<|W B (c98 x61.Term.Add _ hx93)<|H B hg95<|d3 B ?_
        cases h
        refine a3 B hg95 B ?_
        exact ⟨⟨_,_,_,_,_,B⟩⟩
       rintro _ ⟨_,_,_,_,_,rfl⟩
       refine F km4 fun _=>?_
       refine U B (fun hc95=>?_) (fun hc95=>?_)
       ·replace h:=O hc95 h
        refine E<|G<|D B<|F km1 fun _=>?_
        refine L ?_
        cases h
        exact ⟨_,rfl,rfl⟩
       ·replace h:=R hc95 h
        refine T km3 fun _=>?_
        refine G<|D B<|a7 B B<|D B<|F km3 ?_
        cases h
        refine ⟨_,B,?_⟩
        rw [Ktv rfl (Ktv rfl (Ktv rfl (Knil _)))]
        rw [b6 (a5 (hw0 8)) hi0 (f5 (g0 (g1 (hw0 3)) (i:=2) rfl) rfl)]
        all_goals rfl
      ·intro i0 s0 hi0
       refine E<|E<|G<|D B<|M B<|K B<|V B B<|X B B<|F km4 fun _=>?_
       refine b9 B (d2 hi0)<|b4 km1 ?_
       exact ⟨rfl,rfl⟩
      ·intro s0 hs
       replace h:=d5 h hs
       intro _
       refine E<|E<|G<|M B<|K B<|M B<|K B ?_
       obtain ⟨x100,hx100,h⟩:=J h
       refine W B (c99 p.Vars p.Tests _ hx100)<|D B<|F km2 fun _=>?_
       refine E<|G<|D B<|a8 B B<|F km3 fun _=>?_
       refine U B (fun hc102=>?_) (fun hc102=>?_)
       ·replace h:=O hc102 h
        refine E<|G<|D B<|D B<|F km1 fun _=>?_
        exact L (by cases h;rfl)
       ·replace h:=R hc102 h
        refine T km1 fun _=>?_
        refine E<|E<|G<|D B<|F km2 fun _=>?_
        obtain ⟨o2,ho2,h⟩:=d4 h
        refine e0 ho2 (fun (i2:Int) (_:Unit)=>[(3,.tv (.pt (ePattern p).cells)),(13,.tv (eI i2))]) (fun (_:Unit)=>[]) (fun zv ze=>resIs ([.tmp 4]) (.sh (eI zv)) ze) B ?_ ?_ ?_ ?_
        ·clear h ho2
         intro i2 s2 r2 hi2 h hw2
         refine E<|E<|G<|D B<|M B<|K B<|X B B<|F km3 fun _=>?_
         refine d0 B (d1 hi2)<|T km2 fun _=>?_
         refine E<|a9<|E<|G<|S B B (B:_=ePattern p)<|D B ?_
         obtain ⟨x112,hx112,h⟩:=J h
         refine W B (c100 p i2 _ hx112)<|d3 B<|F km3 fun _=>?_
         refine U B (fun hc113=>?_) (fun hc113=>?_)
         ·replace h:=O hc113 h
          refine E<|G<|D B<|F km1 fun _=>?_
          refine L ?_
          cases h
          exact ⟨_,rfl,rfl⟩
         ·replace h:=R hc113 h
          refine T km2 fun _=>?_
          refine G<|D B<|a7 B B<|D B<|F km2 ?_
          cases h
          refine ⟨_,B,?_⟩
          rw [Ktv rfl (Ktv rfl (Knil _))]
          rw [b6 (a5 (hw2 13)) hi2 (e1 (g0 (g1 (hw2 3)) (i:=3) rfl))]
          all_goals rfl
        ·intro i2 s2 hi2
         refine E<|E<|G<|D B<|M B<|K B<|X B B<|F km3 fun _=>?_
         refine b9 B (d2 hi2)<|b4 kn ?_
         exact ⟨rfl,rfl⟩
        ·intro s2 hs
         replace h:=d5 h hs
         intro _
         refine E<|G<|D B<|F km1 fun _=>?_
         exact L (by cases h;rfl)
        ·intro v2 ze hv hR
         replace h:=d6 h hv
         cases h
         exact hR
      ·intro v0 ze hv hR
       replace h:=d6 h hv
       cases h
       exact hR
theorem ck227:CK f227 (Rq [Af 1 0,Aj 2] [1]<|Rq [Ac 4 1 2,Ah 5 4 0,Ab 6 5,Ag 7 6,Ac 8 1 2,Ah 9 8 1,Ab 10 9,Ag 11 10,Bi 12 7 11,Ac 13 1 4,Ah 14 13 0,Ah 15 14 0,Ab 16 15,Ag 17 16,Bi 18 12 17,Ac 19 1 4,Ah 20 19 0,Ah 21 20 1,Ab 22 21,Ag 23 22,Bi 24 18 23,Az 25 24 0,Aa 3 25] [1,3]<|Rq [Aa 26 3,Aa 27 26,Ax 28 1 4 27,Cj 29 28 2 27,Ay 30 29 27,Cb 31 30 27,Ax 32 1 4 27,Cj 33 32 4 27,Ay 34 33 27,Cb 35 34 27,Eo 36 31 35 27,Ci 37 36 0 27,Aq 38 27 37,Aa 39 38,Ax 40 1 4 39,Cj 41 40 3 39,Ay 42 41 39,Ci 43 42 0 39,Aq 44 39 43,Aa 2 44] [2]<|.ret) [.tmp 2]:= by decide +kernel
theorem c227 (c:Condition) (r:Bool) (h:ref22_unused c=some r):Sound prog 227 [eCondition c] (.sh (eB r)):= by
 refine Fn ck227 fun hw=>?_
 unfold ref22_unused at h
 refine E<|G<|Y B B<|D B<|F km1 fun _=>?_
 refine E<|G<|M B<|b8 B<|K B<|V B B<|M B<|b8 B<|K B<|V B B<|a7 B B<|M B<|b8 B<|b8 B<|K B<|V B B<|a7 B B<|M B<|b8 B<|b8 B<|K B<|V B B<|a7 B B<|b5 B B<|D B<|F km2 fun _=>?_
 refine E<|G<|D B<|D B ?_
 refine gA 11 [28,29,30,31,32,33,34,35,36,37] 38 (decide ((w64 ((w64 ((w64 ((c.Map.Nodes.length:Int)+(c.Map.Edges.length:Int)))+(c.Pattern.Graph.Nodes.length:Int)))+(c.Pattern.Graph.Edges.length:Int)))=0)) (decide ((w64 ((c.Pattern.Slots.length:Int)+(c.Pattern.Tests.length:Int)))=0)) (fun hg38=>?_) (fun hg38=>?_) ?_
 ·refine H B hg38<|M B<|H B hg38<|b8 B<|H B hg38<|K B<|H B hg38<|V B B<|H B hg38<|M B<|H B hg38<|b8 B<|H B hg38<|K B<|H B hg38<|V B B<|H B hg38<|a7 B B<|H B hg38<|b5 B B<|a2 B hg38 B ?_
  exact ⟨⟨_,_,_,_,_,_,_,_,_,_,B⟩⟩
 ·refine I B hg38<|I B hg38<|I B hg38<|I B hg38<|I B hg38<|I B hg38<|I B hg38<|I B hg38<|I B hg38<|I B hg38<|a3 B hg38 B ?_
  exact ⟨⟨_,_,_,_,_,_,_,_,_,_,B⟩⟩
 rintro _ ⟨_,_,_,_,_,_,_,_,_,_,rfl⟩
 refine D B ?_
 refine gA 5 [40,41,42,43] 44 ((decide ((w64 ((w64 ((w64 ((c.Map.Nodes.length:Int)+(c.Map.Edges.length:Int)))+(c.Pattern.Graph.Nodes.length:Int)))+(c.Pattern.Graph.Edges.length:Int)))=0))&&(decide ((w64 ((c.Pattern.Slots.length:Int)+(c.Pattern.Tests.length:Int)))=0))) (decide (c.Pattern.Vars=0)) (fun hg44=>?_) (fun hg44=>?_) ?_
 ·refine H B hg44<|M B<|H B hg44<|b8 B<|H B hg44<|K B<|H B hg44<|b5 B B<|a2 B hg44 B ?_
  exact ⟨⟨_,_,_,_,B⟩⟩
 ·refine I B hg44<|I B hg44<|I B hg44<|I B hg44<|a3 B hg44 B ?_
  exact ⟨⟨_,_,_,_,B⟩⟩
 rintro _ ⟨_,_,_,_,rfl⟩
 refine D B<|F km1 fun _=>?_
 exact L (by cases h;rfl)
theorem ck167:CK f167 (Rq [Af 1 0,Aj 2] [1]<|Sq (Rq [Ac 3 1 0,Ab 4 3] [1,4]<|Bl 0<|Rq [Az 6 4 1,Aa 5 6] [1,4,5]<|Co 5 (Rq [Ac 7 1 1,Ab 8 7,Ag 9 8,Az 10 9 0,Aa 11 10,Bh 12 1 9 11,Bt 13 227 12 11,Aq 14 11 13,Aa 2 14] [2]<|.ret)<|Rq [Az 16 4 2,Aa 15 16] [1,4,15]<|Co 15 (Rq [Ac 17 1 1,Ab 18 17,Ag 19 18,Az 20 19 1,Aa 21 20,Bh 22 1 9 21,Bt 23 227 22 21,Aq 24 21 23,Aa 2 24] [2]<|.ret)<|Sq (Rq [Az 26 4 3,Aa 25 26] [1,4,25]<|Co 25 (Sk [1,4,25])<|Re [Az 27 4 4,Aa 25 27] [1,4,25])<|Co 25 (Rq [Ac 28 1 1,Ab 29 28,Ag 30 29,Bf 31 30 0,Aa 32 31,Bh 33 1 9 32,Bt 34 227 33 32,Aq 35 32 34,Aa 2 35] [2]<|.ret)<|Rq [Az 37 4 5,Aa 36 37] [1,36]<|Co 36 (Rq [Ac 38 1 1,Ab 39 38,Ag 40 39,Az 41 40 1,Aa 2 41] [2]<|.ret)<|Sk [])<|Rq [Aj 2] [2]<|.ret) [.tmp 2]:= by decide +kernel
theorem c167 (c:Condition) (r:Bool) (h:ref22_right c=some r):Sound prog 167 [eCondition c] (.sh (eB r)):= by
 refine Fn ck167 fun hw=>?_
 unfold ref22_right at h
 refine E<|G<|Y B B<|D B<|F km1 fun _=>?_
 refine E<|E<|G<|M B<|K B<|F km2 fun _=>?_
 refine a9<|E<|G<|b5 B B<|D B<|F km3 fun _=>?_
 refine U B (fun hc5=>?_) (fun hc5=>?_)
 ·replace h:=O hc5 h
  refine E<|G<|M B<|K B<|V B (eLCondition_eq _)<|b5 B B<|D B ?_
  obtain ⟨x14,hx14,h⟩:=J h
  refine gX 3 [12,13] 14 x14 (decide ((c.Kids.length:Int)=0)) (fun hg14=>?_) (fun hg14=>?_) ?_
  ·replace h:=O hg14 hx14
   refine H B hg14<|S B B (B:_=eCondition c) ?_
   obtain ⟨x13,hx13,h⟩:=J h
   refine H B hg14<|W B (c227 c _ hx13) ?_
   cases h
   refine a2 B hg14 B ?_
   exact ⟨⟨_,_,B⟩⟩
  ·replace h:=R hg14 hx14
   cases h
   refine I B hg14<|I B hg14<|a3 B hg14 B ?_
   exact ⟨⟨_,_,B⟩⟩
  rintro _ ⟨_,_,rfl⟩
  refine D B<|F km1 fun _=>?_
  exact L (by cases h;rfl)
 ·replace h:=R hc5 h
  refine E<|G<|b5 B B<|D B<|F km3 fun _=>?_
  refine U B (fun hc15=>?_) (fun hc15=>?_)
  ·replace h:=O hc15 h
   refine E<|G<|M B<|K B<|V B (eLCondition_eq _)<|b5 B B<|D B ?_
   obtain ⟨x24,hx24,h⟩:=J h
   refine gX 3 [22,23] 24 x24 (decide ((c.Kids.length:Int)=1)) (fun hg24=>?_) (fun hg24=>?_) ?_
   ·replace h:=O hg24 hx24
    refine H B hg24<|S B B (B:_=eCondition c) ?_
    obtain ⟨x23,hx23,h⟩:=J h
    refine H B hg24<|W B (c227 c _ hx23) ?_
    cases h
    refine a2 B hg24 B ?_
    exact ⟨⟨_,_,B⟩⟩
   ·replace h:=R hg24 hx24
    cases h
    refine I B hg24<|I B hg24<|a3 B hg24 B ?_
    exact ⟨⟨_,_,B⟩⟩
   rintro _ ⟨_,_,rfl⟩
   refine D B<|F km1 fun _=>?_
   exact L (by cases h;rfl)
  ·replace h:=R hc15 h
   refine E<|E<|G<|b5 B B<|D B<|F km3 fun _=>?_
   obtain ⟨w1,hw1,h⟩:=J h
   refine l1 (fun ze=>ze=[(1,.tv (.pt (eCondition c).cells)),(4,.tv (eI c.Kind)),(25,.tv (eB w1))]) ?_ ?_
   ·replace h:=hw1
    clear hw1
    refine U B (fun hc25=>?_) (fun hc25=>?_)
    ·replace h:=O hc25 h
     refine T km3 ?_
     cases h
     exact rfl
    ·replace h:=R hc25 h
     refine G<|b5 B B<|D B<|F km3 ?_
     cases h
     exact rfl
   rintro _ rfl
   intro _
   refine U B (fun hc25=>?_) (fun hc25=>?_)
   ·replace h:=O hc25 h
    refine E<|G<|M B<|K B<|V B (eLCondition_eq _)<|e8 B B<|D B ?_
    obtain ⟨x35,hx35,h⟩:=J h
    refine gX 3 [33,34] 35 x35 (decide (0<(c.Kids.length:Int))) (fun hg35=>?_) (fun hg35=>?_) ?_
    ·replace h:=O hg35 hx35
     refine H B hg35<|S B B (B:_=eCondition c) ?_
     obtain ⟨x34,hx34,h⟩:=J h
     refine H B hg35<|W B (c227 c _ hx34) ?_
     cases h
     refine a2 B hg35 B ?_
     exact ⟨⟨_,_,B⟩⟩
    ·replace h:=R hg35 hx35
     cases h
     refine I B hg35<|I B hg35<|a3 B hg35 B ?_
     exact ⟨⟨_,_,B⟩⟩
    rintro _ ⟨_,_,rfl⟩
    refine D B<|F km1 fun _=>?_
    exact L (by cases h;rfl)
   ·replace h:=R hc25 h
    refine E<|G<|b5 B B<|D B<|F km2 fun _=>?_
    refine U B (fun hc36=>?_) (fun hc36=>?_)
    ·replace h:=O hc36 h
     refine E<|G<|M B<|K B<|V B (eLCondition_eq _)<|b5 B B<|D B<|F km1 fun _=>?_
     exact L (by cases h;rfl)
    ·replace h:=R hc36 h
     refine T kn fun _=>?_
     refine E<|G<|D B<|F km1 fun _=>?_
     exact L (by cases h;rfl)
theorem ck101:CK f101 (Rq [Af 1 0,Aj 2] [1]<|Sq (Rq [Ae 4 1 9,Av 5 167 4,Ba 6 5] [1,6]<|Co 6 (Rq [Aj 2] [2]<|.ret)<|Sk [1])<|Sq (Rq [Ad 3 0] [1,3]<|Bl 0<|Lo [1,3]<|Sq (Rq [Aa 7 3,Ac 8 1 1,Ab 9 8,Ag 10 9,Am 11 7 10] [1,3,11]<|Co 11 (Sk [1,3])<|Ex 0 [])<|Sq (Bl 1<|Rq [Ac 14 1 1,Ab 15 14,Aa 16 3,Ai 17 15 16 9,Ae 18 17 9,Av 19 101 18,Ba 20 19] [1,3,20]<|Co 20 (Rq [Aj 2] [2]<|.ret)<|Sk [1,3])<|Re [Aa 12 3,Ao 13 12 1,Aa 3 13] [1,3])<|Rq [Bu 2] [2]<|.ret) [.tmp 2]:= by decide +kernel
theorem c101S (n:Nat) (ih_101:∀ (c:Condition) (r:Bool) (_:ref22_allRightF n c=some r),Sound prog 101 [eCondition c] (.sh (eB r))):∀ (c:Condition) (r:Bool) (_:ref22_allRightF (n+1) c=some r),Sound prog 101 [eCondition c] (.sh (eB r)):= by
 intro c r h
 refine Fn ck101 fun hw=>?_
 unfold ref22_allRightF at h
 refine E<|G<|Y B B<|D B<|F km1 fun _=>?_
 refine E<|E<|G<|S B B (B:_=eCondition c) ?_
 obtain ⟨x5,hx5,h⟩:=J h
 refine W B (c167 c _ hx5)<|d3 B<|F km2 fun _=>?_
 refine U B (fun hc6=>?_) (fun hc6=>?_)
 ·replace h:=O hc6 h
  refine E<|G<|D B<|F km1 fun _=>?_
  exact L (by cases h;rfl)
 ·replace h:=R hc6 h
  refine T km1 fun _=>?_
  refine E<|E<|G<|D B<|F km2 fun _=>?_
  obtain ⟨o0,ho0,h⟩:=d4 h
  refine e0 ho0 (fun (i0:Int) (_:Unit)=>[(1,.tv (.pt (eCondition c).cells)),(3,.tv (eI i0))]) (fun (_:Unit)=>[]) (fun zv ze=>resIs ([.tmp 2]) (.sh (eB zv)) ze) B ?_ ?_ ?_ ?_
  ·clear h ho0
   intro i0 s0 r0 hi0 h hw0
   refine E<|E<|G<|D B<|M B<|K B<|V B (eLCondition_eq _)<|X B B<|F km3 fun _=>?_
   refine d0 B (d1 hi0)<|T km2 fun _=>?_
   refine E<|a9<|E<|G<|M B<|K B<|D B ?_
   obtain ⟨x17,hx17,h⟩:=J h
   refine a4 B B (eLCondition_eq _) hx17 B<|S B B (B:_=eCondition x17) ?_
   obtain ⟨x19,hx19,h⟩:=J h
   refine W B (ih_101 x17 _ hx19)<|d3 B<|F km3 fun _=>?_
   refine U B (fun hc20=>?_) (fun hc20=>?_)
   ·replace h:=O hc20 h
    refine E<|G<|D B<|F km1 fun _=>?_
    refine L ?_
    cases h
    exact ⟨_,rfl,rfl⟩
   ·replace h:=R hc20 h
    refine T km2 fun _=>?_
    refine G<|D B<|a7 B B<|D B<|F km2 ?_
    cases h
    refine ⟨_,B,?_⟩
    rw [Ktv rfl (Ktv rfl (Knil _))]
    rw [b6 (a5 (hw0 3)) hi0 (f5 (g0 (g1 (hw0 1)) (i:=1) rfl) (eLCondition_eq _))]
    all_goals rfl
  ·intro i0 s0 hi0
   refine E<|E<|G<|D B<|M B<|K B<|V B (eLCondition_eq _)<|X B B<|F km3 fun _=>?_
   refine b9 B (d2 hi0)<|b4 kn ?_
   exact ⟨rfl,rfl⟩
  ·intro s0 hs
   replace h:=d5 h hs
   intro _
   refine E<|G<|D B<|F km1 fun _=>?_
   exact L (by cases h;rfl)
  ·intro v0 ze hv hR
   replace h:=d6 h hv
   cases h
   exact hR
theorem c101A:∀ n:Nat,(∀ (c:Condition) (r:Bool) (_:ref22_allRightF n c=some r),Sound prog 101 [eCondition c] (.sh (eB r))):=by
  intro n
  induction n with
  | zero=>intro c r h; cases h
  | succ n ih=>exact c101S n ih
theorem c101 (c:Condition) (r:Bool) (h:ref22_allRight c=some r):Sound prog 101 [eCondition c] (.sh (eB r)):=by
  obtain ⟨N,hN⟩:=lim_some h
  exact (c101A N) c r (hN N (Nat.le_refl _))
theorem ck102:CK f102 (Rq [Af 1 0,Ad 2 0,Ad 3 0] [1]<|Rq [Ad 4 1,Ad 5 0] [1,4,5]<|Sq (Rq [Ad 6 0] [1,4,5,6]<|Bl 0<|Lo [1,4,5,6]<|Sq (Rq [Aa 9 6,Ac 10 1 1,Ab 11 10,Ag 12 11,Am 13 9 12] [1,4,5,6,13]<|Co 13 (Sk [1,4,5,6])<|Ex 0 [1,4,5])<|Sq (Bl 1<|Rq [Ac 17 1 1,Ab 18 17,Aa 19 6,Ai 20 18 19 9,Ae 21 20 9,Av 22 102 21,Aa 16 22,Ak 23 16 0,Ak 24 16 1,Aa 7 23,Aa 8 24] [1,4,5,6,7,8]<|Re [Aa 25 4,Aa 26 7,Bi 27 25 26,Aa 28 5,Aa 29 8,Fb 30 28 29,Aa 4 27,Aa 5 30] [1,4,5,6])<|Re [Aa 14 6,Ao 15 14 1,Aa 6 15] [1,4,5,6])<|Sq (Rq [Ac 31 1 0,Ab 32 31,Az 33 32 5] [4,5,33]<|Co 33 (Re [Aa 34 5,Ao 35 34 1,Aa 5 35] [4,5])<|Sk [4,5])<|Rq [Aa 36 4,Aa 37 5,Aa 2 36,Aa 3 37] [2,3]<|.ret) [.tmp 2,.tmp 3]:= by decide +kernel
theorem c102S (n:Nat) (ih_102:∀ (c:Condition) (r:(Int × Int)) (_:ref22_MeasureF n c=some r),Sound prog 102 [eCondition c] (.tp [eI r.1,eI r.2])):∀ (c:Condition) (r:(Int × Int)) (_:ref22_MeasureF (n+1) c=some r),Sound prog 102 [eCondition c] (.tp [eI r.1,eI r.2]):= by
 intro c r h
 refine Fn ck102 fun hw=>?_
 unfold ref22_MeasureF at h
 refine E<|G<|Y B B<|D B<|D B<|F km1 fun _=>?_
 refine E<|G<|D B<|D B<|F km3 fun _=>?_
 refine E<|E<|G<|D B<|F km4 fun _=>?_
 obtain ⟨s0,hs0,h⟩:=J h
 refine g6 hs0 (fun (i0:Int) (s0:Int × Int)=>[(1,.tv (.pt (eCondition c).cells)),(4,.tv (eI s0.1)),(5,.tv (eI s0.2)),(6,.tv (eI i0))]) (fun (s0:Int × Int)=>[(1,.tv (.pt (eCondition c).cells)),(4,.tv (eI s0.1)),(5,.tv (eI s0.2))]) B ?_ ?_ ?_
 ·clear h hs0
  intro i0 s0 r0 hi0 h hw0
  refine E<|E<|G<|D B<|M B<|K B<|V B (eLCondition_eq _)<|X B B<|F km5 fun _=>?_
  refine d0 B (d1 hi0)<|T km4 fun _=>?_
  refine E<|a9<|E<|G<|M B<|K B<|D B ?_
  obtain ⟨x20,hx20,h⟩:=J h
  refine a4 B B (eLCondition_eq _) hx20 B<|S B B (B:_=eCondition x20) ?_
  obtain ⟨x22,hx22,h⟩:=J h
  refine f1 B (ih_102 x20 _ hx22)<|f0 B<|b2 B B<|b2 B B<|D B<|D B<|F km6 fun _=>?_
  refine G<|D B<|D B<|a7 B B<|D B<|D B<|p3 B B<|D B<|D B<|F km4 fun _=>?_
  refine G<|D B<|a7 B B<|D B<|F km4 ?_
  cases h
  show Env.keep _ _=_
  rw [Ktv rfl (Ktv rfl (Ktv rfl (Ktv rfl (Knil _))))]
  rw [b6 (a5 (hw0 6)) hi0 (f5 (g0 (g1 (hw0 1)) (i:=1) rfl) (eLCondition_eq _))]
  all_goals rfl
 ·intro i0 s0 hi0
  refine E<|E<|G<|D B<|M B<|K B<|V B (eLCondition_eq _)<|X B B<|F km5 fun _=>?_
  refine b9 B (d2 hi0)<|b4 km3 ?_
  exact ⟨rfl,rfl⟩
 ·intro _
  refine E<|E<|G<|M B<|K B<|b5 B B<|F km3 fun _=>?_
  obtain ⟨w1,hw1,h⟩:=J h
  refine l1 (fun ze=>ze=[(4,.tv (eI s0.1)),(5,.tv (eI w1))]) ?_ ?_
  ·replace h:=hw1
   clear hw1
   refine U B (fun hc33=>?_) (fun hc33=>?_)
   ·replace h:=O hc33 h
    refine G<|D B<|a7 B B<|D B<|F km2 ?_
    cases h
    exact rfl
   ·replace h:=R hc33 h
    refine T km2 ?_
    cases h
    exact rfl
  rintro _ rfl
  intro _
  refine E<|G<|D B<|D B<|D B<|D B<|F km2 fun _=>?_
  refine L ?_
  cases h
  exact ⟨by decide,rfl⟩
theorem c102A:∀ n:Nat,(∀ (c:Condition) (r:(Int × Int)) (_:ref22_MeasureF n c=some r),Sound prog 102 [eCondition c] (.tp [eI r.1,eI r.2])):=by
  intro n
  induction n with
  | zero=>intro c r h; cases h
  | succ n ih=>exact c102S n ih
theorem c102 (c:Condition) (r:(Int × Int)) (h:ref22_Measure c=some r):Sound prog 102 [eCondition c] (.tp [eI r.1,eI r.2]):=by
  obtain ⟨N,hN⟩:=lim_some h
  exact (c102A N) c r (hN N (Nat.le_refl _))
theorem ck43:CK f43 (Rq [Af 1 0,Ad 2 0] [1]<|Sq (Rq [Ae 5 1 9,Av 6 101 5,Ba 7 6] [1,7]<|Co 7 (Rq [Ad 2 1] [2]<|.ret)<|Sk [1])<|Sq (Rq [Ae 9 1 9,Av 10 102 9,Aa 8 10,Ak 11 8 0,Ak 12 8 1,Aa 3 11,Aa 4 12] [3,4]<|Rq [Aa 13 3,Bf 14 13 12,Aa 15 14,Aw 16 4 15,Br 17 16 3 15,Ar 18 15 17] [18]<|Co 18 (Rq [Ad 2 3] [2]<|.ret)<|Sk [])<|Rq [Ad 2 0] [2]<|.ret) [.tmp 2]:= by decide +kernel
theorem c43 (c:Condition) (r:Int) (h:ref22_Shape c=some r):Sound prog 43 [eCondition c] (.sh (eI r)):= by
 refine Fn ck43 fun hw=>?_
 unfold ref22_Shape at h
 refine E<|G<|Y B B<|D B<|F km1 fun _=>?_
 refine E<|E<|G<|S B B (B:_=eCondition c) ?_
 obtain ⟨x6,hx6,h⟩:=J h
 refine W B (c101 c _ hx6)<|d3 B<|F km2 fun _=>?_
 refine U B (fun hc7=>?_) (fun hc7=>?_)
 ·replace h:=O hc7 h
  refine E<|G<|D B<|F km1 fun _=>?_
  exact L (by cases h;rfl)
 ·replace h:=R hc7 h
  refine T km1 fun _=>?_
  refine E<|E<|G<|S B B (B:_=eCondition c) ?_
  obtain ⟨x10,hx10,h⟩:=J h
  refine f1 B (c102 c _ hx10)<|f0 B<|b2 B B<|b2 B B<|D B<|D B<|F km2 fun _=>?_
  refine E<|G<|D B<|e8 B B<|D B ?_
  refine gO 3 [16,17] 18 (decide (12<x10.1)) (decide (3<x10.2)) (fun hg18=>?_) (fun hg18=>?_) ?_
  ·refine I B hg18<|I B hg18<|a2 B hg18 B ?_
   exact ⟨⟨_,_,B⟩⟩
  ·refine H B hg18<|D B<|H B hg18<|e8 B B<|a3 B hg18 B ?_
   exact ⟨⟨_,_,B⟩⟩
  rintro _ ⟨_,_,rfl⟩
  refine F km1 fun _=>?_
  refine U B (fun hc18=>?_) (fun hc18=>?_)
  ·replace h:=O hc18 h
   refine E<|G<|D B<|F km1 fun _=>?_
   exact L (by cases h;rfl)
  ·replace h:=R hc18 h
   refine T kn fun _=>?_
   refine E<|G<|D B<|F km1 fun _=>?_
   exact L (by cases h;rfl)
theorem ck168:CK f168 (Rq [Af 2 0,Aj 4] [1,2]<|Sq (Rq [Ad 5 0] [1,2,5]<|Bl 0<|Lo [1,2,5]<|Sq (Rq [Aa 6 5,Ac 7 2 2,Ab 8 7,Ag 9 8,Am 10 6 9] [1,2,5,10]<|Co 10 (Sk [1,2,5])<|Ex 0 [])<|Sq (Bl 1<|Rq [Ac 13 2 2,Ab 14 13,Aa 15 5,Ai 16 14 15 4,Ah 17 16 2,Ah 18 17 0,Ab 19 18,Aa 20 1,Cn 21 19 20] [1,2,5,21]<|Co 21 (Rq [Bu 4] [4]<|.ret)<|Sk [1,2,5])<|Re [Aa 11 5,Ao 12 11 1,Aa 5 12] [1,2,5])<|Rq [Aj 4] [4]<|.ret) [.tmp 4]:= by decide +kernel
theorem c168 (p:Pattern) (v_1:Int) (r:Bool) (h:ref22_occurs p v_1=some r):Sound prog 168 [ePattern p,eI v_1] (.sh (eB r)):= by
 refine Fn ck168 fun hw=>?_
 unfold ref22_occurs at h
 refine E<|G<|Y B B<|D B<|F km2 fun _=>?_
 refine E<|E<|G<|D B<|F km3 fun _=>?_
 obtain ⟨o0,ho0,h⟩:=d4 h
 refine e0 ho0 (fun (i0:Int) (_:Unit)=>[(1,.tv (eI v_1)),(2,.tv (.pt (ePattern p).cells)),(5,.tv (eI i0))]) (fun (_:Unit)=>[]) (fun zv ze=>resIs ([.tmp 4]) (.sh (eB zv)) ze) B ?_ ?_ ?_ ?_
 ·clear h ho0
  intro i0 s0 r0 hi0 h hw0
  refine E<|E<|G<|D B<|M B<|K B<|V B B<|X B B<|F km4 fun _=>?_
  refine d0 B (d1 hi0)<|T km3 fun _=>?_
  refine E<|a9<|E<|G<|M B<|K B<|D B ?_
  obtain ⟨x16,hx16,h⟩:=J h
  refine a4 B B B hx16 B<|b8 B<|b8 B<|K B<|D B<|b5 B B<|F km4 fun _=>?_
  refine U B (fun hc21=>?_) (fun hc21=>?_)
  ·replace h:=O hc21 h
   refine E<|G<|D B<|F km1 fun _=>?_
   refine L ?_
   cases h
   exact ⟨_,rfl,rfl⟩
  ·replace h:=R hc21 h
   refine T km3 fun _=>?_
   refine G<|D B<|a7 B B<|D B<|F km3 ?_
   cases h
   refine ⟨_,B,?_⟩
   rw [Ktv rfl (Ktv rfl (Ktv rfl (Knil _)))]
   rw [b6 (a5 (hw0 5)) hi0 (f5 (g0 (g1 (hw0 2)) (i:=2) rfl) rfl)]
   all_goals rfl
 ·intro i0 s0 hi0
  refine E<|E<|G<|D B<|M B<|K B<|V B B<|X B B<|F km4 fun _=>?_
  refine b9 B (d2 hi0)<|b4 kn ?_
  exact ⟨rfl,rfl⟩
 ·intro s0 hs
  replace h:=d5 h hs
  intro _
  refine E<|G<|D B<|F km1 fun _=>?_
  exact L (by cases h;rfl)
 ·intro v0 ze hv hR
  replace h:=d6 h hv
  cases h
  exact hR
theorem ck103:CK f103 (Rq [Af 3 0,Af 5 2,Ad 6 0] [1,3,5]<|Sq (Rq [Ac 9 5 3,Ab 10 9,Aa 11 1,Am 12 10 11] [1,3,5,12]<|Co 12 (Rq [Ad 6 20] [6]<|.ret)<|Sk [1,3,5])<|Rq [Ae 13 3 2,Ae 14 5 5,As 15 42 13 14,Aa 7 15] [1,5,7]<|Sq (Rq [Aa 16 7,Au 17 16 9] [1,5,7,17]<|Co 17 (Rq [Aa 18 7,Aa 6 18] [6]<|.ret)<|Sk [1,5,7])<|Sq (Rq [Aa 19 1,Aa 8 19] [5,7,8]<|Bl 0<|Lo [5,7,8]<|Sq (Rq [Aa 20 8,Ac 21 5 3,Ab 22 21,Am 23 20 22] [5,7,8,23]<|Co 23 (Sk [5,7,8])<|Ex 0 [])<|Sq (Bl 1<|Rq [Ae 26 5 5,Aa 27 8,As 28 168 26 27,Ba 29 28] [5,7,8,29]<|Co 29 (Rq [Aa 30 7,Aa 6 30] [6]<|.ret)<|Sk [5,7,8])<|Re [Aa 24 8,Ao 25 24 1,Aa 8 25] [5,7,8])<|Rq [Ad 6 0] [6]<|.ret) [.tmp 6]:= by decide +kernel
theorem c103 (t:Types) (vars:Int) (q:Pattern) (r:Int) (h:ref22_inner t vars q=some r):Sound prog 103 [eTypes t,eI vars,ePattern q] (.sh (eI r)):= by
 refine Fn ck103 fun hw=>?_
 unfold ref22_inner at h
 refine E<|G<|Y B B<|Y B B<|D B<|F km3 fun _=>?_
 refine E<|E<|G<|M B<|K B<|D B<|X B B<|F km4 fun _=>?_
 refine U B (fun hc12=>?_) (fun hc12=>?_)
 ·replace h:=O hc12 h
  refine E<|G<|D B<|F km1 fun _=>?_
  exact L (by cases h;rfl)
 ·replace h:=R hc12 h
  refine T km3 fun _=>?_
  refine E<|G<|S B B (B:_=eTypes t)<|S B B (B:_=ePattern q) ?_
  obtain ⟨x15,hx15,h⟩:=J h
  refine W B (c42 t q _ hx15)<|D B<|F km3 fun _=>?_
  refine E<|E<|G<|D B<|a8 B B<|F km4 fun _=>?_
  refine U B (fun hc17=>?_) (fun hc17=>?_)
  ·replace h:=O hc17 h
   refine E<|G<|D B<|D B<|F km1 fun _=>?_
   exact L (by cases h;rfl)
  ·replace h:=R hc17 h
   refine T km3 fun _=>?_
   refine E<|E<|G<|D B<|D B<|F km3 fun _=>?_
   obtain ⟨o0,ho0,h⟩:=d4 h
   refine e0 ho0 (fun (i0:Int) (_:Unit)=>[(5,.tv (.pt (ePattern q).cells)),(7,.tv (eI x15)),(8,.tv (eI i0))]) (fun (_:Unit)=>[]) (fun zv ze=>resIs ([.tmp 6]) (.sh (eI zv)) ze) B ?_ ?_ ?_ ?_
   ·clear h ho0
    intro i0 s0 r0 hi0 h hw0
    refine E<|E<|G<|D B<|M B<|K B<|X B B<|F km4 fun _=>?_
    refine d0 B (d1 hi0)<|T km3 fun _=>?_
    refine E<|a9<|E<|G<|S B B (B:_=ePattern q)<|D B ?_
    obtain ⟨x28,hx28,h⟩:=J h
    refine W B (c168 q i0 _ hx28)<|d3 B<|F km4 fun _=>?_
    refine U B (fun hc29=>?_) (fun hc29=>?_)
    ·replace h:=O hc29 h
     refine E<|G<|D B<|D B<|F km1 fun _=>?_
     refine L ?_
     cases h
     exact ⟨_,rfl,rfl⟩
    ·replace h:=R hc29 h
     refine T km3 fun _=>?_
     refine G<|D B<|a7 B B<|D B<|F km3 ?_
     cases h
     refine ⟨_,B,?_⟩
     rw [Ktv rfl (Ktv rfl (Ktv rfl (Knil _)))]
     rw [b6 (a5 (hw0 8)) hi0 (e1 (g0 (g1 (hw0 5)) (i:=3) rfl))]
     all_goals rfl
   ·intro i0 s0 hi0
    refine E<|E<|G<|D B<|M B<|K B<|X B B<|F km4 fun _=>?_
    refine b9 B (d2 hi0)<|b4 kn ?_
    exact ⟨rfl,rfl⟩
   ·intro s0 hs
    replace h:=d5 h hs
    intro _
    refine E<|G<|D B<|F km1 fun _=>?_
    exact L (by cases h;rfl)
   ·intro v0 ze hv hR
    replace h:=d6 h hv
    cases h
    exact hR
theorem ck104:CK f104 (Rq [Af 3 0,Af 4 1,Af 5 2,Ad 6 0] [3,4,5]<|Sq (Rq [Ae 13 3 2,Av 14 95 13,Aa 7 14] [3,4,5,7]<|Rq [Aa 15 7,Au 16 15 0] [3,4,5,7,16]<|Co 16 (Rq [Aa 17 7,Aa 6 17] [6]<|.ret)<|Sk [3,4,5])<|Sq (Rq [Ae 18 4 2,Av 19 95 18,Aa 8 19] [3,4,5,8]<|Rq [Aa 20 8,Au 21 20 0] [3,4,5,8,21]<|Co 21 (Rq [Aa 22 8,Aa 6 22] [6]<|.ret)<|Sk [3,4,5])<|Sq (Rq [Ac 23 5 0,Ab 24 23,Ag 25 24,Ac 26 3 0,Ab 27 26,Ag 28 27,Bj 29 25 28,Aa 30 29,Ap 31 5 1 30,An 32 31 30,Be 33 32 30,Ap 34 3 1 30,An 35 34 30,Be 36 35 30,Ck 37 33 36 30,Ar 38 30 37] [3,4,5,38]<|Co 38 (Rq [Ad 6 20] [6]<|.ret)<|Sk [3,4,5])<|Sq (Rq [Ad 9 0] [3,4,5,9]<|Bl 0<|Lo [3,4,5,9]<|Sq (Rq [Aa 39 9,Ac 40 3 0,Ab 41 40,Ag 42 41,Am 43 39 42] [3,4,5,9,43]<|Co 43 (Sk [3,4,5,9])<|Ex 0 [3,4,5])<|Sq (Bl 1<|Sq (Sq (Dr [46,47,48,49,50,51,52,53,54,55,56,57,58,59,60,61,62] [Ac 46 5 0,Ab 47 46,Aa 48 9,Ai 49 47 48 1,Ab 50 49,Bs 51 50 0,Aa 52 51,Ap 53 5 0 52,An 54 53 52,Aw 55 9 52,Bw 56 54 55 1 52,An 57 56 52,Ap 58 4 0 52,An 59 58 52,Be 60 59 52,Bp 61 57 60 52,Ar 62 52 61] [3,4,5,9,62])<|Co 62 (Rq [Ad 6 6] [6]<|.ret)<|Sk [3,4,5,9])<|Sq (Dr [63,64,65,66,67,68,69,70,71,72,73,74,75,76,77] [Ac 63 4 0,Ab 64 63,Ac 65 5 0,Ab 66 65,Aa 67 9,Ai 68 66 67 1,Ab 69 68,Ai 70 64 69 1,Ab 71 70,Ac 72 3 0,Ab 73 72,Aa 74 9,Ai 75 73 74 1,Ab 76 75,Bj 77 71 76] [3,4,5,9,77])<|Co 77 (Rq [Ad 6 13] [6]<|.ret)<|Sk [3,4,5,9])<|Re [Aa 44 9,Ao 45 44 1,Aa 9 45] [3,4,5,9])<|Sq (Rq [Ad 10 0] [3,4,5,10]<|Bl 2<|Lo [3,4,5,10]<|Sq (Rq [Aa 78 10,Ac 79 3 1,Ab 80 79,Ag 81 80,Am 82 78 81] [3,4,5,10,82]<|Co 82 (Sk [3,4,5,10])<|Ex 2 [])<|Sq (Bl 3<|Sq (Sq (Dr [85,86,87,88,89,90,91,92,93,94,95,96,97,98,99,100,101] [Ac 85 5 1,Ab 86 85,Aa 87 10,Ai 88 86 87 1,Ab 89 88,Bs 90 89 0,Aa 91 90,Ap 92 5 1 91,An 93 92 91,Aw 94 10 91,Bw 95 93 94 1 91,An 96 95 91,Ap 97 4 1 91,An 98 97 91,Be 99 98 91,Bp 100 96 99 91,Ar 101 91 100] [3,4,5,10,101])<|Co 101 (Rq [Ad 6 6] [6]<|.ret)<|Sk [3,4,5,10])<|Sq (Dr [11,12,102,103,104,105,106,107,108,109,110,111,112,113,114,115] [Ac 102 3 1,Ab 103 102,Aa 104 10,Ai 105 103 104 3,Ae 106 105 3,Ac 107 4 1,Ab 108 107,Ac 109 5 1,Ab 110 109,Aa 111 10,Ai 112 110 111 1,Ab 113 112,Ai 114 108 113 3,Ae 115 114 3,Cl 11 0 0 0,Cl 12 0 0 0,Al 3 11 106,Al 3 12 115] [3,4,5,10,11,12])<|Sq (Rq [Ac 116 11 0,Ab 117 116,Ac 118 12 0,Ab 119 118,Bj 120 117 119] [3,4,5,10,11,12,120]<|Co 120 (Rq [Ad 6 13] [6]<|.ret)<|Sk [3,4,5,10,11,12])<|Sq (Dr [121,122,123,124,125,126,127,128,129,130,131,132,133,134,135,136,137,138,139,140] [Ac 121 5 0,Ab 122 121,Ac 123 11 1,Ab 124 123,Ai 125 122 124 1,Ab 126 125,Ac 127 12 1,Ab 128 127,Bj 129 126 128,Aa 130 129,Ap 131 5 0 130,An 132 131 130,Ap 133 11 2 130,An 134 133 130,Bw 135 132 134 1 130,An 136 135 130,Ap 137 12 2 130,An 138 137 130,Ck 139 136 138 130,Ar 140 130 139] [3,4,5,10,140])<|Co 140 (Rq [Ad 6 11] [6]<|.ret)<|Sk [3,4,5,10])<|Re [Aa 83 10,Ao 84 83 1,Aa 10 84] [3,4,5,10])<|Rq [Ad 6 0] [6]<|.ret) [.tmp 6]:= by decide +kernel
theorem c104 (a:Graph) (b:Graph) (m:Morphism) (r:Int) (h:ref06_Valid a b m=some r):Sound prog 104 [eGraph a,eGraph b,eMorphism m] (.sh (eI r)):= by
 refine Fn ck104 fun hw=>?_
 unfold ref06_Valid at h
 refine E<|G<|Y B B<|Y B B<|Y B B<|D B<|F km3 fun _=>?_
 refine E<|E<|G<|S B B (B:_=eGraph a) ?_
 obtain ⟨x14,hx14,h⟩:=J h
 refine W B (c95 a _ hx14)<|D B<|F km4 fun _=>?_
 refine E<|G<|D B<|a8 B B<|F km5 fun _=>?_
 refine U B (fun hc16=>?_) (fun hc16=>?_)
 ·replace h:=O hc16 h
  refine E<|G<|D B<|D B<|F km1 fun _=>?_
  exact L (by cases h;rfl)
 ·replace h:=R hc16 h
  refine T km3 fun _=>?_
  refine E<|E<|G<|S B B (B:_=eGraph b) ?_
  obtain ⟨x19,hx19,h⟩:=J h
  refine W B (c95 b _ hx19)<|D B<|F km4 fun _=>?_
  refine E<|G<|D B<|a8 B B<|F km5 fun _=>?_
  refine U B (fun hc21=>?_) (fun hc21=>?_)
  ·replace h:=O hc21 h
   refine E<|G<|D B<|D B<|F km1 fun _=>?_
   exact L (by cases h;rfl)
  ·replace h:=R hc21 h
   refine T km3 fun _=>?_
   refine E<|E<|G<|M B<|K B<|V B B<|M B<|K B<|V B B<|a8 B B<|D B ?_
   refine gO 8 [31,32,33,34,35,36,37] 38 (!decide ((m.Nodes.length:Int)=(a.Nodes.length:Int))) (!decide ((m.Edges.length:Int)=(a.Edges.length:Int))) (fun hg38=>?_) (fun hg38=>?_) ?_
   ·refine I B hg38<|I B hg38<|I B hg38<|I B hg38<|I B hg38<|I B hg38<|I B hg38<|a2 B hg38 B ?_
    exact ⟨⟨_,_,_,_,_,_,_,B⟩⟩
   ·refine H B hg38<|M B<|H B hg38<|K B<|H B hg38<|V B B<|H B hg38<|M B<|H B hg38<|K B<|H B hg38<|V B B<|H B hg38<|a8 B B<|a3 B hg38 B ?_
    exact ⟨⟨_,_,_,_,_,_,_,B⟩⟩
   rintro _ ⟨_,_,_,_,_,_,_,rfl⟩
   refine F km4 fun _=>?_
   refine U B (fun hc38=>?_) (fun hc38=>?_)
   ·replace h:=O hc38 h
    refine E<|G<|D B<|F km1 fun _=>?_
    exact L (by cases h;rfl)
   ·replace h:=R hc38 h
    refine T km3 fun _=>?_
    refine E<|E<|G<|D B<|F km4 fun _=>?_
    obtain ⟨o0,ho0,h⟩:=d4 h
    refine e0 ho0 (fun (i0:Int) (_:Unit)=>[(3,.tv (.pt (eGraph a).cells)),(4,.tv (.pt (eGraph b).cells)),(5,.tv (.pt (eMorphism m).cells)),(9,.tv (eI i0))]) (fun (_:Unit)=>[(3,.tv (.pt (eGraph a).cells)),(4,.tv (.pt (eGraph b).cells)),(5,.tv (.pt (eMorphism m).cells))]) (fun zv ze=>resIs ([.tmp 6]) (.sh (eI zv)) ze) B ?_ ?_ ?_ ?_
    ·clear h ho0
     intro i0 s0 r0 hi0 h hw0
     refine E<|E<|G<|D B<|M B<|K B<|V B B<|X B B<|F km5 fun _=>?_
     refine d0 B (d1 hi0)<|T km4 fun _=>?_
     refine E<|a9<|E<|E<|e2 B<|M B<|K B<|D B ?_
     obtain ⟨x49,hx49,h⟩:=J h
     refine a4 B B B hx49 B<|K B<|X B B<|D B ?_
     obtain ⟨x62,hx62,h⟩:=J h
     refine gX 10 [53,54,55,56,57,58,59,60,61] 62 x62 (decide (x49<0)) (fun hg62=>?_) (fun hg62=>?_) ?_
     ·replace h:=O hg62 hx62
      cases h
      refine I B hg62<|I B hg62<|I B hg62<|I B hg62<|I B hg62<|I B hg62<|I B hg62<|I B hg62<|I B hg62<|a2 B hg62 B ?_
      exact ⟨⟨_,_,_,_,_,_,_,_,_,B⟩⟩
     ·replace h:=R hg62 hx62
      refine H B hg62<|M B<|H B hg62<|K B<|H B hg62<|D B ?_
      obtain ⟨x56,hx56,h⟩:=J h
      refine H B hg62<|a4 B B B hx56 B<|H B hg62<|K B<|H B hg62<|M B<|H B hg62<|K B<|H B hg62<|V B B<|H B hg62<|d9 B B ?_
      cases h
      refine a3 B hg62 B ?_
      exact ⟨⟨_,_,_,_,_,_,_,_,_,B⟩⟩
     rintro _ ⟨_,_,_,_,_,_,_,_,_,rfl⟩
     refine F km5 fun _=>?_
     refine U B (fun hc62=>?_) (fun hc62=>?_)
     ·replace h:=O hc62 h
      refine E<|G<|D B<|F km1 fun _=>?_
      refine L ?_
      cases h
      exact ⟨_,rfl,rfl⟩
     ·replace h:=R hc62 h
      refine T km4 fun _=>?_
      refine E<|e2 B<|M B<|K B<|M B<|K B<|D B ?_
      obtain ⟨x68,hx68,h⟩:=J h
      refine a4 B B B hx68 B<|K B ?_
      obtain ⟨x70,hx70,h⟩:=J h
      refine a4 B B B hx70 B<|K B<|M B<|K B<|D B ?_
      obtain ⟨x75,hx75,h⟩:=J h
      refine a4 B B B hx75 B<|K B<|a8 B B<|F km5 fun _=>?_
      refine U B (fun hc77=>?_) (fun hc77=>?_)
      ·replace h:=O hc77 h
       refine E<|G<|D B<|F km1 fun _=>?_
       refine L ?_
       cases h
       exact ⟨_,rfl,rfl⟩
      ·replace h:=R hc77 h
       refine T km4 fun _=>?_
       refine G<|D B<|a7 B B<|D B<|F km4 ?_
       cases h
       refine ⟨_,B,?_⟩
       rw [Ktv rfl (Ktv rfl (Ktv rfl (Ktv rfl (Knil _))))]
       rw [b6 (a5 (hw0 9)) hi0 (f5 (g0 (g1 (hw0 3)) (i:=0) rfl) rfl)]
       all_goals rfl
    ·intro i0 s0 hi0
     refine E<|E<|G<|D B<|M B<|K B<|V B B<|X B B<|F km5 fun _=>?_
     refine b9 B (d2 hi0)<|b4 km3 ?_
     exact ⟨rfl,rfl⟩
    ·intro s0 hs
     replace h:=d5 h hs
     intro _
     refine E<|E<|G<|D B<|F km4 fun _=>?_
     obtain ⟨o2,ho2,h⟩:=d4 h
     refine e0 ho2 (fun (i2:Int) (_:Unit)=>[(3,.tv (.pt (eGraph a).cells)),(4,.tv (.pt (eGraph b).cells)),(5,.tv (.pt (eMorphism m).cells)),(10,.tv (eI i2))]) (fun (_:Unit)=>[]) (fun zv ze=>resIs ([.tmp 6]) (.sh (eI zv)) ze) B ?_ ?_ ?_ ?_
     ·clear h ho2
      intro i2 s2 r2 hi2 h hw2
      refine E<|E<|G<|D B<|M B<|K B<|V B B<|X B B<|F km5 fun _=>?_
      refine d0 B (d1 hi2)<|T km4 fun _=>?_
      refine E<|a9<|E<|E<|e2 B<|M B<|K B<|D B ?_
      obtain ⟨x88,hx88,h⟩:=J h
      refine a4 B B B hx88 B<|K B<|X B B<|D B ?_
      obtain ⟨x101,hx101,h⟩:=J h
      refine gX 10 [92,93,94,95,96,97,98,99,100] 101 x101 (decide (x88<0)) (fun hg101=>?_) (fun hg101=>?_) ?_
      ·replace h:=O hg101 hx101
       cases h
       refine I B hg101<|I B hg101<|I B hg101<|I B hg101<|I B hg101<|I B hg101<|I B hg101<|I B hg101<|I B hg101<|a2 B hg101 B ?_
       exact ⟨⟨_,_,_,_,_,_,_,_,_,B⟩⟩
      ·replace h:=R hg101 hx101
       refine H B hg101<|M B<|H B hg101<|K B<|H B hg101<|D B ?_
       obtain ⟨x95,hx95,h⟩:=J h
       refine H B hg101<|a4 B B B hx95 B<|H B hg101<|K B<|H B hg101<|M B<|H B hg101<|K B<|H B hg101<|V B B<|H B hg101<|d9 B B ?_
       cases h
       refine a3 B hg101 B ?_
       exact ⟨⟨_,_,_,_,_,_,_,_,_,B⟩⟩
      rintro _ ⟨_,_,_,_,_,_,_,_,_,rfl⟩
      refine F km5 fun _=>?_
      refine U B (fun hc101=>?_) (fun hc101=>?_)
      ·replace h:=O hc101 h
       refine E<|G<|D B<|F km1 fun _=>?_
       refine L ?_
       cases h
       exact ⟨_,rfl,rfl⟩
      ·replace h:=R hc101 h
       refine T km4 fun _=>?_
       refine E<|e2 B<|M B<|K B<|D B ?_
       obtain ⟨x105,hx105,h⟩:=J h
       refine a4 B B B hx105 B<|S B B (B:_=eEdge x105)<|M B<|K B<|M B<|K B<|D B ?_
       obtain ⟨x112,hx112,h⟩:=J h
       refine a4 B B B hx112 B<|K B ?_
       obtain ⟨x114,hx114,h⟩:=J h
       refine a4 B B B hx114 B<|S B B (B:_=eEdge x114)<|d8 B<|d8 B<|b3 B B B B B<|b3 B B B B B<|F (kt<|kt<|kt<|kt<|kb<|kb<|kn) fun _=>?_
       refine E<|E<|G<|a6 B<|K B<|a6 B<|K B<|a8 B B<|F (kt<|kt<|kt<|kt<|kb<|kb<|kt<|kn) fun _=>?_
       refine U B (fun hc120=>?_) (fun hc120=>?_)
       ·replace h:=O hc120 h
        refine E<|G<|D B<|F km1 fun _=>?_
        refine L ?_
        cases h
        exact ⟨_,rfl,rfl⟩
       ·replace h:=R hc120 h
        refine T (kt<|kt<|kt<|kt<|kb<|kb<|kn) fun _=>?_
        refine E<|e2 B<|M B<|K B<|a6 B<|K B ?_
        obtain ⟨x125,hx125,h⟩:=J h
        refine a4 B B B hx125 B<|K B<|a6 B<|K B<|a8 B B<|D B ?_
        obtain ⟨x140,hx140,h⟩:=J h
        refine gX 10 [131,132,133,134,135,136,137,138,139] 140 x140 (!decide (x125=x114.From)) (fun hg140=>?_) (fun hg140=>?_) ?_
        ·replace h:=O hg140 hx140
         cases h
         refine I B hg140<|I B hg140<|I B hg140<|I B hg140<|I B hg140<|I B hg140<|I B hg140<|I B hg140<|I B hg140<|a2 B hg140 B ?_
         exact ⟨⟨_,_,_,_,_,_,_,_,_,B⟩⟩
        ·replace h:=R hg140 hx140
         refine H B hg140<|M B<|H B hg140<|K B<|H B hg140<|a6 B<|H B hg140<|K B ?_
         obtain ⟨x135,hx135,h⟩:=J h
         refine H B hg140<|a4 B B B hx135 B<|H B hg140<|K B<|H B hg140<|a6 B<|H B hg140<|K B<|H B hg140<|a8 B B ?_
         cases h
         refine a3 B hg140 B ?_
         exact ⟨⟨_,_,_,_,_,_,_,_,_,B⟩⟩
        rintro _ ⟨_,_,_,_,_,_,_,_,_,rfl⟩
        refine F km5 fun _=>?_
        refine U B (fun hc140=>?_) (fun hc140=>?_)
        ·replace h:=O hc140 h
         refine E<|G<|D B<|F km1 fun _=>?_
         refine L ?_
         cases h
         exact ⟨_,rfl,rfl⟩
        ·replace h:=R hc140 h
         refine T km4 fun _=>?_
         refine G<|D B<|a7 B B<|D B<|F km4 ?_
         cases h
         refine ⟨_,B,?_⟩
         rw [Ktv rfl (Ktv rfl (Ktv rfl (Ktv rfl (Knil _))))]
         rw [b6 (a5 (hw2 10)) hi2 (f5 (g0 (g1 (hw2 3)) (i:=1) rfl) rfl)]
         all_goals rfl
     ·intro i2 s2 hi2
      refine E<|E<|G<|D B<|M B<|K B<|V B B<|X B B<|F km5 fun _=>?_
      refine b9 B (d2 hi2)<|b4 kn ?_
      exact ⟨rfl,rfl⟩
     ·intro s2 hs
      replace h:=d5 h hs
      intro _
      refine E<|G<|D B<|F km1 fun _=>?_
      exact L (by cases h;rfl)
     ·intro v2 ze hv hR
      replace h:=d6 h hv
      cases h
      exact hR
    ·intro v0 ze hv hR
     replace h:=d6 h hv
     cases h
     exact hR
theorem ck169:CK f169 (Rq [Aj 2] [0]<|Sq (Rq [Ad 3 0] [0,3]<|Bl 0<|Lo [0,3]<|Sq (Rq [Aa 5 3,Aa 6 0,Ag 7 6,Am 8 5 7] [0,3,8]<|Co 8 (Sk [0,3])<|Ex 0 [])<|Sq (Bl 1<|Rq [Ad 4 0] [0,3,4]<|Bl 2<|Lo [0,3,4]<|Sq (Rq [Aa 11 4,Aa 12 3,Am 13 11 12] [0,3,4,13]<|Co 13 (Sk [0,3,4])<|Ex 2 [0,3])<|Sq (Bl 3<|Sq (Dr [16,17,18,19,20,21,22,23,24] [Aa 16 0,Aa 17 3,Ai 18 16 17 1,Ab 19 18,Aa 20 0,Aa 21 4,Ai 22 20 21 1,Ab 23 22,Cn 24 19 23] [0,3,4,24])<|Co 24 (Rq [Aj 2] [2]<|.ret)<|Sk [0,3,4])<|Re [Aa 14 4,Ao 15 14 1,Aa 4 15] [0,3,4])<|Re [Aa 9 3,Ao 10 9 1,Aa 3 10] [0,3])<|Rq [Bu 2] [2]<|.ret) [.tmp 2]:= by decide +kernel
theorem c169 (l:List Int) (r:Bool) (h:ref06_Distinct l=some r):Sound prog 169 [lI l] (.sh (eB r)):= by
 refine Fn ck169 fun hw=>?_
 unfold ref06_Distinct at h
 refine E<|G<|D B<|F km1 fun _=>?_
 refine E<|E<|G<|D B<|F km2 fun _=>?_
 obtain ⟨o0,ho0,h⟩:=d4 h
 refine e0 ho0 (fun (i0:Int) (_:Unit)=>[(0,.tv (lI l)),(3,.tv (eI i0))]) (fun (_:Unit)=>[]) (fun zv ze=>resIs ([.tmp 2]) (.sh (eB zv)) ze) B ?_ ?_ ?_ ?_
 ·clear h ho0
  intro i0 s0 r0 hi0 h hw0
  refine E<|E<|G<|D B<|D B<|V B B<|X B B<|F km3 fun _=>?_
  refine d0 B (d1 hi0)<|T km2 fun _=>?_
  refine E<|a9<|E<|G<|D B<|F km3 fun _=>?_
  obtain ⟨o2,ho2,h⟩:=d4 h
  refine e0 ho2 (fun (i2:Int) (_:Unit)=>[(0,.tv (lI l)),(3,.tv (eI i0)),(4,.tv (eI i2))]) (fun (_:Unit)=>[(0,.tv (lI l)),(3,.tv (eI i0))]) (fun zv ze=>resIs ([.tmp 2]) (.sh (eB zv)) ze) B ?_ ?_ ?_ ?_
  ·clear h ho2
   intro i2 s2 r2 hi2 h hw2
   refine E<|E<|G<|D B<|D B<|X B B<|F km4 fun _=>?_
   refine d0 B (d1 hi2)<|T km3 fun _=>?_
   refine E<|a9<|E<|e2 B<|D B<|D B ?_
   obtain ⟨x18,hx18,h⟩:=J h
   refine a4 B B B hx18 B<|K B<|D B<|D B ?_
   obtain ⟨x22,hx22,h⟩:=J h
   refine a4 B B B hx22 B<|K B<|b5 B B<|F km4 fun _=>?_
   refine U B (fun hc24=>?_) (fun hc24=>?_)
   ·replace h:=O hc24 h
    refine E<|G<|D B<|F km1 fun _=>?_
    refine L ?_
    cases h
    exact ⟨_,rfl,rfl⟩
   ·replace h:=R hc24 h
    refine T km3 fun _=>?_
    refine G<|D B<|a7 B B<|D B<|F km3 ?_
    cases h
    refine ⟨_,B,?_⟩
    rw [Ktv rfl (Ktv rfl (Ktv rfl (Knil _)))]
    rw [b6 (a5 (hw2 4)) hi2 (e1 (a5 (hw2 3)))]
    all_goals rfl
  ·intro i2 s2 hi2
   refine E<|E<|G<|D B<|D B<|X B B<|F km4 fun _=>?_
   refine b9 B (d2 hi2)<|b4 km2 ?_
   exact ⟨rfl,rfl⟩
  ·intro s2 hs
   replace h:=d5 h hs
   intro _
   refine G<|D B<|a7 B B<|D B<|F km2 ?_
   cases h
   refine ⟨_,B,?_⟩
   rw [Ktv rfl (Ktv rfl (Knil _))]
   rw [b6 (a5 (hw0 3)) hi0 (f5 (a5 (hw0 0)) rfl)]
   all_goals rfl
  ·intro v2 ze hv hR
   replace h:=d6 h hv
   cases h
   exact ⟨_,rfl,hR⟩
 ·intro i0 s0 hi0
  refine E<|E<|G<|D B<|D B<|V B B<|X B B<|F km3 fun _=>?_
  refine b9 B (d2 hi0)<|b4 kn ?_
  exact ⟨rfl,rfl⟩
 ·intro s0 hs
  replace h:=d5 h hs
  intro _
  refine E<|G<|D B<|F km1 fun _=>?_
  exact L (by cases h;rfl)
 ·intro v0 ze hv hR
  replace h:=d6 h hv
  cases h
  exact hR
theorem ck105:CK f105 (Rq [Af 3 0,Af 4 1,Af 5 2,Aj 6] [3,4,5]<|Rq [Ae 7 3 2,Ae 8 4 2,Ae 9 5 2,Bd 10 104 7 8 9,Az 11 10 0,Aa 12 11,Ax 13 5 0 12,Ay 14 13 12,Bt 15 169 14 12,Aq 16 12 15,Aa 17 16,Ax 18 5 1 17,Ay 19 18 17,Bt 20 169 19 17,Aq 21 17 20,Aa 6 21] [6]<|.ret) [.tmp 6]:= by decide +kernel
theorem c105 (a:Graph) (b:Graph) (m:Morphism) (r:Bool) (h:ref06_Injective a b m=some r):Sound prog 105 [eGraph a,eGraph b,eMorphism m] (.sh (eB r)):= by
 refine Fn ck105 fun hw=>?_
 unfold ref06_Injective at h
 refine E<|G<|Y B B<|Y B B<|Y B B<|D B<|F km3 fun _=>?_
 refine E<|G<|S B B (B:_=eGraph a)<|S B B (B:_=eGraph b)<|S B B (B:_=eMorphism m) ?_
 obtain ⟨x10,hx10,h⟩:=J h
 refine W B (c104 a b m _ hx10)<|b5 B B<|D B ?_
 obtain ⟨x16,hx16,h⟩:=J h
 refine gX 4 [13,14,15] 16 x16 (decide (x10=0)) (fun hg16=>?_) (fun hg16=>?_) ?_
 ·replace h:=O hg16 hx16
  refine H B hg16<|M B<|H B hg16<|K B ?_
  obtain ⟨x15,hx15,h⟩:=J h
  refine H B hg16<|W B (c169 m.Nodes _ hx15) ?_
  cases h
  refine a2 B hg16 B ?_
  exact ⟨⟨_,_,_,B⟩⟩
 ·replace h:=R hg16 hx16
  cases h
  refine I B hg16<|I B hg16<|I B hg16<|a3 B hg16 B ?_
  exact ⟨⟨_,_,_,B⟩⟩
 rintro _ ⟨_,_,_,rfl⟩
 refine D B ?_
 obtain ⟨x21,hx21,h⟩:=J h
 refine gX 4 [18,19,20] 21 x21 x16 (fun hg21=>?_) (fun hg21=>?_) ?_
 ·replace h:=O hg21 hx21
  refine H B hg21<|M B<|H B hg21<|K B ?_
  obtain ⟨x20,hx20,h⟩:=J h
  refine H B hg21<|W B (c169 m.Edges _ hx20) ?_
  cases h
  refine a2 B hg21 B ?_
  exact ⟨⟨_,_,_,B⟩⟩
 ·replace h:=R hg21 hx21
  cases h
  refine I B hg21<|I B hg21<|I B hg21<|a3 B hg21 B ?_
  exact ⟨⟨_,_,_,B⟩⟩
 rintro _ ⟨_,_,_,rfl⟩
 refine D B<|F km1 fun _=>?_
 exact L (by cases h;rfl)
theorem ck44:CK f44 (Rq [Af 3 0,Af 4 1,Af 5 2,Ad 6 0] [3,4,5]<|Rq [Ae 12 4 5,Ee 7 1 3 4 0 5,Al 5 7 12] [3,4,5,7]<|Sq (Rq [Ac 13 5 0,Ab 14 13,Az 15 14 5] [3,4,5,7,15]<|Co 15 (Sq (Rq [Ae 16 3 2,Ac 17 4 3,Ab 18 17,Ac 19 5 4,Ae 20 19 5,Bd 21 103 16 18 20,Aa 8 21] [3,4,5,7,8]<|Rq [Aa 22 8,Au 23 22 0] [3,4,5,7,8,23]<|Co 23 (Rq [Aa 24 8,Aa 6 24] [6]<|.ret)<|Sk [3,4,5,7])<|Sq (Rq [Ac 25 4 0,Ae 26 25 2,Ac 27 5 4,Ah 28 27 0,Ae 29 28 2,Ac 30 5 2,Ae 31 30 2,Bd 32 104 26 29 31,Aa 9 32] [3,4,5,7,9]<|Rq [Aa 33 9,Au 34 33 0] [3,4,5,7,9,34]<|Co 34 (Rq [Aa 35 9,Aa 6 35] [6]<|.ret)<|Sk [3,4,5,7])<|Sq (Rq [Ac 36 4 0,Ae 37 36 2,Ac 38 5 4,Ah 39 38 0,Ae 40 39 2,Ac 41 5 2,Ae 42 41 2,Bd 43 105 37 40 42,Ba 44 43] [3,5,7,44]<|Co 44 (Rq [Ad 6 1] [6]<|.ret)<|Sk [3,5,7])<|Re [Ac 45 5 4,Ae 46 45 5,Al 5 7 46] [3,5,7])<|Sk [3,5,7])<|Sq (Rq [Ad 10 0] [3,5,7,10]<|Bl 0<|Lo [3,5,7,10]<|Sq (Rq [Aa 47 10,Ac 48 5 1,Ab 49 48,Ag 50 49,Am 51 47 50] [3,5,7,10,51]<|Co 51 (Sk [3,5,7,10])<|Ex 0 [])<|Sq (Bl 1<|Sq (Dr [11,54,55,56,57,58,59,60,61] [Ae 54 3 2,Ae 55 7 5,Ac 56 5 1,Ab 57 56,Aa 58 10,Ai 59 57 58 9,Ae 60 59 9,Bd 61 44 54 55 60,Aa 11 61] [3,5,7,10,11])<|Rq [Aa 62 11,Au 63 62 0] [3,5,7,10,11,63]<|Co 63 (Rq [Aa 64 11,Aa 6 64] [6]<|.ret)<|Sk [3,5,7,10])<|Re [Aa 52 10,Ao 53 52 1,Aa 10 53] [3,5,7,10])<|Rq [Ad 6 0] [6]<|.ret) [.tmp 6]:= by decide +kernel
theorem c44S (n:Nat) (ih_44:∀ (t:Types) (p:Pattern) (c:Condition) (r:Int) (_:ref22_overF n t p c=some r),Sound prog 44 [eTypes t,ePattern p,eCondition c] (.sh (eI r))):∀ (t:Types) (p:Pattern) (c:Condition) (r:Int) (_:ref22_overF (n+1) t p c=some r),Sound prog 44 [eTypes t,ePattern p,eCondition c] (.sh (eI r)):= by
 intro t p c r h
 refine Fn ck44 fun hw=>?_
 unfold ref22_overF at h
 refine E<|G<|Y B B<|Y B B<|Y B B<|D B<|F km3 fun _=>?_
 refine E<|G<|S B B (B:_=ePattern p)<|d8 B<|b3 B B B B B<|F (kt<|kt<|kt<|kb<|kn) fun _=>?_
 refine E<|E<|G<|M B<|K B<|b5 B B<|F (kt<|kt<|kt<|kb<|kt<|kn) fun _=>?_
 refine U B (fun hc15=>?_) (fun hc15=>?_)
 ·replace h:=O hc15 h
  refine E<|E<|G<|S B B (B:_=eTypes t)<|M B<|K B<|M B<|S B B (B:_=ePattern c.Pattern) ?_
  obtain ⟨x21,hx21,h⟩:=J h
  refine W B (c103 t p.Vars c.Pattern _ hx21)<|D B<|F (kt<|kt<|kt<|kb<|kt<|kn) fun _=>?_
  refine E<|G<|D B<|a8 B B<|F (kt<|kt<|kt<|kb<|kt<|kt<|kn) fun _=>?_
  refine U B (fun hc23=>?_) (fun hc23=>?_)
  ·replace h:=O hc23 h
   refine E<|G<|D B<|D B<|F km1 fun _=>?_
   exact L (by cases h;rfl)
  ·replace h:=R hc23 h
   refine T (kt<|kt<|kt<|kb<|kn) fun _=>?_
   refine E<|E<|G<|M B<|S B B (B:_=eGraph p.Graph)<|M B<|b8 B<|S B B (B:_=eGraph c.Pattern.Graph)<|M B<|S B B (B:_=eMorphism c.Map) ?_
   obtain ⟨x32,hx32,h⟩:=J h
   refine W B (c104 p.Graph c.Pattern.Graph c.Map _ hx32)<|D B<|F (kt<|kt<|kt<|kb<|kt<|kn) fun _=>?_
   refine E<|G<|D B<|a8 B B<|F (kt<|kt<|kt<|kb<|kt<|kt<|kn) fun _=>?_
   refine U B (fun hc34=>?_) (fun hc34=>?_)
   ·replace h:=O hc34 h
    refine E<|G<|D B<|D B<|F km1 fun _=>?_
    exact L (by cases h;rfl)
   ·replace h:=R hc34 h
    refine T (kt<|kt<|kt<|kb<|kn) fun _=>?_
    refine E<|E<|G<|M B<|S B B (B:_=eGraph p.Graph)<|M B<|b8 B<|S B B (B:_=eGraph c.Pattern.Graph)<|M B<|S B B (B:_=eMorphism c.Map) ?_
    obtain ⟨x43,hx43,h⟩:=J h
    refine W B (c105 p.Graph c.Pattern.Graph c.Map _ hx43)<|d3 B<|F (kt<|kt<|kb<|kt<|kn) fun _=>?_
    refine U B (fun hc44=>?_) (fun hc44=>?_)
    ·replace h:=O hc44 h
     refine E<|G<|D B<|F km1 fun _=>?_
     exact L (by cases h;rfl)
    ·replace h:=R hc44 h
     refine T (kt<|kt<|kb<|kn) fun _=>?_
     refine G<|M B<|S B B (B:_=ePattern c.Pattern)<|b3 B B B B B<|F (kt<|kt<|kb<|kn) fun _=>?_
     refine E<|E<|G<|D B<|F (kt<|kt<|kb<|kt<|kn) fun _=>?_
     obtain ⟨o0,ho0,h⟩:=d4 h
     refine e0 ho0 (fun (i0:Int) (_:Unit)=>[(3,.tv (.pt (eTypes t).cells)),(5,.tv (.pt (eCondition c).cells)),(7,.bx [⟨false,lI c.Pattern.Graph.Nodes⟩,⟨false,lE c.Pattern.Graph.Edges⟩,⟨false,lS c.Pattern.Slots⟩,⟨false,eI c.Pattern.Vars⟩,⟨false,lT c.Pattern.Tests⟩]),(10,.tv (eI i0))]) (fun (_:Unit)=>[]) (fun zv ze=>resIs ([.tmp 6]) (.sh (eI zv)) ze) B ?_ ?_ ?_ ?_
     ·clear h ho0
      intro i0 s0 r0 hi0 h hw0
      refine E<|E<|G<|D B<|M B<|K B<|V B (eLCondition_eq _)<|X B B<|F (kt<|kt<|kb<|kt<|kt<|kn) fun _=>?_
      refine d0 B (d1 hi0)<|T (kt<|kt<|kb<|kt<|kn) fun _=>?_
      refine E<|a9<|E<|e2 B<|S B B (B:_=eTypes t)<|S B B (B:_=ePattern c.Pattern)<|M B<|K B<|D B ?_
      obtain ⟨x59,hx59,h⟩:=J h
      refine a4 B B (eLCondition_eq _) hx59 B<|S B B (B:_=eCondition x59) ?_
      obtain ⟨x61,hx61,h⟩:=J h
      refine W B (ih_44 t c.Pattern x59 _ hx61)<|D B<|F (kt<|kt<|kb<|kt<|kt<|kn) fun _=>?_
      refine E<|G<|D B<|a8 B B<|F (kt<|kt<|kb<|kt<|kt<|kt<|kn) fun _=>?_
      refine U B (fun hc63=>?_) (fun hc63=>?_)
      ·replace h:=O hc63 h
       refine E<|G<|D B<|D B<|F km1 fun _=>?_
       refine L ?_
       cases h
       exact ⟨_,rfl,rfl⟩
      ·replace h:=R hc63 h
       refine T (kt<|kt<|kb<|kt<|kn) fun _=>?_
       refine G<|D B<|a7 B B<|D B<|F (kt<|kt<|kb<|kt<|kn) ?_
       cases h
       refine ⟨_,B,?_⟩
       rw [Ktv rfl (Ktv rfl (Kbx rfl (Ktv rfl (Knil _))))]
       rw [b6 (a5 (hw0 10)) hi0 (f5 (g0 (g1 (hw0 5)) (i:=1) rfl) (eLCondition_eq _))]
       all_goals rfl
     ·intro i0 s0 hi0
      refine E<|E<|G<|D B<|M B<|K B<|V B (eLCondition_eq _)<|X B B<|F (kt<|kt<|kb<|kt<|kt<|kn) fun _=>?_
      refine b9 B (d2 hi0)<|b4 kn ?_
      exact ⟨rfl,rfl⟩
     ·intro s0 hs
      replace h:=d5 h hs
      intro _
      refine E<|G<|D B<|F km1 fun _=>?_
      exact L (by cases h;rfl)
     ·intro v0 ze hv hR
      replace h:=d6 h hv
      cases h
      exact hR
 ·replace h:=R hc15 h
  refine T (kt<|kt<|kb<|kn) fun _=>?_
  refine E<|E<|G<|D B<|F (kt<|kt<|kb<|kt<|kn) fun _=>?_
  obtain ⟨o0,ho0,h⟩:=d4 h
  refine e0 ho0 (fun (i0:Int) (_:Unit)=>[(3,.tv (.pt (eTypes t).cells)),(5,.tv (.pt (eCondition c).cells)),(7,.bx [⟨false,lI p.Graph.Nodes⟩,⟨false,lE p.Graph.Edges⟩,⟨false,lS p.Slots⟩,⟨false,eI p.Vars⟩,⟨false,lT p.Tests⟩]),(10,.tv (eI i0))]) (fun (_:Unit)=>[]) (fun zv ze=>resIs ([.tmp 6]) (.sh (eI zv)) ze) B ?_ ?_ ?_ ?_
  ·clear h ho0
   intro i0 s0 r0 hi0 h hw0
   refine E<|E<|G<|D B<|M B<|K B<|V B (eLCondition_eq _)<|X B B<|F (kt<|kt<|kb<|kt<|kt<|kn) fun _=>?_
   refine d0 B (d1 hi0)<|T (kt<|kt<|kb<|kt<|kn) fun _=>?_
   refine E<|a9<|E<|e2 B<|S B B (B:_=eTypes t)<|S B B (B:_=ePattern p)<|M B<|K B<|D B ?_
   obtain ⟨x59,hx59,h⟩:=J h
   refine a4 B B (eLCondition_eq _) hx59 B<|S B B (B:_=eCondition x59) ?_
   obtain ⟨x61,hx61,h⟩:=J h
   refine W B (ih_44 t p x59 _ hx61)<|D B<|F (kt<|kt<|kb<|kt<|kt<|kn) fun _=>?_
   refine E<|G<|D B<|a8 B B<|F (kt<|kt<|kb<|kt<|kt<|kt<|kn) fun _=>?_
   refine U B (fun hc63=>?_) (fun hc63=>?_)
   ·replace h:=O hc63 h
    refine E<|G<|D B<|D B<|F km1 fun _=>?_
    refine L ?_
    cases h
    exact ⟨_,rfl,rfl⟩
   ·replace h:=R hc63 h
    refine T (kt<|kt<|kb<|kt<|kn) fun _=>?_
    refine G<|D B<|a7 B B<|D B<|F (kt<|kt<|kb<|kt<|kn) ?_
    cases h
    refine ⟨_,B,?_⟩
    rw [Ktv rfl (Ktv rfl (Kbx rfl (Ktv rfl (Knil _))))]
    rw [b6 (a5 (hw0 10)) hi0 (f5 (g0 (g1 (hw0 5)) (i:=1) rfl) (eLCondition_eq _))]
    all_goals rfl
  ·intro i0 s0 hi0
   refine E<|E<|G<|D B<|M B<|K B<|V B (eLCondition_eq _)<|X B B<|F (kt<|kt<|kb<|kt<|kt<|kn) fun _=>?_
   refine b9 B (d2 hi0)<|b4 kn ?_
   exact ⟨rfl,rfl⟩
  ·intro s0 hs
   replace h:=d5 h hs
   intro _
   refine E<|G<|D B<|F km1 fun _=>?_
   exact L (by cases h;rfl)
  ·intro v0 ze hv hR
   replace h:=d6 h hv
   cases h
   exact hR
theorem c44A:∀ n:Nat,(∀ (t:Types) (p:Pattern) (c:Condition) (r:Int) (_:ref22_overF n t p c=some r),Sound prog 44 [eTypes t,ePattern p,eCondition c] (.sh (eI r))):=by
  intro n
  induction n with
  | zero=>intro t p c r h; cases h
  | succ n ih=>exact c44S n ih
theorem c44 (t:Types) (p:Pattern) (c:Condition) (r:Int) (h:ref22_over t p c=some r):Sound prog 44 [eTypes t,ePattern p,eCondition c] (.sh (eI r)):=by
  obtain ⟨N,hN⟩:=lim_some h
  exact (c44A N) t p c r (hN N (Nat.le_refl _))
theorem ck16:CK f16 (Rq [Af 3 0,Af 4 1,Af 5 2,Ad 6 0] [3,4,5]<|Sq (Rq [Ae 9 3 2,Ae 10 4 5,As 11 42 9 10,Aa 7 11] [3,4,5,7]<|Rq [Aa 12 7,Au 13 12 0] [3,4,5,7,13]<|Co 13 (Rq [Aa 14 7,Aa 6 14] [6]<|.ret)<|Sk [3,4,5])<|Sq (Rq [Ae 15 5 9,Av 16 43 15,Aa 8 16] [3,4,5,8]<|Rq [Aa 17 8,Au 18 17 0] [3,4,5,8,18]<|Co 18 (Rq [Aa 19 8,Aa 6 19] [6]<|.ret)<|Sk [3,4,5])<|Rq [Ae 20 3 2,Ae 21 4 5,Ae 22 5 9,Bd 23 44 20 21 22,Aa 6 23] [6]<|.ret) [.tmp 6]:= by decide +kernel
theorem c16 (t:Types) (p:Pattern) (c:Condition) (r:Int) (h:ref22_Valid t p c=some r):Sound prog 16 [eTypes t,ePattern p,eCondition c] (.sh (eI r)):= by
 refine Fn ck16 fun hw=>?_
 unfold ref22_Valid at h
 refine E<|G<|Y B B<|Y B B<|Y B B<|D B<|F km3 fun _=>?_
 refine E<|E<|G<|S B B (B:_=eTypes t)<|S B B (B:_=ePattern p) ?_
 obtain ⟨x11,hx11,h⟩:=J h
 refine W B (c42 t p _ hx11)<|D B<|F km4 fun _=>?_
 refine E<|G<|D B<|a8 B B<|F km5 fun _=>?_
 refine U B (fun hc13=>?_) (fun hc13=>?_)
 ·replace h:=O hc13 h
  refine E<|G<|D B<|D B<|F km1 fun _=>?_
  exact L (by cases h;rfl)
 ·replace h:=R hc13 h
  refine T km3 fun _=>?_
  refine E<|E<|G<|S B B (B:_=eCondition c) ?_
  obtain ⟨x16,hx16,h⟩:=J h
  refine W B (c43 c _ hx16)<|D B<|F km4 fun _=>?_
  refine E<|G<|D B<|a8 B B<|F km5 fun _=>?_
  refine U B (fun hc18=>?_) (fun hc18=>?_)
  ·replace h:=O hc18 h
   refine E<|G<|D B<|D B<|F km1 fun _=>?_
   exact L (by cases h;rfl)
  ·replace h:=R hc18 h
   refine T km3 fun _=>?_
   refine E<|G<|S B B (B:_=eTypes t)<|S B B (B:_=ePattern p)<|S B B (B:_=eCondition c) ?_
   obtain ⟨x23,hx23,h⟩:=J h
   refine W B (c44 t p c _ hx23)<|D B<|F km1 fun _=>?_
   exact L (by cases h;rfl)
theorem ck3:CK f3 (Rq [Af 2 0,Af 3 1,Aj 4] [2,3]<|Sq (Rq [Dq 5 11,Ba 6 5,Aa 7 6,Cr 8 2 2 7,Cm 9 12 8 7,Bm 10 9 7,Ar 11 7 10,Aa 12 11,Ap 13 3 5 12,Cr 14 13 9 12,Cm 15 13 14 12,Bm 16 15 12,Ar 17 12 16,Aa 18 17,Ap 19 3 0 18,Cr 20 19 5 18,Cm 21 14 20 18,Bm 22 21 18,Ar 23 18 22] [2,3,23]<|Co 23 (Rq [Dq 24 11,Aa 4 24] [4]<|.ret)<|Sk [2,3])<|Sq (Dr [4,25,26,27,28,29,30,31,32,33,34,35,36,37] [Ae 25 2 2,Ac 26 3 0,Ae 27 26 5,Ac 28 3 5,Ae 29 28 9,Bd 30 15 25 27 29,Ae 31 2 2,Ac 32 3 0,Ae 33 32 5,Ac 34 3 5,Ae 35 34 9,Bd 36 16 31 33 35,Cn 37 30 36,Aa 4 37] [4])<|.ret) [.tmp 4]:= by decide +kernel
theorem c3 (t:Types) (x_1:law22_Over) (r:Bool) (h:law22_ConditionValid t x_1=some r):Sound prog 3 [eTypes t,elaw22_Over x_1] (.sh (eB r)):= by
 refine Fn ck3 fun hw=>?_
 unfold law22_ConditionValid at h
 refine E<|G<|Y B B<|Y B B<|D B<|F km2 fun _=>?_
 refine E<|E<|G ?_
 obtain ⟨x5,hx5,h⟩:=J h
 refine W B (c11  _ hx5)<|d3 B<|D B ?_
 obtain ⟨x11,hx11,h⟩:=J h
 refine gX 4 [8,9,10] 11 x11 (!x5) (fun hg11=>?_) (fun hg11=>?_) ?_
 ·replace h:=O hg11 hx11
  cases h
  refine I B hg11<|I B hg11<|I B hg11<|a2 B hg11 B ?_
  exact ⟨⟨_,_,_,B⟩⟩
 ·replace h:=R hg11 hx11
  refine H B hg11<|S B B (B:_=eTypes t) ?_
  obtain ⟨x9,hx9,h⟩:=J h
  refine H B hg11<|W B (c12 t _ hx9)<|H B hg11<|d3 B ?_
  cases h
  refine a3 B hg11 B ?_
  exact ⟨⟨_,_,_,B⟩⟩
 rintro _ ⟨_,_,_,rfl⟩
 refine D B ?_
 obtain ⟨x17,hx17,h⟩:=J h
 refine gX 5 [13,14,15,16] 17 x17 x11 (fun hg17=>?_) (fun hg17=>?_) ?_
 ·replace h:=O hg17 hx17
  cases h
  refine I B hg17<|I B hg17<|I B hg17<|I B hg17<|a2 B hg17 B ?_
  exact ⟨⟨_,_,_,_,B⟩⟩
 ·replace h:=R hg17 hx17
  refine H B hg17<|M B<|H B hg17<|S B B (B:_=eCondition x_1.C) ?_
  obtain ⟨x15,hx15,h⟩:=J h
  refine H B hg17<|W B (c13 x_1.C _ hx15)<|H B hg17<|d3 B ?_
  cases h
  refine a3 B hg17 B ?_
  exact ⟨⟨_,_,_,_,B⟩⟩
 rintro _ ⟨_,_,_,_,rfl⟩
 refine D B ?_
 obtain ⟨x23,hx23,h⟩:=J h
 refine gX 5 [19,20,21,22] 23 x23 x17 (fun hg23=>?_) (fun hg23=>?_) ?_
 ·replace h:=O hg23 hx23
  cases h
  refine I B hg23<|I B hg23<|I B hg23<|I B hg23<|a2 B hg23 B ?_
  exact ⟨⟨_,_,_,_,B⟩⟩
 ·replace h:=R hg23 hx23
  refine H B hg23<|M B<|H B hg23<|S B B (B:_=ePattern x_1.P) ?_
  obtain ⟨x21,hx21,h⟩:=J h
  refine H B hg23<|W B (c14 x_1.P _ hx21)<|H B hg23<|d3 B ?_
  cases h
  refine a3 B hg23 B ?_
  exact ⟨⟨_,_,_,_,B⟩⟩
 rintro _ ⟨_,_,_,_,rfl⟩
 refine F km3 fun _=>?_
 refine U B (fun hc23=>?_) (fun hc23=>?_)
 ·replace h:=O hc23 h
  refine E<|G ?_
  obtain ⟨x24,hx24,h⟩:=J h
  refine W B (c11  _ hx24)<|D B<|F km1 fun _=>?_
  exact L (by cases h;rfl)
 ·replace h:=R hc23 h
  refine T km2 fun _=>?_
  refine E<|e2 B<|S B B (B:_=eTypes t)<|M B<|S B B (B:_=ePattern x_1.P)<|M B<|S B B (B:_=eCondition x_1.C) ?_
  obtain ⟨x30,hx30,h⟩:=J h
  refine W B (c15 t x_1.P x_1.C _ hx30)<|S B B (B:_=eTypes t)<|M B<|S B B (B:_=ePattern x_1.P)<|M B<|S B B (B:_=eCondition x_1.C) ?_
  obtain ⟨x36,hx36,h⟩:=J h
  refine W B (c16 t x_1.P x_1.C _ hx36)<|b5 B B<|D B<|F km1 fun _=>?_
  exact L (by cases h;rfl)
end Go.Sf.Sc
