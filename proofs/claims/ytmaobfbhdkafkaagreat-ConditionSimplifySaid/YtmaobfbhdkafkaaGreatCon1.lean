/- Contracts of the functions. -/
import Derived.Test.YtmaobfbhdkafkaaGreatCon0
import Derived.Test.YtmaobfbhdkafkaaGreatTryzShelf
import Derived.Test.YtmaobfbhdkafkaaGreatRp
set_option maxRecDepth 100000
namespace Go.Sf.Sc
open Go Go.Sf Go.Proofs.Tryz
theorem ck239:CK f239 (Rq [Af 2 0,Ba 4 1,Ae 5 0] [1,2]<|Sq (Rq [Ad 9 2 2,Aa 10 1,Bh 11 1 10,Ap 12 216 9 11,Aa 6 12] [1,2,6]<|Rq [Aa 13 6,Ax 14 13 0] [1,2,6,14]<|Co 14 (Rq [Aa 15 6,Ba 4 1,Aa 5 15] [4,5]<|.ret)<|Sk [1,2])<|Rq [Ba 7 1] [1,2,7]<|Sq (Rq [Ac 16 2 0,Ab 17 16,Ag 18 17,Ae 19 0] [1,2,7,18,19]<|Bl 0<|Lo [1,2,7,18,19]<|Rq [Am 20 19 18] [1,2,7,18,19,20]<|Sq (Co 20 (Sk [1,2,7,18,19])<|Ex 0 [7])<|Sq (Bl 1<|Rq [Aa 21 19,Aa 8 21] [1,2,7,8,18,19]<|Rq [Ad 22 2 2,Aa 23 8,Aa 24 1,Bg 25 229 22 23 24] [1,2,7,8,18,19,25]<|Co 25 (Re [Ay 26 7,Aa 27 8,Bh 28 1 27,Bq 29 1 26 28,Ay 7 29] [1,2,7,18,19])<|Sk [1,2,7,18,19])<|Re [An 30 19 1,Aa 19 30] [1,2,7,18,19])<|Rq [Aa 31 7,Ay 4 31,Ae 5 0] [4,5]<|.ret) [.tmp 4,.tmp 5]:= by decide +kernel
theorem c239 (t:Types) (a:Int) (r:(List Int × Int)) (h:types_Below t a=some r):Sound prog 239 [eTypes t,eI a] (.tp [lI r.1,eI r.2]):= by
 refine Fn ck239 fun hw=>?_
 unfold types_Below at h
 refine E<|G<|X B B<|e3<|D B<|F km2 fun _=>?_
 refine E<|E<|G<|M B B (B:_=eTypes t)<|D B<|e4 (e:=eI) (l:=[a]) B B (fun _=>rfl) ?_
 obtain ⟨x12,hx12,h⟩:=J h
 refine V B (c216 t [a] _ hx12)<|D B<|F km3 fun _=>?_
 refine E<|G<|D B<|a9 B B<|F km4 fun _=>?_
 refine U B (fun hc14=>?_) (fun hc14=>?_)
 ·replace h:=R hc14 h
  refine E<|G<|D B<|e3<|D B<|F (ko<|kt<|kn) fun _=>?_
  refine L ?_
  cases h
  exact ⟨by decide,rfl⟩
 ·replace h:=S hc14 h
  refine T km2 fun _=>?_
  refine E<|G<|e3<|F (kt<|kt<|ko<|kn) fun _=>?_
  refine E<|E<|G<|O B<|K B<|W B B<|D B<|F (kt<|kt<|ko<|kt<|kt<|kn) fun _=>?_
  obtain ⟨s0,hs0,h⟩:=J h
  refine g2 hs0 (fun (i0:Int) (s0:List Int)=>[(1,.tv (eI a)),(2,.tv (.pt (eTypes t).cells)),(7,.ow (lI s0)),(18,.tv (eI (t.Nodes.length:Int))),(19,.tv (eI i0))]) (fun (s0:List Int)=>[(7,.ow (lI s0))]) B ?_ ?_ ?_
  ·clear h hs0
   intro i0 s0 r0 hi0 h hw0
   refine E<|G<|Y B B<|F (kt<|kt<|ko<|kt<|kt<|kt<|kn) fun _=>?_
   refine E<|d1 B (d2 hi0)<|T (kt<|kt<|ko<|kt<|kt<|kn) fun _=>?_
   refine E<|b3<|E<|G<|D B<|D B<|F (kt<|kt<|ko<|kt<|kt<|kt<|kn) fun _=>?_
   refine E<|G<|M B B (B:_=eTypes t)<|D B<|D B ?_
   obtain ⟨x25,hx25,h⟩:=J h
   refine V B (c229 t i0 a _ hx25)<|F (kt<|kt<|ko<|kt<|kt<|kt<|kt<|kn) fun _=>?_
   refine U B (fun hc25=>?_) (fun hc25=>?_)
   ·replace h:=R hc25 h
    refine G<|e9 B<|D B<|e4 (e:=eI) (l:=[i0]) B B (fun _=>rfl) ?_
    obtain ⟨x29,hx29,h⟩:=J h
    refine f6 B B B B hx29 B<|e9 B<|F (kt<|kt<|ko<|kt<|kt<|kn) fun _=>?_
    refine G<|a8 B B<|D B<|F (kt<|kt<|ko<|kt<|kt<|kn) ?_
    cases h
    show Env.keep _ _=_
    rw [Ktv rfl (Ktv rfl (Kow rfl (Ktv rfl (Ktv rfl (Knil _)))))]
    rw [b7 (Z (hw0 19)) hi0 (b9 (Z (hw0 18)))]
    all_goals rfl
   ·replace h:=S hc25 h
    refine T (kt<|kt<|ko<|kt<|kt<|kn) fun _=>?_
    refine G<|a8 B B<|D B<|F (kt<|kt<|ko<|kt<|kt<|kn) ?_
    cases h
    show Env.keep _ _=_
    rw [Ktv rfl (Ktv rfl (Kow rfl (Ktv rfl (Ktv rfl (Knil _)))))]
    rw [b7 (Z (hw0 19)) hi0 (b9 (Z (hw0 18)))]
    all_goals rfl
  ·intro i0 s0 hi0
   refine E<|G<|Y B B<|F (kt<|kt<|ko<|kt<|kt<|kt<|kn) fun _=>?_
   refine E<|d0 B (d3 hi0)<|b8 (ko<|kn) ?_
   exact ⟨rfl,rfl⟩
  ·intro _
   refine E<|G<|D B<|f8 B<|D B<|F km2 fun _=>?_
   refine L ?_
   cases h
   exact ⟨by decide,rfl⟩
theorem ck197:CK f197 (Rq [Af 1 0,Ba 2 1] [1]<|Rq [Ba 3 1] [1,3]<|Sq (Rq [Ac 10 1 0,Ab 11 10,Ag 12 11,Ae 13 0] [1,3,12,13]<|Bl 0<|Lo [1,3,12,13]<|Rq [Am 14 13 12] [1,3,12,13,14]<|Sq (Co 14 (Sk [1,3,12,13])<|Ex 0 [3])<|Sq (Bl 1<|Rq [Aa 15 13,Aa 4 15] [1,3,4,12,13]<|Rq [Ac 16 1 0,Ab 17 16,Ag 18 17,Dv 19 1 18,Bw 5 19] [1,3,4,5,12,13]<|Rq [Ad 21 1 2,Aa 22 4,Ap 23 239 21 22,Aa 20 23,Al 24 20 0,Al 25 20 1,Ay 6 24,Aa 7 25] [1,3,5,6,12,13]<|Sq (Rq [Aa 26 6,Ag 27 26,Ae 28 0] [1,3,5,12,13,26,27,28]<|Bl 2<|Lo [1,3,5,12,13,26,27,28]<|Rq [Am 29 28 27] [1,3,5,12,13,26,27,28,29]<|Sq (Co 29 (Sk [1,3,5,12,13,26,27,28])<|Ex 2 [1,3,5,12,13])<|Sq (Bl 3<|Rq [Ak 30 26 28 1,Ab 31 30,Aa 9 31] [1,3,5,9,12,13,26,27,28]<|Re [Bo 32 5,Aa 33 9,Cj 34 32 33 1,Dk 34] [1,3,5,12,13,26,27,28])<|Re [An 35 28 1,Aa 28 35] [1,3,5,12,13,26,27,28])<|Re [Ay 36 3,Cz 37 5,Bh 38 1 37,Bq 39 1 36 38,Ay 3 39] [1,3,12,13])<|Re [An 40 13 1,Aa 13 40] [1,3,12,13])<|Rq [Aa 41 3,Ay 2 41] [2]<|.ret) [.tmp 2]:= by decide +kernel
theorem c197 (t:Types) (r:(List (List Bool))) (h:search_below t=some r):Sound prog 197 [eTypes t] (.sh ((eL 1 (eL 1 eB)) r)):= by
 refine Fn ck197 fun hw=>?_
 unfold search_below at h
 refine E<|G<|X B B<|e3<|F km1 fun _=>?_
 refine E<|G<|e3<|F (kt<|ko<|kn) fun _=>?_
 refine E<|E<|G<|O B<|K B<|W B B<|D B<|F (kt<|ko<|kt<|kt<|kn) fun _=>?_
 obtain ⟨s0,hs0,h⟩:=J h
 refine g2 hs0 (fun (i0:Int) (s0:List (List Bool))=>[(1,.tv (.pt (eTypes t).cells)),(3,.ow ((eL 1 (eL 1 eB)) s0)),(12,.tv (eI (t.Nodes.length:Int))),(13,.tv (eI i0))]) (fun (s0:List (List Bool))=>[(3,.ow ((eL 1 (eL 1 eB)) s0))]) B ?_ ?_ ?_
 ·clear h hs0
  intro i0 s0 r0 hi0 h hw0
  refine E<|G<|Y B B<|F (kt<|ko<|kt<|kt<|kt<|kn) fun _=>?_
  refine E<|d1 B (d2 hi0)<|T (kt<|ko<|kt<|kt<|kn) fun _=>?_
  refine E<|b3<|E<|G<|D B<|D B<|F (kt<|ko<|kt<|kt<|kt<|kn) fun _=>?_
  refine E<|G<|O B<|K B<|W B B ?_
  obtain ⟨x19,hx19,h⟩:=J h
  refine m3 (z:=false) B B B hx19 B<|g3 B B (by decide)<|F (kt<|ko<|kt<|kx<|kt<|kt<|kn) fun _=>?_
  refine E<|G<|M B B (B:_=eTypes t)<|D B ?_
  obtain ⟨x23,hx23,h⟩:=J h
  refine e8 B (c239 t i0 _ hx23)<|e5 B<|b4 B B<|b4 B B<|f8 B<|D B<|F (kt<|ko<|kx<|kt<|kt<|kt<|kn) fun _=>?_
  refine E<|E<|G<|D B<|W B B<|D B<|F (kt<|ko<|kx<|kt<|kt<|kt<|kt<|kt<|kn) fun _=>?_
  obtain ⟨s2,hs2,h⟩:=J h
  refine g2 hs2 (fun (i2:Int) (s2:List Bool)=>[(1,.tv (.pt (eTypes t).cells)),(3,.ow ((eL 1 (eL 1 eB)) s0)),(5,.xo 1 (List.map eB s2)),(12,.tv (eI (t.Nodes.length:Int))),(13,.tv (eI i0)),(26,.tv (lI x23.1)),(27,.tv (eI (x23.1.length:Int))),(28,.tv (eI i2))]) (fun (s2:List Bool)=>[(1,.tv (.pt (eTypes t).cells)),(3,.ow ((eL 1 (eL 1 eB)) s0)),(5,.xo 1 (List.map eB s2)),(12,.tv (eI (t.Nodes.length:Int))),(13,.tv (eI i0))]) B ?_ ?_ ?_
  ·clear h hs2
   intro i2 s2 r2 hi2 h hw2
   refine E<|G<|Y B B<|F (kt<|ko<|kx<|kt<|kt<|kt<|kt<|kt<|kt<|kn) fun _=>?_
   refine E<|d1 B (d2 hi2)<|T (kt<|ko<|kx<|kt<|kt<|kt<|kt<|kt<|kn) fun _=>?_
   refine E<|b3<|E<|G ?_
   obtain ⟨x30,hx30,h⟩:=J h
   refine a2 B B B hx30 B<|K B<|D B<|F (kt<|ko<|kx<|kt<|kt<|kt<|kt<|kt<|kt<|kn) fun _=>?_
   refine G<|f4 B<|D B ?_
   obtain ⟨x34,hx34,h⟩:=J h
   refine g7 B B B hx34<|g9 (i:=0) (b:=true) B B B B (fun _=>rfl) hx34 B B B B B B<|F (kt<|ko<|kx<|kt<|kt<|kt<|kt<|kt<|kn) fun _=>?_
   refine G<|a8 B B<|D B<|F (kt<|ko<|kx<|kt<|kt<|kt<|kt<|kt<|kn) ?_
   cases h
   show Env.keep _ _=_
   rw [Ktv rfl (Kow rfl (Kxo rfl (Ktv rfl (Ktv rfl (Ktv rfl (Ktv rfl (Ktv rfl (Knil _))))))))]
   rw [b7 (Z (hw2 28)) hi2 (b9 (Z (hw2 27)))]
   all_goals rfl
  ·intro i2 s2 hi2
   refine E<|G<|Y B B<|F (kt<|ko<|kx<|kt<|kt<|kt<|kt<|kt<|kt<|kn) fun _=>?_
   refine E<|d0 B (d3 hi2)<|b8 (kt<|ko<|kx<|kt<|kt<|kn) ?_
   exact ⟨rfl,rfl⟩
  ·intro _
   refine G<|e9 B<|l6 B (by decide)<|e4 (e:=(eL 1 eB)) (l:=[s2]) B B (fun _=>rfl) ?_
   obtain ⟨x39,hx39,h⟩:=J h
   refine f6 B B B B hx39 B<|e9 B<|F (kt<|ko<|kt<|kt<|kn) fun _=>?_
   refine G<|a8 B B<|D B<|F (kt<|ko<|kt<|kt<|kn) ?_
   cases h
   show Env.keep _ _=_
   rw [Ktv rfl (Kow rfl (Ktv rfl (Ktv rfl (Knil _))))]
   rw [b7 (Z (hw0 13)) hi0 (b9 (Z (hw0 12)))]
   all_goals rfl
 ·intro i0 s0 hi0
  refine E<|G<|Y B B<|F (kt<|ko<|kt<|kt<|kt<|kn) fun _=>?_
  refine E<|d0 B (d3 hi0)<|b8 (ko<|kn) ?_
  exact ⟨rfl,rfl⟩
 ·intro _
  refine E<|G<|D B<|f8 B<|F km1 fun _=>?_
  exact L (by cases h;rfl)
theorem ck175:CK f175 (Rq [Af 4 0,Af 5 1,Af 6 2,Af 7 3,Ae 8 0] [4,5,6,7]<|Sq (Rq [Ac 16 7 0,Ab 17 16,Ag 18 17,Ac 19 5 0,Ab 20 19,Ag 21 20,Bd 22 18 21,Aa 23 22,Aq 24 7 1 23,As 25 24 23,Bj 26 25 23,Aq 27 5 1 23,As 28 27 23,Bj 29 28 23,Cb 30 26 29 23,At 31 23 30] [4,5,6,7,31]<|Co 31 (Rq [Ae 8 20] [8]<|.ret)<|Sk [4,5,6,7])<|Rq [Ad 32 4 2,Au 33 197 32,Ay 9 33] [5,6,7,9]<|Sq (Rq [Ac 34 7 0,Ab 35 34,Ag 36 35,Ae 37 0] [5,6,7,9,35,36,37]<|Bl 0<|Lo [5,6,7,9,35,36,37]<|Rq [Am 38 37 36] [5,6,7,9,35,36,37,38]<|Sq (Co 38 (Sk [5,6,7,9,35,36,37])<|Ex 0 [5,6,7])<|Sq (Bl 1<|Rq [Aa 39 37,Ak 40 35 37 1,Ab 41 40,Aa 10 39,Aa 11 41] [5,6,7,9,10,11,35,36,37]<|Sq (Rq [Aa 42 11,Cn 43 42 0,Aa 44 43,Bc 45 11 44,Aq 46 6 0 44,As 47 46 44,Bj 48 47 44,Ci 49 45 48 44,At 50 44 49] [5,6,7,9,10,11,35,36,37,50]<|Co 50 (Rq [Ae 8 6] [8]<|.ret)<|Sk [5,6,7,9,10,11,35,36,37])<|Sq (Dr [51,52,53,54,55,56,57,58,59,60,61,62,63,64,65,66] [Aa 51 9,Ac 52 5 0,Ab 53 52,Aa 54 10,Ak 55 53 54 1,Ab 56 55,Ak 57 51 56 1,Ab 58 57,Ac 59 6 0,Ab 60 59,Aa 61 11,Ak 62 60 61 1,Ab 63 62,Ak 64 58 63 1,Ab 65 64,Bb 66 65] [5,6,7,9,35,36,37,66])<|Co 66 (Rq [Ae 8 13] [8]<|.ret)<|Sk [5,6,7,9,35,36,37])<|Re [An 67 37 1,Aa 37 67] [5,6,7,9,35,36,37])<|Sq (Rq [Ac 68 7 1,Ab 69 68,Ag 70 69,Ae 71 0] [5,6,7,69,70,71]<|Bl 2<|Lo [5,6,7,69,70,71]<|Rq [Am 72 71 70] [5,6,7,69,70,71,72]<|Sq (Co 72 (Sk [5,6,7,69,70,71])<|Ex 2 [])<|Sq (Bl 3<|Rq [Aa 73 71,Ak 74 69 71 1,Ab 75 74,Aa 12 73,Aa 13 75] [5,6,7,12,13,69,70,71]<|Sq (Rq [Aa 76 13,Cn 77 76 0,Aa 78 77,Bc 79 13 78,Aq 80 6 1 78,As 81 80 78,Bj 82 81 78,Ci 83 79 82 78,At 84 78 83] [5,6,7,12,13,69,70,71,84]<|Co 84 (Rq [Ae 8 6] [8]<|.ret)<|Sk [5,6,7,12,13,69,70,71])<|Sq (Dr [14,15,85,86,87,88,89,90,91,92,93,94] [Ac 85 5 1,Ab 86 85,Aa 87 12,Ak 88 86 87 3,Ad 89 88 3,Ac 90 6 1,Ab 91 90,Aa 92 13,Ak 93 91 92 3,Ad 94 93 3,Cr 14 0 0 0,Cr 15 0 0 0,Aj 3 14 89,Aj 3 15 94] [5,6,7,14,15,69,70,71])<|Sq (Rq [Ac 95 14 0,Ab 96 95,Ac 97 15 0,Ab 98 97,Bd 99 96 98] [5,6,7,14,15,69,70,71,99]<|Co 99 (Rq [Ae 8 13] [8]<|.ret)<|Sk [5,6,7,14,15,69,70,71])<|Sq (Dr [100,101,102,103,104,105,106,107,108,109,110,111,112,113,114,115,116,117,118,119] [Ac 100 7 0,Ab 101 100,Ac 102 14 1,Ab 103 102,Ak 104 101 103 1,Ab 105 104,Ac 106 15 1,Ab 107 106,Bd 108 105 107,Aa 109 108,Aq 110 7 0 109,As 111 110 109,Aq 112 14 2 109,As 113 112 109,Cp 114 111 113 1 109,As 115 114 109,Aq 116 15 2 109,As 117 116 109,Cb 118 115 117 109,At 119 109 118] [5,6,7,69,70,71,119])<|Co 119 (Rq [Ae 8 11] [8]<|.ret)<|Sk [5,6,7,69,70,71])<|Re [An 120 71 1,Aa 71 120] [5,6,7,69,70,71])<|Rq [Ae 8 0] [8]<|.ret) [.tmp 8]:= by decide +kernel
theorem c175 (t:Types) (p:Graph) (g:Graph) (m:Morphism) (r:Int) (h:search_shape t p g m=some r):Sound prog 175 [eTypes t,eGraph p,eGraph g,eMorphism m] (.sh (eI r)):= by
 refine Fn ck175 fun hw=>?_
 unfold search_shape at h
 refine E<|G<|X B B<|X B B<|X B B<|X B B<|D B<|F km4 fun _=>?_
 refine E<|E<|G<|O B<|K B<|W B B<|O B<|K B<|W B B<|a9 B B<|D B ?_
 refine gO 8 [24,25,26,27,28,29,30] 31 (!decide ((m.Nodes.length:Int)=(p.Nodes.length:Int))) (!decide ((m.Edges.length:Int)=(p.Edges.length:Int))) (fun hg31=>?_) (fun hg31=>?_) ?_
 ·refine I B hg31<|I B hg31<|I B hg31<|I B hg31<|I B hg31<|I B hg31<|I B hg31<|a4 B hg31 B ?_
  exact ⟨⟨_,_,_,_,_,_,_,B⟩⟩
 ·refine H B hg31<|O B<|H B hg31<|K B<|H B hg31<|W B B<|H B hg31<|O B<|H B hg31<|K B<|H B hg31<|W B B<|H B hg31<|a9 B B<|a5 B hg31 B ?_
  exact ⟨⟨_,_,_,_,_,_,_,B⟩⟩
 rintro _ ⟨_,_,_,_,_,_,_,rfl⟩
 refine F km5 fun _=>?_
 refine U B (fun hc31=>?_) (fun hc31=>?_)
 ·replace h:=R hc31 h
  refine E<|G<|D B<|F km1 fun _=>?_
  exact L (by cases h;rfl)
 ·replace h:=S hc31 h
  refine T km4 fun _=>?_
  refine E<|G<|M B B (B:_=eTypes t) ?_
  obtain ⟨x33,hx33,h⟩:=J h
  refine V B (c197 t _ hx33)<|f8 B<|F km4 fun _=>?_
  refine E<|E<|G<|O B<|K B<|W B B<|D B<|F km7 fun _=>?_
  obtain ⟨o0,ho0,h⟩:=d6 h
  refine d9 ho0 (fun (i0:Int) (_:Unit)=>[(5,.tv (.pt (eGraph p).cells)),(6,.tv (.pt (eGraph g).cells)),(7,.tv (.pt (eMorphism m).cells)),(9,.tv ((eL 1 (eL 1 eB)) x33)),(35,.tv (lI m.Nodes)),(36,.tv (eI (m.Nodes.length:Int))),(37,.tv (eI i0))]) (fun (_:Unit)=>[(5,.tv (.pt (eGraph p).cells)),(6,.tv (.pt (eGraph g).cells)),(7,.tv (.pt (eMorphism m).cells))]) (fun zv ze=>resIs ([.tmp 8]) (.sh (eI zv)) ze) B ?_ ?_ ?_ ?_
  ·clear h ho0
   intro i0 s0 r0 hi0 h hw0
   refine E<|G<|Y B B<|F km8 fun _=>?_
   refine E<|d1 B (d2 hi0)<|T km7 fun _=>?_
   refine E<|b3<|E<|G<|D B ?_
   obtain ⟨x40,hx40,h⟩:=J h
   refine a2 B B B hx40 B<|K B<|D B<|D B<|F km9 fun _=>?_
   refine E<|E<|G<|D B<|Y B B<|D B ?_
   refine gO 6 [45,46,47,48,49] 50 (decide (x40<0)) (decide ((g.Nodes.length:Int)<=x40)) (fun hg50=>?_) (fun hg50=>?_) ?_
   ·refine I B hg50<|I B hg50<|I B hg50<|I B hg50<|I B hg50<|a4 B hg50 B ?_
    exact ⟨⟨_,_,_,_,_,B⟩⟩
   ·refine H B hg50<|D B<|H B hg50<|O B<|H B hg50<|K B<|H B hg50<|W B B<|H B hg50<|e1 B B<|a5 B hg50 B ?_
    exact ⟨⟨_,_,_,_,_,B⟩⟩
   rintro _ ⟨_,_,_,_,_,rfl⟩
   refine F km10 fun _=>?_
   refine U B (fun hc50=>?_) (fun hc50=>?_)
   ·replace h:=R hc50 h
    refine E<|G<|D B<|F km1 fun _=>?_
    refine L ?_
    cases h
    exact ⟨_,rfl,rfl⟩
   ·replace h:=S hc50 h
    refine T km9 fun _=>?_
    refine E<|e0 B<|D B<|O B<|K B<|D B ?_
    obtain ⟨x55,hx55,h⟩:=J h
    refine a2 B B B hx55 B<|K B ?_
    obtain ⟨x57,hx57,h⟩:=J h
    refine a2 B B B hx57 B<|K B<|O B<|K B<|D B ?_
    obtain ⟨x62,hx62,h⟩:=J h
    refine a2 B B B hx62 B<|K B ?_
    obtain ⟨x64,hx64,h⟩:=J h
    refine a2 B B B hx64 B<|K B<|d4 B<|F km8 fun _=>?_
    refine U B (fun hc66=>?_) (fun hc66=>?_)
    ·replace h:=R hc66 h
     refine E<|G<|D B<|F km1 fun _=>?_
     refine L ?_
     cases h
     exact ⟨_,rfl,rfl⟩
    ·replace h:=S hc66 h
     refine T km7 fun _=>?_
     refine G<|a8 B B<|D B<|F km7 ?_
     cases h
     refine ⟨_,B,?_⟩
     rw [Ktv rfl (Ktv rfl (Ktv rfl (Ktv rfl (Ktv rfl (Ktv rfl (Ktv rfl (Knil _)))))))]
     rw [b7 (Z (hw0 37)) hi0 (b9 (Z (hw0 36)))]
     all_goals rfl
  ·intro i0 s0 hi0
   refine E<|G<|Y B B<|F km8 fun _=>?_
   refine E<|d0 B (d3 hi0)<|b8 km3 ?_
   exact ⟨rfl,rfl⟩
  ·intro s0 hs
   replace h:=d7 h hs
   intro _
   refine E<|E<|G<|O B<|K B<|W B B<|D B<|F km6 fun _=>?_
   obtain ⟨o2,ho2,h⟩:=d6 h
   refine d9 ho2 (fun (i2:Int) (_:Unit)=>[(5,.tv (.pt (eGraph p).cells)),(6,.tv (.pt (eGraph g).cells)),(7,.tv (.pt (eMorphism m).cells)),(69,.tv (lI m.Edges)),(70,.tv (eI (m.Edges.length:Int))),(71,.tv (eI i2))]) (fun (_:Unit)=>[]) (fun zv ze=>resIs ([.tmp 8]) (.sh (eI zv)) ze) B ?_ ?_ ?_ ?_
   ·clear h ho2
    intro i2 s2 r2 hi2 h hw2
    refine E<|G<|Y B B<|F km7 fun _=>?_
    refine E<|d1 B (d2 hi2)<|T km6 fun _=>?_
    refine E<|b3<|E<|G<|D B ?_
    obtain ⟨x74,hx74,h⟩:=J h
    refine a2 B B B hx74 B<|K B<|D B<|D B<|F km8 fun _=>?_
    refine E<|E<|G<|D B<|Y B B<|D B ?_
    refine gO 6 [79,80,81,82,83] 84 (decide (x74<0)) (decide ((g.Edges.length:Int)<=x74)) (fun hg84=>?_) (fun hg84=>?_) ?_
    ·refine I B hg84<|I B hg84<|I B hg84<|I B hg84<|I B hg84<|a4 B hg84 B ?_
     exact ⟨⟨_,_,_,_,_,B⟩⟩
    ·refine H B hg84<|D B<|H B hg84<|O B<|H B hg84<|K B<|H B hg84<|W B B<|H B hg84<|e1 B B<|a5 B hg84 B ?_
     exact ⟨⟨_,_,_,_,_,B⟩⟩
    rintro _ ⟨_,_,_,_,_,rfl⟩
    refine F km9 fun _=>?_
    refine U B (fun hc84=>?_) (fun hc84=>?_)
    ·replace h:=R hc84 h
     refine E<|G<|D B<|F km1 fun _=>?_
     refine L ?_
     cases h
     exact ⟨_,rfl,rfl⟩
    ·replace h:=S hc84 h
     refine T km8 fun _=>?_
     refine E<|e0 B<|O B<|K B<|D B ?_
     obtain ⟨x88,hx88,h⟩:=J h
     refine a2 B B B hx88 B<|M B B (B:_=eEdge x88)<|O B<|K B<|D B ?_
     obtain ⟨x93,hx93,h⟩:=J h
     refine a2 B B B hx93 B<|M B B (B:_=eEdge x93)<|b6 B<|b6 B<|a6 B B B B B<|a6 B B B B B<|F (kt<|kt<|kt<|kb<|kb<|kt<|kt<|kt<|kn) fun _=>?_
     refine E<|E<|G<|a7 B<|K B<|a7 B<|K B<|a9 B B<|F (kt<|kt<|kt<|kb<|kb<|kt<|kt<|kt<|kt<|kn) fun _=>?_
     refine U B (fun hc99=>?_) (fun hc99=>?_)
     ·replace h:=R hc99 h
      refine E<|G<|D B<|F km1 fun _=>?_
      refine L ?_
      cases h
      exact ⟨_,rfl,rfl⟩
     ·replace h:=S hc99 h
      refine T (kt<|kt<|kt<|kb<|kb<|kt<|kt<|kt<|kn) fun _=>?_
      refine E<|e0 B<|O B<|K B<|a7 B<|K B ?_
      obtain ⟨x104,hx104,h⟩:=J h
      refine a2 B B B hx104 B<|K B<|a7 B<|K B<|a9 B B<|D B ?_
      obtain ⟨x119,hx119,h⟩:=J h
      refine gX 10 [110,111,112,113,114,115,116,117,118] 119 x119 (!decide (x104=x93.From)) (fun hg119=>?_) (fun hg119=>?_) ?_
      ·replace h:=R hg119 hx119
       cases h
       refine I B hg119<|I B hg119<|I B hg119<|I B hg119<|I B hg119<|I B hg119<|I B hg119<|I B hg119<|I B hg119<|a4 B hg119 B ?_
       exact ⟨⟨_,_,_,_,_,_,_,_,_,B⟩⟩
      ·replace h:=S hg119 hx119
       refine H B hg119<|O B<|H B hg119<|K B<|H B hg119<|a7 B<|H B hg119<|K B ?_
       obtain ⟨x114,hx114,h⟩:=J h
       refine H B hg119<|a2 B B B hx114 B<|H B hg119<|K B<|H B hg119<|a7 B<|H B hg119<|K B<|H B hg119<|a9 B B ?_
       cases h
       refine a5 B hg119 B ?_
       exact ⟨⟨_,_,_,_,_,_,_,_,_,B⟩⟩
      rintro _ ⟨_,_,_,_,_,_,_,_,_,rfl⟩
      refine F km7 fun _=>?_
      refine U B (fun hc119=>?_) (fun hc119=>?_)
      ·replace h:=R hc119 h
       refine E<|G<|D B<|F km1 fun _=>?_
       refine L ?_
       cases h
       exact ⟨_,rfl,rfl⟩
      ·replace h:=S hc119 h
       refine T km6 fun _=>?_
       refine G<|a8 B B<|D B<|F km6 ?_
       cases h
       refine ⟨_,B,?_⟩
       rw [Ktv rfl (Ktv rfl (Ktv rfl (Ktv rfl (Ktv rfl (Ktv rfl (Knil _))))))]
       rw [b7 (Z (hw2 71)) hi2 (b9 (Z (hw2 70)))]
       all_goals rfl
   ·intro i2 s2 hi2
    refine E<|G<|Y B B<|F km7 fun _=>?_
    refine E<|d0 B (d3 hi2)<|b8 kn ?_
    exact ⟨rfl,rfl⟩
   ·intro s2 hs
    replace h:=d7 h hs
    intro _
    refine E<|G<|D B<|F km1 fun _=>?_
    exact L (by cases h;rfl)
   ·intro v2 ze hv hR
    replace h:=d8 h hv
    cases h
    exact hR
  ·intro v0 ze hv hR
   replace h:=d8 h hv
   cases h
   exact hR
theorem c176 (l:List Int) (r:Bool) (h:search_twice l=some r):Sound prog 176 [lI l] (.sh (eB r)):=by
  unfold search_twice at h
  split at h
  · rename_i hl
    cases h
    exact twice_sound l hl
  · cases h
theorem ck109:CK f109 (Rq [Af 5 0,Af 6 1,Af 7 2,Af 8 3,Ae 10 0] [4,5,6,7,8]<|Sq (Rq [Ad 13 5 2,Ad 14 6 2,Ad 15 7 2,Bg 16 62 13 14 15,Aa 11 16] [4,5,6,7,8,11]<|Rq [Aa 17 11,Ax 18 17 0] [4,5,6,7,8,11,18]<|Co 18 (Rq [Aa 19 11,Aa 10 19] [10]<|.ret)<|Sk [4,5,6,7,8])<|Sq (Rq [Ad 20 5 2,Ad 21 6 2,Ad 22 7 2,Ad 23 8 2,Dc 24 175 20 21 22 23,Aa 12 24] [4,8,12]<|Rq [Aa 25 12,Ax 26 25 0] [4,8,12,26]<|Co 26 (Rq [Aa 27 12,Aa 10 27] [10]<|.ret)<|Sk [4,8])<|Sq (Rq [Aa 28 4,Aa 29 28,Av 30 8 0 29,Aw 31 30 29,Ca 32 176 31 29,Az 33 32 29,Aq 34 8 1 33,As 35 34 33,Df 36 176 35 33,Ey 37 33 36 29,Ao 38 29 37] [38]<|Co 38 (Rq [Ae 10 5] [10]<|.ret)<|Sk [])<|Rq [Ae 10 0] [10]<|.ret) [.tmp 10]:= by decide +kernel
theorem c109 (t:Types) (p:Graph) (g:Graph) (m:Morphism) (injective:Bool) (r:Int) (h:search_Check t p g m injective=some r):Sound prog 109 [eTypes t,eGraph p,eGraph g,eMorphism m,eB injective] (.sh (eI r)):= by
 refine Fn ck109 fun hw=>?_
 unfold search_Check at h
 refine E<|G<|X B B<|X B B<|X B B<|X B B<|D B<|F km5 fun _=>?_
 refine E<|E<|G<|M B B (B:_=eTypes t)<|M B B (B:_=eGraph p)<|M B B (B:_=eGraph g) ?_
 obtain ⟨x16,hx16,h⟩:=J h
 refine V B (c62 t p g _ hx16)<|D B<|F km6 fun _=>?_
 refine E<|G<|D B<|a9 B B<|F km7 fun _=>?_
 refine U B (fun hc18=>?_) (fun hc18=>?_)
 ·replace h:=R hc18 h
  refine E<|G<|D B<|D B<|F km1 fun _=>?_
  exact L (by cases h;rfl)
 ·replace h:=S hc18 h
  refine T km5 fun _=>?_
  refine E<|E<|G<|M B B (B:_=eTypes t)<|M B B (B:_=eGraph p)<|M B B (B:_=eGraph g)<|M B B (B:_=eMorphism m) ?_
  obtain ⟨x24,hx24,h⟩:=J h
  refine V B (c175 t p g m _ hx24)<|D B<|F km3 fun _=>?_
  refine E<|G<|D B<|a9 B B<|F km4 fun _=>?_
  refine U B (fun hc26=>?_) (fun hc26=>?_)
  ·replace h:=R hc26 h
   refine E<|G<|D B<|D B<|F km1 fun _=>?_
   exact L (by cases h;rfl)
  ·replace h:=S hc26 h
   refine T km2 fun _=>?_
   refine E<|E<|G<|D B<|D B ?_
   obtain ⟨x38,hx38,h⟩:=J h
   refine gX 9 [30,31,32,33,34,35,36,37] 38 x38 injective (fun hg38=>?_) (fun hg38=>?_) ?_
   ·replace h:=R hg38 hx38
    refine H B hg38<|O B<|H B hg38<|K B ?_
    obtain ⟨x32,hx32,h⟩:=J h
    refine H B hg38<|V B (c176 m.Nodes _ hx32)<|H B hg38<|D B ?_
    obtain ⟨x37,hx37,h⟩:=J h
    refine gX 4 [34,35,36] 37 x37 x32 (fun hg37=>?_) (fun hg37=>?_) ?_
    ·replace h:=R hg37 hx37
     cases h
     refine I B hg37<|I B hg37<|I B hg37<|H B hg38<|a4 B hg37 B ?_
     exact ⟨⟨_,_,_,B⟩⟩
    ·replace h:=S hg37 hx37
     refine H B hg37<|O B<|H B hg37<|K B ?_
     obtain ⟨x36,hx36,h⟩:=J h
     refine H B hg37<|V B (c176 m.Edges _ hx36) ?_
     cases h
     refine H B hg38<|a5 B hg37 B ?_
     exact ⟨⟨_,_,_,B⟩⟩
    rintro _ ⟨_,_,_,rfl⟩
    cases h
    refine a4 B hg38 B ?_
    exact ⟨⟨_,_,_,_,_,_,_,_,B⟩⟩
   ·replace h:=S hg38 hx38
    cases h
    refine I B hg38<|I B hg38<|I B hg38<|I B hg38<|f2 B<|f2 B<|f2 B<|I B hg38<|a5 B hg38 B ?_
    exact ⟨⟨_,_,_,_,_,_,_,_,B⟩⟩
   rintro _ ⟨_,_,_,_,_,_,_,_,rfl⟩
   refine F km1 fun _=>?_
   refine U B (fun hc38=>?_) (fun hc38=>?_)
   ·replace h:=R hc38 h
    refine E<|G<|D B<|F km1 fun _=>?_
    exact L (by cases h;rfl)
   ·replace h:=S hc38 h
    refine T kn fun _=>?_
    refine E<|G<|D B<|F km1 fun _=>?_
    exact L (by cases h;rfl)
theorem ck177:CK f177 (Rq [Af 3 0,Af 4 1,Af 5 2,Ae 6 0] [3,4,5]<|Sq (Rq [Ad 10 3 2,Ad 11 4 5,Ap 12 39 10 11,Aa 7 12] [3,5,7]<|Rq [Aa 13 7,Ax 14 13 0] [3,5,7,14]<|Co 14 (Rq [Aa 15 7,Aa 6 15] [6]<|.ret)<|Sk [3,5])<|Rq [Ad 17 3 2,Ad 18 5 3,Ap 19 108 17 18,Aa 16 19,Al 20 16 0,Al 21 16 1,Aa 8 20,Aa 9 21] [9]<|Rq [Aa 22 9,Aa 6 22] [6]<|.ret) [.tmp 6]:= by decide +kernel
theorem c177 (t:Types) (p:Pattern) (h_2:Host) (r:Int) (h:attribute_given t p h_2=some r):Sound prog 177 [eTypes t,ePattern p,eHost h_2] (.sh (eI r)):= by
 refine Fn ck177 fun hw=>?_
 unfold attribute_given at h
 refine E<|G<|X B B<|X B B<|X B B<|D B<|F km3 fun _=>?_
 refine E<|E<|G<|M B B (B:_=eTypes t)<|M B B (B:_=ePattern p) ?_
 obtain ⟨x12,hx12,h⟩:=J h
 refine V B (c39 t p _ hx12)<|D B<|F km3 fun _=>?_
 refine E<|G<|D B<|a9 B B<|F km4 fun _=>?_
 refine U B (fun hc14=>?_) (fun hc14=>?_)
 ·replace h:=R hc14 h
  refine E<|G<|D B<|D B<|F km1 fun _=>?_
  exact L (by cases h;rfl)
 ·replace h:=S hc14 h
  refine T km2 fun _=>?_
  refine E<|G<|M B B (B:_=eTypes t)<|M B B (B:_=eHost h_2) ?_
  obtain ⟨x19,hx19,h⟩:=J h
  refine e8 B (c108 t h_2 _ hx19)<|e5 B<|b4 B B<|b4 B B<|D B<|D B<|F km1 fun _=>?_
  refine E<|G<|D B<|D B<|F km1 fun _=>?_
  exact L (by cases h;rfl)
theorem ck232:CK f232 (Rq [Af 2 0,Ae 4 0] [1,2]<|Sq (Rq [Ac 5 2 0,Ab 6 5,Cn 7 6 0] [1,2,7]<|Co 7 (Rq [Ac 8 2 1,Ab 9 8,Aa 4 9] [4]<|.ret)<|Sk [1,2])<|Sq (Dr [4,10,11,12,13,14,15,16,17] [Aa 10 1,Ac 11 2 0,Ab 12 11,Ak 13 10 12 1,Ab 14 13,Ac 15 2 1,Ab 16 15,Bt 17 14 16,Aa 4 17] [4])<|.ret) [.tmp 4]:= by decide +kernel
theorem c232 (x_0:Term) (values:List Int) (r:Int) (h:attribute_value x_0 values=some r):Sound prog 232 [eTerm x_0,lI values] (.sh (eI r)):= by
 refine Fn ck232 fun hw=>?_
 unfold attribute_value at h
 refine E<|G<|X B B<|D B<|F km2 fun _=>?_
 refine E<|E<|G<|O B<|K B<|Y B B<|F km3 fun _=>?_
 refine U B (fun hc7=>?_) (fun hc7=>?_)
 ·replace h:=R hc7 h
  refine E<|G<|O B<|K B<|D B<|F km1 fun _=>?_
  exact L (by cases h;rfl)
 ·replace h:=S hc7 h
  refine T km2 fun _=>?_
  refine E<|e0 B<|D B<|O B<|K B ?_
  obtain ⟨x13,hx13,h⟩:=J h
  refine a2 B B B hx13 B<|K B<|O B<|K B<|a8 B B<|D B<|F km1 fun _=>?_
  exact L (by cases h;rfl)
theorem c284 (a b c:Int) (r:Int × Int) (h:math_bits_Add64 a b c=some r):Sound prog 284 [eU64 a,eU64 b,eU64 c] (.ext [eU64 (r.1),eU64 (r.2)]):=by
  unfold math_bits_Add64 at h
  split at h
  · rename_i hc
    cases h
    obtain ⟨⟨a0,a1⟩,⟨b0,b1⟩,c0,c1⟩:=hc
    intro _
    refine ⟨⟨rfl,?_⟩,fun w vs hv=>?_⟩
    · simp only [eU64,TV.WFs,TV.WF,IntKind.min,IntKind.max,IntKind.signed,IntKind.bits,and_true]
      simp only [Bool.false_eq_true,if_false]
      refine ⟨⟨by omega,?_⟩,by omega,?_⟩
      · have:(2:Int) ^ 64=18446744073709551616:=by decide
        omega
      · have:(2:Int) ^ 64=18446744073709551616:=by decide
        omega
    · obtain ⟨x,rfl⟩:=Int.eq_ofNat_of_zero_le a0
      obtain ⟨y,rfl⟩:=Int.eq_ofNat_of_zero_le b0
      obtain ⟨z,rfl⟩:=Int.eq_ofNat_of_zero_le c0
      have:=Go.Proofs.Any7.bits_Add64 Go.Proofs.Tryz.lays7n25 x y z (by omega) w
      obtain ⟨l⟩:=vs
      simp only [eU64,RepAll,Rep] at hv
      obtain ⟨v1,r1,rfl,rfl,v2,r2,rfl,rfl,v3,r3,rfl,rfl,rfl⟩:=hv
      refine ⟨_,this,?_⟩
      simp only [eU64,RepAll,Rep]
      exact ⟨_,_,rfl,by simp,_,_,rfl,by simp,rfl⟩
  · cases h
theorem ck260:CK f260 (Rq [Ae 4 0,Eo 5 0] [0,1]<|Rq [Aa 9 0,⟨some 10,.cvt .u64 (.s 9),none⟩,Aa 11 1,⟨some 12,.cvt .u64 (.s 11),none⟩,⟨some 13,.callf 284 [.s 10,.s 12,.c (.int .u64 0)],none⟩,Aa 8 13,Al 14 8 0,Al 15 8 1,Aa 6 14,Aa 7 15] [0,1,6,7]<|Rq [Aa 16 0,⟨some 17,.bin (.w) .shr (.s 16) (.c (.int .u64 63)),none⟩,Aa 18 1,⟨some 19,.bin (.w) .shr (.s 18) (.c (.int .u64 63)),none⟩,Bt 20 17 19,Aa 21 7,⟨some 22,.cvt .i64 (.s 21),none⟩,Bt 23 20 22,Aa 24 6,Aa 4 23,Aa 5 24] [4,5]<|.ret) [.tmp 4,.tmp 5]:= by decide +kernel
theorem c260 (a:Int) (b:Int) (r:(Int × Int)) (h:difference_wide a b=some r):Sound prog 260 [eI a,eI b] (.tp [eI r.1,eU64 r.2]):= by
 refine Fn ck260 fun hw=>?_
 unfold difference_wide at h
 refine E<|G<|D B<|D B<|F km2 fun _=>?_
 refine E<|G<|D B<|p5 B<|D B<|p5 B ?_
 obtain ⟨x13,hx13,h⟩:=J h
 refine t4 B (c284 (IntKind.u64.wrap a) (IntKind.u64.wrap b) 0 _ hx13)<|e5 B<|b4 B B<|b4 B B<|D B<|D B<|F km4 fun _=>?_
 refine E<|G<|D B ?_
 obtain ⟨x17,hx17,h⟩:=J h
 refine q5 B B (by decide) hx17<|D B ?_
 obtain ⟨x19,hx19,h⟩:=J h
 refine q5 B B (by decide) hx19<|a8 B B<|D B<|p5 B<|a8 B B<|D B<|D B<|D B<|F km2 fun _=>?_
 refine L ?_
 cases h
 exact ⟨by decide,rfl⟩
theorem ck259:CK f259 (Rq [Af 2 0,Ae 3 0,Eo 4 0,Ah 5] [1,2]<|Sq (Bl 0<|Rq [Ac 11 2 0,Ab 12 11,⟨some 13,.bin (.i) .eql (.s 12) (.c (.int .i64 (-1))),none⟩,Aa 10 13] [1,2,10]<|Co 10 (Rq [Ac 15 2 1,Ab 16 15,⟨some 17,.call 260 [.c (.int .i64 0),.s 16],none⟩,Aa 14 17,Al 18 14 0,Al 19 14 1,Aa 6 18,Aa 7 19] [6,7]<|Rq [Aa 20 6,Aa 21 7,Aa 3 20,Aa 4 21,Bp 5] [3,4,5]<|.ret)<|Rq [Ac 23 2 0,Ab 24 23,Cn 25 24 0,Aa 26 25,Aq 27 2 0 26,As 28 27 26,As 29 1 26,Bj 30 29 26,Ci 31 28 30 26,At 32 26 31,Aa 22 32] [1,2,22]<|Co 22 (Rq [Ae 3 0,Eo 4 0,Ah 5] [3,4,5]<|.ret)<|Sk [1,2])<|Sq (Dr [8,9,33,34,35,36,37,38,39,40,41,42,43] [Ab 34 1,Ac 35 2 0,Ab 36 35,Ak 37 34 36 1,Ab 38 37,Ac 39 2 1,Ab 40 39,Ap 41 260 38 40,Aa 33 41,Al 42 33 0,Al 43 33 1,Aa 8 42,Aa 9 43] [8,9])<|Rq [Aa 44 8,Aa 45 9,Aa 3 44,Aa 4 45,Bp 5] [3,4,5]<|.ret) [.tmp 3,.tmp 4,.tmp 5]:= by decide +kernel
theorem c259 (t:Term) (c0:List Int) (r:(Int × Int × Bool)) (h:difference_Holds_1 t c0=some r):Sound prog 259 [eTerm t,.pt [lI c0]] (.tp [eI r.1,eU64 r.2.1,eB r.2.2]):= by
 refine Fn ck259 fun hw=>?_
 unfold difference_Holds_1 at h
 refine E<|G<|X B B<|D B<|D B<|D B<|F km2 fun _=>?_
 refine E<|b3<|E<|G<|O B<|K B<|b2 B B<|D B<|F km3 fun _=>?_
 refine U B (fun hc10=>?_) (fun hc10=>?_)
 ·replace h:=R hc10 h
  refine E<|G<|O B<|K B ?_
  obtain ⟨x17,hx17,h⟩:=J h
  refine e8 B (c260 0 t.Add _ hx17)<|e5 B<|b4 B B<|b4 B B<|D B<|D B<|F km2 fun _=>?_
  refine E<|G<|D B<|D B<|D B<|D B<|D B<|F km3 fun _=>?_
  refine L ?_
  cases h
  exact ⟨by decide,rfl⟩
 ·replace h:=S hc10 h
  refine E<|G<|O B<|K B<|Y B B<|D B ?_
  refine gO 6 [27,28,29,30,31] 32 (decide (t.Var<0)) (decide ((c0.length:Int)<=t.Var)) (fun hg32=>?_) (fun hg32=>?_) ?_
  ·refine I B hg32<|I B hg32<|I B hg32<|I B hg32<|I B hg32<|a4 B hg32 B ?_
   exact ⟨⟨_,_,_,_,_,B⟩⟩
  ·refine H B hg32<|O B<|H B hg32<|K B<|H B hg32<|K B<|H B hg32<|W B B<|H B hg32<|e1 B B<|a5 B hg32 B ?_
   exact ⟨⟨_,_,_,_,_,B⟩⟩
  rintro _ ⟨_,_,_,_,_,rfl⟩
  refine D B<|F km3 fun _=>?_
  refine U B (fun hc22=>?_) (fun hc22=>?_)
  ·replace h:=R hc22 h
   refine E<|G<|D B<|D B<|D B<|F km3 fun _=>?_
   refine L ?_
   cases h
   exact ⟨by decide,rfl⟩
  ·replace h:=S hc22 h
   refine T km2 fun _=>?_
   refine E<|e0 B<|K B<|O B<|K B ?_
   obtain ⟨x37,hx37,h⟩:=J h
   refine a2 B B B hx37 B<|K B<|O B<|K B ?_
   obtain ⟨x41,hx41,h⟩:=J h
   refine e8 B (c260 x37 t.Add _ hx41)<|e5 B<|b4 B B<|b4 B B<|D B<|D B<|F km2 fun _=>?_
   refine E<|G<|D B<|D B<|D B<|D B<|D B<|F km3 fun _=>?_
   refine L ?_
   cases h
   exact ⟨by decide,rfl⟩
theorem ck261:CK f261 (Rq [Ae 2 0] [0]<|Rq [Ae 3 0] [0,3]<|Sq (Rq [Aa 6 0,Ag 7 6,Ae 8 0] [3,6,7,8]<|Bl 0<|Lo [3,6,7,8]<|Rq [Am 9 8 7] [3,6,7,8,9]<|Sq (Co 9 (Sk [3,6,7,8])<|Ex 0 [3])<|Sq (Bl 1<|Rq [Ak 10 6 8 1,Ab 11 10,Aa 5 11] [3,5,6,7,8]<|Rq [Aa 12 5,Aa 13 3,Bd 14 12 13] [3,5,6,7,8,14]<|Co 14 (Rq [Aa 15 5,Aa 2 15] [2]<|.ret)<|Sk [3,6,7,8])<|Re [An 16 8 1,Aa 8 16] [3,6,7,8])<|Rq [Aa 17 3,Aa 2 17] [2]<|.ret) [.tmp 2]:= by decide +kernel
theorem c261 (vals:List Int) (r:Int) (h:cmp_Or_int vals=some r):Sound prog 261 [lI vals] (.sh (eI r)):= by
 refine Fn ck261 fun hw=>?_
 unfold cmp_Or_int at h
 refine E<|G<|D B<|F km1 fun _=>?_
 refine E<|G<|D B<|F km2 fun _=>?_
 refine E<|E<|G<|D B<|W B B<|D B<|F km4 fun _=>?_
 obtain ⟨o0,ho0,h⟩:=d6 h
 refine d9 ho0 (fun (i0:Int) (_:Unit)=>[(3,.tv (eI 0)),(6,.tv (lI vals)),(7,.tv (eI (vals.length:Int))),(8,.tv (eI i0))]) (fun (_:Unit)=>[(3,.tv (eI 0))]) (fun zv ze=>resIs ([.tmp 2]) (.sh (eI zv)) ze) B ?_ ?_ ?_ ?_
 ·clear h ho0
  intro i0 s0 r0 hi0 h hw0
  refine E<|G<|Y B B<|F km5 fun _=>?_
  refine E<|d1 B (d2 hi0)<|T km4 fun _=>?_
  refine E<|b3<|E<|G ?_
  obtain ⟨x10,hx10,h⟩:=J h
  refine a2 B B B hx10 B<|K B<|D B<|F km5 fun _=>?_
  refine E<|G<|D B<|D B<|a9 B B<|F km6 fun _=>?_
  refine U B (fun hc14=>?_) (fun hc14=>?_)
  ·replace h:=R hc14 h
   refine E<|G<|D B<|D B<|F km1 fun _=>?_
   refine L ?_
   cases h
   exact ⟨_,rfl,rfl⟩
  ·replace h:=S hc14 h
   refine T km4 fun _=>?_
   refine G<|a8 B B<|D B<|F km4 ?_
   cases h
   refine ⟨_,B,?_⟩
   rw [Ktv rfl (Ktv rfl (Ktv rfl (Ktv rfl (Knil _))))]
   rw [b7 (Z (hw0 8)) hi0 (b9 (Z (hw0 7)))]
   all_goals rfl
 ·intro i0 s0 hi0
  refine E<|G<|Y B B<|F km5 fun _=>?_
  refine E<|d0 B (d3 hi0)<|b8 km1 ?_
  exact ⟨rfl,rfl⟩
 ·intro s0 hs
  replace h:=d7 h hs
  intro _
  refine E<|G<|D B<|D B<|F km1 fun _=>?_
  exact L (by cases h;rfl)
 ·intro v0 ze hv hR
  replace h:=d8 h hv
  cases h
  exact hR
theorem ck285:CK f285 (Rq [Ah 2] [0]<|Rq [Aa 3 0,Aa 4 0,Bd 5 3 4,Aa 2 5] [2]<|.ret) [.tmp 2]:= by decide +kernel
theorem c285 (x_0:Int) (r:Bool) (h:cmp_isNaN_int x_0=some r):Sound prog 285 [eI x_0] (.sh (eB r)):= by
 refine Fn ck285 fun hw=>?_
 unfold cmp_isNaN_int at h
 refine E<|G<|D B<|F km1 fun _=>?_
 refine E<|G<|D B<|D B<|a9 B B<|D B<|F km1 fun _=>?_
 exact L (by cases h;rfl)
theorem ck262:CK f262 (Rq [Ae 4 0] [0,1]<|Rq [Aa 7 0,Au 8 285 7,Aa 5 8] [0,1,5]<|Rq [Aa 9 1,Au 10 285 9,Aa 6 10] [0,1,5,6]<|Sq (Rq [Aa 11 5] [0,1,6,11]<|Co 11 (Sq (Rq [Aa 12 6] [12]<|Co 12 (Rq [Ae 4 0] [4]<|.ret)<|Sk [])<|Rq [Bm 4 (-1)] [4]<|.ret)<|Sk [0,1,6])<|Sq (Rq [Aa 13 6] [0,1,13]<|Co 13 (Rq [Ae 4 1] [4]<|.ret)<|Sk [0,1])<|Sq (Rq [Aa 14 0,Aa 15 1,Am 16 14 15] [0,1,16]<|Co 16 (Rq [Bm 4 (-1)] [4]<|.ret)<|Sk [0,1])<|Sq (Rq [Aa 17 0,Aa 18 1,⟨some 19,.bin (.i) .gtr (.s 17) (.s 18),none⟩] [19]<|Co 19 (Rq [Ae 4 1] [4]<|.ret)<|Sk [])<|Rq [Ae 4 0] [4]<|.ret) [.tmp 4]:= by decide +kernel
theorem c262 (x_0:Int) (y:Int) (r:Int) (h:cmp_Compare_int x_0 y=some r):Sound prog 262 [eI x_0,eI y] (.sh (eI r)):= by
 refine Fn ck262 fun hw=>?_
 unfold cmp_Compare_int at h
 refine E<|G<|D B<|F km2 fun _=>?_
 refine E<|G<|D B ?_
 obtain ⟨x8,hx8,h⟩:=J h
 refine V B (c285 x_0 _ hx8)<|D B<|F km3 fun _=>?_
 refine E<|G<|D B ?_
 obtain ⟨x10,hx10,h⟩:=J h
 refine V B (c285 y _ hx10)<|D B<|F km4 fun _=>?_
 refine E<|E<|G<|D B<|F km4 fun _=>?_
 refine U B (fun hc11=>?_) (fun hc11=>?_)
 ·replace h:=R hc11 h
  refine E<|E<|G<|D B<|F km1 fun _=>?_
  refine U B (fun hc12=>?_) (fun hc12=>?_)
  ·replace h:=R hc12 h
   refine E<|G<|D B<|F km1 fun _=>?_
   exact L (by cases h;rfl)
  ·replace h:=S hc12 h
   refine T kn fun _=>?_
   refine E<|G<|D B<|F km1 fun _=>?_
   exact L (by cases h;rfl)
 ·replace h:=S hc11 h
  refine T km3 fun _=>?_
  refine E<|E<|G<|D B<|F km3 fun _=>?_
  refine U B (fun hc13=>?_) (fun hc13=>?_)
  ·replace h:=R hc13 h
   refine E<|G<|D B<|F km1 fun _=>?_
   exact L (by cases h;rfl)
  ·replace h:=S hc13 h
   refine T km2 fun _=>?_
   refine E<|E<|G<|D B<|D B<|Y B B<|F km3 fun _=>?_
   refine U B (fun hc16=>?_) (fun hc16=>?_)
   ·replace h:=R hc16 h
    refine E<|G<|D B<|F km1 fun _=>?_
    exact L (by cases h;rfl)
   ·replace h:=S hc16 h
    refine T km2 fun _=>?_
    refine E<|E<|G<|D B<|D B<|f3 B B<|F km1 fun _=>?_
    refine U B (fun hc19=>?_) (fun hc19=>?_)
    ·replace h:=R hc19 h
     refine E<|G<|D B<|F km1 fun _=>?_
     exact L (by cases h;rfl)
    ·replace h:=S hc19 h
     refine T kn fun _=>?_
     refine E<|G<|D B<|F km1 fun _=>?_
     exact L (by cases h;rfl)
theorem ck286:CK f286 (Rq [Ah 2] [0]<|Rq [Aa 3 0,Aa 4 0,Bd 5 3 4,Aa 2 5] [2]<|.ret) [.tmp 2]:= by decide +kernel
theorem c286 (x_0:Int) (r:Bool) (h:cmp_isNaN_uint64 x_0=some r):Sound prog 286 [eU64 x_0] (.sh (eB r)):= by
 refine Fn ck286 fun hw=>?_
 unfold cmp_isNaN_uint64 at h
 refine E<|G<|D B<|F km1 fun _=>?_
 refine E<|G<|D B<|D B<|a9 B B<|D B<|F km1 fun _=>?_
 exact L (by cases h;rfl)
theorem ck263:CK f263 (Rq [Ae 4 0] [0,1]<|Rq [Aa 7 0,Au 8 286 7,Aa 5 8] [0,1,5]<|Rq [Aa 9 1,Au 10 286 9,Aa 6 10] [0,1,5,6]<|Sq (Rq [Aa 11 5] [0,1,6,11]<|Co 11 (Sq (Rq [Aa 12 6] [12]<|Co 12 (Rq [Ae 4 0] [4]<|.ret)<|Sk [])<|Rq [Bm 4 (-1)] [4]<|.ret)<|Sk [0,1,6])<|Sq (Rq [Aa 13 6] [0,1,13]<|Co 13 (Rq [Ae 4 1] [4]<|.ret)<|Sk [0,1])<|Sq (Rq [Aa 14 0,Aa 15 1,Am 16 14 15] [0,1,16]<|Co 16 (Rq [Bm 4 (-1)] [4]<|.ret)<|Sk [0,1])<|Sq (Rq [Aa 17 0,Aa 18 1,⟨some 19,.bin (.i) .gtr (.s 17) (.s 18),none⟩] [19]<|Co 19 (Rq [Ae 4 1] [4]<|.ret)<|Sk [])<|Rq [Ae 4 0] [4]<|.ret) [.tmp 4]:= by decide +kernel
theorem c263 (x_0:Int) (y:Int) (r:Int) (h:cmp_Compare_uint64 x_0 y=some r):Sound prog 263 [eU64 x_0,eU64 y] (.sh (eI r)):= by
 refine Fn ck263 fun hw=>?_
 unfold cmp_Compare_uint64 at h
 refine E<|G<|D B<|F km2 fun _=>?_
 refine E<|G<|D B ?_
 obtain ⟨x8,hx8,h⟩:=J h
 refine V B (c286 x_0 _ hx8)<|D B<|F km3 fun _=>?_
 refine E<|G<|D B ?_
 obtain ⟨x10,hx10,h⟩:=J h
 refine V B (c286 y _ hx10)<|D B<|F km4 fun _=>?_
 refine E<|E<|G<|D B<|F km4 fun _=>?_
 refine U B (fun hc11=>?_) (fun hc11=>?_)
 ·replace h:=R hc11 h
  refine E<|E<|G<|D B<|F km1 fun _=>?_
  refine U B (fun hc12=>?_) (fun hc12=>?_)
  ·replace h:=R hc12 h
   refine E<|G<|D B<|F km1 fun _=>?_
   exact L (by cases h;rfl)
  ·replace h:=S hc12 h
   refine T kn fun _=>?_
   refine E<|G<|D B<|F km1 fun _=>?_
   exact L (by cases h;rfl)
 ·replace h:=S hc11 h
  refine T km3 fun _=>?_
  refine E<|E<|G<|D B<|F km3 fun _=>?_
  refine U B (fun hc13=>?_) (fun hc13=>?_)
  ·replace h:=R hc13 h
   refine E<|G<|D B<|F km1 fun _=>?_
   exact L (by cases h;rfl)
  ·replace h:=S hc13 h
   refine T km2 fun _=>?_
   refine E<|E<|G<|D B<|D B<|Y B B<|F km3 fun _=>?_
   refine U B (fun hc16=>?_) (fun hc16=>?_)
   ·replace h:=R hc16 h
    refine E<|G<|D B<|F km1 fun _=>?_
    exact L (by cases h;rfl)
   ·replace h:=S hc16 h
    refine T km2 fun _=>?_
    refine E<|E<|G<|D B<|D B<|f3 B B<|F km1 fun _=>?_
    refine U B (fun hc19=>?_) (fun hc19=>?_)
    ·replace h:=R hc19 h
     refine E<|G<|D B<|F km1 fun _=>?_
     exact L (by cases h;rfl)
    ·replace h:=S hc19 h
     refine T kn fun _=>?_
     refine E<|G<|D B<|F km1 fun _=>?_
     exact L (by cases h;rfl)
theorem ck233:CK f233 (Rq [Af 2 0,Af 3 1,Ah 4] [2,3]<|Rq [Ce 13 259 3,Aa 5 13] [2,5]<|Rq [Aa 15 5,Ac 16 2 1,Ad 17 16 2,Bx 18 15 17,Aa 14 18,Al 19 14 0,Al 20 14 1,Al 21 14 2,Aa 6 19,Aa 7 20,Aa 8 21] [2,5,6,7,8]<|Rq [Aa 23 5,Ac 24 2 3,Ad 25 24 2,Bx 26 23 25,Aa 22 26,Al 27 22 0,Al 28 22 1,Al 29 22 2,Aa 9 27,Aa 10 28,Aa 11 29] [2,6,7,8,9,10,11]<|Sq (Rq [Aa 30 8,Bb 31 30,Aa 32 31,Bc 33 11 32,Bn 34 33 32,At 35 32 34] [2,6,7,9,10,35]<|Co 35 (Rq [Ah 4] [4]<|.ret)<|Sk [2,6,7,9,10])<|Rq [Aa 36 6,Aa 37 9,Ap 38 262 36 37,Aa 39 7,Aa 40 10,Ap 41 263 39 40,Cs 42 1 38 41,Au 43 261 42,Aa 12 43] [2,12]<|Rq [Ac 44 2 0,Ab 45 44,Ar 46 45 1,Aa 47 46,Az 48 12 47,Cm 49 48 0 47,Ao 50 47 49,Aa 51 50,Aq 52 2 0 51,As 53 52 51,Fb 54 53 2 51,Bc 55 54 51,Az 56 12 55,Bz 57 56 0 55,De 58 55 57 51,At 59 51 58,Aa 4 59] [4]<|.ret) [.tmp 4]:= by decide +kernel
theorem c233 (x_0:Test) (values:List Int) (r:Bool) (h:difference_Holds x_0 values=some r):Sound prog 233 [eTest x_0,lI values] (.sh (eB r)):= by
 refine Fn ck233 fun hw=>?_
 unfold difference_Holds at h
 refine E<|G<|X B B<|X B B<|D B<|F km2 fun _=>?_
 refine E<|G<|g1 B<|D B<|F km2 fun _=>?_
 refine E<|G<|D B<|O B<|M B B (B:_=eTerm x_0.Left) ?_
 obtain ⟨x18,hx18,h⟩:=J h
 refine q6 B B (c259 x_0.Left values _ hx18)<|e5 B<|b4 B B<|b4 B B<|b4 B B<|D B<|D B<|D B<|F km5 fun _=>?_
 refine E<|G<|D B<|O B<|M B B (B:_=eTerm x_0.Right) ?_
 obtain ⟨x26,hx26,h⟩:=J h
 refine q6 B B (c259 x_0.Right values _ hx26)<|e5 B<|b4 B B<|b4 B B<|b4 B B<|D B<|D B<|D B<|F km7 fun _=>?_
 refine E<|E<|G<|D B<|d4 B<|D B ?_
 refine gO 3 [33,34] 35 (!x18.2.2) (!x26.2.2) (fun hg35=>?_) (fun hg35=>?_) ?_
 ·refine I B hg35<|I B hg35<|a4 B hg35 B ?_
  exact ⟨⟨_,_,B⟩⟩
 ·refine H B hg35<|D B<|H B hg35<|d4 B<|a5 B hg35 B ?_
  exact ⟨⟨_,_,B⟩⟩
 rintro _ ⟨_,_,rfl⟩
 refine F km6 fun _=>?_
 refine U B (fun hc35=>?_) (fun hc35=>?_)
 ·replace h:=R hc35 h
  refine E<|G<|D B<|F km1 fun _=>?_
  exact L (by cases h;rfl)
 ·replace h:=S hc35 h
  refine T km5 fun _=>?_
  refine E<|G<|D B<|D B ?_
  obtain ⟨x38,hx38,h⟩:=J h
  refine V B (c262 x18.1 x26.1 _ hx38)<|D B<|D B ?_
  obtain ⟨x41,hx41,h⟩:=J h
  refine V B (c263 x18.2.1 x26.2.1 _ hx41)<|e4 (e:=eI) (l:=[x38,x41]) B B (fun _=>rfl) ?_
  obtain ⟨x43,hx43,h⟩:=J h
  refine V B (c261 [x38,x41] _ hx43)<|D B<|F km2 fun _=>?_
  refine E<|G<|O B<|K B<|b2 B B<|D B ?_
  refine gA 3 [48,49] 50 (decide (x_0.Kind=1)) (decide (x43<=0)) (fun hg50=>?_) (fun hg50=>?_) ?_
  ·refine H B hg50<|D B<|H B hg50<|f7 B B<|a4 B hg50 B ?_
   exact ⟨⟨_,_,B⟩⟩
  ·refine I B hg50<|I B hg50<|a5 B hg50 B ?_
   exact ⟨⟨_,_,B⟩⟩
  rintro _ ⟨_,_,rfl⟩
  refine D B ?_
  refine gO 8 [52,53,54,55,56,57,58] 59 ((decide (x_0.Kind=1))&&(decide (x43<=0))) ((decide (x_0.Kind=2))&&(decide (x43=0))) (fun hg59=>?_) (fun hg59=>?_) ?_
  ·refine I B hg59<|I B hg59<|I B hg59<|I B hg59<|f2 B<|f2 B<|I B hg59<|a4 B hg59 B ?_
   exact ⟨⟨_,_,_,_,_,_,_,B⟩⟩
  ·refine H B hg59<|O B<|H B hg59<|K B<|H B hg59<|b2 B B<|H B hg59<|D B ?_
   refine gA 3 [56,57] 58 (decide (x_0.Kind=2)) (decide (x43=0)) (fun hg58=>?_) (fun hg58=>?_) ?_
   ·refine H B hg58<|D B<|H B hg58<|b2 B B<|H B hg59<|a4 B hg58 B ?_
    exact ⟨⟨_,_,B⟩⟩
   ·refine I B hg58<|I B hg58<|H B hg59<|a5 B hg58 B ?_
    exact ⟨⟨_,_,B⟩⟩
   rintro _ ⟨_,_,rfl⟩
   refine a5 B hg59 B ?_
   exact ⟨⟨_,_,_,_,_,_,_,B⟩⟩
  rintro _ ⟨_,_,_,_,_,_,_,rfl⟩
  refine D B<|F km1 fun _=>?_
  exact L (by cases h;rfl)
theorem ck178:CK f178 (Rq [Af 3 0,Af 4 1,Af 5 2,Ba 6 1,Ae 7 0] [3,4,5]<|Sq (Dr [8,9,16,17,18,19,20,21] [Ac 16 3 3,Ab 17 16,⟨some 18,.mkx 1 [.int .i64 0] (.s 17),none⟩,Ac 19 3 3,Ab 20 19,Dv 21 1 20,Bw 8 18,Bw 9 21] [3,4,5,8,9])<|Sq (Rq [Ac 22 3 2,Ab 23 22,Ag 24 23,Ae 25 0] [3,4,5,8,9,23,24,25]<|Bl 0<|Lo [3,4,5,8,9,23,24,25]<|Rq [Am 26 25 24] [3,4,5,8,9,23,24,25,26]<|Sq (Co 26 (Sk [3,4,5,8,9,23,24,25])<|Ex 0 [3,8])<|Sq (Bl 1<|Rq [Ak 27 23 25 4,Ad 28 27 4,Dw 11 0 0 0 0,Aj 4 11 28] [3,4,5,8,9,11,23,24,25]<|Sq (Dr [12,29,30,31,32,33,34,35,36,37,38,39,40,41,42] [Ac 29 4 2,Ab 30 29,Ac 31 5 0,Ab 32 31,Ac 33 11 0,Ab 34 33,Ak 35 32 34 1,Ab 36 35,Ak 37 30 36 1,Ab 38 37,Ac 39 11 1,Ab 40 39,Ak 41 38 40 1,Ab 42 41,Aa 12 42] [3,4,5,8,9,11,12,23,24,25])<|Sq (Rq [Ac 43 11 2,Ai 44 43 0,Ab 45 44,Aa 13 45] [3,4,5,8,9,11,12,13,23,24,25]<|Rq [Aa 46 13,Bi 47 46 0,Aa 48 47,⟨some 49,.xal 9,some (48,true)⟩,Az 50 13 48,⟨some 51,.xia (.s 49) (.s 50) 1,some (48,true)⟩,⟨some 52,.xld (.s 51),some (48,true)⟩,Db 53 52 48,Ao 54 48 53] [3,4,5,8,9,11,12,13,23,24,25,54]<|Co 54 (Re [Bo 55 8,Aa 56 13,Bo 57 9,Aa 58 13,Aa 59 12,Ac 60 11 2,Ai 61 60 1,Ab 62 61,Dt 63 59 62,Cj 64 55 56 1,Du 64 63,Cj 65 57 58 1,Dk 65] [3,4,5,8,9,11,12,23,24,25])<|Sk [3,4,5,8,9,11,12,23,24,25])<|Rq [Ac 66 11 2,Ad 67 66 2,Bo 68 8,Dx 69 232 67 68,Aa 70 12,Bd 71 69 70] [3,4,5,8,9,23,24,25,71]<|Co 71 (Rq [Ba 6 1,Ae 7 11] [6,7]<|.ret)<|Sk [3,4,5,8,9,23,24,25])<|Re [An 72 25 1,Aa 25 72] [3,4,5,8,9,23,24,25])<|Sq (Rq [Ac 73 3 4,Ab 74 73,Ag 75 74,Ae 76 0] [8,74,75,76]<|Bl 2<|Lo [8,74,75,76]<|Rq [Am 77 76 75] [8,74,75,76,77]<|Sq (Co 77 (Sk [8,74,75,76])<|Ex 2 [8])<|Sq (Bl 3<|Rq [Ak 78 74 76 5,Ad 79 78 5,Em 15 0 0 0 0 0,Aj 5 15 79] [8,15,74,75,76]<|Rq [Ad 80 15 5,Bo 81 8,Dx 82 233 80 81,Bb 83 82] [8,74,75,76,83]<|Co 83 (Rq [Ba 6 1,Ae 7 16] [6,7]<|.ret)<|Sk [8,74,75,76])<|Re [An 84 76 1,Aa 76 84] [8,74,75,76])<|Rq [Cz 85 8,Ay 6 85,Ae 7 0] [6,7]<|.ret) [.tmp 6,.tmp 7]:= by decide +kernel
theorem c178 (p:Pattern) (h_1:Host) (m:Morphism) (r:(List Int × Int)) (h:attribute_solve p h_1 m=some r):Sound prog 178 [ePattern p,eHost h_1,eMorphism m] (.tp [lI r.1,eI r.2]):= by
 refine Fn ck178 fun hw=>?_
 unfold attribute_solve at h
 refine E<|G<|X B B<|X B B<|X B B<|e3<|D B<|F km3 fun _=>?_
 refine E<|e0 B<|O B<|K B ?_
 obtain ⟨x18,hx18,h⟩:=J h
 refine m3 (z:=0) B B B hx18 B<|O B<|K B ?_
 obtain ⟨x21,hx21,h⟩:=J h
 refine m3 (z:=false) B B B hx21 B<|g3 B B (by decide)<|g3 B B (by decide)<|F (kt<|kt<|kt<|kx<|kx<|kn) fun _=>?_
 refine E<|E<|G<|O B<|K B<|W B B<|D B<|F (kt<|kt<|kt<|kx<|kx<|kt<|kt<|kt<|kn) fun _=>?_
 obtain ⟨o0,ho0,h⟩:=d6 h
 refine d9 ho0 (fun (i0:Int) (s0:List Int × List Bool)=>[(3,.tv (.pt (ePattern p).cells)),(4,.tv (.pt (eHost h_1).cells)),(5,.tv (.pt (eMorphism m).cells)),(8,.xo 1 (List.map eI s0.1)),(9,.xo 1 (List.map eB s0.2)),(23,.tv (lS p.Slots)),(24,.tv (eI (p.Slots.length:Int))),(25,.tv (eI i0))]) (fun (s0:List Int × List Bool)=>[(3,.tv (.pt (ePattern p).cells)),(8,.xo 1 (List.map eI s0.1))]) (fun zv ze=>resIs ([.tmp 6,.tmp 7]) (.tp [lI zv.1,eI zv.2]) ze) B ?_ ?_ ?_ ?_
 ·clear h ho0
  intro i0 s0 r0 hi0 h hw0
  refine E<|G<|Y B B<|F (kt<|kt<|kt<|kx<|kx<|kt<|kt<|kt<|kt<|kn) fun _=>?_
  refine E<|d1 B (d2 hi0)<|T (kt<|kt<|kt<|kx<|kx<|kt<|kt<|kt<|kn) fun _=>?_
  refine E<|b3<|E<|G ?_
  obtain ⟨x27,hx27,h⟩:=J h
  refine a2 B B B hx27 B<|M B B (B:_=eSlot x27)<|b6 B<|a6 B B B B B<|F (kt<|kt<|kt<|kx<|kx<|kb<|kt<|kt<|kt<|kn) fun _=>?_
  refine E<|e0 B<|O B<|K B<|O B<|K B<|a7 B<|K B ?_
  obtain ⟨x35,hx35,h⟩:=J h
  refine a2 B B B hx35 B<|K B ?_
  obtain ⟨x37,hx37,h⟩:=J h
  refine a2 B B B hx37 B<|K B<|a7 B<|K B ?_
  obtain ⟨x41,hx41,h⟩:=J h
  refine a2 B B B hx41 B<|K B<|D B<|F (kt<|kt<|kt<|kx<|kx<|kb<|kt<|kt<|kt<|kt<|kn) fun _=>?_
  refine E<|E<|G<|a7 B<|b5 B B<|K B<|D B<|F (kt<|kt<|kt<|kx<|kx<|kb<|kt<|kt<|kt<|kt<|kt<|kn) fun _=>?_
  refine E<|G<|D B<|e1 B B<|D B ?_
  obtain ⟨x54,hx54,h⟩:=J h
  refine gX 6 [49,50,51,52,53] 54 x54 (decide (0<=x27.Term.Var)) (fun hg54=>?_) (fun hg54=>?_) ?_
  ·replace h:=R hg54 hx54
   refine H B hg54<|f4 B<|H B hg54<|D B ?_
   obtain ⟨x51,hx51,h⟩:=J h
   refine H B hg54<|g7 B B B hx51<|H B hg54<|p2 (i:=0) B B B (fun _=>rfl) hx51 B B B B<|H B hg54<|d4 B ?_
   cases h
   refine a4 B hg54 B ?_
   exact ⟨⟨_,_,_,_,_,B⟩⟩
  ·replace h:=S hg54 hx54
   cases h
   refine I B hg54<|I B hg54<|I B hg54<|I B hg54<|I B hg54<|a5 B hg54 B ?_
   exact ⟨⟨_,_,_,_,_,B⟩⟩
  rintro _ ⟨_,_,_,_,_,rfl⟩
  refine F (kt<|kt<|kt<|kx<|kx<|kb<|kt<|kt<|kt<|kt<|kt<|kt<|kn) fun _=>?_
  refine U B (fun hc54=>?_) (fun hc54=>?_)
  ·replace h:=R hc54 h
   refine G<|f4 B<|D B<|f4 B<|D B<|D B<|a7 B<|b5 B B<|K B<|g6 B B ?_
   obtain ⟨x64,hx64,h⟩:=J h
   refine g7 B B B hx64<|g9 (i:=0) (b:=(w64 (x41 - x27.Term.Add))) B B B B (fun _=>rfl) hx64 B B B B B B ?_
   obtain ⟨x65,hx65,h⟩:=J h
   refine g7 B B B hx65<|g9 (i:=0) (b:=true) B B B B (fun _=>rfl) hx65 B B B B B B<|F (kt<|kt<|kt<|kx<|kx<|kb<|kt<|kt<|kt<|kt<|kn) fun _=>?_
   refine E<|G<|a7 B<|M B B (B:_=eTerm x27.Term)<|f4 B ?_
   obtain ⟨x69,hx69,h⟩:=J h
   refine l0 B (c232 x27.Term (setE s0.1 x27.Term.Var (w64 (x41 - x27.Term.Add))) _ hx69) B<|D B<|a9 B B<|F (kt<|kt<|kt<|kx<|kx<|kt<|kt<|kt<|kt<|kn) fun _=>?_
   refine U B (fun hc71=>?_) (fun hc71=>?_)
   ·replace h:=R hc71 h
    refine E<|G<|e3<|D B<|F (ko<|kt<|kn) fun _=>?_
    refine L ?_
    cases h
    exact ⟨_,rfl,⟨by decide,rfl⟩⟩
   ·replace h:=S hc71 h
    refine T (kt<|kt<|kt<|kx<|kx<|kt<|kt<|kt<|kn) fun _=>?_
    refine G<|a8 B B<|D B<|F (kt<|kt<|kt<|kx<|kx<|kt<|kt<|kt<|kn) ?_
    cases h
    refine ⟨_,B,?_⟩
    rw [Ktv rfl (Ktv rfl (Ktv rfl (Kxo rfl (Kxo rfl (Ktv rfl (Ktv rfl (Ktv rfl (Knil _))))))))]
    rw [b7 (Z (hw0 25)) hi0 (b9 (Z (hw0 24)))]
    all_goals rfl
  ·replace h:=S hc54 h
   refine T (kt<|kt<|kt<|kx<|kx<|kb<|kt<|kt<|kt<|kt<|kn) fun _=>?_
   refine E<|G<|a7 B<|M B B (B:_=eTerm x27.Term)<|f4 B ?_
   obtain ⟨x69,hx69,h⟩:=J h
   refine l0 B (c232 x27.Term s0.1 _ hx69) B<|D B<|a9 B B<|F (kt<|kt<|kt<|kx<|kx<|kt<|kt<|kt<|kt<|kn) fun _=>?_
   refine U B (fun hc71=>?_) (fun hc71=>?_)
   ·replace h:=R hc71 h
    refine E<|G<|e3<|D B<|F (ko<|kt<|kn) fun _=>?_
    refine L ?_
    cases h
    exact ⟨_,rfl,⟨by decide,rfl⟩⟩
   ·replace h:=S hc71 h
    refine T (kt<|kt<|kt<|kx<|kx<|kt<|kt<|kt<|kn) fun _=>?_
    refine G<|a8 B B<|D B<|F (kt<|kt<|kt<|kx<|kx<|kt<|kt<|kt<|kn) ?_
    cases h
    refine ⟨_,B,?_⟩
    rw [Ktv rfl (Ktv rfl (Ktv rfl (Kxo rfl (Kxo rfl (Ktv rfl (Ktv rfl (Ktv rfl (Knil _))))))))]
    rw [b7 (Z (hw0 25)) hi0 (b9 (Z (hw0 24)))]
    all_goals rfl
 ·intro i0 s0 hi0
  refine E<|G<|Y B B<|F (kt<|kt<|kt<|kx<|kx<|kt<|kt<|kt<|kt<|kn) fun _=>?_
  refine E<|d0 B (d3 hi0)<|b8 (kt<|kx<|kn) ?_
  exact ⟨rfl,rfl⟩
 ·intro s0 hs
  replace h:=d7 h hs
  intro _
  refine E<|E<|G<|O B<|K B<|W B B<|D B<|F (kx<|kt<|kt<|kt<|kn) fun _=>?_
  obtain ⟨o2,ho2,h⟩:=d6 h
  refine d9 ho2 (fun (i2:Int) (_:Unit)=>[(8,.xo 1 (List.map eI s0.1)),(74,.tv (lT p.Tests)),(75,.tv (eI (p.Tests.length:Int))),(76,.tv (eI i2))]) (fun (_:Unit)=>[(8,.xo 1 (List.map eI s0.1))]) (fun zv ze=>resIs ([.tmp 6,.tmp 7]) (.tp [lI zv.1,eI zv.2]) ze) B ?_ ?_ ?_ ?_
  ·clear h ho2
   intro i2 s2 r2 hi2 h hw2
   refine E<|G<|Y B B<|F (kx<|kt<|kt<|kt<|kt<|kn) fun _=>?_
   refine E<|d1 B (d2 hi2)<|T (kx<|kt<|kt<|kt<|kn) fun _=>?_
   refine E<|b3<|E<|G ?_
   obtain ⟨x78,hx78,h⟩:=J h
   refine a2 B B B hx78 B<|M B B (B:_=eTest x78)<|b6 B<|a6 B B B B B<|F (kx<|kb<|kt<|kt<|kt<|kn) fun _=>?_
   refine E<|G<|M B B (B:_=eTest x78)<|f4 B ?_
   obtain ⟨x82,hx82,h⟩:=J h
   refine l0 B (c233 x78 s0.1 _ hx82) B<|d4 B<|F (kx<|kt<|kt<|kt<|kt<|kn) fun _=>?_
   refine U B (fun hc83=>?_) (fun hc83=>?_)
   ·replace h:=R hc83 h
    refine E<|G<|e3<|D B<|F (ko<|kt<|kn) fun _=>?_
    refine L ?_
    cases h
    exact ⟨_,rfl,⟨by decide,rfl⟩⟩
   ·replace h:=S hc83 h
    refine T (kx<|kt<|kt<|kt<|kn) fun _=>?_
    refine G<|a8 B B<|D B<|F (kx<|kt<|kt<|kt<|kn) ?_
    cases h
    refine ⟨_,B,?_⟩
    rw [Kxo rfl (Ktv rfl (Ktv rfl (Ktv rfl (Knil _))))]
    rw [b7 (Z (hw2 76)) hi2 (b9 (Z (hw2 75)))]
    all_goals rfl
  ·intro i2 s2 hi2
   refine E<|G<|Y B B<|F (kx<|kt<|kt<|kt<|kt<|kn) fun _=>?_
   refine E<|d0 B (d3 hi2)<|b8 (kx<|kn) ?_
   exact ⟨rfl,rfl⟩
  ·intro s2 hs
   replace h:=d7 h hs
   intro _
   refine E<|G<|l6 B (by decide)<|e9 B<|D B<|F (ko<|kt<|kn) fun _=>?_
   refine L ?_
   cases h
   exact ⟨by decide,rfl⟩
  ·intro v2 ze hv hR
   replace h:=d8 h hv
   cases h
   exact hR
 ·intro v0 ze hv hR
  replace h:=d8 h hv
  cases h
  exact hR
theorem ck110:CK f110 (Rq [Af 4 0,Af 5 1,Af 6 2,Af 7 3,Ba 8 1,Ae 9 0] [4,5,6,7]<|Sq (Rq [Ad 12 4 2,Ad 13 5 5,Ad 14 6 3,Bg 15 177 12 13 14,Aa 10 15] [4,5,6,7,10]<|Rq [Aa 16 10,Ax 17 16 0] [4,5,6,7,10,17]<|Co 17 (Rq [Aa 18 10,Ba 8 1,Aa 9 18] [8,9]<|.ret)<|Sk [4,5,6,7])<|Sq (Rq [Ad 19 4 2,Ac 20 5 0,Ad 21 20 2,Ac 22 6 0,Ad 23 22 2,Ad 24 7 2,⟨some 25,.call 109 [.s 19,.s 21,.s 23,.s 24,.c (.bool false)],none⟩,Aa 11 25] [5,6,7,11]<|Rq [Aa 26 11,Ax 27 26 0] [5,6,7,11,27]<|Co 27 (Rq [Aa 28 11,Ba 8 1,Aa 9 28] [8,9]<|.ret)<|Sk [5,6,7])<|Rq [Ad 29 5 5,Ad 30 6 3,Ad 31 7 2,Bg 32 178 29 30 31,Al 33 32 0,Al 34 32 1,Ay 8 33,Aa 9 34] [8,9]<|.ret) [.tmp 8,.tmp 9]:= by decide +kernel
theorem c110 (t:Types) (p:Pattern) (h_2:Host) (m:Morphism) (r:(List Int × Int)) (h:attribute_Solve t p h_2 m=some r):Sound prog 110 [eTypes t,ePattern p,eHost h_2,eMorphism m] (.tp [lI r.1,eI r.2]):= by
 refine Fn ck110 fun hw=>?_
 unfold attribute_Solve at h
 refine E<|G<|X B B<|X B B<|X B B<|X B B<|e3<|D B<|F km4 fun _=>?_
 refine E<|E<|G<|M B B (B:_=eTypes t)<|M B B (B:_=ePattern p)<|M B B (B:_=eHost h_2) ?_
 obtain ⟨x15,hx15,h⟩:=J h
 refine V B (c177 t p h_2 _ hx15)<|D B<|F km5 fun _=>?_
 refine E<|G<|D B<|a9 B B<|F km6 fun _=>?_
 refine U B (fun hc17=>?_) (fun hc17=>?_)
 ·replace h:=R hc17 h
  refine E<|G<|D B<|e3<|D B<|F (ko<|kt<|kn) fun _=>?_
  refine L ?_
  cases h
  exact ⟨by decide,rfl⟩
 ·replace h:=S hc17 h
  refine T km4 fun _=>?_
  refine E<|E<|G<|M B B (B:_=eTypes t)<|O B<|M B B (B:_=eGraph p.Graph)<|O B<|M B B (B:_=eGraph h_2.Graph)<|M B B (B:_=eMorphism m) ?_
  obtain ⟨x25,hx25,h⟩:=J h
  refine V B (c109 t p.Graph h_2.Graph m false _ hx25)<|D B<|F km4 fun _=>?_
  refine E<|G<|D B<|a9 B B<|F km5 fun _=>?_
  refine U B (fun hc27=>?_) (fun hc27=>?_)
  ·replace h:=R hc27 h
   refine E<|G<|D B<|e3<|D B<|F (ko<|kt<|kn) fun _=>?_
   refine L ?_
   cases h
   exact ⟨by decide,rfl⟩
  ·replace h:=S hc27 h
   refine T km3 fun _=>?_
   refine E<|G<|M B B (B:_=ePattern p)<|M B B (B:_=eHost h_2)<|M B B (B:_=eMorphism m) ?_
   obtain ⟨x32,hx32,h⟩:=J h
   refine e8 B (c178 p h_2 m _ hx32)<|b4 B B<|b4 B B<|f8 B<|D B<|F km2 fun _=>?_
   refine L ?_
   cases h
   exact ⟨by decide,rfl⟩
theorem ck47:CK f47 (Rq [Af 6 0,Af 7 1,Af 8 2,Af 9 3,Af 10 4,Ae 12 0] [5,6,7,8,9,10]<|Sq (Rq [Ad 19 6 2,Ad 20 7 5,Ad 21 8 9,Bg 22 15 19 20 21,Aa 13 22] [5,6,7,9,10,13]<|Rq [Aa 23 13,Ax 24 23 0] [5,6,7,9,10,13,24]<|Co 24 (Rq [Aa 25 13,Aa 12 25] [12]<|.ret)<|Sk [5,6,7,9,10])<|Sq (Rq [Ad 27 6 2,Ad 28 9 3,Ap 29 108 27 28,Aa 26 29,Al 30 26 0,Al 31 26 1,Aa 14 30,Aa 15 31] [5,6,7,9,10,15]<|Rq [Aa 32 15,Ax 33 32 0] [5,6,7,9,10,15,33]<|Co 33 (Rq [Aa 34 15,Aa 12 34] [12]<|.ret)<|Sk [5,6,7,9,10])<|Sq (Rq [Ad 35 6 2,Ac 36 7 0,Ad 37 36 2,Ac 38 9 0,Ad 39 38 2,Ac 40 10 0,Ad 41 40 2,Aa 42 5,Ep 43 109 35 37 39 41 42,Aa 16 43] [6,7,9,10,16]<|Rq [Aa 44 16,Ax 45 44 0] [6,7,9,10,16,45]<|Co 45 (Rq [Aa 46 16,Aa 12 46] [12]<|.ret)<|Sk [6,7,9,10])<|Rq [Ad 48 6 2,Ad 49 7 5,Ad 50 9 3,Ac 51 10 0,Ad 52 51 2,Dc 53 110 48 49 50 52,Aa 47 53,Al 54 47 0,Al 55 47 1,Ay 17 54,Aa 18 55] [10,17,18]<|Sq (Rq [Aa 56 18,Ax 57 56 0] [10,17,18,57]<|Co 57 (Rq [Aa 58 18,Aa 12 58] [12]<|.ret)<|Sk [10,17])<|Sq (Rq [Aa 59 17,Ac 60 10 2,Ab 61 60,Ap 62 73 59 61,Bb 63 62] [63]<|Co 63 (Rq [Ae 12 11] [12]<|.ret)<|Sk [])<|Rq [Ae 12 0] [12]<|.ret) [.tmp 12]:= by decide +kernel
theorem c47 (t:Types) (p:Pattern) (c:Condition) (h_3:Host) (m:GMatch) (injective:Bool) (r:Int) (h:condition_given t p c h_3 m injective=some r):Sound prog 47 [eTypes t,ePattern p,eCondition c,eHost h_3,eGMatch m,eB injective] (.sh (eI r)):= by
 refine Fn ck47 fun hw=>?_
 unfold condition_given at h
 refine E<|G<|X B B<|X B B<|X B B<|X B B<|X B B<|D B<|F km6 fun _=>?_
 refine E<|E<|G<|M B B (B:_=eTypes t)<|M B B (B:_=ePattern p)<|M B B (B:_=eCondition c) ?_
 obtain ⟨x22,hx22,h⟩:=J h
 refine V B (c15 t p c _ hx22)<|D B<|F km6 fun _=>?_
 refine E<|G<|D B<|a9 B B<|F km7 fun _=>?_
 refine U B (fun hc24=>?_) (fun hc24=>?_)
 ·replace h:=R hc24 h
  refine E<|G<|D B<|D B<|F km1 fun _=>?_
  exact L (by cases h;rfl)
 ·replace h:=S hc24 h
  refine T km5 fun _=>?_
  refine E<|E<|G<|M B B (B:_=eTypes t)<|M B B (B:_=eHost h_3) ?_
  obtain ⟨x29,hx29,h⟩:=J h
  refine e8 B (c108 t h_3 _ hx29)<|e5 B<|b4 B B<|b4 B B<|D B<|D B<|F km6 fun _=>?_
  refine E<|G<|D B<|a9 B B<|F km7 fun _=>?_
  refine U B (fun hc33=>?_) (fun hc33=>?_)
  ·replace h:=R hc33 h
   refine E<|G<|D B<|D B<|F km1 fun _=>?_
   exact L (by cases h;rfl)
  ·replace h:=S hc33 h
   refine T km5 fun _=>?_
   refine E<|E<|G<|M B B (B:_=eTypes t)<|O B<|M B B (B:_=eGraph p.Graph)<|O B<|M B B (B:_=eGraph h_3.Graph)<|O B<|M B B (B:_=eMorphism m.Morphism)<|D B ?_
   obtain ⟨x43,hx43,h⟩:=J h
   refine V B (c109 t p.Graph h_3.Graph m.Morphism injective _ hx43)<|D B<|F km5 fun _=>?_
   refine E<|G<|D B<|a9 B B<|F km6 fun _=>?_
   refine U B (fun hc45=>?_) (fun hc45=>?_)
   ·replace h:=R hc45 h
    refine E<|G<|D B<|D B<|F km1 fun _=>?_
    exact L (by cases h;rfl)
   ·replace h:=S hc45 h
    refine T km4 fun _=>?_
    refine E<|G<|M B B (B:_=eTypes t)<|M B B (B:_=ePattern p)<|M B B (B:_=eHost h_3)<|O B<|M B B (B:_=eMorphism m.Morphism) ?_
    obtain ⟨x53,hx53,h⟩:=J h
    refine e8 B (c110 t p h_3 m.Morphism _ hx53)<|e5 B<|b4 B B<|b4 B B<|f8 B<|D B<|F km3 fun _=>?_
    refine E<|E<|G<|D B<|a9 B B<|F km4 fun _=>?_
    refine U B (fun hc57=>?_) (fun hc57=>?_)
    ·replace h:=R hc57 h
     refine E<|G<|D B<|D B<|F km1 fun _=>?_
     exact L (by cases h;rfl)
    ·replace h:=S hc57 h
     refine T km2 fun _=>?_
     refine E<|E<|G<|D B<|O B<|K B ?_
     obtain ⟨x62,hx62,h⟩:=J h
     refine V B (c73 x53.1 m.Vars _ hx62)<|d4 B<|F km1 fun _=>?_
     refine U B (fun hc63=>?_) (fun hc63=>?_)
     ·replace h:=R hc63 h
      refine E<|G<|D B<|F km1 fun _=>?_
      exact L (by cases h;rfl)
     ·replace h:=S hc63 h
      refine T kn fun _=>?_
      refine E<|G<|D B<|F km1 fun _=>?_
      exact L (by cases h;rfl)
theorem ck132:CK f132 (Rq [Ah 3] [0,1]<|Rq [Aa 4 0,⟨some 5,.bin (.i) .lss (.s 4) (.c (.int .i64 (-1))),none⟩,Aa 6 5,Bc 7 0 6,As 8 1 6,Ci 9 7 8 6,At 10 6 9,Aa 3 10] [3]<|.ret) [.tmp 3]:= by decide +kernel
theorem c132 (k:Int) (c0:Int) (r:Bool) (h:search_open_1 k c0=some r):Sound prog 132 [eI k,.pt [eI c0]] (.sh (eB r)):= by
 refine Fn ck132 fun hw=>?_
 unfold search_open_1 at h
 refine E<|G<|D B<|F km2 fun _=>?_
 refine E<|G<|D B<|Y B B<|D B ?_
 refine gO 4 [7,8,9] 10 (decide (k<(-1))) (decide (c0<=k)) (fun hg10=>?_) (fun hg10=>?_) ?_
 ·refine I B hg10<|I B hg10<|I B hg10<|a4 B hg10 B ?_
  exact ⟨⟨_,_,_,B⟩⟩
 ·refine H B hg10<|D B<|H B hg10<|K B<|H B hg10<|e1 B B<|a5 B hg10 B ?_
  exact ⟨⟨_,_,_,B⟩⟩
 rintro _ ⟨_,_,_,rfl⟩
 refine D B<|F km1 fun _=>?_
 exact L (by cases h;rfl)
theorem ck63:CK f63 (Rq [Af 3 1,Ae 4 0] [0,3]<|Sq (Rq [Aa 5 0,Ce 6 132 3,Ap 7 81 5 6] [7]<|Co 7 (Rq [Ae 4 6] [4]<|.ret)<|Sk [])<|Rq [Ae 4 0] [4]<|.ret) [.tmp 4]:= by decide +kernel
theorem c63 (l:List Int) (n:Int) (r:Int) (h:search_open l n=some r):Sound prog 63 [lI l,eI n] (.sh (eI r)):= by
 refine Fn ck63 fun hw=>?_
 unfold search_open at h
 refine E<|G<|X B B<|D B<|F km2 fun _=>?_
 refine E<|E<|G<|D B<|g1 B ?_
 obtain ⟨x7,hx7,h⟩:=J h
 refine V B (c81 l (fun y0=>search_open_1 y0 n) _ _ (fun y0 r h=>c132 y0 n r h) _ hx7)<|F km1 fun _=>?_
 refine U B (fun hc7=>?_) (fun hc7=>?_)
 ·replace h:=R hc7 h
  refine E<|G<|D B<|F km1 fun _=>?_
  exact L (by cases h;rfl)
 ·replace h:=S hc7 h
  refine T kn fun _=>?_
  refine E<|G<|D B<|F km1 fun _=>?_
  exact L (by cases h;rfl)
theorem ck240:CK f240 (Rq [Ae 4 0] [0,1]<|Sq (Rq [Aa 5 0,Cx 6 5] [0,1,6]<|Co 6 (Rq [Bm 4 (-1)] [4]<|.ret)<|Sk [0,1])<|Rq [Aa 7 0,Aa 8 1,Ak 9 7 8 1,Ab 10 9,Aa 4 10] [4]<|.ret) [.tmp 4]:= by decide +kernel
theorem c240 (l:List Int) (i_1:Int) (r:Int) (h:search_given l i_1=some r):Sound prog 240 [lI l,eI i_1] (.sh (eI r)):= by
 refine Fn ck240 fun hw=>?_
 unfold search_given at h
 refine E<|G<|D B<|F km2 fun _=>?_
 refine E<|E<|G<|D B ?_
 obtain ⟨x6,hx6,h⟩:=J h
 refine l4 B B fun z6 hz6=>?_
 obtain rfl:=isn_false hx6 hz6
 refine F km3 fun _=>?_
 refine d0 B B<|T km2 fun _=>?_
 refine E<|G<|D B<|D B ?_
 obtain ⟨x9,hx9,h⟩:=J h
 refine a2 B B B hx9 B<|K B<|D B<|F km1 fun _=>?_
 exact L (by cases h;rfl)
theorem ck243:CK f243 (Rq [Ah 6] [0,1,2]<|Rq [Aa 9 0,Ai 10 9 0,Ai 11 10 0,Ai 12 11 1,Ab 13 12,Aa 14 1,Ak 15 13 14 3,Ad 16 15 3,Cr 7 0 0 0,Aj 3 7 16] [0,1,2,7]<|Sq (Rq [Aa 17 0,Ai 18 17 0,Ai 19 18 5,Ai 20 19 1,Ab 21 20,Aa 22 1,Ap 23 240 21 22,Aa 8 23] [0,2,7,8]<|Rq [Aa 24 8,Bi 25 24 0,Aa 26 25,Az 27 8 26,Az 28 2 26,⟨some 29,.bin (.i) .neq (.s 27) (.s 28),some (26,true)⟩,Ao 30 26 29] [0,2,7,30]<|Co 30 (Rq [Ah 6] [6]<|.ret)<|Sk [0,2,7])<|Sq (Dr [6,31,32,33,34,35,36,37,38,39,40,41,42,43,44,45,46,47,48,49,50,51,52,53,54,55,56,57,58] [Aa 31 0,Ai 32 31 0,Ai 33 32 2,Ai 34 33 1,Ab 35 34,Aa 36 2,Ak 37 35 36 3,Ad 38 37 3,Ac 39 7 0,Ab 40 39,Aa 41 0,Ai 42 41 0,Ai 43 42 9,Ab 44 43,Ac 45 7 1,Ab 46 45,Ak 47 44 46 1,Ab 48 47,Aa 49 0,Ai 50 49 0,Ai 51 50 9,Ab 52 51,Ac 53 7 2,Ab 54 53,Ak 55 52 54 1,Ab 56 55,⟨some 57,.bld [.int .i64 0,.int .i64 0,.int .i64 0] [(0,1,.s 40),(1,1,.s 48),(2,1,.s 56)],none⟩,⟨some 58,.bin (.a [0,0,0]) .eql (.s 38) (.s 57),none⟩,Aa 6 58] [6])<|.ret) [.tmp 6]:= by decide +kernel
theorem c243 (f:search_finder) (i_1:Int) (k:Int) (r:Bool) (h:__search_finder__fits f i_1 k=some r):Sound prog 243 [.pt (esearch_finder f).cells,eI i_1,eI k] (.sh (eB r)):= by
 refine Fn ck243 fun hw=>?_
 unfold __search_finder__fits at h
 refine E<|G<|D B<|F km3 fun _=>?_
 refine E<|G<|D B<|d5 B<|d5 B<|d5 B<|K B<|D B ?_
 obtain ⟨x15,hx15,h⟩:=J h
 refine a2 B B B hx15 B<|M B B (B:_=eEdge x15)<|b6 B<|a6 B B B B B<|F (kt<|kt<|kt<|kb<|kn) fun _=>?_
 refine E<|E<|G<|D B<|d5 B<|d5 B<|d5 B<|K B<|D B ?_
 obtain ⟨x23,hx23,h⟩:=J h
 refine V B (c240 f.partial_.Edges i_1 _ hx23)<|D B<|F (kt<|kt<|kb<|kt<|kn) fun _=>?_
 refine E<|G<|D B<|e1 B B<|D B ?_
 refine gA 4 [27,28,29] 30 (decide (0<=x23)) (!decide (x23=k)) (fun hg30=>?_) (fun hg30=>?_) ?_
 ·refine H B hg30<|D B<|H B hg30<|D B<|H B hg30<|a9 B B<|a4 B hg30 B ?_
  exact ⟨⟨_,_,_,B⟩⟩
 ·refine I B hg30<|I B hg30<|I B hg30<|a5 B hg30 B ?_
  exact ⟨⟨_,_,_,B⟩⟩
 rintro _ ⟨_,_,_,rfl⟩
 refine F (kt<|kt<|kb<|kt<|kn) fun _=>?_
 refine U B (fun hc30=>?_) (fun hc30=>?_)
 ·replace h:=R hc30 h
  refine E<|G<|D B<|F km1 fun _=>?_
  exact L (by cases h;rfl)
 ·replace h:=S hc30 h
  refine T (kt<|kt<|kb<|kn) fun _=>?_
  refine E<|e0 B<|D B<|d5 B<|d5 B<|d5 B<|K B<|D B ?_
  obtain ⟨x37,hx37,h⟩:=J h
  refine a2 B B B hx37 B<|M B B (B:_=eEdge x37)<|a7 B<|K B<|D B<|d5 B<|d5 B<|K B<|a7 B<|K B ?_
  obtain ⟨x47,hx47,h⟩:=J h
  refine a2 B B B hx47 B<|K B<|D B<|d5 B<|d5 B<|K B<|a7 B<|K B ?_
  obtain ⟨x55,hx55,h⟩:=J h
  refine a2 B B B hx55 B<|K B<|f5 B B B (B:_=eEdge (Edge.mk x15.Type' x47 x55))<|t5 B B B (eqi_Edge _ _)<|D B<|F km1 fun _=>?_
  exact L (by cases h;rfl)
theorem ck242:CK f242 (Rq [Ah 2] [0]<|Rq [Aa 8 0,Ai 9 8 0,Ai 10 9 9,Ab 11 10,Ag 12 11,Dj 13 12 1,Aa 3 13] [0,3]<|Sq (Rq [Aa 14 0,Ai 15 14 0,Ai 16 15 0,Ai 17 16 1,Ab 18 17,Ag 19 18,Ae 20 0] [0,3,18,19,20]<|Bl 0<|Lo [0,3,18,19,20]<|Rq [Am 21 20 19] [0,3,18,19,20,21]<|Sq (Co 21 (Sk [0,3,18,19,20])<|Ex 0 [])<|Sq (Bl 1<|Rq [Aa 22 20,Ak 23 18 20 3,Ad 24 23 3,Cr 5 0 0 0,Aa 4 22,Aj 3 5 24] [0,3,4,5,18,19,20]<|Sq (Rq [Ac 25 5 1,Ab 26 25,Ac 27 5 2,Ab 28 27,En 29 26 28,Aa 30 3,Bd 31 29 30] [0,3,4,18,19,20,31]<|Co 31 (Ex 1 [0,3,18,19,20])<|Sk [0,3,4,18,19,20])<|Rq [Ah 6] [0,3,4,6,18,19,20]<|Sq (Rq [Aa 32 0,Ai 33 32 0,Ai 34 33 2,Ai 35 34 1,Ab 36 35,Ag 37 36,Ae 38 0] [0,3,4,6,18,19,20,37,38]<|Bl 2<|Lo [0,3,4,6,18,19,20,37,38]<|Rq [Am 39 38 37] [0,3,4,6,18,19,20,37,38,39]<|Sq (Co 39 (Sk [0,3,4,6,18,19,20,37,38])<|Ex 2 [0,3,6,18,19,20])<|Sq (Bl 3<|Rq [Aa 40 38,Aa 7 40] [0,3,4,6,7,18,19,20,37,38]<|Rq [Aa 41 0,Aa 42 4,Aa 43 7,Bg 44 243 41 42 43] [0,3,4,6,18,19,20,37,38,44]<|Co 44 (Rq [Bp 6] [0,3,6,18,19,20]<|Ex 2 [0,3,6,18,19,20])<|Sk [0,3,4,6,18,19,20,37,38])<|Re [An 45 38 1,Aa 38 45] [0,3,4,6,18,19,20,37,38])<|Rq [Aa 46 6,Bb 47 46] [0,3,18,19,20,47]<|Co 47 (Rq [Ah 2] [2]<|.ret)<|Sk [0,3,18,19,20])<|Re [An 48 20 1,Aa 20 48] [0,3,18,19,20])<|Rq [Bp 2] [2]<|.ret) [.tmp 2]:= by decide +kernel
theorem c242 (f:search_finder) (r:Bool) (h:__search_finder__possible f=some r):Sound prog 242 [.pt (esearch_finder f).cells] (.sh (eB r)):= by
 refine Fn ck242 fun hw=>?_
 unfold __search_finder__possible at h
 refine E<|G<|D B<|F km1 fun _=>?_
 refine E<|G<|D B<|d5 B<|d5 B<|K B<|W B B<|g6 B B<|D B<|F km2 fun _=>?_
 refine E<|E<|G<|D B<|d5 B<|d5 B<|d5 B<|K B<|W B B<|D B<|F km5 fun _=>?_
 obtain ⟨o0,ho0,h⟩:=d6 h
 refine d9 ho0 (fun (i0:Int) (_:Unit)=>[(0,.tv (.pt (esearch_finder f).cells)),(3,.tv (eI (w64 ((f.nodes.length:Int) - 1)))),(18,.tv (lE f.p.Edges)),(19,.tv (eI (f.p.Edges.length:Int))),(20,.tv (eI i0))]) (fun (_:Unit)=>[]) (fun zv ze=>resIs ([.tmp 2]) (.sh (eB zv)) ze) B ?_ ?_ ?_ ?_
 ·clear h ho0
  intro i0 s0 r0 hi0 h hw0
  refine E<|G<|Y B B<|F km6 fun _=>?_
  refine E<|d1 B (d2 hi0)<|T km5 fun _=>?_
  refine E<|b3<|E<|G<|D B ?_
  obtain ⟨x23,hx23,h⟩:=J h
  refine a2 B B B hx23 B<|M B B (B:_=eEdge x23)<|b6 B<|D B<|a6 B B B B B<|F (kt<|kt<|kt<|kb<|kt<|kt<|kt<|kn) fun _=>?_
  refine E<|E<|G<|a7 B<|K B<|a7 B<|K B<|p3 B B<|D B<|a9 B B<|F km7 fun _=>?_
  refine U B (fun hc31=>?_) (fun hc31=>?_)
  ·replace h:=R hc31 h
   refine b8 km5 ?_
   refine p6 (i:=1) (y:=True) ?_
   intro _
   refine G<|a8 B B<|D B<|F km5 ?_
   cases h
   refine ⟨_,B,?_⟩
   rw [Ktv rfl (Ktv rfl (Ktv rfl (Ktv rfl (Ktv rfl (Knil _)))))]
   rw [b7 (Z (hw0 20)) hi0 (b9 (Z (hw0 19)))]
   all_goals rfl
  ·replace h:=S hc31 h
   refine T km6 fun _=>?_
   refine E<|G<|D B<|F km7 fun _=>?_
   refine E<|E<|G<|D B<|d5 B<|d5 B<|d5 B<|K B<|W B B<|D B<|F km9 fun _=>?_
   obtain ⟨o2,ho2,h⟩:=d6 h
   refine d9 ho2 (fun (i2:Int) (s2:Bool)=>[(0,.tv (.pt (esearch_finder f).cells)),(3,.tv (eI (w64 ((f.nodes.length:Int) - 1)))),(4,.tv (eI i0)),(6,.tv (eB s2)),(18,.tv (lE f.p.Edges)),(19,.tv (eI (f.p.Edges.length:Int))),(20,.tv (eI i0)),(37,.tv (eI (f.g.Edges.length:Int))),(38,.tv (eI i2))]) (fun (s2:Bool)=>[(0,.tv (.pt (esearch_finder f).cells)),(3,.tv (eI (w64 ((f.nodes.length:Int) - 1)))),(6,.tv (eB s2)),(18,.tv (lE f.p.Edges)),(19,.tv (eI (f.p.Edges.length:Int))),(20,.tv (eI i0))]) (fun zv ze=>resIs ([.tmp 2]) (.sh (eB zv)) ze) B ?_ ?_ ?_ ?_
   ·clear h ho2
    intro i2 s2 r2 hi2 h hw2
    refine E<|G<|Y B B<|F km10 fun _=>?_
    refine E<|d1 B (d2 hi2)<|T km9 fun _=>?_
    refine E<|b3<|E<|G<|D B<|D B<|F km10 fun _=>?_
    refine E<|G<|D B<|D B<|D B ?_
    obtain ⟨x44,hx44,h⟩:=J h
    refine V B (c243 f i0 i2 _ hx44)<|F km10 fun _=>?_
    refine U B (fun hc44=>?_) (fun hc44=>?_)
    ·replace h:=R hc44 h
     refine E<|G<|D B<|F km6 fun _=>?_
     refine b8 km6 ?_
     refine t6 (i:=2) (j:=3) (x:=True) (by decide) ?_
     refine ⟨rfl,?_⟩
     cases h
     exact ⟨_,rfl,rfl⟩
    ·replace h:=S hc44 h
     refine T km9 fun _=>?_
     refine G<|a8 B B<|D B<|F km9 ?_
     cases h
     refine ⟨_,B,?_⟩
     rw [Ktv rfl (Ktv rfl (Ktv rfl (Ktv rfl (Ktv rfl (Ktv rfl (Ktv rfl (Ktv rfl (Ktv rfl (Knil _)))))))))]
     rw [b7 (Z (hw2 38)) hi2 (b9 (Z (hw2 37)))]
     all_goals rfl
   ·intro i2 s2 hi2
    refine E<|G<|Y B B<|F km10 fun _=>?_
    refine E<|d0 B (d3 hi2)<|b8 km6 ?_
    exact ⟨rfl,rfl⟩
   ·intro s2 hs
    replace h:=d7 h hs
    intro _
    refine E<|G<|D B<|d4 B<|F km6 fun _=>?_
    refine U B (fun hc47=>?_) (fun hc47=>?_)
    ·replace h:=R hc47 h
     refine E<|G<|D B<|F km1 fun _=>?_
     refine L ?_
     cases h
     exact ⟨_,rfl,rfl⟩
    ·replace h:=S hc47 h
     refine T km5 fun _=>?_
     refine G<|a8 B B<|D B<|F km5 ?_
     cases h
     refine ⟨_,B,?_⟩
     rw [Ktv rfl (Ktv rfl (Ktv rfl (Ktv rfl (Ktv rfl (Knil _)))))]
     rw [b7 (Z (hw0 20)) hi0 (b9 (Z (hw0 19)))]
     all_goals rfl
   ·intro v2 ze hv hR
    replace h:=d8 h hv
    cases h
    exact ⟨_,rfl,hR⟩
 ·intro i0 s0 hi0
  refine E<|G<|Y B B<|F km6 fun _=>?_
  refine E<|d0 B (d3 hi0)<|b8 kn ?_
  exact ⟨rfl,rfl⟩
 ·intro s0 hs
  replace h:=d7 h hs
  intro _
  refine E<|G<|D B<|F km1 fun _=>?_
  exact L (by cases h;rfl)
 ·intro v0 ze hv hR
  replace h:=d8 h hv
  cases h
  exact hR
noncomputable def pl198:PC:=Bl 0<|Sq (Dr [28,29,30,31,32,33,34,35,36,37,38] [Ac 29 0 0,Ai 30 29 0,Ai 31 30 11,Ab 32 31,Ag 33 32,Ac 34 0 0,Ai 35 34 0,Ai 36 35 8,Ab 37 36,Cu 38 33 37,Aa 28 38] [0,28])<|Co 28 (Sk [0])<|Sq (Dr [39,40,41,42,43,44,45,46,47,48,49,50,51] [Ac 40 0 0,Ai 41 40 0,Ai 42 41 9,Dd 43 42,Cy 44 43,Ac 45 0 0,Ai 46 45 0,Ai 47 46 0,Ai 48 47 0,Ab 49 48,Ag 50 49,Am 51 44 50,Aa 39 51] [0,39])<|Co 39 (Rq [Ac 52 0 0,Ai 53 52 0,Ai 54 53 9,Dd 55 54,Cy 56 55,Aa 2 56] [0,2]<|Rq [Ac 57 0 0,Ai 58 57 0,Ai 59 58 2,Ai 60 59 0,Ab 61 60,Ag 62 61,Ae 63 0] [0,2,61,62,63]<|Bl 1<|Lo [0,2,61,62,63]<|Rq [Am 64 63 62] [0,2,61,62,63,64]<|Sq (Co 64 (Sk [0,2,61,62,63])<|Ex 1 [0])<|Sq (Bl 2<|Rq [Aa 65 63,Ak 66 61 63 1,Ab 67 66,Aa 3 65,Aa 4 67] [0,2,3,4,61,62,63]<|Sq (Rq [Ac 68 0 0,Ai 69 68 0,Ai 70 69 5,Ai 71 70 0,Ab 72 71,Aa 73 2,Ap 74 240 72 73,Aa 5 74] [0,2,3,4,5,61,62,63]<|Sq (Dr [75,76,77,78,79,80,81,82,83,84,85,86,87,88,89,90,91,92,93,94,95,96,97,98,99,100,101,102,103,104,105,106,107,108,109,110,111,112,113,114,115] [Aa 75 5,Bi 76 75 0,Aa 77 76,Az 78 5 77,Az 79 3 77,⟨some 80,.bin (.i) .neq (.s 78) (.s 79),some (77,true)⟩,Ao 81 77 80,Aa 82 81,Aq 83 0 0 82,Bs 84 83 0 82,Bs 85 84 4 82,As 86 85 82,Aq 87 0 0 82,Bs 88 87 0 82,Bs 89 88 0 82,Bs 90 89 0 82,As 91 90 82,Bc 92 2 82,Cp 93 91 92 1 82,As 94 93 82,Cp 95 86 94 1 82,As 96 95 82,Bc 97 4 82,Cp 98 96 97 1 82,As 99 98 82,Bn 100 99 82,At 101 82 100,Aa 102 101,Aq 103 0 0 102,Bs 104 103 0 102,Bs 105 104 7 102,As 106 105 102,Bc 107 106 102,Av 108 0 0 107,Cc 109 108 0 107,Cc 110 109 9 107,⟨some 111,.lac (.s 110),some (107,true)⟩,Az 112 3 107,⟨some 113,.calll 241 [.s 111,.s 112],some (107,true)⟩,De 114 107 113 102,At 115 102 114] [0,2,3,61,62,63,115])<|Co 115 (Ex 2 [0,2,61,62,63])<|Sk [0,2,3,61,62,63])<|Rq [Ac 116 0 0,Ac 117 0 0,Ai 118 117 0,Ai 119 118 9,Dy 120 119,Aa 121 3,Bh 122 1 121,Dq 123 1 120 122,Ai 124 116 0,Ai 125 124 9,Dz 125 123] [0,2,61,62,63]<|Sq (Rq [Ac 126 0 0,Eq 127 242 126] [0,2,61,62,63,127]<|Co 127 (Re [Ac 128 0 0,Er 129 198 128 0] [0,2,61,62,63])<|Sk [0,2,61,62,63])<|Re [Ac 130 0 0,Ac 131 0 0,Ai 132 131 0,Ai 133 132 9,Dy 134 133,Aa 135 2,⟨some 136,.cut 1 134 (.s 135),none⟩,Ai 137 130 0,Ai 138 137 9,Dz 138 136] [0,2,61,62,63])<|Re [An 139 63 1,Aa 63 139] [0,2,61,62,63])<|Sq (Dr [140,141,142,143,144,145,146,147,148,149,150,151,152] [Ac 141 0 0,Ai 142 141 0,Ai 143 142 10,Dd 144 143,Cy 145 144,Ac 146 0 0,Ai 147 146 0,Ai 148 147 0,Ai 149 148 1,Ab 150 149,Ag 151 150,Am 152 145 151,Aa 140 152] [0,140])<|Co 140 (Rq [Ac 153 0 0,Ai 154 153 0,Ai 155 154 10,Dd 156 155,Cy 157 156,Aa 6 157] [0,6]<|Rq [Ac 158 0 0,Ai 159 158 0,Ai 160 159 2,Ai 161 160 1,Ab 162 161,Ag 163 162,Ae 164 0] [0,6,163,164]<|Bl 3<|Lo [0,6,163,164]<|Rq [Am 165 164 163] [0,6,163,164,165]<|Sq (Co 165 (Sk [0,6,163,164])<|Ex 3 [0])<|Sq (Bl 4<|Rq [Aa 166 164,Aa 7 166] [0,6,7,163,164]<|Sq (Rq [Ac 167 0 0,Aa 168 6,Aa 169 7,⟨some 170,.calll 243 [.s 167,.s 168,.s 169],none⟩,Bb 171 170,Aa 172 171,Aq 173 0 0 172,Bs 174 173 0 172,Bs 175 174 7 172,As 176 175 172,Bc 177 176 172,Av 178 0 0 177,Cc 179 178 0 177,Cc 180 179 10 177,⟨some 181,.lac (.s 180),some (177,true)⟩,Az 182 7 177,⟨some 183,.calll 241 [.s 181,.s 182],some (177,true)⟩,De 184 177 183 172,At 185 172 184] [0,6,7,163,164,185]<|Co 185 (Ex 4 [0,6,163,164])<|Sk [0,6,7,163,164])<|Rq [Ac 186 0 0,Ac 187 0 0,Ai 188 187 0,Ai 189 188 10,Dy 190 189,Aa 191 7,Bh 192 1 191,Dq 193 1 190 192,Ai 194 186 0,Ai 195 194 10,Dz 195 193] [0,6,163,164]<|Rq [Ac 196 0 0,Er 197 198 196 0] [0,6,163,164]<|Re [Ac 198 0 0,Ac 199 0 0,Ai 200 199 0,Ai 201 200 10,Dy 202 201,Aa 203 6,⟨some 204,.cut 1 202 (.s 203),none⟩,Ai 205 198 0,Ai 206 205 10,Dz 206 204] [0,6,163,164])<|Re [An 207 164 1,Aa 164 207] [0,6,163,164])<|Dr [8,9,10,11,12,13,14,15,16,17,18,19,20,21,22,23,24,25,26,27] [Ac 8 0 0,Ac 9 0 0,Ai 10 9 0,Ai 11 10 11,⟨some 12,.ldt (.s 11),none⟩,Ac 13 0 0,Ai 14 13 0,Ai 15 14 9,Dd 16 15,Eq 17 138 16,Ac 18 0 0,Ai 19 18 0,Ai 20 19 10,Dd 21 20,Eq 22 138 21,Ck 23 1 1 0 1 17 1 1 22,Bh 24 2 23,Bq 25 2 12 24,Ai 26 8 0,Ai 27 26 11,Es 1 27 25] [0]
theorem ck198:CK f198 pl198 []:= by decide +kernel
theorem nb198:pl198.noClm=true∧pl198.noDst 0=true:=by decide +kernel
theorem c198S (n:Nat) (ih_198:∀ (f:search_finder) (r:search_finder) (_:__search_finder__findF n f=some r),Sound prog 198 [.undef] (.bo (bxsearch_finder f) (bxsearch_finder r) 0 [])):∀ (f:search_finder) (r:search_finder) (_:__search_finder__findF (n+1) f=some r),Sound prog 198 [.undef] (.bo (bxsearch_finder f) (bxsearch_finder r) 0 []):= by
 intro f r h
 refine fnB_sound (draw_sound Tryz_follows) (f:=198) (fn:=f198) (pl:=pl198) (rv:=([])) B B (by decide) ck198.1 ck198.2 (Nat.le_of_ble_eq_true B) nb198.1 nb198.2 (fun hw hwc=>?_)
 unfold __search_finder__findF at h
 refine WP.out (c:=pl198) ?_
 unfold pl198
 refine b3<|E<|e0 B<|a7 B<|b5 B B<|b5 B B<|K B<|W B B<|a7 B<|b5 B B<|b5 B B<|K B<|b2 B B<|D B<|F (kb<|kt<|kn) fun _=>?_
 obtain ⟨w1,hw1,h⟩:=J h
 refine g8 (fun ze=>ze=[(0,.bx (bxsearch_finder w1))]) ?_ ?_
 ·replace h:=hw1
  clear hw1
  refine U B (fun hc28=>?_) (fun hc28=>?_)
  ·replace h:=R hc28 h
   refine T (kb<|kn) ?_
   cases h
   exact rfl
  ·replace h:=S hc28 h
   refine E<|e0 B<|a7 B<|b5 B B<|b5 B B<|l2 B B<|l5 B B<|a7 B<|b5 B B<|b5 B B<|b5 B B<|K B<|W B B<|Y B B<|D B<|F (kb<|kt<|kn) fun _=>?_
   refine U B (fun hc39=>?_) (fun hc39=>?_)
   ·replace h:=R hc39 h
    refine E<|G<|a7 B<|b5 B B<|b5 B B<|l2 B B<|l5 B B<|D B<|F (kb<|kt<|kn) fun _=>?_
    refine E<|G<|a7 B<|b5 B B<|b5 B B<|b5 B B<|K B<|W B B<|D B<|F (kb<|kt<|kt<|kt<|kt<|kn) fun _=>?_
    obtain ⟨s1,hs1,h⟩:=J h
    refine g2 hs1 (fun (i1:Int) (s1:search_finder)=>[(0,.bx (bxsearch_finder s1)),(2,.tv (eI (f.nodes.length:Int))),(61,.tv (lI f.g.Nodes)),(62,.tv (eI (f.g.Nodes.length:Int))),(63,.tv (eI i1))]) (fun (s1:search_finder)=>[(0,.bx (bxsearch_finder s1))]) B ?_ ?_ ?_
    ·clear h hs1
     intro i1 s1 r1 hi1 h hw1
     refine E<|G<|Y B B<|F (kb<|kt<|kt<|kt<|kt<|kt<|kn) fun _=>?_
     refine E<|d1 B (d2 hi1)<|T (kb<|kt<|kt<|kt<|kt<|kn) fun _=>?_
     refine E<|b3<|E<|G<|D B ?_
     obtain ⟨x66,hx66,h⟩:=J h
     refine a2 B B B hx66 B<|K B<|D B<|D B<|F (kb<|kt<|kt<|kt<|kt<|kt<|kt<|kn) fun _=>?_
     refine E<|E<|G<|a7 B<|b5 B B<|b5 B B<|b5 B B<|K B<|D B ?_
     obtain ⟨x74,hx74,h⟩:=J h
     refine V B (c240 s1.partial_.Nodes (f.nodes.length:Int) _ hx74)<|D B<|F (kb<|kt<|kt<|kt<|kt<|kt<|kt<|kt<|kn) fun _=>?_
     refine E<|e0 B<|D B<|e1 B B<|D B ?_
     refine gA 4 [78,79,80] 81 (decide (0<=x74)) (!decide (x74=i1)) (fun hg81=>?_) (fun hg81=>?_) ?_
     ·refine H B hg81<|D B<|H B hg81<|D B<|H B hg81<|a9 B B<|a4 B hg81 B ?_
      exact ⟨⟨_,_,_,B⟩⟩
     ·refine I B hg81<|I B hg81<|I B hg81<|a5 B hg81 B ?_
      exact ⟨⟨_,_,_,B⟩⟩
     rintro _ ⟨_,_,_,rfl⟩
     refine D B ?_
     obtain ⟨x101,hx101,h⟩:=J h
     refine gX 19 [83,84,85,86,87,88,89,90,91,92,93,94,95,96,97,98,99,100] 101 x101 ((decide (0<=x74))&&(!decide (x74=i1))) (fun hg101=>?_) (fun hg101=>?_) ?_
     ·replace h:=R hg101 hx101
      cases h
      refine I B hg101<|I B hg101<|I B hg101<|I B hg101<|I B hg101<|I B hg101<|I B hg101<|I B hg101<|I B hg101<|I B hg101<|I B hg101<|I B hg101<|I B hg101<|I B hg101<|I B hg101<|I B hg101<|I B hg101<|I B hg101<|a4 B hg101 B ?_
      exact ⟨⟨_,_,_,_,_,_,_,_,_,_,_,_,_,_,_,_,_,_,B⟩⟩
     ·replace h:=S hg101 hx101
      refine H B hg101<|a7 B<|H B hg101<|b5 B B<|H B hg101<|b5 B B<|H B hg101<|K B<|H B hg101<|a7 B<|H B hg101<|b5 B B<|H B hg101<|b5 B B<|H B hg101<|b5 B B<|H B hg101<|K B<|H B hg101<|D B ?_
      obtain ⟨x93,hx93,h⟩:=J h
      refine H B hg101<|a2 B B B hx93 B<|H B hg101<|K B ?_
      obtain ⟨x95,hx95,h⟩:=J h
      refine H B hg101<|a2 B B B hx95 B<|H B hg101<|K B<|H B hg101<|D B ?_
      obtain ⟨x98,hx98,h⟩:=J h
      refine H B hg101<|a2 B B B hx98 B<|H B hg101<|K B<|H B hg101<|d4 B ?_
      cases h
      refine a5 B hg101 B ?_
      exact ⟨⟨_,_,_,_,_,_,_,_,_,_,_,_,_,_,_,_,_,_,B⟩⟩
     rintro _ ⟨_,_,_,_,_,_,_,_,_,_,_,_,_,_,_,_,_,_,rfl⟩
     refine D B ?_
     obtain ⟨x115,hx115,h⟩:=J h
     refine gX 13 [103,104,105,106,107,108,109,110,111,112,113,114] 115 x115 x101 (fun hg115=>?_) (fun hg115=>?_) ?_
     ·replace h:=R hg115 hx115
      cases h
      refine I B hg115<|I B hg115<|I B hg115<|I B hg115<|I B hg115<|f2 B<|f2 B<|f2 B<|f2 B<|f2 B<|f2 B<|I B hg115<|a4 B hg115 B ?_
      exact ⟨⟨_,_,_,_,_,_,_,_,_,_,_,_,B⟩⟩
     ·replace h:=S hg115 hx115
      refine H B hg115<|a7 B<|H B hg115<|b5 B B<|H B hg115<|b5 B B<|H B hg115<|K B<|H B hg115<|D B ?_
      obtain ⟨x114,hx114,h⟩:=J h
      refine gX 7 [108,109,110,111,112,113] 114 x114 s1.injective (fun hg114=>?_) (fun hg114=>?_) ?_
      ·replace h:=R hg114 hx114
       refine H B hg114<|a7 B<|H B hg114<|b5 B B<|H B hg114<|b5 B B<|H B hg114<|l2 B B<|H B hg114<|D B ?_
       obtain ⟨x113,hx113,h⟩:=J h
       refine H B hg114<|l0 B (c241 s1.nodes i1 _ hx113) B ?_
       cases h
       refine H B hg115<|a4 B hg114 B ?_
       exact ⟨⟨_,_,_,_,_,_,B⟩⟩
      ·replace h:=S hg114 hx114
       cases h
       refine I B hg114<|I B hg114<|I B hg114<|I B hg114<|I B hg114<|I B hg114<|H B hg115<|a5 B hg114 B ?_
       exact ⟨⟨_,_,_,_,_,_,B⟩⟩
      rintro _ ⟨_,_,_,_,_,_,rfl⟩
      cases h
      refine a5 B hg115 B ?_
      exact ⟨⟨_,_,_,_,_,_,_,_,_,_,_,_,B⟩⟩
     rintro _ ⟨_,_,_,_,_,_,_,_,_,_,_,_,rfl⟩
     refine F (kb<|kt<|kt<|kt<|kt<|kt<|kt<|kn) fun _=>?_
     refine U B (fun hc115=>?_) (fun hc115=>?_)
     ·replace h:=R hc115 h
      refine b8 (kb<|kt<|kt<|kt<|kt<|kn) ?_
      refine p6 (i:=2) (y:=True) ?_
      intro _
      refine G<|a8 B B<|D B<|F (kb<|kt<|kt<|kt<|kt<|kn) ?_
      cases h
      show Env.keep _ _=_
      rw [Kbx rfl (Ktv rfl (Ktv rfl (Ktv rfl (Ktv rfl (Knil _)))))]
      rw [b7 (Z (hw1 63)) hi1 (b9 (Z (hw1 62)))]
      all_goals rfl
     ·replace h:=S hc115 h
      refine T (kb<|kt<|kt<|kt<|kt<|kt<|kn) fun _=>?_
      refine E<|G<|a7 B<|a7 B<|b5 B B<|b5 B B<|m4 B B B B B<|D B<|e4 (e:=eI) (l:=[i1]) B B (fun _=>rfl) ?_
      obtain ⟨x123,hx123,h⟩:=J h
      refine m7 B B B B hx123 B B (by decide)<|b5 B B<|b5 B B<|m5 B B B B B B<|F (kb<|kt<|kt<|kt<|kt<|kn) fun _=>?_
      refine E<|E<|G<|a7 B ?_
      obtain ⟨x127,hx127,h⟩:=J h
      refine l0 B (c242 (search_finder.mk s1.p s1.g s1.is s1.partial_ s1.injective s1.most x123 s1.edges s1.out) _ hx127) B<|F (kb<|kt<|kt<|kt<|kt<|kt<|kn) fun _=>?_
      refine U B (fun hc127=>?_) (fun hc127=>?_)
      ·replace h:=R hc127 h
       refine G<|a7 B ?_
       obtain ⟨x129,hx129,h⟩:=J h
       refine p7 B B B (by decide) B (ih_198 (search_finder.mk s1.p s1.g s1.is s1.partial_ s1.injective s1.most x123 s1.edges s1.out) _ hx129) B<|F (kb<|kt<|kt<|kt<|kt<|kn) fun _=>?_
       refine G<|a7 B<|a7 B<|b5 B B<|b5 B B<|m4 B B B B B<|D B ?_
       obtain ⟨x136,hx136,h⟩:=J h
       refine p8 B B B hx136 B B (by decide)<|b5 B B<|b5 B B<|m5 B B B B B B<|F (kb<|kt<|kt<|kt<|kt<|kn) fun _=>?_
       refine G<|a8 B B<|D B<|F (kb<|kt<|kt<|kt<|kt<|kn) ?_
       cases h
       show Env.keep _ _=_
       rw [Kbx rfl (Ktv rfl (Ktv rfl (Ktv rfl (Ktv rfl (Knil _)))))]
       rw [b7 (Z (hw1 63)) hi1 (b9 (Z (hw1 62)))]
       all_goals rfl
      ·replace h:=S hc127 h
       refine T (kb<|kt<|kt<|kt<|kt<|kn) fun _=>?_
       refine G<|a7 B<|a7 B<|b5 B B<|b5 B B<|m4 B B B B B<|D B ?_
       obtain ⟨x136,hx136,h⟩:=J h
       refine p8 B B B hx136 B B (by decide)<|b5 B B<|b5 B B<|m5 B B B B B B<|F (kb<|kt<|kt<|kt<|kt<|kn) fun _=>?_
       refine G<|a8 B B<|D B<|F (kb<|kt<|kt<|kt<|kt<|kn) ?_
       cases h
       show Env.keep _ _=_
       rw [Kbx rfl (Ktv rfl (Ktv rfl (Ktv rfl (Ktv rfl (Knil _)))))]
       rw [b7 (Z (hw1 63)) hi1 (b9 (Z (hw1 62)))]
       all_goals rfl
    ·intro i1 s1 hi1
     refine E<|G<|Y B B<|F (kb<|kt<|kt<|kt<|kt<|kt<|kn) fun _=>?_
     refine E<|d0 B (d3 hi1)<|b8 (kb<|kn) ?_
     exact ⟨rfl,rfl⟩
    ·cases h
     exact rfl
   ·replace h:=S hc39 h
    refine E<|e0 B<|a7 B<|b5 B B<|b5 B B<|l2 B B<|l5 B B<|a7 B<|b5 B B<|b5 B B<|b5 B B<|K B<|W B B<|Y B B<|D B<|F (kb<|kt<|kn) fun _=>?_
    refine U B (fun hc140=>?_) (fun hc140=>?_)
    ·replace h:=R hc140 h
     refine E<|G<|a7 B<|b5 B B<|b5 B B<|l2 B B<|l5 B B<|D B<|F (kb<|kt<|kn) fun _=>?_
     refine E<|G<|a7 B<|b5 B B<|b5 B B<|b5 B B<|K B<|W B B<|D B<|F (kb<|kt<|kt<|kt<|kn) fun _=>?_
     obtain ⟨s3,hs3,h⟩:=J h
     refine g2 hs3 (fun (i3:Int) (s3:search_finder)=>[(0,.bx (bxsearch_finder s3)),(6,.tv (eI (f.edges.length:Int))),(163,.tv (eI (f.g.Edges.length:Int))),(164,.tv (eI i3))]) (fun (s3:search_finder)=>[(0,.bx (bxsearch_finder s3))]) B ?_ ?_ ?_
     ·clear h hs3
      intro i3 s3 r3 hi3 h hw3
      refine E<|G<|Y B B<|F (kb<|kt<|kt<|kt<|kt<|kn) fun _=>?_
      refine E<|d1 B (d2 hi3)<|T (kb<|kt<|kt<|kt<|kn) fun _=>?_
      refine E<|b3<|E<|G<|D B<|D B<|F (kb<|kt<|kt<|kt<|kt<|kn) fun _=>?_
      refine E<|E<|G<|a7 B<|D B<|D B ?_
      obtain ⟨x170,hx170,h⟩:=J h
      refine l0 B (c243 s3 (f.edges.length:Int) i3 _ hx170) B<|d4 B<|D B ?_
      obtain ⟨x185,hx185,h⟩:=J h
      refine gX 13 [173,174,175,176,177,178,179,180,181,182,183,184] 185 x185 (!x170) (fun hg185=>?_) (fun hg185=>?_) ?_
      ·replace h:=R hg185 hx185
       cases h
       refine I B hg185<|I B hg185<|I B hg185<|I B hg185<|I B hg185<|f2 B<|f2 B<|f2 B<|f2 B<|f2 B<|f2 B<|I B hg185<|a4 B hg185 B ?_
       exact ⟨⟨_,_,_,_,_,_,_,_,_,_,_,_,B⟩⟩
      ·replace h:=S hg185 hx185
       refine H B hg185<|a7 B<|H B hg185<|b5 B B<|H B hg185<|b5 B B<|H B hg185<|K B<|H B hg185<|D B ?_
       obtain ⟨x184,hx184,h⟩:=J h
       refine gX 7 [178,179,180,181,182,183] 184 x184 s3.injective (fun hg184=>?_) (fun hg184=>?_) ?_
       ·replace h:=R hg184 hx184
        refine H B hg184<|a7 B<|H B hg184<|b5 B B<|H B hg184<|b5 B B<|H B hg184<|l2 B B<|H B hg184<|D B ?_
        obtain ⟨x183,hx183,h⟩:=J h
        refine H B hg184<|l0 B (c241 s3.edges i3 _ hx183) B ?_
        cases h
        refine H B hg185<|a4 B hg184 B ?_
        exact ⟨⟨_,_,_,_,_,_,B⟩⟩
       ·replace h:=S hg184 hx184
        cases h
        refine I B hg184<|I B hg184<|I B hg184<|I B hg184<|I B hg184<|I B hg184<|H B hg185<|a5 B hg184 B ?_
        exact ⟨⟨_,_,_,_,_,_,B⟩⟩
       rintro _ ⟨_,_,_,_,_,_,rfl⟩
       cases h
       refine a5 B hg185 B ?_
       exact ⟨⟨_,_,_,_,_,_,_,_,_,_,_,_,B⟩⟩
      rintro _ ⟨_,_,_,_,_,_,_,_,_,_,_,_,rfl⟩
      refine F (kb<|kt<|kt<|kt<|kt<|kt<|kn) fun _=>?_
      refine U B (fun hc185=>?_) (fun hc185=>?_)
      ·replace h:=R hc185 h
       refine b8 (kb<|kt<|kt<|kt<|kn) ?_
       refine p6 (i:=4) (y:=True) ?_
       intro _
       refine G<|a8 B B<|D B<|F (kb<|kt<|kt<|kt<|kn) ?_
       cases h
       show Env.keep _ _=_
       rw [Kbx rfl (Ktv rfl (Ktv rfl (Ktv rfl (Knil _))))]
       rw [b7 (Z (hw3 164)) hi3 (b9 (Z (hw3 163)))]
       all_goals rfl
      ·replace h:=S hc185 h
       refine T (kb<|kt<|kt<|kt<|kt<|kn) fun _=>?_
       refine E<|G<|a7 B<|a7 B<|b5 B B<|b5 B B<|m4 B B B B B<|D B<|e4 (e:=eI) (l:=[i3]) B B (fun _=>rfl) ?_
       obtain ⟨x193,hx193,h⟩:=J h
       refine m7 B B B B hx193 B B (by decide)<|b5 B B<|b5 B B<|m5 B B B B B B<|F (kb<|kt<|kt<|kt<|kn) fun _=>?_
       refine E<|G<|a7 B ?_
       obtain ⟨x197,hx197,h⟩:=J h
       refine p7 B B B (by decide) B (ih_198 (search_finder.mk s3.p s3.g s3.is s3.partial_ s3.injective s3.most s3.nodes x193 s3.out) _ hx197) B<|F (kb<|kt<|kt<|kt<|kn) fun _=>?_
       refine G<|a7 B<|a7 B<|b5 B B<|b5 B B<|m4 B B B B B<|D B ?_
       obtain ⟨x204,hx204,h⟩:=J h
       refine p8 B B B hx204 B B (by decide)<|b5 B B<|b5 B B<|m5 B B B B B B<|F (kb<|kt<|kt<|kt<|kn) fun _=>?_
       refine G<|a8 B B<|D B<|F (kb<|kt<|kt<|kt<|kn) ?_
       cases h
       show Env.keep _ _=_
       rw [Kbx rfl (Ktv rfl (Ktv rfl (Ktv rfl (Knil _))))]
       rw [b7 (Z (hw3 164)) hi3 (b9 (Z (hw3 163)))]
       all_goals rfl
     ·intro i3 s3 hi3
      refine E<|G<|Y B B<|F (kb<|kt<|kt<|kt<|kt<|kn) fun _=>?_
      refine E<|d0 B (d3 hi3)<|b8 (kb<|kn) ?_
      exact ⟨rfl,rfl⟩
     ·cases h
      exact rfl
    ·replace h:=S hc140 h
     refine e0 B<|a7 B<|a7 B<|b5 B B<|b5 B B<|q7 B B B B B<|a7 B<|b5 B B<|b5 B B<|l2 B B ?_
     obtain ⟨x17,hx17,h⟩:=J h
     refine q8 B (c138 f.nodes _ hx17) B B (fun _=>rfl)<|a7 B<|b5 B B<|b5 B B<|l2 B B ?_
     obtain ⟨x22,hx22,h⟩:=J h
     refine q8 B (c138 f.edges _ hx22) B B (fun _=>rfl)<|f5 B B B (B:_=eMorphism (Morphism.mk x17 x22))<|e4 (e:=eMorphism) (l:=[Morphism.mk x17 x22]) B B (fun _=>rfl) ?_
     obtain ⟨x25,hx25,h⟩:=J h
     refine f6 B B B B hx25 B<|b5 B B<|b5 B B<|q9 B B B (by decide) B B<|F (kb<|kn) ?_
     cases h
     exact rfl
 rintro _ rfl
 cases h
 exact ⟨rfl,rfl⟩
theorem c198A:∀ n:Nat,(∀ (f:search_finder) (r:search_finder) (_:__search_finder__findF n f=some r),Sound prog 198 [.undef] (.bo (bxsearch_finder f) (bxsearch_finder r) 0 [])):=by
  intro n
  induction n with
  | zero=>intro f r h; cases h
  | succ n ih=>exact c198S n ih
theorem c198 (f:search_finder) (r:search_finder) (h:__search_finder__find f=some r):Sound prog 198 [.undef] (.bo (bxsearch_finder f) (bxsearch_finder r) 0 []):=by
  obtain ⟨N,hN⟩:=lim_some h
  exact (c198A N) f r (hN N (Nat.le_refl _))
theorem ck133:CK f133 (Rq [Af 6 0,Af 7 1,Af 8 2,Af 9 3,Ba 12 2] [4,5,6,7,8,9]<|Sq (Dr [13,14,15,16,17,18,19,20,21] [Ad 14 7 2,Ad 15 8 2,Ad 16 6 2,Au 17 197 16,Ad 18 9 2,Aa 19 4,Aa 20 5,⟨some 21,.bld [.list 1 [],.list 3 [],.list 1 [],.list 3 [],.list 1 [],.list 1 [],.list 1 [],.bool false,.int .i64 0,.nil,.nil,.nil] [(0,2,.s 14),(2,2,.s 15),(4,1,.s 17),(5,2,.s 18),(7,1,.s 19),(8,1,.s 20)],none⟩,⟨some 22,.boxp [none,none,none,none,none,none,none,none,none,some ⟨true,.xl 1 []⟩,some ⟨true,.xl 1 []⟩,some ⟨true,.list 2 []⟩] (.s 21),none⟩,Ac 13 22 0] [13,22])<|Rq [Ai 23 13 0,Er 24 198 23 0] [13,22]<|Rq [Ai 25 13 0,Ai 26 25 0,Ai 27 26 11,Ab 28 27,Ay 12 28] [12]<|.ret) [.tmp 12]:= by decide +kernel
theorem c133 (t:Types) (p:Graph) (g:Graph) (partial_:Morphism) (injective:Bool) (most:Int) (r:(List Morphism)) (h:search_found t p g partial_ injective most=some r):Sound prog 133 [eTypes t,eGraph p,eGraph g,eMorphism partial_,eB injective,eI most] (.sh ((eL 2 eMorphism) r)):= by
 refine Fn ck133 fun hw=>?_
 unfold search_found at h
 refine E<|G<|X B B<|X B B<|X B B<|X B B<|e3<|F km6 fun _=>?_
 refine E<|e0 B<|M B B (B:_=eGraph p)<|M B B (B:_=eGraph g)<|M B B (B:_=eTypes t) ?_
 obtain ⟨x17,hx17,h⟩:=J h
 refine V B (c197 t _ hx17)<|M B B (B:_=eMorphism partial_)<|D B<|D B<|e2 B B (B:_=TV.agg [lI p.Nodes,lE p.Edges,lI g.Nodes,lE g.Edges,(eL 1 (eL 1 eB)) x17,lI partial_.Nodes,lI partial_.Edges,eB injective,eI most,.nil,.nil,.nil])<|t7 B B B<|a7 B<|F (kp<|kb<|kn) fun _=>?_
 refine E<|G<|b5 B B ?_
 obtain ⟨x24,hx24,h⟩:=J h
 refine p7 B B B (by decide) B (c198 (search_finder.mk p g x17 partial_ injective most [] [] []) _ hx24) B<|F (kp<|kb<|kn) fun _=>?_
 refine E<|G<|b5 B B<|b5 B B<|b5 B B<|K B<|f8 B<|F km1 fun _=>?_
 exact L (by cases h;rfl)
theorem ck64:CK f64 (Rq [Af 5 0,Af 6 1,Af 7 2,Af 8 3,Ba 10 2,Ae 11 0] [4,5,6,7,8]<|Rq [Ad 13 5 2,Ad 14 6 2,Ad 15 7 2,Ad 16 8 2,Aa 17 4,⟨some 18,.call 133 [.s 13,.s 14,.s 15,.s 16,.s 17,.c (.int .i64 5001)],none⟩,Ay 12 18] [12]<|Sq (Rq [Aa 19 12,Ag 20 19,Bu 21 20 5000] [12,21]<|Co 21 (Rq [Ba 10 2,Ae 11 3] [10,11]<|.ret)<|Sk [12])<|Rq [Aa 22 12,Ay 10 22,Ae 11 0] [10,11]<|.ret) [.tmp 10,.tmp 11]:= by decide +kernel
theorem c64 (t:Types) (p:Graph) (g:Graph) (partial_:Morphism) (injective:Bool) (r:(List Morphism × Int)) (h:search_all t p g partial_ injective=some r):Sound prog 64 [eTypes t,eGraph p,eGraph g,eMorphism partial_,eB injective] (.tp [(eL 2 eMorphism) r.1,eI r.2]):= by
 refine Fn ck64 fun hw=>?_
 unfold search_all at h
 refine E<|G<|X B B<|X B B<|X B B<|X B B<|e3<|D B<|F km5 fun _=>?_
 refine E<|G<|M B B (B:_=eTypes t)<|M B B (B:_=eGraph p)<|M B B (B:_=eGraph g)<|M B B (B:_=eMorphism partial_)<|D B ?_
 obtain ⟨x18,hx18,h⟩:=J h
 refine V B (c133 t p g partial_ injective 5001 _ hx18)<|f8 B<|F km1 fun _=>?_
 refine E<|E<|G<|D B<|W B B<|f3 B B<|F km2 fun _=>?_
 refine U B (fun hc21=>?_) (fun hc21=>?_)
 ·replace h:=R hc21 h
  refine E<|G<|e3<|D B<|F (ko<|kt<|kn) fun _=>?_
  refine L ?_
  cases h
  exact ⟨by decide,rfl⟩
 ·replace h:=S hc21 h
  refine T km1 fun _=>?_
  refine E<|G<|D B<|f8 B<|D B<|F km2 fun _=>?_
  refine L ?_
  cases h
  exact ⟨by decide,rfl⟩
theorem ck29:CK f29 (Rq [Af 5 0,Af 6 1,Af 7 2,Af 8 3,Ba 10 2,Ae 11 0] [4,5,6,7,8]<|Sq (Rq [Ad 15 5 2,Ad 16 6 2,Ad 17 7 2,Bg 18 62 15 16 17,Aa 12 18] [4,5,6,7,8,12]<|Rq [Aa 19 12,Ax 20 19 0] [4,5,6,7,8,12,20]<|Co 20 (Rq [Aa 21 12,Ba 10 2,Aa 11 21] [10,11]<|.ret)<|Sk [4,5,6,7,8])<|Sq (Rq [Ac 22 8 0,Ab 23 22,Ag 24 23,Ac 25 6 0,Ab 26 25,Ag 27 26,Bd 28 24 27,Aa 29 28,Aq 30 8 1 29,As 31 30 29,Bj 32 31 29,Aq 33 6 1 29,As 34 33 29,Bj 35 34 29,Cb 36 32 35 29,At 37 29 36] [4,5,6,7,8,37]<|Co 37 (Rq [Ba 10 2,Ae 11 20] [10,11]<|.ret)<|Sk [4,5,6,7,8])<|Sq (Rq [Ac 38 8 0,Ab 39 38,Ac 40 7 0,Ab 41 40,Ag 42 41,Ap 43 63 39 42,Aa 13 43] [4,5,6,7,8,13]<|Rq [Aa 44 13,Ax 45 44 0] [4,5,6,7,8,13,45]<|Co 45 (Rq [Aa 46 13,Ba 10 2,Aa 11 46] [10,11]<|.ret)<|Sk [4,5,6,7,8])<|Sq (Rq [Ac 47 8 1,Ab 48 47,Ac 49 7 1,Ab 50 49,Ag 51 50,Ap 52 63 48 51,Aa 14 52] [4,5,6,7,8,14]<|Rq [Aa 53 14,Ax 54 53 0] [4,5,6,7,8,14,54]<|Co 54 (Rq [Aa 55 14,Ba 10 2,Aa 11 55] [10,11]<|.ret)<|Sk [4,5,6,7,8])<|Rq [Ad 56 5 2,Ad 57 6 2,Ad 58 7 2,Ad 59 8 2,Aa 60 4,Ep 61 64 56 57 58 59 60,Al 62 61 0,Al 63 61 1,Ay 10 62,Aa 11 63] [10,11]<|.ret) [.tmp 10,.tmp 11]:= by decide +kernel
theorem c29 (t:Types) (p:Graph) (g:Graph) (partial_:Morphism) (injective:Bool) (r:(List Morphism × Int)) (h:search_Extend t p g partial_ injective=some r):Sound prog 29 [eTypes t,eGraph p,eGraph g,eMorphism partial_,eB injective] (.tp [(eL 2 eMorphism) r.1,eI r.2]):= by
 refine Fn ck29 fun hw=>?_
 unfold search_Extend at h
 refine E<|G<|X B B<|X B B<|X B B<|X B B<|e3<|D B<|F km5 fun _=>?_
 refine E<|E<|G<|M B B (B:_=eTypes t)<|M B B (B:_=eGraph p)<|M B B (B:_=eGraph g) ?_
 obtain ⟨x18,hx18,h⟩:=J h
 refine V B (c62 t p g _ hx18)<|D B<|F km6 fun _=>?_
 refine E<|G<|D B<|a9 B B<|F km7 fun _=>?_
 refine U B (fun hc20=>?_) (fun hc20=>?_)
 ·replace h:=R hc20 h
  refine E<|G<|D B<|e3<|D B<|F (ko<|kt<|kn) fun _=>?_
  refine L ?_
  cases h
  exact ⟨by decide,rfl⟩
 ·replace h:=S hc20 h
  refine T km5 fun _=>?_
  refine E<|E<|G<|O B<|K B<|W B B<|O B<|K B<|W B B<|a9 B B<|D B ?_
  refine gO 8 [30,31,32,33,34,35,36] 37 (!decide ((partial_.Nodes.length:Int)=(p.Nodes.length:Int))) (!decide ((partial_.Edges.length:Int)=(p.Edges.length:Int))) (fun hg37=>?_) (fun hg37=>?_) ?_
  ·refine I B hg37<|I B hg37<|I B hg37<|I B hg37<|I B hg37<|I B hg37<|I B hg37<|a4 B hg37 B ?_
   exact ⟨⟨_,_,_,_,_,_,_,B⟩⟩
  ·refine H B hg37<|O B<|H B hg37<|K B<|H B hg37<|W B B<|H B hg37<|O B<|H B hg37<|K B<|H B hg37<|W B B<|H B hg37<|a9 B B<|a5 B hg37 B ?_
   exact ⟨⟨_,_,_,_,_,_,_,B⟩⟩
  rintro _ ⟨_,_,_,_,_,_,_,rfl⟩
  refine F km6 fun _=>?_
  refine U B (fun hc37=>?_) (fun hc37=>?_)
  ·replace h:=R hc37 h
   refine E<|G<|e3<|D B<|F (ko<|kt<|kn) fun _=>?_
   refine L ?_
   cases h
   exact ⟨by decide,rfl⟩
  ·replace h:=S hc37 h
   refine T km5 fun _=>?_
   refine E<|E<|G<|O B<|K B<|O B<|K B<|W B B ?_
   obtain ⟨x43,hx43,h⟩:=J h
   refine V B (c63 partial_.Nodes (g.Nodes.length:Int) _ hx43)<|D B<|F km6 fun _=>?_
   refine E<|G<|D B<|a9 B B<|F km7 fun _=>?_
   refine U B (fun hc45=>?_) (fun hc45=>?_)
   ·replace h:=R hc45 h
    refine E<|G<|D B<|e3<|D B<|F (ko<|kt<|kn) fun _=>?_
    refine L ?_
    cases h
    exact ⟨by decide,rfl⟩
   ·replace h:=S hc45 h
    refine T km5 fun _=>?_
    refine E<|E<|G<|O B<|K B<|O B<|K B<|W B B ?_
    obtain ⟨x52,hx52,h⟩:=J h
    refine V B (c63 partial_.Edges (g.Edges.length:Int) _ hx52)<|D B<|F km6 fun _=>?_
    refine E<|G<|D B<|a9 B B<|F km7 fun _=>?_
    refine U B (fun hc54=>?_) (fun hc54=>?_)
    ·replace h:=R hc54 h
     refine E<|G<|D B<|e3<|D B<|F (ko<|kt<|kn) fun _=>?_
     refine L ?_
     cases h
     exact ⟨by decide,rfl⟩
    ·replace h:=S hc54 h
     refine T km5 fun _=>?_
     refine E<|G<|M B B (B:_=eTypes t)<|M B B (B:_=eGraph p)<|M B B (B:_=eGraph g)<|M B B (B:_=eMorphism partial_)<|D B ?_
     obtain ⟨x61,hx61,h⟩:=J h
     refine e8 B (c64 t p g partial_ injective _ hx61)<|b4 B B<|b4 B B<|f8 B<|D B<|F km2 fun _=>?_
     refine L ?_
     cases h
     exact ⟨by decide,rfl⟩
theorem c235 (l:List Int) (m:Int) (r:List Int) (h:slices_Repeat_int l m=some r):Sound prog 235 [lI l,eI m] (.own (lI r)):=by
  unfold slices_Repeat_int at h
  split at h
  · rename_i hl
    cases h
    obtain ⟨x,rfl⟩:=List.length_eq_one_iff.1 hl.1
    obtain ⟨k,rfl⟩:=Int.eq_ofNat_of_zero_le hl.2.1
    exact repeat_sound x k (by have:=hl.2.2; omega)
  · cases h
theorem ck181:CK f181 (Rq [Ba 6 1] [0,1,2]<|Rq [⟨some 10,.lst 1 [.c (.int .i64 (-1))],none⟩,Aa 11 0,Eg 12 235 10 11,Bw 7 12] [1,2,7]<|Sq (Rq [Aa 13 1,Ag 14 13,Ae 15 0] [2,7,13,14,15]<|Bl 0<|Lo [2,7,13,14,15]<|Rq [Am 16 15 14] [2,7,13,14,15,16]<|Sq (Co 16 (Sk [2,7,13,14,15])<|Ex 0 [7])<|Sq (Bl 1<|Rq [Aa 17 15,Ak 18 13 15 1,Ab 19 18,Aa 8 17,Aa 9 19] [2,7,8,9,13,14,15]<|Re [Bo 20 7,Aa 21 9,Aa 22 2,Aa 23 8,Ak 24 22 23 1,Ab 25 24,Cj 26 20 21 1,Du 26 25] [2,7,13,14,15])<|Re [An 27 15 1,Aa 15 27] [2,7,13,14,15])<|Rq [Cz 28 7,Ay 6 28] [6]<|.ret) [.tmp 6]:= by decide +kernel
theorem c181 (n:Int) (at':List Int) (images:List Int) (r:(List Int)) (h:condition_placed n at' images=some r):Sound prog 181 [eI n,lI at',lI images] (.own (lI r)):= by
 refine Fn ck181 fun hw=>?_
 unfold condition_placed at h
 refine E<|G<|e3<|F km3 fun _=>?_
 refine E<|G<|e4 (e:=eI) (l:=[(-1)]) B B (fun _=>rfl)<|D B ?_
 obtain ⟨x12,hx12,h⟩:=J h
 refine p4 B B (c235 [(-1)] n _ hx12) B (fun _=>rfl)<|g3 B B (by decide)<|F (kt<|kt<|kx<|kn) fun _=>?_
 refine E<|E<|G<|D B<|W B B<|D B<|F (kt<|kx<|kt<|kt<|kt<|kn) fun _=>?_
 obtain ⟨s0,hs0,h⟩:=J h
 refine g2 hs0 (fun (i0:Int) (s0:List Int)=>[(2,.tv (lI images)),(7,.xo 1 (List.map eI s0)),(13,.tv (lI at')),(14,.tv (eI (at'.length:Int))),(15,.tv (eI i0))]) (fun (s0:List Int)=>[(7,.xo 1 (List.map eI s0))]) B ?_ ?_ ?_
 ·clear h hs0
  intro i0 s0 r0 hi0 h hw0
  refine E<|G<|Y B B<|F (kt<|kx<|kt<|kt<|kt<|kt<|kn) fun _=>?_
  refine E<|d1 B (d2 hi0)<|T (kt<|kx<|kt<|kt<|kt<|kn) fun _=>?_
  refine E<|b3<|E<|G<|D B ?_
  obtain ⟨x18,hx18,h⟩:=J h
  refine a2 B B B hx18 B<|K B<|D B<|D B<|F (kt<|kx<|kt<|kt<|kt<|kt<|kt<|kn) fun _=>?_
  refine G<|f4 B<|D B<|D B<|D B ?_
  obtain ⟨x24,hx24,h⟩:=J h
  refine a2 B B B hx24 B<|K B ?_
  obtain ⟨x26,hx26,h⟩:=J h
  refine g7 B B B hx26<|g9 (i:=0) (b:=x24) B B B B (fun _=>rfl) hx26 B B B B B B<|F (kt<|kx<|kt<|kt<|kt<|kn) fun _=>?_
  refine G<|a8 B B<|D B<|F (kt<|kx<|kt<|kt<|kt<|kn) ?_
  cases h
  show Env.keep _ _=_
  rw [Ktv rfl (Kxo rfl (Ktv rfl (Ktv rfl (Ktv rfl (Knil _)))))]
  rw [b7 (Z (hw0 15)) hi0 (b9 (Z (hw0 14)))]
  all_goals rfl
 ·intro i0 s0 hi0
  refine E<|G<|Y B B<|F (kt<|kx<|kt<|kt<|kt<|kt<|kn) fun _=>?_
  refine E<|d0 B (d3 hi0)<|b8 (kx<|kn) ?_
  exact ⟨rfl,rfl⟩
 ·intro _
  refine E<|G<|l6 B (by decide)<|e9 B<|F (ko<|kn) fun _=>?_
  exact L (by cases h;rfl)
theorem ck236:CK f236 (Rq [Af 2 0,Ae 4 0,Ae 5 0] [1,2]<|Sq (Rq [Ac 6 2 0,Ab 7 6,Aa 8 1,Ag 9 8,Dj 10 9 1,⟨some 11,.call 85 [.s 7,.c (.int .i64 (-1)),.s 10],none⟩,Bb 12 11] [1,2,12]<|Co 12 (Rq [Ae 4 0,Ae 5 6] [4,5]<|.ret)<|Sk [1,2])<|Rq [Ad 13 2 2,Aa 14 1,Ap 15 232 13 14,Aa 4 15,Ae 5 0] [4,5]<|.ret) [.tmp 4,.tmp 5]:= by decide +kernel
theorem c236 (x_0:Term) (values:List Int) (r:(Int × Int)) (h:attribute_Term x_0 values=some r):Sound prog 236 [eTerm x_0,lI values] (.tp [eI r.1,eI r.2]):= by
 refine Fn ck236 fun hw=>?_
 unfold attribute_Term at h
 refine E<|G<|X B B<|D B<|D B<|F km2 fun _=>?_
 refine E<|E<|G<|O B<|K B<|D B<|W B B<|g6 B B ?_
 obtain ⟨x11,hx11,h⟩:=J h
 refine V B (c85 x_0.Var (-1) (w64 ((values.length:Int) - 1)) _ hx11)<|d4 B<|F km3 fun _=>?_
 refine U B (fun hc12=>?_) (fun hc12=>?_)
 ·replace h:=R hc12 h
  refine E<|G<|D B<|D B<|F km2 fun _=>?_
  refine L ?_
  cases h
  exact ⟨by decide,rfl⟩
 ·replace h:=S hc12 h
  refine T km2 fun _=>?_
  refine E<|G<|M B B (B:_=eTerm x_0)<|D B ?_
  obtain ⟨x15,hx15,h⟩:=J h
  refine V B (c232 x_0 values _ hx15)<|D B<|D B<|F km2 fun _=>?_
  refine L ?_
  cases h
  exact ⟨by decide,rfl⟩
theorem ck182:CK f182 (Rq [Af 4 0,Af 5 1,Af 6 2,Ba 8 1,Ah 9] [3,4,5,6]<|Sq (Dr [10,21,22,23,24,25,26,27,28] [Aa 21 3,⟨some 22,.callx 138 [.s 21],none⟩,Ac 23 5 3,Ab 24 23,Aa 25 3,Ag 26 25,Dt 27 24 26,⟨some 28,.appz 1 22 (.int .i64 0) (.s 27),none⟩,Bw 10 28] [3,4,5,6,10])<|Rq [Ac 29 5 3,Ab 30 29,Dv 31 1 30,Bw 11 31] [3,4,5,6,10,11]<|Sq (Rq [Aa 32 3,Ag 33 32,Ae 34 0] [4,5,6,10,11,33,34]<|Bl 0<|Lo [4,5,6,10,11,33,34]<|Rq [Am 35 34 33] [4,5,6,10,11,33,34,35]<|Sq (Co 35 (Sk [4,5,6,10,11,33,34])<|Ex 0 [4,5,6,10,11])<|Sq (Bl 1<|Rq [Aa 36 34,Aa 12 36] [4,5,6,10,11,12,33,34]<|Re [Bo 37 11,Aa 38 12,Cj 39 37 38 1,Dk 39] [4,5,6,10,11,33,34])<|Re [An 40 34 1,Aa 34 40] [4,5,6,10,11,33,34])<|Sq (Rq [Ac 41 5 2,Ab 42 41,Ag 43 42,Ae 44 0] [4,5,6,10,11,42,43,44]<|Bl 2<|Lo [4,5,6,10,11,42,43,44]<|Rq [Am 45 44 43] [4,5,6,10,11,42,43,44,45]<|Sq (Co 45 (Sk [4,5,6,10,11,42,43,44])<|Ex 2 [5,10])<|Sq (Bl 3<|Rq [Ak 46 42 44 4,Ad 47 46 4,Dw 14 0 0 0 0,Aj 4 14 47] [4,5,6,10,11,14,42,43,44]<|Sq (Dr [15,48,49,50,51,52,53,54,55,56,57,58,59,60,61,62] [Ac 48 4 2,Ai 49 48 2,Ab 50 49,Ac 51 6 0,Ab 52 51,Ac 53 14 0,Ab 54 53,Ak 55 52 54 1,Ab 56 55,Ak 57 50 56 1,Ab 58 57,Ac 59 14 1,Ab 60 59,Ak 61 58 60 1,Ab 62 61,Aa 15 62] [4,5,6,10,11,14,15,42,43,44])<|Sq (Rq [Ac 63 14 2,Ai 64 63 0,Ab 65 64,Aa 16 65] [4,5,6,10,11,14,15,16,42,43,44]<|Rq [Aa 66 16,Bi 67 66 0,Aa 68 67,⟨some 69,.xal 11,some (68,true)⟩,Az 70 16 68,⟨some 71,.xia (.s 69) (.s 70) 1,some (68,true)⟩,⟨some 72,.xld (.s 71),some (68,true)⟩,Db 73 72 68,Ao 74 68 73] [4,5,6,10,11,14,15,16,42,43,44,74]<|Co 74 (Re [Bo 75 10,Aa 76 16,Bo 77 11,Aa 78 16,Aa 79 15,Ac 80 14 2,Ai 81 80 1,Ab 82 81,Dt 83 79 82,Cj 84 75 76 1,Du 84 83,Cj 85 77 78 1,Dk 85] [4,5,6,10,11,14,15,42,43,44])<|Sk [4,5,6,10,11,14,15,42,43,44])<|Rq [Ac 87 14 2,Ad 88 87 2,Bo 89 10,Dx 90 236 88 89,Aa 86 90,Al 91 86 0,Al 92 86 1,Aa 17 91,Aa 18 92] [4,5,6,10,11,15,17,18,42,43,44]<|Rq [Aa 93 18,Ax 94 93 0,Aa 95 94,Bc 96 17 95,Bc 97 15 95,Cb 98 96 97 95,At 99 95 98] [4,5,6,10,11,42,43,44,99]<|Co 99 (Rq [Ba 8 1,Ah 9] [8,9]<|.ret)<|Sk [4,5,6,10,11,42,43,44])<|Re [An 100 44 1,Aa 44 100] [4,5,6,10,11,42,43,44])<|Sq (Rq [Ac 101 5 4,Ab 102 101,Ag 103 102,Ae 104 0] [10,102,103,104]<|Bl 4<|Lo [10,102,103,104]<|Rq [Am 105 104 103] [10,102,103,104,105]<|Sq (Co 105 (Sk [10,102,103,104])<|Ex 4 [10])<|Sq (Bl 5<|Rq [Ak 106 102 104 5,Ad 107 106 5,Em 20 0 0 0 0 0,Aj 5 20 107] [10,20,102,103,104]<|Rq [Ad 108 20 5,Bo 109 10,Dx 110 233 108 109,Bb 111 110] [10,102,103,104,111]<|Co 111 (Rq [Ba 8 1,Ah 9] [8,9]<|.ret)<|Sk [10,102,103,104])<|Re [An 112 104 1,Aa 104 112] [10,102,103,104])<|Rq [Cz 113 10,Ay 8 113,Bp 9] [8,9]<|.ret) [.tmp 8,.tmp 9]:= by decide +kernel
theorem c182 (s_0:condition_scene) (q:Pattern) (m:Morphism) (given:List Int) (r:(List Int × Bool)) (h:_condition_scene__values s_0 q m given=some r):Sound prog 182 [econdition_scene s_0,ePattern q,eMorphism m,lI given] (.tp [lI r.1,eB r.2]):= by
 refine Fn ck182 fun hw=>?_
 unfold _condition_scene__values at h
 refine E<|G<|X B B<|X B B<|X B B<|e3<|D B<|F km4 fun _=>?_
 refine E<|e0 B<|D B ?_
 obtain ⟨x22,hx22,h⟩:=J h
 refine p4 B B (c138 given _ hx22) B (fun _=>rfl)<|O B<|K B<|D B<|W B B<|g6 B B ?_
 obtain ⟨x28,hx28,h⟩:=J h
 refine t8 (e:=eI) (z:=0) B B B B hx28 B B (by decide) B B<|g3 B B (by decide)<|F (kt<|kt<|kt<|kt<|kx<|kn) fun _=>?_
 refine E<|G<|O B<|K B ?_
 obtain ⟨x31,hx31,h⟩:=J h
 refine m3 (z:=false) B B B hx31 B<|g3 B B (by decide)<|F (kt<|kt<|kt<|kt<|kx<|kx<|kn) fun _=>?_
 refine E<|E<|G<|D B<|W B B<|D B<|F (kt<|kt<|kt<|kx<|kx<|kt<|kt<|kn) fun _=>?_
 obtain ⟨s0,hs0,h⟩:=J h
 refine g2 hs0 (fun (i0:Int) (s0:List Bool)=>[(4,.tv (.pt (econdition_scene s_0).cells)),(5,.tv (.pt (ePattern q).cells)),(6,.tv (.pt (eMorphism m).cells)),(10,.xo 1 (List.map eI x28)),(11,.xo 1 (List.map eB s0)),(33,.tv (eI (given.length:Int))),(34,.tv (eI i0))]) (fun (s0:List Bool)=>[(4,.tv (.pt (econdition_scene s_0).cells)),(5,.tv (.pt (ePattern q).cells)),(6,.tv (.pt (eMorphism m).cells)),(10,.xo 1 (List.map eI x28)),(11,.xo 1 (List.map eB s0))]) B ?_ ?_ ?_
 ·clear h hs0
  intro i0 s0 r0 hi0 h hw0
  refine E<|G<|Y B B<|F (kt<|kt<|kt<|kx<|kx<|kt<|kt<|kt<|kn) fun _=>?_
  refine E<|d1 B (d2 hi0)<|T (kt<|kt<|kt<|kx<|kx<|kt<|kt<|kn) fun _=>?_
  refine E<|b3<|E<|G<|D B<|D B<|F (kt<|kt<|kt<|kx<|kx<|kt<|kt<|kt<|kn) fun _=>?_
  refine G<|f4 B<|D B ?_
  obtain ⟨x39,hx39,h⟩:=J h
  refine g7 B B B hx39<|g9 (i:=0) (b:=true) B B B B (fun _=>rfl) hx39 B B B B B B<|F (kt<|kt<|kt<|kx<|kx<|kt<|kt<|kn) fun _=>?_
  refine G<|a8 B B<|D B<|F (kt<|kt<|kt<|kx<|kx<|kt<|kt<|kn) ?_
  cases h
  show Env.keep _ _=_
  rw [Ktv rfl (Ktv rfl (Ktv rfl (Kxo rfl (Kxo rfl (Ktv rfl (Ktv rfl (Knil _)))))))]
  rw [b7 (Z (hw0 34)) hi0 (b9 (Z (hw0 33)))]
  all_goals rfl
 ·intro i0 s0 hi0
  refine E<|G<|Y B B<|F (kt<|kt<|kt<|kx<|kx<|kt<|kt<|kt<|kn) fun _=>?_
  refine E<|d0 B (d3 hi0)<|b8 (kt<|kt<|kt<|kx<|kx<|kn) ?_
  exact ⟨rfl,rfl⟩
 ·intro _
  refine E<|E<|G<|O B<|K B<|W B B<|D B<|F (kt<|kt<|kt<|kx<|kx<|kt<|kt<|kt<|kn) fun _=>?_
  obtain ⟨o2,ho2,h⟩:=d6 h
  refine d9 ho2 (fun (i2:Int) (s2:List Int × List Bool)=>[(4,.tv (.pt (econdition_scene s_0).cells)),(5,.tv (.pt (ePattern q).cells)),(6,.tv (.pt (eMorphism m).cells)),(10,.xo 1 (List.map eI s2.1)),(11,.xo 1 (List.map eB s2.2)),(42,.tv (lS q.Slots)),(43,.tv (eI (q.Slots.length:Int))),(44,.tv (eI i2))]) (fun (s2:List Int × List Bool)=>[(5,.tv (.pt (ePattern q).cells)),(10,.xo 1 (List.map eI s2.1))]) (fun zv ze=>resIs ([.tmp 8,.tmp 9]) (.tp [lI zv.1,eB zv.2]) ze) B ?_ ?_ ?_ ?_
  ·clear h ho2
   intro i2 s2 r2 hi2 h hw2
   refine E<|G<|Y B B<|F (kt<|kt<|kt<|kx<|kx<|kt<|kt<|kt<|kt<|kn) fun _=>?_
   refine E<|d1 B (d2 hi2)<|T (kt<|kt<|kt<|kx<|kx<|kt<|kt<|kt<|kn) fun _=>?_
   refine E<|b3<|E<|G ?_
   obtain ⟨x46,hx46,h⟩:=J h
   refine a2 B B B hx46 B<|M B B (B:_=eSlot x46)<|b6 B<|a6 B B B B B<|F (kt<|kt<|kt<|kx<|kx<|kb<|kt<|kt<|kt<|kn) fun _=>?_
   refine E<|e0 B<|O B<|d5 B<|K B<|O B<|K B<|a7 B<|K B ?_
   obtain ⟨x55,hx55,h⟩:=J h
   refine a2 B B B hx55 B<|K B ?_
   obtain ⟨x57,hx57,h⟩:=J h
   refine a2 B B B hx57 B<|K B<|a7 B<|K B ?_
   obtain ⟨x61,hx61,h⟩:=J h
   refine a2 B B B hx61 B<|K B<|D B<|F (kt<|kt<|kt<|kx<|kx<|kb<|kt<|kt<|kt<|kt<|kn) fun _=>?_
   refine E<|E<|G<|a7 B<|b5 B B<|K B<|D B<|F (kt<|kt<|kt<|kx<|kx<|kb<|kt<|kt<|kt<|kt<|kt<|kn) fun _=>?_
   refine E<|G<|D B<|e1 B B<|D B ?_
   obtain ⟨x74,hx74,h⟩:=J h
   refine gX 6 [69,70,71,72,73] 74 x74 (decide (0<=x46.Term.Var)) (fun hg74=>?_) (fun hg74=>?_) ?_
   ·replace h:=R hg74 hx74
    refine H B hg74<|f4 B<|H B hg74<|D B ?_
    obtain ⟨x71,hx71,h⟩:=J h
    refine H B hg74<|g7 B B B hx71<|H B hg74<|p2 (i:=0) B B B (fun _=>rfl) hx71 B B B B<|H B hg74<|d4 B ?_
    cases h
    refine a4 B hg74 B ?_
    exact ⟨⟨_,_,_,_,_,B⟩⟩
   ·replace h:=S hg74 hx74
    cases h
    refine I B hg74<|I B hg74<|I B hg74<|I B hg74<|I B hg74<|a5 B hg74 B ?_
    exact ⟨⟨_,_,_,_,_,B⟩⟩
   rintro _ ⟨_,_,_,_,_,rfl⟩
   refine F (kt<|kt<|kt<|kx<|kx<|kb<|kt<|kt<|kt<|kt<|kt<|kt<|kn) fun _=>?_
   refine U B (fun hc74=>?_) (fun hc74=>?_)
   ·replace h:=R hc74 h
    refine G<|f4 B<|D B<|f4 B<|D B<|D B<|a7 B<|b5 B B<|K B<|g6 B B ?_
    obtain ⟨x84,hx84,h⟩:=J h
    refine g7 B B B hx84<|g9 (i:=0) (b:=(w64 (x61 - x46.Term.Add))) B B B B (fun _=>rfl) hx84 B B B B B B ?_
    obtain ⟨x85,hx85,h⟩:=J h
    refine g7 B B B hx85<|g9 (i:=0) (b:=true) B B B B (fun _=>rfl) hx85 B B B B B B<|F (kt<|kt<|kt<|kx<|kx<|kb<|kt<|kt<|kt<|kt<|kn) fun _=>?_
    refine E<|G<|a7 B<|M B B (B:_=eTerm x46.Term)<|f4 B ?_
    obtain ⟨x90,hx90,h⟩:=J h
    refine t0 B (c236 x46.Term (setE s2.1 x46.Term.Var (w64 (x61 - x46.Term.Add))) _ hx90) B<|e5 B<|b4 B B<|b4 B B<|D B<|D B<|F (kt<|kt<|kt<|kx<|kx<|kt<|kt<|kt<|kt<|kt<|kt<|kn) fun _=>?_
    refine E<|G<|D B<|a9 B B<|D B ?_
    refine gO 4 [96,97,98] 99 (!decide (x90.2=0)) (!decide (x90.1=x61)) (fun hg99=>?_) (fun hg99=>?_) ?_
    ·refine I B hg99<|I B hg99<|I B hg99<|a4 B hg99 B ?_
     exact ⟨⟨_,_,_,B⟩⟩
    ·refine H B hg99<|D B<|H B hg99<|D B<|H B hg99<|a9 B B<|a5 B hg99 B ?_
     exact ⟨⟨_,_,_,B⟩⟩
    rintro _ ⟨_,_,_,rfl⟩
    refine F (kt<|kt<|kt<|kx<|kx<|kt<|kt<|kt<|kt<|kn) fun _=>?_
    refine U B (fun hc99=>?_) (fun hc99=>?_)
    ·replace h:=R hc99 h
     refine E<|G<|e3<|D B<|F (ko<|kt<|kn) fun _=>?_
     refine L ?_
     cases h
     exact ⟨_,rfl,⟨by decide,rfl⟩⟩
    ·replace h:=S hc99 h
     refine T (kt<|kt<|kt<|kx<|kx<|kt<|kt<|kt<|kn) fun _=>?_
     refine G<|a8 B B<|D B<|F (kt<|kt<|kt<|kx<|kx<|kt<|kt<|kt<|kn) ?_
     cases h
     refine ⟨_,B,?_⟩
     rw [Ktv rfl (Ktv rfl (Ktv rfl (Kxo rfl (Kxo rfl (Ktv rfl (Ktv rfl (Ktv rfl (Knil _))))))))]
     rw [b7 (Z (hw2 44)) hi2 (b9 (Z (hw2 43)))]
     all_goals rfl
   ·replace h:=S hc74 h
    refine T (kt<|kt<|kt<|kx<|kx<|kb<|kt<|kt<|kt<|kt<|kn) fun _=>?_
    refine E<|G<|a7 B<|M B B (B:_=eTerm x46.Term)<|f4 B ?_
    obtain ⟨x90,hx90,h⟩:=J h
    refine t0 B (c236 x46.Term s2.1 _ hx90) B<|e5 B<|b4 B B<|b4 B B<|D B<|D B<|F (kt<|kt<|kt<|kx<|kx<|kt<|kt<|kt<|kt<|kt<|kt<|kn) fun _=>?_
    refine E<|G<|D B<|a9 B B<|D B ?_
    refine gO 4 [96,97,98] 99 (!decide (x90.2=0)) (!decide (x90.1=x61)) (fun hg99=>?_) (fun hg99=>?_) ?_
    ·refine I B hg99<|I B hg99<|I B hg99<|a4 B hg99 B ?_
     exact ⟨⟨_,_,_,B⟩⟩
    ·refine H B hg99<|D B<|H B hg99<|D B<|H B hg99<|a9 B B<|a5 B hg99 B ?_
     exact ⟨⟨_,_,_,B⟩⟩
    rintro _ ⟨_,_,_,rfl⟩
    refine F (kt<|kt<|kt<|kx<|kx<|kt<|kt<|kt<|kt<|kn) fun _=>?_
    refine U B (fun hc99=>?_) (fun hc99=>?_)
    ·replace h:=R hc99 h
     refine E<|G<|e3<|D B<|F (ko<|kt<|kn) fun _=>?_
     refine L ?_
     cases h
     exact ⟨_,rfl,⟨by decide,rfl⟩⟩
    ·replace h:=S hc99 h
     refine T (kt<|kt<|kt<|kx<|kx<|kt<|kt<|kt<|kn) fun _=>?_
     refine G<|a8 B B<|D B<|F (kt<|kt<|kt<|kx<|kx<|kt<|kt<|kt<|kn) ?_
     cases h
     refine ⟨_,B,?_⟩
     rw [Ktv rfl (Ktv rfl (Ktv rfl (Kxo rfl (Kxo rfl (Ktv rfl (Ktv rfl (Ktv rfl (Knil _))))))))]
     rw [b7 (Z (hw2 44)) hi2 (b9 (Z (hw2 43)))]
     all_goals rfl
  ·intro i2 s2 hi2
   refine E<|G<|Y B B<|F (kt<|kt<|kt<|kx<|kx<|kt<|kt<|kt<|kt<|kn) fun _=>?_
   refine E<|d0 B (d3 hi2)<|b8 (kt<|kx<|kn) ?_
   exact ⟨rfl,rfl⟩
  ·intro s2 hs
   replace h:=d7 h hs
   intro _
   refine E<|E<|G<|O B<|K B<|W B B<|D B<|F (kx<|kt<|kt<|kt<|kn) fun _=>?_
   obtain ⟨o4,ho4,h⟩:=d6 h
   refine d9 ho4 (fun (i4:Int) (_:Unit)=>[(10,.xo 1 (List.map eI s2.1)),(102,.tv (lT q.Tests)),(103,.tv (eI (q.Tests.length:Int))),(104,.tv (eI i4))]) (fun (_:Unit)=>[(10,.xo 1 (List.map eI s2.1))]) (fun zv ze=>resIs ([.tmp 8,.tmp 9]) (.tp [lI zv.1,eB zv.2]) ze) B ?_ ?_ ?_ ?_
   ·clear h ho4
    intro i4 s4 r4 hi4 h hw4
    refine E<|G<|Y B B<|F (kx<|kt<|kt<|kt<|kt<|kn) fun _=>?_
    refine E<|d1 B (d2 hi4)<|T (kx<|kt<|kt<|kt<|kn) fun _=>?_
    refine E<|b3<|E<|G ?_
    obtain ⟨x106,hx106,h⟩:=J h
    refine a2 B B B hx106 B<|M B B (B:_=eTest x106)<|b6 B<|a6 B B B B B<|F (kx<|kb<|kt<|kt<|kt<|kn) fun _=>?_
    refine E<|G<|M B B (B:_=eTest x106)<|f4 B ?_
    obtain ⟨x110,hx110,h⟩:=J h
    refine l0 B (c233 x106 s2.1 _ hx110) B<|d4 B<|F (kx<|kt<|kt<|kt<|kt<|kn) fun _=>?_
    refine U B (fun hc111=>?_) (fun hc111=>?_)
    ·replace h:=R hc111 h
     refine E<|G<|e3<|D B<|F (ko<|kt<|kn) fun _=>?_
     refine L ?_
     cases h
     exact ⟨_,rfl,⟨by decide,rfl⟩⟩
    ·replace h:=S hc111 h
     refine T (kx<|kt<|kt<|kt<|kn) fun _=>?_
     refine G<|a8 B B<|D B<|F (kx<|kt<|kt<|kt<|kn) ?_
     cases h
     refine ⟨_,B,?_⟩
     rw [Kxo rfl (Ktv rfl (Ktv rfl (Ktv rfl (Knil _))))]
     rw [b7 (Z (hw4 104)) hi4 (b9 (Z (hw4 103)))]
     all_goals rfl
   ·intro i4 s4 hi4
    refine E<|G<|Y B B<|F (kx<|kt<|kt<|kt<|kt<|kn) fun _=>?_
    refine E<|d0 B (d3 hi4)<|b8 (kx<|kn) ?_
    exact ⟨rfl,rfl⟩
   ·intro s4 hs
    replace h:=d7 h hs
    intro _
    refine E<|G<|l6 B (by decide)<|e9 B<|D B<|F (ko<|kt<|kn) fun _=>?_
    refine L ?_
    cases h
    exact ⟨by decide,rfl⟩
   ·intro v4 ze hv hR
    replace h:=d8 h hv
    cases h
    exact hR
  ·intro v2 ze hv hR
   replace h:=d8 h hv
   cases h
   exact hR
theorem ck115:CK f115 (Rq [Af 3 0,Af 4 1,Af 5 2,Ba 6 3,Ae 7 0] [3,4,5]<|Rq [Ac 17 4 4,Ai 18 17 0,Ad 19 18 2,Cl 8 1 3,Aj 2 8 19] [3,4,5,8]<|Sq (Dr [9,20,21,22,23,24,25,26,27,28,29,30,31,32,33,34,35,36,37,38,39,40] [Ac 20 8 0,Ab 21 20,Ag 22 21,Ac 23 4 2,Ai 24 23 0,Ab 25 24,Ac 26 5 0,Ai 27 26 0,Ab 28 27,Bg 29 181 22 25 28,Ac 30 8 1,Ab 31 30,Ag 32 31,Ac 33 4 2,Ai 34 33 1,Ab 35 34,Ac 36 5 0,Ai 37 36 1,Ab 38 37,Bg 39 181 32 35 38,Ck 40 1 1 0 1 29 1 1 39,Cl 9 1 1,Aj 2 9 40] [3,4,5,8,9])<|Rq [Ac 42 3 0,Ad 43 42 2,Ad 44 8 2,Ac 45 3 2,Ai 46 45 0,Ad 47 46 2,Ad 48 9 2,Ac 49 3 5,Ab 50 49,Ep 51 29 43 44 47 48 50,Aa 41 51,Al 52 41 0,Al 53 41 1,Ay 10 52,Aa 11 53] [3,4,5,10,11]<|Sq (Rq [Aa 54 11,Ax 55 54 0] [3,4,5,10,11,55]<|Co 55 (Rq [Aa 56 11,Ba 6 3,Aa 7 56] [6,7]<|.ret)<|Sk [3,4,5,10])<|Rq [Ba 12 3] [3,4,5,10,12]<|Sq (Rq [Aa 57 10,Ag 58 57,Ae 59 0] [3,4,5,12,57,58,59]<|Bl 0<|Lo [3,4,5,12,57,58,59]<|Rq [Am 60 59 58] [3,4,5,12,57,58,59,60]<|Sq (Co 60 (Sk [3,4,5,12,57,58,59])<|Ex 0 [12])<|Sq (Bl 1<|Rq [Ak 61 57 59 2,Ad 62 61 2,Cl 14 1 1,Aj 2 14 62] [3,4,5,12,14,57,58,59]<|Rq [Ad 64 3 6,Ac 65 4 4,Ad 66 65 5,Ad 67 14 2,Ac 68 5 2,Ab 69 68,Dc 70 182 64 66 67 69,Aa 63 70,Al 71 63 0,Al 72 63 1,Ay 15 71,Aa 16 72] [3,4,5,12,14,15,16,57,58,59]<|Rq [Aa 73 16] [3,4,5,12,14,15,57,58,59,73]<|Co 73 (Re [Ay 74 12,Ad 75 14 2,Aa 76 15,Ea 77 1 1 1 0 2 75 2 1 76,Bh 78 3 77,Bq 79 3 74 78,Ay 12 79] [3,4,5,12,57,58,59])<|Sk [3,4,5,12,57,58,59])<|Re [An 80 59 1,Aa 59 80] [3,4,5,12,57,58,59])<|Rq [Aa 81 12,Ay 6 81,Ae 7 0] [6,7]<|.ret) [.tmp 6,.tmp 7]:= by decide +kernel
theorem c115 (s_0:condition_scene) (c:Condition) (m:GMatch) (r:(List GMatch × Int)) (h:_condition_scene__extensions s_0 c m=some r):Sound prog 115 [econdition_scene s_0,eCondition c,eGMatch m] (.tp [(eL 3 eGMatch) r.1,eI r.2]):= by
 refine Fn ck115 fun hw=>?_
 unfold _condition_scene__extensions at h
 refine E<|G<|X B B<|X B B<|X B B<|e3<|D B<|F km3 fun _=>?_
 refine E<|G<|O B<|d5 B<|M B B (B:_=eGraph c.Pattern.Graph)<|b6 B<|a6 B B B B B<|F (kt<|kt<|kt<|kb<|kn) fun _=>?_
 refine E<|e0 B<|a7 B<|K B<|W B B<|O B<|d5 B<|K B<|O B<|d5 B<|K B ?_
 obtain ⟨x29,hx29,h⟩:=J h
 refine l1 B (c181 (c.Pattern.Graph.Nodes.length:Int) c.Map.Nodes m.Morphism.Nodes _ hx29)<|a7 B<|K B<|W B B<|O B<|d5 B<|K B<|O B<|d5 B<|K B ?_
 obtain ⟨x39,hx39,h⟩:=J h
 refine l1 B (c181 (c.Pattern.Graph.Edges.length:Int) c.Map.Edges m.Morphism.Edges _ hx39)<|f5 B B B (B:_=eMorphism (Morphism.mk x29 x39))<|b6 B<|a6 B B B B B<|F (kt<|kt<|kt<|kb<|kb<|kn) fun _=>?_
 refine E<|G<|O B<|M B B (B:_=eTypes s_0.t)<|M B B (B:_=eGraph c.Pattern.Graph)<|O B<|d5 B<|M B B (B:_=eGraph s_0.h.Graph)<|M B B (B:_=eMorphism (Morphism.mk x29 x39))<|O B<|K B ?_
 obtain ⟨x51,hx51,h⟩:=J h
 refine e8 B (c29 s_0.t c.Pattern.Graph s_0.h.Graph (Morphism.mk x29 x39) s_0.injective _ hx51)<|e5 B<|b4 B B<|b4 B B<|f8 B<|D B<|F km5 fun _=>?_
 refine E<|E<|G<|D B<|a9 B B<|F km6 fun _=>?_
 refine U B (fun hc55=>?_) (fun hc55=>?_)
 ·replace h:=R hc55 h
  refine E<|G<|D B<|e3<|D B<|F (ko<|kt<|kn) fun _=>?_
  refine L ?_
  cases h
  exact ⟨by decide,rfl⟩
 ·replace h:=S hc55 h
  refine T km4 fun _=>?_
  refine E<|G<|e3<|F (kt<|kt<|kt<|kt<|ko<|kn) fun _=>?_
  refine E<|E<|G<|D B<|W B B<|D B<|F (kt<|kt<|kt<|ko<|kt<|kt<|kt<|kn) fun _=>?_
  obtain ⟨s0,hs0,h⟩:=J h
  refine g2 hs0 (fun (i0:Int) (s0:List GMatch)=>[(3,.tv (.pt (econdition_scene s_0).cells)),(4,.tv (.pt (eCondition c).cells)),(5,.tv (.pt (eGMatch m).cells)),(12,.ow ((eL 3 eGMatch) s0)),(57,.tv ((eL 2 eMorphism) x51.1)),(58,.tv (eI (x51.1.length:Int))),(59,.tv (eI i0))]) (fun (s0:List GMatch)=>[(12,.ow ((eL 3 eGMatch) s0))]) B ?_ ?_ ?_
  ·clear h hs0
   intro i0 s0 r0 hi0 h hw0
   refine E<|G<|Y B B<|F (kt<|kt<|kt<|ko<|kt<|kt<|kt<|kt<|kn) fun _=>?_
   refine E<|d1 B (d2 hi0)<|T (kt<|kt<|kt<|ko<|kt<|kt<|kt<|kn) fun _=>?_
   refine E<|b3<|E<|G ?_
   obtain ⟨x61,hx61,h⟩:=J h
   refine a2 B B B hx61 B<|M B B (B:_=eMorphism x61)<|b6 B<|a6 B B B B B<|F (kt<|kt<|kt<|ko<|kb<|kt<|kt<|kt<|kn) fun _=>?_
   refine E<|G<|M B B (B:_=econdition_scene s_0)<|O B<|M B B (B:_=ePattern c.Pattern)<|M B B (B:_=eMorphism x61)<|O B<|K B ?_
   obtain ⟨x70,hx70,h⟩:=J h
   refine e8 B (c182 s_0 c.Pattern x61 m.Vars _ hx70)<|e5 B<|b4 B B<|b4 B B<|f8 B<|D B<|F (kt<|kt<|kt<|ko<|kb<|kt<|kt<|kt<|kt<|kt<|kn) fun _=>?_
   refine E<|G<|D B<|F (kt<|kt<|kt<|ko<|kb<|kt<|kt<|kt<|kt<|kt<|kn) fun _=>?_
   refine U B (fun hc73=>?_) (fun hc73=>?_)
   ·replace h:=R hc73 h
    refine G<|e9 B<|M B B (B:_=eMorphism x61)<|D B<|f5 B B B (B:_=eGMatch (GMatch.mk x61 x70.1))<|e4 (e:=eGMatch) (l:=[GMatch.mk x61 x70.1]) B B (fun _=>rfl) ?_
    obtain ⟨x79,hx79,h⟩:=J h
    refine f6 B B B B hx79 B<|e9 B<|F (kt<|kt<|kt<|ko<|kt<|kt<|kt<|kn) fun _=>?_
    refine G<|a8 B B<|D B<|F (kt<|kt<|kt<|ko<|kt<|kt<|kt<|kn) ?_
    cases h
    show Env.keep _ _=_
    rw [Ktv rfl (Ktv rfl (Ktv rfl (Kow rfl (Ktv rfl (Ktv rfl (Ktv rfl (Knil _)))))))]
    rw [b7 (Z (hw0 59)) hi0 (b9 (Z (hw0 58)))]
    all_goals rfl
   ·replace h:=S hc73 h
    refine T (kt<|kt<|kt<|ko<|kt<|kt<|kt<|kn) fun _=>?_
    refine G<|a8 B B<|D B<|F (kt<|kt<|kt<|ko<|kt<|kt<|kt<|kn) ?_
    cases h
    show Env.keep _ _=_
    rw [Ktv rfl (Ktv rfl (Ktv rfl (Kow rfl (Ktv rfl (Ktv rfl (Ktv rfl (Knil _)))))))]
    rw [b7 (Z (hw0 59)) hi0 (b9 (Z (hw0 58)))]
    all_goals rfl
  ·intro i0 s0 hi0
   refine E<|G<|Y B B<|F (kt<|kt<|kt<|ko<|kt<|kt<|kt<|kt<|kn) fun _=>?_
   refine E<|d0 B (d3 hi0)<|b8 (ko<|kn) ?_
   exact ⟨rfl,rfl⟩
  ·intro _
   refine E<|G<|D B<|f8 B<|D B<|F km2 fun _=>?_
   refine L ?_
   cases h
   exact ⟨by decide,rfl⟩
theorem ck48:CK f48 (Rq [Af 3 0,Af 4 1,Af 5 2,Cg 6 0 1 1 1 5,Ae 7 0] [3,4,5,6]<|Sq (Rq [Ac 19 4 0,Ab 20 19] [3,4,5,6,20]<|Bl 0<|Rq [Ar 22 20 2,Aa 21 22] [3,4,5,6,20,21]<|Co 21 (Sq (Dr [8,9,23,24,25,26,27,28,29,30,31,32] [Ad 24 3 6,Ac 25 4 1,Ab 26 25,By 27 26 0 9,Ad 28 27 9,Ad 29 5 3,Bg 30 48 24 28 29,Aa 23 30,Al 31 23 0,Al 32 23 1,Cg 8 0 1 1 1 5,Aj 5 8 31,Aa 9 32] [6,9])<|Sq (Rq [Aa 33 9] [6,9,33]<|Bl 1<|Rq [Ar 35 33 0,Aa 34 35] [6,9,33,34]<|Co 34 (Rq [Ch 36 0 1 1 1 5,Aj 5 6 36,Ae 7 10] [6,7]<|.ret)<|Rq [Ar 38 33 10,Aa 37 38] [6,9,37]<|Co 37 (Rq [Ch 39 0 1 1 1 5,Aj 5 6 39,Ae 7 0] [6,7]<|.ret)<|Sk [6,9])<|Rq [Ch 40 0 1 1 1 5,Aa 41 9,Aj 5 6 40,Aa 7 41] [6,7]<|.ret)<|Rq [Ar 43 20 3,Aa 42 43] [3,4,5,6,20,42]<|Co 42 (Rq [Cg 10 0 1 1 1 5] [3,4,5,6,10]<|Sq (Rq [Ac 44 4 1,Ab 45 44,Ag 46 45,Ae 47 0] [3,5,6,10,45,46,47]<|Bl 2<|Lo [3,5,6,10,45,46,47]<|Rq [Am 48 47 46] [3,5,6,10,45,46,47,48]<|Sq (Co 48 (Sk [3,5,6,10,45,46,47])<|Ex 2 [6,10])<|Sq (Bl 3<|Rq [Ak 49 45 47 9,Ad 50 49 9,Bf 12 0 9 1 1 1 3 4 0 5,Aj 9 12 50] [3,5,6,10,12,45,46,47]<|Rq [Ad 52 3 6,Ad 53 12 9,Ad 54 5 3,Bg 55 48 52 53 54,Aa 51 55,Al 56 51 0,Al 57 51 1,Cg 13 0 1 1 1 5,Aj 5 13 56,Aa 14 57] [3,5,6,10,13,14,45,46,47]<|Sq (Rq [Aa 58 14,Ax 59 58 0] [3,5,6,10,13,14,45,46,47,59]<|Co 59 (Rq [Ch 60 0 1 1 1 5,Aa 61 14,Aj 5 6 60,Aa 7 61] [6,7]<|.ret)<|Sk [3,5,6,10,13,45,46,47])<|Re [Ac 62 10 4,⟨some 63,.ldt (.s 62),none⟩,Ad 64 13 5,Bh 65 5 64,Bq 66 5 63 65,Ac 67 10 4,Es 1 67 66] [3,5,6,10,45,46,47])<|Re [An 68 47 1,Aa 47 68] [3,5,6,10,45,46,47])<|Rq [Ad 69 10 5,Aj 5 6 69,Ae 7 0] [6,7]<|.ret)<|Rq [Ar 71 20 4,Aa 70 71] [3,4,5,6,20,70]<|Co 70 (Sq (Rq [Ac 72 4 1,Ab 73 72,Ag 74 73,Ae 75 0] [3,5,6,73,74,75]<|Bl 4<|Lo [3,5,6,73,74,75]<|Rq [Am 76 75 74] [3,5,6,73,74,75,76]<|Sq (Co 76 (Sk [3,5,6,73,74,75])<|Ex 4 [6])<|Sq (Bl 5<|Rq [Aa 77 75,Ak 78 73 75 9,Ad 79 78 9,Bf 16 0 9 1 1 1 3 4 0 5,Aa 15 77,Aj 9 16 79] [3,5,6,15,16,73,74,75]<|Rq [Ad 81 3 6,Ad 82 16 9,Ad 83 5 3,Bg 84 48 81 82 83,Aa 80 84,Al 85 80 0,Al 86 80 1,Cg 17 0 1 1 1 5,Aj 5 17 85,Aa 18 86] [3,5,6,15,17,18,73,74,75]<|Sq (Rq [Aa 87 18,Ar 88 87 0] [3,5,6,15,17,18,73,74,75,88]<|Co 88 (Rq [Aa 89 15,Ad 90 17 5,Bh 91 5 90,Fc 92 0 1 1 1 5 0 1 89 4 1 91,Aj 5 6 92,Ae 7 0] [6,7]<|.ret)<|Sk [3,5,6,18,73,74,75])<|Rq [Aa 93 18,Ax 94 93 10] [3,5,6,18,73,74,75,94]<|Co 94 (Rq [Ch 95 0 1 1 1 5,Aa 96 18,Aj 5 6 95,Aa 7 96] [6,7]<|.ret)<|Sk [3,5,6,73,74,75])<|Re [An 97 75 1,Aa 75 97] [3,5,6,73,74,75])<|Rq [Ch 98 0 1 1 1 5,Aj 5 6 98,Ae 7 10] [6,7]<|.ret)<|Rq [Ar 100 20 5,Aa 99 100] [3,4,5,6,99]<|Co 99 (Rq [Ad 101 3 6,Ad 102 4 9,Ad 103 5 3,Bg 104 111 101 102 103,Al 105 104 0,Al 106 104 1,Aj 5 6 105,Aa 7 106] [6,7]<|.ret)<|Sk [6])<|Rq [Ch 107 0 1 1 1 5,Aj 5 6 107,Ae 7 0] [6,7]<|.ret) [.cell 6 (some 5),.tmp 7]:= by decide +kernel
theorem ck111:CK f111 (Rq [Af 3 0,Af 4 1,Af 5 2,Cg 6 0 1 1 1 5,Ae 7 0] [3,4,5,6]<|Rq [Ad 15 3 6,Ad 16 4 9,Ad 17 5 3,Bg 18 115 15 16 17,Aa 14 18,Al 19 14 0,Al 20 14 1,Ay 8 19,Aa 9 20] [3,4,6,8,9]<|Sq (Rq [Aa 21 9,Ax 22 21 0] [3,4,6,8,9,22]<|Co 22 (Rq [Ch 23 0 1 1 1 5,Aa 24 9,Aj 5 6 23,Aa 7 24] [6,7]<|.ret)<|Sk [3,4,6,8])<|Sq (Rq [Aa 25 8,Ag 26 25,Ae 27 0] [3,4,6,25,26,27]<|Bl 0<|Lo [3,4,6,25,26,27]<|Rq [Am 28 27 26] [3,4,6,25,26,27,28]<|Sq (Co 28 (Sk [3,4,6,25,26,27])<|Ex 0 [6])<|Sq (Bl 1<|Rq [Ak 29 25 27 3,Ad 30 29 3,Eb 11 1 1 1,Aj 3 11 30] [3,4,6,11,25,26,27]<|Sq (Dr [12,13,31,32,33,34,35,36,37,38,39,40] [Ad 32 3 6,Ac 33 4 1,Ab 34 33,By 35 34 0 9,Ad 36 35 9,Ad 37 11 3,Bg 38 48 32 36 37,Aa 31 38,Al 39 31 0,Al 40 31 1,Cg 12 0 1 1 1 5,Aj 5 12 39,Aa 13 40] [3,4,6,11,12,13,25,26,27])<|Sq (Rq [Aa 41 13,Ar 42 41 0] [3,4,6,11,12,13,25,26,27,42]<|Co 42 (Rq [Ad 43 11 3,Ad 44 12 5,Bh 45 5 44,Fc 46 0 1 1 1 5 1 3 43 4 1 45,Aj 5 6 46,Ae 7 0] [6,7]<|.ret)<|Sk [3,4,6,13,25,26,27])<|Rq [Aa 47 13,Ax 48 47 10] [3,4,6,13,25,26,27,48]<|Co 48 (Rq [Ch 49 0 1 1 1 5,Aa 50 13,Aj 5 6 49,Aa 7 50] [6,7]<|.ret)<|Sk [3,4,6,25,26,27])<|Re [An 51 27 1,Aa 27 51] [3,4,6,25,26,27])<|Rq [Ch 52 0 1 1 1 5,Aj 5 6 52,Ae 7 10] [6,7]<|.ret) [.cell 6 (some 5),.tmp 7]:= by decide +kernel
theorem c48S (n:Nat) (ih_48:∀ (s_0:condition_scene) (c:Condition) (m:GMatch) (r:(Proof × Int)) (_:_condition_scene__witnessF n s_0 c m=some r),Sound prog 48 [econdition_scene s_0,eCondition c,eGMatch m] (.tp [eProof r.1,eI r.2])) (ih_111:∀ (s_0:condition_scene) (c:Condition) (m:GMatch) (r:(Proof × Int)) (_:_condition_scene__extendedF n s_0 c m=some r),Sound prog 111 [econdition_scene s_0,eCondition c,eGMatch m] (.tp [eProof r.1,eI r.2])):∀ (s_0:condition_scene) (c:Condition) (m:GMatch) (r:(Proof × Int)) (_:_condition_scene__witnessF (n+1) s_0 c m=some r),Sound prog 48 [econdition_scene s_0,eCondition c,eGMatch m] (.tp [eProof r.1,eI r.2]):= by
 intro s_0 c m r h
 refine Fn ck48 fun hw=>?_
 unfold _condition_scene__witnessF at h
 refine E<|G<|X B B<|X B B<|X B B<|b6 B<|D B<|F (kt<|kt<|kt<|kb<|kn) fun _=>?_
 refine E<|E<|G<|O B<|K B<|F (kt<|kt<|kt<|kb<|kt<|kn) fun _=>?_
 refine b3<|E<|G<|b2 B B<|D B<|F (kt<|kt<|kt<|kb<|kt<|kt<|kn) fun _=>?_
 refine U B (fun hc21=>?_) (fun hc21=>?_)
 ·replace h:=R hc21 h
  refine E<|e0 B<|M B B (B:_=econdition_scene s_0)<|O B<|K B ?_
  obtain ⟨x27,hx27,h⟩:=J h
  refine a2 B B (eLCondition_eq _) hx27 B<|M B B (B:_=eCondition x27)<|M B B (B:_=eGMatch m) ?_
  obtain ⟨x30,hx30,h⟩:=J h
  refine e8 B (ih_48 s_0 x27 m _ hx30)<|e5 B<|b4 B B<|b4 B B<|b6 B<|a6 B B B B B<|D B<|F (kb<|kt<|kn) fun _=>?_
  refine E<|E<|G<|D B<|F (kb<|kt<|kt<|kn) fun _=>?_
  refine b3<|E<|G<|b2 B B<|D B<|F (kb<|kt<|kt<|kt<|kn) fun _=>?_
  refine U B (fun hc34=>?_) (fun hc34=>?_)
  ·replace h:=R hc34 h
   refine E<|G<|e2 B B (show _=eProof (Proof.mk 0 (GMatch.mk (Morphism.mk [] []) []) []) from B)<|a6 B B B B B<|D B<|F (kb<|kt<|kn) fun _=>?_
   refine L ?_
   cases h
   exact ⟨by decide,rfl⟩
  ·replace h:=S hc34 h
   refine E<|G<|b2 B B<|D B<|F (kb<|kt<|kt<|kn) fun _=>?_
   refine U B (fun hc37=>?_) (fun hc37=>?_)
   ·replace h:=R hc37 h
    refine E<|G<|e2 B B (show _=eProof (Proof.mk 0 (GMatch.mk (Morphism.mk [] []) []) []) from B)<|a6 B B B B B<|D B<|F (kb<|kt<|kn) fun _=>?_
    refine L ?_
    cases h
    exact ⟨by decide,rfl⟩
   ·replace h:=S hc37 h
    refine T (kb<|kt<|kn) fun _=>?_
    refine E<|G<|e2 B B (show _=eProof (Proof.mk 0 (GMatch.mk (Morphism.mk [] []) []) []) from B)<|D B<|a6 B B B B B<|D B<|F (kb<|kt<|kn) fun _=>?_
    refine L ?_
    cases h
    exact ⟨by decide,rfl⟩
 ·replace h:=S hc21 h
  refine E<|G<|b2 B B<|D B<|F (kt<|kt<|kt<|kb<|kt<|kt<|kn) fun _=>?_
  refine U B (fun hc42=>?_) (fun hc42=>?_)
  ·replace h:=R hc42 h
   refine E<|G<|b6 B<|F (kt<|kt<|kt<|kb<|kb<|kn) fun _=>?_
   refine E<|E<|G<|O B<|K B<|W B (eLCondition_eq _)<|D B<|F (kt<|kt<|kb<|kb<|kt<|kt<|kt<|kn) fun _=>?_
   obtain ⟨o2,ho2,h⟩:=d6 h
   refine d9 ho2 (fun (i2:Int) (s2:Proof × Proof)=>[(3,.tv (.pt (econdition_scene s_0).cells)),(5,.tv (.pt (eGMatch m).cells)),(6,.bx [⟨false,eI s2.1.Choice⟩,⟨true,lI s2.1.Match.Morphism.Nodes⟩,⟨true,lI s2.1.Match.Morphism.Edges⟩,⟨true,lI s2.1.Match.Vars⟩,⟨true,eLProof s2.1.Kids⟩]),(10,.bx [⟨false,eI s2.2.Choice⟩,⟨true,lI s2.2.Match.Morphism.Nodes⟩,⟨true,lI s2.2.Match.Morphism.Edges⟩,⟨true,lI s2.2.Match.Vars⟩,⟨true,eLProof s2.2.Kids⟩]),(45,.tv (eLCondition c.Kids)),(46,.tv (eI (c.Kids.length:Int))),(47,.tv (eI i2))]) (fun (s2:Proof × Proof)=>[(6,.bx [⟨false,eI s2.1.Choice⟩,⟨true,lI s2.1.Match.Morphism.Nodes⟩,⟨true,lI s2.1.Match.Morphism.Edges⟩,⟨true,lI s2.1.Match.Vars⟩,⟨true,eLProof s2.1.Kids⟩]),(10,.bx [⟨false,eI s2.2.Choice⟩,⟨true,lI s2.2.Match.Morphism.Nodes⟩,⟨true,lI s2.2.Match.Morphism.Edges⟩,⟨true,lI s2.2.Match.Vars⟩,⟨true,eLProof s2.2.Kids⟩])]) (fun zv ze=>resIs ([.cell 6 (some 5),.tmp 7]) (.tp [eProof zv.1,eI zv.2]) ze) B ?_ ?_ ?_ ?_
   ·clear h ho2
    intro i2 s2 r2 hi2 h hw2
    refine E<|G<|Y B B<|F (kt<|kt<|kb<|kb<|kt<|kt<|kt<|kt<|kn) fun _=>?_
    refine E<|d1 B (d2 hi2)<|T (kt<|kt<|kb<|kb<|kt<|kt<|kt<|kn) fun _=>?_
    refine E<|b3<|E<|G ?_
    obtain ⟨x49,hx49,h⟩:=J h
    refine a2 B B (eLCondition_eq _) hx49 B<|M B B (B:_=eCondition x49)<|b6 B<|a6 B B B B B<|F (kt<|kt<|kb<|kb<|kb<|kt<|kt<|kt<|kn) fun _=>?_
    refine E<|G<|M B B (B:_=econdition_scene s_0)<|M B B (B:_=eCondition x49)<|M B B (B:_=eGMatch m) ?_
    obtain ⟨x55,hx55,h⟩:=J h
    refine e8 B (ih_48 s_0 x49 m _ hx55)<|e5 B<|b4 B B<|b4 B B<|b6 B<|a6 B B B B B<|D B<|F (kt<|kt<|kb<|kb<|kb<|kt<|kt<|kt<|kt<|kn) fun _=>?_
    refine E<|E<|G<|D B<|a9 B B<|F (kt<|kt<|kb<|kb<|kb<|kt<|kt<|kt<|kt<|kt<|kn) fun _=>?_
    refine U B (fun hc59=>?_) (fun hc59=>?_)
    ·replace h:=R hc59 h
     refine E<|G<|e2 B B (show _=eProof (Proof.mk 0 (GMatch.mk (Morphism.mk [] []) []) []) from B)<|D B<|a6 B B B B B<|D B<|F (kb<|kt<|kn) fun _=>?_
     refine L ?_
     cases h
     exact ⟨_,rfl,⟨by decide,rfl⟩⟩
    ·replace h:=S hc59 h
     refine T (kt<|kt<|kb<|kb<|kb<|kt<|kt<|kt<|kn) fun _=>?_
     refine G<|a7 B<|q7 B B B B B<|M B B (B:_=eProof x55.1)<|g5 (e:=eProof) (l:=[x55.1]) B B (fun _=>rfl) (show eLProof [x55.1]=_ from eLProof_lst _) ?_
     obtain ⟨x66,hx66,h⟩:=J h
     refine f6 B B (eLProof_eq _) (eLProof_eq _) hx66 (eLProof_eq _)<|a7 B<|q9 B B B (by decide) B B<|F (kt<|kt<|kb<|kb<|kt<|kt<|kt<|kn) fun _=>?_
     refine G<|a8 B B<|D B<|F (kt<|kt<|kb<|kb<|kt<|kt<|kt<|kn) ?_
     cases h
     refine ⟨_,B,?_⟩
     rw [Ktv rfl (Ktv rfl (Kbx rfl (Kbx rfl (Ktv rfl (Ktv rfl (Ktv rfl (Knil _)))))))]
     rw [b7 (Z (hw2 47)) hi2 (b9 (Z (hw2 46)))]
     all_goals rfl
   ·intro i2 s2 hi2
    refine E<|G<|Y B B<|F (kt<|kt<|kb<|kb<|kt<|kt<|kt<|kt<|kn) fun _=>?_
    refine E<|d0 B (d3 hi2)<|b8 (kb<|kb<|kn) ?_
    exact ⟨rfl,rfl⟩
   ·intro s2 hs
    replace h:=d7 h hs
    intro _
    refine E<|G<|M B B (B:_=eProof s2.2)<|a6 B B B B B<|D B<|F (kb<|kt<|kn) fun _=>?_
    refine L ?_
    cases h
    exact ⟨by decide,rfl⟩
   ·intro v2 ze hv hR
    replace h:=d8 h hv
    cases h
    exact hR
  ·replace h:=S hc42 h
   refine E<|G<|b2 B B<|D B<|F (kt<|kt<|kt<|kb<|kt<|kt<|kn) fun _=>?_
   refine U B (fun hc70=>?_) (fun hc70=>?_)
   ·replace h:=R hc70 h
    refine E<|E<|G<|O B<|K B<|W B (eLCondition_eq _)<|D B<|F (kt<|kt<|kb<|kt<|kt<|kt<|kn) fun _=>?_
    obtain ⟨o4,ho4,h⟩:=d6 h
    refine d9 ho4 (fun (i4:Int) (s4:Proof)=>[(3,.tv (.pt (econdition_scene s_0).cells)),(5,.tv (.pt (eGMatch m).cells)),(6,.bx [⟨false,eI s4.Choice⟩,⟨true,lI s4.Match.Morphism.Nodes⟩,⟨true,lI s4.Match.Morphism.Edges⟩,⟨true,lI s4.Match.Vars⟩,⟨true,eLProof s4.Kids⟩]),(73,.tv (eLCondition c.Kids)),(74,.tv (eI (c.Kids.length:Int))),(75,.tv (eI i4))]) (fun (s4:Proof)=>[(6,.bx [⟨false,eI s4.Choice⟩,⟨true,lI s4.Match.Morphism.Nodes⟩,⟨true,lI s4.Match.Morphism.Edges⟩,⟨true,lI s4.Match.Vars⟩,⟨true,eLProof s4.Kids⟩])]) (fun zv ze=>resIs ([.cell 6 (some 5),.tmp 7]) (.tp [eProof zv.1,eI zv.2]) ze) B ?_ ?_ ?_ ?_
    ·clear h ho4
     intro i4 s4 r4 hi4 h hw4
     refine E<|G<|Y B B<|F (kt<|kt<|kb<|kt<|kt<|kt<|kt<|kn) fun _=>?_
     refine E<|d1 B (d2 hi4)<|T (kt<|kt<|kb<|kt<|kt<|kt<|kn) fun _=>?_
     refine E<|b3<|E<|G<|D B ?_
     obtain ⟨x78,hx78,h⟩:=J h
     refine a2 B B (eLCondition_eq _) hx78 B<|M B B (B:_=eCondition x78)<|b6 B<|D B<|a6 B B B B B<|F (kt<|kt<|kb<|kt<|kb<|kt<|kt<|kt<|kn) fun _=>?_
     refine E<|G<|M B B (B:_=econdition_scene s_0)<|M B B (B:_=eCondition x78)<|M B B (B:_=eGMatch m) ?_
     obtain ⟨x84,hx84,h⟩:=J h
     refine e8 B (ih_48 s_0 x78 m _ hx84)<|e5 B<|b4 B B<|b4 B B<|b6 B<|a6 B B B B B<|D B<|F (kt<|kt<|kb<|kt<|kb<|kt<|kt<|kt<|kt<|kn) fun _=>?_
     refine E<|E<|G<|D B<|b2 B B<|F (kt<|kt<|kb<|kt<|kb<|kt<|kt<|kt<|kt<|kt<|kn) fun _=>?_
     refine U B (fun hc88=>?_) (fun hc88=>?_)
     ·replace h:=R hc88 h
      refine E<|G<|D B<|M B B (B:_=eProof x84.1)<|g5 (e:=eProof) (l:=[x84.1]) B B (fun _=>rfl) (show eLProof [x84.1]=_ from eLProof_lst _)<|e2 B B (show _=eProof (Proof.mk i4 (GMatch.mk (Morphism.mk [] []) []) [x84.1]) from B)<|a6 B B B B B<|D B<|F (kb<|kt<|kn) fun _=>?_
      refine L ?_
      cases h
      exact ⟨_,rfl,⟨by decide,rfl⟩⟩
     ·replace h:=S hc88 h
      refine T (kt<|kt<|kb<|kt<|kt<|kt<|kt<|kn) fun _=>?_
      refine E<|G<|D B<|a9 B B<|F (kt<|kt<|kb<|kt<|kt<|kt<|kt<|kt<|kn) fun _=>?_
      refine U B (fun hc94=>?_) (fun hc94=>?_)
      ·replace h:=R hc94 h
       refine E<|G<|e2 B B (show _=eProof (Proof.mk 0 (GMatch.mk (Morphism.mk [] []) []) []) from B)<|D B<|a6 B B B B B<|D B<|F (kb<|kt<|kn) fun _=>?_
       refine L ?_
       cases h
       exact ⟨_,rfl,⟨by decide,rfl⟩⟩
      ·replace h:=S hc94 h
       refine T (kt<|kt<|kb<|kt<|kt<|kt<|kn) fun _=>?_
       refine G<|a8 B B<|D B<|F (kt<|kt<|kb<|kt<|kt<|kt<|kn) ?_
       cases h
       refine ⟨_,B,?_⟩
       rw [Ktv rfl (Ktv rfl (Kbx rfl (Ktv rfl (Ktv rfl (Ktv rfl (Knil _))))))]
       rw [b7 (Z (hw4 75)) hi4 (b9 (Z (hw4 74)))]
       all_goals rfl
    ·intro i4 s4 hi4
     refine E<|G<|Y B B<|F (kt<|kt<|kb<|kt<|kt<|kt<|kt<|kn) fun _=>?_
     refine E<|d0 B (d3 hi4)<|b8 (kb<|kn) ?_
     exact ⟨rfl,rfl⟩
    ·intro s4 hs
     replace h:=d7 h hs
     intro _
     refine E<|G<|e2 B B (show _=eProof (Proof.mk 0 (GMatch.mk (Morphism.mk [] []) []) []) from B)<|a6 B B B B B<|D B<|F (kb<|kt<|kn) fun _=>?_
     refine L ?_
     cases h
     exact ⟨by decide,rfl⟩
    ·intro v4 ze hv hR
     replace h:=d8 h hv
     cases h
     exact hR
   ·replace h:=S hc70 h
    refine E<|G<|b2 B B<|D B<|F (kt<|kt<|kt<|kb<|kt<|kn) fun _=>?_
    refine U B (fun hc99=>?_) (fun hc99=>?_)
    ·replace h:=R hc99 h
     refine E<|G<|M B B (B:_=econdition_scene s_0)<|M B B (B:_=eCondition c)<|M B B (B:_=eGMatch m) ?_
     obtain ⟨x104,hx104,h⟩:=J h
     refine e8 B (ih_111 s_0 c m _ hx104)<|b4 B B<|b4 B B<|a6 B B B B B<|D B<|F (kb<|kt<|kn) fun _=>?_
     refine L ?_
     cases h
     exact ⟨by decide,rfl⟩
    ·replace h:=S hc99 h
     refine T (kb<|kn) fun _=>?_
     refine E<|G<|e2 B B (show _=eProof (Proof.mk 0 (GMatch.mk (Morphism.mk [] []) []) []) from B)<|a6 B B B B B<|D B<|F (kb<|kt<|kn) fun _=>?_
     refine L ?_
     cases h
     exact ⟨by decide,rfl⟩
theorem c111S (n:Nat) (ih_48:∀ (s_0:condition_scene) (c:Condition) (m:GMatch) (r:(Proof × Int)) (_:_condition_scene__witnessF n s_0 c m=some r),Sound prog 48 [econdition_scene s_0,eCondition c,eGMatch m] (.tp [eProof r.1,eI r.2])) (ih_111:∀ (s_0:condition_scene) (c:Condition) (m:GMatch) (r:(Proof × Int)) (_:_condition_scene__extendedF n s_0 c m=some r),Sound prog 111 [econdition_scene s_0,eCondition c,eGMatch m] (.tp [eProof r.1,eI r.2])):∀ (s_0:condition_scene) (c:Condition) (m:GMatch) (r:(Proof × Int)) (_:_condition_scene__extendedF (n+1) s_0 c m=some r),Sound prog 111 [econdition_scene s_0,eCondition c,eGMatch m] (.tp [eProof r.1,eI r.2]):= by
 intro s_0 c m r h
 refine Fn ck111 fun hw=>?_
 unfold _condition_scene__extendedF at h
 refine E<|G<|X B B<|X B B<|X B B<|b6 B<|D B<|F (kt<|kt<|kt<|kb<|kn) fun _=>?_
 refine E<|G<|M B B (B:_=econdition_scene s_0)<|M B B (B:_=eCondition c)<|M B B (B:_=eGMatch m) ?_
 obtain ⟨x18,hx18,h⟩:=J h
 refine e8 B (c115 s_0 c m _ hx18)<|e5 B<|b4 B B<|b4 B B<|f8 B<|D B<|F (kt<|kt<|kb<|kt<|kt<|kn) fun _=>?_
 refine E<|E<|G<|D B<|a9 B B<|F (kt<|kt<|kb<|kt<|kt<|kt<|kn) fun _=>?_
 refine U B (fun hc22=>?_) (fun hc22=>?_)
 ·replace h:=R hc22 h
  refine E<|G<|e2 B B (show _=eProof (Proof.mk 0 (GMatch.mk (Morphism.mk [] []) []) []) from B)<|D B<|a6 B B B B B<|D B<|F (kb<|kt<|kn) fun _=>?_
  refine L ?_
  cases h
  exact ⟨by decide,rfl⟩
 ·replace h:=S hc22 h
  refine T (kt<|kt<|kb<|kt<|kn) fun _=>?_
  refine E<|E<|G<|D B<|W B B<|D B<|F (kt<|kt<|kb<|kt<|kt<|kt<|kn) fun _=>?_
  obtain ⟨o0,ho0,h⟩:=d6 h
  refine d9 ho0 (fun (i0:Int) (s0:Proof)=>[(3,.tv (.pt (econdition_scene s_0).cells)),(4,.tv (.pt (eCondition c).cells)),(6,.bx [⟨false,eI s0.Choice⟩,⟨true,lI s0.Match.Morphism.Nodes⟩,⟨true,lI s0.Match.Morphism.Edges⟩,⟨true,lI s0.Match.Vars⟩,⟨true,eLProof s0.Kids⟩]),(25,.tv ((eL 3 eGMatch) x18.1)),(26,.tv (eI (x18.1.length:Int))),(27,.tv (eI i0))]) (fun (s0:Proof)=>[(6,.bx [⟨false,eI s0.Choice⟩,⟨true,lI s0.Match.Morphism.Nodes⟩,⟨true,lI s0.Match.Morphism.Edges⟩,⟨true,lI s0.Match.Vars⟩,⟨true,eLProof s0.Kids⟩])]) (fun zv ze=>resIs ([.cell 6 (some 5),.tmp 7]) (.tp [eProof zv.1,eI zv.2]) ze) B ?_ ?_ ?_ ?_
  ·clear h ho0
   intro i0 s0 r0 hi0 h hw0
   refine E<|G<|Y B B<|F (kt<|kt<|kb<|kt<|kt<|kt<|kt<|kn) fun _=>?_
   refine E<|d1 B (d2 hi0)<|T (kt<|kt<|kb<|kt<|kt<|kt<|kn) fun _=>?_
   refine E<|b3<|E<|G ?_
   obtain ⟨x29,hx29,h⟩:=J h
   refine a2 B B B hx29 B<|M B B (B:_=eGMatch x29)<|b6 B<|a6 B B B B B<|F (kt<|kt<|kb<|kb<|kt<|kt<|kt<|kn) fun _=>?_
   refine E<|e0 B<|M B B (B:_=econdition_scene s_0)<|O B<|K B ?_
   obtain ⟨x35,hx35,h⟩:=J h
   refine a2 B B (eLCondition_eq _) hx35 B<|M B B (B:_=eCondition x35)<|M B B (B:_=eGMatch x29) ?_
   obtain ⟨x38,hx38,h⟩:=J h
   refine e8 B (ih_48 s_0 x35 x29 _ hx38)<|e5 B<|b4 B B<|b4 B B<|b6 B<|a6 B B B B B<|D B<|F (kt<|kt<|kb<|kb<|kb<|kt<|kt<|kt<|kt<|kn) fun _=>?_
   refine E<|E<|G<|D B<|b2 B B<|F (kt<|kt<|kb<|kb<|kb<|kt<|kt<|kt<|kt<|kt<|kn) fun _=>?_
   refine U B (fun hc42=>?_) (fun hc42=>?_)
   ·replace h:=R hc42 h
    refine E<|G<|M B B (B:_=eGMatch x29)<|M B B (B:_=eProof x38.1)<|g5 (e:=eProof) (l:=[x38.1]) B B (fun _=>rfl) (show eLProof [x38.1]=_ from eLProof_lst _)<|e2 B B (B:_=eProof (Proof.mk 0 x29 [x38.1]))<|a6 B B B B B<|D B<|F (kb<|kt<|kn) fun _=>?_
    refine L ?_
    cases h
    exact ⟨_,rfl,⟨by decide,rfl⟩⟩
   ·replace h:=S hc42 h
    refine T (kt<|kt<|kb<|kt<|kt<|kt<|kt<|kn) fun _=>?_
    refine E<|G<|D B<|a9 B B<|F (kt<|kt<|kb<|kt<|kt<|kt<|kt<|kt<|kn) fun _=>?_
    refine U B (fun hc48=>?_) (fun hc48=>?_)
    ·replace h:=R hc48 h
     refine E<|G<|e2 B B (show _=eProof (Proof.mk 0 (GMatch.mk (Morphism.mk [] []) []) []) from B)<|D B<|a6 B B B B B<|D B<|F (kb<|kt<|kn) fun _=>?_
     refine L ?_
     cases h
     exact ⟨_,rfl,⟨by decide,rfl⟩⟩
    ·replace h:=S hc48 h
     refine T (kt<|kt<|kb<|kt<|kt<|kt<|kn) fun _=>?_
     refine G<|a8 B B<|D B<|F (kt<|kt<|kb<|kt<|kt<|kt<|kn) ?_
     cases h
     refine ⟨_,B,?_⟩
     rw [Ktv rfl (Ktv rfl (Kbx rfl (Ktv rfl (Ktv rfl (Ktv rfl (Knil _))))))]
     rw [b7 (Z (hw0 27)) hi0 (b9 (Z (hw0 26)))]
     all_goals rfl
  ·intro i0 s0 hi0
   refine E<|G<|Y B B<|F (kt<|kt<|kb<|kt<|kt<|kt<|kt<|kn) fun _=>?_
   refine E<|d0 B (d3 hi0)<|b8 (kb<|kn) ?_
   exact ⟨rfl,rfl⟩
  ·intro s0 hs
   replace h:=d7 h hs
   intro _
   refine E<|G<|e2 B B (show _=eProof (Proof.mk 0 (GMatch.mk (Morphism.mk [] []) []) []) from B)<|a6 B B B B B<|D B<|F (kb<|kt<|kn) fun _=>?_
   refine L ?_
   cases h
   exact ⟨by decide,rfl⟩
  ·intro v0 ze hv hR
   replace h:=d8 h hv
   cases h
   exact hR
theorem c48A:∀ n:Nat,(∀ (s_0:condition_scene) (c:Condition) (m:GMatch) (r:(Proof × Int)) (_:_condition_scene__witnessF n s_0 c m=some r),Sound prog 48 [econdition_scene s_0,eCondition c,eGMatch m] (.tp [eProof r.1,eI r.2]))∧(∀ (s_0:condition_scene) (c:Condition) (m:GMatch) (r:(Proof × Int)) (_:_condition_scene__extendedF n s_0 c m=some r),Sound prog 111 [econdition_scene s_0,eCondition c,eGMatch m] (.tp [eProof r.1,eI r.2])):=by
  intro n
  induction n with
  | zero=>exact ⟨(by intro s_0 c m r h; cases h),(by intro s_0 c m r h; cases h)⟩
  | succ n ih=>exact ⟨c48S n ih.1 ih.2,c111S n ih.1 ih.2⟩
theorem c48 (s_0:condition_scene) (c:Condition) (m:GMatch) (r:(Proof × Int)) (h:_condition_scene__witness s_0 c m=some r):Sound prog 48 [econdition_scene s_0,eCondition c,eGMatch m] (.tp [eProof r.1,eI r.2]):=by
  obtain ⟨N,hN⟩:=lim_some h
  exact (c48A N).1 s_0 c m r (hN N (Nat.le_refl _))
theorem ck20:CK f20 (Rq [Af 6 0,Af 7 1,Af 8 2,Af 9 3,Af 10 4,Cg 12 0 1 1 1 5,Ae 13 0] [5,6,7,8,9,10,12]<|Sq (Rq [Ad 15 6 2,Ad 16 7 5,Ad 17 8 9,Ad 18 9 3,Ad 19 10 3,Aa 20 5,Et 21 47 15 16 17 18 19 20,Aa 14 21] [5,6,8,9,10,12,14]<|Rq [Aa 22 14,Ax 23 22 0] [5,6,8,9,10,12,14,23]<|Co 23 (Rq [Ch 24 0 1 1 1 5,Aa 25 14,Aj 5 12 24,Aa 13 25] [12,13]<|.ret)<|Sk [5,6,8,9,10,12])<|Rq [Ad 26 6 2,Ad 27 9 3,Aa 28 5,⟨some 29,.bld [.list 4 [],.list 7 [],.list 1 [],.list 3 [],.list 1 [],.bool false] [(0,2,.s 26),(2,3,.s 27),(5,1,.s 28)],none⟩,Ad 30 8 9,Ad 31 10 3,Bg 32 48 29 30 31,Al 33 32 0,Al 34 32 1,Aj 5 12 33,Aa 13 34] [12,13]<|.ret) [.cell 12 (some 5),.tmp 13]:= by decide +kernel
theorem c20 (t:Types) (p:Pattern) (c:Condition) (h_3:Host) (m:GMatch) (injective:Bool) (r:(Proof × Int)) (h:condition_Witness t p c h_3 m injective=some r):Sound prog 20 [eTypes t,ePattern p,eCondition c,eHost h_3,eGMatch m,eB injective] (.tp [eProof r.1,eI r.2]):= by
 refine Fn ck20 fun hw=>?_
 unfold condition_Witness at h
 refine E<|G<|X B B<|X B B<|X B B<|X B B<|X B B<|b6 B<|D B<|F (kt<|kt<|kt<|kt<|kt<|kt<|kb<|kn) fun _=>?_
 refine E<|E<|G<|M B B (B:_=eTypes t)<|M B B (B:_=ePattern p)<|M B B (B:_=eCondition c)<|M B B (B:_=eHost h_3)<|M B B (B:_=eGMatch m)<|D B ?_
 obtain ⟨x21,hx21,h⟩:=J h
 refine V B (c47 t p c h_3 m injective _ hx21)<|D B<|F (kt<|kt<|kt<|kt<|kt<|kb<|kt<|kn) fun _=>?_
 refine E<|G<|D B<|a9 B B<|F (kt<|kt<|kt<|kt<|kt<|kb<|kt<|kt<|kn) fun _=>?_
 refine U B (fun hc23=>?_) (fun hc23=>?_)
 ·replace h:=R hc23 h
  refine E<|G<|e2 B B (show _=eProof (Proof.mk 0 (GMatch.mk (Morphism.mk [] []) []) []) from B)<|D B<|a6 B B B B B<|D B<|F (kb<|kt<|kn) fun _=>?_
  refine L ?_
  cases h
  exact ⟨by decide,rfl⟩
 ·replace h:=S hc23 h
  refine T (kt<|kt<|kt<|kt<|kt<|kb<|kn) fun _=>?_
  refine E<|G<|M B B (B:_=eTypes t)<|M B B (B:_=eHost h_3)<|D B<|f5 B B B (B:_=econdition_scene (condition_scene.mk t h_3 injective))<|M B B (B:_=eCondition c)<|M B B (B:_=eGMatch m) ?_
  obtain ⟨x32,hx32,h⟩:=J h
  refine e8 B (c48 (condition_scene.mk t h_3 injective) c m _ hx32)<|b4 B B<|b4 B B<|a6 B B B B B<|D B<|F (kb<|kt<|kn) fun _=>?_
  refine L ?_
  cases h
  exact ⟨by decide,rfl⟩
theorem ck18:CK f18 (Rq [Af 6 0,Af 7 1,Af 8 2,Af 9 3,Af 10 4,Ah 12,Ae 13 0] [5,6,7,8,9,10]<|Rq [Ad 17 6 2,Ad 18 7 5,Ad 19 8 9,Ad 20 9 3,Ad 21 10 3,Aa 22 5,Et 23 20 17 18 19 20 21 22,Aa 16 23,Al 24 16 0,Al 25 16 1,Cg 14 0 1 1 1 5,Aj 5 14 24,Aa 15 25] [15]<|Sq (Rq [Aa 26 15,Ar 27 26 10] [15,27]<|Co 27 (Rq [Ah 12,Ae 13 0] [12,13]<|.ret)<|Sk [15])<|Rq [Aa 28 15,Ar 29 28 0,Aa 30 15,Aa 12 29,Aa 13 30] [12,13]<|.ret) [.tmp 12,.tmp 13]:= by decide +kernel
theorem c18 (t:Types) (p:Pattern) (c:Condition) (h_3:Host) (m:GMatch) (injective:Bool) (r:(Bool × Int)) (h:condition_Satisfies t p c h_3 m injective=some r):Sound prog 18 [eTypes t,ePattern p,eCondition c,eHost h_3,eGMatch m,eB injective] (.tp [eB r.1,eI r.2]):= by
 refine Fn ck18 fun hw=>?_
 unfold condition_Satisfies at h
 refine E<|G<|X B B<|X B B<|X B B<|X B B<|X B B<|D B<|D B<|F km6 fun _=>?_
 refine E<|G<|M B B (B:_=eTypes t)<|M B B (B:_=ePattern p)<|M B B (B:_=eCondition c)<|M B B (B:_=eHost h_3)<|M B B (B:_=eGMatch m)<|D B ?_
 obtain ⟨x23,hx23,h⟩:=J h
 refine e8 B (c20 t p c h_3 m injective _ hx23)<|e5 B<|b4 B B<|b4 B B<|b6 B<|a6 B B B B B<|D B<|F km1 fun _=>?_
 refine E<|E<|G<|D B<|b2 B B<|F km2 fun _=>?_
 refine U B (fun hc27=>?_) (fun hc27=>?_)
 ·replace h:=R hc27 h
  refine E<|G<|D B<|D B<|F km2 fun _=>?_
  refine L ?_
  cases h
  exact ⟨by decide,rfl⟩
 ·replace h:=S hc27 h
  refine T km1 fun _=>?_
  refine E<|G<|D B<|b2 B B<|D B<|D B<|D B<|F km2 fun _=>?_
  refine L ?_
  cases h
  exact ⟨by decide,rfl⟩
theorem ck114:CK f114 (Rq [Af 1 0,Ah 2] [1]<|Rq [Ac 3 1 0,Ai 4 3 0,Ab 5 4,Ag 6 5,Ac 7 1 0,Ai 8 7 1,Ab 9 8,Ag 10 9,Bt 11 6 10,Ac 12 1 2,Ab 13 12,Ag 14 13,Bt 15 11 14,Ar 16 15 0,Aa 2 16] [2]<|.ret) [.tmp 2]:= by decide +kernel
theorem c114 (m:GMatch) (r:Bool) (h:condition_unmatched m=some r):Sound prog 114 [eGMatch m] (.sh (eB r)):= by
 refine Fn ck114 fun hw=>?_
 unfold condition_unmatched at h
 refine E<|G<|X B B<|D B<|F km1 fun _=>?_
 refine E<|G<|O B<|d5 B<|K B<|W B B<|O B<|d5 B<|K B<|W B B<|a8 B B<|O B<|K B<|W B B<|a8 B B<|b2 B B<|D B<|F km1 fun _=>?_
 exact L (by cases h;rfl)
theorem ck183:CK f183 (Rq [Ae 4 0] [0,1]<|Sq (Rq [Aa 6 0,Ag 7 6,Ae 8 0] [0,1,7,8]<|Bl 0<|Lo [0,1,7,8]<|Rq [Am 9 8 7] [0,1,7,8,9]<|Sq (Co 9 (Sk [0,1,7,8])<|Ex 0 [])<|Sq (Bl 1<|Rq [Aa 10 8,Aa 5 10] [0,1,5,7,8]<|Rq [Aa 11 1,Aa 12 0,Aa 13 5,Ak 14 12 13 3,Ad 15 14 3,Bx 16 11 15] [0,1,5,7,8,16]<|Co 16 (Rq [Aa 17 5,Aa 4 17] [4]<|.ret)<|Sk [0,1,7,8])<|Re [An 18 8 1,Aa 8 18] [0,1,7,8])<|Rq [Bm 4 (-1)] [4]<|.ret) [.tmp 4]:= by decide +kernel
theorem c183 (s_0:List GMatch) (f:GMatch->Option Bool) (f_f:FuncId) (k_f:List TV) (h_f:∀ (y0:GMatch) r,f y0=some r->Sound prog f_f ([eGMatch y0]++k_f) (.sh (eB r))) (r:Int) (h:slices_IndexFunc_Match s_0 f=some r):Sound prog 183 [(eL 3 eGMatch) s_0,.clo f_f k_f] (.sh (eI r)):= by
 refine Fn ck183 fun hw=>?_
 unfold slices_IndexFunc_Match at h
 refine E<|G<|D B<|F km2 fun _=>?_
 refine E<|E<|G<|D B<|W B B<|D B<|F km4 fun _=>?_
 obtain ⟨o0,ho0,h⟩:=d6 h
 refine d9 ho0 (fun (i0:Int) (_:Unit)=>[(0,.tv ((eL 3 eGMatch) s_0)),(1,.tv (.clo f_f k_f)),(7,.tv (eI (s_0.length:Int))),(8,.tv (eI i0))]) (fun (_:Unit)=>[]) (fun zv ze=>resIs ([.tmp 4]) (.sh (eI zv)) ze) B ?_ ?_ ?_ ?_
 ·clear h ho0
  intro i0 s0 r0 hi0 h hw0
  refine E<|G<|Y B B<|F km5 fun _=>?_
  refine E<|d1 B (d2 hi0)<|T km4 fun _=>?_
  refine E<|b3<|E<|G<|D B<|D B<|F km5 fun _=>?_
  refine E<|G<|D B<|D B<|D B ?_
  obtain ⟨x14,hx14,h⟩:=J h
  refine a2 B B B hx14 B<|M B B (B:_=eGMatch x14) ?_
  obtain ⟨x16,hx16,h⟩:=J h
  refine g0 B B (h_f _ _ hx16)<|F km6 fun _=>?_
  refine U B (fun hc16=>?_) (fun hc16=>?_)
  ·replace h:=R hc16 h
   refine E<|G<|D B<|D B<|F km1 fun _=>?_
   refine L ?_
   cases h
   exact ⟨_,rfl,rfl⟩
  ·replace h:=S hc16 h
   refine T km4 fun _=>?_
   refine G<|a8 B B<|D B<|F km4 ?_
   cases h
   refine ⟨_,B,?_⟩
   rw [Ktv rfl (Ktv rfl (Ktv rfl (Ktv rfl (Knil _))))]
   rw [b7 (Z (hw0 8)) hi0 (b9 (Z (hw0 7)))]
   all_goals rfl
 ·intro i0 s0 hi0
  refine E<|G<|Y B B<|F km5 fun _=>?_
  refine E<|d0 B (d3 hi0)<|b8 kn ?_
  exact ⟨rfl,rfl⟩
 ·intro s0 hs
  replace h:=d7 h hs
  intro _
  refine E<|G<|D B<|F km1 fun _=>?_
  exact L (by cases h;rfl)
 ·intro v0 ze hv hR
  replace h:=d8 h hv
  cases h
  exact hR
theorem ck116:CK f116 (Rq [Ah 4] [0,1]<|Rq [Aa 5 0,Aa 6 1,Ap 7 183 5 6,Bi 8 7 0,Aa 4 8] [4]<|.ret) [.tmp 4]:= by decide +kernel
theorem c116 (s_0:List GMatch) (f:GMatch->Option Bool) (f_f:FuncId) (k_f:List TV) (h_f:∀ (y0:GMatch) r,f y0=some r->Sound prog f_f ([eGMatch y0]++k_f) (.sh (eB r))) (r:Bool) (h:slices_ContainsFunc_Match s_0 f=some r):Sound prog 116 [(eL 3 eGMatch) s_0,.clo f_f k_f] (.sh (eB r)):= by
 refine Fn ck116 fun hw=>?_
 unfold slices_ContainsFunc_Match at h
 refine E<|G<|D B<|F km2 fun _=>?_
 refine E<|G<|D B<|D B ?_
 obtain ⟨x7,hx7,h⟩:=J h
 refine V B (c183 s_0 f _ _ h_f _ hx7)<|e1 B B<|D B<|F km1 fun _=>?_
 exact L (by cases h;rfl)
theorem ck72:CK f72 (Rq [Af 2 0,Af 3 1,Ah 4] [2,3]<|Rq [Ac 5 2 0,Ab 6 5,Ac 7 3 0,Ab 8 7,Ap 9 73 6 8,Aa 10 9,Av 11 2 1 10,Aw 12 11 10,Av 13 3 1 10,Aw 14 13 10,Cd 15 73 12 14 10,Ao 16 10 15,Aa 4 16] [4]<|.ret) [.tmp 4]:= by decide +kernel
theorem c72 (a:Morphism) (b:Morphism) (r:Bool) (h:morphism_Same a b=some r):Sound prog 72 [eMorphism a,eMorphism b] (.sh (eB r)):= by
 refine Fn ck72 fun hw=>?_
 unfold morphism_Same at h
 refine E<|G<|X B B<|X B B<|D B<|F km2 fun _=>?_
 refine E<|G<|O B<|K B<|O B<|K B ?_
 obtain ⟨x9,hx9,h⟩:=J h
 refine V B (c73 a.Nodes b.Nodes _ hx9)<|D B ?_
 obtain ⟨x16,hx16,h⟩:=J h
 refine gX 6 [11,12,13,14,15] 16 x16 x9 (fun hg16=>?_) (fun hg16=>?_) ?_
 ·replace h:=R hg16 hx16
  refine H B hg16<|O B<|H B hg16<|K B<|H B hg16<|O B<|H B hg16<|K B ?_
  obtain ⟨x15,hx15,h⟩:=J h
  refine H B hg16<|V B (c73 a.Edges b.Edges _ hx15) ?_
  cases h
  refine a4 B hg16 B ?_
  exact ⟨⟨_,_,_,_,_,B⟩⟩
 ·replace h:=S hg16 hx16
  cases h
  refine I B hg16<|I B hg16<|I B hg16<|I B hg16<|I B hg16<|a5 B hg16 B ?_
  exact ⟨⟨_,_,_,_,_,B⟩⟩
 rintro _ ⟨_,_,_,_,_,rfl⟩
 refine D B<|F km1 fun _=>?_
 exact L (by cases h;rfl)
theorem ck118:CK f118 (Rq [Af 2 0,Af 3 1,Ah 4] [2,3]<|Rq [Ac 5 2 0,Ad 6 5 2,Ac 7 3 0,Ad 8 7 2,Ap 9 72 6 8,Aa 10 9,Av 11 2 2 10,Aw 12 11 10,Av 13 3 2 10,Aw 14 13 10,Cd 15 73 12 14 10,Ao 16 10 15,Aa 4 16] [4]<|.ret) [.tmp 4]:= by decide +kernel
theorem c118 (a:GMatch) (b:GMatch) (r:Bool) (h:condition_sameMatch a b=some r):Sound prog 118 [eGMatch a,eGMatch b] (.sh (eB r)):= by
 refine Fn ck118 fun hw=>?_
 unfold condition_sameMatch at h
 refine E<|G<|X B B<|X B B<|D B<|F km2 fun _=>?_
 refine E<|G<|O B<|M B B (B:_=eMorphism a.Morphism)<|O B<|M B B (B:_=eMorphism b.Morphism) ?_
 obtain ⟨x9,hx9,h⟩:=J h
 refine V B (c72 a.Morphism b.Morphism _ hx9)<|D B ?_
 obtain ⟨x16,hx16,h⟩:=J h
 refine gX 6 [11,12,13,14,15] 16 x16 x9 (fun hg16=>?_) (fun hg16=>?_) ?_
 ·replace h:=R hg16 hx16
  refine H B hg16<|O B<|H B hg16<|K B<|H B hg16<|O B<|H B hg16<|K B ?_
  obtain ⟨x15,hx15,h⟩:=J h
  refine H B hg16<|V B (c73 a.Vars b.Vars _ hx15) ?_
  cases h
  refine a4 B hg16 B ?_
  exact ⟨⟨_,_,_,_,_,B⟩⟩
 ·replace h:=S hg16 hx16
  cases h
  refine I B hg16<|I B hg16<|I B hg16<|I B hg16<|I B hg16<|a5 B hg16 B ?_
  exact ⟨⟨_,_,_,_,_,B⟩⟩
 rintro _ ⟨_,_,_,_,_,rfl⟩
 refine D B<|F km1 fun _=>?_
 exact L (by cases h;rfl)
theorem ck117:CK f117 (Rq [Af 2 0,Ah 3] [1,2]<|Rq [Ad 4 2 3,Ac 5 1 1,Ad 6 5 3,Ap 7 118 4 6,Aa 3 7] [3]<|.ret) [.tmp 3]:= by decide +kernel
theorem c117 (x_0:GMatch) (c0:Proof) (r:Bool) (h:_condition_scene__right_1 x_0 c0=some r):Sound prog 117 [eGMatch x_0,.pt (eProof c0).cells] (.sh (eB r)):= by
 refine Fn ck117 fun hw=>?_
 unfold _condition_scene__right_1 at h
 refine E<|G<|X B B<|D B<|F km2 fun _=>?_
 refine E<|G<|M B B (B:_=eGMatch x_0)<|O B<|M B B (B:_=eGMatch c0.Match) ?_
 obtain ⟨x7,hx7,h⟩:=J h
 refine V B (c118 x_0 c0.Match _ hx7)<|D B<|F km1 fun _=>?_
 exact L (by cases h;rfl)
theorem ck51:CK f51 (Rq [Af 4 0,Af 5 1,Af 6 2,Af 7 3,Ah 8] [4,5,6,7]<|Rq [Ac 16 7 4,Ab 17 16,Ag 18 17,Aa 9 18] [4,5,6,7,9]<|Sq (Rq [Ac 19 5 0,Ab 20 19] [4,5,6,7,9,20]<|Bl 0<|Rq [Ar 22 20 1,Aa 21 22] [4,5,6,7,9,20,21]<|Co 21 (Rq [Aa 23 9,Ar 24 23 0,Aa 25 24,Av 26 7 0 25,Aw 27 26 25,Bz 28 27 0 25,Ao 29 25 28,Aa 30 29,Av 31 7 1 30,Be 32 31 3 30,Ca 33 114 32 30,Ao 34 30 33,Aa 8 34] [8]<|.ret)<|Rq [Ar 36 20 2,Aa 35 36] [4,5,6,7,9,20,35]<|Co 35 (Sq (Dr [10,11,37,38,39,40,41,42,43,44,45,46] [Ad 38 4 6,Ac 39 5 1,Ab 40 39,By 41 40 0 9,Ad 42 41 9,Ad 43 6 3,Bg 44 48 38 42 43,Aa 37 44,Al 45 37 0,Al 46 37 1,Cg 10 0 1 1 1 5,Aj 5 10 45,Aa 11 46] [7,9,11])<|Rq [Aa 47 9,Ar 48 47 0,Aa 49 48,Av 50 7 0 49,Aw 51 50 49,Bz 52 51 0 49,Ao 53 49 52,Aa 54 53,Av 55 7 1 54,Be 56 55 3 54,Ca 57 114 56 54,Ao 58 54 57,Aa 59 58,Az 60 11 59,Bz 61 60 10 59,Ao 62 59 61,Aa 8 62] [8]<|.ret)<|Rq [Ar 64 20 3,Aa 63 64] [4,5,6,7,9,20,63]<|Co 63 (Sq (Rq [Aa 65 9,Ac 66 5 1,Ab 67 66,Ag 68 67,Bd 69 65 68,Aa 70 69,Aq 71 7 0 70,As 72 71 70,Fd 73 72 0 70,At 74 70 73,Aa 75 74,Aq 76 7 1 75,Bk 77 76 3 75,Df 78 114 77 75,Bn 79 78 75,At 80 75 79] [4,5,6,7,80]<|Co 80 (Rq [Ah 8] [8]<|.ret)<|Sk [4,5,6,7])<|Sq (Rq [Ac 81 5 1,Ab 82 81,Ag 83 82,Ae 84 0] [4,6,7,82,83,84]<|Bl 1<|Lo [4,6,7,82,83,84]<|Rq [Am 85 84 83] [4,6,7,82,83,84,85]<|Sq (Co 85 (Sk [4,6,7,82,83,84])<|Ex 1 [])<|Sq (Bl 2<|Rq [Aa 86 84,Ak 87 82 84 9,Ad 88 87 9,Bf 13 0 9 1 1 1 3 4 0 5,Aa 12 86,Aj 9 13 88] [4,6,7,12,13,82,83,84]<|Sq (Dr [89,90,91,92,93,94,95,96,97,98] [Ad 89 4 6,Ad 90 13 9,Ad 91 6 3,Ac 92 7 4,Ab 93 92,Aa 94 12,Ak 95 93 94 5,Ad 96 95 5,Dc 97 51 89 90 91 96,Bb 98 97] [4,6,7,82,83,84,98])<|Co 98 (Rq [Ah 8] [8]<|.ret)<|Sk [4,6,7,82,83,84])<|Re [An 99 84 1,Aa 84 99] [4,6,7,82,83,84])<|Rq [Bp 8] [8]<|.ret)<|Rq [Ar 101 20 4,Aa 100 101] [4,5,6,7,9,100]<|Co 100 (Sq (Dr [8,102,103,104,105,106,107,108,109,110,111,112,113,114,115,116,117,118,119,120,121,122,123,124,125,126,127,128,129,130,131,132,133,134,135,136] [Aa 102 9,Ar 103 102 1,Aa 104 103,Av 105 7 0 104,Aw 106 105 104,Fe 107 106 0 104,Ao 108 104 107,Aa 109 108,Av 110 7 0 109,Aw 111 110 109,Av 112 5 1 109,Aw 113 112 109,Cf 114 113 109,Ej 115 111 114 109,Ao 116 109 115,Aa 117 116,Av 118 7 1 117,Be 119 118 3 117,Ca 120 114 119 117,Ao 121 117 120,Aa 122 121,Be 123 4 6 122,Av 124 5 1 122,Aw 125 124 122,Av 126 7 0 122,Aw 127 126 122,⟨some 128,.iad (.s 125) (.s 127) 9,some (122,true)⟩,Be 129 128 9 122,Be 130 6 3 122,Av 131 7 4 122,Aw 132 131 122,Dl 133 132 0 5 122,Be 134 133 5 122,⟨some 135,.call 51 [.s 123,.s 129,.s 130,.s 134],some (122,true)⟩,Ao 136 122 135,Aa 8 136] [8])<|.ret)<|Sk [4,5,6,7,9])<|Sq (Rq [Aa 137 9,Ax 138 137 1,Aa 139 138,Aq 140 7 0 139,As 141 140 139,Fd 142 141 0 139,At 143 139 142] [4,5,6,7,143]<|Co 143 (Rq [Ah 8] [8]<|.ret)<|Sk [4,5,6,7])<|Rq [Ad 145 4 6,Ad 146 5 9,Ad 147 6 3,Bg 148 115 145 146 147,Aa 144 148,Al 149 144 0,Al 150 144 1,Ay 14 149,Aa 15 150] [4,5,7,14,15]<|Sq (Rq [Aa 151 15,Ax 152 151 0,Aa 153 152,Bc 154 14 153,⟨some 155,.clo 117 [.s 7],some (153,false)⟩,Bv 156 116 154 155 153,Bn 157 156 153,At 158 153 157] [4,5,7,158]<|Co 158 (Rq [Ah 8] [8]<|.ret)<|Sk [4,5,7])<|Sq (Dr [8,159,160,161,162,163,164,165,166,167,168,169,170] [Ad 159 4 6,Ac 160 5 1,Ab 161 160,By 162 161 0 9,Ad 163 162 9,Ac 164 7 1,Ad 165 164 3,Ac 166 7 4,Ab 167 166,By 168 167 0 5,Ad 169 168 5,Dc 170 51 159 163 165 169,Aa 8 170] [8])<|.ret) [.tmp 8]:= by decide +kernel
theorem c51S (n:Nat) (ih_51:∀ (s_0:condition_scene) (c:Condition) (m:GMatch) (w:Proof) (r:Bool) (_:_condition_scene__rightF n s_0 c m w=some r),Sound prog 51 [econdition_scene s_0,eCondition c,eGMatch m,eProof w] (.sh (eB r))):∀ (s_0:condition_scene) (c:Condition) (m:GMatch) (w:Proof) (r:Bool) (_:_condition_scene__rightF (n+1) s_0 c m w=some r),Sound prog 51 [econdition_scene s_0,eCondition c,eGMatch m,eProof w] (.sh (eB r)):= by
 intro s_0 c m w r h
 refine Fn ck51 fun hw=>?_
 unfold _condition_scene__rightF at h
 refine E<|G<|X B B<|X B B<|X B B<|X B B<|D B<|F km4 fun _=>?_
 refine E<|G<|O B<|K B<|W B (eLProof_eq _)<|D B<|F km5 fun _=>?_
 refine E<|E<|G<|O B<|K B<|F km6 fun _=>?_
 refine b3<|E<|G<|b2 B B<|D B<|F km7 fun _=>?_
 refine U B (fun hc21=>?_) (fun hc21=>?_)
 ·replace h:=R hc21 h
  refine E<|G<|D B<|b2 B B<|D B ?_
  refine gA 4 [26,27,28] 29 (decide ((w.Kids.length:Int)=0)) (decide (w.Choice=0)) (fun hg29=>?_) (fun hg29=>?_) ?_
  ·refine H B hg29<|O B<|H B hg29<|K B<|H B hg29<|b2 B B<|a4 B hg29 B ?_
   exact ⟨⟨_,_,_,B⟩⟩
  ·refine I B hg29<|I B hg29<|I B hg29<|a5 B hg29 B ?_
   exact ⟨⟨_,_,_,B⟩⟩
  rintro _ ⟨_,_,_,rfl⟩
  refine D B ?_
  obtain ⟨x34,hx34,h⟩:=J h
  refine gX 4 [31,32,33] 34 x34 ((decide ((w.Kids.length:Int)=0))&&(decide (w.Choice=0))) (fun hg34=>?_) (fun hg34=>?_) ?_
  ·replace h:=R hg34 hx34
   refine H B hg34<|O B<|H B hg34<|M B B (B:_=eGMatch w.Match) ?_
   obtain ⟨x33,hx33,h⟩:=J h
   refine H B hg34<|V B (c114 w.Match _ hx33) ?_
   cases h
   refine a4 B hg34 B ?_
   exact ⟨⟨_,_,_,B⟩⟩
  ·replace h:=S hg34 hx34
   cases h
   refine I B hg34<|I B hg34<|I B hg34<|a5 B hg34 B ?_
   exact ⟨⟨_,_,_,B⟩⟩
  rintro _ ⟨_,_,_,rfl⟩
  refine D B<|F km1 fun _=>?_
  exact L (by cases h;rfl)
 ·replace h:=S hc21 h
  refine E<|G<|b2 B B<|D B<|F km7 fun _=>?_
  refine U B (fun hc35=>?_) (fun hc35=>?_)
  ·replace h:=R hc35 h
   refine E<|e0 B<|M B B (B:_=econdition_scene s_0)<|O B<|K B ?_
   obtain ⟨x41,hx41,h⟩:=J h
   refine a2 B B (eLCondition_eq _) hx41 B<|M B B (B:_=eCondition x41)<|M B B (B:_=eGMatch m) ?_
   obtain ⟨x44,hx44,h⟩:=J h
   refine e8 B (c48 s_0 x41 m _ hx44)<|e5 B<|b4 B B<|b4 B B<|b6 B<|a6 B B B B B<|D B<|F km3 fun _=>?_
   refine E<|G<|D B<|b2 B B<|D B ?_
   refine gA 4 [50,51,52] 53 (decide ((w.Kids.length:Int)=0)) (decide (w.Choice=0)) (fun hg53=>?_) (fun hg53=>?_) ?_
   ·refine H B hg53<|O B<|H B hg53<|K B<|H B hg53<|b2 B B<|a4 B hg53 B ?_
    exact ⟨⟨_,_,_,B⟩⟩
   ·refine I B hg53<|I B hg53<|I B hg53<|a5 B hg53 B ?_
    exact ⟨⟨_,_,_,B⟩⟩
   rintro _ ⟨_,_,_,rfl⟩
   refine D B ?_
   obtain ⟨x58,hx58,h⟩:=J h
   refine gX 4 [55,56,57] 58 x58 ((decide ((w.Kids.length:Int)=0))&&(decide (w.Choice=0))) (fun hg58=>?_) (fun hg58=>?_) ?_
   ·replace h:=R hg58 hx58
    refine H B hg58<|O B<|H B hg58<|M B B (B:_=eGMatch w.Match) ?_
    obtain ⟨x57,hx57,h⟩:=J h
    refine H B hg58<|V B (c114 w.Match _ hx57) ?_
    cases h
    refine a4 B hg58 B ?_
    exact ⟨⟨_,_,_,B⟩⟩
   ·replace h:=S hg58 hx58
    cases h
    refine I B hg58<|I B hg58<|I B hg58<|a5 B hg58 B ?_
    exact ⟨⟨_,_,_,B⟩⟩
   rintro _ ⟨_,_,_,rfl⟩
   refine D B ?_
   refine gA 3 [60,61] 62 x58 (decide (x44.2=10)) (fun hg62=>?_) (fun hg62=>?_) ?_
   ·refine H B hg62<|D B<|H B hg62<|b2 B B<|a4 B hg62 B ?_
    exact ⟨⟨_,_,B⟩⟩
   ·refine I B hg62<|I B hg62<|a5 B hg62 B ?_
    exact ⟨⟨_,_,B⟩⟩
   rintro _ ⟨_,_,rfl⟩
   refine D B<|F km1 fun _=>?_
   exact L (by cases h;rfl)
  ·replace h:=S hc35 h
   refine E<|G<|b2 B B<|D B<|F km7 fun _=>?_
   refine U B (fun hc63=>?_) (fun hc63=>?_)
   ·replace h:=R hc63 h
    refine E<|E<|G<|D B<|O B<|K B<|W B (eLCondition_eq _)<|a9 B B<|D B ?_
    refine gO 4 [71,72,73] 74 (!decide ((w.Kids.length:Int)=(c.Kids.length:Int))) (!decide (w.Choice=0)) (fun hg74=>?_) (fun hg74=>?_) ?_
    ·refine I B hg74<|I B hg74<|I B hg74<|a4 B hg74 B ?_
     exact ⟨⟨_,_,_,B⟩⟩
    ·refine H B hg74<|O B<|H B hg74<|K B<|H B hg74<|a9 B B<|a5 B hg74 B ?_
     exact ⟨⟨_,_,_,B⟩⟩
    rintro _ ⟨_,_,_,rfl⟩
    refine D B ?_
    obtain ⟨x80,hx80,h⟩:=J h
    refine gX 5 [76,77,78,79] 80 x80 ((!decide ((w.Kids.length:Int)=(c.Kids.length:Int)))||(!decide (w.Choice=0))) (fun hg80=>?_) (fun hg80=>?_) ?_
    ·replace h:=R hg80 hx80
     cases h
     refine I B hg80<|I B hg80<|I B hg80<|I B hg80<|a4 B hg80 B ?_
     exact ⟨⟨_,_,_,_,B⟩⟩
    ·replace h:=S hg80 hx80
     refine H B hg80<|O B<|H B hg80<|M B B (B:_=eGMatch w.Match) ?_
     obtain ⟨x78,hx78,h⟩:=J h
     refine H B hg80<|V B (c114 w.Match _ hx78)<|H B hg80<|d4 B ?_
     cases h
     refine a5 B hg80 B ?_
     exact ⟨⟨_,_,_,_,B⟩⟩
    rintro _ ⟨_,_,_,_,rfl⟩
    refine F km5 fun _=>?_
    refine U B (fun hc80=>?_) (fun hc80=>?_)
    ·replace h:=R hc80 h
     refine E<|G<|D B<|F km1 fun _=>?_
     exact L (by cases h;rfl)
    ·replace h:=S hc80 h
     refine T km4 fun _=>?_
     refine E<|E<|G<|O B<|K B<|W B (eLCondition_eq _)<|D B<|F km6 fun _=>?_
     obtain ⟨o1,ho1,h⟩:=d6 h
     refine d9 ho1 (fun (i1:Int) (_:Unit)=>[(4,.tv (.pt (econdition_scene s_0).cells)),(6,.tv (.pt (eGMatch m).cells)),(7,.tv (.pt (eProof w).cells)),(82,.tv (eLCondition c.Kids)),(83,.tv (eI (c.Kids.length:Int))),(84,.tv (eI i1))]) (fun (_:Unit)=>[]) (fun zv ze=>resIs ([.tmp 8]) (.sh (eB zv)) ze) B ?_ ?_ ?_ ?_
     ·clear h ho1
      intro i1 s1 r1 hi1 h hw1
      refine E<|G<|Y B B<|F km7 fun _=>?_
      refine E<|d1 B (d2 hi1)<|T km6 fun _=>?_
      refine E<|b3<|E<|G<|D B ?_
      obtain ⟨x87,hx87,h⟩:=J h
      refine a2 B B (eLCondition_eq _) hx87 B<|M B B (B:_=eCondition x87)<|b6 B<|D B<|a6 B B B B B<|F (kt<|kt<|kt<|kt<|kb<|kt<|kt<|kt<|kn) fun _=>?_
      refine E<|e0 B<|M B B (B:_=econdition_scene s_0)<|M B B (B:_=eCondition x87)<|M B B (B:_=eGMatch m)<|O B<|K B<|D B ?_
      obtain ⟨x95,hx95,h⟩:=J h
      refine a2 B B (eLProof_eq _) hx95 B<|M B B (B:_=eProof x95) ?_
      obtain ⟨x97,hx97,h⟩:=J h
      refine V B (ih_51 s_0 x87 m x95 _ hx97)<|d4 B<|F km7 fun _=>?_
      refine U B (fun hc98=>?_) (fun hc98=>?_)
      ·replace h:=R hc98 h
       refine E<|G<|D B<|F km1 fun _=>?_
       refine L ?_
       cases h
       exact ⟨_,rfl,rfl⟩
      ·replace h:=S hc98 h
       refine T km6 fun _=>?_
       refine G<|a8 B B<|D B<|F km6 ?_
       cases h
       refine ⟨_,B,?_⟩
       rw [Ktv rfl (Ktv rfl (Ktv rfl (Ktv rfl (Ktv rfl (Ktv rfl (Knil _))))))]
       rw [b7 (Z (hw1 84)) hi1 (b9 (Z (hw1 83)))]
       all_goals rfl
     ·intro i1 s1 hi1
      refine E<|G<|Y B B<|F km7 fun _=>?_
      refine E<|d0 B (d3 hi1)<|b8 kn ?_
      exact ⟨rfl,rfl⟩
     ·intro s1 hs
      replace h:=d7 h hs
      intro _
      refine E<|G<|D B<|F km1 fun _=>?_
      exact L (by cases h;rfl)
     ·intro v1 ze hv hR
      replace h:=d8 h hv
      cases h
      exact hR
   ·replace h:=S hc63 h
    refine E<|G<|b2 B B<|D B<|F km6 fun _=>?_
    refine U B (fun hc100=>?_) (fun hc100=>?_)
    ·replace h:=R hc100 h
     refine E<|e0 B<|D B<|b2 B B<|D B ?_
     refine gA 4 [105,106,107] 108 (decide ((w.Kids.length:Int)=1)) (decide (0<=w.Choice)) (fun hg108=>?_) (fun hg108=>?_) ?_
     ·refine H B hg108<|O B<|H B hg108<|K B<|H B hg108<|e1 B B<|a4 B hg108 B ?_
      exact ⟨⟨_,_,_,B⟩⟩
     ·refine I B hg108<|I B hg108<|I B hg108<|a5 B hg108 B ?_
      exact ⟨⟨_,_,_,B⟩⟩
     rintro _ ⟨_,_,_,rfl⟩
     refine D B ?_
     refine gA 7 [110,111,112,113,114,115] 116 ((decide ((w.Kids.length:Int)=1))&&(decide (0<=w.Choice))) (decide (w.Choice<(c.Kids.length:Int))) (fun hg116=>?_) (fun hg116=>?_) ?_
     ·refine H B hg116<|O B<|H B hg116<|K B<|H B hg116<|O B<|H B hg116<|K B<|H B hg116<|W B (eLCondition_eq _)<|H B hg116<|Y B B<|a4 B hg116 B ?_
      exact ⟨⟨_,_,_,_,_,_,B⟩⟩
     ·refine I B hg116<|I B hg116<|I B hg116<|I B hg116<|I B hg116<|I B hg116<|a5 B hg116 B ?_
      exact ⟨⟨_,_,_,_,_,_,B⟩⟩
     rintro _ ⟨_,_,_,_,_,_,rfl⟩
     refine D B ?_
     obtain ⟨x121,hx121,h⟩:=J h
     refine gX 4 [118,119,120] 121 x121 (((decide ((w.Kids.length:Int)=1))&&(decide (0<=w.Choice)))&&(decide (w.Choice<(c.Kids.length:Int)))) (fun hg121=>?_) (fun hg121=>?_) ?_
     ·replace h:=R hg121 hx121
      refine H B hg121<|O B<|H B hg121<|M B B (B:_=eGMatch w.Match) ?_
      obtain ⟨x120,hx120,h⟩:=J h
      refine H B hg121<|V B (c114 w.Match _ hx120) ?_
      cases h
      refine a4 B hg121 B ?_
      exact ⟨⟨_,_,_,B⟩⟩
     ·replace h:=S hg121 hx121
      cases h
      refine I B hg121<|I B hg121<|I B hg121<|a5 B hg121 B ?_
      exact ⟨⟨_,_,_,B⟩⟩
     rintro _ ⟨_,_,_,rfl⟩
     refine D B ?_
     obtain ⟨x136,hx136,h⟩:=J h
     refine gX 14 [123,124,125,126,127,128,129,130,131,132,133,134,135] 136 x136 x121 (fun hg136=>?_) (fun hg136=>?_) ?_
     ·replace h:=R hg136 hx136
      refine H B hg136<|M B B (B:_=econdition_scene s_0)<|H B hg136<|O B<|H B hg136<|K B<|H B hg136<|O B<|H B hg136<|K B ?_
      obtain ⟨x128,hx128,h⟩:=J h
      refine H B hg136<|a2 B B (eLCondition_eq _) hx128 B<|H B hg136<|M B B (B:_=eCondition x128)<|H B hg136<|M B B (B:_=eGMatch m)<|H B hg136<|O B<|H B hg136<|K B ?_
      obtain ⟨x133,hx133,h⟩:=J h
      refine H B hg136<|a2 B B (eLProof_eq _) hx133 B<|H B hg136<|M B B (B:_=eProof x133) ?_
      obtain ⟨x135,hx135,h⟩:=J h
      refine H B hg136<|V B (ih_51 s_0 x128 m x133 _ hx135) ?_
      cases h
      refine a4 B hg136 B ?_
      exact ⟨⟨_,_,_,_,_,_,_,_,_,_,_,_,_,B⟩⟩
     ·replace h:=S hg136 hx136
      cases h
      refine I B hg136<|I B hg136<|I B hg136<|I B hg136<|I B hg136<|I B hg136<|I B hg136<|I B hg136<|I B hg136<|I B hg136<|I B hg136<|I B hg136<|I B hg136<|a5 B hg136 B ?_
      exact ⟨⟨_,_,_,_,_,_,_,_,_,_,_,_,_,B⟩⟩
     rintro _ ⟨_,_,_,_,_,_,_,_,_,_,_,_,_,rfl⟩
     refine D B<|F km1 fun _=>?_
     exact L (by cases h;rfl)
    ·replace h:=S hc100 h
     refine T km5 fun _=>?_
     refine E<|E<|G<|D B<|a9 B B<|D B ?_
     refine gO 4 [140,141,142] 143 (!decide ((w.Kids.length:Int)=1)) (!decide (w.Choice=0)) (fun hg143=>?_) (fun hg143=>?_) ?_
     ·refine I B hg143<|I B hg143<|I B hg143<|a4 B hg143 B ?_
      exact ⟨⟨_,_,_,B⟩⟩
     ·refine H B hg143<|O B<|H B hg143<|K B<|H B hg143<|a9 B B<|a5 B hg143 B ?_
      exact ⟨⟨_,_,_,B⟩⟩
     rintro _ ⟨_,_,_,rfl⟩
     refine F km5 fun _=>?_
     refine U B (fun hc143=>?_) (fun hc143=>?_)
     ·replace h:=R hc143 h
      refine E<|G<|D B<|F km1 fun _=>?_
      exact L (by cases h;rfl)
     ·replace h:=S hc143 h
      refine T km4 fun _=>?_
      refine E<|G<|M B B (B:_=econdition_scene s_0)<|M B B (B:_=eCondition c)<|M B B (B:_=eGMatch m) ?_
      obtain ⟨x148,hx148,h⟩:=J h
      refine e8 B (c115 s_0 c m _ hx148)<|e5 B<|b4 B B<|b4 B B<|f8 B<|D B<|F km5 fun _=>?_
      refine E<|E<|G<|D B<|a9 B B<|D B ?_
      obtain ⟨x158,hx158,h⟩:=J h
      refine gX 5 [154,155,156,157] 158 x158 (!decide (x148.2=0)) (fun hg158=>?_) (fun hg158=>?_) ?_
      ·replace h:=R hg158 hx158
       cases h
       refine I B hg158<|I B hg158<|I B hg158<|I B hg158<|a4 B hg158 B ?_
       exact ⟨⟨_,_,_,_,B⟩⟩
      ·replace h:=S hg158 hx158
       refine H B hg158<|D B<|H B hg158<|g1 B ?_
       obtain ⟨x156,hx156,h⟩:=J h
       refine H B hg158<|V B (c116 x148.1 (fun y0=>_condition_scene__right_1 y0 w) _ _ (fun y0 r h=>c117 y0 w r h) _ hx156)<|H B hg158<|d4 B ?_
       cases h
       refine a5 B hg158 B ?_
       exact ⟨⟨_,_,_,_,B⟩⟩
      rintro _ ⟨_,_,_,_,rfl⟩
      refine F km4 fun _=>?_
      refine U B (fun hc158=>?_) (fun hc158=>?_)
      ·replace h:=R hc158 h
       refine E<|G<|D B<|F km1 fun _=>?_
       exact L (by cases h;rfl)
      ·replace h:=S hc158 h
       refine T km3 fun _=>?_
       refine E<|e0 B<|M B B (B:_=econdition_scene s_0)<|O B<|K B ?_
       obtain ⟨x162,hx162,h⟩:=J h
       refine a2 B B (eLCondition_eq _) hx162 B<|M B B (B:_=eCondition x162)<|O B<|M B B (B:_=eGMatch w.Match)<|O B<|K B ?_
       obtain ⟨x168,hx168,h⟩:=J h
       refine a2 B B (eLProof_eq _) hx168 B<|M B B (B:_=eProof x168) ?_
       obtain ⟨x170,hx170,h⟩:=J h
       refine V B (ih_51 s_0 x162 w.Match x168 _ hx170)<|D B<|F km1 fun _=>?_
       exact L (by cases h;rfl)
theorem c51A:∀ n:Nat,(∀ (s_0:condition_scene) (c:Condition) (m:GMatch) (w:Proof) (r:Bool) (_:_condition_scene__rightF n s_0 c m w=some r),Sound prog 51 [econdition_scene s_0,eCondition c,eGMatch m,eProof w] (.sh (eB r))):=by
  intro n
  induction n with
  | zero=>intro s_0 c m w r h; cases h
  | succ n ih=>exact c51S n ih
theorem c51 (s_0:condition_scene) (c:Condition) (m:GMatch) (w:Proof) (r:Bool) (h:_condition_scene__right s_0 c m w=some r):Sound prog 51 [econdition_scene s_0,eCondition c,eGMatch m,eProof w] (.sh (eB r)):=by
  obtain ⟨N,hN⟩:=lim_some h
  exact (c51A N) s_0 c m w r (hN N (Nat.le_refl _))
theorem ck23:CK f23 (Rq [Af 7 0,Af 8 1,Af 9 2,Af 10 3,Af 11 4,Af 13 6,Ah 14] [5,7,8,9,10,11,13]<|Rq [Ad 15 7 2,Ad 16 8 5,Ad 17 9 9,Ad 18 10 3,Ad 19 11 3,Aa 20 5,Et 21 47 15 16 17 18 19 20,Ar 22 21 0,Aa 23 22,Be 24 7 2 23,Be 25 10 3 23,Az 26 5 23,⟨some 27,.bld [.list 4 [],.list 7 [],.list 1 [],.list 3 [],.list 1 [],.bool false] [(0,2,.s 24),(2,3,.s 25),(5,1,.s 26)],some (23,true)⟩,Be 28 9 9 23,Be 29 11 3 23,Be 30 13 5 23,⟨some 31,.call 51 [.s 27,.s 28,.s 29,.s 30],some (23,true)⟩,Ao 32 23 31,Aa 14 32] [14]<|.ret) [.tmp 14]:= by decide +kernel
theorem c23 (t:Types) (p:Pattern) (c:Condition) (h_3:Host) (m:GMatch) (injective:Bool) (w:Proof) (r:Bool) (h:condition_CheckWitness t p c h_3 m injective w=some r):Sound prog 23 [eTypes t,ePattern p,eCondition c,eHost h_3,eGMatch m,eB injective,eProof w] (.sh (eB r)):= by
 refine Fn ck23 fun hw=>?_
 unfold condition_CheckWitness at h
 refine E<|G<|X B B<|X B B<|X B B<|X B B<|X B B<|X B B<|D B<|F km7 fun _=>?_
 refine E<|G<|M B B (B:_=eTypes t)<|M B B (B:_=ePattern p)<|M B B (B:_=eCondition c)<|M B B (B:_=eHost h_3)<|M B B (B:_=eGMatch m)<|D B ?_
 obtain ⟨x21,hx21,h⟩:=J h
 refine V B (c47 t p c h_3 m injective _ hx21)<|b2 B B<|D B ?_
 obtain ⟨x32,hx32,h⟩:=J h
 refine gX 9 [24,25,26,27,28,29,30,31] 32 x32 (decide (x21=0)) (fun hg32=>?_) (fun hg32=>?_) ?_
 ·replace h:=R hg32 hx32
  refine H B hg32<|M B B (B:_=eTypes t)<|H B hg32<|M B B (B:_=eHost h_3)<|H B hg32<|D B<|H B hg32<|f5 B B B (B:_=econdition_scene (condition_scene.mk t h_3 injective))<|H B hg32<|M B B (B:_=eCondition c)<|H B hg32<|M B B (B:_=eGMatch m)<|H B hg32<|M B B (B:_=eProof w) ?_
  obtain ⟨x31,hx31,h⟩:=J h
  refine H B hg32<|V B (c51 (condition_scene.mk t h_3 injective) c m w _ hx31) ?_
  cases h
  refine a4 B hg32 B ?_
  exact ⟨⟨_,_,_,_,_,_,_,_,B⟩⟩
 ·replace h:=S hg32 hx32
  cases h
  refine I B hg32<|I B hg32<|I B hg32<|I B hg32<|I B hg32<|I B hg32<|I B hg32<|I B hg32<|a5 B hg32 B ?_
  exact ⟨⟨_,_,_,_,_,_,_,_,B⟩⟩
 rintro _ ⟨_,_,_,_,_,_,_,_,rfl⟩
 refine D B<|F km1 fun _=>?_
 exact L (by cases h;rfl)
theorem ck35:CK f35 (Rq [Cl 0 4 7] [0]<|Rq [⟨some 1,.bld [.str ⟨#[]⟩,.int .i64 0,.int .i64 0,.list 1 []] [(0,1,.c (.str ⟨#[98,97,108,97,110,99,101]⟩)),(1,1,.c (.int .i64 (-1000))),(2,1,.c (.int .i64 1000))],none⟩,Bh 2 4 1,⟨some 3,.bld [.str ⟨#[]⟩,.int .i64 0,.bool false,.list 4 []] [(0,1,.c (.str ⟨#[65,99,99,111,117,110,116]⟩)),(1,1,.c (.int .i64 (-1))),(2,1,.c (.bool true)),(3,1,.s 2)],none⟩,⟨some 4,.bld [.str ⟨#[]⟩,.int .i64 0,.bool false,.list 4 []] [(0,1,.c (.str ⟨#[67,97,115,104]⟩)),(1,1,.c (.int .i64 0))],none⟩,⟨some 5,.lst 1 [.c (.str ⟨#[111,112,101,110]⟩),.c (.str ⟨#[99,108,111,115,101,100]⟩)],none⟩,⟨some 6,.bld [.str ⟨#[]⟩,.int .i64 0,.int .i64 0,.list 1 []] [(0,1,.c (.str ⟨#[115,116,97,116,101]⟩)),(2,1,.c (.int .i64 1)),(3,1,.s 5)],none⟩,Bh 7 4 6,⟨some 8,.bld [.str ⟨#[]⟩,.int .i64 0,.bool false,.list 4 []] [(0,1,.c (.str ⟨#[76,111,97,110]⟩)),(1,1,.c (.int .i64 0)),(3,1,.s 7)],none⟩,⟨some 9,.bld [.str ⟨#[]⟩,.int .i64 0,.bool false,.list 4 []] [(0,1,.c (.str ⟨#[80,101,114,115,111,110]⟩)),(1,1,.c (.int .i64 (-1)))],none⟩,⟨some 10,.lst 4 [.s 3,.s 4,.s 8,.s 9],none⟩,⟨some 11,.bld [.str ⟨#[]⟩,.int .i64 0,.int .i64 0,.int .i64 0,.int .i64 0,.int .i64 0,.int .i64 0] [(0,1,.c (.str ⟨#[111,119,110,115]⟩)),(1,1,.c (.int .i64 3)),(2,1,.c (.int .i64 0)),(4,1,.c (.int .i64 (-1))),(5,1,.c (.int .i64 1)),(6,1,.c (.int .i64 1))],none⟩,⟨some 12,.bld [.str ⟨#[]⟩,.int .i64 0,.int .i64 0,.int .i64 0,.int .i64 0,.int .i64 0,.int .i64 0] [(0,1,.c (.str ⟨#[112,97,121,115]⟩)),(1,1,.c (.int .i64 1)),(2,1,.c (.int .i64 1)),(4,1,.c (.int .i64 (-1))),(6,1,.c (.int .i64 (-1)))],none⟩,Cs 13 7 11 12,⟨some 14,.bldo [10,13],none⟩,⟨none,.stx 2 0 14,none⟩] [0]<|.ret) [.cell 0 (some 2)]:= by decide +kernel
theorem c35  (r:Types) (h:ref04_Example =some r):Sound prog 35 [] (.oag [⟨true,lN r.Nodes⟩,⟨true,lX r.Edges⟩]):= by
 refine Fn ck35 fun hw=>?_
 unfold ref04_Example at h
 refine E<|G<|b6 B<|F (kb<|kn) fun _=>?_
 refine E<|G<|e2 B B (B:_=eAttr (Attr.mk (⟨#[98,97,108,97,110,99,101]⟩:ByteArray) (-1000) 1000 []))<|e4 (e:=eAttr) (l:=[Attr.mk (⟨#[98,97,108,97,110,99,101]⟩:ByteArray) (-1000) 1000 []]) B B (fun _=>rfl)<|f5 B B B (B:_=eNodeType (NodeType.mk (⟨#[65,99,99,111,117,110,116]⟩:ByteArray) (-1) true [Attr.mk (⟨#[98,97,108,97,110,99,101]⟩:ByteArray) (-1000) 1000 []]))<|e2 B B (B:_=eNodeType (NodeType.mk (⟨#[67,97,115,104]⟩:ByteArray) 0 false []))<|e4 (e:=eS) (l:=[(⟨#[111,112,101,110]⟩:ByteArray),(⟨#[99,108,111,115,101,100]⟩:ByteArray)]) B B (fun _=>rfl)<|e2 B B (B:_=eAttr (Attr.mk (⟨#[115,116,97,116,101]⟩:ByteArray) 0 1 [(⟨#[111,112,101,110]⟩:ByteArray),(⟨#[99,108,111,115,101,100]⟩:ByteArray)]))<|e4 (e:=eAttr) (l:=[Attr.mk (⟨#[115,116,97,116,101]⟩:ByteArray) 0 1 [(⟨#[111,112,101,110]⟩:ByteArray),(⟨#[99,108,111,115,101,100]⟩:ByteArray)]]) B B (fun _=>rfl)<|e2 B B (B:_=eNodeType (NodeType.mk (⟨#[76,111,97,110]⟩:ByteArray) 0 false [Attr.mk (⟨#[115,116,97,116,101]⟩:ByteArray) 0 1 [(⟨#[111,112,101,110]⟩:ByteArray),(⟨#[99,108,111,115,101,100]⟩:ByteArray)]]))<|e2 B B (B:_=eNodeType (NodeType.mk (⟨#[80,101,114,115,111,110]⟩:ByteArray) (-1) false []))<|e4 (e:=eNodeType) (l:=[NodeType.mk (⟨#[65,99,99,111,117,110,116]⟩:ByteArray) (-1) true [Attr.mk (⟨#[98,97,108,97,110,99,101]⟩:ByteArray) (-1000) 1000 []],NodeType.mk (⟨#[67,97,115,104]⟩:ByteArray) 0 false [],NodeType.mk (⟨#[76,111,97,110]⟩:ByteArray) 0 false [Attr.mk (⟨#[115,116,97,116,101]⟩:ByteArray) 0 1 [(⟨#[111,112,101,110]⟩:ByteArray),(⟨#[99,108,111,115,101,100]⟩:ByteArray)]],NodeType.mk (⟨#[80,101,114,115,111,110]⟩:ByteArray) (-1) false []]) B B (fun _=>rfl)<|e2 B B (B:_=eEdgeType (EdgeType.mk (⟨#[111,119,110,115]⟩:ByteArray) 3 0 0 (-1) 1 1))<|e2 B B (B:_=eEdgeType (EdgeType.mk (⟨#[112,97,121,115]⟩:ByteArray) 1 1 0 (-1) 0 (-1)))<|e4 (e:=eEdgeType) (l:=[EdgeType.mk (⟨#[111,119,110,115]⟩:ByteArray) 3 0 0 (-1) 1 1,EdgeType.mk (⟨#[112,97,121,115]⟩:ByteArray) 1 1 0 (-1) 0 (-1)]) B B (fun _=>rfl)<|t9 (by decide) (by decide) B B B<|u0 B B (by decide) B B B B<|F (kb<|kn) fun _=>?_
 exact L (by cases h;exact ⟨rfl,rfl⟩)
theorem ck36:CK f36 (Rq [Ff 0 1 3 4 0 5 0 9 1 1 1 3 4 0 5] [0]<|Rq [Ec 6 1 3 0,Dm 7 0 0 0 1 1 0 2 1 1,Bh 8 3 7,Ck 9 1 3 0 1 6 1 1 8,Cl 1 1 3,Aj 2 1 9] [0,1]<|Rq [Fg 10 1 3 0 0,Dm 11 0 0 0 1 1 0 2 1 1,Dm 12 0 0 0 1 1 0 2 1 2,Cs 13 3 11 12,Ck 14 1 3 0 1 10 1 1 13,Cl 2 1 3,Aj 2 2 14] [0,1,2]<|Rq [Ed 15 0 0 0 1 0,Fh 16 0 0 0 0 0 1 1 2 2 15,Dw 3 0 0 0 0,Aj 4 3 16] [0,1,2,3]<|Rq [Ad 17 2 2,Ad 18 3 4,Ed 19 0 0 0 1 1,Fh 20 0 0 0 0 0 1 2 2 2 19,Cs 21 4 18 20,Ed 22 0 0 0 1 0,Ed 23 0 0 0 1 1,⟨some 24,.bld [.int .i64 0,.int .i64 0,.int .i64 0,.int .i64 0,.int .i64 0] [(0,1,.c (.int .i64 1)),(1,2,.s 22),(3,2,.s 23)],none⟩,Bh 25 5 24,⟨some 26,.bld [.list 1 [],.list 3 [],.list 4 [],.int .i64 0,.list 5 []] [(0,2,.s 17),(3,1,.c (.int .i64 2)),(2,1,.s 21),(4,1,.s 25)],none⟩,Da 4 1 3 4 0 5,Aj 5 4 26] [0,1,3,4]<|Rq [Ec 27 1 0 1,Ct 28 1 0,Ck 29 1 1 0 1 27 1 1 28,Ad 30 4 5,Eu 31 0 9 1 1 1 3 4 0 5 0 1 1,Bh 32 9 31,Fi 33 0 9 1 1 1 3 4 0 5 0 1 5 2 2 29 4 5 30 1 1 32,Bf 5 0 9 1 1 1 3 4 0 5,Aj 9 5 33] [0,1,3,5]<|Rq [Ad 34 1 2,Ad 35 3 4,Bh 36 4 35,⟨some 37,.bld [.list 1 [],.list 3 [],.list 4 [],.int .i64 0,.list 5 []] [(0,2,.s 34),(3,1,.c (.int .i64 1)),(2,1,.s 36)],none⟩,Ad 38 5 9,⟨some 39,.bld [.list 1 [],.list 3 [],.list 4 [],.int .i64 0,.list 5 [],.int .i64 0,.list 9 [],.list 1 [],.list 1 [],.list 1 [],.list 3 [],.list 4 [],.int .i64 0,.list 5 []] [(0,5,.s 37),(5,9,.s 38)],none⟩,Aj 14 0 39] [0]<|.ret) [.cell 0 (some 14)]:= by decide +kernel
theorem c36  (r:law22_Over) (h:law22_another =some r):Sound prog 36 [] (.sh (elaw22_Over r)):= by
 refine Fn ck36 fun hw=>?_
 unfold law22_another at h
 refine E<|G<|b6 B<|F (kb<|kn) fun _=>?_
 refine E<|G<|e4 (e:=eI) (l:=[3,0]) B B (fun _=>rfl)<|e2 B B (B:_=eEdge (Edge.mk 0 0 1))<|e4 (e:=eEdge) (l:=[Edge.mk 0 0 1]) B B (fun _=>rfl)<|f5 B B B (B:_=eGraph (Graph.mk [3,0] [Edge.mk 0 0 1]))<|b6 B<|a6 B B B B B<|F (kb<|kb<|kn) fun _=>?_
 refine E<|G<|e4 (e:=eI) (l:=[3,0,0]) B B (fun _=>rfl)<|e2 B B (B:_=eEdge (Edge.mk 0 0 1))<|e2 B B (B:_=eEdge (Edge.mk 0 0 2))<|e4 (e:=eEdge) (l:=[Edge.mk 0 0 1,Edge.mk 0 0 2]) B B (fun _=>rfl)<|f5 B B B (B:_=eGraph (Graph.mk [3,0,0] [Edge.mk 0 0 1,Edge.mk 0 0 2]))<|b6 B<|a6 B B B B B<|F (kb<|kb<|kb<|kn) fun _=>?_
 refine E<|G<|e2 B B (B:_=eTerm (Term.mk 0 0))<|e2 B B (B:_=eSlot (Slot.mk 1 0 (Term.mk 0 0)))<|b6 B<|a6 B B B B B<|F (kb<|kb<|kb<|kb<|kn) fun _=>?_
 refine E<|G<|M B B (B:_=eGraph (Graph.mk [3,0,0] [Edge.mk 0 0 1,Edge.mk 0 0 2]))<|M B B (B:_=eSlot (Slot.mk 1 0 (Term.mk 0 0)))<|e2 B B (B:_=eTerm (Term.mk 1 0))<|e2 B B (B:_=eSlot (Slot.mk 2 0 (Term.mk 1 0)))<|e4 (e:=eSlot) (l:=[Slot.mk 1 0 (Term.mk 0 0),Slot.mk 2 0 (Term.mk 1 0)]) B B (fun _=>rfl)<|e2 B B (B:_=eTerm (Term.mk 0 0))<|e2 B B (B:_=eTerm (Term.mk 1 0))<|f5 B B B (B:_=eTest (Test.mk 1 (Term.mk 0 0) (Term.mk 1 0)))<|e4 (e:=eTest) (l:=[Test.mk 1 (Term.mk 0 0) (Term.mk 1 0)]) B B (fun _=>rfl)<|e2 B B (B:_=ePattern (Pattern.mk (Graph.mk [3,0,0] [Edge.mk 0 0 1,Edge.mk 0 0 2]) [Slot.mk 1 0 (Term.mk 0 0),Slot.mk 2 0 (Term.mk 1 0)] 2 [Test.mk 1 (Term.mk 0 0) (Term.mk 1 0)]))<|b6 B<|a6 B B B B B<|F (kb<|kb<|kb<|kb<|kn) fun _=>?_
 refine E<|G<|e4 (e:=eI) (l:=[0,1]) B B (fun _=>rfl)<|e4 (e:=eI) (l:=[0]) B B (fun _=>rfl)<|f5 B B B (B:_=eMorphism (Morphism.mk [0,1] [0]))<|M B B (B:_=ePattern (Pattern.mk (Graph.mk [3,0,0] [Edge.mk 0 0 1,Edge.mk 0 0 2]) [Slot.mk 1 0 (Term.mk 0 0),Slot.mk 2 0 (Term.mk 1 0)] 2 [Test.mk 1 (Term.mk 0 0) (Term.mk 1 0)]))<|e2 B B (show _=eCondition (Condition.mk 1 [] (Morphism.mk [] []) (Pattern.mk (Graph.mk [] []) [] 0 [])) from B)<|g5 (e:=eCondition) (l:=[Condition.mk 1 [] (Morphism.mk [] []) (Pattern.mk (Graph.mk [] []) [] 0 [])]) B B (fun _=>rfl) (show eLCondition [Condition.mk 1 [] (Morphism.mk [] []) (Pattern.mk (Graph.mk [] []) [] 0 [])]=_ from eLCondition_lst _)<|e2 B B (show _=eCondition (Condition.mk 5 [Condition.mk 1 [] (Morphism.mk [] []) (Pattern.mk (Graph.mk [] []) [] 0 [])] (Morphism.mk [0,1] [0]) (Pattern.mk (Graph.mk [3,0,0] [Edge.mk 0 0 1,Edge.mk 0 0 2]) [Slot.mk 1 0 (Term.mk 0 0),Slot.mk 2 0 (Term.mk 1 0)] 2 [Test.mk 1 (Term.mk 0 0) (Term.mk 1 0)])) from B)<|b6 B<|a6 B B B B B<|F (kb<|kb<|kb<|kb<|kn) fun _=>?_
 refine E<|G<|M B B (B:_=eGraph (Graph.mk [3,0] [Edge.mk 0 0 1]))<|M B B (B:_=eSlot (Slot.mk 1 0 (Term.mk 0 0)))<|e4 (e:=eSlot) (l:=[Slot.mk 1 0 (Term.mk 0 0)]) B B (fun _=>rfl)<|e2 B B (B:_=ePattern (Pattern.mk (Graph.mk [3,0] [Edge.mk 0 0 1]) [Slot.mk 1 0 (Term.mk 0 0)] 1 []))<|M B B (show _=eCondition (Condition.mk 5 [Condition.mk 1 [] (Morphism.mk [] []) (Pattern.mk (Graph.mk [] []) [] 0 [])] (Morphism.mk [0,1] [0]) (Pattern.mk (Graph.mk [3,0,0] [Edge.mk 0 0 1,Edge.mk 0 0 2]) [Slot.mk 1 0 (Term.mk 0 0),Slot.mk 2 0 (Term.mk 1 0)] 2 [Test.mk 1 (Term.mk 0 0) (Term.mk 1 0)])) from B)<|f5 B B B (show _=elaw22_Over (law22_Over.mk (Pattern.mk (Graph.mk [3,0] [Edge.mk 0 0 1]) [Slot.mk 1 0 (Term.mk 0 0)] 1 []) (Condition.mk 5 [Condition.mk 1 [] (Morphism.mk [] []) (Pattern.mk (Graph.mk [] []) [] 0 [])] (Morphism.mk [0,1] [0]) (Pattern.mk (Graph.mk [3,0,0] [Edge.mk 0 0 1,Edge.mk 0 0 2]) [Slot.mk 1 0 (Term.mk 0 0),Slot.mk 2 0 (Term.mk 1 0)] 2 [Test.mk 1 (Term.mk 0 0) (Term.mk 1 0)]))) from B)<|a6 B B B B B<|F (kb<|kn) fun _=>?_
 exact L (by cases h;rfl)
theorem ck11:CK f11 (Rq [Ah 0] []<|Rq [Br 10 35,Br 11 36,Cl 1 4 7,Ff 2 1 3 4 0 5 0 9 1 1 1 3 4 0 5,Aj 2 1 10,Aj 14 2 11] [1,2]<|Rq [Fg 12 1 3 1 1,Dm 13 0 0 0 1 1 0 2 1 1,Dm 14 0 0 0 1 1 0 2 1 2,Cs 15 3 13 14,Ck 16 1 3 0 1 12 1 1 15,Ct 17 1 10,Ct 18 1 5,⟨some 19,.lst 1 [.c (.list 1 []),.s 17,.s 18],none⟩,Ea 20 1 3 1 0 2 16 2 1 19,Eb 3 1 3 1,Aj 3 3 20] [1,2,3]<|Rq [Ec 21 1 0 2,Ct 22 1 1,Ck 23 1 1 0 1 21 1 1 22,Ct 24 1 5,Ea 25 1 1 1 0 2 23 2 1 24,Eb 4 1 1 1,Aj 3 4 25] [1,2,3,4]<|Rq [Ec 26 1 0 1,Ct 27 1 0,Ck 28 1 1 0 1 26 1 1 27,Ct 29 1 10,Ea 30 1 1 1 0 2 28 2 1 29,Eb 5 1 1 1,Aj 3 5 30] [1,2,3,4,5]<|Rq [Ad 32 1 2,Ac 33 2 0,Ad 34 33 5,Ac 35 2 5,Ad 36 35 9,Ad 37 3 3,Ad 38 4 3,Fj 39 20 32 34 36 37 38,Aa 31 39,Al 40 31 0,Al 41 31 1,Cg 6 0 1 1 1 5,Aj 5 6 40,Aa 7 41] [1,2,3,4,5,6,7]<|Rq [Ad 43 1 2,Ac 44 2 0,Ad 45 44 5,Ac 46 2 5,Ad 47 46 9,Ad 48 3 3,Ad 49 5 3,Fj 50 18 43 45 47 48 49,Aa 42 50,Al 51 42 0,Al 52 42 1,Aa 8 51,Aa 9 52] [1,2,3,4,6,7,8,9]<|Rq [Aa 53 7,Ar 54 53 0,Aa 55 54,Az 56 9 55,Bz 57 56 0 55,Ao 58 55 57,Aa 59 58,Az 60 8 59,Db 61 60 59,Ao 62 59 61,Aa 63 62,Av 64 6 1 63,Cc 65 64 2 63,Aw 66 65 63,Cf 67 66 63,Bz 68 67 2 63,Ao 69 63 68,Aa 70 69,Av 71 6 1 70,Cc 72 71 2 70,Aw 73 72 70,Dl 74 73 1 1 70,Aw 75 74 70,Bz 76 75 10 70,Ao 77 70 76,Aa 78 77,Be 79 1 2 78,Av 80 2 0 78,Be 81 80 5 78,Av 82 2 5 78,Be 83 82 9 78,Be 84 3 3 78,Be 85 4 3 78,Be 86 6 5 78,⟨some 87,.call 23 [.s 79,.s 81,.s 83,.s 84,.s 85,.c (.bool true),.s 86],some (78,true)⟩,Ao 88 78 87,Aa 0 88] [0]<|.ret) [.tmp 0]:= by decide +kernel
theorem c11  (r:Bool) (h:law22_awake =some r):Sound prog 11 [] (.sh (eB r)):= by
 refine Fn ck11 fun hw=>?_
 unfold law22_awake at h
 refine E<|G<|D B<|F kn fun _=>?_
 refine E<|G ?_
 obtain ⟨x10,hx10,h⟩:=J h
 refine u1 B (c35  _ hx10) (B:_=eTypes x10) ?_
 obtain ⟨x11,hx11,h⟩:=J h
 refine V B (c36  _ hx11)<|b6 B<|b6 B<|a6 B B B B B<|a6 B B B B B<|F (kb<|kb<|kn) fun _=>?_
 refine E<|G<|e4 (e:=eI) (l:=[3,1,1]) B B (fun _=>rfl)<|e2 B B (B:_=eEdge (Edge.mk 0 0 1))<|e2 B B (B:_=eEdge (Edge.mk 0 0 2))<|e4 (e:=eEdge) (l:=[Edge.mk 0 0 1,Edge.mk 0 0 2]) B B (fun _=>rfl)<|f5 B B B (B:_=eGraph (Graph.mk [3,1,1] [Edge.mk 0 0 1,Edge.mk 0 0 2]))<|e4 (e:=eI) (l:=[10]) B B (fun _=>rfl)<|e4 (e:=eI) (l:=[5]) B B (fun _=>rfl)<|e4 (e:=lI) (l:=[[],[10],[5]]) B B (fun _=>rfl)<|f5 B B B (B:_=eHost (Host.mk (Graph.mk [3,1,1] [Edge.mk 0 0 1,Edge.mk 0 0 2]) [[],[10],[5]]))<|b6 B<|a6 B B B B B<|F (kb<|kb<|kb<|kn) fun _=>?_
 refine E<|G<|e4 (e:=eI) (l:=[0,2]) B B (fun _=>rfl)<|e4 (e:=eI) (l:=[1]) B B (fun _=>rfl)<|f5 B B B (B:_=eMorphism (Morphism.mk [0,2] [1]))<|e4 (e:=eI) (l:=[5]) B B (fun _=>rfl)<|f5 B B B (B:_=eGMatch (GMatch.mk (Morphism.mk [0,2] [1]) [5]))<|b6 B<|a6 B B B B B<|F (kb<|kb<|kb<|kb<|kn) fun _=>?_
 refine E<|G<|e4 (e:=eI) (l:=[0,1]) B B (fun _=>rfl)<|e4 (e:=eI) (l:=[0]) B B (fun _=>rfl)<|f5 B B B (B:_=eMorphism (Morphism.mk [0,1] [0]))<|e4 (e:=eI) (l:=[10]) B B (fun _=>rfl)<|f5 B B B (B:_=eGMatch (GMatch.mk (Morphism.mk [0,1] [0]) [10]))<|b6 B<|a6 B B B B B<|F (kb<|kb<|kb<|kb<|kb<|kn) fun _=>?_
 refine E<|G<|M B B (B:_=eTypes x10)<|a7 B<|M B B (B:_=ePattern x11.P)<|a7 B<|M B B (B:_=eCondition x11.C)<|M B B (B:_=eHost (Host.mk (Graph.mk [3,1,1] [Edge.mk 0 0 1,Edge.mk 0 0 2]) [[],[10],[5]]))<|M B B (B:_=eGMatch (GMatch.mk (Morphism.mk [0,2] [1]) [5])) ?_
 obtain ⟨x39,hx39,h⟩:=J h
 refine e8 B (c20 x10 x11.P x11.C (Host.mk (Graph.mk [3,1,1] [Edge.mk 0 0 1,Edge.mk 0 0 2]) [[],[10],[5]]) (GMatch.mk (Morphism.mk [0,2] [1]) [5]) true _ hx39)<|e5 B<|b4 B B<|b4 B B<|b6 B<|a6 B B B B B<|D B<|F (kb<|kb<|kb<|kb<|kb<|kb<|kt<|kn) fun _=>?_
 refine E<|G<|M B B (B:_=eTypes x10)<|a7 B<|M B B (B:_=ePattern x11.P)<|a7 B<|M B B (B:_=eCondition x11.C)<|M B B (B:_=eHost (Host.mk (Graph.mk [3,1,1] [Edge.mk 0 0 1,Edge.mk 0 0 2]) [[],[10],[5]]))<|M B B (B:_=eGMatch (GMatch.mk (Morphism.mk [0,1] [0]) [10])) ?_
 obtain ⟨x50,hx50,h⟩:=J h
 refine e8 B (c18 x10 x11.P x11.C (Host.mk (Graph.mk [3,1,1] [Edge.mk 0 0 1,Edge.mk 0 0 2]) [[],[10],[5]]) (GMatch.mk (Morphism.mk [0,1] [0]) [10]) true _ hx50)<|e5 B<|b4 B B<|b4 B B<|D B<|D B<|F (kb<|kb<|kb<|kb<|kb<|kt<|kt<|kt<|kn) fun _=>?_
 refine E<|G<|D B<|b2 B B<|D B ?_
 refine gA 3 [56,57] 58 (decide (x39.2=0)) (decide (x50.2=0)) (fun hg58=>?_) (fun hg58=>?_) ?_
 ·refine H B hg58<|D B<|H B hg58<|b2 B B<|a4 B hg58 B ?_
  exact ⟨⟨_,_,B⟩⟩
 ·refine I B hg58<|I B hg58<|a5 B hg58 B ?_
  exact ⟨⟨_,_,B⟩⟩
 rintro _ ⟨_,_,rfl⟩
 refine D B ?_
 refine gA 3 [60,61] 62 ((decide (x39.2=0))&&(decide (x50.2=0))) (!x50.1) (fun hg62=>?_) (fun hg62=>?_) ?_
 ·refine H B hg62<|D B<|H B hg62<|d4 B<|a4 B hg62 B ?_
  exact ⟨⟨_,_,B⟩⟩
 ·refine I B hg62<|I B hg62<|a5 B hg62 B ?_
  exact ⟨⟨_,_,B⟩⟩
 rintro _ ⟨_,_,rfl⟩
 refine D B ?_
 refine gA 6 [64,65,66,67,68] 69 (((decide (x39.2=0))&&(decide (x50.2=0)))&&(!x50.1)) (decide ((x39.1.Match.Vars.length:Int)=2)) (fun hg69=>?_) (fun hg69=>?_) ?_
 ·refine H B hg69<|a7 B<|H B hg69<|b5 B B<|H B hg69<|K B<|H B hg69<|W B B<|H B hg69<|b2 B B<|a4 B hg69 B ?_
  exact ⟨⟨_,_,_,_,_,B⟩⟩
 ·refine I B hg69<|I B hg69<|I B hg69<|I B hg69<|I B hg69<|a5 B hg69 B ?_
  exact ⟨⟨_,_,_,_,_,B⟩⟩
 rintro _ ⟨_,_,_,_,_,rfl⟩
 refine D B ?_
 obtain ⟨x77,hx77,h⟩:=J h
 refine gX 7 [71,72,73,74,75,76] 77 x77 ((((decide (x39.2=0))&&(decide (x50.2=0)))&&(!x50.1))&&(decide ((x39.1.Match.Vars.length:Int)=2))) (fun hg77=>?_) (fun hg77=>?_) ?_
 ·replace h:=R hg77 hx77
  refine H B hg77<|a7 B<|H B hg77<|b5 B B<|H B hg77<|K B ?_
  obtain ⟨x74,hx74,h⟩:=J h
  refine H B hg77<|a2 B B B hx74 B<|H B hg77<|K B<|H B hg77<|b2 B B ?_
  cases h
  refine a4 B hg77 B ?_
  exact ⟨⟨_,_,_,_,_,_,B⟩⟩
 ·replace h:=S hg77 hx77
  cases h
  refine I B hg77<|I B hg77<|I B hg77<|I B hg77<|I B hg77<|I B hg77<|a5 B hg77 B ?_
  exact ⟨⟨_,_,_,_,_,_,B⟩⟩
 rintro _ ⟨_,_,_,_,_,_,rfl⟩
 refine D B ?_
 obtain ⟨x88,hx88,h⟩:=J h
 refine gX 10 [79,80,81,82,83,84,85,86,87] 88 x88 x77 (fun hg88=>?_) (fun hg88=>?_) ?_
 ·replace h:=R hg88 hx88
  refine H B hg88<|M B B (B:_=eTypes x10)<|H B hg88<|a7 B<|H B hg88<|M B B (B:_=ePattern x11.P)<|H B hg88<|a7 B<|H B hg88<|M B B (B:_=eCondition x11.C)<|H B hg88<|M B B (B:_=eHost (Host.mk (Graph.mk [3,1,1] [Edge.mk 0 0 1,Edge.mk 0 0 2]) [[],[10],[5]]))<|H B hg88<|M B B (B:_=eGMatch (GMatch.mk (Morphism.mk [0,2] [1]) [5]))<|H B hg88<|M B B (B:_=eProof x39.1) ?_
  obtain ⟨x87,hx87,h⟩:=J h
  refine H B hg88<|V B (c23 x10 x11.P x11.C (Host.mk (Graph.mk [3,1,1] [Edge.mk 0 0 1,Edge.mk 0 0 2]) [[],[10],[5]]) (GMatch.mk (Morphism.mk [0,2] [1]) [5]) true x39.1 _ hx87) ?_
  cases h
  refine a4 B hg88 B ?_
  exact ⟨⟨_,_,_,_,_,_,_,_,_,B⟩⟩
 ·replace h:=S hg88 hx88
  cases h
  refine I B hg88<|I B hg88<|I B hg88<|I B hg88<|I B hg88<|I B hg88<|I B hg88<|I B hg88<|I B hg88<|a5 B hg88 B ?_
  exact ⟨⟨_,_,_,_,_,_,_,_,_,B⟩⟩
 rintro _ ⟨_,_,_,_,_,_,_,_,_,rfl⟩
 refine D B<|F km1 fun _=>?_
 exact L (by cases h;rfl)
theorem ck38:CK f38 (Rq [Af 1 0,Ah 2] [1]<|Rq [Ac 3 1 0,Ab 4 3,Ag 5 4,⟨some 6,.bin (.i) .leq (.s 5) (.c (.int .i64 45)),none⟩,Aa 7 6,Av 8 1 1 7,Aw 9 8 7,Cf 10 9 7,Cm 11 10 90 7,Ao 12 7 11,Aa 2 12] [2]<|.ret) [.tmp 2]:= by decide +kernel
theorem c38 (g:Graph) (r:Bool) (h:ref05_Few g=some r):Sound prog 38 [eGraph g] (.sh (eB r)):= by
 refine Fn ck38 fun hw=>?_
 unfold ref05_Few at h
 refine E<|G<|X B B<|D B<|F km1 fun _=>?_
 refine E<|G<|O B<|K B<|W B B<|f7 B B<|D B ?_
 refine gA 5 [8,9,10,11] 12 (decide ((g.Nodes.length:Int)<=45)) (decide ((g.Edges.length:Int)<=90)) (fun hg12=>?_) (fun hg12=>?_) ?_
 ·refine H B hg12<|O B<|H B hg12<|K B<|H B hg12<|W B B<|H B hg12<|f7 B B<|a4 B hg12 B ?_
  exact ⟨⟨_,_,_,_,B⟩⟩
 ·refine I B hg12<|I B hg12<|I B hg12<|I B hg12<|a5 B hg12 B ?_
  exact ⟨⟨_,_,_,_,B⟩⟩
 rintro _ ⟨_,_,_,_,rfl⟩
 refine D B<|F km1 fun _=>?_
 exact L (by cases h;rfl)
theorem ck14:CK f14 (Rq [Af 1 0,Ah 2] [1]<|Rq [Ac 3 1 0,Ad 4 3 2,Au 5 38 4,Aa 6 5,Av 7 1 2 6,Aw 8 7 6,Cf 9 8 6,Cm 10 9 15 6,Ao 11 6 10,Aa 12 11,Av 13 1 4 12,Aw 14 13 12,Cf 15 14 12,Cm 16 15 15 12,Ao 17 12 16,Aa 2 17] [2]<|.ret) [.tmp 2]:= by decide +kernel
theorem c14 (p:Pattern) (r:Bool) (h:ref21_Few p=some r):Sound prog 14 [ePattern p] (.sh (eB r)):= by
 refine Fn ck14 fun hw=>?_
 unfold ref21_Few at h
 refine E<|G<|X B B<|D B<|F km1 fun _=>?_
 refine E<|G<|O B<|M B B (B:_=eGraph p.Graph) ?_
 obtain ⟨x5,hx5,h⟩:=J h
 refine V B (c38 p.Graph _ hx5)<|D B ?_
 refine gA 5 [7,8,9,10] 11 x5 (decide ((p.Slots.length:Int)<=15)) (fun hg11=>?_) (fun hg11=>?_) ?_
 ·refine H B hg11<|O B<|H B hg11<|K B<|H B hg11<|W B B<|H B hg11<|f7 B B<|a4 B hg11 B ?_
  exact ⟨⟨_,_,_,_,B⟩⟩
 ·refine I B hg11<|I B hg11<|I B hg11<|I B hg11<|a5 B hg11 B ?_
  exact ⟨⟨_,_,_,_,B⟩⟩
 rintro _ ⟨_,_,_,_,rfl⟩
 refine D B ?_
 refine gA 5 [13,14,15,16] 17 (x5&&(decide ((p.Slots.length:Int)<=15))) (decide ((p.Tests.length:Int)<=15)) (fun hg17=>?_) (fun hg17=>?_) ?_
 ·refine H B hg17<|O B<|H B hg17<|K B<|H B hg17<|W B B<|H B hg17<|f7 B B<|a4 B hg17 B ?_
  exact ⟨⟨_,_,_,_,B⟩⟩
 ·refine I B hg17<|I B hg17<|I B hg17<|I B hg17<|a5 B hg17 B ?_
  exact ⟨⟨_,_,_,_,B⟩⟩
 rintro _ ⟨_,_,_,_,rfl⟩
 refine D B<|F km1 fun _=>?_
 exact L (by cases h;rfl)
theorem ck78:CK f78 (Rq [Af 2 0,Ah 4] [1,2]<|Rq [Ac 5 2 0,Ab 6 5,Ag 7 6,Ac 8 2 1,Ab 9 8,Ag 10 9,Bt 11 7 10,Aa 12 1,⟨some 13,.bin (.i) .leq (.s 11) (.s 12),none⟩,Aa 4 13] [4]<|.ret) [.tmp 4]:= by decide +kernel
theorem c78 (m:Morphism) (n:Int) (r:Bool) (h:ref06_Few m n=some r):Sound prog 78 [eMorphism m,eI n] (.sh (eB r)):= by
 refine Fn ck78 fun hw=>?_
 unfold ref06_Few at h
 refine E<|G<|X B B<|D B<|F km2 fun _=>?_
 refine E<|G<|O B<|K B<|W B B<|O B<|K B<|W B B<|a8 B B<|D B<|f7 B B<|D B<|F km1 fun _=>?_
 exact L (by cases h;rfl)
end Go.Sf.Sc
