/- Contracts of the functions. -/
import Derived.Test.YtmaobfbhdkafkaaGreatCon0
import Derived.Test.YtmaobfbhdkafkaaGreatTryzShelf
import Derived.Test.YtmaobfbhdkafkaaGreatRp
set_option maxRecDepth 100000
namespace Go.Sf.Sc
open Go Go.Sf Go.Proofs.Tryz
theorem ck239:CK f239 (Rq [Af 2 0,Bc 4 1,Ad 5 0] [1,2]<|Sq (Rq [Ae 9 2 2,Aa 10 1,Bn 11 1 10,As 12 216 9 11,Aa 6 12] [1,2,6]<|Rq [Aa 13 6,Au 14 13 0] [1,2,6,14]<|Co 14 (Rq [Aa 15 6,Bc 4 1,Aa 5 15] [4,5]<|.ret)<|Sk [1,2])<|Rq [Bc 7 1] [1,2,7]<|Sq (Rq [Ac 16 2 0,Ab 17 16,Ag 18 17,Ad 19 0] [1,2,7,18,19]<|Bl 0<|Lo [1,2,7,18,19]<|Rq [Am 20 19 18] [1,2,7,18,19,20]<|Sq (Co 20 (Sk [1,2,7,18,19])<|Ex 0 [7])<|Sq (Bl 1<|Rq [Aa 21 19,Aa 8 21] [1,2,7,8,18,19]<|Rq [Ae 22 2 2,Aa 23 8,Aa 24 1,Bd 25 229 22 23 24] [1,2,7,8,18,19,25]<|Co 25 (Re [Bb 26 7,Aa 27 8,Bn 28 1 27,Cc 29 1 26 28,Bb 7 29] [1,2,7,18,19])<|Sk [1,2,7,18,19])<|Re [Ao 30 19 1,Aa 19 30] [1,2,7,18,19])<|Rq [Aa 31 7,Bb 4 31,Ad 5 0] [4,5]<|.ret) [.tmp 4,.tmp 5]:= by decide +kernel
theorem c239 (t:Types) (a:Int) (r:(List Int × Int)) (h:types_Below t a=some r):Sound prog 239 [eTypes t,eI a] (.tp [lI r.1,eI r.2]):= by
 refine Fn ck239 fun hw=>?_
 unfold types_Below at h
 refine E<|G<|Y B B<|f2<|D B<|F km2 fun _=>?_
 refine E<|E<|G<|S B B (B:_=eTypes t)<|D B<|e9 (e:=eI) (l:=[a]) B B (fun _=>rfl) ?_
 obtain ⟨x12,hx12,h⟩:=J h
 refine W B (c216 t [a] _ hx12)<|D B<|F km3 fun _=>?_
 refine E<|G<|D B<|a8 B B<|F km4 fun _=>?_
 refine U B (fun hc14=>?_) (fun hc14=>?_)
 ·replace h:=O hc14 h
  refine E<|G<|D B<|f2<|D B<|F (ko<|kt<|kn) fun _=>?_
  refine L ?_
  cases h
  exact ⟨by decide,rfl⟩
 ·replace h:=R hc14 h
  refine T km2 fun _=>?_
  refine E<|G<|f2<|F (kt<|kt<|ko<|kn) fun _=>?_
  refine E<|E<|G<|M B<|K B<|V B B<|D B<|F (kt<|kt<|ko<|kt<|kt<|kn) fun _=>?_
  obtain ⟨s0,hs0,h⟩:=J h
  refine g6 hs0 (fun (i0:Int) (s0:List Int)=>[(1,.tv (eI a)),(2,.tv (.pt (eTypes t).cells)),(7,.ow (lI s0)),(18,.tv (eI (t.Nodes.length:Int))),(19,.tv (eI i0))]) (fun (s0:List Int)=>[(7,.ow (lI s0))]) B ?_ ?_ ?_
  ·clear h hs0
   intro i0 s0 r0 hi0 h hw0
   refine E<|G<|X B B<|F (kt<|kt<|ko<|kt<|kt<|kt<|kn) fun _=>?_
   refine E<|d0 B (d1 hi0)<|T (kt<|kt<|ko<|kt<|kt<|kn) fun _=>?_
   refine E<|a9<|E<|G<|D B<|D B<|F (kt<|kt<|ko<|kt<|kt<|kt<|kn) fun _=>?_
   refine E<|G<|S B B (B:_=eTypes t)<|D B<|D B ?_
   obtain ⟨x25,hx25,h⟩:=J h
   refine W B (c229 t i0 a _ hx25)<|F (kt<|kt<|ko<|kt<|kt<|kt<|kt<|kn) fun _=>?_
   refine U B (fun hc25=>?_) (fun hc25=>?_)
   ·replace h:=O hc25 h
    refine G<|f8 B<|D B<|e9 (e:=eI) (l:=[i0]) B B (fun _=>rfl) ?_
    obtain ⟨x29,hx29,h⟩:=J h
    refine l0 B B B B hx29 B<|f8 B<|F (kt<|kt<|ko<|kt<|kt<|kn) fun _=>?_
    refine G<|a7 B B<|D B<|F (kt<|kt<|ko<|kt<|kt<|kn) ?_
    cases h
    show Env.keep _ _=_
    rw [Ktv rfl (Ktv rfl (Kow rfl (Ktv rfl (Ktv rfl (Knil _)))))]
    rw [b6 (a5 (hw0 19)) hi0 (e1 (a5 (hw0 18)))]
    all_goals rfl
   ·replace h:=R hc25 h
    refine T (kt<|kt<|ko<|kt<|kt<|kn) fun _=>?_
    refine G<|a7 B B<|D B<|F (kt<|kt<|ko<|kt<|kt<|kn) ?_
    cases h
    show Env.keep _ _=_
    rw [Ktv rfl (Ktv rfl (Kow rfl (Ktv rfl (Ktv rfl (Knil _)))))]
    rw [b6 (a5 (hw0 19)) hi0 (e1 (a5 (hw0 18)))]
    all_goals rfl
  ·intro i0 s0 hi0
   refine E<|G<|X B B<|F (kt<|kt<|ko<|kt<|kt<|kt<|kn) fun _=>?_
   refine E<|b9 B (d2 hi0)<|b4 (ko<|kn) ?_
   exact ⟨rfl,rfl⟩
  ·intro _
   refine E<|G<|D B<|f9 B<|D B<|F km2 fun _=>?_
   refine L ?_
   cases h
   exact ⟨by decide,rfl⟩
theorem ck197:CK f197 (Rq [Af 1 0,Bc 2 1] [1]<|Rq [Bc 3 1] [1,3]<|Sq (Rq [Ac 10 1 0,Ab 11 10,Ag 12 11,Ad 13 0] [1,3,12,13]<|Bl 0<|Lo [1,3,12,13]<|Rq [Am 14 13 12] [1,3,12,13,14]<|Sq (Co 14 (Sk [1,3,12,13])<|Ex 0 [3])<|Sq (Bl 1<|Rq [Aa 15 13,Aa 4 15] [1,3,4,12,13]<|Rq [Ac 16 1 0,Ab 17 16,Ag 18 17,Ed 19 1 18,Bv 5 19] [1,3,4,5,12,13]<|Rq [Ae 21 1 2,Aa 22 4,As 23 239 21 22,Aa 20 23,Ak 24 20 0,Ak 25 20 1,Bb 6 24,Aa 7 25] [1,3,5,6,12,13]<|Sq (Rq [Aa 26 6,Ag 27 26,Ad 28 0] [1,3,5,12,13,26,27,28]<|Bl 2<|Lo [1,3,5,12,13,26,27,28]<|Rq [Am 29 28 27] [1,3,5,12,13,26,27,28,29]<|Sq (Co 29 (Sk [1,3,5,12,13,26,27,28])<|Ex 2 [1,3,5,12,13])<|Sq (Bl 3<|Rq [Ai 30 26 28 1,Ab 31 30,Aa 9 31] [1,3,5,9,12,13,26,27,28]<|Re [Bo 32 5,Aa 33 9,Cg 34 32 33 1,Dm 34] [1,3,5,12,13,26,27,28])<|Re [Ao 35 28 1,Aa 28 35] [1,3,5,12,13,26,27,28])<|Re [Bb 36 3,De 37 5,Bn 38 1 37,Cc 39 1 36 38,Bb 3 39] [1,3,12,13])<|Re [Ao 40 13 1,Aa 13 40] [1,3,12,13])<|Rq [Aa 41 3,Bb 2 41] [2]<|.ret) [.tmp 2]:= by decide +kernel
theorem c197 (t:Types) (r:(List (List Bool))) (h:search_below t=some r):Sound prog 197 [eTypes t] (.sh ((eL 1 (eL 1 eB)) r)):= by
 refine Fn ck197 fun hw=>?_
 unfold search_below at h
 refine E<|G<|Y B B<|f2<|F km1 fun _=>?_
 refine E<|G<|f2<|F (kt<|ko<|kn) fun _=>?_
 refine E<|E<|G<|M B<|K B<|V B B<|D B<|F (kt<|ko<|kt<|kt<|kn) fun _=>?_
 obtain ⟨s0,hs0,h⟩:=J h
 refine g6 hs0 (fun (i0:Int) (s0:List (List Bool))=>[(1,.tv (.pt (eTypes t).cells)),(3,.ow ((eL 1 (eL 1 eB)) s0)),(12,.tv (eI (t.Nodes.length:Int))),(13,.tv (eI i0))]) (fun (s0:List (List Bool))=>[(3,.ow ((eL 1 (eL 1 eB)) s0))]) B ?_ ?_ ?_
 ·clear h hs0
  intro i0 s0 r0 hi0 h hw0
  refine E<|G<|X B B<|F (kt<|ko<|kt<|kt<|kt<|kn) fun _=>?_
  refine E<|d0 B (d1 hi0)<|T (kt<|ko<|kt<|kt<|kn) fun _=>?_
  refine E<|a9<|E<|G<|D B<|D B<|F (kt<|ko<|kt<|kt<|kt<|kn) fun _=>?_
  refine E<|G<|M B<|K B<|V B B ?_
  obtain ⟨x19,hx19,h⟩:=J h
  refine m1 (z:=false) B B B hx19 B<|g4 B B (by decide)<|F (kt<|ko<|kt<|kx<|kt<|kt<|kn) fun _=>?_
  refine E<|G<|S B B (B:_=eTypes t)<|D B ?_
  obtain ⟨x23,hx23,h⟩:=J h
  refine f1 B (c239 t i0 _ hx23)<|f0 B<|b2 B B<|b2 B B<|f9 B<|D B<|F (kt<|ko<|kx<|kt<|kt<|kt<|kn) fun _=>?_
  refine E<|E<|G<|D B<|V B B<|D B<|F (kt<|ko<|kx<|kt<|kt<|kt<|kt<|kt<|kn) fun _=>?_
  obtain ⟨s2,hs2,h⟩:=J h
  refine g6 hs2 (fun (i2:Int) (s2:List Bool)=>[(1,.tv (.pt (eTypes t).cells)),(3,.ow ((eL 1 (eL 1 eB)) s0)),(5,.xo 1 (List.map eB s2)),(12,.tv (eI (t.Nodes.length:Int))),(13,.tv (eI i0)),(26,.tv (lI x23.1)),(27,.tv (eI (x23.1.length:Int))),(28,.tv (eI i2))]) (fun (s2:List Bool)=>[(1,.tv (.pt (eTypes t).cells)),(3,.ow ((eL 1 (eL 1 eB)) s0)),(5,.xo 1 (List.map eB s2)),(12,.tv (eI (t.Nodes.length:Int))),(13,.tv (eI i0))]) B ?_ ?_ ?_
  ·clear h hs2
   intro i2 s2 r2 hi2 h hw2
   refine E<|G<|X B B<|F (kt<|ko<|kx<|kt<|kt<|kt<|kt<|kt<|kt<|kn) fun _=>?_
   refine E<|d0 B (d1 hi2)<|T (kt<|ko<|kx<|kt<|kt<|kt<|kt<|kt<|kn) fun _=>?_
   refine E<|a9<|E<|G ?_
   obtain ⟨x30,hx30,h⟩:=J h
   refine a4 B B B hx30 B<|K B<|D B<|F (kt<|ko<|kx<|kt<|kt<|kt<|kt<|kt<|kt<|kn) fun _=>?_
   refine G<|f6 B<|D B ?_
   obtain ⟨x34,hx34,h⟩:=J h
   refine g7 B B B hx34<|l2 (i:=0) (b:=true) B B B B (fun _=>rfl) hx34 B B B B B B<|F (kt<|ko<|kx<|kt<|kt<|kt<|kt<|kt<|kn) fun _=>?_
   refine G<|a7 B B<|D B<|F (kt<|ko<|kx<|kt<|kt<|kt<|kt<|kt<|kn) ?_
   cases h
   show Env.keep _ _=_
   rw [Ktv rfl (Kow rfl (Kxo rfl (Ktv rfl (Ktv rfl (Ktv rfl (Ktv rfl (Ktv rfl (Knil _))))))))]
   rw [b6 (a5 (hw2 28)) hi2 (e1 (a5 (hw2 27)))]
   all_goals rfl
  ·intro i2 s2 hi2
   refine E<|G<|X B B<|F (kt<|ko<|kx<|kt<|kt<|kt<|kt<|kt<|kt<|kn) fun _=>?_
   refine E<|b9 B (d2 hi2)<|b4 (kt<|ko<|kx<|kt<|kt<|kn) ?_
   exact ⟨rfl,rfl⟩
  ·intro _
   refine G<|f8 B<|l9 B (by decide)<|e9 (e:=(eL 1 eB)) (l:=[s2]) B B (fun _=>rfl) ?_
   obtain ⟨x39,hx39,h⟩:=J h
   refine l0 B B B B hx39 B<|f8 B<|F (kt<|ko<|kt<|kt<|kn) fun _=>?_
   refine G<|a7 B B<|D B<|F (kt<|ko<|kt<|kt<|kn) ?_
   cases h
   show Env.keep _ _=_
   rw [Ktv rfl (Kow rfl (Ktv rfl (Ktv rfl (Knil _))))]
   rw [b6 (a5 (hw0 13)) hi0 (e1 (a5 (hw0 12)))]
   all_goals rfl
 ·intro i0 s0 hi0
  refine E<|G<|X B B<|F (kt<|ko<|kt<|kt<|kt<|kn) fun _=>?_
  refine E<|b9 B (d2 hi0)<|b4 (ko<|kn) ?_
  exact ⟨rfl,rfl⟩
 ·intro _
  refine E<|G<|D B<|f9 B<|F km1 fun _=>?_
  exact L (by cases h;rfl)
theorem ck175:CK f175 (Rq [Af 4 0,Af 5 1,Af 6 2,Af 7 3,Ad 8 0] [4,5,6,7]<|Sq (Rq [Ac 16 7 0,Ab 17 16,Ag 18 17,Ac 19 5 0,Ab 20 19,Ag 21 20,Bj 22 18 21,Aa 23 22,Ap 24 7 1 23,An 25 24 23,Be 26 25 23,Ap 27 5 1 23,An 28 27 23,Be 29 28 23,Ck 30 26 29 23,Ar 31 23 30] [4,5,6,7,31]<|Co 31 (Rq [Ad 8 20] [8]<|.ret)<|Sk [4,5,6,7])<|Rq [Ae 32 4 2,Av 33 197 32,Bb 9 33] [5,6,7,9]<|Sq (Rq [Ac 34 7 0,Ab 35 34,Ag 36 35,Ad 37 0] [5,6,7,9,35,36,37]<|Bl 0<|Lo [5,6,7,9,35,36,37]<|Rq [Am 38 37 36] [5,6,7,9,35,36,37,38]<|Sq (Co 38 (Sk [5,6,7,9,35,36,37])<|Ex 0 [5,6,7])<|Sq (Bl 1<|Rq [Aa 39 37,Ai 40 35 37 1,Ab 41 40,Aa 10 39,Aa 11 41] [5,6,7,9,10,11,35,36,37]<|Sq (Rq [Aa 42 11,Bs 43 42 0,Aa 44 43,Aw 45 11 44,Ap 46 6 0 44,An 47 46 44,Be 48 47 44,Bp 49 45 48 44,Ar 50 44 49] [5,6,7,9,10,11,35,36,37,50]<|Co 50 (Rq [Ad 8 6] [8]<|.ret)<|Sk [5,6,7,9,10,11,35,36,37])<|Sq (Dr [51,52,53,54,55,56,57,58,59,60,61,62,63,64,65,66] [Aa 51 9,Ac 52 5 0,Ab 53 52,Aa 54 10,Ai 55 53 54 1,Ab 56 55,Ai 57 51 56 1,Ab 58 57,Ac 59 6 0,Ab 60 59,Aa 61 11,Ai 62 60 61 1,Ab 63 62,Ai 64 58 63 1,Ab 65 64,Ba 66 65] [5,6,7,9,35,36,37,66])<|Co 66 (Rq [Ad 8 13] [8]<|.ret)<|Sk [5,6,7,9,35,36,37])<|Re [Ao 67 37 1,Aa 37 67] [5,6,7,9,35,36,37])<|Sq (Rq [Ac 68 7 1,Ab 69 68,Ag 70 69,Ad 71 0] [5,6,7,69,70,71]<|Bl 2<|Lo [5,6,7,69,70,71]<|Rq [Am 72 71 70] [5,6,7,69,70,71,72]<|Sq (Co 72 (Sk [5,6,7,69,70,71])<|Ex 2 [])<|Sq (Bl 3<|Rq [Aa 73 71,Ai 74 69 71 1,Ab 75 74,Aa 12 73,Aa 13 75] [5,6,7,12,13,69,70,71]<|Sq (Rq [Aa 76 13,Bs 77 76 0,Aa 78 77,Aw 79 13 78,Ap 80 6 1 78,An 81 80 78,Be 82 81 78,Bp 83 79 82 78,Ar 84 78 83] [5,6,7,12,13,69,70,71,84]<|Co 84 (Rq [Ad 8 6] [8]<|.ret)<|Sk [5,6,7,12,13,69,70,71])<|Sq (Dr [14,15,85,86,87,88,89,90,91,92,93,94] [Ac 85 5 1,Ab 86 85,Aa 87 12,Ai 88 86 87 3,Ae 89 88 3,Ac 90 6 1,Ab 91 90,Aa 92 13,Ai 93 91 92 3,Ae 94 93 3,Cl 14 0 0 0,Cl 15 0 0 0,Al 3 14 89,Al 3 15 94] [5,6,7,14,15,69,70,71])<|Sq (Rq [Ac 95 14 0,Ab 96 95,Ac 97 15 0,Ab 98 97,Bj 99 96 98] [5,6,7,14,15,69,70,71,99]<|Co 99 (Rq [Ad 8 13] [8]<|.ret)<|Sk [5,6,7,14,15,69,70,71])<|Sq (Dr [100,101,102,103,104,105,106,107,108,109,110,111,112,113,114,115,116,117,118,119] [Ac 100 7 0,Ab 101 100,Ac 102 14 1,Ab 103 102,Ai 104 101 103 1,Ab 105 104,Ac 106 15 1,Ab 107 106,Bj 108 105 107,Aa 109 108,Ap 110 7 0 109,An 111 110 109,Ap 112 14 2 109,An 113 112 109,Bw 114 111 113 1 109,An 115 114 109,Ap 116 15 2 109,An 117 116 109,Ck 118 115 117 109,Ar 119 109 118] [5,6,7,69,70,71,119])<|Co 119 (Rq [Ad 8 11] [8]<|.ret)<|Sk [5,6,7,69,70,71])<|Re [Ao 120 71 1,Aa 71 120] [5,6,7,69,70,71])<|Rq [Ad 8 0] [8]<|.ret) [.tmp 8]:= by decide +kernel
theorem c175 (t:Types) (p:Graph) (g:Graph) (m:Morphism) (r:Int) (h:search_shape t p g m=some r):Sound prog 175 [eTypes t,eGraph p,eGraph g,eMorphism m] (.sh (eI r)):= by
 refine Fn ck175 fun hw=>?_
 unfold search_shape at h
 refine E<|G<|Y B B<|Y B B<|Y B B<|Y B B<|D B<|F km4 fun _=>?_
 refine E<|E<|G<|M B<|K B<|V B B<|M B<|K B<|V B B<|a8 B B<|D B ?_
 refine gO 8 [24,25,26,27,28,29,30] 31 (!decide ((m.Nodes.length:Int)=(p.Nodes.length:Int))) (!decide ((m.Edges.length:Int)=(p.Edges.length:Int))) (fun hg31=>?_) (fun hg31=>?_) ?_
 ·refine I B hg31<|I B hg31<|I B hg31<|I B hg31<|I B hg31<|I B hg31<|I B hg31<|a2 B hg31 B ?_
  exact ⟨⟨_,_,_,_,_,_,_,B⟩⟩
 ·refine H B hg31<|M B<|H B hg31<|K B<|H B hg31<|V B B<|H B hg31<|M B<|H B hg31<|K B<|H B hg31<|V B B<|H B hg31<|a8 B B<|a3 B hg31 B ?_
  exact ⟨⟨_,_,_,_,_,_,_,B⟩⟩
 rintro _ ⟨_,_,_,_,_,_,_,rfl⟩
 refine F km5 fun _=>?_
 refine U B (fun hc31=>?_) (fun hc31=>?_)
 ·replace h:=O hc31 h
  refine E<|G<|D B<|F km1 fun _=>?_
  exact L (by cases h;rfl)
 ·replace h:=R hc31 h
  refine T km4 fun _=>?_
  refine E<|G<|S B B (B:_=eTypes t) ?_
  obtain ⟨x33,hx33,h⟩:=J h
  refine W B (c197 t _ hx33)<|f9 B<|F km4 fun _=>?_
  refine E<|E<|G<|M B<|K B<|V B B<|D B<|F km7 fun _=>?_
  obtain ⟨o0,ho0,h⟩:=d4 h
  refine e0 ho0 (fun (i0:Int) (_:Unit)=>[(5,.tv (.pt (eGraph p).cells)),(6,.tv (.pt (eGraph g).cells)),(7,.tv (.pt (eMorphism m).cells)),(9,.tv ((eL 1 (eL 1 eB)) x33)),(35,.tv (lI m.Nodes)),(36,.tv (eI (m.Nodes.length:Int))),(37,.tv (eI i0))]) (fun (_:Unit)=>[(5,.tv (.pt (eGraph p).cells)),(6,.tv (.pt (eGraph g).cells)),(7,.tv (.pt (eMorphism m).cells))]) (fun zv ze=>resIs ([.tmp 8]) (.sh (eI zv)) ze) B ?_ ?_ ?_ ?_
  ·clear h ho0
   intro i0 s0 r0 hi0 h hw0
   refine E<|G<|X B B<|F km8 fun _=>?_
   refine E<|d0 B (d1 hi0)<|T km7 fun _=>?_
   refine E<|a9<|E<|G<|D B ?_
   obtain ⟨x40,hx40,h⟩:=J h
   refine a4 B B B hx40 B<|K B<|D B<|D B<|F km9 fun _=>?_
   refine E<|E<|G<|D B<|X B B<|D B ?_
   refine gO 6 [45,46,47,48,49] 50 (decide (x40<0)) (decide ((g.Nodes.length:Int)<=x40)) (fun hg50=>?_) (fun hg50=>?_) ?_
   ·refine I B hg50<|I B hg50<|I B hg50<|I B hg50<|I B hg50<|a2 B hg50 B ?_
    exact ⟨⟨_,_,_,_,_,B⟩⟩
   ·refine H B hg50<|D B<|H B hg50<|M B<|H B hg50<|K B<|H B hg50<|V B B<|H B hg50<|d9 B B<|a3 B hg50 B ?_
    exact ⟨⟨_,_,_,_,_,B⟩⟩
   rintro _ ⟨_,_,_,_,_,rfl⟩
   refine F km10 fun _=>?_
   refine U B (fun hc50=>?_) (fun hc50=>?_)
   ·replace h:=O hc50 h
    refine E<|G<|D B<|F km1 fun _=>?_
    refine L ?_
    cases h
    exact ⟨_,rfl,rfl⟩
   ·replace h:=R hc50 h
    refine T km9 fun _=>?_
    refine E<|e2 B<|D B<|M B<|K B<|D B ?_
    obtain ⟨x55,hx55,h⟩:=J h
    refine a4 B B B hx55 B<|K B ?_
    obtain ⟨x57,hx57,h⟩:=J h
    refine a4 B B B hx57 B<|K B<|M B<|K B<|D B ?_
    obtain ⟨x62,hx62,h⟩:=J h
    refine a4 B B B hx62 B<|K B ?_
    obtain ⟨x64,hx64,h⟩:=J h
    refine a4 B B B hx64 B<|K B<|d3 B<|F km8 fun _=>?_
    refine U B (fun hc66=>?_) (fun hc66=>?_)
    ·replace h:=O hc66 h
     refine E<|G<|D B<|F km1 fun _=>?_
     refine L ?_
     cases h
     exact ⟨_,rfl,rfl⟩
    ·replace h:=R hc66 h
     refine T km7 fun _=>?_
     refine G<|a7 B B<|D B<|F km7 ?_
     cases h
     refine ⟨_,B,?_⟩
     rw [Ktv rfl (Ktv rfl (Ktv rfl (Ktv rfl (Ktv rfl (Ktv rfl (Ktv rfl (Knil _)))))))]
     rw [b6 (a5 (hw0 37)) hi0 (e1 (a5 (hw0 36)))]
     all_goals rfl
  ·intro i0 s0 hi0
   refine E<|G<|X B B<|F km8 fun _=>?_
   refine E<|b9 B (d2 hi0)<|b4 km3 ?_
   exact ⟨rfl,rfl⟩
  ·intro s0 hs
   replace h:=d5 h hs
   intro _
   refine E<|E<|G<|M B<|K B<|V B B<|D B<|F km6 fun _=>?_
   obtain ⟨o2,ho2,h⟩:=d4 h
   refine e0 ho2 (fun (i2:Int) (_:Unit)=>[(5,.tv (.pt (eGraph p).cells)),(6,.tv (.pt (eGraph g).cells)),(7,.tv (.pt (eMorphism m).cells)),(69,.tv (lI m.Edges)),(70,.tv (eI (m.Edges.length:Int))),(71,.tv (eI i2))]) (fun (_:Unit)=>[]) (fun zv ze=>resIs ([.tmp 8]) (.sh (eI zv)) ze) B ?_ ?_ ?_ ?_
   ·clear h ho2
    intro i2 s2 r2 hi2 h hw2
    refine E<|G<|X B B<|F km7 fun _=>?_
    refine E<|d0 B (d1 hi2)<|T km6 fun _=>?_
    refine E<|a9<|E<|G<|D B ?_
    obtain ⟨x74,hx74,h⟩:=J h
    refine a4 B B B hx74 B<|K B<|D B<|D B<|F km8 fun _=>?_
    refine E<|E<|G<|D B<|X B B<|D B ?_
    refine gO 6 [79,80,81,82,83] 84 (decide (x74<0)) (decide ((g.Edges.length:Int)<=x74)) (fun hg84=>?_) (fun hg84=>?_) ?_
    ·refine I B hg84<|I B hg84<|I B hg84<|I B hg84<|I B hg84<|a2 B hg84 B ?_
     exact ⟨⟨_,_,_,_,_,B⟩⟩
    ·refine H B hg84<|D B<|H B hg84<|M B<|H B hg84<|K B<|H B hg84<|V B B<|H B hg84<|d9 B B<|a3 B hg84 B ?_
     exact ⟨⟨_,_,_,_,_,B⟩⟩
    rintro _ ⟨_,_,_,_,_,rfl⟩
    refine F km9 fun _=>?_
    refine U B (fun hc84=>?_) (fun hc84=>?_)
    ·replace h:=O hc84 h
     refine E<|G<|D B<|F km1 fun _=>?_
     refine L ?_
     cases h
     exact ⟨_,rfl,rfl⟩
    ·replace h:=R hc84 h
     refine T km8 fun _=>?_
     refine E<|e2 B<|M B<|K B<|D B ?_
     obtain ⟨x88,hx88,h⟩:=J h
     refine a4 B B B hx88 B<|S B B (B:_=eEdge x88)<|M B<|K B<|D B ?_
     obtain ⟨x93,hx93,h⟩:=J h
     refine a4 B B B hx93 B<|S B B (B:_=eEdge x93)<|d8 B<|d8 B<|b3 B B B B B<|b3 B B B B B<|F (kt<|kt<|kt<|kb<|kb<|kt<|kt<|kt<|kn) fun _=>?_
     refine E<|E<|G<|a6 B<|K B<|a6 B<|K B<|a8 B B<|F (kt<|kt<|kt<|kb<|kb<|kt<|kt<|kt<|kt<|kn) fun _=>?_
     refine U B (fun hc99=>?_) (fun hc99=>?_)
     ·replace h:=O hc99 h
      refine E<|G<|D B<|F km1 fun _=>?_
      refine L ?_
      cases h
      exact ⟨_,rfl,rfl⟩
     ·replace h:=R hc99 h
      refine T (kt<|kt<|kt<|kb<|kb<|kt<|kt<|kt<|kn) fun _=>?_
      refine E<|e2 B<|M B<|K B<|a6 B<|K B ?_
      obtain ⟨x104,hx104,h⟩:=J h
      refine a4 B B B hx104 B<|K B<|a6 B<|K B<|a8 B B<|D B ?_
      obtain ⟨x119,hx119,h⟩:=J h
      refine gX 10 [110,111,112,113,114,115,116,117,118] 119 x119 (!decide (x104=x93.From)) (fun hg119=>?_) (fun hg119=>?_) ?_
      ·replace h:=O hg119 hx119
       cases h
       refine I B hg119<|I B hg119<|I B hg119<|I B hg119<|I B hg119<|I B hg119<|I B hg119<|I B hg119<|I B hg119<|a2 B hg119 B ?_
       exact ⟨⟨_,_,_,_,_,_,_,_,_,B⟩⟩
      ·replace h:=R hg119 hx119
       refine H B hg119<|M B<|H B hg119<|K B<|H B hg119<|a6 B<|H B hg119<|K B ?_
       obtain ⟨x114,hx114,h⟩:=J h
       refine H B hg119<|a4 B B B hx114 B<|H B hg119<|K B<|H B hg119<|a6 B<|H B hg119<|K B<|H B hg119<|a8 B B ?_
       cases h
       refine a3 B hg119 B ?_
       exact ⟨⟨_,_,_,_,_,_,_,_,_,B⟩⟩
      rintro _ ⟨_,_,_,_,_,_,_,_,_,rfl⟩
      refine F km7 fun _=>?_
      refine U B (fun hc119=>?_) (fun hc119=>?_)
      ·replace h:=O hc119 h
       refine E<|G<|D B<|F km1 fun _=>?_
       refine L ?_
       cases h
       exact ⟨_,rfl,rfl⟩
      ·replace h:=R hc119 h
       refine T km6 fun _=>?_
       refine G<|a7 B B<|D B<|F km6 ?_
       cases h
       refine ⟨_,B,?_⟩
       rw [Ktv rfl (Ktv rfl (Ktv rfl (Ktv rfl (Ktv rfl (Ktv rfl (Knil _))))))]
       rw [b6 (a5 (hw2 71)) hi2 (e1 (a5 (hw2 70)))]
       all_goals rfl
   ·intro i2 s2 hi2
    refine E<|G<|X B B<|F km7 fun _=>?_
    refine E<|b9 B (d2 hi2)<|b4 kn ?_
    exact ⟨rfl,rfl⟩
   ·intro s2 hs
    replace h:=d5 h hs
    intro _
    refine E<|G<|D B<|F km1 fun _=>?_
    exact L (by cases h;rfl)
   ·intro v2 ze hv hR
    replace h:=d6 h hv
    cases h
    exact hR
  ·intro v0 ze hv hR
   replace h:=d6 h hv
   cases h
   exact hR
theorem c176 (l:List Int) (r:Bool) (h:search_twice l=some r):Sound prog 176 [lI l] (.sh (eB r)):=by
  unfold search_twice at h
  split at h
  · rename_i hl
    cases h
    exact twice_sound l hl
  · cases h
theorem ck109:CK f109 (Rq [Af 5 0,Af 6 1,Af 7 2,Af 8 3,Ad 10 0] [4,5,6,7,8]<|Sq (Rq [Ae 13 5 2,Ae 14 6 2,Ae 15 7 2,Bd 16 62 13 14 15,Aa 11 16] [4,5,6,7,8,11]<|Rq [Aa 17 11,Au 18 17 0] [4,5,6,7,8,11,18]<|Co 18 (Rq [Aa 19 11,Aa 10 19] [10]<|.ret)<|Sk [4,5,6,7,8])<|Sq (Rq [Ae 20 5 2,Ae 21 6 2,Ae 22 7 2,Ae 23 8 2,Da 24 175 20 21 22 23,Aa 12 24] [4,8,12]<|Rq [Aa 25 12,Au 26 25 0] [4,8,12,26]<|Co 26 (Rq [Aa 27 12,Aa 10 27] [10]<|.ret)<|Sk [4,8])<|Sq (Rq [Aa 28 4,Aa 29 28,Ax 30 8 0 29,Ay 31 30 29,Bt 32 176 31 29,At 33 32 29,Ap 34 8 1 33,An 35 34 33,Cm 36 176 35 33,Dk 37 33 36 29,Aq 38 29 37] [38]<|Co 38 (Rq [Ad 10 5] [10]<|.ret)<|Sk [])<|Rq [Ad 10 0] [10]<|.ret) [.tmp 10]:= by decide +kernel
theorem c109 (t:Types) (p:Graph) (g:Graph) (m:Morphism) (injective:Bool) (r:Int) (h:search_Check t p g m injective=some r):Sound prog 109 [eTypes t,eGraph p,eGraph g,eMorphism m,eB injective] (.sh (eI r)):= by
 refine Fn ck109 fun hw=>?_
 unfold search_Check at h
 refine E<|G<|Y B B<|Y B B<|Y B B<|Y B B<|D B<|F km5 fun _=>?_
 refine E<|E<|G<|S B B (B:_=eTypes t)<|S B B (B:_=eGraph p)<|S B B (B:_=eGraph g) ?_
 obtain ⟨x16,hx16,h⟩:=J h
 refine W B (c62 t p g _ hx16)<|D B<|F km6 fun _=>?_
 refine E<|G<|D B<|a8 B B<|F km7 fun _=>?_
 refine U B (fun hc18=>?_) (fun hc18=>?_)
 ·replace h:=O hc18 h
  refine E<|G<|D B<|D B<|F km1 fun _=>?_
  exact L (by cases h;rfl)
 ·replace h:=R hc18 h
  refine T km5 fun _=>?_
  refine E<|E<|G<|S B B (B:_=eTypes t)<|S B B (B:_=eGraph p)<|S B B (B:_=eGraph g)<|S B B (B:_=eMorphism m) ?_
  obtain ⟨x24,hx24,h⟩:=J h
  refine W B (c175 t p g m _ hx24)<|D B<|F km3 fun _=>?_
  refine E<|G<|D B<|a8 B B<|F km4 fun _=>?_
  refine U B (fun hc26=>?_) (fun hc26=>?_)
  ·replace h:=O hc26 h
   refine E<|G<|D B<|D B<|F km1 fun _=>?_
   exact L (by cases h;rfl)
  ·replace h:=R hc26 h
   refine T km2 fun _=>?_
   refine E<|E<|G<|D B<|D B ?_
   obtain ⟨x38,hx38,h⟩:=J h
   refine gX 9 [30,31,32,33,34,35,36,37] 38 x38 injective (fun hg38=>?_) (fun hg38=>?_) ?_
   ·replace h:=O hg38 hx38
    refine H B hg38<|M B<|H B hg38<|K B ?_
    obtain ⟨x32,hx32,h⟩:=J h
    refine H B hg38<|W B (c176 m.Nodes _ hx32)<|H B hg38<|D B ?_
    obtain ⟨x37,hx37,h⟩:=J h
    refine gX 4 [34,35,36] 37 x37 x32 (fun hg37=>?_) (fun hg37=>?_) ?_
    ·replace h:=O hg37 hx37
     cases h
     refine I B hg37<|I B hg37<|I B hg37<|H B hg38<|a2 B hg37 B ?_
     exact ⟨⟨_,_,_,B⟩⟩
    ·replace h:=R hg37 hx37
     refine H B hg37<|M B<|H B hg37<|K B ?_
     obtain ⟨x36,hx36,h⟩:=J h
     refine H B hg37<|W B (c176 m.Edges _ hx36) ?_
     cases h
     refine H B hg38<|a3 B hg37 B ?_
     exact ⟨⟨_,_,_,B⟩⟩
    rintro _ ⟨_,_,_,rfl⟩
    cases h
    refine a2 B hg38 B ?_
    exact ⟨⟨_,_,_,_,_,_,_,_,B⟩⟩
   ·replace h:=R hg38 hx38
    cases h
    refine I B hg38<|I B hg38<|I B hg38<|I B hg38<|d7 B<|d7 B<|d7 B<|I B hg38<|a3 B hg38 B ?_
    exact ⟨⟨_,_,_,_,_,_,_,_,B⟩⟩
   rintro _ ⟨_,_,_,_,_,_,_,_,rfl⟩
   refine F km1 fun _=>?_
   refine U B (fun hc38=>?_) (fun hc38=>?_)
   ·replace h:=O hc38 h
    refine E<|G<|D B<|F km1 fun _=>?_
    exact L (by cases h;rfl)
   ·replace h:=R hc38 h
    refine T kn fun _=>?_
    refine E<|G<|D B<|F km1 fun _=>?_
    exact L (by cases h;rfl)
theorem ck177:CK f177 (Rq [Af 3 0,Af 4 1,Af 5 2,Ad 6 0] [3,4,5]<|Sq (Rq [Ae 10 3 2,Ae 11 4 5,As 12 39 10 11,Aa 7 12] [3,5,7]<|Rq [Aa 13 7,Au 14 13 0] [3,5,7,14]<|Co 14 (Rq [Aa 15 7,Aa 6 15] [6]<|.ret)<|Sk [3,5])<|Rq [Ae 17 3 2,Ae 18 5 3,As 19 108 17 18,Aa 16 19,Ak 20 16 0,Ak 21 16 1,Aa 8 20,Aa 9 21] [9]<|Rq [Aa 22 9,Aa 6 22] [6]<|.ret) [.tmp 6]:= by decide +kernel
theorem c177 (t:Types) (p:Pattern) (h_2:Host) (r:Int) (h:attribute_given t p h_2=some r):Sound prog 177 [eTypes t,ePattern p,eHost h_2] (.sh (eI r)):= by
 refine Fn ck177 fun hw=>?_
 unfold attribute_given at h
 refine E<|G<|Y B B<|Y B B<|Y B B<|D B<|F km3 fun _=>?_
 refine E<|E<|G<|S B B (B:_=eTypes t)<|S B B (B:_=ePattern p) ?_
 obtain ⟨x12,hx12,h⟩:=J h
 refine W B (c39 t p _ hx12)<|D B<|F km3 fun _=>?_
 refine E<|G<|D B<|a8 B B<|F km4 fun _=>?_
 refine U B (fun hc14=>?_) (fun hc14=>?_)
 ·replace h:=O hc14 h
  refine E<|G<|D B<|D B<|F km1 fun _=>?_
  exact L (by cases h;rfl)
 ·replace h:=R hc14 h
  refine T km2 fun _=>?_
  refine E<|G<|S B B (B:_=eTypes t)<|S B B (B:_=eHost h_2) ?_
  obtain ⟨x19,hx19,h⟩:=J h
  refine f1 B (c108 t h_2 _ hx19)<|f0 B<|b2 B B<|b2 B B<|D B<|D B<|F km1 fun _=>?_
  refine E<|G<|D B<|D B<|F km1 fun _=>?_
  exact L (by cases h;rfl)
theorem ck232:CK f232 (Rq [Af 2 0,Ad 4 0] [1,2]<|Sq (Rq [Ac 5 2 0,Ab 6 5,Bs 7 6 0] [1,2,7]<|Co 7 (Rq [Ac 8 2 1,Ab 9 8,Aa 4 9] [4]<|.ret)<|Sk [1,2])<|Sq (Dr [4,10,11,12,13,14,15,16,17] [Aa 10 1,Ac 11 2 0,Ab 12 11,Ai 13 10 12 1,Ab 14 13,Ac 15 2 1,Ab 16 15,Bi 17 14 16,Aa 4 17] [4])<|.ret) [.tmp 4]:= by decide +kernel
theorem c232 (x_0:Term) (values:List Int) (r:Int) (h:attribute_value x_0 values=some r):Sound prog 232 [eTerm x_0,lI values] (.sh (eI r)):= by
 refine Fn ck232 fun hw=>?_
 unfold attribute_value at h
 refine E<|G<|Y B B<|D B<|F km2 fun _=>?_
 refine E<|E<|G<|M B<|K B<|X B B<|F km3 fun _=>?_
 refine U B (fun hc7=>?_) (fun hc7=>?_)
 ·replace h:=O hc7 h
  refine E<|G<|M B<|K B<|D B<|F km1 fun _=>?_
  exact L (by cases h;rfl)
 ·replace h:=R hc7 h
  refine T km2 fun _=>?_
  refine E<|e2 B<|D B<|M B<|K B ?_
  obtain ⟨x13,hx13,h⟩:=J h
  refine a4 B B B hx13 B<|K B<|M B<|K B<|a7 B B<|D B<|F km1 fun _=>?_
  exact L (by cases h;rfl)
theorem c284 (a b c:Int) (r:Int × Int) (h:math_bits_Add64 a b c=some r):Sound prog 284 [eU64 a,eU64 b,eU64 c] (.ext [eU64 (r.1),eU64 (r.2)]):=by
  unfold math_bits_Add64 at h
  split at h
  · rename_i hc
    cases h
    obtain ⟨⟨a0,a1⟩,⟨b0,b1⟩,c0,c1⟩:=hc
    intro _
    refine ⟨⟨rfl,?_⟩,fun w vs hv=>?_⟩
    · simp only [eU64,TV.WFs,TV.WF,IntKind.min,IntKind.max,IntKind.signed,IntKind.bits,and_true]
      simp only [Bool.false_eq_true,if_false]
      refine ⟨⟨by omega,?_⟩,by omega,?_⟩
      · have:(2:Int) ^ 64=18446744073709551616:=by decide
        omega
      · have:(2:Int) ^ 64=18446744073709551616:=by decide
        omega
    · obtain ⟨x,rfl⟩:=Int.eq_ofNat_of_zero_le a0
      obtain ⟨y,rfl⟩:=Int.eq_ofNat_of_zero_le b0
      obtain ⟨z,rfl⟩:=Int.eq_ofNat_of_zero_le c0
      have:=Go.Proofs.Any7.bits_Add64 Go.Proofs.Tryz.lays7n25 x y z (by omega) w
      obtain ⟨l⟩:=vs
      simp only [eU64,RepAll,Rep] at hv
      obtain ⟨v1,r1,rfl,rfl,v2,r2,rfl,rfl,v3,r3,rfl,rfl,rfl⟩:=hv
      refine ⟨_,this,?_⟩
      simp only [eU64,RepAll,Rep]
      exact ⟨_,_,rfl,by simp,_,_,rfl,by simp,rfl⟩
  · cases h
theorem ck260:CK f260 (Rq [Ad 4 0,Fc 5 0] [0,1]<|Rq [Aa 9 0,⟨some 10,.cvt .u64 (.s 9),none⟩,Aa 11 1,⟨some 12,.cvt .u64 (.s 11),none⟩,⟨some 13,.callf 284 [.s 10,.s 12,.c (.int .u64 0)],none⟩,Aa 8 13,Ak 14 8 0,Ak 15 8 1,Aa 6 14,Aa 7 15] [0,1,6,7]<|Rq [Aa 16 0,⟨some 17,.bin (.w) .shr (.s 16) (.c (.int .u64 63)),none⟩,Aa 18 1,⟨some 19,.bin (.w) .shr (.s 18) (.c (.int .u64 63)),none⟩,Bi 20 17 19,Aa 21 7,⟨some 22,.cvt .i64 (.s 21),none⟩,Bi 23 20 22,Aa 24 6,Aa 4 23,Aa 5 24] [4,5]<|.ret) [.tmp 4,.tmp 5]:= by decide +kernel
theorem c260 (a:Int) (b:Int) (r:(Int × Int)) (h:difference_wide a b=some r):Sound prog 260 [eI a,eI b] (.tp [eI r.1,eU64 r.2]):= by
 refine Fn ck260 fun hw=>?_
 unfold difference_wide at h
 refine E<|G<|D B<|D B<|F km2 fun _=>?_
 refine E<|G<|D B<|p5 B<|D B<|p5 B ?_
 obtain ⟨x13,hx13,h⟩:=J h
 refine t3 B (c284 (IntKind.u64.wrap a) (IntKind.u64.wrap b) 0 _ hx13)<|f0 B<|b2 B B<|b2 B B<|D B<|D B<|F km4 fun _=>?_
 refine E<|G<|D B ?_
 obtain ⟨x17,hx17,h⟩:=J h
 refine q4 B B (by decide) hx17<|D B ?_
 obtain ⟨x19,hx19,h⟩:=J h
 refine q4 B B (by decide) hx19<|a7 B B<|D B<|p5 B<|a7 B B<|D B<|D B<|D B<|F km2 fun _=>?_
 refine L ?_
 cases h
 exact ⟨by decide,rfl⟩
theorem ck259:CK f259 (Rq [Af 2 0,Ad 3 0,Fc 4 0,Aj 5] [1,2]<|Sq (Bl 0<|Rq [Ac 11 2 0,Ab 12 11,⟨some 13,.bin (.i) .eql (.s 12) (.c (.int .i64 (-1))),none⟩,Aa 10 13] [1,2,10]<|Co 10 (Rq [Ac 15 2 1,Ab 16 15,⟨some 17,.call 260 [.c (.int .i64 0),.s 16],none⟩,Aa 14 17,Ak 18 14 0,Ak 19 14 1,Aa 6 18,Aa 7 19] [6,7]<|Rq [Aa 20 6,Aa 21 7,Aa 3 20,Aa 4 21,Bu 5] [3,4,5]<|.ret)<|Rq [Ac 23 2 0,Ab 24 23,Bs 25 24 0,Aa 26 25,Ap 27 2 0 26,An 28 27 26,An 29 1 26,Be 30 29 26,Bp 31 28 30 26,Ar 32 26 31,Aa 22 32] [1,2,22]<|Co 22 (Rq [Ad 3 0,Fc 4 0,Aj 5] [3,4,5]<|.ret)<|Sk [1,2])<|Sq (Dr [8,9,33,34,35,36,37,38,39,40,41,42,43] [Ab 34 1,Ac 35 2 0,Ab 36 35,Ai 37 34 36 1,Ab 38 37,Ac 39 2 1,Ab 40 39,As 41 260 38 40,Aa 33 41,Ak 42 33 0,Ak 43 33 1,Aa 8 42,Aa 9 43] [8,9])<|Rq [Aa 44 8,Aa 45 9,Aa 3 44,Aa 4 45,Bu 5] [3,4,5]<|.ret) [.tmp 3,.tmp 4,.tmp 5]:= by decide +kernel
theorem c259 (t:Term) (c0:List Int) (r:(Int × Int × Bool)) (h:difference_Holds_1 t c0=some r):Sound prog 259 [eTerm t,.pt [lI c0]] (.tp [eI r.1,eU64 r.2.1,eB r.2.2]):= by
 refine Fn ck259 fun hw=>?_
 unfold difference_Holds_1 at h
 refine E<|G<|Y B B<|D B<|D B<|D B<|F km2 fun _=>?_
 refine E<|a9<|E<|G<|M B<|K B<|b5 B B<|D B<|F km3 fun _=>?_
 refine U B (fun hc10=>?_) (fun hc10=>?_)
 ·replace h:=O hc10 h
  refine E<|G<|M B<|K B ?_
  obtain ⟨x17,hx17,h⟩:=J h
  refine f1 B (c260 0 t.Add _ hx17)<|f0 B<|b2 B B<|b2 B B<|D B<|D B<|F km2 fun _=>?_
  refine E<|G<|D B<|D B<|D B<|D B<|D B<|F km3 fun _=>?_
  refine L ?_
  cases h
  exact ⟨by decide,rfl⟩
 ·replace h:=R hc10 h
  refine E<|G<|M B<|K B<|X B B<|D B ?_
  refine gO 6 [27,28,29,30,31] 32 (decide (t.Var<0)) (decide ((c0.length:Int)<=t.Var)) (fun hg32=>?_) (fun hg32=>?_) ?_
  ·refine I B hg32<|I B hg32<|I B hg32<|I B hg32<|I B hg32<|a2 B hg32 B ?_
   exact ⟨⟨_,_,_,_,_,B⟩⟩
  ·refine H B hg32<|M B<|H B hg32<|K B<|H B hg32<|K B<|H B hg32<|V B B<|H B hg32<|d9 B B<|a3 B hg32 B ?_
   exact ⟨⟨_,_,_,_,_,B⟩⟩
  rintro _ ⟨_,_,_,_,_,rfl⟩
  refine D B<|F km3 fun _=>?_
  refine U B (fun hc22=>?_) (fun hc22=>?_)
  ·replace h:=O hc22 h
   refine E<|G<|D B<|D B<|D B<|F km3 fun _=>?_
   refine L ?_
   cases h
   exact ⟨by decide,rfl⟩
  ·replace h:=R hc22 h
   refine T km2 fun _=>?_
   refine E<|e2 B<|K B<|M B<|K B ?_
   obtain ⟨x37,hx37,h⟩:=J h
   refine a4 B B B hx37 B<|K B<|M B<|K B ?_
   obtain ⟨x41,hx41,h⟩:=J h
   refine f1 B (c260 x37 t.Add _ hx41)<|f0 B<|b2 B B<|b2 B B<|D B<|D B<|F km2 fun _=>?_
   refine E<|G<|D B<|D B<|D B<|D B<|D B<|F km3 fun _=>?_
   refine L ?_
   cases h
   exact ⟨by decide,rfl⟩
theorem ck261:CK f261 (Rq [Ad 2 0] [0]<|Rq [Ad 3 0] [0,3]<|Sq (Rq [Aa 6 0,Ag 7 6,Ad 8 0] [3,6,7,8]<|Bl 0<|Lo [3,6,7,8]<|Rq [Am 9 8 7] [3,6,7,8,9]<|Sq (Co 9 (Sk [3,6,7,8])<|Ex 0 [3])<|Sq (Bl 1<|Rq [Ai 10 6 8 1,Ab 11 10,Aa 5 11] [3,5,6,7,8]<|Rq [Aa 12 5,Aa 13 3,Bj 14 12 13] [3,5,6,7,8,14]<|Co 14 (Rq [Aa 15 5,Aa 2 15] [2]<|.ret)<|Sk [3,6,7,8])<|Re [Ao 16 8 1,Aa 8 16] [3,6,7,8])<|Rq [Aa 17 3,Aa 2 17] [2]<|.ret) [.tmp 2]:= by decide +kernel
theorem c261 (vals:List Int) (r:Int) (h:cmp_Or_int vals=some r):Sound prog 261 [lI vals] (.sh (eI r)):= by
 refine Fn ck261 fun hw=>?_
 unfold cmp_Or_int at h
 refine E<|G<|D B<|F km1 fun _=>?_
 refine E<|G<|D B<|F km2 fun _=>?_
 refine E<|E<|G<|D B<|V B B<|D B<|F km4 fun _=>?_
 obtain ⟨o0,ho0,h⟩:=d4 h
 refine e0 ho0 (fun (i0:Int) (_:Unit)=>[(3,.tv (eI 0)),(6,.tv (lI vals)),(7,.tv (eI (vals.length:Int))),(8,.tv (eI i0))]) (fun (_:Unit)=>[(3,.tv (eI 0))]) (fun zv ze=>resIs ([.tmp 2]) (.sh (eI zv)) ze) B ?_ ?_ ?_ ?_
 ·clear h ho0
  intro i0 s0 r0 hi0 h hw0
  refine E<|G<|X B B<|F km5 fun _=>?_
  refine E<|d0 B (d1 hi0)<|T km4 fun _=>?_
  refine E<|a9<|E<|G ?_
  obtain ⟨x10,hx10,h⟩:=J h
  refine a4 B B B hx10 B<|K B<|D B<|F km5 fun _=>?_
  refine E<|G<|D B<|D B<|a8 B B<|F km6 fun _=>?_
  refine U B (fun hc14=>?_) (fun hc14=>?_)
  ·replace h:=O hc14 h
   refine E<|G<|D B<|D B<|F km1 fun _=>?_
   refine L ?_
   cases h
   exact ⟨_,rfl,rfl⟩
  ·replace h:=R hc14 h
   refine T km4 fun _=>?_
   refine G<|a7 B B<|D B<|F km4 ?_
   cases h
   refine ⟨_,B,?_⟩
   rw [Ktv rfl (Ktv rfl (Ktv rfl (Ktv rfl (Knil _))))]
   rw [b6 (a5 (hw0 8)) hi0 (e1 (a5 (hw0 7)))]
   all_goals rfl
 ·intro i0 s0 hi0
  refine E<|G<|X B B<|F km5 fun _=>?_
  refine E<|b9 B (d2 hi0)<|b4 km1 ?_
  exact ⟨rfl,rfl⟩
 ·intro s0 hs
  replace h:=d5 h hs
  intro _
  refine E<|G<|D B<|D B<|F km1 fun _=>?_
  exact L (by cases h;rfl)
 ·intro v0 ze hv hR
  replace h:=d6 h hv
  cases h
  exact hR
theorem ck285:CK f285 (Rq [Aj 2] [0]<|Rq [Aa 3 0,Aa 4 0,Bj 5 3 4,Aa 2 5] [2]<|.ret) [.tmp 2]:= by decide +kernel
theorem c285 (x_0:Int) (r:Bool) (h:cmp_isNaN_int x_0=some r):Sound prog 285 [eI x_0] (.sh (eB r)):= by
 refine Fn ck285 fun hw=>?_
 unfold cmp_isNaN_int at h
 refine E<|G<|D B<|F km1 fun _=>?_
 refine E<|G<|D B<|D B<|a8 B B<|D B<|F km1 fun _=>?_
 exact L (by cases h;rfl)
theorem ck262:CK f262 (Rq [Ad 4 0] [0,1]<|Rq [Aa 7 0,Av 8 285 7,Aa 5 8] [0,1,5]<|Rq [Aa 9 1,Av 10 285 9,Aa 6 10] [0,1,5,6]<|Sq (Rq [Aa 11 5] [0,1,6,11]<|Co 11 (Sq (Rq [Aa 12 6] [12]<|Co 12 (Rq [Ad 4 0] [4]<|.ret)<|Sk [])<|Rq [Bk 4 (-1)] [4]<|.ret)<|Sk [0,1,6])<|Sq (Rq [Aa 13 6] [0,1,13]<|Co 13 (Rq [Ad 4 1] [4]<|.ret)<|Sk [0,1])<|Sq (Rq [Aa 14 0,Aa 15 1,Am 16 14 15] [0,1,16]<|Co 16 (Rq [Bk 4 (-1)] [4]<|.ret)<|Sk [0,1])<|Sq (Rq [Aa 17 0,Aa 18 1,Fd 19 17 18] [19]<|Co 19 (Rq [Ad 4 1] [4]<|.ret)<|Sk [])<|Rq [Ad 4 0] [4]<|.ret) [.tmp 4]:= by decide +kernel
theorem c262 (x_0:Int) (y:Int) (r:Int) (h:cmp_Compare_int x_0 y=some r):Sound prog 262 [eI x_0,eI y] (.sh (eI r)):= by
 refine Fn ck262 fun hw=>?_
 unfold cmp_Compare_int at h
 refine E<|G<|D B<|F km2 fun _=>?_
 refine E<|G<|D B ?_
 obtain ⟨x8,hx8,h⟩:=J h
 refine W B (c285 x_0 _ hx8)<|D B<|F km3 fun _=>?_
 refine E<|G<|D B ?_
 obtain ⟨x10,hx10,h⟩:=J h
 refine W B (c285 y _ hx10)<|D B<|F km4 fun _=>?_
 refine E<|E<|G<|D B<|F km4 fun _=>?_
 refine U B (fun hc11=>?_) (fun hc11=>?_)
 ·replace h:=O hc11 h
  refine E<|E<|G<|D B<|F km1 fun _=>?_
  refine U B (fun hc12=>?_) (fun hc12=>?_)
  ·replace h:=O hc12 h
   refine E<|G<|D B<|F km1 fun _=>?_
   exact L (by cases h;rfl)
  ·replace h:=R hc12 h
   refine T kn fun _=>?_
   refine E<|G<|D B<|F km1 fun _=>?_
   exact L (by cases h;rfl)
 ·replace h:=R hc11 h
  refine T km3 fun _=>?_
  refine E<|E<|G<|D B<|F km3 fun _=>?_
  refine U B (fun hc13=>?_) (fun hc13=>?_)
  ·replace h:=O hc13 h
   refine E<|G<|D B<|F km1 fun _=>?_
   exact L (by cases h;rfl)
  ·replace h:=R hc13 h
   refine T km2 fun _=>?_
   refine E<|E<|G<|D B<|D B<|X B B<|F km3 fun _=>?_
   refine U B (fun hc16=>?_) (fun hc16=>?_)
   ·replace h:=O hc16 h
    refine E<|G<|D B<|F km1 fun _=>?_
    exact L (by cases h;rfl)
   ·replace h:=R hc16 h
    refine T km2 fun _=>?_
    refine E<|E<|G<|D B<|D B<|e8 B B<|F km1 fun _=>?_
    refine U B (fun hc19=>?_) (fun hc19=>?_)
    ·replace h:=O hc19 h
     refine E<|G<|D B<|F km1 fun _=>?_
     exact L (by cases h;rfl)
    ·replace h:=R hc19 h
     refine T kn fun _=>?_
     refine E<|G<|D B<|F km1 fun _=>?_
     exact L (by cases h;rfl)
theorem ck286:CK f286 (Rq [Aj 2] [0]<|Rq [Aa 3 0,Aa 4 0,Bj 5 3 4,Aa 2 5] [2]<|.ret) [.tmp 2]:= by decide +kernel
theorem c286 (x_0:Int) (r:Bool) (h:cmp_isNaN_uint64 x_0=some r):Sound prog 286 [eU64 x_0] (.sh (eB r)):= by
 refine Fn ck286 fun hw=>?_
 unfold cmp_isNaN_uint64 at h
 refine E<|G<|D B<|F km1 fun _=>?_
 refine E<|G<|D B<|D B<|a8 B B<|D B<|F km1 fun _=>?_
 exact L (by cases h;rfl)
theorem ck263:CK f263 (Rq [Ad 4 0] [0,1]<|Rq [Aa 7 0,Av 8 286 7,Aa 5 8] [0,1,5]<|Rq [Aa 9 1,Av 10 286 9,Aa 6 10] [0,1,5,6]<|Sq (Rq [Aa 11 5] [0,1,6,11]<|Co 11 (Sq (Rq [Aa 12 6] [12]<|Co 12 (Rq [Ad 4 0] [4]<|.ret)<|Sk [])<|Rq [Bk 4 (-1)] [4]<|.ret)<|Sk [0,1,6])<|Sq (Rq [Aa 13 6] [0,1,13]<|Co 13 (Rq [Ad 4 1] [4]<|.ret)<|Sk [0,1])<|Sq (Rq [Aa 14 0,Aa 15 1,Am 16 14 15] [0,1,16]<|Co 16 (Rq [Bk 4 (-1)] [4]<|.ret)<|Sk [0,1])<|Sq (Rq [Aa 17 0,Aa 18 1,Fd 19 17 18] [19]<|Co 19 (Rq [Ad 4 1] [4]<|.ret)<|Sk [])<|Rq [Ad 4 0] [4]<|.ret) [.tmp 4]:= by decide +kernel
theorem c263 (x_0:Int) (y:Int) (r:Int) (h:cmp_Compare_uint64 x_0 y=some r):Sound prog 263 [eU64 x_0,eU64 y] (.sh (eI r)):= by
 refine Fn ck263 fun hw=>?_
 unfold cmp_Compare_uint64 at h
 refine E<|G<|D B<|F km2 fun _=>?_
 refine E<|G<|D B ?_
 obtain ⟨x8,hx8,h⟩:=J h
 refine W B (c286 x_0 _ hx8)<|D B<|F km3 fun _=>?_
 refine E<|G<|D B ?_
 obtain ⟨x10,hx10,h⟩:=J h
 refine W B (c286 y _ hx10)<|D B<|F km4 fun _=>?_
 refine E<|E<|G<|D B<|F km4 fun _=>?_
 refine U B (fun hc11=>?_) (fun hc11=>?_)
 ·replace h:=O hc11 h
  refine E<|E<|G<|D B<|F km1 fun _=>?_
  refine U B (fun hc12=>?_) (fun hc12=>?_)
  ·replace h:=O hc12 h
   refine E<|G<|D B<|F km1 fun _=>?_
   exact L (by cases h;rfl)
  ·replace h:=R hc12 h
   refine T kn fun _=>?_
   refine E<|G<|D B<|F km1 fun _=>?_
   exact L (by cases h;rfl)
 ·replace h:=R hc11 h
  refine T km3 fun _=>?_
  refine E<|E<|G<|D B<|F km3 fun _=>?_
  refine U B (fun hc13=>?_) (fun hc13=>?_)
  ·replace h:=O hc13 h
   refine E<|G<|D B<|F km1 fun _=>?_
   exact L (by cases h;rfl)
  ·replace h:=R hc13 h
   refine T km2 fun _=>?_
   refine E<|E<|G<|D B<|D B<|X B B<|F km3 fun _=>?_
   refine U B (fun hc16=>?_) (fun hc16=>?_)
   ·replace h:=O hc16 h
    refine E<|G<|D B<|F km1 fun _=>?_
    exact L (by cases h;rfl)
   ·replace h:=R hc16 h
    refine T km2 fun _=>?_
    refine E<|E<|G<|D B<|D B<|e8 B B<|F km1 fun _=>?_
    refine U B (fun hc19=>?_) (fun hc19=>?_)
    ·replace h:=O hc19 h
     refine E<|G<|D B<|F km1 fun _=>?_
     exact L (by cases h;rfl)
    ·replace h:=R hc19 h
     refine T kn fun _=>?_
     refine E<|G<|D B<|F km1 fun _=>?_
     exact L (by cases h;rfl)
theorem ck233:CK f233 (Rq [Af 2 0,Af 3 1,Aj 4] [2,3]<|Rq [Ca 13 259 3,Aa 5 13] [2,5]<|Rq [Aa 15 5,Ac 16 2 1,Ae 17 16 2,Bz 18 15 17,Aa 14 18,Ak 19 14 0,Ak 20 14 1,Ak 21 14 2,Aa 6 19,Aa 7 20,Aa 8 21] [2,5,6,7,8]<|Rq [Aa 23 5,Ac 24 2 3,Ae 25 24 2,Bz 26 23 25,Aa 22 26,Ak 27 22 0,Ak 28 22 1,Ak 29 22 2,Aa 9 27,Aa 10 28,Aa 11 29] [2,6,7,8,9,10,11]<|Sq (Rq [Aa 30 8,Ba 31 30,Aa 32 31,Aw 33 11 32,Bm 34 33 32,Ar 35 32 34] [2,6,7,9,10,35]<|Co 35 (Rq [Aj 4] [4]<|.ret)<|Sk [2,6,7,9,10])<|Rq [Aa 36 6,Aa 37 9,As 38 262 36 37,Aa 39 7,Aa 40 10,As 41 263 39 40,Cz 42 1 38 41,Av 43 261 42,Aa 12 43] [2,12]<|Rq [Ac 44 2 0,Ab 45 44,Az 46 45 1,Aa 47 46,At 48 12 47,Cf 49 48 0 47,Aq 50 47 49,Aa 51 50,Ap 52 2 0 51,An 53 52 51,⟨some 54,.bin (.i) .eql (.s 53) (.c (.int .i64 2)),some (51,false)⟩,Aw 55 54 51,At 56 12 55,Ci 57 56 0 55,Cv 58 55 57 51,Ar 59 51 58,Aa 4 59] [4]<|.ret) [.tmp 4]:= by decide +kernel
theorem c233 (x_0:Test) (values:List Int) (r:Bool) (h:difference_Holds x_0 values=some r):Sound prog 233 [eTest x_0,lI values] (.sh (eB r)):= by
 refine Fn ck233 fun hw=>?_
 unfold difference_Holds at h
 refine E<|G<|Y B B<|Y B B<|D B<|F km2 fun _=>?_
 refine E<|G<|g5 B<|D B<|F km2 fun _=>?_
 refine E<|G<|D B<|M B<|S B B (B:_=eTerm x_0.Left) ?_
 obtain ⟨x18,hx18,h⟩:=J h
 refine q5 B B (c259 x_0.Left values _ hx18)<|f0 B<|b2 B B<|b2 B B<|b2 B B<|D B<|D B<|D B<|F km5 fun _=>?_
 refine E<|G<|D B<|M B<|S B B (B:_=eTerm x_0.Right) ?_
 obtain ⟨x26,hx26,h⟩:=J h
 refine q5 B B (c259 x_0.Right values _ hx26)<|f0 B<|b2 B B<|b2 B B<|b2 B B<|D B<|D B<|D B<|F km7 fun _=>?_
 refine E<|E<|G<|D B<|d3 B<|D B ?_
 refine gO 3 [33,34] 35 (!x18.2.2) (!x26.2.2) (fun hg35=>?_) (fun hg35=>?_) ?_
 ·refine I B hg35<|I B hg35<|a2 B hg35 B ?_
  exact ⟨⟨_,_,B⟩⟩
 ·refine H B hg35<|D B<|H B hg35<|d3 B<|a3 B hg35 B ?_
  exact ⟨⟨_,_,B⟩⟩
 rintro _ ⟨_,_,rfl⟩
 refine F km6 fun _=>?_
 refine U B (fun hc35=>?_) (fun hc35=>?_)
 ·replace h:=O hc35 h
  refine E<|G<|D B<|F km1 fun _=>?_
  exact L (by cases h;rfl)
 ·replace h:=R hc35 h
  refine T km5 fun _=>?_
  refine E<|G<|D B<|D B ?_
  obtain ⟨x38,hx38,h⟩:=J h
  refine W B (c262 x18.1 x26.1 _ hx38)<|D B<|D B ?_
  obtain ⟨x41,hx41,h⟩:=J h
  refine W B (c263 x18.2.1 x26.2.1 _ hx41)<|e9 (e:=eI) (l:=[x38,x41]) B B (fun _=>rfl) ?_
  obtain ⟨x43,hx43,h⟩:=J h
  refine W B (c261 [x38,x41] _ hx43)<|D B<|F km2 fun _=>?_
  refine E<|G<|M B<|K B<|b5 B B<|D B ?_
  refine gA 3 [48,49] 50 (decide (x_0.Kind=1)) (decide (x43<=0)) (fun hg50=>?_) (fun hg50=>?_) ?_
  ·refine H B hg50<|D B<|H B hg50<|f4 B B<|a2 B hg50 B ?_
   exact ⟨⟨_,_,B⟩⟩
  ·refine I B hg50<|I B hg50<|a3 B hg50 B ?_
   exact ⟨⟨_,_,B⟩⟩
  rintro _ ⟨_,_,rfl⟩
  refine D B ?_
  refine gO 8 [52,53,54,55,56,57,58] 59 ((decide (x_0.Kind=1))&&(decide (x43<=0))) ((decide (x_0.Kind=2))&&(decide (x43=0))) (fun hg59=>?_) (fun hg59=>?_) ?_
  ·refine I B hg59<|I B hg59<|I B hg59<|I B hg59<|d7 B<|d7 B<|I B hg59<|a2 B hg59 B ?_
   exact ⟨⟨_,_,_,_,_,_,_,B⟩⟩
  ·refine H B hg59<|M B<|H B hg59<|K B<|H B hg59<|b5 B B<|H B hg59<|D B ?_
   refine gA 3 [56,57] 58 (decide (x_0.Kind=2)) (decide (x43=0)) (fun hg58=>?_) (fun hg58=>?_) ?_
   ·refine H B hg58<|D B<|H B hg58<|b5 B B<|H B hg59<|a2 B hg58 B ?_
    exact ⟨⟨_,_,B⟩⟩
   ·refine I B hg58<|I B hg58<|H B hg59<|a3 B hg58 B ?_
    exact ⟨⟨_,_,B⟩⟩
   rintro _ ⟨_,_,rfl⟩
   refine a3 B hg59 B ?_
   exact ⟨⟨_,_,_,_,_,_,_,B⟩⟩
  rintro _ ⟨_,_,_,_,_,_,_,rfl⟩
  refine D B<|F km1 fun _=>?_
  exact L (by cases h;rfl)
theorem ck178:CK f178 (Rq [Af 3 0,Af 4 1,Af 5 2,Bc 6 1,Ad 7 0] [3,4,5]<|Sq (Dr [8,9,16,17,18,19,20,21] [Ac 16 3 3,Ab 17 16,⟨some 18,.mkx 1 [.int .i64 0] (.s 17),none⟩,Ac 19 3 3,Ab 20 19,Ed 21 1 20,Bv 8 18,Bv 9 21] [3,4,5,8,9])<|Sq (Rq [Ac 22 3 2,Ab 23 22,Ag 24 23,Ad 25 0] [3,4,5,8,9,23,24,25]<|Bl 0<|Lo [3,4,5,8,9,23,24,25]<|Rq [Am 26 25 24] [3,4,5,8,9,23,24,25,26]<|Sq (Co 26 (Sk [3,4,5,8,9,23,24,25])<|Ex 0 [3,8])<|Sq (Bl 1<|Rq [Ai 27 23 25 4,Ae 28 27 4,Dl 11 0 0 0 0,Al 4 11 28] [3,4,5,8,9,11,23,24,25]<|Sq (Dr [12,29,30,31,32,33,34,35,36,37,38,39,40,41,42] [Ac 29 4 2,Ab 30 29,Ac 31 5 0,Ab 32 31,Ac 33 11 0,Ab 34 33,Ai 35 32 34 1,Ab 36 35,Ai 37 30 36 1,Ab 38 37,Ac 39 11 1,Ab 40 39,Ai 41 38 40 1,Ab 42 41,Aa 12 42] [3,4,5,8,9,11,12,23,24,25])<|Sq (Rq [Ac 43 11 2,Ah 44 43 0,Ab 45 44,Aa 13 45] [3,4,5,8,9,11,12,13,23,24,25]<|Rq [Aa 46 13,Bg 47 46 0,Aa 48 47,⟨some 49,.xal 9,some (48,true)⟩,At 50 13 48,⟨some 51,.xia (.s 49) (.s 50) 1,some (48,true)⟩,⟨some 52,.xld (.s 51),some (48,true)⟩,Dn 53 52 48,Aq 54 48 53] [3,4,5,8,9,11,12,13,23,24,25,54]<|Co 54 (Re [Bo 55 8,Aa 56 13,Bo 57 9,Aa 58 13,Aa 59 12,Ac 60 11 2,Ah 61 60 1,Ab 62 61,Di 63 59 62,Cg 64 55 56 1,Ea 64 63,Cg 65 57 58 1,Dm 65] [3,4,5,8,9,11,12,23,24,25])<|Sk [3,4,5,8,9,11,12,23,24,25])<|Rq [Ac 66 11 2,Ae 67 66 2,Bo 68 8,Eg 69 232 67 68,Aa 70 12,Bj 71 69 70] [3,4,5,8,9,23,24,25,71]<|Co 71 (Rq [Bc 6 1,Ad 7 11] [6,7]<|.ret)<|Sk [3,4,5,8,9,23,24,25])<|Re [Ao 72 25 1,Aa 25 72] [3,4,5,8,9,23,24,25])<|Sq (Rq [Ac 73 3 4,Ab 74 73,Ag 75 74,Ad 76 0] [8,74,75,76]<|Bl 2<|Lo [8,74,75,76]<|Rq [Am 77 76 75] [8,74,75,76,77]<|Sq (Co 77 (Sk [8,74,75,76])<|Ex 2 [8])<|Sq (Bl 3<|Rq [Ai 78 74 76 5,Ae 79 78 5,Ez 15 0 0 0 0 0,Al 5 15 79] [8,15,74,75,76]<|Rq [Ae 80 15 5,Bo 81 8,Eg 82 233 80 81,Ba 83 82] [8,74,75,76,83]<|Co 83 (Rq [Bc 6 1,Ad 7 16] [6,7]<|.ret)<|Sk [8,74,75,76])<|Re [Ao 84 76 1,Aa 76 84] [8,74,75,76])<|Rq [De 85 8,Bb 6 85,Ad 7 0] [6,7]<|.ret) [.tmp 6,.tmp 7]:= by decide +kernel
theorem c178 (p:Pattern) (h_1:Host) (m:Morphism) (r:(List Int × Int)) (h:attribute_solve p h_1 m=some r):Sound prog 178 [ePattern p,eHost h_1,eMorphism m] (.tp [lI r.1,eI r.2]):= by
 refine Fn ck178 fun hw=>?_
 unfold attribute_solve at h
 refine E<|G<|Y B B<|Y B B<|Y B B<|f2<|D B<|F km3 fun _=>?_
 refine E<|e2 B<|M B<|K B ?_
 obtain ⟨x18,hx18,h⟩:=J h
 refine m1 (z:=0) B B B hx18 B<|M B<|K B ?_
 obtain ⟨x21,hx21,h⟩:=J h
 refine m1 (z:=false) B B B hx21 B<|g4 B B (by decide)<|g4 B B (by decide)<|F (kt<|kt<|kt<|kx<|kx<|kn) fun _=>?_
 refine E<|E<|G<|M B<|K B<|V B B<|D B<|F (kt<|kt<|kt<|kx<|kx<|kt<|kt<|kt<|kn) fun _=>?_
 obtain ⟨o0,ho0,h⟩:=d4 h
 refine e0 ho0 (fun (i0:Int) (s0:List Int × List Bool)=>[(3,.tv (.pt (ePattern p).cells)),(4,.tv (.pt (eHost h_1).cells)),(5,.tv (.pt (eMorphism m).cells)),(8,.xo 1 (List.map eI s0.1)),(9,.xo 1 (List.map eB s0.2)),(23,.tv (lS p.Slots)),(24,.tv (eI (p.Slots.length:Int))),(25,.tv (eI i0))]) (fun (s0:List Int × List Bool)=>[(3,.tv (.pt (ePattern p).cells)),(8,.xo 1 (List.map eI s0.1))]) (fun zv ze=>resIs ([.tmp 6,.tmp 7]) (.tp [lI zv.1,eI zv.2]) ze) B ?_ ?_ ?_ ?_
 ·clear h ho0
  intro i0 s0 r0 hi0 h hw0
  refine E<|G<|X B B<|F (kt<|kt<|kt<|kx<|kx<|kt<|kt<|kt<|kt<|kn) fun _=>?_
  refine E<|d0 B (d1 hi0)<|T (kt<|kt<|kt<|kx<|kx<|kt<|kt<|kt<|kn) fun _=>?_
  refine E<|a9<|E<|G ?_
  obtain ⟨x27,hx27,h⟩:=J h
  refine a4 B B B hx27 B<|S B B (B:_=eSlot x27)<|d8 B<|b3 B B B B B<|F (kt<|kt<|kt<|kx<|kx<|kb<|kt<|kt<|kt<|kn) fun _=>?_
  refine E<|e2 B<|M B<|K B<|M B<|K B<|a6 B<|K B ?_
  obtain ⟨x35,hx35,h⟩:=J h
  refine a4 B B B hx35 B<|K B ?_
  obtain ⟨x37,hx37,h⟩:=J h
  refine a4 B B B hx37 B<|K B<|a6 B<|K B ?_
  obtain ⟨x41,hx41,h⟩:=J h
  refine a4 B B B hx41 B<|K B<|D B<|F (kt<|kt<|kt<|kx<|kx<|kb<|kt<|kt<|kt<|kt<|kn) fun _=>?_
  refine E<|E<|G<|a6 B<|b7 B B<|K B<|D B<|F (kt<|kt<|kt<|kx<|kx<|kb<|kt<|kt<|kt<|kt<|kt<|kn) fun _=>?_
  refine E<|G<|D B<|d9 B B<|D B ?_
  obtain ⟨x54,hx54,h⟩:=J h
  refine gX 6 [49,50,51,52,53] 54 x54 (decide (0<=x27.Term.Var)) (fun hg54=>?_) (fun hg54=>?_) ?_
  ·replace h:=O hg54 hx54
   refine H B hg54<|f6 B<|H B hg54<|D B ?_
   obtain ⟨x51,hx51,h⟩:=J h
   refine H B hg54<|g7 B B B hx51<|H B hg54<|p2 (i:=0) B B B (fun _=>rfl) hx51 B B B B<|H B hg54<|d3 B ?_
   cases h
   refine a2 B hg54 B ?_
   exact ⟨⟨_,_,_,_,_,B⟩⟩
  ·replace h:=R hg54 hx54
   cases h
   refine I B hg54<|I B hg54<|I B hg54<|I B hg54<|I B hg54<|a3 B hg54 B ?_
   exact ⟨⟨_,_,_,_,_,B⟩⟩
  rintro _ ⟨_,_,_,_,_,rfl⟩
  refine F (kt<|kt<|kt<|kx<|kx<|kb<|kt<|kt<|kt<|kt<|kt<|kt<|kn) fun _=>?_
  refine U B (fun hc54=>?_) (fun hc54=>?_)
  ·replace h:=O hc54 h
   refine G<|f6 B<|D B<|f6 B<|D B<|D B<|a6 B<|b7 B B<|K B<|f7 B B ?_
   obtain ⟨x64,hx64,h⟩:=J h
   refine g7 B B B hx64<|l2 (i:=0) (b:=(w64 (x41 - x27.Term.Add))) B B B B (fun _=>rfl) hx64 B B B B B B ?_
   obtain ⟨x65,hx65,h⟩:=J h
   refine g7 B B B hx65<|l2 (i:=0) (b:=true) B B B B (fun _=>rfl) hx65 B B B B B B<|F (kt<|kt<|kt<|kx<|kx<|kb<|kt<|kt<|kt<|kt<|kn) fun _=>?_
   refine E<|G<|a6 B<|S B B (B:_=eTerm x27.Term)<|f6 B ?_
   obtain ⟨x69,hx69,h⟩:=J h
   refine l3 B (c232 x27.Term (setE s0.1 x27.Term.Var (w64 (x41 - x27.Term.Add))) _ hx69) B<|D B<|a8 B B<|F (kt<|kt<|kt<|kx<|kx<|kt<|kt<|kt<|kt<|kn) fun _=>?_
   refine U B (fun hc71=>?_) (fun hc71=>?_)
   ·replace h:=O hc71 h
    refine E<|G<|f2<|D B<|F (ko<|kt<|kn) fun _=>?_
    refine L ?_
    cases h
    exact ⟨_,rfl,⟨by decide,rfl⟩⟩
   ·replace h:=R hc71 h
    refine T (kt<|kt<|kt<|kx<|kx<|kt<|kt<|kt<|kn) fun _=>?_
    refine G<|a7 B B<|D B<|F (kt<|kt<|kt<|kx<|kx<|kt<|kt<|kt<|kn) ?_
    cases h
    refine ⟨_,B,?_⟩
    rw [Ktv rfl (Ktv rfl (Ktv rfl (Kxo rfl (Kxo rfl (Ktv rfl (Ktv rfl (Ktv rfl (Knil _))))))))]
    rw [b6 (a5 (hw0 25)) hi0 (e1 (a5 (hw0 24)))]
    all_goals rfl
  ·replace h:=R hc54 h
   refine T (kt<|kt<|kt<|kx<|kx<|kb<|kt<|kt<|kt<|kt<|kn) fun _=>?_
   refine E<|G<|a6 B<|S B B (B:_=eTerm x27.Term)<|f6 B ?_
   obtain ⟨x69,hx69,h⟩:=J h
   refine l3 B (c232 x27.Term s0.1 _ hx69) B<|D B<|a8 B B<|F (kt<|kt<|kt<|kx<|kx<|kt<|kt<|kt<|kt<|kn) fun _=>?_
   refine U B (fun hc71=>?_) (fun hc71=>?_)
   ·replace h:=O hc71 h
    refine E<|G<|f2<|D B<|F (ko<|kt<|kn) fun _=>?_
    refine L ?_
    cases h
    exact ⟨_,rfl,⟨by decide,rfl⟩⟩
   ·replace h:=R hc71 h
    refine T (kt<|kt<|kt<|kx<|kx<|kt<|kt<|kt<|kn) fun _=>?_
    refine G<|a7 B B<|D B<|F (kt<|kt<|kt<|kx<|kx<|kt<|kt<|kt<|kn) ?_
    cases h
    refine ⟨_,B,?_⟩
    rw [Ktv rfl (Ktv rfl (Ktv rfl (Kxo rfl (Kxo rfl (Ktv rfl (Ktv rfl (Ktv rfl (Knil _))))))))]
    rw [b6 (a5 (hw0 25)) hi0 (e1 (a5 (hw0 24)))]
    all_goals rfl
 ·intro i0 s0 hi0
  refine E<|G<|X B B<|F (kt<|kt<|kt<|kx<|kx<|kt<|kt<|kt<|kt<|kn) fun _=>?_
  refine E<|b9 B (d2 hi0)<|b4 (kt<|kx<|kn) ?_
  exact ⟨rfl,rfl⟩
 ·intro s0 hs
  replace h:=d5 h hs
  intro _
  refine E<|E<|G<|M B<|K B<|V B B<|D B<|F (kx<|kt<|kt<|kt<|kn) fun _=>?_
  obtain ⟨o2,ho2,h⟩:=d4 h
  refine e0 ho2 (fun (i2:Int) (_:Unit)=>[(8,.xo 1 (List.map eI s0.1)),(74,.tv (lT p.Tests)),(75,.tv (eI (p.Tests.length:Int))),(76,.tv (eI i2))]) (fun (_:Unit)=>[(8,.xo 1 (List.map eI s0.1))]) (fun zv ze=>resIs ([.tmp 6,.tmp 7]) (.tp [lI zv.1,eI zv.2]) ze) B ?_ ?_ ?_ ?_
  ·clear h ho2
   intro i2 s2 r2 hi2 h hw2
   refine E<|G<|X B B<|F (kx<|kt<|kt<|kt<|kt<|kn) fun _=>?_
   refine E<|d0 B (d1 hi2)<|T (kx<|kt<|kt<|kt<|kn) fun _=>?_
   refine E<|a9<|E<|G ?_
   obtain ⟨x78,hx78,h⟩:=J h
   refine a4 B B B hx78 B<|S B B (B:_=eTest x78)<|d8 B<|b3 B B B B B<|F (kx<|kb<|kt<|kt<|kt<|kn) fun _=>?_
   refine E<|G<|S B B (B:_=eTest x78)<|f6 B ?_
   obtain ⟨x82,hx82,h⟩:=J h
   refine l3 B (c233 x78 s0.1 _ hx82) B<|d3 B<|F (kx<|kt<|kt<|kt<|kt<|kn) fun _=>?_
   refine U B (fun hc83=>?_) (fun hc83=>?_)
   ·replace h:=O hc83 h
    refine E<|G<|f2<|D B<|F (ko<|kt<|kn) fun _=>?_
    refine L ?_
    cases h
    exact ⟨_,rfl,⟨by decide,rfl⟩⟩
   ·replace h:=R hc83 h
    refine T (kx<|kt<|kt<|kt<|kn) fun _=>?_
    refine G<|a7 B B<|D B<|F (kx<|kt<|kt<|kt<|kn) ?_
    cases h
    refine ⟨_,B,?_⟩
    rw [Kxo rfl (Ktv rfl (Ktv rfl (Ktv rfl (Knil _))))]
    rw [b6 (a5 (hw2 76)) hi2 (e1 (a5 (hw2 75)))]
    all_goals rfl
  ·intro i2 s2 hi2
   refine E<|G<|X B B<|F (kx<|kt<|kt<|kt<|kt<|kn) fun _=>?_
   refine E<|b9 B (d2 hi2)<|b4 (kx<|kn) ?_
   exact ⟨rfl,rfl⟩
  ·intro s2 hs
   replace h:=d5 h hs
   intro _
   refine E<|G<|l9 B (by decide)<|f8 B<|D B<|F (ko<|kt<|kn) fun _=>?_
   refine L ?_
   cases h
   exact ⟨by decide,rfl⟩
  ·intro v2 ze hv hR
   replace h:=d6 h hv
   cases h
   exact hR
 ·intro v0 ze hv hR
  replace h:=d6 h hv
  cases h
  exact hR
theorem ck110:CK f110 (Rq [Af 4 0,Af 5 1,Af 6 2,Af 7 3,Bc 8 1,Ad 9 0] [4,5,6,7]<|Sq (Rq [Ae 12 4 2,Ae 13 5 5,Ae 14 6 3,Bd 15 177 12 13 14,Aa 10 15] [4,5,6,7,10]<|Rq [Aa 16 10,Au 17 16 0] [4,5,6,7,10,17]<|Co 17 (Rq [Aa 18 10,Bc 8 1,Aa 9 18] [8,9]<|.ret)<|Sk [4,5,6,7])<|Sq (Rq [Ae 19 4 2,Ac 20 5 0,Ae 21 20 2,Ac 22 6 0,Ae 23 22 2,Ae 24 7 2,⟨some 25,.call 109 [.s 19,.s 21,.s 23,.s 24,.c (.bool false)],none⟩,Aa 11 25] [5,6,7,11]<|Rq [Aa 26 11,Au 27 26 0] [5,6,7,11,27]<|Co 27 (Rq [Aa 28 11,Bc 8 1,Aa 9 28] [8,9]<|.ret)<|Sk [5,6,7])<|Rq [Ae 29 5 5,Ae 30 6 3,Ae 31 7 2,Bd 32 178 29 30 31,Ak 33 32 0,Ak 34 32 1,Bb 8 33,Aa 9 34] [8,9]<|.ret) [.tmp 8,.tmp 9]:= by decide +kernel
theorem c110 (t:Types) (p:Pattern) (h_2:Host) (m:Morphism) (r:(List Int × Int)) (h:attribute_Solve t p h_2 m=some r):Sound prog 110 [eTypes t,ePattern p,eHost h_2,eMorphism m] (.tp [lI r.1,eI r.2]):= by
 refine Fn ck110 fun hw=>?_
 unfold attribute_Solve at h
 refine E<|G<|Y B B<|Y B B<|Y B B<|Y B B<|f2<|D B<|F km4 fun _=>?_
 refine E<|E<|G<|S B B (B:_=eTypes t)<|S B B (B:_=ePattern p)<|S B B (B:_=eHost h_2) ?_
 obtain ⟨x15,hx15,h⟩:=J h
 refine W B (c177 t p h_2 _ hx15)<|D B<|F km5 fun _=>?_
 refine E<|G<|D B<|a8 B B<|F km6 fun _=>?_
 refine U B (fun hc17=>?_) (fun hc17=>?_)
 ·replace h:=O hc17 h
  refine E<|G<|D B<|f2<|D B<|F (ko<|kt<|kn) fun _=>?_
  refine L ?_
  cases h
  exact ⟨by decide,rfl⟩
 ·replace h:=R hc17 h
  refine T km4 fun _=>?_
  refine E<|E<|G<|S B B (B:_=eTypes t)<|M B<|S B B (B:_=eGraph p.Graph)<|M B<|S B B (B:_=eGraph h_2.Graph)<|S B B (B:_=eMorphism m) ?_
  obtain ⟨x25,hx25,h⟩:=J h
  refine W B (c109 t p.Graph h_2.Graph m false _ hx25)<|D B<|F km4 fun _=>?_
  refine E<|G<|D B<|a8 B B<|F km5 fun _=>?_
  refine U B (fun hc27=>?_) (fun hc27=>?_)
  ·replace h:=O hc27 h
   refine E<|G<|D B<|f2<|D B<|F (ko<|kt<|kn) fun _=>?_
   refine L ?_
   cases h
   exact ⟨by decide,rfl⟩
  ·replace h:=R hc27 h
   refine T km3 fun _=>?_
   refine E<|G<|S B B (B:_=ePattern p)<|S B B (B:_=eHost h_2)<|S B B (B:_=eMorphism m) ?_
   obtain ⟨x32,hx32,h⟩:=J h
   refine f1 B (c178 p h_2 m _ hx32)<|b2 B B<|b2 B B<|f9 B<|D B<|F km2 fun _=>?_
   refine L ?_
   cases h
   exact ⟨by decide,rfl⟩
theorem ck47:CK f47 (Rq [Af 6 0,Af 7 1,Af 8 2,Af 9 3,Af 10 4,Ad 12 0] [5,6,7,8,9,10]<|Sq (Rq [Ae 19 6 2,Ae 20 7 5,Ae 21 8 9,Bd 22 15 19 20 21,Aa 13 22] [5,6,7,9,10,13]<|Rq [Aa 23 13,Au 24 23 0] [5,6,7,9,10,13,24]<|Co 24 (Rq [Aa 25 13,Aa 12 25] [12]<|.ret)<|Sk [5,6,7,9,10])<|Sq (Rq [Ae 27 6 2,Ae 28 9 3,As 29 108 27 28,Aa 26 29,Ak 30 26 0,Ak 31 26 1,Aa 14 30,Aa 15 31] [5,6,7,9,10,15]<|Rq [Aa 32 15,Au 33 32 0] [5,6,7,9,10,15,33]<|Co 33 (Rq [Aa 34 15,Aa 12 34] [12]<|.ret)<|Sk [5,6,7,9,10])<|Sq (Rq [Ae 35 6 2,Ac 36 7 0,Ae 37 36 2,Ac 38 9 0,Ae 39 38 2,Ac 40 10 0,Ae 41 40 2,Aa 42 5,Fe 43 109 35 37 39 41 42,Aa 16 43] [6,7,9,10,16]<|Rq [Aa 44 16,Au 45 44 0] [6,7,9,10,16,45]<|Co 45 (Rq [Aa 46 16,Aa 12 46] [12]<|.ret)<|Sk [6,7,9,10])<|Rq [Ae 48 6 2,Ae 49 7 5,Ae 50 9 3,Ac 51 10 0,Ae 52 51 2,Da 53 110 48 49 50 52,Aa 47 53,Ak 54 47 0,Ak 55 47 1,Bb 17 54,Aa 18 55] [10,17,18]<|Sq (Rq [Aa 56 18,Au 57 56 0] [10,17,18,57]<|Co 57 (Rq [Aa 58 18,Aa 12 58] [12]<|.ret)<|Sk [10,17])<|Sq (Rq [Aa 59 17,Ac 60 10 2,Ab 61 60,As 62 73 59 61,Ba 63 62] [63]<|Co 63 (Rq [Ad 12 11] [12]<|.ret)<|Sk [])<|Rq [Ad 12 0] [12]<|.ret) [.tmp 12]:= by decide +kernel
theorem c47 (t:Types) (p:Pattern) (c:Condition) (h_3:Host) (m:GMatch) (injective:Bool) (r:Int) (h:condition_given t p c h_3 m injective=some r):Sound prog 47 [eTypes t,ePattern p,eCondition c,eHost h_3,eGMatch m,eB injective] (.sh (eI r)):= by
 refine Fn ck47 fun hw=>?_
 unfold condition_given at h
 refine E<|G<|Y B B<|Y B B<|Y B B<|Y B B<|Y B B<|D B<|F km6 fun _=>?_
 refine E<|E<|G<|S B B (B:_=eTypes t)<|S B B (B:_=ePattern p)<|S B B (B:_=eCondition c) ?_
 obtain ⟨x22,hx22,h⟩:=J h
 refine W B (c15 t p c _ hx22)<|D B<|F km6 fun _=>?_
 refine E<|G<|D B<|a8 B B<|F km7 fun _=>?_
 refine U B (fun hc24=>?_) (fun hc24=>?_)
 ·replace h:=O hc24 h
  refine E<|G<|D B<|D B<|F km1 fun _=>?_
  exact L (by cases h;rfl)
 ·replace h:=R hc24 h
  refine T km5 fun _=>?_
  refine E<|E<|G<|S B B (B:_=eTypes t)<|S B B (B:_=eHost h_3) ?_
  obtain ⟨x29,hx29,h⟩:=J h
  refine f1 B (c108 t h_3 _ hx29)<|f0 B<|b2 B B<|b2 B B<|D B<|D B<|F km6 fun _=>?_
  refine E<|G<|D B<|a8 B B<|F km7 fun _=>?_
  refine U B (fun hc33=>?_) (fun hc33=>?_)
  ·replace h:=O hc33 h
   refine E<|G<|D B<|D B<|F km1 fun _=>?_
   exact L (by cases h;rfl)
  ·replace h:=R hc33 h
   refine T km5 fun _=>?_
   refine E<|E<|G<|S B B (B:_=eTypes t)<|M B<|S B B (B:_=eGraph p.Graph)<|M B<|S B B (B:_=eGraph h_3.Graph)<|M B<|S B B (B:_=eMorphism m.Morphism)<|D B ?_
   obtain ⟨x43,hx43,h⟩:=J h
   refine W B (c109 t p.Graph h_3.Graph m.Morphism injective _ hx43)<|D B<|F km5 fun _=>?_
   refine E<|G<|D B<|a8 B B<|F km6 fun _=>?_
   refine U B (fun hc45=>?_) (fun hc45=>?_)
   ·replace h:=O hc45 h
    refine E<|G<|D B<|D B<|F km1 fun _=>?_
    exact L (by cases h;rfl)
   ·replace h:=R hc45 h
    refine T km4 fun _=>?_
    refine E<|G<|S B B (B:_=eTypes t)<|S B B (B:_=ePattern p)<|S B B (B:_=eHost h_3)<|M B<|S B B (B:_=eMorphism m.Morphism) ?_
    obtain ⟨x53,hx53,h⟩:=J h
    refine f1 B (c110 t p h_3 m.Morphism _ hx53)<|f0 B<|b2 B B<|b2 B B<|f9 B<|D B<|F km3 fun _=>?_
    refine E<|E<|G<|D B<|a8 B B<|F km4 fun _=>?_
    refine U B (fun hc57=>?_) (fun hc57=>?_)
    ·replace h:=O hc57 h
     refine E<|G<|D B<|D B<|F km1 fun _=>?_
     exact L (by cases h;rfl)
    ·replace h:=R hc57 h
     refine T km2 fun _=>?_
     refine E<|E<|G<|D B<|M B<|K B ?_
     obtain ⟨x62,hx62,h⟩:=J h
     refine W B (c73 x53.1 m.Vars _ hx62)<|d3 B<|F km1 fun _=>?_
     refine U B (fun hc63=>?_) (fun hc63=>?_)
     ·replace h:=O hc63 h
      refine E<|G<|D B<|F km1 fun _=>?_
      exact L (by cases h;rfl)
     ·replace h:=R hc63 h
      refine T kn fun _=>?_
      refine E<|G<|D B<|F km1 fun _=>?_
      exact L (by cases h;rfl)
theorem ck132:CK f132 (Rq [Aj 3] [0,1]<|Rq [Aa 4 0,Ew 5 4 (-1),Aa 6 5,Aw 7 0 6,An 8 1 6,Bp 9 7 8 6,Ar 10 6 9,Aa 3 10] [3]<|.ret) [.tmp 3]:= by decide +kernel
theorem c132 (k:Int) (c0:Int) (r:Bool) (h:search_open_1 k c0=some r):Sound prog 132 [eI k,.pt [eI c0]] (.sh (eB r)):= by
 refine Fn ck132 fun hw=>?_
 unfold search_open_1 at h
 refine E<|G<|D B<|F km2 fun _=>?_
 refine E<|G<|D B<|X B B<|D B ?_
 refine gO 4 [7,8,9] 10 (decide (k<(-1))) (decide (c0<=k)) (fun hg10=>?_) (fun hg10=>?_) ?_
 ·refine I B hg10<|I B hg10<|I B hg10<|a2 B hg10 B ?_
  exact ⟨⟨_,_,_,B⟩⟩
 ·refine H B hg10<|D B<|H B hg10<|K B<|H B hg10<|d9 B B<|a3 B hg10 B ?_
  exact ⟨⟨_,_,_,B⟩⟩
 rintro _ ⟨_,_,_,rfl⟩
 refine D B<|F km1 fun _=>?_
 exact L (by cases h;rfl)
theorem ck63:CK f63 (Rq [Af 3 1,Ad 4 0] [0,3]<|Sq (Rq [Aa 5 0,Ca 6 132 3,As 7 81 5 6] [7]<|Co 7 (Rq [Ad 4 6] [4]<|.ret)<|Sk [])<|Rq [Ad 4 0] [4]<|.ret) [.tmp 4]:= by decide +kernel
theorem c63 (l:List Int) (n:Int) (r:Int) (h:search_open l n=some r):Sound prog 63 [lI l,eI n] (.sh (eI r)):= by
 refine Fn ck63 fun hw=>?_
 unfold search_open at h
 refine E<|G<|Y B B<|D B<|F km2 fun _=>?_
 refine E<|E<|G<|D B<|g5 B ?_
 obtain ⟨x7,hx7,h⟩:=J h
 refine W B (c81 l (fun y0=>search_open_1 y0 n) _ _ (fun y0 r h=>c132 y0 n r h) _ hx7)<|F km1 fun _=>?_
 refine U B (fun hc7=>?_) (fun hc7=>?_)
 ·replace h:=O hc7 h
  refine E<|G<|D B<|F km1 fun _=>?_
  exact L (by cases h;rfl)
 ·replace h:=R hc7 h
  refine T kn fun _=>?_
  refine E<|G<|D B<|F km1 fun _=>?_
  exact L (by cases h;rfl)
theorem ck240:CK f240 (Rq [Ad 4 0] [0,1]<|Sq (Rq [Aa 5 0,⟨some 6,.isn (.s 5),none⟩] [0,1,6]<|Co 6 (Rq [Bk 4 (-1)] [4]<|.ret)<|Sk [0,1])<|Rq [Aa 7 0,Aa 8 1,Ai 9 7 8 1,Ab 10 9,Aa 4 10] [4]<|.ret) [.tmp 4]:= by decide +kernel
theorem c240 (l:List Int) (i_1:Int) (r:Int) (h:search_given l i_1=some r):Sound prog 240 [lI l,eI i_1] (.sh (eI r)):= by
 refine Fn ck240 fun hw=>?_
 unfold search_given at h
 refine E<|G<|D B<|F km2 fun _=>?_
 refine E<|E<|G<|D B ?_
 obtain ⟨x6,hx6,h⟩:=J h
 refine p1 B B fun z6 hz6=>?_
 obtain rfl:=isn_false hx6 hz6
 refine F km3 fun _=>?_
 refine b9 B B<|T km2 fun _=>?_
 refine E<|G<|D B<|D B ?_
 obtain ⟨x9,hx9,h⟩:=J h
 refine a4 B B B hx9 B<|K B<|D B<|F km1 fun _=>?_
 exact L (by cases h;rfl)
theorem ck243:CK f243 (Rq [Aj 6] [0,1,2]<|Rq [Aa 9 0,Ah 10 9 0,Ah 11 10 0,Ah 12 11 1,Ab 13 12,Aa 14 1,Ai 15 13 14 3,Ae 16 15 3,Cl 7 0 0 0,Al 3 7 16] [0,1,2,7]<|Sq (Rq [Aa 17 0,Ah 18 17 0,Ah 19 18 5,Ah 20 19 1,Ab 21 20,Aa 22 1,As 23 240 21 22,Aa 8 23] [0,2,7,8]<|Rq [Aa 24 8,Bg 25 24 0,Aa 26 25,At 27 8 26,At 28 2 26,⟨some 29,.bin (.i) .neq (.s 27) (.s 28),some (26,true)⟩,Aq 30 26 29] [0,2,7,30]<|Co 30 (Rq [Aj 6] [6]<|.ret)<|Sk [0,2,7])<|Sq (Dr [6,31,32,33,34,35,36,37,38,39,40,41,42,43,44,45,46,47,48,49,50,51,52,53,54,55,56,57,58] [Aa 31 0,Ah 32 31 0,Ah 33 32 2,Ah 34 33 1,Ab 35 34,Aa 36 2,Ai 37 35 36 3,Ae 38 37 3,Ac 39 7 0,Ab 40 39,Aa 41 0,Ah 42 41 0,Ah 43 42 9,Ab 44 43,Ac 45 7 1,Ab 46 45,Ai 47 44 46 1,Ab 48 47,Aa 49 0,Ah 50 49 0,Ah 51 50 9,Ab 52 51,Ac 53 7 2,Ab 54 53,Ai 55 52 54 1,Ab 56 55,⟨some 57,.bld [.int .i64 0,.int .i64 0,.int .i64 0] [(0,1,.s 40),(1,1,.s 48),(2,1,.s 56)],none⟩,⟨some 58,.bin (.a [0,0,0]) .eql (.s 38) (.s 57),none⟩,Aa 6 58] [6])<|.ret) [.tmp 6]:= by decide +kernel
theorem c243 (f:search_finder) (i_1:Int) (k:Int) (r:Bool) (h:__search_finder__fits f i_1 k=some r):Sound prog 243 [.pt (esearch_finder f).cells,eI i_1,eI k] (.sh (eB r)):= by
 refine Fn ck243 fun hw=>?_
 unfold __search_finder__fits at h
 refine E<|G<|D B<|F km3 fun _=>?_
 refine E<|G<|D B<|b8 B<|b8 B<|b8 B<|K B<|D B ?_
 obtain ⟨x15,hx15,h⟩:=J h
 refine a4 B B B hx15 B<|S B B (B:_=eEdge x15)<|d8 B<|b3 B B B B B<|F (kt<|kt<|kt<|kb<|kn) fun _=>?_
 refine E<|E<|G<|D B<|b8 B<|b8 B<|b8 B<|K B<|D B ?_
 obtain ⟨x23,hx23,h⟩:=J h
 refine W B (c240 f.partial_.Edges i_1 _ hx23)<|D B<|F (kt<|kt<|kb<|kt<|kn) fun _=>?_
 refine E<|G<|D B<|d9 B B<|D B ?_
 refine gA 4 [27,28,29] 30 (decide (0<=x23)) (!decide (x23=k)) (fun hg30=>?_) (fun hg30=>?_) ?_
 ·refine H B hg30<|D B<|H B hg30<|D B<|H B hg30<|a8 B B<|a2 B hg30 B ?_
  exact ⟨⟨_,_,_,B⟩⟩
 ·refine I B hg30<|I B hg30<|I B hg30<|a3 B hg30 B ?_
  exact ⟨⟨_,_,_,B⟩⟩
 rintro _ ⟨_,_,_,rfl⟩
 refine F (kt<|kt<|kb<|kt<|kn) fun _=>?_
 refine U B (fun hc30=>?_) (fun hc30=>?_)
 ·replace h:=O hc30 h
  refine E<|G<|D B<|F km1 fun _=>?_
  exact L (by cases h;rfl)
 ·replace h:=R hc30 h
  refine T (kt<|kt<|kb<|kn) fun _=>?_
  refine E<|e2 B<|D B<|b8 B<|b8 B<|b8 B<|K B<|D B ?_
  obtain ⟨x37,hx37,h⟩:=J h
  refine a4 B B B hx37 B<|S B B (B:_=eEdge x37)<|a6 B<|K B<|D B<|b8 B<|b8 B<|K B<|a6 B<|K B ?_
  obtain ⟨x47,hx47,h⟩:=J h
  refine a4 B B B hx47 B<|K B<|D B<|b8 B<|b8 B<|K B<|a6 B<|K B ?_
  obtain ⟨x55,hx55,h⟩:=J h
  refine a4 B B B hx55 B<|K B<|g2 B B B (B:_=eEdge (Edge.mk x15.Type' x47 x55))<|t4 B B B (eqi_Edge _ _)<|D B<|F km1 fun _=>?_
  exact L (by cases h;rfl)
theorem ck242:CK f242 (Rq [Aj 2] [0]<|Rq [Aa 8 0,Ah 9 8 0,Ah 10 9 9,Ab 11 10,Ag 12 11,Ch 13 12 1,Aa 3 13] [0,3]<|Sq (Rq [Aa 14 0,Ah 15 14 0,Ah 16 15 0,Ah 17 16 1,Ab 18 17,Ag 19 18,Ad 20 0] [0,3,18,19,20]<|Bl 0<|Lo [0,3,18,19,20]<|Rq [Am 21 20 19] [0,3,18,19,20,21]<|Sq (Co 21 (Sk [0,3,18,19,20])<|Ex 0 [])<|Sq (Bl 1<|Rq [Aa 22 20,Ai 23 18 20 3,Ae 24 23 3,Cl 5 0 0 0,Aa 4 22,Al 3 5 24] [0,3,4,5,18,19,20]<|Sq (Rq [Ac 25 5 1,Ab 26 25,Ac 27 5 2,Ab 28 27,Fb 29 26 28,Aa 30 3,Bj 31 29 30] [0,3,4,18,19,20,31]<|Co 31 (Ex 1 [0,3,18,19,20])<|Sk [0,3,4,18,19,20])<|Rq [Aj 6] [0,3,4,6,18,19,20]<|Sq (Rq [Aa 32 0,Ah 33 32 0,Ah 34 33 2,Ah 35 34 1,Ab 36 35,Ag 37 36,Ad 38 0] [0,3,4,6,18,19,20,37,38]<|Bl 2<|Lo [0,3,4,6,18,19,20,37,38]<|Rq [Am 39 38 37] [0,3,4,6,18,19,20,37,38,39]<|Sq (Co 39 (Sk [0,3,4,6,18,19,20,37,38])<|Ex 2 [0,3,6,18,19,20])<|Sq (Bl 3<|Rq [Aa 40 38,Aa 7 40] [0,3,4,6,7,18,19,20,37,38]<|Rq [Aa 41 0,Aa 42 4,Aa 43 7,Bd 44 243 41 42 43] [0,3,4,6,18,19,20,37,38,44]<|Co 44 (Rq [Bu 6] [0,3,6,18,19,20]<|Ex 2 [0,3,6,18,19,20])<|Sk [0,3,4,6,18,19,20,37,38])<|Re [Ao 45 38 1,Aa 38 45] [0,3,4,6,18,19,20,37,38])<|Rq [Aa 46 6,Ba 47 46] [0,3,18,19,20,47]<|Co 47 (Rq [Aj 2] [2]<|.ret)<|Sk [0,3,18,19,20])<|Re [Ao 48 20 1,Aa 20 48] [0,3,18,19,20])<|Rq [Bu 2] [2]<|.ret) [.tmp 2]:= by decide +kernel
theorem c242 (f:search_finder) (r:Bool) (h:__search_finder__possible f=some r):Sound prog 242 [.pt (esearch_finder f).cells] (.sh (eB r)):= by
 refine Fn ck242 fun hw=>?_
 unfold __search_finder__possible at h
 refine E<|G<|D B<|F km1 fun _=>?_
 refine E<|G<|D B<|b8 B<|b8 B<|K B<|V B B<|f7 B B<|D B<|F km2 fun _=>?_
 refine E<|E<|G<|D B<|b8 B<|b8 B<|b8 B<|K B<|V B B<|D B<|F km5 fun _=>?_
 obtain ⟨o0,ho0,h⟩:=d4 h
 refine e0 ho0 (fun (i0:Int) (_:Unit)=>[(0,.tv (.pt (esearch_finder f).cells)),(3,.tv (eI (w64 ((f.nodes.length:Int) - 1)))),(18,.tv (lE f.p.Edges)),(19,.tv (eI (f.p.Edges.length:Int))),(20,.tv (eI i0))]) (fun (_:Unit)=>[]) (fun zv ze=>resIs ([.tmp 2]) (.sh (eB zv)) ze) B ?_ ?_ ?_ ?_
 ·clear h ho0
  intro i0 s0 r0 hi0 h hw0
  refine E<|G<|X B B<|F km6 fun _=>?_
  refine E<|d0 B (d1 hi0)<|T km5 fun _=>?_
  refine E<|a9<|E<|G<|D B ?_
  obtain ⟨x23,hx23,h⟩:=J h
  refine a4 B B B hx23 B<|S B B (B:_=eEdge x23)<|d8 B<|D B<|b3 B B B B B<|F (kt<|kt<|kt<|kb<|kt<|kt<|kt<|kn) fun _=>?_
  refine E<|E<|G<|a6 B<|K B<|a6 B<|K B<|p3 B B<|D B<|a8 B B<|F km7 fun _=>?_
  refine U B (fun hc31=>?_) (fun hc31=>?_)
  ·replace h:=O hc31 h
   refine b4 km5 ?_
   refine p6 (i:=1) (y:=True) ?_
   intro _
   refine G<|a7 B B<|D B<|F km5 ?_
   cases h
   refine ⟨_,B,?_⟩
   rw [Ktv rfl (Ktv rfl (Ktv rfl (Ktv rfl (Ktv rfl (Knil _)))))]
   rw [b6 (a5 (hw0 20)) hi0 (e1 (a5 (hw0 19)))]
   all_goals rfl
  ·replace h:=R hc31 h
   refine T km6 fun _=>?_
   refine E<|G<|D B<|F km7 fun _=>?_
   refine E<|E<|G<|D B<|b8 B<|b8 B<|b8 B<|K B<|V B B<|D B<|F km9 fun _=>?_
   obtain ⟨o2,ho2,h⟩:=d4 h
   refine e0 ho2 (fun (i2:Int) (s2:Bool)=>[(0,.tv (.pt (esearch_finder f).cells)),(3,.tv (eI (w64 ((f.nodes.length:Int) - 1)))),(4,.tv (eI i0)),(6,.tv (eB s2)),(18,.tv (lE f.p.Edges)),(19,.tv (eI (f.p.Edges.length:Int))),(20,.tv (eI i0)),(37,.tv (eI (f.g.Edges.length:Int))),(38,.tv (eI i2))]) (fun (s2:Bool)=>[(0,.tv (.pt (esearch_finder f).cells)),(3,.tv (eI (w64 ((f.nodes.length:Int) - 1)))),(6,.tv (eB s2)),(18,.tv (lE f.p.Edges)),(19,.tv (eI (f.p.Edges.length:Int))),(20,.tv (eI i0))]) (fun zv ze=>resIs ([.tmp 2]) (.sh (eB zv)) ze) B ?_ ?_ ?_ ?_
   ·clear h ho2
    intro i2 s2 r2 hi2 h hw2
    refine E<|G<|X B B<|F km10 fun _=>?_
    refine E<|d0 B (d1 hi2)<|T km9 fun _=>?_
    refine E<|a9<|E<|G<|D B<|D B<|F km10 fun _=>?_
    refine E<|G<|D B<|D B<|D B ?_
    obtain ⟨x44,hx44,h⟩:=J h
    refine W B (c243 f i0 i2 _ hx44)<|F km10 fun _=>?_
    refine U B (fun hc44=>?_) (fun hc44=>?_)
    ·replace h:=O hc44 h
     refine E<|G<|D B<|F km6 fun _=>?_
     refine b4 km6 ?_
     refine t5 (i:=2) (j:=3) (x:=True) (by decide) ?_
     refine ⟨rfl,?_⟩
     cases h
     exact ⟨_,rfl,rfl⟩
    ·replace h:=R hc44 h
     refine T km9 fun _=>?_
     refine G<|a7 B B<|D B<|F km9 ?_
     cases h
     refine ⟨_,B,?_⟩
     rw [Ktv rfl (Ktv rfl (Ktv rfl (Ktv rfl (Ktv rfl (Ktv rfl (Ktv rfl (Ktv rfl (Ktv rfl (Knil _)))))))))]
     rw [b6 (a5 (hw2 38)) hi2 (e1 (a5 (hw2 37)))]
     all_goals rfl
   ·intro i2 s2 hi2
    refine E<|G<|X B B<|F km10 fun _=>?_
    refine E<|b9 B (d2 hi2)<|b4 km6 ?_
    exact ⟨rfl,rfl⟩
   ·intro s2 hs
    replace h:=d5 h hs
    intro _
    refine E<|G<|D B<|d3 B<|F km6 fun _=>?_
    refine U B (fun hc47=>?_) (fun hc47=>?_)
    ·replace h:=O hc47 h
     refine E<|G<|D B<|F km1 fun _=>?_
     refine L ?_
     cases h
     exact ⟨_,rfl,rfl⟩
    ·replace h:=R hc47 h
     refine T km5 fun _=>?_
     refine G<|a7 B B<|D B<|F km5 ?_
     cases h
     refine ⟨_,B,?_⟩
     rw [Ktv rfl (Ktv rfl (Ktv rfl (Ktv rfl (Ktv rfl (Knil _)))))]
     rw [b6 (a5 (hw0 20)) hi0 (e1 (a5 (hw0 19)))]
     all_goals rfl
   ·intro v2 ze hv hR
    replace h:=d6 h hv
    cases h
    exact ⟨_,rfl,hR⟩
 ·intro i0 s0 hi0
  refine E<|G<|X B B<|F km6 fun _=>?_
  refine E<|b9 B (d2 hi0)<|b4 kn ?_
  exact ⟨rfl,rfl⟩
 ·intro s0 hs
  replace h:=d5 h hs
  intro _
  refine E<|G<|D B<|F km1 fun _=>?_
  exact L (by cases h;rfl)
 ·intro v0 ze hv hR
  replace h:=d6 h hv
  cases h
  exact hR
noncomputable def pl198:PC:=Bl 0<|Sq (Dr [28,29,30,31,32,33,34,35,36,37,38] [Ac 29 0 0,Ah 30 29 0,Ah 31 30 11,Ab 32 31,Ag 33 32,Ac 34 0 0,Ah 35 34 0,Ah 36 35 8,Ab 37 36,Cn 38 33 37,Aa 28 38] [0,28])<|Co 28 (Sk [0])<|Sq (Dr [39,40,41,42,43,44,45,46,47,48,49,50,51] [Ac 40 0 0,Ah 41 40 0,Ah 42 41 9,Dg 43 42,Dd 44 43,Ac 45 0 0,Ah 46 45 0,Ah 47 46 0,Ah 48 47 0,Ab 49 48,Ag 50 49,Am 51 44 50,Aa 39 51] [0,39])<|Co 39 (Rq [Ac 52 0 0,Ah 53 52 0,Ah 54 53 9,Dg 55 54,Dd 56 55,Aa 2 56] [0,2]<|Rq [Ac 57 0 0,Ah 58 57 0,Ah 59 58 2,Ah 60 59 0,Ab 61 60,Ag 62 61,Ad 63 0] [0,2,61,62,63]<|Bl 1<|Lo [0,2,61,62,63]<|Rq [Am 64 63 62] [0,2,61,62,63,64]<|Sq (Co 64 (Sk [0,2,61,62,63])<|Ex 1 [0])<|Sq (Bl 2<|Rq [Aa 65 63,Ai 66 61 63 1,Ab 67 66,Aa 3 65,Aa 4 67] [0,2,3,4,61,62,63]<|Sq (Rq [Ac 68 0 0,Ah 69 68 0,Ah 70 69 5,Ah 71 70 0,Ab 72 71,Aa 73 2,As 74 240 72 73,Aa 5 74] [0,2,3,4,5,61,62,63]<|Sq (Dr [75,76,77,78,79,80,81,82,83,84,85,86,87,88,89,90,91,92,93,94,95,96,97,98,99,100,101,102,103,104,105,106,107,108,109,110,111,112,113,114,115] [Aa 75 5,Bg 76 75 0,Aa 77 76,At 78 5 77,At 79 3 77,⟨some 80,.bin (.i) .neq (.s 78) (.s 79),some (77,true)⟩,Aq 81 77 80,Aa 82 81,Ap 83 0 0 82,Bq 84 83 0 82,Bq 85 84 4 82,An 86 85 82,Ap 87 0 0 82,Bq 88 87 0 82,Bq 89 88 0 82,Bq 90 89 0 82,An 91 90 82,Aw 92 2 82,Bw 93 91 92 1 82,An 94 93 82,Bw 95 86 94 1 82,An 96 95 82,Aw 97 4 82,Bw 98 96 97 1 82,An 99 98 82,Bm 100 99 82,Ar 101 82 100,Aa 102 101,Ap 103 0 0 102,Bq 104 103 0 102,Bq 105 104 7 102,An 106 105 102,Aw 107 106 102,Ax 108 0 0 107,Cj 109 108 0 107,Cj 110 109 9 107,⟨some 111,.lac (.s 110),some (107,true)⟩,At 112 3 107,⟨some 113,.calll 241 [.s 111,.s 112],some (107,true)⟩,Cv 114 107 113 102,Ar 115 102 114] [0,2,3,61,62,63,115])<|Co 115 (Ex 2 [0,2,61,62,63])<|Sk [0,2,3,61,62,63])<|Rq [Ac 116 0 0,Ac 117 0 0,Ah 118 117 0,Ah 119 118 9,Eh 120 119,Aa 121 3,Bn 122 1 121,Du 123 1 120 122,Ah 124 116 0,Ah 125 124 9,Ei 125 123] [0,2,61,62,63]<|Sq (Rq [Ac 126 0 0,Ff 127 242 126] [0,2,61,62,63,127]<|Co 127 (Re [Ac 128 0 0,Fg 129 198 128 0] [0,2,61,62,63])<|Sk [0,2,61,62,63])<|Re [Ac 130 0 0,Ac 131 0 0,Ah 132 131 0,Ah 133 132 9,Eh 134 133,Aa 135 2,⟨some 136,.cut 1 134 (.s 135),none⟩,Ah 137 130 0,Ah 138 137 9,Ei 138 136] [0,2,61,62,63])<|Re [Ao 139 63 1,Aa 63 139] [0,2,61,62,63])<|Sq (Dr [140,141,142,143,144,145,146,147,148,149,150,151,152] [Ac 141 0 0,Ah 142 141 0,Ah 143 142 10,Dg 144 143,Dd 145 144,Ac 146 0 0,Ah 147 146 0,Ah 148 147 0,Ah 149 148 1,Ab 150 149,Ag 151 150,Am 152 145 151,Aa 140 152] [0,140])<|Co 140 (Rq [Ac 153 0 0,Ah 154 153 0,Ah 155 154 10,Dg 156 155,Dd 157 156,Aa 6 157] [0,6]<|Rq [Ac 158 0 0,Ah 159 158 0,Ah 160 159 2,Ah 161 160 1,Ab 162 161,Ag 163 162,Ad 164 0] [0,6,163,164]<|Bl 3<|Lo [0,6,163,164]<|Rq [Am 165 164 163] [0,6,163,164,165]<|Sq (Co 165 (Sk [0,6,163,164])<|Ex 3 [0])<|Sq (Bl 4<|Rq [Aa 166 164,Aa 7 166] [0,6,7,163,164]<|Sq (Rq [Ac 167 0 0,Aa 168 6,Aa 169 7,⟨some 170,.calll 243 [.s 167,.s 168,.s 169],none⟩,Ba 171 170,Aa 172 171,Ap 173 0 0 172,Bq 174 173 0 172,Bq 175 174 7 172,An 176 175 172,Aw 177 176 172,Ax 178 0 0 177,Cj 179 178 0 177,Cj 180 179 10 177,⟨some 181,.lac (.s 180),some (177,true)⟩,At 182 7 177,⟨some 183,.calll 241 [.s 181,.s 182],some (177,true)⟩,Cv 184 177 183 172,Ar 185 172 184] [0,6,7,163,164,185]<|Co 185 (Ex 4 [0,6,163,164])<|Sk [0,6,7,163,164])<|Rq [Ac 186 0 0,Ac 187 0 0,Ah 188 187 0,Ah 189 188 10,Eh 190 189,Aa 191 7,Bn 192 1 191,Du 193 1 190 192,Ah 194 186 0,Ah 195 194 10,Ei 195 193] [0,6,163,164]<|Rq [Ac 196 0 0,Fg 197 198 196 0] [0,6,163,164]<|Re [Ac 198 0 0,Ac 199 0 0,Ah 200 199 0,Ah 201 200 10,Eh 202 201,Aa 203 6,⟨some 204,.cut 1 202 (.s 203),none⟩,Ah 205 198 0,Ah 206 205 10,Ei 206 204] [0,6,163,164])<|Re [Ao 207 164 1,Aa 164 207] [0,6,163,164])<|Dr [8,9,10,11,12,13,14,15,16,17,18,19,20,21,22,23,24,25,26,27] [Ac 8 0 0,Ac 9 0 0,Ah 10 9 0,Ah 11 10 11,⟨some 12,.ldt (.s 11),none⟩,Ac 13 0 0,Ah 14 13 0,Ah 15 14 9,Dg 16 15,Ff 17 138 16,Ac 18 0 0,Ah 19 18 0,Ah 20 19 10,Dg 21 20,Ff 22 138 21,Ct 23 1 1 0 1 17 1 1 22,Bn 24 2 23,Cc 25 2 12 24,Ah 26 8 0,Ah 27 26 11,Fh 1 27 25] [0]
theorem ck198:CK f198 pl198 []:= by decide +kernel
theorem nb198:pl198.noClm=true∧pl198.noDst 0=true:=by decide +kernel
theorem c198S (n:Nat) (ih_198:∀ (f:search_finder) (r:search_finder) (_:__search_finder__findF n f=some r),Sound prog 198 [.undef] (.bo (bxsearch_finder f) (bxsearch_finder r) 0 [])):∀ (f:search_finder) (r:search_finder) (_:__search_finder__findF (n+1) f=some r),Sound prog 198 [.undef] (.bo (bxsearch_finder f) (bxsearch_finder r) 0 []):= by
 intro f r h
 refine fnB_sound (draw_sound Tryz_follows) (f:=198) (fn:=f198) (pl:=pl198) (rv:=([])) B B (by decide) ck198.1 ck198.2 (Nat.le_of_ble_eq_true B) nb198.1 nb198.2 (fun hw hwc=>?_)
 unfold __search_finder__findF at h
 refine WP.out (c:=pl198) ?_
 unfold pl198
 refine a9<|E<|e2 B<|a6 B<|b7 B B<|b7 B B<|K B<|V B B<|a6 B<|b7 B B<|b7 B B<|K B<|b5 B B<|D B<|F (kb<|kt<|kn) fun _=>?_
 obtain ⟨w1,hw1,h⟩:=J h
 refine l1 (fun ze=>ze=[(0,.bx (bxsearch_finder w1))]) ?_ ?_
 ·replace h:=hw1
  clear hw1
  refine U B (fun hc28=>?_) (fun hc28=>?_)
  ·replace h:=O hc28 h
   refine T (kb<|kn) ?_
   cases h
   exact rfl
  ·replace h:=R hc28 h
   refine E<|e2 B<|a6 B<|b7 B B<|b7 B B<|l6 B B<|l8 B B<|a6 B<|b7 B B<|b7 B B<|b7 B B<|K B<|V B B<|X B B<|D B<|F (kb<|kt<|kn) fun _=>?_
   refine U B (fun hc39=>?_) (fun hc39=>?_)
   ·replace h:=O hc39 h
    refine E<|G<|a6 B<|b7 B B<|b7 B B<|l6 B B<|l8 B B<|D B<|F (kb<|kt<|kn) fun _=>?_
    refine E<|G<|a6 B<|b7 B B<|b7 B B<|b7 B B<|K B<|V B B<|D B<|F (kb<|kt<|kt<|kt<|kt<|kn) fun _=>?_
    obtain ⟨s1,hs1,h⟩:=J h
    refine g6 hs1 (fun (i1:Int) (s1:search_finder)=>[(0,.bx (bxsearch_finder s1)),(2,.tv (eI (f.nodes.length:Int))),(61,.tv (lI f.g.Nodes)),(62,.tv (eI (f.g.Nodes.length:Int))),(63,.tv (eI i1))]) (fun (s1:search_finder)=>[(0,.bx (bxsearch_finder s1))]) B ?_ ?_ ?_
    ·clear h hs1
     intro i1 s1 r1 hi1 h hw1
     refine E<|G<|X B B<|F (kb<|kt<|kt<|kt<|kt<|kt<|kn) fun _=>?_
     refine E<|d0 B (d1 hi1)<|T (kb<|kt<|kt<|kt<|kt<|kn) fun _=>?_
     refine E<|a9<|E<|G<|D B ?_
     obtain ⟨x66,hx66,h⟩:=J h
     refine a4 B B B hx66 B<|K B<|D B<|D B<|F (kb<|kt<|kt<|kt<|kt<|kt<|kt<|kn) fun _=>?_
     refine E<|E<|G<|a6 B<|b7 B B<|b7 B B<|b7 B B<|K B<|D B ?_
     obtain ⟨x74,hx74,h⟩:=J h
     refine W B (c240 s1.partial_.Nodes (f.nodes.length:Int) _ hx74)<|D B<|F (kb<|kt<|kt<|kt<|kt<|kt<|kt<|kt<|kn) fun _=>?_
     refine E<|e2 B<|D B<|d9 B B<|D B ?_
     refine gA 4 [78,79,80] 81 (decide (0<=x74)) (!decide (x74=i1)) (fun hg81=>?_) (fun hg81=>?_) ?_
     ·refine H B hg81<|D B<|H B hg81<|D B<|H B hg81<|a8 B B<|a2 B hg81 B ?_
      exact ⟨⟨_,_,_,B⟩⟩
     ·refine I B hg81<|I B hg81<|I B hg81<|a3 B hg81 B ?_
      exact ⟨⟨_,_,_,B⟩⟩
     rintro _ ⟨_,_,_,rfl⟩
     refine D B ?_
     obtain ⟨x101,hx101,h⟩:=J h
     refine gX 19 [83,84,85,86,87,88,89,90,91,92,93,94,95,96,97,98,99,100] 101 x101 ((decide (0<=x74))&&(!decide (x74=i1))) (fun hg101=>?_) (fun hg101=>?_) ?_
     ·replace h:=O hg101 hx101
      cases h
      refine I B hg101<|I B hg101<|I B hg101<|I B hg101<|I B hg101<|I B hg101<|I B hg101<|I B hg101<|I B hg101<|I B hg101<|I B hg101<|I B hg101<|I B hg101<|I B hg101<|I B hg101<|I B hg101<|I B hg101<|I B hg101<|a2 B hg101 B ?_
      exact ⟨⟨_,_,_,_,_,_,_,_,_,_,_,_,_,_,_,_,_,_,B⟩⟩
     ·replace h:=R hg101 hx101
      refine H B hg101<|a6 B<|H B hg101<|b7 B B<|H B hg101<|b7 B B<|H B hg101<|K B<|H B hg101<|a6 B<|H B hg101<|b7 B B<|H B hg101<|b7 B B<|H B hg101<|b7 B B<|H B hg101<|K B<|H B hg101<|D B ?_
      obtain ⟨x93,hx93,h⟩:=J h
      refine H B hg101<|a4 B B B hx93 B<|H B hg101<|K B ?_
      obtain ⟨x95,hx95,h⟩:=J h
      refine H B hg101<|a4 B B B hx95 B<|H B hg101<|K B<|H B hg101<|D B ?_
      obtain ⟨x98,hx98,h⟩:=J h
      refine H B hg101<|a4 B B B hx98 B<|H B hg101<|K B<|H B hg101<|d3 B ?_
      cases h
      refine a3 B hg101 B ?_
      exact ⟨⟨_,_,_,_,_,_,_,_,_,_,_,_,_,_,_,_,_,_,B⟩⟩
     rintro _ ⟨_,_,_,_,_,_,_,_,_,_,_,_,_,_,_,_,_,_,rfl⟩
     refine D B ?_
     obtain ⟨x115,hx115,h⟩:=J h
     refine gX 13 [103,104,105,106,107,108,109,110,111,112,113,114] 115 x115 x101 (fun hg115=>?_) (fun hg115=>?_) ?_
     ·replace h:=O hg115 hx115
      cases h
      refine I B hg115<|I B hg115<|I B hg115<|I B hg115<|I B hg115<|d7 B<|d7 B<|d7 B<|d7 B<|d7 B<|d7 B<|I B hg115<|a2 B hg115 B ?_
      exact ⟨⟨_,_,_,_,_,_,_,_,_,_,_,_,B⟩⟩
     ·replace h:=R hg115 hx115
      refine H B hg115<|a6 B<|H B hg115<|b7 B B<|H B hg115<|b7 B B<|H B hg115<|K B<|H B hg115<|D B ?_
      obtain ⟨x114,hx114,h⟩:=J h
      refine gX 7 [108,109,110,111,112,113] 114 x114 s1.injective (fun hg114=>?_) (fun hg114=>?_) ?_
      ·replace h:=O hg114 hx114
       refine H B hg114<|a6 B<|H B hg114<|b7 B B<|H B hg114<|b7 B B<|H B hg114<|l6 B B<|H B hg114<|D B ?_
       obtain ⟨x113,hx113,h⟩:=J h
       refine H B hg114<|l3 B (c241 s1.nodes i1 _ hx113) B ?_
       cases h
       refine H B hg115<|a2 B hg114 B ?_
       exact ⟨⟨_,_,_,_,_,_,B⟩⟩
      ·replace h:=R hg114 hx114
       cases h
       refine I B hg114<|I B hg114<|I B hg114<|I B hg114<|I B hg114<|I B hg114<|H B hg115<|a3 B hg114 B ?_
       exact ⟨⟨_,_,_,_,_,_,B⟩⟩
      rintro _ ⟨_,_,_,_,_,_,rfl⟩
      cases h
      refine a3 B hg115 B ?_
      exact ⟨⟨_,_,_,_,_,_,_,_,_,_,_,_,B⟩⟩
     rintro _ ⟨_,_,_,_,_,_,_,_,_,_,_,_,rfl⟩
     refine F (kb<|kt<|kt<|kt<|kt<|kt<|kt<|kn) fun _=>?_
     refine U B (fun hc115=>?_) (fun hc115=>?_)
     ·replace h:=O hc115 h
      refine b4 (kb<|kt<|kt<|kt<|kt<|kn) ?_
      refine p6 (i:=2) (y:=True) ?_
      intro _
      refine G<|a7 B B<|D B<|F (kb<|kt<|kt<|kt<|kt<|kn) ?_
      cases h
      show Env.keep _ _=_
      rw [Kbx rfl (Ktv rfl (Ktv rfl (Ktv rfl (Ktv rfl (Knil _)))))]
      rw [b6 (a5 (hw1 63)) hi1 (e1 (a5 (hw1 62)))]
      all_goals rfl
     ·replace h:=R hc115 h
      refine T (kb<|kt<|kt<|kt<|kt<|kt<|kn) fun _=>?_
      refine E<|G<|a6 B<|a6 B<|b7 B B<|b7 B B<|m2 B B B B B<|D B<|e9 (e:=eI) (l:=[i1]) B B (fun _=>rfl) ?_
      obtain ⟨x123,hx123,h⟩:=J h
      refine m5 B B B B hx123 B B (by decide)<|b7 B B<|b7 B B<|m3 B B B B B B<|F (kb<|kt<|kt<|kt<|kt<|kn) fun _=>?_
      refine E<|E<|G<|a6 B ?_
      obtain ⟨x127,hx127,h⟩:=J h
      refine l3 B (c242 (search_finder.mk s1.p s1.g s1.is s1.partial_ s1.injective s1.most x123 s1.edges s1.out) _ hx127) B<|F (kb<|kt<|kt<|kt<|kt<|kt<|kn) fun _=>?_
      refine U B (fun hc127=>?_) (fun hc127=>?_)
      ·replace h:=O hc127 h
       refine G<|a6 B ?_
       obtain ⟨x129,hx129,h⟩:=J h
       refine p7 B B B (by decide) B (ih_198 (search_finder.mk s1.p s1.g s1.is s1.partial_ s1.injective s1.most x123 s1.edges s1.out) _ hx129) B<|F (kb<|kt<|kt<|kt<|kt<|kn) fun _=>?_
       refine G<|a6 B<|a6 B<|b7 B B<|b7 B B<|m2 B B B B B<|D B ?_
       obtain ⟨x136,hx136,h⟩:=J h
       refine p8 B B B hx136 B B (by decide)<|b7 B B<|b7 B B<|m3 B B B B B B<|F (kb<|kt<|kt<|kt<|kt<|kn) fun _=>?_
       refine G<|a7 B B<|D B<|F (kb<|kt<|kt<|kt<|kt<|kn) ?_
       cases h
       show Env.keep _ _=_
       rw [Kbx rfl (Ktv rfl (Ktv rfl (Ktv rfl (Ktv rfl (Knil _)))))]
       rw [b6 (a5 (hw1 63)) hi1 (e1 (a5 (hw1 62)))]
       all_goals rfl
      ·replace h:=R hc127 h
       refine T (kb<|kt<|kt<|kt<|kt<|kn) fun _=>?_
       refine G<|a6 B<|a6 B<|b7 B B<|b7 B B<|m2 B B B B B<|D B ?_
       obtain ⟨x136,hx136,h⟩:=J h
       refine p8 B B B hx136 B B (by decide)<|b7 B B<|b7 B B<|m3 B B B B B B<|F (kb<|kt<|kt<|kt<|kt<|kn) fun _=>?_
       refine G<|a7 B B<|D B<|F (kb<|kt<|kt<|kt<|kt<|kn) ?_
       cases h
       show Env.keep _ _=_
       rw [Kbx rfl (Ktv rfl (Ktv rfl (Ktv rfl (Ktv rfl (Knil _)))))]
       rw [b6 (a5 (hw1 63)) hi1 (e1 (a5 (hw1 62)))]
       all_goals rfl
    ·intro i1 s1 hi1
     refine E<|G<|X B B<|F (kb<|kt<|kt<|kt<|kt<|kt<|kn) fun _=>?_
     refine E<|b9 B (d2 hi1)<|b4 (kb<|kn) ?_
     exact ⟨rfl,rfl⟩
    ·cases h
     exact rfl
   ·replace h:=R hc39 h
    refine E<|e2 B<|a6 B<|b7 B B<|b7 B B<|l6 B B<|l8 B B<|a6 B<|b7 B B<|b7 B B<|b7 B B<|K B<|V B B<|X B B<|D B<|F (kb<|kt<|kn) fun _=>?_
    refine U B (fun hc140=>?_) (fun hc140=>?_)
    ·replace h:=O hc140 h
     refine E<|G<|a6 B<|b7 B B<|b7 B B<|l6 B B<|l8 B B<|D B<|F (kb<|kt<|kn) fun _=>?_
     refine E<|G<|a6 B<|b7 B B<|b7 B B<|b7 B B<|K B<|V B B<|D B<|F (kb<|kt<|kt<|kt<|kn) fun _=>?_
     obtain ⟨s3,hs3,h⟩:=J h
     refine g6 hs3 (fun (i3:Int) (s3:search_finder)=>[(0,.bx (bxsearch_finder s3)),(6,.tv (eI (f.edges.length:Int))),(163,.tv (eI (f.g.Edges.length:Int))),(164,.tv (eI i3))]) (fun (s3:search_finder)=>[(0,.bx (bxsearch_finder s3))]) B ?_ ?_ ?_
     ·clear h hs3
      intro i3 s3 r3 hi3 h hw3
      refine E<|G<|X B B<|F (kb<|kt<|kt<|kt<|kt<|kn) fun _=>?_
      refine E<|d0 B (d1 hi3)<|T (kb<|kt<|kt<|kt<|kn) fun _=>?_
      refine E<|a9<|E<|G<|D B<|D B<|F (kb<|kt<|kt<|kt<|kt<|kn) fun _=>?_
      refine E<|E<|G<|a6 B<|D B<|D B ?_
      obtain ⟨x170,hx170,h⟩:=J h
      refine l3 B (c243 s3 (f.edges.length:Int) i3 _ hx170) B<|d3 B<|D B ?_
      obtain ⟨x185,hx185,h⟩:=J h
      refine gX 13 [173,174,175,176,177,178,179,180,181,182,183,184] 185 x185 (!x170) (fun hg185=>?_) (fun hg185=>?_) ?_
      ·replace h:=O hg185 hx185
       cases h
       refine I B hg185<|I B hg185<|I B hg185<|I B hg185<|I B hg185<|d7 B<|d7 B<|d7 B<|d7 B<|d7 B<|d7 B<|I B hg185<|a2 B hg185 B ?_
       exact ⟨⟨_,_,_,_,_,_,_,_,_,_,_,_,B⟩⟩
      ·replace h:=R hg185 hx185
       refine H B hg185<|a6 B<|H B hg185<|b7 B B<|H B hg185<|b7 B B<|H B hg185<|K B<|H B hg185<|D B ?_
       obtain ⟨x184,hx184,h⟩:=J h
       refine gX 7 [178,179,180,181,182,183] 184 x184 s3.injective (fun hg184=>?_) (fun hg184=>?_) ?_
       ·replace h:=O hg184 hx184
        refine H B hg184<|a6 B<|H B hg184<|b7 B B<|H B hg184<|b7 B B<|H B hg184<|l6 B B<|H B hg184<|D B ?_
        obtain ⟨x183,hx183,h⟩:=J h
        refine H B hg184<|l3 B (c241 s3.edges i3 _ hx183) B ?_
        cases h
        refine H B hg185<|a2 B hg184 B ?_
        exact ⟨⟨_,_,_,_,_,_,B⟩⟩
       ·replace h:=R hg184 hx184
        cases h
        refine I B hg184<|I B hg184<|I B hg184<|I B hg184<|I B hg184<|I B hg184<|H B hg185<|a3 B hg184 B ?_
        exact ⟨⟨_,_,_,_,_,_,B⟩⟩
       rintro _ ⟨_,_,_,_,_,_,rfl⟩
       cases h
       refine a3 B hg185 B ?_
       exact ⟨⟨_,_,_,_,_,_,_,_,_,_,_,_,B⟩⟩
      rintro _ ⟨_,_,_,_,_,_,_,_,_,_,_,_,rfl⟩
      refine F (kb<|kt<|kt<|kt<|kt<|kt<|kn) fun _=>?_
      refine U B (fun hc185=>?_) (fun hc185=>?_)
      ·replace h:=O hc185 h
       refine b4 (kb<|kt<|kt<|kt<|kn) ?_
       refine p6 (i:=4) (y:=True) ?_
       intro _
       refine G<|a7 B B<|D B<|F (kb<|kt<|kt<|kt<|kn) ?_
       cases h
       show Env.keep _ _=_
       rw [Kbx rfl (Ktv rfl (Ktv rfl (Ktv rfl (Knil _))))]
       rw [b6 (a5 (hw3 164)) hi3 (e1 (a5 (hw3 163)))]
       all_goals rfl
      ·replace h:=R hc185 h
       refine T (kb<|kt<|kt<|kt<|kt<|kn) fun _=>?_
       refine E<|G<|a6 B<|a6 B<|b7 B B<|b7 B B<|m2 B B B B B<|D B<|e9 (e:=eI) (l:=[i3]) B B (fun _=>rfl) ?_
       obtain ⟨x193,hx193,h⟩:=J h
       refine m5 B B B B hx193 B B (by decide)<|b7 B B<|b7 B B<|m3 B B B B B B<|F (kb<|kt<|kt<|kt<|kn) fun _=>?_
       refine E<|G<|a6 B ?_
       obtain ⟨x197,hx197,h⟩:=J h
       refine p7 B B B (by decide) B (ih_198 (search_finder.mk s3.p s3.g s3.is s3.partial_ s3.injective s3.most s3.nodes x193 s3.out) _ hx197) B<|F (kb<|kt<|kt<|kt<|kn) fun _=>?_
       refine G<|a6 B<|a6 B<|b7 B B<|b7 B B<|m2 B B B B B<|D B ?_
       obtain ⟨x204,hx204,h⟩:=J h
       refine p8 B B B hx204 B B (by decide)<|b7 B B<|b7 B B<|m3 B B B B B B<|F (kb<|kt<|kt<|kt<|kn) fun _=>?_
       refine G<|a7 B B<|D B<|F (kb<|kt<|kt<|kt<|kn) ?_
       cases h
       show Env.keep _ _=_
       rw [Kbx rfl (Ktv rfl (Ktv rfl (Ktv rfl (Knil _))))]
       rw [b6 (a5 (hw3 164)) hi3 (e1 (a5 (hw3 163)))]
       all_goals rfl
     ·intro i3 s3 hi3
      refine E<|G<|X B B<|F (kb<|kt<|kt<|kt<|kt<|kn) fun _=>?_
      refine E<|b9 B (d2 hi3)<|b4 (kb<|kn) ?_
      exact ⟨rfl,rfl⟩
     ·cases h
      exact rfl
    ·replace h:=R hc140 h
     refine e2 B<|a6 B<|a6 B<|b7 B B<|b7 B B<|q6 B B B B B<|a6 B<|b7 B B<|b7 B B<|l6 B B ?_
     obtain ⟨x17,hx17,h⟩:=J h
     refine q7 B (c138 f.nodes _ hx17) B B (fun _=>rfl)<|a6 B<|b7 B B<|b7 B B<|l6 B B ?_
     obtain ⟨x22,hx22,h⟩:=J h
     refine q7 B (c138 f.edges _ hx22) B B (fun _=>rfl)<|g2 B B B (B:_=eMorphism (Morphism.mk x17 x22))<|e9 (e:=eMorphism) (l:=[Morphism.mk x17 x22]) B B (fun _=>rfl) ?_
     obtain ⟨x25,hx25,h⟩:=J h
     refine l0 B B B B hx25 B<|b7 B B<|b7 B B<|p9 B B B (by decide) B B<|F (kb<|kn) ?_
     cases h
     exact rfl
 rintro _ rfl
 cases h
 exact ⟨rfl,rfl⟩
theorem c198A:∀ n:Nat,(∀ (f:search_finder) (r:search_finder) (_:__search_finder__findF n f=some r),Sound prog 198 [.undef] (.bo (bxsearch_finder f) (bxsearch_finder r) 0 [])):=by
  intro n
  induction n with
  | zero=>intro f r h; cases h
  | succ n ih=>exact c198S n ih
theorem c198 (f:search_finder) (r:search_finder) (h:__search_finder__find f=some r):Sound prog 198 [.undef] (.bo (bxsearch_finder f) (bxsearch_finder r) 0 []):=by
  obtain ⟨N,hN⟩:=lim_some h
  exact (c198A N) f r (hN N (Nat.le_refl _))
theorem ck133:CK f133 (Rq [Af 6 0,Af 7 1,Af 8 2,Af 9 3,Bc 12 2] [4,5,6,7,8,9]<|Sq (Dr [13,14,15,16,17,18,19,20,21] [Ae 14 7 2,Ae 15 8 2,Ae 16 6 2,Av 17 197 16,Ae 18 9 2,Aa 19 4,Aa 20 5,⟨some 21,.bld [.list 1 [],.list 3 [],.list 1 [],.list 3 [],.list 1 [],.list 1 [],.list 1 [],.bool false,.int .i64 0,.nil,.nil,.nil] [(0,2,.s 14),(2,2,.s 15),(4,1,.s 17),(5,2,.s 18),(7,1,.s 19),(8,1,.s 20)],none⟩,⟨some 22,.boxp [none,none,none,none,none,none,none,none,none,some ⟨true,.xl 1 []⟩,some ⟨true,.xl 1 []⟩,some ⟨true,.list 2 []⟩] (.s 21),none⟩,Ac 13 22 0] [13,22])<|Rq [Ah 23 13 0,Fg 24 198 23 0] [13,22]<|Rq [Ah 25 13 0,Ah 26 25 0,Ah 27 26 11,Ab 28 27,Bb 12 28] [12]<|.ret) [.tmp 12]:= by decide +kernel
theorem c133 (t:Types) (p:Graph) (g:Graph) (partial_:Morphism) (injective:Bool) (most:Int) (r:(List Morphism)) (h:search_found t p g partial_ injective most=some r):Sound prog 133 [eTypes t,eGraph p,eGraph g,eMorphism partial_,eB injective,eI most] (.sh ((eL 2 eMorphism) r)):= by
 refine Fn ck133 fun hw=>?_
 unfold search_found at h
 refine E<|G<|Y B B<|Y B B<|Y B B<|Y B B<|f2<|F km6 fun _=>?_
 refine E<|e2 B<|S B B (B:_=eGraph p)<|S B B (B:_=eGraph g)<|S B B (B:_=eTypes t) ?_
 obtain ⟨x17,hx17,h⟩:=J h
 refine W B (c197 t _ hx17)<|S B B (B:_=eMorphism partial_)<|D B<|D B<|e5 B B (B:_=TV.agg [lI p.Nodes,lE p.Edges,lI g.Nodes,lE g.Edges,(eL 1 (eL 1 eB)) x17,lI partial_.Nodes,lI partial_.Edges,eB injective,eI most,.nil,.nil,.nil])<|t6 B B B<|a6 B<|F (kp<|kb<|kn) fun _=>?_
 refine E<|G<|b7 B B ?_
 obtain ⟨x24,hx24,h⟩:=J h
 refine p7 B B B (by decide) B (c198 (search_finder.mk p g x17 partial_ injective most [] [] []) _ hx24) B<|F (kp<|kb<|kn) fun _=>?_
 refine E<|G<|b7 B B<|b7 B B<|b7 B B<|K B<|f9 B<|F km1 fun _=>?_
 exact L (by cases h;rfl)
theorem ck64:CK f64 (Rq [Af 5 0,Af 6 1,Af 7 2,Af 8 3,Bc 10 2,Ad 11 0] [4,5,6,7,8]<|Rq [Ae 13 5 2,Ae 14 6 2,Ae 15 7 2,Ae 16 8 2,Aa 17 4,⟨some 18,.call 133 [.s 13,.s 14,.s 15,.s 16,.s 17,.c (.int .i64 5001)],none⟩,Bb 12 18] [12]<|Sq (Rq [Aa 19 12,Ag 20 19,Bf 21 20 5000] [12,21]<|Co 21 (Rq [Bc 10 2,Ad 11 3] [10,11]<|.ret)<|Sk [12])<|Rq [Aa 22 12,Bb 10 22,Ad 11 0] [10,11]<|.ret) [.tmp 10,.tmp 11]:= by decide +kernel
theorem c64 (t:Types) (p:Graph) (g:Graph) (partial_:Morphism) (injective:Bool) (r:(List Morphism × Int)) (h:search_all t p g partial_ injective=some r):Sound prog 64 [eTypes t,eGraph p,eGraph g,eMorphism partial_,eB injective] (.tp [(eL 2 eMorphism) r.1,eI r.2]):= by
 refine Fn ck64 fun hw=>?_
 unfold search_all at h
 refine E<|G<|Y B B<|Y B B<|Y B B<|Y B B<|f2<|D B<|F km5 fun _=>?_
 refine E<|G<|S B B (B:_=eTypes t)<|S B B (B:_=eGraph p)<|S B B (B:_=eGraph g)<|S B B (B:_=eMorphism partial_)<|D B ?_
 obtain ⟨x18,hx18,h⟩:=J h
 refine W B (c133 t p g partial_ injective 5001 _ hx18)<|f9 B<|F km1 fun _=>?_
 refine E<|E<|G<|D B<|V B B<|e8 B B<|F km2 fun _=>?_
 refine U B (fun hc21=>?_) (fun hc21=>?_)
 ·replace h:=O hc21 h
  refine E<|G<|f2<|D B<|F (ko<|kt<|kn) fun _=>?_
  refine L ?_
  cases h
  exact ⟨by decide,rfl⟩
 ·replace h:=R hc21 h
  refine T km1 fun _=>?_
  refine E<|G<|D B<|f9 B<|D B<|F km2 fun _=>?_
  refine L ?_
  cases h
  exact ⟨by decide,rfl⟩
theorem ck29:CK f29 (Rq [Af 5 0,Af 6 1,Af 7 2,Af 8 3,Bc 10 2,Ad 11 0] [4,5,6,7,8]<|Sq (Rq [Ae 15 5 2,Ae 16 6 2,Ae 17 7 2,Bd 18 62 15 16 17,Aa 12 18] [4,5,6,7,8,12]<|Rq [Aa 19 12,Au 20 19 0] [4,5,6,7,8,12,20]<|Co 20 (Rq [Aa 21 12,Bc 10 2,Aa 11 21] [10,11]<|.ret)<|Sk [4,5,6,7,8])<|Sq (Rq [Ac 22 8 0,Ab 23 22,Ag 24 23,Ac 25 6 0,Ab 26 25,Ag 27 26,Bj 28 24 27,Aa 29 28,Ap 30 8 1 29,An 31 30 29,Be 32 31 29,Ap 33 6 1 29,An 34 33 29,Be 35 34 29,Ck 36 32 35 29,Ar 37 29 36] [4,5,6,7,8,37]<|Co 37 (Rq [Bc 10 2,Ad 11 20] [10,11]<|.ret)<|Sk [4,5,6,7,8])<|Sq (Rq [Ac 38 8 0,Ab 39 38,Ac 40 7 0,Ab 41 40,Ag 42 41,As 43 63 39 42,Aa 13 43] [4,5,6,7,8,13]<|Rq [Aa 44 13,Au 45 44 0] [4,5,6,7,8,13,45]<|Co 45 (Rq [Aa 46 13,Bc 10 2,Aa 11 46] [10,11]<|.ret)<|Sk [4,5,6,7,8])<|Sq (Rq [Ac 47 8 1,Ab 48 47,Ac 49 7 1,Ab 50 49,Ag 51 50,As 52 63 48 51,Aa 14 52] [4,5,6,7,8,14]<|Rq [Aa 53 14,Au 54 53 0] [4,5,6,7,8,14,54]<|Co 54 (Rq [Aa 55 14,Bc 10 2,Aa 11 55] [10,11]<|.ret)<|Sk [4,5,6,7,8])<|Rq [Ae 56 5 2,Ae 57 6 2,Ae 58 7 2,Ae 59 8 2,Aa 60 4,Fe 61 64 56 57 58 59 60,Ak 62 61 0,Ak 63 61 1,Bb 10 62,Aa 11 63] [10,11]<|.ret) [.tmp 10,.tmp 11]:= by decide +kernel
theorem c29 (t:Types) (p:Graph) (g:Graph) (partial_:Morphism) (injective:Bool) (r:(List Morphism × Int)) (h:search_Extend t p g partial_ injective=some r):Sound prog 29 [eTypes t,eGraph p,eGraph g,eMorphism partial_,eB injective] (.tp [(eL 2 eMorphism) r.1,eI r.2]):= by
 refine Fn ck29 fun hw=>?_
 unfold search_Extend at h
 refine E<|G<|Y B B<|Y B B<|Y B B<|Y B B<|f2<|D B<|F km5 fun _=>?_
 refine E<|E<|G<|S B B (B:_=eTypes t)<|S B B (B:_=eGraph p)<|S B B (B:_=eGraph g) ?_
 obtain ⟨x18,hx18,h⟩:=J h
 refine W B (c62 t p g _ hx18)<|D B<|F km6 fun _=>?_
 refine E<|G<|D B<|a8 B B<|F km7 fun _=>?_
 refine U B (fun hc20=>?_) (fun hc20=>?_)
 ·replace h:=O hc20 h
  refine E<|G<|D B<|f2<|D B<|F (ko<|kt<|kn) fun _=>?_
  refine L ?_
  cases h
  exact ⟨by decide,rfl⟩
 ·replace h:=R hc20 h
  refine T km5 fun _=>?_
  refine E<|E<|G<|M B<|K B<|V B B<|M B<|K B<|V B B<|a8 B B<|D B ?_
  refine gO 8 [30,31,32,33,34,35,36] 37 (!decide ((partial_.Nodes.length:Int)=(p.Nodes.length:Int))) (!decide ((partial_.Edges.length:Int)=(p.Edges.length:Int))) (fun hg37=>?_) (fun hg37=>?_) ?_
  ·refine I B hg37<|I B hg37<|I B hg37<|I B hg37<|I B hg37<|I B hg37<|I B hg37<|a2 B hg37 B ?_
   exact ⟨⟨_,_,_,_,_,_,_,B⟩⟩
  ·refine H B hg37<|M B<|H B hg37<|K B<|H B hg37<|V B B<|H B hg37<|M B<|H B hg37<|K B<|H B hg37<|V B B<|H B hg37<|a8 B B<|a3 B hg37 B ?_
   exact ⟨⟨_,_,_,_,_,_,_,B⟩⟩
  rintro _ ⟨_,_,_,_,_,_,_,rfl⟩
  refine F km6 fun _=>?_
  refine U B (fun hc37=>?_) (fun hc37=>?_)
  ·replace h:=O hc37 h
   refine E<|G<|f2<|D B<|F (ko<|kt<|kn) fun _=>?_
   refine L ?_
   cases h
   exact ⟨by decide,rfl⟩
  ·replace h:=R hc37 h
   refine T km5 fun _=>?_
   refine E<|E<|G<|M B<|K B<|M B<|K B<|V B B ?_
   obtain ⟨x43,hx43,h⟩:=J h
   refine W B (c63 partial_.Nodes (g.Nodes.length:Int) _ hx43)<|D B<|F km6 fun _=>?_
   refine E<|G<|D B<|a8 B B<|F km7 fun _=>?_
   refine U B (fun hc45=>?_) (fun hc45=>?_)
   ·replace h:=O hc45 h
    refine E<|G<|D B<|f2<|D B<|F (ko<|kt<|kn) fun _=>?_
    refine L ?_
    cases h
    exact ⟨by decide,rfl⟩
   ·replace h:=R hc45 h
    refine T km5 fun _=>?_
    refine E<|E<|G<|M B<|K B<|M B<|K B<|V B B ?_
    obtain ⟨x52,hx52,h⟩:=J h
    refine W B (c63 partial_.Edges (g.Edges.length:Int) _ hx52)<|D B<|F km6 fun _=>?_
    refine E<|G<|D B<|a8 B B<|F km7 fun _=>?_
    refine U B (fun hc54=>?_) (fun hc54=>?_)
    ·replace h:=O hc54 h
     refine E<|G<|D B<|f2<|D B<|F (ko<|kt<|kn) fun _=>?_
     refine L ?_
     cases h
     exact ⟨by decide,rfl⟩
    ·replace h:=R hc54 h
     refine T km5 fun _=>?_
     refine E<|G<|S B B (B:_=eTypes t)<|S B B (B:_=eGraph p)<|S B B (B:_=eGraph g)<|S B B (B:_=eMorphism partial_)<|D B ?_
     obtain ⟨x61,hx61,h⟩:=J h
     refine f1 B (c64 t p g partial_ injective _ hx61)<|b2 B B<|b2 B B<|f9 B<|D B<|F km2 fun _=>?_
     refine L ?_
     cases h
     exact ⟨by decide,rfl⟩
theorem c235 (l:List Int) (m:Int) (r:List Int) (h:slices_Repeat_int l m=some r):Sound prog 235 [lI l,eI m] (.own (lI r)):=by
  unfold slices_Repeat_int at h
  split at h
  · rename_i hl
    cases h
    obtain ⟨x,rfl⟩:=List.length_eq_one_iff.1 hl.1
    obtain ⟨k,rfl⟩:=Int.eq_ofNat_of_zero_le hl.2.1
    exact repeat_sound x k (by have:=hl.2.2; omega)
  · cases h
theorem ck181:CK f181 (Rq [Bc 6 1] [0,1,2]<|Rq [⟨some 10,.lst 1 [.c (.int .i64 (-1))],none⟩,Aa 11 0,Et 12 235 10 11,Bv 7 12] [1,2,7]<|Sq (Rq [Aa 13 1,Ag 14 13,Ad 15 0] [2,7,13,14,15]<|Bl 0<|Lo [2,7,13,14,15]<|Rq [Am 16 15 14] [2,7,13,14,15,16]<|Sq (Co 16 (Sk [2,7,13,14,15])<|Ex 0 [7])<|Sq (Bl 1<|Rq [Aa 17 15,Ai 18 13 15 1,Ab 19 18,Aa 8 17,Aa 9 19] [2,7,8,9,13,14,15]<|Re [Bo 20 7,Aa 21 9,Aa 22 2,Aa 23 8,Ai 24 22 23 1,Ab 25 24,Cg 26 20 21 1,Ea 26 25] [2,7,13,14,15])<|Re [Ao 27 15 1,Aa 15 27] [2,7,13,14,15])<|Rq [De 28 7,Bb 6 28] [6]<|.ret) [.tmp 6]:= by decide +kernel
theorem c181 (n:Int) (at':List Int) (images:List Int) (r:(List Int)) (h:condition_placed n at' images=some r):Sound prog 181 [eI n,lI at',lI images] (.own (lI r)):= by
 refine Fn ck181 fun hw=>?_
 unfold condition_placed at h
 refine E<|G<|f2<|F km3 fun _=>?_
 refine E<|G<|e9 (e:=eI) (l:=[(-1)]) B B (fun _=>rfl)<|D B ?_
 obtain ⟨x12,hx12,h⟩:=J h
 refine p4 B B (c235 [(-1)] n _ hx12) B (fun _=>rfl)<|g4 B B (by decide)<|F (kt<|kt<|kx<|kn) fun _=>?_
 refine E<|E<|G<|D B<|V B B<|D B<|F (kt<|kx<|kt<|kt<|kt<|kn) fun _=>?_
 obtain ⟨s0,hs0,h⟩:=J h
 refine g6 hs0 (fun (i0:Int) (s0:List Int)=>[(2,.tv (lI images)),(7,.xo 1 (List.map eI s0)),(13,.tv (lI at')),(14,.tv (eI (at'.length:Int))),(15,.tv (eI i0))]) (fun (s0:List Int)=>[(7,.xo 1 (List.map eI s0))]) B ?_ ?_ ?_
 ·clear h hs0
  intro i0 s0 r0 hi0 h hw0
  refine E<|G<|X B B<|F (kt<|kx<|kt<|kt<|kt<|kt<|kn) fun _=>?_
  refine E<|d0 B (d1 hi0)<|T (kt<|kx<|kt<|kt<|kt<|kn) fun _=>?_
  refine E<|a9<|E<|G<|D B ?_
  obtain ⟨x18,hx18,h⟩:=J h
  refine a4 B B B hx18 B<|K B<|D B<|D B<|F (kt<|kx<|kt<|kt<|kt<|kt<|kt<|kn) fun _=>?_
  refine G<|f6 B<|D B<|D B<|D B ?_
  obtain ⟨x24,hx24,h⟩:=J h
  refine a4 B B B hx24 B<|K B ?_
  obtain ⟨x26,hx26,h⟩:=J h
  refine g7 B B B hx26<|l2 (i:=0) (b:=x24) B B B B (fun _=>rfl) hx26 B B B B B B<|F (kt<|kx<|kt<|kt<|kt<|kn) fun _=>?_
  refine G<|a7 B B<|D B<|F (kt<|kx<|kt<|kt<|kt<|kn) ?_
  cases h
  show Env.keep _ _=_
  rw [Ktv rfl (Kxo rfl (Ktv rfl (Ktv rfl (Ktv rfl (Knil _)))))]
  rw [b6 (a5 (hw0 15)) hi0 (e1 (a5 (hw0 14)))]
  all_goals rfl
 ·intro i0 s0 hi0
  refine E<|G<|X B B<|F (kt<|kx<|kt<|kt<|kt<|kt<|kn) fun _=>?_
  refine E<|b9 B (d2 hi0)<|b4 (kx<|kn) ?_
  exact ⟨rfl,rfl⟩
 ·intro _
  refine E<|G<|l9 B (by decide)<|f8 B<|F (ko<|kn) fun _=>?_
  exact L (by cases h;rfl)
theorem ck236:CK f236 (Rq [Af 2 0,Ad 4 0,Ad 5 0] [1,2]<|Sq (Rq [Ac 6 2 0,Ab 7 6,Aa 8 1,Ag 9 8,Ch 10 9 1,⟨some 11,.call 85 [.s 7,.c (.int .i64 (-1)),.s 10],none⟩,Ba 12 11] [1,2,12]<|Co 12 (Rq [Ad 4 0,Ad 5 6] [4,5]<|.ret)<|Sk [1,2])<|Rq [Ae 13 2 2,Aa 14 1,As 15 232 13 14,Aa 4 15,Ad 5 0] [4,5]<|.ret) [.tmp 4,.tmp 5]:= by decide +kernel
theorem c236 (x_0:Term) (values:List Int) (r:(Int × Int)) (h:attribute_Term x_0 values=some r):Sound prog 236 [eTerm x_0,lI values] (.tp [eI r.1,eI r.2]):= by
 refine Fn ck236 fun hw=>?_
 unfold attribute_Term at h
 refine E<|G<|Y B B<|D B<|D B<|F km2 fun _=>?_
 refine E<|E<|G<|M B<|K B<|D B<|V B B<|f7 B B ?_
 obtain ⟨x11,hx11,h⟩:=J h
 refine W B (c85 x_0.Var (-1) (w64 ((values.length:Int) - 1)) _ hx11)<|d3 B<|F km3 fun _=>?_
 refine U B (fun hc12=>?_) (fun hc12=>?_)
 ·replace h:=O hc12 h
  refine E<|G<|D B<|D B<|F km2 fun _=>?_
  refine L ?_
  cases h
  exact ⟨by decide,rfl⟩
 ·replace h:=R hc12 h
  refine T km2 fun _=>?_
  refine E<|G<|S B B (B:_=eTerm x_0)<|D B ?_
  obtain ⟨x15,hx15,h⟩:=J h
  refine W B (c232 x_0 values _ hx15)<|D B<|D B<|F km2 fun _=>?_
  refine L ?_
  cases h
  exact ⟨by decide,rfl⟩
theorem ck182:CK f182 (Rq [Af 4 0,Af 5 1,Af 6 2,Bc 8 1,Aj 9] [3,4,5,6]<|Sq (Dr [10,21,22,23,24,25,26,27,28] [Aa 21 3,⟨some 22,.callx 138 [.s 21],none⟩,Ac 23 5 3,Ab 24 23,Aa 25 3,Ag 26 25,Di 27 24 26,⟨some 28,.appz 1 22 (.int .i64 0) (.s 27),none⟩,Bv 10 28] [3,4,5,6,10])<|Rq [Ac 29 5 3,Ab 30 29,Ed 31 1 30,Bv 11 31] [3,4,5,6,10,11]<|Sq (Rq [Aa 32 3,Ag 33 32,Ad 34 0] [4,5,6,10,11,33,34]<|Bl 0<|Lo [4,5,6,10,11,33,34]<|Rq [Am 35 34 33] [4,5,6,10,11,33,34,35]<|Sq (Co 35 (Sk [4,5,6,10,11,33,34])<|Ex 0 [4,5,6,10,11])<|Sq (Bl 1<|Rq [Aa 36 34,Aa 12 36] [4,5,6,10,11,12,33,34]<|Re [Bo 37 11,Aa 38 12,Cg 39 37 38 1,Dm 39] [4,5,6,10,11,33,34])<|Re [Ao 40 34 1,Aa 34 40] [4,5,6,10,11,33,34])<|Sq (Rq [Ac 41 5 2,Ab 42 41,Ag 43 42,Ad 44 0] [4,5,6,10,11,42,43,44]<|Bl 2<|Lo [4,5,6,10,11,42,43,44]<|Rq [Am 45 44 43] [4,5,6,10,11,42,43,44,45]<|Sq (Co 45 (Sk [4,5,6,10,11,42,43,44])<|Ex 2 [5,10])<|Sq (Bl 3<|Rq [Ai 46 42 44 4,Ae 47 46 4,Dl 14 0 0 0 0,Al 4 14 47] [4,5,6,10,11,14,42,43,44]<|Sq (Dr [15,48,49,50,51,52,53,54,55,56,57,58,59,60,61,62] [Ac 48 4 2,Ah 49 48 2,Ab 50 49,Ac 51 6 0,Ab 52 51,Ac 53 14 0,Ab 54 53,Ai 55 52 54 1,Ab 56 55,Ai 57 50 56 1,Ab 58 57,Ac 59 14 1,Ab 60 59,Ai 61 58 60 1,Ab 62 61,Aa 15 62] [4,5,6,10,11,14,15,42,43,44])<|Sq (Rq [Ac 63 14 2,Ah 64 63 0,Ab 65 64,Aa 16 65] [4,5,6,10,11,14,15,16,42,43,44]<|Rq [Aa 66 16,Bg 67 66 0,Aa 68 67,⟨some 69,.xal 11,some (68,true)⟩,At 70 16 68,⟨some 71,.xia (.s 69) (.s 70) 1,some (68,true)⟩,⟨some 72,.xld (.s 71),some (68,true)⟩,Dn 73 72 68,Aq 74 68 73] [4,5,6,10,11,14,15,16,42,43,44,74]<|Co 74 (Re [Bo 75 10,Aa 76 16,Bo 77 11,Aa 78 16,Aa 79 15,Ac 80 14 2,Ah 81 80 1,Ab 82 81,Di 83 79 82,Cg 84 75 76 1,Ea 84 83,Cg 85 77 78 1,Dm 85] [4,5,6,10,11,14,15,42,43,44])<|Sk [4,5,6,10,11,14,15,42,43,44])<|Rq [Ac 87 14 2,Ae 88 87 2,Bo 89 10,Eg 90 236 88 89,Aa 86 90,Ak 91 86 0,Ak 92 86 1,Aa 17 91,Aa 18 92] [4,5,6,10,11,15,17,18,42,43,44]<|Rq [Aa 93 18,Au 94 93 0,Aa 95 94,Aw 96 17 95,Aw 97 15 95,Ck 98 96 97 95,Ar 99 95 98] [4,5,6,10,11,42,43,44,99]<|Co 99 (Rq [Bc 8 1,Aj 9] [8,9]<|.ret)<|Sk [4,5,6,10,11,42,43,44])<|Re [Ao 100 44 1,Aa 44 100] [4,5,6,10,11,42,43,44])<|Sq (Rq [Ac 101 5 4,Ab 102 101,Ag 103 102,Ad 104 0] [10,102,103,104]<|Bl 4<|Lo [10,102,103,104]<|Rq [Am 105 104 103] [10,102,103,104,105]<|Sq (Co 105 (Sk [10,102,103,104])<|Ex 4 [10])<|Sq (Bl 5<|Rq [Ai 106 102 104 5,Ae 107 106 5,Ez 20 0 0 0 0 0,Al 5 20 107] [10,20,102,103,104]<|Rq [Ae 108 20 5,Bo 109 10,Eg 110 233 108 109,Ba 111 110] [10,102,103,104,111]<|Co 111 (Rq [Bc 8 1,Aj 9] [8,9]<|.ret)<|Sk [10,102,103,104])<|Re [Ao 112 104 1,Aa 104 112] [10,102,103,104])<|Rq [De 113 10,Bb 8 113,Bu 9] [8,9]<|.ret) [.tmp 8,.tmp 9]:= by decide +kernel
theorem c182 (s_0:condition_scene) (q:Pattern) (m:Morphism) (given:List Int) (r:(List Int × Bool)) (h:_condition_scene__values s_0 q m given=some r):Sound prog 182 [econdition_scene s_0,ePattern q,eMorphism m,lI given] (.tp [lI r.1,eB r.2]):= by
 refine Fn ck182 fun hw=>?_
 unfold _condition_scene__values at h
 refine E<|G<|Y B B<|Y B B<|Y B B<|f2<|D B<|F km4 fun _=>?_
 refine E<|e2 B<|D B ?_
 obtain ⟨x22,hx22,h⟩:=J h
 refine p4 B B (c138 given _ hx22) B (fun _=>rfl)<|M B<|K B<|D B<|V B B<|f7 B B ?_
 obtain ⟨x28,hx28,h⟩:=J h
 refine t7 (e:=eI) (z:=0) B B B B hx28 B B (by decide) B B<|g4 B B (by decide)<|F (kt<|kt<|kt<|kt<|kx<|kn) fun _=>?_
 refine E<|G<|M B<|K B ?_
 obtain ⟨x31,hx31,h⟩:=J h
 refine m1 (z:=false) B B B hx31 B<|g4 B B (by decide)<|F (kt<|kt<|kt<|kt<|kx<|kx<|kn) fun _=>?_
 refine E<|E<|G<|D B<|V B B<|D B<|F (kt<|kt<|kt<|kx<|kx<|kt<|kt<|kn) fun _=>?_
 obtain ⟨s0,hs0,h⟩:=J h
 refine g6 hs0 (fun (i0:Int) (s0:List Bool)=>[(4,.tv (.pt (econdition_scene s_0).cells)),(5,.tv (.pt (ePattern q).cells)),(6,.tv (.pt (eMorphism m).cells)),(10,.xo 1 (List.map eI x28)),(11,.xo 1 (List.map eB s0)),(33,.tv (eI (given.length:Int))),(34,.tv (eI i0))]) (fun (s0:List Bool)=>[(4,.tv (.pt (econdition_scene s_0).cells)),(5,.tv (.pt (ePattern q).cells)),(6,.tv (.pt (eMorphism m).cells)),(10,.xo 1 (List.map eI x28)),(11,.xo 1 (List.map eB s0))]) B ?_ ?_ ?_
 ·clear h hs0
  intro i0 s0 r0 hi0 h hw0
  refine E<|G<|X B B<|F (kt<|kt<|kt<|kx<|kx<|kt<|kt<|kt<|kn) fun _=>?_
  refine E<|d0 B (d1 hi0)<|T (kt<|kt<|kt<|kx<|kx<|kt<|kt<|kn) fun _=>?_
  refine E<|a9<|E<|G<|D B<|D B<|F (kt<|kt<|kt<|kx<|kx<|kt<|kt<|kt<|kn) fun _=>?_
  refine G<|f6 B<|D B ?_
  obtain ⟨x39,hx39,h⟩:=J h
  refine g7 B B B hx39<|l2 (i:=0) (b:=true) B B B B (fun _=>rfl) hx39 B B B B B B<|F (kt<|kt<|kt<|kx<|kx<|kt<|kt<|kn) fun _=>?_
  refine G<|a7 B B<|D B<|F (kt<|kt<|kt<|kx<|kx<|kt<|kt<|kn) ?_
  cases h
  show Env.keep _ _=_
  rw [Ktv rfl (Ktv rfl (Ktv rfl (Kxo rfl (Kxo rfl (Ktv rfl (Ktv rfl (Knil _)))))))]
  rw [b6 (a5 (hw0 34)) hi0 (e1 (a5 (hw0 33)))]
  all_goals rfl
 ·intro i0 s0 hi0
  refine E<|G<|X B B<|F (kt<|kt<|kt<|kx<|kx<|kt<|kt<|kt<|kn) fun _=>?_
  refine E<|b9 B (d2 hi0)<|b4 (kt<|kt<|kt<|kx<|kx<|kn) ?_
  exact ⟨rfl,rfl⟩
 ·intro _
  refine E<|E<|G<|M B<|K B<|V B B<|D B<|F (kt<|kt<|kt<|kx<|kx<|kt<|kt<|kt<|kn) fun _=>?_
  obtain ⟨o2,ho2,h⟩:=d4 h
  refine e0 ho2 (fun (i2:Int) (s2:List Int × List Bool)=>[(4,.tv (.pt (econdition_scene s_0).cells)),(5,.tv (.pt (ePattern q).cells)),(6,.tv (.pt (eMorphism m).cells)),(10,.xo 1 (List.map eI s2.1)),(11,.xo 1 (List.map eB s2.2)),(42,.tv (lS q.Slots)),(43,.tv (eI (q.Slots.length:Int))),(44,.tv (eI i2))]) (fun (s2:List Int × List Bool)=>[(5,.tv (.pt (ePattern q).cells)),(10,.xo 1 (List.map eI s2.1))]) (fun zv ze=>resIs ([.tmp 8,.tmp 9]) (.tp [lI zv.1,eB zv.2]) ze) B ?_ ?_ ?_ ?_
  ·clear h ho2
   intro i2 s2 r2 hi2 h hw2
   refine E<|G<|X B B<|F (kt<|kt<|kt<|kx<|kx<|kt<|kt<|kt<|kt<|kn) fun _=>?_
   refine E<|d0 B (d1 hi2)<|T (kt<|kt<|kt<|kx<|kx<|kt<|kt<|kt<|kn) fun _=>?_
   refine E<|a9<|E<|G ?_
   obtain ⟨x46,hx46,h⟩:=J h
   refine a4 B B B hx46 B<|S B B (B:_=eSlot x46)<|d8 B<|b3 B B B B B<|F (kt<|kt<|kt<|kx<|kx<|kb<|kt<|kt<|kt<|kn) fun _=>?_
   refine E<|e2 B<|M B<|b8 B<|K B<|M B<|K B<|a6 B<|K B ?_
   obtain ⟨x55,hx55,h⟩:=J h
   refine a4 B B B hx55 B<|K B ?_
   obtain ⟨x57,hx57,h⟩:=J h
   refine a4 B B B hx57 B<|K B<|a6 B<|K B ?_
   obtain ⟨x61,hx61,h⟩:=J h
   refine a4 B B B hx61 B<|K B<|D B<|F (kt<|kt<|kt<|kx<|kx<|kb<|kt<|kt<|kt<|kt<|kn) fun _=>?_
   refine E<|E<|G<|a6 B<|b7 B B<|K B<|D B<|F (kt<|kt<|kt<|kx<|kx<|kb<|kt<|kt<|kt<|kt<|kt<|kn) fun _=>?_
   refine E<|G<|D B<|d9 B B<|D B ?_
   obtain ⟨x74,hx74,h⟩:=J h
   refine gX 6 [69,70,71,72,73] 74 x74 (decide (0<=x46.Term.Var)) (fun hg74=>?_) (fun hg74=>?_) ?_
   ·replace h:=O hg74 hx74
    refine H B hg74<|f6 B<|H B hg74<|D B ?_
    obtain ⟨x71,hx71,h⟩:=J h
    refine H B hg74<|g7 B B B hx71<|H B hg74<|p2 (i:=0) B B B (fun _=>rfl) hx71 B B B B<|H B hg74<|d3 B ?_
    cases h
    refine a2 B hg74 B ?_
    exact ⟨⟨_,_,_,_,_,B⟩⟩
   ·replace h:=R hg74 hx74
    cases h
    refine I B hg74<|I B hg74<|I B hg74<|I B hg74<|I B hg74<|a3 B hg74 B ?_
    exact ⟨⟨_,_,_,_,_,B⟩⟩
   rintro _ ⟨_,_,_,_,_,rfl⟩
   refine F (kt<|kt<|kt<|kx<|kx<|kb<|kt<|kt<|kt<|kt<|kt<|kt<|kn) fun _=>?_
   refine U B (fun hc74=>?_) (fun hc74=>?_)
   ·replace h:=O hc74 h
    refine G<|f6 B<|D B<|f6 B<|D B<|D B<|a6 B<|b7 B B<|K B<|f7 B B ?_
    obtain ⟨x84,hx84,h⟩:=J h
    refine g7 B B B hx84<|l2 (i:=0) (b:=(w64 (x61 - x46.Term.Add))) B B B B (fun _=>rfl) hx84 B B B B B B ?_
    obtain ⟨x85,hx85,h⟩:=J h
    refine g7 B B B hx85<|l2 (i:=0) (b:=true) B B B B (fun _=>rfl) hx85 B B B B B B<|F (kt<|kt<|kt<|kx<|kx<|kb<|kt<|kt<|kt<|kt<|kn) fun _=>?_
    refine E<|G<|a6 B<|S B B (B:_=eTerm x46.Term)<|f6 B ?_
    obtain ⟨x90,hx90,h⟩:=J h
    refine q8 B (c236 x46.Term (setE s2.1 x46.Term.Var (w64 (x61 - x46.Term.Add))) _ hx90) B<|f0 B<|b2 B B<|b2 B B<|D B<|D B<|F (kt<|kt<|kt<|kx<|kx<|kt<|kt<|kt<|kt<|kt<|kt<|kn) fun _=>?_
    refine E<|G<|D B<|a8 B B<|D B ?_
    refine gO 4 [96,97,98] 99 (!decide (x90.2=0)) (!decide (x90.1=x61)) (fun hg99=>?_) (fun hg99=>?_) ?_
    ·refine I B hg99<|I B hg99<|I B hg99<|a2 B hg99 B ?_
     exact ⟨⟨_,_,_,B⟩⟩
    ·refine H B hg99<|D B<|H B hg99<|D B<|H B hg99<|a8 B B<|a3 B hg99 B ?_
     exact ⟨⟨_,_,_,B⟩⟩
    rintro _ ⟨_,_,_,rfl⟩
    refine F (kt<|kt<|kt<|kx<|kx<|kt<|kt<|kt<|kt<|kn) fun _=>?_
    refine U B (fun hc99=>?_) (fun hc99=>?_)
    ·replace h:=O hc99 h
     refine E<|G<|f2<|D B<|F (ko<|kt<|kn) fun _=>?_
     refine L ?_
     cases h
     exact ⟨_,rfl,⟨by decide,rfl⟩⟩
    ·replace h:=R hc99 h
     refine T (kt<|kt<|kt<|kx<|kx<|kt<|kt<|kt<|kn) fun _=>?_
     refine G<|a7 B B<|D B<|F (kt<|kt<|kt<|kx<|kx<|kt<|kt<|kt<|kn) ?_
     cases h
     refine ⟨_,B,?_⟩
     rw [Ktv rfl (Ktv rfl (Ktv rfl (Kxo rfl (Kxo rfl (Ktv rfl (Ktv rfl (Ktv rfl (Knil _))))))))]
     rw [b6 (a5 (hw2 44)) hi2 (e1 (a5 (hw2 43)))]
     all_goals rfl
   ·replace h:=R hc74 h
    refine T (kt<|kt<|kt<|kx<|kx<|kb<|kt<|kt<|kt<|kt<|kn) fun _=>?_
    refine E<|G<|a6 B<|S B B (B:_=eTerm x46.Term)<|f6 B ?_
    obtain ⟨x90,hx90,h⟩:=J h
    refine q8 B (c236 x46.Term s2.1 _ hx90) B<|f0 B<|b2 B B<|b2 B B<|D B<|D B<|F (kt<|kt<|kt<|kx<|kx<|kt<|kt<|kt<|kt<|kt<|kt<|kn) fun _=>?_
    refine E<|G<|D B<|a8 B B<|D B ?_
    refine gO 4 [96,97,98] 99 (!decide (x90.2=0)) (!decide (x90.1=x61)) (fun hg99=>?_) (fun hg99=>?_) ?_
    ·refine I B hg99<|I B hg99<|I B hg99<|a2 B hg99 B ?_
     exact ⟨⟨_,_,_,B⟩⟩
    ·refine H B hg99<|D B<|H B hg99<|D B<|H B hg99<|a8 B B<|a3 B hg99 B ?_
     exact ⟨⟨_,_,_,B⟩⟩
    rintro _ ⟨_,_,_,rfl⟩
    refine F (kt<|kt<|kt<|kx<|kx<|kt<|kt<|kt<|kt<|kn) fun _=>?_
    refine U B (fun hc99=>?_) (fun hc99=>?_)
    ·replace h:=O hc99 h
     refine E<|G<|f2<|D B<|F (ko<|kt<|kn) fun _=>?_
     refine L ?_
     cases h
     exact ⟨_,rfl,⟨by decide,rfl⟩⟩
    ·replace h:=R hc99 h
     refine T (kt<|kt<|kt<|kx<|kx<|kt<|kt<|kt<|kn) fun _=>?_
     refine G<|a7 B B<|D B<|F (kt<|kt<|kt<|kx<|kx<|kt<|kt<|kt<|kn) ?_
     cases h
     refine ⟨_,B,?_⟩
     rw [Ktv rfl (Ktv rfl (Ktv rfl (Kxo rfl (Kxo rfl (Ktv rfl (Ktv rfl (Ktv rfl (Knil _))))))))]
     rw [b6 (a5 (hw2 44)) hi2 (e1 (a5 (hw2 43)))]
     all_goals rfl
  ·intro i2 s2 hi2
   refine E<|G<|X B B<|F (kt<|kt<|kt<|kx<|kx<|kt<|kt<|kt<|kt<|kn) fun _=>?_
   refine E<|b9 B (d2 hi2)<|b4 (kt<|kx<|kn) ?_
   exact ⟨rfl,rfl⟩
  ·intro s2 hs
   replace h:=d5 h hs
   intro _
   refine E<|E<|G<|M B<|K B<|V B B<|D B<|F (kx<|kt<|kt<|kt<|kn) fun _=>?_
   obtain ⟨o4,ho4,h⟩:=d4 h
   refine e0 ho4 (fun (i4:Int) (_:Unit)=>[(10,.xo 1 (List.map eI s2.1)),(102,.tv (lT q.Tests)),(103,.tv (eI (q.Tests.length:Int))),(104,.tv (eI i4))]) (fun (_:Unit)=>[(10,.xo 1 (List.map eI s2.1))]) (fun zv ze=>resIs ([.tmp 8,.tmp 9]) (.tp [lI zv.1,eB zv.2]) ze) B ?_ ?_ ?_ ?_
   ·clear h ho4
    intro i4 s4 r4 hi4 h hw4
    refine E<|G<|X B B<|F (kx<|kt<|kt<|kt<|kt<|kn) fun _=>?_
    refine E<|d0 B (d1 hi4)<|T (kx<|kt<|kt<|kt<|kn) fun _=>?_
    refine E<|a9<|E<|G ?_
    obtain ⟨x106,hx106,h⟩:=J h
    refine a4 B B B hx106 B<|S B B (B:_=eTest x106)<|d8 B<|b3 B B B B B<|F (kx<|kb<|kt<|kt<|kt<|kn) fun _=>?_
    refine E<|G<|S B B (B:_=eTest x106)<|f6 B ?_
    obtain ⟨x110,hx110,h⟩:=J h
    refine l3 B (c233 x106 s2.1 _ hx110) B<|d3 B<|F (kx<|kt<|kt<|kt<|kt<|kn) fun _=>?_
    refine U B (fun hc111=>?_) (fun hc111=>?_)
    ·replace h:=O hc111 h
     refine E<|G<|f2<|D B<|F (ko<|kt<|kn) fun _=>?_
     refine L ?_
     cases h
     exact ⟨_,rfl,⟨by decide,rfl⟩⟩
    ·replace h:=R hc111 h
     refine T (kx<|kt<|kt<|kt<|kn) fun _=>?_
     refine G<|a7 B B<|D B<|F (kx<|kt<|kt<|kt<|kn) ?_
     cases h
     refine ⟨_,B,?_⟩
     rw [Kxo rfl (Ktv rfl (Ktv rfl (Ktv rfl (Knil _))))]
     rw [b6 (a5 (hw4 104)) hi4 (e1 (a5 (hw4 103)))]
     all_goals rfl
   ·intro i4 s4 hi4
    refine E<|G<|X B B<|F (kx<|kt<|kt<|kt<|kt<|kn) fun _=>?_
    refine E<|b9 B (d2 hi4)<|b4 (kx<|kn) ?_
    exact ⟨rfl,rfl⟩
   ·intro s4 hs
    replace h:=d5 h hs
    intro _
    refine E<|G<|l9 B (by decide)<|f8 B<|D B<|F (ko<|kt<|kn) fun _=>?_
    refine L ?_
    cases h
    exact ⟨by decide,rfl⟩
   ·intro v4 ze hv hR
    replace h:=d6 h hv
    cases h
    exact hR
  ·intro v2 ze hv hR
   replace h:=d6 h hv
   cases h
   exact hR
theorem ck115:CK f115 (Rq [Af 3 0,Af 4 1,Af 5 2,Bc 6 3,Ad 7 0] [3,4,5]<|Rq [Ac 17 4 4,Ah 18 17 0,Ae 19 18 2,Cs 8 1 3,Al 2 8 19] [3,4,5,8]<|Sq (Dr [9,20,21,22,23,24,25,26,27,28,29,30,31,32,33,34,35,36,37,38,39,40] [Ac 20 8 0,Ab 21 20,Ag 22 21,Ac 23 4 2,Ah 24 23 0,Ab 25 24,Ac 26 5 0,Ah 27 26 0,Ab 28 27,Bd 29 181 22 25 28,Ac 30 8 1,Ab 31 30,Ag 32 31,Ac 33 4 2,Ah 34 33 1,Ab 35 34,Ac 36 5 0,Ah 37 36 1,Ab 38 37,Bd 39 181 32 35 38,Ct 40 1 1 0 1 29 1 1 39,Cs 9 1 1,Al 2 9 40] [3,4,5,8,9])<|Rq [Ac 42 3 0,Ae 43 42 2,Ae 44 8 2,Ac 45 3 2,Ah 46 45 0,Ae 47 46 2,Ae 48 9 2,Ac 49 3 5,Ab 50 49,Fe 51 29 43 44 47 48 50,Aa 41 51,Ak 52 41 0,Ak 53 41 1,Bb 10 52,Aa 11 53] [3,4,5,10,11]<|Sq (Rq [Aa 54 11,Au 55 54 0] [3,4,5,10,11,55]<|Co 55 (Rq [Aa 56 11,Bc 6 3,Aa 7 56] [6,7]<|.ret)<|Sk [3,4,5,10])<|Rq [Bc 12 3] [3,4,5,10,12]<|Sq (Rq [Aa 57 10,Ag 58 57,Ad 59 0] [3,4,5,12,57,58,59]<|Bl 0<|Lo [3,4,5,12,57,58,59]<|Rq [Am 60 59 58] [3,4,5,12,57,58,59,60]<|Sq (Co 60 (Sk [3,4,5,12,57,58,59])<|Ex 0 [12])<|Sq (Bl 1<|Rq [Ai 61 57 59 2,Ae 62 61 2,Cs 14 1 1,Al 2 14 62] [3,4,5,12,14,57,58,59]<|Rq [Ae 64 3 6,Ac 65 4 4,Ae 66 65 5,Ae 67 14 2,Ac 68 5 2,Ab 69 68,Da 70 182 64 66 67 69,Aa 63 70,Ak 71 63 0,Ak 72 63 1,Bb 15 71,Aa 16 72] [3,4,5,12,14,15,16,57,58,59]<|Rq [Aa 73 16] [3,4,5,12,14,15,57,58,59,73]<|Co 73 (Re [Bb 74 12,Ae 75 14 2,Aa 76 15,Ej 77 1 1 1 0 2 75 2 1 76,Bn 78 3 77,Cc 79 3 74 78,Bb 12 79] [3,4,5,12,57,58,59])<|Sk [3,4,5,12,57,58,59])<|Re [Ao 80 59 1,Aa 59 80] [3,4,5,12,57,58,59])<|Rq [Aa 81 12,Bb 6 81,Ad 7 0] [6,7]<|.ret) [.tmp 6,.tmp 7]:= by decide +kernel
theorem c115 (s_0:condition_scene) (c:Condition) (m:GMatch) (r:(List GMatch × Int)) (h:_condition_scene__extensions s_0 c m=some r):Sound prog 115 [econdition_scene s_0,eCondition c,eGMatch m] (.tp [(eL 3 eGMatch) r.1,eI r.2]):= by
 refine Fn ck115 fun hw=>?_
 unfold _condition_scene__extensions at h
 refine E<|G<|Y B B<|Y B B<|Y B B<|f2<|D B<|F km3 fun _=>?_
 refine E<|G<|M B<|b8 B<|S B B (B:_=eGraph c.Pattern.Graph)<|d8 B<|b3 B B B B B<|F (kt<|kt<|kt<|kb<|kn) fun _=>?_
 refine E<|e2 B<|a6 B<|K B<|V B B<|M B<|b8 B<|K B<|M B<|b8 B<|K B ?_
 obtain ⟨x29,hx29,h⟩:=J h
 refine l7 B (c181 (c.Pattern.Graph.Nodes.length:Int) c.Map.Nodes m.Morphism.Nodes _ hx29)<|a6 B<|K B<|V B B<|M B<|b8 B<|K B<|M B<|b8 B<|K B ?_
 obtain ⟨x39,hx39,h⟩:=J h
 refine l7 B (c181 (c.Pattern.Graph.Edges.length:Int) c.Map.Edges m.Morphism.Edges _ hx39)<|g2 B B B (B:_=eMorphism (Morphism.mk x29 x39))<|d8 B<|b3 B B B B B<|F (kt<|kt<|kt<|kb<|kb<|kn) fun _=>?_
 refine E<|G<|M B<|S B B (B:_=eTypes s_0.t)<|S B B (B:_=eGraph c.Pattern.Graph)<|M B<|b8 B<|S B B (B:_=eGraph s_0.h.Graph)<|S B B (B:_=eMorphism (Morphism.mk x29 x39))<|M B<|K B ?_
 obtain ⟨x51,hx51,h⟩:=J h
 refine f1 B (c29 s_0.t c.Pattern.Graph s_0.h.Graph (Morphism.mk x29 x39) s_0.injective _ hx51)<|f0 B<|b2 B B<|b2 B B<|f9 B<|D B<|F km5 fun _=>?_
 refine E<|E<|G<|D B<|a8 B B<|F km6 fun _=>?_
 refine U B (fun hc55=>?_) (fun hc55=>?_)
 ·replace h:=O hc55 h
  refine E<|G<|D B<|f2<|D B<|F (ko<|kt<|kn) fun _=>?_
  refine L ?_
  cases h
  exact ⟨by decide,rfl⟩
 ·replace h:=R hc55 h
  refine T km4 fun _=>?_
  refine E<|G<|f2<|F (kt<|kt<|kt<|kt<|ko<|kn) fun _=>?_
  refine E<|E<|G<|D B<|V B B<|D B<|F (kt<|kt<|kt<|ko<|kt<|kt<|kt<|kn) fun _=>?_
  obtain ⟨s0,hs0,h⟩:=J h
  refine g6 hs0 (fun (i0:Int) (s0:List GMatch)=>[(3,.tv (.pt (econdition_scene s_0).cells)),(4,.tv (.pt (eCondition c).cells)),(5,.tv (.pt (eGMatch m).cells)),(12,.ow ((eL 3 eGMatch) s0)),(57,.tv ((eL 2 eMorphism) x51.1)),(58,.tv (eI (x51.1.length:Int))),(59,.tv (eI i0))]) (fun (s0:List GMatch)=>[(12,.ow ((eL 3 eGMatch) s0))]) B ?_ ?_ ?_
  ·clear h hs0
   intro i0 s0 r0 hi0 h hw0
   refine E<|G<|X B B<|F (kt<|kt<|kt<|ko<|kt<|kt<|kt<|kt<|kn) fun _=>?_
   refine E<|d0 B (d1 hi0)<|T (kt<|kt<|kt<|ko<|kt<|kt<|kt<|kn) fun _=>?_
   refine E<|a9<|E<|G ?_
   obtain ⟨x61,hx61,h⟩:=J h
   refine a4 B B B hx61 B<|S B B (B:_=eMorphism x61)<|d8 B<|b3 B B B B B<|F (kt<|kt<|kt<|ko<|kb<|kt<|kt<|kt<|kn) fun _=>?_
   refine E<|G<|S B B (B:_=econdition_scene s_0)<|M B<|S B B (B:_=ePattern c.Pattern)<|S B B (B:_=eMorphism x61)<|M B<|K B ?_
   obtain ⟨x70,hx70,h⟩:=J h
   refine f1 B (c182 s_0 c.Pattern x61 m.Vars _ hx70)<|f0 B<|b2 B B<|b2 B B<|f9 B<|D B<|F (kt<|kt<|kt<|ko<|kb<|kt<|kt<|kt<|kt<|kt<|kn) fun _=>?_
   refine E<|G<|D B<|F (kt<|kt<|kt<|ko<|kb<|kt<|kt<|kt<|kt<|kt<|kn) fun _=>?_
   refine U B (fun hc73=>?_) (fun hc73=>?_)
   ·replace h:=O hc73 h
    refine G<|f8 B<|S B B (B:_=eMorphism x61)<|D B<|g2 B B B (B:_=eGMatch (GMatch.mk x61 x70.1))<|e9 (e:=eGMatch) (l:=[GMatch.mk x61 x70.1]) B B (fun _=>rfl) ?_
    obtain ⟨x79,hx79,h⟩:=J h
    refine l0 B B B B hx79 B<|f8 B<|F (kt<|kt<|kt<|ko<|kt<|kt<|kt<|kn) fun _=>?_
    refine G<|a7 B B<|D B<|F (kt<|kt<|kt<|ko<|kt<|kt<|kt<|kn) ?_
    cases h
    show Env.keep _ _=_
    rw [Ktv rfl (Ktv rfl (Ktv rfl (Kow rfl (Ktv rfl (Ktv rfl (Ktv rfl (Knil _)))))))]
    rw [b6 (a5 (hw0 59)) hi0 (e1 (a5 (hw0 58)))]
    all_goals rfl
   ·replace h:=R hc73 h
    refine T (kt<|kt<|kt<|ko<|kt<|kt<|kt<|kn) fun _=>?_
    refine G<|a7 B B<|D B<|F (kt<|kt<|kt<|ko<|kt<|kt<|kt<|kn) ?_
    cases h
    show Env.keep _ _=_
    rw [Ktv rfl (Ktv rfl (Ktv rfl (Kow rfl (Ktv rfl (Ktv rfl (Ktv rfl (Knil _)))))))]
    rw [b6 (a5 (hw0 59)) hi0 (e1 (a5 (hw0 58)))]
    all_goals rfl
  ·intro i0 s0 hi0
   refine E<|G<|X B B<|F (kt<|kt<|kt<|ko<|kt<|kt<|kt<|kt<|kn) fun _=>?_
   refine E<|b9 B (d2 hi0)<|b4 (ko<|kn) ?_
   exact ⟨rfl,rfl⟩
  ·intro _
   refine E<|G<|D B<|f9 B<|D B<|F km2 fun _=>?_
   refine L ?_
   cases h
   exact ⟨by decide,rfl⟩
theorem ck48:CK f48 (Rq [Af 3 0,Af 4 1,Af 5 2,Cd 6 0 1 1 1 5,Ad 7 0] [3,4,5,6]<|Sq (Rq [Ac 19 4 0,Ab 20 19] [3,4,5,6,20]<|Bl 0<|Rq [Az 22 20 2,Aa 21 22] [3,4,5,6,20,21]<|Co 21 (Sq (Dr [8,9,23,24,25,26,27,28,29,30,31,32] [Ae 24 3 6,Ac 25 4 1,Ab 26 25,Do 27 26 0 9,Ae 28 27 9,Ae 29 5 3,Bd 30 48 24 28 29,Aa 23 30,Ak 31 23 0,Ak 32 23 1,Cd 8 0 1 1 1 5,Al 5 8 31,Aa 9 32] [6,9])<|Sq (Rq [Aa 33 9] [6,9,33]<|Bl 1<|Rq [Az 35 33 0,Aa 34 35] [6,9,33,34]<|Co 34 (Rq [Ce 36 0 1 1 1 5,Al 5 6 36,Ad 7 10] [6,7]<|.ret)<|Rq [Az 38 33 10,Aa 37 38] [6,9,37]<|Co 37 (Rq [Ce 39 0 1 1 1 5,Al 5 6 39,Ad 7 0] [6,7]<|.ret)<|Sk [6,9])<|Rq [Ce 40 0 1 1 1 5,Aa 41 9,Al 5 6 40,Aa 7 41] [6,7]<|.ret)<|Rq [Az 43 20 3,Aa 42 43] [3,4,5,6,20,42]<|Co 42 (Rq [Cd 10 0 1 1 1 5] [3,4,5,6,10]<|Sq (Rq [Ac 44 4 1,Ab 45 44,Ag 46 45,Ad 47 0] [3,5,6,10,45,46,47]<|Bl 2<|Lo [3,5,6,10,45,46,47]<|Rq [Am 48 47 46] [3,5,6,10,45,46,47,48]<|Sq (Co 48 (Sk [3,5,6,10,45,46,47])<|Ex 2 [6,10])<|Sq (Bl 3<|Rq [Ai 49 45 47 9,Ae 50 49 9,Df 12 0 9 1 1 1 3 4 0 5,Al 9 12 50] [3,5,6,10,12,45,46,47]<|Rq [Ae 52 3 6,Ae 53 12 9,Ae 54 5 3,Bd 55 48 52 53 54,Aa 51 55,Ak 56 51 0,Ak 57 51 1,Cd 13 0 1 1 1 5,Al 5 13 56,Aa 14 57] [3,5,6,10,13,14,45,46,47]<|Sq (Rq [Aa 58 14,Au 59 58 0] [3,5,6,10,13,14,45,46,47,59]<|Co 59 (Rq [Ce 60 0 1 1 1 5,Aa 61 14,Al 5 6 60,Aa 7 61] [6,7]<|.ret)<|Sk [3,5,6,10,13,45,46,47])<|Re [Ac 62 10 4,⟨some 63,.ldt (.s 62),none⟩,Ae 64 13 5,Bn 65 5 64,Cc 66 5 63 65,Ac 67 10 4,Fh 1 67 66] [3,5,6,10,45,46,47])<|Re [Ao 68 47 1,Aa 47 68] [3,5,6,10,45,46,47])<|Rq [Ae 69 10 5,Al 5 6 69,Ad 7 0] [6,7]<|.ret)<|Rq [Az 71 20 4,Aa 70 71] [3,4,5,6,20,70]<|Co 70 (Sq (Rq [Ac 72 4 1,Ab 73 72,Ag 74 73,Ad 75 0] [3,5,6,73,74,75]<|Bl 4<|Lo [3,5,6,73,74,75]<|Rq [Am 76 75 74] [3,5,6,73,74,75,76]<|Sq (Co 76 (Sk [3,5,6,73,74,75])<|Ex 4 [6])<|Sq (Bl 5<|Rq [Aa 77 75,Ai 78 73 75 9,Ae 79 78 9,Df 16 0 9 1 1 1 3 4 0 5,Aa 15 77,Al 9 16 79] [3,5,6,15,16,73,74,75]<|Rq [Ae 81 3 6,Ae 82 16 9,Ae 83 5 3,Bd 84 48 81 82 83,Aa 80 84,Ak 85 80 0,Ak 86 80 1,Cd 17 0 1 1 1 5,Al 5 17 85,Aa 18 86] [3,5,6,15,17,18,73,74,75]<|Sq (Rq [Aa 87 18,Az 88 87 0] [3,5,6,15,17,18,73,74,75,88]<|Co 88 (Rq [Aa 89 15,Ae 90 17 5,Bn 91 5 90,Fq 92 0 1 1 1 5 0 1 89 4 1 91,Al 5 6 92,Ad 7 0] [6,7]<|.ret)<|Sk [3,5,6,18,73,74,75])<|Rq [Aa 93 18,Au 94 93 10] [3,5,6,18,73,74,75,94]<|Co 94 (Rq [Ce 95 0 1 1 1 5,Aa 96 18,Al 5 6 95,Aa 7 96] [6,7]<|.ret)<|Sk [3,5,6,73,74,75])<|Re [Ao 97 75 1,Aa 75 97] [3,5,6,73,74,75])<|Rq [Ce 98 0 1 1 1 5,Al 5 6 98,Ad 7 10] [6,7]<|.ret)<|Rq [Az 100 20 5,Aa 99 100] [3,4,5,6,99]<|Co 99 (Rq [Ae 101 3 6,Ae 102 4 9,Ae 103 5 3,Bd 104 111 101 102 103,Ak 105 104 0,Ak 106 104 1,Al 5 6 105,Aa 7 106] [6,7]<|.ret)<|Sk [6])<|Rq [Ce 107 0 1 1 1 5,Al 5 6 107,Ad 7 0] [6,7]<|.ret) [.cell 6 (some 5),.tmp 7]:= by decide +kernel
theorem ck111:CK f111 (Rq [Af 3 0,Af 4 1,Af 5 2,Cd 6 0 1 1 1 5,Ad 7 0] [3,4,5,6]<|Rq [Ae 15 3 6,Ae 16 4 9,Ae 17 5 3,Bd 18 115 15 16 17,Aa 14 18,Ak 19 14 0,Ak 20 14 1,Bb 8 19,Aa 9 20] [3,4,6,8,9]<|Sq (Rq [Aa 21 9,Au 22 21 0] [3,4,6,8,9,22]<|Co 22 (Rq [Ce 23 0 1 1 1 5,Aa 24 9,Al 5 6 23,Aa 7 24] [6,7]<|.ret)<|Sk [3,4,6,8])<|Sq (Rq [Aa 25 8,Ag 26 25,Ad 27 0] [3,4,6,25,26,27]<|Bl 0<|Lo [3,4,6,25,26,27]<|Rq [Am 28 27 26] [3,4,6,25,26,27,28]<|Sq (Co 28 (Sk [3,4,6,25,26,27])<|Ex 0 [6])<|Sq (Bl 1<|Rq [Ai 29 25 27 3,Ae 30 29 3,Ek 11 1 1 1,Al 3 11 30] [3,4,6,11,25,26,27]<|Sq (Dr [12,13,31,32,33,34,35,36,37,38,39,40] [Ae 32 3 6,Ac 33 4 1,Ab 34 33,Do 35 34 0 9,Ae 36 35 9,Ae 37 11 3,Bd 38 48 32 36 37,Aa 31 38,Ak 39 31 0,Ak 40 31 1,Cd 12 0 1 1 1 5,Al 5 12 39,Aa 13 40] [3,4,6,11,12,13,25,26,27])<|Sq (Rq [Aa 41 13,Az 42 41 0] [3,4,6,11,12,13,25,26,27,42]<|Co 42 (Rq [Ae 43 11 3,Ae 44 12 5,Bn 45 5 44,Fq 46 0 1 1 1 5 1 3 43 4 1 45,Al 5 6 46,Ad 7 0] [6,7]<|.ret)<|Sk [3,4,6,13,25,26,27])<|Rq [Aa 47 13,Au 48 47 10] [3,4,6,13,25,26,27,48]<|Co 48 (Rq [Ce 49 0 1 1 1 5,Aa 50 13,Al 5 6 49,Aa 7 50] [6,7]<|.ret)<|Sk [3,4,6,25,26,27])<|Re [Ao 51 27 1,Aa 27 51] [3,4,6,25,26,27])<|Rq [Ce 52 0 1 1 1 5,Al 5 6 52,Ad 7 10] [6,7]<|.ret) [.cell 6 (some 5),.tmp 7]:= by decide +kernel
theorem c48S (n:Nat) (ih_48:∀ (s_0:condition_scene) (c:Condition) (m:GMatch) (r:(Proof × Int)) (_:_condition_scene__witnessF n s_0 c m=some r),Sound prog 48 [econdition_scene s_0,eCondition c,eGMatch m] (.tp [eProof r.1,eI r.2])) (ih_111:∀ (s_0:condition_scene) (c:Condition) (m:GMatch) (r:(Proof × Int)) (_:_condition_scene__extendedF n s_0 c m=some r),Sound prog 111 [econdition_scene s_0,eCondition c,eGMatch m] (.tp [eProof r.1,eI r.2])):∀ (s_0:condition_scene) (c:Condition) (m:GMatch) (r:(Proof × Int)) (_:_condition_scene__witnessF (n+1) s_0 c m=some r),Sound prog 48 [econdition_scene s_0,eCondition c,eGMatch m] (.tp [eProof r.1,eI r.2]):= by
 intro s_0 c m r h
 refine Fn ck48 fun hw=>?_
 unfold _condition_scene__witnessF at h
 refine E<|G<|Y B B<|Y B B<|Y B B<|d8 B<|D B<|F (kt<|kt<|kt<|kb<|kn) fun _=>?_
 refine E<|E<|G<|M B<|K B<|F (kt<|kt<|kt<|kb<|kt<|kn) fun _=>?_
 refine a9<|E<|G<|b5 B B<|D B<|F (kt<|kt<|kt<|kb<|kt<|kt<|kn) fun _=>?_
 refine U B (fun hc21=>?_) (fun hc21=>?_)
 ·replace h:=O hc21 h
  refine E<|e2 B<|S B B (B:_=econdition_scene s_0)<|M B<|K B ?_
  obtain ⟨x27,hx27,h⟩:=J h
  refine a4 B B (eLCondition_eq _) hx27 B<|S B B (B:_=eCondition x27)<|S B B (B:_=eGMatch m) ?_
  obtain ⟨x30,hx30,h⟩:=J h
  refine f1 B (ih_48 s_0 x27 m _ hx30)<|f0 B<|b2 B B<|b2 B B<|d8 B<|b3 B B B B B<|D B<|F (kb<|kt<|kn) fun _=>?_
  refine E<|E<|G<|D B<|F (kb<|kt<|kt<|kn) fun _=>?_
  refine a9<|E<|G<|b5 B B<|D B<|F (kb<|kt<|kt<|kt<|kn) fun _=>?_
  refine U B (fun hc34=>?_) (fun hc34=>?_)
  ·replace h:=O hc34 h
   refine E<|G<|e5 B B (show _=eProof (Proof.mk 0 (GMatch.mk (Morphism.mk [] []) []) []) from B)<|b3 B B B B B<|D B<|F (kb<|kt<|kn) fun _=>?_
   refine L ?_
   cases h
   exact ⟨by decide,rfl⟩
  ·replace h:=R hc34 h
   refine E<|G<|b5 B B<|D B<|F (kb<|kt<|kt<|kn) fun _=>?_
   refine U B (fun hc37=>?_) (fun hc37=>?_)
   ·replace h:=O hc37 h
    refine E<|G<|e5 B B (show _=eProof (Proof.mk 0 (GMatch.mk (Morphism.mk [] []) []) []) from B)<|b3 B B B B B<|D B<|F (kb<|kt<|kn) fun _=>?_
    refine L ?_
    cases h
    exact ⟨by decide,rfl⟩
   ·replace h:=R hc37 h
    refine T (kb<|kt<|kn) fun _=>?_
    refine E<|G<|e5 B B (show _=eProof (Proof.mk 0 (GMatch.mk (Morphism.mk [] []) []) []) from B)<|D B<|b3 B B B B B<|D B<|F (kb<|kt<|kn) fun _=>?_
    refine L ?_
    cases h
    exact ⟨by decide,rfl⟩
 ·replace h:=R hc21 h
  refine E<|G<|b5 B B<|D B<|F (kt<|kt<|kt<|kb<|kt<|kt<|kn) fun _=>?_
  refine U B (fun hc42=>?_) (fun hc42=>?_)
  ·replace h:=O hc42 h
   refine E<|G<|d8 B<|F (kt<|kt<|kt<|kb<|kb<|kn) fun _=>?_
   refine E<|E<|G<|M B<|K B<|V B (eLCondition_eq _)<|D B<|F (kt<|kt<|kb<|kb<|kt<|kt<|kt<|kn) fun _=>?_
   obtain ⟨o2,ho2,h⟩:=d4 h
   refine e0 ho2 (fun (i2:Int) (s2:Proof × Proof)=>[(3,.tv (.pt (econdition_scene s_0).cells)),(5,.tv (.pt (eGMatch m).cells)),(6,.bx [⟨false,eI s2.1.Choice⟩,⟨true,lI s2.1.Match.Morphism.Nodes⟩,⟨true,lI s2.1.Match.Morphism.Edges⟩,⟨true,lI s2.1.Match.Vars⟩,⟨true,eLProof s2.1.Kids⟩]),(10,.bx [⟨false,eI s2.2.Choice⟩,⟨true,lI s2.2.Match.Morphism.Nodes⟩,⟨true,lI s2.2.Match.Morphism.Edges⟩,⟨true,lI s2.2.Match.Vars⟩,⟨true,eLProof s2.2.Kids⟩]),(45,.tv (eLCondition c.Kids)),(46,.tv (eI (c.Kids.length:Int))),(47,.tv (eI i2))]) (fun (s2:Proof × Proof)=>[(6,.bx [⟨false,eI s2.1.Choice⟩,⟨true,lI s2.1.Match.Morphism.Nodes⟩,⟨true,lI s2.1.Match.Morphism.Edges⟩,⟨true,lI s2.1.Match.Vars⟩,⟨true,eLProof s2.1.Kids⟩]),(10,.bx [⟨false,eI s2.2.Choice⟩,⟨true,lI s2.2.Match.Morphism.Nodes⟩,⟨true,lI s2.2.Match.Morphism.Edges⟩,⟨true,lI s2.2.Match.Vars⟩,⟨true,eLProof s2.2.Kids⟩])]) (fun zv ze=>resIs ([.cell 6 (some 5),.tmp 7]) (.tp [eProof zv.1,eI zv.2]) ze) B ?_ ?_ ?_ ?_
   ·clear h ho2
    intro i2 s2 r2 hi2 h hw2
    refine E<|G<|X B B<|F (kt<|kt<|kb<|kb<|kt<|kt<|kt<|kt<|kn) fun _=>?_
    refine E<|d0 B (d1 hi2)<|T (kt<|kt<|kb<|kb<|kt<|kt<|kt<|kn) fun _=>?_
    refine E<|a9<|E<|G ?_
    obtain ⟨x49,hx49,h⟩:=J h
    refine a4 B B (eLCondition_eq _) hx49 B<|S B B (B:_=eCondition x49)<|d8 B<|b3 B B B B B<|F (kt<|kt<|kb<|kb<|kb<|kt<|kt<|kt<|kn) fun _=>?_
    refine E<|G<|S B B (B:_=econdition_scene s_0)<|S B B (B:_=eCondition x49)<|S B B (B:_=eGMatch m) ?_
    obtain ⟨x55,hx55,h⟩:=J h
    refine f1 B (ih_48 s_0 x49 m _ hx55)<|f0 B<|b2 B B<|b2 B B<|d8 B<|b3 B B B B B<|D B<|F (kt<|kt<|kb<|kb<|kb<|kt<|kt<|kt<|kt<|kn) fun _=>?_
    refine E<|E<|G<|D B<|a8 B B<|F (kt<|kt<|kb<|kb<|kb<|kt<|kt<|kt<|kt<|kt<|kn) fun _=>?_
    refine U B (fun hc59=>?_) (fun hc59=>?_)
    ·replace h:=O hc59 h
     refine E<|G<|e5 B B (show _=eProof (Proof.mk 0 (GMatch.mk (Morphism.mk [] []) []) []) from B)<|D B<|b3 B B B B B<|D B<|F (kb<|kt<|kn) fun _=>?_
     refine L ?_
     cases h
     exact ⟨_,rfl,⟨by decide,rfl⟩⟩
    ·replace h:=R hc59 h
     refine T (kt<|kt<|kb<|kb<|kb<|kt<|kt<|kt<|kn) fun _=>?_
     refine G<|a6 B<|q6 B B B B B<|S B B (B:_=eProof x55.1)<|m9 (e:=eProof) (l:=[x55.1]) B B (fun _=>rfl) (show eLProof [x55.1]=_ from eLProof_lst _) ?_
     obtain ⟨x66,hx66,h⟩:=J h
     refine l0 B B (eLProof_eq _) (eLProof_eq _) hx66 (eLProof_eq _)<|a6 B<|p9 B B B (by decide) B B<|F (kt<|kt<|kb<|kb<|kt<|kt<|kt<|kn) fun _=>?_
     refine G<|a7 B B<|D B<|F (kt<|kt<|kb<|kb<|kt<|kt<|kt<|kn) ?_
     cases h
     refine ⟨_,B,?_⟩
     rw [Ktv rfl (Ktv rfl (Kbx rfl (Kbx rfl (Ktv rfl (Ktv rfl (Ktv rfl (Knil _)))))))]
     rw [b6 (a5 (hw2 47)) hi2 (e1 (a5 (hw2 46)))]
     all_goals rfl
   ·intro i2 s2 hi2
    refine E<|G<|X B B<|F (kt<|kt<|kb<|kb<|kt<|kt<|kt<|kt<|kn) fun _=>?_
    refine E<|b9 B (d2 hi2)<|b4 (kb<|kb<|kn) ?_
    exact ⟨rfl,rfl⟩
   ·intro s2 hs
    replace h:=d5 h hs
    intro _
    refine E<|G<|S B B (B:_=eProof s2.2)<|b3 B B B B B<|D B<|F (kb<|kt<|kn) fun _=>?_
    refine L ?_
    cases h
    exact ⟨by decide,rfl⟩
   ·intro v2 ze hv hR
    replace h:=d6 h hv
    cases h
    exact hR
  ·replace h:=R hc42 h
   refine E<|G<|b5 B B<|D B<|F (kt<|kt<|kt<|kb<|kt<|kt<|kn) fun _=>?_
   refine U B (fun hc70=>?_) (fun hc70=>?_)
   ·replace h:=O hc70 h
    refine E<|E<|G<|M B<|K B<|V B (eLCondition_eq _)<|D B<|F (kt<|kt<|kb<|kt<|kt<|kt<|kn) fun _=>?_
    obtain ⟨o4,ho4,h⟩:=d4 h
    refine e0 ho4 (fun (i4:Int) (s4:Proof)=>[(3,.tv (.pt (econdition_scene s_0).cells)),(5,.tv (.pt (eGMatch m).cells)),(6,.bx [⟨false,eI s4.Choice⟩,⟨true,lI s4.Match.Morphism.Nodes⟩,⟨true,lI s4.Match.Morphism.Edges⟩,⟨true,lI s4.Match.Vars⟩,⟨true,eLProof s4.Kids⟩]),(73,.tv (eLCondition c.Kids)),(74,.tv (eI (c.Kids.length:Int))),(75,.tv (eI i4))]) (fun (s4:Proof)=>[(6,.bx [⟨false,eI s4.Choice⟩,⟨true,lI s4.Match.Morphism.Nodes⟩,⟨true,lI s4.Match.Morphism.Edges⟩,⟨true,lI s4.Match.Vars⟩,⟨true,eLProof s4.Kids⟩])]) (fun zv ze=>resIs ([.cell 6 (some 5),.tmp 7]) (.tp [eProof zv.1,eI zv.2]) ze) B ?_ ?_ ?_ ?_
    ·clear h ho4
     intro i4 s4 r4 hi4 h hw4
     refine E<|G<|X B B<|F (kt<|kt<|kb<|kt<|kt<|kt<|kt<|kn) fun _=>?_
     refine E<|d0 B (d1 hi4)<|T (kt<|kt<|kb<|kt<|kt<|kt<|kn) fun _=>?_
     refine E<|a9<|E<|G<|D B ?_
     obtain ⟨x78,hx78,h⟩:=J h
     refine a4 B B (eLCondition_eq _) hx78 B<|S B B (B:_=eCondition x78)<|d8 B<|D B<|b3 B B B B B<|F (kt<|kt<|kb<|kt<|kb<|kt<|kt<|kt<|kn) fun _=>?_
     refine E<|G<|S B B (B:_=econdition_scene s_0)<|S B B (B:_=eCondition x78)<|S B B (B:_=eGMatch m) ?_
     obtain ⟨x84,hx84,h⟩:=J h
     refine f1 B (ih_48 s_0 x78 m _ hx84)<|f0 B<|b2 B B<|b2 B B<|d8 B<|b3 B B B B B<|D B<|F (kt<|kt<|kb<|kt<|kb<|kt<|kt<|kt<|kt<|kn) fun _=>?_
     refine E<|E<|G<|D B<|b5 B B<|F (kt<|kt<|kb<|kt<|kb<|kt<|kt<|kt<|kt<|kt<|kn) fun _=>?_
     refine U B (fun hc88=>?_) (fun hc88=>?_)
     ·replace h:=O hc88 h
      refine E<|G<|D B<|S B B (B:_=eProof x84.1)<|m9 (e:=eProof) (l:=[x84.1]) B B (fun _=>rfl) (show eLProof [x84.1]=_ from eLProof_lst _)<|e5 B B (show _=eProof (Proof.mk i4 (GMatch.mk (Morphism.mk [] []) []) [x84.1]) from B)<|b3 B B B B B<|D B<|F (kb<|kt<|kn) fun _=>?_
      refine L ?_
      cases h
      exact ⟨_,rfl,⟨by decide,rfl⟩⟩
     ·replace h:=R hc88 h
      refine T (kt<|kt<|kb<|kt<|kt<|kt<|kt<|kn) fun _=>?_
      refine E<|G<|D B<|a8 B B<|F (kt<|kt<|kb<|kt<|kt<|kt<|kt<|kt<|kn) fun _=>?_
      refine U B (fun hc94=>?_) (fun hc94=>?_)
      ·replace h:=O hc94 h
       refine E<|G<|e5 B B (show _=eProof (Proof.mk 0 (GMatch.mk (Morphism.mk [] []) []) []) from B)<|D B<|b3 B B B B B<|D B<|F (kb<|kt<|kn) fun _=>?_
       refine L ?_
       cases h
       exact ⟨_,rfl,⟨by decide,rfl⟩⟩
      ·replace h:=R hc94 h
       refine T (kt<|kt<|kb<|kt<|kt<|kt<|kn) fun _=>?_
       refine G<|a7 B B<|D B<|F (kt<|kt<|kb<|kt<|kt<|kt<|kn) ?_
       cases h
       refine ⟨_,B,?_⟩
       rw [Ktv rfl (Ktv rfl (Kbx rfl (Ktv rfl (Ktv rfl (Ktv rfl (Knil _))))))]
       rw [b6 (a5 (hw4 75)) hi4 (e1 (a5 (hw4 74)))]
       all_goals rfl
    ·intro i4 s4 hi4
     refine E<|G<|X B B<|F (kt<|kt<|kb<|kt<|kt<|kt<|kt<|kn) fun _=>?_
     refine E<|b9 B (d2 hi4)<|b4 (kb<|kn) ?_
     exact ⟨rfl,rfl⟩
    ·intro s4 hs
     replace h:=d5 h hs
     intro _
     refine E<|G<|e5 B B (show _=eProof (Proof.mk 0 (GMatch.mk (Morphism.mk [] []) []) []) from B)<|b3 B B B B B<|D B<|F (kb<|kt<|kn) fun _=>?_
     refine L ?_
     cases h
     exact ⟨by decide,rfl⟩
    ·intro v4 ze hv hR
     replace h:=d6 h hv
     cases h
     exact hR
   ·replace h:=R hc70 h
    refine E<|G<|b5 B B<|D B<|F (kt<|kt<|kt<|kb<|kt<|kn) fun _=>?_
    refine U B (fun hc99=>?_) (fun hc99=>?_)
    ·replace h:=O hc99 h
     refine E<|G<|S B B (B:_=econdition_scene s_0)<|S B B (B:_=eCondition c)<|S B B (B:_=eGMatch m) ?_
     obtain ⟨x104,hx104,h⟩:=J h
     refine f1 B (ih_111 s_0 c m _ hx104)<|b2 B B<|b2 B B<|b3 B B B B B<|D B<|F (kb<|kt<|kn) fun _=>?_
     refine L ?_
     cases h
     exact ⟨by decide,rfl⟩
    ·replace h:=R hc99 h
     refine T (kb<|kn) fun _=>?_
     refine E<|G<|e5 B B (show _=eProof (Proof.mk 0 (GMatch.mk (Morphism.mk [] []) []) []) from B)<|b3 B B B B B<|D B<|F (kb<|kt<|kn) fun _=>?_
     refine L ?_
     cases h
     exact ⟨by decide,rfl⟩
theorem c111S (n:Nat) (ih_48:∀ (s_0:condition_scene) (c:Condition) (m:GMatch) (r:(Proof × Int)) (_:_condition_scene__witnessF n s_0 c m=some r),Sound prog 48 [econdition_scene s_0,eCondition c,eGMatch m] (.tp [eProof r.1,eI r.2])) (ih_111:∀ (s_0:condition_scene) (c:Condition) (m:GMatch) (r:(Proof × Int)) (_:_condition_scene__extendedF n s_0 c m=some r),Sound prog 111 [econdition_scene s_0,eCondition c,eGMatch m] (.tp [eProof r.1,eI r.2])):∀ (s_0:condition_scene) (c:Condition) (m:GMatch) (r:(Proof × Int)) (_:_condition_scene__extendedF (n+1) s_0 c m=some r),Sound prog 111 [econdition_scene s_0,eCondition c,eGMatch m] (.tp [eProof r.1,eI r.2]):= by
 intro s_0 c m r h
 refine Fn ck111 fun hw=>?_
 unfold _condition_scene__extendedF at h
 refine E<|G<|Y B B<|Y B B<|Y B B<|d8 B<|D B<|F (kt<|kt<|kt<|kb<|kn) fun _=>?_
 refine E<|G<|S B B (B:_=econdition_scene s_0)<|S B B (B:_=eCondition c)<|S B B (B:_=eGMatch m) ?_
 obtain ⟨x18,hx18,h⟩:=J h
 refine f1 B (c115 s_0 c m _ hx18)<|f0 B<|b2 B B<|b2 B B<|f9 B<|D B<|F (kt<|kt<|kb<|kt<|kt<|kn) fun _=>?_
 refine E<|E<|G<|D B<|a8 B B<|F (kt<|kt<|kb<|kt<|kt<|kt<|kn) fun _=>?_
 refine U B (fun hc22=>?_) (fun hc22=>?_)
 ·replace h:=O hc22 h
  refine E<|G<|e5 B B (show _=eProof (Proof.mk 0 (GMatch.mk (Morphism.mk [] []) []) []) from B)<|D B<|b3 B B B B B<|D B<|F (kb<|kt<|kn) fun _=>?_
  refine L ?_
  cases h
  exact ⟨by decide,rfl⟩
 ·replace h:=R hc22 h
  refine T (kt<|kt<|kb<|kt<|kn) fun _=>?_
  refine E<|E<|G<|D B<|V B B<|D B<|F (kt<|kt<|kb<|kt<|kt<|kt<|kn) fun _=>?_
  obtain ⟨o0,ho0,h⟩:=d4 h
  refine e0 ho0 (fun (i0:Int) (s0:Proof)=>[(3,.tv (.pt (econdition_scene s_0).cells)),(4,.tv (.pt (eCondition c).cells)),(6,.bx [⟨false,eI s0.Choice⟩,⟨true,lI s0.Match.Morphism.Nodes⟩,⟨true,lI s0.Match.Morphism.Edges⟩,⟨true,lI s0.Match.Vars⟩,⟨true,eLProof s0.Kids⟩]),(25,.tv ((eL 3 eGMatch) x18.1)),(26,.tv (eI (x18.1.length:Int))),(27,.tv (eI i0))]) (fun (s0:Proof)=>[(6,.bx [⟨false,eI s0.Choice⟩,⟨true,lI s0.Match.Morphism.Nodes⟩,⟨true,lI s0.Match.Morphism.Edges⟩,⟨true,lI s0.Match.Vars⟩,⟨true,eLProof s0.Kids⟩])]) (fun zv ze=>resIs ([.cell 6 (some 5),.tmp 7]) (.tp [eProof zv.1,eI zv.2]) ze) B ?_ ?_ ?_ ?_
  ·clear h ho0
   intro i0 s0 r0 hi0 h hw0
   refine E<|G<|X B B<|F (kt<|kt<|kb<|kt<|kt<|kt<|kt<|kn) fun _=>?_
   refine E<|d0 B (d1 hi0)<|T (kt<|kt<|kb<|kt<|kt<|kt<|kn) fun _=>?_
   refine E<|a9<|E<|G ?_
   obtain ⟨x29,hx29,h⟩:=J h
   refine a4 B B B hx29 B<|S B B (B:_=eGMatch x29)<|d8 B<|b3 B B B B B<|F (kt<|kt<|kb<|kb<|kt<|kt<|kt<|kn) fun _=>?_
   refine E<|e2 B<|S B B (B:_=econdition_scene s_0)<|M B<|K B ?_
   obtain ⟨x35,hx35,h⟩:=J h
   refine a4 B B (eLCondition_eq _) hx35 B<|S B B (B:_=eCondition x35)<|S B B (B:_=eGMatch x29) ?_
   obtain ⟨x38,hx38,h⟩:=J h
   refine f1 B (ih_48 s_0 x35 x29 _ hx38)<|f0 B<|b2 B B<|b2 B B<|d8 B<|b3 B B B B B<|D B<|F (kt<|kt<|kb<|kb<|kb<|kt<|kt<|kt<|kt<|kn) fun _=>?_
   refine E<|E<|G<|D B<|b5 B B<|F (kt<|kt<|kb<|kb<|kb<|kt<|kt<|kt<|kt<|kt<|kn) fun _=>?_
   refine U B (fun hc42=>?_) (fun hc42=>?_)
   ·replace h:=O hc42 h
    refine E<|G<|S B B (B:_=eGMatch x29)<|S B B (B:_=eProof x38.1)<|m9 (e:=eProof) (l:=[x38.1]) B B (fun _=>rfl) (show eLProof [x38.1]=_ from eLProof_lst _)<|e5 B B (B:_=eProof (Proof.mk 0 x29 [x38.1]))<|b3 B B B B B<|D B<|F (kb<|kt<|kn) fun _=>?_
    refine L ?_
    cases h
    exact ⟨_,rfl,⟨by decide,rfl⟩⟩
   ·replace h:=R hc42 h
    refine T (kt<|kt<|kb<|kt<|kt<|kt<|kt<|kn) fun _=>?_
    refine E<|G<|D B<|a8 B B<|F (kt<|kt<|kb<|kt<|kt<|kt<|kt<|kt<|kn) fun _=>?_
    refine U B (fun hc48=>?_) (fun hc48=>?_)
    ·replace h:=O hc48 h
     refine E<|G<|e5 B B (show _=eProof (Proof.mk 0 (GMatch.mk (Morphism.mk [] []) []) []) from B)<|D B<|b3 B B B B B<|D B<|F (kb<|kt<|kn) fun _=>?_
     refine L ?_
     cases h
     exact ⟨_,rfl,⟨by decide,rfl⟩⟩
    ·replace h:=R hc48 h
     refine T (kt<|kt<|kb<|kt<|kt<|kt<|kn) fun _=>?_
     refine G<|a7 B B<|D B<|F (kt<|kt<|kb<|kt<|kt<|kt<|kn) ?_
     cases h
     refine ⟨_,B,?_⟩
     rw [Ktv rfl (Ktv rfl (Kbx rfl (Ktv rfl (Ktv rfl (Ktv rfl (Knil _))))))]
     rw [b6 (a5 (hw0 27)) hi0 (e1 (a5 (hw0 26)))]
     all_goals rfl
  ·intro i0 s0 hi0
   refine E<|G<|X B B<|F (kt<|kt<|kb<|kt<|kt<|kt<|kt<|kn) fun _=>?_
   refine E<|b9 B (d2 hi0)<|b4 (kb<|kn) ?_
   exact ⟨rfl,rfl⟩
  ·intro s0 hs
   replace h:=d5 h hs
   intro _
   refine E<|G<|e5 B B (show _=eProof (Proof.mk 0 (GMatch.mk (Morphism.mk [] []) []) []) from B)<|b3 B B B B B<|D B<|F (kb<|kt<|kn) fun _=>?_
   refine L ?_
   cases h
   exact ⟨by decide,rfl⟩
  ·intro v0 ze hv hR
   replace h:=d6 h hv
   cases h
   exact hR
theorem c48A:∀ n:Nat,(∀ (s_0:condition_scene) (c:Condition) (m:GMatch) (r:(Proof × Int)) (_:_condition_scene__witnessF n s_0 c m=some r),Sound prog 48 [econdition_scene s_0,eCondition c,eGMatch m] (.tp [eProof r.1,eI r.2]))∧(∀ (s_0:condition_scene) (c:Condition) (m:GMatch) (r:(Proof × Int)) (_:_condition_scene__extendedF n s_0 c m=some r),Sound prog 111 [econdition_scene s_0,eCondition c,eGMatch m] (.tp [eProof r.1,eI r.2])):=by
  intro n
  induction n with
  | zero=>exact ⟨(by intro s_0 c m r h; cases h),(by intro s_0 c m r h; cases h)⟩
  | succ n ih=>exact ⟨c48S n ih.1 ih.2,c111S n ih.1 ih.2⟩
theorem c48 (s_0:condition_scene) (c:Condition) (m:GMatch) (r:(Proof × Int)) (h:_condition_scene__witness s_0 c m=some r):Sound prog 48 [econdition_scene s_0,eCondition c,eGMatch m] (.tp [eProof r.1,eI r.2]):=by
  obtain ⟨N,hN⟩:=lim_some h
  exact (c48A N).1 s_0 c m r (hN N (Nat.le_refl _))
theorem ck20:CK f20 (Rq [Af 6 0,Af 7 1,Af 8 2,Af 9 3,Af 10 4,Cd 12 0 1 1 1 5,Ad 13 0] [5,6,7,8,9,10,12]<|Sq (Rq [Ae 15 6 2,Ae 16 7 5,Ae 17 8 9,Ae 18 9 3,Ae 19 10 3,Aa 20 5,Fi 21 47 15 16 17 18 19 20,Aa 14 21] [5,6,8,9,10,12,14]<|Rq [Aa 22 14,Au 23 22 0] [5,6,8,9,10,12,14,23]<|Co 23 (Rq [Ce 24 0 1 1 1 5,Aa 25 14,Al 5 12 24,Aa 13 25] [12,13]<|.ret)<|Sk [5,6,8,9,10,12])<|Rq [Ae 26 6 2,Ae 27 9 3,Aa 28 5,⟨some 29,.bld [.list 4 [],.list 7 [],.list 1 [],.list 3 [],.list 1 [],.bool false] [(0,2,.s 26),(2,3,.s 27),(5,1,.s 28)],none⟩,Ae 30 8 9,Ae 31 10 3,Bd 32 48 29 30 31,Ak 33 32 0,Ak 34 32 1,Al 5 12 33,Aa 13 34] [12,13]<|.ret) [.cell 12 (some 5),.tmp 13]:= by decide +kernel
theorem c20 (t:Types) (p:Pattern) (c:Condition) (h_3:Host) (m:GMatch) (injective:Bool) (r:(Proof × Int)) (h:condition_Witness t p c h_3 m injective=some r):Sound prog 20 [eTypes t,ePattern p,eCondition c,eHost h_3,eGMatch m,eB injective] (.tp [eProof r.1,eI r.2]):= by
 refine Fn ck20 fun hw=>?_
 unfold condition_Witness at h
 refine E<|G<|Y B B<|Y B B<|Y B B<|Y B B<|Y B B<|d8 B<|D B<|F (kt<|kt<|kt<|kt<|kt<|kt<|kb<|kn) fun _=>?_
 refine E<|E<|G<|S B B (B:_=eTypes t)<|S B B (B:_=ePattern p)<|S B B (B:_=eCondition c)<|S B B (B:_=eHost h_3)<|S B B (B:_=eGMatch m)<|D B ?_
 obtain ⟨x21,hx21,h⟩:=J h
 refine W B (c47 t p c h_3 m injective _ hx21)<|D B<|F (kt<|kt<|kt<|kt<|kt<|kb<|kt<|kn) fun _=>?_
 refine E<|G<|D B<|a8 B B<|F (kt<|kt<|kt<|kt<|kt<|kb<|kt<|kt<|kn) fun _=>?_
 refine U B (fun hc23=>?_) (fun hc23=>?_)
 ·replace h:=O hc23 h
  refine E<|G<|e5 B B (show _=eProof (Proof.mk 0 (GMatch.mk (Morphism.mk [] []) []) []) from B)<|D B<|b3 B B B B B<|D B<|F (kb<|kt<|kn) fun _=>?_
  refine L ?_
  cases h
  exact ⟨by decide,rfl⟩
 ·replace h:=R hc23 h
  refine T (kt<|kt<|kt<|kt<|kt<|kb<|kn) fun _=>?_
  refine E<|G<|S B B (B:_=eTypes t)<|S B B (B:_=eHost h_3)<|D B<|g2 B B B (B:_=econdition_scene (condition_scene.mk t h_3 injective))<|S B B (B:_=eCondition c)<|S B B (B:_=eGMatch m) ?_
  obtain ⟨x32,hx32,h⟩:=J h
  refine f1 B (c48 (condition_scene.mk t h_3 injective) c m _ hx32)<|b2 B B<|b2 B B<|b3 B B B B B<|D B<|F (kb<|kt<|kn) fun _=>?_
  refine L ?_
  cases h
  exact ⟨by decide,rfl⟩
theorem ck18:CK f18 (Rq [Af 6 0,Af 7 1,Af 8 2,Af 9 3,Af 10 4,Aj 12,Ad 13 0] [5,6,7,8,9,10]<|Rq [Ae 17 6 2,Ae 18 7 5,Ae 19 8 9,Ae 20 9 3,Ae 21 10 3,Aa 22 5,Fi 23 20 17 18 19 20 21 22,Aa 16 23,Ak 24 16 0,Ak 25 16 1,Cd 14 0 1 1 1 5,Al 5 14 24,Aa 15 25] [15]<|Sq (Rq [Aa 26 15,Az 27 26 10] [15,27]<|Co 27 (Rq [Aj 12,Ad 13 0] [12,13]<|.ret)<|Sk [15])<|Rq [Aa 28 15,Az 29 28 0,Aa 30 15,Aa 12 29,Aa 13 30] [12,13]<|.ret) [.tmp 12,.tmp 13]:= by decide +kernel
theorem c18 (t:Types) (p:Pattern) (c:Condition) (h_3:Host) (m:GMatch) (injective:Bool) (r:(Bool × Int)) (h:condition_Satisfies t p c h_3 m injective=some r):Sound prog 18 [eTypes t,ePattern p,eCondition c,eHost h_3,eGMatch m,eB injective] (.tp [eB r.1,eI r.2]):= by
 refine Fn ck18 fun hw=>?_
 unfold condition_Satisfies at h
 refine E<|G<|Y B B<|Y B B<|Y B B<|Y B B<|Y B B<|D B<|D B<|F km6 fun _=>?_
 refine E<|G<|S B B (B:_=eTypes t)<|S B B (B:_=ePattern p)<|S B B (B:_=eCondition c)<|S B B (B:_=eHost h_3)<|S B B (B:_=eGMatch m)<|D B ?_
 obtain ⟨x23,hx23,h⟩:=J h
 refine f1 B (c20 t p c h_3 m injective _ hx23)<|f0 B<|b2 B B<|b2 B B<|d8 B<|b3 B B B B B<|D B<|F km1 fun _=>?_
 refine E<|E<|G<|D B<|b5 B B<|F km2 fun _=>?_
 refine U B (fun hc27=>?_) (fun hc27=>?_)
 ·replace h:=O hc27 h
  refine E<|G<|D B<|D B<|F km2 fun _=>?_
  refine L ?_
  cases h
  exact ⟨by decide,rfl⟩
 ·replace h:=R hc27 h
  refine T km1 fun _=>?_
  refine E<|G<|D B<|b5 B B<|D B<|D B<|D B<|F km2 fun _=>?_
  refine L ?_
  cases h
  exact ⟨by decide,rfl⟩
theorem ck114:CK f114 (Rq [Af 1 0,Aj 2] [1]<|Rq [Ac 3 1 0,Ah 4 3 0,Ab 5 4,Ag 6 5,Ac 7 1 0,Ah 8 7 1,Ab 9 8,Ag 10 9,Bi 11 6 10,Ac 12 1 2,Ab 13 12,Ag 14 13,Bi 15 11 14,Az 16 15 0,Aa 2 16] [2]<|.ret) [.tmp 2]:= by decide +kernel
theorem c114 (m:GMatch) (r:Bool) (h:condition_unmatched m=some r):Sound prog 114 [eGMatch m] (.sh (eB r)):= by
 refine Fn ck114 fun hw=>?_
 unfold condition_unmatched at h
 refine E<|G<|Y B B<|D B<|F km1 fun _=>?_
 refine E<|G<|M B<|b8 B<|K B<|V B B<|M B<|b8 B<|K B<|V B B<|a7 B B<|M B<|K B<|V B B<|a7 B B<|b5 B B<|D B<|F km1 fun _=>?_
 exact L (by cases h;rfl)
theorem ck183:CK f183 (Rq [Ad 4 0] [0,1]<|Sq (Rq [Aa 6 0,Ag 7 6,Ad 8 0] [0,1,7,8]<|Bl 0<|Lo [0,1,7,8]<|Rq [Am 9 8 7] [0,1,7,8,9]<|Sq (Co 9 (Sk [0,1,7,8])<|Ex 0 [])<|Sq (Bl 1<|Rq [Aa 10 8,Aa 5 10] [0,1,5,7,8]<|Rq [Aa 11 1,Aa 12 0,Aa 13 5,Ai 14 12 13 3,Ae 15 14 3,Bz 16 11 15] [0,1,5,7,8,16]<|Co 16 (Rq [Aa 17 5,Aa 4 17] [4]<|.ret)<|Sk [0,1,7,8])<|Re [Ao 18 8 1,Aa 8 18] [0,1,7,8])<|Rq [Bk 4 (-1)] [4]<|.ret) [.tmp 4]:= by decide +kernel
theorem c183 (s_0:List GMatch) (f:GMatch->Option Bool) (f_f:FuncId) (k_f:List TV) (h_f:∀ (y0:GMatch) r,f y0=some r->Sound prog f_f ([eGMatch y0]++k_f) (.sh (eB r))) (r:Int) (h:slices_IndexFunc_Match s_0 f=some r):Sound prog 183 [(eL 3 eGMatch) s_0,.clo f_f k_f] (.sh (eI r)):= by
 refine Fn ck183 fun hw=>?_
 unfold slices_IndexFunc_Match at h
 refine E<|G<|D B<|F km2 fun _=>?_
 refine E<|E<|G<|D B<|V B B<|D B<|F km4 fun _=>?_
 obtain ⟨o0,ho0,h⟩:=d4 h
 refine e0 ho0 (fun (i0:Int) (_:Unit)=>[(0,.tv ((eL 3 eGMatch) s_0)),(1,.tv (.clo f_f k_f)),(7,.tv (eI (s_0.length:Int))),(8,.tv (eI i0))]) (fun (_:Unit)=>[]) (fun zv ze=>resIs ([.tmp 4]) (.sh (eI zv)) ze) B ?_ ?_ ?_ ?_
 ·clear h ho0
  intro i0 s0 r0 hi0 h hw0
  refine E<|G<|X B B<|F km5 fun _=>?_
  refine E<|d0 B (d1 hi0)<|T km4 fun _=>?_
  refine E<|a9<|E<|G<|D B<|D B<|F km5 fun _=>?_
  refine E<|G<|D B<|D B<|D B ?_
  obtain ⟨x14,hx14,h⟩:=J h
  refine a4 B B B hx14 B<|S B B (B:_=eGMatch x14) ?_
  obtain ⟨x16,hx16,h⟩:=J h
  refine g8 B B (h_f _ _ hx16)<|F km6 fun _=>?_
  refine U B (fun hc16=>?_) (fun hc16=>?_)
  ·replace h:=O hc16 h
   refine E<|G<|D B<|D B<|F km1 fun _=>?_
   refine L ?_
   cases h
   exact ⟨_,rfl,rfl⟩
  ·replace h:=R hc16 h
   refine T km4 fun _=>?_
   refine G<|a7 B B<|D B<|F km4 ?_
   cases h
   refine ⟨_,B,?_⟩
   rw [Ktv rfl (Ktv rfl (Ktv rfl (Ktv rfl (Knil _))))]
   rw [b6 (a5 (hw0 8)) hi0 (e1 (a5 (hw0 7)))]
   all_goals rfl
 ·intro i0 s0 hi0
  refine E<|G<|X B B<|F km5 fun _=>?_
  refine E<|b9 B (d2 hi0)<|b4 kn ?_
  exact ⟨rfl,rfl⟩
 ·intro s0 hs
  replace h:=d5 h hs
  intro _
  refine E<|G<|D B<|F km1 fun _=>?_
  exact L (by cases h;rfl)
 ·intro v0 ze hv hR
  replace h:=d6 h hv
  cases h
  exact hR
theorem ck116:CK f116 (Rq [Aj 4] [0,1]<|Rq [Aa 5 0,Aa 6 1,As 7 183 5 6,Bg 8 7 0,Aa 4 8] [4]<|.ret) [.tmp 4]:= by decide +kernel
theorem c116 (s_0:List GMatch) (f:GMatch->Option Bool) (f_f:FuncId) (k_f:List TV) (h_f:∀ (y0:GMatch) r,f y0=some r->Sound prog f_f ([eGMatch y0]++k_f) (.sh (eB r))) (r:Bool) (h:slices_ContainsFunc_Match s_0 f=some r):Sound prog 116 [(eL 3 eGMatch) s_0,.clo f_f k_f] (.sh (eB r)):= by
 refine Fn ck116 fun hw=>?_
 unfold slices_ContainsFunc_Match at h
 refine E<|G<|D B<|F km2 fun _=>?_
 refine E<|G<|D B<|D B ?_
 obtain ⟨x7,hx7,h⟩:=J h
 refine W B (c183 s_0 f _ _ h_f _ hx7)<|d9 B B<|D B<|F km1 fun _=>?_
 exact L (by cases h;rfl)
theorem ck72:CK f72 (Rq [Af 2 0,Af 3 1,Aj 4] [2,3]<|Rq [Ac 5 2 0,Ab 6 5,Ac 7 3 0,Ab 8 7,As 9 73 6 8,Aa 10 9,Ax 11 2 1 10,Ay 12 11 10,Ax 13 3 1 10,Ay 14 13 10,Dc 15 73 12 14 10,Aq 16 10 15,Aa 4 16] [4]<|.ret) [.tmp 4]:= by decide +kernel
theorem c72 (a:Morphism) (b:Morphism) (r:Bool) (h:morphism_Same a b=some r):Sound prog 72 [eMorphism a,eMorphism b] (.sh (eB r)):= by
 refine Fn ck72 fun hw=>?_
 unfold morphism_Same at h
 refine E<|G<|Y B B<|Y B B<|D B<|F km2 fun _=>?_
 refine E<|G<|M B<|K B<|M B<|K B ?_
 obtain ⟨x9,hx9,h⟩:=J h
 refine W B (c73 a.Nodes b.Nodes _ hx9)<|D B ?_
 obtain ⟨x16,hx16,h⟩:=J h
 refine gX 6 [11,12,13,14,15] 16 x16 x9 (fun hg16=>?_) (fun hg16=>?_) ?_
 ·replace h:=O hg16 hx16
  refine H B hg16<|M B<|H B hg16<|K B<|H B hg16<|M B<|H B hg16<|K B ?_
  obtain ⟨x15,hx15,h⟩:=J h
  refine H B hg16<|W B (c73 a.Edges b.Edges _ hx15) ?_
  cases h
  refine a2 B hg16 B ?_
  exact ⟨⟨_,_,_,_,_,B⟩⟩
 ·replace h:=R hg16 hx16
  cases h
  refine I B hg16<|I B hg16<|I B hg16<|I B hg16<|I B hg16<|a3 B hg16 B ?_
  exact ⟨⟨_,_,_,_,_,B⟩⟩
 rintro _ ⟨_,_,_,_,_,rfl⟩
 refine D B<|F km1 fun _=>?_
 exact L (by cases h;rfl)
theorem ck118:CK f118 (Rq [Af 2 0,Af 3 1,Aj 4] [2,3]<|Rq [Ac 5 2 0,Ae 6 5 2,Ac 7 3 0,Ae 8 7 2,As 9 72 6 8,Aa 10 9,Ax 11 2 2 10,Ay 12 11 10,Ax 13 3 2 10,Ay 14 13 10,Dc 15 73 12 14 10,Aq 16 10 15,Aa 4 16] [4]<|.ret) [.tmp 4]:= by decide +kernel
theorem c118 (a:GMatch) (b:GMatch) (r:Bool) (h:condition_sameMatch a b=some r):Sound prog 118 [eGMatch a,eGMatch b] (.sh (eB r)):= by
 refine Fn ck118 fun hw=>?_
 unfold condition_sameMatch at h
 refine E<|G<|Y B B<|Y B B<|D B<|F km2 fun _=>?_
 refine E<|G<|M B<|S B B (B:_=eMorphism a.Morphism)<|M B<|S B B (B:_=eMorphism b.Morphism) ?_
 obtain ⟨x9,hx9,h⟩:=J h
 refine W B (c72 a.Morphism b.Morphism _ hx9)<|D B ?_
 obtain ⟨x16,hx16,h⟩:=J h
 refine gX 6 [11,12,13,14,15] 16 x16 x9 (fun hg16=>?_) (fun hg16=>?_) ?_
 ·replace h:=O hg16 hx16
  refine H B hg16<|M B<|H B hg16<|K B<|H B hg16<|M B<|H B hg16<|K B ?_
  obtain ⟨x15,hx15,h⟩:=J h
  refine H B hg16<|W B (c73 a.Vars b.Vars _ hx15) ?_
  cases h
  refine a2 B hg16 B ?_
  exact ⟨⟨_,_,_,_,_,B⟩⟩
 ·replace h:=R hg16 hx16
  cases h
  refine I B hg16<|I B hg16<|I B hg16<|I B hg16<|I B hg16<|a3 B hg16 B ?_
  exact ⟨⟨_,_,_,_,_,B⟩⟩
 rintro _ ⟨_,_,_,_,_,rfl⟩
 refine D B<|F km1 fun _=>?_
 exact L (by cases h;rfl)
theorem ck117:CK f117 (Rq [Af 2 0,Aj 3] [1,2]<|Rq [Ae 4 2 3,Ac 5 1 1,Ae 6 5 3,As 7 118 4 6,Aa 3 7] [3]<|.ret) [.tmp 3]:= by decide +kernel
theorem c117 (x_0:GMatch) (c0:Proof) (r:Bool) (h:_condition_scene__right_1 x_0 c0=some r):Sound prog 117 [eGMatch x_0,.pt (eProof c0).cells] (.sh (eB r)):= by
 refine Fn ck117 fun hw=>?_
 unfold _condition_scene__right_1 at h
 refine E<|G<|Y B B<|D B<|F km2 fun _=>?_
 refine E<|G<|S B B (B:_=eGMatch x_0)<|M B<|S B B (B:_=eGMatch c0.Match) ?_
 obtain ⟨x7,hx7,h⟩:=J h
 refine W B (c118 x_0 c0.Match _ hx7)<|D B<|F km1 fun _=>?_
 exact L (by cases h;rfl)
theorem ck51:CK f51 (Rq [Af 4 0,Af 5 1,Af 6 2,Af 7 3,Aj 8] [4,5,6,7]<|Rq [Ac 16 7 4,Ab 17 16,Ag 18 17,Aa 9 18] [4,5,6,7,9]<|Sq (Rq [Ac 19 5 0,Ab 20 19] [4,5,6,7,9,20]<|Bl 0<|Rq [Az 22 20 1,Aa 21 22] [4,5,6,7,9,20,21]<|Co 21 (Rq [Aa 23 9,Az 24 23 0,Aa 25 24,Ax 26 7 0 25,Ay 27 26 25,Ci 28 27 0 25,Aq 29 25 28,Aa 30 29,Ax 31 7 1 30,Bh 32 31 3 30,Bt 33 114 32 30,Aq 34 30 33,Aa 8 34] [8]<|.ret)<|Rq [Az 36 20 2,Aa 35 36] [4,5,6,7,9,20,35]<|Co 35 (Sq (Dr [10,11,37,38,39,40,41,42,43,44,45,46] [Ae 38 4 6,Ac 39 5 1,Ab 40 39,Do 41 40 0 9,Ae 42 41 9,Ae 43 6 3,Bd 44 48 38 42 43,Aa 37 44,Ak 45 37 0,Ak 46 37 1,Cd 10 0 1 1 1 5,Al 5 10 45,Aa 11 46] [7,9,11])<|Rq [Aa 47 9,Az 48 47 0,Aa 49 48,Ax 50 7 0 49,Ay 51 50 49,Ci 52 51 0 49,Aq 53 49 52,Aa 54 53,Ax 55 7 1 54,Bh 56 55 3 54,Bt 57 114 56 54,Aq 58 54 57,Aa 59 58,At 60 11 59,Ci 61 60 10 59,Aq 62 59 61,Aa 8 62] [8]<|.ret)<|Rq [Az 64 20 3,Aa 63 64] [4,5,6,7,9,20,63]<|Co 63 (Sq (Rq [Aa 65 9,Ac 66 5 1,Ab 67 66,Ag 68 67,Bj 69 65 68,Aa 70 69,Ap 71 7 0 70,An 72 71 70,Fr 73 72 0 70,Ar 74 70 73,Aa 75 74,Ap 76 7 1 75,Cr 77 76 3 75,Cm 78 114 77 75,Bm 79 78 75,Ar 80 75 79] [4,5,6,7,80]<|Co 80 (Rq [Aj 8] [8]<|.ret)<|Sk [4,5,6,7])<|Sq (Rq [Ac 81 5 1,Ab 82 81,Ag 83 82,Ad 84 0] [4,6,7,82,83,84]<|Bl 1<|Lo [4,6,7,82,83,84]<|Rq [Am 85 84 83] [4,6,7,82,83,84,85]<|Sq (Co 85 (Sk [4,6,7,82,83,84])<|Ex 1 [])<|Sq (Bl 2<|Rq [Aa 86 84,Ai 87 82 84 9,Ae 88 87 9,Df 13 0 9 1 1 1 3 4 0 5,Aa 12 86,Al 9 13 88] [4,6,7,12,13,82,83,84]<|Sq (Dr [89,90,91,92,93,94,95,96,97,98] [Ae 89 4 6,Ae 90 13 9,Ae 91 6 3,Ac 92 7 4,Ab 93 92,Aa 94 12,Ai 95 93 94 5,Ae 96 95 5,Da 97 51 89 90 91 96,Ba 98 97] [4,6,7,82,83,84,98])<|Co 98 (Rq [Aj 8] [8]<|.ret)<|Sk [4,6,7,82,83,84])<|Re [Ao 99 84 1,Aa 84 99] [4,6,7,82,83,84])<|Rq [Bu 8] [8]<|.ret)<|Rq [Az 101 20 4,Aa 100 101] [4,5,6,7,9,100]<|Co 100 (Sq (Dr [8,102,103,104,105,106,107,108,109,110,111,112,113,114,115,116,117,118,119,120,121,122,123,124,125,126,127,128,129,130,131,132,133,134,135,136] [Aa 102 9,Az 103 102 1,Aa 104 103,Ax 105 7 0 104,Ay 106 105 104,El 107 106 0 104,Aq 108 104 107,Aa 109 108,Ax 110 7 0 109,Ay 111 110 109,Ax 112 5 1 109,Ay 113 112 109,Cb 114 113 109,Dj 115 111 114 109,Aq 116 109 115,Aa 117 116,Ax 118 7 1 117,Bh 119 118 3 117,Bt 120 114 119 117,Aq 121 117 120,Aa 122 121,Bh 123 4 6 122,Ax 124 5 1 122,Ay 125 124 122,Ax 126 7 0 122,Ay 127 126 122,Ef 128 125 127 9 122,Bh 129 128 9 122,Bh 130 6 3 122,Ax 131 7 4 122,Ay 132 131 122,⟨some 133,.iad (.s 132) (.c (.int .i64 0)) 5,some (122,true)⟩,Bh 134 133 5 122,⟨some 135,.call 51 [.s 123,.s 129,.s 130,.s 134],some (122,true)⟩,Aq 136 122 135,Aa 8 136] [8])<|.ret)<|Sk [4,5,6,7,9])<|Sq (Rq [Aa 137 9,Au 138 137 1,Aa 139 138,Ap 140 7 0 139,An 141 140 139,Fr 142 141 0 139,Ar 143 139 142] [4,5,6,7,143]<|Co 143 (Rq [Aj 8] [8]<|.ret)<|Sk [4,5,6,7])<|Rq [Ae 145 4 6,Ae 146 5 9,Ae 147 6 3,Bd 148 115 145 146 147,Aa 144 148,Ak 149 144 0,Ak 150 144 1,Bb 14 149,Aa 15 150] [4,5,7,14,15]<|Sq (Rq [Aa 151 15,Au 152 151 0,Aa 153 152,Aw 154 14 153,⟨some 155,.clo 117 [.s 7],some (153,false)⟩,Cx 156 116 154 155 153,Bm 157 156 153,Ar 158 153 157] [4,5,7,158]<|Co 158 (Rq [Aj 8] [8]<|.ret)<|Sk [4,5,7])<|Sq (Dr [8,159,160,161,162,163,164,165,166,167,168,169,170] [Ae 159 4 6,Ac 160 5 1,Ab 161 160,Do 162 161 0 9,Ae 163 162 9,Ac 164 7 1,Ae 165 164 3,Ac 166 7 4,Ab 167 166,Do 168 167 0 5,Ae 169 168 5,Da 170 51 159 163 165 169,Aa 8 170] [8])<|.ret) [.tmp 8]:= by decide +kernel
theorem c51S (n:Nat) (ih_51:∀ (s_0:condition_scene) (c:Condition) (m:GMatch) (w:Proof) (r:Bool) (_:_condition_scene__rightF n s_0 c m w=some r),Sound prog 51 [econdition_scene s_0,eCondition c,eGMatch m,eProof w] (.sh (eB r))):∀ (s_0:condition_scene) (c:Condition) (m:GMatch) (w:Proof) (r:Bool) (_:_condition_scene__rightF (n+1) s_0 c m w=some r),Sound prog 51 [econdition_scene s_0,eCondition c,eGMatch m,eProof w] (.sh (eB r)):= by
 intro s_0 c m w r h
 refine Fn ck51 fun hw=>?_
 unfold _condition_scene__rightF at h
 refine E<|G<|Y B B<|Y B B<|Y B B<|Y B B<|D B<|F km4 fun _=>?_
 refine E<|G<|M B<|K B<|V B (eLProof_eq _)<|D B<|F km5 fun _=>?_
 refine E<|E<|G<|M B<|K B<|F km6 fun _=>?_
 refine a9<|E<|G<|b5 B B<|D B<|F km7 fun _=>?_
 refine U B (fun hc21=>?_) (fun hc21=>?_)
 ·replace h:=O hc21 h
  refine E<|G<|D B<|b5 B B<|D B ?_
  refine gA 4 [26,27,28] 29 (decide ((w.Kids.length:Int)=0)) (decide (w.Choice=0)) (fun hg29=>?_) (fun hg29=>?_) ?_
  ·refine H B hg29<|M B<|H B hg29<|K B<|H B hg29<|b5 B B<|a2 B hg29 B ?_
   exact ⟨⟨_,_,_,B⟩⟩
  ·refine I B hg29<|I B hg29<|I B hg29<|a3 B hg29 B ?_
   exact ⟨⟨_,_,_,B⟩⟩
  rintro _ ⟨_,_,_,rfl⟩
  refine D B ?_
  obtain ⟨x34,hx34,h⟩:=J h
  refine gX 4 [31,32,33] 34 x34 ((decide ((w.Kids.length:Int)=0))&&(decide (w.Choice=0))) (fun hg34=>?_) (fun hg34=>?_) ?_
  ·replace h:=O hg34 hx34
   refine H B hg34<|M B<|H B hg34<|S B B (B:_=eGMatch w.Match) ?_
   obtain ⟨x33,hx33,h⟩:=J h
   refine H B hg34<|W B (c114 w.Match _ hx33) ?_
   cases h
   refine a2 B hg34 B ?_
   exact ⟨⟨_,_,_,B⟩⟩
  ·replace h:=R hg34 hx34
   cases h
   refine I B hg34<|I B hg34<|I B hg34<|a3 B hg34 B ?_
   exact ⟨⟨_,_,_,B⟩⟩
  rintro _ ⟨_,_,_,rfl⟩
  refine D B<|F km1 fun _=>?_
  exact L (by cases h;rfl)
 ·replace h:=R hc21 h
  refine E<|G<|b5 B B<|D B<|F km7 fun _=>?_
  refine U B (fun hc35=>?_) (fun hc35=>?_)
  ·replace h:=O hc35 h
   refine E<|e2 B<|S B B (B:_=econdition_scene s_0)<|M B<|K B ?_
   obtain ⟨x41,hx41,h⟩:=J h
   refine a4 B B (eLCondition_eq _) hx41 B<|S B B (B:_=eCondition x41)<|S B B (B:_=eGMatch m) ?_
   obtain ⟨x44,hx44,h⟩:=J h
   refine f1 B (c48 s_0 x41 m _ hx44)<|f0 B<|b2 B B<|b2 B B<|d8 B<|b3 B B B B B<|D B<|F km3 fun _=>?_
   refine E<|G<|D B<|b5 B B<|D B ?_
   refine gA 4 [50,51,52] 53 (decide ((w.Kids.length:Int)=0)) (decide (w.Choice=0)) (fun hg53=>?_) (fun hg53=>?_) ?_
   ·refine H B hg53<|M B<|H B hg53<|K B<|H B hg53<|b5 B B<|a2 B hg53 B ?_
    exact ⟨⟨_,_,_,B⟩⟩
   ·refine I B hg53<|I B hg53<|I B hg53<|a3 B hg53 B ?_
    exact ⟨⟨_,_,_,B⟩⟩
   rintro _ ⟨_,_,_,rfl⟩
   refine D B ?_
   obtain ⟨x58,hx58,h⟩:=J h
   refine gX 4 [55,56,57] 58 x58 ((decide ((w.Kids.length:Int)=0))&&(decide (w.Choice=0))) (fun hg58=>?_) (fun hg58=>?_) ?_
   ·replace h:=O hg58 hx58
    refine H B hg58<|M B<|H B hg58<|S B B (B:_=eGMatch w.Match) ?_
    obtain ⟨x57,hx57,h⟩:=J h
    refine H B hg58<|W B (c114 w.Match _ hx57) ?_
    cases h
    refine a2 B hg58 B ?_
    exact ⟨⟨_,_,_,B⟩⟩
   ·replace h:=R hg58 hx58
    cases h
    refine I B hg58<|I B hg58<|I B hg58<|a3 B hg58 B ?_
    exact ⟨⟨_,_,_,B⟩⟩
   rintro _ ⟨_,_,_,rfl⟩
   refine D B ?_
   refine gA 3 [60,61] 62 x58 (decide (x44.2=10)) (fun hg62=>?_) (fun hg62=>?_) ?_
   ·refine H B hg62<|D B<|H B hg62<|b5 B B<|a2 B hg62 B ?_
    exact ⟨⟨_,_,B⟩⟩
   ·refine I B hg62<|I B hg62<|a3 B hg62 B ?_
    exact ⟨⟨_,_,B⟩⟩
   rintro _ ⟨_,_,rfl⟩
   refine D B<|F km1 fun _=>?_
   exact L (by cases h;rfl)
  ·replace h:=R hc35 h
   refine E<|G<|b5 B B<|D B<|F km7 fun _=>?_
   refine U B (fun hc63=>?_) (fun hc63=>?_)
   ·replace h:=O hc63 h
    refine E<|E<|G<|D B<|M B<|K B<|V B (eLCondition_eq _)<|a8 B B<|D B ?_
    refine gO 4 [71,72,73] 74 (!decide ((w.Kids.length:Int)=(c.Kids.length:Int))) (!decide (w.Choice=0)) (fun hg74=>?_) (fun hg74=>?_) ?_
    ·refine I B hg74<|I B hg74<|I B hg74<|a2 B hg74 B ?_
     exact ⟨⟨_,_,_,B⟩⟩
    ·refine H B hg74<|M B<|H B hg74<|K B<|H B hg74<|a8 B B<|a3 B hg74 B ?_
     exact ⟨⟨_,_,_,B⟩⟩
    rintro _ ⟨_,_,_,rfl⟩
    refine D B ?_
    obtain ⟨x80,hx80,h⟩:=J h
    refine gX 5 [76,77,78,79] 80 x80 ((!decide ((w.Kids.length:Int)=(c.Kids.length:Int)))||(!decide (w.Choice=0))) (fun hg80=>?_) (fun hg80=>?_) ?_
    ·replace h:=O hg80 hx80
     cases h
     refine I B hg80<|I B hg80<|I B hg80<|I B hg80<|a2 B hg80 B ?_
     exact ⟨⟨_,_,_,_,B⟩⟩
    ·replace h:=R hg80 hx80
     refine H B hg80<|M B<|H B hg80<|S B B (B:_=eGMatch w.Match) ?_
     obtain ⟨x78,hx78,h⟩:=J h
     refine H B hg80<|W B (c114 w.Match _ hx78)<|H B hg80<|d3 B ?_
     cases h
     refine a3 B hg80 B ?_
     exact ⟨⟨_,_,_,_,B⟩⟩
    rintro _ ⟨_,_,_,_,rfl⟩
    refine F km5 fun _=>?_
    refine U B (fun hc80=>?_) (fun hc80=>?_)
    ·replace h:=O hc80 h
     refine E<|G<|D B<|F km1 fun _=>?_
     exact L (by cases h;rfl)
    ·replace h:=R hc80 h
     refine T km4 fun _=>?_
     refine E<|E<|G<|M B<|K B<|V B (eLCondition_eq _)<|D B<|F km6 fun _=>?_
     obtain ⟨o1,ho1,h⟩:=d4 h
     refine e0 ho1 (fun (i1:Int) (_:Unit)=>[(4,.tv (.pt (econdition_scene s_0).cells)),(6,.tv (.pt (eGMatch m).cells)),(7,.tv (.pt (eProof w).cells)),(82,.tv (eLCondition c.Kids)),(83,.tv (eI (c.Kids.length:Int))),(84,.tv (eI i1))]) (fun (_:Unit)=>[]) (fun zv ze=>resIs ([.tmp 8]) (.sh (eB zv)) ze) B ?_ ?_ ?_ ?_
     ·clear h ho1
      intro i1 s1 r1 hi1 h hw1
      refine E<|G<|X B B<|F km7 fun _=>?_
      refine E<|d0 B (d1 hi1)<|T km6 fun _=>?_
      refine E<|a9<|E<|G<|D B ?_
      obtain ⟨x87,hx87,h⟩:=J h
      refine a4 B B (eLCondition_eq _) hx87 B<|S B B (B:_=eCondition x87)<|d8 B<|D B<|b3 B B B B B<|F (kt<|kt<|kt<|kt<|kb<|kt<|kt<|kt<|kn) fun _=>?_
      refine E<|e2 B<|S B B (B:_=econdition_scene s_0)<|S B B (B:_=eCondition x87)<|S B B (B:_=eGMatch m)<|M B<|K B<|D B ?_
      obtain ⟨x95,hx95,h⟩:=J h
      refine a4 B B (eLProof_eq _) hx95 B<|S B B (B:_=eProof x95) ?_
      obtain ⟨x97,hx97,h⟩:=J h
      refine W B (ih_51 s_0 x87 m x95 _ hx97)<|d3 B<|F km7 fun _=>?_
      refine U B (fun hc98=>?_) (fun hc98=>?_)
      ·replace h:=O hc98 h
       refine E<|G<|D B<|F km1 fun _=>?_
       refine L ?_
       cases h
       exact ⟨_,rfl,rfl⟩
      ·replace h:=R hc98 h
       refine T km6 fun _=>?_
       refine G<|a7 B B<|D B<|F km6 ?_
       cases h
       refine ⟨_,B,?_⟩
       rw [Ktv rfl (Ktv rfl (Ktv rfl (Ktv rfl (Ktv rfl (Ktv rfl (Knil _))))))]
       rw [b6 (a5 (hw1 84)) hi1 (e1 (a5 (hw1 83)))]
       all_goals rfl
     ·intro i1 s1 hi1
      refine E<|G<|X B B<|F km7 fun _=>?_
      refine E<|b9 B (d2 hi1)<|b4 kn ?_
      exact ⟨rfl,rfl⟩
     ·intro s1 hs
      replace h:=d5 h hs
      intro _
      refine E<|G<|D B<|F km1 fun _=>?_
      exact L (by cases h;rfl)
     ·intro v1 ze hv hR
      replace h:=d6 h hv
      cases h
      exact hR
   ·replace h:=R hc63 h
    refine E<|G<|b5 B B<|D B<|F km6 fun _=>?_
    refine U B (fun hc100=>?_) (fun hc100=>?_)
    ·replace h:=O hc100 h
     refine E<|e2 B<|D B<|b5 B B<|D B ?_
     refine gA 4 [105,106,107] 108 (decide ((w.Kids.length:Int)=1)) (decide (0<=w.Choice)) (fun hg108=>?_) (fun hg108=>?_) ?_
     ·refine H B hg108<|M B<|H B hg108<|K B<|H B hg108<|d9 B B<|a2 B hg108 B ?_
      exact ⟨⟨_,_,_,B⟩⟩
     ·refine I B hg108<|I B hg108<|I B hg108<|a3 B hg108 B ?_
      exact ⟨⟨_,_,_,B⟩⟩
     rintro _ ⟨_,_,_,rfl⟩
     refine D B ?_
     refine gA 7 [110,111,112,113,114,115] 116 ((decide ((w.Kids.length:Int)=1))&&(decide (0<=w.Choice))) (decide (w.Choice<(c.Kids.length:Int))) (fun hg116=>?_) (fun hg116=>?_) ?_
     ·refine H B hg116<|M B<|H B hg116<|K B<|H B hg116<|M B<|H B hg116<|K B<|H B hg116<|V B (eLCondition_eq _)<|H B hg116<|X B B<|a2 B hg116 B ?_
      exact ⟨⟨_,_,_,_,_,_,B⟩⟩
     ·refine I B hg116<|I B hg116<|I B hg116<|I B hg116<|I B hg116<|I B hg116<|a3 B hg116 B ?_
      exact ⟨⟨_,_,_,_,_,_,B⟩⟩
     rintro _ ⟨_,_,_,_,_,_,rfl⟩
     refine D B ?_
     obtain ⟨x121,hx121,h⟩:=J h
     refine gX 4 [118,119,120] 121 x121 (((decide ((w.Kids.length:Int)=1))&&(decide (0<=w.Choice)))&&(decide (w.Choice<(c.Kids.length:Int)))) (fun hg121=>?_) (fun hg121=>?_) ?_
     ·replace h:=O hg121 hx121
      refine H B hg121<|M B<|H B hg121<|S B B (B:_=eGMatch w.Match) ?_
      obtain ⟨x120,hx120,h⟩:=J h
      refine H B hg121<|W B (c114 w.Match _ hx120) ?_
      cases h
      refine a2 B hg121 B ?_
      exact ⟨⟨_,_,_,B⟩⟩
     ·replace h:=R hg121 hx121
      cases h
      refine I B hg121<|I B hg121<|I B hg121<|a3 B hg121 B ?_
      exact ⟨⟨_,_,_,B⟩⟩
     rintro _ ⟨_,_,_,rfl⟩
     refine D B ?_
     obtain ⟨x136,hx136,h⟩:=J h
     refine gX 14 [123,124,125,126,127,128,129,130,131,132,133,134,135] 136 x136 x121 (fun hg136=>?_) (fun hg136=>?_) ?_
     ·replace h:=O hg136 hx136
      refine H B hg136<|S B B (B:_=econdition_scene s_0)<|H B hg136<|M B<|H B hg136<|K B<|H B hg136<|M B<|H B hg136<|K B ?_
      obtain ⟨x128,hx128,h⟩:=J h
      refine H B hg136<|a4 B B (eLCondition_eq _) hx128 B<|H B hg136<|S B B (B:_=eCondition x128)<|H B hg136<|S B B (B:_=eGMatch m)<|H B hg136<|M B<|H B hg136<|K B ?_
      obtain ⟨x133,hx133,h⟩:=J h
      refine H B hg136<|a4 B B (eLProof_eq _) hx133 B<|H B hg136<|S B B (B:_=eProof x133) ?_
      obtain ⟨x135,hx135,h⟩:=J h
      refine H B hg136<|W B (ih_51 s_0 x128 m x133 _ hx135) ?_
      cases h
      refine a2 B hg136 B ?_
      exact ⟨⟨_,_,_,_,_,_,_,_,_,_,_,_,_,B⟩⟩
     ·replace h:=R hg136 hx136
      cases h
      refine I B hg136<|I B hg136<|I B hg136<|I B hg136<|I B hg136<|I B hg136<|I B hg136<|I B hg136<|I B hg136<|I B hg136<|I B hg136<|I B hg136<|I B hg136<|a3 B hg136 B ?_
      exact ⟨⟨_,_,_,_,_,_,_,_,_,_,_,_,_,B⟩⟩
     rintro _ ⟨_,_,_,_,_,_,_,_,_,_,_,_,_,rfl⟩
     refine D B<|F km1 fun _=>?_
     exact L (by cases h;rfl)
    ·replace h:=R hc100 h
     refine T km5 fun _=>?_
     refine E<|E<|G<|D B<|a8 B B<|D B ?_
     refine gO 4 [140,141,142] 143 (!decide ((w.Kids.length:Int)=1)) (!decide (w.Choice=0)) (fun hg143=>?_) (fun hg143=>?_) ?_
     ·refine I B hg143<|I B hg143<|I B hg143<|a2 B hg143 B ?_
      exact ⟨⟨_,_,_,B⟩⟩
     ·refine H B hg143<|M B<|H B hg143<|K B<|H B hg143<|a8 B B<|a3 B hg143 B ?_
      exact ⟨⟨_,_,_,B⟩⟩
     rintro _ ⟨_,_,_,rfl⟩
     refine F km5 fun _=>?_
     refine U B (fun hc143=>?_) (fun hc143=>?_)
     ·replace h:=O hc143 h
      refine E<|G<|D B<|F km1 fun _=>?_
      exact L (by cases h;rfl)
     ·replace h:=R hc143 h
      refine T km4 fun _=>?_
      refine E<|G<|S B B (B:_=econdition_scene s_0)<|S B B (B:_=eCondition c)<|S B B (B:_=eGMatch m) ?_
      obtain ⟨x148,hx148,h⟩:=J h
      refine f1 B (c115 s_0 c m _ hx148)<|f0 B<|b2 B B<|b2 B B<|f9 B<|D B<|F km5 fun _=>?_
      refine E<|E<|G<|D B<|a8 B B<|D B ?_
      obtain ⟨x158,hx158,h⟩:=J h
      refine gX 5 [154,155,156,157] 158 x158 (!decide (x148.2=0)) (fun hg158=>?_) (fun hg158=>?_) ?_
      ·replace h:=O hg158 hx158
       cases h
       refine I B hg158<|I B hg158<|I B hg158<|I B hg158<|a2 B hg158 B ?_
       exact ⟨⟨_,_,_,_,B⟩⟩
      ·replace h:=R hg158 hx158
       refine H B hg158<|D B<|H B hg158<|g5 B ?_
       obtain ⟨x156,hx156,h⟩:=J h
       refine H B hg158<|W B (c116 x148.1 (fun y0=>_condition_scene__right_1 y0 w) _ _ (fun y0 r h=>c117 y0 w r h) _ hx156)<|H B hg158<|d3 B ?_
       cases h
       refine a3 B hg158 B ?_
       exact ⟨⟨_,_,_,_,B⟩⟩
      rintro _ ⟨_,_,_,_,rfl⟩
      refine F km4 fun _=>?_
      refine U B (fun hc158=>?_) (fun hc158=>?_)
      ·replace h:=O hc158 h
       refine E<|G<|D B<|F km1 fun _=>?_
       exact L (by cases h;rfl)
      ·replace h:=R hc158 h
       refine T km3 fun _=>?_
       refine E<|e2 B<|S B B (B:_=econdition_scene s_0)<|M B<|K B ?_
       obtain ⟨x162,hx162,h⟩:=J h
       refine a4 B B (eLCondition_eq _) hx162 B<|S B B (B:_=eCondition x162)<|M B<|S B B (B:_=eGMatch w.Match)<|M B<|K B ?_
       obtain ⟨x168,hx168,h⟩:=J h
       refine a4 B B (eLProof_eq _) hx168 B<|S B B (B:_=eProof x168) ?_
       obtain ⟨x170,hx170,h⟩:=J h
       refine W B (ih_51 s_0 x162 w.Match x168 _ hx170)<|D B<|F km1 fun _=>?_
       exact L (by cases h;rfl)
theorem c51A:∀ n:Nat,(∀ (s_0:condition_scene) (c:Condition) (m:GMatch) (w:Proof) (r:Bool) (_:_condition_scene__rightF n s_0 c m w=some r),Sound prog 51 [econdition_scene s_0,eCondition c,eGMatch m,eProof w] (.sh (eB r))):=by
  intro n
  induction n with
  | zero=>intro s_0 c m w r h; cases h
  | succ n ih=>exact c51S n ih
theorem c51 (s_0:condition_scene) (c:Condition) (m:GMatch) (w:Proof) (r:Bool) (h:_condition_scene__right s_0 c m w=some r):Sound prog 51 [econdition_scene s_0,eCondition c,eGMatch m,eProof w] (.sh (eB r)):=by
  obtain ⟨N,hN⟩:=lim_some h
  exact (c51A N) s_0 c m w r (hN N (Nat.le_refl _))
theorem ck23:CK f23 (Rq [Af 7 0,Af 8 1,Af 9 2,Af 10 3,Af 11 4,Af 13 6,Aj 14] [5,7,8,9,10,11,13]<|Rq [Ae 15 7 2,Ae 16 8 5,Ae 17 9 9,Ae 18 10 3,Ae 19 11 3,Aa 20 5,Fi 21 47 15 16 17 18 19 20,Az 22 21 0,Aa 23 22,Bh 24 7 2 23,Bh 25 10 3 23,At 26 5 23,⟨some 27,.bld [.list 4 [],.list 7 [],.list 1 [],.list 3 [],.list 1 [],.bool false] [(0,2,.s 24),(2,3,.s 25),(5,1,.s 26)],some (23,true)⟩,Bh 28 9 9 23,Bh 29 11 3 23,Bh 30 13 5 23,⟨some 31,.call 51 [.s 27,.s 28,.s 29,.s 30],some (23,true)⟩,Aq 32 23 31,Aa 14 32] [14]<|.ret) [.tmp 14]:= by decide +kernel
theorem c23 (t:Types) (p:Pattern) (c:Condition) (h_3:Host) (m:GMatch) (injective:Bool) (w:Proof) (r:Bool) (h:condition_CheckWitness t p c h_3 m injective w=some r):Sound prog 23 [eTypes t,ePattern p,eCondition c,eHost h_3,eGMatch m,eB injective,eProof w] (.sh (eB r)):= by
 refine Fn ck23 fun hw=>?_
 unfold condition_CheckWitness at h
 refine E<|G<|Y B B<|Y B B<|Y B B<|Y B B<|Y B B<|Y B B<|D B<|F km7 fun _=>?_
 refine E<|G<|S B B (B:_=eTypes t)<|S B B (B:_=ePattern p)<|S B B (B:_=eCondition c)<|S B B (B:_=eHost h_3)<|S B B (B:_=eGMatch m)<|D B ?_
 obtain ⟨x21,hx21,h⟩:=J h
 refine W B (c47 t p c h_3 m injective _ hx21)<|b5 B B<|D B ?_
 obtain ⟨x32,hx32,h⟩:=J h
 refine gX 9 [24,25,26,27,28,29,30,31] 32 x32 (decide (x21=0)) (fun hg32=>?_) (fun hg32=>?_) ?_
 ·replace h:=O hg32 hx32
  refine H B hg32<|S B B (B:_=eTypes t)<|H B hg32<|S B B (B:_=eHost h_3)<|H B hg32<|D B<|H B hg32<|g2 B B B (B:_=econdition_scene (condition_scene.mk t h_3 injective))<|H B hg32<|S B B (B:_=eCondition c)<|H B hg32<|S B B (B:_=eGMatch m)<|H B hg32<|S B B (B:_=eProof w) ?_
  obtain ⟨x31,hx31,h⟩:=J h
  refine H B hg32<|W B (c51 (condition_scene.mk t h_3 injective) c m w _ hx31) ?_
  cases h
  refine a2 B hg32 B ?_
  exact ⟨⟨_,_,_,_,_,_,_,_,B⟩⟩
 ·replace h:=R hg32 hx32
  cases h
  refine I B hg32<|I B hg32<|I B hg32<|I B hg32<|I B hg32<|I B hg32<|I B hg32<|I B hg32<|a3 B hg32 B ?_
  exact ⟨⟨_,_,_,_,_,_,_,_,B⟩⟩
 rintro _ ⟨_,_,_,_,_,_,_,_,rfl⟩
 refine D B<|F km1 fun _=>?_
 exact L (by cases h;rfl)
theorem ck35:CK f35 (Rq [Cs 0 4 7] [0]<|Rq [⟨some 1,.bld [.str ⟨#[]⟩,.int .i64 0,.int .i64 0,.list 1 []] [(0,1,.c (.str ⟨#[98,97,108,97,110,99,101]⟩)),(1,1,.c (.int .i64 (-1000))),(2,1,.c (.int .i64 1000))],none⟩,Bn 2 4 1,⟨some 3,.bld [.str ⟨#[]⟩,.int .i64 0,.bool false,.list 4 []] [(0,1,.c (.str ⟨#[65,99,99,111,117,110,116]⟩)),(1,1,.c (.int .i64 (-1))),(2,1,.c (.bool true)),(3,1,.s 2)],none⟩,⟨some 4,.bld [.str ⟨#[]⟩,.int .i64 0,.bool false,.list 4 []] [(0,1,.c (.str ⟨#[67,97,115,104]⟩)),(1,1,.c (.int .i64 0))],none⟩,⟨some 5,.lst 1 [.c (.str ⟨#[111,112,101,110]⟩),.c (.str ⟨#[99,108,111,115,101,100]⟩)],none⟩,⟨some 6,.bld [.str ⟨#[]⟩,.int .i64 0,.int .i64 0,.list 1 []] [(0,1,.c (.str ⟨#[115,116,97,116,101]⟩)),(2,1,.c (.int .i64 1)),(3,1,.s 5)],none⟩,Bn 7 4 6,⟨some 8,.bld [.str ⟨#[]⟩,.int .i64 0,.bool false,.list 4 []] [(0,1,.c (.str ⟨#[76,111,97,110]⟩)),(1,1,.c (.int .i64 0)),(3,1,.s 7)],none⟩,⟨some 9,.bld [.str ⟨#[]⟩,.int .i64 0,.bool false,.list 4 []] [(0,1,.c (.str ⟨#[80,101,114,115,111,110]⟩)),(1,1,.c (.int .i64 (-1)))],none⟩,⟨some 10,.lst 4 [.s 3,.s 4,.s 8,.s 9],none⟩,⟨some 11,.bld [.str ⟨#[]⟩,.int .i64 0,.int .i64 0,.int .i64 0,.int .i64 0,.int .i64 0,.int .i64 0] [(0,1,.c (.str ⟨#[111,119,110,115]⟩)),(1,1,.c (.int .i64 3)),(2,1,.c (.int .i64 0)),(4,1,.c (.int .i64 (-1))),(5,1,.c (.int .i64 1)),(6,1,.c (.int .i64 1))],none⟩,⟨some 12,.bld [.str ⟨#[]⟩,.int .i64 0,.int .i64 0,.int .i64 0,.int .i64 0,.int .i64 0,.int .i64 0] [(0,1,.c (.str ⟨#[112,97,121,115]⟩)),(1,1,.c (.int .i64 1)),(2,1,.c (.int .i64 1)),(4,1,.c (.int .i64 (-1))),(6,1,.c (.int .i64 (-1)))],none⟩,Cz 13 7 11 12,⟨some 14,.bldo [10,13],none⟩,⟨none,.stx 2 0 14,none⟩] [0]<|.ret) [.cell 0 (some 2)]:= by decide +kernel
theorem c35  (r:Types) (h:ref04_Example =some r):Sound prog 35 [] (.oag [⟨true,lN r.Nodes⟩,⟨true,lX r.Edges⟩]):= by
 refine Fn ck35 fun hw=>?_
 unfold ref04_Example at h
 refine E<|G<|d8 B<|F (kb<|kn) fun _=>?_
 refine E<|G<|e5 B B (B:_=eAttr (Attr.mk (⟨#[98,97,108,97,110,99,101]⟩:ByteArray) (-1000) 1000 []))<|e9 (e:=eAttr) (l:=[Attr.mk (⟨#[98,97,108,97,110,99,101]⟩:ByteArray) (-1000) 1000 []]) B B (fun _=>rfl)<|g2 B B B (B:_=eNodeType (NodeType.mk (⟨#[65,99,99,111,117,110,116]⟩:ByteArray) (-1) true [Attr.mk (⟨#[98,97,108,97,110,99,101]⟩:ByteArray) (-1000) 1000 []]))<|e5 B B (B:_=eNodeType (NodeType.mk (⟨#[67,97,115,104]⟩:ByteArray) 0 false []))<|e9 (e:=eS) (l:=[(⟨#[111,112,101,110]⟩:ByteArray),(⟨#[99,108,111,115,101,100]⟩:ByteArray)]) B B (fun _=>rfl)<|e5 B B (B:_=eAttr (Attr.mk (⟨#[115,116,97,116,101]⟩:ByteArray) 0 1 [(⟨#[111,112,101,110]⟩:ByteArray),(⟨#[99,108,111,115,101,100]⟩:ByteArray)]))<|e9 (e:=eAttr) (l:=[Attr.mk (⟨#[115,116,97,116,101]⟩:ByteArray) 0 1 [(⟨#[111,112,101,110]⟩:ByteArray),(⟨#[99,108,111,115,101,100]⟩:ByteArray)]]) B B (fun _=>rfl)<|e5 B B (B:_=eNodeType (NodeType.mk (⟨#[76,111,97,110]⟩:ByteArray) 0 false [Attr.mk (⟨#[115,116,97,116,101]⟩:ByteArray) 0 1 [(⟨#[111,112,101,110]⟩:ByteArray),(⟨#[99,108,111,115,101,100]⟩:ByteArray)]]))<|e5 B B (B:_=eNodeType (NodeType.mk (⟨#[80,101,114,115,111,110]⟩:ByteArray) (-1) false []))<|e9 (e:=eNodeType) (l:=[NodeType.mk (⟨#[65,99,99,111,117,110,116]⟩:ByteArray) (-1) true [Attr.mk (⟨#[98,97,108,97,110,99,101]⟩:ByteArray) (-1000) 1000 []],NodeType.mk (⟨#[67,97,115,104]⟩:ByteArray) 0 false [],NodeType.mk (⟨#[76,111,97,110]⟩:ByteArray) 0 false [Attr.mk (⟨#[115,116,97,116,101]⟩:ByteArray) 0 1 [(⟨#[111,112,101,110]⟩:ByteArray),(⟨#[99,108,111,115,101,100]⟩:ByteArray)]],NodeType.mk (⟨#[80,101,114,115,111,110]⟩:ByteArray) (-1) false []]) B B (fun _=>rfl)<|e5 B B (B:_=eEdgeType (EdgeType.mk (⟨#[111,119,110,115]⟩:ByteArray) 3 0 0 (-1) 1 1))<|e5 B B (B:_=eEdgeType (EdgeType.mk (⟨#[112,97,121,115]⟩:ByteArray) 1 1 0 (-1) 0 (-1)))<|e9 (e:=eEdgeType) (l:=[EdgeType.mk (⟨#[111,119,110,115]⟩:ByteArray) 3 0 0 (-1) 1 1,EdgeType.mk (⟨#[112,97,121,115]⟩:ByteArray) 1 1 0 (-1) 0 (-1)]) B B (fun _=>rfl)<|t8 (by decide) (by decide) B B B<|t9 B B (by decide) B B B B<|F (kb<|kn) fun _=>?_
 exact L (by cases h;exact ⟨rfl,rfl⟩)
theorem ck36:CK f36 (Rq [Fs 0 1 3 4 0 5 0 9 1 1 1 3 4 0 5] [0]<|Rq [Em 6 1 3 0,Dp 7 0 0 0 1 1 0 2 1 1,Bn 8 3 7,Ct 9 1 3 0 1 6 1 1 8,Cs 1 1 3,Al 2 1 9] [0,1]<|Rq [Ft 10 1 3 0 0,Dp 11 0 0 0 1 1 0 2 1 1,Dp 12 0 0 0 1 1 0 2 1 2,Cz 13 3 11 12,Ct 14 1 3 0 1 10 1 1 13,Cs 2 1 3,Al 2 2 14] [0,1,2]<|Rq [En 15 0 0 0 1 0,Fu 16 0 0 0 0 0 1 1 2 2 15,Dl 3 0 0 0 0,Al 4 3 16] [0,1,2,3]<|Rq [Ae 17 2 2,Ae 18 3 4,En 19 0 0 0 1 1,Fu 20 0 0 0 0 0 1 2 2 2 19,Cz 21 4 18 20,En 22 0 0 0 1 0,En 23 0 0 0 1 1,⟨some 24,.bld [.int .i64 0,.int .i64 0,.int .i64 0,.int .i64 0,.int .i64 0] [(0,1,.c (.int .i64 1)),(1,2,.s 22),(3,2,.s 23)],none⟩,Bn 25 5 24,⟨some 26,.bld [.list 1 [],.list 3 [],.list 4 [],.int .i64 0,.list 5 []] [(0,2,.s 17),(3,1,.c (.int .i64 2)),(2,1,.s 21),(4,1,.s 25)],none⟩,Ee 4 1 3 4 0 5,Al 5 4 26] [0,1,3,4]<|Rq [Em 27 1 0 1,Db 28 1 0,Ct 29 1 1 0 1 27 1 1 28,Ae 30 4 5,⟨some 31,.bld [.int .i64 0,.list 9 [],.list 1 [],.list 1 [],.list 1 [],.list 3 [],.list 4 [],.int .i64 0,.list 5 []] [(0,1,.c (.int .i64 1))],none⟩,Bn 32 9 31,⟨some 33,.bld [.int .i64 0,.list 9 [],.list 1 [],.list 1 [],.list 1 [],.list 3 [],.list 4 [],.int .i64 0,.list 5 []] [(0,1,.c (.int .i64 5)),(2,2,.s 29),(4,5,.s 30),(1,1,.s 32)],none⟩,Df 5 0 9 1 1 1 3 4 0 5,Al 9 5 33] [0,1,3,5]<|Rq [Ae 34 1 2,Ae 35 3 4,Bn 36 4 35,⟨some 37,.bld [.list 1 [],.list 3 [],.list 4 [],.int .i64 0,.list 5 []] [(0,2,.s 34),(3,1,.c (.int .i64 1)),(2,1,.s 36)],none⟩,Ae 38 5 9,⟨some 39,.bld [.list 1 [],.list 3 [],.list 4 [],.int .i64 0,.list 5 [],.int .i64 0,.list 9 [],.list 1 [],.list 1 [],.list 1 [],.list 3 [],.list 4 [],.int .i64 0,.list 5 []] [(0,5,.s 37),(5,9,.s 38)],none⟩,Al 14 0 39] [0]<|.ret) [.cell 0 (some 14)]:= by decide +kernel
theorem c36  (r:law22_Over) (h:law22_another =some r):Sound prog 36 [] (.sh (elaw22_Over r)):= by
 refine Fn ck36 fun hw=>?_
 unfold law22_another at h
 refine E<|G<|d8 B<|F (kb<|kn) fun _=>?_
 refine E<|G<|e9 (e:=eI) (l:=[3,0]) B B (fun _=>rfl)<|e5 B B (B:_=eEdge (Edge.mk 0 0 1))<|e9 (e:=eEdge) (l:=[Edge.mk 0 0 1]) B B (fun _=>rfl)<|g2 B B B (B:_=eGraph (Graph.mk [3,0] [Edge.mk 0 0 1]))<|d8 B<|b3 B B B B B<|F (kb<|kb<|kn) fun _=>?_
 refine E<|G<|e9 (e:=eI) (l:=[3,0,0]) B B (fun _=>rfl)<|e5 B B (B:_=eEdge (Edge.mk 0 0 1))<|e5 B B (B:_=eEdge (Edge.mk 0 0 2))<|e9 (e:=eEdge) (l:=[Edge.mk 0 0 1,Edge.mk 0 0 2]) B B (fun _=>rfl)<|g2 B B B (B:_=eGraph (Graph.mk [3,0,0] [Edge.mk 0 0 1,Edge.mk 0 0 2]))<|d8 B<|b3 B B B B B<|F (kb<|kb<|kb<|kn) fun _=>?_
 refine E<|G<|e5 B B (B:_=eTerm (Term.mk 0 0))<|e5 B B (B:_=eSlot (Slot.mk 1 0 (Term.mk 0 0)))<|d8 B<|b3 B B B B B<|F (kb<|kb<|kb<|kb<|kn) fun _=>?_
 refine E<|G<|S B B (B:_=eGraph (Graph.mk [3,0,0] [Edge.mk 0 0 1,Edge.mk 0 0 2]))<|S B B (B:_=eSlot (Slot.mk 1 0 (Term.mk 0 0)))<|e5 B B (B:_=eTerm (Term.mk 1 0))<|e5 B B (B:_=eSlot (Slot.mk 2 0 (Term.mk 1 0)))<|e9 (e:=eSlot) (l:=[Slot.mk 1 0 (Term.mk 0 0),Slot.mk 2 0 (Term.mk 1 0)]) B B (fun _=>rfl)<|e5 B B (B:_=eTerm (Term.mk 0 0))<|e5 B B (B:_=eTerm (Term.mk 1 0))<|g2 B B B (B:_=eTest (Test.mk 1 (Term.mk 0 0) (Term.mk 1 0)))<|e9 (e:=eTest) (l:=[Test.mk 1 (Term.mk 0 0) (Term.mk 1 0)]) B B (fun _=>rfl)<|e5 B B (B:_=ePattern (Pattern.mk (Graph.mk [3,0,0] [Edge.mk 0 0 1,Edge.mk 0 0 2]) [Slot.mk 1 0 (Term.mk 0 0),Slot.mk 2 0 (Term.mk 1 0)] 2 [Test.mk 1 (Term.mk 0 0) (Term.mk 1 0)]))<|d8 B<|b3 B B B B B<|F (kb<|kb<|kb<|kb<|kn) fun _=>?_
 refine E<|G<|e9 (e:=eI) (l:=[0,1]) B B (fun _=>rfl)<|e9 (e:=eI) (l:=[0]) B B (fun _=>rfl)<|g2 B B B (B:_=eMorphism (Morphism.mk [0,1] [0]))<|S B B (B:_=ePattern (Pattern.mk (Graph.mk [3,0,0] [Edge.mk 0 0 1,Edge.mk 0 0 2]) [Slot.mk 1 0 (Term.mk 0 0),Slot.mk 2 0 (Term.mk 1 0)] 2 [Test.mk 1 (Term.mk 0 0) (Term.mk 1 0)]))<|e5 B B (show _=eCondition (Condition.mk 1 [] (Morphism.mk [] []) (Pattern.mk (Graph.mk [] []) [] 0 [])) from B)<|m9 (e:=eCondition) (l:=[Condition.mk 1 [] (Morphism.mk [] []) (Pattern.mk (Graph.mk [] []) [] 0 [])]) B B (fun _=>rfl) (show eLCondition [Condition.mk 1 [] (Morphism.mk [] []) (Pattern.mk (Graph.mk [] []) [] 0 [])]=_ from eLCondition_lst _)<|e5 B B (show _=eCondition (Condition.mk 5 [Condition.mk 1 [] (Morphism.mk [] []) (Pattern.mk (Graph.mk [] []) [] 0 [])] (Morphism.mk [0,1] [0]) (Pattern.mk (Graph.mk [3,0,0] [Edge.mk 0 0 1,Edge.mk 0 0 2]) [Slot.mk 1 0 (Term.mk 0 0),Slot.mk 2 0 (Term.mk 1 0)] 2 [Test.mk 1 (Term.mk 0 0) (Term.mk 1 0)])) from B)<|d8 B<|b3 B B B B B<|F (kb<|kb<|kb<|kb<|kn) fun _=>?_
 refine E<|G<|S B B (B:_=eGraph (Graph.mk [3,0] [Edge.mk 0 0 1]))<|S B B (B:_=eSlot (Slot.mk 1 0 (Term.mk 0 0)))<|e9 (e:=eSlot) (l:=[Slot.mk 1 0 (Term.mk 0 0)]) B B (fun _=>rfl)<|e5 B B (B:_=ePattern (Pattern.mk (Graph.mk [3,0] [Edge.mk 0 0 1]) [Slot.mk 1 0 (Term.mk 0 0)] 1 []))<|S B B (show _=eCondition (Condition.mk 5 [Condition.mk 1 [] (Morphism.mk [] []) (Pattern.mk (Graph.mk [] []) [] 0 [])] (Morphism.mk [0,1] [0]) (Pattern.mk (Graph.mk [3,0,0] [Edge.mk 0 0 1,Edge.mk 0 0 2]) [Slot.mk 1 0 (Term.mk 0 0),Slot.mk 2 0 (Term.mk 1 0)] 2 [Test.mk 1 (Term.mk 0 0) (Term.mk 1 0)])) from B)<|g2 B B B (show _=elaw22_Over (law22_Over.mk (Pattern.mk (Graph.mk [3,0] [Edge.mk 0 0 1]) [Slot.mk 1 0 (Term.mk 0 0)] 1 []) (Condition.mk 5 [Condition.mk 1 [] (Morphism.mk [] []) (Pattern.mk (Graph.mk [] []) [] 0 [])] (Morphism.mk [0,1] [0]) (Pattern.mk (Graph.mk [3,0,0] [Edge.mk 0 0 1,Edge.mk 0 0 2]) [Slot.mk 1 0 (Term.mk 0 0),Slot.mk 2 0 (Term.mk 1 0)] 2 [Test.mk 1 (Term.mk 0 0) (Term.mk 1 0)]))) from B)<|b3 B B B B B<|F (kb<|kn) fun _=>?_
 exact L (by cases h;rfl)
theorem ck11:CK f11 (Rq [Aj 0] []<|Rq [Dq 10 35,Dq 11 36,Cs 1 4 7,Fs 2 1 3 4 0 5 0 9 1 1 1 3 4 0 5,Al 2 1 10,Al 14 2 11] [1,2]<|Rq [Ft 12 1 3 1 1,Dp 13 0 0 0 1 1 0 2 1 1,Dp 14 0 0 0 1 1 0 2 1 2,Cz 15 3 13 14,Ct 16 1 3 0 1 12 1 1 15,Db 17 1 10,Db 18 1 5,⟨some 19,.lst 1 [.c (.list 1 []),.s 17,.s 18],none⟩,Ej 20 1 3 1 0 2 16 2 1 19,Ek 3 1 3 1,Al 3 3 20] [1,2,3]<|Rq [Em 21 1 0 2,Db 22 1 1,Ct 23 1 1 0 1 21 1 1 22,Db 24 1 5,Ej 25 1 1 1 0 2 23 2 1 24,Ek 4 1 1 1,Al 3 4 25] [1,2,3,4]<|Rq [Em 26 1 0 1,Db 27 1 0,Ct 28 1 1 0 1 26 1 1 27,Db 29 1 10,Ej 30 1 1 1 0 2 28 2 1 29,Ek 5 1 1 1,Al 3 5 30] [1,2,3,4,5]<|Rq [Ae 32 1 2,Ac 33 2 0,Ae 34 33 5,Ac 35 2 5,Ae 36 35 9,Ae 37 3 3,Ae 38 4 3,Fv 39 20 32 34 36 37 38,Aa 31 39,Ak 40 31 0,Ak 41 31 1,Cd 6 0 1 1 1 5,Al 5 6 40,Aa 7 41] [1,2,3,4,5,6,7]<|Rq [Ae 43 1 2,Ac 44 2 0,Ae 45 44 5,Ac 46 2 5,Ae 47 46 9,Ae 48 3 3,Ae 49 5 3,Fv 50 18 43 45 47 48 49,Aa 42 50,Ak 51 42 0,Ak 52 42 1,Aa 8 51,Aa 9 52] [1,2,3,4,6,7,8,9]<|Rq [Aa 53 7,Az 54 53 0,Aa 55 54,At 56 9 55,Ci 57 56 0 55,Aq 58 55 57,Aa 59 58,At 60 8 59,Dn 61 60 59,Aq 62 59 61,Aa 63 62,Ax 64 6 1 63,Cj 65 64 2 63,Ay 66 65 63,Cb 67 66 63,Ci 68 67 2 63,Aq 69 63 68,Aa 70 69,Ax 71 6 1 70,Cj 72 71 2 70,Ay 73 72 70,⟨some 74,.iad (.s 73) (.c (.int .i64 1)) 1,some (70,true)⟩,Ay 75 74 70,Ci 76 75 10 70,Aq 77 70 76,Aa 78 77,Bh 79 1 2 78,Ax 80 2 0 78,Bh 81 80 5 78,Ax 82 2 5 78,Bh 83 82 9 78,Bh 84 3 3 78,Bh 85 4 3 78,Bh 86 6 5 78,⟨some 87,.call 23 [.s 79,.s 81,.s 83,.s 84,.s 85,.c (.bool true),.s 86],some (78,true)⟩,Aq 88 78 87,Aa 0 88] [0]<|.ret) [.tmp 0]:= by decide +kernel
theorem c11  (r:Bool) (h:law22_awake =some r):Sound prog 11 [] (.sh (eB r)):= by
 refine Fn ck11 fun hw=>?_
 unfold law22_awake at h
 refine E<|G<|D B<|F kn fun _=>?_
 refine E<|G ?_
 obtain ⟨x10,hx10,h⟩:=J h
 refine u0 B (c35  _ hx10) (B:_=eTypes x10) ?_
 obtain ⟨x11,hx11,h⟩:=J h
 refine W B (c36  _ hx11)<|d8 B<|d8 B<|b3 B B B B B<|b3 B B B B B<|F (kb<|kb<|kn) fun _=>?_
 refine E<|G<|e9 (e:=eI) (l:=[3,1,1]) B B (fun _=>rfl)<|e5 B B (B:_=eEdge (Edge.mk 0 0 1))<|e5 B B (B:_=eEdge (Edge.mk 0 0 2))<|e9 (e:=eEdge) (l:=[Edge.mk 0 0 1,Edge.mk 0 0 2]) B B (fun _=>rfl)<|g2 B B B (B:_=eGraph (Graph.mk [3,1,1] [Edge.mk 0 0 1,Edge.mk 0 0 2]))<|e9 (e:=eI) (l:=[10]) B B (fun _=>rfl)<|e9 (e:=eI) (l:=[5]) B B (fun _=>rfl)<|e9 (e:=lI) (l:=[[],[10],[5]]) B B (fun _=>rfl)<|g2 B B B (B:_=eHost (Host.mk (Graph.mk [3,1,1] [Edge.mk 0 0 1,Edge.mk 0 0 2]) [[],[10],[5]]))<|d8 B<|b3 B B B B B<|F (kb<|kb<|kb<|kn) fun _=>?_
 refine E<|G<|e9 (e:=eI) (l:=[0,2]) B B (fun _=>rfl)<|e9 (e:=eI) (l:=[1]) B B (fun _=>rfl)<|g2 B B B (B:_=eMorphism (Morphism.mk [0,2] [1]))<|e9 (e:=eI) (l:=[5]) B B (fun _=>rfl)<|g2 B B B (B:_=eGMatch (GMatch.mk (Morphism.mk [0,2] [1]) [5]))<|d8 B<|b3 B B B B B<|F (kb<|kb<|kb<|kb<|kn) fun _=>?_
 refine E<|G<|e9 (e:=eI) (l:=[0,1]) B B (fun _=>rfl)<|e9 (e:=eI) (l:=[0]) B B (fun _=>rfl)<|g2 B B B (B:_=eMorphism (Morphism.mk [0,1] [0]))<|e9 (e:=eI) (l:=[10]) B B (fun _=>rfl)<|g2 B B B (B:_=eGMatch (GMatch.mk (Morphism.mk [0,1] [0]) [10]))<|d8 B<|b3 B B B B B<|F (kb<|kb<|kb<|kb<|kb<|kn) fun _=>?_
 refine E<|G<|S B B (B:_=eTypes x10)<|a6 B<|S B B (B:_=ePattern x11.P)<|a6 B<|S B B (B:_=eCondition x11.C)<|S B B (B:_=eHost (Host.mk (Graph.mk [3,1,1] [Edge.mk 0 0 1,Edge.mk 0 0 2]) [[],[10],[5]]))<|S B B (B:_=eGMatch (GMatch.mk (Morphism.mk [0,2] [1]) [5])) ?_
 obtain ⟨x39,hx39,h⟩:=J h
 refine f1 B (c20 x10 x11.P x11.C (Host.mk (Graph.mk [3,1,1] [Edge.mk 0 0 1,Edge.mk 0 0 2]) [[],[10],[5]]) (GMatch.mk (Morphism.mk [0,2] [1]) [5]) true _ hx39)<|f0 B<|b2 B B<|b2 B B<|d8 B<|b3 B B B B B<|D B<|F (kb<|kb<|kb<|kb<|kb<|kb<|kt<|kn) fun _=>?_
 refine E<|G<|S B B (B:_=eTypes x10)<|a6 B<|S B B (B:_=ePattern x11.P)<|a6 B<|S B B (B:_=eCondition x11.C)<|S B B (B:_=eHost (Host.mk (Graph.mk [3,1,1] [Edge.mk 0 0 1,Edge.mk 0 0 2]) [[],[10],[5]]))<|S B B (B:_=eGMatch (GMatch.mk (Morphism.mk [0,1] [0]) [10])) ?_
 obtain ⟨x50,hx50,h⟩:=J h
 refine f1 B (c18 x10 x11.P x11.C (Host.mk (Graph.mk [3,1,1] [Edge.mk 0 0 1,Edge.mk 0 0 2]) [[],[10],[5]]) (GMatch.mk (Morphism.mk [0,1] [0]) [10]) true _ hx50)<|f0 B<|b2 B B<|b2 B B<|D B<|D B<|F (kb<|kb<|kb<|kb<|kb<|kt<|kt<|kt<|kn) fun _=>?_
 refine E<|G<|D B<|b5 B B<|D B ?_
 refine gA 3 [56,57] 58 (decide (x39.2=0)) (decide (x50.2=0)) (fun hg58=>?_) (fun hg58=>?_) ?_
 ·refine H B hg58<|D B<|H B hg58<|b5 B B<|a2 B hg58 B ?_
  exact ⟨⟨_,_,B⟩⟩
 ·refine I B hg58<|I B hg58<|a3 B hg58 B ?_
  exact ⟨⟨_,_,B⟩⟩
 rintro _ ⟨_,_,rfl⟩
 refine D B ?_
 refine gA 3 [60,61] 62 ((decide (x39.2=0))&&(decide (x50.2=0))) (!x50.1) (fun hg62=>?_) (fun hg62=>?_) ?_
 ·refine H B hg62<|D B<|H B hg62<|d3 B<|a2 B hg62 B ?_
  exact ⟨⟨_,_,B⟩⟩
 ·refine I B hg62<|I B hg62<|a3 B hg62 B ?_
  exact ⟨⟨_,_,B⟩⟩
 rintro _ ⟨_,_,rfl⟩
 refine D B ?_
 refine gA 6 [64,65,66,67,68] 69 (((decide (x39.2=0))&&(decide (x50.2=0)))&&(!x50.1)) (decide ((x39.1.Match.Vars.length:Int)=2)) (fun hg69=>?_) (fun hg69=>?_) ?_
 ·refine H B hg69<|a6 B<|H B hg69<|b7 B B<|H B hg69<|K B<|H B hg69<|V B B<|H B hg69<|b5 B B<|a2 B hg69 B ?_
  exact ⟨⟨_,_,_,_,_,B⟩⟩
 ·refine I B hg69<|I B hg69<|I B hg69<|I B hg69<|I B hg69<|a3 B hg69 B ?_
  exact ⟨⟨_,_,_,_,_,B⟩⟩
 rintro _ ⟨_,_,_,_,_,rfl⟩
 refine D B ?_
 obtain ⟨x77,hx77,h⟩:=J h
 refine gX 7 [71,72,73,74,75,76] 77 x77 ((((decide (x39.2=0))&&(decide (x50.2=0)))&&(!x50.1))&&(decide ((x39.1.Match.Vars.length:Int)=2))) (fun hg77=>?_) (fun hg77=>?_) ?_
 ·replace h:=O hg77 hx77
  refine H B hg77<|a6 B<|H B hg77<|b7 B B<|H B hg77<|K B ?_
  obtain ⟨x74,hx74,h⟩:=J h
  refine H B hg77<|a4 B B B hx74 B<|H B hg77<|K B<|H B hg77<|b5 B B ?_
  cases h
  refine a2 B hg77 B ?_
  exact ⟨⟨_,_,_,_,_,_,B⟩⟩
 ·replace h:=R hg77 hx77
  cases h
  refine I B hg77<|I B hg77<|I B hg77<|I B hg77<|I B hg77<|I B hg77<|a3 B hg77 B ?_
  exact ⟨⟨_,_,_,_,_,_,B⟩⟩
 rintro _ ⟨_,_,_,_,_,_,rfl⟩
 refine D B ?_
 obtain ⟨x88,hx88,h⟩:=J h
 refine gX 10 [79,80,81,82,83,84,85,86,87] 88 x88 x77 (fun hg88=>?_) (fun hg88=>?_) ?_
 ·replace h:=O hg88 hx88
  refine H B hg88<|S B B (B:_=eTypes x10)<|H B hg88<|a6 B<|H B hg88<|S B B (B:_=ePattern x11.P)<|H B hg88<|a6 B<|H B hg88<|S B B (B:_=eCondition x11.C)<|H B hg88<|S B B (B:_=eHost (Host.mk (Graph.mk [3,1,1] [Edge.mk 0 0 1,Edge.mk 0 0 2]) [[],[10],[5]]))<|H B hg88<|S B B (B:_=eGMatch (GMatch.mk (Morphism.mk [0,2] [1]) [5]))<|H B hg88<|S B B (B:_=eProof x39.1) ?_
  obtain ⟨x87,hx87,h⟩:=J h
  refine H B hg88<|W B (c23 x10 x11.P x11.C (Host.mk (Graph.mk [3,1,1] [Edge.mk 0 0 1,Edge.mk 0 0 2]) [[],[10],[5]]) (GMatch.mk (Morphism.mk [0,2] [1]) [5]) true x39.1 _ hx87) ?_
  cases h
  refine a2 B hg88 B ?_
  exact ⟨⟨_,_,_,_,_,_,_,_,_,B⟩⟩
 ·replace h:=R hg88 hx88
  cases h
  refine I B hg88<|I B hg88<|I B hg88<|I B hg88<|I B hg88<|I B hg88<|I B hg88<|I B hg88<|I B hg88<|a3 B hg88 B ?_
  exact ⟨⟨_,_,_,_,_,_,_,_,_,B⟩⟩
 rintro _ ⟨_,_,_,_,_,_,_,_,_,rfl⟩
 refine D B<|F km1 fun _=>?_
 exact L (by cases h;rfl)
end Go.Sf.Sc
