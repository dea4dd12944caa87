/- Contracts of the functions. -/
import Derived.Test.YtbedpmpjdnooiaaGreatCon2
import Derived.Test.YtbedpmpjdnooiaaGreatTryzShelf
set_option maxRecDepth 100000
namespace Go.Sf.Sc
open Go Go.Sf Go.Proofs.Tryz
theorem ck16:CK f16 (Rq [Af 3 0,Af 4 1,Af 5 2,Ad 6 0] [3,4,5]<|Sq (Rq [Ae 9 3 2,Ae 10 4 2,Al 11 57 9 10,Aa 7 11] [3,5,7]<|Rq [Aa 12 7,Ax 13 12 0] [3,5,7,13]<|Co 13 (Rq [Aa 14 7,Aa 6 14] [6]<|.ret)<|Sk [3,5])<|Sq (Rq [Ae 15 3 2,Ae 16 5 25,Al 17 42 15 16,Aa 8 17] [3,5,8]<|Rq [Aa 18 8,Ax 19 18 0] [3,5,8,19]<|Co 19 (Rq [Aa 20 8,Aa 6 20] [6]<|.ret)<|Sk [3,5])<|Sq (Rq [Ae 21 5 25,Au 22 58 21,Ay 23 22] [3,5,23]<|Co 23 (Rq [Ad 6 8] [6]<|.ret)<|Sk [3,5])<|Sq (Rq [Ae 24 3 2,Ac 25 5 1,Aj 26 25 0,Ae 27 26 2,Al 28 59 24 27,Ay 29 28,Aa 30 29,Cg 31 3 2 30,Ao 32 5 6 30,Bi 33 32 0 30,Cg 34 33 2 30,Cn 35 59 31 34 30,Bq 36 35 30,Ar 37 30 36,Aa 38 37,Cg 39 3 2 38,Ao 40 5 1 38,Bi 41 40 0 38,Cg 42 41 2 38,Cn 43 60 39 42 38,Bq 44 43 38,Ar 45 38 44] [45]<|Co 45 (Rq [Ad 6 13] [6]<|.ret)<|Sk [])<|Rq [Ad 6 0] [6]<|.ret) [.tmp 6]:= by decide +kernel
theorem c16 (t:Types) (s_1:Sorts) (r_2:Rule) (r:Int) (h:ref53_Valid t s_1 r_2=some r):Sound prog 16 [eTypes t,eSorts s_1,eRule r_2] (.sh (eI r)):= by
 refine Fn ck16 fun hw=>?_
 unfold ref53_Valid at h
 refine D<|F<|Y rfl rfl<|Y rfl rfl<|Y rfl rfl<|C rfl<|E (kt<|kt<|kt<|kn) fun _=>?_
 refine D<|D<|F<|R rfl rfl (show _=eTypes t from rfl)<|R rfl rfl (show _=eSorts s_1 from rfl) ?_
 obtain ⟨x11,hx11,h⟩:=J h
 refine V rfl (c57 t s_1 _ hx11)<|C rfl<|E (kt<|kt<|kt<|kn) fun _=>?_
 refine D<|F<|C rfl<|a8 rfl rfl<|E (kt<|kt<|kt<|kt<|kn) fun _=>?_
 refine U rfl (fun hc13=>?_) (fun hc13=>?_)
 ·replace h:=M hc13 h
  refine D<|F<|C rfl<|C rfl<|E (kt<|kn) fun _=>?_
  exact L (by cases h;rfl)
 ·replace h:=O hc13 h
  refine P (kt<|kt<|kn) fun _=>?_
  refine D<|D<|F<|R rfl rfl (show _=eTypes t from rfl)<|R rfl rfl (show _=eRule r_2 from rfl) ?_
  obtain ⟨x17,hx17,h⟩:=J h
  refine V rfl (c42 t r_2 _ hx17)<|C rfl<|E (kt<|kt<|kt<|kn) fun _=>?_
  refine D<|F<|C rfl<|a8 rfl rfl<|E (kt<|kt<|kt<|kt<|kn) fun _=>?_
  refine U rfl (fun hc19=>?_) (fun hc19=>?_)
  ·replace h:=M hc19 h
   refine D<|F<|C rfl<|C rfl<|E (kt<|kn) fun _=>?_
   exact L (by cases h;rfl)
  ·replace h:=O hc19 h
   refine P (kt<|kt<|kn) fun _=>?_
   refine D<|D<|F<|R rfl rfl (show _=eRule r_2 from rfl) ?_
   obtain ⟨x22,hx22,h⟩:=J h
   refine V rfl (c58 r_2 _ hx22)<|b7 rfl<|E (kt<|kt<|kt<|kn) fun _=>?_
   refine U rfl (fun hc23=>?_) (fun hc23=>?_)
   ·replace h:=M hc23 h
    refine D<|F<|C rfl<|E (kt<|kn) fun _=>?_
    exact L (by cases h;rfl)
   ·replace h:=O hc23 h
    refine P (kt<|kt<|kn) fun _=>?_
    refine D<|D<|F<|R rfl rfl (show _=eTypes t from rfl)<|K rfl<|a6 rfl<|R rfl rfl (show _=eGraph r_2.Left.Graph from rfl) ?_
    obtain ⟨x28,hx28,h⟩:=J h
    refine V rfl (c59 t r_2.Left.Graph _ hx28)<|b7 rfl<|C rfl ?_
    obtain ⟨x37,hx37,h⟩:=J h
    refine gX 7 [31,32,33,34,35,36] 37 x37 (!x28) (fun hg37=>?_) (fun hg37=>?_) ?_
    ·replace h:=M hg37 hx37
     cases h
     refine H rfl hg37<|H rfl hg37<|H rfl hg37<|H rfl hg37<|H rfl hg37<|H rfl hg37<|a1 rfl hg37 rfl ?_
     exact ⟨⟨_,_,_,_,_,_,rfl⟩⟩
    ·replace h:=O hg37 hx37
     refine G rfl hg37<|R rfl rfl (show _=eTypes t from rfl)<|G rfl hg37<|K rfl<|G rfl hg37<|a6 rfl<|G rfl hg37<|R rfl rfl (show _=eGraph r_2.Right.Graph from rfl) ?_
     obtain ⟨x35,hx35,h⟩:=J h
     refine G rfl hg37<|V rfl (c59 t r_2.Right.Graph _ hx35)<|G rfl hg37<|b7 rfl ?_
     cases h
     refine a2 rfl hg37 rfl ?_
     exact ⟨⟨_,_,_,_,_,_,rfl⟩⟩
    rintro _ ⟨_,_,_,_,_,_,rfl⟩
    refine C rfl ?_
    obtain ⟨x45,hx45,h⟩:=J h
    refine gX 7 [39,40,41,42,43,44] 45 x45 x37 (fun hg45=>?_) (fun hg45=>?_) ?_
    ·replace h:=M hg45 hx45
     cases h
     refine H rfl hg45<|H rfl hg45<|H rfl hg45<|H rfl hg45<|H rfl hg45<|H rfl hg45<|a1 rfl hg45 rfl ?_
     exact ⟨⟨_,_,_,_,_,_,rfl⟩⟩
    ·replace h:=O hg45 hx45
     refine G rfl hg45<|R rfl rfl (show _=eTypes t from rfl)<|G rfl hg45<|K rfl<|G rfl hg45<|a6 rfl<|G rfl hg45<|R rfl rfl (show _=eGraph r_2.Left.Graph from rfl) ?_
     obtain ⟨x43,hx43,h⟩:=J h
     refine G rfl hg45<|V rfl (c60 t r_2.Left.Graph _ hx43)<|G rfl hg45<|b7 rfl ?_
     cases h
     refine a2 rfl hg45 rfl ?_
     exact ⟨⟨_,_,_,_,_,_,rfl⟩⟩
    rintro _ ⟨_,_,_,_,_,_,rfl⟩
    refine E (kt<|kn) fun _=>?_
    refine U rfl (fun hc45=>?_) (fun hc45=>?_)
    ·replace h:=M hc45 h
     refine D<|F<|C rfl<|E (kt<|kn) fun _=>?_
     exact L (by cases h;rfl)
    ·replace h:=O hc45 h
     refine P (kn) fun _=>?_
     refine D<|F<|C rfl<|E (kt<|kn) fun _=>?_
     exact L (by cases h;rfl)
theorem ck169:CK f169 (Rq [Bk 4 1] [0,1]<|Rq [Bk 5 1] [0,1,5]<|Sq (Rq [Ad 6 0] [0,1,5,6]<|Bl 0<|Lo [0,1,5,6]<|Sq (Rq [Aa 7 6,Aa 8 1,Ap 9 7 8] [0,1,5,6,9]<|Co 9 (Sk [0,1,5,6])<|Ex 0 [5])<|Sq (Bl 1<|Re [Bb 12 5,Aa 13 0,Aa 14 6,Bn 15 13 14,Bh 16 1 15,Bd 17 1 12 16,Bb 5 17] [0,1,5,6])<|Re [Aa 10 6,Ak 11 10 1,Aa 6 11] [0,1,5,6])<|Rq [Aa 18 5,Bb 4 18] [4]<|.ret) [.tmp 4]:= by decide +kernel
theorem c169 (from':Int) (count:Int) (r:(List Int)) (h:ref05_Numbers from' count=some r):Sound prog 169 [eI from',eI count] (.sh (lI r)):= by
 refine Fn ck169 fun hw=>?_
 unfold ref05_Numbers at h
 refine D<|F<|f2<|E (kt<|kt<|kn) fun _=>?_
 refine D<|F<|f2<|E (kt<|kt<|ko<|kn) fun _=>?_
 refine D<|D<|F<|C rfl<|E (kt<|kt<|ko<|kt<|kn) fun _=>?_
 obtain ⟨s0,hs0,h⟩:=J h
 refine f4 hs0 (fun (i0:Int) (s0:List Int)=>[(0,.tv (eI from')),(1,.tv (eI count)),(5,.ow (lI s0)),(6,.tv (eI i0))]) (fun (s0:List Int)=>[(5,.ow (lI s0))]) rfl ?_ ?_ ?_
 ·clear h hs0
  intro i0 s0 r0 hi0 h hw0
  refine D<|D<|F<|C rfl<|C rfl<|X rfl rfl<|E (kt<|kt<|ko<|kt<|kt<|kn) fun _=>?_
  refine b2 rfl (b3 hi0)<|P (kt<|kt<|ko<|kt<|kn) fun _=>?_
  refine D<|a7<|F<|f8 rfl<|C rfl<|C rfl<|a5 rfl rfl<|e4 (e:=eI) (l:=[w64 (from'+i0)]) rfl rfl (fun _=>rfl) ?_
  obtain ⟨x17,hx17,h⟩:=J h
  refine f0 rfl rfl rfl rfl hx17 rfl<|f8 rfl<|E (kt<|kt<|ko<|kt<|kn) fun _=>?_
  refine F<|C rfl<|a5 rfl rfl<|C rfl<|E (kt<|kt<|ko<|kt<|kn) ?_
  cases h
  show Env.keep _ _=_
  rw [Ktv rfl (Ktv rfl (Kow rfl (Ktv rfl (Knil _))))]
  rw [b1 (a3 (hw0 6)) hi0 (d9 (a3 (hw0 1)))]
  all_goals rfl
 ·intro i0 s0 hi0
  refine D<|D<|F<|C rfl<|C rfl<|X rfl rfl<|E (kt<|kt<|ko<|kt<|kt<|kn) fun _=>?_
  refine b4 rfl (b5 hi0)<|b0 (ko<|kn) ?_
  exact ⟨rfl,rfl⟩
 ·intro _
  refine D<|F<|C rfl<|g1 rfl<|E (kt<|kn) fun _=>?_
  exact L (by cases h;rfl)
theorem ck121:CK f121 (Rq [Af 1 0,Bf 2 1 1] [1,2]<|Sq (Dr [2,3,4,5,6,7,8,9,10,11] [Ac 3 1 0,Ab 4 3,Ag 5 4,⟨some 6,.call 169 [.c (.int .i64 0),.s 5],none⟩,Ac 7 1 1,Ab 8 7,Ag 9 8,⟨some 10,.call 169 [.c (.int .i64 0),.s 9],none⟩,Cv 11 1 1 0 1 6 1 1 10,An 2 2 11] [2])<|.ret) [.cell 2 (some 2)]:= by decide +kernel
theorem c121 (g:Graph) (r:Part) (h:ref53_whole g=some r):Sound prog 121 [eGraph g] (.sh (ePart r)):= by
 refine Fn ck121 fun hw=>?_
 unfold ref53_whole at h
 refine D<|F<|Y rfl rfl<|b6 rfl<|E (kt<|kb<|kn) fun _=>?_
 refine D<|b9 rfl<|K rfl<|I rfl<|W rfl rfl ?_
 obtain ⟨x6,hx6,h⟩:=J h
 refine V rfl (c169 0 (g.Nodes.length:Int) _ hx6)<|K rfl<|I rfl<|W rfl rfl ?_
 obtain ⟨x10,hx10,h⟩:=J h
 refine V rfl (c169 0 (g.Edges.length:Int) _ hx10)<|g5 rfl rfl rfl (show _=ePart (Part.mk x6 x10) from rfl)<|a9 rfl rfl rfl rfl rfl<|E (kb<|kn) fun _=>?_
 exact L (by cases h;rfl)
theorem ck69:CK f69 (Rq [Af 4 0,Af 5 1,Af 6 2,Af 7 3,Ca 8 1 3 4 0 5 1 3 4 0 5 1 1 1 1 0 9 1 1 1 3 4 0 5] [4,5,6,7,8]<|Sq (Dr [8,9,10,11,12,13,14,15,16,17,18,19] [Ac 9 4 0,Ab 10 9,Ae 11 5 2,Dm 12 1 3 4 0 5 0 2 11,Ae 13 6 2,Dm 14 1 3 4 0 5 0 2 13,Ae 15 5 2,Au 16 121 15,Ae 17 7 2,Eo 18 0 9 1 1 1 3 4 0 5 0 1 1,Fe 19 1 3 4 0 5 1 3 4 0 5 1 1 1 1 0 9 1 1 1 3 4 0 5 0 1 10 1 5 12 6 5 14 11 2 16 13 2 17 15 1 16 9 18,An 25 8 19] [8])<|.ret) [.cell 8 (some 25)]:= by decide +kernel
theorem c69 (r_0:Rule) (left:Graph) (right:Graph) (into:Morphism) (r:Rule) (h:ref53_rule r_0 left right into=some r):Sound prog 69 [eRule r_0,eGraph left,eGraph right,eMorphism into] (.sh (eRule r)):= by
 refine Fn ck69 fun hw=>?_
 unfold ref53_rule at h
 refine D<|F<|Y rfl rfl<|Y rfl rfl<|Y rfl rfl<|Y rfl rfl<|b6 rfl<|E (kt<|kt<|kt<|kt<|kb<|kn) fun _=>?_
 refine D<|b9 rfl<|K rfl<|I rfl<|R rfl rfl (show _=eGraph left from rfl)<|e6 rfl rfl (show _=ePattern (Pattern.mk left [] 0 []) from rfl)<|R rfl rfl (show _=eGraph right from rfl)<|e6 rfl rfl (show _=ePattern (Pattern.mk right [] 0 []) from rfl)<|R rfl rfl (show _=eGraph left from rfl) ?_
 obtain ⟨x16,hx16,h⟩:=J h
 refine V rfl (c121 left _ hx16)<|R rfl rfl (show _=eMorphism into from rfl)<|e6 rfl rfl (show _=eCondition (Condition.mk 1 [] (Morphism.mk [] []) (Pattern.mk (Graph.mk [] []) [] 0 [])) from rfl)<|g5 rfl rfl rfl (show _=eRule (Rule.mk r_0.Name (Pattern.mk left [] 0 []) (Pattern.mk right [] 0 []) x16 into true (Condition.mk 1 [] (Morphism.mk [] []) (Pattern.mk (Graph.mk [] []) [] 0 []))) from rfl)<|a9 rfl rfl rfl rfl rfl<|E (kb<|kn) fun _=>?_
 exact L (by cases h;rfl)
theorem ck92:CK f92 (Rq [Af 3 0,Af 4 1,Bf 6 1 1] [2,3,4,6]<|Rq [Bf 7 1 1] [2,3,4,6,7]<|Sq (Rq [Ad 8 0] [2,3,4,6,7,8]<|Bl 0<|Lo [2,3,4,6,7,8]<|Sq (Rq [Aa 10 8,Ac 11 4 0,Ab 12 11,Ag 13 12,Ap 14 10 13] [2,3,4,6,7,8,14]<|Co 14 (Sk [2,3,4,6,7,8])<|Ex 0 [2,3,4,6,7])<|Sq (Bl 1<|Sq (Dr [17,18,19,20,21,22,23,24,25,26,27] [Ac 17 3 0,Ab 18 17,Ac 19 4 0,Ab 20 19,Aa 21 8,Ah 22 20 21 1,Ab 23 22,Ah 24 18 23 1,Ab 25 24,Aa 26 2,Bt 27 25 26] [2,3,4,6,7,8,27])<|Co 27 (Re [Ac 28 7 0,Bp 29 28,Aa 30 8,Bh 31 1 30,Bd 32 1 29 31,Ac 33 7 0,Bm 1 33 32] [2,3,4,6,7,8])<|Sk [2,3,4,6,7,8])<|Re [Aa 15 8,Ak 16 15 1,Aa 8 16] [2,3,4,6,7,8])<|Sq (Rq [Ad 9 0] [2,3,4,6,7,9]<|Bl 2<|Lo [2,3,4,6,7,9]<|Sq (Rq [Aa 34 9,Ac 35 4 1,Ab 36 35,Ag 37 36,Ap 38 34 37] [2,3,4,6,7,9,38]<|Co 38 (Sk [2,3,4,6,7,9])<|Ex 2 [6,7])<|Sq (Bl 3<|Sq (Dr [41,42,43,44,45,46,47,48,49,50,51,52] [Ac 41 3 1,Ab 42 41,Ac 43 4 1,Ab 44 43,Aa 45 9,Ah 46 44 45 3,Aj 47 46 0,Ab 48 47,Ah 49 42 48 1,Ab 50 49,Aa 51 2,Bt 52 50 51] [2,3,4,6,7,9,52])<|Co 52 (Re [Ac 53 7 1,Bp 54 53,Aa 55 9,Bh 56 1 55,Bd 57 1 54 56,Ac 58 7 1,Bm 1 58 57] [2,3,4,6,7,9])<|Sk [2,3,4,6,7,9])<|Re [Aa 39 9,Ak 40 39 1,Aa 9 40] [2,3,4,6,7,9])<|Rq [Ae 59 7 2,An 2 6 59] [6]<|.ret) [.cell 6 (some 2)]:= by decide +kernel
theorem c92 (s_0:Sorts) (g:Graph) (sort:Int) (r:Part) (h:ref52_Part s_0 g sort=some r):Sound prog 92 [eSorts s_0,eGraph g,eI sort] (.sh (ePart r)):= by
 refine Fn ck92 fun hw=>?_
 unfold ref52_Part at h
 refine D<|F<|Y rfl rfl<|Y rfl rfl<|b6 rfl<|E (kt<|kt<|kt<|kb<|kn) fun _=>?_
 refine D<|F<|b6 rfl<|E (kt<|kt<|kt<|kb<|kb<|kn) fun _=>?_
 refine D<|D<|F<|C rfl<|E (kt<|kt<|kt<|kb<|kb<|kt<|kn) fun _=>?_
 obtain ⟨s0,hs0,h⟩:=J h
 refine f4 hs0 (fun (i0:Int) (s0:Part)=>[(2,.tv (eI sort)),(3,.tv (.pt (eSorts s_0).cells)),(4,.tv (.pt (eGraph g).cells)),(6,.bx [⟨true,lI []⟩,⟨true,lI []⟩]),(7,.bx [⟨true,lI s0.Nodes⟩,⟨true,lI s0.Edges⟩]),(8,.tv (eI i0))]) (fun (s0:Part)=>[(2,.tv (eI sort)),(3,.tv (.pt (eSorts s_0).cells)),(4,.tv (.pt (eGraph g).cells)),(6,.bx [⟨true,lI []⟩,⟨true,lI []⟩]),(7,.bx [⟨true,lI s0.Nodes⟩,⟨true,lI s0.Edges⟩])]) rfl ?_ ?_ ?_
 ·clear h hs0
  intro i0 s0 r0 hi0 h hw0
  refine D<|D<|F<|C rfl<|K rfl<|I rfl<|W rfl rfl<|X rfl rfl<|E (kt<|kt<|kt<|kb<|kb<|kt<|kt<|kn) fun _=>?_
  refine b2 rfl (b3 hi0)<|P (kt<|kt<|kt<|kb<|kb<|kt<|kn) fun _=>?_
  refine D<|a7<|D<|b9 rfl<|K rfl<|I rfl<|K rfl<|I rfl<|C rfl ?_
  obtain ⟨x22,hx22,h⟩:=J h
  refine Z rfl rfl rfl hx22 rfl<|I rfl ?_
  obtain ⟨x24,hx24,h⟩:=J h
  refine Z rfl rfl rfl hx24 rfl<|I rfl<|C rfl<|b8 rfl rfl<|E (kt<|kt<|kt<|kb<|kb<|kt<|kt<|kn) fun _=>?_
  refine U rfl (fun hc27=>?_) (fun hc27=>?_)
  ·replace h:=M hc27 h
   refine F<|a4 rfl<|f7 rfl rfl rfl rfl<|C rfl<|e4 (e:=eI) (l:=[i0]) rfl rfl (fun _=>rfl) ?_
   obtain ⟨x32,hx32,h⟩:=J h
   refine f0 rfl rfl rfl rfl hx32 rfl<|a4 rfl<|f6 rfl rfl rfl (by decide) rfl rfl<|E (kt<|kt<|kt<|kb<|kb<|kt<|kn) fun _=>?_
   refine F<|C rfl<|a5 rfl rfl<|C rfl<|E (kt<|kt<|kt<|kb<|kb<|kt<|kn) ?_
   cases h
   show Env.keep _ _=_
   rw [Ktv rfl (Ktv rfl (Ktv rfl (Kbx rfl (Kbx rfl (Ktv rfl (Knil _))))))]
   rw [b1 (a3 (hw0 8)) hi0 (e3 (e7 (e8 (hw0 4)) (i:=0) rfl) rfl)]
   all_goals rfl
  ·replace h:=O hc27 h
   refine P (kt<|kt<|kt<|kb<|kb<|kt<|kn) fun _=>?_
   refine F<|C rfl<|a5 rfl rfl<|C rfl<|E (kt<|kt<|kt<|kb<|kb<|kt<|kn) ?_
   cases h
   show Env.keep _ _=_
   rw [Ktv rfl (Ktv rfl (Ktv rfl (Kbx rfl (Kbx rfl (Ktv rfl (Knil _))))))]
   rw [b1 (a3 (hw0 8)) hi0 (e3 (e7 (e8 (hw0 4)) (i:=0) rfl) rfl)]
   all_goals rfl
 ·intro i0 s0 hi0
  refine D<|D<|F<|C rfl<|K rfl<|I rfl<|W rfl rfl<|X rfl rfl<|E (kt<|kt<|kt<|kb<|kb<|kt<|kt<|kn) fun _=>?_
  refine b4 rfl (b5 hi0)<|b0 (kt<|kt<|kt<|kb<|kb<|kn) ?_
  exact ⟨rfl,rfl⟩
 ·intro _
  refine D<|D<|F<|C rfl<|E (kt<|kt<|kt<|kb<|kb<|kt<|kn) fun _=>?_
  obtain ⟨s2,hs2,h⟩:=J h
  refine f4 hs2 (fun (i2:Int) (s2:Part)=>[(2,.tv (eI sort)),(3,.tv (.pt (eSorts s_0).cells)),(4,.tv (.pt (eGraph g).cells)),(6,.bx [⟨true,lI []⟩,⟨true,lI []⟩]),(7,.bx [⟨true,lI s2.Nodes⟩,⟨true,lI s2.Edges⟩]),(9,.tv (eI i2))]) (fun (s2:Part)=>[(6,.bx [⟨true,lI []⟩,⟨true,lI []⟩]),(7,.bx [⟨true,lI s2.Nodes⟩,⟨true,lI s2.Edges⟩])]) rfl ?_ ?_ ?_
  ·clear h hs2
   intro i2 s2 r2 hi2 h hw2
   refine D<|D<|F<|C rfl<|K rfl<|I rfl<|W rfl rfl<|X rfl rfl<|E (kt<|kt<|kt<|kb<|kb<|kt<|kt<|kn) fun _=>?_
   refine b2 rfl (b3 hi2)<|P (kt<|kt<|kt<|kb<|kb<|kt<|kn) fun _=>?_
   refine D<|a7<|D<|b9 rfl<|K rfl<|I rfl<|K rfl<|I rfl<|C rfl ?_
   obtain ⟨x46,hx46,h⟩:=J h
   refine Z rfl rfl rfl hx46 rfl<|a6 rfl<|I rfl ?_
   obtain ⟨x49,hx49,h⟩:=J h
   refine Z rfl rfl rfl hx49 rfl<|I rfl<|C rfl<|b8 rfl rfl<|E (kt<|kt<|kt<|kb<|kb<|kt<|kt<|kn) fun _=>?_
   refine U rfl (fun hc52=>?_) (fun hc52=>?_)
   ·replace h:=M hc52 h
    refine F<|a4 rfl<|f7 rfl rfl rfl rfl<|C rfl<|e4 (e:=eI) (l:=[i2]) rfl rfl (fun _=>rfl) ?_
    obtain ⟨x57,hx57,h⟩:=J h
    refine f0 rfl rfl rfl rfl hx57 rfl<|a4 rfl<|f6 rfl rfl rfl (by decide) rfl rfl<|E (kt<|kt<|kt<|kb<|kb<|kt<|kn) fun _=>?_
    refine F<|C rfl<|a5 rfl rfl<|C rfl<|E (kt<|kt<|kt<|kb<|kb<|kt<|kn) ?_
    cases h
    show Env.keep _ _=_
    rw [Ktv rfl (Ktv rfl (Ktv rfl (Kbx rfl (Kbx rfl (Ktv rfl (Knil _))))))]
    rw [b1 (a3 (hw2 9)) hi2 (e3 (e7 (e8 (hw2 4)) (i:=1) rfl) rfl)]
    all_goals rfl
   ·replace h:=O hc52 h
    refine P (kt<|kt<|kt<|kb<|kb<|kt<|kn) fun _=>?_
    refine F<|C rfl<|a5 rfl rfl<|C rfl<|E (kt<|kt<|kt<|kb<|kb<|kt<|kn) ?_
    cases h
    show Env.keep _ _=_
    rw [Ktv rfl (Ktv rfl (Ktv rfl (Kbx rfl (Kbx rfl (Ktv rfl (Knil _))))))]
    rw [b1 (a3 (hw2 9)) hi2 (e3 (e7 (e8 (hw2 4)) (i:=1) rfl) rfl)]
    all_goals rfl
  ·intro i2 s2 hi2
   refine D<|D<|F<|C rfl<|K rfl<|I rfl<|W rfl rfl<|X rfl rfl<|E (kt<|kt<|kt<|kb<|kb<|kt<|kt<|kn) fun _=>?_
   refine b4 rfl (b5 hi2)<|b0 (kb<|kb<|kn) ?_
   exact ⟨rfl,rfl⟩
  ·intro _
   refine D<|F<|R rfl rfl (show _=ePart s2 from rfl)<|a9 rfl rfl rfl rfl rfl<|E (kb<|kn) fun _=>?_
   exact L (by cases h;rfl)
theorem ck93:CK f93 (Rq [Ad 4 0] [0,1]<|Sq (Rq [Ad 5 0] [0,1,5]<|Bl 0<|Lo [0,1,5]<|Sq (Rq [Aa 6 5,Aa 7 0,Ag 8 7,Ap 9 6 8] [0,1,5,9]<|Co 9 (Sk [0,1,5])<|Ex 0 [])<|Sq (Bl 1<|Rq [Aa 12 0,Aa 13 5,Ah 14 12 13 1,Ab 15 14,Aa 16 1,Bt 17 15 16] [0,1,5,17]<|Co 17 (Rq [Aa 18 5,Aa 4 18] [4]<|.ret)<|Sk [0,1,5])<|Re [Aa 10 5,Ak 11 10 1,Aa 5 11] [0,1,5])<|Rq [Ce 4 (-1)] [4]<|.ret) [.tmp 4]:= by decide +kernel
theorem c93 (l:List Int) (n:Int) (r:Int) (h:ref53_index l n=some r):Sound prog 93 [lI l,eI n] (.sh (eI r)):= by
 refine Fn ck93 fun hw=>?_
 unfold ref53_index at h
 refine D<|F<|C rfl<|E (kt<|kt<|kn) fun _=>?_
 refine D<|D<|F<|C rfl<|E (kt<|kt<|kt<|kn) fun _=>?_
 obtain ⟨o0,ho0,h⟩:=d0 h
 refine d4 ho0 (fun (i0:Int) (_:Unit)=>[(0,.tv (lI l)),(1,.tv (eI n)),(5,.tv (eI i0))]) (fun (_:Unit)=>[]) (fun zv ze=>resIs ([.tmp 4]) (.sh (eI zv)) ze) rfl ?_ ?_ ?_ ?_
 ·clear h ho0
  intro i0 s0 r0 hi0 h hw0
  refine D<|D<|F<|C rfl<|C rfl<|W rfl rfl<|X rfl rfl<|E (kt<|kt<|kt<|kt<|kn) fun _=>?_
  refine b2 rfl (b3 hi0)<|P (kt<|kt<|kt<|kn) fun _=>?_
  refine D<|a7<|D<|F<|C rfl<|C rfl ?_
  obtain ⟨x14,hx14,h⟩:=J h
  refine Z rfl rfl rfl hx14 rfl<|I rfl<|C rfl<|b8 rfl rfl<|E (kt<|kt<|kt<|kt<|kn) fun _=>?_
  refine U rfl (fun hc17=>?_) (fun hc17=>?_)
  ·replace h:=M hc17 h
   refine D<|F<|C rfl<|C rfl<|E (kt<|kn) fun _=>?_
   refine L ?_
   cases h
   exact ⟨_,rfl,rfl⟩
  ·replace h:=O hc17 h
   refine P (kt<|kt<|kt<|kn) fun _=>?_
   refine F<|C rfl<|a5 rfl rfl<|C rfl<|E (kt<|kt<|kt<|kn) ?_
   cases h
   refine ⟨_,rfl,?_⟩
   rw [Ktv rfl (Ktv rfl (Ktv rfl (Knil _)))]
   rw [b1 (a3 (hw0 5)) hi0 (e3 (a3 (hw0 0)) rfl)]
   all_goals rfl
 ·intro i0 s0 hi0
  refine D<|D<|F<|C rfl<|C rfl<|W rfl rfl<|X rfl rfl<|E (kt<|kt<|kt<|kt<|kn) fun _=>?_
  refine b4 rfl (b5 hi0)<|b0 (kn) ?_
  exact ⟨rfl,rfl⟩
 ·intro s0 hs
  replace h:=d1 h hs
  intro _
  refine D<|F<|C rfl<|E (kt<|kn) fun _=>?_
  exact L (by cases h;rfl)
 ·intro v0 ze hv hR
  replace h:=d2 h hv
  cases h
  exact hR
theorem ck94:CK f94 (Rq [Af 2 0,Af 3 1,Bf 4 1 3] [2,3,4]<|Rq [Bf 5 1 3] [2,3,4,5]<|Sq (Rq [Ad 6 0] [2,3,4,5,6]<|Bl 0<|Lo [2,3,4,5,6]<|Sq (Rq [Aa 9 6,Ac 10 3 0,Ab 11 10,Ag 12 11,Ap 13 9 12] [2,3,4,5,6,13]<|Co 13 (Sk [2,3,4,5,6])<|Ex 0 [2,3,4,5])<|Sq (Bl 1<|Dr [16,17,18,19,20,21,22,23,24,25,26,27,28,29] [Ac 16 5 0,Bp 17 16,Ac 18 2 0,Ab 19 18,Ac 20 3 0,Ab 21 20,Aa 22 6,Ah 23 21 22 1,Ab 24 23,Ah 25 19 24 1,Ab 26 25,Bh 27 1 26,Bd 28 1 17 27,Ac 29 5 0,Bm 1 29 28] [2,3,4,5,6])<|Re [Aa 14 6,Ak 15 14 1,Aa 6 15] [2,3,4,5,6])<|Sq (Rq [Ad 7 0] [2,3,4,5,7]<|Bl 2<|Lo [2,3,4,5,7]<|Sq (Rq [Aa 30 7,Ac 31 3 1,Ab 32 31,Ag 33 32,Ap 34 30 33] [2,3,4,5,7,34]<|Co 34 (Sk [2,3,4,5,7])<|Ex 2 [4,5])<|Sq (Bl 3<|Sq (Dr [8,37,38,39,40,41,42,43,44,45] [Ac 37 2 1,Ab 38 37,Ac 39 3 1,Ab 40 39,Aa 41 7,Ah 42 40 41 1,Ab 43 42,Ah 44 38 43 3,Ae 45 44 3,Cd 8 0 0 0,An 3 8 45] [2,3,4,5,7,8])<|Dr [46,47,48,49,50,51,52,53,54,55,56,57,58,59,60,61,62,63] [Ac 46 5 1,Bp 47 46,Ac 48 8 0,Ab 49 48,Ac 50 3 0,Ab 51 50,Ac 52 8 1,Ab 53 52,Al 54 93 51 53,Ac 55 3 0,Ab 56 55,Ac 57 8 2,Ab 58 57,Al 59 93 56 58,Eb 60 0 0 0 0 1 49 1 1 54 2 1 59,Bh 61 3 60,Bd 62 3 47 61,Ac 63 5 1,Bm 1 63 62] [2,3,4,5,7])<|Re [Aa 35 7,Ak 36 35 1,Aa 7 36] [2,3,4,5,7])<|Rq [Ae 64 5 2,An 2 4 64] [4]<|.ret) [.cell 4 (some 2)]:= by decide +kernel
theorem c94 (g:Graph) (p:Part) (r:Graph) (h:ref53_part g p=some r):Sound prog 94 [eGraph g,ePart p] (.sh (eGraph r)):= by
 refine Fn ck94 fun hw=>?_
 unfold ref53_part at h
 refine D<|F<|Y rfl rfl<|Y rfl rfl<|b6 rfl<|E (kt<|kt<|kb<|kn) fun _=>?_
 refine D<|F<|b6 rfl<|E (kt<|kt<|kb<|kb<|kn) fun _=>?_
 refine D<|D<|F<|C rfl<|E (kt<|kt<|kb<|kb<|kt<|kn) fun _=>?_
 obtain ⟨s0,hs0,h⟩:=J h
 refine f4 hs0 (fun (i0:Int) (s0:Graph)=>[(2,.tv (.pt (eGraph g).cells)),(3,.tv (.pt (ePart p).cells)),(4,.bx [⟨true,lI []⟩,⟨true,lE []⟩]),(5,.bx [⟨true,lI s0.Nodes⟩,⟨true,lE s0.Edges⟩]),(6,.tv (eI i0))]) (fun (s0:Graph)=>[(2,.tv (.pt (eGraph g).cells)),(3,.tv (.pt (ePart p).cells)),(4,.bx [⟨true,lI []⟩,⟨true,lE []⟩]),(5,.bx [⟨true,lI s0.Nodes⟩,⟨true,lE s0.Edges⟩])]) rfl ?_ ?_ ?_
 ·clear h hs0
  intro i0 s0 r0 hi0 h hw0
  refine D<|D<|F<|C rfl<|K rfl<|I rfl<|W rfl rfl<|X rfl rfl<|E (kt<|kt<|kb<|kb<|kt<|kt<|kn) fun _=>?_
  refine b2 rfl (b3 hi0)<|P (kt<|kt<|kb<|kb<|kt<|kn) fun _=>?_
  refine D<|a7<|b9 rfl<|a4 rfl<|f7 rfl rfl rfl rfl<|K rfl<|I rfl<|K rfl<|I rfl<|C rfl ?_
  obtain ⟨x23,hx23,h⟩:=J h
  refine Z rfl rfl rfl hx23 rfl<|I rfl ?_
  obtain ⟨x25,hx25,h⟩:=J h
  refine Z rfl rfl rfl hx25 rfl<|I rfl<|e4 (e:=eI) (l:=[x25]) rfl rfl (fun _=>rfl) ?_
  obtain ⟨x28,hx28,h⟩:=J h
  refine f0 rfl rfl rfl rfl hx28 rfl<|a4 rfl<|f6 rfl rfl rfl (by decide) rfl rfl<|E (kt<|kt<|kb<|kb<|kt<|kn) fun _=>?_
  refine F<|C rfl<|a5 rfl rfl<|C rfl<|E (kt<|kt<|kb<|kb<|kt<|kn) ?_
  cases h
  show Env.keep _ _=_
  rw [Ktv rfl (Ktv rfl (Kbx rfl (Kbx rfl (Ktv rfl (Knil _)))))]
  rw [b1 (a3 (hw0 6)) hi0 (e3 (e7 (e8 (hw0 3)) (i:=0) rfl) rfl)]
  all_goals rfl
 ·intro i0 s0 hi0
  refine D<|D<|F<|C rfl<|K rfl<|I rfl<|W rfl rfl<|X rfl rfl<|E (kt<|kt<|kb<|kb<|kt<|kt<|kn) fun _=>?_
  refine b4 rfl (b5 hi0)<|b0 (kt<|kt<|kb<|kb<|kn) ?_
  exact ⟨rfl,rfl⟩
 ·intro _
  refine D<|D<|F<|C rfl<|E (kt<|kt<|kb<|kb<|kt<|kn) fun _=>?_
  obtain ⟨s2,hs2,h⟩:=J h
  refine f4 hs2 (fun (i2:Int) (s2:Graph)=>[(2,.tv (.pt (eGraph g).cells)),(3,.tv (.pt (ePart p).cells)),(4,.bx [⟨true,lI []⟩,⟨true,lE []⟩]),(5,.bx [⟨true,lI s2.Nodes⟩,⟨true,lE s2.Edges⟩]),(7,.tv (eI i2))]) (fun (s2:Graph)=>[(4,.bx [⟨true,lI []⟩,⟨true,lE []⟩]),(5,.bx [⟨true,lI s2.Nodes⟩,⟨true,lE s2.Edges⟩])]) rfl ?_ ?_ ?_
  ·clear h hs2
   intro i2 s2 r2 hi2 h hw2
   refine D<|D<|F<|C rfl<|K rfl<|I rfl<|W rfl rfl<|X rfl rfl<|E (kt<|kt<|kb<|kb<|kt<|kt<|kn) fun _=>?_
   refine b2 rfl (b3 hi2)<|P (kt<|kt<|kb<|kb<|kt<|kn) fun _=>?_
   refine D<|a7<|D<|b9 rfl<|K rfl<|I rfl<|K rfl<|I rfl<|C rfl ?_
   obtain ⟨x42,hx42,h⟩:=J h
   refine Z rfl rfl rfl hx42 rfl<|I rfl ?_
   obtain ⟨x44,hx44,h⟩:=J h
   refine Z rfl rfl rfl hx44 rfl<|R rfl rfl (show _=eEdge x44 from rfl)<|b6 rfl<|a9 rfl rfl rfl rfl rfl<|E (kt<|kt<|kb<|kb<|kt<|kb<|kn) fun _=>?_
   refine b9 rfl<|a4 rfl<|f7 rfl rfl rfl rfl<|a4 rfl<|I rfl<|K rfl<|I rfl<|a4 rfl<|I rfl ?_
   obtain ⟨x54,hx54,h⟩:=J h
   refine V rfl (c93 p.Nodes x44.From _ hx54)<|K rfl<|I rfl<|a4 rfl<|I rfl ?_
   obtain ⟨x59,hx59,h⟩:=J h
   refine V rfl (c93 p.Nodes x44.To _ hx59)<|g5 rfl rfl rfl (show _=eEdge (Edge.mk x44.Type' x54 x59) from rfl)<|e4 (e:=eEdge) (l:=[Edge.mk x44.Type' x54 x59]) rfl rfl (fun _=>rfl) ?_
   obtain ⟨x62,hx62,h⟩:=J h
   refine f0 rfl rfl rfl rfl hx62 rfl<|a4 rfl<|f6 rfl rfl rfl (by decide) rfl rfl<|E (kt<|kt<|kb<|kb<|kt<|kn) fun _=>?_
   refine F<|C rfl<|a5 rfl rfl<|C rfl<|E (kt<|kt<|kb<|kb<|kt<|kn) ?_
   cases h
   show Env.keep _ _=_
   rw [Ktv rfl (Ktv rfl (Kbx rfl (Kbx rfl (Ktv rfl (Knil _)))))]
   rw [b1 (a3 (hw2 7)) hi2 (e3 (e7 (e8 (hw2 3)) (i:=1) rfl) rfl)]
   all_goals rfl
  ·intro i2 s2 hi2
   refine D<|D<|F<|C rfl<|K rfl<|I rfl<|W rfl rfl<|X rfl rfl<|E (kt<|kt<|kb<|kb<|kt<|kt<|kn) fun _=>?_
   refine b4 rfl (b5 hi2)<|b0 (kb<|kb<|kn) ?_
   exact ⟨rfl,rfl⟩
  ·intro _
   refine D<|F<|R rfl rfl (show _=eGraph s2 from rfl)<|a9 rfl rfl rfl rfl rfl<|E (kb<|kn) fun _=>?_
   exact L (by cases h;rfl)
theorem ck50:CK f50 (Rq [Af 3 0,Af 4 1,Ca 6 1 3 4 0 5 1 3 4 0 5 1 1 1 1 0 9 1 1 1 3 4 0 5] [2,3,4,6]<|Sq (Dr [7,8,12,13,14,15,16,17,18,19,20,21,22,23] [Ae 12 3 2,Ac 13 4 1,Aj 14 13 0,Ae 15 14 2,Aa 16 2,Bc 17 92 12 15 16,Ae 18 3 2,Ac 19 4 6,Aj 20 19 0,Ae 21 20 2,Aa 22 2,Bc 23 92 18 21 22,Bf 7 1 1,Bf 8 1 1,An 2 7 17,An 2 8 23] [4,6,7,8])<|Rq [Bf 9 1 1] [4,6,7,8,9]<|Sq (Rq [Ad 10 0] [4,6,7,8,9,10]<|Bl 0<|Lo [4,6,7,8,9,10]<|Sq (Rq [Aa 24 10,Ac 25 7 0,Ab 26 25,Ag 27 26,Ap 28 24 27] [4,6,7,8,9,10,28]<|Co 28 (Sk [4,6,7,8,9,10])<|Ex 0 [4,6,7,8,9])<|Sq (Bl 1<|Dr [31,32,33,34,35,36,37,38,39,40,41,42,43,44,45,46,47,48] [Ac 31 9 0,Bp 32 31,Ac 33 8 0,Ab 34 33,Ac 35 4 13,Aj 36 35 0,Ab 37 36,Ac 38 7 0,Ab 39 38,Aa 40 10,Ah 41 39 40 1,Ab 42 41,Ah 43 37 42 1,Ab 44 43,Al 45 93 34 44,Bh 46 1 45,Bd 47 1 32 46,Ac 48 9 0,Bm 1 48 47] [4,6,7,8,9,10])<|Re [Aa 29 10,Ak 30 29 1,Aa 10 30] [4,6,7,8,9,10])<|Sq (Rq [Ad 11 0] [4,6,7,8,9,11]<|Bl 2<|Lo [4,6,7,8,9,11]<|Sq (Rq [Aa 49 11,Ac 50 7 1,Ab 51 50,Ag 52 51,Ap 53 49 52] [4,6,7,8,9,11,53]<|Co 53 (Sk [4,6,7,8,9,11])<|Ex 2 [4,6,7,8,9])<|Sq (Bl 3<|Dr [56,57,58,59,60,61,62,63,64,65,66,67,68,69,70,71,72,73] [Ac 56 9 1,Bp 57 56,Ac 58 8 1,Ab 59 58,Ac 60 4 13,Aj 61 60 1,Ab 62 61,Ac 63 7 1,Ab 64 63,Aa 65 11,Ah 66 64 65 1,Ab 67 66,Ah 68 62 67 1,Ab 69 68,Al 70 93 59 69,Bh 71 1 70,Bd 72 1 57 71,Ac 73 9 1,Bm 1 73 72] [4,6,7,8,9,11])<|Re [Aa 54 11,Ak 55 54 1,Aa 11 55] [4,6,7,8,9,11])<|Sq (Dr [6,74,75,76,77,78,79,80,81,82,83,84,85,86] [Ae 74 4 25,Ac 75 4 1,Aj 76 75 0,Ae 77 76 2,Ae 78 7 2,Al 79 94 77 78,Ac 80 4 6,Aj 81 80 0,Ae 82 81 2,Ae 83 8 2,Al 84 94 82 83,Ae 85 9 2,Cq 86 69 74 79 84 85,An 25 6 86] [6])<|.ret) [.cell 6 (some 25)]:= by decide +kernel
theorem c50 (s_0:Sorts) (r_1:Rule) (sort:Int) (r:Rule) (h:ref53_side s_0 r_1 sort=some r):Sound prog 50 [eSorts s_0,eRule r_1,eI sort] (.sh (eRule r)):= by
 refine Fn ck50 fun hw=>?_
 unfold ref53_side at h
 refine D<|F<|Y rfl rfl<|Y rfl rfl<|b6 rfl<|E (kt<|kt<|kt<|kb<|kn) fun _=>?_
 refine D<|b9 rfl<|R rfl rfl (show _=eSorts s_0 from rfl)<|K rfl<|a6 rfl<|R rfl rfl (show _=eGraph r_1.Left.Graph from rfl)<|C rfl ?_
 obtain ⟨x17,hx17,h⟩:=J h
 refine V rfl (c92 s_0 r_1.Left.Graph sort _ hx17)<|R rfl rfl (show _=eSorts s_0 from rfl)<|K rfl<|a6 rfl<|R rfl rfl (show _=eGraph r_1.Right.Graph from rfl)<|C rfl ?_
 obtain ⟨x23,hx23,h⟩:=J h
 refine V rfl (c92 s_0 r_1.Right.Graph sort _ hx23)<|b6 rfl<|b6 rfl<|a9 rfl rfl rfl rfl rfl<|a9 rfl rfl rfl rfl rfl<|E (kt<|kb<|kb<|kb<|kn) fun _=>?_
 refine D<|F<|b6 rfl<|E (kt<|kb<|kb<|kb<|kb<|kn) fun _=>?_
 refine D<|D<|F<|C rfl<|E (kt<|kb<|kb<|kb<|kb<|kt<|kn) fun _=>?_
 obtain ⟨o0,ho0,h⟩:=d0 h
 refine g8 ho0 (fun (s0:Morphism × Int)=>[(4,.tv (.pt (eRule r_1).cells)),(6,.bx [⟨false,eS (⟨#[]⟩:ByteArray)⟩,⟨true,lI []⟩,⟨true,lE []⟩,⟨true,lS []⟩,⟨false,eI 0⟩,⟨true,lT []⟩,⟨true,lI []⟩,⟨true,lE []⟩,⟨true,lS []⟩,⟨false,eI 0⟩,⟨true,lT []⟩,⟨true,lI []⟩,⟨true,lI []⟩,⟨true,lI []⟩,⟨true,lI []⟩,⟨false,eB false⟩,⟨false,eI 0⟩,⟨true,eLCondition []⟩,⟨true,lI []⟩,⟨true,lI []⟩,⟨true,lI []⟩,⟨true,lE []⟩,⟨true,lS []⟩,⟨false,eI 0⟩,⟨true,lT []⟩]),(7,.bx [⟨false,lI x17.Nodes⟩,⟨false,lI x17.Edges⟩]),(8,.bx [⟨false,lI x23.Nodes⟩,⟨false,lI x23.Edges⟩]),(9,.bx [⟨true,lI s0.1.Nodes⟩,⟨true,lI s0.1.Edges⟩]),(10,.tv (eI s0.2))]) (fun (s0:Morphism × Int)=>[(4,.tv (.pt (eRule r_1).cells)),(6,.bx [⟨false,eS (⟨#[]⟩:ByteArray)⟩,⟨true,lI []⟩,⟨true,lE []⟩,⟨true,lS []⟩,⟨false,eI 0⟩,⟨true,lT []⟩,⟨true,lI []⟩,⟨true,lE []⟩,⟨true,lS []⟩,⟨false,eI 0⟩,⟨true,lT []⟩,⟨true,lI []⟩,⟨true,lI []⟩,⟨true,lI []⟩,⟨true,lI []⟩,⟨false,eB false⟩,⟨false,eI 0⟩,⟨true,eLCondition []⟩,⟨true,lI []⟩,⟨true,lI []⟩,⟨true,lI []⟩,⟨true,lE []⟩,⟨true,lS []⟩,⟨false,eI 0⟩,⟨true,lT []⟩]),(7,.bx [⟨false,lI x17.Nodes⟩,⟨false,lI x17.Edges⟩]),(8,.bx [⟨false,lI x23.Nodes⟩,⟨false,lI x23.Edges⟩]),(9,.bx [⟨true,lI s0.1.Nodes⟩,⟨true,lI s0.1.Edges⟩])]) (fun zv ze=>resIs ([.cell 6 (some 25)]) (.sh (eRule zv)) ze) rfl ?_ ?_ ?_
 ·clear h ho0
  intro s0 r0 h hw0
  refine D<|D<|F<|C rfl<|a4 rfl<|I rfl<|W rfl rfl<|X rfl rfl<|E (kt<|kb<|kb<|kb<|kb<|kt<|kt<|kn) fun _=>?_
  refine U rfl (fun hc28=>?_) (fun hc28=>?_)
  ·replace h:=M hc28 h
   refine P (kt<|kb<|kb<|kb<|kb<|kt<|kn) fun _=>?_
   refine D<|a7<|b9 rfl<|a4 rfl<|f7 rfl rfl rfl rfl<|a4 rfl<|I rfl<|K rfl<|a6 rfl<|I rfl<|a4 rfl<|I rfl<|C rfl ?_
   obtain ⟨x41,hx41,h⟩:=J h
   refine Z rfl rfl rfl hx41 rfl<|I rfl ?_
   obtain ⟨x43,hx43,h⟩:=J h
   refine Z rfl rfl rfl hx43 rfl<|I rfl ?_
   obtain ⟨x45,hx45,h⟩:=J h
   refine V rfl (c93 x23.Nodes x43 _ hx45)<|e4 (e:=eI) (l:=[x45]) rfl rfl (fun _=>rfl) ?_
   obtain ⟨x47,hx47,h⟩:=J h
   refine f0 rfl rfl rfl rfl hx47 rfl<|a4 rfl<|f6 rfl rfl rfl (by decide) rfl rfl<|E (kt<|kb<|kb<|kb<|kb<|kt<|kn) fun _=>?_
   refine F<|C rfl<|a5 rfl rfl<|C rfl<|E (kt<|kb<|kb<|kb<|kb<|kt<|kn) ?_
   cases h
   refine ⟨_,rfl,?_⟩
   rw [Ktv rfl (Kbx rfl (Kbx rfl (Kbx rfl (Kbx rfl (Ktv rfl (Knil _))))))]
   all_goals rfl
  ·replace h:=O hc28 h
   refine b0 (kt<|kb<|kb<|kb<|kb<|kn) ?_
   refine ⟨rfl,?_⟩
   cases h
   exact ⟨_,rfl,rfl⟩
 ·intro s0 hs
  replace h:=d1 h hs
  intro _
  refine D<|D<|F<|C rfl<|E (kt<|kb<|kb<|kb<|kb<|kt<|kn) fun _=>?_
  obtain ⟨o2,ho2,h⟩:=d0 h
  refine g8 ho2 (fun (s2:Morphism × Int)=>[(4,.tv (.pt (eRule r_1).cells)),(6,.bx [⟨false,eS (⟨#[]⟩:ByteArray)⟩,⟨true,lI []⟩,⟨true,lE []⟩,⟨true,lS []⟩,⟨false,eI 0⟩,⟨true,lT []⟩,⟨true,lI []⟩,⟨true,lE []⟩,⟨true,lS []⟩,⟨false,eI 0⟩,⟨true,lT []⟩,⟨true,lI []⟩,⟨true,lI []⟩,⟨true,lI []⟩,⟨true,lI []⟩,⟨false,eB false⟩,⟨false,eI 0⟩,⟨true,eLCondition []⟩,⟨true,lI []⟩,⟨true,lI []⟩,⟨true,lI []⟩,⟨true,lE []⟩,⟨true,lS []⟩,⟨false,eI 0⟩,⟨true,lT []⟩]),(7,.bx [⟨false,lI x17.Nodes⟩,⟨false,lI x17.Edges⟩]),(8,.bx [⟨false,lI x23.Nodes⟩,⟨false,lI x23.Edges⟩]),(9,.bx [⟨true,lI s2.1.Nodes⟩,⟨true,lI s2.1.Edges⟩]),(11,.tv (eI s2.2))]) (fun (s2:Morphism × Int)=>[(4,.tv (.pt (eRule r_1).cells)),(6,.bx [⟨false,eS (⟨#[]⟩:ByteArray)⟩,⟨true,lI []⟩,⟨true,lE []⟩,⟨true,lS []⟩,⟨false,eI 0⟩,⟨true,lT []⟩,⟨true,lI []⟩,⟨true,lE []⟩,⟨true,lS []⟩,⟨false,eI 0⟩,⟨true,lT []⟩,⟨true,lI []⟩,⟨true,lI []⟩,⟨true,lI []⟩,⟨true,lI []⟩,⟨false,eB false⟩,⟨false,eI 0⟩,⟨true,eLCondition []⟩,⟨true,lI []⟩,⟨true,lI []⟩,⟨true,lI []⟩,⟨true,lE []⟩,⟨true,lS []⟩,⟨false,eI 0⟩,⟨true,lT []⟩]),(7,.bx [⟨false,lI x17.Nodes⟩,⟨false,lI x17.Edges⟩]),(8,.bx [⟨false,lI x23.Nodes⟩,⟨false,lI x23.Edges⟩]),(9,.bx [⟨true,lI s2.1.Nodes⟩,⟨true,lI s2.1.Edges⟩])]) (fun zv ze=>resIs ([.cell 6 (some 25)]) (.sh (eRule zv)) ze) rfl ?_ ?_ ?_
  ·clear h ho2
   intro s2 r2 h hw2
   refine D<|D<|F<|C rfl<|a4 rfl<|I rfl<|W rfl rfl<|X rfl rfl<|E (kt<|kb<|kb<|kb<|kb<|kt<|kt<|kn) fun _=>?_
   refine U rfl (fun hc53=>?_) (fun hc53=>?_)
   ·replace h:=M hc53 h
    refine P (kt<|kb<|kb<|kb<|kb<|kt<|kn) fun _=>?_
    refine D<|a7<|b9 rfl<|a4 rfl<|f7 rfl rfl rfl rfl<|a4 rfl<|I rfl<|K rfl<|a6 rfl<|I rfl<|a4 rfl<|I rfl<|C rfl ?_
    obtain ⟨x66,hx66,h⟩:=J h
    refine Z rfl rfl rfl hx66 rfl<|I rfl ?_
    obtain ⟨x68,hx68,h⟩:=J h
    refine Z rfl rfl rfl hx68 rfl<|I rfl ?_
    obtain ⟨x70,hx70,h⟩:=J h
    refine V rfl (c93 x23.Edges x68 _ hx70)<|e4 (e:=eI) (l:=[x70]) rfl rfl (fun _=>rfl) ?_
    obtain ⟨x72,hx72,h⟩:=J h
    refine f0 rfl rfl rfl rfl hx72 rfl<|a4 rfl<|f6 rfl rfl rfl (by decide) rfl rfl<|E (kt<|kb<|kb<|kb<|kb<|kt<|kn) fun _=>?_
    refine F<|C rfl<|a5 rfl rfl<|C rfl<|E (kt<|kb<|kb<|kb<|kb<|kt<|kn) ?_
    cases h
    refine ⟨_,rfl,?_⟩
    rw [Ktv rfl (Kbx rfl (Kbx rfl (Kbx rfl (Kbx rfl (Ktv rfl (Knil _))))))]
    all_goals rfl
   ·replace h:=O hc53 h
    refine b0 (kt<|kb<|kb<|kb<|kb<|kn) ?_
    refine ⟨rfl,?_⟩
    cases h
    exact ⟨_,rfl,rfl⟩
  ·intro s2 hs
   replace h:=d1 h hs
   intro _
   refine D<|b9 rfl<|R rfl rfl (show _=eRule r_1 from rfl)<|K rfl<|a6 rfl<|R rfl rfl (show _=eGraph r_1.Left.Graph from rfl)<|R rfl rfl (show _=ePart x17 from rfl) ?_
   obtain ⟨x79,hx79,h⟩:=J h
   refine V rfl (c94 r_1.Left.Graph x17 _ hx79)<|K rfl<|a6 rfl<|R rfl rfl (show _=eGraph r_1.Right.Graph from rfl)<|R rfl rfl (show _=ePart x23 from rfl) ?_
   obtain ⟨x84,hx84,h⟩:=J h
   refine V rfl (c94 r_1.Right.Graph x23 _ hx84)<|R rfl rfl (show _=eMorphism s2.1 from rfl) ?_
   obtain ⟨x86,hx86,h⟩:=J h
   refine V rfl (c69 r_1 x79 x84 s2.1 _ hx86)<|a9 rfl rfl rfl rfl rfl<|E (kb<|kn) fun _=>?_
   exact L (by cases h;rfl)
  ·intro v2 ze hv hR
   replace h:=d2 h hv
   cases h
   exact hR
 ·intro v0 ze hv hR
  replace h:=d2 h hv
  cases h
  exact hR
theorem ck12:CK f12 (Rq [Af 3 0,Af 4 1,Af 5 2,Ca 6 1 3 4 0 5 1 3 4 0 5 1 1 1 1 0 9 1 1 1 3 4 0 5,Ad 7 0] [3,4,5,6]<|Sq (Rq [Ae 9 3 2,Ae 10 4 2,Ae 11 5 25,Bc 12 16 9 10 11,Aa 8 12] [4,5,6,8]<|Rq [Aa 13 8,Ax 14 13 0] [4,5,6,8,14]<|Co 14 (Rq [Ec 15 1 3 4 0 5 1 3 4 0 5 1 1 1 1 0 9 1 1 1 3 4 0 5,Aa 16 8,An 25 6 15,Aa 7 16] [6,7]<|.ret)<|Sk [4,5,6])<|Rq [Ae 17 4 2,Ae 18 5 25,⟨some 19,.call 50 [.s 17,.s 18,.c (.int .i64 1)],none⟩,An 25 6 19,Ad 7 0] [6,7]<|.ret) [.cell 6 (some 25),.tmp 7]:= by decide +kernel
theorem c12 (t:Types) (s_1:Sorts) (r_2:Rule) (r:(Rule × Int)) (h:ref53_Source t s_1 r_2=some r):Sound prog 12 [eTypes t,eSorts s_1,eRule r_2] (.tp [eRule r.1,eI r.2]):= by
 refine Fn ck12 fun hw=>?_
 unfold ref53_Source at h
 refine D<|F<|Y rfl rfl<|Y rfl rfl<|Y rfl rfl<|b6 rfl<|C rfl<|E (kt<|kt<|kt<|kb<|kn) fun _=>?_
 refine D<|D<|F<|R rfl rfl (show _=eTypes t from rfl)<|R rfl rfl (show _=eSorts s_1 from rfl)<|R rfl rfl (show _=eRule r_2 from rfl) ?_
 obtain ⟨x12,hx12,h⟩:=J h
 refine V rfl (c16 t s_1 r_2 _ hx12)<|C rfl<|E (kt<|kt<|kb<|kt<|kn) fun _=>?_
 refine D<|F<|C rfl<|a8 rfl rfl<|E (kt<|kt<|kb<|kt<|kt<|kn) fun _=>?_
 refine U rfl (fun hc14=>?_) (fun hc14=>?_)
 ·replace h:=M hc14 h
  refine D<|F<|e6 rfl rfl (show _=eRule (Rule.mk (⟨#[]⟩:ByteArray) (Pattern.mk (Graph.mk [] []) [] 0 []) (Pattern.mk (Graph.mk [] []) [] 0 []) (Part.mk [] []) (Morphism.mk [] []) false (Condition.mk 0 [] (Morphism.mk [] []) (Pattern.mk (Graph.mk [] []) [] 0 []))) from rfl)<|C rfl<|a9 rfl rfl rfl rfl rfl<|C rfl<|E (kb<|kt<|kn) fun _=>?_
  refine L ?_
  cases h
  exact ⟨by decide,rfl⟩
 ·replace h:=O hc14 h
  refine P (kt<|kt<|kb<|kn) fun _=>?_
  refine D<|F<|R rfl rfl (show _=eSorts s_1 from rfl)<|R rfl rfl (show _=eRule r_2 from rfl) ?_
  obtain ⟨x19,hx19,h⟩:=J h
  refine V rfl (c50 s_1 r_2 1 _ hx19)<|a9 rfl rfl rfl rfl rfl<|C rfl<|E (kb<|kt<|kn) fun _=>?_
  refine L ?_
  cases h
  exact ⟨by decide,rfl⟩
theorem ck13:CK f13 (Rq [Af 3 0,Af 4 1,Af 5 2,Ca 6 1 3 4 0 5 1 3 4 0 5 1 1 1 1 0 9 1 1 1 3 4 0 5,Ad 7 0] [3,4,5,6]<|Rq [Ae 8 3 2,Ae 9 4 2,Ae 10 5 25,Ff 11 49 8 9 10 3,As 12 11 0,As 13 11 1,An 25 6 12,Aa 7 13] [6,7]<|.ret) [.cell 6 (some 25),.tmp 7]:= by decide +kernel
theorem c13 (t:Types) (s_1:Sorts) (r_2:Rule) (r:(Rule × Int)) (h:triplerule_Target t s_1 r_2=some r):Sound prog 13 [eTypes t,eSorts s_1,eRule r_2] (.tp [eRule r.1,eI r.2]):= by
 refine Fn ck13 fun hw=>?_
 unfold triplerule_Target at h
 refine D<|F<|Y rfl rfl<|Y rfl rfl<|Y rfl rfl<|b6 rfl<|C rfl<|E (kt<|kt<|kt<|kb<|kn) fun _=>?_
 refine D<|F<|R rfl rfl (show _=eTypes t from rfl)<|R rfl rfl (show _=eSorts s_1 from rfl)<|R rfl rfl (show _=eRule r_2 from rfl) ?_
 obtain ⟨x11,hx11,h⟩:=J h
 refine e5 rfl (c49 t s_1 r_2 3 _ hx11)<|d3 rfl rfl<|d3 rfl rfl<|a9 rfl rfl rfl rfl rfl<|C rfl<|E (kb<|kt<|kn) fun _=>?_
 refine L ?_
 cases h
 exact ⟨by decide,rfl⟩
theorem ck14:CK f14 (Rq [Af 3 0,Af 4 1,Af 5 2,Ca 6 1 3 4 0 5 1 3 4 0 5 1 1 1 1 0 9 1 1 1 3 4 0 5,Ad 7 0] [3,4,5,6]<|Sq (Rq [Ae 9 3 2,Ae 10 4 2,Ae 11 5 25,Bc 12 16 9 10 11,Aa 8 12] [4,5,6,8]<|Rq [Aa 13 8,Ax 14 13 0] [4,5,6,8,14]<|Co 14 (Rq [Ec 15 1 3 4 0 5 1 3 4 0 5 1 1 1 1 0 9 1 1 1 3 4 0 5,Aa 16 8,An 25 6 15,Aa 7 16] [6,7]<|.ret)<|Sk [4,5,6])<|Rq [Ae 17 4 2,Ae 18 5 25,⟨some 19,.call 50 [.s 17,.s 18,.c (.int .i64 3)],none⟩,An 25 6 19,Ad 7 0] [6,7]<|.ret) [.cell 6 (some 25),.tmp 7]:= by decide +kernel
theorem c14 (t:Types) (s_1:Sorts) (r_2:Rule) (r:(Rule × Int)) (h:ref53_Target t s_1 r_2=some r):Sound prog 14 [eTypes t,eSorts s_1,eRule r_2] (.tp [eRule r.1,eI r.2]):= by
 refine Fn ck14 fun hw=>?_
 unfold ref53_Target at h
 refine D<|F<|Y rfl rfl<|Y rfl rfl<|Y rfl rfl<|b6 rfl<|C rfl<|E (kt<|kt<|kt<|kb<|kn) fun _=>?_
 refine D<|D<|F<|R rfl rfl (show _=eTypes t from rfl)<|R rfl rfl (show _=eSorts s_1 from rfl)<|R rfl rfl (show _=eRule r_2 from rfl) ?_
 obtain ⟨x12,hx12,h⟩:=J h
 refine V rfl (c16 t s_1 r_2 _ hx12)<|C rfl<|E (kt<|kt<|kb<|kt<|kn) fun _=>?_
 refine D<|F<|C rfl<|a8 rfl rfl<|E (kt<|kt<|kb<|kt<|kt<|kn) fun _=>?_
 refine U rfl (fun hc14=>?_) (fun hc14=>?_)
 ·replace h:=M hc14 h
  refine D<|F<|e6 rfl rfl (show _=eRule (Rule.mk (⟨#[]⟩:ByteArray) (Pattern.mk (Graph.mk [] []) [] 0 []) (Pattern.mk (Graph.mk [] []) [] 0 []) (Part.mk [] []) (Morphism.mk [] []) false (Condition.mk 0 [] (Morphism.mk [] []) (Pattern.mk (Graph.mk [] []) [] 0 []))) from rfl)<|C rfl<|a9 rfl rfl rfl rfl rfl<|C rfl<|E (kb<|kt<|kn) fun _=>?_
  refine L ?_
  cases h
  exact ⟨by decide,rfl⟩
 ·replace h:=O hc14 h
  refine P (kt<|kt<|kb<|kn) fun _=>?_
  refine D<|F<|R rfl rfl (show _=eSorts s_1 from rfl)<|R rfl rfl (show _=eRule r_2 from rfl) ?_
  obtain ⟨x19,hx19,h⟩:=J h
  refine V rfl (c50 s_1 r_2 3 _ hx19)<|a9 rfl rfl rfl rfl rfl<|C rfl<|E (kb<|kt<|kn) fun _=>?_
  refine L ?_
  cases h
  exact ⟨by decide,rfl⟩
theorem ck64:CK f64 (Rq [Ai 4] [0,1]<|Sq (Rq [Aa 6 0,Ag 7 6,Aa 8 1,Ag 9 8,Bs 10 7 9] [0,1,10]<|Co 10 (Rq [Ai 4] [4]<|.ret)<|Sk [0,1])<|Sq (Rq [Ad 5 0] [0,1,5]<|Bl 0<|Lo [0,1,5]<|Sq (Rq [Aa 11 5,Aa 12 0,Ag 13 12,Ap 14 11 13] [0,1,5,14]<|Co 14 (Sk [0,1,5])<|Ex 0 [])<|Sq (Bl 1<|Sq (Dr [17,18,19,20,21,22,23,24,25] [Aa 17 0,Aa 18 5,Ah 19 17 18 1,Ab 20 19,Aa 21 1,Aa 22 5,Ah 23 21 22 1,Ab 24 23,Bs 25 20 24] [0,1,5,25])<|Co 25 (Rq [Ai 4] [4]<|.ret)<|Sk [0,1,5])<|Re [Aa 15 5,Ak 16 15 1,Aa 5 16] [0,1,5])<|Rq [Bx 4] [4]<|.ret) [.tmp 4]:= by decide +kernel
theorem c64 (a:List Int) (b:List Int) (r:Bool) (h:ref05_SameInts a b=some r):Sound prog 64 [lI a,lI b] (.sh (eB r)):= by
 refine Fn ck64 fun hw=>?_
 unfold ref05_SameInts at h
 refine D<|F<|C rfl<|E (kt<|kt<|kn) fun _=>?_
 refine D<|D<|F<|C rfl<|W rfl rfl<|C rfl<|W rfl rfl<|a8 rfl rfl<|E (kt<|kt<|kt<|kn) fun _=>?_
 refine U rfl (fun hc10=>?_) (fun hc10=>?_)
 ·replace h:=M hc10 h
  refine D<|F<|C rfl<|E (kt<|kn) fun _=>?_
  exact L (by cases h;rfl)
 ·replace h:=O hc10 h
  refine P (kt<|kt<|kn) fun _=>?_
  refine D<|D<|F<|C rfl<|E (kt<|kt<|kt<|kn) fun _=>?_
  obtain ⟨o0,ho0,h⟩:=d0 h
  refine d4 ho0 (fun (i0:Int) (_:Unit)=>[(0,.tv (lI a)),(1,.tv (lI b)),(5,.tv (eI i0))]) (fun (_:Unit)=>[]) (fun zv ze=>resIs ([.tmp 4]) (.sh (eB zv)) ze) rfl ?_ ?_ ?_ ?_
  ·clear h ho0
   intro i0 s0 r0 hi0 h hw0
   refine D<|D<|F<|C rfl<|C rfl<|W rfl rfl<|X rfl rfl<|E (kt<|kt<|kt<|kt<|kn) fun _=>?_
   refine b2 rfl (b3 hi0)<|P (kt<|kt<|kt<|kn) fun _=>?_
   refine D<|a7<|D<|b9 rfl<|C rfl<|C rfl ?_
   obtain ⟨x19,hx19,h⟩:=J h
   refine Z rfl rfl rfl hx19 rfl<|I rfl<|C rfl<|C rfl ?_
   obtain ⟨x23,hx23,h⟩:=J h
   refine Z rfl rfl rfl hx23 rfl<|I rfl<|a8 rfl rfl<|E (kt<|kt<|kt<|kt<|kn) fun _=>?_
   refine U rfl (fun hc25=>?_) (fun hc25=>?_)
   ·replace h:=M hc25 h
    refine D<|F<|C rfl<|E (kt<|kn) fun _=>?_
    refine L ?_
    cases h
    exact ⟨_,rfl,rfl⟩
   ·replace h:=O hc25 h
    refine P (kt<|kt<|kt<|kn) fun _=>?_
    refine F<|C rfl<|a5 rfl rfl<|C rfl<|E (kt<|kt<|kt<|kn) ?_
    cases h
    refine ⟨_,rfl,?_⟩
    rw [Ktv rfl (Ktv rfl (Ktv rfl (Knil _)))]
    rw [b1 (a3 (hw0 5)) hi0 (e3 (a3 (hw0 0)) rfl)]
    all_goals rfl
  ·intro i0 s0 hi0
   refine D<|D<|F<|C rfl<|C rfl<|W rfl rfl<|X rfl rfl<|E (kt<|kt<|kt<|kt<|kn) fun _=>?_
   refine b4 rfl (b5 hi0)<|b0 (kn) ?_
   exact ⟨rfl,rfl⟩
  ·intro s0 hs
   replace h:=d1 h hs
   intro _
   refine D<|F<|C rfl<|E (kt<|kn) fun _=>?_
   exact L (by cases h;rfl)
  ·intro v0 ze hv hR
   replace h:=d2 h hv
   cases h
   exact hR
theorem ck22:CK f22 (Rq [Af 2 0,Af 3 1,Ai 4] [2,3]<|Rq [Ac 5 2 0,Ab 6 5,Ac 7 3 0,Ab 8 7,Al 9 64 6 8,Aa 10 9,Av 11 2 1 10,Aw 12 11 10,Av 13 3 1 10,Aw 14 13 10,Bv 15 64 12 14 10,Aq 16 10 15,Aa 4 16] [4]<|.ret) [.tmp 4]:= by decide +kernel
theorem c22 (p:Part) (q:Part) (r:Bool) (h:ref07_Same p q=some r):Sound prog 22 [ePart p,ePart q] (.sh (eB r)):= by
 refine Fn ck22 fun hw=>?_
 unfold ref07_Same at h
 refine D<|F<|Y rfl rfl<|Y rfl rfl<|C rfl<|E (kt<|kt<|kn) fun _=>?_
 refine D<|F<|K rfl<|I rfl<|K rfl<|I rfl ?_
 obtain ⟨x9,hx9,h⟩:=J h
 refine V rfl (c64 p.Nodes q.Nodes _ hx9)<|C rfl ?_
 obtain ⟨x16,hx16,h⟩:=J h
 refine gX 6 [11,12,13,14,15] 16 x16 x9 (fun hg16=>?_) (fun hg16=>?_) ?_
 ·replace h:=M hg16 hx16
  refine G rfl hg16<|K rfl<|G rfl hg16<|I rfl<|G rfl hg16<|K rfl<|G rfl hg16<|I rfl ?_
  obtain ⟨x15,hx15,h⟩:=J h
  refine G rfl hg16<|V rfl (c64 p.Edges q.Edges _ hx15) ?_
  cases h
  refine a1 rfl hg16 rfl ?_
  exact ⟨⟨_,_,_,_,_,rfl⟩⟩
 ·replace h:=O hg16 hx16
  cases h
  refine H rfl hg16<|H rfl hg16<|H rfl hg16<|H rfl hg16<|H rfl hg16<|a2 rfl hg16 rfl ?_
  exact ⟨⟨_,_,_,_,_,rfl⟩⟩
 rintro _ ⟨_,_,_,_,_,rfl⟩
 refine C rfl<|E (kt<|kn) fun _=>?_
 exact L (by cases h;rfl)
theorem ck41:CK f41 (Rq [Af 2 0,Af 3 1,Ai 4] [2,3]<|Sq (Rq [Ac 6 2 0,Ab 7 6,Ac 8 3 0,Ab 9 8,Al 10 64 7 9,Ay 11 10,Aa 12 11,Ao 13 2 1 12,Am 14 13 12,Ba 15 14 12,Ao 16 3 1 12,Am 17 16 12,Ba 18 17 12,Cj 19 15 18 12,Ar 20 12 19] [2,3,20]<|Co 20 (Rq [Ai 4] [4]<|.ret)<|Sk [2,3])<|Sq (Rq [Ad 5 0] [2,3,5]<|Bl 0<|Lo [2,3,5]<|Sq (Rq [Aa 21 5,Ac 22 2 1,Ab 23 22,Ag 24 23,Ap 25 21 24] [2,3,5,25]<|Co 25 (Sk [2,3,5])<|Ex 0 [])<|Sq (Bl 1<|Sq (Dr [28,29,30,31,32,33,34,35,36,37,38] [Ac 28 2 1,Ab 29 28,Aa 30 5,Ah 31 29 30 3,Ae 32 31 3,Ac 33 3 1,Ab 34 33,Aa 35 5,Ah 36 34 35 3,Ae 37 36 3,⟨some 38,.bin (.a [0,0,0]) .neq (.s 32) (.s 37),none⟩] [2,3,5,38])<|Co 38 (Rq [Ai 4] [4]<|.ret)<|Sk [2,3,5])<|Re [Aa 26 5,Ak 27 26 1,Aa 5 27] [2,3,5])<|Rq [Bx 4] [4]<|.ret) [.tmp 4]:= by decide +kernel
theorem c41 (a:Graph) (b:Graph) (r:Bool) (h:ref05_Same a b=some r):Sound prog 41 [eGraph a,eGraph b] (.sh (eB r)):= by
 refine Fn ck41 fun hw=>?_
 unfold ref05_Same at h
 refine D<|F<|Y rfl rfl<|Y rfl rfl<|C rfl<|E (kt<|kt<|kn) fun _=>?_
 refine D<|D<|F<|K rfl<|I rfl<|K rfl<|I rfl ?_
 obtain ⟨x10,hx10,h⟩:=J h
 refine V rfl (c64 a.Nodes b.Nodes _ hx10)<|b7 rfl<|C rfl ?_
 refine gO 8 [13,14,15,16,17,18,19] 20 (!x10) (!decide ((a.Edges.length:Int)=(b.Edges.length:Int))) (fun hg20=>?_) (fun hg20=>?_) ?_
 ·refine H rfl hg20<|H rfl hg20<|H rfl hg20<|H rfl hg20<|H rfl hg20<|H rfl hg20<|H rfl hg20<|a1 rfl hg20 rfl ?_
  exact ⟨⟨_,_,_,_,_,_,_,rfl⟩⟩
 ·refine G rfl hg20<|K rfl<|G rfl hg20<|I rfl<|G rfl hg20<|W rfl rfl<|G rfl hg20<|K rfl<|G rfl hg20<|I rfl<|G rfl hg20<|W rfl rfl<|G rfl hg20<|a8 rfl rfl<|a2 rfl hg20 rfl ?_
  exact ⟨⟨_,_,_,_,_,_,_,rfl⟩⟩
 rintro _ ⟨_,_,_,_,_,_,_,rfl⟩
 refine E (kt<|kt<|kt<|kn) fun _=>?_
 refine U rfl (fun hc20=>?_) (fun hc20=>?_)
 ·replace h:=M hc20 h
  refine D<|F<|C rfl<|E (kt<|kn) fun _=>?_
  exact L (by cases h;rfl)
 ·replace h:=O hc20 h
  refine P (kt<|kt<|kn) fun _=>?_
  refine D<|D<|F<|C rfl<|E (kt<|kt<|kt<|kn) fun _=>?_
  obtain ⟨o0,ho0,h⟩:=d0 h
  refine d4 ho0 (fun (i0:Int) (_:Unit)=>[(2,.tv (.pt (eGraph a).cells)),(3,.tv (.pt (eGraph b).cells)),(5,.tv (eI i0))]) (fun (_:Unit)=>[]) (fun zv ze=>resIs ([.tmp 4]) (.sh (eB zv)) ze) rfl ?_ ?_ ?_ ?_
  ·clear h ho0
   intro i0 s0 r0 hi0 h hw0
   refine D<|D<|F<|C rfl<|K rfl<|I rfl<|W rfl rfl<|X rfl rfl<|E (kt<|kt<|kt<|kt<|kn) fun _=>?_
   refine b2 rfl (b3 hi0)<|P (kt<|kt<|kt<|kn) fun _=>?_
   refine D<|a7<|D<|b9 rfl<|K rfl<|I rfl<|C rfl ?_
   obtain ⟨x31,hx31,h⟩:=J h
   refine Z rfl rfl rfl hx31 rfl<|R rfl rfl (show _=eEdge x31 from rfl)<|K rfl<|I rfl<|C rfl ?_
   obtain ⟨x36,hx36,h⟩:=J h
   refine Z rfl rfl rfl hx36 rfl<|R rfl rfl (show _=eEdge x36 from rfl)<|m6 rfl rfl rfl (eqi_Edge _ _)<|E (kt<|kt<|kt<|kt<|kn) fun _=>?_
   refine U rfl (fun hc38=>?_) (fun hc38=>?_)
   ·replace h:=M hc38 h
    refine D<|F<|C rfl<|E (kt<|kn) fun _=>?_
    refine L ?_
    cases h
    exact ⟨_,rfl,rfl⟩
   ·replace h:=O hc38 h
    refine P (kt<|kt<|kt<|kn) fun _=>?_
    refine F<|C rfl<|a5 rfl rfl<|C rfl<|E (kt<|kt<|kt<|kn) ?_
    cases h
    refine ⟨_,rfl,?_⟩
    rw [Ktv rfl (Ktv rfl (Ktv rfl (Knil _)))]
    rw [b1 (a3 (hw0 5)) hi0 (e3 (e7 (e8 (hw0 2)) (i:=1) rfl) rfl)]
    all_goals rfl
  ·intro i0 s0 hi0
   refine D<|D<|F<|C rfl<|K rfl<|I rfl<|W rfl rfl<|X rfl rfl<|E (kt<|kt<|kt<|kt<|kn) fun _=>?_
   refine b4 rfl (b5 hi0)<|b0 (kn) ?_
   exact ⟨rfl,rfl⟩
  ·intro s0 hs
   replace h:=d1 h hs
   intro _
   refine D<|F<|C rfl<|E (kt<|kn) fun _=>?_
   exact L (by cases h;rfl)
  ·intro v0 ze hv hR
   replace h:=d2 h hv
   cases h
   exact hR
theorem ck109:CK f109 (Rq [Af 2 0,Af 3 1,Ai 4] [2,3]<|Sq (Rq [Ac 7 2 0,Ae 8 7 2,Ac 9 3 0,Ae 10 9 2,Al 11 41 8 10,Ay 12 11,Aa 13 12,Ao 14 2 3 13,Am 15 14 13,Ao 16 3 3 13,Am 17 16 13,Cj 18 15 17 13,Ar 19 13 18,Aa 20 19,Ao 21 2 2 20,Am 22 21 20,Ba 23 22 20,Ao 24 3 2 20,Am 25 24 20,Ba 26 25 20,Cj 27 23 26 20,Ar 28 20 27,Aa 29 28,Ao 30 2 4 29,Am 31 30 29,Ba 32 31 29,Ao 33 3 4 29,Am 34 33 29,Ba 35 34 29,Cj 36 32 35 29,Ar 37 29 36] [2,3,37]<|Co 37 (Rq [Ai 4] [4]<|.ret)<|Sk [2,3])<|Sq (Rq [Ad 5 0] [2,3,5]<|Bl 0<|Lo [2,3,5]<|Sq (Rq [Aa 38 5,Ac 39 2 2,Ab 40 39,Ag 41 40,Ap 42 38 41] [2,3,5,42]<|Co 42 (Sk [2,3,5])<|Ex 0 [2,3])<|Sq (Bl 1<|Sq (Dr [45,46,47,48,49,50,51,52,53,54,55] [Ac 45 2 2,Ab 46 45,Aa 47 5,Ah 48 46 47 4,Ae 49 48 4,Ac 50 3 2,Ab 51 50,Aa 52 5,Ah 53 51 52 4,Ae 54 53 4,⟨some 55,.bin (.a [0,0,0,0]) .neq (.s 49) (.s 54),none⟩] [2,3,5,55])<|Co 55 (Rq [Ai 4] [4]<|.ret)<|Sk [2,3,5])<|Re [Aa 43 5,Ak 44 43 1,Aa 5 44] [2,3,5])<|Sq (Rq [Ad 6 0] [2,3,6]<|Bl 2<|Lo [2,3,6]<|Sq (Rq [Aa 56 6,Ac 57 2 4,Ab 58 57,Ag 59 58,Ap 60 56 59] [2,3,6,60]<|Co 60 (Sk [2,3,6])<|Ex 2 [])<|Sq (Bl 3<|Sq (Dr [63,64,65,66,67,68,69,70,71,72,73] [Ac 63 2 4,Ab 64 63,Aa 65 6,Ah 66 64 65 5,Ae 67 66 5,Ac 68 3 4,Ab 69 68,Aa 70 6,Ah 71 69 70 5,Ae 72 71 5,⟨some 73,.bin (.a [0,0,0,0,0]) .neq (.s 67) (.s 72),none⟩] [2,3,6,73])<|Co 73 (Rq [Ai 4] [4]<|.ret)<|Sk [2,3,6])<|Re [Aa 61 6,Ak 62 61 1,Aa 6 62] [2,3,6])<|Rq [Bx 4] [4]<|.ret) [.tmp 4]:= by decide +kernel
theorem c109 (a:Pattern) (b:Pattern) (r:Bool) (h:ref21_Same a b=some r):Sound prog 109 [ePattern a,ePattern b] (.sh (eB r)):= by
 refine Fn ck109 fun hw=>?_
 unfold ref21_Same at h
 refine D<|F<|Y rfl rfl<|Y rfl rfl<|C rfl<|E (kt<|kt<|kn) fun _=>?_
 refine D<|D<|F<|K rfl<|R rfl rfl (show _=eGraph a.Graph from rfl)<|K rfl<|R rfl rfl (show _=eGraph b.Graph from rfl) ?_
 obtain ⟨x11,hx11,h⟩:=J h
 refine V rfl (c41 a.Graph b.Graph _ hx11)<|b7 rfl<|C rfl ?_
 refine gO 6 [14,15,16,17,18] 19 (!x11) (!decide (a.Vars=b.Vars)) (fun hg19=>?_) (fun hg19=>?_) ?_
 ·refine H rfl hg19<|H rfl hg19<|H rfl hg19<|H rfl hg19<|H rfl hg19<|a1 rfl hg19 rfl ?_
  exact ⟨⟨_,_,_,_,_,rfl⟩⟩
 ·refine G rfl hg19<|K rfl<|G rfl hg19<|I rfl<|G rfl hg19<|K rfl<|G rfl hg19<|I rfl<|G rfl hg19<|a8 rfl rfl<|a2 rfl hg19 rfl ?_
  exact ⟨⟨_,_,_,_,_,rfl⟩⟩
 rintro _ ⟨_,_,_,_,_,rfl⟩
 refine C rfl ?_
 refine gO 8 [21,22,23,24,25,26,27] 28 ((!x11)||(!decide (a.Vars=b.Vars))) (!decide ((a.Slots.length:Int)=(b.Slots.length:Int))) (fun hg28=>?_) (fun hg28=>?_) ?_
 ·refine H rfl hg28<|H rfl hg28<|H rfl hg28<|H rfl hg28<|H rfl hg28<|H rfl hg28<|H rfl hg28<|a1 rfl hg28 rfl ?_
  exact ⟨⟨_,_,_,_,_,_,_,rfl⟩⟩
 ·refine G rfl hg28<|K rfl<|G rfl hg28<|I rfl<|G rfl hg28<|W rfl rfl<|G rfl hg28<|K rfl<|G rfl hg28<|I rfl<|G rfl hg28<|W rfl rfl<|G rfl hg28<|a8 rfl rfl<|a2 rfl hg28 rfl ?_
  exact ⟨⟨_,_,_,_,_,_,_,rfl⟩⟩
 rintro _ ⟨_,_,_,_,_,_,_,rfl⟩
 refine C rfl ?_
 refine gO 8 [30,31,32,33,34,35,36] 37 (((!x11)||(!decide (a.Vars=b.Vars)))||(!decide ((a.Slots.length:Int)=(b.Slots.length:Int)))) (!decide ((a.Tests.length:Int)=(b.Tests.length:Int))) (fun hg37=>?_) (fun hg37=>?_) ?_
 ·refine H rfl hg37<|H rfl hg37<|H rfl hg37<|H rfl hg37<|H rfl hg37<|H rfl hg37<|H rfl hg37<|a1 rfl hg37 rfl ?_
  exact ⟨⟨_,_,_,_,_,_,_,rfl⟩⟩
 ·refine G rfl hg37<|K rfl<|G rfl hg37<|I rfl<|G rfl hg37<|W rfl rfl<|G rfl hg37<|K rfl<|G rfl hg37<|I rfl<|G rfl hg37<|W rfl rfl<|G rfl hg37<|a8 rfl rfl<|a2 rfl hg37 rfl ?_
  exact ⟨⟨_,_,_,_,_,_,_,rfl⟩⟩
 rintro _ ⟨_,_,_,_,_,_,_,rfl⟩
 refine E (kt<|kt<|kt<|kn) fun _=>?_
 refine U rfl (fun hc37=>?_) (fun hc37=>?_)
 ·replace h:=M hc37 h
  refine D<|F<|C rfl<|E (kt<|kn) fun _=>?_
  exact L (by cases h;rfl)
 ·replace h:=O hc37 h
  refine P (kt<|kt<|kn) fun _=>?_
  refine D<|D<|F<|C rfl<|E (kt<|kt<|kt<|kn) fun _=>?_
  obtain ⟨o0,ho0,h⟩:=d0 h
  refine d4 ho0 (fun (i0:Int) (_:Unit)=>[(2,.tv (.pt (ePattern a).cells)),(3,.tv (.pt (ePattern b).cells)),(5,.tv (eI i0))]) (fun (_:Unit)=>[(2,.tv (.pt (ePattern a).cells)),(3,.tv (.pt (ePattern b).cells))]) (fun zv ze=>resIs ([.tmp 4]) (.sh (eB zv)) ze) rfl ?_ ?_ ?_ ?_
  ·clear h ho0
   intro i0 s0 r0 hi0 h hw0
   refine D<|D<|F<|C rfl<|K rfl<|I rfl<|W rfl rfl<|X rfl rfl<|E (kt<|kt<|kt<|kt<|kn) fun _=>?_
   refine b2 rfl (b3 hi0)<|P (kt<|kt<|kt<|kn) fun _=>?_
   refine D<|a7<|D<|b9 rfl<|K rfl<|I rfl<|C rfl ?_
   obtain ⟨x48,hx48,h⟩:=J h
   refine Z rfl rfl rfl hx48 rfl<|R rfl rfl (show _=eSlot x48 from rfl)<|K rfl<|I rfl<|C rfl ?_
   obtain ⟨x53,hx53,h⟩:=J h
   refine Z rfl rfl rfl hx53 rfl<|R rfl rfl (show _=eSlot x53 from rfl)<|m6 rfl rfl rfl (eqi_Slot _ _)<|E (kt<|kt<|kt<|kt<|kn) fun _=>?_
   refine U rfl (fun hc55=>?_) (fun hc55=>?_)
   ·replace h:=M hc55 h
    refine D<|F<|C rfl<|E (kt<|kn) fun _=>?_
    refine L ?_
    cases h
    exact ⟨_,rfl,rfl⟩
   ·replace h:=O hc55 h
    refine P (kt<|kt<|kt<|kn) fun _=>?_
    refine F<|C rfl<|a5 rfl rfl<|C rfl<|E (kt<|kt<|kt<|kn) ?_
    cases h
    refine ⟨_,rfl,?_⟩
    rw [Ktv rfl (Ktv rfl (Ktv rfl (Knil _)))]
    rw [b1 (a3 (hw0 5)) hi0 (e3 (e7 (e8 (hw0 2)) (i:=2) rfl) rfl)]
    all_goals rfl
  ·intro i0 s0 hi0
   refine D<|D<|F<|C rfl<|K rfl<|I rfl<|W rfl rfl<|X rfl rfl<|E (kt<|kt<|kt<|kt<|kn) fun _=>?_
   refine b4 rfl (b5 hi0)<|b0 (kt<|kt<|kn) ?_
   exact ⟨rfl,rfl⟩
  ·intro s0 hs
   replace h:=d1 h hs
   intro _
   refine D<|D<|F<|C rfl<|E (kt<|kt<|kt<|kn) fun _=>?_
   obtain ⟨o2,ho2,h⟩:=d0 h
   refine d4 ho2 (fun (i2:Int) (_:Unit)=>[(2,.tv (.pt (ePattern a).cells)),(3,.tv (.pt (ePattern b).cells)),(6,.tv (eI i2))]) (fun (_:Unit)=>[]) (fun zv ze=>resIs ([.tmp 4]) (.sh (eB zv)) ze) rfl ?_ ?_ ?_ ?_
   ·clear h ho2
    intro i2 s2 r2 hi2 h hw2
    refine D<|D<|F<|C rfl<|K rfl<|I rfl<|W rfl rfl<|X rfl rfl<|E (kt<|kt<|kt<|kt<|kn) fun _=>?_
    refine b2 rfl (b3 hi2)<|P (kt<|kt<|kt<|kn) fun _=>?_
    refine D<|a7<|D<|b9 rfl<|K rfl<|I rfl<|C rfl ?_
    obtain ⟨x66,hx66,h⟩:=J h
    refine Z rfl rfl rfl hx66 rfl<|R rfl rfl (show _=eTest x66 from rfl)<|K rfl<|I rfl<|C rfl ?_
    obtain ⟨x71,hx71,h⟩:=J h
    refine Z rfl rfl rfl hx71 rfl<|R rfl rfl (show _=eTest x71 from rfl)<|m6 rfl rfl rfl (eqi_Test _ _)<|E (kt<|kt<|kt<|kt<|kn) fun _=>?_
    refine U rfl (fun hc73=>?_) (fun hc73=>?_)
    ·replace h:=M hc73 h
     refine D<|F<|C rfl<|E (kt<|kn) fun _=>?_
     refine L ?_
     cases h
     exact ⟨_,rfl,rfl⟩
    ·replace h:=O hc73 h
     refine P (kt<|kt<|kt<|kn) fun _=>?_
     refine F<|C rfl<|a5 rfl rfl<|C rfl<|E (kt<|kt<|kt<|kn) ?_
     cases h
     refine ⟨_,rfl,?_⟩
     rw [Ktv rfl (Ktv rfl (Ktv rfl (Knil _)))]
     rw [b1 (a3 (hw2 6)) hi2 (e3 (e7 (e8 (hw2 2)) (i:=4) rfl) rfl)]
     all_goals rfl
   ·intro i2 s2 hi2
    refine D<|D<|F<|C rfl<|K rfl<|I rfl<|W rfl rfl<|X rfl rfl<|E (kt<|kt<|kt<|kt<|kn) fun _=>?_
    refine b4 rfl (b5 hi2)<|b0 (kn) ?_
    exact ⟨rfl,rfl⟩
   ·intro s2 hs
    replace h:=d1 h hs
    intro _
    refine D<|F<|C rfl<|E (kt<|kn) fun _=>?_
    exact L (by cases h;rfl)
   ·intro v2 ze hv hR
    replace h:=d2 h hv
    cases h
    exact hR
  ·intro v0 ze hv hR
   replace h:=d2 h hv
   cases h
   exact hR
theorem ck167:CK f167 (Rq [Ai 4] [0,1]<|Sq (Rq [Aa 6 0,Ag 7 6,Aa 8 1,Ag 9 8,Bs 10 7 9] [0,1,10]<|Co 10 (Rq [Ai 4] [4]<|.ret)<|Sk [0,1])<|Sq (Rq [Ad 5 0] [0,1,5]<|Bl 0<|Lo [0,1,5]<|Sq (Rq [Aa 11 5,Aa 12 0,Ag 13 12,Ap 14 11 13] [0,1,5,14]<|Co 14 (Sk [0,1,5])<|Ex 0 [])<|Sq (Bl 1<|Sq (Dr [17,18,19,20,21,22,23,24,25] [Aa 17 0,Aa 18 5,Ah 19 17 18 1,Ab 20 19,Aa 21 1,Aa 22 5,Ah 23 21 22 1,Ab 24 23,Bs 25 20 24] [0,1,5,25])<|Co 25 (Rq [Ai 4] [4]<|.ret)<|Sk [0,1,5])<|Re [Aa 15 5,Ak 16 15 1,Aa 5 16] [0,1,5])<|Rq [Bx 4] [4]<|.ret) [.tmp 4]:= by decide +kernel
theorem c167 (a:List Int) (b:List Int) (r:Bool) (h:ref02_SameInts a b=some r):Sound prog 167 [lI a,lI b] (.sh (eB r)):= by
 refine Fn ck167 fun hw=>?_
 unfold ref02_SameInts at h
 refine D<|F<|C rfl<|E (kt<|kt<|kn) fun _=>?_
 refine D<|D<|F<|C rfl<|W rfl rfl<|C rfl<|W rfl rfl<|a8 rfl rfl<|E (kt<|kt<|kt<|kn) fun _=>?_
 refine U rfl (fun hc10=>?_) (fun hc10=>?_)
 ·replace h:=M hc10 h
  refine D<|F<|C rfl<|E (kt<|kn) fun _=>?_
  exact L (by cases h;rfl)
 ·replace h:=O hc10 h
  refine P (kt<|kt<|kn) fun _=>?_
  refine D<|D<|F<|C rfl<|E (kt<|kt<|kt<|kn) fun _=>?_
  obtain ⟨o0,ho0,h⟩:=d0 h
  refine d4 ho0 (fun (i0:Int) (_:Unit)=>[(0,.tv (lI a)),(1,.tv (lI b)),(5,.tv (eI i0))]) (fun (_:Unit)=>[]) (fun zv ze=>resIs ([.tmp 4]) (.sh (eB zv)) ze) rfl ?_ ?_ ?_ ?_
  ·clear h ho0
   intro i0 s0 r0 hi0 h hw0
   refine D<|D<|F<|C rfl<|C rfl<|W rfl rfl<|X rfl rfl<|E (kt<|kt<|kt<|kt<|kn) fun _=>?_
   refine b2 rfl (b3 hi0)<|P (kt<|kt<|kt<|kn) fun _=>?_
   refine D<|a7<|D<|b9 rfl<|C rfl<|C rfl ?_
   obtain ⟨x19,hx19,h⟩:=J h
   refine Z rfl rfl rfl hx19 rfl<|I rfl<|C rfl<|C rfl ?_
   obtain ⟨x23,hx23,h⟩:=J h
   refine Z rfl rfl rfl hx23 rfl<|I rfl<|a8 rfl rfl<|E (kt<|kt<|kt<|kt<|kn) fun _=>?_
   refine U rfl (fun hc25=>?_) (fun hc25=>?_)
   ·replace h:=M hc25 h
    refine D<|F<|C rfl<|E (kt<|kn) fun _=>?_
    refine L ?_
    cases h
    exact ⟨_,rfl,rfl⟩
   ·replace h:=O hc25 h
    refine P (kt<|kt<|kt<|kn) fun _=>?_
    refine F<|C rfl<|a5 rfl rfl<|C rfl<|E (kt<|kt<|kt<|kn) ?_
    cases h
    refine ⟨_,rfl,?_⟩
    rw [Ktv rfl (Ktv rfl (Ktv rfl (Knil _)))]
    rw [b1 (a3 (hw0 5)) hi0 (e3 (a3 (hw0 0)) rfl)]
    all_goals rfl
  ·intro i0 s0 hi0
   refine D<|D<|F<|C rfl<|C rfl<|W rfl rfl<|X rfl rfl<|E (kt<|kt<|kt<|kt<|kn) fun _=>?_
   refine b4 rfl (b5 hi0)<|b0 (kn) ?_
   exact ⟨rfl,rfl⟩
  ·intro s0 hs
   replace h:=d1 h hs
   intro _
   refine D<|F<|C rfl<|E (kt<|kn) fun _=>?_
   exact L (by cases h;rfl)
  ·intro v0 ze hv hR
   replace h:=d2 h hv
   cases h
   exact hR
theorem ck110:CK f110 (Rq [Af 2 0,Af 3 1,Ai 4] [2,3]<|Rq [Ac 5 2 0,Ab 6 5,Ac 7 3 0,Ab 8 7,Al 9 167 6 8,Aa 10 9,Av 11 2 1 10,Aw 12 11 10,Av 13 3 1 10,Aw 14 13 10,Bv 15 167 12 14 10,Aq 16 10 15,Aa 4 16] [4]<|.ret) [.tmp 4]:= by decide +kernel
theorem c110 (a:Morphism) (b:Morphism) (r:Bool) (h:ref06_Same a b=some r):Sound prog 110 [eMorphism a,eMorphism b] (.sh (eB r)):= by
 refine Fn ck110 fun hw=>?_
 unfold ref06_Same at h
 refine D<|F<|Y rfl rfl<|Y rfl rfl<|C rfl<|E (kt<|kt<|kn) fun _=>?_
 refine D<|F<|K rfl<|I rfl<|K rfl<|I rfl ?_
 obtain ⟨x9,hx9,h⟩:=J h
 refine V rfl (c167 a.Nodes b.Nodes _ hx9)<|C rfl ?_
 obtain ⟨x16,hx16,h⟩:=J h
 refine gX 6 [11,12,13,14,15] 16 x16 x9 (fun hg16=>?_) (fun hg16=>?_) ?_
 ·replace h:=M hg16 hx16
  refine G rfl hg16<|K rfl<|G rfl hg16<|I rfl<|G rfl hg16<|K rfl<|G rfl hg16<|I rfl ?_
  obtain ⟨x15,hx15,h⟩:=J h
  refine G rfl hg16<|V rfl (c167 a.Edges b.Edges _ hx15) ?_
  cases h
  refine a1 rfl hg16 rfl ?_
  exact ⟨⟨_,_,_,_,_,rfl⟩⟩
 ·replace h:=O hg16 hx16
  cases h
  refine H rfl hg16<|H rfl hg16<|H rfl hg16<|H rfl hg16<|H rfl hg16<|a2 rfl hg16 rfl ?_
  exact ⟨⟨_,_,_,_,_,rfl⟩⟩
 rintro _ ⟨_,_,_,_,_,rfl⟩
 refine C rfl<|E (kt<|kn) fun _=>?_
 exact L (by cases h;rfl)
theorem ck111:CK f111 (Rq [Af 2 0,Af 3 1,Ai 4] [2,3]<|Sq (Rq [Ac 6 2 0,Ab 7 6,Ac 8 3 0,Ab 9 8,Bs 10 7 9,Aa 11 10,Ao 12 2 1 11,Am 13 12 11,Ba 14 13 11,Ao 15 3 1 11,Am 16 15 11,Ba 17 16 11,Cj 18 14 17 11,Ar 19 11 18,Aa 20 19,Ao 21 2 2 20,Cg 22 21 2 20,Ao 23 3 2 20,Cg 24 23 2 20,Cn 25 110 22 24 20,Bq 26 25 20,Ar 27 20 26,Aa 28 27,Ao 29 2 4 28,Cg 30 29 5 28,Ao 31 3 4 28,Cg 32 31 5 28,Cn 33 109 30 32 28,Bq 34 33 28,Ar 35 28 34] [2,3,35]<|Co 35 (Rq [Ai 4] [4]<|.ret)<|Sk [2,3])<|Sq (Rq [Ad 5 0] [2,3,5]<|Bl 0<|Lo [2,3,5]<|Sq (Rq [Aa 36 5,Ac 37 2 1,Ab 38 37,Ag 39 38,Ap 40 36 39] [2,3,5,40]<|Co 40 (Sk [2,3,5])<|Ex 0 [])<|Sq (Bl 1<|Sq (Dr [43,44,45,46,47,48,49,50,51,52,53,54] [Ac 43 2 1,Ab 44 43,Aa 45 5,Ah 46 44 45 9,Ae 47 46 9,Ac 48 3 1,Ab 49 48,Aa 50 5,Ah 51 49 50 9,Ae 52 51 9,Al 53 111 47 52,Ay 54 53] [2,3,5,54])<|Co 54 (Rq [Ai 4] [4]<|.ret)<|Sk [2,3,5])<|Re [Aa 41 5,Ak 42 41 1,Aa 5 42] [2,3,5])<|Rq [Bx 4] [4]<|.ret) [.tmp 4]:= by decide +kernel
theorem c111S (n:Nat) (ih_111:∀ (a:Condition) (b:Condition) (r:Bool) (_:ref22_SameF n a b=some r),Sound prog 111 [eCondition a,eCondition b] (.sh (eB r))):∀ (a:Condition) (b:Condition) (r:Bool) (_:ref22_SameF (n+1) a b=some r),Sound prog 111 [eCondition a,eCondition b] (.sh (eB r)):= by
 intro a b r h
 refine Fn ck111 fun hw=>?_
 unfold ref22_SameF at h
 refine D<|F<|Y rfl rfl<|Y rfl rfl<|C rfl<|E (kt<|kt<|kn) fun _=>?_
 refine D<|D<|F<|K rfl<|I rfl<|K rfl<|I rfl<|a8 rfl rfl<|C rfl ?_
 refine gO 8 [12,13,14,15,16,17,18] 19 (!decide (a.Kind=b.Kind)) (!decide ((a.Kids.length:Int)=(b.Kids.length:Int))) (fun hg19=>?_) (fun hg19=>?_) ?_
 ·refine H rfl hg19<|H rfl hg19<|H rfl hg19<|H rfl hg19<|H rfl hg19<|H rfl hg19<|H rfl hg19<|a1 rfl hg19 rfl ?_
  exact ⟨⟨_,_,_,_,_,_,_,rfl⟩⟩
 ·refine G rfl hg19<|K rfl<|G rfl hg19<|I rfl<|G rfl hg19<|W rfl (eLCondition_eq _)<|G rfl hg19<|K rfl<|G rfl hg19<|I rfl<|G rfl hg19<|W rfl (eLCondition_eq _)<|G rfl hg19<|a8 rfl rfl<|a2 rfl hg19 rfl ?_
  exact ⟨⟨_,_,_,_,_,_,_,rfl⟩⟩
 rintro _ ⟨_,_,_,_,_,_,_,rfl⟩
 refine C rfl ?_
 obtain ⟨x27,hx27,h⟩:=J h
 refine gX 7 [21,22,23,24,25,26] 27 x27 ((!decide (a.Kind=b.Kind))||(!decide ((a.Kids.length:Int)=(b.Kids.length:Int)))) (fun hg27=>?_) (fun hg27=>?_) ?_
 ·replace h:=M hg27 hx27
  cases h
  refine H rfl hg27<|H rfl hg27<|H rfl hg27<|H rfl hg27<|H rfl hg27<|H rfl hg27<|a1 rfl hg27 rfl ?_
  exact ⟨⟨_,_,_,_,_,_,rfl⟩⟩
 ·replace h:=O hg27 hx27
  refine G rfl hg27<|K rfl<|G rfl hg27<|R rfl rfl (show _=eMorphism a.Map from rfl)<|G rfl hg27<|K rfl<|G rfl hg27<|R rfl rfl (show _=eMorphism b.Map from rfl) ?_
  obtain ⟨x25,hx25,h⟩:=J h
  refine G rfl hg27<|V rfl (c110 a.Map b.Map _ hx25)<|G rfl hg27<|b7 rfl ?_
  cases h
  refine a2 rfl hg27 rfl ?_
  exact ⟨⟨_,_,_,_,_,_,rfl⟩⟩
 rintro _ ⟨_,_,_,_,_,_,rfl⟩
 refine C rfl ?_
 obtain ⟨x35,hx35,h⟩:=J h
 refine gX 7 [29,30,31,32,33,34] 35 x35 x27 (fun hg35=>?_) (fun hg35=>?_) ?_
 ·replace h:=M hg35 hx35
  cases h
  refine H rfl hg35<|H rfl hg35<|H rfl hg35<|H rfl hg35<|H rfl hg35<|H rfl hg35<|a1 rfl hg35 rfl ?_
  exact ⟨⟨_,_,_,_,_,_,rfl⟩⟩
 ·replace h:=O hg35 hx35
  refine G rfl hg35<|K rfl<|G rfl hg35<|R rfl rfl (show _=ePattern a.Pattern from rfl)<|G rfl hg35<|K rfl<|G rfl hg35<|R rfl rfl (show _=ePattern b.Pattern from rfl) ?_
  obtain ⟨x33,hx33,h⟩:=J h
  refine G rfl hg35<|V rfl (c109 a.Pattern b.Pattern _ hx33)<|G rfl hg35<|b7 rfl ?_
  cases h
  refine a2 rfl hg35 rfl ?_
  exact ⟨⟨_,_,_,_,_,_,rfl⟩⟩
 rintro _ ⟨_,_,_,_,_,_,rfl⟩
 refine E (kt<|kt<|kt<|kn) fun _=>?_
 refine U rfl (fun hc35=>?_) (fun hc35=>?_)
 ·replace h:=M hc35 h
  refine D<|F<|C rfl<|E (kt<|kn) fun _=>?_
  exact L (by cases h;rfl)
 ·replace h:=O hc35 h
  refine P (kt<|kt<|kn) fun _=>?_
  refine D<|D<|F<|C rfl<|E (kt<|kt<|kt<|kn) fun _=>?_
  obtain ⟨o0,ho0,h⟩:=d0 h
  refine d4 ho0 (fun (i0:Int) (_:Unit)=>[(2,.tv (.pt (eCondition a).cells)),(3,.tv (.pt (eCondition b).cells)),(5,.tv (eI i0))]) (fun (_:Unit)=>[]) (fun zv ze=>resIs ([.tmp 4]) (.sh (eB zv)) ze) rfl ?_ ?_ ?_ ?_
  ·clear h ho0
   intro i0 s0 r0 hi0 h hw0
   refine D<|D<|F<|C rfl<|K rfl<|I rfl<|W rfl (eLCondition_eq _)<|X rfl rfl<|E (kt<|kt<|kt<|kt<|kn) fun _=>?_
   refine b2 rfl (b3 hi0)<|P (kt<|kt<|kt<|kn) fun _=>?_
   refine D<|a7<|D<|b9 rfl<|K rfl<|I rfl<|C rfl ?_
   obtain ⟨x46,hx46,h⟩:=J h
   refine Z rfl rfl (eLCondition_eq _) hx46 rfl<|R rfl rfl (show _=eCondition x46 from rfl)<|K rfl<|I rfl<|C rfl ?_
   obtain ⟨x51,hx51,h⟩:=J h
   refine Z rfl rfl (eLCondition_eq _) hx51 rfl<|R rfl rfl (show _=eCondition x51 from rfl) ?_
   obtain ⟨x53,hx53,h⟩:=J h
   refine V rfl (ih_111 x46 x51 _ hx53)<|b7 rfl<|E (kt<|kt<|kt<|kt<|kn) fun _=>?_
   refine U rfl (fun hc54=>?_) (fun hc54=>?_)
   ·replace h:=M hc54 h
    refine D<|F<|C rfl<|E (kt<|kn) fun _=>?_
    refine L ?_
    cases h
    exact ⟨_,rfl,rfl⟩
   ·replace h:=O hc54 h
    refine P (kt<|kt<|kt<|kn) fun _=>?_
    refine F<|C rfl<|a5 rfl rfl<|C rfl<|E (kt<|kt<|kt<|kn) ?_
    cases h
    refine ⟨_,rfl,?_⟩
    rw [Ktv rfl (Ktv rfl (Ktv rfl (Knil _)))]
    rw [b1 (a3 (hw0 5)) hi0 (e3 (e7 (e8 (hw0 2)) (i:=1) rfl) (eLCondition_eq _))]
    all_goals rfl
  ·intro i0 s0 hi0
   refine D<|D<|F<|C rfl<|K rfl<|I rfl<|W rfl (eLCondition_eq _)<|X rfl rfl<|E (kt<|kt<|kt<|kt<|kn) fun _=>?_
   refine b4 rfl (b5 hi0)<|b0 (kn) ?_
   exact ⟨rfl,rfl⟩
  ·intro s0 hs
   replace h:=d1 h hs
   intro _
   refine D<|F<|C rfl<|E (kt<|kn) fun _=>?_
   exact L (by cases h;rfl)
  ·intro v0 ze hv hR
   replace h:=d2 h hv
   cases h
   exact hR
theorem c111A:∀ n:Nat,(∀ (a:Condition) (b:Condition) (r:Bool) (_:ref22_SameF n a b=some r),Sound prog 111 [eCondition a,eCondition b] (.sh (eB r))):=by
  intro n
  induction n with
  | zero=>intro a b r h; cases h
  | succ n ih=>exact c111S n ih
theorem c111 (a:Condition) (b:Condition) (r:Bool) (h:ref22_Same a b=some r):Sound prog 111 [eCondition a,eCondition b] (.sh (eB r)):=by
  obtain ⟨N,hN⟩:=lim_some h
  exact (c111A N) a b r (hN N (Nat.le_refl _))
theorem ck61:CK f61 (Rq [Af 2 0,Af 3 1,Ai 4] [2,3]<|Rq [Ac 5 2 0,Ab 6 5,Ac 7 3 0,Ab 8 7,Cr 9 6 8,Aa 10 9,Av 11 2 15 10,Aw 12 11 10,Av 13 3 15 10,Aw 14 13 10,⟨some 15,.bin (.b) .eql (.s 12) (.s 14),some (10,true)⟩,Aq 16 10 15,Aa 17 16,Av 18 2 1 17,Bj 19 18 5 17,Av 20 3 1 17,Bj 21 20 5 17,Bv 22 109 19 21 17,Aq 23 17 22,Aa 24 23,Av 25 2 6 24,Bj 26 25 5 24,Av 27 3 6 24,Bj 28 27 5 24,Bv 29 109 26 28 24,Aq 30 24 29,Aa 31 30,Av 32 2 11 31,Bj 33 32 2 31,Av 34 3 11 31,Bj 35 34 2 31,Bv 36 22 33 35 31,Aq 37 31 36,Aa 38 37,Av 39 2 13 38,Bj 40 39 2 38,Av 41 3 13 38,Bj 42 41 2 38,Bv 43 110 40 42 38,Aq 44 38 43,Aa 45 44,Av 46 2 16 45,Bj 47 46 9 45,Av 48 3 16 45,Bj 49 48 9 45,Bv 50 111 47 49 45,Aq 51 45 50,Aa 4 51] [4]<|.ret) [.tmp 4]:= by decide +kernel
theorem c61 (a:Rule) (b:Rule) (r:Bool) (h:ref24_Same a b=some r):Sound prog 61 [eRule a,eRule b] (.sh (eB r)):= by
 refine Fn ck61 fun hw=>?_
 unfold ref24_Same at h
 refine D<|F<|Y rfl rfl<|Y rfl rfl<|C rfl<|E (kt<|kt<|kn) fun _=>?_
 refine D<|F<|K rfl<|I rfl<|K rfl<|I rfl<|g7 rfl rfl<|C rfl ?_
 refine gA 6 [11,12,13,14,15] 16 (a.Name==b.Name) (a.Injective==b.Injective) (fun hg16=>?_) (fun hg16=>?_) ?_
 ·refine G rfl hg16<|K rfl<|G rfl hg16<|I rfl<|G rfl hg16<|K rfl<|G rfl hg16<|I rfl<|G rfl hg16<|m1 rfl rfl<|a1 rfl hg16 rfl ?_
  exact ⟨⟨_,_,_,_,_,rfl⟩⟩
 ·refine H rfl hg16<|H rfl hg16<|H rfl hg16<|H rfl hg16<|H rfl hg16<|a2 rfl hg16 rfl ?_
  exact ⟨⟨_,_,_,_,_,rfl⟩⟩
 rintro _ ⟨_,_,_,_,_,rfl⟩
 refine C rfl ?_
 obtain ⟨x23,hx23,h⟩:=J h
 refine gX 6 [18,19,20,21,22] 23 x23 ((a.Name==b.Name)&&(a.Injective==b.Injective)) (fun hg23=>?_) (fun hg23=>?_) ?_
 ·replace h:=M hg23 hx23
  refine G rfl hg23<|K rfl<|G rfl hg23<|R rfl rfl (show _=ePattern a.Left from rfl)<|G rfl hg23<|K rfl<|G rfl hg23<|R rfl rfl (show _=ePattern b.Left from rfl) ?_
  obtain ⟨x22,hx22,h⟩:=J h
  refine G rfl hg23<|V rfl (c109 a.Left b.Left _ hx22) ?_
  cases h
  refine a1 rfl hg23 rfl ?_
  exact ⟨⟨_,_,_,_,_,rfl⟩⟩
 ·replace h:=O hg23 hx23
  cases h
  refine H rfl hg23<|H rfl hg23<|H rfl hg23<|H rfl hg23<|H rfl hg23<|a2 rfl hg23 rfl ?_
  exact ⟨⟨_,_,_,_,_,rfl⟩⟩
 rintro _ ⟨_,_,_,_,_,rfl⟩
 refine C rfl ?_
 obtain ⟨x30,hx30,h⟩:=J h
 refine gX 6 [25,26,27,28,29] 30 x30 x23 (fun hg30=>?_) (fun hg30=>?_) ?_
 ·replace h:=M hg30 hx30
  refine G rfl hg30<|K rfl<|G rfl hg30<|R rfl rfl (show _=ePattern a.Right from rfl)<|G rfl hg30<|K rfl<|G rfl hg30<|R rfl rfl (show _=ePattern b.Right from rfl) ?_
  obtain ⟨x29,hx29,h⟩:=J h
  refine G rfl hg30<|V rfl (c109 a.Right b.Right _ hx29) ?_
  cases h
  refine a1 rfl hg30 rfl ?_
  exact ⟨⟨_,_,_,_,_,rfl⟩⟩
 ·replace h:=O hg30 hx30
  cases h
  refine H rfl hg30<|H rfl hg30<|H rfl hg30<|H rfl hg30<|H rfl hg30<|a2 rfl hg30 rfl ?_
  exact ⟨⟨_,_,_,_,_,rfl⟩⟩
 rintro _ ⟨_,_,_,_,_,rfl⟩
 refine C rfl ?_
 obtain ⟨x37,hx37,h⟩:=J h
 refine gX 6 [32,33,34,35,36] 37 x37 x30 (fun hg37=>?_) (fun hg37=>?_) ?_
 ·replace h:=M hg37 hx37
  refine G rfl hg37<|K rfl<|G rfl hg37<|R rfl rfl (show _=ePart a.Keep from rfl)<|G rfl hg37<|K rfl<|G rfl hg37<|R rfl rfl (show _=ePart b.Keep from rfl) ?_
  obtain ⟨x36,hx36,h⟩:=J h
  refine G rfl hg37<|V rfl (c22 a.Keep b.Keep _ hx36) ?_
  cases h
  refine a1 rfl hg37 rfl ?_
  exact ⟨⟨_,_,_,_,_,rfl⟩⟩
 ·replace h:=O hg37 hx37
  cases h
  refine H rfl hg37<|H rfl hg37<|H rfl hg37<|H rfl hg37<|H rfl hg37<|a2 rfl hg37 rfl ?_
  exact ⟨⟨_,_,_,_,_,rfl⟩⟩
 rintro _ ⟨_,_,_,_,_,rfl⟩
 refine C rfl ?_
 obtain ⟨x44,hx44,h⟩:=J h
 refine gX 6 [39,40,41,42,43] 44 x44 x37 (fun hg44=>?_) (fun hg44=>?_) ?_
 ·replace h:=M hg44 hx44
  refine G rfl hg44<|K rfl<|G rfl hg44<|R rfl rfl (show _=eMorphism a.Into from rfl)<|G rfl hg44<|K rfl<|G rfl hg44<|R rfl rfl (show _=eMorphism b.Into from rfl) ?_
  obtain ⟨x43,hx43,h⟩:=J h
  refine G rfl hg44<|V rfl (c110 a.Into b.Into _ hx43) ?_
  cases h
  refine a1 rfl hg44 rfl ?_
  exact ⟨⟨_,_,_,_,_,rfl⟩⟩
 ·replace h:=O hg44 hx44
  cases h
  refine H rfl hg44<|H rfl hg44<|H rfl hg44<|H rfl hg44<|H rfl hg44<|a2 rfl hg44 rfl ?_
  exact ⟨⟨_,_,_,_,_,rfl⟩⟩
 rintro _ ⟨_,_,_,_,_,rfl⟩
 refine C rfl ?_
 obtain ⟨x51,hx51,h⟩:=J h
 refine gX 6 [46,47,48,49,50] 51 x51 x44 (fun hg51=>?_) (fun hg51=>?_) ?_
 ·replace h:=M hg51 hx51
  refine G rfl hg51<|K rfl<|G rfl hg51<|R rfl rfl (show _=eCondition a.Condition from rfl)<|G rfl hg51<|K rfl<|G rfl hg51<|R rfl rfl (show _=eCondition b.Condition from rfl) ?_
  obtain ⟨x50,hx50,h⟩:=J h
  refine G rfl hg51<|V rfl (c111 a.Condition b.Condition _ hx50) ?_
  cases h
  refine a1 rfl hg51 rfl ?_
  exact ⟨⟨_,_,_,_,_,rfl⟩⟩
 ·replace h:=O hg51 hx51
  cases h
  refine H rfl hg51<|H rfl hg51<|H rfl hg51<|H rfl hg51<|H rfl hg51<|a2 rfl hg51 rfl ?_
  exact ⟨⟨_,_,_,_,_,rfl⟩⟩
 rintro _ ⟨_,_,_,_,_,rfl⟩
 refine C rfl<|E (kt<|kn) fun _=>?_
 exact L (by cases h;rfl)
theorem ck17:CK f17 (Rq [Af 2 0,Af 3 1,Ai 4] [2,3]<|Rq [Ae 5 2 25,Ae 6 3 25,Al 7 61 5 6,Aa 4 7] [4]<|.ret) [.tmp 4]:= by decide +kernel
theorem c17 (a:Rule) (b:Rule) (r:Bool) (h:ref53_Same a b=some r):Sound prog 17 [eRule a,eRule b] (.sh (eB r)):= by
 refine Fn ck17 fun hw=>?_
 unfold ref53_Same at h
 refine D<|F<|Y rfl rfl<|Y rfl rfl<|C rfl<|E (kt<|kt<|kn) fun _=>?_
 refine D<|F<|R rfl rfl (show _=eRule a from rfl)<|R rfl rfl (show _=eRule b from rfl) ?_
 obtain ⟨x7,hx7,h⟩:=J h
 refine V rfl (c61 a b _ hx7)<|C rfl<|E (kt<|kn) fun _=>?_
 exact L (by cases h;rfl)
theorem ck3:CK f3 (Rq [Af 2 0,Af 3 1,Ai 4] [2,3]<|Sq (Rq [Dg 13 9,Ay 14 13,Aa 15 14,Ao 16 2 0 15,Cg 17 16 2 15,Ao 18 2 2 15,Cg 19 18 2 15,Cg 20 3 25 15,⟨some 21,.call 10 [.s 17,.s 19,.s 20],some (15,false)⟩,Bq 22 21 15,Ar 23 15 22] [2,3,23]<|Co 23 (Rq [Dg 24 9,Aa 4 24] [4]<|.ret)<|Sk [2,3])<|Rq [Ac 26 2 0,Ae 27 26 2,Ac 28 2 2,Ae 29 28 2,Ae 30 3 25,Bc 31 11 27 29 30,Aa 25 31,As 32 25 0,As 33 25 1,Ca 5 1 3 4 0 5 1 3 4 0 5 1 1 1 1 0 9 1 1 1 3 4 0 5,An 25 5 32,Aa 6 33] [2,3,5,6]<|Rq [Ac 35 2 0,Ae 36 35 2,Ac 37 2 2,Ae 38 37 2,Ae 39 3 25,Bc 40 12 36 38 39,Aa 34 40,As 41 34 0,As 42 34 1,Ca 7 1 3 4 0 5 1 3 4 0 5 1 1 1 1 0 9 1 1 1 3 4 0 5,An 25 7 41,Aa 8 42] [2,3,5,6,7,8]<|Rq [Ac 44 2 0,Ae 45 44 2,Ac 46 2 2,Ae 47 46 2,Ae 48 3 25,Bc 49 13 45 47 48,Aa 43 49,As 50 43 0,As 51 43 1,Ca 9 1 3 4 0 5 1 3 4 0 5 1 1 1 1 0 9 1 1 1 3 4 0 5,An 25 9 50,Aa 10 51] [2,3,5,6,7,8,9,10]<|Rq [Ac 53 2 0,Ae 54 53 2,Ac 55 2 2,Ae 56 55 2,Ae 57 3 25,Bc 58 14 54 56 57,Aa 52 58,As 59 52 0,As 60 52 1,Ca 11 1 3 4 0 5 1 3 4 0 5 1 1 1 1 0 9 1 1 1 3 4 0 5,An 25 11 59,Aa 12 60] [2,3,5,6,7,8,9,10,11,12]<|Sq (Dr [4,61,62,63,64,65,66,67,68,69,70,71,72,73,74,75,76,77,78,79,80,81,82,83,84,85,86,87,88,89,90,91,92,93] [Ac 61 2 0,Ae 62 61 2,Ac 63 2 2,Ae 64 63 2,Ae 65 3 25,Bc 66 15 62 64 65,Ac 67 2 0,Ae 68 67 2,Ac 69 2 2,Ae 70 69 2,Ae 71 3 25,Bc 72 16 68 70 71,Bt 73 66 72,Aa 74 73,At 75 6 74,At 76 8 74,Cf 77 75 76 74,Aq 78 74 77,Aa 79 78,At 80 10 79,At 81 12 79,Cf 82 80 81 79,Aq 83 79 82,Aa 84 83,Bj 85 5 25 84,Bj 86 7 25 84,Bv 87 17 85 86 84,Aq 88 84 87,Aa 89 88,Bj 90 9 25 89,Bj 91 11 25 89,Bv 92 17 90 91 89,Aq 93 89 92,Aa 4 93] [4])<|.ret) [.tmp 4]:= by decide +kernel
theorem c3 (c:law53_Case) (r_1:Rule) (r:Bool) (h:law53_TripleruleSides c r_1=some r):Sound prog 3 [elaw53_Case c,eRule r_1] (.sh (eB r)):= by
 refine Fn ck3 fun hw=>?_
 unfold law53_TripleruleSides at h
 refine D<|F<|Y rfl rfl<|Y rfl rfl<|C rfl<|E (kt<|kt<|kn) fun _=>?_
 refine D<|D<|F ?_
 obtain ⟨x13,hx13,h⟩:=J h
 refine V rfl (c9  _ hx13)<|b7 rfl<|C rfl ?_
 obtain ⟨x23,hx23,h⟩:=J h
 refine gX 8 [16,17,18,19,20,21,22] 23 x23 (!x13) (fun hg23=>?_) (fun hg23=>?_) ?_
 ·replace h:=M hg23 hx23
  cases h
  refine H rfl hg23<|H rfl hg23<|H rfl hg23<|H rfl hg23<|H rfl hg23<|H rfl hg23<|H rfl hg23<|a1 rfl hg23 rfl ?_
  exact ⟨⟨_,_,_,_,_,_,_,rfl⟩⟩
 ·replace h:=O hg23 hx23
  refine G rfl hg23<|K rfl<|G rfl hg23<|R rfl rfl (show _=eTypes c.T from rfl)<|G rfl hg23<|K rfl<|G rfl hg23<|R rfl rfl (show _=eSorts c.S from rfl)<|G rfl hg23<|R rfl rfl (show _=eRule r_1 from rfl) ?_
  obtain ⟨x21,hx21,h⟩:=J h
  refine G rfl hg23<|V rfl (c10 c.T c.S r_1 _ hx21)<|G rfl hg23<|b7 rfl ?_
  cases h
  refine a2 rfl hg23 rfl ?_
  exact ⟨⟨_,_,_,_,_,_,_,rfl⟩⟩
 rintro _ ⟨_,_,_,_,_,_,_,rfl⟩
 refine E (kt<|kt<|kt<|kn) fun _=>?_
 refine U rfl (fun hc23=>?_) (fun hc23=>?_)
 ·replace h:=M hc23 h
  refine D<|F ?_
  obtain ⟨x24,hx24,h⟩:=J h
  refine V rfl (c9  _ hx24)<|C rfl<|E (kt<|kn) fun _=>?_
  exact L (by cases h;rfl)
 ·replace h:=O hc23 h
  refine P (kt<|kt<|kn) fun _=>?_
  refine D<|F<|K rfl<|R rfl rfl (show _=eTypes c.T from rfl)<|K rfl<|R rfl rfl (show _=eSorts c.S from rfl)<|R rfl rfl (show _=eRule r_1 from rfl) ?_
  obtain ⟨x31,hx31,h⟩:=J h
  refine e5 rfl (c11 c.T c.S r_1 _ hx31)<|e9 rfl<|d3 rfl rfl<|d3 rfl rfl<|b6 rfl<|a9 rfl rfl rfl rfl rfl<|C rfl<|E (kt<|kt<|kb<|kt<|kn) fun _=>?_
  refine D<|F<|K rfl<|R rfl rfl (show _=eTypes c.T from rfl)<|K rfl<|R rfl rfl (show _=eSorts c.S from rfl)<|R rfl rfl (show _=eRule r_1 from rfl) ?_
  obtain ⟨x40,hx40,h⟩:=J h
  refine e5 rfl (c12 c.T c.S r_1 _ hx40)<|e9 rfl<|d3 rfl rfl<|d3 rfl rfl<|b6 rfl<|a9 rfl rfl rfl rfl rfl<|C rfl<|E (kt<|kt<|kb<|kt<|kb<|kt<|kn) fun _=>?_
  refine D<|F<|K rfl<|R rfl rfl (show _=eTypes c.T from rfl)<|K rfl<|R rfl rfl (show _=eSorts c.S from rfl)<|R rfl rfl (show _=eRule r_1 from rfl) ?_
  obtain ⟨x49,hx49,h⟩:=J h
  refine e5 rfl (c13 c.T c.S r_1 _ hx49)<|e9 rfl<|d3 rfl rfl<|d3 rfl rfl<|b6 rfl<|a9 rfl rfl rfl rfl rfl<|C rfl<|E (kt<|kt<|kb<|kt<|kb<|kt<|kb<|kt<|kn) fun _=>?_
  refine D<|F<|K rfl<|R rfl rfl (show _=eTypes c.T from rfl)<|K rfl<|R rfl rfl (show _=eSorts c.S from rfl)<|R rfl rfl (show _=eRule r_1 from rfl) ?_
  obtain ⟨x58,hx58,h⟩:=J h
  refine e5 rfl (c14 c.T c.S r_1 _ hx58)<|e9 rfl<|d3 rfl rfl<|d3 rfl rfl<|b6 rfl<|a9 rfl rfl rfl rfl rfl<|C rfl<|E (kt<|kt<|kb<|kt<|kb<|kt<|kb<|kt<|kb<|kt<|kn) fun _=>?_
  refine D<|b9 rfl<|K rfl<|R rfl rfl (show _=eTypes c.T from rfl)<|K rfl<|R rfl rfl (show _=eSorts c.S from rfl)<|R rfl rfl (show _=eRule r_1 from rfl) ?_
  obtain ⟨x66,hx66,h⟩:=J h
  refine V rfl (c15 c.T c.S r_1 _ hx66)<|K rfl<|R rfl rfl (show _=eTypes c.T from rfl)<|K rfl<|R rfl rfl (show _=eSorts c.S from rfl)<|R rfl rfl (show _=eRule r_1 from rfl) ?_
  obtain ⟨x72,hx72,h⟩:=J h
  refine V rfl (c16 c.T c.S r_1 _ hx72)<|b8 rfl rfl<|C rfl ?_
  refine gA 4 [75,76,77] 78 (decide (x66=x72)) (decide (x31.2=x40.2)) (fun hg78=>?_) (fun hg78=>?_) ?_
  ·refine G rfl hg78<|C rfl<|G rfl hg78<|C rfl<|G rfl hg78<|b8 rfl rfl<|a1 rfl hg78 rfl ?_
   exact ⟨⟨_,_,_,rfl⟩⟩
  ·refine H rfl hg78<|H rfl hg78<|H rfl hg78<|a2 rfl hg78 rfl ?_
   exact ⟨⟨_,_,_,rfl⟩⟩
  rintro _ ⟨_,_,_,rfl⟩
  refine C rfl ?_
  refine gA 4 [80,81,82] 83 ((decide (x66=x72))&&(decide (x31.2=x40.2))) (decide (x49.2=x58.2)) (fun hg83=>?_) (fun hg83=>?_) ?_
  ·refine G rfl hg83<|C rfl<|G rfl hg83<|C rfl<|G rfl hg83<|b8 rfl rfl<|a1 rfl hg83 rfl ?_
   exact ⟨⟨_,_,_,rfl⟩⟩
  ·refine H rfl hg83<|H rfl hg83<|H rfl hg83<|a2 rfl hg83 rfl ?_
   exact ⟨⟨_,_,_,rfl⟩⟩
  rintro _ ⟨_,_,_,rfl⟩
  refine C rfl ?_
  obtain ⟨x88,hx88,h⟩:=J h
  refine gX 4 [85,86,87] 88 x88 (((decide (x66=x72))&&(decide (x31.2=x40.2)))&&(decide (x49.2=x58.2))) (fun hg88=>?_) (fun hg88=>?_) ?_
  ·replace h:=M hg88 hx88
   refine G rfl hg88<|R rfl rfl (show _=eRule x31.1 from rfl)<|G rfl hg88<|R rfl rfl (show _=eRule x40.1 from rfl) ?_
   obtain ⟨x87,hx87,h⟩:=J h
   refine G rfl hg88<|V rfl (c17 x31.1 x40.1 _ hx87) ?_
   cases h
   refine a1 rfl hg88 rfl ?_
   exact ⟨⟨_,_,_,rfl⟩⟩
  ·replace h:=O hg88 hx88
   cases h
   refine H rfl hg88<|H rfl hg88<|H rfl hg88<|a2 rfl hg88 rfl ?_
   exact ⟨⟨_,_,_,rfl⟩⟩
  rintro _ ⟨_,_,_,rfl⟩
  refine C rfl ?_
  obtain ⟨x93,hx93,h⟩:=J h
  refine gX 4 [90,91,92] 93 x93 x88 (fun hg93=>?_) (fun hg93=>?_) ?_
  ·replace h:=M hg93 hx93
   refine G rfl hg93<|R rfl rfl (show _=eRule x49.1 from rfl)<|G rfl hg93<|R rfl rfl (show _=eRule x58.1 from rfl) ?_
   obtain ⟨x92,hx92,h⟩:=J h
   refine G rfl hg93<|V rfl (c17 x49.1 x58.1 _ hx92) ?_
   cases h
   refine a1 rfl hg93 rfl ?_
   exact ⟨⟨_,_,_,rfl⟩⟩
  ·replace h:=O hg93 hx93
   cases h
   refine H rfl hg93<|H rfl hg93<|H rfl hg93<|a2 rfl hg93 rfl ?_
   exact ⟨⟨_,_,_,rfl⟩⟩
  rintro _ ⟨_,_,_,rfl⟩
  refine C rfl<|E (kt<|kn) fun _=>?_
  exact L (by cases h;rfl)
end Go.Sf.Sc
