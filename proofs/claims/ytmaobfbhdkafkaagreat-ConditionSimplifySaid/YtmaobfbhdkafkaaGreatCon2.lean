/- Contracts of the functions. -/
import Derived.Test.YtmaobfbhdkafkaaGreatCon1
import Derived.Test.YtmaobfbhdkafkaaGreatTryzShelf
import Derived.Test.YtmaobfbhdkafkaaGreatRp
set_option maxRecDepth 100000
namespace Go.Sf.Sc
open Go Go.Sf Go.Proofs.Tryz
theorem ck37:CK f37 (Rq [Af 2 0,Ae 4 0] [1,2]<|Rq [Aa 6 1,Dj 7 6 1,Aa 1 7] [1,2]<|Sq (Rq [Ac 8 2 4,Ad 9 8 5,Au 10 14 9,Bb 11 10,Aa 12 11,Aq 13 2 2 12,Bk 14 13 2 12,⟨some 15,.call 78 [.s 14,.c (.int .i64 140)],some (12,false)⟩,Bn 16 15 12,At 17 12 16] [1,2,17]<|Co 17 (Rq [Bm 4 (-1)] [4]<|.ret)<|Sk [1,2])<|Sq (Rq [Ae 5 0] [1,2,5]<|Bl 0<|Lo [1,2,5]<|Sq (Rq [Aa 18 5,Ac 19 2 1,Ab 20 19,Ag 21 20,Am 22 18 21,Aa 23 22,Az 24 1 23,Fe 25 24 0 23,Ao 26 23 25] [1,2,5,26]<|Co 26 (Sk [1,2,5])<|Ex 0 [1])<|Sq (Bl 1<|Re [Ac 29 2 1,Ab 30 29,Aa 31 5,Ak 32 30 31 9,Ad 33 32 9,Aa 34 1,Ap 35 37 33 34,Aa 1 35] [1,2,5])<|Re [Aa 27 5,An 28 27 1,Aa 5 28] [1,2,5])<|Rq [Aa 36 1,Aa 4 36] [4]<|.ret) [.tmp 4]:= by decide +kernel
theorem c37S (n:Nat) (ih_37:∀ (c:Condition) (most:Int) (r:Int) (_:ref22_leftF n c most=some r),Sound prog 37 [eCondition c,eI most] (.sh (eI r))):∀ (c:Condition) (most:Int) (r:Int) (_:ref22_leftF (n+1) c most=some r),Sound prog 37 [eCondition c,eI most] (.sh (eI r)):= by
 intro c most r h
 refine Fn ck37 fun hw=>?_
 unfold ref22_leftF at h
 refine E<|G<|X B B<|D B<|F km2 fun _=>?_
 refine E<|G<|D B<|g6 B B<|D B<|F km2 fun _=>?_
 refine E<|E<|G<|O B<|M B B (B:_=ePattern c.Pattern) ?_
 obtain ⟨x10,hx10,h⟩:=J h
 refine V B (c14 c.Pattern _ hx10)<|d4 B<|D B ?_
 obtain ⟨x17,hx17,h⟩:=J h
 refine gX 5 [13,14,15,16] 17 x17 (!x10) (fun hg17=>?_) (fun hg17=>?_) ?_
 ·replace h:=R hg17 hx17
  cases h
  refine I B hg17<|I B hg17<|I B hg17<|I B hg17<|a4 B hg17 B ?_
  exact ⟨⟨_,_,_,_,B⟩⟩
 ·replace h:=S hg17 hx17
  refine H B hg17<|O B<|H B hg17<|M B B (B:_=eMorphism c.Map) ?_
  obtain ⟨x15,hx15,h⟩:=J h
  refine H B hg17<|V B (c78 c.Map 140 _ hx15)<|H B hg17<|d4 B ?_
  cases h
  refine a5 B hg17 B ?_
  exact ⟨⟨_,_,_,_,B⟩⟩
 rintro _ ⟨_,_,_,_,rfl⟩
 refine F km3 fun _=>?_
 refine U B (fun hc17=>?_) (fun hc17=>?_)
 ·replace h:=R hc17 h
  refine E<|G<|D B<|F km1 fun _=>?_
  exact L (by cases h;rfl)
 ·replace h:=S hc17 h
  refine T km2 fun _=>?_
  refine E<|E<|G<|D B<|F km3 fun _=>?_
  obtain ⟨o0,ho0,h⟩:=d6 h
  refine m0 ho0 (fun (s0:Int × Int)=>[(1,.tv (eI s0.1)),(2,.tv (.pt (eCondition c).cells)),(5,.tv (eI s0.2))]) (fun (s0:Int × Int)=>[(1,.tv (eI s0.1))]) (fun zv ze=>resIs ([.tmp 4]) (.sh (eI zv)) ze) B ?_ ?_ ?_
  ·clear h ho0
   intro s0 r0 h hw0
   refine E<|E<|G<|D B<|O B<|K B<|W B (eLCondition_eq _)<|Y B B<|D B ?_
   refine gA 3 [24,25] 26 (decide (s0.2<(c.Kids.length:Int))) (decide (0<=s0.1)) (fun hg26=>?_) (fun hg26=>?_) ?_
   ·refine H B hg26<|D B<|H B hg26<|e1 B B<|a4 B hg26 B ?_
    exact ⟨⟨_,_,B⟩⟩
   ·refine I B hg26<|I B hg26<|a5 B hg26 B ?_
    exact ⟨⟨_,_,B⟩⟩
   rintro _ ⟨_,_,rfl⟩
   refine F km4 fun _=>?_
   refine U B (fun hc26=>?_) (fun hc26=>?_)
   ·replace h:=R hc26 h
    refine T km3 fun _=>?_
    refine E<|b3<|G<|O B<|K B<|D B ?_
    obtain ⟨x32,hx32,h⟩:=J h
    refine a2 B B (eLCondition_eq _) hx32 B<|M B B (B:_=eCondition x32)<|D B ?_
    obtain ⟨x35,hx35,h⟩:=J h
    refine V B (ih_37 x32 s0.1 _ hx35)<|D B<|F km3 fun _=>?_
    refine G<|D B<|a8 B B<|D B<|F km3 ?_
    cases h
    refine ⟨_,B,?_⟩
    rw [Ktv rfl (Ktv rfl (Ktv rfl (Knil _)))]
    all_goals rfl
   ·replace h:=S hc26 h
    refine b8 km1 ?_
    refine ⟨rfl,?_⟩
    cases h
    exact ⟨_,rfl,rfl⟩
  ·intro s0 hs
   replace h:=d7 h hs
   intro _
   refine E<|G<|D B<|D B<|F km1 fun _=>?_
   exact L (by cases h;rfl)
  ·intro v0 ze hv hR
   replace h:=d8 h hv
   cases h
   exact hR
theorem c37A:∀ n:Nat,(∀ (c:Condition) (most:Int) (r:Int) (_:ref22_leftF n c most=some r),Sound prog 37 [eCondition c,eI most] (.sh (eI r))):=by
  intro n
  induction n with
  | zero=>intro c most r h; cases h
  | succ n ih=>exact c37S n ih
theorem c37 (c:Condition) (most:Int) (r:Int) (h:ref22_left c most=some r):Sound prog 37 [eCondition c,eI most] (.sh (eI r)):=by
  obtain ⟨N,hN⟩:=lim_some h
  exact (c37A N) c most r (hN N (Nat.le_refl _))
theorem ck13:CK f13 (Rq [Af 1 0,Ah 2] [1]<|Rq [Ad 3 1 9,Ek 4 37 3 40,Bi 5 4 0,Aa 2 5] [2]<|.ret) [.tmp 2]:= by decide +kernel
theorem c13 (c:Condition) (r:Bool) (h:ref22_Few c=some r):Sound prog 13 [eCondition c] (.sh (eB r)):= by
 refine Fn ck13 fun hw=>?_
 unfold ref22_Few at h
 refine E<|G<|X B B<|D B<|F km1 fun _=>?_
 refine E<|G<|M B B (B:_=eCondition c) ?_
 obtain ⟨x4,hx4,h⟩:=J h
 refine V B (c37 c 40 _ hx4)<|e1 B B<|D B<|F km1 fun _=>?_
 exact L (by cases h;rfl)
theorem ck136:CK f136 (Rq [Af 1 0,Ah 2] [1]<|Rq [Ac 3 1 0,Ab 4 3,Ar 5 4 2,Aa 6 5,Av 7 1 1 6,Aw 8 7 6,Dl 9 8 0 9 6,Cc 10 9 0 6,Aw 11 10 6,Bz 12 11 1 6,Ao 13 6 12,Aa 2 13] [2]<|.ret) [.tmp 2]:= by decide +kernel
theorem c136 (c:Condition) (r:Bool) (h:condition_isNo c=some r):Sound prog 136 [eCondition c] (.sh (eB r)):= by
 refine Fn ck136 fun hw=>?_
 unfold condition_isNo at h
 refine E<|G<|X B B<|D B<|F km1 fun _=>?_
 refine E<|G<|O B<|K B<|b2 B B<|D B ?_
 obtain ⟨x13,hx13,h⟩:=J h
 refine gX 7 [7,8,9,10,11,12] 13 x13 (decide (c.Kind=2)) (fun hg13=>?_) (fun hg13=>?_) ?_
 ·replace h:=R hg13 hx13
  refine H B hg13<|O B<|H B hg13<|K B ?_
  obtain ⟨x9,hx9,h⟩:=J h
  refine H B hg13<|a2 B B (eLCondition_eq _) hx9 B<|H B hg13<|d5 B<|H B hg13<|K B<|H B hg13<|b2 B B ?_
  cases h
  refine a4 B hg13 B ?_
  exact ⟨⟨_,_,_,_,_,_,B⟩⟩
 ·replace h:=S hg13 hx13
  cases h
  refine I B hg13<|I B hg13<|I B hg13<|I B hg13<|I B hg13<|I B hg13<|a5 B hg13 B ?_
  exact ⟨⟨_,_,_,_,_,_,B⟩⟩
 rintro _ ⟨_,_,_,_,_,_,rfl⟩
 refine D B<|F km1 fun _=>?_
 exact L (by cases h;rfl)
theorem ck140:CK f140 (Rq [Bf 0 0 9 1 1 1 3 4 0 5] [0]<|Rq [Eu 1 0 9 1 1 1 3 4 0 5 0 1 1,Aj 9 0 1] [0]<|.ret) [.cell 0 (some 9)]:= by decide +kernel
theorem c140  (r:Condition) (h:condition_yes =some r):Sound prog 140 [] (.sh (eCondition r)):= by
 refine Fn ck140 fun hw=>?_
 unfold condition_yes at h
 refine E<|G<|b6 B<|F (kb<|kn) fun _=>?_
 refine E<|G<|e2 B B (show _=eCondition (Condition.mk 1 [] (Morphism.mk [] []) (Pattern.mk (Graph.mk [] []) [] 0 [])) from B)<|a6 B B B B B<|F (kb<|kn) fun _=>?_
 exact L (by cases h;rfl)
theorem ck137:CK f137 (Rq [Bf 0 0 9 1 1 1 3 4 0 5] [0]<|Rq [Br 1 140,Bh 2 9 1,Ev 3 0 9 1 1 1 3 4 0 5 0 1 2 1 1 2,Aj 9 0 3] [0]<|.ret) [.cell 0 (some 9)]:= by decide +kernel
theorem c137  (r:Condition) (h:condition_no =some r):Sound prog 137 [] (.sh (eCondition r)):= by
 refine Fn ck137 fun hw=>?_
 unfold condition_no at h
 refine E<|G<|b6 B<|F (kb<|kn) fun _=>?_
 refine E<|G ?_
 obtain ⟨x1,hx1,h⟩:=J h
 refine V B (c140  _ hx1)<|g5 (e:=eCondition) (l:=[x1]) B B (fun _=>rfl) (show eLCondition [x1]=_ from eLCondition_lst _)<|e2 B B (show _=eCondition (Condition.mk 2 [x1] (Morphism.mk [] []) (Pattern.mk (Graph.mk [] []) [] 0 [])) from B)<|a6 B B B B B<|F (kb<|kn) fun _=>?_
 exact L (by cases h;rfl)
theorem ck202:CK f202 (Rq [Af 1 0,Ah 2] [1]<|Rq [Ac 3 1 0,Ab 4 3,Ar 5 4 1,Aa 2 5] [2]<|.ret) [.tmp 2]:= by decide +kernel
theorem c202 (c:Condition) (r:Bool) (h:condition_isYes c=some r):Sound prog 202 [eCondition c] (.sh (eB r)):= by
 refine Fn ck202 fun hw=>?_
 unfold condition_isYes at h
 refine E<|G<|X B B<|D B<|F km1 fun _=>?_
 refine E<|G<|O B<|K B<|b2 B B<|D B<|F km1 fun _=>?_
 exact L (by cases h;rfl)
theorem ck74:CK f74 (Rq [Ah 4] [0,1]<|Sq (Rq [Aa 6 0,Ag 7 6,Aa 8 1,Ag 9 8,Bd 10 7 9] [0,1,10]<|Co 10 (Rq [Ah 4] [4]<|.ret)<|Sk [0,1])<|Sq (Rq [Aa 11 0,Ag 12 11,Ae 13 0] [0,1,12,13]<|Bl 0<|Lo [0,1,12,13]<|Rq [Am 14 13 12] [0,1,12,13,14]<|Sq (Co 14 (Sk [0,1,12,13])<|Ex 0 [])<|Sq (Bl 1<|Rq [Aa 15 13,Aa 5 15] [0,1,5,12,13]<|Sq (Dr [16,17,18,19,20,21,22,23,24] [Aa 16 0,Aa 17 5,Ak 18 16 17 3,Ad 19 18 3,Aa 20 1,Aa 21 5,Ak 22 20 21 3,Ad 23 22 3,⟨some 24,.bin (.a [0,0,0]) .neq (.s 19) (.s 23),none⟩] [0,1,12,13,24])<|Co 24 (Rq [Ah 4] [4]<|.ret)<|Sk [0,1,12,13])<|Re [An 25 13 1,Aa 13 25] [0,1,12,13])<|Rq [Bp 4] [4]<|.ret) [.tmp 4]:= by decide +kernel
theorem c74 (s1_0:List Edge) (s2_1:List Edge) (r:Bool) (h:slices_Equal_Edge s1_0 s2_1=some r):Sound prog 74 [lE s1_0,lE s2_1] (.sh (eB r)):= by
 refine Fn ck74 fun hw=>?_
 unfold slices_Equal_Edge at h
 refine E<|G<|D B<|F km2 fun _=>?_
 refine E<|E<|G<|D B<|W B B<|D B<|W B B<|a9 B B<|F km3 fun _=>?_
 refine U B (fun hc10=>?_) (fun hc10=>?_)
 ·replace h:=R hc10 h
  refine E<|G<|D B<|F km1 fun _=>?_
  exact L (by cases h;rfl)
 ·replace h:=S hc10 h
  refine T km2 fun _=>?_
  refine E<|E<|G<|D B<|W B B<|D B<|F km4 fun _=>?_
  obtain ⟨o0,ho0,h⟩:=d6 h
  refine d9 ho0 (fun (i0:Int) (_:Unit)=>[(0,.tv (lE s1_0)),(1,.tv (lE s2_1)),(12,.tv (eI (s1_0.length:Int))),(13,.tv (eI i0))]) (fun (_:Unit)=>[]) (fun zv ze=>resIs ([.tmp 4]) (.sh (eB zv)) ze) B ?_ ?_ ?_ ?_
  ·clear h ho0
   intro i0 s0 r0 hi0 h hw0
   refine E<|G<|Y B B<|F km5 fun _=>?_
   refine E<|d1 B (d2 hi0)<|T km4 fun _=>?_
   refine E<|b3<|E<|G<|D B<|D B<|F km5 fun _=>?_
   refine E<|e0 B<|D B<|D B ?_
   obtain ⟨x18,hx18,h⟩:=J h
   refine a2 B B B hx18 B<|M B B (B:_=eEdge x18)<|D B<|D B ?_
   obtain ⟨x22,hx22,h⟩:=J h
   refine a2 B B B hx22 B<|M B B (B:_=eEdge x22)<|l7 B B B (eqi_Edge _ _)<|F km5 fun _=>?_
   refine U B (fun hc24=>?_) (fun hc24=>?_)
   ·replace h:=R hc24 h
    refine E<|G<|D B<|F km1 fun _=>?_
    refine L ?_
    cases h
    exact ⟨_,rfl,rfl⟩
   ·replace h:=S hc24 h
    refine T km4 fun _=>?_
    refine G<|a8 B B<|D B<|F km4 ?_
    cases h
    refine ⟨_,B,?_⟩
    rw [Ktv rfl (Ktv rfl (Ktv rfl (Ktv rfl (Knil _))))]
    rw [b7 (Z (hw0 13)) hi0 (b9 (Z (hw0 12)))]
    all_goals rfl
  ·intro i0 s0 hi0
   refine E<|G<|Y B B<|F km5 fun _=>?_
   refine E<|d0 B (d3 hi0)<|b8 kn ?_
   exact ⟨rfl,rfl⟩
  ·intro s0 hs
   replace h:=d7 h hs
   intro _
   refine E<|G<|D B<|F km1 fun _=>?_
   exact L (by cases h;rfl)
  ·intro v0 ze hv hR
   replace h:=d8 h hv
   cases h
   exact hR
theorem ck75:CK f75 (Rq [Ah 4] [0,1]<|Sq (Rq [Aa 6 0,Ag 7 6,Aa 8 1,Ag 9 8,Bd 10 7 9] [0,1,10]<|Co 10 (Rq [Ah 4] [4]<|.ret)<|Sk [0,1])<|Sq (Rq [Aa 11 0,Ag 12 11,Ae 13 0] [0,1,12,13]<|Bl 0<|Lo [0,1,12,13]<|Rq [Am 14 13 12] [0,1,12,13,14]<|Sq (Co 14 (Sk [0,1,12,13])<|Ex 0 [])<|Sq (Bl 1<|Rq [Aa 15 13,Aa 5 15] [0,1,5,12,13]<|Sq (Dr [16,17,18,19,20,21,22,23,24] [Aa 16 0,Aa 17 5,Ak 18 16 17 4,Ad 19 18 4,Aa 20 1,Aa 21 5,Ak 22 20 21 4,Ad 23 22 4,⟨some 24,.bin (.a [0,0,0,0]) .neq (.s 19) (.s 23),none⟩] [0,1,12,13,24])<|Co 24 (Rq [Ah 4] [4]<|.ret)<|Sk [0,1,12,13])<|Re [An 25 13 1,Aa 13 25] [0,1,12,13])<|Rq [Bp 4] [4]<|.ret) [.tmp 4]:= by decide +kernel
theorem c75 (s1_0:List Slot) (s2_1:List Slot) (r:Bool) (h:slices_Equal_Slot s1_0 s2_1=some r):Sound prog 75 [lS s1_0,lS s2_1] (.sh (eB r)):= by
 refine Fn ck75 fun hw=>?_
 unfold slices_Equal_Slot at h
 refine E<|G<|D B<|F km2 fun _=>?_
 refine E<|E<|G<|D B<|W B B<|D B<|W B B<|a9 B B<|F km3 fun _=>?_
 refine U B (fun hc10=>?_) (fun hc10=>?_)
 ·replace h:=R hc10 h
  refine E<|G<|D B<|F km1 fun _=>?_
  exact L (by cases h;rfl)
 ·replace h:=S hc10 h
  refine T km2 fun _=>?_
  refine E<|E<|G<|D B<|W B B<|D B<|F km4 fun _=>?_
  obtain ⟨o0,ho0,h⟩:=d6 h
  refine d9 ho0 (fun (i0:Int) (_:Unit)=>[(0,.tv (lS s1_0)),(1,.tv (lS s2_1)),(12,.tv (eI (s1_0.length:Int))),(13,.tv (eI i0))]) (fun (_:Unit)=>[]) (fun zv ze=>resIs ([.tmp 4]) (.sh (eB zv)) ze) B ?_ ?_ ?_ ?_
  ·clear h ho0
   intro i0 s0 r0 hi0 h hw0
   refine E<|G<|Y B B<|F km5 fun _=>?_
   refine E<|d1 B (d2 hi0)<|T km4 fun _=>?_
   refine E<|b3<|E<|G<|D B<|D B<|F km5 fun _=>?_
   refine E<|e0 B<|D B<|D B ?_
   obtain ⟨x18,hx18,h⟩:=J h
   refine a2 B B B hx18 B<|M B B (B:_=eSlot x18)<|D B<|D B ?_
   obtain ⟨x22,hx22,h⟩:=J h
   refine a2 B B B hx22 B<|M B B (B:_=eSlot x22)<|l7 B B B (eqi_Slot _ _)<|F km5 fun _=>?_
   refine U B (fun hc24=>?_) (fun hc24=>?_)
   ·replace h:=R hc24 h
    refine E<|G<|D B<|F km1 fun _=>?_
    refine L ?_
    cases h
    exact ⟨_,rfl,rfl⟩
   ·replace h:=S hc24 h
    refine T km4 fun _=>?_
    refine G<|a8 B B<|D B<|F km4 ?_
    cases h
    refine ⟨_,B,?_⟩
    rw [Ktv rfl (Ktv rfl (Ktv rfl (Ktv rfl (Knil _))))]
    rw [b7 (Z (hw0 13)) hi0 (b9 (Z (hw0 12)))]
    all_goals rfl
  ·intro i0 s0 hi0
   refine E<|G<|Y B B<|F km5 fun _=>?_
   refine E<|d0 B (d3 hi0)<|b8 kn ?_
   exact ⟨rfl,rfl⟩
  ·intro s0 hs
   replace h:=d7 h hs
   intro _
   refine E<|G<|D B<|F km1 fun _=>?_
   exact L (by cases h;rfl)
  ·intro v0 ze hv hR
   replace h:=d8 h hv
   cases h
   exact hR
theorem ck76:CK f76 (Rq [Ah 4] [0,1]<|Sq (Rq [Aa 6 0,Ag 7 6,Aa 8 1,Ag 9 8,Bd 10 7 9] [0,1,10]<|Co 10 (Rq [Ah 4] [4]<|.ret)<|Sk [0,1])<|Sq (Rq [Aa 11 0,Ag 12 11,Ae 13 0] [0,1,12,13]<|Bl 0<|Lo [0,1,12,13]<|Rq [Am 14 13 12] [0,1,12,13,14]<|Sq (Co 14 (Sk [0,1,12,13])<|Ex 0 [])<|Sq (Bl 1<|Rq [Aa 15 13,Aa 5 15] [0,1,5,12,13]<|Sq (Dr [16,17,18,19,20,21,22,23,24] [Aa 16 0,Aa 17 5,Ak 18 16 17 5,Ad 19 18 5,Aa 20 1,Aa 21 5,Ak 22 20 21 5,Ad 23 22 5,Fk 24 0 0 0 0 0 19 23] [0,1,12,13,24])<|Co 24 (Rq [Ah 4] [4]<|.ret)<|Sk [0,1,12,13])<|Re [An 25 13 1,Aa 13 25] [0,1,12,13])<|Rq [Bp 4] [4]<|.ret) [.tmp 4]:= by decide +kernel
theorem c76 (s1_0:List Test) (s2_1:List Test) (r:Bool) (h:slices_Equal_Test s1_0 s2_1=some r):Sound prog 76 [lT s1_0,lT s2_1] (.sh (eB r)):= by
 refine Fn ck76 fun hw=>?_
 unfold slices_Equal_Test at h
 refine E<|G<|D B<|F km2 fun _=>?_
 refine E<|E<|G<|D B<|W B B<|D B<|W B B<|a9 B B<|F km3 fun _=>?_
 refine U B (fun hc10=>?_) (fun hc10=>?_)
 ·replace h:=R hc10 h
  refine E<|G<|D B<|F km1 fun _=>?_
  exact L (by cases h;rfl)
 ·replace h:=S hc10 h
  refine T km2 fun _=>?_
  refine E<|E<|G<|D B<|W B B<|D B<|F km4 fun _=>?_
  obtain ⟨o0,ho0,h⟩:=d6 h
  refine d9 ho0 (fun (i0:Int) (_:Unit)=>[(0,.tv (lT s1_0)),(1,.tv (lT s2_1)),(12,.tv (eI (s1_0.length:Int))),(13,.tv (eI i0))]) (fun (_:Unit)=>[]) (fun zv ze=>resIs ([.tmp 4]) (.sh (eB zv)) ze) B ?_ ?_ ?_ ?_
  ·clear h ho0
   intro i0 s0 r0 hi0 h hw0
   refine E<|G<|Y B B<|F km5 fun _=>?_
   refine E<|d1 B (d2 hi0)<|T km4 fun _=>?_
   refine E<|b3<|E<|G<|D B<|D B<|F km5 fun _=>?_
   refine E<|e0 B<|D B<|D B ?_
   obtain ⟨x18,hx18,h⟩:=J h
   refine a2 B B B hx18 B<|M B B (B:_=eTest x18)<|D B<|D B ?_
   obtain ⟨x22,hx22,h⟩:=J h
   refine a2 B B B hx22 B<|M B B (B:_=eTest x22)<|l7 B B B (eqi_Test _ _)<|F km5 fun _=>?_
   refine U B (fun hc24=>?_) (fun hc24=>?_)
   ·replace h:=R hc24 h
    refine E<|G<|D B<|F km1 fun _=>?_
    refine L ?_
    cases h
    exact ⟨_,rfl,rfl⟩
   ·replace h:=S hc24 h
    refine T km4 fun _=>?_
    refine G<|a8 B B<|D B<|F km4 ?_
    cases h
    refine ⟨_,B,?_⟩
    rw [Ktv rfl (Ktv rfl (Ktv rfl (Ktv rfl (Knil _))))]
    rw [b7 (Z (hw0 13)) hi0 (b9 (Z (hw0 12)))]
    all_goals rfl
  ·intro i0 s0 hi0
   refine E<|G<|Y B B<|F km5 fun _=>?_
   refine E<|d0 B (d3 hi0)<|b8 kn ?_
   exact ⟨rfl,rfl⟩
  ·intro s0 hs
   replace h:=d7 h hs
   intro _
   refine E<|G<|D B<|F km1 fun _=>?_
   exact L (by cases h;rfl)
  ·intro v0 ze hv hR
   replace h:=d8 h hv
   cases h
   exact hR
theorem ck77:CK f77 (Rq [Ah 6] [0,1,2]<|Sq (Rq [Aa 10 0,Ag 11 10,Aa 12 1,Ag 13 12,Bd 14 11 13] [0,1,2,14]<|Co 14 (Rq [Ah 6] [6]<|.ret)<|Sk [0,1,2])<|Sq (Rq [Aa 15 0,Ag 16 15,Ae 17 0] [1,2,15,16,17]<|Bl 0<|Lo [1,2,15,16,17]<|Rq [Am 18 17 16] [1,2,15,16,17,18]<|Sq (Co 18 (Sk [1,2,15,16,17])<|Ex 0 [])<|Sq (Bl 1<|Rq [Aa 19 17,Ak 20 15 17 9,Ad 21 20 9,Bf 8 0 9 1 1 1 3 4 0 5,Aa 7 19,Aj 9 8 21] [1,2,7,8,15,16,17]<|Rq [Aa 22 1,Aa 23 7,Ak 24 22 23 9,Ad 25 24 9,Bf 9 0 9 1 1 1 3 4 0 5,Aj 9 9 25] [1,2,8,9,15,16,17]<|Rq [Aa 26 2,Ad 27 8 9,Ad 28 9 9,⟨some 29,.callv (.s 26) [.s 27,.s 28],none⟩,Bb 30 29] [1,2,15,16,17,30]<|Co 30 (Rq [Ah 6] [6]<|.ret)<|Sk [1,2,15,16,17])<|Re [An 31 17 1,Aa 17 31] [1,2,15,16,17])<|Rq [Bp 6] [6]<|.ret) [.tmp 6]:= by decide +kernel
theorem c77 (s1_0:List Condition) (s2_1:List Condition) (eq:Condition->Condition->Option Bool) (f_eq:FuncId) (k_eq:List TV) (h_eq:∀ (y0:Condition) (y1:Condition) r,eq y0 y1=some r->Sound prog f_eq ([eCondition y0,eCondition y1]++k_eq) (.sh (eB r))) (r:Bool) (h:slices_EqualFunc_Condition s1_0 s2_1 eq=some r):Sound prog 77 [eLCondition s1_0,eLCondition s2_1,.clo f_eq k_eq] (.sh (eB r)):= by
 refine Fn ck77 fun hw=>?_
 unfold slices_EqualFunc_Condition at h
 refine E<|G<|D B<|F km3 fun _=>?_
 refine E<|E<|G<|D B<|W B (eLCondition_eq _)<|D B<|W B (eLCondition_eq _)<|a9 B B<|F km4 fun _=>?_
 refine U B (fun hc14=>?_) (fun hc14=>?_)
 ·replace h:=R hc14 h
  refine E<|G<|D B<|F km1 fun _=>?_
  exact L (by cases h;rfl)
 ·replace h:=S hc14 h
  refine T km3 fun _=>?_
  refine E<|E<|G<|D B<|W B (eLCondition_eq _)<|D B<|F km5 fun _=>?_
  obtain ⟨o0,ho0,h⟩:=d6 h
  refine d9 ho0 (fun (i0:Int) (_:Unit)=>[(1,.tv (eLCondition s2_1)),(2,.tv (.clo f_eq k_eq)),(15,.tv (eLCondition s1_0)),(16,.tv (eI (s1_0.length:Int))),(17,.tv (eI i0))]) (fun (_:Unit)=>[]) (fun zv ze=>resIs ([.tmp 6]) (.sh (eB zv)) ze) B ?_ ?_ ?_ ?_
  ·clear h ho0
   intro i0 s0 r0 hi0 h hw0
   refine E<|G<|Y B B<|F km6 fun _=>?_
   refine E<|d1 B (d2 hi0)<|T km5 fun _=>?_
   refine E<|b3<|E<|G<|D B ?_
   obtain ⟨x20,hx20,h⟩:=J h
   refine a2 B B (eLCondition_eq _) hx20 B<|M B B (B:_=eCondition x20)<|b6 B<|D B<|a6 B B B B B<|F (kt<|kt<|kt<|kb<|kt<|kt<|kt<|kn) fun _=>?_
   refine E<|G<|D B<|D B ?_
   obtain ⟨x24,hx24,h⟩:=J h
   refine a2 B B (eLCondition_eq _) hx24 B<|M B B (B:_=eCondition x24)<|b6 B<|a6 B B B B B<|F (kt<|kt<|kb<|kb<|kt<|kt<|kt<|kn) fun _=>?_
   refine E<|G<|D B<|M B B (B:_=eCondition x20)<|M B B (B:_=eCondition x24) ?_
   obtain ⟨x29,hx29,h⟩:=J h
   refine g0 B B (h_eq _ _ _ hx29)<|d4 B<|F km6 fun _=>?_
   refine U B (fun hc30=>?_) (fun hc30=>?_)
   ·replace h:=R hc30 h
    refine E<|G<|D B<|F km1 fun _=>?_
    refine L ?_
    cases h
    exact ⟨_,rfl,rfl⟩
   ·replace h:=S hc30 h
    refine T km5 fun _=>?_
    refine G<|a8 B B<|D B<|F km5 ?_
    cases h
    refine ⟨_,B,?_⟩
    rw [Ktv rfl (Ktv rfl (Ktv rfl (Ktv rfl (Ktv rfl (Knil _)))))]
    rw [b7 (Z (hw0 17)) hi0 (b9 (Z (hw0 16)))]
    all_goals rfl
  ·intro i0 s0 hi0
   refine E<|G<|Y B B<|F km6 fun _=>?_
   refine E<|d0 B (d3 hi0)<|b8 kn ?_
   exact ⟨rfl,rfl⟩
  ·intro s0 hs
   replace h:=d7 h hs
   intro _
   refine E<|G<|D B<|F km1 fun _=>?_
   exact L (by cases h;rfl)
  ·intro v0 ze hv hR
   replace h:=d8 h hv
   cases h
   exact hR
theorem ck34:CK f34 (Rq [Af 2 0,Af 3 1,Ah 4] [2,3]<|Sq (Dr [5,6,7,8,9,10] [Ac 7 2 4,Ad 8 7 5,Ac 9 3 4,Ad 10 9 5,Da 5 1 3 4 0 5,Da 6 1 3 4 0 5,Aj 5 5 8,Aj 5 6 10] [2,3,5,6])<|Sq (Rq [Ac 11 2 0,Ab 12 11,Ac 13 3 0,Ab 14 13,Bd 15 12 14,Aa 16 15,Aq 17 2 2 16,Bk 18 17 2 16,Aq 19 3 2 16,Bk 20 19 2 16,Bv 21 72 18 20 16,Bn 22 21 16,At 23 16 22,Aa 24 23,Aq 25 5 3 24,As 26 25 24,Aq 27 6 3 24,As 28 27 24,Cb 29 26 28 24,At 30 24 29,Aa 31 30,Aq 32 5 0 31,Bs 33 32 0 31,As 34 33 31,Aq 35 6 0 31,Bs 36 35 0 31,As 37 36 31,Bv 38 73 34 37 31,Bn 39 38 31,At 40 31 39,Aa 41 40,Aq 42 5 0 41,Bs 43 42 1 41,As 44 43 41,Aq 45 6 0 41,Bs 46 45 1 41,As 47 46 41,Bv 48 74 44 47 41,Bn 49 48 41,At 50 41 49] [2,3,5,6,50]<|Co 50 (Rq [Ah 4] [4]<|.ret)<|Sk [2,3,5,6])<|Rq [Ac 51 5 2,Ab 52 51,Ac 53 6 2,Ab 54 53,Ap 55 75 52 54,Aa 56 55,Av 57 5 4 56,Aw 58 57 56,Av 59 6 4 56,Aw 60 59 56,Cd 61 76 58 60 56,Ao 62 56 61,Aa 63 62,Av 64 2 1 63,Aw 65 64 63,Av 66 3 1 63,Aw 67 66 63,⟨some 68,.call 77 [.s 65,.s 67,.c (.clo 34 [])],some (63,true)⟩,Ao 69 63 68,Aa 4 69] [4]<|.ret) [.tmp 4]:= by decide +kernel
theorem c34S (n:Nat) (ih_34:∀ (a:Condition) (b:Condition) (r:Bool) (_:condition_SameF n a b=some r),Sound prog 34 [eCondition a,eCondition b] (.sh (eB r))):∀ (a:Condition) (b:Condition) (r:Bool) (_:condition_SameF (n+1) a b=some r),Sound prog 34 [eCondition a,eCondition b] (.sh (eB r)):= by
 intro a b r h
 refine Fn ck34 fun hw=>?_
 unfold condition_SameF at h
 refine E<|G<|X B B<|X B B<|D B<|F km2 fun _=>?_
 refine E<|e0 B<|O B<|M B B (B:_=ePattern a.Pattern)<|O B<|M B B (B:_=ePattern b.Pattern)<|b6 B<|b6 B<|a6 B B B B B<|a6 B B B B B<|F (kt<|kt<|kb<|kb<|kn) fun _=>?_
 refine E<|E<|G<|O B<|K B<|O B<|K B<|a9 B B<|D B ?_
 obtain ⟨x23,hx23,h⟩:=J h
 refine gX 7 [17,18,19,20,21,22] 23 x23 (!decide (a.Kind=b.Kind)) (fun hg23=>?_) (fun hg23=>?_) ?_
 ·replace h:=R hg23 hx23
  cases h
  refine I B hg23<|I B hg23<|I B hg23<|I B hg23<|I B hg23<|I B hg23<|a4 B hg23 B ?_
  exact ⟨⟨_,_,_,_,_,_,B⟩⟩
 ·replace h:=S hg23 hx23
  refine H B hg23<|O B<|H B hg23<|M B B (B:_=eMorphism a.Map)<|H B hg23<|O B<|H B hg23<|M B B (B:_=eMorphism b.Map) ?_
  obtain ⟨x21,hx21,h⟩:=J h
  refine H B hg23<|V B (c72 a.Map b.Map _ hx21)<|H B hg23<|d4 B ?_
  cases h
  refine a5 B hg23 B ?_
  exact ⟨⟨_,_,_,_,_,_,B⟩⟩
 rintro _ ⟨_,_,_,_,_,_,rfl⟩
 refine D B ?_
 refine gO 6 [25,26,27,28,29] 30 x23 (!decide (a.Pattern.Vars=b.Pattern.Vars)) (fun hg30=>?_) (fun hg30=>?_) ?_
 ·refine I B hg30<|I B hg30<|I B hg30<|I B hg30<|I B hg30<|a4 B hg30 B ?_
  exact ⟨⟨_,_,_,_,_,B⟩⟩
 ·refine H B hg30<|a7 B<|H B hg30<|K B<|H B hg30<|a7 B<|H B hg30<|K B<|H B hg30<|a9 B B<|a5 B hg30 B ?_
  exact ⟨⟨_,_,_,_,_,B⟩⟩
 rintro _ ⟨_,_,_,_,_,rfl⟩
 refine D B ?_
 obtain ⟨x40,hx40,h⟩:=J h
 refine gX 9 [32,33,34,35,36,37,38,39] 40 x40 (x23||(!decide (a.Pattern.Vars=b.Pattern.Vars))) (fun hg40=>?_) (fun hg40=>?_) ?_
 ·replace h:=R hg40 hx40
  cases h
  refine I B hg40<|I B hg40<|I B hg40<|I B hg40<|I B hg40<|I B hg40<|I B hg40<|I B hg40<|a4 B hg40 B ?_
  exact ⟨⟨_,_,_,_,_,_,_,_,B⟩⟩
 ·replace h:=S hg40 hx40
  refine H B hg40<|a7 B<|H B hg40<|b5 B B<|H B hg40<|K B<|H B hg40<|a7 B<|H B hg40<|b5 B B<|H B hg40<|K B ?_
  obtain ⟨x38,hx38,h⟩:=J h
  refine H B hg40<|V B (c73 a.Pattern.Graph.Nodes b.Pattern.Graph.Nodes _ hx38)<|H B hg40<|d4 B ?_
  cases h
  refine a5 B hg40 B ?_
  exact ⟨⟨_,_,_,_,_,_,_,_,B⟩⟩
 rintro _ ⟨_,_,_,_,_,_,_,_,rfl⟩
 refine D B ?_
 obtain ⟨x50,hx50,h⟩:=J h
 refine gX 9 [42,43,44,45,46,47,48,49] 50 x50 x40 (fun hg50=>?_) (fun hg50=>?_) ?_
 ·replace h:=R hg50 hx50
  cases h
  refine I B hg50<|I B hg50<|I B hg50<|I B hg50<|I B hg50<|I B hg50<|I B hg50<|I B hg50<|a4 B hg50 B ?_
  exact ⟨⟨_,_,_,_,_,_,_,_,B⟩⟩
 ·replace h:=S hg50 hx50
  refine H B hg50<|a7 B<|H B hg50<|b5 B B<|H B hg50<|K B<|H B hg50<|a7 B<|H B hg50<|b5 B B<|H B hg50<|K B ?_
  obtain ⟨x48,hx48,h⟩:=J h
  refine H B hg50<|V B (c74 a.Pattern.Graph.Edges b.Pattern.Graph.Edges _ hx48)<|H B hg50<|d4 B ?_
  cases h
  refine a5 B hg50 B ?_
  exact ⟨⟨_,_,_,_,_,_,_,_,B⟩⟩
 rintro _ ⟨_,_,_,_,_,_,_,_,rfl⟩
 refine F (kt<|kt<|kb<|kb<|kt<|kn) fun _=>?_
 refine U B (fun hc50=>?_) (fun hc50=>?_)
 ·replace h:=R hc50 h
  refine E<|G<|D B<|F km1 fun _=>?_
  exact L (by cases h;rfl)
 ·replace h:=S hc50 h
  refine T (kt<|kt<|kb<|kb<|kn) fun _=>?_
  refine E<|G<|a7 B<|K B<|a7 B<|K B ?_
  obtain ⟨x55,hx55,h⟩:=J h
  refine V B (c75 a.Pattern.Slots b.Pattern.Slots _ hx55)<|D B ?_
  obtain ⟨x62,hx62,h⟩:=J h
  refine gX 6 [57,58,59,60,61] 62 x62 x55 (fun hg62=>?_) (fun hg62=>?_) ?_
  ·replace h:=R hg62 hx62
   refine H B hg62<|a7 B<|H B hg62<|K B<|H B hg62<|a7 B<|H B hg62<|K B ?_
   obtain ⟨x61,hx61,h⟩:=J h
   refine H B hg62<|V B (c76 a.Pattern.Tests b.Pattern.Tests _ hx61) ?_
   cases h
   refine a4 B hg62 B ?_
   exact ⟨⟨_,_,_,_,_,B⟩⟩
  ·replace h:=S hg62 hx62
   cases h
   refine I B hg62<|I B hg62<|I B hg62<|I B hg62<|I B hg62<|a5 B hg62 B ?_
   exact ⟨⟨_,_,_,_,_,B⟩⟩
  rintro _ ⟨_,_,_,_,_,rfl⟩
  refine D B ?_
  obtain ⟨x69,hx69,h⟩:=J h
  refine gX 6 [64,65,66,67,68] 69 x69 x62 (fun hg69=>?_) (fun hg69=>?_) ?_
  ·replace h:=R hg69 hx69
   refine H B hg69<|O B<|H B hg69<|K B<|H B hg69<|O B<|H B hg69<|K B ?_
   obtain ⟨x68,hx68,h⟩:=J h
   refine H B hg69<|V B (c77 a.Kids b.Kids (condition_SameF n) _ _ (fun y0 y1 r h=>ih_34 y0 y1 r h) _ hx68) ?_
   cases h
   refine a4 B hg69 B ?_
   exact ⟨⟨_,_,_,_,_,B⟩⟩
  ·replace h:=S hg69 hx69
   cases h
   refine I B hg69<|I B hg69<|I B hg69<|I B hg69<|I B hg69<|a5 B hg69 B ?_
   exact ⟨⟨_,_,_,_,_,B⟩⟩
  rintro _ ⟨_,_,_,_,_,rfl⟩
  refine D B<|F km1 fun _=>?_
  exact L (by cases h;rfl)
theorem c34A:∀ n:Nat,(∀ (a:Condition) (b:Condition) (r:Bool) (_:condition_SameF n a b=some r),Sound prog 34 [eCondition a,eCondition b] (.sh (eB r))):=by
  intro n
  induction n with
  | zero=>intro a b r h; cases h
  | succ n ih=>exact c34S n ih
theorem c34 (a:Condition) (b:Condition) (r:Bool) (h:condition_Same a b=some r):Sound prog 34 [eCondition a,eCondition b] (.sh (eB r)):=by
  obtain ⟨N,hN⟩:=lim_some h
  exact (c34A N) a b r (hN N (Nat.le_refl _))
theorem ck203:CK f203 (Rq [Af 2 0,Ah 3] [1,2]<|Rq [Ad 4 2 9,Ad 5 1 9,Ap 6 34 4 5,Aa 3 6] [3]<|.ret) [.tmp 3]:= by decide +kernel
theorem c203 (x_0:Condition) (c0:Condition) (r:Bool) (h:condition_list_1 x_0 c0=some r):Sound prog 203 [eCondition x_0,.pt (eCondition c0).cells] (.sh (eB r)):= by
 refine Fn ck203 fun hw=>?_
 unfold condition_list_1 at h
 refine E<|G<|X B B<|D B<|F km2 fun _=>?_
 refine E<|G<|M B B (B:_=eCondition x_0)<|M B B (B:_=eCondition c0) ?_
 obtain ⟨x6,hx6,h⟩:=J h
 refine V B (c34 x_0 c0 _ hx6)<|D B<|F km1 fun _=>?_
 exact L (by cases h;rfl)
theorem ck135:CK f135 (Rq [Bf 4 0 9 1 1 1 3 4 0 5] [0,1,4]<|Rq [Br 15 140,Br 16 137,Bf 7 0 9 1 1 1 3 4 0 5,Bf 8 0 9 1 1 1 3 4 0 5,Ee 5 202,Ee 6 136,Aj 9 7 15,Aj 9 8 16] [0,1,4,5,6,7,8]<|Sq (Rq [Aa 17 0,Ar 18 17 4] [0,1,4,5,6,7,8,18]<|Co 18 (Re [Br 19 137,Br 20 140,Ee 5 136,Ee 6 202,Aj 9 7 19,Aj 9 8 20] [0,1,4,5,6,7,8])<|Sk [0,1,4,5,6,7,8])<|Rq [Ba 9 9] [0,1,4,5,6,7,8,9]<|Sq (Rq [Aa 21 1,Ag 22 21,Ae 23 0] [0,4,5,6,7,8,9,21,22,23]<|Bl 0<|Lo [0,4,5,6,7,8,9,21,22,23]<|Rq [Am 24 23 22] [0,4,5,6,7,8,9,21,22,23,24]<|Sq (Co 24 (Sk [0,4,5,6,7,8,9,21,22,23])<|Ex 0 [0,4,5,6,7,8,9])<|Sq (Bl 1<|Rq [Ak 25 21 23 9,Ad 26 25 9,Bf 11 0 9 1 1 1 3 4 0 5,Aj 9 11 26] [0,4,5,6,7,8,9,11,21,22,23]<|Rq [Ac 27 11 0,Ab 28 27,Aa 29 0,Cu 30 28 29] [0,4,5,6,7,8,9,11,21,22,23,30]<|Co 30 (Re [Ay 31 9,Ac 32 11 1,Ab 33 32,Bq 34 9 31 33,Ay 9 34] [0,4,5,6,7,8,9,21,22,23])<|Re [Ay 35 9,Ad 36 11 9,Bh 37 9 36,Bq 38 9 35 37,Ay 9 38] [0,4,5,6,7,8,9,21,22,23])<|Re [An 39 23 1,Aa 23 39] [0,4,5,6,7,8,9,21,22,23])<|Rq [Ba 12 9] [0,4,5,6,7,8,9,12]<|Sq (Rq [Aa 40 9,Ag 41 40,Ae 42 0] [0,4,5,6,7,8,12,40,41,42]<|Bl 2<|Lo [0,4,5,6,7,8,12,40,41,42]<|Rq [Am 43 42 41] [0,4,5,6,7,8,12,40,41,42,43]<|Sq (Co 43 (Sk [0,4,5,6,7,8,12,40,41,42])<|Ex 2 [0,4,7,12])<|Sq (Bl 3<|Rq [Ak 44 40 42 9,Ad 45 44 9,Bf 14 0 9 1 1 1 3 4 0 5,Aj 9 14 45,Dh 14] [0,4,5,6,7,8,12,14,40,41,42]<|Sq (Rq [Aa 46 6,Ad 47 14 9,Bx 48 46 47] [0,4,5,6,7,8,12,14,40,41,42,48]<|Co 48 (Rq [Ad 49 8 9,Aj 9 4 49] [4]<|.ret)<|Sk [0,4,5,6,7,8,12,14,40,41,42])<|Rq [Aa 50 5,Ad 51 14 9,Bx 52 50 51,Bb 53 52,Aa 54 53,Az 55 12 54,⟨some 56,.clo 203 [.s 14],some (54,true)⟩,Cd 57 157 55 56 54,Db 58 57 54,Ao 59 54 58] [0,4,5,6,7,8,12,14,40,41,42,59]<|Co 59 (Re [Ay 60 12,Ad 61 14 9,Bh 62 9 61,Bq 63 9 60 62,Ay 12 63] [0,4,5,6,7,8,12,40,41,42])<|Sk [0,4,5,6,7,8,12,40,41,42])<|Re [An 64 42 1,Aa 42 64] [0,4,5,6,7,8,12,40,41,42])<|Sq (Rq [Aa 65 12,Ag 66 65] [0,4,7,12,66]<|Bl 4<|Rq [Ar 68 66 0,Aa 67 68] [0,4,7,12,66,67]<|Co 67 (Rq [Ad 69 7 9,Aj 9 4 69] [4]<|.ret)<|Rq [Ar 71 66 1,Aa 70 71] [0,4,12,70]<|Co 70 (Rq [Aa 72 12,By 73 72 0 9,Ad 74 73 9,Aj 9 4 74] [4]<|.ret)<|Sk [0,4,12])<|Rq [Aa 75 0,Aa 76 12,Fl 77 0 9 1 1 1 3 4 0 5 0 1 75 1 1 76,Aj 9 4 77] [4]<|.ret) [.cell 4 (some 9)]:= by decide +kernel
theorem c135 (kind:Int) (kids:List Condition) (r:Condition) (h:condition_list kind kids=some r):Sound prog 135 [eI kind,eLCondition kids] (.sh (eCondition r)):= by
 refine Fn ck135 fun hw=>?_
 unfold condition_list at h
 refine E<|G<|b6 B<|F (kt<|kt<|kb<|kn) fun _=>?_
 refine E<|G ?_
 obtain ⟨x15,hx15,h⟩:=J h
 refine V B (c140  _ hx15) ?_
 obtain ⟨x16,hx16,h⟩:=J h
 refine V B (c137  _ hx16)<|b6 B<|b6 B<|D B<|D B<|a6 B B B B B<|a6 B B B B B<|F (kt<|kt<|kb<|kt<|kt<|kb<|kb<|kn) fun _=>?_
 refine E<|E<|G<|D B<|b2 B B<|F (kt<|kt<|kb<|kt<|kt<|kb<|kb<|kt<|kn) fun _=>?_
 refine U B (fun hc18=>?_) (fun hc18=>?_)
 ·replace h:=R hc18 h
  refine G ?_
  obtain ⟨x19,hx19,h⟩:=J h
  refine V B (c137  _ hx19) ?_
  obtain ⟨x20,hx20,h⟩:=J h
  refine V B (c140  _ hx20)<|D B<|D B<|a6 B B B B B<|a6 B B B B B<|F (kt<|kt<|kb<|kt<|kt<|kb<|kb<|kn) fun _=>?_
  refine E<|G<|e3<|F (kt<|kt<|kb<|kt<|kt<|kb<|kb<|ko<|kn) fun _=>?_
  refine E<|E<|G<|D B<|W B (eLCondition_eq _)<|D B<|F (kt<|kb<|kt<|kt<|kb<|kb<|ko<|kt<|kt<|kt<|kn) fun _=>?_
  obtain ⟨s0,hs0,h⟩:=J h
  refine g2 hs0 (fun (i0:Int) (s0:List Condition)=>[(0,.tv (eI kind)),(4,.bx [⟨false,eI 0⟩,⟨true,eLCondition []⟩,⟨true,lI []⟩,⟨true,lI []⟩,⟨true,lI []⟩,⟨true,lE []⟩,⟨true,lS []⟩,⟨false,eI 0⟩,⟨true,lT []⟩]),(5,.tv (.clo 136 [])),(6,.tv (.clo 202 [])),(7,.bx [⟨false,eI x19.Kind⟩,⟨false,eLCondition x19.Kids⟩,⟨false,lI x19.Map.Nodes⟩,⟨false,lI x19.Map.Edges⟩,⟨false,lI x19.Pattern.Graph.Nodes⟩,⟨false,lE x19.Pattern.Graph.Edges⟩,⟨false,lS x19.Pattern.Slots⟩,⟨false,eI x19.Pattern.Vars⟩,⟨false,lT x19.Pattern.Tests⟩]),(8,.bx [⟨false,eI x20.Kind⟩,⟨false,eLCondition x20.Kids⟩,⟨false,lI x20.Map.Nodes⟩,⟨false,lI x20.Map.Edges⟩,⟨false,lI x20.Pattern.Graph.Nodes⟩,⟨false,lE x20.Pattern.Graph.Edges⟩,⟨false,lS x20.Pattern.Slots⟩,⟨false,eI x20.Pattern.Vars⟩,⟨false,lT x20.Pattern.Tests⟩]),(9,.ow (eLCondition s0)),(21,.tv (eLCondition kids)),(22,.tv (eI (kids.length:Int))),(23,.tv (eI i0))]) (fun (s0:List Condition)=>[(0,.tv (eI kind)),(4,.bx [⟨false,eI 0⟩,⟨true,eLCondition []⟩,⟨true,lI []⟩,⟨true,lI []⟩,⟨true,lI []⟩,⟨true,lE []⟩,⟨true,lS []⟩,⟨false,eI 0⟩,⟨true,lT []⟩]),(5,.tv (.clo 136 [])),(6,.tv (.clo 202 [])),(7,.bx [⟨false,eI x19.Kind⟩,⟨false,eLCondition x19.Kids⟩,⟨false,lI x19.Map.Nodes⟩,⟨false,lI x19.Map.Edges⟩,⟨false,lI x19.Pattern.Graph.Nodes⟩,⟨false,lE x19.Pattern.Graph.Edges⟩,⟨false,lS x19.Pattern.Slots⟩,⟨false,eI x19.Pattern.Vars⟩,⟨false,lT x19.Pattern.Tests⟩]),(8,.bx [⟨false,eI x20.Kind⟩,⟨false,eLCondition x20.Kids⟩,⟨false,lI x20.Map.Nodes⟩,⟨false,lI x20.Map.Edges⟩,⟨false,lI x20.Pattern.Graph.Nodes⟩,⟨false,lE x20.Pattern.Graph.Edges⟩,⟨false,lS x20.Pattern.Slots⟩,⟨false,eI x20.Pattern.Vars⟩,⟨false,lT x20.Pattern.Tests⟩]),(9,.ow (eLCondition s0))]) B ?_ ?_ ?_
  ·clear h hs0
   intro i0 s0 r0 hi0 h hw0
   refine E<|G<|Y B B<|F (kt<|kb<|kt<|kt<|kb<|kb<|ko<|kt<|kt<|kt<|kt<|kn) fun _=>?_
   refine E<|d1 B (d2 hi0)<|T (kt<|kb<|kt<|kt<|kb<|kb<|ko<|kt<|kt<|kt<|kn) fun _=>?_
   refine E<|b3<|E<|G ?_
   obtain ⟨x25,hx25,h⟩:=J h
   refine a2 B B (eLCondition_eq _) hx25 B<|M B B (B:_=eCondition x25)<|b6 B<|a6 B B B B B<|F (kt<|kb<|kt<|kt<|kb<|kb<|ko<|kb<|kt<|kt<|kt<|kn) fun _=>?_
   refine E<|G<|a7 B<|K B<|D B<|b2 B B<|F (kt<|kb<|kt<|kt<|kb<|kb<|ko<|kb<|kt<|kt<|kt<|kt<|kn) fun _=>?_
   refine U B (fun hc30=>?_) (fun hc30=>?_)
   ·replace h:=R hc30 h
    refine G<|e9 B<|a7 B<|K B ?_
    obtain ⟨x34,hx34,h⟩:=J h
    refine f6 B B (eLCondition_eq _) (eLCondition_eq _) hx34 (eLCondition_eq _)<|e9 B<|F (kt<|kb<|kt<|kt<|kb<|kb<|ko<|kt<|kt<|kt<|kn) fun _=>?_
    refine G<|a8 B B<|D B<|F (kt<|kb<|kt<|kt<|kb<|kb<|ko<|kt<|kt<|kt<|kn) ?_
    cases h
    show Env.keep _ _=_
    rw [Ktv rfl (Kbx rfl (Ktv rfl (Ktv rfl (Kbx rfl (Kbx rfl (Kow rfl (Ktv rfl (Ktv rfl (Ktv rfl (Knil _))))))))))]
    rw [b7 (Z (hw0 23)) hi0 (b9 (Z (hw0 22)))]
    all_goals rfl
   ·replace h:=S hc30 h
    refine G<|e9 B<|M B B (B:_=eCondition x25)<|g5 (e:=eCondition) (l:=[x25]) B B (fun _=>rfl) (show eLCondition [x25]=_ from eLCondition_lst _) ?_
    obtain ⟨x38,hx38,h⟩:=J h
    refine f6 B B (eLCondition_eq _) (eLCondition_eq _) hx38 (eLCondition_eq _)<|e9 B<|F (kt<|kb<|kt<|kt<|kb<|kb<|ko<|kt<|kt<|kt<|kn) fun _=>?_
    refine G<|a8 B B<|D B<|F (kt<|kb<|kt<|kt<|kb<|kb<|ko<|kt<|kt<|kt<|kn) ?_
    cases h
    show Env.keep _ _=_
    rw [Ktv rfl (Kbx rfl (Ktv rfl (Ktv rfl (Kbx rfl (Kbx rfl (Kow rfl (Ktv rfl (Ktv rfl (Ktv rfl (Knil _))))))))))]
    rw [b7 (Z (hw0 23)) hi0 (b9 (Z (hw0 22)))]
    all_goals rfl
  ·intro i0 s0 hi0
   refine E<|G<|Y B B<|F (kt<|kb<|kt<|kt<|kb<|kb<|ko<|kt<|kt<|kt<|kt<|kn) fun _=>?_
   refine E<|d0 B (d3 hi0)<|b8 (kt<|kb<|kt<|kt<|kb<|kb<|ko<|kn) ?_
   exact ⟨rfl,rfl⟩
  ·intro _
   refine E<|G<|e3<|F (kt<|kb<|kt<|kt<|kb<|kb<|ko<|ko<|kn) fun _=>?_
   refine E<|E<|G<|D B<|W B (eLCondition_eq _)<|D B<|F (kt<|kb<|kt<|kt<|kb<|kb<|ko<|kt<|kt<|kt<|kn) fun _=>?_
   obtain ⟨o2,ho2,h⟩:=d6 h
   refine d9 ho2 (fun (i2:Int) (s2:Condition × List Condition)=>[(0,.tv (eI kind)),(4,.bx [⟨false,eI s2.1.Kind⟩,⟨true,eLCondition s2.1.Kids⟩,⟨true,lI s2.1.Map.Nodes⟩,⟨true,lI s2.1.Map.Edges⟩,⟨true,lI s2.1.Pattern.Graph.Nodes⟩,⟨true,lE s2.1.Pattern.Graph.Edges⟩,⟨true,lS s2.1.Pattern.Slots⟩,⟨false,eI s2.1.Pattern.Vars⟩,⟨true,lT s2.1.Pattern.Tests⟩]),(5,.tv (.clo 136 [])),(6,.tv (.clo 202 [])),(7,.bx [⟨false,eI x19.Kind⟩,⟨false,eLCondition x19.Kids⟩,⟨false,lI x19.Map.Nodes⟩,⟨false,lI x19.Map.Edges⟩,⟨false,lI x19.Pattern.Graph.Nodes⟩,⟨false,lE x19.Pattern.Graph.Edges⟩,⟨false,lS x19.Pattern.Slots⟩,⟨false,eI x19.Pattern.Vars⟩,⟨false,lT x19.Pattern.Tests⟩]),(8,.bx [⟨false,eI x20.Kind⟩,⟨false,eLCondition x20.Kids⟩,⟨false,lI x20.Map.Nodes⟩,⟨false,lI x20.Map.Edges⟩,⟨false,lI x20.Pattern.Graph.Nodes⟩,⟨false,lE x20.Pattern.Graph.Edges⟩,⟨false,lS x20.Pattern.Slots⟩,⟨false,eI x20.Pattern.Vars⟩,⟨false,lT x20.Pattern.Tests⟩]),(12,.ow (eLCondition s2.2)),(40,.tv (eLCondition s0)),(41,.tv (eI (s0.length:Int))),(42,.tv (eI i2))]) (fun (s2:Condition × List Condition)=>[(0,.tv (eI kind)),(4,.bx [⟨false,eI s2.1.Kind⟩,⟨true,eLCondition s2.1.Kids⟩,⟨true,lI s2.1.Map.Nodes⟩,⟨true,lI s2.1.Map.Edges⟩,⟨true,lI s2.1.Pattern.Graph.Nodes⟩,⟨true,lE s2.1.Pattern.Graph.Edges⟩,⟨true,lS s2.1.Pattern.Slots⟩,⟨false,eI s2.1.Pattern.Vars⟩,⟨true,lT s2.1.Pattern.Tests⟩]),(7,.bx [⟨false,eI x19.Kind⟩,⟨false,eLCondition x19.Kids⟩,⟨false,lI x19.Map.Nodes⟩,⟨false,lI x19.Map.Edges⟩,⟨false,lI x19.Pattern.Graph.Nodes⟩,⟨false,lE x19.Pattern.Graph.Edges⟩,⟨false,lS x19.Pattern.Slots⟩,⟨false,eI x19.Pattern.Vars⟩,⟨false,lT x19.Pattern.Tests⟩]),(12,.ow (eLCondition s2.2))]) (fun zv ze=>resIs ([.cell 4 (some 9)]) (.sh (eCondition zv)) ze) B ?_ ?_ ?_ ?_
   ·clear h ho2
    intro i2 s2 r2 hi2 h hw2
    refine E<|G<|Y B B<|F (kt<|kb<|kt<|kt<|kb<|kb<|ko<|kt<|kt<|kt<|kt<|kn) fun _=>?_
    refine E<|d1 B (d2 hi2)<|T (kt<|kb<|kt<|kt<|kb<|kb<|ko<|kt<|kt<|kt<|kn) fun _=>?_
    refine E<|b3<|E<|G ?_
    obtain ⟨x44,hx44,h⟩:=J h
    refine a2 B B (eLCondition_eq _) hx44 B<|M B B (B:_=eCondition x44)<|b6 B<|a6 B B B B B<|l3 B B<|F (kt<|kb<|kt<|kt<|kb<|kb<|ko<|kt<|kt<|kt<|kt<|kn) fun _=>?_
    refine E<|E<|G<|D B<|M B B (B:_=eCondition x44) ?_
    obtain ⟨x48,hx48,h⟩:=J h
    refine g0 B B (c202 x44 _ hx48)<|F (kt<|kb<|kt<|kt<|kb<|kb<|ko<|kt<|kt<|kt<|kt<|kt<|kn) fun _=>?_
    refine U B (fun hc48=>?_) (fun hc48=>?_)
    ·replace h:=R hc48 h
     refine E<|G<|M B B (B:_=eCondition x20)<|a6 B B B B B<|F (kb<|kn) fun _=>?_
     refine L ?_
     cases h
     exact ⟨_,rfl,rfl⟩
    ·replace h:=S hc48 h
     refine T (kt<|kb<|kt<|kt<|kb<|kb<|ko<|kt<|kt<|kt<|kt<|kn) fun _=>?_
     refine E<|G<|D B<|M B B (B:_=eCondition x44) ?_
     obtain ⟨x52,hx52,h⟩:=J h
     refine g0 B B (c136 x44 _ hx52)<|d4 B<|D B ?_
     obtain ⟨x59,hx59,h⟩:=J h
     refine gX 5 [55,56,57,58] 59 x59 (!x52) (fun hg59=>?_) (fun hg59=>?_) ?_
     ·replace h:=R hg59 hx59
      refine H B hg59<|D B<|H B hg59<|g1 B ?_
      obtain ⟨x57,hx57,h⟩:=J h
      refine H B hg59<|V B (c157 s2.2 (fun y0=>condition_list_1 y0 x44) _ _ (fun y0 r h=>c203 y0 x44 r h) _ hx57)<|H B hg59<|d4 B ?_
      cases h
      refine a4 B hg59 B ?_
      exact ⟨⟨_,_,_,_,B⟩⟩
     ·replace h:=S hg59 hx59
      cases h
      refine I B hg59<|I B hg59<|I B hg59<|I B hg59<|a5 B hg59 B ?_
      exact ⟨⟨_,_,_,_,B⟩⟩
     rintro _ ⟨_,_,_,_,rfl⟩
     refine F (kt<|kb<|kt<|kt<|kb<|kb<|ko<|kt<|kt<|kt<|kt<|kt<|kn) fun _=>?_
     refine U B (fun hc59=>?_) (fun hc59=>?_)
     ·replace h:=R hc59 h
      refine G<|e9 B<|M B B (B:_=eCondition x44)<|g5 (e:=eCondition) (l:=[x44]) B B (fun _=>rfl) (show eLCondition [x44]=_ from eLCondition_lst _) ?_
      obtain ⟨x63,hx63,h⟩:=J h
      refine f6 B B (eLCondition_eq _) (eLCondition_eq _) hx63 (eLCondition_eq _)<|e9 B<|F (kt<|kb<|kt<|kt<|kb<|kb<|ko<|kt<|kt<|kt<|kn) fun _=>?_
      refine G<|a8 B B<|D B<|F (kt<|kb<|kt<|kt<|kb<|kb<|ko<|kt<|kt<|kt<|kn) ?_
      cases h
      refine ⟨_,B,?_⟩
      rw [Ktv rfl (Kbx rfl (Ktv rfl (Ktv rfl (Kbx rfl (Kbx rfl (Kow rfl (Ktv rfl (Ktv rfl (Ktv rfl (Knil _))))))))))]
      rw [b7 (Z (hw2 42)) hi2 (b9 (Z (hw2 41)))]
      all_goals rfl
     ·replace h:=S hc59 h
      refine T (kt<|kb<|kt<|kt<|kb<|kb<|ko<|kt<|kt<|kt<|kn) fun _=>?_
      refine G<|a8 B B<|D B<|F (kt<|kb<|kt<|kt<|kb<|kb<|ko<|kt<|kt<|kt<|kn) ?_
      cases h
      refine ⟨_,B,?_⟩
      rw [Ktv rfl (Kbx rfl (Ktv rfl (Ktv rfl (Kbx rfl (Kbx rfl (Kow rfl (Ktv rfl (Ktv rfl (Ktv rfl (Knil _))))))))))]
      rw [b7 (Z (hw2 42)) hi2 (b9 (Z (hw2 41)))]
      all_goals rfl
   ·intro i2 s2 hi2
    refine E<|G<|Y B B<|F (kt<|kb<|kt<|kt<|kb<|kb<|ko<|kt<|kt<|kt<|kt<|kn) fun _=>?_
    refine E<|d0 B (d3 hi2)<|b8 (kt<|kb<|kb<|ko<|kn) ?_
    exact ⟨rfl,rfl⟩
   ·intro s2 hs
    replace h:=d7 h hs
    intro _
    refine E<|E<|G<|D B<|W B (eLCondition_eq _)<|F (kt<|kb<|kb<|ko<|kt<|kn) fun _=>?_
    refine b3<|E<|G<|b2 B B<|D B<|F (kt<|kb<|kb<|ko<|kt<|kt<|kn) fun _=>?_
    refine U B (fun hc67=>?_) (fun hc67=>?_)
    ·replace h:=R hc67 h
     refine E<|G<|M B B (B:_=eCondition x19)<|a6 B B B B B<|F (kb<|kn) fun _=>?_
     exact L (by cases h;rfl)
    ·replace h:=S hc67 h
     refine E<|G<|b2 B B<|D B<|F (kt<|kb<|ko<|kt<|kn) fun _=>?_
     refine U B (fun hc70=>?_) (fun hc70=>?_)
     ·replace h:=R hc70 h
      refine E<|G<|D B ?_
      obtain ⟨x73,hx73,h⟩:=J h
      refine a2 B B (eLCondition_eq _) hx73 B<|M B B (B:_=eCondition x73)<|a6 B B B B B<|F (kb<|kn) fun _=>?_
      exact L (by cases h;rfl)
     ·replace h:=S hc70 h
      refine T (kt<|kb<|ko<|kn) fun _=>?_
      refine E<|G<|D B<|D B<|e2 B B (show _=eCondition (Condition.mk kind s2.2 (Morphism.mk [] []) (Pattern.mk (Graph.mk [] []) [] 0 [])) from B)<|a6 B B B B B<|F (kb<|kn) fun _=>?_
      exact L (by cases h;rfl)
   ·intro v2 ze hv hR
    replace h:=d8 h hv
    cases h
    exact hR
 ·replace h:=S hc18 h
  refine T (kt<|kt<|kb<|kt<|kt<|kb<|kb<|kn) fun _=>?_
  refine E<|G<|e3<|F (kt<|kt<|kb<|kt<|kt<|kb<|kb<|ko<|kn) fun _=>?_
  refine E<|E<|G<|D B<|W B (eLCondition_eq _)<|D B<|F (kt<|kb<|kt<|kt<|kb<|kb<|ko<|kt<|kt<|kt<|kn) fun _=>?_
  obtain ⟨s0,hs0,h⟩:=J h
  refine g2 hs0 (fun (i0:Int) (s0:List Condition)=>[(0,.tv (eI kind)),(4,.bx [⟨false,eI 0⟩,⟨true,eLCondition []⟩,⟨true,lI []⟩,⟨true,lI []⟩,⟨true,lI []⟩,⟨true,lE []⟩,⟨true,lS []⟩,⟨false,eI 0⟩,⟨true,lT []⟩]),(5,.tv (.clo 202 [])),(6,.tv (.clo 136 [])),(7,.bx [⟨false,eI x15.Kind⟩,⟨false,eLCondition x15.Kids⟩,⟨false,lI x15.Map.Nodes⟩,⟨false,lI x15.Map.Edges⟩,⟨false,lI x15.Pattern.Graph.Nodes⟩,⟨false,lE x15.Pattern.Graph.Edges⟩,⟨false,lS x15.Pattern.Slots⟩,⟨false,eI x15.Pattern.Vars⟩,⟨false,lT x15.Pattern.Tests⟩]),(8,.bx [⟨false,eI x16.Kind⟩,⟨false,eLCondition x16.Kids⟩,⟨false,lI x16.Map.Nodes⟩,⟨false,lI x16.Map.Edges⟩,⟨false,lI x16.Pattern.Graph.Nodes⟩,⟨false,lE x16.Pattern.Graph.Edges⟩,⟨false,lS x16.Pattern.Slots⟩,⟨false,eI x16.Pattern.Vars⟩,⟨false,lT x16.Pattern.Tests⟩]),(9,.ow (eLCondition s0)),(21,.tv (eLCondition kids)),(22,.tv (eI (kids.length:Int))),(23,.tv (eI i0))]) (fun (s0:List Condition)=>[(0,.tv (eI kind)),(4,.bx [⟨false,eI 0⟩,⟨true,eLCondition []⟩,⟨true,lI []⟩,⟨true,lI []⟩,⟨true,lI []⟩,⟨true,lE []⟩,⟨true,lS []⟩,⟨false,eI 0⟩,⟨true,lT []⟩]),(5,.tv (.clo 202 [])),(6,.tv (.clo 136 [])),(7,.bx [⟨false,eI x15.Kind⟩,⟨false,eLCondition x15.Kids⟩,⟨false,lI x15.Map.Nodes⟩,⟨false,lI x15.Map.Edges⟩,⟨false,lI x15.Pattern.Graph.Nodes⟩,⟨false,lE x15.Pattern.Graph.Edges⟩,⟨false,lS x15.Pattern.Slots⟩,⟨false,eI x15.Pattern.Vars⟩,⟨false,lT x15.Pattern.Tests⟩]),(8,.bx [⟨false,eI x16.Kind⟩,⟨false,eLCondition x16.Kids⟩,⟨false,lI x16.Map.Nodes⟩,⟨false,lI x16.Map.Edges⟩,⟨false,lI x16.Pattern.Graph.Nodes⟩,⟨false,lE x16.Pattern.Graph.Edges⟩,⟨false,lS x16.Pattern.Slots⟩,⟨false,eI x16.Pattern.Vars⟩,⟨false,lT x16.Pattern.Tests⟩]),(9,.ow (eLCondition s0))]) B ?_ ?_ ?_
  ·clear h hs0
   intro i0 s0 r0 hi0 h hw0
   refine E<|G<|Y B B<|F (kt<|kb<|kt<|kt<|kb<|kb<|ko<|kt<|kt<|kt<|kt<|kn) fun _=>?_
   refine E<|d1 B (d2 hi0)<|T (kt<|kb<|kt<|kt<|kb<|kb<|ko<|kt<|kt<|kt<|kn) fun _=>?_
   refine E<|b3<|E<|G ?_
   obtain ⟨x25,hx25,h⟩:=J h
   refine a2 B B (eLCondition_eq _) hx25 B<|M B B (B:_=eCondition x25)<|b6 B<|a6 B B B B B<|F (kt<|kb<|kt<|kt<|kb<|kb<|ko<|kb<|kt<|kt<|kt<|kn) fun _=>?_
   refine E<|G<|a7 B<|K B<|D B<|b2 B B<|F (kt<|kb<|kt<|kt<|kb<|kb<|ko<|kb<|kt<|kt<|kt<|kt<|kn) fun _=>?_
   refine U B (fun hc30=>?_) (fun hc30=>?_)
   ·replace h:=R hc30 h
    refine G<|e9 B<|a7 B<|K B ?_
    obtain ⟨x34,hx34,h⟩:=J h
    refine f6 B B (eLCondition_eq _) (eLCondition_eq _) hx34 (eLCondition_eq _)<|e9 B<|F (kt<|kb<|kt<|kt<|kb<|kb<|ko<|kt<|kt<|kt<|kn) fun _=>?_
    refine G<|a8 B B<|D B<|F (kt<|kb<|kt<|kt<|kb<|kb<|ko<|kt<|kt<|kt<|kn) ?_
    cases h
    show Env.keep _ _=_
    rw [Ktv rfl (Kbx rfl (Ktv rfl (Ktv rfl (Kbx rfl (Kbx rfl (Kow rfl (Ktv rfl (Ktv rfl (Ktv rfl (Knil _))))))))))]
    rw [b7 (Z (hw0 23)) hi0 (b9 (Z (hw0 22)))]
    all_goals rfl
   ·replace h:=S hc30 h
    refine G<|e9 B<|M B B (B:_=eCondition x25)<|g5 (e:=eCondition) (l:=[x25]) B B (fun _=>rfl) (show eLCondition [x25]=_ from eLCondition_lst _) ?_
    obtain ⟨x38,hx38,h⟩:=J h
    refine f6 B B (eLCondition_eq _) (eLCondition_eq _) hx38 (eLCondition_eq _)<|e9 B<|F (kt<|kb<|kt<|kt<|kb<|kb<|ko<|kt<|kt<|kt<|kn) fun _=>?_
    refine G<|a8 B B<|D B<|F (kt<|kb<|kt<|kt<|kb<|kb<|ko<|kt<|kt<|kt<|kn) ?_
    cases h
    show Env.keep _ _=_
    rw [Ktv rfl (Kbx rfl (Ktv rfl (Ktv rfl (Kbx rfl (Kbx rfl (Kow rfl (Ktv rfl (Ktv rfl (Ktv rfl (Knil _))))))))))]
    rw [b7 (Z (hw0 23)) hi0 (b9 (Z (hw0 22)))]
    all_goals rfl
  ·intro i0 s0 hi0
   refine E<|G<|Y B B<|F (kt<|kb<|kt<|kt<|kb<|kb<|ko<|kt<|kt<|kt<|kt<|kn) fun _=>?_
   refine E<|d0 B (d3 hi0)<|b8 (kt<|kb<|kt<|kt<|kb<|kb<|ko<|kn) ?_
   exact ⟨rfl,rfl⟩
  ·intro _
   refine E<|G<|e3<|F (kt<|kb<|kt<|kt<|kb<|kb<|ko<|ko<|kn) fun _=>?_
   refine E<|E<|G<|D B<|W B (eLCondition_eq _)<|D B<|F (kt<|kb<|kt<|kt<|kb<|kb<|ko<|kt<|kt<|kt<|kn) fun _=>?_
   obtain ⟨o2,ho2,h⟩:=d6 h
   refine d9 ho2 (fun (i2:Int) (s2:Condition × List Condition)=>[(0,.tv (eI kind)),(4,.bx [⟨false,eI s2.1.Kind⟩,⟨true,eLCondition s2.1.Kids⟩,⟨true,lI s2.1.Map.Nodes⟩,⟨true,lI s2.1.Map.Edges⟩,⟨true,lI s2.1.Pattern.Graph.Nodes⟩,⟨true,lE s2.1.Pattern.Graph.Edges⟩,⟨true,lS s2.1.Pattern.Slots⟩,⟨false,eI s2.1.Pattern.Vars⟩,⟨true,lT s2.1.Pattern.Tests⟩]),(5,.tv (.clo 202 [])),(6,.tv (.clo 136 [])),(7,.bx [⟨false,eI x15.Kind⟩,⟨false,eLCondition x15.Kids⟩,⟨false,lI x15.Map.Nodes⟩,⟨false,lI x15.Map.Edges⟩,⟨false,lI x15.Pattern.Graph.Nodes⟩,⟨false,lE x15.Pattern.Graph.Edges⟩,⟨false,lS x15.Pattern.Slots⟩,⟨false,eI x15.Pattern.Vars⟩,⟨false,lT x15.Pattern.Tests⟩]),(8,.bx [⟨false,eI x16.Kind⟩,⟨false,eLCondition x16.Kids⟩,⟨false,lI x16.Map.Nodes⟩,⟨false,lI x16.Map.Edges⟩,⟨false,lI x16.Pattern.Graph.Nodes⟩,⟨false,lE x16.Pattern.Graph.Edges⟩,⟨false,lS x16.Pattern.Slots⟩,⟨false,eI x16.Pattern.Vars⟩,⟨false,lT x16.Pattern.Tests⟩]),(12,.ow (eLCondition s2.2)),(40,.tv (eLCondition s0)),(41,.tv (eI (s0.length:Int))),(42,.tv (eI i2))]) (fun (s2:Condition × List Condition)=>[(0,.tv (eI kind)),(4,.bx [⟨false,eI s2.1.Kind⟩,⟨true,eLCondition s2.1.Kids⟩,⟨true,lI s2.1.Map.Nodes⟩,⟨true,lI s2.1.Map.Edges⟩,⟨true,lI s2.1.Pattern.Graph.Nodes⟩,⟨true,lE s2.1.Pattern.Graph.Edges⟩,⟨true,lS s2.1.Pattern.Slots⟩,⟨false,eI s2.1.Pattern.Vars⟩,⟨true,lT s2.1.Pattern.Tests⟩]),(7,.bx [⟨false,eI x15.Kind⟩,⟨false,eLCondition x15.Kids⟩,⟨false,lI x15.Map.Nodes⟩,⟨false,lI x15.Map.Edges⟩,⟨false,lI x15.Pattern.Graph.Nodes⟩,⟨false,lE x15.Pattern.Graph.Edges⟩,⟨false,lS x15.Pattern.Slots⟩,⟨false,eI x15.Pattern.Vars⟩,⟨false,lT x15.Pattern.Tests⟩]),(12,.ow (eLCondition s2.2))]) (fun zv ze=>resIs ([.cell 4 (some 9)]) (.sh (eCondition zv)) ze) B ?_ ?_ ?_ ?_
   ·clear h ho2
    intro i2 s2 r2 hi2 h hw2
    refine E<|G<|Y B B<|F (kt<|kb<|kt<|kt<|kb<|kb<|ko<|kt<|kt<|kt<|kt<|kn) fun _=>?_
    refine E<|d1 B (d2 hi2)<|T (kt<|kb<|kt<|kt<|kb<|kb<|ko<|kt<|kt<|kt<|kn) fun _=>?_
    refine E<|b3<|E<|G ?_
    obtain ⟨x44,hx44,h⟩:=J h
    refine a2 B B (eLCondition_eq _) hx44 B<|M B B (B:_=eCondition x44)<|b6 B<|a6 B B B B B<|l3 B B<|F (kt<|kb<|kt<|kt<|kb<|kb<|ko<|kt<|kt<|kt<|kt<|kn) fun _=>?_
    refine E<|E<|G<|D B<|M B B (B:_=eCondition x44) ?_
    obtain ⟨x48,hx48,h⟩:=J h
    refine g0 B B (c136 x44 _ hx48)<|F (kt<|kb<|kt<|kt<|kb<|kb<|ko<|kt<|kt<|kt<|kt<|kt<|kn) fun _=>?_
    refine U B (fun hc48=>?_) (fun hc48=>?_)
    ·replace h:=R hc48 h
     refine E<|G<|M B B (B:_=eCondition x16)<|a6 B B B B B<|F (kb<|kn) fun _=>?_
     refine L ?_
     cases h
     exact ⟨_,rfl,rfl⟩
    ·replace h:=S hc48 h
     refine T (kt<|kb<|kt<|kt<|kb<|kb<|ko<|kt<|kt<|kt<|kt<|kn) fun _=>?_
     refine E<|G<|D B<|M B B (B:_=eCondition x44) ?_
     obtain ⟨x52,hx52,h⟩:=J h
     refine g0 B B (c202 x44 _ hx52)<|d4 B<|D B ?_
     obtain ⟨x59,hx59,h⟩:=J h
     refine gX 5 [55,56,57,58] 59 x59 (!x52) (fun hg59=>?_) (fun hg59=>?_) ?_
     ·replace h:=R hg59 hx59
      refine H B hg59<|D B<|H B hg59<|g1 B ?_
      obtain ⟨x57,hx57,h⟩:=J h
      refine H B hg59<|V B (c157 s2.2 (fun y0=>condition_list_1 y0 x44) _ _ (fun y0 r h=>c203 y0 x44 r h) _ hx57)<|H B hg59<|d4 B ?_
      cases h
      refine a4 B hg59 B ?_
      exact ⟨⟨_,_,_,_,B⟩⟩
     ·replace h:=S hg59 hx59
      cases h
      refine I B hg59<|I B hg59<|I B hg59<|I B hg59<|a5 B hg59 B ?_
      exact ⟨⟨_,_,_,_,B⟩⟩
     rintro _ ⟨_,_,_,_,rfl⟩
     refine F (kt<|kb<|kt<|kt<|kb<|kb<|ko<|kt<|kt<|kt<|kt<|kt<|kn) fun _=>?_
     refine U B (fun hc59=>?_) (fun hc59=>?_)
     ·replace h:=R hc59 h
      refine G<|e9 B<|M B B (B:_=eCondition x44)<|g5 (e:=eCondition) (l:=[x44]) B B (fun _=>rfl) (show eLCondition [x44]=_ from eLCondition_lst _) ?_
      obtain ⟨x63,hx63,h⟩:=J h
      refine f6 B B (eLCondition_eq _) (eLCondition_eq _) hx63 (eLCondition_eq _)<|e9 B<|F (kt<|kb<|kt<|kt<|kb<|kb<|ko<|kt<|kt<|kt<|kn) fun _=>?_
      refine G<|a8 B B<|D B<|F (kt<|kb<|kt<|kt<|kb<|kb<|ko<|kt<|kt<|kt<|kn) ?_
      cases h
      refine ⟨_,B,?_⟩
      rw [Ktv rfl (Kbx rfl (Ktv rfl (Ktv rfl (Kbx rfl (Kbx rfl (Kow rfl (Ktv rfl (Ktv rfl (Ktv rfl (Knil _))))))))))]
      rw [b7 (Z (hw2 42)) hi2 (b9 (Z (hw2 41)))]
      all_goals rfl
     ·replace h:=S hc59 h
      refine T (kt<|kb<|kt<|kt<|kb<|kb<|ko<|kt<|kt<|kt<|kn) fun _=>?_
      refine G<|a8 B B<|D B<|F (kt<|kb<|kt<|kt<|kb<|kb<|ko<|kt<|kt<|kt<|kn) ?_
      cases h
      refine ⟨_,B,?_⟩
      rw [Ktv rfl (Kbx rfl (Ktv rfl (Ktv rfl (Kbx rfl (Kbx rfl (Kow rfl (Ktv rfl (Ktv rfl (Ktv rfl (Knil _))))))))))]
      rw [b7 (Z (hw2 42)) hi2 (b9 (Z (hw2 41)))]
      all_goals rfl
   ·intro i2 s2 hi2
    refine E<|G<|Y B B<|F (kt<|kb<|kt<|kt<|kb<|kb<|ko<|kt<|kt<|kt<|kt<|kn) fun _=>?_
    refine E<|d0 B (d3 hi2)<|b8 (kt<|kb<|kb<|ko<|kn) ?_
    exact ⟨rfl,rfl⟩
   ·intro s2 hs
    replace h:=d7 h hs
    intro _
    refine E<|E<|G<|D B<|W B (eLCondition_eq _)<|F (kt<|kb<|kb<|ko<|kt<|kn) fun _=>?_
    refine b3<|E<|G<|b2 B B<|D B<|F (kt<|kb<|kb<|ko<|kt<|kt<|kn) fun _=>?_
    refine U B (fun hc67=>?_) (fun hc67=>?_)
    ·replace h:=R hc67 h
     refine E<|G<|M B B (B:_=eCondition x15)<|a6 B B B B B<|F (kb<|kn) fun _=>?_
     exact L (by cases h;rfl)
    ·replace h:=S hc67 h
     refine E<|G<|b2 B B<|D B<|F (kt<|kb<|ko<|kt<|kn) fun _=>?_
     refine U B (fun hc70=>?_) (fun hc70=>?_)
     ·replace h:=R hc70 h
      refine E<|G<|D B ?_
      obtain ⟨x73,hx73,h⟩:=J h
      refine a2 B B (eLCondition_eq _) hx73 B<|M B B (B:_=eCondition x73)<|a6 B B B B B<|F (kb<|kn) fun _=>?_
      exact L (by cases h;rfl)
     ·replace h:=S hc70 h
      refine T (kt<|kb<|ko<|kn) fun _=>?_
      refine E<|G<|D B<|D B<|e2 B B (show _=eCondition (Condition.mk kind s2.2 (Morphism.mk [] []) (Pattern.mk (Graph.mk [] []) [] 0 [])) from B)<|a6 B B B B B<|F (kb<|kn) fun _=>?_
      exact L (by cases h;rfl)
   ·intro v2 ze hv hR
    replace h:=d8 h hv
    cases h
    exact hR
theorem ck204:CK f204 (Rq [Ba 2 3] [0]<|Sq (Rq [Aa 3 0,Cx 4 3] [0,4]<|Co 4 (Rq [Ba 2 3] [2]<|.ret)<|Sk [0])<|Rq [Di 5 3,Aa 6 0,Bq 7 3 5 6,Ay 2 7] [2]<|.ret) [.tmp 2]:= by decide +kernel
theorem c204 (s_0:List Edge) (r:(List Edge)) (h:slices_Clone_Edge s_0=some r):Sound prog 204 [lE s_0] (.own (lE r)):= by
 refine Fn ck204 fun hw=>?_
 unfold slices_Clone_Edge at h
 refine E<|G<|e3<|F km1 fun _=>?_
 refine E<|E<|G<|D B<|l4 B B fun z4 hz4=>?_
 replace h:=m2 h z4 hz4
 refine F km2 fun _=>?_
 refine U B (fun hc4=>?_) (fun hc4=>?_)
 ·replace h:=R hc4 h
  refine E<|G<|e3<|F (ko<|kn) fun _=>?_
  exact L (by cases h;rfl)
 ·replace h:=S hc4 h
  refine T km1 fun _=>?_
  refine E<|G<|e4 (e:=eEdge) (l:=[]) B B (fun _=>rfl)<|D B ?_
  obtain ⟨x7,hx7,h⟩:=J h
  refine f6 B B B B hx7 B<|e9 B<|F (ko<|kn) fun _=>?_
  exact L (by cases h;rfl)
theorem ck205:CK f205 (Rq [Ba 2 4] [0]<|Sq (Rq [Aa 3 0,Cx 4 3] [0,4]<|Co 4 (Rq [Ba 2 4] [2]<|.ret)<|Sk [0])<|Rq [Di 5 4,Aa 6 0,Bq 7 4 5 6,Ay 2 7] [2]<|.ret) [.tmp 2]:= by decide +kernel
theorem c205 (s_0:List Slot) (r:(List Slot)) (h:slices_Clone_Slot s_0=some r):Sound prog 205 [lS s_0] (.own (lS r)):= by
 refine Fn ck205 fun hw=>?_
 unfold slices_Clone_Slot at h
 refine E<|G<|e3<|F km1 fun _=>?_
 refine E<|E<|G<|D B<|l4 B B fun z4 hz4=>?_
 replace h:=m2 h z4 hz4
 refine F km2 fun _=>?_
 refine U B (fun hc4=>?_) (fun hc4=>?_)
 ·replace h:=R hc4 h
  refine E<|G<|e3<|F (ko<|kn) fun _=>?_
  exact L (by cases h;rfl)
 ·replace h:=S hc4 h
  refine T km1 fun _=>?_
  refine E<|G<|e4 (e:=eSlot) (l:=[]) B B (fun _=>rfl)<|D B ?_
  obtain ⟨x7,hx7,h⟩:=J h
  refine f6 B B B B hx7 B<|e9 B<|F (ko<|kn) fun _=>?_
  exact L (by cases h;rfl)
theorem ck206:CK f206 (Rq [Ba 2 5] [0]<|Sq (Rq [Aa 3 0,Cx 4 3] [0,4]<|Co 4 (Rq [Ba 2 5] [2]<|.ret)<|Sk [0])<|Rq [Di 5 5,Aa 6 0,Bq 7 5 5 6,Ay 2 7] [2]<|.ret) [.tmp 2]:= by decide +kernel
theorem c206 (s_0:List Test) (r:(List Test)) (h:slices_Clone_Test s_0=some r):Sound prog 206 [lT s_0] (.own (lT r)):= by
 refine Fn ck206 fun hw=>?_
 unfold slices_Clone_Test at h
 refine E<|G<|e3<|F km1 fun _=>?_
 refine E<|E<|G<|D B<|l4 B B fun z4 hz4=>?_
 replace h:=m2 h z4 hz4
 refine F km2 fun _=>?_
 refine U B (fun hc4=>?_) (fun hc4=>?_)
 ·replace h:=R hc4 h
  refine E<|G<|e3<|F (ko<|kn) fun _=>?_
  exact L (by cases h;rfl)
 ·replace h:=S hc4 h
  refine T km1 fun _=>?_
  refine E<|G<|e4 (e:=eTest) (l:=[]) B B (fun _=>rfl)<|D B ?_
  obtain ⟨x7,hx7,h⟩:=J h
  refine f6 B B B B hx7 B<|e9 B<|F (ko<|kn) fun _=>?_
  exact L (by cases h;rfl)
theorem ck139:CK f139 (Rq [Af 1 0,Da 2 1 3 4 0 5] [1,2]<|Sq (Dr [2,3,4,5,6,7,8,9,10,11,12,13,14,15,16,17,18,19,20] [Ac 3 1 0,Ai 4 3 0,Ab 5 4,Au 6 138 5,Ac 7 1 0,Ai 8 7 1,Ab 9 8,Au 10 204 9,Ck 11 1 3 0 1 6 1 1 10,Ac 12 1 2,Ab 13 12,Au 14 205 13,Ac 15 1 3,Ab 16 15,Ac 17 1 4,Ab 18 17,Au 19 206 18,⟨some 20,.bld [.list 1 [],.list 3 [],.list 4 [],.int .i64 0,.list 5 []] [(0,2,.s 11),(2,1,.s 14),(3,1,.s 16),(4,1,.s 19)],none⟩,Aj 5 2 20] [2])<|.ret) [.cell 2 (some 5)]:= by decide +kernel
theorem c139 (p:Pattern) (r:Pattern) (h:condition_copied p=some r):Sound prog 139 [ePattern p] (.sh (ePattern r)):= by
 refine Fn ck139 fun hw=>?_
 unfold condition_copied at h
 refine E<|G<|X B B<|b6 B<|F (kt<|kb<|kn) fun _=>?_
 refine E<|e0 B<|O B<|d5 B<|K B ?_
 obtain ⟨x6,hx6,h⟩:=J h
 refine l1 B (c138 p.Graph.Nodes _ hx6)<|O B<|d5 B<|K B ?_
 obtain ⟨x10,hx10,h⟩:=J h
 refine l1 B (c204 p.Graph.Edges _ hx10)<|f5 B B B (B:_=eGraph (Graph.mk x6 x10))<|O B<|K B ?_
 obtain ⟨x14,hx14,h⟩:=J h
 refine l1 B (c205 p.Slots _ hx14)<|O B<|K B<|O B<|K B ?_
 obtain ⟨x19,hx19,h⟩:=J h
 refine l1 B (c206 p.Tests _ hx19)<|f5 B B B (B:_=ePattern (Pattern.mk (Graph.mk x6 x10) x14 p.Vars x19))<|a6 B B B B B<|F (kb<|kn) fun _=>?_
 exact L (by cases h;rfl)
theorem ck68:CK f68 (Rq [Af 1 0,Bf 2 0 9 1 1 1 3 4 0 5] [1,2]<|Rq [Ba 3 9] [1,2,3]<|Sq (Rq [Ac 7 1 1,Ab 8 7,Ag 9 8,Ae 10 0] [1,2,3,8,9,10]<|Bl 0<|Lo [1,2,3,8,9,10]<|Rq [Am 11 10 9] [1,2,3,8,9,10,11]<|Sq (Co 11 (Sk [1,2,3,8,9,10])<|Ex 0 [1,2,3])<|Sq (Bl 1<|Rq [Ak 12 8 10 9,Ad 13 12 9,Bf 5 0 9 1 1 1 3 4 0 5,Aj 9 5 13] [1,2,3,5,8,9,10]<|Re [Ay 14 3,Ad 15 5 9,Au 16 68 15,Bh 17 9 16,Bq 18 9 14 17,Ay 3 18] [1,2,3,8,9,10])<|Re [An 19 10 1,Aa 10 19] [1,2,3,8,9,10])<|Sq (Rq [Ac 20 1 0,Ab 21 20] [1,2,3,21]<|Bl 2<|Rq [Ar 23 21 2,Aa 22 23] [1,2,3,21,22]<|Co 22 (Sq (Rq [Aa 24 3,By 25 24 0 9,Ai 26 25 0,Ab 27 26,Ar 28 27 2] [2,3,28]<|Co 28 (Rq [Aa 29 3,By 30 29 0 9,Ai 31 30 1,Ab 32 31,By 33 32 0 9,Ad 34 33 9,Aj 9 2 34] [2]<|.ret)<|Sk [2,3])<|Rq [Aa 35 3,Ev 36 0 9 1 1 1 3 4 0 5 0 1 2 1 1 35,Aj 9 2 36] [2]<|.ret)<|Sq (Rq [Ar 38 21 3,Aa 37 38] [1,2,3,21,37]<|Co 37 (Sk [1,2,3,21,37])<|Re [Ar 39 21 4,Aa 37 39] [1,2,3,21,37])<|Co 37 (Rq [Ac 40 1 0,Ab 41 40,Aa 42 3,Ap 43 135 41 42,Aj 9 2 43] [2]<|.ret)<|Rq [Ar 45 21 5,Aa 44 45] [1,2,3,44]<|Co 44 (Sq (Rq [Aa 46 3,By 47 46 0 9,Ad 48 47 9,Au 49 136 48] [1,2,3,49]<|Co 49 (Rq [Br 50 137,Aj 9 2 50] [2]<|.ret)<|Sk [1,2,3])<|Sq (Dr [6,51,52,53,54,55,56,57,58,59] [Ac 51 1 2,Ai 52 51 0,Ab 53 52,Au 54 138 53,Ac 55 1 2,Ai 56 55 1,Ab 57 56,Au 58 138 57,Ck 59 1 1 0 1 54 1 1 58,Cl 6 1 1,Aj 2 6 59] [1,2,3,6])<|Sq (Dr [2,60,61,62,63,64,65] [Aa 60 3,Ad 61 6 2,Ac 62 1 4,Ad 63 62 5,Au 64 139 63,Fi 65 0 9 1 1 1 3 4 0 5 0 1 5 1 1 60 2 2 61 4 5 64,Aj 9 2 65] [2])<|.ret)<|Sk [2])<|Rq [Br 66 140,Aj 9 2 66] [2]<|.ret) [.cell 2 (some 9)]:= by decide +kernel
theorem c68S (n:Nat) (ih_68:∀ (c:Condition) (r:Condition) (_:condition_simplifyF n c=some r),Sound prog 68 [eCondition c] (.sh (eCondition r))):∀ (c:Condition) (r:Condition) (_:condition_simplifyF (n+1) c=some r),Sound prog 68 [eCondition c] (.sh (eCondition r)):= by
 intro c r h
 refine Fn ck68 fun hw=>?_
 unfold condition_simplifyF at h
 refine E<|G<|X B B<|b6 B<|F (kt<|kb<|kn) fun _=>?_
 refine E<|G<|e3<|F (kt<|kb<|ko<|kn) fun _=>?_
 refine E<|E<|G<|O B<|K B<|W B (eLCondition_eq _)<|D B<|F (kt<|kb<|ko<|kt<|kt<|kt<|kn) fun _=>?_
 obtain ⟨s0,hs0,h⟩:=J h
 refine g2 hs0 (fun (i0:Int) (s0:List Condition)=>[(1,.tv (.pt (eCondition c).cells)),(2,.bx [⟨false,eI 0⟩,⟨true,eLCondition []⟩,⟨true,lI []⟩,⟨true,lI []⟩,⟨true,lI []⟩,⟨true,lE []⟩,⟨true,lS []⟩,⟨false,eI 0⟩,⟨true,lT []⟩]),(3,.ow (eLCondition s0)),(8,.tv (eLCondition c.Kids)),(9,.tv (eI (c.Kids.length:Int))),(10,.tv (eI i0))]) (fun (s0:List Condition)=>[(1,.tv (.pt (eCondition c).cells)),(2,.bx [⟨false,eI 0⟩,⟨true,eLCondition []⟩,⟨true,lI []⟩,⟨true,lI []⟩,⟨true,lI []⟩,⟨true,lE []⟩,⟨true,lS []⟩,⟨false,eI 0⟩,⟨true,lT []⟩]),(3,.ow (eLCondition s0))]) B ?_ ?_ ?_
 ·clear h hs0
  intro i0 s0 r0 hi0 h hw0
  refine E<|G<|Y B B<|F (kt<|kb<|ko<|kt<|kt<|kt<|kt<|kn) fun _=>?_
  refine E<|d1 B (d2 hi0)<|T (kt<|kb<|ko<|kt<|kt<|kt<|kn) fun _=>?_
  refine E<|b3<|E<|G ?_
  obtain ⟨x12,hx12,h⟩:=J h
  refine a2 B B (eLCondition_eq _) hx12 B<|M B B (B:_=eCondition x12)<|b6 B<|a6 B B B B B<|F (kt<|kb<|ko<|kb<|kt<|kt<|kt<|kn) fun _=>?_
  refine G<|e9 B<|M B B (B:_=eCondition x12) ?_
  obtain ⟨x16,hx16,h⟩:=J h
  refine V B (ih_68 x12 _ hx16)<|g5 (e:=eCondition) (l:=[x16]) B B (fun _=>rfl) (show eLCondition [x16]=_ from eLCondition_lst _) ?_
  obtain ⟨x18,hx18,h⟩:=J h
  refine f6 B B (eLCondition_eq _) (eLCondition_eq _) hx18 (eLCondition_eq _)<|e9 B<|F (kt<|kb<|ko<|kt<|kt<|kt<|kn) fun _=>?_
  refine G<|a8 B B<|D B<|F (kt<|kb<|ko<|kt<|kt<|kt<|kn) ?_
  cases h
  show Env.keep _ _=_
  rw [Ktv rfl (Kbx rfl (Kow rfl (Ktv rfl (Ktv rfl (Ktv rfl (Knil _))))))]
  rw [b7 (Z (hw0 10)) hi0 (b9 (Z (hw0 9)))]
  all_goals rfl
 ·intro i0 s0 hi0
  refine E<|G<|Y B B<|F (kt<|kb<|ko<|kt<|kt<|kt<|kt<|kn) fun _=>?_
  refine E<|d0 B (d3 hi0)<|b8 (kt<|kb<|ko<|kn) ?_
  exact ⟨rfl,rfl⟩
 ·intro _
  refine E<|E<|G<|O B<|K B<|F (kt<|kb<|ko<|kt<|kn) fun _=>?_
  refine b3<|E<|G<|b2 B B<|D B<|F (kt<|kb<|ko<|kt<|kt<|kn) fun _=>?_
  refine U B (fun hc22=>?_) (fun hc22=>?_)
  ·replace h:=R hc22 h
   refine E<|E<|G<|D B ?_
   obtain ⟨x25,hx25,h⟩:=J h
   refine a2 B B (eLCondition_eq _) hx25 B<|d5 B<|K B<|b2 B B<|F (kb<|ko<|kt<|kn) fun _=>?_
   refine U B (fun hc28=>?_) (fun hc28=>?_)
   ·replace h:=R hc28 h
    refine E<|G<|D B ?_
    obtain ⟨x30,hx30,h⟩:=J h
    refine a2 B B (eLCondition_eq _) hx30 B<|d5 B<|K B ?_
    obtain ⟨x33,hx33,h⟩:=J h
    refine a2 B B (eLCondition_eq _) hx33 B<|M B B (B:_=eCondition x33)<|a6 B B B B B<|F (kb<|kn) fun _=>?_
    exact L (by cases h;rfl)
   ·replace h:=S hc28 h
    refine T (kb<|ko<|kn) fun _=>?_
    refine E<|G<|D B<|e2 B B (show _=eCondition (Condition.mk 2 s0 (Morphism.mk [] []) (Pattern.mk (Graph.mk [] []) [] 0 [])) from B)<|a6 B B B B B<|F (kb<|kn) fun _=>?_
    exact L (by cases h;rfl)
  ·replace h:=S hc22 h
   refine E<|E<|G<|b2 B B<|D B<|F (kt<|kb<|ko<|kt<|kt<|kn) fun _=>?_
   obtain ⟨w1,hw1,h⟩:=J h
   refine g8 (fun ze=>ze=[(1,.tv (.pt (eCondition c).cells)),(2,.bx [⟨false,eI 0⟩,⟨true,eLCondition []⟩,⟨true,lI []⟩,⟨true,lI []⟩,⟨true,lI []⟩,⟨true,lE []⟩,⟨true,lS []⟩,⟨false,eI 0⟩,⟨true,lT []⟩]),(3,.ow (eLCondition s0)),(21,.tv (eI c.Kind)),(37,.tv (eB w1))]) ?_ ?_
   ·replace h:=hw1
    clear hw1
    refine U B (fun hc37=>?_) (fun hc37=>?_)
    ·replace h:=R hc37 h
     refine T (kt<|kb<|ko<|kt<|kt<|kn) ?_
     cases h
     exact rfl
    ·replace h:=S hc37 h
     refine G<|b2 B B<|D B<|F (kt<|kb<|ko<|kt<|kt<|kn) ?_
     cases h
     exact rfl
   rintro _ rfl
   intro _
   refine U B (fun hc37=>?_) (fun hc37=>?_)
   ·replace h:=R hc37 h
    refine E<|G<|O B<|K B<|D B ?_
    obtain ⟨x43,hx43,h⟩:=J h
    refine V B (c135 c.Kind s0 _ hx43)<|a6 B B B B B<|F (kb<|kn) fun _=>?_
    exact L (by cases h;rfl)
   ·replace h:=S hc37 h
    refine E<|G<|b2 B B<|D B<|F (kt<|kb<|ko<|kt<|kn) fun _=>?_
    refine U B (fun hc44=>?_) (fun hc44=>?_)
    ·replace h:=R hc44 h
     refine E<|E<|G<|D B ?_
     obtain ⟨x47,hx47,h⟩:=J h
     refine a2 B B (eLCondition_eq _) hx47 B<|M B B (B:_=eCondition x47) ?_
     obtain ⟨x49,hx49,h⟩:=J h
     refine V B (c136 x47 _ hx49)<|F (kt<|kb<|ko<|kt<|kn) fun _=>?_
     refine U B (fun hc49=>?_) (fun hc49=>?_)
     ·replace h:=R hc49 h
      refine E<|G ?_
      obtain ⟨x50,hx50,h⟩:=J h
      refine V B (c137  _ hx50)<|a6 B B B B B<|F (kb<|kn) fun _=>?_
      exact L (by cases h;rfl)
     ·replace h:=S hc49 h
      refine T (kt<|kb<|ko<|kn) fun _=>?_
      refine E<|e0 B<|O B<|d5 B<|K B ?_
      obtain ⟨x54,hx54,h⟩:=J h
      refine l1 B (c138 c.Map.Nodes _ hx54)<|O B<|d5 B<|K B ?_
      obtain ⟨x58,hx58,h⟩:=J h
      refine l1 B (c138 c.Map.Edges _ hx58)<|f5 B B B (B:_=eMorphism (Morphism.mk x54 x58))<|b6 B<|a6 B B B B B<|F (kt<|kb<|ko<|kb<|kn) fun _=>?_
      refine E<|e0 B<|D B<|M B B (B:_=eMorphism (Morphism.mk x54 x58))<|O B<|M B B (B:_=ePattern c.Pattern) ?_
      obtain ⟨x64,hx64,h⟩:=J h
      refine V B (c139 c.Pattern _ hx64)<|f5 B B B (B:_=eCondition (Condition.mk 5 s0 (Morphism.mk x54 x58) x64))<|a6 B B B B B<|F (kb<|kn) fun _=>?_
      exact L (by cases h;rfl)
    ·replace h:=S hc44 h
     refine T (kb<|kn) fun _=>?_
     refine E<|G ?_
     obtain ⟨x66,hx66,h⟩:=J h
     refine V B (c140  _ hx66)<|a6 B B B B B<|F (kb<|kn) fun _=>?_
     exact L (by cases h;rfl)
theorem c68A:∀ n:Nat,(∀ (c:Condition) (r:Condition) (_:condition_simplifyF n c=some r),Sound prog 68 [eCondition c] (.sh (eCondition r))):=by
  intro n
  induction n with
  | zero=>intro c r h; cases h
  | succ n ih=>exact c68S n ih
theorem c68 (c:Condition) (r:Condition) (h:condition_simplify c=some r):Sound prog 68 [eCondition c] (.sh (eCondition r)):=by
  obtain ⟨N,hN⟩:=lim_some h
  exact (c68A N) c r (hN N (Nat.le_refl _))
theorem ck31:CK f31 (Rq [Af 1 0,Bf 2 0 9 1 1 1 3 4 0 5,Ae 3 0] [1,2]<|Sq (Rq [Ad 5 1 9,Au 6 40 5,Aa 4 6] [1,2,4]<|Rq [Aa 7 4,Ax 8 7 0] [1,2,4,8]<|Co 8 (Rq [Fm 9 0 9 1 1 1 3 4 0 5,Aa 10 4,Aj 9 2 9,Aa 3 10] [2,3]<|.ret)<|Sk [1,2])<|Rq [Ad 11 1 9,Au 12 68 11,Aj 9 2 12,Ae 3 0] [2,3]<|.ret) [.cell 2 (some 9),.tmp 3]:= by decide +kernel
theorem c31 (c:Condition) (r:(Condition × Int)) (h:condition_Simplify c=some r):Sound prog 31 [eCondition c] (.tp [eCondition r.1,eI r.2]):= by
 refine Fn ck31 fun hw=>?_
 unfold condition_Simplify at h
 refine E<|G<|X B B<|b6 B<|D B<|F (kt<|kb<|kn) fun _=>?_
 refine E<|E<|G<|M B B (B:_=eCondition c) ?_
 obtain ⟨x6,hx6,h⟩:=J h
 refine V B (c40 c _ hx6)<|D B<|F (kt<|kb<|kt<|kn) fun _=>?_
 refine E<|G<|D B<|a9 B B<|F (kt<|kb<|kt<|kt<|kn) fun _=>?_
 refine U B (fun hc8=>?_) (fun hc8=>?_)
 ·replace h:=R hc8 h
  refine E<|G<|e2 B B (show _=eCondition (Condition.mk 0 [] (Morphism.mk [] []) (Pattern.mk (Graph.mk [] []) [] 0 [])) from B)<|D B<|a6 B B B B B<|D B<|F (kb<|kt<|kn) fun _=>?_
  refine L ?_
  cases h
  exact ⟨by decide,rfl⟩
 ·replace h:=S hc8 h
  refine T (kt<|kb<|kn) fun _=>?_
  refine E<|G<|M B B (B:_=eCondition c) ?_
  obtain ⟨x12,hx12,h⟩:=J h
  refine V B (c68 c _ hx12)<|a6 B B B B B<|D B<|F (kb<|kt<|kn) fun _=>?_
  refine L ?_
  cases h
  exact ⟨by decide,rfl⟩
theorem ck227:CK f227 (Rq [Af 1 0,Ah 2] [1]<|Rq [Ac 4 1 2,Ai 5 4 0,Ab 6 5,Ag 7 6,Ac 8 1 2,Ai 9 8 1,Ab 10 9,Ag 11 10,Bt 12 7 11,Ac 13 1 4,Ai 14 13 0,Ai 15 14 0,Ab 16 15,Ag 17 16,Bt 18 12 17,Ac 19 1 4,Ai 20 19 0,Ai 21 20 1,Ab 22 21,Ag 23 22,Bt 24 18 23,Ar 25 24 0,Aa 3 25] [1,3]<|Rq [Aa 26 3,Aa 27 26,Av 28 1 4 27,Cc 29 28 2 27,Aw 30 29 27,Cf 31 30 27,Av 32 1 4 27,Cc 33 32 4 27,Aw 34 33 27,Cf 35 34 27,⟨some 36,.bin (.i) .add (.s 31) (.s 35),some (27,true)⟩,Bz 37 36 0 27,Ao 38 27 37,Aa 39 38,Av 40 1 4 39,Cc 41 40 3 39,Aw 42 41 39,Bz 43 42 0 39,Ao 44 39 43,Aa 2 44] [2]<|.ret) [.tmp 2]:= by decide +kernel
theorem c227 (c:Condition) (r:Bool) (h:ref22_unused c=some r):Sound prog 227 [eCondition c] (.sh (eB r)):= by
 refine Fn ck227 fun hw=>?_
 unfold ref22_unused at h
 refine E<|G<|X B B<|D B<|F km1 fun _=>?_
 refine E<|G<|O B<|d5 B<|K B<|W B B<|O B<|d5 B<|K B<|W B B<|a8 B B<|O B<|d5 B<|d5 B<|K B<|W B B<|a8 B B<|O B<|d5 B<|d5 B<|K B<|W B B<|a8 B B<|b2 B B<|D B<|F km2 fun _=>?_
 refine E<|G<|D B<|D B ?_
 refine gA 11 [28,29,30,31,32,33,34,35,36,37] 38 (decide ((w64 ((w64 ((w64 ((c.Map.Nodes.length:Int)+(c.Map.Edges.length:Int)))+(c.Pattern.Graph.Nodes.length:Int)))+(c.Pattern.Graph.Edges.length:Int)))=0)) (decide ((w64 ((c.Pattern.Slots.length:Int)+(c.Pattern.Tests.length:Int)))=0)) (fun hg38=>?_) (fun hg38=>?_) ?_
 ·refine H B hg38<|O B<|H B hg38<|d5 B<|H B hg38<|K B<|H B hg38<|W B B<|H B hg38<|O B<|H B hg38<|d5 B<|H B hg38<|K B<|H B hg38<|W B B<|H B hg38<|a8 B B<|H B hg38<|b2 B B<|a4 B hg38 B ?_
  exact ⟨⟨_,_,_,_,_,_,_,_,_,_,B⟩⟩
 ·refine I B hg38<|I B hg38<|I B hg38<|I B hg38<|I B hg38<|I B hg38<|I B hg38<|I B hg38<|I B hg38<|I B hg38<|a5 B hg38 B ?_
  exact ⟨⟨_,_,_,_,_,_,_,_,_,_,B⟩⟩
 rintro _ ⟨_,_,_,_,_,_,_,_,_,_,rfl⟩
 refine D B ?_
 refine gA 5 [40,41,42,43] 44 ((decide ((w64 ((w64 ((w64 ((c.Map.Nodes.length:Int)+(c.Map.Edges.length:Int)))+(c.Pattern.Graph.Nodes.length:Int)))+(c.Pattern.Graph.Edges.length:Int)))=0))&&(decide ((w64 ((c.Pattern.Slots.length:Int)+(c.Pattern.Tests.length:Int)))=0))) (decide (c.Pattern.Vars=0)) (fun hg44=>?_) (fun hg44=>?_) ?_
 ·refine H B hg44<|O B<|H B hg44<|d5 B<|H B hg44<|K B<|H B hg44<|b2 B B<|a4 B hg44 B ?_
  exact ⟨⟨_,_,_,_,B⟩⟩
 ·refine I B hg44<|I B hg44<|I B hg44<|I B hg44<|a5 B hg44 B ?_
  exact ⟨⟨_,_,_,_,B⟩⟩
 rintro _ ⟨_,_,_,_,rfl⟩
 refine D B<|F km1 fun _=>?_
 exact L (by cases h;rfl)
theorem ck167:CK f167 (Rq [Af 1 0,Ah 2] [1]<|Sq (Rq [Ac 3 1 0,Ab 4 3] [1,4]<|Bl 0<|Rq [Ar 6 4 1,Aa 5 6] [1,4,5]<|Co 5 (Rq [Ac 7 1 1,Ab 8 7,Ag 9 8,Ar 10 9 0,Aa 11 10,Be 12 1 9 11,Ca 13 227 12 11,Ao 14 11 13,Aa 2 14] [2]<|.ret)<|Rq [Ar 16 4 2,Aa 15 16] [1,4,15]<|Co 15 (Rq [Ac 17 1 1,Ab 18 17,Ag 19 18,Ar 20 19 1,Aa 21 20,Be 22 1 9 21,Ca 23 227 22 21,Ao 24 21 23,Aa 2 24] [2]<|.ret)<|Sq (Rq [Ar 26 4 3,Aa 25 26] [1,4,25]<|Co 25 (Sk [1,4,25])<|Re [Ar 27 4 4,Aa 25 27] [1,4,25])<|Co 25 (Rq [Ac 28 1 1,Ab 29 28,Ag 30 29,Bu 31 30 0,Aa 32 31,Be 33 1 9 32,Ca 34 227 33 32,Ao 35 32 34,Aa 2 35] [2]<|.ret)<|Rq [Ar 37 4 5,Aa 36 37] [1,36]<|Co 36 (Rq [Ac 38 1 1,Ab 39 38,Ag 40 39,Ar 41 40 1,Aa 2 41] [2]<|.ret)<|Sk [])<|Rq [Ah 2] [2]<|.ret) [.tmp 2]:= by decide +kernel
theorem c167 (c:Condition) (r:Bool) (h:ref22_right c=some r):Sound prog 167 [eCondition c] (.sh (eB r)):= by
 refine Fn ck167 fun hw=>?_
 unfold ref22_right at h
 refine E<|G<|X B B<|D B<|F km1 fun _=>?_
 refine E<|E<|G<|O B<|K B<|F km2 fun _=>?_
 refine b3<|E<|G<|b2 B B<|D B<|F km3 fun _=>?_
 refine U B (fun hc5=>?_) (fun hc5=>?_)
 ·replace h:=R hc5 h
  refine E<|G<|O B<|K B<|W B (eLCondition_eq _)<|b2 B B<|D B ?_
  obtain ⟨x14,hx14,h⟩:=J h
  refine gX 3 [12,13] 14 x14 (decide ((c.Kids.length:Int)=0)) (fun hg14=>?_) (fun hg14=>?_) ?_
  ·replace h:=R hg14 hx14
   refine H B hg14<|M B B (B:_=eCondition c) ?_
   obtain ⟨x13,hx13,h⟩:=J h
   refine H B hg14<|V B (c227 c _ hx13) ?_
   cases h
   refine a4 B hg14 B ?_
   exact ⟨⟨_,_,B⟩⟩
  ·replace h:=S hg14 hx14
   cases h
   refine I B hg14<|I B hg14<|a5 B hg14 B ?_
   exact ⟨⟨_,_,B⟩⟩
  rintro _ ⟨_,_,rfl⟩
  refine D B<|F km1 fun _=>?_
  exact L (by cases h;rfl)
 ·replace h:=S hc5 h
  refine E<|G<|b2 B B<|D B<|F km3 fun _=>?_
  refine U B (fun hc15=>?_) (fun hc15=>?_)
  ·replace h:=R hc15 h
   refine E<|G<|O B<|K B<|W B (eLCondition_eq _)<|b2 B B<|D B ?_
   obtain ⟨x24,hx24,h⟩:=J h
   refine gX 3 [22,23] 24 x24 (decide ((c.Kids.length:Int)=1)) (fun hg24=>?_) (fun hg24=>?_) ?_
   ·replace h:=R hg24 hx24
    refine H B hg24<|M B B (B:_=eCondition c) ?_
    obtain ⟨x23,hx23,h⟩:=J h
    refine H B hg24<|V B (c227 c _ hx23) ?_
    cases h
    refine a4 B hg24 B ?_
    exact ⟨⟨_,_,B⟩⟩
   ·replace h:=S hg24 hx24
    cases h
    refine I B hg24<|I B hg24<|a5 B hg24 B ?_
    exact ⟨⟨_,_,B⟩⟩
   rintro _ ⟨_,_,rfl⟩
   refine D B<|F km1 fun _=>?_
   exact L (by cases h;rfl)
  ·replace h:=S hc15 h
   refine E<|E<|G<|b2 B B<|D B<|F km3 fun _=>?_
   obtain ⟨w1,hw1,h⟩:=J h
   refine g8 (fun ze=>ze=[(1,.tv (.pt (eCondition c).cells)),(4,.tv (eI c.Kind)),(25,.tv (eB w1))]) ?_ ?_
   ·replace h:=hw1
    clear hw1
    refine U B (fun hc25=>?_) (fun hc25=>?_)
    ·replace h:=R hc25 h
     refine T km3 ?_
     cases h
     exact rfl
    ·replace h:=S hc25 h
     refine G<|b2 B B<|D B<|F km3 ?_
     cases h
     exact rfl
   rintro _ rfl
   intro _
   refine U B (fun hc25=>?_) (fun hc25=>?_)
   ·replace h:=R hc25 h
    refine E<|G<|O B<|K B<|W B (eLCondition_eq _)<|f3 B B<|D B ?_
    obtain ⟨x35,hx35,h⟩:=J h
    refine gX 3 [33,34] 35 x35 (decide (0<(c.Kids.length:Int))) (fun hg35=>?_) (fun hg35=>?_) ?_
    ·replace h:=R hg35 hx35
     refine H B hg35<|M B B (B:_=eCondition c) ?_
     obtain ⟨x34,hx34,h⟩:=J h
     refine H B hg35<|V B (c227 c _ hx34) ?_
     cases h
     refine a4 B hg35 B ?_
     exact ⟨⟨_,_,B⟩⟩
    ·replace h:=S hg35 hx35
     cases h
     refine I B hg35<|I B hg35<|a5 B hg35 B ?_
     exact ⟨⟨_,_,B⟩⟩
    rintro _ ⟨_,_,rfl⟩
    refine D B<|F km1 fun _=>?_
    exact L (by cases h;rfl)
   ·replace h:=S hc25 h
    refine E<|G<|b2 B B<|D B<|F km2 fun _=>?_
    refine U B (fun hc36=>?_) (fun hc36=>?_)
    ·replace h:=R hc36 h
     refine E<|G<|O B<|K B<|W B (eLCondition_eq _)<|b2 B B<|D B<|F km1 fun _=>?_
     exact L (by cases h;rfl)
    ·replace h:=S hc36 h
     refine T kn fun _=>?_
     refine E<|G<|D B<|F km1 fun _=>?_
     exact L (by cases h;rfl)
theorem ck101:CK f101 (Rq [Af 1 0,Ah 2] [1]<|Sq (Rq [Ad 4 1 9,Au 5 167 4,Bb 6 5] [1,6]<|Co 6 (Rq [Ah 2] [2]<|.ret)<|Sk [1])<|Sq (Rq [Ae 3 0] [1,3]<|Bl 0<|Lo [1,3]<|Sq (Rq [Aa 7 3,Ac 8 1 1,Ab 9 8,Ag 10 9,Am 11 7 10] [1,3,11]<|Co 11 (Sk [1,3])<|Ex 0 [])<|Sq (Bl 1<|Rq [Ac 14 1 1,Ab 15 14,Aa 16 3,Ak 17 15 16 9,Ad 18 17 9,Au 19 101 18,Bb 20 19] [1,3,20]<|Co 20 (Rq [Ah 2] [2]<|.ret)<|Sk [1,3])<|Re [Aa 12 3,An 13 12 1,Aa 3 13] [1,3])<|Rq [Bp 2] [2]<|.ret) [.tmp 2]:= by decide +kernel
theorem c101S (n:Nat) (ih_101:∀ (c:Condition) (r:Bool) (_:ref22_allRightF n c=some r),Sound prog 101 [eCondition c] (.sh (eB r))):∀ (c:Condition) (r:Bool) (_:ref22_allRightF (n+1) c=some r),Sound prog 101 [eCondition c] (.sh (eB r)):= by
 intro c r h
 refine Fn ck101 fun hw=>?_
 unfold ref22_allRightF at h
 refine E<|G<|X B B<|D B<|F km1 fun _=>?_
 refine E<|E<|G<|M B B (B:_=eCondition c) ?_
 obtain ⟨x5,hx5,h⟩:=J h
 refine V B (c167 c _ hx5)<|d4 B<|F km2 fun _=>?_
 refine U B (fun hc6=>?_) (fun hc6=>?_)
 ·replace h:=R hc6 h
  refine E<|G<|D B<|F km1 fun _=>?_
  exact L (by cases h;rfl)
 ·replace h:=S hc6 h
  refine T km1 fun _=>?_
  refine E<|E<|G<|D B<|F km2 fun _=>?_
  obtain ⟨o0,ho0,h⟩:=d6 h
  refine d9 ho0 (fun (i0:Int) (_:Unit)=>[(1,.tv (.pt (eCondition c).cells)),(3,.tv (eI i0))]) (fun (_:Unit)=>[]) (fun zv ze=>resIs ([.tmp 2]) (.sh (eB zv)) ze) B ?_ ?_ ?_ ?_
  ·clear h ho0
   intro i0 s0 r0 hi0 h hw0
   refine E<|E<|G<|D B<|O B<|K B<|W B (eLCondition_eq _)<|Y B B<|F km3 fun _=>?_
   refine d1 B (d2 hi0)<|T km2 fun _=>?_
   refine E<|b3<|E<|G<|O B<|K B<|D B ?_
   obtain ⟨x17,hx17,h⟩:=J h
   refine a2 B B (eLCondition_eq _) hx17 B<|M B B (B:_=eCondition x17) ?_
   obtain ⟨x19,hx19,h⟩:=J h
   refine V B (ih_101 x17 _ hx19)<|d4 B<|F km3 fun _=>?_
   refine U B (fun hc20=>?_) (fun hc20=>?_)
   ·replace h:=R hc20 h
    refine E<|G<|D B<|F km1 fun _=>?_
    refine L ?_
    cases h
    exact ⟨_,rfl,rfl⟩
   ·replace h:=S hc20 h
    refine T km2 fun _=>?_
    refine G<|D B<|a8 B B<|D B<|F km2 ?_
    cases h
    refine ⟨_,B,?_⟩
    rw [Ktv rfl (Ktv rfl (Knil _))]
    rw [b7 (Z (hw0 3)) hi0 (g4 (l8 (l9 (hw0 1)) (i:=1) rfl) (eLCondition_eq _))]
    all_goals rfl
  ·intro i0 s0 hi0
   refine E<|E<|G<|D B<|O B<|K B<|W B (eLCondition_eq _)<|Y B B<|F km3 fun _=>?_
   refine d0 B (d3 hi0)<|b8 kn ?_
   exact ⟨rfl,rfl⟩
  ·intro s0 hs
   replace h:=d7 h hs
   intro _
   refine E<|G<|D B<|F km1 fun _=>?_
   exact L (by cases h;rfl)
  ·intro v0 ze hv hR
   replace h:=d8 h hv
   cases h
   exact hR
theorem c101A:∀ n:Nat,(∀ (c:Condition) (r:Bool) (_:ref22_allRightF n c=some r),Sound prog 101 [eCondition c] (.sh (eB r))):=by
  intro n
  induction n with
  | zero=>intro c r h; cases h
  | succ n ih=>exact c101S n ih
theorem c101 (c:Condition) (r:Bool) (h:ref22_allRight c=some r):Sound prog 101 [eCondition c] (.sh (eB r)):=by
  obtain ⟨N,hN⟩:=lim_some h
  exact (c101A N) c r (hN N (Nat.le_refl _))
theorem ck102:CK f102 (Rq [Af 1 0,Ae 2 0,Ae 3 0] [1]<|Rq [Ae 4 1,Ae 5 0] [1,4,5]<|Sq (Rq [Ae 6 0] [1,4,5,6]<|Bl 0<|Lo [1,4,5,6]<|Sq (Rq [Aa 9 6,Ac 10 1 1,Ab 11 10,Ag 12 11,Am 13 9 12] [1,4,5,6,13]<|Co 13 (Sk [1,4,5,6])<|Ex 0 [1,4,5])<|Sq (Bl 1<|Rq [Ac 17 1 1,Ab 18 17,Aa 19 6,Ak 20 18 19 9,Ad 21 20 9,Au 22 102 21,Aa 16 22,Al 23 16 0,Al 24 16 1,Aa 7 23,Aa 8 24] [1,4,5,6,7,8]<|Re [Aa 25 4,Aa 26 7,Bt 27 25 26,Aa 28 5,Aa 29 8,En 30 28 29,Aa 4 27,Aa 5 30] [1,4,5,6])<|Re [Aa 14 6,An 15 14 1,Aa 6 15] [1,4,5,6])<|Sq (Rq [Ac 31 1 0,Ab 32 31,Ar 33 32 5] [4,5,33]<|Co 33 (Re [Aa 34 5,An 35 34 1,Aa 5 35] [4,5])<|Sk [4,5])<|Rq [Aa 36 4,Aa 37 5,Aa 2 36,Aa 3 37] [2,3]<|.ret) [.tmp 2,.tmp 3]:= by decide +kernel
theorem c102S (n:Nat) (ih_102:∀ (c:Condition) (r:(Int × Int)) (_:ref22_MeasureF n c=some r),Sound prog 102 [eCondition c] (.tp [eI r.1,eI r.2])):∀ (c:Condition) (r:(Int × Int)) (_:ref22_MeasureF (n+1) c=some r),Sound prog 102 [eCondition c] (.tp [eI r.1,eI r.2]):= by
 intro c r h
 refine Fn ck102 fun hw=>?_
 unfold ref22_MeasureF at h
 refine E<|G<|X B B<|D B<|D B<|F km1 fun _=>?_
 refine E<|G<|D B<|D B<|F km3 fun _=>?_
 refine E<|E<|G<|D B<|F km4 fun _=>?_
 obtain ⟨s0,hs0,h⟩:=J h
 refine g2 hs0 (fun (i0:Int) (s0:Int × Int)=>[(1,.tv (.pt (eCondition c).cells)),(4,.tv (eI s0.1)),(5,.tv (eI s0.2)),(6,.tv (eI i0))]) (fun (s0:Int × Int)=>[(1,.tv (.pt (eCondition c).cells)),(4,.tv (eI s0.1)),(5,.tv (eI s0.2))]) B ?_ ?_ ?_
 ·clear h hs0
  intro i0 s0 r0 hi0 h hw0
  refine E<|E<|G<|D B<|O B<|K B<|W B (eLCondition_eq _)<|Y B B<|F km5 fun _=>?_
  refine d1 B (d2 hi0)<|T km4 fun _=>?_
  refine E<|b3<|E<|G<|O B<|K B<|D B ?_
  obtain ⟨x20,hx20,h⟩:=J h
  refine a2 B B (eLCondition_eq _) hx20 B<|M B B (B:_=eCondition x20) ?_
  obtain ⟨x22,hx22,h⟩:=J h
  refine e8 B (ih_102 x20 _ hx22)<|e5 B<|b4 B B<|b4 B B<|D B<|D B<|F km6 fun _=>?_
  refine G<|D B<|D B<|a8 B B<|D B<|D B<|p3 B B<|D B<|D B<|F km4 fun _=>?_
  refine G<|D B<|a8 B B<|D B<|F km4 ?_
  cases h
  show Env.keep _ _=_
  rw [Ktv rfl (Ktv rfl (Ktv rfl (Ktv rfl (Knil _))))]
  rw [b7 (Z (hw0 6)) hi0 (g4 (l8 (l9 (hw0 1)) (i:=1) rfl) (eLCondition_eq _))]
  all_goals rfl
 ·intro i0 s0 hi0
  refine E<|E<|G<|D B<|O B<|K B<|W B (eLCondition_eq _)<|Y B B<|F km5 fun _=>?_
  refine d0 B (d3 hi0)<|b8 km3 ?_
  exact ⟨rfl,rfl⟩
 ·intro _
  refine E<|E<|G<|O B<|K B<|b2 B B<|F km3 fun _=>?_
  obtain ⟨w1,hw1,h⟩:=J h
  refine g8 (fun ze=>ze=[(4,.tv (eI s0.1)),(5,.tv (eI w1))]) ?_ ?_
  ·replace h:=hw1
   clear hw1
   refine U B (fun hc33=>?_) (fun hc33=>?_)
   ·replace h:=R hc33 h
    refine G<|D B<|a8 B B<|D B<|F km2 ?_
    cases h
    exact rfl
   ·replace h:=S hc33 h
    refine T km2 ?_
    cases h
    exact rfl
  rintro _ rfl
  intro _
  refine E<|G<|D B<|D B<|D B<|D B<|F km2 fun _=>?_
  refine L ?_
  cases h
  exact ⟨by decide,rfl⟩
theorem c102A:∀ n:Nat,(∀ (c:Condition) (r:(Int × Int)) (_:ref22_MeasureF n c=some r),Sound prog 102 [eCondition c] (.tp [eI r.1,eI r.2])):=by
  intro n
  induction n with
  | zero=>intro c r h; cases h
  | succ n ih=>exact c102S n ih
theorem c102 (c:Condition) (r:(Int × Int)) (h:ref22_Measure c=some r):Sound prog 102 [eCondition c] (.tp [eI r.1,eI r.2]):=by
  obtain ⟨N,hN⟩:=lim_some h
  exact (c102A N) c r (hN N (Nat.le_refl _))
theorem ck43:CK f43 (Rq [Af 1 0,Ae 2 0] [1]<|Sq (Rq [Ad 5 1 9,Au 6 101 5,Bb 7 6] [1,7]<|Co 7 (Rq [Ae 2 1] [2]<|.ret)<|Sk [1])<|Sq (Rq [Ad 9 1 9,Au 10 102 9,Aa 8 10,Al 11 8 0,Al 12 8 1,Aa 3 11,Aa 4 12] [3,4]<|Rq [Aa 13 3,Bu 14 13 12,Aa 15 14,Bc 16 4 15,Cw 17 16 3 15,At 18 15 17] [18]<|Co 18 (Rq [Ae 2 3] [2]<|.ret)<|Sk [])<|Rq [Ae 2 0] [2]<|.ret) [.tmp 2]:= by decide +kernel
theorem c43 (c:Condition) (r:Int) (h:ref22_Shape c=some r):Sound prog 43 [eCondition c] (.sh (eI r)):= by
 refine Fn ck43 fun hw=>?_
 unfold ref22_Shape at h
 refine E<|G<|X B B<|D B<|F km1 fun _=>?_
 refine E<|E<|G<|M B B (B:_=eCondition c) ?_
 obtain ⟨x6,hx6,h⟩:=J h
 refine V B (c101 c _ hx6)<|d4 B<|F km2 fun _=>?_
 refine U B (fun hc7=>?_) (fun hc7=>?_)
 ·replace h:=R hc7 h
  refine E<|G<|D B<|F km1 fun _=>?_
  exact L (by cases h;rfl)
 ·replace h:=S hc7 h
  refine T km1 fun _=>?_
  refine E<|E<|G<|M B B (B:_=eCondition c) ?_
  obtain ⟨x10,hx10,h⟩:=J h
  refine e8 B (c102 c _ hx10)<|e5 B<|b4 B B<|b4 B B<|D B<|D B<|F km2 fun _=>?_
  refine E<|G<|D B<|f3 B B<|D B ?_
  refine gO 3 [16,17] 18 (decide (12<x10.1)) (decide (3<x10.2)) (fun hg18=>?_) (fun hg18=>?_) ?_
  ·refine I B hg18<|I B hg18<|a4 B hg18 B ?_
   exact ⟨⟨_,_,B⟩⟩
  ·refine H B hg18<|D B<|H B hg18<|f3 B B<|a5 B hg18 B ?_
   exact ⟨⟨_,_,B⟩⟩
  rintro _ ⟨_,_,rfl⟩
  refine F km1 fun _=>?_
  refine U B (fun hc18=>?_) (fun hc18=>?_)
  ·replace h:=R hc18 h
   refine E<|G<|D B<|F km1 fun _=>?_
   exact L (by cases h;rfl)
  ·replace h:=S hc18 h
   refine T kn fun _=>?_
   refine E<|G<|D B<|F km1 fun _=>?_
   exact L (by cases h;rfl)
theorem ck143:CK f143 (Rq [Ah 4] [0,1]<|Sq (Rq [Aa 6 0,Ag 7 6,Aa 8 1,Ag 9 8,Bd 10 7 9] [0,1,10]<|Co 10 (Rq [Ah 4] [4]<|.ret)<|Sk [0,1])<|Sq (Rq [Ae 5 0] [0,1,5]<|Bl 0<|Lo [0,1,5]<|Sq (Rq [Aa 11 5,Aa 12 0,Ag 13 12,Am 14 11 13] [0,1,5,14]<|Co 14 (Sk [0,1,5])<|Ex 0 [])<|Sq (Bl 1<|Sq (Dr [17,18,19,20,21,22,23,24,25] [Aa 17 0,Aa 18 5,Ak 19 17 18 1,Ab 20 19,Aa 21 1,Aa 22 5,Ak 23 21 22 1,Ab 24 23,Bd 25 20 24] [0,1,5,25])<|Co 25 (Rq [Ah 4] [4]<|.ret)<|Sk [0,1,5])<|Re [Aa 15 5,An 16 15 1,Aa 5 16] [0,1,5])<|Rq [Bp 4] [4]<|.ret) [.tmp 4]:= by decide +kernel
theorem c143 (a:List Int) (b:List Int) (r:Bool) (h:ref02_SameInts a b=some r):Sound prog 143 [lI a,lI b] (.sh (eB r)):= by
 refine Fn ck143 fun hw=>?_
 unfold ref02_SameInts at h
 refine E<|G<|D B<|F km2 fun _=>?_
 refine E<|E<|G<|D B<|W B B<|D B<|W B B<|a9 B B<|F km3 fun _=>?_
 refine U B (fun hc10=>?_) (fun hc10=>?_)
 ·replace h:=R hc10 h
  refine E<|G<|D B<|F km1 fun _=>?_
  exact L (by cases h;rfl)
 ·replace h:=S hc10 h
  refine T km2 fun _=>?_
  refine E<|E<|G<|D B<|F km3 fun _=>?_
  obtain ⟨o0,ho0,h⟩:=d6 h
  refine d9 ho0 (fun (i0:Int) (_:Unit)=>[(0,.tv (lI a)),(1,.tv (lI b)),(5,.tv (eI i0))]) (fun (_:Unit)=>[]) (fun zv ze=>resIs ([.tmp 4]) (.sh (eB zv)) ze) B ?_ ?_ ?_ ?_
  ·clear h ho0
   intro i0 s0 r0 hi0 h hw0
   refine E<|E<|G<|D B<|D B<|W B B<|Y B B<|F km4 fun _=>?_
   refine d1 B (d2 hi0)<|T km3 fun _=>?_
   refine E<|b3<|E<|e0 B<|D B<|D B ?_
   obtain ⟨x19,hx19,h⟩:=J h
   refine a2 B B B hx19 B<|K B<|D B<|D B ?_
   obtain ⟨x23,hx23,h⟩:=J h
   refine a2 B B B hx23 B<|K B<|a9 B B<|F km4 fun _=>?_
   refine U B (fun hc25=>?_) (fun hc25=>?_)
   ·replace h:=R hc25 h
    refine E<|G<|D B<|F km1 fun _=>?_
    refine L ?_
    cases h
    exact ⟨_,rfl,rfl⟩
   ·replace h:=S hc25 h
    refine T km3 fun _=>?_
    refine G<|D B<|a8 B B<|D B<|F km3 ?_
    cases h
    refine ⟨_,B,?_⟩
    rw [Ktv rfl (Ktv rfl (Ktv rfl (Knil _)))]
    rw [b7 (Z (hw0 5)) hi0 (g4 (Z (hw0 0)) rfl)]
    all_goals rfl
  ·intro i0 s0 hi0
   refine E<|E<|G<|D B<|D B<|W B B<|Y B B<|F km4 fun _=>?_
   refine d0 B (d3 hi0)<|b8 kn ?_
   exact ⟨rfl,rfl⟩
  ·intro s0 hs
   replace h:=d7 h hs
   intro _
   refine E<|G<|D B<|F km1 fun _=>?_
   exact L (by cases h;rfl)
  ·intro v0 ze hv hR
   replace h:=d8 h hv
   cases h
   exact hR
theorem ck70:CK f70 (Rq [Af 2 0,Af 3 1,Ah 4] [2,3]<|Rq [Ac 5 2 0,Ab 6 5,Ac 7 3 0,Ab 8 7,Ap 9 143 6 8,Aa 10 9,Av 11 2 1 10,Aw 12 11 10,Av 13 3 1 10,Aw 14 13 10,Cd 15 143 12 14 10,Ao 16 10 15,Aa 4 16] [4]<|.ret) [.tmp 4]:= by decide +kernel
theorem c70 (a:Morphism) (b:Morphism) (r:Bool) (h:ref06_Same a b=some r):Sound prog 70 [eMorphism a,eMorphism b] (.sh (eB r)):= by
 refine Fn ck70 fun hw=>?_
 unfold ref06_Same at h
 refine E<|G<|X B B<|X B B<|D B<|F km2 fun _=>?_
 refine E<|G<|O B<|K B<|O B<|K B ?_
 obtain ⟨x9,hx9,h⟩:=J h
 refine V B (c143 a.Nodes b.Nodes _ hx9)<|D B ?_
 obtain ⟨x16,hx16,h⟩:=J h
 refine gX 6 [11,12,13,14,15] 16 x16 x9 (fun hg16=>?_) (fun hg16=>?_) ?_
 ·replace h:=R hg16 hx16
  refine H B hg16<|O B<|H B hg16<|K B<|H B hg16<|O B<|H B hg16<|K B ?_
  obtain ⟨x15,hx15,h⟩:=J h
  refine H B hg16<|V B (c143 a.Edges b.Edges _ hx15) ?_
  cases h
  refine a4 B hg16 B ?_
  exact ⟨⟨_,_,_,_,_,B⟩⟩
 ·replace h:=S hg16 hx16
  cases h
  refine I B hg16<|I B hg16<|I B hg16<|I B hg16<|I B hg16<|a5 B hg16 B ?_
  exact ⟨⟨_,_,_,_,_,B⟩⟩
 rintro _ ⟨_,_,_,_,_,rfl⟩
 refine D B<|F km1 fun _=>?_
 exact L (by cases h;rfl)
theorem ck113:CK f113 (Rq [Ah 4] [0,1]<|Sq (Rq [Aa 6 0,Ag 7 6,Aa 8 1,Ag 9 8,Bd 10 7 9] [0,1,10]<|Co 10 (Rq [Ah 4] [4]<|.ret)<|Sk [0,1])<|Sq (Rq [Ae 5 0] [0,1,5]<|Bl 0<|Lo [0,1,5]<|Sq (Rq [Aa 11 5,Aa 12 0,Ag 13 12,Am 14 11 13] [0,1,5,14]<|Co 14 (Sk [0,1,5])<|Ex 0 [])<|Sq (Bl 1<|Sq (Dr [17,18,19,20,21,22,23,24,25] [Aa 17 0,Aa 18 5,Ak 19 17 18 1,Ab 20 19,Aa 21 1,Aa 22 5,Ak 23 21 22 1,Ab 24 23,Bd 25 20 24] [0,1,5,25])<|Co 25 (Rq [Ah 4] [4]<|.ret)<|Sk [0,1,5])<|Re [Aa 15 5,An 16 15 1,Aa 5 16] [0,1,5])<|Rq [Bp 4] [4]<|.ret) [.tmp 4]:= by decide +kernel
theorem c113 (a:List Int) (b:List Int) (r:Bool) (h:ref05_SameInts a b=some r):Sound prog 113 [lI a,lI b] (.sh (eB r)):= by
 refine Fn ck113 fun hw=>?_
 unfold ref05_SameInts at h
 refine E<|G<|D B<|F km2 fun _=>?_
 refine E<|E<|G<|D B<|W B B<|D B<|W B B<|a9 B B<|F km3 fun _=>?_
 refine U B (fun hc10=>?_) (fun hc10=>?_)
 ·replace h:=R hc10 h
  refine E<|G<|D B<|F km1 fun _=>?_
  exact L (by cases h;rfl)
 ·replace h:=S hc10 h
  refine T km2 fun _=>?_
  refine E<|E<|G<|D B<|F km3 fun _=>?_
  obtain ⟨o0,ho0,h⟩:=d6 h
  refine d9 ho0 (fun (i0:Int) (_:Unit)=>[(0,.tv (lI a)),(1,.tv (lI b)),(5,.tv (eI i0))]) (fun (_:Unit)=>[]) (fun zv ze=>resIs ([.tmp 4]) (.sh (eB zv)) ze) B ?_ ?_ ?_ ?_
  ·clear h ho0
   intro i0 s0 r0 hi0 h hw0
   refine E<|E<|G<|D B<|D B<|W B B<|Y B B<|F km4 fun _=>?_
   refine d1 B (d2 hi0)<|T km3 fun _=>?_
   refine E<|b3<|E<|e0 B<|D B<|D B ?_
   obtain ⟨x19,hx19,h⟩:=J h
   refine a2 B B B hx19 B<|K B<|D B<|D B ?_
   obtain ⟨x23,hx23,h⟩:=J h
   refine a2 B B B hx23 B<|K B<|a9 B B<|F km4 fun _=>?_
   refine U B (fun hc25=>?_) (fun hc25=>?_)
   ·replace h:=R hc25 h
    refine E<|G<|D B<|F km1 fun _=>?_
    refine L ?_
    cases h
    exact ⟨_,rfl,rfl⟩
   ·replace h:=S hc25 h
    refine T km3 fun _=>?_
    refine G<|D B<|a8 B B<|D B<|F km3 ?_
    cases h
    refine ⟨_,B,?_⟩
    rw [Ktv rfl (Ktv rfl (Ktv rfl (Knil _)))]
    rw [b7 (Z (hw0 5)) hi0 (g4 (Z (hw0 0)) rfl)]
    all_goals rfl
  ·intro i0 s0 hi0
   refine E<|E<|G<|D B<|D B<|W B B<|Y B B<|F km4 fun _=>?_
   refine d0 B (d3 hi0)<|b8 kn ?_
   exact ⟨rfl,rfl⟩
  ·intro s0 hs
   replace h:=d7 h hs
   intro _
   refine E<|G<|D B<|F km1 fun _=>?_
   exact L (by cases h;rfl)
  ·intro v0 ze hv hR
   replace h:=d8 h hv
   cases h
   exact hR
theorem ck144:CK f144 (Rq [Af 2 0,Af 3 1,Ah 4] [2,3]<|Sq (Rq [Ac 6 2 0,Ab 7 6,Ac 8 3 0,Ab 9 8,Ap 10 113 7 9,Bb 11 10,Aa 12 11,Aq 13 2 1 12,As 14 13 12,Bj 15 14 12,Aq 16 3 1 12,As 17 16 12,Bj 18 17 12,Cb 19 15 18 12,At 20 12 19] [2,3,20]<|Co 20 (Rq [Ah 4] [4]<|.ret)<|Sk [2,3])<|Sq (Rq [Ae 5 0] [2,3,5]<|Bl 0<|Lo [2,3,5]<|Sq (Rq [Aa 21 5,Ac 22 2 1,Ab 23 22,Ag 24 23,Am 25 21 24] [2,3,5,25]<|Co 25 (Sk [2,3,5])<|Ex 0 [])<|Sq (Bl 1<|Sq (Dr [28,29,30,31,32,33,34,35,36,37,38] [Ac 28 2 1,Ab 29 28,Aa 30 5,Ak 31 29 30 3,Ad 32 31 3,Ac 33 3 1,Ab 34 33,Aa 35 5,Ak 36 34 35 3,Ad 37 36 3,⟨some 38,.bin (.a [0,0,0]) .neq (.s 32) (.s 37),none⟩] [2,3,5,38])<|Co 38 (Rq [Ah 4] [4]<|.ret)<|Sk [2,3,5])<|Re [Aa 26 5,An 27 26 1,Aa 5 27] [2,3,5])<|Rq [Bp 4] [4]<|.ret) [.tmp 4]:= by decide +kernel
theorem c144 (a:Graph) (b:Graph) (r:Bool) (h:ref05_Same a b=some r):Sound prog 144 [eGraph a,eGraph b] (.sh (eB r)):= by
 refine Fn ck144 fun hw=>?_
 unfold ref05_Same at h
 refine E<|G<|X B B<|X B B<|D B<|F km2 fun _=>?_
 refine E<|E<|G<|O B<|K B<|O B<|K B ?_
 obtain ⟨x10,hx10,h⟩:=J h
 refine V B (c113 a.Nodes b.Nodes _ hx10)<|d4 B<|D B ?_
 refine gO 8 [13,14,15,16,17,18,19] 20 (!x10) (!decide ((a.Edges.length:Int)=(b.Edges.length:Int))) (fun hg20=>?_) (fun hg20=>?_) ?_
 ·refine I B hg20<|I B hg20<|I B hg20<|I B hg20<|I B hg20<|I B hg20<|I B hg20<|a4 B hg20 B ?_
  exact ⟨⟨_,_,_,_,_,_,_,B⟩⟩
 ·refine H B hg20<|O B<|H B hg20<|K B<|H B hg20<|W B B<|H B hg20<|O B<|H B hg20<|K B<|H B hg20<|W B B<|H B hg20<|a9 B B<|a5 B hg20 B ?_
  exact ⟨⟨_,_,_,_,_,_,_,B⟩⟩
 rintro _ ⟨_,_,_,_,_,_,_,rfl⟩
 refine F km3 fun _=>?_
 refine U B (fun hc20=>?_) (fun hc20=>?_)
 ·replace h:=R hc20 h
  refine E<|G<|D B<|F km1 fun _=>?_
  exact L (by cases h;rfl)
 ·replace h:=S hc20 h
  refine T km2 fun _=>?_
  refine E<|E<|G<|D B<|F km3 fun _=>?_
  obtain ⟨o0,ho0,h⟩:=d6 h
  refine d9 ho0 (fun (i0:Int) (_:Unit)=>[(2,.tv (.pt (eGraph a).cells)),(3,.tv (.pt (eGraph b).cells)),(5,.tv (eI i0))]) (fun (_:Unit)=>[]) (fun zv ze=>resIs ([.tmp 4]) (.sh (eB zv)) ze) B ?_ ?_ ?_ ?_
  ·clear h ho0
   intro i0 s0 r0 hi0 h hw0
   refine E<|E<|G<|D B<|O B<|K B<|W B B<|Y B B<|F km4 fun _=>?_
   refine d1 B (d2 hi0)<|T km3 fun _=>?_
   refine E<|b3<|E<|e0 B<|O B<|K B<|D B ?_
   obtain ⟨x31,hx31,h⟩:=J h
   refine a2 B B B hx31 B<|M B B (B:_=eEdge x31)<|O B<|K B<|D B ?_
   obtain ⟨x36,hx36,h⟩:=J h
   refine a2 B B B hx36 B<|M B B (B:_=eEdge x36)<|l7 B B B (eqi_Edge _ _)<|F km4 fun _=>?_
   refine U B (fun hc38=>?_) (fun hc38=>?_)
   ·replace h:=R hc38 h
    refine E<|G<|D B<|F km1 fun _=>?_
    refine L ?_
    cases h
    exact ⟨_,rfl,rfl⟩
   ·replace h:=S hc38 h
    refine T km3 fun _=>?_
    refine G<|D B<|a8 B B<|D B<|F km3 ?_
    cases h
    refine ⟨_,B,?_⟩
    rw [Ktv rfl (Ktv rfl (Ktv rfl (Knil _)))]
    rw [b7 (Z (hw0 5)) hi0 (g4 (l8 (l9 (hw0 2)) (i:=1) rfl) rfl)]
    all_goals rfl
  ·intro i0 s0 hi0
   refine E<|E<|G<|D B<|O B<|K B<|W B B<|Y B B<|F km4 fun _=>?_
   refine d0 B (d3 hi0)<|b8 kn ?_
   exact ⟨rfl,rfl⟩
  ·intro s0 hs
   replace h:=d7 h hs
   intro _
   refine E<|G<|D B<|F km1 fun _=>?_
   exact L (by cases h;rfl)
  ·intro v0 ze hv hR
   replace h:=d8 h hv
   cases h
   exact hR
theorem ck71:CK f71 (Rq [Af 2 0,Af 3 1,Ah 4] [2,3]<|Sq (Rq [Ac 7 2 0,Ad 8 7 2,Ac 9 3 0,Ad 10 9 2,Ap 11 144 8 10,Bb 12 11,Aa 13 12,Aq 14 2 3 13,As 15 14 13,Aq 16 3 3 13,As 17 16 13,Cb 18 15 17 13,At 19 13 18,Aa 20 19,Aq 21 2 2 20,As 22 21 20,Bj 23 22 20,Aq 24 3 2 20,As 25 24 20,Bj 26 25 20,Cb 27 23 26 20,At 28 20 27,Aa 29 28,Aq 30 2 4 29,As 31 30 29,Bj 32 31 29,Aq 33 3 4 29,As 34 33 29,Bj 35 34 29,Cb 36 32 35 29,At 37 29 36] [2,3,37]<|Co 37 (Rq [Ah 4] [4]<|.ret)<|Sk [2,3])<|Sq (Rq [Ae 5 0] [2,3,5]<|Bl 0<|Lo [2,3,5]<|Sq (Rq [Aa 38 5,Ac 39 2 2,Ab 40 39,Ag 41 40,Am 42 38 41] [2,3,5,42]<|Co 42 (Sk [2,3,5])<|Ex 0 [2,3])<|Sq (Bl 1<|Sq (Dr [45,46,47,48,49,50,51,52,53,54,55] [Ac 45 2 2,Ab 46 45,Aa 47 5,Ak 48 46 47 4,Ad 49 48 4,Ac 50 3 2,Ab 51 50,Aa 52 5,Ak 53 51 52 4,Ad 54 53 4,⟨some 55,.bin (.a [0,0,0,0]) .neq (.s 49) (.s 54),none⟩] [2,3,5,55])<|Co 55 (Rq [Ah 4] [4]<|.ret)<|Sk [2,3,5])<|Re [Aa 43 5,An 44 43 1,Aa 5 44] [2,3,5])<|Sq (Rq [Ae 6 0] [2,3,6]<|Bl 2<|Lo [2,3,6]<|Sq (Rq [Aa 56 6,Ac 57 2 4,Ab 58 57,Ag 59 58,Am 60 56 59] [2,3,6,60]<|Co 60 (Sk [2,3,6])<|Ex 2 [])<|Sq (Bl 3<|Sq (Dr [63,64,65,66,67,68,69,70,71,72,73] [Ac 63 2 4,Ab 64 63,Aa 65 6,Ak 66 64 65 5,Ad 67 66 5,Ac 68 3 4,Ab 69 68,Aa 70 6,Ak 71 69 70 5,Ad 72 71 5,Fk 73 0 0 0 0 0 67 72] [2,3,6,73])<|Co 73 (Rq [Ah 4] [4]<|.ret)<|Sk [2,3,6])<|Re [Aa 61 6,An 62 61 1,Aa 6 62] [2,3,6])<|Rq [Bp 4] [4]<|.ret) [.tmp 4]:= by decide +kernel
theorem c71 (a:Pattern) (b:Pattern) (r:Bool) (h:ref21_Same a b=some r):Sound prog 71 [ePattern a,ePattern b] (.sh (eB r)):= by
 refine Fn ck71 fun hw=>?_
 unfold ref21_Same at h
 refine E<|G<|X B B<|X B B<|D B<|F km2 fun _=>?_
 refine E<|E<|G<|O B<|M B B (B:_=eGraph a.Graph)<|O B<|M B B (B:_=eGraph b.Graph) ?_
 obtain ⟨x11,hx11,h⟩:=J h
 refine V B (c144 a.Graph b.Graph _ hx11)<|d4 B<|D B ?_
 refine gO 6 [14,15,16,17,18] 19 (!x11) (!decide (a.Vars=b.Vars)) (fun hg19=>?_) (fun hg19=>?_) ?_
 ·refine I B hg19<|I B hg19<|I B hg19<|I B hg19<|I B hg19<|a4 B hg19 B ?_
  exact ⟨⟨_,_,_,_,_,B⟩⟩
 ·refine H B hg19<|O B<|H B hg19<|K B<|H B hg19<|O B<|H B hg19<|K B<|H B hg19<|a9 B B<|a5 B hg19 B ?_
  exact ⟨⟨_,_,_,_,_,B⟩⟩
 rintro _ ⟨_,_,_,_,_,rfl⟩
 refine D B ?_
 refine gO 8 [21,22,23,24,25,26,27] 28 ((!x11)||(!decide (a.Vars=b.Vars))) (!decide ((a.Slots.length:Int)=(b.Slots.length:Int))) (fun hg28=>?_) (fun hg28=>?_) ?_
 ·refine I B hg28<|I B hg28<|I B hg28<|I B hg28<|I B hg28<|I B hg28<|I B hg28<|a4 B hg28 B ?_
  exact ⟨⟨_,_,_,_,_,_,_,B⟩⟩
 ·refine H B hg28<|O B<|H B hg28<|K B<|H B hg28<|W B B<|H B hg28<|O B<|H B hg28<|K B<|H B hg28<|W B B<|H B hg28<|a9 B B<|a5 B hg28 B ?_
  exact ⟨⟨_,_,_,_,_,_,_,B⟩⟩
 rintro _ ⟨_,_,_,_,_,_,_,rfl⟩
 refine D B ?_
 refine gO 8 [30,31,32,33,34,35,36] 37 (((!x11)||(!decide (a.Vars=b.Vars)))||(!decide ((a.Slots.length:Int)=(b.Slots.length:Int)))) (!decide ((a.Tests.length:Int)=(b.Tests.length:Int))) (fun hg37=>?_) (fun hg37=>?_) ?_
 ·refine I B hg37<|I B hg37<|I B hg37<|I B hg37<|I B hg37<|I B hg37<|I B hg37<|a4 B hg37 B ?_
  exact ⟨⟨_,_,_,_,_,_,_,B⟩⟩
 ·refine H B hg37<|O B<|H B hg37<|K B<|H B hg37<|W B B<|H B hg37<|O B<|H B hg37<|K B<|H B hg37<|W B B<|H B hg37<|a9 B B<|a5 B hg37 B ?_
  exact ⟨⟨_,_,_,_,_,_,_,B⟩⟩
 rintro _ ⟨_,_,_,_,_,_,_,rfl⟩
 refine F km3 fun _=>?_
 refine U B (fun hc37=>?_) (fun hc37=>?_)
 ·replace h:=R hc37 h
  refine E<|G<|D B<|F km1 fun _=>?_
  exact L (by cases h;rfl)
 ·replace h:=S hc37 h
  refine T km2 fun _=>?_
  refine E<|E<|G<|D B<|F km3 fun _=>?_
  obtain ⟨o0,ho0,h⟩:=d6 h
  refine d9 ho0 (fun (i0:Int) (_:Unit)=>[(2,.tv (.pt (ePattern a).cells)),(3,.tv (.pt (ePattern b).cells)),(5,.tv (eI i0))]) (fun (_:Unit)=>[(2,.tv (.pt (ePattern a).cells)),(3,.tv (.pt (ePattern b).cells))]) (fun zv ze=>resIs ([.tmp 4]) (.sh (eB zv)) ze) B ?_ ?_ ?_ ?_
  ·clear h ho0
   intro i0 s0 r0 hi0 h hw0
   refine E<|E<|G<|D B<|O B<|K B<|W B B<|Y B B<|F km4 fun _=>?_
   refine d1 B (d2 hi0)<|T km3 fun _=>?_
   refine E<|b3<|E<|e0 B<|O B<|K B<|D B ?_
   obtain ⟨x48,hx48,h⟩:=J h
   refine a2 B B B hx48 B<|M B B (B:_=eSlot x48)<|O B<|K B<|D B ?_
   obtain ⟨x53,hx53,h⟩:=J h
   refine a2 B B B hx53 B<|M B B (B:_=eSlot x53)<|l7 B B B (eqi_Slot _ _)<|F km4 fun _=>?_
   refine U B (fun hc55=>?_) (fun hc55=>?_)
   ·replace h:=R hc55 h
    refine E<|G<|D B<|F km1 fun _=>?_
    refine L ?_
    cases h
    exact ⟨_,rfl,rfl⟩
   ·replace h:=S hc55 h
    refine T km3 fun _=>?_
    refine G<|D B<|a8 B B<|D B<|F km3 ?_
    cases h
    refine ⟨_,B,?_⟩
    rw [Ktv rfl (Ktv rfl (Ktv rfl (Knil _)))]
    rw [b7 (Z (hw0 5)) hi0 (g4 (l8 (l9 (hw0 2)) (i:=2) rfl) rfl)]
    all_goals rfl
  ·intro i0 s0 hi0
   refine E<|E<|G<|D B<|O B<|K B<|W B B<|Y B B<|F km4 fun _=>?_
   refine d0 B (d3 hi0)<|b8 km2 ?_
   exact ⟨rfl,rfl⟩
  ·intro s0 hs
   replace h:=d7 h hs
   intro _
   refine E<|E<|G<|D B<|F km3 fun _=>?_
   obtain ⟨o2,ho2,h⟩:=d6 h
   refine d9 ho2 (fun (i2:Int) (_:Unit)=>[(2,.tv (.pt (ePattern a).cells)),(3,.tv (.pt (ePattern b).cells)),(6,.tv (eI i2))]) (fun (_:Unit)=>[]) (fun zv ze=>resIs ([.tmp 4]) (.sh (eB zv)) ze) B ?_ ?_ ?_ ?_
   ·clear h ho2
    intro i2 s2 r2 hi2 h hw2
    refine E<|E<|G<|D B<|O B<|K B<|W B B<|Y B B<|F km4 fun _=>?_
    refine d1 B (d2 hi2)<|T km3 fun _=>?_
    refine E<|b3<|E<|e0 B<|O B<|K B<|D B ?_
    obtain ⟨x66,hx66,h⟩:=J h
    refine a2 B B B hx66 B<|M B B (B:_=eTest x66)<|O B<|K B<|D B ?_
    obtain ⟨x71,hx71,h⟩:=J h
    refine a2 B B B hx71 B<|M B B (B:_=eTest x71)<|l7 B B B (eqi_Test _ _)<|F km4 fun _=>?_
    refine U B (fun hc73=>?_) (fun hc73=>?_)
    ·replace h:=R hc73 h
     refine E<|G<|D B<|F km1 fun _=>?_
     refine L ?_
     cases h
     exact ⟨_,rfl,rfl⟩
    ·replace h:=S hc73 h
     refine T km3 fun _=>?_
     refine G<|D B<|a8 B B<|D B<|F km3 ?_
     cases h
     refine ⟨_,B,?_⟩
     rw [Ktv rfl (Ktv rfl (Ktv rfl (Knil _)))]
     rw [b7 (Z (hw2 6)) hi2 (g4 (l8 (l9 (hw2 2)) (i:=4) rfl) rfl)]
     all_goals rfl
   ·intro i2 s2 hi2
    refine E<|E<|G<|D B<|O B<|K B<|W B B<|Y B B<|F km4 fun _=>?_
    refine d0 B (d3 hi2)<|b8 kn ?_
    exact ⟨rfl,rfl⟩
   ·intro s2 hs
    replace h:=d7 h hs
    intro _
    refine E<|G<|D B<|F km1 fun _=>?_
    exact L (by cases h;rfl)
   ·intro v2 ze hv hR
    replace h:=d8 h hv
    cases h
    exact hR
  ·intro v0 ze hv hR
   replace h:=d8 h hv
   cases h
   exact hR
theorem ck33:CK f33 (Rq [Af 2 0,Af 3 1,Ah 4] [2,3]<|Sq (Rq [Ac 6 2 0,Ab 7 6,Ac 8 3 0,Ab 9 8,Bd 10 7 9,Aa 11 10,Aq 12 2 1 11,As 13 12 11,Bj 14 13 11,Aq 15 3 1 11,As 16 15 11,Bj 17 16 11,Cb 18 14 17 11,At 19 11 18,Aa 20 19,Aq 21 2 2 20,Bk 22 21 2 20,Aq 23 3 2 20,Bk 24 23 2 20,Bv 25 70 22 24 20,Bn 26 25 20,At 27 20 26,Aa 28 27,Aq 29 2 4 28,Bk 30 29 5 28,Aq 31 3 4 28,Bk 32 31 5 28,Bv 33 71 30 32 28,Bn 34 33 28,At 35 28 34] [2,3,35]<|Co 35 (Rq [Ah 4] [4]<|.ret)<|Sk [2,3])<|Sq (Rq [Ae 5 0] [2,3,5]<|Bl 0<|Lo [2,3,5]<|Sq (Rq [Aa 36 5,Ac 37 2 1,Ab 38 37,Ag 39 38,Am 40 36 39] [2,3,5,40]<|Co 40 (Sk [2,3,5])<|Ex 0 [])<|Sq (Bl 1<|Sq (Dr [43,44,45,46,47,48,49,50,51,52,53,54] [Ac 43 2 1,Ab 44 43,Aa 45 5,Ak 46 44 45 9,Ad 47 46 9,Ac 48 3 1,Ab 49 48,Aa 50 5,Ak 51 49 50 9,Ad 52 51 9,Ap 53 33 47 52,Bb 54 53] [2,3,5,54])<|Co 54 (Rq [Ah 4] [4]<|.ret)<|Sk [2,3,5])<|Re [Aa 41 5,An 42 41 1,Aa 5 42] [2,3,5])<|Rq [Bp 4] [4]<|.ret) [.tmp 4]:= by decide +kernel
theorem c33S (n:Nat) (ih_33:∀ (a:Condition) (b:Condition) (r:Bool) (_:ref22_SameF n a b=some r),Sound prog 33 [eCondition a,eCondition b] (.sh (eB r))):∀ (a:Condition) (b:Condition) (r:Bool) (_:ref22_SameF (n+1) a b=some r),Sound prog 33 [eCondition a,eCondition b] (.sh (eB r)):= by
 intro a b r h
 refine Fn ck33 fun hw=>?_
 unfold ref22_SameF at h
 refine E<|G<|X B B<|X B B<|D B<|F km2 fun _=>?_
 refine E<|E<|G<|O B<|K B<|O B<|K B<|a9 B B<|D B ?_
 refine gO 8 [12,13,14,15,16,17,18] 19 (!decide (a.Kind=b.Kind)) (!decide ((a.Kids.length:Int)=(b.Kids.length:Int))) (fun hg19=>?_) (fun hg19=>?_) ?_
 ·refine I B hg19<|I B hg19<|I B hg19<|I B hg19<|I B hg19<|I B hg19<|I B hg19<|a4 B hg19 B ?_
  exact ⟨⟨_,_,_,_,_,_,_,B⟩⟩
 ·refine H B hg19<|O B<|H B hg19<|K B<|H B hg19<|W B (eLCondition_eq _)<|H B hg19<|O B<|H B hg19<|K B<|H B hg19<|W B (eLCondition_eq _)<|H B hg19<|a9 B B<|a5 B hg19 B ?_
  exact ⟨⟨_,_,_,_,_,_,_,B⟩⟩
 rintro _ ⟨_,_,_,_,_,_,_,rfl⟩
 refine D B ?_
 obtain ⟨x27,hx27,h⟩:=J h
 refine gX 7 [21,22,23,24,25,26] 27 x27 ((!decide (a.Kind=b.Kind))||(!decide ((a.Kids.length:Int)=(b.Kids.length:Int)))) (fun hg27=>?_) (fun hg27=>?_) ?_
 ·replace h:=R hg27 hx27
  cases h
  refine I B hg27<|I B hg27<|I B hg27<|I B hg27<|I B hg27<|I B hg27<|a4 B hg27 B ?_
  exact ⟨⟨_,_,_,_,_,_,B⟩⟩
 ·replace h:=S hg27 hx27
  refine H B hg27<|O B<|H B hg27<|M B B (B:_=eMorphism a.Map)<|H B hg27<|O B<|H B hg27<|M B B (B:_=eMorphism b.Map) ?_
  obtain ⟨x25,hx25,h⟩:=J h
  refine H B hg27<|V B (c70 a.Map b.Map _ hx25)<|H B hg27<|d4 B ?_
  cases h
  refine a5 B hg27 B ?_
  exact ⟨⟨_,_,_,_,_,_,B⟩⟩
 rintro _ ⟨_,_,_,_,_,_,rfl⟩
 refine D B ?_
 obtain ⟨x35,hx35,h⟩:=J h
 refine gX 7 [29,30,31,32,33,34] 35 x35 x27 (fun hg35=>?_) (fun hg35=>?_) ?_
 ·replace h:=R hg35 hx35
  cases h
  refine I B hg35<|I B hg35<|I B hg35<|I B hg35<|I B hg35<|I B hg35<|a4 B hg35 B ?_
  exact ⟨⟨_,_,_,_,_,_,B⟩⟩
 ·replace h:=S hg35 hx35
  refine H B hg35<|O B<|H B hg35<|M B B (B:_=ePattern a.Pattern)<|H B hg35<|O B<|H B hg35<|M B B (B:_=ePattern b.Pattern) ?_
  obtain ⟨x33,hx33,h⟩:=J h
  refine H B hg35<|V B (c71 a.Pattern b.Pattern _ hx33)<|H B hg35<|d4 B ?_
  cases h
  refine a5 B hg35 B ?_
  exact ⟨⟨_,_,_,_,_,_,B⟩⟩
 rintro _ ⟨_,_,_,_,_,_,rfl⟩
 refine F km3 fun _=>?_
 refine U B (fun hc35=>?_) (fun hc35=>?_)
 ·replace h:=R hc35 h
  refine E<|G<|D B<|F km1 fun _=>?_
  exact L (by cases h;rfl)
 ·replace h:=S hc35 h
  refine T km2 fun _=>?_
  refine E<|E<|G<|D B<|F km3 fun _=>?_
  obtain ⟨o0,ho0,h⟩:=d6 h
  refine d9 ho0 (fun (i0:Int) (_:Unit)=>[(2,.tv (.pt (eCondition a).cells)),(3,.tv (.pt (eCondition b).cells)),(5,.tv (eI i0))]) (fun (_:Unit)=>[]) (fun zv ze=>resIs ([.tmp 4]) (.sh (eB zv)) ze) B ?_ ?_ ?_ ?_
  ·clear h ho0
   intro i0 s0 r0 hi0 h hw0
   refine E<|E<|G<|D B<|O B<|K B<|W B (eLCondition_eq _)<|Y B B<|F km4 fun _=>?_
   refine d1 B (d2 hi0)<|T km3 fun _=>?_
   refine E<|b3<|E<|e0 B<|O B<|K B<|D B ?_
   obtain ⟨x46,hx46,h⟩:=J h
   refine a2 B B (eLCondition_eq _) hx46 B<|M B B (B:_=eCondition x46)<|O B<|K B<|D B ?_
   obtain ⟨x51,hx51,h⟩:=J h
   refine a2 B B (eLCondition_eq _) hx51 B<|M B B (B:_=eCondition x51) ?_
   obtain ⟨x53,hx53,h⟩:=J h
   refine V B (ih_33 x46 x51 _ hx53)<|d4 B<|F km4 fun _=>?_
   refine U B (fun hc54=>?_) (fun hc54=>?_)
   ·replace h:=R hc54 h
    refine E<|G<|D B<|F km1 fun _=>?_
    refine L ?_
    cases h
    exact ⟨_,rfl,rfl⟩
   ·replace h:=S hc54 h
    refine T km3 fun _=>?_
    refine G<|D B<|a8 B B<|D B<|F km3 ?_
    cases h
    refine ⟨_,B,?_⟩
    rw [Ktv rfl (Ktv rfl (Ktv rfl (Knil _)))]
    rw [b7 (Z (hw0 5)) hi0 (g4 (l8 (l9 (hw0 2)) (i:=1) rfl) (eLCondition_eq _))]
    all_goals rfl
  ·intro i0 s0 hi0
   refine E<|E<|G<|D B<|O B<|K B<|W B (eLCondition_eq _)<|Y B B<|F km4 fun _=>?_
   refine d0 B (d3 hi0)<|b8 kn ?_
   exact ⟨rfl,rfl⟩
  ·intro s0 hs
   replace h:=d7 h hs
   intro _
   refine E<|G<|D B<|F km1 fun _=>?_
   exact L (by cases h;rfl)
  ·intro v0 ze hv hR
   replace h:=d8 h hv
   cases h
   exact hR
theorem c33A:∀ n:Nat,(∀ (a:Condition) (b:Condition) (r:Bool) (_:ref22_SameF n a b=some r),Sound prog 33 [eCondition a,eCondition b] (.sh (eB r))):=by
  intro n
  induction n with
  | zero=>intro a b r h; cases h
  | succ n ih=>exact c33S n ih
theorem c33 (a:Condition) (b:Condition) (r:Bool) (h:ref22_Same a b=some r):Sound prog 33 [eCondition a,eCondition b] (.sh (eB r)):=by
  obtain ⟨N,hN⟩:=lim_some h
  exact (c33A N) a b r (hN N (Nat.le_refl _))
theorem ck128:CK f128 (Rq [Bf 0 0 9 1 1 1 3 4 0 5] [0]<|Rq [Eu 1 0 9 1 1 1 3 4 0 5 0 1 1,Aj 9 0 1] [0]<|.ret) [.cell 0 (some 9)]:= by decide +kernel
theorem c128  (r:Condition) (h:ref22_True =some r):Sound prog 128 [] (.sh (eCondition r)):= by
 refine Fn ck128 fun hw=>?_
 unfold ref22_True at h
 refine E<|G<|b6 B<|F (kb<|kn) fun _=>?_
 refine E<|G<|e2 B B (show _=eCondition (Condition.mk 1 [] (Morphism.mk [] []) (Pattern.mk (Graph.mk [] []) [] 0 [])) from B)<|a6 B B B B B<|F (kb<|kn) fun _=>?_
 exact L (by cases h;rfl)
theorem ck142:CK f142 (Rq [Bf 0 0 9 1 1 1 3 4 0 5] [0]<|Rq [Br 1 128,Bh 2 9 1,Ev 3 0 9 1 1 1 3 4 0 5 0 1 2 1 1 2,Aj 9 0 3] [0]<|.ret) [.cell 0 (some 9)]:= by decide +kernel
theorem c142  (r:Condition) (h:ref22_False =some r):Sound prog 142 [] (.sh (eCondition r)):= by
 refine Fn ck142 fun hw=>?_
 unfold ref22_False at h
 refine E<|G<|b6 B<|F (kb<|kn) fun _=>?_
 refine E<|G ?_
 obtain ⟨x1,hx1,h⟩:=J h
 refine V B (c128  _ hx1)<|g5 (e:=eCondition) (l:=[x1]) B B (fun _=>rfl) (show eLCondition [x1]=_ from eLCondition_lst _)<|e2 B B (show _=eCondition (Condition.mk 2 [x1] (Morphism.mk [] []) (Pattern.mk (Graph.mk [] []) [] 0 [])) from B)<|a6 B B B B B<|F (kb<|kn) fun _=>?_
 exact L (by cases h;rfl)
theorem ck141:CK f141 (Rq [Bf 4 0 9 1 1 1 3 4 0 5] [0,1,4]<|Rq [Br 13 128,Br 14 142,Bf 5 0 9 1 1 1 3 4 0 5,Bf 6 0 9 1 1 1 3 4 0 5,Aj 9 5 13,Aj 9 6 14] [0,1,4,5,6]<|Sq (Rq [Aa 15 0,Ar 16 15 4] [0,1,4,5,6,16]<|Co 16 (Re [Br 17 142,Br 18 128,Aj 9 5 17,Aj 9 6 18] [0,1,4,5,6])<|Sk [0,1,4,5,6])<|Rq [Ba 7 9] [0,1,4,5,6,7]<|Sq (Rq [Ae 8 0] [0,1,4,5,6,7,8]<|Bl 0<|Lo [0,1,4,5,6,7,8]<|Sq (Rq [Aa 19 8,Aa 20 1,Ag 21 20,Am 22 19 21] [0,1,4,5,6,7,8,22]<|Co 22 (Sk [0,1,4,5,6,7,8])<|Ex 0 [0,4,5,6,7])<|Sq (Bl 1<|Rq [Aa 25 1,Aa 26 8,Ak 27 25 26 9,Ai 28 27 0,Ab 29 28,Aa 30 0,Cu 31 29 30] [0,1,4,5,6,7,8,31]<|Co 31 (Re [Ay 32 7,Aa 33 1,Aa 34 8,Ak 35 33 34 9,Ai 36 35 1,Ab 37 36,Bq 38 9 32 37,Ay 7 38] [0,1,4,5,6,7,8])<|Re [Ay 39 7,Aa 40 1,Aa 41 8,Ak 42 40 41 9,Ad 43 42 9,Bh 44 9 43,Bq 45 9 39 44,Ay 7 45] [0,1,4,5,6,7,8])<|Re [Aa 23 8,An 24 23 1,Aa 8 24] [0,1,4,5,6,7,8])<|Rq [Ba 9 9] [0,4,5,6,7,9]<|Sq (Rq [Ae 10 0] [0,4,5,6,7,9,10]<|Bl 2<|Lo [0,4,5,6,7,9,10]<|Sq (Rq [Aa 46 10,Aa 47 7,Ag 48 47,Am 49 46 48] [0,4,5,6,7,9,10,49]<|Co 49 (Sk [0,4,5,6,7,9,10])<|Ex 2 [0,4,5,9])<|Sq (Bl 3<|Sq (Sq (Dr [52,53,54,55,56,57] [Aa 52 7,Aa 53 10,Ak 54 52 53 9,Ad 55 54 9,Ad 56 6 9,Ap 57 33 55 56] [0,4,5,6,7,9,10,57])<|Co 57 (Rq [Ad 58 6 9,Aj 9 4 58] [4]<|.ret)<|Sk [0,4,5,6,7,9,10])<|Sq (Dr [11,59,60,61,62,63,64] [Aa 59 7,Aa 60 10,Ak 61 59 60 9,Ad 62 61 9,Ad 63 5 9,Ap 64 33 62 63,Aa 11 64] [0,4,5,6,7,9,10,11])<|Sq (Rq [Ae 12 0] [0,4,5,6,7,9,10,11,12]<|Bl 4<|Lo [0,4,5,6,7,9,10,11,12]<|Sq (Rq [Aa 65 12,Aa 66 9,Ag 67 66,Am 68 65 67] [0,4,5,6,7,9,10,11,12,68]<|Co 68 (Sk [0,4,5,6,7,9,10,11,12])<|Ex 4 [0,4,5,6,7,9,10,11])<|Sq (Bl 5<|Dr [11,71,72,73,74,75,76,77,78,79,80,81,82] [Aa 71 11,Aa 72 71,Bc 73 9 72,Bc 74 12 72,Cp 75 73 74 9 72,Bk 76 75 9 72,Bc 77 7 72,Bc 78 10 72,Cp 79 77 78 9 72,Bk 80 79 9 72,Bv 81 33 76 80 72,At 82 72 81,Aa 11 82] [0,4,5,6,7,9,10,11,12])<|Re [Aa 69 12,An 70 69 1,Aa 12 70] [0,4,5,6,7,9,10,11,12])<|Rq [Aa 83 11,Bb 84 83] [0,4,5,6,7,9,10,84]<|Co 84 (Re [Ay 85 9,Aa 86 7,Aa 87 10,Ak 88 86 87 9,Ad 89 88 9,Bh 90 9 89,Bq 91 9 85 90,Ay 9 91] [0,4,5,6,7,9,10])<|Sk [0,4,5,6,7,9,10])<|Re [Aa 50 10,An 51 50 1,Aa 10 51] [0,4,5,6,7,9,10])<|Sq (Rq [Aa 92 9,Ag 93 92,Ar 94 93 0] [0,4,5,9,94]<|Co 94 (Rq [Ad 95 5 9,Aj 9 4 95] [4]<|.ret)<|Sk [0,4,9])<|Sq (Rq [Aa 96 9,Ag 97 96,Ar 98 97 1] [0,4,9,98]<|Co 98 (Rq [Aa 99 9,By 100 99 0 9,Ad 101 100 9,Aj 9 4 101] [4]<|.ret)<|Sk [0,4,9])<|Rq [Aa 102 0,Aa 103 9,Fl 104 0 9 1 1 1 3 4 0 5 0 1 102 1 1 103,Aj 9 4 104] [4]<|.ret) [.cell 4 (some 9)]:= by decide +kernel
theorem c141 (kind:Int) (kids:List Condition) (r:Condition) (h:ref22_connected kind kids=some r):Sound prog 141 [eI kind,eLCondition kids] (.sh (eCondition r)):= by
 refine Fn ck141 fun hw=>?_
 unfold ref22_connected at h
 refine E<|G<|b6 B<|F (kt<|kt<|kb<|kn) fun _=>?_
 refine E<|G ?_
 obtain ⟨x13,hx13,h⟩:=J h
 refine V B (c128  _ hx13) ?_
 obtain ⟨x14,hx14,h⟩:=J h
 refine V B (c142  _ hx14)<|b6 B<|b6 B<|a6 B B B B B<|a6 B B B B B<|F (kt<|kt<|kb<|kb<|kb<|kn) fun _=>?_
 refine E<|E<|G<|D B<|b2 B B<|F (kt<|kt<|kb<|kb<|kb<|kt<|kn) fun _=>?_
 obtain ⟨w1,hw1,h⟩:=J h
 refine g8 (fun ze=>ze=[(0,.tv (eI kind)),(1,.tv (eLCondition kids)),(4,.bx [⟨false,eI 0⟩,⟨true,eLCondition []⟩,⟨true,lI []⟩,⟨true,lI []⟩,⟨true,lI []⟩,⟨true,lE []⟩,⟨true,lS []⟩,⟨false,eI 0⟩,⟨true,lT []⟩]),(5,.bx [⟨false,eI w1.1.Kind⟩,⟨false,eLCondition w1.1.Kids⟩,⟨false,lI w1.1.Map.Nodes⟩,⟨false,lI w1.1.Map.Edges⟩,⟨false,lI w1.1.Pattern.Graph.Nodes⟩,⟨false,lE w1.1.Pattern.Graph.Edges⟩,⟨false,lS w1.1.Pattern.Slots⟩,⟨false,eI w1.1.Pattern.Vars⟩,⟨false,lT w1.1.Pattern.Tests⟩]),(6,.bx [⟨false,eI w1.2.Kind⟩,⟨false,eLCondition w1.2.Kids⟩,⟨false,lI w1.2.Map.Nodes⟩,⟨false,lI w1.2.Map.Edges⟩,⟨false,lI w1.2.Pattern.Graph.Nodes⟩,⟨false,lE w1.2.Pattern.Graph.Edges⟩,⟨false,lS w1.2.Pattern.Slots⟩,⟨false,eI w1.2.Pattern.Vars⟩,⟨false,lT w1.2.Pattern.Tests⟩])]) ?_ ?_
 ·replace h:=hw1
  clear hw1
  refine U B (fun hc16=>?_) (fun hc16=>?_)
  ·replace h:=R hc16 h
   refine G ?_
   obtain ⟨x17,hx17,h⟩:=J h
   refine V B (c142  _ hx17) ?_
   obtain ⟨x18,hx18,h⟩:=J h
   refine V B (c128  _ hx18)<|a6 B B B B B<|a6 B B B B B<|F (kt<|kt<|kb<|kb<|kb<|kn) ?_
   cases h
   exact rfl
  ·replace h:=S hc16 h
   refine T (kt<|kt<|kb<|kb<|kb<|kn) ?_
   cases h
   exact rfl
 rintro _ rfl
 intro _
 refine E<|G<|e3<|F (kt<|kt<|kb<|kb<|kb<|ko<|kn) fun _=>?_
 refine E<|E<|G<|D B<|F (kt<|kt<|kb<|kb<|kb<|ko<|kt<|kn) fun _=>?_
 obtain ⟨s0,hs0,h⟩:=J h
 refine g2 hs0 (fun (i0:Int) (s0:List Condition)=>[(0,.tv (eI kind)),(1,.tv (eLCondition kids)),(4,.bx [⟨false,eI 0⟩,⟨true,eLCondition []⟩,⟨true,lI []⟩,⟨true,lI []⟩,⟨true,lI []⟩,⟨true,lE []⟩,⟨true,lS []⟩,⟨false,eI 0⟩,⟨true,lT []⟩]),(5,.bx [⟨false,eI w1.1.Kind⟩,⟨false,eLCondition w1.1.Kids⟩,⟨false,lI w1.1.Map.Nodes⟩,⟨false,lI w1.1.Map.Edges⟩,⟨false,lI w1.1.Pattern.Graph.Nodes⟩,⟨false,lE w1.1.Pattern.Graph.Edges⟩,⟨false,lS w1.1.Pattern.Slots⟩,⟨false,eI w1.1.Pattern.Vars⟩,⟨false,lT w1.1.Pattern.Tests⟩]),(6,.bx [⟨false,eI w1.2.Kind⟩,⟨false,eLCondition w1.2.Kids⟩,⟨false,lI w1.2.Map.Nodes⟩,⟨false,lI w1.2.Map.Edges⟩,⟨false,lI w1.2.Pattern.Graph.Nodes⟩,⟨false,lE w1.2.Pattern.Graph.Edges⟩,⟨false,lS w1.2.Pattern.Slots⟩,⟨false,eI w1.2.Pattern.Vars⟩,⟨false,lT w1.2.Pattern.Tests⟩]),(7,.ow (eLCondition s0)),(8,.tv (eI i0))]) (fun (s0:List Condition)=>[(0,.tv (eI kind)),(4,.bx [⟨false,eI 0⟩,⟨true,eLCondition []⟩,⟨true,lI []⟩,⟨true,lI []⟩,⟨true,lI []⟩,⟨true,lE []⟩,⟨true,lS []⟩,⟨false,eI 0⟩,⟨true,lT []⟩]),(5,.bx [⟨false,eI w1.1.Kind⟩,⟨false,eLCondition w1.1.Kids⟩,⟨false,lI w1.1.Map.Nodes⟩,⟨false,lI w1.1.Map.Edges⟩,⟨false,lI w1.1.Pattern.Graph.Nodes⟩,⟨false,lE w1.1.Pattern.Graph.Edges⟩,⟨false,lS w1.1.Pattern.Slots⟩,⟨false,eI w1.1.Pattern.Vars⟩,⟨false,lT w1.1.Pattern.Tests⟩]),(6,.bx [⟨false,eI w1.2.Kind⟩,⟨false,eLCondition w1.2.Kids⟩,⟨false,lI w1.2.Map.Nodes⟩,⟨false,lI w1.2.Map.Edges⟩,⟨false,lI w1.2.Pattern.Graph.Nodes⟩,⟨false,lE w1.2.Pattern.Graph.Edges⟩,⟨false,lS w1.2.Pattern.Slots⟩,⟨false,eI w1.2.Pattern.Vars⟩,⟨false,lT w1.2.Pattern.Tests⟩]),(7,.ow (eLCondition s0))]) B ?_ ?_ ?_
 ·clear h hs0
  intro i0 s0 r0 hi0 h hw0
  refine E<|E<|G<|D B<|D B<|W B (eLCondition_eq _)<|Y B B<|F (kt<|kt<|kb<|kb<|kb<|ko<|kt<|kt<|kn) fun _=>?_
  refine d1 B (d2 hi0)<|T (kt<|kt<|kb<|kb<|kb<|ko<|kt<|kn) fun _=>?_
  refine E<|b3<|E<|G<|D B<|D B ?_
  obtain ⟨x27,hx27,h⟩:=J h
  refine a2 B B (eLCondition_eq _) hx27 B<|d5 B<|K B<|D B<|b2 B B<|F (kt<|kt<|kb<|kb<|kb<|ko<|kt<|kt<|kn) fun _=>?_
  refine U B (fun hc31=>?_) (fun hc31=>?_)
  ·replace h:=R hc31 h
   refine G<|e9 B<|D B<|D B ?_
   obtain ⟨x35,hx35,h⟩:=J h
   refine a2 B B (eLCondition_eq _) hx35 B<|d5 B<|K B ?_
   obtain ⟨x38,hx38,h⟩:=J h
   refine f6 B B (eLCondition_eq _) (eLCondition_eq _) hx38 (eLCondition_eq _)<|e9 B<|F (kt<|kt<|kb<|kb<|kb<|ko<|kt<|kn) fun _=>?_
   refine G<|D B<|a8 B B<|D B<|F (kt<|kt<|kb<|kb<|kb<|ko<|kt<|kn) ?_
   cases h
   show Env.keep _ _=_
   rw [Ktv rfl (Ktv rfl (Kbx rfl (Kbx rfl (Kbx rfl (Kow rfl (Ktv rfl (Knil _)))))))]
   rw [b7 (Z (hw0 8)) hi0 (g4 (Z (hw0 1)) (eLCondition_eq _))]
   all_goals rfl
  ·replace h:=S hc31 h
   refine G<|e9 B<|D B<|D B ?_
   obtain ⟨x42,hx42,h⟩:=J h
   refine a2 B B (eLCondition_eq _) hx42 B<|M B B (B:_=eCondition x42)<|g5 (e:=eCondition) (l:=[x42]) B B (fun _=>rfl) (show eLCondition [x42]=_ from eLCondition_lst _) ?_
   obtain ⟨x45,hx45,h⟩:=J h
   refine f6 B B (eLCondition_eq _) (eLCondition_eq _) hx45 (eLCondition_eq _)<|e9 B<|F (kt<|kt<|kb<|kb<|kb<|ko<|kt<|kn) fun _=>?_
   refine G<|D B<|a8 B B<|D B<|F (kt<|kt<|kb<|kb<|kb<|ko<|kt<|kn) ?_
   cases h
   show Env.keep _ _=_
   rw [Ktv rfl (Ktv rfl (Kbx rfl (Kbx rfl (Kbx rfl (Kow rfl (Ktv rfl (Knil _)))))))]
   rw [b7 (Z (hw0 8)) hi0 (g4 (Z (hw0 1)) (eLCondition_eq _))]
   all_goals rfl
 ·intro i0 s0 hi0
  refine E<|E<|G<|D B<|D B<|W B (eLCondition_eq _)<|Y B B<|F (kt<|kt<|kb<|kb<|kb<|ko<|kt<|kt<|kn) fun _=>?_
  refine d0 B (d3 hi0)<|b8 (kt<|kb<|kb<|kb<|ko<|kn) ?_
  exact ⟨rfl,rfl⟩
 ·intro _
  refine E<|G<|e3<|F (kt<|kb<|kb<|kb<|ko<|ko<|kn) fun _=>?_
  refine E<|E<|G<|D B<|F (kt<|kb<|kb<|kb<|ko<|ko<|kt<|kn) fun _=>?_
  obtain ⟨o2,ho2,h⟩:=d6 h
  refine d9 ho2 (fun (i2:Int) (s2:Condition × List Condition)=>[(0,.tv (eI kind)),(4,.bx [⟨false,eI s2.1.Kind⟩,⟨true,eLCondition s2.1.Kids⟩,⟨true,lI s2.1.Map.Nodes⟩,⟨true,lI s2.1.Map.Edges⟩,⟨true,lI s2.1.Pattern.Graph.Nodes⟩,⟨true,lE s2.1.Pattern.Graph.Edges⟩,⟨true,lS s2.1.Pattern.Slots⟩,⟨false,eI s2.1.Pattern.Vars⟩,⟨true,lT s2.1.Pattern.Tests⟩]),(5,.bx [⟨false,eI w1.1.Kind⟩,⟨false,eLCondition w1.1.Kids⟩,⟨false,lI w1.1.Map.Nodes⟩,⟨false,lI w1.1.Map.Edges⟩,⟨false,lI w1.1.Pattern.Graph.Nodes⟩,⟨false,lE w1.1.Pattern.Graph.Edges⟩,⟨false,lS w1.1.Pattern.Slots⟩,⟨false,eI w1.1.Pattern.Vars⟩,⟨false,lT w1.1.Pattern.Tests⟩]),(6,.bx [⟨false,eI w1.2.Kind⟩,⟨false,eLCondition w1.2.Kids⟩,⟨false,lI w1.2.Map.Nodes⟩,⟨false,lI w1.2.Map.Edges⟩,⟨false,lI w1.2.Pattern.Graph.Nodes⟩,⟨false,lE w1.2.Pattern.Graph.Edges⟩,⟨false,lS w1.2.Pattern.Slots⟩,⟨false,eI w1.2.Pattern.Vars⟩,⟨false,lT w1.2.Pattern.Tests⟩]),(7,.ow (eLCondition s0)),(9,.ow (eLCondition s2.2)),(10,.tv (eI i2))]) (fun (s2:Condition × List Condition)=>[(0,.tv (eI kind)),(4,.bx [⟨false,eI s2.1.Kind⟩,⟨true,eLCondition s2.1.Kids⟩,⟨true,lI s2.1.Map.Nodes⟩,⟨true,lI s2.1.Map.Edges⟩,⟨true,lI s2.1.Pattern.Graph.Nodes⟩,⟨true,lE s2.1.Pattern.Graph.Edges⟩,⟨true,lS s2.1.Pattern.Slots⟩,⟨false,eI s2.1.Pattern.Vars⟩,⟨true,lT s2.1.Pattern.Tests⟩]),(5,.bx [⟨false,eI w1.1.Kind⟩,⟨false,eLCondition w1.1.Kids⟩,⟨false,lI w1.1.Map.Nodes⟩,⟨false,lI w1.1.Map.Edges⟩,⟨false,lI w1.1.Pattern.Graph.Nodes⟩,⟨false,lE w1.1.Pattern.Graph.Edges⟩,⟨false,lS w1.1.Pattern.Slots⟩,⟨false,eI w1.1.Pattern.Vars⟩,⟨false,lT w1.1.Pattern.Tests⟩]),(9,.ow (eLCondition s2.2))]) (fun zv ze=>resIs ([.cell 4 (some 9)]) (.sh (eCondition zv)) ze) B ?_ ?_ ?_ ?_
  ·clear h ho2
   intro i2 s2 r2 hi2 h hw2
   refine E<|E<|G<|D B<|D B<|W B (eLCondition_eq _)<|Y B B<|F (kt<|kb<|kb<|kb<|ko<|ko<|kt<|kt<|kn) fun _=>?_
   refine d1 B (d2 hi2)<|T (kt<|kb<|kb<|kb<|ko<|ko<|kt<|kn) fun _=>?_
   refine E<|b3<|E<|E<|e0 B<|D B<|D B ?_
   obtain ⟨x54,hx54,h⟩:=J h
   refine a2 B B (eLCondition_eq _) hx54 B<|M B B (B:_=eCondition x54)<|M B B (B:_=eCondition w1.2) ?_
   obtain ⟨x57,hx57,h⟩:=J h
   refine V B (c33 x54 w1.2 _ hx57)<|F (kt<|kb<|kb<|kb<|ko<|ko<|kt<|kt<|kn) fun _=>?_
   refine U B (fun hc57=>?_) (fun hc57=>?_)
   ·replace h:=R hc57 h
    refine E<|G<|M B B (B:_=eCondition w1.2)<|a6 B B B B B<|F (kb<|kn) fun _=>?_
    refine L ?_
    cases h
    exact ⟨_,rfl,rfl⟩
   ·replace h:=S hc57 h
    refine T (kt<|kb<|kb<|kb<|ko<|ko<|kt<|kn) fun _=>?_
    refine E<|e0 B<|D B<|D B ?_
    obtain ⟨x61,hx61,h⟩:=J h
    refine a2 B B (eLCondition_eq _) hx61 B<|M B B (B:_=eCondition x61)<|M B B (B:_=eCondition w1.1) ?_
    obtain ⟨x64,hx64,h⟩:=J h
    refine V B (c33 x61 w1.1 _ hx64)<|D B<|F (kt<|kb<|kb<|kb<|ko<|ko<|kt<|kt<|kn) fun _=>?_
    refine E<|E<|G<|D B<|F (kt<|kb<|kb<|kb<|ko<|ko<|kt<|kt<|kt<|kn) fun _=>?_
    obtain ⟨s4,hs4,h⟩:=J h
    refine g2 hs4 (fun (i4:Int) (s4:Bool)=>[(0,.tv (eI kind)),(4,.bx [⟨false,eI s2.1.Kind⟩,⟨true,eLCondition s2.1.Kids⟩,⟨true,lI s2.1.Map.Nodes⟩,⟨true,lI s2.1.Map.Edges⟩,⟨true,lI s2.1.Pattern.Graph.Nodes⟩,⟨true,lE s2.1.Pattern.Graph.Edges⟩,⟨true,lS s2.1.Pattern.Slots⟩,⟨false,eI s2.1.Pattern.Vars⟩,⟨true,lT s2.1.Pattern.Tests⟩]),(5,.bx [⟨false,eI w1.1.Kind⟩,⟨false,eLCondition w1.1.Kids⟩,⟨false,lI w1.1.Map.Nodes⟩,⟨false,lI w1.1.Map.Edges⟩,⟨false,lI w1.1.Pattern.Graph.Nodes⟩,⟨false,lE w1.1.Pattern.Graph.Edges⟩,⟨false,lS w1.1.Pattern.Slots⟩,⟨false,eI w1.1.Pattern.Vars⟩,⟨false,lT w1.1.Pattern.Tests⟩]),(6,.bx [⟨false,eI w1.2.Kind⟩,⟨false,eLCondition w1.2.Kids⟩,⟨false,lI w1.2.Map.Nodes⟩,⟨false,lI w1.2.Map.Edges⟩,⟨false,lI w1.2.Pattern.Graph.Nodes⟩,⟨false,lE w1.2.Pattern.Graph.Edges⟩,⟨false,lS w1.2.Pattern.Slots⟩,⟨false,eI w1.2.Pattern.Vars⟩,⟨false,lT w1.2.Pattern.Tests⟩]),(7,.ow (eLCondition s0)),(9,.ow (eLCondition s2.2)),(10,.tv (eI i2)),(11,.tv (eB s4)),(12,.tv (eI i4))]) (fun (s4:Bool)=>[(0,.tv (eI kind)),(4,.bx [⟨false,eI s2.1.Kind⟩,⟨true,eLCondition s2.1.Kids⟩,⟨true,lI s2.1.Map.Nodes⟩,⟨true,lI s2.1.Map.Edges⟩,⟨true,lI s2.1.Pattern.Graph.Nodes⟩,⟨true,lE s2.1.Pattern.Graph.Edges⟩,⟨true,lS s2.1.Pattern.Slots⟩,⟨false,eI s2.1.Pattern.Vars⟩,⟨true,lT s2.1.Pattern.Tests⟩]),(5,.bx [⟨false,eI w1.1.Kind⟩,⟨false,eLCondition w1.1.Kids⟩,⟨false,lI w1.1.Map.Nodes⟩,⟨false,lI w1.1.Map.Edges⟩,⟨false,lI w1.1.Pattern.Graph.Nodes⟩,⟨false,lE w1.1.Pattern.Graph.Edges⟩,⟨false,lS w1.1.Pattern.Slots⟩,⟨false,eI w1.1.Pattern.Vars⟩,⟨false,lT w1.1.Pattern.Tests⟩]),(6,.bx [⟨false,eI w1.2.Kind⟩,⟨false,eLCondition w1.2.Kids⟩,⟨false,lI w1.2.Map.Nodes⟩,⟨false,lI w1.2.Map.Edges⟩,⟨false,lI w1.2.Pattern.Graph.Nodes⟩,⟨false,lE w1.2.Pattern.Graph.Edges⟩,⟨false,lS w1.2.Pattern.Slots⟩,⟨false,eI w1.2.Pattern.Vars⟩,⟨false,lT w1.2.Pattern.Tests⟩]),(7,.ow (eLCondition s0)),(9,.ow (eLCondition s2.2)),(10,.tv (eI i2)),(11,.tv (eB s4))]) B ?_ ?_ ?_
    ·clear h hs4
     intro i4 s4 r4 hi4 h hw4
     refine E<|E<|G<|D B<|D B<|W B (eLCondition_eq _)<|Y B B<|F (kt<|kb<|kb<|kb<|ko<|ko<|kt<|kt<|kt<|kt<|kn) fun _=>?_
     refine d1 B (d2 hi4)<|T (kt<|kb<|kb<|kb<|ko<|ko<|kt<|kt<|kt<|kn) fun _=>?_
     refine E<|b3<|e0 B<|D B<|D B ?_
     obtain ⟨x82,hx82,h⟩:=J h
     refine gX 10 [73,74,75,76,77,78,79,80,81] 82 x82 s4 (fun hg82=>?_) (fun hg82=>?_) ?_
     ·replace h:=R hg82 hx82
      cases h
      refine I B hg82<|I B hg82<|I B hg82<|I B hg82<|I B hg82<|I B hg82<|I B hg82<|I B hg82<|I B hg82<|a4 B hg82 B ?_
      exact ⟨⟨_,_,_,_,_,_,_,_,_,B⟩⟩
     ·replace h:=S hg82 hx82
      refine H B hg82<|D B<|H B hg82<|D B ?_
      obtain ⟨x75,hx75,h⟩:=J h
      refine H B hg82<|a2 B B (eLCondition_eq _) hx75 B<|H B hg82<|M B B (B:_=eCondition x75)<|H B hg82<|D B<|H B hg82<|D B ?_
      obtain ⟨x79,hx79,h⟩:=J h
      refine H B hg82<|a2 B B (eLCondition_eq _) hx79 B<|H B hg82<|M B B (B:_=eCondition x79) ?_
      obtain ⟨x81,hx81,h⟩:=J h
      refine H B hg82<|V B (c33 x75 x79 _ hx81) ?_
      cases h
      refine a5 B hg82 B ?_
      exact ⟨⟨_,_,_,_,_,_,_,_,_,B⟩⟩
     rintro _ ⟨_,_,_,_,_,_,_,_,_,rfl⟩
     refine D B<|F (kt<|kb<|kb<|kb<|ko<|ko<|kt<|kt<|kt<|kn) fun _=>?_
     refine G<|D B<|a8 B B<|D B<|F (kt<|kb<|kb<|kb<|ko<|ko<|kt<|kt<|kt<|kn) ?_
     cases h
     show Env.keep _ _=_
     rw [Ktv rfl (Kbx rfl (Kbx rfl (Kbx rfl (Kow rfl (Kow rfl (Ktv rfl (Ktv rfl (Ktv rfl (Knil _)))))))))]
     rw [b7 (Z (hw4 12)) hi4 (g4 (m9 (hw4 9)) (eLCondition_eq _))]
     all_goals rfl
    ·intro i4 s4 hi4
     refine E<|E<|G<|D B<|D B<|W B (eLCondition_eq _)<|Y B B<|F (kt<|kb<|kb<|kb<|ko<|ko<|kt<|kt<|kt<|kt<|kn) fun _=>?_
     refine d0 B (d3 hi4)<|b8 (kt<|kb<|kb<|kb<|ko<|ko<|kt<|kt<|kn) ?_
     exact ⟨rfl,rfl⟩
    ·intro _
     refine E<|G<|D B<|d4 B<|F (kt<|kb<|kb<|kb<|ko<|ko<|kt<|kt<|kn) fun _=>?_
     refine U B (fun hc84=>?_) (fun hc84=>?_)
     ·replace h:=R hc84 h
      refine G<|e9 B<|D B<|D B ?_
      obtain ⟨x88,hx88,h⟩:=J h
      refine a2 B B (eLCondition_eq _) hx88 B<|M B B (B:_=eCondition x88)<|g5 (e:=eCondition) (l:=[x88]) B B (fun _=>rfl) (show eLCondition [x88]=_ from eLCondition_lst _) ?_
      obtain ⟨x91,hx91,h⟩:=J h
      refine f6 B B (eLCondition_eq _) (eLCondition_eq _) hx91 (eLCondition_eq _)<|e9 B<|F (kt<|kb<|kb<|kb<|ko<|ko<|kt<|kn) fun _=>?_
      refine G<|D B<|a8 B B<|D B<|F (kt<|kb<|kb<|kb<|ko<|ko<|kt<|kn) ?_
      cases h
      refine ⟨_,B,?_⟩
      rw [Ktv rfl (Kbx rfl (Kbx rfl (Kbx rfl (Kow rfl (Kow rfl (Ktv rfl (Knil _)))))))]
      rw [b7 (Z (hw2 10)) hi2 (g4 (m9 (hw2 7)) (eLCondition_eq _))]
      all_goals rfl
     ·replace h:=S hc84 h
      refine T (kt<|kb<|kb<|kb<|ko<|ko<|kt<|kn) fun _=>?_
      refine G<|D B<|a8 B B<|D B<|F (kt<|kb<|kb<|kb<|ko<|ko<|kt<|kn) ?_
      cases h
      refine ⟨_,B,?_⟩
      rw [Ktv rfl (Kbx rfl (Kbx rfl (Kbx rfl (Kow rfl (Kow rfl (Ktv rfl (Knil _)))))))]
      rw [b7 (Z (hw2 10)) hi2 (g4 (m9 (hw2 7)) (eLCondition_eq _))]
      all_goals rfl
  ·intro i2 s2 hi2
   refine E<|E<|G<|D B<|D B<|W B (eLCondition_eq _)<|Y B B<|F (kt<|kb<|kb<|kb<|ko<|ko<|kt<|kt<|kn) fun _=>?_
   refine d0 B (d3 hi2)<|b8 (kt<|kb<|kb<|ko<|kn) ?_
   exact ⟨rfl,rfl⟩
  ·intro s2 hs
   replace h:=d7 h hs
   intro _
   refine E<|E<|G<|D B<|W B (eLCondition_eq _)<|b2 B B<|F (kt<|kb<|kb<|ko<|kt<|kn) fun _=>?_
   refine U B (fun hc94=>?_) (fun hc94=>?_)
   ·replace h:=R hc94 h
    refine E<|G<|M B B (B:_=eCondition w1.1)<|a6 B B B B B<|F (kb<|kn) fun _=>?_
    exact L (by cases h;rfl)
   ·replace h:=S hc94 h
    refine T (kt<|kb<|ko<|kn) fun _=>?_
    refine E<|E<|G<|D B<|W B (eLCondition_eq _)<|b2 B B<|F (kt<|kb<|ko<|kt<|kn) fun _=>?_
    refine U B (fun hc98=>?_) (fun hc98=>?_)
    ·replace h:=R hc98 h
     refine E<|G<|D B ?_
     obtain ⟨x100,hx100,h⟩:=J h
     refine a2 B B (eLCondition_eq _) hx100 B<|M B B (B:_=eCondition x100)<|a6 B B B B B<|F (kb<|kn) fun _=>?_
     exact L (by cases h;rfl)
    ·replace h:=S hc98 h
     refine T (kt<|kb<|ko<|kn) fun _=>?_
     refine E<|G<|D B<|D B<|e2 B B (show _=eCondition (Condition.mk kind s2.2 (Morphism.mk [] []) (Pattern.mk (Graph.mk [] []) [] 0 [])) from B)<|a6 B B B B B<|F (kb<|kn) fun _=>?_
     exact L (by cases h;rfl)
  ·intro v2 ze hv hR
   replace h:=d8 h hv
   cases h
   exact hR
theorem ck69:CK f69 (Rq [⟨some 1,.boxo (.s 0),none⟩,Bf 2 0 9 1 1 1 3 4 0 5] [1,2]<|Rq [Ba 3 9] [1,2,3]<|Sq (Rq [Ae 4 0] [1,2,3,4]<|Bl 0<|Lo [1,2,3,4]<|Sq (Rq [Aa 5 4,Ac 6 1 1,Ab 7 6,Ag 8 7,Am 9 5 8] [1,2,3,4,9]<|Co 9 (Sk [1,2,3,4])<|Ex 0 [1,2,3])<|Sq (Bl 1<|Re [Ay 12 3,Ac 13 1 1,Ab 14 13,Aa 15 4,Ak 16 14 15 9,Ad 17 16 9,Au 18 69 17,Bh 19 9 18,Bq 20 9 12 19,Ay 3 20] [1,2,3,4])<|Re [Aa 10 4,An 11 10 1,Aa 4 11] [1,2,3,4])<|Sq (Rq [Ac 21 1 0,Ab 22 21,Ar 23 22 3,Aa 24 23,Aq 25 1 0 24,As 26 25 24,Fb 27 26 4 24,At 28 24 27] [1,2,3,28]<|Co 28 (Rq [Ac 29 1 0,Ab 30 29,Aa 31 3,Ap 32 141 30 31,Aj 9 2 32] [2]<|.ret)<|Sk [1,2,3])<|Sq (Rq [Ac 33 1 0,Ab 34 33,Ar 35 34 2,Aa 36 35,Az 37 3 36,Dl 38 37 0 9 36,Cc 39 38 0 36,Aw 40 39 36,Bz 41 40 2 36,Ao 42 36 41] [1,2,3,42]<|Co 42 (Rq [Aa 43 3,By 44 43 0 9,Ai 45 44 1,Ab 46 45,By 47 46 0 9,Ad 48 47 9,Aj 9 2 48] [2]<|.ret)<|Sk [1,2,3])<|Sq (Sq (Dr [49,50,51,52,53,54,55,56,57,58] [Ac 49 1 0,Ab 50 49,Ar 51 50 5,Aa 52 51,Az 53 3 52,Dl 54 53 0 9 52,Be 55 54 9 52,⟨some 56,.call 142 [],some (52,true)⟩,Cd 57 33 55 56 52,Ao 58 52 57] [1,2,3,58])<|Co 58 (Rq [Br 59 142,Aj 9 2 59] [2]<|.ret)<|Sk [1,2,3])<|Rq [Aa 60 3,Ac 61 1 1,Es 1 61 60] [1,2]<|Rq [Ad 62 1 9,Aj 9 2 62] [2]<|.ret) [.cell 2 (some 9)]:= by decide +kernel
theorem c69S (n:Nat) (ih_69:∀ (c:Condition) (r:Condition) (_:ref22_simpleF n c=some r),Sound prog 69 [eCondition c] (.sh (eCondition r))):∀ (c:Condition) (r:Condition) (_:ref22_simpleF (n+1) c=some r),Sound prog 69 [eCondition c] (.sh (eCondition r)):= by
 intro c r h
 refine Fn ck69 fun hw=>?_
 unfold ref22_simpleF at h
 refine E<|G<|q4 B B B B<|b6 B<|F (kb<|kb<|kn) fun _=>?_
 refine E<|G<|e3<|F (kb<|kb<|ko<|kn) fun _=>?_
 refine E<|E<|G<|D B<|F (kb<|kb<|ko<|kt<|kn) fun _=>?_
 obtain ⟨o0,ho0,h⟩:=d6 h
 refine m0 ho0 (fun (s0:List Condition × Int)=>[(1,.bx [⟨false,eI c.Kind⟩,⟨false,eLCondition c.Kids⟩,⟨false,lI c.Map.Nodes⟩,⟨false,lI c.Map.Edges⟩,⟨false,lI c.Pattern.Graph.Nodes⟩,⟨false,lE c.Pattern.Graph.Edges⟩,⟨false,lS c.Pattern.Slots⟩,⟨false,eI c.Pattern.Vars⟩,⟨false,lT c.Pattern.Tests⟩]),(2,.bx [⟨false,eI 0⟩,⟨true,eLCondition []⟩,⟨true,lI []⟩,⟨true,lI []⟩,⟨true,lI []⟩,⟨true,lE []⟩,⟨true,lS []⟩,⟨false,eI 0⟩,⟨true,lT []⟩]),(3,.ow (eLCondition s0.1)),(4,.tv (eI s0.2))]) (fun (s0:List Condition × Int)=>[(1,.bx [⟨false,eI c.Kind⟩,⟨false,eLCondition c.Kids⟩,⟨false,lI c.Map.Nodes⟩,⟨false,lI c.Map.Edges⟩,⟨false,lI c.Pattern.Graph.Nodes⟩,⟨false,lE c.Pattern.Graph.Edges⟩,⟨false,lS c.Pattern.Slots⟩,⟨false,eI c.Pattern.Vars⟩,⟨false,lT c.Pattern.Tests⟩]),(2,.bx [⟨false,eI 0⟩,⟨true,eLCondition []⟩,⟨true,lI []⟩,⟨true,lI []⟩,⟨true,lI []⟩,⟨true,lE []⟩,⟨true,lS []⟩,⟨false,eI 0⟩,⟨true,lT []⟩]),(3,.ow (eLCondition s0.1))]) (fun zv ze=>resIs ([.cell 2 (some 9)]) (.sh (eCondition zv)) ze) B ?_ ?_ ?_
 ·clear h ho0
  intro s0 r0 h hw0
  refine E<|E<|G<|D B<|a7 B<|K B<|W B (eLCondition_eq _)<|Y B B<|F (kb<|kb<|ko<|kt<|kt<|kn) fun _=>?_
  refine U B (fun hc9=>?_) (fun hc9=>?_)
  ·replace h:=R hc9 h
   refine T (kb<|kb<|ko<|kt<|kn) fun _=>?_
   refine E<|b3<|G<|e9 B<|a7 B<|K B<|D B ?_
   obtain ⟨x16,hx16,h⟩:=J h
   refine a2 B B (eLCondition_eq _) hx16 B<|M B B (B:_=eCondition x16) ?_
   obtain ⟨x18,hx18,h⟩:=J h
   refine V B (ih_69 x16 _ hx18)<|g5 (e:=eCondition) (l:=[x18]) B B (fun _=>rfl) (show eLCondition [x18]=_ from eLCondition_lst _) ?_
   obtain ⟨x20,hx20,h⟩:=J h
   refine f6 B B (eLCondition_eq _) (eLCondition_eq _) hx20 (eLCondition_eq _)<|e9 B<|F (kb<|kb<|ko<|kt<|kn) fun _=>?_
   refine G<|D B<|a8 B B<|D B<|F (kb<|kb<|ko<|kt<|kn) ?_
   cases h
   refine ⟨_,B,?_⟩
   rw [Kbx rfl (Kbx rfl (Kow rfl (Ktv rfl (Knil _))))]
   all_goals rfl
  ·replace h:=S hc9 h
   refine b8 (kb<|kb<|ko<|kn) ?_
   refine ⟨rfl,?_⟩
   cases h
   exact ⟨_,rfl,rfl⟩
 ·intro s0 hs
  replace h:=d7 h hs
  intro _
  refine E<|E<|G<|a7 B<|K B<|b2 B B<|D B ?_
  refine gO 4 [25,26,27] 28 (decide (c.Kind=3)) (decide (c.Kind=4)) (fun hg28=>?_) (fun hg28=>?_) ?_
  ·refine I B hg28<|I B hg28<|I B hg28<|a4 B hg28 B ?_
   exact ⟨⟨_,_,_,B⟩⟩
  ·refine H B hg28<|a7 B<|H B hg28<|K B<|H B hg28<|b2 B B<|a5 B hg28 B ?_
   exact ⟨⟨_,_,_,B⟩⟩
  rintro _ ⟨_,_,_,rfl⟩
  refine F (kb<|kb<|ko<|kt<|kn) fun _=>?_
  refine U B (fun hc28=>?_) (fun hc28=>?_)
  ·replace h:=R hc28 h
   refine E<|G<|a7 B<|K B<|D B ?_
   obtain ⟨x32,hx32,h⟩:=J h
   refine V B (c141 c.Kind s0.1 _ hx32)<|a6 B B B B B<|F (kb<|kn) fun _=>?_
   exact L (by cases h;rfl)
  ·replace h:=S hc28 h
   refine T (kb<|kb<|ko<|kn) fun _=>?_
   refine E<|E<|G<|a7 B<|K B<|b2 B B<|D B ?_
   obtain ⟨x42,hx42,h⟩:=J h
   refine gX 6 [37,38,39,40,41] 42 x42 (decide (c.Kind=2)) (fun hg42=>?_) (fun hg42=>?_) ?_
   ·replace h:=R hg42 hx42
    refine H B hg42<|D B ?_
    obtain ⟨x38,hx38,h⟩:=J h
    refine H B hg42<|a2 B B (eLCondition_eq _) hx38 B<|H B hg42<|d5 B<|H B hg42<|K B<|H B hg42<|b2 B B ?_
    cases h
    refine a4 B hg42 B ?_
    exact ⟨⟨_,_,_,_,_,B⟩⟩
   ·replace h:=S hg42 hx42
    cases h
    refine I B hg42<|I B hg42<|I B hg42<|I B hg42<|I B hg42<|a5 B hg42 B ?_
    exact ⟨⟨_,_,_,_,_,B⟩⟩
   rintro _ ⟨_,_,_,_,_,rfl⟩
   refine F (kb<|kb<|ko<|kt<|kn) fun _=>?_
   refine U B (fun hc42=>?_) (fun hc42=>?_)
   ·replace h:=R hc42 h
    refine E<|G<|D B ?_
    obtain ⟨x44,hx44,h⟩:=J h
    refine a2 B B (eLCondition_eq _) hx44 B<|d5 B<|K B ?_
    obtain ⟨x47,hx47,h⟩:=J h
    refine a2 B B (eLCondition_eq _) hx47 B<|M B B (B:_=eCondition x47)<|a6 B B B B B<|F (kb<|kn) fun _=>?_
    exact L (by cases h;rfl)
   ·replace h:=S hc42 h
    refine T (kb<|kb<|ko<|kn) fun _=>?_
    refine E<|E<|e0 B<|a7 B<|K B<|b2 B B<|D B ?_
    obtain ⟨x58,hx58,h⟩:=J h
    refine gX 6 [53,54,55,56,57] 58 x58 (decide (c.Kind=5)) (fun hg58=>?_) (fun hg58=>?_) ?_
    ·replace h:=R hg58 hx58
     refine H B hg58<|D B ?_
     obtain ⟨x54,hx54,h⟩:=J h
     refine H B hg58<|a2 B B (eLCondition_eq _) hx54 B<|H B hg58<|M B B (B:_=eCondition x54) ?_
     obtain ⟨x56,hx56,h⟩:=J h
     refine H B hg58<|V B (c142  _ hx56) ?_
     obtain ⟨x57,hx57,h⟩:=J h
     refine H B hg58<|V B (c33 x54 x56 _ hx57) ?_
     cases h
     refine a4 B hg58 B ?_
     exact ⟨⟨_,_,_,_,_,B⟩⟩
    ·replace h:=S hg58 hx58
     cases h
     refine I B hg58<|I B hg58<|I B hg58<|I B hg58<|I B hg58<|a5 B hg58 B ?_
     exact ⟨⟨_,_,_,_,_,B⟩⟩
    rintro _ ⟨_,_,_,_,_,rfl⟩
    refine F (kb<|kb<|ko<|kt<|kn) fun _=>?_
    refine U B (fun hc58=>?_) (fun hc58=>?_)
    ·replace h:=R hc58 h
     refine E<|G ?_
     obtain ⟨x59,hx59,h⟩:=J h
     refine V B (c142  _ hx59)<|a6 B B B B B<|F (kb<|kn) fun _=>?_
     exact L (by cases h;rfl)
    ·replace h:=S hc58 h
     refine T (kb<|kb<|ko<|kn) fun _=>?_
     refine E<|G<|D B<|a7 B<|u2 B B B B B B<|F (kb<|kb<|kn) fun _=>?_
     refine E<|G<|M B B (B:_=eCondition (Condition.mk c.Kind s0.1 c.Map c.Pattern))<|a6 B B B B B<|F (kb<|kn) fun _=>?_
     exact L (by cases h;rfl)
 ·intro v0 ze hv hR
  replace h:=d8 h hv
  cases h
  exact hR
theorem c69A:∀ n:Nat,(∀ (c:Condition) (r:Condition) (_:ref22_simpleF n c=some r),Sound prog 69 [eCondition c] (.sh (eCondition r))):=by
  intro n
  induction n with
  | zero=>intro c r h; cases h
  | succ n ih=>exact c69S n ih
theorem c69 (c:Condition) (r:Condition) (h:ref22_simple c=some r):Sound prog 69 [eCondition c] (.sh (eCondition r)):=by
  obtain ⟨N,hN⟩:=lim_some h
  exact (c69A N) c r (hN N (Nat.le_refl _))
theorem ck32:CK f32 (Rq [Af 1 0,Bf 2 0 9 1 1 1 3 4 0 5,Ae 3 0] [1,2]<|Sq (Rq [Ad 5 1 9,Au 6 43 5,Aa 4 6] [1,2,4]<|Rq [Aa 7 4,Ax 8 7 0] [1,2,4,8]<|Co 8 (Rq [Fm 9 0 9 1 1 1 3 4 0 5,Aa 10 4,Aj 9 2 9,Aa 3 10] [2,3]<|.ret)<|Sk [1,2])<|Rq [Ad 11 1 9,Au 12 69 11,Aj 9 2 12,Ae 3 0] [2,3]<|.ret) [.cell 2 (some 9),.tmp 3]:= by decide +kernel
theorem c32 (c:Condition) (r:(Condition × Int)) (h:ref22_Simplify c=some r):Sound prog 32 [eCondition c] (.tp [eCondition r.1,eI r.2]):= by
 refine Fn ck32 fun hw=>?_
 unfold ref22_Simplify at h
 refine E<|G<|X B B<|b6 B<|D B<|F (kt<|kb<|kn) fun _=>?_
 refine E<|E<|G<|M B B (B:_=eCondition c) ?_
 obtain ⟨x6,hx6,h⟩:=J h
 refine V B (c43 c _ hx6)<|D B<|F (kt<|kb<|kt<|kn) fun _=>?_
 refine E<|G<|D B<|a9 B B<|F (kt<|kb<|kt<|kt<|kn) fun _=>?_
 refine U B (fun hc8=>?_) (fun hc8=>?_)
 ·replace h:=R hc8 h
  refine E<|G<|e2 B B (show _=eCondition (Condition.mk 0 [] (Morphism.mk [] []) (Pattern.mk (Graph.mk [] []) [] 0 [])) from B)<|D B<|a6 B B B B B<|D B<|F (kb<|kt<|kn) fun _=>?_
  refine L ?_
  cases h
  exact ⟨by decide,rfl⟩
 ·replace h:=S hc8 h
  refine T (kt<|kb<|kn) fun _=>?_
  refine E<|G<|M B B (B:_=eCondition c) ?_
  obtain ⟨x12,hx12,h⟩:=J h
  refine V B (c69 c _ hx12)<|a6 B B B B B<|D B<|F (kb<|kt<|kn) fun _=>?_
  refine L ?_
  cases h
  exact ⟨by decide,rfl⟩
theorem ck9:CK f9 (Rq [Af 2 0,Af 3 1,Ah 4] [2,3]<|Sq (Rq [Br 11 11,Bb 12 11,Aa 13 12,Bk 14 2 9 13,Df 15 13 14 13,Bn 16 15 13,At 17 13 16,Aa 18 17,Bk 19 3 9 18,Df 20 13 19 18,Bn 21 20 18,At 22 18 21] [2,3,22]<|Co 22 (Rq [Br 23 11,Aa 4 23] [4]<|.ret)<|Sk [2,3])<|Rq [Ad 25 2 9,Au 26 31 25,Aa 24 26,Al 27 24 0,Al 28 24 1,Bf 5 0 9 1 1 1 3 4 0 5,Aj 9 5 27,Aa 6 28] [2,3,5,6]<|Rq [Ad 30 2 9,Au 31 32 30,Aa 29 31,Al 32 29 0,Al 33 29 1,Bf 7 0 9 1 1 1 3 4 0 5,Aj 9 7 32,Aa 8 33] [2,3,5,6,7,8]<|Sq (Sq (Dr [34,35,36,37,38,39,40,41,42,43,44,45,46,47,48,49,50,51,52,53,54,55,56,57] [Aa 34 6,Aa 35 8,Bd 36 34 35,Aa 37 36,Bk 38 5 9 37,Bk 39 7 9 37,Bv 40 33 38 39 37,Bn 41 40 37,At 42 37 41,Aa 43 42,Bk 44 2 9 43,Bk 45 3 9 43,Bv 46 34 44 45 43,Bk 47 2 9 43,Bk 48 3 9 43,Bv 49 33 47 48 43,⟨some 50,.bin (.b) .neq (.s 46) (.s 49),some (43,false)⟩,At 51 43 50,Aa 52 51,Bk 53 2 9 52,Bk 54 2 9 52,Bv 55 34 53 54 52,Bn 56 55 52,At 57 52 56] [5,6,57])<|Co 57 (Rq [Ah 4] [4]<|.ret)<|Sk [5,6])<|Sq (Rq [Aa 58 6,Ax 59 58 0] [5,59]<|Co 59 (Rq [Bp 4] [4]<|.ret)<|Sk [5])<|Rq [Ad 61 5 9,Au 62 31 61,Aa 60 62,Al 63 60 0,Al 64 60 1,Bf 9 0 9 1 1 1 3 4 0 5,Aj 9 9 63,Aa 10 64] [5,9,10]<|Rq [Aa 65 10,Ar 66 65 0,Aa 67 66,Be 68 9 9 67,Be 69 5 9 67,Cd 70 34 68 69 67,Ao 71 67 70,Aa 4 71] [4]<|.ret) [.tmp 4]:= by decide +kernel
theorem c9 (c:Condition) (d:Condition) (r:Bool) (h:law22_ConditionSimplify c d=some r):Sound prog 9 [eCondition c,eCondition d] (.sh (eB r)):= by
 refine Fn ck9 fun hw=>?_
 unfold law22_ConditionSimplify at h
 refine E<|G<|X B B<|X B B<|D B<|F km2 fun _=>?_
 refine E<|E<|G ?_
 obtain ⟨x11,hx11,h⟩:=J h
 refine V B (c11  _ hx11)<|d4 B<|D B ?_
 obtain ⟨x17,hx17,h⟩:=J h
 refine gX 4 [14,15,16] 17 x17 (!x11) (fun hg17=>?_) (fun hg17=>?_) ?_
 ·replace h:=R hg17 hx17
  cases h
  refine I B hg17<|I B hg17<|I B hg17<|a4 B hg17 B ?_
  exact ⟨⟨_,_,_,B⟩⟩
 ·replace h:=S hg17 hx17
  refine H B hg17<|M B B (B:_=eCondition c) ?_
  obtain ⟨x15,hx15,h⟩:=J h
  refine H B hg17<|V B (c13 c _ hx15)<|H B hg17<|d4 B ?_
  cases h
  refine a5 B hg17 B ?_
  exact ⟨⟨_,_,_,B⟩⟩
 rintro _ ⟨_,_,_,rfl⟩
 refine D B ?_
 obtain ⟨x22,hx22,h⟩:=J h
 refine gX 4 [19,20,21] 22 x22 x17 (fun hg22=>?_) (fun hg22=>?_) ?_
 ·replace h:=R hg22 hx22
  cases h
  refine I B hg22<|I B hg22<|I B hg22<|a4 B hg22 B ?_
  exact ⟨⟨_,_,_,B⟩⟩
 ·replace h:=S hg22 hx22
  refine H B hg22<|M B B (B:_=eCondition d) ?_
  obtain ⟨x20,hx20,h⟩:=J h
  refine H B hg22<|V B (c13 d _ hx20)<|H B hg22<|d4 B ?_
  cases h
  refine a5 B hg22 B ?_
  exact ⟨⟨_,_,_,B⟩⟩
 rintro _ ⟨_,_,_,rfl⟩
 refine F km3 fun _=>?_
 refine U B (fun hc22=>?_) (fun hc22=>?_)
 ·replace h:=R hc22 h
  refine E<|G ?_
  obtain ⟨x23,hx23,h⟩:=J h
  refine V B (c11  _ hx23)<|D B<|F km1 fun _=>?_
  exact L (by cases h;rfl)
 ·replace h:=S hc22 h
  refine T km2 fun _=>?_
  refine E<|G<|M B B (B:_=eCondition c) ?_
  obtain ⟨x26,hx26,h⟩:=J h
  refine e8 B (c31 c _ hx26)<|e5 B<|b4 B B<|b4 B B<|b6 B<|a6 B B B B B<|D B<|F (kt<|kt<|kb<|kt<|kn) fun _=>?_
  refine E<|G<|M B B (B:_=eCondition c) ?_
  obtain ⟨x31,hx31,h⟩:=J h
  refine e8 B (c32 c _ hx31)<|e5 B<|b4 B B<|b4 B B<|b6 B<|a6 B B B B B<|D B<|F (kt<|kt<|kb<|kt<|kb<|kt<|kn) fun _=>?_
  refine E<|E<|e0 B<|D B<|D B<|a9 B B<|D B ?_
  obtain ⟨x42,hx42,h⟩:=J h
  refine gX 5 [38,39,40,41] 42 x42 (!decide (x26.2=x31.2)) (fun hg42=>?_) (fun hg42=>?_) ?_
  ·replace h:=R hg42 hx42
   cases h
   refine I B hg42<|I B hg42<|I B hg42<|I B hg42<|a4 B hg42 B ?_
   exact ⟨⟨_,_,_,_,B⟩⟩
  ·replace h:=S hg42 hx42
   refine H B hg42<|M B B (B:_=eCondition x26.1)<|H B hg42<|M B B (B:_=eCondition x31.1) ?_
   obtain ⟨x40,hx40,h⟩:=J h
   refine H B hg42<|V B (c33 x26.1 x31.1 _ hx40)<|H B hg42<|d4 B ?_
   cases h
   refine a5 B hg42 B ?_
   exact ⟨⟨_,_,_,_,B⟩⟩
  rintro _ ⟨_,_,_,_,rfl⟩
  refine D B ?_
  obtain ⟨x51,hx51,h⟩:=J h
  refine gX 8 [44,45,46,47,48,49,50] 51 x51 x42 (fun hg51=>?_) (fun hg51=>?_) ?_
  ·replace h:=R hg51 hx51
   cases h
   refine I B hg51<|I B hg51<|I B hg51<|I B hg51<|I B hg51<|I B hg51<|I B hg51<|a4 B hg51 B ?_
   exact ⟨⟨_,_,_,_,_,_,_,B⟩⟩
  ·replace h:=S hg51 hx51
   refine H B hg51<|M B B (B:_=eCondition c)<|H B hg51<|M B B (B:_=eCondition d) ?_
   obtain ⟨x46,hx46,h⟩:=J h
   refine H B hg51<|V B (c34 c d _ hx46)<|H B hg51<|M B B (B:_=eCondition c)<|H B hg51<|M B B (B:_=eCondition d) ?_
   obtain ⟨x49,hx49,h⟩:=J h
   refine H B hg51<|V B (c33 c d _ hx49)<|H B hg51<|u3 B B ?_
   cases h
   refine a5 B hg51 B ?_
   exact ⟨⟨_,_,_,_,_,_,_,B⟩⟩
  rintro _ ⟨_,_,_,_,_,_,_,rfl⟩
  refine D B ?_
  obtain ⟨x57,hx57,h⟩:=J h
  refine gX 5 [53,54,55,56] 57 x57 x51 (fun hg57=>?_) (fun hg57=>?_) ?_
  ·replace h:=R hg57 hx57
   cases h
   refine I B hg57<|I B hg57<|I B hg57<|I B hg57<|a4 B hg57 B ?_
   exact ⟨⟨_,_,_,_,B⟩⟩
  ·replace h:=S hg57 hx57
   refine H B hg57<|M B B (B:_=eCondition c)<|H B hg57<|M B B (B:_=eCondition c) ?_
   obtain ⟨x55,hx55,h⟩:=J h
   refine H B hg57<|V B (c34 c c _ hx55)<|H B hg57<|d4 B ?_
   cases h
   refine a5 B hg57 B ?_
   exact ⟨⟨_,_,_,_,B⟩⟩
  rintro _ ⟨_,_,_,_,rfl⟩
  refine F (kb<|kt<|kt<|kn) fun _=>?_
  refine U B (fun hc57=>?_) (fun hc57=>?_)
  ·replace h:=R hc57 h
   refine E<|G<|D B<|F km1 fun _=>?_
   exact L (by cases h;rfl)
  ·replace h:=S hc57 h
   refine T (kb<|kt<|kn) fun _=>?_
   refine E<|E<|G<|D B<|a9 B B<|F (kb<|kt<|kn) fun _=>?_
   refine U B (fun hc59=>?_) (fun hc59=>?_)
   ·replace h:=R hc59 h
    refine E<|G<|D B<|F km1 fun _=>?_
    exact L (by cases h;rfl)
   ·replace h:=S hc59 h
    refine T (kb<|kn) fun _=>?_
    refine E<|G<|M B B (B:_=eCondition x26.1) ?_
    obtain ⟨x62,hx62,h⟩:=J h
    refine e8 B (c31 x26.1 _ hx62)<|e5 B<|b4 B B<|b4 B B<|b6 B<|a6 B B B B B<|D B<|F (kb<|kb<|kt<|kn) fun _=>?_
    refine E<|G<|D B<|b2 B B<|D B ?_
    obtain ⟨x71,hx71,h⟩:=J h
    refine gX 4 [68,69,70] 71 x71 (decide (x62.2=0)) (fun hg71=>?_) (fun hg71=>?_) ?_
    ·replace h:=R hg71 hx71
     refine H B hg71<|M B B (B:_=eCondition x62.1)<|H B hg71<|M B B (B:_=eCondition x26.1) ?_
     obtain ⟨x70,hx70,h⟩:=J h
     refine H B hg71<|V B (c34 x62.1 x26.1 _ hx70) ?_
     cases h
     refine a4 B hg71 B ?_
     exact ⟨⟨_,_,_,B⟩⟩
    ·replace h:=S hg71 hx71
     cases h
     refine I B hg71<|I B hg71<|I B hg71<|a5 B hg71 B ?_
     exact ⟨⟨_,_,_,B⟩⟩
    rintro _ ⟨_,_,_,rfl⟩
    refine D B<|F km1 fun _=>?_
    exact L (by cases h;rfl)
end Go.Sf.Sc
