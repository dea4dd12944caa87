/- Contracts of the functions. -/
import Derived.Test.YtbedpmpjdnooiaaGreatCon0
import Derived.Test.YtbedpmpjdnooiaaGreatTryzShelf
set_option maxRecDepth 100000
namespace Go.Sf.Sc
open Go Go.Sf Go.Proofs.Tryz
theorem ck162:CK f162 (Rq [Ak 4] [0,1,2]<|Rq [Ac 6 1 1,Ab 7 6,Aa 8 0,Ag 9 7 8 3,Ae 10 9 3,By 5 0 0 0,Aj 3 5 10] [1,2,5]<|Sq (Dr [4,11,12,13,14,15,16,17,18,19,20,21,22,23,24,25,26,27] [Ae 11 2 2,Ac 12 5 0,Ab 13 12,Ac 14 1 0,Ab 15 14,Ac 16 5 1,Ab 17 16,Ag 18 15 17 1,Ab 19 18,Ac 20 1 0,Ab 21 20,Ac 22 5 2,Ab 23 22,Ag 24 21 23 1,Ab 25 24,Bz 26 56 11 13 19 25,Az 27 26,Aa 4 27] [4])<|.ret) [.tmp 4]:= by decide +kernel
theorem c162 (i_0:Int) (c0:Graph) (c1:Types) (r:Bool) (h:rule_makable_2 i_0 c0 c1=some r):Sound prog 162 [eI i_0,.pt (eGraph c0).cells,.pt (eTypes c1).cells] (.sh (eB r)):= by
 refine Fn ck162 fun hw=>?_
 unfold rule_makable_2 at h
 refine D<|F<|C rfl<|E (kt<|kt<|kt<|kn) fun _=>?_
 refine D<|F<|K rfl<|J rfl<|C rfl ?_
 obtain ⟨x9,hx9,h⟩:=I h
 refine W rfl rfl rfl hx9 rfl<|R rfl rfl (show _=eEdge x9 from rfl)<|b1 rfl<|a8 rfl rfl rfl rfl rfl<|E (kt<|kt<|kb<|kn) fun _=>?_
 refine D<|b9 rfl<|R rfl rfl (show _=eTypes c1 from rfl)<|a3 rfl<|J rfl<|K rfl<|J rfl<|a3 rfl<|J rfl ?_
 obtain ⟨x18,hx18,h⟩:=I h
 refine W rfl rfl rfl hx18 rfl<|J rfl<|K rfl<|J rfl<|a3 rfl<|J rfl ?_
 obtain ⟨x24,hx24,h⟩:=I h
 refine W rfl rfl rfl hx24 rfl<|J rfl ?_
 obtain ⟨x26,hx26,h⟩:=I h
 refine T rfl (c56 c1 x9.Type' x18 x24 _ hx26)<|d0 rfl<|C rfl<|E (kt<|kn) fun _=>?_
 exact L (by cases h;rfl)
theorem ck102:CK f102 (Rq [Af 4 0,Af 5 1,Ak 8] [2,3,4,5]<|Rq [Aa 9 2,Dh 10 161 4 5,Al 11 30 9 10,Az 12 11,Aa 13 12,Aq 14 3 13,⟨some 15,.clo 162 [.s 5,.s 4],some (13,true)⟩,Ch 16 30 14 15 13,Eq 17 16 13,At 18 13 17,Aa 8 18] [8]<|.ret) [.tmp 8]:= by decide +kernel
theorem c102 (t:Types) (g:Graph) (nodes:List Int) (edges:List Int) (r:Bool) (h:rule_makable t g nodes edges=some r):Sound prog 102 [eTypes t,eGraph g,lI nodes,lI edges] (.sh (eB r)):= by
 refine Fn ck102 fun hw=>?_
 unfold rule_makable at h
 refine D<|F<|a4 rfl rfl<|a4 rfl rfl<|C rfl<|E (kt<|kt<|kt<|kt<|kn) fun _=>?_
 refine D<|F<|C rfl<|g2 rfl ?_
 obtain ⟨x11,hx11,h⟩:=I h
 refine T rfl (c30 nodes (fun y0=>rule_makable_1 y0 t g) _ _ (fun y0 r h=>c161 y0 t g r h) _ hx11)<|d0 rfl<|C rfl ?_
 obtain ⟨x18,hx18,h⟩:=I h
 refine gX 5 [14,15,16,17] 18 x18 (!x11) (fun hg18=>?_) (fun hg18=>?_) ?_
 ·replace h:=M hg18 hx18
  refine G rfl hg18<|C rfl<|G rfl hg18<|g2 rfl ?_
  obtain ⟨x16,hx16,h⟩:=I h
  refine G rfl hg18<|T rfl (c30 edges (fun y0=>rule_makable_2 y0 g t) _ _ (fun y0 r h=>c162 y0 g t r h) _ hx16)<|G rfl hg18<|d0 rfl ?_
  cases h
  refine Y rfl hg18 rfl ?_
  exact ⟨⟨_,_,_,_,rfl⟩⟩
 ·replace h:=O hg18 hx18
  cases h
  refine H rfl hg18<|H rfl hg18<|H rfl hg18<|H rfl hg18<|Z rfl hg18 rfl ?_
  exact ⟨⟨_,_,_,_,rfl⟩⟩
 rintro _ ⟨_,_,_,_,rfl⟩
 refine C rfl<|E (kt<|kn) fun _=>?_
 exact L (by cases h;rfl)
theorem ck243:CK f243 (Rq [Af 1 0,Ak 2] [1]<|Rq [Ac 4 1 4,Ae 5 4 5,Et 3 1 3 4 0 5,Aj 5 3 5] [1,3]<|Rq [Ac 6 1 2,Ai 7 6 0,Ab 8 7,Ah 9 8,Ac 10 1 2,Ai 11 10 1,Ab 12 11,Ah 13 12,Bn 14 9 13,Ac 15 3 0,Ai 16 15 0,Ab 17 16,Ah 18 17,Bn 19 14 18,Ac 20 3 0,Ai 21 20 1,Ab 22 21,Ah 23 22,Bn 24 19 23,Ac 25 3 2,Ab 26 25,Ah 27 26,Bn 28 24 27,Ac 29 3 4,Ab 30 29,Ah 31 30,Bn 32 28 31,Be 33 32 0,Aa 34 33,Ba 35 3 3 34,Ax 36 35 34,Di 37 36 0 34,At 38 34 37,Aa 2 38] [2]<|.ret) [.tmp 2]:= by decide +kernel
theorem c243 (c:Condition) (r:Bool) (h:condition_bare c=some r):Sound prog 243 [eCondition c] (.sh (eB r)):= by
 refine Fn ck243 fun hw=>?_
 unfold condition_bare at h
 refine D<|F<|a4 rfl rfl<|C rfl<|E (kt<|kn) fun _=>?_
 refine D<|F<|K rfl<|R rfl rfl (show _=ePattern c.Pattern from rfl)<|b1 rfl<|a8 rfl rfl rfl rfl rfl<|E (kt<|kb<|kn) fun _=>?_
 refine D<|F<|K rfl<|a6 rfl<|J rfl<|U rfl rfl<|K rfl<|a6 rfl<|J rfl<|U rfl rfl<|a7 rfl rfl<|a3 rfl<|f3 rfl rfl<|J rfl<|U rfl rfl<|a7 rfl rfl<|a3 rfl<|f3 rfl rfl<|J rfl<|U rfl rfl<|a7 rfl rfl<|a3 rfl<|J rfl<|U rfl rfl<|a7 rfl rfl<|a3 rfl<|J rfl<|U rfl rfl<|a7 rfl rfl<|d1 rfl rfl ?_
 refine C rfl ?_
 refine gA 4 [35,36,37] 38 (decide ((w64 ((w64 ((w64 ((w64 ((w64 ((c.Map.Nodes.length:Int)+(c.Map.Edges.length:Int)))+(c.Pattern.Graph.Nodes.length:Int)))+(c.Pattern.Graph.Edges.length:Int)))+(c.Pattern.Slots.length:Int)))+(c.Pattern.Tests.length:Int)))=0)) (decide (c.Pattern.Vars=0)) (fun hg38=>?_) (fun hg38=>?_) ?_
 ·refine G rfl hg38<|a3 rfl<|G rfl hg38<|J rfl<|G rfl hg38<|d1 rfl rfl<|Y rfl hg38 rfl ?_
  exact ⟨⟨_,_,_,rfl⟩⟩
 ·refine H rfl hg38<|H rfl hg38<|H rfl hg38<|Z rfl hg38 rfl ?_
  exact ⟨⟨_,_,_,rfl⟩⟩
 rintro _ ⟨_,_,_,rfl⟩
 refine C rfl<|E (kt<|kn) fun _=>?_
 exact L (by cases h;rfl)
theorem ck257:CK f257 (Rq [Ad 4 0] [0,1]<|Sq (Rq [Aa 6 0,Ah 7 6,Ad 8 0] [0,1,7,8]<|Bl 0<|Lo [0,1,7,8]<|Rq [Ap 9 8 7] [0,1,7,8,9]<|Sq (Co 9 (Sk [0,1,7,8])<|Ex 0 [])<|Sq (Bl 1<|Rq [Aa 10 8,Aa 5 10] [0,1,5,7,8]<|Rq [Aa 11 1,Aa 12 0,Aa 13 5,Ag 14 12 13 9,Ae 15 14 9,Bw 16 11 15] [0,1,5,7,8,16]<|Co 16 (Rq [Aa 17 5,Aa 4 17] [4]<|.ret)<|Sk [0,1,7,8])<|Re [An 18 8 1,Aa 8 18] [0,1,7,8])<|Rq [Cd 4 (-1)] [4]<|.ret) [.tmp 4]:= by decide +kernel
theorem c257 (s_0:List Condition) (f:Condition->Option Bool) (f_f:FuncId) (k_f:List TV) (h_f:∀ (y0:Condition) r,f y0=some r->Sound prog f_f ([eCondition y0]++k_f) (.sh (eB r))) (r:Int) (h:slices_IndexFunc_Condition s_0 f=some r):Sound prog 257 [eLCondition s_0,.clo f_f k_f] (.sh (eI r)):= by
 refine Fn ck257 fun hw=>?_
 unfold slices_IndexFunc_Condition at h
 refine D<|F<|C rfl<|E (kt<|kt<|kn) fun _=>?_
 refine D<|D<|F<|C rfl<|U rfl (eLCondition_eq _)<|C rfl<|E (kt<|kt<|kt<|kt<|kn) fun _=>?_
 obtain ⟨o0,ho0,h⟩:=d2 h
 refine d6 ho0 (fun (i0:Int) (_:Unit)=>[(0,.tv (eLCondition s_0)),(1,.tv (.clo f_f k_f)),(7,.tv (eI (s_0.length:Int))),(8,.tv (eI i0))]) (fun (_:Unit)=>[]) (fun zv ze=>resIs ([.tmp 4]) (.sh (eI zv)) ze) rfl ?_ ?_ ?_ ?_
 ·clear h ho0
  intro i0 s0 r0 hi0 h hw0
  refine D<|F<|V rfl rfl<|E (kt<|kt<|kt<|kt<|kt<|kn) fun _=>?_
  refine D<|b5 rfl (b6 hi0)<|P (kt<|kt<|kt<|kt<|kn) fun _=>?_
  refine D<|b0<|D<|F<|C rfl<|C rfl<|E (kt<|kt<|kt<|kt<|kt<|kn) fun _=>?_
  refine D<|F<|C rfl<|C rfl<|C rfl ?_
  obtain ⟨x14,hx14,h⟩:=I h
  refine W rfl rfl (eLCondition_eq _) hx14 rfl<|R rfl rfl (show _=eCondition x14 from rfl) ?_
  obtain ⟨x16,hx16,h⟩:=I h
  refine g3 rfl rfl (h_f _ _ hx16)<|E (kt<|kt<|kt<|kt<|kt<|kt<|kn) fun _=>?_
  refine S rfl (fun hc16=>?_) (fun hc16=>?_)
  ·replace h:=M hc16 h
   refine D<|F<|C rfl<|C rfl<|E (kt<|kn) fun _=>?_
   refine L ?_
   cases h
   exact ⟨_,rfl,rfl⟩
  ·replace h:=O hc16 h
   refine P (kt<|kt<|kt<|kt<|kn) fun _=>?_
   refine F<|a7 rfl rfl<|C rfl<|E (kt<|kt<|kt<|kt<|kn) ?_
   cases h
   refine ⟨_,rfl,?_⟩
   rw [Ktv rfl (Ktv rfl (Ktv rfl (Ktv rfl (Knil _))))]
   rw [b4 (a5 (hw0 8)) hi0 (e0 (a5 (hw0 7)))]
   all_goals rfl
 ·intro i0 s0 hi0
  refine D<|F<|V rfl rfl<|E (kt<|kt<|kt<|kt<|kt<|kn) fun _=>?_
  refine D<|b7 rfl (b8 hi0)<|b3 (kn) ?_
  exact ⟨rfl,rfl⟩
 ·intro s0 hs
  replace h:=d3 h hs
  intro _
  refine D<|F<|C rfl<|E (kt<|kn) fun _=>?_
  exact L (by cases h;rfl)
 ·intro v0 ze hv hR
  replace h:=d4 h hv
  cases h
  exact hR
theorem ck244:CK f244 (Rq [Ak 4] [0,1]<|Rq [Aa 5 0,Aa 6 1,Al 7 257 5 6,Bo 8 7 0,Aa 4 8] [4]<|.ret) [.tmp 4]:= by decide +kernel
theorem c244 (s_0:List Condition) (f:Condition->Option Bool) (f_f:FuncId) (k_f:List TV) (h_f:∀ (y0:Condition) r,f y0=some r->Sound prog f_f ([eCondition y0]++k_f) (.sh (eB r))) (r:Bool) (h:slices_ContainsFunc_Condition s_0 f=some r):Sound prog 244 [eLCondition s_0,.clo f_f k_f] (.sh (eB r)):= by
 refine Fn ck244 fun hw=>?_
 unfold slices_ContainsFunc_Condition at h
 refine D<|F<|C rfl<|E (kt<|kt<|kn) fun _=>?_
 refine D<|F<|C rfl<|C rfl ?_
 obtain ⟨x7,hx7,h⟩:=I h
 refine T rfl (c257 s_0 f _ _ h_f _ hx7)<|d5 rfl rfl<|C rfl<|E (kt<|kn) fun _=>?_
 exact L (by cases h;rfl)
theorem ck209:CK f209 (Rq [Af 1 0,Ak 2] [1]<|Rq [Ac 5 1 1,Ab 6 5,Ah 7 6,Aa 3 7] [1,3]<|Rq [Ak 4] [1,3,4]<|Sq (Rq [Ac 8 1 0,Ab 9 8] [1,3,4,9]<|Bl 0<|Rq [Be 11 9 1,Aa 10 11] [1,3,4,9,10]<|Co 10 (Re [Aa 12 3,Be 13 12 0,Aa 14 13,Cq 15 1 9 14,Cc 16 243 15 14,At 17 14 16,Aa 4 17] [1,4])<|Rq [Be 19 9 2,Aa 18 19] [1,3,4,9,18]<|Co 18 (Re [Aa 20 3,Be 21 20 1,Aa 22 21,Cq 23 1 9 22,Cc 24 243 23 22,At 25 22 24,Aa 4 25] [1,4])<|Sq (Rq [Be 27 9 3,Aa 26 27] [1,3,4,9,26]<|Co 26 (Sk [1,3,4,9,26])<|Re [Be 28 9 4,Aa 26 28] [1,3,4,9,26])<|Co 26 (Re [Aa 29 3,Bo 30 29 1,Aa 31 30,Cq 32 1 9 31,Cc 33 243 32 31,At 34 31 33,Aa 4 34] [1,4])<|Rq [Be 36 9 5,Aa 35 36] [1,3,4,35]<|Co 35 (Re [Aa 37 3,Be 38 37 1,Aa 4 38] [1,4])<|Sk [1,4])<|Rq [Aa 39 4,Aa 40 39,Ba 41 1 1 40,Ax 42 41 40,⟨some 43,.call 244 [.s 42,.c (.clo 245 [])],some (40,true)⟩,Eq 44 43 40,At 45 40 44,Aa 2 45] [2]<|.ret) [.tmp 2]:= by decide +kernel
theorem ck245:CK f245 (Rq [Af 1 0,Ak 2] [1]<|Rq [Ae 3 1 9,Au 4 209 3,Az 5 4,Aa 2 5] [2]<|.ret) [.tmp 2]:= by decide +kernel
theorem c209S (n:Nat) (ih_209:∀ (c:Condition) (r:Bool) (_:condition_wellFormedF n c=some r),Sound prog 209 [eCondition c] (.sh (eB r))) (ih_245:∀ (k:Condition) (r:Bool) (_:condition_wellFormed_1F n k=some r),Sound prog 245 [eCondition k] (.sh (eB r))):∀ (c:Condition) (r:Bool) (_:condition_wellFormedF (n+1) c=some r),Sound prog 209 [eCondition c] (.sh (eB r)):= by
 intro c r h
 refine Fn ck209 fun hw=>?_
 unfold condition_wellFormedF at h
 refine D<|F<|a4 rfl rfl<|C rfl<|E (kt<|kn) fun _=>?_
 refine D<|F<|K rfl<|J rfl<|U rfl (eLCondition_eq _)<|C rfl<|E (kt<|kt<|kn) fun _=>?_
 refine D<|F<|C rfl<|E (kt<|kt<|kt<|kn) fun _=>?_
 refine D<|D<|F<|K rfl<|J rfl<|E (kt<|kt<|kt<|kt<|kn) fun _=>?_
 refine b0<|D<|F<|d1 rfl rfl<|C rfl<|E (kt<|kt<|kt<|kt<|kt<|kn) fun _=>?_
 obtain ⟨w1,hw1,h⟩:=I h
 refine l0 (fun ze=>ze=[(1,.tv (.pt (eCondition c).cells)),(4,.tv (eB w1))]) ?_ ?_
 ·replace h:=hw1
  clear hw1
  refine S rfl (fun hc10=>?_) (fun hc10=>?_)
  ·replace h:=M hc10 h
   refine F<|C rfl<|d1 rfl rfl<|C rfl ?_
   obtain ⟨x17,hx17,h⟩:=I h
   refine gX 3 [15,16] 17 x17 (decide ((c.Kids.length:Int)=0)) (fun hg17=>?_) (fun hg17=>?_) ?_
   ·replace h:=M hg17 hx17
    refine G rfl hg17<|R rfl rfl (show _=eCondition c from rfl) ?_
    obtain ⟨x16,hx16,h⟩:=I h
    refine G rfl hg17<|T rfl (c243 c _ hx16) ?_
    cases h
    refine Y rfl hg17 rfl ?_
    exact ⟨⟨_,_,rfl⟩⟩
   ·replace h:=O hg17 hx17
    cases h
    refine H rfl hg17<|H rfl hg17<|Z rfl hg17 rfl ?_
    exact ⟨⟨_,_,rfl⟩⟩
   rintro _ ⟨_,_,rfl⟩
   refine C rfl<|E (kt<|kt<|kn) ?_
   cases h
   exact rfl
  ·replace h:=O hc10 h
   refine D<|F<|d1 rfl rfl<|C rfl<|E (kt<|kt<|kt<|kt<|kt<|kn) fun _=>?_
   refine S rfl (fun hc18=>?_) (fun hc18=>?_)
   ·replace h:=M hc18 h
    refine F<|C rfl<|d1 rfl rfl<|C rfl ?_
    obtain ⟨x25,hx25,h⟩:=I h
    refine gX 3 [23,24] 25 x25 (decide ((c.Kids.length:Int)=1)) (fun hg25=>?_) (fun hg25=>?_) ?_
    ·replace h:=M hg25 hx25
     refine G rfl hg25<|R rfl rfl (show _=eCondition c from rfl) ?_
     obtain ⟨x24,hx24,h⟩:=I h
     refine G rfl hg25<|T rfl (c243 c _ hx24) ?_
     cases h
     refine Y rfl hg25 rfl ?_
     exact ⟨⟨_,_,rfl⟩⟩
    ·replace h:=O hg25 hx25
     cases h
     refine H rfl hg25<|H rfl hg25<|Z rfl hg25 rfl ?_
     exact ⟨⟨_,_,rfl⟩⟩
    rintro _ ⟨_,_,rfl⟩
    refine C rfl<|E (kt<|kt<|kn) ?_
    cases h
    exact rfl
   ·replace h:=O hc18 h
    refine D<|D<|F<|d1 rfl rfl<|C rfl<|E (kt<|kt<|kt<|kt<|kt<|kn) fun _=>?_
    refine S rfl (fun hc26=>?_) (fun hc26=>?_)
    ·replace h:=M hc26 h
     refine P (kt<|kt<|kt<|kt<|kt<|kn) fun _=>?_
     refine S rfl (fun hc26=>?_) (fun hc26=>?_)
     ·replace h:=M hc26 h
      refine F<|C rfl<|d5 rfl rfl<|C rfl ?_
      obtain ⟨x34,hx34,h⟩:=I h
      refine gX 3 [32,33] 34 x34 (decide (1<=(c.Kids.length:Int))) (fun hg34=>?_) (fun hg34=>?_) ?_
      ·replace h:=M hg34 hx34
       refine G rfl hg34<|R rfl rfl (show _=eCondition c from rfl) ?_
       obtain ⟨x33,hx33,h⟩:=I h
       refine G rfl hg34<|T rfl (c243 c _ hx33) ?_
       cases h
       refine Y rfl hg34 rfl ?_
       exact ⟨⟨_,_,rfl⟩⟩
      ·replace h:=O hg34 hx34
       cases h
       refine H rfl hg34<|H rfl hg34<|Z rfl hg34 rfl ?_
       exact ⟨⟨_,_,rfl⟩⟩
      rintro _ ⟨_,_,rfl⟩
      refine C rfl<|E (kt<|kt<|kn) ?_
      cases h
      exact rfl
     ·replace h:=O hc26 h
      refine D<|F<|d1 rfl rfl<|C rfl<|E (kt<|kt<|kt<|kt<|kn) fun _=>?_
      refine S rfl (fun hc35=>?_) (fun hc35=>?_)
      ·replace h:=M hc35 h
       refine F<|C rfl<|d1 rfl rfl<|C rfl<|E (kt<|kt<|kn) ?_
       cases h
       exact rfl
      ·replace h:=O hc35 h
       refine P (kt<|kt<|kn) ?_
       cases h
       exact rfl
    ·replace h:=O hc26 h
     refine F<|d1 rfl rfl<|C rfl<|E (kt<|kt<|kt<|kt<|kt<|kn) fun _=>?_
     refine S rfl (fun hc26=>?_) (fun hc26=>?_)
     ·replace h:=M hc26 h
      refine F<|C rfl<|d5 rfl rfl<|C rfl ?_
      obtain ⟨x34,hx34,h⟩:=I h
      refine gX 3 [32,33] 34 x34 (decide (1<=(c.Kids.length:Int))) (fun hg34=>?_) (fun hg34=>?_) ?_
      ·replace h:=M hg34 hx34
       refine G rfl hg34<|R rfl rfl (show _=eCondition c from rfl) ?_
       obtain ⟨x33,hx33,h⟩:=I h
       refine G rfl hg34<|T rfl (c243 c _ hx33) ?_
       cases h
       refine Y rfl hg34 rfl ?_
       exact ⟨⟨_,_,rfl⟩⟩
      ·replace h:=O hg34 hx34
       cases h
       refine H rfl hg34<|H rfl hg34<|Z rfl hg34 rfl ?_
       exact ⟨⟨_,_,rfl⟩⟩
      rintro _ ⟨_,_,rfl⟩
      refine C rfl<|E (kt<|kt<|kn) ?_
      cases h
      exact rfl
     ·replace h:=O hc26 h
      refine D<|F<|d1 rfl rfl<|C rfl<|E (kt<|kt<|kt<|kt<|kn) fun _=>?_
      refine S rfl (fun hc35=>?_) (fun hc35=>?_)
      ·replace h:=M hc35 h
       refine F<|C rfl<|d1 rfl rfl<|C rfl<|E (kt<|kt<|kn) ?_
       cases h
       exact rfl
      ·replace h:=O hc35 h
       refine P (kt<|kt<|kn) ?_
       cases h
       exact rfl
 rintro _ rfl
 intro _
 refine D<|F<|C rfl<|C rfl ?_
 obtain ⟨x45,hx45,h⟩:=I h
 refine gX 5 [41,42,43,44] 45 x45 w1 (fun hg45=>?_) (fun hg45=>?_) ?_
 ·replace h:=M hg45 hx45
  refine G rfl hg45<|K rfl<|G rfl hg45<|J rfl ?_
  obtain ⟨x43,hx43,h⟩:=I h
  refine G rfl hg45<|T rfl (c244 c.Kids (condition_wellFormed_1F n) _ _ (fun y0 r h=>ih_245 y0 r h) _ hx43)<|G rfl hg45<|d0 rfl ?_
  cases h
  refine Y rfl hg45 rfl ?_
  exact ⟨⟨_,_,_,_,rfl⟩⟩
 ·replace h:=O hg45 hx45
  cases h
  refine H rfl hg45<|H rfl hg45<|H rfl hg45<|H rfl hg45<|Z rfl hg45 rfl ?_
  exact ⟨⟨_,_,_,_,rfl⟩⟩
 rintro _ ⟨_,_,_,_,rfl⟩
 refine C rfl<|E (kt<|kn) fun _=>?_
 exact L (by cases h;rfl)
theorem c245S (n:Nat) (ih_209:∀ (c:Condition) (r:Bool) (_:condition_wellFormedF n c=some r),Sound prog 209 [eCondition c] (.sh (eB r))) (ih_245:∀ (k:Condition) (r:Bool) (_:condition_wellFormed_1F n k=some r),Sound prog 245 [eCondition k] (.sh (eB r))):∀ (k:Condition) (r:Bool) (_:condition_wellFormed_1F (n+1) k=some r),Sound prog 245 [eCondition k] (.sh (eB r)):= by
 intro k r h
 refine Fn ck245 fun hw=>?_
 unfold condition_wellFormed_1F at h
 refine D<|F<|a4 rfl rfl<|C rfl<|E (kt<|kn) fun _=>?_
 refine D<|F<|R rfl rfl (show _=eCondition k from rfl) ?_
 obtain ⟨x4,hx4,h⟩:=I h
 refine T rfl (ih_209 k _ hx4)<|d0 rfl<|C rfl<|E (kt<|kn) fun _=>?_
 exact L (by cases h;rfl)
theorem c209A:∀ n:Nat,(∀ (c:Condition) (r:Bool) (_:condition_wellFormedF n c=some r),Sound prog 209 [eCondition c] (.sh (eB r)))∧(∀ (k:Condition) (r:Bool) (_:condition_wellFormed_1F n k=some r),Sound prog 245 [eCondition k] (.sh (eB r))):=by
  intro n
  induction n with
  | zero=>exact ⟨(by intro c r h; cases h),(by intro k r h; cases h)⟩
  | succ n ih=>exact ⟨c209S n ih.1 ih.2,c245S n ih.1 ih.2⟩
theorem c209 (c:Condition) (r:Bool) (h:condition_wellFormed c=some r):Sound prog 209 [eCondition c] (.sh (eB r)):=by
  obtain ⟨N,hN⟩:=lim_some h
  exact (c209A N).1 c r (hN N (Nat.le_refl _))
theorem ck210:CK f210 (Rq [Af 1 0,Ad 2 0,Ad 3 0] [1]<|Rq [Ad 4 1,Ad 5 0] [1,4,5]<|Sq (Rq [Ac 10 1 1,Ab 11 10,Ah 12 11,Ad 13 0] [1,4,5,11,12,13]<|Bl 0<|Lo [1,4,5,11,12,13]<|Rq [Ap 14 13 12] [1,4,5,11,12,13,14]<|Sq (Co 14 (Sk [1,4,5,11,12,13])<|Ex 0 [1,4,5])<|Sq (Bl 1<|Rq [Ag 15 11 13 9,Ae 16 15 9,Ff 7 0 9 1 1 1 3 4 0 5,Aj 9 7 16] [1,4,5,7,11,12,13]<|Rq [Ae 18 7 9,Au 19 210 18,Aa 17 19,Am 20 17 0,Am 21 17 1,Aa 8 20,Aa 9 21] [1,4,5,8,9,11,12,13]<|Re [Aa 22 4,Aa 23 8,Bn 24 22 23,Aa 25 5,Aa 26 9,⟨some 27,.mm true (.s 25) (.s 26),none⟩,Aa 4 24,Aa 5 27] [1,4,5,11,12,13])<|Re [An 28 13 1,Aa 13 28] [1,4,5,11,12,13])<|Sq (Rq [Ac 29 1 0,Ab 30 29,Be 31 30 5] [4,5,31]<|Co 31 (Re [Aa 32 5,An 33 32 1,Aa 5 33] [4,5])<|Sk [4,5])<|Rq [Aa 34 4,Aa 35 5,Aa 2 34,Aa 3 35] [2,3]<|.ret) [.tmp 2,.tmp 3]:= by decide +kernel
theorem c210S (n:Nat) (ih_210:∀ (c:Condition) (r:(Int × Int)) (_:condition_measureF n c=some r),Sound prog 210 [eCondition c] (.tp [eI r.1,eI r.2])):∀ (c:Condition) (r:(Int × Int)) (_:condition_measureF (n+1) c=some r),Sound prog 210 [eCondition c] (.tp [eI r.1,eI r.2]):= by
 intro c r h
 refine Fn ck210 fun hw=>?_
 unfold condition_measureF at h
 refine D<|F<|a4 rfl rfl<|C rfl<|C rfl<|E (kt<|kn) fun _=>?_
 refine D<|F<|C rfl<|C rfl<|E (kt<|kt<|kt<|kn) fun _=>?_
 refine D<|D<|F<|K rfl<|J rfl<|U rfl (eLCondition_eq _)<|C rfl<|E (kt<|kt<|kt<|kt<|kt<|kt<|kn) fun _=>?_
 obtain ⟨s0,hs0,h⟩:=I h
 refine f5 hs0 (fun (i0:Int) (s0:Int × Int)=>[(1,.tv (.pt (eCondition c).cells)),(4,.tv (eI s0.1)),(5,.tv (eI s0.2)),(11,.tv (eLCondition c.Kids)),(12,.tv (eI (c.Kids.length:Int))),(13,.tv (eI i0))]) (fun (s0:Int × Int)=>[(1,.tv (.pt (eCondition c).cells)),(4,.tv (eI s0.1)),(5,.tv (eI s0.2))]) rfl ?_ ?_ ?_
 ·clear h hs0
  intro i0 s0 r0 hi0 h hw0
  refine D<|F<|V rfl rfl<|E (kt<|kt<|kt<|kt<|kt<|kt<|kt<|kn) fun _=>?_
  refine D<|b5 rfl (b6 hi0)<|P (kt<|kt<|kt<|kt<|kt<|kt<|kn) fun _=>?_
  refine D<|b0<|D<|F ?_
  obtain ⟨x15,hx15,h⟩:=I h
  refine W rfl rfl (eLCondition_eq _) hx15 rfl<|R rfl rfl (show _=eCondition x15 from rfl)<|b1 rfl<|a8 rfl rfl rfl rfl rfl<|E (kt<|kt<|kt<|kb<|kt<|kt<|kt<|kn) fun _=>?_
  refine D<|F<|R rfl rfl (show _=eCondition x15 from rfl) ?_
  obtain ⟨x19,hx19,h⟩:=I h
  refine e5 rfl (ih_210 x15 _ hx19)<|e6 rfl<|b2 rfl rfl<|b2 rfl rfl<|C rfl<|C rfl<|E (kt<|kt<|kt<|kt<|kt<|kt<|kt<|kt<|kn) fun _=>?_
  refine F<|C rfl<|C rfl<|a7 rfl rfl<|C rfl<|C rfl<|p9 rfl rfl<|C rfl<|C rfl<|E (kt<|kt<|kt<|kt<|kt<|kt<|kn) fun _=>?_
  refine F<|a7 rfl rfl<|C rfl<|E (kt<|kt<|kt<|kt<|kt<|kt<|kn) ?_
  cases h
  show Env.keep _ _=_
  rw [Ktv rfl (Ktv rfl (Ktv rfl (Ktv rfl (Ktv rfl (Ktv rfl (Knil _))))))]
  rw [b4 (a5 (hw0 13)) hi0 (e0 (a5 (hw0 12)))]
  all_goals rfl
 ·intro i0 s0 hi0
  refine D<|F<|V rfl rfl<|E (kt<|kt<|kt<|kt<|kt<|kt<|kt<|kn) fun _=>?_
  refine D<|b7 rfl (b8 hi0)<|b3 (kt<|kt<|kt<|kn) ?_
  exact ⟨rfl,rfl⟩
 ·intro _
  refine D<|D<|F<|K rfl<|J rfl<|d1 rfl rfl<|E (kt<|kt<|kt<|kn) fun _=>?_
  obtain ⟨w1,hw1,h⟩:=I h
  refine l0 (fun ze=>ze=[(4,.tv (eI s0.1)),(5,.tv (eI w1))]) ?_ ?_
  ·replace h:=hw1
   clear hw1
   refine S rfl (fun hc31=>?_) (fun hc31=>?_)
   ·replace h:=M hc31 h
    refine F<|C rfl<|a7 rfl rfl<|C rfl<|E (kt<|kt<|kn) ?_
    cases h
    exact rfl
   ·replace h:=O hc31 h
    refine P (kt<|kt<|kn) ?_
    cases h
    exact rfl
  rintro _ rfl
  intro _
  refine D<|F<|C rfl<|C rfl<|C rfl<|C rfl<|E (kt<|kt<|kn) fun _=>?_
  refine L ?_
  cases h
  exact ⟨by decide,rfl⟩
theorem c210A:∀ n:Nat,(∀ (c:Condition) (r:(Int × Int)) (_:condition_measureF n c=some r),Sound prog 210 [eCondition c] (.tp [eI r.1,eI r.2])):=by
  intro n
  induction n with
  | zero=>intro c r h; cases h
  | succ n ih=>exact c210S n ih
theorem c210 (c:Condition) (r:(Int × Int)) (h:condition_measure c=some r):Sound prog 210 [eCondition c] (.tp [eI r.1,eI r.2]):=by
  obtain ⟨N,hN⟩:=lim_some h
  exact (c210A N) c r (hN N (Nat.le_refl _))
theorem ck163:CK f163 (Rq [Af 1 0,Ad 2 0] [1]<|Sq (Rq [Ae 5 1 9,Au 6 209 5,Az 7 6] [1,7]<|Co 7 (Rq [Ad 2 1] [2]<|.ret)<|Sk [1])<|Sq (Rq [Ae 9 1 9,Au 10 210 9,Aa 8 10,Am 11 8 0,Am 12 8 1,Aa 3 11,Aa 4 12] [3,4]<|Rq [Aa 13 3,Bk 14 13 12,Aa 15 14,Aw 16 4 15,Bs 17 16 3 15,As 18 15 17] [18]<|Co 18 (Rq [Ad 2 3] [2]<|.ret)<|Sk [])<|Rq [Ad 2 0] [2]<|.ret) [.tmp 2]:= by decide +kernel
theorem c163 (c:Condition) (r:Int) (h:condition_shape c=some r):Sound prog 163 [eCondition c] (.sh (eI r)):= by
 refine Fn ck163 fun hw=>?_
 unfold condition_shape at h
 refine D<|F<|a4 rfl rfl<|C rfl<|E (kt<|kn) fun _=>?_
 refine D<|D<|F<|R rfl rfl (show _=eCondition c from rfl) ?_
 obtain ⟨x6,hx6,h⟩:=I h
 refine T rfl (c209 c _ hx6)<|d0 rfl<|E (kt<|kt<|kn) fun _=>?_
 refine S rfl (fun hc7=>?_) (fun hc7=>?_)
 ·replace h:=M hc7 h
  refine D<|F<|C rfl<|E (kt<|kn) fun _=>?_
  exact L (by cases h;rfl)
 ·replace h:=O hc7 h
  refine P (kt<|kn) fun _=>?_
  refine D<|D<|F<|R rfl rfl (show _=eCondition c from rfl) ?_
  obtain ⟨x10,hx10,h⟩:=I h
  refine e5 rfl (c210 c _ hx10)<|e6 rfl<|b2 rfl rfl<|b2 rfl rfl<|C rfl<|C rfl<|E (kt<|kt<|kn) fun _=>?_
  refine D<|F<|C rfl<|e4 rfl rfl<|C rfl ?_
  refine gO 3 [16,17] 18 (decide (12<x10.1)) (decide (3<x10.2)) (fun hg18=>?_) (fun hg18=>?_) ?_
  ·refine H rfl hg18<|H rfl hg18<|Y rfl hg18 rfl ?_
   exact ⟨⟨_,_,rfl⟩⟩
  ·refine G rfl hg18<|C rfl<|G rfl hg18<|e4 rfl rfl<|Z rfl hg18 rfl ?_
   exact ⟨⟨_,_,rfl⟩⟩
  rintro _ ⟨_,_,rfl⟩
  refine E (kt<|kn) fun _=>?_
  refine S rfl (fun hc18=>?_) (fun hc18=>?_)
  ·replace h:=M hc18 h
   refine D<|F<|C rfl<|E (kt<|kn) fun _=>?_
   exact L (by cases h;rfl)
  ·replace h:=O hc18 h
   refine P (kn) fun _=>?_
   refine D<|F<|C rfl<|E (kt<|kn) fun _=>?_
   exact L (by cases h;rfl)
theorem ck246:CK f246 (Rq [Af 2 0,Ak 3] [1,2]<|Rq [Ac 4 2 2,Ai 5 4 0,Ab 6 5,Ab 7 1,Bt 8 6 7,Aa 3 8] [3]<|.ret) [.tmp 3]:= by decide +kernel
theorem c246 (s_0:Slot) (c0:Int) (r:Bool) (h:condition_pattern_1 s_0 c0=some r):Sound prog 246 [eSlot s_0,.pt [eI c0]] (.sh (eB r)):= by
 refine Fn ck246 fun hw=>?_
 unfold condition_pattern_1 at h
 refine D<|F<|a4 rfl rfl<|C rfl<|E (kt<|kt<|kn) fun _=>?_
 refine D<|F<|K rfl<|a6 rfl<|J rfl<|J rfl<|d1 rfl rfl<|C rfl<|E (kt<|kn) fun _=>?_
 exact L (by cases h;rfl)
theorem ck211:CK f211 (Rq [Af 3 0,Af 4 1,Ad 6 0] [2,3,4]<|Rq [Ae 9 3 2,Ae 10 4 5,Al 11 98 9 10,Aa 7 11] [2,4,7]<|Sq (Rq [Aa 12 7,Av 13 12 9] [2,4,7,13]<|Co 13 (Rq [Aa 14 7,Aa 6 14] [6]<|.ret)<|Sk [2,4,7])<|Sq (Rq [Aa 15 2,Eu 8 0,Aj 1 8 15,Cn 8] [4,7,8]<|Bl 0<|Lo [4,7,8]<|Sq (Rq [Ab 16 8,Ac 17 4 3,Ab 18 17,Ap 19 16 18] [4,7,8,19]<|Co 19 (Sk [4,7,8])<|Ex 0 [])<|Sq (Bl 1<|Rq [Ac 22 4 2,Ab 23 22,Cf 24 246 8,Al 25 204 23 24,Az 26 25] [4,7,8,26]<|Co 26 (Rq [Aa 27 7,Aa 6 27] [6]<|.ret)<|Sk [4,7,8])<|Sq (Rq [Ab 28 8] [4,7,28]<|Re [Eu 8 0,Aj 1 8 28] [4,7,8])<|Re [Ab 20 8,An 21 20 1,Aj 1 8 21,Cn 8] [4,7,8])<|Rq [Ad 6 0] [6]<|.ret) [.tmp 6]:= by decide +kernel
theorem c211 (t:Types) (q:Pattern) (outer:Int) (r:Int) (h:condition_pattern t q outer=some r):Sound prog 211 [eTypes t,ePattern q,eI outer] (.sh (eI r)):= by
 refine Fn ck211 fun hw=>?_
 unfold condition_pattern at h
 refine D<|F<|a4 rfl rfl<|a4 rfl rfl<|C rfl<|E (kt<|kt<|kt<|kn) fun _=>?_
 refine D<|F<|R rfl rfl (show _=eTypes t from rfl)<|R rfl rfl (show _=ePattern q from rfl) ?_
 obtain ⟨x11,hx11,h⟩:=I h
 refine T rfl (c98 t q _ hx11)<|C rfl<|E (kt<|kt<|kt<|kn) fun _=>?_
 refine D<|D<|F<|C rfl<|a9 rfl rfl<|E (kt<|kt<|kt<|kt<|kn) fun _=>?_
 refine S rfl (fun hc13=>?_) (fun hc13=>?_)
 ·replace h:=M hc13 h
  refine D<|F<|C rfl<|C rfl<|E (kt<|kn) fun _=>?_
  exact L (by cases h;rfl)
 ·replace h:=O hc13 h
  refine P (kt<|kt<|kt<|kn) fun _=>?_
  refine D<|D<|F<|C rfl<|b1 rfl<|a8 rfl rfl rfl rfl rfl<|l2 rfl rfl<|E (kt<|kt<|kt<|kn) fun _=>?_
  obtain ⟨o0,ho0,h⟩:=d2 h
  refine g9 ho0 (fun (s0:Int)=>[(4,.tv (.pt (ePattern q).cells)),(7,.tv (eI x11)),(8,.tv (.pt [eI s0]))]) (fun (s0:Int)=>[]) (fun zv ze=>resIs ([.tmp 6]) (.sh (eI zv)) ze) rfl ?_ ?_ ?_
  ·clear h ho0
   intro s0 r0 h hw0
   refine D<|D<|F<|J rfl<|K rfl<|J rfl<|V rfl rfl<|E (kt<|kt<|kt<|kt<|kn) fun _=>?_
   refine S rfl (fun hc19=>?_) (fun hc19=>?_)
   ·replace h:=M hc19 h
    refine P (kt<|kt<|kt<|kn) fun _=>?_
    refine D<|b0<|D<|F<|K rfl<|J rfl<|g2 rfl ?_
    obtain ⟨x25,hx25,h⟩:=I h
    refine T rfl (c204 q.Slots (fun y0=>condition_pattern_1 y0 s0) _ _ (fun y0 r h=>c246 y0 s0 r h) _ hx25)<|d0 rfl<|E (kt<|kt<|kt<|kt<|kn) fun _=>?_
    refine S rfl (fun hc26=>?_) (fun hc26=>?_)
    ·replace h:=M hc26 h
     refine D<|F<|C rfl<|C rfl<|E (kt<|kn) fun _=>?_
     refine L ?_
     cases h
     exact ⟨_,rfl,rfl⟩
    ·replace h:=O hc26 h
     refine P (kt<|kt<|kt<|kn) fun _=>?_
     refine D<|D<|F<|J rfl<|E (kt<|kt<|kt<|kn) fun _=>?_
     refine F<|b1 rfl<|a8 rfl rfl rfl rfl rfl<|E (kt<|kt<|kb<|kn) fun _=>?_
     refine F<|J rfl<|a7 rfl rfl<|a8 rfl rfl rfl rfl rfl<|l2 rfl rfl<|E (kt<|kt<|kt<|kn) ?_
     cases h
     refine ⟨_,rfl,?_⟩
     rw [Ktv rfl (Ktv rfl (Ktv rfl (Knil _)))]
     all_goals rfl
   ·replace h:=O hc19 h
    refine b3 (kn) ?_
    refine ⟨rfl,?_⟩
    cases h
    exact ⟨_,rfl,rfl⟩
  ·intro s0 hs
   replace h:=d3 h hs
   intro _
   refine D<|F<|C rfl<|E (kt<|kn) fun _=>?_
   exact L (by cases h;rfl)
  ·intro v0 ze hv hR
   replace h:=d4 h hv
   cases h
   exact hR
theorem ck164:CK f164 (Rq [Af 3 0,⟨some 4,.boxo (.s 1),none⟩,Af 5 2,Ad 6 0] [3,4,5]<|Sq (Rq [Ac 13 5 0,Ab 14 13,Be 15 14 5] [3,4,5,15]<|Co 15 (Rq [Ac 16 5 4,Ae 17 16 5,Et 7 1 3 4 0 5,Aj 5 7 17] [3,4,5,7]<|Sq (Rq [Ac 18 7 3,Ab 19 18,Ac 20 4 3,Ab 21 20,Ap 22 19 21] [3,4,5,7,22]<|Co 22 (Rq [Ad 6 20] [6]<|.ret)<|Sk [3,4,5,7])<|Sq (Rq [Ae 23 3 2,Ae 24 7 5,Ac 25 4 3,Ab 26 25,Bg 27 211 23 24 26,Aa 8 27] [3,4,5,7,8]<|Rq [Aa 28 8,Av 29 28 0] [3,4,5,7,8,29]<|Co 29 (Rq [Aa 30 8,Aa 6 30] [6]<|.ret)<|Sk [3,4,5,7])<|Sq (Rq [Ac 31 4 0,Ae 32 31 2,Ac 33 7 0,Ae 34 33 2,Ac 35 5 2,Ae 36 35 2,Bg 37 158 32 34 36,Aa 9 37] [3,4,5,7,9]<|Rq [Aa 38 9,Av 39 38 0] [3,4,5,7,9,39]<|Co 39 (Rq [Aa 40 9,Aa 6 40] [6]<|.ret)<|Sk [3,4,5,7])<|Sq (Rq [Ac 41 4 0,Ae 42 41 2,Ac 43 7 0,Ae 44 43 2,Ac 45 5 2,Ae 46 45 2,Bg 47 159 42 44 46,Az 48 47] [3,4,5,7,48]<|Co 48 (Rq [Ad 6 1] [6]<|.ret)<|Sk [3,4,5,7])<|Re [Ae 49 7 5,Aj 5 4 49] [3,4,5])<|Sk [3,4,5])<|Sq (Rq [Ac 50 5 1,Ab 51 50,Ah 52 51,Ad 53 0] [3,4,51,52,53]<|Bl 0<|Lo [3,4,51,52,53]<|Rq [Ap 54 53 52] [3,4,51,52,53,54]<|Sq (Co 54 (Sk [3,4,51,52,53])<|Ex 0 [])<|Sq (Bl 1<|Rq [Ag 55 51 53 9,Ae 56 55 9,Ff 11 0 9 1 1 1 3 4 0 5,Aj 9 11 56] [3,4,11,51,52,53]<|Rq [Ae 57 3 2,Ae 58 4 5,Ae 59 11 9,Bg 60 164 57 58 59,Aa 12 60] [3,4,12,51,52,53]<|Rq [Aa 61 12,Av 62 61 0] [3,4,12,51,52,53,62]<|Co 62 (Rq [Aa 63 12,Aa 6 63] [6]<|.ret)<|Sk [3,4,51,52,53])<|Re [An 64 53 1,Aa 53 64] [3,4,51,52,53])<|Rq [Ad 6 0] [6]<|.ret) [.tmp 6]:= by decide +kernel
theorem c164S (n:Nat) (ih_164:∀ (t:Types) (p:Pattern) (c:Condition) (r:Int) (_:condition_insideF n t p c=some r),Sound prog 164 [eTypes t,ePattern p,eCondition c] (.sh (eI r))):∀ (t:Types) (p:Pattern) (c:Condition) (r:Int) (_:condition_insideF (n+1) t p c=some r),Sound prog 164 [eTypes t,ePattern p,eCondition c] (.sh (eI r)):= by
 intro t p c r h
 refine Fn ck164 fun hw=>?_
 unfold condition_insideF at h
 refine D<|F<|a4 rfl rfl<|q4 rfl rfl rfl rfl<|a4 rfl rfl<|C rfl<|E (kt<|kb<|kt<|kn) fun _=>?_
 refine D<|D<|F<|K rfl<|J rfl<|d1 rfl rfl<|E (kt<|kb<|kt<|kt<|kn) fun _=>?_
 refine S rfl (fun hc15=>?_) (fun hc15=>?_)
 ·replace h:=M hc15 h
  refine D<|F<|K rfl<|R rfl rfl (show _=ePattern c.Pattern from rfl)<|b1 rfl<|a8 rfl rfl rfl rfl rfl<|E (kt<|kb<|kt<|kb<|kn) fun _=>?_
  refine D<|D<|F<|a3 rfl<|J rfl<|a3 rfl<|J rfl<|V rfl rfl<|E (kt<|kb<|kt<|kb<|kt<|kn) fun _=>?_
  refine S rfl (fun hc22=>?_) (fun hc22=>?_)
  ·replace h:=M hc22 h
   refine D<|F<|C rfl<|E (kt<|kn) fun _=>?_
   exact L (by cases h;rfl)
  ·replace h:=O hc22 h
   refine P (kt<|kb<|kt<|kb<|kn) fun _=>?_
   refine D<|D<|F<|R rfl rfl (show _=eTypes t from rfl)<|R rfl rfl (show _=ePattern c.Pattern from rfl)<|a3 rfl<|J rfl ?_
   obtain ⟨x27,hx27,h⟩:=I h
   refine T rfl (c211 t c.Pattern p.Vars _ hx27)<|C rfl<|E (kt<|kb<|kt<|kb<|kt<|kn) fun _=>?_
   refine D<|F<|C rfl<|a9 rfl rfl<|E (kt<|kb<|kt<|kb<|kt<|kt<|kn) fun _=>?_
   refine S rfl (fun hc29=>?_) (fun hc29=>?_)
   ·replace h:=M hc29 h
    refine D<|F<|C rfl<|C rfl<|E (kt<|kn) fun _=>?_
    exact L (by cases h;rfl)
   ·replace h:=O hc29 h
    refine P (kt<|kb<|kt<|kb<|kn) fun _=>?_
    refine D<|D<|F<|a3 rfl<|R rfl rfl (show _=eGraph p.Graph from rfl)<|a3 rfl<|R rfl rfl (show _=eGraph c.Pattern.Graph from rfl)<|K rfl<|R rfl rfl (show _=eMorphism c.Map from rfl) ?_
    obtain ⟨x37,hx37,h⟩:=I h
    refine T rfl (c158 p.Graph c.Pattern.Graph c.Map _ hx37)<|C rfl<|E (kt<|kb<|kt<|kb<|kt<|kn) fun _=>?_
    refine D<|F<|C rfl<|a9 rfl rfl<|E (kt<|kb<|kt<|kb<|kt<|kt<|kn) fun _=>?_
    refine S rfl (fun hc39=>?_) (fun hc39=>?_)
    ·replace h:=M hc39 h
     refine D<|F<|C rfl<|C rfl<|E (kt<|kn) fun _=>?_
     exact L (by cases h;rfl)
    ·replace h:=O hc39 h
     refine P (kt<|kb<|kt<|kb<|kn) fun _=>?_
     refine D<|D<|F<|a3 rfl<|R rfl rfl (show _=eGraph p.Graph from rfl)<|a3 rfl<|R rfl rfl (show _=eGraph c.Pattern.Graph from rfl)<|K rfl<|R rfl rfl (show _=eMorphism c.Map from rfl) ?_
     obtain ⟨x47,hx47,h⟩:=I h
     refine T rfl (c159 p.Graph c.Pattern.Graph c.Map _ hx47)<|d0 rfl<|E (kt<|kb<|kt<|kb<|kt<|kn) fun _=>?_
     refine S rfl (fun hc48=>?_) (fun hc48=>?_)
     ·replace h:=M hc48 h
      refine D<|F<|C rfl<|E (kt<|kn) fun _=>?_
      exact L (by cases h;rfl)
     ·replace h:=O hc48 h
      refine P (kt<|kb<|kt<|kb<|kn) fun _=>?_
      refine F<|R rfl rfl (show _=ePattern c.Pattern from rfl)<|a8 rfl rfl rfl rfl rfl<|E (kt<|kb<|kt<|kn) fun _=>?_
      refine D<|D<|F<|K rfl<|J rfl<|U rfl (eLCondition_eq _)<|C rfl<|E (kt<|kb<|kt<|kt<|kt<|kn) fun _=>?_
      obtain ⟨o0,ho0,h⟩:=d2 h
      refine d6 ho0 (fun (i0:Int) (_:Unit)=>[(3,.tv (.pt (eTypes t).cells)),(4,.bx [⟨false,lI c.Pattern.Graph.Nodes⟩,⟨false,lE c.Pattern.Graph.Edges⟩,⟨false,lS c.Pattern.Slots⟩,⟨false,eI c.Pattern.Vars⟩,⟨false,lT c.Pattern.Tests⟩]),(51,.tv (eLCondition c.Kids)),(52,.tv (eI (c.Kids.length:Int))),(53,.tv (eI i0))]) (fun (_:Unit)=>[]) (fun zv ze=>resIs ([.tmp 6]) (.sh (eI zv)) ze) rfl ?_ ?_ ?_ ?_
      ·clear h ho0
       intro i0 s0 r0 hi0 h hw0
       refine D<|F<|V rfl rfl<|E (kt<|kb<|kt<|kt<|kt<|kt<|kn) fun _=>?_
       refine D<|b5 rfl (b6 hi0)<|P (kt<|kb<|kt<|kt<|kt<|kn) fun _=>?_
       refine D<|b0<|D<|F ?_
       obtain ⟨x55,hx55,h⟩:=I h
       refine W rfl rfl (eLCondition_eq _) hx55 rfl<|R rfl rfl (show _=eCondition x55 from rfl)<|b1 rfl<|a8 rfl rfl rfl rfl rfl<|E (kt<|kb<|kb<|kt<|kt<|kt<|kn) fun _=>?_
       refine D<|F<|R rfl rfl (show _=eTypes t from rfl)<|R rfl rfl (show _=ePattern c.Pattern from rfl)<|R rfl rfl (show _=eCondition x55 from rfl) ?_
       obtain ⟨x60,hx60,h⟩:=I h
       refine T rfl (ih_164 t c.Pattern x55 _ hx60)<|C rfl<|E (kt<|kb<|kt<|kt<|kt<|kt<|kn) fun _=>?_
       refine D<|F<|C rfl<|a9 rfl rfl<|E (kt<|kb<|kt<|kt<|kt<|kt<|kt<|kn) fun _=>?_
       refine S rfl (fun hc62=>?_) (fun hc62=>?_)
       ·replace h:=M hc62 h
        refine D<|F<|C rfl<|C rfl<|E (kt<|kn) fun _=>?_
        refine L ?_
        cases h
        exact ⟨_,rfl,rfl⟩
       ·replace h:=O hc62 h
        refine P (kt<|kb<|kt<|kt<|kt<|kn) fun _=>?_
        refine F<|a7 rfl rfl<|C rfl<|E (kt<|kb<|kt<|kt<|kt<|kn) ?_
        cases h
        refine ⟨_,rfl,?_⟩
        rw [Ktv rfl (Kbx rfl (Ktv rfl (Ktv rfl (Ktv rfl (Knil _)))))]
        rw [b4 (a5 (hw0 53)) hi0 (e0 (a5 (hw0 52)))]
        all_goals rfl
      ·intro i0 s0 hi0
       refine D<|F<|V rfl rfl<|E (kt<|kb<|kt<|kt<|kt<|kt<|kn) fun _=>?_
       refine D<|b7 rfl (b8 hi0)<|b3 (kn) ?_
       exact ⟨rfl,rfl⟩
      ·intro s0 hs
       replace h:=d3 h hs
       intro _
       refine D<|F<|C rfl<|E (kt<|kn) fun _=>?_
       exact L (by cases h;rfl)
      ·intro v0 ze hv hR
       replace h:=d4 h hv
       cases h
       exact hR
 ·replace h:=O hc15 h
  refine P (kt<|kb<|kt<|kn) fun _=>?_
  refine D<|D<|F<|K rfl<|J rfl<|U rfl (eLCondition_eq _)<|C rfl<|E (kt<|kb<|kt<|kt<|kt<|kn) fun _=>?_
  obtain ⟨o0,ho0,h⟩:=d2 h
  refine d6 ho0 (fun (i0:Int) (_:Unit)=>[(3,.tv (.pt (eTypes t).cells)),(4,.bx [⟨false,lI p.Graph.Nodes⟩,⟨false,lE p.Graph.Edges⟩,⟨false,lS p.Slots⟩,⟨false,eI p.Vars⟩,⟨false,lT p.Tests⟩]),(51,.tv (eLCondition c.Kids)),(52,.tv (eI (c.Kids.length:Int))),(53,.tv (eI i0))]) (fun (_:Unit)=>[]) (fun zv ze=>resIs ([.tmp 6]) (.sh (eI zv)) ze) rfl ?_ ?_ ?_ ?_
  ·clear h ho0
   intro i0 s0 r0 hi0 h hw0
   refine D<|F<|V rfl rfl<|E (kt<|kb<|kt<|kt<|kt<|kt<|kn) fun _=>?_
   refine D<|b5 rfl (b6 hi0)<|P (kt<|kb<|kt<|kt<|kt<|kn) fun _=>?_
   refine D<|b0<|D<|F ?_
   obtain ⟨x55,hx55,h⟩:=I h
   refine W rfl rfl (eLCondition_eq _) hx55 rfl<|R rfl rfl (show _=eCondition x55 from rfl)<|b1 rfl<|a8 rfl rfl rfl rfl rfl<|E (kt<|kb<|kb<|kt<|kt<|kt<|kn) fun _=>?_
   refine D<|F<|R rfl rfl (show _=eTypes t from rfl)<|R rfl rfl (show _=ePattern p from rfl)<|R rfl rfl (show _=eCondition x55 from rfl) ?_
   obtain ⟨x60,hx60,h⟩:=I h
   refine T rfl (ih_164 t p x55 _ hx60)<|C rfl<|E (kt<|kb<|kt<|kt<|kt<|kt<|kn) fun _=>?_
   refine D<|F<|C rfl<|a9 rfl rfl<|E (kt<|kb<|kt<|kt<|kt<|kt<|kt<|kn) fun _=>?_
   refine S rfl (fun hc62=>?_) (fun hc62=>?_)
   ·replace h:=M hc62 h
    refine D<|F<|C rfl<|C rfl<|E (kt<|kn) fun _=>?_
    refine L ?_
    cases h
    exact ⟨_,rfl,rfl⟩
   ·replace h:=O hc62 h
    refine P (kt<|kb<|kt<|kt<|kt<|kn) fun _=>?_
    refine F<|a7 rfl rfl<|C rfl<|E (kt<|kb<|kt<|kt<|kt<|kn) ?_
    cases h
    refine ⟨_,rfl,?_⟩
    rw [Ktv rfl (Kbx rfl (Ktv rfl (Ktv rfl (Ktv rfl (Knil _)))))]
    rw [b4 (a5 (hw0 53)) hi0 (e0 (a5 (hw0 52)))]
    all_goals rfl
  ·intro i0 s0 hi0
   refine D<|F<|V rfl rfl<|E (kt<|kb<|kt<|kt<|kt<|kt<|kn) fun _=>?_
   refine D<|b7 rfl (b8 hi0)<|b3 (kn) ?_
   exact ⟨rfl,rfl⟩
  ·intro s0 hs
   replace h:=d3 h hs
   intro _
   refine D<|F<|C rfl<|E (kt<|kn) fun _=>?_
   exact L (by cases h;rfl)
  ·intro v0 ze hv hR
   replace h:=d4 h hv
   cases h
   exact hR
theorem c164A:∀ n:Nat,(∀ (t:Types) (p:Pattern) (c:Condition) (r:Int) (_:condition_insideF n t p c=some r),Sound prog 164 [eTypes t,ePattern p,eCondition c] (.sh (eI r))):=by
  intro n
  induction n with
  | zero=>intro t p c r h; cases h
  | succ n ih=>exact c164S n ih
theorem c164 (t:Types) (p:Pattern) (c:Condition) (r:Int) (h:condition_inside t p c=some r):Sound prog 164 [eTypes t,ePattern p,eCondition c] (.sh (eI r)):=by
  obtain ⟨N,hN⟩:=lim_some h
  exact (c164A N) t p c r (hN N (Nat.le_refl _))
theorem ck103:CK f103 (Rq [Af 3 0,Af 4 1,Af 5 2,Ad 6 0] [3,4,5]<|Sq (Rq [Ae 9 3 2,Ae 10 4 5,Al 11 98 9 10,Aa 7 11] [3,4,5,7]<|Rq [Aa 12 7,Av 13 12 0] [3,4,5,7,13]<|Co 13 (Rq [Aa 14 7,Aa 6 14] [6]<|.ret)<|Sk [3,4,5])<|Sq (Rq [Ae 15 5 9,Au 16 163 15,Aa 8 16] [3,4,5,8]<|Rq [Aa 17 8,Av 18 17 0] [3,4,5,8,18]<|Co 18 (Rq [Aa 19 8,Aa 6 19] [6]<|.ret)<|Sk [3,4,5])<|Rq [Ae 20 3 2,Ae 21 4 5,Ae 22 5 9,Bg 23 164 20 21 22,Aa 6 23] [6]<|.ret) [.tmp 6]:= by decide +kernel
theorem c103 (t:Types) (p:Pattern) (c:Condition) (r:Int) (h:condition_Valid t p c=some r):Sound prog 103 [eTypes t,ePattern p,eCondition c] (.sh (eI r)):= by
 refine Fn ck103 fun hw=>?_
 unfold condition_Valid at h
 refine D<|F<|a4 rfl rfl<|a4 rfl rfl<|a4 rfl rfl<|C rfl<|E (kt<|kt<|kt<|kn) fun _=>?_
 refine D<|D<|F<|R rfl rfl (show _=eTypes t from rfl)<|R rfl rfl (show _=ePattern p from rfl) ?_
 obtain ⟨x11,hx11,h⟩:=I h
 refine T rfl (c98 t p _ hx11)<|C rfl<|E (kt<|kt<|kt<|kt<|kn) fun _=>?_
 refine D<|F<|C rfl<|a9 rfl rfl<|E (kt<|kt<|kt<|kt<|kt<|kn) fun _=>?_
 refine S rfl (fun hc13=>?_) (fun hc13=>?_)
 ·replace h:=M hc13 h
  refine D<|F<|C rfl<|C rfl<|E (kt<|kn) fun _=>?_
  exact L (by cases h;rfl)
 ·replace h:=O hc13 h
  refine P (kt<|kt<|kt<|kn) fun _=>?_
  refine D<|D<|F<|R rfl rfl (show _=eCondition c from rfl) ?_
  obtain ⟨x16,hx16,h⟩:=I h
  refine T rfl (c163 c _ hx16)<|C rfl<|E (kt<|kt<|kt<|kt<|kn) fun _=>?_
  refine D<|F<|C rfl<|a9 rfl rfl<|E (kt<|kt<|kt<|kt<|kt<|kn) fun _=>?_
  refine S rfl (fun hc18=>?_) (fun hc18=>?_)
  ·replace h:=M hc18 h
   refine D<|F<|C rfl<|C rfl<|E (kt<|kn) fun _=>?_
   exact L (by cases h;rfl)
  ·replace h:=O hc18 h
   refine P (kt<|kt<|kt<|kn) fun _=>?_
   refine D<|F<|R rfl rfl (show _=eTypes t from rfl)<|R rfl rfl (show _=ePattern p from rfl)<|R rfl rfl (show _=eCondition c from rfl) ?_
   obtain ⟨x23,hx23,h⟩:=I h
   refine T rfl (c164 t p c _ hx23)<|C rfl<|E (kt<|kn) fun _=>?_
   exact L (by cases h;rfl)
theorem ck52:CK f52 (Rq [Af 2 0,Af 3 1,Ad 4 0] [2,3]<|Sq (Rq [Ae 13 2 2,Au 14 96 13,Aa 12 14,Am 15 12 0,Am 16 12 1,Aa 5 15,Aa 6 16] [2,3,6]<|Rq [Aa 17 6,Av 18 17 0] [2,3,6,18]<|Co 18 (Rq [Aa 19 6,Aa 4 19] [4]<|.ret)<|Sk [2,3])<|Sq (Rq [Ac 20 3 0,Ab 21 20,Au 22 97 21,Az 23 22] [2,3,23]<|Co 23 (Rq [Ad 4 2] [4]<|.ret)<|Sk [2,3])<|Sq (Rq [Ae 24 2 2,Ac 25 3 1,Ae 26 25 5,Al 27 98 24 26,Aa 7 27] [2,3,7]<|Rq [Aa 28 7,Av 29 28 0] [2,3,7,29]<|Co 29 (Rq [Aa 30 7,Aa 4 30] [4]<|.ret)<|Sk [2,3])<|Sq (Rq [Ae 31 2 2,Ae 32 3 25,Al 33 99 31 32,Aa 8 33] [2,3,8]<|Rq [Aa 34 8,Av 35 34 0] [2,3,8,35]<|Co 35 (Rq [Aa 36 8,Aa 4 36] [4]<|.ret)<|Sk [2,3])<|Sq (Rq [Ae 37 3 25,Au 38 100 37,Aa 9 38] [2,3,9]<|Rq [Aa 39 9,Av 40 39 0] [2,3,9,40]<|Co 40 (Rq [Aa 41 9,Aa 4 41] [4]<|.ret)<|Sk [2,3])<|Rq [Ae 43 3 25,Au 44 101 43,Aa 42 44,Am 45 42 0,Am 46 42 1,Ay 10 45,Ay 11 46] [2,3,10,11]<|Sq (Rq [Ae 47 2 2,Ac 48 3 6,Ai 49 48 0,Ae 50 49 2,Aa 51 10,Aa 52 11,Bz 53 102 47 50 51 52,Az 54 53] [2,3,54]<|Co 54 (Rq [Ad 4 13] [4]<|.ret)<|Sk [2,3])<|Rq [Ae 55 2 2,Ac 56 3 1,Ae 57 56 5,Ac 58 3 16,Ae 59 58 9,Bg 60 103 55 57 59,Aa 4 60] [4]<|.ret) [.tmp 4]:= by decide +kernel
theorem c52 (t:Types) (r_1:Rule) (r:Int) (h:rule_Valid t r_1=some r):Sound prog 52 [eTypes t,eRule r_1] (.sh (eI r)):= by
 refine Fn ck52 fun hw=>?_
 unfold rule_Valid at h
 refine D<|F<|a4 rfl rfl<|a4 rfl rfl<|C rfl<|E (kt<|kt<|kn) fun _=>?_
 refine D<|D<|F<|R rfl rfl (show _=eTypes t from rfl) ?_
 obtain ⟨x14,hx14,h⟩:=I h
 refine e5 rfl (c96 t _ hx14)<|e6 rfl<|b2 rfl rfl<|b2 rfl rfl<|C rfl<|C rfl<|E (kt<|kt<|kt<|kn) fun _=>?_
 refine D<|F<|C rfl<|a9 rfl rfl<|E (kt<|kt<|kt<|kt<|kn) fun _=>?_
 refine S rfl (fun hc18=>?_) (fun hc18=>?_)
 ·replace h:=M hc18 h
  refine D<|F<|C rfl<|C rfl<|E (kt<|kn) fun _=>?_
  exact L (by cases h;rfl)
 ·replace h:=O hc18 h
  refine P (kt<|kt<|kn) fun _=>?_
  refine D<|D<|F<|K rfl<|J rfl ?_
  obtain ⟨x22,hx22,h⟩:=I h
  refine T rfl (c97 r_1.Name _ hx22)<|d0 rfl<|E (kt<|kt<|kt<|kn) fun _=>?_
  refine S rfl (fun hc23=>?_) (fun hc23=>?_)
  ·replace h:=M hc23 h
   refine D<|F<|C rfl<|E (kt<|kn) fun _=>?_
   exact L (by cases h;rfl)
  ·replace h:=O hc23 h
   refine P (kt<|kt<|kn) fun _=>?_
   refine D<|D<|F<|R rfl rfl (show _=eTypes t from rfl)<|K rfl<|R rfl rfl (show _=ePattern r_1.Left from rfl) ?_
   obtain ⟨x27,hx27,h⟩:=I h
   refine T rfl (c98 t r_1.Left _ hx27)<|C rfl<|E (kt<|kt<|kt<|kn) fun _=>?_
   refine D<|F<|C rfl<|a9 rfl rfl<|E (kt<|kt<|kt<|kt<|kn) fun _=>?_
   refine S rfl (fun hc29=>?_) (fun hc29=>?_)
   ·replace h:=M hc29 h
    refine D<|F<|C rfl<|C rfl<|E (kt<|kn) fun _=>?_
    exact L (by cases h;rfl)
   ·replace h:=O hc29 h
    refine P (kt<|kt<|kn) fun _=>?_
    refine D<|D<|F<|R rfl rfl (show _=eTypes t from rfl)<|R rfl rfl (show _=eRule r_1 from rfl) ?_
    obtain ⟨x33,hx33,h⟩:=I h
    refine T rfl (c99 t r_1 _ hx33)<|C rfl<|E (kt<|kt<|kt<|kn) fun _=>?_
    refine D<|F<|C rfl<|a9 rfl rfl<|E (kt<|kt<|kt<|kt<|kn) fun _=>?_
    refine S rfl (fun hc35=>?_) (fun hc35=>?_)
    ·replace h:=M hc35 h
     refine D<|F<|C rfl<|C rfl<|E (kt<|kn) fun _=>?_
     exact L (by cases h;rfl)
    ·replace h:=O hc35 h
     refine P (kt<|kt<|kn) fun _=>?_
     refine D<|D<|F<|R rfl rfl (show _=eRule r_1 from rfl) ?_
     obtain ⟨x38,hx38,h⟩:=I h
     refine T rfl (c100 r_1 _ hx38)<|C rfl<|E (kt<|kt<|kt<|kn) fun _=>?_
     refine D<|F<|C rfl<|a9 rfl rfl<|E (kt<|kt<|kt<|kt<|kn) fun _=>?_
     refine S rfl (fun hc40=>?_) (fun hc40=>?_)
     ·replace h:=M hc40 h
      refine D<|F<|C rfl<|C rfl<|E (kt<|kn) fun _=>?_
      exact L (by cases h;rfl)
     ·replace h:=O hc40 h
      refine P (kt<|kt<|kn) fun _=>?_
      refine D<|F<|R rfl rfl (show _=eRule r_1 from rfl) ?_
      obtain ⟨x44,hx44,h⟩:=I h
      refine e5 rfl (c101 r_1 _ hx44)<|e6 rfl<|b2 rfl rfl<|b2 rfl rfl<|f1 rfl<|f1 rfl<|E (kt<|kt<|kt<|kt<|kn) fun _=>?_
      refine D<|D<|F<|R rfl rfl (show _=eTypes t from rfl)<|K rfl<|a6 rfl<|R rfl rfl (show _=eGraph r_1.Right.Graph from rfl)<|C rfl<|C rfl ?_
      obtain ⟨x53,hx53,h⟩:=I h
      refine T rfl (c102 t r_1.Right.Graph x44.1 x44.2 _ hx53)<|d0 rfl<|E (kt<|kt<|kt<|kn) fun _=>?_
      refine S rfl (fun hc54=>?_) (fun hc54=>?_)
      ·replace h:=M hc54 h
       refine D<|F<|C rfl<|E (kt<|kn) fun _=>?_
       exact L (by cases h;rfl)
      ·replace h:=O hc54 h
       refine P (kt<|kt<|kn) fun _=>?_
       refine D<|F<|R rfl rfl (show _=eTypes t from rfl)<|K rfl<|R rfl rfl (show _=ePattern r_1.Left from rfl)<|K rfl<|R rfl rfl (show _=eCondition r_1.Condition from rfl) ?_
       obtain ⟨x60,hx60,h⟩:=I h
       refine T rfl (c103 t r_1.Left r_1.Condition _ hx60)<|C rfl<|E (kt<|kn) fun _=>?_
       exact L (by cases h;rfl)
theorem c104 (s:List Int) (n:Int) (r:List Int) (h:slices_Grow_int s n=some r):Sound prog 104 [.nil,eI n] (.own (lI r)):=by
  unfold slices_Grow_int at h
  split at h
  · rename_i hc
    cases h
    obtain ⟨k,rfl⟩:=Int.eq_ofNat_of_zero_le hc.2.1
    have hk:k<=nmax:=by have:=hc.2.2; omega
    have hb:=hk
    unfold nmax at hb
    obtain ⟨i0,h1,h2,h3,h4⟩:∃ i0,prog.info? 3=some i0∧i0.zero=some (.int .i64 0)∧i0.size=1∧i0.bytes=8:=⟨_,rfl,rfl,rfl,rfl⟩
    refine grow_of (by rfl) hk (e:=3) (z:=(Value.int .i64 0).cells) rfl (fun w hz=>?_) (fun w hp=>?_)
    · exact Go.Proofs.Any8.slices_Grow_room Go.Proofs.Tryz.growI none 0 0 k w (Nat.le_refl _) (by omega) (by omega) (by omega)
    · exact Go.Proofs.Any8.slices_Grow_grow Go.Proofs.Tryz.growI i0 (.int .i64 0) h1 h2 (by omega) none 0 0 k [] w (Nat.le_refl _) (by omega) (by rw [h4]; omega) (by omega) (by simp) (fun _=>rfl) (fun a ha=>by cases ha)
  · cases h
theorem ck53:CK f53 (Rq [Bf 2 1] [0]<|Rq [Ad 3 0] [0,3]<|Sq (Rq [Aa 9 0,Ah 10 9,Ad 11 0] [0,3,9,10,11]<|Bl 0<|Lo [0,3,9,10,11]<|Rq [Ap 12 11 10] [0,3,9,10,11,12]<|Sq (Co 12 (Sk [0,3,9,10,11])<|Ex 0 [0,3])<|Sq (Bl 1<|Rq [Ag 13 9 11 1,Ab 14 13,Ay 5 14] [0,3,5,9,10,11]<|Rq [Aa 15 3,Aa 16 5,Ah 17 16,Bn 18 15 17,Aa 3 18] [0,3,9,10,11]<|Rq [Aa 19 3,Bq 20 19 0] [0,3,9,10,11,20]<|Co 20 (.bad)<|Sk [0,3,9,10,11])<|Re [An 22 11 1,Aa 11 22] [0,3,9,10,11])<|Rq [Aa 23 3,⟨some 24,.call 104 [.c .nil,.s 23],none⟩,Ay 6 24] [0,6]<|Sq (Rq [Aa 25 0,Ah 26 25,Ad 27 0] [6,25,26,27]<|Bl 2<|Lo [6,25,26,27]<|Rq [Ap 28 27 26] [6,25,26,27,28]<|Sq (Co 28 (Sk [6,25,26,27])<|Ex 2 [6])<|Sq (Bl 3<|Rq [Ag 29 25 27 1,Ab 30 29,Ay 8 30] [6,8,25,26,27]<|Re [Ay 31 6,Aa 32 8,Bb 33 1 31 32,Ay 6 33] [6,25,26,27])<|Re [An 34 27 1,Aa 27 34] [6,25,26,27])<|Rq [Aa 35 6,Ay 2 35] [2]<|.ret) [.tmp 2]:= by decide +kernel
theorem c53 (slices:List (List Int)) (r:(List Int)) (h:slices_Concat_int slices=some r):Sound prog 53 [(eL 1 lI) slices] (.sh (lI r)):= by
 refine Fn ck53 fun hw=>?_
 unfold slices_Concat_int at h
 refine D<|F<|f0<|E (kt<|kn) fun _=>?_
 refine D<|F<|C rfl<|E (kt<|kt<|kn) fun _=>?_
 refine D<|D<|F<|C rfl<|U rfl rfl<|C rfl<|E (kt<|kt<|kt<|kt<|kt<|kn) fun _=>?_
 obtain ⟨s0,hs0,h⟩:=I h
 refine f5 hs0 (fun (i0:Int) (s0:Int)=>[(0,.tv ((eL 1 lI) slices)),(3,.tv (eI s0)),(9,.tv ((eL 1 lI) slices)),(10,.tv (eI (slices.length:Int))),(11,.tv (eI i0))]) (fun (s0:Int)=>[(0,.tv ((eL 1 lI) slices)),(3,.tv (eI s0))]) rfl ?_ ?_ ?_
 ·clear h hs0
  intro i0 s0 r0 hi0 h hw0
  refine D<|F<|V rfl rfl<|E (kt<|kt<|kt<|kt<|kt<|kt<|kn) fun _=>?_
  refine D<|b5 rfl (b6 hi0)<|P (kt<|kt<|kt<|kt<|kt<|kn) fun _=>?_
  refine D<|b0<|D<|F ?_
  obtain ⟨x13,hx13,h⟩:=I h
  refine W rfl rfl rfl hx13 rfl<|J rfl<|f1 rfl<|E (kt<|kt<|kt<|kt<|kt<|kt<|kn) fun _=>?_
  refine D<|F<|C rfl<|C rfl<|U rfl rfl<|a7 rfl rfl<|C rfl<|E (kt<|kt<|kt<|kt<|kt<|kn) fun _=>?_
  refine D<|F<|C rfl<|V rfl rfl<|E (kt<|kt<|kt<|kt<|kt<|kt<|kn) fun _=>?_
  refine S rfl (fun hc20=>?_) (fun hc20=>?_)
  ·replace h:=M hc20 h
   cases h
  ·replace h:=O hc20 h
   refine P (kt<|kt<|kt<|kt<|kt<|kn) fun _=>?_
   refine F<|a7 rfl rfl<|C rfl<|E (kt<|kt<|kt<|kt<|kt<|kn) ?_
   cases h
   show Env.keep _ _=_
   rw [Ktv rfl (Ktv rfl (Ktv rfl (Ktv rfl (Ktv rfl (Knil _)))))]
   rw [b4 (a5 (hw0 11)) hi0 (e0 (a5 (hw0 10)))]
   all_goals rfl
 ·intro i0 s0 hi0
  refine D<|F<|V rfl rfl<|E (kt<|kt<|kt<|kt<|kt<|kt<|kn) fun _=>?_
  refine D<|b7 rfl (b8 hi0)<|b3 (kt<|kt<|kn) ?_
  exact ⟨rfl,rfl⟩
 ·intro _
  refine D<|F<|C rfl ?_
  obtain ⟨x24,hx24,h⟩:=I h
  refine g6 rfl (c104 [] s0 _ hx24)<|f2 rfl<|E (kt<|ko<|kn) fun _=>?_
  refine D<|D<|F<|C rfl<|U rfl rfl<|C rfl<|E (ko<|kt<|kt<|kt<|kn) fun _=>?_
  obtain ⟨s2,hs2,h⟩:=I h
  refine f5 hs2 (fun (i2:Int) (s2:List Int)=>[(6,.ow (lI s2)),(25,.tv ((eL 1 lI) slices)),(26,.tv (eI (slices.length:Int))),(27,.tv (eI i2))]) (fun (s2:List Int)=>[(6,.ow (lI s2))]) rfl ?_ ?_ ?_
  ·clear h hs2
   intro i2 s2 r2 hi2 h hw2
   refine D<|F<|V rfl rfl<|E (ko<|kt<|kt<|kt<|kt<|kn) fun _=>?_
   refine D<|b5 rfl (b6 hi2)<|P (ko<|kt<|kt<|kt<|kn) fun _=>?_
   refine D<|b0<|D<|F ?_
   obtain ⟨x29,hx29,h⟩:=I h
   refine W rfl rfl rfl hx29 rfl<|J rfl<|f1 rfl<|E (ko<|kt<|kt<|kt<|kt<|kn) fun _=>?_
   refine F<|f2 rfl<|C rfl ?_
   obtain ⟨x33,hx33,h⟩:=I h
   refine e7 rfl rfl rfl rfl hx33 rfl<|f2 rfl<|E (ko<|kt<|kt<|kt<|kn) fun _=>?_
   refine F<|a7 rfl rfl<|C rfl<|E (ko<|kt<|kt<|kt<|kn) ?_
   cases h
   show Env.keep _ _=_
   rw [Kow rfl (Ktv rfl (Ktv rfl (Ktv rfl (Knil _))))]
   rw [b4 (a5 (hw2 27)) hi2 (e0 (a5 (hw2 26)))]
   all_goals rfl
  ·intro i2 s2 hi2
   refine D<|F<|V rfl rfl<|E (ko<|kt<|kt<|kt<|kt<|kn) fun _=>?_
   refine D<|b7 rfl (b8 hi2)<|b3 (ko<|kn) ?_
   exact ⟨rfl,rfl⟩
  ·intro _
   refine D<|F<|C rfl<|f1 rfl<|E (kt<|kn) fun _=>?_
   exact L (by cases h;rfl)
theorem ck55:CK f55 (Rq [Af 2 0,Ak 3] [1,2]<|Rq [Ac 4 2 1,Ab 5 4,Ab 6 1,Bt 7 5 6,Aa 3 7] [3]<|.ret) [.tmp 3]:= by decide +kernel
theorem c55 (n:NodeType) (c0:Int) (r:Bool) (h:triplerule_Valid_1 n c0=some r):Sound prog 55 [eNodeType n,.pt [eI c0]] (.sh (eB r)):= by
 refine Fn ck55 fun hw=>?_
 unfold triplerule_Valid_1 at h
 refine D<|F<|a4 rfl rfl<|C rfl<|E (kt<|kt<|kn) fun _=>?_
 refine D<|F<|K rfl<|J rfl<|J rfl<|d1 rfl rfl<|C rfl<|E (kt<|kn) fun _=>?_
 exact L (by cases h;rfl)
theorem ck15:CK f15 (Rq [Af 3 0,Af 4 1,Af 5 2,Ad 6 0] [3,4,5]<|Sq (Rq [Ae 14 3 2,Ae 15 4 2,Al 16 51 14 15,Aa 7 16] [3,5,7]<|Rq [Aa 17 7,Av 18 17 0] [3,5,7,18]<|Co 18 (Rq [Aa 19 7,Aa 6 19] [6]<|.ret)<|Sk [3,5])<|Sq (Rq [Ae 20 3 2,Ae 21 5 25,Al 22 52 20 21,Aa 8 22] [3,5,8]<|Rq [Aa 23 8,Av 24 23 0] [3,5,8,24]<|Co 24 (Rq [Aa 25 8,Aa 6 25] [6]<|.ret)<|Sk [3,5])<|Rq [Ac 26 5 1,Ai 27 26 2,Ab 28 27,Ah 29 28,Ac 30 5 1,Ai 31 30 4,Ab 32 31,Ah 33 32,Bn 34 29 33,Ac 35 5 6,Ai 36 35 2,Ab 37 36,Ah 38 37,Bn 39 34 38,Ac 40 5 6,Ai 41 40 4,Ab 42 41,Ah 43 42,Bn 44 39 43,Be 45 44 0,Aa 46 45,Ba 47 5 1 46,Bu 48 47 3 46,Ax 49 48 46,Di 50 49 0 46,At 51 46 50,Aa 9 51] [3,5,9]<|Sq (Rq [Aa 52 9,Az 53 52,Aa 54 53,Ar 55 5 15 54,Ao 56 55 54,Br 57 56 54,As 58 54 57,Aa 59 58,Ar 60 5 16 59,Bi 61 60 0 59,Ao 62 61 59,Dj 63 62 1 59,As 64 59 63,Aa 65 64,Ar 66 5 11 65,Bi 67 66 0 65,Ao 68 67 65,Bc 69 68 65,Ar 70 5 1 65,Bi 71 70 0 65,Bi 72 71 0 65,Ao 73 72 65,Bc 74 73 65,⟨some 75,.bin (.i) .lss (.s 69) (.s 74),some (65,false)⟩,As 76 65 75,Aa 77 76,Ar 78 5 11 77,Bi 79 78 1 77,Ao 80 79 77,Bc 81 80 77,Ar 82 5 1 77,Bi 83 82 0 77,Bi 84 83 1 77,Ao 85 84 77,Bc 86 85 77,⟨some 87,.bin (.i) .lss (.s 81) (.s 86),some (77,false)⟩,As 88 77 87] [3,5,88]<|Co 88 (Rq [Ad 6 8] [6]<|.ret)<|Sk [3,5])<|Sq (Rq [Ac 89 5 1,Ai 90 89 0,Ai 91 90 0,Ab 92 91,Ac 93 5 6,Ai 94 93 0,Ai 95 94 0,Ab 96 95,Er 97 1 92 96,Au 98 53 97,Ah 99 98,Ad 100 0] [3,5,98,99,100]<|Bl 0<|Lo [3,5,98,99,100]<|Rq [Ap 101 100 99] [3,5,98,99,100,101]<|Sq (Co 101 (Sk [3,5,98,99,100])<|Ex 0 [3,5])<|Sq (Bl 1<|Rq [Ag 102 98 100 1,Ab 103 102,Eu 11 0,Aj 1 11 103,Cn 11] [3,5,11,98,99,100]<|Rq [Ac 104 3 0,Ab 105 104,Cf 106 55 11,Al 107 54 105 106] [3,5,98,99,100,107]<|Co 107 (Rq [Ad 6 13] [6]<|.ret)<|Sk [3,5,98,99,100])<|Re [An 108 100 1,Aa 100 108] [3,5,98,99,100])<|Sq (Rq [Ac 109 5 1,Ai 110 109 0,Ai 111 110 1,Ab 112 111,Ah 113 112,Ad 114 0] [3,5,112,113,114]<|Bl 2<|Lo [3,5,112,113,114]<|Rq [Ap 115 114 113] [3,5,112,113,114,115]<|Sq (Co 115 (Sk [3,5,112,113,114])<|Ex 2 [])<|Sq (Bl 3<|Rq [Ag 116 112 114 3,Ae 117 116 3,By 13 0 0 0,Aj 3 13 117] [3,5,13,112,113,114]<|Sq (Dr [118,119,120,121,122,123,124,125,126,127,128,129,130,131,132,133,134,135,136,137,138] [Ae 118 3 2,Ac 119 13 0,Ab 120 119,Ac 121 5 1,Ai 122 121 0,Ai 123 122 0,Ab 124 123,Ac 125 13 1,Ab 126 125,Ag 127 124 126 1,Ab 128 127,Ac 129 5 1,Ai 130 129 0,Ai 131 130 0,Ab 132 131,Ac 133 13 2,Ab 134 133,Ag 135 132 134 1,Ab 136 135,Bz 137 56 118 120 128 136,Az 138 137] [3,5,112,113,114,138])<|Co 138 (Rq [Ad 6 13] [6]<|.ret)<|Sk [3,5,112,113,114])<|Re [An 139 114 1,Aa 114 139] [3,5,112,113,114])<|Rq [Ad 6 0] [6]<|.ret) [.tmp 6]:= by decide +kernel
theorem c15 (t:Types) (s_1:Sorts) (r_2:Rule) (r:Int) (h:triplerule_Valid t s_1 r_2=some r):Sound prog 15 [eTypes t,eSorts s_1,eRule r_2] (.sh (eI r)):= by
 refine Fn ck15 fun hw=>?_
 unfold triplerule_Valid at h
 refine D<|F<|a4 rfl rfl<|a4 rfl rfl<|a4 rfl rfl<|C rfl<|E (kt<|kt<|kt<|kn) fun _=>?_
 refine D<|D<|F<|R rfl rfl (show _=eTypes t from rfl)<|R rfl rfl (show _=eSorts s_1 from rfl) ?_
 obtain ⟨x16,hx16,h⟩:=I h
 refine T rfl (c51 t s_1 _ hx16)<|C rfl<|E (kt<|kt<|kt<|kn) fun _=>?_
 refine D<|F<|C rfl<|a9 rfl rfl<|E (kt<|kt<|kt<|kt<|kn) fun _=>?_
 refine S rfl (fun hc18=>?_) (fun hc18=>?_)
 ·replace h:=M hc18 h
  refine D<|F<|C rfl<|C rfl<|E (kt<|kn) fun _=>?_
  exact L (by cases h;rfl)
 ·replace h:=O hc18 h
  refine P (kt<|kt<|kn) fun _=>?_
  refine D<|D<|F<|R rfl rfl (show _=eTypes t from rfl)<|R rfl rfl (show _=eRule r_2 from rfl) ?_
  obtain ⟨x22,hx22,h⟩:=I h
  refine T rfl (c52 t r_2 _ hx22)<|C rfl<|E (kt<|kt<|kt<|kn) fun _=>?_
  refine D<|F<|C rfl<|a9 rfl rfl<|E (kt<|kt<|kt<|kt<|kn) fun _=>?_
  refine S rfl (fun hc24=>?_) (fun hc24=>?_)
  ·replace h:=M hc24 h
   refine D<|F<|C rfl<|C rfl<|E (kt<|kn) fun _=>?_
   exact L (by cases h;rfl)
  ·replace h:=O hc24 h
   refine P (kt<|kt<|kn) fun _=>?_
   refine D<|F<|K rfl<|a6 rfl<|J rfl<|U rfl rfl<|K rfl<|a6 rfl<|J rfl<|U rfl rfl<|a7 rfl rfl<|K rfl<|a6 rfl<|J rfl<|U rfl rfl<|a7 rfl rfl<|K rfl<|a6 rfl<|J rfl<|U rfl rfl<|a7 rfl rfl<|d1 rfl rfl<|C rfl ?_
   refine gA 5 [47,48,49,50] 51 (decide ((w64 ((w64 ((w64 ((r_2.Left.Slots.length:Int)+(r_2.Left.Tests.length:Int)))+(r_2.Right.Slots.length:Int)))+(r_2.Right.Tests.length:Int)))=0)) (decide (r_2.Left.Vars=0)) (fun hg51=>?_) (fun hg51=>?_) ?_
   ·refine G rfl hg51<|K rfl<|G rfl hg51<|a6 rfl<|G rfl hg51<|J rfl<|G rfl hg51<|d1 rfl rfl<|Y rfl hg51 rfl ?_
    exact ⟨⟨_,_,_,_,rfl⟩⟩
   ·refine H rfl hg51<|H rfl hg51<|H rfl hg51<|H rfl hg51<|Z rfl hg51 rfl ?_
    exact ⟨⟨_,_,_,_,rfl⟩⟩
   rintro _ ⟨_,_,_,_,rfl⟩
   refine C rfl<|E (kt<|kt<|kt<|kn) fun _=>?_
   refine D<|D<|F<|C rfl<|d0 rfl<|C rfl ?_
   refine gO 4 [55,56,57] 58 (!((decide ((w64 ((w64 ((w64 ((r_2.Left.Slots.length:Int)+(r_2.Left.Tests.length:Int)))+(r_2.Right.Slots.length:Int)))+(r_2.Right.Tests.length:Int)))=0))&&(decide (r_2.Left.Vars=0)))) (!r_2.Injective) (fun hg58=>?_) (fun hg58=>?_) ?_
   ·refine H rfl hg58<|H rfl hg58<|H rfl hg58<|Y rfl hg58 rfl ?_
    exact ⟨⟨_,_,_,rfl⟩⟩
   ·refine G rfl hg58<|K rfl<|G rfl hg58<|J rfl<|G rfl hg58<|d0 rfl<|Z rfl hg58 rfl ?_
    exact ⟨⟨_,_,_,rfl⟩⟩
   rintro _ ⟨_,_,_,rfl⟩
   refine C rfl ?_
   refine gO 5 [60,61,62,63] 64 ((!((decide ((w64 ((w64 ((w64 ((r_2.Left.Slots.length:Int)+(r_2.Left.Tests.length:Int)))+(r_2.Right.Slots.length:Int)))+(r_2.Right.Tests.length:Int)))=0))&&(decide (r_2.Left.Vars=0))))||(!r_2.Injective)) (!decide (r_2.Condition.Kind=1)) (fun hg64=>?_) (fun hg64=>?_) ?_
   ·refine H rfl hg64<|H rfl hg64<|H rfl hg64<|H rfl hg64<|Y rfl hg64 rfl ?_
    exact ⟨⟨_,_,_,_,rfl⟩⟩
   ·refine G rfl hg64<|K rfl<|G rfl hg64<|a6 rfl<|G rfl hg64<|J rfl<|G rfl hg64<|a9 rfl rfl<|Z rfl hg64 rfl ?_
    exact ⟨⟨_,_,_,_,rfl⟩⟩
   rintro _ ⟨_,_,_,_,rfl⟩
   refine C rfl ?_
   refine gO 11 [66,67,68,69,70,71,72,73,74,75] 76 (((!((decide ((w64 ((w64 ((w64 ((r_2.Left.Slots.length:Int)+(r_2.Left.Tests.length:Int)))+(r_2.Right.Slots.length:Int)))+(r_2.Right.Tests.length:Int)))=0))&&(decide (r_2.Left.Vars=0))))||(!r_2.Injective))||(!decide (r_2.Condition.Kind=1))) (decide ((r_2.Keep.Nodes.length:Int)<(r_2.Left.Graph.Nodes.length:Int))) (fun hg76=>?_) (fun hg76=>?_) ?_
   ·refine H rfl hg76<|H rfl hg76<|H rfl hg76<|H rfl hg76<|H rfl hg76<|H rfl hg76<|H rfl hg76<|H rfl hg76<|H rfl hg76<|H rfl hg76<|Y rfl hg76 rfl ?_
    exact ⟨⟨_,_,_,_,_,_,_,_,_,_,rfl⟩⟩
   ·refine G rfl hg76<|K rfl<|G rfl hg76<|a6 rfl<|G rfl hg76<|J rfl<|G rfl hg76<|U rfl rfl<|G rfl hg76<|K rfl<|G rfl hg76<|a6 rfl<|G rfl hg76<|a6 rfl<|G rfl hg76<|J rfl<|G rfl hg76<|U rfl rfl<|G rfl hg76<|V rfl rfl<|Z rfl hg76 rfl ?_
    exact ⟨⟨_,_,_,_,_,_,_,_,_,_,rfl⟩⟩
   rintro _ ⟨_,_,_,_,_,_,_,_,_,_,rfl⟩
   refine C rfl ?_
   refine gO 11 [78,79,80,81,82,83,84,85,86,87] 88 ((((!((decide ((w64 ((w64 ((w64 ((r_2.Left.Slots.length:Int)+(r_2.Left.Tests.length:Int)))+(r_2.Right.Slots.length:Int)))+(r_2.Right.Tests.length:Int)))=0))&&(decide (r_2.Left.Vars=0))))||(!r_2.Injective))||(!decide (r_2.Condition.Kind=1)))||(decide ((r_2.Keep.Nodes.length:Int)<(r_2.Left.Graph.Nodes.length:Int)))) (decide ((r_2.Keep.Edges.length:Int)<(r_2.Left.Graph.Edges.length:Int))) (fun hg88=>?_) (fun hg88=>?_) ?_
   ·refine H rfl hg88<|H rfl hg88<|H rfl hg88<|H rfl hg88<|H rfl hg88<|H rfl hg88<|H rfl hg88<|H rfl hg88<|H rfl hg88<|H rfl hg88<|Y rfl hg88 rfl ?_
    exact ⟨⟨_,_,_,_,_,_,_,_,_,_,rfl⟩⟩
   ·refine G rfl hg88<|K rfl<|G rfl hg88<|a6 rfl<|G rfl hg88<|J rfl<|G rfl hg88<|U rfl rfl<|G rfl hg88<|K rfl<|G rfl hg88<|a6 rfl<|G rfl hg88<|a6 rfl<|G rfl hg88<|J rfl<|G rfl hg88<|U rfl rfl<|G rfl hg88<|V rfl rfl<|Z rfl hg88 rfl ?_
    exact ⟨⟨_,_,_,_,_,_,_,_,_,_,rfl⟩⟩
   rintro _ ⟨_,_,_,_,_,_,_,_,_,_,rfl⟩
   refine E (kt<|kt<|kt<|kn) fun _=>?_
   refine S rfl (fun hc88=>?_) (fun hc88=>?_)
   ·replace h:=M hc88 h
    refine D<|F<|C rfl<|E (kt<|kn) fun _=>?_
    exact L (by cases h;rfl)
   ·replace h:=O hc88 h
    refine P (kt<|kt<|kn) fun _=>?_
    refine D<|D<|F<|K rfl<|a6 rfl<|a6 rfl<|J rfl<|K rfl<|a6 rfl<|a6 rfl<|J rfl<|e1 (e:=lI) (l:=[r_2.Left.Graph.Nodes,r_2.Right.Graph.Nodes]) rfl rfl (fun _=>rfl) ?_
    obtain ⟨x98,hx98,h⟩:=I h
    refine T rfl (c53 [r_2.Left.Graph.Nodes,r_2.Right.Graph.Nodes] _ hx98)<|U rfl rfl<|C rfl<|E (kt<|kt<|kt<|kt<|kt<|kn) fun _=>?_
    obtain ⟨o0,ho0,h⟩:=d2 h
    refine d6 ho0 (fun (i0:Int) (_:Unit)=>[(3,.tv (.pt (eTypes t).cells)),(5,.tv (.pt (eRule r_2).cells)),(98,.tv (lI x98)),(99,.tv (eI (x98.length:Int))),(100,.tv (eI i0))]) (fun (_:Unit)=>[(3,.tv (.pt (eTypes t).cells)),(5,.tv (.pt (eRule r_2).cells))]) (fun zv ze=>resIs ([.tmp 6]) (.sh (eI zv)) ze) rfl ?_ ?_ ?_ ?_
    ·clear h ho0
     intro i0 s0 r0 hi0 h hw0
     refine D<|F<|V rfl rfl<|E (kt<|kt<|kt<|kt<|kt<|kt<|kn) fun _=>?_
     refine D<|b5 rfl (b6 hi0)<|P (kt<|kt<|kt<|kt<|kt<|kn) fun _=>?_
     refine D<|b0<|D<|F ?_
     obtain ⟨x102,hx102,h⟩:=I h
     refine W rfl rfl rfl hx102 rfl<|J rfl<|b1 rfl<|a8 rfl rfl rfl rfl rfl<|l2 rfl rfl<|E (kt<|kt<|kt<|kt<|kt<|kt<|kn) fun _=>?_
     refine D<|F<|K rfl<|J rfl<|g2 rfl ?_
     obtain ⟨x107,hx107,h⟩:=I h
     refine T rfl (c54 t.Nodes (fun y0=>triplerule_Valid_1 y0 x102) _ _ (fun y0 r h=>c55 y0 x102 r h) _ hx107)<|E (kt<|kt<|kt<|kt<|kt<|kt<|kn) fun _=>?_
     refine S rfl (fun hc107=>?_) (fun hc107=>?_)
     ·replace h:=M hc107 h
      refine D<|F<|C rfl<|E (kt<|kn) fun _=>?_
      refine L ?_
      cases h
      exact ⟨_,rfl,rfl⟩
     ·replace h:=O hc107 h
      refine P (kt<|kt<|kt<|kt<|kt<|kn) fun _=>?_
      refine F<|a7 rfl rfl<|C rfl<|E (kt<|kt<|kt<|kt<|kt<|kn) ?_
      cases h
      refine ⟨_,rfl,?_⟩
      rw [Ktv rfl (Ktv rfl (Ktv rfl (Ktv rfl (Ktv rfl (Knil _)))))]
      rw [b4 (a5 (hw0 100)) hi0 (e0 (a5 (hw0 99)))]
      all_goals rfl
    ·intro i0 s0 hi0
     refine D<|F<|V rfl rfl<|E (kt<|kt<|kt<|kt<|kt<|kt<|kn) fun _=>?_
     refine D<|b7 rfl (b8 hi0)<|b3 (kt<|kt<|kn) ?_
     exact ⟨rfl,rfl⟩
    ·intro s0 hs
     replace h:=d3 h hs
     intro _
     refine D<|D<|F<|K rfl<|a6 rfl<|a6 rfl<|J rfl<|U rfl rfl<|C rfl<|E (kt<|kt<|kt<|kt<|kt<|kn) fun _=>?_
     obtain ⟨o2,ho2,h⟩:=d2 h
     refine d6 ho2 (fun (i2:Int) (_:Unit)=>[(3,.tv (.pt (eTypes t).cells)),(5,.tv (.pt (eRule r_2).cells)),(112,.tv (lE r_2.Left.Graph.Edges)),(113,.tv (eI (r_2.Left.Graph.Edges.length:Int))),(114,.tv (eI i2))]) (fun (_:Unit)=>[]) (fun zv ze=>resIs ([.tmp 6]) (.sh (eI zv)) ze) rfl ?_ ?_ ?_ ?_
     ·clear h ho2
      intro i2 s2 r2 hi2 h hw2
      refine D<|F<|V rfl rfl<|E (kt<|kt<|kt<|kt<|kt<|kt<|kn) fun _=>?_
      refine D<|b5 rfl (b6 hi2)<|P (kt<|kt<|kt<|kt<|kt<|kn) fun _=>?_
      refine D<|b0<|D<|F ?_
      obtain ⟨x116,hx116,h⟩:=I h
      refine W rfl rfl rfl hx116 rfl<|R rfl rfl (show _=eEdge x116 from rfl)<|b1 rfl<|a8 rfl rfl rfl rfl rfl<|E (kt<|kt<|kb<|kt<|kt<|kt<|kn) fun _=>?_
      refine D<|b9 rfl<|R rfl rfl (show _=eTypes t from rfl)<|a3 rfl<|J rfl<|K rfl<|a6 rfl<|a6 rfl<|J rfl<|a3 rfl<|J rfl ?_
      obtain ⟨x127,hx127,h⟩:=I h
      refine W rfl rfl rfl hx127 rfl<|J rfl<|K rfl<|a6 rfl<|a6 rfl<|J rfl<|a3 rfl<|J rfl ?_
      obtain ⟨x135,hx135,h⟩:=I h
      refine W rfl rfl rfl hx135 rfl<|J rfl ?_
      obtain ⟨x137,hx137,h⟩:=I h
      refine T rfl (c56 t x116.Type' x127 x135 _ hx137)<|d0 rfl<|E (kt<|kt<|kt<|kt<|kt<|kt<|kn) fun _=>?_
      refine S rfl (fun hc138=>?_) (fun hc138=>?_)
      ·replace h:=M hc138 h
       refine D<|F<|C rfl<|E (kt<|kn) fun _=>?_
       refine L ?_
       cases h
       exact ⟨_,rfl,rfl⟩
      ·replace h:=O hc138 h
       refine P (kt<|kt<|kt<|kt<|kt<|kn) fun _=>?_
       refine F<|a7 rfl rfl<|C rfl<|E (kt<|kt<|kt<|kt<|kt<|kn) ?_
       cases h
       refine ⟨_,rfl,?_⟩
       rw [Ktv rfl (Ktv rfl (Ktv rfl (Ktv rfl (Ktv rfl (Knil _)))))]
       rw [b4 (a5 (hw2 114)) hi2 (e0 (a5 (hw2 113)))]
       all_goals rfl
     ·intro i2 s2 hi2
      refine D<|F<|V rfl rfl<|E (kt<|kt<|kt<|kt<|kt<|kt<|kn) fun _=>?_
      refine D<|b7 rfl (b8 hi2)<|b3 (kn) ?_
      exact ⟨rfl,rfl⟩
     ·intro s2 hs
      replace h:=d3 h hs
      intro _
      refine D<|F<|C rfl<|E (kt<|kn) fun _=>?_
      exact L (by cases h;rfl)
     ·intro v2 ze hv hR
      replace h:=d4 h hv
      cases h
      exact hR
    ·intro v0 ze hv hR
     replace h:=d4 h hv
     cases h
     exact hR
theorem ck87:CK f87 (Rq [Af 3 0,Dq 6 1 3 1 1] [1,2,3,6]<|Rq [Dq 7 1 3 1 1] [1,2,3,6,7]<|Sq (Rq [Ac 12 3 0,Ab 13 12,Ah 14 13,Ad 15 0] [1,2,3,6,7,13,14,15]<|Bl 0<|Lo [1,2,3,6,7,13,14,15]<|Rq [Ap 16 15 14] [1,2,3,6,7,13,14,15,16]<|Sq (Co 16 (Sk [1,2,3,6,7,13,14,15])<|Ex 0 [2,3,6,7])<|Sq (Bl 1<|Rq [Aa 17 15,Ag 18 13 15 1,Ab 19 18,Aa 8 17,Aa 9 19] [1,2,3,6,7,8,9,13,14,15]<|Rq [Aa 20 1,Aa 21 8,Bw 22 20 21] [1,2,3,6,7,8,9,13,14,15,22]<|Co 22 (Rq [Ac 23 7 2,Bm 24 23,Aa 25 8,Bh 26 1 25,Bb 27 1 24 26,Ac 28 7 2,Bj 1 28 27] [1,2,3,6,7,9,13,14,15]<|Re [Ac 29 7 0,Ai 30 29 0,Bm 31 30,Aa 32 9,Bh 33 1 32,Bb 34 1 31 33,Ac 35 7 0,Ai 36 35 0,Bj 1 36 34] [1,2,3,6,7,13,14,15])<|Sk [1,2,3,6,7,13,14,15])<|Re [An 37 15 1,Aa 15 37] [1,2,3,6,7,13,14,15])<|Sq (Rq [Ac 38 3 1,Ab 39 38,Ah 40 39,Ad 41 0] [2,6,7,39,40,41]<|Bl 2<|Lo [2,6,7,39,40,41]<|Rq [Ap 42 41 40] [2,6,7,39,40,41,42]<|Sq (Co 42 (Sk [2,6,7,39,40,41])<|Ex 2 [6,7])<|Sq (Bl 3<|Rq [Aa 43 41,Ag 44 39 41 3,Ae 45 44 3,By 11 0 0 0,Aa 10 43,Aj 3 11 45] [2,6,7,10,11,39,40,41]<|Rq [Aa 46 2,Aa 47 10,Bw 48 46 47] [2,6,7,10,11,39,40,41,48]<|Co 48 (Rq [Ac 49 7 3,Bm 50 49,Aa 51 10,Bh 52 1 51,Bb 53 1 50 52,Ac 54 7 3,Bj 1 54 53] [2,6,7,11,39,40,41]<|Dr [55,56,57,58,59,60,61,62,63,64,65,66,67,68,69,70,71,72,73,74] [Ac 55 7 0,Ai 56 55 1,Bm 57 56,Ac 58 11 0,Ab 59 58,Ac 60 7 2,Ab 61 60,Ac 62 11 1,Ab 63 62,Al 64 90 61 63,Ac 65 7 2,Ab 66 65,Ac 67 11 2,Ab 68 67,Al 69 90 66 68,Ds 70 0 0 0 0 1 59 1 1 64 2 1 69,Bh 71 3 70,Bb 72 3 57 71,Ac 73 7 0,Ai 74 73 1,Bj 1 74 72] [2,6,7,39,40,41])<|Sk [2,6,7,39,40,41])<|Re [An 75 41 1,Aa 41 75] [2,6,7,39,40,41])<|Rq [Ae 76 7 4,Aj 4 6 76] [6]<|.ret) [.cell 6 (some 4)]:= by decide +kernel
theorem c87 (g:Graph) (node:Int->Option Bool) (f_node:FuncId) (k_node:List TV) (h_node:∀ (y0:Int) r,node y0=some r->Sound prog f_node ([eI y0]++k_node) (.sh (eB r))) (edge:Int->Option Bool) (f_edge:FuncId) (k_edge:List TV) (h_edge:∀ (y0:Int) r,edge y0=some r->Sound prog f_edge ([eI y0]++k_edge) (.sh (eB r))) (r:triplerule_chosen) (h:triplerule_choose g node edge=some r):Sound prog 87 [eGraph g,.clo f_node k_node,.clo f_edge k_edge] (.sh (etriplerule_chosen r)):= by
 refine Fn ck87 fun hw=>?_
 unfold triplerule_choose at h
 refine D<|F<|a4 rfl rfl<|b1 rfl<|E (kt<|kt<|kt<|kb<|kn) fun _=>?_
 refine D<|F<|b1 rfl<|E (kt<|kt<|kt<|kb<|kb<|kn) fun _=>?_
 refine D<|D<|F<|K rfl<|J rfl<|U rfl rfl<|C rfl<|E (kt<|kt<|kt<|kb<|kb<|kt<|kt<|kt<|kn) fun _=>?_
 obtain ⟨s0,hs0,h⟩:=I h
 refine f5 hs0 (fun (i0:Int) (s0:triplerule_chosen)=>[(1,.tv (.clo f_node k_node)),(2,.tv (.clo f_edge k_edge)),(3,.tv (.pt (eGraph g).cells)),(6,.bx [⟨true,lI []⟩,⟨true,lE []⟩,⟨true,lI []⟩,⟨true,lI []⟩]),(7,.bx [⟨true,lI s0.graph.Nodes⟩,⟨true,lE s0.graph.Edges⟩,⟨true,lI s0.nodes⟩,⟨true,lI s0.edges⟩]),(13,.tv (lI g.Nodes)),(14,.tv (eI (g.Nodes.length:Int))),(15,.tv (eI i0))]) (fun (s0:triplerule_chosen)=>[(2,.tv (.clo f_edge k_edge)),(3,.tv (.pt (eGraph g).cells)),(6,.bx [⟨true,lI []⟩,⟨true,lE []⟩,⟨true,lI []⟩,⟨true,lI []⟩]),(7,.bx [⟨true,lI s0.graph.Nodes⟩,⟨true,lE s0.graph.Edges⟩,⟨true,lI s0.nodes⟩,⟨true,lI s0.edges⟩])]) rfl ?_ ?_ ?_
 ·clear h hs0
  intro i0 s0 r0 hi0 h hw0
  refine D<|F<|V rfl rfl<|E (kt<|kt<|kt<|kb<|kb<|kt<|kt<|kt<|kt<|kn) fun _=>?_
  refine D<|b5 rfl (b6 hi0)<|P (kt<|kt<|kt<|kb<|kb<|kt<|kt<|kt<|kn) fun _=>?_
  refine D<|b0<|D<|F<|C rfl ?_
  obtain ⟨x18,hx18,h⟩:=I h
  refine W rfl rfl rfl hx18 rfl<|J rfl<|C rfl<|C rfl<|E (kt<|kt<|kt<|kb<|kb<|kt<|kt<|kt<|kt<|kt<|kn) fun _=>?_
  refine D<|F<|C rfl<|C rfl ?_
  obtain ⟨x22,hx22,h⟩:=I h
  refine g3 rfl rfl (h_node _ _ hx22)<|E (kt<|kt<|kt<|kb<|kb<|kt<|kt<|kt<|kt<|kt<|kt<|kn) fun _=>?_
  refine S rfl (fun hc22=>?_) (fun hc22=>?_)
  ·replace h:=M hc22 h
   refine D<|F<|a3 rfl<|f8 rfl rfl rfl rfl<|C rfl<|e1 (e:=eI) (l:=[i0]) rfl rfl (fun _=>rfl) ?_
   obtain ⟨x27,hx27,h⟩:=I h
   refine e7 rfl rfl rfl rfl hx27 rfl<|a3 rfl<|f7 rfl rfl rfl (by decide) rfl rfl<|E (kt<|kt<|kt<|kb<|kb<|kt<|kt<|kt<|kt<|kn) fun _=>?_
   refine F<|a3 rfl<|f3 rfl rfl<|f8 rfl rfl rfl rfl<|C rfl<|e1 (e:=eI) (l:=[x18]) rfl rfl (fun _=>rfl) ?_
   obtain ⟨x34,hx34,h⟩:=I h
   refine e7 rfl rfl rfl rfl hx34 rfl<|a3 rfl<|f3 rfl rfl<|f7 rfl rfl rfl (by decide) rfl rfl<|E (kt<|kt<|kt<|kb<|kb<|kt<|kt<|kt<|kn) fun _=>?_
   refine F<|a7 rfl rfl<|C rfl<|E (kt<|kt<|kt<|kb<|kb<|kt<|kt<|kt<|kn) ?_
   cases h
   show Env.keep _ _=_
   rw [Ktv rfl (Ktv rfl (Ktv rfl (Kbx rfl (Kbx rfl (Ktv rfl (Ktv rfl (Ktv rfl (Knil _))))))))]
   rw [b4 (a5 (hw0 15)) hi0 (e0 (a5 (hw0 14)))]
   all_goals rfl
  ·replace h:=O hc22 h
   refine P (kt<|kt<|kt<|kb<|kb<|kt<|kt<|kt<|kn) fun _=>?_
   refine F<|a7 rfl rfl<|C rfl<|E (kt<|kt<|kt<|kb<|kb<|kt<|kt<|kt<|kn) ?_
   cases h
   show Env.keep _ _=_
   rw [Ktv rfl (Ktv rfl (Ktv rfl (Kbx rfl (Kbx rfl (Ktv rfl (Ktv rfl (Ktv rfl (Knil _))))))))]
   rw [b4 (a5 (hw0 15)) hi0 (e0 (a5 (hw0 14)))]
   all_goals rfl
 ·intro i0 s0 hi0
  refine D<|F<|V rfl rfl<|E (kt<|kt<|kt<|kb<|kb<|kt<|kt<|kt<|kt<|kn) fun _=>?_
  refine D<|b7 rfl (b8 hi0)<|b3 (kt<|kt<|kb<|kb<|kn) ?_
  exact ⟨rfl,rfl⟩
 ·intro _
  refine D<|D<|F<|K rfl<|J rfl<|U rfl rfl<|C rfl<|E (kt<|kb<|kb<|kt<|kt<|kt<|kn) fun _=>?_
  obtain ⟨s2,hs2,h⟩:=I h
  refine f5 hs2 (fun (i2:Int) (s2:triplerule_chosen)=>[(2,.tv (.clo f_edge k_edge)),(6,.bx [⟨true,lI []⟩,⟨true,lE []⟩,⟨true,lI []⟩,⟨true,lI []⟩]),(7,.bx [⟨true,lI s2.graph.Nodes⟩,⟨true,lE s2.graph.Edges⟩,⟨true,lI s2.nodes⟩,⟨true,lI s2.edges⟩]),(39,.tv (lE g.Edges)),(40,.tv (eI (g.Edges.length:Int))),(41,.tv (eI i2))]) (fun (s2:triplerule_chosen)=>[(6,.bx [⟨true,lI []⟩,⟨true,lE []⟩,⟨true,lI []⟩,⟨true,lI []⟩]),(7,.bx [⟨true,lI s2.graph.Nodes⟩,⟨true,lE s2.graph.Edges⟩,⟨true,lI s2.nodes⟩,⟨true,lI s2.edges⟩])]) rfl ?_ ?_ ?_
  ·clear h hs2
   intro i2 s2 r2 hi2 h hw2
   refine D<|F<|V rfl rfl<|E (kt<|kb<|kb<|kt<|kt<|kt<|kt<|kn) fun _=>?_
   refine D<|b5 rfl (b6 hi2)<|P (kt<|kb<|kb<|kt<|kt<|kt<|kn) fun _=>?_
   refine D<|b0<|D<|F<|C rfl ?_
   obtain ⟨x44,hx44,h⟩:=I h
   refine W rfl rfl rfl hx44 rfl<|R rfl rfl (show _=eEdge x44 from rfl)<|b1 rfl<|C rfl<|a8 rfl rfl rfl rfl rfl<|E (kt<|kb<|kb<|kt<|kb<|kt<|kt<|kt<|kn) fun _=>?_
   refine D<|F<|C rfl<|C rfl ?_
   obtain ⟨x48,hx48,h⟩:=I h
   refine g3 rfl rfl (h_edge _ _ hx48)<|E (kt<|kb<|kb<|kt<|kb<|kt<|kt<|kt<|kt<|kn) fun _=>?_
   refine S rfl (fun hc48=>?_) (fun hc48=>?_)
   ·replace h:=M hc48 h
    refine D<|F<|a3 rfl<|f8 rfl rfl rfl rfl<|C rfl<|e1 (e:=eI) (l:=[i2]) rfl rfl (fun _=>rfl) ?_
    obtain ⟨x53,hx53,h⟩:=I h
    refine e7 rfl rfl rfl rfl hx53 rfl<|a3 rfl<|f7 rfl rfl rfl (by decide) rfl rfl<|E (kt<|kb<|kb<|kb<|kt<|kt<|kt<|kn) fun _=>?_
    refine b9 rfl<|a3 rfl<|f3 rfl rfl<|f8 rfl rfl rfl rfl<|a3 rfl<|J rfl<|a3 rfl<|J rfl<|a3 rfl<|J rfl ?_
    obtain ⟨x64,hx64,h⟩:=I h
    refine T rfl (c90 s2.nodes x44.From _ hx64)<|a3 rfl<|J rfl<|a3 rfl<|J rfl ?_
    obtain ⟨x69,hx69,h⟩:=I h
    refine T rfl (c90 s2.nodes x44.To _ hx69)<|g5 rfl rfl rfl (show _=eEdge (Edge.mk x44.Type' x64 x69) from rfl)<|e1 (e:=eEdge) (l:=[Edge.mk x44.Type' x64 x69]) rfl rfl (fun _=>rfl) ?_
    obtain ⟨x72,hx72,h⟩:=I h
    refine e7 rfl rfl rfl rfl hx72 rfl<|a3 rfl<|f3 rfl rfl<|f7 rfl rfl rfl (by decide) rfl rfl<|E (kt<|kb<|kb<|kt<|kt<|kt<|kn) fun _=>?_
    refine F<|a7 rfl rfl<|C rfl<|E (kt<|kb<|kb<|kt<|kt<|kt<|kn) ?_
    cases h
    show Env.keep _ _=_
    rw [Ktv rfl (Kbx rfl (Kbx rfl (Ktv rfl (Ktv rfl (Ktv rfl (Knil _))))))]
    rw [b4 (a5 (hw2 41)) hi2 (e0 (a5 (hw2 40)))]
    all_goals rfl
   ·replace h:=O hc48 h
    refine P (kt<|kb<|kb<|kt<|kt<|kt<|kn) fun _=>?_
    refine F<|a7 rfl rfl<|C rfl<|E (kt<|kb<|kb<|kt<|kt<|kt<|kn) ?_
    cases h
    show Env.keep _ _=_
    rw [Ktv rfl (Kbx rfl (Kbx rfl (Ktv rfl (Ktv rfl (Ktv rfl (Knil _))))))]
    rw [b4 (a5 (hw2 41)) hi2 (e0 (a5 (hw2 40)))]
    all_goals rfl
  ·intro i2 s2 hi2
   refine D<|F<|V rfl rfl<|E (kt<|kb<|kb<|kt<|kt<|kt<|kt<|kn) fun _=>?_
   refine D<|b7 rfl (b8 hi2)<|b3 (kb<|kb<|kn) ?_
   exact ⟨rfl,rfl⟩
  ·intro _
   refine D<|F<|R rfl rfl (show _=etriplerule_chosen s2 from rfl)<|a8 rfl rfl rfl rfl rfl<|E (kb<|kn) fun _=>?_
   exact L (by cases h;rfl)
theorem ck88:CK f88 (Rq [Ak 5] [0,1,2,3]<|Sq (Dr [5,6,7,8,9,10,11,12,13,14,15,16] [Ac 6 1 0,Ab 7 6,Ac 8 2 0,Ab 9 8,Aa 10 0,Ag 11 9 10 1,Ab 12 11,Ag 13 7 12 1,Ab 14 13,Ab 15 3,Bt 16 14 15,Aa 5 16] [5])<|.ret) [.tmp 5]:= by decide +kernel
theorem c88 (i_0:Int) (c0:Sorts) (c1:Graph) (c2:Int) (r:Bool) (h:triplerule_side_1_1 i_0 c0 c1 c2=some r):Sound prog 88 [eI i_0,.pt (eSorts c0).cells,.pt (eGraph c1).cells,.pt [eI c2]] (.sh (eB r)):= by
 refine Fn ck88 fun hw=>?_
 unfold triplerule_side_1_1 at h
 refine D<|F<|C rfl<|E (kt<|kt<|kt<|kt<|kn) fun _=>?_
 refine D<|b9 rfl<|K rfl<|J rfl<|K rfl<|J rfl<|C rfl ?_
 obtain ⟨x11,hx11,h⟩:=I h
 refine W rfl rfl rfl hx11 rfl<|J rfl ?_
 obtain ⟨x13,hx13,h⟩:=I h
 refine W rfl rfl rfl hx13 rfl<|J rfl<|J rfl<|d1 rfl rfl<|C rfl<|E (kt<|kn) fun _=>?_
 exact L (by cases h;rfl)
theorem ck89:CK f89 (Rq [Ak 5] [0,1,2,3]<|Sq (Dr [5,6,7,8,9,10,11,12,13,14,15,16,17] [Ac 6 1 1,Ab 7 6,Ac 8 2 1,Ab 9 8,Aa 10 0,Ag 11 9 10 3,Ai 12 11 0,Ab 13 12,Ag 14 7 13 1,Ab 15 14,Ab 16 3,Bt 17 15 16,Aa 5 17] [5])<|.ret) [.tmp 5]:= by decide +kernel
theorem c89 (i_0:Int) (c0:Sorts) (c1:Graph) (c2:Int) (r:Bool) (h:triplerule_side_1_2 i_0 c0 c1 c2=some r):Sound prog 89 [eI i_0,.pt (eSorts c0).cells,.pt (eGraph c1).cells,.pt [eI c2]] (.sh (eB r)):= by
 refine Fn ck89 fun hw=>?_
 unfold triplerule_side_1_2 at h
 refine D<|F<|C rfl<|E (kt<|kt<|kt<|kt<|kn) fun _=>?_
 refine D<|b9 rfl<|K rfl<|J rfl<|K rfl<|J rfl<|C rfl ?_
 obtain ⟨x11,hx11,h⟩:=I h
 refine W rfl rfl rfl hx11 rfl<|a6 rfl<|J rfl ?_
 obtain ⟨x14,hx14,h⟩:=I h
 refine W rfl rfl rfl hx14 rfl<|J rfl<|J rfl<|d1 rfl rfl<|C rfl<|E (kt<|kn) fun _=>?_
 exact L (by cases h;rfl)
theorem ck86:CK f86 (Rq [Af 3 0,Dq 4 1 3 1 1] [1,2,3,4]<|Rq [Ae 5 3 2,⟨some 6,.clo 88 [.s 1,.s 3,.s 2],none⟩,⟨some 7,.clo 89 [.s 1,.s 3,.s 2],none⟩,Bg 8 87 5 6 7,Aj 4 4 8] [4]<|.ret) [.cell 4 (some 4)]:= by decide +kernel
theorem c86 (g:Graph) (c0:Sorts) (c1:Int) (r:triplerule_chosen) (h:triplerule_side_1 g c0 c1=some r):Sound prog 86 [eGraph g,.pt (eSorts c0).cells,.pt [eI c1]] (.sh (etriplerule_chosen r)):= by
 refine Fn ck86 fun hw=>?_
 unfold triplerule_side_1 at h
 refine D<|F<|a4 rfl rfl<|b1 rfl<|E (kt<|kt<|kt<|kb<|kn) fun _=>?_
 refine D<|F<|R rfl rfl (show _=eGraph g from rfl)<|g2 rfl<|g2 rfl ?_
 obtain ⟨x8,hx8,h⟩:=I h
 refine T rfl (c87 g (fun y0=>triplerule_side_1_1 y0 c0 g c1) _ _ (fun y0 r h=>c88 y0 c0 g c1 r h) (fun y0=>triplerule_side_1_2 y0 c0 g c1) _ _ (fun y0 r h=>c89 y0 c0 g c1 r h) _ hx8)<|a8 rfl rfl rfl rfl rfl<|E (kb<|kn) fun _=>?_
 exact L (by cases h;rfl)
theorem ck141:CK f141 (Rq [Af 1 0,Bd 2 1 1] [1,2]<|Rq [Bd 3 1 1] [1,2,3]<|Sq (Rq [Ac 6 1 0,Ab 7 6,Ah 8 7,Ad 9 0] [1,2,3,8,9]<|Bl 0<|Lo [1,2,3,8,9]<|Rq [Ap 10 9 8] [1,2,3,8,9,10]<|Sq (Co 10 (Sk [1,2,3,8,9])<|Ex 0 [1,2,3])<|Sq (Bl 1<|Rq [Aa 11 9,Aa 4 11] [1,2,3,4,8,9]<|Re [Ac 12 3 0,Bm 13 12,Aa 14 4,Bh 15 1 14,Bb 16 1 13 15,Ac 17 3 0,Bj 1 17 16] [1,2,3,8,9])<|Re [An 18 9 1,Aa 9 18] [1,2,3,8,9])<|Sq (Rq [Ac 19 1 1,Ab 20 19,Ah 21 20,Ad 22 0] [2,3,21,22]<|Bl 2<|Lo [2,3,21,22]<|Rq [Ap 23 22 21] [2,3,21,22,23]<|Sq (Co 23 (Sk [2,3,21,22])<|Ex 2 [2,3])<|Sq (Bl 3<|Rq [Aa 24 22,Aa 5 24] [2,3,5,21,22]<|Re [Ac 25 3 1,Bm 26 25,Aa 27 5,Bh 28 1 27,Bb 29 1 26 28,Ac 30 3 1,Bj 1 30 29] [2,3,21,22])<|Re [An 31 22 1,Aa 22 31] [2,3,21,22])<|Rq [Ae 32 3 2,Aj 2 2 32] [2]<|.ret) [.cell 2 (some 2)]:= by decide +kernel
theorem c141 (g:Graph) (r:Part) (h:triplerule_whole g=some r):Sound prog 141 [eGraph g] (.sh (ePart r)):= by
 refine Fn ck141 fun hw=>?_
 unfold triplerule_whole at h
 refine D<|F<|a4 rfl rfl<|b1 rfl<|E (kt<|kb<|kn) fun _=>?_
 refine D<|F<|b1 rfl<|E (kt<|kb<|kb<|kn) fun _=>?_
 refine D<|D<|F<|K rfl<|J rfl<|U rfl rfl<|C rfl<|E (kt<|kb<|kb<|kt<|kt<|kn) fun _=>?_
 obtain ⟨s0,hs0,h⟩:=I h
 refine f5 hs0 (fun (i0:Int) (s0:Part)=>[(1,.tv (.pt (eGraph g).cells)),(2,.bx [⟨true,lI []⟩,⟨true,lI []⟩]),(3,.bx [⟨true,lI s0.Nodes⟩,⟨true,lI s0.Edges⟩]),(8,.tv (eI (g.Nodes.length:Int))),(9,.tv (eI i0))]) (fun (s0:Part)=>[(1,.tv (.pt (eGraph g).cells)),(2,.bx [⟨true,lI []⟩,⟨true,lI []⟩]),(3,.bx [⟨true,lI s0.Nodes⟩,⟨true,lI s0.Edges⟩])]) rfl ?_ ?_ ?_
 ·clear h hs0
  intro i0 s0 r0 hi0 h hw0
  refine D<|F<|V rfl rfl<|E (kt<|kb<|kb<|kt<|kt<|kt<|kn) fun _=>?_
  refine D<|b5 rfl (b6 hi0)<|P (kt<|kb<|kb<|kt<|kt<|kn) fun _=>?_
  refine D<|b0<|D<|F<|C rfl<|C rfl<|E (kt<|kb<|kb<|kt<|kt<|kt<|kn) fun _=>?_
  refine F<|a3 rfl<|f8 rfl rfl rfl rfl<|C rfl<|e1 (e:=eI) (l:=[i0]) rfl rfl (fun _=>rfl) ?_
  obtain ⟨x16,hx16,h⟩:=I h
  refine e7 rfl rfl rfl rfl hx16 rfl<|a3 rfl<|f7 rfl rfl rfl (by decide) rfl rfl<|E (kt<|kb<|kb<|kt<|kt<|kn) fun _=>?_
  refine F<|a7 rfl rfl<|C rfl<|E (kt<|kb<|kb<|kt<|kt<|kn) ?_
  cases h
  show Env.keep _ _=_
  rw [Ktv rfl (Kbx rfl (Kbx rfl (Ktv rfl (Ktv rfl (Knil _)))))]
  rw [b4 (a5 (hw0 9)) hi0 (e0 (a5 (hw0 8)))]
  all_goals rfl
 ·intro i0 s0 hi0
  refine D<|F<|V rfl rfl<|E (kt<|kb<|kb<|kt<|kt<|kt<|kn) fun _=>?_
  refine D<|b7 rfl (b8 hi0)<|b3 (kt<|kb<|kb<|kn) ?_
  exact ⟨rfl,rfl⟩
 ·intro _
  refine D<|D<|F<|K rfl<|J rfl<|U rfl rfl<|C rfl<|E (kb<|kb<|kt<|kt<|kn) fun _=>?_
  obtain ⟨s2,hs2,h⟩:=I h
  refine f5 hs2 (fun (i2:Int) (s2:Part)=>[(2,.bx [⟨true,lI []⟩,⟨true,lI []⟩]),(3,.bx [⟨true,lI s2.Nodes⟩,⟨true,lI s2.Edges⟩]),(21,.tv (eI (g.Edges.length:Int))),(22,.tv (eI i2))]) (fun (s2:Part)=>[(2,.bx [⟨true,lI []⟩,⟨true,lI []⟩]),(3,.bx [⟨true,lI s2.Nodes⟩,⟨true,lI s2.Edges⟩])]) rfl ?_ ?_ ?_
  ·clear h hs2
   intro i2 s2 r2 hi2 h hw2
   refine D<|F<|V rfl rfl<|E (kb<|kb<|kt<|kt<|kt<|kn) fun _=>?_
   refine D<|b5 rfl (b6 hi2)<|P (kb<|kb<|kt<|kt<|kn) fun _=>?_
   refine D<|b0<|D<|F<|C rfl<|C rfl<|E (kb<|kb<|kt<|kt<|kt<|kn) fun _=>?_
   refine F<|a3 rfl<|f8 rfl rfl rfl rfl<|C rfl<|e1 (e:=eI) (l:=[i2]) rfl rfl (fun _=>rfl) ?_
   obtain ⟨x29,hx29,h⟩:=I h
   refine e7 rfl rfl rfl rfl hx29 rfl<|a3 rfl<|f7 rfl rfl rfl (by decide) rfl rfl<|E (kb<|kb<|kt<|kt<|kn) fun _=>?_
   refine F<|a7 rfl rfl<|C rfl<|E (kb<|kb<|kt<|kt<|kn) ?_
   cases h
   show Env.keep _ _=_
   rw [Kbx rfl (Kbx rfl (Ktv rfl (Ktv rfl (Knil _))))]
   rw [b4 (a5 (hw2 22)) hi2 (e0 (a5 (hw2 21)))]
   all_goals rfl
  ·intro i2 s2 hi2
   refine D<|F<|V rfl rfl<|E (kb<|kb<|kt<|kt<|kt<|kn) fun _=>?_
   refine D<|b7 rfl (b8 hi2)<|b3 (kb<|kb<|kn) ?_
   exact ⟨rfl,rfl⟩
  ·intro _
   refine D<|F<|R rfl rfl (show _=ePart s2 from rfl)<|a8 rfl rfl rfl rfl rfl<|E (kb<|kn) fun _=>?_
   exact L (by cases h;rfl)
theorem ck91:CK f91 (Rq [Af 4 0,Af 5 1,Af 6 2,Af 7 3,Bv 8 1 3 4 0 5 1 3 4 0 5 1 1 1 1 0 9 1 1 1 3 4 0 5] [4,5,6,7,8]<|Sq (Dr [8,9,10,11,12,13,14,15,16,17,18,19] [Ac 9 4 0,Ab 10 9,Ae 11 5 2,Dt 12 1 3 4 0 5 0 2 11,Ae 13 6 2,Dt 14 1 3 4 0 5 0 2 13,Ae 15 5 2,Au 16 141 15,Ae 17 7 2,Ev 18 0 9 1 1 1 3 4 0 5 0 1 1,Fg 19 1 3 4 0 5 1 3 4 0 5 1 1 1 1 0 9 1 1 1 3 4 0 5 0 1 10 1 5 12 6 5 14 11 2 16 13 2 17 15 1 16 9 18,Aj 25 8 19] [8])<|.ret) [.cell 8 (some 25)]:= by decide +kernel
theorem c91 (r_0:Rule) (left:Graph) (right:Graph) (into:Morphism) (r:Rule) (h:triplerule_made r_0 left right into=some r):Sound prog 91 [eRule r_0,eGraph left,eGraph right,eMorphism into] (.sh (eRule r)):= by
 refine Fn ck91 fun hw=>?_
 unfold triplerule_made at h
 refine D<|F<|a4 rfl rfl<|a4 rfl rfl<|a4 rfl rfl<|a4 rfl rfl<|b1 rfl<|E (kt<|kt<|kt<|kt<|kb<|kn) fun _=>?_
 refine D<|b9 rfl<|K rfl<|J rfl<|R rfl rfl (show _=eGraph left from rfl)<|e8 rfl rfl (show _=ePattern (Pattern.mk left [] 0 []) from rfl)<|R rfl rfl (show _=eGraph right from rfl)<|e8 rfl rfl (show _=ePattern (Pattern.mk right [] 0 []) from rfl)<|R rfl rfl (show _=eGraph left from rfl) ?_
 obtain ⟨x16,hx16,h⟩:=I h
 refine T rfl (c141 left _ hx16)<|R rfl rfl (show _=eMorphism into from rfl)<|e8 rfl rfl (show _=eCondition (Condition.mk 1 [] (Morphism.mk [] []) (Pattern.mk (Graph.mk [] []) [] 0 [])) from rfl)<|g5 rfl rfl rfl (show _=eRule (Rule.mk r_0.Name (Pattern.mk left [] 0 []) (Pattern.mk right [] 0 []) x16 into true (Condition.mk 1 [] (Morphism.mk [] []) (Pattern.mk (Graph.mk [] []) [] 0 []))) from rfl)<|a8 rfl rfl rfl rfl rfl<|E (kb<|kn) fun _=>?_
 exact L (by cases h;rfl)
theorem ck49:CK f49 (Rq [Af 4 0,Af 5 1,Af 6 2,Af 7 3,Bv 8 1 3 4 0 5 1 3 4 0 5 1 1 1 1 0 9 1 1 1 3 4 0 5,Ad 9 0] [4,5,6,7,8]<|Sq (Rq [Ae 19 4 2,Ae 20 5 2,Ae 21 6 25,Bg 22 15 19 20 21,Aa 10 22] [5,6,7,8,10]<|Rq [Aa 23 10,Av 24 23 0] [5,6,7,8,10,24]<|Co 24 (Rq [Fh 25 1 3 4 0 5 1 3 4 0 5 1 1 1 1 0 9 1 1 1 3 4 0 5,Aa 26 10,Aj 25 8 25,Aa 9 26] [8,9]<|.ret)<|Sk [5,6,7,8])<|Rq [Dh 27 86 5 7,Aa 11 27] [6,8,11]<|Sq (Dr [12,13,28,29,30,31,32,33,34,35,36,37] [Aa 28 11,Ac 29 6 1,Ai 30 29 0,Ae 31 30 2,Bw 32 28 31,Aa 33 11,Ac 34 6 6,Ai 35 34 0,Ae 36 35 2,Bw 37 33 36,Dq 12 1 3 1 1,Dq 13 1 3 1 1,Aj 4 12 32,Aj 4 13 37] [6,8,12,13])<|Rq [Bd 14 1 1] [6,8,12,13,14]<|Sq (Rq [Ac 38 12 2,Ab 39 38,Ah 40 39,Ad 41 0] [6,8,12,13,14,39,40,41]<|Bl 0<|Lo [6,8,12,13,14,39,40,41]<|Rq [Ap 42 41 40] [6,8,12,13,14,39,40,41,42]<|Sq (Co 42 (Sk [6,8,12,13,14,39,40,41])<|Ex 0 [6,8,12,13,14])<|Sq (Bl 1<|Rq [Ag 43 39 41 1,Ab 44 43,Aa 16 44] [6,8,12,13,14,16,39,40,41]<|Dr [45,46,47,48,49,50,51,52,53,54,55,56,57,58] [Ac 45 14 0,Bm 46 45,Ac 47 13 2,Ab 48 47,Ac 49 6 13,Ai 50 49 0,Ab 51 50,Aa 52 16,Ag 53 51 52 1,Ab 54 53,Al 55 90 48 54,Bh 56 1 55,Bb 57 1 46 56,Ac 58 14 0,Bj 1 58 57] [6,8,12,13,14,39,40,41])<|Re [An 59 41 1,Aa 41 59] [6,8,12,13,14,39,40,41])<|Sq (Rq [Ac 60 12 3,Ab 61 60,Ah 62 61,Ad 63 0] [6,8,12,13,14,61,62,63]<|Bl 2<|Lo [6,8,12,13,14,61,62,63]<|Rq [Ap 64 63 62] [6,8,12,13,14,61,62,63,64]<|Sq (Co 64 (Sk [6,8,12,13,14,61,62,63])<|Ex 2 [6,8,12,13,14])<|Sq (Bl 3<|Rq [Ag 65 61 63 1,Ab 66 65,Aa 18 66] [6,8,12,13,14,18,61,62,63]<|Dr [67,68,69,70,71,72,73,74,75,76,77,78,79,80] [Ac 67 14 1,Bm 68 67,Ac 69 13 3,Ab 70 69,Ac 71 6 13,Ai 72 71 1,Ab 73 72,Aa 74 18,Ag 75 73 74 1,Ab 76 75,Al 77 90 70 76,Bh 78 1 77,Bb 79 1 68 78,Ac 80 14 1,Bj 1 80 79] [6,8,12,13,14,61,62,63])<|Re [An 81 63 1,Aa 63 81] [6,8,12,13,14,61,62,63])<|Rq [Ae 82 6 25,Ac 83 12 0,Ae 84 83 2,Ac 85 13 0,Ae 86 85 2,Ae 87 14 2,Bz 88 91 82 84 86 87,Aj 25 8 88,Ad 9 0] [8,9]<|.ret) [.cell 8 (some 25),.tmp 9]:= by decide +kernel
theorem c49 (t:Types) (s_1:Sorts) (r_2:Rule) (sort:Int) (r:(Rule × Int)) (h:triplerule_side t s_1 r_2 sort=some r):Sound prog 49 [eTypes t,eSorts s_1,eRule r_2,eI sort] (.tp [eRule r.1,eI r.2]):= by
 refine Fn ck49 fun hw=>?_
 unfold triplerule_side at h
 refine D<|F<|a4 rfl rfl<|a4 rfl rfl<|a4 rfl rfl<|a4 rfl rfl<|b1 rfl<|C rfl<|E (kt<|kt<|kt<|kt<|kb<|kn) fun _=>?_
 refine D<|D<|F<|R rfl rfl (show _=eTypes t from rfl)<|R rfl rfl (show _=eSorts s_1 from rfl)<|R rfl rfl (show _=eRule r_2 from rfl) ?_
 obtain ⟨x22,hx22,h⟩:=I h
 refine T rfl (c15 t s_1 r_2 _ hx22)<|C rfl<|E (kt<|kt<|kt<|kb<|kt<|kn) fun _=>?_
 refine D<|F<|C rfl<|a9 rfl rfl<|E (kt<|kt<|kt<|kb<|kt<|kt<|kn) fun _=>?_
 refine S rfl (fun hc24=>?_) (fun hc24=>?_)
 ·replace h:=M hc24 h
  refine D<|F<|e8 rfl rfl (show _=eRule (Rule.mk (⟨#[]⟩:ByteArray) (Pattern.mk (Graph.mk [] []) [] 0 []) (Pattern.mk (Graph.mk [] []) [] 0 []) (Part.mk [] []) (Morphism.mk [] []) false (Condition.mk 0 [] (Morphism.mk [] []) (Pattern.mk (Graph.mk [] []) [] 0 []))) from rfl)<|C rfl<|a8 rfl rfl rfl rfl rfl<|C rfl<|E (kb<|kt<|kn) fun _=>?_
  refine L ?_
  cases h
  exact ⟨by decide,rfl⟩
 ·replace h:=O hc24 h
  refine P (kt<|kt<|kt<|kb<|kn) fun _=>?_
  refine D<|F<|g2 rfl<|C rfl<|E (kt<|kb<|kt<|kn) fun _=>?_
  refine D<|b9 rfl<|C rfl<|K rfl<|a6 rfl<|R rfl rfl (show _=eGraph r_2.Left.Graph from rfl) ?_
  obtain ⟨x32,hx32,h⟩:=I h
  refine g3 rfl rfl (c86 r_2.Left.Graph s_1 sort _ hx32)<|C rfl<|K rfl<|a6 rfl<|R rfl rfl (show _=eGraph r_2.Right.Graph from rfl) ?_
  obtain ⟨x37,hx37,h⟩:=I h
  refine g3 rfl rfl (c86 r_2.Right.Graph s_1 sort _ hx37)<|b1 rfl<|b1 rfl<|a8 rfl rfl rfl rfl rfl<|a8 rfl rfl rfl rfl rfl<|E (kt<|kb<|kb<|kb<|kn) fun _=>?_
  refine D<|F<|b1 rfl<|E (kt<|kb<|kb<|kb<|kb<|kn) fun _=>?_
  refine D<|D<|F<|a3 rfl<|J rfl<|U rfl rfl<|C rfl<|E (kt<|kb<|kb<|kb<|kb<|kt<|kt<|kt<|kn) fun _=>?_
  obtain ⟨s0,hs0,h⟩:=I h
  refine f5 hs0 (fun (i0:Int) (s0:Morphism)=>[(6,.tv (.pt (eRule r_2).cells)),(8,.bx [⟨false,eS (⟨#[]⟩:ByteArray)⟩,⟨true,lI []⟩,⟨true,lE []⟩,⟨true,lS []⟩,⟨false,eI 0⟩,⟨true,lT []⟩,⟨true,lI []⟩,⟨true,lE []⟩,⟨true,lS []⟩,⟨false,eI 0⟩,⟨true,lT []⟩,⟨true,lI []⟩,⟨true,lI []⟩,⟨true,lI []⟩,⟨true,lI []⟩,⟨false,eB false⟩,⟨false,eI 0⟩,⟨true,eLCondition []⟩,⟨true,lI []⟩,⟨true,lI []⟩,⟨true,lI []⟩,⟨true,lE []⟩,⟨true,lS []⟩,⟨false,eI 0⟩,⟨true,lT []⟩]),(12,.bx [⟨false,lI x32.graph.Nodes⟩,⟨false,lE x32.graph.Edges⟩,⟨false,lI x32.nodes⟩,⟨false,lI x32.edges⟩]),(13,.bx [⟨false,lI x37.graph.Nodes⟩,⟨false,lE x37.graph.Edges⟩,⟨false,lI x37.nodes⟩,⟨false,lI x37.edges⟩]),(14,.bx [⟨true,lI s0.Nodes⟩,⟨true,lI s0.Edges⟩]),(39,.tv (lI x32.nodes)),(40,.tv (eI (x32.nodes.length:Int))),(41,.tv (eI i0))]) (fun (s0:Morphism)=>[(6,.tv (.pt (eRule r_2).cells)),(8,.bx [⟨false,eS (⟨#[]⟩:ByteArray)⟩,⟨true,lI []⟩,⟨true,lE []⟩,⟨true,lS []⟩,⟨false,eI 0⟩,⟨true,lT []⟩,⟨true,lI []⟩,⟨true,lE []⟩,⟨true,lS []⟩,⟨false,eI 0⟩,⟨true,lT []⟩,⟨true,lI []⟩,⟨true,lI []⟩,⟨true,lI []⟩,⟨true,lI []⟩,⟨false,eB false⟩,⟨false,eI 0⟩,⟨true,eLCondition []⟩,⟨true,lI []⟩,⟨true,lI []⟩,⟨true,lI []⟩,⟨true,lE []⟩,⟨true,lS []⟩,⟨false,eI 0⟩,⟨true,lT []⟩]),(12,.bx [⟨false,lI x32.graph.Nodes⟩,⟨false,lE x32.graph.Edges⟩,⟨false,lI x32.nodes⟩,⟨false,lI x32.edges⟩]),(13,.bx [⟨false,lI x37.graph.Nodes⟩,⟨false,lE x37.graph.Edges⟩,⟨false,lI x37.nodes⟩,⟨false,lI x37.edges⟩]),(14,.bx [⟨true,lI s0.Nodes⟩,⟨true,lI s0.Edges⟩])]) rfl ?_ ?_ ?_
  ·clear h hs0
   intro i0 s0 r0 hi0 h hw0
   refine D<|F<|V rfl rfl<|E (kt<|kb<|kb<|kb<|kb<|kt<|kt<|kt<|kt<|kn) fun _=>?_
   refine D<|b5 rfl (b6 hi0)<|P (kt<|kb<|kb<|kb<|kb<|kt<|kt<|kt<|kn) fun _=>?_
   refine D<|b0<|D<|F ?_
   obtain ⟨x43,hx43,h⟩:=I h
   refine W rfl rfl rfl hx43 rfl<|J rfl<|C rfl<|E (kt<|kb<|kb<|kb<|kb<|kt<|kt<|kt<|kt<|kn) fun _=>?_
   refine b9 rfl<|a3 rfl<|f8 rfl rfl rfl rfl<|a3 rfl<|J rfl<|K rfl<|a6 rfl<|J rfl<|C rfl ?_
   obtain ⟨x53,hx53,h⟩:=I h
   refine W rfl rfl rfl hx53 rfl<|J rfl ?_
   obtain ⟨x55,hx55,h⟩:=I h
   refine T rfl (c90 x37.nodes x53 _ hx55)<|e1 (e:=eI) (l:=[x55]) rfl rfl (fun _=>rfl) ?_
   obtain ⟨x57,hx57,h⟩:=I h
   refine e7 rfl rfl rfl rfl hx57 rfl<|a3 rfl<|f7 rfl rfl rfl (by decide) rfl rfl<|E (kt<|kb<|kb<|kb<|kb<|kt<|kt<|kt<|kn) fun _=>?_
   refine F<|a7 rfl rfl<|C rfl<|E (kt<|kb<|kb<|kb<|kb<|kt<|kt<|kt<|kn) ?_
   cases h
   show Env.keep _ _=_
   rw [Ktv rfl (Kbx rfl (Kbx rfl (Kbx rfl (Kbx rfl (Ktv rfl (Ktv rfl (Ktv rfl (Knil _))))))))]
   rw [b4 (a5 (hw0 41)) hi0 (e0 (a5 (hw0 40)))]
   all_goals rfl
  ·intro i0 s0 hi0
   refine D<|F<|V rfl rfl<|E (kt<|kb<|kb<|kb<|kb<|kt<|kt<|kt<|kt<|kn) fun _=>?_
   refine D<|b7 rfl (b8 hi0)<|b3 (kt<|kb<|kb<|kb<|kb<|kn) ?_
   exact ⟨rfl,rfl⟩
  ·intro _
   refine D<|D<|F<|a3 rfl<|J rfl<|U rfl rfl<|C rfl<|E (kt<|kb<|kb<|kb<|kb<|kt<|kt<|kt<|kn) fun _=>?_
   obtain ⟨s2,hs2,h⟩:=I h
   refine f5 hs2 (fun (i2:Int) (s2:Morphism)=>[(6,.tv (.pt (eRule r_2).cells)),(8,.bx [⟨false,eS (⟨#[]⟩:ByteArray)⟩,⟨true,lI []⟩,⟨true,lE []⟩,⟨true,lS []⟩,⟨false,eI 0⟩,⟨true,lT []⟩,⟨true,lI []⟩,⟨true,lE []⟩,⟨true,lS []⟩,⟨false,eI 0⟩,⟨true,lT []⟩,⟨true,lI []⟩,⟨true,lI []⟩,⟨true,lI []⟩,⟨true,lI []⟩,⟨false,eB false⟩,⟨false,eI 0⟩,⟨true,eLCondition []⟩,⟨true,lI []⟩,⟨true,lI []⟩,⟨true,lI []⟩,⟨true,lE []⟩,⟨true,lS []⟩,⟨false,eI 0⟩,⟨true,lT []⟩]),(12,.bx [⟨false,lI x32.graph.Nodes⟩,⟨false,lE x32.graph.Edges⟩,⟨false,lI x32.nodes⟩,⟨false,lI x32.edges⟩]),(13,.bx [⟨false,lI x37.graph.Nodes⟩,⟨false,lE x37.graph.Edges⟩,⟨false,lI x37.nodes⟩,⟨false,lI x37.edges⟩]),(14,.bx [⟨true,lI s2.Nodes⟩,⟨true,lI s2.Edges⟩]),(61,.tv (lI x32.edges)),(62,.tv (eI (x32.edges.length:Int))),(63,.tv (eI i2))]) (fun (s2:Morphism)=>[(6,.tv (.pt (eRule r_2).cells)),(8,.bx [⟨false,eS (⟨#[]⟩:ByteArray)⟩,⟨true,lI []⟩,⟨true,lE []⟩,⟨true,lS []⟩,⟨false,eI 0⟩,⟨true,lT []⟩,⟨true,lI []⟩,⟨true,lE []⟩,⟨true,lS []⟩,⟨false,eI 0⟩,⟨true,lT []⟩,⟨true,lI []⟩,⟨true,lI []⟩,⟨true,lI []⟩,⟨true,lI []⟩,⟨false,eB false⟩,⟨false,eI 0⟩,⟨true,eLCondition []⟩,⟨true,lI []⟩,⟨true,lI []⟩,⟨true,lI []⟩,⟨true,lE []⟩,⟨true,lS []⟩,⟨false,eI 0⟩,⟨true,lT []⟩]),(12,.bx [⟨false,lI x32.graph.Nodes⟩,⟨false,lE x32.graph.Edges⟩,⟨false,lI x32.nodes⟩,⟨false,lI x32.edges⟩]),(13,.bx [⟨false,lI x37.graph.Nodes⟩,⟨false,lE x37.graph.Edges⟩,⟨false,lI x37.nodes⟩,⟨false,lI x37.edges⟩]),(14,.bx [⟨true,lI s2.Nodes⟩,⟨true,lI s2.Edges⟩])]) rfl ?_ ?_ ?_
   ·clear h hs2
    intro i2 s2 r2 hi2 h hw2
    refine D<|F<|V rfl rfl<|E (kt<|kb<|kb<|kb<|kb<|kt<|kt<|kt<|kt<|kn) fun _=>?_
    refine D<|b5 rfl (b6 hi2)<|P (kt<|kb<|kb<|kb<|kb<|kt<|kt<|kt<|kn) fun _=>?_
    refine D<|b0<|D<|F ?_
    obtain ⟨x65,hx65,h⟩:=I h
    refine W rfl rfl rfl hx65 rfl<|J rfl<|C rfl<|E (kt<|kb<|kb<|kb<|kb<|kt<|kt<|kt<|kt<|kn) fun _=>?_
    refine b9 rfl<|a3 rfl<|f8 rfl rfl rfl rfl<|a3 rfl<|J rfl<|K rfl<|a6 rfl<|J rfl<|C rfl ?_
    obtain ⟨x75,hx75,h⟩:=I h
    refine W rfl rfl rfl hx75 rfl<|J rfl ?_
    obtain ⟨x77,hx77,h⟩:=I h
    refine T rfl (c90 x37.edges x75 _ hx77)<|e1 (e:=eI) (l:=[x77]) rfl rfl (fun _=>rfl) ?_
    obtain ⟨x79,hx79,h⟩:=I h
    refine e7 rfl rfl rfl rfl hx79 rfl<|a3 rfl<|f7 rfl rfl rfl (by decide) rfl rfl<|E (kt<|kb<|kb<|kb<|kb<|kt<|kt<|kt<|kn) fun _=>?_
    refine F<|a7 rfl rfl<|C rfl<|E (kt<|kb<|kb<|kb<|kb<|kt<|kt<|kt<|kn) ?_
    cases h
    show Env.keep _ _=_
    rw [Ktv rfl (Kbx rfl (Kbx rfl (Kbx rfl (Kbx rfl (Ktv rfl (Ktv rfl (Ktv rfl (Knil _))))))))]
    rw [b4 (a5 (hw2 63)) hi2 (e0 (a5 (hw2 62)))]
    all_goals rfl
   ·intro i2 s2 hi2
    refine D<|F<|V rfl rfl<|E (kt<|kb<|kb<|kb<|kb<|kt<|kt<|kt<|kt<|kn) fun _=>?_
    refine D<|b7 rfl (b8 hi2)<|b3 (kt<|kb<|kb<|kb<|kb<|kn) ?_
    exact ⟨rfl,rfl⟩
   ·intro _
    refine D<|F<|R rfl rfl (show _=eRule r_2 from rfl)<|a3 rfl<|R rfl rfl (show _=eGraph x32.graph from rfl)<|a3 rfl<|R rfl rfl (show _=eGraph x37.graph from rfl)<|R rfl rfl (show _=eMorphism s2 from rfl) ?_
    obtain ⟨x88,hx88,h⟩:=I h
    refine T rfl (c91 r_2 x32.graph x37.graph s2 _ hx88)<|a8 rfl rfl rfl rfl rfl<|C rfl<|E (kb<|kt<|kn) fun _=>?_
    refine L ?_
    cases h
    exact ⟨by decide,rfl⟩
theorem ck11:CK f11 (Rq [Af 3 0,Af 4 1,Af 5 2,Bv 6 1 3 4 0 5 1 3 4 0 5 1 1 1 1 0 9 1 1 1 3 4 0 5,Ad 7 0] [3,4,5,6]<|Rq [Ae 8 3 2,Ae 9 4 2,Ae 10 5 25,⟨some 11,.call 49 [.s 8,.s 9,.s 10,.c (.int .i64 1)],none⟩,Am 12 11 0,Am 13 11 1,Aj 25 6 12,Aa 7 13] [6,7]<|.ret) [.cell 6 (some 25),.tmp 7]:= by decide +kernel
theorem c11 (t:Types) (s_1:Sorts) (r_2:Rule) (r:(Rule × Int)) (h:triplerule_Source t s_1 r_2=some r):Sound prog 11 [eTypes t,eSorts s_1,eRule r_2] (.tp [eRule r.1,eI r.2]):= by
 refine Fn ck11 fun hw=>?_
 unfold triplerule_Source at h
 refine D<|F<|a4 rfl rfl<|a4 rfl rfl<|a4 rfl rfl<|b1 rfl<|C rfl<|E (kt<|kt<|kt<|kb<|kn) fun _=>?_
 refine D<|F<|R rfl rfl (show _=eTypes t from rfl)<|R rfl rfl (show _=eSorts s_1 from rfl)<|R rfl rfl (show _=eRule r_2 from rfl) ?_
 obtain ⟨x11,hx11,h⟩:=I h
 refine e5 rfl (c49 t s_1 r_2 1 _ hx11)<|b2 rfl rfl<|b2 rfl rfl<|a8 rfl rfl rfl rfl rfl<|C rfl<|E (kb<|kt<|kn) fun _=>?_
 refine L ?_
 cases h
 exact ⟨by decide,rfl⟩
theorem ck113:CK f113 (Rq [Bf 2 3] [0]<|Sq (Rq [Aa 3 0,⟨some 4,.isn (.s 3),none⟩] [0,4]<|Co 4 (Rq [Bf 2 3] [2]<|.ret)<|Sk [0])<|Rq [Cj 5 3,Aa 6 0,Bb 7 3 5 6,Ay 2 7] [2]<|.ret) [.tmp 2]:= by decide +kernel
theorem c113 (s_0:List Edge) (r:(List Edge)) (h:slices_Clone_Edge s_0=some r):Sound prog 113 [lE s_0] (.own (lE r)):= by
 refine Fn ck113 fun hw=>?_
 unfold slices_Clone_Edge at h
 refine D<|F<|f0<|E (kt<|kn) fun _=>?_
 refine D<|D<|F<|C rfl<|m6 rfl rfl fun z4 hz4=>?_
 replace h:=m7 h z4 hz4
 refine E (kt<|kt<|kn) fun _=>?_
 refine S rfl (fun hc4=>?_) (fun hc4=>?_)
 ·replace h:=M hc4 h
  refine D<|F<|f0<|E (ko<|kn) fun _=>?_
  exact L (by cases h;rfl)
 ·replace h:=O hc4 h
  refine P (kt<|kn) fun _=>?_
  refine D<|F<|e1 (e:=eEdge) (l:=[]) rfl rfl (fun _=>rfl)<|C rfl ?_
  obtain ⟨x7,hx7,h⟩:=I h
  refine e7 rfl rfl rfl rfl hx7 rfl<|f2 rfl<|E (ko<|kn) fun _=>?_
  exact L (by cases h;rfl)
theorem ck62:CK f62 (Rq [Af 4 0,Af 5 1,Af 6 2,Bv 8 1 3 4 0 5 1 3 4 0 5 1 1 1 1 0 9 1 1 1 3 4 0 5,Bd 9 1 1,Ad 10 0] [3,4,5,6,8,9]<|Sq (Rq [Ae 21 4 2,Ae 22 5 2,Ae 23 6 25,Bg 24 15 21 22 23,Aa 11 24] [3,5,6,8,9,11]<|Rq [Aa 25 11,Av 26 25 0] [3,5,6,8,9,11,26]<|Co 26 (Rq [Fh 27 1 3 4 0 5 1 3 4 0 5 1 1 1 1 0 9 1 1 1 3 4 0 5,De 28 1 1,Aa 29 11,Aj 25 8 27,Aj 2 9 28,Aa 10 29] [8,9,10]<|.ret)<|Sk [3,5,6,8,9])<|Sq (Dr [12,13,30,31,32,33,34,35] [Ac 30 6 1,Ai 31 30 0,Ae 32 31 2,Ac 33 6 6,Ai 34 33 0,Ae 35 34 2,Bd 12 1 3,Bd 13 1 3,Aj 2 12 32,Aj 2 13 35] [3,5,6,8,9,12,13])<|Sq (Dr [14,36,37,38,39,40,41,42] [Ac 36 12 0,Ab 37 36,Au 38 112 37,Ac 39 12 1,Ab 40 39,Au 41 113 40,⟨some 42,.bldo [38,41],none⟩,Bd 14 1 3,Ee 2 14 42] [3,5,6,8,9,13,14])<|Sq (Dr [15,43,44,45,46,47,48,49,50,51] [Ac 43 6 13,Ai 44 43 0,Ab 45 44,Au 46 112 45,Ac 47 6 13,Ai 48 47 1,Ab 49 48,Au 50 112 49,⟨some 51,.bldo [46,50],none⟩,Bd 15 1 1,Ee 2 15 51] [3,5,6,8,9,13,14,15])<|Rq [Bd 16 1 1] [3,5,6,8,9,13,14,15,16]<|Sq (Rq [Ac 52 13 0,Ab 53 52,Ah 54 53,Ad 55 0] [3,5,6,8,9,13,14,15,16,53,54,55]<|Bl 0<|Lo [3,5,6,8,9,13,14,15,16,53,54,55]<|Rq [Ap 56 55 54] [3,5,6,8,9,13,14,15,16,53,54,55,56]<|Sq (Co 56 (Sk [3,5,6,8,9,13,14,15,16,53,54,55])<|Ex 0 [3,5,6,8,9,13,14,15,16])<|Sq (Bl 1<|Rq [Aa 57 55,Ag 58 53 55 1,Ab 59 58,Aa 17 57,Aa 18 59] [3,5,6,8,9,13,14,15,16,17,18,53,54,55]<|Rq [Ac 60 6 13,Ai 61 60 0,Ab 62 61,Aa 63 17,Al 64 114 62 63,Az 65 64,Aa 66 65,Aq 67 3 66,Ba 68 5 0 66,Ax 69 68 66,Aq 70 18 66,Cb 71 69 70 1 66,Ax 72 71 66,Ch 73 114 67 72 66,At 74 66 73] [3,5,6,8,9,13,14,15,16,17,18,53,54,55,74]<|Co 74 (Rq [Ac 75 16 0,Bm 76 75,Ac 77 14 0,Ab 78 77,Ah 79 78,Bh 80 1 79,Bb 81 1 76 80,Ac 82 16 0,Bj 1 82 81] [3,5,6,8,9,13,14,15,16,17,18,53,54,55]<|Dr [83,84,85,86,87,88,89,90,91,92,93,94] [Ac 83 14 0,Bm 84 83,Aa 85 18,Bh 86 1 85,Bb 87 1 84 86,Ac 88 15 0,Bm 89 88,Aa 90 17,Bh 91 1 90,Bb 92 1 89 91,Ac 93 14 0,Bj 1 93 87,Ac 94 15 0,Bj 1 94 92] [3,5,6,8,9,13,14,15,16,53,54,55])<|Sk [3,5,6,8,9,13,14,15,16,53,54,55])<|Re [An 95 55 1,Aa 55 95] [3,5,6,8,9,13,14,15,16,53,54,55])<|Sq (Rq [Ac 96 13 1,Ab 97 96,Ah 98 97,Ad 99 0] [3,5,6,8,9,13,14,15,16,97,98,99]<|Bl 2<|Lo [3,5,6,8,9,13,14,15,16,97,98,99]<|Rq [Ap 100 99 98] [3,5,6,8,9,13,14,15,16,97,98,99,100]<|Sq (Co 100 (Sk [3,5,6,8,9,13,14,15,16,97,98,99])<|Ex 2 [6,8,9,13,14,15,16])<|Sq (Bl 3<|Rq [Aa 101 99,Ag 102 97 99 3,Ae 103 102 3,By 20 0 0 0,Aa 19 101,Aj 3 20 103] [3,5,6,8,9,13,14,15,16,19,20,97,98,99]<|Rq [Ac 104 6 13,Ai 105 104 1,Ab 106 105,Aa 107 19,Al 108 114 106 107,Az 109 108,Aa 110 109,Aq 111 3 110,Ba 112 5 1 110,Ax 113 112 110,Ba 114 20 0 110,Ax 115 114 110,Cb 116 113 115 1 110,Ax 117 116 110,Ch 118 114 111 117 110,At 119 110 118] [3,5,6,8,9,13,14,15,16,19,20,97,98,99,119]<|Co 119 (Rq [Ac 120 16 1,Bm 121 120,Ac 122 14 1,Ab 123 122,Ah 124 123,Bh 125 1 124,Bb 126 1 121 125,Ac 127 16 1,Bj 1 127 126] [3,5,6,8,9,13,14,15,16,19,20,97,98,99]<|Dr [128,129,130,131,132,133,134,135,136,137,138,139,140,141,142,143,144,145,146,147,148,149,150,151] [Ac 128 14 1,Bm 129 128,Ac 130 20 0,Ab 131 130,Ac 132 15 0,Ab 133 132,Ac 134 20 1,Ab 135 134,Al 136 90 133 135,Ac 137 15 0,Ab 138 137,Ac 139 20 2,Ab 140 139,Al 141 90 138 140,Ds 142 0 0 0 0 1 131 1 1 136 2 1 141,Bh 143 3 142,Bb 144 3 129 143,Ac 145 15 1,Bm 146 145,Aa 147 19,Bh 148 1 147,Bb 149 1 146 148,Ac 150 14 1,Bj 1 150 144,Ac 151 15 1,Bj 1 151 149] [3,5,6,8,9,13,14,15,16,97,98,99])<|Sk [3,5,6,8,9,13,14,15,16,97,98,99])<|Re [An 152 99 1,Aa 99 152] [3,5,6,8,9,13,14,15,16,97,98,99])<|Sq (Dr [8,9,10,153,154,155,156,157,158,159,160,161,162,163,164] [Ae 153 6 25,Ae 154 14 2,Ac 155 13 0,Ab 156 155,Au 157 112 156,Ac 158 13 1,Ab 159 158,Au 160 113 159,Ck 161 1 3 0 1 157 1 1 160,Ae 162 15 2,Bz 163 91 153 154 161 162,Ae 164 16 2,Aj 25 8 163,Aj 2 9 164,Ad 10 0] [8,9,10])<|.ret) [.cell 8 (some 25),.cell 9 (some 2),.tmp 10]:= by decide +kernel
theorem c62 (t:Types) (s_1:Sorts) (r_2:Rule) (sorts:List Int) (r:(Rule × Part × Int)) (h:triplerule_translating t s_1 r_2 sorts=some r):Sound prog 62 [eTypes t,eSorts s_1,eRule r_2,lI sorts] (.tp [eRule r.1,ePart r.2.1,eI r.2.2]):= by
 refine Fn ck62 fun hw=>?_
 unfold triplerule_translating at h
 refine D<|F<|a4 rfl rfl<|a4 rfl rfl<|a4 rfl rfl<|b1 rfl<|b1 rfl<|C rfl<|E (kt<|kt<|kt<|kt<|kb<|kb<|kn) fun _=>?_
 refine D<|D<|F<|R rfl rfl (show _=eTypes t from rfl)<|R rfl rfl (show _=eSorts s_1 from rfl)<|R rfl rfl (show _=eRule r_2 from rfl) ?_
 obtain ⟨x24,hx24,h⟩:=I h
 refine T rfl (c15 t s_1 r_2 _ hx24)<|C rfl<|E (kt<|kt<|kt<|kb<|kb<|kt<|kn) fun _=>?_
 refine D<|F<|C rfl<|a9 rfl rfl<|E (kt<|kt<|kt<|kb<|kb<|kt<|kt<|kn) fun _=>?_
 refine S rfl (fun hc26=>?_) (fun hc26=>?_)
 ·replace h:=M hc26 h
  refine D<|F<|e8 rfl rfl (show _=eRule (Rule.mk (⟨#[]⟩:ByteArray) (Pattern.mk (Graph.mk [] []) [] 0 []) (Pattern.mk (Graph.mk [] []) [] 0 []) (Part.mk [] []) (Morphism.mk [] []) false (Condition.mk 0 [] (Morphism.mk [] []) (Pattern.mk (Graph.mk [] []) [] 0 []))) from rfl)<|e8 rfl rfl (show _=ePart (Part.mk [] []) from rfl)<|C rfl<|a8 rfl rfl rfl rfl rfl<|a8 rfl rfl rfl rfl rfl<|C rfl<|E (kb<|kb<|kt<|kn) fun _=>?_
  refine L ?_
  cases h
  exact ⟨by decide,rfl⟩
 ·replace h:=O hc26 h
  refine P (kt<|kt<|kt<|kb<|kb<|kn) fun _=>?_
  refine D<|b9 rfl<|K rfl<|a6 rfl<|R rfl rfl (show _=eGraph r_2.Left.Graph from rfl)<|K rfl<|a6 rfl<|R rfl rfl (show _=eGraph r_2.Right.Graph from rfl)<|b1 rfl<|b1 rfl<|a8 rfl rfl rfl rfl rfl<|a8 rfl rfl rfl rfl rfl<|E (kt<|kt<|kt<|kb<|kb<|kb<|kb<|kn) fun _=>?_
  refine D<|b9 rfl<|a3 rfl<|J rfl ?_
  obtain ⟨x38,hx38,h⟩:=I h
  refine g6 rfl (c112 r_2.Left.Graph.Nodes _ hx38)<|a3 rfl<|J rfl ?_
  obtain ⟨x41,hx41,h⟩:=I h
  refine g6 rfl (c113 r_2.Left.Graph.Edges _ hx41)<|p0 (by decide) (by decide) rfl rfl rfl<|b1 rfl<|m4 rfl rfl (by decide) rfl rfl rfl<|E (kt<|kt<|kt<|kb<|kb<|kb<|kb<|kn) fun _=>?_
  refine D<|b9 rfl<|K rfl<|a6 rfl<|J rfl ?_
  obtain ⟨x46,hx46,h⟩:=I h
  refine g6 rfl (c112 r_2.Into.Nodes _ hx46)<|K rfl<|a6 rfl<|J rfl ?_
  obtain ⟨x50,hx50,h⟩:=I h
  refine g6 rfl (c112 r_2.Into.Edges _ hx50)<|p0 (by decide) (by decide) rfl rfl rfl<|b1 rfl<|m4 rfl rfl (by decide) rfl rfl rfl<|E (kt<|kt<|kt<|kb<|kb<|kb<|kb<|kb<|kn) fun _=>?_
  refine D<|F<|b1 rfl<|E (kt<|kt<|kt<|kb<|kb<|kb<|kb<|kb<|kb<|kn) fun _=>?_
  refine D<|D<|F<|a3 rfl<|J rfl<|U rfl rfl<|C rfl<|E (kt<|kt<|kt<|kb<|kb<|kb<|kb<|kb<|kb<|kt<|kt<|kt<|kn) fun _=>?_
  obtain ⟨s0,hs0,h⟩:=I h
  refine f5 hs0 (fun (i0:Int) (s0:Graph × Morphism × Part)=>[(3,.tv (lI sorts)),(5,.tv (.pt (eSorts s_1).cells)),(6,.tv (.pt (eRule r_2).cells)),(8,.bx [⟨false,eS (⟨#[]⟩:ByteArray)⟩,⟨true,lI []⟩,⟨true,lE []⟩,⟨true,lS []⟩,⟨false,eI 0⟩,⟨true,lT []⟩,⟨true,lI []⟩,⟨true,lE []⟩,⟨true,lS []⟩,⟨false,eI 0⟩,⟨true,lT []⟩,⟨true,lI []⟩,⟨true,lI []⟩,⟨true,lI []⟩,⟨true,lI []⟩,⟨false,eB false⟩,⟨false,eI 0⟩,⟨true,eLCondition []⟩,⟨true,lI []⟩,⟨true,lI []⟩,⟨true,lI []⟩,⟨true,lE []⟩,⟨true,lS []⟩,⟨false,eI 0⟩,⟨true,lT []⟩]),(9,.bx [⟨true,lI []⟩,⟨true,lI []⟩]),(13,.bx [⟨false,lI r_2.Right.Graph.Nodes⟩,⟨false,lE r_2.Right.Graph.Edges⟩]),(14,.bx [⟨true,lI s0.1.Nodes⟩,⟨true,lE s0.1.Edges⟩]),(15,.bx [⟨true,lI s0.2.1.Nodes⟩,⟨true,lI s0.2.1.Edges⟩]),(16,.bx [⟨true,lI s0.2.2.Nodes⟩,⟨true,lI s0.2.2.Edges⟩]),(53,.tv (lI r_2.Right.Graph.Nodes)),(54,.tv (eI (r_2.Right.Graph.Nodes.length:Int))),(55,.tv (eI i0))]) (fun (s0:Graph × Morphism × Part)=>[(3,.tv (lI sorts)),(5,.tv (.pt (eSorts s_1).cells)),(6,.tv (.pt (eRule r_2).cells)),(8,.bx [⟨false,eS (⟨#[]⟩:ByteArray)⟩,⟨true,lI []⟩,⟨true,lE []⟩,⟨true,lS []⟩,⟨false,eI 0⟩,⟨true,lT []⟩,⟨true,lI []⟩,⟨true,lE []⟩,⟨true,lS []⟩,⟨false,eI 0⟩,⟨true,lT []⟩,⟨true,lI []⟩,⟨true,lI []⟩,⟨true,lI []⟩,⟨true,lI []⟩,⟨false,eB false⟩,⟨false,eI 0⟩,⟨true,eLCondition []⟩,⟨true,lI []⟩,⟨true,lI []⟩,⟨true,lI []⟩,⟨true,lE []⟩,⟨true,lS []⟩,⟨false,eI 0⟩,⟨true,lT []⟩]),(9,.bx [⟨true,lI []⟩,⟨true,lI []⟩]),(13,.bx [⟨false,lI r_2.Right.Graph.Nodes⟩,⟨false,lE r_2.Right.Graph.Edges⟩]),(14,.bx [⟨true,lI s0.1.Nodes⟩,⟨true,lE s0.1.Edges⟩]),(15,.bx [⟨true,lI s0.2.1.Nodes⟩,⟨true,lI s0.2.1.Edges⟩]),(16,.bx [⟨true,lI s0.2.2.Nodes⟩,⟨true,lI s0.2.2.Edges⟩])]) rfl ?_ ?_ ?_
  ·clear h hs0
   intro i0 s0 r0 hi0 h hw0
   refine D<|F<|V rfl rfl<|E (kt<|kt<|kt<|kb<|kb<|kb<|kb<|kb<|kb<|kt<|kt<|kt<|kt<|kn) fun _=>?_
   refine D<|b5 rfl (b6 hi0)<|P (kt<|kt<|kt<|kb<|kb<|kb<|kb<|kb<|kb<|kt<|kt<|kt<|kn) fun _=>?_
   refine D<|b0<|D<|F<|C rfl ?_
   obtain ⟨x58,hx58,h⟩:=I h
   refine W rfl rfl rfl hx58 rfl<|J rfl<|C rfl<|C rfl<|E (kt<|kt<|kt<|kb<|kb<|kb<|kb<|kb<|kb<|kt<|kt<|kt<|kt<|kt<|kn) fun _=>?_
   refine D<|F<|K rfl<|a6 rfl<|J rfl<|C rfl ?_
   obtain ⟨x64,hx64,h⟩:=I h
   refine T rfl (c114 r_2.Into.Nodes i0 _ hx64)<|d0 rfl<|C rfl ?_
   obtain ⟨x74,hx74,h⟩:=I h
   refine gX 8 [67,68,69,70,71,72,73] 74 x74 (!x64) (fun hg74=>?_) (fun hg74=>?_) ?_
   ·replace h:=M hg74 hx74
    refine G rfl hg74<|C rfl<|G rfl hg74<|K rfl<|G rfl hg74<|J rfl<|G rfl hg74<|C rfl ?_
    obtain ⟨x71,hx71,h⟩:=I h
    refine G rfl hg74<|W rfl rfl rfl hx71 rfl<|G rfl hg74<|J rfl ?_
    obtain ⟨x73,hx73,h⟩:=I h
    refine G rfl hg74<|T rfl (c114 sorts x71 _ hx73) ?_
    cases h
    refine Y rfl hg74 rfl ?_
    exact ⟨⟨_,_,_,_,_,_,_,rfl⟩⟩
   ·replace h:=O hg74 hx74
    cases h
    refine H rfl hg74<|H rfl hg74<|H rfl hg74<|H rfl hg74<|H rfl hg74<|H rfl hg74<|H rfl hg74<|Z rfl hg74 rfl ?_
    exact ⟨⟨_,_,_,_,_,_,_,rfl⟩⟩
   rintro _ ⟨_,_,_,_,_,_,_,rfl⟩
   refine E (kt<|kt<|kt<|kb<|kb<|kb<|kb<|kb<|kb<|kt<|kt<|kt<|kt<|kt<|kt<|kn) fun _=>?_
   refine S rfl (fun hc74=>?_) (fun hc74=>?_)
   ·replace h:=M hc74 h
    refine D<|F<|a3 rfl<|f8 rfl rfl rfl rfl<|a3 rfl<|J rfl<|U rfl rfl<|e1 (e:=eI) (l:=[(s0.1.Nodes.length:Int)]) rfl rfl (fun _=>rfl) ?_
    obtain ⟨x81,hx81,h⟩:=I h
    refine e7 rfl rfl rfl rfl hx81 rfl<|a3 rfl<|f7 rfl rfl rfl (by decide) rfl rfl<|E (kt<|kt<|kt<|kb<|kb<|kb<|kb<|kb<|kb<|kt<|kt<|kt<|kt<|kt<|kn) fun _=>?_
    refine b9 rfl<|a3 rfl<|f8 rfl rfl rfl rfl<|C rfl<|e1 (e:=eI) (l:=[x58]) rfl rfl (fun _=>rfl) ?_
    obtain ⟨x87,hx87,h⟩:=I h
    refine e7 rfl rfl rfl rfl hx87 rfl<|a3 rfl<|f8 rfl rfl rfl rfl<|C rfl<|e1 (e:=eI) (l:=[i0]) rfl rfl (fun _=>rfl) ?_
    obtain ⟨x92,hx92,h⟩:=I h
    refine e7 rfl rfl rfl rfl hx92 rfl<|a3 rfl<|f7 rfl rfl rfl (by decide) rfl rfl<|a3 rfl<|f7 rfl rfl rfl (by decide) rfl rfl<|E (kt<|kt<|kt<|kb<|kb<|kb<|kb<|kb<|kb<|kt<|kt<|kt<|kn) fun _=>?_
    refine F<|a7 rfl rfl<|C rfl<|E (kt<|kt<|kt<|kb<|kb<|kb<|kb<|kb<|kb<|kt<|kt<|kt<|kn) ?_
    cases h
    show Env.keep _ _=_
    rw [Ktv rfl (Ktv rfl (Ktv rfl (Kbx rfl (Kbx rfl (Kbx rfl (Kbx rfl (Kbx rfl (Kbx rfl (Ktv rfl (Ktv rfl (Ktv rfl (Knil _))))))))))))]
    rw [b4 (a5 (hw0 55)) hi0 (e0 (a5 (hw0 54)))]
    all_goals rfl
   ·replace h:=O hc74 h
    refine P (kt<|kt<|kt<|kb<|kb<|kb<|kb<|kb<|kb<|kt<|kt<|kt<|kn) fun _=>?_
    refine F<|a7 rfl rfl<|C rfl<|E (kt<|kt<|kt<|kb<|kb<|kb<|kb<|kb<|kb<|kt<|kt<|kt<|kn) ?_
    cases h
    show Env.keep _ _=_
    rw [Ktv rfl (Ktv rfl (Ktv rfl (Kbx rfl (Kbx rfl (Kbx rfl (Kbx rfl (Kbx rfl (Kbx rfl (Ktv rfl (Ktv rfl (Ktv rfl (Knil _))))))))))))]
    rw [b4 (a5 (hw0 55)) hi0 (e0 (a5 (hw0 54)))]
    all_goals rfl
  ·intro i0 s0 hi0
   refine D<|F<|V rfl rfl<|E (kt<|kt<|kt<|kb<|kb<|kb<|kb<|kb<|kb<|kt<|kt<|kt<|kt<|kn) fun _=>?_
   refine D<|b7 rfl (b8 hi0)<|b3 (kt<|kt<|kt<|kb<|kb<|kb<|kb<|kb<|kb<|kn) ?_
   exact ⟨rfl,rfl⟩
  ·intro _
   refine D<|D<|F<|a3 rfl<|J rfl<|U rfl rfl<|C rfl<|E (kt<|kt<|kt<|kb<|kb<|kb<|kb<|kb<|kb<|kt<|kt<|kt<|kn) fun _=>?_
   obtain ⟨s2,hs2,h⟩:=I h
   refine f5 hs2 (fun (i2:Int) (s2:Graph × Morphism × Part)=>[(3,.tv (lI sorts)),(5,.tv (.pt (eSorts s_1).cells)),(6,.tv (.pt (eRule r_2).cells)),(8,.bx [⟨false,eS (⟨#[]⟩:ByteArray)⟩,⟨true,lI []⟩,⟨true,lE []⟩,⟨true,lS []⟩,⟨false,eI 0⟩,⟨true,lT []⟩,⟨true,lI []⟩,⟨true,lE []⟩,⟨true,lS []⟩,⟨false,eI 0⟩,⟨true,lT []⟩,⟨true,lI []⟩,⟨true,lI []⟩,⟨true,lI []⟩,⟨true,lI []⟩,⟨false,eB false⟩,⟨false,eI 0⟩,⟨true,eLCondition []⟩,⟨true,lI []⟩,⟨true,lI []⟩,⟨true,lI []⟩,⟨true,lE []⟩,⟨true,lS []⟩,⟨false,eI 0⟩,⟨true,lT []⟩]),(9,.bx [⟨true,lI []⟩,⟨true,lI []⟩]),(13,.bx [⟨false,lI r_2.Right.Graph.Nodes⟩,⟨false,lE r_2.Right.Graph.Edges⟩]),(14,.bx [⟨true,lI s2.1.Nodes⟩,⟨true,lE s2.1.Edges⟩]),(15,.bx [⟨true,lI s2.2.1.Nodes⟩,⟨true,lI s2.2.1.Edges⟩]),(16,.bx [⟨true,lI s2.2.2.Nodes⟩,⟨true,lI s2.2.2.Edges⟩]),(97,.tv (lE r_2.Right.Graph.Edges)),(98,.tv (eI (r_2.Right.Graph.Edges.length:Int))),(99,.tv (eI i2))]) (fun (s2:Graph × Morphism × Part)=>[(6,.tv (.pt (eRule r_2).cells)),(8,.bx [⟨false,eS (⟨#[]⟩:ByteArray)⟩,⟨true,lI []⟩,⟨true,lE []⟩,⟨true,lS []⟩,⟨false,eI 0⟩,⟨true,lT []⟩,⟨true,lI []⟩,⟨true,lE []⟩,⟨true,lS []⟩,⟨false,eI 0⟩,⟨true,lT []⟩,⟨true,lI []⟩,⟨true,lI []⟩,⟨true,lI []⟩,⟨true,lI []⟩,⟨false,eB false⟩,⟨false,eI 0⟩,⟨true,eLCondition []⟩,⟨true,lI []⟩,⟨true,lI []⟩,⟨true,lI []⟩,⟨true,lE []⟩,⟨true,lS []⟩,⟨false,eI 0⟩,⟨true,lT []⟩]),(9,.bx [⟨true,lI []⟩,⟨true,lI []⟩]),(13,.bx [⟨false,lI r_2.Right.Graph.Nodes⟩,⟨false,lE r_2.Right.Graph.Edges⟩]),(14,.bx [⟨true,lI s2.1.Nodes⟩,⟨true,lE s2.1.Edges⟩]),(15,.bx [⟨true,lI s2.2.1.Nodes⟩,⟨true,lI s2.2.1.Edges⟩]),(16,.bx [⟨true,lI s2.2.2.Nodes⟩,⟨true,lI s2.2.2.Edges⟩])]) rfl ?_ ?_ ?_
   ·clear h hs2
    intro i2 s2 r2 hi2 h hw2
    refine D<|F<|V rfl rfl<|E (kt<|kt<|kt<|kb<|kb<|kb<|kb<|kb<|kb<|kt<|kt<|kt<|kt<|kn) fun _=>?_
    refine D<|b5 rfl (b6 hi2)<|P (kt<|kt<|kt<|kb<|kb<|kb<|kb<|kb<|kb<|kt<|kt<|kt<|kn) fun _=>?_
    refine D<|b0<|D<|F<|C rfl ?_
    obtain ⟨x102,hx102,h⟩:=I h
    refine W rfl rfl rfl hx102 rfl<|R rfl rfl (show _=eEdge x102 from rfl)<|b1 rfl<|C rfl<|a8 rfl rfl rfl rfl rfl<|E (kt<|kt<|kt<|kb<|kb<|kb<|kb<|kb<|kb<|kt<|kb<|kt<|kt<|kt<|kn) fun _=>?_
    refine D<|F<|K rfl<|a6 rfl<|J rfl<|C rfl ?_
    obtain ⟨x108,hx108,h⟩:=I h
    refine T rfl (c114 r_2.Into.Edges i2 _ hx108)<|d0 rfl<|C rfl ?_
    obtain ⟨x119,hx119,h⟩:=I h
    refine gX 9 [111,112,113,114,115,116,117,118] 119 x119 (!x108) (fun hg119=>?_) (fun hg119=>?_) ?_
    ·replace h:=M hg119 hx119
     refine G rfl hg119<|C rfl<|G rfl hg119<|K rfl<|G rfl hg119<|J rfl<|G rfl hg119<|a3 rfl<|G rfl hg119<|J rfl ?_
     obtain ⟨x116,hx116,h⟩:=I h
     refine G rfl hg119<|W rfl rfl rfl hx116 rfl<|G rfl hg119<|J rfl ?_
     obtain ⟨x118,hx118,h⟩:=I h
     refine G rfl hg119<|T rfl (c114 sorts x116 _ hx118) ?_
     cases h
     refine Y rfl hg119 rfl ?_
     exact ⟨⟨_,_,_,_,_,_,_,_,rfl⟩⟩
    ·replace h:=O hg119 hx119
     cases h
     refine H rfl hg119<|H rfl hg119<|H rfl hg119<|H rfl hg119<|H rfl hg119<|H rfl hg119<|H rfl hg119<|H rfl hg119<|Z rfl hg119 rfl ?_
     exact ⟨⟨_,_,_,_,_,_,_,_,rfl⟩⟩
    rintro _ ⟨_,_,_,_,_,_,_,_,rfl⟩
    refine E (kt<|kt<|kt<|kb<|kb<|kb<|kb<|kb<|kb<|kt<|kb<|kt<|kt<|kt<|kt<|kn) fun _=>?_
    refine S rfl (fun hc119=>?_) (fun hc119=>?_)
    ·replace h:=M hc119 h
     refine D<|F<|a3 rfl<|f8 rfl rfl rfl rfl<|a3 rfl<|J rfl<|U rfl rfl<|e1 (e:=eI) (l:=[(s2.1.Edges.length:Int)]) rfl rfl (fun _=>rfl) ?_
     obtain ⟨x126,hx126,h⟩:=I h
     refine e7 rfl rfl rfl rfl hx126 rfl<|a3 rfl<|f7 rfl rfl rfl (by decide) rfl rfl<|E (kt<|kt<|kt<|kb<|kb<|kb<|kb<|kb<|kb<|kt<|kb<|kt<|kt<|kt<|kn) fun _=>?_
     refine b9 rfl<|a3 rfl<|f8 rfl rfl rfl rfl<|a3 rfl<|J rfl<|a3 rfl<|J rfl<|a3 rfl<|J rfl ?_
     obtain ⟨x136,hx136,h⟩:=I h
     refine T rfl (c90 s2.2.1.Nodes x102.From _ hx136)<|a3 rfl<|J rfl<|a3 rfl<|J rfl ?_
     obtain ⟨x141,hx141,h⟩:=I h
     refine T rfl (c90 s2.2.1.Nodes x102.To _ hx141)<|g5 rfl rfl rfl (show _=eEdge (Edge.mk x102.Type' x136 x141) from rfl)<|e1 (e:=eEdge) (l:=[Edge.mk x102.Type' x136 x141]) rfl rfl (fun _=>rfl) ?_
     obtain ⟨x144,hx144,h⟩:=I h
     refine e7 rfl rfl rfl rfl hx144 rfl<|a3 rfl<|f8 rfl rfl rfl rfl<|C rfl<|e1 (e:=eI) (l:=[i2]) rfl rfl (fun _=>rfl) ?_
     obtain ⟨x149,hx149,h⟩:=I h
     refine e7 rfl rfl rfl rfl hx149 rfl<|a3 rfl<|f7 rfl rfl rfl (by decide) rfl rfl<|a3 rfl<|f7 rfl rfl rfl (by decide) rfl rfl<|E (kt<|kt<|kt<|kb<|kb<|kb<|kb<|kb<|kb<|kt<|kt<|kt<|kn) fun _=>?_
     refine F<|a7 rfl rfl<|C rfl<|E (kt<|kt<|kt<|kb<|kb<|kb<|kb<|kb<|kb<|kt<|kt<|kt<|kn) ?_
     cases h
     show Env.keep _ _=_
     rw [Ktv rfl (Ktv rfl (Ktv rfl (Kbx rfl (Kbx rfl (Kbx rfl (Kbx rfl (Kbx rfl (Kbx rfl (Ktv rfl (Ktv rfl (Ktv rfl (Knil _))))))))))))]
     rw [b4 (a5 (hw2 99)) hi2 (e0 (a5 (hw2 98)))]
     all_goals rfl
    ·replace h:=O hc119 h
     refine P (kt<|kt<|kt<|kb<|kb<|kb<|kb<|kb<|kb<|kt<|kt<|kt<|kn) fun _=>?_
     refine F<|a7 rfl rfl<|C rfl<|E (kt<|kt<|kt<|kb<|kb<|kb<|kb<|kb<|kb<|kt<|kt<|kt<|kn) ?_
     cases h
     show Env.keep _ _=_
     rw [Ktv rfl (Ktv rfl (Ktv rfl (Kbx rfl (Kbx rfl (Kbx rfl (Kbx rfl (Kbx rfl (Kbx rfl (Ktv rfl (Ktv rfl (Ktv rfl (Knil _))))))))))))]
     rw [b4 (a5 (hw2 99)) hi2 (e0 (a5 (hw2 98)))]
     all_goals rfl
   ·intro i2 s2 hi2
    refine D<|F<|V rfl rfl<|E (kt<|kt<|kt<|kb<|kb<|kb<|kb<|kb<|kb<|kt<|kt<|kt<|kt<|kn) fun _=>?_
    refine D<|b7 rfl (b8 hi2)<|b3 (kt<|kb<|kb<|kb<|kb<|kb<|kb<|kn) ?_
    exact ⟨rfl,rfl⟩
   ·intro _
    refine D<|b9 rfl<|R rfl rfl (show _=eRule r_2 from rfl)<|R rfl rfl (show _=eGraph s2.1 from rfl)<|a3 rfl<|J rfl ?_
    obtain ⟨x157,hx157,h⟩:=I h
    refine g6 rfl (c112 r_2.Right.Graph.Nodes _ hx157)<|a3 rfl<|J rfl ?_
    obtain ⟨x160,hx160,h⟩:=I h
    refine g6 rfl (c113 r_2.Right.Graph.Edges _ hx160)<|g5 rfl rfl rfl (show _=eGraph (Graph.mk x157 x160) from rfl)<|R rfl rfl (show _=eMorphism s2.2.1 from rfl) ?_
    obtain ⟨x163,hx163,h⟩:=I h
    refine T rfl (c91 r_2 s2.1 (Graph.mk x157 x160) s2.2.1 _ hx163)<|R rfl rfl (show _=ePart s2.2.2 from rfl)<|a8 rfl rfl rfl rfl rfl<|a8 rfl rfl rfl rfl rfl<|C rfl<|E (kb<|kb<|kt<|kn) fun _=>?_
    refine L ?_
    cases h
    exact ⟨by decide,rfl⟩
theorem ck18:CK f18 (Rq [Af 3 0,Af 4 1,Af 5 2,Bv 6 1 3 4 0 5 1 3 4 0 5 1 1 1 1 0 9 1 1 1 3 4 0 5,Bd 7 1 1,Ad 8 0] [3,4,5,6,7]<|Rq [Ae 9 3 2,Ae 10 4 2,Ae 11 5 25,⟨some 12,.lst 1 [.c (.int .i64 1)],none⟩,Bz 13 62 9 10 11 12,Am 14 13 0,Am 15 13 1,Am 16 13 2,Aj 25 6 14,Aj 2 7 15,Aa 8 16] [6,7,8]<|.ret) [.cell 6 (some 25),.cell 7 (some 2),.tmp 8]:= by decide +kernel
theorem c18 (t:Types) (s_1:Sorts) (r_2:Rule) (r:(Rule × Part × Int)) (h:triplerule_Forward t s_1 r_2=some r):Sound prog 18 [eTypes t,eSorts s_1,eRule r_2] (.tp [eRule r.1,ePart r.2.1,eI r.2.2]):= by
 refine Fn ck18 fun hw=>?_
 unfold triplerule_Forward at h
 refine D<|F<|a4 rfl rfl<|a4 rfl rfl<|a4 rfl rfl<|b1 rfl<|b1 rfl<|C rfl<|E (kt<|kt<|kt<|kb<|kb<|kn) fun _=>?_
 refine D<|F<|R rfl rfl (show _=eTypes t from rfl)<|R rfl rfl (show _=eSorts s_1 from rfl)<|R rfl rfl (show _=eRule r_2 from rfl)<|e1 (e:=eI) (l:=[1]) rfl rfl (fun _=>rfl) ?_
 obtain ⟨x13,hx13,h⟩:=I h
 refine e5 rfl (c62 t s_1 r_2 [1] _ hx13)<|b2 rfl rfl<|b2 rfl rfl<|b2 rfl rfl<|a8 rfl rfl rfl rfl rfl<|a8 rfl rfl rfl rfl rfl<|C rfl<|E (kb<|kb<|kt<|kn) fun _=>?_
 refine L ?_
 cases h
 exact ⟨by decide,rfl⟩
theorem ck65:CK f65 (Rq [Dy 6 0 0 0 0 0 0] [0,1,2,6]<|Rq [Aa 7 0,Aa 8 1,Aa 9 2,⟨some 10,.bld [.str ⟨#[]⟩,.int .i64 0,.int .i64 0,.int .i64 0,.int .i64 0,.int .i64 0,.int .i64 0] [(0,1,.s 7),(1,1,.s 8),(2,1,.s 9),(4,1,.c (.int .i64 (-1))),(6,1,.c (.int .i64 (-1)))],none⟩,Aj 7 6 10] [6]<|.ret) [.cell 6 (some 7)]:= by decide +kernel
theorem c65 (name:ByteArray) (from':Int) (to':Int) (r:EdgeType) (h:ref52_edge name from' to'=some r):Sound prog 65 [eS name,eI from',eI to'] (.sh (eEdgeType r)):= by
 refine Fn ck65 fun hw=>?_
 unfold ref52_edge at h
 refine D<|F<|b1 rfl<|E (kt<|kt<|kt<|kb<|kn) fun _=>?_
 refine D<|F<|C rfl<|C rfl<|C rfl<|e8 rfl rfl (show _=eEdgeType (EdgeType.mk name from' to' 0 (-1) 0 (-1)) from rfl)<|a8 rfl rfl rfl rfl rfl<|E (kb<|kn) fun _=>?_
 exact L (by cases h;rfl)
theorem ck26:CK f26 (Rq [Bd 0 4 7,Bd 1 1 1] [0,1]<|Rq [⟨some 3,.bld [.str ⟨#[]⟩,.int .i64 0,.bool false,.list 4 []] [(0,1,.c (.str ⟨#[67,108,97,115,115]⟩)),(1,1,.c (.int .i64 (-1)))],none⟩,⟨some 4,.bld [.str ⟨#[]⟩,.int .i64 0,.bool false,.list 4 []] [(0,1,.c (.str ⟨#[65,116,116,114,105,98,117,116,101]⟩)),(1,1,.c (.int .i64 (-1)))],none⟩,⟨some 5,.bld [.str ⟨#[]⟩,.int .i64 0,.bool false,.list 4 []] [(0,1,.c (.str ⟨#[84,97,98,108,101]⟩)),(1,1,.c (.int .i64 (-1)))],none⟩,⟨some 6,.bld [.str ⟨#[]⟩,.int .i64 0,.bool false,.list 4 []] [(0,1,.c (.str ⟨#[67,111,108,117,109,110]⟩)),(1,1,.c (.int .i64 (-1)))],none⟩,⟨some 7,.bld [.str ⟨#[]⟩,.int .i64 0,.bool false,.list 4 []] [(0,1,.c (.str ⟨#[77,97,112]⟩)),(1,1,.c (.int .i64 (-1)))],none⟩,⟨some 8,.lst 4 [.s 3,.s 4,.s 5,.s 6,.s 7],none⟩,⟨some 9,.call 65 [.c (.str ⟨#[104,97,115]⟩),.c (.int .i64 0),.c (.int .i64 1)],none⟩,⟨some 10,.call 65 [.c (.str ⟨#[119,105,116,104]⟩),.c (.int .i64 2),.c (.int .i64 3)],none⟩,⟨some 11,.call 65 [.c (.str ⟨#[111,102,67,108,97,115,115]⟩),.c (.int .i64 4),.c (.int .i64 0)],none⟩,⟨some 12,.call 65 [.c (.str ⟨#[111,102,65,116,116,114,105,98,117,116,101]⟩),.c (.int .i64 4),.c (.int .i64 1)],none⟩,⟨some 13,.call 65 [.c (.str ⟨#[116,111,84,97,98,108,101]⟩),.c (.int .i64 4),.c (.int .i64 2)],none⟩,⟨some 14,.call 65 [.c (.str ⟨#[116,111,67,111,108,117,109,110]⟩),.c (.int .i64 4),.c (.int .i64 3)],none⟩,⟨some 15,.lst 7 [.s 9,.s 10,.s 11,.s 12,.s 13,.s 14],none⟩,Ck 16 4 7 0 1 8 1 1 15,Bd 2 4 7,Aj 2 2 16] [0,1,2]<|Rq [Ae 17 2 2,⟨some 18,.lst 1 [.c (.int .i64 1),.c (.int .i64 1),.c (.int .i64 3),.c (.int .i64 3),.c (.int .i64 2)],none⟩,⟨some 19,.lst 1 [.c (.int .i64 1),.c (.int .i64 3),.c (.int .i64 2),.c (.int .i64 2),.c (.int .i64 2),.c (.int .i64 2)],none⟩,Ck 20 1 1 0 1 18 1 1 19,Aj 2 0 17,Aj 2 1 20] [0,1]<|.ret) [.cell 0 (some 2),.cell 1 (some 2)]:= by decide +kernel
theorem c26  (r:(Types × Sorts)) (h:ref52_Example =some r):Sound prog 26 [] (.tp [eTypes r.1,eSorts r.2]):= by
 refine Fn ck26 fun hw=>?_
 unfold ref52_Example at h
 refine D<|F<|b1 rfl<|b1 rfl<|E (kb<|kb<|kn) fun _=>?_
 refine D<|F<|e8 rfl rfl (show _=eNodeType (NodeType.mk (⟨#[67,108,97,115,115]⟩:ByteArray) (-1) false []) from rfl)<|e8 rfl rfl (show _=eNodeType (NodeType.mk (⟨#[65,116,116,114,105,98,117,116,101]⟩:ByteArray) (-1) false []) from rfl)<|e8 rfl rfl (show _=eNodeType (NodeType.mk (⟨#[84,97,98,108,101]⟩:ByteArray) (-1) false []) from rfl)<|e8 rfl rfl (show _=eNodeType (NodeType.mk (⟨#[67,111,108,117,109,110]⟩:ByteArray) (-1) false []) from rfl)<|e8 rfl rfl (show _=eNodeType (NodeType.mk (⟨#[77,97,112]⟩:ByteArray) (-1) false []) from rfl)<|e1 (e:=eNodeType) (l:=[NodeType.mk (⟨#[67,108,97,115,115]⟩:ByteArray) (-1) false [],NodeType.mk (⟨#[65,116,116,114,105,98,117,116,101]⟩:ByteArray) (-1) false [],NodeType.mk (⟨#[84,97,98,108,101]⟩:ByteArray) (-1) false [],NodeType.mk (⟨#[67,111,108,117,109,110]⟩:ByteArray) (-1) false [],NodeType.mk (⟨#[77,97,112]⟩:ByteArray) (-1) false []]) rfl rfl (fun _=>rfl) ?_
 obtain ⟨x9,hx9,h⟩:=I h
 refine T rfl (c65 (⟨#[104,97,115]⟩:ByteArray) 0 1 _ hx9) ?_
 obtain ⟨x10,hx10,h⟩:=I h
 refine T rfl (c65 (⟨#[119,105,116,104]⟩:ByteArray) 2 3 _ hx10) ?_
 obtain ⟨x11,hx11,h⟩:=I h
 refine T rfl (c65 (⟨#[111,102,67,108,97,115,115]⟩:ByteArray) 4 0 _ hx11) ?_
 obtain ⟨x12,hx12,h⟩:=I h
 refine T rfl (c65 (⟨#[111,102,65,116,116,114,105,98,117,116,101]⟩:ByteArray) 4 1 _ hx12) ?_
 obtain ⟨x13,hx13,h⟩:=I h
 refine T rfl (c65 (⟨#[116,111,84,97,98,108,101]⟩:ByteArray) 4 2 _ hx13) ?_
 obtain ⟨x14,hx14,h⟩:=I h
 refine T rfl (c65 (⟨#[116,111,67,111,108,117,109,110]⟩:ByteArray) 4 3 _ hx14)<|e1 (e:=eEdgeType) (l:=[x9,x10,x11,x12,x13,x14]) rfl rfl (fun _=>rfl)<|g5 rfl rfl rfl (show _=eTypes (Types.mk [NodeType.mk (⟨#[67,108,97,115,115]⟩:ByteArray) (-1) false [],NodeType.mk (⟨#[65,116,116,114,105,98,117,116,101]⟩:ByteArray) (-1) false [],NodeType.mk (⟨#[84,97,98,108,101]⟩:ByteArray) (-1) false [],NodeType.mk (⟨#[67,111,108,117,109,110]⟩:ByteArray) (-1) false [],NodeType.mk (⟨#[77,97,112]⟩:ByteArray) (-1) false []] [x9,x10,x11,x12,x13,x14]) from rfl)<|b1 rfl<|a8 rfl rfl rfl rfl rfl<|E (kb<|kb<|kb<|kn) fun _=>?_
 refine D<|F<|R rfl rfl (show _=eTypes (Types.mk [NodeType.mk (⟨#[67,108,97,115,115]⟩:ByteArray) (-1) false [],NodeType.mk (⟨#[65,116,116,114,105,98,117,116,101]⟩:ByteArray) (-1) false [],NodeType.mk (⟨#[84,97,98,108,101]⟩:ByteArray) (-1) false [],NodeType.mk (⟨#[67,111,108,117,109,110]⟩:ByteArray) (-1) false [],NodeType.mk (⟨#[77,97,112]⟩:ByteArray) (-1) false []] [x9,x10,x11,x12,x13,x14]) from rfl)<|e1 (e:=eI) (l:=[1,1,3,3,2]) rfl rfl (fun _=>rfl)<|e1 (e:=eI) (l:=[1,3,2,2,2,2]) rfl rfl (fun _=>rfl)<|g5 rfl rfl rfl (show _=eSorts (Sorts.mk [1,1,3,3,2] [1,3,2,2,2,2]) from rfl)<|a8 rfl rfl rfl rfl rfl<|a8 rfl rfl rfl rfl rfl<|E (kb<|kb<|kn) fun _=>?_
 refine L ?_
 cases h
 exact ⟨by decide,rfl⟩
theorem ck43:CK f43 (Rq [Ak 4] [0,1]<|Sq (Rq [Aa 6 0,Ah 7 6,Aa 8 1,Ah 9 8,Bx 10 7 9] [0,1,10]<|Co 10 (Rq [Ak 4] [4]<|.ret)<|Sk [0,1])<|Sq (Rq [Aa 11 0,Ah 12 11,Ad 13 0] [0,1,12,13]<|Bl 0<|Lo [0,1,12,13]<|Rq [Ap 14 13 12] [0,1,12,13,14]<|Sq (Co 14 (Sk [0,1,12,13])<|Ex 0 [])<|Sq (Bl 1<|Rq [Aa 15 13,Aa 5 15] [0,1,5,12,13]<|Sq (Dr [16,17,18,19,20,21,22,23,24] [Aa 16 0,Aa 17 5,Ag 18 16 17 1,Ab 19 18,Aa 20 1,Aa 21 5,Ag 22 20 21 1,Ab 23 22,Bx 24 19 23] [0,1,12,13,24])<|Co 24 (Rq [Ak 4] [4]<|.ret)<|Sk [0,1,12,13])<|Re [An 25 13 1,Aa 13 25] [0,1,12,13])<|Rq [Cg 4] [4]<|.ret) [.tmp 4]:= by decide +kernel
theorem c43 (s1_0:List Int) (s2_1:List Int) (r:Bool) (h:slices_Equal_int s1_0 s2_1=some r):Sound prog 43 [lI s1_0,lI s2_1] (.sh (eB r)):= by
 refine Fn ck43 fun hw=>?_
 unfold slices_Equal_int at h
 refine D<|F<|C rfl<|E (kt<|kt<|kn) fun _=>?_
 refine D<|D<|F<|C rfl<|U rfl rfl<|C rfl<|U rfl rfl<|a9 rfl rfl<|E (kt<|kt<|kt<|kn) fun _=>?_
 refine S rfl (fun hc10=>?_) (fun hc10=>?_)
 ·replace h:=M hc10 h
  refine D<|F<|C rfl<|E (kt<|kn) fun _=>?_
  exact L (by cases h;rfl)
 ·replace h:=O hc10 h
  refine P (kt<|kt<|kn) fun _=>?_
  refine D<|D<|F<|C rfl<|U rfl rfl<|C rfl<|E (kt<|kt<|kt<|kt<|kn) fun _=>?_
  obtain ⟨o0,ho0,h⟩:=d2 h
  refine d6 ho0 (fun (i0:Int) (_:Unit)=>[(0,.tv (lI s1_0)),(1,.tv (lI s2_1)),(12,.tv (eI (s1_0.length:Int))),(13,.tv (eI i0))]) (fun (_:Unit)=>[]) (fun zv ze=>resIs ([.tmp 4]) (.sh (eB zv)) ze) rfl ?_ ?_ ?_ ?_
  ·clear h ho0
   intro i0 s0 r0 hi0 h hw0
   refine D<|F<|V rfl rfl<|E (kt<|kt<|kt<|kt<|kt<|kn) fun _=>?_
   refine D<|b5 rfl (b6 hi0)<|P (kt<|kt<|kt<|kt<|kn) fun _=>?_
   refine D<|b0<|D<|F<|C rfl<|C rfl<|E (kt<|kt<|kt<|kt<|kt<|kn) fun _=>?_
   refine D<|b9 rfl<|C rfl<|C rfl ?_
   obtain ⟨x18,hx18,h⟩:=I h
   refine W rfl rfl rfl hx18 rfl<|J rfl<|C rfl<|C rfl ?_
   obtain ⟨x22,hx22,h⟩:=I h
   refine W rfl rfl rfl hx22 rfl<|J rfl<|a9 rfl rfl<|E (kt<|kt<|kt<|kt<|kt<|kn) fun _=>?_
   refine S rfl (fun hc24=>?_) (fun hc24=>?_)
   ·replace h:=M hc24 h
    refine D<|F<|C rfl<|E (kt<|kn) fun _=>?_
    refine L ?_
    cases h
    exact ⟨_,rfl,rfl⟩
   ·replace h:=O hc24 h
    refine P (kt<|kt<|kt<|kt<|kn) fun _=>?_
    refine F<|a7 rfl rfl<|C rfl<|E (kt<|kt<|kt<|kt<|kn) ?_
    cases h
    refine ⟨_,rfl,?_⟩
    rw [Ktv rfl (Ktv rfl (Ktv rfl (Ktv rfl (Knil _))))]
    rw [b4 (a5 (hw0 13)) hi0 (e0 (a5 (hw0 12)))]
    all_goals rfl
  ·intro i0 s0 hi0
   refine D<|F<|V rfl rfl<|E (kt<|kt<|kt<|kt<|kt<|kn) fun _=>?_
   refine D<|b7 rfl (b8 hi0)<|b3 (kn) ?_
   exact ⟨rfl,rfl⟩
  ·intro s0 hs
   replace h:=d3 h hs
   intro _
   refine D<|F<|C rfl<|E (kt<|kn) fun _=>?_
   exact L (by cases h;rfl)
  ·intro v0 ze hv hR
   replace h:=d4 h hv
   cases h
   exact hR
theorem ck45:CK f45 (Rq [Bv 0 1 3 4 0 5 1 3 4 0 5 1 1 1 1 0 9 1 1 1 3 4 0 5] [0]<|Rq [⟨some 1,.lst 1 [.c (.int .i64 0),.c (.int .i64 2),.c (.int .i64 4)],none⟩,Fi 2 0 0 0 0 1 2 1 1 2 2 1 0,Fi 3 0 0 0 0 1 4 1 1 2 2 1 1,Er 4 3 2 3,Ck 5 1 3 0 1 1 1 1 4,Dt 6 1 3 4 0 5 0 2 5,Ev 7 0 9 1 1 1 3 4 0 5 0 1 1,⟨some 8,.bld [.str ⟨#[]⟩,.list 1 [],.list 3 [],.list 4 [],.int .i64 0,.list 5 [],.list 1 [],.list 3 [],.list 4 [],.int .i64 0,.list 5 [],.list 1 [],.list 1 [],.list 1 [],.list 1 [],.bool false,.int .i64 0,.list 9 [],.list 1 [],.list 1 [],.list 1 [],.list 3 [],.list 4 [],.int .i64 0,.list 5 []] [(0,1,.c (.str ⟨#[99,108,97,115,115,101,115]⟩)),(6,5,.s 6),(15,1,.c (.bool true)),(16,9,.s 7)],none⟩,Aj 25 0 8] [0]<|.ret) [.cell 0 (some 25)]:= by decide +kernel
theorem c45  (r:Rule) (h:law53_classes =some r):Sound prog 45 [] (.sh (eRule r)):= by
 refine Fn ck45 fun hw=>?_
 unfold law53_classes at h
 refine D<|F<|b1 rfl<|E (kb<|kn) fun _=>?_
 refine D<|F<|e1 (e:=eI) (l:=[0,2,4]) rfl rfl (fun _=>rfl)<|g5 rfl rfl rfl (show _=eEdge (Edge.mk 2 2 0) from rfl)<|g5 rfl rfl rfl (show _=eEdge (Edge.mk 4 2 1) from rfl)<|e1 (e:=eEdge) (l:=[Edge.mk 2 2 0,Edge.mk 4 2 1]) rfl rfl (fun _=>rfl)<|g5 rfl rfl rfl (show _=eGraph (Graph.mk [0,2,4] [Edge.mk 2 2 0,Edge.mk 4 2 1]) from rfl)<|e8 rfl rfl (show _=ePattern (Pattern.mk (Graph.mk [0,2,4] [Edge.mk 2 2 0,Edge.mk 4 2 1]) [] 0 []) from rfl)<|e8 rfl rfl (show _=eCondition (Condition.mk 1 [] (Morphism.mk [] []) (Pattern.mk (Graph.mk [] []) [] 0 [])) from rfl)<|e8 rfl rfl (show _=eRule (Rule.mk (⟨#[99,108,97,115,115,101,115]⟩:ByteArray) (Pattern.mk (Graph.mk [] []) [] 0 []) (Pattern.mk (Graph.mk [0,2,4] [Edge.mk 2 2 0,Edge.mk 4 2 1]) [] 0 []) (Part.mk [] []) (Morphism.mk [] []) true (Condition.mk 1 [] (Morphism.mk [] []) (Pattern.mk (Graph.mk [] []) [] 0 []))) from rfl)<|a8 rfl rfl rfl rfl rfl<|E (kb<|kn) fun _=>?_
 exact L (by cases h;rfl)
theorem ck9:CK f9 (Rq [Ak 0] []<|Rq [Cx 9 26,Aa 8 9,Am 10 8 0,Am 11 8 1,Bd 1 4 7,Bd 2 1 1,Aj 2 1 10,Aj 2 2 11] [1,2]<|Sq (Dr [3,4,12,13,14,15,16,17,18] [Ae 13 1 2,Ae 14 2 2,Cx 15 45,Bg 16 11 13 14 15,Aa 12 16,Am 17 12 0,Am 18 12 1,Bv 3 1 3 4 0 5 1 3 4 0 5 1 1 1 1 0 9 1 1 1 3 4 0 5,Aj 25 3 17,Aa 4 18] [1,2,3,4])<|Sq (Dr [5,6,7,19,20,21,22,23,24,25,26] [Ae 20 1 2,Ae 21 2 2,Cx 22 45,Bg 23 18 20 21 22,Aa 19 23,Am 24 19 0,Am 25 19 1,Am 26 19 2,Bv 5 1 3 4 0 5 1 3 4 0 5 1 1 1 1 0 9 1 1 1 3 4 0 5,Bd 6 1 1,Aj 25 5 24,Aj 2 6 25,Aa 7 26] [3,4,5,6,7])<|Rq [Aa 27 4,Be 28 27 0,Aa 29 28,Ba 30 3 6 29,Bu 31 30 0 29,Bu 32 31 0 29,Ax 33 32 29,Ew 34 1 0 29,Ch 35 43 33 34 29,At 36 29 35,Aa 37 36,Aq 38 7 37,Di 39 38 0 37,At 40 37 39,Aa 41 40,Ba 42 5 1 41,Bu 43 42 0 41,Bu 44 43 0 41,Ax 45 44 41,Ew 46 1 0 41,Ch 47 43 45 46 41,At 48 41 47,Aa 49 48,Ba 50 6 0 49,Ax 51 50 49,Ew 52 1 0 49,Ch 53 43 51 52 49,At 54 49 53,Aa 55 54,Ba 56 5 6 55,Bu 57 56 0 55,Bu 58 57 0 55,Ax 59 58 55,Ca 60 59 55,Di 61 60 3 55,At 62 55 61,Aa 0 62] [0]<|.ret) [.tmp 0]:= by decide +kernel
theorem c9  (r:Bool) (h:law53_awake =some r):Sound prog 9 [] (.sh (eB r)):= by
 refine Fn ck9 fun hw=>?_
 unfold law53_awake at h
 refine D<|F<|C rfl<|E (kn) fun _=>?_
 refine D<|F ?_
 obtain ⟨x9,hx9,h⟩:=I h
 refine e5 rfl (c26  _ hx9)<|e6 rfl<|b2 rfl rfl<|b2 rfl rfl<|b1 rfl<|b1 rfl<|a8 rfl rfl rfl rfl rfl<|a8 rfl rfl rfl rfl rfl<|E (kb<|kb<|kn) fun _=>?_
 refine D<|b9 rfl<|R rfl rfl (show _=eTypes x9.1 from rfl)<|R rfl rfl (show _=eSorts x9.2 from rfl) ?_
 obtain ⟨x15,hx15,h⟩:=I h
 refine T rfl (c45  _ hx15) ?_
 obtain ⟨x16,hx16,h⟩:=I h
 refine e5 rfl (c11 x9.1 x9.2 x15 _ hx16)<|e6 rfl<|b2 rfl rfl<|b2 rfl rfl<|b1 rfl<|a8 rfl rfl rfl rfl rfl<|C rfl<|E (kb<|kb<|kb<|kt<|kn) fun _=>?_
 refine D<|b9 rfl<|R rfl rfl (show _=eTypes x9.1 from rfl)<|R rfl rfl (show _=eSorts x9.2 from rfl) ?_
 obtain ⟨x22,hx22,h⟩:=I h
 refine T rfl (c45  _ hx22) ?_
 obtain ⟨x23,hx23,h⟩:=I h
 refine e5 rfl (c18 x9.1 x9.2 x22 _ hx23)<|e6 rfl<|b2 rfl rfl<|b2 rfl rfl<|b2 rfl rfl<|b1 rfl<|b1 rfl<|a8 rfl rfl rfl rfl rfl<|a8 rfl rfl rfl rfl rfl<|C rfl<|E (kb<|kt<|kb<|kb<|kt<|kn) fun _=>?_
 refine D<|F<|C rfl<|d1 rfl rfl<|C rfl ?_
 obtain ⟨x36,hx36,h⟩:=I h
 refine gX 7 [30,31,32,33,34,35] 36 x36 (decide (x16.2=0)) (fun hg36=>?_) (fun hg36=>?_) ?_
 ·replace h:=M hg36 hx36
  refine G rfl hg36<|a3 rfl<|G rfl hg36<|f3 rfl rfl<|G rfl hg36<|f3 rfl rfl<|G rfl hg36<|J rfl<|G rfl hg36<|e1 (e:=eI) (l:=[0]) rfl rfl (fun _=>rfl) ?_
  obtain ⟨x35,hx35,h⟩:=I h
  refine G rfl hg36<|T rfl (c43 x16.1.Right.Graph.Nodes [0] _ hx35) ?_
  cases h
  refine Y rfl hg36 rfl ?_
  exact ⟨⟨_,_,_,_,_,_,rfl⟩⟩
 ·replace h:=O hg36 hx36
  cases h
  refine H rfl hg36<|H rfl hg36<|H rfl hg36<|H rfl hg36<|H rfl hg36<|H rfl hg36<|Z rfl hg36 rfl ?_
  exact ⟨⟨_,_,_,_,_,_,rfl⟩⟩
 rintro _ ⟨_,_,_,_,_,_,rfl⟩
 refine C rfl ?_
 refine gA 3 [38,39] 40 x36 (decide (x23.2.2=0)) (fun hg40=>?_) (fun hg40=>?_) ?_
 ·refine G rfl hg40<|C rfl<|G rfl hg40<|d1 rfl rfl<|Y rfl hg40 rfl ?_
  exact ⟨⟨_,_,rfl⟩⟩
 ·refine H rfl hg40<|H rfl hg40<|Z rfl hg40 rfl ?_
  exact ⟨⟨_,_,rfl⟩⟩
 rintro _ ⟨_,_,rfl⟩
 refine C rfl ?_
 obtain ⟨x48,hx48,h⟩:=I h
 refine gX 7 [42,43,44,45,46,47] 48 x48 (x36&&(decide (x23.2.2=0))) (fun hg48=>?_) (fun hg48=>?_) ?_
 ·replace h:=M hg48 hx48
  refine G rfl hg48<|a3 rfl<|G rfl hg48<|f3 rfl rfl<|G rfl hg48<|f3 rfl rfl<|G rfl hg48<|J rfl<|G rfl hg48<|e1 (e:=eI) (l:=[0]) rfl rfl (fun _=>rfl) ?_
  obtain ⟨x47,hx47,h⟩:=I h
  refine G rfl hg48<|T rfl (c43 x23.1.Left.Graph.Nodes [0] _ hx47) ?_
  cases h
  refine Y rfl hg48 rfl ?_
  exact ⟨⟨_,_,_,_,_,_,rfl⟩⟩
 ·replace h:=O hg48 hx48
  cases h
  refine H rfl hg48<|H rfl hg48<|H rfl hg48<|H rfl hg48<|H rfl hg48<|H rfl hg48<|Z rfl hg48 rfl ?_
  exact ⟨⟨_,_,_,_,_,_,rfl⟩⟩
 rintro _ ⟨_,_,_,_,_,_,rfl⟩
 refine C rfl ?_
 obtain ⟨x54,hx54,h⟩:=I h
 refine gX 5 [50,51,52,53] 54 x54 x48 (fun hg54=>?_) (fun hg54=>?_) ?_
 ·replace h:=M hg54 hx54
  refine G rfl hg54<|a3 rfl<|G rfl hg54<|J rfl<|G rfl hg54<|e1 (e:=eI) (l:=[0]) rfl rfl (fun _=>rfl) ?_
  obtain ⟨x53,hx53,h⟩:=I h
  refine G rfl hg54<|T rfl (c43 x23.2.1.Nodes [0] _ hx53) ?_
  cases h
  refine Y rfl hg54 rfl ?_
  exact ⟨⟨_,_,_,_,rfl⟩⟩
 ·replace h:=O hg54 hx54
  cases h
  refine H rfl hg54<|H rfl hg54<|H rfl hg54<|H rfl hg54<|Z rfl hg54 rfl ?_
  exact ⟨⟨_,_,_,_,rfl⟩⟩
 rintro _ ⟨_,_,_,_,rfl⟩
 refine C rfl ?_
 refine gA 7 [56,57,58,59,60,61] 62 x54 (decide ((x23.1.Right.Graph.Nodes.length:Int)=3)) (fun hg62=>?_) (fun hg62=>?_) ?_
 ·refine G rfl hg62<|a3 rfl<|G rfl hg62<|f3 rfl rfl<|G rfl hg62<|f3 rfl rfl<|G rfl hg62<|J rfl<|G rfl hg62<|U rfl rfl<|G rfl hg62<|d1 rfl rfl<|Y rfl hg62 rfl ?_
  exact ⟨⟨_,_,_,_,_,_,rfl⟩⟩
 ·refine H rfl hg62<|H rfl hg62<|H rfl hg62<|H rfl hg62<|H rfl hg62<|H rfl hg62<|Z rfl hg62 rfl ?_
  exact ⟨⟨_,_,_,_,_,_,rfl⟩⟩
 rintro _ ⟨_,_,_,_,_,_,rfl⟩
 refine C rfl<|E (kt<|kn) fun _=>?_
 exact L (by cases h;rfl)
theorem ck23:CK f23 (Rq [Af 3 0,Af 4 1,Af 5 2,Bv 6 1 3 4 0 5 1 3 4 0 5 1 1 1 1 0 9 1 1 1 3 4 0 5,Bd 7 1 1,Ad 8 0] [3,4,5,6,7]<|Rq [Ae 9 3 2,Ae 10 4 2,Ae 11 5 25,⟨some 12,.lst 1 [.c (.int .i64 1),.c (.int .i64 3)],none⟩,Bz 13 62 9 10 11 12,Am 14 13 0,Am 15 13 1,Am 16 13 2,Aj 25 6 14,Aj 2 7 15,Aa 8 16] [6,7,8]<|.ret) [.cell 6 (some 25),.cell 7 (some 2),.tmp 8]:= by decide +kernel
theorem c23 (t:Types) (s_1:Sorts) (r_2:Rule) (r:(Rule × Part × Int)) (h:triplerule_Consistency t s_1 r_2=some r):Sound prog 23 [eTypes t,eSorts s_1,eRule r_2] (.tp [eRule r.1,ePart r.2.1,eI r.2.2]):= by
 refine Fn ck23 fun hw=>?_
 unfold triplerule_Consistency at h
 refine D<|F<|a4 rfl rfl<|a4 rfl rfl<|a4 rfl rfl<|b1 rfl<|b1 rfl<|C rfl<|E (kt<|kt<|kt<|kb<|kb<|kn) fun _=>?_
 refine D<|F<|R rfl rfl (show _=eTypes t from rfl)<|R rfl rfl (show _=eSorts s_1 from rfl)<|R rfl rfl (show _=eRule r_2 from rfl)<|e1 (e:=eI) (l:=[1,3]) rfl rfl (fun _=>rfl) ?_
 obtain ⟨x13,hx13,h⟩:=I h
 refine e5 rfl (c62 t s_1 r_2 [1,3] _ hx13)<|b2 rfl rfl<|b2 rfl rfl<|b2 rfl rfl<|a8 rfl rfl rfl rfl rfl<|a8 rfl rfl rfl rfl rfl<|C rfl<|E (kb<|kb<|kt<|kn) fun _=>?_
 refine L ?_
 cases h
 exact ⟨by decide,rfl⟩
theorem ck25:CK f25 (Rq [Af 1 0,Ak 2] [1]<|Rq [Ac 3 1 0,Ai 4 3 0,Ab 5 4,Ah 6 5,⟨some 7,.bin (.i) .leq (.s 6) (.c (.int .i64 3)),none⟩,Aa 8 7,Ba 9 1 0 8,Bu 10 9 1 8,Ax 11 10 8,Ca 12 11 8,Ci 13 12 3 8,At 14 8 13,Aa 15 14,Ba 16 1 2 15,Ax 17 16 15,Ca 18 17 15,Ci 19 18 3 15,At 20 15 19,Aa 21 20,Ba 22 1 3 21,Ax 23 22 21,Ca 24 23 21,Ci 25 24 4 21,At 26 21 25,Aa 2 26] [2]<|.ret) [.tmp 2]:= by decide +kernel
theorem c25 (d:ref53_Draft) (r:Bool) (h:law53_small d=some r):Sound prog 25 [eref53_Draft d] (.sh (eB r)):= by
 refine Fn ck25 fun hw=>?_
 unfold law53_small at h
 refine D<|F<|a4 rfl rfl<|C rfl<|E (kt<|kn) fun _=>?_
 refine D<|F<|K rfl<|a6 rfl<|J rfl<|U rfl rfl<|f4 rfl rfl<|C rfl ?_
 refine gA 6 [9,10,11,12,13] 14 (decide ((d.Left.Nodes.length:Int)<=3)) (decide ((d.Left.Edges.length:Int)<=3)) (fun hg14=>?_) (fun hg14=>?_) ?_
 ·refine G rfl hg14<|K rfl<|G rfl hg14<|a6 rfl<|G rfl hg14<|J rfl<|G rfl hg14<|U rfl rfl<|G rfl hg14<|f4 rfl rfl<|Y rfl hg14 rfl ?_
  exact ⟨⟨_,_,_,_,_,rfl⟩⟩
 ·refine H rfl hg14<|H rfl hg14<|H rfl hg14<|H rfl hg14<|H rfl hg14<|Z rfl hg14 rfl ?_
  exact ⟨⟨_,_,_,_,_,rfl⟩⟩
 rintro _ ⟨_,_,_,_,_,rfl⟩
 refine C rfl ?_
 refine gA 5 [16,17,18,19] 20 ((decide ((d.Left.Nodes.length:Int)<=3))&&(decide ((d.Left.Edges.length:Int)<=3))) (decide ((d.Nodes.length:Int)<=3)) (fun hg20=>?_) (fun hg20=>?_) ?_
 ·refine G rfl hg20<|K rfl<|G rfl hg20<|J rfl<|G rfl hg20<|U rfl rfl<|G rfl hg20<|f4 rfl rfl<|Y rfl hg20 rfl ?_
  exact ⟨⟨_,_,_,_,rfl⟩⟩
 ·refine H rfl hg20<|H rfl hg20<|H rfl hg20<|H rfl hg20<|Z rfl hg20 rfl ?_
  exact ⟨⟨_,_,_,_,rfl⟩⟩
 rintro _ ⟨_,_,_,_,rfl⟩
 refine C rfl ?_
 refine gA 5 [22,23,24,25] 26 (((decide ((d.Left.Nodes.length:Int)<=3))&&(decide ((d.Left.Edges.length:Int)<=3)))&&(decide ((d.Nodes.length:Int)<=3))) (decide ((d.Edges.length:Int)<=4)) (fun hg26=>?_) (fun hg26=>?_) ?_
 ·refine G rfl hg26<|K rfl<|G rfl hg26<|J rfl<|G rfl hg26<|U rfl rfl<|G rfl hg26<|f4 rfl rfl<|Y rfl hg26 rfl ?_
  exact ⟨⟨_,_,_,_,rfl⟩⟩
 ·refine H rfl hg26<|H rfl hg26<|H rfl hg26<|H rfl hg26<|Z rfl hg26 rfl ?_
  exact ⟨⟨_,_,_,_,rfl⟩⟩
 rintro _ ⟨_,_,_,_,rfl⟩
 refine C rfl<|E (kt<|kn) fun _=>?_
 exact L (by cases h;rfl)
theorem ck173:CK f173 (Rq [Af 1 0,Ce 2] [1]<|Sq (Rq [Ac 3 1 0,Ab 4 3,Be 5 4 3] [1,5]<|Co 5 (Rq [Ac 6 1 1,Ab 7 6,⟨some 8,.bin (.s) .add (.c (.str ⟨#[34]⟩)) (.s 7),none⟩,⟨some 9,.bin (.s) .add (.s 8) (.c (.str ⟨#[34]⟩)),none⟩,Aa 2 9] [2]<|.ret)<|Sk [1])<|Rq [Ac 10 1 1,Ab 11 10,Aa 2 11] [2]<|.ret) [.tmp 2]:= by decide +kernel
theorem c173 (t:Token) (r:ByteArray) (h:ref01_text t=some r):Sound prog 173 [eToken t] (.sh (eS r)):= by
 refine Fn ck173 fun hw=>?_
 unfold ref01_text at h
 refine D<|F<|a4 rfl rfl<|C rfl<|E (kt<|kn) fun _=>?_
 refine D<|D<|F<|K rfl<|J rfl<|d1 rfl rfl<|E (kt<|kt<|kn) fun _=>?_
 refine S rfl (fun hc5=>?_) (fun hc5=>?_)
 ·replace h:=M hc5 h
  refine D<|F<|K rfl<|J rfl ?_
  obtain ⟨x8,hx8,h⟩:=I h
  refine m1 rfl rfl hx8 ?_
  obtain ⟨x9,hx9,h⟩:=I h
  refine m1 rfl rfl hx9<|C rfl<|E (kt<|kn) fun _=>?_
  exact L (by cases h;rfl)
 ·replace h:=O hc5 h
  refine P (kt<|kn) fun _=>?_
  refine D<|F<|K rfl<|J rfl<|C rfl<|E (kt<|kn) fun _=>?_
  exact L (by cases h;rfl)
theorem ck214:CK f214 (Rq [Ak 2] [0]<|Rq [Aa 3 0,Dk 4 3 97,Aa 5 4,Aq 6 0 5,Cz 7 6 122 5,At 8 5 7,Aa 9 8,Aw 10 0 9,Ez 11 10 65 9,Aw 12 11 9,Aq 13 0 12,Cz 14 13 90 12,Dl 15 12 14 9,As 16 9 15,Aa 2 16] [2]<|.ret) [.tmp 2]:= by decide +kernel
theorem c214 (c:Int) (r:Bool) (h:ref01_letter c=some r):Sound prog 214 [eU8 c] (.sh (eB r)):= by
 refine Fn ck214 fun hw=>?_
 unfold ref01_letter at h
 refine D<|F<|C rfl<|E (kt<|kn) fun _=>?_
 refine D<|F<|C rfl<|d5 rfl rfl<|C rfl ?_
 refine gA 3 [6,7] 8 (decide (97<=c)) (decide (c<=122)) (fun hg8=>?_) (fun hg8=>?_) ?_
 ·refine G rfl hg8<|C rfl<|G rfl hg8<|f4 rfl rfl<|Y rfl hg8 rfl ?_
  exact ⟨⟨_,_,rfl⟩⟩
 ·refine H rfl hg8<|H rfl hg8<|Z rfl hg8 rfl ?_
  exact ⟨⟨_,_,rfl⟩⟩
 rintro _ ⟨_,_,rfl⟩
 refine C rfl ?_
 refine gO 7 [10,11,12,13,14,15] 16 ((decide (97<=c))&&(decide (c<=122))) ((decide (65<=c))&&(decide (c<=90))) (fun hg16=>?_) (fun hg16=>?_) ?_
 ·refine H rfl hg16<|H rfl hg16<|H rfl hg16<|d7 rfl<|d7 rfl<|H rfl hg16<|Y rfl hg16 rfl ?_
  exact ⟨⟨_,_,_,_,_,_,rfl⟩⟩
 ·refine G rfl hg16<|C rfl<|G rfl hg16<|d5 rfl rfl<|G rfl hg16<|C rfl ?_
  refine gA 3 [13,14] 15 (decide (65<=c)) (decide (c<=90)) (fun hg15=>?_) (fun hg15=>?_) ?_
  ·refine G rfl hg15<|C rfl<|G rfl hg15<|f4 rfl rfl<|G rfl hg16<|Y rfl hg15 rfl ?_
   exact ⟨⟨_,_,rfl⟩⟩
  ·refine H rfl hg15<|H rfl hg15<|G rfl hg16<|Z rfl hg15 rfl ?_
   exact ⟨⟨_,_,rfl⟩⟩
  rintro _ ⟨_,_,rfl⟩
  refine Z rfl hg16 rfl ?_
  exact ⟨⟨_,_,_,_,_,_,rfl⟩⟩
 rintro _ ⟨_,_,_,_,_,_,rfl⟩
 refine C rfl<|E (kt<|kn) fun _=>?_
 exact L (by cases h;rfl)
theorem ck215:CK f215 (Rq [Ak 2] [0]<|Rq [Aa 3 0,Dk 4 3 48,Aa 5 4,Aq 6 0 5,Cz 7 6 57 5,At 8 5 7,Aa 2 8] [2]<|.ret) [.tmp 2]:= by decide +kernel
theorem c215 (c:Int) (r:Bool) (h:ref01_digit c=some r):Sound prog 215 [eU8 c] (.sh (eB r)):= by
 refine Fn ck215 fun hw=>?_
 unfold ref01_digit at h
 refine D<|F<|C rfl<|E (kt<|kn) fun _=>?_
 refine D<|F<|C rfl<|d5 rfl rfl<|C rfl ?_
 refine gA 3 [6,7] 8 (decide (48<=c)) (decide (c<=57)) (fun hg8=>?_) (fun hg8=>?_) ?_
 ·refine G rfl hg8<|C rfl<|G rfl hg8<|f4 rfl rfl<|Y rfl hg8 rfl ?_
  exact ⟨⟨_,_,rfl⟩⟩
 ·refine H rfl hg8<|H rfl hg8<|Z rfl hg8 rfl ?_
  exact ⟨⟨_,_,rfl⟩⟩
 rintro _ ⟨_,_,rfl⟩
 refine C rfl<|E (kt<|kn) fun _=>?_
 exact L (by cases h;rfl)
theorem ck216:CK f216 (Rq [Ad 6 0] [0,1,2]<|Rq [Ad 7 0] [0,1,2,7]<|Sq (Bl 0<|Lo [0,1,2,7]<|Sq (Rq [Aa 8 1,Aa 9 7,Bn 10 8 9,Aa 11 0,Ct 12 11,Ap 13 10 12,Aa 14 13,Aq 15 0 14,Aq 16 1 14,Aq 17 7 14,Ef 18 16 17 14,Ek 19 15 18 14,Cc 20 215 19 14,Aq 21 20 14,Aw 22 2 21,Br 23 22 21,Aw 24 23 21,Aq 25 0 24,Aq 26 1 24,Aq 27 7 24,Ef 28 26 27 24,Ek 29 25 28 24,Cc 30 214 29 24,Aq 31 30 24,Aw 32 0 31,Aw 33 1 31,Aw 34 7 31,⟨some 35,.bin (.i) .add (.s 33) (.s 34),some (31,false)⟩,⟨some 36,.sidx (.s 32) (.s 35),some (31,false)⟩,Fa 37 36 95 31,Dx 38 31 37 24,Dl 39 24 38 21,Dx 40 21 39 14,At 41 14 40] [0,1,2,7,41]<|Co 41 (Sk [0,1,2,7])<|Ex 0 [7])<|Bl 1<|Re [Aa 42 7,An 43 42 1,Aa 7 43] [0,1,2,7])<|Rq [Aa 44 7,Aa 6 44] [6]<|.ret) [.tmp 6]:= by decide +kernel
theorem c216 (s_0:ByteArray) (at':Int) (digits:Bool) (r:Int) (h:ref01_run s_0 at' digits=some r):Sound prog 216 [eS s_0,eI at',eB digits] (.sh (eI r)):= by
 refine Fn ck216 fun hw=>?_
 unfold ref01_run at h
 refine D<|F<|C rfl<|E (kt<|kt<|kt<|kn) fun _=>?_
 refine D<|F<|C rfl<|E (kt<|kt<|kt<|kt<|kn) fun _=>?_
 refine D ?_
 obtain ⟨o0,ho0,h⟩:=d2 h
 refine g9 ho0 (fun (s0:Int)=>[(0,.tv (eS s_0)),(1,.tv (eI at')),(2,.tv (eB digits)),(7,.tv (eI s0))]) (fun (s0:Int)=>[(7,.tv (eI s0))]) (fun zv ze=>resIs ([.tmp 6]) (.sh (eI zv)) ze) rfl ?_ ?_ ?_
 ·clear h ho0
  intro s0 r0 h hw0
  refine D<|D<|F<|C rfl<|C rfl<|a7 rfl rfl<|C rfl<|g7 rfl<|V rfl rfl<|C rfl ?_
  obtain ⟨x41,hx41,h⟩:=I h
  refine gX 27 [15,16,17,18,19,20,21,22,23,24,25,26,27,28,29,30,31,32,33,34,35,36,37,38,39,40] 41 x41 (decide ((w64 (at'+s0))<(s_0.size:Int))) (fun hg41=>?_) (fun hg41=>?_) ?_
  ·replace h:=M hg41 hx41
   refine G rfl hg41<|C rfl<|G rfl hg41<|C rfl<|G rfl hg41<|C rfl<|G rfl hg41<|a7 rfl rfl ?_
   obtain ⟨x19,hx19,h⟩:=I h
   refine G rfl hg41<|l6 rfl rfl hx19 ?_
   obtain ⟨x20,hx20,h⟩:=I h
   refine G rfl hg41<|T rfl (c215 x19 _ hx20)<|G rfl hg41<|C rfl ?_
   obtain ⟨x40,hx40,h⟩:=I h
   refine gX 19 [22,23,24,25,26,27,28,29,30,31,32,33,34,35,36,37,38,39] 40 x40 x20 (fun hg40=>?_) (fun hg40=>?_) ?_
   ·replace h:=M hg40 hx40
    cases h
    refine H rfl hg40<|H rfl hg40<|H rfl hg40<|d7 rfl<|d7 rfl<|d7 rfl<|d7 rfl<|d7 rfl<|d7 rfl<|d7 rfl<|d7 rfl<|d7 rfl<|d7 rfl<|d7 rfl<|d7 rfl<|d7 rfl<|d7 rfl<|H rfl hg40<|G rfl hg41<|Y rfl hg40 rfl ?_
    exact ⟨⟨_,_,_,_,_,_,_,_,_,_,_,_,_,_,_,_,_,_,rfl⟩⟩
   ·replace h:=O hg40 hx40
    refine G rfl hg40<|C rfl<|G rfl hg40<|d0 rfl<|G rfl hg40<|C rfl ?_
    obtain ⟨x39,hx39,h⟩:=I h
    refine gX 15 [25,26,27,28,29,30,31,32,33,34,35,36,37,38] 39 x39 (!digits) (fun hg39=>?_) (fun hg39=>?_) ?_
    ·replace h:=M hg39 hx39
     refine G rfl hg39<|C rfl<|G rfl hg39<|C rfl<|G rfl hg39<|C rfl<|G rfl hg39<|a7 rfl rfl ?_
     obtain ⟨x29,hx29,h⟩:=I h
     refine G rfl hg39<|l6 rfl rfl hx29 ?_
     obtain ⟨x30,hx30,h⟩:=I h
     refine G rfl hg39<|T rfl (c214 x29 _ hx30)<|G rfl hg39<|C rfl ?_
     obtain ⟨x38,hx38,h⟩:=I h
     refine gX 7 [32,33,34,35,36,37] 38 x38 x30 (fun hg38=>?_) (fun hg38=>?_) ?_
     ·replace h:=M hg38 hx38
      cases h
      refine H rfl hg38<|H rfl hg38<|H rfl hg38<|H rfl hg38<|H rfl hg38<|H rfl hg38<|G rfl hg39<|Y rfl hg38 rfl ?_
      exact ⟨⟨_,_,_,_,_,_,rfl⟩⟩
     ·replace h:=O hg38 hx38
      refine G rfl hg38<|C rfl<|G rfl hg38<|C rfl<|G rfl hg38<|C rfl<|G rfl hg38<|a7 rfl rfl ?_
      obtain ⟨x36,hx36,h⟩:=I h
      refine G rfl hg38<|l6 rfl rfl hx36<|G rfl hg38<|d1 rfl rfl ?_
      cases h
      refine G rfl hg39<|Z rfl hg38 rfl ?_
      exact ⟨⟨_,_,_,_,_,_,rfl⟩⟩
     rintro _ ⟨_,_,_,_,_,_,rfl⟩
     cases h
     refine G rfl hg40<|Y rfl hg39 rfl ?_
     exact ⟨⟨_,_,_,_,_,_,_,_,_,_,_,_,_,_,rfl⟩⟩
    ·replace h:=O hg39 hx39
     cases h
     refine H rfl hg39<|H rfl hg39<|H rfl hg39<|H rfl hg39<|H rfl hg39<|H rfl hg39<|H rfl hg39<|d7 rfl<|d7 rfl<|d7 rfl<|d7 rfl<|d7 rfl<|d7 rfl<|H rfl hg39<|G rfl hg40<|Z rfl hg39 rfl ?_
     exact ⟨⟨_,_,_,_,_,_,_,_,_,_,_,_,_,_,rfl⟩⟩
    rintro _ ⟨_,_,_,_,_,_,_,_,_,_,_,_,_,_,rfl⟩
    cases h
    refine G rfl hg41<|Z rfl hg40 rfl ?_
    exact ⟨⟨_,_,_,_,_,_,_,_,_,_,_,_,_,_,_,_,_,_,rfl⟩⟩
   rintro _ ⟨_,_,_,_,_,_,_,_,_,_,_,_,_,_,_,_,_,_,rfl⟩
   cases h
   refine Y rfl hg41 rfl ?_
   exact ⟨⟨_,_,_,_,_,_,_,_,_,_,_,_,_,_,_,_,_,_,_,_,_,_,_,_,_,_,rfl⟩⟩
  ·replace h:=O hg41 hx41
   cases h
   refine H rfl hg41<|H rfl hg41<|H rfl hg41<|H rfl hg41<|H rfl hg41<|H rfl hg41<|H rfl hg41<|d7 rfl<|d7 rfl<|d7 rfl<|d7 rfl<|d7 rfl<|d7 rfl<|d7 rfl<|d7 rfl<|d7 rfl<|d7 rfl<|d7 rfl<|d7 rfl<|d7 rfl<|d7 rfl<|d7 rfl<|d7 rfl<|d7 rfl<|d7 rfl<|H rfl hg41<|Z rfl hg41 rfl ?_
   exact ⟨⟨_,_,_,_,_,_,_,_,_,_,_,_,_,_,_,_,_,_,_,_,_,_,_,_,_,_,rfl⟩⟩
  rintro _ ⟨_,_,_,_,_,_,_,_,_,_,_,_,_,_,_,_,_,_,_,_,_,_,_,_,_,_,rfl⟩
  refine E (kt<|kt<|kt<|kt<|kt<|kn) fun _=>?_
  refine S rfl (fun hc41=>?_) (fun hc41=>?_)
  ·replace h:=M hc41 h
   refine P (kt<|kt<|kt<|kt<|kn) fun _=>?_
   refine b0<|F<|C rfl<|a7 rfl rfl<|C rfl<|E (kt<|kt<|kt<|kt<|kn) ?_
   cases h
   refine ⟨_,rfl,?_⟩
   rw [Ktv rfl (Ktv rfl (Ktv rfl (Ktv rfl (Knil _))))]
   all_goals rfl
  ·replace h:=O hc41 h
   refine b3 (kt<|kn) ?_
   refine ⟨rfl,?_⟩
   cases h
   exact ⟨_,rfl,rfl⟩
 ·intro s0 hs
  replace h:=d3 h hs
  intro _
  refine D<|F<|C rfl<|C rfl<|E (kt<|kn) fun _=>?_
  exact L (by cases h;rfl)
 ·intro v0 ze hv hR
  replace h:=d4 h hv
  cases h
  exact hR
theorem ck217:CK f217 (Rq [Ad 4 0] [0,1]<|Sq (Rq [Ad 5 1] [0,1,5]<|Bl 0<|Lo [0,1,5]<|Sq (Rq [Aa 7 1,Aa 8 5,Bn 9 7 8,Aa 10 0,Ct 11 10,Ap 12 9 11] [0,1,5,12]<|Co 12 (Sk [0,1,5])<|Ex 0 [])<|Sq (Bl 1<|Rq [Aa 15 0,Aa 16 1,Aa 17 5,Bn 18 16 17,⟨some 19,.sidx (.s 15) (.s 18),none⟩,Aa 6 19] [0,1,5,6]<|Sq (Rq [Aa 20 6,El 21 20 34] [0,1,5,6,21]<|Co 21 (Rq [Aa 22 5,An 23 22 1,Aa 4 23] [4]<|.ret)<|Sk [0,1,5,6])<|Rq [Aa 24 6,⟨some 25,.bin (.i) .lss (.s 24) (.c (.int .u8 32)),none⟩,Aa 26 25,Aw 27 6 26,⟨some 28,.bin (.i) .gtr (.s 27) (.c (.int .u8 126)),some (26,false)⟩,As 29 26 28] [0,1,5,29]<|Co 29 (Rq [Ad 4 0] [4]<|.ret)<|Sk [0,1,5])<|Re [Aa 13 5,An 14 13 1,Aa 5 14] [0,1,5])<|Rq [Ad 4 0] [4]<|.ret) [.tmp 4]:= by decide +kernel
theorem c217 (s_0:ByteArray) (at':Int) (r:Int) (h:ref01_quoted s_0 at'=some r):Sound prog 217 [eS s_0,eI at'] (.sh (eI r)):= by
 refine Fn ck217 fun hw=>?_
 unfold ref01_quoted at h
 refine D<|F<|C rfl<|E (kt<|kt<|kn) fun _=>?_
 refine D<|D<|F<|C rfl<|E (kt<|kt<|kt<|kn) fun _=>?_
 obtain ⟨o0,ho0,h⟩:=d2 h
 refine g9 ho0 (fun (s0:Int)=>[(0,.tv (eS s_0)),(1,.tv (eI at')),(5,.tv (eI s0))]) (fun (s0:Int)=>[]) (fun zv ze=>resIs ([.tmp 4]) (.sh (eI zv)) ze) rfl ?_ ?_ ?_
 ·clear h ho0
  intro s0 r0 h hw0
  refine D<|D<|F<|C rfl<|C rfl<|a7 rfl rfl<|C rfl<|g7 rfl<|V rfl rfl<|E (kt<|kt<|kt<|kt<|kn) fun _=>?_
  refine S rfl (fun hc12=>?_) (fun hc12=>?_)
  ·replace h:=M hc12 h
   refine P (kt<|kt<|kt<|kn) fun _=>?_
   refine D<|b0<|D<|F<|C rfl<|C rfl<|C rfl<|a7 rfl rfl ?_
   obtain ⟨x19,hx19,h⟩:=I h
   refine l6 rfl rfl hx19<|C rfl<|E (kt<|kt<|kt<|kt<|kn) fun _=>?_
   refine D<|D<|F<|C rfl<|d1 rfl rfl<|E (kt<|kt<|kt<|kt<|kt<|kn) fun _=>?_
   refine S rfl (fun hc21=>?_) (fun hc21=>?_)
   ·replace h:=M hc21 h
    refine D<|F<|C rfl<|a7 rfl rfl<|C rfl<|E (kt<|kn) fun _=>?_
    refine L ?_
    cases h
    exact ⟨_,rfl,rfl⟩
   ·replace h:=O hc21 h
    refine P (kt<|kt<|kt<|kt<|kn) fun _=>?_
    refine D<|F<|C rfl<|V rfl rfl<|C rfl ?_
    refine gO 3 [27,28] 29 (decide (x19<32)) (decide (126<x19)) (fun hg29=>?_) (fun hg29=>?_) ?_
    ·refine H rfl hg29<|H rfl hg29<|Y rfl hg29 rfl ?_
     exact ⟨⟨_,_,rfl⟩⟩
    ·refine G rfl hg29<|C rfl<|G rfl hg29<|e4 rfl rfl<|Z rfl hg29 rfl ?_
     exact ⟨⟨_,_,rfl⟩⟩
    rintro _ ⟨_,_,rfl⟩
    refine E (kt<|kt<|kt<|kt<|kn) fun _=>?_
    refine S rfl (fun hc29=>?_) (fun hc29=>?_)
    ·replace h:=M hc29 h
     refine D<|F<|C rfl<|E (kt<|kn) fun _=>?_
     refine L ?_
     cases h
     exact ⟨_,rfl,rfl⟩
    ·replace h:=O hc29 h
     refine P (kt<|kt<|kt<|kn) fun _=>?_
     refine F<|C rfl<|a7 rfl rfl<|C rfl<|E (kt<|kt<|kt<|kn) ?_
     cases h
     refine ⟨_,rfl,?_⟩
     rw [Ktv rfl (Ktv rfl (Ktv rfl (Knil _)))]
     all_goals rfl
  ·replace h:=O hc12 h
   refine b3 (kn) ?_
   refine ⟨rfl,?_⟩
   cases h
   exact ⟨_,rfl,rfl⟩
 ·intro s0 hs
  replace h:=d3 h hs
  intro _
  refine D<|F<|C rfl<|E (kt<|kn) fun _=>?_
  exact L (by cases h;rfl)
 ·intro v0 ze hv hR
  replace h:=d4 h hv
  cases h
  exact hR
theorem ck218:CK f218 (Rq [Bf 0 1] []<|Rq [⟨some 1,.lst 1 [.c (.str ⟨#[45,62]⟩),.c (.str ⟨#[60,61]⟩),.c (.str ⟨#[62,61]⟩),.c (.str ⟨#[61,61]⟩),.c (.str ⟨#[33,61]⟩),.c (.str ⟨#[123]⟩),.c (.str ⟨#[125]⟩),.c (.str ⟨#[40]⟩),.c (.str ⟨#[41]⟩),.c (.str ⟨#[91]⟩),.c (.str ⟨#[93]⟩),.c (.str ⟨#[44]⟩),.c (.str ⟨#[59]⟩),.c (.str ⟨#[58]⟩),.c (.str ⟨#[61]⟩),.c (.str ⟨#[43]⟩),.c (.str ⟨#[45]⟩),.c (.str ⟨#[42]⟩),.c (.str ⟨#[60]⟩),.c (.str ⟨#[62]⟩),.c (.str ⟨#[33]⟩),.c (.str ⟨#[38]⟩),.c (.str ⟨#[124]⟩),.c (.str ⟨#[46]⟩),.c (.str ⟨#[63]⟩)],none⟩,Ay 0 1] [0]<|.ret) [.tmp 0]:= by decide +kernel
theorem c218  (r:(List ByteArray)) (h:ref01_signs =some r):Sound prog 218 [] (.own (lB r)):= by
 refine Fn ck218 fun hw=>?_
 unfold ref01_signs at h
 refine D<|F<|f0<|E (kn) fun _=>?_
 refine D<|F<|e1 (e:=eS) (l:=[(⟨#[45,62]⟩:ByteArray),(⟨#[60,61]⟩:ByteArray),(⟨#[62,61]⟩:ByteArray),(⟨#[61,61]⟩:ByteArray),(⟨#[33,61]⟩:ByteArray),(⟨#[123]⟩:ByteArray),(⟨#[125]⟩:ByteArray),(⟨#[40]⟩:ByteArray),(⟨#[41]⟩:ByteArray),(⟨#[91]⟩:ByteArray),(⟨#[93]⟩:ByteArray),(⟨#[44]⟩:ByteArray),(⟨#[59]⟩:ByteArray),(⟨#[58]⟩:ByteArray),(⟨#[61]⟩:ByteArray),(⟨#[43]⟩:ByteArray),(⟨#[45]⟩:ByteArray),(⟨#[42]⟩:ByteArray),(⟨#[60]⟩:ByteArray),(⟨#[62]⟩:ByteArray),(⟨#[33]⟩:ByteArray),(⟨#[38]⟩:ByteArray),(⟨#[124]⟩:ByteArray),(⟨#[46]⟩:ByteArray),(⟨#[63]⟩:ByteArray)]) rfl rfl (fun _=>rfl)<|f2 rfl<|E (ko<|kn) fun _=>?_
 exact L (by cases h;rfl)
theorem ck174:CK f174 (Rq [Fj 4 0 0,Ad 5 0,Ad 6 0] [0,1,4]<|Rq [Aa 14 0,Aa 15 1,⟨some 16,.sidx (.s 14) (.s 15),none⟩,Aa 7 16] [0,1,4,7]<|Sq (Rq [Aa 17 7,Au 18 214 17,Aa 19 18,Aw 20 7 19,Dm 21 215 20 19,As 22 19 21] [0,1,4,7,22]<|Co 22 (Rq [Aa 23 0,Aa 24 1,Aa 25 7,Au 26 215 25,Bg 27 216 23 24 26,Aa 8 27] [0,1,4,7,8]<|Rq [Ad 9 1,Ad 10 20] [0,1,4,7,8,9,10]<|Sq (Rq [Aa 28 7,Au 29 215 28] [0,1,4,8,9,10,29]<|Co 29 (Re [Ad 9 2,Ad 10 9] [0,1,4,8,9,10])<|Sk [0,1,4,8,9,10])<|Sq (Rq [Aa 30 8,Aa 31 10,⟨some 32,.bin (.i) .gtr (.s 30) (.s 31),none⟩] [0,1,4,8,9,32]<|Co 32 (Rq [Eg 33 0 0,Aj 3 4 33,Ad 5 0,Ad 6 3] [4,5,6]<|.ret)<|Sk [0,1,4,8,9])<|Rq [Aa 34 9,Aa 35 0,Aa 36 1,Aa 37 1,Aa 38 8,Bn 39 37 38,⟨some 40,.sslc (.s 35) (some (.s 36)) (some (.s 39)),none⟩,⟨some 41,.bld [.int .i64 0,.str ⟨#[]⟩,.int .i64 0] [(0,1,.s 34),(1,1,.s 40)],none⟩,Aa 42 8,Aj 3 4 41,Aa 5 42,Ad 6 0] [4,5,6]<|.ret)<|Sk [0,1,4,7])<|Sq (Rq [Aa 43 7,El 44 43 34] [0,1,4,44]<|Co 44 (Rq [Aa 45 0,Aa 46 1,Al 47 217 45 46,Aa 11 47] [0,1,4,11]<|Sq (Rq [Aa 48 11,Be 49 48 0] [0,1,4,11,49]<|Co 49 (Rq [Eg 50 0 0,Aj 3 4 50,Ad 5 0,Ad 6 2] [4,5,6]<|.ret)<|Sk [0,1,4,11])<|Sq (Rq [Aa 51 11,Dc 52 51 2,Bk 53 52 60] [0,1,4,11,53]<|Co 53 (Rq [Eg 54 0 0,Aj 3 4 54,Ad 5 0,Ad 6 3] [4,5,6]<|.ret)<|Sk [0,1,4,11])<|Rq [Aa 55 0,Aa 56 1,An 57 56 1,Aa 58 1,Aa 59 11,Bn 60 58 59,Dc 61 60 1,⟨some 62,.sslc (.s 55) (some (.s 57)) (some (.s 61)),none⟩,Dv 63 0 0 0 1 3 1 1 62,Aa 64 11,Aj 3 4 63,Aa 5 64,Ad 6 0] [4,5,6]<|.ret)<|Sk [0,1,4])<|Rq [Cx 65 218,Ay 12 65] [0,1,4,12]<|Sq (Rq [Ad 13 0] [0,1,4,12,13]<|Bl 0<|Lo [0,1,4,12,13]<|Sq (Rq [Aa 66 13,Aa 67 12,Ah 68 67,Ap 69 66 68] [0,1,4,12,13,69]<|Co 69 (Sk [0,1,4,12,13])<|Ex 0 [4])<|Sq (Bl 1<|Sq (Dr [72,73,74,75,76,77,78,79,80,81,82,83,84,85,86,87,88,89,90,91,92,93,94,95,96,97,98] [Aa 72 1,Aa 73 12,Aa 74 13,Ag 75 73 74 1,Ab 76 75,Ct 77 76,Bn 78 72 77,Aa 79 0,Ct 80 79,⟨some 81,.bin (.i) .leq (.s 78) (.s 80),none⟩,Aa 82 81,Aq 83 0 82,Aq 84 1 82,Aq 85 1 82,Aq 86 12 82,Aq 87 13 82,Cb 88 86 87 1 82,Ax 89 88 82,Em 90 89 82,Ef 91 85 90 82,⟨some 92,.sslc (.s 83) (some (.s 84)) (some (.s 91)),some (82,true)⟩,Aq 93 12 82,Aq 94 13 82,Cb 95 93 94 1 82,Ax 96 95 82,⟨some 97,.bin (.s) .eql (.s 92) (.s 96),some (82,true)⟩,At 98 82 97] [0,1,4,12,13,98])<|Co 98 (Sq (Dr [4,5,6,99,100,101,102,103,104,105,106,107,108] [Aa 99 12,Aa 100 13,Ag 101 99 100 1,Ab 102 101,Dv 103 0 0 0 1 4 1 1 102,Aa 104 12,Aa 105 13,Ag 106 104 105 1,Ab 107 106,Ct 108 107,Aj 3 4 103,Aa 5 108,Ad 6 0] [4,5,6])<|.ret)<|Sk [0,1,4,12,13])<|Re [Aa 70 13,An 71 70 1,Aa 13 71] [0,1,4,12,13])<|Rq [Eg 109 0 0,Aj 3 4 109,Ad 5 0,Ad 6 2] [4,5,6]<|.ret) [.cell 4 (some 3),.tmp 5,.tmp 6]:= by decide +kernel
theorem c174 (s_0:ByteArray) (at':Int) (r:(Token × Int × Int)) (h:ref01_one s_0 at'=some r):Sound prog 174 [eS s_0,eI at'] (.tp [eToken r.1,eI r.2.1,eI r.2.2]):= by
 refine Fn ck174 fun hw=>?_
 unfold ref01_one at h
 refine D<|F<|b1 rfl<|C rfl<|C rfl<|E (kt<|kt<|kb<|kn) fun _=>?_
 refine D<|F<|C rfl<|C rfl ?_
 obtain ⟨x16,hx16,h⟩:=I h
 refine l6 rfl rfl hx16<|C rfl<|E (kt<|kt<|kb<|kt<|kn) fun _=>?_
 refine D<|D<|F<|C rfl ?_
 obtain ⟨x18,hx18,h⟩:=I h
 refine T rfl (c214 x16 _ hx18)<|C rfl ?_
 obtain ⟨x22,hx22,h⟩:=I h
 refine gX 3 [20,21] 22 x22 x18 (fun hg22=>?_) (fun hg22=>?_) ?_
 ·replace h:=M hg22 hx22
  cases h
  refine H rfl hg22<|H rfl hg22<|Y rfl hg22 rfl ?_
  exact ⟨⟨_,_,rfl⟩⟩
 ·replace h:=O hg22 hx22
  refine G rfl hg22<|C rfl ?_
  obtain ⟨x21,hx21,h⟩:=I h
  refine G rfl hg22<|T rfl (c215 x16 _ hx21) ?_
  cases h
  refine Z rfl hg22 rfl ?_
  exact ⟨⟨_,_,rfl⟩⟩
 rintro _ ⟨_,_,rfl⟩
 refine E (kt<|kt<|kb<|kt<|kt<|kn) fun _=>?_
 refine S rfl (fun hc22=>?_) (fun hc22=>?_)
 ·replace h:=M hc22 h
  refine D<|F<|C rfl<|C rfl<|C rfl ?_
  obtain ⟨x26,hx26,h⟩:=I h
  refine T rfl (c215 x16 _ hx26) ?_
  obtain ⟨x27,hx27,h⟩:=I h
  refine T rfl (c216 s_0 at' x26 _ hx27)<|C rfl<|E (kt<|kt<|kb<|kt<|kt<|kn) fun _=>?_
  refine D<|F<|C rfl<|C rfl<|E (kt<|kt<|kb<|kt<|kt<|kt<|kt<|kn) fun _=>?_
  refine D<|D<|F<|C rfl ?_
  obtain ⟨x29,hx29,h⟩:=I h
  refine T rfl (c215 x16 _ hx29)<|E (kt<|kt<|kb<|kt<|kt<|kt<|kt<|kn) fun _=>?_
  obtain ⟨w1,hw1,h⟩:=I h
  refine l0 (fun ze=>ze=[(0,.tv (eS s_0)),(1,.tv (eI at')),(4,.bx [⟨false,eI 0⟩,⟨false,eS (⟨#[]⟩:ByteArray)⟩,⟨false,eI 0⟩]),(8,.tv (eI x27)),(9,.tv (eI w1.1)),(10,.tv (eI w1.2))]) ?_ ?_
  ·replace h:=hw1
   clear hw1
   refine S rfl (fun hc29=>?_) (fun hc29=>?_)
   ·replace h:=M hc29 h
    refine F<|C rfl<|C rfl<|E (kt<|kt<|kb<|kt<|kt<|kt<|kn) ?_
    cases h
    exact rfl
   ·replace h:=O hc29 h
    refine P (kt<|kt<|kb<|kt<|kt<|kt<|kn) ?_
    cases h
    exact rfl
  rintro _ rfl
  intro _
  refine D<|D<|F<|C rfl<|C rfl<|e4 rfl rfl<|E (kt<|kt<|kb<|kt<|kt<|kt<|kn) fun _=>?_
  refine S rfl (fun hc32=>?_) (fun hc32=>?_)
  ·replace h:=M hc32 h
   refine D<|F<|e8 rfl rfl (show _=eToken (Token.mk 0 (⟨#[]⟩:ByteArray) 0) from rfl)<|a8 rfl rfl rfl rfl rfl<|C rfl<|C rfl<|E (kb<|kt<|kt<|kn) fun _=>?_
   refine L ?_
   cases h
   exact ⟨by decide,rfl⟩
  ·replace h:=O hc32 h
   refine P (kt<|kt<|kb<|kt<|kt<|kn) fun _=>?_
   refine D<|F<|C rfl<|C rfl<|C rfl<|C rfl<|C rfl<|a7 rfl rfl ?_
   obtain ⟨x40,hx40,h⟩:=I h
   refine l9 rfl rfl rfl hx40<|e8 rfl rfl (show _=eToken (Token.mk w1.1 x40 0) from rfl)<|C rfl<|a8 rfl rfl rfl rfl rfl<|C rfl<|C rfl<|E (kb<|kt<|kt<|kn) fun _=>?_
   refine L ?_
   cases h
   exact ⟨by decide,rfl⟩
 ·replace h:=O hc22 h
  refine P (kt<|kt<|kb<|kt<|kn) fun _=>?_
  refine D<|D<|F<|C rfl<|d1 rfl rfl<|E (kt<|kt<|kb<|kt<|kn) fun _=>?_
  refine S rfl (fun hc44=>?_) (fun hc44=>?_)
  ·replace h:=M hc44 h
   refine D<|F<|C rfl<|C rfl ?_
   obtain ⟨x47,hx47,h⟩:=I h
   refine T rfl (c217 s_0 at' _ hx47)<|C rfl<|E (kt<|kt<|kb<|kt<|kn) fun _=>?_
   refine D<|D<|F<|C rfl<|d1 rfl rfl<|E (kt<|kt<|kb<|kt<|kt<|kn) fun _=>?_
   refine S rfl (fun hc49=>?_) (fun hc49=>?_)
   ·replace h:=M hc49 h
    refine D<|F<|e8 rfl rfl (show _=eToken (Token.mk 0 (⟨#[]⟩:ByteArray) 0) from rfl)<|a8 rfl rfl rfl rfl rfl<|C rfl<|C rfl<|E (kb<|kt<|kt<|kn) fun _=>?_
    refine L ?_
    cases h
    exact ⟨by decide,rfl⟩
   ·replace h:=O hc49 h
    refine P (kt<|kt<|kb<|kt<|kn) fun _=>?_
    refine D<|D<|F<|C rfl<|g4 rfl rfl<|e4 rfl rfl<|E (kt<|kt<|kb<|kt<|kt<|kn) fun _=>?_
    refine S rfl (fun hc53=>?_) (fun hc53=>?_)
    ·replace h:=M hc53 h
     refine D<|F<|e8 rfl rfl (show _=eToken (Token.mk 0 (⟨#[]⟩:ByteArray) 0) from rfl)<|a8 rfl rfl rfl rfl rfl<|C rfl<|C rfl<|E (kb<|kt<|kt<|kn) fun _=>?_
     refine L ?_
     cases h
     exact ⟨by decide,rfl⟩
    ·replace h:=O hc53 h
     refine P (kt<|kt<|kb<|kt<|kn) fun _=>?_
     refine D<|F<|C rfl<|C rfl<|a7 rfl rfl<|C rfl<|C rfl<|a7 rfl rfl<|g4 rfl rfl ?_
     obtain ⟨x62,hx62,h⟩:=I h
     refine l9 rfl rfl rfl hx62<|e8 rfl rfl (show _=eToken (Token.mk 3 x62 0) from rfl)<|C rfl<|a8 rfl rfl rfl rfl rfl<|C rfl<|C rfl<|E (kb<|kt<|kt<|kn) fun _=>?_
     refine L ?_
     cases h
     exact ⟨by decide,rfl⟩
  ·replace h:=O hc44 h
   refine P (kt<|kt<|kb<|kn) fun _=>?_
   refine D<|F ?_
   obtain ⟨x65,hx65,h⟩:=I h
   refine g6 rfl (c218  _ hx65)<|f2 rfl<|E (kt<|kt<|kb<|ko<|kn) fun _=>?_
   refine D<|D<|F<|C rfl<|E (kt<|kt<|kb<|ko<|kt<|kn) fun _=>?_
   obtain ⟨o0,ho0,h⟩:=d2 h
   refine d6 ho0 (fun (i0:Int) (s0:Token)=>[(0,.tv (eS s_0)),(1,.tv (eI at')),(4,.bx [⟨false,eI s0.Kind⟩,⟨false,eS s0.Text⟩,⟨false,eI s0.Line⟩]),(12,.ow (lB x65)),(13,.tv (eI i0))]) (fun (s0:Token)=>[(4,.bx [⟨false,eI s0.Kind⟩,⟨false,eS s0.Text⟩,⟨false,eI s0.Line⟩])]) (fun zv ze=>resIs ([.cell 4 (some 3),.tmp 5,.tmp 6]) (.tp [eToken zv.1,eI zv.2.1,eI zv.2.2]) ze) rfl ?_ ?_ ?_ ?_
   ·clear h ho0
    intro i0 s0 r0 hi0 h hw0
    refine D<|D<|F<|C rfl<|C rfl<|U rfl rfl<|V rfl rfl<|E (kt<|kt<|kb<|ko<|kt<|kt<|kn) fun _=>?_
    refine b5 rfl (b6 hi0)<|P (kt<|kt<|kb<|ko<|kt<|kn) fun _=>?_
    refine D<|b0<|D<|b9 rfl<|C rfl<|C rfl<|C rfl ?_
    obtain ⟨x75,hx75,h⟩:=I h
    refine W rfl rfl rfl hx75 rfl<|J rfl<|g7 rfl<|a7 rfl rfl<|C rfl<|g7 rfl<|f4 rfl rfl<|C rfl ?_
    obtain ⟨x98,hx98,h⟩:=I h
    refine gX 16 [83,84,85,86,87,88,89,90,91,92,93,94,95,96,97] 98 x98 (decide ((w64 (at'+(x75.size:Int)))<=(s_0.size:Int))) (fun hg98=>?_) (fun hg98=>?_) ?_
    ·replace h:=M hg98 hx98
     refine G rfl hg98<|C rfl<|G rfl hg98<|C rfl<|G rfl hg98<|C rfl<|G rfl hg98<|C rfl<|G rfl hg98<|C rfl ?_
     obtain ⟨x88,hx88,h⟩:=I h
     refine G rfl hg98<|W rfl rfl rfl hx88 rfl<|G rfl hg98<|J rfl<|G rfl hg98<|g7 rfl<|G rfl hg98<|a7 rfl rfl ?_
     obtain ⟨x92,hx92,h⟩:=I h
     refine G rfl hg98<|l9 rfl rfl rfl hx92<|G rfl hg98<|C rfl<|G rfl hg98<|C rfl ?_
     obtain ⟨x95,hx95,h⟩:=I h
     refine G rfl hg98<|W rfl rfl rfl hx95 rfl<|G rfl hg98<|J rfl<|G rfl hg98<|g8 rfl rfl ?_
     cases h
     refine Y rfl hg98 rfl ?_
     exact ⟨⟨_,_,_,_,_,_,_,_,_,_,_,_,_,_,_,rfl⟩⟩
    ·replace h:=O hg98 hx98
     cases h
     refine H rfl hg98<|H rfl hg98<|H rfl hg98<|H rfl hg98<|H rfl hg98<|H rfl hg98<|H rfl hg98<|H rfl hg98<|H rfl hg98<|H rfl hg98<|H rfl hg98<|H rfl hg98<|H rfl hg98<|H rfl hg98<|H rfl hg98<|Z rfl hg98 rfl ?_
     exact ⟨⟨_,_,_,_,_,_,_,_,_,_,_,_,_,_,_,rfl⟩⟩
    rintro _ ⟨_,_,_,_,_,_,_,_,_,_,_,_,_,_,_,rfl⟩
    refine E (kt<|kt<|kb<|ko<|kt<|kt<|kn) fun _=>?_
    refine S rfl (fun hc98=>?_) (fun hc98=>?_)
    ·replace h:=M hc98 h
     refine D<|b9 rfl<|C rfl<|C rfl ?_
     obtain ⟨x101,hx101,h⟩:=I h
     refine W rfl rfl rfl hx101 rfl<|J rfl<|e8 rfl rfl (show _=eToken (Token.mk 4 x101 0) from rfl)<|C rfl<|C rfl ?_
     obtain ⟨x106,hx106,h⟩:=I h
     refine W rfl rfl rfl hx106 rfl<|J rfl<|g7 rfl<|a8 rfl rfl rfl rfl rfl<|C rfl<|C rfl<|E (kb<|kt<|kt<|kn) fun _=>?_
     refine L ?_
     cases h
     exact ⟨_,rfl,⟨by decide,rfl⟩⟩
    ·replace h:=O hc98 h
     refine P (kt<|kt<|kb<|ko<|kt<|kn) fun _=>?_
     refine F<|C rfl<|a7 rfl rfl<|C rfl<|E (kt<|kt<|kb<|ko<|kt<|kn) ?_
     cases h
     refine ⟨_,rfl,?_⟩
     rw [Ktv rfl (Ktv rfl (Kbx rfl (Kow rfl (Ktv rfl (Knil _)))))]
     rw [b4 (a5 (hw0 13)) hi0 (e9 (m2 (hw0 12)) rfl)]
     all_goals rfl
   ·intro i0 s0 hi0
    refine D<|D<|F<|C rfl<|C rfl<|U rfl rfl<|V rfl rfl<|E (kt<|kt<|kb<|ko<|kt<|kt<|kn) fun _=>?_
    refine b7 rfl (b8 hi0)<|b3 (kb<|kn) ?_
    exact ⟨rfl,rfl⟩
   ·intro s0 hs
    replace h:=d3 h hs
    intro _
    refine D<|F<|e8 rfl rfl (show _=eToken (Token.mk 0 (⟨#[]⟩:ByteArray) 0) from rfl)<|a8 rfl rfl rfl rfl rfl<|C rfl<|C rfl<|E (kb<|kt<|kt<|kn) fun _=>?_
    refine L ?_
    cases h
    exact ⟨by decide,rfl⟩
   ·intro v0 ze hv hR
    replace h:=d4 h hv
    cases h
    exact hR
theorem ck126:CK f126 (Rq [Af 1 0,Ak 2] [1]<|Rq [Ae 7 1 3,Au 8 173 7,Aa 3 8] [1,3]<|Sq (Rq [Aa 9 3,⟨some 10,.bin (.s) .eql (.s 9) (.c (.str ⟨#[]⟩)),none⟩] [1,3,10]<|Co 10 (Rq [Ak 2] [2]<|.ret)<|Sk [1,3])<|Rq [Aa 12 3,Ep 13 174 12 0,Aa 11 13,Am 14 11 0,Am 15 11 1,Am 16 11 2,Fj 4 0 0,Aj 3 4 14,Aa 5 15,Aa 6 16] [1,3,4,5,6]<|Rq [Aa 17 6,Be 18 17 0,Aa 19 18,Aq 20 5 19,Aq 21 3 19,Em 22 21 19,Cl 23 20 22 19,At 24 19 23,Aa 25 24,Ba 26 4 0 25,Ax 27 26 25,Ba 28 1 0 25,Ax 29 28 25,Cl 30 27 29 25,At 31 25 30,Aa 2 31] [2]<|.ret) [.tmp 2]:= by decide +kernel
theorem c126 (t:Token) (r:Bool) (h:ref01_Right t=some r):Sound prog 126 [eToken t] (.sh (eB r)):= by
 refine Fn ck126 fun hw=>?_
 unfold ref01_Right at h
 refine D<|F<|a4 rfl rfl<|C rfl<|E (kt<|kn) fun _=>?_
 refine D<|F<|R rfl rfl (show _=eToken t from rfl) ?_
 obtain ⟨x8,hx8,h⟩:=I h
 refine T rfl (c173 t _ hx8)<|C rfl<|E (kt<|kt<|kn) fun _=>?_
 refine D<|D<|F<|C rfl<|g8 rfl rfl<|E (kt<|kt<|kt<|kn) fun _=>?_
 refine S rfl (fun hc10=>?_) (fun hc10=>?_)
 ·replace h:=M hc10 h
  refine D<|F<|C rfl<|E (kt<|kn) fun _=>?_
  exact L (by cases h;rfl)
 ·replace h:=O hc10 h
  refine P (kt<|kt<|kn) fun _=>?_
  refine D<|F<|C rfl ?_
  obtain ⟨x13,hx13,h⟩:=I h
  refine e5 rfl (c174 x8 0 _ hx13)<|e6 rfl<|b2 rfl rfl<|b2 rfl rfl<|b2 rfl rfl<|b1 rfl<|a8 rfl rfl rfl rfl rfl<|C rfl<|C rfl<|E (kt<|kt<|kb<|kt<|kt<|kn) fun _=>?_
  refine D<|F<|C rfl<|d1 rfl rfl<|C rfl ?_
  refine gA 5 [20,21,22,23] 24 (decide (x13.2.2=0)) (decide (x13.2.1=(x8.size:Int))) (fun hg24=>?_) (fun hg24=>?_) ?_
  ·refine G rfl hg24<|C rfl<|G rfl hg24<|C rfl<|G rfl hg24<|g7 rfl<|G rfl hg24<|d1 rfl rfl<|Y rfl hg24 rfl ?_
   exact ⟨⟨_,_,_,_,rfl⟩⟩
  ·refine H rfl hg24<|H rfl hg24<|H rfl hg24<|H rfl hg24<|Z rfl hg24 rfl ?_
   exact ⟨⟨_,_,_,_,rfl⟩⟩
  rintro _ ⟨_,_,_,_,rfl⟩
  refine C rfl ?_
  refine gA 6 [26,27,28,29,30] 31 ((decide (x13.2.2=0))&&(decide (x13.2.1=(x8.size:Int)))) (decide (x13.1.Kind=t.Kind)) (fun hg31=>?_) (fun hg31=>?_) ?_
  ·refine G rfl hg31<|a3 rfl<|G rfl hg31<|J rfl<|G rfl hg31<|K rfl<|G rfl hg31<|J rfl<|G rfl hg31<|d1 rfl rfl<|Y rfl hg31 rfl ?_
   exact ⟨⟨_,_,_,_,_,rfl⟩⟩
  ·refine H rfl hg31<|H rfl hg31<|H rfl hg31<|H rfl hg31<|H rfl hg31<|Z rfl hg31 rfl ?_
   exact ⟨⟨_,_,_,_,_,rfl⟩⟩
  rintro _ ⟨_,_,_,_,_,rfl⟩
  refine C rfl<|E (kt<|kn) fun _=>?_
  exact L (by cases h;rfl)
theorem ck75:CK f75 (Rq [Ak 2] [0]<|Rq [Aa 3 0,Dv 4 0 0 0 1 1 1 1 3,Au 5 126 4,Aa 2 5] [2]<|.ret) [.tmp 2]:= by decide +kernel
theorem c75 (s_0:ByteArray) (r:Bool) (h:ref01_IsName s_0=some r):Sound prog 75 [eS s_0] (.sh (eB r)):= by
 refine Fn ck75 fun hw=>?_
 unfold ref01_IsName at h
 refine D<|F<|C rfl<|E (kt<|kn) fun _=>?_
 refine D<|F<|C rfl<|e8 rfl rfl (show _=eToken (Token.mk 1 s_0 0) from rfl) ?_
 obtain ⟨x5,hx5,h⟩:=I h
 refine T rfl (c126 (Token.mk 1 s_0 0) _ hx5)<|C rfl<|E (kt<|kn) fun _=>?_
 exact L (by cases h;rfl)
theorem ck119:CK f119 (Rq [Ak 6] [0,1,2]<|Rq [Aa 7 0,Aa 8 1,Df 9 7 8,Aa 10 9,Aq 11 0 10,Aq 12 2 10,Dd 13 11 12 10,At 14 10 13,Aa 6 14] [6]<|.ret) [.tmp 6]:= by decide +kernel
theorem c119 (n:Int) (low:Int) (high:Int) (r:Bool) (h:ref04_in n low high=some r):Sound prog 119 [eI n,eI low,eI high] (.sh (eB r)):= by
 refine Fn ck119 fun hw=>?_
 unfold ref04_in at h
 refine D<|F<|C rfl<|E (kt<|kt<|kt<|kn) fun _=>?_
 refine D<|F<|C rfl<|C rfl<|d5 rfl rfl<|C rfl ?_
 refine gA 4 [11,12,13] 14 (decide (low<=n)) (decide (n<=high)) (fun hg14=>?_) (fun hg14=>?_) ?_
 ·refine G rfl hg14<|C rfl<|G rfl hg14<|C rfl<|G rfl hg14<|f4 rfl rfl<|Y rfl hg14 rfl ?_
  exact ⟨⟨_,_,_,rfl⟩⟩
 ·refine H rfl hg14<|H rfl hg14<|H rfl hg14<|Z rfl hg14 rfl ?_
  exact ⟨⟨_,_,_,rfl⟩⟩
 rintro _ ⟨_,_,_,rfl⟩
 refine C rfl<|E (kt<|kn) fun _=>?_
 exact L (by cases h;rfl)
theorem ck168:CK f168 (Rq [Af 2 0,Bf 4 4] [1,2]<|Sq (Rq [Aa 5 1,Bq 6 5 0] [1,2,6]<|Co 6 (Rq [Bf 4 4] [4]<|.ret)<|Sk [1,2])<|Sq (Dr [4,7,8,9,10,11,12,13,14,15,16,17,18,19,20,21,22,23] [Cj 7 4,Ae 8 2 2,Ac 9 2 0,Ab 10 9,Aa 11 1,Ag 12 10 11 4,Ai 13 12 1,Ab 14 13,Al 15 168 8 14,Bb 16 4 7 15,Ac 17 2 0,Ab 18 17,Aa 19 1,Ag 20 18 19 4,Ai 21 20 3,Ab 22 21,Bb 23 4 16 22,Ay 4 23] [4])<|.ret) [.tmp 4]:= by decide +kernel
theorem c168S (n:Nat) (ih_168:∀ (t:Types) (a:Int) (r:(List Attr)) (_:ref04_attrsF n t a=some r),Sound prog 168 [eTypes t,eI a] (.own (lA r))):∀ (t:Types) (a:Int) (r:(List Attr)) (_:ref04_attrsF (n+1) t a=some r),Sound prog 168 [eTypes t,eI a] (.own (lA r)):= by
 intro t a r h
 refine Fn ck168 fun hw=>?_
 unfold ref04_attrsF at h
 refine D<|F<|a4 rfl rfl<|f0<|E (kt<|kt<|kn) fun _=>?_
 refine D<|D<|F<|C rfl<|V rfl rfl<|E (kt<|kt<|kt<|kn) fun _=>?_
 refine S rfl (fun hc6=>?_) (fun hc6=>?_)
 ·replace h:=M hc6 h
  refine D<|F<|f0<|E (ko<|kn) fun _=>?_
  exact L (by cases h;rfl)
 ·replace h:=O hc6 h
  refine P (kt<|kt<|kn) fun _=>?_
  refine D<|b9 rfl<|e1 (e:=eAttr) (l:=[]) rfl rfl (fun _=>rfl)<|R rfl rfl (show _=eTypes t from rfl)<|K rfl<|J rfl<|C rfl ?_
  obtain ⟨x12,hx12,h⟩:=I h
  refine W rfl rfl rfl hx12 rfl<|a6 rfl<|J rfl ?_
  obtain ⟨x15,hx15,h⟩:=I h
  refine g6 rfl (ih_168 t x12.Parent _ hx15) ?_
  obtain ⟨x16,hx16,h⟩:=I h
  refine e7 rfl rfl rfl rfl hx16 rfl<|K rfl<|J rfl<|C rfl ?_
  obtain ⟨x20,hx20,h⟩:=I h
  refine W rfl rfl rfl hx20 rfl<|a6 rfl<|J rfl ?_
  obtain ⟨x23,hx23,h⟩:=I h
  refine e7 rfl rfl rfl rfl hx23 rfl<|f2 rfl<|E (ko<|kn) fun _=>?_
  exact L (by cases h;rfl)
theorem c168A:∀ n:Nat,(∀ (t:Types) (a:Int) (r:(List Attr)) (_:ref04_attrsF n t a=some r),Sound prog 168 [eTypes t,eI a] (.own (lA r))):=by
  intro n
  induction n with
  | zero=>intro t a r h; cases h
  | succ n ih=>exact c168S n ih
theorem c168 (t:Types) (a:Int) (r:(List Attr)) (h:ref04_attrs t a=some r):Sound prog 168 [eTypes t,eI a] (.own (lA r)):=by
  obtain ⟨N,hN⟩:=lim_some h
  exact (c168A N) t a r (hN N (Nat.le_refl _))
theorem ck213:CK f213 (Rq [Ad 2 0] [0]<|Sq (Rq [Aa 5 0,Ah 6 5,Bk 7 6 20] [0,7]<|Co 7 (Rq [Ad 2 3] [2]<|.ret)<|Sk [0])<|Sq (Rq [Ad 3 0] [0,3]<|Bl 0<|Lo [0,3]<|Sq (Rq [Aa 8 3,Aa 9 0,Ah 10 9,Ap 11 8 10] [0,3,11]<|Co 11 (Sk [0,3])<|Ex 0 [])<|Sq (Bl 1<|Sq (Rq [Aa 14 0,Aa 15 3,Ag 16 14 15 1,Ab 17 16,Au 18 75 17,Az 19 18] [0,3,19]<|Co 19 (Rq [Ad 2 2] [2]<|.ret)<|Sk [0,3])<|Rq [Ad 4 0] [0,3,4]<|Bl 2<|Lo [0,3,4]<|Sq (Rq [Aa 20 4,Aa 21 3,Ap 22 20 21] [0,3,4,22]<|Co 22 (Sk [0,3,4])<|Ex 2 [0,3])<|Sq (Bl 3<|Sq (Dr [25,26,27,28,29,30,31,32,33] [Aa 25 0,Aa 26 4,Ag 27 25 26 1,Ab 28 27,Aa 29 0,Aa 30 3,Ag 31 29 30 1,Ab 32 31,Cu 33 28 32] [0,3,4,33])<|Co 33 (Rq [Ad 2 5] [2]<|.ret)<|Sk [0,3,4])<|Re [Aa 23 4,An 24 23 1,Aa 4 24] [0,3,4])<|Re [Aa 12 3,An 13 12 1,Aa 3 13] [0,3])<|Rq [Ad 2 0] [2]<|.ret) [.tmp 2]:= by decide +kernel
theorem c213 (l:List ByteArray) (r:Int) (h:ref04_names l=some r):Sound prog 213 [lB l] (.sh (eI r)):= by
 refine Fn ck213 fun hw=>?_
 unfold ref04_names at h
 refine D<|F<|C rfl<|E (kt<|kn) fun _=>?_
 refine D<|D<|F<|C rfl<|U rfl rfl<|e4 rfl rfl<|E (kt<|kt<|kn) fun _=>?_
 refine S rfl (fun hc7=>?_) (fun hc7=>?_)
 ·replace h:=M hc7 h
  refine D<|F<|C rfl<|E (kt<|kn) fun _=>?_
  exact L (by cases h;rfl)
 ·replace h:=O hc7 h
  refine P (kt<|kn) fun _=>?_
  refine D<|D<|F<|C rfl<|E (kt<|kt<|kn) fun _=>?_
  obtain ⟨o0,ho0,h⟩:=d2 h
  refine d6 ho0 (fun (i0:Int) (_:Unit)=>[(0,.tv (lB l)),(3,.tv (eI i0))]) (fun (_:Unit)=>[]) (fun zv ze=>resIs ([.tmp 2]) (.sh (eI zv)) ze) rfl ?_ ?_ ?_ ?_
  ·clear h ho0
   intro i0 s0 r0 hi0 h hw0
   refine D<|D<|F<|C rfl<|C rfl<|U rfl rfl<|V rfl rfl<|E (kt<|kt<|kt<|kn) fun _=>?_
   refine b5 rfl (b6 hi0)<|P (kt<|kt<|kn) fun _=>?_
   refine D<|b0<|D<|D<|F<|C rfl<|C rfl ?_
   obtain ⟨x16,hx16,h⟩:=I h
   refine W rfl rfl rfl hx16 rfl<|J rfl ?_
   obtain ⟨x18,hx18,h⟩:=I h
   refine T rfl (c75 x16 _ hx18)<|d0 rfl<|E (kt<|kt<|kt<|kn) fun _=>?_
   refine S rfl (fun hc19=>?_) (fun hc19=>?_)
   ·replace h:=M hc19 h
    refine D<|F<|C rfl<|E (kt<|kn) fun _=>?_
    refine L ?_
    cases h
    exact ⟨_,rfl,rfl⟩
   ·replace h:=O hc19 h
    refine P (kt<|kt<|kn) fun _=>?_
    refine D<|F<|C rfl<|E (kt<|kt<|kt<|kn) fun _=>?_
    obtain ⟨o2,ho2,h⟩:=d2 h
    refine d6 ho2 (fun (i2:Int) (_:Unit)=>[(0,.tv (lB l)),(3,.tv (eI i0)),(4,.tv (eI i2))]) (fun (_:Unit)=>[(0,.tv (lB l)),(3,.tv (eI i0))]) (fun zv ze=>resIs ([.tmp 2]) (.sh (eI zv)) ze) rfl ?_ ?_ ?_ ?_
    ·clear h ho2
     intro i2 s2 r2 hi2 h hw2
     refine D<|D<|F<|C rfl<|C rfl<|V rfl rfl<|E (kt<|kt<|kt<|kt<|kn) fun _=>?_
     refine b5 rfl (b6 hi2)<|P (kt<|kt<|kt<|kn) fun _=>?_
     refine D<|b0<|D<|b9 rfl<|C rfl<|C rfl ?_
     obtain ⟨x27,hx27,h⟩:=I h
     refine W rfl rfl rfl hx27 rfl<|J rfl<|C rfl<|C rfl ?_
     obtain ⟨x31,hx31,h⟩:=I h
     refine W rfl rfl rfl hx31 rfl<|J rfl<|g8 rfl rfl<|E (kt<|kt<|kt<|kt<|kn) fun _=>?_
     refine S rfl (fun hc33=>?_) (fun hc33=>?_)
     ·replace h:=M hc33 h
      refine D<|F<|C rfl<|E (kt<|kn) fun _=>?_
      refine L ?_
      cases h
      exact ⟨_,rfl,rfl⟩
     ·replace h:=O hc33 h
      refine P (kt<|kt<|kt<|kn) fun _=>?_
      refine F<|C rfl<|a7 rfl rfl<|C rfl<|E (kt<|kt<|kt<|kn) ?_
      cases h
      refine ⟨_,rfl,?_⟩
      rw [Ktv rfl (Ktv rfl (Ktv rfl (Knil _)))]
      rw [b4 (a5 (hw2 4)) hi2 (e0 (a5 (hw2 3)))]
      all_goals rfl
    ·intro i2 s2 hi2
     refine D<|D<|F<|C rfl<|C rfl<|V rfl rfl<|E (kt<|kt<|kt<|kt<|kn) fun _=>?_
     refine b7 rfl (b8 hi2)<|b3 (kt<|kt<|kn) ?_
     exact ⟨rfl,rfl⟩
    ·intro s2 hs
     replace h:=d3 h hs
     intro _
     refine F<|C rfl<|a7 rfl rfl<|C rfl<|E (kt<|kt<|kn) ?_
     cases h
     refine ⟨_,rfl,?_⟩
     rw [Ktv rfl (Ktv rfl (Knil _))]
     rw [b4 (a5 (hw0 3)) hi0 (e9 (a5 (hw0 0)) rfl)]
     all_goals rfl
    ·intro v2 ze hv hR
     replace h:=d4 h hv
     cases h
     exact ⟨_,rfl,hR⟩
  ·intro i0 s0 hi0
   refine D<|D<|F<|C rfl<|C rfl<|U rfl rfl<|V rfl rfl<|E (kt<|kt<|kt<|kn) fun _=>?_
   refine b7 rfl (b8 hi0)<|b3 (kn) ?_
   exact ⟨rfl,rfl⟩
  ·intro s0 hs
   replace h:=d3 h hs
   intro _
   refine D<|F<|C rfl<|E (kt<|kn) fun _=>?_
   exact L (by cases h;rfl)
  ·intro v0 ze hv hR
   replace h:=d4 h hv
   cases h
   exact hR
theorem ck171:CK f171 (Rq [Af 1 0,Ad 2 0] [1]<|Sq (Rq [Ac 4 1 3,Ab 5 4,Ah 6 5,Be 7 6 0] [1,7]<|Co 7 (Sq (Rq [Ac 8 1 1,Ab 9 8,⟨some 10,.call 119 [.s 9,.c (.int .i64 (-1000000)),.c (.int .i64 1000000)],none⟩,Az 11 10,Aa 12 11,Ar 13 1 2 12,Ao 14 13 12,Ar 15 1 1 12,Ao 16 15 12,Fk 17 119 14 16 1000000 12,Br 18 17 12,As 19 12 18] [19]<|Co 19 (Rq [Ad 2 6] [2]<|.ret)<|Sk [])<|Rq [Ad 2 0] [2]<|.ret)<|Sk [1])<|Sq (Rq [Ac 20 1 3,Ab 21 20,Au 22 213 21,Aa 3 22] [1,3]<|Rq [Aa 23 3,Av 24 23 0] [1,3,24]<|Co 24 (Rq [Aa 25 3,Aa 2 25] [2]<|.ret)<|Sk [1])<|Sq (Rq [Ac 26 1 1,Ab 27 26,Av 28 27 0,Aa 29 28,Ar 30 1 2 29,Ao 31 30 29,Ar 32 1 3 29,Ao 33 32 29,Bc 34 33 29,Ed 35 34 1 29,Cv 36 31 35 29,As 37 29 36] [37]<|Co 37 (Rq [Ad 2 6] [2]<|.ret)<|Sk [])<|Rq [Ad 2 0] [2]<|.ret) [.tmp 2]:= by decide +kernel
theorem c171 (a:Attr) (r:Int) (h:ref04_attribute a=some r):Sound prog 171 [eAttr a] (.sh (eI r)):= by
 refine Fn ck171 fun hw=>?_
 unfold ref04_attribute at h
 refine D<|F<|a4 rfl rfl<|C rfl<|E (kt<|kn) fun _=>?_
 refine D<|D<|F<|K rfl<|J rfl<|U rfl rfl<|d1 rfl rfl<|E (kt<|kt<|kn) fun _=>?_
 refine S rfl (fun hc7=>?_) (fun hc7=>?_)
 ·replace h:=M hc7 h
  refine D<|D<|F<|K rfl<|J rfl ?_
  obtain ⟨x10,hx10,h⟩:=I h
  refine T rfl (c119 a.Low (-1000000) 1000000 _ hx10)<|d0 rfl<|C rfl ?_
  obtain ⟨x19,hx19,h⟩:=I h
  refine gX 7 [13,14,15,16,17,18] 19 x19 (!x10) (fun hg19=>?_) (fun hg19=>?_) ?_
  ·replace h:=M hg19 hx19
   cases h
   refine H rfl hg19<|H rfl hg19<|H rfl hg19<|H rfl hg19<|H rfl hg19<|H rfl hg19<|Y rfl hg19 rfl ?_
   exact ⟨⟨_,_,_,_,_,_,rfl⟩⟩
  ·replace h:=O hg19 hx19
   refine G rfl hg19<|K rfl<|G rfl hg19<|J rfl<|G rfl hg19<|K rfl<|G rfl hg19<|J rfl ?_
   obtain ⟨x17,hx17,h⟩:=I h
   refine G rfl hg19<|T rfl (c119 a.High a.Low 1000000 _ hx17)<|G rfl hg19<|d0 rfl ?_
   cases h
   refine Z rfl hg19 rfl ?_
   exact ⟨⟨_,_,_,_,_,_,rfl⟩⟩
  rintro _ ⟨_,_,_,_,_,_,rfl⟩
  refine E (kt<|kn) fun _=>?_
  refine S rfl (fun hc19=>?_) (fun hc19=>?_)
  ·replace h:=M hc19 h
   refine D<|F<|C rfl<|E (kt<|kn) fun _=>?_
   exact L (by cases h;rfl)
  ·replace h:=O hc19 h
   refine P (kn) fun _=>?_
   refine D<|F<|C rfl<|E (kt<|kn) fun _=>?_
   exact L (by cases h;rfl)
 ·replace h:=O hc7 h
  refine P (kt<|kn) fun _=>?_
  refine D<|D<|F<|K rfl<|J rfl ?_
  obtain ⟨x22,hx22,h⟩:=I h
  refine T rfl (c213 a.Names _ hx22)<|C rfl<|E (kt<|kt<|kn) fun _=>?_
  refine D<|F<|C rfl<|a9 rfl rfl<|E (kt<|kt<|kt<|kn) fun _=>?_
  refine S rfl (fun hc24=>?_) (fun hc24=>?_)
  ·replace h:=M hc24 h
   refine D<|F<|C rfl<|C rfl<|E (kt<|kn) fun _=>?_
   exact L (by cases h;rfl)
  ·replace h:=O hc24 h
   refine P (kt<|kn) fun _=>?_
   refine D<|D<|F<|K rfl<|J rfl<|a9 rfl rfl<|C rfl ?_
   refine gO 8 [30,31,32,33,34,35,36] 37 (!decide (a.Low=0)) (!decide (a.High=(w64 ((a.Names.length:Int) - 1)))) (fun hg37=>?_) (fun hg37=>?_) ?_
   ·refine H rfl hg37<|H rfl hg37<|H rfl hg37<|H rfl hg37<|H rfl hg37<|H rfl hg37<|H rfl hg37<|Y rfl hg37 rfl ?_
    exact ⟨⟨_,_,_,_,_,_,_,rfl⟩⟩
   ·refine G rfl hg37<|K rfl<|G rfl hg37<|J rfl<|G rfl hg37<|K rfl<|G rfl hg37<|J rfl<|G rfl hg37<|U rfl rfl<|G rfl hg37<|g4 rfl rfl<|G rfl hg37<|a9 rfl rfl<|Z rfl hg37 rfl ?_
    exact ⟨⟨_,_,_,_,_,_,_,rfl⟩⟩
   rintro _ ⟨_,_,_,_,_,_,_,rfl⟩
   refine E (kt<|kn) fun _=>?_
   refine S rfl (fun hc37=>?_) (fun hc37=>?_)
   ·replace h:=M hc37 h
    refine D<|F<|C rfl<|E (kt<|kn) fun _=>?_
    exact L (by cases h;rfl)
   ·replace h:=O hc37 h
    refine P (kn) fun _=>?_
    refine D<|F<|C rfl<|E (kt<|kn) fun _=>?_
    exact L (by cases h;rfl)
theorem ck124:CK f124 (Rq [Af 2 0,Ad 4 0] [1,2]<|Rq [Ac 11 2 0,Ab 12 11,Aa 13 1,Ag 14 12 13 4,Ae 15 14 4,En 5 0 4,Aj 4 5 15] [1,2,5]<|Sq (Rq [Ac 16 5 0,Ab 17 16,Au 18 75 17,Az 19 18] [1,2,5,19]<|Co 19 (Rq [Ad 4 2] [4]<|.ret)<|Sk [1,2,5])<|Sq (Rq [Ad 6 0] [1,2,5,6]<|Bl 0<|Lo [1,2,5,6]<|Sq (Rq [Aa 20 6,Aa 21 1,Ap 22 20 21] [1,2,5,6,22]<|Co 22 (Sk [1,2,5,6])<|Ex 0 [1,2,5])<|Sq (Bl 1<|Sq (Dr [25,26,27,28,29,30,31,32,33] [Ac 25 2 0,Ab 26 25,Aa 27 6,Ag 28 26 27 4,Ai 29 28 0,Ab 30 29,Ac 31 5 0,Ab 32 31,Cu 33 30 32] [1,2,5,6,33])<|Co 33 (Rq [Ad 4 5] [4]<|.ret)<|Sk [1,2,5,6])<|Re [Aa 23 6,An 24 23 1,Aa 6 24] [1,2,5,6])<|Sq (Rq [Ac 34 5 1,Ab 35 34,Aa 36 1,Dc 37 36 1,⟨some 38,.call 119 [.s 35,.c (.int .i64 (-1)),.s 37],none⟩,Az 39 38] [1,2,5,39]<|Co 39 (Rq [Ad 4 6] [4]<|.ret)<|Sk [1,2,5])<|Rq [Ae 40 2 2,Aa 41 1,Al 42 168 40 41,Ay 7 42] [5,7]<|Sq (Rq [Ac 43 5 3,Ab 44 43,Ah 45 44,Bk 46 45 4,Aa 47 46,Aw 48 7 47,Bc 49 48 47,Bs 50 49 8 47,As 51 47 50] [5,7,51]<|Co 51 (Rq [Ad 4 3] [4]<|.ret)<|Sk [5,7])<|Sq (Rq [Aa 52 7,Ah 53 52,Ac 54 5 3,Ab 55 54,Ah 56 55,Eo 57 53 56,Aa 8 57] [7,8]<|Bl 2<|Lo [7,8]<|Sq (Rq [Aa 58 8,Aa 59 7,Ah 60 59,Ap 61 58 60] [7,8,61]<|Co 61 (Sk [7,8])<|Ex 2 [])<|Sq (Bl 3<|Sq (Rq [Aa 64 7,Aa 65 8,Ag 66 64 65 4,Ai 67 66 0,Ab 68 67,Au 69 75 68,Az 70 69] [7,8,70]<|Co 70 (Rq [Ad 4 2] [4]<|.ret)<|Sk [7,8])<|Sq (Rq [Ad 9 0] [7,8,9]<|Bl 4<|Lo [7,8,9]<|Sq (Rq [Aa 71 9,Aa 72 8,Ap 73 71 72] [7,8,9,73]<|Co 73 (Sk [7,8,9])<|Ex 4 [7,8])<|Sq (Bl 5<|Sq (Dr [76,77,78,79,80,81,82,83,84,85,86] [Aa 76 7,Aa 77 9,Ag 78 76 77 4,Ai 79 78 0,Ab 80 79,Aa 81 7,Aa 82 8,Ag 83 81 82 4,Ai 84 83 0,Ab 85 84,Cu 86 80 85] [7,8,9,86])<|Co 86 (Rq [Ad 4 5] [4]<|.ret)<|Sk [7,8,9])<|Re [Aa 74 9,An 75 74 1,Aa 9 75] [7,8,9])<|Rq [Aa 87 7,Aa 88 8,Ag 89 87 88 4,Ae 90 89 4,Au 91 171 90,Aa 10 91] [7,8,10]<|Rq [Aa 92 10,Av 93 92 0] [7,8,10,93]<|Co 93 (Rq [Aa 94 10,Aa 4 94] [4]<|.ret)<|Sk [7,8])<|Re [Aa 62 8,An 63 62 1,Aa 8 63] [7,8])<|Rq [Ad 4 0] [4]<|.ret) [.tmp 4]:= by decide +kernel
theorem c124 (t:Types) (i_1:Int) (r:Int) (h:ref04_node t i_1=some r):Sound prog 124 [eTypes t,eI i_1] (.sh (eI r)):= by
 refine Fn ck124 fun hw=>?_
 unfold ref04_node at h
 refine D<|F<|a4 rfl rfl<|C rfl<|E (kt<|kt<|kn) fun _=>?_
 refine D<|F<|K rfl<|J rfl<|C rfl ?_
 obtain ⟨x14,hx14,h⟩:=I h
 refine W rfl rfl rfl hx14 rfl<|R rfl rfl (show _=eNodeType x14 from rfl)<|b1 rfl<|a8 rfl rfl rfl rfl rfl<|E (kt<|kt<|kb<|kn) fun _=>?_
 refine D<|D<|F<|a3 rfl<|J rfl ?_
 obtain ⟨x18,hx18,h⟩:=I h
 refine T rfl (c75 x14.Name _ hx18)<|d0 rfl<|E (kt<|kt<|kb<|kt<|kn) fun _=>?_
 refine S rfl (fun hc19=>?_) (fun hc19=>?_)
 ·replace h:=M hc19 h
  refine D<|F<|C rfl<|E (kt<|kn) fun _=>?_
  exact L (by cases h;rfl)
 ·replace h:=O hc19 h
  refine P (kt<|kt<|kb<|kn) fun _=>?_
  refine D<|D<|F<|C rfl<|E (kt<|kt<|kb<|kt<|kn) fun _=>?_
  obtain ⟨o0,ho0,h⟩:=d2 h
  refine d6 ho0 (fun (i0:Int) (_:Unit)=>[(1,.tv (eI i_1)),(2,.tv (.pt (eTypes t).cells)),(5,.bx [⟨false,eS x14.Name⟩,⟨false,eI x14.Parent⟩,⟨false,eB x14.Abstract⟩,⟨false,lA x14.Attrs⟩]),(6,.tv (eI i0))]) (fun (_:Unit)=>[(1,.tv (eI i_1)),(2,.tv (.pt (eTypes t).cells)),(5,.bx [⟨false,eS x14.Name⟩,⟨false,eI x14.Parent⟩,⟨false,eB x14.Abstract⟩,⟨false,lA x14.Attrs⟩])]) (fun zv ze=>resIs ([.tmp 4]) (.sh (eI zv)) ze) rfl ?_ ?_ ?_ ?_
  ·clear h ho0
   intro i0 s0 r0 hi0 h hw0
   refine D<|D<|F<|C rfl<|C rfl<|V rfl rfl<|E (kt<|kt<|kb<|kt<|kt<|kn) fun _=>?_
   refine b5 rfl (b6 hi0)<|P (kt<|kt<|kb<|kt<|kn) fun _=>?_
   refine D<|b0<|D<|b9 rfl<|K rfl<|J rfl<|C rfl ?_
   obtain ⟨x28,hx28,h⟩:=I h
   refine W rfl rfl rfl hx28 rfl<|a6 rfl<|J rfl<|a3 rfl<|J rfl<|g8 rfl rfl<|E (kt<|kt<|kb<|kt<|kt<|kn) fun _=>?_
   refine S rfl (fun hc33=>?_) (fun hc33=>?_)
   ·replace h:=M hc33 h
    refine D<|F<|C rfl<|E (kt<|kn) fun _=>?_
    refine L ?_
    cases h
    exact ⟨_,rfl,rfl⟩
   ·replace h:=O hc33 h
    refine P (kt<|kt<|kb<|kt<|kn) fun _=>?_
    refine F<|C rfl<|a7 rfl rfl<|C rfl<|E (kt<|kt<|kb<|kt<|kn) ?_
    cases h
    refine ⟨_,rfl,?_⟩
    rw [Ktv rfl (Ktv rfl (Kbx rfl (Ktv rfl (Knil _))))]
    rw [b4 (a5 (hw0 6)) hi0 (e0 (a5 (hw0 1)))]
    all_goals rfl
  ·intro i0 s0 hi0
   refine D<|D<|F<|C rfl<|C rfl<|V rfl rfl<|E (kt<|kt<|kb<|kt<|kt<|kn) fun _=>?_
   refine b7 rfl (b8 hi0)<|b3 (kt<|kt<|kb<|kn) ?_
   exact ⟨rfl,rfl⟩
  ·intro s0 hs
   replace h:=d3 h hs
   intro _
   refine D<|D<|F<|a3 rfl<|J rfl<|C rfl<|g4 rfl rfl ?_
   obtain ⟨x38,hx38,h⟩:=I h
   refine T rfl (c119 x14.Parent (-1) (w64 (i_1 - 1)) _ hx38)<|d0 rfl<|E (kt<|kt<|kb<|kt<|kn) fun _=>?_
   refine S rfl (fun hc39=>?_) (fun hc39=>?_)
   ·replace h:=M hc39 h
    refine D<|F<|C rfl<|E (kt<|kn) fun _=>?_
    exact L (by cases h;rfl)
   ·replace h:=O hc39 h
    refine P (kt<|kt<|kb<|kn) fun _=>?_
    refine D<|F<|R rfl rfl (show _=eTypes t from rfl)<|C rfl ?_
    obtain ⟨x42,hx42,h⟩:=I h
    refine g6 rfl (c168 t i_1 _ hx42)<|f2 rfl<|E (kb<|ko<|kn) fun _=>?_
    refine D<|D<|F<|a3 rfl<|J rfl<|U rfl rfl<|e4 rfl rfl<|C rfl ?_
    refine gO 4 [48,49,50] 51 (decide (4<(x14.Attrs.length:Int))) (decide (8<(x42.length:Int))) (fun hg51=>?_) (fun hg51=>?_) ?_
    ·refine H rfl hg51<|H rfl hg51<|H rfl hg51<|Y rfl hg51 rfl ?_
     exact ⟨⟨_,_,_,rfl⟩⟩
    ·refine G rfl hg51<|C rfl<|G rfl hg51<|U rfl rfl<|G rfl hg51<|e4 rfl rfl<|Z rfl hg51 rfl ?_
     exact ⟨⟨_,_,_,rfl⟩⟩
    rintro _ ⟨_,_,_,rfl⟩
    refine E (kb<|ko<|kt<|kn) fun _=>?_
    refine S rfl (fun hc51=>?_) (fun hc51=>?_)
    ·replace h:=M hc51 h
     refine D<|F<|C rfl<|E (kt<|kn) fun _=>?_
     exact L (by cases h;rfl)
    ·replace h:=O hc51 h
     refine P (kb<|ko<|kn) fun _=>?_
     refine D<|D<|F<|C rfl<|U rfl rfl<|a3 rfl<|J rfl<|U rfl rfl<|g4 rfl rfl<|C rfl<|E (ko<|kt<|kn) fun _=>?_
     obtain ⟨o2,ho2,h⟩:=d2 h
     refine d6 ho2 (fun (i2:Int) (_:Unit)=>[(7,.ow (lA x42)),(8,.tv (eI i2))]) (fun (_:Unit)=>[]) (fun zv ze=>resIs ([.tmp 4]) (.sh (eI zv)) ze) rfl ?_ ?_ ?_ ?_
     ·clear h ho2
      intro i2 s2 r2 hi2 h hw2
      refine D<|D<|F<|C rfl<|C rfl<|U rfl rfl<|V rfl rfl<|E (ko<|kt<|kt<|kn) fun _=>?_
      refine b5 rfl (b6 hi2)<|P (ko<|kt<|kn) fun _=>?_
      refine D<|b0<|D<|D<|F<|C rfl<|C rfl ?_
      obtain ⟨x66,hx66,h⟩:=I h
      refine W rfl rfl rfl hx66 rfl<|a6 rfl<|J rfl ?_
      obtain ⟨x69,hx69,h⟩:=I h
      refine T rfl (c75 x66.Name _ hx69)<|d0 rfl<|E (ko<|kt<|kt<|kn) fun _=>?_
      refine S rfl (fun hc70=>?_) (fun hc70=>?_)
      ·replace h:=M hc70 h
       refine D<|F<|C rfl<|E (kt<|kn) fun _=>?_
       refine L ?_
       cases h
       exact ⟨_,rfl,rfl⟩
      ·replace h:=O hc70 h
       refine P (ko<|kt<|kn) fun _=>?_
       refine D<|D<|F<|C rfl<|E (ko<|kt<|kt<|kn) fun _=>?_
       obtain ⟨o4,ho4,h⟩:=d2 h
       refine d6 ho4 (fun (i4:Int) (_:Unit)=>[(7,.ow (lA x42)),(8,.tv (eI i2)),(9,.tv (eI i4))]) (fun (_:Unit)=>[(7,.ow (lA x42)),(8,.tv (eI i2))]) (fun zv ze=>resIs ([.tmp 4]) (.sh (eI zv)) ze) rfl ?_ ?_ ?_ ?_
       ·clear h ho4
        intro i4 s4 r4 hi4 h hw4
        refine D<|D<|F<|C rfl<|C rfl<|V rfl rfl<|E (ko<|kt<|kt<|kt<|kn) fun _=>?_
        refine b5 rfl (b6 hi4)<|P (ko<|kt<|kt<|kn) fun _=>?_
        refine D<|b0<|D<|b9 rfl<|C rfl<|C rfl ?_
        obtain ⟨x78,hx78,h⟩:=I h
        refine W rfl rfl rfl hx78 rfl<|a6 rfl<|J rfl<|C rfl<|C rfl ?_
        obtain ⟨x83,hx83,h⟩:=I h
        refine W rfl rfl rfl hx83 rfl<|a6 rfl<|J rfl<|g8 rfl rfl<|E (ko<|kt<|kt<|kt<|kn) fun _=>?_
        refine S rfl (fun hc86=>?_) (fun hc86=>?_)
        ·replace h:=M hc86 h
         refine D<|F<|C rfl<|E (kt<|kn) fun _=>?_
         refine L ?_
         cases h
         exact ⟨_,rfl,rfl⟩
        ·replace h:=O hc86 h
         refine P (ko<|kt<|kt<|kn) fun _=>?_
         refine F<|C rfl<|a7 rfl rfl<|C rfl<|E (ko<|kt<|kt<|kn) ?_
         cases h
         refine ⟨_,rfl,?_⟩
         rw [Kow rfl (Ktv rfl (Ktv rfl (Knil _)))]
         rw [b4 (a5 (hw4 9)) hi4 (e0 (a5 (hw4 8)))]
         all_goals rfl
       ·intro i4 s4 hi4
        refine D<|D<|F<|C rfl<|C rfl<|V rfl rfl<|E (ko<|kt<|kt<|kt<|kn) fun _=>?_
        refine b7 rfl (b8 hi4)<|b3 (ko<|kt<|kn) ?_
        exact ⟨rfl,rfl⟩
       ·intro s4 hs
        replace h:=d3 h hs
        intro _
        refine D<|F<|C rfl<|C rfl ?_
        obtain ⟨x89,hx89,h⟩:=I h
        refine W rfl rfl rfl hx89 rfl<|R rfl rfl (show _=eAttr x89 from rfl) ?_
        obtain ⟨x91,hx91,h⟩:=I h
        refine T rfl (c171 x89 _ hx91)<|C rfl<|E (ko<|kt<|kt<|kn) fun _=>?_
        refine D<|F<|C rfl<|a9 rfl rfl<|E (ko<|kt<|kt<|kt<|kn) fun _=>?_
        refine S rfl (fun hc93=>?_) (fun hc93=>?_)
        ·replace h:=M hc93 h
         refine D<|F<|C rfl<|C rfl<|E (kt<|kn) fun _=>?_
         refine L ?_
         cases h
         exact ⟨_,rfl,rfl⟩
        ·replace h:=O hc93 h
         refine P (ko<|kt<|kn) fun _=>?_
         refine F<|C rfl<|a7 rfl rfl<|C rfl<|E (ko<|kt<|kn) ?_
         cases h
         refine ⟨_,rfl,?_⟩
         rw [Kow rfl (Ktv rfl (Knil _))]
         rw [b4 (a5 (hw2 8)) hi2 (e9 (m2 (hw2 7)) rfl)]
         all_goals rfl
       ·intro v4 ze hv hR
        replace h:=d4 h hv
        cases h
        exact ⟨_,rfl,hR⟩
     ·intro i2 s2 hi2
      refine D<|D<|F<|C rfl<|C rfl<|U rfl rfl<|V rfl rfl<|E (ko<|kt<|kt<|kn) fun _=>?_
      refine b7 rfl (b8 hi2)<|b3 (kn) ?_
      exact ⟨rfl,rfl⟩
     ·intro s2 hs
      replace h:=d3 h hs
      intro _
      refine D<|F<|C rfl<|E (kt<|kn) fun _=>?_
      exact L (by cases h;rfl)
     ·intro v2 ze hv hR
      replace h:=d4 h hv
      cases h
      exact hR
  ·intro v0 ze hv hR
   replace h:=d4 h hv
   cases h
   exact hR
theorem ck172:CK f172 (Rq [Ak 4] [0,1]<|Rq [Aa 5 0,Fd 6 119 5 0 40,Aa 7 6,Aq 8 1 7,Fb 9 8 (-1) 7,Aq 10 9 7,Aw 11 1 10,Aw 12 0 10,Fk 13 119 11 12 40 10,Dx 14 10 13 7,At 15 7 14,Aa 4 15] [4]<|.ret) [.tmp 4]:= by decide +kernel
theorem c172 (low:Int) (high:Int) (r:Bool) (h:ref04_bound low high=some r):Sound prog 172 [eI low,eI high] (.sh (eB r)):= by
 refine Fn ck172 fun hw=>?_
 unfold ref04_bound at h
 refine D<|F<|C rfl<|E (kt<|kt<|kn) fun _=>?_
 refine D<|F<|C rfl ?_
 obtain ⟨x6,hx6,h⟩:=I h
 refine T rfl (c119 low 0 40 _ hx6)<|C rfl ?_
 obtain ⟨x15,hx15,h⟩:=I h
 refine gX 8 [8,9,10,11,12,13,14] 15 x15 x6 (fun hg15=>?_) (fun hg15=>?_) ?_
 ·replace h:=M hg15 hx15
  refine G rfl hg15<|C rfl<|G rfl hg15<|d1 rfl rfl<|G rfl hg15<|C rfl ?_
  obtain ⟨x14,hx14,h⟩:=I h
  refine gX 4 [11,12,13] 14 x14 (decide (high=(-1))) (fun hg14=>?_) (fun hg14=>?_) ?_
  ·replace h:=M hg14 hx14
   cases h
   refine H rfl hg14<|H rfl hg14<|H rfl hg14<|G rfl hg15<|Y rfl hg14 rfl ?_
   exact ⟨⟨_,_,_,rfl⟩⟩
  ·replace h:=O hg14 hx14
   refine G rfl hg14<|C rfl<|G rfl hg14<|C rfl ?_
   obtain ⟨x13,hx13,h⟩:=I h
   refine G rfl hg14<|T rfl (c119 high low 40 _ hx13) ?_
   cases h
   refine G rfl hg15<|Z rfl hg14 rfl ?_
   exact ⟨⟨_,_,_,rfl⟩⟩
  rintro _ ⟨_,_,_,rfl⟩
  cases h
  refine Y rfl hg15 rfl ?_
  exact ⟨⟨_,_,_,_,_,_,_,rfl⟩⟩
 ·replace h:=O hg15 hx15
  cases h
  refine H rfl hg15<|H rfl hg15<|H rfl hg15<|d7 rfl<|d7 rfl<|d7 rfl<|H rfl hg15<|Z rfl hg15 rfl ?_
  exact ⟨⟨_,_,_,_,_,_,_,rfl⟩⟩
 rintro _ ⟨_,_,_,_,_,_,_,rfl⟩
 refine C rfl<|E (kt<|kn) fun _=>?_
 exact L (by cases h;rfl)
theorem ck125:CK f125 (Rq [Af 2 0,Ad 4 0] [1,2]<|Rq [Ac 8 2 1,Ab 9 8,Aa 10 1,Ag 11 9 10 7,Ae 12 11 7,Dy 5 0 0 0 0 0 0,Aj 7 5 12] [1,2,5]<|Sq (Rq [Ac 13 5 0,Ab 14 13,Au 15 75 14,Az 16 15] [1,2,5,16]<|Co 16 (Rq [Ad 4 2] [4]<|.ret)<|Sk [1,2,5])<|Sq (Rq [Ad 6 0] [1,2,5,6]<|Bl 0<|Lo [1,2,5,6]<|Sq (Rq [Aa 17 6,Aa 18 1,Ap 19 17 18] [1,2,5,6,19]<|Co 19 (Sk [1,2,5,6])<|Ex 0 [2,5])<|Sq (Bl 1<|Sq (Dr [22,23,24,25,26,27,28,29,30] [Ac 22 2 1,Ab 23 22,Aa 24 6,Ag 25 23 24 7,Ai 26 25 0,Ab 27 26,Ac 28 5 0,Ab 29 28,Cu 30 27 29] [1,2,5,6,30])<|Co 30 (Rq [Ad 4 5] [4]<|.ret)<|Sk [1,2,5,6])<|Re [Aa 20 6,An 21 20 1,Aa 6 21] [1,2,5,6])<|Rq [Ac 31 2 0,Ab 32 31,Ah 33 32,Dc 34 33 1,Aa 7 34] [5,7]<|Sq (Rq [Ac 35 5 1,Ab 36 35,Aa 37 7,Ea 38 119 36 0 37,Az 39 38,Aa 40 39,Ar 41 5 2 40,Ao 42 41 40,Aw 43 7 40,Ey 44 119 42 0 43 40,Br 45 44 40,As 46 40 45,Aa 47 46,Ar 48 5 3 47,Ao 49 48 47,Ar 50 5 4 47,Ao 51 50 47,Db 52 172 49 51 47,Br 53 52 47,As 54 47 53,Aa 55 54,Ar 56 5 5 55,Ao 57 56 55,Ar 58 5 6 55,Ao 59 58 55,Db 60 172 57 59 55,Br 61 60 55,As 62 55 61] [62]<|Co 62 (Rq [Ad 4 6] [4]<|.ret)<|Sk [])<|Rq [Ad 4 0] [4]<|.ret) [.tmp 4]:= by decide +kernel
theorem c125 (t:Types) (i_1:Int) (r:Int) (h:ref04_edge t i_1=some r):Sound prog 125 [eTypes t,eI i_1] (.sh (eI r)):= by
 refine Fn ck125 fun hw=>?_
 unfold ref04_edge at h
 refine D<|F<|a4 rfl rfl<|C rfl<|E (kt<|kt<|kn) fun _=>?_
 refine D<|F<|K rfl<|J rfl<|C rfl ?_
 obtain ⟨x11,hx11,h⟩:=I h
 refine W rfl rfl rfl hx11 rfl<|R rfl rfl (show _=eEdgeType x11 from rfl)<|b1 rfl<|a8 rfl rfl rfl rfl rfl<|E (kt<|kt<|kb<|kn) fun _=>?_
 refine D<|D<|F<|a3 rfl<|J rfl ?_
 obtain ⟨x15,hx15,h⟩:=I h
 refine T rfl (c75 x11.Name _ hx15)<|d0 rfl<|E (kt<|kt<|kb<|kt<|kn) fun _=>?_
 refine S rfl (fun hc16=>?_) (fun hc16=>?_)
 ·replace h:=M hc16 h
  refine D<|F<|C rfl<|E (kt<|kn) fun _=>?_
  exact L (by cases h;rfl)
 ·replace h:=O hc16 h
  refine P (kt<|kt<|kb<|kn) fun _=>?_
  refine D<|D<|F<|C rfl<|E (kt<|kt<|kb<|kt<|kn) fun _=>?_
  obtain ⟨o0,ho0,h⟩:=d2 h
  refine d6 ho0 (fun (i0:Int) (_:Unit)=>[(1,.tv (eI i_1)),(2,.tv (.pt (eTypes t).cells)),(5,.bx [⟨false,eS x11.Name⟩,⟨false,eI x11.From⟩,⟨false,eI x11.To⟩,⟨false,eI x11.OutLow⟩,⟨false,eI x11.OutHigh⟩,⟨false,eI x11.InLow⟩,⟨false,eI x11.InHigh⟩]),(6,.tv (eI i0))]) (fun (_:Unit)=>[(2,.tv (.pt (eTypes t).cells)),(5,.bx [⟨false,eS x11.Name⟩,⟨false,eI x11.From⟩,⟨false,eI x11.To⟩,⟨false,eI x11.OutLow⟩,⟨false,eI x11.OutHigh⟩,⟨false,eI x11.InLow⟩,⟨false,eI x11.InHigh⟩])]) (fun zv ze=>resIs ([.tmp 4]) (.sh (eI zv)) ze) rfl ?_ ?_ ?_ ?_
  ·clear h ho0
   intro i0 s0 r0 hi0 h hw0
   refine D<|D<|F<|C rfl<|C rfl<|V rfl rfl<|E (kt<|kt<|kb<|kt<|kt<|kn) fun _=>?_
   refine b5 rfl (b6 hi0)<|P (kt<|kt<|kb<|kt<|kn) fun _=>?_
   refine D<|b0<|D<|b9 rfl<|K rfl<|J rfl<|C rfl ?_
   obtain ⟨x25,hx25,h⟩:=I h
   refine W rfl rfl rfl hx25 rfl<|a6 rfl<|J rfl<|a3 rfl<|J rfl<|g8 rfl rfl<|E (kt<|kt<|kb<|kt<|kt<|kn) fun _=>?_
   refine S rfl (fun hc30=>?_) (fun hc30=>?_)
   ·replace h:=M hc30 h
    refine D<|F<|C rfl<|E (kt<|kn) fun _=>?_
    refine L ?_
    cases h
    exact ⟨_,rfl,rfl⟩
   ·replace h:=O hc30 h
    refine P (kt<|kt<|kb<|kt<|kn) fun _=>?_
    refine F<|C rfl<|a7 rfl rfl<|C rfl<|E (kt<|kt<|kb<|kt<|kn) ?_
    cases h
    refine ⟨_,rfl,?_⟩
    rw [Ktv rfl (Ktv rfl (Kbx rfl (Ktv rfl (Knil _))))]
    rw [b4 (a5 (hw0 6)) hi0 (e0 (a5 (hw0 1)))]
    all_goals rfl
  ·intro i0 s0 hi0
   refine D<|D<|F<|C rfl<|C rfl<|V rfl rfl<|E (kt<|kt<|kb<|kt<|kt<|kn) fun _=>?_
   refine b7 rfl (b8 hi0)<|b3 (kt<|kb<|kn) ?_
   exact ⟨rfl,rfl⟩
  ·intro s0 hs
   replace h:=d3 h hs
   intro _
   refine D<|F<|K rfl<|J rfl<|U rfl rfl<|g4 rfl rfl<|C rfl<|E (kb<|kt<|kn) fun _=>?_
   refine D<|D<|F<|a3 rfl<|J rfl<|C rfl ?_
   obtain ⟨x38,hx38,h⟩:=I h
   refine T rfl (c119 x11.From 0 (w64 ((t.Nodes.length:Int) - 1)) _ hx38)<|d0 rfl<|C rfl ?_
   obtain ⟨x46,hx46,h⟩:=I h
   refine gX 6 [41,42,43,44,45] 46 x46 (!x38) (fun hg46=>?_) (fun hg46=>?_) ?_
   ·replace h:=M hg46 hx46
    cases h
    refine H rfl hg46<|H rfl hg46<|H rfl hg46<|H rfl hg46<|H rfl hg46<|Y rfl hg46 rfl ?_
    exact ⟨⟨_,_,_,_,_,rfl⟩⟩
   ·replace h:=O hg46 hx46
    refine G rfl hg46<|a3 rfl<|G rfl hg46<|J rfl<|G rfl hg46<|C rfl ?_
    obtain ⟨x44,hx44,h⟩:=I h
    refine G rfl hg46<|T rfl (c119 x11.To 0 (w64 ((t.Nodes.length:Int) - 1)) _ hx44)<|G rfl hg46<|d0 rfl ?_
    cases h
    refine Z rfl hg46 rfl ?_
    exact ⟨⟨_,_,_,_,_,rfl⟩⟩
   rintro _ ⟨_,_,_,_,_,rfl⟩
   refine C rfl ?_
   obtain ⟨x54,hx54,h⟩:=I h
   refine gX 7 [48,49,50,51,52,53] 54 x54 x46 (fun hg54=>?_) (fun hg54=>?_) ?_
   ·replace h:=M hg54 hx54
    cases h
    refine H rfl hg54<|H rfl hg54<|H rfl hg54<|H rfl hg54<|H rfl hg54<|H rfl hg54<|Y rfl hg54 rfl ?_
    exact ⟨⟨_,_,_,_,_,_,rfl⟩⟩
   ·replace h:=O hg54 hx54
    refine G rfl hg54<|a3 rfl<|G rfl hg54<|J rfl<|G rfl hg54<|a3 rfl<|G rfl hg54<|J rfl ?_
    obtain ⟨x52,hx52,h⟩:=I h
    refine G rfl hg54<|T rfl (c172 x11.OutLow x11.OutHigh _ hx52)<|G rfl hg54<|d0 rfl ?_
    cases h
    refine Z rfl hg54 rfl ?_
    exact ⟨⟨_,_,_,_,_,_,rfl⟩⟩
   rintro _ ⟨_,_,_,_,_,_,rfl⟩
   refine C rfl ?_
   obtain ⟨x62,hx62,h⟩:=I h
   refine gX 7 [56,57,58,59,60,61] 62 x62 x54 (fun hg62=>?_) (fun hg62=>?_) ?_
   ·replace h:=M hg62 hx62
    cases h
    refine H rfl hg62<|H rfl hg62<|H rfl hg62<|H rfl hg62<|H rfl hg62<|H rfl hg62<|Y rfl hg62 rfl ?_
    exact ⟨⟨_,_,_,_,_,_,rfl⟩⟩
   ·replace h:=O hg62 hx62
    refine G rfl hg62<|a3 rfl<|G rfl hg62<|J rfl<|G rfl hg62<|a3 rfl<|G rfl hg62<|J rfl ?_
    obtain ⟨x60,hx60,h⟩:=I h
    refine G rfl hg62<|T rfl (c172 x11.InLow x11.InHigh _ hx60)<|G rfl hg62<|d0 rfl ?_
    cases h
    refine Z rfl hg62 rfl ?_
    exact ⟨⟨_,_,_,_,_,_,rfl⟩⟩
   rintro _ ⟨_,_,_,_,_,_,rfl⟩
   refine E (kt<|kn) fun _=>?_
   refine S rfl (fun hc62=>?_) (fun hc62=>?_)
   ·replace h:=M hc62 h
    refine D<|F<|C rfl<|E (kt<|kn) fun _=>?_
    exact L (by cases h;rfl)
   ·replace h:=O hc62 h
    refine P (kn) fun _=>?_
    refine D<|F<|C rfl<|E (kt<|kn) fun _=>?_
    exact L (by cases h;rfl)
  ·intro v0 ze hv hR
   replace h:=d4 h hv
   cases h
   exact hR
theorem ck74:CK f74 (Rq [Af 1 0,Ce 2,Ad 3 0] [1]<|Sq (Rq [Ac 8 1 0,Ab 9 8,Ah 10 9,Be 11 10 0] [1,11]<|Co 11 (Rq [Ce 2,Ad 3 7] [2,3]<|.ret)<|Sk [1])<|Sq (Rq [Ac 12 1 0,Ab 13 12,Ah 14 13,Bk 15 14 12,Aa 16 15,Ar 17 1 1 16,Ao 18 17 16,Bc 19 18 16,Bs 20 19 20 16,As 21 16 20] [1,21]<|Co 21 (Rq [Ce 2,Ad 3 3] [2,3]<|.ret)<|Sk [1])<|Sq (Rq [Ad 4 0] [1,4]<|Bl 0<|Lo [1,4]<|Sq (Rq [Aa 22 4,Ac 23 1 0,Ab 24 23,Ah 25 24,Ap 26 22 25] [1,4,26]<|Co 26 (Sk [1,4])<|Ex 0 [1])<|Sq (Bl 1<|Rq [Ae 29 1 2,Aa 30 4,Al 31 124 29 30,Aa 5 31] [1,4,5]<|Rq [Aa 32 5,Av 33 32 0] [1,4,5,33]<|Co 33 (Rq [Ac 34 1 0,Ab 35 34,Aa 36 4,Ag 37 35 36 4,Ai 38 37 0,Ab 39 38,Aa 40 5,Aa 2 39,Aa 3 40] [2,3]<|.ret)<|Sk [1,4])<|Re [Aa 27 4,An 28 27 1,Aa 4 28] [1,4])<|Sq (Rq [Ad 6 0] [1,6]<|Bl 2<|Lo [1,6]<|Sq (Rq [Aa 41 6,Ac 42 1 1,Ab 43 42,Ah 44 43,Ap 45 41 44] [1,6,45]<|Co 45 (Sk [1,6])<|Ex 2 [])<|Sq (Bl 3<|Rq [Ae 48 1 2,Aa 49 6,Al 50 125 48 49,Aa 7 50] [1,6,7]<|Rq [Aa 51 7,Av 52 51 0] [1,6,7,52]<|Co 52 (Rq [Ac 53 1 1,Ab 54 53,Aa 55 6,Ag 56 54 55 7,Ai 57 56 0,Ab 58 57,Aa 59 7,Aa 2 58,Aa 3 59] [2,3]<|.ret)<|Sk [1,6])<|Re [Aa 46 6,An 47 46 1,Aa 6 47] [1,6])<|Rq [Ce 2,Ad 3 0] [2,3]<|.ret) [.tmp 2,.tmp 3]:= by decide +kernel
theorem c74 (t:Types) (r:(ByteArray × Int)) (h:ref04_Valid t=some r):Sound prog 74 [eTypes t] (.tp [eS r.1,eI r.2]):= by
 refine Fn ck74 fun hw=>?_
 unfold ref04_Valid at h
 refine D<|F<|a4 rfl rfl<|C rfl<|C rfl<|E (kt<|kn) fun _=>?_
 refine D<|D<|F<|K rfl<|J rfl<|U rfl rfl<|d1 rfl rfl<|E (kt<|kt<|kn) fun _=>?_
 refine S rfl (fun hc11=>?_) (fun hc11=>?_)
 ·replace h:=M hc11 h
  refine D<|F<|C rfl<|C rfl<|E (kt<|kt<|kn) fun _=>?_
  refine L ?_
  cases h
  exact ⟨by decide,rfl⟩
 ·replace h:=O hc11 h
  refine P (kt<|kn) fun _=>?_
  refine D<|D<|F<|K rfl<|J rfl<|U rfl rfl<|e4 rfl rfl<|C rfl ?_
  refine gO 5 [17,18,19,20] 21 (decide (12<(t.Nodes.length:Int))) (decide (20<(t.Edges.length:Int))) (fun hg21=>?_) (fun hg21=>?_) ?_
  ·refine H rfl hg21<|H rfl hg21<|H rfl hg21<|H rfl hg21<|Y rfl hg21 rfl ?_
   exact ⟨⟨_,_,_,_,rfl⟩⟩
  ·refine G rfl hg21<|K rfl<|G rfl hg21<|J rfl<|G rfl hg21<|U rfl rfl<|G rfl hg21<|e4 rfl rfl<|Z rfl hg21 rfl ?_
   exact ⟨⟨_,_,_,_,rfl⟩⟩
  rintro _ ⟨_,_,_,_,rfl⟩
  refine E (kt<|kt<|kn) fun _=>?_
  refine S rfl (fun hc21=>?_) (fun hc21=>?_)
  ·replace h:=M hc21 h
   refine D<|F<|C rfl<|C rfl<|E (kt<|kt<|kn) fun _=>?_
   refine L ?_
   cases h
   exact ⟨by decide,rfl⟩
  ·replace h:=O hc21 h
   refine P (kt<|kn) fun _=>?_
   refine D<|D<|F<|C rfl<|E (kt<|kt<|kn) fun _=>?_
   obtain ⟨o0,ho0,h⟩:=d2 h
   refine d6 ho0 (fun (i0:Int) (_:Unit)=>[(1,.tv (.pt (eTypes t).cells)),(4,.tv (eI i0))]) (fun (_:Unit)=>[(1,.tv (.pt (eTypes t).cells))]) (fun zv ze=>resIs ([.tmp 2,.tmp 3]) (.tp [eS zv.1,eI zv.2]) ze) rfl ?_ ?_ ?_ ?_
   ·clear h ho0
    intro i0 s0 r0 hi0 h hw0
    refine D<|D<|F<|C rfl<|K rfl<|J rfl<|U rfl rfl<|V rfl rfl<|E (kt<|kt<|kt<|kn) fun _=>?_
    refine b5 rfl (b6 hi0)<|P (kt<|kt<|kn) fun _=>?_
    refine D<|b0<|D<|F<|R rfl rfl (show _=eTypes t from rfl)<|C rfl ?_
    obtain ⟨x31,hx31,h⟩:=I h
    refine T rfl (c124 t i0 _ hx31)<|C rfl<|E (kt<|kt<|kt<|kn) fun _=>?_
    refine D<|F<|C rfl<|a9 rfl rfl<|E (kt<|kt<|kt<|kt<|kn) fun _=>?_
    refine S rfl (fun hc33=>?_) (fun hc33=>?_)
    ·replace h:=M hc33 h
     refine D<|F<|K rfl<|J rfl<|C rfl ?_
     obtain ⟨x37,hx37,h⟩:=I h
     refine W rfl rfl rfl hx37 rfl<|a6 rfl<|J rfl<|C rfl<|C rfl<|C rfl<|E (kt<|kt<|kn) fun _=>?_
     refine L ?_
     cases h
     exact ⟨_,rfl,⟨by decide,rfl⟩⟩
    ·replace h:=O hc33 h
     refine P (kt<|kt<|kn) fun _=>?_
     refine F<|C rfl<|a7 rfl rfl<|C rfl<|E (kt<|kt<|kn) ?_
     cases h
     refine ⟨_,rfl,?_⟩
     rw [Ktv rfl (Ktv rfl (Knil _))]
     rw [b4 (a5 (hw0 4)) hi0 (e9 (g0 (g1 (hw0 1)) (i:=0) rfl) rfl)]
     all_goals rfl
   ·intro i0 s0 hi0
    refine D<|D<|F<|C rfl<|K rfl<|J rfl<|U rfl rfl<|V rfl rfl<|E (kt<|kt<|kt<|kn) fun _=>?_
    refine b7 rfl (b8 hi0)<|b3 (kt<|kn) ?_
    exact ⟨rfl,rfl⟩
   ·intro s0 hs
    replace h:=d3 h hs
    intro _
    refine D<|D<|F<|C rfl<|E (kt<|kt<|kn) fun _=>?_
    obtain ⟨o2,ho2,h⟩:=d2 h
    refine d6 ho2 (fun (i2:Int) (_:Unit)=>[(1,.tv (.pt (eTypes t).cells)),(6,.tv (eI i2))]) (fun (_:Unit)=>[]) (fun zv ze=>resIs ([.tmp 2,.tmp 3]) (.tp [eS zv.1,eI zv.2]) ze) rfl ?_ ?_ ?_ ?_
    ·clear h ho2
     intro i2 s2 r2 hi2 h hw2
     refine D<|D<|F<|C rfl<|K rfl<|J rfl<|U rfl rfl<|V rfl rfl<|E (kt<|kt<|kt<|kn) fun _=>?_
     refine b5 rfl (b6 hi2)<|P (kt<|kt<|kn) fun _=>?_
     refine D<|b0<|D<|F<|R rfl rfl (show _=eTypes t from rfl)<|C rfl ?_
     obtain ⟨x50,hx50,h⟩:=I h
     refine T rfl (c125 t i2 _ hx50)<|C rfl<|E (kt<|kt<|kt<|kn) fun _=>?_
     refine D<|F<|C rfl<|a9 rfl rfl<|E (kt<|kt<|kt<|kt<|kn) fun _=>?_
     refine S rfl (fun hc52=>?_) (fun hc52=>?_)
     ·replace h:=M hc52 h
      refine D<|F<|K rfl<|J rfl<|C rfl ?_
      obtain ⟨x56,hx56,h⟩:=I h
      refine W rfl rfl rfl hx56 rfl<|a6 rfl<|J rfl<|C rfl<|C rfl<|C rfl<|E (kt<|kt<|kn) fun _=>?_
      refine L ?_
      cases h
      exact ⟨_,rfl,⟨by decide,rfl⟩⟩
     ·replace h:=O hc52 h
      refine P (kt<|kt<|kn) fun _=>?_
      refine F<|C rfl<|a7 rfl rfl<|C rfl<|E (kt<|kt<|kn) ?_
      cases h
      refine ⟨_,rfl,?_⟩
      rw [Ktv rfl (Ktv rfl (Knil _))]
      rw [b4 (a5 (hw2 6)) hi2 (e9 (g0 (g1 (hw2 1)) (i:=1) rfl) rfl)]
      all_goals rfl
    ·intro i2 s2 hi2
     refine D<|D<|F<|C rfl<|K rfl<|J rfl<|U rfl rfl<|V rfl rfl<|E (kt<|kt<|kt<|kn) fun _=>?_
     refine b7 rfl (b8 hi2)<|b3 (kn) ?_
     exact ⟨rfl,rfl⟩
    ·intro s2 hs
     replace h:=d3 h hs
     intro _
     refine D<|F<|C rfl<|C rfl<|E (kt<|kt<|kn) fun _=>?_
     refine L ?_
     cases h
     exact ⟨by decide,rfl⟩
    ·intro v2 ze hv hR
     replace h:=d4 h hv
     cases h
     exact hR
   ·intro v0 ze hv hR
    replace h:=d4 h hv
    cases h
    exact hR
theorem ck118:CK f118 (Rq [Af 3 0,Ad 6 0] [1,2,3]<|Sq (Rq [Ae 10 3 2,Au 11 74 10,Aa 9 11,Am 12 9 0,Am 13 9 1,Aa 7 12,Aa 8 13] [1,2,3,8]<|Rq [Aa 14 8,Av 15 14 0] [1,2,3,8,15]<|Co 15 (Rq [Aa 16 8,Aa 6 16] [6]<|.ret)<|Sk [1,2,3])<|Sq (Rq [Aa 17 1,Ac 18 3 0,Ab 19 18,Ah 20 19,Dc 21 20 1,Ea 22 119 17 0 21,Az 23 22,Aa 24 23,Aw 25 2 24,Ar 26 3 0 24,Ao 27 26 24,Bc 28 27 24,Ed 29 28 1 24,Ey 30 119 25 0 29 24,Br 31 30 24,As 32 24 31] [32]<|Co 32 (Rq [Ad 6 6] [6]<|.ret)<|Sk [])<|Rq [Ad 6 0] [6]<|.ret) [.tmp 6]:= by decide +kernel
theorem c118 (t:Types) (a:Int) (b:Int) (r:Int) (h:ref04_given t a b=some r):Sound prog 118 [eTypes t,eI a,eI b] (.sh (eI r)):= by
 refine Fn ck118 fun hw=>?_
 unfold ref04_given at h
 refine D<|F<|a4 rfl rfl<|C rfl<|E (kt<|kt<|kt<|kn) fun _=>?_
 refine D<|D<|F<|R rfl rfl (show _=eTypes t from rfl) ?_
 obtain ⟨x11,hx11,h⟩:=I h
 refine e5 rfl (c74 t _ hx11)<|e6 rfl<|b2 rfl rfl<|b2 rfl rfl<|C rfl<|C rfl<|E (kt<|kt<|kt<|kt<|kn) fun _=>?_
 refine D<|F<|C rfl<|a9 rfl rfl<|E (kt<|kt<|kt<|kt<|kt<|kn) fun _=>?_
 refine S rfl (fun hc15=>?_) (fun hc15=>?_)
 ·replace h:=M hc15 h
  refine D<|F<|C rfl<|C rfl<|E (kt<|kn) fun _=>?_
  exact L (by cases h;rfl)
 ·replace h:=O hc15 h
  refine P (kt<|kt<|kt<|kn) fun _=>?_
  refine D<|D<|F<|C rfl<|K rfl<|J rfl<|U rfl rfl<|g4 rfl rfl ?_
  obtain ⟨x22,hx22,h⟩:=I h
  refine T rfl (c119 a 0 (w64 ((t.Nodes.length:Int) - 1)) _ hx22)<|d0 rfl<|C rfl ?_
  obtain ⟨x32,hx32,h⟩:=I h
  refine gX 8 [25,26,27,28,29,30,31] 32 x32 (!x22) (fun hg32=>?_) (fun hg32=>?_) ?_
  ·replace h:=M hg32 hx32
   cases h
   refine H rfl hg32<|H rfl hg32<|H rfl hg32<|H rfl hg32<|H rfl hg32<|H rfl hg32<|H rfl hg32<|Y rfl hg32 rfl ?_
   exact ⟨⟨_,_,_,_,_,_,_,rfl⟩⟩
  ·replace h:=O hg32 hx32
   refine G rfl hg32<|C rfl<|G rfl hg32<|K rfl<|G rfl hg32<|J rfl<|G rfl hg32<|U rfl rfl<|G rfl hg32<|g4 rfl rfl ?_
   obtain ⟨x30,hx30,h⟩:=I h
   refine G rfl hg32<|T rfl (c119 b 0 (w64 ((t.Nodes.length:Int) - 1)) _ hx30)<|G rfl hg32<|d0 rfl ?_
   cases h
   refine Z rfl hg32 rfl ?_
   exact ⟨⟨_,_,_,_,_,_,_,rfl⟩⟩
  rintro _ ⟨_,_,_,_,_,_,_,rfl⟩
  refine E (kt<|kn) fun _=>?_
  refine S rfl (fun hc32=>?_) (fun hc32=>?_)
  ·replace h:=M hc32 h
   refine D<|F<|C rfl<|E (kt<|kn) fun _=>?_
   exact L (by cases h;rfl)
  ·replace h:=O hc32 h
   refine P (kn) fun _=>?_
   refine D<|F<|C rfl<|E (kt<|kn) fun _=>?_
   exact L (by cases h;rfl)
theorem ck120:CK f120 (Rq [Af 3 0,Ak 6] [1,2,3]<|Sq (Dr [6,7,8,9,10,11,12,13,14,15,16,17,18,19,20,21,22,23,24] [Aa 7 1,Aa 8 2,Bt 9 7 8,Aa 10 9,Aw 11 1 10,⟨some 12,.bin (.i) .geq (.s 11) (.c (.int .i64 0)),some (10,false)⟩,Aw 13 12 10,Cq 14 3 2 13,Ba 15 3 0 13,Ax 16 15 13,Aq 17 1 13,Cb 18 16 17 4 13,Bu 19 18 1 13,Ax 20 19 13,Aq 21 2 13,Es 22 120 14 20 21 13,Dl 23 13 22 10,As 24 10 23,Aa 6 24] [6])<|.ret) [.tmp 6]:= by decide +kernel
theorem c120S (n:Nat) (ih_120:∀ (t:Types) (a:Int) (b:Int) (r:Bool) (_:ref04_Below1F n t a b=some r),Sound prog 120 [eTypes t,eI a,eI b] (.sh (eB r))):∀ (t:Types) (a:Int) (b:Int) (r:Bool) (_:ref04_Below1F (n+1) t a b=some r),Sound prog 120 [eTypes t,eI a,eI b] (.sh (eB r)):= by
 intro t a b r h
 refine Fn ck120 fun hw=>?_
 unfold ref04_Below1F at h
 refine D<|F<|a4 rfl rfl<|C rfl<|E (kt<|kt<|kt<|kn) fun _=>?_
 refine D<|b9 rfl<|C rfl<|C rfl<|d1 rfl rfl<|C rfl ?_
 obtain ⟨x24,hx24,h⟩:=I h
 refine gX 14 [11,12,13,14,15,16,17,18,19,20,21,22,23] 24 x24 (decide (a=b)) (fun hg24=>?_) (fun hg24=>?_) ?_
 ·replace h:=M hg24 hx24
  cases h
  refine H rfl hg24<|H rfl hg24<|H rfl hg24<|d7 rfl<|d7 rfl<|d7 rfl<|d7 rfl<|d7 rfl<|d7 rfl<|d7 rfl<|d7 rfl<|d7 rfl<|H rfl hg24<|Y rfl hg24 rfl ?_
  exact ⟨⟨_,_,_,_,_,_,_,_,_,_,_,_,_,rfl⟩⟩
 ·replace h:=O hg24 hx24
  refine G rfl hg24<|C rfl<|G rfl hg24<|d5 rfl rfl<|G rfl hg24<|C rfl ?_
  obtain ⟨x23,hx23,h⟩:=I h
  refine gX 10 [14,15,16,17,18,19,20,21,22] 23 x23 (decide (0<=a)) (fun hg23=>?_) (fun hg23=>?_) ?_
  ·replace h:=M hg23 hx23
   refine G rfl hg23<|R rfl rfl (show _=eTypes t from rfl)<|G rfl hg23<|K rfl<|G rfl hg23<|J rfl<|G rfl hg23<|C rfl ?_
   obtain ⟨x18,hx18,h⟩:=I h
   refine G rfl hg23<|W rfl rfl rfl hx18 rfl<|G rfl hg23<|a6 rfl<|G rfl hg23<|J rfl<|G rfl hg23<|C rfl ?_
   obtain ⟨x22,hx22,h⟩:=I h
   refine G rfl hg23<|T rfl (ih_120 t x18.Parent b _ hx22) ?_
   cases h
   refine G rfl hg24<|Y rfl hg23 rfl ?_
   exact ⟨⟨_,_,_,_,_,_,_,_,_,rfl⟩⟩
  ·replace h:=O hg23 hx23
   cases h
   refine H rfl hg23<|H rfl hg23<|H rfl hg23<|H rfl hg23<|H rfl hg23<|H rfl hg23<|H rfl hg23<|H rfl hg23<|H rfl hg23<|G rfl hg24<|Z rfl hg23 rfl ?_
   exact ⟨⟨_,_,_,_,_,_,_,_,_,rfl⟩⟩
  rintro _ ⟨_,_,_,_,_,_,_,_,_,rfl⟩
  cases h
  refine Z rfl hg24 rfl ?_
  exact ⟨⟨_,_,_,_,_,_,_,_,_,_,_,_,_,rfl⟩⟩
 rintro _ ⟨_,_,_,_,_,_,_,_,_,_,_,_,_,rfl⟩
 refine C rfl<|E (kt<|kn) fun _=>?_
 exact L (by cases h;rfl)
theorem c120A:∀ n:Nat,(∀ (t:Types) (a:Int) (b:Int) (r:Bool) (_:ref04_Below1F n t a b=some r),Sound prog 120 [eTypes t,eI a,eI b] (.sh (eB r))):=by
  intro n
  induction n with
  | zero=>intro t a b r h; cases h
  | succ n ih=>exact c120S n ih
theorem c120 (t:Types) (a:Int) (b:Int) (r:Bool) (h:ref04_Below1 t a b=some r):Sound prog 120 [eTypes t,eI a,eI b] (.sh (eB r)):=by
  obtain ⟨N,hN⟩:=lim_some h
  exact (c120A N) t a b r (hN N (Nat.le_refl _))
theorem ck68:CK f68 (Rq [Af 4 0,Ak 8] [1,2,3,4]<|Sq (Rq [Ae 9 4 2,Aa 10 2,Aa 11 3,Bg 12 118 9 10 11,Av 13 12 0,Aa 14 13,Aw 15 1 14,Ar 16 4 1 14,Ao 17 16 14,Bc 18 17 14,Ed 19 18 1 14,Ey 20 119 15 0 19 14,Br 21 20 14,As 22 14 21] [1,2,3,4,22]<|Co 22 (Rq [Ak 8] [8]<|.ret)<|Sk [1,2,3,4])<|Sq (Dr [8,23,24,25,26,27,28,29,30,31,32,33,34,35,36,37,38,39,40,41,42] [Ae 23 4 2,Aa 24 2,Ac 25 4 1,Ab 26 25,Aa 27 1,Ag 28 26 27 7,Ai 29 28 1,Ab 30 29,Bg 31 120 23 24 30,Aa 32 31,Cq 33 4 2 32,Aq 34 3 32,Ba 35 4 1 32,Ax 36 35 32,Aq 37 1 32,Cb 38 36 37 7 32,Bu 39 38 2 32,Ax 40 39 32,Es 41 120 33 34 40 32,At 42 32 41,Aa 8 42] [8])<|.ret) [.tmp 8]:= by decide +kernel
theorem c68 (t:Types) (edge:Int) (from':Int) (to':Int) (r:Bool) (h:ref04_Fits t edge from' to'=some r):Sound prog 68 [eTypes t,eI edge,eI from',eI to'] (.sh (eB r)):= by
 refine Fn ck68 fun hw=>?_
 unfold ref04_Fits at h
 refine D<|F<|a4 rfl rfl<|C rfl<|E (kt<|kt<|kt<|kt<|kn) fun _=>?_
 refine D<|D<|F<|R rfl rfl (show _=eTypes t from rfl)<|C rfl<|C rfl ?_
 obtain ⟨x12,hx12,h⟩:=I h
 refine T rfl (c118 t from' to' _ hx12)<|a9 rfl rfl<|C rfl ?_
 obtain ⟨x22,hx22,h⟩:=I h
 refine gX 8 [15,16,17,18,19,20,21] 22 x22 (!decide (x12=0)) (fun hg22=>?_) (fun hg22=>?_) ?_
 ·replace h:=M hg22 hx22
  cases h
  refine H rfl hg22<|H rfl hg22<|H rfl hg22<|H rfl hg22<|H rfl hg22<|H rfl hg22<|H rfl hg22<|Y rfl hg22 rfl ?_
  exact ⟨⟨_,_,_,_,_,_,_,rfl⟩⟩
 ·replace h:=O hg22 hx22
  refine G rfl hg22<|C rfl<|G rfl hg22<|K rfl<|G rfl hg22<|J rfl<|G rfl hg22<|U rfl rfl<|G rfl hg22<|g4 rfl rfl ?_
  obtain ⟨x20,hx20,h⟩:=I h
  refine G rfl hg22<|T rfl (c119 edge 0 (w64 ((t.Edges.length:Int) - 1)) _ hx20)<|G rfl hg22<|d0 rfl ?_
  cases h
  refine Z rfl hg22 rfl ?_
  exact ⟨⟨_,_,_,_,_,_,_,rfl⟩⟩
 rintro _ ⟨_,_,_,_,_,_,_,rfl⟩
 refine E (kt<|kt<|kt<|kt<|kt<|kn) fun _=>?_
 refine S rfl (fun hc22=>?_) (fun hc22=>?_)
 ·replace h:=M hc22 h
  refine D<|F<|C rfl<|E (kt<|kn) fun _=>?_
  exact L (by cases h;rfl)
 ·replace h:=O hc22 h
  refine P (kt<|kt<|kt<|kt<|kn) fun _=>?_
  refine D<|b9 rfl<|R rfl rfl (show _=eTypes t from rfl)<|C rfl<|K rfl<|J rfl<|C rfl ?_
  obtain ⟨x28,hx28,h⟩:=I h
  refine W rfl rfl rfl hx28 rfl<|a6 rfl<|J rfl ?_
  obtain ⟨x31,hx31,h⟩:=I h
  refine T rfl (c120 t from' x28.From _ hx31)<|C rfl ?_
  obtain ⟨x42,hx42,h⟩:=I h
  refine gX 10 [33,34,35,36,37,38,39,40,41] 42 x42 x31 (fun hg42=>?_) (fun hg42=>?_) ?_
  ·replace h:=M hg42 hx42
   refine G rfl hg42<|R rfl rfl (show _=eTypes t from rfl)<|G rfl hg42<|C rfl<|G rfl hg42<|K rfl<|G rfl hg42<|J rfl<|G rfl hg42<|C rfl ?_
   obtain ⟨x38,hx38,h⟩:=I h
   refine G rfl hg42<|W rfl rfl rfl hx38 rfl<|G rfl hg42<|a6 rfl<|G rfl hg42<|J rfl ?_
   obtain ⟨x41,hx41,h⟩:=I h
   refine G rfl hg42<|T rfl (c120 t to' x38.To _ hx41) ?_
   cases h
   refine Y rfl hg42 rfl ?_
   exact ⟨⟨_,_,_,_,_,_,_,_,_,rfl⟩⟩
  ·replace h:=O hg42 hx42
   cases h
   refine H rfl hg42<|H rfl hg42<|H rfl hg42<|H rfl hg42<|H rfl hg42<|H rfl hg42<|H rfl hg42<|H rfl hg42<|H rfl hg42<|Z rfl hg42 rfl ?_
   exact ⟨⟨_,_,_,_,_,_,_,_,_,rfl⟩⟩
  rintro _ ⟨_,_,_,_,_,_,_,_,_,rfl⟩
  refine C rfl<|E (kt<|kn) fun _=>?_
  exact L (by cases h;rfl)
end Go.Sf.Sc
