/- Contracts of the functions. -/
import Derived.Test.YtbedpmpjdnooiaaGreatCon0
import Derived.Test.YtbedpmpjdnooiaaGreatTryzShelf
set_option maxRecDepth 100000
namespace Go.Sf.Sc
open Go Go.Sf Go.Proofs.Tryz
theorem ck162:CK f162 (Rq [Ak 4] [0,1,2]<|Rq [Ac 6 1 1,Ab 7 6,Aa 8 0,Ag 9 7 8 3,Ae 10 9 3,Cl 5 0 0 0,Ai 3 5 10] [1,2,5]<|Sq (Dr [4,11,12,13,14,15,16,17,18,19,20,21,22,23,24,25,26,27] [Ae 11 2 2,Ac 12 5 0,Ab 13 12,Ac 14 1 0,Ab 15 14,Ac 16 5 1,Ab 17 16,Ag 18 15 17 1,Ab 19 18,Ac 20 1 0,Ab 21 20,Ac 22 5 2,Ab 23 22,Ag 24 21 23 1,Ab 25 24,Ce 26 56 11 13 19 25,Ay 27 26,Aa 4 27] [4])<|.ret) [.tmp 4]:= by decide +kernel
theorem c162 (i_0:Int) (c0:Graph) (c1:Types) (r:Bool) (h:rule_makable_2 i_0 c0 c1=some r):Sound prog 162 [eI i_0,.pt (eGraph c0).cells,.pt (eTypes c1).cells] (.sh (eB r)):= by
 refine Fn ck162 fun hw=>?_
 unfold rule_makable_2 at h
 refine D<|F<|C rfl<|E (kt<|kt<|kt<|kn) fun _=>?_
 refine D<|F<|K rfl<|J rfl<|C rfl ?_
 obtain ⟨x9,hx9,h⟩:=I h
 refine Z rfl rfl rfl hx9 rfl<|R rfl rfl (show _=eEdge x9 from rfl)<|a9 rfl<|a7 rfl rfl rfl rfl rfl<|E (kt<|kt<|kb<|kn) fun _=>?_
 refine D<|d1 rfl<|R rfl rfl (show _=eTypes c1 from rfl)<|a4 rfl<|J rfl<|K rfl<|J rfl<|a4 rfl<|J rfl ?_
 obtain ⟨x18,hx18,h⟩:=I h
 refine Z rfl rfl rfl hx18 rfl<|J rfl<|K rfl<|J rfl<|a4 rfl<|J rfl ?_
 obtain ⟨x24,hx24,h⟩:=I h
 refine Z rfl rfl rfl hx24 rfl<|J rfl ?_
 obtain ⟨x26,hx26,h⟩:=I h
 refine S rfl (c56 c1 x9.Type' x18 x24 _ hx26)<|b6 rfl<|C rfl<|E (kt<|kn) fun _=>?_
 exact L (by cases h;rfl)
theorem ck102:CK f102 (Rq [Af 4 0,Af 5 1,Ak 8] [2,3,4,5]<|Rq [Aa 9 2,⟨some 10,.clo 161 [.s 4,.s 5],none⟩,Al 11 30 9 10,Ay 12 11,Aa 13 12,Am 14 3 13,⟨some 15,.clo 162 [.s 5,.s 4],some (13,true)⟩,Bn 16 30 14 15 13,Ek 17 16 13,An 18 13 17,Aa 8 18] [8]<|.ret) [.tmp 8]:= by decide +kernel
theorem c102 (t:Types) (g:Graph) (nodes:List Int) (edges:List Int) (r:Bool) (h:rule_makable t g nodes edges=some r):Sound prog 102 [eTypes t,eGraph g,lI nodes,lI edges] (.sh (eB r)):= by
 refine Fn ck102 fun hw=>?_
 unfold rule_makable at h
 refine D<|F<|a3 rfl rfl<|a3 rfl rfl<|C rfl<|E (kt<|kt<|kt<|kt<|kn) fun _=>?_
 refine D<|F<|C rfl<|g0 rfl ?_
 obtain ⟨x11,hx11,h⟩:=I h
 refine S rfl (c30 nodes (fun y0=>rule_makable_1 y0 t g) _ _ (fun y0 r h=>c161 y0 t g r h) _ hx11)<|b6 rfl<|C rfl ?_
 obtain ⟨x18,hx18,h⟩:=I h
 refine gX 5 [14,15,16,17] 18 x18 (!x11) (fun hg18=>?_) (fun hg18=>?_) ?_
 ·replace h:=M hg18 hx18
  refine G rfl hg18<|C rfl<|G rfl hg18<|g0 rfl ?_
  obtain ⟨x16,hx16,h⟩:=I h
  refine G rfl hg18<|S rfl (c30 edges (fun y0=>rule_makable_2 y0 g t) _ _ (fun y0 r h=>c162 y0 g t r h) _ hx16)<|G rfl hg18<|b6 rfl ?_
  cases h
  refine X rfl hg18 rfl ?_
  exact ⟨⟨_,_,_,_,rfl⟩⟩
 ·replace h:=O hg18 hx18
  cases h
  refine H rfl hg18<|H rfl hg18<|H rfl hg18<|H rfl hg18<|Y rfl hg18 rfl ?_
  exact ⟨⟨_,_,_,_,rfl⟩⟩
 rintro _ ⟨_,_,_,_,rfl⟩
 refine C rfl<|E (kt<|kn) fun _=>?_
 exact L (by cases h;rfl)
theorem ck243:CK f243 (Rq [Af 1 0,Ak 2] [1]<|Rq [Ac 4 1 4,Ae 5 4 5,Fb 3 1 3 4 0 5,Ai 5 3 5] [1,3]<|Rq [Ac 6 1 2,Aj 7 6 0,Ab 8 7,Ah 9 8,Ac 10 1 2,Aj 11 10 1,Ab 12 11,Ah 13 12,Bo 14 9 13,Ac 15 3 0,Aj 16 15 0,Ab 17 16,Ah 18 17,Bo 19 14 18,Ac 20 3 0,Aj 21 20 1,Ab 22 21,Ah 23 22,Bo 24 19 23,Ac 25 3 2,Ab 26 25,Ah 27 26,Bo 28 24 27,Ac 29 3 4,Ab 30 29,Ah 31 30,Bo 32 28 31,Bh 33 32 0,Aa 34 33,Aw 35 3 3 34,Av 36 35 34,Cm 37 36 0 34,An 38 34 37,Aa 2 38] [2]<|.ret) [.tmp 2]:= by decide +kernel
theorem c243 (c:Condition) (r:Bool) (h:condition_bare c=some r):Sound prog 243 [eCondition c] (.sh (eB r)):= by
 refine Fn ck243 fun hw=>?_
 unfold condition_bare at h
 refine D<|F<|a3 rfl rfl<|C rfl<|E (kt<|kn) fun _=>?_
 refine D<|F<|K rfl<|R rfl rfl (show _=ePattern c.Pattern from rfl)<|a9 rfl<|a7 rfl rfl rfl rfl rfl<|E (kt<|kb<|kn) fun _=>?_
 refine D<|F<|K rfl<|a8 rfl<|J rfl<|U rfl rfl<|K rfl<|a8 rfl<|J rfl<|U rfl rfl<|a6 rfl rfl<|a4 rfl<|f2 rfl rfl<|J rfl<|U rfl rfl<|a6 rfl rfl<|a4 rfl<|f2 rfl rfl<|J rfl<|U rfl rfl<|a6 rfl rfl<|a4 rfl<|J rfl<|U rfl rfl<|a6 rfl rfl<|a4 rfl<|J rfl<|U rfl rfl<|a6 rfl rfl<|d2 rfl rfl ?_
 refine C rfl ?_
 refine gA 4 [35,36,37] 38 (decide ((w64 ((w64 ((w64 ((w64 ((w64 ((c.Map.Nodes.length:Int)+(c.Map.Edges.length:Int)))+(c.Pattern.Graph.Nodes.length:Int)))+(c.Pattern.Graph.Edges.length:Int)))+(c.Pattern.Slots.length:Int)))+(c.Pattern.Tests.length:Int)))=0)) (decide (c.Pattern.Vars=0)) (fun hg38=>?_) (fun hg38=>?_) ?_
 ·refine G rfl hg38<|a4 rfl<|G rfl hg38<|J rfl<|G rfl hg38<|d2 rfl rfl<|X rfl hg38 rfl ?_
  exact ⟨⟨_,_,_,rfl⟩⟩
 ·refine H rfl hg38<|H rfl hg38<|H rfl hg38<|Y rfl hg38 rfl ?_
  exact ⟨⟨_,_,_,rfl⟩⟩
 rintro _ ⟨_,_,_,rfl⟩
 refine C rfl<|E (kt<|kn) fun _=>?_
 exact L (by cases h;rfl)
theorem ck257:CK f257 (Rq [Ad 4 0] [0,1]<|Sq (Rq [Aa 6 0,Ah 7 6,Ad 8 0] [0,1,7,8]<|Bl 0<|Lo [0,1,7,8]<|Rq [Aq 9 8 7] [0,1,7,8,9]<|Sq (Co 9 (Sk [0,1,7,8])<|Ex 0 [])<|Sq (Bl 1<|Rq [Aa 10 8,Aa 5 10] [0,1,5,7,8]<|Rq [Aa 11 1,Aa 12 0,Aa 13 5,Ag 14 12 13 9,Ae 15 14 9,Bu 16 11 15] [0,1,5,7,8,16]<|Co 16 (Rq [Aa 17 5,Aa 4 17] [4]<|.ret)<|Sk [0,1,7,8])<|Re [Ap 18 8 1,Aa 8 18] [0,1,7,8])<|Rq [Bz 4 (-1)] [4]<|.ret) [.tmp 4]:= by decide +kernel
theorem c257 (s_0:List Condition) (f:Condition->Option Bool) (f_f:FuncId) (k_f:List TV) (h_f:∀ (y0:Condition) r,f y0=some r->Sound prog f_f ([eCondition y0]++k_f) (.sh (eB r))) (r:Int) (h:slices_IndexFunc_Condition s_0 f=some r):Sound prog 257 [eLCondition s_0,.clo f_f k_f] (.sh (eI r)):= by
 refine Fn ck257 fun hw=>?_
 unfold slices_IndexFunc_Condition at h
 refine D<|F<|C rfl<|E (kt<|kt<|kn) fun _=>?_
 refine D<|D<|F<|C rfl<|U rfl (eLCondition_eq _)<|C rfl<|E (kt<|kt<|kt<|kt<|kn) fun _=>?_
 obtain ⟨o0,ho0,h⟩:=d4 h
 refine e1 ho0 (fun (i0:Int) (_:Unit)=>[(0,.tv (eLCondition s_0)),(1,.tv (.clo f_f k_f)),(7,.tv (eI (s_0.length:Int))),(8,.tv (eI i0))]) (fun (_:Unit)=>[]) (fun zv ze=>resIs ([.tmp 4]) (.sh (eI zv)) ze) rfl ?_ ?_ ?_ ?_
 ·clear h ho0
  intro i0 s0 r0 hi0 h hw0
  refine D<|F<|V rfl rfl<|E (kt<|kt<|kt<|kt<|kt<|kn) fun _=>?_
  refine D<|b7 rfl (b8 hi0)<|P (kt<|kt<|kt<|kt<|kn) fun _=>?_
  refine D<|b0<|D<|F<|C rfl<|C rfl<|E (kt<|kt<|kt<|kt<|kt<|kn) fun _=>?_
  refine D<|F<|C rfl<|C rfl<|C rfl ?_
  obtain ⟨x14,hx14,h⟩:=I h
  refine Z rfl rfl (eLCondition_eq _) hx14 rfl<|R rfl rfl (show _=eCondition x14 from rfl) ?_
  obtain ⟨x16,hx16,h⟩:=I h
  refine g4 rfl rfl (h_f _ _ hx16)<|E (kt<|kt<|kt<|kt<|kt<|kt<|kn) fun _=>?_
  refine T rfl (fun hc16=>?_) (fun hc16=>?_)
  ·replace h:=M hc16 h
   refine D<|F<|C rfl<|C rfl<|E (kt<|kn) fun _=>?_
   refine L ?_
   cases h
   exact ⟨_,rfl,rfl⟩
  ·replace h:=O hc16 h
   refine P (kt<|kt<|kt<|kt<|kn) fun _=>?_
   refine F<|a6 rfl rfl<|C rfl<|E (kt<|kt<|kt<|kt<|kn) ?_
   cases h
   refine ⟨_,rfl,?_⟩
   rw [Ktv rfl (Ktv rfl (Ktv rfl (Ktv rfl (Knil _))))]
   rw [b4 (a5 (hw0 8)) hi0 (d3 (a5 (hw0 7)))]
   all_goals rfl
 ·intro i0 s0 hi0
  refine D<|F<|V rfl rfl<|E (kt<|kt<|kt<|kt<|kt<|kn) fun _=>?_
  refine D<|b9 rfl (d0 hi0)<|b3 (kn) ?_
  exact ⟨rfl,rfl⟩
 ·intro s0 hs
  replace h:=d5 h hs
  intro _
  refine D<|F<|C rfl<|E (kt<|kn) fun _=>?_
  exact L (by cases h;rfl)
 ·intro v0 ze hv hR
  replace h:=d6 h hv
  cases h
  exact hR
theorem ck244:CK f244 (Rq [Ak 4] [0,1]<|Rq [Aa 5 0,Aa 6 1,Al 7 257 5 6,Bj 8 7 0,Aa 4 8] [4]<|.ret) [.tmp 4]:= by decide +kernel
theorem c244 (s_0:List Condition) (f:Condition->Option Bool) (f_f:FuncId) (k_f:List TV) (h_f:∀ (y0:Condition) r,f y0=some r->Sound prog f_f ([eCondition y0]++k_f) (.sh (eB r))) (r:Bool) (h:slices_ContainsFunc_Condition s_0 f=some r):Sound prog 244 [eLCondition s_0,.clo f_f k_f] (.sh (eB r)):= by
 refine Fn ck244 fun hw=>?_
 unfold slices_ContainsFunc_Condition at h
 refine D<|F<|C rfl<|E (kt<|kt<|kn) fun _=>?_
 refine D<|F<|C rfl<|C rfl ?_
 obtain ⟨x7,hx7,h⟩:=I h
 refine S rfl (c257 s_0 f _ _ h_f _ hx7)<|d8 rfl rfl<|C rfl<|E (kt<|kn) fun _=>?_
 exact L (by cases h;rfl)
theorem ck209:CK f209 (Rq [Af 1 0,Ak 2] [1]<|Rq [Ac 5 1 1,Ab 6 5,Ah 7 6,Aa 3 7] [1,3]<|Rq [Ak 4] [1,3,4]<|Sq (Rq [Ac 8 1 0,Ab 9 8] [1,3,4,9]<|Bl 0<|Rq [Bh 11 9 1,Aa 10 11] [1,3,4,9,10]<|Co 10 (Re [Aa 12 3,Bh 13 12 0,Aa 14 13,Bk 15 1 9 14,Dc 16 243 15 14,An 17 14 16,Aa 4 17] [1,4])<|Rq [Bh 19 9 2,Aa 18 19] [1,3,4,9,18]<|Co 18 (Re [Aa 20 3,Bh 21 20 1,Aa 22 21,Bk 23 1 9 22,Dc 24 243 23 22,An 25 22 24,Aa 4 25] [1,4])<|Sq (Rq [Bh 27 9 3,Aa 26 27] [1,3,4,9,26]<|Co 26 (Sk [1,3,4,9,26])<|Re [Bh 28 9 4,Aa 26 28] [1,3,4,9,26])<|Co 26 (Re [Aa 29 3,Bj 30 29 1,Aa 31 30,Bk 32 1 9 31,Dc 33 243 32 31,An 34 31 33,Aa 4 34] [1,4])<|Rq [Bh 36 9 5,Aa 35 36] [1,3,4,35]<|Co 35 (Re [Aa 37 3,Bh 38 37 1,Aa 4 38] [1,4])<|Sk [1,4])<|Rq [Aa 39 4,Aa 40 39,Aw 41 1 1 40,Av 42 41 40,⟨some 43,.call 244 [.s 42,.c (.clo 245 [])],some (40,true)⟩,Ek 44 43 40,An 45 40 44,Aa 2 45] [2]<|.ret) [.tmp 2]:= by decide +kernel
theorem ck245:CK f245 (Rq [Af 1 0,Ak 2] [1]<|Rq [Ae 3 1 9,At 4 209 3,Ay 5 4,Aa 2 5] [2]<|.ret) [.tmp 2]:= by decide +kernel
theorem c209S (n:Nat) (ih_209:∀ (c:Condition) (r:Bool) (_:condition_wellFormedF n c=some r),Sound prog 209 [eCondition c] (.sh (eB r))) (ih_245:∀ (k:Condition) (r:Bool) (_:condition_wellFormed_1F n k=some r),Sound prog 245 [eCondition k] (.sh (eB r))):∀ (c:Condition) (r:Bool) (_:condition_wellFormedF (n+1) c=some r),Sound prog 209 [eCondition c] (.sh (eB r)):= by
 intro c r h
 refine Fn ck209 fun hw=>?_
 unfold condition_wellFormedF at h
 refine D<|F<|a3 rfl rfl<|C rfl<|E (kt<|kn) fun _=>?_
 refine D<|F<|K rfl<|J rfl<|U rfl (eLCondition_eq _)<|C rfl<|E (kt<|kt<|kn) fun _=>?_
 refine D<|F<|C rfl<|E (kt<|kt<|kt<|kn) fun _=>?_
 refine D<|D<|F<|K rfl<|J rfl<|E (kt<|kt<|kt<|kt<|kn) fun _=>?_
 refine b0<|D<|F<|d2 rfl rfl<|C rfl<|E (kt<|kt<|kt<|kt<|kt<|kn) fun _=>?_
 obtain ⟨w1,hw1,h⟩:=I h
 refine l6 (fun ze=>ze=[(1,.tv (.pt (eCondition c).cells)),(4,.tv (eB w1))]) ?_ ?_
 ·replace h:=hw1
  clear hw1
  refine T rfl (fun hc10=>?_) (fun hc10=>?_)
  ·replace h:=M hc10 h
   refine F<|C rfl<|d2 rfl rfl<|C rfl ?_
   obtain ⟨x17,hx17,h⟩:=I h
   refine gX 3 [15,16] 17 x17 (decide ((c.Kids.length:Int)=0)) (fun hg17=>?_) (fun hg17=>?_) ?_
   ·replace h:=M hg17 hx17
    refine G rfl hg17<|R rfl rfl (show _=eCondition c from rfl) ?_
    obtain ⟨x16,hx16,h⟩:=I h
    refine G rfl hg17<|S rfl (c243 c _ hx16) ?_
    cases h
    refine X rfl hg17 rfl ?_
    exact ⟨⟨_,_,rfl⟩⟩
   ·replace h:=O hg17 hx17
    cases h
    refine H rfl hg17<|H rfl hg17<|Y rfl hg17 rfl ?_
    exact ⟨⟨_,_,rfl⟩⟩
   rintro _ ⟨_,_,rfl⟩
   refine C rfl<|E (kt<|kt<|kn) ?_
   cases h
   exact rfl
  ·replace h:=O hc10 h
   refine D<|F<|d2 rfl rfl<|C rfl<|E (kt<|kt<|kt<|kt<|kt<|kn) fun _=>?_
   refine T rfl (fun hc18=>?_) (fun hc18=>?_)
   ·replace h:=M hc18 h
    refine F<|C rfl<|d2 rfl rfl<|C rfl ?_
    obtain ⟨x25,hx25,h⟩:=I h
    refine gX 3 [23,24] 25 x25 (decide ((c.Kids.length:Int)=1)) (fun hg25=>?_) (fun hg25=>?_) ?_
    ·replace h:=M hg25 hx25
     refine G rfl hg25<|R rfl rfl (show _=eCondition c from rfl) ?_
     obtain ⟨x24,hx24,h⟩:=I h
     refine G rfl hg25<|S rfl (c243 c _ hx24) ?_
     cases h
     refine X rfl hg25 rfl ?_
     exact ⟨⟨_,_,rfl⟩⟩
    ·replace h:=O hg25 hx25
     cases h
     refine H rfl hg25<|H rfl hg25<|Y rfl hg25 rfl ?_
     exact ⟨⟨_,_,rfl⟩⟩
    rintro _ ⟨_,_,rfl⟩
    refine C rfl<|E (kt<|kt<|kn) ?_
    cases h
    exact rfl
   ·replace h:=O hc18 h
    refine D<|D<|F<|d2 rfl rfl<|C rfl<|E (kt<|kt<|kt<|kt<|kt<|kn) fun _=>?_
    refine T rfl (fun hc26=>?_) (fun hc26=>?_)
    ·replace h:=M hc26 h
     refine P (kt<|kt<|kt<|kt<|kt<|kn) fun _=>?_
     refine T rfl (fun hc26=>?_) (fun hc26=>?_)
     ·replace h:=M hc26 h
      refine F<|C rfl<|d8 rfl rfl<|C rfl ?_
      obtain ⟨x34,hx34,h⟩:=I h
      refine gX 3 [32,33] 34 x34 (decide (1<=(c.Kids.length:Int))) (fun hg34=>?_) (fun hg34=>?_) ?_
      ·replace h:=M hg34 hx34
       refine G rfl hg34<|R rfl rfl (show _=eCondition c from rfl) ?_
       obtain ⟨x33,hx33,h⟩:=I h
       refine G rfl hg34<|S rfl (c243 c _ hx33) ?_
       cases h
       refine X rfl hg34 rfl ?_
       exact ⟨⟨_,_,rfl⟩⟩
      ·replace h:=O hg34 hx34
       cases h
       refine H rfl hg34<|H rfl hg34<|Y rfl hg34 rfl ?_
       exact ⟨⟨_,_,rfl⟩⟩
      rintro _ ⟨_,_,rfl⟩
      refine C rfl<|E (kt<|kt<|kn) ?_
      cases h
      exact rfl
     ·replace h:=O hc26 h
      refine D<|F<|d2 rfl rfl<|C rfl<|E (kt<|kt<|kt<|kt<|kn) fun _=>?_
      refine T rfl (fun hc35=>?_) (fun hc35=>?_)
      ·replace h:=M hc35 h
       refine F<|C rfl<|d2 rfl rfl<|C rfl<|E (kt<|kt<|kn) ?_
       cases h
       exact rfl
      ·replace h:=O hc35 h
       refine P (kt<|kt<|kn) ?_
       cases h
       exact rfl
    ·replace h:=O hc26 h
     refine F<|d2 rfl rfl<|C rfl<|E (kt<|kt<|kt<|kt<|kt<|kn) fun _=>?_
     refine T rfl (fun hc26=>?_) (fun hc26=>?_)
     ·replace h:=M hc26 h
      refine F<|C rfl<|d8 rfl rfl<|C rfl ?_
      obtain ⟨x34,hx34,h⟩:=I h
      refine gX 3 [32,33] 34 x34 (decide (1<=(c.Kids.length:Int))) (fun hg34=>?_) (fun hg34=>?_) ?_
      ·replace h:=M hg34 hx34
       refine G rfl hg34<|R rfl rfl (show _=eCondition c from rfl) ?_
       obtain ⟨x33,hx33,h⟩:=I h
       refine G rfl hg34<|S rfl (c243 c _ hx33) ?_
       cases h
       refine X rfl hg34 rfl ?_
       exact ⟨⟨_,_,rfl⟩⟩
      ·replace h:=O hg34 hx34
       cases h
       refine H rfl hg34<|H rfl hg34<|Y rfl hg34 rfl ?_
       exact ⟨⟨_,_,rfl⟩⟩
      rintro _ ⟨_,_,rfl⟩
      refine C rfl<|E (kt<|kt<|kn) ?_
      cases h
      exact rfl
     ·replace h:=O hc26 h
      refine D<|F<|d2 rfl rfl<|C rfl<|E (kt<|kt<|kt<|kt<|kn) fun _=>?_
      refine T rfl (fun hc35=>?_) (fun hc35=>?_)
      ·replace h:=M hc35 h
       refine F<|C rfl<|d2 rfl rfl<|C rfl<|E (kt<|kt<|kn) ?_
       cases h
       exact rfl
      ·replace h:=O hc35 h
       refine P (kt<|kt<|kn) ?_
       cases h
       exact rfl
 rintro _ rfl
 intro _
 refine D<|F<|C rfl<|C rfl ?_
 obtain ⟨x45,hx45,h⟩:=I h
 refine gX 5 [41,42,43,44] 45 x45 w1 (fun hg45=>?_) (fun hg45=>?_) ?_
 ·replace h:=M hg45 hx45
  refine G rfl hg45<|K rfl<|G rfl hg45<|J rfl ?_
  obtain ⟨x43,hx43,h⟩:=I h
  refine G rfl hg45<|S rfl (c244 c.Kids (condition_wellFormed_1F n) _ _ (fun y0 r h=>ih_245 y0 r h) _ hx43)<|G rfl hg45<|b6 rfl ?_
  cases h
  refine X rfl hg45 rfl ?_
  exact ⟨⟨_,_,_,_,rfl⟩⟩
 ·replace h:=O hg45 hx45
  cases h
  refine H rfl hg45<|H rfl hg45<|H rfl hg45<|H rfl hg45<|Y rfl hg45 rfl ?_
  exact ⟨⟨_,_,_,_,rfl⟩⟩
 rintro _ ⟨_,_,_,_,rfl⟩
 refine C rfl<|E (kt<|kn) fun _=>?_
 exact L (by cases h;rfl)
theorem c245S (n:Nat) (ih_209:∀ (c:Condition) (r:Bool) (_:condition_wellFormedF n c=some r),Sound prog 209 [eCondition c] (.sh (eB r))) (ih_245:∀ (k:Condition) (r:Bool) (_:condition_wellFormed_1F n k=some r),Sound prog 245 [eCondition k] (.sh (eB r))):∀ (k:Condition) (r:Bool) (_:condition_wellFormed_1F (n+1) k=some r),Sound prog 245 [eCondition k] (.sh (eB r)):= by
 intro k r h
 refine Fn ck245 fun hw=>?_
 unfold condition_wellFormed_1F at h
 refine D<|F<|a3 rfl rfl<|C rfl<|E (kt<|kn) fun _=>?_
 refine D<|F<|R rfl rfl (show _=eCondition k from rfl) ?_
 obtain ⟨x4,hx4,h⟩:=I h
 refine S rfl (ih_209 k _ hx4)<|b6 rfl<|C rfl<|E (kt<|kn) fun _=>?_
 exact L (by cases h;rfl)
theorem c209A:∀ n:Nat,(∀ (c:Condition) (r:Bool) (_:condition_wellFormedF n c=some r),Sound prog 209 [eCondition c] (.sh (eB r)))∧(∀ (k:Condition) (r:Bool) (_:condition_wellFormed_1F n k=some r),Sound prog 245 [eCondition k] (.sh (eB r))):=by
  intro n
  induction n with
  | zero=>exact ⟨(by intro c r h; cases h),(by intro k r h; cases h)⟩
  | succ n ih=>exact ⟨c209S n ih.1 ih.2,c245S n ih.1 ih.2⟩
theorem c209 (c:Condition) (r:Bool) (h:condition_wellFormed c=some r):Sound prog 209 [eCondition c] (.sh (eB r)):=by
  obtain ⟨N,hN⟩:=lim_some h
  exact (c209A N).1 c r (hN N (Nat.le_refl _))
theorem ck210:CK f210 (Rq [Af 1 0,Ad 2 0,Ad 3 0] [1]<|Rq [Ad 4 1,Ad 5 0] [1,4,5]<|Sq (Rq [Ac 10 1 1,Ab 11 10,Ah 12 11,Ad 13 0] [1,4,5,11,12,13]<|Bl 0<|Lo [1,4,5,11,12,13]<|Rq [Aq 14 13 12] [1,4,5,11,12,13,14]<|Sq (Co 14 (Sk [1,4,5,11,12,13])<|Ex 0 [1,4,5])<|Sq (Bl 1<|Rq [Ag 15 11 13 9,Ae 16 15 9,Fc 7 0 9 1 1 1 3 4 0 5,Ai 9 7 16] [1,4,5,7,11,12,13]<|Rq [Ae 18 7 9,At 19 210 18,Aa 17 19,Ao 20 17 0,Ao 21 17 1,Aa 8 20,Aa 9 21] [1,4,5,8,9,11,12,13]<|Re [Aa 22 4,Aa 23 8,Bo 24 22 23,Aa 25 5,Aa 26 9,⟨some 27,.mm true (.s 25) (.s 26),none⟩,Aa 4 24,Aa 5 27] [1,4,5,11,12,13])<|Re [Ap 28 13 1,Aa 13 28] [1,4,5,11,12,13])<|Sq (Rq [Ac 29 1 0,Ab 30 29,Bh 31 30 5] [4,5,31]<|Co 31 (Re [Aa 32 5,Ap 33 32 1,Aa 5 33] [4,5])<|Sk [4,5])<|Rq [Aa 34 4,Aa 35 5,Aa 2 34,Aa 3 35] [2,3]<|.ret) [.tmp 2,.tmp 3]:= by decide +kernel
theorem c210S (n:Nat) (ih_210:∀ (c:Condition) (r:(Int × Int)) (_:condition_measureF n c=some r),Sound prog 210 [eCondition c] (.tp [eI r.1,eI r.2])):∀ (c:Condition) (r:(Int × Int)) (_:condition_measureF (n+1) c=some r),Sound prog 210 [eCondition c] (.tp [eI r.1,eI r.2]):= by
 intro c r h
 refine Fn ck210 fun hw=>?_
 unfold condition_measureF at h
 refine D<|F<|a3 rfl rfl<|C rfl<|C rfl<|E (kt<|kn) fun _=>?_
 refine D<|F<|C rfl<|C rfl<|E (kt<|kt<|kt<|kn) fun _=>?_
 refine D<|D<|F<|K rfl<|J rfl<|U rfl (eLCondition_eq _)<|C rfl<|E (kt<|kt<|kt<|kt<|kt<|kt<|kn) fun _=>?_
 obtain ⟨s0,hs0,h⟩:=I h
 refine f3 hs0 (fun (i0:Int) (s0:Int × Int)=>[(1,.tv (.pt (eCondition c).cells)),(4,.tv (eI s0.1)),(5,.tv (eI s0.2)),(11,.tv (eLCondition c.Kids)),(12,.tv (eI (c.Kids.length:Int))),(13,.tv (eI i0))]) (fun (s0:Int × Int)=>[(1,.tv (.pt (eCondition c).cells)),(4,.tv (eI s0.1)),(5,.tv (eI s0.2))]) rfl ?_ ?_ ?_
 ·clear h hs0
  intro i0 s0 r0 hi0 h hw0
  refine D<|F<|V rfl rfl<|E (kt<|kt<|kt<|kt<|kt<|kt<|kt<|kn) fun _=>?_
  refine D<|b7 rfl (b8 hi0)<|P (kt<|kt<|kt<|kt<|kt<|kt<|kn) fun _=>?_
  refine D<|b0<|D<|F ?_
  obtain ⟨x15,hx15,h⟩:=I h
  refine Z rfl rfl (eLCondition_eq _) hx15 rfl<|R rfl rfl (show _=eCondition x15 from rfl)<|a9 rfl<|a7 rfl rfl rfl rfl rfl<|E (kt<|kt<|kt<|kb<|kt<|kt<|kt<|kn) fun _=>?_
  refine D<|F<|R rfl rfl (show _=eCondition x15 from rfl) ?_
  obtain ⟨x19,hx19,h⟩:=I h
  refine e5 rfl (ih_210 x15 _ hx19)<|e8 rfl<|b2 rfl rfl<|b2 rfl rfl<|C rfl<|C rfl<|E (kt<|kt<|kt<|kt<|kt<|kt<|kt<|kt<|kn) fun _=>?_
  refine F<|C rfl<|C rfl<|a6 rfl rfl<|C rfl<|C rfl<|q4 rfl rfl<|C rfl<|C rfl<|E (kt<|kt<|kt<|kt<|kt<|kt<|kn) fun _=>?_
  refine F<|a6 rfl rfl<|C rfl<|E (kt<|kt<|kt<|kt<|kt<|kt<|kn) ?_
  cases h
  show Env.keep _ _=_
  rw [Ktv rfl (Ktv rfl (Ktv rfl (Ktv rfl (Ktv rfl (Ktv rfl (Knil _))))))]
  rw [b4 (a5 (hw0 13)) hi0 (d3 (a5 (hw0 12)))]
  all_goals rfl
 ·intro i0 s0 hi0
  refine D<|F<|V rfl rfl<|E (kt<|kt<|kt<|kt<|kt<|kt<|kt<|kn) fun _=>?_
  refine D<|b9 rfl (d0 hi0)<|b3 (kt<|kt<|kt<|kn) ?_
  exact ⟨rfl,rfl⟩
 ·intro _
  refine D<|D<|F<|K rfl<|J rfl<|d2 rfl rfl<|E (kt<|kt<|kt<|kn) fun _=>?_
  obtain ⟨w1,hw1,h⟩:=I h
  refine l6 (fun ze=>ze=[(4,.tv (eI s0.1)),(5,.tv (eI w1))]) ?_ ?_
  ·replace h:=hw1
   clear hw1
   refine T rfl (fun hc31=>?_) (fun hc31=>?_)
   ·replace h:=M hc31 h
    refine F<|C rfl<|a6 rfl rfl<|C rfl<|E (kt<|kt<|kn) ?_
    cases h
    exact rfl
   ·replace h:=O hc31 h
    refine P (kt<|kt<|kn) ?_
    cases h
    exact rfl
  rintro _ rfl
  intro _
  refine D<|F<|C rfl<|C rfl<|C rfl<|C rfl<|E (kt<|kt<|kn) fun _=>?_
  refine L ?_
  cases h
  exact ⟨by decide,rfl⟩
theorem c210A:∀ n:Nat,(∀ (c:Condition) (r:(Int × Int)) (_:condition_measureF n c=some r),Sound prog 210 [eCondition c] (.tp [eI r.1,eI r.2])):=by
  intro n
  induction n with
  | zero=>intro c r h; cases h
  | succ n ih=>exact c210S n ih
theorem c210 (c:Condition) (r:(Int × Int)) (h:condition_measure c=some r):Sound prog 210 [eCondition c] (.tp [eI r.1,eI r.2]):=by
  obtain ⟨N,hN⟩:=lim_some h
  exact (c210A N) c r (hN N (Nat.le_refl _))
theorem ck163:CK f163 (Rq [Af 1 0,Ad 2 0] [1]<|Sq (Rq [Ae 5 1 9,At 6 209 5,Ay 7 6] [1,7]<|Co 7 (Rq [Ad 2 1] [2]<|.ret)<|Sk [1])<|Sq (Rq [Ae 9 1 9,At 10 210 9,Aa 8 10,Ao 11 8 0,Ao 12 8 1,Aa 3 11,Aa 4 12] [3,4]<|Rq [Aa 13 3,Bp 14 13 12,Aa 15 14,Az 16 4 15,Ci 17 16 3 15,Au 18 15 17] [18]<|Co 18 (Rq [Ad 2 3] [2]<|.ret)<|Sk [])<|Rq [Ad 2 0] [2]<|.ret) [.tmp 2]:= by decide +kernel
theorem c163 (c:Condition) (r:Int) (h:condition_shape c=some r):Sound prog 163 [eCondition c] (.sh (eI r)):= by
 refine Fn ck163 fun hw=>?_
 unfold condition_shape at h
 refine D<|F<|a3 rfl rfl<|C rfl<|E (kt<|kn) fun _=>?_
 refine D<|D<|F<|R rfl rfl (show _=eCondition c from rfl) ?_
 obtain ⟨x6,hx6,h⟩:=I h
 refine S rfl (c209 c _ hx6)<|b6 rfl<|E (kt<|kt<|kn) fun _=>?_
 refine T rfl (fun hc7=>?_) (fun hc7=>?_)
 ·replace h:=M hc7 h
  refine D<|F<|C rfl<|E (kt<|kn) fun _=>?_
  exact L (by cases h;rfl)
 ·replace h:=O hc7 h
  refine P (kt<|kn) fun _=>?_
  refine D<|D<|F<|R rfl rfl (show _=eCondition c from rfl) ?_
  obtain ⟨x10,hx10,h⟩:=I h
  refine e5 rfl (c210 c _ hx10)<|e8 rfl<|b2 rfl rfl<|b2 rfl rfl<|C rfl<|C rfl<|E (kt<|kt<|kn) fun _=>?_
  refine D<|F<|C rfl<|e7 rfl rfl<|C rfl ?_
  refine gO 3 [16,17] 18 (decide (12<x10.1)) (decide (3<x10.2)) (fun hg18=>?_) (fun hg18=>?_) ?_
  ·refine H rfl hg18<|H rfl hg18<|X rfl hg18 rfl ?_
   exact ⟨⟨_,_,rfl⟩⟩
  ·refine G rfl hg18<|C rfl<|G rfl hg18<|e7 rfl rfl<|Y rfl hg18 rfl ?_
   exact ⟨⟨_,_,rfl⟩⟩
  rintro _ ⟨_,_,rfl⟩
  refine E (kt<|kn) fun _=>?_
  refine T rfl (fun hc18=>?_) (fun hc18=>?_)
  ·replace h:=M hc18 h
   refine D<|F<|C rfl<|E (kt<|kn) fun _=>?_
   exact L (by cases h;rfl)
  ·replace h:=O hc18 h
   refine P (kn) fun _=>?_
   refine D<|F<|C rfl<|E (kt<|kn) fun _=>?_
   exact L (by cases h;rfl)
theorem ck246:CK f246 (Rq [Af 2 0,Ak 3] [1,2]<|Rq [Ac 4 2 2,Aj 5 4 0,Ab 6 5,Ab 7 1,Cr 8 6 7,Aa 3 8] [3]<|.ret) [.tmp 3]:= by decide +kernel
theorem c246 (s_0:Slot) (c0:Int) (r:Bool) (h:condition_pattern_1 s_0 c0=some r):Sound prog 246 [eSlot s_0,.pt [eI c0]] (.sh (eB r)):= by
 refine Fn ck246 fun hw=>?_
 unfold condition_pattern_1 at h
 refine D<|F<|a3 rfl rfl<|C rfl<|E (kt<|kt<|kn) fun _=>?_
 refine D<|F<|K rfl<|a8 rfl<|J rfl<|J rfl<|d2 rfl rfl<|C rfl<|E (kt<|kn) fun _=>?_
 exact L (by cases h;rfl)
theorem ck211:CK f211 (Rq [Af 3 0,Af 4 1,Ad 6 0] [2,3,4]<|Rq [Ae 9 3 2,Ae 10 4 5,Al 11 98 9 10,Aa 7 11] [2,4,7]<|Sq (Rq [Aa 12 7,Ax 13 12 9] [2,4,7,13]<|Co 13 (Rq [Aa 14 7,Aa 6 14] [6]<|.ret)<|Sk [2,4,7])<|Sq (Rq [Aa 15 2,En 8 0,Ai 1 8 15,Dd 8] [4,7,8]<|Bl 0<|Lo [4,7,8]<|Sq (Rq [Ab 16 8,Ac 17 4 3,Ab 18 17,Aq 19 16 18] [4,7,8,19]<|Co 19 (Sk [4,7,8])<|Ex 0 [])<|Sq (Bl 1<|Rq [Ac 22 4 2,Ab 23 22,Bx 24 246 8,Al 25 204 23 24,Ay 26 25] [4,7,8,26]<|Co 26 (Rq [Aa 27 7,Aa 6 27] [6]<|.ret)<|Sk [4,7,8])<|Sq (Rq [Ab 28 8] [4,7,28]<|Re [En 8 0,Ai 1 8 28] [4,7,8])<|Re [Ab 20 8,Ap 21 20 1,Ai 1 8 21,Dd 8] [4,7,8])<|Rq [Ad 6 0] [6]<|.ret) [.tmp 6]:= by decide +kernel
theorem c211 (t:Types) (q:Pattern) (outer:Int) (r:Int) (h:condition_pattern t q outer=some r):Sound prog 211 [eTypes t,ePattern q,eI outer] (.sh (eI r)):= by
 refine Fn ck211 fun hw=>?_
 unfold condition_pattern at h
 refine D<|F<|a3 rfl rfl<|a3 rfl rfl<|C rfl<|E (kt<|kt<|kt<|kn) fun _=>?_
 refine D<|F<|R rfl rfl (show _=eTypes t from rfl)<|R rfl rfl (show _=ePattern q from rfl) ?_
 obtain ⟨x11,hx11,h⟩:=I h
 refine S rfl (c98 t q _ hx11)<|C rfl<|E (kt<|kt<|kt<|kn) fun _=>?_
 refine D<|D<|F<|C rfl<|b1 rfl rfl<|E (kt<|kt<|kt<|kt<|kn) fun _=>?_
 refine T rfl (fun hc13=>?_) (fun hc13=>?_)
 ·replace h:=M hc13 h
  refine D<|F<|C rfl<|C rfl<|E (kt<|kn) fun _=>?_
  exact L (by cases h;rfl)
 ·replace h:=O hc13 h
  refine P (kt<|kt<|kt<|kn) fun _=>?_
  refine D<|D<|F<|C rfl<|a9 rfl<|a7 rfl rfl rfl rfl rfl<|l8 rfl rfl<|E (kt<|kt<|kt<|kn) fun _=>?_
  obtain ⟨o0,ho0,h⟩:=d4 h
  refine g9 ho0 (fun (s0:Int)=>[(4,.tv (.pt (ePattern q).cells)),(7,.tv (eI x11)),(8,.tv (.pt [eI s0]))]) (fun (s0:Int)=>[]) (fun zv ze=>resIs ([.tmp 6]) (.sh (eI zv)) ze) rfl ?_ ?_ ?_
  ·clear h ho0
   intro s0 r0 h hw0
   refine D<|D<|F<|J rfl<|K rfl<|J rfl<|V rfl rfl<|E (kt<|kt<|kt<|kt<|kn) fun _=>?_
   refine T rfl (fun hc19=>?_) (fun hc19=>?_)
   ·replace h:=M hc19 h
    refine P (kt<|kt<|kt<|kn) fun _=>?_
    refine D<|b0<|D<|F<|K rfl<|J rfl<|g0 rfl ?_
    obtain ⟨x25,hx25,h⟩:=I h
    refine S rfl (c204 q.Slots (fun y0=>condition_pattern_1 y0 s0) _ _ (fun y0 r h=>c246 y0 s0 r h) _ hx25)<|b6 rfl<|E (kt<|kt<|kt<|kt<|kn) fun _=>?_
    refine T rfl (fun hc26=>?_) (fun hc26=>?_)
    ·replace h:=M hc26 h
     refine D<|F<|C rfl<|C rfl<|E (kt<|kn) fun _=>?_
     refine L ?_
     cases h
     exact ⟨_,rfl,rfl⟩
    ·replace h:=O hc26 h
     refine P (kt<|kt<|kt<|kn) fun _=>?_
     refine D<|D<|F<|J rfl<|E (kt<|kt<|kt<|kn) fun _=>?_
     refine F<|a9 rfl<|a7 rfl rfl rfl rfl rfl<|E (kt<|kt<|kb<|kn) fun _=>?_
     refine F<|J rfl<|a6 rfl rfl<|a7 rfl rfl rfl rfl rfl<|l8 rfl rfl<|E (kt<|kt<|kt<|kn) ?_
     cases h
     refine ⟨_,rfl,?_⟩
     rw [Ktv rfl (Ktv rfl (Ktv rfl (Knil _)))]
     all_goals rfl
   ·replace h:=O hc19 h
    refine b3 (kn) ?_
    refine ⟨rfl,?_⟩
    cases h
    exact ⟨_,rfl,rfl⟩
  ·intro s0 hs
   replace h:=d5 h hs
   intro _
   refine D<|F<|C rfl<|E (kt<|kn) fun _=>?_
   exact L (by cases h;rfl)
  ·intro v0 ze hv hR
   replace h:=d6 h hv
   cases h
   exact hR
theorem ck164:CK f164 (Rq [Af 3 0,⟨some 4,.boxo (.s 1),none⟩,Af 5 2,Ad 6 0] [3,4,5]<|Sq (Rq [Ac 13 5 0,Ab 14 13,Bh 15 14 5] [3,4,5,15]<|Co 15 (Rq [Ac 16 5 4,Ae 17 16 5,Fb 7 1 3 4 0 5,Ai 5 7 17] [3,4,5,7]<|Sq (Rq [Ac 18 7 3,Ab 19 18,Ac 20 4 3,Ab 21 20,Aq 22 19 21] [3,4,5,7,22]<|Co 22 (Rq [Ad 6 20] [6]<|.ret)<|Sk [3,4,5,7])<|Sq (Rq [Ae 23 3 2,Ae 24 7 5,Ac 25 4 3,Ab 26 25,Bg 27 211 23 24 26,Aa 8 27] [3,4,5,7,8]<|Rq [Aa 28 8,Ax 29 28 0] [3,4,5,7,8,29]<|Co 29 (Rq [Aa 30 8,Aa 6 30] [6]<|.ret)<|Sk [3,4,5,7])<|Sq (Rq [Ac 31 4 0,Ae 32 31 2,Ac 33 7 0,Ae 34 33 2,Ac 35 5 2,Ae 36 35 2,Bg 37 158 32 34 36,Aa 9 37] [3,4,5,7,9]<|Rq [Aa 38 9,Ax 39 38 0] [3,4,5,7,9,39]<|Co 39 (Rq [Aa 40 9,Aa 6 40] [6]<|.ret)<|Sk [3,4,5,7])<|Sq (Rq [Ac 41 4 0,Ae 42 41 2,Ac 43 7 0,Ae 44 43 2,Ac 45 5 2,Ae 46 45 2,Bg 47 159 42 44 46,Ay 48 47] [3,4,5,7,48]<|Co 48 (Rq [Ad 6 1] [6]<|.ret)<|Sk [3,4,5,7])<|Re [Ae 49 7 5,Ai 5 4 49] [3,4,5])<|Sk [3,4,5])<|Sq (Rq [Ac 50 5 1,Ab 51 50,Ah 52 51,Ad 53 0] [3,4,51,52,53]<|Bl 0<|Lo [3,4,51,52,53]<|Rq [Aq 54 53 52] [3,4,51,52,53,54]<|Sq (Co 54 (Sk [3,4,51,52,53])<|Ex 0 [])<|Sq (Bl 1<|Rq [Ag 55 51 53 9,Ae 56 55 9,Fc 11 0 9 1 1 1 3 4 0 5,Ai 9 11 56] [3,4,11,51,52,53]<|Rq [Ae 57 3 2,Ae 58 4 5,Ae 59 11 9,Bg 60 164 57 58 59,Aa 12 60] [3,4,12,51,52,53]<|Rq [Aa 61 12,Ax 62 61 0] [3,4,12,51,52,53,62]<|Co 62 (Rq [Aa 63 12,Aa 6 63] [6]<|.ret)<|Sk [3,4,51,52,53])<|Re [Ap 64 53 1,Aa 53 64] [3,4,51,52,53])<|Rq [Ad 6 0] [6]<|.ret) [.tmp 6]:= by decide +kernel
theorem c164S (n:Nat) (ih_164:∀ (t:Types) (p:Pattern) (c:Condition) (r:Int) (_:condition_insideF n t p c=some r),Sound prog 164 [eTypes t,ePattern p,eCondition c] (.sh (eI r))):∀ (t:Types) (p:Pattern) (c:Condition) (r:Int) (_:condition_insideF (n+1) t p c=some r),Sound prog 164 [eTypes t,ePattern p,eCondition c] (.sh (eI r)):= by
 intro t p c r h
 refine Fn ck164 fun hw=>?_
 unfold condition_insideF at h
 refine D<|F<|a3 rfl rfl<|q5 rfl rfl rfl rfl<|a3 rfl rfl<|C rfl<|E (kt<|kb<|kt<|kn) fun _=>?_
 refine D<|D<|F<|K rfl<|J rfl<|d2 rfl rfl<|E (kt<|kb<|kt<|kt<|kn) fun _=>?_
 refine T rfl (fun hc15=>?_) (fun hc15=>?_)
 ·replace h:=M hc15 h
  refine D<|F<|K rfl<|R rfl rfl (show _=ePattern c.Pattern from rfl)<|a9 rfl<|a7 rfl rfl rfl rfl rfl<|E (kt<|kb<|kt<|kb<|kn) fun _=>?_
  refine D<|D<|F<|a4 rfl<|J rfl<|a4 rfl<|J rfl<|V rfl rfl<|E (kt<|kb<|kt<|kb<|kt<|kn) fun _=>?_
  refine T rfl (fun hc22=>?_) (fun hc22=>?_)
  ·replace h:=M hc22 h
   refine D<|F<|C rfl<|E (kt<|kn) fun _=>?_
   exact L (by cases h;rfl)
  ·replace h:=O hc22 h
   refine P (kt<|kb<|kt<|kb<|kn) fun _=>?_
   refine D<|D<|F<|R rfl rfl (show _=eTypes t from rfl)<|R rfl rfl (show _=ePattern c.Pattern from rfl)<|a4 rfl<|J rfl ?_
   obtain ⟨x27,hx27,h⟩:=I h
   refine S rfl (c211 t c.Pattern p.Vars _ hx27)<|C rfl<|E (kt<|kb<|kt<|kb<|kt<|kn) fun _=>?_
   refine D<|F<|C rfl<|b1 rfl rfl<|E (kt<|kb<|kt<|kb<|kt<|kt<|kn) fun _=>?_
   refine T rfl (fun hc29=>?_) (fun hc29=>?_)
   ·replace h:=M hc29 h
    refine D<|F<|C rfl<|C rfl<|E (kt<|kn) fun _=>?_
    exact L (by cases h;rfl)
   ·replace h:=O hc29 h
    refine P (kt<|kb<|kt<|kb<|kn) fun _=>?_
    refine D<|D<|F<|a4 rfl<|R rfl rfl (show _=eGraph p.Graph from rfl)<|a4 rfl<|R rfl rfl (show _=eGraph c.Pattern.Graph from rfl)<|K rfl<|R rfl rfl (show _=eMorphism c.Map from rfl) ?_
    obtain ⟨x37,hx37,h⟩:=I h
    refine S rfl (c158 p.Graph c.Pattern.Graph c.Map _ hx37)<|C rfl<|E (kt<|kb<|kt<|kb<|kt<|kn) fun _=>?_
    refine D<|F<|C rfl<|b1 rfl rfl<|E (kt<|kb<|kt<|kb<|kt<|kt<|kn) fun _=>?_
    refine T rfl (fun hc39=>?_) (fun hc39=>?_)
    ·replace h:=M hc39 h
     refine D<|F<|C rfl<|C rfl<|E (kt<|kn) fun _=>?_
     exact L (by cases h;rfl)
    ·replace h:=O hc39 h
     refine P (kt<|kb<|kt<|kb<|kn) fun _=>?_
     refine D<|D<|F<|a4 rfl<|R rfl rfl (show _=eGraph p.Graph from rfl)<|a4 rfl<|R rfl rfl (show _=eGraph c.Pattern.Graph from rfl)<|K rfl<|R rfl rfl (show _=eMorphism c.Map from rfl) ?_
     obtain ⟨x47,hx47,h⟩:=I h
     refine S rfl (c159 p.Graph c.Pattern.Graph c.Map _ hx47)<|b6 rfl<|E (kt<|kb<|kt<|kb<|kt<|kn) fun _=>?_
     refine T rfl (fun hc48=>?_) (fun hc48=>?_)
     ·replace h:=M hc48 h
      refine D<|F<|C rfl<|E (kt<|kn) fun _=>?_
      exact L (by cases h;rfl)
     ·replace h:=O hc48 h
      refine P (kt<|kb<|kt<|kb<|kn) fun _=>?_
      refine F<|R rfl rfl (show _=ePattern c.Pattern from rfl)<|a7 rfl rfl rfl rfl rfl<|E (kt<|kb<|kt<|kn) fun _=>?_
      refine D<|D<|F<|K rfl<|J rfl<|U rfl (eLCondition_eq _)<|C rfl<|E (kt<|kb<|kt<|kt<|kt<|kn) fun _=>?_
      obtain ⟨o0,ho0,h⟩:=d4 h
      refine e1 ho0 (fun (i0:Int) (_:Unit)=>[(3,.tv (.pt (eTypes t).cells)),(4,.bx [⟨false,lI c.Pattern.Graph.Nodes⟩,⟨false,lE c.Pattern.Graph.Edges⟩,⟨false,lS c.Pattern.Slots⟩,⟨false,eI c.Pattern.Vars⟩,⟨false,lT c.Pattern.Tests⟩]),(51,.tv (eLCondition c.Kids)),(52,.tv (eI (c.Kids.length:Int))),(53,.tv (eI i0))]) (fun (_:Unit)=>[]) (fun zv ze=>resIs ([.tmp 6]) (.sh (eI zv)) ze) rfl ?_ ?_ ?_ ?_
      ·clear h ho0
       intro i0 s0 r0 hi0 h hw0
       refine D<|F<|V rfl rfl<|E (kt<|kb<|kt<|kt<|kt<|kt<|kn) fun _=>?_
       refine D<|b7 rfl (b8 hi0)<|P (kt<|kb<|kt<|kt<|kt<|kn) fun _=>?_
       refine D<|b0<|D<|F ?_
       obtain ⟨x55,hx55,h⟩:=I h
       refine Z rfl rfl (eLCondition_eq _) hx55 rfl<|R rfl rfl (show _=eCondition x55 from rfl)<|a9 rfl<|a7 rfl rfl rfl rfl rfl<|E (kt<|kb<|kb<|kt<|kt<|kt<|kn) fun _=>?_
       refine D<|F<|R rfl rfl (show _=eTypes t from rfl)<|R rfl rfl (show _=ePattern c.Pattern from rfl)<|R rfl rfl (show _=eCondition x55 from rfl) ?_
       obtain ⟨x60,hx60,h⟩:=I h
       refine S rfl (ih_164 t c.Pattern x55 _ hx60)<|C rfl<|E (kt<|kb<|kt<|kt<|kt<|kt<|kn) fun _=>?_
       refine D<|F<|C rfl<|b1 rfl rfl<|E (kt<|kb<|kt<|kt<|kt<|kt<|kt<|kn) fun _=>?_
       refine T rfl (fun hc62=>?_) (fun hc62=>?_)
       ·replace h:=M hc62 h
        refine D<|F<|C rfl<|C rfl<|E (kt<|kn) fun _=>?_
        refine L ?_
        cases h
        exact ⟨_,rfl,rfl⟩
       ·replace h:=O hc62 h
        refine P (kt<|kb<|kt<|kt<|kt<|kn) fun _=>?_
        refine F<|a6 rfl rfl<|C rfl<|E (kt<|kb<|kt<|kt<|kt<|kn) ?_
        cases h
        refine ⟨_,rfl,?_⟩
        rw [Ktv rfl (Kbx rfl (Ktv rfl (Ktv rfl (Ktv rfl (Knil _)))))]
        rw [b4 (a5 (hw0 53)) hi0 (d3 (a5 (hw0 52)))]
        all_goals rfl
      ·intro i0 s0 hi0
       refine D<|F<|V rfl rfl<|E (kt<|kb<|kt<|kt<|kt<|kt<|kn) fun _=>?_
       refine D<|b9 rfl (d0 hi0)<|b3 (kn) ?_
       exact ⟨rfl,rfl⟩
      ·intro s0 hs
       replace h:=d5 h hs
       intro _
       refine D<|F<|C rfl<|E (kt<|kn) fun _=>?_
       exact L (by cases h;rfl)
      ·intro v0 ze hv hR
       replace h:=d6 h hv
       cases h
       exact hR
 ·replace h:=O hc15 h
  refine P (kt<|kb<|kt<|kn) fun _=>?_
  refine D<|D<|F<|K rfl<|J rfl<|U rfl (eLCondition_eq _)<|C rfl<|E (kt<|kb<|kt<|kt<|kt<|kn) fun _=>?_
  obtain ⟨o0,ho0,h⟩:=d4 h
  refine e1 ho0 (fun (i0:Int) (_:Unit)=>[(3,.tv (.pt (eTypes t).cells)),(4,.bx [⟨false,lI p.Graph.Nodes⟩,⟨false,lE p.Graph.Edges⟩,⟨false,lS p.Slots⟩,⟨false,eI p.Vars⟩,⟨false,lT p.Tests⟩]),(51,.tv (eLCondition c.Kids)),(52,.tv (eI (c.Kids.length:Int))),(53,.tv (eI i0))]) (fun (_:Unit)=>[]) (fun zv ze=>resIs ([.tmp 6]) (.sh (eI zv)) ze) rfl ?_ ?_ ?_ ?_
  ·clear h ho0
   intro i0 s0 r0 hi0 h hw0
   refine D<|F<|V rfl rfl<|E (kt<|kb<|kt<|kt<|kt<|kt<|kn) fun _=>?_
   refine D<|b7 rfl (b8 hi0)<|P (kt<|kb<|kt<|kt<|kt<|kn) fun _=>?_
   refine D<|b0<|D<|F ?_
   obtain ⟨x55,hx55,h⟩:=I h
   refine Z rfl rfl (eLCondition_eq _) hx55 rfl<|R rfl rfl (show _=eCondition x55 from rfl)<|a9 rfl<|a7 rfl rfl rfl rfl rfl<|E (kt<|kb<|kb<|kt<|kt<|kt<|kn) fun _=>?_
   refine D<|F<|R rfl rfl (show _=eTypes t from rfl)<|R rfl rfl (show _=ePattern p from rfl)<|R rfl rfl (show _=eCondition x55 from rfl) ?_
   obtain ⟨x60,hx60,h⟩:=I h
   refine S rfl (ih_164 t p x55 _ hx60)<|C rfl<|E (kt<|kb<|kt<|kt<|kt<|kt<|kn) fun _=>?_
   refine D<|F<|C rfl<|b1 rfl rfl<|E (kt<|kb<|kt<|kt<|kt<|kt<|kt<|kn) fun _=>?_
   refine T rfl (fun hc62=>?_) (fun hc62=>?_)
   ·replace h:=M hc62 h
    refine D<|F<|C rfl<|C rfl<|E (kt<|kn) fun _=>?_
    refine L ?_
    cases h
    exact ⟨_,rfl,rfl⟩
   ·replace h:=O hc62 h
    refine P (kt<|kb<|kt<|kt<|kt<|kn) fun _=>?_
    refine F<|a6 rfl rfl<|C rfl<|E (kt<|kb<|kt<|kt<|kt<|kn) ?_
    cases h
    refine ⟨_,rfl,?_⟩
    rw [Ktv rfl (Kbx rfl (Ktv rfl (Ktv rfl (Ktv rfl (Knil _)))))]
    rw [b4 (a5 (hw0 53)) hi0 (d3 (a5 (hw0 52)))]
    all_goals rfl
  ·intro i0 s0 hi0
   refine D<|F<|V rfl rfl<|E (kt<|kb<|kt<|kt<|kt<|kt<|kn) fun _=>?_
   refine D<|b9 rfl (d0 hi0)<|b3 (kn) ?_
   exact ⟨rfl,rfl⟩
  ·intro s0 hs
   replace h:=d5 h hs
   intro _
   refine D<|F<|C rfl<|E (kt<|kn) fun _=>?_
   exact L (by cases h;rfl)
  ·intro v0 ze hv hR
   replace h:=d6 h hv
   cases h
   exact hR
theorem c164A:∀ n:Nat,(∀ (t:Types) (p:Pattern) (c:Condition) (r:Int) (_:condition_insideF n t p c=some r),Sound prog 164 [eTypes t,ePattern p,eCondition c] (.sh (eI r))):=by
  intro n
  induction n with
  | zero=>intro t p c r h; cases h
  | succ n ih=>exact c164S n ih
theorem c164 (t:Types) (p:Pattern) (c:Condition) (r:Int) (h:condition_inside t p c=some r):Sound prog 164 [eTypes t,ePattern p,eCondition c] (.sh (eI r)):=by
  obtain ⟨N,hN⟩:=lim_some h
  exact (c164A N) t p c r (hN N (Nat.le_refl _))
theorem ck103:CK f103 (Rq [Af 3 0,Af 4 1,Af 5 2,Ad 6 0] [3,4,5]<|Sq (Rq [Ae 9 3 2,Ae 10 4 5,Al 11 98 9 10,Aa 7 11] [3,4,5,7]<|Rq [Aa 12 7,Ax 13 12 0] [3,4,5,7,13]<|Co 13 (Rq [Aa 14 7,Aa 6 14] [6]<|.ret)<|Sk [3,4,5])<|Sq (Rq [Ae 15 5 9,At 16 163 15,Aa 8 16] [3,4,5,8]<|Rq [Aa 17 8,Ax 18 17 0] [3,4,5,8,18]<|Co 18 (Rq [Aa 19 8,Aa 6 19] [6]<|.ret)<|Sk [3,4,5])<|Rq [Ae 20 3 2,Ae 21 4 5,Ae 22 5 9,Bg 23 164 20 21 22,Aa 6 23] [6]<|.ret) [.tmp 6]:= by decide +kernel
theorem c103 (t:Types) (p:Pattern) (c:Condition) (r:Int) (h:condition_Valid t p c=some r):Sound prog 103 [eTypes t,ePattern p,eCondition c] (.sh (eI r)):= by
 refine Fn ck103 fun hw=>?_
 unfold condition_Valid at h
 refine D<|F<|a3 rfl rfl<|a3 rfl rfl<|a3 rfl rfl<|C rfl<|E (kt<|kt<|kt<|kn) fun _=>?_
 refine D<|D<|F<|R rfl rfl (show _=eTypes t from rfl)<|R rfl rfl (show _=ePattern p from rfl) ?_
 obtain ⟨x11,hx11,h⟩:=I h
 refine S rfl (c98 t p _ hx11)<|C rfl<|E (kt<|kt<|kt<|kt<|kn) fun _=>?_
 refine D<|F<|C rfl<|b1 rfl rfl<|E (kt<|kt<|kt<|kt<|kt<|kn) fun _=>?_
 refine T rfl (fun hc13=>?_) (fun hc13=>?_)
 ·replace h:=M hc13 h
  refine D<|F<|C rfl<|C rfl<|E (kt<|kn) fun _=>?_
  exact L (by cases h;rfl)
 ·replace h:=O hc13 h
  refine P (kt<|kt<|kt<|kn) fun _=>?_
  refine D<|D<|F<|R rfl rfl (show _=eCondition c from rfl) ?_
  obtain ⟨x16,hx16,h⟩:=I h
  refine S rfl (c163 c _ hx16)<|C rfl<|E (kt<|kt<|kt<|kt<|kn) fun _=>?_
  refine D<|F<|C rfl<|b1 rfl rfl<|E (kt<|kt<|kt<|kt<|kt<|kn) fun _=>?_
  refine T rfl (fun hc18=>?_) (fun hc18=>?_)
  ·replace h:=M hc18 h
   refine D<|F<|C rfl<|C rfl<|E (kt<|kn) fun _=>?_
   exact L (by cases h;rfl)
  ·replace h:=O hc18 h
   refine P (kt<|kt<|kt<|kn) fun _=>?_
   refine D<|F<|R rfl rfl (show _=eTypes t from rfl)<|R rfl rfl (show _=ePattern p from rfl)<|R rfl rfl (show _=eCondition c from rfl) ?_
   obtain ⟨x23,hx23,h⟩:=I h
   refine S rfl (c164 t p c _ hx23)<|C rfl<|E (kt<|kn) fun _=>?_
   exact L (by cases h;rfl)
theorem ck52:CK f52 (Rq [Af 2 0,Af 3 1,Ad 4 0] [2,3]<|Sq (Rq [Ae 13 2 2,At 14 96 13,Aa 12 14,Ao 15 12 0,Ao 16 12 1,Aa 5 15,Aa 6 16] [2,3,6]<|Rq [Aa 17 6,Ax 18 17 0] [2,3,6,18]<|Co 18 (Rq [Aa 19 6,Aa 4 19] [4]<|.ret)<|Sk [2,3])<|Sq (Rq [Ac 20 3 0,Ab 21 20,At 22 97 21,Ay 23 22] [2,3,23]<|Co 23 (Rq [Ad 4 2] [4]<|.ret)<|Sk [2,3])<|Sq (Rq [Ae 24 2 2,Ac 25 3 1,Ae 26 25 5,Al 27 98 24 26,Aa 7 27] [2,3,7]<|Rq [Aa 28 7,Ax 29 28 0] [2,3,7,29]<|Co 29 (Rq [Aa 30 7,Aa 4 30] [4]<|.ret)<|Sk [2,3])<|Sq (Rq [Ae 31 2 2,Ae 32 3 25,Al 33 99 31 32,Aa 8 33] [2,3,8]<|Rq [Aa 34 8,Ax 35 34 0] [2,3,8,35]<|Co 35 (Rq [Aa 36 8,Aa 4 36] [4]<|.ret)<|Sk [2,3])<|Sq (Rq [Ae 37 3 25,At 38 100 37,Aa 9 38] [2,3,9]<|Rq [Aa 39 9,Ax 40 39 0] [2,3,9,40]<|Co 40 (Rq [Aa 41 9,Aa 4 41] [4]<|.ret)<|Sk [2,3])<|Rq [Ae 43 3 25,At 44 101 43,Aa 42 44,Ao 45 42 0,Ao 46 42 1,Ba 10 45,Ba 11 46] [2,3,10,11]<|Sq (Rq [Ae 47 2 2,Ac 48 3 6,Aj 49 48 0,Ae 50 49 2,Aa 51 10,Aa 52 11,Ce 53 102 47 50 51 52,Ay 54 53] [2,3,54]<|Co 54 (Rq [Ad 4 13] [4]<|.ret)<|Sk [2,3])<|Rq [Ae 55 2 2,Ac 56 3 1,Ae 57 56 5,Ac 58 3 16,Ae 59 58 9,Bg 60 103 55 57 59,Aa 4 60] [4]<|.ret) [.tmp 4]:= by decide +kernel
theorem c52 (t:Types) (r_1:Rule) (r:Int) (h:rule_Valid t r_1=some r):Sound prog 52 [eTypes t,eRule r_1] (.sh (eI r)):= by
 refine Fn ck52 fun hw=>?_
 unfold rule_Valid at h
 refine D<|F<|a3 rfl rfl<|a3 rfl rfl<|C rfl<|E (kt<|kt<|kn) fun _=>?_
 refine D<|D<|F<|R rfl rfl (show _=eTypes t from rfl) ?_
 obtain ⟨x14,hx14,h⟩:=I h
 refine e5 rfl (c96 t _ hx14)<|e8 rfl<|b2 rfl rfl<|b2 rfl rfl<|C rfl<|C rfl<|E (kt<|kt<|kt<|kn) fun _=>?_
 refine D<|F<|C rfl<|b1 rfl rfl<|E (kt<|kt<|kt<|kt<|kn) fun _=>?_
 refine T rfl (fun hc18=>?_) (fun hc18=>?_)
 ·replace h:=M hc18 h
  refine D<|F<|C rfl<|C rfl<|E (kt<|kn) fun _=>?_
  exact L (by cases h;rfl)
 ·replace h:=O hc18 h
  refine P (kt<|kt<|kn) fun _=>?_
  refine D<|D<|F<|K rfl<|J rfl ?_
  obtain ⟨x22,hx22,h⟩:=I h
  refine S rfl (c97 r_1.Name _ hx22)<|b6 rfl<|E (kt<|kt<|kt<|kn) fun _=>?_
  refine T rfl (fun hc23=>?_) (fun hc23=>?_)
  ·replace h:=M hc23 h
   refine D<|F<|C rfl<|E (kt<|kn) fun _=>?_
   exact L (by cases h;rfl)
  ·replace h:=O hc23 h
   refine P (kt<|kt<|kn) fun _=>?_
   refine D<|D<|F<|R rfl rfl (show _=eTypes t from rfl)<|K rfl<|R rfl rfl (show _=ePattern r_1.Left from rfl) ?_
   obtain ⟨x27,hx27,h⟩:=I h
   refine S rfl (c98 t r_1.Left _ hx27)<|C rfl<|E (kt<|kt<|kt<|kn) fun _=>?_
   refine D<|F<|C rfl<|b1 rfl rfl<|E (kt<|kt<|kt<|kt<|kn) fun _=>?_
   refine T rfl (fun hc29=>?_) (fun hc29=>?_)
   ·replace h:=M hc29 h
    refine D<|F<|C rfl<|C rfl<|E (kt<|kn) fun _=>?_
    exact L (by cases h;rfl)
   ·replace h:=O hc29 h
    refine P (kt<|kt<|kn) fun _=>?_
    refine D<|D<|F<|R rfl rfl (show _=eTypes t from rfl)<|R rfl rfl (show _=eRule r_1 from rfl) ?_
    obtain ⟨x33,hx33,h⟩:=I h
    refine S rfl (c99 t r_1 _ hx33)<|C rfl<|E (kt<|kt<|kt<|kn) fun _=>?_
    refine D<|F<|C rfl<|b1 rfl rfl<|E (kt<|kt<|kt<|kt<|kn) fun _=>?_
    refine T rfl (fun hc35=>?_) (fun hc35=>?_)
    ·replace h:=M hc35 h
     refine D<|F<|C rfl<|C rfl<|E (kt<|kn) fun _=>?_
     exact L (by cases h;rfl)
    ·replace h:=O hc35 h
     refine P (kt<|kt<|kn) fun _=>?_
     refine D<|D<|F<|R rfl rfl (show _=eRule r_1 from rfl) ?_
     obtain ⟨x38,hx38,h⟩:=I h
     refine S rfl (c100 r_1 _ hx38)<|C rfl<|E (kt<|kt<|kt<|kn) fun _=>?_
     refine D<|F<|C rfl<|b1 rfl rfl<|E (kt<|kt<|kt<|kt<|kn) fun _=>?_
     refine T rfl (fun hc40=>?_) (fun hc40=>?_)
     ·replace h:=M hc40 h
      refine D<|F<|C rfl<|C rfl<|E (kt<|kn) fun _=>?_
      exact L (by cases h;rfl)
     ·replace h:=O hc40 h
      refine P (kt<|kt<|kn) fun _=>?_
      refine D<|F<|R rfl rfl (show _=eRule r_1 from rfl) ?_
      obtain ⟨x44,hx44,h⟩:=I h
      refine e5 rfl (c101 r_1 _ hx44)<|e8 rfl<|b2 rfl rfl<|b2 rfl rfl<|g2 rfl<|g2 rfl<|E (kt<|kt<|kt<|kt<|kn) fun _=>?_
      refine D<|D<|F<|R rfl rfl (show _=eTypes t from rfl)<|K rfl<|a8 rfl<|R rfl rfl (show _=eGraph r_1.Right.Graph from rfl)<|C rfl<|C rfl ?_
      obtain ⟨x53,hx53,h⟩:=I h
      refine S rfl (c102 t r_1.Right.Graph x44.1 x44.2 _ hx53)<|b6 rfl<|E (kt<|kt<|kt<|kn) fun _=>?_
      refine T rfl (fun hc54=>?_) (fun hc54=>?_)
      ·replace h:=M hc54 h
       refine D<|F<|C rfl<|E (kt<|kn) fun _=>?_
       exact L (by cases h;rfl)
      ·replace h:=O hc54 h
       refine P (kt<|kt<|kn) fun _=>?_
       refine D<|F<|R rfl rfl (show _=eTypes t from rfl)<|K rfl<|R rfl rfl (show _=ePattern r_1.Left from rfl)<|K rfl<|R rfl rfl (show _=eCondition r_1.Condition from rfl) ?_
       obtain ⟨x60,hx60,h⟩:=I h
       refine S rfl (c103 t r_1.Left r_1.Condition _ hx60)<|C rfl<|E (kt<|kn) fun _=>?_
       exact L (by cases h;rfl)
theorem c104 (s:List Int) (n:Int) (r:List Int) (h:slices_Grow_int s n=some r):Sound prog 104 [.nil,eI n] (.own (lI r)):=by
  unfold slices_Grow_int at h
  split at h
  · rename_i hc
    cases h
    obtain ⟨k,rfl⟩:=Int.eq_ofNat_of_zero_le hc.2.1
    have hk:k<=nmax:=by have:=hc.2.2; omega
    have hb:=hk
    unfold nmax at hb
    obtain ⟨i0,h1,h2,h3,h4⟩:∃ i0,prog.info? 3=some i0∧i0.zero=some (.int .i64 0)∧i0.size=1∧i0.bytes=8:=⟨_,rfl,rfl,rfl,rfl⟩
    refine grow_of (by rfl) hk (e:=3) (z:=(Value.int .i64 0).cells) rfl (fun w hz=>?_) (fun w hp=>?_)
    · exact Go.Proofs.Any8.slices_Grow_room Go.Proofs.Tryz.growI none 0 0 k w (Nat.le_refl _) (by omega) (by omega) (by omega)
    · exact Go.Proofs.Any8.slices_Grow_grow Go.Proofs.Tryz.growI i0 (.int .i64 0) h1 h2 (by omega) none 0 0 k [] w (Nat.le_refl _) (by omega) (by rw [h4]; omega) (by omega) (by simp) (fun _=>rfl) (fun a ha=>by cases ha)
  · cases h
theorem ck53:CK f53 (Rq [Bf 2 1] [0]<|Rq [Ad 3 0] [0,3]<|Sq (Rq [Aa 9 0,Ah 10 9,Ad 11 0] [0,3,9,10,11]<|Bl 0<|Lo [0,3,9,10,11]<|Rq [Aq 12 11 10] [0,3,9,10,11,12]<|Sq (Co 12 (Sk [0,3,9,10,11])<|Ex 0 [0,3])<|Sq (Bl 1<|Rq [Ag 13 9 11 1,Ab 14 13,Ba 5 14] [0,3,5,9,10,11]<|Rq [Aa 15 3,Aa 16 5,Ah 17 16,Bo 18 15 17,Aa 3 18] [0,3,9,10,11]<|Rq [Aa 19 3,Ck 20 19 0] [0,3,9,10,11,20]<|Co 20 (.bad)<|Sk [0,3,9,10,11])<|Re [Ap 22 11 1,Aa 11 22] [0,3,9,10,11])<|Rq [Aa 23 3,⟨some 24,.call 104 [.c .nil,.s 23],none⟩,Ba 6 24] [0,6]<|Sq (Rq [Aa 25 0,Ah 26 25,Ad 27 0] [6,25,26,27]<|Bl 2<|Lo [6,25,26,27]<|Rq [Aq 28 27 26] [6,25,26,27,28]<|Sq (Co 28 (Sk [6,25,26,27])<|Ex 2 [6])<|Sq (Bl 3<|Rq [Ag 29 25 27 1,Ab 30 29,Ba 8 30] [6,8,25,26,27]<|Re [Ba 31 6,Aa 32 8,Bb 33 1 31 32,Ba 6 33] [6,25,26,27])<|Re [Ap 34 27 1,Aa 27 34] [6,25,26,27])<|Rq [Aa 35 6,Ba 2 35] [2]<|.ret) [.tmp 2]:= by decide +kernel
theorem c53 (slices:List (List Int)) (r:(List Int)) (h:slices_Concat_int slices=some r):Sound prog 53 [(eL 1 lI) slices] (.sh (lI r)):= by
 refine Fn ck53 fun hw=>?_
 unfold slices_Concat_int at h
 refine D<|F<|f0<|E (kt<|kn) fun _=>?_
 refine D<|F<|C rfl<|E (kt<|kt<|kn) fun _=>?_
 refine D<|D<|F<|C rfl<|U rfl rfl<|C rfl<|E (kt<|kt<|kt<|kt<|kt<|kn) fun _=>?_
 obtain ⟨s0,hs0,h⟩:=I h
 refine f3 hs0 (fun (i0:Int) (s0:Int)=>[(0,.tv ((eL 1 lI) slices)),(3,.tv (eI s0)),(9,.tv ((eL 1 lI) slices)),(10,.tv (eI (slices.length:Int))),(11,.tv (eI i0))]) (fun (s0:Int)=>[(0,.tv ((eL 1 lI) slices)),(3,.tv (eI s0))]) rfl ?_ ?_ ?_
 ·clear h hs0
  intro i0 s0 r0 hi0 h hw0
  refine D<|F<|V rfl rfl<|E (kt<|kt<|kt<|kt<|kt<|kt<|kn) fun _=>?_
  refine D<|b7 rfl (b8 hi0)<|P (kt<|kt<|kt<|kt<|kt<|kn) fun _=>?_
  refine D<|b0<|D<|F ?_
  obtain ⟨x13,hx13,h⟩:=I h
  refine Z rfl rfl rfl hx13 rfl<|J rfl<|g2 rfl<|E (kt<|kt<|kt<|kt<|kt<|kt<|kn) fun _=>?_
  refine D<|F<|C rfl<|C rfl<|U rfl rfl<|a6 rfl rfl<|C rfl<|E (kt<|kt<|kt<|kt<|kt<|kn) fun _=>?_
  refine D<|F<|C rfl<|V rfl rfl<|E (kt<|kt<|kt<|kt<|kt<|kt<|kn) fun _=>?_
  refine T rfl (fun hc20=>?_) (fun hc20=>?_)
  ·replace h:=M hc20 h
   cases h
  ·replace h:=O hc20 h
   refine P (kt<|kt<|kt<|kt<|kt<|kn) fun _=>?_
   refine F<|a6 rfl rfl<|C rfl<|E (kt<|kt<|kt<|kt<|kt<|kn) ?_
   cases h
   show Env.keep _ _=_
   rw [Ktv rfl (Ktv rfl (Ktv rfl (Ktv rfl (Ktv rfl (Knil _)))))]
   rw [b4 (a5 (hw0 11)) hi0 (d3 (a5 (hw0 10)))]
   all_goals rfl
 ·intro i0 s0 hi0
  refine D<|F<|V rfl rfl<|E (kt<|kt<|kt<|kt<|kt<|kt<|kn) fun _=>?_
  refine D<|b9 rfl (d0 hi0)<|b3 (kt<|kt<|kn) ?_
  exact ⟨rfl,rfl⟩
 ·intro _
  refine D<|F<|C rfl ?_
  obtain ⟨x24,hx24,h⟩:=I h
  refine g3 rfl (c104 [] s0 _ hx24)<|e9 rfl<|E (kt<|ko<|kn) fun _=>?_
  refine D<|D<|F<|C rfl<|U rfl rfl<|C rfl<|E (ko<|kt<|kt<|kt<|kn) fun _=>?_
  obtain ⟨s2,hs2,h⟩:=I h
  refine f3 hs2 (fun (i2:Int) (s2:List Int)=>[(6,.ow (lI s2)),(25,.tv ((eL 1 lI) slices)),(26,.tv (eI (slices.length:Int))),(27,.tv (eI i2))]) (fun (s2:List Int)=>[(6,.ow (lI s2))]) rfl ?_ ?_ ?_
  ·clear h hs2
   intro i2 s2 r2 hi2 h hw2
   refine D<|F<|V rfl rfl<|E (ko<|kt<|kt<|kt<|kt<|kn) fun _=>?_
   refine D<|b7 rfl (b8 hi2)<|P (ko<|kt<|kt<|kt<|kn) fun _=>?_
   refine D<|b0<|D<|F ?_
   obtain ⟨x29,hx29,h⟩:=I h
   refine Z rfl rfl rfl hx29 rfl<|J rfl<|g2 rfl<|E (ko<|kt<|kt<|kt<|kt<|kn) fun _=>?_
   refine F<|e9 rfl<|C rfl ?_
   obtain ⟨x33,hx33,h⟩:=I h
   refine e4 rfl rfl rfl rfl hx33 rfl<|e9 rfl<|E (ko<|kt<|kt<|kt<|kn) fun _=>?_
   refine F<|a6 rfl rfl<|C rfl<|E (ko<|kt<|kt<|kt<|kn) ?_
   cases h
   show Env.keep _ _=_
   rw [Kow rfl (Ktv rfl (Ktv rfl (Ktv rfl (Knil _))))]
   rw [b4 (a5 (hw2 27)) hi2 (d3 (a5 (hw2 26)))]
   all_goals rfl
  ·intro i2 s2 hi2
   refine D<|F<|V rfl rfl<|E (ko<|kt<|kt<|kt<|kt<|kn) fun _=>?_
   refine D<|b9 rfl (d0 hi2)<|b3 (ko<|kn) ?_
   exact ⟨rfl,rfl⟩
  ·intro _
   refine D<|F<|C rfl<|g2 rfl<|E (kt<|kn) fun _=>?_
   exact L (by cases h;rfl)
theorem ck55:CK f55 (Rq [Af 2 0,Ak 3] [1,2]<|Rq [Ac 4 2 1,Ab 5 4,Ab 6 1,Cr 7 5 6,Aa 3 7] [3]<|.ret) [.tmp 3]:= by decide +kernel
theorem c55 (n:NodeType) (c0:Int) (r:Bool) (h:triplerule_Valid_1 n c0=some r):Sound prog 55 [eNodeType n,.pt [eI c0]] (.sh (eB r)):= by
 refine Fn ck55 fun hw=>?_
 unfold triplerule_Valid_1 at h
 refine D<|F<|a3 rfl rfl<|C rfl<|E (kt<|kt<|kn) fun _=>?_
 refine D<|F<|K rfl<|J rfl<|J rfl<|d2 rfl rfl<|C rfl<|E (kt<|kn) fun _=>?_
 exact L (by cases h;rfl)
theorem ck15:CK f15 (Rq [Af 3 0,Af 4 1,Af 5 2,Ad 6 0] [3,4,5]<|Sq (Rq [Ae 14 3 2,Ae 15 4 2,Al 16 51 14 15,Aa 7 16] [3,5,7]<|Rq [Aa 17 7,Ax 18 17 0] [3,5,7,18]<|Co 18 (Rq [Aa 19 7,Aa 6 19] [6]<|.ret)<|Sk [3,5])<|Sq (Rq [Ae 20 3 2,Ae 21 5 25,Al 22 52 20 21,Aa 8 22] [3,5,8]<|Rq [Aa 23 8,Ax 24 23 0] [3,5,8,24]<|Co 24 (Rq [Aa 25 8,Aa 6 25] [6]<|.ret)<|Sk [3,5])<|Rq [Ac 26 5 1,Aj 27 26 2,Ab 28 27,Ah 29 28,Ac 30 5 1,Aj 31 30 4,Ab 32 31,Ah 33 32,Bo 34 29 33,Ac 35 5 6,Aj 36 35 2,Ab 37 36,Ah 38 37,Bo 39 34 38,Ac 40 5 6,Aj 41 40 4,Ab 42 41,Ah 43 42,Bo 44 39 43,Bh 45 44 0,Aa 46 45,Aw 47 5 1 46,By 48 47 3 46,Av 49 48 46,Cm 50 49 0 46,An 51 46 50,Aa 9 51] [3,5,9]<|Sq (Rq [Aa 52 9,Ay 53 52,Aa 54 53,Ar 55 5 15 54,As 56 55 54,Bq 57 56 54,Au 58 54 57,Aa 59 58,Ar 60 5 16 59,Bt 61 60 0 59,As 62 61 59,Fd 63 62 1 59,Au 64 59 63,Aa 65 64,Ar 66 5 11 65,Bt 67 66 0 65,As 68 67 65,Bd 69 68 65,Ar 70 5 1 65,Bt 71 70 0 65,Bt 72 71 0 65,As 73 72 65,Bd 74 73 65,⟨some 75,.bin (.i) .lss (.s 69) (.s 74),some (65,false)⟩,Au 76 65 75,Aa 77 76,Ar 78 5 11 77,Bt 79 78 1 77,As 80 79 77,Bd 81 80 77,Ar 82 5 1 77,Bt 83 82 0 77,Bt 84 83 1 77,As 85 84 77,Bd 86 85 77,⟨some 87,.bin (.i) .lss (.s 81) (.s 86),some (77,false)⟩,Au 88 77 87] [3,5,88]<|Co 88 (Rq [Ad 6 8] [6]<|.ret)<|Sk [3,5])<|Sq (Rq [Ac 89 5 1,Aj 90 89 0,Aj 91 90 0,Ab 92 91,Ac 93 5 6,Aj 94 93 0,Aj 95 94 0,Ab 96 95,El 97 1 92 96,At 98 53 97,Ah 99 98,Ad 100 0] [3,5,98,99,100]<|Bl 0<|Lo [3,5,98,99,100]<|Rq [Aq 101 100 99] [3,5,98,99,100,101]<|Sq (Co 101 (Sk [3,5,98,99,100])<|Ex 0 [3,5])<|Sq (Bl 1<|Rq [Ag 102 98 100 1,Ab 103 102,En 11 0,Ai 1 11 103,Dd 11] [3,5,11,98,99,100]<|Rq [Ac 104 3 0,Ab 105 104,Bx 106 55 11,Al 107 54 105 106] [3,5,98,99,100,107]<|Co 107 (Rq [Ad 6 13] [6]<|.ret)<|Sk [3,5,98,99,100])<|Re [Ap 108 100 1,Aa 100 108] [3,5,98,99,100])<|Sq (Rq [Ac 109 5 1,Aj 110 109 0,Aj 111 110 1,Ab 112 111,Ah 113 112,Ad 114 0] [3,5,112,113,114]<|Bl 2<|Lo [3,5,112,113,114]<|Rq [Aq 115 114 113] [3,5,112,113,114,115]<|Sq (Co 115 (Sk [3,5,112,113,114])<|Ex 2 [])<|Sq (Bl 3<|Rq [Ag 116 112 114 3,Ae 117 116 3,Cl 13 0 0 0,Ai 3 13 117] [3,5,13,112,113,114]<|Sq (Dr [118,119,120,121,122,123,124,125,126,127,128,129,130,131,132,133,134,135,136,137,138] [Ae 118 3 2,Ac 119 13 0,Ab 120 119,Ac 121 5 1,Aj 122 121 0,Aj 123 122 0,Ab 124 123,Ac 125 13 1,Ab 126 125,Ag 127 124 126 1,Ab 128 127,Ac 129 5 1,Aj 130 129 0,Aj 131 130 0,Ab 132 131,Ac 133 13 2,Ab 134 133,Ag 135 132 134 1,Ab 136 135,Ce 137 56 118 120 128 136,Ay 138 137] [3,5,112,113,114,138])<|Co 138 (Rq [Ad 6 13] [6]<|.ret)<|Sk [3,5,112,113,114])<|Re [Ap 139 114 1,Aa 114 139] [3,5,112,113,114])<|Rq [Ad 6 0] [6]<|.ret) [.tmp 6]:= by decide +kernel
theorem c15 (t:Types) (s_1:Sorts) (r_2:Rule) (r:Int) (h:triplerule_Valid t s_1 r_2=some r):Sound prog 15 [eTypes t,eSorts s_1,eRule r_2] (.sh (eI r)):= by
 refine Fn ck15 fun hw=>?_
 unfold triplerule_Valid at h
 refine D<|F<|a3 rfl rfl<|a3 rfl rfl<|a3 rfl rfl<|C rfl<|E (kt<|kt<|kt<|kn) fun _=>?_
 refine D<|D<|F<|R rfl rfl (show _=eTypes t from rfl)<|R rfl rfl (show _=eSorts s_1 from rfl) ?_
 obtain ⟨x16,hx16,h⟩:=I h
 refine S rfl (c51 t s_1 _ hx16)<|C rfl<|E (kt<|kt<|kt<|kn) fun _=>?_
 refine D<|F<|C rfl<|b1 rfl rfl<|E (kt<|kt<|kt<|kt<|kn) fun _=>?_
 refine T rfl (fun hc18=>?_) (fun hc18=>?_)
 ·replace h:=M hc18 h
  refine D<|F<|C rfl<|C rfl<|E (kt<|kn) fun _=>?_
  exact L (by cases h;rfl)
 ·replace h:=O hc18 h
  refine P (kt<|kt<|kn) fun _=>?_
  refine D<|D<|F<|R rfl rfl (show _=eTypes t from rfl)<|R rfl rfl (show _=eRule r_2 from rfl) ?_
  obtain ⟨x22,hx22,h⟩:=I h
  refine S rfl (c52 t r_2 _ hx22)<|C rfl<|E (kt<|kt<|kt<|kn) fun _=>?_
  refine D<|F<|C rfl<|b1 rfl rfl<|E (kt<|kt<|kt<|kt<|kn) fun _=>?_
  refine T rfl (fun hc24=>?_) (fun hc24=>?_)
  ·replace h:=M hc24 h
   refine D<|F<|C rfl<|C rfl<|E (kt<|kn) fun _=>?_
   exact L (by cases h;rfl)
  ·replace h:=O hc24 h
   refine P (kt<|kt<|kn) fun _=>?_
   refine D<|F<|K rfl<|a8 rfl<|J rfl<|U rfl rfl<|K rfl<|a8 rfl<|J rfl<|U rfl rfl<|a6 rfl rfl<|K rfl<|a8 rfl<|J rfl<|U rfl rfl<|a6 rfl rfl<|K rfl<|a8 rfl<|J rfl<|U rfl rfl<|a6 rfl rfl<|d2 rfl rfl<|C rfl ?_
   refine gA 5 [47,48,49,50] 51 (decide ((w64 ((w64 ((w64 ((r_2.Left.Slots.length:Int)+(r_2.Left.Tests.length:Int)))+(r_2.Right.Slots.length:Int)))+(r_2.Right.Tests.length:Int)))=0)) (decide (r_2.Left.Vars=0)) (fun hg51=>?_) (fun hg51=>?_) ?_
   ·refine G rfl hg51<|K rfl<|G rfl hg51<|a8 rfl<|G rfl hg51<|J rfl<|G rfl hg51<|d2 rfl rfl<|X rfl hg51 rfl ?_
    exact ⟨⟨_,_,_,_,rfl⟩⟩
   ·refine H rfl hg51<|H rfl hg51<|H rfl hg51<|H rfl hg51<|Y rfl hg51 rfl ?_
    exact ⟨⟨_,_,_,_,rfl⟩⟩
   rintro _ ⟨_,_,_,_,rfl⟩
   refine C rfl<|E (kt<|kt<|kt<|kn) fun _=>?_
   refine D<|D<|F<|C rfl<|b6 rfl<|C rfl ?_
   refine gO 4 [55,56,57] 58 (!((decide ((w64 ((w64 ((w64 ((r_2.Left.Slots.length:Int)+(r_2.Left.Tests.length:Int)))+(r_2.Right.Slots.length:Int)))+(r_2.Right.Tests.length:Int)))=0))&&(decide (r_2.Left.Vars=0)))) (!r_2.Injective) (fun hg58=>?_) (fun hg58=>?_) ?_
   ·refine H rfl hg58<|H rfl hg58<|H rfl hg58<|X rfl hg58 rfl ?_
    exact ⟨⟨_,_,_,rfl⟩⟩
   ·refine G rfl hg58<|K rfl<|G rfl hg58<|J rfl<|G rfl hg58<|b6 rfl<|Y rfl hg58 rfl ?_
    exact ⟨⟨_,_,_,rfl⟩⟩
   rintro _ ⟨_,_,_,rfl⟩
   refine C rfl ?_
   refine gO 5 [60,61,62,63] 64 ((!((decide ((w64 ((w64 ((w64 ((r_2.Left.Slots.length:Int)+(r_2.Left.Tests.length:Int)))+(r_2.Right.Slots.length:Int)))+(r_2.Right.Tests.length:Int)))=0))&&(decide (r_2.Left.Vars=0))))||(!r_2.Injective)) (!decide (r_2.Condition.Kind=1)) (fun hg64=>?_) (fun hg64=>?_) ?_
   ·refine H rfl hg64<|H rfl hg64<|H rfl hg64<|H rfl hg64<|X rfl hg64 rfl ?_
    exact ⟨⟨_,_,_,_,rfl⟩⟩
   ·refine G rfl hg64<|K rfl<|G rfl hg64<|a8 rfl<|G rfl hg64<|J rfl<|G rfl hg64<|b1 rfl rfl<|Y rfl hg64 rfl ?_
    exact ⟨⟨_,_,_,_,rfl⟩⟩
   rintro _ ⟨_,_,_,_,rfl⟩
   refine C rfl ?_
   refine gO 11 [66,67,68,69,70,71,72,73,74,75] 76 (((!((decide ((w64 ((w64 ((w64 ((r_2.Left.Slots.length:Int)+(r_2.Left.Tests.length:Int)))+(r_2.Right.Slots.length:Int)))+(r_2.Right.Tests.length:Int)))=0))&&(decide (r_2.Left.Vars=0))))||(!r_2.Injective))||(!decide (r_2.Condition.Kind=1))) (decide ((r_2.Keep.Nodes.length:Int)<(r_2.Left.Graph.Nodes.length:Int))) (fun hg76=>?_) (fun hg76=>?_) ?_
   ·refine H rfl hg76<|H rfl hg76<|H rfl hg76<|H rfl hg76<|H rfl hg76<|H rfl hg76<|H rfl hg76<|H rfl hg76<|H rfl hg76<|H rfl hg76<|X rfl hg76 rfl ?_
    exact ⟨⟨_,_,_,_,_,_,_,_,_,_,rfl⟩⟩
   ·refine G rfl hg76<|K rfl<|G rfl hg76<|a8 rfl<|G rfl hg76<|J rfl<|G rfl hg76<|U rfl rfl<|G rfl hg76<|K rfl<|G rfl hg76<|a8 rfl<|G rfl hg76<|a8 rfl<|G rfl hg76<|J rfl<|G rfl hg76<|U rfl rfl<|G rfl hg76<|V rfl rfl<|Y rfl hg76 rfl ?_
    exact ⟨⟨_,_,_,_,_,_,_,_,_,_,rfl⟩⟩
   rintro _ ⟨_,_,_,_,_,_,_,_,_,_,rfl⟩
   refine C rfl ?_
   refine gO 11 [78,79,80,81,82,83,84,85,86,87] 88 ((((!((decide ((w64 ((w64 ((w64 ((r_2.Left.Slots.length:Int)+(r_2.Left.Tests.length:Int)))+(r_2.Right.Slots.length:Int)))+(r_2.Right.Tests.length:Int)))=0))&&(decide (r_2.Left.Vars=0))))||(!r_2.Injective))||(!decide (r_2.Condition.Kind=1)))||(decide ((r_2.Keep.Nodes.length:Int)<(r_2.Left.Graph.Nodes.length:Int)))) (decide ((r_2.Keep.Edges.length:Int)<(r_2.Left.Graph.Edges.length:Int))) (fun hg88=>?_) (fun hg88=>?_) ?_
   ·refine H rfl hg88<|H rfl hg88<|H rfl hg88<|H rfl hg88<|H rfl hg88<|H rfl hg88<|H rfl hg88<|H rfl hg88<|H rfl hg88<|H rfl hg88<|X rfl hg88 rfl ?_
    exact ⟨⟨_,_,_,_,_,_,_,_,_,_,rfl⟩⟩
   ·refine G rfl hg88<|K rfl<|G rfl hg88<|a8 rfl<|G rfl hg88<|J rfl<|G rfl hg88<|U rfl rfl<|G rfl hg88<|K rfl<|G rfl hg88<|a8 rfl<|G rfl hg88<|a8 rfl<|G rfl hg88<|J rfl<|G rfl hg88<|U rfl rfl<|G rfl hg88<|V rfl rfl<|Y rfl hg88 rfl ?_
    exact ⟨⟨_,_,_,_,_,_,_,_,_,_,rfl⟩⟩
   rintro _ ⟨_,_,_,_,_,_,_,_,_,_,rfl⟩
   refine E (kt<|kt<|kt<|kn) fun _=>?_
   refine T rfl (fun hc88=>?_) (fun hc88=>?_)
   ·replace h:=M hc88 h
    refine D<|F<|C rfl<|E (kt<|kn) fun _=>?_
    exact L (by cases h;rfl)
   ·replace h:=O hc88 h
    refine P (kt<|kt<|kn) fun _=>?_
    refine D<|D<|F<|K rfl<|a8 rfl<|a8 rfl<|J rfl<|K rfl<|a8 rfl<|a8 rfl<|J rfl<|d7 (e:=lI) (l:=[r_2.Left.Graph.Nodes,r_2.Right.Graph.Nodes]) rfl rfl (fun _=>rfl) ?_
    obtain ⟨x98,hx98,h⟩:=I h
    refine S rfl (c53 [r_2.Left.Graph.Nodes,r_2.Right.Graph.Nodes] _ hx98)<|U rfl rfl<|C rfl<|E (kt<|kt<|kt<|kt<|kt<|kn) fun _=>?_
    obtain ⟨o0,ho0,h⟩:=d4 h
    refine e1 ho0 (fun (i0:Int) (_:Unit)=>[(3,.tv (.pt (eTypes t).cells)),(5,.tv (.pt (eRule r_2).cells)),(98,.tv (lI x98)),(99,.tv (eI (x98.length:Int))),(100,.tv (eI i0))]) (fun (_:Unit)=>[(3,.tv (.pt (eTypes t).cells)),(5,.tv (.pt (eRule r_2).cells))]) (fun zv ze=>resIs ([.tmp 6]) (.sh (eI zv)) ze) rfl ?_ ?_ ?_ ?_
    ·clear h ho0
     intro i0 s0 r0 hi0 h hw0
     refine D<|F<|V rfl rfl<|E (kt<|kt<|kt<|kt<|kt<|kt<|kn) fun _=>?_
     refine D<|b7 rfl (b8 hi0)<|P (kt<|kt<|kt<|kt<|kt<|kn) fun _=>?_
     refine D<|b0<|D<|F ?_
     obtain ⟨x102,hx102,h⟩:=I h
     refine Z rfl rfl rfl hx102 rfl<|J rfl<|a9 rfl<|a7 rfl rfl rfl rfl rfl<|l8 rfl rfl<|E (kt<|kt<|kt<|kt<|kt<|kt<|kn) fun _=>?_
     refine D<|F<|K rfl<|J rfl<|g0 rfl ?_
     obtain ⟨x107,hx107,h⟩:=I h
     refine S rfl (c54 t.Nodes (fun y0=>triplerule_Valid_1 y0 x102) _ _ (fun y0 r h=>c55 y0 x102 r h) _ hx107)<|E (kt<|kt<|kt<|kt<|kt<|kt<|kn) fun _=>?_
     refine T rfl (fun hc107=>?_) (fun hc107=>?_)
     ·replace h:=M hc107 h
      refine D<|F<|C rfl<|E (kt<|kn) fun _=>?_
      refine L ?_
      cases h
      exact ⟨_,rfl,rfl⟩
     ·replace h:=O hc107 h
      refine P (kt<|kt<|kt<|kt<|kt<|kn) fun _=>?_
      refine F<|a6 rfl rfl<|C rfl<|E (kt<|kt<|kt<|kt<|kt<|kn) ?_
      cases h
      refine ⟨_,rfl,?_⟩
      rw [Ktv rfl (Ktv rfl (Ktv rfl (Ktv rfl (Ktv rfl (Knil _)))))]
      rw [b4 (a5 (hw0 100)) hi0 (d3 (a5 (hw0 99)))]
      all_goals rfl
    ·intro i0 s0 hi0
     refine D<|F<|V rfl rfl<|E (kt<|kt<|kt<|kt<|kt<|kt<|kn) fun _=>?_
     refine D<|b9 rfl (d0 hi0)<|b3 (kt<|kt<|kn) ?_
     exact ⟨rfl,rfl⟩
    ·intro s0 hs
     replace h:=d5 h hs
     intro _
     refine D<|D<|F<|K rfl<|a8 rfl<|a8 rfl<|J rfl<|U rfl rfl<|C rfl<|E (kt<|kt<|kt<|kt<|kt<|kn) fun _=>?_
     obtain ⟨o2,ho2,h⟩:=d4 h
     refine e1 ho2 (fun (i2:Int) (_:Unit)=>[(3,.tv (.pt (eTypes t).cells)),(5,.tv (.pt (eRule r_2).cells)),(112,.tv (lE r_2.Left.Graph.Edges)),(113,.tv (eI (r_2.Left.Graph.Edges.length:Int))),(114,.tv (eI i2))]) (fun (_:Unit)=>[]) (fun zv ze=>resIs ([.tmp 6]) (.sh (eI zv)) ze) rfl ?_ ?_ ?_ ?_
     ·clear h ho2
      intro i2 s2 r2 hi2 h hw2
      refine D<|F<|V rfl rfl<|E (kt<|kt<|kt<|kt<|kt<|kt<|kn) fun _=>?_
      refine D<|b7 rfl (b8 hi2)<|P (kt<|kt<|kt<|kt<|kt<|kn) fun _=>?_
      refine D<|b0<|D<|F ?_
      obtain ⟨x116,hx116,h⟩:=I h
      refine Z rfl rfl rfl hx116 rfl<|R rfl rfl (show _=eEdge x116 from rfl)<|a9 rfl<|a7 rfl rfl rfl rfl rfl<|E (kt<|kt<|kb<|kt<|kt<|kt<|kn) fun _=>?_
      refine D<|d1 rfl<|R rfl rfl (show _=eTypes t from rfl)<|a4 rfl<|J rfl<|K rfl<|a8 rfl<|a8 rfl<|J rfl<|a4 rfl<|J rfl ?_
      obtain ⟨x127,hx127,h⟩:=I h
      refine Z rfl rfl rfl hx127 rfl<|J rfl<|K rfl<|a8 rfl<|a8 rfl<|J rfl<|a4 rfl<|J rfl ?_
      obtain ⟨x135,hx135,h⟩:=I h
      refine Z rfl rfl rfl hx135 rfl<|J rfl ?_
      obtain ⟨x137,hx137,h⟩:=I h
      refine S rfl (c56 t x116.Type' x127 x135 _ hx137)<|b6 rfl<|E (kt<|kt<|kt<|kt<|kt<|kt<|kn) fun _=>?_
      refine T rfl (fun hc138=>?_) (fun hc138=>?_)
      ·replace h:=M hc138 h
       refine D<|F<|C rfl<|E (kt<|kn) fun _=>?_
       refine L ?_
       cases h
       exact ⟨_,rfl,rfl⟩
      ·replace h:=O hc138 h
       refine P (kt<|kt<|kt<|kt<|kt<|kn) fun _=>?_
       refine F<|a6 rfl rfl<|C rfl<|E (kt<|kt<|kt<|kt<|kt<|kn) ?_
       cases h
       refine ⟨_,rfl,?_⟩
       rw [Ktv rfl (Ktv rfl (Ktv rfl (Ktv rfl (Ktv rfl (Knil _)))))]
       rw [b4 (a5 (hw2 114)) hi2 (d3 (a5 (hw2 113)))]
       all_goals rfl
     ·intro i2 s2 hi2
      refine D<|F<|V rfl rfl<|E (kt<|kt<|kt<|kt<|kt<|kt<|kn) fun _=>?_
      refine D<|b9 rfl (d0 hi2)<|b3 (kn) ?_
      exact ⟨rfl,rfl⟩
     ·intro s2 hs
      replace h:=d5 h hs
      intro _
      refine D<|F<|C rfl<|E (kt<|kn) fun _=>?_
      exact L (by cases h;rfl)
     ·intro v2 ze hv hR
      replace h:=d6 h hv
      cases h
      exact hR
    ·intro v0 ze hv hR
     replace h:=d6 h hv
     cases h
     exact hR
theorem ck87:CK f87 (Rq [Af 3 0,Dk 6 1 3 1 1] [1,2,3,6]<|Rq [Dk 7 1 3 1 1] [1,2,3,6,7]<|Sq (Rq [Ac 12 3 0,Ab 13 12,Ah 14 13,Ad 15 0] [1,2,3,6,7,13,14,15]<|Bl 0<|Lo [1,2,3,6,7,13,14,15]<|Rq [Aq 16 15 14] [1,2,3,6,7,13,14,15,16]<|Sq (Co 16 (Sk [1,2,3,6,7,13,14,15])<|Ex 0 [2,3,6,7])<|Sq (Bl 1<|Rq [Aa 17 15,Ag 18 13 15 1,Ab 19 18,Aa 8 17,Aa 9 19] [1,2,3,6,7,8,9,13,14,15]<|Rq [Aa 20 1,Aa 21 8,Bu 22 20 21] [1,2,3,6,7,8,9,13,14,15,22]<|Co 22 (Rq [Ac 23 7 2,Bm 24 23,Aa 25 8,Be 26 1 25,Bb 27 1 24 26,Ac 28 7 2,Bi 1 28 27] [1,2,3,6,7,9,13,14,15]<|Re [Ac 29 7 0,Aj 30 29 0,Bm 31 30,Aa 32 9,Be 33 1 32,Bb 34 1 31 33,Ac 35 7 0,Aj 36 35 0,Bi 1 36 34] [1,2,3,6,7,13,14,15])<|Sk [1,2,3,6,7,13,14,15])<|Re [Ap 37 15 1,Aa 15 37] [1,2,3,6,7,13,14,15])<|Sq (Rq [Ac 38 3 1,Ab 39 38,Ah 40 39,Ad 41 0] [2,6,7,39,40,41]<|Bl 2<|Lo [2,6,7,39,40,41]<|Rq [Aq 42 41 40] [2,6,7,39,40,41,42]<|Sq (Co 42 (Sk [2,6,7,39,40,41])<|Ex 2 [6,7])<|Sq (Bl 3<|Rq [Aa 43 41,Ag 44 39 41 3,Ae 45 44 3,Cl 11 0 0 0,Aa 10 43,Ai 3 11 45] [2,6,7,10,11,39,40,41]<|Rq [Aa 46 2,Aa 47 10,Bu 48 46 47] [2,6,7,10,11,39,40,41,48]<|Co 48 (Rq [Ac 49 7 3,Bm 50 49,Aa 51 10,Be 52 1 51,Bb 53 1 50 52,Ac 54 7 3,Bi 1 54 53] [2,6,7,11,39,40,41]<|Dr [55,56,57,58,59,60,61,62,63,64,65,66,67,68,69,70,71,72,73,74] [Ac 55 7 0,Aj 56 55 1,Bm 57 56,Ac 58 11 0,Ab 59 58,Ac 60 7 2,Ab 61 60,Ac 62 11 1,Ab 63 62,Al 64 90 61 63,Ac 65 7 2,Ab 66 65,Ac 67 11 2,Ab 68 67,Al 69 90 66 68,Dw 70 0 0 0 0 1 59 1 1 64 2 1 69,Be 71 3 70,Bb 72 3 57 71,Ac 73 7 0,Aj 74 73 1,Bi 1 74 72] [2,6,7,39,40,41])<|Sk [2,6,7,39,40,41])<|Re [Ap 75 41 1,Aa 41 75] [2,6,7,39,40,41])<|Rq [Ae 76 7 4,Ai 4 6 76] [6]<|.ret) [.cell 6 (some 4)]:= by decide +kernel
theorem c87 (g:Graph) (node:Int->Option Bool) (f_node:FuncId) (k_node:List TV) (h_node:∀ (y0:Int) r,node y0=some r->Sound prog f_node ([eI y0]++k_node) (.sh (eB r))) (edge:Int->Option Bool) (f_edge:FuncId) (k_edge:List TV) (h_edge:∀ (y0:Int) r,edge y0=some r->Sound prog f_edge ([eI y0]++k_edge) (.sh (eB r))) (r:triplerule_chosen) (h:triplerule_choose g node edge=some r):Sound prog 87 [eGraph g,.clo f_node k_node,.clo f_edge k_edge] (.sh (etriplerule_chosen r)):= by
 refine Fn ck87 fun hw=>?_
 unfold triplerule_choose at h
 refine D<|F<|a3 rfl rfl<|a9 rfl<|E (kt<|kt<|kt<|kb<|kn) fun _=>?_
 refine D<|F<|a9 rfl<|E (kt<|kt<|kt<|kb<|kb<|kn) fun _=>?_
 refine D<|D<|F<|K rfl<|J rfl<|U rfl rfl<|C rfl<|E (kt<|kt<|kt<|kb<|kb<|kt<|kt<|kt<|kn) fun _=>?_
 obtain ⟨s0,hs0,h⟩:=I h
 refine f3 hs0 (fun (i0:Int) (s0:triplerule_chosen)=>[(1,.tv (.clo f_node k_node)),(2,.tv (.clo f_edge k_edge)),(3,.tv (.pt (eGraph g).cells)),(6,.bx [⟨true,lI []⟩,⟨true,lE []⟩,⟨true,lI []⟩,⟨true,lI []⟩]),(7,.bx [⟨true,lI s0.graph.Nodes⟩,⟨true,lE s0.graph.Edges⟩,⟨true,lI s0.nodes⟩,⟨true,lI s0.edges⟩]),(13,.tv (lI g.Nodes)),(14,.tv (eI (g.Nodes.length:Int))),(15,.tv (eI i0))]) (fun (s0:triplerule_chosen)=>[(2,.tv (.clo f_edge k_edge)),(3,.tv (.pt (eGraph g).cells)),(6,.bx [⟨true,lI []⟩,⟨true,lE []⟩,⟨true,lI []⟩,⟨true,lI []⟩]),(7,.bx [⟨true,lI s0.graph.Nodes⟩,⟨true,lE s0.graph.Edges⟩,⟨true,lI s0.nodes⟩,⟨true,lI s0.edges⟩])]) rfl ?_ ?_ ?_
 ·clear h hs0
  intro i0 s0 r0 hi0 h hw0
  refine D<|F<|V rfl rfl<|E (kt<|kt<|kt<|kb<|kb<|kt<|kt<|kt<|kt<|kn) fun _=>?_
  refine D<|b7 rfl (b8 hi0)<|P (kt<|kt<|kt<|kb<|kb<|kt<|kt<|kt<|kn) fun _=>?_
  refine D<|b0<|D<|F<|C rfl ?_
  obtain ⟨x18,hx18,h⟩:=I h
  refine Z rfl rfl rfl hx18 rfl<|J rfl<|C rfl<|C rfl<|E (kt<|kt<|kt<|kb<|kb<|kt<|kt<|kt<|kt<|kt<|kn) fun _=>?_
  refine D<|F<|C rfl<|C rfl ?_
  obtain ⟨x22,hx22,h⟩:=I h
  refine g4 rfl rfl (h_node _ _ hx22)<|E (kt<|kt<|kt<|kb<|kb<|kt<|kt<|kt<|kt<|kt<|kt<|kn) fun _=>?_
  refine T rfl (fun hc22=>?_) (fun hc22=>?_)
  ·replace h:=M hc22 h
   refine D<|F<|a4 rfl<|f5 rfl rfl rfl rfl<|C rfl<|d7 (e:=eI) (l:=[i0]) rfl rfl (fun _=>rfl) ?_
   obtain ⟨x27,hx27,h⟩:=I h
   refine e4 rfl rfl rfl rfl hx27 rfl<|a4 rfl<|f4 rfl rfl rfl (by decide) rfl rfl<|E (kt<|kt<|kt<|kb<|kb<|kt<|kt<|kt<|kt<|kn) fun _=>?_
   refine F<|a4 rfl<|f2 rfl rfl<|f5 rfl rfl rfl rfl<|C rfl<|d7 (e:=eI) (l:=[x18]) rfl rfl (fun _=>rfl) ?_
   obtain ⟨x34,hx34,h⟩:=I h
   refine e4 rfl rfl rfl rfl hx34 rfl<|a4 rfl<|f2 rfl rfl<|f4 rfl rfl rfl (by decide) rfl rfl<|E (kt<|kt<|kt<|kb<|kb<|kt<|kt<|kt<|kn) fun _=>?_
   refine F<|a6 rfl rfl<|C rfl<|E (kt<|kt<|kt<|kb<|kb<|kt<|kt<|kt<|kn) ?_
   cases h
   show Env.keep _ _=_
   rw [Ktv rfl (Ktv rfl (Ktv rfl (Kbx rfl (Kbx rfl (Ktv rfl (Ktv rfl (Ktv rfl (Knil _))))))))]
   rw [b4 (a5 (hw0 15)) hi0 (d3 (a5 (hw0 14)))]
   all_goals rfl
  ·replace h:=O hc22 h
   refine P (kt<|kt<|kt<|kb<|kb<|kt<|kt<|kt<|kn) fun _=>?_
   refine F<|a6 rfl rfl<|C rfl<|E (kt<|kt<|kt<|kb<|kb<|kt<|kt<|kt<|kn) ?_
   cases h
   show Env.keep _ _=_
   rw [Ktv rfl (Ktv rfl (Ktv rfl (Kbx rfl (Kbx rfl (Ktv rfl (Ktv rfl (Ktv rfl (Knil _))))))))]
   rw [b4 (a5 (hw0 15)) hi0 (d3 (a5 (hw0 14)))]
   all_goals rfl
 ·intro i0 s0 hi0
  refine D<|F<|V rfl rfl<|E (kt<|kt<|kt<|kb<|kb<|kt<|kt<|kt<|kt<|kn) fun _=>?_
  refine D<|b9 rfl (d0 hi0)<|b3 (kt<|kt<|kb<|kb<|kn) ?_
  exact ⟨rfl,rfl⟩
 ·intro _
  refine D<|D<|F<|K rfl<|J rfl<|U rfl rfl<|C rfl<|E (kt<|kb<|kb<|kt<|kt<|kt<|kn) fun _=>?_
  obtain ⟨s2,hs2,h⟩:=I h
  refine f3 hs2 (fun (i2:Int) (s2:triplerule_chosen)=>[(2,.tv (.clo f_edge k_edge)),(6,.bx [⟨true,lI []⟩,⟨true,lE []⟩,⟨true,lI []⟩,⟨true,lI []⟩]),(7,.bx [⟨true,lI s2.graph.Nodes⟩,⟨true,lE s2.graph.Edges⟩,⟨true,lI s2.nodes⟩,⟨true,lI s2.edges⟩]),(39,.tv (lE g.Edges)),(40,.tv (eI (g.Edges.length:Int))),(41,.tv (eI i2))]) (fun (s2:triplerule_chosen)=>[(6,.bx [⟨true,lI []⟩,⟨true,lE []⟩,⟨true,lI []⟩,⟨true,lI []⟩]),(7,.bx [⟨true,lI s2.graph.Nodes⟩,⟨true,lE s2.graph.Edges⟩,⟨true,lI s2.nodes⟩,⟨true,lI s2.edges⟩])]) rfl ?_ ?_ ?_
  ·clear h hs2
   intro i2 s2 r2 hi2 h hw2
   refine D<|F<|V rfl rfl<|E (kt<|kb<|kb<|kt<|kt<|kt<|kt<|kn) fun _=>?_
   refine D<|b7 rfl (b8 hi2)<|P (kt<|kb<|kb<|kt<|kt<|kt<|kn) fun _=>?_
   refine D<|b0<|D<|F<|C rfl ?_
   obtain ⟨x44,hx44,h⟩:=I h
   refine Z rfl rfl rfl hx44 rfl<|R rfl rfl (show _=eEdge x44 from rfl)<|a9 rfl<|C rfl<|a7 rfl rfl rfl rfl rfl<|E (kt<|kb<|kb<|kt<|kb<|kt<|kt<|kt<|kn) fun _=>?_
   refine D<|F<|C rfl<|C rfl ?_
   obtain ⟨x48,hx48,h⟩:=I h
   refine g4 rfl rfl (h_edge _ _ hx48)<|E (kt<|kb<|kb<|kt<|kb<|kt<|kt<|kt<|kt<|kn) fun _=>?_
   refine T rfl (fun hc48=>?_) (fun hc48=>?_)
   ·replace h:=M hc48 h
    refine D<|F<|a4 rfl<|f5 rfl rfl rfl rfl<|C rfl<|d7 (e:=eI) (l:=[i2]) rfl rfl (fun _=>rfl) ?_
    obtain ⟨x53,hx53,h⟩:=I h
    refine e4 rfl rfl rfl rfl hx53 rfl<|a4 rfl<|f4 rfl rfl rfl (by decide) rfl rfl<|E (kt<|kb<|kb<|kb<|kt<|kt<|kt<|kn) fun _=>?_
    refine d1 rfl<|a4 rfl<|f2 rfl rfl<|f5 rfl rfl rfl rfl<|a4 rfl<|J rfl<|a4 rfl<|J rfl<|a4 rfl<|J rfl ?_
    obtain ⟨x64,hx64,h⟩:=I h
    refine S rfl (c90 s2.nodes x44.From _ hx64)<|a4 rfl<|J rfl<|a4 rfl<|J rfl ?_
    obtain ⟨x69,hx69,h⟩:=I h
    refine S rfl (c90 s2.nodes x44.To _ hx69)<|g1 rfl rfl rfl (show _=eEdge (Edge.mk x44.Type' x64 x69) from rfl)<|d7 (e:=eEdge) (l:=[Edge.mk x44.Type' x64 x69]) rfl rfl (fun _=>rfl) ?_
    obtain ⟨x72,hx72,h⟩:=I h
    refine e4 rfl rfl rfl rfl hx72 rfl<|a4 rfl<|f2 rfl rfl<|f4 rfl rfl rfl (by decide) rfl rfl<|E (kt<|kb<|kb<|kt<|kt<|kt<|kn) fun _=>?_
    refine F<|a6 rfl rfl<|C rfl<|E (kt<|kb<|kb<|kt<|kt<|kt<|kn) ?_
    cases h
    show Env.keep _ _=_
    rw [Ktv rfl (Kbx rfl (Kbx rfl (Ktv rfl (Ktv rfl (Ktv rfl (Knil _))))))]
    rw [b4 (a5 (hw2 41)) hi2 (d3 (a5 (hw2 40)))]
    all_goals rfl
   ·replace h:=O hc48 h
    refine P (kt<|kb<|kb<|kt<|kt<|kt<|kn) fun _=>?_
    refine F<|a6 rfl rfl<|C rfl<|E (kt<|kb<|kb<|kt<|kt<|kt<|kn) ?_
    cases h
    show Env.keep _ _=_
    rw [Ktv rfl (Kbx rfl (Kbx rfl (Ktv rfl (Ktv rfl (Ktv rfl (Knil _))))))]
    rw [b4 (a5 (hw2 41)) hi2 (d3 (a5 (hw2 40)))]
    all_goals rfl
  ·intro i2 s2 hi2
   refine D<|F<|V rfl rfl<|E (kt<|kb<|kb<|kt<|kt<|kt<|kt<|kn) fun _=>?_
   refine D<|b9 rfl (d0 hi2)<|b3 (kb<|kb<|kn) ?_
   exact ⟨rfl,rfl⟩
  ·intro _
   refine D<|F<|R rfl rfl (show _=etriplerule_chosen s2 from rfl)<|a7 rfl rfl rfl rfl rfl<|E (kb<|kn) fun _=>?_
   exact L (by cases h;rfl)
theorem ck88:CK f88 (Rq [Ak 5] [0,1,2,3]<|Sq (Dr [5,6,7,8,9,10,11,12,13,14,15,16] [Ac 6 1 0,Ab 7 6,Ac 8 2 0,Ab 9 8,Aa 10 0,Ag 11 9 10 1,Ab 12 11,Ag 13 7 12 1,Ab 14 13,Ab 15 3,Cr 16 14 15,Aa 5 16] [5])<|.ret) [.tmp 5]:= by decide +kernel
theorem c88 (i_0:Int) (c0:Sorts) (c1:Graph) (c2:Int) (r:Bool) (h:triplerule_side_1_1 i_0 c0 c1 c2=some r):Sound prog 88 [eI i_0,.pt (eSorts c0).cells,.pt (eGraph c1).cells,.pt [eI c2]] (.sh (eB r)):= by
 refine Fn ck88 fun hw=>?_
 unfold triplerule_side_1_1 at h
 refine D<|F<|C rfl<|E (kt<|kt<|kt<|kt<|kn) fun _=>?_
 refine D<|d1 rfl<|K rfl<|J rfl<|K rfl<|J rfl<|C rfl ?_
 obtain ⟨x11,hx11,h⟩:=I h
 refine Z rfl rfl rfl hx11 rfl<|J rfl ?_
 obtain ⟨x13,hx13,h⟩:=I h
 refine Z rfl rfl rfl hx13 rfl<|J rfl<|J rfl<|d2 rfl rfl<|C rfl<|E (kt<|kn) fun _=>?_
 exact L (by cases h;rfl)
theorem ck89:CK f89 (Rq [Ak 5] [0,1,2,3]<|Sq (Dr [5,6,7,8,9,10,11,12,13,14,15,16,17] [Ac 6 1 1,Ab 7 6,Ac 8 2 1,Ab 9 8,Aa 10 0,Ag 11 9 10 3,Aj 12 11 0,Ab 13 12,Ag 14 7 13 1,Ab 15 14,Ab 16 3,Cr 17 15 16,Aa 5 17] [5])<|.ret) [.tmp 5]:= by decide +kernel
theorem c89 (i_0:Int) (c0:Sorts) (c1:Graph) (c2:Int) (r:Bool) (h:triplerule_side_1_2 i_0 c0 c1 c2=some r):Sound prog 89 [eI i_0,.pt (eSorts c0).cells,.pt (eGraph c1).cells,.pt [eI c2]] (.sh (eB r)):= by
 refine Fn ck89 fun hw=>?_
 unfold triplerule_side_1_2 at h
 refine D<|F<|C rfl<|E (kt<|kt<|kt<|kt<|kn) fun _=>?_
 refine D<|d1 rfl<|K rfl<|J rfl<|K rfl<|J rfl<|C rfl ?_
 obtain ⟨x11,hx11,h⟩:=I h
 refine Z rfl rfl rfl hx11 rfl<|a8 rfl<|J rfl ?_
 obtain ⟨x14,hx14,h⟩:=I h
 refine Z rfl rfl rfl hx14 rfl<|J rfl<|J rfl<|d2 rfl rfl<|C rfl<|E (kt<|kn) fun _=>?_
 exact L (by cases h;rfl)
theorem ck86:CK f86 (Rq [Af 3 0,Dk 4 1 3 1 1] [1,2,3,4]<|Rq [Ae 5 3 2,⟨some 6,.clo 88 [.s 1,.s 3,.s 2],none⟩,⟨some 7,.clo 89 [.s 1,.s 3,.s 2],none⟩,Bg 8 87 5 6 7,Ai 4 4 8] [4]<|.ret) [.cell 4 (some 4)]:= by decide +kernel
theorem c86 (g:Graph) (c0:Sorts) (c1:Int) (r:triplerule_chosen) (h:triplerule_side_1 g c0 c1=some r):Sound prog 86 [eGraph g,.pt (eSorts c0).cells,.pt [eI c1]] (.sh (etriplerule_chosen r)):= by
 refine Fn ck86 fun hw=>?_
 unfold triplerule_side_1 at h
 refine D<|F<|a3 rfl rfl<|a9 rfl<|E (kt<|kt<|kt<|kb<|kn) fun _=>?_
 refine D<|F<|R rfl rfl (show _=eGraph g from rfl)<|g0 rfl<|g0 rfl ?_
 obtain ⟨x8,hx8,h⟩:=I h
 refine S rfl (c87 g (fun y0=>triplerule_side_1_1 y0 c0 g c1) _ _ (fun y0 r h=>c88 y0 c0 g c1 r h) (fun y0=>triplerule_side_1_2 y0 c0 g c1) _ _ (fun y0 r h=>c89 y0 c0 g c1 r h) _ hx8)<|a7 rfl rfl rfl rfl rfl<|E (kb<|kn) fun _=>?_
 exact L (by cases h;rfl)
theorem ck141:CK f141 (Rq [Af 1 0,Bc 2 1 1] [1,2]<|Rq [Bc 3 1 1] [1,2,3]<|Sq (Rq [Ac 6 1 0,Ab 7 6,Ah 8 7,Ad 9 0] [1,2,3,8,9]<|Bl 0<|Lo [1,2,3,8,9]<|Rq [Aq 10 9 8] [1,2,3,8,9,10]<|Sq (Co 10 (Sk [1,2,3,8,9])<|Ex 0 [1,2,3])<|Sq (Bl 1<|Rq [Aa 11 9,Aa 4 11] [1,2,3,4,8,9]<|Re [Ac 12 3 0,Bm 13 12,Aa 14 4,Be 15 1 14,Bb 16 1 13 15,Ac 17 3 0,Bi 1 17 16] [1,2,3,8,9])<|Re [Ap 18 9 1,Aa 9 18] [1,2,3,8,9])<|Sq (Rq [Ac 19 1 1,Ab 20 19,Ah 21 20,Ad 22 0] [2,3,21,22]<|Bl 2<|Lo [2,3,21,22]<|Rq [Aq 23 22 21] [2,3,21,22,23]<|Sq (Co 23 (Sk [2,3,21,22])<|Ex 2 [2,3])<|Sq (Bl 3<|Rq [Aa 24 22,Aa 5 24] [2,3,5,21,22]<|Re [Ac 25 3 1,Bm 26 25,Aa 27 5,Be 28 1 27,Bb 29 1 26 28,Ac 30 3 1,Bi 1 30 29] [2,3,21,22])<|Re [Ap 31 22 1,Aa 22 31] [2,3,21,22])<|Rq [Ae 32 3 2,Ai 2 2 32] [2]<|.ret) [.cell 2 (some 2)]:= by decide +kernel
theorem c141 (g:Graph) (r:Part) (h:triplerule_whole g=some r):Sound prog 141 [eGraph g] (.sh (ePart r)):= by
 refine Fn ck141 fun hw=>?_
 unfold triplerule_whole at h
 refine D<|F<|a3 rfl rfl<|a9 rfl<|E (kt<|kb<|kn) fun _=>?_
 refine D<|F<|a9 rfl<|E (kt<|kb<|kb<|kn) fun _=>?_
 refine D<|D<|F<|K rfl<|J rfl<|U rfl rfl<|C rfl<|E (kt<|kb<|kb<|kt<|kt<|kn) fun _=>?_
 obtain ⟨s0,hs0,h⟩:=I h
 refine f3 hs0 (fun (i0:Int) (s0:Part)=>[(1,.tv (.pt (eGraph g).cells)),(2,.bx [⟨true,lI []⟩,⟨true,lI []⟩]),(3,.bx [⟨true,lI s0.Nodes⟩,⟨true,lI s0.Edges⟩]),(8,.tv (eI (g.Nodes.length:Int))),(9,.tv (eI i0))]) (fun (s0:Part)=>[(1,.tv (.pt (eGraph g).cells)),(2,.bx [⟨true,lI []⟩,⟨true,lI []⟩]),(3,.bx [⟨true,lI s0.Nodes⟩,⟨true,lI s0.Edges⟩])]) rfl ?_ ?_ ?_
 ·clear h hs0
  intro i0 s0 r0 hi0 h hw0
  refine D<|F<|V rfl rfl<|E (kt<|kb<|kb<|kt<|kt<|kt<|kn) fun _=>?_
  refine D<|b7 rfl (b8 hi0)<|P (kt<|kb<|kb<|kt<|kt<|kn) fun _=>?_
  refine D<|b0<|D<|F<|C rfl<|C rfl<|E (kt<|kb<|kb<|kt<|kt<|kt<|kn) fun _=>?_
  refine F<|a4 rfl<|f5 rfl rfl rfl rfl<|C rfl<|d7 (e:=eI) (l:=[i0]) rfl rfl (fun _=>rfl) ?_
  obtain ⟨x16,hx16,h⟩:=I h
  refine e4 rfl rfl rfl rfl hx16 rfl<|a4 rfl<|f4 rfl rfl rfl (by decide) rfl rfl<|E (kt<|kb<|kb<|kt<|kt<|kn) fun _=>?_
  refine F<|a6 rfl rfl<|C rfl<|E (kt<|kb<|kb<|kt<|kt<|kn) ?_
  cases h
  show Env.keep _ _=_
  rw [Ktv rfl (Kbx rfl (Kbx rfl (Ktv rfl (Ktv rfl (Knil _)))))]
  rw [b4 (a5 (hw0 9)) hi0 (d3 (a5 (hw0 8)))]
  all_goals rfl
 ·intro i0 s0 hi0
  refine D<|F<|V rfl rfl<|E (kt<|kb<|kb<|kt<|kt<|kt<|kn) fun _=>?_
  refine D<|b9 rfl (d0 hi0)<|b3 (kt<|kb<|kb<|kn) ?_
  exact ⟨rfl,rfl⟩
 ·intro _
  refine D<|D<|F<|K rfl<|J rfl<|U rfl rfl<|C rfl<|E (kb<|kb<|kt<|kt<|kn) fun _=>?_
  obtain ⟨s2,hs2,h⟩:=I h
  refine f3 hs2 (fun (i2:Int) (s2:Part)=>[(2,.bx [⟨true,lI []⟩,⟨true,lI []⟩]),(3,.bx [⟨true,lI s2.Nodes⟩,⟨true,lI s2.Edges⟩]),(21,.tv (eI (g.Edges.length:Int))),(22,.tv (eI i2))]) (fun (s2:Part)=>[(2,.bx [⟨true,lI []⟩,⟨true,lI []⟩]),(3,.bx [⟨true,lI s2.Nodes⟩,⟨true,lI s2.Edges⟩])]) rfl ?_ ?_ ?_
  ·clear h hs2
   intro i2 s2 r2 hi2 h hw2
   refine D<|F<|V rfl rfl<|E (kb<|kb<|kt<|kt<|kt<|kn) fun _=>?_
   refine D<|b7 rfl (b8 hi2)<|P (kb<|kb<|kt<|kt<|kn) fun _=>?_
   refine D<|b0<|D<|F<|C rfl<|C rfl<|E (kb<|kb<|kt<|kt<|kt<|kn) fun _=>?_
   refine F<|a4 rfl<|f5 rfl rfl rfl rfl<|C rfl<|d7 (e:=eI) (l:=[i2]) rfl rfl (fun _=>rfl) ?_
   obtain ⟨x29,hx29,h⟩:=I h
   refine e4 rfl rfl rfl rfl hx29 rfl<|a4 rfl<|f4 rfl rfl rfl (by decide) rfl rfl<|E (kb<|kb<|kt<|kt<|kn) fun _=>?_
   refine F<|a6 rfl rfl<|C rfl<|E (kb<|kb<|kt<|kt<|kn) ?_
   cases h
   show Env.keep _ _=_
   rw [Kbx rfl (Kbx rfl (Ktv rfl (Ktv rfl (Knil _))))]
   rw [b4 (a5 (hw2 22)) hi2 (d3 (a5 (hw2 21)))]
   all_goals rfl
  ·intro i2 s2 hi2
   refine D<|F<|V rfl rfl<|E (kb<|kb<|kt<|kt<|kt<|kn) fun _=>?_
   refine D<|b9 rfl (d0 hi2)<|b3 (kb<|kb<|kn) ?_
   exact ⟨rfl,rfl⟩
  ·intro _
   refine D<|F<|R rfl rfl (show _=ePart s2 from rfl)<|a7 rfl rfl rfl rfl rfl<|E (kb<|kn) fun _=>?_
   exact L (by cases h;rfl)
theorem ck91:CK f91 (Rq [Af 4 0,Af 5 1,Af 6 2,Af 7 3,Br 8 1 3 4 0 5 1 3 4 0 5 1 1 1 1 0 9 1 1 1 3 4 0 5] [4,5,6,7,8]<|Sq (Dr [8,9,10,11,12,13,14,15,16,17,18,19] [Ac 9 4 0,Ab 10 9,Ae 11 5 2,Dl 12 1 3 4 0 5 0 2 11,Ae 13 6 2,Dl 14 1 3 4 0 5 0 2 13,Ae 15 5 2,At 16 141 15,Ae 17 7 2,Eo 18 0 9 1 1 1 3 4 0 5 0 1 1,Fe 19 1 3 4 0 5 1 3 4 0 5 1 1 1 1 0 9 1 1 1 3 4 0 5 0 1 10 1 5 12 6 5 14 11 2 16 13 2 17 15 1 16 9 18,Ai 25 8 19] [8])<|.ret) [.cell 8 (some 25)]:= by decide +kernel
theorem c91 (r_0:Rule) (left:Graph) (right:Graph) (into:Morphism) (r:Rule) (h:triplerule_made r_0 left right into=some r):Sound prog 91 [eRule r_0,eGraph left,eGraph right,eMorphism into] (.sh (eRule r)):= by
 refine Fn ck91 fun hw=>?_
 unfold triplerule_made at h
 refine D<|F<|a3 rfl rfl<|a3 rfl rfl<|a3 rfl rfl<|a3 rfl rfl<|a9 rfl<|E (kt<|kt<|kt<|kt<|kb<|kn) fun _=>?_
 refine D<|d1 rfl<|K rfl<|J rfl<|R rfl rfl (show _=eGraph left from rfl)<|e6 rfl rfl (show _=ePattern (Pattern.mk left [] 0 []) from rfl)<|R rfl rfl (show _=eGraph right from rfl)<|e6 rfl rfl (show _=ePattern (Pattern.mk right [] 0 []) from rfl)<|R rfl rfl (show _=eGraph left from rfl) ?_
 obtain ⟨x16,hx16,h⟩:=I h
 refine S rfl (c141 left _ hx16)<|R rfl rfl (show _=eMorphism into from rfl)<|e6 rfl rfl (show _=eCondition (Condition.mk 1 [] (Morphism.mk [] []) (Pattern.mk (Graph.mk [] []) [] 0 [])) from rfl)<|g1 rfl rfl rfl (show _=eRule (Rule.mk r_0.Name (Pattern.mk left [] 0 []) (Pattern.mk right [] 0 []) x16 into true (Condition.mk 1 [] (Morphism.mk [] []) (Pattern.mk (Graph.mk [] []) [] 0 []))) from rfl)<|a7 rfl rfl rfl rfl rfl<|E (kb<|kn) fun _=>?_
 exact L (by cases h;rfl)
theorem ck49:CK f49 (Rq [Af 4 0,Af 5 1,Af 6 2,Af 7 3,Br 8 1 3 4 0 5 1 3 4 0 5 1 1 1 1 0 9 1 1 1 3 4 0 5,Ad 9 0] [4,5,6,7,8]<|Sq (Rq [Ae 19 4 2,Ae 20 5 2,Ae 21 6 25,Bg 22 15 19 20 21,Aa 10 22] [5,6,7,8,10]<|Rq [Aa 23 10,Ax 24 23 0] [5,6,7,8,10,24]<|Co 24 (Rq [Ff 25 1 3 4 0 5 1 3 4 0 5 1 1 1 1 0 9 1 1 1 3 4 0 5,Aa 26 10,Ai 25 8 25,Aa 9 26] [8,9]<|.ret)<|Sk [5,6,7,8])<|Rq [⟨some 27,.clo 86 [.s 5,.s 7],none⟩,Aa 11 27] [6,8,11]<|Sq (Dr [12,13,28,29,30,31,32,33,34,35,36,37] [Aa 28 11,Ac 29 6 1,Aj 30 29 0,Ae 31 30 2,Bu 32 28 31,Aa 33 11,Ac 34 6 6,Aj 35 34 0,Ae 36 35 2,Bu 37 33 36,Dk 12 1 3 1 1,Dk 13 1 3 1 1,Ai 4 12 32,Ai 4 13 37] [6,8,12,13])<|Rq [Bc 14 1 1] [6,8,12,13,14]<|Sq (Rq [Ac 38 12 2,Ab 39 38,Ah 40 39,Ad 41 0] [6,8,12,13,14,39,40,41]<|Bl 0<|Lo [6,8,12,13,14,39,40,41]<|Rq [Aq 42 41 40] [6,8,12,13,14,39,40,41,42]<|Sq (Co 42 (Sk [6,8,12,13,14,39,40,41])<|Ex 0 [6,8,12,13,14])<|Sq (Bl 1<|Rq [Ag 43 39 41 1,Ab 44 43,Aa 16 44] [6,8,12,13,14,16,39,40,41]<|Dr [45,46,47,48,49,50,51,52,53,54,55,56,57,58] [Ac 45 14 0,Bm 46 45,Ac 47 13 2,Ab 48 47,Ac 49 6 13,Aj 50 49 0,Ab 51 50,Aa 52 16,Ag 53 51 52 1,Ab 54 53,Al 55 90 48 54,Be 56 1 55,Bb 57 1 46 56,Ac 58 14 0,Bi 1 58 57] [6,8,12,13,14,39,40,41])<|Re [Ap 59 41 1,Aa 41 59] [6,8,12,13,14,39,40,41])<|Sq (Rq [Ac 60 12 3,Ab 61 60,Ah 62 61,Ad 63 0] [6,8,12,13,14,61,62,63]<|Bl 2<|Lo [6,8,12,13,14,61,62,63]<|Rq [Aq 64 63 62] [6,8,12,13,14,61,62,63,64]<|Sq (Co 64 (Sk [6,8,12,13,14,61,62,63])<|Ex 2 [6,8,12,13,14])<|Sq (Bl 3<|Rq [Ag 65 61 63 1,Ab 66 65,Aa 18 66] [6,8,12,13,14,18,61,62,63]<|Dr [67,68,69,70,71,72,73,74,75,76,77,78,79,80] [Ac 67 14 1,Bm 68 67,Ac 69 13 3,Ab 70 69,Ac 71 6 13,Aj 72 71 1,Ab 73 72,Aa 74 18,Ag 75 73 74 1,Ab 76 75,Al 77 90 70 76,Be 78 1 77,Bb 79 1 68 78,Ac 80 14 1,Bi 1 80 79] [6,8,12,13,14,61,62,63])<|Re [Ap 81 63 1,Aa 63 81] [6,8,12,13,14,61,62,63])<|Rq [Ae 82 6 25,Ac 83 12 0,Ae 84 83 2,Ac 85 13 0,Ae 86 85 2,Ae 87 14 2,Ce 88 91 82 84 86 87,Ai 25 8 88,Ad 9 0] [8,9]<|.ret) [.cell 8 (some 25),.tmp 9]:= by decide +kernel
theorem c49 (t:Types) (s_1:Sorts) (r_2:Rule) (sort:Int) (r:(Rule × Int)) (h:triplerule_side t s_1 r_2 sort=some r):Sound prog 49 [eTypes t,eSorts s_1,eRule r_2,eI sort] (.tp [eRule r.1,eI r.2]):= by
 refine Fn ck49 fun hw=>?_
 unfold triplerule_side at h
 refine D<|F<|a3 rfl rfl<|a3 rfl rfl<|a3 rfl rfl<|a3 rfl rfl<|a9 rfl<|C rfl<|E (kt<|kt<|kt<|kt<|kb<|kn) fun _=>?_
 refine D<|D<|F<|R rfl rfl (show _=eTypes t from rfl)<|R rfl rfl (show _=eSorts s_1 from rfl)<|R rfl rfl (show _=eRule r_2 from rfl) ?_
 obtain ⟨x22,hx22,h⟩:=I h
 refine S rfl (c15 t s_1 r_2 _ hx22)<|C rfl<|E (kt<|kt<|kt<|kb<|kt<|kn) fun _=>?_
 refine D<|F<|C rfl<|b1 rfl rfl<|E (kt<|kt<|kt<|kb<|kt<|kt<|kn) fun _=>?_
 refine T rfl (fun hc24=>?_) (fun hc24=>?_)
 ·replace h:=M hc24 h
  refine D<|F<|e6 rfl rfl (show _=eRule (Rule.mk (⟨#[]⟩:ByteArray) (Pattern.mk (Graph.mk [] []) [] 0 []) (Pattern.mk (Graph.mk [] []) [] 0 []) (Part.mk [] []) (Morphism.mk [] []) false (Condition.mk 0 [] (Morphism.mk [] []) (Pattern.mk (Graph.mk [] []) [] 0 []))) from rfl)<|C rfl<|a7 rfl rfl rfl rfl rfl<|C rfl<|E (kb<|kt<|kn) fun _=>?_
  refine L ?_
  cases h
  exact ⟨by decide,rfl⟩
 ·replace h:=O hc24 h
  refine P (kt<|kt<|kt<|kb<|kn) fun _=>?_
  refine D<|F<|g0 rfl<|C rfl<|E (kt<|kb<|kt<|kn) fun _=>?_
  refine D<|d1 rfl<|C rfl<|K rfl<|a8 rfl<|R rfl rfl (show _=eGraph r_2.Left.Graph from rfl) ?_
  obtain ⟨x32,hx32,h⟩:=I h
  refine g4 rfl rfl (c86 r_2.Left.Graph s_1 sort _ hx32)<|C rfl<|K rfl<|a8 rfl<|R rfl rfl (show _=eGraph r_2.Right.Graph from rfl) ?_
  obtain ⟨x37,hx37,h⟩:=I h
  refine g4 rfl rfl (c86 r_2.Right.Graph s_1 sort _ hx37)<|a9 rfl<|a9 rfl<|a7 rfl rfl rfl rfl rfl<|a7 rfl rfl rfl rfl rfl<|E (kt<|kb<|kb<|kb<|kn) fun _=>?_
  refine D<|F<|a9 rfl<|E (kt<|kb<|kb<|kb<|kb<|kn) fun _=>?_
  refine D<|D<|F<|a4 rfl<|J rfl<|U rfl rfl<|C rfl<|E (kt<|kb<|kb<|kb<|kb<|kt<|kt<|kt<|kn) fun _=>?_
  obtain ⟨s0,hs0,h⟩:=I h
  refine f3 hs0 (fun (i0:Int) (s0:Morphism)=>[(6,.tv (.pt (eRule r_2).cells)),(8,.bx [⟨false,eS (⟨#[]⟩:ByteArray)⟩,⟨true,lI []⟩,⟨true,lE []⟩,⟨true,lS []⟩,⟨false,eI 0⟩,⟨true,lT []⟩,⟨true,lI []⟩,⟨true,lE []⟩,⟨true,lS []⟩,⟨false,eI 0⟩,⟨true,lT []⟩,⟨true,lI []⟩,⟨true,lI []⟩,⟨true,lI []⟩,⟨true,lI []⟩,⟨false,eB false⟩,⟨false,eI 0⟩,⟨true,eLCondition []⟩,⟨true,lI []⟩,⟨true,lI []⟩,⟨true,lI []⟩,⟨true,lE []⟩,⟨true,lS []⟩,⟨false,eI 0⟩,⟨true,lT []⟩]),(12,.bx [⟨false,lI x32.graph.Nodes⟩,⟨false,lE x32.graph.Edges⟩,⟨false,lI x32.nodes⟩,⟨false,lI x32.edges⟩]),(13,.bx [⟨false,lI x37.graph.Nodes⟩,⟨false,lE x37.graph.Edges⟩,⟨false,lI x37.nodes⟩,⟨false,lI x37.edges⟩]),(14,.bx [⟨true,lI s0.Nodes⟩,⟨true,lI s0.Edges⟩]),(39,.tv (lI x32.nodes)),(40,.tv (eI (x32.nodes.length:Int))),(41,.tv (eI i0))]) (fun (s0:Morphism)=>[(6,.tv (.pt (eRule r_2).cells)),(8,.bx [⟨false,eS (⟨#[]⟩:ByteArray)⟩,⟨true,lI []⟩,⟨true,lE []⟩,⟨true,lS []⟩,⟨false,eI 0⟩,⟨true,lT []⟩,⟨true,lI []⟩,⟨true,lE []⟩,⟨true,lS []⟩,⟨false,eI 0⟩,⟨true,lT []⟩,⟨true,lI []⟩,⟨true,lI []⟩,⟨true,lI []⟩,⟨true,lI []⟩,⟨false,eB false⟩,⟨false,eI 0⟩,⟨true,eLCondition []⟩,⟨true,lI []⟩,⟨true,lI []⟩,⟨true,lI []⟩,⟨true,lE []⟩,⟨true,lS []⟩,⟨false,eI 0⟩,⟨true,lT []⟩]),(12,.bx [⟨false,lI x32.graph.Nodes⟩,⟨false,lE x32.graph.Edges⟩,⟨false,lI x32.nodes⟩,⟨false,lI x32.edges⟩]),(13,.bx [⟨false,lI x37.graph.Nodes⟩,⟨false,lE x37.graph.Edges⟩,⟨false,lI x37.nodes⟩,⟨false,lI x37.edges⟩]),(14,.bx [⟨true,lI s0.Nodes⟩,⟨true,lI s0.Edges⟩])]) rfl ?_ ?_ ?_
  ·clear h hs0
   intro i0 s0 r0 hi0 h hw0
   refine D<|F<|V rfl rfl<|E (kt<|kb<|kb<|kb<|kb<|kt<|kt<|kt<|kt<|kn) fun _=>?_
   refine D<|b7 rfl (b8 hi0)<|P (kt<|kb<|kb<|kb<|kb<|kt<|kt<|kt<|kn) fun _=>?_
   refine D<|b0<|D<|F ?_
   obtain ⟨x43,hx43,h⟩:=I h
   refine Z rfl rfl rfl hx43 rfl<|J rfl<|C rfl<|E (kt<|kb<|kb<|kb<|kb<|kt<|kt<|kt<|kt<|kn) fun _=>?_
   refine d1 rfl<|a4 rfl<|f5 rfl rfl rfl rfl<|a4 rfl<|J rfl<|K rfl<|a8 rfl<|J rfl<|C rfl ?_
   obtain ⟨x53,hx53,h⟩:=I h
   refine Z rfl rfl rfl hx53 rfl<|J rfl ?_
   obtain ⟨x55,hx55,h⟩:=I h
   refine S rfl (c90 x37.nodes x53 _ hx55)<|d7 (e:=eI) (l:=[x55]) rfl rfl (fun _=>rfl) ?_
   obtain ⟨x57,hx57,h⟩:=I h
   refine e4 rfl rfl rfl rfl hx57 rfl<|a4 rfl<|f4 rfl rfl rfl (by decide) rfl rfl<|E (kt<|kb<|kb<|kb<|kb<|kt<|kt<|kt<|kn) fun _=>?_
   refine F<|a6 rfl rfl<|C rfl<|E (kt<|kb<|kb<|kb<|kb<|kt<|kt<|kt<|kn) ?_
   cases h
   show Env.keep _ _=_
   rw [Ktv rfl (Kbx rfl (Kbx rfl (Kbx rfl (Kbx rfl (Ktv rfl (Ktv rfl (Ktv rfl (Knil _))))))))]
   rw [b4 (a5 (hw0 41)) hi0 (d3 (a5 (hw0 40)))]
   all_goals rfl
  ·intro i0 s0 hi0
   refine D<|F<|V rfl rfl<|E (kt<|kb<|kb<|kb<|kb<|kt<|kt<|kt<|kt<|kn) fun _=>?_
   refine D<|b9 rfl (d0 hi0)<|b3 (kt<|kb<|kb<|kb<|kb<|kn) ?_
   exact ⟨rfl,rfl⟩
  ·intro _
   refine D<|D<|F<|a4 rfl<|J rfl<|U rfl rfl<|C rfl<|E (kt<|kb<|kb<|kb<|kb<|kt<|kt<|kt<|kn) fun _=>?_
   obtain ⟨s2,hs2,h⟩:=I h
   refine f3 hs2 (fun (i2:Int) (s2:Morphism)=>[(6,.tv (.pt (eRule r_2).cells)),(8,.bx [⟨false,eS (⟨#[]⟩:ByteArray)⟩,⟨true,lI []⟩,⟨true,lE []⟩,⟨true,lS []⟩,⟨false,eI 0⟩,⟨true,lT []⟩,⟨true,lI []⟩,⟨true,lE []⟩,⟨true,lS []⟩,⟨false,eI 0⟩,⟨true,lT []⟩,⟨true,lI []⟩,⟨true,lI []⟩,⟨true,lI []⟩,⟨true,lI []⟩,⟨false,eB false⟩,⟨false,eI 0⟩,⟨true,eLCondition []⟩,⟨true,lI []⟩,⟨true,lI []⟩,⟨true,lI []⟩,⟨true,lE []⟩,⟨true,lS []⟩,⟨false,eI 0⟩,⟨true,lT []⟩]),(12,.bx [⟨false,lI x32.graph.Nodes⟩,⟨false,lE x32.graph.Edges⟩,⟨false,lI x32.nodes⟩,⟨false,lI x32.edges⟩]),(13,.bx [⟨false,lI x37.graph.Nodes⟩,⟨false,lE x37.graph.Edges⟩,⟨false,lI x37.nodes⟩,⟨false,lI x37.edges⟩]),(14,.bx [⟨true,lI s2.Nodes⟩,⟨true,lI s2.Edges⟩]),(61,.tv (lI x32.edges)),(62,.tv (eI (x32.edges.length:Int))),(63,.tv (eI i2))]) (fun (s2:Morphism)=>[(6,.tv (.pt (eRule r_2).cells)),(8,.bx [⟨false,eS (⟨#[]⟩:ByteArray)⟩,⟨true,lI []⟩,⟨true,lE []⟩,⟨true,lS []⟩,⟨false,eI 0⟩,⟨true,lT []⟩,⟨true,lI []⟩,⟨true,lE []⟩,⟨true,lS []⟩,⟨false,eI 0⟩,⟨true,lT []⟩,⟨true,lI []⟩,⟨true,lI []⟩,⟨true,lI []⟩,⟨true,lI []⟩,⟨false,eB false⟩,⟨false,eI 0⟩,⟨true,eLCondition []⟩,⟨true,lI []⟩,⟨true,lI []⟩,⟨true,lI []⟩,⟨true,lE []⟩,⟨true,lS []⟩,⟨false,eI 0⟩,⟨true,lT []⟩]),(12,.bx [⟨false,lI x32.graph.Nodes⟩,⟨false,lE x32.graph.Edges⟩,⟨false,lI x32.nodes⟩,⟨false,lI x32.edges⟩]),(13,.bx [⟨false,lI x37.graph.Nodes⟩,⟨false,lE x37.graph.Edges⟩,⟨false,lI x37.nodes⟩,⟨false,lI x37.edges⟩]),(14,.bx [⟨true,lI s2.Nodes⟩,⟨true,lI s2.Edges⟩])]) rfl ?_ ?_ ?_
   ·clear h hs2
    intro i2 s2 r2 hi2 h hw2
    refine D<|F<|V rfl rfl<|E (kt<|kb<|kb<|kb<|kb<|kt<|kt<|kt<|kt<|kn) fun _=>?_
    refine D<|b7 rfl (b8 hi2)<|P (kt<|kb<|kb<|kb<|kb<|kt<|kt<|kt<|kn) fun _=>?_
    refine D<|b0<|D<|F ?_
    obtain ⟨x65,hx65,h⟩:=I h
    refine Z rfl rfl rfl hx65 rfl<|J rfl<|C rfl<|E (kt<|kb<|kb<|kb<|kb<|kt<|kt<|kt<|kt<|kn) fun _=>?_
    refine d1 rfl<|a4 rfl<|f5 rfl rfl rfl rfl<|a4 rfl<|J rfl<|K rfl<|a8 rfl<|J rfl<|C rfl ?_
    obtain ⟨x75,hx75,h⟩:=I h
    refine Z rfl rfl rfl hx75 rfl<|J rfl ?_
    obtain ⟨x77,hx77,h⟩:=I h
    refine S rfl (c90 x37.edges x75 _ hx77)<|d7 (e:=eI) (l:=[x77]) rfl rfl (fun _=>rfl) ?_
    obtain ⟨x79,hx79,h⟩:=I h
    refine e4 rfl rfl rfl rfl hx79 rfl<|a4 rfl<|f4 rfl rfl rfl (by decide) rfl rfl<|E (kt<|kb<|kb<|kb<|kb<|kt<|kt<|kt<|kn) fun _=>?_
    refine F<|a6 rfl rfl<|C rfl<|E (kt<|kb<|kb<|kb<|kb<|kt<|kt<|kt<|kn) ?_
    cases h
    show Env.keep _ _=_
    rw [Ktv rfl (Kbx rfl (Kbx rfl (Kbx rfl (Kbx rfl (Ktv rfl (Ktv rfl (Ktv rfl (Knil _))))))))]
    rw [b4 (a5 (hw2 63)) hi2 (d3 (a5 (hw2 62)))]
    all_goals rfl
   ·intro i2 s2 hi2
    refine D<|F<|V rfl rfl<|E (kt<|kb<|kb<|kb<|kb<|kt<|kt<|kt<|kt<|kn) fun _=>?_
    refine D<|b9 rfl (d0 hi2)<|b3 (kt<|kb<|kb<|kb<|kb<|kn) ?_
    exact ⟨rfl,rfl⟩
   ·intro _
    refine D<|F<|R rfl rfl (show _=eRule r_2 from rfl)<|a4 rfl<|R rfl rfl (show _=eGraph x32.graph from rfl)<|a4 rfl<|R rfl rfl (show _=eGraph x37.graph from rfl)<|R rfl rfl (show _=eMorphism s2 from rfl) ?_
    obtain ⟨x88,hx88,h⟩:=I h
    refine S rfl (c91 r_2 x32.graph x37.graph s2 _ hx88)<|a7 rfl rfl rfl rfl rfl<|C rfl<|E (kb<|kt<|kn) fun _=>?_
    refine L ?_
    cases h
    exact ⟨by decide,rfl⟩
theorem ck11:CK f11 (Rq [Af 3 0,Af 4 1,Af 5 2,Br 6 1 3 4 0 5 1 3 4 0 5 1 1 1 1 0 9 1 1 1 3 4 0 5,Ad 7 0] [3,4,5,6]<|Rq [Ae 8 3 2,Ae 9 4 2,Ae 10 5 25,Fg 11 49 8 9 10 1,Ao 12 11 0,Ao 13 11 1,Ai 25 6 12,Aa 7 13] [6,7]<|.ret) [.cell 6 (some 25),.tmp 7]:= by decide +kernel
theorem c11 (t:Types) (s_1:Sorts) (r_2:Rule) (r:(Rule × Int)) (h:triplerule_Source t s_1 r_2=some r):Sound prog 11 [eTypes t,eSorts s_1,eRule r_2] (.tp [eRule r.1,eI r.2]):= by
 refine Fn ck11 fun hw=>?_
 unfold triplerule_Source at h
 refine D<|F<|a3 rfl rfl<|a3 rfl rfl<|a3 rfl rfl<|a9 rfl<|C rfl<|E (kt<|kt<|kt<|kb<|kn) fun _=>?_
 refine D<|F<|R rfl rfl (show _=eTypes t from rfl)<|R rfl rfl (show _=eSorts s_1 from rfl)<|R rfl rfl (show _=eRule r_2 from rfl) ?_
 obtain ⟨x11,hx11,h⟩:=I h
 refine e5 rfl (c49 t s_1 r_2 1 _ hx11)<|b2 rfl rfl<|b2 rfl rfl<|a7 rfl rfl rfl rfl rfl<|C rfl<|E (kb<|kt<|kn) fun _=>?_
 refine L ?_
 cases h
 exact ⟨by decide,rfl⟩
theorem ck113:CK f113 (Rq [Bf 2 3] [0]<|Sq (Rq [Aa 3 0,⟨some 4,.isn (.s 3),none⟩] [0,4]<|Co 4 (Rq [Bf 2 3] [2]<|.ret)<|Sk [0])<|Rq [Cu 5 3,Aa 6 0,Bb 7 3 5 6,Ba 2 7] [2]<|.ret) [.tmp 2]:= by decide +kernel
theorem c113 (s_0:List Edge) (r:(List Edge)) (h:slices_Clone_Edge s_0=some r):Sound prog 113 [lE s_0] (.own (lE r)):= by
 refine Fn ck113 fun hw=>?_
 unfold slices_Clone_Edge at h
 refine D<|F<|f0<|E (kt<|kn) fun _=>?_
 refine D<|D<|F<|C rfl<|m7 rfl rfl fun z4 hz4=>?_
 replace h:=m8 h z4 hz4
 refine E (kt<|kt<|kn) fun _=>?_
 refine T rfl (fun hc4=>?_) (fun hc4=>?_)
 ·replace h:=M hc4 h
  refine D<|F<|f0<|E (ko<|kn) fun _=>?_
  exact L (by cases h;rfl)
 ·replace h:=O hc4 h
  refine P (kt<|kn) fun _=>?_
  refine D<|F<|d7 (e:=eEdge) (l:=[]) rfl rfl (fun _=>rfl)<|C rfl ?_
  obtain ⟨x7,hx7,h⟩:=I h
  refine e4 rfl rfl rfl rfl hx7 rfl<|e9 rfl<|E (ko<|kn) fun _=>?_
  exact L (by cases h;rfl)
theorem ck62:CK f62 (Rq [Af 4 0,Af 5 1,Af 6 2,Br 8 1 3 4 0 5 1 3 4 0 5 1 1 1 1 0 9 1 1 1 3 4 0 5,Bc 9 1 1,Ad 10 0] [3,4,5,6,8,9]<|Sq (Rq [Ae 21 4 2,Ae 22 5 2,Ae 23 6 25,Bg 24 15 21 22 23,Aa 11 24] [3,5,6,8,9,11]<|Rq [Aa 25 11,Ax 26 25 0] [3,5,6,8,9,11,26]<|Co 26 (Rq [Ff 27 1 3 4 0 5 1 3 4 0 5 1 1 1 1 0 9 1 1 1 3 4 0 5,Dj 28 1 1,Aa 29 11,Ai 25 8 27,Ai 2 9 28,Aa 10 29] [8,9,10]<|.ret)<|Sk [3,5,6,8,9])<|Sq (Dr [12,13,30,31,32,33,34,35] [Ac 30 6 1,Aj 31 30 0,Ae 32 31 2,Ac 33 6 6,Aj 34 33 0,Ae 35 34 2,Bc 12 1 3,Bc 13 1 3,Ai 2 12 32,Ai 2 13 35] [3,5,6,8,9,12,13])<|Sq (Dr [14,36,37,38,39,40,41,42] [Ac 36 12 0,Ab 37 36,At 38 112 37,Ac 39 12 1,Ab 40 39,At 41 113 40,⟨some 42,.bldo [38,41],none⟩,Bc 14 1 3,Dx 2 14 42] [3,5,6,8,9,13,14])<|Sq (Dr [15,43,44,45,46,47,48,49,50,51] [Ac 43 6 13,Aj 44 43 0,Ab 45 44,At 46 112 45,Ac 47 6 13,Aj 48 47 1,Ab 49 48,At 50 112 49,⟨some 51,.bldo [46,50],none⟩,Bc 15 1 1,Dx 2 15 51] [3,5,6,8,9,13,14,15])<|Rq [Bc 16 1 1] [3,5,6,8,9,13,14,15,16]<|Sq (Rq [Ac 52 13 0,Ab 53 52,Ah 54 53,Ad 55 0] [3,5,6,8,9,13,14,15,16,53,54,55]<|Bl 0<|Lo [3,5,6,8,9,13,14,15,16,53,54,55]<|Rq [Aq 56 55 54] [3,5,6,8,9,13,14,15,16,53,54,55,56]<|Sq (Co 56 (Sk [3,5,6,8,9,13,14,15,16,53,54,55])<|Ex 0 [3,5,6,8,9,13,14,15,16])<|Sq (Bl 1<|Rq [Aa 57 55,Ag 58 53 55 1,Ab 59 58,Aa 17 57,Aa 18 59] [3,5,6,8,9,13,14,15,16,17,18,53,54,55]<|Rq [Ac 60 6 13,Aj 61 60 0,Ab 62 61,Aa 63 17,Al 64 114 62 63,Ay 65 64,Aa 66 65,Am 67 3 66,Aw 68 5 0 66,Av 69 68 66,Am 70 18 66,Bv 71 69 70 1 66,Av 72 71 66,Bn 73 114 67 72 66,An 74 66 73] [3,5,6,8,9,13,14,15,16,17,18,53,54,55,74]<|Co 74 (Rq [Ac 75 16 0,Bm 76 75,Ac 77 14 0,Ab 78 77,Ah 79 78,Be 80 1 79,Bb 81 1 76 80,Ac 82 16 0,Bi 1 82 81] [3,5,6,8,9,13,14,15,16,17,18,53,54,55]<|Dr [83,84,85,86,87,88,89,90,91,92,93,94] [Ac 83 14 0,Bm 84 83,Aa 85 18,Be 86 1 85,Bb 87 1 84 86,Ac 88 15 0,Bm 89 88,Aa 90 17,Be 91 1 90,Bb 92 1 89 91,Ac 93 14 0,Bi 1 93 87,Ac 94 15 0,Bi 1 94 92] [3,5,6,8,9,13,14,15,16,53,54,55])<|Sk [3,5,6,8,9,13,14,15,16,53,54,55])<|Re [Ap 95 55 1,Aa 55 95] [3,5,6,8,9,13,14,15,16,53,54,55])<|Sq (Rq [Ac 96 13 1,Ab 97 96,Ah 98 97,Ad 99 0] [3,5,6,8,9,13,14,15,16,97,98,99]<|Bl 2<|Lo [3,5,6,8,9,13,14,15,16,97,98,99]<|Rq [Aq 100 99 98] [3,5,6,8,9,13,14,15,16,97,98,99,100]<|Sq (Co 100 (Sk [3,5,6,8,9,13,14,15,16,97,98,99])<|Ex 2 [6,8,9,13,14,15,16])<|Sq (Bl 3<|Rq [Aa 101 99,Ag 102 97 99 3,Ae 103 102 3,Cl 20 0 0 0,Aa 19 101,Ai 3 20 103] [3,5,6,8,9,13,14,15,16,19,20,97,98,99]<|Rq [Ac 104 6 13,Aj 105 104 1,Ab 106 105,Aa 107 19,Al 108 114 106 107,Ay 109 108,Aa 110 109,Am 111 3 110,Aw 112 5 1 110,Av 113 112 110,Aw 114 20 0 110,Av 115 114 110,Bv 116 113 115 1 110,Av 117 116 110,Bn 118 114 111 117 110,An 119 110 118] [3,5,6,8,9,13,14,15,16,19,20,97,98,99,119]<|Co 119 (Rq [Ac 120 16 1,Bm 121 120,Ac 122 14 1,Ab 123 122,Ah 124 123,Be 125 1 124,Bb 126 1 121 125,Ac 127 16 1,Bi 1 127 126] [3,5,6,8,9,13,14,15,16,19,20,97,98,99]<|Dr [128,129,130,131,132,133,134,135,136,137,138,139,140,141,142,143,144,145,146,147,148,149,150,151] [Ac 128 14 1,Bm 129 128,Ac 130 20 0,Ab 131 130,Ac 132 15 0,Ab 133 132,Ac 134 20 1,Ab 135 134,Al 136 90 133 135,Ac 137 15 0,Ab 138 137,Ac 139 20 2,Ab 140 139,Al 141 90 138 140,Dw 142 0 0 0 0 1 131 1 1 136 2 1 141,Be 143 3 142,Bb 144 3 129 143,Ac 145 15 1,Bm 146 145,Aa 147 19,Be 148 1 147,Bb 149 1 146 148,Ac 150 14 1,Bi 1 150 144,Ac 151 15 1,Bi 1 151 149] [3,5,6,8,9,13,14,15,16,97,98,99])<|Sk [3,5,6,8,9,13,14,15,16,97,98,99])<|Re [Ap 152 99 1,Aa 99 152] [3,5,6,8,9,13,14,15,16,97,98,99])<|Sq (Dr [8,9,10,153,154,155,156,157,158,159,160,161,162,163,164] [Ae 153 6 25,Ae 154 14 2,Ac 155 13 0,Ab 156 155,At 157 112 156,Ac 158 13 1,Ab 159 158,At 160 113 159,Cd 161 1 3 0 1 157 1 1 160,Ae 162 15 2,Ce 163 91 153 154 161 162,Ae 164 16 2,Ai 25 8 163,Ai 2 9 164,Ad 10 0] [8,9,10])<|.ret) [.cell 8 (some 25),.cell 9 (some 2),.tmp 10]:= by decide +kernel
theorem c62 (t:Types) (s_1:Sorts) (r_2:Rule) (sorts:List Int) (r:(Rule × Part × Int)) (h:triplerule_translating t s_1 r_2 sorts=some r):Sound prog 62 [eTypes t,eSorts s_1,eRule r_2,lI sorts] (.tp [eRule r.1,ePart r.2.1,eI r.2.2]):= by
 refine Fn ck62 fun hw=>?_
 unfold triplerule_translating at h
 refine D<|F<|a3 rfl rfl<|a3 rfl rfl<|a3 rfl rfl<|a9 rfl<|a9 rfl<|C rfl<|E (kt<|kt<|kt<|kt<|kb<|kb<|kn) fun _=>?_
 refine D<|D<|F<|R rfl rfl (show _=eTypes t from rfl)<|R rfl rfl (show _=eSorts s_1 from rfl)<|R rfl rfl (show _=eRule r_2 from rfl) ?_
 obtain ⟨x24,hx24,h⟩:=I h
 refine S rfl (c15 t s_1 r_2 _ hx24)<|C rfl<|E (kt<|kt<|kt<|kb<|kb<|kt<|kn) fun _=>?_
 refine D<|F<|C rfl<|b1 rfl rfl<|E (kt<|kt<|kt<|kb<|kb<|kt<|kt<|kn) fun _=>?_
 refine T rfl (fun hc26=>?_) (fun hc26=>?_)
 ·replace h:=M hc26 h
  refine D<|F<|e6 rfl rfl (show _=eRule (Rule.mk (⟨#[]⟩:ByteArray) (Pattern.mk (Graph.mk [] []) [] 0 []) (Pattern.mk (Graph.mk [] []) [] 0 []) (Part.mk [] []) (Morphism.mk [] []) false (Condition.mk 0 [] (Morphism.mk [] []) (Pattern.mk (Graph.mk [] []) [] 0 []))) from rfl)<|e6 rfl rfl (show _=ePart (Part.mk [] []) from rfl)<|C rfl<|a7 rfl rfl rfl rfl rfl<|a7 rfl rfl rfl rfl rfl<|C rfl<|E (kb<|kb<|kt<|kn) fun _=>?_
  refine L ?_
  cases h
  exact ⟨by decide,rfl⟩
 ·replace h:=O hc26 h
  refine P (kt<|kt<|kt<|kb<|kb<|kn) fun _=>?_
  refine D<|d1 rfl<|K rfl<|a8 rfl<|R rfl rfl (show _=eGraph r_2.Left.Graph from rfl)<|K rfl<|a8 rfl<|R rfl rfl (show _=eGraph r_2.Right.Graph from rfl)<|a9 rfl<|a9 rfl<|a7 rfl rfl rfl rfl rfl<|a7 rfl rfl rfl rfl rfl<|E (kt<|kt<|kt<|kb<|kb<|kb<|kb<|kn) fun _=>?_
  refine D<|d1 rfl<|a4 rfl<|J rfl ?_
  obtain ⟨x38,hx38,h⟩:=I h
  refine g3 rfl (c112 r_2.Left.Graph.Nodes _ hx38)<|a4 rfl<|J rfl ?_
  obtain ⟨x41,hx41,h⟩:=I h
  refine g3 rfl (c113 r_2.Left.Graph.Edges _ hx41)<|p1 (by decide) (by decide) rfl rfl rfl<|a9 rfl<|m4 rfl rfl (by decide) rfl rfl rfl<|E (kt<|kt<|kt<|kb<|kb<|kb<|kb<|kn) fun _=>?_
  refine D<|d1 rfl<|K rfl<|a8 rfl<|J rfl ?_
  obtain ⟨x46,hx46,h⟩:=I h
  refine g3 rfl (c112 r_2.Into.Nodes _ hx46)<|K rfl<|a8 rfl<|J rfl ?_
  obtain ⟨x50,hx50,h⟩:=I h
  refine g3 rfl (c112 r_2.Into.Edges _ hx50)<|p1 (by decide) (by decide) rfl rfl rfl<|a9 rfl<|m4 rfl rfl (by decide) rfl rfl rfl<|E (kt<|kt<|kt<|kb<|kb<|kb<|kb<|kb<|kn) fun _=>?_
  refine D<|F<|a9 rfl<|E (kt<|kt<|kt<|kb<|kb<|kb<|kb<|kb<|kb<|kn) fun _=>?_
  refine D<|D<|F<|a4 rfl<|J rfl<|U rfl rfl<|C rfl<|E (kt<|kt<|kt<|kb<|kb<|kb<|kb<|kb<|kb<|kt<|kt<|kt<|kn) fun _=>?_
  obtain ⟨s0,hs0,h⟩:=I h
  refine f3 hs0 (fun (i0:Int) (s0:Graph × Morphism × Part)=>[(3,.tv (lI sorts)),(5,.tv (.pt (eSorts s_1).cells)),(6,.tv (.pt (eRule r_2).cells)),(8,.bx [⟨false,eS (⟨#[]⟩:ByteArray)⟩,⟨true,lI []⟩,⟨true,lE []⟩,⟨true,lS []⟩,⟨false,eI 0⟩,⟨true,lT []⟩,⟨true,lI []⟩,⟨true,lE []⟩,⟨true,lS []⟩,⟨false,eI 0⟩,⟨true,lT []⟩,⟨true,lI []⟩,⟨true,lI []⟩,⟨true,lI []⟩,⟨true,lI []⟩,⟨false,eB false⟩,⟨false,eI 0⟩,⟨true,eLCondition []⟩,⟨true,lI []⟩,⟨true,lI []⟩,⟨true,lI []⟩,⟨true,lE []⟩,⟨true,lS []⟩,⟨false,eI 0⟩,⟨true,lT []⟩]),(9,.bx [⟨true,lI []⟩,⟨true,lI []⟩]),(13,.bx [⟨false,lI r_2.Right.Graph.Nodes⟩,⟨false,lE r_2.Right.Graph.Edges⟩]),(14,.bx [⟨true,lI s0.1.Nodes⟩,⟨true,lE s0.1.Edges⟩]),(15,.bx [⟨true,lI s0.2.1.Nodes⟩,⟨true,lI s0.2.1.Edges⟩]),(16,.bx [⟨true,lI s0.2.2.Nodes⟩,⟨true,lI s0.2.2.Edges⟩]),(53,.tv (lI r_2.Right.Graph.Nodes)),(54,.tv (eI (r_2.Right.Graph.Nodes.length:Int))),(55,.tv (eI i0))]) (fun (s0:Graph × Morphism × Part)=>[(3,.tv (lI sorts)),(5,.tv (.pt (eSorts s_1).cells)),(6,.tv (.pt (eRule r_2).cells)),(8,.bx [⟨false,eS (⟨#[]⟩:ByteArray)⟩,⟨true,lI []⟩,⟨true,lE []⟩,⟨true,lS []⟩,⟨false,eI 0⟩,⟨true,lT []⟩,⟨true,lI []⟩,⟨true,lE []⟩,⟨true,lS []⟩,⟨false,eI 0⟩,⟨true,lT []⟩,⟨true,lI []⟩,⟨true,lI []⟩,⟨true,lI []⟩,⟨true,lI []⟩,⟨false,eB false⟩,⟨false,eI 0⟩,⟨true,eLCondition []⟩,⟨true,lI []⟩,⟨true,lI []⟩,⟨true,lI []⟩,⟨true,lE []⟩,⟨true,lS []⟩,⟨false,eI 0⟩,⟨true,lT []⟩]),(9,.bx [⟨true,lI []⟩,⟨true,lI []⟩]),(13,.bx [⟨false,lI r_2.Right.Graph.Nodes⟩,⟨false,lE r_2.Right.Graph.Edges⟩]),(14,.bx [⟨true,lI s0.1.Nodes⟩,⟨true,lE s0.1.Edges⟩]),(15,.bx [⟨true,lI s0.2.1.Nodes⟩,⟨true,lI s0.2.1.Edges⟩]),(16,.bx [⟨true,lI s0.2.2.Nodes⟩,⟨true,lI s0.2.2.Edges⟩])]) rfl ?_ ?_ ?_
  ·clear h hs0
   intro i0 s0 r0 hi0 h hw0
   refine D<|F<|V rfl rfl<|E (kt<|kt<|kt<|kb<|kb<|kb<|kb<|kb<|kb<|kt<|kt<|kt<|kt<|kn) fun _=>?_
   refine D<|b7 rfl (b8 hi0)<|P (kt<|kt<|kt<|kb<|kb<|kb<|kb<|kb<|kb<|kt<|kt<|kt<|kn) fun _=>?_
   refine D<|b0<|D<|F<|C rfl ?_
   obtain ⟨x58,hx58,h⟩:=I h
   refine Z rfl rfl rfl hx58 rfl<|J rfl<|C rfl<|C rfl<|E (kt<|kt<|kt<|kb<|kb<|kb<|kb<|kb<|kb<|kt<|kt<|kt<|kt<|kt<|kn) fun _=>?_
   refine D<|F<|K rfl<|a8 rfl<|J rfl<|C rfl ?_
   obtain ⟨x64,hx64,h⟩:=I h
   refine S rfl (c114 r_2.Into.Nodes i0 _ hx64)<|b6 rfl<|C rfl ?_
   obtain ⟨x74,hx74,h⟩:=I h
   refine gX 8 [67,68,69,70,71,72,73] 74 x74 (!x64) (fun hg74=>?_) (fun hg74=>?_) ?_
   ·replace h:=M hg74 hx74
    refine G rfl hg74<|C rfl<|G rfl hg74<|K rfl<|G rfl hg74<|J rfl<|G rfl hg74<|C rfl ?_
    obtain ⟨x71,hx71,h⟩:=I h
    refine G rfl hg74<|Z rfl rfl rfl hx71 rfl<|G rfl hg74<|J rfl ?_
    obtain ⟨x73,hx73,h⟩:=I h
    refine G rfl hg74<|S rfl (c114 sorts x71 _ hx73) ?_
    cases h
    refine X rfl hg74 rfl ?_
    exact ⟨⟨_,_,_,_,_,_,_,rfl⟩⟩
   ·replace h:=O hg74 hx74
    cases h
    refine H rfl hg74<|H rfl hg74<|H rfl hg74<|H rfl hg74<|H rfl hg74<|H rfl hg74<|H rfl hg74<|Y rfl hg74 rfl ?_
    exact ⟨⟨_,_,_,_,_,_,_,rfl⟩⟩
   rintro _ ⟨_,_,_,_,_,_,_,rfl⟩
   refine E (kt<|kt<|kt<|kb<|kb<|kb<|kb<|kb<|kb<|kt<|kt<|kt<|kt<|kt<|kt<|kn) fun _=>?_
   refine T rfl (fun hc74=>?_) (fun hc74=>?_)
   ·replace h:=M hc74 h
    refine D<|F<|a4 rfl<|f5 rfl rfl rfl rfl<|a4 rfl<|J rfl<|U rfl rfl<|d7 (e:=eI) (l:=[(s0.1.Nodes.length:Int)]) rfl rfl (fun _=>rfl) ?_
    obtain ⟨x81,hx81,h⟩:=I h
    refine e4 rfl rfl rfl rfl hx81 rfl<|a4 rfl<|f4 rfl rfl rfl (by decide) rfl rfl<|E (kt<|kt<|kt<|kb<|kb<|kb<|kb<|kb<|kb<|kt<|kt<|kt<|kt<|kt<|kn) fun _=>?_
    refine d1 rfl<|a4 rfl<|f5 rfl rfl rfl rfl<|C rfl<|d7 (e:=eI) (l:=[x58]) rfl rfl (fun _=>rfl) ?_
    obtain ⟨x87,hx87,h⟩:=I h
    refine e4 rfl rfl rfl rfl hx87 rfl<|a4 rfl<|f5 rfl rfl rfl rfl<|C rfl<|d7 (e:=eI) (l:=[i0]) rfl rfl (fun _=>rfl) ?_
    obtain ⟨x92,hx92,h⟩:=I h
    refine e4 rfl rfl rfl rfl hx92 rfl<|a4 rfl<|f4 rfl rfl rfl (by decide) rfl rfl<|a4 rfl<|f4 rfl rfl rfl (by decide) rfl rfl<|E (kt<|kt<|kt<|kb<|kb<|kb<|kb<|kb<|kb<|kt<|kt<|kt<|kn) fun _=>?_
    refine F<|a6 rfl rfl<|C rfl<|E (kt<|kt<|kt<|kb<|kb<|kb<|kb<|kb<|kb<|kt<|kt<|kt<|kn) ?_
    cases h
    show Env.keep _ _=_
    rw [Ktv rfl (Ktv rfl (Ktv rfl (Kbx rfl (Kbx rfl (Kbx rfl (Kbx rfl (Kbx rfl (Kbx rfl (Ktv rfl (Ktv rfl (Ktv rfl (Knil _))))))))))))]
    rw [b4 (a5 (hw0 55)) hi0 (d3 (a5 (hw0 54)))]
    all_goals rfl
   ·replace h:=O hc74 h
    refine P (kt<|kt<|kt<|kb<|kb<|kb<|kb<|kb<|kb<|kt<|kt<|kt<|kn) fun _=>?_
    refine F<|a6 rfl rfl<|C rfl<|E (kt<|kt<|kt<|kb<|kb<|kb<|kb<|kb<|kb<|kt<|kt<|kt<|kn) ?_
    cases h
    show Env.keep _ _=_
    rw [Ktv rfl (Ktv rfl (Ktv rfl (Kbx rfl (Kbx rfl (Kbx rfl (Kbx rfl (Kbx rfl (Kbx rfl (Ktv rfl (Ktv rfl (Ktv rfl (Knil _))))))))))))]
    rw [b4 (a5 (hw0 55)) hi0 (d3 (a5 (hw0 54)))]
    all_goals rfl
  ·intro i0 s0 hi0
   refine D<|F<|V rfl rfl<|E (kt<|kt<|kt<|kb<|kb<|kb<|kb<|kb<|kb<|kt<|kt<|kt<|kt<|kn) fun _=>?_
   refine D<|b9 rfl (d0 hi0)<|b3 (kt<|kt<|kt<|kb<|kb<|kb<|kb<|kb<|kb<|kn) ?_
   exact ⟨rfl,rfl⟩
  ·intro _
   refine D<|D<|F<|a4 rfl<|J rfl<|U rfl rfl<|C rfl<|E (kt<|kt<|kt<|kb<|kb<|kb<|kb<|kb<|kb<|kt<|kt<|kt<|kn) fun _=>?_
   obtain ⟨s2,hs2,h⟩:=I h
   refine f3 hs2 (fun (i2:Int) (s2:Graph × Morphism × Part)=>[(3,.tv (lI sorts)),(5,.tv (.pt (eSorts s_1).cells)),(6,.tv (.pt (eRule r_2).cells)),(8,.bx [⟨false,eS (⟨#[]⟩:ByteArray)⟩,⟨true,lI []⟩,⟨true,lE []⟩,⟨true,lS []⟩,⟨false,eI 0⟩,⟨true,lT []⟩,⟨true,lI []⟩,⟨true,lE []⟩,⟨true,lS []⟩,⟨false,eI 0⟩,⟨true,lT []⟩,⟨true,lI []⟩,⟨true,lI []⟩,⟨true,lI []⟩,⟨true,lI []⟩,⟨false,eB false⟩,⟨false,eI 0⟩,⟨true,eLCondition []⟩,⟨true,lI []⟩,⟨true,lI []⟩,⟨true,lI []⟩,⟨true,lE []⟩,⟨true,lS []⟩,⟨false,eI 0⟩,⟨true,lT []⟩]),(9,.bx [⟨true,lI []⟩,⟨true,lI []⟩]),(13,.bx [⟨false,lI r_2.Right.Graph.Nodes⟩,⟨false,lE r_2.Right.Graph.Edges⟩]),(14,.bx [⟨true,lI s2.1.Nodes⟩,⟨true,lE s2.1.Edges⟩]),(15,.bx [⟨true,lI s2.2.1.Nodes⟩,⟨true,lI s2.2.1.Edges⟩]),(16,.bx [⟨true,lI s2.2.2.Nodes⟩,⟨true,lI s2.2.2.Edges⟩]),(97,.tv (lE r_2.Right.Graph.Edges)),(98,.tv (eI (r_2.Right.Graph.Edges.length:Int))),(99,.tv (eI i2))]) (fun (s2:Graph × Morphism × Part)=>[(6,.tv (.pt (eRule r_2).cells)),(8,.bx [⟨false,eS (⟨#[]⟩:ByteArray)⟩,⟨true,lI []⟩,⟨true,lE []⟩,⟨true,lS []⟩,⟨false,eI 0⟩,⟨true,lT []⟩,⟨true,lI []⟩,⟨true,lE []⟩,⟨true,lS []⟩,⟨false,eI 0⟩,⟨true,lT []⟩,⟨true,lI []⟩,⟨true,lI []⟩,⟨true,lI []⟩,⟨true,lI []⟩,⟨false,eB false⟩,⟨false,eI 0⟩,⟨true,eLCondition []⟩,⟨true,lI []⟩,⟨true,lI []⟩,⟨true,lI []⟩,⟨true,lE []⟩,⟨true,lS []⟩,⟨false,eI 0⟩,⟨true,lT []⟩]),(9,.bx [⟨true,lI []⟩,⟨true,lI []⟩]),(13,.bx [⟨false,lI r_2.Right.Graph.Nodes⟩,⟨false,lE r_2.Right.Graph.Edges⟩]),(14,.bx [⟨true,lI s2.1.Nodes⟩,⟨true,lE s2.1.Edges⟩]),(15,.bx [⟨true,lI s2.2.1.Nodes⟩,⟨true,lI s2.2.1.Edges⟩]),(16,.bx [⟨true,lI s2.2.2.Nodes⟩,⟨true,lI s2.2.2.Edges⟩])]) rfl ?_ ?_ ?_
   ·clear h hs2
    intro i2 s2 r2 hi2 h hw2
    refine D<|F<|V rfl rfl<|E (kt<|kt<|kt<|kb<|kb<|kb<|kb<|kb<|kb<|kt<|kt<|kt<|kt<|kn) fun _=>?_
    refine D<|b7 rfl (b8 hi2)<|P (kt<|kt<|kt<|kb<|kb<|kb<|kb<|kb<|kb<|kt<|kt<|kt<|kn) fun _=>?_
    refine D<|b0<|D<|F<|C rfl ?_
    obtain ⟨x102,hx102,h⟩:=I h
    refine Z rfl rfl rfl hx102 rfl<|R rfl rfl (show _=eEdge x102 from rfl)<|a9 rfl<|C rfl<|a7 rfl rfl rfl rfl rfl<|E (kt<|kt<|kt<|kb<|kb<|kb<|kb<|kb<|kb<|kt<|kb<|kt<|kt<|kt<|kn) fun _=>?_
    refine D<|F<|K rfl<|a8 rfl<|J rfl<|C rfl ?_
    obtain ⟨x108,hx108,h⟩:=I h
    refine S rfl (c114 r_2.Into.Edges i2 _ hx108)<|b6 rfl<|C rfl ?_
    obtain ⟨x119,hx119,h⟩:=I h
    refine gX 9 [111,112,113,114,115,116,117,118] 119 x119 (!x108) (fun hg119=>?_) (fun hg119=>?_) ?_
    ·replace h:=M hg119 hx119
     refine G rfl hg119<|C rfl<|G rfl hg119<|K rfl<|G rfl hg119<|J rfl<|G rfl hg119<|a4 rfl<|G rfl hg119<|J rfl ?_
     obtain ⟨x116,hx116,h⟩:=I h
     refine G rfl hg119<|Z rfl rfl rfl hx116 rfl<|G rfl hg119<|J rfl ?_
     obtain ⟨x118,hx118,h⟩:=I h
     refine G rfl hg119<|S rfl (c114 sorts x116 _ hx118) ?_
     cases h
     refine X rfl hg119 rfl ?_
     exact ⟨⟨_,_,_,_,_,_,_,_,rfl⟩⟩
    ·replace h:=O hg119 hx119
     cases h
     refine H rfl hg119<|H rfl hg119<|H rfl hg119<|H rfl hg119<|H rfl hg119<|H rfl hg119<|H rfl hg119<|H rfl hg119<|Y rfl hg119 rfl ?_
     exact ⟨⟨_,_,_,_,_,_,_,_,rfl⟩⟩
    rintro _ ⟨_,_,_,_,_,_,_,_,rfl⟩
    refine E (kt<|kt<|kt<|kb<|kb<|kb<|kb<|kb<|kb<|kt<|kb<|kt<|kt<|kt<|kt<|kn) fun _=>?_
    refine T rfl (fun hc119=>?_) (fun hc119=>?_)
    ·replace h:=M hc119 h
     refine D<|F<|a4 rfl<|f5 rfl rfl rfl rfl<|a4 rfl<|J rfl<|U rfl rfl<|d7 (e:=eI) (l:=[(s2.1.Edges.length:Int)]) rfl rfl (fun _=>rfl) ?_
     obtain ⟨x126,hx126,h⟩:=I h
     refine e4 rfl rfl rfl rfl hx126 rfl<|a4 rfl<|f4 rfl rfl rfl (by decide) rfl rfl<|E (kt<|kt<|kt<|kb<|kb<|kb<|kb<|kb<|kb<|kt<|kb<|kt<|kt<|kt<|kn) fun _=>?_
     refine d1 rfl<|a4 rfl<|f5 rfl rfl rfl rfl<|a4 rfl<|J rfl<|a4 rfl<|J rfl<|a4 rfl<|J rfl ?_
     obtain ⟨x136,hx136,h⟩:=I h
     refine S rfl (c90 s2.2.1.Nodes x102.From _ hx136)<|a4 rfl<|J rfl<|a4 rfl<|J rfl ?_
     obtain ⟨x141,hx141,h⟩:=I h
     refine S rfl (c90 s2.2.1.Nodes x102.To _ hx141)<|g1 rfl rfl rfl (show _=eEdge (Edge.mk x102.Type' x136 x141) from rfl)<|d7 (e:=eEdge) (l:=[Edge.mk x102.Type' x136 x141]) rfl rfl (fun _=>rfl) ?_
     obtain ⟨x144,hx144,h⟩:=I h
     refine e4 rfl rfl rfl rfl hx144 rfl<|a4 rfl<|f5 rfl rfl rfl rfl<|C rfl<|d7 (e:=eI) (l:=[i2]) rfl rfl (fun _=>rfl) ?_
     obtain ⟨x149,hx149,h⟩:=I h
     refine e4 rfl rfl rfl rfl hx149 rfl<|a4 rfl<|f4 rfl rfl rfl (by decide) rfl rfl<|a4 rfl<|f4 rfl rfl rfl (by decide) rfl rfl<|E (kt<|kt<|kt<|kb<|kb<|kb<|kb<|kb<|kb<|kt<|kt<|kt<|kn) fun _=>?_
     refine F<|a6 rfl rfl<|C rfl<|E (kt<|kt<|kt<|kb<|kb<|kb<|kb<|kb<|kb<|kt<|kt<|kt<|kn) ?_
     cases h
     show Env.keep _ _=_
     rw [Ktv rfl (Ktv rfl (Ktv rfl (Kbx rfl (Kbx rfl (Kbx rfl (Kbx rfl (Kbx rfl (Kbx rfl (Ktv rfl (Ktv rfl (Ktv rfl (Knil _))))))))))))]
     rw [b4 (a5 (hw2 99)) hi2 (d3 (a5 (hw2 98)))]
     all_goals rfl
    ·replace h:=O hc119 h
     refine P (kt<|kt<|kt<|kb<|kb<|kb<|kb<|kb<|kb<|kt<|kt<|kt<|kn) fun _=>?_
     refine F<|a6 rfl rfl<|C rfl<|E (kt<|kt<|kt<|kb<|kb<|kb<|kb<|kb<|kb<|kt<|kt<|kt<|kn) ?_
     cases h
     show Env.keep _ _=_
     rw [Ktv rfl (Ktv rfl (Ktv rfl (Kbx rfl (Kbx rfl (Kbx rfl (Kbx rfl (Kbx rfl (Kbx rfl (Ktv rfl (Ktv rfl (Ktv rfl (Knil _))))))))))))]
     rw [b4 (a5 (hw2 99)) hi2 (d3 (a5 (hw2 98)))]
     all_goals rfl
   ·intro i2 s2 hi2
    refine D<|F<|V rfl rfl<|E (kt<|kt<|kt<|kb<|kb<|kb<|kb<|kb<|kb<|kt<|kt<|kt<|kt<|kn) fun _=>?_
    refine D<|b9 rfl (d0 hi2)<|b3 (kt<|kb<|kb<|kb<|kb<|kb<|kb<|kn) ?_
    exact ⟨rfl,rfl⟩
   ·intro _
    refine D<|d1 rfl<|R rfl rfl (show _=eRule r_2 from rfl)<|R rfl rfl (show _=eGraph s2.1 from rfl)<|a4 rfl<|J rfl ?_
    obtain ⟨x157,hx157,h⟩:=I h
    refine g3 rfl (c112 r_2.Right.Graph.Nodes _ hx157)<|a4 rfl<|J rfl ?_
    obtain ⟨x160,hx160,h⟩:=I h
    refine g3 rfl (c113 r_2.Right.Graph.Edges _ hx160)<|g1 rfl rfl rfl (show _=eGraph (Graph.mk x157 x160) from rfl)<|R rfl rfl (show _=eMorphism s2.2.1 from rfl) ?_
    obtain ⟨x163,hx163,h⟩:=I h
    refine S rfl (c91 r_2 s2.1 (Graph.mk x157 x160) s2.2.1 _ hx163)<|R rfl rfl (show _=ePart s2.2.2 from rfl)<|a7 rfl rfl rfl rfl rfl<|a7 rfl rfl rfl rfl rfl<|C rfl<|E (kb<|kb<|kt<|kn) fun _=>?_
    refine L ?_
    cases h
    exact ⟨by decide,rfl⟩
theorem ck18:CK f18 (Rq [Af 3 0,Af 4 1,Af 5 2,Br 6 1 3 4 0 5 1 3 4 0 5 1 1 1 1 0 9 1 1 1 3 4 0 5,Bc 7 1 1,Ad 8 0] [3,4,5,6,7]<|Rq [Ae 9 3 2,Ae 10 4 2,Ae 11 5 25,⟨some 12,.lst 1 [.c (.int .i64 1)],none⟩,Ce 13 62 9 10 11 12,Ao 14 13 0,Ao 15 13 1,Ao 16 13 2,Ai 25 6 14,Ai 2 7 15,Aa 8 16] [6,7,8]<|.ret) [.cell 6 (some 25),.cell 7 (some 2),.tmp 8]:= by decide +kernel
theorem c18 (t:Types) (s_1:Sorts) (r_2:Rule) (r:(Rule × Part × Int)) (h:triplerule_Forward t s_1 r_2=some r):Sound prog 18 [eTypes t,eSorts s_1,eRule r_2] (.tp [eRule r.1,ePart r.2.1,eI r.2.2]):= by
 refine Fn ck18 fun hw=>?_
 unfold triplerule_Forward at h
 refine D<|F<|a3 rfl rfl<|a3 rfl rfl<|a3 rfl rfl<|a9 rfl<|a9 rfl<|C rfl<|E (kt<|kt<|kt<|kb<|kb<|kn) fun _=>?_
 refine D<|F<|R rfl rfl (show _=eTypes t from rfl)<|R rfl rfl (show _=eSorts s_1 from rfl)<|R rfl rfl (show _=eRule r_2 from rfl)<|d7 (e:=eI) (l:=[1]) rfl rfl (fun _=>rfl) ?_
 obtain ⟨x13,hx13,h⟩:=I h
 refine e5 rfl (c62 t s_1 r_2 [1] _ hx13)<|b2 rfl rfl<|b2 rfl rfl<|b2 rfl rfl<|a7 rfl rfl rfl rfl rfl<|a7 rfl rfl rfl rfl rfl<|C rfl<|E (kb<|kb<|kt<|kn) fun _=>?_
 refine L ?_
 cases h
 exact ⟨by decide,rfl⟩
theorem ck65:CK f65 (Rq [Dq 6 0 0 0 0 0 0] [0,1,2,6]<|Rq [Aa 7 0,Aa 8 1,Aa 9 2,⟨some 10,.bld [.str ⟨#[]⟩,.int .i64 0,.int .i64 0,.int .i64 0,.int .i64 0,.int .i64 0,.int .i64 0] [(0,1,.s 7),(1,1,.s 8),(2,1,.s 9),(4,1,.c (.int .i64 (-1))),(6,1,.c (.int .i64 (-1)))],none⟩,Ai 7 6 10] [6]<|.ret) [.cell 6 (some 7)]:= by decide +kernel
theorem c65 (name:ByteArray) (from':Int) (to':Int) (r:EdgeType) (h:ref52_edge name from' to'=some r):Sound prog 65 [eS name,eI from',eI to'] (.sh (eEdgeType r)):= by
 refine Fn ck65 fun hw=>?_
 unfold ref52_edge at h
 refine D<|F<|a9 rfl<|E (kt<|kt<|kt<|kb<|kn) fun _=>?_
 refine D<|F<|C rfl<|C rfl<|C rfl<|e6 rfl rfl (show _=eEdgeType (EdgeType.mk name from' to' 0 (-1) 0 (-1)) from rfl)<|a7 rfl rfl rfl rfl rfl<|E (kb<|kn) fun _=>?_
 exact L (by cases h;rfl)
theorem ck26:CK f26 (Rq [Bc 0 4 7,Bc 1 1 1] [0,1]<|Rq [⟨some 3,.bld [.str ⟨#[]⟩,.int .i64 0,.bool false,.list 4 []] [(0,1,.c (.str ⟨#[67,108,97,115,115]⟩)),(1,1,.c (.int .i64 (-1)))],none⟩,⟨some 4,.bld [.str ⟨#[]⟩,.int .i64 0,.bool false,.list 4 []] [(0,1,.c (.str ⟨#[65,116,116,114,105,98,117,116,101]⟩)),(1,1,.c (.int .i64 (-1)))],none⟩,⟨some 5,.bld [.str ⟨#[]⟩,.int .i64 0,.bool false,.list 4 []] [(0,1,.c (.str ⟨#[84,97,98,108,101]⟩)),(1,1,.c (.int .i64 (-1)))],none⟩,⟨some 6,.bld [.str ⟨#[]⟩,.int .i64 0,.bool false,.list 4 []] [(0,1,.c (.str ⟨#[67,111,108,117,109,110]⟩)),(1,1,.c (.int .i64 (-1)))],none⟩,⟨some 7,.bld [.str ⟨#[]⟩,.int .i64 0,.bool false,.list 4 []] [(0,1,.c (.str ⟨#[77,97,112]⟩)),(1,1,.c (.int .i64 (-1)))],none⟩,⟨some 8,.lst 4 [.s 3,.s 4,.s 5,.s 6,.s 7],none⟩,⟨some 9,.call 65 [.c (.str ⟨#[104,97,115]⟩),.c (.int .i64 0),.c (.int .i64 1)],none⟩,⟨some 10,.call 65 [.c (.str ⟨#[119,105,116,104]⟩),.c (.int .i64 2),.c (.int .i64 3)],none⟩,⟨some 11,.call 65 [.c (.str ⟨#[111,102,67,108,97,115,115]⟩),.c (.int .i64 4),.c (.int .i64 0)],none⟩,⟨some 12,.call 65 [.c (.str ⟨#[111,102,65,116,116,114,105,98,117,116,101]⟩),.c (.int .i64 4),.c (.int .i64 1)],none⟩,⟨some 13,.call 65 [.c (.str ⟨#[116,111,84,97,98,108,101]⟩),.c (.int .i64 4),.c (.int .i64 2)],none⟩,⟨some 14,.call 65 [.c (.str ⟨#[116,111,67,111,108,117,109,110]⟩),.c (.int .i64 4),.c (.int .i64 3)],none⟩,⟨some 15,.lst 7 [.s 9,.s 10,.s 11,.s 12,.s 13,.s 14],none⟩,Cd 16 4 7 0 1 8 1 1 15,Bc 2 4 7,Ai 2 2 16] [0,1,2]<|Rq [Ae 17 2 2,⟨some 18,.lst 1 [.c (.int .i64 1),.c (.int .i64 1),.c (.int .i64 3),.c (.int .i64 3),.c (.int .i64 2)],none⟩,⟨some 19,.lst 1 [.c (.int .i64 1),.c (.int .i64 3),.c (.int .i64 2),.c (.int .i64 2),.c (.int .i64 2),.c (.int .i64 2)],none⟩,Cd 20 1 1 0 1 18 1 1 19,Ai 2 0 17,Ai 2 1 20] [0,1]<|.ret) [.cell 0 (some 2),.cell 1 (some 2)]:= by decide +kernel
theorem c26  (r:(Types × Sorts)) (h:ref52_Example =some r):Sound prog 26 [] (.tp [eTypes r.1,eSorts r.2]):= by
 refine Fn ck26 fun hw=>?_
 unfold ref52_Example at h
 refine D<|F<|a9 rfl<|a9 rfl<|E (kb<|kb<|kn) fun _=>?_
 refine D<|F<|e6 rfl rfl (show _=eNodeType (NodeType.mk (⟨#[67,108,97,115,115]⟩:ByteArray) (-1) false []) from rfl)<|e6 rfl rfl (show _=eNodeType (NodeType.mk (⟨#[65,116,116,114,105,98,117,116,101]⟩:ByteArray) (-1) false []) from rfl)<|e6 rfl rfl (show _=eNodeType (NodeType.mk (⟨#[84,97,98,108,101]⟩:ByteArray) (-1) false []) from rfl)<|e6 rfl rfl (show _=eNodeType (NodeType.mk (⟨#[67,111,108,117,109,110]⟩:ByteArray) (-1) false []) from rfl)<|e6 rfl rfl (show _=eNodeType (NodeType.mk (⟨#[77,97,112]⟩:ByteArray) (-1) false []) from rfl)<|d7 (e:=eNodeType) (l:=[NodeType.mk (⟨#[67,108,97,115,115]⟩:ByteArray) (-1) false [],NodeType.mk (⟨#[65,116,116,114,105,98,117,116,101]⟩:ByteArray) (-1) false [],NodeType.mk (⟨#[84,97,98,108,101]⟩:ByteArray) (-1) false [],NodeType.mk (⟨#[67,111,108,117,109,110]⟩:ByteArray) (-1) false [],NodeType.mk (⟨#[77,97,112]⟩:ByteArray) (-1) false []]) rfl rfl (fun _=>rfl) ?_
 obtain ⟨x9,hx9,h⟩:=I h
 refine S rfl (c65 (⟨#[104,97,115]⟩:ByteArray) 0 1 _ hx9) ?_
 obtain ⟨x10,hx10,h⟩:=I h
 refine S rfl (c65 (⟨#[119,105,116,104]⟩:ByteArray) 2 3 _ hx10) ?_
 obtain ⟨x11,hx11,h⟩:=I h
 refine S rfl (c65 (⟨#[111,102,67,108,97,115,115]⟩:ByteArray) 4 0 _ hx11) ?_
 obtain ⟨x12,hx12,h⟩:=I h
 refine S rfl (c65 (⟨#[111,102,65,116,116,114,105,98,117,116,101]⟩:ByteArray) 4 1 _ hx12) ?_
 obtain ⟨x13,hx13,h⟩:=I h
 refine S rfl (c65 (⟨#[116,111,84,97,98,108,101]⟩:ByteArray) 4 2 _ hx13) ?_
 obtain ⟨x14,hx14,h⟩:=I h
 refine S rfl (c65 (⟨#[116,111,67,111,108,117,109,110]⟩:ByteArray) 4 3 _ hx14)<|d7 (e:=eEdgeType) (l:=[x9,x10,x11,x12,x13,x14]) rfl rfl (fun _=>rfl)<|g1 rfl rfl rfl (show _=eTypes (Types.mk [NodeType.mk (⟨#[67,108,97,115,115]⟩:ByteArray) (-1) false [],NodeType.mk (⟨#[65,116,116,114,105,98,117,116,101]⟩:ByteArray) (-1) false [],NodeType.mk (⟨#[84,97,98,108,101]⟩:ByteArray) (-1) false [],NodeType.mk (⟨#[67,111,108,117,109,110]⟩:ByteArray) (-1) false [],NodeType.mk (⟨#[77,97,112]⟩:ByteArray) (-1) false []] [x9,x10,x11,x12,x13,x14]) from rfl)<|a9 rfl<|a7 rfl rfl rfl rfl rfl<|E (kb<|kb<|kb<|kn) fun _=>?_
 refine D<|F<|R rfl rfl (show _=eTypes (Types.mk [NodeType.mk (⟨#[67,108,97,115,115]⟩:ByteArray) (-1) false [],NodeType.mk (⟨#[65,116,116,114,105,98,117,116,101]⟩:ByteArray) (-1) false [],NodeType.mk (⟨#[84,97,98,108,101]⟩:ByteArray) (-1) false [],NodeType.mk (⟨#[67,111,108,117,109,110]⟩:ByteArray) (-1) false [],NodeType.mk (⟨#[77,97,112]⟩:ByteArray) (-1) false []] [x9,x10,x11,x12,x13,x14]) from rfl)<|d7 (e:=eI) (l:=[1,1,3,3,2]) rfl rfl (fun _=>rfl)<|d7 (e:=eI) (l:=[1,3,2,2,2,2]) rfl rfl (fun _=>rfl)<|g1 rfl rfl rfl (show _=eSorts (Sorts.mk [1,1,3,3,2] [1,3,2,2,2,2]) from rfl)<|a7 rfl rfl rfl rfl rfl<|a7 rfl rfl rfl rfl rfl<|E (kb<|kb<|kn) fun _=>?_
 refine L ?_
 cases h
 exact ⟨by decide,rfl⟩
theorem ck43:CK f43 (Rq [Ak 4] [0,1]<|Sq (Rq [Aa 6 0,Ah 7 6,Aa 8 1,Ah 9 8,Bs 10 7 9] [0,1,10]<|Co 10 (Rq [Ak 4] [4]<|.ret)<|Sk [0,1])<|Sq (Rq [Aa 11 0,Ah 12 11,Ad 13 0] [0,1,12,13]<|Bl 0<|Lo [0,1,12,13]<|Rq [Aq 14 13 12] [0,1,12,13,14]<|Sq (Co 14 (Sk [0,1,12,13])<|Ex 0 [])<|Sq (Bl 1<|Rq [Aa 15 13,Aa 5 15] [0,1,5,12,13]<|Sq (Dr [16,17,18,19,20,21,22,23,24] [Aa 16 0,Aa 17 5,Ag 18 16 17 1,Ab 19 18,Aa 20 1,Aa 21 5,Ag 22 20 21 1,Ab 23 22,Bs 24 19 23] [0,1,12,13,24])<|Co 24 (Rq [Ak 4] [4]<|.ret)<|Sk [0,1,12,13])<|Re [Ap 25 13 1,Aa 13 25] [0,1,12,13])<|Rq [Db 4] [4]<|.ret) [.tmp 4]:= by decide +kernel
theorem c43 (s1_0:List Int) (s2_1:List Int) (r:Bool) (h:slices_Equal_int s1_0 s2_1=some r):Sound prog 43 [lI s1_0,lI s2_1] (.sh (eB r)):= by
 refine Fn ck43 fun hw=>?_
 unfold slices_Equal_int at h
 refine D<|F<|C rfl<|E (kt<|kt<|kn) fun _=>?_
 refine D<|D<|F<|C rfl<|U rfl rfl<|C rfl<|U rfl rfl<|b1 rfl rfl<|E (kt<|kt<|kt<|kn) fun _=>?_
 refine T rfl (fun hc10=>?_) (fun hc10=>?_)
 ·replace h:=M hc10 h
  refine D<|F<|C rfl<|E (kt<|kn) fun _=>?_
  exact L (by cases h;rfl)
 ·replace h:=O hc10 h
  refine P (kt<|kt<|kn) fun _=>?_
  refine D<|D<|F<|C rfl<|U rfl rfl<|C rfl<|E (kt<|kt<|kt<|kt<|kn) fun _=>?_
  obtain ⟨o0,ho0,h⟩:=d4 h
  refine e1 ho0 (fun (i0:Int) (_:Unit)=>[(0,.tv (lI s1_0)),(1,.tv (lI s2_1)),(12,.tv (eI (s1_0.length:Int))),(13,.tv (eI i0))]) (fun (_:Unit)=>[]) (fun zv ze=>resIs ([.tmp 4]) (.sh (eB zv)) ze) rfl ?_ ?_ ?_ ?_
  ·clear h ho0
   intro i0 s0 r0 hi0 h hw0
   refine D<|F<|V rfl rfl<|E (kt<|kt<|kt<|kt<|kt<|kn) fun _=>?_
   refine D<|b7 rfl (b8 hi0)<|P (kt<|kt<|kt<|kt<|kn) fun _=>?_
   refine D<|b0<|D<|F<|C rfl<|C rfl<|E (kt<|kt<|kt<|kt<|kt<|kn) fun _=>?_
   refine D<|d1 rfl<|C rfl<|C rfl ?_
   obtain ⟨x18,hx18,h⟩:=I h
   refine Z rfl rfl rfl hx18 rfl<|J rfl<|C rfl<|C rfl ?_
   obtain ⟨x22,hx22,h⟩:=I h
   refine Z rfl rfl rfl hx22 rfl<|J rfl<|b1 rfl rfl<|E (kt<|kt<|kt<|kt<|kt<|kn) fun _=>?_
   refine T rfl (fun hc24=>?_) (fun hc24=>?_)
   ·replace h:=M hc24 h
    refine D<|F<|C rfl<|E (kt<|kn) fun _=>?_
    refine L ?_
    cases h
    exact ⟨_,rfl,rfl⟩
   ·replace h:=O hc24 h
    refine P (kt<|kt<|kt<|kt<|kn) fun _=>?_
    refine F<|a6 rfl rfl<|C rfl<|E (kt<|kt<|kt<|kt<|kn) ?_
    cases h
    refine ⟨_,rfl,?_⟩
    rw [Ktv rfl (Ktv rfl (Ktv rfl (Ktv rfl (Knil _))))]
    rw [b4 (a5 (hw0 13)) hi0 (d3 (a5 (hw0 12)))]
    all_goals rfl
  ·intro i0 s0 hi0
   refine D<|F<|V rfl rfl<|E (kt<|kt<|kt<|kt<|kt<|kn) fun _=>?_
   refine D<|b9 rfl (d0 hi0)<|b3 (kn) ?_
   exact ⟨rfl,rfl⟩
  ·intro s0 hs
   replace h:=d5 h hs
   intro _
   refine D<|F<|C rfl<|E (kt<|kn) fun _=>?_
   exact L (by cases h;rfl)
  ·intro v0 ze hv hR
   replace h:=d6 h hv
   cases h
   exact hR
theorem ck45:CK f45 (Rq [Br 0 1 3 4 0 5 1 3 4 0 5 1 1 1 1 0 9 1 1 1 3 4 0 5] [0]<|Rq [⟨some 1,.lst 1 [.c (.int .i64 0),.c (.int .i64 2),.c (.int .i64 4)],none⟩,Fh 2 0 0 0 0 1 2 1 1 2 2 1 0,Fh 3 0 0 0 0 1 4 1 1 2 2 1 1,El 4 3 2 3,Cd 5 1 3 0 1 1 1 1 4,Dl 6 1 3 4 0 5 0 2 5,Eo 7 0 9 1 1 1 3 4 0 5 0 1 1,⟨some 8,.bld [.str ⟨#[]⟩,.list 1 [],.list 3 [],.list 4 [],.int .i64 0,.list 5 [],.list 1 [],.list 3 [],.list 4 [],.int .i64 0,.list 5 [],.list 1 [],.list 1 [],.list 1 [],.list 1 [],.bool false,.int .i64 0,.list 9 [],.list 1 [],.list 1 [],.list 1 [],.list 3 [],.list 4 [],.int .i64 0,.list 5 []] [(0,1,.c (.str ⟨#[99,108,97,115,115,101,115]⟩)),(6,5,.s 6),(15,1,.c (.bool true)),(16,9,.s 7)],none⟩,Ai 25 0 8] [0]<|.ret) [.cell 0 (some 25)]:= by decide +kernel
theorem c45  (r:Rule) (h:law53_classes =some r):Sound prog 45 [] (.sh (eRule r)):= by
 refine Fn ck45 fun hw=>?_
 unfold law53_classes at h
 refine D<|F<|a9 rfl<|E (kb<|kn) fun _=>?_
 refine D<|F<|d7 (e:=eI) (l:=[0,2,4]) rfl rfl (fun _=>rfl)<|g1 rfl rfl rfl (show _=eEdge (Edge.mk 2 2 0) from rfl)<|g1 rfl rfl rfl (show _=eEdge (Edge.mk 4 2 1) from rfl)<|d7 (e:=eEdge) (l:=[Edge.mk 2 2 0,Edge.mk 4 2 1]) rfl rfl (fun _=>rfl)<|g1 rfl rfl rfl (show _=eGraph (Graph.mk [0,2,4] [Edge.mk 2 2 0,Edge.mk 4 2 1]) from rfl)<|e6 rfl rfl (show _=ePattern (Pattern.mk (Graph.mk [0,2,4] [Edge.mk 2 2 0,Edge.mk 4 2 1]) [] 0 []) from rfl)<|e6 rfl rfl (show _=eCondition (Condition.mk 1 [] (Morphism.mk [] []) (Pattern.mk (Graph.mk [] []) [] 0 [])) from rfl)<|e6 rfl rfl (show _=eRule (Rule.mk (⟨#[99,108,97,115,115,101,115]⟩:ByteArray) (Pattern.mk (Graph.mk [] []) [] 0 []) (Pattern.mk (Graph.mk [0,2,4] [Edge.mk 2 2 0,Edge.mk 4 2 1]) [] 0 []) (Part.mk [] []) (Morphism.mk [] []) true (Condition.mk 1 [] (Morphism.mk [] []) (Pattern.mk (Graph.mk [] []) [] 0 []))) from rfl)<|a7 rfl rfl rfl rfl rfl<|E (kb<|kn) fun _=>?_
 exact L (by cases h;rfl)
theorem ck9:CK f9 (Rq [Ak 0] []<|Rq [Cv 9 26,Aa 8 9,Ao 10 8 0,Ao 11 8 1,Bc 1 4 7,Bc 2 1 1,Ai 2 1 10,Ai 2 2 11] [1,2]<|Sq (Dr [3,4,12,13,14,15,16,17,18] [Ae 13 1 2,Ae 14 2 2,Cv 15 45,Bg 16 11 13 14 15,Aa 12 16,Ao 17 12 0,Ao 18 12 1,Br 3 1 3 4 0 5 1 3 4 0 5 1 1 1 1 0 9 1 1 1 3 4 0 5,Ai 25 3 17,Aa 4 18] [1,2,3,4])<|Sq (Dr [5,6,7,19,20,21,22,23,24,25,26] [Ae 20 1 2,Ae 21 2 2,Cv 22 45,Bg 23 18 20 21 22,Aa 19 23,Ao 24 19 0,Ao 25 19 1,Ao 26 19 2,Br 5 1 3 4 0 5 1 3 4 0 5 1 1 1 1 0 9 1 1 1 3 4 0 5,Bc 6 1 1,Ai 25 5 24,Ai 2 6 25,Aa 7 26] [3,4,5,6,7])<|Rq [Aa 27 4,Bh 28 27 0,Aa 29 28,Aw 30 3 6 29,By 31 30 0 29,By 32 31 0 29,Av 33 32 29,Ep 34 1 0 29,Bn 35 43 33 34 29,An 36 29 35,Aa 37 36,Am 38 7 37,Cm 39 38 0 37,An 40 37 39,Aa 41 40,Aw 42 5 1 41,By 43 42 0 41,By 44 43 0 41,Av 45 44 41,Ep 46 1 0 41,Bn 47 43 45 46 41,An 48 41 47,Aa 49 48,Aw 50 6 0 49,Av 51 50 49,Ep 52 1 0 49,Bn 53 43 51 52 49,An 54 49 53,Aa 55 54,Aw 56 5 6 55,By 57 56 0 55,By 58 57 0 55,Av 59 58 55,Ca 60 59 55,Cm 61 60 3 55,An 62 55 61,Aa 0 62] [0]<|.ret) [.tmp 0]:= by decide +kernel
theorem c9  (r:Bool) (h:law53_awake =some r):Sound prog 9 [] (.sh (eB r)):= by
 refine Fn ck9 fun hw=>?_
 unfold law53_awake at h
 refine D<|F<|C rfl<|E (kn) fun _=>?_
 refine D<|F ?_
 obtain ⟨x9,hx9,h⟩:=I h
 refine e5 rfl (c26  _ hx9)<|e8 rfl<|b2 rfl rfl<|b2 rfl rfl<|a9 rfl<|a9 rfl<|a7 rfl rfl rfl rfl rfl<|a7 rfl rfl rfl rfl rfl<|E (kb<|kb<|kn) fun _=>?_
 refine D<|d1 rfl<|R rfl rfl (show _=eTypes x9.1 from rfl)<|R rfl rfl (show _=eSorts x9.2 from rfl) ?_
 obtain ⟨x15,hx15,h⟩:=I h
 refine S rfl (c45  _ hx15) ?_
 obtain ⟨x16,hx16,h⟩:=I h
 refine e5 rfl (c11 x9.1 x9.2 x15 _ hx16)<|e8 rfl<|b2 rfl rfl<|b2 rfl rfl<|a9 rfl<|a7 rfl rfl rfl rfl rfl<|C rfl<|E (kb<|kb<|kb<|kt<|kn) fun _=>?_
 refine D<|d1 rfl<|R rfl rfl (show _=eTypes x9.1 from rfl)<|R rfl rfl (show _=eSorts x9.2 from rfl) ?_
 obtain ⟨x22,hx22,h⟩:=I h
 refine S rfl (c45  _ hx22) ?_
 obtain ⟨x23,hx23,h⟩:=I h
 refine e5 rfl (c18 x9.1 x9.2 x22 _ hx23)<|e8 rfl<|b2 rfl rfl<|b2 rfl rfl<|b2 rfl rfl<|a9 rfl<|a9 rfl<|a7 rfl rfl rfl rfl rfl<|a7 rfl rfl rfl rfl rfl<|C rfl<|E (kb<|kt<|kb<|kb<|kt<|kn) fun _=>?_
 refine D<|F<|C rfl<|d2 rfl rfl<|C rfl ?_
 obtain ⟨x36,hx36,h⟩:=I h
 refine gX 7 [30,31,32,33,34,35] 36 x36 (decide (x16.2=0)) (fun hg36=>?_) (fun hg36=>?_) ?_
 ·replace h:=M hg36 hx36
  refine G rfl hg36<|a4 rfl<|G rfl hg36<|f2 rfl rfl<|G rfl hg36<|f2 rfl rfl<|G rfl hg36<|J rfl<|G rfl hg36<|d7 (e:=eI) (l:=[0]) rfl rfl (fun _=>rfl) ?_
  obtain ⟨x35,hx35,h⟩:=I h
  refine G rfl hg36<|S rfl (c43 x16.1.Right.Graph.Nodes [0] _ hx35) ?_
  cases h
  refine X rfl hg36 rfl ?_
  exact ⟨⟨_,_,_,_,_,_,rfl⟩⟩
 ·replace h:=O hg36 hx36
  cases h
  refine H rfl hg36<|H rfl hg36<|H rfl hg36<|H rfl hg36<|H rfl hg36<|H rfl hg36<|Y rfl hg36 rfl ?_
  exact ⟨⟨_,_,_,_,_,_,rfl⟩⟩
 rintro _ ⟨_,_,_,_,_,_,rfl⟩
 refine C rfl ?_
 refine gA 3 [38,39] 40 x36 (decide (x23.2.2=0)) (fun hg40=>?_) (fun hg40=>?_) ?_
 ·refine G rfl hg40<|C rfl<|G rfl hg40<|d2 rfl rfl<|X rfl hg40 rfl ?_
  exact ⟨⟨_,_,rfl⟩⟩
 ·refine H rfl hg40<|H rfl hg40<|Y rfl hg40 rfl ?_
  exact ⟨⟨_,_,rfl⟩⟩
 rintro _ ⟨_,_,rfl⟩
 refine C rfl ?_
 obtain ⟨x48,hx48,h⟩:=I h
 refine gX 7 [42,43,44,45,46,47] 48 x48 (x36&&(decide (x23.2.2=0))) (fun hg48=>?_) (fun hg48=>?_) ?_
 ·replace h:=M hg48 hx48
  refine G rfl hg48<|a4 rfl<|G rfl hg48<|f2 rfl rfl<|G rfl hg48<|f2 rfl rfl<|G rfl hg48<|J rfl<|G rfl hg48<|d7 (e:=eI) (l:=[0]) rfl rfl (fun _=>rfl) ?_
  obtain ⟨x47,hx47,h⟩:=I h
  refine G rfl hg48<|S rfl (c43 x23.1.Left.Graph.Nodes [0] _ hx47) ?_
  cases h
  refine X rfl hg48 rfl ?_
  exact ⟨⟨_,_,_,_,_,_,rfl⟩⟩
 ·replace h:=O hg48 hx48
  cases h
  refine H rfl hg48<|H rfl hg48<|H rfl hg48<|H rfl hg48<|H rfl hg48<|H rfl hg48<|Y rfl hg48 rfl ?_
  exact ⟨⟨_,_,_,_,_,_,rfl⟩⟩
 rintro _ ⟨_,_,_,_,_,_,rfl⟩
 refine C rfl ?_
 obtain ⟨x54,hx54,h⟩:=I h
 refine gX 5 [50,51,52,53] 54 x54 x48 (fun hg54=>?_) (fun hg54=>?_) ?_
 ·replace h:=M hg54 hx54
  refine G rfl hg54<|a4 rfl<|G rfl hg54<|J rfl<|G rfl hg54<|d7 (e:=eI) (l:=[0]) rfl rfl (fun _=>rfl) ?_
  obtain ⟨x53,hx53,h⟩:=I h
  refine G rfl hg54<|S rfl (c43 x23.2.1.Nodes [0] _ hx53) ?_
  cases h
  refine X rfl hg54 rfl ?_
  exact ⟨⟨_,_,_,_,rfl⟩⟩
 ·replace h:=O hg54 hx54
  cases h
  refine H rfl hg54<|H rfl hg54<|H rfl hg54<|H rfl hg54<|Y rfl hg54 rfl ?_
  exact ⟨⟨_,_,_,_,rfl⟩⟩
 rintro _ ⟨_,_,_,_,rfl⟩
 refine C rfl ?_
 refine gA 7 [56,57,58,59,60,61] 62 x54 (decide ((x23.1.Right.Graph.Nodes.length:Int)=3)) (fun hg62=>?_) (fun hg62=>?_) ?_
 ·refine G rfl hg62<|a4 rfl<|G rfl hg62<|f2 rfl rfl<|G rfl hg62<|f2 rfl rfl<|G rfl hg62<|J rfl<|G rfl hg62<|U rfl rfl<|G rfl hg62<|d2 rfl rfl<|X rfl hg62 rfl ?_
  exact ⟨⟨_,_,_,_,_,_,rfl⟩⟩
 ·refine H rfl hg62<|H rfl hg62<|H rfl hg62<|H rfl hg62<|H rfl hg62<|H rfl hg62<|Y rfl hg62 rfl ?_
  exact ⟨⟨_,_,_,_,_,_,rfl⟩⟩
 rintro _ ⟨_,_,_,_,_,_,rfl⟩
 refine C rfl<|E (kt<|kn) fun _=>?_
 exact L (by cases h;rfl)
theorem ck13:CK f13 (Rq [Af 3 0,Af 4 1,Af 5 2,Br 6 1 3 4 0 5 1 3 4 0 5 1 1 1 1 0 9 1 1 1 3 4 0 5,Ad 7 0] [3,4,5,6]<|Rq [Ae 8 3 2,Ae 9 4 2,Ae 10 5 25,Fg 11 49 8 9 10 3,Ao 12 11 0,Ao 13 11 1,Ai 25 6 12,Aa 7 13] [6,7]<|.ret) [.cell 6 (some 25),.tmp 7]:= by decide +kernel
theorem c13 (t:Types) (s_1:Sorts) (r_2:Rule) (r:(Rule × Int)) (h:triplerule_Target t s_1 r_2=some r):Sound prog 13 [eTypes t,eSorts s_1,eRule r_2] (.tp [eRule r.1,eI r.2]):= by
 refine Fn ck13 fun hw=>?_
 unfold triplerule_Target at h
 refine D<|F<|a3 rfl rfl<|a3 rfl rfl<|a3 rfl rfl<|a9 rfl<|C rfl<|E (kt<|kt<|kt<|kb<|kn) fun _=>?_
 refine D<|F<|R rfl rfl (show _=eTypes t from rfl)<|R rfl rfl (show _=eSorts s_1 from rfl)<|R rfl rfl (show _=eRule r_2 from rfl) ?_
 obtain ⟨x11,hx11,h⟩:=I h
 refine e5 rfl (c49 t s_1 r_2 3 _ hx11)<|b2 rfl rfl<|b2 rfl rfl<|a7 rfl rfl rfl rfl rfl<|C rfl<|E (kb<|kt<|kn) fun _=>?_
 refine L ?_
 cases h
 exact ⟨by decide,rfl⟩
theorem ck64:CK f64 (Rq [Ak 4] [0,1]<|Sq (Rq [Aa 6 0,Ah 7 6,Aa 8 1,Ah 9 8,Bs 10 7 9] [0,1,10]<|Co 10 (Rq [Ak 4] [4]<|.ret)<|Sk [0,1])<|Sq (Rq [Ad 5 0] [0,1,5]<|Bl 0<|Lo [0,1,5]<|Sq (Rq [Aa 11 5,Aa 12 0,Ah 13 12,Aq 14 11 13] [0,1,5,14]<|Co 14 (Sk [0,1,5])<|Ex 0 [])<|Sq (Bl 1<|Sq (Dr [17,18,19,20,21,22,23,24,25] [Aa 17 0,Aa 18 5,Ag 19 17 18 1,Ab 20 19,Aa 21 1,Aa 22 5,Ag 23 21 22 1,Ab 24 23,Bs 25 20 24] [0,1,5,25])<|Co 25 (Rq [Ak 4] [4]<|.ret)<|Sk [0,1,5])<|Re [Aa 15 5,Ap 16 15 1,Aa 5 16] [0,1,5])<|Rq [Db 4] [4]<|.ret) [.tmp 4]:= by decide +kernel
theorem c64 (a:List Int) (b:List Int) (r:Bool) (h:ref05_SameInts a b=some r):Sound prog 64 [lI a,lI b] (.sh (eB r)):= by
 refine Fn ck64 fun hw=>?_
 unfold ref05_SameInts at h
 refine D<|F<|C rfl<|E (kt<|kt<|kn) fun _=>?_
 refine D<|D<|F<|C rfl<|U rfl rfl<|C rfl<|U rfl rfl<|b1 rfl rfl<|E (kt<|kt<|kt<|kn) fun _=>?_
 refine T rfl (fun hc10=>?_) (fun hc10=>?_)
 ·replace h:=M hc10 h
  refine D<|F<|C rfl<|E (kt<|kn) fun _=>?_
  exact L (by cases h;rfl)
 ·replace h:=O hc10 h
  refine P (kt<|kt<|kn) fun _=>?_
  refine D<|D<|F<|C rfl<|E (kt<|kt<|kt<|kn) fun _=>?_
  obtain ⟨o0,ho0,h⟩:=d4 h
  refine e1 ho0 (fun (i0:Int) (_:Unit)=>[(0,.tv (lI a)),(1,.tv (lI b)),(5,.tv (eI i0))]) (fun (_:Unit)=>[]) (fun zv ze=>resIs ([.tmp 4]) (.sh (eB zv)) ze) rfl ?_ ?_ ?_ ?_
  ·clear h ho0
   intro i0 s0 r0 hi0 h hw0
   refine D<|D<|F<|C rfl<|C rfl<|U rfl rfl<|V rfl rfl<|E (kt<|kt<|kt<|kt<|kn) fun _=>?_
   refine b7 rfl (b8 hi0)<|P (kt<|kt<|kt<|kn) fun _=>?_
   refine D<|b0<|D<|d1 rfl<|C rfl<|C rfl ?_
   obtain ⟨x19,hx19,h⟩:=I h
   refine Z rfl rfl rfl hx19 rfl<|J rfl<|C rfl<|C rfl ?_
   obtain ⟨x23,hx23,h⟩:=I h
   refine Z rfl rfl rfl hx23 rfl<|J rfl<|b1 rfl rfl<|E (kt<|kt<|kt<|kt<|kn) fun _=>?_
   refine T rfl (fun hc25=>?_) (fun hc25=>?_)
   ·replace h:=M hc25 h
    refine D<|F<|C rfl<|E (kt<|kn) fun _=>?_
    refine L ?_
    cases h
    exact ⟨_,rfl,rfl⟩
   ·replace h:=O hc25 h
    refine P (kt<|kt<|kt<|kn) fun _=>?_
    refine F<|C rfl<|a6 rfl rfl<|C rfl<|E (kt<|kt<|kt<|kn) ?_
    cases h
    refine ⟨_,rfl,?_⟩
    rw [Ktv rfl (Ktv rfl (Ktv rfl (Knil _)))]
    rw [b4 (a5 (hw0 5)) hi0 (f8 (a5 (hw0 0)) rfl)]
    all_goals rfl
  ·intro i0 s0 hi0
   refine D<|D<|F<|C rfl<|C rfl<|U rfl rfl<|V rfl rfl<|E (kt<|kt<|kt<|kt<|kn) fun _=>?_
   refine b9 rfl (d0 hi0)<|b3 (kn) ?_
   exact ⟨rfl,rfl⟩
  ·intro s0 hs
   replace h:=d5 h hs
   intro _
   refine D<|F<|C rfl<|E (kt<|kn) fun _=>?_
   exact L (by cases h;rfl)
  ·intro v0 ze hv hR
   replace h:=d6 h hv
   cases h
   exact hR
theorem ck22:CK f22 (Rq [Af 2 0,Af 3 1,Ak 4] [2,3]<|Rq [Ac 5 2 0,Ab 6 5,Ac 7 3 0,Ab 8 7,Al 9 64 6 8,Aa 10 9,Aw 11 2 1 10,Av 12 11 10,Aw 13 3 1 10,Av 14 13 10,Bn 15 64 12 14 10,An 16 10 15,Aa 4 16] [4]<|.ret) [.tmp 4]:= by decide +kernel
theorem c22 (p:Part) (q:Part) (r:Bool) (h:ref07_Same p q=some r):Sound prog 22 [ePart p,ePart q] (.sh (eB r)):= by
 refine Fn ck22 fun hw=>?_
 unfold ref07_Same at h
 refine D<|F<|a3 rfl rfl<|a3 rfl rfl<|C rfl<|E (kt<|kt<|kn) fun _=>?_
 refine D<|F<|K rfl<|J rfl<|K rfl<|J rfl ?_
 obtain ⟨x9,hx9,h⟩:=I h
 refine S rfl (c64 p.Nodes q.Nodes _ hx9)<|C rfl ?_
 obtain ⟨x16,hx16,h⟩:=I h
 refine gX 6 [11,12,13,14,15] 16 x16 x9 (fun hg16=>?_) (fun hg16=>?_) ?_
 ·replace h:=M hg16 hx16
  refine G rfl hg16<|K rfl<|G rfl hg16<|J rfl<|G rfl hg16<|K rfl<|G rfl hg16<|J rfl ?_
  obtain ⟨x15,hx15,h⟩:=I h
  refine G rfl hg16<|S rfl (c64 p.Edges q.Edges _ hx15) ?_
  cases h
  refine X rfl hg16 rfl ?_
  exact ⟨⟨_,_,_,_,_,rfl⟩⟩
 ·replace h:=O hg16 hx16
  cases h
  refine H rfl hg16<|H rfl hg16<|H rfl hg16<|H rfl hg16<|H rfl hg16<|Y rfl hg16 rfl ?_
  exact ⟨⟨_,_,_,_,_,rfl⟩⟩
 rintro _ ⟨_,_,_,_,_,rfl⟩
 refine C rfl<|E (kt<|kn) fun _=>?_
 exact L (by cases h;rfl)
theorem ck41:CK f41 (Rq [Af 2 0,Af 3 1,Ak 4] [2,3]<|Sq (Rq [Ac 6 2 0,Ab 7 6,Ac 8 3 0,Ab 9 8,Al 10 64 7 9,Ay 11 10,Aa 12 11,Ar 13 2 1 12,As 14 13 12,Bd 15 14 12,Ar 16 3 1 12,As 17 16 12,Bd 18 17 12,Cc 19 15 18 12,Au 20 12 19] [2,3,20]<|Co 20 (Rq [Ak 4] [4]<|.ret)<|Sk [2,3])<|Sq (Rq [Ad 5 0] [2,3,5]<|Bl 0<|Lo [2,3,5]<|Sq (Rq [Aa 21 5,Ac 22 2 1,Ab 23 22,Ah 24 23,Aq 25 21 24] [2,3,5,25]<|Co 25 (Sk [2,3,5])<|Ex 0 [])<|Sq (Bl 1<|Sq (Dr [28,29,30,31,32,33,34,35,36,37,38] [Ac 28 2 1,Ab 29 28,Aa 30 5,Ag 31 29 30 3,Ae 32 31 3,Ac 33 3 1,Ab 34 33,Aa 35 5,Ag 36 34 35 3,Ae 37 36 3,⟨some 38,.bin (.a [0,0,0]) .neq (.s 32) (.s 37),none⟩] [2,3,5,38])<|Co 38 (Rq [Ak 4] [4]<|.ret)<|Sk [2,3,5])<|Re [Aa 26 5,Ap 27 26 1,Aa 5 27] [2,3,5])<|Rq [Db 4] [4]<|.ret) [.tmp 4]:= by decide +kernel
theorem c41 (a:Graph) (b:Graph) (r:Bool) (h:ref05_Same a b=some r):Sound prog 41 [eGraph a,eGraph b] (.sh (eB r)):= by
 refine Fn ck41 fun hw=>?_
 unfold ref05_Same at h
 refine D<|F<|a3 rfl rfl<|a3 rfl rfl<|C rfl<|E (kt<|kt<|kn) fun _=>?_
 refine D<|D<|F<|K rfl<|J rfl<|K rfl<|J rfl ?_
 obtain ⟨x10,hx10,h⟩:=I h
 refine S rfl (c64 a.Nodes b.Nodes _ hx10)<|b6 rfl<|C rfl ?_
 refine gO 8 [13,14,15,16,17,18,19] 20 (!x10) (!decide ((a.Edges.length:Int)=(b.Edges.length:Int))) (fun hg20=>?_) (fun hg20=>?_) ?_
 ·refine H rfl hg20<|H rfl hg20<|H rfl hg20<|H rfl hg20<|H rfl hg20<|H rfl hg20<|H rfl hg20<|X rfl hg20 rfl ?_
  exact ⟨⟨_,_,_,_,_,_,_,rfl⟩⟩
 ·refine G rfl hg20<|K rfl<|G rfl hg20<|J rfl<|G rfl hg20<|U rfl rfl<|G rfl hg20<|K rfl<|G rfl hg20<|J rfl<|G rfl hg20<|U rfl rfl<|G rfl hg20<|b1 rfl rfl<|Y rfl hg20 rfl ?_
  exact ⟨⟨_,_,_,_,_,_,_,rfl⟩⟩
 rintro _ ⟨_,_,_,_,_,_,_,rfl⟩
 refine E (kt<|kt<|kt<|kn) fun _=>?_
 refine T rfl (fun hc20=>?_) (fun hc20=>?_)
 ·replace h:=M hc20 h
  refine D<|F<|C rfl<|E (kt<|kn) fun _=>?_
  exact L (by cases h;rfl)
 ·replace h:=O hc20 h
  refine P (kt<|kt<|kn) fun _=>?_
  refine D<|D<|F<|C rfl<|E (kt<|kt<|kt<|kn) fun _=>?_
  obtain ⟨o0,ho0,h⟩:=d4 h
  refine e1 ho0 (fun (i0:Int) (_:Unit)=>[(2,.tv (.pt (eGraph a).cells)),(3,.tv (.pt (eGraph b).cells)),(5,.tv (eI i0))]) (fun (_:Unit)=>[]) (fun zv ze=>resIs ([.tmp 4]) (.sh (eB zv)) ze) rfl ?_ ?_ ?_ ?_
  ·clear h ho0
   intro i0 s0 r0 hi0 h hw0
   refine D<|D<|F<|C rfl<|K rfl<|J rfl<|U rfl rfl<|V rfl rfl<|E (kt<|kt<|kt<|kt<|kn) fun _=>?_
   refine b7 rfl (b8 hi0)<|P (kt<|kt<|kt<|kn) fun _=>?_
   refine D<|b0<|D<|d1 rfl<|K rfl<|J rfl<|C rfl ?_
   obtain ⟨x31,hx31,h⟩:=I h
   refine Z rfl rfl rfl hx31 rfl<|R rfl rfl (show _=eEdge x31 from rfl)<|K rfl<|J rfl<|C rfl ?_
   obtain ⟨x36,hx36,h⟩:=I h
   refine Z rfl rfl rfl hx36 rfl<|R rfl rfl (show _=eEdge x36 from rfl)<|p2 rfl rfl rfl (eqi_Edge _ _)<|E (kt<|kt<|kt<|kt<|kn) fun _=>?_
   refine T rfl (fun hc38=>?_) (fun hc38=>?_)
   ·replace h:=M hc38 h
    refine D<|F<|C rfl<|E (kt<|kn) fun _=>?_
    refine L ?_
    cases h
    exact ⟨_,rfl,rfl⟩
   ·replace h:=O hc38 h
    refine P (kt<|kt<|kt<|kn) fun _=>?_
    refine F<|C rfl<|a6 rfl rfl<|C rfl<|E (kt<|kt<|kt<|kn) ?_
    cases h
    refine ⟨_,rfl,?_⟩
    rw [Ktv rfl (Ktv rfl (Ktv rfl (Knil _)))]
    rw [b4 (a5 (hw0 5)) hi0 (f8 (g7 (g8 (hw0 2)) (i:=1) rfl) rfl)]
    all_goals rfl
  ·intro i0 s0 hi0
   refine D<|D<|F<|C rfl<|K rfl<|J rfl<|U rfl rfl<|V rfl rfl<|E (kt<|kt<|kt<|kt<|kn) fun _=>?_
   refine b9 rfl (d0 hi0)<|b3 (kn) ?_
   exact ⟨rfl,rfl⟩
  ·intro s0 hs
   replace h:=d5 h hs
   intro _
   refine D<|F<|C rfl<|E (kt<|kn) fun _=>?_
   exact L (by cases h;rfl)
  ·intro v0 ze hv hR
   replace h:=d6 h hv
   cases h
   exact hR
theorem ck109:CK f109 (Rq [Af 2 0,Af 3 1,Ak 4] [2,3]<|Sq (Rq [Ac 7 2 0,Ae 8 7 2,Ac 9 3 0,Ae 10 9 2,Al 11 41 8 10,Ay 12 11,Aa 13 12,Ar 14 2 3 13,As 15 14 13,Ar 16 3 3 13,As 17 16 13,Cc 18 15 17 13,Au 19 13 18,Aa 20 19,Ar 21 2 2 20,As 22 21 20,Bd 23 22 20,Ar 24 3 2 20,As 25 24 20,Bd 26 25 20,Cc 27 23 26 20,Au 28 20 27,Aa 29 28,Ar 30 2 4 29,As 31 30 29,Bd 32 31 29,Ar 33 3 4 29,As 34 33 29,Bd 35 34 29,Cc 36 32 35 29,Au 37 29 36] [2,3,37]<|Co 37 (Rq [Ak 4] [4]<|.ret)<|Sk [2,3])<|Sq (Rq [Ad 5 0] [2,3,5]<|Bl 0<|Lo [2,3,5]<|Sq (Rq [Aa 38 5,Ac 39 2 2,Ab 40 39,Ah 41 40,Aq 42 38 41] [2,3,5,42]<|Co 42 (Sk [2,3,5])<|Ex 0 [2,3])<|Sq (Bl 1<|Sq (Dr [45,46,47,48,49,50,51,52,53,54,55] [Ac 45 2 2,Ab 46 45,Aa 47 5,Ag 48 46 47 4,Ae 49 48 4,Ac 50 3 2,Ab 51 50,Aa 52 5,Ag 53 51 52 4,Ae 54 53 4,⟨some 55,.bin (.a [0,0,0,0]) .neq (.s 49) (.s 54),none⟩] [2,3,5,55])<|Co 55 (Rq [Ak 4] [4]<|.ret)<|Sk [2,3,5])<|Re [Aa 43 5,Ap 44 43 1,Aa 5 44] [2,3,5])<|Sq (Rq [Ad 6 0] [2,3,6]<|Bl 2<|Lo [2,3,6]<|Sq (Rq [Aa 56 6,Ac 57 2 4,Ab 58 57,Ah 59 58,Aq 60 56 59] [2,3,6,60]<|Co 60 (Sk [2,3,6])<|Ex 2 [])<|Sq (Bl 3<|Sq (Dr [63,64,65,66,67,68,69,70,71,72,73] [Ac 63 2 4,Ab 64 63,Aa 65 6,Ag 66 64 65 5,Ae 67 66 5,Ac 68 3 4,Ab 69 68,Aa 70 6,Ag 71 69 70 5,Ae 72 71 5,⟨some 73,.bin (.a [0,0,0,0,0]) .neq (.s 67) (.s 72),none⟩] [2,3,6,73])<|Co 73 (Rq [Ak 4] [4]<|.ret)<|Sk [2,3,6])<|Re [Aa 61 6,Ap 62 61 1,Aa 6 62] [2,3,6])<|Rq [Db 4] [4]<|.ret) [.tmp 4]:= by decide +kernel
theorem c109 (a:Pattern) (b:Pattern) (r:Bool) (h:ref21_Same a b=some r):Sound prog 109 [ePattern a,ePattern b] (.sh (eB r)):= by
 refine Fn ck109 fun hw=>?_
 unfold ref21_Same at h
 refine D<|F<|a3 rfl rfl<|a3 rfl rfl<|C rfl<|E (kt<|kt<|kn) fun _=>?_
 refine D<|D<|F<|K rfl<|R rfl rfl (show _=eGraph a.Graph from rfl)<|K rfl<|R rfl rfl (show _=eGraph b.Graph from rfl) ?_
 obtain ⟨x11,hx11,h⟩:=I h
 refine S rfl (c41 a.Graph b.Graph _ hx11)<|b6 rfl<|C rfl ?_
 refine gO 6 [14,15,16,17,18] 19 (!x11) (!decide (a.Vars=b.Vars)) (fun hg19=>?_) (fun hg19=>?_) ?_
 ·refine H rfl hg19<|H rfl hg19<|H rfl hg19<|H rfl hg19<|H rfl hg19<|X rfl hg19 rfl ?_
  exact ⟨⟨_,_,_,_,_,rfl⟩⟩
 ·refine G rfl hg19<|K rfl<|G rfl hg19<|J rfl<|G rfl hg19<|K rfl<|G rfl hg19<|J rfl<|G rfl hg19<|b1 rfl rfl<|Y rfl hg19 rfl ?_
  exact ⟨⟨_,_,_,_,_,rfl⟩⟩
 rintro _ ⟨_,_,_,_,_,rfl⟩
 refine C rfl ?_
 refine gO 8 [21,22,23,24,25,26,27] 28 ((!x11)||(!decide (a.Vars=b.Vars))) (!decide ((a.Slots.length:Int)=(b.Slots.length:Int))) (fun hg28=>?_) (fun hg28=>?_) ?_
 ·refine H rfl hg28<|H rfl hg28<|H rfl hg28<|H rfl hg28<|H rfl hg28<|H rfl hg28<|H rfl hg28<|X rfl hg28 rfl ?_
  exact ⟨⟨_,_,_,_,_,_,_,rfl⟩⟩
 ·refine G rfl hg28<|K rfl<|G rfl hg28<|J rfl<|G rfl hg28<|U rfl rfl<|G rfl hg28<|K rfl<|G rfl hg28<|J rfl<|G rfl hg28<|U rfl rfl<|G rfl hg28<|b1 rfl rfl<|Y rfl hg28 rfl ?_
  exact ⟨⟨_,_,_,_,_,_,_,rfl⟩⟩
 rintro _ ⟨_,_,_,_,_,_,_,rfl⟩
 refine C rfl ?_
 refine gO 8 [30,31,32,33,34,35,36] 37 (((!x11)||(!decide (a.Vars=b.Vars)))||(!decide ((a.Slots.length:Int)=(b.Slots.length:Int)))) (!decide ((a.Tests.length:Int)=(b.Tests.length:Int))) (fun hg37=>?_) (fun hg37=>?_) ?_
 ·refine H rfl hg37<|H rfl hg37<|H rfl hg37<|H rfl hg37<|H rfl hg37<|H rfl hg37<|H rfl hg37<|X rfl hg37 rfl ?_
  exact ⟨⟨_,_,_,_,_,_,_,rfl⟩⟩
 ·refine G rfl hg37<|K rfl<|G rfl hg37<|J rfl<|G rfl hg37<|U rfl rfl<|G rfl hg37<|K rfl<|G rfl hg37<|J rfl<|G rfl hg37<|U rfl rfl<|G rfl hg37<|b1 rfl rfl<|Y rfl hg37 rfl ?_
  exact ⟨⟨_,_,_,_,_,_,_,rfl⟩⟩
 rintro _ ⟨_,_,_,_,_,_,_,rfl⟩
 refine E (kt<|kt<|kt<|kn) fun _=>?_
 refine T rfl (fun hc37=>?_) (fun hc37=>?_)
 ·replace h:=M hc37 h
  refine D<|F<|C rfl<|E (kt<|kn) fun _=>?_
  exact L (by cases h;rfl)
 ·replace h:=O hc37 h
  refine P (kt<|kt<|kn) fun _=>?_
  refine D<|D<|F<|C rfl<|E (kt<|kt<|kt<|kn) fun _=>?_
  obtain ⟨o0,ho0,h⟩:=d4 h
  refine e1 ho0 (fun (i0:Int) (_:Unit)=>[(2,.tv (.pt (ePattern a).cells)),(3,.tv (.pt (ePattern b).cells)),(5,.tv (eI i0))]) (fun (_:Unit)=>[(2,.tv (.pt (ePattern a).cells)),(3,.tv (.pt (ePattern b).cells))]) (fun zv ze=>resIs ([.tmp 4]) (.sh (eB zv)) ze) rfl ?_ ?_ ?_ ?_
  ·clear h ho0
   intro i0 s0 r0 hi0 h hw0
   refine D<|D<|F<|C rfl<|K rfl<|J rfl<|U rfl rfl<|V rfl rfl<|E (kt<|kt<|kt<|kt<|kn) fun _=>?_
   refine b7 rfl (b8 hi0)<|P (kt<|kt<|kt<|kn) fun _=>?_
   refine D<|b0<|D<|d1 rfl<|K rfl<|J rfl<|C rfl ?_
   obtain ⟨x48,hx48,h⟩:=I h
   refine Z rfl rfl rfl hx48 rfl<|R rfl rfl (show _=eSlot x48 from rfl)<|K rfl<|J rfl<|C rfl ?_
   obtain ⟨x53,hx53,h⟩:=I h
   refine Z rfl rfl rfl hx53 rfl<|R rfl rfl (show _=eSlot x53 from rfl)<|p2 rfl rfl rfl (eqi_Slot _ _)<|E (kt<|kt<|kt<|kt<|kn) fun _=>?_
   refine T rfl (fun hc55=>?_) (fun hc55=>?_)
   ·replace h:=M hc55 h
    refine D<|F<|C rfl<|E (kt<|kn) fun _=>?_
    refine L ?_
    cases h
    exact ⟨_,rfl,rfl⟩
   ·replace h:=O hc55 h
    refine P (kt<|kt<|kt<|kn) fun _=>?_
    refine F<|C rfl<|a6 rfl rfl<|C rfl<|E (kt<|kt<|kt<|kn) ?_
    cases h
    refine ⟨_,rfl,?_⟩
    rw [Ktv rfl (Ktv rfl (Ktv rfl (Knil _)))]
    rw [b4 (a5 (hw0 5)) hi0 (f8 (g7 (g8 (hw0 2)) (i:=2) rfl) rfl)]
    all_goals rfl
  ·intro i0 s0 hi0
   refine D<|D<|F<|C rfl<|K rfl<|J rfl<|U rfl rfl<|V rfl rfl<|E (kt<|kt<|kt<|kt<|kn) fun _=>?_
   refine b9 rfl (d0 hi0)<|b3 (kt<|kt<|kn) ?_
   exact ⟨rfl,rfl⟩
  ·intro s0 hs
   replace h:=d5 h hs
   intro _
   refine D<|D<|F<|C rfl<|E (kt<|kt<|kt<|kn) fun _=>?_
   obtain ⟨o2,ho2,h⟩:=d4 h
   refine e1 ho2 (fun (i2:Int) (_:Unit)=>[(2,.tv (.pt (ePattern a).cells)),(3,.tv (.pt (ePattern b).cells)),(6,.tv (eI i2))]) (fun (_:Unit)=>[]) (fun zv ze=>resIs ([.tmp 4]) (.sh (eB zv)) ze) rfl ?_ ?_ ?_ ?_
   ·clear h ho2
    intro i2 s2 r2 hi2 h hw2
    refine D<|D<|F<|C rfl<|K rfl<|J rfl<|U rfl rfl<|V rfl rfl<|E (kt<|kt<|kt<|kt<|kn) fun _=>?_
    refine b7 rfl (b8 hi2)<|P (kt<|kt<|kt<|kn) fun _=>?_
    refine D<|b0<|D<|d1 rfl<|K rfl<|J rfl<|C rfl ?_
    obtain ⟨x66,hx66,h⟩:=I h
    refine Z rfl rfl rfl hx66 rfl<|R rfl rfl (show _=eTest x66 from rfl)<|K rfl<|J rfl<|C rfl ?_
    obtain ⟨x71,hx71,h⟩:=I h
    refine Z rfl rfl rfl hx71 rfl<|R rfl rfl (show _=eTest x71 from rfl)<|p2 rfl rfl rfl (eqi_Test _ _)<|E (kt<|kt<|kt<|kt<|kn) fun _=>?_
    refine T rfl (fun hc73=>?_) (fun hc73=>?_)
    ·replace h:=M hc73 h
     refine D<|F<|C rfl<|E (kt<|kn) fun _=>?_
     refine L ?_
     cases h
     exact ⟨_,rfl,rfl⟩
    ·replace h:=O hc73 h
     refine P (kt<|kt<|kt<|kn) fun _=>?_
     refine F<|C rfl<|a6 rfl rfl<|C rfl<|E (kt<|kt<|kt<|kn) ?_
     cases h
     refine ⟨_,rfl,?_⟩
     rw [Ktv rfl (Ktv rfl (Ktv rfl (Knil _)))]
     rw [b4 (a5 (hw2 6)) hi2 (f8 (g7 (g8 (hw2 2)) (i:=4) rfl) rfl)]
     all_goals rfl
   ·intro i2 s2 hi2
    refine D<|D<|F<|C rfl<|K rfl<|J rfl<|U rfl rfl<|V rfl rfl<|E (kt<|kt<|kt<|kt<|kn) fun _=>?_
    refine b9 rfl (d0 hi2)<|b3 (kn) ?_
    exact ⟨rfl,rfl⟩
   ·intro s2 hs
    replace h:=d5 h hs
    intro _
    refine D<|F<|C rfl<|E (kt<|kn) fun _=>?_
    exact L (by cases h;rfl)
   ·intro v2 ze hv hR
    replace h:=d6 h hv
    cases h
    exact hR
  ·intro v0 ze hv hR
   replace h:=d6 h hv
   cases h
   exact hR
theorem ck167:CK f167 (Rq [Ak 4] [0,1]<|Sq (Rq [Aa 6 0,Ah 7 6,Aa 8 1,Ah 9 8,Bs 10 7 9] [0,1,10]<|Co 10 (Rq [Ak 4] [4]<|.ret)<|Sk [0,1])<|Sq (Rq [Ad 5 0] [0,1,5]<|Bl 0<|Lo [0,1,5]<|Sq (Rq [Aa 11 5,Aa 12 0,Ah 13 12,Aq 14 11 13] [0,1,5,14]<|Co 14 (Sk [0,1,5])<|Ex 0 [])<|Sq (Bl 1<|Sq (Dr [17,18,19,20,21,22,23,24,25] [Aa 17 0,Aa 18 5,Ag 19 17 18 1,Ab 20 19,Aa 21 1,Aa 22 5,Ag 23 21 22 1,Ab 24 23,Bs 25 20 24] [0,1,5,25])<|Co 25 (Rq [Ak 4] [4]<|.ret)<|Sk [0,1,5])<|Re [Aa 15 5,Ap 16 15 1,Aa 5 16] [0,1,5])<|Rq [Db 4] [4]<|.ret) [.tmp 4]:= by decide +kernel
theorem c167 (a:List Int) (b:List Int) (r:Bool) (h:ref02_SameInts a b=some r):Sound prog 167 [lI a,lI b] (.sh (eB r)):= by
 refine Fn ck167 fun hw=>?_
 unfold ref02_SameInts at h
 refine D<|F<|C rfl<|E (kt<|kt<|kn) fun _=>?_
 refine D<|D<|F<|C rfl<|U rfl rfl<|C rfl<|U rfl rfl<|b1 rfl rfl<|E (kt<|kt<|kt<|kn) fun _=>?_
 refine T rfl (fun hc10=>?_) (fun hc10=>?_)
 ·replace h:=M hc10 h
  refine D<|F<|C rfl<|E (kt<|kn) fun _=>?_
  exact L (by cases h;rfl)
 ·replace h:=O hc10 h
  refine P (kt<|kt<|kn) fun _=>?_
  refine D<|D<|F<|C rfl<|E (kt<|kt<|kt<|kn) fun _=>?_
  obtain ⟨o0,ho0,h⟩:=d4 h
  refine e1 ho0 (fun (i0:Int) (_:Unit)=>[(0,.tv (lI a)),(1,.tv (lI b)),(5,.tv (eI i0))]) (fun (_:Unit)=>[]) (fun zv ze=>resIs ([.tmp 4]) (.sh (eB zv)) ze) rfl ?_ ?_ ?_ ?_
  ·clear h ho0
   intro i0 s0 r0 hi0 h hw0
   refine D<|D<|F<|C rfl<|C rfl<|U rfl rfl<|V rfl rfl<|E (kt<|kt<|kt<|kt<|kn) fun _=>?_
   refine b7 rfl (b8 hi0)<|P (kt<|kt<|kt<|kn) fun _=>?_
   refine D<|b0<|D<|d1 rfl<|C rfl<|C rfl ?_
   obtain ⟨x19,hx19,h⟩:=I h
   refine Z rfl rfl rfl hx19 rfl<|J rfl<|C rfl<|C rfl ?_
   obtain ⟨x23,hx23,h⟩:=I h
   refine Z rfl rfl rfl hx23 rfl<|J rfl<|b1 rfl rfl<|E (kt<|kt<|kt<|kt<|kn) fun _=>?_
   refine T rfl (fun hc25=>?_) (fun hc25=>?_)
   ·replace h:=M hc25 h
    refine D<|F<|C rfl<|E (kt<|kn) fun _=>?_
    refine L ?_
    cases h
    exact ⟨_,rfl,rfl⟩
   ·replace h:=O hc25 h
    refine P (kt<|kt<|kt<|kn) fun _=>?_
    refine F<|C rfl<|a6 rfl rfl<|C rfl<|E (kt<|kt<|kt<|kn) ?_
    cases h
    refine ⟨_,rfl,?_⟩
    rw [Ktv rfl (Ktv rfl (Ktv rfl (Knil _)))]
    rw [b4 (a5 (hw0 5)) hi0 (f8 (a5 (hw0 0)) rfl)]
    all_goals rfl
  ·intro i0 s0 hi0
   refine D<|D<|F<|C rfl<|C rfl<|U rfl rfl<|V rfl rfl<|E (kt<|kt<|kt<|kt<|kn) fun _=>?_
   refine b9 rfl (d0 hi0)<|b3 (kn) ?_
   exact ⟨rfl,rfl⟩
  ·intro s0 hs
   replace h:=d5 h hs
   intro _
   refine D<|F<|C rfl<|E (kt<|kn) fun _=>?_
   exact L (by cases h;rfl)
  ·intro v0 ze hv hR
   replace h:=d6 h hv
   cases h
   exact hR
theorem ck110:CK f110 (Rq [Af 2 0,Af 3 1,Ak 4] [2,3]<|Rq [Ac 5 2 0,Ab 6 5,Ac 7 3 0,Ab 8 7,Al 9 167 6 8,Aa 10 9,Aw 11 2 1 10,Av 12 11 10,Aw 13 3 1 10,Av 14 13 10,Bn 15 167 12 14 10,An 16 10 15,Aa 4 16] [4]<|.ret) [.tmp 4]:= by decide +kernel
theorem c110 (a:Morphism) (b:Morphism) (r:Bool) (h:ref06_Same a b=some r):Sound prog 110 [eMorphism a,eMorphism b] (.sh (eB r)):= by
 refine Fn ck110 fun hw=>?_
 unfold ref06_Same at h
 refine D<|F<|a3 rfl rfl<|a3 rfl rfl<|C rfl<|E (kt<|kt<|kn) fun _=>?_
 refine D<|F<|K rfl<|J rfl<|K rfl<|J rfl ?_
 obtain ⟨x9,hx9,h⟩:=I h
 refine S rfl (c167 a.Nodes b.Nodes _ hx9)<|C rfl ?_
 obtain ⟨x16,hx16,h⟩:=I h
 refine gX 6 [11,12,13,14,15] 16 x16 x9 (fun hg16=>?_) (fun hg16=>?_) ?_
 ·replace h:=M hg16 hx16
  refine G rfl hg16<|K rfl<|G rfl hg16<|J rfl<|G rfl hg16<|K rfl<|G rfl hg16<|J rfl ?_
  obtain ⟨x15,hx15,h⟩:=I h
  refine G rfl hg16<|S rfl (c167 a.Edges b.Edges _ hx15) ?_
  cases h
  refine X rfl hg16 rfl ?_
  exact ⟨⟨_,_,_,_,_,rfl⟩⟩
 ·replace h:=O hg16 hx16
  cases h
  refine H rfl hg16<|H rfl hg16<|H rfl hg16<|H rfl hg16<|H rfl hg16<|Y rfl hg16 rfl ?_
  exact ⟨⟨_,_,_,_,_,rfl⟩⟩
 rintro _ ⟨_,_,_,_,_,rfl⟩
 refine C rfl<|E (kt<|kn) fun _=>?_
 exact L (by cases h;rfl)
theorem ck111:CK f111 (Rq [Af 2 0,Af 3 1,Ak 4] [2,3]<|Sq (Rq [Ac 6 2 0,Ab 7 6,Ac 8 3 0,Ab 9 8,Bs 10 7 9,Aa 11 10,Ar 12 2 1 11,As 13 12 11,Bd 14 13 11,Ar 15 3 1 11,As 16 15 11,Bd 17 16 11,Cc 18 14 17 11,Au 19 11 18,Aa 20 19,Ar 21 2 2 20,Df 22 21 2 20,Ar 23 3 2 20,Df 24 23 2 20,Ct 25 110 22 24 20,Bq 26 25 20,Au 27 20 26,Aa 28 27,Ar 29 2 4 28,Df 30 29 5 28,Ar 31 3 4 28,Df 32 31 5 28,Ct 33 109 30 32 28,Bq 34 33 28,Au 35 28 34] [2,3,35]<|Co 35 (Rq [Ak 4] [4]<|.ret)<|Sk [2,3])<|Sq (Rq [Ad 5 0] [2,3,5]<|Bl 0<|Lo [2,3,5]<|Sq (Rq [Aa 36 5,Ac 37 2 1,Ab 38 37,Ah 39 38,Aq 40 36 39] [2,3,5,40]<|Co 40 (Sk [2,3,5])<|Ex 0 [])<|Sq (Bl 1<|Sq (Dr [43,44,45,46,47,48,49,50,51,52,53,54] [Ac 43 2 1,Ab 44 43,Aa 45 5,Ag 46 44 45 9,Ae 47 46 9,Ac 48 3 1,Ab 49 48,Aa 50 5,Ag 51 49 50 9,Ae 52 51 9,Al 53 111 47 52,Ay 54 53] [2,3,5,54])<|Co 54 (Rq [Ak 4] [4]<|.ret)<|Sk [2,3,5])<|Re [Aa 41 5,Ap 42 41 1,Aa 5 42] [2,3,5])<|Rq [Db 4] [4]<|.ret) [.tmp 4]:= by decide +kernel
theorem c111S (n:Nat) (ih_111:∀ (a:Condition) (b:Condition) (r:Bool) (_:ref22_SameF n a b=some r),Sound prog 111 [eCondition a,eCondition b] (.sh (eB r))):∀ (a:Condition) (b:Condition) (r:Bool) (_:ref22_SameF (n+1) a b=some r),Sound prog 111 [eCondition a,eCondition b] (.sh (eB r)):= by
 intro a b r h
 refine Fn ck111 fun hw=>?_
 unfold ref22_SameF at h
 refine D<|F<|a3 rfl rfl<|a3 rfl rfl<|C rfl<|E (kt<|kt<|kn) fun _=>?_
 refine D<|D<|F<|K rfl<|J rfl<|K rfl<|J rfl<|b1 rfl rfl<|C rfl ?_
 refine gO 8 [12,13,14,15,16,17,18] 19 (!decide (a.Kind=b.Kind)) (!decide ((a.Kids.length:Int)=(b.Kids.length:Int))) (fun hg19=>?_) (fun hg19=>?_) ?_
 ·refine H rfl hg19<|H rfl hg19<|H rfl hg19<|H rfl hg19<|H rfl hg19<|H rfl hg19<|H rfl hg19<|X rfl hg19 rfl ?_
  exact ⟨⟨_,_,_,_,_,_,_,rfl⟩⟩
 ·refine G rfl hg19<|K rfl<|G rfl hg19<|J rfl<|G rfl hg19<|U rfl (eLCondition_eq _)<|G rfl hg19<|K rfl<|G rfl hg19<|J rfl<|G rfl hg19<|U rfl (eLCondition_eq _)<|G rfl hg19<|b1 rfl rfl<|Y rfl hg19 rfl ?_
  exact ⟨⟨_,_,_,_,_,_,_,rfl⟩⟩
 rintro _ ⟨_,_,_,_,_,_,_,rfl⟩
 refine C rfl ?_
 obtain ⟨x27,hx27,h⟩:=I h
 refine gX 7 [21,22,23,24,25,26] 27 x27 ((!decide (a.Kind=b.Kind))||(!decide ((a.Kids.length:Int)=(b.Kids.length:Int)))) (fun hg27=>?_) (fun hg27=>?_) ?_
 ·replace h:=M hg27 hx27
  cases h
  refine H rfl hg27<|H rfl hg27<|H rfl hg27<|H rfl hg27<|H rfl hg27<|H rfl hg27<|X rfl hg27 rfl ?_
  exact ⟨⟨_,_,_,_,_,_,rfl⟩⟩
 ·replace h:=O hg27 hx27
  refine G rfl hg27<|K rfl<|G rfl hg27<|R rfl rfl (show _=eMorphism a.Map from rfl)<|G rfl hg27<|K rfl<|G rfl hg27<|R rfl rfl (show _=eMorphism b.Map from rfl) ?_
  obtain ⟨x25,hx25,h⟩:=I h
  refine G rfl hg27<|S rfl (c110 a.Map b.Map _ hx25)<|G rfl hg27<|b6 rfl ?_
  cases h
  refine Y rfl hg27 rfl ?_
  exact ⟨⟨_,_,_,_,_,_,rfl⟩⟩
 rintro _ ⟨_,_,_,_,_,_,rfl⟩
 refine C rfl ?_
 obtain ⟨x35,hx35,h⟩:=I h
 refine gX 7 [29,30,31,32,33,34] 35 x35 x27 (fun hg35=>?_) (fun hg35=>?_) ?_
 ·replace h:=M hg35 hx35
  cases h
  refine H rfl hg35<|H rfl hg35<|H rfl hg35<|H rfl hg35<|H rfl hg35<|H rfl hg35<|X rfl hg35 rfl ?_
  exact ⟨⟨_,_,_,_,_,_,rfl⟩⟩
 ·replace h:=O hg35 hx35
  refine G rfl hg35<|K rfl<|G rfl hg35<|R rfl rfl (show _=ePattern a.Pattern from rfl)<|G rfl hg35<|K rfl<|G rfl hg35<|R rfl rfl (show _=ePattern b.Pattern from rfl) ?_
  obtain ⟨x33,hx33,h⟩:=I h
  refine G rfl hg35<|S rfl (c109 a.Pattern b.Pattern _ hx33)<|G rfl hg35<|b6 rfl ?_
  cases h
  refine Y rfl hg35 rfl ?_
  exact ⟨⟨_,_,_,_,_,_,rfl⟩⟩
 rintro _ ⟨_,_,_,_,_,_,rfl⟩
 refine E (kt<|kt<|kt<|kn) fun _=>?_
 refine T rfl (fun hc35=>?_) (fun hc35=>?_)
 ·replace h:=M hc35 h
  refine D<|F<|C rfl<|E (kt<|kn) fun _=>?_
  exact L (by cases h;rfl)
 ·replace h:=O hc35 h
  refine P (kt<|kt<|kn) fun _=>?_
  refine D<|D<|F<|C rfl<|E (kt<|kt<|kt<|kn) fun _=>?_
  obtain ⟨o0,ho0,h⟩:=d4 h
  refine e1 ho0 (fun (i0:Int) (_:Unit)=>[(2,.tv (.pt (eCondition a).cells)),(3,.tv (.pt (eCondition b).cells)),(5,.tv (eI i0))]) (fun (_:Unit)=>[]) (fun zv ze=>resIs ([.tmp 4]) (.sh (eB zv)) ze) rfl ?_ ?_ ?_ ?_
  ·clear h ho0
   intro i0 s0 r0 hi0 h hw0
   refine D<|D<|F<|C rfl<|K rfl<|J rfl<|U rfl (eLCondition_eq _)<|V rfl rfl<|E (kt<|kt<|kt<|kt<|kn) fun _=>?_
   refine b7 rfl (b8 hi0)<|P (kt<|kt<|kt<|kn) fun _=>?_
   refine D<|b0<|D<|d1 rfl<|K rfl<|J rfl<|C rfl ?_
   obtain ⟨x46,hx46,h⟩:=I h
   refine Z rfl rfl (eLCondition_eq _) hx46 rfl<|R rfl rfl (show _=eCondition x46 from rfl)<|K rfl<|J rfl<|C rfl ?_
   obtain ⟨x51,hx51,h⟩:=I h
   refine Z rfl rfl (eLCondition_eq _) hx51 rfl<|R rfl rfl (show _=eCondition x51 from rfl) ?_
   obtain ⟨x53,hx53,h⟩:=I h
   refine S rfl (ih_111 x46 x51 _ hx53)<|b6 rfl<|E (kt<|kt<|kt<|kt<|kn) fun _=>?_
   refine T rfl (fun hc54=>?_) (fun hc54=>?_)
   ·replace h:=M hc54 h
    refine D<|F<|C rfl<|E (kt<|kn) fun _=>?_
    refine L ?_
    cases h
    exact ⟨_,rfl,rfl⟩
   ·replace h:=O hc54 h
    refine P (kt<|kt<|kt<|kn) fun _=>?_
    refine F<|C rfl<|a6 rfl rfl<|C rfl<|E (kt<|kt<|kt<|kn) ?_
    cases h
    refine ⟨_,rfl,?_⟩
    rw [Ktv rfl (Ktv rfl (Ktv rfl (Knil _)))]
    rw [b4 (a5 (hw0 5)) hi0 (f8 (g7 (g8 (hw0 2)) (i:=1) rfl) (eLCondition_eq _))]
    all_goals rfl
  ·intro i0 s0 hi0
   refine D<|D<|F<|C rfl<|K rfl<|J rfl<|U rfl (eLCondition_eq _)<|V rfl rfl<|E (kt<|kt<|kt<|kt<|kn) fun _=>?_
   refine b9 rfl (d0 hi0)<|b3 (kn) ?_
   exact ⟨rfl,rfl⟩
  ·intro s0 hs
   replace h:=d5 h hs
   intro _
   refine D<|F<|C rfl<|E (kt<|kn) fun _=>?_
   exact L (by cases h;rfl)
  ·intro v0 ze hv hR
   replace h:=d6 h hv
   cases h
   exact hR
theorem c111A:∀ n:Nat,(∀ (a:Condition) (b:Condition) (r:Bool) (_:ref22_SameF n a b=some r),Sound prog 111 [eCondition a,eCondition b] (.sh (eB r))):=by
  intro n
  induction n with
  | zero=>intro a b r h; cases h
  | succ n ih=>exact c111S n ih
theorem c111 (a:Condition) (b:Condition) (r:Bool) (h:ref22_Same a b=some r):Sound prog 111 [eCondition a,eCondition b] (.sh (eB r)):=by
  obtain ⟨N,hN⟩:=lim_some h
  exact (c111A N) a b r (hN N (Nat.le_refl _))
theorem ck61:CK f61 (Rq [Af 2 0,Af 3 1,Ak 4] [2,3]<|Rq [Ac 5 2 0,Ab 6 5,Ac 7 3 0,Ab 8 7,Cf 9 6 8,Aa 10 9,Aw 11 2 15 10,Av 12 11 10,Aw 13 3 15 10,Av 14 13 10,⟨some 15,.bin (.b) .eql (.s 12) (.s 14),some (10,true)⟩,An 16 10 15,Aa 17 16,Aw 18 2 1 17,Bk 19 18 5 17,Aw 20 3 1 17,Bk 21 20 5 17,Bn 22 109 19 21 17,An 23 17 22,Aa 24 23,Aw 25 2 6 24,Bk 26 25 5 24,Aw 27 3 6 24,Bk 28 27 5 24,Bn 29 109 26 28 24,An 30 24 29,Aa 31 30,Aw 32 2 11 31,Bk 33 32 2 31,Aw 34 3 11 31,Bk 35 34 2 31,Bn 36 22 33 35 31,An 37 31 36,Aa 38 37,Aw 39 2 13 38,Bk 40 39 2 38,Aw 41 3 13 38,Bk 42 41 2 38,Bn 43 110 40 42 38,An 44 38 43,Aa 45 44,Aw 46 2 16 45,Bk 47 46 9 45,Aw 48 3 16 45,Bk 49 48 9 45,Bn 50 111 47 49 45,An 51 45 50,Aa 4 51] [4]<|.ret) [.tmp 4]:= by decide +kernel
theorem c61 (a:Rule) (b:Rule) (r:Bool) (h:ref24_Same a b=some r):Sound prog 61 [eRule a,eRule b] (.sh (eB r)):= by
 refine Fn ck61 fun hw=>?_
 unfold ref24_Same at h
 refine D<|F<|a3 rfl rfl<|a3 rfl rfl<|C rfl<|E (kt<|kt<|kn) fun _=>?_
 refine D<|F<|K rfl<|J rfl<|K rfl<|J rfl<|g5 rfl rfl<|C rfl ?_
 refine gA 6 [11,12,13,14,15] 16 (a.Name==b.Name) (a.Injective==b.Injective) (fun hg16=>?_) (fun hg16=>?_) ?_
 ·refine G rfl hg16<|K rfl<|G rfl hg16<|J rfl<|G rfl hg16<|K rfl<|G rfl hg16<|J rfl<|G rfl hg16<|m6 rfl rfl<|X rfl hg16 rfl ?_
  exact ⟨⟨_,_,_,_,_,rfl⟩⟩
 ·refine H rfl hg16<|H rfl hg16<|H rfl hg16<|H rfl hg16<|H rfl hg16<|Y rfl hg16 rfl ?_
  exact ⟨⟨_,_,_,_,_,rfl⟩⟩
 rintro _ ⟨_,_,_,_,_,rfl⟩
 refine C rfl ?_
 obtain ⟨x23,hx23,h⟩:=I h
 refine gX 6 [18,19,20,21,22] 23 x23 ((a.Name==b.Name)&&(a.Injective==b.Injective)) (fun hg23=>?_) (fun hg23=>?_) ?_
 ·replace h:=M hg23 hx23
  refine G rfl hg23<|K rfl<|G rfl hg23<|R rfl rfl (show _=ePattern a.Left from rfl)<|G rfl hg23<|K rfl<|G rfl hg23<|R rfl rfl (show _=ePattern b.Left from rfl) ?_
  obtain ⟨x22,hx22,h⟩:=I h
  refine G rfl hg23<|S rfl (c109 a.Left b.Left _ hx22) ?_
  cases h
  refine X rfl hg23 rfl ?_
  exact ⟨⟨_,_,_,_,_,rfl⟩⟩
 ·replace h:=O hg23 hx23
  cases h
  refine H rfl hg23<|H rfl hg23<|H rfl hg23<|H rfl hg23<|H rfl hg23<|Y rfl hg23 rfl ?_
  exact ⟨⟨_,_,_,_,_,rfl⟩⟩
 rintro _ ⟨_,_,_,_,_,rfl⟩
 refine C rfl ?_
 obtain ⟨x30,hx30,h⟩:=I h
 refine gX 6 [25,26,27,28,29] 30 x30 x23 (fun hg30=>?_) (fun hg30=>?_) ?_
 ·replace h:=M hg30 hx30
  refine G rfl hg30<|K rfl<|G rfl hg30<|R rfl rfl (show _=ePattern a.Right from rfl)<|G rfl hg30<|K rfl<|G rfl hg30<|R rfl rfl (show _=ePattern b.Right from rfl) ?_
  obtain ⟨x29,hx29,h⟩:=I h
  refine G rfl hg30<|S rfl (c109 a.Right b.Right _ hx29) ?_
  cases h
  refine X rfl hg30 rfl ?_
  exact ⟨⟨_,_,_,_,_,rfl⟩⟩
 ·replace h:=O hg30 hx30
  cases h
  refine H rfl hg30<|H rfl hg30<|H rfl hg30<|H rfl hg30<|H rfl hg30<|Y rfl hg30 rfl ?_
  exact ⟨⟨_,_,_,_,_,rfl⟩⟩
 rintro _ ⟨_,_,_,_,_,rfl⟩
 refine C rfl ?_
 obtain ⟨x37,hx37,h⟩:=I h
 refine gX 6 [32,33,34,35,36] 37 x37 x30 (fun hg37=>?_) (fun hg37=>?_) ?_
 ·replace h:=M hg37 hx37
  refine G rfl hg37<|K rfl<|G rfl hg37<|R rfl rfl (show _=ePart a.Keep from rfl)<|G rfl hg37<|K rfl<|G rfl hg37<|R rfl rfl (show _=ePart b.Keep from rfl) ?_
  obtain ⟨x36,hx36,h⟩:=I h
  refine G rfl hg37<|S rfl (c22 a.Keep b.Keep _ hx36) ?_
  cases h
  refine X rfl hg37 rfl ?_
  exact ⟨⟨_,_,_,_,_,rfl⟩⟩
 ·replace h:=O hg37 hx37
  cases h
  refine H rfl hg37<|H rfl hg37<|H rfl hg37<|H rfl hg37<|H rfl hg37<|Y rfl hg37 rfl ?_
  exact ⟨⟨_,_,_,_,_,rfl⟩⟩
 rintro _ ⟨_,_,_,_,_,rfl⟩
 refine C rfl ?_
 obtain ⟨x44,hx44,h⟩:=I h
 refine gX 6 [39,40,41,42,43] 44 x44 x37 (fun hg44=>?_) (fun hg44=>?_) ?_
 ·replace h:=M hg44 hx44
  refine G rfl hg44<|K rfl<|G rfl hg44<|R rfl rfl (show _=eMorphism a.Into from rfl)<|G rfl hg44<|K rfl<|G rfl hg44<|R rfl rfl (show _=eMorphism b.Into from rfl) ?_
  obtain ⟨x43,hx43,h⟩:=I h
  refine G rfl hg44<|S rfl (c110 a.Into b.Into _ hx43) ?_
  cases h
  refine X rfl hg44 rfl ?_
  exact ⟨⟨_,_,_,_,_,rfl⟩⟩
 ·replace h:=O hg44 hx44
  cases h
  refine H rfl hg44<|H rfl hg44<|H rfl hg44<|H rfl hg44<|H rfl hg44<|Y rfl hg44 rfl ?_
  exact ⟨⟨_,_,_,_,_,rfl⟩⟩
 rintro _ ⟨_,_,_,_,_,rfl⟩
 refine C rfl ?_
 obtain ⟨x51,hx51,h⟩:=I h
 refine gX 6 [46,47,48,49,50] 51 x51 x44 (fun hg51=>?_) (fun hg51=>?_) ?_
 ·replace h:=M hg51 hx51
  refine G rfl hg51<|K rfl<|G rfl hg51<|R rfl rfl (show _=eCondition a.Condition from rfl)<|G rfl hg51<|K rfl<|G rfl hg51<|R rfl rfl (show _=eCondition b.Condition from rfl) ?_
  obtain ⟨x50,hx50,h⟩:=I h
  refine G rfl hg51<|S rfl (c111 a.Condition b.Condition _ hx50) ?_
  cases h
  refine X rfl hg51 rfl ?_
  exact ⟨⟨_,_,_,_,_,rfl⟩⟩
 ·replace h:=O hg51 hx51
  cases h
  refine H rfl hg51<|H rfl hg51<|H rfl hg51<|H rfl hg51<|H rfl hg51<|Y rfl hg51 rfl ?_
  exact ⟨⟨_,_,_,_,_,rfl⟩⟩
 rintro _ ⟨_,_,_,_,_,rfl⟩
 refine C rfl<|E (kt<|kn) fun _=>?_
 exact L (by cases h;rfl)
theorem ck17:CK f17 (Rq [Af 2 0,Af 3 1,Ak 4] [2,3]<|Rq [Ae 5 2 25,Ae 6 3 25,Al 7 61 5 6,Aa 4 7] [4]<|.ret) [.tmp 4]:= by decide +kernel
theorem c17 (a:Rule) (b:Rule) (r:Bool) (h:ref53_Same a b=some r):Sound prog 17 [eRule a,eRule b] (.sh (eB r)):= by
 refine Fn ck17 fun hw=>?_
 unfold ref53_Same at h
 refine D<|F<|a3 rfl rfl<|a3 rfl rfl<|C rfl<|E (kt<|kt<|kn) fun _=>?_
 refine D<|F<|R rfl rfl (show _=eRule a from rfl)<|R rfl rfl (show _=eRule b from rfl) ?_
 obtain ⟨x7,hx7,h⟩:=I h
 refine S rfl (c61 a b _ hx7)<|C rfl<|E (kt<|kn) fun _=>?_
 exact L (by cases h;rfl)
theorem ck20:CK f20 (Rq [Af 3 0,Af 4 1,Af 5 2,Br 6 1 3 4 0 5 1 3 4 0 5 1 1 1 1 0 9 1 1 1 3 4 0 5,Bc 7 1 1,Ad 8 0] [3,4,5,6,7]<|Rq [Ae 9 3 2,Ae 10 4 2,Ae 11 5 25,⟨some 12,.lst 1 [.c (.int .i64 3)],none⟩,Ce 13 62 9 10 11 12,Ao 14 13 0,Ao 15 13 1,Ao 16 13 2,Ai 25 6 14,Ai 2 7 15,Aa 8 16] [6,7,8]<|.ret) [.cell 6 (some 25),.cell 7 (some 2),.tmp 8]:= by decide +kernel
theorem c20 (t:Types) (s_1:Sorts) (r_2:Rule) (r:(Rule × Part × Int)) (h:triplerule_Backward t s_1 r_2=some r):Sound prog 20 [eTypes t,eSorts s_1,eRule r_2] (.tp [eRule r.1,ePart r.2.1,eI r.2.2]):= by
 refine Fn ck20 fun hw=>?_
 unfold triplerule_Backward at h
 refine D<|F<|a3 rfl rfl<|a3 rfl rfl<|a3 rfl rfl<|a9 rfl<|a9 rfl<|C rfl<|E (kt<|kt<|kt<|kb<|kb<|kn) fun _=>?_
 refine D<|F<|R rfl rfl (show _=eTypes t from rfl)<|R rfl rfl (show _=eSorts s_1 from rfl)<|R rfl rfl (show _=eRule r_2 from rfl)<|d7 (e:=eI) (l:=[3]) rfl rfl (fun _=>rfl) ?_
 obtain ⟨x13,hx13,h⟩:=I h
 refine e5 rfl (c62 t s_1 r_2 [3] _ hx13)<|b2 rfl rfl<|b2 rfl rfl<|b2 rfl rfl<|a7 rfl rfl rfl rfl rfl<|a7 rfl rfl rfl rfl rfl<|C rfl<|E (kb<|kb<|kt<|kn) fun _=>?_
 refine L ?_
 cases h
 exact ⟨by decide,rfl⟩
theorem ck25:CK f25 (Rq [Af 1 0,Ak 2] [1]<|Rq [Ac 3 1 0,Aj 4 3 0,Ab 5 4,Ah 6 5,⟨some 7,.bin (.i) .leq (.s 6) (.c (.int .i64 3)),none⟩,Aa 8 7,Aw 9 1 0 8,By 10 9 1 8,Av 11 10 8,Ca 12 11 8,Ch 13 12 3 8,An 14 8 13,Aa 15 14,Aw 16 1 2 15,Av 17 16 15,Ca 18 17 15,Ch 19 18 3 15,An 20 15 19,Aa 21 20,Aw 22 1 3 21,Av 23 22 21,Ca 24 23 21,Ch 25 24 4 21,An 26 21 25,Aa 2 26] [2]<|.ret) [.tmp 2]:= by decide +kernel
theorem c25 (d:ref53_Draft) (r:Bool) (h:law53_small d=some r):Sound prog 25 [eref53_Draft d] (.sh (eB r)):= by
 refine Fn ck25 fun hw=>?_
 unfold law53_small at h
 refine D<|F<|a3 rfl rfl<|C rfl<|E (kt<|kn) fun _=>?_
 refine D<|F<|K rfl<|a8 rfl<|J rfl<|U rfl rfl<|f1 rfl rfl<|C rfl ?_
 refine gA 6 [9,10,11,12,13] 14 (decide ((d.Left.Nodes.length:Int)<=3)) (decide ((d.Left.Edges.length:Int)<=3)) (fun hg14=>?_) (fun hg14=>?_) ?_
 ·refine G rfl hg14<|K rfl<|G rfl hg14<|a8 rfl<|G rfl hg14<|J rfl<|G rfl hg14<|U rfl rfl<|G rfl hg14<|f1 rfl rfl<|X rfl hg14 rfl ?_
  exact ⟨⟨_,_,_,_,_,rfl⟩⟩
 ·refine H rfl hg14<|H rfl hg14<|H rfl hg14<|H rfl hg14<|H rfl hg14<|Y rfl hg14 rfl ?_
  exact ⟨⟨_,_,_,_,_,rfl⟩⟩
 rintro _ ⟨_,_,_,_,_,rfl⟩
 refine C rfl ?_
 refine gA 5 [16,17,18,19] 20 ((decide ((d.Left.Nodes.length:Int)<=3))&&(decide ((d.Left.Edges.length:Int)<=3))) (decide ((d.Nodes.length:Int)<=3)) (fun hg20=>?_) (fun hg20=>?_) ?_
 ·refine G rfl hg20<|K rfl<|G rfl hg20<|J rfl<|G rfl hg20<|U rfl rfl<|G rfl hg20<|f1 rfl rfl<|X rfl hg20 rfl ?_
  exact ⟨⟨_,_,_,_,rfl⟩⟩
 ·refine H rfl hg20<|H rfl hg20<|H rfl hg20<|H rfl hg20<|Y rfl hg20 rfl ?_
  exact ⟨⟨_,_,_,_,rfl⟩⟩
 rintro _ ⟨_,_,_,_,rfl⟩
 refine C rfl ?_
 refine gA 5 [22,23,24,25] 26 (((decide ((d.Left.Nodes.length:Int)<=3))&&(decide ((d.Left.Edges.length:Int)<=3)))&&(decide ((d.Nodes.length:Int)<=3))) (decide ((d.Edges.length:Int)<=4)) (fun hg26=>?_) (fun hg26=>?_) ?_
 ·refine G rfl hg26<|K rfl<|G rfl hg26<|J rfl<|G rfl hg26<|U rfl rfl<|G rfl hg26<|f1 rfl rfl<|X rfl hg26 rfl ?_
  exact ⟨⟨_,_,_,_,rfl⟩⟩
 ·refine H rfl hg26<|H rfl hg26<|H rfl hg26<|H rfl hg26<|Y rfl hg26 rfl ?_
  exact ⟨⟨_,_,_,_,rfl⟩⟩
 rintro _ ⟨_,_,_,_,rfl⟩
 refine C rfl<|E (kt<|kn) fun _=>?_
 exact L (by cases h;rfl)
theorem ck173:CK f173 (Rq [Af 1 0,Bw 2] [1]<|Sq (Rq [Ac 3 1 0,Ab 4 3,Bh 5 4 3] [1,5]<|Co 5 (Rq [Ac 6 1 1,Ab 7 6,⟨some 8,.bin (.s) .add (.c (.str ⟨#[34]⟩)) (.s 7),none⟩,⟨some 9,.bin (.s) .add (.s 8) (.c (.str ⟨#[34]⟩)),none⟩,Aa 2 9] [2]<|.ret)<|Sk [1])<|Rq [Ac 10 1 1,Ab 11 10,Aa 2 11] [2]<|.ret) [.tmp 2]:= by decide +kernel
theorem c173 (t:Token) (r:ByteArray) (h:ref01_text t=some r):Sound prog 173 [eToken t] (.sh (eS r)):= by
 refine Fn ck173 fun hw=>?_
 unfold ref01_text at h
 refine D<|F<|a3 rfl rfl<|C rfl<|E (kt<|kn) fun _=>?_
 refine D<|D<|F<|K rfl<|J rfl<|d2 rfl rfl<|E (kt<|kt<|kn) fun _=>?_
 refine T rfl (fun hc5=>?_) (fun hc5=>?_)
 ·replace h:=M hc5 h
  refine D<|F<|K rfl<|J rfl ?_
  obtain ⟨x8,hx8,h⟩:=I h
  refine m1 rfl rfl hx8 ?_
  obtain ⟨x9,hx9,h⟩:=I h
  refine m1 rfl rfl hx9<|C rfl<|E (kt<|kn) fun _=>?_
  exact L (by cases h;rfl)
 ·replace h:=O hc5 h
  refine P (kt<|kn) fun _=>?_
  refine D<|F<|K rfl<|J rfl<|C rfl<|E (kt<|kn) fun _=>?_
  exact L (by cases h;rfl)
theorem ck214:CK f214 (Rq [Ak 2] [0]<|Rq [Aa 3 0,Dg 4 3 97,Aa 5 4,Am 6 0 5,Cx 7 6 122 5,An 8 5 7,Aa 9 8,Az 10 0 9,Es 11 10 65 9,Az 12 11 9,Am 13 0 12,Cx 14 13 90 12,Cy 15 12 14 9,Au 16 9 15,Aa 2 16] [2]<|.ret) [.tmp 2]:= by decide +kernel
theorem c214 (c:Int) (r:Bool) (h:ref01_letter c=some r):Sound prog 214 [eU8 c] (.sh (eB r)):= by
 refine Fn ck214 fun hw=>?_
 unfold ref01_letter at h
 refine D<|F<|C rfl<|E (kt<|kn) fun _=>?_
 refine D<|F<|C rfl<|d8 rfl rfl<|C rfl ?_
 refine gA 3 [6,7] 8 (decide (97<=c)) (decide (c<=122)) (fun hg8=>?_) (fun hg8=>?_) ?_
 ·refine G rfl hg8<|C rfl<|G rfl hg8<|f1 rfl rfl<|X rfl hg8 rfl ?_
  exact ⟨⟨_,_,rfl⟩⟩
 ·refine H rfl hg8<|H rfl hg8<|Y rfl hg8 rfl ?_
  exact ⟨⟨_,_,rfl⟩⟩
 rintro _ ⟨_,_,rfl⟩
 refine C rfl ?_
 refine gO 7 [10,11,12,13,14,15] 16 ((decide (97<=c))&&(decide (c<=122))) ((decide (65<=c))&&(decide (c<=90))) (fun hg16=>?_) (fun hg16=>?_) ?_
 ·refine H rfl hg16<|H rfl hg16<|H rfl hg16<|b5 rfl<|b5 rfl<|H rfl hg16<|X rfl hg16 rfl ?_
  exact ⟨⟨_,_,_,_,_,_,rfl⟩⟩
 ·refine G rfl hg16<|C rfl<|G rfl hg16<|d8 rfl rfl<|G rfl hg16<|C rfl ?_
  refine gA 3 [13,14] 15 (decide (65<=c)) (decide (c<=90)) (fun hg15=>?_) (fun hg15=>?_) ?_
  ·refine G rfl hg15<|C rfl<|G rfl hg15<|f1 rfl rfl<|G rfl hg16<|X rfl hg15 rfl ?_
   exact ⟨⟨_,_,rfl⟩⟩
  ·refine H rfl hg15<|H rfl hg15<|G rfl hg16<|Y rfl hg15 rfl ?_
   exact ⟨⟨_,_,rfl⟩⟩
  rintro _ ⟨_,_,rfl⟩
  refine Y rfl hg16 rfl ?_
  exact ⟨⟨_,_,_,_,_,_,rfl⟩⟩
 rintro _ ⟨_,_,_,_,_,_,rfl⟩
 refine C rfl<|E (kt<|kn) fun _=>?_
 exact L (by cases h;rfl)
theorem ck215:CK f215 (Rq [Ak 2] [0]<|Rq [Aa 3 0,Dg 4 3 48,Aa 5 4,Am 6 0 5,Cx 7 6 57 5,An 8 5 7,Aa 2 8] [2]<|.ret) [.tmp 2]:= by decide +kernel
theorem c215 (c:Int) (r:Bool) (h:ref01_digit c=some r):Sound prog 215 [eU8 c] (.sh (eB r)):= by
 refine Fn ck215 fun hw=>?_
 unfold ref01_digit at h
 refine D<|F<|C rfl<|E (kt<|kn) fun _=>?_
 refine D<|F<|C rfl<|d8 rfl rfl<|C rfl ?_
 refine gA 3 [6,7] 8 (decide (48<=c)) (decide (c<=57)) (fun hg8=>?_) (fun hg8=>?_) ?_
 ·refine G rfl hg8<|C rfl<|G rfl hg8<|f1 rfl rfl<|X rfl hg8 rfl ?_
  exact ⟨⟨_,_,rfl⟩⟩
 ·refine H rfl hg8<|H rfl hg8<|Y rfl hg8 rfl ?_
  exact ⟨⟨_,_,rfl⟩⟩
 rintro _ ⟨_,_,rfl⟩
 refine C rfl<|E (kt<|kn) fun _=>?_
 exact L (by cases h;rfl)
theorem ck216:CK f216 (Rq [Ad 6 0] [0,1,2]<|Rq [Ad 7 0] [0,1,2,7]<|Sq (Bl 0<|Lo [0,1,2,7]<|Sq (Rq [Aa 8 1,Aa 9 7,Bo 10 8 9,Aa 11 0,Cq 12 11,Aq 13 10 12,Aa 14 13,Am 15 0 14,Am 16 1 14,Am 17 7 14,Eq 18 16 17 14,Eb 19 15 18 14,Dc 20 215 19 14,Am 21 20 14,Az 22 2 21,Bq 23 22 21,Az 24 23 21,Am 25 0 24,Am 26 1 24,Am 27 7 24,Eq 28 26 27 24,Eb 29 25 28 24,Dc 30 214 29 24,Am 31 30 24,Az 32 0 31,Az 33 1 31,Az 34 7 31,⟨some 35,.bin (.i) .add (.s 33) (.s 34),some (31,false)⟩,⟨some 36,.sidx (.s 32) (.s 35),some (31,false)⟩,Et 37 36 95 31,Dp 38 31 37 24,Cy 39 24 38 21,Dp 40 21 39 14,An 41 14 40] [0,1,2,7,41]<|Co 41 (Sk [0,1,2,7])<|Ex 0 [7])<|Bl 1<|Re [Aa 42 7,Ap 43 42 1,Aa 7 43] [0,1,2,7])<|Rq [Aa 44 7,Aa 6 44] [6]<|.ret) [.tmp 6]:= by decide +kernel
theorem c216 (s_0:ByteArray) (at':Int) (digits:Bool) (r:Int) (h:ref01_run s_0 at' digits=some r):Sound prog 216 [eS s_0,eI at',eB digits] (.sh (eI r)):= by
 refine Fn ck216 fun hw=>?_
 unfold ref01_run at h
 refine D<|F<|C rfl<|E (kt<|kt<|kt<|kn) fun _=>?_
 refine D<|F<|C rfl<|E (kt<|kt<|kt<|kt<|kn) fun _=>?_
 refine D ?_
 obtain ⟨o0,ho0,h⟩:=d4 h
 refine g9 ho0 (fun (s0:Int)=>[(0,.tv (eS s_0)),(1,.tv (eI at')),(2,.tv (eB digits)),(7,.tv (eI s0))]) (fun (s0:Int)=>[(7,.tv (eI s0))]) (fun zv ze=>resIs ([.tmp 6]) (.sh (eI zv)) ze) rfl ?_ ?_ ?_
 ·clear h ho0
  intro s0 r0 h hw0
  refine D<|D<|F<|C rfl<|C rfl<|a6 rfl rfl<|C rfl<|g6 rfl<|V rfl rfl<|C rfl ?_
  obtain ⟨x41,hx41,h⟩:=I h
  refine gX 27 [15,16,17,18,19,20,21,22,23,24,25,26,27,28,29,30,31,32,33,34,35,36,37,38,39,40] 41 x41 (decide ((w64 (at'+s0))<(s_0.size:Int))) (fun hg41=>?_) (fun hg41=>?_) ?_
  ·replace h:=M hg41 hx41
   refine G rfl hg41<|C rfl<|G rfl hg41<|C rfl<|G rfl hg41<|C rfl<|G rfl hg41<|a6 rfl rfl ?_
   obtain ⟨x19,hx19,h⟩:=I h
   refine G rfl hg41<|l4 rfl rfl hx19 ?_
   obtain ⟨x20,hx20,h⟩:=I h
   refine G rfl hg41<|S rfl (c215 x19 _ hx20)<|G rfl hg41<|C rfl ?_
   obtain ⟨x40,hx40,h⟩:=I h
   refine gX 19 [22,23,24,25,26,27,28,29,30,31,32,33,34,35,36,37,38,39] 40 x40 x20 (fun hg40=>?_) (fun hg40=>?_) ?_
   ·replace h:=M hg40 hx40
    cases h
    refine H rfl hg40<|H rfl hg40<|H rfl hg40<|b5 rfl<|b5 rfl<|b5 rfl<|b5 rfl<|b5 rfl<|b5 rfl<|b5 rfl<|b5 rfl<|b5 rfl<|b5 rfl<|b5 rfl<|b5 rfl<|b5 rfl<|b5 rfl<|H rfl hg40<|G rfl hg41<|X rfl hg40 rfl ?_
    exact ⟨⟨_,_,_,_,_,_,_,_,_,_,_,_,_,_,_,_,_,_,rfl⟩⟩
   ·replace h:=O hg40 hx40
    refine G rfl hg40<|C rfl<|G rfl hg40<|b6 rfl<|G rfl hg40<|C rfl ?_
    obtain ⟨x39,hx39,h⟩:=I h
    refine gX 15 [25,26,27,28,29,30,31,32,33,34,35,36,37,38] 39 x39 (!digits) (fun hg39=>?_) (fun hg39=>?_) ?_
    ·replace h:=M hg39 hx39
     refine G rfl hg39<|C rfl<|G rfl hg39<|C rfl<|G rfl hg39<|C rfl<|G rfl hg39<|a6 rfl rfl ?_
     obtain ⟨x29,hx29,h⟩:=I h
     refine G rfl hg39<|l4 rfl rfl hx29 ?_
     obtain ⟨x30,hx30,h⟩:=I h
     refine G rfl hg39<|S rfl (c214 x29 _ hx30)<|G rfl hg39<|C rfl ?_
     obtain ⟨x38,hx38,h⟩:=I h
     refine gX 7 [32,33,34,35,36,37] 38 x38 x30 (fun hg38=>?_) (fun hg38=>?_) ?_
     ·replace h:=M hg38 hx38
      cases h
      refine H rfl hg38<|H rfl hg38<|H rfl hg38<|H rfl hg38<|H rfl hg38<|H rfl hg38<|G rfl hg39<|X rfl hg38 rfl ?_
      exact ⟨⟨_,_,_,_,_,_,rfl⟩⟩
     ·replace h:=O hg38 hx38
      refine G rfl hg38<|C rfl<|G rfl hg38<|C rfl<|G rfl hg38<|C rfl<|G rfl hg38<|a6 rfl rfl ?_
      obtain ⟨x36,hx36,h⟩:=I h
      refine G rfl hg38<|l4 rfl rfl hx36<|G rfl hg38<|d2 rfl rfl ?_
      cases h
      refine G rfl hg39<|Y rfl hg38 rfl ?_
      exact ⟨⟨_,_,_,_,_,_,rfl⟩⟩
     rintro _ ⟨_,_,_,_,_,_,rfl⟩
     cases h
     refine G rfl hg40<|X rfl hg39 rfl ?_
     exact ⟨⟨_,_,_,_,_,_,_,_,_,_,_,_,_,_,rfl⟩⟩
    ·replace h:=O hg39 hx39
     cases h
     refine H rfl hg39<|H rfl hg39<|H rfl hg39<|H rfl hg39<|H rfl hg39<|H rfl hg39<|H rfl hg39<|b5 rfl<|b5 rfl<|b5 rfl<|b5 rfl<|b5 rfl<|b5 rfl<|H rfl hg39<|G rfl hg40<|Y rfl hg39 rfl ?_
     exact ⟨⟨_,_,_,_,_,_,_,_,_,_,_,_,_,_,rfl⟩⟩
    rintro _ ⟨_,_,_,_,_,_,_,_,_,_,_,_,_,_,rfl⟩
    cases h
    refine G rfl hg41<|Y rfl hg40 rfl ?_
    exact ⟨⟨_,_,_,_,_,_,_,_,_,_,_,_,_,_,_,_,_,_,rfl⟩⟩
   rintro _ ⟨_,_,_,_,_,_,_,_,_,_,_,_,_,_,_,_,_,_,rfl⟩
   cases h
   refine X rfl hg41 rfl ?_
   exact ⟨⟨_,_,_,_,_,_,_,_,_,_,_,_,_,_,_,_,_,_,_,_,_,_,_,_,_,_,rfl⟩⟩
  ·replace h:=O hg41 hx41
   cases h
   refine H rfl hg41<|H rfl hg41<|H rfl hg41<|H rfl hg41<|H rfl hg41<|H rfl hg41<|H rfl hg41<|b5 rfl<|b5 rfl<|b5 rfl<|b5 rfl<|b5 rfl<|b5 rfl<|b5 rfl<|b5 rfl<|b5 rfl<|b5 rfl<|b5 rfl<|b5 rfl<|b5 rfl<|b5 rfl<|b5 rfl<|b5 rfl<|b5 rfl<|b5 rfl<|H rfl hg41<|Y rfl hg41 rfl ?_
   exact ⟨⟨_,_,_,_,_,_,_,_,_,_,_,_,_,_,_,_,_,_,_,_,_,_,_,_,_,_,rfl⟩⟩
  rintro _ ⟨_,_,_,_,_,_,_,_,_,_,_,_,_,_,_,_,_,_,_,_,_,_,_,_,_,_,rfl⟩
  refine E (kt<|kt<|kt<|kt<|kt<|kn) fun _=>?_
  refine T rfl (fun hc41=>?_) (fun hc41=>?_)
  ·replace h:=M hc41 h
   refine P (kt<|kt<|kt<|kt<|kn) fun _=>?_
   refine b0<|F<|C rfl<|a6 rfl rfl<|C rfl<|E (kt<|kt<|kt<|kt<|kn) ?_
   cases h
   refine ⟨_,rfl,?_⟩
   rw [Ktv rfl (Ktv rfl (Ktv rfl (Ktv rfl (Knil _))))]
   all_goals rfl
  ·replace h:=O hc41 h
   refine b3 (kt<|kn) ?_
   refine ⟨rfl,?_⟩
   cases h
   exact ⟨_,rfl,rfl⟩
 ·intro s0 hs
  replace h:=d5 h hs
  intro _
  refine D<|F<|C rfl<|C rfl<|E (kt<|kn) fun _=>?_
  exact L (by cases h;rfl)
 ·intro v0 ze hv hR
  replace h:=d6 h hv
  cases h
  exact hR
theorem ck217:CK f217 (Rq [Ad 4 0] [0,1]<|Sq (Rq [Ad 5 1] [0,1,5]<|Bl 0<|Lo [0,1,5]<|Sq (Rq [Aa 7 1,Aa 8 5,Bo 9 7 8,Aa 10 0,Cq 11 10,Aq 12 9 11] [0,1,5,12]<|Co 12 (Sk [0,1,5])<|Ex 0 [])<|Sq (Bl 1<|Rq [Aa 15 0,Aa 16 1,Aa 17 5,Bo 18 16 17,⟨some 19,.sidx (.s 15) (.s 18),none⟩,Aa 6 19] [0,1,5,6]<|Sq (Rq [Aa 20 6,Ed 21 20 34] [0,1,5,6,21]<|Co 21 (Rq [Aa 22 5,Ap 23 22 1,Aa 4 23] [4]<|.ret)<|Sk [0,1,5,6])<|Rq [Aa 24 6,⟨some 25,.bin (.i) .lss (.s 24) (.c (.int .u8 32)),none⟩,Aa 26 25,Az 27 6 26,⟨some 28,.bin (.i) .gtr (.s 27) (.c (.int .u8 126)),some (26,false)⟩,Au 29 26 28] [0,1,5,29]<|Co 29 (Rq [Ad 4 0] [4]<|.ret)<|Sk [0,1,5])<|Re [Aa 13 5,Ap 14 13 1,Aa 5 14] [0,1,5])<|Rq [Ad 4 0] [4]<|.ret) [.tmp 4]:= by decide +kernel
theorem c217 (s_0:ByteArray) (at':Int) (r:Int) (h:ref01_quoted s_0 at'=some r):Sound prog 217 [eS s_0,eI at'] (.sh (eI r)):= by
 refine Fn ck217 fun hw=>?_
 unfold ref01_quoted at h
 refine D<|F<|C rfl<|E (kt<|kt<|kn) fun _=>?_
 refine D<|D<|F<|C rfl<|E (kt<|kt<|kt<|kn) fun _=>?_
 obtain ⟨o0,ho0,h⟩:=d4 h
 refine g9 ho0 (fun (s0:Int)=>[(0,.tv (eS s_0)),(1,.tv (eI at')),(5,.tv (eI s0))]) (fun (s0:Int)=>[]) (fun zv ze=>resIs ([.tmp 4]) (.sh (eI zv)) ze) rfl ?_ ?_ ?_
 ·clear h ho0
  intro s0 r0 h hw0
  refine D<|D<|F<|C rfl<|C rfl<|a6 rfl rfl<|C rfl<|g6 rfl<|V rfl rfl<|E (kt<|kt<|kt<|kt<|kn) fun _=>?_
  refine T rfl (fun hc12=>?_) (fun hc12=>?_)
  ·replace h:=M hc12 h
   refine P (kt<|kt<|kt<|kn) fun _=>?_
   refine D<|b0<|D<|F<|C rfl<|C rfl<|C rfl<|a6 rfl rfl ?_
   obtain ⟨x19,hx19,h⟩:=I h
   refine l4 rfl rfl hx19<|C rfl<|E (kt<|kt<|kt<|kt<|kn) fun _=>?_
   refine D<|D<|F<|C rfl<|d2 rfl rfl<|E (kt<|kt<|kt<|kt<|kt<|kn) fun _=>?_
   refine T rfl (fun hc21=>?_) (fun hc21=>?_)
   ·replace h:=M hc21 h
    refine D<|F<|C rfl<|a6 rfl rfl<|C rfl<|E (kt<|kn) fun _=>?_
    refine L ?_
    cases h
    exact ⟨_,rfl,rfl⟩
   ·replace h:=O hc21 h
    refine P (kt<|kt<|kt<|kt<|kn) fun _=>?_
    refine D<|F<|C rfl<|V rfl rfl<|C rfl ?_
    refine gO 3 [27,28] 29 (decide (x19<32)) (decide (126<x19)) (fun hg29=>?_) (fun hg29=>?_) ?_
    ·refine H rfl hg29<|H rfl hg29<|X rfl hg29 rfl ?_
     exact ⟨⟨_,_,rfl⟩⟩
    ·refine G rfl hg29<|C rfl<|G rfl hg29<|e7 rfl rfl<|Y rfl hg29 rfl ?_
     exact ⟨⟨_,_,rfl⟩⟩
    rintro _ ⟨_,_,rfl⟩
    refine E (kt<|kt<|kt<|kt<|kn) fun _=>?_
    refine T rfl (fun hc29=>?_) (fun hc29=>?_)
    ·replace h:=M hc29 h
     refine D<|F<|C rfl<|E (kt<|kn) fun _=>?_
     refine L ?_
     cases h
     exact ⟨_,rfl,rfl⟩
    ·replace h:=O hc29 h
     refine P (kt<|kt<|kt<|kn) fun _=>?_
     refine F<|C rfl<|a6 rfl rfl<|C rfl<|E (kt<|kt<|kt<|kn) ?_
     cases h
     refine ⟨_,rfl,?_⟩
     rw [Ktv rfl (Ktv rfl (Ktv rfl (Knil _)))]
     all_goals rfl
  ·replace h:=O hc12 h
   refine b3 (kn) ?_
   refine ⟨rfl,?_⟩
   cases h
   exact ⟨_,rfl,rfl⟩
 ·intro s0 hs
  replace h:=d5 h hs
  intro _
  refine D<|F<|C rfl<|E (kt<|kn) fun _=>?_
  exact L (by cases h;rfl)
 ·intro v0 ze hv hR
  replace h:=d6 h hv
  cases h
  exact hR
theorem ck218:CK f218 (Rq [Bf 0 1] []<|Rq [⟨some 1,.lst 1 [.c (.str ⟨#[45,62]⟩),.c (.str ⟨#[60,61]⟩),.c (.str ⟨#[62,61]⟩),.c (.str ⟨#[61,61]⟩),.c (.str ⟨#[33,61]⟩),.c (.str ⟨#[123]⟩),.c (.str ⟨#[125]⟩),.c (.str ⟨#[40]⟩),.c (.str ⟨#[41]⟩),.c (.str ⟨#[91]⟩),.c (.str ⟨#[93]⟩),.c (.str ⟨#[44]⟩),.c (.str ⟨#[59]⟩),.c (.str ⟨#[58]⟩),.c (.str ⟨#[61]⟩),.c (.str ⟨#[43]⟩),.c (.str ⟨#[45]⟩),.c (.str ⟨#[42]⟩),.c (.str ⟨#[60]⟩),.c (.str ⟨#[62]⟩),.c (.str ⟨#[33]⟩),.c (.str ⟨#[38]⟩),.c (.str ⟨#[124]⟩),.c (.str ⟨#[46]⟩),.c (.str ⟨#[63]⟩)],none⟩,Ba 0 1] [0]<|.ret) [.tmp 0]:= by decide +kernel
theorem c218  (r:(List ByteArray)) (h:ref01_signs =some r):Sound prog 218 [] (.own (lB r)):= by
 refine Fn ck218 fun hw=>?_
 unfold ref01_signs at h
 refine D<|F<|f0<|E (kn) fun _=>?_
 refine D<|F<|d7 (e:=eS) (l:=[(⟨#[45,62]⟩:ByteArray),(⟨#[60,61]⟩:ByteArray),(⟨#[62,61]⟩:ByteArray),(⟨#[61,61]⟩:ByteArray),(⟨#[33,61]⟩:ByteArray),(⟨#[123]⟩:ByteArray),(⟨#[125]⟩:ByteArray),(⟨#[40]⟩:ByteArray),(⟨#[41]⟩:ByteArray),(⟨#[91]⟩:ByteArray),(⟨#[93]⟩:ByteArray),(⟨#[44]⟩:ByteArray),(⟨#[59]⟩:ByteArray),(⟨#[58]⟩:ByteArray),(⟨#[61]⟩:ByteArray),(⟨#[43]⟩:ByteArray),(⟨#[45]⟩:ByteArray),(⟨#[42]⟩:ByteArray),(⟨#[60]⟩:ByteArray),(⟨#[62]⟩:ByteArray),(⟨#[33]⟩:ByteArray),(⟨#[38]⟩:ByteArray),(⟨#[124]⟩:ByteArray),(⟨#[46]⟩:ByteArray),(⟨#[63]⟩:ByteArray)]) rfl rfl (fun _=>rfl)<|e9 rfl<|E (ko<|kn) fun _=>?_
 exact L (by cases h;rfl)
theorem ck174:CK f174 (Rq [Fi 4 0 0,Ad 5 0,Ad 6 0] [0,1,4]<|Rq [Aa 14 0,Aa 15 1,⟨some 16,.sidx (.s 14) (.s 15),none⟩,Aa 7 16] [0,1,4,7]<|Sq (Rq [Aa 17 7,At 18 214 17,Aa 19 18,Az 20 7 19,Ec 21 215 20 19,Au 22 19 21] [0,1,4,7,22]<|Co 22 (Rq [Aa 23 0,Aa 24 1,Aa 25 7,At 26 215 25,Bg 27 216 23 24 26,Aa 8 27] [0,1,4,7,8]<|Rq [Ad 9 1,Ad 10 20] [0,1,4,7,8,9,10]<|Sq (Rq [Aa 28 7,At 29 215 28] [0,1,4,8,9,10,29]<|Co 29 (Re [Ad 9 2,Ad 10 9] [0,1,4,8,9,10])<|Sk [0,1,4,8,9,10])<|Sq (Rq [Aa 30 8,Aa 31 10,⟨some 32,.bin (.i) .gtr (.s 30) (.s 31),none⟩] [0,1,4,8,9,32]<|Co 32 (Rq [Dy 33 0 0,Ai 3 4 33,Ad 5 0,Ad 6 3] [4,5,6]<|.ret)<|Sk [0,1,4,8,9])<|Rq [Aa 34 9,Aa 35 0,Aa 36 1,Aa 37 1,Aa 38 8,Bo 39 37 38,⟨some 40,.sslc (.s 35) (some (.s 36)) (some (.s 39)),none⟩,⟨some 41,.bld [.int .i64 0,.str ⟨#[]⟩,.int .i64 0] [(0,1,.s 34),(1,1,.s 40)],none⟩,Aa 42 8,Ai 3 4 41,Aa 5 42,Ad 6 0] [4,5,6]<|.ret)<|Sk [0,1,4,7])<|Sq (Rq [Aa 43 7,Ed 44 43 34] [0,1,4,44]<|Co 44 (Rq [Aa 45 0,Aa 46 1,Al 47 217 45 46,Aa 11 47] [0,1,4,11]<|Sq (Rq [Aa 48 11,Bh 49 48 0] [0,1,4,11,49]<|Co 49 (Rq [Dy 50 0 0,Ai 3 4 50,Ad 5 0,Ad 6 2] [4,5,6]<|.ret)<|Sk [0,1,4,11])<|Sq (Rq [Aa 51 11,Da 52 51 2,Bp 53 52 60] [0,1,4,11,53]<|Co 53 (Rq [Dy 54 0 0,Ai 3 4 54,Ad 5 0,Ad 6 3] [4,5,6]<|.ret)<|Sk [0,1,4,11])<|Rq [Aa 55 0,Aa 56 1,Ap 57 56 1,Aa 58 1,Aa 59 11,Bo 60 58 59,Da 61 60 1,⟨some 62,.sslc (.s 55) (some (.s 57)) (some (.s 61)),none⟩,Dn 63 0 0 0 1 3 1 1 62,Aa 64 11,Ai 3 4 63,Aa 5 64,Ad 6 0] [4,5,6]<|.ret)<|Sk [0,1,4])<|Rq [Cv 65 218,Ba 12 65] [0,1,4,12]<|Sq (Rq [Ad 13 0] [0,1,4,12,13]<|Bl 0<|Lo [0,1,4,12,13]<|Sq (Rq [Aa 66 13,Aa 67 12,Ah 68 67,Aq 69 66 68] [0,1,4,12,13,69]<|Co 69 (Sk [0,1,4,12,13])<|Ex 0 [4])<|Sq (Bl 1<|Sq (Dr [72,73,74,75,76,77,78,79,80,81,82,83,84,85,86,87,88,89,90,91,92,93,94,95,96,97,98] [Aa 72 1,Aa 73 12,Aa 74 13,Ag 75 73 74 1,Ab 76 75,Cq 77 76,Bo 78 72 77,Aa 79 0,Cq 80 79,⟨some 81,.bin (.i) .leq (.s 78) (.s 80),none⟩,Aa 82 81,Am 83 0 82,Am 84 1 82,Am 85 1 82,Am 86 12 82,Am 87 13 82,Bv 88 86 87 1 82,Av 89 88 82,Ee 90 89 82,Eq 91 85 90 82,⟨some 92,.sslc (.s 83) (some (.s 84)) (some (.s 91)),some (82,true)⟩,Am 93 12 82,Am 94 13 82,Bv 95 93 94 1 82,Av 96 95 82,⟨some 97,.bin (.s) .eql (.s 92) (.s 96),some (82,true)⟩,An 98 82 97] [0,1,4,12,13,98])<|Co 98 (Sq (Dr [4,5,6,99,100,101,102,103,104,105,106,107,108] [Aa 99 12,Aa 100 13,Ag 101 99 100 1,Ab 102 101,Dn 103 0 0 0 1 4 1 1 102,Aa 104 12,Aa 105 13,Ag 106 104 105 1,Ab 107 106,Cq 108 107,Ai 3 4 103,Aa 5 108,Ad 6 0] [4,5,6])<|.ret)<|Sk [0,1,4,12,13])<|Re [Aa 70 13,Ap 71 70 1,Aa 13 71] [0,1,4,12,13])<|Rq [Dy 109 0 0,Ai 3 4 109,Ad 5 0,Ad 6 2] [4,5,6]<|.ret) [.cell 4 (some 3),.tmp 5,.tmp 6]:= by decide +kernel
theorem c174 (s_0:ByteArray) (at':Int) (r:(Token × Int × Int)) (h:ref01_one s_0 at'=some r):Sound prog 174 [eS s_0,eI at'] (.tp [eToken r.1,eI r.2.1,eI r.2.2]):= by
 refine Fn ck174 fun hw=>?_
 unfold ref01_one at h
 refine D<|F<|a9 rfl<|C rfl<|C rfl<|E (kt<|kt<|kb<|kn) fun _=>?_
 refine D<|F<|C rfl<|C rfl ?_
 obtain ⟨x16,hx16,h⟩:=I h
 refine l4 rfl rfl hx16<|C rfl<|E (kt<|kt<|kb<|kt<|kn) fun _=>?_
 refine D<|D<|F<|C rfl ?_
 obtain ⟨x18,hx18,h⟩:=I h
 refine S rfl (c214 x16 _ hx18)<|C rfl ?_
 obtain ⟨x22,hx22,h⟩:=I h
 refine gX 3 [20,21] 22 x22 x18 (fun hg22=>?_) (fun hg22=>?_) ?_
 ·replace h:=M hg22 hx22
  cases h
  refine H rfl hg22<|H rfl hg22<|X rfl hg22 rfl ?_
  exact ⟨⟨_,_,rfl⟩⟩
 ·replace h:=O hg22 hx22
  refine G rfl hg22<|C rfl ?_
  obtain ⟨x21,hx21,h⟩:=I h
  refine G rfl hg22<|S rfl (c215 x16 _ hx21) ?_
  cases h
  refine Y rfl hg22 rfl ?_
  exact ⟨⟨_,_,rfl⟩⟩
 rintro _ ⟨_,_,rfl⟩
 refine E (kt<|kt<|kb<|kt<|kt<|kn) fun _=>?_
 refine T rfl (fun hc22=>?_) (fun hc22=>?_)
 ·replace h:=M hc22 h
  refine D<|F<|C rfl<|C rfl<|C rfl ?_
  obtain ⟨x26,hx26,h⟩:=I h
  refine S rfl (c215 x16 _ hx26) ?_
  obtain ⟨x27,hx27,h⟩:=I h
  refine S rfl (c216 s_0 at' x26 _ hx27)<|C rfl<|E (kt<|kt<|kb<|kt<|kt<|kn) fun _=>?_
  refine D<|F<|C rfl<|C rfl<|E (kt<|kt<|kb<|kt<|kt<|kt<|kt<|kn) fun _=>?_
  refine D<|D<|F<|C rfl ?_
  obtain ⟨x29,hx29,h⟩:=I h
  refine S rfl (c215 x16 _ hx29)<|E (kt<|kt<|kb<|kt<|kt<|kt<|kt<|kn) fun _=>?_
  obtain ⟨w1,hw1,h⟩:=I h
  refine l6 (fun ze=>ze=[(0,.tv (eS s_0)),(1,.tv (eI at')),(4,.bx [⟨false,eI 0⟩,⟨false,eS (⟨#[]⟩:ByteArray)⟩,⟨false,eI 0⟩]),(8,.tv (eI x27)),(9,.tv (eI w1.1)),(10,.tv (eI w1.2))]) ?_ ?_
  ·replace h:=hw1
   clear hw1
   refine T rfl (fun hc29=>?_) (fun hc29=>?_)
   ·replace h:=M hc29 h
    refine F<|C rfl<|C rfl<|E (kt<|kt<|kb<|kt<|kt<|kt<|kn) ?_
    cases h
    exact rfl
   ·replace h:=O hc29 h
    refine P (kt<|kt<|kb<|kt<|kt<|kt<|kn) ?_
    cases h
    exact rfl
  rintro _ rfl
  intro _
  refine D<|D<|F<|C rfl<|C rfl<|e7 rfl rfl<|E (kt<|kt<|kb<|kt<|kt<|kt<|kn) fun _=>?_
  refine T rfl (fun hc32=>?_) (fun hc32=>?_)
  ·replace h:=M hc32 h
   refine D<|F<|e6 rfl rfl (show _=eToken (Token.mk 0 (⟨#[]⟩:ByteArray) 0) from rfl)<|a7 rfl rfl rfl rfl rfl<|C rfl<|C rfl<|E (kb<|kt<|kt<|kn) fun _=>?_
   refine L ?_
   cases h
   exact ⟨by decide,rfl⟩
  ·replace h:=O hc32 h
   refine P (kt<|kt<|kb<|kt<|kt<|kn) fun _=>?_
   refine D<|F<|C rfl<|C rfl<|C rfl<|C rfl<|C rfl<|a6 rfl rfl ?_
   obtain ⟨x40,hx40,h⟩:=I h
   refine l9 rfl rfl rfl hx40<|e6 rfl rfl (show _=eToken (Token.mk w1.1 x40 0) from rfl)<|C rfl<|a7 rfl rfl rfl rfl rfl<|C rfl<|C rfl<|E (kb<|kt<|kt<|kn) fun _=>?_
   refine L ?_
   cases h
   exact ⟨by decide,rfl⟩
 ·replace h:=O hc22 h
  refine P (kt<|kt<|kb<|kt<|kn) fun _=>?_
  refine D<|D<|F<|C rfl<|d2 rfl rfl<|E (kt<|kt<|kb<|kt<|kn) fun _=>?_
  refine T rfl (fun hc44=>?_) (fun hc44=>?_)
  ·replace h:=M hc44 h
   refine D<|F<|C rfl<|C rfl ?_
   obtain ⟨x47,hx47,h⟩:=I h
   refine S rfl (c217 s_0 at' _ hx47)<|C rfl<|E (kt<|kt<|kb<|kt<|kn) fun _=>?_
   refine D<|D<|F<|C rfl<|d2 rfl rfl<|E (kt<|kt<|kb<|kt<|kt<|kn) fun _=>?_
   refine T rfl (fun hc49=>?_) (fun hc49=>?_)
   ·replace h:=M hc49 h
    refine D<|F<|e6 rfl rfl (show _=eToken (Token.mk 0 (⟨#[]⟩:ByteArray) 0) from rfl)<|a7 rfl rfl rfl rfl rfl<|C rfl<|C rfl<|E (kb<|kt<|kt<|kn) fun _=>?_
    refine L ?_
    cases h
    exact ⟨by decide,rfl⟩
   ·replace h:=O hc49 h
    refine P (kt<|kt<|kb<|kt<|kn) fun _=>?_
    refine D<|D<|F<|C rfl<|f6 rfl rfl<|e7 rfl rfl<|E (kt<|kt<|kb<|kt<|kt<|kn) fun _=>?_
    refine T rfl (fun hc53=>?_) (fun hc53=>?_)
    ·replace h:=M hc53 h
     refine D<|F<|e6 rfl rfl (show _=eToken (Token.mk 0 (⟨#[]⟩:ByteArray) 0) from rfl)<|a7 rfl rfl rfl rfl rfl<|C rfl<|C rfl<|E (kb<|kt<|kt<|kn) fun _=>?_
     refine L ?_
     cases h
     exact ⟨by decide,rfl⟩
    ·replace h:=O hc53 h
     refine P (kt<|kt<|kb<|kt<|kn) fun _=>?_
     refine D<|F<|C rfl<|C rfl<|a6 rfl rfl<|C rfl<|C rfl<|a6 rfl rfl<|f6 rfl rfl ?_
     obtain ⟨x62,hx62,h⟩:=I h
     refine l9 rfl rfl rfl hx62<|e6 rfl rfl (show _=eToken (Token.mk 3 x62 0) from rfl)<|C rfl<|a7 rfl rfl rfl rfl rfl<|C rfl<|C rfl<|E (kb<|kt<|kt<|kn) fun _=>?_
     refine L ?_
     cases h
     exact ⟨by decide,rfl⟩
  ·replace h:=O hc44 h
   refine P (kt<|kt<|kb<|kn) fun _=>?_
   refine D<|F ?_
   obtain ⟨x65,hx65,h⟩:=I h
   refine g3 rfl (c218  _ hx65)<|e9 rfl<|E (kt<|kt<|kb<|ko<|kn) fun _=>?_
   refine D<|D<|F<|C rfl<|E (kt<|kt<|kb<|ko<|kt<|kn) fun _=>?_
   obtain ⟨o0,ho0,h⟩:=d4 h
   refine e1 ho0 (fun (i0:Int) (s0:Token)=>[(0,.tv (eS s_0)),(1,.tv (eI at')),(4,.bx [⟨false,eI s0.Kind⟩,⟨false,eS s0.Text⟩,⟨false,eI s0.Line⟩]),(12,.ow (lB x65)),(13,.tv (eI i0))]) (fun (s0:Token)=>[(4,.bx [⟨false,eI s0.Kind⟩,⟨false,eS s0.Text⟩,⟨false,eI s0.Line⟩])]) (fun zv ze=>resIs ([.cell 4 (some 3),.tmp 5,.tmp 6]) (.tp [eToken zv.1,eI zv.2.1,eI zv.2.2]) ze) rfl ?_ ?_ ?_ ?_
   ·clear h ho0
    intro i0 s0 r0 hi0 h hw0
    refine D<|D<|F<|C rfl<|C rfl<|U rfl rfl<|V rfl rfl<|E (kt<|kt<|kb<|ko<|kt<|kt<|kn) fun _=>?_
    refine b7 rfl (b8 hi0)<|P (kt<|kt<|kb<|ko<|kt<|kn) fun _=>?_
    refine D<|b0<|D<|d1 rfl<|C rfl<|C rfl<|C rfl ?_
    obtain ⟨x75,hx75,h⟩:=I h
    refine Z rfl rfl rfl hx75 rfl<|J rfl<|g6 rfl<|a6 rfl rfl<|C rfl<|g6 rfl<|f1 rfl rfl<|C rfl ?_
    obtain ⟨x98,hx98,h⟩:=I h
    refine gX 16 [83,84,85,86,87,88,89,90,91,92,93,94,95,96,97] 98 x98 (decide ((w64 (at'+(x75.size:Int)))<=(s_0.size:Int))) (fun hg98=>?_) (fun hg98=>?_) ?_
    ·replace h:=M hg98 hx98
     refine G rfl hg98<|C rfl<|G rfl hg98<|C rfl<|G rfl hg98<|C rfl<|G rfl hg98<|C rfl<|G rfl hg98<|C rfl ?_
     obtain ⟨x88,hx88,h⟩:=I h
     refine G rfl hg98<|Z rfl rfl rfl hx88 rfl<|G rfl hg98<|J rfl<|G rfl hg98<|g6 rfl<|G rfl hg98<|a6 rfl rfl ?_
     obtain ⟨x92,hx92,h⟩:=I h
     refine G rfl hg98<|l9 rfl rfl rfl hx92<|G rfl hg98<|C rfl<|G rfl hg98<|C rfl ?_
     obtain ⟨x95,hx95,h⟩:=I h
     refine G rfl hg98<|Z rfl rfl rfl hx95 rfl<|G rfl hg98<|J rfl<|G rfl hg98<|g5 rfl rfl ?_
     cases h
     refine X rfl hg98 rfl ?_
     exact ⟨⟨_,_,_,_,_,_,_,_,_,_,_,_,_,_,_,rfl⟩⟩
    ·replace h:=O hg98 hx98
     cases h
     refine H rfl hg98<|H rfl hg98<|H rfl hg98<|H rfl hg98<|H rfl hg98<|H rfl hg98<|H rfl hg98<|H rfl hg98<|H rfl hg98<|H rfl hg98<|H rfl hg98<|H rfl hg98<|H rfl hg98<|H rfl hg98<|H rfl hg98<|Y rfl hg98 rfl ?_
     exact ⟨⟨_,_,_,_,_,_,_,_,_,_,_,_,_,_,_,rfl⟩⟩
    rintro _ ⟨_,_,_,_,_,_,_,_,_,_,_,_,_,_,_,rfl⟩
    refine E (kt<|kt<|kb<|ko<|kt<|kt<|kn) fun _=>?_
    refine T rfl (fun hc98=>?_) (fun hc98=>?_)
    ·replace h:=M hc98 h
     refine D<|d1 rfl<|C rfl<|C rfl ?_
     obtain ⟨x101,hx101,h⟩:=I h
     refine Z rfl rfl rfl hx101 rfl<|J rfl<|e6 rfl rfl (show _=eToken (Token.mk 4 x101 0) from rfl)<|C rfl<|C rfl ?_
     obtain ⟨x106,hx106,h⟩:=I h
     refine Z rfl rfl rfl hx106 rfl<|J rfl<|g6 rfl<|a7 rfl rfl rfl rfl rfl<|C rfl<|C rfl<|E (kb<|kt<|kt<|kn) fun _=>?_
     refine L ?_
     cases h
     exact ⟨_,rfl,⟨by decide,rfl⟩⟩
    ·replace h:=O hc98 h
     refine P (kt<|kt<|kb<|ko<|kt<|kn) fun _=>?_
     refine F<|C rfl<|a6 rfl rfl<|C rfl<|E (kt<|kt<|kb<|ko<|kt<|kn) ?_
     cases h
     refine ⟨_,rfl,?_⟩
     rw [Ktv rfl (Ktv rfl (Kbx rfl (Kow rfl (Ktv rfl (Knil _)))))]
     rw [b4 (a5 (hw0 13)) hi0 (f8 (m2 (hw0 12)) rfl)]
     all_goals rfl
   ·intro i0 s0 hi0
    refine D<|D<|F<|C rfl<|C rfl<|U rfl rfl<|V rfl rfl<|E (kt<|kt<|kb<|ko<|kt<|kt<|kn) fun _=>?_
    refine b9 rfl (d0 hi0)<|b3 (kb<|kn) ?_
    exact ⟨rfl,rfl⟩
   ·intro s0 hs
    replace h:=d5 h hs
    intro _
    refine D<|F<|e6 rfl rfl (show _=eToken (Token.mk 0 (⟨#[]⟩:ByteArray) 0) from rfl)<|a7 rfl rfl rfl rfl rfl<|C rfl<|C rfl<|E (kb<|kt<|kt<|kn) fun _=>?_
    refine L ?_
    cases h
    exact ⟨by decide,rfl⟩
   ·intro v0 ze hv hR
    replace h:=d6 h hv
    cases h
    exact hR
theorem ck126:CK f126 (Rq [Af 1 0,Ak 2] [1]<|Rq [Ae 7 1 3,At 8 173 7,Aa 3 8] [1,3]<|Sq (Rq [Aa 9 3,⟨some 10,.bin (.s) .eql (.s 9) (.c (.str ⟨#[]⟩)),none⟩] [1,3,10]<|Co 10 (Rq [Ak 2] [2]<|.ret)<|Sk [1,3])<|Rq [Aa 12 3,Ei 13 174 12 0,Aa 11 13,Ao 14 11 0,Ao 15 11 1,Ao 16 11 2,Fi 4 0 0,Ai 3 4 14,Aa 5 15,Aa 6 16] [1,3,4,5,6]<|Rq [Aa 17 6,Bh 18 17 0,Aa 19 18,Am 20 5 19,Am 21 3 19,Ee 22 21 19,Cs 23 20 22 19,An 24 19 23,Aa 25 24,Aw 26 4 0 25,Av 27 26 25,Aw 28 1 0 25,Av 29 28 25,Cs 30 27 29 25,An 31 25 30,Aa 2 31] [2]<|.ret) [.tmp 2]:= by decide +kernel
theorem c126 (t:Token) (r:Bool) (h:ref01_Right t=some r):Sound prog 126 [eToken t] (.sh (eB r)):= by
 refine Fn ck126 fun hw=>?_
 unfold ref01_Right at h
 refine D<|F<|a3 rfl rfl<|C rfl<|E (kt<|kn) fun _=>?_
 refine D<|F<|R rfl rfl (show _=eToken t from rfl) ?_
 obtain ⟨x8,hx8,h⟩:=I h
 refine S rfl (c173 t _ hx8)<|C rfl<|E (kt<|kt<|kn) fun _=>?_
 refine D<|D<|F<|C rfl<|g5 rfl rfl<|E (kt<|kt<|kt<|kn) fun _=>?_
 refine T rfl (fun hc10=>?_) (fun hc10=>?_)
 ·replace h:=M hc10 h
  refine D<|F<|C rfl<|E (kt<|kn) fun _=>?_
  exact L (by cases h;rfl)
 ·replace h:=O hc10 h
  refine P (kt<|kt<|kn) fun _=>?_
  refine D<|F<|C rfl ?_
  obtain ⟨x13,hx13,h⟩:=I h
  refine e5 rfl (c174 x8 0 _ hx13)<|e8 rfl<|b2 rfl rfl<|b2 rfl rfl<|b2 rfl rfl<|a9 rfl<|a7 rfl rfl rfl rfl rfl<|C rfl<|C rfl<|E (kt<|kt<|kb<|kt<|kt<|kn) fun _=>?_
  refine D<|F<|C rfl<|d2 rfl rfl<|C rfl ?_
  refine gA 5 [20,21,22,23] 24 (decide (x13.2.2=0)) (decide (x13.2.1=(x8.size:Int))) (fun hg24=>?_) (fun hg24=>?_) ?_
  ·refine G rfl hg24<|C rfl<|G rfl hg24<|C rfl<|G rfl hg24<|g6 rfl<|G rfl hg24<|d2 rfl rfl<|X rfl hg24 rfl ?_
   exact ⟨⟨_,_,_,_,rfl⟩⟩
  ·refine H rfl hg24<|H rfl hg24<|H rfl hg24<|H rfl hg24<|Y rfl hg24 rfl ?_
   exact ⟨⟨_,_,_,_,rfl⟩⟩
  rintro _ ⟨_,_,_,_,rfl⟩
  refine C rfl ?_
  refine gA 6 [26,27,28,29,30] 31 ((decide (x13.2.2=0))&&(decide (x13.2.1=(x8.size:Int)))) (decide (x13.1.Kind=t.Kind)) (fun hg31=>?_) (fun hg31=>?_) ?_
  ·refine G rfl hg31<|a4 rfl<|G rfl hg31<|J rfl<|G rfl hg31<|K rfl<|G rfl hg31<|J rfl<|G rfl hg31<|d2 rfl rfl<|X rfl hg31 rfl ?_
   exact ⟨⟨_,_,_,_,_,rfl⟩⟩
  ·refine H rfl hg31<|H rfl hg31<|H rfl hg31<|H rfl hg31<|H rfl hg31<|Y rfl hg31 rfl ?_
   exact ⟨⟨_,_,_,_,_,rfl⟩⟩
  rintro _ ⟨_,_,_,_,_,rfl⟩
  refine C rfl<|E (kt<|kn) fun _=>?_
  exact L (by cases h;rfl)
theorem ck75:CK f75 (Rq [Ak 2] [0]<|Rq [Aa 3 0,Dn 4 0 0 0 1 1 1 1 3,At 5 126 4,Aa 2 5] [2]<|.ret) [.tmp 2]:= by decide +kernel
theorem c75 (s_0:ByteArray) (r:Bool) (h:ref01_IsName s_0=some r):Sound prog 75 [eS s_0] (.sh (eB r)):= by
 refine Fn ck75 fun hw=>?_
 unfold ref01_IsName at h
 refine D<|F<|C rfl<|E (kt<|kn) fun _=>?_
 refine D<|F<|C rfl<|e6 rfl rfl (show _=eToken (Token.mk 1 s_0 0) from rfl) ?_
 obtain ⟨x5,hx5,h⟩:=I h
 refine S rfl (c126 (Token.mk 1 s_0 0) _ hx5)<|C rfl<|E (kt<|kn) fun _=>?_
 exact L (by cases h;rfl)
theorem ck119:CK f119 (Rq [Ak 6] [0,1,2]<|Rq [Aa 7 0,Aa 8 1,De 9 7 8,Aa 10 9,Am 11 0 10,Am 12 2 10,Dh 13 11 12 10,An 14 10 13,Aa 6 14] [6]<|.ret) [.tmp 6]:= by decide +kernel
theorem c119 (n:Int) (low:Int) (high:Int) (r:Bool) (h:ref04_in n low high=some r):Sound prog 119 [eI n,eI low,eI high] (.sh (eB r)):= by
 refine Fn ck119 fun hw=>?_
 unfold ref04_in at h
 refine D<|F<|C rfl<|E (kt<|kt<|kt<|kn) fun _=>?_
 refine D<|F<|C rfl<|C rfl<|d8 rfl rfl<|C rfl ?_
 refine gA 4 [11,12,13] 14 (decide (low<=n)) (decide (n<=high)) (fun hg14=>?_) (fun hg14=>?_) ?_
 ·refine G rfl hg14<|C rfl<|G rfl hg14<|C rfl<|G rfl hg14<|f1 rfl rfl<|X rfl hg14 rfl ?_
  exact ⟨⟨_,_,_,rfl⟩⟩
 ·refine H rfl hg14<|H rfl hg14<|H rfl hg14<|Y rfl hg14 rfl ?_
  exact ⟨⟨_,_,_,rfl⟩⟩
 rintro _ ⟨_,_,_,rfl⟩
 refine C rfl<|E (kt<|kn) fun _=>?_
 exact L (by cases h;rfl)
theorem ck168:CK f168 (Rq [Af 2 0,Bf 4 4] [1,2]<|Sq (Rq [Aa 5 1,Ck 6 5 0] [1,2,6]<|Co 6 (Rq [Bf 4 4] [4]<|.ret)<|Sk [1,2])<|Sq (Dr [4,7,8,9,10,11,12,13,14,15,16,17,18,19,20,21,22,23] [Cu 7 4,Ae 8 2 2,Ac 9 2 0,Ab 10 9,Aa 11 1,Ag 12 10 11 4,Aj 13 12 1,Ab 14 13,Al 15 168 8 14,Bb 16 4 7 15,Ac 17 2 0,Ab 18 17,Aa 19 1,Ag 20 18 19 4,Aj 21 20 3,Ab 22 21,Bb 23 4 16 22,Ba 4 23] [4])<|.ret) [.tmp 4]:= by decide +kernel
theorem c168S (n:Nat) (ih_168:∀ (t:Types) (a:Int) (r:(List Attr)) (_:ref04_attrsF n t a=some r),Sound prog 168 [eTypes t,eI a] (.own (lA r))):∀ (t:Types) (a:Int) (r:(List Attr)) (_:ref04_attrsF (n+1) t a=some r),Sound prog 168 [eTypes t,eI a] (.own (lA r)):= by
 intro t a r h
 refine Fn ck168 fun hw=>?_
 unfold ref04_attrsF at h
 refine D<|F<|a3 rfl rfl<|f0<|E (kt<|kt<|kn) fun _=>?_
 refine D<|D<|F<|C rfl<|V rfl rfl<|E (kt<|kt<|kt<|kn) fun _=>?_
 refine T rfl (fun hc6=>?_) (fun hc6=>?_)
 ·replace h:=M hc6 h
  refine D<|F<|f0<|E (ko<|kn) fun _=>?_
  exact L (by cases h;rfl)
 ·replace h:=O hc6 h
  refine P (kt<|kt<|kn) fun _=>?_
  refine D<|d1 rfl<|d7 (e:=eAttr) (l:=[]) rfl rfl (fun _=>rfl)<|R rfl rfl (show _=eTypes t from rfl)<|K rfl<|J rfl<|C rfl ?_
  obtain ⟨x12,hx12,h⟩:=I h
  refine Z rfl rfl rfl hx12 rfl<|a8 rfl<|J rfl ?_
  obtain ⟨x15,hx15,h⟩:=I h
  refine g3 rfl (ih_168 t x12.Parent _ hx15) ?_
  obtain ⟨x16,hx16,h⟩:=I h
  refine e4 rfl rfl rfl rfl hx16 rfl<|K rfl<|J rfl<|C rfl ?_
  obtain ⟨x20,hx20,h⟩:=I h
  refine Z rfl rfl rfl hx20 rfl<|a8 rfl<|J rfl ?_
  obtain ⟨x23,hx23,h⟩:=I h
  refine e4 rfl rfl rfl rfl hx23 rfl<|e9 rfl<|E (ko<|kn) fun _=>?_
  exact L (by cases h;rfl)
theorem c168A:∀ n:Nat,(∀ (t:Types) (a:Int) (r:(List Attr)) (_:ref04_attrsF n t a=some r),Sound prog 168 [eTypes t,eI a] (.own (lA r))):=by
  intro n
  induction n with
  | zero=>intro t a r h; cases h
  | succ n ih=>exact c168S n ih
theorem c168 (t:Types) (a:Int) (r:(List Attr)) (h:ref04_attrs t a=some r):Sound prog 168 [eTypes t,eI a] (.own (lA r)):=by
  obtain ⟨N,hN⟩:=lim_some h
  exact (c168A N) t a r (hN N (Nat.le_refl _))
theorem ck213:CK f213 (Rq [Ad 2 0] [0]<|Sq (Rq [Aa 5 0,Ah 6 5,Bp 7 6 20] [0,7]<|Co 7 (Rq [Ad 2 3] [2]<|.ret)<|Sk [0])<|Sq (Rq [Ad 3 0] [0,3]<|Bl 0<|Lo [0,3]<|Sq (Rq [Aa 8 3,Aa 9 0,Ah 10 9,Aq 11 8 10] [0,3,11]<|Co 11 (Sk [0,3])<|Ex 0 [])<|Sq (Bl 1<|Sq (Rq [Aa 14 0,Aa 15 3,Ag 16 14 15 1,Ab 17 16,At 18 75 17,Ay 19 18] [0,3,19]<|Co 19 (Rq [Ad 2 2] [2]<|.ret)<|Sk [0,3])<|Rq [Ad 4 0] [0,3,4]<|Bl 2<|Lo [0,3,4]<|Sq (Rq [Aa 20 4,Aa 21 3,Aq 22 20 21] [0,3,4,22]<|Co 22 (Sk [0,3,4])<|Ex 2 [0,3])<|Sq (Bl 3<|Sq (Dr [25,26,27,28,29,30,31,32,33] [Aa 25 0,Aa 26 4,Ag 27 25 26 1,Ab 28 27,Aa 29 0,Aa 30 3,Ag 31 29 30 1,Ab 32 31,Cf 33 28 32] [0,3,4,33])<|Co 33 (Rq [Ad 2 5] [2]<|.ret)<|Sk [0,3,4])<|Re [Aa 23 4,Ap 24 23 1,Aa 4 24] [0,3,4])<|Re [Aa 12 3,Ap 13 12 1,Aa 3 13] [0,3])<|Rq [Ad 2 0] [2]<|.ret) [.tmp 2]:= by decide +kernel
theorem c213 (l:List ByteArray) (r:Int) (h:ref04_names l=some r):Sound prog 213 [lB l] (.sh (eI r)):= by
 refine Fn ck213 fun hw=>?_
 unfold ref04_names at h
 refine D<|F<|C rfl<|E (kt<|kn) fun _=>?_
 refine D<|D<|F<|C rfl<|U rfl rfl<|e7 rfl rfl<|E (kt<|kt<|kn) fun _=>?_
 refine T rfl (fun hc7=>?_) (fun hc7=>?_)
 ·replace h:=M hc7 h
  refine D<|F<|C rfl<|E (kt<|kn) fun _=>?_
  exact L (by cases h;rfl)
 ·replace h:=O hc7 h
  refine P (kt<|kn) fun _=>?_
  refine D<|D<|F<|C rfl<|E (kt<|kt<|kn) fun _=>?_
  obtain ⟨o0,ho0,h⟩:=d4 h
  refine e1 ho0 (fun (i0:Int) (_:Unit)=>[(0,.tv (lB l)),(3,.tv (eI i0))]) (fun (_:Unit)=>[]) (fun zv ze=>resIs ([.tmp 2]) (.sh (eI zv)) ze) rfl ?_ ?_ ?_ ?_
  ·clear h ho0
   intro i0 s0 r0 hi0 h hw0
   refine D<|D<|F<|C rfl<|C rfl<|U rfl rfl<|V rfl rfl<|E (kt<|kt<|kt<|kn) fun _=>?_
   refine b7 rfl (b8 hi0)<|P (kt<|kt<|kn) fun _=>?_
   refine D<|b0<|D<|D<|F<|C rfl<|C rfl ?_
   obtain ⟨x16,hx16,h⟩:=I h
   refine Z rfl rfl rfl hx16 rfl<|J rfl ?_
   obtain ⟨x18,hx18,h⟩:=I h
   refine S rfl (c75 x16 _ hx18)<|b6 rfl<|E (kt<|kt<|kt<|kn) fun _=>?_
   refine T rfl (fun hc19=>?_) (fun hc19=>?_)
   ·replace h:=M hc19 h
    refine D<|F<|C rfl<|E (kt<|kn) fun _=>?_
    refine L ?_
    cases h
    exact ⟨_,rfl,rfl⟩
   ·replace h:=O hc19 h
    refine P (kt<|kt<|kn) fun _=>?_
    refine D<|F<|C rfl<|E (kt<|kt<|kt<|kn) fun _=>?_
    obtain ⟨o2,ho2,h⟩:=d4 h
    refine e1 ho2 (fun (i2:Int) (_:Unit)=>[(0,.tv (lB l)),(3,.tv (eI i0)),(4,.tv (eI i2))]) (fun (_:Unit)=>[(0,.tv (lB l)),(3,.tv (eI i0))]) (fun zv ze=>resIs ([.tmp 2]) (.sh (eI zv)) ze) rfl ?_ ?_ ?_ ?_
    ·clear h ho2
     intro i2 s2 r2 hi2 h hw2
     refine D<|D<|F<|C rfl<|C rfl<|V rfl rfl<|E (kt<|kt<|kt<|kt<|kn) fun _=>?_
     refine b7 rfl (b8 hi2)<|P (kt<|kt<|kt<|kn) fun _=>?_
     refine D<|b0<|D<|d1 rfl<|C rfl<|C rfl ?_
     obtain ⟨x27,hx27,h⟩:=I h
     refine Z rfl rfl rfl hx27 rfl<|J rfl<|C rfl<|C rfl ?_
     obtain ⟨x31,hx31,h⟩:=I h
     refine Z rfl rfl rfl hx31 rfl<|J rfl<|g5 rfl rfl<|E (kt<|kt<|kt<|kt<|kn) fun _=>?_
     refine T rfl (fun hc33=>?_) (fun hc33=>?_)
     ·replace h:=M hc33 h
      refine D<|F<|C rfl<|E (kt<|kn) fun _=>?_
      refine L ?_
      cases h
      exact ⟨_,rfl,rfl⟩
     ·replace h:=O hc33 h
      refine P (kt<|kt<|kt<|kn) fun _=>?_
      refine F<|C rfl<|a6 rfl rfl<|C rfl<|E (kt<|kt<|kt<|kn) ?_
      cases h
      refine ⟨_,rfl,?_⟩
      rw [Ktv rfl (Ktv rfl (Ktv rfl (Knil _)))]
      rw [b4 (a5 (hw2 4)) hi2 (d3 (a5 (hw2 3)))]
      all_goals rfl
    ·intro i2 s2 hi2
     refine D<|D<|F<|C rfl<|C rfl<|V rfl rfl<|E (kt<|kt<|kt<|kt<|kn) fun _=>?_
     refine b9 rfl (d0 hi2)<|b3 (kt<|kt<|kn) ?_
     exact ⟨rfl,rfl⟩
    ·intro s2 hs
     replace h:=d5 h hs
     intro _
     refine F<|C rfl<|a6 rfl rfl<|C rfl<|E (kt<|kt<|kn) ?_
     cases h
     refine ⟨_,rfl,?_⟩
     rw [Ktv rfl (Ktv rfl (Knil _))]
     rw [b4 (a5 (hw0 3)) hi0 (f8 (a5 (hw0 0)) rfl)]
     all_goals rfl
    ·intro v2 ze hv hR
     replace h:=d6 h hv
     cases h
     exact ⟨_,rfl,hR⟩
  ·intro i0 s0 hi0
   refine D<|D<|F<|C rfl<|C rfl<|U rfl rfl<|V rfl rfl<|E (kt<|kt<|kt<|kn) fun _=>?_
   refine b9 rfl (d0 hi0)<|b3 (kn) ?_
   exact ⟨rfl,rfl⟩
  ·intro s0 hs
   replace h:=d5 h hs
   intro _
   refine D<|F<|C rfl<|E (kt<|kn) fun _=>?_
   exact L (by cases h;rfl)
  ·intro v0 ze hv hR
   replace h:=d6 h hv
   cases h
   exact hR
theorem ck171:CK f171 (Rq [Af 1 0,Ad 2 0] [1]<|Sq (Rq [Ac 4 1 3,Ab 5 4,Ah 6 5,Bh 7 6 0] [1,7]<|Co 7 (Sq (Rq [Ac 8 1 1,Ab 9 8,⟨some 10,.call 119 [.s 9,.c (.int .i64 (-1000000)),.c (.int .i64 1000000)],none⟩,Ay 11 10,Aa 12 11,Ar 13 1 2 12,As 14 13 12,Ar 15 1 1 12,As 16 15 12,Fj 17 119 14 16 1000000 12,Bq 18 17 12,Au 19 12 18] [19]<|Co 19 (Rq [Ad 2 6] [2]<|.ret)<|Sk [])<|Rq [Ad 2 0] [2]<|.ret)<|Sk [1])<|Sq (Rq [Ac 20 1 3,Ab 21 20,At 22 213 21,Aa 3 22] [1,3]<|Rq [Aa 23 3,Ax 24 23 0] [1,3,24]<|Co 24 (Rq [Aa 25 3,Aa 2 25] [2]<|.ret)<|Sk [1])<|Sq (Rq [Ac 26 1 1,Ab 27 26,Ax 28 27 0,Aa 29 28,Ar 30 1 2 29,As 31 30 29,Ar 32 1 3 29,As 33 32 29,Bd 34 33 29,Du 35 34 1 29,Cc 36 31 35 29,Au 37 29 36] [37]<|Co 37 (Rq [Ad 2 6] [2]<|.ret)<|Sk [])<|Rq [Ad 2 0] [2]<|.ret) [.tmp 2]:= by decide +kernel
theorem c171 (a:Attr) (r:Int) (h:ref04_attribute a=some r):Sound prog 171 [eAttr a] (.sh (eI r)):= by
 refine Fn ck171 fun hw=>?_
 unfold ref04_attribute at h
 refine D<|F<|a3 rfl rfl<|C rfl<|E (kt<|kn) fun _=>?_
 refine D<|D<|F<|K rfl<|J rfl<|U rfl rfl<|d2 rfl rfl<|E (kt<|kt<|kn) fun _=>?_
 refine T rfl (fun hc7=>?_) (fun hc7=>?_)
 ·replace h:=M hc7 h
  refine D<|D<|F<|K rfl<|J rfl ?_
  obtain ⟨x10,hx10,h⟩:=I h
  refine S rfl (c119 a.Low (-1000000) 1000000 _ hx10)<|b6 rfl<|C rfl ?_
  obtain ⟨x19,hx19,h⟩:=I h
  refine gX 7 [13,14,15,16,17,18] 19 x19 (!x10) (fun hg19=>?_) (fun hg19=>?_) ?_
  ·replace h:=M hg19 hx19
   cases h
   refine H rfl hg19<|H rfl hg19<|H rfl hg19<|H rfl hg19<|H rfl hg19<|H rfl hg19<|X rfl hg19 rfl ?_
   exact ⟨⟨_,_,_,_,_,_,rfl⟩⟩
  ·replace h:=O hg19 hx19
   refine G rfl hg19<|K rfl<|G rfl hg19<|J rfl<|G rfl hg19<|K rfl<|G rfl hg19<|J rfl ?_
   obtain ⟨x17,hx17,h⟩:=I h
   refine G rfl hg19<|S rfl (c119 a.High a.Low 1000000 _ hx17)<|G rfl hg19<|b6 rfl ?_
   cases h
   refine Y rfl hg19 rfl ?_
   exact ⟨⟨_,_,_,_,_,_,rfl⟩⟩
  rintro _ ⟨_,_,_,_,_,_,rfl⟩
  refine E (kt<|kn) fun _=>?_
  refine T rfl (fun hc19=>?_) (fun hc19=>?_)
  ·replace h:=M hc19 h
   refine D<|F<|C rfl<|E (kt<|kn) fun _=>?_
   exact L (by cases h;rfl)
  ·replace h:=O hc19 h
   refine P (kn) fun _=>?_
   refine D<|F<|C rfl<|E (kt<|kn) fun _=>?_
   exact L (by cases h;rfl)
 ·replace h:=O hc7 h
  refine P (kt<|kn) fun _=>?_
  refine D<|D<|F<|K rfl<|J rfl ?_
  obtain ⟨x22,hx22,h⟩:=I h
  refine S rfl (c213 a.Names _ hx22)<|C rfl<|E (kt<|kt<|kn) fun _=>?_
  refine D<|F<|C rfl<|b1 rfl rfl<|E (kt<|kt<|kt<|kn) fun _=>?_
  refine T rfl (fun hc24=>?_) (fun hc24=>?_)
  ·replace h:=M hc24 h
   refine D<|F<|C rfl<|C rfl<|E (kt<|kn) fun _=>?_
   exact L (by cases h;rfl)
  ·replace h:=O hc24 h
   refine P (kt<|kn) fun _=>?_
   refine D<|D<|F<|K rfl<|J rfl<|b1 rfl rfl<|C rfl ?_
   refine gO 8 [30,31,32,33,34,35,36] 37 (!decide (a.Low=0)) (!decide (a.High=(w64 ((a.Names.length:Int) - 1)))) (fun hg37=>?_) (fun hg37=>?_) ?_
   ·refine H rfl hg37<|H rfl hg37<|H rfl hg37<|H rfl hg37<|H rfl hg37<|H rfl hg37<|H rfl hg37<|X rfl hg37 rfl ?_
    exact ⟨⟨_,_,_,_,_,_,_,rfl⟩⟩
   ·refine G rfl hg37<|K rfl<|G rfl hg37<|J rfl<|G rfl hg37<|K rfl<|G rfl hg37<|J rfl<|G rfl hg37<|U rfl rfl<|G rfl hg37<|f6 rfl rfl<|G rfl hg37<|b1 rfl rfl<|Y rfl hg37 rfl ?_
    exact ⟨⟨_,_,_,_,_,_,_,rfl⟩⟩
   rintro _ ⟨_,_,_,_,_,_,_,rfl⟩
   refine E (kt<|kn) fun _=>?_
   refine T rfl (fun hc37=>?_) (fun hc37=>?_)
   ·replace h:=M hc37 h
    refine D<|F<|C rfl<|E (kt<|kn) fun _=>?_
    exact L (by cases h;rfl)
   ·replace h:=O hc37 h
    refine P (kn) fun _=>?_
    refine D<|F<|C rfl<|E (kt<|kn) fun _=>?_
    exact L (by cases h;rfl)
end Go.Sf.Sc
