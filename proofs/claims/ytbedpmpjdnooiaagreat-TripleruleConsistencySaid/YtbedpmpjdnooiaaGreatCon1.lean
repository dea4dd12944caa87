/- Contracts of the functions. -/
import Derived.Test.YtbedpmpjdnooiaaGreatCon0
import Derived.Test.YtbedpmpjdnooiaaGreatTryzShelf
set_option maxRecDepth 100000
namespace Go.Sf.Sc
open Go Go.Sf Go.Proofs.Tryz
theorem ck162:CK f162 (Rq [Ai 4] [0,1,2]<|Rq [Ac 6 1 1,Ab 7 6,Aa 8 0,Ah 9 7 8 3,Ae 10 9 3,Cd 5 0 0 0,Ak 3 5 10] [1,2,5]<|Sq (Dr [4,11,12,13,14,15,16,17,18,19,20,21,22,23,24,25,26,27] [Ae 11 2 2,Ac 12 5 0,Ab 13 12,Ac 14 1 0,Ab 15 14,Ac 16 5 1,Ab 17 16,Ah 18 15 17 1,Ab 19 18,Ac 20 1 0,Ab 21 20,Ac 22 5 2,Ab 23 22,Ah 24 21 23 1,Ab 25 24,Cg 26 56 11 13 19 25,Ay 27 26,Aa 4 27] [4])<|.ret) [.tmp 4]:= by decide +kernel
theorem c162 (i_0:Int) (c0:Graph) (c1:Types) (r:Bool) (h:rule_makable_2 i_0 c0 c1=some r):Sound prog 162 [eI i_0,.pt (eGraph c0).cells,.pt (eTypes c1).cells] (.sh (eB r)):= by
 refine Fn ck162 fun hw=>?_
 unfold rule_makable_2 at h
 refine D<|F<|C rfl<|E (kt<|kt<|kt<|kn) fun _=>?_
 refine D<|F<|K rfl<|I rfl<|C rfl ?_
 obtain ⟨x9,hx9,h⟩:=J h
 refine a2 rfl rfl rfl hx9 rfl<|R rfl rfl (show _=eEdge x9 from rfl)<|b1 rfl<|a9 rfl rfl rfl rfl rfl<|E (kt<|kt<|kb<|kn) fun _=>?_
 refine D<|d4 rfl<|R rfl rfl (show _=eTypes c1 from rfl)<|a3 rfl<|I rfl<|K rfl<|I rfl<|a3 rfl<|I rfl ?_
 obtain ⟨x18,hx18,h⟩:=J h
 refine a2 rfl rfl rfl hx18 rfl<|I rfl<|K rfl<|I rfl<|a3 rfl<|I rfl ?_
 obtain ⟨x24,hx24,h⟩:=J h
 refine a2 rfl rfl rfl hx24 rfl<|I rfl ?_
 obtain ⟨x26,hx26,h⟩:=J h
 refine W rfl (c56 c1 x9.Type' x18 x24 _ hx26)<|b7 rfl<|C rfl<|E (kt<|kn) fun _=>?_
 exact L (by cases h;rfl)
theorem ck102:CK f102 (Rq [Af 4 0,Af 5 1,Ai 8] [2,3,4,5]<|Rq [Aa 9 2,⟨some 10,.clo 161 [.s 4,.s 5],none⟩,An 11 30 9 10,Ay 12 11,Aa 13 12,As 14 3 13,⟨some 15,.clo 162 [.s 5,.s 4],some (13,true)⟩,Bv 16 30 14 15 13,Em 17 16 13,Aq 18 13 17,Aa 8 18] [8]<|.ret) [.tmp 8]:= by decide +kernel
theorem c102 (t:Types) (g:Graph) (nodes:List Int) (edges:List Int) (r:Bool) (h:rule_makable t g nodes edges=some r):Sound prog 102 [eTypes t,eGraph g,lI nodes,lI edges] (.sh (eB r)):= by
 refine Fn ck102 fun hw=>?_
 unfold rule_makable at h
 refine D<|F<|a1 rfl rfl<|a1 rfl rfl<|C rfl<|E (kt<|kt<|kt<|kt<|kn) fun _=>?_
 refine D<|F<|C rfl<|g2 rfl ?_
 obtain ⟨x11,hx11,h⟩:=J h
 refine W rfl (c30 nodes (fun y0=>rule_makable_1 y0 t g) _ _ (fun y0 r h=>c161 y0 t g r h) _ hx11)<|b7 rfl<|C rfl ?_
 obtain ⟨x18,hx18,h⟩:=J h
 refine gX 5 [14,15,16,17] 18 x18 (!x11) (fun hg18=>?_) (fun hg18=>?_) ?_
 ·replace h:=M hg18 hx18
  refine G rfl hg18<|C rfl<|G rfl hg18<|g2 rfl ?_
  obtain ⟨x16,hx16,h⟩:=J h
  refine G rfl hg18<|W rfl (c30 edges (fun y0=>rule_makable_2 y0 g t) _ _ (fun y0 r h=>c162 y0 g t r h) _ hx16)<|G rfl hg18<|b7 rfl ?_
  cases h
  refine Z rfl hg18 rfl ?_
  exact ⟨⟨_,_,_,_,rfl⟩⟩
 ·replace h:=O hg18 hx18
  cases h
  refine H rfl hg18<|H rfl hg18<|H rfl hg18<|H rfl hg18<|a0 rfl hg18 rfl ?_
  exact ⟨⟨_,_,_,_,rfl⟩⟩
 rintro _ ⟨_,_,_,_,rfl⟩
 refine C rfl<|E (kt<|kn) fun _=>?_
 exact L (by cases h;rfl)
theorem ck243:CK f243 (Rq [Af 1 0,Ai 2] [1]<|Rq [Ac 4 1 4,Ae 5 4 5,Ec 3 1 3 4 0 5,Ak 5 3 5] [1,3]<|Rq [Ac 6 1 2,Aj 7 6 0,Ab 8 7,Ag 9 8,Ac 10 1 2,Aj 11 10 1,Ab 12 11,Ag 13 12,Bn 14 9 13,Ac 15 3 0,Aj 16 15 0,Ab 17 16,Ag 18 17,Bn 19 14 18,Ac 20 3 0,Aj 21 20 1,Ab 22 21,Ag 23 22,Bn 24 19 23,Ac 25 3 2,Ab 26 25,Ag 27 26,Bn 28 24 27,Ac 29 3 4,Ab 30 29,Ag 31 30,Bn 32 28 31,Be 33 32 0,Aa 34 33,Av 35 3 3 34,Aw 36 35 34,Cs 37 36 0 34,Aq 38 34 37,Aa 2 38] [2]<|.ret) [.tmp 2]:= by decide +kernel
theorem c243 (c:Condition) (r:Bool) (h:condition_bare c=some r):Sound prog 243 [eCondition c] (.sh (eB r)):= by
 refine Fn ck243 fun hw=>?_
 unfold condition_bare at h
 refine D<|F<|a1 rfl rfl<|C rfl<|E (kt<|kn) fun _=>?_
 refine D<|F<|K rfl<|R rfl rfl (show _=ePattern c.Pattern from rfl)<|b1 rfl<|a9 rfl rfl rfl rfl rfl<|E (kt<|kb<|kn) fun _=>?_
 refine D<|F<|K rfl<|a6 rfl<|I rfl<|V rfl rfl<|K rfl<|a6 rfl<|I rfl<|V rfl rfl<|a5 rfl rfl<|a3 rfl<|f3 rfl rfl<|I rfl<|V rfl rfl<|a5 rfl rfl<|a3 rfl<|f3 rfl rfl<|I rfl<|V rfl rfl<|a5 rfl rfl<|a3 rfl<|I rfl<|V rfl rfl<|a5 rfl rfl<|a3 rfl<|I rfl<|V rfl rfl<|a5 rfl rfl<|b8 rfl rfl ?_
 refine C rfl ?_
 refine gA 4 [35,36,37] 38 (decide ((w64 ((w64 ((w64 ((w64 ((w64 ((c.Map.Nodes.length:Int)+(c.Map.Edges.length:Int)))+(c.Pattern.Graph.Nodes.length:Int)))+(c.Pattern.Graph.Edges.length:Int)))+(c.Pattern.Slots.length:Int)))+(c.Pattern.Tests.length:Int)))=0)) (decide (c.Pattern.Vars=0)) (fun hg38=>?_) (fun hg38=>?_) ?_
 ·refine G rfl hg38<|a3 rfl<|G rfl hg38<|I rfl<|G rfl hg38<|b8 rfl rfl<|Z rfl hg38 rfl ?_
  exact ⟨⟨_,_,_,rfl⟩⟩
 ·refine H rfl hg38<|H rfl hg38<|H rfl hg38<|a0 rfl hg38 rfl ?_
  exact ⟨⟨_,_,_,rfl⟩⟩
 rintro _ ⟨_,_,_,rfl⟩
 refine C rfl<|E (kt<|kn) fun _=>?_
 exact L (by cases h;rfl)
theorem ck257:CK f257 (Rq [Ad 4 0] [0,1]<|Sq (Rq [Aa 6 0,Ag 7 6,Ad 8 0] [0,1,7,8]<|Bl 0<|Lo [0,1,7,8]<|Rq [Ap 9 8 7] [0,1,7,8,9]<|Sq (Co 9 (Sk [0,1,7,8])<|Ex 0 [])<|Sq (Bl 1<|Rq [Aa 10 8,Aa 5 10] [0,1,5,7,8]<|Rq [Aa 11 1,Aa 12 0,Aa 13 5,Ah 14 12 13 9,Ae 15 14 9,Ch 16 11 15] [0,1,5,7,8,16]<|Co 16 (Rq [Aa 17 5,Aa 4 17] [4]<|.ret)<|Sk [0,1,7,8])<|Re [Ao 18 8 1,Aa 8 18] [0,1,7,8])<|Rq [Ce 4 (-1)] [4]<|.ret) [.tmp 4]:= by decide +kernel
theorem c257 (s_0:List Condition) (f:Condition->Option Bool) (f_f:FuncId) (k_f:List TV) (h_f:∀ (y0:Condition) r,f y0=some r->Sound prog f_f ([eCondition y0]++k_f) (.sh (eB r))) (r:Int) (h:slices_IndexFunc_Condition s_0 f=some r):Sound prog 257 [eLCondition s_0,.clo f_f k_f] (.sh (eI r)):= by
 refine Fn ck257 fun hw=>?_
 unfold slices_IndexFunc_Condition at h
 refine D<|F<|C rfl<|E (kt<|kt<|kn) fun _=>?_
 refine D<|D<|F<|C rfl<|V rfl (eLCondition_eq _)<|C rfl<|E (kt<|kt<|kt<|kt<|kn) fun _=>?_
 obtain ⟨o0,ho0,h⟩:=d0 h
 refine d5 ho0 (fun (i0:Int) (_:Unit)=>[(0,.tv (eLCondition s_0)),(1,.tv (.clo f_f k_f)),(7,.tv (eI (s_0.length:Int))),(8,.tv (eI i0))]) (fun (_:Unit)=>[]) (fun zv ze=>resIs ([.tmp 4]) (.sh (eI zv)) ze) rfl ?_ ?_ ?_ ?_
 ·clear h ho0
  intro i0 s0 r0 hi0 h hw0
  refine D<|F<|X rfl rfl<|E (kt<|kt<|kt<|kt<|kt<|kn) fun _=>?_
  refine D<|b3 rfl (b4 hi0)<|P (kt<|kt<|kt<|kt<|kn) fun _=>?_
  refine D<|a8<|D<|F<|C rfl<|C rfl<|E (kt<|kt<|kt<|kt<|kt<|kn) fun _=>?_
  refine D<|F<|C rfl<|C rfl<|C rfl ?_
  obtain ⟨x14,hx14,h⟩:=J h
  refine a2 rfl rfl (eLCondition_eq _) hx14 rfl<|R rfl rfl (show _=eCondition x14 from rfl) ?_
  obtain ⟨x16,hx16,h⟩:=J h
  refine g6 rfl rfl (h_f _ _ hx16)<|E (kt<|kt<|kt<|kt<|kt<|kt<|kn) fun _=>?_
  refine U rfl (fun hc16=>?_) (fun hc16=>?_)
  ·replace h:=M hc16 h
   refine D<|F<|C rfl<|C rfl<|E (kt<|kn) fun _=>?_
   refine L ?_
   cases h
   exact ⟨_,rfl,rfl⟩
  ·replace h:=O hc16 h
   refine P (kt<|kt<|kt<|kt<|kn) fun _=>?_
   refine F<|a5 rfl rfl<|C rfl<|E (kt<|kt<|kt<|kt<|kn) ?_
   cases h
   refine ⟨_,rfl,?_⟩
   rw [Ktv rfl (Ktv rfl (Ktv rfl (Ktv rfl (Knil _))))]
   rw [b2 (a4 (hw0 8)) hi0 (d9 (a4 (hw0 7)))]
   all_goals rfl
 ·intro i0 s0 hi0
  refine D<|F<|X rfl rfl<|E (kt<|kt<|kt<|kt<|kt<|kn) fun _=>?_
  refine D<|b5 rfl (b6 hi0)<|b0 (kn) ?_
  exact ⟨rfl,rfl⟩
 ·intro s0 hs
  replace h:=d1 h hs
  intro _
  refine D<|F<|C rfl<|E (kt<|kn) fun _=>?_
  exact L (by cases h;rfl)
 ·intro v0 ze hv hR
  replace h:=d2 h hv
  cases h
  exact hR
theorem ck244:CK f244 (Rq [Ai 4] [0,1]<|Rq [Aa 5 0,Aa 6 1,An 7 257 5 6,Bo 8 7 0,Aa 4 8] [4]<|.ret) [.tmp 4]:= by decide +kernel
theorem c244 (s_0:List Condition) (f:Condition->Option Bool) (f_f:FuncId) (k_f:List TV) (h_f:∀ (y0:Condition) r,f y0=some r->Sound prog f_f ([eCondition y0]++k_f) (.sh (eB r))) (r:Bool) (h:slices_ContainsFunc_Condition s_0 f=some r):Sound prog 244 [eLCondition s_0,.clo f_f k_f] (.sh (eB r)):= by
 refine Fn ck244 fun hw=>?_
 unfold slices_ContainsFunc_Condition at h
 refine D<|F<|C rfl<|E (kt<|kt<|kn) fun _=>?_
 refine D<|F<|C rfl<|C rfl ?_
 obtain ⟨x7,hx7,h⟩:=J h
 refine W rfl (c257 s_0 f _ _ h_f _ hx7)<|d6 rfl rfl<|C rfl<|E (kt<|kn) fun _=>?_
 exact L (by cases h;rfl)
theorem ck209:CK f209 (Rq [Af 1 0,Ai 2] [1]<|Rq [Ac 5 1 1,Ab 6 5,Ag 7 6,Aa 3 7] [1,3]<|Rq [Ai 4] [1,3,4]<|Sq (Rq [Ac 8 1 0,Ab 9 8] [1,3,4,9]<|Bl 0<|Rq [Be 11 9 1,Aa 10 11] [1,3,4,9,10]<|Co 10 (Re [Aa 12 3,Be 13 12 0,Aa 14 13,Bj 15 1 9 14,Bz 16 243 15 14,Aq 17 14 16,Aa 4 17] [1,4])<|Rq [Be 19 9 2,Aa 18 19] [1,3,4,9,18]<|Co 18 (Re [Aa 20 3,Be 21 20 1,Aa 22 21,Bj 23 1 9 22,Bz 24 243 23 22,Aq 25 22 24,Aa 4 25] [1,4])<|Sq (Rq [Be 27 9 3,Aa 26 27] [1,3,4,9,26]<|Co 26 (Sk [1,3,4,9,26])<|Re [Be 28 9 4,Aa 26 28] [1,3,4,9,26])<|Co 26 (Re [Aa 29 3,Bo 30 29 1,Aa 31 30,Bj 32 1 9 31,Bz 33 243 32 31,Aq 34 31 33,Aa 4 34] [1,4])<|Rq [Be 36 9 5,Aa 35 36] [1,3,4,35]<|Co 35 (Re [Aa 37 3,Be 38 37 1,Aa 4 38] [1,4])<|Sk [1,4])<|Rq [Aa 39 4,Aa 40 39,Av 41 1 1 40,Aw 42 41 40,⟨some 43,.call 244 [.s 42,.c (.clo 245 [])],some (40,true)⟩,Em 44 43 40,Aq 45 40 44,Aa 2 45] [2]<|.ret) [.tmp 2]:= by decide +kernel
theorem ck245:CK f245 (Rq [Af 1 0,Ai 2] [1]<|Rq [Ae 3 1 9,Au 4 209 3,Ay 5 4,Aa 2 5] [2]<|.ret) [.tmp 2]:= by decide +kernel
theorem c209S (n:Nat) (ih_209:∀ (c:Condition) (r:Bool) (_:condition_wellFormedF n c=some r),Sound prog 209 [eCondition c] (.sh (eB r))) (ih_245:∀ (k:Condition) (r:Bool) (_:condition_wellFormed_1F n k=some r),Sound prog 245 [eCondition k] (.sh (eB r))):∀ (c:Condition) (r:Bool) (_:condition_wellFormedF (n+1) c=some r),Sound prog 209 [eCondition c] (.sh (eB r)):= by
 intro c r h
 refine Fn ck209 fun hw=>?_
 unfold condition_wellFormedF at h
 refine D<|F<|a1 rfl rfl<|C rfl<|E (kt<|kn) fun _=>?_
 refine D<|F<|K rfl<|I rfl<|V rfl (eLCondition_eq _)<|C rfl<|E (kt<|kt<|kn) fun _=>?_
 refine D<|F<|C rfl<|E (kt<|kt<|kt<|kn) fun _=>?_
 refine D<|D<|F<|K rfl<|I rfl<|E (kt<|kt<|kt<|kt<|kn) fun _=>?_
 refine a8<|D<|F<|b8 rfl rfl<|C rfl<|E (kt<|kt<|kt<|kt<|kt<|kn) fun _=>?_
 obtain ⟨w1,hw1,h⟩:=J h
 refine g9 (fun ze=>ze=[(1,.tv (.pt (eCondition c).cells)),(4,.tv (eB w1))]) ?_ ?_
 ·replace h:=hw1
  clear hw1
  refine U rfl (fun hc10=>?_) (fun hc10=>?_)
  ·replace h:=M hc10 h
   refine F<|C rfl<|b8 rfl rfl<|C rfl ?_
   obtain ⟨x17,hx17,h⟩:=J h
   refine gX 3 [15,16] 17 x17 (decide ((c.Kids.length:Int)=0)) (fun hg17=>?_) (fun hg17=>?_) ?_
   ·replace h:=M hg17 hx17
    refine G rfl hg17<|R rfl rfl (show _=eCondition c from rfl) ?_
    obtain ⟨x16,hx16,h⟩:=J h
    refine G rfl hg17<|W rfl (c243 c _ hx16) ?_
    cases h
    refine Z rfl hg17 rfl ?_
    exact ⟨⟨_,_,rfl⟩⟩
   ·replace h:=O hg17 hx17
    cases h
    refine H rfl hg17<|H rfl hg17<|a0 rfl hg17 rfl ?_
    exact ⟨⟨_,_,rfl⟩⟩
   rintro _ ⟨_,_,rfl⟩
   refine C rfl<|E (kt<|kt<|kn) ?_
   cases h
   exact rfl
  ·replace h:=O hc10 h
   refine D<|F<|b8 rfl rfl<|C rfl<|E (kt<|kt<|kt<|kt<|kt<|kn) fun _=>?_
   refine U rfl (fun hc18=>?_) (fun hc18=>?_)
   ·replace h:=M hc18 h
    refine F<|C rfl<|b8 rfl rfl<|C rfl ?_
    obtain ⟨x25,hx25,h⟩:=J h
    refine gX 3 [23,24] 25 x25 (decide ((c.Kids.length:Int)=1)) (fun hg25=>?_) (fun hg25=>?_) ?_
    ·replace h:=M hg25 hx25
     refine G rfl hg25<|R rfl rfl (show _=eCondition c from rfl) ?_
     obtain ⟨x24,hx24,h⟩:=J h
     refine G rfl hg25<|W rfl (c243 c _ hx24) ?_
     cases h
     refine Z rfl hg25 rfl ?_
     exact ⟨⟨_,_,rfl⟩⟩
    ·replace h:=O hg25 hx25
     cases h
     refine H rfl hg25<|H rfl hg25<|a0 rfl hg25 rfl ?_
     exact ⟨⟨_,_,rfl⟩⟩
    rintro _ ⟨_,_,rfl⟩
    refine C rfl<|E (kt<|kt<|kn) ?_
    cases h
    exact rfl
   ·replace h:=O hc18 h
    refine D<|D<|F<|b8 rfl rfl<|C rfl<|E (kt<|kt<|kt<|kt<|kt<|kn) fun _=>?_
    refine U rfl (fun hc26=>?_) (fun hc26=>?_)
    ·replace h:=M hc26 h
     refine P (kt<|kt<|kt<|kt<|kt<|kn) fun _=>?_
     refine U rfl (fun hc26=>?_) (fun hc26=>?_)
     ·replace h:=M hc26 h
      refine F<|C rfl<|d6 rfl rfl<|C rfl ?_
      obtain ⟨x34,hx34,h⟩:=J h
      refine gX 3 [32,33] 34 x34 (decide (1<=(c.Kids.length:Int))) (fun hg34=>?_) (fun hg34=>?_) ?_
      ·replace h:=M hg34 hx34
       refine G rfl hg34<|R rfl rfl (show _=eCondition c from rfl) ?_
       obtain ⟨x33,hx33,h⟩:=J h
       refine G rfl hg34<|W rfl (c243 c _ hx33) ?_
       cases h
       refine Z rfl hg34 rfl ?_
       exact ⟨⟨_,_,rfl⟩⟩
      ·replace h:=O hg34 hx34
       cases h
       refine H rfl hg34<|H rfl hg34<|a0 rfl hg34 rfl ?_
       exact ⟨⟨_,_,rfl⟩⟩
      rintro _ ⟨_,_,rfl⟩
      refine C rfl<|E (kt<|kt<|kn) ?_
      cases h
      exact rfl
     ·replace h:=O hc26 h
      refine D<|F<|b8 rfl rfl<|C rfl<|E (kt<|kt<|kt<|kt<|kn) fun _=>?_
      refine U rfl (fun hc35=>?_) (fun hc35=>?_)
      ·replace h:=M hc35 h
       refine F<|C rfl<|b8 rfl rfl<|C rfl<|E (kt<|kt<|kn) ?_
       cases h
       exact rfl
      ·replace h:=O hc35 h
       refine P (kt<|kt<|kn) ?_
       cases h
       exact rfl
    ·replace h:=O hc26 h
     refine F<|b8 rfl rfl<|C rfl<|E (kt<|kt<|kt<|kt<|kt<|kn) fun _=>?_
     refine U rfl (fun hc26=>?_) (fun hc26=>?_)
     ·replace h:=M hc26 h
      refine F<|C rfl<|d6 rfl rfl<|C rfl ?_
      obtain ⟨x34,hx34,h⟩:=J h
      refine gX 3 [32,33] 34 x34 (decide (1<=(c.Kids.length:Int))) (fun hg34=>?_) (fun hg34=>?_) ?_
      ·replace h:=M hg34 hx34
       refine G rfl hg34<|R rfl rfl (show _=eCondition c from rfl) ?_
       obtain ⟨x33,hx33,h⟩:=J h
       refine G rfl hg34<|W rfl (c243 c _ hx33) ?_
       cases h
       refine Z rfl hg34 rfl ?_
       exact ⟨⟨_,_,rfl⟩⟩
      ·replace h:=O hg34 hx34
       cases h
       refine H rfl hg34<|H rfl hg34<|a0 rfl hg34 rfl ?_
       exact ⟨⟨_,_,rfl⟩⟩
      rintro _ ⟨_,_,rfl⟩
      refine C rfl<|E (kt<|kt<|kn) ?_
      cases h
      exact rfl
     ·replace h:=O hc26 h
      refine D<|F<|b8 rfl rfl<|C rfl<|E (kt<|kt<|kt<|kt<|kn) fun _=>?_
      refine U rfl (fun hc35=>?_) (fun hc35=>?_)
      ·replace h:=M hc35 h
       refine F<|C rfl<|b8 rfl rfl<|C rfl<|E (kt<|kt<|kn) ?_
       cases h
       exact rfl
      ·replace h:=O hc35 h
       refine P (kt<|kt<|kn) ?_
       cases h
       exact rfl
 rintro _ rfl
 intro _
 refine D<|F<|C rfl<|C rfl ?_
 obtain ⟨x45,hx45,h⟩:=J h
 refine gX 5 [41,42,43,44] 45 x45 w1 (fun hg45=>?_) (fun hg45=>?_) ?_
 ·replace h:=M hg45 hx45
  refine G rfl hg45<|K rfl<|G rfl hg45<|I rfl ?_
  obtain ⟨x43,hx43,h⟩:=J h
  refine G rfl hg45<|W rfl (c244 c.Kids (condition_wellFormed_1F n) _ _ (fun y0 r h=>ih_245 y0 r h) _ hx43)<|G rfl hg45<|b7 rfl ?_
  cases h
  refine Z rfl hg45 rfl ?_
  exact ⟨⟨_,_,_,_,rfl⟩⟩
 ·replace h:=O hg45 hx45
  cases h
  refine H rfl hg45<|H rfl hg45<|H rfl hg45<|H rfl hg45<|a0 rfl hg45 rfl ?_
  exact ⟨⟨_,_,_,_,rfl⟩⟩
 rintro _ ⟨_,_,_,_,rfl⟩
 refine C rfl<|E (kt<|kn) fun _=>?_
 exact L (by cases h;rfl)
theorem c245S (n:Nat) (ih_209:∀ (c:Condition) (r:Bool) (_:condition_wellFormedF n c=some r),Sound prog 209 [eCondition c] (.sh (eB r))) (ih_245:∀ (k:Condition) (r:Bool) (_:condition_wellFormed_1F n k=some r),Sound prog 245 [eCondition k] (.sh (eB r))):∀ (k:Condition) (r:Bool) (_:condition_wellFormed_1F (n+1) k=some r),Sound prog 245 [eCondition k] (.sh (eB r)):= by
 intro k r h
 refine Fn ck245 fun hw=>?_
 unfold condition_wellFormed_1F at h
 refine D<|F<|a1 rfl rfl<|C rfl<|E (kt<|kn) fun _=>?_
 refine D<|F<|R rfl rfl (show _=eCondition k from rfl) ?_
 obtain ⟨x4,hx4,h⟩:=J h
 refine W rfl (ih_209 k _ hx4)<|b7 rfl<|C rfl<|E (kt<|kn) fun _=>?_
 exact L (by cases h;rfl)
theorem c209A:∀ n:Nat,(∀ (c:Condition) (r:Bool) (_:condition_wellFormedF n c=some r),Sound prog 209 [eCondition c] (.sh (eB r)))∧(∀ (k:Condition) (r:Bool) (_:condition_wellFormed_1F n k=some r),Sound prog 245 [eCondition k] (.sh (eB r))):=by
  intro n
  induction n with
  | zero=>exact ⟨(by intro c r h; cases h),(by intro k r h; cases h)⟩
  | succ n ih=>exact ⟨c209S n ih.1 ih.2,c245S n ih.1 ih.2⟩
theorem c209 (c:Condition) (r:Bool) (h:condition_wellFormed c=some r):Sound prog 209 [eCondition c] (.sh (eB r)):=by
  obtain ⟨N,hN⟩:=lim_some h
  exact (c209A N).1 c r (hN N (Nat.le_refl _))
theorem ck210:CK f210 (Rq [Af 1 0,Ad 2 0,Ad 3 0] [1]<|Rq [Ad 4 1,Ad 5 0] [1,4,5]<|Sq (Rq [Ac 10 1 1,Ab 11 10,Ag 12 11,Ad 13 0] [1,4,5,11,12,13]<|Bl 0<|Lo [1,4,5,11,12,13]<|Rq [Ap 14 13 12] [1,4,5,11,12,13,14]<|Sq (Co 14 (Sk [1,4,5,11,12,13])<|Ex 0 [1,4,5])<|Sq (Bl 1<|Rq [Ah 15 11 13 9,Ae 16 15 9,Fe 7 0 9 1 1 1 3 4 0 5,Ak 9 7 16] [1,4,5,7,11,12,13]<|Rq [Ae 18 7 9,Au 19 210 18,Aa 17 19,At 20 17 0,At 21 17 1,Aa 8 20,Aa 9 21] [1,4,5,8,9,11,12,13]<|Re [Aa 22 4,Aa 23 8,Bn 24 22 23,Aa 25 5,Aa 26 9,⟨some 27,.mm true (.s 25) (.s 26),none⟩,Aa 4 24,Aa 5 27] [1,4,5,11,12,13])<|Re [Ao 28 13 1,Aa 13 28] [1,4,5,11,12,13])<|Sq (Rq [Ac 29 1 0,Ab 30 29,Be 31 30 5] [4,5,31]<|Co 31 (Re [Aa 32 5,Ao 33 32 1,Aa 5 33] [4,5])<|Sk [4,5])<|Rq [Aa 34 4,Aa 35 5,Aa 2 34,Aa 3 35] [2,3]<|.ret) [.tmp 2,.tmp 3]:= by decide +kernel
theorem c210S (n:Nat) (ih_210:∀ (c:Condition) (r:(Int × Int)) (_:condition_measureF n c=some r),Sound prog 210 [eCondition c] (.tp [eI r.1,eI r.2])):∀ (c:Condition) (r:(Int × Int)) (_:condition_measureF (n+1) c=some r),Sound prog 210 [eCondition c] (.tp [eI r.1,eI r.2]):= by
 intro c r h
 refine Fn ck210 fun hw=>?_
 unfold condition_measureF at h
 refine D<|F<|a1 rfl rfl<|C rfl<|C rfl<|E (kt<|kn) fun _=>?_
 refine D<|F<|C rfl<|C rfl<|E (kt<|kt<|kt<|kn) fun _=>?_
 refine D<|D<|F<|K rfl<|I rfl<|V rfl (eLCondition_eq _)<|C rfl<|E (kt<|kt<|kt<|kt<|kt<|kt<|kn) fun _=>?_
 obtain ⟨s0,hs0,h⟩:=J h
 refine f8 hs0 (fun (i0:Int) (s0:Int × Int)=>[(1,.tv (.pt (eCondition c).cells)),(4,.tv (eI s0.1)),(5,.tv (eI s0.2)),(11,.tv (eLCondition c.Kids)),(12,.tv (eI (c.Kids.length:Int))),(13,.tv (eI i0))]) (fun (s0:Int × Int)=>[(1,.tv (.pt (eCondition c).cells)),(4,.tv (eI s0.1)),(5,.tv (eI s0.2))]) rfl ?_ ?_ ?_
 ·clear h hs0
  intro i0 s0 r0 hi0 h hw0
  refine D<|F<|X rfl rfl<|E (kt<|kt<|kt<|kt<|kt<|kt<|kt<|kn) fun _=>?_
  refine D<|b3 rfl (b4 hi0)<|P (kt<|kt<|kt<|kt<|kt<|kt<|kn) fun _=>?_
  refine D<|a8<|D<|F ?_
  obtain ⟨x15,hx15,h⟩:=J h
  refine a2 rfl rfl (eLCondition_eq _) hx15 rfl<|R rfl rfl (show _=eCondition x15 from rfl)<|b1 rfl<|a9 rfl rfl rfl rfl rfl<|E (kt<|kt<|kt<|kb<|kt<|kt<|kt<|kn) fun _=>?_
  refine D<|F<|R rfl rfl (show _=eCondition x15 from rfl) ?_
  obtain ⟨x19,hx19,h⟩:=J h
  refine e6 rfl (ih_210 x15 _ hx19)<|e8 rfl<|b9 rfl rfl<|b9 rfl rfl<|C rfl<|C rfl<|E (kt<|kt<|kt<|kt<|kt<|kt<|kt<|kt<|kn) fun _=>?_
  refine F<|C rfl<|C rfl<|a5 rfl rfl<|C rfl<|C rfl<|p6 rfl rfl<|C rfl<|C rfl<|E (kt<|kt<|kt<|kt<|kt<|kt<|kn) fun _=>?_
  refine F<|a5 rfl rfl<|C rfl<|E (kt<|kt<|kt<|kt<|kt<|kt<|kn) ?_
  cases h
  show Env.keep _ _=_
  rw [Ktv rfl (Ktv rfl (Ktv rfl (Ktv rfl (Ktv rfl (Ktv rfl (Knil _))))))]
  rw [b2 (a4 (hw0 13)) hi0 (d9 (a4 (hw0 12)))]
  all_goals rfl
 ·intro i0 s0 hi0
  refine D<|F<|X rfl rfl<|E (kt<|kt<|kt<|kt<|kt<|kt<|kt<|kn) fun _=>?_
  refine D<|b5 rfl (b6 hi0)<|b0 (kt<|kt<|kt<|kn) ?_
  exact ⟨rfl,rfl⟩
 ·intro _
  refine D<|D<|F<|K rfl<|I rfl<|b8 rfl rfl<|E (kt<|kt<|kt<|kn) fun _=>?_
  obtain ⟨w1,hw1,h⟩:=J h
  refine g9 (fun ze=>ze=[(4,.tv (eI s0.1)),(5,.tv (eI w1))]) ?_ ?_
  ·replace h:=hw1
   clear hw1
   refine U rfl (fun hc31=>?_) (fun hc31=>?_)
   ·replace h:=M hc31 h
    refine F<|C rfl<|a5 rfl rfl<|C rfl<|E (kt<|kt<|kn) ?_
    cases h
    exact rfl
   ·replace h:=O hc31 h
    refine P (kt<|kt<|kn) ?_
    cases h
    exact rfl
  rintro _ rfl
  intro _
  refine D<|F<|C rfl<|C rfl<|C rfl<|C rfl<|E (kt<|kt<|kn) fun _=>?_
  refine L ?_
  cases h
  exact ⟨by decide,rfl⟩
theorem c210A:∀ n:Nat,(∀ (c:Condition) (r:(Int × Int)) (_:condition_measureF n c=some r),Sound prog 210 [eCondition c] (.tp [eI r.1,eI r.2])):=by
  intro n
  induction n with
  | zero=>intro c r h; cases h
  | succ n ih=>exact c210S n ih
theorem c210 (c:Condition) (r:(Int × Int)) (h:condition_measure c=some r):Sound prog 210 [eCondition c] (.tp [eI r.1,eI r.2]):=by
  obtain ⟨N,hN⟩:=lim_some h
  exact (c210A N) c r (hN N (Nat.le_refl _))
theorem ck163:CK f163 (Rq [Af 1 0,Ad 2 0] [1]<|Sq (Rq [Ae 5 1 9,Au 6 209 5,Ay 7 6] [1,7]<|Co 7 (Rq [Ad 2 1] [2]<|.ret)<|Sk [1])<|Sq (Rq [Ae 9 1 9,Au 10 210 9,Aa 8 10,At 11 8 0,At 12 8 1,Aa 3 11,Aa 4 12] [3,4]<|Rq [Aa 13 3,Bg 14 13 12,Aa 15 14,Az 16 4 15,Bu 17 16 3 15,Ar 18 15 17] [18]<|Co 18 (Rq [Ad 2 3] [2]<|.ret)<|Sk [])<|Rq [Ad 2 0] [2]<|.ret) [.tmp 2]:= by decide +kernel
theorem c163 (c:Condition) (r:Int) (h:condition_shape c=some r):Sound prog 163 [eCondition c] (.sh (eI r)):= by
 refine Fn ck163 fun hw=>?_
 unfold condition_shape at h
 refine D<|F<|a1 rfl rfl<|C rfl<|E (kt<|kn) fun _=>?_
 refine D<|D<|F<|R rfl rfl (show _=eCondition c from rfl) ?_
 obtain ⟨x6,hx6,h⟩:=J h
 refine W rfl (c209 c _ hx6)<|b7 rfl<|E (kt<|kt<|kn) fun _=>?_
 refine U rfl (fun hc7=>?_) (fun hc7=>?_)
 ·replace h:=M hc7 h
  refine D<|F<|C rfl<|E (kt<|kn) fun _=>?_
  exact L (by cases h;rfl)
 ·replace h:=O hc7 h
  refine P (kt<|kn) fun _=>?_
  refine D<|D<|F<|R rfl rfl (show _=eCondition c from rfl) ?_
  obtain ⟨x10,hx10,h⟩:=J h
  refine e6 rfl (c210 c _ hx10)<|e8 rfl<|b9 rfl rfl<|b9 rfl rfl<|C rfl<|C rfl<|E (kt<|kt<|kn) fun _=>?_
  refine D<|F<|C rfl<|e3 rfl rfl<|C rfl ?_
  refine gO 3 [16,17] 18 (decide (12<x10.1)) (decide (3<x10.2)) (fun hg18=>?_) (fun hg18=>?_) ?_
  ·refine H rfl hg18<|H rfl hg18<|Z rfl hg18 rfl ?_
   exact ⟨⟨_,_,rfl⟩⟩
  ·refine G rfl hg18<|C rfl<|G rfl hg18<|e3 rfl rfl<|a0 rfl hg18 rfl ?_
   exact ⟨⟨_,_,rfl⟩⟩
  rintro _ ⟨_,_,rfl⟩
  refine E (kt<|kn) fun _=>?_
  refine U rfl (fun hc18=>?_) (fun hc18=>?_)
  ·replace h:=M hc18 h
   refine D<|F<|C rfl<|E (kt<|kn) fun _=>?_
   exact L (by cases h;rfl)
  ·replace h:=O hc18 h
   refine P (kn) fun _=>?_
   refine D<|F<|C rfl<|E (kt<|kn) fun _=>?_
   exact L (by cases h;rfl)
theorem ck246:CK f246 (Rq [Af 2 0,Ai 3] [1,2]<|Rq [Ac 4 2 2,Aj 5 4 0,Ab 6 5,Ab 7 1,By 8 6 7,Aa 3 8] [3]<|.ret) [.tmp 3]:= by decide +kernel
theorem c246 (s_0:Slot) (c0:Int) (r:Bool) (h:condition_pattern_1 s_0 c0=some r):Sound prog 246 [eSlot s_0,.pt [eI c0]] (.sh (eB r)):= by
 refine Fn ck246 fun hw=>?_
 unfold condition_pattern_1 at h
 refine D<|F<|a1 rfl rfl<|C rfl<|E (kt<|kt<|kn) fun _=>?_
 refine D<|F<|K rfl<|a6 rfl<|I rfl<|I rfl<|b8 rfl rfl<|C rfl<|E (kt<|kn) fun _=>?_
 exact L (by cases h;rfl)
theorem ck211:CK f211 (Rq [Af 3 0,Af 4 1,Ad 6 0] [2,3,4]<|Rq [Ae 9 3 2,Ae 10 4 5,An 11 98 9 10,Aa 7 11] [2,4,7]<|Sq (Rq [Aa 12 7,Ax 13 12 9] [2,4,7,13]<|Co 13 (Rq [Aa 14 7,Aa 6 14] [6]<|.ret)<|Sk [2,4,7])<|Sq (Rq [Aa 15 2,Ep 8 0,Ak 1 8 15,Dc 8] [4,7,8]<|Bl 0<|Lo [4,7,8]<|Sq (Rq [Ab 16 8,Ac 17 4 3,Ab 18 17,Ap 19 16 18] [4,7,8,19]<|Co 19 (Sk [4,7,8])<|Ex 0 [])<|Sq (Bl 1<|Rq [Ac 22 4 2,Ab 23 22,Cm 24 246 8,An 25 204 23 24,Ay 26 25] [4,7,8,26]<|Co 26 (Rq [Aa 27 7,Aa 6 27] [6]<|.ret)<|Sk [4,7,8])<|Sq (Rq [Ab 28 8] [4,7,28]<|Re [Ep 8 0,Ak 1 8 28] [4,7,8])<|Re [Ab 20 8,Ao 21 20 1,Ak 1 8 21,Dc 8] [4,7,8])<|Rq [Ad 6 0] [6]<|.ret) [.tmp 6]:= by decide +kernel
theorem c211 (t:Types) (q:Pattern) (outer:Int) (r:Int) (h:condition_pattern t q outer=some r):Sound prog 211 [eTypes t,ePattern q,eI outer] (.sh (eI r)):= by
 refine Fn ck211 fun hw=>?_
 unfold condition_pattern at h
 refine D<|F<|a1 rfl rfl<|a1 rfl rfl<|C rfl<|E (kt<|kt<|kt<|kn) fun _=>?_
 refine D<|F<|R rfl rfl (show _=eTypes t from rfl)<|R rfl rfl (show _=ePattern q from rfl) ?_
 obtain ⟨x11,hx11,h⟩:=J h
 refine W rfl (c98 t q _ hx11)<|C rfl<|E (kt<|kt<|kt<|kn) fun _=>?_
 refine D<|D<|F<|C rfl<|a7 rfl rfl<|E (kt<|kt<|kt<|kt<|kn) fun _=>?_
 refine U rfl (fun hc13=>?_) (fun hc13=>?_)
 ·replace h:=M hc13 h
  refine D<|F<|C rfl<|C rfl<|E (kt<|kn) fun _=>?_
  exact L (by cases h;rfl)
 ·replace h:=O hc13 h
  refine P (kt<|kt<|kt<|kn) fun _=>?_
  refine D<|D<|F<|C rfl<|b1 rfl<|a9 rfl rfl rfl rfl rfl<|l3 rfl rfl<|E (kt<|kt<|kt<|kn) fun _=>?_
  obtain ⟨o0,ho0,h⟩:=d0 h
  refine g8 ho0 (fun (s0:Int)=>[(4,.tv (.pt (ePattern q).cells)),(7,.tv (eI x11)),(8,.tv (.pt [eI s0]))]) (fun (s0:Int)=>[]) (fun zv ze=>resIs ([.tmp 6]) (.sh (eI zv)) ze) rfl ?_ ?_ ?_
  ·clear h ho0
   intro s0 r0 h hw0
   refine D<|D<|F<|I rfl<|K rfl<|I rfl<|X rfl rfl<|E (kt<|kt<|kt<|kt<|kn) fun _=>?_
   refine U rfl (fun hc19=>?_) (fun hc19=>?_)
   ·replace h:=M hc19 h
    refine P (kt<|kt<|kt<|kn) fun _=>?_
    refine D<|a8<|D<|F<|K rfl<|I rfl<|g2 rfl ?_
    obtain ⟨x25,hx25,h⟩:=J h
    refine W rfl (c204 q.Slots (fun y0=>condition_pattern_1 y0 s0) _ _ (fun y0 r h=>c246 y0 s0 r h) _ hx25)<|b7 rfl<|E (kt<|kt<|kt<|kt<|kn) fun _=>?_
    refine U rfl (fun hc26=>?_) (fun hc26=>?_)
    ·replace h:=M hc26 h
     refine D<|F<|C rfl<|C rfl<|E (kt<|kn) fun _=>?_
     refine L ?_
     cases h
     exact ⟨_,rfl,rfl⟩
    ·replace h:=O hc26 h
     refine P (kt<|kt<|kt<|kn) fun _=>?_
     refine D<|D<|F<|I rfl<|E (kt<|kt<|kt<|kn) fun _=>?_
     refine F<|b1 rfl<|a9 rfl rfl rfl rfl rfl<|E (kt<|kt<|kb<|kn) fun _=>?_
     refine F<|I rfl<|a5 rfl rfl<|a9 rfl rfl rfl rfl rfl<|l3 rfl rfl<|E (kt<|kt<|kt<|kn) ?_
     cases h
     refine ⟨_,rfl,?_⟩
     rw [Ktv rfl (Ktv rfl (Ktv rfl (Knil _)))]
     all_goals rfl
   ·replace h:=O hc19 h
    refine b0 (kn) ?_
    refine ⟨rfl,?_⟩
    cases h
    exact ⟨_,rfl,rfl⟩
  ·intro s0 hs
   replace h:=d1 h hs
   intro _
   refine D<|F<|C rfl<|E (kt<|kn) fun _=>?_
   exact L (by cases h;rfl)
  ·intro v0 ze hv hR
   replace h:=d2 h hv
   cases h
   exact hR
theorem ck164:CK f164 (Rq [Af 3 0,⟨some 4,.boxo (.s 1),none⟩,Af 5 2,Ad 6 0] [3,4,5]<|Sq (Rq [Ac 13 5 0,Ab 14 13,Be 15 14 5] [3,4,5,15]<|Co 15 (Rq [Ac 16 5 4,Ae 17 16 5,Ec 7 1 3 4 0 5,Ak 5 7 17] [3,4,5,7]<|Sq (Rq [Ac 18 7 3,Ab 19 18,Ac 20 4 3,Ab 21 20,Ap 22 19 21] [3,4,5,7,22]<|Co 22 (Rq [Ad 6 20] [6]<|.ret)<|Sk [3,4,5,7])<|Sq (Rq [Ae 23 3 2,Ae 24 7 5,Ac 25 4 3,Ab 26 25,Bf 27 211 23 24 26,Aa 8 27] [3,4,5,7,8]<|Rq [Aa 28 8,Ax 29 28 0] [3,4,5,7,8,29]<|Co 29 (Rq [Aa 30 8,Aa 6 30] [6]<|.ret)<|Sk [3,4,5,7])<|Sq (Rq [Ac 31 4 0,Ae 32 31 2,Ac 33 7 0,Ae 34 33 2,Ac 35 5 2,Ae 36 35 2,Bf 37 158 32 34 36,Aa 9 37] [3,4,5,7,9]<|Rq [Aa 38 9,Ax 39 38 0] [3,4,5,7,9,39]<|Co 39 (Rq [Aa 40 9,Aa 6 40] [6]<|.ret)<|Sk [3,4,5,7])<|Sq (Rq [Ac 41 4 0,Ae 42 41 2,Ac 43 7 0,Ae 44 43 2,Ac 45 5 2,Ae 46 45 2,Bf 47 159 42 44 46,Ay 48 47] [3,4,5,7,48]<|Co 48 (Rq [Ad 6 1] [6]<|.ret)<|Sk [3,4,5,7])<|Re [Ae 49 7 5,Ak 5 4 49] [3,4,5])<|Sk [3,4,5])<|Sq (Rq [Ac 50 5 1,Ab 51 50,Ag 52 51,Ad 53 0] [3,4,51,52,53]<|Bl 0<|Lo [3,4,51,52,53]<|Rq [Ap 54 53 52] [3,4,51,52,53,54]<|Sq (Co 54 (Sk [3,4,51,52,53])<|Ex 0 [])<|Sq (Bl 1<|Rq [Ah 55 51 53 9,Ae 56 55 9,Fe 11 0 9 1 1 1 3 4 0 5,Ak 9 11 56] [3,4,11,51,52,53]<|Rq [Ae 57 3 2,Ae 58 4 5,Ae 59 11 9,Bf 60 164 57 58 59,Aa 12 60] [3,4,12,51,52,53]<|Rq [Aa 61 12,Ax 62 61 0] [3,4,12,51,52,53,62]<|Co 62 (Rq [Aa 63 12,Aa 6 63] [6]<|.ret)<|Sk [3,4,51,52,53])<|Re [Ao 64 53 1,Aa 53 64] [3,4,51,52,53])<|Rq [Ad 6 0] [6]<|.ret) [.tmp 6]:= by decide +kernel
theorem c164S (n:Nat) (ih_164:∀ (t:Types) (p:Pattern) (c:Condition) (r:Int) (_:condition_insideF n t p c=some r),Sound prog 164 [eTypes t,ePattern p,eCondition c] (.sh (eI r))):∀ (t:Types) (p:Pattern) (c:Condition) (r:Int) (_:condition_insideF (n+1) t p c=some r),Sound prog 164 [eTypes t,ePattern p,eCondition c] (.sh (eI r)):= by
 intro t p c r h
 refine Fn ck164 fun hw=>?_
 unfold condition_insideF at h
 refine D<|F<|a1 rfl rfl<|q0 rfl rfl rfl rfl<|a1 rfl rfl<|C rfl<|E (kt<|kb<|kt<|kn) fun _=>?_
 refine D<|D<|F<|K rfl<|I rfl<|b8 rfl rfl<|E (kt<|kb<|kt<|kt<|kn) fun _=>?_
 refine U rfl (fun hc15=>?_) (fun hc15=>?_)
 ·replace h:=M hc15 h
  refine D<|F<|K rfl<|R rfl rfl (show _=ePattern c.Pattern from rfl)<|b1 rfl<|a9 rfl rfl rfl rfl rfl<|E (kt<|kb<|kt<|kb<|kn) fun _=>?_
  refine D<|D<|F<|a3 rfl<|I rfl<|a3 rfl<|I rfl<|X rfl rfl<|E (kt<|kb<|kt<|kb<|kt<|kn) fun _=>?_
  refine U rfl (fun hc22=>?_) (fun hc22=>?_)
  ·replace h:=M hc22 h
   refine D<|F<|C rfl<|E (kt<|kn) fun _=>?_
   exact L (by cases h;rfl)
  ·replace h:=O hc22 h
   refine P (kt<|kb<|kt<|kb<|kn) fun _=>?_
   refine D<|D<|F<|R rfl rfl (show _=eTypes t from rfl)<|R rfl rfl (show _=ePattern c.Pattern from rfl)<|a3 rfl<|I rfl ?_
   obtain ⟨x27,hx27,h⟩:=J h
   refine W rfl (c211 t c.Pattern p.Vars _ hx27)<|C rfl<|E (kt<|kb<|kt<|kb<|kt<|kn) fun _=>?_
   refine D<|F<|C rfl<|a7 rfl rfl<|E (kt<|kb<|kt<|kb<|kt<|kt<|kn) fun _=>?_
   refine U rfl (fun hc29=>?_) (fun hc29=>?_)
   ·replace h:=M hc29 h
    refine D<|F<|C rfl<|C rfl<|E (kt<|kn) fun _=>?_
    exact L (by cases h;rfl)
   ·replace h:=O hc29 h
    refine P (kt<|kb<|kt<|kb<|kn) fun _=>?_
    refine D<|D<|F<|a3 rfl<|R rfl rfl (show _=eGraph p.Graph from rfl)<|a3 rfl<|R rfl rfl (show _=eGraph c.Pattern.Graph from rfl)<|K rfl<|R rfl rfl (show _=eMorphism c.Map from rfl) ?_
    obtain ⟨x37,hx37,h⟩:=J h
    refine W rfl (c158 p.Graph c.Pattern.Graph c.Map _ hx37)<|C rfl<|E (kt<|kb<|kt<|kb<|kt<|kn) fun _=>?_
    refine D<|F<|C rfl<|a7 rfl rfl<|E (kt<|kb<|kt<|kb<|kt<|kt<|kn) fun _=>?_
    refine U rfl (fun hc39=>?_) (fun hc39=>?_)
    ·replace h:=M hc39 h
     refine D<|F<|C rfl<|C rfl<|E (kt<|kn) fun _=>?_
     exact L (by cases h;rfl)
    ·replace h:=O hc39 h
     refine P (kt<|kb<|kt<|kb<|kn) fun _=>?_
     refine D<|D<|F<|a3 rfl<|R rfl rfl (show _=eGraph p.Graph from rfl)<|a3 rfl<|R rfl rfl (show _=eGraph c.Pattern.Graph from rfl)<|K rfl<|R rfl rfl (show _=eMorphism c.Map from rfl) ?_
     obtain ⟨x47,hx47,h⟩:=J h
     refine W rfl (c159 p.Graph c.Pattern.Graph c.Map _ hx47)<|b7 rfl<|E (kt<|kb<|kt<|kb<|kt<|kn) fun _=>?_
     refine U rfl (fun hc48=>?_) (fun hc48=>?_)
     ·replace h:=M hc48 h
      refine D<|F<|C rfl<|E (kt<|kn) fun _=>?_
      exact L (by cases h;rfl)
     ·replace h:=O hc48 h
      refine P (kt<|kb<|kt<|kb<|kn) fun _=>?_
      refine F<|R rfl rfl (show _=ePattern c.Pattern from rfl)<|a9 rfl rfl rfl rfl rfl<|E (kt<|kb<|kt<|kn) fun _=>?_
      refine D<|D<|F<|K rfl<|I rfl<|V rfl (eLCondition_eq _)<|C rfl<|E (kt<|kb<|kt<|kt<|kt<|kn) fun _=>?_
      obtain ⟨o0,ho0,h⟩:=d0 h
      refine d5 ho0 (fun (i0:Int) (_:Unit)=>[(3,.tv (.pt (eTypes t).cells)),(4,.bx [⟨false,lI c.Pattern.Graph.Nodes⟩,⟨false,lE c.Pattern.Graph.Edges⟩,⟨false,lS c.Pattern.Slots⟩,⟨false,eI c.Pattern.Vars⟩,⟨false,lT c.Pattern.Tests⟩]),(51,.tv (eLCondition c.Kids)),(52,.tv (eI (c.Kids.length:Int))),(53,.tv (eI i0))]) (fun (_:Unit)=>[]) (fun zv ze=>resIs ([.tmp 6]) (.sh (eI zv)) ze) rfl ?_ ?_ ?_ ?_
      ·clear h ho0
       intro i0 s0 r0 hi0 h hw0
       refine D<|F<|X rfl rfl<|E (kt<|kb<|kt<|kt<|kt<|kt<|kn) fun _=>?_
       refine D<|b3 rfl (b4 hi0)<|P (kt<|kb<|kt<|kt<|kt<|kn) fun _=>?_
       refine D<|a8<|D<|F ?_
       obtain ⟨x55,hx55,h⟩:=J h
       refine a2 rfl rfl (eLCondition_eq _) hx55 rfl<|R rfl rfl (show _=eCondition x55 from rfl)<|b1 rfl<|a9 rfl rfl rfl rfl rfl<|E (kt<|kb<|kb<|kt<|kt<|kt<|kn) fun _=>?_
       refine D<|F<|R rfl rfl (show _=eTypes t from rfl)<|R rfl rfl (show _=ePattern c.Pattern from rfl)<|R rfl rfl (show _=eCondition x55 from rfl) ?_
       obtain ⟨x60,hx60,h⟩:=J h
       refine W rfl (ih_164 t c.Pattern x55 _ hx60)<|C rfl<|E (kt<|kb<|kt<|kt<|kt<|kt<|kn) fun _=>?_
       refine D<|F<|C rfl<|a7 rfl rfl<|E (kt<|kb<|kt<|kt<|kt<|kt<|kt<|kn) fun _=>?_
       refine U rfl (fun hc62=>?_) (fun hc62=>?_)
       ·replace h:=M hc62 h
        refine D<|F<|C rfl<|C rfl<|E (kt<|kn) fun _=>?_
        refine L ?_
        cases h
        exact ⟨_,rfl,rfl⟩
       ·replace h:=O hc62 h
        refine P (kt<|kb<|kt<|kt<|kt<|kn) fun _=>?_
        refine F<|a5 rfl rfl<|C rfl<|E (kt<|kb<|kt<|kt<|kt<|kn) ?_
        cases h
        refine ⟨_,rfl,?_⟩
        rw [Ktv rfl (Kbx rfl (Ktv rfl (Ktv rfl (Ktv rfl (Knil _)))))]
        rw [b2 (a4 (hw0 53)) hi0 (d9 (a4 (hw0 52)))]
        all_goals rfl
      ·intro i0 s0 hi0
       refine D<|F<|X rfl rfl<|E (kt<|kb<|kt<|kt<|kt<|kt<|kn) fun _=>?_
       refine D<|b5 rfl (b6 hi0)<|b0 (kn) ?_
       exact ⟨rfl,rfl⟩
      ·intro s0 hs
       replace h:=d1 h hs
       intro _
       refine D<|F<|C rfl<|E (kt<|kn) fun _=>?_
       exact L (by cases h;rfl)
      ·intro v0 ze hv hR
       replace h:=d2 h hv
       cases h
       exact hR
 ·replace h:=O hc15 h
  refine P (kt<|kb<|kt<|kn) fun _=>?_
  refine D<|D<|F<|K rfl<|I rfl<|V rfl (eLCondition_eq _)<|C rfl<|E (kt<|kb<|kt<|kt<|kt<|kn) fun _=>?_
  obtain ⟨o0,ho0,h⟩:=d0 h
  refine d5 ho0 (fun (i0:Int) (_:Unit)=>[(3,.tv (.pt (eTypes t).cells)),(4,.bx [⟨false,lI p.Graph.Nodes⟩,⟨false,lE p.Graph.Edges⟩,⟨false,lS p.Slots⟩,⟨false,eI p.Vars⟩,⟨false,lT p.Tests⟩]),(51,.tv (eLCondition c.Kids)),(52,.tv (eI (c.Kids.length:Int))),(53,.tv (eI i0))]) (fun (_:Unit)=>[]) (fun zv ze=>resIs ([.tmp 6]) (.sh (eI zv)) ze) rfl ?_ ?_ ?_ ?_
  ·clear h ho0
   intro i0 s0 r0 hi0 h hw0
   refine D<|F<|X rfl rfl<|E (kt<|kb<|kt<|kt<|kt<|kt<|kn) fun _=>?_
   refine D<|b3 rfl (b4 hi0)<|P (kt<|kb<|kt<|kt<|kt<|kn) fun _=>?_
   refine D<|a8<|D<|F ?_
   obtain ⟨x55,hx55,h⟩:=J h
   refine a2 rfl rfl (eLCondition_eq _) hx55 rfl<|R rfl rfl (show _=eCondition x55 from rfl)<|b1 rfl<|a9 rfl rfl rfl rfl rfl<|E (kt<|kb<|kb<|kt<|kt<|kt<|kn) fun _=>?_
   refine D<|F<|R rfl rfl (show _=eTypes t from rfl)<|R rfl rfl (show _=ePattern p from rfl)<|R rfl rfl (show _=eCondition x55 from rfl) ?_
   obtain ⟨x60,hx60,h⟩:=J h
   refine W rfl (ih_164 t p x55 _ hx60)<|C rfl<|E (kt<|kb<|kt<|kt<|kt<|kt<|kn) fun _=>?_
   refine D<|F<|C rfl<|a7 rfl rfl<|E (kt<|kb<|kt<|kt<|kt<|kt<|kt<|kn) fun _=>?_
   refine U rfl (fun hc62=>?_) (fun hc62=>?_)
   ·replace h:=M hc62 h
    refine D<|F<|C rfl<|C rfl<|E (kt<|kn) fun _=>?_
    refine L ?_
    cases h
    exact ⟨_,rfl,rfl⟩
   ·replace h:=O hc62 h
    refine P (kt<|kb<|kt<|kt<|kt<|kn) fun _=>?_
    refine F<|a5 rfl rfl<|C rfl<|E (kt<|kb<|kt<|kt<|kt<|kn) ?_
    cases h
    refine ⟨_,rfl,?_⟩
    rw [Ktv rfl (Kbx rfl (Ktv rfl (Ktv rfl (Ktv rfl (Knil _)))))]
    rw [b2 (a4 (hw0 53)) hi0 (d9 (a4 (hw0 52)))]
    all_goals rfl
  ·intro i0 s0 hi0
   refine D<|F<|X rfl rfl<|E (kt<|kb<|kt<|kt<|kt<|kt<|kn) fun _=>?_
   refine D<|b5 rfl (b6 hi0)<|b0 (kn) ?_
   exact ⟨rfl,rfl⟩
  ·intro s0 hs
   replace h:=d1 h hs
   intro _
   refine D<|F<|C rfl<|E (kt<|kn) fun _=>?_
   exact L (by cases h;rfl)
  ·intro v0 ze hv hR
   replace h:=d2 h hv
   cases h
   exact hR
theorem c164A:∀ n:Nat,(∀ (t:Types) (p:Pattern) (c:Condition) (r:Int) (_:condition_insideF n t p c=some r),Sound prog 164 [eTypes t,ePattern p,eCondition c] (.sh (eI r))):=by
  intro n
  induction n with
  | zero=>intro t p c r h; cases h
  | succ n ih=>exact c164S n ih
theorem c164 (t:Types) (p:Pattern) (c:Condition) (r:Int) (h:condition_inside t p c=some r):Sound prog 164 [eTypes t,ePattern p,eCondition c] (.sh (eI r)):=by
  obtain ⟨N,hN⟩:=lim_some h
  exact (c164A N) t p c r (hN N (Nat.le_refl _))
theorem ck103:CK f103 (Rq [Af 3 0,Af 4 1,Af 5 2,Ad 6 0] [3,4,5]<|Sq (Rq [Ae 9 3 2,Ae 10 4 5,An 11 98 9 10,Aa 7 11] [3,4,5,7]<|Rq [Aa 12 7,Ax 13 12 0] [3,4,5,7,13]<|Co 13 (Rq [Aa 14 7,Aa 6 14] [6]<|.ret)<|Sk [3,4,5])<|Sq (Rq [Ae 15 5 9,Au 16 163 15,Aa 8 16] [3,4,5,8]<|Rq [Aa 17 8,Ax 18 17 0] [3,4,5,8,18]<|Co 18 (Rq [Aa 19 8,Aa 6 19] [6]<|.ret)<|Sk [3,4,5])<|Rq [Ae 20 3 2,Ae 21 4 5,Ae 22 5 9,Bf 23 164 20 21 22,Aa 6 23] [6]<|.ret) [.tmp 6]:= by decide +kernel
theorem c103 (t:Types) (p:Pattern) (c:Condition) (r:Int) (h:condition_Valid t p c=some r):Sound prog 103 [eTypes t,ePattern p,eCondition c] (.sh (eI r)):= by
 refine Fn ck103 fun hw=>?_
 unfold condition_Valid at h
 refine D<|F<|a1 rfl rfl<|a1 rfl rfl<|a1 rfl rfl<|C rfl<|E (kt<|kt<|kt<|kn) fun _=>?_
 refine D<|D<|F<|R rfl rfl (show _=eTypes t from rfl)<|R rfl rfl (show _=ePattern p from rfl) ?_
 obtain ⟨x11,hx11,h⟩:=J h
 refine W rfl (c98 t p _ hx11)<|C rfl<|E (kt<|kt<|kt<|kt<|kn) fun _=>?_
 refine D<|F<|C rfl<|a7 rfl rfl<|E (kt<|kt<|kt<|kt<|kt<|kn) fun _=>?_
 refine U rfl (fun hc13=>?_) (fun hc13=>?_)
 ·replace h:=M hc13 h
  refine D<|F<|C rfl<|C rfl<|E (kt<|kn) fun _=>?_
  exact L (by cases h;rfl)
 ·replace h:=O hc13 h
  refine P (kt<|kt<|kt<|kn) fun _=>?_
  refine D<|D<|F<|R rfl rfl (show _=eCondition c from rfl) ?_
  obtain ⟨x16,hx16,h⟩:=J h
  refine W rfl (c163 c _ hx16)<|C rfl<|E (kt<|kt<|kt<|kt<|kn) fun _=>?_
  refine D<|F<|C rfl<|a7 rfl rfl<|E (kt<|kt<|kt<|kt<|kt<|kn) fun _=>?_
  refine U rfl (fun hc18=>?_) (fun hc18=>?_)
  ·replace h:=M hc18 h
   refine D<|F<|C rfl<|C rfl<|E (kt<|kn) fun _=>?_
   exact L (by cases h;rfl)
  ·replace h:=O hc18 h
   refine P (kt<|kt<|kt<|kn) fun _=>?_
   refine D<|F<|R rfl rfl (show _=eTypes t from rfl)<|R rfl rfl (show _=ePattern p from rfl)<|R rfl rfl (show _=eCondition c from rfl) ?_
   obtain ⟨x23,hx23,h⟩:=J h
   refine W rfl (c164 t p c _ hx23)<|C rfl<|E (kt<|kn) fun _=>?_
   exact L (by cases h;rfl)
theorem ck52:CK f52 (Rq [Af 2 0,Af 3 1,Ad 4 0] [2,3]<|Sq (Rq [Ae 13 2 2,Au 14 96 13,Aa 12 14,At 15 12 0,At 16 12 1,Aa 5 15,Aa 6 16] [2,3,6]<|Rq [Aa 17 6,Ax 18 17 0] [2,3,6,18]<|Co 18 (Rq [Aa 19 6,Aa 4 19] [4]<|.ret)<|Sk [2,3])<|Sq (Rq [Ac 20 3 0,Ab 21 20,Au 22 97 21,Ay 23 22] [2,3,23]<|Co 23 (Rq [Ad 4 2] [4]<|.ret)<|Sk [2,3])<|Sq (Rq [Ae 24 2 2,Ac 25 3 1,Ae 26 25 5,An 27 98 24 26,Aa 7 27] [2,3,7]<|Rq [Aa 28 7,Ax 29 28 0] [2,3,7,29]<|Co 29 (Rq [Aa 30 7,Aa 4 30] [4]<|.ret)<|Sk [2,3])<|Sq (Rq [Ae 31 2 2,Ae 32 3 25,An 33 99 31 32,Aa 8 33] [2,3,8]<|Rq [Aa 34 8,Ax 35 34 0] [2,3,8,35]<|Co 35 (Rq [Aa 36 8,Aa 4 36] [4]<|.ret)<|Sk [2,3])<|Sq (Rq [Ae 37 3 25,Au 38 100 37,Aa 9 38] [2,3,9]<|Rq [Aa 39 9,Ax 40 39 0] [2,3,9,40]<|Co 40 (Rq [Aa 41 9,Aa 4 41] [4]<|.ret)<|Sk [2,3])<|Rq [Ae 43 3 25,Au 44 101 43,Aa 42 44,At 45 42 0,At 46 42 1,Bb 10 45,Bb 11 46] [2,3,10,11]<|Sq (Rq [Ae 47 2 2,Ac 48 3 6,Aj 49 48 0,Ae 50 49 2,Aa 51 10,Aa 52 11,Cg 53 102 47 50 51 52,Ay 54 53] [2,3,54]<|Co 54 (Rq [Ad 4 13] [4]<|.ret)<|Sk [2,3])<|Rq [Ae 55 2 2,Ac 56 3 1,Ae 57 56 5,Ac 58 3 16,Ae 59 58 9,Bf 60 103 55 57 59,Aa 4 60] [4]<|.ret) [.tmp 4]:= by decide +kernel
theorem c52 (t:Types) (r_1:Rule) (r:Int) (h:rule_Valid t r_1=some r):Sound prog 52 [eTypes t,eRule r_1] (.sh (eI r)):= by
 refine Fn ck52 fun hw=>?_
 unfold rule_Valid at h
 refine D<|F<|a1 rfl rfl<|a1 rfl rfl<|C rfl<|E (kt<|kt<|kn) fun _=>?_
 refine D<|D<|F<|R rfl rfl (show _=eTypes t from rfl) ?_
 obtain ⟨x14,hx14,h⟩:=J h
 refine e6 rfl (c96 t _ hx14)<|e8 rfl<|b9 rfl rfl<|b9 rfl rfl<|C rfl<|C rfl<|E (kt<|kt<|kt<|kn) fun _=>?_
 refine D<|F<|C rfl<|a7 rfl rfl<|E (kt<|kt<|kt<|kt<|kn) fun _=>?_
 refine U rfl (fun hc18=>?_) (fun hc18=>?_)
 ·replace h:=M hc18 h
  refine D<|F<|C rfl<|C rfl<|E (kt<|kn) fun _=>?_
  exact L (by cases h;rfl)
 ·replace h:=O hc18 h
  refine P (kt<|kt<|kn) fun _=>?_
  refine D<|D<|F<|K rfl<|I rfl ?_
  obtain ⟨x22,hx22,h⟩:=J h
  refine W rfl (c97 r_1.Name _ hx22)<|b7 rfl<|E (kt<|kt<|kt<|kn) fun _=>?_
  refine U rfl (fun hc23=>?_) (fun hc23=>?_)
  ·replace h:=M hc23 h
   refine D<|F<|C rfl<|E (kt<|kn) fun _=>?_
   exact L (by cases h;rfl)
  ·replace h:=O hc23 h
   refine P (kt<|kt<|kn) fun _=>?_
   refine D<|D<|F<|R rfl rfl (show _=eTypes t from rfl)<|K rfl<|R rfl rfl (show _=ePattern r_1.Left from rfl) ?_
   obtain ⟨x27,hx27,h⟩:=J h
   refine W rfl (c98 t r_1.Left _ hx27)<|C rfl<|E (kt<|kt<|kt<|kn) fun _=>?_
   refine D<|F<|C rfl<|a7 rfl rfl<|E (kt<|kt<|kt<|kt<|kn) fun _=>?_
   refine U rfl (fun hc29=>?_) (fun hc29=>?_)
   ·replace h:=M hc29 h
    refine D<|F<|C rfl<|C rfl<|E (kt<|kn) fun _=>?_
    exact L (by cases h;rfl)
   ·replace h:=O hc29 h
    refine P (kt<|kt<|kn) fun _=>?_
    refine D<|D<|F<|R rfl rfl (show _=eTypes t from rfl)<|R rfl rfl (show _=eRule r_1 from rfl) ?_
    obtain ⟨x33,hx33,h⟩:=J h
    refine W rfl (c99 t r_1 _ hx33)<|C rfl<|E (kt<|kt<|kt<|kn) fun _=>?_
    refine D<|F<|C rfl<|a7 rfl rfl<|E (kt<|kt<|kt<|kt<|kn) fun _=>?_
    refine U rfl (fun hc35=>?_) (fun hc35=>?_)
    ·replace h:=M hc35 h
     refine D<|F<|C rfl<|C rfl<|E (kt<|kn) fun _=>?_
     exact L (by cases h;rfl)
    ·replace h:=O hc35 h
     refine P (kt<|kt<|kn) fun _=>?_
     refine D<|D<|F<|R rfl rfl (show _=eRule r_1 from rfl) ?_
     obtain ⟨x38,hx38,h⟩:=J h
     refine W rfl (c100 r_1 _ hx38)<|C rfl<|E (kt<|kt<|kt<|kn) fun _=>?_
     refine D<|F<|C rfl<|a7 rfl rfl<|E (kt<|kt<|kt<|kt<|kn) fun _=>?_
     refine U rfl (fun hc40=>?_) (fun hc40=>?_)
     ·replace h:=M hc40 h
      refine D<|F<|C rfl<|C rfl<|E (kt<|kn) fun _=>?_
      exact L (by cases h;rfl)
     ·replace h:=O hc40 h
      refine P (kt<|kt<|kn) fun _=>?_
      refine D<|F<|R rfl rfl (show _=eRule r_1 from rfl) ?_
      obtain ⟨x44,hx44,h⟩:=J h
      refine e6 rfl (c101 r_1 _ hx44)<|e8 rfl<|b9 rfl rfl<|b9 rfl rfl<|g1 rfl<|g1 rfl<|E (kt<|kt<|kt<|kt<|kn) fun _=>?_
      refine D<|D<|F<|R rfl rfl (show _=eTypes t from rfl)<|K rfl<|a6 rfl<|R rfl rfl (show _=eGraph r_1.Right.Graph from rfl)<|C rfl<|C rfl ?_
      obtain ⟨x53,hx53,h⟩:=J h
      refine W rfl (c102 t r_1.Right.Graph x44.1 x44.2 _ hx53)<|b7 rfl<|E (kt<|kt<|kt<|kn) fun _=>?_
      refine U rfl (fun hc54=>?_) (fun hc54=>?_)
      ·replace h:=M hc54 h
       refine D<|F<|C rfl<|E (kt<|kn) fun _=>?_
       exact L (by cases h;rfl)
      ·replace h:=O hc54 h
       refine P (kt<|kt<|kn) fun _=>?_
       refine D<|F<|R rfl rfl (show _=eTypes t from rfl)<|K rfl<|R rfl rfl (show _=ePattern r_1.Left from rfl)<|K rfl<|R rfl rfl (show _=eCondition r_1.Condition from rfl) ?_
       obtain ⟨x60,hx60,h⟩:=J h
       refine W rfl (c103 t r_1.Left r_1.Condition _ hx60)<|C rfl<|E (kt<|kn) fun _=>?_
       exact L (by cases h;rfl)
theorem c104 (s:List Int) (n:Int) (r:List Int) (h:slices_Grow_int s n=some r):Sound prog 104 [.nil,eI n] (.own (lI r)):=by
  unfold slices_Grow_int at h
  split at h
  · rename_i hc
    cases h
    obtain ⟨k,rfl⟩:=Int.eq_ofNat_of_zero_le hc.2.1
    have hk:k<=nmax:=by have:=hc.2.2; omega
    have hb:=hk
    unfold nmax at hb
    obtain ⟨i0,h1,h2,h3,h4⟩:∃ i0,prog.info? 3=some i0∧i0.zero=some (.int .i64 0)∧i0.size=1∧i0.bytes=8:=⟨_,rfl,rfl,rfl,rfl⟩
    refine grow_of (by rfl) hk (e:=3) (z:=(Value.int .i64 0).cells) rfl (fun w hz=>?_) (fun w hp=>?_)
    · exact Go.Proofs.Any8.slices_Grow_room Go.Proofs.Tryz.growI none 0 0 k w (Nat.le_refl _) (by omega) (by omega) (by omega)
    · exact Go.Proofs.Any8.slices_Grow_grow Go.Proofs.Tryz.growI i0 (.int .i64 0) h1 h2 (by omega) none 0 0 k [] w (Nat.le_refl _) (by omega) (by rw [h4]; omega) (by omega) (by simp) (fun _=>rfl) (fun a ha=>by cases ha)
  · cases h
theorem ck53:CK f53 (Rq [Bk 2 1] [0]<|Rq [Ad 3 0] [0,3]<|Sq (Rq [Aa 9 0,Ag 10 9,Ad 11 0] [0,3,9,10,11]<|Bl 0<|Lo [0,3,9,10,11]<|Rq [Ap 12 11 10] [0,3,9,10,11,12]<|Sq (Co 12 (Sk [0,3,9,10,11])<|Ex 0 [0,3])<|Sq (Bl 1<|Rq [Ah 13 9 11 1,Ab 14 13,Bb 5 14] [0,3,5,9,10,11]<|Rq [Aa 15 3,Aa 16 5,Ag 17 16,Bn 18 15 17,Aa 3 18] [0,3,9,10,11]<|Rq [Aa 19 3,Bt 20 19 0] [0,3,9,10,11,20]<|Co 20 (.bad)<|Sk [0,3,9,10,11])<|Re [Ao 22 11 1,Aa 11 22] [0,3,9,10,11])<|Rq [Aa 23 3,⟨some 24,.call 104 [.c .nil,.s 23],none⟩,Bb 6 24] [0,6]<|Sq (Rq [Aa 25 0,Ag 26 25,Ad 27 0] [6,25,26,27]<|Bl 2<|Lo [6,25,26,27]<|Rq [Ap 28 27 26] [6,25,26,27,28]<|Sq (Co 28 (Sk [6,25,26,27])<|Ex 2 [6])<|Sq (Bl 3<|Rq [Ah 29 25 27 1,Ab 30 29,Bb 8 30] [6,8,25,26,27]<|Re [Bb 31 6,Aa 32 8,Bc 33 1 31 32,Bb 6 33] [6,25,26,27])<|Re [Ao 34 27 1,Aa 27 34] [6,25,26,27])<|Rq [Aa 35 6,Bb 2 35] [2]<|.ret) [.tmp 2]:= by decide +kernel
theorem c53 (slices:List (List Int)) (r:(List Int)) (h:slices_Concat_int slices=some r):Sound prog 53 [(eL 1 lI) slices] (.sh (lI r)):= by
 refine Fn ck53 fun hw=>?_
 unfold slices_Concat_int at h
 refine D<|F<|f2<|E (kt<|kn) fun _=>?_
 refine D<|F<|C rfl<|E (kt<|kt<|kn) fun _=>?_
 refine D<|D<|F<|C rfl<|V rfl rfl<|C rfl<|E (kt<|kt<|kt<|kt<|kt<|kn) fun _=>?_
 obtain ⟨s0,hs0,h⟩:=J h
 refine f8 hs0 (fun (i0:Int) (s0:Int)=>[(0,.tv ((eL 1 lI) slices)),(3,.tv (eI s0)),(9,.tv ((eL 1 lI) slices)),(10,.tv (eI (slices.length:Int))),(11,.tv (eI i0))]) (fun (s0:Int)=>[(0,.tv ((eL 1 lI) slices)),(3,.tv (eI s0))]) rfl ?_ ?_ ?_
 ·clear h hs0
  intro i0 s0 r0 hi0 h hw0
  refine D<|F<|X rfl rfl<|E (kt<|kt<|kt<|kt<|kt<|kt<|kn) fun _=>?_
  refine D<|b3 rfl (b4 hi0)<|P (kt<|kt<|kt<|kt<|kt<|kn) fun _=>?_
  refine D<|a8<|D<|F ?_
  obtain ⟨x13,hx13,h⟩:=J h
  refine a2 rfl rfl rfl hx13 rfl<|I rfl<|g1 rfl<|E (kt<|kt<|kt<|kt<|kt<|kt<|kn) fun _=>?_
  refine D<|F<|C rfl<|C rfl<|V rfl rfl<|a5 rfl rfl<|C rfl<|E (kt<|kt<|kt<|kt<|kt<|kn) fun _=>?_
  refine D<|F<|C rfl<|X rfl rfl<|E (kt<|kt<|kt<|kt<|kt<|kt<|kn) fun _=>?_
  refine U rfl (fun hc20=>?_) (fun hc20=>?_)
  ·replace h:=M hc20 h
   cases h
  ·replace h:=O hc20 h
   refine P (kt<|kt<|kt<|kt<|kt<|kn) fun _=>?_
   refine F<|a5 rfl rfl<|C rfl<|E (kt<|kt<|kt<|kt<|kt<|kn) ?_
   cases h
   show Env.keep _ _=_
   rw [Ktv rfl (Ktv rfl (Ktv rfl (Ktv rfl (Ktv rfl (Knil _)))))]
   rw [b2 (a4 (hw0 11)) hi0 (d9 (a4 (hw0 10)))]
   all_goals rfl
 ·intro i0 s0 hi0
  refine D<|F<|X rfl rfl<|E (kt<|kt<|kt<|kt<|kt<|kt<|kn) fun _=>?_
  refine D<|b5 rfl (b6 hi0)<|b0 (kt<|kt<|kn) ?_
  exact ⟨rfl,rfl⟩
 ·intro _
  refine D<|F<|C rfl ?_
  obtain ⟨x24,hx24,h⟩:=J h
  refine g4 rfl (c104 [] s0 _ hx24)<|f7 rfl<|E (kt<|ko<|kn) fun _=>?_
  refine D<|D<|F<|C rfl<|V rfl rfl<|C rfl<|E (ko<|kt<|kt<|kt<|kn) fun _=>?_
  obtain ⟨s2,hs2,h⟩:=J h
  refine f8 hs2 (fun (i2:Int) (s2:List Int)=>[(6,.ow (lI s2)),(25,.tv ((eL 1 lI) slices)),(26,.tv (eI (slices.length:Int))),(27,.tv (eI i2))]) (fun (s2:List Int)=>[(6,.ow (lI s2))]) rfl ?_ ?_ ?_
  ·clear h hs2
   intro i2 s2 r2 hi2 h hw2
   refine D<|F<|X rfl rfl<|E (ko<|kt<|kt<|kt<|kt<|kn) fun _=>?_
   refine D<|b3 rfl (b4 hi2)<|P (ko<|kt<|kt<|kt<|kn) fun _=>?_
   refine D<|a8<|D<|F ?_
   obtain ⟨x29,hx29,h⟩:=J h
   refine a2 rfl rfl rfl hx29 rfl<|I rfl<|g1 rfl<|E (ko<|kt<|kt<|kt<|kt<|kn) fun _=>?_
   refine F<|f7 rfl<|C rfl ?_
   obtain ⟨x33,hx33,h⟩:=J h
   refine e5 rfl rfl rfl rfl hx33 rfl<|f7 rfl<|E (ko<|kt<|kt<|kt<|kn) fun _=>?_
   refine F<|a5 rfl rfl<|C rfl<|E (ko<|kt<|kt<|kt<|kn) ?_
   cases h
   show Env.keep _ _=_
   rw [Kow rfl (Ktv rfl (Ktv rfl (Ktv rfl (Knil _))))]
   rw [b2 (a4 (hw2 27)) hi2 (d9 (a4 (hw2 26)))]
   all_goals rfl
  ·intro i2 s2 hi2
   refine D<|F<|X rfl rfl<|E (ko<|kt<|kt<|kt<|kt<|kn) fun _=>?_
   refine D<|b5 rfl (b6 hi2)<|b0 (ko<|kn) ?_
   exact ⟨rfl,rfl⟩
  ·intro _
   refine D<|F<|C rfl<|g1 rfl<|E (kt<|kn) fun _=>?_
   exact L (by cases h;rfl)
theorem ck55:CK f55 (Rq [Af 2 0,Ai 3] [1,2]<|Rq [Ac 4 2 1,Ab 5 4,Ab 6 1,By 7 5 6,Aa 3 7] [3]<|.ret) [.tmp 3]:= by decide +kernel
theorem c55 (n:NodeType) (c0:Int) (r:Bool) (h:triplerule_Valid_1 n c0=some r):Sound prog 55 [eNodeType n,.pt [eI c0]] (.sh (eB r)):= by
 refine Fn ck55 fun hw=>?_
 unfold triplerule_Valid_1 at h
 refine D<|F<|a1 rfl rfl<|C rfl<|E (kt<|kt<|kn) fun _=>?_
 refine D<|F<|K rfl<|I rfl<|I rfl<|b8 rfl rfl<|C rfl<|E (kt<|kn) fun _=>?_
 exact L (by cases h;rfl)
theorem ck15:CK f15 (Rq [Af 3 0,Af 4 1,Af 5 2,Ad 6 0] [3,4,5]<|Sq (Rq [Ae 14 3 2,Ae 15 4 2,An 16 51 14 15,Aa 7 16] [3,5,7]<|Rq [Aa 17 7,Ax 18 17 0] [3,5,7,18]<|Co 18 (Rq [Aa 19 7,Aa 6 19] [6]<|.ret)<|Sk [3,5])<|Sq (Rq [Ae 20 3 2,Ae 21 5 25,An 22 52 20 21,Aa 8 22] [3,5,8]<|Rq [Aa 23 8,Ax 24 23 0] [3,5,8,24]<|Co 24 (Rq [Aa 25 8,Aa 6 25] [6]<|.ret)<|Sk [3,5])<|Rq [Ac 26 5 1,Aj 27 26 2,Ab 28 27,Ag 29 28,Ac 30 5 1,Aj 31 30 4,Ab 32 31,Ag 33 32,Bn 34 29 33,Ac 35 5 6,Aj 36 35 2,Ab 37 36,Ag 38 37,Bn 39 34 38,Ac 40 5 6,Aj 41 40 4,Ab 42 41,Ag 43 42,Bn 44 39 43,Be 45 44 0,Aa 46 45,Av 47 5 1 46,Bx 48 47 3 46,Aw 49 48 46,Cs 50 49 0 46,Aq 51 46 50,Aa 9 51] [3,5,9]<|Sq (Rq [Aa 52 9,Ay 53 52,Aa 54 53,Am 55 5 15 54,Al 56 55 54,Bq 57 56 54,Ar 58 54 57,Aa 59 58,Am 60 5 16 59,Bi 61 60 0 59,Al 62 61 59,Ff 63 62 1 59,Ar 64 59 63,Aa 65 64,Am 66 5 11 65,Bi 67 66 0 65,Al 68 67 65,Ba 69 68 65,Am 70 5 1 65,Bi 71 70 0 65,Bi 72 71 0 65,Al 73 72 65,Ba 74 73 65,⟨some 75,.bin (.i) .lss (.s 69) (.s 74),some (65,false)⟩,Ar 76 65 75,Aa 77 76,Am 78 5 11 77,Bi 79 78 1 77,Al 80 79 77,Ba 81 80 77,Am 82 5 1 77,Bi 83 82 0 77,Bi 84 83 1 77,Al 85 84 77,Ba 86 85 77,⟨some 87,.bin (.i) .lss (.s 81) (.s 86),some (77,false)⟩,Ar 88 77 87] [3,5,88]<|Co 88 (Rq [Ad 6 8] [6]<|.ret)<|Sk [3,5])<|Sq (Rq [Ac 89 5 1,Aj 90 89 0,Aj 91 90 0,Ab 92 91,Ac 93 5 6,Aj 94 93 0,Aj 95 94 0,Ab 96 95,En 97 1 92 96,Au 98 53 97,Ag 99 98,Ad 100 0] [3,5,98,99,100]<|Bl 0<|Lo [3,5,98,99,100]<|Rq [Ap 101 100 99] [3,5,98,99,100,101]<|Sq (Co 101 (Sk [3,5,98,99,100])<|Ex 0 [3,5])<|Sq (Bl 1<|Rq [Ah 102 98 100 1,Ab 103 102,Ep 11 0,Ak 1 11 103,Dc 11] [3,5,11,98,99,100]<|Rq [Ac 104 3 0,Ab 105 104,Cm 106 55 11,An 107 54 105 106] [3,5,98,99,100,107]<|Co 107 (Rq [Ad 6 13] [6]<|.ret)<|Sk [3,5,98,99,100])<|Re [Ao 108 100 1,Aa 100 108] [3,5,98,99,100])<|Sq (Rq [Ac 109 5 1,Aj 110 109 0,Aj 111 110 1,Ab 112 111,Ag 113 112,Ad 114 0] [3,5,112,113,114]<|Bl 2<|Lo [3,5,112,113,114]<|Rq [Ap 115 114 113] [3,5,112,113,114,115]<|Sq (Co 115 (Sk [3,5,112,113,114])<|Ex 2 [])<|Sq (Bl 3<|Rq [Ah 116 112 114 3,Ae 117 116 3,Cd 13 0 0 0,Ak 3 13 117] [3,5,13,112,113,114]<|Sq (Dr [118,119,120,121,122,123,124,125,126,127,128,129,130,131,132,133,134,135,136,137,138] [Ae 118 3 2,Ac 119 13 0,Ab 120 119,Ac 121 5 1,Aj 122 121 0,Aj 123 122 0,Ab 124 123,Ac 125 13 1,Ab 126 125,Ah 127 124 126 1,Ab 128 127,Ac 129 5 1,Aj 130 129 0,Aj 131 130 0,Ab 132 131,Ac 133 13 2,Ab 134 133,Ah 135 132 134 1,Ab 136 135,Cg 137 56 118 120 128 136,Ay 138 137] [3,5,112,113,114,138])<|Co 138 (Rq [Ad 6 13] [6]<|.ret)<|Sk [3,5,112,113,114])<|Re [Ao 139 114 1,Aa 114 139] [3,5,112,113,114])<|Rq [Ad 6 0] [6]<|.ret) [.tmp 6]:= by decide +kernel
theorem c15 (t:Types) (s_1:Sorts) (r_2:Rule) (r:Int) (h:triplerule_Valid t s_1 r_2=some r):Sound prog 15 [eTypes t,eSorts s_1,eRule r_2] (.sh (eI r)):= by
 refine Fn ck15 fun hw=>?_
 unfold triplerule_Valid at h
 refine D<|F<|a1 rfl rfl<|a1 rfl rfl<|a1 rfl rfl<|C rfl<|E (kt<|kt<|kt<|kn) fun _=>?_
 refine D<|D<|F<|R rfl rfl (show _=eTypes t from rfl)<|R rfl rfl (show _=eSorts s_1 from rfl) ?_
 obtain ⟨x16,hx16,h⟩:=J h
 refine W rfl (c51 t s_1 _ hx16)<|C rfl<|E (kt<|kt<|kt<|kn) fun _=>?_
 refine D<|F<|C rfl<|a7 rfl rfl<|E (kt<|kt<|kt<|kt<|kn) fun _=>?_
 refine U rfl (fun hc18=>?_) (fun hc18=>?_)
 ·replace h:=M hc18 h
  refine D<|F<|C rfl<|C rfl<|E (kt<|kn) fun _=>?_
  exact L (by cases h;rfl)
 ·replace h:=O hc18 h
  refine P (kt<|kt<|kn) fun _=>?_
  refine D<|D<|F<|R rfl rfl (show _=eTypes t from rfl)<|R rfl rfl (show _=eRule r_2 from rfl) ?_
  obtain ⟨x22,hx22,h⟩:=J h
  refine W rfl (c52 t r_2 _ hx22)<|C rfl<|E (kt<|kt<|kt<|kn) fun _=>?_
  refine D<|F<|C rfl<|a7 rfl rfl<|E (kt<|kt<|kt<|kt<|kn) fun _=>?_
  refine U rfl (fun hc24=>?_) (fun hc24=>?_)
  ·replace h:=M hc24 h
   refine D<|F<|C rfl<|C rfl<|E (kt<|kn) fun _=>?_
   exact L (by cases h;rfl)
  ·replace h:=O hc24 h
   refine P (kt<|kt<|kn) fun _=>?_
   refine D<|F<|K rfl<|a6 rfl<|I rfl<|V rfl rfl<|K rfl<|a6 rfl<|I rfl<|V rfl rfl<|a5 rfl rfl<|K rfl<|a6 rfl<|I rfl<|V rfl rfl<|a5 rfl rfl<|K rfl<|a6 rfl<|I rfl<|V rfl rfl<|a5 rfl rfl<|b8 rfl rfl<|C rfl ?_
   refine gA 5 [47,48,49,50] 51 (decide ((w64 ((w64 ((w64 ((r_2.Left.Slots.length:Int)+(r_2.Left.Tests.length:Int)))+(r_2.Right.Slots.length:Int)))+(r_2.Right.Tests.length:Int)))=0)) (decide (r_2.Left.Vars=0)) (fun hg51=>?_) (fun hg51=>?_) ?_
   ·refine G rfl hg51<|K rfl<|G rfl hg51<|a6 rfl<|G rfl hg51<|I rfl<|G rfl hg51<|b8 rfl rfl<|Z rfl hg51 rfl ?_
    exact ⟨⟨_,_,_,_,rfl⟩⟩
   ·refine H rfl hg51<|H rfl hg51<|H rfl hg51<|H rfl hg51<|a0 rfl hg51 rfl ?_
    exact ⟨⟨_,_,_,_,rfl⟩⟩
   rintro _ ⟨_,_,_,_,rfl⟩
   refine C rfl<|E (kt<|kt<|kt<|kn) fun _=>?_
   refine D<|D<|F<|C rfl<|b7 rfl<|C rfl ?_
   refine gO 4 [55,56,57] 58 (!((decide ((w64 ((w64 ((w64 ((r_2.Left.Slots.length:Int)+(r_2.Left.Tests.length:Int)))+(r_2.Right.Slots.length:Int)))+(r_2.Right.Tests.length:Int)))=0))&&(decide (r_2.Left.Vars=0)))) (!r_2.Injective) (fun hg58=>?_) (fun hg58=>?_) ?_
   ·refine H rfl hg58<|H rfl hg58<|H rfl hg58<|Z rfl hg58 rfl ?_
    exact ⟨⟨_,_,_,rfl⟩⟩
   ·refine G rfl hg58<|K rfl<|G rfl hg58<|I rfl<|G rfl hg58<|b7 rfl<|a0 rfl hg58 rfl ?_
    exact ⟨⟨_,_,_,rfl⟩⟩
   rintro _ ⟨_,_,_,rfl⟩
   refine C rfl ?_
   refine gO 5 [60,61,62,63] 64 ((!((decide ((w64 ((w64 ((w64 ((r_2.Left.Slots.length:Int)+(r_2.Left.Tests.length:Int)))+(r_2.Right.Slots.length:Int)))+(r_2.Right.Tests.length:Int)))=0))&&(decide (r_2.Left.Vars=0))))||(!r_2.Injective)) (!decide (r_2.Condition.Kind=1)) (fun hg64=>?_) (fun hg64=>?_) ?_
   ·refine H rfl hg64<|H rfl hg64<|H rfl hg64<|H rfl hg64<|Z rfl hg64 rfl ?_
    exact ⟨⟨_,_,_,_,rfl⟩⟩
   ·refine G rfl hg64<|K rfl<|G rfl hg64<|a6 rfl<|G rfl hg64<|I rfl<|G rfl hg64<|a7 rfl rfl<|a0 rfl hg64 rfl ?_
    exact ⟨⟨_,_,_,_,rfl⟩⟩
   rintro _ ⟨_,_,_,_,rfl⟩
   refine C rfl ?_
   refine gO 11 [66,67,68,69,70,71,72,73,74,75] 76 (((!((decide ((w64 ((w64 ((w64 ((r_2.Left.Slots.length:Int)+(r_2.Left.Tests.length:Int)))+(r_2.Right.Slots.length:Int)))+(r_2.Right.Tests.length:Int)))=0))&&(decide (r_2.Left.Vars=0))))||(!r_2.Injective))||(!decide (r_2.Condition.Kind=1))) (decide ((r_2.Keep.Nodes.length:Int)<(r_2.Left.Graph.Nodes.length:Int))) (fun hg76=>?_) (fun hg76=>?_) ?_
   ·refine H rfl hg76<|H rfl hg76<|H rfl hg76<|H rfl hg76<|H rfl hg76<|H rfl hg76<|H rfl hg76<|H rfl hg76<|H rfl hg76<|H rfl hg76<|Z rfl hg76 rfl ?_
    exact ⟨⟨_,_,_,_,_,_,_,_,_,_,rfl⟩⟩
   ·refine G rfl hg76<|K rfl<|G rfl hg76<|a6 rfl<|G rfl hg76<|I rfl<|G rfl hg76<|V rfl rfl<|G rfl hg76<|K rfl<|G rfl hg76<|a6 rfl<|G rfl hg76<|a6 rfl<|G rfl hg76<|I rfl<|G rfl hg76<|V rfl rfl<|G rfl hg76<|X rfl rfl<|a0 rfl hg76 rfl ?_
    exact ⟨⟨_,_,_,_,_,_,_,_,_,_,rfl⟩⟩
   rintro _ ⟨_,_,_,_,_,_,_,_,_,_,rfl⟩
   refine C rfl ?_
   refine gO 11 [78,79,80,81,82,83,84,85,86,87] 88 ((((!((decide ((w64 ((w64 ((w64 ((r_2.Left.Slots.length:Int)+(r_2.Left.Tests.length:Int)))+(r_2.Right.Slots.length:Int)))+(r_2.Right.Tests.length:Int)))=0))&&(decide (r_2.Left.Vars=0))))||(!r_2.Injective))||(!decide (r_2.Condition.Kind=1)))||(decide ((r_2.Keep.Nodes.length:Int)<(r_2.Left.Graph.Nodes.length:Int)))) (decide ((r_2.Keep.Edges.length:Int)<(r_2.Left.Graph.Edges.length:Int))) (fun hg88=>?_) (fun hg88=>?_) ?_
   ·refine H rfl hg88<|H rfl hg88<|H rfl hg88<|H rfl hg88<|H rfl hg88<|H rfl hg88<|H rfl hg88<|H rfl hg88<|H rfl hg88<|H rfl hg88<|Z rfl hg88 rfl ?_
    exact ⟨⟨_,_,_,_,_,_,_,_,_,_,rfl⟩⟩
   ·refine G rfl hg88<|K rfl<|G rfl hg88<|a6 rfl<|G rfl hg88<|I rfl<|G rfl hg88<|V rfl rfl<|G rfl hg88<|K rfl<|G rfl hg88<|a6 rfl<|G rfl hg88<|a6 rfl<|G rfl hg88<|I rfl<|G rfl hg88<|V rfl rfl<|G rfl hg88<|X rfl rfl<|a0 rfl hg88 rfl ?_
    exact ⟨⟨_,_,_,_,_,_,_,_,_,_,rfl⟩⟩
   rintro _ ⟨_,_,_,_,_,_,_,_,_,_,rfl⟩
   refine E (kt<|kt<|kt<|kn) fun _=>?_
   refine U rfl (fun hc88=>?_) (fun hc88=>?_)
   ·replace h:=M hc88 h
    refine D<|F<|C rfl<|E (kt<|kn) fun _=>?_
    exact L (by cases h;rfl)
   ·replace h:=O hc88 h
    refine P (kt<|kt<|kn) fun _=>?_
    refine D<|D<|F<|K rfl<|a6 rfl<|a6 rfl<|I rfl<|K rfl<|a6 rfl<|a6 rfl<|I rfl<|e2 (e:=lI) (l:=[r_2.Left.Graph.Nodes,r_2.Right.Graph.Nodes]) rfl rfl (fun _=>rfl) ?_
    obtain ⟨x98,hx98,h⟩:=J h
    refine W rfl (c53 [r_2.Left.Graph.Nodes,r_2.Right.Graph.Nodes] _ hx98)<|V rfl rfl<|C rfl<|E (kt<|kt<|kt<|kt<|kt<|kn) fun _=>?_
    obtain ⟨o0,ho0,h⟩:=d0 h
    refine d5 ho0 (fun (i0:Int) (_:Unit)=>[(3,.tv (.pt (eTypes t).cells)),(5,.tv (.pt (eRule r_2).cells)),(98,.tv (lI x98)),(99,.tv (eI (x98.length:Int))),(100,.tv (eI i0))]) (fun (_:Unit)=>[(3,.tv (.pt (eTypes t).cells)),(5,.tv (.pt (eRule r_2).cells))]) (fun zv ze=>resIs ([.tmp 6]) (.sh (eI zv)) ze) rfl ?_ ?_ ?_ ?_
    ·clear h ho0
     intro i0 s0 r0 hi0 h hw0
     refine D<|F<|X rfl rfl<|E (kt<|kt<|kt<|kt<|kt<|kt<|kn) fun _=>?_
     refine D<|b3 rfl (b4 hi0)<|P (kt<|kt<|kt<|kt<|kt<|kn) fun _=>?_
     refine D<|a8<|D<|F ?_
     obtain ⟨x102,hx102,h⟩:=J h
     refine a2 rfl rfl rfl hx102 rfl<|I rfl<|b1 rfl<|a9 rfl rfl rfl rfl rfl<|l3 rfl rfl<|E (kt<|kt<|kt<|kt<|kt<|kt<|kn) fun _=>?_
     refine D<|F<|K rfl<|I rfl<|g2 rfl ?_
     obtain ⟨x107,hx107,h⟩:=J h
     refine W rfl (c54 t.Nodes (fun y0=>triplerule_Valid_1 y0 x102) _ _ (fun y0 r h=>c55 y0 x102 r h) _ hx107)<|E (kt<|kt<|kt<|kt<|kt<|kt<|kn) fun _=>?_
     refine U rfl (fun hc107=>?_) (fun hc107=>?_)
     ·replace h:=M hc107 h
      refine D<|F<|C rfl<|E (kt<|kn) fun _=>?_
      refine L ?_
      cases h
      exact ⟨_,rfl,rfl⟩
     ·replace h:=O hc107 h
      refine P (kt<|kt<|kt<|kt<|kt<|kn) fun _=>?_
      refine F<|a5 rfl rfl<|C rfl<|E (kt<|kt<|kt<|kt<|kt<|kn) ?_
      cases h
      refine ⟨_,rfl,?_⟩
      rw [Ktv rfl (Ktv rfl (Ktv rfl (Ktv rfl (Ktv rfl (Knil _)))))]
      rw [b2 (a4 (hw0 100)) hi0 (d9 (a4 (hw0 99)))]
      all_goals rfl
    ·intro i0 s0 hi0
     refine D<|F<|X rfl rfl<|E (kt<|kt<|kt<|kt<|kt<|kt<|kn) fun _=>?_
     refine D<|b5 rfl (b6 hi0)<|b0 (kt<|kt<|kn) ?_
     exact ⟨rfl,rfl⟩
    ·intro s0 hs
     replace h:=d1 h hs
     intro _
     refine D<|D<|F<|K rfl<|a6 rfl<|a6 rfl<|I rfl<|V rfl rfl<|C rfl<|E (kt<|kt<|kt<|kt<|kt<|kn) fun _=>?_
     obtain ⟨o2,ho2,h⟩:=d0 h
     refine d5 ho2 (fun (i2:Int) (_:Unit)=>[(3,.tv (.pt (eTypes t).cells)),(5,.tv (.pt (eRule r_2).cells)),(112,.tv (lE r_2.Left.Graph.Edges)),(113,.tv (eI (r_2.Left.Graph.Edges.length:Int))),(114,.tv (eI i2))]) (fun (_:Unit)=>[]) (fun zv ze=>resIs ([.tmp 6]) (.sh (eI zv)) ze) rfl ?_ ?_ ?_ ?_
     ·clear h ho2
      intro i2 s2 r2 hi2 h hw2
      refine D<|F<|X rfl rfl<|E (kt<|kt<|kt<|kt<|kt<|kt<|kn) fun _=>?_
      refine D<|b3 rfl (b4 hi2)<|P (kt<|kt<|kt<|kt<|kt<|kn) fun _=>?_
      refine D<|a8<|D<|F ?_
      obtain ⟨x116,hx116,h⟩:=J h
      refine a2 rfl rfl rfl hx116 rfl<|R rfl rfl (show _=eEdge x116 from rfl)<|b1 rfl<|a9 rfl rfl rfl rfl rfl<|E (kt<|kt<|kb<|kt<|kt<|kt<|kn) fun _=>?_
      refine D<|d4 rfl<|R rfl rfl (show _=eTypes t from rfl)<|a3 rfl<|I rfl<|K rfl<|a6 rfl<|a6 rfl<|I rfl<|a3 rfl<|I rfl ?_
      obtain ⟨x127,hx127,h⟩:=J h
      refine a2 rfl rfl rfl hx127 rfl<|I rfl<|K rfl<|a6 rfl<|a6 rfl<|I rfl<|a3 rfl<|I rfl ?_
      obtain ⟨x135,hx135,h⟩:=J h
      refine a2 rfl rfl rfl hx135 rfl<|I rfl ?_
      obtain ⟨x137,hx137,h⟩:=J h
      refine W rfl (c56 t x116.Type' x127 x135 _ hx137)<|b7 rfl<|E (kt<|kt<|kt<|kt<|kt<|kt<|kn) fun _=>?_
      refine U rfl (fun hc138=>?_) (fun hc138=>?_)
      ·replace h:=M hc138 h
       refine D<|F<|C rfl<|E (kt<|kn) fun _=>?_
       refine L ?_
       cases h
       exact ⟨_,rfl,rfl⟩
      ·replace h:=O hc138 h
       refine P (kt<|kt<|kt<|kt<|kt<|kn) fun _=>?_
       refine F<|a5 rfl rfl<|C rfl<|E (kt<|kt<|kt<|kt<|kt<|kn) ?_
       cases h
       refine ⟨_,rfl,?_⟩
       rw [Ktv rfl (Ktv rfl (Ktv rfl (Ktv rfl (Ktv rfl (Knil _)))))]
       rw [b2 (a4 (hw2 114)) hi2 (d9 (a4 (hw2 113)))]
       all_goals rfl
     ·intro i2 s2 hi2
      refine D<|F<|X rfl rfl<|E (kt<|kt<|kt<|kt<|kt<|kt<|kn) fun _=>?_
      refine D<|b5 rfl (b6 hi2)<|b0 (kn) ?_
      exact ⟨rfl,rfl⟩
     ·intro s2 hs
      replace h:=d1 h hs
      intro _
      refine D<|F<|C rfl<|E (kt<|kn) fun _=>?_
      exact L (by cases h;rfl)
     ·intro v2 ze hv hR
      replace h:=d2 h hv
      cases h
      exact hR
    ·intro v0 ze hv hR
     replace h:=d2 h hv
     cases h
     exact hR
theorem ck87:CK f87 (Rq [Af 3 0,Dm 6 1 3 1 1] [1,2,3,6]<|Rq [Dm 7 1 3 1 1] [1,2,3,6,7]<|Sq (Rq [Ac 12 3 0,Ab 13 12,Ag 14 13,Ad 15 0] [1,2,3,6,7,13,14,15]<|Bl 0<|Lo [1,2,3,6,7,13,14,15]<|Rq [Ap 16 15 14] [1,2,3,6,7,13,14,15,16]<|Sq (Co 16 (Sk [1,2,3,6,7,13,14,15])<|Ex 0 [2,3,6,7])<|Sq (Bl 1<|Rq [Aa 17 15,Ah 18 13 15 1,Ab 19 18,Aa 8 17,Aa 9 19] [1,2,3,6,7,8,9,13,14,15]<|Rq [Aa 20 1,Aa 21 8,Ch 22 20 21] [1,2,3,6,7,8,9,13,14,15,22]<|Co 22 (Rq [Ac 23 7 2,Bp 24 23,Aa 25 8,Bh 26 1 25,Bc 27 1 24 26,Ac 28 7 2,Bm 1 28 27] [1,2,3,6,7,9,13,14,15]<|Re [Ac 29 7 0,Aj 30 29 0,Bp 31 30,Aa 32 9,Bh 33 1 32,Bc 34 1 31 33,Ac 35 7 0,Aj 36 35 0,Bm 1 36 34] [1,2,3,6,7,13,14,15])<|Sk [1,2,3,6,7,13,14,15])<|Re [Ao 37 15 1,Aa 15 37] [1,2,3,6,7,13,14,15])<|Sq (Rq [Ac 38 3 1,Ab 39 38,Ag 40 39,Ad 41 0] [2,6,7,39,40,41]<|Bl 2<|Lo [2,6,7,39,40,41]<|Rq [Ap 42 41 40] [2,6,7,39,40,41,42]<|Sq (Co 42 (Sk [2,6,7,39,40,41])<|Ex 2 [6,7])<|Sq (Bl 3<|Rq [Aa 43 41,Ah 44 39 41 3,Ae 45 44 3,Cd 11 0 0 0,Aa 10 43,Ak 3 11 45] [2,6,7,10,11,39,40,41]<|Rq [Aa 46 2,Aa 47 10,Ch 48 46 47] [2,6,7,10,11,39,40,41,48]<|Co 48 (Rq [Ac 49 7 3,Bp 50 49,Aa 51 10,Bh 52 1 51,Bc 53 1 50 52,Ac 54 7 3,Bm 1 54 53] [2,6,7,11,39,40,41]<|Dr [55,56,57,58,59,60,61,62,63,64,65,66,67,68,69,70,71,72,73,74] [Ac 55 7 0,Aj 56 55 1,Bp 57 56,Ac 58 11 0,Ab 59 58,Ac 60 7 2,Ab 61 60,Ac 62 11 1,Ab 63 62,An 64 90 61 63,Ac 65 7 2,Ab 66 65,Ac 67 11 2,Ab 68 67,An 69 90 66 68,Ed 70 0 0 0 0 1 59 1 1 64 2 1 69,Bh 71 3 70,Bc 72 3 57 71,Ac 73 7 0,Aj 74 73 1,Bm 1 74 72] [2,6,7,39,40,41])<|Sk [2,6,7,39,40,41])<|Re [Ao 75 41 1,Aa 41 75] [2,6,7,39,40,41])<|Rq [Ae 76 7 4,Ak 4 6 76] [6]<|.ret) [.cell 6 (some 4)]:= by decide +kernel
theorem c87 (g:Graph) (node:Int->Option Bool) (f_node:FuncId) (k_node:List TV) (h_node:∀ (y0:Int) r,node y0=some r->Sound prog f_node ([eI y0]++k_node) (.sh (eB r))) (edge:Int->Option Bool) (f_edge:FuncId) (k_edge:List TV) (h_edge:∀ (y0:Int) r,edge y0=some r->Sound prog f_edge ([eI y0]++k_edge) (.sh (eB r))) (r:triplerule_chosen) (h:triplerule_choose g node edge=some r):Sound prog 87 [eGraph g,.clo f_node k_node,.clo f_edge k_edge] (.sh (etriplerule_chosen r)):= by
 refine Fn ck87 fun hw=>?_
 unfold triplerule_choose at h
 refine D<|F<|a1 rfl rfl<|b1 rfl<|E (kt<|kt<|kt<|kb<|kn) fun _=>?_
 refine D<|F<|b1 rfl<|E (kt<|kt<|kt<|kb<|kb<|kn) fun _=>?_
 refine D<|D<|F<|K rfl<|I rfl<|V rfl rfl<|C rfl<|E (kt<|kt<|kt<|kb<|kb<|kt<|kt<|kt<|kn) fun _=>?_
 obtain ⟨s0,hs0,h⟩:=J h
 refine f8 hs0 (fun (i0:Int) (s0:triplerule_chosen)=>[(1,.tv (.clo f_node k_node)),(2,.tv (.clo f_edge k_edge)),(3,.tv (.pt (eGraph g).cells)),(6,.bx [⟨true,lI []⟩,⟨true,lE []⟩,⟨true,lI []⟩,⟨true,lI []⟩]),(7,.bx [⟨true,lI s0.graph.Nodes⟩,⟨true,lE s0.graph.Edges⟩,⟨true,lI s0.nodes⟩,⟨true,lI s0.edges⟩]),(13,.tv (lI g.Nodes)),(14,.tv (eI (g.Nodes.length:Int))),(15,.tv (eI i0))]) (fun (s0:triplerule_chosen)=>[(2,.tv (.clo f_edge k_edge)),(3,.tv (.pt (eGraph g).cells)),(6,.bx [⟨true,lI []⟩,⟨true,lE []⟩,⟨true,lI []⟩,⟨true,lI []⟩]),(7,.bx [⟨true,lI s0.graph.Nodes⟩,⟨true,lE s0.graph.Edges⟩,⟨true,lI s0.nodes⟩,⟨true,lI s0.edges⟩])]) rfl ?_ ?_ ?_
 ·clear h hs0
  intro i0 s0 r0 hi0 h hw0
  refine D<|F<|X rfl rfl<|E (kt<|kt<|kt<|kb<|kb<|kt<|kt<|kt<|kt<|kn) fun _=>?_
  refine D<|b3 rfl (b4 hi0)<|P (kt<|kt<|kt<|kb<|kb<|kt<|kt<|kt<|kn) fun _=>?_
  refine D<|a8<|D<|F<|C rfl ?_
  obtain ⟨x18,hx18,h⟩:=J h
  refine a2 rfl rfl rfl hx18 rfl<|I rfl<|C rfl<|C rfl<|E (kt<|kt<|kt<|kb<|kb<|kt<|kt<|kt<|kt<|kt<|kn) fun _=>?_
  refine D<|F<|C rfl<|C rfl ?_
  obtain ⟨x22,hx22,h⟩:=J h
  refine g6 rfl rfl (h_node _ _ hx22)<|E (kt<|kt<|kt<|kb<|kb<|kt<|kt<|kt<|kt<|kt<|kt<|kn) fun _=>?_
  refine U rfl (fun hc22=>?_) (fun hc22=>?_)
  ·replace h:=M hc22 h
   refine D<|F<|a3 rfl<|f6 rfl rfl rfl rfl<|C rfl<|e2 (e:=eI) (l:=[i0]) rfl rfl (fun _=>rfl) ?_
   obtain ⟨x27,hx27,h⟩:=J h
   refine e5 rfl rfl rfl rfl hx27 rfl<|a3 rfl<|f4 rfl rfl rfl (by decide) rfl rfl<|E (kt<|kt<|kt<|kb<|kb<|kt<|kt<|kt<|kt<|kn) fun _=>?_
   refine F<|a3 rfl<|f3 rfl rfl<|f6 rfl rfl rfl rfl<|C rfl<|e2 (e:=eI) (l:=[x18]) rfl rfl (fun _=>rfl) ?_
   obtain ⟨x34,hx34,h⟩:=J h
   refine e5 rfl rfl rfl rfl hx34 rfl<|a3 rfl<|f3 rfl rfl<|f4 rfl rfl rfl (by decide) rfl rfl<|E (kt<|kt<|kt<|kb<|kb<|kt<|kt<|kt<|kn) fun _=>?_
   refine F<|a5 rfl rfl<|C rfl<|E (kt<|kt<|kt<|kb<|kb<|kt<|kt<|kt<|kn) ?_
   cases h
   show Env.keep _ _=_
   rw [Ktv rfl (Ktv rfl (Ktv rfl (Kbx rfl (Kbx rfl (Ktv rfl (Ktv rfl (Ktv rfl (Knil _))))))))]
   rw [b2 (a4 (hw0 15)) hi0 (d9 (a4 (hw0 14)))]
   all_goals rfl
  ·replace h:=O hc22 h
   refine P (kt<|kt<|kt<|kb<|kb<|kt<|kt<|kt<|kn) fun _=>?_
   refine F<|a5 rfl rfl<|C rfl<|E (kt<|kt<|kt<|kb<|kb<|kt<|kt<|kt<|kn) ?_
   cases h
   show Env.keep _ _=_
   rw [Ktv rfl (Ktv rfl (Ktv rfl (Kbx rfl (Kbx rfl (Ktv rfl (Ktv rfl (Ktv rfl (Knil _))))))))]
   rw [b2 (a4 (hw0 15)) hi0 (d9 (a4 (hw0 14)))]
   all_goals rfl
 ·intro i0 s0 hi0
  refine D<|F<|X rfl rfl<|E (kt<|kt<|kt<|kb<|kb<|kt<|kt<|kt<|kt<|kn) fun _=>?_
  refine D<|b5 rfl (b6 hi0)<|b0 (kt<|kt<|kb<|kb<|kn) ?_
  exact ⟨rfl,rfl⟩
 ·intro _
  refine D<|D<|F<|K rfl<|I rfl<|V rfl rfl<|C rfl<|E (kt<|kb<|kb<|kt<|kt<|kt<|kn) fun _=>?_
  obtain ⟨s2,hs2,h⟩:=J h
  refine f8 hs2 (fun (i2:Int) (s2:triplerule_chosen)=>[(2,.tv (.clo f_edge k_edge)),(6,.bx [⟨true,lI []⟩,⟨true,lE []⟩,⟨true,lI []⟩,⟨true,lI []⟩]),(7,.bx [⟨true,lI s2.graph.Nodes⟩,⟨true,lE s2.graph.Edges⟩,⟨true,lI s2.nodes⟩,⟨true,lI s2.edges⟩]),(39,.tv (lE g.Edges)),(40,.tv (eI (g.Edges.length:Int))),(41,.tv (eI i2))]) (fun (s2:triplerule_chosen)=>[(6,.bx [⟨true,lI []⟩,⟨true,lE []⟩,⟨true,lI []⟩,⟨true,lI []⟩]),(7,.bx [⟨true,lI s2.graph.Nodes⟩,⟨true,lE s2.graph.Edges⟩,⟨true,lI s2.nodes⟩,⟨true,lI s2.edges⟩])]) rfl ?_ ?_ ?_
  ·clear h hs2
   intro i2 s2 r2 hi2 h hw2
   refine D<|F<|X rfl rfl<|E (kt<|kb<|kb<|kt<|kt<|kt<|kt<|kn) fun _=>?_
   refine D<|b3 rfl (b4 hi2)<|P (kt<|kb<|kb<|kt<|kt<|kt<|kn) fun _=>?_
   refine D<|a8<|D<|F<|C rfl ?_
   obtain ⟨x44,hx44,h⟩:=J h
   refine a2 rfl rfl rfl hx44 rfl<|R rfl rfl (show _=eEdge x44 from rfl)<|b1 rfl<|C rfl<|a9 rfl rfl rfl rfl rfl<|E (kt<|kb<|kb<|kt<|kb<|kt<|kt<|kt<|kn) fun _=>?_
   refine D<|F<|C rfl<|C rfl ?_
   obtain ⟨x48,hx48,h⟩:=J h
   refine g6 rfl rfl (h_edge _ _ hx48)<|E (kt<|kb<|kb<|kt<|kb<|kt<|kt<|kt<|kt<|kn) fun _=>?_
   refine U rfl (fun hc48=>?_) (fun hc48=>?_)
   ·replace h:=M hc48 h
    refine D<|F<|a3 rfl<|f6 rfl rfl rfl rfl<|C rfl<|e2 (e:=eI) (l:=[i2]) rfl rfl (fun _=>rfl) ?_
    obtain ⟨x53,hx53,h⟩:=J h
    refine e5 rfl rfl rfl rfl hx53 rfl<|a3 rfl<|f4 rfl rfl rfl (by decide) rfl rfl<|E (kt<|kb<|kb<|kb<|kt<|kt<|kt<|kn) fun _=>?_
    refine d4 rfl<|a3 rfl<|f3 rfl rfl<|f6 rfl rfl rfl rfl<|a3 rfl<|I rfl<|a3 rfl<|I rfl<|a3 rfl<|I rfl ?_
    obtain ⟨x64,hx64,h⟩:=J h
    refine W rfl (c90 s2.nodes x44.From _ hx64)<|a3 rfl<|I rfl<|a3 rfl<|I rfl ?_
    obtain ⟨x69,hx69,h⟩:=J h
    refine W rfl (c90 s2.nodes x44.To _ hx69)<|g5 rfl rfl rfl (show _=eEdge (Edge.mk x44.Type' x64 x69) from rfl)<|e2 (e:=eEdge) (l:=[Edge.mk x44.Type' x64 x69]) rfl rfl (fun _=>rfl) ?_
    obtain ⟨x72,hx72,h⟩:=J h
    refine e5 rfl rfl rfl rfl hx72 rfl<|a3 rfl<|f3 rfl rfl<|f4 rfl rfl rfl (by decide) rfl rfl<|E (kt<|kb<|kb<|kt<|kt<|kt<|kn) fun _=>?_
    refine F<|a5 rfl rfl<|C rfl<|E (kt<|kb<|kb<|kt<|kt<|kt<|kn) ?_
    cases h
    show Env.keep _ _=_
    rw [Ktv rfl (Kbx rfl (Kbx rfl (Ktv rfl (Ktv rfl (Ktv rfl (Knil _))))))]
    rw [b2 (a4 (hw2 41)) hi2 (d9 (a4 (hw2 40)))]
    all_goals rfl
   ·replace h:=O hc48 h
    refine P (kt<|kb<|kb<|kt<|kt<|kt<|kn) fun _=>?_
    refine F<|a5 rfl rfl<|C rfl<|E (kt<|kb<|kb<|kt<|kt<|kt<|kn) ?_
    cases h
    show Env.keep _ _=_
    rw [Ktv rfl (Kbx rfl (Kbx rfl (Ktv rfl (Ktv rfl (Ktv rfl (Knil _))))))]
    rw [b2 (a4 (hw2 41)) hi2 (d9 (a4 (hw2 40)))]
    all_goals rfl
  ·intro i2 s2 hi2
   refine D<|F<|X rfl rfl<|E (kt<|kb<|kb<|kt<|kt<|kt<|kt<|kn) fun _=>?_
   refine D<|b5 rfl (b6 hi2)<|b0 (kb<|kb<|kn) ?_
   exact ⟨rfl,rfl⟩
  ·intro _
   refine D<|F<|R rfl rfl (show _=etriplerule_chosen s2 from rfl)<|a9 rfl rfl rfl rfl rfl<|E (kb<|kn) fun _=>?_
   exact L (by cases h;rfl)
theorem ck88:CK f88 (Rq [Ai 5] [0,1,2,3]<|Sq (Dr [5,6,7,8,9,10,11,12,13,14,15,16] [Ac 6 1 0,Ab 7 6,Ac 8 2 0,Ab 9 8,Aa 10 0,Ah 11 9 10 1,Ab 12 11,Ah 13 7 12 1,Ab 14 13,Ab 15 3,By 16 14 15,Aa 5 16] [5])<|.ret) [.tmp 5]:= by decide +kernel
theorem c88 (i_0:Int) (c0:Sorts) (c1:Graph) (c2:Int) (r:Bool) (h:triplerule_side_1_1 i_0 c0 c1 c2=some r):Sound prog 88 [eI i_0,.pt (eSorts c0).cells,.pt (eGraph c1).cells,.pt [eI c2]] (.sh (eB r)):= by
 refine Fn ck88 fun hw=>?_
 unfold triplerule_side_1_1 at h
 refine D<|F<|C rfl<|E (kt<|kt<|kt<|kt<|kn) fun _=>?_
 refine D<|d4 rfl<|K rfl<|I rfl<|K rfl<|I rfl<|C rfl ?_
 obtain ⟨x11,hx11,h⟩:=J h
 refine a2 rfl rfl rfl hx11 rfl<|I rfl ?_
 obtain ⟨x13,hx13,h⟩:=J h
 refine a2 rfl rfl rfl hx13 rfl<|I rfl<|I rfl<|b8 rfl rfl<|C rfl<|E (kt<|kn) fun _=>?_
 exact L (by cases h;rfl)
theorem ck89:CK f89 (Rq [Ai 5] [0,1,2,3]<|Sq (Dr [5,6,7,8,9,10,11,12,13,14,15,16,17] [Ac 6 1 1,Ab 7 6,Ac 8 2 1,Ab 9 8,Aa 10 0,Ah 11 9 10 3,Aj 12 11 0,Ab 13 12,Ah 14 7 13 1,Ab 15 14,Ab 16 3,By 17 15 16,Aa 5 17] [5])<|.ret) [.tmp 5]:= by decide +kernel
theorem c89 (i_0:Int) (c0:Sorts) (c1:Graph) (c2:Int) (r:Bool) (h:triplerule_side_1_2 i_0 c0 c1 c2=some r):Sound prog 89 [eI i_0,.pt (eSorts c0).cells,.pt (eGraph c1).cells,.pt [eI c2]] (.sh (eB r)):= by
 refine Fn ck89 fun hw=>?_
 unfold triplerule_side_1_2 at h
 refine D<|F<|C rfl<|E (kt<|kt<|kt<|kt<|kn) fun _=>?_
 refine D<|d4 rfl<|K rfl<|I rfl<|K rfl<|I rfl<|C rfl ?_
 obtain ⟨x11,hx11,h⟩:=J h
 refine a2 rfl rfl rfl hx11 rfl<|a6 rfl<|I rfl ?_
 obtain ⟨x14,hx14,h⟩:=J h
 refine a2 rfl rfl rfl hx14 rfl<|I rfl<|I rfl<|b8 rfl rfl<|C rfl<|E (kt<|kn) fun _=>?_
 exact L (by cases h;rfl)
theorem ck86:CK f86 (Rq [Af 3 0,Dm 4 1 3 1 1] [1,2,3,4]<|Rq [Ae 5 3 2,⟨some 6,.clo 88 [.s 1,.s 3,.s 2],none⟩,⟨some 7,.clo 89 [.s 1,.s 3,.s 2],none⟩,Bf 8 87 5 6 7,Ak 4 4 8] [4]<|.ret) [.cell 4 (some 4)]:= by decide +kernel
theorem c86 (g:Graph) (c0:Sorts) (c1:Int) (r:triplerule_chosen) (h:triplerule_side_1 g c0 c1=some r):Sound prog 86 [eGraph g,.pt (eSorts c0).cells,.pt [eI c1]] (.sh (etriplerule_chosen r)):= by
 refine Fn ck86 fun hw=>?_
 unfold triplerule_side_1 at h
 refine D<|F<|a1 rfl rfl<|b1 rfl<|E (kt<|kt<|kt<|kb<|kn) fun _=>?_
 refine D<|F<|R rfl rfl (show _=eGraph g from rfl)<|g2 rfl<|g2 rfl ?_
 obtain ⟨x8,hx8,h⟩:=J h
 refine W rfl (c87 g (fun y0=>triplerule_side_1_1 y0 c0 g c1) _ _ (fun y0 r h=>c88 y0 c0 g c1 r h) (fun y0=>triplerule_side_1_2 y0 c0 g c1) _ _ (fun y0 r h=>c89 y0 c0 g c1 r h) _ hx8)<|a9 rfl rfl rfl rfl rfl<|E (kb<|kn) fun _=>?_
 exact L (by cases h;rfl)
theorem ck141:CK f141 (Rq [Af 1 0,Bd 2 1 1] [1,2]<|Rq [Bd 3 1 1] [1,2,3]<|Sq (Rq [Ac 6 1 0,Ab 7 6,Ag 8 7,Ad 9 0] [1,2,3,8,9]<|Bl 0<|Lo [1,2,3,8,9]<|Rq [Ap 10 9 8] [1,2,3,8,9,10]<|Sq (Co 10 (Sk [1,2,3,8,9])<|Ex 0 [1,2,3])<|Sq (Bl 1<|Rq [Aa 11 9,Aa 4 11] [1,2,3,4,8,9]<|Re [Ac 12 3 0,Bp 13 12,Aa 14 4,Bh 15 1 14,Bc 16 1 13 15,Ac 17 3 0,Bm 1 17 16] [1,2,3,8,9])<|Re [Ao 18 9 1,Aa 9 18] [1,2,3,8,9])<|Sq (Rq [Ac 19 1 1,Ab 20 19,Ag 21 20,Ad 22 0] [2,3,21,22]<|Bl 2<|Lo [2,3,21,22]<|Rq [Ap 23 22 21] [2,3,21,22,23]<|Sq (Co 23 (Sk [2,3,21,22])<|Ex 2 [2,3])<|Sq (Bl 3<|Rq [Aa 24 22,Aa 5 24] [2,3,5,21,22]<|Re [Ac 25 3 1,Bp 26 25,Aa 27 5,Bh 28 1 27,Bc 29 1 26 28,Ac 30 3 1,Bm 1 30 29] [2,3,21,22])<|Re [Ao 31 22 1,Aa 22 31] [2,3,21,22])<|Rq [Ae 32 3 2,Ak 2 2 32] [2]<|.ret) [.cell 2 (some 2)]:= by decide +kernel
theorem c141 (g:Graph) (r:Part) (h:triplerule_whole g=some r):Sound prog 141 [eGraph g] (.sh (ePart r)):= by
 refine Fn ck141 fun hw=>?_
 unfold triplerule_whole at h
 refine D<|F<|a1 rfl rfl<|b1 rfl<|E (kt<|kb<|kn) fun _=>?_
 refine D<|F<|b1 rfl<|E (kt<|kb<|kb<|kn) fun _=>?_
 refine D<|D<|F<|K rfl<|I rfl<|V rfl rfl<|C rfl<|E (kt<|kb<|kb<|kt<|kt<|kn) fun _=>?_
 obtain ⟨s0,hs0,h⟩:=J h
 refine f8 hs0 (fun (i0:Int) (s0:Part)=>[(1,.tv (.pt (eGraph g).cells)),(2,.bx [⟨true,lI []⟩,⟨true,lI []⟩]),(3,.bx [⟨true,lI s0.Nodes⟩,⟨true,lI s0.Edges⟩]),(8,.tv (eI (g.Nodes.length:Int))),(9,.tv (eI i0))]) (fun (s0:Part)=>[(1,.tv (.pt (eGraph g).cells)),(2,.bx [⟨true,lI []⟩,⟨true,lI []⟩]),(3,.bx [⟨true,lI s0.Nodes⟩,⟨true,lI s0.Edges⟩])]) rfl ?_ ?_ ?_
 ·clear h hs0
  intro i0 s0 r0 hi0 h hw0
  refine D<|F<|X rfl rfl<|E (kt<|kb<|kb<|kt<|kt<|kt<|kn) fun _=>?_
  refine D<|b3 rfl (b4 hi0)<|P (kt<|kb<|kb<|kt<|kt<|kn) fun _=>?_
  refine D<|a8<|D<|F<|C rfl<|C rfl<|E (kt<|kb<|kb<|kt<|kt<|kt<|kn) fun _=>?_
  refine F<|a3 rfl<|f6 rfl rfl rfl rfl<|C rfl<|e2 (e:=eI) (l:=[i0]) rfl rfl (fun _=>rfl) ?_
  obtain ⟨x16,hx16,h⟩:=J h
  refine e5 rfl rfl rfl rfl hx16 rfl<|a3 rfl<|f4 rfl rfl rfl (by decide) rfl rfl<|E (kt<|kb<|kb<|kt<|kt<|kn) fun _=>?_
  refine F<|a5 rfl rfl<|C rfl<|E (kt<|kb<|kb<|kt<|kt<|kn) ?_
  cases h
  show Env.keep _ _=_
  rw [Ktv rfl (Kbx rfl (Kbx rfl (Ktv rfl (Ktv rfl (Knil _)))))]
  rw [b2 (a4 (hw0 9)) hi0 (d9 (a4 (hw0 8)))]
  all_goals rfl
 ·intro i0 s0 hi0
  refine D<|F<|X rfl rfl<|E (kt<|kb<|kb<|kt<|kt<|kt<|kn) fun _=>?_
  refine D<|b5 rfl (b6 hi0)<|b0 (kt<|kb<|kb<|kn) ?_
  exact ⟨rfl,rfl⟩
 ·intro _
  refine D<|D<|F<|K rfl<|I rfl<|V rfl rfl<|C rfl<|E (kb<|kb<|kt<|kt<|kn) fun _=>?_
  obtain ⟨s2,hs2,h⟩:=J h
  refine f8 hs2 (fun (i2:Int) (s2:Part)=>[(2,.bx [⟨true,lI []⟩,⟨true,lI []⟩]),(3,.bx [⟨true,lI s2.Nodes⟩,⟨true,lI s2.Edges⟩]),(21,.tv (eI (g.Edges.length:Int))),(22,.tv (eI i2))]) (fun (s2:Part)=>[(2,.bx [⟨true,lI []⟩,⟨true,lI []⟩]),(3,.bx [⟨true,lI s2.Nodes⟩,⟨true,lI s2.Edges⟩])]) rfl ?_ ?_ ?_
  ·clear h hs2
   intro i2 s2 r2 hi2 h hw2
   refine D<|F<|X rfl rfl<|E (kb<|kb<|kt<|kt<|kt<|kn) fun _=>?_
   refine D<|b3 rfl (b4 hi2)<|P (kb<|kb<|kt<|kt<|kn) fun _=>?_
   refine D<|a8<|D<|F<|C rfl<|C rfl<|E (kb<|kb<|kt<|kt<|kt<|kn) fun _=>?_
   refine F<|a3 rfl<|f6 rfl rfl rfl rfl<|C rfl<|e2 (e:=eI) (l:=[i2]) rfl rfl (fun _=>rfl) ?_
   obtain ⟨x29,hx29,h⟩:=J h
   refine e5 rfl rfl rfl rfl hx29 rfl<|a3 rfl<|f4 rfl rfl rfl (by decide) rfl rfl<|E (kb<|kb<|kt<|kt<|kn) fun _=>?_
   refine F<|a5 rfl rfl<|C rfl<|E (kb<|kb<|kt<|kt<|kn) ?_
   cases h
   show Env.keep _ _=_
   rw [Kbx rfl (Kbx rfl (Ktv rfl (Ktv rfl (Knil _))))]
   rw [b2 (a4 (hw2 22)) hi2 (d9 (a4 (hw2 21)))]
   all_goals rfl
  ·intro i2 s2 hi2
   refine D<|F<|X rfl rfl<|E (kb<|kb<|kt<|kt<|kt<|kn) fun _=>?_
   refine D<|b5 rfl (b6 hi2)<|b0 (kb<|kb<|kn) ?_
   exact ⟨rfl,rfl⟩
  ·intro _
   refine D<|F<|R rfl rfl (show _=ePart s2 from rfl)<|a9 rfl rfl rfl rfl rfl<|E (kb<|kn) fun _=>?_
   exact L (by cases h;rfl)
theorem ck91:CK f91 (Rq [Af 4 0,Af 5 1,Af 6 2,Af 7 3,Ca 8 1 3 4 0 5 1 3 4 0 5 1 1 1 1 0 9 1 1 1 3 4 0 5] [4,5,6,7,8]<|Sq (Dr [8,9,10,11,12,13,14,15,16,17,18,19] [Ac 9 4 0,Ab 10 9,Ae 11 5 2,Dn 12 1 3 4 0 5 0 2 11,Ae 13 6 2,Dn 14 1 3 4 0 5 0 2 13,Ae 15 5 2,Au 16 141 15,Ae 17 7 2,Eq 18 0 9 1 1 1 3 4 0 5 0 1 1,Fg 19 1 3 4 0 5 1 3 4 0 5 1 1 1 1 0 9 1 1 1 3 4 0 5 0 1 10 1 5 12 6 5 14 11 2 16 13 2 17 15 1 16 9 18,Ak 25 8 19] [8])<|.ret) [.cell 8 (some 25)]:= by decide +kernel
theorem c91 (r_0:Rule) (left:Graph) (right:Graph) (into:Morphism) (r:Rule) (h:triplerule_made r_0 left right into=some r):Sound prog 91 [eRule r_0,eGraph left,eGraph right,eMorphism into] (.sh (eRule r)):= by
 refine Fn ck91 fun hw=>?_
 unfold triplerule_made at h
 refine D<|F<|a1 rfl rfl<|a1 rfl rfl<|a1 rfl rfl<|a1 rfl rfl<|b1 rfl<|E (kt<|kt<|kt<|kt<|kb<|kn) fun _=>?_
 refine D<|d4 rfl<|K rfl<|I rfl<|R rfl rfl (show _=eGraph left from rfl)<|e7 rfl rfl (show _=ePattern (Pattern.mk left [] 0 []) from rfl)<|R rfl rfl (show _=eGraph right from rfl)<|e7 rfl rfl (show _=ePattern (Pattern.mk right [] 0 []) from rfl)<|R rfl rfl (show _=eGraph left from rfl) ?_
 obtain ⟨x16,hx16,h⟩:=J h
 refine W rfl (c141 left _ hx16)<|R rfl rfl (show _=eMorphism into from rfl)<|e7 rfl rfl (show _=eCondition (Condition.mk 1 [] (Morphism.mk [] []) (Pattern.mk (Graph.mk [] []) [] 0 [])) from rfl)<|g5 rfl rfl rfl (show _=eRule (Rule.mk r_0.Name (Pattern.mk left [] 0 []) (Pattern.mk right [] 0 []) x16 into true (Condition.mk 1 [] (Morphism.mk [] []) (Pattern.mk (Graph.mk [] []) [] 0 []))) from rfl)<|a9 rfl rfl rfl rfl rfl<|E (kb<|kn) fun _=>?_
 exact L (by cases h;rfl)
theorem ck49:CK f49 (Rq [Af 4 0,Af 5 1,Af 6 2,Af 7 3,Ca 8 1 3 4 0 5 1 3 4 0 5 1 1 1 1 0 9 1 1 1 3 4 0 5,Ad 9 0] [4,5,6,7,8]<|Sq (Rq [Ae 19 4 2,Ae 20 5 2,Ae 21 6 25,Bf 22 15 19 20 21,Aa 10 22] [5,6,7,8,10]<|Rq [Aa 23 10,Ax 24 23 0] [5,6,7,8,10,24]<|Co 24 (Rq [Er 25 1 3 4 0 5 1 3 4 0 5 1 1 1 1 0 9 1 1 1 3 4 0 5,Aa 26 10,Ak 25 8 25,Aa 9 26] [8,9]<|.ret)<|Sk [5,6,7,8])<|Rq [⟨some 27,.clo 86 [.s 5,.s 7],none⟩,Aa 11 27] [6,8,11]<|Sq (Dr [12,13,28,29,30,31,32,33,34,35,36,37] [Aa 28 11,Ac 29 6 1,Aj 30 29 0,Ae 31 30 2,Ch 32 28 31,Aa 33 11,Ac 34 6 6,Aj 35 34 0,Ae 36 35 2,Ch 37 33 36,Dm 12 1 3 1 1,Dm 13 1 3 1 1,Ak 4 12 32,Ak 4 13 37] [6,8,12,13])<|Rq [Bd 14 1 1] [6,8,12,13,14]<|Sq (Rq [Ac 38 12 2,Ab 39 38,Ag 40 39,Ad 41 0] [6,8,12,13,14,39,40,41]<|Bl 0<|Lo [6,8,12,13,14,39,40,41]<|Rq [Ap 42 41 40] [6,8,12,13,14,39,40,41,42]<|Sq (Co 42 (Sk [6,8,12,13,14,39,40,41])<|Ex 0 [6,8,12,13,14])<|Sq (Bl 1<|Rq [Ah 43 39 41 1,Ab 44 43,Aa 16 44] [6,8,12,13,14,16,39,40,41]<|Dr [45,46,47,48,49,50,51,52,53,54,55,56,57,58] [Ac 45 14 0,Bp 46 45,Ac 47 13 2,Ab 48 47,Ac 49 6 13,Aj 50 49 0,Ab 51 50,Aa 52 16,Ah 53 51 52 1,Ab 54 53,An 55 90 48 54,Bh 56 1 55,Bc 57 1 46 56,Ac 58 14 0,Bm 1 58 57] [6,8,12,13,14,39,40,41])<|Re [Ao 59 41 1,Aa 41 59] [6,8,12,13,14,39,40,41])<|Sq (Rq [Ac 60 12 3,Ab 61 60,Ag 62 61,Ad 63 0] [6,8,12,13,14,61,62,63]<|Bl 2<|Lo [6,8,12,13,14,61,62,63]<|Rq [Ap 64 63 62] [6,8,12,13,14,61,62,63,64]<|Sq (Co 64 (Sk [6,8,12,13,14,61,62,63])<|Ex 2 [6,8,12,13,14])<|Sq (Bl 3<|Rq [Ah 65 61 63 1,Ab 66 65,Aa 18 66] [6,8,12,13,14,18,61,62,63]<|Dr [67,68,69,70,71,72,73,74,75,76,77,78,79,80] [Ac 67 14 1,Bp 68 67,Ac 69 13 3,Ab 70 69,Ac 71 6 13,Aj 72 71 1,Ab 73 72,Aa 74 18,Ah 75 73 74 1,Ab 76 75,An 77 90 70 76,Bh 78 1 77,Bc 79 1 68 78,Ac 80 14 1,Bm 1 80 79] [6,8,12,13,14,61,62,63])<|Re [Ao 81 63 1,Aa 63 81] [6,8,12,13,14,61,62,63])<|Rq [Ae 82 6 25,Ac 83 12 0,Ae 84 83 2,Ac 85 13 0,Ae 86 85 2,Ae 87 14 2,Cg 88 91 82 84 86 87,Ak 25 8 88,Ad 9 0] [8,9]<|.ret) [.cell 8 (some 25),.tmp 9]:= by decide +kernel
theorem c49 (t:Types) (s_1:Sorts) (r_2:Rule) (sort:Int) (r:(Rule × Int)) (h:triplerule_side t s_1 r_2 sort=some r):Sound prog 49 [eTypes t,eSorts s_1,eRule r_2,eI sort] (.tp [eRule r.1,eI r.2]):= by
 refine Fn ck49 fun hw=>?_
 unfold triplerule_side at h
 refine D<|F<|a1 rfl rfl<|a1 rfl rfl<|a1 rfl rfl<|a1 rfl rfl<|b1 rfl<|C rfl<|E (kt<|kt<|kt<|kt<|kb<|kn) fun _=>?_
 refine D<|D<|F<|R rfl rfl (show _=eTypes t from rfl)<|R rfl rfl (show _=eSorts s_1 from rfl)<|R rfl rfl (show _=eRule r_2 from rfl) ?_
 obtain ⟨x22,hx22,h⟩:=J h
 refine W rfl (c15 t s_1 r_2 _ hx22)<|C rfl<|E (kt<|kt<|kt<|kb<|kt<|kn) fun _=>?_
 refine D<|F<|C rfl<|a7 rfl rfl<|E (kt<|kt<|kt<|kb<|kt<|kt<|kn) fun _=>?_
 refine U rfl (fun hc24=>?_) (fun hc24=>?_)
 ·replace h:=M hc24 h
  refine D<|F<|e7 rfl rfl (show _=eRule (Rule.mk (⟨#[]⟩:ByteArray) (Pattern.mk (Graph.mk [] []) [] 0 []) (Pattern.mk (Graph.mk [] []) [] 0 []) (Part.mk [] []) (Morphism.mk [] []) false (Condition.mk 0 [] (Morphism.mk [] []) (Pattern.mk (Graph.mk [] []) [] 0 []))) from rfl)<|C rfl<|a9 rfl rfl rfl rfl rfl<|C rfl<|E (kb<|kt<|kn) fun _=>?_
  refine L ?_
  cases h
  exact ⟨by decide,rfl⟩
 ·replace h:=O hc24 h
  refine P (kt<|kt<|kt<|kb<|kn) fun _=>?_
  refine D<|F<|g2 rfl<|C rfl<|E (kt<|kb<|kt<|kn) fun _=>?_
  refine D<|d4 rfl<|C rfl<|K rfl<|a6 rfl<|R rfl rfl (show _=eGraph r_2.Left.Graph from rfl) ?_
  obtain ⟨x32,hx32,h⟩:=J h
  refine g6 rfl rfl (c86 r_2.Left.Graph s_1 sort _ hx32)<|C rfl<|K rfl<|a6 rfl<|R rfl rfl (show _=eGraph r_2.Right.Graph from rfl) ?_
  obtain ⟨x37,hx37,h⟩:=J h
  refine g6 rfl rfl (c86 r_2.Right.Graph s_1 sort _ hx37)<|b1 rfl<|b1 rfl<|a9 rfl rfl rfl rfl rfl<|a9 rfl rfl rfl rfl rfl<|E (kt<|kb<|kb<|kb<|kn) fun _=>?_
  refine D<|F<|b1 rfl<|E (kt<|kb<|kb<|kb<|kb<|kn) fun _=>?_
  refine D<|D<|F<|a3 rfl<|I rfl<|V rfl rfl<|C rfl<|E (kt<|kb<|kb<|kb<|kb<|kt<|kt<|kt<|kn) fun _=>?_
  obtain ⟨s0,hs0,h⟩:=J h
  refine f8 hs0 (fun (i0:Int) (s0:Morphism)=>[(6,.tv (.pt (eRule r_2).cells)),(8,.bx [⟨false,eS (⟨#[]⟩:ByteArray)⟩,⟨true,lI []⟩,⟨true,lE []⟩,⟨true,lS []⟩,⟨false,eI 0⟩,⟨true,lT []⟩,⟨true,lI []⟩,⟨true,lE []⟩,⟨true,lS []⟩,⟨false,eI 0⟩,⟨true,lT []⟩,⟨true,lI []⟩,⟨true,lI []⟩,⟨true,lI []⟩,⟨true,lI []⟩,⟨false,eB false⟩,⟨false,eI 0⟩,⟨true,eLCondition []⟩,⟨true,lI []⟩,⟨true,lI []⟩,⟨true,lI []⟩,⟨true,lE []⟩,⟨true,lS []⟩,⟨false,eI 0⟩,⟨true,lT []⟩]),(12,.bx [⟨false,lI x32.graph.Nodes⟩,⟨false,lE x32.graph.Edges⟩,⟨false,lI x32.nodes⟩,⟨false,lI x32.edges⟩]),(13,.bx [⟨false,lI x37.graph.Nodes⟩,⟨false,lE x37.graph.Edges⟩,⟨false,lI x37.nodes⟩,⟨false,lI x37.edges⟩]),(14,.bx [⟨true,lI s0.Nodes⟩,⟨true,lI s0.Edges⟩]),(39,.tv (lI x32.nodes)),(40,.tv (eI (x32.nodes.length:Int))),(41,.tv (eI i0))]) (fun (s0:Morphism)=>[(6,.tv (.pt (eRule r_2).cells)),(8,.bx [⟨false,eS (⟨#[]⟩:ByteArray)⟩,⟨true,lI []⟩,⟨true,lE []⟩,⟨true,lS []⟩,⟨false,eI 0⟩,⟨true,lT []⟩,⟨true,lI []⟩,⟨true,lE []⟩,⟨true,lS []⟩,⟨false,eI 0⟩,⟨true,lT []⟩,⟨true,lI []⟩,⟨true,lI []⟩,⟨true,lI []⟩,⟨true,lI []⟩,⟨false,eB false⟩,⟨false,eI 0⟩,⟨true,eLCondition []⟩,⟨true,lI []⟩,⟨true,lI []⟩,⟨true,lI []⟩,⟨true,lE []⟩,⟨true,lS []⟩,⟨false,eI 0⟩,⟨true,lT []⟩]),(12,.bx [⟨false,lI x32.graph.Nodes⟩,⟨false,lE x32.graph.Edges⟩,⟨false,lI x32.nodes⟩,⟨false,lI x32.edges⟩]),(13,.bx [⟨false,lI x37.graph.Nodes⟩,⟨false,lE x37.graph.Edges⟩,⟨false,lI x37.nodes⟩,⟨false,lI x37.edges⟩]),(14,.bx [⟨true,lI s0.Nodes⟩,⟨true,lI s0.Edges⟩])]) rfl ?_ ?_ ?_
  ·clear h hs0
   intro i0 s0 r0 hi0 h hw0
   refine D<|F<|X rfl rfl<|E (kt<|kb<|kb<|kb<|kb<|kt<|kt<|kt<|kt<|kn) fun _=>?_
   refine D<|b3 rfl (b4 hi0)<|P (kt<|kb<|kb<|kb<|kb<|kt<|kt<|kt<|kn) fun _=>?_
   refine D<|a8<|D<|F ?_
   obtain ⟨x43,hx43,h⟩:=J h
   refine a2 rfl rfl rfl hx43 rfl<|I rfl<|C rfl<|E (kt<|kb<|kb<|kb<|kb<|kt<|kt<|kt<|kt<|kn) fun _=>?_
   refine d4 rfl<|a3 rfl<|f6 rfl rfl rfl rfl<|a3 rfl<|I rfl<|K rfl<|a6 rfl<|I rfl<|C rfl ?_
   obtain ⟨x53,hx53,h⟩:=J h
   refine a2 rfl rfl rfl hx53 rfl<|I rfl ?_
   obtain ⟨x55,hx55,h⟩:=J h
   refine W rfl (c90 x37.nodes x53 _ hx55)<|e2 (e:=eI) (l:=[x55]) rfl rfl (fun _=>rfl) ?_
   obtain ⟨x57,hx57,h⟩:=J h
   refine e5 rfl rfl rfl rfl hx57 rfl<|a3 rfl<|f4 rfl rfl rfl (by decide) rfl rfl<|E (kt<|kb<|kb<|kb<|kb<|kt<|kt<|kt<|kn) fun _=>?_
   refine F<|a5 rfl rfl<|C rfl<|E (kt<|kb<|kb<|kb<|kb<|kt<|kt<|kt<|kn) ?_
   cases h
   show Env.keep _ _=_
   rw [Ktv rfl (Kbx rfl (Kbx rfl (Kbx rfl (Kbx rfl (Ktv rfl (Ktv rfl (Ktv rfl (Knil _))))))))]
   rw [b2 (a4 (hw0 41)) hi0 (d9 (a4 (hw0 40)))]
   all_goals rfl
  ·intro i0 s0 hi0
   refine D<|F<|X rfl rfl<|E (kt<|kb<|kb<|kb<|kb<|kt<|kt<|kt<|kt<|kn) fun _=>?_
   refine D<|b5 rfl (b6 hi0)<|b0 (kt<|kb<|kb<|kb<|kb<|kn) ?_
   exact ⟨rfl,rfl⟩
  ·intro _
   refine D<|D<|F<|a3 rfl<|I rfl<|V rfl rfl<|C rfl<|E (kt<|kb<|kb<|kb<|kb<|kt<|kt<|kt<|kn) fun _=>?_
   obtain ⟨s2,hs2,h⟩:=J h
   refine f8 hs2 (fun (i2:Int) (s2:Morphism)=>[(6,.tv (.pt (eRule r_2).cells)),(8,.bx [⟨false,eS (⟨#[]⟩:ByteArray)⟩,⟨true,lI []⟩,⟨true,lE []⟩,⟨true,lS []⟩,⟨false,eI 0⟩,⟨true,lT []⟩,⟨true,lI []⟩,⟨true,lE []⟩,⟨true,lS []⟩,⟨false,eI 0⟩,⟨true,lT []⟩,⟨true,lI []⟩,⟨true,lI []⟩,⟨true,lI []⟩,⟨true,lI []⟩,⟨false,eB false⟩,⟨false,eI 0⟩,⟨true,eLCondition []⟩,⟨true,lI []⟩,⟨true,lI []⟩,⟨true,lI []⟩,⟨true,lE []⟩,⟨true,lS []⟩,⟨false,eI 0⟩,⟨true,lT []⟩]),(12,.bx [⟨false,lI x32.graph.Nodes⟩,⟨false,lE x32.graph.Edges⟩,⟨false,lI x32.nodes⟩,⟨false,lI x32.edges⟩]),(13,.bx [⟨false,lI x37.graph.Nodes⟩,⟨false,lE x37.graph.Edges⟩,⟨false,lI x37.nodes⟩,⟨false,lI x37.edges⟩]),(14,.bx [⟨true,lI s2.Nodes⟩,⟨true,lI s2.Edges⟩]),(61,.tv (lI x32.edges)),(62,.tv (eI (x32.edges.length:Int))),(63,.tv (eI i2))]) (fun (s2:Morphism)=>[(6,.tv (.pt (eRule r_2).cells)),(8,.bx [⟨false,eS (⟨#[]⟩:ByteArray)⟩,⟨true,lI []⟩,⟨true,lE []⟩,⟨true,lS []⟩,⟨false,eI 0⟩,⟨true,lT []⟩,⟨true,lI []⟩,⟨true,lE []⟩,⟨true,lS []⟩,⟨false,eI 0⟩,⟨true,lT []⟩,⟨true,lI []⟩,⟨true,lI []⟩,⟨true,lI []⟩,⟨true,lI []⟩,⟨false,eB false⟩,⟨false,eI 0⟩,⟨true,eLCondition []⟩,⟨true,lI []⟩,⟨true,lI []⟩,⟨true,lI []⟩,⟨true,lE []⟩,⟨true,lS []⟩,⟨false,eI 0⟩,⟨true,lT []⟩]),(12,.bx [⟨false,lI x32.graph.Nodes⟩,⟨false,lE x32.graph.Edges⟩,⟨false,lI x32.nodes⟩,⟨false,lI x32.edges⟩]),(13,.bx [⟨false,lI x37.graph.Nodes⟩,⟨false,lE x37.graph.Edges⟩,⟨false,lI x37.nodes⟩,⟨false,lI x37.edges⟩]),(14,.bx [⟨true,lI s2.Nodes⟩,⟨true,lI s2.Edges⟩])]) rfl ?_ ?_ ?_
   ·clear h hs2
    intro i2 s2 r2 hi2 h hw2
    refine D<|F<|X rfl rfl<|E (kt<|kb<|kb<|kb<|kb<|kt<|kt<|kt<|kt<|kn) fun _=>?_
    refine D<|b3 rfl (b4 hi2)<|P (kt<|kb<|kb<|kb<|kb<|kt<|kt<|kt<|kn) fun _=>?_
    refine D<|a8<|D<|F ?_
    obtain ⟨x65,hx65,h⟩:=J h
    refine a2 rfl rfl rfl hx65 rfl<|I rfl<|C rfl<|E (kt<|kb<|kb<|kb<|kb<|kt<|kt<|kt<|kt<|kn) fun _=>?_
    refine d4 rfl<|a3 rfl<|f6 rfl rfl rfl rfl<|a3 rfl<|I rfl<|K rfl<|a6 rfl<|I rfl<|C rfl ?_
    obtain ⟨x75,hx75,h⟩:=J h
    refine a2 rfl rfl rfl hx75 rfl<|I rfl ?_
    obtain ⟨x77,hx77,h⟩:=J h
    refine W rfl (c90 x37.edges x75 _ hx77)<|e2 (e:=eI) (l:=[x77]) rfl rfl (fun _=>rfl) ?_
    obtain ⟨x79,hx79,h⟩:=J h
    refine e5 rfl rfl rfl rfl hx79 rfl<|a3 rfl<|f4 rfl rfl rfl (by decide) rfl rfl<|E (kt<|kb<|kb<|kb<|kb<|kt<|kt<|kt<|kn) fun _=>?_
    refine F<|a5 rfl rfl<|C rfl<|E (kt<|kb<|kb<|kb<|kb<|kt<|kt<|kt<|kn) ?_
    cases h
    show Env.keep _ _=_
    rw [Ktv rfl (Kbx rfl (Kbx rfl (Kbx rfl (Kbx rfl (Ktv rfl (Ktv rfl (Ktv rfl (Knil _))))))))]
    rw [b2 (a4 (hw2 63)) hi2 (d9 (a4 (hw2 62)))]
    all_goals rfl
   ·intro i2 s2 hi2
    refine D<|F<|X rfl rfl<|E (kt<|kb<|kb<|kb<|kb<|kt<|kt<|kt<|kt<|kn) fun _=>?_
    refine D<|b5 rfl (b6 hi2)<|b0 (kt<|kb<|kb<|kb<|kb<|kn) ?_
    exact ⟨rfl,rfl⟩
   ·intro _
    refine D<|F<|R rfl rfl (show _=eRule r_2 from rfl)<|a3 rfl<|R rfl rfl (show _=eGraph x32.graph from rfl)<|a3 rfl<|R rfl rfl (show _=eGraph x37.graph from rfl)<|R rfl rfl (show _=eMorphism s2 from rfl) ?_
    obtain ⟨x88,hx88,h⟩:=J h
    refine W rfl (c91 r_2 x32.graph x37.graph s2 _ hx88)<|a9 rfl rfl rfl rfl rfl<|C rfl<|E (kb<|kt<|kn) fun _=>?_
    refine L ?_
    cases h
    exact ⟨by decide,rfl⟩
theorem ck11:CK f11 (Rq [Af 3 0,Af 4 1,Af 5 2,Ca 6 1 3 4 0 5 1 3 4 0 5 1 1 1 1 0 9 1 1 1 3 4 0 5,Ad 7 0] [3,4,5,6]<|Rq [Ae 8 3 2,Ae 9 4 2,Ae 10 5 25,⟨some 11,.call 49 [.s 8,.s 9,.s 10,.c (.int .i64 1)],none⟩,At 12 11 0,At 13 11 1,Ak 25 6 12,Aa 7 13] [6,7]<|.ret) [.cell 6 (some 25),.tmp 7]:= by decide +kernel
theorem c11 (t:Types) (s_1:Sorts) (r_2:Rule) (r:(Rule × Int)) (h:triplerule_Source t s_1 r_2=some r):Sound prog 11 [eTypes t,eSorts s_1,eRule r_2] (.tp [eRule r.1,eI r.2]):= by
 refine Fn ck11 fun hw=>?_
 unfold triplerule_Source at h
 refine D<|F<|a1 rfl rfl<|a1 rfl rfl<|a1 rfl rfl<|b1 rfl<|C rfl<|E (kt<|kt<|kt<|kb<|kn) fun _=>?_
 refine D<|F<|R rfl rfl (show _=eTypes t from rfl)<|R rfl rfl (show _=eSorts s_1 from rfl)<|R rfl rfl (show _=eRule r_2 from rfl) ?_
 obtain ⟨x11,hx11,h⟩:=J h
 refine e6 rfl (c49 t s_1 r_2 1 _ hx11)<|b9 rfl rfl<|b9 rfl rfl<|a9 rfl rfl rfl rfl rfl<|C rfl<|E (kb<|kt<|kn) fun _=>?_
 refine L ?_
 cases h
 exact ⟨by decide,rfl⟩
theorem ck113:CK f113 (Rq [Bk 2 3] [0]<|Sq (Rq [Aa 3 0,⟨some 4,.isn (.s 3),none⟩] [0,4]<|Co 4 (Rq [Bk 2 3] [2]<|.ret)<|Sk [0])<|Rq [Cq 5 3,Aa 6 0,Bc 7 3 5 6,Bb 2 7] [2]<|.ret) [.tmp 2]:= by decide +kernel
theorem c113 (s_0:List Edge) (r:(List Edge)) (h:slices_Clone_Edge s_0=some r):Sound prog 113 [lE s_0] (.own (lE r)):= by
 refine Fn ck113 fun hw=>?_
 unfold slices_Clone_Edge at h
 refine D<|F<|f2<|E (kt<|kn) fun _=>?_
 refine D<|D<|F<|C rfl<|m4 rfl rfl fun z4 hz4=>?_
 replace h:=m5 h z4 hz4
 refine E (kt<|kt<|kn) fun _=>?_
 refine U rfl (fun hc4=>?_) (fun hc4=>?_)
 ·replace h:=M hc4 h
  refine D<|F<|f2<|E (ko<|kn) fun _=>?_
  exact L (by cases h;rfl)
 ·replace h:=O hc4 h
  refine P (kt<|kn) fun _=>?_
  refine D<|F<|e2 (e:=eEdge) (l:=[]) rfl rfl (fun _=>rfl)<|C rfl ?_
  obtain ⟨x7,hx7,h⟩:=J h
  refine e5 rfl rfl rfl rfl hx7 rfl<|f7 rfl<|E (ko<|kn) fun _=>?_
  exact L (by cases h;rfl)
theorem ck62:CK f62 (Rq [Af 4 0,Af 5 1,Af 6 2,Ca 8 1 3 4 0 5 1 3 4 0 5 1 1 1 1 0 9 1 1 1 3 4 0 5,Bd 9 1 1,Ad 10 0] [3,4,5,6,8,9]<|Sq (Rq [Ae 21 4 2,Ae 22 5 2,Ae 23 6 25,Bf 24 15 21 22 23,Aa 11 24] [3,5,6,8,9,11]<|Rq [Aa 25 11,Ax 26 25 0] [3,5,6,8,9,11,26]<|Co 26 (Rq [Er 27 1 3 4 0 5 1 3 4 0 5 1 1 1 1 0 9 1 1 1 3 4 0 5,Da 28 1 1,Aa 29 11,Ak 25 8 27,Ak 2 9 28,Aa 10 29] [8,9,10]<|.ret)<|Sk [3,5,6,8,9])<|Sq (Dr [12,13,30,31,32,33,34,35] [Ac 30 6 1,Aj 31 30 0,Ae 32 31 2,Ac 33 6 6,Aj 34 33 0,Ae 35 34 2,Bd 12 1 3,Bd 13 1 3,Ak 2 12 32,Ak 2 13 35] [3,5,6,8,9,12,13])<|Sq (Dr [14,36,37,38,39,40,41,42] [Ac 36 12 0,Ab 37 36,Au 38 112 37,Ac 39 12 1,Ab 40 39,Au 41 113 40,Ee 42 38 41,Bd 14 1 3,Do 2 14 42] [3,5,6,8,9,13,14])<|Sq (Dr [15,43,44,45,46,47,48,49,50,51] [Ac 43 6 13,Aj 44 43 0,Ab 45 44,Au 46 112 45,Ac 47 6 13,Aj 48 47 1,Ab 49 48,Au 50 112 49,Ee 51 46 50,Bd 15 1 1,Do 2 15 51] [3,5,6,8,9,13,14,15])<|Rq [Bd 16 1 1] [3,5,6,8,9,13,14,15,16]<|Sq (Rq [Ac 52 13 0,Ab 53 52,Ag 54 53,Ad 55 0] [3,5,6,8,9,13,14,15,16,53,54,55]<|Bl 0<|Lo [3,5,6,8,9,13,14,15,16,53,54,55]<|Rq [Ap 56 55 54] [3,5,6,8,9,13,14,15,16,53,54,55,56]<|Sq (Co 56 (Sk [3,5,6,8,9,13,14,15,16,53,54,55])<|Ex 0 [3,5,6,8,9,13,14,15,16])<|Sq (Bl 1<|Rq [Aa 57 55,Ah 58 53 55 1,Ab 59 58,Aa 17 57,Aa 18 59] [3,5,6,8,9,13,14,15,16,17,18,53,54,55]<|Rq [Ac 60 6 13,Aj 61 60 0,Ab 62 61,Aa 63 17,An 64 114 62 63,Ay 65 64,Aa 66 65,As 67 3 66,Av 68 5 0 66,Aw 69 68 66,As 70 18 66,Cb 71 69 70 1 66,Aw 72 71 66,Bv 73 114 67 72 66,Aq 74 66 73] [3,5,6,8,9,13,14,15,16,17,18,53,54,55,74]<|Co 74 (Rq [Ac 75 16 0,Bp 76 75,Ac 77 14 0,Ab 78 77,Ag 79 78,Bh 80 1 79,Bc 81 1 76 80,Ac 82 16 0,Bm 1 82 81] [3,5,6,8,9,13,14,15,16,17,18,53,54,55]<|Dr [83,84,85,86,87,88,89,90,91,92,93,94] [Ac 83 14 0,Bp 84 83,Aa 85 18,Bh 86 1 85,Bc 87 1 84 86,Ac 88 15 0,Bp 89 88,Aa 90 17,Bh 91 1 90,Bc 92 1 89 91,Ac 93 14 0,Bm 1 93 87,Ac 94 15 0,Bm 1 94 92] [3,5,6,8,9,13,14,15,16,53,54,55])<|Sk [3,5,6,8,9,13,14,15,16,53,54,55])<|Re [Ao 95 55 1,Aa 55 95] [3,5,6,8,9,13,14,15,16,53,54,55])<|Sq (Rq [Ac 96 13 1,Ab 97 96,Ag 98 97,Ad 99 0] [3,5,6,8,9,13,14,15,16,97,98,99]<|Bl 2<|Lo [3,5,6,8,9,13,14,15,16,97,98,99]<|Rq [Ap 100 99 98] [3,5,6,8,9,13,14,15,16,97,98,99,100]<|Sq (Co 100 (Sk [3,5,6,8,9,13,14,15,16,97,98,99])<|Ex 2 [6,8,9,13,14,15,16])<|Sq (Bl 3<|Rq [Aa 101 99,Ah 102 97 99 3,Ae 103 102 3,Cd 20 0 0 0,Aa 19 101,Ak 3 20 103] [3,5,6,8,9,13,14,15,16,19,20,97,98,99]<|Rq [Ac 104 6 13,Aj 105 104 1,Ab 106 105,Aa 107 19,An 108 114 106 107,Ay 109 108,Aa 110 109,As 111 3 110,Av 112 5 1 110,Aw 113 112 110,Av 114 20 0 110,Aw 115 114 110,Cb 116 113 115 1 110,Aw 117 116 110,Bv 118 114 111 117 110,Aq 119 110 118] [3,5,6,8,9,13,14,15,16,19,20,97,98,99,119]<|Co 119 (Rq [Ac 120 16 1,Bp 121 120,Ac 122 14 1,Ab 123 122,Ag 124 123,Bh 125 1 124,Bc 126 1 121 125,Ac 127 16 1,Bm 1 127 126] [3,5,6,8,9,13,14,15,16,19,20,97,98,99]<|Dr [128,129,130,131,132,133,134,135,136,137,138,139,140,141,142,143,144,145,146,147,148,149,150,151] [Ac 128 14 1,Bp 129 128,Ac 130 20 0,Ab 131 130,Ac 132 15 0,Ab 133 132,Ac 134 20 1,Ab 135 134,An 136 90 133 135,Ac 137 15 0,Ab 138 137,Ac 139 20 2,Ab 140 139,An 141 90 138 140,Ed 142 0 0 0 0 1 131 1 1 136 2 1 141,Bh 143 3 142,Bc 144 3 129 143,Ac 145 15 1,Bp 146 145,Aa 147 19,Bh 148 1 147,Bc 149 1 146 148,Ac 150 14 1,Bm 1 150 144,Ac 151 15 1,Bm 1 151 149] [3,5,6,8,9,13,14,15,16,97,98,99])<|Sk [3,5,6,8,9,13,14,15,16,97,98,99])<|Re [Ao 152 99 1,Aa 99 152] [3,5,6,8,9,13,14,15,16,97,98,99])<|Sq (Dr [8,9,10,153,154,155,156,157,158,159,160,161,162,163,164] [Ae 153 6 25,Ae 154 14 2,Ac 155 13 0,Ab 156 155,Au 157 112 156,Ac 158 13 1,Ab 159 158,Au 160 113 159,Cx 161 1 3 0 1 157 1 1 160,Ae 162 15 2,Cg 163 91 153 154 161 162,Ae 164 16 2,Ak 25 8 163,Ak 2 9 164,Ad 10 0] [8,9,10])<|.ret) [.cell 8 (some 25),.cell 9 (some 2),.tmp 10]:= by decide +kernel
theorem c62 (t:Types) (s_1:Sorts) (r_2:Rule) (sorts:List Int) (r:(Rule × Part × Int)) (h:triplerule_translating t s_1 r_2 sorts=some r):Sound prog 62 [eTypes t,eSorts s_1,eRule r_2,lI sorts] (.tp [eRule r.1,ePart r.2.1,eI r.2.2]):= by
 refine Fn ck62 fun hw=>?_
 unfold triplerule_translating at h
 refine D<|F<|a1 rfl rfl<|a1 rfl rfl<|a1 rfl rfl<|b1 rfl<|b1 rfl<|C rfl<|E (kt<|kt<|kt<|kt<|kb<|kb<|kn) fun _=>?_
 refine D<|D<|F<|R rfl rfl (show _=eTypes t from rfl)<|R rfl rfl (show _=eSorts s_1 from rfl)<|R rfl rfl (show _=eRule r_2 from rfl) ?_
 obtain ⟨x24,hx24,h⟩:=J h
 refine W rfl (c15 t s_1 r_2 _ hx24)<|C rfl<|E (kt<|kt<|kt<|kb<|kb<|kt<|kn) fun _=>?_
 refine D<|F<|C rfl<|a7 rfl rfl<|E (kt<|kt<|kt<|kb<|kb<|kt<|kt<|kn) fun _=>?_
 refine U rfl (fun hc26=>?_) (fun hc26=>?_)
 ·replace h:=M hc26 h
  refine D<|F<|e7 rfl rfl (show _=eRule (Rule.mk (⟨#[]⟩:ByteArray) (Pattern.mk (Graph.mk [] []) [] 0 []) (Pattern.mk (Graph.mk [] []) [] 0 []) (Part.mk [] []) (Morphism.mk [] []) false (Condition.mk 0 [] (Morphism.mk [] []) (Pattern.mk (Graph.mk [] []) [] 0 []))) from rfl)<|e7 rfl rfl (show _=ePart (Part.mk [] []) from rfl)<|C rfl<|a9 rfl rfl rfl rfl rfl<|a9 rfl rfl rfl rfl rfl<|C rfl<|E (kb<|kb<|kt<|kn) fun _=>?_
  refine L ?_
  cases h
  exact ⟨by decide,rfl⟩
 ·replace h:=O hc26 h
  refine P (kt<|kt<|kt<|kb<|kb<|kn) fun _=>?_
  refine D<|d4 rfl<|K rfl<|a6 rfl<|R rfl rfl (show _=eGraph r_2.Left.Graph from rfl)<|K rfl<|a6 rfl<|R rfl rfl (show _=eGraph r_2.Right.Graph from rfl)<|b1 rfl<|b1 rfl<|a9 rfl rfl rfl rfl rfl<|a9 rfl rfl rfl rfl rfl<|E (kt<|kt<|kt<|kb<|kb<|kb<|kb<|kn) fun _=>?_
  refine D<|d4 rfl<|a3 rfl<|I rfl ?_
  obtain ⟨x38,hx38,h⟩:=J h
  refine g4 rfl (c112 r_2.Left.Graph.Nodes _ hx38)<|a3 rfl<|I rfl ?_
  obtain ⟨x41,hx41,h⟩:=J h
  refine g4 rfl (c113 r_2.Left.Graph.Edges _ hx41)<|m1 (by decide) (by decide) rfl rfl rfl<|b1 rfl<|l7 rfl rfl (by decide) rfl rfl rfl<|E (kt<|kt<|kt<|kb<|kb<|kb<|kb<|kn) fun _=>?_
  refine D<|d4 rfl<|K rfl<|a6 rfl<|I rfl ?_
  obtain ⟨x46,hx46,h⟩:=J h
  refine g4 rfl (c112 r_2.Into.Nodes _ hx46)<|K rfl<|a6 rfl<|I rfl ?_
  obtain ⟨x50,hx50,h⟩:=J h
  refine g4 rfl (c112 r_2.Into.Edges _ hx50)<|m1 (by decide) (by decide) rfl rfl rfl<|b1 rfl<|l7 rfl rfl (by decide) rfl rfl rfl<|E (kt<|kt<|kt<|kb<|kb<|kb<|kb<|kb<|kn) fun _=>?_
  refine D<|F<|b1 rfl<|E (kt<|kt<|kt<|kb<|kb<|kb<|kb<|kb<|kb<|kn) fun _=>?_
  refine D<|D<|F<|a3 rfl<|I rfl<|V rfl rfl<|C rfl<|E (kt<|kt<|kt<|kb<|kb<|kb<|kb<|kb<|kb<|kt<|kt<|kt<|kn) fun _=>?_
  obtain ⟨s0,hs0,h⟩:=J h
  refine f8 hs0 (fun (i0:Int) (s0:Graph × Morphism × Part)=>[(3,.tv (lI sorts)),(5,.tv (.pt (eSorts s_1).cells)),(6,.tv (.pt (eRule r_2).cells)),(8,.bx [⟨false,eS (⟨#[]⟩:ByteArray)⟩,⟨true,lI []⟩,⟨true,lE []⟩,⟨true,lS []⟩,⟨false,eI 0⟩,⟨true,lT []⟩,⟨true,lI []⟩,⟨true,lE []⟩,⟨true,lS []⟩,⟨false,eI 0⟩,⟨true,lT []⟩,⟨true,lI []⟩,⟨true,lI []⟩,⟨true,lI []⟩,⟨true,lI []⟩,⟨false,eB false⟩,⟨false,eI 0⟩,⟨true,eLCondition []⟩,⟨true,lI []⟩,⟨true,lI []⟩,⟨true,lI []⟩,⟨true,lE []⟩,⟨true,lS []⟩,⟨false,eI 0⟩,⟨true,lT []⟩]),(9,.bx [⟨true,lI []⟩,⟨true,lI []⟩]),(13,.bx [⟨false,lI r_2.Right.Graph.Nodes⟩,⟨false,lE r_2.Right.Graph.Edges⟩]),(14,.bx [⟨true,lI s0.1.Nodes⟩,⟨true,lE s0.1.Edges⟩]),(15,.bx [⟨true,lI s0.2.1.Nodes⟩,⟨true,lI s0.2.1.Edges⟩]),(16,.bx [⟨true,lI s0.2.2.Nodes⟩,⟨true,lI s0.2.2.Edges⟩]),(53,.tv (lI r_2.Right.Graph.Nodes)),(54,.tv (eI (r_2.Right.Graph.Nodes.length:Int))),(55,.tv (eI i0))]) (fun (s0:Graph × Morphism × Part)=>[(3,.tv (lI sorts)),(5,.tv (.pt (eSorts s_1).cells)),(6,.tv (.pt (eRule r_2).cells)),(8,.bx [⟨false,eS (⟨#[]⟩:ByteArray)⟩,⟨true,lI []⟩,⟨true,lE []⟩,⟨true,lS []⟩,⟨false,eI 0⟩,⟨true,lT []⟩,⟨true,lI []⟩,⟨true,lE []⟩,⟨true,lS []⟩,⟨false,eI 0⟩,⟨true,lT []⟩,⟨true,lI []⟩,⟨true,lI []⟩,⟨true,lI []⟩,⟨true,lI []⟩,⟨false,eB false⟩,⟨false,eI 0⟩,⟨true,eLCondition []⟩,⟨true,lI []⟩,⟨true,lI []⟩,⟨true,lI []⟩,⟨true,lE []⟩,⟨true,lS []⟩,⟨false,eI 0⟩,⟨true,lT []⟩]),(9,.bx [⟨true,lI []⟩,⟨true,lI []⟩]),(13,.bx [⟨false,lI r_2.Right.Graph.Nodes⟩,⟨false,lE r_2.Right.Graph.Edges⟩]),(14,.bx [⟨true,lI s0.1.Nodes⟩,⟨true,lE s0.1.Edges⟩]),(15,.bx [⟨true,lI s0.2.1.Nodes⟩,⟨true,lI s0.2.1.Edges⟩]),(16,.bx [⟨true,lI s0.2.2.Nodes⟩,⟨true,lI s0.2.2.Edges⟩])]) rfl ?_ ?_ ?_
  ·clear h hs0
   intro i0 s0 r0 hi0 h hw0
   refine D<|F<|X rfl rfl<|E (kt<|kt<|kt<|kb<|kb<|kb<|kb<|kb<|kb<|kt<|kt<|kt<|kt<|kn) fun _=>?_
   refine D<|b3 rfl (b4 hi0)<|P (kt<|kt<|kt<|kb<|kb<|kb<|kb<|kb<|kb<|kt<|kt<|kt<|kn) fun _=>?_
   refine D<|a8<|D<|F<|C rfl ?_
   obtain ⟨x58,hx58,h⟩:=J h
   refine a2 rfl rfl rfl hx58 rfl<|I rfl<|C rfl<|C rfl<|E (kt<|kt<|kt<|kb<|kb<|kb<|kb<|kb<|kb<|kt<|kt<|kt<|kt<|kt<|kn) fun _=>?_
   refine D<|F<|K rfl<|a6 rfl<|I rfl<|C rfl ?_
   obtain ⟨x64,hx64,h⟩:=J h
   refine W rfl (c114 r_2.Into.Nodes i0 _ hx64)<|b7 rfl<|C rfl ?_
   obtain ⟨x74,hx74,h⟩:=J h
   refine gX 8 [67,68,69,70,71,72,73] 74 x74 (!x64) (fun hg74=>?_) (fun hg74=>?_) ?_
   ·replace h:=M hg74 hx74
    refine G rfl hg74<|C rfl<|G rfl hg74<|K rfl<|G rfl hg74<|I rfl<|G rfl hg74<|C rfl ?_
    obtain ⟨x71,hx71,h⟩:=J h
    refine G rfl hg74<|a2 rfl rfl rfl hx71 rfl<|G rfl hg74<|I rfl ?_
    obtain ⟨x73,hx73,h⟩:=J h
    refine G rfl hg74<|W rfl (c114 sorts x71 _ hx73) ?_
    cases h
    refine Z rfl hg74 rfl ?_
    exact ⟨⟨_,_,_,_,_,_,_,rfl⟩⟩
   ·replace h:=O hg74 hx74
    cases h
    refine H rfl hg74<|H rfl hg74<|H rfl hg74<|H rfl hg74<|H rfl hg74<|H rfl hg74<|H rfl hg74<|a0 rfl hg74 rfl ?_
    exact ⟨⟨_,_,_,_,_,_,_,rfl⟩⟩
   rintro _ ⟨_,_,_,_,_,_,_,rfl⟩
   refine E (kt<|kt<|kt<|kb<|kb<|kb<|kb<|kb<|kb<|kt<|kt<|kt<|kt<|kt<|kt<|kn) fun _=>?_
   refine U rfl (fun hc74=>?_) (fun hc74=>?_)
   ·replace h:=M hc74 h
    refine D<|F<|a3 rfl<|f6 rfl rfl rfl rfl<|a3 rfl<|I rfl<|V rfl rfl<|e2 (e:=eI) (l:=[(s0.1.Nodes.length:Int)]) rfl rfl (fun _=>rfl) ?_
    obtain ⟨x81,hx81,h⟩:=J h
    refine e5 rfl rfl rfl rfl hx81 rfl<|a3 rfl<|f4 rfl rfl rfl (by decide) rfl rfl<|E (kt<|kt<|kt<|kb<|kb<|kb<|kb<|kb<|kb<|kt<|kt<|kt<|kt<|kt<|kn) fun _=>?_
    refine d4 rfl<|a3 rfl<|f6 rfl rfl rfl rfl<|C rfl<|e2 (e:=eI) (l:=[x58]) rfl rfl (fun _=>rfl) ?_
    obtain ⟨x87,hx87,h⟩:=J h
    refine e5 rfl rfl rfl rfl hx87 rfl<|a3 rfl<|f6 rfl rfl rfl rfl<|C rfl<|e2 (e:=eI) (l:=[i0]) rfl rfl (fun _=>rfl) ?_
    obtain ⟨x92,hx92,h⟩:=J h
    refine e5 rfl rfl rfl rfl hx92 rfl<|a3 rfl<|f4 rfl rfl rfl (by decide) rfl rfl<|a3 rfl<|f4 rfl rfl rfl (by decide) rfl rfl<|E (kt<|kt<|kt<|kb<|kb<|kb<|kb<|kb<|kb<|kt<|kt<|kt<|kn) fun _=>?_
    refine F<|a5 rfl rfl<|C rfl<|E (kt<|kt<|kt<|kb<|kb<|kb<|kb<|kb<|kb<|kt<|kt<|kt<|kn) ?_
    cases h
    show Env.keep _ _=_
    rw [Ktv rfl (Ktv rfl (Ktv rfl (Kbx rfl (Kbx rfl (Kbx rfl (Kbx rfl (Kbx rfl (Kbx rfl (Ktv rfl (Ktv rfl (Ktv rfl (Knil _))))))))))))]
    rw [b2 (a4 (hw0 55)) hi0 (d9 (a4 (hw0 54)))]
    all_goals rfl
   ·replace h:=O hc74 h
    refine P (kt<|kt<|kt<|kb<|kb<|kb<|kb<|kb<|kb<|kt<|kt<|kt<|kn) fun _=>?_
    refine F<|a5 rfl rfl<|C rfl<|E (kt<|kt<|kt<|kb<|kb<|kb<|kb<|kb<|kb<|kt<|kt<|kt<|kn) ?_
    cases h
    show Env.keep _ _=_
    rw [Ktv rfl (Ktv rfl (Ktv rfl (Kbx rfl (Kbx rfl (Kbx rfl (Kbx rfl (Kbx rfl (Kbx rfl (Ktv rfl (Ktv rfl (Ktv rfl (Knil _))))))))))))]
    rw [b2 (a4 (hw0 55)) hi0 (d9 (a4 (hw0 54)))]
    all_goals rfl
  ·intro i0 s0 hi0
   refine D<|F<|X rfl rfl<|E (kt<|kt<|kt<|kb<|kb<|kb<|kb<|kb<|kb<|kt<|kt<|kt<|kt<|kn) fun _=>?_
   refine D<|b5 rfl (b6 hi0)<|b0 (kt<|kt<|kt<|kb<|kb<|kb<|kb<|kb<|kb<|kn) ?_
   exact ⟨rfl,rfl⟩
  ·intro _
   refine D<|D<|F<|a3 rfl<|I rfl<|V rfl rfl<|C rfl<|E (kt<|kt<|kt<|kb<|kb<|kb<|kb<|kb<|kb<|kt<|kt<|kt<|kn) fun _=>?_
   obtain ⟨s2,hs2,h⟩:=J h
   refine f8 hs2 (fun (i2:Int) (s2:Graph × Morphism × Part)=>[(3,.tv (lI sorts)),(5,.tv (.pt (eSorts s_1).cells)),(6,.tv (.pt (eRule r_2).cells)),(8,.bx [⟨false,eS (⟨#[]⟩:ByteArray)⟩,⟨true,lI []⟩,⟨true,lE []⟩,⟨true,lS []⟩,⟨false,eI 0⟩,⟨true,lT []⟩,⟨true,lI []⟩,⟨true,lE []⟩,⟨true,lS []⟩,⟨false,eI 0⟩,⟨true,lT []⟩,⟨true,lI []⟩,⟨true,lI []⟩,⟨true,lI []⟩,⟨true,lI []⟩,⟨false,eB false⟩,⟨false,eI 0⟩,⟨true,eLCondition []⟩,⟨true,lI []⟩,⟨true,lI []⟩,⟨true,lI []⟩,⟨true,lE []⟩,⟨true,lS []⟩,⟨false,eI 0⟩,⟨true,lT []⟩]),(9,.bx [⟨true,lI []⟩,⟨true,lI []⟩]),(13,.bx [⟨false,lI r_2.Right.Graph.Nodes⟩,⟨false,lE r_2.Right.Graph.Edges⟩]),(14,.bx [⟨true,lI s2.1.Nodes⟩,⟨true,lE s2.1.Edges⟩]),(15,.bx [⟨true,lI s2.2.1.Nodes⟩,⟨true,lI s2.2.1.Edges⟩]),(16,.bx [⟨true,lI s2.2.2.Nodes⟩,⟨true,lI s2.2.2.Edges⟩]),(97,.tv (lE r_2.Right.Graph.Edges)),(98,.tv (eI (r_2.Right.Graph.Edges.length:Int))),(99,.tv (eI i2))]) (fun (s2:Graph × Morphism × Part)=>[(6,.tv (.pt (eRule r_2).cells)),(8,.bx [⟨false,eS (⟨#[]⟩:ByteArray)⟩,⟨true,lI []⟩,⟨true,lE []⟩,⟨true,lS []⟩,⟨false,eI 0⟩,⟨true,lT []⟩,⟨true,lI []⟩,⟨true,lE []⟩,⟨true,lS []⟩,⟨false,eI 0⟩,⟨true,lT []⟩,⟨true,lI []⟩,⟨true,lI []⟩,⟨true,lI []⟩,⟨true,lI []⟩,⟨false,eB false⟩,⟨false,eI 0⟩,⟨true,eLCondition []⟩,⟨true,lI []⟩,⟨true,lI []⟩,⟨true,lI []⟩,⟨true,lE []⟩,⟨true,lS []⟩,⟨false,eI 0⟩,⟨true,lT []⟩]),(9,.bx [⟨true,lI []⟩,⟨true,lI []⟩]),(13,.bx [⟨false,lI r_2.Right.Graph.Nodes⟩,⟨false,lE r_2.Right.Graph.Edges⟩]),(14,.bx [⟨true,lI s2.1.Nodes⟩,⟨true,lE s2.1.Edges⟩]),(15,.bx [⟨true,lI s2.2.1.Nodes⟩,⟨true,lI s2.2.1.Edges⟩]),(16,.bx [⟨true,lI s2.2.2.Nodes⟩,⟨true,lI s2.2.2.Edges⟩])]) rfl ?_ ?_ ?_
   ·clear h hs2
    intro i2 s2 r2 hi2 h hw2
    refine D<|F<|X rfl rfl<|E (kt<|kt<|kt<|kb<|kb<|kb<|kb<|kb<|kb<|kt<|kt<|kt<|kt<|kn) fun _=>?_
    refine D<|b3 rfl (b4 hi2)<|P (kt<|kt<|kt<|kb<|kb<|kb<|kb<|kb<|kb<|kt<|kt<|kt<|kn) fun _=>?_
    refine D<|a8<|D<|F<|C rfl ?_
    obtain ⟨x102,hx102,h⟩:=J h
    refine a2 rfl rfl rfl hx102 rfl<|R rfl rfl (show _=eEdge x102 from rfl)<|b1 rfl<|C rfl<|a9 rfl rfl rfl rfl rfl<|E (kt<|kt<|kt<|kb<|kb<|kb<|kb<|kb<|kb<|kt<|kb<|kt<|kt<|kt<|kn) fun _=>?_
    refine D<|F<|K rfl<|a6 rfl<|I rfl<|C rfl ?_
    obtain ⟨x108,hx108,h⟩:=J h
    refine W rfl (c114 r_2.Into.Edges i2 _ hx108)<|b7 rfl<|C rfl ?_
    obtain ⟨x119,hx119,h⟩:=J h
    refine gX 9 [111,112,113,114,115,116,117,118] 119 x119 (!x108) (fun hg119=>?_) (fun hg119=>?_) ?_
    ·replace h:=M hg119 hx119
     refine G rfl hg119<|C rfl<|G rfl hg119<|K rfl<|G rfl hg119<|I rfl<|G rfl hg119<|a3 rfl<|G rfl hg119<|I rfl ?_
     obtain ⟨x116,hx116,h⟩:=J h
     refine G rfl hg119<|a2 rfl rfl rfl hx116 rfl<|G rfl hg119<|I rfl ?_
     obtain ⟨x118,hx118,h⟩:=J h
     refine G rfl hg119<|W rfl (c114 sorts x116 _ hx118) ?_
     cases h
     refine Z rfl hg119 rfl ?_
     exact ⟨⟨_,_,_,_,_,_,_,_,rfl⟩⟩
    ·replace h:=O hg119 hx119
     cases h
     refine H rfl hg119<|H rfl hg119<|H rfl hg119<|H rfl hg119<|H rfl hg119<|H rfl hg119<|H rfl hg119<|H rfl hg119<|a0 rfl hg119 rfl ?_
     exact ⟨⟨_,_,_,_,_,_,_,_,rfl⟩⟩
    rintro _ ⟨_,_,_,_,_,_,_,_,rfl⟩
    refine E (kt<|kt<|kt<|kb<|kb<|kb<|kb<|kb<|kb<|kt<|kb<|kt<|kt<|kt<|kt<|kn) fun _=>?_
    refine U rfl (fun hc119=>?_) (fun hc119=>?_)
    ·replace h:=M hc119 h
     refine D<|F<|a3 rfl<|f6 rfl rfl rfl rfl<|a3 rfl<|I rfl<|V rfl rfl<|e2 (e:=eI) (l:=[(s2.1.Edges.length:Int)]) rfl rfl (fun _=>rfl) ?_
     obtain ⟨x126,hx126,h⟩:=J h
     refine e5 rfl rfl rfl rfl hx126 rfl<|a3 rfl<|f4 rfl rfl rfl (by decide) rfl rfl<|E (kt<|kt<|kt<|kb<|kb<|kb<|kb<|kb<|kb<|kt<|kb<|kt<|kt<|kt<|kn) fun _=>?_
     refine d4 rfl<|a3 rfl<|f6 rfl rfl rfl rfl<|a3 rfl<|I rfl<|a3 rfl<|I rfl<|a3 rfl<|I rfl ?_
     obtain ⟨x136,hx136,h⟩:=J h
     refine W rfl (c90 s2.2.1.Nodes x102.From _ hx136)<|a3 rfl<|I rfl<|a3 rfl<|I rfl ?_
     obtain ⟨x141,hx141,h⟩:=J h
     refine W rfl (c90 s2.2.1.Nodes x102.To _ hx141)<|g5 rfl rfl rfl (show _=eEdge (Edge.mk x102.Type' x136 x141) from rfl)<|e2 (e:=eEdge) (l:=[Edge.mk x102.Type' x136 x141]) rfl rfl (fun _=>rfl) ?_
     obtain ⟨x144,hx144,h⟩:=J h
     refine e5 rfl rfl rfl rfl hx144 rfl<|a3 rfl<|f6 rfl rfl rfl rfl<|C rfl<|e2 (e:=eI) (l:=[i2]) rfl rfl (fun _=>rfl) ?_
     obtain ⟨x149,hx149,h⟩:=J h
     refine e5 rfl rfl rfl rfl hx149 rfl<|a3 rfl<|f4 rfl rfl rfl (by decide) rfl rfl<|a3 rfl<|f4 rfl rfl rfl (by decide) rfl rfl<|E (kt<|kt<|kt<|kb<|kb<|kb<|kb<|kb<|kb<|kt<|kt<|kt<|kn) fun _=>?_
     refine F<|a5 rfl rfl<|C rfl<|E (kt<|kt<|kt<|kb<|kb<|kb<|kb<|kb<|kb<|kt<|kt<|kt<|kn) ?_
     cases h
     show Env.keep _ _=_
     rw [Ktv rfl (Ktv rfl (Ktv rfl (Kbx rfl (Kbx rfl (Kbx rfl (Kbx rfl (Kbx rfl (Kbx rfl (Ktv rfl (Ktv rfl (Ktv rfl (Knil _))))))))))))]
     rw [b2 (a4 (hw2 99)) hi2 (d9 (a4 (hw2 98)))]
     all_goals rfl
    ·replace h:=O hc119 h
     refine P (kt<|kt<|kt<|kb<|kb<|kb<|kb<|kb<|kb<|kt<|kt<|kt<|kn) fun _=>?_
     refine F<|a5 rfl rfl<|C rfl<|E (kt<|kt<|kt<|kb<|kb<|kb<|kb<|kb<|kb<|kt<|kt<|kt<|kn) ?_
     cases h
     show Env.keep _ _=_
     rw [Ktv rfl (Ktv rfl (Ktv rfl (Kbx rfl (Kbx rfl (Kbx rfl (Kbx rfl (Kbx rfl (Kbx rfl (Ktv rfl (Ktv rfl (Ktv rfl (Knil _))))))))))))]
     rw [b2 (a4 (hw2 99)) hi2 (d9 (a4 (hw2 98)))]
     all_goals rfl
   ·intro i2 s2 hi2
    refine D<|F<|X rfl rfl<|E (kt<|kt<|kt<|kb<|kb<|kb<|kb<|kb<|kb<|kt<|kt<|kt<|kt<|kn) fun _=>?_
    refine D<|b5 rfl (b6 hi2)<|b0 (kt<|kb<|kb<|kb<|kb<|kb<|kb<|kn) ?_
    exact ⟨rfl,rfl⟩
   ·intro _
    refine D<|d4 rfl<|R rfl rfl (show _=eRule r_2 from rfl)<|R rfl rfl (show _=eGraph s2.1 from rfl)<|a3 rfl<|I rfl ?_
    obtain ⟨x157,hx157,h⟩:=J h
    refine g4 rfl (c112 r_2.Right.Graph.Nodes _ hx157)<|a3 rfl<|I rfl ?_
    obtain ⟨x160,hx160,h⟩:=J h
    refine g4 rfl (c113 r_2.Right.Graph.Edges _ hx160)<|g5 rfl rfl rfl (show _=eGraph (Graph.mk x157 x160) from rfl)<|R rfl rfl (show _=eMorphism s2.2.1 from rfl) ?_
    obtain ⟨x163,hx163,h⟩:=J h
    refine W rfl (c91 r_2 s2.1 (Graph.mk x157 x160) s2.2.1 _ hx163)<|R rfl rfl (show _=ePart s2.2.2 from rfl)<|a9 rfl rfl rfl rfl rfl<|a9 rfl rfl rfl rfl rfl<|C rfl<|E (kb<|kb<|kt<|kn) fun _=>?_
    refine L ?_
    cases h
    exact ⟨by decide,rfl⟩
theorem ck18:CK f18 (Rq [Af 3 0,Af 4 1,Af 5 2,Ca 6 1 3 4 0 5 1 3 4 0 5 1 1 1 1 0 9 1 1 1 3 4 0 5,Bd 7 1 1,Ad 8 0] [3,4,5,6,7]<|Rq [Ae 9 3 2,Ae 10 4 2,Ae 11 5 25,⟨some 12,.lst 1 [.c (.int .i64 1)],none⟩,Cg 13 62 9 10 11 12,At 14 13 0,At 15 13 1,At 16 13 2,Ak 25 6 14,Ak 2 7 15,Aa 8 16] [6,7,8]<|.ret) [.cell 6 (some 25),.cell 7 (some 2),.tmp 8]:= by decide +kernel
theorem c18 (t:Types) (s_1:Sorts) (r_2:Rule) (r:(Rule × Part × Int)) (h:triplerule_Forward t s_1 r_2=some r):Sound prog 18 [eTypes t,eSorts s_1,eRule r_2] (.tp [eRule r.1,ePart r.2.1,eI r.2.2]):= by
 refine Fn ck18 fun hw=>?_
 unfold triplerule_Forward at h
 refine D<|F<|a1 rfl rfl<|a1 rfl rfl<|a1 rfl rfl<|b1 rfl<|b1 rfl<|C rfl<|E (kt<|kt<|kt<|kb<|kb<|kn) fun _=>?_
 refine D<|F<|R rfl rfl (show _=eTypes t from rfl)<|R rfl rfl (show _=eSorts s_1 from rfl)<|R rfl rfl (show _=eRule r_2 from rfl)<|e2 (e:=eI) (l:=[1]) rfl rfl (fun _=>rfl) ?_
 obtain ⟨x13,hx13,h⟩:=J h
 refine e6 rfl (c62 t s_1 r_2 [1] _ hx13)<|b9 rfl rfl<|b9 rfl rfl<|b9 rfl rfl<|a9 rfl rfl rfl rfl rfl<|a9 rfl rfl rfl rfl rfl<|C rfl<|E (kb<|kb<|kt<|kn) fun _=>?_
 refine L ?_
 cases h
 exact ⟨by decide,rfl⟩
theorem ck65:CK f65 (Rq [Du 6 0 0 0 0 0 0] [0,1,2,6]<|Rq [Aa 7 0,Aa 8 1,Aa 9 2,⟨some 10,.bld [.str ⟨#[]⟩,.int .i64 0,.int .i64 0,.int .i64 0,.int .i64 0,.int .i64 0,.int .i64 0] [(0,1,.s 7),(1,1,.s 8),(2,1,.s 9),(4,1,.c (.int .i64 (-1))),(6,1,.c (.int .i64 (-1)))],none⟩,Ak 7 6 10] [6]<|.ret) [.cell 6 (some 7)]:= by decide +kernel
theorem c65 (name:ByteArray) (from':Int) (to':Int) (r:EdgeType) (h:ref52_edge name from' to'=some r):Sound prog 65 [eS name,eI from',eI to'] (.sh (eEdgeType r)):= by
 refine Fn ck65 fun hw=>?_
 unfold ref52_edge at h
 refine D<|F<|b1 rfl<|E (kt<|kt<|kt<|kb<|kn) fun _=>?_
 refine D<|F<|C rfl<|C rfl<|C rfl<|e7 rfl rfl (show _=eEdgeType (EdgeType.mk name from' to' 0 (-1) 0 (-1)) from rfl)<|a9 rfl rfl rfl rfl rfl<|E (kb<|kn) fun _=>?_
 exact L (by cases h;rfl)
theorem ck26:CK f26 (Rq [Bd 0 4 7,Bd 1 1 1] [0,1]<|Rq [⟨some 3,.bld [.str ⟨#[]⟩,.int .i64 0,.bool false,.list 4 []] [(0,1,.c (.str ⟨#[67,108,97,115,115]⟩)),(1,1,.c (.int .i64 (-1)))],none⟩,⟨some 4,.bld [.str ⟨#[]⟩,.int .i64 0,.bool false,.list 4 []] [(0,1,.c (.str ⟨#[65,116,116,114,105,98,117,116,101]⟩)),(1,1,.c (.int .i64 (-1)))],none⟩,⟨some 5,.bld [.str ⟨#[]⟩,.int .i64 0,.bool false,.list 4 []] [(0,1,.c (.str ⟨#[84,97,98,108,101]⟩)),(1,1,.c (.int .i64 (-1)))],none⟩,⟨some 6,.bld [.str ⟨#[]⟩,.int .i64 0,.bool false,.list 4 []] [(0,1,.c (.str ⟨#[67,111,108,117,109,110]⟩)),(1,1,.c (.int .i64 (-1)))],none⟩,⟨some 7,.bld [.str ⟨#[]⟩,.int .i64 0,.bool false,.list 4 []] [(0,1,.c (.str ⟨#[77,97,112]⟩)),(1,1,.c (.int .i64 (-1)))],none⟩,⟨some 8,.lst 4 [.s 3,.s 4,.s 5,.s 6,.s 7],none⟩,⟨some 9,.call 65 [.c (.str ⟨#[104,97,115]⟩),.c (.int .i64 0),.c (.int .i64 1)],none⟩,⟨some 10,.call 65 [.c (.str ⟨#[119,105,116,104]⟩),.c (.int .i64 2),.c (.int .i64 3)],none⟩,⟨some 11,.call 65 [.c (.str ⟨#[111,102,67,108,97,115,115]⟩),.c (.int .i64 4),.c (.int .i64 0)],none⟩,⟨some 12,.call 65 [.c (.str ⟨#[111,102,65,116,116,114,105,98,117,116,101]⟩),.c (.int .i64 4),.c (.int .i64 1)],none⟩,⟨some 13,.call 65 [.c (.str ⟨#[116,111,84,97,98,108,101]⟩),.c (.int .i64 4),.c (.int .i64 2)],none⟩,⟨some 14,.call 65 [.c (.str ⟨#[116,111,67,111,108,117,109,110]⟩),.c (.int .i64 4),.c (.int .i64 3)],none⟩,⟨some 15,.lst 7 [.s 9,.s 10,.s 11,.s 12,.s 13,.s 14],none⟩,Cx 16 4 7 0 1 8 1 1 15,Bd 2 4 7,Ak 2 2 16] [0,1,2]<|Rq [Ae 17 2 2,⟨some 18,.lst 1 [.c (.int .i64 1),.c (.int .i64 1),.c (.int .i64 3),.c (.int .i64 3),.c (.int .i64 2)],none⟩,⟨some 19,.lst 1 [.c (.int .i64 1),.c (.int .i64 3),.c (.int .i64 2),.c (.int .i64 2),.c (.int .i64 2),.c (.int .i64 2)],none⟩,Cx 20 1 1 0 1 18 1 1 19,Ak 2 0 17,Ak 2 1 20] [0,1]<|.ret) [.cell 0 (some 2),.cell 1 (some 2)]:= by decide +kernel
theorem c26  (r:(Types × Sorts)) (h:ref52_Example =some r):Sound prog 26 [] (.tp [eTypes r.1,eSorts r.2]):= by
 refine Fn ck26 fun hw=>?_
 unfold ref52_Example at h
 refine D<|F<|b1 rfl<|b1 rfl<|E (kb<|kb<|kn) fun _=>?_
 refine D<|F<|e7 rfl rfl (show _=eNodeType (NodeType.mk (⟨#[67,108,97,115,115]⟩:ByteArray) (-1) false []) from rfl)<|e7 rfl rfl (show _=eNodeType (NodeType.mk (⟨#[65,116,116,114,105,98,117,116,101]⟩:ByteArray) (-1) false []) from rfl)<|e7 rfl rfl (show _=eNodeType (NodeType.mk (⟨#[84,97,98,108,101]⟩:ByteArray) (-1) false []) from rfl)<|e7 rfl rfl (show _=eNodeType (NodeType.mk (⟨#[67,111,108,117,109,110]⟩:ByteArray) (-1) false []) from rfl)<|e7 rfl rfl (show _=eNodeType (NodeType.mk (⟨#[77,97,112]⟩:ByteArray) (-1) false []) from rfl)<|e2 (e:=eNodeType) (l:=[NodeType.mk (⟨#[67,108,97,115,115]⟩:ByteArray) (-1) false [],NodeType.mk (⟨#[65,116,116,114,105,98,117,116,101]⟩:ByteArray) (-1) false [],NodeType.mk (⟨#[84,97,98,108,101]⟩:ByteArray) (-1) false [],NodeType.mk (⟨#[67,111,108,117,109,110]⟩:ByteArray) (-1) false [],NodeType.mk (⟨#[77,97,112]⟩:ByteArray) (-1) false []]) rfl rfl (fun _=>rfl) ?_
 obtain ⟨x9,hx9,h⟩:=J h
 refine W rfl (c65 (⟨#[104,97,115]⟩:ByteArray) 0 1 _ hx9) ?_
 obtain ⟨x10,hx10,h⟩:=J h
 refine W rfl (c65 (⟨#[119,105,116,104]⟩:ByteArray) 2 3 _ hx10) ?_
 obtain ⟨x11,hx11,h⟩:=J h
 refine W rfl (c65 (⟨#[111,102,67,108,97,115,115]⟩:ByteArray) 4 0 _ hx11) ?_
 obtain ⟨x12,hx12,h⟩:=J h
 refine W rfl (c65 (⟨#[111,102,65,116,116,114,105,98,117,116,101]⟩:ByteArray) 4 1 _ hx12) ?_
 obtain ⟨x13,hx13,h⟩:=J h
 refine W rfl (c65 (⟨#[116,111,84,97,98,108,101]⟩:ByteArray) 4 2 _ hx13) ?_
 obtain ⟨x14,hx14,h⟩:=J h
 refine W rfl (c65 (⟨#[116,111,67,111,108,117,109,110]⟩:ByteArray) 4 3 _ hx14)<|e2 (e:=eEdgeType) (l:=[x9,x10,x11,x12,x13,x14]) rfl rfl (fun _=>rfl)<|g5 rfl rfl rfl (show _=eTypes (Types.mk [NodeType.mk (⟨#[67,108,97,115,115]⟩:ByteArray) (-1) false [],NodeType.mk (⟨#[65,116,116,114,105,98,117,116,101]⟩:ByteArray) (-1) false [],NodeType.mk (⟨#[84,97,98,108,101]⟩:ByteArray) (-1) false [],NodeType.mk (⟨#[67,111,108,117,109,110]⟩:ByteArray) (-1) false [],NodeType.mk (⟨#[77,97,112]⟩:ByteArray) (-1) false []] [x9,x10,x11,x12,x13,x14]) from rfl)<|b1 rfl<|a9 rfl rfl rfl rfl rfl<|E (kb<|kb<|kb<|kn) fun _=>?_
 refine D<|F<|R rfl rfl (show _=eTypes (Types.mk [NodeType.mk (⟨#[67,108,97,115,115]⟩:ByteArray) (-1) false [],NodeType.mk (⟨#[65,116,116,114,105,98,117,116,101]⟩:ByteArray) (-1) false [],NodeType.mk (⟨#[84,97,98,108,101]⟩:ByteArray) (-1) false [],NodeType.mk (⟨#[67,111,108,117,109,110]⟩:ByteArray) (-1) false [],NodeType.mk (⟨#[77,97,112]⟩:ByteArray) (-1) false []] [x9,x10,x11,x12,x13,x14]) from rfl)<|e2 (e:=eI) (l:=[1,1,3,3,2]) rfl rfl (fun _=>rfl)<|e2 (e:=eI) (l:=[1,3,2,2,2,2]) rfl rfl (fun _=>rfl)<|g5 rfl rfl rfl (show _=eSorts (Sorts.mk [1,1,3,3,2] [1,3,2,2,2,2]) from rfl)<|a9 rfl rfl rfl rfl rfl<|a9 rfl rfl rfl rfl rfl<|E (kb<|kb<|kn) fun _=>?_
 refine L ?_
 cases h
 exact ⟨by decide,rfl⟩
theorem ck43:CK f43 (Rq [Ai 4] [0,1]<|Sq (Rq [Aa 6 0,Ag 7 6,Aa 8 1,Ag 9 8,Bs 10 7 9] [0,1,10]<|Co 10 (Rq [Ai 4] [4]<|.ret)<|Sk [0,1])<|Sq (Rq [Aa 11 0,Ag 12 11,Ad 13 0] [0,1,12,13]<|Bl 0<|Lo [0,1,12,13]<|Rq [Ap 14 13 12] [0,1,12,13,14]<|Sq (Co 14 (Sk [0,1,12,13])<|Ex 0 [])<|Sq (Bl 1<|Rq [Aa 15 13,Aa 5 15] [0,1,5,12,13]<|Sq (Dr [16,17,18,19,20,21,22,23,24] [Aa 16 0,Aa 17 5,Ah 18 16 17 1,Ab 19 18,Aa 20 1,Aa 21 5,Ah 22 20 21 1,Ab 23 22,Bs 24 19 23] [0,1,12,13,24])<|Co 24 (Rq [Ai 4] [4]<|.ret)<|Sk [0,1,12,13])<|Re [Ao 25 13 1,Aa 13 25] [0,1,12,13])<|Rq [Bw 4] [4]<|.ret) [.tmp 4]:= by decide +kernel
theorem c43 (s1_0:List Int) (s2_1:List Int) (r:Bool) (h:slices_Equal_int s1_0 s2_1=some r):Sound prog 43 [lI s1_0,lI s2_1] (.sh (eB r)):= by
 refine Fn ck43 fun hw=>?_
 unfold slices_Equal_int at h
 refine D<|F<|C rfl<|E (kt<|kt<|kn) fun _=>?_
 refine D<|D<|F<|C rfl<|V rfl rfl<|C rfl<|V rfl rfl<|a7 rfl rfl<|E (kt<|kt<|kt<|kn) fun _=>?_
 refine U rfl (fun hc10=>?_) (fun hc10=>?_)
 ·replace h:=M hc10 h
  refine D<|F<|C rfl<|E (kt<|kn) fun _=>?_
  exact L (by cases h;rfl)
 ·replace h:=O hc10 h
  refine P (kt<|kt<|kn) fun _=>?_
  refine D<|D<|F<|C rfl<|V rfl rfl<|C rfl<|E (kt<|kt<|kt<|kt<|kn) fun _=>?_
  obtain ⟨o0,ho0,h⟩:=d0 h
  refine d5 ho0 (fun (i0:Int) (_:Unit)=>[(0,.tv (lI s1_0)),(1,.tv (lI s2_1)),(12,.tv (eI (s1_0.length:Int))),(13,.tv (eI i0))]) (fun (_:Unit)=>[]) (fun zv ze=>resIs ([.tmp 4]) (.sh (eB zv)) ze) rfl ?_ ?_ ?_ ?_
  ·clear h ho0
   intro i0 s0 r0 hi0 h hw0
   refine D<|F<|X rfl rfl<|E (kt<|kt<|kt<|kt<|kt<|kn) fun _=>?_
   refine D<|b3 rfl (b4 hi0)<|P (kt<|kt<|kt<|kt<|kn) fun _=>?_
   refine D<|a8<|D<|F<|C rfl<|C rfl<|E (kt<|kt<|kt<|kt<|kt<|kn) fun _=>?_
   refine D<|d4 rfl<|C rfl<|C rfl ?_
   obtain ⟨x18,hx18,h⟩:=J h
   refine a2 rfl rfl rfl hx18 rfl<|I rfl<|C rfl<|C rfl ?_
   obtain ⟨x22,hx22,h⟩:=J h
   refine a2 rfl rfl rfl hx22 rfl<|I rfl<|a7 rfl rfl<|E (kt<|kt<|kt<|kt<|kt<|kn) fun _=>?_
   refine U rfl (fun hc24=>?_) (fun hc24=>?_)
   ·replace h:=M hc24 h
    refine D<|F<|C rfl<|E (kt<|kn) fun _=>?_
    refine L ?_
    cases h
    exact ⟨_,rfl,rfl⟩
   ·replace h:=O hc24 h
    refine P (kt<|kt<|kt<|kt<|kn) fun _=>?_
    refine F<|a5 rfl rfl<|C rfl<|E (kt<|kt<|kt<|kt<|kn) ?_
    cases h
    refine ⟨_,rfl,?_⟩
    rw [Ktv rfl (Ktv rfl (Ktv rfl (Ktv rfl (Knil _))))]
    rw [b2 (a4 (hw0 13)) hi0 (d9 (a4 (hw0 12)))]
    all_goals rfl
  ·intro i0 s0 hi0
   refine D<|F<|X rfl rfl<|E (kt<|kt<|kt<|kt<|kt<|kn) fun _=>?_
   refine D<|b5 rfl (b6 hi0)<|b0 (kn) ?_
   exact ⟨rfl,rfl⟩
  ·intro s0 hs
   replace h:=d1 h hs
   intro _
   refine D<|F<|C rfl<|E (kt<|kn) fun _=>?_
   exact L (by cases h;rfl)
  ·intro v0 ze hv hR
   replace h:=d2 h hv
   cases h
   exact hR
theorem ck45:CK f45 (Rq [Ca 0 1 3 4 0 5 1 3 4 0 5 1 1 1 1 0 9 1 1 1 3 4 0 5] [0]<|Rq [⟨some 1,.lst 1 [.c (.int .i64 0),.c (.int .i64 2),.c (.int .i64 4)],none⟩,Fh 2 0 0 0 0 1 2 1 1 2 2 1 0,Fh 3 0 0 0 0 1 4 1 1 2 2 1 1,En 4 3 2 3,Cx 5 1 3 0 1 1 1 1 4,Dn 6 1 3 4 0 5 0 2 5,Eq 7 0 9 1 1 1 3 4 0 5 0 1 1,⟨some 8,.bld [.str ⟨#[]⟩,.list 1 [],.list 3 [],.list 4 [],.int .i64 0,.list 5 [],.list 1 [],.list 3 [],.list 4 [],.int .i64 0,.list 5 [],.list 1 [],.list 1 [],.list 1 [],.list 1 [],.bool false,.int .i64 0,.list 9 [],.list 1 [],.list 1 [],.list 1 [],.list 3 [],.list 4 [],.int .i64 0,.list 5 []] [(0,1,.c (.str ⟨#[99,108,97,115,115,101,115]⟩)),(6,5,.s 6),(15,1,.c (.bool true)),(16,9,.s 7)],none⟩,Ak 25 0 8] [0]<|.ret) [.cell 0 (some 25)]:= by decide +kernel
theorem c45  (r:Rule) (h:law53_classes =some r):Sound prog 45 [] (.sh (eRule r)):= by
 refine Fn ck45 fun hw=>?_
 unfold law53_classes at h
 refine D<|F<|b1 rfl<|E (kb<|kn) fun _=>?_
 refine D<|F<|e2 (e:=eI) (l:=[0,2,4]) rfl rfl (fun _=>rfl)<|g5 rfl rfl rfl (show _=eEdge (Edge.mk 2 2 0) from rfl)<|g5 rfl rfl rfl (show _=eEdge (Edge.mk 4 2 1) from rfl)<|e2 (e:=eEdge) (l:=[Edge.mk 2 2 0,Edge.mk 4 2 1]) rfl rfl (fun _=>rfl)<|g5 rfl rfl rfl (show _=eGraph (Graph.mk [0,2,4] [Edge.mk 2 2 0,Edge.mk 4 2 1]) from rfl)<|e7 rfl rfl (show _=ePattern (Pattern.mk (Graph.mk [0,2,4] [Edge.mk 2 2 0,Edge.mk 4 2 1]) [] 0 []) from rfl)<|e7 rfl rfl (show _=eCondition (Condition.mk 1 [] (Morphism.mk [] []) (Pattern.mk (Graph.mk [] []) [] 0 [])) from rfl)<|e7 rfl rfl (show _=eRule (Rule.mk (⟨#[99,108,97,115,115,101,115]⟩:ByteArray) (Pattern.mk (Graph.mk [] []) [] 0 []) (Pattern.mk (Graph.mk [0,2,4] [Edge.mk 2 2 0,Edge.mk 4 2 1]) [] 0 []) (Part.mk [] []) (Morphism.mk [] []) true (Condition.mk 1 [] (Morphism.mk [] []) (Pattern.mk (Graph.mk [] []) [] 0 []))) from rfl)<|a9 rfl rfl rfl rfl rfl<|E (kb<|kn) fun _=>?_
 exact L (by cases h;rfl)
theorem ck9:CK f9 (Rq [Ai 0] []<|Rq [Dh 9 26,Aa 8 9,At 10 8 0,At 11 8 1,Bd 1 4 7,Bd 2 1 1,Ak 2 1 10,Ak 2 2 11] [1,2]<|Sq (Dr [3,4,12,13,14,15,16,17,18] [Ae 13 1 2,Ae 14 2 2,Dh 15 45,Bf 16 11 13 14 15,Aa 12 16,At 17 12 0,At 18 12 1,Ca 3 1 3 4 0 5 1 3 4 0 5 1 1 1 1 0 9 1 1 1 3 4 0 5,Ak 25 3 17,Aa 4 18] [1,2,3,4])<|Sq (Dr [5,6,7,19,20,21,22,23,24,25,26] [Ae 20 1 2,Ae 21 2 2,Dh 22 45,Bf 23 18 20 21 22,Aa 19 23,At 24 19 0,At 25 19 1,At 26 19 2,Ca 5 1 3 4 0 5 1 3 4 0 5 1 1 1 1 0 9 1 1 1 3 4 0 5,Bd 6 1 1,Ak 25 5 24,Ak 2 6 25,Aa 7 26] [3,4,5,6,7])<|Rq [Aa 27 4,Be 28 27 0,Aa 29 28,Av 30 3 6 29,Bx 31 30 0 29,Bx 32 31 0 29,Aw 33 32 29,Es 34 1 0 29,Bv 35 43 33 34 29,Aq 36 29 35,Aa 37 36,As 38 7 37,Cs 39 38 0 37,Aq 40 37 39,Aa 41 40,Av 42 5 1 41,Bx 43 42 0 41,Bx 44 43 0 41,Aw 45 44 41,Es 46 1 0 41,Bv 47 43 45 46 41,Aq 48 41 47,Aa 49 48,Av 50 6 0 49,Aw 51 50 49,Es 52 1 0 49,Bv 53 43 51 52 49,Aq 54 49 53,Aa 55 54,Av 56 5 6 55,Bx 57 56 0 55,Bx 58 57 0 55,Aw 59 58 55,Cc 60 59 55,Cs 61 60 3 55,Aq 62 55 61,Aa 0 62] [0]<|.ret) [.tmp 0]:= by decide +kernel
theorem c9  (r:Bool) (h:law53_awake =some r):Sound prog 9 [] (.sh (eB r)):= by
 refine Fn ck9 fun hw=>?_
 unfold law53_awake at h
 refine D<|F<|C rfl<|E (kn) fun _=>?_
 refine D<|F ?_
 obtain ⟨x9,hx9,h⟩:=J h
 refine e6 rfl (c26  _ hx9)<|e8 rfl<|b9 rfl rfl<|b9 rfl rfl<|b1 rfl<|b1 rfl<|a9 rfl rfl rfl rfl rfl<|a9 rfl rfl rfl rfl rfl<|E (kb<|kb<|kn) fun _=>?_
 refine D<|d4 rfl<|R rfl rfl (show _=eTypes x9.1 from rfl)<|R rfl rfl (show _=eSorts x9.2 from rfl) ?_
 obtain ⟨x15,hx15,h⟩:=J h
 refine W rfl (c45  _ hx15) ?_
 obtain ⟨x16,hx16,h⟩:=J h
 refine e6 rfl (c11 x9.1 x9.2 x15 _ hx16)<|e8 rfl<|b9 rfl rfl<|b9 rfl rfl<|b1 rfl<|a9 rfl rfl rfl rfl rfl<|C rfl<|E (kb<|kb<|kb<|kt<|kn) fun _=>?_
 refine D<|d4 rfl<|R rfl rfl (show _=eTypes x9.1 from rfl)<|R rfl rfl (show _=eSorts x9.2 from rfl) ?_
 obtain ⟨x22,hx22,h⟩:=J h
 refine W rfl (c45  _ hx22) ?_
 obtain ⟨x23,hx23,h⟩:=J h
 refine e6 rfl (c18 x9.1 x9.2 x22 _ hx23)<|e8 rfl<|b9 rfl rfl<|b9 rfl rfl<|b9 rfl rfl<|b1 rfl<|b1 rfl<|a9 rfl rfl rfl rfl rfl<|a9 rfl rfl rfl rfl rfl<|C rfl<|E (kb<|kt<|kb<|kb<|kt<|kn) fun _=>?_
 refine D<|F<|C rfl<|b8 rfl rfl<|C rfl ?_
 obtain ⟨x36,hx36,h⟩:=J h
 refine gX 7 [30,31,32,33,34,35] 36 x36 (decide (x16.2=0)) (fun hg36=>?_) (fun hg36=>?_) ?_
 ·replace h:=M hg36 hx36
  refine G rfl hg36<|a3 rfl<|G rfl hg36<|f3 rfl rfl<|G rfl hg36<|f3 rfl rfl<|G rfl hg36<|I rfl<|G rfl hg36<|e2 (e:=eI) (l:=[0]) rfl rfl (fun _=>rfl) ?_
  obtain ⟨x35,hx35,h⟩:=J h
  refine G rfl hg36<|W rfl (c43 x16.1.Right.Graph.Nodes [0] _ hx35) ?_
  cases h
  refine Z rfl hg36 rfl ?_
  exact ⟨⟨_,_,_,_,_,_,rfl⟩⟩
 ·replace h:=O hg36 hx36
  cases h
  refine H rfl hg36<|H rfl hg36<|H rfl hg36<|H rfl hg36<|H rfl hg36<|H rfl hg36<|a0 rfl hg36 rfl ?_
  exact ⟨⟨_,_,_,_,_,_,rfl⟩⟩
 rintro _ ⟨_,_,_,_,_,_,rfl⟩
 refine C rfl ?_
 refine gA 3 [38,39] 40 x36 (decide (x23.2.2=0)) (fun hg40=>?_) (fun hg40=>?_) ?_
 ·refine G rfl hg40<|C rfl<|G rfl hg40<|b8 rfl rfl<|Z rfl hg40 rfl ?_
  exact ⟨⟨_,_,rfl⟩⟩
 ·refine H rfl hg40<|H rfl hg40<|a0 rfl hg40 rfl ?_
  exact ⟨⟨_,_,rfl⟩⟩
 rintro _ ⟨_,_,rfl⟩
 refine C rfl ?_
 obtain ⟨x48,hx48,h⟩:=J h
 refine gX 7 [42,43,44,45,46,47] 48 x48 (x36&&(decide (x23.2.2=0))) (fun hg48=>?_) (fun hg48=>?_) ?_
 ·replace h:=M hg48 hx48
  refine G rfl hg48<|a3 rfl<|G rfl hg48<|f3 rfl rfl<|G rfl hg48<|f3 rfl rfl<|G rfl hg48<|I rfl<|G rfl hg48<|e2 (e:=eI) (l:=[0]) rfl rfl (fun _=>rfl) ?_
  obtain ⟨x47,hx47,h⟩:=J h
  refine G rfl hg48<|W rfl (c43 x23.1.Left.Graph.Nodes [0] _ hx47) ?_
  cases h
  refine Z rfl hg48 rfl ?_
  exact ⟨⟨_,_,_,_,_,_,rfl⟩⟩
 ·replace h:=O hg48 hx48
  cases h
  refine H rfl hg48<|H rfl hg48<|H rfl hg48<|H rfl hg48<|H rfl hg48<|H rfl hg48<|a0 rfl hg48 rfl ?_
  exact ⟨⟨_,_,_,_,_,_,rfl⟩⟩
 rintro _ ⟨_,_,_,_,_,_,rfl⟩
 refine C rfl ?_
 obtain ⟨x54,hx54,h⟩:=J h
 refine gX 5 [50,51,52,53] 54 x54 x48 (fun hg54=>?_) (fun hg54=>?_) ?_
 ·replace h:=M hg54 hx54
  refine G rfl hg54<|a3 rfl<|G rfl hg54<|I rfl<|G rfl hg54<|e2 (e:=eI) (l:=[0]) rfl rfl (fun _=>rfl) ?_
  obtain ⟨x53,hx53,h⟩:=J h
  refine G rfl hg54<|W rfl (c43 x23.2.1.Nodes [0] _ hx53) ?_
  cases h
  refine Z rfl hg54 rfl ?_
  exact ⟨⟨_,_,_,_,rfl⟩⟩
 ·replace h:=O hg54 hx54
  cases h
  refine H rfl hg54<|H rfl hg54<|H rfl hg54<|H rfl hg54<|a0 rfl hg54 rfl ?_
  exact ⟨⟨_,_,_,_,rfl⟩⟩
 rintro _ ⟨_,_,_,_,rfl⟩
 refine C rfl ?_
 refine gA 7 [56,57,58,59,60,61] 62 x54 (decide ((x23.1.Right.Graph.Nodes.length:Int)=3)) (fun hg62=>?_) (fun hg62=>?_) ?_
 ·refine G rfl hg62<|a3 rfl<|G rfl hg62<|f3 rfl rfl<|G rfl hg62<|f3 rfl rfl<|G rfl hg62<|I rfl<|G rfl hg62<|V rfl rfl<|G rfl hg62<|b8 rfl rfl<|Z rfl hg62 rfl ?_
  exact ⟨⟨_,_,_,_,_,_,rfl⟩⟩
 ·refine H rfl hg62<|H rfl hg62<|H rfl hg62<|H rfl hg62<|H rfl hg62<|H rfl hg62<|a0 rfl hg62 rfl ?_
  exact ⟨⟨_,_,_,_,_,_,rfl⟩⟩
 rintro _ ⟨_,_,_,_,_,_,rfl⟩
 refine C rfl<|E (kt<|kn) fun _=>?_
 exact L (by cases h;rfl)
theorem ck46:CK f46 (Rq [Af 1 0,Ai 2] [1]<|Sq (Rq [Ac 9 1 0,Ab 10 9,Ag 11 10,Bg 12 11 20,Aa 13 12,Am 14 1 1 13,Al 15 14 13,Ba 16 15 13,Bu 17 16 30 13,Ar 18 13 17] [1,18]<|Co 18 (Rq [Ai 2] [2]<|.ret)<|Sk [1])<|Rq [Ad 3 0] [1,3]<|Sq (Rq [Ad 4 0] [1,3,4]<|Bl 0<|Lo [1,3,4]<|Sq (Rq [Aa 19 4,Ac 20 1 0,Ab 21 20,Ag 22 21,Ap 23 19 22] [1,3,4,23]<|Co 23 (Sk [1,3,4])<|Ex 0 [1])<|Sq (Bl 1<|Rq [Aa 26 3,Ac 27 1 0,Ab 28 27,Aa 29 4,Ah 30 28 29 4,Aj 31 30 3,Ab 32 31,Ag 33 32,Bn 34 26 33,Aa 3 34] [1,3,4]<|Sq (Rq [Aa 35 3,Bg 36 35 30,Aa 37 36,Am 38 1 0 37,Al 39 38 37,Az 40 4 37,Cr 41 39 40 4 37,Bi 42 41 0 37,Al 43 42 37,⟨some 44,.slen (.s 43),some (37,false)⟩,Bu 45 44 40 37,Ar 46 37 45] [1,3,4,46]<|Co 46 (Rq [Ai 2] [2]<|.ret)<|Sk [1,3,4])<|Rq [Ad 5 0] [1,3,4,5]<|Bl 2<|Lo [1,3,4,5]<|Sq (Rq [Aa 47 5,Ac 48 1 0,Ab 49 48,Aa 50 4,Ah 51 49 50 4,Aj 52 51 3,Ab 53 52,Ag 54 53,Ap 55 47 54] [1,3,4,5,55]<|Co 55 (Sk [1,3,4,5])<|Ex 2 [1,3,4])<|Sq (Bl 3<|Rq [Ac 58 1 0,Ab 59 58,Aa 60 4,Ah 61 59 60 4,Aj 62 61 3,Ab 63 62,Aa 64 5,Ah 65 63 64 4,Ae 66 65 4,Df 6 0 0 1,Ak 4 6 66] [1,3,4,5,6]<|Sq (Rq [Ac 67 6 0,Ab 68 67,Ci 69 68,Bg 70 69 40,Aa 71 70,Am 72 6 3 71,Al 73 72 71,Ba 74 73 71,Bu 75 74 25 71,Ar 76 71 75] [1,3,4,5,6,76]<|Co 76 (Rq [Ai 2] [2]<|.ret)<|Sk [1,3,4,5,6])<|Rq [Ad 7 0] [1,3,4,5,6,7]<|Bl 4<|Lo [1,3,4,5,6,7]<|Sq (Rq [Aa 77 7,Ac 78 6 3,Ab 79 78,Ag 80 79,Ap 81 77 80] [1,3,4,5,6,7,81]<|Co 81 (Sk [1,3,4,5,6,7])<|Ex 4 [1,3,4,5])<|Sq (Bl 5<|Rq [Ac 84 6 3,Ab 85 84,Aa 86 7,Ah 87 85 86 1,Ab 88 87,Ci 89 88,Bg 90 89 40] [1,3,4,5,6,7,90]<|Co 90 (Rq [Ai 2] [2]<|.ret)<|Sk [1,3,4,5,6,7])<|Re [Aa 82 7,Ao 83 82 1,Aa 7 83] [1,3,4,5,6,7])<|Re [Aa 56 5,Ao 57 56 1,Aa 5 57] [1,3,4,5])<|Re [Aa 24 4,Ao 25 24 1,Aa 4 25] [1,3,4])<|Sq (Rq [Ad 8 0] [1,8]<|Bl 6<|Lo [1,8]<|Sq (Rq [Aa 91 8,Ac 92 1 1,Ab 93 92,Ag 94 93,Ap 95 91 94] [1,8,95]<|Co 95 (Sk [1,8])<|Ex 6 [])<|Sq (Bl 7<|Rq [Ac 98 1 1,Ab 99 98,Aa 100 8,Ah 101 99 100 7,Aj 102 101 0,Ab 103 102,Ci 104 103,Bg 105 104 40] [1,8,105]<|Co 105 (Rq [Ai 2] [2]<|.ret)<|Sk [1,8])<|Re [Aa 96 8,Ao 97 96 1,Aa 8 97] [1,8])<|Rq [Bw 2] [2]<|.ret) [.tmp 2]:= by decide +kernel
theorem c46 (t:Types) (r:Bool) (h:ref04_Few t=some r):Sound prog 46 [eTypes t] (.sh (eB r)):= by
 refine Fn ck46 fun hw=>?_
 unfold ref04_Few at h
 refine D<|F<|a1 rfl rfl<|C rfl<|E (kt<|kn) fun _=>?_
 refine D<|D<|F<|K rfl<|I rfl<|V rfl rfl<|e3 rfl rfl<|C rfl ?_
 refine gO 5 [14,15,16,17] 18 (decide (20<(t.Nodes.length:Int))) (decide (30<(t.Edges.length:Int))) (fun hg18=>?_) (fun hg18=>?_) ?_
 ·refine H rfl hg18<|H rfl hg18<|H rfl hg18<|H rfl hg18<|Z rfl hg18 rfl ?_
  exact ⟨⟨_,_,_,_,rfl⟩⟩
 ·refine G rfl hg18<|K rfl<|G rfl hg18<|I rfl<|G rfl hg18<|V rfl rfl<|G rfl hg18<|e3 rfl rfl<|a0 rfl hg18 rfl ?_
  exact ⟨⟨_,_,_,_,rfl⟩⟩
 rintro _ ⟨_,_,_,_,rfl⟩
 refine E (kt<|kt<|kn) fun _=>?_
 refine U rfl (fun hc18=>?_) (fun hc18=>?_)
 ·replace h:=M hc18 h
  refine D<|F<|C rfl<|E (kt<|kn) fun _=>?_
  exact L (by cases h;rfl)
 ·replace h:=O hc18 h
  refine P (kt<|kn) fun _=>?_
  refine D<|F<|C rfl<|E (kt<|kt<|kn) fun _=>?_
  refine D<|D<|F<|C rfl<|E (kt<|kt<|kt<|kn) fun _=>?_
  obtain ⟨o0,ho0,h⟩:=d0 h
  refine d5 ho0 (fun (i0:Int) (s0:Int)=>[(1,.tv (.pt (eTypes t).cells)),(3,.tv (eI s0)),(4,.tv (eI i0))]) (fun (s0:Int)=>[(1,.tv (.pt (eTypes t).cells))]) (fun zv ze=>resIs ([.tmp 2]) (.sh (eB zv)) ze) rfl ?_ ?_ ?_ ?_
  ·clear h ho0
   intro i0 s0 r0 hi0 h hw0
   refine D<|D<|F<|C rfl<|K rfl<|I rfl<|V rfl rfl<|X rfl rfl<|E (kt<|kt<|kt<|kt<|kn) fun _=>?_
   refine b3 rfl (b4 hi0)<|P (kt<|kt<|kt<|kn) fun _=>?_
   refine D<|a8<|D<|F<|C rfl<|K rfl<|I rfl<|C rfl ?_
   obtain ⟨x30,hx30,h⟩:=J h
   refine a2 rfl rfl rfl hx30 rfl<|a6 rfl<|I rfl<|V rfl rfl<|a5 rfl rfl<|C rfl<|E (kt<|kt<|kt<|kn) fun _=>?_
   refine D<|D<|F<|C rfl<|e3 rfl rfl<|C rfl ?_
   obtain ⟨x46,hx46,h⟩:=J h
   refine gX 9 [38,39,40,41,42,43,44,45] 46 x46 (decide (30<(w64 (s0+(x30.Attrs.length:Int))))) (fun hg46=>?_) (fun hg46=>?_) ?_
   ·replace h:=M hg46 hx46
    cases h
    refine H rfl hg46<|H rfl hg46<|H rfl hg46<|H rfl hg46<|H rfl hg46<|H rfl hg46<|H rfl hg46<|H rfl hg46<|Z rfl hg46 rfl ?_
    exact ⟨⟨_,_,_,_,_,_,_,_,rfl⟩⟩
   ·replace h:=O hg46 hx46
    refine G rfl hg46<|K rfl<|G rfl hg46<|I rfl<|G rfl hg46<|C rfl ?_
    obtain ⟨x41,hx41,h⟩:=J h
    refine G rfl hg46<|a2 rfl rfl rfl hx41 rfl<|G rfl hg46<|a6 rfl<|G rfl hg46<|I rfl<|G rfl hg46<|g3 rfl<|G rfl hg46<|e3 rfl rfl ?_
    cases h
    refine a0 rfl hg46 rfl ?_
    exact ⟨⟨_,_,_,_,_,_,_,_,rfl⟩⟩
   rintro _ ⟨_,_,_,_,_,_,_,_,rfl⟩
   refine E (kt<|kt<|kt<|kt<|kn) fun _=>?_
   refine U rfl (fun hc46=>?_) (fun hc46=>?_)
   ·replace h:=M hc46 h
    refine D<|F<|C rfl<|E (kt<|kn) fun _=>?_
    refine L ?_
    cases h
    exact ⟨_,rfl,rfl⟩
   ·replace h:=O hc46 h
    refine P (kt<|kt<|kt<|kn) fun _=>?_
    refine D<|F<|C rfl<|E (kt<|kt<|kt<|kt<|kn) fun _=>?_
    obtain ⟨o2,ho2,h⟩:=d0 h
    refine g8 ho2 (fun (s2:Int)=>[(1,.tv (.pt (eTypes t).cells)),(3,.tv (eI (w64 (s0+(x30.Attrs.length:Int))))),(4,.tv (eI i0)),(5,.tv (eI s2))]) (fun (s2:Int)=>[(1,.tv (.pt (eTypes t).cells)),(3,.tv (eI (w64 (s0+(x30.Attrs.length:Int))))),(4,.tv (eI i0))]) (fun zv ze=>resIs ([.tmp 2]) (.sh (eB zv)) ze) rfl ?_ ?_ ?_
    ·clear h ho2
     intro s2 r2 h hw2
     refine D<|D<|F<|C rfl<|K rfl<|I rfl<|C rfl ?_
     obtain ⟨x51,hx51,h⟩:=J h
     refine a2 rfl rfl rfl hx51 rfl<|a6 rfl<|I rfl<|V rfl rfl<|X rfl rfl<|E (kt<|kt<|kt<|kt<|kt<|kn) fun _=>?_
     refine U rfl (fun hc55=>?_) (fun hc55=>?_)
     ·replace h:=M hc55 h
      refine P (kt<|kt<|kt<|kt<|kn) fun _=>?_
      refine D<|a8<|D<|F<|K rfl<|I rfl<|C rfl ?_
      obtain ⟨x61,hx61,h⟩:=J h
      refine a2 rfl rfl rfl hx61 rfl<|a6 rfl<|I rfl<|C rfl ?_
      obtain ⟨x65,hx65,h⟩:=J h
      refine a2 rfl rfl rfl hx65 rfl<|R rfl rfl (show _=eAttr x65 from rfl)<|b1 rfl<|a9 rfl rfl rfl rfl rfl<|E (kt<|kt<|kt<|kt<|kb<|kn) fun _=>?_
      refine D<|D<|F<|a3 rfl<|I rfl<|g3 rfl<|e3 rfl rfl<|C rfl ?_
      refine gO 5 [72,73,74,75] 76 (decide (40<(x65.Name.size:Int))) (decide (25<(x65.Names.length:Int))) (fun hg76=>?_) (fun hg76=>?_) ?_
      ·refine H rfl hg76<|H rfl hg76<|H rfl hg76<|H rfl hg76<|Z rfl hg76 rfl ?_
       exact ⟨⟨_,_,_,_,rfl⟩⟩
      ·refine G rfl hg76<|a3 rfl<|G rfl hg76<|I rfl<|G rfl hg76<|V rfl rfl<|G rfl hg76<|e3 rfl rfl<|a0 rfl hg76 rfl ?_
       exact ⟨⟨_,_,_,_,rfl⟩⟩
      rintro _ ⟨_,_,_,_,rfl⟩
      refine E (kt<|kt<|kt<|kt<|kb<|kt<|kn) fun _=>?_
      refine U rfl (fun hc76=>?_) (fun hc76=>?_)
      ·replace h:=M hc76 h
       refine D<|F<|C rfl<|E (kt<|kn) fun _=>?_
       refine L ?_
       cases h
       exact ⟨_,rfl,rfl⟩
      ·replace h:=O hc76 h
       refine P (kt<|kt<|kt<|kt<|kb<|kn) fun _=>?_
       refine D<|F<|C rfl<|E (kt<|kt<|kt<|kt<|kb<|kt<|kn) fun _=>?_
       obtain ⟨o4,ho4,h⟩:=d0 h
       refine g8 ho4 (fun (s4:Int)=>[(1,.tv (.pt (eTypes t).cells)),(3,.tv (eI (w64 (s0+(x30.Attrs.length:Int))))),(4,.tv (eI i0)),(5,.tv (eI s2)),(6,.bx [⟨false,eS x65.Name⟩,⟨false,eI x65.Low⟩,⟨false,eI x65.High⟩,⟨false,lB x65.Names⟩]),(7,.tv (eI s4))]) (fun (s4:Int)=>[(1,.tv (.pt (eTypes t).cells)),(3,.tv (eI (w64 (s0+(x30.Attrs.length:Int))))),(4,.tv (eI i0)),(5,.tv (eI s2))]) (fun zv ze=>resIs ([.tmp 2]) (.sh (eB zv)) ze) rfl ?_ ?_ ?_
       ·clear h ho4
        intro s4 r4 h hw4
        refine D<|D<|F<|C rfl<|a3 rfl<|I rfl<|V rfl rfl<|X rfl rfl<|E (kt<|kt<|kt<|kt<|kb<|kt<|kt<|kn) fun _=>?_
        refine U rfl (fun hc81=>?_) (fun hc81=>?_)
        ·replace h:=M hc81 h
         refine P (kt<|kt<|kt<|kt<|kb<|kt<|kn) fun _=>?_
         refine D<|a8<|D<|F<|a3 rfl<|I rfl<|C rfl ?_
         obtain ⟨x87,hx87,h⟩:=J h
         refine a2 rfl rfl rfl hx87 rfl<|I rfl<|g3 rfl<|e3 rfl rfl<|E (kt<|kt<|kt<|kt<|kb<|kt<|kt<|kn) fun _=>?_
         refine U rfl (fun hc90=>?_) (fun hc90=>?_)
         ·replace h:=M hc90 h
          refine D<|F<|C rfl<|E (kt<|kn) fun _=>?_
          refine L ?_
          cases h
          exact ⟨_,rfl,rfl⟩
         ·replace h:=O hc90 h
          refine P (kt<|kt<|kt<|kt<|kb<|kt<|kn) fun _=>?_
          refine F<|C rfl<|a5 rfl rfl<|C rfl<|E (kt<|kt<|kt<|kt<|kb<|kt<|kn) ?_
          cases h
          refine ⟨_,rfl,?_⟩
          rw [Ktv rfl (Ktv rfl (Ktv rfl (Ktv rfl (Kbx rfl (Ktv rfl (Knil _))))))]
          all_goals rfl
        ·replace h:=O hc81 h
         refine b0 (kt<|kt<|kt<|kt<|kn) ?_
         refine ⟨rfl,?_⟩
         cases h
         exact ⟨_,rfl,rfl⟩
       ·intro s4 hs
        replace h:=d1 h hs
        intro _
        refine F<|C rfl<|a5 rfl rfl<|C rfl<|E (kt<|kt<|kt<|kt<|kn) ?_
        cases h
        refine ⟨_,rfl,?_⟩
        rw [Ktv rfl (Ktv rfl (Ktv rfl (Ktv rfl (Knil _))))]
        all_goals rfl
       ·intro v4 ze hv hR
        replace h:=d2 h hv
        cases h
        exact ⟨_,rfl,hR⟩
     ·replace h:=O hc55 h
      refine b0 (kt<|kt<|kt<|kn) ?_
      refine ⟨rfl,?_⟩
      cases h
      exact ⟨_,rfl,rfl⟩
    ·intro s2 hs
     replace h:=d1 h hs
     intro _
     refine F<|C rfl<|a5 rfl rfl<|C rfl<|E (kt<|kt<|kt<|kn) ?_
     cases h
     refine ⟨_,rfl,?_⟩
     rw [Ktv rfl (Ktv rfl (Ktv rfl (Knil _)))]
     rw [b2 (a4 (hw0 4)) hi0 (e4 (e9 (f0 (hw0 1)) (i:=0) rfl) rfl)]
     all_goals rfl
    ·intro v2 ze hv hR
     replace h:=d2 h hv
     cases h
     exact ⟨_,rfl,hR⟩
  ·intro i0 s0 hi0
   refine D<|D<|F<|C rfl<|K rfl<|I rfl<|V rfl rfl<|X rfl rfl<|E (kt<|kt<|kt<|kt<|kn) fun _=>?_
   refine b5 rfl (b6 hi0)<|b0 (kt<|kn) ?_
   exact ⟨rfl,rfl⟩
  ·intro s0 hs
   replace h:=d1 h hs
   intro _
   refine D<|D<|F<|C rfl<|E (kt<|kt<|kn) fun _=>?_
   obtain ⟨o6,ho6,h⟩:=d0 h
   refine d5 ho6 (fun (i6:Int) (_:Unit)=>[(1,.tv (.pt (eTypes t).cells)),(8,.tv (eI i6))]) (fun (_:Unit)=>[]) (fun zv ze=>resIs ([.tmp 2]) (.sh (eB zv)) ze) rfl ?_ ?_ ?_ ?_
   ·clear h ho6
    intro i6 s6 r6 hi6 h hw6
    refine D<|D<|F<|C rfl<|K rfl<|I rfl<|V rfl rfl<|X rfl rfl<|E (kt<|kt<|kt<|kn) fun _=>?_
    refine b3 rfl (b4 hi6)<|P (kt<|kt<|kn) fun _=>?_
    refine D<|a8<|D<|F<|K rfl<|I rfl<|C rfl ?_
    obtain ⟨x101,hx101,h⟩:=J h
    refine a2 rfl rfl rfl hx101 rfl<|a6 rfl<|I rfl<|g3 rfl<|e3 rfl rfl<|E (kt<|kt<|kt<|kn) fun _=>?_
    refine U rfl (fun hc105=>?_) (fun hc105=>?_)
    ·replace h:=M hc105 h
     refine D<|F<|C rfl<|E (kt<|kn) fun _=>?_
     refine L ?_
     cases h
     exact ⟨_,rfl,rfl⟩
    ·replace h:=O hc105 h
     refine P (kt<|kt<|kn) fun _=>?_
     refine F<|C rfl<|a5 rfl rfl<|C rfl<|E (kt<|kt<|kn) ?_
     cases h
     refine ⟨_,rfl,?_⟩
     rw [Ktv rfl (Ktv rfl (Knil _))]
     rw [b2 (a4 (hw6 8)) hi6 (e4 (e9 (f0 (hw6 1)) (i:=1) rfl) rfl)]
     all_goals rfl
   ·intro i6 s6 hi6
    refine D<|D<|F<|C rfl<|K rfl<|I rfl<|V rfl rfl<|X rfl rfl<|E (kt<|kt<|kt<|kn) fun _=>?_
    refine b5 rfl (b6 hi6)<|b0 (kn) ?_
    exact ⟨rfl,rfl⟩
   ·intro s6 hs
    replace h:=d1 h hs
    intro _
    refine D<|F<|C rfl<|E (kt<|kn) fun _=>?_
    exact L (by cases h;rfl)
   ·intro v6 ze hv hR
    replace h:=d2 h hv
    cases h
    exact hR
  ·intro v0 ze hv hR
   replace h:=d2 h hv
   cases h
   exact hR
theorem ck47:CK f47 (Rq [Af 1 0,Ai 2] [1]<|Rq [Ac 3 1 0,Ab 4 3,Ag 5 4,Ac 6 1 1,Ab 7 6,Ag 8 7,Bn 9 5 8,Et 10 9 50,Aa 2 10] [2]<|.ret) [.tmp 2]:= by decide +kernel
theorem c47 (s_0:Sorts) (r:Bool) (h:ref52_Few s_0=some r):Sound prog 47 [eSorts s_0] (.sh (eB r)):= by
 refine Fn ck47 fun hw=>?_
 unfold ref52_Few at h
 refine D<|F<|a1 rfl rfl<|C rfl<|E (kt<|kn) fun _=>?_
 refine D<|F<|K rfl<|I rfl<|V rfl rfl<|K rfl<|I rfl<|V rfl rfl<|a5 rfl rfl<|f1 rfl rfl<|C rfl<|E (kt<|kn) fun _=>?_
 exact L (by cases h;rfl)
theorem ck139:CK f139 (Rq [Af 1 0,Ai 2] [1]<|Rq [Ac 3 1 0,Ab 4 3,Ag 5 4,Et 6 5 45,Aa 7 6,Av 8 1 1 7,Aw 9 8 7,Cc 10 9 7,Cn 11 10 90 7,Aq 12 7 11,Aa 2 12] [2]<|.ret) [.tmp 2]:= by decide +kernel
theorem c139 (g:Graph) (r:Bool) (h:ref05_Few g=some r):Sound prog 139 [eGraph g] (.sh (eB r)):= by
 refine Fn ck139 fun hw=>?_
 unfold ref05_Few at h
 refine D<|F<|a1 rfl rfl<|C rfl<|E (kt<|kn) fun _=>?_
 refine D<|F<|K rfl<|I rfl<|V rfl rfl<|f1 rfl rfl<|C rfl ?_
 refine gA 5 [8,9,10,11] 12 (decide ((g.Nodes.length:Int)<=45)) (decide ((g.Edges.length:Int)<=90)) (fun hg12=>?_) (fun hg12=>?_) ?_
 ·refine G rfl hg12<|K rfl<|G rfl hg12<|I rfl<|G rfl hg12<|V rfl rfl<|G rfl hg12<|f1 rfl rfl<|Z rfl hg12 rfl ?_
  exact ⟨⟨_,_,_,_,rfl⟩⟩
 ·refine H rfl hg12<|H rfl hg12<|H rfl hg12<|H rfl hg12<|a0 rfl hg12 rfl ?_
  exact ⟨⟨_,_,_,_,rfl⟩⟩
 rintro _ ⟨_,_,_,_,rfl⟩
 refine C rfl<|E (kt<|kn) fun _=>?_
 exact L (by cases h;rfl)
theorem ck82:CK f82 (Rq [Af 1 0,Ai 2] [1]<|Rq [Ac 3 1 0,Ae 4 3 2,Au 5 139 4,Aa 6 5,Av 7 1 2 6,Aw 8 7 6,Cc 9 8 6,Cn 10 9 15 6,Aq 11 6 10,Aa 12 11,Av 13 1 4 12,Aw 14 13 12,Cc 15 14 12,Cn 16 15 15 12,Aq 17 12 16,Aa 2 17] [2]<|.ret) [.tmp 2]:= by decide +kernel
theorem c82 (p:Pattern) (r:Bool) (h:ref21_Few p=some r):Sound prog 82 [ePattern p] (.sh (eB r)):= by
 refine Fn ck82 fun hw=>?_
 unfold ref21_Few at h
 refine D<|F<|a1 rfl rfl<|C rfl<|E (kt<|kn) fun _=>?_
 refine D<|F<|K rfl<|R rfl rfl (show _=eGraph p.Graph from rfl) ?_
 obtain ⟨x5,hx5,h⟩:=J h
 refine W rfl (c139 p.Graph _ hx5)<|C rfl ?_
 refine gA 5 [7,8,9,10] 11 x5 (decide ((p.Slots.length:Int)<=15)) (fun hg11=>?_) (fun hg11=>?_) ?_
 ·refine G rfl hg11<|K rfl<|G rfl hg11<|I rfl<|G rfl hg11<|V rfl rfl<|G rfl hg11<|f1 rfl rfl<|Z rfl hg11 rfl ?_
  exact ⟨⟨_,_,_,_,rfl⟩⟩
 ·refine H rfl hg11<|H rfl hg11<|H rfl hg11<|H rfl hg11<|a0 rfl hg11 rfl ?_
  exact ⟨⟨_,_,_,_,rfl⟩⟩
 rintro _ ⟨_,_,_,_,rfl⟩
 refine C rfl ?_
 refine gA 5 [13,14,15,16] 17 (x5&&(decide ((p.Slots.length:Int)<=15))) (decide ((p.Tests.length:Int)<=15)) (fun hg17=>?_) (fun hg17=>?_) ?_
 ·refine G rfl hg17<|K rfl<|G rfl hg17<|I rfl<|G rfl hg17<|V rfl rfl<|G rfl hg17<|f1 rfl rfl<|Z rfl hg17 rfl ?_
  exact ⟨⟨_,_,_,_,rfl⟩⟩
 ·refine H rfl hg17<|H rfl hg17<|H rfl hg17<|H rfl hg17<|a0 rfl hg17 rfl ?_
  exact ⟨⟨_,_,_,_,rfl⟩⟩
 rintro _ ⟨_,_,_,_,rfl⟩
 refine C rfl<|E (kt<|kn) fun _=>?_
 exact L (by cases h;rfl)
theorem ck83:CK f83 (Rq [Af 2 0,Ai 4] [1,2]<|Rq [Ac 5 2 0,Ab 6 5,Ag 7 6,Ac 8 2 1,Ab 9 8,Ag 10 9,Bn 11 7 10,Aa 12 1,Eu 13 11 12,Aa 4 13] [4]<|.ret) [.tmp 4]:= by decide +kernel
theorem c83 (p:Part) (n:Int) (r:Bool) (h:ref07_Few p n=some r):Sound prog 83 [ePart p,eI n] (.sh (eB r)):= by
 refine Fn ck83 fun hw=>?_
 unfold ref07_Few at h
 refine D<|F<|a1 rfl rfl<|C rfl<|E (kt<|kt<|kn) fun _=>?_
 refine D<|F<|K rfl<|I rfl<|V rfl rfl<|K rfl<|I rfl<|V rfl rfl<|a5 rfl rfl<|C rfl<|f1 rfl rfl<|C rfl<|E (kt<|kn) fun _=>?_
 exact L (by cases h;rfl)
theorem ck84:CK f84 (Rq [Af 2 0,Ai 4] [1,2]<|Rq [Ac 5 2 0,Ab 6 5,Ag 7 6,Ac 8 2 1,Ab 9 8,Ag 10 9,Bn 11 7 10,Aa 12 1,Eu 13 11 12,Aa 4 13] [4]<|.ret) [.tmp 4]:= by decide +kernel
theorem c84 (m:Morphism) (n:Int) (r:Bool) (h:ref06_Few m n=some r):Sound prog 84 [eMorphism m,eI n] (.sh (eB r)):= by
 refine Fn ck84 fun hw=>?_
 unfold ref06_Few at h
 refine D<|F<|a1 rfl rfl<|C rfl<|E (kt<|kt<|kn) fun _=>?_
 refine D<|F<|K rfl<|I rfl<|V rfl rfl<|K rfl<|I rfl<|V rfl rfl<|a5 rfl rfl<|C rfl<|f1 rfl rfl<|C rfl<|E (kt<|kn) fun _=>?_
 exact L (by cases h;rfl)
theorem ck140:CK f140 (Rq [Af 2 0,Ad 4 0] [1,2]<|Rq [Aa 6 1,Cy 7 6 1,Aa 1 7] [1,2]<|Sq (Rq [Ac 8 2 4,Ae 9 8 5,Au 10 82 9,Ay 11 10,Aa 12 11,Am 13 2 2 12,Cf 14 13 2 12,⟨some 15,.call 84 [.s 14,.c (.int .i64 140)],some (12,false)⟩,Bq 16 15 12,Ar 17 12 16] [1,2,17]<|Co 17 (Rq [Ce 4 (-1)] [4]<|.ret)<|Sk [1,2])<|Sq (Rq [Ad 5 0] [1,2,5]<|Bl 0<|Lo [1,2,5]<|Sq (Rq [Aa 18 5,Ac 19 2 1,Ab 20 19,Ag 21 20,Ap 22 18 21,Aa 23 22,As 24 1 23,Ev 25 24 0 23,Aq 26 23 25] [1,2,5,26]<|Co 26 (Sk [1,2,5])<|Ex 0 [1])<|Sq (Bl 1<|Re [Ac 29 2 1,Ab 30 29,Aa 31 5,Ah 32 30 31 9,Ae 33 32 9,Aa 34 1,An 35 140 33 34,Aa 1 35] [1,2,5])<|Re [Aa 27 5,Ao 28 27 1,Aa 5 28] [1,2,5])<|Rq [Aa 36 1,Aa 4 36] [4]<|.ret) [.tmp 4]:= by decide +kernel
theorem c140S (n:Nat) (ih_140:∀ (c:Condition) (most:Int) (r:Int) (_:ref22_leftF n c most=some r),Sound prog 140 [eCondition c,eI most] (.sh (eI r))):∀ (c:Condition) (most:Int) (r:Int) (_:ref22_leftF (n+1) c most=some r),Sound prog 140 [eCondition c,eI most] (.sh (eI r)):= by
 intro c most r h
 refine Fn ck140 fun hw=>?_
 unfold ref22_leftF at h
 refine D<|F<|a1 rfl rfl<|C rfl<|E (kt<|kt<|kn) fun _=>?_
 refine D<|F<|C rfl<|g0 rfl rfl<|C rfl<|E (kt<|kt<|kn) fun _=>?_
 refine D<|D<|F<|K rfl<|R rfl rfl (show _=ePattern c.Pattern from rfl) ?_
 obtain ⟨x10,hx10,h⟩:=J h
 refine W rfl (c82 c.Pattern _ hx10)<|b7 rfl<|C rfl ?_
 obtain ⟨x17,hx17,h⟩:=J h
 refine gX 5 [13,14,15,16] 17 x17 (!x10) (fun hg17=>?_) (fun hg17=>?_) ?_
 ·replace h:=M hg17 hx17
  cases h
  refine H rfl hg17<|H rfl hg17<|H rfl hg17<|H rfl hg17<|Z rfl hg17 rfl ?_
  exact ⟨⟨_,_,_,_,rfl⟩⟩
 ·replace h:=O hg17 hx17
  refine G rfl hg17<|K rfl<|G rfl hg17<|R rfl rfl (show _=eMorphism c.Map from rfl) ?_
  obtain ⟨x15,hx15,h⟩:=J h
  refine G rfl hg17<|W rfl (c84 c.Map 140 _ hx15)<|G rfl hg17<|b7 rfl ?_
  cases h
  refine a0 rfl hg17 rfl ?_
  exact ⟨⟨_,_,_,_,rfl⟩⟩
 rintro _ ⟨_,_,_,_,rfl⟩
 refine E (kt<|kt<|kt<|kn) fun _=>?_
 refine U rfl (fun hc17=>?_) (fun hc17=>?_)
 ·replace h:=M hc17 h
  refine D<|F<|C rfl<|E (kt<|kn) fun _=>?_
  exact L (by cases h;rfl)
 ·replace h:=O hc17 h
  refine P (kt<|kt<|kn) fun _=>?_
  refine D<|D<|F<|C rfl<|E (kt<|kt<|kt<|kn) fun _=>?_
  obtain ⟨o0,ho0,h⟩:=d0 h
  refine g8 ho0 (fun (s0:Int × Int)=>[(1,.tv (eI s0.1)),(2,.tv (.pt (eCondition c).cells)),(5,.tv (eI s0.2))]) (fun (s0:Int × Int)=>[(1,.tv (eI s0.1))]) (fun zv ze=>resIs ([.tmp 4]) (.sh (eI zv)) ze) rfl ?_ ?_ ?_
  ·clear h ho0
   intro s0 r0 h hw0
   refine D<|D<|F<|C rfl<|K rfl<|I rfl<|V rfl (eLCondition_eq _)<|X rfl rfl<|C rfl ?_
   refine gA 3 [24,25] 26 (decide (s0.2<(c.Kids.length:Int))) (decide (0<=s0.1)) (fun hg26=>?_) (fun hg26=>?_) ?_
   ·refine G rfl hg26<|C rfl<|G rfl hg26<|d6 rfl rfl<|Z rfl hg26 rfl ?_
    exact ⟨⟨_,_,rfl⟩⟩
   ·refine H rfl hg26<|H rfl hg26<|a0 rfl hg26 rfl ?_
    exact ⟨⟨_,_,rfl⟩⟩
   rintro _ ⟨_,_,rfl⟩
   refine E (kt<|kt<|kt<|kt<|kn) fun _=>?_
   refine U rfl (fun hc26=>?_) (fun hc26=>?_)
   ·replace h:=M hc26 h
    refine P (kt<|kt<|kt<|kn) fun _=>?_
    refine D<|a8<|F<|K rfl<|I rfl<|C rfl ?_
    obtain ⟨x32,hx32,h⟩:=J h
    refine a2 rfl rfl (eLCondition_eq _) hx32 rfl<|R rfl rfl (show _=eCondition x32 from rfl)<|C rfl ?_
    obtain ⟨x35,hx35,h⟩:=J h
    refine W rfl (ih_140 x32 s0.1 _ hx35)<|C rfl<|E (kt<|kt<|kt<|kn) fun _=>?_
    refine F<|C rfl<|a5 rfl rfl<|C rfl<|E (kt<|kt<|kt<|kn) ?_
    cases h
    refine ⟨_,rfl,?_⟩
    rw [Ktv rfl (Ktv rfl (Ktv rfl (Knil _)))]
    all_goals rfl
   ·replace h:=O hc26 h
    refine b0 (kt<|kn) ?_
    refine ⟨rfl,?_⟩
    cases h
    exact ⟨_,rfl,rfl⟩
  ·intro s0 hs
   replace h:=d1 h hs
   intro _
   refine D<|F<|C rfl<|C rfl<|E (kt<|kn) fun _=>?_
   exact L (by cases h;rfl)
  ·intro v0 ze hv hR
   replace h:=d2 h hv
   cases h
   exact hR
theorem c140A:∀ n:Nat,(∀ (c:Condition) (most:Int) (r:Int) (_:ref22_leftF n c most=some r),Sound prog 140 [eCondition c,eI most] (.sh (eI r))):=by
  intro n
  induction n with
  | zero=>intro c most r h; cases h
  | succ n ih=>exact c140S n ih
theorem c140 (c:Condition) (most:Int) (r:Int) (h:ref22_left c most=some r):Sound prog 140 [eCondition c,eI most] (.sh (eI r)):=by
  obtain ⟨N,hN⟩:=lim_some h
  exact (c140A N) c most r (hN N (Nat.le_refl _))
theorem ck85:CK f85 (Rq [Af 1 0,Ai 2] [1]<|Rq [Ae 3 1 9,Dx 4 140 3 40,Bo 5 4 0,Aa 2 5] [2]<|.ret) [.tmp 2]:= by decide +kernel
theorem c85 (c:Condition) (r:Bool) (h:ref22_Few c=some r):Sound prog 85 [eCondition c] (.sh (eB r)):= by
 refine Fn ck85 fun hw=>?_
 unfold ref22_Few at h
 refine D<|F<|a1 rfl rfl<|C rfl<|E (kt<|kn) fun _=>?_
 refine D<|F<|R rfl rfl (show _=eCondition c from rfl) ?_
 obtain ⟨x4,hx4,h⟩:=J h
 refine W rfl (c140 c 40 _ hx4)<|d6 rfl rfl<|C rfl<|E (kt<|kn) fun _=>?_
 exact L (by cases h;rfl)
theorem ck48:CK f48 (Rq [Af 1 0,Ai 2] [1]<|Rq [Ac 3 1 0,Ab 4 3,Ci 5 4,Et 6 5 60,Aa 7 6,Av 8 1 1 7,Bj 9 8 5 7,Bz 10 82 9 7,Aq 11 7 10,Aa 12 11,Av 13 1 6 12,Bj 14 13 5 12,Bz 15 82 14 12,Aq 16 12 15,Aa 17 16,Av 18 1 11 17,Bj 19 18 2 17,⟨some 20,.call 83 [.s 19,.c (.int .i64 140)],some (17,true)⟩,Aq 21 17 20,Aa 22 21,Av 23 1 13 22,Bj 24 23 2 22,⟨some 25,.call 84 [.s 24,.c (.int .i64 140)],some (22,true)⟩,Aq 26 22 25,Aa 27 26,Av 28 1 16 27,Bj 29 28 9 27,Bz 30 85 29 27,Aq 31 27 30,Aa 2 31] [2]<|.ret) [.tmp 2]:= by decide +kernel
theorem c48 (r_0:Rule) (r:Bool) (h:ref24_Few r_0=some r):Sound prog 48 [eRule r_0] (.sh (eB r)):= by
 refine Fn ck48 fun hw=>?_
 unfold ref24_Few at h
 refine D<|F<|a1 rfl rfl<|C rfl<|E (kt<|kn) fun _=>?_
 refine D<|F<|K rfl<|I rfl<|g3 rfl<|f1 rfl rfl<|C rfl ?_
 obtain ⟨x11,hx11,h⟩:=J h
 refine gX 4 [8,9,10] 11 x11 (decide ((r_0.Name.size:Int)<=60)) (fun hg11=>?_) (fun hg11=>?_) ?_
 ·replace h:=M hg11 hx11
  refine G rfl hg11<|K rfl<|G rfl hg11<|R rfl rfl (show _=ePattern r_0.Left from rfl) ?_
  obtain ⟨x10,hx10,h⟩:=J h
  refine G rfl hg11<|W rfl (c82 r_0.Left _ hx10) ?_
  cases h
  refine Z rfl hg11 rfl ?_
  exact ⟨⟨_,_,_,rfl⟩⟩
 ·replace h:=O hg11 hx11
  cases h
  refine H rfl hg11<|H rfl hg11<|H rfl hg11<|a0 rfl hg11 rfl ?_
  exact ⟨⟨_,_,_,rfl⟩⟩
 rintro _ ⟨_,_,_,rfl⟩
 refine C rfl ?_
 obtain ⟨x16,hx16,h⟩:=J h
 refine gX 4 [13,14,15] 16 x16 x11 (fun hg16=>?_) (fun hg16=>?_) ?_
 ·replace h:=M hg16 hx16
  refine G rfl hg16<|K rfl<|G rfl hg16<|R rfl rfl (show _=ePattern r_0.Right from rfl) ?_
  obtain ⟨x15,hx15,h⟩:=J h
  refine G rfl hg16<|W rfl (c82 r_0.Right _ hx15) ?_
  cases h
  refine Z rfl hg16 rfl ?_
  exact ⟨⟨_,_,_,rfl⟩⟩
 ·replace h:=O hg16 hx16
  cases h
  refine H rfl hg16<|H rfl hg16<|H rfl hg16<|a0 rfl hg16 rfl ?_
  exact ⟨⟨_,_,_,rfl⟩⟩
 rintro _ ⟨_,_,_,rfl⟩
 refine C rfl ?_
 obtain ⟨x21,hx21,h⟩:=J h
 refine gX 4 [18,19,20] 21 x21 x16 (fun hg21=>?_) (fun hg21=>?_) ?_
 ·replace h:=M hg21 hx21
  refine G rfl hg21<|K rfl<|G rfl hg21<|R rfl rfl (show _=ePart r_0.Keep from rfl) ?_
  obtain ⟨x20,hx20,h⟩:=J h
  refine G rfl hg21<|W rfl (c83 r_0.Keep 140 _ hx20) ?_
  cases h
  refine Z rfl hg21 rfl ?_
  exact ⟨⟨_,_,_,rfl⟩⟩
 ·replace h:=O hg21 hx21
  cases h
  refine H rfl hg21<|H rfl hg21<|H rfl hg21<|a0 rfl hg21 rfl ?_
  exact ⟨⟨_,_,_,rfl⟩⟩
 rintro _ ⟨_,_,_,rfl⟩
 refine C rfl ?_
 obtain ⟨x26,hx26,h⟩:=J h
 refine gX 4 [23,24,25] 26 x26 x21 (fun hg26=>?_) (fun hg26=>?_) ?_
 ·replace h:=M hg26 hx26
  refine G rfl hg26<|K rfl<|G rfl hg26<|R rfl rfl (show _=eMorphism r_0.Into from rfl) ?_
  obtain ⟨x25,hx25,h⟩:=J h
  refine G rfl hg26<|W rfl (c84 r_0.Into 140 _ hx25) ?_
  cases h
  refine Z rfl hg26 rfl ?_
  exact ⟨⟨_,_,_,rfl⟩⟩
 ·replace h:=O hg26 hx26
  cases h
  refine H rfl hg26<|H rfl hg26<|H rfl hg26<|a0 rfl hg26 rfl ?_
  exact ⟨⟨_,_,_,rfl⟩⟩
 rintro _ ⟨_,_,_,rfl⟩
 refine C rfl ?_
 obtain ⟨x31,hx31,h⟩:=J h
 refine gX 4 [28,29,30] 31 x31 x26 (fun hg31=>?_) (fun hg31=>?_) ?_
 ·replace h:=M hg31 hx31
  refine G rfl hg31<|K rfl<|G rfl hg31<|R rfl rfl (show _=eCondition r_0.Condition from rfl) ?_
  obtain ⟨x30,hx30,h⟩:=J h
  refine G rfl hg31<|W rfl (c85 r_0.Condition _ hx30) ?_
  cases h
  refine Z rfl hg31 rfl ?_
  exact ⟨⟨_,_,_,rfl⟩⟩
 ·replace h:=O hg31 hx31
  cases h
  refine H rfl hg31<|H rfl hg31<|H rfl hg31<|a0 rfl hg31 rfl ?_
  exact ⟨⟨_,_,_,rfl⟩⟩
 rintro _ ⟨_,_,_,rfl⟩
 refine C rfl<|E (kt<|kn) fun _=>?_
 exact L (by cases h;rfl)
theorem ck10:CK f10 (Rq [Af 3 0,Af 4 1,Af 5 2,Ai 6] [3,4,5]<|Rq [Ae 7 3 2,Au 8 46 7,Aa 9 8,Bj 10 4 2 9,Bz 11 47 10 9,Aq 12 9 11,Aa 13 12,Bj 14 5 25 13,Bz 15 48 14 13,Aq 16 13 15,Aa 6 16] [6]<|.ret) [.tmp 6]:= by decide +kernel
theorem c10 (t:Types) (s_1:Sorts) (r_2:Rule) (r:Bool) (h:ref53_Few t s_1 r_2=some r):Sound prog 10 [eTypes t,eSorts s_1,eRule r_2] (.sh (eB r)):= by
 refine Fn ck10 fun hw=>?_
 unfold ref53_Few at h
 refine D<|F<|a1 rfl rfl<|a1 rfl rfl<|a1 rfl rfl<|C rfl<|E (kt<|kt<|kt<|kn) fun _=>?_
 refine D<|F<|R rfl rfl (show _=eTypes t from rfl) ?_
 obtain ⟨x8,hx8,h⟩:=J h
 refine W rfl (c46 t _ hx8)<|C rfl ?_
 obtain ⟨x12,hx12,h⟩:=J h
 refine gX 3 [10,11] 12 x12 x8 (fun hg12=>?_) (fun hg12=>?_) ?_
 ·replace h:=M hg12 hx12
  refine G rfl hg12<|R rfl rfl (show _=eSorts s_1 from rfl) ?_
  obtain ⟨x11,hx11,h⟩:=J h
  refine G rfl hg12<|W rfl (c47 s_1 _ hx11) ?_
  cases h
  refine Z rfl hg12 rfl ?_
  exact ⟨⟨_,_,rfl⟩⟩
 ·replace h:=O hg12 hx12
  cases h
  refine H rfl hg12<|H rfl hg12<|a0 rfl hg12 rfl ?_
  exact ⟨⟨_,_,rfl⟩⟩
 rintro _ ⟨_,_,rfl⟩
 refine C rfl ?_
 obtain ⟨x16,hx16,h⟩:=J h
 refine gX 3 [14,15] 16 x16 x12 (fun hg16=>?_) (fun hg16=>?_) ?_
 ·replace h:=M hg16 hx16
  refine G rfl hg16<|R rfl rfl (show _=eRule r_2 from rfl) ?_
  obtain ⟨x15,hx15,h⟩:=J h
  refine G rfl hg16<|W rfl (c48 r_2 _ hx15) ?_
  cases h
  refine Z rfl hg16 rfl ?_
  exact ⟨⟨_,_,rfl⟩⟩
 ·replace h:=O hg16 hx16
  cases h
  refine H rfl hg16<|H rfl hg16<|a0 rfl hg16 rfl ?_
  exact ⟨⟨_,_,rfl⟩⟩
 rintro _ ⟨_,_,rfl⟩
 refine C rfl<|E (kt<|kn) fun _=>?_
 exact L (by cases h;rfl)
theorem ck64:CK f64 (Rq [Ai 4] [0,1]<|Sq (Rq [Aa 6 0,Ag 7 6,Aa 8 1,Ag 9 8,Bs 10 7 9] [0,1,10]<|Co 10 (Rq [Ai 4] [4]<|.ret)<|Sk [0,1])<|Sq (Rq [Ad 5 0] [0,1,5]<|Bl 0<|Lo [0,1,5]<|Sq (Rq [Aa 11 5,Aa 12 0,Ag 13 12,Ap 14 11 13] [0,1,5,14]<|Co 14 (Sk [0,1,5])<|Ex 0 [])<|Sq (Bl 1<|Sq (Dr [17,18,19,20,21,22,23,24,25] [Aa 17 0,Aa 18 5,Ah 19 17 18 1,Ab 20 19,Aa 21 1,Aa 22 5,Ah 23 21 22 1,Ab 24 23,Bs 25 20 24] [0,1,5,25])<|Co 25 (Rq [Ai 4] [4]<|.ret)<|Sk [0,1,5])<|Re [Aa 15 5,Ao 16 15 1,Aa 5 16] [0,1,5])<|Rq [Bw 4] [4]<|.ret) [.tmp 4]:= by decide +kernel
theorem c64 (a:List Int) (b:List Int) (r:Bool) (h:ref05_SameInts a b=some r):Sound prog 64 [lI a,lI b] (.sh (eB r)):= by
 refine Fn ck64 fun hw=>?_
 unfold ref05_SameInts at h
 refine D<|F<|C rfl<|E (kt<|kt<|kn) fun _=>?_
 refine D<|D<|F<|C rfl<|V rfl rfl<|C rfl<|V rfl rfl<|a7 rfl rfl<|E (kt<|kt<|kt<|kn) fun _=>?_
 refine U rfl (fun hc10=>?_) (fun hc10=>?_)
 ·replace h:=M hc10 h
  refine D<|F<|C rfl<|E (kt<|kn) fun _=>?_
  exact L (by cases h;rfl)
 ·replace h:=O hc10 h
  refine P (kt<|kt<|kn) fun _=>?_
  refine D<|D<|F<|C rfl<|E (kt<|kt<|kt<|kn) fun _=>?_
  obtain ⟨o0,ho0,h⟩:=d0 h
  refine d5 ho0 (fun (i0:Int) (_:Unit)=>[(0,.tv (lI a)),(1,.tv (lI b)),(5,.tv (eI i0))]) (fun (_:Unit)=>[]) (fun zv ze=>resIs ([.tmp 4]) (.sh (eB zv)) ze) rfl ?_ ?_ ?_ ?_
  ·clear h ho0
   intro i0 s0 r0 hi0 h hw0
   refine D<|D<|F<|C rfl<|C rfl<|V rfl rfl<|X rfl rfl<|E (kt<|kt<|kt<|kt<|kn) fun _=>?_
   refine b3 rfl (b4 hi0)<|P (kt<|kt<|kt<|kn) fun _=>?_
   refine D<|a8<|D<|d4 rfl<|C rfl<|C rfl ?_
   obtain ⟨x19,hx19,h⟩:=J h
   refine a2 rfl rfl rfl hx19 rfl<|I rfl<|C rfl<|C rfl ?_
   obtain ⟨x23,hx23,h⟩:=J h
   refine a2 rfl rfl rfl hx23 rfl<|I rfl<|a7 rfl rfl<|E (kt<|kt<|kt<|kt<|kn) fun _=>?_
   refine U rfl (fun hc25=>?_) (fun hc25=>?_)
   ·replace h:=M hc25 h
    refine D<|F<|C rfl<|E (kt<|kn) fun _=>?_
    refine L ?_
    cases h
    exact ⟨_,rfl,rfl⟩
   ·replace h:=O hc25 h
    refine P (kt<|kt<|kt<|kn) fun _=>?_
    refine F<|C rfl<|a5 rfl rfl<|C rfl<|E (kt<|kt<|kt<|kn) ?_
    cases h
    refine ⟨_,rfl,?_⟩
    rw [Ktv rfl (Ktv rfl (Ktv rfl (Knil _)))]
    rw [b2 (a4 (hw0 5)) hi0 (e4 (a4 (hw0 0)) rfl)]
    all_goals rfl
  ·intro i0 s0 hi0
   refine D<|D<|F<|C rfl<|C rfl<|V rfl rfl<|X rfl rfl<|E (kt<|kt<|kt<|kt<|kn) fun _=>?_
   refine b5 rfl (b6 hi0)<|b0 (kn) ?_
   exact ⟨rfl,rfl⟩
  ·intro s0 hs
   replace h:=d1 h hs
   intro _
   refine D<|F<|C rfl<|E (kt<|kn) fun _=>?_
   exact L (by cases h;rfl)
  ·intro v0 ze hv hR
   replace h:=d2 h hv
   cases h
   exact hR
theorem ck22:CK f22 (Rq [Af 2 0,Af 3 1,Ai 4] [2,3]<|Rq [Ac 5 2 0,Ab 6 5,Ac 7 3 0,Ab 8 7,An 9 64 6 8,Aa 10 9,Av 11 2 1 10,Aw 12 11 10,Av 13 3 1 10,Aw 14 13 10,Bv 15 64 12 14 10,Aq 16 10 15,Aa 4 16] [4]<|.ret) [.tmp 4]:= by decide +kernel
theorem c22 (p:Part) (q:Part) (r:Bool) (h:ref07_Same p q=some r):Sound prog 22 [ePart p,ePart q] (.sh (eB r)):= by
 refine Fn ck22 fun hw=>?_
 unfold ref07_Same at h
 refine D<|F<|a1 rfl rfl<|a1 rfl rfl<|C rfl<|E (kt<|kt<|kn) fun _=>?_
 refine D<|F<|K rfl<|I rfl<|K rfl<|I rfl ?_
 obtain ⟨x9,hx9,h⟩:=J h
 refine W rfl (c64 p.Nodes q.Nodes _ hx9)<|C rfl ?_
 obtain ⟨x16,hx16,h⟩:=J h
 refine gX 6 [11,12,13,14,15] 16 x16 x9 (fun hg16=>?_) (fun hg16=>?_) ?_
 ·replace h:=M hg16 hx16
  refine G rfl hg16<|K rfl<|G rfl hg16<|I rfl<|G rfl hg16<|K rfl<|G rfl hg16<|I rfl ?_
  obtain ⟨x15,hx15,h⟩:=J h
  refine G rfl hg16<|W rfl (c64 p.Edges q.Edges _ hx15) ?_
  cases h
  refine Z rfl hg16 rfl ?_
  exact ⟨⟨_,_,_,_,_,rfl⟩⟩
 ·replace h:=O hg16 hx16
  cases h
  refine H rfl hg16<|H rfl hg16<|H rfl hg16<|H rfl hg16<|H rfl hg16<|a0 rfl hg16 rfl ?_
  exact ⟨⟨_,_,_,_,_,rfl⟩⟩
 rintro _ ⟨_,_,_,_,_,rfl⟩
 refine C rfl<|E (kt<|kn) fun _=>?_
 exact L (by cases h;rfl)
theorem ck41:CK f41 (Rq [Af 2 0,Af 3 1,Ai 4] [2,3]<|Sq (Rq [Ac 6 2 0,Ab 7 6,Ac 8 3 0,Ab 9 8,An 10 64 7 9,Ay 11 10,Aa 12 11,Am 13 2 1 12,Al 14 13 12,Ba 15 14 12,Am 16 3 1 12,Al 17 16 12,Ba 18 17 12,Cj 19 15 18 12,Ar 20 12 19] [2,3,20]<|Co 20 (Rq [Ai 4] [4]<|.ret)<|Sk [2,3])<|Sq (Rq [Ad 5 0] [2,3,5]<|Bl 0<|Lo [2,3,5]<|Sq (Rq [Aa 21 5,Ac 22 2 1,Ab 23 22,Ag 24 23,Ap 25 21 24] [2,3,5,25]<|Co 25 (Sk [2,3,5])<|Ex 0 [])<|Sq (Bl 1<|Sq (Dr [28,29,30,31,32,33,34,35,36,37,38] [Ac 28 2 1,Ab 29 28,Aa 30 5,Ah 31 29 30 3,Ae 32 31 3,Ac 33 3 1,Ab 34 33,Aa 35 5,Ah 36 34 35 3,Ae 37 36 3,⟨some 38,.bin (.a [0,0,0]) .neq (.s 32) (.s 37),none⟩] [2,3,5,38])<|Co 38 (Rq [Ai 4] [4]<|.ret)<|Sk [2,3,5])<|Re [Aa 26 5,Ao 27 26 1,Aa 5 27] [2,3,5])<|Rq [Bw 4] [4]<|.ret) [.tmp 4]:= by decide +kernel
theorem c41 (a:Graph) (b:Graph) (r:Bool) (h:ref05_Same a b=some r):Sound prog 41 [eGraph a,eGraph b] (.sh (eB r)):= by
 refine Fn ck41 fun hw=>?_
 unfold ref05_Same at h
 refine D<|F<|a1 rfl rfl<|a1 rfl rfl<|C rfl<|E (kt<|kt<|kn) fun _=>?_
 refine D<|D<|F<|K rfl<|I rfl<|K rfl<|I rfl ?_
 obtain ⟨x10,hx10,h⟩:=J h
 refine W rfl (c64 a.Nodes b.Nodes _ hx10)<|b7 rfl<|C rfl ?_
 refine gO 8 [13,14,15,16,17,18,19] 20 (!x10) (!decide ((a.Edges.length:Int)=(b.Edges.length:Int))) (fun hg20=>?_) (fun hg20=>?_) ?_
 ·refine H rfl hg20<|H rfl hg20<|H rfl hg20<|H rfl hg20<|H rfl hg20<|H rfl hg20<|H rfl hg20<|Z rfl hg20 rfl ?_
  exact ⟨⟨_,_,_,_,_,_,_,rfl⟩⟩
 ·refine G rfl hg20<|K rfl<|G rfl hg20<|I rfl<|G rfl hg20<|V rfl rfl<|G rfl hg20<|K rfl<|G rfl hg20<|I rfl<|G rfl hg20<|V rfl rfl<|G rfl hg20<|a7 rfl rfl<|a0 rfl hg20 rfl ?_
  exact ⟨⟨_,_,_,_,_,_,_,rfl⟩⟩
 rintro _ ⟨_,_,_,_,_,_,_,rfl⟩
 refine E (kt<|kt<|kt<|kn) fun _=>?_
 refine U rfl (fun hc20=>?_) (fun hc20=>?_)
 ·replace h:=M hc20 h
  refine D<|F<|C rfl<|E (kt<|kn) fun _=>?_
  exact L (by cases h;rfl)
 ·replace h:=O hc20 h
  refine P (kt<|kt<|kn) fun _=>?_
  refine D<|D<|F<|C rfl<|E (kt<|kt<|kt<|kn) fun _=>?_
  obtain ⟨o0,ho0,h⟩:=d0 h
  refine d5 ho0 (fun (i0:Int) (_:Unit)=>[(2,.tv (.pt (eGraph a).cells)),(3,.tv (.pt (eGraph b).cells)),(5,.tv (eI i0))]) (fun (_:Unit)=>[]) (fun zv ze=>resIs ([.tmp 4]) (.sh (eB zv)) ze) rfl ?_ ?_ ?_ ?_
  ·clear h ho0
   intro i0 s0 r0 hi0 h hw0
   refine D<|D<|F<|C rfl<|K rfl<|I rfl<|V rfl rfl<|X rfl rfl<|E (kt<|kt<|kt<|kt<|kn) fun _=>?_
   refine b3 rfl (b4 hi0)<|P (kt<|kt<|kt<|kn) fun _=>?_
   refine D<|a8<|D<|d4 rfl<|K rfl<|I rfl<|C rfl ?_
   obtain ⟨x31,hx31,h⟩:=J h
   refine a2 rfl rfl rfl hx31 rfl<|R rfl rfl (show _=eEdge x31 from rfl)<|K rfl<|I rfl<|C rfl ?_
   obtain ⟨x36,hx36,h⟩:=J h
   refine a2 rfl rfl rfl hx36 rfl<|R rfl rfl (show _=eEdge x36 from rfl)<|m8 rfl rfl rfl (eqi_Edge _ _)<|E (kt<|kt<|kt<|kt<|kn) fun _=>?_
   refine U rfl (fun hc38=>?_) (fun hc38=>?_)
   ·replace h:=M hc38 h
    refine D<|F<|C rfl<|E (kt<|kn) fun _=>?_
    refine L ?_
    cases h
    exact ⟨_,rfl,rfl⟩
   ·replace h:=O hc38 h
    refine P (kt<|kt<|kt<|kn) fun _=>?_
    refine F<|C rfl<|a5 rfl rfl<|C rfl<|E (kt<|kt<|kt<|kn) ?_
    cases h
    refine ⟨_,rfl,?_⟩
    rw [Ktv rfl (Ktv rfl (Ktv rfl (Knil _)))]
    rw [b2 (a4 (hw0 5)) hi0 (e4 (e9 (f0 (hw0 2)) (i:=1) rfl) rfl)]
    all_goals rfl
  ·intro i0 s0 hi0
   refine D<|D<|F<|C rfl<|K rfl<|I rfl<|V rfl rfl<|X rfl rfl<|E (kt<|kt<|kt<|kt<|kn) fun _=>?_
   refine b5 rfl (b6 hi0)<|b0 (kn) ?_
   exact ⟨rfl,rfl⟩
  ·intro s0 hs
   replace h:=d1 h hs
   intro _
   refine D<|F<|C rfl<|E (kt<|kn) fun _=>?_
   exact L (by cases h;rfl)
  ·intro v0 ze hv hR
   replace h:=d2 h hv
   cases h
   exact hR
theorem ck109:CK f109 (Rq [Af 2 0,Af 3 1,Ai 4] [2,3]<|Sq (Rq [Ac 7 2 0,Ae 8 7 2,Ac 9 3 0,Ae 10 9 2,An 11 41 8 10,Ay 12 11,Aa 13 12,Am 14 2 3 13,Al 15 14 13,Am 16 3 3 13,Al 17 16 13,Cj 18 15 17 13,Ar 19 13 18,Aa 20 19,Am 21 2 2 20,Al 22 21 20,Ba 23 22 20,Am 24 3 2 20,Al 25 24 20,Ba 26 25 20,Cj 27 23 26 20,Ar 28 20 27,Aa 29 28,Am 30 2 4 29,Al 31 30 29,Ba 32 31 29,Am 33 3 4 29,Al 34 33 29,Ba 35 34 29,Cj 36 32 35 29,Ar 37 29 36] [2,3,37]<|Co 37 (Rq [Ai 4] [4]<|.ret)<|Sk [2,3])<|Sq (Rq [Ad 5 0] [2,3,5]<|Bl 0<|Lo [2,3,5]<|Sq (Rq [Aa 38 5,Ac 39 2 2,Ab 40 39,Ag 41 40,Ap 42 38 41] [2,3,5,42]<|Co 42 (Sk [2,3,5])<|Ex 0 [2,3])<|Sq (Bl 1<|Sq (Dr [45,46,47,48,49,50,51,52,53,54,55] [Ac 45 2 2,Ab 46 45,Aa 47 5,Ah 48 46 47 4,Ae 49 48 4,Ac 50 3 2,Ab 51 50,Aa 52 5,Ah 53 51 52 4,Ae 54 53 4,⟨some 55,.bin (.a [0,0,0,0]) .neq (.s 49) (.s 54),none⟩] [2,3,5,55])<|Co 55 (Rq [Ai 4] [4]<|.ret)<|Sk [2,3,5])<|Re [Aa 43 5,Ao 44 43 1,Aa 5 44] [2,3,5])<|Sq (Rq [Ad 6 0] [2,3,6]<|Bl 2<|Lo [2,3,6]<|Sq (Rq [Aa 56 6,Ac 57 2 4,Ab 58 57,Ag 59 58,Ap 60 56 59] [2,3,6,60]<|Co 60 (Sk [2,3,6])<|Ex 2 [])<|Sq (Bl 3<|Sq (Dr [63,64,65,66,67,68,69,70,71,72,73] [Ac 63 2 4,Ab 64 63,Aa 65 6,Ah 66 64 65 5,Ae 67 66 5,Ac 68 3 4,Ab 69 68,Aa 70 6,Ah 71 69 70 5,Ae 72 71 5,⟨some 73,.bin (.a [0,0,0,0,0]) .neq (.s 67) (.s 72),none⟩] [2,3,6,73])<|Co 73 (Rq [Ai 4] [4]<|.ret)<|Sk [2,3,6])<|Re [Aa 61 6,Ao 62 61 1,Aa 6 62] [2,3,6])<|Rq [Bw 4] [4]<|.ret) [.tmp 4]:= by decide +kernel
theorem c109 (a:Pattern) (b:Pattern) (r:Bool) (h:ref21_Same a b=some r):Sound prog 109 [ePattern a,ePattern b] (.sh (eB r)):= by
 refine Fn ck109 fun hw=>?_
 unfold ref21_Same at h
 refine D<|F<|a1 rfl rfl<|a1 rfl rfl<|C rfl<|E (kt<|kt<|kn) fun _=>?_
 refine D<|D<|F<|K rfl<|R rfl rfl (show _=eGraph a.Graph from rfl)<|K rfl<|R rfl rfl (show _=eGraph b.Graph from rfl) ?_
 obtain ⟨x11,hx11,h⟩:=J h
 refine W rfl (c41 a.Graph b.Graph _ hx11)<|b7 rfl<|C rfl ?_
 refine gO 6 [14,15,16,17,18] 19 (!x11) (!decide (a.Vars=b.Vars)) (fun hg19=>?_) (fun hg19=>?_) ?_
 ·refine H rfl hg19<|H rfl hg19<|H rfl hg19<|H rfl hg19<|H rfl hg19<|Z rfl hg19 rfl ?_
  exact ⟨⟨_,_,_,_,_,rfl⟩⟩
 ·refine G rfl hg19<|K rfl<|G rfl hg19<|I rfl<|G rfl hg19<|K rfl<|G rfl hg19<|I rfl<|G rfl hg19<|a7 rfl rfl<|a0 rfl hg19 rfl ?_
  exact ⟨⟨_,_,_,_,_,rfl⟩⟩
 rintro _ ⟨_,_,_,_,_,rfl⟩
 refine C rfl ?_
 refine gO 8 [21,22,23,24,25,26,27] 28 ((!x11)||(!decide (a.Vars=b.Vars))) (!decide ((a.Slots.length:Int)=(b.Slots.length:Int))) (fun hg28=>?_) (fun hg28=>?_) ?_
 ·refine H rfl hg28<|H rfl hg28<|H rfl hg28<|H rfl hg28<|H rfl hg28<|H rfl hg28<|H rfl hg28<|Z rfl hg28 rfl ?_
  exact ⟨⟨_,_,_,_,_,_,_,rfl⟩⟩
 ·refine G rfl hg28<|K rfl<|G rfl hg28<|I rfl<|G rfl hg28<|V rfl rfl<|G rfl hg28<|K rfl<|G rfl hg28<|I rfl<|G rfl hg28<|V rfl rfl<|G rfl hg28<|a7 rfl rfl<|a0 rfl hg28 rfl ?_
  exact ⟨⟨_,_,_,_,_,_,_,rfl⟩⟩
 rintro _ ⟨_,_,_,_,_,_,_,rfl⟩
 refine C rfl ?_
 refine gO 8 [30,31,32,33,34,35,36] 37 (((!x11)||(!decide (a.Vars=b.Vars)))||(!decide ((a.Slots.length:Int)=(b.Slots.length:Int)))) (!decide ((a.Tests.length:Int)=(b.Tests.length:Int))) (fun hg37=>?_) (fun hg37=>?_) ?_
 ·refine H rfl hg37<|H rfl hg37<|H rfl hg37<|H rfl hg37<|H rfl hg37<|H rfl hg37<|H rfl hg37<|Z rfl hg37 rfl ?_
  exact ⟨⟨_,_,_,_,_,_,_,rfl⟩⟩
 ·refine G rfl hg37<|K rfl<|G rfl hg37<|I rfl<|G rfl hg37<|V rfl rfl<|G rfl hg37<|K rfl<|G rfl hg37<|I rfl<|G rfl hg37<|V rfl rfl<|G rfl hg37<|a7 rfl rfl<|a0 rfl hg37 rfl ?_
  exact ⟨⟨_,_,_,_,_,_,_,rfl⟩⟩
 rintro _ ⟨_,_,_,_,_,_,_,rfl⟩
 refine E (kt<|kt<|kt<|kn) fun _=>?_
 refine U rfl (fun hc37=>?_) (fun hc37=>?_)
 ·replace h:=M hc37 h
  refine D<|F<|C rfl<|E (kt<|kn) fun _=>?_
  exact L (by cases h;rfl)
 ·replace h:=O hc37 h
  refine P (kt<|kt<|kn) fun _=>?_
  refine D<|D<|F<|C rfl<|E (kt<|kt<|kt<|kn) fun _=>?_
  obtain ⟨o0,ho0,h⟩:=d0 h
  refine d5 ho0 (fun (i0:Int) (_:Unit)=>[(2,.tv (.pt (ePattern a).cells)),(3,.tv (.pt (ePattern b).cells)),(5,.tv (eI i0))]) (fun (_:Unit)=>[(2,.tv (.pt (ePattern a).cells)),(3,.tv (.pt (ePattern b).cells))]) (fun zv ze=>resIs ([.tmp 4]) (.sh (eB zv)) ze) rfl ?_ ?_ ?_ ?_
  ·clear h ho0
   intro i0 s0 r0 hi0 h hw0
   refine D<|D<|F<|C rfl<|K rfl<|I rfl<|V rfl rfl<|X rfl rfl<|E (kt<|kt<|kt<|kt<|kn) fun _=>?_
   refine b3 rfl (b4 hi0)<|P (kt<|kt<|kt<|kn) fun _=>?_
   refine D<|a8<|D<|d4 rfl<|K rfl<|I rfl<|C rfl ?_
   obtain ⟨x48,hx48,h⟩:=J h
   refine a2 rfl rfl rfl hx48 rfl<|R rfl rfl (show _=eSlot x48 from rfl)<|K rfl<|I rfl<|C rfl ?_
   obtain ⟨x53,hx53,h⟩:=J h
   refine a2 rfl rfl rfl hx53 rfl<|R rfl rfl (show _=eSlot x53 from rfl)<|m8 rfl rfl rfl (eqi_Slot _ _)<|E (kt<|kt<|kt<|kt<|kn) fun _=>?_
   refine U rfl (fun hc55=>?_) (fun hc55=>?_)
   ·replace h:=M hc55 h
    refine D<|F<|C rfl<|E (kt<|kn) fun _=>?_
    refine L ?_
    cases h
    exact ⟨_,rfl,rfl⟩
   ·replace h:=O hc55 h
    refine P (kt<|kt<|kt<|kn) fun _=>?_
    refine F<|C rfl<|a5 rfl rfl<|C rfl<|E (kt<|kt<|kt<|kn) ?_
    cases h
    refine ⟨_,rfl,?_⟩
    rw [Ktv rfl (Ktv rfl (Ktv rfl (Knil _)))]
    rw [b2 (a4 (hw0 5)) hi0 (e4 (e9 (f0 (hw0 2)) (i:=2) rfl) rfl)]
    all_goals rfl
  ·intro i0 s0 hi0
   refine D<|D<|F<|C rfl<|K rfl<|I rfl<|V rfl rfl<|X rfl rfl<|E (kt<|kt<|kt<|kt<|kn) fun _=>?_
   refine b5 rfl (b6 hi0)<|b0 (kt<|kt<|kn) ?_
   exact ⟨rfl,rfl⟩
  ·intro s0 hs
   replace h:=d1 h hs
   intro _
   refine D<|D<|F<|C rfl<|E (kt<|kt<|kt<|kn) fun _=>?_
   obtain ⟨o2,ho2,h⟩:=d0 h
   refine d5 ho2 (fun (i2:Int) (_:Unit)=>[(2,.tv (.pt (ePattern a).cells)),(3,.tv (.pt (ePattern b).cells)),(6,.tv (eI i2))]) (fun (_:Unit)=>[]) (fun zv ze=>resIs ([.tmp 4]) (.sh (eB zv)) ze) rfl ?_ ?_ ?_ ?_
   ·clear h ho2
    intro i2 s2 r2 hi2 h hw2
    refine D<|D<|F<|C rfl<|K rfl<|I rfl<|V rfl rfl<|X rfl rfl<|E (kt<|kt<|kt<|kt<|kn) fun _=>?_
    refine b3 rfl (b4 hi2)<|P (kt<|kt<|kt<|kn) fun _=>?_
    refine D<|a8<|D<|d4 rfl<|K rfl<|I rfl<|C rfl ?_
    obtain ⟨x66,hx66,h⟩:=J h
    refine a2 rfl rfl rfl hx66 rfl<|R rfl rfl (show _=eTest x66 from rfl)<|K rfl<|I rfl<|C rfl ?_
    obtain ⟨x71,hx71,h⟩:=J h
    refine a2 rfl rfl rfl hx71 rfl<|R rfl rfl (show _=eTest x71 from rfl)<|m8 rfl rfl rfl (eqi_Test _ _)<|E (kt<|kt<|kt<|kt<|kn) fun _=>?_
    refine U rfl (fun hc73=>?_) (fun hc73=>?_)
    ·replace h:=M hc73 h
     refine D<|F<|C rfl<|E (kt<|kn) fun _=>?_
     refine L ?_
     cases h
     exact ⟨_,rfl,rfl⟩
    ·replace h:=O hc73 h
     refine P (kt<|kt<|kt<|kn) fun _=>?_
     refine F<|C rfl<|a5 rfl rfl<|C rfl<|E (kt<|kt<|kt<|kn) ?_
     cases h
     refine ⟨_,rfl,?_⟩
     rw [Ktv rfl (Ktv rfl (Ktv rfl (Knil _)))]
     rw [b2 (a4 (hw2 6)) hi2 (e4 (e9 (f0 (hw2 2)) (i:=4) rfl) rfl)]
     all_goals rfl
   ·intro i2 s2 hi2
    refine D<|D<|F<|C rfl<|K rfl<|I rfl<|V rfl rfl<|X rfl rfl<|E (kt<|kt<|kt<|kt<|kn) fun _=>?_
    refine b5 rfl (b6 hi2)<|b0 (kn) ?_
    exact ⟨rfl,rfl⟩
   ·intro s2 hs
    replace h:=d1 h hs
    intro _
    refine D<|F<|C rfl<|E (kt<|kn) fun _=>?_
    exact L (by cases h;rfl)
   ·intro v2 ze hv hR
    replace h:=d2 h hv
    cases h
    exact hR
  ·intro v0 ze hv hR
   replace h:=d2 h hv
   cases h
   exact hR
theorem ck167:CK f167 (Rq [Ai 4] [0,1]<|Sq (Rq [Aa 6 0,Ag 7 6,Aa 8 1,Ag 9 8,Bs 10 7 9] [0,1,10]<|Co 10 (Rq [Ai 4] [4]<|.ret)<|Sk [0,1])<|Sq (Rq [Ad 5 0] [0,1,5]<|Bl 0<|Lo [0,1,5]<|Sq (Rq [Aa 11 5,Aa 12 0,Ag 13 12,Ap 14 11 13] [0,1,5,14]<|Co 14 (Sk [0,1,5])<|Ex 0 [])<|Sq (Bl 1<|Sq (Dr [17,18,19,20,21,22,23,24,25] [Aa 17 0,Aa 18 5,Ah 19 17 18 1,Ab 20 19,Aa 21 1,Aa 22 5,Ah 23 21 22 1,Ab 24 23,Bs 25 20 24] [0,1,5,25])<|Co 25 (Rq [Ai 4] [4]<|.ret)<|Sk [0,1,5])<|Re [Aa 15 5,Ao 16 15 1,Aa 5 16] [0,1,5])<|Rq [Bw 4] [4]<|.ret) [.tmp 4]:= by decide +kernel
theorem c167 (a:List Int) (b:List Int) (r:Bool) (h:ref02_SameInts a b=some r):Sound prog 167 [lI a,lI b] (.sh (eB r)):= by
 refine Fn ck167 fun hw=>?_
 unfold ref02_SameInts at h
 refine D<|F<|C rfl<|E (kt<|kt<|kn) fun _=>?_
 refine D<|D<|F<|C rfl<|V rfl rfl<|C rfl<|V rfl rfl<|a7 rfl rfl<|E (kt<|kt<|kt<|kn) fun _=>?_
 refine U rfl (fun hc10=>?_) (fun hc10=>?_)
 ·replace h:=M hc10 h
  refine D<|F<|C rfl<|E (kt<|kn) fun _=>?_
  exact L (by cases h;rfl)
 ·replace h:=O hc10 h
  refine P (kt<|kt<|kn) fun _=>?_
  refine D<|D<|F<|C rfl<|E (kt<|kt<|kt<|kn) fun _=>?_
  obtain ⟨o0,ho0,h⟩:=d0 h
  refine d5 ho0 (fun (i0:Int) (_:Unit)=>[(0,.tv (lI a)),(1,.tv (lI b)),(5,.tv (eI i0))]) (fun (_:Unit)=>[]) (fun zv ze=>resIs ([.tmp 4]) (.sh (eB zv)) ze) rfl ?_ ?_ ?_ ?_
  ·clear h ho0
   intro i0 s0 r0 hi0 h hw0
   refine D<|D<|F<|C rfl<|C rfl<|V rfl rfl<|X rfl rfl<|E (kt<|kt<|kt<|kt<|kn) fun _=>?_
   refine b3 rfl (b4 hi0)<|P (kt<|kt<|kt<|kn) fun _=>?_
   refine D<|a8<|D<|d4 rfl<|C rfl<|C rfl ?_
   obtain ⟨x19,hx19,h⟩:=J h
   refine a2 rfl rfl rfl hx19 rfl<|I rfl<|C rfl<|C rfl ?_
   obtain ⟨x23,hx23,h⟩:=J h
   refine a2 rfl rfl rfl hx23 rfl<|I rfl<|a7 rfl rfl<|E (kt<|kt<|kt<|kt<|kn) fun _=>?_
   refine U rfl (fun hc25=>?_) (fun hc25=>?_)
   ·replace h:=M hc25 h
    refine D<|F<|C rfl<|E (kt<|kn) fun _=>?_
    refine L ?_
    cases h
    exact ⟨_,rfl,rfl⟩
   ·replace h:=O hc25 h
    refine P (kt<|kt<|kt<|kn) fun _=>?_
    refine F<|C rfl<|a5 rfl rfl<|C rfl<|E (kt<|kt<|kt<|kn) ?_
    cases h
    refine ⟨_,rfl,?_⟩
    rw [Ktv rfl (Ktv rfl (Ktv rfl (Knil _)))]
    rw [b2 (a4 (hw0 5)) hi0 (e4 (a4 (hw0 0)) rfl)]
    all_goals rfl
  ·intro i0 s0 hi0
   refine D<|D<|F<|C rfl<|C rfl<|V rfl rfl<|X rfl rfl<|E (kt<|kt<|kt<|kt<|kn) fun _=>?_
   refine b5 rfl (b6 hi0)<|b0 (kn) ?_
   exact ⟨rfl,rfl⟩
  ·intro s0 hs
   replace h:=d1 h hs
   intro _
   refine D<|F<|C rfl<|E (kt<|kn) fun _=>?_
   exact L (by cases h;rfl)
  ·intro v0 ze hv hR
   replace h:=d2 h hv
   cases h
   exact hR
theorem ck110:CK f110 (Rq [Af 2 0,Af 3 1,Ai 4] [2,3]<|Rq [Ac 5 2 0,Ab 6 5,Ac 7 3 0,Ab 8 7,An 9 167 6 8,Aa 10 9,Av 11 2 1 10,Aw 12 11 10,Av 13 3 1 10,Aw 14 13 10,Bv 15 167 12 14 10,Aq 16 10 15,Aa 4 16] [4]<|.ret) [.tmp 4]:= by decide +kernel
theorem c110 (a:Morphism) (b:Morphism) (r:Bool) (h:ref06_Same a b=some r):Sound prog 110 [eMorphism a,eMorphism b] (.sh (eB r)):= by
 refine Fn ck110 fun hw=>?_
 unfold ref06_Same at h
 refine D<|F<|a1 rfl rfl<|a1 rfl rfl<|C rfl<|E (kt<|kt<|kn) fun _=>?_
 refine D<|F<|K rfl<|I rfl<|K rfl<|I rfl ?_
 obtain ⟨x9,hx9,h⟩:=J h
 refine W rfl (c167 a.Nodes b.Nodes _ hx9)<|C rfl ?_
 obtain ⟨x16,hx16,h⟩:=J h
 refine gX 6 [11,12,13,14,15] 16 x16 x9 (fun hg16=>?_) (fun hg16=>?_) ?_
 ·replace h:=M hg16 hx16
  refine G rfl hg16<|K rfl<|G rfl hg16<|I rfl<|G rfl hg16<|K rfl<|G rfl hg16<|I rfl ?_
  obtain ⟨x15,hx15,h⟩:=J h
  refine G rfl hg16<|W rfl (c167 a.Edges b.Edges _ hx15) ?_
  cases h
  refine Z rfl hg16 rfl ?_
  exact ⟨⟨_,_,_,_,_,rfl⟩⟩
 ·replace h:=O hg16 hx16
  cases h
  refine H rfl hg16<|H rfl hg16<|H rfl hg16<|H rfl hg16<|H rfl hg16<|a0 rfl hg16 rfl ?_
  exact ⟨⟨_,_,_,_,_,rfl⟩⟩
 rintro _ ⟨_,_,_,_,_,rfl⟩
 refine C rfl<|E (kt<|kn) fun _=>?_
 exact L (by cases h;rfl)
theorem ck111:CK f111 (Rq [Af 2 0,Af 3 1,Ai 4] [2,3]<|Sq (Rq [Ac 6 2 0,Ab 7 6,Ac 8 3 0,Ab 9 8,Bs 10 7 9,Aa 11 10,Am 12 2 1 11,Al 13 12 11,Ba 14 13 11,Am 15 3 1 11,Al 16 15 11,Ba 17 16 11,Cj 18 14 17 11,Ar 19 11 18,Aa 20 19,Am 21 2 2 20,Cf 22 21 2 20,Am 23 3 2 20,Cf 24 23 2 20,Cp 25 110 22 24 20,Bq 26 25 20,Ar 27 20 26,Aa 28 27,Am 29 2 4 28,Cf 30 29 5 28,Am 31 3 4 28,Cf 32 31 5 28,Cp 33 109 30 32 28,Bq 34 33 28,Ar 35 28 34] [2,3,35]<|Co 35 (Rq [Ai 4] [4]<|.ret)<|Sk [2,3])<|Sq (Rq [Ad 5 0] [2,3,5]<|Bl 0<|Lo [2,3,5]<|Sq (Rq [Aa 36 5,Ac 37 2 1,Ab 38 37,Ag 39 38,Ap 40 36 39] [2,3,5,40]<|Co 40 (Sk [2,3,5])<|Ex 0 [])<|Sq (Bl 1<|Sq (Dr [43,44,45,46,47,48,49,50,51,52,53,54] [Ac 43 2 1,Ab 44 43,Aa 45 5,Ah 46 44 45 9,Ae 47 46 9,Ac 48 3 1,Ab 49 48,Aa 50 5,Ah 51 49 50 9,Ae 52 51 9,An 53 111 47 52,Ay 54 53] [2,3,5,54])<|Co 54 (Rq [Ai 4] [4]<|.ret)<|Sk [2,3,5])<|Re [Aa 41 5,Ao 42 41 1,Aa 5 42] [2,3,5])<|Rq [Bw 4] [4]<|.ret) [.tmp 4]:= by decide +kernel
theorem c111S (n:Nat) (ih_111:∀ (a:Condition) (b:Condition) (r:Bool) (_:ref22_SameF n a b=some r),Sound prog 111 [eCondition a,eCondition b] (.sh (eB r))):∀ (a:Condition) (b:Condition) (r:Bool) (_:ref22_SameF (n+1) a b=some r),Sound prog 111 [eCondition a,eCondition b] (.sh (eB r)):= by
 intro a b r h
 refine Fn ck111 fun hw=>?_
 unfold ref22_SameF at h
 refine D<|F<|a1 rfl rfl<|a1 rfl rfl<|C rfl<|E (kt<|kt<|kn) fun _=>?_
 refine D<|D<|F<|K rfl<|I rfl<|K rfl<|I rfl<|a7 rfl rfl<|C rfl ?_
 refine gO 8 [12,13,14,15,16,17,18] 19 (!decide (a.Kind=b.Kind)) (!decide ((a.Kids.length:Int)=(b.Kids.length:Int))) (fun hg19=>?_) (fun hg19=>?_) ?_
 ·refine H rfl hg19<|H rfl hg19<|H rfl hg19<|H rfl hg19<|H rfl hg19<|H rfl hg19<|H rfl hg19<|Z rfl hg19 rfl ?_
  exact ⟨⟨_,_,_,_,_,_,_,rfl⟩⟩
 ·refine G rfl hg19<|K rfl<|G rfl hg19<|I rfl<|G rfl hg19<|V rfl (eLCondition_eq _)<|G rfl hg19<|K rfl<|G rfl hg19<|I rfl<|G rfl hg19<|V rfl (eLCondition_eq _)<|G rfl hg19<|a7 rfl rfl<|a0 rfl hg19 rfl ?_
  exact ⟨⟨_,_,_,_,_,_,_,rfl⟩⟩
 rintro _ ⟨_,_,_,_,_,_,_,rfl⟩
 refine C rfl ?_
 obtain ⟨x27,hx27,h⟩:=J h
 refine gX 7 [21,22,23,24,25,26] 27 x27 ((!decide (a.Kind=b.Kind))||(!decide ((a.Kids.length:Int)=(b.Kids.length:Int)))) (fun hg27=>?_) (fun hg27=>?_) ?_
 ·replace h:=M hg27 hx27
  cases h
  refine H rfl hg27<|H rfl hg27<|H rfl hg27<|H rfl hg27<|H rfl hg27<|H rfl hg27<|Z rfl hg27 rfl ?_
  exact ⟨⟨_,_,_,_,_,_,rfl⟩⟩
 ·replace h:=O hg27 hx27
  refine G rfl hg27<|K rfl<|G rfl hg27<|R rfl rfl (show _=eMorphism a.Map from rfl)<|G rfl hg27<|K rfl<|G rfl hg27<|R rfl rfl (show _=eMorphism b.Map from rfl) ?_
  obtain ⟨x25,hx25,h⟩:=J h
  refine G rfl hg27<|W rfl (c110 a.Map b.Map _ hx25)<|G rfl hg27<|b7 rfl ?_
  cases h
  refine a0 rfl hg27 rfl ?_
  exact ⟨⟨_,_,_,_,_,_,rfl⟩⟩
 rintro _ ⟨_,_,_,_,_,_,rfl⟩
 refine C rfl ?_
 obtain ⟨x35,hx35,h⟩:=J h
 refine gX 7 [29,30,31,32,33,34] 35 x35 x27 (fun hg35=>?_) (fun hg35=>?_) ?_
 ·replace h:=M hg35 hx35
  cases h
  refine H rfl hg35<|H rfl hg35<|H rfl hg35<|H rfl hg35<|H rfl hg35<|H rfl hg35<|Z rfl hg35 rfl ?_
  exact ⟨⟨_,_,_,_,_,_,rfl⟩⟩
 ·replace h:=O hg35 hx35
  refine G rfl hg35<|K rfl<|G rfl hg35<|R rfl rfl (show _=ePattern a.Pattern from rfl)<|G rfl hg35<|K rfl<|G rfl hg35<|R rfl rfl (show _=ePattern b.Pattern from rfl) ?_
  obtain ⟨x33,hx33,h⟩:=J h
  refine G rfl hg35<|W rfl (c109 a.Pattern b.Pattern _ hx33)<|G rfl hg35<|b7 rfl ?_
  cases h
  refine a0 rfl hg35 rfl ?_
  exact ⟨⟨_,_,_,_,_,_,rfl⟩⟩
 rintro _ ⟨_,_,_,_,_,_,rfl⟩
 refine E (kt<|kt<|kt<|kn) fun _=>?_
 refine U rfl (fun hc35=>?_) (fun hc35=>?_)
 ·replace h:=M hc35 h
  refine D<|F<|C rfl<|E (kt<|kn) fun _=>?_
  exact L (by cases h;rfl)
 ·replace h:=O hc35 h
  refine P (kt<|kt<|kn) fun _=>?_
  refine D<|D<|F<|C rfl<|E (kt<|kt<|kt<|kn) fun _=>?_
  obtain ⟨o0,ho0,h⟩:=d0 h
  refine d5 ho0 (fun (i0:Int) (_:Unit)=>[(2,.tv (.pt (eCondition a).cells)),(3,.tv (.pt (eCondition b).cells)),(5,.tv (eI i0))]) (fun (_:Unit)=>[]) (fun zv ze=>resIs ([.tmp 4]) (.sh (eB zv)) ze) rfl ?_ ?_ ?_ ?_
  ·clear h ho0
   intro i0 s0 r0 hi0 h hw0
   refine D<|D<|F<|C rfl<|K rfl<|I rfl<|V rfl (eLCondition_eq _)<|X rfl rfl<|E (kt<|kt<|kt<|kt<|kn) fun _=>?_
   refine b3 rfl (b4 hi0)<|P (kt<|kt<|kt<|kn) fun _=>?_
   refine D<|a8<|D<|d4 rfl<|K rfl<|I rfl<|C rfl ?_
   obtain ⟨x46,hx46,h⟩:=J h
   refine a2 rfl rfl (eLCondition_eq _) hx46 rfl<|R rfl rfl (show _=eCondition x46 from rfl)<|K rfl<|I rfl<|C rfl ?_
   obtain ⟨x51,hx51,h⟩:=J h
   refine a2 rfl rfl (eLCondition_eq _) hx51 rfl<|R rfl rfl (show _=eCondition x51 from rfl) ?_
   obtain ⟨x53,hx53,h⟩:=J h
   refine W rfl (ih_111 x46 x51 _ hx53)<|b7 rfl<|E (kt<|kt<|kt<|kt<|kn) fun _=>?_
   refine U rfl (fun hc54=>?_) (fun hc54=>?_)
   ·replace h:=M hc54 h
    refine D<|F<|C rfl<|E (kt<|kn) fun _=>?_
    refine L ?_
    cases h
    exact ⟨_,rfl,rfl⟩
   ·replace h:=O hc54 h
    refine P (kt<|kt<|kt<|kn) fun _=>?_
    refine F<|C rfl<|a5 rfl rfl<|C rfl<|E (kt<|kt<|kt<|kn) ?_
    cases h
    refine ⟨_,rfl,?_⟩
    rw [Ktv rfl (Ktv rfl (Ktv rfl (Knil _)))]
    rw [b2 (a4 (hw0 5)) hi0 (e4 (e9 (f0 (hw0 2)) (i:=1) rfl) (eLCondition_eq _))]
    all_goals rfl
  ·intro i0 s0 hi0
   refine D<|D<|F<|C rfl<|K rfl<|I rfl<|V rfl (eLCondition_eq _)<|X rfl rfl<|E (kt<|kt<|kt<|kt<|kn) fun _=>?_
   refine b5 rfl (b6 hi0)<|b0 (kn) ?_
   exact ⟨rfl,rfl⟩
  ·intro s0 hs
   replace h:=d1 h hs
   intro _
   refine D<|F<|C rfl<|E (kt<|kn) fun _=>?_
   exact L (by cases h;rfl)
  ·intro v0 ze hv hR
   replace h:=d2 h hv
   cases h
   exact hR
theorem c111A:∀ n:Nat,(∀ (a:Condition) (b:Condition) (r:Bool) (_:ref22_SameF n a b=some r),Sound prog 111 [eCondition a,eCondition b] (.sh (eB r))):=by
  intro n
  induction n with
  | zero=>intro a b r h; cases h
  | succ n ih=>exact c111S n ih
theorem c111 (a:Condition) (b:Condition) (r:Bool) (h:ref22_Same a b=some r):Sound prog 111 [eCondition a,eCondition b] (.sh (eB r)):=by
  obtain ⟨N,hN⟩:=lim_some h
  exact (c111A N) a b r (hN N (Nat.le_refl _))
theorem ck61:CK f61 (Rq [Af 2 0,Af 3 1,Ai 4] [2,3]<|Rq [Ac 5 2 0,Ab 6 5,Ac 7 3 0,Ab 8 7,Cu 9 6 8,Aa 10 9,Av 11 2 15 10,Aw 12 11 10,Av 13 3 15 10,Aw 14 13 10,⟨some 15,.bin (.b) .eql (.s 12) (.s 14),some (10,true)⟩,Aq 16 10 15,Aa 17 16,Av 18 2 1 17,Bj 19 18 5 17,Av 20 3 1 17,Bj 21 20 5 17,Bv 22 109 19 21 17,Aq 23 17 22,Aa 24 23,Av 25 2 6 24,Bj 26 25 5 24,Av 27 3 6 24,Bj 28 27 5 24,Bv 29 109 26 28 24,Aq 30 24 29,Aa 31 30,Av 32 2 11 31,Bj 33 32 2 31,Av 34 3 11 31,Bj 35 34 2 31,Bv 36 22 33 35 31,Aq 37 31 36,Aa 38 37,Av 39 2 13 38,Bj 40 39 2 38,Av 41 3 13 38,Bj 42 41 2 38,Bv 43 110 40 42 38,Aq 44 38 43,Aa 45 44,Av 46 2 16 45,Bj 47 46 9 45,Av 48 3 16 45,Bj 49 48 9 45,Bv 50 111 47 49 45,Aq 51 45 50,Aa 4 51] [4]<|.ret) [.tmp 4]:= by decide +kernel
theorem c61 (a:Rule) (b:Rule) (r:Bool) (h:ref24_Same a b=some r):Sound prog 61 [eRule a,eRule b] (.sh (eB r)):= by
 refine Fn ck61 fun hw=>?_
 unfold ref24_Same at h
 refine D<|F<|a1 rfl rfl<|a1 rfl rfl<|C rfl<|E (kt<|kt<|kn) fun _=>?_
 refine D<|F<|K rfl<|I rfl<|K rfl<|I rfl<|g7 rfl rfl<|C rfl ?_
 refine gA 6 [11,12,13,14,15] 16 (a.Name==b.Name) (a.Injective==b.Injective) (fun hg16=>?_) (fun hg16=>?_) ?_
 ·refine G rfl hg16<|K rfl<|G rfl hg16<|I rfl<|G rfl hg16<|K rfl<|G rfl hg16<|I rfl<|G rfl hg16<|m3 rfl rfl<|Z rfl hg16 rfl ?_
  exact ⟨⟨_,_,_,_,_,rfl⟩⟩
 ·refine H rfl hg16<|H rfl hg16<|H rfl hg16<|H rfl hg16<|H rfl hg16<|a0 rfl hg16 rfl ?_
  exact ⟨⟨_,_,_,_,_,rfl⟩⟩
 rintro _ ⟨_,_,_,_,_,rfl⟩
 refine C rfl ?_
 obtain ⟨x23,hx23,h⟩:=J h
 refine gX 6 [18,19,20,21,22] 23 x23 ((a.Name==b.Name)&&(a.Injective==b.Injective)) (fun hg23=>?_) (fun hg23=>?_) ?_
 ·replace h:=M hg23 hx23
  refine G rfl hg23<|K rfl<|G rfl hg23<|R rfl rfl (show _=ePattern a.Left from rfl)<|G rfl hg23<|K rfl<|G rfl hg23<|R rfl rfl (show _=ePattern b.Left from rfl) ?_
  obtain ⟨x22,hx22,h⟩:=J h
  refine G rfl hg23<|W rfl (c109 a.Left b.Left _ hx22) ?_
  cases h
  refine Z rfl hg23 rfl ?_
  exact ⟨⟨_,_,_,_,_,rfl⟩⟩
 ·replace h:=O hg23 hx23
  cases h
  refine H rfl hg23<|H rfl hg23<|H rfl hg23<|H rfl hg23<|H rfl hg23<|a0 rfl hg23 rfl ?_
  exact ⟨⟨_,_,_,_,_,rfl⟩⟩
 rintro _ ⟨_,_,_,_,_,rfl⟩
 refine C rfl ?_
 obtain ⟨x30,hx30,h⟩:=J h
 refine gX 6 [25,26,27,28,29] 30 x30 x23 (fun hg30=>?_) (fun hg30=>?_) ?_
 ·replace h:=M hg30 hx30
  refine G rfl hg30<|K rfl<|G rfl hg30<|R rfl rfl (show _=ePattern a.Right from rfl)<|G rfl hg30<|K rfl<|G rfl hg30<|R rfl rfl (show _=ePattern b.Right from rfl) ?_
  obtain ⟨x29,hx29,h⟩:=J h
  refine G rfl hg30<|W rfl (c109 a.Right b.Right _ hx29) ?_
  cases h
  refine Z rfl hg30 rfl ?_
  exact ⟨⟨_,_,_,_,_,rfl⟩⟩
 ·replace h:=O hg30 hx30
  cases h
  refine H rfl hg30<|H rfl hg30<|H rfl hg30<|H rfl hg30<|H rfl hg30<|a0 rfl hg30 rfl ?_
  exact ⟨⟨_,_,_,_,_,rfl⟩⟩
 rintro _ ⟨_,_,_,_,_,rfl⟩
 refine C rfl ?_
 obtain ⟨x37,hx37,h⟩:=J h
 refine gX 6 [32,33,34,35,36] 37 x37 x30 (fun hg37=>?_) (fun hg37=>?_) ?_
 ·replace h:=M hg37 hx37
  refine G rfl hg37<|K rfl<|G rfl hg37<|R rfl rfl (show _=ePart a.Keep from rfl)<|G rfl hg37<|K rfl<|G rfl hg37<|R rfl rfl (show _=ePart b.Keep from rfl) ?_
  obtain ⟨x36,hx36,h⟩:=J h
  refine G rfl hg37<|W rfl (c22 a.Keep b.Keep _ hx36) ?_
  cases h
  refine Z rfl hg37 rfl ?_
  exact ⟨⟨_,_,_,_,_,rfl⟩⟩
 ·replace h:=O hg37 hx37
  cases h
  refine H rfl hg37<|H rfl hg37<|H rfl hg37<|H rfl hg37<|H rfl hg37<|a0 rfl hg37 rfl ?_
  exact ⟨⟨_,_,_,_,_,rfl⟩⟩
 rintro _ ⟨_,_,_,_,_,rfl⟩
 refine C rfl ?_
 obtain ⟨x44,hx44,h⟩:=J h
 refine gX 6 [39,40,41,42,43] 44 x44 x37 (fun hg44=>?_) (fun hg44=>?_) ?_
 ·replace h:=M hg44 hx44
  refine G rfl hg44<|K rfl<|G rfl hg44<|R rfl rfl (show _=eMorphism a.Into from rfl)<|G rfl hg44<|K rfl<|G rfl hg44<|R rfl rfl (show _=eMorphism b.Into from rfl) ?_
  obtain ⟨x43,hx43,h⟩:=J h
  refine G rfl hg44<|W rfl (c110 a.Into b.Into _ hx43) ?_
  cases h
  refine Z rfl hg44 rfl ?_
  exact ⟨⟨_,_,_,_,_,rfl⟩⟩
 ·replace h:=O hg44 hx44
  cases h
  refine H rfl hg44<|H rfl hg44<|H rfl hg44<|H rfl hg44<|H rfl hg44<|a0 rfl hg44 rfl ?_
  exact ⟨⟨_,_,_,_,_,rfl⟩⟩
 rintro _ ⟨_,_,_,_,_,rfl⟩
 refine C rfl ?_
 obtain ⟨x51,hx51,h⟩:=J h
 refine gX 6 [46,47,48,49,50] 51 x51 x44 (fun hg51=>?_) (fun hg51=>?_) ?_
 ·replace h:=M hg51 hx51
  refine G rfl hg51<|K rfl<|G rfl hg51<|R rfl rfl (show _=eCondition a.Condition from rfl)<|G rfl hg51<|K rfl<|G rfl hg51<|R rfl rfl (show _=eCondition b.Condition from rfl) ?_
  obtain ⟨x50,hx50,h⟩:=J h
  refine G rfl hg51<|W rfl (c111 a.Condition b.Condition _ hx50) ?_
  cases h
  refine Z rfl hg51 rfl ?_
  exact ⟨⟨_,_,_,_,_,rfl⟩⟩
 ·replace h:=O hg51 hx51
  cases h
  refine H rfl hg51<|H rfl hg51<|H rfl hg51<|H rfl hg51<|H rfl hg51<|a0 rfl hg51 rfl ?_
  exact ⟨⟨_,_,_,_,_,rfl⟩⟩
 rintro _ ⟨_,_,_,_,_,rfl⟩
 refine C rfl<|E (kt<|kn) fun _=>?_
 exact L (by cases h;rfl)
theorem ck17:CK f17 (Rq [Af 2 0,Af 3 1,Ai 4] [2,3]<|Rq [Ae 5 2 25,Ae 6 3 25,An 7 61 5 6,Aa 4 7] [4]<|.ret) [.tmp 4]:= by decide +kernel
theorem c17 (a:Rule) (b:Rule) (r:Bool) (h:ref53_Same a b=some r):Sound prog 17 [eRule a,eRule b] (.sh (eB r)):= by
 refine Fn ck17 fun hw=>?_
 unfold ref53_Same at h
 refine D<|F<|a1 rfl rfl<|a1 rfl rfl<|C rfl<|E (kt<|kt<|kn) fun _=>?_
 refine D<|F<|R rfl rfl (show _=eRule a from rfl)<|R rfl rfl (show _=eRule b from rfl) ?_
 obtain ⟨x7,hx7,h⟩:=J h
 refine W rfl (c61 a b _ hx7)<|C rfl<|E (kt<|kn) fun _=>?_
 exact L (by cases h;rfl)
theorem ck23:CK f23 (Rq [Af 3 0,Af 4 1,Af 5 2,Ca 6 1 3 4 0 5 1 3 4 0 5 1 1 1 1 0 9 1 1 1 3 4 0 5,Bd 7 1 1,Ad 8 0] [3,4,5,6,7]<|Rq [Ae 9 3 2,Ae 10 4 2,Ae 11 5 25,⟨some 12,.lst 1 [.c (.int .i64 1),.c (.int .i64 3)],none⟩,Cg 13 62 9 10 11 12,At 14 13 0,At 15 13 1,At 16 13 2,Ak 25 6 14,Ak 2 7 15,Aa 8 16] [6,7,8]<|.ret) [.cell 6 (some 25),.cell 7 (some 2),.tmp 8]:= by decide +kernel
theorem c23 (t:Types) (s_1:Sorts) (r_2:Rule) (r:(Rule × Part × Int)) (h:triplerule_Consistency t s_1 r_2=some r):Sound prog 23 [eTypes t,eSorts s_1,eRule r_2] (.tp [eRule r.1,ePart r.2.1,eI r.2.2]):= by
 refine Fn ck23 fun hw=>?_
 unfold triplerule_Consistency at h
 refine D<|F<|a1 rfl rfl<|a1 rfl rfl<|a1 rfl rfl<|b1 rfl<|b1 rfl<|C rfl<|E (kt<|kt<|kt<|kb<|kb<|kn) fun _=>?_
 refine D<|F<|R rfl rfl (show _=eTypes t from rfl)<|R rfl rfl (show _=eSorts s_1 from rfl)<|R rfl rfl (show _=eRule r_2 from rfl)<|e2 (e:=eI) (l:=[1,3]) rfl rfl (fun _=>rfl) ?_
 obtain ⟨x13,hx13,h⟩:=J h
 refine e6 rfl (c62 t s_1 r_2 [1,3] _ hx13)<|b9 rfl rfl<|b9 rfl rfl<|b9 rfl rfl<|a9 rfl rfl rfl rfl rfl<|a9 rfl rfl rfl rfl rfl<|C rfl<|E (kb<|kb<|kt<|kn) fun _=>?_
 refine L ?_
 cases h
 exact ⟨by decide,rfl⟩
theorem ck170:CK f170 (Rq [Ai 4] [0,1]<|Sq (Rq [Ad 5 0] [0,1,5]<|Bl 0<|Lo [0,1,5]<|Sq (Rq [Aa 6 5,Aa 7 0,Ag 8 7,Ap 9 6 8] [0,1,5,9]<|Co 9 (Sk [0,1,5])<|Ex 0 [])<|Sq (Bl 1<|Rq [Aa 12 0,Aa 13 5,Ah 14 12 13 1,Ab 15 14,Aa 16 1,By 17 15 16] [0,1,5,17]<|Co 17 (Rq [Bw 4] [4]<|.ret)<|Sk [0,1,5])<|Re [Aa 10 5,Ao 11 10 1,Aa 5 11] [0,1,5])<|Rq [Ai 4] [4]<|.ret) [.tmp 4]:= by decide +kernel
theorem c170 (l:List Int) (n:Int) (r:Bool) (h:ref24_has l n=some r):Sound prog 170 [lI l,eI n] (.sh (eB r)):= by
 refine Fn ck170 fun hw=>?_
 unfold ref24_has at h
 refine D<|F<|C rfl<|E (kt<|kt<|kn) fun _=>?_
 refine D<|D<|F<|C rfl<|E (kt<|kt<|kt<|kn) fun _=>?_
 obtain ⟨o0,ho0,h⟩:=d0 h
 refine d5 ho0 (fun (i0:Int) (_:Unit)=>[(0,.tv (lI l)),(1,.tv (eI n)),(5,.tv (eI i0))]) (fun (_:Unit)=>[]) (fun zv ze=>resIs ([.tmp 4]) (.sh (eB zv)) ze) rfl ?_ ?_ ?_ ?_
 ·clear h ho0
  intro i0 s0 r0 hi0 h hw0
  refine D<|D<|F<|C rfl<|C rfl<|V rfl rfl<|X rfl rfl<|E (kt<|kt<|kt<|kt<|kn) fun _=>?_
  refine b3 rfl (b4 hi0)<|P (kt<|kt<|kt<|kn) fun _=>?_
  refine D<|a8<|D<|F<|C rfl<|C rfl ?_
  obtain ⟨x14,hx14,h⟩:=J h
  refine a2 rfl rfl rfl hx14 rfl<|I rfl<|C rfl<|b8 rfl rfl<|E (kt<|kt<|kt<|kt<|kn) fun _=>?_
  refine U rfl (fun hc17=>?_) (fun hc17=>?_)
  ·replace h:=M hc17 h
   refine D<|F<|C rfl<|E (kt<|kn) fun _=>?_
   refine L ?_
   cases h
   exact ⟨_,rfl,rfl⟩
  ·replace h:=O hc17 h
   refine P (kt<|kt<|kt<|kn) fun _=>?_
   refine F<|C rfl<|a5 rfl rfl<|C rfl<|E (kt<|kt<|kt<|kn) ?_
   cases h
   refine ⟨_,rfl,?_⟩
   rw [Ktv rfl (Ktv rfl (Ktv rfl (Knil _)))]
   rw [b2 (a4 (hw0 5)) hi0 (e4 (a4 (hw0 0)) rfl)]
   all_goals rfl
 ·intro i0 s0 hi0
  refine D<|D<|F<|C rfl<|C rfl<|V rfl rfl<|X rfl rfl<|E (kt<|kt<|kt<|kt<|kn) fun _=>?_
  refine b5 rfl (b6 hi0)<|b0 (kn) ?_
  exact ⟨rfl,rfl⟩
 ·intro s0 hs
  replace h:=d1 h hs
  intro _
  refine D<|F<|C rfl<|E (kt<|kn) fun _=>?_
  exact L (by cases h;rfl)
 ·intro v0 ze hv hR
  replace h:=d2 h hv
  cases h
  exact hR
theorem ck123:CK f123 (Rq [Bk 4 1] [0,1]<|Rq [Bk 5 1] [0,1,5]<|Sq (Rq [Ad 6 0] [0,1,5,6]<|Bl 0<|Lo [0,1,5,6]<|Sq (Rq [Aa 7 6,Aa 8 0,Ap 9 7 8] [0,1,5,6,9]<|Co 9 (Sk [0,1,5,6])<|Ex 0 [5])<|Sq (Bl 1<|Rq [Aa 12 1,Aa 13 6,An 14 170 12 13,Ay 15 14] [0,1,5,6,15]<|Co 15 (Re [Bb 16 5,Aa 17 6,Bh 18 1 17,Bc 19 1 16 18,Bb 5 19] [0,1,5,6])<|Sk [0,1,5,6])<|Re [Aa 10 6,Ao 11 10 1,Aa 6 11] [0,1,5,6])<|Rq [Aa 20 5,Bb 4 20] [4]<|.ret) [.tmp 4]:= by decide +kernel
theorem c123 (n:Int) (l:List Int) (r:(List Int)) (h:ref24_rest n l=some r):Sound prog 123 [eI n,lI l] (.sh (lI r)):= by
 refine Fn ck123 fun hw=>?_
 unfold ref24_rest at h
 refine D<|F<|f2<|E (kt<|kt<|kn) fun _=>?_
 refine D<|F<|f2<|E (kt<|kt<|ko<|kn) fun _=>?_
 refine D<|D<|F<|C rfl<|E (kt<|kt<|ko<|kt<|kn) fun _=>?_
 obtain ⟨s0,hs0,h⟩:=J h
 refine f8 hs0 (fun (i0:Int) (s0:List Int)=>[(0,.tv (eI n)),(1,.tv (lI l)),(5,.ow (lI s0)),(6,.tv (eI i0))]) (fun (s0:List Int)=>[(5,.ow (lI s0))]) rfl ?_ ?_ ?_
 ·clear h hs0
  intro i0 s0 r0 hi0 h hw0
  refine D<|D<|F<|C rfl<|C rfl<|X rfl rfl<|E (kt<|kt<|ko<|kt<|kt<|kn) fun _=>?_
  refine b3 rfl (b4 hi0)<|P (kt<|kt<|ko<|kt<|kn) fun _=>?_
  refine D<|a8<|D<|F<|C rfl<|C rfl ?_
  obtain ⟨x14,hx14,h⟩:=J h
  refine W rfl (c170 l i0 _ hx14)<|b7 rfl<|E (kt<|kt<|ko<|kt<|kt<|kn) fun _=>?_
  refine U rfl (fun hc15=>?_) (fun hc15=>?_)
  ·replace h:=M hc15 h
   refine F<|f7 rfl<|C rfl<|e2 (e:=eI) (l:=[i0]) rfl rfl (fun _=>rfl) ?_
   obtain ⟨x19,hx19,h⟩:=J h
   refine e5 rfl rfl rfl rfl hx19 rfl<|f7 rfl<|E (kt<|kt<|ko<|kt<|kn) fun _=>?_
   refine F<|C rfl<|a5 rfl rfl<|C rfl<|E (kt<|kt<|ko<|kt<|kn) ?_
   cases h
   show Env.keep _ _=_
   rw [Ktv rfl (Ktv rfl (Kow rfl (Ktv rfl (Knil _))))]
   rw [b2 (a4 (hw0 6)) hi0 (d9 (a4 (hw0 0)))]
   all_goals rfl
  ·replace h:=O hc15 h
   refine P (kt<|kt<|ko<|kt<|kn) fun _=>?_
   refine F<|C rfl<|a5 rfl rfl<|C rfl<|E (kt<|kt<|ko<|kt<|kn) ?_
   cases h
   show Env.keep _ _=_
   rw [Ktv rfl (Ktv rfl (Kow rfl (Ktv rfl (Knil _))))]
   rw [b2 (a4 (hw0 6)) hi0 (d9 (a4 (hw0 0)))]
   all_goals rfl
 ·intro i0 s0 hi0
  refine D<|D<|F<|C rfl<|C rfl<|X rfl rfl<|E (kt<|kt<|ko<|kt<|kt<|kn) fun _=>?_
  refine b5 rfl (b6 hi0)<|b0 (ko<|kn) ?_
  exact ⟨rfl,rfl⟩
 ·intro _
  refine D<|F<|C rfl<|g1 rfl<|E (kt<|kn) fun _=>?_
  exact L (by cases h;rfl)
theorem ck71:CK f71 (Rq [Af 1 0,Bk 2 1,Bk 3 1] [1]<|Sq (Dr [2,3,4,5,6,7,8,9,10,11,12,13,14,15,16,17,18,19,20,21] [Ac 4 1 6,Aj 5 4 0,Aj 6 5 0,Ab 7 6,Ag 8 7,Ac 9 1 13,Aj 10 9 0,Ab 11 10,An 12 123 8 11,Ac 13 1 6,Aj 14 13 0,Aj 15 14 1,Ab 16 15,Ag 17 16,Ac 18 1 13,Aj 19 18 1,Ab 20 19,An 21 123 17 20,Bb 2 12,Bb 3 21] [2,3])<|.ret) [.tmp 2,.tmp 3]:= by decide +kernel
theorem c71 (r_0:Rule) (r:(List Int × List Int)) (h:ref24_created r_0=some r):Sound prog 71 [eRule r_0] (.tp [lI r.1,lI r.2]):= by
 refine Fn ck71 fun hw=>?_
 unfold ref24_created at h
 refine D<|F<|a1 rfl rfl<|f2<|f2<|E (kt<|kn) fun _=>?_
 refine D<|d4 rfl<|K rfl<|a6 rfl<|a6 rfl<|I rfl<|V rfl rfl<|K rfl<|a6 rfl<|I rfl ?_
 obtain ⟨x12,hx12,h⟩:=J h
 refine W rfl (c123 (r_0.Right.Graph.Nodes.length:Int) r_0.Into.Nodes _ hx12)<|K rfl<|a6 rfl<|a6 rfl<|I rfl<|V rfl rfl<|K rfl<|a6 rfl<|I rfl ?_
 obtain ⟨x21,hx21,h⟩:=J h
 refine W rfl (c123 (r_0.Right.Graph.Edges.length:Int) r_0.Into.Edges _ hx21)<|g1 rfl<|g1 rfl<|E (kt<|kt<|kn) fun _=>?_
 refine L ?_
 cases h
 exact ⟨by decide,rfl⟩
theorem ck173:CK f173 (Rq [Af 1 0,Ck 2] [1]<|Sq (Rq [Ac 3 1 0,Ab 4 3,Be 5 4 3] [1,5]<|Co 5 (Rq [Ac 6 1 1,Ab 7 6,⟨some 8,.bin (.s) .add (.c (.str ⟨#[34]⟩)) (.s 7),none⟩,⟨some 9,.bin (.s) .add (.s 8) (.c (.str ⟨#[34]⟩)),none⟩,Aa 2 9] [2]<|.ret)<|Sk [1])<|Rq [Ac 10 1 1,Ab 11 10,Aa 2 11] [2]<|.ret) [.tmp 2]:= by decide +kernel
theorem c173 (t:Token) (r:ByteArray) (h:ref01_text t=some r):Sound prog 173 [eToken t] (.sh (eS r)):= by
 refine Fn ck173 fun hw=>?_
 unfold ref01_text at h
 refine D<|F<|a1 rfl rfl<|C rfl<|E (kt<|kn) fun _=>?_
 refine D<|D<|F<|K rfl<|I rfl<|b8 rfl rfl<|E (kt<|kt<|kn) fun _=>?_
 refine U rfl (fun hc5=>?_) (fun hc5=>?_)
 ·replace h:=M hc5 h
  refine D<|F<|K rfl<|I rfl ?_
  obtain ⟨x8,hx8,h⟩:=J h
  refine l8 rfl rfl hx8 ?_
  obtain ⟨x9,hx9,h⟩:=J h
  refine l8 rfl rfl hx9<|C rfl<|E (kt<|kn) fun _=>?_
  exact L (by cases h;rfl)
 ·replace h:=O hc5 h
  refine P (kt<|kn) fun _=>?_
  refine D<|F<|K rfl<|I rfl<|C rfl<|E (kt<|kn) fun _=>?_
  exact L (by cases h;rfl)
theorem ck214:CK f214 (Rq [Ai 2] [0]<|Rq [Aa 3 0,Di 4 3 97,Aa 5 4,As 6 0 5,Cz 7 6 122 5,Aq 8 5 7,Aa 9 8,Az 10 0 9,Ey 11 10 65 9,Az 12 11 9,As 13 0 12,Cz 14 13 90 12,Ct 15 12 14 9,Ar 16 9 15,Aa 2 16] [2]<|.ret) [.tmp 2]:= by decide +kernel
theorem c214 (c:Int) (r:Bool) (h:ref01_letter c=some r):Sound prog 214 [eU8 c] (.sh (eB r)):= by
 refine Fn ck214 fun hw=>?_
 unfold ref01_letter at h
 refine D<|F<|C rfl<|E (kt<|kn) fun _=>?_
 refine D<|F<|C rfl<|d6 rfl rfl<|C rfl ?_
 refine gA 3 [6,7] 8 (decide (97<=c)) (decide (c<=122)) (fun hg8=>?_) (fun hg8=>?_) ?_
 ·refine G rfl hg8<|C rfl<|G rfl hg8<|f1 rfl rfl<|Z rfl hg8 rfl ?_
  exact ⟨⟨_,_,rfl⟩⟩
 ·refine H rfl hg8<|H rfl hg8<|a0 rfl hg8 rfl ?_
  exact ⟨⟨_,_,rfl⟩⟩
 rintro _ ⟨_,_,rfl⟩
 refine C rfl ?_
 refine gO 7 [10,11,12,13,14,15] 16 ((decide (97<=c))&&(decide (c<=122))) ((decide (65<=c))&&(decide (c<=90))) (fun hg16=>?_) (fun hg16=>?_) ?_
 ·refine H rfl hg16<|H rfl hg16<|H rfl hg16<|d3 rfl<|d3 rfl<|H rfl hg16<|Z rfl hg16 rfl ?_
  exact ⟨⟨_,_,_,_,_,_,rfl⟩⟩
 ·refine G rfl hg16<|C rfl<|G rfl hg16<|d6 rfl rfl<|G rfl hg16<|C rfl ?_
  refine gA 3 [13,14] 15 (decide (65<=c)) (decide (c<=90)) (fun hg15=>?_) (fun hg15=>?_) ?_
  ·refine G rfl hg15<|C rfl<|G rfl hg15<|f1 rfl rfl<|G rfl hg16<|Z rfl hg15 rfl ?_
   exact ⟨⟨_,_,rfl⟩⟩
  ·refine H rfl hg15<|H rfl hg15<|G rfl hg16<|a0 rfl hg15 rfl ?_
   exact ⟨⟨_,_,rfl⟩⟩
  rintro _ ⟨_,_,rfl⟩
  refine a0 rfl hg16 rfl ?_
  exact ⟨⟨_,_,_,_,_,_,rfl⟩⟩
 rintro _ ⟨_,_,_,_,_,_,rfl⟩
 refine C rfl<|E (kt<|kn) fun _=>?_
 exact L (by cases h;rfl)
theorem ck215:CK f215 (Rq [Ai 2] [0]<|Rq [Aa 3 0,Di 4 3 48,Aa 5 4,As 6 0 5,Cz 7 6 57 5,Aq 8 5 7,Aa 2 8] [2]<|.ret) [.tmp 2]:= by decide +kernel
theorem c215 (c:Int) (r:Bool) (h:ref01_digit c=some r):Sound prog 215 [eU8 c] (.sh (eB r)):= by
 refine Fn ck215 fun hw=>?_
 unfold ref01_digit at h
 refine D<|F<|C rfl<|E (kt<|kn) fun _=>?_
 refine D<|F<|C rfl<|d6 rfl rfl<|C rfl ?_
 refine gA 3 [6,7] 8 (decide (48<=c)) (decide (c<=57)) (fun hg8=>?_) (fun hg8=>?_) ?_
 ·refine G rfl hg8<|C rfl<|G rfl hg8<|f1 rfl rfl<|Z rfl hg8 rfl ?_
  exact ⟨⟨_,_,rfl⟩⟩
 ·refine H rfl hg8<|H rfl hg8<|a0 rfl hg8 rfl ?_
  exact ⟨⟨_,_,rfl⟩⟩
 rintro _ ⟨_,_,rfl⟩
 refine C rfl<|E (kt<|kn) fun _=>?_
 exact L (by cases h;rfl)
theorem ck216:CK f216 (Rq [Ad 6 0] [0,1,2]<|Rq [Ad 7 0] [0,1,2,7]<|Sq (Bl 0<|Lo [0,1,2,7]<|Sq (Rq [Aa 8 1,Aa 9 7,Bn 10 8 9,Aa 11 0,Ci 12 11,Ap 13 10 12,Aa 14 13,As 15 0 14,As 16 1 14,As 17 7 14,Ef 18 16 17 14,Eh 19 15 18 14,Bz 20 215 19 14,As 21 20 14,Az 22 2 21,Bq 23 22 21,Az 24 23 21,As 25 0 24,As 26 1 24,As 27 7 24,Ef 28 26 27 24,Eh 29 25 28 24,Bz 30 214 29 24,As 31 30 24,Az 32 0 31,Az 33 1 31,Az 34 7 31,⟨some 35,.bin (.i) .add (.s 33) (.s 34),some (31,false)⟩,⟨some 36,.sidx (.s 32) (.s 35),some (31,false)⟩,Ez 37 36 95 31,Dd 38 31 37 24,Ct 39 24 38 21,Dd 40 21 39 14,Aq 41 14 40] [0,1,2,7,41]<|Co 41 (Sk [0,1,2,7])<|Ex 0 [7])<|Bl 1<|Re [Aa 42 7,Ao 43 42 1,Aa 7 43] [0,1,2,7])<|Rq [Aa 44 7,Aa 6 44] [6]<|.ret) [.tmp 6]:= by decide +kernel
theorem c216 (s_0:ByteArray) (at':Int) (digits:Bool) (r:Int) (h:ref01_run s_0 at' digits=some r):Sound prog 216 [eS s_0,eI at',eB digits] (.sh (eI r)):= by
 refine Fn ck216 fun hw=>?_
 unfold ref01_run at h
 refine D<|F<|C rfl<|E (kt<|kt<|kt<|kn) fun _=>?_
 refine D<|F<|C rfl<|E (kt<|kt<|kt<|kt<|kn) fun _=>?_
 refine D ?_
 obtain ⟨o0,ho0,h⟩:=d0 h
 refine g8 ho0 (fun (s0:Int)=>[(0,.tv (eS s_0)),(1,.tv (eI at')),(2,.tv (eB digits)),(7,.tv (eI s0))]) (fun (s0:Int)=>[(7,.tv (eI s0))]) (fun zv ze=>resIs ([.tmp 6]) (.sh (eI zv)) ze) rfl ?_ ?_ ?_
 ·clear h ho0
  intro s0 r0 h hw0
  refine D<|D<|F<|C rfl<|C rfl<|a5 rfl rfl<|C rfl<|g3 rfl<|X rfl rfl<|C rfl ?_
  obtain ⟨x41,hx41,h⟩:=J h
  refine gX 27 [15,16,17,18,19,20,21,22,23,24,25,26,27,28,29,30,31,32,33,34,35,36,37,38,39,40] 41 x41 (decide ((w64 (at'+s0))<(s_0.size:Int))) (fun hg41=>?_) (fun hg41=>?_) ?_
  ·replace h:=M hg41 hx41
   refine G rfl hg41<|C rfl<|G rfl hg41<|C rfl<|G rfl hg41<|C rfl<|G rfl hg41<|a5 rfl rfl ?_
   obtain ⟨x19,hx19,h⟩:=J h
   refine G rfl hg41<|l2 rfl rfl hx19 ?_
   obtain ⟨x20,hx20,h⟩:=J h
   refine G rfl hg41<|W rfl (c215 x19 _ hx20)<|G rfl hg41<|C rfl ?_
   obtain ⟨x40,hx40,h⟩:=J h
   refine gX 19 [22,23,24,25,26,27,28,29,30,31,32,33,34,35,36,37,38,39] 40 x40 x20 (fun hg40=>?_) (fun hg40=>?_) ?_
   ·replace h:=M hg40 hx40
    cases h
    refine H rfl hg40<|H rfl hg40<|H rfl hg40<|d3 rfl<|d3 rfl<|d3 rfl<|d3 rfl<|d3 rfl<|d3 rfl<|d3 rfl<|d3 rfl<|d3 rfl<|d3 rfl<|d3 rfl<|d3 rfl<|d3 rfl<|d3 rfl<|H rfl hg40<|G rfl hg41<|Z rfl hg40 rfl ?_
    exact ⟨⟨_,_,_,_,_,_,_,_,_,_,_,_,_,_,_,_,_,_,rfl⟩⟩
   ·replace h:=O hg40 hx40
    refine G rfl hg40<|C rfl<|G rfl hg40<|b7 rfl<|G rfl hg40<|C rfl ?_
    obtain ⟨x39,hx39,h⟩:=J h
    refine gX 15 [25,26,27,28,29,30,31,32,33,34,35,36,37,38] 39 x39 (!digits) (fun hg39=>?_) (fun hg39=>?_) ?_
    ·replace h:=M hg39 hx39
     refine G rfl hg39<|C rfl<|G rfl hg39<|C rfl<|G rfl hg39<|C rfl<|G rfl hg39<|a5 rfl rfl ?_
     obtain ⟨x29,hx29,h⟩:=J h
     refine G rfl hg39<|l2 rfl rfl hx29 ?_
     obtain ⟨x30,hx30,h⟩:=J h
     refine G rfl hg39<|W rfl (c214 x29 _ hx30)<|G rfl hg39<|C rfl ?_
     obtain ⟨x38,hx38,h⟩:=J h
     refine gX 7 [32,33,34,35,36,37] 38 x38 x30 (fun hg38=>?_) (fun hg38=>?_) ?_
     ·replace h:=M hg38 hx38
      cases h
      refine H rfl hg38<|H rfl hg38<|H rfl hg38<|H rfl hg38<|H rfl hg38<|H rfl hg38<|G rfl hg39<|Z rfl hg38 rfl ?_
      exact ⟨⟨_,_,_,_,_,_,rfl⟩⟩
     ·replace h:=O hg38 hx38
      refine G rfl hg38<|C rfl<|G rfl hg38<|C rfl<|G rfl hg38<|C rfl<|G rfl hg38<|a5 rfl rfl ?_
      obtain ⟨x36,hx36,h⟩:=J h
      refine G rfl hg38<|l2 rfl rfl hx36<|G rfl hg38<|b8 rfl rfl ?_
      cases h
      refine G rfl hg39<|a0 rfl hg38 rfl ?_
      exact ⟨⟨_,_,_,_,_,_,rfl⟩⟩
     rintro _ ⟨_,_,_,_,_,_,rfl⟩
     cases h
     refine G rfl hg40<|Z rfl hg39 rfl ?_
     exact ⟨⟨_,_,_,_,_,_,_,_,_,_,_,_,_,_,rfl⟩⟩
    ·replace h:=O hg39 hx39
     cases h
     refine H rfl hg39<|H rfl hg39<|H rfl hg39<|H rfl hg39<|H rfl hg39<|H rfl hg39<|H rfl hg39<|d3 rfl<|d3 rfl<|d3 rfl<|d3 rfl<|d3 rfl<|d3 rfl<|H rfl hg39<|G rfl hg40<|a0 rfl hg39 rfl ?_
     exact ⟨⟨_,_,_,_,_,_,_,_,_,_,_,_,_,_,rfl⟩⟩
    rintro _ ⟨_,_,_,_,_,_,_,_,_,_,_,_,_,_,rfl⟩
    cases h
    refine G rfl hg41<|a0 rfl hg40 rfl ?_
    exact ⟨⟨_,_,_,_,_,_,_,_,_,_,_,_,_,_,_,_,_,_,rfl⟩⟩
   rintro _ ⟨_,_,_,_,_,_,_,_,_,_,_,_,_,_,_,_,_,_,rfl⟩
   cases h
   refine Z rfl hg41 rfl ?_
   exact ⟨⟨_,_,_,_,_,_,_,_,_,_,_,_,_,_,_,_,_,_,_,_,_,_,_,_,_,_,rfl⟩⟩
  ·replace h:=O hg41 hx41
   cases h
   refine H rfl hg41<|H rfl hg41<|H rfl hg41<|H rfl hg41<|H rfl hg41<|H rfl hg41<|H rfl hg41<|d3 rfl<|d3 rfl<|d3 rfl<|d3 rfl<|d3 rfl<|d3 rfl<|d3 rfl<|d3 rfl<|d3 rfl<|d3 rfl<|d3 rfl<|d3 rfl<|d3 rfl<|d3 rfl<|d3 rfl<|d3 rfl<|d3 rfl<|d3 rfl<|H rfl hg41<|a0 rfl hg41 rfl ?_
   exact ⟨⟨_,_,_,_,_,_,_,_,_,_,_,_,_,_,_,_,_,_,_,_,_,_,_,_,_,_,rfl⟩⟩
  rintro _ ⟨_,_,_,_,_,_,_,_,_,_,_,_,_,_,_,_,_,_,_,_,_,_,_,_,_,_,rfl⟩
  refine E (kt<|kt<|kt<|kt<|kt<|kn) fun _=>?_
  refine U rfl (fun hc41=>?_) (fun hc41=>?_)
  ·replace h:=M hc41 h
   refine P (kt<|kt<|kt<|kt<|kn) fun _=>?_
   refine a8<|F<|C rfl<|a5 rfl rfl<|C rfl<|E (kt<|kt<|kt<|kt<|kn) ?_
   cases h
   refine ⟨_,rfl,?_⟩
   rw [Ktv rfl (Ktv rfl (Ktv rfl (Ktv rfl (Knil _))))]
   all_goals rfl
  ·replace h:=O hc41 h
   refine b0 (kt<|kn) ?_
   refine ⟨rfl,?_⟩
   cases h
   exact ⟨_,rfl,rfl⟩
 ·intro s0 hs
  replace h:=d1 h hs
  intro _
  refine D<|F<|C rfl<|C rfl<|E (kt<|kn) fun _=>?_
  exact L (by cases h;rfl)
 ·intro v0 ze hv hR
  replace h:=d2 h hv
  cases h
  exact hR
theorem ck217:CK f217 (Rq [Ad 4 0] [0,1]<|Sq (Rq [Ad 5 1] [0,1,5]<|Bl 0<|Lo [0,1,5]<|Sq (Rq [Aa 7 1,Aa 8 5,Bn 9 7 8,Aa 10 0,Ci 11 10,Ap 12 9 11] [0,1,5,12]<|Co 12 (Sk [0,1,5])<|Ex 0 [])<|Sq (Bl 1<|Rq [Aa 15 0,Aa 16 1,Aa 17 5,Bn 18 16 17,⟨some 19,.sidx (.s 15) (.s 18),none⟩,Aa 6 19] [0,1,5,6]<|Sq (Rq [Aa 20 6,Ei 21 20 34] [0,1,5,6,21]<|Co 21 (Rq [Aa 22 5,Ao 23 22 1,Aa 4 23] [4]<|.ret)<|Sk [0,1,5,6])<|Rq [Aa 24 6,⟨some 25,.bin (.i) .lss (.s 24) (.c (.int .u8 32)),none⟩,Aa 26 25,Az 27 6 26,⟨some 28,.bin (.i) .gtr (.s 27) (.c (.int .u8 126)),some (26,false)⟩,Ar 29 26 28] [0,1,5,29]<|Co 29 (Rq [Ad 4 0] [4]<|.ret)<|Sk [0,1,5])<|Re [Aa 13 5,Ao 14 13 1,Aa 5 14] [0,1,5])<|Rq [Ad 4 0] [4]<|.ret) [.tmp 4]:= by decide +kernel
theorem c217 (s_0:ByteArray) (at':Int) (r:Int) (h:ref01_quoted s_0 at'=some r):Sound prog 217 [eS s_0,eI at'] (.sh (eI r)):= by
 refine Fn ck217 fun hw=>?_
 unfold ref01_quoted at h
 refine D<|F<|C rfl<|E (kt<|kt<|kn) fun _=>?_
 refine D<|D<|F<|C rfl<|E (kt<|kt<|kt<|kn) fun _=>?_
 obtain ⟨o0,ho0,h⟩:=d0 h
 refine g8 ho0 (fun (s0:Int)=>[(0,.tv (eS s_0)),(1,.tv (eI at')),(5,.tv (eI s0))]) (fun (s0:Int)=>[]) (fun zv ze=>resIs ([.tmp 4]) (.sh (eI zv)) ze) rfl ?_ ?_ ?_
 ·clear h ho0
  intro s0 r0 h hw0
  refine D<|D<|F<|C rfl<|C rfl<|a5 rfl rfl<|C rfl<|g3 rfl<|X rfl rfl<|E (kt<|kt<|kt<|kt<|kn) fun _=>?_
  refine U rfl (fun hc12=>?_) (fun hc12=>?_)
  ·replace h:=M hc12 h
   refine P (kt<|kt<|kt<|kn) fun _=>?_
   refine D<|a8<|D<|F<|C rfl<|C rfl<|C rfl<|a5 rfl rfl ?_
   obtain ⟨x19,hx19,h⟩:=J h
   refine l2 rfl rfl hx19<|C rfl<|E (kt<|kt<|kt<|kt<|kn) fun _=>?_
   refine D<|D<|F<|C rfl<|b8 rfl rfl<|E (kt<|kt<|kt<|kt<|kt<|kn) fun _=>?_
   refine U rfl (fun hc21=>?_) (fun hc21=>?_)
   ·replace h:=M hc21 h
    refine D<|F<|C rfl<|a5 rfl rfl<|C rfl<|E (kt<|kn) fun _=>?_
    refine L ?_
    cases h
    exact ⟨_,rfl,rfl⟩
   ·replace h:=O hc21 h
    refine P (kt<|kt<|kt<|kt<|kn) fun _=>?_
    refine D<|F<|C rfl<|X rfl rfl<|C rfl ?_
    refine gO 3 [27,28] 29 (decide (x19<32)) (decide (126<x19)) (fun hg29=>?_) (fun hg29=>?_) ?_
    ·refine H rfl hg29<|H rfl hg29<|Z rfl hg29 rfl ?_
     exact ⟨⟨_,_,rfl⟩⟩
    ·refine G rfl hg29<|C rfl<|G rfl hg29<|e3 rfl rfl<|a0 rfl hg29 rfl ?_
     exact ⟨⟨_,_,rfl⟩⟩
    rintro _ ⟨_,_,rfl⟩
    refine E (kt<|kt<|kt<|kt<|kn) fun _=>?_
    refine U rfl (fun hc29=>?_) (fun hc29=>?_)
    ·replace h:=M hc29 h
     refine D<|F<|C rfl<|E (kt<|kn) fun _=>?_
     refine L ?_
     cases h
     exact ⟨_,rfl,rfl⟩
    ·replace h:=O hc29 h
     refine P (kt<|kt<|kt<|kn) fun _=>?_
     refine F<|C rfl<|a5 rfl rfl<|C rfl<|E (kt<|kt<|kt<|kn) ?_
     cases h
     refine ⟨_,rfl,?_⟩
     rw [Ktv rfl (Ktv rfl (Ktv rfl (Knil _)))]
     all_goals rfl
  ·replace h:=O hc12 h
   refine b0 (kn) ?_
   refine ⟨rfl,?_⟩
   cases h
   exact ⟨_,rfl,rfl⟩
 ·intro s0 hs
  replace h:=d1 h hs
  intro _
  refine D<|F<|C rfl<|E (kt<|kn) fun _=>?_
  exact L (by cases h;rfl)
 ·intro v0 ze hv hR
  replace h:=d2 h hv
  cases h
  exact hR
end Go.Sf.Sc
