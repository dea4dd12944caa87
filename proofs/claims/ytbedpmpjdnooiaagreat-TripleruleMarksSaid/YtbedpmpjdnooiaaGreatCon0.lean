/- Contracts of the functions. -/
import Derived.Test.YtbedpmpjdnooiaaGreatFns
import Derived.Test.YtbedpmpjdnooiaaGreatShort
import Derived.Test.YtbedpmpjdnooiaaGreatTryzShelf
set_option maxRecDepth 100000
namespace Go.Sf.Sc
open Go Go.Sf Go.Proofs.Tryz
theorem ck105:CK f105 (Rq [Ad 4 0] [0,1]<|Sq (Rq [Aa 6 0,Ah 7 6,Ad 8 0] [0,1,7,8]<|Bl 0<|Lo [0,1,7,8]<|Rq [Ap 9 8 7] [0,1,7,8,9]<|Sq (Co 9 (Sk [0,1,7,8])<|Ex 0 [])<|Sq (Bl 1<|Rq [Aa 10 8,Aa 5 10] [0,1,5,7,8]<|Rq [Aa 11 1,Aa 12 0,Aa 13 5,Ag 14 12 13 4,Ae 15 14 4,Bw 16 11 15] [0,1,5,7,8,16]<|Co 16 (Rq [Aa 17 5,Aa 4 17] [4]<|.ret)<|Sk [0,1,7,8])<|Re [An 18 8 1,Aa 8 18] [0,1,7,8])<|Rq [Cd 4 (-1)] [4]<|.ret) [.tmp 4]:= by decide +kernel
theorem c105 (s_0:List NodeType) (f:NodeType->Option Bool) (f_f:FuncId) (k_f:List TV) (h_f:∀ (y0:NodeType) r,f y0=some r->Sound prog f_f ([eNodeType y0]++k_f) (.sh (eB r))) (r:Int) (h:slices_IndexFunc_NodeType s_0 f=some r):Sound prog 105 [lN s_0,.clo f_f k_f] (.sh (eI r)):= by
 refine Fn ck105 fun hw=>?_
 unfold slices_IndexFunc_NodeType at h
 refine D<|F<|C rfl<|E (kt<|kt<|kn) fun _=>?_
 refine D<|D<|F<|C rfl<|U rfl rfl<|C rfl<|E (kt<|kt<|kt<|kt<|kn) fun _=>?_
 obtain ⟨o0,ho0,h⟩:=d2 h
 refine d6 ho0 (fun (i0:Int) (_:Unit)=>[(0,.tv (lN s_0)),(1,.tv (.clo f_f k_f)),(7,.tv (eI (s_0.length:Int))),(8,.tv (eI i0))]) (fun (_:Unit)=>[]) (fun zv ze=>resIs ([.tmp 4]) (.sh (eI zv)) ze) rfl ?_ ?_ ?_ ?_
 ·clear h ho0
  intro i0 s0 r0 hi0 h hw0
  refine D<|F<|V rfl rfl<|E (kt<|kt<|kt<|kt<|kt<|kn) fun _=>?_
  refine D<|b5 rfl (b6 hi0)<|P (kt<|kt<|kt<|kt<|kn) fun _=>?_
  refine D<|b0<|D<|F<|C rfl<|C rfl<|E (kt<|kt<|kt<|kt<|kt<|kn) fun _=>?_
  refine D<|F<|C rfl<|C rfl<|C rfl ?_
  obtain ⟨x14,hx14,h⟩:=I h
  refine W rfl rfl rfl hx14 rfl<|R rfl rfl (show _=eNodeType x14 from rfl) ?_
  obtain ⟨x16,hx16,h⟩:=I h
  refine g3 rfl rfl (h_f _ _ hx16)<|E (kt<|kt<|kt<|kt<|kt<|kt<|kn) fun _=>?_
  refine S rfl (fun hc16=>?_) (fun hc16=>?_)
  ·replace h:=M hc16 h
   refine D<|F<|C rfl<|C rfl<|E (kt<|kn) fun _=>?_
   refine L ?_
   cases h
   exact ⟨_,rfl,rfl⟩
  ·replace h:=O hc16 h
   refine P (kt<|kt<|kt<|kt<|kn) fun _=>?_
   refine F<|a7 rfl rfl<|C rfl<|E (kt<|kt<|kt<|kt<|kn) ?_
   cases h
   refine ⟨_,rfl,?_⟩
   rw [Ktv rfl (Ktv rfl (Ktv rfl (Ktv rfl (Knil _))))]
   rw [b4 (a5 (hw0 8)) hi0 (e0 (a5 (hw0 7)))]
   all_goals rfl
 ·intro i0 s0 hi0
  refine D<|F<|V rfl rfl<|E (kt<|kt<|kt<|kt<|kt<|kn) fun _=>?_
  refine D<|b7 rfl (b8 hi0)<|b3 (kn) ?_
  exact ⟨rfl,rfl⟩
 ·intro s0 hs
  replace h:=d3 h hs
  intro _
  refine D<|F<|C rfl<|E (kt<|kn) fun _=>?_
  exact L (by cases h;rfl)
 ·intro v0 ze hv hR
  replace h:=d4 h hv
  cases h
  exact hR
theorem ck54:CK f54 (Rq [Ak 4] [0,1]<|Rq [Aa 5 0,Aa 6 1,Al 7 105 5 6,Bo 8 7 0,Aa 4 8] [4]<|.ret) [.tmp 4]:= by decide +kernel
theorem c54 (s_0:List NodeType) (f:NodeType->Option Bool) (f_f:FuncId) (k_f:List TV) (h_f:∀ (y0:NodeType) r,f y0=some r->Sound prog f_f ([eNodeType y0]++k_f) (.sh (eB r))) (r:Bool) (h:slices_ContainsFunc_NodeType s_0 f=some r):Sound prog 54 [lN s_0,.clo f_f k_f] (.sh (eB r)):= by
 refine Fn ck54 fun hw=>?_
 unfold slices_ContainsFunc_NodeType at h
 refine D<|F<|C rfl<|E (kt<|kt<|kn) fun _=>?_
 refine D<|F<|C rfl<|C rfl ?_
 obtain ⟨x7,hx7,h⟩:=I h
 refine T rfl (c105 s_0 f _ _ h_f _ hx7)<|d5 rfl rfl<|C rfl<|E (kt<|kn) fun _=>?_
 exact L (by cases h;rfl)
theorem ck228:CK f228 (Rq [Ak 2] [0]<|Rq [Aa 3 0,Dk 4 3 97,Aa 5 4,Aq 6 0 5,Cz 7 6 122 5,At 8 5 7,Aa 9 8,Aw 10 0 9,Ez 11 10 65 9,Aw 12 11 9,Aq 13 0 12,Cz 14 13 90 12,Dl 15 12 14 9,As 16 9 15,Aa 2 16] [2]<|.ret) [.tmp 2]:= by decide +kernel
theorem c228 (c:Int) (r:Bool) (h:token_letter c=some r):Sound prog 228 [eU8 c] (.sh (eB r)):= by
 refine Fn ck228 fun hw=>?_
 unfold token_letter at h
 refine D<|F<|C rfl<|E (kt<|kn) fun _=>?_
 refine D<|F<|C rfl<|d5 rfl rfl<|C rfl ?_
 refine gA 3 [6,7] 8 (decide (97<=c)) (decide (c<=122)) (fun hg8=>?_) (fun hg8=>?_) ?_
 ·refine G rfl hg8<|C rfl<|G rfl hg8<|f4 rfl rfl<|Y rfl hg8 rfl ?_
  exact ⟨⟨_,_,rfl⟩⟩
 ·refine H rfl hg8<|H rfl hg8<|Z rfl hg8 rfl ?_
  exact ⟨⟨_,_,rfl⟩⟩
 rintro _ ⟨_,_,rfl⟩
 refine C rfl ?_
 refine gO 7 [10,11,12,13,14,15] 16 ((decide (97<=c))&&(decide (c<=122))) ((decide (65<=c))&&(decide (c<=90))) (fun hg16=>?_) (fun hg16=>?_) ?_
 ·refine H rfl hg16<|H rfl hg16<|H rfl hg16<|d7 rfl<|d7 rfl<|H rfl hg16<|Y rfl hg16 rfl ?_
  exact ⟨⟨_,_,_,_,_,_,rfl⟩⟩
 ·refine G rfl hg16<|C rfl<|G rfl hg16<|d5 rfl rfl<|G rfl hg16<|C rfl ?_
  refine gA 3 [13,14] 15 (decide (65<=c)) (decide (c<=90)) (fun hg15=>?_) (fun hg15=>?_) ?_
  ·refine G rfl hg15<|C rfl<|G rfl hg15<|f4 rfl rfl<|G rfl hg16<|Y rfl hg15 rfl ?_
   exact ⟨⟨_,_,rfl⟩⟩
  ·refine H rfl hg15<|H rfl hg15<|G rfl hg16<|Z rfl hg15 rfl ?_
   exact ⟨⟨_,_,rfl⟩⟩
  rintro _ ⟨_,_,rfl⟩
  refine Z rfl hg16 rfl ?_
  exact ⟨⟨_,_,_,_,_,_,rfl⟩⟩
 rintro _ ⟨_,_,_,_,_,_,rfl⟩
 refine C rfl<|E (kt<|kn) fun _=>?_
 exact L (by cases h;rfl)
theorem ck229:CK f229 (Rq [Ad 4 0] [0,1]<|Rq [Ad 5 0] [0,1,5]<|Sq (Bl 0<|Lo [0,1,5]<|Sq (Rq [Aa 6 5,Aa 7 0,Ct 8 7,Ap 9 6 8,Aa 10 9,Aq 11 1 10,Aq 12 0 10,Aq 13 5 10,Ek 14 12 13 10,⟨some 15,.callv (.s 11) [.s 14],some (10,true)⟩,At 16 10 15] [0,1,5,16]<|Co 16 (Sk [0,1,5])<|Ex 0 [5])<|Bl 1<|Re [Aa 17 5,An 18 17 1,Aa 5 18] [0,1,5])<|Rq [Aa 19 5,Aa 4 19] [4]<|.ret) [.tmp 4]:= by decide +kernel
theorem c229 (s_0:ByteArray) (ok:Int->Option Bool) (f_ok:FuncId) (k_ok:List TV) (h_ok:∀ (y0:Int) r,ok y0=some r->Sound prog f_ok ([eU8 y0]++k_ok) (.sh (eB r))) (r:Int) (h:token_run s_0 ok=some r):Sound prog 229 [eS s_0,.clo f_ok k_ok] (.sh (eI r)):= by
 refine Fn ck229 fun hw=>?_
 unfold token_run at h
 refine D<|F<|C rfl<|E (kt<|kt<|kn) fun _=>?_
 refine D<|F<|C rfl<|E (kt<|kt<|kt<|kn) fun _=>?_
 refine D ?_
 obtain ⟨o0,ho0,h⟩:=d2 h
 refine g9 ho0 (fun (s0:Int)=>[(0,.tv (eS s_0)),(1,.tv (.clo f_ok k_ok)),(5,.tv (eI s0))]) (fun (s0:Int)=>[(5,.tv (eI s0))]) (fun zv ze=>resIs ([.tmp 4]) (.sh (eI zv)) ze) rfl ?_ ?_ ?_
 ·clear h ho0
  intro s0 r0 h hw0
  refine D<|D<|F<|C rfl<|C rfl<|g7 rfl<|V rfl rfl<|C rfl ?_
  obtain ⟨x16,hx16,h⟩:=I h
  refine gX 6 [11,12,13,14,15] 16 x16 (decide (s0<(s_0.size:Int))) (fun hg16=>?_) (fun hg16=>?_) ?_
  ·replace h:=M hg16 hx16
   refine G rfl hg16<|C rfl<|G rfl hg16<|C rfl<|G rfl hg16<|C rfl ?_
   obtain ⟨x14,hx14,h⟩:=I h
   refine G rfl hg16<|l6 rfl rfl hx14 ?_
   obtain ⟨x15,hx15,h⟩:=I h
   refine G rfl hg16<|g3 rfl rfl (h_ok _ _ hx15) ?_
   cases h
   refine Y rfl hg16 rfl ?_
   exact ⟨⟨_,_,_,_,_,rfl⟩⟩
  ·replace h:=O hg16 hx16
   cases h
   refine H rfl hg16<|H rfl hg16<|H rfl hg16<|H rfl hg16<|H rfl hg16<|Z rfl hg16 rfl ?_
   exact ⟨⟨_,_,_,_,_,rfl⟩⟩
  rintro _ ⟨_,_,_,_,_,rfl⟩
  refine E (kt<|kt<|kt<|kt<|kn) fun _=>?_
  refine S rfl (fun hc16=>?_) (fun hc16=>?_)
  ·replace h:=M hc16 h
   refine P (kt<|kt<|kt<|kn) fun _=>?_
   refine b0<|F<|C rfl<|a7 rfl rfl<|C rfl<|E (kt<|kt<|kt<|kn) ?_
   cases h
   refine ⟨_,rfl,?_⟩
   rw [Ktv rfl (Ktv rfl (Ktv rfl (Knil _)))]
   all_goals rfl
  ·replace h:=O hc16 h
   refine b3 (kt<|kn) ?_
   refine ⟨rfl,?_⟩
   cases h
   exact ⟨_,rfl,rfl⟩
 ·intro s0 hs
  replace h:=d3 h hs
  intro _
  refine D<|F<|C rfl<|C rfl<|E (kt<|kn) fun _=>?_
  exact L (by cases h;rfl)
 ·intro v0 ze hv hR
  replace h:=d4 h hv
  cases h
  exact hR
theorem ck231:CK f231 (Rq [Ak 2] [0]<|Rq [Aa 3 0,Dk 4 3 48,Aa 5 4,Aq 6 0 5,Cz 7 6 57 5,At 8 5 7,Aa 2 8] [2]<|.ret) [.tmp 2]:= by decide +kernel
theorem c231 (c:Int) (r:Bool) (h:token_digit c=some r):Sound prog 231 [eU8 c] (.sh (eB r)):= by
 refine Fn ck231 fun hw=>?_
 unfold token_digit at h
 refine D<|F<|C rfl<|E (kt<|kn) fun _=>?_
 refine D<|F<|C rfl<|d5 rfl rfl<|C rfl ?_
 refine gA 3 [6,7] 8 (decide (48<=c)) (decide (c<=57)) (fun hg8=>?_) (fun hg8=>?_) ?_
 ·refine G rfl hg8<|C rfl<|G rfl hg8<|f4 rfl rfl<|Y rfl hg8 rfl ?_
  exact ⟨⟨_,_,rfl⟩⟩
 ·refine H rfl hg8<|H rfl hg8<|Z rfl hg8 rfl ?_
  exact ⟨⟨_,_,rfl⟩⟩
 rintro _ ⟨_,_,rfl⟩
 refine C rfl<|E (kt<|kn) fun _=>?_
 exact L (by cases h;rfl)
theorem ck230:CK f230 (Rq [Ak 2] [0]<|Rq [Aa 3 0,Au 4 228 3,Aa 5 4,Aw 6 0 5,Dm 7 231 6 5,As 8 5 7,Aa 9 8,Aw 10 0 9,Fa 11 10 95 9,As 12 9 11,Aa 2 12] [2]<|.ret) [.tmp 2]:= by decide +kernel
theorem c230 (c:Int) (r:Bool) (h:token_part c=some r):Sound prog 230 [eU8 c] (.sh (eB r)):= by
 refine Fn ck230 fun hw=>?_
 unfold token_part at h
 refine D<|F<|C rfl<|E (kt<|kn) fun _=>?_
 refine D<|F<|C rfl ?_
 obtain ⟨x4,hx4,h⟩:=I h
 refine T rfl (c228 c _ hx4)<|C rfl ?_
 obtain ⟨x8,hx8,h⟩:=I h
 refine gX 3 [6,7] 8 x8 x4 (fun hg8=>?_) (fun hg8=>?_) ?_
 ·replace h:=M hg8 hx8
  cases h
  refine H rfl hg8<|H rfl hg8<|Y rfl hg8 rfl ?_
  exact ⟨⟨_,_,rfl⟩⟩
 ·replace h:=O hg8 hx8
  refine G rfl hg8<|C rfl ?_
  obtain ⟨x7,hx7,h⟩:=I h
  refine G rfl hg8<|T rfl (c231 c _ hx7) ?_
  cases h
  refine Z rfl hg8 rfl ?_
  exact ⟨⟨_,_,rfl⟩⟩
 rintro _ ⟨_,_,rfl⟩
 refine C rfl ?_
 refine gO 3 [10,11] 12 x8 (decide (c=95)) (fun hg12=>?_) (fun hg12=>?_) ?_
 ·refine H rfl hg12<|H rfl hg12<|Y rfl hg12 rfl ?_
  exact ⟨⟨_,_,rfl⟩⟩
 ·refine G rfl hg12<|C rfl<|G rfl hg12<|d1 rfl rfl<|Z rfl hg12 rfl ?_
  exact ⟨⟨_,_,rfl⟩⟩
 rintro _ ⟨_,_,rfl⟩
 refine C rfl<|E (kt<|kn) fun _=>?_
 exact L (by cases h;rfl)
theorem ck250:CK f250 (Rq [Ak 2] [0]<|Rq [Aa 3 0,Dk 4 3 32,Aa 5 4,Aq 6 0 5,Cz 7 6 126 5,At 8 5 7,Aa 9 8,Aq 10 0 9,⟨some 11,.bin (.i) .neq (.s 10) (.c (.int .u8 34)),some (9,true)⟩,At 12 9 11,Aa 2 12] [2]<|.ret) [.tmp 2]:= by decide +kernel
theorem c250 (c:Int) (r:Bool) (h:token_quoted_1 c=some r):Sound prog 250 [eU8 c] (.sh (eB r)):= by
 refine Fn ck250 fun hw=>?_
 unfold token_quoted_1 at h
 refine D<|F<|C rfl<|E (kt<|kn) fun _=>?_
 refine D<|F<|C rfl<|d5 rfl rfl<|C rfl ?_
 refine gA 3 [6,7] 8 (decide (32<=c)) (decide (c<=126)) (fun hg8=>?_) (fun hg8=>?_) ?_
 ·refine G rfl hg8<|C rfl<|G rfl hg8<|f4 rfl rfl<|Y rfl hg8 rfl ?_
  exact ⟨⟨_,_,rfl⟩⟩
 ·refine H rfl hg8<|H rfl hg8<|Z rfl hg8 rfl ?_
  exact ⟨⟨_,_,rfl⟩⟩
 rintro _ ⟨_,_,rfl⟩
 refine C rfl ?_
 refine gA 3 [10,11] 12 ((decide (32<=c))&&(decide (c<=126))) (!decide (c=34)) (fun hg12=>?_) (fun hg12=>?_) ?_
 ·refine G rfl hg12<|C rfl<|G rfl hg12<|a9 rfl rfl<|Y rfl hg12 rfl ?_
  exact ⟨⟨_,_,rfl⟩⟩
 ·refine H rfl hg12<|H rfl hg12<|Z rfl hg12 rfl ?_
  exact ⟨⟨_,_,rfl⟩⟩
 rintro _ ⟨_,_,rfl⟩
 refine C rfl<|E (kt<|kn) fun _=>?_
 exact L (by cases h;rfl)
theorem ck232:CK f232 (Rq [Ad 2 0,Ad 3 0] [0]<|Rq [Aa 5 0,⟨some 6,.sslc (.s 5) (some (.c (.int .i64 1))) none,none⟩,Du 7 229 6 250,Aa 4 7] [0,4]<|Sq (Rq [Aa 8 4,⟨some 9,.bin (.i) .add (.c (.int .i64 1)) (.s 8),none⟩,Aa 10 0,Ct 11 10,Bt 12 9 11,Aa 13 12,Aw 14 0 13,Aw 15 4 13,⟨some 16,.bin (.i) .add (.c (.int .i64 1)) (.s 15),some (13,false)⟩,⟨some 17,.sidx (.s 14) (.s 16),some (13,false)⟩,⟨some 18,.bin (.i) .neq (.s 17) (.c (.int .u8 34)),some (13,false)⟩,As 19 13 18] [4,19]<|Co 19 (Rq [Ad 2 0,Ad 3 2] [2,3]<|.ret)<|Sk [4])<|Sq (Rq [Aa 20 4,Bk 21 20 60] [4,21]<|Co 21 (Rq [Ad 2 0,Ad 3 3] [2,3]<|.ret)<|Sk [4])<|Rq [Aa 22 4,An 23 22 2,Aa 2 23,Ad 3 0] [2,3]<|.ret) [.tmp 2,.tmp 3]:= by decide +kernel
theorem c232 (s_0:ByteArray) (r:(Int × Int)) (h:token_quoted s_0=some r):Sound prog 232 [eS s_0] (.tp [eI r.1,eI r.2]):= by
 refine Fn ck232 fun hw=>?_
 unfold token_quoted at h
 refine D<|F<|C rfl<|C rfl<|E (kt<|kn) fun _=>?_
 refine D<|F<|C rfl ?_
 obtain ⟨x6,hx6,h⟩:=I h
 refine l9 rfl rfl rfl hx6 ?_
 obtain ⟨x7,hx7,h⟩:=I h
 refine T rfl (c229 x6 token_quoted_1 _ _ (fun y0 r h=>c250 y0 r h) _ hx7)<|C rfl<|E (kt<|kt<|kn) fun _=>?_
 refine D<|D<|F<|C rfl<|a7 rfl rfl<|C rfl<|g7 rfl<|d1 rfl rfl<|C rfl ?_
 obtain ⟨x19,hx19,h⟩:=I h
 refine gX 6 [14,15,16,17,18] 19 x19 (decide ((w64 (1+x7))=(s_0.size:Int))) (fun hg19=>?_) (fun hg19=>?_) ?_
 ·replace h:=M hg19 hx19
  cases h
  refine H rfl hg19<|H rfl hg19<|H rfl hg19<|H rfl hg19<|H rfl hg19<|Y rfl hg19 rfl ?_
  exact ⟨⟨_,_,_,_,_,rfl⟩⟩
 ·replace h:=O hg19 hx19
  refine G rfl hg19<|C rfl<|G rfl hg19<|C rfl<|G rfl hg19<|a7 rfl rfl ?_
  obtain ⟨x17,hx17,h⟩:=I h
  refine G rfl hg19<|l6 rfl rfl hx17<|G rfl hg19<|a9 rfl rfl ?_
  cases h
  refine Z rfl hg19 rfl ?_
  exact ⟨⟨_,_,_,_,_,rfl⟩⟩
 rintro _ ⟨_,_,_,_,_,rfl⟩
 refine E (kt<|kt<|kn) fun _=>?_
 refine S rfl (fun hc19=>?_) (fun hc19=>?_)
 ·replace h:=M hc19 h
  refine D<|F<|C rfl<|C rfl<|E (kt<|kt<|kn) fun _=>?_
  refine L ?_
  cases h
  exact ⟨by decide,rfl⟩
 ·replace h:=O hc19 h
  refine P (kt<|kn) fun _=>?_
  refine D<|D<|F<|C rfl<|e4 rfl rfl<|E (kt<|kt<|kn) fun _=>?_
  refine S rfl (fun hc21=>?_) (fun hc21=>?_)
  ·replace h:=M hc21 h
   refine D<|F<|C rfl<|C rfl<|E (kt<|kt<|kn) fun _=>?_
   refine L ?_
   cases h
   exact ⟨by decide,rfl⟩
  ·replace h:=O hc21 h
   refine P (kt<|kn) fun _=>?_
   refine D<|F<|C rfl<|a7 rfl rfl<|C rfl<|C rfl<|E (kt<|kt<|kn) fun _=>?_
   refine L ?_
   cases h
   exact ⟨by decide,rfl⟩
theorem ck258:CK f258 (Rq [Ad 4 0] [0,1]<|Sq (Rq [Aa 6 0,Ah 7 6,Ad 8 0] [0,1,7,8]<|Bl 0<|Lo [0,1,7,8]<|Rq [Ap 9 8 7] [0,1,7,8,9]<|Sq (Co 9 (Sk [0,1,7,8])<|Ex 0 [])<|Sq (Bl 1<|Rq [Aa 10 8,Aa 5 10] [0,1,5,7,8]<|Rq [Aa 11 1,Aa 12 0,Aa 13 5,Ag 14 12 13 1,Ab 15 14,Cu 16 11 15] [0,1,5,7,8,16]<|Co 16 (Rq [Aa 17 5,Aa 4 17] [4]<|.ret)<|Sk [0,1,7,8])<|Re [An 18 8 1,Aa 8 18] [0,1,7,8])<|Rq [Cd 4 (-1)] [4]<|.ret) [.tmp 4]:= by decide +kernel
theorem c258 (s_0:List ByteArray) (v_1:ByteArray) (r:Int) (h:slices_Index_string s_0 v_1=some r):Sound prog 258 [lB s_0,eS v_1] (.sh (eI r)):= by
 refine Fn ck258 fun hw=>?_
 unfold slices_Index_string at h
 refine D<|F<|C rfl<|E (kt<|kt<|kn) fun _=>?_
 refine D<|D<|F<|C rfl<|U rfl rfl<|C rfl<|E (kt<|kt<|kt<|kt<|kn) fun _=>?_
 obtain ⟨o0,ho0,h⟩:=d2 h
 refine d6 ho0 (fun (i0:Int) (_:Unit)=>[(0,.tv (lB s_0)),(1,.tv (eS v_1)),(7,.tv (eI (s_0.length:Int))),(8,.tv (eI i0))]) (fun (_:Unit)=>[]) (fun zv ze=>resIs ([.tmp 4]) (.sh (eI zv)) ze) rfl ?_ ?_ ?_ ?_
 ·clear h ho0
  intro i0 s0 r0 hi0 h hw0
  refine D<|F<|V rfl rfl<|E (kt<|kt<|kt<|kt<|kt<|kn) fun _=>?_
  refine D<|b5 rfl (b6 hi0)<|P (kt<|kt<|kt<|kt<|kn) fun _=>?_
  refine D<|b0<|D<|F<|C rfl<|C rfl<|E (kt<|kt<|kt<|kt<|kt<|kn) fun _=>?_
  refine D<|F<|C rfl<|C rfl<|C rfl ?_
  obtain ⟨x14,hx14,h⟩:=I h
  refine W rfl rfl rfl hx14 rfl<|J rfl<|g8 rfl rfl<|E (kt<|kt<|kt<|kt<|kt<|kt<|kn) fun _=>?_
  refine S rfl (fun hc16=>?_) (fun hc16=>?_)
  ·replace h:=M hc16 h
   refine D<|F<|C rfl<|C rfl<|E (kt<|kn) fun _=>?_
   refine L ?_
   cases h
   exact ⟨_,rfl,rfl⟩
  ·replace h:=O hc16 h
   refine P (kt<|kt<|kt<|kt<|kn) fun _=>?_
   refine F<|a7 rfl rfl<|C rfl<|E (kt<|kt<|kt<|kt<|kn) ?_
   cases h
   refine ⟨_,rfl,?_⟩
   rw [Ktv rfl (Ktv rfl (Ktv rfl (Ktv rfl (Knil _))))]
   rw [b4 (a5 (hw0 8)) hi0 (e0 (a5 (hw0 7)))]
   all_goals rfl
 ·intro i0 s0 hi0
  refine D<|F<|V rfl rfl<|E (kt<|kt<|kt<|kt<|kt<|kn) fun _=>?_
  refine D<|b7 rfl (b8 hi0)<|b3 (kn) ?_
  exact ⟨rfl,rfl⟩
 ·intro s0 hs
  replace h:=d3 h hs
  intro _
  refine D<|F<|C rfl<|E (kt<|kn) fun _=>?_
  exact L (by cases h;rfl)
 ·intro v0 ze hv hR
  replace h:=d4 h hv
  cases h
  exact hR
theorem ck249:CK f249 (Rq [Ak 4] [0,1]<|Rq [Aa 5 0,Aa 6 1,Al 7 258 5 6,Bo 8 7 0,Aa 4 8] [4]<|.ret) [.tmp 4]:= by decide +kernel
theorem c249 (s_0:List ByteArray) (v_1:ByteArray) (r:Bool) (h:slices_Contains_string s_0 v_1=some r):Sound prog 249 [lB s_0,eS v_1] (.sh (eB r)):= by
 refine Fn ck249 fun hw=>?_
 unfold slices_Contains_string at h
 refine D<|F<|C rfl<|E (kt<|kt<|kn) fun _=>?_
 refine D<|F<|C rfl<|C rfl ?_
 obtain ⟨x7,hx7,h⟩:=I h
 refine T rfl (c258 s_0 v_1 _ hx7)<|d5 rfl rfl<|C rfl<|E (kt<|kn) fun _=>?_
 exact L (by cases h;rfl)
theorem ck233:CK f233 (Rq [Ak 2] [0]<|Rq [Aa 3 0,Ct 4 3,Bo 5 4 2,Aa 6 5,⟨some 7,.lst 1 [.c (.str ⟨#[45,62]⟩),.c (.str ⟨#[60,61]⟩),.c (.str ⟨#[62,61]⟩),.c (.str ⟨#[61,61]⟩),.c (.str ⟨#[33,61]⟩)],some (6,true)⟩,Aq 8 0 6,⟨some 9,.sslc (.s 8) none (some (.c (.int .i64 2))),some (6,true)⟩,Ch 10 249 7 9 6,At 11 6 10,Aa 2 11] [2]<|.ret) [.tmp 2]:= by decide +kernel
theorem c233 (s_0:ByteArray) (r:Bool) (h:token_pair s_0=some r):Sound prog 233 [eS s_0] (.sh (eB r)):= by
 refine Fn ck233 fun hw=>?_
 unfold token_pair at h
 refine D<|F<|C rfl<|E (kt<|kn) fun _=>?_
 refine D<|F<|C rfl<|g7 rfl<|d5 rfl rfl<|C rfl ?_
 obtain ⟨x11,hx11,h⟩:=I h
 refine gX 5 [7,8,9,10] 11 x11 (decide (2<=(s_0.size:Int))) (fun hg11=>?_) (fun hg11=>?_) ?_
 ·replace h:=M hg11 hx11
  refine G rfl hg11<|e1 (e:=eS) (l:=[(⟨#[45,62]⟩:ByteArray),(⟨#[60,61]⟩:ByteArray),(⟨#[62,61]⟩:ByteArray),(⟨#[61,61]⟩:ByteArray),(⟨#[33,61]⟩:ByteArray)]) rfl rfl (fun _=>rfl)<|G rfl hg11<|C rfl ?_
  obtain ⟨x9,hx9,h⟩:=I h
  refine G rfl hg11<|l9 rfl rfl rfl hx9 ?_
  obtain ⟨x10,hx10,h⟩:=I h
  refine G rfl hg11<|T rfl (c249 [(⟨#[45,62]⟩:ByteArray),(⟨#[60,61]⟩:ByteArray),(⟨#[62,61]⟩:ByteArray),(⟨#[61,61]⟩:ByteArray),(⟨#[33,61]⟩:ByteArray)] x9 _ hx10) ?_
  cases h
  refine Y rfl hg11 rfl ?_
  exact ⟨⟨_,_,_,_,rfl⟩⟩
 ·replace h:=O hg11 hx11
  cases h
  refine H rfl hg11<|H rfl hg11<|H rfl hg11<|H rfl hg11<|Z rfl hg11 rfl ?_
  exact ⟨⟨_,_,_,_,rfl⟩⟩
 rintro _ ⟨_,_,_,_,rfl⟩
 refine C rfl<|E (kt<|kn) fun _=>?_
 exact L (by cases h;rfl)
theorem c234 (s:ByteArray) (c:Int) (r:Int) (h:strings_IndexByte s c=some r):Sound prog 234 [eS s,eU8 c] (.sh (eI r)):=by
  unfold strings_IndexByte at h
  cases h
  exact ixb_of (by rfl) ⟨Go.Lib.indexByte_ge _ _,ixb_le _ _⟩ (fun w=>Go.Proofs.Tryz.strings_IndexByte s c w)
theorem ck193:CK f193 (Rq [Ad 2 0,Ad 3 0,Ad 4 0] [0]<|Rq [Aa 10 0,⟨some 11,.sidx (.s 10) (.c (.int .i64 0)),none⟩,Aa 5 11] [0,5]<|Sq (Bl 0<|Rq [Aa 13 5,Au 14 228 13,Aa 12 14] [0,5,12]<|Co 12 (Rq [Aa 15 0,Du 16 229 15 230,Aa 6 16] [6]<|Sq (Rq [Aa 17 6,Bk 18 17 20] [6,18]<|Co 18 (Rq [Ad 2 0,Ad 3 0,Ad 4 3] [2,3,4]<|.ret)<|Sk [6])<|Rq [Aa 19 6,Ad 2 1,Aa 3 19,Ad 4 0] [2,3,4]<|.ret)<|Rq [Aa 21 5,Au 22 231 21,Aa 20 22] [0,5,20]<|Co 20 (Rq [Aa 23 0,Du 24 229 23 231,Aa 7 24] [7]<|Sq (Rq [Aa 25 7,Bk 26 25 9] [7,26]<|Co 26 (Rq [Ad 2 0,Ad 3 0,Ad 4 3] [2,3,4]<|.ret)<|Sk [7])<|Rq [Aa 27 7,Ad 2 2,Aa 3 27,Ad 4 0] [2,3,4]<|.ret)<|Rq [Aa 29 5,El 30 29 34,Aa 28 30] [0,5,28]<|Co 28 (Rq [Aa 32 0,Au 33 232 32,Aa 31 33,Am 34 31 0,Am 35 31 1,Aa 8 34,Aa 9 35] [8,9]<|Rq [Aa 36 8,Aa 37 9,Ad 2 3,Aa 3 36,Aa 4 37] [2,3,4]<|.ret)<|Rq [Aa 39 0,Au 40 233 39,Aa 38 40] [5,38]<|Co 38 (Rq [Ad 2 4,Ad 3 2,Ad 4 0] [2,3,4]<|.ret)<|Rq [Aa 42 5,⟨some 43,.call 234 [.c (.str ⟨#[123,125,40,41,91,93,44,59,58,61,43,45,42,60,62,33,38,124,46,63]⟩),.s 42],none⟩,Bo 44 43 0,Aa 41 44] [41]<|Co 41 (Rq [Ad 2 4,Ad 3 1,Ad 4 0] [2,3,4]<|.ret)<|Sk [])<|Rq [Ad 2 0,Ad 3 0,Ad 4 2] [2,3,4]<|.ret) [.tmp 2,.tmp 3,.tmp 4]:= by decide +kernel
theorem c193 (s_0:ByteArray) (r:(Int × Int × Int)) (h:token_next s_0=some r):Sound prog 193 [eS s_0] (.tp [eI r.1,eI r.2.1,eI r.2.2]):= by
 refine Fn ck193 fun hw=>?_
 unfold token_next at h
 refine D<|F<|C rfl<|C rfl<|C rfl<|E (kt<|kn) fun _=>?_
 refine D<|F<|C rfl ?_
 obtain ⟨x11,hx11,h⟩:=I h
 refine l6 rfl rfl hx11<|C rfl<|E (kt<|kt<|kn) fun _=>?_
 refine D<|b0<|D<|F<|C rfl ?_
 obtain ⟨x14,hx14,h⟩:=I h
 refine T rfl (c228 x11 _ hx14)<|C rfl<|E (kt<|kt<|kt<|kn) fun _=>?_
 refine S rfl (fun hc12=>?_) (fun hc12=>?_)
 ·replace h:=M hc12 h
  refine D<|F<|C rfl ?_
  obtain ⟨x16,hx16,h⟩:=I h
  refine T rfl (c229 s_0 token_part _ _ (fun y0 r h=>c230 y0 r h) _ hx16)<|C rfl<|E (kt<|kn) fun _=>?_
  refine D<|D<|F<|C rfl<|e4 rfl rfl<|E (kt<|kt<|kn) fun _=>?_
  refine S rfl (fun hc18=>?_) (fun hc18=>?_)
  ·replace h:=M hc18 h
   refine D<|F<|C rfl<|C rfl<|C rfl<|E (kt<|kt<|kt<|kn) fun _=>?_
   refine L ?_
   cases h
   exact ⟨by decide,rfl⟩
  ·replace h:=O hc18 h
   refine P (kt<|kn) fun _=>?_
   refine D<|F<|C rfl<|C rfl<|C rfl<|C rfl<|E (kt<|kt<|kt<|kn) fun _=>?_
   refine L ?_
   cases h
   exact ⟨by decide,rfl⟩
 ·replace h:=O hc12 h
  refine D<|F<|C rfl ?_
  obtain ⟨x22,hx22,h⟩:=I h
  refine T rfl (c231 x11 _ hx22)<|C rfl<|E (kt<|kt<|kt<|kn) fun _=>?_
  refine S rfl (fun hc20=>?_) (fun hc20=>?_)
  ·replace h:=M hc20 h
   refine D<|F<|C rfl ?_
   obtain ⟨x24,hx24,h⟩:=I h
   refine T rfl (c229 s_0 token_digit _ _ (fun y0 r h=>c231 y0 r h) _ hx24)<|C rfl<|E (kt<|kn) fun _=>?_
   refine D<|D<|F<|C rfl<|e4 rfl rfl<|E (kt<|kt<|kn) fun _=>?_
   refine S rfl (fun hc26=>?_) (fun hc26=>?_)
   ·replace h:=M hc26 h
    refine D<|F<|C rfl<|C rfl<|C rfl<|E (kt<|kt<|kt<|kn) fun _=>?_
    refine L ?_
    cases h
    exact ⟨by decide,rfl⟩
   ·replace h:=O hc26 h
    refine P (kt<|kn) fun _=>?_
    refine D<|F<|C rfl<|C rfl<|C rfl<|C rfl<|E (kt<|kt<|kt<|kn) fun _=>?_
    refine L ?_
    cases h
    exact ⟨by decide,rfl⟩
  ·replace h:=O hc20 h
   refine D<|F<|C rfl<|d1 rfl rfl<|C rfl<|E (kt<|kt<|kt<|kn) fun _=>?_
   refine S rfl (fun hc28=>?_) (fun hc28=>?_)
   ·replace h:=M hc28 h
    refine D<|F<|C rfl ?_
    obtain ⟨x33,hx33,h⟩:=I h
    refine e5 rfl (c232 s_0 _ hx33)<|e6 rfl<|b2 rfl rfl<|b2 rfl rfl<|C rfl<|C rfl<|E (kt<|kt<|kn) fun _=>?_
    refine D<|F<|C rfl<|C rfl<|C rfl<|C rfl<|C rfl<|E (kt<|kt<|kt<|kn) fun _=>?_
    refine L ?_
    cases h
    exact ⟨by decide,rfl⟩
   ·replace h:=O hc28 h
    refine D<|F<|C rfl ?_
    obtain ⟨x40,hx40,h⟩:=I h
    refine T rfl (c233 s_0 _ hx40)<|C rfl<|E (kt<|kt<|kn) fun _=>?_
    refine S rfl (fun hc38=>?_) (fun hc38=>?_)
    ·replace h:=M hc38 h
     refine D<|F<|C rfl<|C rfl<|C rfl<|E (kt<|kt<|kt<|kn) fun _=>?_
     refine L ?_
     cases h
     exact ⟨by decide,rfl⟩
    ·replace h:=O hc38 h
     refine D<|F<|C rfl ?_
     obtain ⟨x43,hx43,h⟩:=I h
     refine T rfl (c234 (⟨#[123,125,40,41,91,93,44,59,58,61,43,45,42,60,62,33,38,124,46,63]⟩:ByteArray) x11 _ hx43)<|d5 rfl rfl<|C rfl<|E (kt<|kn) fun _=>?_
     refine S rfl (fun hc41=>?_) (fun hc41=>?_)
     ·replace h:=M hc41 h
      refine D<|F<|C rfl<|C rfl<|C rfl<|E (kt<|kt<|kt<|kn) fun _=>?_
      refine L ?_
      cases h
      exact ⟨by decide,rfl⟩
     ·replace h:=O hc41 h
      refine P (kn) fun _=>?_
      refine D<|F<|C rfl<|C rfl<|C rfl<|E (kt<|kt<|kt<|kn) fun _=>?_
      refine L ?_
      cases h
      exact ⟨by decide,rfl⟩
theorem ck146:CK f146 (Rq [Af 1 0,Ce 2,Ak 3] [1]<|Rq [Ac 8 1 1,Ab 9 8,Aa 4 9] [1,4]<|Sq (Rq [Ac 10 1 0,Ab 11 10,Be 12 11 3] [1,4,12]<|Co 12 (Re [Aa 13 4,⟨some 14,.bin (.s) .add (.c (.str ⟨#[34]⟩)) (.s 13),none⟩,⟨some 15,.bin (.s) .add (.s 14) (.c (.str ⟨#[34]⟩)),none⟩,Aa 4 15] [1,4])<|Sk [1,4])<|Sq (Rq [Aa 16 4,⟨some 17,.bin (.s) .eql (.s 16) (.c (.str ⟨#[]⟩)),none⟩] [1,4,17]<|Co 17 (Rq [Ce 2,Ak 3] [2,3]<|.ret)<|Sk [1,4])<|Rq [Aa 19 4,Au 20 193 19,Aa 18 20,Am 21 18 0,Am 22 18 1,Am 23 18 2,Aa 5 21,Aa 6 22,Aa 7 23] [1,4,5,6,7]<|Rq [Aa 24 4,Aa 25 7,Be 26 25 0,Aa 27 26,Aq 28 5 27,Ba 29 1 0 27,Ax 30 29 27,Cl 31 28 30 27,At 32 27 31,Aa 33 32,Aq 34 6 33,Aq 35 4 33,Em 36 35 33,Cl 37 34 36 33,At 38 33 37,Aa 2 24,Aa 3 38] [2,3]<|.ret) [.tmp 2,.tmp 3]:= by decide +kernel
theorem c146 (t:Token) (r:(ByteArray × Bool)) (h:token_whole t=some r):Sound prog 146 [eToken t] (.tp [eS r.1,eB r.2]):= by
 refine Fn ck146 fun hw=>?_
 unfold token_whole at h
 refine D<|F<|a4 rfl rfl<|C rfl<|C rfl<|E (kt<|kn) fun _=>?_
 refine D<|F<|K rfl<|J rfl<|C rfl<|E (kt<|kt<|kn) fun _=>?_
 refine D<|D<|F<|K rfl<|J rfl<|d1 rfl rfl<|E (kt<|kt<|kt<|kn) fun _=>?_
 obtain ⟨w1,hw1,h⟩:=I h
 refine l0 (fun ze=>ze=[(1,.tv (.pt (eToken t).cells)),(4,.tv (eS w1))]) ?_ ?_
 ·replace h:=hw1
  clear hw1
  refine S rfl (fun hc12=>?_) (fun hc12=>?_)
  ·replace h:=M hc12 h
   refine F<|C rfl ?_
   obtain ⟨x14,hx14,h⟩:=I h
   refine m1 rfl rfl hx14 ?_
   obtain ⟨x15,hx15,h⟩:=I h
   refine m1 rfl rfl hx15<|C rfl<|E (kt<|kt<|kn) ?_
   cases h
   exact rfl
  ·replace h:=O hc12 h
   refine P (kt<|kt<|kn) ?_
   cases h
   exact rfl
 rintro _ rfl
 intro _
 refine D<|D<|F<|C rfl<|g8 rfl rfl<|E (kt<|kt<|kt<|kn) fun _=>?_
 refine S rfl (fun hc17=>?_) (fun hc17=>?_)
 ·replace h:=M hc17 h
  refine D<|F<|C rfl<|C rfl<|E (kt<|kt<|kn) fun _=>?_
  refine L ?_
  cases h
  exact ⟨by decide,rfl⟩
 ·replace h:=O hc17 h
  refine P (kt<|kt<|kn) fun _=>?_
  refine D<|F<|C rfl ?_
  obtain ⟨x20,hx20,h⟩:=I h
  refine e5 rfl (c193 w1 _ hx20)<|e6 rfl<|b2 rfl rfl<|b2 rfl rfl<|b2 rfl rfl<|C rfl<|C rfl<|C rfl<|E (kt<|kt<|kt<|kt<|kt<|kn) fun _=>?_
  refine D<|F<|C rfl<|C rfl<|d1 rfl rfl<|C rfl ?_
  refine gA 5 [28,29,30,31] 32 (decide (x20.2.2=0)) (decide (x20.1=t.Kind)) (fun hg32=>?_) (fun hg32=>?_) ?_
  ·refine G rfl hg32<|C rfl<|G rfl hg32<|K rfl<|G rfl hg32<|J rfl<|G rfl hg32<|d1 rfl rfl<|Y rfl hg32 rfl ?_
   exact ⟨⟨_,_,_,_,rfl⟩⟩
  ·refine H rfl hg32<|H rfl hg32<|H rfl hg32<|H rfl hg32<|Z rfl hg32 rfl ?_
   exact ⟨⟨_,_,_,_,rfl⟩⟩
  rintro _ ⟨_,_,_,_,rfl⟩
  refine C rfl ?_
  refine gA 5 [34,35,36,37] 38 ((decide (x20.2.2=0))&&(decide (x20.1=t.Kind))) (decide (x20.2.1=(w1.size:Int))) (fun hg38=>?_) (fun hg38=>?_) ?_
  ·refine G rfl hg38<|C rfl<|G rfl hg38<|C rfl<|G rfl hg38<|g7 rfl<|G rfl hg38<|d1 rfl rfl<|Y rfl hg38 rfl ?_
   exact ⟨⟨_,_,_,_,rfl⟩⟩
  ·refine H rfl hg38<|H rfl hg38<|H rfl hg38<|H rfl hg38<|Z rfl hg38 rfl ?_
   exact ⟨⟨_,_,_,_,rfl⟩⟩
  rintro _ ⟨_,_,_,_,rfl⟩
  refine C rfl<|C rfl<|E (kt<|kt<|kn) fun _=>?_
  refine L ?_
  cases h
  exact ⟨by decide,rfl⟩
theorem ck97:CK f97 (Rq [Ak 2] [0]<|Rq [Aa 6 0,Dv 7 0 0 0 1 1 1 1 6,Au 8 146 7,Aa 5 8,Am 9 5 0,Am 10 5 1,Aa 3 9,Aa 4 10] [4]<|Rq [Aa 11 4,Aa 2 11] [2]<|.ret) [.tmp 2]:= by decide +kernel
theorem c97 (s_0:ByteArray) (r:Bool) (h:token_IsName s_0=some r):Sound prog 97 [eS s_0] (.sh (eB r)):= by
 refine Fn ck97 fun hw=>?_
 unfold token_IsName at h
 refine D<|F<|C rfl<|E (kt<|kn) fun _=>?_
 refine D<|F<|C rfl<|e8 rfl rfl (show _=eToken (Token.mk 1 s_0 0) from rfl) ?_
 obtain ⟨x8,hx8,h⟩:=I h
 refine e5 rfl (c146 (Token.mk 1 s_0 0) _ hx8)<|e6 rfl<|b2 rfl rfl<|b2 rfl rfl<|C rfl<|C rfl<|E (kt<|kn) fun _=>?_
 refine D<|F<|C rfl<|C rfl<|E (kt<|kn) fun _=>?_
 exact L (by cases h;rfl)
theorem ck186:CK f186 (Rq [Af 2 0,Ak 3] [1,2]<|Rq [Ac 4 2 0,Ab 5 4,Ac 6 1 0,Ab 7 6,Cu 8 5 7,Aa 3 8] [3]<|.ret) [.tmp 3]:= by decide +kernel
theorem c186 (m:NodeType) (c0:NodeType) (r:Bool) (h:types_node_1 m c0=some r):Sound prog 186 [eNodeType m,.pt (eNodeType c0).cells] (.sh (eB r)):= by
 refine Fn ck186 fun hw=>?_
 unfold types_node_1 at h
 refine D<|F<|a4 rfl rfl<|C rfl<|E (kt<|kt<|kn) fun _=>?_
 refine D<|F<|K rfl<|J rfl<|K rfl<|J rfl<|g8 rfl rfl<|C rfl<|E (kt<|kn) fun _=>?_
 exact L (by cases h;rfl)
theorem ck187:CK f187 (Rq [Af 2 0,⟨some 4,.nilx 4,none⟩] [1,2]<|Rq [⟨some 5,.nilx 4,none⟩] [1,2,5]<|Sq (Rq [Ac 7 2 0,Ab 8 7,Aa 9 1,Ag 10 8 9 4,Ai 11 10 1,Ab 12 11,Aa 6 12] [1,2,5,6]<|Rq [Aa 13 6,Bo 14 13 0] [1,2,5,6,14]<|Co 14 (Re [Ae 15 2 2,Aa 16 6,⟨some 17,.callx 187 [.s 15,.s 16],none⟩,Cm 5 17] [1,2,5])<|Sk [1,2,5])<|Rq [Cm 18 5,Ac 19 2 0,Ab 20 19,Aa 21 1,Ag 22 20 21 4,Ai 23 22 3,Ab 24 23,⟨some 25,.appx 4 18 (.s 24),none⟩,Cm 4 25] [4]<|.ret) [.tmp 4]:= by decide +kernel
theorem c187S (n:Nat) (ih_187:∀ (t:Types) (a:Int) (r:(List Attr)) (_:types_attrsF n t a=some r),Sound prog 187 [eTypes t,eI a] (.xown 4 (List.map eAttr r))):∀ (t:Types) (a:Int) (r:(List Attr)) (_:types_attrsF (n+1) t a=some r),Sound prog 187 [eTypes t,eI a] (.xown 4 (List.map eAttr r)):= by
 intro t a r h
 refine Fn ck187 fun hw=>?_
 unfold types_attrsF at h
 refine D<|F<|a4 rfl rfl<|m5 rfl<|E (kt<|kt<|kn) fun _=>?_
 refine D<|F<|m5 rfl<|E (kt<|kt<|kx<|kn) fun _=>?_
 refine D<|D<|F<|K rfl<|J rfl<|C rfl ?_
 obtain ⟨x10,hx10,h⟩:=I h
 refine W rfl rfl rfl hx10 rfl<|a6 rfl<|J rfl<|C rfl<|E (kt<|kt<|kx<|kt<|kn) fun _=>?_
 refine D<|F<|C rfl<|d5 rfl rfl<|E (kt<|kt<|kx<|kt<|kt<|kn) fun _=>?_
 obtain ⟨w1,hw1,h⟩:=I h
 refine l0 (fun ze=>ze=[(1,.tv (eI a)),(2,.tv (.pt (eTypes t).cells)),(5,.xo 4 (List.map eAttr w1))]) ?_ ?_
 ·replace h:=hw1
  clear hw1
  refine S rfl (fun hc14=>?_) (fun hc14=>?_)
  ·replace h:=M hc14 h
   refine F<|R rfl rfl (show _=eTypes t from rfl)<|C rfl ?_
   obtain ⟨x17,hx17,h⟩:=I h
   refine p1 rfl rfl (ih_187 t x10.Parent _ hx17)<|l1 rfl rfl (by decide)<|E (kt<|kt<|kx<|kn) ?_
   cases h
   exact rfl
  ·replace h:=O hc14 h
   refine P (kt<|kt<|kx<|kn) ?_
   cases h
   exact rfl
 rintro _ rfl
 intro _
 refine D<|F<|l1 rfl rfl (by decide)<|K rfl<|J rfl<|C rfl ?_
 obtain ⟨x22,hx22,h⟩:=I h
 refine W rfl rfl rfl hx22 rfl<|a6 rfl<|J rfl ?_
 obtain ⟨x25,hx25,h⟩:=I h
 refine p2 rfl rfl rfl rfl hx25 rfl rfl (by decide)<|l1 rfl rfl (by decide)<|E (kx<|kn) fun _=>?_
 exact L (by cases h;rfl)
theorem c187A:∀ n:Nat,(∀ (t:Types) (a:Int) (r:(List Attr)) (_:types_attrsF n t a=some r),Sound prog 187 [eTypes t,eI a] (.xown 4 (List.map eAttr r))):=by
  intro n
  induction n with
  | zero=>intro t a r h; cases h
  | succ n ih=>exact c187S n ih
theorem c187 (t:Types) (a:Int) (r:(List Attr)) (h:types_attrs t a=some r):Sound prog 187 [eTypes t,eI a] (.xown 4 (List.map eAttr r)):=by
  obtain ⟨N,hN⟩:=lim_some h
  exact (c187A N) t a r (hN N (Nat.le_refl _))
theorem ck248:CK f248 (Rq [Ad 4 0] [0,1]<|Sq (Rq [Aa 6 0,Ah 7 6,Ad 8 0] [0,1,7,8]<|Bl 0<|Lo [0,1,7,8]<|Rq [Ap 9 8 7] [0,1,7,8,9]<|Sq (Co 9 (Sk [0,1,7,8])<|Ex 0 [])<|Sq (Bl 1<|Rq [Aa 10 8,Aa 5 10] [0,1,5,7,8]<|Rq [Aa 11 1,Aa 12 0,Aa 13 5,Ag 14 12 13 4,Ae 15 14 4,Bw 16 11 15] [0,1,5,7,8,16]<|Co 16 (Rq [Aa 17 5,Aa 4 17] [4]<|.ret)<|Sk [0,1,7,8])<|Re [An 18 8 1,Aa 8 18] [0,1,7,8])<|Rq [Cd 4 (-1)] [4]<|.ret) [.tmp 4]:= by decide +kernel
theorem c248 (s_0:List Attr) (f:Attr->Option Bool) (f_f:FuncId) (k_f:List TV) (h_f:∀ (y0:Attr) r,f y0=some r->Sound prog f_f ([eAttr y0]++k_f) (.sh (eB r))) (r:Int) (h:slices_IndexFunc_Attr s_0 f=some r):Sound prog 248 [lA s_0,.clo f_f k_f] (.sh (eI r)):= by
 refine Fn ck248 fun hw=>?_
 unfold slices_IndexFunc_Attr at h
 refine D<|F<|C rfl<|E (kt<|kt<|kn) fun _=>?_
 refine D<|D<|F<|C rfl<|U rfl rfl<|C rfl<|E (kt<|kt<|kt<|kt<|kn) fun _=>?_
 obtain ⟨o0,ho0,h⟩:=d2 h
 refine d6 ho0 (fun (i0:Int) (_:Unit)=>[(0,.tv (lA s_0)),(1,.tv (.clo f_f k_f)),(7,.tv (eI (s_0.length:Int))),(8,.tv (eI i0))]) (fun (_:Unit)=>[]) (fun zv ze=>resIs ([.tmp 4]) (.sh (eI zv)) ze) rfl ?_ ?_ ?_ ?_
 ·clear h ho0
  intro i0 s0 r0 hi0 h hw0
  refine D<|F<|V rfl rfl<|E (kt<|kt<|kt<|kt<|kt<|kn) fun _=>?_
  refine D<|b5 rfl (b6 hi0)<|P (kt<|kt<|kt<|kt<|kn) fun _=>?_
  refine D<|b0<|D<|F<|C rfl<|C rfl<|E (kt<|kt<|kt<|kt<|kt<|kn) fun _=>?_
  refine D<|F<|C rfl<|C rfl<|C rfl ?_
  obtain ⟨x14,hx14,h⟩:=I h
  refine W rfl rfl rfl hx14 rfl<|R rfl rfl (show _=eAttr x14 from rfl) ?_
  obtain ⟨x16,hx16,h⟩:=I h
  refine g3 rfl rfl (h_f _ _ hx16)<|E (kt<|kt<|kt<|kt<|kt<|kt<|kn) fun _=>?_
  refine S rfl (fun hc16=>?_) (fun hc16=>?_)
  ·replace h:=M hc16 h
   refine D<|F<|C rfl<|C rfl<|E (kt<|kn) fun _=>?_
   refine L ?_
   cases h
   exact ⟨_,rfl,rfl⟩
  ·replace h:=O hc16 h
   refine P (kt<|kt<|kt<|kt<|kn) fun _=>?_
   refine F<|a7 rfl rfl<|C rfl<|E (kt<|kt<|kt<|kt<|kn) ?_
   cases h
   refine ⟨_,rfl,?_⟩
   rw [Ktv rfl (Ktv rfl (Ktv rfl (Ktv rfl (Knil _))))]
   rw [b4 (a5 (hw0 8)) hi0 (e0 (a5 (hw0 7)))]
   all_goals rfl
 ·intro i0 s0 hi0
  refine D<|F<|V rfl rfl<|E (kt<|kt<|kt<|kt<|kt<|kn) fun _=>?_
  refine D<|b7 rfl (b8 hi0)<|b3 (kn) ?_
  exact ⟨rfl,rfl⟩
 ·intro s0 hs
  replace h:=d3 h hs
  intro _
  refine D<|F<|C rfl<|E (kt<|kn) fun _=>?_
  exact L (by cases h;rfl)
 ·intro v0 ze hv hR
  replace h:=d4 h hv
  cases h
  exact hR
theorem ck224:CK f224 (Rq [Ak 4] [0,1]<|Rq [Aa 5 0,Aa 6 1,Al 7 248 5 6,Bo 8 7 0,Aa 4 8] [4]<|.ret) [.tmp 4]:= by decide +kernel
theorem c224 (s_0:List Attr) (f:Attr->Option Bool) (f_f:FuncId) (k_f:List TV) (h_f:∀ (y0:Attr) r,f y0=some r->Sound prog f_f ([eAttr y0]++k_f) (.sh (eB r))) (r:Bool) (h:slices_ContainsFunc_Attr s_0 f=some r):Sound prog 224 [lA s_0,.clo f_f k_f] (.sh (eB r)):= by
 refine Fn ck224 fun hw=>?_
 unfold slices_ContainsFunc_Attr at h
 refine D<|F<|C rfl<|E (kt<|kt<|kn) fun _=>?_
 refine D<|F<|C rfl<|C rfl ?_
 obtain ⟨x7,hx7,h⟩:=I h
 refine T rfl (c248 s_0 f _ _ h_f _ hx7)<|d5 rfl rfl<|C rfl<|E (kt<|kn) fun _=>?_
 exact L (by cases h;rfl)
theorem ck225:CK f225 (Rq [Af 2 0,Ak 3] [1,2]<|Rq [Ac 4 2 0,Ab 5 4,Ac 6 1 0,Ab 7 6,Cu 8 5 7,Aa 3 8] [3]<|.ret) [.tmp 3]:= by decide +kernel
theorem c225 (y:Attr) (c0:Attr) (r:Bool) (h:types_attribute_1 y c0=some r):Sound prog 225 [eAttr y,.pt (eAttr c0).cells] (.sh (eB r)):= by
 refine Fn ck225 fun hw=>?_
 unfold types_attribute_1 at h
 refine D<|F<|a4 rfl rfl<|C rfl<|E (kt<|kt<|kn) fun _=>?_
 refine D<|F<|K rfl<|J rfl<|K rfl<|J rfl<|g8 rfl rfl<|C rfl<|E (kt<|kn) fun _=>?_
 exact L (by cases h;rfl)
theorem ck226:CK f226 (Rq [Ad 2 0] [0]<|Sq (Rq [Aa 5 0,Ah 6 5,Bk 7 6 20] [0,7]<|Co 7 (Rq [Ad 2 3] [2]<|.ret)<|Sk [0])<|Sq (Rq [Aa 8 0,Ah 9 8,Ad 10 0] [0,8,9,10]<|Bl 0<|Lo [0,8,9,10]<|Rq [Ap 11 10 9] [0,8,9,10,11]<|Sq (Co 11 (Sk [0,8,9,10])<|Ex 0 [])<|Sq (Bl 1<|Rq [Aa 12 10,Ag 13 8 10 1,Ab 14 13,Aa 3 12,Aa 4 14] [0,3,4,8,9,10]<|Bl 2<|Rq [Aa 16 4,Au 17 97 16,Az 18 17,Aa 15 18] [0,3,4,8,9,10,15]<|Co 15 (Rq [Ad 2 2] [2]<|.ret)<|Rq [Aa 20 0,Aa 21 3,Da 22 1 20 21,Aa 23 4,Al 24 249 22 23,Aa 19 24] [0,8,9,10,19]<|Co 19 (Rq [Ad 2 5] [2]<|.ret)<|Sk [0,8,9,10])<|Re [An 25 10 1,Aa 10 25] [0,8,9,10])<|Rq [Ad 2 0] [2]<|.ret) [.tmp 2]:= by decide +kernel
theorem c226 (l:List ByteArray) (r:Int) (h:types_names l=some r):Sound prog 226 [lB l] (.sh (eI r)):= by
 refine Fn ck226 fun hw=>?_
 unfold types_names at h
 refine D<|F<|C rfl<|E (kt<|kn) fun _=>?_
 refine D<|D<|F<|C rfl<|U rfl rfl<|e4 rfl rfl<|E (kt<|kt<|kn) fun _=>?_
 refine S rfl (fun hc7=>?_) (fun hc7=>?_)
 ·replace h:=M hc7 h
  refine D<|F<|C rfl<|E (kt<|kn) fun _=>?_
  exact L (by cases h;rfl)
 ·replace h:=O hc7 h
  refine P (kt<|kn) fun _=>?_
  refine D<|D<|F<|C rfl<|U rfl rfl<|C rfl<|E (kt<|kt<|kt<|kt<|kn) fun _=>?_
  obtain ⟨o0,ho0,h⟩:=d2 h
  refine d6 ho0 (fun (i0:Int) (_:Unit)=>[(0,.tv (lB l)),(8,.tv (lB l)),(9,.tv (eI (l.length:Int))),(10,.tv (eI i0))]) (fun (_:Unit)=>[]) (fun zv ze=>resIs ([.tmp 2]) (.sh (eI zv)) ze) rfl ?_ ?_ ?_ ?_
  ·clear h ho0
   intro i0 s0 r0 hi0 h hw0
   refine D<|F<|V rfl rfl<|E (kt<|kt<|kt<|kt<|kt<|kn) fun _=>?_
   refine D<|b5 rfl (b6 hi0)<|P (kt<|kt<|kt<|kt<|kn) fun _=>?_
   refine D<|b0<|D<|F<|C rfl ?_
   obtain ⟨x13,hx13,h⟩:=I h
   refine W rfl rfl rfl hx13 rfl<|J rfl<|C rfl<|C rfl<|E (kt<|kt<|kt<|kt<|kt<|kt<|kn) fun _=>?_
   refine b0<|D<|F<|C rfl ?_
   obtain ⟨x17,hx17,h⟩:=I h
   refine T rfl (c97 x13 _ hx17)<|d0 rfl<|C rfl<|E (kt<|kt<|kt<|kt<|kt<|kt<|kt<|kn) fun _=>?_
   refine S rfl (fun hc15=>?_) (fun hc15=>?_)
   ·replace h:=M hc15 h
    refine D<|F<|C rfl<|E (kt<|kn) fun _=>?_
    refine L ?_
    cases h
    exact ⟨_,rfl,rfl⟩
   ·replace h:=O hc15 h
    refine D<|F<|C rfl<|C rfl ?_
    obtain ⟨x22,hx22,h⟩:=I h
    refine l8 rfl rfl rfl rfl hx22<|C rfl ?_
    obtain ⟨x24,hx24,h⟩:=I h
    refine T rfl (c249 x22 x13 _ hx24)<|C rfl<|E (kt<|kt<|kt<|kt<|kt<|kn) fun _=>?_
    refine S rfl (fun hc19=>?_) (fun hc19=>?_)
    ·replace h:=M hc19 h
     refine D<|F<|C rfl<|E (kt<|kn) fun _=>?_
     refine L ?_
     cases h
     exact ⟨_,rfl,rfl⟩
    ·replace h:=O hc19 h
     refine P (kt<|kt<|kt<|kt<|kn) fun _=>?_
     refine F<|a7 rfl rfl<|C rfl<|E (kt<|kt<|kt<|kt<|kn) ?_
     cases h
     refine ⟨_,rfl,?_⟩
     rw [Ktv rfl (Ktv rfl (Ktv rfl (Ktv rfl (Knil _))))]
     rw [b4 (a5 (hw0 10)) hi0 (e0 (a5 (hw0 9)))]
     all_goals rfl
  ·intro i0 s0 hi0
   refine D<|F<|V rfl rfl<|E (kt<|kt<|kt<|kt<|kt<|kn) fun _=>?_
   refine D<|b7 rfl (b8 hi0)<|b3 (kn) ?_
   exact ⟨rfl,rfl⟩
  ·intro s0 hs
   replace h:=d3 h hs
   intro _
   refine D<|F<|C rfl<|E (kt<|kn) fun _=>?_
   exact L (by cases h;rfl)
  ·intro v0 ze hv hR
   replace h:=d4 h hv
   cases h
   exact hR
theorem ck188:CK f188 (Rq [Af 2 0,Ad 4 0] [1,2]<|Sq (Bl 0<|Rq [Ac 8 2 0,Ab 9 8,Au 10 97 9,Az 11 10,Aa 7 11] [1,2,7]<|Co 7 (Rq [Ad 4 2] [4]<|.ret)<|Rq [Aa 13 1,Cf 14 225 2,Al 15 224 13 14,Aa 12 15] [2,12]<|Co 12 (Rq [Ad 4 5] [4]<|.ret)<|Sk [2])<|Sq (Rq [Ac 16 2 3,Ab 17 16,Au 18 226 17,Aa 5 18] [2,5]<|Rq [Aa 19 5,Av 20 19 0] [2,5,20]<|Co 20 (Rq [Aa 21 5,Aa 4 21] [4]<|.ret)<|Sk [2])<|Rq [Ac 22 2 1,Ab 23 22,⟨some 24,.bin (.i) .leq (.c (.int .i64 (-1000000))) (.s 23),none⟩,Aa 25 24,Ba 26 2 1 25,Ax 27 26 25,Ba 28 2 2 25,Ax 29 28 25,Dd 30 27 29 25,At 31 25 30,Aa 32 31,Ba 33 2 2 32,Ax 34 33 32,Ci 35 34 1000000 32,At 36 32 35,Aa 6 36] [2,6]<|Sq (Rq [Ac 37 2 3,Ab 38 37,Ah 39 38,Bk 40 39 0] [2,6,40]<|Co 40 (Re [Ac 41 2 1,Ab 42 41,Be 43 42 0,Aa 44 43,Ba 45 2 2 44,Ax 46 45 44,Ba 47 2 3 44,Ax 48 47 44,Ca 49 48 44,Dn 50 49 1 44,Cl 51 46 50 44,At 52 44 51,Aa 6 52] [6])<|Sk [6])<|Sq (Rq [Aa 53 6,Az 54 53] [54]<|Co 54 (Rq [Ad 4 6] [4]<|.ret)<|Sk [])<|Rq [Ad 4 0] [4]<|.ret) [.tmp 4]:= by decide +kernel
theorem c188 (x_0:Attr) (before:List Attr) (r:Int) (h:types_attribute x_0 before=some r):Sound prog 188 [eAttr x_0,lA before] (.sh (eI r)):= by
 refine Fn ck188 fun hw=>?_
 unfold types_attribute at h
 refine D<|F<|a4 rfl rfl<|C rfl<|E (kt<|kt<|kn) fun _=>?_
 refine D<|b0<|D<|F<|K rfl<|J rfl ?_
 obtain ⟨x10,hx10,h⟩:=I h
 refine T rfl (c97 x_0.Name _ hx10)<|d0 rfl<|C rfl<|E (kt<|kt<|kt<|kn) fun _=>?_
 refine S rfl (fun hc7=>?_) (fun hc7=>?_)
 ·replace h:=M hc7 h
  refine D<|F<|C rfl<|E (kt<|kn) fun _=>?_
  exact L (by cases h;rfl)
 ·replace h:=O hc7 h
  refine D<|F<|C rfl<|g2 rfl ?_
  obtain ⟨x15,hx15,h⟩:=I h
  refine T rfl (c224 before (fun y0=>types_attribute_1 y0 x_0) _ _ (fun y0 r h=>c225 y0 x_0 r h) _ hx15)<|C rfl<|E (kt<|kt<|kn) fun _=>?_
  refine S rfl (fun hc12=>?_) (fun hc12=>?_)
  ·replace h:=M hc12 h
   refine D<|F<|C rfl<|E (kt<|kn) fun _=>?_
   exact L (by cases h;rfl)
  ·replace h:=O hc12 h
   refine P (kt<|kn) fun _=>?_
   refine D<|D<|F<|K rfl<|J rfl ?_
   obtain ⟨x18,hx18,h⟩:=I h
   refine T rfl (c226 x_0.Names _ hx18)<|C rfl<|E (kt<|kt<|kn) fun _=>?_
   refine D<|F<|C rfl<|a9 rfl rfl<|E (kt<|kt<|kt<|kn) fun _=>?_
   refine S rfl (fun hc20=>?_) (fun hc20=>?_)
   ·replace h:=M hc20 h
    refine D<|F<|C rfl<|C rfl<|E (kt<|kn) fun _=>?_
    exact L (by cases h;rfl)
   ·replace h:=O hc20 h
    refine P (kt<|kn) fun _=>?_
    refine D<|F<|K rfl<|J rfl<|f4 rfl rfl<|C rfl ?_
    refine gA 6 [26,27,28,29,30] 31 (decide ((-1000000)<=x_0.Low)) (decide (x_0.Low<=x_0.High)) (fun hg31=>?_) (fun hg31=>?_) ?_
    ·refine G rfl hg31<|K rfl<|G rfl hg31<|J rfl<|G rfl hg31<|K rfl<|G rfl hg31<|J rfl<|G rfl hg31<|f4 rfl rfl<|Y rfl hg31 rfl ?_
     exact ⟨⟨_,_,_,_,_,rfl⟩⟩
    ·refine H rfl hg31<|H rfl hg31<|H rfl hg31<|H rfl hg31<|H rfl hg31<|Z rfl hg31 rfl ?_
     exact ⟨⟨_,_,_,_,_,rfl⟩⟩
    rintro _ ⟨_,_,_,_,_,rfl⟩
    refine C rfl ?_
    refine gA 4 [33,34,35] 36 ((decide ((-1000000)<=x_0.Low))&&(decide (x_0.Low<=x_0.High))) (decide (x_0.High<=1000000)) (fun hg36=>?_) (fun hg36=>?_) ?_
    ·refine G rfl hg36<|K rfl<|G rfl hg36<|J rfl<|G rfl hg36<|f4 rfl rfl<|Y rfl hg36 rfl ?_
     exact ⟨⟨_,_,_,rfl⟩⟩
    ·refine H rfl hg36<|H rfl hg36<|H rfl hg36<|Z rfl hg36 rfl ?_
     exact ⟨⟨_,_,_,rfl⟩⟩
    rintro _ ⟨_,_,_,rfl⟩
    refine C rfl<|E (kt<|kt<|kn) fun _=>?_
    refine D<|D<|F<|K rfl<|J rfl<|U rfl rfl<|e4 rfl rfl<|E (kt<|kt<|kt<|kn) fun _=>?_
    obtain ⟨w1,hw1,h⟩:=I h
    refine l0 (fun ze=>ze=[(6,.tv (eB w1))]) ?_ ?_
    ·replace h:=hw1
     clear hw1
     refine S rfl (fun hc40=>?_) (fun hc40=>?_)
     ·replace h:=M hc40 h
      refine F<|K rfl<|J rfl<|d1 rfl rfl<|C rfl ?_
      refine gA 8 [45,46,47,48,49,50,51] 52 (decide (x_0.Low=0)) (decide (x_0.High=(w64 ((x_0.Names.length:Int) - 1)))) (fun hg52=>?_) (fun hg52=>?_) ?_
      ·refine G rfl hg52<|K rfl<|G rfl hg52<|J rfl<|G rfl hg52<|K rfl<|G rfl hg52<|J rfl<|G rfl hg52<|U rfl rfl<|G rfl hg52<|g4 rfl rfl<|G rfl hg52<|d1 rfl rfl<|Y rfl hg52 rfl ?_
       exact ⟨⟨_,_,_,_,_,_,_,rfl⟩⟩
      ·refine H rfl hg52<|H rfl hg52<|H rfl hg52<|H rfl hg52<|H rfl hg52<|H rfl hg52<|H rfl hg52<|Z rfl hg52 rfl ?_
       exact ⟨⟨_,_,_,_,_,_,_,rfl⟩⟩
      rintro _ ⟨_,_,_,_,_,_,_,rfl⟩
      refine C rfl<|E (kt<|kn) ?_
      cases h
      exact rfl
     ·replace h:=O hc40 h
      refine P (kt<|kn) ?_
      cases h
      exact rfl
    rintro _ rfl
    intro _
    refine D<|D<|F<|C rfl<|d0 rfl<|E (kt<|kn) fun _=>?_
    refine S rfl (fun hc54=>?_) (fun hc54=>?_)
    ·replace h:=M hc54 h
     refine D<|F<|C rfl<|E (kt<|kn) fun _=>?_
     exact L (by cases h;rfl)
    ·replace h:=O hc54 h
     refine P (kn) fun _=>?_
     refine D<|F<|C rfl<|E (kt<|kn) fun _=>?_
     exact L (by cases h;rfl)
theorem ck144:CK f144 (Rq [Af 2 0,Ad 4 0] [1,2]<|Rq [Ac 9 2 0,Ab 10 9,Aa 11 1,Ag 12 10 11 4,Ae 13 12 4,En 5 0 4,Aj 4 5 13,Cn 5] [1,2,5]<|Sq (Bl 0<|Rq [Ac 15 5 0,Ab 16 15,Au 17 97 16,Az 18 17,Aa 14 18] [1,2,5,14]<|Co 14 (Rq [Ad 4 2] [4]<|.ret)<|Rq [Ac 20 2 0,Ab 21 20,Aa 22 1,Da 23 4 21 22,Cf 24 186 5,Al 25 54 23 24,Aa 19 25] [1,2,5,19]<|Co 19 (Rq [Ad 4 5] [4]<|.ret)<|Rq [Ac 27 5 1,Ab 28 27,⟨some 29,.bin (.i) .lss (.s 28) (.c (.int .i64 (-1))),none⟩,Aa 30 29,Ar 31 5 1 30,Ao 32 31 30,Aw 33 1 30,Bp 34 32 33 30,As 35 30 34,Aa 26 35] [1,2,5,26]<|Co 26 (Rq [Ad 4 6] [4]<|.ret)<|Rq [Ac 37 5 3,Ab 38 37,Ah 39 38,Bk 40 39 4,Aa 36 40] [1,2,5,36]<|Co 36 (Rq [Ad 4 3] [4]<|.ret)<|Sk [1,2,5])<|Rq [Ae 41 2 2,Aa 42 1,Al 43 187 41 42,Ay 6 43] [5,6]<|Sq (Rq [Aa 44 6,Ah 45 44,Bk 46 45 8] [5,6,46]<|Co 46 (Rq [Ad 4 3] [4]<|.ret)<|Sk [5,6])<|Sq (Rq [Aa 47 6,Ah 48 47,Ac 49 5 3,Ab 50 49,Ah 51 50,Eo 52 48 51,Aa 7 52] [6,7]<|Bl 1<|Lo [6,7]<|Sq (Rq [Aa 53 7,Aa 54 6,Ah 55 54,Ap 56 53 55] [6,7,56]<|Co 56 (Sk [6,7])<|Ex 1 [])<|Sq (Bl 2<|Sq (Dr [8,59,60,61,62,63,64,65,66] [Aa 59 6,Aa 60 7,Ag 61 59 60 4,Ae 62 61 4,Aa 63 6,Aa 64 7,Da 65 4 63 64,Al 66 188 62 65,Aa 8 66] [6,7,8])<|Rq [Aa 67 8,Av 68 67 0] [6,7,8,68]<|Co 68 (Rq [Aa 69 8,Aa 4 69] [4]<|.ret)<|Sk [6,7])<|Re [Aa 57 7,An 58 57 1,Aa 7 58] [6,7])<|Rq [Ad 4 0] [4]<|.ret) [.tmp 4]:= by decide +kernel
theorem c144 (t:Types) (i_1:Int) (r:Int) (h:types_node t i_1=some r):Sound prog 144 [eTypes t,eI i_1] (.sh (eI r)):= by
 refine Fn ck144 fun hw=>?_
 unfold types_node at h
 refine D<|F<|a4 rfl rfl<|C rfl<|E (kt<|kt<|kn) fun _=>?_
 refine D<|F<|K rfl<|J rfl<|C rfl ?_
 obtain ⟨x12,hx12,h⟩:=I h
 refine W rfl rfl rfl hx12 rfl<|R rfl rfl (show _=eNodeType x12 from rfl)<|b1 rfl<|a8 rfl rfl rfl rfl rfl<|l2 rfl rfl<|E (kt<|kt<|kt<|kn) fun _=>?_
 refine D<|b0<|D<|F<|K rfl<|J rfl ?_
 obtain ⟨x17,hx17,h⟩:=I h
 refine T rfl (c97 x12.Name _ hx17)<|d0 rfl<|C rfl<|E (kt<|kt<|kt<|kt<|kn) fun _=>?_
 refine S rfl (fun hc14=>?_) (fun hc14=>?_)
 ·replace h:=M hc14 h
  refine D<|F<|C rfl<|E (kt<|kn) fun _=>?_
  exact L (by cases h;rfl)
 ·replace h:=O hc14 h
  refine D<|F<|K rfl<|J rfl<|C rfl ?_
  obtain ⟨x23,hx23,h⟩:=I h
  refine l8 rfl rfl rfl rfl hx23<|g2 rfl ?_
  obtain ⟨x25,hx25,h⟩:=I h
  refine T rfl (c54 x23 (fun y0=>types_node_1 y0 x12) _ _ (fun y0 r h=>c186 y0 x12 r h) _ hx25)<|C rfl<|E (kt<|kt<|kt<|kt<|kn) fun _=>?_
  refine S rfl (fun hc19=>?_) (fun hc19=>?_)
  ·replace h:=M hc19 h
   refine D<|F<|C rfl<|E (kt<|kn) fun _=>?_
   exact L (by cases h;rfl)
  ·replace h:=O hc19 h
   refine D<|F<|K rfl<|J rfl<|V rfl rfl<|C rfl ?_
   refine gO 5 [31,32,33,34] 35 (decide (x12.Parent<(-1))) (decide (i_1<=x12.Parent)) (fun hg35=>?_) (fun hg35=>?_) ?_
   ·refine H rfl hg35<|H rfl hg35<|H rfl hg35<|H rfl hg35<|Y rfl hg35 rfl ?_
    exact ⟨⟨_,_,_,_,rfl⟩⟩
   ·refine G rfl hg35<|K rfl<|G rfl hg35<|J rfl<|G rfl hg35<|C rfl<|G rfl hg35<|d5 rfl rfl<|Z rfl hg35 rfl ?_
    exact ⟨⟨_,_,_,_,rfl⟩⟩
   rintro _ ⟨_,_,_,_,rfl⟩
   refine C rfl<|E (kt<|kt<|kt<|kt<|kn) fun _=>?_
   refine S rfl (fun hc26=>?_) (fun hc26=>?_)
   ·replace h:=M hc26 h
    refine D<|F<|C rfl<|E (kt<|kn) fun _=>?_
    exact L (by cases h;rfl)
   ·replace h:=O hc26 h
    refine D<|F<|K rfl<|J rfl<|U rfl rfl<|e4 rfl rfl<|C rfl<|E (kt<|kt<|kt<|kt<|kn) fun _=>?_
    refine S rfl (fun hc36=>?_) (fun hc36=>?_)
    ·replace h:=M hc36 h
     refine D<|F<|C rfl<|E (kt<|kn) fun _=>?_
     exact L (by cases h;rfl)
    ·replace h:=O hc36 h
     refine P (kt<|kt<|kt<|kn) fun _=>?_
     refine D<|F<|R rfl rfl (show _=eTypes t from rfl)<|C rfl ?_
     obtain ⟨x43,hx43,h⟩:=I h
     refine q1 rfl (c187 t i_1 _ hx43)<|f2 rfl<|E (kt<|ko<|kn) fun _=>?_
     refine D<|D<|F<|C rfl<|U rfl rfl<|e4 rfl rfl<|E (kt<|ko<|kt<|kn) fun _=>?_
     refine S rfl (fun hc46=>?_) (fun hc46=>?_)
     ·replace h:=M hc46 h
      refine D<|F<|C rfl<|E (kt<|kn) fun _=>?_
      exact L (by cases h;rfl)
     ·replace h:=O hc46 h
      refine P (kt<|ko<|kn) fun _=>?_
      refine D<|D<|F<|C rfl<|U rfl rfl<|K rfl<|J rfl<|U rfl rfl<|g4 rfl rfl<|C rfl<|E (ko<|kt<|kn) fun _=>?_
      obtain ⟨o1,ho1,h⟩:=d2 h
      refine d6 ho1 (fun (i1:Int) (_:Unit)=>[(6,.ow (lA x43)),(7,.tv (eI i1))]) (fun (_:Unit)=>[]) (fun zv ze=>resIs ([.tmp 4]) (.sh (eI zv)) ze) rfl ?_ ?_ ?_ ?_
      ·clear h ho1
       intro i1 s1 r1 hi1 h hw1
       refine D<|D<|F<|C rfl<|C rfl<|U rfl rfl<|V rfl rfl<|E (ko<|kt<|kt<|kn) fun _=>?_
       refine b5 rfl (b6 hi1)<|P (ko<|kt<|kn) fun _=>?_
       refine D<|b0<|D<|b9 rfl<|C rfl<|C rfl ?_
       obtain ⟨x61,hx61,h⟩:=I h
       refine W rfl rfl rfl hx61 rfl<|R rfl rfl (show _=eAttr x61 from rfl)<|C rfl<|C rfl ?_
       obtain ⟨x65,hx65,h⟩:=I h
       refine l8 rfl rfl rfl rfl hx65 ?_
       obtain ⟨x66,hx66,h⟩:=I h
       refine T rfl (c188 x61 x65 _ hx66)<|C rfl<|E (ko<|kt<|kt<|kn) fun _=>?_
       refine D<|F<|C rfl<|a9 rfl rfl<|E (ko<|kt<|kt<|kt<|kn) fun _=>?_
       refine S rfl (fun hc68=>?_) (fun hc68=>?_)
       ·replace h:=M hc68 h
        refine D<|F<|C rfl<|C rfl<|E (kt<|kn) fun _=>?_
        refine L ?_
        cases h
        exact ⟨_,rfl,rfl⟩
       ·replace h:=O hc68 h
        refine P (ko<|kt<|kn) fun _=>?_
        refine F<|C rfl<|a7 rfl rfl<|C rfl<|E (ko<|kt<|kn) ?_
        cases h
        refine ⟨_,rfl,?_⟩
        rw [Kow rfl (Ktv rfl (Knil _))]
        rw [b4 (a5 (hw1 7)) hi1 (e9 (m2 (hw1 6)) rfl)]
        all_goals rfl
      ·intro i1 s1 hi1
       refine D<|D<|F<|C rfl<|C rfl<|U rfl rfl<|V rfl rfl<|E (ko<|kt<|kt<|kn) fun _=>?_
       refine b7 rfl (b8 hi1)<|b3 (kn) ?_
       exact ⟨rfl,rfl⟩
      ·intro s1 hs
       replace h:=d3 h hs
       intro _
       refine D<|F<|C rfl<|E (kt<|kn) fun _=>?_
       exact L (by cases h;rfl)
      ·intro v1 ze hv hR
       replace h:=d4 h hv
       cases h
       exact hR
theorem ck189:CK f189 (Rq [Ak 3] [0,1]<|Rq [Aa 4 0,Bo 5 4 0,Aa 6 5,Aq 7 0 6,Ba 8 1 0 6,Ax 9 8 6,Ca 10 9 6,Dw 11 7 10 6,At 12 6 11,Aa 3 12] [3]<|.ret) [.tmp 3]:= by decide +kernel
theorem c189 (n:Int) (c0:Types) (r:Bool) (h:types_edge_1 n c0=some r):Sound prog 189 [eI n,.pt (eTypes c0).cells] (.sh (eB r)):= by
 refine Fn ck189 fun hw=>?_
 unfold types_edge_1 at h
 refine D<|F<|C rfl<|E (kt<|kt<|kn) fun _=>?_
 refine D<|F<|C rfl<|d5 rfl rfl<|C rfl ?_
 refine gA 6 [7,8,9,10,11] 12 (decide (0<=n)) (decide (n<(c0.Nodes.length:Int))) (fun hg12=>?_) (fun hg12=>?_) ?_
 ·refine G rfl hg12<|C rfl<|G rfl hg12<|K rfl<|G rfl hg12<|J rfl<|G rfl hg12<|U rfl rfl<|G rfl hg12<|V rfl rfl<|Y rfl hg12 rfl ?_
  exact ⟨⟨_,_,_,_,_,rfl⟩⟩
 ·refine H rfl hg12<|H rfl hg12<|H rfl hg12<|H rfl hg12<|H rfl hg12<|Z rfl hg12 rfl ?_
  exact ⟨⟨_,_,_,_,_,rfl⟩⟩
 rintro _ ⟨_,_,_,_,_,rfl⟩
 refine C rfl<|E (kt<|kn) fun _=>?_
 exact L (by cases h;rfl)
theorem ck227:CK f227 (Rq [Ad 4 0] [0,1]<|Sq (Rq [Aa 6 0,Ah 7 6,Ad 8 0] [0,1,7,8]<|Bl 0<|Lo [0,1,7,8]<|Rq [Ap 9 8 7] [0,1,7,8,9]<|Sq (Co 9 (Sk [0,1,7,8])<|Ex 0 [])<|Sq (Bl 1<|Rq [Aa 10 8,Aa 5 10] [0,1,5,7,8]<|Rq [Aa 11 1,Aa 12 0,Aa 13 5,Ag 14 12 13 7,Ae 15 14 7,Bw 16 11 15] [0,1,5,7,8,16]<|Co 16 (Rq [Aa 17 5,Aa 4 17] [4]<|.ret)<|Sk [0,1,7,8])<|Re [An 18 8 1,Aa 8 18] [0,1,7,8])<|Rq [Cd 4 (-1)] [4]<|.ret) [.tmp 4]:= by decide +kernel
theorem c227 (s_0:List EdgeType) (f:EdgeType->Option Bool) (f_f:FuncId) (k_f:List TV) (h_f:∀ (y0:EdgeType) r,f y0=some r->Sound prog f_f ([eEdgeType y0]++k_f) (.sh (eB r))) (r:Int) (h:slices_IndexFunc_EdgeType s_0 f=some r):Sound prog 227 [lX s_0,.clo f_f k_f] (.sh (eI r)):= by
 refine Fn ck227 fun hw=>?_
 unfold slices_IndexFunc_EdgeType at h
 refine D<|F<|C rfl<|E (kt<|kt<|kn) fun _=>?_
 refine D<|D<|F<|C rfl<|U rfl rfl<|C rfl<|E (kt<|kt<|kt<|kt<|kn) fun _=>?_
 obtain ⟨o0,ho0,h⟩:=d2 h
 refine d6 ho0 (fun (i0:Int) (_:Unit)=>[(0,.tv (lX s_0)),(1,.tv (.clo f_f k_f)),(7,.tv (eI (s_0.length:Int))),(8,.tv (eI i0))]) (fun (_:Unit)=>[]) (fun zv ze=>resIs ([.tmp 4]) (.sh (eI zv)) ze) rfl ?_ ?_ ?_ ?_
 ·clear h ho0
  intro i0 s0 r0 hi0 h hw0
  refine D<|F<|V rfl rfl<|E (kt<|kt<|kt<|kt<|kt<|kn) fun _=>?_
  refine D<|b5 rfl (b6 hi0)<|P (kt<|kt<|kt<|kt<|kn) fun _=>?_
  refine D<|b0<|D<|F<|C rfl<|C rfl<|E (kt<|kt<|kt<|kt<|kt<|kn) fun _=>?_
  refine D<|F<|C rfl<|C rfl<|C rfl ?_
  obtain ⟨x14,hx14,h⟩:=I h
  refine W rfl rfl rfl hx14 rfl<|R rfl rfl (show _=eEdgeType x14 from rfl) ?_
  obtain ⟨x16,hx16,h⟩:=I h
  refine g3 rfl rfl (h_f _ _ hx16)<|E (kt<|kt<|kt<|kt<|kt<|kt<|kn) fun _=>?_
  refine S rfl (fun hc16=>?_) (fun hc16=>?_)
  ·replace h:=M hc16 h
   refine D<|F<|C rfl<|C rfl<|E (kt<|kn) fun _=>?_
   refine L ?_
   cases h
   exact ⟨_,rfl,rfl⟩
  ·replace h:=O hc16 h
   refine P (kt<|kt<|kt<|kt<|kn) fun _=>?_
   refine F<|a7 rfl rfl<|C rfl<|E (kt<|kt<|kt<|kt<|kn) ?_
   cases h
   refine ⟨_,rfl,?_⟩
   rw [Ktv rfl (Ktv rfl (Ktv rfl (Ktv rfl (Knil _))))]
   rw [b4 (a5 (hw0 8)) hi0 (e0 (a5 (hw0 7)))]
   all_goals rfl
 ·intro i0 s0 hi0
  refine D<|F<|V rfl rfl<|E (kt<|kt<|kt<|kt<|kt<|kn) fun _=>?_
  refine D<|b7 rfl (b8 hi0)<|b3 (kn) ?_
  exact ⟨rfl,rfl⟩
 ·intro s0 hs
  replace h:=d3 h hs
  intro _
  refine D<|F<|C rfl<|E (kt<|kn) fun _=>?_
  exact L (by cases h;rfl)
 ·intro v0 ze hv hR
  replace h:=d4 h hv
  cases h
  exact hR
theorem ck190:CK f190 (Rq [Ak 4] [0,1]<|Rq [Aa 5 0,Aa 6 1,Al 7 227 5 6,Bo 8 7 0,Aa 4 8] [4]<|.ret) [.tmp 4]:= by decide +kernel
theorem c190 (s_0:List EdgeType) (f:EdgeType->Option Bool) (f_f:FuncId) (k_f:List TV) (h_f:∀ (y0:EdgeType) r,f y0=some r->Sound prog f_f ([eEdgeType y0]++k_f) (.sh (eB r))) (r:Bool) (h:slices_ContainsFunc_EdgeType s_0 f=some r):Sound prog 190 [lX s_0,.clo f_f k_f] (.sh (eB r)):= by
 refine Fn ck190 fun hw=>?_
 unfold slices_ContainsFunc_EdgeType at h
 refine D<|F<|C rfl<|E (kt<|kt<|kn) fun _=>?_
 refine D<|F<|C rfl<|C rfl ?_
 obtain ⟨x7,hx7,h⟩:=I h
 refine T rfl (c227 s_0 f _ _ h_f _ hx7)<|d5 rfl rfl<|C rfl<|E (kt<|kn) fun _=>?_
 exact L (by cases h;rfl)
theorem ck191:CK f191 (Rq [Af 2 0,Ak 3] [1,2]<|Rq [Ac 4 2 0,Ab 5 4,Ac 6 1 0,Ab 7 6,Cu 8 5 7,Aa 3 8] [3]<|.ret) [.tmp 3]:= by decide +kernel
theorem c191 (y:EdgeType) (c0:EdgeType) (r:Bool) (h:types_edge_2 y c0=some r):Sound prog 191 [eEdgeType y,.pt (eEdgeType c0).cells] (.sh (eB r)):= by
 refine Fn ck191 fun hw=>?_
 unfold types_edge_2 at h
 refine D<|F<|a4 rfl rfl<|C rfl<|E (kt<|kt<|kn) fun _=>?_
 refine D<|F<|K rfl<|J rfl<|K rfl<|J rfl<|g8 rfl rfl<|C rfl<|E (kt<|kn) fun _=>?_
 exact L (by cases h;rfl)
theorem ck192:CK f192 (Rq [Ak 4] [0,1]<|Rq [Aa 5 0,Bo 6 5 0,Aa 7 6,Aq 8 0 7,Ci 9 8 40 7,At 10 7 9,Aa 11 10,Aq 12 1 11,Fb 13 12 (-1) 11,Aq 14 13 11,Aw 15 1 14,Aw 16 0 14,Bp 17 15 16 14,Aw 18 17 14,Aq 19 1 18,Ci 20 19 40 18,Dl 21 18 20 14,Dx 22 14 21 11,At 23 11 22,Aa 4 23] [4]<|.ret) [.tmp 4]:= by decide +kernel
theorem c192 (low:Int) (high:Int) (r:Bool) (h:types_bounded low high=some r):Sound prog 192 [eI low,eI high] (.sh (eB r)):= by
 refine Fn ck192 fun hw=>?_
 unfold types_bounded at h
 refine D<|F<|C rfl<|E (kt<|kt<|kn) fun _=>?_
 refine D<|F<|C rfl<|d5 rfl rfl<|C rfl ?_
 refine gA 3 [8,9] 10 (decide (0<=low)) (decide (low<=40)) (fun hg10=>?_) (fun hg10=>?_) ?_
 ·refine G rfl hg10<|C rfl<|G rfl hg10<|f4 rfl rfl<|Y rfl hg10 rfl ?_
  exact ⟨⟨_,_,rfl⟩⟩
 ·refine H rfl hg10<|H rfl hg10<|Z rfl hg10 rfl ?_
  exact ⟨⟨_,_,rfl⟩⟩
 rintro _ ⟨_,_,rfl⟩
 refine C rfl ?_
 refine gA 12 [12,13,14,15,16,17,18,19,20,21,22] 23 ((decide (0<=low))&&(decide (low<=40))) ((decide (high=(-1)))||((decide (low<=high))&&(decide (high<=40)))) (fun hg23=>?_) (fun hg23=>?_) ?_
 ·refine G rfl hg23<|C rfl<|G rfl hg23<|d1 rfl rfl<|G rfl hg23<|C rfl ?_
  refine gO 8 [15,16,17,18,19,20,21] 22 (decide (high=(-1))) ((decide (low<=high))&&(decide (high<=40))) (fun hg22=>?_) (fun hg22=>?_) ?_
  ·refine H rfl hg22<|H rfl hg22<|H rfl hg22<|H rfl hg22<|d7 rfl<|d7 rfl<|H rfl hg22<|G rfl hg23<|Y rfl hg22 rfl ?_
   exact ⟨⟨_,_,_,_,_,_,_,rfl⟩⟩
  ·refine G rfl hg22<|C rfl<|G rfl hg22<|C rfl<|G rfl hg22<|d5 rfl rfl<|G rfl hg22<|C rfl ?_
   refine gA 3 [19,20] 21 (decide (low<=high)) (decide (high<=40)) (fun hg21=>?_) (fun hg21=>?_) ?_
   ·refine G rfl hg21<|C rfl<|G rfl hg21<|f4 rfl rfl<|G rfl hg22<|Y rfl hg21 rfl ?_
    exact ⟨⟨_,_,rfl⟩⟩
   ·refine H rfl hg21<|H rfl hg21<|G rfl hg22<|Z rfl hg21 rfl ?_
    exact ⟨⟨_,_,rfl⟩⟩
   rintro _ ⟨_,_,rfl⟩
   refine G rfl hg23<|Z rfl hg22 rfl ?_
   exact ⟨⟨_,_,_,_,_,_,_,rfl⟩⟩
  rintro _ ⟨_,_,_,_,_,_,_,rfl⟩
  refine Y rfl hg23 rfl ?_
  exact ⟨⟨_,_,_,_,_,_,_,_,_,_,_,rfl⟩⟩
 ·refine H rfl hg23<|H rfl hg23<|H rfl hg23<|d7 rfl<|d7 rfl<|d7 rfl<|d7 rfl<|d7 rfl<|d7 rfl<|d7 rfl<|H rfl hg23<|Z rfl hg23 rfl ?_
  exact ⟨⟨_,_,_,_,_,_,_,_,_,_,_,rfl⟩⟩
 rintro _ ⟨_,_,_,_,_,_,_,_,_,_,_,rfl⟩
 refine C rfl<|E (kt<|kn) fun _=>?_
 exact L (by cases h;rfl)
theorem ck145:CK f145 (Rq [Af 2 0,Ad 4 0] [1,2]<|Rq [Ac 7 2 1,Ab 8 7,Aa 9 1,Ag 10 8 9 7,Ae 11 10 7,Dy 5 0 0 0 0 0 0,Aj 7 5 11,Cn 5] [1,2,5]<|Rq [Cf 12 189 2,Aa 6 12] [1,2,5,6]<|Sq (Bl 0<|Rq [Ac 14 5 0,Ab 15 14,Au 16 97 15,Az 17 16,Aa 13 17] [1,2,5,6,13]<|Co 13 (Rq [Ad 4 2] [4]<|.ret)<|Rq [Ac 19 2 1,Ab 20 19,Aa 21 1,Da 22 7 20 21,Cf 23 191 5,Al 24 190 22 23,Aa 18 24] [5,6,18]<|Co 18 (Rq [Ad 4 5] [4]<|.ret)<|Sq (Rq [Aa 26 6,Ac 27 5 1,Ab 28 27,Bw 29 26 28,Az 30 29,Aa 31 30,Aw 32 6 31,Ar 33 5 2 31,Ao 34 33 31,⟨some 35,.callv (.s 32) [.s 34],some (31,false)⟩,Br 36 35 31,As 37 31 36,Aa 25 37] [5,25]<|Co 25 (Sk [25])<|Re [Ac 38 5 3,Ab 39 38,Ac 40 5 4,Ab 41 40,Al 42 192 39 41,Az 43 42,Aa 44 43,Ar 45 5 5 44,Ao 46 45 44,Ar 47 5 6 44,Ao 48 47 44,Db 49 192 46 48 44,Br 50 49 44,As 51 44 50,Aa 25 51] [25])<|Co 25 (Rq [Ad 4 6] [4]<|.ret)<|Sk [])<|Rq [Ad 4 0] [4]<|.ret) [.tmp 4]:= by decide +kernel
theorem c145 (t:Types) (i_1:Int) (r:Int) (h:types_edge t i_1=some r):Sound prog 145 [eTypes t,eI i_1] (.sh (eI r)):= by
 refine Fn ck145 fun hw=>?_
 unfold types_edge at h
 refine D<|F<|a4 rfl rfl<|C rfl<|E (kt<|kt<|kn) fun _=>?_
 refine D<|F<|K rfl<|J rfl<|C rfl ?_
 obtain ⟨x10,hx10,h⟩:=I h
 refine W rfl rfl rfl hx10 rfl<|R rfl rfl (show _=eEdgeType x10 from rfl)<|b1 rfl<|a8 rfl rfl rfl rfl rfl<|l2 rfl rfl<|E (kt<|kt<|kt<|kn) fun _=>?_
 refine D<|F<|g2 rfl<|C rfl<|E (kt<|kt<|kt<|kt<|kn) fun _=>?_
 refine D<|b0<|D<|F<|K rfl<|J rfl ?_
 obtain ⟨x16,hx16,h⟩:=I h
 refine T rfl (c97 x10.Name _ hx16)<|d0 rfl<|C rfl<|E (kt<|kt<|kt<|kt<|kt<|kn) fun _=>?_
 refine S rfl (fun hc13=>?_) (fun hc13=>?_)
 ·replace h:=M hc13 h
  refine D<|F<|C rfl<|E (kt<|kn) fun _=>?_
  exact L (by cases h;rfl)
 ·replace h:=O hc13 h
  refine D<|F<|K rfl<|J rfl<|C rfl ?_
  obtain ⟨x22,hx22,h⟩:=I h
  refine l8 rfl rfl rfl rfl hx22<|g2 rfl ?_
  obtain ⟨x24,hx24,h⟩:=I h
  refine T rfl (c190 x22 (fun y0=>types_edge_2 y0 x10) _ _ (fun y0 r h=>c191 y0 x10 r h) _ hx24)<|C rfl<|E (kt<|kt<|kt<|kn) fun _=>?_
  refine S rfl (fun hc18=>?_) (fun hc18=>?_)
  ·replace h:=M hc18 h
   refine D<|F<|C rfl<|E (kt<|kn) fun _=>?_
   exact L (by cases h;rfl)
  ·replace h:=O hc18 h
   refine D<|D<|F<|C rfl<|K rfl<|J rfl ?_
   obtain ⟨x29,hx29,h⟩:=I h
   refine g3 rfl rfl (c189 x10.From t _ hx29)<|d0 rfl<|C rfl ?_
   obtain ⟨x37,hx37,h⟩:=I h
   refine gX 6 [32,33,34,35,36] 37 x37 (!x29) (fun hg37=>?_) (fun hg37=>?_) ?_
   ·replace h:=M hg37 hx37
    cases h
    refine H rfl hg37<|H rfl hg37<|H rfl hg37<|H rfl hg37<|H rfl hg37<|Y rfl hg37 rfl ?_
    exact ⟨⟨_,_,_,_,_,rfl⟩⟩
   ·replace h:=O hg37 hx37
    refine G rfl hg37<|C rfl<|G rfl hg37<|K rfl<|G rfl hg37<|J rfl ?_
    obtain ⟨x35,hx35,h⟩:=I h
    refine G rfl hg37<|g3 rfl rfl (c189 x10.To t _ hx35)<|G rfl hg37<|d0 rfl ?_
    cases h
    refine Z rfl hg37 rfl ?_
    exact ⟨⟨_,_,_,_,_,rfl⟩⟩
   rintro _ ⟨_,_,_,_,_,rfl⟩
   refine C rfl<|E (kt<|kt<|kn) fun _=>?_
   obtain ⟨w1,hw1,h⟩:=I h
   refine l0 (fun ze=>ze=[(25,.tv (eB w1))]) ?_ ?_
   ·replace h:=hw1
    clear hw1
    refine S rfl (fun hc25=>?_) (fun hc25=>?_)
    ·replace h:=M hc25 h
     refine P (kt<|kn) ?_
     cases h
     exact rfl
    ·replace h:=O hc25 h
     refine F<|K rfl<|J rfl<|K rfl<|J rfl ?_
     obtain ⟨x42,hx42,h⟩:=I h
     refine T rfl (c192 x10.OutLow x10.OutHigh _ hx42)<|d0 rfl<|C rfl ?_
     obtain ⟨x51,hx51,h⟩:=I h
     refine gX 7 [45,46,47,48,49,50] 51 x51 (!x42) (fun hg51=>?_) (fun hg51=>?_) ?_
     ·replace h:=M hg51 hx51
      cases h
      refine H rfl hg51<|H rfl hg51<|H rfl hg51<|H rfl hg51<|H rfl hg51<|H rfl hg51<|Y rfl hg51 rfl ?_
      exact ⟨⟨_,_,_,_,_,_,rfl⟩⟩
     ·replace h:=O hg51 hx51
      refine G rfl hg51<|K rfl<|G rfl hg51<|J rfl<|G rfl hg51<|K rfl<|G rfl hg51<|J rfl ?_
      obtain ⟨x49,hx49,h⟩:=I h
      refine G rfl hg51<|T rfl (c192 x10.InLow x10.InHigh _ hx49)<|G rfl hg51<|d0 rfl ?_
      cases h
      refine Z rfl hg51 rfl ?_
      exact ⟨⟨_,_,_,_,_,_,rfl⟩⟩
     rintro _ ⟨_,_,_,_,_,_,rfl⟩
     refine C rfl<|E (kt<|kn) ?_
     cases h
     exact rfl
   rintro _ rfl
   intro _
   refine S rfl (fun hc25=>?_) (fun hc25=>?_)
   ·replace h:=M hc25 h
    refine D<|F<|C rfl<|E (kt<|kn) fun _=>?_
    exact L (by cases h;rfl)
   ·replace h:=O hc25 h
    refine P (kn) fun _=>?_
    refine D<|F<|C rfl<|E (kt<|kn) fun _=>?_
    exact L (by cases h;rfl)
theorem ck96:CK f96 (Rq [Af 1 0,Ce 2,Ad 3 0] [1]<|Sq (Bl 0<|Rq [Ac 11 1 0,Ab 12 11,Ah 13 12,Be 14 13 0,Aa 10 14] [1,10]<|Co 10 (Rq [Ce 2,Ad 3 7] [2,3]<|.ret)<|Rq [Ac 16 1 0,Ab 17 16,Ah 18 17,Bk 19 18 12,Aa 20 19,Ar 21 1 1 20,Ao 22 21 20,Bc 23 22 20,Bs 24 23 20 20,As 25 20 24,Aa 15 25] [1,15]<|Co 15 (Rq [Ce 2,Ad 3 3] [2,3]<|.ret)<|Sk [1])<|Sq (Rq [Ac 26 1 0,Ab 27 26,Ah 28 27,Ad 29 0] [1,27,28,29]<|Bl 1<|Lo [1,27,28,29]<|Rq [Ap 30 29 28] [1,27,28,29,30]<|Sq (Co 30 (Sk [1,27,28,29])<|Ex 1 [1])<|Sq (Bl 2<|Rq [Aa 31 29,Ag 32 27 29 4,Ae 33 32 4,En 5 0 4,Aa 4 31,Aj 4 5 33] [1,4,5,27,28,29]<|Rq [Ae 34 1 2,Aa 35 4,Al 36 144 34 35,Aa 6 36] [1,5,6,27,28,29]<|Rq [Aa 37 6,Av 38 37 0] [1,5,6,27,28,29,38]<|Co 38 (Rq [Ac 39 5 0,Ab 40 39,Aa 41 6,Aa 2 40,Aa 3 41] [2,3]<|.ret)<|Sk [1,27,28,29])<|Re [An 42 29 1,Aa 29 42] [1,27,28,29])<|Sq (Rq [Ac 43 1 1,Ab 44 43,Ah 45 44,Ad 46 0] [1,44,45,46]<|Bl 3<|Lo [1,44,45,46]<|Rq [Ap 47 46 45] [1,44,45,46,47]<|Sq (Co 47 (Sk [1,44,45,46])<|Ex 3 [])<|Sq (Bl 4<|Rq [Aa 48 46,Ag 49 44 46 7,Ae 50 49 7,Dy 8 0 0 0 0 0 0,Aa 7 48,Aj 7 8 50] [1,7,8,44,45,46]<|Rq [Ae 51 1 2,Aa 52 7,Al 53 145 51 52,Aa 9 53] [1,8,9,44,45,46]<|Rq [Aa 54 9,Av 55 54 0] [1,8,9,44,45,46,55]<|Co 55 (Rq [Ac 56 8 0,Ab 57 56,Aa 58 9,Aa 2 57,Aa 3 58] [2,3]<|.ret)<|Sk [1,44,45,46])<|Re [An 59 46 1,Aa 46 59] [1,44,45,46])<|Rq [Ce 2,Ad 3 0] [2,3]<|.ret) [.tmp 2,.tmp 3]:= by decide +kernel
theorem c96 (t:Types) (r:(ByteArray × Int)) (h:types_Valid t=some r):Sound prog 96 [eTypes t] (.tp [eS r.1,eI r.2]):= by
 refine Fn ck96 fun hw=>?_
 unfold types_Valid at h
 refine D<|F<|a4 rfl rfl<|C rfl<|C rfl<|E (kt<|kn) fun _=>?_
 refine D<|b0<|D<|F<|K rfl<|J rfl<|U rfl rfl<|d1 rfl rfl<|C rfl<|E (kt<|kt<|kn) fun _=>?_
 refine S rfl (fun hc10=>?_) (fun hc10=>?_)
 ·replace h:=M hc10 h
  refine D<|F<|C rfl<|C rfl<|E (kt<|kt<|kn) fun _=>?_
  refine L ?_
  cases h
  exact ⟨by decide,rfl⟩
 ·replace h:=O hc10 h
  refine D<|F<|K rfl<|J rfl<|U rfl rfl<|e4 rfl rfl<|C rfl ?_
  refine gO 5 [21,22,23,24] 25 (decide (12<(t.Nodes.length:Int))) (decide (20<(t.Edges.length:Int))) (fun hg25=>?_) (fun hg25=>?_) ?_
  ·refine H rfl hg25<|H rfl hg25<|H rfl hg25<|H rfl hg25<|Y rfl hg25 rfl ?_
   exact ⟨⟨_,_,_,_,rfl⟩⟩
  ·refine G rfl hg25<|K rfl<|G rfl hg25<|J rfl<|G rfl hg25<|U rfl rfl<|G rfl hg25<|e4 rfl rfl<|Z rfl hg25 rfl ?_
   exact ⟨⟨_,_,_,_,rfl⟩⟩
  rintro _ ⟨_,_,_,_,rfl⟩
  refine C rfl<|E (kt<|kt<|kn) fun _=>?_
  refine S rfl (fun hc15=>?_) (fun hc15=>?_)
  ·replace h:=M hc15 h
   refine D<|F<|C rfl<|C rfl<|E (kt<|kt<|kn) fun _=>?_
   refine L ?_
   cases h
   exact ⟨by decide,rfl⟩
  ·replace h:=O hc15 h
   refine P (kt<|kn) fun _=>?_
   refine D<|D<|F<|K rfl<|J rfl<|U rfl rfl<|C rfl<|E (kt<|kt<|kt<|kt<|kn) fun _=>?_
   obtain ⟨o1,ho1,h⟩:=d2 h
   refine d6 ho1 (fun (i1:Int) (_:Unit)=>[(1,.tv (.pt (eTypes t).cells)),(27,.tv (lN t.Nodes)),(28,.tv (eI (t.Nodes.length:Int))),(29,.tv (eI i1))]) (fun (_:Unit)=>[(1,.tv (.pt (eTypes t).cells))]) (fun zv ze=>resIs ([.tmp 2,.tmp 3]) (.tp [eS zv.1,eI zv.2]) ze) rfl ?_ ?_ ?_ ?_
   ·clear h ho1
    intro i1 s1 r1 hi1 h hw1
    refine D<|F<|V rfl rfl<|E (kt<|kt<|kt<|kt<|kt<|kn) fun _=>?_
    refine D<|b5 rfl (b6 hi1)<|P (kt<|kt<|kt<|kt<|kn) fun _=>?_
    refine D<|b0<|D<|F<|C rfl ?_
    obtain ⟨x32,hx32,h⟩:=I h
    refine W rfl rfl rfl hx32 rfl<|R rfl rfl (show _=eNodeType x32 from rfl)<|b1 rfl<|C rfl<|a8 rfl rfl rfl rfl rfl<|E (kt<|kt<|kb<|kt<|kt<|kt<|kn) fun _=>?_
    refine D<|F<|R rfl rfl (show _=eTypes t from rfl)<|C rfl ?_
    obtain ⟨x36,hx36,h⟩:=I h
    refine T rfl (c144 t i1 _ hx36)<|C rfl<|E (kt<|kb<|kt<|kt<|kt<|kt<|kn) fun _=>?_
    refine D<|F<|C rfl<|a9 rfl rfl<|E (kt<|kb<|kt<|kt<|kt<|kt<|kt<|kn) fun _=>?_
    refine S rfl (fun hc38=>?_) (fun hc38=>?_)
    ·replace h:=M hc38 h
     refine D<|F<|a3 rfl<|J rfl<|C rfl<|C rfl<|C rfl<|E (kt<|kt<|kn) fun _=>?_
     refine L ?_
     cases h
     exact ⟨_,rfl,⟨by decide,rfl⟩⟩
    ·replace h:=O hc38 h
     refine P (kt<|kt<|kt<|kt<|kn) fun _=>?_
     refine F<|a7 rfl rfl<|C rfl<|E (kt<|kt<|kt<|kt<|kn) ?_
     cases h
     refine ⟨_,rfl,?_⟩
     rw [Ktv rfl (Ktv rfl (Ktv rfl (Ktv rfl (Knil _))))]
     rw [b4 (a5 (hw1 29)) hi1 (e0 (a5 (hw1 28)))]
     all_goals rfl
   ·intro i1 s1 hi1
    refine D<|F<|V rfl rfl<|E (kt<|kt<|kt<|kt<|kt<|kn) fun _=>?_
    refine D<|b7 rfl (b8 hi1)<|b3 (kt<|kn) ?_
    exact ⟨rfl,rfl⟩
   ·intro s1 hs
    replace h:=d3 h hs
    intro _
    refine D<|D<|F<|K rfl<|J rfl<|U rfl rfl<|C rfl<|E (kt<|kt<|kt<|kt<|kn) fun _=>?_
    obtain ⟨o3,ho3,h⟩:=d2 h
    refine d6 ho3 (fun (i3:Int) (_:Unit)=>[(1,.tv (.pt (eTypes t).cells)),(44,.tv (lX t.Edges)),(45,.tv (eI (t.Edges.length:Int))),(46,.tv (eI i3))]) (fun (_:Unit)=>[]) (fun zv ze=>resIs ([.tmp 2,.tmp 3]) (.tp [eS zv.1,eI zv.2]) ze) rfl ?_ ?_ ?_ ?_
    ·clear h ho3
     intro i3 s3 r3 hi3 h hw3
     refine D<|F<|V rfl rfl<|E (kt<|kt<|kt<|kt<|kt<|kn) fun _=>?_
     refine D<|b5 rfl (b6 hi3)<|P (kt<|kt<|kt<|kt<|kn) fun _=>?_
     refine D<|b0<|D<|F<|C rfl ?_
     obtain ⟨x49,hx49,h⟩:=I h
     refine W rfl rfl rfl hx49 rfl<|R rfl rfl (show _=eEdgeType x49 from rfl)<|b1 rfl<|C rfl<|a8 rfl rfl rfl rfl rfl<|E (kt<|kt<|kb<|kt<|kt<|kt<|kn) fun _=>?_
     refine D<|F<|R rfl rfl (show _=eTypes t from rfl)<|C rfl ?_
     obtain ⟨x53,hx53,h⟩:=I h
     refine T rfl (c145 t i3 _ hx53)<|C rfl<|E (kt<|kb<|kt<|kt<|kt<|kt<|kn) fun _=>?_
     refine D<|F<|C rfl<|a9 rfl rfl<|E (kt<|kb<|kt<|kt<|kt<|kt<|kt<|kn) fun _=>?_
     refine S rfl (fun hc55=>?_) (fun hc55=>?_)
     ·replace h:=M hc55 h
      refine D<|F<|a3 rfl<|J rfl<|C rfl<|C rfl<|C rfl<|E (kt<|kt<|kn) fun _=>?_
      refine L ?_
      cases h
      exact ⟨_,rfl,⟨by decide,rfl⟩⟩
     ·replace h:=O hc55 h
      refine P (kt<|kt<|kt<|kt<|kn) fun _=>?_
      refine F<|a7 rfl rfl<|C rfl<|E (kt<|kt<|kt<|kt<|kn) ?_
      cases h
      refine ⟨_,rfl,?_⟩
      rw [Ktv rfl (Ktv rfl (Ktv rfl (Ktv rfl (Knil _))))]
      rw [b4 (a5 (hw3 46)) hi3 (e0 (a5 (hw3 45)))]
      all_goals rfl
    ·intro i3 s3 hi3
     refine D<|F<|V rfl rfl<|E (kt<|kt<|kt<|kt<|kt<|kn) fun _=>?_
     refine D<|b7 rfl (b8 hi3)<|b3 (kn) ?_
     exact ⟨rfl,rfl⟩
    ·intro s3 hs
     replace h:=d3 h hs
     intro _
     refine D<|F<|C rfl<|C rfl<|E (kt<|kt<|kn) fun _=>?_
     refine L ?_
     cases h
     exact ⟨by decide,rfl⟩
    ·intro v3 ze hv hR
     replace h:=d4 h hv
     cases h
     exact hR
   ·intro v1 ze hv hR
    replace h:=d4 h hv
    cases h
    exact hR
theorem ck184:CK f184 (Rq [Ak 2] [0]<|Rq [Aa 3 0,Bo 4 3 1,Aa 5 4,Aq 6 0 5,Ci 7 6 3 5,At 8 5 7,Aa 2 8] [2]<|.ret) [.tmp 2]:= by decide +kernel
theorem c184 (n:Int) (r:Bool) (h:triple_is n=some r):Sound prog 184 [eI n] (.sh (eB r)):= by
 refine Fn ck184 fun hw=>?_
 unfold triple_is at h
 refine D<|F<|C rfl<|E (kt<|kn) fun _=>?_
 refine D<|F<|C rfl<|d5 rfl rfl<|C rfl ?_
 refine gA 3 [6,7] 8 (decide (1<=n)) (decide (n<=3)) (fun hg8=>?_) (fun hg8=>?_) ?_
 ·refine G rfl hg8<|C rfl<|G rfl hg8<|f4 rfl rfl<|Y rfl hg8 rfl ?_
  exact ⟨⟨_,_,rfl⟩⟩
 ·refine H rfl hg8<|H rfl hg8<|Z rfl hg8 rfl ?_
  exact ⟨⟨_,_,rfl⟩⟩
 rintro _ ⟨_,_,rfl⟩
 refine C rfl<|E (kt<|kn) fun _=>?_
 exact L (by cases h;rfl)
theorem ck185:CK f185 (Rq [Af 3 0,Af 4 1,Ad 6 0] [2,3,4]<|Rq [Ac 10 4 1,Ab 11 10,Aa 12 2,Ag 13 11 12 1,Ab 14 13,Aa 7 14] [2,3,4,7]<|Sq (Rq [Aa 15 7,Au 16 184 15,Az 17 16] [2,3,4,7,17]<|Co 17 (Rq [Ad 6 6] [6]<|.ret)<|Sk [2,3,4,7])<|Sq (Dr [8,9,18,19,20,21,22,23,24,25,26,27,28,29,30,31,32,33,34,35,36,37] [Ac 18 4 0,Ab 19 18,Ac 20 3 1,Ab 21 20,Aa 22 2,Ag 23 21 22 7,Ai 24 23 1,Ab 25 24,Ag 26 19 25 1,Ab 27 26,Ac 28 4 0,Ab 29 28,Ac 30 3 1,Ab 31 30,Aa 32 2,Ag 33 31 32 7,Ai 34 33 2,Ab 35 34,Ag 36 29 35 1,Ab 37 36,Aa 8 27,Aa 9 37] [7,8,9])<|Sq (Rq [Aa 38 8,Aa 39 7,Bx 40 38 39,Aa 41 40,Aw 42 9 41,Aw 43 7 41,⟨some 44,.bin (.i) .eql (.s 42) (.s 43),some (41,false)⟩,Aw 45 7 41,⟨some 46,.bin (.i) .eql (.s 45) (.c (.int .i64 2)),some (41,false)⟩,⟨some 47,.bin (.b) .eql (.s 44) (.s 46),some (41,false)⟩,As 48 41 47] [48]<|Co 48 (Rq [Ad 6 13] [6]<|.ret)<|Sk [])<|Rq [Ad 6 0] [6]<|.ret) [.tmp 6]:= by decide +kernel
theorem c185 (t:Types) (s_1:Sorts) (i_2:Int) (r:Int) (h:triple_edge t s_1 i_2=some r):Sound prog 185 [eTypes t,eSorts s_1,eI i_2] (.sh (eI r)):= by
 refine Fn ck185 fun hw=>?_
 unfold triple_edge at h
 refine D<|F<|a4 rfl rfl<|a4 rfl rfl<|C rfl<|E (kt<|kt<|kt<|kn) fun _=>?_
 refine D<|F<|K rfl<|J rfl<|C rfl ?_
 obtain ⟨x13,hx13,h⟩:=I h
 refine W rfl rfl rfl hx13 rfl<|J rfl<|C rfl<|E (kt<|kt<|kt<|kt<|kn) fun _=>?_
 refine D<|D<|F<|C rfl ?_
 obtain ⟨x16,hx16,h⟩:=I h
 refine T rfl (c184 x13 _ hx16)<|d0 rfl<|E (kt<|kt<|kt<|kt<|kt<|kn) fun _=>?_
 refine S rfl (fun hc17=>?_) (fun hc17=>?_)
 ·replace h:=M hc17 h
  refine D<|F<|C rfl<|E (kt<|kn) fun _=>?_
  exact L (by cases h;rfl)
 ·replace h:=O hc17 h
  refine P (kt<|kt<|kt<|kt<|kn) fun _=>?_
  refine D<|b9 rfl<|K rfl<|J rfl<|K rfl<|J rfl<|C rfl ?_
  obtain ⟨x23,hx23,h⟩:=I h
  refine W rfl rfl rfl hx23 rfl<|a6 rfl<|J rfl ?_
  obtain ⟨x26,hx26,h⟩:=I h
  refine W rfl rfl rfl hx26 rfl<|J rfl<|K rfl<|J rfl<|K rfl<|J rfl<|C rfl ?_
  obtain ⟨x33,hx33,h⟩:=I h
  refine W rfl rfl rfl hx33 rfl<|a6 rfl<|J rfl ?_
  obtain ⟨x36,hx36,h⟩:=I h
  refine W rfl rfl rfl hx36 rfl<|J rfl<|C rfl<|C rfl<|E (kt<|kt<|kt<|kn) fun _=>?_
  refine D<|D<|F<|C rfl<|C rfl<|a9 rfl rfl<|C rfl ?_
  refine gO 7 [42,43,44,45,46,47] 48 (!decide (x26=x13)) ((decide (x36=x13))==(decide (x13=2))) (fun hg48=>?_) (fun hg48=>?_) ?_
  ·refine H rfl hg48<|H rfl hg48<|H rfl hg48<|H rfl hg48<|H rfl hg48<|H rfl hg48<|Y rfl hg48 rfl ?_
   exact ⟨⟨_,_,_,_,_,_,rfl⟩⟩
  ·refine G rfl hg48<|C rfl<|G rfl hg48<|C rfl<|G rfl hg48<|d1 rfl rfl<|G rfl hg48<|C rfl<|G rfl hg48<|d1 rfl rfl<|G rfl hg48<|p3 rfl rfl<|Z rfl hg48 rfl ?_
   exact ⟨⟨_,_,_,_,_,_,rfl⟩⟩
  rintro _ ⟨_,_,_,_,_,_,rfl⟩
  refine E (kt<|kn) fun _=>?_
  refine S rfl (fun hc48=>?_) (fun hc48=>?_)
  ·replace h:=M hc48 h
   refine D<|F<|C rfl<|E (kt<|kn) fun _=>?_
   exact L (by cases h;rfl)
  ·replace h:=O hc48 h
   refine P (kn) fun _=>?_
   refine D<|F<|C rfl<|E (kt<|kn) fun _=>?_
   exact L (by cases h;rfl)
theorem ck142:CK f142 (Rq [Af 2 0,Af 3 1,Ad 4 0] [2,3]<|Sq (Rq [Ae 13 2 2,Au 14 96 13,Aa 12 14,Am 15 12 0,Am 16 12 1,Aa 5 15,Aa 6 16] [2,3,6]<|Rq [Aa 17 6,Av 18 17 0] [2,3,6,18]<|Co 18 (Rq [Aa 19 6,Aa 4 19] [4]<|.ret)<|Sk [2,3])<|Sq (Rq [Ac 20 3 0,Ab 21 20,Ah 22 21,Ac 23 2 0,Ab 24 23,Ah 25 24,Bx 26 22 25,Aa 27 26,Ar 28 3 1 27,Ao 29 28 27,Bc 30 29 27,Ar 31 2 1 27,Ao 32 31 27,Bc 33 32 27,Cv 34 30 33 27,As 35 27 34] [2,3,35]<|Co 35 (Rq [Ad 4 20] [4]<|.ret)<|Sk [2,3])<|Sq (Rq [Ac 36 3 0,Ab 37 36,Ah 38 37,Ad 39 0] [2,3,37,38,39]<|Bl 0<|Lo [2,3,37,38,39]<|Rq [Ap 40 39 38] [2,3,37,38,39,40]<|Sq (Co 40 (Sk [2,3,37,38,39])<|Ex 0 [2,3])<|Sq (Bl 1<|Rq [Aa 41 39,Ag 42 37 39 1,Ab 43 42,Aa 7 41,Aa 8 43] [2,3,7,8,37,38,39]<|Sq (Rq [Aa 44 8,Au 45 184 44,Az 46 45] [2,3,7,8,37,38,39,46]<|Co 46 (Rq [Ad 4 6] [4]<|.ret)<|Sk [2,3,7,8,37,38,39])<|Rq [Ac 47 2 0,Ab 48 47,Aa 49 7,Ag 50 48 49 4,Ai 51 50 1,Ab 52 51,Aa 9 52] [2,3,8,9,37,38,39]<|Rq [Aa 53 9,Bo 54 53 0,Aa 55 54,Ba 56 3 0 55,Ax 57 56 55,Aq 58 9 55,Cb 59 57 58 1 55,Ax 60 59 55,Aq 61 8 55,⟨some 62,.bin (.i) .neq (.s 60) (.s 61),some (55,true)⟩,At 63 55 62] [2,3,37,38,39,63]<|Co 63 (Rq [Ad 4 13] [4]<|.ret)<|Sk [2,3,37,38,39])<|Re [An 64 39 1,Aa 39 64] [2,3,37,38,39])<|Sq (Rq [Ac 65 3 1,Ab 66 65,Ah 67 66,Ad 68 0] [2,3,67,68]<|Bl 2<|Lo [2,3,67,68]<|Rq [Ap 69 68 67] [2,3,67,68,69]<|Sq (Co 69 (Sk [2,3,67,68])<|Ex 2 [])<|Sq (Bl 3<|Rq [Aa 70 68,Aa 10 70] [2,3,10,67,68]<|Rq [Ae 71 2 2,Ae 72 3 2,Aa 73 10,Bg 74 185 71 72 73,Aa 11 74] [2,3,11,67,68]<|Rq [Aa 75 11,Av 76 75 0] [2,3,11,67,68,76]<|Co 76 (Rq [Aa 77 11,Aa 4 77] [4]<|.ret)<|Sk [2,3,67,68])<|Re [An 78 68 1,Aa 68 78] [2,3,67,68])<|Rq [Ad 4 0] [4]<|.ret) [.tmp 4]:= by decide +kernel
theorem c142 (t:Types) (s_1:Sorts) (r:Int) (h:triple_sorts t s_1=some r):Sound prog 142 [eTypes t,eSorts s_1] (.sh (eI r)):= by
 refine Fn ck142 fun hw=>?_
 unfold triple_sorts at h
 refine D<|F<|a4 rfl rfl<|a4 rfl rfl<|C rfl<|E (kt<|kt<|kn) fun _=>?_
 refine D<|D<|F<|R rfl rfl (show _=eTypes t from rfl) ?_
 obtain ⟨x14,hx14,h⟩:=I h
 refine e5 rfl (c96 t _ hx14)<|e6 rfl<|b2 rfl rfl<|b2 rfl rfl<|C rfl<|C rfl<|E (kt<|kt<|kt<|kn) fun _=>?_
 refine D<|F<|C rfl<|a9 rfl rfl<|E (kt<|kt<|kt<|kt<|kn) fun _=>?_
 refine S rfl (fun hc18=>?_) (fun hc18=>?_)
 ·replace h:=M hc18 h
  refine D<|F<|C rfl<|C rfl<|E (kt<|kn) fun _=>?_
  exact L (by cases h;rfl)
 ·replace h:=O hc18 h
  refine P (kt<|kt<|kn) fun _=>?_
  refine D<|D<|F<|K rfl<|J rfl<|U rfl rfl<|K rfl<|J rfl<|U rfl rfl<|a9 rfl rfl<|C rfl ?_
  refine gO 8 [28,29,30,31,32,33,34] 35 (!decide ((s_1.Nodes.length:Int)=(t.Nodes.length:Int))) (!decide ((s_1.Edges.length:Int)=(t.Edges.length:Int))) (fun hg35=>?_) (fun hg35=>?_) ?_
  ·refine H rfl hg35<|H rfl hg35<|H rfl hg35<|H rfl hg35<|H rfl hg35<|H rfl hg35<|H rfl hg35<|Y rfl hg35 rfl ?_
   exact ⟨⟨_,_,_,_,_,_,_,rfl⟩⟩
  ·refine G rfl hg35<|K rfl<|G rfl hg35<|J rfl<|G rfl hg35<|U rfl rfl<|G rfl hg35<|K rfl<|G rfl hg35<|J rfl<|G rfl hg35<|U rfl rfl<|G rfl hg35<|a9 rfl rfl<|Z rfl hg35 rfl ?_
   exact ⟨⟨_,_,_,_,_,_,_,rfl⟩⟩
  rintro _ ⟨_,_,_,_,_,_,_,rfl⟩
  refine E (kt<|kt<|kt<|kn) fun _=>?_
  refine S rfl (fun hc35=>?_) (fun hc35=>?_)
  ·replace h:=M hc35 h
   refine D<|F<|C rfl<|E (kt<|kn) fun _=>?_
   exact L (by cases h;rfl)
  ·replace h:=O hc35 h
   refine P (kt<|kt<|kn) fun _=>?_
   refine D<|D<|F<|K rfl<|J rfl<|U rfl rfl<|C rfl<|E (kt<|kt<|kt<|kt<|kt<|kn) fun _=>?_
   obtain ⟨o0,ho0,h⟩:=d2 h
   refine d6 ho0 (fun (i0:Int) (_:Unit)=>[(2,.tv (.pt (eTypes t).cells)),(3,.tv (.pt (eSorts s_1).cells)),(37,.tv (lI s_1.Nodes)),(38,.tv (eI (s_1.Nodes.length:Int))),(39,.tv (eI i0))]) (fun (_:Unit)=>[(2,.tv (.pt (eTypes t).cells)),(3,.tv (.pt (eSorts s_1).cells))]) (fun zv ze=>resIs ([.tmp 4]) (.sh (eI zv)) ze) rfl ?_ ?_ ?_ ?_
   ·clear h ho0
    intro i0 s0 r0 hi0 h hw0
    refine D<|F<|V rfl rfl<|E (kt<|kt<|kt<|kt<|kt<|kt<|kn) fun _=>?_
    refine D<|b5 rfl (b6 hi0)<|P (kt<|kt<|kt<|kt<|kt<|kn) fun _=>?_
    refine D<|b0<|D<|F<|C rfl ?_
    obtain ⟨x42,hx42,h⟩:=I h
    refine W rfl rfl rfl hx42 rfl<|J rfl<|C rfl<|C rfl<|E (kt<|kt<|kt<|kt<|kt<|kt<|kt<|kn) fun _=>?_
    refine D<|D<|F<|C rfl ?_
    obtain ⟨x45,hx45,h⟩:=I h
    refine T rfl (c184 x42 _ hx45)<|d0 rfl<|E (kt<|kt<|kt<|kt<|kt<|kt<|kt<|kt<|kn) fun _=>?_
    refine S rfl (fun hc46=>?_) (fun hc46=>?_)
    ·replace h:=M hc46 h
     refine D<|F<|C rfl<|E (kt<|kn) fun _=>?_
     refine L ?_
     cases h
     exact ⟨_,rfl,rfl⟩
    ·replace h:=O hc46 h
     refine P (kt<|kt<|kt<|kt<|kt<|kt<|kt<|kn) fun _=>?_
     refine D<|F<|K rfl<|J rfl<|C rfl ?_
     obtain ⟨x50,hx50,h⟩:=I h
     refine W rfl rfl rfl hx50 rfl<|a6 rfl<|J rfl<|C rfl<|E (kt<|kt<|kt<|kt<|kt<|kt<|kt<|kn) fun _=>?_
     refine D<|F<|C rfl<|d5 rfl rfl<|C rfl ?_
     obtain ⟨x63,hx63,h⟩:=I h
     refine gX 8 [56,57,58,59,60,61,62] 63 x63 (decide (0<=x50.Parent)) (fun hg63=>?_) (fun hg63=>?_) ?_
     ·replace h:=M hg63 hx63
      refine G rfl hg63<|K rfl<|G rfl hg63<|J rfl<|G rfl hg63<|C rfl ?_
      obtain ⟨x59,hx59,h⟩:=I h
      refine G rfl hg63<|W rfl rfl rfl hx59 rfl<|G rfl hg63<|J rfl<|G rfl hg63<|C rfl<|G rfl hg63<|a9 rfl rfl ?_
      cases h
      refine Y rfl hg63 rfl ?_
      exact ⟨⟨_,_,_,_,_,_,_,rfl⟩⟩
     ·replace h:=O hg63 hx63
      cases h
      refine H rfl hg63<|H rfl hg63<|H rfl hg63<|H rfl hg63<|H rfl hg63<|H rfl hg63<|H rfl hg63<|Z rfl hg63 rfl ?_
      exact ⟨⟨_,_,_,_,_,_,_,rfl⟩⟩
     rintro _ ⟨_,_,_,_,_,_,_,rfl⟩
     refine E (kt<|kt<|kt<|kt<|kt<|kt<|kn) fun _=>?_
     refine S rfl (fun hc63=>?_) (fun hc63=>?_)
     ·replace h:=M hc63 h
      refine D<|F<|C rfl<|E (kt<|kn) fun _=>?_
      refine L ?_
      cases h
      exact ⟨_,rfl,rfl⟩
     ·replace h:=O hc63 h
      refine P (kt<|kt<|kt<|kt<|kt<|kn) fun _=>?_
      refine F<|a7 rfl rfl<|C rfl<|E (kt<|kt<|kt<|kt<|kt<|kn) ?_
      cases h
      refine ⟨_,rfl,?_⟩
      rw [Ktv rfl (Ktv rfl (Ktv rfl (Ktv rfl (Ktv rfl (Knil _)))))]
      rw [b4 (a5 (hw0 39)) hi0 (e0 (a5 (hw0 38)))]
      all_goals rfl
   ·intro i0 s0 hi0
    refine D<|F<|V rfl rfl<|E (kt<|kt<|kt<|kt<|kt<|kt<|kn) fun _=>?_
    refine D<|b7 rfl (b8 hi0)<|b3 (kt<|kt<|kn) ?_
    exact ⟨rfl,rfl⟩
   ·intro s0 hs
    replace h:=d3 h hs
    intro _
    refine D<|D<|F<|K rfl<|J rfl<|U rfl rfl<|C rfl<|E (kt<|kt<|kt<|kt<|kn) fun _=>?_
    obtain ⟨o2,ho2,h⟩:=d2 h
    refine d6 ho2 (fun (i2:Int) (_:Unit)=>[(2,.tv (.pt (eTypes t).cells)),(3,.tv (.pt (eSorts s_1).cells)),(67,.tv (eI (s_1.Edges.length:Int))),(68,.tv (eI i2))]) (fun (_:Unit)=>[]) (fun zv ze=>resIs ([.tmp 4]) (.sh (eI zv)) ze) rfl ?_ ?_ ?_ ?_
    ·clear h ho2
     intro i2 s2 r2 hi2 h hw2
     refine D<|F<|V rfl rfl<|E (kt<|kt<|kt<|kt<|kt<|kn) fun _=>?_
     refine D<|b5 rfl (b6 hi2)<|P (kt<|kt<|kt<|kt<|kn) fun _=>?_
     refine D<|b0<|D<|F<|C rfl<|C rfl<|E (kt<|kt<|kt<|kt<|kt<|kn) fun _=>?_
     refine D<|F<|R rfl rfl (show _=eTypes t from rfl)<|R rfl rfl (show _=eSorts s_1 from rfl)<|C rfl ?_
     obtain ⟨x74,hx74,h⟩:=I h
     refine T rfl (c185 t s_1 i2 _ hx74)<|C rfl<|E (kt<|kt<|kt<|kt<|kt<|kn) fun _=>?_
     refine D<|F<|C rfl<|a9 rfl rfl<|E (kt<|kt<|kt<|kt<|kt<|kt<|kn) fun _=>?_
     refine S rfl (fun hc76=>?_) (fun hc76=>?_)
     ·replace h:=M hc76 h
      refine D<|F<|C rfl<|C rfl<|E (kt<|kn) fun _=>?_
      refine L ?_
      cases h
      exact ⟨_,rfl,rfl⟩
     ·replace h:=O hc76 h
      refine P (kt<|kt<|kt<|kt<|kn) fun _=>?_
      refine F<|a7 rfl rfl<|C rfl<|E (kt<|kt<|kt<|kt<|kn) ?_
      cases h
      refine ⟨_,rfl,?_⟩
      rw [Ktv rfl (Ktv rfl (Ktv rfl (Ktv rfl (Knil _))))]
      rw [b4 (a5 (hw2 68)) hi2 (e0 (a5 (hw2 67)))]
      all_goals rfl
    ·intro i2 s2 hi2
     refine D<|F<|V rfl rfl<|E (kt<|kt<|kt<|kt<|kt<|kn) fun _=>?_
     refine D<|b7 rfl (b8 hi2)<|b3 (kn) ?_
     exact ⟨rfl,rfl⟩
    ·intro s2 hs
     replace h:=d3 h hs
     intro _
     refine D<|F<|C rfl<|E (kt<|kn) fun _=>?_
     exact L (by cases h;rfl)
    ·intro v2 ze hv hR
     replace h:=d4 h hv
     cases h
     exact hR
   ·intro v0 ze hv hR
    replace h:=d4 h hv
    cases h
    exact hR
theorem ck112:CK f112 (Rq [Bf 2 1] [0]<|Sq (Rq [Aa 3 0,⟨some 4,.isn (.s 3),none⟩] [0,4]<|Co 4 (Rq [Bf 2 1] [2]<|.ret)<|Sk [0])<|Rq [Cj 5 1,Aa 6 0,Bb 7 1 5 6,Ay 2 7] [2]<|.ret) [.tmp 2]:= by decide +kernel
theorem c112 (s_0:List Int) (r:(List Int)) (h:slices_Clone_int s_0=some r):Sound prog 112 [lI s_0] (.own (lI r)):= by
 refine Fn ck112 fun hw=>?_
 unfold slices_Clone_int at h
 refine D<|F<|f0<|E (kt<|kn) fun _=>?_
 refine D<|D<|F<|C rfl<|m6 rfl rfl fun z4 hz4=>?_
 replace h:=m7 h z4 hz4
 refine E (kt<|kt<|kn) fun _=>?_
 refine S rfl (fun hc4=>?_) (fun hc4=>?_)
 ·replace h:=M hc4 h
  refine D<|F<|f0<|E (ko<|kn) fun _=>?_
  exact L (by cases h;rfl)
 ·replace h:=O hc4 h
  refine P (kt<|kn) fun _=>?_
  refine D<|F<|e1 (e:=eI) (l:=[]) rfl rfl (fun _=>rfl)<|C rfl ?_
  obtain ⟨x7,hx7,h⟩:=I h
  refine e7 rfl rfl rfl rfl hx7 rfl<|f2 rfl<|E (ko<|kn) fun _=>?_
  exact L (by cases h;rfl)
theorem ck143:CK f143 (Rq [Bf 2 1] [0]<|Rq [Aa 6 0,⟨some 7,.callx 112 [.s 6],none⟩,Cm 3 7] [3]<|Sq (Rq [Cp 8 3,⟨some 9,.xlen (.s 8),none⟩,Ad 10 0] [3,8,9,10]<|Bl 0<|Lo [3,8,9,10]<|Rq [Ap 11 10 9] [3,8,9,10,11]<|Sq (Co 11 (Sk [3,8,9,10])<|Ex 0 [3])<|Sq (Bl 1<|Rq [Aa 12 10,Do 13 8 10 1,⟨some 14,.xld (.s 13),none⟩,Aa 4 12,Aa 5 14] [3,4,5,8,9,10]<|Re [Cp 15 3,Aa 16 4,Aa 17 5,⟨some 18,.bin (.i) .sub (.c (.int .i64 4)) (.s 17),none⟩,Do 19 15 16 1,⟨none,.xst (.s 19) (.s 18),none⟩] [3,8,9,10])<|Re [An 20 10 1,Aa 10 20] [3,8,9,10])<|Rq [Dz 21 3,Ay 2 21] [2]<|.ret) [.tmp 2]:= by decide +kernel
theorem c143 (l:List Int) (r:(List Int)) (h:triple_swapped l=some r):Sound prog 143 [lI l] (.own (lI r)):= by
 refine Fn ck143 fun hw=>?_
 unfold triple_swapped at h
 refine D<|F<|f0<|E (kt<|kn) fun _=>?_
 refine D<|F<|C rfl ?_
 obtain ⟨x7,hx7,h⟩:=I h
 refine p4 rfl rfl (c112 l _ hx7) rfl (fun _=>rfl)<|l1 rfl rfl (by decide)<|E (kx<|kn) fun _=>?_
 refine D<|D<|F<|l3 rfl<|m8 rfl rfl<|C rfl<|E (kx<|kl<|kt<|kt<|kn) fun _=>?_
 obtain ⟨s0,hs0,h⟩:=I h
 refine f5 hs0 (fun (i0:Int) (s0:List Int)=>[(3,.xo 1 (List.map eI s0)),(8,.la 3),(9,.tv (eI (x7.length:Int))),(10,.tv (eI i0))]) (fun (s0:List Int)=>[(3,.xo 1 (List.map eI s0))]) rfl ?_ ?_ ?_
 ·clear h hs0
  intro i0 s0 r0 hi0 h hw0
  refine D<|F<|V rfl rfl<|E (kx<|kl<|kt<|kt<|kt<|kn) fun _=>?_
  refine D<|b5 rfl (b6 hi0)<|P (kx<|kl<|kt<|kt<|kn) fun _=>?_
  refine D<|b0<|D<|F<|C rfl ?_
  obtain ⟨x13,hx13,h⟩:=I h
  refine m0 rfl rfl rfl hx13<|p5 (i:=0) rfl rfl rfl (fun _=>rfl) hx13 rfl rfl rfl rfl<|C rfl<|C rfl<|E (kx<|kt<|kt<|kl<|kt<|kt<|kn) fun _=>?_
  refine F<|l3 rfl<|C rfl<|C rfl<|g4 rfl rfl ?_
  obtain ⟨x19,hx19,h⟩:=I h
  refine m0 rfl rfl rfl hx19<|m9 (i:=0) (b:=(w64 (4 - x13))) rfl rfl rfl rfl (fun _=>rfl) hx19 rfl rfl rfl rfl rfl<|E (kx<|kl<|kt<|kt<|kn) fun _=>?_
  refine F<|a7 rfl rfl<|C rfl<|E (kx<|kl<|kt<|kt<|kn) ?_
  cases h
  show Env.keep _ _=_
  rw [Kxo rfl (Kla rfl (Ktv rfl (Ktv rfl (Knil _))))]
  rw [b4 (a5 (hw0 10)) hi0 (e0 (a5 (hw0 9)))]
  all_goals rfl
 ·intro i0 s0 hi0
  refine D<|F<|V rfl rfl<|E (kx<|kl<|kt<|kt<|kt<|kn) fun _=>?_
  refine D<|b7 rfl (b8 hi0)<|b3 (kx<|kn) ?_
  exact ⟨rfl,rfl⟩
 ·intro _
  refine D<|F<|m3 rfl (by decide)<|f2 rfl<|E (ko<|kn) fun _=>?_
  exact L (by cases h;rfl)
theorem ck95:CK f95 (Rq [Af 2 0,Af 3 1,Bd 4 1 1,Ad 5 0] [2,3,4]<|Sq (Rq [Ae 7 2 2,Ae 8 3 2,Al 9 142 7 8,Aa 6 9] [3,4,6]<|Rq [Aa 10 6,Av 11 10 0] [3,4,6,11]<|Co 11 (Rq [De 12 1 1,Aa 13 6,Aj 2 4 12,Aa 5 13] [4,5]<|.ret)<|Sk [3,4])<|Sq (Dr [4,5,14,15,16,17,18,19,20] [Ac 14 3 0,Ab 15 14,Au 16 143 15,Ac 17 3 1,Ab 18 17,Au 19 143 18,Ck 20 1 1 0 1 16 1 1 19,Aj 2 4 20,Ad 5 0] [4,5])<|.ret) [.cell 4 (some 2),.tmp 5]:= by decide +kernel
theorem c95 (t:Types) (s_1:Sorts) (r:(Sorts × Int)) (h:triple_Swap t s_1=some r):Sound prog 95 [eTypes t,eSorts s_1] (.tp [eSorts r.1,eI r.2]):= by
 refine Fn ck95 fun hw=>?_
 unfold triple_Swap at h
 refine D<|F<|a4 rfl rfl<|a4 rfl rfl<|b1 rfl<|C rfl<|E (kt<|kt<|kb<|kn) fun _=>?_
 refine D<|D<|F<|R rfl rfl (show _=eTypes t from rfl)<|R rfl rfl (show _=eSorts s_1 from rfl) ?_
 obtain ⟨x9,hx9,h⟩:=I h
 refine T rfl (c142 t s_1 _ hx9)<|C rfl<|E (kt<|kb<|kt<|kn) fun _=>?_
 refine D<|F<|C rfl<|a9 rfl rfl<|E (kt<|kb<|kt<|kt<|kn) fun _=>?_
 refine S rfl (fun hc11=>?_) (fun hc11=>?_)
 ·replace h:=M hc11 h
  refine D<|F<|e8 rfl rfl (show _=eSorts (Sorts.mk [] []) from rfl)<|C rfl<|a8 rfl rfl rfl rfl rfl<|C rfl<|E (kb<|kt<|kn) fun _=>?_
  refine L ?_
  cases h
  exact ⟨by decide,rfl⟩
 ·replace h:=O hc11 h
  refine P (kt<|kb<|kn) fun _=>?_
  refine D<|b9 rfl<|K rfl<|J rfl ?_
  obtain ⟨x16,hx16,h⟩:=I h
  refine g6 rfl (c143 s_1.Nodes _ hx16)<|K rfl<|J rfl ?_
  obtain ⟨x19,hx19,h⟩:=I h
  refine g6 rfl (c143 s_1.Edges _ hx19)<|g5 rfl rfl rfl (show _=eSorts (Sorts.mk x16 x19) from rfl)<|a8 rfl rfl rfl rfl rfl<|C rfl<|E (kb<|kt<|kn) fun _=>?_
  refine L ?_
  cases h
  exact ⟨by decide,rfl⟩
theorem ck51:CK f51 (Rq [Af 2 0,Af 3 1,Ad 4 0] [2,3]<|Rq [Ae 8 2 2,Ae 9 3 2,Al 10 95 8 9,Aa 7 10,Am 11 7 0,Am 12 7 1,Bd 5 1 1,Aj 2 5 11,Aa 6 12] [6]<|Rq [Aa 13 6,Aa 4 13] [4]<|.ret) [.tmp 4]:= by decide +kernel
theorem c51 (t:Types) (s_1:Sorts) (r:Int) (h:triplerule_sorts t s_1=some r):Sound prog 51 [eTypes t,eSorts s_1] (.sh (eI r)):= by
 refine Fn ck51 fun hw=>?_
 unfold triplerule_sorts at h
 refine D<|F<|a4 rfl rfl<|a4 rfl rfl<|C rfl<|E (kt<|kt<|kn) fun _=>?_
 refine D<|F<|R rfl rfl (show _=eTypes t from rfl)<|R rfl rfl (show _=eSorts s_1 from rfl) ?_
 obtain ⟨x10,hx10,h⟩:=I h
 refine e5 rfl (c95 t s_1 _ hx10)<|e6 rfl<|b2 rfl rfl<|b2 rfl rfl<|b1 rfl<|a8 rfl rfl rfl rfl rfl<|C rfl<|E (kt<|kn) fun _=>?_
 refine D<|F<|C rfl<|C rfl<|E (kt<|kn) fun _=>?_
 exact L (by cases h;rfl)
theorem ck72:CK f72 (Rq [Ad 4 0] [0,1]<|Sq (Rq [Aa 6 0,Ah 7 6,Ad 8 0] [0,1,7,8]<|Bl 0<|Lo [0,1,7,8]<|Rq [Ap 9 8 7] [0,1,7,8,9]<|Sq (Co 9 (Sk [0,1,7,8])<|Ex 0 [])<|Sq (Bl 1<|Rq [Aa 10 8,Aa 5 10] [0,1,5,7,8]<|Rq [Aa 11 1,Aa 12 0,Aa 13 5,Ag 14 12 13 1,Ab 15 14,Bw 16 11 15] [0,1,5,7,8,16]<|Co 16 (Rq [Aa 17 5,Aa 4 17] [4]<|.ret)<|Sk [0,1,7,8])<|Re [An 18 8 1,Aa 8 18] [0,1,7,8])<|Rq [Cd 4 (-1)] [4]<|.ret) [.tmp 4]:= by decide +kernel
theorem c72 (s_0:List Int) (f:Int->Option Bool) (f_f:FuncId) (k_f:List TV) (h_f:∀ (y0:Int) r,f y0=some r->Sound prog f_f ([eI y0]++k_f) (.sh (eB r))) (r:Int) (h:slices_IndexFunc_int s_0 f=some r):Sound prog 72 [lI s_0,.clo f_f k_f] (.sh (eI r)):= by
 refine Fn ck72 fun hw=>?_
 unfold slices_IndexFunc_int at h
 refine D<|F<|C rfl<|E (kt<|kt<|kn) fun _=>?_
 refine D<|D<|F<|C rfl<|U rfl rfl<|C rfl<|E (kt<|kt<|kt<|kt<|kn) fun _=>?_
 obtain ⟨o0,ho0,h⟩:=d2 h
 refine d6 ho0 (fun (i0:Int) (_:Unit)=>[(0,.tv (lI s_0)),(1,.tv (.clo f_f k_f)),(7,.tv (eI (s_0.length:Int))),(8,.tv (eI i0))]) (fun (_:Unit)=>[]) (fun zv ze=>resIs ([.tmp 4]) (.sh (eI zv)) ze) rfl ?_ ?_ ?_ ?_
 ·clear h ho0
  intro i0 s0 r0 hi0 h hw0
  refine D<|F<|V rfl rfl<|E (kt<|kt<|kt<|kt<|kt<|kn) fun _=>?_
  refine D<|b5 rfl (b6 hi0)<|P (kt<|kt<|kt<|kt<|kn) fun _=>?_
  refine D<|b0<|D<|F<|C rfl<|C rfl<|E (kt<|kt<|kt<|kt<|kt<|kn) fun _=>?_
  refine D<|F<|C rfl<|C rfl<|C rfl ?_
  obtain ⟨x14,hx14,h⟩:=I h
  refine W rfl rfl rfl hx14 rfl<|J rfl ?_
  obtain ⟨x16,hx16,h⟩:=I h
  refine g3 rfl rfl (h_f _ _ hx16)<|E (kt<|kt<|kt<|kt<|kt<|kt<|kn) fun _=>?_
  refine S rfl (fun hc16=>?_) (fun hc16=>?_)
  ·replace h:=M hc16 h
   refine D<|F<|C rfl<|C rfl<|E (kt<|kn) fun _=>?_
   refine L ?_
   cases h
   exact ⟨_,rfl,rfl⟩
  ·replace h:=O hc16 h
   refine P (kt<|kt<|kt<|kt<|kn) fun _=>?_
   refine F<|a7 rfl rfl<|C rfl<|E (kt<|kt<|kt<|kt<|kn) ?_
   cases h
   refine ⟨_,rfl,?_⟩
   rw [Ktv rfl (Ktv rfl (Ktv rfl (Ktv rfl (Knil _))))]
   rw [b4 (a5 (hw0 8)) hi0 (e0 (a5 (hw0 7)))]
   all_goals rfl
 ·intro i0 s0 hi0
  refine D<|F<|V rfl rfl<|E (kt<|kt<|kt<|kt<|kt<|kn) fun _=>?_
  refine D<|b7 rfl (b8 hi0)<|b3 (kn) ?_
  exact ⟨rfl,rfl⟩
 ·intro s0 hs
  replace h:=d3 h hs
  intro _
  refine D<|F<|C rfl<|E (kt<|kn) fun _=>?_
  exact L (by cases h;rfl)
 ·intro v0 ze hv hR
  replace h:=d4 h hv
  cases h
  exact hR
theorem ck30:CK f30 (Rq [Ak 4] [0,1]<|Rq [Aa 5 0,Aa 6 1,Al 7 72 5 6,Bo 8 7 0,Aa 4 8] [4]<|.ret) [.tmp 4]:= by decide +kernel
theorem c30 (s_0:List Int) (f:Int->Option Bool) (f_f:FuncId) (k_f:List TV) (h_f:∀ (y0:Int) r,f y0=some r->Sound prog f_f ([eI y0]++k_f) (.sh (eB r))) (r:Bool) (h:slices_ContainsFunc_int s_0 f=some r):Sound prog 30 [lI s_0,.clo f_f k_f] (.sh (eB r)):= by
 refine Fn ck30 fun hw=>?_
 unfold slices_ContainsFunc_int at h
 refine D<|F<|C rfl<|E (kt<|kt<|kn) fun _=>?_
 refine D<|F<|C rfl<|C rfl ?_
 obtain ⟨x7,hx7,h⟩:=I h
 refine T rfl (c72 s_0 f _ _ h_f _ hx7)<|d5 rfl rfl<|C rfl<|E (kt<|kn) fun _=>?_
 exact L (by cases h;rfl)
theorem ck198:CK f198 (Rq [Ad 4 0] [0,1]<|Sq (Rq [Aa 6 0,Ah 7 6,Ad 8 0] [0,1,7,8]<|Bl 0<|Lo [0,1,7,8]<|Rq [Ap 9 8 7] [0,1,7,8,9]<|Sq (Co 9 (Sk [0,1,7,8])<|Ex 0 [])<|Sq (Bl 1<|Rq [Aa 10 8,Aa 5 10] [0,1,5,7,8]<|Rq [Aa 11 1,Aa 12 0,Aa 13 5,Ag 14 12 13 3,Ae 15 14 3,Bw 16 11 15] [0,1,5,7,8,16]<|Co 16 (Rq [Aa 17 5,Aa 4 17] [4]<|.ret)<|Sk [0,1,7,8])<|Re [An 18 8 1,Aa 8 18] [0,1,7,8])<|Rq [Cd 4 (-1)] [4]<|.ret) [.tmp 4]:= by decide +kernel
theorem c198 (s_0:List Edge) (f:Edge->Option Bool) (f_f:FuncId) (k_f:List TV) (h_f:∀ (y0:Edge) r,f y0=some r->Sound prog f_f ([eEdge y0]++k_f) (.sh (eB r))) (r:Int) (h:slices_IndexFunc_Edge s_0 f=some r):Sound prog 198 [lE s_0,.clo f_f k_f] (.sh (eI r)):= by
 refine Fn ck198 fun hw=>?_
 unfold slices_IndexFunc_Edge at h
 refine D<|F<|C rfl<|E (kt<|kt<|kn) fun _=>?_
 refine D<|D<|F<|C rfl<|U rfl rfl<|C rfl<|E (kt<|kt<|kt<|kt<|kn) fun _=>?_
 obtain ⟨o0,ho0,h⟩:=d2 h
 refine d6 ho0 (fun (i0:Int) (_:Unit)=>[(0,.tv (lE s_0)),(1,.tv (.clo f_f k_f)),(7,.tv (eI (s_0.length:Int))),(8,.tv (eI i0))]) (fun (_:Unit)=>[]) (fun zv ze=>resIs ([.tmp 4]) (.sh (eI zv)) ze) rfl ?_ ?_ ?_ ?_
 ·clear h ho0
  intro i0 s0 r0 hi0 h hw0
  refine D<|F<|V rfl rfl<|E (kt<|kt<|kt<|kt<|kt<|kn) fun _=>?_
  refine D<|b5 rfl (b6 hi0)<|P (kt<|kt<|kt<|kt<|kn) fun _=>?_
  refine D<|b0<|D<|F<|C rfl<|C rfl<|E (kt<|kt<|kt<|kt<|kt<|kn) fun _=>?_
  refine D<|F<|C rfl<|C rfl<|C rfl ?_
  obtain ⟨x14,hx14,h⟩:=I h
  refine W rfl rfl rfl hx14 rfl<|R rfl rfl (show _=eEdge x14 from rfl) ?_
  obtain ⟨x16,hx16,h⟩:=I h
  refine g3 rfl rfl (h_f _ _ hx16)<|E (kt<|kt<|kt<|kt<|kt<|kt<|kn) fun _=>?_
  refine S rfl (fun hc16=>?_) (fun hc16=>?_)
  ·replace h:=M hc16 h
   refine D<|F<|C rfl<|C rfl<|E (kt<|kn) fun _=>?_
   refine L ?_
   cases h
   exact ⟨_,rfl,rfl⟩
  ·replace h:=O hc16 h
   refine P (kt<|kt<|kt<|kt<|kn) fun _=>?_
   refine F<|a7 rfl rfl<|C rfl<|E (kt<|kt<|kt<|kt<|kn) ?_
   cases h
   refine ⟨_,rfl,?_⟩
   rw [Ktv rfl (Ktv rfl (Ktv rfl (Ktv rfl (Knil _))))]
   rw [b4 (a5 (hw0 8)) hi0 (e0 (a5 (hw0 7)))]
   all_goals rfl
 ·intro i0 s0 hi0
  refine D<|F<|V rfl rfl<|E (kt<|kt<|kt<|kt<|kt<|kn) fun _=>?_
  refine D<|b7 rfl (b8 hi0)<|b3 (kn) ?_
  exact ⟨rfl,rfl⟩
 ·intro s0 hs
  replace h:=d3 h hs
  intro _
  refine D<|F<|C rfl<|E (kt<|kn) fun _=>?_
  exact L (by cases h;rfl)
 ·intro v0 ze hv hR
  replace h:=d4 h hv
  cases h
  exact hR
theorem ck149:CK f149 (Rq [Ak 4] [0,1]<|Rq [Aa 5 0,Aa 6 1,Al 7 198 5 6,Bo 8 7 0,Aa 4 8] [4]<|.ret) [.tmp 4]:= by decide +kernel
theorem c149 (s_0:List Edge) (f:Edge->Option Bool) (f_f:FuncId) (k_f:List TV) (h_f:∀ (y0:Edge) r,f y0=some r->Sound prog f_f ([eEdge y0]++k_f) (.sh (eB r))) (r:Bool) (h:slices_ContainsFunc_Edge s_0 f=some r):Sound prog 149 [lE s_0,.clo f_f k_f] (.sh (eB r)):= by
 refine Fn ck149 fun hw=>?_
 unfold slices_ContainsFunc_Edge at h
 refine D<|F<|C rfl<|E (kt<|kt<|kn) fun _=>?_
 refine D<|F<|C rfl<|C rfl ?_
 obtain ⟨x7,hx7,h⟩:=I h
 refine T rfl (c198 s_0 f _ _ h_f _ hx7)<|d5 rfl rfl<|C rfl<|E (kt<|kn) fun _=>?_
 exact L (by cases h;rfl)
theorem ck195:CK f195 (Rq [Ak 4] [0,1]<|Rq [Aa 5 0,Bo 6 5 0,Aa 7 6,Aq 8 0 7,Aq 9 1 7,Dd 10 8 9 7,At 11 7 10,Aa 4 11] [4]<|.ret) [.tmp 4]:= by decide +kernel
theorem c195 (n:Int) (most:Int) (r:Bool) (h:graph_within n most=some r):Sound prog 195 [eI n,eI most] (.sh (eB r)):= by
 refine Fn ck195 fun hw=>?_
 unfold graph_within at h
 refine D<|F<|C rfl<|E (kt<|kt<|kn) fun _=>?_
 refine D<|F<|C rfl<|d5 rfl rfl<|C rfl ?_
 refine gA 4 [8,9,10] 11 (decide (0<=n)) (decide (n<=most)) (fun hg11=>?_) (fun hg11=>?_) ?_
 ·refine G rfl hg11<|C rfl<|G rfl hg11<|C rfl<|G rfl hg11<|f4 rfl rfl<|Y rfl hg11 rfl ?_
  exact ⟨⟨_,_,_,rfl⟩⟩
 ·refine H rfl hg11<|H rfl hg11<|H rfl hg11<|Z rfl hg11 rfl ?_
  exact ⟨⟨_,_,_,rfl⟩⟩
 rintro _ ⟨_,_,_,rfl⟩
 refine C rfl<|E (kt<|kn) fun _=>?_
 exact L (by cases h;rfl)
theorem ck194:CK f194 (Rq [Ak 2] [0]<|Rq [Aa 3 0,Ep 4 195 3 99,Az 5 4,Aa 2 5] [2]<|.ret) [.tmp 2]:= by decide +kernel
theorem c194 (t:Int) (r:Bool) (h:graph_Valid_1 t=some r):Sound prog 194 [eI t] (.sh (eB r)):= by
 refine Fn ck194 fun hw=>?_
 unfold graph_Valid_1 at h
 refine D<|F<|C rfl<|E (kt<|kn) fun _=>?_
 refine D<|F<|C rfl ?_
 obtain ⟨x4,hx4,h⟩:=I h
 refine T rfl (c195 t 99 _ hx4)<|d0 rfl<|C rfl<|E (kt<|kn) fun _=>?_
 exact L (by cases h;rfl)
theorem ck197:CK f197 (Rq [Af 2 0,Ak 4] [1,2]<|Rq [Ac 5 2 0,Ab 6 5,Ep 7 195 6 99,Aa 8 7,Ba 9 2 1 8,Ax 10 9 8,Aq 11 1 8,Dn 12 11 1 8,Ch 13 195 10 12 8,At 14 8 13,Aa 15 14,Ba 16 2 2 15,Ax 17 16 15,Aq 18 1 15,Dn 19 18 1 15,Ch 20 195 17 19 15,At 21 15 20,Aa 4 21] [4]<|.ret) [.tmp 4]:= by decide +kernel
theorem c197 (e:Edge) (nodes:Int) (r:Bool) (h:graph_fits e nodes=some r):Sound prog 197 [eEdge e,eI nodes] (.sh (eB r)):= by
 refine Fn ck197 fun hw=>?_
 unfold graph_fits at h
 refine D<|F<|a4 rfl rfl<|C rfl<|E (kt<|kt<|kn) fun _=>?_
 refine D<|F<|K rfl<|J rfl ?_
 obtain ⟨x7,hx7,h⟩:=I h
 refine T rfl (c195 e.Type' 99 _ hx7)<|C rfl ?_
 obtain ⟨x14,hx14,h⟩:=I h
 refine gX 6 [9,10,11,12,13] 14 x14 x7 (fun hg14=>?_) (fun hg14=>?_) ?_
 ·replace h:=M hg14 hx14
  refine G rfl hg14<|K rfl<|G rfl hg14<|J rfl<|G rfl hg14<|C rfl<|G rfl hg14<|g4 rfl rfl ?_
  obtain ⟨x13,hx13,h⟩:=I h
  refine G rfl hg14<|T rfl (c195 e.From (w64 (nodes - 1)) _ hx13) ?_
  cases h
  refine Y rfl hg14 rfl ?_
  exact ⟨⟨_,_,_,_,_,rfl⟩⟩
 ·replace h:=O hg14 hx14
  cases h
  refine H rfl hg14<|H rfl hg14<|H rfl hg14<|H rfl hg14<|H rfl hg14<|Z rfl hg14 rfl ?_
  exact ⟨⟨_,_,_,_,_,rfl⟩⟩
 rintro _ ⟨_,_,_,_,_,rfl⟩
 refine C rfl ?_
 obtain ⟨x21,hx21,h⟩:=I h
 refine gX 6 [16,17,18,19,20] 21 x21 x14 (fun hg21=>?_) (fun hg21=>?_) ?_
 ·replace h:=M hg21 hx21
  refine G rfl hg21<|K rfl<|G rfl hg21<|J rfl<|G rfl hg21<|C rfl<|G rfl hg21<|g4 rfl rfl ?_
  obtain ⟨x20,hx20,h⟩:=I h
  refine G rfl hg21<|T rfl (c195 e.To (w64 (nodes - 1)) _ hx20) ?_
  cases h
  refine Y rfl hg21 rfl ?_
  exact ⟨⟨_,_,_,_,_,rfl⟩⟩
 ·replace h:=O hg21 hx21
  cases h
  refine H rfl hg21<|H rfl hg21<|H rfl hg21<|H rfl hg21<|H rfl hg21<|Z rfl hg21 rfl ?_
  exact ⟨⟨_,_,_,_,_,rfl⟩⟩
 rintro _ ⟨_,_,_,_,_,rfl⟩
 refine C rfl<|E (kt<|kn) fun _=>?_
 exact L (by cases h;rfl)
theorem ck196:CK f196 (Rq [Af 2 0,Ak 3] [1,2]<|Rq [Ae 4 2 3,Ac 5 1 0,Ab 6 5,Ah 7 6,Al 8 197 4 7,Az 9 8,Aa 3 9] [3]<|.ret) [.tmp 3]:= by decide +kernel
theorem c196 (e:Edge) (c0:Graph) (r:Bool) (h:graph_Valid_2 e c0=some r):Sound prog 196 [eEdge e,.pt (eGraph c0).cells] (.sh (eB r)):= by
 refine Fn ck196 fun hw=>?_
 unfold graph_Valid_2 at h
 refine D<|F<|a4 rfl rfl<|C rfl<|E (kt<|kt<|kn) fun _=>?_
 refine D<|F<|R rfl rfl (show _=eEdge e from rfl)<|K rfl<|J rfl<|U rfl rfl ?_
 obtain ⟨x8,hx8,h⟩:=I h
 refine T rfl (c197 e (c0.Nodes.length:Int) _ hx8)<|d0 rfl<|C rfl<|E (kt<|kn) fun _=>?_
 exact L (by cases h;rfl)
theorem ck147:CK f147 (Rq [Af 1 0,Ad 2 0] [1]<|Sq (Rq [Ac 3 1 0,Ab 4 3,Ah 5 4,Bk 6 5 40,Aa 7 6,Ar 8 1 1 7,Ao 9 8 7,Bc 10 9 7,Bs 11 10 80 7,As 12 7 11] [1,12]<|Co 12 (Rq [Ad 2 3] [2]<|.ret)<|Sk [1])<|Sq (Rq [Ac 13 1 0,Ab 14 13,Du 15 30 14 194] [1,15]<|Co 15 (Rq [Ad 2 6] [2]<|.ret)<|Sk [1])<|Sq (Rq [Ac 16 1 1,Ab 17 16,Cf 18 196 1,Al 19 149 17 18] [19]<|Co 19 (Rq [Ad 2 6] [2]<|.ret)<|Sk [])<|Rq [Ad 2 0] [2]<|.ret) [.tmp 2]:= by decide +kernel
theorem c147 (g:Graph) (r:Int) (h:graph_Valid g=some r):Sound prog 147 [eGraph g] (.sh (eI r)):= by
 refine Fn ck147 fun hw=>?_
 unfold graph_Valid at h
 refine D<|F<|a4 rfl rfl<|C rfl<|E (kt<|kn) fun _=>?_
 refine D<|D<|F<|K rfl<|J rfl<|U rfl rfl<|e4 rfl rfl<|C rfl ?_
 refine gO 5 [8,9,10,11] 12 (decide (40<(g.Nodes.length:Int))) (decide (80<(g.Edges.length:Int))) (fun hg12=>?_) (fun hg12=>?_) ?_
 ·refine H rfl hg12<|H rfl hg12<|H rfl hg12<|H rfl hg12<|Y rfl hg12 rfl ?_
  exact ⟨⟨_,_,_,_,rfl⟩⟩
 ·refine G rfl hg12<|K rfl<|G rfl hg12<|J rfl<|G rfl hg12<|U rfl rfl<|G rfl hg12<|e4 rfl rfl<|Z rfl hg12 rfl ?_
  exact ⟨⟨_,_,_,_,rfl⟩⟩
 rintro _ ⟨_,_,_,_,rfl⟩
 refine E (kt<|kt<|kn) fun _=>?_
 refine S rfl (fun hc12=>?_) (fun hc12=>?_)
 ·replace h:=M hc12 h
  refine D<|F<|C rfl<|E (kt<|kn) fun _=>?_
  exact L (by cases h;rfl)
 ·replace h:=O hc12 h
  refine P (kt<|kn) fun _=>?_
  refine D<|D<|F<|K rfl<|J rfl ?_
  obtain ⟨x15,hx15,h⟩:=I h
  refine T rfl (c30 g.Nodes graph_Valid_1 _ _ (fun y0 r h=>c194 y0 r h) _ hx15)<|E (kt<|kt<|kn) fun _=>?_
  refine S rfl (fun hc15=>?_) (fun hc15=>?_)
  ·replace h:=M hc15 h
   refine D<|F<|C rfl<|E (kt<|kn) fun _=>?_
   exact L (by cases h;rfl)
  ·replace h:=O hc15 h
   refine P (kt<|kn) fun _=>?_
   refine D<|D<|F<|K rfl<|J rfl<|g2 rfl ?_
   obtain ⟨x19,hx19,h⟩:=I h
   refine T rfl (c149 g.Edges (fun y0=>graph_Valid_2 y0 g) _ _ (fun y0 r h=>c196 y0 g r h) _ hx19)<|E (kt<|kn) fun _=>?_
   refine S rfl (fun hc19=>?_) (fun hc19=>?_)
   ·replace h:=M hc19 h
    refine D<|F<|C rfl<|E (kt<|kn) fun _=>?_
    exact L (by cases h;rfl)
   ·replace h:=O hc19 h
    refine P (kn) fun _=>?_
    refine D<|F<|C rfl<|E (kt<|kn) fun _=>?_
    exact L (by cases h;rfl)
theorem ck148:CK f148 (Rq [Ak 3] [0,1]<|Rq [Aa 4 0,Ac 5 1 0,Ab 6 5,Ah 7 6,Df 8 4 7,Aa 3 8] [3]<|.ret) [.tmp 3]:= by decide +kernel
theorem c148 (n:Int) (c0:Types) (r:Bool) (h:attribute_Valid_1 n c0=some r):Sound prog 148 [eI n,.pt (eTypes c0).cells] (.sh (eB r)):= by
 refine Fn ck148 fun hw=>?_
 unfold attribute_Valid_1 at h
 refine D<|F<|C rfl<|E (kt<|kt<|kn) fun _=>?_
 refine D<|F<|C rfl<|K rfl<|J rfl<|U rfl rfl<|d5 rfl rfl<|C rfl<|E (kt<|kn) fun _=>?_
 exact L (by cases h;rfl)
theorem ck150:CK f150 (Rq [Af 2 0,Ak 3] [1,2]<|Rq [Ac 4 2 0,Ab 5 4,Ac 6 1 1,Ab 7 6,Ah 8 7,Df 9 5 8,Aa 3 9] [3]<|.ret) [.tmp 3]:= by decide +kernel
theorem c150 (x_0:Edge) (c0:Types) (r:Bool) (h:attribute_Valid_2 x_0 c0=some r):Sound prog 150 [eEdge x_0,.pt (eTypes c0).cells] (.sh (eB r)):= by
 refine Fn ck150 fun hw=>?_
 unfold attribute_Valid_2 at h
 refine D<|F<|a4 rfl rfl<|C rfl<|E (kt<|kt<|kn) fun _=>?_
 refine D<|F<|K rfl<|J rfl<|K rfl<|J rfl<|U rfl rfl<|d5 rfl rfl<|C rfl<|E (kt<|kn) fun _=>?_
 exact L (by cases h;rfl)
theorem ck151:CK f151 (Rq [Ak 6] [0,1,2]<|Rq [Aa 7 0,Aa 8 1,Df 9 7 8,Aa 10 9,Aq 11 0 10,Aq 12 2 10,Dd 13 11 12 10,At 14 10 13,Aa 6 14] [6]<|.ret) [.tmp 6]:= by decide +kernel
theorem c151 (n:Int) (low:Int) (high:Int) (r:Bool) (h:attribute_within n low high=some r):Sound prog 151 [eI n,eI low,eI high] (.sh (eB r)):= by
 refine Fn ck151 fun hw=>?_
 unfold attribute_within at h
 refine D<|F<|C rfl<|E (kt<|kt<|kt<|kn) fun _=>?_
 refine D<|F<|C rfl<|C rfl<|d5 rfl rfl<|C rfl ?_
 refine gA 4 [11,12,13] 14 (decide (low<=n)) (decide (n<=high)) (fun hg14=>?_) (fun hg14=>?_) ?_
 ·refine G rfl hg14<|C rfl<|G rfl hg14<|C rfl<|G rfl hg14<|f4 rfl rfl<|Y rfl hg14 rfl ?_
  exact ⟨⟨_,_,_,rfl⟩⟩
 ·refine H rfl hg14<|H rfl hg14<|H rfl hg14<|Z rfl hg14 rfl ?_
  exact ⟨⟨_,_,_,rfl⟩⟩
 rintro _ ⟨_,_,_,rfl⟩
 refine C rfl<|E (kt<|kn) fun _=>?_
 exact L (by cases h;rfl)
theorem ck165:CK f165 (Rq [Ak 3] [0,1]<|Rq [Aa 4 0,Bq 5 4 0,Aa 6 5,Aw 7 0 6,Ar 8 1 0 6,Ao 9 8 6,Bc 10 9 6,Bp 11 7 10 6,As 12 6 11,Aa 3 12] [3]<|.ret) [.tmp 3]:= by decide +kernel
theorem c165 (a:Int) (c0:Types) (r:Bool) (h:types_given_1 a c0=some r):Sound prog 165 [eI a,.pt (eTypes c0).cells] (.sh (eB r)):= by
 refine Fn ck165 fun hw=>?_
 unfold types_given_1 at h
 refine D<|F<|C rfl<|E (kt<|kt<|kn) fun _=>?_
 refine D<|F<|C rfl<|V rfl rfl<|C rfl ?_
 refine gO 6 [7,8,9,10,11] 12 (decide (a<0)) (decide ((c0.Nodes.length:Int)<=a)) (fun hg12=>?_) (fun hg12=>?_) ?_
 ·refine H rfl hg12<|H rfl hg12<|H rfl hg12<|H rfl hg12<|H rfl hg12<|Y rfl hg12 rfl ?_
  exact ⟨⟨_,_,_,_,_,rfl⟩⟩
 ·refine G rfl hg12<|C rfl<|G rfl hg12<|K rfl<|G rfl hg12<|J rfl<|G rfl hg12<|U rfl rfl<|G rfl hg12<|d5 rfl rfl<|Z rfl hg12 rfl ?_
  exact ⟨⟨_,_,_,_,_,rfl⟩⟩
 rintro _ ⟨_,_,_,_,_,rfl⟩
 refine C rfl<|E (kt<|kn) fun _=>?_
 exact L (by cases h;rfl)
theorem ck106:CK f106 (Rq [Af 2 0,Ad 4 0] [1,2]<|Sq (Rq [Ae 8 2 2,Au 9 96 8,Aa 7 9,Am 10 7 0,Am 11 7 1,Aa 5 10,Aa 6 11] [1,2,6]<|Rq [Aa 12 6,Av 13 12 0] [1,2,6,13]<|Co 13 (Rq [Aa 14 6,Aa 4 14] [4]<|.ret)<|Sk [1,2])<|Sq (Rq [Aa 15 1,Cf 16 165 2,Al 17 30 15 16] [17]<|Co 17 (Rq [Ad 4 6] [4]<|.ret)<|Sk [])<|Rq [Ad 4 0] [4]<|.ret) [.tmp 4]:= by decide +kernel
theorem c106 (t:Types) (l:List Int) (r:Int) (h:types_given t l=some r):Sound prog 106 [eTypes t,lI l] (.sh (eI r)):= by
 refine Fn ck106 fun hw=>?_
 unfold types_given at h
 refine D<|F<|a4 rfl rfl<|C rfl<|E (kt<|kt<|kn) fun _=>?_
 refine D<|D<|F<|R rfl rfl (show _=eTypes t from rfl) ?_
 obtain ⟨x9,hx9,h⟩:=I h
 refine e5 rfl (c96 t _ hx9)<|e6 rfl<|b2 rfl rfl<|b2 rfl rfl<|C rfl<|C rfl<|E (kt<|kt<|kt<|kn) fun _=>?_
 refine D<|F<|C rfl<|a9 rfl rfl<|E (kt<|kt<|kt<|kt<|kn) fun _=>?_
 refine S rfl (fun hc13=>?_) (fun hc13=>?_)
 ·replace h:=M hc13 h
  refine D<|F<|C rfl<|C rfl<|E (kt<|kn) fun _=>?_
  exact L (by cases h;rfl)
 ·replace h:=O hc13 h
  refine P (kt<|kt<|kn) fun _=>?_
  refine D<|D<|F<|C rfl<|g2 rfl ?_
  obtain ⟨x17,hx17,h⟩:=I h
  refine T rfl (c30 l (fun y0=>types_given_1 y0 t) _ _ (fun y0 r h=>c165 y0 t r h) _ hx17)<|E (kt<|kn) fun _=>?_
  refine S rfl (fun hc17=>?_) (fun hc17=>?_)
  ·replace h:=M hc17 h
   refine D<|F<|C rfl<|E (kt<|kn) fun _=>?_
   exact L (by cases h;rfl)
  ·replace h:=O hc17 h
   refine P (kn) fun _=>?_
   refine D<|F<|C rfl<|E (kt<|kn) fun _=>?_
   exact L (by cases h;rfl)
theorem ck235:CK f235 (Rq [Bf 2 1] [0]<|Sq (Rq [Aa 3 0,⟨some 4,.isn (.s 3),none⟩] [0,4]<|Co 4 (Rq [Bf 2 1] [2]<|.ret)<|Sk [0])<|Rq [Cj 5 1,Aa 6 0,Bb 7 1 5 6,Ay 2 7] [2]<|.ret) [.tmp 2]:= by decide +kernel
theorem c235 (s_0:List ByteArray) (r:(List ByteArray)) (h:slices_Clone_string s_0=some r):Sound prog 235 [lB s_0] (.own (lB r)):= by
 refine Fn ck235 fun hw=>?_
 unfold slices_Clone_string at h
 refine D<|F<|f0<|E (kt<|kn) fun _=>?_
 refine D<|D<|F<|C rfl<|m6 rfl rfl fun z4 hz4=>?_
 replace h:=m7 h z4 hz4
 refine E (kt<|kt<|kn) fun _=>?_
 refine S rfl (fun hc4=>?_) (fun hc4=>?_)
 ·replace h:=M hc4 h
  refine D<|F<|f0<|E (ko<|kn) fun _=>?_
  exact L (by cases h;rfl)
 ·replace h:=O hc4 h
  refine P (kt<|kn) fun _=>?_
  refine D<|F<|e1 (e:=eS) (l:=[]) rfl rfl (fun _=>rfl)<|C rfl ?_
  obtain ⟨x7,hx7,h⟩:=I h
  refine e7 rfl rfl rfl rfl hx7 rfl<|f2 rfl<|E (ko<|kn) fun _=>?_
  exact L (by cases h;rfl)
theorem ck199:CK f199 (Rq [Af 2 0,Bf 4 4,Ad 5 0] [1,2]<|Sq (Rq [Ae 9 2 2,Aa 10 1,Bh 11 1 10,Al 12 106 9 11,Aa 6 12] [1,2,6]<|Rq [Aa 13 6,Av 14 13 0] [1,2,6,14]<|Co 14 (Rq [Aa 15 6,Bf 4 4,Aa 5 15] [4,5]<|.ret)<|Sk [1,2])<|Rq [Ae 16 2 2,Aa 17 1,⟨some 18,.callx 187 [.s 16,.s 17],none⟩,Cm 7 18] [7]<|Sq (Rq [Cp 19 7,⟨some 20,.xlen (.s 19),none⟩,Ad 21 0] [7,20,21]<|Bl 0<|Lo [7,20,21]<|Rq [Ap 22 21 20] [7,20,21,22]<|Sq (Co 22 (Sk [7,20,21])<|Ex 0 [7])<|Sq (Bl 1<|Rq [Aa 23 21,Aa 8 23] [7,8,20,21]<|Re [Cp 24 7,Aa 25 8,Cp 26 7,Aa 27 8,Do 28 26 27 4,⟨some 29,.xfa (.s 28) 3,none⟩,⟨some 30,.xld (.s 29),none⟩,Au 31 235 30,Do 32 24 25 4,⟨some 33,.xfa (.s 32) 3,none⟩,⟨none,.xst (.s 33) (.s 31),none⟩] [7,20,21])<|Re [An 34 21 1,Aa 21 34] [7,20,21])<|Rq [Dz 35 7,Ay 4 35,Ad 5 0] [4,5]<|.ret) [.tmp 4,.tmp 5]:= by decide +kernel
theorem c199 (t:Types) (a:Int) (r:(List Attr × Int)) (h:types_Attrs t a=some r):Sound prog 199 [eTypes t,eI a] (.tp [lA r.1,eI r.2]):= by
 refine Fn ck199 fun hw=>?_
 unfold types_Attrs at h
 refine D<|F<|a4 rfl rfl<|f0<|C rfl<|E (kt<|kt<|kn) fun _=>?_
 refine D<|D<|F<|R rfl rfl (show _=eTypes t from rfl)<|C rfl<|e1 (e:=eI) (l:=[a]) rfl rfl (fun _=>rfl) ?_
 obtain ⟨x12,hx12,h⟩:=I h
 refine T rfl (c106 t [a] _ hx12)<|C rfl<|E (kt<|kt<|kt<|kn) fun _=>?_
 refine D<|F<|C rfl<|a9 rfl rfl<|E (kt<|kt<|kt<|kt<|kn) fun _=>?_
 refine S rfl (fun hc14=>?_) (fun hc14=>?_)
 ·replace h:=M hc14 h
  refine D<|F<|C rfl<|f0<|C rfl<|E (ko<|kt<|kn) fun _=>?_
  refine L ?_
  cases h
  exact ⟨by decide,rfl⟩
 ·replace h:=O hc14 h
  refine P (kt<|kt<|kn) fun _=>?_
  refine D<|F<|R rfl rfl (show _=eTypes t from rfl)<|C rfl ?_
  obtain ⟨x18,hx18,h⟩:=I h
  refine p1 rfl rfl (c187 t a _ hx18)<|l1 rfl rfl (by decide)<|E (kx<|kn) fun _=>?_
  refine D<|D<|F<|l3 rfl<|m8 rfl rfl<|C rfl<|E (kx<|kt<|kt<|kn) fun _=>?_
  obtain ⟨s0,hs0,h⟩:=I h
  refine f5 hs0 (fun (i0:Int) (s0:List Attr)=>[(7,.xo 4 (List.map eAttr s0)),(20,.tv (eI (x18.length:Int))),(21,.tv (eI i0))]) (fun (s0:List Attr)=>[(7,.xo 4 (List.map eAttr s0))]) rfl ?_ ?_ ?_
  ·clear h hs0
   intro i0 s0 r0 hi0 h hw0
   refine D<|F<|V rfl rfl<|E (kx<|kt<|kt<|kt<|kn) fun _=>?_
   refine D<|b5 rfl (b6 hi0)<|P (kx<|kt<|kt<|kn) fun _=>?_
   refine D<|b0<|D<|F<|C rfl<|C rfl<|E (kx<|kt<|kt<|kt<|kn) fun _=>?_
   refine F<|l3 rfl<|C rfl<|l3 rfl<|C rfl ?_
   obtain ⟨x28,hx28,h⟩:=I h
   refine m0 rfl rfl rfl hx28<|p6 rfl rfl<|p5 (i:=3) rfl rfl rfl (fun _=>rfl) hx28 rfl rfl rfl rfl ?_
   obtain ⟨x31,hx31,h⟩:=I h
   refine T rfl (own_sh (c235 x28.Names _ hx31)) ?_
   obtain ⟨x32,hx32,h⟩:=I h
   refine m0 rfl rfl rfl hx32<|p6 rfl rfl<|m9 (i:=3) (b:=(Attr.mk x32.Name x32.Low x32.High x31)) rfl rfl rfl rfl (fun _=>rfl) hx32 rfl rfl rfl rfl rfl<|E (kx<|kt<|kt<|kn) fun _=>?_
   refine F<|a7 rfl rfl<|C rfl<|E (kx<|kt<|kt<|kn) ?_
   cases h
   show Env.keep _ _=_
   rw [Kxo rfl (Ktv rfl (Ktv rfl (Knil _)))]
   rw [b4 (a5 (hw0 21)) hi0 (e0 (a5 (hw0 20)))]
   all_goals rfl
  ·intro i0 s0 hi0
   refine D<|F<|V rfl rfl<|E (kx<|kt<|kt<|kt<|kn) fun _=>?_
   refine D<|b7 rfl (b8 hi0)<|b3 (kx<|kn) ?_
   exact ⟨rfl,rfl⟩
  ·intro _
   refine D<|F<|m3 rfl (by decide)<|f2 rfl<|C rfl<|E (ko<|kt<|kn) fun _=>?_
   refine L ?_
   cases h
   exact ⟨by decide,rfl⟩
theorem ck152:CK f152 (Rq [Af 3 0,Af 4 1,Af 5 2,Dp 6 0 0 1,Ak 7] [3,4,5,6]<|Sq (Rq [Ac 10 5 0,Ab 11 10,Ac 12 4 0,Ai 13 12 0,Ab 14 13,Ah 15 14,Dc 16 15 1,Ea 17 151 11 0 16,Az 18 17] [3,4,5,6,18]<|Co 18 (Rq [Eb 19 0 0 1,Aj 4 6 19,Ak 7] [6,7]<|.ret)<|Sk [3,4,5,6])<|Sq (Dr [8,9,20,21,22,23,24,25,26,27,28,29,30,31] [Ae 21 3 2,Ac 22 4 0,Ai 23 22 0,Ab 24 23,Ac 25 5 0,Ab 26 25,Ag 27 24 26 1,Ab 28 27,Al 29 199 21 28,Aa 20 29,Am 30 20 0,Am 31 20 1,Ay 8 30,Aa 9 31] [5,6,8])<|Sq (Rq [Ac 32 5 1,Ab 33 32,Aa 34 8,Ah 35 34,Dc 36 35 1,Ea 37 151 33 0 36,Az 38 37] [5,6,8,38]<|Co 38 (Rq [Eb 39 0 0 1,Aj 4 6 39,Ak 7] [6,7]<|.ret)<|Sk [5,6,8])<|Rq [Aa 40 8,Ac 41 5 1,Ab 42 41,Ag 43 40 42 4,Ae 44 43 4,Aj 4 6 44,Cg 7] [6,7]<|.ret) [.cell 6 (some 4),.tmp 7]:= by decide +kernel
theorem c152 (t:Types) (p:Pattern) (s_2:Slot) (r:(Attr × Bool)) (h:attribute_attr t p s_2=some r):Sound prog 152 [eTypes t,ePattern p,eSlot s_2] (.tp [eAttr r.1,eB r.2]):= by
 refine Fn ck152 fun hw=>?_
 unfold attribute_attr at h
 refine D<|F<|a4 rfl rfl<|a4 rfl rfl<|a4 rfl rfl<|b1 rfl<|C rfl<|E (kt<|kt<|kt<|kb<|kn) fun _=>?_
 refine D<|D<|F<|K rfl<|J rfl<|K rfl<|a6 rfl<|J rfl<|U rfl rfl<|g4 rfl rfl ?_
 obtain ⟨x17,hx17,h⟩:=I h
 refine T rfl (c151 s_2.Node 0 (w64 ((p.Graph.Nodes.length:Int) - 1)) _ hx17)<|d0 rfl<|E (kt<|kt<|kt<|kb<|kt<|kn) fun _=>?_
 refine S rfl (fun hc18=>?_) (fun hc18=>?_)
 ·replace h:=M hc18 h
  refine D<|F<|e8 rfl rfl (show _=eAttr (Attr.mk (⟨#[]⟩:ByteArray) 0 0 []) from rfl)<|a8 rfl rfl rfl rfl rfl<|C rfl<|E (kb<|kt<|kn) fun _=>?_
  refine L ?_
  cases h
  exact ⟨by decide,rfl⟩
 ·replace h:=O hc18 h
  refine P (kt<|kt<|kt<|kb<|kn) fun _=>?_
  refine D<|b9 rfl<|R rfl rfl (show _=eTypes t from rfl)<|K rfl<|a6 rfl<|J rfl<|K rfl<|J rfl ?_
  obtain ⟨x27,hx27,h⟩:=I h
  refine W rfl rfl rfl hx27 rfl<|J rfl ?_
  obtain ⟨x29,hx29,h⟩:=I h
  refine e5 rfl (c199 t x27 _ hx29)<|e6 rfl<|b2 rfl rfl<|b2 rfl rfl<|f1 rfl<|C rfl<|E (kt<|kb<|kt<|kn) fun _=>?_
  refine D<|D<|F<|K rfl<|J rfl<|C rfl<|U rfl rfl<|g4 rfl rfl ?_
  obtain ⟨x37,hx37,h⟩:=I h
  refine T rfl (c151 s_2.Attr 0 (w64 ((x29.1.length:Int) - 1)) _ hx37)<|d0 rfl<|E (kt<|kb<|kt<|kt<|kn) fun _=>?_
  refine S rfl (fun hc38=>?_) (fun hc38=>?_)
  ·replace h:=M hc38 h
   refine D<|F<|e8 rfl rfl (show _=eAttr (Attr.mk (⟨#[]⟩:ByteArray) 0 0 []) from rfl)<|a8 rfl rfl rfl rfl rfl<|C rfl<|E (kb<|kt<|kn) fun _=>?_
   refine L ?_
   cases h
   exact ⟨by decide,rfl⟩
  ·replace h:=O hc38 h
   refine P (kt<|kb<|kt<|kn) fun _=>?_
   refine D<|F<|C rfl<|K rfl<|J rfl ?_
   obtain ⟨x43,hx43,h⟩:=I h
   refine W rfl rfl rfl hx43 rfl<|R rfl rfl (show _=eAttr x43 from rfl)<|a8 rfl rfl rfl rfl rfl<|C rfl<|E (kb<|kt<|kn) fun _=>?_
   refine L ?_
   cases h
   exact ⟨by decide,rfl⟩
theorem ck236:CK f236 (Rq [Af 3 1,Ak 4] [0,3]<|Rq [Ac 5 3 0,Ab 6 5,⟨some 7,.bin (.i) .geq (.s 6) (.c (.int .i64 (-1))),none⟩,Aa 8 7,Ba 9 3 0 8,Ax 10 9 8,Aq 11 0 8,Dw 12 10 11 8,At 13 8 12,Aa 14 13,Ba 15 3 1 14,Ax 16 15 14,⟨some 17,.bin (.i) .geq (.s 16) (.c (.int .i64 (-1000000))),some (14,true)⟩,At 18 14 17,Aa 19 18,Ba 20 3 1 19,Ax 21 20 19,Ci 22 21 1000000 19,At 23 19 22,Aa 4 23] [4]<|.ret) [.tmp 4]:= by decide +kernel
theorem c236 (n:Int) (t:Term) (r:Bool) (h:difference_term n t=some r):Sound prog 236 [eI n,eTerm t] (.sh (eB r)):= by
 refine Fn ck236 fun hw=>?_
 unfold difference_term at h
 refine D<|F<|a4 rfl rfl<|C rfl<|E (kt<|kt<|kn) fun _=>?_
 refine D<|F<|K rfl<|J rfl<|d5 rfl rfl<|C rfl ?_
 refine gA 5 [9,10,11,12] 13 (decide ((-1)<=t.Var)) (decide (t.Var<n)) (fun hg13=>?_) (fun hg13=>?_) ?_
 ·refine G rfl hg13<|K rfl<|G rfl hg13<|J rfl<|G rfl hg13<|C rfl<|G rfl hg13<|V rfl rfl<|Y rfl hg13 rfl ?_
  exact ⟨⟨_,_,_,_,rfl⟩⟩
 ·refine H rfl hg13<|H rfl hg13<|H rfl hg13<|H rfl hg13<|Z rfl hg13 rfl ?_
  exact ⟨⟨_,_,_,_,rfl⟩⟩
 rintro _ ⟨_,_,_,_,rfl⟩
 refine C rfl ?_
 refine gA 4 [15,16,17] 18 ((decide ((-1)<=t.Var))&&(decide (t.Var<n))) (decide ((-1000000)<=t.Add)) (fun hg18=>?_) (fun hg18=>?_) ?_
 ·refine G rfl hg18<|K rfl<|G rfl hg18<|J rfl<|G rfl hg18<|d5 rfl rfl<|Y rfl hg18 rfl ?_
  exact ⟨⟨_,_,_,rfl⟩⟩
 ·refine H rfl hg18<|H rfl hg18<|H rfl hg18<|Z rfl hg18 rfl ?_
  exact ⟨⟨_,_,_,rfl⟩⟩
 rintro _ ⟨_,_,_,rfl⟩
 refine C rfl ?_
 refine gA 4 [20,21,22] 23 (((decide ((-1)<=t.Var))&&(decide (t.Var<n)))&&(decide ((-1000000)<=t.Add))) (decide (t.Add<=1000000)) (fun hg23=>?_) (fun hg23=>?_) ?_
 ·refine G rfl hg23<|K rfl<|G rfl hg23<|J rfl<|G rfl hg23<|f4 rfl rfl<|Y rfl hg23 rfl ?_
  exact ⟨⟨_,_,_,rfl⟩⟩
 ·refine H rfl hg23<|H rfl hg23<|H rfl hg23<|Z rfl hg23 rfl ?_
  exact ⟨⟨_,_,_,rfl⟩⟩
 rintro _ ⟨_,_,_,rfl⟩
 refine C rfl<|E (kt<|kn) fun _=>?_
 exact L (by cases h;rfl)
theorem ck200:CK f200 (Rq [Af 3 1,Ad 4 0] [0,3]<|Sq (Bl 0<|Rq [Ac 6 3 0,Ab 7 6,Av 8 7 1,Aa 9 8,Ba 10 3 0 9,Ax 11 10 9,Fc 12 11 2 9,At 13 9 12,Aa 5 13] [0,3,5]<|Co 5 (Rq [Ad 4 1] [4]<|.ret)<|Rq [Aa 15 0,Ac 16 3 1,Ae 17 16 2,Al 18 236 15 17,Az 19 18,Aa 20 19,Aw 21 0 20,Ar 22 3 3 20,⟨some 23,.lda (.s 22) 2,some (20,false)⟩,Db 24 236 21 23 20,Br 25 24 20,As 26 20 25,Aa 14 26] [14]<|Co 14 (Rq [Ad 4 6] [4]<|.ret)<|Sk [])<|Rq [Ad 4 0] [4]<|.ret) [.tmp 4]:= by decide +kernel
theorem c200 (n:Int) (x_1:Test) (r:Int) (h:difference_one n x_1=some r):Sound prog 200 [eI n,eTest x_1] (.sh (eI r)):= by
 refine Fn ck200 fun hw=>?_
 unfold difference_one at h
 refine D<|F<|a4 rfl rfl<|C rfl<|E (kt<|kt<|kn) fun _=>?_
 refine D<|b0<|D<|F<|K rfl<|J rfl<|a9 rfl rfl<|C rfl ?_
 refine gA 4 [10,11,12] 13 (!decide (x_1.Kind=1)) (!decide (x_1.Kind=2)) (fun hg13=>?_) (fun hg13=>?_) ?_
 ·refine G rfl hg13<|K rfl<|G rfl hg13<|J rfl<|G rfl hg13<|a9 rfl rfl<|Y rfl hg13 rfl ?_
  exact ⟨⟨_,_,_,rfl⟩⟩
 ·refine H rfl hg13<|H rfl hg13<|H rfl hg13<|Z rfl hg13 rfl ?_
  exact ⟨⟨_,_,_,rfl⟩⟩
 rintro _ ⟨_,_,_,rfl⟩
 refine C rfl<|E (kt<|kt<|kt<|kn) fun _=>?_
 refine S rfl (fun hc5=>?_) (fun hc5=>?_)
 ·replace h:=M hc5 h
  refine D<|F<|C rfl<|E (kt<|kn) fun _=>?_
  exact L (by cases h;rfl)
 ·replace h:=O hc5 h
  refine D<|F<|C rfl<|K rfl<|R rfl rfl (show _=eTerm x_1.Left from rfl) ?_
  obtain ⟨x18,hx18,h⟩:=I h
  refine T rfl (c236 n x_1.Left _ hx18)<|d0 rfl<|C rfl ?_
  obtain ⟨x26,hx26,h⟩:=I h
  refine gX 6 [21,22,23,24,25] 26 x26 (!x18) (fun hg26=>?_) (fun hg26=>?_) ?_
  ·replace h:=M hg26 hx26
   cases h
   refine H rfl hg26<|H rfl hg26<|H rfl hg26<|H rfl hg26<|H rfl hg26<|Y rfl hg26 rfl ?_
   exact ⟨⟨_,_,_,_,_,rfl⟩⟩
  ·replace h:=O hg26 hx26
   refine G rfl hg26<|C rfl<|G rfl hg26<|K rfl<|G rfl hg26<|R rfl rfl (show _=eTerm x_1.Right from rfl) ?_
   obtain ⟨x24,hx24,h⟩:=I h
   refine G rfl hg26<|T rfl (c236 n x_1.Right _ hx24)<|G rfl hg26<|d0 rfl ?_
   cases h
   refine Z rfl hg26 rfl ?_
   exact ⟨⟨_,_,_,_,_,rfl⟩⟩
  rintro _ ⟨_,_,_,_,_,rfl⟩
  refine C rfl<|E (kt<|kn) fun _=>?_
  refine S rfl (fun hc14=>?_) (fun hc14=>?_)
  ·replace h:=M hc14 h
   refine D<|F<|C rfl<|E (kt<|kn) fun _=>?_
   exact L (by cases h;rfl)
  ·replace h:=O hc14 h
   refine P (kn) fun _=>?_
   refine D<|F<|C rfl<|E (kt<|kn) fun _=>?_
   exact L (by cases h;rfl)
theorem ck153:CK f153 (Rq [Ad 4 0] [0,1]<|Sq (Rq [Aa 8 0,Bq 9 8 0,Aa 10 9,Aw 11 0 10,Bs 12 11 12 10,As 13 10 12] [0,1,13]<|Co 13 (Rq [Ad 4 6] [4]<|.ret)<|Sk [0,1])<|Sq (Rq [Aa 14 1,Ah 15 14,Bk 16 15 40] [0,1,16]<|Co 16 (Rq [Ad 4 3] [4]<|.ret)<|Sk [0,1])<|Sq (Rq [Aa 17 1,Ah 18 17,Ad 19 0] [0,17,18,19]<|Bl 0<|Lo [0,17,18,19]<|Rq [Ap 20 19 18] [0,17,18,19,20]<|Sq (Co 20 (Sk [0,17,18,19])<|Ex 0 [])<|Sq (Bl 1<|Rq [Ag 21 17 19 5,Ae 22 21 5,⟨some 6,.alc [⟨false,.int .i64 0⟩,⟨false,.int .i64 0⟩,⟨false,.int .i64 0⟩,⟨false,.int .i64 0⟩,⟨false,.int .i64 0⟩],none⟩,Aj 5 6 22] [0,6,17,18,19]<|Rq [Aa 23 0,Ae 24 6 5,Al 25 200 23 24,Aa 7 25] [0,7,17,18,19]<|Rq [Aa 26 7,Av 27 26 0] [0,7,17,18,19,27]<|Co 27 (Rq [Aa 28 7,Aa 4 28] [4]<|.ret)<|Sk [0,17,18,19])<|Re [An 29 19 1,Aa 19 29] [0,17,18,19])<|Rq [Ad 4 0] [4]<|.ret) [.tmp 4]:= by decide +kernel
theorem c153 (n:Int) (l:List Test) (r:Int) (h:difference_Valid n l=some r):Sound prog 153 [eI n,lT l] (.sh (eI r)):= by
 refine Fn ck153 fun hw=>?_
 unfold difference_Valid at h
 refine D<|F<|C rfl<|E (kt<|kt<|kn) fun _=>?_
 refine D<|D<|F<|C rfl<|V rfl rfl<|C rfl ?_
 refine gO 3 [11,12] 13 (decide (n<0)) (decide (12<n)) (fun hg13=>?_) (fun hg13=>?_) ?_
 ·refine H rfl hg13<|H rfl hg13<|Y rfl hg13 rfl ?_
  exact ⟨⟨_,_,rfl⟩⟩
 ·refine G rfl hg13<|C rfl<|G rfl hg13<|e4 rfl rfl<|Z rfl hg13 rfl ?_
  exact ⟨⟨_,_,rfl⟩⟩
 rintro _ ⟨_,_,rfl⟩
 refine E (kt<|kt<|kt<|kn) fun _=>?_
 refine S rfl (fun hc13=>?_) (fun hc13=>?_)
 ·replace h:=M hc13 h
  refine D<|F<|C rfl<|E (kt<|kn) fun _=>?_
  exact L (by cases h;rfl)
 ·replace h:=O hc13 h
  refine P (kt<|kt<|kn) fun _=>?_
  refine D<|D<|F<|C rfl<|U rfl rfl<|e4 rfl rfl<|E (kt<|kt<|kt<|kn) fun _=>?_
  refine S rfl (fun hc16=>?_) (fun hc16=>?_)
  ·replace h:=M hc16 h
   refine D<|F<|C rfl<|E (kt<|kn) fun _=>?_
   exact L (by cases h;rfl)
  ·replace h:=O hc16 h
   refine P (kt<|kt<|kn) fun _=>?_
   refine D<|D<|F<|C rfl<|U rfl rfl<|C rfl<|E (kt<|kt<|kt<|kt<|kn) fun _=>?_
   obtain ⟨o0,ho0,h⟩:=d2 h
   refine d6 ho0 (fun (i0:Int) (_:Unit)=>[(0,.tv (eI n)),(17,.tv (lT l)),(18,.tv (eI (l.length:Int))),(19,.tv (eI i0))]) (fun (_:Unit)=>[]) (fun zv ze=>resIs ([.tmp 4]) (.sh (eI zv)) ze) rfl ?_ ?_ ?_ ?_
   ·clear h ho0
    intro i0 s0 r0 hi0 h hw0
    refine D<|F<|V rfl rfl<|E (kt<|kt<|kt<|kt<|kt<|kn) fun _=>?_
    refine D<|b5 rfl (b6 hi0)<|P (kt<|kt<|kt<|kt<|kn) fun _=>?_
    refine D<|b0<|D<|F ?_
    obtain ⟨x21,hx21,h⟩:=I h
    refine W rfl rfl rfl hx21 rfl<|R rfl rfl (show _=eTest x21 from rfl)<|b1 rfl<|a8 rfl rfl rfl rfl rfl<|E (kt<|kb<|kt<|kt<|kt<|kn) fun _=>?_
    refine D<|F<|C rfl<|R rfl rfl (show _=eTest x21 from rfl) ?_
    obtain ⟨x25,hx25,h⟩:=I h
    refine T rfl (c200 n x21 _ hx25)<|C rfl<|E (kt<|kt<|kt<|kt<|kt<|kn) fun _=>?_
    refine D<|F<|C rfl<|a9 rfl rfl<|E (kt<|kt<|kt<|kt<|kt<|kt<|kn) fun _=>?_
    refine S rfl (fun hc27=>?_) (fun hc27=>?_)
    ·replace h:=M hc27 h
     refine D<|F<|C rfl<|C rfl<|E (kt<|kn) fun _=>?_
     refine L ?_
     cases h
     exact ⟨_,rfl,rfl⟩
    ·replace h:=O hc27 h
     refine P (kt<|kt<|kt<|kt<|kn) fun _=>?_
     refine F<|a7 rfl rfl<|C rfl<|E (kt<|kt<|kt<|kt<|kn) ?_
     cases h
     refine ⟨_,rfl,?_⟩
     rw [Ktv rfl (Ktv rfl (Ktv rfl (Ktv rfl (Knil _))))]
     rw [b4 (a5 (hw0 19)) hi0 (e0 (a5 (hw0 18)))]
     all_goals rfl
   ·intro i0 s0 hi0
    refine D<|F<|V rfl rfl<|E (kt<|kt<|kt<|kt<|kt<|kn) fun _=>?_
    refine D<|b7 rfl (b8 hi0)<|b3 (kn) ?_
    exact ⟨rfl,rfl⟩
   ·intro s0 hs
    replace h:=d3 h hs
    intro _
    refine D<|F<|C rfl<|E (kt<|kn) fun _=>?_
    exact L (by cases h;rfl)
   ·intro v0 ze hv hR
    replace h:=d4 h hv
    cases h
    exact hR
theorem ck201:CK f201 (Rq [Ad 4 0] [0,1]<|Sq (Rq [Aa 6 0,Ah 7 6,Ad 8 0] [0,1,7,8]<|Bl 0<|Lo [0,1,7,8]<|Rq [Ap 9 8 7] [0,1,7,8,9]<|Sq (Co 9 (Sk [0,1,7,8])<|Ex 0 [])<|Sq (Bl 1<|Rq [Aa 10 8,Aa 5 10] [0,1,5,7,8]<|Rq [Aa 11 1,Aa 12 0,Aa 13 5,Ag 14 12 13 1,Ab 15 14,⟨some 16,.bin (.b) .eql (.s 11) (.s 15),none⟩] [0,1,5,7,8,16]<|Co 16 (Rq [Aa 17 5,Aa 4 17] [4]<|.ret)<|Sk [0,1,7,8])<|Re [An 18 8 1,Aa 8 18] [0,1,7,8])<|Rq [Cd 4 (-1)] [4]<|.ret) [.tmp 4]:= by decide +kernel
theorem c201 (s_0:List Bool) (v_1:Bool) (r:Int) (h:slices_Index_bool s_0 v_1=some r):Sound prog 201 [(eL 1 eB) s_0,eB v_1] (.sh (eI r)):= by
 refine Fn ck201 fun hw=>?_
 unfold slices_Index_bool at h
 refine D<|F<|C rfl<|E (kt<|kt<|kn) fun _=>?_
 refine D<|D<|F<|C rfl<|U rfl rfl<|C rfl<|E (kt<|kt<|kt<|kt<|kn) fun _=>?_
 obtain ⟨o0,ho0,h⟩:=d2 h
 refine d6 ho0 (fun (i0:Int) (_:Unit)=>[(0,.tv ((eL 1 eB) s_0)),(1,.tv (eB v_1)),(7,.tv (eI (s_0.length:Int))),(8,.tv (eI i0))]) (fun (_:Unit)=>[]) (fun zv ze=>resIs ([.tmp 4]) (.sh (eI zv)) ze) rfl ?_ ?_ ?_ ?_
 ·clear h ho0
  intro i0 s0 r0 hi0 h hw0
  refine D<|F<|V rfl rfl<|E (kt<|kt<|kt<|kt<|kt<|kn) fun _=>?_
  refine D<|b5 rfl (b6 hi0)<|P (kt<|kt<|kt<|kt<|kn) fun _=>?_
  refine D<|b0<|D<|F<|C rfl<|C rfl<|E (kt<|kt<|kt<|kt<|kt<|kn) fun _=>?_
  refine D<|F<|C rfl<|C rfl<|C rfl ?_
  obtain ⟨x14,hx14,h⟩:=I h
  refine W rfl rfl rfl hx14 rfl<|J rfl<|p3 rfl rfl<|E (kt<|kt<|kt<|kt<|kt<|kt<|kn) fun _=>?_
  refine S rfl (fun hc16=>?_) (fun hc16=>?_)
  ·replace h:=M hc16 h
   refine D<|F<|C rfl<|C rfl<|E (kt<|kn) fun _=>?_
   refine L ?_
   cases h
   exact ⟨_,rfl,rfl⟩
  ·replace h:=O hc16 h
   refine P (kt<|kt<|kt<|kt<|kn) fun _=>?_
   refine F<|a7 rfl rfl<|C rfl<|E (kt<|kt<|kt<|kt<|kn) ?_
   cases h
   refine ⟨_,rfl,?_⟩
   rw [Ktv rfl (Ktv rfl (Ktv rfl (Ktv rfl (Knil _))))]
   rw [b4 (a5 (hw0 8)) hi0 (e0 (a5 (hw0 7)))]
   all_goals rfl
 ·intro i0 s0 hi0
  refine D<|F<|V rfl rfl<|E (kt<|kt<|kt<|kt<|kt<|kn) fun _=>?_
  refine D<|b7 rfl (b8 hi0)<|b3 (kn) ?_
  exact ⟨rfl,rfl⟩
 ·intro s0 hs
  replace h:=d3 h hs
  intro _
  refine D<|F<|C rfl<|E (kt<|kn) fun _=>?_
  exact L (by cases h;rfl)
 ·intro v0 ze hv hR
  replace h:=d4 h hv
  cases h
  exact hR
theorem ck154:CK f154 (Rq [Ak 4] [0,1]<|Rq [Aa 5 0,Aa 6 1,Al 7 201 5 6,Bo 8 7 0,Aa 4 8] [4]<|.ret) [.tmp 4]:= by decide +kernel
theorem c154 (s_0:List Bool) (v_1:Bool) (r:Bool) (h:slices_Contains_bool s_0 v_1=some r):Sound prog 154 [(eL 1 eB) s_0,eB v_1] (.sh (eB r)):= by
 refine Fn ck154 fun hw=>?_
 unfold slices_Contains_bool at h
 refine D<|F<|C rfl<|E (kt<|kt<|kn) fun _=>?_
 refine D<|F<|C rfl<|C rfl ?_
 obtain ⟨x7,hx7,h⟩:=I h
 refine T rfl (c201 s_0 v_1 _ hx7)<|d5 rfl rfl<|C rfl<|E (kt<|kn) fun _=>?_
 exact L (by cases h;rfl)
theorem ck98:CK f98 (Rq [Af 2 0,Af 3 1,Ad 4 0] [2,3]<|Sq (Rq [Ae 15 2 2,Au 16 96 15,Aa 14 16,Am 17 14 0,Am 18 14 1,Aa 5 17,Aa 6 18] [2,3,6]<|Rq [Aa 19 6,Av 20 19 0] [2,3,6,20]<|Co 20 (Rq [Aa 21 6,Aa 4 21] [4]<|.ret)<|Sk [2,3])<|Sq (Rq [Ac 22 3 0,Ae 23 22 2,Au 24 147 23,Aa 7 24] [2,3,7]<|Rq [Aa 25 7,Av 26 25 0] [2,3,7,26]<|Co 26 (Rq [Aa 27 7,Aa 4 27] [4]<|.ret)<|Sk [2,3])<|Sq (Rq [Ac 28 3 0,Ai 29 28 0,Ab 30 29,Cf 31 148 2,Al 32 30 30 31,Aa 33 32,Ar 34 3 0 33,Bi 35 34 1 33,Ao 36 35 33,⟨some 37,.clo 150 [.s 2],some (33,false)⟩,Db 38 149 36 37 33,As 39 33 38] [2,3,39]<|Co 39 (Rq [Ad 4 13] [4]<|.ret)<|Sk [2,3])<|Sq (Rq [Ac 40 3 3,Ab 41 40,Fd 42 151 41 0 12,Az 43 42] [2,3,43]<|Co 43 (Rq [Ad 4 6] [4]<|.ret)<|Sk [2,3])<|Sq (Rq [Ac 44 3 2,Ab 45 44,Ah 46 45,Bk 47 46 10,Aa 48 47,Ar 49 3 4 48,Ao 50 49 48,Bc 51 50 48,Bs 52 51 10 48,As 53 48 52] [2,3,53]<|Co 53 (Rq [Ad 4 3] [4]<|.ret)<|Sk [2,3])<|Rq [Ac 54 3 3,Ab 55 54,⟨some 56,.mkx 1 [.bool false] (.s 55),none⟩,Cm 8 56] [2,3,8]<|Sq (Rq [Ac 57 3 2,Ab 58 57,Ah 59 58,Ad 60 0] [2,3,8,58,59,60]<|Bl 0<|Lo [2,3,8,58,59,60]<|Rq [Ap 61 60 59] [2,3,8,58,59,60,61]<|Sq (Co 61 (Sk [2,3,8,58,59,60])<|Ex 0 [3,8])<|Sq (Bl 1<|Rq [Ag 62 58 60 4,Ae 63 62 4,Ec 10 0 0 0 0,Aj 4 10 63] [2,3,8,10,58,59,60]<|Sq (Rq [Ae 65 2 2,Ae 66 3 5,Ae 67 10 4,Bg 68 152 65 66 67,Aa 64 68,Am 69 64 0,Am 70 64 1,Dp 11 0 0 1,Aj 4 11 69,Aa 12 70] [2,3,8,10,12,58,59,60]<|Rq [Aa 71 12,Az 72 71,Aa 73 72,Ar 74 10 2 73,Bi 75 74 0 73,Ao 76 75 73,Ar 77 3 3 73,Ao 78 77 73,Ed 79 78 1 73,⟨some 80,.call 151 [.s 76,.c (.int .i64 (-1)),.s 79],some (73,false)⟩,Br 81 80 73,As 82 73 81,Aa 83 82,Ar 84 10 2 83,Bi 85 84 1 83,Ao 86 85 83,⟨some 87,.call 151 [.s 86,.c (.int .i64 (-1000000)),.c (.int .i64 1000000)],some (83,false)⟩,Br 88 87 83,As 89 83 88] [2,3,8,10,58,59,60,89]<|Co 89 (Rq [Ad 4 6] [4]<|.ret)<|Sk [2,3,8,10,58,59,60])<|Rq [Ac 90 10 2,Ai 91 90 0,Ab 92 91,Bo 93 92 0] [2,3,8,10,58,59,60,93]<|Co 93 (Re [Cp 94 8,Ac 95 10 2,Ai 96 95 0,Ab 97 96,Do 98 94 97 1,⟨none,.xst (.s 98) (.c (.bool true)),none⟩] [2,3,8,58,59,60])<|Sk [2,3,8,58,59,60])<|Re [An 99 60 1,Aa 60 99] [2,3,8,58,59,60])<|Sq (Rq [Ac 100 3 3,Ab 101 100,Ac 102 3 4,Ab 103 102,Al 104 153 101 103,Aa 13 104] [8,13]<|Rq [Aa 105 13,Av 106 105 0] [8,13,106]<|Co 106 (Rq [Aa 107 13,Aa 4 107] [4]<|.ret)<|Sk [8])<|Sq (Rq [Dz 108 8,⟨some 109,.call 154 [.s 108,.c (.bool false)],none⟩] [109]<|Co 109 (Rq [Ad 4 9] [4]<|.ret)<|Sk [])<|Rq [Ad 4 0] [4]<|.ret) [.tmp 4]:= by decide +kernel
theorem c98 (t:Types) (p:Pattern) (r:Int) (h:attribute_Valid t p=some r):Sound prog 98 [eTypes t,ePattern p] (.sh (eI r)):= by
 refine Fn ck98 fun hw=>?_
 unfold attribute_Valid at h
 refine D<|F<|a4 rfl rfl<|a4 rfl rfl<|C rfl<|E (kt<|kt<|kn) fun _=>?_
 refine D<|D<|F<|R rfl rfl (show _=eTypes t from rfl) ?_
 obtain ⟨x16,hx16,h⟩:=I h
 refine e5 rfl (c96 t _ hx16)<|e6 rfl<|b2 rfl rfl<|b2 rfl rfl<|C rfl<|C rfl<|E (kt<|kt<|kt<|kn) fun _=>?_
 refine D<|F<|C rfl<|a9 rfl rfl<|E (kt<|kt<|kt<|kt<|kn) fun _=>?_
 refine S rfl (fun hc20=>?_) (fun hc20=>?_)
 ·replace h:=M hc20 h
  refine D<|F<|C rfl<|C rfl<|E (kt<|kn) fun _=>?_
  exact L (by cases h;rfl)
 ·replace h:=O hc20 h
  refine P (kt<|kt<|kn) fun _=>?_
  refine D<|D<|F<|K rfl<|R rfl rfl (show _=eGraph p.Graph from rfl) ?_
  obtain ⟨x24,hx24,h⟩:=I h
  refine T rfl (c147 p.Graph _ hx24)<|C rfl<|E (kt<|kt<|kt<|kn) fun _=>?_
  refine D<|F<|C rfl<|a9 rfl rfl<|E (kt<|kt<|kt<|kt<|kn) fun _=>?_
  refine S rfl (fun hc26=>?_) (fun hc26=>?_)
  ·replace h:=M hc26 h
   refine D<|F<|C rfl<|C rfl<|E (kt<|kn) fun _=>?_
   exact L (by cases h;rfl)
  ·replace h:=O hc26 h
   refine P (kt<|kt<|kn) fun _=>?_
   refine D<|D<|F<|K rfl<|a6 rfl<|J rfl<|g2 rfl ?_
   obtain ⟨x32,hx32,h⟩:=I h
   refine T rfl (c30 p.Graph.Nodes (fun y0=>attribute_Valid_1 y0 t) _ _ (fun y0 r h=>c148 y0 t r h) _ hx32)<|C rfl ?_
   obtain ⟨x39,hx39,h⟩:=I h
   refine gX 6 [34,35,36,37,38] 39 x39 x32 (fun hg39=>?_) (fun hg39=>?_) ?_
   ·replace h:=M hg39 hx39
    cases h
    refine H rfl hg39<|H rfl hg39<|H rfl hg39<|H rfl hg39<|H rfl hg39<|Y rfl hg39 rfl ?_
    exact ⟨⟨_,_,_,_,_,rfl⟩⟩
   ·replace h:=O hg39 hx39
    refine G rfl hg39<|K rfl<|G rfl hg39<|a6 rfl<|G rfl hg39<|J rfl<|G rfl hg39<|g2 rfl ?_
    obtain ⟨x38,hx38,h⟩:=I h
    refine G rfl hg39<|T rfl (c149 p.Graph.Edges (fun y0=>attribute_Valid_2 y0 t) _ _ (fun y0 r h=>c150 y0 t r h) _ hx38) ?_
    cases h
    refine Z rfl hg39 rfl ?_
    exact ⟨⟨_,_,_,_,_,rfl⟩⟩
   rintro _ ⟨_,_,_,_,_,rfl⟩
   refine E (kt<|kt<|kt<|kn) fun _=>?_
   refine S rfl (fun hc39=>?_) (fun hc39=>?_)
   ·replace h:=M hc39 h
    refine D<|F<|C rfl<|E (kt<|kn) fun _=>?_
    exact L (by cases h;rfl)
   ·replace h:=O hc39 h
    refine P (kt<|kt<|kn) fun _=>?_
    refine D<|D<|F<|K rfl<|J rfl ?_
    obtain ⟨x42,hx42,h⟩:=I h
    refine T rfl (c151 p.Vars 0 12 _ hx42)<|d0 rfl<|E (kt<|kt<|kt<|kn) fun _=>?_
    refine S rfl (fun hc43=>?_) (fun hc43=>?_)
    ·replace h:=M hc43 h
     refine D<|F<|C rfl<|E (kt<|kn) fun _=>?_
     exact L (by cases h;rfl)
    ·replace h:=O hc43 h
     refine P (kt<|kt<|kn) fun _=>?_
     refine D<|D<|F<|K rfl<|J rfl<|U rfl rfl<|e4 rfl rfl<|C rfl ?_
     refine gO 5 [49,50,51,52] 53 (decide (10<(p.Slots.length:Int))) (decide (10<(p.Tests.length:Int))) (fun hg53=>?_) (fun hg53=>?_) ?_
     ·refine H rfl hg53<|H rfl hg53<|H rfl hg53<|H rfl hg53<|Y rfl hg53 rfl ?_
      exact ⟨⟨_,_,_,_,rfl⟩⟩
     ·refine G rfl hg53<|K rfl<|G rfl hg53<|J rfl<|G rfl hg53<|U rfl rfl<|G rfl hg53<|e4 rfl rfl<|Z rfl hg53 rfl ?_
      exact ⟨⟨_,_,_,_,rfl⟩⟩
     rintro _ ⟨_,_,_,_,rfl⟩
     refine E (kt<|kt<|kt<|kn) fun _=>?_
     refine S rfl (fun hc53=>?_) (fun hc53=>?_)
     ·replace h:=M hc53 h
      refine D<|F<|C rfl<|E (kt<|kn) fun _=>?_
      exact L (by cases h;rfl)
     ·replace h:=O hc53 h
      refine P (kt<|kt<|kn) fun _=>?_
      refine D<|F<|K rfl<|J rfl ?_
      obtain ⟨x56,hx56,h⟩:=I h
      refine q2 (z:=false) rfl rfl rfl hx56 rfl<|l1 rfl rfl (by decide)<|E (kt<|kt<|kx<|kn) fun _=>?_
      refine D<|D<|F<|K rfl<|J rfl<|U rfl rfl<|C rfl<|E (kt<|kt<|kx<|kt<|kt<|kt<|kn) fun _=>?_
      obtain ⟨o0,ho0,h⟩:=d2 h
      refine d6 ho0 (fun (i0:Int) (s0:List Bool)=>[(2,.tv (.pt (eTypes t).cells)),(3,.tv (.pt (ePattern p).cells)),(8,.xo 1 (List.map eB s0)),(58,.tv (lS p.Slots)),(59,.tv (eI (p.Slots.length:Int))),(60,.tv (eI i0))]) (fun (s0:List Bool)=>[(3,.tv (.pt (ePattern p).cells)),(8,.xo 1 (List.map eB s0))]) (fun zv ze=>resIs ([.tmp 4]) (.sh (eI zv)) ze) rfl ?_ ?_ ?_ ?_
      ·clear h ho0
       intro i0 s0 r0 hi0 h hw0
       refine D<|F<|V rfl rfl<|E (kt<|kt<|kx<|kt<|kt<|kt<|kt<|kn) fun _=>?_
       refine D<|b5 rfl (b6 hi0)<|P (kt<|kt<|kx<|kt<|kt<|kt<|kn) fun _=>?_
       refine D<|b0<|D<|F ?_
       obtain ⟨x62,hx62,h⟩:=I h
       refine W rfl rfl rfl hx62 rfl<|R rfl rfl (show _=eSlot x62 from rfl)<|b1 rfl<|a8 rfl rfl rfl rfl rfl<|E (kt<|kt<|kx<|kb<|kt<|kt<|kt<|kn) fun _=>?_
       refine D<|D<|F<|R rfl rfl (show _=eTypes t from rfl)<|R rfl rfl (show _=ePattern p from rfl)<|R rfl rfl (show _=eSlot x62 from rfl) ?_
       obtain ⟨x68,hx68,h⟩:=I h
       refine e5 rfl (c152 t p x62 _ hx68)<|e6 rfl<|b2 rfl rfl<|b2 rfl rfl<|b1 rfl<|a8 rfl rfl rfl rfl rfl<|C rfl<|E (kt<|kt<|kx<|kb<|kt<|kt<|kt<|kt<|kn) fun _=>?_
       refine D<|F<|C rfl<|d0 rfl<|C rfl ?_
       obtain ⟨x82,hx82,h⟩:=I h
       refine gX 9 [74,75,76,77,78,79,80,81] 82 x82 (!x68.2) (fun hg82=>?_) (fun hg82=>?_) ?_
       ·replace h:=M hg82 hx82
        cases h
        refine H rfl hg82<|H rfl hg82<|H rfl hg82<|H rfl hg82<|H rfl hg82<|H rfl hg82<|H rfl hg82<|H rfl hg82<|Y rfl hg82 rfl ?_
        exact ⟨⟨_,_,_,_,_,_,_,_,rfl⟩⟩
       ·replace h:=O hg82 hx82
        refine G rfl hg82<|a3 rfl<|G rfl hg82<|f3 rfl rfl<|G rfl hg82<|J rfl<|G rfl hg82<|K rfl<|G rfl hg82<|J rfl<|G rfl hg82<|g4 rfl rfl ?_
        obtain ⟨x80,hx80,h⟩:=I h
        refine G rfl hg82<|T rfl (c151 x62.Term.Var (-1) (w64 (p.Vars - 1)) _ hx80)<|G rfl hg82<|d0 rfl ?_
        cases h
        refine Z rfl hg82 rfl ?_
        exact ⟨⟨_,_,_,_,_,_,_,_,rfl⟩⟩
       rintro _ ⟨_,_,_,_,_,_,_,_,rfl⟩
       refine C rfl ?_
       obtain ⟨x89,hx89,h⟩:=I h
       refine gX 6 [84,85,86,87,88] 89 x89 x82 (fun hg89=>?_) (fun hg89=>?_) ?_
       ·replace h:=M hg89 hx89
        cases h
        refine H rfl hg89<|H rfl hg89<|H rfl hg89<|H rfl hg89<|H rfl hg89<|Y rfl hg89 rfl ?_
        exact ⟨⟨_,_,_,_,_,rfl⟩⟩
       ·replace h:=O hg89 hx89
        refine G rfl hg89<|a3 rfl<|G rfl hg89<|f3 rfl rfl<|G rfl hg89<|J rfl ?_
        obtain ⟨x87,hx87,h⟩:=I h
        refine G rfl hg89<|T rfl (c151 x62.Term.Add (-1000000) 1000000 _ hx87)<|G rfl hg89<|d0 rfl ?_
        cases h
        refine Z rfl hg89 rfl ?_
        exact ⟨⟨_,_,_,_,_,rfl⟩⟩
       rintro _ ⟨_,_,_,_,_,rfl⟩
       refine E (kt<|kt<|kx<|kb<|kt<|kt<|kt<|kt<|kn) fun _=>?_
       refine S rfl (fun hc89=>?_) (fun hc89=>?_)
       ·replace h:=M hc89 h
        refine D<|F<|C rfl<|E (kt<|kn) fun _=>?_
        refine L ?_
        cases h
        exact ⟨_,rfl,rfl⟩
       ·replace h:=O hc89 h
        refine P (kt<|kt<|kx<|kb<|kt<|kt<|kt<|kn) fun _=>?_
        refine D<|F<|a3 rfl<|f3 rfl rfl<|J rfl<|d5 rfl rfl<|E (kt<|kt<|kx<|kb<|kt<|kt<|kt<|kt<|kn) fun _=>?_
        refine S rfl (fun hc93=>?_) (fun hc93=>?_)
        ·replace h:=M hc93 h
         refine F<|l3 rfl<|a3 rfl<|f3 rfl rfl<|J rfl ?_
         obtain ⟨x98,hx98,h⟩:=I h
         refine m0 rfl rfl rfl hx98<|m9 (i:=0) (b:=true) rfl rfl rfl rfl (fun _=>rfl) hx98 rfl rfl rfl rfl rfl<|E (kt<|kt<|kx<|kt<|kt<|kt<|kn) fun _=>?_
         refine F<|a7 rfl rfl<|C rfl<|E (kt<|kt<|kx<|kt<|kt<|kt<|kn) ?_
         cases h
         refine ⟨_,rfl,?_⟩
         rw [Ktv rfl (Ktv rfl (Kxo rfl (Ktv rfl (Ktv rfl (Ktv rfl (Knil _))))))]
         rw [b4 (a5 (hw0 60)) hi0 (e0 (a5 (hw0 59)))]
         all_goals rfl
        ·replace h:=O hc93 h
         refine P (kt<|kt<|kx<|kt<|kt<|kt<|kn) fun _=>?_
         refine F<|a7 rfl rfl<|C rfl<|E (kt<|kt<|kx<|kt<|kt<|kt<|kn) ?_
         cases h
         refine ⟨_,rfl,?_⟩
         rw [Ktv rfl (Ktv rfl (Kxo rfl (Ktv rfl (Ktv rfl (Ktv rfl (Knil _))))))]
         rw [b4 (a5 (hw0 60)) hi0 (e0 (a5 (hw0 59)))]
         all_goals rfl
      ·intro i0 s0 hi0
       refine D<|F<|V rfl rfl<|E (kt<|kt<|kx<|kt<|kt<|kt<|kt<|kn) fun _=>?_
       refine D<|b7 rfl (b8 hi0)<|b3 (kt<|kx<|kn) ?_
       exact ⟨rfl,rfl⟩
      ·intro s0 hs
       replace h:=d3 h hs
       intro _
       refine D<|D<|F<|K rfl<|J rfl<|K rfl<|J rfl ?_
       obtain ⟨x104,hx104,h⟩:=I h
       refine T rfl (c153 p.Vars p.Tests _ hx104)<|C rfl<|E (kx<|kt<|kn) fun _=>?_
       refine D<|F<|C rfl<|a9 rfl rfl<|E (kx<|kt<|kt<|kn) fun _=>?_
       refine S rfl (fun hc106=>?_) (fun hc106=>?_)
       ·replace h:=M hc106 h
        refine D<|F<|C rfl<|C rfl<|E (kt<|kn) fun _=>?_
        exact L (by cases h;rfl)
       ·replace h:=O hc106 h
        refine P (kx<|kn) fun _=>?_
        refine D<|D<|F<|m3 rfl (by decide) ?_
        obtain ⟨x109,hx109,h⟩:=I h
        refine T rfl (c154 s0 false _ hx109)<|E (kt<|kn) fun _=>?_
        refine S rfl (fun hc109=>?_) (fun hc109=>?_)
        ·replace h:=M hc109 h
         refine D<|F<|C rfl<|E (kt<|kn) fun _=>?_
         exact L (by cases h;rfl)
        ·replace h:=O hc109 h
         refine P (kn) fun _=>?_
         refine D<|F<|C rfl<|E (kt<|kn) fun _=>?_
         exact L (by cases h;rfl)
      ·intro v0 ze hv hR
       replace h:=d4 h hv
       cases h
       exact hR
theorem ck202:CK f202 (Rq [Ak 3] [0,1]<|Rq [Aa 4 0,Ac 5 1 0,Ab 6 5,Ah 7 6,Df 8 4 7,Aa 3 8] [3]<|.ret) [.tmp 3]:= by decide +kernel
theorem c202 (n:Int) (c0:Types) (r:Bool) (h:rule_typed_1 n c0=some r):Sound prog 202 [eI n,.pt (eTypes c0).cells] (.sh (eB r)):= by
 refine Fn ck202 fun hw=>?_
 unfold rule_typed_1 at h
 refine D<|F<|C rfl<|E (kt<|kt<|kn) fun _=>?_
 refine D<|F<|C rfl<|K rfl<|J rfl<|U rfl rfl<|d5 rfl rfl<|C rfl<|E (kt<|kn) fun _=>?_
 exact L (by cases h;rfl)
theorem ck203:CK f203 (Rq [Af 2 0,Ak 3] [1,2]<|Rq [Ac 4 2 0,Ab 5 4,Ac 6 1 1,Ab 7 6,Ah 8 7,Df 9 5 8,Aa 3 9] [3]<|.ret) [.tmp 3]:= by decide +kernel
theorem c203 (x_0:Edge) (c0:Types) (r:Bool) (h:rule_typed_2 x_0 c0=some r):Sound prog 203 [eEdge x_0,.pt (eTypes c0).cells] (.sh (eB r)):= by
 refine Fn ck203 fun hw=>?_
 unfold rule_typed_2 at h
 refine D<|F<|a4 rfl rfl<|C rfl<|E (kt<|kt<|kn) fun _=>?_
 refine D<|F<|K rfl<|J rfl<|K rfl<|J rfl<|U rfl rfl<|d5 rfl rfl<|C rfl<|E (kt<|kn) fun _=>?_
 exact L (by cases h;rfl)
theorem ck155:CK f155 (Rq [Af 2 0,Af 3 1,Ak 4] [2,3]<|Rq [Ac 5 3 0,Ab 6 5,Cf 7 202 2,Al 8 30 6 7,Az 9 8,Aa 10 9,Ba 11 3 1 10,Ax 12 11 10,⟨some 13,.clo 203 [.s 2],some (10,true)⟩,Ch 14 149 12 13 10,Eq 15 14 10,At 16 10 15,Aa 4 16] [4]<|.ret) [.tmp 4]:= by decide +kernel
theorem c155 (t:Types) (g:Graph) (r:Bool) (h:rule_typed t g=some r):Sound prog 155 [eTypes t,eGraph g] (.sh (eB r)):= by
 refine Fn ck155 fun hw=>?_
 unfold rule_typed at h
 refine D<|F<|a4 rfl rfl<|a4 rfl rfl<|C rfl<|E (kt<|kt<|kn) fun _=>?_
 refine D<|F<|K rfl<|J rfl<|g2 rfl ?_
 obtain ⟨x8,hx8,h⟩:=I h
 refine T rfl (c30 g.Nodes (fun y0=>rule_typed_1 y0 t) _ _ (fun y0 r h=>c202 y0 t r h) _ hx8)<|d0 rfl<|C rfl ?_
 obtain ⟨x16,hx16,h⟩:=I h
 refine gX 6 [11,12,13,14,15] 16 x16 (!x8) (fun hg16=>?_) (fun hg16=>?_) ?_
 ·replace h:=M hg16 hx16
  refine G rfl hg16<|K rfl<|G rfl hg16<|J rfl<|G rfl hg16<|g2 rfl ?_
  obtain ⟨x14,hx14,h⟩:=I h
  refine G rfl hg16<|T rfl (c149 g.Edges (fun y0=>rule_typed_2 y0 t) _ _ (fun y0 r h=>c203 y0 t r h) _ hx14)<|G rfl hg16<|d0 rfl ?_
  cases h
  refine Y rfl hg16 rfl ?_
  exact ⟨⟨_,_,_,_,_,rfl⟩⟩
 ·replace h:=O hg16 hx16
  cases h
  refine H rfl hg16<|H rfl hg16<|H rfl hg16<|H rfl hg16<|H rfl hg16<|Z rfl hg16 rfl ?_
  exact ⟨⟨_,_,_,_,_,rfl⟩⟩
 rintro _ ⟨_,_,_,_,_,rfl⟩
 refine C rfl<|E (kt<|kn) fun _=>?_
 exact L (by cases h;rfl)
theorem ck237:CK f237 (Rq [Ad 4 0] [0,1]<|Sq (Rq [Aa 6 0,Ah 7 6,Ad 8 0] [0,1,7,8]<|Bl 0<|Lo [0,1,7,8]<|Rq [Ap 9 8 7] [0,1,7,8,9]<|Sq (Co 9 (Sk [0,1,7,8])<|Ex 0 [])<|Sq (Bl 1<|Rq [Aa 10 8,Aa 5 10] [0,1,5,7,8]<|Rq [Aa 11 1,Aa 12 0,Aa 13 5,Ag 14 12 13 4,Ae 15 14 4,Bw 16 11 15] [0,1,5,7,8,16]<|Co 16 (Rq [Aa 17 5,Aa 4 17] [4]<|.ret)<|Sk [0,1,7,8])<|Re [An 18 8 1,Aa 8 18] [0,1,7,8])<|Rq [Cd 4 (-1)] [4]<|.ret) [.tmp 4]:= by decide +kernel
theorem c237 (s_0:List Slot) (f:Slot->Option Bool) (f_f:FuncId) (k_f:List TV) (h_f:∀ (y0:Slot) r,f y0=some r->Sound prog f_f ([eSlot y0]++k_f) (.sh (eB r))) (r:Int) (h:slices_IndexFunc_Slot s_0 f=some r):Sound prog 237 [lS s_0,.clo f_f k_f] (.sh (eI r)):= by
 refine Fn ck237 fun hw=>?_
 unfold slices_IndexFunc_Slot at h
 refine D<|F<|C rfl<|E (kt<|kt<|kn) fun _=>?_
 refine D<|D<|F<|C rfl<|U rfl rfl<|C rfl<|E (kt<|kt<|kt<|kt<|kn) fun _=>?_
 obtain ⟨o0,ho0,h⟩:=d2 h
 refine d6 ho0 (fun (i0:Int) (_:Unit)=>[(0,.tv (lS s_0)),(1,.tv (.clo f_f k_f)),(7,.tv (eI (s_0.length:Int))),(8,.tv (eI i0))]) (fun (_:Unit)=>[]) (fun zv ze=>resIs ([.tmp 4]) (.sh (eI zv)) ze) rfl ?_ ?_ ?_ ?_
 ·clear h ho0
  intro i0 s0 r0 hi0 h hw0
  refine D<|F<|V rfl rfl<|E (kt<|kt<|kt<|kt<|kt<|kn) fun _=>?_
  refine D<|b5 rfl (b6 hi0)<|P (kt<|kt<|kt<|kt<|kn) fun _=>?_
  refine D<|b0<|D<|F<|C rfl<|C rfl<|E (kt<|kt<|kt<|kt<|kt<|kn) fun _=>?_
  refine D<|F<|C rfl<|C rfl<|C rfl ?_
  obtain ⟨x14,hx14,h⟩:=I h
  refine W rfl rfl rfl hx14 rfl<|R rfl rfl (show _=eSlot x14 from rfl) ?_
  obtain ⟨x16,hx16,h⟩:=I h
  refine g3 rfl rfl (h_f _ _ hx16)<|E (kt<|kt<|kt<|kt<|kt<|kt<|kn) fun _=>?_
  refine S rfl (fun hc16=>?_) (fun hc16=>?_)
  ·replace h:=M hc16 h
   refine D<|F<|C rfl<|C rfl<|E (kt<|kn) fun _=>?_
   refine L ?_
   cases h
   exact ⟨_,rfl,rfl⟩
  ·replace h:=O hc16 h
   refine P (kt<|kt<|kt<|kt<|kn) fun _=>?_
   refine F<|a7 rfl rfl<|C rfl<|E (kt<|kt<|kt<|kt<|kn) ?_
   cases h
   refine ⟨_,rfl,?_⟩
   rw [Ktv rfl (Ktv rfl (Ktv rfl (Ktv rfl (Knil _))))]
   rw [b4 (a5 (hw0 8)) hi0 (e0 (a5 (hw0 7)))]
   all_goals rfl
 ·intro i0 s0 hi0
  refine D<|F<|V rfl rfl<|E (kt<|kt<|kt<|kt<|kt<|kn) fun _=>?_
  refine D<|b7 rfl (b8 hi0)<|b3 (kn) ?_
  exact ⟨rfl,rfl⟩
 ·intro s0 hs
  replace h:=d3 h hs
  intro _
  refine D<|F<|C rfl<|E (kt<|kn) fun _=>?_
  exact L (by cases h;rfl)
 ·intro v0 ze hv hR
  replace h:=d4 h hv
  cases h
  exact hR
theorem ck204:CK f204 (Rq [Ak 4] [0,1]<|Rq [Aa 5 0,Aa 6 1,Al 7 237 5 6,Bo 8 7 0,Aa 4 8] [4]<|.ret) [.tmp 4]:= by decide +kernel
theorem c204 (s_0:List Slot) (f:Slot->Option Bool) (f_f:FuncId) (k_f:List TV) (h_f:∀ (y0:Slot) r,f y0=some r->Sound prog f_f ([eSlot y0]++k_f) (.sh (eB r))) (r:Bool) (h:slices_ContainsFunc_Slot s_0 f=some r):Sound prog 204 [lS s_0,.clo f_f k_f] (.sh (eB r)):= by
 refine Fn ck204 fun hw=>?_
 unfold slices_ContainsFunc_Slot at h
 refine D<|F<|C rfl<|E (kt<|kt<|kn) fun _=>?_
 refine D<|F<|C rfl<|C rfl ?_
 obtain ⟨x7,hx7,h⟩:=I h
 refine T rfl (c237 s_0 f _ _ h_f _ hx7)<|d5 rfl rfl<|C rfl<|E (kt<|kn) fun _=>?_
 exact L (by cases h;rfl)
theorem ck205:CK f205 (Rq [Af 2 0,Ak 3] [1,2]<|Rq [Ac 4 2 0,Ab 5 4,Ac 6 1 0,Ab 7 6,Bt 8 5 7,Aa 9 8,Ba 10 2 1 9,Ax 11 10 9,Ba 12 1 1 9,Ax 13 12 9,Cl 14 11 13 9,At 15 9 14,Aa 3 15] [3]<|.ret) [.tmp 3]:= by decide +kernel
theorem c205 (y:Slot) (c0:Slot) (r:Bool) (h:rule_slot_1 y c0=some r):Sound prog 205 [eSlot y,.pt (eSlot c0).cells] (.sh (eB r)):= by
 refine Fn ck205 fun hw=>?_
 unfold rule_slot_1 at h
 refine D<|F<|a4 rfl rfl<|C rfl<|E (kt<|kt<|kn) fun _=>?_
 refine D<|F<|K rfl<|J rfl<|K rfl<|J rfl<|d1 rfl rfl<|C rfl ?_
 refine gA 6 [10,11,12,13,14] 15 (decide (y.Node=c0.Node)) (decide (y.Attr=c0.Attr)) (fun hg15=>?_) (fun hg15=>?_) ?_
 ·refine G rfl hg15<|K rfl<|G rfl hg15<|J rfl<|G rfl hg15<|K rfl<|G rfl hg15<|J rfl<|G rfl hg15<|d1 rfl rfl<|Y rfl hg15 rfl ?_
  exact ⟨⟨_,_,_,_,_,rfl⟩⟩
 ·refine H rfl hg15<|H rfl hg15<|H rfl hg15<|H rfl hg15<|H rfl hg15<|Z rfl hg15 rfl ?_
  exact ⟨⟨_,_,_,_,_,rfl⟩⟩
 rintro _ ⟨_,_,_,_,_,rfl⟩
 refine C rfl<|E (kt<|kn) fun _=>?_
 exact L (by cases h;rfl)
theorem ck156:CK f156 (Rq [Af 3 0,Af 4 1,Ad 6 0] [2,3,4]<|Rq [Ac 11 4 6,Ai 12 11 2,Ab 13 12,Aa 14 2,Ag 15 13 14 4,Ae 16 15 4,Ec 7 0 0 0 0,Aj 4 7 16,Cn 7] [2,3,4,7]<|Sq (Rq [Ac 17 7 0,Ab 18 17,Bq 19 18 0,Aa 20 19,Ar 21 7 0 20,Ao 22 21 20,Ar 23 4 6 20,Bi 24 23 0 20,Bi 25 24 0 20,Ao 26 25 20,Bc 27 26 20,Bp 28 22 27 20,As 29 20 28] [2,3,4,7,29]<|Co 29 (Rq [Ad 6 6] [6]<|.ret)<|Sk [2,3,4,7])<|Sq (Dr [8,9,30,31,32,33,34,35,36,37,38,39,40,41,42] [Ae 31 3 2,Ac 32 4 6,Ai 33 32 0,Ai 34 33 0,Ab 35 34,Ac 36 7 0,Ab 37 36,Ag 38 35 37 1,Ab 39 38,Al 40 199 31 39,Aa 30 40,Am 41 30 0,Am 42 30 1,Ay 8 41,Aa 9 42] [2,4,7,8])<|Rq [Ac 43 7 2,Ae 44 43 2,⟨some 10,.alc [⟨false,.int .i64 0⟩,⟨false,.int .i64 0⟩],none⟩,Aj 2 10 44] [2,4,7,8,10]<|Sq (Rq [Ac 45 7 1,Ab 46 45,Bq 47 46 0,Aa 48 47,Ar 49 7 1 48,Ao 50 49 48,Aw 51 8 48,Bc 52 51 48,Bp 53 50 52 48,As 54 48 53,Aa 55 54,Ar 56 10 0 55,Ao 57 56 55,Dg 58 57 (-1) 55,As 59 55 58,Aa 60 59,Ar 61 10 0 60,Ao 62 61 60,Ar 63 4 6 60,Bi 64 63 3 60,Ao 65 64 60,Bp 66 62 65 60,As 67 60 66,Aa 68 67,Ar 69 10 1 68,Ao 70 69 68,Dg 71 70 (-1000000) 68,As 72 68 71,Aa 73 72,Ar 74 10 1 73,Ao 75 74 73,Bs 76 75 1000000 73,As 77 73 76] [2,4,7,77]<|Co 77 (Rq [Ad 6 6] [6]<|.ret)<|Sk [2,4,7])<|Sq (Rq [Ac 78 4 6,Ai 79 78 2,Ab 80 79,Aa 81 2,Da 82 4 80 81,Cf 83 205 7,Al 84 204 82 83] [84]<|Co 84 (Rq [Ad 6 5] [6]<|.ret)<|Sk [])<|Rq [Ad 6 0] [6]<|.ret) [.tmp 6]:= by decide +kernel
theorem c156 (t:Types) (r_1:Rule) (i_2:Int) (r:Int) (h:rule_slot t r_1 i_2=some r):Sound prog 156 [eTypes t,eRule r_1,eI i_2] (.sh (eI r)):= by
 refine Fn ck156 fun hw=>?_
 unfold rule_slot at h
 refine D<|F<|a4 rfl rfl<|a4 rfl rfl<|C rfl<|E (kt<|kt<|kt<|kn) fun _=>?_
 refine D<|F<|K rfl<|a6 rfl<|J rfl<|C rfl ?_
 obtain ⟨x15,hx15,h⟩:=I h
 refine W rfl rfl rfl hx15 rfl<|R rfl rfl (show _=eSlot x15 from rfl)<|b1 rfl<|a8 rfl rfl rfl rfl rfl<|l2 rfl rfl<|E (kt<|kt<|kt<|kt<|kn) fun _=>?_
 refine D<|D<|F<|K rfl<|J rfl<|V rfl rfl<|C rfl ?_
 refine gO 9 [21,22,23,24,25,26,27,28] 29 (decide (x15.Node<0)) (decide ((r_1.Right.Graph.Nodes.length:Int)<=x15.Node)) (fun hg29=>?_) (fun hg29=>?_) ?_
 ·refine H rfl hg29<|H rfl hg29<|H rfl hg29<|H rfl hg29<|H rfl hg29<|H rfl hg29<|H rfl hg29<|H rfl hg29<|Y rfl hg29 rfl ?_
  exact ⟨⟨_,_,_,_,_,_,_,_,rfl⟩⟩
 ·refine G rfl hg29<|K rfl<|G rfl hg29<|J rfl<|G rfl hg29<|K rfl<|G rfl hg29<|a6 rfl<|G rfl hg29<|a6 rfl<|G rfl hg29<|J rfl<|G rfl hg29<|U rfl rfl<|G rfl hg29<|d5 rfl rfl<|Z rfl hg29 rfl ?_
  exact ⟨⟨_,_,_,_,_,_,_,_,rfl⟩⟩
 rintro _ ⟨_,_,_,_,_,_,_,_,rfl⟩
 refine E (kt<|kt<|kt<|kt<|kt<|kn) fun _=>?_
 refine S rfl (fun hc29=>?_) (fun hc29=>?_)
 ·replace h:=M hc29 h
  refine D<|F<|C rfl<|E (kt<|kn) fun _=>?_
  exact L (by cases h;rfl)
 ·replace h:=O hc29 h
  refine P (kt<|kt<|kt<|kt<|kn) fun _=>?_
  refine D<|b9 rfl<|R rfl rfl (show _=eTypes t from rfl)<|K rfl<|a6 rfl<|a6 rfl<|J rfl<|K rfl<|J rfl ?_
  obtain ⟨x38,hx38,h⟩:=I h
  refine W rfl rfl rfl hx38 rfl<|J rfl ?_
  obtain ⟨x40,hx40,h⟩:=I h
  refine e5 rfl (c199 t x38 _ hx40)<|e6 rfl<|b2 rfl rfl<|b2 rfl rfl<|f1 rfl<|C rfl<|E (kt<|kt<|kt<|kt<|kn) fun _=>?_
  refine D<|F<|K rfl<|R rfl rfl (show _=eTerm x15.Term from rfl)<|b1 rfl<|a8 rfl rfl rfl rfl rfl<|E (kt<|kt<|kt<|kt<|kb<|kn) fun _=>?_
  refine D<|D<|F<|K rfl<|J rfl<|V rfl rfl<|C rfl ?_
  refine gO 6 [49,50,51,52,53] 54 (decide (x15.Attr<0)) (decide ((x40.1.length:Int)<=x15.Attr)) (fun hg54=>?_) (fun hg54=>?_) ?_
  ·refine H rfl hg54<|H rfl hg54<|H rfl hg54<|H rfl hg54<|H rfl hg54<|Y rfl hg54 rfl ?_
   exact ⟨⟨_,_,_,_,_,rfl⟩⟩
  ·refine G rfl hg54<|K rfl<|G rfl hg54<|J rfl<|G rfl hg54<|C rfl<|G rfl hg54<|U rfl rfl<|G rfl hg54<|d5 rfl rfl<|Z rfl hg54 rfl ?_
   exact ⟨⟨_,_,_,_,_,rfl⟩⟩
  rintro _ ⟨_,_,_,_,_,rfl⟩
  refine C rfl ?_
  refine gO 4 [56,57,58] 59 ((decide (x15.Attr<0))||(decide ((x40.1.length:Int)<=x15.Attr))) (decide (x15.Term.Var<(-1))) (fun hg59=>?_) (fun hg59=>?_) ?_
  ·refine H rfl hg59<|H rfl hg59<|H rfl hg59<|Y rfl hg59 rfl ?_
   exact ⟨⟨_,_,_,rfl⟩⟩
  ·refine G rfl hg59<|a3 rfl<|G rfl hg59<|J rfl<|G rfl hg59<|V rfl rfl<|Z rfl hg59 rfl ?_
   exact ⟨⟨_,_,_,rfl⟩⟩
  rintro _ ⟨_,_,_,rfl⟩
  refine C rfl ?_
  refine gO 7 [61,62,63,64,65,66] 67 (((decide (x15.Attr<0))||(decide ((x40.1.length:Int)<=x15.Attr)))||(decide (x15.Term.Var<(-1)))) (decide (r_1.Right.Vars<=x15.Term.Var)) (fun hg67=>?_) (fun hg67=>?_) ?_
  ·refine H rfl hg67<|H rfl hg67<|H rfl hg67<|H rfl hg67<|H rfl hg67<|H rfl hg67<|Y rfl hg67 rfl ?_
   exact ⟨⟨_,_,_,_,_,_,rfl⟩⟩
  ·refine G rfl hg67<|a3 rfl<|G rfl hg67<|J rfl<|G rfl hg67<|K rfl<|G rfl hg67<|a6 rfl<|G rfl hg67<|J rfl<|G rfl hg67<|d5 rfl rfl<|Z rfl hg67 rfl ?_
   exact ⟨⟨_,_,_,_,_,_,rfl⟩⟩
  rintro _ ⟨_,_,_,_,_,_,rfl⟩
  refine C rfl ?_
  refine gO 4 [69,70,71] 72 ((((decide (x15.Attr<0))||(decide ((x40.1.length:Int)<=x15.Attr)))||(decide (x15.Term.Var<(-1))))||(decide (r_1.Right.Vars<=x15.Term.Var))) (decide (x15.Term.Add<(-1000000))) (fun hg72=>?_) (fun hg72=>?_) ?_
  ·refine H rfl hg72<|H rfl hg72<|H rfl hg72<|Y rfl hg72 rfl ?_
   exact ⟨⟨_,_,_,rfl⟩⟩
  ·refine G rfl hg72<|a3 rfl<|G rfl hg72<|J rfl<|G rfl hg72<|V rfl rfl<|Z rfl hg72 rfl ?_
   exact ⟨⟨_,_,_,rfl⟩⟩
  rintro _ ⟨_,_,_,rfl⟩
  refine C rfl ?_
  refine gO 4 [74,75,76] 77 (((((decide (x15.Attr<0))||(decide ((x40.1.length:Int)<=x15.Attr)))||(decide (x15.Term.Var<(-1))))||(decide (r_1.Right.Vars<=x15.Term.Var)))||(decide (x15.Term.Add<(-1000000)))) (decide (1000000<x15.Term.Add)) (fun hg77=>?_) (fun hg77=>?_) ?_
  ·refine H rfl hg77<|H rfl hg77<|H rfl hg77<|Y rfl hg77 rfl ?_
   exact ⟨⟨_,_,_,rfl⟩⟩
  ·refine G rfl hg77<|a3 rfl<|G rfl hg77<|J rfl<|G rfl hg77<|e4 rfl rfl<|Z rfl hg77 rfl ?_
   exact ⟨⟨_,_,_,rfl⟩⟩
  rintro _ ⟨_,_,_,rfl⟩
  refine E (kt<|kt<|kt<|kt<|kn) fun _=>?_
  refine S rfl (fun hc77=>?_) (fun hc77=>?_)
  ·replace h:=M hc77 h
   refine D<|F<|C rfl<|E (kt<|kn) fun _=>?_
   exact L (by cases h;rfl)
  ·replace h:=O hc77 h
   refine P (kt<|kt<|kt<|kn) fun _=>?_
   refine D<|D<|F<|K rfl<|a6 rfl<|J rfl<|C rfl ?_
   obtain ⟨x82,hx82,h⟩:=I h
   refine l8 rfl rfl rfl rfl hx82<|g2 rfl ?_
   obtain ⟨x84,hx84,h⟩:=I h
   refine T rfl (c204 x82 (fun y0=>rule_slot_1 y0 x15) _ _ (fun y0 r h=>c205 y0 x15 r h) _ hx84)<|E (kt<|kn) fun _=>?_
   refine S rfl (fun hc84=>?_) (fun hc84=>?_)
   ·replace h:=M hc84 h
    refine D<|F<|C rfl<|E (kt<|kn) fun _=>?_
    exact L (by cases h;rfl)
   ·replace h:=O hc84 h
    refine P (kn) fun _=>?_
    refine D<|F<|C rfl<|E (kt<|kn) fun _=>?_
    exact L (by cases h;rfl)
theorem ck99:CK f99 (Rq [Af 2 0,Af 3 1,Ad 4 0] [2,3]<|Sq (Rq [Ac 8 3 6,Ai 9 8 0,Ae 10 9 2,Au 11 147 10,Aa 5 11] [2,3,5]<|Rq [Aa 12 5,Av 13 12 0] [2,3,5,13]<|Co 13 (Rq [Aa 14 5,Aa 4 14] [4]<|.ret)<|Sk [2,3])<|Sq (Bl 0<|Rq [Ae 16 2 2,Ac 17 3 6,Ai 18 17 0,Ae 19 18 2,Al 20 155 16 19,Az 21 20,Aa 15 21] [2,3,15]<|Co 15 (Rq [Ad 4 13] [4]<|.ret)<|Rq [Ac 23 3 6,Ai 24 23 3,Ab 25 24,Ac 26 3 1,Ai 27 26 3,Ab 28 27,Bx 29 25 28,Aa 30 29,Ar 31 3 6 30,Bi 32 31 4 30,Ao 33 32 30,Bc 34 33 30,Bs 35 34 0 30,As 36 30 35,Aa 22 36] [2,3,22]<|Co 22 (Rq [Ad 4 1] [4]<|.ret)<|Rq [Ac 38 3 6,Ai 39 38 2,Ab 40 39,Ah 41 40,Bk 42 41 10,Aa 37 42] [2,3,37]<|Co 37 (Rq [Ad 4 3] [4]<|.ret)<|Sk [2,3])<|Sq (Rq [Ac 43 3 6,Ai 44 43 2,Ab 45 44,Ah 46 45,Ad 47 0] [2,3,46,47]<|Bl 1<|Lo [2,3,46,47]<|Rq [Ap 48 47 46] [2,3,46,47,48]<|Sq (Co 48 (Sk [2,3,46,47])<|Ex 1 [])<|Sq (Bl 2<|Rq [Aa 49 47,Aa 6 49] [2,3,6,46,47]<|Rq [Ae 50 2 2,Ae 51 3 25,Aa 52 6,Bg 53 156 50 51 52,Aa 7 53] [2,3,7,46,47]<|Rq [Aa 54 7,Av 55 54 0] [2,3,7,46,47,55]<|Co 55 (Rq [Aa 56 7,Aa 4 56] [4]<|.ret)<|Sk [2,3,46,47])<|Re [An 57 47 1,Aa 47 57] [2,3,46,47])<|Rq [Ad 4 0] [4]<|.ret) [.tmp 4]:= by decide +kernel
theorem c99 (t:Types) (r_1:Rule) (r:Int) (h:rule_right t r_1=some r):Sound prog 99 [eTypes t,eRule r_1] (.sh (eI r)):= by
 refine Fn ck99 fun hw=>?_
 unfold rule_right at h
 refine D<|F<|a4 rfl rfl<|a4 rfl rfl<|C rfl<|E (kt<|kt<|kn) fun _=>?_
 refine D<|D<|F<|K rfl<|a6 rfl<|R rfl rfl (show _=eGraph r_1.Right.Graph from rfl) ?_
 obtain ⟨x11,hx11,h⟩:=I h
 refine T rfl (c147 r_1.Right.Graph _ hx11)<|C rfl<|E (kt<|kt<|kt<|kn) fun _=>?_
 refine D<|F<|C rfl<|a9 rfl rfl<|E (kt<|kt<|kt<|kt<|kn) fun _=>?_
 refine S rfl (fun hc13=>?_) (fun hc13=>?_)
 ·replace h:=M hc13 h
  refine D<|F<|C rfl<|C rfl<|E (kt<|kn) fun _=>?_
  exact L (by cases h;rfl)
 ·replace h:=O hc13 h
  refine P (kt<|kt<|kn) fun _=>?_
  refine D<|b0<|D<|F<|R rfl rfl (show _=eTypes t from rfl)<|K rfl<|a6 rfl<|R rfl rfl (show _=eGraph r_1.Right.Graph from rfl) ?_
  obtain ⟨x20,hx20,h⟩:=I h
  refine T rfl (c155 t r_1.Right.Graph _ hx20)<|d0 rfl<|C rfl<|E (kt<|kt<|kt<|kn) fun _=>?_
  refine S rfl (fun hc15=>?_) (fun hc15=>?_)
  ·replace h:=M hc15 h
   refine D<|F<|C rfl<|E (kt<|kn) fun _=>?_
   exact L (by cases h;rfl)
  ·replace h:=O hc15 h
   refine D<|F<|K rfl<|a6 rfl<|J rfl<|K rfl<|a6 rfl<|J rfl<|a9 rfl rfl<|C rfl ?_
   refine gO 6 [31,32,33,34,35] 36 (!decide (r_1.Right.Vars=r_1.Left.Vars)) (decide (0<(r_1.Right.Tests.length:Int))) (fun hg36=>?_) (fun hg36=>?_) ?_
   ·refine H rfl hg36<|H rfl hg36<|H rfl hg36<|H rfl hg36<|H rfl hg36<|Y rfl hg36 rfl ?_
    exact ⟨⟨_,_,_,_,_,rfl⟩⟩
   ·refine G rfl hg36<|K rfl<|G rfl hg36<|a6 rfl<|G rfl hg36<|J rfl<|G rfl hg36<|U rfl rfl<|G rfl hg36<|e4 rfl rfl<|Z rfl hg36 rfl ?_
    exact ⟨⟨_,_,_,_,_,rfl⟩⟩
   rintro _ ⟨_,_,_,_,_,rfl⟩
   refine C rfl<|E (kt<|kt<|kt<|kn) fun _=>?_
   refine S rfl (fun hc22=>?_) (fun hc22=>?_)
   ·replace h:=M hc22 h
    refine D<|F<|C rfl<|E (kt<|kn) fun _=>?_
    exact L (by cases h;rfl)
   ·replace h:=O hc22 h
    refine D<|F<|K rfl<|a6 rfl<|J rfl<|U rfl rfl<|e4 rfl rfl<|C rfl<|E (kt<|kt<|kt<|kn) fun _=>?_
    refine S rfl (fun hc37=>?_) (fun hc37=>?_)
    ·replace h:=M hc37 h
     refine D<|F<|C rfl<|E (kt<|kn) fun _=>?_
     exact L (by cases h;rfl)
    ·replace h:=O hc37 h
     refine P (kt<|kt<|kn) fun _=>?_
     refine D<|D<|F<|K rfl<|a6 rfl<|J rfl<|U rfl rfl<|C rfl<|E (kt<|kt<|kt<|kt<|kn) fun _=>?_
     obtain ⟨o1,ho1,h⟩:=d2 h
     refine d6 ho1 (fun (i1:Int) (_:Unit)=>[(2,.tv (.pt (eTypes t).cells)),(3,.tv (.pt (eRule r_1).cells)),(46,.tv (eI (r_1.Right.Slots.length:Int))),(47,.tv (eI i1))]) (fun (_:Unit)=>[]) (fun zv ze=>resIs ([.tmp 4]) (.sh (eI zv)) ze) rfl ?_ ?_ ?_ ?_
     ·clear h ho1
      intro i1 s1 r1 hi1 h hw1
      refine D<|F<|V rfl rfl<|E (kt<|kt<|kt<|kt<|kt<|kn) fun _=>?_
      refine D<|b5 rfl (b6 hi1)<|P (kt<|kt<|kt<|kt<|kn) fun _=>?_
      refine D<|b0<|D<|F<|C rfl<|C rfl<|E (kt<|kt<|kt<|kt<|kt<|kn) fun _=>?_
      refine D<|F<|R rfl rfl (show _=eTypes t from rfl)<|R rfl rfl (show _=eRule r_1 from rfl)<|C rfl ?_
      obtain ⟨x53,hx53,h⟩:=I h
      refine T rfl (c156 t r_1 i1 _ hx53)<|C rfl<|E (kt<|kt<|kt<|kt<|kt<|kn) fun _=>?_
      refine D<|F<|C rfl<|a9 rfl rfl<|E (kt<|kt<|kt<|kt<|kt<|kt<|kn) fun _=>?_
      refine S rfl (fun hc55=>?_) (fun hc55=>?_)
      ·replace h:=M hc55 h
       refine D<|F<|C rfl<|C rfl<|E (kt<|kn) fun _=>?_
       refine L ?_
       cases h
       exact ⟨_,rfl,rfl⟩
      ·replace h:=O hc55 h
       refine P (kt<|kt<|kt<|kt<|kn) fun _=>?_
       refine F<|a7 rfl rfl<|C rfl<|E (kt<|kt<|kt<|kt<|kn) ?_
       cases h
       refine ⟨_,rfl,?_⟩
       rw [Ktv rfl (Ktv rfl (Ktv rfl (Ktv rfl (Knil _))))]
       rw [b4 (a5 (hw1 47)) hi1 (e0 (a5 (hw1 46)))]
       all_goals rfl
     ·intro i1 s1 hi1
      refine D<|F<|V rfl rfl<|E (kt<|kt<|kt<|kt<|kt<|kn) fun _=>?_
      refine D<|b7 rfl (b8 hi1)<|b3 (kn) ?_
      exact ⟨rfl,rfl⟩
     ·intro s1 hs
      replace h:=d3 h hs
      intro _
      refine D<|F<|C rfl<|E (kt<|kn) fun _=>?_
      exact L (by cases h;rfl)
     ·intro v1 ze hv hR
      replace h:=d4 h hv
      cases h
      exact hR
theorem ck252:CK f252 (Rq [Ad 4 0] [0,1]<|Sq (Rq [Aa 7 0,Ah 8 7,Ad 9 0] [0,1,7,8,9]<|Bl 0<|Lo [0,1,7,8,9]<|Rq [Ap 10 9 8] [0,1,7,8,9,10]<|Sq (Co 10 (Sk [0,1,7,8,9])<|Ex 0 [])<|Sq (Bl 1<|Rq [Aa 11 9,Ag 12 7 9 1,Ab 13 12,Aa 5 11,Aa 6 13] [0,1,5,6,7,8,9]<|Sq (Rq [Aa 14 6,Bq 15 14 0,Aa 16 15,Aw 17 6 16,Aw 18 1 16,Bp 19 17 18 16,As 20 16 19] [0,1,5,6,7,8,9,20]<|Co 20 (Rq [Ad 4 6] [4]<|.ret)<|Sk [0,1,5,6,7,8,9])<|Rq [Aa 21 5,Bk 22 21 0,Aa 23 22,Aq 24 6 23,Aq 25 0 23,Aq 26 5 23,Dn 27 26 1 23,Cb 28 25 27 1 23,Ax 29 28 23,Dd 30 24 29 23,At 31 23 30] [0,1,7,8,9,31]<|Co 31 (Rq [Ad 4 12] [4]<|.ret)<|Sk [0,1,7,8,9])<|Re [An 32 9 1,Aa 9 32] [0,1,7,8,9])<|Rq [Ad 4 0] [4]<|.ret) [.tmp 4]:= by decide +kernel
theorem c252 (l:List Int) (n:Int) (r:Int) (h:subgraph_list l n=some r):Sound prog 252 [lI l,eI n] (.sh (eI r)):= by
 refine Fn ck252 fun hw=>?_
 unfold subgraph_list at h
 refine D<|F<|C rfl<|E (kt<|kt<|kn) fun _=>?_
 refine D<|D<|F<|C rfl<|U rfl rfl<|C rfl<|E (kt<|kt<|kt<|kt<|kt<|kn) fun _=>?_
 obtain ⟨o0,ho0,h⟩:=d2 h
 refine d6 ho0 (fun (i0:Int) (_:Unit)=>[(0,.tv (lI l)),(1,.tv (eI n)),(7,.tv (lI l)),(8,.tv (eI (l.length:Int))),(9,.tv (eI i0))]) (fun (_:Unit)=>[]) (fun zv ze=>resIs ([.tmp 4]) (.sh (eI zv)) ze) rfl ?_ ?_ ?_ ?_
 ·clear h ho0
  intro i0 s0 r0 hi0 h hw0
  refine D<|F<|V rfl rfl<|E (kt<|kt<|kt<|kt<|kt<|kt<|kn) fun _=>?_
  refine D<|b5 rfl (b6 hi0)<|P (kt<|kt<|kt<|kt<|kt<|kn) fun _=>?_
  refine D<|b0<|D<|F<|C rfl ?_
  obtain ⟨x12,hx12,h⟩:=I h
  refine W rfl rfl rfl hx12 rfl<|J rfl<|C rfl<|C rfl<|E (kt<|kt<|kt<|kt<|kt<|kt<|kt<|kn) fun _=>?_
  refine D<|D<|F<|C rfl<|V rfl rfl<|C rfl ?_
  refine gO 4 [17,18,19] 20 (decide (x12<0)) (decide (n<=x12)) (fun hg20=>?_) (fun hg20=>?_) ?_
  ·refine H rfl hg20<|H rfl hg20<|H rfl hg20<|Y rfl hg20 rfl ?_
   exact ⟨⟨_,_,_,rfl⟩⟩
  ·refine G rfl hg20<|C rfl<|G rfl hg20<|C rfl<|G rfl hg20<|d5 rfl rfl<|Z rfl hg20 rfl ?_
   exact ⟨⟨_,_,_,rfl⟩⟩
  rintro _ ⟨_,_,_,rfl⟩
  refine E (kt<|kt<|kt<|kt<|kt<|kt<|kt<|kt<|kn) fun _=>?_
  refine S rfl (fun hc20=>?_) (fun hc20=>?_)
  ·replace h:=M hc20 h
   refine D<|F<|C rfl<|E (kt<|kn) fun _=>?_
   refine L ?_
   cases h
   exact ⟨_,rfl,rfl⟩
  ·replace h:=O hc20 h
   refine P (kt<|kt<|kt<|kt<|kt<|kt<|kt<|kn) fun _=>?_
   refine D<|F<|C rfl<|e4 rfl rfl<|C rfl ?_
   obtain ⟨x31,hx31,h⟩:=I h
   refine gX 8 [24,25,26,27,28,29,30] 31 x31 (decide (0<i0)) (fun hg31=>?_) (fun hg31=>?_) ?_
   ·replace h:=M hg31 hx31
    refine G rfl hg31<|C rfl<|G rfl hg31<|C rfl<|G rfl hg31<|C rfl<|G rfl hg31<|g4 rfl rfl ?_
    obtain ⟨x28,hx28,h⟩:=I h
    refine G rfl hg31<|W rfl rfl rfl hx28 rfl<|G rfl hg31<|J rfl<|G rfl hg31<|f4 rfl rfl ?_
    cases h
    refine Y rfl hg31 rfl ?_
    exact ⟨⟨_,_,_,_,_,_,_,rfl⟩⟩
   ·replace h:=O hg31 hx31
    cases h
    refine H rfl hg31<|H rfl hg31<|H rfl hg31<|H rfl hg31<|H rfl hg31<|H rfl hg31<|H rfl hg31<|Z rfl hg31 rfl ?_
    exact ⟨⟨_,_,_,_,_,_,_,rfl⟩⟩
   rintro _ ⟨_,_,_,_,_,_,_,rfl⟩
   refine E (kt<|kt<|kt<|kt<|kt<|kt<|kn) fun _=>?_
   refine S rfl (fun hc31=>?_) (fun hc31=>?_)
   ·replace h:=M hc31 h
    refine D<|F<|C rfl<|E (kt<|kn) fun _=>?_
    refine L ?_
    cases h
    exact ⟨_,rfl,rfl⟩
   ·replace h:=O hc31 h
    refine P (kt<|kt<|kt<|kt<|kt<|kn) fun _=>?_
    refine F<|a7 rfl rfl<|C rfl<|E (kt<|kt<|kt<|kt<|kt<|kn) ?_
    cases h
    refine ⟨_,rfl,?_⟩
    rw [Ktv rfl (Ktv rfl (Ktv rfl (Ktv rfl (Ktv rfl (Knil _)))))]
    rw [b4 (a5 (hw0 9)) hi0 (e0 (a5 (hw0 8)))]
    all_goals rfl
 ·intro i0 s0 hi0
  refine D<|F<|V rfl rfl<|E (kt<|kt<|kt<|kt<|kt<|kt<|kn) fun _=>?_
  refine D<|b7 rfl (b8 hi0)<|b3 (kn) ?_
  exact ⟨rfl,rfl⟩
 ·intro s0 hs
  replace h:=d3 h hs
  intro _
  refine D<|F<|C rfl<|E (kt<|kn) fun _=>?_
  exact L (by cases h;rfl)
 ·intro v0 ze hv hR
  replace h:=d4 h hv
  cases h
  exact hR
theorem c207 (l:List Int) (x:Int) (r:Int × Bool) (h:slices_BinarySearch_int l x=some r):Sound prog 207 [lI l,eI x] (.tp [eI (r.1),eB (r.2)]):=by
  unfold slices_BinarySearch_int at h
  split at h
  · rename_i hl
    cases h
    have hb:=hl.1
    unfold nmax at hb
    refine search_of (by rfl) hl.1 hl.2 (fun a c w hz=>?_) (fun b off c w hc=>Go.Proofs.Tryz.slices_BinarySearch_int b off l.length c l x w (Nat.le_refl _) (by omega) hc (by rw [List.take_length]; exact hl.2))
    exact Go.Proofs.Tryz.slices_BinarySearch_int_empty a c x w
  · cases h
theorem ck253:CK f253 (Rq [Ak 4] [0,1]<|Rq [Aa 8 0,Aa 9 1,Al 10 207 8 9,Aa 7 10,Am 11 7 0,Am 12 7 1,Aa 5 11,Aa 6 12] [6]<|Rq [Aa 13 6,Aa 4 13] [4]<|.ret) [.tmp 4]:= by decide +kernel
theorem c253 (l:List Int) (n:Int) (r:Bool) (h:subgraph_has l n=some r):Sound prog 253 [lI l,eI n] (.sh (eB r)):= by
 refine Fn ck253 fun hw=>?_
 unfold subgraph_has at h
 refine D<|F<|C rfl<|E (kt<|kt<|kn) fun _=>?_
 refine D<|F<|C rfl<|C rfl ?_
 obtain ⟨x10,hx10,h⟩:=I h
 refine e5 rfl (c207 l n _ hx10)<|e6 rfl<|b2 rfl rfl<|b2 rfl rfl<|C rfl<|C rfl<|E (kt<|kn) fun _=>?_
 refine D<|F<|C rfl<|C rfl<|E (kt<|kn) fun _=>?_
 exact L (by cases h;rfl)
theorem ck238:CK f238 (Rq [Af 2 0,Af 3 1,Ad 4 0] [2,3]<|Sq (Rq [Ac 9 3 0,Ab 10 9,Ac 11 2 0,Ab 12 11,Ah 13 12,Al 14 252 10 13,Aa 5 14] [2,3,5]<|Rq [Aa 15 5,Av 16 15 0] [2,3,5,16]<|Co 16 (Rq [Aa 17 5,Aa 4 17] [4]<|.ret)<|Sk [2,3])<|Sq (Rq [Ac 18 3 1,Ab 19 18,Ac 20 2 1,Ab 21 20,Ah 22 21,Al 23 252 19 22,Aa 6 23] [2,3,6]<|Rq [Aa 24 6,Av 25 24 0] [2,3,6,25]<|Co 25 (Rq [Aa 26 6,Aa 4 26] [4]<|.ret)<|Sk [2,3])<|Sq (Rq [Ac 27 3 1,Ab 28 27,Ah 29 28,Ad 30 0] [2,3,28,29,30]<|Bl 0<|Lo [2,3,28,29,30]<|Rq [Ap 31 30 29] [2,3,28,29,30,31]<|Sq (Co 31 (Sk [2,3,28,29,30])<|Ex 0 [])<|Sq (Bl 1<|Rq [Ag 32 28 30 1,Ab 33 32,Aa 8 33] [2,3,8,28,29,30]<|Sq (Dr [34,35,36,37,38,39,40,41,42,43,44,45,46,47,48,49,50,51,52,53,54,55] [Ac 34 3 0,Ab 35 34,Ac 36 2 1,Ab 37 36,Aa 38 8,Ag 39 37 38 3,Ai 40 39 1,Ab 41 40,Al 42 253 35 41,Az 43 42,Aa 44 43,Ar 45 3 0 44,Ao 46 45 44,Ar 47 2 1 44,Ao 48 47 44,Aw 49 8 44,Cw 50 48 49 3 44,Bi 51 50 2 44,Ao 52 51 44,Db 53 253 46 52 44,Br 54 53 44,As 55 44 54] [2,3,28,29,30,55])<|Co 55 (Rq [Ad 4 14] [4]<|.ret)<|Sk [2,3,28,29,30])<|Re [An 56 30 1,Aa 30 56] [2,3,28,29,30])<|Rq [Ad 4 0] [4]<|.ret) [.tmp 4]:= by decide +kernel
theorem c238 (g:Graph) (p:Part) (r:Int) (h:subgraph_part g p=some r):Sound prog 238 [eGraph g,ePart p] (.sh (eI r)):= by
 refine Fn ck238 fun hw=>?_
 unfold subgraph_part at h
 refine D<|F<|a4 rfl rfl<|a4 rfl rfl<|C rfl<|E (kt<|kt<|kn) fun _=>?_
 refine D<|D<|F<|K rfl<|J rfl<|K rfl<|J rfl<|U rfl rfl ?_
 obtain ⟨x14,hx14,h⟩:=I h
 refine T rfl (c252 p.Nodes (g.Nodes.length:Int) _ hx14)<|C rfl<|E (kt<|kt<|kt<|kn) fun _=>?_
 refine D<|F<|C rfl<|a9 rfl rfl<|E (kt<|kt<|kt<|kt<|kn) fun _=>?_
 refine S rfl (fun hc16=>?_) (fun hc16=>?_)
 ·replace h:=M hc16 h
  refine D<|F<|C rfl<|C rfl<|E (kt<|kn) fun _=>?_
  exact L (by cases h;rfl)
 ·replace h:=O hc16 h
  refine P (kt<|kt<|kn) fun _=>?_
  refine D<|D<|F<|K rfl<|J rfl<|K rfl<|J rfl<|U rfl rfl ?_
  obtain ⟨x23,hx23,h⟩:=I h
  refine T rfl (c252 p.Edges (g.Edges.length:Int) _ hx23)<|C rfl<|E (kt<|kt<|kt<|kn) fun _=>?_
  refine D<|F<|C rfl<|a9 rfl rfl<|E (kt<|kt<|kt<|kt<|kn) fun _=>?_
  refine S rfl (fun hc25=>?_) (fun hc25=>?_)
  ·replace h:=M hc25 h
   refine D<|F<|C rfl<|C rfl<|E (kt<|kn) fun _=>?_
   exact L (by cases h;rfl)
  ·replace h:=O hc25 h
   refine P (kt<|kt<|kn) fun _=>?_
   refine D<|D<|F<|K rfl<|J rfl<|U rfl rfl<|C rfl<|E (kt<|kt<|kt<|kt<|kt<|kn) fun _=>?_
   obtain ⟨o0,ho0,h⟩:=d2 h
   refine d6 ho0 (fun (i0:Int) (_:Unit)=>[(2,.tv (.pt (eGraph g).cells)),(3,.tv (.pt (ePart p).cells)),(28,.tv (lI p.Edges)),(29,.tv (eI (p.Edges.length:Int))),(30,.tv (eI i0))]) (fun (_:Unit)=>[]) (fun zv ze=>resIs ([.tmp 4]) (.sh (eI zv)) ze) rfl ?_ ?_ ?_ ?_
   ·clear h ho0
    intro i0 s0 r0 hi0 h hw0
    refine D<|F<|V rfl rfl<|E (kt<|kt<|kt<|kt<|kt<|kt<|kn) fun _=>?_
    refine D<|b5 rfl (b6 hi0)<|P (kt<|kt<|kt<|kt<|kt<|kn) fun _=>?_
    refine D<|b0<|D<|F ?_
    obtain ⟨x32,hx32,h⟩:=I h
    refine W rfl rfl rfl hx32 rfl<|J rfl<|C rfl<|E (kt<|kt<|kt<|kt<|kt<|kt<|kn) fun _=>?_
    refine D<|b9 rfl<|K rfl<|J rfl<|K rfl<|J rfl<|C rfl ?_
    obtain ⟨x39,hx39,h⟩:=I h
    refine W rfl rfl rfl hx39 rfl<|a6 rfl<|J rfl ?_
    obtain ⟨x42,hx42,h⟩:=I h
    refine T rfl (c253 p.Nodes x39.From _ hx42)<|d0 rfl<|C rfl ?_
    obtain ⟨x55,hx55,h⟩:=I h
    refine gX 11 [45,46,47,48,49,50,51,52,53,54] 55 x55 (!x42) (fun hg55=>?_) (fun hg55=>?_) ?_
    ·replace h:=M hg55 hx55
     cases h
     refine H rfl hg55<|H rfl hg55<|H rfl hg55<|H rfl hg55<|H rfl hg55<|H rfl hg55<|H rfl hg55<|H rfl hg55<|H rfl hg55<|H rfl hg55<|Y rfl hg55 rfl ?_
     exact ⟨⟨_,_,_,_,_,_,_,_,_,_,rfl⟩⟩
    ·replace h:=O hg55 hx55
     refine G rfl hg55<|K rfl<|G rfl hg55<|J rfl<|G rfl hg55<|K rfl<|G rfl hg55<|J rfl<|G rfl hg55<|C rfl ?_
     obtain ⟨x50,hx50,h⟩:=I h
     refine G rfl hg55<|W rfl rfl rfl hx50 rfl<|G rfl hg55<|a6 rfl<|G rfl hg55<|J rfl ?_
     obtain ⟨x53,hx53,h⟩:=I h
     refine G rfl hg55<|T rfl (c253 p.Nodes x50.To _ hx53)<|G rfl hg55<|d0 rfl ?_
     cases h
     refine Z rfl hg55 rfl ?_
     exact ⟨⟨_,_,_,_,_,_,_,_,_,_,rfl⟩⟩
    rintro _ ⟨_,_,_,_,_,_,_,_,_,_,rfl⟩
    refine E (kt<|kt<|kt<|kt<|kt<|kt<|kn) fun _=>?_
    refine S rfl (fun hc55=>?_) (fun hc55=>?_)
    ·replace h:=M hc55 h
     refine D<|F<|C rfl<|E (kt<|kn) fun _=>?_
     refine L ?_
     cases h
     exact ⟨_,rfl,rfl⟩
    ·replace h:=O hc55 h
     refine P (kt<|kt<|kt<|kt<|kt<|kn) fun _=>?_
     refine F<|a7 rfl rfl<|C rfl<|E (kt<|kt<|kt<|kt<|kt<|kn) ?_
     cases h
     refine ⟨_,rfl,?_⟩
     rw [Ktv rfl (Ktv rfl (Ktv rfl (Ktv rfl (Ktv rfl (Knil _)))))]
     rw [b4 (a5 (hw0 30)) hi0 (e0 (a5 (hw0 29)))]
     all_goals rfl
   ·intro i0 s0 hi0
    refine D<|F<|V rfl rfl<|E (kt<|kt<|kt<|kt<|kt<|kt<|kn) fun _=>?_
    refine D<|b7 rfl (b8 hi0)<|b3 (kn) ?_
    exact ⟨rfl,rfl⟩
   ·intro s0 hs
    replace h:=d3 h hs
    intro _
    refine D<|F<|C rfl<|E (kt<|kn) fun _=>?_
    exact L (by cases h;rfl)
   ·intro v0 ze hv hR
    replace h:=d4 h hv
    cases h
    exact hR
theorem ck206:CK f206 (Rq [Af 2 0,Af 3 1,Ad 4 0] [2,3]<|Sq (Rq [Ae 6 2 2,Au 7 147 6,Aa 5 7] [2,3,5]<|Rq [Aa 8 5,Av 9 8 0] [2,3,5,9]<|Co 9 (Rq [Aa 10 5,Aa 4 10] [4]<|.ret)<|Sk [2,3])<|Rq [Ae 11 2 2,Ae 12 3 2,Al 13 238 11 12,Aa 4 13] [4]<|.ret) [.tmp 4]:= by decide +kernel
theorem c206 (g:Graph) (p:Part) (r:Int) (h:subgraph_Valid g p=some r):Sound prog 206 [eGraph g,ePart p] (.sh (eI r)):= by
 refine Fn ck206 fun hw=>?_
 unfold subgraph_Valid at h
 refine D<|F<|a4 rfl rfl<|a4 rfl rfl<|C rfl<|E (kt<|kt<|kn) fun _=>?_
 refine D<|D<|F<|R rfl rfl (show _=eGraph g from rfl) ?_
 obtain ⟨x7,hx7,h⟩:=I h
 refine T rfl (c147 g _ hx7)<|C rfl<|E (kt<|kt<|kt<|kn) fun _=>?_
 refine D<|F<|C rfl<|a9 rfl rfl<|E (kt<|kt<|kt<|kt<|kn) fun _=>?_
 refine S rfl (fun hc9=>?_) (fun hc9=>?_)
 ·replace h:=M hc9 h
  refine D<|F<|C rfl<|C rfl<|E (kt<|kn) fun _=>?_
  exact L (by cases h;rfl)
 ·replace h:=O hc9 h
  refine P (kt<|kt<|kn) fun _=>?_
  refine D<|F<|R rfl rfl (show _=eGraph g from rfl)<|R rfl rfl (show _=ePart p from rfl) ?_
  obtain ⟨x13,hx13,h⟩:=I h
  refine T rfl (c238 g p _ hx13)<|C rfl<|E (kt<|kn) fun _=>?_
  exact L (by cases h;rfl)
theorem ck157:CK f157 (Rq [Af 2 0,Af 3 1,Bd 4 1 3,Bd 5 1 1,Ad 6 0] [2,3,4,5]<|Sq (Rq [Ae 14 2 2,Ae 15 3 2,Al 16 206 14 15,Aa 7 16] [2,3,4,5,7]<|Rq [Aa 17 7,Av 18 17 0] [2,3,4,5,7,18]<|Co 18 (Rq [De 19 1 3,De 20 1 1,Aa 21 7,Aj 2 4 19,Aj 2 5 20,Aa 6 21] [4,5,6]<|.ret)<|Sk [2,3,4,5])<|Rq [Bd 8 1 3] [2,3,4,5,8]<|Sq (Rq [Ac 22 3 0,Ab 23 22,Ah 24 23,Ad 25 0] [2,3,4,5,8,23,24,25]<|Bl 0<|Lo [2,3,4,5,8,23,24,25]<|Rq [Ap 26 25 24] [2,3,4,5,8,23,24,25,26]<|Sq (Co 26 (Sk [2,3,4,5,8,23,24,25])<|Ex 0 [2,3,4,5,8])<|Sq (Bl 1<|Rq [Ag 27 23 25 1,Ab 28 27,Aa 10 28] [2,3,4,5,8,10,23,24,25]<|Dr [29,30,31,32,33,34,35,36,37,38] [Ac 29 8 0,Bm 30 29,Ac 31 2 0,Ab 32 31,Aa 33 10,Ag 34 32 33 1,Ab 35 34,Bh 36 1 35,Bb 37 1 30 36,Ac 38 8 0,Bj 1 38 37] [2,3,4,5,8,23,24,25])<|Re [An 39 25 1,Aa 25 39] [2,3,4,5,8,23,24,25])<|Sq (Rq [Ac 40 3 1,Ab 41 40,Ah 42 41,Ad 43 0] [2,3,4,5,8,41,42,43]<|Bl 2<|Lo [2,3,4,5,8,41,42,43]<|Rq [Ap 44 43 42] [2,3,4,5,8,41,42,43,44]<|Sq (Co 44 (Sk [2,3,4,5,8,41,42,43])<|Ex 2 [3,4,5,8])<|Sq (Bl 3<|Rq [Ag 45 41 43 1,Ab 46 45,Aa 12 46] [2,3,4,5,8,12,41,42,43]<|Rq [Ac 47 2 1,Ab 48 47,Aa 49 12,Ag 50 48 49 3,Ae 51 50 3,By 13 0 0 0,Aj 3 13 51] [2,3,4,5,8,13,41,42,43]<|Rq [Ac 53 3 0,Ab 54 53,Ac 55 13 1,Ab 56 55,Al 57 207 54 56,Aa 52 57,Am 58 52 0,Am 59 52 1,Ac 60 13 1,Bj 1 60 58] [2,3,4,5,8,13,41,42,43]<|Rq [Ac 62 3 0,Ab 63 62,Ac 64 13 2,Ab 65 64,Al 66 207 63 65,Aa 61 66,Am 67 61 0,Am 68 61 1,Ac 69 13 2,Bj 1 69 67] [2,3,4,5,8,13,41,42,43]<|Re [Ac 70 8 1,Bm 71 70,Ae 72 13 3,Bh 73 3 72,Bb 74 3 71 73,Ac 75 8 1,Bj 1 75 74] [2,3,4,5,8,41,42,43])<|Re [An 76 43 1,Aa 43 76] [2,3,4,5,8,41,42,43])<|Sq (Dr [4,5,6,77,78,79,80,81,82,83,84] [Ae 77 8 2,Ac 78 3 0,Ab 79 78,Au 80 112 79,Ac 81 3 1,Ab 82 81,Au 83 112 82,Ck 84 1 1 0 1 80 1 1 83,Aj 2 4 77,Aj 2 5 84,Ad 6 0] [4,5,6])<|.ret) [.cell 4 (some 2),.cell 5 (some 2),.tmp 6]:= by decide +kernel
theorem c157 (g:Graph) (p:Part) (r:(Graph × Morphism × Int)) (h:subgraph_Extract g p=some r):Sound prog 157 [eGraph g,ePart p] (.tp [eGraph r.1,eMorphism r.2.1,eI r.2.2]):= by
 refine Fn ck157 fun hw=>?_
 unfold subgraph_Extract at h
 refine D<|F<|a4 rfl rfl<|a4 rfl rfl<|b1 rfl<|b1 rfl<|C rfl<|E (kt<|kt<|kb<|kb<|kn) fun _=>?_
 refine D<|D<|F<|R rfl rfl (show _=eGraph g from rfl)<|R rfl rfl (show _=ePart p from rfl) ?_
 obtain ⟨x16,hx16,h⟩:=I h
 refine T rfl (c206 g p _ hx16)<|C rfl<|E (kt<|kt<|kb<|kb<|kt<|kn) fun _=>?_
 refine D<|F<|C rfl<|a9 rfl rfl<|E (kt<|kt<|kb<|kb<|kt<|kt<|kn) fun _=>?_
 refine S rfl (fun hc18=>?_) (fun hc18=>?_)
 ·replace h:=M hc18 h
  refine D<|F<|e8 rfl rfl (show _=eGraph (Graph.mk [] []) from rfl)<|e8 rfl rfl (show _=eMorphism (Morphism.mk [] []) from rfl)<|C rfl<|a8 rfl rfl rfl rfl rfl<|a8 rfl rfl rfl rfl rfl<|C rfl<|E (kb<|kb<|kt<|kn) fun _=>?_
  refine L ?_
  cases h
  exact ⟨by decide,rfl⟩
 ·replace h:=O hc18 h
  refine P (kt<|kt<|kb<|kb<|kn) fun _=>?_
  refine D<|F<|b1 rfl<|E (kt<|kt<|kb<|kb<|kb<|kn) fun _=>?_
  refine D<|D<|F<|K rfl<|J rfl<|U rfl rfl<|C rfl<|E (kt<|kt<|kb<|kb<|kb<|kt<|kt<|kt<|kn) fun _=>?_
  obtain ⟨s0,hs0,h⟩:=I h
  refine f5 hs0 (fun (i0:Int) (s0:Graph)=>[(2,.tv (.pt (eGraph g).cells)),(3,.tv (.pt (ePart p).cells)),(4,.bx [⟨true,lI []⟩,⟨true,lE []⟩]),(5,.bx [⟨true,lI []⟩,⟨true,lI []⟩]),(8,.bx [⟨true,lI s0.Nodes⟩,⟨true,lE s0.Edges⟩]),(23,.tv (lI p.Nodes)),(24,.tv (eI (p.Nodes.length:Int))),(25,.tv (eI i0))]) (fun (s0:Graph)=>[(2,.tv (.pt (eGraph g).cells)),(3,.tv (.pt (ePart p).cells)),(4,.bx [⟨true,lI []⟩,⟨true,lE []⟩]),(5,.bx [⟨true,lI []⟩,⟨true,lI []⟩]),(8,.bx [⟨true,lI s0.Nodes⟩,⟨true,lE s0.Edges⟩])]) rfl ?_ ?_ ?_
  ·clear h hs0
   intro i0 s0 r0 hi0 h hw0
   refine D<|F<|V rfl rfl<|E (kt<|kt<|kb<|kb<|kb<|kt<|kt<|kt<|kt<|kn) fun _=>?_
   refine D<|b5 rfl (b6 hi0)<|P (kt<|kt<|kb<|kb<|kb<|kt<|kt<|kt<|kn) fun _=>?_
   refine D<|b0<|D<|F ?_
   obtain ⟨x27,hx27,h⟩:=I h
   refine W rfl rfl rfl hx27 rfl<|J rfl<|C rfl<|E (kt<|kt<|kb<|kb<|kb<|kt<|kt<|kt<|kt<|kn) fun _=>?_
   refine b9 rfl<|a3 rfl<|f8 rfl rfl rfl rfl<|K rfl<|J rfl<|C rfl ?_
   obtain ⟨x34,hx34,h⟩:=I h
   refine W rfl rfl rfl hx34 rfl<|J rfl<|e1 (e:=eI) (l:=[x34]) rfl rfl (fun _=>rfl) ?_
   obtain ⟨x37,hx37,h⟩:=I h
   refine e7 rfl rfl rfl rfl hx37 rfl<|a3 rfl<|f7 rfl rfl rfl (by decide) rfl rfl<|E (kt<|kt<|kb<|kb<|kb<|kt<|kt<|kt<|kn) fun _=>?_
   refine F<|a7 rfl rfl<|C rfl<|E (kt<|kt<|kb<|kb<|kb<|kt<|kt<|kt<|kn) ?_
   cases h
   show Env.keep _ _=_
   rw [Ktv rfl (Ktv rfl (Kbx rfl (Kbx rfl (Kbx rfl (Ktv rfl (Ktv rfl (Ktv rfl (Knil _))))))))]
   rw [b4 (a5 (hw0 25)) hi0 (e0 (a5 (hw0 24)))]
   all_goals rfl
  ·intro i0 s0 hi0
   refine D<|F<|V rfl rfl<|E (kt<|kt<|kb<|kb<|kb<|kt<|kt<|kt<|kt<|kn) fun _=>?_
   refine D<|b7 rfl (b8 hi0)<|b3 (kt<|kt<|kb<|kb<|kb<|kn) ?_
   exact ⟨rfl,rfl⟩
  ·intro _
   refine D<|D<|F<|K rfl<|J rfl<|U rfl rfl<|C rfl<|E (kt<|kt<|kb<|kb<|kb<|kt<|kt<|kt<|kn) fun _=>?_
   obtain ⟨s2,hs2,h⟩:=I h
   refine f5 hs2 (fun (i2:Int) (s2:Graph)=>[(2,.tv (.pt (eGraph g).cells)),(3,.tv (.pt (ePart p).cells)),(4,.bx [⟨true,lI []⟩,⟨true,lE []⟩]),(5,.bx [⟨true,lI []⟩,⟨true,lI []⟩]),(8,.bx [⟨true,lI s2.Nodes⟩,⟨true,lE s2.Edges⟩]),(41,.tv (lI p.Edges)),(42,.tv (eI (p.Edges.length:Int))),(43,.tv (eI i2))]) (fun (s2:Graph)=>[(3,.tv (.pt (ePart p).cells)),(4,.bx [⟨true,lI []⟩,⟨true,lE []⟩]),(5,.bx [⟨true,lI []⟩,⟨true,lI []⟩]),(8,.bx [⟨true,lI s2.Nodes⟩,⟨true,lE s2.Edges⟩])]) rfl ?_ ?_ ?_
   ·clear h hs2
    intro i2 s2 r2 hi2 h hw2
    refine D<|F<|V rfl rfl<|E (kt<|kt<|kb<|kb<|kb<|kt<|kt<|kt<|kt<|kn) fun _=>?_
    refine D<|b5 rfl (b6 hi2)<|P (kt<|kt<|kb<|kb<|kb<|kt<|kt<|kt<|kn) fun _=>?_
    refine D<|b0<|D<|F ?_
    obtain ⟨x45,hx45,h⟩:=I h
    refine W rfl rfl rfl hx45 rfl<|J rfl<|C rfl<|E (kt<|kt<|kb<|kb<|kb<|kt<|kt<|kt<|kt<|kn) fun _=>?_
    refine D<|F<|K rfl<|J rfl<|C rfl ?_
    obtain ⟨x50,hx50,h⟩:=I h
    refine W rfl rfl rfl hx50 rfl<|R rfl rfl (show _=eEdge x50 from rfl)<|b1 rfl<|a8 rfl rfl rfl rfl rfl<|E (kt<|kt<|kb<|kb<|kb<|kb<|kt<|kt<|kt<|kn) fun _=>?_
    refine D<|F<|K rfl<|J rfl<|a3 rfl<|J rfl ?_
    obtain ⟨x57,hx57,h⟩:=I h
    refine e5 rfl (c207 p.Nodes x50.From _ hx57)<|e6 rfl<|b2 rfl rfl<|b2 rfl rfl<|a3 rfl<|p7 rfl rfl rfl rfl rfl rfl<|E (kt<|kt<|kb<|kb<|kb<|kb<|kt<|kt<|kt<|kn) fun _=>?_
    refine D<|F<|K rfl<|J rfl<|a3 rfl<|J rfl ?_
    obtain ⟨x66,hx66,h⟩:=I h
    refine e5 rfl (c207 p.Nodes x50.To _ hx66)<|e6 rfl<|b2 rfl rfl<|b2 rfl rfl<|a3 rfl<|p7 rfl rfl rfl rfl rfl rfl<|E (kt<|kt<|kb<|kb<|kb<|kb<|kt<|kt<|kt<|kn) fun _=>?_
    refine F<|a3 rfl<|f8 rfl rfl rfl rfl<|R rfl rfl (show _=eEdge (Edge.mk x50.Type' x57.1 x66.1) from rfl)<|e1 (e:=eEdge) (l:=[Edge.mk x50.Type' x57.1 x66.1]) rfl rfl (fun _=>rfl) ?_
    obtain ⟨x74,hx74,h⟩:=I h
    refine e7 rfl rfl rfl rfl hx74 rfl<|a3 rfl<|f7 rfl rfl rfl (by decide) rfl rfl<|E (kt<|kt<|kb<|kb<|kb<|kt<|kt<|kt<|kn) fun _=>?_
    refine F<|a7 rfl rfl<|C rfl<|E (kt<|kt<|kb<|kb<|kb<|kt<|kt<|kt<|kn) ?_
    cases h
    show Env.keep _ _=_
    rw [Ktv rfl (Ktv rfl (Kbx rfl (Kbx rfl (Kbx rfl (Ktv rfl (Ktv rfl (Ktv rfl (Knil _))))))))]
    rw [b4 (a5 (hw2 43)) hi2 (e0 (a5 (hw2 42)))]
    all_goals rfl
   ·intro i2 s2 hi2
    refine D<|F<|V rfl rfl<|E (kt<|kt<|kb<|kb<|kb<|kt<|kt<|kt<|kt<|kn) fun _=>?_
    refine D<|b7 rfl (b8 hi2)<|b3 (kt<|kb<|kb<|kb<|kn) ?_
    exact ⟨rfl,rfl⟩
   ·intro _
    refine D<|b9 rfl<|R rfl rfl (show _=eGraph s2 from rfl)<|K rfl<|J rfl ?_
    obtain ⟨x80,hx80,h⟩:=I h
    refine g6 rfl (c112 p.Nodes _ hx80)<|K rfl<|J rfl ?_
    obtain ⟨x83,hx83,h⟩:=I h
    refine g6 rfl (c112 p.Edges _ hx83)<|g5 rfl rfl rfl (show _=eMorphism (Morphism.mk x80 x83) from rfl)<|a8 rfl rfl rfl rfl rfl<|a8 rfl rfl rfl rfl rfl<|C rfl<|E (kb<|kb<|kt<|kn) fun _=>?_
    refine L ?_
    cases h
    exact ⟨by decide,rfl⟩
theorem ck158:CK f158 (Rq [Af 3 0,Af 4 1,Af 5 2,Ad 6 0] [3,4,5]<|Sq (Rq [Ae 15 3 2,Au 16 147 15,Aa 7 16] [3,4,5,7]<|Rq [Aa 17 7,Av 18 17 0] [3,4,5,7,18]<|Co 18 (Rq [Aa 19 7,Aa 6 19] [6]<|.ret)<|Sk [3,4,5])<|Sq (Rq [Ae 20 4 2,Au 21 147 20,Aa 8 21] [3,4,5,8]<|Rq [Aa 22 8,Av 23 22 0] [3,4,5,8,23]<|Co 23 (Rq [Aa 24 8,Aa 6 24] [6]<|.ret)<|Sk [3,4,5])<|Sq (Rq [Ac 25 5 0,Ab 26 25,Ah 27 26,Ac 28 3 0,Ab 29 28,Ah 30 29,Bx 31 27 30,Aa 32 31,Ar 33 5 1 32,Ao 34 33 32,Bc 35 34 32,Ar 36 3 1 32,Ao 37 36 32,Bc 38 37 32,Cv 39 35 38 32,As 40 32 39] [3,4,5,40]<|Co 40 (Rq [Ad 6 20] [6]<|.ret)<|Sk [3,4,5])<|Sq (Rq [Ac 41 5 0,Ab 42 41,Ah 43 42,Ad 44 0] [3,4,5,42,43,44]<|Bl 0<|Lo [3,4,5,42,43,44]<|Rq [Ap 45 44 43] [3,4,5,42,43,44,45]<|Sq (Co 45 (Sk [3,4,5,42,43,44])<|Ex 0 [3,4,5])<|Sq (Bl 1<|Rq [Aa 46 44,Ag 47 42 44 1,Ab 48 47,Aa 9 46,Aa 10 48] [3,4,5,9,10,42,43,44]<|Sq (Rq [Aa 49 10,Bq 50 49 0,Aa 51 50,Aw 52 10 51,Ar 53 4 0 51,Ao 54 53 51,Bc 55 54 51,Bp 56 52 55 51,As 57 51 56] [3,4,5,9,10,42,43,44,57]<|Co 57 (Rq [Ad 6 6] [6]<|.ret)<|Sk [3,4,5,9,10,42,43,44])<|Sq (Dr [58,59,60,61,62,63,64,65,66,67,68] [Ac 58 4 0,Ab 59 58,Aa 60 10,Ag 61 59 60 1,Ab 62 61,Ac 63 3 0,Ab 64 63,Aa 65 9,Ag 66 64 65 1,Ab 67 66,Bx 68 62 67] [3,4,5,42,43,44,68])<|Co 68 (Rq [Ad 6 13] [6]<|.ret)<|Sk [3,4,5,42,43,44])<|Re [An 69 44 1,Aa 44 69] [3,4,5,42,43,44])<|Sq (Rq [Ac 70 5 1,Ab 71 70,Ah 72 71,Ad 73 0] [3,4,5,71,72,73]<|Bl 2<|Lo [3,4,5,71,72,73]<|Rq [Ap 74 73 72] [3,4,5,71,72,73,74]<|Sq (Co 74 (Sk [3,4,5,71,72,73])<|Ex 2 [])<|Sq (Bl 3<|Rq [Aa 75 73,Ag 76 71 73 1,Ab 77 76,Aa 11 75,Aa 12 77] [3,4,5,11,12,71,72,73]<|Sq (Rq [Aa 78 12,Bq 79 78 0,Aa 80 79,Aw 81 12 80,Ar 82 4 1 80,Ao 83 82 80,Bc 84 83 80,Bp 85 81 84 80,As 86 80 85] [3,4,5,11,12,71,72,73,86]<|Co 86 (Rq [Ad 6 6] [6]<|.ret)<|Sk [3,4,5,11,12,71,72,73])<|Sq (Dr [13,14,87,88,89,90,91,92,93,94,95,96] [Ac 87 3 1,Ab 88 87,Aa 89 11,Ag 90 88 89 3,Ae 91 90 3,Ac 92 4 1,Ab 93 92,Aa 94 12,Ag 95 93 94 3,Ae 96 95 3,By 13 0 0 0,By 14 0 0 0,Aj 3 13 91,Aj 3 14 96] [3,4,5,13,14,71,72,73])<|Sq (Rq [Ac 97 13 0,Ab 98 97,Ac 99 14 0,Ab 100 99,Bx 101 98 100] [3,4,5,13,14,71,72,73,101]<|Co 101 (Rq [Ad 6 13] [6]<|.ret)<|Sk [3,4,5,13,14,71,72,73])<|Sq (Dr [102,103,104,105,106,107,108,109,110,111,112,113,114,115,116,117,118,119,120,121] [Ac 102 5 0,Ab 103 102,Ac 104 13 1,Ab 105 104,Ag 106 103 105 1,Ab 107 106,Ac 108 14 1,Ab 109 108,Bx 110 107 109,Aa 111 110,Ar 112 5 0 111,Ao 113 112 111,Ar 114 13 2 111,Ao 115 114 111,Cw 116 113 115 1 111,Ao 117 116 111,Ar 118 14 2 111,Ao 119 118 111,Cv 120 117 119 111,As 121 111 120] [3,4,5,71,72,73,121])<|Co 121 (Rq [Ad 6 11] [6]<|.ret)<|Sk [3,4,5,71,72,73])<|Re [An 122 73 1,Aa 73 122] [3,4,5,71,72,73])<|Rq [Ad 6 0] [6]<|.ret) [.tmp 6]:= by decide +kernel
theorem c158 (a:Graph) (b:Graph) (m:Morphism) (r:Int) (h:morphism_Valid a b m=some r):Sound prog 158 [eGraph a,eGraph b,eMorphism m] (.sh (eI r)):= by
 refine Fn ck158 fun hw=>?_
 unfold morphism_Valid at h
 refine D<|F<|a4 rfl rfl<|a4 rfl rfl<|a4 rfl rfl<|C rfl<|E (kt<|kt<|kt<|kn) fun _=>?_
 refine D<|D<|F<|R rfl rfl (show _=eGraph a from rfl) ?_
 obtain ⟨x16,hx16,h⟩:=I h
 refine T rfl (c147 a _ hx16)<|C rfl<|E (kt<|kt<|kt<|kt<|kn) fun _=>?_
 refine D<|F<|C rfl<|a9 rfl rfl<|E (kt<|kt<|kt<|kt<|kt<|kn) fun _=>?_
 refine S rfl (fun hc18=>?_) (fun hc18=>?_)
 ·replace h:=M hc18 h
  refine D<|F<|C rfl<|C rfl<|E (kt<|kn) fun _=>?_
  exact L (by cases h;rfl)
 ·replace h:=O hc18 h
  refine P (kt<|kt<|kt<|kn) fun _=>?_
  refine D<|D<|F<|R rfl rfl (show _=eGraph b from rfl) ?_
  obtain ⟨x21,hx21,h⟩:=I h
  refine T rfl (c147 b _ hx21)<|C rfl<|E (kt<|kt<|kt<|kt<|kn) fun _=>?_
  refine D<|F<|C rfl<|a9 rfl rfl<|E (kt<|kt<|kt<|kt<|kt<|kn) fun _=>?_
  refine S rfl (fun hc23=>?_) (fun hc23=>?_)
  ·replace h:=M hc23 h
   refine D<|F<|C rfl<|C rfl<|E (kt<|kn) fun _=>?_
   exact L (by cases h;rfl)
  ·replace h:=O hc23 h
   refine P (kt<|kt<|kt<|kn) fun _=>?_
   refine D<|D<|F<|K rfl<|J rfl<|U rfl rfl<|K rfl<|J rfl<|U rfl rfl<|a9 rfl rfl<|C rfl ?_
   refine gO 8 [33,34,35,36,37,38,39] 40 (!decide ((m.Nodes.length:Int)=(a.Nodes.length:Int))) (!decide ((m.Edges.length:Int)=(a.Edges.length:Int))) (fun hg40=>?_) (fun hg40=>?_) ?_
   ·refine H rfl hg40<|H rfl hg40<|H rfl hg40<|H rfl hg40<|H rfl hg40<|H rfl hg40<|H rfl hg40<|Y rfl hg40 rfl ?_
    exact ⟨⟨_,_,_,_,_,_,_,rfl⟩⟩
   ·refine G rfl hg40<|K rfl<|G rfl hg40<|J rfl<|G rfl hg40<|U rfl rfl<|G rfl hg40<|K rfl<|G rfl hg40<|J rfl<|G rfl hg40<|U rfl rfl<|G rfl hg40<|a9 rfl rfl<|Z rfl hg40 rfl ?_
    exact ⟨⟨_,_,_,_,_,_,_,rfl⟩⟩
   rintro _ ⟨_,_,_,_,_,_,_,rfl⟩
   refine E (kt<|kt<|kt<|kt<|kn) fun _=>?_
   refine S rfl (fun hc40=>?_) (fun hc40=>?_)
   ·replace h:=M hc40 h
    refine D<|F<|C rfl<|E (kt<|kn) fun _=>?_
    exact L (by cases h;rfl)
   ·replace h:=O hc40 h
    refine P (kt<|kt<|kt<|kn) fun _=>?_
    refine D<|D<|F<|K rfl<|J rfl<|U rfl rfl<|C rfl<|E (kt<|kt<|kt<|kt<|kt<|kt<|kn) fun _=>?_
    obtain ⟨o0,ho0,h⟩:=d2 h
    refine d6 ho0 (fun (i0:Int) (_:Unit)=>[(3,.tv (.pt (eGraph a).cells)),(4,.tv (.pt (eGraph b).cells)),(5,.tv (.pt (eMorphism m).cells)),(42,.tv (lI m.Nodes)),(43,.tv (eI (m.Nodes.length:Int))),(44,.tv (eI i0))]) (fun (_:Unit)=>[(3,.tv (.pt (eGraph a).cells)),(4,.tv (.pt (eGraph b).cells)),(5,.tv (.pt (eMorphism m).cells))]) (fun zv ze=>resIs ([.tmp 6]) (.sh (eI zv)) ze) rfl ?_ ?_ ?_ ?_
    ·clear h ho0
     intro i0 s0 r0 hi0 h hw0
     refine D<|F<|V rfl rfl<|E (kt<|kt<|kt<|kt<|kt<|kt<|kt<|kn) fun _=>?_
     refine D<|b5 rfl (b6 hi0)<|P (kt<|kt<|kt<|kt<|kt<|kt<|kn) fun _=>?_
     refine D<|b0<|D<|F<|C rfl ?_
     obtain ⟨x47,hx47,h⟩:=I h
     refine W rfl rfl rfl hx47 rfl<|J rfl<|C rfl<|C rfl<|E (kt<|kt<|kt<|kt<|kt<|kt<|kt<|kt<|kn) fun _=>?_
     refine D<|D<|F<|C rfl<|V rfl rfl<|C rfl ?_
     refine gO 6 [52,53,54,55,56] 57 (decide (x47<0)) (decide ((b.Nodes.length:Int)<=x47)) (fun hg57=>?_) (fun hg57=>?_) ?_
     ·refine H rfl hg57<|H rfl hg57<|H rfl hg57<|H rfl hg57<|H rfl hg57<|Y rfl hg57 rfl ?_
      exact ⟨⟨_,_,_,_,_,rfl⟩⟩
     ·refine G rfl hg57<|C rfl<|G rfl hg57<|K rfl<|G rfl hg57<|J rfl<|G rfl hg57<|U rfl rfl<|G rfl hg57<|d5 rfl rfl<|Z rfl hg57 rfl ?_
      exact ⟨⟨_,_,_,_,_,rfl⟩⟩
     rintro _ ⟨_,_,_,_,_,rfl⟩
     refine E (kt<|kt<|kt<|kt<|kt<|kt<|kt<|kt<|kt<|kn) fun _=>?_
     refine S rfl (fun hc57=>?_) (fun hc57=>?_)
     ·replace h:=M hc57 h
      refine D<|F<|C rfl<|E (kt<|kn) fun _=>?_
      refine L ?_
      cases h
      exact ⟨_,rfl,rfl⟩
     ·replace h:=O hc57 h
      refine P (kt<|kt<|kt<|kt<|kt<|kt<|kt<|kt<|kn) fun _=>?_
      refine D<|b9 rfl<|K rfl<|J rfl<|C rfl ?_
      obtain ⟨x61,hx61,h⟩:=I h
      refine W rfl rfl rfl hx61 rfl<|J rfl<|K rfl<|J rfl<|C rfl ?_
      obtain ⟨x66,hx66,h⟩:=I h
      refine W rfl rfl rfl hx66 rfl<|J rfl<|a9 rfl rfl<|E (kt<|kt<|kt<|kt<|kt<|kt<|kt<|kn) fun _=>?_
      refine S rfl (fun hc68=>?_) (fun hc68=>?_)
      ·replace h:=M hc68 h
       refine D<|F<|C rfl<|E (kt<|kn) fun _=>?_
       refine L ?_
       cases h
       exact ⟨_,rfl,rfl⟩
      ·replace h:=O hc68 h
       refine P (kt<|kt<|kt<|kt<|kt<|kt<|kn) fun _=>?_
       refine F<|a7 rfl rfl<|C rfl<|E (kt<|kt<|kt<|kt<|kt<|kt<|kn) ?_
       cases h
       refine ⟨_,rfl,?_⟩
       rw [Ktv rfl (Ktv rfl (Ktv rfl (Ktv rfl (Ktv rfl (Ktv rfl (Knil _))))))]
       rw [b4 (a5 (hw0 44)) hi0 (e0 (a5 (hw0 43)))]
       all_goals rfl
    ·intro i0 s0 hi0
     refine D<|F<|V rfl rfl<|E (kt<|kt<|kt<|kt<|kt<|kt<|kt<|kn) fun _=>?_
     refine D<|b7 rfl (b8 hi0)<|b3 (kt<|kt<|kt<|kn) ?_
     exact ⟨rfl,rfl⟩
    ·intro s0 hs
     replace h:=d3 h hs
     intro _
     refine D<|D<|F<|K rfl<|J rfl<|U rfl rfl<|C rfl<|E (kt<|kt<|kt<|kt<|kt<|kt<|kn) fun _=>?_
     obtain ⟨o2,ho2,h⟩:=d2 h
     refine d6 ho2 (fun (i2:Int) (_:Unit)=>[(3,.tv (.pt (eGraph a).cells)),(4,.tv (.pt (eGraph b).cells)),(5,.tv (.pt (eMorphism m).cells)),(71,.tv (lI m.Edges)),(72,.tv (eI (m.Edges.length:Int))),(73,.tv (eI i2))]) (fun (_:Unit)=>[]) (fun zv ze=>resIs ([.tmp 6]) (.sh (eI zv)) ze) rfl ?_ ?_ ?_ ?_
     ·clear h ho2
      intro i2 s2 r2 hi2 h hw2
      refine D<|F<|V rfl rfl<|E (kt<|kt<|kt<|kt<|kt<|kt<|kt<|kn) fun _=>?_
      refine D<|b5 rfl (b6 hi2)<|P (kt<|kt<|kt<|kt<|kt<|kt<|kn) fun _=>?_
      refine D<|b0<|D<|F<|C rfl ?_
      obtain ⟨x76,hx76,h⟩:=I h
      refine W rfl rfl rfl hx76 rfl<|J rfl<|C rfl<|C rfl<|E (kt<|kt<|kt<|kt<|kt<|kt<|kt<|kt<|kn) fun _=>?_
      refine D<|D<|F<|C rfl<|V rfl rfl<|C rfl ?_
      refine gO 6 [81,82,83,84,85] 86 (decide (x76<0)) (decide ((b.Edges.length:Int)<=x76)) (fun hg86=>?_) (fun hg86=>?_) ?_
      ·refine H rfl hg86<|H rfl hg86<|H rfl hg86<|H rfl hg86<|H rfl hg86<|Y rfl hg86 rfl ?_
       exact ⟨⟨_,_,_,_,_,rfl⟩⟩
      ·refine G rfl hg86<|C rfl<|G rfl hg86<|K rfl<|G rfl hg86<|J rfl<|G rfl hg86<|U rfl rfl<|G rfl hg86<|d5 rfl rfl<|Z rfl hg86 rfl ?_
       exact ⟨⟨_,_,_,_,_,rfl⟩⟩
      rintro _ ⟨_,_,_,_,_,rfl⟩
      refine E (kt<|kt<|kt<|kt<|kt<|kt<|kt<|kt<|kt<|kn) fun _=>?_
      refine S rfl (fun hc86=>?_) (fun hc86=>?_)
      ·replace h:=M hc86 h
       refine D<|F<|C rfl<|E (kt<|kn) fun _=>?_
       refine L ?_
       cases h
       exact ⟨_,rfl,rfl⟩
      ·replace h:=O hc86 h
       refine P (kt<|kt<|kt<|kt<|kt<|kt<|kt<|kt<|kn) fun _=>?_
       refine D<|b9 rfl<|K rfl<|J rfl<|C rfl ?_
       obtain ⟨x90,hx90,h⟩:=I h
       refine W rfl rfl rfl hx90 rfl<|R rfl rfl (show _=eEdge x90 from rfl)<|K rfl<|J rfl<|C rfl ?_
       obtain ⟨x95,hx95,h⟩:=I h
       refine W rfl rfl rfl hx95 rfl<|R rfl rfl (show _=eEdge x95 from rfl)<|b1 rfl<|b1 rfl<|a8 rfl rfl rfl rfl rfl<|a8 rfl rfl rfl rfl rfl<|E (kt<|kt<|kt<|kb<|kb<|kt<|kt<|kt<|kn) fun _=>?_
       refine D<|D<|F<|a3 rfl<|J rfl<|a3 rfl<|J rfl<|a9 rfl rfl<|E (kt<|kt<|kt<|kb<|kb<|kt<|kt<|kt<|kt<|kn) fun _=>?_
       refine S rfl (fun hc101=>?_) (fun hc101=>?_)
       ·replace h:=M hc101 h
        refine D<|F<|C rfl<|E (kt<|kn) fun _=>?_
        refine L ?_
        cases h
        exact ⟨_,rfl,rfl⟩
       ·replace h:=O hc101 h
        refine P (kt<|kt<|kt<|kb<|kb<|kt<|kt<|kt<|kn) fun _=>?_
        refine D<|b9 rfl<|K rfl<|J rfl<|a3 rfl<|J rfl ?_
        obtain ⟨x106,hx106,h⟩:=I h
        refine W rfl rfl rfl hx106 rfl<|J rfl<|a3 rfl<|J rfl<|a9 rfl rfl<|C rfl ?_
        obtain ⟨x121,hx121,h⟩:=I h
        refine gX 10 [112,113,114,115,116,117,118,119,120] 121 x121 (!decide (x106=x95.From)) (fun hg121=>?_) (fun hg121=>?_) ?_
        ·replace h:=M hg121 hx121
         cases h
         refine H rfl hg121<|H rfl hg121<|H rfl hg121<|H rfl hg121<|H rfl hg121<|H rfl hg121<|H rfl hg121<|H rfl hg121<|H rfl hg121<|Y rfl hg121 rfl ?_
         exact ⟨⟨_,_,_,_,_,_,_,_,_,rfl⟩⟩
        ·replace h:=O hg121 hx121
         refine G rfl hg121<|K rfl<|G rfl hg121<|J rfl<|G rfl hg121<|a3 rfl<|G rfl hg121<|J rfl ?_
         obtain ⟨x116,hx116,h⟩:=I h
         refine G rfl hg121<|W rfl rfl rfl hx116 rfl<|G rfl hg121<|J rfl<|G rfl hg121<|a3 rfl<|G rfl hg121<|J rfl<|G rfl hg121<|a9 rfl rfl ?_
         cases h
         refine Z rfl hg121 rfl ?_
         exact ⟨⟨_,_,_,_,_,_,_,_,_,rfl⟩⟩
        rintro _ ⟨_,_,_,_,_,_,_,_,_,rfl⟩
        refine E (kt<|kt<|kt<|kt<|kt<|kt<|kt<|kn) fun _=>?_
        refine S rfl (fun hc121=>?_) (fun hc121=>?_)
        ·replace h:=M hc121 h
         refine D<|F<|C rfl<|E (kt<|kn) fun _=>?_
         refine L ?_
         cases h
         exact ⟨_,rfl,rfl⟩
        ·replace h:=O hc121 h
         refine P (kt<|kt<|kt<|kt<|kt<|kt<|kn) fun _=>?_
         refine F<|a7 rfl rfl<|C rfl<|E (kt<|kt<|kt<|kt<|kt<|kt<|kn) ?_
         cases h
         refine ⟨_,rfl,?_⟩
         rw [Ktv rfl (Ktv rfl (Ktv rfl (Ktv rfl (Ktv rfl (Ktv rfl (Knil _))))))]
         rw [b4 (a5 (hw2 73)) hi2 (e0 (a5 (hw2 72)))]
         all_goals rfl
     ·intro i2 s2 hi2
      refine D<|F<|V rfl rfl<|E (kt<|kt<|kt<|kt<|kt<|kt<|kt<|kn) fun _=>?_
      refine D<|b7 rfl (b8 hi2)<|b3 (kn) ?_
      exact ⟨rfl,rfl⟩
     ·intro s2 hs
      replace h:=d3 h hs
      intro _
      refine D<|F<|C rfl<|E (kt<|kn) fun _=>?_
      exact L (by cases h;rfl)
     ·intro v2 ze hv hR
      replace h:=d4 h hv
      cases h
      exact hR
    ·intro v0 ze hv hR
     replace h:=d4 h hv
     cases h
     exact hR
theorem c241 (l r:List Int) (h:slices_Sort_int l=some r):Sound prog 241 [.list 1 (l.map (TV.int .i64))] (.turn r):=by
  unfold slices_Sort_int at h
  split at h
  · rename_i hl
    unfold nmax at hl
    cases h
    refine mut_of (by rfl) (List.length_mergeSort _) (fun x hx=>List.mem_mergeSort.1 hx) (fun w hz=>?_) (fun g cap w _ _ hg hH=>Go.Proofs.Tryz.slices_Sort_int g 0 cap l w hH hg (by omega))
    subst hz
    exact Go.Proofs.Tryz.slices_Sort_int_none none 0 w
  · cases h
theorem c242 (l r:List Int) (h:slices_Compact_int l=some r):Sound prog 242 [.list 1 (l.map (TV.int .i64))] (.cut r):=by
  unfold slices_Compact_int at h
  split at h
  · rename_i hl
    unfold nmax at hl
    cases h
    have hle:=Go.Lib.compact_length_le l
    refine cut_of (rest:=List.replicate (l.length - (Go.Lib.compact l).length) 0) (by rfl) (by rw [List.length_replicate]; omega) (fun x hx=>compact_mem hx) (fun w hz=>?_) (fun g cap w hc _ hg hH=>Go.Proofs.Tryz.slices_Compact_int g 0 cap l w hH (by omega) hc)
    subst hz
    exact Go.Proofs.Tryz.slices_Compact_int_empty none 0 w
  · cases h
theorem ck208:CK f208 (Rq [Ad 2 0] [0]<|Rq [Aa 4 0,⟨some 5,.callx 112 [.s 4],none⟩,Cm 3 5] [3]<|Rq [Cp 6 3,⟨some 7,.callm 241 (.s 6),none⟩] [3]<|Rq [Cp 8 3,⟨some 9,.callc 242 (.s 8),none⟩,⟨some 10,.xlen (.s 9),none⟩,Aa 2 10] [2]<|.ret) [.tmp 2]:= by decide +kernel
theorem c208 (l:List Int) (r:Int) (h:morphism_images l=some r):Sound prog 208 [lI l] (.sh (eI r)):= by
 refine Fn ck208 fun hw=>?_
 unfold morphism_images at h
 refine D<|F<|C rfl<|E (kt<|kn) fun _=>?_
 refine D<|F<|C rfl ?_
 obtain ⟨x5,hx5,h⟩:=I h
 refine p4 rfl rfl (c112 l _ hx5) rfl (fun _=>rfl)<|l1 rfl rfl (by decide)<|E (kx<|kn) fun _=>?_
 refine D<|F<|l3 rfl ?_
 obtain ⟨x7,hx7,h⟩:=I h
 refine p8 rfl rfl rfl (c241 x5 _ hx7) rfl<|E (kx<|kn) fun _=>?_
 refine D<|F<|l3 rfl ?_
 obtain ⟨x9,hx9,h⟩:=I h
 refine q3 rfl rfl rfl (by decide) rfl (c242 x7 _ hx9) rfl<|m8 rfl rfl<|C rfl<|E (kt<|kn) fun _=>?_
 exact L (by cases h;rfl)
theorem ck159:CK f159 (Rq [Af 3 0,Af 4 1,Af 5 2,Ak 6] [3,4,5]<|Sq (Dr [6,7,8,9,10,11,12,13,14,15,16,17,18,19,20,21,22,23,24,25,26,27,28,29] [Ae 7 3 2,Ae 8 4 2,Ae 9 5 2,Bg 10 158 7 8 9,Be 11 10 0,Aa 12 11,Ba 13 5 0 12,Ax 14 13 12,Cc 15 208 14 12,Ba 16 5 0 12,Ax 17 16 12,Ca 18 17 12,Cl 19 15 18 12,At 20 12 19,Aa 21 20,Ba 22 5 1 21,Ax 23 22 21,Cc 24 208 23 21,Ba 25 5 1 21,Ax 26 25 21,Ca 27 26 21,Cl 28 24 27 21,At 29 21 28,Aa 6 29] [6])<|.ret) [.tmp 6]:= by decide +kernel
theorem c159 (a:Graph) (b:Graph) (m:Morphism) (r:Bool) (h:morphism_Injective a b m=some r):Sound prog 159 [eGraph a,eGraph b,eMorphism m] (.sh (eB r)):= by
 refine Fn ck159 fun hw=>?_
 unfold morphism_Injective at h
 refine D<|F<|a4 rfl rfl<|a4 rfl rfl<|a4 rfl rfl<|C rfl<|E (kt<|kt<|kt<|kn) fun _=>?_
 refine D<|b9 rfl<|R rfl rfl (show _=eGraph a from rfl)<|R rfl rfl (show _=eGraph b from rfl)<|R rfl rfl (show _=eMorphism m from rfl) ?_
 obtain ⟨x10,hx10,h⟩:=I h
 refine T rfl (c158 a b m _ hx10)<|d1 rfl rfl<|C rfl ?_
 obtain ⟨x20,hx20,h⟩:=I h
 refine gX 8 [13,14,15,16,17,18,19] 20 x20 (decide (x10=0)) (fun hg20=>?_) (fun hg20=>?_) ?_
 ·replace h:=M hg20 hx20
  refine G rfl hg20<|K rfl<|G rfl hg20<|J rfl ?_
  obtain ⟨x15,hx15,h⟩:=I h
  refine G rfl hg20<|T rfl (c208 m.Nodes _ hx15)<|G rfl hg20<|K rfl<|G rfl hg20<|J rfl<|G rfl hg20<|U rfl rfl<|G rfl hg20<|d1 rfl rfl ?_
  cases h
  refine Y rfl hg20 rfl ?_
  exact ⟨⟨_,_,_,_,_,_,_,rfl⟩⟩
 ·replace h:=O hg20 hx20
  cases h
  refine H rfl hg20<|H rfl hg20<|H rfl hg20<|H rfl hg20<|H rfl hg20<|H rfl hg20<|H rfl hg20<|Z rfl hg20 rfl ?_
  exact ⟨⟨_,_,_,_,_,_,_,rfl⟩⟩
 rintro _ ⟨_,_,_,_,_,_,_,rfl⟩
 refine C rfl ?_
 obtain ⟨x29,hx29,h⟩:=I h
 refine gX 8 [22,23,24,25,26,27,28] 29 x29 x20 (fun hg29=>?_) (fun hg29=>?_) ?_
 ·replace h:=M hg29 hx29
  refine G rfl hg29<|K rfl<|G rfl hg29<|J rfl ?_
  obtain ⟨x24,hx24,h⟩:=I h
  refine G rfl hg29<|T rfl (c208 m.Edges _ hx24)<|G rfl hg29<|K rfl<|G rfl hg29<|J rfl<|G rfl hg29<|U rfl rfl<|G rfl hg29<|d1 rfl rfl ?_
  cases h
  refine Y rfl hg29 rfl ?_
  exact ⟨⟨_,_,_,_,_,_,_,rfl⟩⟩
 ·replace h:=O hg29 hx29
  cases h
  refine H rfl hg29<|H rfl hg29<|H rfl hg29<|H rfl hg29<|H rfl hg29<|H rfl hg29<|H rfl hg29<|Z rfl hg29 rfl ?_
  exact ⟨⟨_,_,_,_,_,_,_,rfl⟩⟩
 rintro _ ⟨_,_,_,_,_,_,_,rfl⟩
 refine C rfl<|E (kt<|kn) fun _=>?_
 exact L (by cases h;rfl)
theorem ck100:CK f100 (Rq [Af 1 0,Ad 2 0] [1]<|Rq [Ac 8 1 1,Ai 9 8 0,Ae 10 9 2,Ac 11 1 11,Ae 12 11 2,Al 13 157 10 12,Aa 7 13,Am 14 7 0,Am 15 7 1,Am 16 7 2,Bd 3 1 3,Bd 4 1 1,Aj 2 3 14,Aj 2 4 15,Aa 5 16] [1,3,5]<|Sq (Rq [Aa 17 5,Av 18 17 0] [1,3,5,18]<|Co 18 (Rq [Aa 19 5,Aa 2 19] [2]<|.ret)<|Sk [1,3])<|Sq (Rq [Ae 20 3 2,Ac 21 1 6,Ai 22 21 0,Ae 23 22 2,Ac 24 1 13,Ae 25 24 2,Bg 26 158 20 23 25,Aa 6 26] [1,3,6]<|Rq [Aa 27 6,Av 28 27 0] [1,3,6,28]<|Co 28 (Rq [Aa 29 6,Aa 2 29] [2]<|.ret)<|Sk [1,3])<|Sq (Rq [Ae 30 3 2,Ac 31 1 6,Ai 32 31 0,Ae 33 32 2,Ac 34 1 13,Ae 35 34 2,Bg 36 159 30 33 35,Az 37 36] [37]<|Co 37 (Rq [Ad 2 11] [2]<|.ret)<|Sk [])<|Rq [Ad 2 0] [2]<|.ret) [.tmp 2]:= by decide +kernel
theorem c100 (r_0:Rule) (r:Int) (h:rule_kept r_0=some r):Sound prog 100 [eRule r_0] (.sh (eI r)):= by
 refine Fn ck100 fun hw=>?_
 unfold rule_kept at h
 refine D<|F<|a4 rfl rfl<|C rfl<|E (kt<|kn) fun _=>?_
 refine D<|F<|K rfl<|a6 rfl<|R rfl rfl (show _=eGraph r_0.Left.Graph from rfl)<|K rfl<|R rfl rfl (show _=ePart r_0.Keep from rfl) ?_
 obtain ⟨x13,hx13,h⟩:=I h
 refine e5 rfl (c157 r_0.Left.Graph r_0.Keep _ hx13)<|e6 rfl<|b2 rfl rfl<|b2 rfl rfl<|b2 rfl rfl<|b1 rfl<|b1 rfl<|a8 rfl rfl rfl rfl rfl<|a8 rfl rfl rfl rfl rfl<|C rfl<|E (kt<|kb<|kt<|kn) fun _=>?_
 refine D<|D<|F<|C rfl<|a9 rfl rfl<|E (kt<|kb<|kt<|kt<|kn) fun _=>?_
 refine S rfl (fun hc18=>?_) (fun hc18=>?_)
 ·replace h:=M hc18 h
  refine D<|F<|C rfl<|C rfl<|E (kt<|kn) fun _=>?_
  exact L (by cases h;rfl)
 ·replace h:=O hc18 h
  refine P (kt<|kb<|kn) fun _=>?_
  refine D<|D<|F<|R rfl rfl (show _=eGraph x13.1 from rfl)<|K rfl<|a6 rfl<|R rfl rfl (show _=eGraph r_0.Right.Graph from rfl)<|K rfl<|R rfl rfl (show _=eMorphism r_0.Into from rfl) ?_
  obtain ⟨x26,hx26,h⟩:=I h
  refine T rfl (c158 x13.1 r_0.Right.Graph r_0.Into _ hx26)<|C rfl<|E (kt<|kb<|kt<|kn) fun _=>?_
  refine D<|F<|C rfl<|a9 rfl rfl<|E (kt<|kb<|kt<|kt<|kn) fun _=>?_
  refine S rfl (fun hc28=>?_) (fun hc28=>?_)
  ·replace h:=M hc28 h
   refine D<|F<|C rfl<|C rfl<|E (kt<|kn) fun _=>?_
   exact L (by cases h;rfl)
  ·replace h:=O hc28 h
   refine P (kt<|kb<|kn) fun _=>?_
   refine D<|D<|F<|R rfl rfl (show _=eGraph x13.1 from rfl)<|K rfl<|a6 rfl<|R rfl rfl (show _=eGraph r_0.Right.Graph from rfl)<|K rfl<|R rfl rfl (show _=eMorphism r_0.Into from rfl) ?_
   obtain ⟨x36,hx36,h⟩:=I h
   refine T rfl (c159 x13.1 r_0.Right.Graph r_0.Into _ hx36)<|d0 rfl<|E (kt<|kn) fun _=>?_
   refine S rfl (fun hc37=>?_) (fun hc37=>?_)
   ·replace h:=M hc37 h
    refine D<|F<|C rfl<|E (kt<|kn) fun _=>?_
    exact L (by cases h;rfl)
   ·replace h:=O hc37 h
    refine P (kn) fun _=>?_
    refine D<|F<|C rfl<|E (kt<|kn) fun _=>?_
    exact L (by cases h;rfl)
theorem ck90:CK f90 (Rq [Ad 4 0] [0,1]<|Sq (Rq [Aa 6 0,Ah 7 6,Ad 8 0] [0,1,7,8]<|Bl 0<|Lo [0,1,7,8]<|Rq [Ap 9 8 7] [0,1,7,8,9]<|Sq (Co 9 (Sk [0,1,7,8])<|Ex 0 [])<|Sq (Bl 1<|Rq [Aa 10 8,Aa 5 10] [0,1,5,7,8]<|Rq [Aa 11 1,Aa 12 0,Aa 13 5,Ag 14 12 13 1,Ab 15 14,Bt 16 11 15] [0,1,5,7,8,16]<|Co 16 (Rq [Aa 17 5,Aa 4 17] [4]<|.ret)<|Sk [0,1,7,8])<|Re [An 18 8 1,Aa 8 18] [0,1,7,8])<|Rq [Cd 4 (-1)] [4]<|.ret) [.tmp 4]:= by decide +kernel
theorem c90 (s_0:List Int) (v_1:Int) (r:Int) (h:slices_Index_int s_0 v_1=some r):Sound prog 90 [lI s_0,eI v_1] (.sh (eI r)):= by
 refine Fn ck90 fun hw=>?_
 unfold slices_Index_int at h
 refine D<|F<|C rfl<|E (kt<|kt<|kn) fun _=>?_
 refine D<|D<|F<|C rfl<|U rfl rfl<|C rfl<|E (kt<|kt<|kt<|kt<|kn) fun _=>?_
 obtain ⟨o0,ho0,h⟩:=d2 h
 refine d6 ho0 (fun (i0:Int) (_:Unit)=>[(0,.tv (lI s_0)),(1,.tv (eI v_1)),(7,.tv (eI (s_0.length:Int))),(8,.tv (eI i0))]) (fun (_:Unit)=>[]) (fun zv ze=>resIs ([.tmp 4]) (.sh (eI zv)) ze) rfl ?_ ?_ ?_ ?_
 ·clear h ho0
  intro i0 s0 r0 hi0 h hw0
  refine D<|F<|V rfl rfl<|E (kt<|kt<|kt<|kt<|kt<|kn) fun _=>?_
  refine D<|b5 rfl (b6 hi0)<|P (kt<|kt<|kt<|kt<|kn) fun _=>?_
  refine D<|b0<|D<|F<|C rfl<|C rfl<|E (kt<|kt<|kt<|kt<|kt<|kn) fun _=>?_
  refine D<|F<|C rfl<|C rfl<|C rfl ?_
  obtain ⟨x14,hx14,h⟩:=I h
  refine W rfl rfl rfl hx14 rfl<|J rfl<|d1 rfl rfl<|E (kt<|kt<|kt<|kt<|kt<|kt<|kn) fun _=>?_
  refine S rfl (fun hc16=>?_) (fun hc16=>?_)
  ·replace h:=M hc16 h
   refine D<|F<|C rfl<|C rfl<|E (kt<|kn) fun _=>?_
   refine L ?_
   cases h
   exact ⟨_,rfl,rfl⟩
  ·replace h:=O hc16 h
   refine P (kt<|kt<|kt<|kt<|kn) fun _=>?_
   refine F<|a7 rfl rfl<|C rfl<|E (kt<|kt<|kt<|kt<|kn) ?_
   cases h
   refine ⟨_,rfl,?_⟩
   rw [Ktv rfl (Ktv rfl (Ktv rfl (Ktv rfl (Knil _))))]
   rw [b4 (a5 (hw0 8)) hi0 (e0 (a5 (hw0 7)))]
   all_goals rfl
 ·intro i0 s0 hi0
  refine D<|F<|V rfl rfl<|E (kt<|kt<|kt<|kt<|kt<|kn) fun _=>?_
  refine D<|b7 rfl (b8 hi0)<|b3 (kn) ?_
  exact ⟨rfl,rfl⟩
 ·intro s0 hs
  replace h:=d3 h hs
  intro _
  refine D<|F<|C rfl<|E (kt<|kn) fun _=>?_
  exact L (by cases h;rfl)
 ·intro v0 ze hv hR
  replace h:=d4 h hv
  cases h
  exact hR
theorem ck114:CK f114 (Rq [Ak 4] [0,1]<|Rq [Aa 5 0,Aa 6 1,Al 7 90 5 6,Bo 8 7 0,Aa 4 8] [4]<|.ret) [.tmp 4]:= by decide +kernel
theorem c114 (s_0:List Int) (v_1:Int) (r:Bool) (h:slices_Contains_int s_0 v_1=some r):Sound prog 114 [lI s_0,eI v_1] (.sh (eB r)):= by
 refine Fn ck114 fun hw=>?_
 unfold slices_Contains_int at h
 refine D<|F<|C rfl<|E (kt<|kt<|kn) fun _=>?_
 refine D<|F<|C rfl<|C rfl ?_
 obtain ⟨x7,hx7,h⟩:=I h
 refine T rfl (c90 s_0 v_1 _ hx7)<|d5 rfl rfl<|C rfl<|E (kt<|kn) fun _=>?_
 exact L (by cases h;rfl)
theorem ck160:CK f160 (Rq [Bf 4 1] [0,1]<|Rq [Bf 5 1] [0,1,5]<|Sq (Rq [Aa 7 1,Ad 8 0] [0,5,7,8]<|Bl 0<|Lo [0,5,7,8]<|Rq [Ap 9 8 7] [0,5,7,8,9]<|Sq (Co 9 (Sk [0,5,7,8])<|Ex 0 [5])<|Sq (Bl 1<|Rq [Aa 10 8,Aa 6 10] [0,5,6,7,8]<|Rq [Aa 11 0,Aa 12 6,Al 13 114 11 12,Az 14 13] [0,5,6,7,8,14]<|Co 14 (Re [Ay 15 5,Aa 16 6,Bh 17 1 16,Bb 18 1 15 17,Ay 5 18] [0,5,7,8])<|Sk [0,5,7,8])<|Re [An 19 8 1,Aa 8 19] [0,5,7,8])<|Rq [Aa 20 5,Ay 4 20] [4]<|.ret) [.tmp 4]:= by decide +kernel
theorem c160 (l:List Int) (n:Int) (r:(List Int)) (h:rule_others l n=some r):Sound prog 160 [lI l,eI n] (.sh (lI r)):= by
 refine Fn ck160 fun hw=>?_
 unfold rule_others at h
 refine D<|F<|f0<|E (kt<|kt<|kn) fun _=>?_
 refine D<|F<|f0<|E (kt<|kt<|ko<|kn) fun _=>?_
 refine D<|D<|F<|C rfl<|C rfl<|E (kt<|ko<|kt<|kt<|kn) fun _=>?_
 obtain ⟨s0,hs0,h⟩:=I h
 refine f5 hs0 (fun (i0:Int) (s0:List Int)=>[(0,.tv (lI l)),(5,.ow (lI s0)),(7,.tv (eI n)),(8,.tv (eI i0))]) (fun (s0:List Int)=>[(5,.ow (lI s0))]) rfl ?_ ?_ ?_
 ·clear h hs0
  intro i0 s0 r0 hi0 h hw0
  refine D<|F<|V rfl rfl<|E (kt<|ko<|kt<|kt<|kt<|kn) fun _=>?_
  refine D<|b5 rfl (b6 hi0)<|P (kt<|ko<|kt<|kt<|kn) fun _=>?_
  refine D<|b0<|D<|F<|C rfl<|C rfl<|E (kt<|ko<|kt<|kt<|kt<|kn) fun _=>?_
  refine D<|F<|C rfl<|C rfl ?_
  obtain ⟨x13,hx13,h⟩:=I h
  refine T rfl (c114 l i0 _ hx13)<|d0 rfl<|E (kt<|ko<|kt<|kt<|kt<|kt<|kn) fun _=>?_
  refine S rfl (fun hc14=>?_) (fun hc14=>?_)
  ·replace h:=M hc14 h
   refine F<|f2 rfl<|C rfl<|e1 (e:=eI) (l:=[i0]) rfl rfl (fun _=>rfl) ?_
   obtain ⟨x18,hx18,h⟩:=I h
   refine e7 rfl rfl rfl rfl hx18 rfl<|f2 rfl<|E (kt<|ko<|kt<|kt<|kn) fun _=>?_
   refine F<|a7 rfl rfl<|C rfl<|E (kt<|ko<|kt<|kt<|kn) ?_
   cases h
   show Env.keep _ _=_
   rw [Ktv rfl (Kow rfl (Ktv rfl (Ktv rfl (Knil _))))]
   rw [b4 (a5 (hw0 8)) hi0 (e0 (a5 (hw0 7)))]
   all_goals rfl
  ·replace h:=O hc14 h
   refine P (kt<|ko<|kt<|kt<|kn) fun _=>?_
   refine F<|a7 rfl rfl<|C rfl<|E (kt<|ko<|kt<|kt<|kn) ?_
   cases h
   show Env.keep _ _=_
   rw [Ktv rfl (Kow rfl (Ktv rfl (Ktv rfl (Knil _))))]
   rw [b4 (a5 (hw0 8)) hi0 (e0 (a5 (hw0 7)))]
   all_goals rfl
 ·intro i0 s0 hi0
  refine D<|F<|V rfl rfl<|E (kt<|ko<|kt<|kt<|kt<|kn) fun _=>?_
  refine D<|b7 rfl (b8 hi0)<|b3 (ko<|kn) ?_
  exact ⟨rfl,rfl⟩
 ·intro _
  refine D<|F<|C rfl<|f1 rfl<|E (kt<|kn) fun _=>?_
  exact L (by cases h;rfl)
theorem ck101:CK f101 (Rq [Af 1 0,Bf 2 1,Bf 3 1] [1]<|Sq (Dr [2,3,4,5,6,7,8,9,10,11,12,13,14,15,16,17,18,19,20,21] [Ac 4 1 13,Ai 5 4 0,Ab 6 5,Ac 7 1 6,Ai 8 7 0,Ai 9 8 0,Ab 10 9,Ah 11 10,Al 12 160 6 11,Ac 13 1 13,Ai 14 13 1,Ab 15 14,Ac 16 1 6,Ai 17 16 0,Ai 18 17 1,Ab 19 18,Ah 20 19,Al 21 160 15 20,Ay 2 12,Ay 3 21] [2,3])<|.ret) [.tmp 2,.tmp 3]:= by decide +kernel
theorem c101 (r_0:Rule) (r:(List Int × List Int)) (h:rule_created r_0=some r):Sound prog 101 [eRule r_0] (.tp [lI r.1,lI r.2]):= by
 refine Fn ck101 fun hw=>?_
 unfold rule_created at h
 refine D<|F<|a4 rfl rfl<|f0<|f0<|E (kt<|kn) fun _=>?_
 refine D<|b9 rfl<|K rfl<|a6 rfl<|J rfl<|K rfl<|a6 rfl<|a6 rfl<|J rfl<|U rfl rfl ?_
 obtain ⟨x12,hx12,h⟩:=I h
 refine T rfl (c160 r_0.Into.Nodes (r_0.Right.Graph.Nodes.length:Int) _ hx12)<|K rfl<|a6 rfl<|J rfl<|K rfl<|a6 rfl<|a6 rfl<|J rfl<|U rfl rfl ?_
 obtain ⟨x21,hx21,h⟩:=I h
 refine T rfl (c160 r_0.Into.Edges (r_0.Right.Graph.Edges.length:Int) _ hx21)<|f1 rfl<|f1 rfl<|E (kt<|kt<|kn) fun _=>?_
 refine L ?_
 cases h
 exact ⟨by decide,rfl⟩
theorem ck161:CK f161 (Rq [Ak 4] [0,1,2]<|Sq (Dr [4,5,6,7,8,9,10,11,12,13,14] [Ac 5 1 0,Ab 6 5,Ac 7 2 0,Ab 8 7,Aa 9 0,Ag 10 8 9 1,Ab 11 10,Ag 12 6 11 4,Ai 13 12 2,Ab 14 13,Aa 4 14] [4])<|.ret) [.tmp 4]:= by decide +kernel
theorem c161 (i_0:Int) (c0:Types) (c1:Graph) (r:Bool) (h:rule_makable_1 i_0 c0 c1=some r):Sound prog 161 [eI i_0,.pt (eTypes c0).cells,.pt (eGraph c1).cells] (.sh (eB r)):= by
 refine Fn ck161 fun hw=>?_
 unfold rule_makable_1 at h
 refine D<|F<|C rfl<|E (kt<|kt<|kt<|kn) fun _=>?_
 refine D<|b9 rfl<|K rfl<|J rfl<|K rfl<|J rfl<|C rfl ?_
 obtain ⟨x10,hx10,h⟩:=I h
 refine W rfl rfl rfl hx10 rfl<|J rfl ?_
 obtain ⟨x12,hx12,h⟩:=I h
 refine W rfl rfl rfl hx12 rfl<|a6 rfl<|J rfl<|C rfl<|E (kt<|kn) fun _=>?_
 exact L (by cases h;rfl)
theorem c212 (l r:List Int) (h:slices_Reverse_int l=some r):Sound prog 212 [.list 1 (l.map (TV.int .i64))] (.turn r):=by
  unfold slices_Reverse_int at h
  split at h
  · rename_i hl
    unfold nmax at hl
    cases h
    refine mut_of (by rfl) List.length_reverse (fun x hx=>List.mem_reverse.1 hx) (fun w hz=>?_) (fun g cap w _ _ hg hH=>(Go.Proofs.Tryz.slices_Reverse_int g 0 cap l w hH (by omega)).mono ?_)
    · subst hz
      exact Go.Proofs.Tryz.slices_Reverse_int_empty none 0 w
    · rintro e w' ⟨h1,q,h2⟩
      exact ⟨h1,q,#[],by rw [Go.Sort.grow_empty]; exact h2⟩
  · cases h
theorem ck166:CK f166 (Rq [Af 2 0,Bf 4 1] [1,2]<|Rq [⟨some 5,.nilx 1,none⟩] [1,2,5]<|Sq (Bl 0<|Lo [1,2,5]<|Sq (Rq [Aa 6 1,Bo 7 6 0] [1,2,5,7]<|Co 7 (Sk [1,2,5])<|Ex 0 [5])<|Sq (Bl 1<|Re [Cm 14 5,Aa 15 1,Bh 16 1 15,⟨some 17,.appx 1 14 (.s 16),none⟩,Cm 5 17] [1,2,5])<|Re [Ac 8 2 0,Ab 9 8,Aa 10 1,Ag 11 9 10 4,Ai 12 11 1,Ab 13 12,Aa 1 13] [1,2,5])<|Rq [Cp 18 5,⟨some 19,.callm 212 (.s 18),none⟩] [5]<|Rq [Dz 20 5,Ay 4 20] [4]<|.ret) [.tmp 4]:= by decide +kernel
theorem c166 (t:Types) (a:Int) (r:(List Int)) (h:types_line t a=some r):Sound prog 166 [eTypes t,eI a] (.own (lI r)):= by
 refine Fn ck166 fun hw=>?_
 unfold types_line at h
 refine D<|F<|a4 rfl rfl<|f0<|E (kt<|kt<|kn) fun _=>?_
 refine D<|F<|m5 rfl<|E (kt<|kt<|kx<|kn) fun _=>?_
 refine D ?_
 obtain ⟨o0,ho0,h⟩:=d2 h
 refine g9 ho0 (fun (s0:Int × List Int)=>[(1,.tv (eI s0.1)),(2,.tv (.pt (eTypes t).cells)),(5,.xo 1 (List.map eI s0.2))]) (fun (s0:Int × List Int)=>[(5,.xo 1 (List.map eI s0.2))]) (fun zv ze=>resIs ([.tmp 4]) (.own (lI zv)) ze) rfl ?_ ?_ ?_
 ·clear h ho0
  intro s0 r0 h hw0
  refine D<|D<|F<|C rfl<|d5 rfl rfl<|E (kt<|kt<|kx<|kt<|kn) fun _=>?_
  refine S rfl (fun hc7=>?_) (fun hc7=>?_)
  ·replace h:=M hc7 h
   refine P (kt<|kt<|kx<|kn) fun _=>?_
   refine D<|b0<|F<|l1 rfl rfl (by decide)<|C rfl<|e1 (e:=eI) (l:=[s0.1]) rfl rfl (fun _=>rfl) ?_
   obtain ⟨x17,hx17,h⟩:=I h
   refine p2 rfl rfl rfl rfl hx17 rfl rfl (by decide)<|l1 rfl rfl (by decide)<|E (kt<|kt<|kx<|kn) fun _=>?_
   refine F<|K rfl<|J rfl<|C rfl ?_
   obtain ⟨x11,hx11,h⟩:=I h
   refine W rfl rfl rfl hx11 rfl<|a6 rfl<|J rfl<|C rfl<|E (kt<|kt<|kx<|kn) ?_
   cases h
   refine ⟨_,rfl,?_⟩
   rw [Ktv rfl (Ktv rfl (Kxo rfl (Knil _)))]
   all_goals rfl
  ·replace h:=O hc7 h
   refine b3 (kx<|kn) ?_
   refine ⟨rfl,?_⟩
   cases h
   exact ⟨_,rfl,rfl⟩
 ·intro s0 hs
  replace h:=d3 h hs
  intro _
  refine D<|F<|l3 rfl ?_
  obtain ⟨x19,hx19,h⟩:=I h
  refine p8 rfl rfl rfl (c212 s0.2 _ hx19) rfl<|E (kx<|kn) fun _=>?_
  refine D<|F<|m3 rfl (by decide)<|f2 rfl<|E (ko<|kn) fun _=>?_
  exact L (by cases h;rfl)
 ·intro v0 ze hv hR
  replace h:=d4 h hv
  cases h
  exact hR
theorem ck107:CK f107 (Rq [Af 3 0,Ak 6] [1,2,3]<|Rq [Ae 7 3 2,Aa 8 1,Al 9 166 7 8,Aa 10 2,Al 11 114 9 10,Aa 6 11] [6]<|.ret) [.tmp 6]:= by decide +kernel
theorem c107 (t:Types) (a:Int) (b:Int) (r:Bool) (h:types_is t a b=some r):Sound prog 107 [eTypes t,eI a,eI b] (.sh (eB r)):= by
 refine Fn ck107 fun hw=>?_
 unfold types_is at h
 refine D<|F<|a4 rfl rfl<|C rfl<|E (kt<|kt<|kt<|kn) fun _=>?_
 refine D<|F<|R rfl rfl (show _=eTypes t from rfl)<|C rfl ?_
 obtain ⟨x9,hx9,h⟩:=I h
 refine g6 rfl (c166 t a _ hx9)<|C rfl ?_
 obtain ⟨x11,hx11,h⟩:=I h
 refine T rfl (c114 x9 b _ hx11)<|C rfl<|E (kt<|kn) fun _=>?_
 exact L (by cases h;rfl)
theorem ck56:CK f56 (Rq [Af 4 0,Ak 8] [1,2,3,4]<|Sq (Rq [Ae 9 4 2,Aa 10 2,Aa 11 3,Er 12 1 10 11,Al 13 106 9 12,Av 14 13 0,Aa 15 14,Aw 16 1 15,Fe 17 16 0 15,As 18 15 17,Aa 19 18,Aw 20 1 19,Ar 21 4 1 19,Ao 22 21 19,Bc 23 22 19,Bp 24 20 23 19,As 25 19 24] [1,2,3,4,25]<|Co 25 (Rq [Ak 8] [8]<|.ret)<|Sk [1,2,3,4])<|Sq (Dr [8,26,27,28,29,30,31,32,33,34,35,36,37,38,39,40,41,42,43,44,45] [Ae 26 4 2,Aa 27 2,Ac 28 4 1,Ab 29 28,Aa 30 1,Ag 31 29 30 7,Ai 32 31 1,Ab 33 32,Bg 34 107 26 27 33,Aa 35 34,Cq 36 4 2 35,Aq 37 3 35,Ba 38 4 1 35,Ax 39 38 35,Aq 40 1 35,Cb 41 39 40 7 35,Bu 42 41 2 35,Ax 43 42 35,Es 44 107 36 37 43 35,At 45 35 44,Aa 8 45] [8])<|.ret) [.tmp 8]:= by decide +kernel
theorem c56 (t:Types) (edge:Int) (from':Int) (to':Int) (r:Bool) (h:types_Fits t edge from' to'=some r):Sound prog 56 [eTypes t,eI edge,eI from',eI to'] (.sh (eB r)):= by
 refine Fn ck56 fun hw=>?_
 unfold types_Fits at h
 refine D<|F<|a4 rfl rfl<|C rfl<|E (kt<|kt<|kt<|kt<|kn) fun _=>?_
 refine D<|D<|F<|R rfl rfl (show _=eTypes t from rfl)<|C rfl<|C rfl<|e1 (e:=eI) (l:=[from',to']) rfl rfl (fun _=>rfl) ?_
 obtain ⟨x13,hx13,h⟩:=I h
 refine T rfl (c106 t [from',to'] _ hx13)<|a9 rfl rfl<|C rfl ?_
 refine gO 3 [16,17] 18 (!decide (x13=0)) (decide (edge<0)) (fun hg18=>?_) (fun hg18=>?_) ?_
 ·refine H rfl hg18<|H rfl hg18<|Y rfl hg18 rfl ?_
  exact ⟨⟨_,_,rfl⟩⟩
 ·refine G rfl hg18<|C rfl<|G rfl hg18<|V rfl rfl<|Z rfl hg18 rfl ?_
  exact ⟨⟨_,_,rfl⟩⟩
 rintro _ ⟨_,_,rfl⟩
 refine C rfl ?_
 refine gO 6 [20,21,22,23,24] 25 ((!decide (x13=0))||(decide (edge<0))) (decide ((t.Edges.length:Int)<=edge)) (fun hg25=>?_) (fun hg25=>?_) ?_
 ·refine H rfl hg25<|H rfl hg25<|H rfl hg25<|H rfl hg25<|H rfl hg25<|Y rfl hg25 rfl ?_
  exact ⟨⟨_,_,_,_,_,rfl⟩⟩
 ·refine G rfl hg25<|C rfl<|G rfl hg25<|K rfl<|G rfl hg25<|J rfl<|G rfl hg25<|U rfl rfl<|G rfl hg25<|d5 rfl rfl<|Z rfl hg25 rfl ?_
  exact ⟨⟨_,_,_,_,_,rfl⟩⟩
 rintro _ ⟨_,_,_,_,_,rfl⟩
 refine E (kt<|kt<|kt<|kt<|kt<|kn) fun _=>?_
 refine S rfl (fun hc25=>?_) (fun hc25=>?_)
 ·replace h:=M hc25 h
  refine D<|F<|C rfl<|E (kt<|kn) fun _=>?_
  exact L (by cases h;rfl)
 ·replace h:=O hc25 h
  refine P (kt<|kt<|kt<|kt<|kn) fun _=>?_
  refine D<|b9 rfl<|R rfl rfl (show _=eTypes t from rfl)<|C rfl<|K rfl<|J rfl<|C rfl ?_
  obtain ⟨x31,hx31,h⟩:=I h
  refine W rfl rfl rfl hx31 rfl<|a6 rfl<|J rfl ?_
  obtain ⟨x34,hx34,h⟩:=I h
  refine T rfl (c107 t from' x31.From _ hx34)<|C rfl ?_
  obtain ⟨x45,hx45,h⟩:=I h
  refine gX 10 [36,37,38,39,40,41,42,43,44] 45 x45 x34 (fun hg45=>?_) (fun hg45=>?_) ?_
  ·replace h:=M hg45 hx45
   refine G rfl hg45<|R rfl rfl (show _=eTypes t from rfl)<|G rfl hg45<|C rfl<|G rfl hg45<|K rfl<|G rfl hg45<|J rfl<|G rfl hg45<|C rfl ?_
   obtain ⟨x41,hx41,h⟩:=I h
   refine G rfl hg45<|W rfl rfl rfl hx41 rfl<|G rfl hg45<|a6 rfl<|G rfl hg45<|J rfl ?_
   obtain ⟨x44,hx44,h⟩:=I h
   refine G rfl hg45<|T rfl (c107 t to' x41.To _ hx44) ?_
   cases h
   refine Y rfl hg45 rfl ?_
   exact ⟨⟨_,_,_,_,_,_,_,_,_,rfl⟩⟩
  ·replace h:=O hg45 hx45
   cases h
   refine H rfl hg45<|H rfl hg45<|H rfl hg45<|H rfl hg45<|H rfl hg45<|H rfl hg45<|H rfl hg45<|H rfl hg45<|H rfl hg45<|Z rfl hg45 rfl ?_
   exact ⟨⟨_,_,_,_,_,_,_,_,_,rfl⟩⟩
  rintro _ ⟨_,_,_,_,_,_,_,_,_,rfl⟩
  refine C rfl<|E (kt<|kn) fun _=>?_
  exact L (by cases h;rfl)
end Go.Sf.Sc
