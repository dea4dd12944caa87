/- Contracts of the functions. -/
import Derived.Test.YtmaobfbhdkafkaaGreatFns
import Derived.Test.YtmaobfbhdkafkaaGreatShort
import Derived.Test.YtmaobfbhdkafkaaGreatTryzShelf
import Derived.Test.YtmaobfbhdkafkaaGreatRp
set_option maxRecDepth 100000
namespace Go.Sf.Sc
open Go Go.Sf Go.Proofs.Tryz
theorem ck289:CK f289 (Rq [Ah 2] [0]<|Rq [Aa 3 0,Ef 4 3 97,Aa 5 4,Az 6 0 5,Dn 7 6 122 5,Ao 8 5 7,Aa 9 8,Bc 10 0 9,⟨some 11,.bin (.i) .geq (.s 10) (.c (.int .u8 65)),some (9,false)⟩,Bc 12 11 9,Az 13 0 12,Dn 14 13 90 12,De 15 12 14 9,At 16 9 15,Aa 2 16] [2]<|.ret) [.tmp 2]:= by decide +kernel
theorem c289 (c:Int) (r:Bool) (h:token_letter c=some r):Sound prog 289 [eU8 c] (.sh (eB r)):= by
 refine Fn ck289 fun hw=>?_
 unfold token_letter at h
 refine E<|G<|D B<|F km1 fun _=>?_
 refine E<|G<|D B<|e1 B B<|D B ?_
 refine gA 3 [6,7] 8 (decide (97<=c)) (decide (c<=122)) (fun hg8=>?_) (fun hg8=>?_) ?_
 ·refine H B hg8<|D B<|H B hg8<|f7 B B<|a4 B hg8 B ?_
  exact ⟨⟨_,_,B⟩⟩
 ·refine I B hg8<|I B hg8<|a5 B hg8 B ?_
  exact ⟨⟨_,_,B⟩⟩
 rintro _ ⟨_,_,rfl⟩
 refine D B ?_
 refine gO 7 [10,11,12,13,14,15] 16 ((decide (97<=c))&&(decide (c<=122))) ((decide (65<=c))&&(decide (c<=90))) (fun hg16=>?_) (fun hg16=>?_) ?_
 ·refine I B hg16<|I B hg16<|I B hg16<|f2 B<|f2 B<|I B hg16<|a4 B hg16 B ?_
  exact ⟨⟨_,_,_,_,_,_,B⟩⟩
 ·refine H B hg16<|D B<|H B hg16<|e1 B B<|H B hg16<|D B ?_
  refine gA 3 [13,14] 15 (decide (65<=c)) (decide (c<=90)) (fun hg15=>?_) (fun hg15=>?_) ?_
  ·refine H B hg15<|D B<|H B hg15<|f7 B B<|H B hg16<|a4 B hg15 B ?_
   exact ⟨⟨_,_,B⟩⟩
  ·refine I B hg15<|I B hg15<|H B hg16<|a5 B hg15 B ?_
   exact ⟨⟨_,_,B⟩⟩
  rintro _ ⟨_,_,rfl⟩
  refine a5 B hg16 B ?_
  exact ⟨⟨_,_,_,_,_,_,B⟩⟩
 rintro _ ⟨_,_,_,_,_,_,rfl⟩
 refine D B<|F km1 fun _=>?_
 exact L (by cases h;rfl)
theorem ck290:CK f290 (Rq [Ae 4 0] [0,1]<|Rq [Ae 5 0] [0,1,5]<|Sq (Bl 0<|Lo [0,1,5]<|Sq (Rq [Aa 6 5,Aa 7 0,⟨some 8,.slen (.s 7),none⟩,Am 9 6 8,Aa 10 9,Az 11 1 10,Az 12 0 10,Az 13 5 10,⟨some 14,.sidx (.s 12) (.s 13),some (10,true)⟩,⟨some 15,.callv (.s 11) [.s 14],some (10,true)⟩,Ao 16 10 15] [0,1,5,16]<|Co 16 (Sk [0,1,5])<|Ex 0 [5])<|Bl 1<|Re [Aa 17 5,An 18 17 1,Aa 5 18] [0,1,5])<|Rq [Aa 19 5,Aa 4 19] [4]<|.ret) [.tmp 4]:= by decide +kernel
theorem c290 (s_0:ByteArray) (ok:Int->Option Bool) (f_ok:FuncId) (k_ok:List TV) (h_ok:∀ (y0:Int) r,ok y0=some r->Sound prog f_ok ([eU8 y0]++k_ok) (.sh (eB r))) (r:Int) (h:token_run s_0 ok=some r):Sound prog 290 [eS s_0,.clo f_ok k_ok] (.sh (eI r)):= by
 refine Fn ck290 fun hw=>?_
 unfold token_run at h
 refine E<|G<|D B<|F km2 fun _=>?_
 refine E<|G<|D B<|F km3 fun _=>?_
 refine E ?_
 obtain ⟨o0,ho0,h⟩:=d6 h
 refine m0 ho0 (fun (s0:Int)=>[(0,.tv (eS s_0)),(1,.tv (.clo f_ok k_ok)),(5,.tv (eI s0))]) (fun (s0:Int)=>[(5,.tv (eI s0))]) (fun zv ze=>resIs ([.tmp 4]) (.sh (eI zv)) ze) B ?_ ?_ ?_
 ·clear h ho0
  intro s0 r0 h hw0
  refine E<|E<|G<|D B<|D B<|m6 B<|Y B B<|D B ?_
  obtain ⟨x16,hx16,h⟩:=J h
  refine gX 6 [11,12,13,14,15] 16 x16 (decide (s0<(s_0.size:Int))) (fun hg16=>?_) (fun hg16=>?_) ?_
  ·replace h:=R hg16 hx16
   refine H B hg16<|D B<|H B hg16<|D B<|H B hg16<|D B ?_
   obtain ⟨x14,hx14,h⟩:=J h
   refine H B hg16<|p0 B B hx14 ?_
   obtain ⟨x15,hx15,h⟩:=J h
   refine H B hg16<|g0 B B (h_ok _ _ hx15) ?_
   cases h
   refine a4 B hg16 B ?_
   exact ⟨⟨_,_,_,_,_,B⟩⟩
  ·replace h:=S hg16 hx16
   cases h
   refine I B hg16<|I B hg16<|I B hg16<|I B hg16<|I B hg16<|a5 B hg16 B ?_
   exact ⟨⟨_,_,_,_,_,B⟩⟩
  rintro _ ⟨_,_,_,_,_,rfl⟩
  refine F km4 fun _=>?_
  refine U B (fun hc16=>?_) (fun hc16=>?_)
  ·replace h:=R hc16 h
   refine T km3 fun _=>?_
   refine b3<|G<|D B<|a8 B B<|D B<|F km3 ?_
   cases h
   refine ⟨_,B,?_⟩
   rw [Ktv rfl (Ktv rfl (Ktv rfl (Knil _)))]
   all_goals rfl
  ·replace h:=S hc16 h
   refine b8 km1 ?_
   refine ⟨rfl,?_⟩
   cases h
   exact ⟨_,rfl,rfl⟩
 ·intro s0 hs
  replace h:=d7 h hs
  intro _
  refine E<|G<|D B<|D B<|F km1 fun _=>?_
  exact L (by cases h;rfl)
 ·intro v0 ze hv hR
  replace h:=d8 h hv
  cases h
  exact hR
theorem ck292:CK f292 (Rq [Ah 2] [0]<|Rq [Aa 3 0,Ef 4 3 48,Aa 5 4,Az 6 0 5,Dn 7 6 57 5,Ao 8 5 7,Aa 2 8] [2]<|.ret) [.tmp 2]:= by decide +kernel
theorem c292 (c:Int) (r:Bool) (h:token_digit c=some r):Sound prog 292 [eU8 c] (.sh (eB r)):= by
 refine Fn ck292 fun hw=>?_
 unfold token_digit at h
 refine E<|G<|D B<|F km1 fun _=>?_
 refine E<|G<|D B<|e1 B B<|D B ?_
 refine gA 3 [6,7] 8 (decide (48<=c)) (decide (c<=57)) (fun hg8=>?_) (fun hg8=>?_) ?_
 ·refine H B hg8<|D B<|H B hg8<|f7 B B<|a4 B hg8 B ?_
  exact ⟨⟨_,_,B⟩⟩
 ·refine I B hg8<|I B hg8<|a5 B hg8 B ?_
  exact ⟨⟨_,_,B⟩⟩
 rintro _ ⟨_,_,rfl⟩
 refine D B<|F km1 fun _=>?_
 exact L (by cases h;rfl)
theorem ck291:CK f291 (Rq [Ah 2] [0]<|Rq [Aa 3 0,Au 4 289 3,Aa 5 4,Bc 6 0 5,Df 7 292 6 5,At 8 5 7,Aa 9 8,Bc 10 0 9,⟨some 11,.bin (.i) .eql (.s 10) (.c (.int .u8 95)),some (9,false)⟩,At 12 9 11,Aa 2 12] [2]<|.ret) [.tmp 2]:= by decide +kernel
theorem c291 (c:Int) (r:Bool) (h:token_part c=some r):Sound prog 291 [eU8 c] (.sh (eB r)):= by
 refine Fn ck291 fun hw=>?_
 unfold token_part at h
 refine E<|G<|D B<|F km1 fun _=>?_
 refine E<|G<|D B ?_
 obtain ⟨x4,hx4,h⟩:=J h
 refine V B (c289 c _ hx4)<|D B ?_
 obtain ⟨x8,hx8,h⟩:=J h
 refine gX 3 [6,7] 8 x8 x4 (fun hg8=>?_) (fun hg8=>?_) ?_
 ·replace h:=R hg8 hx8
  cases h
  refine I B hg8<|I B hg8<|a4 B hg8 B ?_
  exact ⟨⟨_,_,B⟩⟩
 ·replace h:=S hg8 hx8
  refine H B hg8<|D B ?_
  obtain ⟨x7,hx7,h⟩:=J h
  refine H B hg8<|V B (c292 c _ hx7) ?_
  cases h
  refine a5 B hg8 B ?_
  exact ⟨⟨_,_,B⟩⟩
 rintro _ ⟨_,_,rfl⟩
 refine D B ?_
 refine gO 3 [10,11] 12 x8 (decide (c=95)) (fun hg12=>?_) (fun hg12=>?_) ?_
 ·refine I B hg12<|I B hg12<|a4 B hg12 B ?_
  exact ⟨⟨_,_,B⟩⟩
 ·refine H B hg12<|D B<|H B hg12<|b2 B B<|a5 B hg12 B ?_
  exact ⟨⟨_,_,B⟩⟩
 rintro _ ⟨_,_,rfl⟩
 refine D B<|F km1 fun _=>?_
 exact L (by cases h;rfl)
theorem ck307:CK f307 (Rq [Ah 2] [0]<|Rq [Aa 3 0,Ef 4 3 32,Aa 5 4,Az 6 0 5,Dn 7 6 126 5,Ao 8 5 7,Aa 9 8,Az 10 0 9,⟨some 11,.bin (.i) .neq (.s 10) (.c (.int .u8 34)),some (9,true)⟩,Ao 12 9 11,Aa 2 12] [2]<|.ret) [.tmp 2]:= by decide +kernel
theorem c307 (c:Int) (r:Bool) (h:token_quoted_1 c=some r):Sound prog 307 [eU8 c] (.sh (eB r)):= by
 refine Fn ck307 fun hw=>?_
 unfold token_quoted_1 at h
 refine E<|G<|D B<|F km1 fun _=>?_
 refine E<|G<|D B<|e1 B B<|D B ?_
 refine gA 3 [6,7] 8 (decide (32<=c)) (decide (c<=126)) (fun hg8=>?_) (fun hg8=>?_) ?_
 ·refine H B hg8<|D B<|H B hg8<|f7 B B<|a4 B hg8 B ?_
  exact ⟨⟨_,_,B⟩⟩
 ·refine I B hg8<|I B hg8<|a5 B hg8 B ?_
  exact ⟨⟨_,_,B⟩⟩
 rintro _ ⟨_,_,rfl⟩
 refine D B ?_
 refine gA 3 [10,11] 12 ((decide (32<=c))&&(decide (c<=126))) (!decide (c=34)) (fun hg12=>?_) (fun hg12=>?_) ?_
 ·refine H B hg12<|D B<|H B hg12<|a9 B B<|a4 B hg12 B ?_
  exact ⟨⟨_,_,B⟩⟩
 ·refine I B hg12<|I B hg12<|a5 B hg12 B ?_
  exact ⟨⟨_,_,B⟩⟩
 rintro _ ⟨_,_,rfl⟩
 refine D B<|F km1 fun _=>?_
 exact L (by cases h;rfl)
theorem ck293:CK f293 (Rq [Ae 2 0,Ae 3 0] [0]<|Rq [Aa 5 0,⟨some 6,.sslc (.s 5) (some (.c (.int .i64 1))) none,none⟩,Do 7 290 6 307,Aa 4 7] [0,4]<|Sq (Rq [Aa 8 4,⟨some 9,.bin (.i) .add (.c (.int .i64 1)) (.s 8),none⟩,Aa 10 0,⟨some 11,.slen (.s 10),none⟩,Cu 12 9 11,Aa 13 12,Bc 14 0 13,Bc 15 4 13,⟨some 16,.bin (.i) .add (.c (.int .i64 1)) (.s 15),some (13,false)⟩,⟨some 17,.sidx (.s 14) (.s 16),some (13,false)⟩,⟨some 18,.bin (.i) .neq (.s 17) (.c (.int .u8 34)),some (13,false)⟩,At 19 13 18] [4,19]<|Co 19 (Rq [Ae 2 0,Ae 3 2] [2,3]<|.ret)<|Sk [4])<|Sq (Rq [Aa 20 4,Bu 21 20 60] [4,21]<|Co 21 (Rq [Ae 2 0,Ae 3 3] [2,3]<|.ret)<|Sk [4])<|Rq [Aa 22 4,An 23 22 2,Aa 2 23,Ae 3 0] [2,3]<|.ret) [.tmp 2,.tmp 3]:= by decide +kernel
theorem c293 (s_0:ByteArray) (r:(Int × Int)) (h:token_quoted s_0=some r):Sound prog 293 [eS s_0] (.tp [eI r.1,eI r.2]):= by
 refine Fn ck293 fun hw=>?_
 unfold token_quoted at h
 refine E<|G<|D B<|D B<|F km1 fun _=>?_
 refine E<|G<|D B ?_
 obtain ⟨x6,hx6,h⟩:=J h
 refine p9 B B B hx6 ?_
 obtain ⟨x7,hx7,h⟩:=J h
 refine V B (c290 x6 token_quoted_1 _ _ (fun y0 r h=>c307 y0 r h) _ hx7)<|D B<|F km2 fun _=>?_
 refine E<|E<|G<|D B<|a8 B B<|D B<|m6 B<|b2 B B<|D B ?_
 obtain ⟨x19,hx19,h⟩:=J h
 refine gX 6 [14,15,16,17,18] 19 x19 (decide ((w64 (1+x7))=(s_0.size:Int))) (fun hg19=>?_) (fun hg19=>?_) ?_
 ·replace h:=R hg19 hx19
  cases h
  refine I B hg19<|I B hg19<|I B hg19<|I B hg19<|I B hg19<|a4 B hg19 B ?_
  exact ⟨⟨_,_,_,_,_,B⟩⟩
 ·replace h:=S hg19 hx19
  refine H B hg19<|D B<|H B hg19<|D B<|H B hg19<|a8 B B ?_
  obtain ⟨x17,hx17,h⟩:=J h
  refine H B hg19<|p0 B B hx17<|H B hg19<|a9 B B ?_
  cases h
  refine a5 B hg19 B ?_
  exact ⟨⟨_,_,_,_,_,B⟩⟩
 rintro _ ⟨_,_,_,_,_,rfl⟩
 refine F km2 fun _=>?_
 refine U B (fun hc19=>?_) (fun hc19=>?_)
 ·replace h:=R hc19 h
  refine E<|G<|D B<|D B<|F km2 fun _=>?_
  refine L ?_
  cases h
  exact ⟨by decide,rfl⟩
 ·replace h:=S hc19 h
  refine T km1 fun _=>?_
  refine E<|E<|G<|D B<|f3 B B<|F km2 fun _=>?_
  refine U B (fun hc21=>?_) (fun hc21=>?_)
  ·replace h:=R hc21 h
   refine E<|G<|D B<|D B<|F km2 fun _=>?_
   refine L ?_
   cases h
   exact ⟨by decide,rfl⟩
  ·replace h:=S hc21 h
   refine T km1 fun _=>?_
   refine E<|G<|D B<|a8 B B<|D B<|D B<|F km2 fun _=>?_
   refine L ?_
   cases h
   exact ⟨by decide,rfl⟩
theorem ck296:CK f296 (Rq [Ae 4 0] [0,1]<|Sq (Rq [Aa 6 0,Ag 7 6,Ae 8 0] [0,1,7,8]<|Bl 0<|Lo [0,1,7,8]<|Rq [Am 9 8 7] [0,1,7,8,9]<|Sq (Co 9 (Sk [0,1,7,8])<|Ex 0 [])<|Sq (Bl 1<|Rq [Aa 10 8,Aa 5 10] [0,1,5,7,8]<|Rq [Aa 11 1,Aa 12 0,Aa 13 5,Ak 14 12 13 1,Ab 15 14,Dp 16 11 15] [0,1,5,7,8,16]<|Co 16 (Rq [Aa 17 5,Aa 4 17] [4]<|.ret)<|Sk [0,1,7,8])<|Re [An 18 8 1,Aa 8 18] [0,1,7,8])<|Rq [Bm 4 (-1)] [4]<|.ret) [.tmp 4]:= by decide +kernel
theorem c296 (s_0:List ByteArray) (v_1:ByteArray) (r:Int) (h:slices_Index_string s_0 v_1=some r):Sound prog 296 [lB s_0,eS v_1] (.sh (eI r)):= by
 refine Fn ck296 fun hw=>?_
 unfold slices_Index_string at h
 refine E<|G<|D B<|F km2 fun _=>?_
 refine E<|E<|G<|D B<|W B B<|D B<|F km4 fun _=>?_
 obtain ⟨o0,ho0,h⟩:=d6 h
 refine d9 ho0 (fun (i0:Int) (_:Unit)=>[(0,.tv (lB s_0)),(1,.tv (eS v_1)),(7,.tv (eI (s_0.length:Int))),(8,.tv (eI i0))]) (fun (_:Unit)=>[]) (fun zv ze=>resIs ([.tmp 4]) (.sh (eI zv)) ze) B ?_ ?_ ?_ ?_
 ·clear h ho0
  intro i0 s0 r0 hi0 h hw0
  refine E<|G<|Y B B<|F km5 fun _=>?_
  refine E<|d1 B (d2 hi0)<|T km4 fun _=>?_
  refine E<|b3<|E<|G<|D B<|D B<|F km5 fun _=>?_
  refine E<|G<|D B<|D B<|D B ?_
  obtain ⟨x14,hx14,h⟩:=J h
  refine a2 B B B hx14 B<|K B<|m1 B B<|F km6 fun _=>?_
  refine U B (fun hc16=>?_) (fun hc16=>?_)
  ·replace h:=R hc16 h
   refine E<|G<|D B<|D B<|F km1 fun _=>?_
   refine L ?_
   cases h
   exact ⟨_,rfl,rfl⟩
  ·replace h:=S hc16 h
   refine T km4 fun _=>?_
   refine G<|a8 B B<|D B<|F km4 ?_
   cases h
   refine ⟨_,B,?_⟩
   rw [Ktv rfl (Ktv rfl (Ktv rfl (Ktv rfl (Knil _))))]
   rw [b7 (Z (hw0 8)) hi0 (b9 (Z (hw0 7)))]
   all_goals rfl
 ·intro i0 s0 hi0
  refine E<|G<|Y B B<|F km5 fun _=>?_
  refine E<|d0 B (d3 hi0)<|b8 kn ?_
  exact ⟨rfl,rfl⟩
 ·intro s0 hs
  replace h:=d7 h hs
  intro _
  refine E<|G<|D B<|F km1 fun _=>?_
  exact L (by cases h;rfl)
 ·intro v0 ze hv hR
  replace h:=d8 h hv
  cases h
  exact hR
theorem ck268:CK f268 (Rq [Ah 4] [0,1]<|Rq [Aa 5 0,Aa 6 1,Ap 7 296 5 6,Bi 8 7 0,Aa 4 8] [4]<|.ret) [.tmp 4]:= by decide +kernel
theorem c268 (s_0:List ByteArray) (v_1:ByteArray) (r:Bool) (h:slices_Contains_string s_0 v_1=some r):Sound prog 268 [lB s_0,eS v_1] (.sh (eB r)):= by
 refine Fn ck268 fun hw=>?_
 unfold slices_Contains_string at h
 refine E<|G<|D B<|F km2 fun _=>?_
 refine E<|G<|D B<|D B ?_
 obtain ⟨x7,hx7,h⟩:=J h
 refine V B (c296 s_0 v_1 _ hx7)<|e1 B B<|D B<|F km1 fun _=>?_
 exact L (by cases h;rfl)
theorem ck294:CK f294 (Rq [Ah 2] [0]<|Rq [Aa 3 0,⟨some 4,.slen (.s 3),none⟩,Bi 5 4 2,Aa 6 5,⟨some 7,.lst 1 [.c (.str ⟨#[45,62]⟩),.c (.str ⟨#[60,61]⟩),.c (.str ⟨#[62,61]⟩),.c (.str ⟨#[61,61]⟩),.c (.str ⟨#[33,61]⟩)],some (6,true)⟩,Az 8 0 6,⟨some 9,.sslc (.s 8) none (some (.c (.int .i64 2))),some (6,true)⟩,Cd 10 268 7 9 6,Ao 11 6 10,Aa 2 11] [2]<|.ret) [.tmp 2]:= by decide +kernel
theorem c294 (s_0:ByteArray) (r:Bool) (h:token_pair s_0=some r):Sound prog 294 [eS s_0] (.sh (eB r)):= by
 refine Fn ck294 fun hw=>?_
 unfold token_pair at h
 refine E<|G<|D B<|F km1 fun _=>?_
 refine E<|G<|D B<|m6 B<|e1 B B<|D B ?_
 obtain ⟨x11,hx11,h⟩:=J h
 refine gX 5 [7,8,9,10] 11 x11 (decide (2<=(s_0.size:Int))) (fun hg11=>?_) (fun hg11=>?_) ?_
 ·replace h:=R hg11 hx11
  refine H B hg11<|e4 (e:=eS) (l:=[(⟨#[45,62]⟩:ByteArray),(⟨#[60,61]⟩:ByteArray),(⟨#[62,61]⟩:ByteArray),(⟨#[61,61]⟩:ByteArray),(⟨#[33,61]⟩:ByteArray)]) B B (fun _=>rfl)<|H B hg11<|D B ?_
  obtain ⟨x9,hx9,h⟩:=J h
  refine H B hg11<|p9 B B B hx9 ?_
  obtain ⟨x10,hx10,h⟩:=J h
  refine H B hg11<|V B (c268 [(⟨#[45,62]⟩:ByteArray),(⟨#[60,61]⟩:ByteArray),(⟨#[62,61]⟩:ByteArray),(⟨#[61,61]⟩:ByteArray),(⟨#[33,61]⟩:ByteArray)] x9 _ hx10) ?_
  cases h
  refine a4 B hg11 B ?_
  exact ⟨⟨_,_,_,_,B⟩⟩
 ·replace h:=S hg11 hx11
  cases h
  refine I B hg11<|I B hg11<|I B hg11<|I B hg11<|a5 B hg11 B ?_
  exact ⟨⟨_,_,_,_,B⟩⟩
 rintro _ ⟨_,_,_,_,rfl⟩
 refine D B<|F km1 fun _=>?_
 exact L (by cases h;rfl)
theorem c295 (s:ByteArray) (c:Int) (r:Int) (h:strings_IndexByte s c=some r):Sound prog 295 [eS s,eU8 c] (.sh (eI r)):=by
  unfold strings_IndexByte at h
  cases h
  exact ixb_of (by rfl) ⟨Go.Lib.indexByte_ge _ _,ixb_le _ _⟩ (fun w=>Go.Proofs.Tryz.strings_IndexByte s c w)
theorem ck266:CK f266 (Rq [Ae 2 0,Ae 3 0,Ae 4 0] [0]<|Rq [Aa 10 0,⟨some 11,.sidx (.s 10) (.c (.int .i64 0)),none⟩,Aa 5 11] [0,5]<|Sq (Bl 0<|Rq [Aa 13 5,Au 14 289 13,Aa 12 14] [0,5,12]<|Co 12 (Rq [Aa 15 0,Do 16 290 15 291,Aa 6 16] [6]<|Sq (Rq [Aa 17 6,Bu 18 17 20] [6,18]<|Co 18 (Rq [Ae 2 0,Ae 3 0,Ae 4 3] [2,3,4]<|.ret)<|Sk [6])<|Rq [Aa 19 6,Ae 2 1,Aa 3 19,Ae 4 0] [2,3,4]<|.ret)<|Rq [Aa 21 5,Au 22 292 21,Aa 20 22] [0,5,20]<|Co 20 (Rq [Aa 23 0,Do 24 290 23 292,Aa 7 24] [7]<|Sq (Rq [Aa 25 7,Bu 26 25 9] [7,26]<|Co 26 (Rq [Ae 2 0,Ae 3 0,Ae 4 3] [2,3,4]<|.ret)<|Sk [7])<|Rq [Aa 27 7,Ae 2 2,Aa 3 27,Ae 4 0] [2,3,4]<|.ret)<|Rq [Aa 29 5,⟨some 30,.bin (.i) .eql (.s 29) (.c (.int .u8 34)),none⟩,Aa 28 30] [0,5,28]<|Co 28 (Rq [Aa 32 0,Au 33 293 32,Aa 31 33,Al 34 31 0,Al 35 31 1,Aa 8 34,Aa 9 35] [8,9]<|Rq [Aa 36 8,Aa 37 9,Ae 2 3,Aa 3 36,Aa 4 37] [2,3,4]<|.ret)<|Rq [Aa 39 0,Au 40 294 39,Aa 38 40] [5,38]<|Co 38 (Rq [Ae 2 4,Ae 3 2,Ae 4 0] [2,3,4]<|.ret)<|Rq [Aa 42 5,⟨some 43,.call 295 [.c (.str ⟨#[123,125,40,41,91,93,44,59,58,61,43,45,42,60,62,33,38,124,46,63]⟩),.s 42],none⟩,Bi 44 43 0,Aa 41 44] [41]<|Co 41 (Rq [Ae 2 4,Ae 3 1,Ae 4 0] [2,3,4]<|.ret)<|Sk [])<|Rq [Ae 2 0,Ae 3 0,Ae 4 2] [2,3,4]<|.ret) [.tmp 2,.tmp 3,.tmp 4]:= by decide +kernel
theorem c266 (s_0:ByteArray) (r:(Int × Int × Int)) (h:token_next s_0=some r):Sound prog 266 [eS s_0] (.tp [eI r.1,eI r.2.1,eI r.2.2]):= by
 refine Fn ck266 fun hw=>?_
 unfold token_next at h
 refine E<|G<|D B<|D B<|D B<|F km1 fun _=>?_
 refine E<|G<|D B ?_
 obtain ⟨x11,hx11,h⟩:=J h
 refine p0 B B hx11<|D B<|F km2 fun _=>?_
 refine E<|b3<|E<|G<|D B ?_
 obtain ⟨x14,hx14,h⟩:=J h
 refine V B (c289 x11 _ hx14)<|D B<|F km3 fun _=>?_
 refine U B (fun hc12=>?_) (fun hc12=>?_)
 ·replace h:=R hc12 h
  refine E<|G<|D B ?_
  obtain ⟨x16,hx16,h⟩:=J h
  refine V B (c290 s_0 token_part _ _ (fun y0 r h=>c291 y0 r h) _ hx16)<|D B<|F km1 fun _=>?_
  refine E<|E<|G<|D B<|f3 B B<|F km2 fun _=>?_
  refine U B (fun hc18=>?_) (fun hc18=>?_)
  ·replace h:=R hc18 h
   refine E<|G<|D B<|D B<|D B<|F km3 fun _=>?_
   refine L ?_
   cases h
   exact ⟨by decide,rfl⟩
  ·replace h:=S hc18 h
   refine T km1 fun _=>?_
   refine E<|G<|D B<|D B<|D B<|D B<|F km3 fun _=>?_
   refine L ?_
   cases h
   exact ⟨by decide,rfl⟩
 ·replace h:=S hc12 h
  refine E<|G<|D B ?_
  obtain ⟨x22,hx22,h⟩:=J h
  refine V B (c292 x11 _ hx22)<|D B<|F km3 fun _=>?_
  refine U B (fun hc20=>?_) (fun hc20=>?_)
  ·replace h:=R hc20 h
   refine E<|G<|D B ?_
   obtain ⟨x24,hx24,h⟩:=J h
   refine V B (c290 s_0 token_digit _ _ (fun y0 r h=>c292 y0 r h) _ hx24)<|D B<|F km1 fun _=>?_
   refine E<|E<|G<|D B<|f3 B B<|F km2 fun _=>?_
   refine U B (fun hc26=>?_) (fun hc26=>?_)
   ·replace h:=R hc26 h
    refine E<|G<|D B<|D B<|D B<|F km3 fun _=>?_
    refine L ?_
    cases h
    exact ⟨by decide,rfl⟩
   ·replace h:=S hc26 h
    refine T km1 fun _=>?_
    refine E<|G<|D B<|D B<|D B<|D B<|F km3 fun _=>?_
    refine L ?_
    cases h
    exact ⟨by decide,rfl⟩
  ·replace h:=S hc20 h
   refine E<|G<|D B<|b2 B B<|D B<|F km3 fun _=>?_
   refine U B (fun hc28=>?_) (fun hc28=>?_)
   ·replace h:=R hc28 h
    refine E<|G<|D B ?_
    obtain ⟨x33,hx33,h⟩:=J h
    refine e8 B (c293 s_0 _ hx33)<|e5 B<|b4 B B<|b4 B B<|D B<|D B<|F km2 fun _=>?_
    refine E<|G<|D B<|D B<|D B<|D B<|D B<|F km3 fun _=>?_
    refine L ?_
    cases h
    exact ⟨by decide,rfl⟩
   ·replace h:=S hc28 h
    refine E<|G<|D B ?_
    obtain ⟨x40,hx40,h⟩:=J h
    refine V B (c294 s_0 _ hx40)<|D B<|F km2 fun _=>?_
    refine U B (fun hc38=>?_) (fun hc38=>?_)
    ·replace h:=R hc38 h
     refine E<|G<|D B<|D B<|D B<|F km3 fun _=>?_
     refine L ?_
     cases h
     exact ⟨by decide,rfl⟩
    ·replace h:=S hc38 h
     refine E<|G<|D B ?_
     obtain ⟨x43,hx43,h⟩:=J h
     refine V B (c295 (⟨#[123,125,40,41,91,93,44,59,58,61,43,45,42,60,62,33,38,124,46,63]⟩:ByteArray) x11 _ hx43)<|e1 B B<|D B<|F km1 fun _=>?_
     refine U B (fun hc41=>?_) (fun hc41=>?_)
     ·replace h:=R hc41 h
      refine E<|G<|D B<|D B<|D B<|F km3 fun _=>?_
      refine L ?_
      cases h
      exact ⟨by decide,rfl⟩
     ·replace h:=S hc41 h
      refine T kn fun _=>?_
      refine E<|G<|D B<|D B<|D B<|F km3 fun _=>?_
      refine L ?_
      cases h
      exact ⟨by decide,rfl⟩
theorem ck244:CK f244 (Rq [Af 1 0,Cv 2,Ah 3] [1]<|Rq [Ac 8 1 1,Ab 9 8,Aa 4 9] [1,4]<|Sq (Rq [Ac 10 1 0,Ab 11 10,Ar 12 11 3] [1,4,12]<|Co 12 (Re [Aa 13 4,⟨some 14,.bin (.s) .add (.c (.str ⟨#[34]⟩)) (.s 13),none⟩,⟨some 15,.bin (.s) .add (.s 14) (.c (.str ⟨#[34]⟩)),none⟩,Aa 4 15] [1,4])<|Sk [1,4])<|Sq (Rq [Aa 16 4,⟨some 17,.bin (.s) .eql (.s 16) (.c (.str ⟨#[]⟩)),none⟩] [1,4,17]<|Co 17 (Rq [Cv 2,Ah 3] [2,3]<|.ret)<|Sk [1,4])<|Rq [Aa 19 4,Au 20 266 19,Aa 18 20,Al 21 18 0,Al 22 18 1,Al 23 18 2,Aa 5 21,Aa 6 22,Aa 7 23] [1,4,5,6,7]<|Rq [Aa 24 4,Aa 25 7,Ar 26 25 0,Aa 27 26,Az 28 5 27,Av 29 1 0 27,Aw 30 29 27,Dg 31 28 30 27,Ao 32 27 31,Aa 33 32,Az 34 6 33,Az 35 4 33,⟨some 36,.slen (.s 35),some (33,true)⟩,Dg 37 34 36 33,Ao 38 33 37,Aa 2 24,Aa 3 38] [2,3]<|.ret) [.tmp 2,.tmp 3]:= by decide +kernel
theorem c244 (t:Token) (r:(ByteArray × Bool)) (h:token_whole t=some r):Sound prog 244 [eToken t] (.tp [eS r.1,eB r.2]):= by
 refine Fn ck244 fun hw=>?_
 unfold token_whole at h
 refine E<|G<|X B B<|D B<|D B<|F km1 fun _=>?_
 refine E<|G<|O B<|K B<|D B<|F km2 fun _=>?_
 refine E<|E<|G<|O B<|K B<|b2 B B<|F km3 fun _=>?_
 obtain ⟨w1,hw1,h⟩:=J h
 refine g8 (fun ze=>ze=[(1,.tv (.pt (eToken t).cells)),(4,.tv (eS w1))]) ?_ ?_
 ·replace h:=hw1
  clear hw1
  refine U B (fun hc12=>?_) (fun hc12=>?_)
  ·replace h:=R hc12 h
   refine G<|D B ?_
   obtain ⟨x14,hx14,h⟩:=J h
   refine q0 B B hx14 ?_
   obtain ⟨x15,hx15,h⟩:=J h
   refine q0 B B hx15<|D B<|F km2 ?_
   cases h
   exact rfl
  ·replace h:=S hc12 h
   refine T km2 ?_
   cases h
   exact rfl
 rintro _ rfl
 intro _
 refine E<|E<|G<|D B<|m1 B B<|F km3 fun _=>?_
 refine U B (fun hc17=>?_) (fun hc17=>?_)
 ·replace h:=R hc17 h
  refine E<|G<|D B<|D B<|F km2 fun _=>?_
  refine L ?_
  cases h
  exact ⟨by decide,rfl⟩
 ·replace h:=S hc17 h
  refine T km2 fun _=>?_
  refine E<|G<|D B ?_
  obtain ⟨x20,hx20,h⟩:=J h
  refine e8 B (c266 w1 _ hx20)<|e5 B<|b4 B B<|b4 B B<|b4 B B<|D B<|D B<|D B<|F km5 fun _=>?_
  refine E<|G<|D B<|D B<|b2 B B<|D B ?_
  refine gA 5 [28,29,30,31] 32 (decide (x20.2.2=0)) (decide (x20.1=t.Kind)) (fun hg32=>?_) (fun hg32=>?_) ?_
  ·refine H B hg32<|D B<|H B hg32<|O B<|H B hg32<|K B<|H B hg32<|b2 B B<|a4 B hg32 B ?_
   exact ⟨⟨_,_,_,_,B⟩⟩
  ·refine I B hg32<|I B hg32<|I B hg32<|I B hg32<|a5 B hg32 B ?_
   exact ⟨⟨_,_,_,_,B⟩⟩
  rintro _ ⟨_,_,_,_,rfl⟩
  refine D B ?_
  refine gA 5 [34,35,36,37] 38 ((decide (x20.2.2=0))&&(decide (x20.1=t.Kind))) (decide (x20.2.1=(w1.size:Int))) (fun hg38=>?_) (fun hg38=>?_) ?_
  ·refine H B hg38<|D B<|H B hg38<|D B<|H B hg38<|m6 B<|H B hg38<|b2 B B<|a4 B hg38 B ?_
   exact ⟨⟨_,_,_,_,B⟩⟩
  ·refine I B hg38<|I B hg38<|I B hg38<|I B hg38<|a5 B hg38 B ?_
   exact ⟨⟨_,_,_,_,B⟩⟩
  rintro _ ⟨_,_,_,_,rfl⟩
  refine D B<|D B<|F km2 fun _=>?_
  refine L ?_
  cases h
  exact ⟨by decide,rfl⟩
theorem ck207:CK f207 (Rq [Ah 2] [0]<|Rq [Aa 6 0,⟨some 7,.bld [.int .i64 0,.str ⟨#[]⟩,.int .i64 0] [(0,1,.c (.int .i64 1)),(1,1,.s 6)],none⟩,Au 8 244 7,Aa 5 8,Al 9 5 0,Al 10 5 1,Aa 3 9,Aa 4 10] [4]<|Rq [Aa 11 4,Aa 2 11] [2]<|.ret) [.tmp 2]:= by decide +kernel
theorem c207 (s_0:ByteArray) (r:Bool) (h:token_IsName s_0=some r):Sound prog 207 [eS s_0] (.sh (eB r)):= by
 refine Fn ck207 fun hw=>?_
 unfold token_IsName at h
 refine E<|G<|D B<|F km1 fun _=>?_
 refine E<|G<|D B<|e2 B B (B:_=eToken (Token.mk 1 s_0 0)) ?_
 obtain ⟨x8,hx8,h⟩:=J h
 refine e8 B (c244 (Token.mk 1 s_0 0) _ hx8)<|e5 B<|b4 B B<|b4 B B<|D B<|D B<|F km1 fun _=>?_
 refine E<|G<|D B<|D B<|F km1 fun _=>?_
 exact L (by cases h;rfl)
theorem ck245:CK f245 (Rq [Ae 4 0] [0,1]<|Sq (Rq [Aa 6 0,Ag 7 6,Ae 8 0] [0,1,7,8]<|Bl 0<|Lo [0,1,7,8]<|Rq [Am 9 8 7] [0,1,7,8,9]<|Sq (Co 9 (Sk [0,1,7,8])<|Ex 0 [])<|Sq (Bl 1<|Rq [Aa 10 8,Aa 5 10] [0,1,5,7,8]<|Rq [Aa 11 1,Aa 12 0,Aa 13 5,Ak 14 12 13 4,Ad 15 14 4,Bx 16 11 15] [0,1,5,7,8,16]<|Co 16 (Rq [Aa 17 5,Aa 4 17] [4]<|.ret)<|Sk [0,1,7,8])<|Re [An 18 8 1,Aa 8 18] [0,1,7,8])<|Rq [Bm 4 (-1)] [4]<|.ret) [.tmp 4]:= by decide +kernel
theorem c245 (s_0:List NodeType) (f:NodeType->Option Bool) (f_f:FuncId) (k_f:List TV) (h_f:∀ (y0:NodeType) r,f y0=some r->Sound prog f_f ([eNodeType y0]++k_f) (.sh (eB r))) (r:Int) (h:slices_IndexFunc_NodeType s_0 f=some r):Sound prog 245 [lN s_0,.clo f_f k_f] (.sh (eI r)):= by
 refine Fn ck245 fun hw=>?_
 unfold slices_IndexFunc_NodeType at h
 refine E<|G<|D B<|F km2 fun _=>?_
 refine E<|E<|G<|D B<|W B B<|D B<|F km4 fun _=>?_
 obtain ⟨o0,ho0,h⟩:=d6 h
 refine d9 ho0 (fun (i0:Int) (_:Unit)=>[(0,.tv (lN s_0)),(1,.tv (.clo f_f k_f)),(7,.tv (eI (s_0.length:Int))),(8,.tv (eI i0))]) (fun (_:Unit)=>[]) (fun zv ze=>resIs ([.tmp 4]) (.sh (eI zv)) ze) B ?_ ?_ ?_ ?_
 ·clear h ho0
  intro i0 s0 r0 hi0 h hw0
  refine E<|G<|Y B B<|F km5 fun _=>?_
  refine E<|d1 B (d2 hi0)<|T km4 fun _=>?_
  refine E<|b3<|E<|G<|D B<|D B<|F km5 fun _=>?_
  refine E<|G<|D B<|D B<|D B ?_
  obtain ⟨x14,hx14,h⟩:=J h
  refine a2 B B B hx14 B<|M B B (B:_=eNodeType x14) ?_
  obtain ⟨x16,hx16,h⟩:=J h
  refine g0 B B (h_f _ _ hx16)<|F km6 fun _=>?_
  refine U B (fun hc16=>?_) (fun hc16=>?_)
  ·replace h:=R hc16 h
   refine E<|G<|D B<|D B<|F km1 fun _=>?_
   refine L ?_
   cases h
   exact ⟨_,rfl,rfl⟩
  ·replace h:=S hc16 h
   refine T km4 fun _=>?_
   refine G<|a8 B B<|D B<|F km4 ?_
   cases h
   refine ⟨_,B,?_⟩
   rw [Ktv rfl (Ktv rfl (Ktv rfl (Ktv rfl (Knil _))))]
   rw [b7 (Z (hw0 8)) hi0 (b9 (Z (hw0 7)))]
   all_goals rfl
 ·intro i0 s0 hi0
  refine E<|G<|Y B B<|F km5 fun _=>?_
  refine E<|d0 B (d3 hi0)<|b8 kn ?_
  exact ⟨rfl,rfl⟩
 ·intro s0 hs
  replace h:=d7 h hs
  intro _
  refine E<|G<|D B<|F km1 fun _=>?_
  exact L (by cases h;rfl)
 ·intro v0 ze hv hR
  replace h:=d8 h hv
  cases h
  exact hR
theorem ck208:CK f208 (Rq [Ah 4] [0,1]<|Rq [Aa 5 0,Aa 6 1,Ap 7 245 5 6,Bi 8 7 0,Aa 4 8] [4]<|.ret) [.tmp 4]:= by decide +kernel
theorem c208 (s_0:List NodeType) (f:NodeType->Option Bool) (f_f:FuncId) (k_f:List TV) (h_f:∀ (y0:NodeType) r,f y0=some r->Sound prog f_f ([eNodeType y0]++k_f) (.sh (eB r))) (r:Bool) (h:slices_ContainsFunc_NodeType s_0 f=some r):Sound prog 208 [lN s_0,.clo f_f k_f] (.sh (eB r)):= by
 refine Fn ck208 fun hw=>?_
 unfold slices_ContainsFunc_NodeType at h
 refine E<|G<|D B<|F km2 fun _=>?_
 refine E<|G<|D B<|D B ?_
 obtain ⟨x7,hx7,h⟩:=J h
 refine V B (c245 s_0 f _ _ h_f _ hx7)<|e1 B B<|D B<|F km1 fun _=>?_
 exact L (by cases h;rfl)
theorem ck209:CK f209 (Rq [Af 2 0,Ah 3] [1,2]<|Rq [Ac 4 2 0,Ab 5 4,Ac 6 1 0,Ab 7 6,Dp 8 5 7,Aa 3 8] [3]<|.ret) [.tmp 3]:= by decide +kernel
theorem c209 (m:NodeType) (c0:NodeType) (r:Bool) (h:types_node_1 m c0=some r):Sound prog 209 [eNodeType m,.pt (eNodeType c0).cells] (.sh (eB r)):= by
 refine Fn ck209 fun hw=>?_
 unfold types_node_1 at h
 refine E<|G<|X B B<|D B<|F km2 fun _=>?_
 refine E<|G<|O B<|K B<|O B<|K B<|m1 B B<|D B<|F km1 fun _=>?_
 exact L (by cases h;rfl)
theorem ck210:CK f210 (Rq [Af 2 0,⟨some 4,.nilx 4,none⟩] [1,2]<|Rq [⟨some 5,.nilx 4,none⟩] [1,2,5]<|Sq (Rq [Ac 7 2 0,Ab 8 7,Aa 9 1,Ak 10 8 9 4,Ai 11 10 1,Ab 12 11,Aa 6 12] [1,2,5,6]<|Rq [Aa 13 6,Bi 14 13 0] [1,2,5,6,14]<|Co 14 (Re [Ad 15 2 2,Aa 16 6,Eg 17 210 15 16,Bw 5 17] [1,2,5])<|Sk [1,2,5])<|Rq [Bw 18 5,Ac 19 2 0,Ab 20 19,Aa 21 1,Ak 22 20 21 4,Ai 23 22 3,Ab 24 23,Dq 25 4 18 24,Bw 4 25] [4]<|.ret) [.tmp 4]:= by decide +kernel
theorem c210S (n:Nat) (ih_210:∀ (t:Types) (a:Int) (r:(List Attr)) (_:types_attrsF n t a=some r),Sound prog 210 [eTypes t,eI a] (.xown 4 (List.map eAttr r))):∀ (t:Types) (a:Int) (r:(List Attr)) (_:types_attrsF (n+1) t a=some r),Sound prog 210 [eTypes t,eI a] (.xown 4 (List.map eAttr r)):= by
 intro t a r h
 refine Fn ck210 fun hw=>?_
 unfold types_attrsF at h
 refine E<|G<|X B B<|p1 B<|F km2 fun _=>?_
 refine E<|G<|p1 B<|F (kt<|kt<|kx<|kn) fun _=>?_
 refine E<|E<|G<|O B<|K B<|D B ?_
 obtain ⟨x10,hx10,h⟩:=J h
 refine a2 B B B hx10 B<|d5 B<|K B<|D B<|F (kt<|kt<|kx<|kt<|kn) fun _=>?_
 refine E<|G<|D B<|e1 B B<|F (kt<|kt<|kx<|kt<|kt<|kn) fun _=>?_
 obtain ⟨w1,hw1,h⟩:=J h
 refine g8 (fun ze=>ze=[(1,.tv (eI a)),(2,.tv (.pt (eTypes t).cells)),(5,.xo 4 (List.map eAttr w1))]) ?_ ?_
 ·replace h:=hw1
  clear hw1
  refine U B (fun hc14=>?_) (fun hc14=>?_)
  ·replace h:=R hc14 h
   refine G<|M B B (B:_=eTypes t)<|D B ?_
   obtain ⟨x17,hx17,h⟩:=J h
   refine q1 B B (ih_210 t x10.Parent _ hx17)<|g3 B B (by decide)<|F (kt<|kt<|kx<|kn) ?_
   cases h
   exact rfl
  ·replace h:=S hc14 h
   refine T (kt<|kt<|kx<|kn) ?_
   cases h
   exact rfl
 rintro _ rfl
 intro _
 refine E<|G<|g3 B B (by decide)<|O B<|K B<|D B ?_
 obtain ⟨x22,hx22,h⟩:=J h
 refine a2 B B B hx22 B<|d5 B<|K B ?_
 obtain ⟨x25,hx25,h⟩:=J h
 refine m7 B B B B hx25 B B (by decide)<|g3 B B (by decide)<|F (kx<|kn) fun _=>?_
 exact L (by cases h;rfl)
theorem c210A:∀ n:Nat,(∀ (t:Types) (a:Int) (r:(List Attr)) (_:types_attrsF n t a=some r),Sound prog 210 [eTypes t,eI a] (.xown 4 (List.map eAttr r))):=by
  intro n
  induction n with
  | zero=>intro t a r h; cases h
  | succ n ih=>exact c210S n ih
theorem c210 (t:Types) (a:Int) (r:(List Attr)) (h:types_attrs t a=some r):Sound prog 210 [eTypes t,eI a] (.xown 4 (List.map eAttr r)):=by
  obtain ⟨N,hN⟩:=lim_some h
  exact (c210A N) t a r (hN N (Nat.le_refl _))
theorem ck267:CK f267 (Rq [Ae 4 0] [0,1]<|Sq (Rq [Aa 6 0,Ag 7 6,Ae 8 0] [0,1,7,8]<|Bl 0<|Lo [0,1,7,8]<|Rq [Am 9 8 7] [0,1,7,8,9]<|Sq (Co 9 (Sk [0,1,7,8])<|Ex 0 [])<|Sq (Bl 1<|Rq [Aa 10 8,Aa 5 10] [0,1,5,7,8]<|Rq [Aa 11 1,Aa 12 0,Aa 13 5,Ak 14 12 13 4,Ad 15 14 4,Bx 16 11 15] [0,1,5,7,8,16]<|Co 16 (Rq [Aa 17 5,Aa 4 17] [4]<|.ret)<|Sk [0,1,7,8])<|Re [An 18 8 1,Aa 8 18] [0,1,7,8])<|Rq [Bm 4 (-1)] [4]<|.ret) [.tmp 4]:= by decide +kernel
theorem c267 (s_0:List Attr) (f:Attr->Option Bool) (f_f:FuncId) (k_f:List TV) (h_f:∀ (y0:Attr) r,f y0=some r->Sound prog f_f ([eAttr y0]++k_f) (.sh (eB r))) (r:Int) (h:slices_IndexFunc_Attr s_0 f=some r):Sound prog 267 [lA s_0,.clo f_f k_f] (.sh (eI r)):= by
 refine Fn ck267 fun hw=>?_
 unfold slices_IndexFunc_Attr at h
 refine E<|G<|D B<|F km2 fun _=>?_
 refine E<|E<|G<|D B<|W B B<|D B<|F km4 fun _=>?_
 obtain ⟨o0,ho0,h⟩:=d6 h
 refine d9 ho0 (fun (i0:Int) (_:Unit)=>[(0,.tv (lA s_0)),(1,.tv (.clo f_f k_f)),(7,.tv (eI (s_0.length:Int))),(8,.tv (eI i0))]) (fun (_:Unit)=>[]) (fun zv ze=>resIs ([.tmp 4]) (.sh (eI zv)) ze) B ?_ ?_ ?_ ?_
 ·clear h ho0
  intro i0 s0 r0 hi0 h hw0
  refine E<|G<|Y B B<|F km5 fun _=>?_
  refine E<|d1 B (d2 hi0)<|T km4 fun _=>?_
  refine E<|b3<|E<|G<|D B<|D B<|F km5 fun _=>?_
  refine E<|G<|D B<|D B<|D B ?_
  obtain ⟨x14,hx14,h⟩:=J h
  refine a2 B B B hx14 B<|M B B (B:_=eAttr x14) ?_
  obtain ⟨x16,hx16,h⟩:=J h
  refine g0 B B (h_f _ _ hx16)<|F km6 fun _=>?_
  refine U B (fun hc16=>?_) (fun hc16=>?_)
  ·replace h:=R hc16 h
   refine E<|G<|D B<|D B<|F km1 fun _=>?_
   refine L ?_
   cases h
   exact ⟨_,rfl,rfl⟩
  ·replace h:=S hc16 h
   refine T km4 fun _=>?_
   refine G<|a8 B B<|D B<|F km4 ?_
   cases h
   refine ⟨_,B,?_⟩
   rw [Ktv rfl (Ktv rfl (Ktv rfl (Ktv rfl (Knil _))))]
   rw [b7 (Z (hw0 8)) hi0 (b9 (Z (hw0 7)))]
   all_goals rfl
 ·intro i0 s0 hi0
  refine E<|G<|Y B B<|F km5 fun _=>?_
  refine E<|d0 B (d3 hi0)<|b8 kn ?_
  exact ⟨rfl,rfl⟩
 ·intro s0 hs
  replace h:=d7 h hs
  intro _
  refine E<|G<|D B<|F km1 fun _=>?_
  exact L (by cases h;rfl)
 ·intro v0 ze hv hR
  replace h:=d8 h hv
  cases h
  exact hR
theorem ck246:CK f246 (Rq [Ah 4] [0,1]<|Rq [Aa 5 0,Aa 6 1,Ap 7 267 5 6,Bi 8 7 0,Aa 4 8] [4]<|.ret) [.tmp 4]:= by decide +kernel
theorem c246 (s_0:List Attr) (f:Attr->Option Bool) (f_f:FuncId) (k_f:List TV) (h_f:∀ (y0:Attr) r,f y0=some r->Sound prog f_f ([eAttr y0]++k_f) (.sh (eB r))) (r:Bool) (h:slices_ContainsFunc_Attr s_0 f=some r):Sound prog 246 [lA s_0,.clo f_f k_f] (.sh (eB r)):= by
 refine Fn ck246 fun hw=>?_
 unfold slices_ContainsFunc_Attr at h
 refine E<|G<|D B<|F km2 fun _=>?_
 refine E<|G<|D B<|D B ?_
 obtain ⟨x7,hx7,h⟩:=J h
 refine V B (c267 s_0 f _ _ h_f _ hx7)<|e1 B B<|D B<|F km1 fun _=>?_
 exact L (by cases h;rfl)
theorem ck247:CK f247 (Rq [Af 2 0,Ah 3] [1,2]<|Rq [Ac 4 2 0,Ab 5 4,Ac 6 1 0,Ab 7 6,Dp 8 5 7,Aa 3 8] [3]<|.ret) [.tmp 3]:= by decide +kernel
theorem c247 (y:Attr) (c0:Attr) (r:Bool) (h:types_attribute_1 y c0=some r):Sound prog 247 [eAttr y,.pt (eAttr c0).cells] (.sh (eB r)):= by
 refine Fn ck247 fun hw=>?_
 unfold types_attribute_1 at h
 refine E<|G<|X B B<|D B<|F km2 fun _=>?_
 refine E<|G<|O B<|K B<|O B<|K B<|m1 B B<|D B<|F km1 fun _=>?_
 exact L (by cases h;rfl)
theorem ck248:CK f248 (Rq [Ae 2 0] [0]<|Sq (Rq [Aa 5 0,Ag 6 5,Bu 7 6 20] [0,7]<|Co 7 (Rq [Ae 2 3] [2]<|.ret)<|Sk [0])<|Sq (Rq [Aa 8 0,Ag 9 8,Ae 10 0] [0,8,9,10]<|Bl 0<|Lo [0,8,9,10]<|Rq [Am 11 10 9] [0,8,9,10,11]<|Sq (Co 11 (Sk [0,8,9,10])<|Ex 0 [])<|Sq (Bl 1<|Rq [Aa 12 10,Ak 13 8 10 1,Ab 14 13,Aa 3 12,Aa 4 14] [0,3,4,8,9,10]<|Bl 2<|Rq [Aa 16 4,Au 17 207 16,Bb 18 17,Aa 15 18] [0,3,4,8,9,10,15]<|Co 15 (Rq [Ae 2 2] [2]<|.ret)<|Rq [Aa 20 0,Aa 21 3,Ds 22 1 20 21,Aa 23 4,Ap 24 268 22 23,Aa 19 24] [0,8,9,10,19]<|Co 19 (Rq [Ae 2 5] [2]<|.ret)<|Sk [0,8,9,10])<|Re [An 25 10 1,Aa 10 25] [0,8,9,10])<|Rq [Ae 2 0] [2]<|.ret) [.tmp 2]:= by decide +kernel
theorem c248 (l:List ByteArray) (r:Int) (h:types_names l=some r):Sound prog 248 [lB l] (.sh (eI r)):= by
 refine Fn ck248 fun hw=>?_
 unfold types_names at h
 refine E<|G<|D B<|F km1 fun _=>?_
 refine E<|E<|G<|D B<|W B B<|f3 B B<|F km2 fun _=>?_
 refine U B (fun hc7=>?_) (fun hc7=>?_)
 ·replace h:=R hc7 h
  refine E<|G<|D B<|F km1 fun _=>?_
  exact L (by cases h;rfl)
 ·replace h:=S hc7 h
  refine T km1 fun _=>?_
  refine E<|E<|G<|D B<|W B B<|D B<|F km4 fun _=>?_
  obtain ⟨o0,ho0,h⟩:=d6 h
  refine d9 ho0 (fun (i0:Int) (_:Unit)=>[(0,.tv (lB l)),(8,.tv (lB l)),(9,.tv (eI (l.length:Int))),(10,.tv (eI i0))]) (fun (_:Unit)=>[]) (fun zv ze=>resIs ([.tmp 2]) (.sh (eI zv)) ze) B ?_ ?_ ?_ ?_
  ·clear h ho0
   intro i0 s0 r0 hi0 h hw0
   refine E<|G<|Y B B<|F km5 fun _=>?_
   refine E<|d1 B (d2 hi0)<|T km4 fun _=>?_
   refine E<|b3<|E<|G<|D B ?_
   obtain ⟨x13,hx13,h⟩:=J h
   refine a2 B B B hx13 B<|K B<|D B<|D B<|F km6 fun _=>?_
   refine b3<|E<|G<|D B ?_
   obtain ⟨x17,hx17,h⟩:=J h
   refine V B (c207 x13 _ hx17)<|d4 B<|D B<|F km7 fun _=>?_
   refine U B (fun hc15=>?_) (fun hc15=>?_)
   ·replace h:=R hc15 h
    refine E<|G<|D B<|F km1 fun _=>?_
    refine L ?_
    cases h
    exact ⟨_,rfl,rfl⟩
   ·replace h:=S hc15 h
    refine E<|G<|D B<|D B ?_
    obtain ⟨x22,hx22,h⟩:=J h
    refine m8 B B B B hx22<|D B ?_
    obtain ⟨x24,hx24,h⟩:=J h
    refine V B (c268 x22 x13 _ hx24)<|D B<|F km5 fun _=>?_
    refine U B (fun hc19=>?_) (fun hc19=>?_)
    ·replace h:=R hc19 h
     refine E<|G<|D B<|F km1 fun _=>?_
     refine L ?_
     cases h
     exact ⟨_,rfl,rfl⟩
    ·replace h:=S hc19 h
     refine T km4 fun _=>?_
     refine G<|a8 B B<|D B<|F km4 ?_
     cases h
     refine ⟨_,B,?_⟩
     rw [Ktv rfl (Ktv rfl (Ktv rfl (Ktv rfl (Knil _))))]
     rw [b7 (Z (hw0 10)) hi0 (b9 (Z (hw0 9)))]
     all_goals rfl
  ·intro i0 s0 hi0
   refine E<|G<|Y B B<|F km5 fun _=>?_
   refine E<|d0 B (d3 hi0)<|b8 kn ?_
   exact ⟨rfl,rfl⟩
  ·intro s0 hs
   replace h:=d7 h hs
   intro _
   refine E<|G<|D B<|F km1 fun _=>?_
   exact L (by cases h;rfl)
  ·intro v0 ze hv hR
   replace h:=d8 h hv
   cases h
   exact hR
theorem ck211:CK f211 (Rq [Af 2 0,Ae 4 0] [1,2]<|Sq (Bl 0<|Rq [Ac 8 2 0,Ab 9 8,Au 10 207 9,Bb 11 10,Aa 7 11] [1,2,7]<|Co 7 (Rq [Ae 4 2] [4]<|.ret)<|Rq [Aa 13 1,Ce 14 247 2,Ap 15 246 13 14,Aa 12 15] [2,12]<|Co 12 (Rq [Ae 4 5] [4]<|.ret)<|Sk [2])<|Sq (Rq [Ac 16 2 3,Ab 17 16,Au 18 248 17,Aa 5 18] [2,5]<|Rq [Aa 19 5,Ax 20 19 0] [2,5,20]<|Co 20 (Rq [Aa 21 5,Aa 4 21] [4]<|.ret)<|Sk [2])<|Rq [Ac 22 2 1,Ab 23 22,⟨some 24,.bin (.i) .leq (.c (.int .i64 (-1000000))) (.s 23),none⟩,Aa 25 24,Av 26 2 1 25,Aw 27 26 25,Av 28 2 2 25,Aw 29 28 25,Eh 30 27 29 25,Ao 31 25 30,Aa 32 31,Av 33 2 2 32,Aw 34 33 32,Cm 35 34 1000000 32,Ao 36 32 35,Aa 6 36] [2,6]<|Sq (Rq [Ac 37 2 3,Ab 38 37,Ag 39 38,Bu 40 39 0] [2,6,40]<|Co 40 (Re [Ac 41 2 1,Ab 42 41,Ar 43 42 0,Aa 44 43,Av 45 2 2 44,Aw 46 45 44,Av 47 2 3 44,Aw 48 47 44,Cf 49 48 44,Ei 50 49 1 44,Dg 51 46 50 44,Ao 52 44 51,Aa 6 52] [6])<|Sk [6])<|Sq (Rq [Aa 53 6,Bb 54 53] [54]<|Co 54 (Rq [Ae 4 6] [4]<|.ret)<|Sk [])<|Rq [Ae 4 0] [4]<|.ret) [.tmp 4]:= by decide +kernel
theorem c211 (x_0:Attr) (before:List Attr) (r:Int) (h:types_attribute x_0 before=some r):Sound prog 211 [eAttr x_0,lA before] (.sh (eI r)):= by
 refine Fn ck211 fun hw=>?_
 unfold types_attribute at h
 refine E<|G<|X B B<|D B<|F km2 fun _=>?_
 refine E<|b3<|E<|G<|O B<|K B ?_
 obtain ⟨x10,hx10,h⟩:=J h
 refine V B (c207 x_0.Name _ hx10)<|d4 B<|D B<|F km3 fun _=>?_
 refine U B (fun hc7=>?_) (fun hc7=>?_)
 ·replace h:=R hc7 h
  refine E<|G<|D B<|F km1 fun _=>?_
  exact L (by cases h;rfl)
 ·replace h:=S hc7 h
  refine E<|G<|D B<|g1 B ?_
  obtain ⟨x15,hx15,h⟩:=J h
  refine V B (c246 before (fun y0=>types_attribute_1 y0 x_0) _ _ (fun y0 r h=>c247 y0 x_0 r h) _ hx15)<|D B<|F km2 fun _=>?_
  refine U B (fun hc12=>?_) (fun hc12=>?_)
  ·replace h:=R hc12 h
   refine E<|G<|D B<|F km1 fun _=>?_
   exact L (by cases h;rfl)
  ·replace h:=S hc12 h
   refine T km1 fun _=>?_
   refine E<|E<|G<|O B<|K B ?_
   obtain ⟨x18,hx18,h⟩:=J h
   refine V B (c248 x_0.Names _ hx18)<|D B<|F km2 fun _=>?_
   refine E<|G<|D B<|a9 B B<|F km3 fun _=>?_
   refine U B (fun hc20=>?_) (fun hc20=>?_)
   ·replace h:=R hc20 h
    refine E<|G<|D B<|D B<|F km1 fun _=>?_
    exact L (by cases h;rfl)
   ·replace h:=S hc20 h
    refine T km1 fun _=>?_
    refine E<|G<|O B<|K B<|f7 B B<|D B ?_
    refine gA 6 [26,27,28,29,30] 31 (decide ((-1000000)<=x_0.Low)) (decide (x_0.Low<=x_0.High)) (fun hg31=>?_) (fun hg31=>?_) ?_
    ·refine H B hg31<|O B<|H B hg31<|K B<|H B hg31<|O B<|H B hg31<|K B<|H B hg31<|f7 B B<|a4 B hg31 B ?_
     exact ⟨⟨_,_,_,_,_,B⟩⟩
    ·refine I B hg31<|I B hg31<|I B hg31<|I B hg31<|I B hg31<|a5 B hg31 B ?_
     exact ⟨⟨_,_,_,_,_,B⟩⟩
    rintro _ ⟨_,_,_,_,_,rfl⟩
    refine D B ?_
    refine gA 4 [33,34,35] 36 ((decide ((-1000000)<=x_0.Low))&&(decide (x_0.Low<=x_0.High))) (decide (x_0.High<=1000000)) (fun hg36=>?_) (fun hg36=>?_) ?_
    ·refine H B hg36<|O B<|H B hg36<|K B<|H B hg36<|f7 B B<|a4 B hg36 B ?_
     exact ⟨⟨_,_,_,B⟩⟩
    ·refine I B hg36<|I B hg36<|I B hg36<|a5 B hg36 B ?_
     exact ⟨⟨_,_,_,B⟩⟩
    rintro _ ⟨_,_,_,rfl⟩
    refine D B<|F km2 fun _=>?_
    refine E<|E<|G<|O B<|K B<|W B B<|f3 B B<|F km3 fun _=>?_
    obtain ⟨w1,hw1,h⟩:=J h
    refine g8 (fun ze=>ze=[(6,.tv (eB w1))]) ?_ ?_
    ·replace h:=hw1
     clear hw1
     refine U B (fun hc40=>?_) (fun hc40=>?_)
     ·replace h:=R hc40 h
      refine G<|O B<|K B<|b2 B B<|D B ?_
      refine gA 8 [45,46,47,48,49,50,51] 52 (decide (x_0.Low=0)) (decide (x_0.High=(w64 ((x_0.Names.length:Int) - 1)))) (fun hg52=>?_) (fun hg52=>?_) ?_
      ·refine H B hg52<|O B<|H B hg52<|K B<|H B hg52<|O B<|H B hg52<|K B<|H B hg52<|W B B<|H B hg52<|g6 B B<|H B hg52<|b2 B B<|a4 B hg52 B ?_
       exact ⟨⟨_,_,_,_,_,_,_,B⟩⟩
      ·refine I B hg52<|I B hg52<|I B hg52<|I B hg52<|I B hg52<|I B hg52<|I B hg52<|a5 B hg52 B ?_
       exact ⟨⟨_,_,_,_,_,_,_,B⟩⟩
      rintro _ ⟨_,_,_,_,_,_,_,rfl⟩
      refine D B<|F km1 ?_
      cases h
      exact rfl
     ·replace h:=S hc40 h
      refine T km1 ?_
      cases h
      exact rfl
    rintro _ rfl
    intro _
    refine E<|E<|G<|D B<|d4 B<|F km1 fun _=>?_
    refine U B (fun hc54=>?_) (fun hc54=>?_)
    ·replace h:=R hc54 h
     refine E<|G<|D B<|F km1 fun _=>?_
     exact L (by cases h;rfl)
    ·replace h:=S hc54 h
     refine T kn fun _=>?_
     refine E<|G<|D B<|F km1 fun _=>?_
     exact L (by cases h;rfl)
theorem ck145:CK f145 (Rq [Af 2 0,Ae 4 0] [1,2]<|Rq [Ac 9 2 0,Ab 10 9,Aa 11 1,Ak 12 10 11 4,Ad 13 12 4,Ew 5 0 4,Aj 4 5 13,Dh 5] [1,2,5]<|Sq (Bl 0<|Rq [Ac 15 5 0,Ab 16 15,Au 17 207 16,Bb 18 17,Aa 14 18] [1,2,5,14]<|Co 14 (Rq [Ae 4 2] [4]<|.ret)<|Rq [Ac 20 2 0,Ab 21 20,Aa 22 1,Ds 23 4 21 22,Ce 24 209 5,Ap 25 208 23 24,Aa 19 25] [1,2,5,19]<|Co 19 (Rq [Ae 4 5] [4]<|.ret)<|Rq [Ac 27 5 1,Ab 28 27,⟨some 29,.bin (.i) .lss (.s 28) (.c (.int .i64 (-1))),none⟩,Aa 30 29,Aq 31 5 1 30,As 32 31 30,Bc 33 1 30,Ci 34 32 33 30,At 35 30 34,Aa 26 35] [1,2,5,26]<|Co 26 (Rq [Ae 4 6] [4]<|.ret)<|Rq [Ac 37 5 3,Ab 38 37,Ag 39 38,Bu 40 39 4,Aa 36 40] [1,2,5,36]<|Co 36 (Rq [Ae 4 3] [4]<|.ret)<|Sk [1,2,5])<|Rq [Ad 41 2 2,Aa 42 1,Ap 43 210 41 42,Ay 6 43] [5,6]<|Sq (Rq [Aa 44 6,Ag 45 44,Bu 46 45 8] [5,6,46]<|Co 46 (Rq [Ae 4 3] [4]<|.ret)<|Sk [5,6])<|Sq (Rq [Aa 47 6,Ag 48 47,Ac 49 5 3,Ab 50 49,Ag 51 50,Dt 52 48 51,Aa 7 52] [6,7]<|Bl 1<|Lo [6,7]<|Sq (Rq [Aa 53 7,Aa 54 6,Ag 55 54,Am 56 53 55] [6,7,56]<|Co 56 (Sk [6,7])<|Ex 1 [])<|Sq (Bl 2<|Sq (Dr [8,59,60,61,62,63,64,65,66] [Aa 59 6,Aa 60 7,Ak 61 59 60 4,Ad 62 61 4,Aa 63 6,Aa 64 7,Ds 65 4 63 64,Ap 66 211 62 65,Aa 8 66] [6,7,8])<|Rq [Aa 67 8,Ax 68 67 0] [6,7,8,68]<|Co 68 (Rq [Aa 69 8,Aa 4 69] [4]<|.ret)<|Sk [6,7])<|Re [Aa 57 7,An 58 57 1,Aa 7 58] [6,7])<|Rq [Ae 4 0] [4]<|.ret) [.tmp 4]:= by decide +kernel
theorem c145 (t:Types) (i_1:Int) (r:Int) (h:types_node t i_1=some r):Sound prog 145 [eTypes t,eI i_1] (.sh (eI r)):= by
 refine Fn ck145 fun hw=>?_
 unfold types_node at h
 refine E<|G<|X B B<|D B<|F km2 fun _=>?_
 refine E<|G<|O B<|K B<|D B ?_
 obtain ⟨x12,hx12,h⟩:=J h
 refine a2 B B B hx12 B<|M B B (B:_=eNodeType x12)<|b6 B<|a6 B B B B B<|l3 B B<|F km3 fun _=>?_
 refine E<|b3<|E<|G<|O B<|K B ?_
 obtain ⟨x17,hx17,h⟩:=J h
 refine V B (c207 x12.Name _ hx17)<|d4 B<|D B<|F km4 fun _=>?_
 refine U B (fun hc14=>?_) (fun hc14=>?_)
 ·replace h:=R hc14 h
  refine E<|G<|D B<|F km1 fun _=>?_
  exact L (by cases h;rfl)
 ·replace h:=S hc14 h
  refine E<|G<|O B<|K B<|D B ?_
  obtain ⟨x23,hx23,h⟩:=J h
  refine m8 B B B B hx23<|g1 B ?_
  obtain ⟨x25,hx25,h⟩:=J h
  refine V B (c208 x23 (fun y0=>types_node_1 y0 x12) _ _ (fun y0 r h=>c209 y0 x12 r h) _ hx25)<|D B<|F km4 fun _=>?_
  refine U B (fun hc19=>?_) (fun hc19=>?_)
  ·replace h:=R hc19 h
   refine E<|G<|D B<|F km1 fun _=>?_
   exact L (by cases h;rfl)
  ·replace h:=S hc19 h
   refine E<|G<|O B<|K B<|Y B B<|D B ?_
   refine gO 5 [31,32,33,34] 35 (decide (x12.Parent<(-1))) (decide (i_1<=x12.Parent)) (fun hg35=>?_) (fun hg35=>?_) ?_
   ·refine I B hg35<|I B hg35<|I B hg35<|I B hg35<|a4 B hg35 B ?_
    exact ⟨⟨_,_,_,_,B⟩⟩
   ·refine H B hg35<|O B<|H B hg35<|K B<|H B hg35<|D B<|H B hg35<|e1 B B<|a5 B hg35 B ?_
    exact ⟨⟨_,_,_,_,B⟩⟩
   rintro _ ⟨_,_,_,_,rfl⟩
   refine D B<|F km4 fun _=>?_
   refine U B (fun hc26=>?_) (fun hc26=>?_)
   ·replace h:=R hc26 h
    refine E<|G<|D B<|F km1 fun _=>?_
    exact L (by cases h;rfl)
   ·replace h:=S hc26 h
    refine E<|G<|O B<|K B<|W B B<|f3 B B<|D B<|F km4 fun _=>?_
    refine U B (fun hc36=>?_) (fun hc36=>?_)
    ·replace h:=R hc36 h
     refine E<|G<|D B<|F km1 fun _=>?_
     exact L (by cases h;rfl)
    ·replace h:=S hc36 h
     refine T km3 fun _=>?_
     refine E<|G<|M B B (B:_=eTypes t)<|D B ?_
     obtain ⟨x43,hx43,h⟩:=J h
     refine t1 B (c210 t i_1 _ hx43)<|e9 B<|F (kt<|ko<|kn) fun _=>?_
     refine E<|E<|G<|D B<|W B B<|f3 B B<|F (kt<|ko<|kt<|kn) fun _=>?_
     refine U B (fun hc46=>?_) (fun hc46=>?_)
     ·replace h:=R hc46 h
      refine E<|G<|D B<|F km1 fun _=>?_
      exact L (by cases h;rfl)
     ·replace h:=S hc46 h
      refine T (kt<|ko<|kn) fun _=>?_
      refine E<|E<|G<|D B<|W B B<|O B<|K B<|W B B<|g6 B B<|D B<|F (ko<|kt<|kn) fun _=>?_
      obtain ⟨o1,ho1,h⟩:=d6 h
      refine d9 ho1 (fun (i1:Int) (_:Unit)=>[(6,.ow (lA x43)),(7,.tv (eI i1))]) (fun (_:Unit)=>[]) (fun zv ze=>resIs ([.tmp 4]) (.sh (eI zv)) ze) B ?_ ?_ ?_ ?_
      ·clear h ho1
       intro i1 s1 r1 hi1 h hw1
       refine E<|E<|G<|D B<|D B<|W B B<|Y B B<|F (ko<|kt<|kt<|kn) fun _=>?_
       refine d1 B (d2 hi1)<|T (ko<|kt<|kn) fun _=>?_
       refine E<|b3<|E<|e0 B<|D B<|D B ?_
       obtain ⟨x61,hx61,h⟩:=J h
       refine a2 B B B hx61 B<|M B B (B:_=eAttr x61)<|D B<|D B ?_
       obtain ⟨x65,hx65,h⟩:=J h
       refine m8 B B B B hx65 ?_
       obtain ⟨x66,hx66,h⟩:=J h
       refine V B (c211 x61 x65 _ hx66)<|D B<|F (ko<|kt<|kt<|kn) fun _=>?_
       refine E<|G<|D B<|a9 B B<|F (ko<|kt<|kt<|kt<|kn) fun _=>?_
       refine U B (fun hc68=>?_) (fun hc68=>?_)
       ·replace h:=R hc68 h
        refine E<|G<|D B<|D B<|F km1 fun _=>?_
        refine L ?_
        cases h
        exact ⟨_,rfl,rfl⟩
       ·replace h:=S hc68 h
        refine T (ko<|kt<|kn) fun _=>?_
        refine G<|D B<|a8 B B<|D B<|F (ko<|kt<|kn) ?_
        cases h
        refine ⟨_,B,?_⟩
        rw [Kow rfl (Ktv rfl (Knil _))]
        rw [b7 (Z (hw1 7)) hi1 (g4 (m9 (hw1 6)) rfl)]
        all_goals rfl
      ·intro i1 s1 hi1
       refine E<|E<|G<|D B<|D B<|W B B<|Y B B<|F (ko<|kt<|kt<|kn) fun _=>?_
       refine d0 B (d3 hi1)<|b8 kn ?_
       exact ⟨rfl,rfl⟩
      ·intro s1 hs
       replace h:=d7 h hs
       intro _
       refine E<|G<|D B<|F km1 fun _=>?_
       exact L (by cases h;rfl)
      ·intro v1 ze hv hR
       replace h:=d8 h hv
       cases h
       exact hR
theorem ck212:CK f212 (Rq [Ah 3] [0,1]<|Rq [Aa 4 0,Bi 5 4 0,Aa 6 5,Az 7 0 6,Av 8 1 0 6,Aw 9 8 6,Cf 10 9 6,Ej 11 7 10 6,Ao 12 6 11,Aa 3 12] [3]<|.ret) [.tmp 3]:= by decide +kernel
theorem c212 (n:Int) (c0:Types) (r:Bool) (h:types_edge_1 n c0=some r):Sound prog 212 [eI n,.pt (eTypes c0).cells] (.sh (eB r)):= by
 refine Fn ck212 fun hw=>?_
 unfold types_edge_1 at h
 refine E<|G<|D B<|F km2 fun _=>?_
 refine E<|G<|D B<|e1 B B<|D B ?_
 refine gA 6 [7,8,9,10,11] 12 (decide (0<=n)) (decide (n<(c0.Nodes.length:Int))) (fun hg12=>?_) (fun hg12=>?_) ?_
 ·refine H B hg12<|D B<|H B hg12<|O B<|H B hg12<|K B<|H B hg12<|W B B<|H B hg12<|Y B B<|a4 B hg12 B ?_
  exact ⟨⟨_,_,_,_,_,B⟩⟩
 ·refine I B hg12<|I B hg12<|I B hg12<|I B hg12<|I B hg12<|a5 B hg12 B ?_
  exact ⟨⟨_,_,_,_,_,B⟩⟩
 rintro _ ⟨_,_,_,_,_,rfl⟩
 refine D B<|F km1 fun _=>?_
 exact L (by cases h;rfl)
theorem ck249:CK f249 (Rq [Ae 4 0] [0,1]<|Sq (Rq [Aa 6 0,Ag 7 6,Ae 8 0] [0,1,7,8]<|Bl 0<|Lo [0,1,7,8]<|Rq [Am 9 8 7] [0,1,7,8,9]<|Sq (Co 9 (Sk [0,1,7,8])<|Ex 0 [])<|Sq (Bl 1<|Rq [Aa 10 8,Aa 5 10] [0,1,5,7,8]<|Rq [Aa 11 1,Aa 12 0,Aa 13 5,Ak 14 12 13 7,Ad 15 14 7,Bx 16 11 15] [0,1,5,7,8,16]<|Co 16 (Rq [Aa 17 5,Aa 4 17] [4]<|.ret)<|Sk [0,1,7,8])<|Re [An 18 8 1,Aa 8 18] [0,1,7,8])<|Rq [Bm 4 (-1)] [4]<|.ret) [.tmp 4]:= by decide +kernel
theorem c249 (s_0:List EdgeType) (f:EdgeType->Option Bool) (f_f:FuncId) (k_f:List TV) (h_f:∀ (y0:EdgeType) r,f y0=some r->Sound prog f_f ([eEdgeType y0]++k_f) (.sh (eB r))) (r:Int) (h:slices_IndexFunc_EdgeType s_0 f=some r):Sound prog 249 [lX s_0,.clo f_f k_f] (.sh (eI r)):= by
 refine Fn ck249 fun hw=>?_
 unfold slices_IndexFunc_EdgeType at h
 refine E<|G<|D B<|F km2 fun _=>?_
 refine E<|E<|G<|D B<|W B B<|D B<|F km4 fun _=>?_
 obtain ⟨o0,ho0,h⟩:=d6 h
 refine d9 ho0 (fun (i0:Int) (_:Unit)=>[(0,.tv (lX s_0)),(1,.tv (.clo f_f k_f)),(7,.tv (eI (s_0.length:Int))),(8,.tv (eI i0))]) (fun (_:Unit)=>[]) (fun zv ze=>resIs ([.tmp 4]) (.sh (eI zv)) ze) B ?_ ?_ ?_ ?_
 ·clear h ho0
  intro i0 s0 r0 hi0 h hw0
  refine E<|G<|Y B B<|F km5 fun _=>?_
  refine E<|d1 B (d2 hi0)<|T km4 fun _=>?_
  refine E<|b3<|E<|G<|D B<|D B<|F km5 fun _=>?_
  refine E<|G<|D B<|D B<|D B ?_
  obtain ⟨x14,hx14,h⟩:=J h
  refine a2 B B B hx14 B<|M B B (B:_=eEdgeType x14) ?_
  obtain ⟨x16,hx16,h⟩:=J h
  refine g0 B B (h_f _ _ hx16)<|F km6 fun _=>?_
  refine U B (fun hc16=>?_) (fun hc16=>?_)
  ·replace h:=R hc16 h
   refine E<|G<|D B<|D B<|F km1 fun _=>?_
   refine L ?_
   cases h
   exact ⟨_,rfl,rfl⟩
  ·replace h:=S hc16 h
   refine T km4 fun _=>?_
   refine G<|a8 B B<|D B<|F km4 ?_
   cases h
   refine ⟨_,B,?_⟩
   rw [Ktv rfl (Ktv rfl (Ktv rfl (Ktv rfl (Knil _))))]
   rw [b7 (Z (hw0 8)) hi0 (b9 (Z (hw0 7)))]
   all_goals rfl
 ·intro i0 s0 hi0
  refine E<|G<|Y B B<|F km5 fun _=>?_
  refine E<|d0 B (d3 hi0)<|b8 kn ?_
  exact ⟨rfl,rfl⟩
 ·intro s0 hs
  replace h:=d7 h hs
  intro _
  refine E<|G<|D B<|F km1 fun _=>?_
  exact L (by cases h;rfl)
 ·intro v0 ze hv hR
  replace h:=d8 h hv
  cases h
  exact hR
theorem ck213:CK f213 (Rq [Ah 4] [0,1]<|Rq [Aa 5 0,Aa 6 1,Ap 7 249 5 6,Bi 8 7 0,Aa 4 8] [4]<|.ret) [.tmp 4]:= by decide +kernel
theorem c213 (s_0:List EdgeType) (f:EdgeType->Option Bool) (f_f:FuncId) (k_f:List TV) (h_f:∀ (y0:EdgeType) r,f y0=some r->Sound prog f_f ([eEdgeType y0]++k_f) (.sh (eB r))) (r:Bool) (h:slices_ContainsFunc_EdgeType s_0 f=some r):Sound prog 213 [lX s_0,.clo f_f k_f] (.sh (eB r)):= by
 refine Fn ck213 fun hw=>?_
 unfold slices_ContainsFunc_EdgeType at h
 refine E<|G<|D B<|F km2 fun _=>?_
 refine E<|G<|D B<|D B ?_
 obtain ⟨x7,hx7,h⟩:=J h
 refine V B (c249 s_0 f _ _ h_f _ hx7)<|e1 B B<|D B<|F km1 fun _=>?_
 exact L (by cases h;rfl)
theorem ck214:CK f214 (Rq [Af 2 0,Ah 3] [1,2]<|Rq [Ac 4 2 0,Ab 5 4,Ac 6 1 0,Ab 7 6,Dp 8 5 7,Aa 3 8] [3]<|.ret) [.tmp 3]:= by decide +kernel
theorem c214 (y:EdgeType) (c0:EdgeType) (r:Bool) (h:types_edge_2 y c0=some r):Sound prog 214 [eEdgeType y,.pt (eEdgeType c0).cells] (.sh (eB r)):= by
 refine Fn ck214 fun hw=>?_
 unfold types_edge_2 at h
 refine E<|G<|X B B<|D B<|F km2 fun _=>?_
 refine E<|G<|O B<|K B<|O B<|K B<|m1 B B<|D B<|F km1 fun _=>?_
 exact L (by cases h;rfl)
theorem ck215:CK f215 (Rq [Ah 4] [0,1]<|Rq [Aa 5 0,Bi 6 5 0,Aa 7 6,Az 8 0 7,Cm 9 8 40 7,Ao 10 7 9,Aa 11 10,Az 12 1 11,⟨some 13,.bin (.i) .eql (.s 12) (.c (.int .i64 (-1))),some (11,true)⟩,Az 14 13 11,Bc 15 1 14,Bc 16 0 14,Ci 17 15 16 14,Bc 18 17 14,Az 19 1 18,Cm 20 19 40 18,De 21 18 20 14,Ey 22 14 21 11,Ao 23 11 22,Aa 4 23] [4]<|.ret) [.tmp 4]:= by decide +kernel
theorem c215 (low:Int) (high:Int) (r:Bool) (h:types_bounded low high=some r):Sound prog 215 [eI low,eI high] (.sh (eB r)):= by
 refine Fn ck215 fun hw=>?_
 unfold types_bounded at h
 refine E<|G<|D B<|F km2 fun _=>?_
 refine E<|G<|D B<|e1 B B<|D B ?_
 refine gA 3 [8,9] 10 (decide (0<=low)) (decide (low<=40)) (fun hg10=>?_) (fun hg10=>?_) ?_
 ·refine H B hg10<|D B<|H B hg10<|f7 B B<|a4 B hg10 B ?_
  exact ⟨⟨_,_,B⟩⟩
 ·refine I B hg10<|I B hg10<|a5 B hg10 B ?_
  exact ⟨⟨_,_,B⟩⟩
 rintro _ ⟨_,_,rfl⟩
 refine D B ?_
 refine gA 12 [12,13,14,15,16,17,18,19,20,21,22] 23 ((decide (0<=low))&&(decide (low<=40))) ((decide (high=(-1)))||((decide (low<=high))&&(decide (high<=40)))) (fun hg23=>?_) (fun hg23=>?_) ?_
 ·refine H B hg23<|D B<|H B hg23<|b2 B B<|H B hg23<|D B ?_
  refine gO 8 [15,16,17,18,19,20,21] 22 (decide (high=(-1))) ((decide (low<=high))&&(decide (high<=40))) (fun hg22=>?_) (fun hg22=>?_) ?_
  ·refine I B hg22<|I B hg22<|I B hg22<|I B hg22<|f2 B<|f2 B<|I B hg22<|H B hg23<|a4 B hg22 B ?_
   exact ⟨⟨_,_,_,_,_,_,_,B⟩⟩
  ·refine H B hg22<|D B<|H B hg22<|D B<|H B hg22<|e1 B B<|H B hg22<|D B ?_
   refine gA 3 [19,20] 21 (decide (low<=high)) (decide (high<=40)) (fun hg21=>?_) (fun hg21=>?_) ?_
   ·refine H B hg21<|D B<|H B hg21<|f7 B B<|H B hg22<|a4 B hg21 B ?_
    exact ⟨⟨_,_,B⟩⟩
   ·refine I B hg21<|I B hg21<|H B hg22<|a5 B hg21 B ?_
    exact ⟨⟨_,_,B⟩⟩
   rintro _ ⟨_,_,rfl⟩
   refine H B hg23<|a5 B hg22 B ?_
   exact ⟨⟨_,_,_,_,_,_,_,B⟩⟩
  rintro _ ⟨_,_,_,_,_,_,_,rfl⟩
  refine a4 B hg23 B ?_
  exact ⟨⟨_,_,_,_,_,_,_,_,_,_,_,B⟩⟩
 ·refine I B hg23<|I B hg23<|I B hg23<|f2 B<|f2 B<|f2 B<|f2 B<|f2 B<|f2 B<|f2 B<|I B hg23<|a5 B hg23 B ?_
  exact ⟨⟨_,_,_,_,_,_,_,_,_,_,_,B⟩⟩
 rintro _ ⟨_,_,_,_,_,_,_,_,_,_,_,rfl⟩
 refine D B<|F km1 fun _=>?_
 exact L (by cases h;rfl)
theorem ck146:CK f146 (Rq [Af 2 0,Ae 4 0] [1,2]<|Rq [Ac 7 2 1,Ab 8 7,Aa 9 1,Ak 10 8 9 7,Ad 11 10 7,Ez 5 0 0 0 0 0 0,Aj 7 5 11,Dh 5] [1,2,5]<|Rq [Ce 12 212 2,Aa 6 12] [1,2,5,6]<|Sq (Bl 0<|Rq [Ac 14 5 0,Ab 15 14,Au 16 207 15,Bb 17 16,Aa 13 17] [1,2,5,6,13]<|Co 13 (Rq [Ae 4 2] [4]<|.ret)<|Rq [Ac 19 2 1,Ab 20 19,Aa 21 1,Ds 22 7 20 21,Ce 23 214 5,Ap 24 213 22 23,Aa 18 24] [5,6,18]<|Co 18 (Rq [Ae 4 5] [4]<|.ret)<|Sq (Rq [Aa 26 6,Ac 27 5 1,Ab 28 27,Bx 29 26 28,Bb 30 29,Aa 31 30,Bc 32 6 31,Aq 33 5 2 31,As 34 33 31,⟨some 35,.callv (.s 32) [.s 34],some (31,false)⟩,Bn 36 35 31,At 37 31 36,Aa 25 37] [5,25]<|Co 25 (Sk [25])<|Re [Ac 38 5 3,Ab 39 38,Ac 40 5 4,Ab 41 40,Ap 42 215 39 41,Bb 43 42,Aa 44 43,Aq 45 5 5 44,As 46 45 44,Aq 47 5 6 44,As 48 47 44,Bv 49 215 46 48 44,Bn 50 49 44,At 51 44 50,Aa 25 51] [25])<|Co 25 (Rq [Ae 4 6] [4]<|.ret)<|Sk [])<|Rq [Ae 4 0] [4]<|.ret) [.tmp 4]:= by decide +kernel
theorem c146 (t:Types) (i_1:Int) (r:Int) (h:types_edge t i_1=some r):Sound prog 146 [eTypes t,eI i_1] (.sh (eI r)):= by
 refine Fn ck146 fun hw=>?_
 unfold types_edge at h
 refine E<|G<|X B B<|D B<|F km2 fun _=>?_
 refine E<|G<|O B<|K B<|D B ?_
 obtain ⟨x10,hx10,h⟩:=J h
 refine a2 B B B hx10 B<|M B B (B:_=eEdgeType x10)<|b6 B<|a6 B B B B B<|l3 B B<|F km3 fun _=>?_
 refine E<|G<|g1 B<|D B<|F km4 fun _=>?_
 refine E<|b3<|E<|G<|O B<|K B ?_
 obtain ⟨x16,hx16,h⟩:=J h
 refine V B (c207 x10.Name _ hx16)<|d4 B<|D B<|F km5 fun _=>?_
 refine U B (fun hc13=>?_) (fun hc13=>?_)
 ·replace h:=R hc13 h
  refine E<|G<|D B<|F km1 fun _=>?_
  exact L (by cases h;rfl)
 ·replace h:=S hc13 h
  refine E<|G<|O B<|K B<|D B ?_
  obtain ⟨x22,hx22,h⟩:=J h
  refine m8 B B B B hx22<|g1 B ?_
  obtain ⟨x24,hx24,h⟩:=J h
  refine V B (c213 x22 (fun y0=>types_edge_2 y0 x10) _ _ (fun y0 r h=>c214 y0 x10 r h) _ hx24)<|D B<|F km3 fun _=>?_
  refine U B (fun hc18=>?_) (fun hc18=>?_)
  ·replace h:=R hc18 h
   refine E<|G<|D B<|F km1 fun _=>?_
   exact L (by cases h;rfl)
  ·replace h:=S hc18 h
   refine E<|E<|G<|D B<|O B<|K B ?_
   obtain ⟨x29,hx29,h⟩:=J h
   refine g0 B B (c212 x10.From t _ hx29)<|d4 B<|D B ?_
   obtain ⟨x37,hx37,h⟩:=J h
   refine gX 6 [32,33,34,35,36] 37 x37 (!x29) (fun hg37=>?_) (fun hg37=>?_) ?_
   ·replace h:=R hg37 hx37
    cases h
    refine I B hg37<|I B hg37<|I B hg37<|I B hg37<|I B hg37<|a4 B hg37 B ?_
    exact ⟨⟨_,_,_,_,_,B⟩⟩
   ·replace h:=S hg37 hx37
    refine H B hg37<|D B<|H B hg37<|O B<|H B hg37<|K B ?_
    obtain ⟨x35,hx35,h⟩:=J h
    refine H B hg37<|g0 B B (c212 x10.To t _ hx35)<|H B hg37<|d4 B ?_
    cases h
    refine a5 B hg37 B ?_
    exact ⟨⟨_,_,_,_,_,B⟩⟩
   rintro _ ⟨_,_,_,_,_,rfl⟩
   refine D B<|F km2 fun _=>?_
   obtain ⟨w1,hw1,h⟩:=J h
   refine g8 (fun ze=>ze=[(25,.tv (eB w1))]) ?_ ?_
   ·replace h:=hw1
    clear hw1
    refine U B (fun hc25=>?_) (fun hc25=>?_)
    ·replace h:=R hc25 h
     refine T km1 ?_
     cases h
     exact rfl
    ·replace h:=S hc25 h
     refine G<|O B<|K B<|O B<|K B ?_
     obtain ⟨x42,hx42,h⟩:=J h
     refine V B (c215 x10.OutLow x10.OutHigh _ hx42)<|d4 B<|D B ?_
     obtain ⟨x51,hx51,h⟩:=J h
     refine gX 7 [45,46,47,48,49,50] 51 x51 (!x42) (fun hg51=>?_) (fun hg51=>?_) ?_
     ·replace h:=R hg51 hx51
      cases h
      refine I B hg51<|I B hg51<|I B hg51<|I B hg51<|I B hg51<|I B hg51<|a4 B hg51 B ?_
      exact ⟨⟨_,_,_,_,_,_,B⟩⟩
     ·replace h:=S hg51 hx51
      refine H B hg51<|O B<|H B hg51<|K B<|H B hg51<|O B<|H B hg51<|K B ?_
      obtain ⟨x49,hx49,h⟩:=J h
      refine H B hg51<|V B (c215 x10.InLow x10.InHigh _ hx49)<|H B hg51<|d4 B ?_
      cases h
      refine a5 B hg51 B ?_
      exact ⟨⟨_,_,_,_,_,_,B⟩⟩
     rintro _ ⟨_,_,_,_,_,_,rfl⟩
     refine D B<|F km1 ?_
     cases h
     exact rfl
   rintro _ rfl
   intro _
   refine U B (fun hc25=>?_) (fun hc25=>?_)
   ·replace h:=R hc25 h
    refine E<|G<|D B<|F km1 fun _=>?_
    exact L (by cases h;rfl)
   ·replace h:=S hc25 h
    refine T kn fun _=>?_
    refine E<|G<|D B<|F km1 fun _=>?_
    exact L (by cases h;rfl)
theorem ck79:CK f79 (Rq [Af 1 0,Cv 2,Ae 3 0] [1]<|Sq (Bl 0<|Rq [Ac 11 1 0,Ab 12 11,Ag 13 12,Ar 14 13 0,Aa 10 14] [1,10]<|Co 10 (Rq [Cv 2,Ae 3 7] [2,3]<|.ret)<|Rq [Ac 16 1 0,Ab 17 16,Ag 18 17,Bu 19 18 12,Aa 20 19,Aq 21 1 1 20,As 22 21 20,Bj 23 22 20,Cw 24 23 20 20,At 25 20 24,Aa 15 25] [1,15]<|Co 15 (Rq [Cv 2,Ae 3 3] [2,3]<|.ret)<|Sk [1])<|Sq (Rq [Ac 26 1 0,Ab 27 26,Ag 28 27,Ae 29 0] [1,27,28,29]<|Bl 1<|Lo [1,27,28,29]<|Rq [Am 30 29 28] [1,27,28,29,30]<|Sq (Co 30 (Sk [1,27,28,29])<|Ex 1 [1])<|Sq (Bl 2<|Rq [Aa 31 29,Ak 32 27 29 4,Ad 33 32 4,Ew 5 0 4,Aa 4 31,Aj 4 5 33] [1,4,5,27,28,29]<|Rq [Ad 34 1 2,Aa 35 4,Ap 36 145 34 35,Aa 6 36] [1,5,6,27,28,29]<|Rq [Aa 37 6,Ax 38 37 0] [1,5,6,27,28,29,38]<|Co 38 (Rq [Ac 39 5 0,Ab 40 39,Aa 41 6,Aa 2 40,Aa 3 41] [2,3]<|.ret)<|Sk [1,27,28,29])<|Re [An 42 29 1,Aa 29 42] [1,27,28,29])<|Sq (Rq [Ac 43 1 1,Ab 44 43,Ag 45 44,Ae 46 0] [1,44,45,46]<|Bl 3<|Lo [1,44,45,46]<|Rq [Am 47 46 45] [1,44,45,46,47]<|Sq (Co 47 (Sk [1,44,45,46])<|Ex 3 [])<|Sq (Bl 4<|Rq [Aa 48 46,Ak 49 44 46 7,Ad 50 49 7,Ez 8 0 0 0 0 0 0,Aa 7 48,Aj 7 8 50] [1,7,8,44,45,46]<|Rq [Ad 51 1 2,Aa 52 7,Ap 53 146 51 52,Aa 9 53] [1,8,9,44,45,46]<|Rq [Aa 54 9,Ax 55 54 0] [1,8,9,44,45,46,55]<|Co 55 (Rq [Ac 56 8 0,Ab 57 56,Aa 58 9,Aa 2 57,Aa 3 58] [2,3]<|.ret)<|Sk [1,44,45,46])<|Re [An 59 46 1,Aa 46 59] [1,44,45,46])<|Rq [Cv 2,Ae 3 0] [2,3]<|.ret) [.tmp 2,.tmp 3]:= by decide +kernel
theorem c79 (t:Types) (r:(ByteArray × Int)) (h:types_Valid t=some r):Sound prog 79 [eTypes t] (.tp [eS r.1,eI r.2]):= by
 refine Fn ck79 fun hw=>?_
 unfold types_Valid at h
 refine E<|G<|X B B<|D B<|D B<|F km1 fun _=>?_
 refine E<|b3<|E<|G<|O B<|K B<|W B B<|b2 B B<|D B<|F km2 fun _=>?_
 refine U B (fun hc10=>?_) (fun hc10=>?_)
 ·replace h:=R hc10 h
  refine E<|G<|D B<|D B<|F km2 fun _=>?_
  refine L ?_
  cases h
  exact ⟨by decide,rfl⟩
 ·replace h:=S hc10 h
  refine E<|G<|O B<|K B<|W B B<|f3 B B<|D B ?_
  refine gO 5 [21,22,23,24] 25 (decide (12<(t.Nodes.length:Int))) (decide (20<(t.Edges.length:Int))) (fun hg25=>?_) (fun hg25=>?_) ?_
  ·refine I B hg25<|I B hg25<|I B hg25<|I B hg25<|a4 B hg25 B ?_
   exact ⟨⟨_,_,_,_,B⟩⟩
  ·refine H B hg25<|O B<|H B hg25<|K B<|H B hg25<|W B B<|H B hg25<|f3 B B<|a5 B hg25 B ?_
   exact ⟨⟨_,_,_,_,B⟩⟩
  rintro _ ⟨_,_,_,_,rfl⟩
  refine D B<|F km2 fun _=>?_
  refine U B (fun hc15=>?_) (fun hc15=>?_)
  ·replace h:=R hc15 h
   refine E<|G<|D B<|D B<|F km2 fun _=>?_
   refine L ?_
   cases h
   exact ⟨by decide,rfl⟩
  ·replace h:=S hc15 h
   refine T km1 fun _=>?_
   refine E<|E<|G<|O B<|K B<|W B B<|D B<|F km4 fun _=>?_
   obtain ⟨o1,ho1,h⟩:=d6 h
   refine d9 ho1 (fun (i1:Int) (_:Unit)=>[(1,.tv (.pt (eTypes t).cells)),(27,.tv (lN t.Nodes)),(28,.tv (eI (t.Nodes.length:Int))),(29,.tv (eI i1))]) (fun (_:Unit)=>[(1,.tv (.pt (eTypes t).cells))]) (fun zv ze=>resIs ([.tmp 2,.tmp 3]) (.tp [eS zv.1,eI zv.2]) ze) B ?_ ?_ ?_ ?_
   ·clear h ho1
    intro i1 s1 r1 hi1 h hw1
    refine E<|G<|Y B B<|F km5 fun _=>?_
    refine E<|d1 B (d2 hi1)<|T km4 fun _=>?_
    refine E<|b3<|E<|G<|D B ?_
    obtain ⟨x32,hx32,h⟩:=J h
    refine a2 B B B hx32 B<|M B B (B:_=eNodeType x32)<|b6 B<|D B<|a6 B B B B B<|F (kt<|kt<|kb<|kt<|kt<|kt<|kn) fun _=>?_
    refine E<|G<|M B B (B:_=eTypes t)<|D B ?_
    obtain ⟨x36,hx36,h⟩:=J h
    refine V B (c145 t i1 _ hx36)<|D B<|F (kt<|kb<|kt<|kt<|kt<|kt<|kn) fun _=>?_
    refine E<|G<|D B<|a9 B B<|F (kt<|kb<|kt<|kt<|kt<|kt<|kt<|kn) fun _=>?_
    refine U B (fun hc38=>?_) (fun hc38=>?_)
    ·replace h:=R hc38 h
     refine E<|G<|a7 B<|K B<|D B<|D B<|D B<|F km2 fun _=>?_
     refine L ?_
     cases h
     exact ⟨_,rfl,⟨by decide,rfl⟩⟩
    ·replace h:=S hc38 h
     refine T km4 fun _=>?_
     refine G<|a8 B B<|D B<|F km4 ?_
     cases h
     refine ⟨_,B,?_⟩
     rw [Ktv rfl (Ktv rfl (Ktv rfl (Ktv rfl (Knil _))))]
     rw [b7 (Z (hw1 29)) hi1 (b9 (Z (hw1 28)))]
     all_goals rfl
   ·intro i1 s1 hi1
    refine E<|G<|Y B B<|F km5 fun _=>?_
    refine E<|d0 B (d3 hi1)<|b8 km1 ?_
    exact ⟨rfl,rfl⟩
   ·intro s1 hs
    replace h:=d7 h hs
    intro _
    refine E<|E<|G<|O B<|K B<|W B B<|D B<|F km4 fun _=>?_
    obtain ⟨o3,ho3,h⟩:=d6 h
    refine d9 ho3 (fun (i3:Int) (_:Unit)=>[(1,.tv (.pt (eTypes t).cells)),(44,.tv (lX t.Edges)),(45,.tv (eI (t.Edges.length:Int))),(46,.tv (eI i3))]) (fun (_:Unit)=>[]) (fun zv ze=>resIs ([.tmp 2,.tmp 3]) (.tp [eS zv.1,eI zv.2]) ze) B ?_ ?_ ?_ ?_
    ·clear h ho3
     intro i3 s3 r3 hi3 h hw3
     refine E<|G<|Y B B<|F km5 fun _=>?_
     refine E<|d1 B (d2 hi3)<|T km4 fun _=>?_
     refine E<|b3<|E<|G<|D B ?_
     obtain ⟨x49,hx49,h⟩:=J h
     refine a2 B B B hx49 B<|M B B (B:_=eEdgeType x49)<|b6 B<|D B<|a6 B B B B B<|F (kt<|kt<|kb<|kt<|kt<|kt<|kn) fun _=>?_
     refine E<|G<|M B B (B:_=eTypes t)<|D B ?_
     obtain ⟨x53,hx53,h⟩:=J h
     refine V B (c146 t i3 _ hx53)<|D B<|F (kt<|kb<|kt<|kt<|kt<|kt<|kn) fun _=>?_
     refine E<|G<|D B<|a9 B B<|F (kt<|kb<|kt<|kt<|kt<|kt<|kt<|kn) fun _=>?_
     refine U B (fun hc55=>?_) (fun hc55=>?_)
     ·replace h:=R hc55 h
      refine E<|G<|a7 B<|K B<|D B<|D B<|D B<|F km2 fun _=>?_
      refine L ?_
      cases h
      exact ⟨_,rfl,⟨by decide,rfl⟩⟩
     ·replace h:=S hc55 h
      refine T km4 fun _=>?_
      refine G<|a8 B B<|D B<|F km4 ?_
      cases h
      refine ⟨_,B,?_⟩
      rw [Ktv rfl (Ktv rfl (Ktv rfl (Ktv rfl (Knil _))))]
      rw [b7 (Z (hw3 46)) hi3 (b9 (Z (hw3 45)))]
      all_goals rfl
    ·intro i3 s3 hi3
     refine E<|G<|Y B B<|F km5 fun _=>?_
     refine E<|d0 B (d3 hi3)<|b8 kn ?_
     exact ⟨rfl,rfl⟩
    ·intro s3 hs
     replace h:=d7 h hs
     intro _
     refine E<|G<|D B<|D B<|F km2 fun _=>?_
     refine L ?_
     cases h
     exact ⟨by decide,rfl⟩
    ·intro v3 ze hv hR
     replace h:=d8 h hv
     cases h
     exact hR
   ·intro v1 ze hv hR
    replace h:=d8 h hv
    cases h
    exact hR
theorem ck151:CK f151 (Rq [Ae 4 0] [0,1]<|Sq (Rq [Aa 6 0,Ag 7 6,Ae 8 0] [0,1,7,8]<|Bl 0<|Lo [0,1,7,8]<|Rq [Am 9 8 7] [0,1,7,8,9]<|Sq (Co 9 (Sk [0,1,7,8])<|Ex 0 [])<|Sq (Bl 1<|Rq [Aa 10 8,Aa 5 10] [0,1,5,7,8]<|Rq [Aa 11 1,Aa 12 0,Aa 13 5,Ak 14 12 13 1,Ab 15 14,Bx 16 11 15] [0,1,5,7,8,16]<|Co 16 (Rq [Aa 17 5,Aa 4 17] [4]<|.ret)<|Sk [0,1,7,8])<|Re [An 18 8 1,Aa 8 18] [0,1,7,8])<|Rq [Bm 4 (-1)] [4]<|.ret) [.tmp 4]:= by decide +kernel
theorem c151 (s_0:List Int) (f:Int->Option Bool) (f_f:FuncId) (k_f:List TV) (h_f:∀ (y0:Int) r,f y0=some r->Sound prog f_f ([eI y0]++k_f) (.sh (eB r))) (r:Int) (h:slices_IndexFunc_int s_0 f=some r):Sound prog 151 [lI s_0,.clo f_f k_f] (.sh (eI r)):= by
 refine Fn ck151 fun hw=>?_
 unfold slices_IndexFunc_int at h
 refine E<|G<|D B<|F km2 fun _=>?_
 refine E<|E<|G<|D B<|W B B<|D B<|F km4 fun _=>?_
 obtain ⟨o0,ho0,h⟩:=d6 h
 refine d9 ho0 (fun (i0:Int) (_:Unit)=>[(0,.tv (lI s_0)),(1,.tv (.clo f_f k_f)),(7,.tv (eI (s_0.length:Int))),(8,.tv (eI i0))]) (fun (_:Unit)=>[]) (fun zv ze=>resIs ([.tmp 4]) (.sh (eI zv)) ze) B ?_ ?_ ?_ ?_
 ·clear h ho0
  intro i0 s0 r0 hi0 h hw0
  refine E<|G<|Y B B<|F km5 fun _=>?_
  refine E<|d1 B (d2 hi0)<|T km4 fun _=>?_
  refine E<|b3<|E<|G<|D B<|D B<|F km5 fun _=>?_
  refine E<|G<|D B<|D B<|D B ?_
  obtain ⟨x14,hx14,h⟩:=J h
  refine a2 B B B hx14 B<|K B ?_
  obtain ⟨x16,hx16,h⟩:=J h
  refine g0 B B (h_f _ _ hx16)<|F km6 fun _=>?_
  refine U B (fun hc16=>?_) (fun hc16=>?_)
  ·replace h:=R hc16 h
   refine E<|G<|D B<|D B<|F km1 fun _=>?_
   refine L ?_
   cases h
   exact ⟨_,rfl,rfl⟩
  ·replace h:=S hc16 h
   refine T km4 fun _=>?_
   refine G<|a8 B B<|D B<|F km4 ?_
   cases h
   refine ⟨_,B,?_⟩
   rw [Ktv rfl (Ktv rfl (Ktv rfl (Ktv rfl (Knil _))))]
   rw [b7 (Z (hw0 8)) hi0 (b9 (Z (hw0 7)))]
   all_goals rfl
 ·intro i0 s0 hi0
  refine E<|G<|Y B B<|F km5 fun _=>?_
  refine E<|d0 B (d3 hi0)<|b8 kn ?_
  exact ⟨rfl,rfl⟩
 ·intro s0 hs
  replace h:=d7 h hs
  intro _
  refine E<|G<|D B<|F km1 fun _=>?_
  exact L (by cases h;rfl)
 ·intro v0 ze hv hR
  replace h:=d8 h hv
  cases h
  exact hR
theorem ck81:CK f81 (Rq [Ah 4] [0,1]<|Rq [Aa 5 0,Aa 6 1,Ap 7 151 5 6,Bi 8 7 0,Aa 4 8] [4]<|.ret) [.tmp 4]:= by decide +kernel
theorem c81 (s_0:List Int) (f:Int->Option Bool) (f_f:FuncId) (k_f:List TV) (h_f:∀ (y0:Int) r,f y0=some r->Sound prog f_f ([eI y0]++k_f) (.sh (eB r))) (r:Bool) (h:slices_ContainsFunc_int s_0 f=some r):Sound prog 81 [lI s_0,.clo f_f k_f] (.sh (eB r)):= by
 refine Fn ck81 fun hw=>?_
 unfold slices_ContainsFunc_int at h
 refine E<|G<|D B<|F km2 fun _=>?_
 refine E<|G<|D B<|D B ?_
 obtain ⟨x7,hx7,h⟩:=J h
 refine V B (c151 s_0 f _ _ h_f _ hx7)<|e1 B B<|D B<|F km1 fun _=>?_
 exact L (by cases h;rfl)
theorem ck152:CK f152 (Rq [Ae 4 0] [0,1]<|Sq (Rq [Aa 6 0,Ag 7 6,Ae 8 0] [0,1,7,8]<|Bl 0<|Lo [0,1,7,8]<|Rq [Am 9 8 7] [0,1,7,8,9]<|Sq (Co 9 (Sk [0,1,7,8])<|Ex 0 [])<|Sq (Bl 1<|Rq [Aa 10 8,Aa 5 10] [0,1,5,7,8]<|Rq [Aa 11 1,Aa 12 0,Aa 13 5,Ak 14 12 13 3,Ad 15 14 3,Bx 16 11 15] [0,1,5,7,8,16]<|Co 16 (Rq [Aa 17 5,Aa 4 17] [4]<|.ret)<|Sk [0,1,7,8])<|Re [An 18 8 1,Aa 8 18] [0,1,7,8])<|Rq [Bm 4 (-1)] [4]<|.ret) [.tmp 4]:= by decide +kernel
theorem c152 (s_0:List Edge) (f:Edge->Option Bool) (f_f:FuncId) (k_f:List TV) (h_f:∀ (y0:Edge) r,f y0=some r->Sound prog f_f ([eEdge y0]++k_f) (.sh (eB r))) (r:Int) (h:slices_IndexFunc_Edge s_0 f=some r):Sound prog 152 [lE s_0,.clo f_f k_f] (.sh (eI r)):= by
 refine Fn ck152 fun hw=>?_
 unfold slices_IndexFunc_Edge at h
 refine E<|G<|D B<|F km2 fun _=>?_
 refine E<|E<|G<|D B<|W B B<|D B<|F km4 fun _=>?_
 obtain ⟨o0,ho0,h⟩:=d6 h
 refine d9 ho0 (fun (i0:Int) (_:Unit)=>[(0,.tv (lE s_0)),(1,.tv (.clo f_f k_f)),(7,.tv (eI (s_0.length:Int))),(8,.tv (eI i0))]) (fun (_:Unit)=>[]) (fun zv ze=>resIs ([.tmp 4]) (.sh (eI zv)) ze) B ?_ ?_ ?_ ?_
 ·clear h ho0
  intro i0 s0 r0 hi0 h hw0
  refine E<|G<|Y B B<|F km5 fun _=>?_
  refine E<|d1 B (d2 hi0)<|T km4 fun _=>?_
  refine E<|b3<|E<|G<|D B<|D B<|F km5 fun _=>?_
  refine E<|G<|D B<|D B<|D B ?_
  obtain ⟨x14,hx14,h⟩:=J h
  refine a2 B B B hx14 B<|M B B (B:_=eEdge x14) ?_
  obtain ⟨x16,hx16,h⟩:=J h
  refine g0 B B (h_f _ _ hx16)<|F km6 fun _=>?_
  refine U B (fun hc16=>?_) (fun hc16=>?_)
  ·replace h:=R hc16 h
   refine E<|G<|D B<|D B<|F km1 fun _=>?_
   refine L ?_
   cases h
   exact ⟨_,rfl,rfl⟩
  ·replace h:=S hc16 h
   refine T km4 fun _=>?_
   refine G<|a8 B B<|D B<|F km4 ?_
   cases h
   refine ⟨_,B,?_⟩
   rw [Ktv rfl (Ktv rfl (Ktv rfl (Ktv rfl (Knil _))))]
   rw [b7 (Z (hw0 8)) hi0 (b9 (Z (hw0 7)))]
   all_goals rfl
 ·intro i0 s0 hi0
  refine E<|G<|Y B B<|F km5 fun _=>?_
  refine E<|d0 B (d3 hi0)<|b8 kn ?_
  exact ⟨rfl,rfl⟩
 ·intro s0 hs
  replace h:=d7 h hs
  intro _
  refine E<|G<|D B<|F km1 fun _=>?_
  exact L (by cases h;rfl)
 ·intro v0 ze hv hR
  replace h:=d8 h hv
  cases h
  exact hR
theorem ck83:CK f83 (Rq [Ah 4] [0,1]<|Rq [Aa 5 0,Aa 6 1,Ap 7 152 5 6,Bi 8 7 0,Aa 4 8] [4]<|.ret) [.tmp 4]:= by decide +kernel
theorem c83 (s_0:List Edge) (f:Edge->Option Bool) (f_f:FuncId) (k_f:List TV) (h_f:∀ (y0:Edge) r,f y0=some r->Sound prog f_f ([eEdge y0]++k_f) (.sh (eB r))) (r:Bool) (h:slices_ContainsFunc_Edge s_0 f=some r):Sound prog 83 [lE s_0,.clo f_f k_f] (.sh (eB r)):= by
 refine Fn ck83 fun hw=>?_
 unfold slices_ContainsFunc_Edge at h
 refine E<|G<|D B<|F km2 fun _=>?_
 refine E<|G<|D B<|D B ?_
 obtain ⟨x7,hx7,h⟩:=J h
 refine V B (c152 s_0 f _ _ h_f _ hx7)<|e1 B B<|D B<|F km1 fun _=>?_
 exact L (by cases h;rfl)
theorem ck148:CK f148 (Rq [Ah 4] [0,1]<|Rq [Aa 5 0,Bi 6 5 0,Aa 7 6,Az 8 0 7,Az 9 1 7,Eh 10 8 9 7,Ao 11 7 10,Aa 4 11] [4]<|.ret) [.tmp 4]:= by decide +kernel
theorem c148 (n:Int) (most:Int) (r:Bool) (h:graph_within n most=some r):Sound prog 148 [eI n,eI most] (.sh (eB r)):= by
 refine Fn ck148 fun hw=>?_
 unfold graph_within at h
 refine E<|G<|D B<|F km2 fun _=>?_
 refine E<|G<|D B<|e1 B B<|D B ?_
 refine gA 4 [8,9,10] 11 (decide (0<=n)) (decide (n<=most)) (fun hg11=>?_) (fun hg11=>?_) ?_
 ·refine H B hg11<|D B<|H B hg11<|D B<|H B hg11<|f7 B B<|a4 B hg11 B ?_
  exact ⟨⟨_,_,_,B⟩⟩
 ·refine I B hg11<|I B hg11<|I B hg11<|a5 B hg11 B ?_
  exact ⟨⟨_,_,_,B⟩⟩
 rintro _ ⟨_,_,_,rfl⟩
 refine D B<|F km1 fun _=>?_
 exact L (by cases h;rfl)
theorem ck147:CK f147 (Rq [Ah 2] [0]<|Rq [Aa 3 0,Ek 4 148 3 99,Bb 5 4,Aa 2 5] [2]<|.ret) [.tmp 2]:= by decide +kernel
theorem c147 (t:Int) (r:Bool) (h:graph_Valid_1 t=some r):Sound prog 147 [eI t] (.sh (eB r)):= by
 refine Fn ck147 fun hw=>?_
 unfold graph_Valid_1 at h
 refine E<|G<|D B<|F km1 fun _=>?_
 refine E<|G<|D B ?_
 obtain ⟨x4,hx4,h⟩:=J h
 refine V B (c148 t 99 _ hx4)<|d4 B<|D B<|F km1 fun _=>?_
 exact L (by cases h;rfl)
theorem ck150:CK f150 (Rq [Af 2 0,Ah 4] [1,2]<|Rq [Ac 5 2 0,Ab 6 5,Ek 7 148 6 99,Aa 8 7,Av 9 2 1 8,Aw 10 9 8,Az 11 1 8,Ei 12 11 1 8,Cd 13 148 10 12 8,Ao 14 8 13,Aa 15 14,Av 16 2 2 15,Aw 17 16 15,Az 18 1 15,Ei 19 18 1 15,Cd 20 148 17 19 15,Ao 21 15 20,Aa 4 21] [4]<|.ret) [.tmp 4]:= by decide +kernel
theorem c150 (e:Edge) (nodes:Int) (r:Bool) (h:graph_fits e nodes=some r):Sound prog 150 [eEdge e,eI nodes] (.sh (eB r)):= by
 refine Fn ck150 fun hw=>?_
 unfold graph_fits at h
 refine E<|G<|X B B<|D B<|F km2 fun _=>?_
 refine E<|G<|O B<|K B ?_
 obtain ⟨x7,hx7,h⟩:=J h
 refine V B (c148 e.Type' 99 _ hx7)<|D B ?_
 obtain ⟨x14,hx14,h⟩:=J h
 refine gX 6 [9,10,11,12,13] 14 x14 x7 (fun hg14=>?_) (fun hg14=>?_) ?_
 ·replace h:=R hg14 hx14
  refine H B hg14<|O B<|H B hg14<|K B<|H B hg14<|D B<|H B hg14<|g6 B B ?_
  obtain ⟨x13,hx13,h⟩:=J h
  refine H B hg14<|V B (c148 e.From (w64 (nodes - 1)) _ hx13) ?_
  cases h
  refine a4 B hg14 B ?_
  exact ⟨⟨_,_,_,_,_,B⟩⟩
 ·replace h:=S hg14 hx14
  cases h
  refine I B hg14<|I B hg14<|I B hg14<|I B hg14<|I B hg14<|a5 B hg14 B ?_
  exact ⟨⟨_,_,_,_,_,B⟩⟩
 rintro _ ⟨_,_,_,_,_,rfl⟩
 refine D B ?_
 obtain ⟨x21,hx21,h⟩:=J h
 refine gX 6 [16,17,18,19,20] 21 x21 x14 (fun hg21=>?_) (fun hg21=>?_) ?_
 ·replace h:=R hg21 hx21
  refine H B hg21<|O B<|H B hg21<|K B<|H B hg21<|D B<|H B hg21<|g6 B B ?_
  obtain ⟨x20,hx20,h⟩:=J h
  refine H B hg21<|V B (c148 e.To (w64 (nodes - 1)) _ hx20) ?_
  cases h
  refine a4 B hg21 B ?_
  exact ⟨⟨_,_,_,_,_,B⟩⟩
 ·replace h:=S hg21 hx21
  cases h
  refine I B hg21<|I B hg21<|I B hg21<|I B hg21<|I B hg21<|a5 B hg21 B ?_
  exact ⟨⟨_,_,_,_,_,B⟩⟩
 rintro _ ⟨_,_,_,_,_,rfl⟩
 refine D B<|F km1 fun _=>?_
 exact L (by cases h;rfl)
theorem ck149:CK f149 (Rq [Af 2 0,Ah 3] [1,2]<|Rq [Ad 4 2 3,Ac 5 1 0,Ab 6 5,Ag 7 6,Ap 8 150 4 7,Bb 9 8,Aa 3 9] [3]<|.ret) [.tmp 3]:= by decide +kernel
theorem c149 (e:Edge) (c0:Graph) (r:Bool) (h:graph_Valid_2 e c0=some r):Sound prog 149 [eEdge e,.pt (eGraph c0).cells] (.sh (eB r)):= by
 refine Fn ck149 fun hw=>?_
 unfold graph_Valid_2 at h
 refine E<|G<|X B B<|D B<|F km2 fun _=>?_
 refine E<|G<|M B B (B:_=eEdge e)<|O B<|K B<|W B B ?_
 obtain ⟨x8,hx8,h⟩:=J h
 refine V B (c150 e (c0.Nodes.length:Int) _ hx8)<|d4 B<|D B<|F km1 fun _=>?_
 exact L (by cases h;rfl)
theorem ck80:CK f80 (Rq [Af 1 0,Ae 2 0] [1]<|Sq (Rq [Ac 3 1 0,Ab 4 3,Ag 5 4,Bu 6 5 40,Aa 7 6,Aq 8 1 1 7,As 9 8 7,Bj 10 9 7,Cw 11 10 80 7,At 12 7 11] [1,12]<|Co 12 (Rq [Ae 2 3] [2]<|.ret)<|Sk [1])<|Sq (Rq [Ac 13 1 0,Ab 14 13,Do 15 81 14 147] [1,15]<|Co 15 (Rq [Ae 2 6] [2]<|.ret)<|Sk [1])<|Sq (Rq [Ac 16 1 1,Ab 17 16,Ce 18 149 1,Ap 19 83 17 18] [19]<|Co 19 (Rq [Ae 2 6] [2]<|.ret)<|Sk [])<|Rq [Ae 2 0] [2]<|.ret) [.tmp 2]:= by decide +kernel
theorem c80 (g:Graph) (r:Int) (h:graph_Valid g=some r):Sound prog 80 [eGraph g] (.sh (eI r)):= by
 refine Fn ck80 fun hw=>?_
 unfold graph_Valid at h
 refine E<|G<|X B B<|D B<|F km1 fun _=>?_
 refine E<|E<|G<|O B<|K B<|W B B<|f3 B B<|D B ?_
 refine gO 5 [8,9,10,11] 12 (decide (40<(g.Nodes.length:Int))) (decide (80<(g.Edges.length:Int))) (fun hg12=>?_) (fun hg12=>?_) ?_
 ·refine I B hg12<|I B hg12<|I B hg12<|I B hg12<|a4 B hg12 B ?_
  exact ⟨⟨_,_,_,_,B⟩⟩
 ·refine H B hg12<|O B<|H B hg12<|K B<|H B hg12<|W B B<|H B hg12<|f3 B B<|a5 B hg12 B ?_
  exact ⟨⟨_,_,_,_,B⟩⟩
 rintro _ ⟨_,_,_,_,rfl⟩
 refine F km2 fun _=>?_
 refine U B (fun hc12=>?_) (fun hc12=>?_)
 ·replace h:=R hc12 h
  refine E<|G<|D B<|F km1 fun _=>?_
  exact L (by cases h;rfl)
 ·replace h:=S hc12 h
  refine T km1 fun _=>?_
  refine E<|E<|G<|O B<|K B ?_
  obtain ⟨x15,hx15,h⟩:=J h
  refine V B (c81 g.Nodes graph_Valid_1 _ _ (fun y0 r h=>c147 y0 r h) _ hx15)<|F km2 fun _=>?_
  refine U B (fun hc15=>?_) (fun hc15=>?_)
  ·replace h:=R hc15 h
   refine E<|G<|D B<|F km1 fun _=>?_
   exact L (by cases h;rfl)
  ·replace h:=S hc15 h
   refine T km1 fun _=>?_
   refine E<|E<|G<|O B<|K B<|g1 B ?_
   obtain ⟨x19,hx19,h⟩:=J h
   refine V B (c83 g.Edges (fun y0=>graph_Valid_2 y0 g) _ _ (fun y0 r h=>c149 y0 g r h) _ hx19)<|F km1 fun _=>?_
   refine U B (fun hc19=>?_) (fun hc19=>?_)
   ·replace h:=R hc19 h
    refine E<|G<|D B<|F km1 fun _=>?_
    exact L (by cases h;rfl)
   ·replace h:=S hc19 h
    refine T kn fun _=>?_
    refine E<|G<|D B<|F km1 fun _=>?_
    exact L (by cases h;rfl)
theorem ck82:CK f82 (Rq [Ah 3] [0,1]<|Rq [Aa 4 0,Ac 5 1 0,Ab 6 5,Ag 7 6,Cq 8 4 7,Aa 3 8] [3]<|.ret) [.tmp 3]:= by decide +kernel
theorem c82 (n:Int) (c0:Types) (r:Bool) (h:attribute_Valid_1 n c0=some r):Sound prog 82 [eI n,.pt (eTypes c0).cells] (.sh (eB r)):= by
 refine Fn ck82 fun hw=>?_
 unfold attribute_Valid_1 at h
 refine E<|G<|D B<|F km2 fun _=>?_
 refine E<|G<|D B<|O B<|K B<|W B B<|e1 B B<|D B<|F km1 fun _=>?_
 exact L (by cases h;rfl)
theorem ck84:CK f84 (Rq [Af 2 0,Ah 3] [1,2]<|Rq [Ac 4 2 0,Ab 5 4,Ac 6 1 1,Ab 7 6,Ag 8 7,Cq 9 5 8,Aa 3 9] [3]<|.ret) [.tmp 3]:= by decide +kernel
theorem c84 (x_0:Edge) (c0:Types) (r:Bool) (h:attribute_Valid_2 x_0 c0=some r):Sound prog 84 [eEdge x_0,.pt (eTypes c0).cells] (.sh (eB r)):= by
 refine Fn ck84 fun hw=>?_
 unfold attribute_Valid_2 at h
 refine E<|G<|X B B<|D B<|F km2 fun _=>?_
 refine E<|G<|O B<|K B<|O B<|K B<|W B B<|e1 B B<|D B<|F km1 fun _=>?_
 exact L (by cases h;rfl)
theorem ck85:CK f85 (Rq [Ah 6] [0,1,2]<|Rq [Aa 7 0,Aa 8 1,Cq 9 7 8,Aa 10 9,Az 11 0 10,Az 12 2 10,Eh 13 11 12 10,Ao 14 10 13,Aa 6 14] [6]<|.ret) [.tmp 6]:= by decide +kernel
theorem c85 (n:Int) (low:Int) (high:Int) (r:Bool) (h:attribute_within n low high=some r):Sound prog 85 [eI n,eI low,eI high] (.sh (eB r)):= by
 refine Fn ck85 fun hw=>?_
 unfold attribute_within at h
 refine E<|G<|D B<|F km3 fun _=>?_
 refine E<|G<|D B<|D B<|e1 B B<|D B ?_
 refine gA 4 [11,12,13] 14 (decide (low<=n)) (decide (n<=high)) (fun hg14=>?_) (fun hg14=>?_) ?_
 ·refine H B hg14<|D B<|H B hg14<|D B<|H B hg14<|f7 B B<|a4 B hg14 B ?_
  exact ⟨⟨_,_,_,B⟩⟩
 ·refine I B hg14<|I B hg14<|I B hg14<|a5 B hg14 B ?_
  exact ⟨⟨_,_,_,B⟩⟩
 rintro _ ⟨_,_,_,rfl⟩
 refine D B<|F km1 fun _=>?_
 exact L (by cases h;rfl)
theorem ck250:CK f250 (Rq [Ah 3] [0,1]<|Rq [Aa 4 0,Cn 5 4 0,Aa 6 5,Bc 7 0 6,Aq 8 1 0 6,As 9 8 6,Bj 10 9 6,Ci 11 7 10 6,At 12 6 11,Aa 3 12] [3]<|.ret) [.tmp 3]:= by decide +kernel
theorem c250 (a:Int) (c0:Types) (r:Bool) (h:types_given_1 a c0=some r):Sound prog 250 [eI a,.pt (eTypes c0).cells] (.sh (eB r)):= by
 refine Fn ck250 fun hw=>?_
 unfold types_given_1 at h
 refine E<|G<|D B<|F km2 fun _=>?_
 refine E<|G<|D B<|Y B B<|D B ?_
 refine gO 6 [7,8,9,10,11] 12 (decide (a<0)) (decide ((c0.Nodes.length:Int)<=a)) (fun hg12=>?_) (fun hg12=>?_) ?_
 ·refine I B hg12<|I B hg12<|I B hg12<|I B hg12<|I B hg12<|a4 B hg12 B ?_
  exact ⟨⟨_,_,_,_,_,B⟩⟩
 ·refine H B hg12<|D B<|H B hg12<|O B<|H B hg12<|K B<|H B hg12<|W B B<|H B hg12<|e1 B B<|a5 B hg12 B ?_
  exact ⟨⟨_,_,_,_,_,B⟩⟩
 rintro _ ⟨_,_,_,_,_,rfl⟩
 refine D B<|F km1 fun _=>?_
 exact L (by cases h;rfl)
theorem ck216:CK f216 (Rq [Af 2 0,Ae 4 0] [1,2]<|Sq (Rq [Ad 8 2 2,Au 9 79 8,Aa 7 9,Al 10 7 0,Al 11 7 1,Aa 5 10,Aa 6 11] [1,2,6]<|Rq [Aa 12 6,Ax 13 12 0] [1,2,6,13]<|Co 13 (Rq [Aa 14 6,Aa 4 14] [4]<|.ret)<|Sk [1,2])<|Sq (Rq [Aa 15 1,Ce 16 250 2,Ap 17 81 15 16] [17]<|Co 17 (Rq [Ae 4 6] [4]<|.ret)<|Sk [])<|Rq [Ae 4 0] [4]<|.ret) [.tmp 4]:= by decide +kernel
theorem c216 (t:Types) (l:List Int) (r:Int) (h:types_given t l=some r):Sound prog 216 [eTypes t,lI l] (.sh (eI r)):= by
 refine Fn ck216 fun hw=>?_
 unfold types_given at h
 refine E<|G<|X B B<|D B<|F km2 fun _=>?_
 refine E<|E<|G<|M B B (B:_=eTypes t) ?_
 obtain ⟨x9,hx9,h⟩:=J h
 refine e8 B (c79 t _ hx9)<|e5 B<|b4 B B<|b4 B B<|D B<|D B<|F km3 fun _=>?_
 refine E<|G<|D B<|a9 B B<|F km4 fun _=>?_
 refine U B (fun hc13=>?_) (fun hc13=>?_)
 ·replace h:=R hc13 h
  refine E<|G<|D B<|D B<|F km1 fun _=>?_
  exact L (by cases h;rfl)
 ·replace h:=S hc13 h
  refine T km2 fun _=>?_
  refine E<|E<|G<|D B<|g1 B ?_
  obtain ⟨x17,hx17,h⟩:=J h
  refine V B (c81 l (fun y0=>types_given_1 y0 t) _ _ (fun y0 r h=>c250 y0 t r h) _ hx17)<|F km1 fun _=>?_
  refine U B (fun hc17=>?_) (fun hc17=>?_)
  ·replace h:=R hc17 h
   refine E<|G<|D B<|F km1 fun _=>?_
   exact L (by cases h;rfl)
  ·replace h:=S hc17 h
   refine T kn fun _=>?_
   refine E<|G<|D B<|F km1 fun _=>?_
   exact L (by cases h;rfl)
theorem ck217:CK f217 (Rq [Ba 2 1] [0]<|Sq (Rq [Aa 3 0,Cx 4 3] [0,4]<|Co 4 (Rq [Ba 2 1] [2]<|.ret)<|Sk [0])<|Rq [Di 5 1,Aa 6 0,Bq 7 1 5 6,Ay 2 7] [2]<|.ret) [.tmp 2]:= by decide +kernel
theorem c217 (s_0:List ByteArray) (r:(List ByteArray)) (h:slices_Clone_string s_0=some r):Sound prog 217 [lB s_0] (.own (lB r)):= by
 refine Fn ck217 fun hw=>?_
 unfold slices_Clone_string at h
 refine E<|G<|e3<|F km1 fun _=>?_
 refine E<|E<|G<|D B<|l4 B B fun z4 hz4=>?_
 replace h:=m2 h z4 hz4
 refine F km2 fun _=>?_
 refine U B (fun hc4=>?_) (fun hc4=>?_)
 ·replace h:=R hc4 h
  refine E<|G<|e3<|F (ko<|kn) fun _=>?_
  exact L (by cases h;rfl)
 ·replace h:=S hc4 h
  refine T km1 fun _=>?_
  refine E<|G<|e4 (e:=eS) (l:=[]) B B (fun _=>rfl)<|D B ?_
  obtain ⟨x7,hx7,h⟩:=J h
  refine f6 B B B B hx7 B<|e9 B<|F (ko<|kn) fun _=>?_
  exact L (by cases h;rfl)
theorem ck153:CK f153 (Rq [Af 2 0,Ba 4 4,Ae 5 0] [1,2]<|Sq (Rq [Ad 9 2 2,Aa 10 1,Bh 11 1 10,Ap 12 216 9 11,Aa 6 12] [1,2,6]<|Rq [Aa 13 6,Ax 14 13 0] [1,2,6,14]<|Co 14 (Rq [Aa 15 6,Ba 4 4,Aa 5 15] [4,5]<|.ret)<|Sk [1,2])<|Rq [Ad 16 2 2,Aa 17 1,Eg 18 210 16 17,Bw 7 18] [7]<|Sq (Rq [Bo 19 7,Cy 20 19,Ae 21 0] [7,20,21]<|Bl 0<|Lo [7,20,21]<|Rq [Am 22 21 20] [7,20,21,22]<|Sq (Co 22 (Sk [7,20,21])<|Ex 0 [7])<|Sq (Bl 1<|Rq [Aa 23 21,Aa 8 23] [7,8,20,21]<|Re [Bo 24 7,Aa 25 8,Bo 26 7,Aa 27 8,Cj 28 26 27 4,⟨some 29,.xfa (.s 28) 3,none⟩,⟨some 30,.xld (.s 29),none⟩,Au 31 217 30,Cj 32 24 25 4,⟨some 33,.xfa (.s 32) 3,none⟩,Du 33 31] [7,20,21])<|Re [An 34 21 1,Aa 21 34] [7,20,21])<|Rq [Cz 35 7,Ay 4 35,Ae 5 0] [4,5]<|.ret) [.tmp 4,.tmp 5]:= by decide +kernel
theorem c153 (t:Types) (a:Int) (r:(List Attr × Int)) (h:types_Attrs t a=some r):Sound prog 153 [eTypes t,eI a] (.tp [lA r.1,eI r.2]):= by
 refine Fn ck153 fun hw=>?_
 unfold types_Attrs at h
 refine E<|G<|X B B<|e3<|D B<|F km2 fun _=>?_
 refine E<|E<|G<|M B B (B:_=eTypes t)<|D B<|e4 (e:=eI) (l:=[a]) B B (fun _=>rfl) ?_
 obtain ⟨x12,hx12,h⟩:=J h
 refine V B (c216 t [a] _ hx12)<|D B<|F km3 fun _=>?_
 refine E<|G<|D B<|a9 B B<|F km4 fun _=>?_
 refine U B (fun hc14=>?_) (fun hc14=>?_)
 ·replace h:=R hc14 h
  refine E<|G<|D B<|e3<|D B<|F (ko<|kt<|kn) fun _=>?_
  refine L ?_
  cases h
  exact ⟨by decide,rfl⟩
 ·replace h:=S hc14 h
  refine T km2 fun _=>?_
  refine E<|G<|M B B (B:_=eTypes t)<|D B ?_
  obtain ⟨x18,hx18,h⟩:=J h
  refine q1 B B (c210 t a _ hx18)<|g3 B B (by decide)<|F (kx<|kn) fun _=>?_
  refine E<|E<|G<|f4 B<|l5 B B<|D B<|F (kx<|kt<|kt<|kn) fun _=>?_
  obtain ⟨s0,hs0,h⟩:=J h
  refine g2 hs0 (fun (i0:Int) (s0:List Attr)=>[(7,.xo 4 (List.map eAttr s0)),(20,.tv (eI (x18.length:Int))),(21,.tv (eI i0))]) (fun (s0:List Attr)=>[(7,.xo 4 (List.map eAttr s0))]) B ?_ ?_ ?_
  ·clear h hs0
   intro i0 s0 r0 hi0 h hw0
   refine E<|G<|Y B B<|F (kx<|kt<|kt<|kt<|kn) fun _=>?_
   refine E<|d1 B (d2 hi0)<|T (kx<|kt<|kt<|kn) fun _=>?_
   refine E<|b3<|E<|G<|D B<|D B<|F (kx<|kt<|kt<|kt<|kn) fun _=>?_
   refine G<|f4 B<|D B<|f4 B<|D B ?_
   obtain ⟨x28,hx28,h⟩:=J h
   refine g7 B B B hx28<|q2 B B<|p2 (i:=3) B B B (fun _=>rfl) hx28 B B B B ?_
   obtain ⟨x31,hx31,h⟩:=J h
   refine V B (own_sh (c217 x28.Names _ hx31)) ?_
   obtain ⟨x32,hx32,h⟩:=J h
   refine g7 B B B hx32<|q2 B B<|g9 (i:=3) (b:=(Attr.mk x32.Name x32.Low x32.High x31)) B B B B (fun _=>rfl) hx32 B B B B B B<|F (kx<|kt<|kt<|kn) fun _=>?_
   refine G<|a8 B B<|D B<|F (kx<|kt<|kt<|kn) ?_
   cases h
   show Env.keep _ _=_
   rw [Kxo rfl (Ktv rfl (Ktv rfl (Knil _)))]
   rw [b7 (Z (hw0 21)) hi0 (b9 (Z (hw0 20)))]
   all_goals rfl
  ·intro i0 s0 hi0
   refine E<|G<|Y B B<|F (kx<|kt<|kt<|kt<|kn) fun _=>?_
   refine E<|d0 B (d3 hi0)<|b8 (kx<|kn) ?_
   exact ⟨rfl,rfl⟩
  ·intro _
   refine E<|G<|l6 B (by decide)<|e9 B<|D B<|F (ko<|kt<|kn) fun _=>?_
   refine L ?_
   cases h
   exact ⟨by decide,rfl⟩
theorem ck86:CK f86 (Rq [Af 3 0,Af 4 1,Af 5 2,El 6 0 0 1,Ah 7] [3,4,5,6]<|Sq (Rq [Ac 10 5 0,Ab 11 10,Ac 12 4 0,Ai 13 12 0,Ab 14 13,Ag 15 14,Dj 16 15 1,⟨some 17,.call 85 [.s 11,.c (.int .i64 0),.s 16],none⟩,Bb 18 17] [3,4,5,6,18]<|Co 18 (Rq [Fa 19 0 0 1,Aj 4 6 19,Ah 7] [6,7]<|.ret)<|Sk [3,4,5,6])<|Sq (Dr [8,9,20,21,22,23,24,25,26,27,28,29,30,31] [Ad 21 3 2,Ac 22 4 0,Ai 23 22 0,Ab 24 23,Ac 25 5 0,Ab 26 25,Ak 27 24 26 1,Ab 28 27,Ap 29 153 21 28,Aa 20 29,Al 30 20 0,Al 31 20 1,Ay 8 30,Aa 9 31] [5,6,8])<|Sq (Rq [Ac 32 5 1,Ab 33 32,Aa 34 8,Ag 35 34,Dj 36 35 1,⟨some 37,.call 85 [.s 33,.c (.int .i64 0),.s 36],none⟩,Bb 38 37] [5,6,8,38]<|Co 38 (Rq [Fa 39 0 0 1,Aj 4 6 39,Ah 7] [6,7]<|.ret)<|Sk [5,6,8])<|Rq [Aa 40 8,Ac 41 5 1,Ab 42 41,Ak 43 40 42 4,Ad 44 43 4,Aj 4 6 44,Bp 7] [6,7]<|.ret) [.cell 6 (some 4),.tmp 7]:= by decide +kernel
theorem c86 (t:Types) (p:Pattern) (s_2:Slot) (r:(Attr × Bool)) (h:attribute_attr t p s_2=some r):Sound prog 86 [eTypes t,ePattern p,eSlot s_2] (.tp [eAttr r.1,eB r.2]):= by
 refine Fn ck86 fun hw=>?_
 unfold attribute_attr at h
 refine E<|G<|X B B<|X B B<|X B B<|b6 B<|D B<|F (kt<|kt<|kt<|kb<|kn) fun _=>?_
 refine E<|E<|G<|O B<|K B<|O B<|d5 B<|K B<|W B B<|g6 B B ?_
 obtain ⟨x17,hx17,h⟩:=J h
 refine V B (c85 s_2.Node 0 (w64 ((p.Graph.Nodes.length:Int) - 1)) _ hx17)<|d4 B<|F (kt<|kt<|kt<|kb<|kt<|kn) fun _=>?_
 refine U B (fun hc18=>?_) (fun hc18=>?_)
 ·replace h:=R hc18 h
  refine E<|G<|e2 B B (B:_=eAttr (Attr.mk (⟨#[]⟩:ByteArray) 0 0 []))<|a6 B B B B B<|D B<|F (kb<|kt<|kn) fun _=>?_
  refine L ?_
  cases h
  exact ⟨by decide,rfl⟩
 ·replace h:=S hc18 h
  refine T (kt<|kt<|kt<|kb<|kn) fun _=>?_
  refine E<|e0 B<|M B B (B:_=eTypes t)<|O B<|d5 B<|K B<|O B<|K B ?_
  obtain ⟨x27,hx27,h⟩:=J h
  refine a2 B B B hx27 B<|K B ?_
  obtain ⟨x29,hx29,h⟩:=J h
  refine e8 B (c153 t x27 _ hx29)<|e5 B<|b4 B B<|b4 B B<|f8 B<|D B<|F (kt<|kb<|kt<|kn) fun _=>?_
  refine E<|E<|G<|O B<|K B<|D B<|W B B<|g6 B B ?_
  obtain ⟨x37,hx37,h⟩:=J h
  refine V B (c85 s_2.Attr 0 (w64 ((x29.1.length:Int) - 1)) _ hx37)<|d4 B<|F (kt<|kb<|kt<|kt<|kn) fun _=>?_
  refine U B (fun hc38=>?_) (fun hc38=>?_)
  ·replace h:=R hc38 h
   refine E<|G<|e2 B B (B:_=eAttr (Attr.mk (⟨#[]⟩:ByteArray) 0 0 []))<|a6 B B B B B<|D B<|F (kb<|kt<|kn) fun _=>?_
   refine L ?_
   cases h
   exact ⟨by decide,rfl⟩
  ·replace h:=S hc38 h
   refine T (kt<|kb<|kt<|kn) fun _=>?_
   refine E<|G<|D B<|O B<|K B ?_
   obtain ⟨x43,hx43,h⟩:=J h
   refine a2 B B B hx43 B<|M B B (B:_=eAttr x43)<|a6 B B B B B<|D B<|F (kb<|kt<|kn) fun _=>?_
   refine L ?_
   cases h
   exact ⟨by decide,rfl⟩
theorem ck218:CK f218 (Rq [Af 3 1,Ah 4] [0,3]<|Rq [Ac 5 3 0,Ab 6 5,⟨some 7,.bin (.i) .geq (.s 6) (.c (.int .i64 (-1))),none⟩,Aa 8 7,Av 9 3 0 8,Aw 10 9 8,Az 11 0 8,Ej 12 10 11 8,Ao 13 8 12,Aa 14 13,Av 15 3 1 14,Aw 16 15 14,⟨some 17,.bin (.i) .geq (.s 16) (.c (.int .i64 (-1000000))),some (14,true)⟩,Ao 18 14 17,Aa 19 18,Av 20 3 1 19,Aw 21 20 19,Cm 22 21 1000000 19,Ao 23 19 22,Aa 4 23] [4]<|.ret) [.tmp 4]:= by decide +kernel
theorem c218 (n:Int) (t:Term) (r:Bool) (h:difference_term n t=some r):Sound prog 218 [eI n,eTerm t] (.sh (eB r)):= by
 refine Fn ck218 fun hw=>?_
 unfold difference_term at h
 refine E<|G<|X B B<|D B<|F km2 fun _=>?_
 refine E<|G<|O B<|K B<|e1 B B<|D B ?_
 refine gA 5 [9,10,11,12] 13 (decide ((-1)<=t.Var)) (decide (t.Var<n)) (fun hg13=>?_) (fun hg13=>?_) ?_
 ·refine H B hg13<|O B<|H B hg13<|K B<|H B hg13<|D B<|H B hg13<|Y B B<|a4 B hg13 B ?_
  exact ⟨⟨_,_,_,_,B⟩⟩
 ·refine I B hg13<|I B hg13<|I B hg13<|I B hg13<|a5 B hg13 B ?_
  exact ⟨⟨_,_,_,_,B⟩⟩
 rintro _ ⟨_,_,_,_,rfl⟩
 refine D B ?_
 refine gA 4 [15,16,17] 18 ((decide ((-1)<=t.Var))&&(decide (t.Var<n))) (decide ((-1000000)<=t.Add)) (fun hg18=>?_) (fun hg18=>?_) ?_
 ·refine H B hg18<|O B<|H B hg18<|K B<|H B hg18<|e1 B B<|a4 B hg18 B ?_
  exact ⟨⟨_,_,_,B⟩⟩
 ·refine I B hg18<|I B hg18<|I B hg18<|a5 B hg18 B ?_
  exact ⟨⟨_,_,_,B⟩⟩
 rintro _ ⟨_,_,_,rfl⟩
 refine D B ?_
 refine gA 4 [20,21,22] 23 (((decide ((-1)<=t.Var))&&(decide (t.Var<n)))&&(decide ((-1000000)<=t.Add))) (decide (t.Add<=1000000)) (fun hg23=>?_) (fun hg23=>?_) ?_
 ·refine H B hg23<|O B<|H B hg23<|K B<|H B hg23<|f7 B B<|a4 B hg23 B ?_
  exact ⟨⟨_,_,_,B⟩⟩
 ·refine I B hg23<|I B hg23<|I B hg23<|a5 B hg23 B ?_
  exact ⟨⟨_,_,_,B⟩⟩
 rintro _ ⟨_,_,_,rfl⟩
 refine D B<|F km1 fun _=>?_
 exact L (by cases h;rfl)
theorem ck154:CK f154 (Rq [Af 3 1,Ae 4 0] [0,3]<|Sq (Bl 0<|Rq [Ac 6 3 0,Ab 7 6,Ax 8 7 1,Aa 9 8,Av 10 3 0 9,Aw 11 10 9,⟨some 12,.bin (.i) .neq (.s 11) (.c (.int .i64 2)),some (9,true)⟩,Ao 13 9 12,Aa 5 13] [0,3,5]<|Co 5 (Rq [Ae 4 1] [4]<|.ret)<|Rq [Aa 15 0,Ac 16 3 1,Ad 17 16 2,Ap 18 218 15 17,Bb 19 18,Aa 20 19,Bc 21 0 20,Aq 22 3 3 20,Bk 23 22 2 20,Bv 24 218 21 23 20,Bn 25 24 20,At 26 20 25,Aa 14 26] [14]<|Co 14 (Rq [Ae 4 6] [4]<|.ret)<|Sk [])<|Rq [Ae 4 0] [4]<|.ret) [.tmp 4]:= by decide +kernel
theorem c154 (n:Int) (x_1:Test) (r:Int) (h:difference_one n x_1=some r):Sound prog 154 [eI n,eTest x_1] (.sh (eI r)):= by
 refine Fn ck154 fun hw=>?_
 unfold difference_one at h
 refine E<|G<|X B B<|D B<|F km2 fun _=>?_
 refine E<|b3<|E<|G<|O B<|K B<|a9 B B<|D B ?_
 refine gA 4 [10,11,12] 13 (!decide (x_1.Kind=1)) (!decide (x_1.Kind=2)) (fun hg13=>?_) (fun hg13=>?_) ?_
 ·refine H B hg13<|O B<|H B hg13<|K B<|H B hg13<|a9 B B<|a4 B hg13 B ?_
  exact ⟨⟨_,_,_,B⟩⟩
 ·refine I B hg13<|I B hg13<|I B hg13<|a5 B hg13 B ?_
  exact ⟨⟨_,_,_,B⟩⟩
 rintro _ ⟨_,_,_,rfl⟩
 refine D B<|F km3 fun _=>?_
 refine U B (fun hc5=>?_) (fun hc5=>?_)
 ·replace h:=R hc5 h
  refine E<|G<|D B<|F km1 fun _=>?_
  exact L (by cases h;rfl)
 ·replace h:=S hc5 h
  refine E<|G<|D B<|O B<|M B B (B:_=eTerm x_1.Left) ?_
  obtain ⟨x18,hx18,h⟩:=J h
  refine V B (c218 n x_1.Left _ hx18)<|d4 B<|D B ?_
  obtain ⟨x26,hx26,h⟩:=J h
  refine gX 6 [21,22,23,24,25] 26 x26 (!x18) (fun hg26=>?_) (fun hg26=>?_) ?_
  ·replace h:=R hg26 hx26
   cases h
   refine I B hg26<|I B hg26<|I B hg26<|I B hg26<|I B hg26<|a4 B hg26 B ?_
   exact ⟨⟨_,_,_,_,_,B⟩⟩
  ·replace h:=S hg26 hx26
   refine H B hg26<|D B<|H B hg26<|O B<|H B hg26<|M B B (B:_=eTerm x_1.Right) ?_
   obtain ⟨x24,hx24,h⟩:=J h
   refine H B hg26<|V B (c218 n x_1.Right _ hx24)<|H B hg26<|d4 B ?_
   cases h
   refine a5 B hg26 B ?_
   exact ⟨⟨_,_,_,_,_,B⟩⟩
  rintro _ ⟨_,_,_,_,_,rfl⟩
  refine D B<|F km1 fun _=>?_
  refine U B (fun hc14=>?_) (fun hc14=>?_)
  ·replace h:=R hc14 h
   refine E<|G<|D B<|F km1 fun _=>?_
   exact L (by cases h;rfl)
  ·replace h:=S hc14 h
   refine T kn fun _=>?_
   refine E<|G<|D B<|F km1 fun _=>?_
   exact L (by cases h;rfl)
theorem ck87:CK f87 (Rq [Ae 4 0] [0,1]<|Sq (Rq [Aa 8 0,Cn 9 8 0,Aa 10 9,Bc 11 0 10,Cw 12 11 12 10,At 13 10 12] [0,1,13]<|Co 13 (Rq [Ae 4 6] [4]<|.ret)<|Sk [0,1])<|Sq (Rq [Aa 14 1,Ag 15 14,Bu 16 15 40] [0,1,16]<|Co 16 (Rq [Ae 4 3] [4]<|.ret)<|Sk [0,1])<|Sq (Rq [Aa 17 1,Ag 18 17,Ae 19 0] [0,17,18,19]<|Bl 0<|Lo [0,17,18,19]<|Rq [Am 20 19 18] [0,17,18,19,20]<|Sq (Co 20 (Sk [0,17,18,19])<|Ex 0 [])<|Sq (Bl 1<|Rq [Ak 21 17 19 5,Ad 22 21 5,Em 6 0 0 0 0 0,Aj 5 6 22] [0,6,17,18,19]<|Rq [Aa 23 0,Ad 24 6 5,Ap 25 154 23 24,Aa 7 25] [0,7,17,18,19]<|Rq [Aa 26 7,Ax 27 26 0] [0,7,17,18,19,27]<|Co 27 (Rq [Aa 28 7,Aa 4 28] [4]<|.ret)<|Sk [0,17,18,19])<|Re [An 29 19 1,Aa 19 29] [0,17,18,19])<|Rq [Ae 4 0] [4]<|.ret) [.tmp 4]:= by decide +kernel
theorem c87 (n:Int) (l:List Test) (r:Int) (h:difference_Valid n l=some r):Sound prog 87 [eI n,lT l] (.sh (eI r)):= by
 refine Fn ck87 fun hw=>?_
 unfold difference_Valid at h
 refine E<|G<|D B<|F km2 fun _=>?_
 refine E<|E<|G<|D B<|Y B B<|D B ?_
 refine gO 3 [11,12] 13 (decide (n<0)) (decide (12<n)) (fun hg13=>?_) (fun hg13=>?_) ?_
 ·refine I B hg13<|I B hg13<|a4 B hg13 B ?_
  exact ⟨⟨_,_,B⟩⟩
 ·refine H B hg13<|D B<|H B hg13<|f3 B B<|a5 B hg13 B ?_
  exact ⟨⟨_,_,B⟩⟩
 rintro _ ⟨_,_,rfl⟩
 refine F km3 fun _=>?_
 refine U B (fun hc13=>?_) (fun hc13=>?_)
 ·replace h:=R hc13 h
  refine E<|G<|D B<|F km1 fun _=>?_
  exact L (by cases h;rfl)
 ·replace h:=S hc13 h
  refine T km2 fun _=>?_
  refine E<|E<|G<|D B<|W B B<|f3 B B<|F km3 fun _=>?_
  refine U B (fun hc16=>?_) (fun hc16=>?_)
  ·replace h:=R hc16 h
   refine E<|G<|D B<|F km1 fun _=>?_
   exact L (by cases h;rfl)
  ·replace h:=S hc16 h
   refine T km2 fun _=>?_
   refine E<|E<|G<|D B<|W B B<|D B<|F km4 fun _=>?_
   obtain ⟨o0,ho0,h⟩:=d6 h
   refine d9 ho0 (fun (i0:Int) (_:Unit)=>[(0,.tv (eI n)),(17,.tv (lT l)),(18,.tv (eI (l.length:Int))),(19,.tv (eI i0))]) (fun (_:Unit)=>[]) (fun zv ze=>resIs ([.tmp 4]) (.sh (eI zv)) ze) B ?_ ?_ ?_ ?_
   ·clear h ho0
    intro i0 s0 r0 hi0 h hw0
    refine E<|G<|Y B B<|F km5 fun _=>?_
    refine E<|d1 B (d2 hi0)<|T km4 fun _=>?_
    refine E<|b3<|E<|G ?_
    obtain ⟨x21,hx21,h⟩:=J h
    refine a2 B B B hx21 B<|M B B (B:_=eTest x21)<|b6 B<|a6 B B B B B<|F (kt<|kb<|kt<|kt<|kt<|kn) fun _=>?_
    refine E<|G<|D B<|M B B (B:_=eTest x21) ?_
    obtain ⟨x25,hx25,h⟩:=J h
    refine V B (c154 n x21 _ hx25)<|D B<|F km5 fun _=>?_
    refine E<|G<|D B<|a9 B B<|F km6 fun _=>?_
    refine U B (fun hc27=>?_) (fun hc27=>?_)
    ·replace h:=R hc27 h
     refine E<|G<|D B<|D B<|F km1 fun _=>?_
     refine L ?_
     cases h
     exact ⟨_,rfl,rfl⟩
    ·replace h:=S hc27 h
     refine T km4 fun _=>?_
     refine G<|a8 B B<|D B<|F km4 ?_
     cases h
     refine ⟨_,B,?_⟩
     rw [Ktv rfl (Ktv rfl (Ktv rfl (Ktv rfl (Knil _))))]
     rw [b7 (Z (hw0 19)) hi0 (b9 (Z (hw0 18)))]
     all_goals rfl
   ·intro i0 s0 hi0
    refine E<|G<|Y B B<|F km5 fun _=>?_
    refine E<|d0 B (d3 hi0)<|b8 kn ?_
    exact ⟨rfl,rfl⟩
   ·intro s0 hs
    replace h:=d7 h hs
    intro _
    refine E<|G<|D B<|F km1 fun _=>?_
    exact L (by cases h;rfl)
   ·intro v0 ze hv hR
    replace h:=d8 h hv
    cases h
    exact hR
theorem ck155:CK f155 (Rq [Ae 4 0] [0,1]<|Sq (Rq [Aa 6 0,Ag 7 6,Ae 8 0] [0,1,7,8]<|Bl 0<|Lo [0,1,7,8]<|Rq [Am 9 8 7] [0,1,7,8,9]<|Sq (Co 9 (Sk [0,1,7,8])<|Ex 0 [])<|Sq (Bl 1<|Rq [Aa 10 8,Aa 5 10] [0,1,5,7,8]<|Rq [Aa 11 1,Aa 12 0,Aa 13 5,Ak 14 12 13 1,Ab 15 14,⟨some 16,.bin (.b) .eql (.s 11) (.s 15),none⟩] [0,1,5,7,8,16]<|Co 16 (Rq [Aa 17 5,Aa 4 17] [4]<|.ret)<|Sk [0,1,7,8])<|Re [An 18 8 1,Aa 8 18] [0,1,7,8])<|Rq [Bm 4 (-1)] [4]<|.ret) [.tmp 4]:= by decide +kernel
theorem c155 (s_0:List Bool) (v_1:Bool) (r:Int) (h:slices_Index_bool s_0 v_1=some r):Sound prog 155 [(eL 1 eB) s_0,eB v_1] (.sh (eI r)):= by
 refine Fn ck155 fun hw=>?_
 unfold slices_Index_bool at h
 refine E<|G<|D B<|F km2 fun _=>?_
 refine E<|E<|G<|D B<|W B B<|D B<|F km4 fun _=>?_
 obtain ⟨o0,ho0,h⟩:=d6 h
 refine d9 ho0 (fun (i0:Int) (_:Unit)=>[(0,.tv ((eL 1 eB) s_0)),(1,.tv (eB v_1)),(7,.tv (eI (s_0.length:Int))),(8,.tv (eI i0))]) (fun (_:Unit)=>[]) (fun zv ze=>resIs ([.tmp 4]) (.sh (eI zv)) ze) B ?_ ?_ ?_ ?_
 ·clear h ho0
  intro i0 s0 r0 hi0 h hw0
  refine E<|G<|Y B B<|F km5 fun _=>?_
  refine E<|d1 B (d2 hi0)<|T km4 fun _=>?_
  refine E<|b3<|E<|G<|D B<|D B<|F km5 fun _=>?_
  refine E<|G<|D B<|D B<|D B ?_
  obtain ⟨x14,hx14,h⟩:=J h
  refine a2 B B B hx14 B<|K B<|t2 B B<|F km6 fun _=>?_
  refine U B (fun hc16=>?_) (fun hc16=>?_)
  ·replace h:=R hc16 h
   refine E<|G<|D B<|D B<|F km1 fun _=>?_
   refine L ?_
   cases h
   exact ⟨_,rfl,rfl⟩
  ·replace h:=S hc16 h
   refine T km4 fun _=>?_
   refine G<|a8 B B<|D B<|F km4 ?_
   cases h
   refine ⟨_,B,?_⟩
   rw [Ktv rfl (Ktv rfl (Ktv rfl (Ktv rfl (Knil _))))]
   rw [b7 (Z (hw0 8)) hi0 (b9 (Z (hw0 7)))]
   all_goals rfl
 ·intro i0 s0 hi0
  refine E<|G<|Y B B<|F km5 fun _=>?_
  refine E<|d0 B (d3 hi0)<|b8 kn ?_
  exact ⟨rfl,rfl⟩
 ·intro s0 hs
  replace h:=d7 h hs
  intro _
  refine E<|G<|D B<|F km1 fun _=>?_
  exact L (by cases h;rfl)
 ·intro v0 ze hv hR
  replace h:=d8 h hv
  cases h
  exact hR
theorem ck88:CK f88 (Rq [Ah 4] [0,1]<|Rq [Aa 5 0,Aa 6 1,Ap 7 155 5 6,Bi 8 7 0,Aa 4 8] [4]<|.ret) [.tmp 4]:= by decide +kernel
theorem c88 (s_0:List Bool) (v_1:Bool) (r:Bool) (h:slices_Contains_bool s_0 v_1=some r):Sound prog 88 [(eL 1 eB) s_0,eB v_1] (.sh (eB r)):= by
 refine Fn ck88 fun hw=>?_
 unfold slices_Contains_bool at h
 refine E<|G<|D B<|F km2 fun _=>?_
 refine E<|G<|D B<|D B ?_
 obtain ⟨x7,hx7,h⟩:=J h
 refine V B (c155 s_0 v_1 _ hx7)<|e1 B B<|D B<|F km1 fun _=>?_
 exact L (by cases h;rfl)
theorem ck39:CK f39 (Rq [Af 2 0,Af 3 1,Ae 4 0] [2,3]<|Sq (Rq [Ad 15 2 2,Au 16 79 15,Aa 14 16,Al 17 14 0,Al 18 14 1,Aa 5 17,Aa 6 18] [2,3,6]<|Rq [Aa 19 6,Ax 20 19 0] [2,3,6,20]<|Co 20 (Rq [Aa 21 6,Aa 4 21] [4]<|.ret)<|Sk [2,3])<|Sq (Rq [Ac 22 3 0,Ad 23 22 2,Au 24 80 23,Aa 7 24] [2,3,7]<|Rq [Aa 25 7,Ax 26 25 0] [2,3,7,26]<|Co 26 (Rq [Aa 27 7,Aa 4 27] [4]<|.ret)<|Sk [2,3])<|Sq (Rq [Ac 28 3 0,Ai 29 28 0,Ab 30 29,Ce 31 82 2,Ap 32 81 30 31,Aa 33 32,Aq 34 3 0 33,Bs 35 34 1 33,As 36 35 33,⟨some 37,.clo 84 [.s 2],some (33,false)⟩,Bv 38 83 36 37 33,At 39 33 38] [2,3,39]<|Co 39 (Rq [Ae 4 13] [4]<|.ret)<|Sk [2,3])<|Sq (Rq [Ac 40 3 3,Ab 41 40,⟨some 42,.call 85 [.s 41,.c (.int .i64 0),.c (.int .i64 12)],none⟩,Bb 43 42] [2,3,43]<|Co 43 (Rq [Ae 4 6] [4]<|.ret)<|Sk [2,3])<|Sq (Rq [Ac 44 3 2,Ab 45 44,Ag 46 45,Bu 47 46 10,Aa 48 47,Aq 49 3 4 48,As 50 49 48,Bj 51 50 48,Cw 52 51 10 48,At 53 48 52] [2,3,53]<|Co 53 (Rq [Ae 4 3] [4]<|.ret)<|Sk [2,3])<|Rq [Ac 54 3 3,Ab 55 54,Dv 56 1 55,Bw 8 56] [2,3,8]<|Sq (Rq [Ac 57 3 2,Ab 58 57,Ag 59 58,Ae 60 0] [2,3,8,58,59,60]<|Bl 0<|Lo [2,3,8,58,59,60]<|Rq [Am 61 60 59] [2,3,8,58,59,60,61]<|Sq (Co 61 (Sk [2,3,8,58,59,60])<|Ex 0 [3,8])<|Sq (Bl 1<|Rq [Ak 62 58 60 4,Ad 63 62 4,Dw 10 0 0 0 0,Aj 4 10 63] [2,3,8,10,58,59,60]<|Sq (Rq [Ad 65 2 2,Ad 66 3 5,Ad 67 10 4,Bg 68 86 65 66 67,Aa 64 68,Al 69 64 0,Al 70 64 1,El 11 0 0 1,Aj 4 11 69,Aa 12 70] [2,3,8,10,12,58,59,60]<|Rq [Aa 71 12,Bb 72 71,Aa 73 72,Aq 74 10 2 73,Bs 75 74 0 73,As 76 75 73,Aq 77 3 3 73,As 78 77 73,⟨some 79,.bin (.i) .sub (.s 78) (.c (.int .i64 1)),some (73,false)⟩,⟨some 80,.call 85 [.s 76,.c (.int .i64 (-1)),.s 79],some (73,false)⟩,Bn 81 80 73,At 82 73 81,Aa 83 82,Aq 84 10 2 83,Bs 85 84 1 83,As 86 85 83,⟨some 87,.call 85 [.s 86,.c (.int .i64 (-1000000)),.c (.int .i64 1000000)],some (83,false)⟩,Bn 88 87 83,At 89 83 88] [2,3,8,10,58,59,60,89]<|Co 89 (Rq [Ae 4 6] [4]<|.ret)<|Sk [2,3,8,10,58,59,60])<|Rq [Ac 90 10 2,Ai 91 90 0,Ab 92 91,Bi 93 92 0] [2,3,8,10,58,59,60,93]<|Co 93 (Re [Bo 94 8,Ac 95 10 2,Ai 96 95 0,Ab 97 96,Cj 98 94 97 1,Dk 98] [2,3,8,58,59,60])<|Sk [2,3,8,58,59,60])<|Re [An 99 60 1,Aa 60 99] [2,3,8,58,59,60])<|Sq (Rq [Ac 100 3 3,Ab 101 100,Ac 102 3 4,Ab 103 102,Ap 104 87 101 103,Aa 13 104] [8,13]<|Rq [Aa 105 13,Ax 106 105 0] [8,13,106]<|Co 106 (Rq [Aa 107 13,Aa 4 107] [4]<|.ret)<|Sk [8])<|Sq (Rq [Bo 108 8,⟨some 109,.calll 88 [.s 108,.c (.bool false)],none⟩] [109]<|Co 109 (Rq [Ae 4 9] [4]<|.ret)<|Sk [])<|Rq [Ae 4 0] [4]<|.ret) [.tmp 4]:= by decide +kernel
theorem c39 (t:Types) (p:Pattern) (r:Int) (h:attribute_Valid t p=some r):Sound prog 39 [eTypes t,ePattern p] (.sh (eI r)):= by
 refine Fn ck39 fun hw=>?_
 unfold attribute_Valid at h
 refine E<|G<|X B B<|X B B<|D B<|F km2 fun _=>?_
 refine E<|E<|G<|M B B (B:_=eTypes t) ?_
 obtain ⟨x16,hx16,h⟩:=J h
 refine e8 B (c79 t _ hx16)<|e5 B<|b4 B B<|b4 B B<|D B<|D B<|F km3 fun _=>?_
 refine E<|G<|D B<|a9 B B<|F km4 fun _=>?_
 refine U B (fun hc20=>?_) (fun hc20=>?_)
 ·replace h:=R hc20 h
  refine E<|G<|D B<|D B<|F km1 fun _=>?_
  exact L (by cases h;rfl)
 ·replace h:=S hc20 h
  refine T km2 fun _=>?_
  refine E<|E<|G<|O B<|M B B (B:_=eGraph p.Graph) ?_
  obtain ⟨x24,hx24,h⟩:=J h
  refine V B (c80 p.Graph _ hx24)<|D B<|F km3 fun _=>?_
  refine E<|G<|D B<|a9 B B<|F km4 fun _=>?_
  refine U B (fun hc26=>?_) (fun hc26=>?_)
  ·replace h:=R hc26 h
   refine E<|G<|D B<|D B<|F km1 fun _=>?_
   exact L (by cases h;rfl)
  ·replace h:=S hc26 h
   refine T km2 fun _=>?_
   refine E<|E<|G<|O B<|d5 B<|K B<|g1 B ?_
   obtain ⟨x32,hx32,h⟩:=J h
   refine V B (c81 p.Graph.Nodes (fun y0=>attribute_Valid_1 y0 t) _ _ (fun y0 r h=>c82 y0 t r h) _ hx32)<|D B ?_
   obtain ⟨x39,hx39,h⟩:=J h
   refine gX 6 [34,35,36,37,38] 39 x39 x32 (fun hg39=>?_) (fun hg39=>?_) ?_
   ·replace h:=R hg39 hx39
    cases h
    refine I B hg39<|I B hg39<|I B hg39<|I B hg39<|I B hg39<|a4 B hg39 B ?_
    exact ⟨⟨_,_,_,_,_,B⟩⟩
   ·replace h:=S hg39 hx39
    refine H B hg39<|O B<|H B hg39<|d5 B<|H B hg39<|K B<|H B hg39<|g1 B ?_
    obtain ⟨x38,hx38,h⟩:=J h
    refine H B hg39<|V B (c83 p.Graph.Edges (fun y0=>attribute_Valid_2 y0 t) _ _ (fun y0 r h=>c84 y0 t r h) _ hx38) ?_
    cases h
    refine a5 B hg39 B ?_
    exact ⟨⟨_,_,_,_,_,B⟩⟩
   rintro _ ⟨_,_,_,_,_,rfl⟩
   refine F km3 fun _=>?_
   refine U B (fun hc39=>?_) (fun hc39=>?_)
   ·replace h:=R hc39 h
    refine E<|G<|D B<|F km1 fun _=>?_
    exact L (by cases h;rfl)
   ·replace h:=S hc39 h
    refine T km2 fun _=>?_
    refine E<|E<|G<|O B<|K B ?_
    obtain ⟨x42,hx42,h⟩:=J h
    refine V B (c85 p.Vars 0 12 _ hx42)<|d4 B<|F km3 fun _=>?_
    refine U B (fun hc43=>?_) (fun hc43=>?_)
    ·replace h:=R hc43 h
     refine E<|G<|D B<|F km1 fun _=>?_
     exact L (by cases h;rfl)
    ·replace h:=S hc43 h
     refine T km2 fun _=>?_
     refine E<|E<|G<|O B<|K B<|W B B<|f3 B B<|D B ?_
     refine gO 5 [49,50,51,52] 53 (decide (10<(p.Slots.length:Int))) (decide (10<(p.Tests.length:Int))) (fun hg53=>?_) (fun hg53=>?_) ?_
     ·refine I B hg53<|I B hg53<|I B hg53<|I B hg53<|a4 B hg53 B ?_
      exact ⟨⟨_,_,_,_,B⟩⟩
     ·refine H B hg53<|O B<|H B hg53<|K B<|H B hg53<|W B B<|H B hg53<|f3 B B<|a5 B hg53 B ?_
      exact ⟨⟨_,_,_,_,B⟩⟩
     rintro _ ⟨_,_,_,_,rfl⟩
     refine F km3 fun _=>?_
     refine U B (fun hc53=>?_) (fun hc53=>?_)
     ·replace h:=R hc53 h
      refine E<|G<|D B<|F km1 fun _=>?_
      exact L (by cases h;rfl)
     ·replace h:=S hc53 h
      refine T km2 fun _=>?_
      refine E<|G<|O B<|K B ?_
      obtain ⟨x56,hx56,h⟩:=J h
      refine m3 (z:=false) B B B hx56 B<|g3 B B (by decide)<|F (kt<|kt<|kx<|kn) fun _=>?_
      refine E<|E<|G<|O B<|K B<|W B B<|D B<|F (kt<|kt<|kx<|kt<|kt<|kt<|kn) fun _=>?_
      obtain ⟨o0,ho0,h⟩:=d6 h
      refine d9 ho0 (fun (i0:Int) (s0:List Bool)=>[(2,.tv (.pt (eTypes t).cells)),(3,.tv (.pt (ePattern p).cells)),(8,.xo 1 (List.map eB s0)),(58,.tv (lS p.Slots)),(59,.tv (eI (p.Slots.length:Int))),(60,.tv (eI i0))]) (fun (s0:List Bool)=>[(3,.tv (.pt (ePattern p).cells)),(8,.xo 1 (List.map eB s0))]) (fun zv ze=>resIs ([.tmp 4]) (.sh (eI zv)) ze) B ?_ ?_ ?_ ?_
      ·clear h ho0
       intro i0 s0 r0 hi0 h hw0
       refine E<|G<|Y B B<|F (kt<|kt<|kx<|kt<|kt<|kt<|kt<|kn) fun _=>?_
       refine E<|d1 B (d2 hi0)<|T (kt<|kt<|kx<|kt<|kt<|kt<|kn) fun _=>?_
       refine E<|b3<|E<|G ?_
       obtain ⟨x62,hx62,h⟩:=J h
       refine a2 B B B hx62 B<|M B B (B:_=eSlot x62)<|b6 B<|a6 B B B B B<|F (kt<|kt<|kx<|kb<|kt<|kt<|kt<|kn) fun _=>?_
       refine E<|E<|G<|M B B (B:_=eTypes t)<|M B B (B:_=ePattern p)<|M B B (B:_=eSlot x62) ?_
       obtain ⟨x68,hx68,h⟩:=J h
       refine e8 B (c86 t p x62 _ hx68)<|e5 B<|b4 B B<|b4 B B<|b6 B<|a6 B B B B B<|D B<|F (kt<|kt<|kx<|kb<|kt<|kt<|kt<|kt<|kn) fun _=>?_
       refine E<|G<|D B<|d4 B<|D B ?_
       obtain ⟨x82,hx82,h⟩:=J h
       refine gX 9 [74,75,76,77,78,79,80,81] 82 x82 (!x68.2) (fun hg82=>?_) (fun hg82=>?_) ?_
       ·replace h:=R hg82 hx82
        cases h
        refine I B hg82<|I B hg82<|I B hg82<|I B hg82<|I B hg82<|I B hg82<|I B hg82<|I B hg82<|a4 B hg82 B ?_
        exact ⟨⟨_,_,_,_,_,_,_,_,B⟩⟩
       ·replace h:=S hg82 hx82
        refine H B hg82<|a7 B<|H B hg82<|b5 B B<|H B hg82<|K B<|H B hg82<|O B<|H B hg82<|K B<|H B hg82<|g6 B B ?_
        obtain ⟨x80,hx80,h⟩:=J h
        refine H B hg82<|V B (c85 x62.Term.Var (-1) (w64 (p.Vars - 1)) _ hx80)<|H B hg82<|d4 B ?_
        cases h
        refine a5 B hg82 B ?_
        exact ⟨⟨_,_,_,_,_,_,_,_,B⟩⟩
       rintro _ ⟨_,_,_,_,_,_,_,_,rfl⟩
       refine D B ?_
       obtain ⟨x89,hx89,h⟩:=J h
       refine gX 6 [84,85,86,87,88] 89 x89 x82 (fun hg89=>?_) (fun hg89=>?_) ?_
       ·replace h:=R hg89 hx89
        cases h
        refine I B hg89<|I B hg89<|I B hg89<|I B hg89<|I B hg89<|a4 B hg89 B ?_
        exact ⟨⟨_,_,_,_,_,B⟩⟩
       ·replace h:=S hg89 hx89
        refine H B hg89<|a7 B<|H B hg89<|b5 B B<|H B hg89<|K B ?_
        obtain ⟨x87,hx87,h⟩:=J h
        refine H B hg89<|V B (c85 x62.Term.Add (-1000000) 1000000 _ hx87)<|H B hg89<|d4 B ?_
        cases h
        refine a5 B hg89 B ?_
        exact ⟨⟨_,_,_,_,_,B⟩⟩
       rintro _ ⟨_,_,_,_,_,rfl⟩
       refine F (kt<|kt<|kx<|kb<|kt<|kt<|kt<|kt<|kn) fun _=>?_
       refine U B (fun hc89=>?_) (fun hc89=>?_)
       ·replace h:=R hc89 h
        refine E<|G<|D B<|F km1 fun _=>?_
        refine L ?_
        cases h
        exact ⟨_,rfl,rfl⟩
       ·replace h:=S hc89 h
        refine T (kt<|kt<|kx<|kb<|kt<|kt<|kt<|kn) fun _=>?_
        refine E<|G<|a7 B<|b5 B B<|K B<|e1 B B<|F (kt<|kt<|kx<|kb<|kt<|kt<|kt<|kt<|kn) fun _=>?_
        refine U B (fun hc93=>?_) (fun hc93=>?_)
        ·replace h:=R hc93 h
         refine G<|f4 B<|a7 B<|b5 B B<|K B ?_
         obtain ⟨x98,hx98,h⟩:=J h
         refine g7 B B B hx98<|g9 (i:=0) (b:=true) B B B B (fun _=>rfl) hx98 B B B B B B<|F (kt<|kt<|kx<|kt<|kt<|kt<|kn) fun _=>?_
         refine G<|a8 B B<|D B<|F (kt<|kt<|kx<|kt<|kt<|kt<|kn) ?_
         cases h
         refine ⟨_,B,?_⟩
         rw [Ktv rfl (Ktv rfl (Kxo rfl (Ktv rfl (Ktv rfl (Ktv rfl (Knil _))))))]
         rw [b7 (Z (hw0 60)) hi0 (b9 (Z (hw0 59)))]
         all_goals rfl
        ·replace h:=S hc93 h
         refine T (kt<|kt<|kx<|kt<|kt<|kt<|kn) fun _=>?_
         refine G<|a8 B B<|D B<|F (kt<|kt<|kx<|kt<|kt<|kt<|kn) ?_
         cases h
         refine ⟨_,B,?_⟩
         rw [Ktv rfl (Ktv rfl (Kxo rfl (Ktv rfl (Ktv rfl (Ktv rfl (Knil _))))))]
         rw [b7 (Z (hw0 60)) hi0 (b9 (Z (hw0 59)))]
         all_goals rfl
      ·intro i0 s0 hi0
       refine E<|G<|Y B B<|F (kt<|kt<|kx<|kt<|kt<|kt<|kt<|kn) fun _=>?_
       refine E<|d0 B (d3 hi0)<|b8 (kt<|kx<|kn) ?_
       exact ⟨rfl,rfl⟩
      ·intro s0 hs
       replace h:=d7 h hs
       intro _
       refine E<|E<|G<|O B<|K B<|O B<|K B ?_
       obtain ⟨x104,hx104,h⟩:=J h
       refine V B (c87 p.Vars p.Tests _ hx104)<|D B<|F (kx<|kt<|kn) fun _=>?_
       refine E<|G<|D B<|a9 B B<|F (kx<|kt<|kt<|kn) fun _=>?_
       refine U B (fun hc106=>?_) (fun hc106=>?_)
       ·replace h:=R hc106 h
        refine E<|G<|D B<|D B<|F km1 fun _=>?_
        exact L (by cases h;rfl)
       ·replace h:=S hc106 h
        refine T (kx<|kn) fun _=>?_
        refine E<|E<|G<|f4 B ?_
        obtain ⟨x109,hx109,h⟩:=J h
        refine l0 B (c88 s0 false _ hx109) B<|F km1 fun _=>?_
        refine U B (fun hc109=>?_) (fun hc109=>?_)
        ·replace h:=R hc109 h
         refine E<|G<|D B<|F km1 fun _=>?_
         exact L (by cases h;rfl)
        ·replace h:=S hc109 h
         refine T kn fun _=>?_
         refine E<|G<|D B<|F km1 fun _=>?_
         exact L (by cases h;rfl)
      ·intro v0 ze hv hR
       replace h:=d8 h hv
       cases h
       exact hR
theorem ck156:CK f156 (Rq [Af 1 0,Ah 2] [1]<|Rq [Ac 4 1 4,Ad 5 4 5,Da 3 1 3 4 0 5,Aj 5 3 5] [1,3]<|Rq [Ac 6 1 2,Ai 7 6 0,Ab 8 7,Ag 9 8,Ac 10 1 2,Ai 11 10 1,Ab 12 11,Ag 13 12,Bt 14 9 13,Ac 15 3 0,Ai 16 15 0,Ab 17 16,Ag 18 17,Bt 19 14 18,Ac 20 3 0,Ai 21 20 1,Ab 22 21,Ag 23 22,Bt 24 19 23,Ac 25 3 2,Ab 26 25,Ag 27 26,Bt 28 24 27,Ac 29 3 4,Ab 30 29,Ag 31 30,Bt 32 28 31,Ar 33 32 0,Aa 34 33,Av 35 3 3 34,Aw 36 35 34,Bz 37 36 0 34,Ao 38 34 37,Aa 2 38] [2]<|.ret) [.tmp 2]:= by decide +kernel
theorem c156 (c:Condition) (r:Bool) (h:condition_bare c=some r):Sound prog 156 [eCondition c] (.sh (eB r)):= by
 refine Fn ck156 fun hw=>?_
 unfold condition_bare at h
 refine E<|G<|X B B<|D B<|F km1 fun _=>?_
 refine E<|G<|O B<|M B B (B:_=ePattern c.Pattern)<|b6 B<|a6 B B B B B<|F (kt<|kb<|kn) fun _=>?_
 refine E<|G<|O B<|d5 B<|K B<|W B B<|O B<|d5 B<|K B<|W B B<|a8 B B<|a7 B<|b5 B B<|K B<|W B B<|a8 B B<|a7 B<|b5 B B<|K B<|W B B<|a8 B B<|a7 B<|K B<|W B B<|a8 B B<|a7 B<|K B<|W B B<|a8 B B<|b2 B B ?_
 refine D B ?_
 refine gA 4 [35,36,37] 38 (decide ((w64 ((w64 ((w64 ((w64 ((w64 ((c.Map.Nodes.length:Int)+(c.Map.Edges.length:Int)))+(c.Pattern.Graph.Nodes.length:Int)))+(c.Pattern.Graph.Edges.length:Int)))+(c.Pattern.Slots.length:Int)))+(c.Pattern.Tests.length:Int)))=0)) (decide (c.Pattern.Vars=0)) (fun hg38=>?_) (fun hg38=>?_) ?_
 ·refine H B hg38<|a7 B<|H B hg38<|K B<|H B hg38<|b2 B B<|a4 B hg38 B ?_
  exact ⟨⟨_,_,_,B⟩⟩
 ·refine I B hg38<|I B hg38<|I B hg38<|a5 B hg38 B ?_
  exact ⟨⟨_,_,_,B⟩⟩
 rintro _ ⟨_,_,_,rfl⟩
 refine D B<|F km1 fun _=>?_
 exact L (by cases h;rfl)
theorem ck219:CK f219 (Rq [Ae 4 0] [0,1]<|Sq (Rq [Aa 6 0,Ag 7 6,Ae 8 0] [0,1,7,8]<|Bl 0<|Lo [0,1,7,8]<|Rq [Am 9 8 7] [0,1,7,8,9]<|Sq (Co 9 (Sk [0,1,7,8])<|Ex 0 [])<|Sq (Bl 1<|Rq [Aa 10 8,Aa 5 10] [0,1,5,7,8]<|Rq [Aa 11 1,Aa 12 0,Aa 13 5,Ak 14 12 13 9,Ad 15 14 9,Bx 16 11 15] [0,1,5,7,8,16]<|Co 16 (Rq [Aa 17 5,Aa 4 17] [4]<|.ret)<|Sk [0,1,7,8])<|Re [An 18 8 1,Aa 8 18] [0,1,7,8])<|Rq [Bm 4 (-1)] [4]<|.ret) [.tmp 4]:= by decide +kernel
theorem c219 (s_0:List Condition) (f:Condition->Option Bool) (f_f:FuncId) (k_f:List TV) (h_f:∀ (y0:Condition) r,f y0=some r->Sound prog f_f ([eCondition y0]++k_f) (.sh (eB r))) (r:Int) (h:slices_IndexFunc_Condition s_0 f=some r):Sound prog 219 [eLCondition s_0,.clo f_f k_f] (.sh (eI r)):= by
 refine Fn ck219 fun hw=>?_
 unfold slices_IndexFunc_Condition at h
 refine E<|G<|D B<|F km2 fun _=>?_
 refine E<|E<|G<|D B<|W B (eLCondition_eq _)<|D B<|F km4 fun _=>?_
 obtain ⟨o0,ho0,h⟩:=d6 h
 refine d9 ho0 (fun (i0:Int) (_:Unit)=>[(0,.tv (eLCondition s_0)),(1,.tv (.clo f_f k_f)),(7,.tv (eI (s_0.length:Int))),(8,.tv (eI i0))]) (fun (_:Unit)=>[]) (fun zv ze=>resIs ([.tmp 4]) (.sh (eI zv)) ze) B ?_ ?_ ?_ ?_
 ·clear h ho0
  intro i0 s0 r0 hi0 h hw0
  refine E<|G<|Y B B<|F km5 fun _=>?_
  refine E<|d1 B (d2 hi0)<|T km4 fun _=>?_
  refine E<|b3<|E<|G<|D B<|D B<|F km5 fun _=>?_
  refine E<|G<|D B<|D B<|D B ?_
  obtain ⟨x14,hx14,h⟩:=J h
  refine a2 B B (eLCondition_eq _) hx14 B<|M B B (B:_=eCondition x14) ?_
  obtain ⟨x16,hx16,h⟩:=J h
  refine g0 B B (h_f _ _ hx16)<|F km6 fun _=>?_
  refine U B (fun hc16=>?_) (fun hc16=>?_)
  ·replace h:=R hc16 h
   refine E<|G<|D B<|D B<|F km1 fun _=>?_
   refine L ?_
   cases h
   exact ⟨_,rfl,rfl⟩
  ·replace h:=S hc16 h
   refine T km4 fun _=>?_
   refine G<|a8 B B<|D B<|F km4 ?_
   cases h
   refine ⟨_,B,?_⟩
   rw [Ktv rfl (Ktv rfl (Ktv rfl (Ktv rfl (Knil _))))]
   rw [b7 (Z (hw0 8)) hi0 (b9 (Z (hw0 7)))]
   all_goals rfl
 ·intro i0 s0 hi0
  refine E<|G<|Y B B<|F km5 fun _=>?_
  refine E<|d0 B (d3 hi0)<|b8 kn ?_
  exact ⟨rfl,rfl⟩
 ·intro s0 hs
  replace h:=d7 h hs
  intro _
  refine E<|G<|D B<|F km1 fun _=>?_
  exact L (by cases h;rfl)
 ·intro v0 ze hv hR
  replace h:=d8 h hv
  cases h
  exact hR
theorem ck157:CK f157 (Rq [Ah 4] [0,1]<|Rq [Aa 5 0,Aa 6 1,Ap 7 219 5 6,Bi 8 7 0,Aa 4 8] [4]<|.ret) [.tmp 4]:= by decide +kernel
theorem c157 (s_0:List Condition) (f:Condition->Option Bool) (f_f:FuncId) (k_f:List TV) (h_f:∀ (y0:Condition) r,f y0=some r->Sound prog f_f ([eCondition y0]++k_f) (.sh (eB r))) (r:Bool) (h:slices_ContainsFunc_Condition s_0 f=some r):Sound prog 157 [eLCondition s_0,.clo f_f k_f] (.sh (eB r)):= by
 refine Fn ck157 fun hw=>?_
 unfold slices_ContainsFunc_Condition at h
 refine E<|G<|D B<|F km2 fun _=>?_
 refine E<|G<|D B<|D B ?_
 obtain ⟨x7,hx7,h⟩:=J h
 refine V B (c219 s_0 f _ _ h_f _ hx7)<|e1 B B<|D B<|F km1 fun _=>?_
 exact L (by cases h;rfl)
theorem ck89:CK f89 (Rq [Af 1 0,Ah 2] [1]<|Rq [Ac 5 1 1,Ab 6 5,Ag 7 6,Aa 3 7] [1,3]<|Rq [Ah 4] [1,3,4]<|Sq (Rq [Ac 8 1 0,Ab 9 8] [1,3,4,9]<|Bl 0<|Rq [Ar 11 9 1,Aa 10 11] [1,3,4,9,10]<|Co 10 (Re [Aa 12 3,Ar 13 12 0,Aa 14 13,Be 15 1 9 14,Ca 16 156 15 14,Ao 17 14 16,Aa 4 17] [1,4])<|Rq [Ar 19 9 2,Aa 18 19] [1,3,4,9,18]<|Co 18 (Re [Aa 20 3,Ar 21 20 1,Aa 22 21,Be 23 1 9 22,Ca 24 156 23 22,Ao 25 22 24,Aa 4 25] [1,4])<|Sq (Rq [Ar 27 9 3,Aa 26 27] [1,3,4,9,26]<|Co 26 (Sk [1,3,4,9,26])<|Re [Ar 28 9 4,Aa 26 28] [1,3,4,9,26])<|Co 26 (Re [Aa 29 3,Bi 30 29 1,Aa 31 30,Be 32 1 9 31,Ca 33 156 32 31,Ao 34 31 33,Aa 4 34] [1,4])<|Rq [Ar 36 9 5,Aa 35 36] [1,3,4,35]<|Co 35 (Re [Aa 37 3,Ar 38 37 1,Aa 4 38] [1,4])<|Sk [1,4])<|Rq [Aa 39 4,Aa 40 39,Av 41 1 1 40,Aw 42 41 40,⟨some 43,.call 157 [.s 42,.c (.clo 158 [])],some (40,true)⟩,Db 44 43 40,Ao 45 40 44,Aa 2 45] [2]<|.ret) [.tmp 2]:= by decide +kernel
theorem ck158:CK f158 (Rq [Af 1 0,Ah 2] [1]<|Rq [Ad 3 1 9,Au 4 89 3,Bb 5 4,Aa 2 5] [2]<|.ret) [.tmp 2]:= by decide +kernel
theorem c89S (n:Nat) (ih_89:∀ (c:Condition) (r:Bool) (_:condition_wellFormedF n c=some r),Sound prog 89 [eCondition c] (.sh (eB r))) (ih_158:∀ (k:Condition) (r:Bool) (_:condition_wellFormed_1F n k=some r),Sound prog 158 [eCondition k] (.sh (eB r))):∀ (c:Condition) (r:Bool) (_:condition_wellFormedF (n+1) c=some r),Sound prog 89 [eCondition c] (.sh (eB r)):= by
 intro c r h
 refine Fn ck89 fun hw=>?_
 unfold condition_wellFormedF at h
 refine E<|G<|X B B<|D B<|F km1 fun _=>?_
 refine E<|G<|O B<|K B<|W B (eLCondition_eq _)<|D B<|F km2 fun _=>?_
 refine E<|G<|D B<|F km3 fun _=>?_
 refine E<|E<|G<|O B<|K B<|F km4 fun _=>?_
 refine b3<|E<|G<|b2 B B<|D B<|F km5 fun _=>?_
 obtain ⟨w1,hw1,h⟩:=J h
 refine g8 (fun ze=>ze=[(1,.tv (.pt (eCondition c).cells)),(4,.tv (eB w1))]) ?_ ?_
 ·replace h:=hw1
  clear hw1
  refine U B (fun hc10=>?_) (fun hc10=>?_)
  ·replace h:=R hc10 h
   refine G<|D B<|b2 B B<|D B ?_
   obtain ⟨x17,hx17,h⟩:=J h
   refine gX 3 [15,16] 17 x17 (decide ((c.Kids.length:Int)=0)) (fun hg17=>?_) (fun hg17=>?_) ?_
   ·replace h:=R hg17 hx17
    refine H B hg17<|M B B (B:_=eCondition c) ?_
    obtain ⟨x16,hx16,h⟩:=J h
    refine H B hg17<|V B (c156 c _ hx16) ?_
    cases h
    refine a4 B hg17 B ?_
    exact ⟨⟨_,_,B⟩⟩
   ·replace h:=S hg17 hx17
    cases h
    refine I B hg17<|I B hg17<|a5 B hg17 B ?_
    exact ⟨⟨_,_,B⟩⟩
   rintro _ ⟨_,_,rfl⟩
   refine D B<|F km2 ?_
   cases h
   exact rfl
  ·replace h:=S hc10 h
   refine E<|G<|b2 B B<|D B<|F km5 fun _=>?_
   refine U B (fun hc18=>?_) (fun hc18=>?_)
   ·replace h:=R hc18 h
    refine G<|D B<|b2 B B<|D B ?_
    obtain ⟨x25,hx25,h⟩:=J h
    refine gX 3 [23,24] 25 x25 (decide ((c.Kids.length:Int)=1)) (fun hg25=>?_) (fun hg25=>?_) ?_
    ·replace h:=R hg25 hx25
     refine H B hg25<|M B B (B:_=eCondition c) ?_
     obtain ⟨x24,hx24,h⟩:=J h
     refine H B hg25<|V B (c156 c _ hx24) ?_
     cases h
     refine a4 B hg25 B ?_
     exact ⟨⟨_,_,B⟩⟩
    ·replace h:=S hg25 hx25
     cases h
     refine I B hg25<|I B hg25<|a5 B hg25 B ?_
     exact ⟨⟨_,_,B⟩⟩
    rintro _ ⟨_,_,rfl⟩
    refine D B<|F km2 ?_
    cases h
    exact rfl
   ·replace h:=S hc18 h
    refine E<|E<|G<|b2 B B<|D B<|F km5 fun _=>?_
    refine U B (fun hc26=>?_) (fun hc26=>?_)
    ·replace h:=R hc26 h
     refine T km5 fun _=>?_
     refine U B (fun hc26=>?_) (fun hc26=>?_)
     ·replace h:=R hc26 h
      refine G<|D B<|e1 B B<|D B ?_
      obtain ⟨x34,hx34,h⟩:=J h
      refine gX 3 [32,33] 34 x34 (decide (1<=(c.Kids.length:Int))) (fun hg34=>?_) (fun hg34=>?_) ?_
      ·replace h:=R hg34 hx34
       refine H B hg34<|M B B (B:_=eCondition c) ?_
       obtain ⟨x33,hx33,h⟩:=J h
       refine H B hg34<|V B (c156 c _ hx33) ?_
       cases h
       refine a4 B hg34 B ?_
       exact ⟨⟨_,_,B⟩⟩
      ·replace h:=S hg34 hx34
       cases h
       refine I B hg34<|I B hg34<|a5 B hg34 B ?_
       exact ⟨⟨_,_,B⟩⟩
      rintro _ ⟨_,_,rfl⟩
      refine D B<|F km2 ?_
      cases h
      exact rfl
     ·replace h:=S hc26 h
      refine E<|G<|b2 B B<|D B<|F km4 fun _=>?_
      refine U B (fun hc35=>?_) (fun hc35=>?_)
      ·replace h:=R hc35 h
       refine G<|D B<|b2 B B<|D B<|F km2 ?_
       cases h
       exact rfl
      ·replace h:=S hc35 h
       refine T km2 ?_
       cases h
       exact rfl
    ·replace h:=S hc26 h
     refine G<|b2 B B<|D B<|F km5 fun _=>?_
     refine U B (fun hc26=>?_) (fun hc26=>?_)
     ·replace h:=R hc26 h
      refine G<|D B<|e1 B B<|D B ?_
      obtain ⟨x34,hx34,h⟩:=J h
      refine gX 3 [32,33] 34 x34 (decide (1<=(c.Kids.length:Int))) (fun hg34=>?_) (fun hg34=>?_) ?_
      ·replace h:=R hg34 hx34
       refine H B hg34<|M B B (B:_=eCondition c) ?_
       obtain ⟨x33,hx33,h⟩:=J h
       refine H B hg34<|V B (c156 c _ hx33) ?_
       cases h
       refine a4 B hg34 B ?_
       exact ⟨⟨_,_,B⟩⟩
      ·replace h:=S hg34 hx34
       cases h
       refine I B hg34<|I B hg34<|a5 B hg34 B ?_
       exact ⟨⟨_,_,B⟩⟩
      rintro _ ⟨_,_,rfl⟩
      refine D B<|F km2 ?_
      cases h
      exact rfl
     ·replace h:=S hc26 h
      refine E<|G<|b2 B B<|D B<|F km4 fun _=>?_
      refine U B (fun hc35=>?_) (fun hc35=>?_)
      ·replace h:=R hc35 h
       refine G<|D B<|b2 B B<|D B<|F km2 ?_
       cases h
       exact rfl
      ·replace h:=S hc35 h
       refine T km2 ?_
       cases h
       exact rfl
 rintro _ rfl
 intro _
 refine E<|G<|D B<|D B ?_
 obtain ⟨x45,hx45,h⟩:=J h
 refine gX 5 [41,42,43,44] 45 x45 w1 (fun hg45=>?_) (fun hg45=>?_) ?_
 ·replace h:=R hg45 hx45
  refine H B hg45<|O B<|H B hg45<|K B ?_
  obtain ⟨x43,hx43,h⟩:=J h
  refine H B hg45<|V B (c157 c.Kids (condition_wellFormed_1F n) _ _ (fun y0 r h=>ih_158 y0 r h) _ hx43)<|H B hg45<|d4 B ?_
  cases h
  refine a4 B hg45 B ?_
  exact ⟨⟨_,_,_,_,B⟩⟩
 ·replace h:=S hg45 hx45
  cases h
  refine I B hg45<|I B hg45<|I B hg45<|I B hg45<|a5 B hg45 B ?_
  exact ⟨⟨_,_,_,_,B⟩⟩
 rintro _ ⟨_,_,_,_,rfl⟩
 refine D B<|F km1 fun _=>?_
 exact L (by cases h;rfl)
theorem c158S (n:Nat) (ih_89:∀ (c:Condition) (r:Bool) (_:condition_wellFormedF n c=some r),Sound prog 89 [eCondition c] (.sh (eB r))) (ih_158:∀ (k:Condition) (r:Bool) (_:condition_wellFormed_1F n k=some r),Sound prog 158 [eCondition k] (.sh (eB r))):∀ (k:Condition) (r:Bool) (_:condition_wellFormed_1F (n+1) k=some r),Sound prog 158 [eCondition k] (.sh (eB r)):= by
 intro k r h
 refine Fn ck158 fun hw=>?_
 unfold condition_wellFormed_1F at h
 refine E<|G<|X B B<|D B<|F km1 fun _=>?_
 refine E<|G<|M B B (B:_=eCondition k) ?_
 obtain ⟨x4,hx4,h⟩:=J h
 refine V B (ih_89 k _ hx4)<|d4 B<|D B<|F km1 fun _=>?_
 exact L (by cases h;rfl)
theorem c89A:∀ n:Nat,(∀ (c:Condition) (r:Bool) (_:condition_wellFormedF n c=some r),Sound prog 89 [eCondition c] (.sh (eB r)))∧(∀ (k:Condition) (r:Bool) (_:condition_wellFormed_1F n k=some r),Sound prog 158 [eCondition k] (.sh (eB r))):=by
  intro n
  induction n with
  | zero=>exact ⟨(by intro c r h; cases h),(by intro k r h; cases h)⟩
  | succ n ih=>exact ⟨c89S n ih.1 ih.2,c158S n ih.1 ih.2⟩
theorem c89 (c:Condition) (r:Bool) (h:condition_wellFormed c=some r):Sound prog 89 [eCondition c] (.sh (eB r)):=by
  obtain ⟨N,hN⟩:=lim_some h
  exact (c89A N).1 c r (hN N (Nat.le_refl _))
theorem ck90:CK f90 (Rq [Af 1 0,Ae 2 0,Ae 3 0] [1]<|Rq [Ae 4 1,Ae 5 0] [1,4,5]<|Sq (Rq [Ac 10 1 1,Ab 11 10,Ag 12 11,Ae 13 0] [1,4,5,11,12,13]<|Bl 0<|Lo [1,4,5,11,12,13]<|Rq [Am 14 13 12] [1,4,5,11,12,13,14]<|Sq (Co 14 (Sk [1,4,5,11,12,13])<|Ex 0 [1,4,5])<|Sq (Bl 1<|Rq [Ak 15 11 13 9,Ad 16 15 9,Bf 7 0 9 1 1 1 3 4 0 5,Aj 9 7 16] [1,4,5,7,11,12,13]<|Rq [Ad 18 7 9,Au 19 90 18,Aa 17 19,Al 20 17 0,Al 21 17 1,Aa 8 20,Aa 9 21] [1,4,5,8,9,11,12,13]<|Re [Aa 22 4,Aa 23 8,Bt 24 22 23,Aa 25 5,Aa 26 9,En 27 25 26,Aa 4 24,Aa 5 27] [1,4,5,11,12,13])<|Re [An 28 13 1,Aa 13 28] [1,4,5,11,12,13])<|Sq (Rq [Ac 29 1 0,Ab 30 29,Ar 31 30 5] [4,5,31]<|Co 31 (Re [Aa 32 5,An 33 32 1,Aa 5 33] [4,5])<|Sk [4,5])<|Rq [Aa 34 4,Aa 35 5,Aa 2 34,Aa 3 35] [2,3]<|.ret) [.tmp 2,.tmp 3]:= by decide +kernel
theorem c90S (n:Nat) (ih_90:∀ (c:Condition) (r:(Int × Int)) (_:condition_measureF n c=some r),Sound prog 90 [eCondition c] (.tp [eI r.1,eI r.2])):∀ (c:Condition) (r:(Int × Int)) (_:condition_measureF (n+1) c=some r),Sound prog 90 [eCondition c] (.tp [eI r.1,eI r.2]):= by
 intro c r h
 refine Fn ck90 fun hw=>?_
 unfold condition_measureF at h
 refine E<|G<|X B B<|D B<|D B<|F km1 fun _=>?_
 refine E<|G<|D B<|D B<|F km3 fun _=>?_
 refine E<|E<|G<|O B<|K B<|W B (eLCondition_eq _)<|D B<|F km6 fun _=>?_
 obtain ⟨s0,hs0,h⟩:=J h
 refine g2 hs0 (fun (i0:Int) (s0:Int × Int)=>[(1,.tv (.pt (eCondition c).cells)),(4,.tv (eI s0.1)),(5,.tv (eI s0.2)),(11,.tv (eLCondition c.Kids)),(12,.tv (eI (c.Kids.length:Int))),(13,.tv (eI i0))]) (fun (s0:Int × Int)=>[(1,.tv (.pt (eCondition c).cells)),(4,.tv (eI s0.1)),(5,.tv (eI s0.2))]) B ?_ ?_ ?_
 ·clear h hs0
  intro i0 s0 r0 hi0 h hw0
  refine E<|G<|Y B B<|F km7 fun _=>?_
  refine E<|d1 B (d2 hi0)<|T km6 fun _=>?_
  refine E<|b3<|E<|G ?_
  obtain ⟨x15,hx15,h⟩:=J h
  refine a2 B B (eLCondition_eq _) hx15 B<|M B B (B:_=eCondition x15)<|b6 B<|a6 B B B B B<|F (kt<|kt<|kt<|kb<|kt<|kt<|kt<|kn) fun _=>?_
  refine E<|G<|M B B (B:_=eCondition x15) ?_
  obtain ⟨x19,hx19,h⟩:=J h
  refine e8 B (ih_90 x15 _ hx19)<|e5 B<|b4 B B<|b4 B B<|D B<|D B<|F km8 fun _=>?_
  refine G<|D B<|D B<|a8 B B<|D B<|D B<|p3 B B<|D B<|D B<|F km6 fun _=>?_
  refine G<|a8 B B<|D B<|F km6 ?_
  cases h
  show Env.keep _ _=_
  rw [Ktv rfl (Ktv rfl (Ktv rfl (Ktv rfl (Ktv rfl (Ktv rfl (Knil _))))))]
  rw [b7 (Z (hw0 13)) hi0 (b9 (Z (hw0 12)))]
  all_goals rfl
 ·intro i0 s0 hi0
  refine E<|G<|Y B B<|F km7 fun _=>?_
  refine E<|d0 B (d3 hi0)<|b8 km3 ?_
  exact ⟨rfl,rfl⟩
 ·intro _
  refine E<|E<|G<|O B<|K B<|b2 B B<|F km3 fun _=>?_
  obtain ⟨w1,hw1,h⟩:=J h
  refine g8 (fun ze=>ze=[(4,.tv (eI s0.1)),(5,.tv (eI w1))]) ?_ ?_
  ·replace h:=hw1
   clear hw1
   refine U B (fun hc31=>?_) (fun hc31=>?_)
   ·replace h:=R hc31 h
    refine G<|D B<|a8 B B<|D B<|F km2 ?_
    cases h
    exact rfl
   ·replace h:=S hc31 h
    refine T km2 ?_
    cases h
    exact rfl
  rintro _ rfl
  intro _
  refine E<|G<|D B<|D B<|D B<|D B<|F km2 fun _=>?_
  refine L ?_
  cases h
  exact ⟨by decide,rfl⟩
theorem c90A:∀ n:Nat,(∀ (c:Condition) (r:(Int × Int)) (_:condition_measureF n c=some r),Sound prog 90 [eCondition c] (.tp [eI r.1,eI r.2])):=by
  intro n
  induction n with
  | zero=>intro c r h; cases h
  | succ n ih=>exact c90S n ih
theorem c90 (c:Condition) (r:(Int × Int)) (h:condition_measure c=some r):Sound prog 90 [eCondition c] (.tp [eI r.1,eI r.2]):=by
  obtain ⟨N,hN⟩:=lim_some h
  exact (c90A N) c r (hN N (Nat.le_refl _))
theorem ck40:CK f40 (Rq [Af 1 0,Ae 2 0] [1]<|Sq (Rq [Ad 5 1 9,Au 6 89 5,Bb 7 6] [1,7]<|Co 7 (Rq [Ae 2 1] [2]<|.ret)<|Sk [1])<|Sq (Rq [Ad 9 1 9,Au 10 90 9,Aa 8 10,Al 11 8 0,Al 12 8 1,Aa 3 11,Aa 4 12] [3,4]<|Rq [Aa 13 3,Bu 14 13 12,Aa 15 14,Bc 16 4 15,Cw 17 16 3 15,At 18 15 17] [18]<|Co 18 (Rq [Ae 2 3] [2]<|.ret)<|Sk [])<|Rq [Ae 2 0] [2]<|.ret) [.tmp 2]:= by decide +kernel
theorem c40 (c:Condition) (r:Int) (h:condition_shape c=some r):Sound prog 40 [eCondition c] (.sh (eI r)):= by
 refine Fn ck40 fun hw=>?_
 unfold condition_shape at h
 refine E<|G<|X B B<|D B<|F km1 fun _=>?_
 refine E<|E<|G<|M B B (B:_=eCondition c) ?_
 obtain ⟨x6,hx6,h⟩:=J h
 refine V B (c89 c _ hx6)<|d4 B<|F km2 fun _=>?_
 refine U B (fun hc7=>?_) (fun hc7=>?_)
 ·replace h:=R hc7 h
  refine E<|G<|D B<|F km1 fun _=>?_
  exact L (by cases h;rfl)
 ·replace h:=S hc7 h
  refine T km1 fun _=>?_
  refine E<|E<|G<|M B B (B:_=eCondition c) ?_
  obtain ⟨x10,hx10,h⟩:=J h
  refine e8 B (c90 c _ hx10)<|e5 B<|b4 B B<|b4 B B<|D B<|D B<|F km2 fun _=>?_
  refine E<|G<|D B<|f3 B B<|D B ?_
  refine gO 3 [16,17] 18 (decide (12<x10.1)) (decide (3<x10.2)) (fun hg18=>?_) (fun hg18=>?_) ?_
  ·refine I B hg18<|I B hg18<|a4 B hg18 B ?_
   exact ⟨⟨_,_,B⟩⟩
  ·refine H B hg18<|D B<|H B hg18<|f3 B B<|a5 B hg18 B ?_
   exact ⟨⟨_,_,B⟩⟩
  rintro _ ⟨_,_,rfl⟩
  refine F km1 fun _=>?_
  refine U B (fun hc18=>?_) (fun hc18=>?_)
  ·replace h:=R hc18 h
   refine E<|G<|D B<|F km1 fun _=>?_
   exact L (by cases h;rfl)
  ·replace h:=S hc18 h
   refine T kn fun _=>?_
   refine E<|G<|D B<|F km1 fun _=>?_
   exact L (by cases h;rfl)
theorem ck220:CK f220 (Rq [Ae 4 0] [0,1]<|Sq (Rq [Aa 6 0,Ag 7 6,Ae 8 0] [0,1,7,8]<|Bl 0<|Lo [0,1,7,8]<|Rq [Am 9 8 7] [0,1,7,8,9]<|Sq (Co 9 (Sk [0,1,7,8])<|Ex 0 [])<|Sq (Bl 1<|Rq [Aa 10 8,Aa 5 10] [0,1,5,7,8]<|Rq [Aa 11 1,Aa 12 0,Aa 13 5,Ak 14 12 13 4,Ad 15 14 4,Bx 16 11 15] [0,1,5,7,8,16]<|Co 16 (Rq [Aa 17 5,Aa 4 17] [4]<|.ret)<|Sk [0,1,7,8])<|Re [An 18 8 1,Aa 8 18] [0,1,7,8])<|Rq [Bm 4 (-1)] [4]<|.ret) [.tmp 4]:= by decide +kernel
theorem c220 (s_0:List Slot) (f:Slot->Option Bool) (f_f:FuncId) (k_f:List TV) (h_f:∀ (y0:Slot) r,f y0=some r->Sound prog f_f ([eSlot y0]++k_f) (.sh (eB r))) (r:Int) (h:slices_IndexFunc_Slot s_0 f=some r):Sound prog 220 [lS s_0,.clo f_f k_f] (.sh (eI r)):= by
 refine Fn ck220 fun hw=>?_
 unfold slices_IndexFunc_Slot at h
 refine E<|G<|D B<|F km2 fun _=>?_
 refine E<|E<|G<|D B<|W B B<|D B<|F km4 fun _=>?_
 obtain ⟨o0,ho0,h⟩:=d6 h
 refine d9 ho0 (fun (i0:Int) (_:Unit)=>[(0,.tv (lS s_0)),(1,.tv (.clo f_f k_f)),(7,.tv (eI (s_0.length:Int))),(8,.tv (eI i0))]) (fun (_:Unit)=>[]) (fun zv ze=>resIs ([.tmp 4]) (.sh (eI zv)) ze) B ?_ ?_ ?_ ?_
 ·clear h ho0
  intro i0 s0 r0 hi0 h hw0
  refine E<|G<|Y B B<|F km5 fun _=>?_
  refine E<|d1 B (d2 hi0)<|T km4 fun _=>?_
  refine E<|b3<|E<|G<|D B<|D B<|F km5 fun _=>?_
  refine E<|G<|D B<|D B<|D B ?_
  obtain ⟨x14,hx14,h⟩:=J h
  refine a2 B B B hx14 B<|M B B (B:_=eSlot x14) ?_
  obtain ⟨x16,hx16,h⟩:=J h
  refine g0 B B (h_f _ _ hx16)<|F km6 fun _=>?_
  refine U B (fun hc16=>?_) (fun hc16=>?_)
  ·replace h:=R hc16 h
   refine E<|G<|D B<|D B<|F km1 fun _=>?_
   refine L ?_
   cases h
   exact ⟨_,rfl,rfl⟩
  ·replace h:=S hc16 h
   refine T km4 fun _=>?_
   refine G<|a8 B B<|D B<|F km4 ?_
   cases h
   refine ⟨_,B,?_⟩
   rw [Ktv rfl (Ktv rfl (Ktv rfl (Ktv rfl (Knil _))))]
   rw [b7 (Z (hw0 8)) hi0 (b9 (Z (hw0 7)))]
   all_goals rfl
 ·intro i0 s0 hi0
  refine E<|G<|Y B B<|F km5 fun _=>?_
  refine E<|d0 B (d3 hi0)<|b8 kn ?_
  exact ⟨rfl,rfl⟩
 ·intro s0 hs
  replace h:=d7 h hs
  intro _
  refine E<|G<|D B<|F km1 fun _=>?_
  exact L (by cases h;rfl)
 ·intro v0 ze hv hR
  replace h:=d8 h hv
  cases h
  exact hR
theorem ck159:CK f159 (Rq [Ah 4] [0,1]<|Rq [Aa 5 0,Aa 6 1,Ap 7 220 5 6,Bi 8 7 0,Aa 4 8] [4]<|.ret) [.tmp 4]:= by decide +kernel
theorem c159 (s_0:List Slot) (f:Slot->Option Bool) (f_f:FuncId) (k_f:List TV) (h_f:∀ (y0:Slot) r,f y0=some r->Sound prog f_f ([eSlot y0]++k_f) (.sh (eB r))) (r:Bool) (h:slices_ContainsFunc_Slot s_0 f=some r):Sound prog 159 [lS s_0,.clo f_f k_f] (.sh (eB r)):= by
 refine Fn ck159 fun hw=>?_
 unfold slices_ContainsFunc_Slot at h
 refine E<|G<|D B<|F km2 fun _=>?_
 refine E<|G<|D B<|D B ?_
 obtain ⟨x7,hx7,h⟩:=J h
 refine V B (c220 s_0 f _ _ h_f _ hx7)<|e1 B B<|D B<|F km1 fun _=>?_
 exact L (by cases h;rfl)
theorem ck160:CK f160 (Rq [Af 2 0,Ah 3] [1,2]<|Rq [Ac 4 2 2,Ai 5 4 0,Ab 6 5,Ab 7 1,Cu 8 6 7,Aa 3 8] [3]<|.ret) [.tmp 3]:= by decide +kernel
theorem c160 (s_0:Slot) (c0:Int) (r:Bool) (h:condition_pattern_1 s_0 c0=some r):Sound prog 160 [eSlot s_0,.pt [eI c0]] (.sh (eB r)):= by
 refine Fn ck160 fun hw=>?_
 unfold condition_pattern_1 at h
 refine E<|G<|X B B<|D B<|F km2 fun _=>?_
 refine E<|G<|O B<|d5 B<|K B<|K B<|b2 B B<|D B<|F km1 fun _=>?_
 exact L (by cases h;rfl)
theorem ck91:CK f91 (Rq [Af 3 0,Af 4 1,Ae 6 0] [2,3,4]<|Rq [Ad 9 3 2,Ad 10 4 5,Ap 11 39 9 10,Aa 7 11] [2,4,7]<|Sq (Rq [Aa 12 7,Ax 13 12 9] [2,4,7,13]<|Co 13 (Rq [Aa 14 7,Aa 6 14] [6]<|.ret)<|Sk [2,4,7])<|Sq (Rq [Aa 15 2,⟨some 8,.alc [⟨false,.int .i64 0⟩],none⟩,Aj 1 8 15,Dh 8] [4,7,8]<|Bl 0<|Lo [4,7,8]<|Sq (Rq [Ab 16 8,Ac 17 4 3,Ab 18 17,Am 19 16 18] [4,7,8,19]<|Co 19 (Sk [4,7,8])<|Ex 0 [])<|Sq (Bl 1<|Rq [Ac 22 4 2,Ab 23 22,Ce 24 160 8,Ap 25 159 23 24,Bb 26 25] [4,7,8,26]<|Co 26 (Rq [Aa 27 7,Aa 6 27] [6]<|.ret)<|Sk [4,7,8])<|Sq (Rq [Ab 28 8] [4,7,28]<|Re [⟨some 8,.alc [⟨false,.int .i64 0⟩],none⟩,Aj 1 8 28] [4,7,8])<|Re [Ab 20 8,An 21 20 1,Aj 1 8 21,Dh 8] [4,7,8])<|Rq [Ae 6 0] [6]<|.ret) [.tmp 6]:= by decide +kernel
theorem c91 (t:Types) (q:Pattern) (outer:Int) (r:Int) (h:condition_pattern t q outer=some r):Sound prog 91 [eTypes t,ePattern q,eI outer] (.sh (eI r)):= by
 refine Fn ck91 fun hw=>?_
 unfold condition_pattern at h
 refine E<|G<|X B B<|X B B<|D B<|F km3 fun _=>?_
 refine E<|G<|M B B (B:_=eTypes t)<|M B B (B:_=ePattern q) ?_
 obtain ⟨x11,hx11,h⟩:=J h
 refine V B (c39 t q _ hx11)<|D B<|F km3 fun _=>?_
 refine E<|E<|G<|D B<|a9 B B<|F km4 fun _=>?_
 refine U B (fun hc13=>?_) (fun hc13=>?_)
 ·replace h:=R hc13 h
  refine E<|G<|D B<|D B<|F km1 fun _=>?_
  exact L (by cases h;rfl)
 ·replace h:=S hc13 h
  refine T km3 fun _=>?_
  refine E<|E<|G<|D B<|b6 B<|a6 B B B B B<|l3 B B<|F km3 fun _=>?_
  obtain ⟨o0,ho0,h⟩:=d6 h
  refine m0 ho0 (fun (s0:Int)=>[(4,.tv (.pt (ePattern q).cells)),(7,.tv (eI x11)),(8,.tv (.pt [eI s0]))]) (fun (s0:Int)=>[]) (fun zv ze=>resIs ([.tmp 6]) (.sh (eI zv)) ze) B ?_ ?_ ?_
  ·clear h ho0
   intro s0 r0 h hw0
   refine E<|E<|G<|K B<|O B<|K B<|Y B B<|F km4 fun _=>?_
   refine U B (fun hc19=>?_) (fun hc19=>?_)
   ·replace h:=R hc19 h
    refine T km3 fun _=>?_
    refine E<|b3<|E<|G<|O B<|K B<|g1 B ?_
    obtain ⟨x25,hx25,h⟩:=J h
    refine V B (c159 q.Slots (fun y0=>condition_pattern_1 y0 s0) _ _ (fun y0 r h=>c160 y0 s0 r h) _ hx25)<|d4 B<|F km4 fun _=>?_
    refine U B (fun hc26=>?_) (fun hc26=>?_)
    ·replace h:=R hc26 h
     refine E<|G<|D B<|D B<|F km1 fun _=>?_
     refine L ?_
     cases h
     exact ⟨_,rfl,rfl⟩
    ·replace h:=S hc26 h
     refine T km3 fun _=>?_
     refine E<|E<|G<|K B<|F km3 fun _=>?_
     refine G<|b6 B<|a6 B B B B B<|F (kt<|kt<|kb<|kn) fun _=>?_
     refine G<|K B<|a8 B B<|a6 B B B B B<|l3 B B<|F km3 ?_
     cases h
     refine ⟨_,B,?_⟩
     rw [Ktv rfl (Ktv rfl (Ktv rfl (Knil _)))]
     all_goals rfl
   ·replace h:=S hc19 h
    refine b8 kn ?_
    refine ⟨rfl,?_⟩
    cases h
    exact ⟨_,rfl,rfl⟩
  ·intro s0 hs
   replace h:=d7 h hs
   intro _
   refine E<|G<|D B<|F km1 fun _=>?_
   exact L (by cases h;rfl)
  ·intro v0 ze hv hR
   replace h:=d8 h hv
   cases h
   exact hR
theorem ck92:CK f92 (Rq [Af 3 0,Af 4 1,Af 5 2,Ae 6 0] [3,4,5]<|Sq (Rq [Ad 15 3 2,Au 16 80 15,Aa 7 16] [3,4,5,7]<|Rq [Aa 17 7,Ax 18 17 0] [3,4,5,7,18]<|Co 18 (Rq [Aa 19 7,Aa 6 19] [6]<|.ret)<|Sk [3,4,5])<|Sq (Rq [Ad 20 4 2,Au 21 80 20,Aa 8 21] [3,4,5,8]<|Rq [Aa 22 8,Ax 23 22 0] [3,4,5,8,23]<|Co 23 (Rq [Aa 24 8,Aa 6 24] [6]<|.ret)<|Sk [3,4,5])<|Sq (Rq [Ac 25 5 0,Ab 26 25,Ag 27 26,Ac 28 3 0,Ab 29 28,Ag 30 29,Bd 31 27 30,Aa 32 31,Aq 33 5 1 32,As 34 33 32,Bj 35 34 32,Aq 36 3 1 32,As 37 36 32,Bj 38 37 32,Cb 39 35 38 32,At 40 32 39] [3,4,5,40]<|Co 40 (Rq [Ae 6 20] [6]<|.ret)<|Sk [3,4,5])<|Sq (Rq [Ac 41 5 0,Ab 42 41,Ag 43 42,Ae 44 0] [3,4,5,42,43,44]<|Bl 0<|Lo [3,4,5,42,43,44]<|Rq [Am 45 44 43] [3,4,5,42,43,44,45]<|Sq (Co 45 (Sk [3,4,5,42,43,44])<|Ex 0 [3,4,5])<|Sq (Bl 1<|Rq [Aa 46 44,Ak 47 42 44 1,Ab 48 47,Aa 9 46,Aa 10 48] [3,4,5,9,10,42,43,44]<|Sq (Rq [Aa 49 10,Cn 50 49 0,Aa 51 50,Bc 52 10 51,Aq 53 4 0 51,As 54 53 51,Bj 55 54 51,Ci 56 52 55 51,At 57 51 56] [3,4,5,9,10,42,43,44,57]<|Co 57 (Rq [Ae 6 6] [6]<|.ret)<|Sk [3,4,5,9,10,42,43,44])<|Sq (Dr [58,59,60,61,62,63,64,65,66,67,68] [Ac 58 4 0,Ab 59 58,Aa 60 10,Ak 61 59 60 1,Ab 62 61,Ac 63 3 0,Ab 64 63,Aa 65 9,Ak 66 64 65 1,Ab 67 66,Bd 68 62 67] [3,4,5,42,43,44,68])<|Co 68 (Rq [Ae 6 13] [6]<|.ret)<|Sk [3,4,5,42,43,44])<|Re [An 69 44 1,Aa 44 69] [3,4,5,42,43,44])<|Sq (Rq [Ac 70 5 1,Ab 71 70,Ag 72 71,Ae 73 0] [3,4,5,71,72,73]<|Bl 2<|Lo [3,4,5,71,72,73]<|Rq [Am 74 73 72] [3,4,5,71,72,73,74]<|Sq (Co 74 (Sk [3,4,5,71,72,73])<|Ex 2 [])<|Sq (Bl 3<|Rq [Aa 75 73,Ak 76 71 73 1,Ab 77 76,Aa 11 75,Aa 12 77] [3,4,5,11,12,71,72,73]<|Sq (Rq [Aa 78 12,Cn 79 78 0,Aa 80 79,Bc 81 12 80,Aq 82 4 1 80,As 83 82 80,Bj 84 83 80,Ci 85 81 84 80,At 86 80 85] [3,4,5,11,12,71,72,73,86]<|Co 86 (Rq [Ae 6 6] [6]<|.ret)<|Sk [3,4,5,11,12,71,72,73])<|Sq (Dr [13,14,87,88,89,90,91,92,93,94,95,96] [Ac 87 3 1,Ab 88 87,Aa 89 11,Ak 90 88 89 3,Ad 91 90 3,Ac 92 4 1,Ab 93 92,Aa 94 12,Ak 95 93 94 3,Ad 96 95 3,Cr 13 0 0 0,Cr 14 0 0 0,Aj 3 13 91,Aj 3 14 96] [3,4,5,13,14,71,72,73])<|Sq (Rq [Ac 97 13 0,Ab 98 97,Ac 99 14 0,Ab 100 99,Bd 101 98 100] [3,4,5,13,14,71,72,73,101]<|Co 101 (Rq [Ae 6 13] [6]<|.ret)<|Sk [3,4,5,13,14,71,72,73])<|Sq (Dr [102,103,104,105,106,107,108,109,110,111,112,113,114,115,116,117,118,119,120,121] [Ac 102 5 0,Ab 103 102,Ac 104 13 1,Ab 105 104,Ak 106 103 105 1,Ab 107 106,Ac 108 14 1,Ab 109 108,Bd 110 107 109,Aa 111 110,Aq 112 5 0 111,As 113 112 111,Aq 114 13 2 111,As 115 114 111,Cp 116 113 115 1 111,As 117 116 111,Aq 118 14 2 111,As 119 118 111,Cb 120 117 119 111,At 121 111 120] [3,4,5,71,72,73,121])<|Co 121 (Rq [Ae 6 11] [6]<|.ret)<|Sk [3,4,5,71,72,73])<|Re [An 122 73 1,Aa 73 122] [3,4,5,71,72,73])<|Rq [Ae 6 0] [6]<|.ret) [.tmp 6]:= by decide +kernel
theorem c92 (a:Graph) (b:Graph) (m:Morphism) (r:Int) (h:morphism_Valid a b m=some r):Sound prog 92 [eGraph a,eGraph b,eMorphism m] (.sh (eI r)):= by
 refine Fn ck92 fun hw=>?_
 unfold morphism_Valid at h
 refine E<|G<|X B B<|X B B<|X B B<|D B<|F km3 fun _=>?_
 refine E<|E<|G<|M B B (B:_=eGraph a) ?_
 obtain ⟨x16,hx16,h⟩:=J h
 refine V B (c80 a _ hx16)<|D B<|F km4 fun _=>?_
 refine E<|G<|D B<|a9 B B<|F km5 fun _=>?_
 refine U B (fun hc18=>?_) (fun hc18=>?_)
 ·replace h:=R hc18 h
  refine E<|G<|D B<|D B<|F km1 fun _=>?_
  exact L (by cases h;rfl)
 ·replace h:=S hc18 h
  refine T km3 fun _=>?_
  refine E<|E<|G<|M B B (B:_=eGraph b) ?_
  obtain ⟨x21,hx21,h⟩:=J h
  refine V B (c80 b _ hx21)<|D B<|F km4 fun _=>?_
  refine E<|G<|D B<|a9 B B<|F km5 fun _=>?_
  refine U B (fun hc23=>?_) (fun hc23=>?_)
  ·replace h:=R hc23 h
   refine E<|G<|D B<|D B<|F km1 fun _=>?_
   exact L (by cases h;rfl)
  ·replace h:=S hc23 h
   refine T km3 fun _=>?_
   refine E<|E<|G<|O B<|K B<|W B B<|O B<|K B<|W B B<|a9 B B<|D B ?_
   refine gO 8 [33,34,35,36,37,38,39] 40 (!decide ((m.Nodes.length:Int)=(a.Nodes.length:Int))) (!decide ((m.Edges.length:Int)=(a.Edges.length:Int))) (fun hg40=>?_) (fun hg40=>?_) ?_
   ·refine I B hg40<|I B hg40<|I B hg40<|I B hg40<|I B hg40<|I B hg40<|I B hg40<|a4 B hg40 B ?_
    exact ⟨⟨_,_,_,_,_,_,_,B⟩⟩
   ·refine H B hg40<|O B<|H B hg40<|K B<|H B hg40<|W B B<|H B hg40<|O B<|H B hg40<|K B<|H B hg40<|W B B<|H B hg40<|a9 B B<|a5 B hg40 B ?_
    exact ⟨⟨_,_,_,_,_,_,_,B⟩⟩
   rintro _ ⟨_,_,_,_,_,_,_,rfl⟩
   refine F km4 fun _=>?_
   refine U B (fun hc40=>?_) (fun hc40=>?_)
   ·replace h:=R hc40 h
    refine E<|G<|D B<|F km1 fun _=>?_
    exact L (by cases h;rfl)
   ·replace h:=S hc40 h
    refine T km3 fun _=>?_
    refine E<|E<|G<|O B<|K B<|W B B<|D B<|F km6 fun _=>?_
    obtain ⟨o0,ho0,h⟩:=d6 h
    refine d9 ho0 (fun (i0:Int) (_:Unit)=>[(3,.tv (.pt (eGraph a).cells)),(4,.tv (.pt (eGraph b).cells)),(5,.tv (.pt (eMorphism m).cells)),(42,.tv (lI m.Nodes)),(43,.tv (eI (m.Nodes.length:Int))),(44,.tv (eI i0))]) (fun (_:Unit)=>[(3,.tv (.pt (eGraph a).cells)),(4,.tv (.pt (eGraph b).cells)),(5,.tv (.pt (eMorphism m).cells))]) (fun zv ze=>resIs ([.tmp 6]) (.sh (eI zv)) ze) B ?_ ?_ ?_ ?_
    ·clear h ho0
     intro i0 s0 r0 hi0 h hw0
     refine E<|G<|Y B B<|F km7 fun _=>?_
     refine E<|d1 B (d2 hi0)<|T km6 fun _=>?_
     refine E<|b3<|E<|G<|D B ?_
     obtain ⟨x47,hx47,h⟩:=J h
     refine a2 B B B hx47 B<|K B<|D B<|D B<|F km8 fun _=>?_
     refine E<|E<|G<|D B<|Y B B<|D B ?_
     refine gO 6 [52,53,54,55,56] 57 (decide (x47<0)) (decide ((b.Nodes.length:Int)<=x47)) (fun hg57=>?_) (fun hg57=>?_) ?_
     ·refine I B hg57<|I B hg57<|I B hg57<|I B hg57<|I B hg57<|a4 B hg57 B ?_
      exact ⟨⟨_,_,_,_,_,B⟩⟩
     ·refine H B hg57<|D B<|H B hg57<|O B<|H B hg57<|K B<|H B hg57<|W B B<|H B hg57<|e1 B B<|a5 B hg57 B ?_
      exact ⟨⟨_,_,_,_,_,B⟩⟩
     rintro _ ⟨_,_,_,_,_,rfl⟩
     refine F km9 fun _=>?_
     refine U B (fun hc57=>?_) (fun hc57=>?_)
     ·replace h:=R hc57 h
      refine E<|G<|D B<|F km1 fun _=>?_
      refine L ?_
      cases h
      exact ⟨_,rfl,rfl⟩
     ·replace h:=S hc57 h
      refine T km8 fun _=>?_
      refine E<|e0 B<|O B<|K B<|D B ?_
      obtain ⟨x61,hx61,h⟩:=J h
      refine a2 B B B hx61 B<|K B<|O B<|K B<|D B ?_
      obtain ⟨x66,hx66,h⟩:=J h
      refine a2 B B B hx66 B<|K B<|a9 B B<|F km7 fun _=>?_
      refine U B (fun hc68=>?_) (fun hc68=>?_)
      ·replace h:=R hc68 h
       refine E<|G<|D B<|F km1 fun _=>?_
       refine L ?_
       cases h
       exact ⟨_,rfl,rfl⟩
      ·replace h:=S hc68 h
       refine T km6 fun _=>?_
       refine G<|a8 B B<|D B<|F km6 ?_
       cases h
       refine ⟨_,B,?_⟩
       rw [Ktv rfl (Ktv rfl (Ktv rfl (Ktv rfl (Ktv rfl (Ktv rfl (Knil _))))))]
       rw [b7 (Z (hw0 44)) hi0 (b9 (Z (hw0 43)))]
       all_goals rfl
    ·intro i0 s0 hi0
     refine E<|G<|Y B B<|F km7 fun _=>?_
     refine E<|d0 B (d3 hi0)<|b8 km3 ?_
     exact ⟨rfl,rfl⟩
    ·intro s0 hs
     replace h:=d7 h hs
     intro _
     refine E<|E<|G<|O B<|K B<|W B B<|D B<|F km6 fun _=>?_
     obtain ⟨o2,ho2,h⟩:=d6 h
     refine d9 ho2 (fun (i2:Int) (_:Unit)=>[(3,.tv (.pt (eGraph a).cells)),(4,.tv (.pt (eGraph b).cells)),(5,.tv (.pt (eMorphism m).cells)),(71,.tv (lI m.Edges)),(72,.tv (eI (m.Edges.length:Int))),(73,.tv (eI i2))]) (fun (_:Unit)=>[]) (fun zv ze=>resIs ([.tmp 6]) (.sh (eI zv)) ze) B ?_ ?_ ?_ ?_
     ·clear h ho2
      intro i2 s2 r2 hi2 h hw2
      refine E<|G<|Y B B<|F km7 fun _=>?_
      refine E<|d1 B (d2 hi2)<|T km6 fun _=>?_
      refine E<|b3<|E<|G<|D B ?_
      obtain ⟨x76,hx76,h⟩:=J h
      refine a2 B B B hx76 B<|K B<|D B<|D B<|F km8 fun _=>?_
      refine E<|E<|G<|D B<|Y B B<|D B ?_
      refine gO 6 [81,82,83,84,85] 86 (decide (x76<0)) (decide ((b.Edges.length:Int)<=x76)) (fun hg86=>?_) (fun hg86=>?_) ?_
      ·refine I B hg86<|I B hg86<|I B hg86<|I B hg86<|I B hg86<|a4 B hg86 B ?_
       exact ⟨⟨_,_,_,_,_,B⟩⟩
      ·refine H B hg86<|D B<|H B hg86<|O B<|H B hg86<|K B<|H B hg86<|W B B<|H B hg86<|e1 B B<|a5 B hg86 B ?_
       exact ⟨⟨_,_,_,_,_,B⟩⟩
      rintro _ ⟨_,_,_,_,_,rfl⟩
      refine F km9 fun _=>?_
      refine U B (fun hc86=>?_) (fun hc86=>?_)
      ·replace h:=R hc86 h
       refine E<|G<|D B<|F km1 fun _=>?_
       refine L ?_
       cases h
       exact ⟨_,rfl,rfl⟩
      ·replace h:=S hc86 h
       refine T km8 fun _=>?_
       refine E<|e0 B<|O B<|K B<|D B ?_
       obtain ⟨x90,hx90,h⟩:=J h
       refine a2 B B B hx90 B<|M B B (B:_=eEdge x90)<|O B<|K B<|D B ?_
       obtain ⟨x95,hx95,h⟩:=J h
       refine a2 B B B hx95 B<|M B B (B:_=eEdge x95)<|b6 B<|b6 B<|a6 B B B B B<|a6 B B B B B<|F (kt<|kt<|kt<|kb<|kb<|kt<|kt<|kt<|kn) fun _=>?_
       refine E<|E<|G<|a7 B<|K B<|a7 B<|K B<|a9 B B<|F (kt<|kt<|kt<|kb<|kb<|kt<|kt<|kt<|kt<|kn) fun _=>?_
       refine U B (fun hc101=>?_) (fun hc101=>?_)
       ·replace h:=R hc101 h
        refine E<|G<|D B<|F km1 fun _=>?_
        refine L ?_
        cases h
        exact ⟨_,rfl,rfl⟩
       ·replace h:=S hc101 h
        refine T (kt<|kt<|kt<|kb<|kb<|kt<|kt<|kt<|kn) fun _=>?_
        refine E<|e0 B<|O B<|K B<|a7 B<|K B ?_
        obtain ⟨x106,hx106,h⟩:=J h
        refine a2 B B B hx106 B<|K B<|a7 B<|K B<|a9 B B<|D B ?_
        obtain ⟨x121,hx121,h⟩:=J h
        refine gX 10 [112,113,114,115,116,117,118,119,120] 121 x121 (!decide (x106=x95.From)) (fun hg121=>?_) (fun hg121=>?_) ?_
        ·replace h:=R hg121 hx121
         cases h
         refine I B hg121<|I B hg121<|I B hg121<|I B hg121<|I B hg121<|I B hg121<|I B hg121<|I B hg121<|I B hg121<|a4 B hg121 B ?_
         exact ⟨⟨_,_,_,_,_,_,_,_,_,B⟩⟩
        ·replace h:=S hg121 hx121
         refine H B hg121<|O B<|H B hg121<|K B<|H B hg121<|a7 B<|H B hg121<|K B ?_
         obtain ⟨x116,hx116,h⟩:=J h
         refine H B hg121<|a2 B B B hx116 B<|H B hg121<|K B<|H B hg121<|a7 B<|H B hg121<|K B<|H B hg121<|a9 B B ?_
         cases h
         refine a5 B hg121 B ?_
         exact ⟨⟨_,_,_,_,_,_,_,_,_,B⟩⟩
        rintro _ ⟨_,_,_,_,_,_,_,_,_,rfl⟩
        refine F km7 fun _=>?_
        refine U B (fun hc121=>?_) (fun hc121=>?_)
        ·replace h:=R hc121 h
         refine E<|G<|D B<|F km1 fun _=>?_
         refine L ?_
         cases h
         exact ⟨_,rfl,rfl⟩
        ·replace h:=S hc121 h
         refine T km6 fun _=>?_
         refine G<|a8 B B<|D B<|F km6 ?_
         cases h
         refine ⟨_,B,?_⟩
         rw [Ktv rfl (Ktv rfl (Ktv rfl (Ktv rfl (Ktv rfl (Ktv rfl (Knil _))))))]
         rw [b7 (Z (hw2 73)) hi2 (b9 (Z (hw2 72)))]
         all_goals rfl
     ·intro i2 s2 hi2
      refine E<|G<|Y B B<|F km7 fun _=>?_
      refine E<|d0 B (d3 hi2)<|b8 kn ?_
      exact ⟨rfl,rfl⟩
     ·intro s2 hs
      replace h:=d7 h hs
      intro _
      refine E<|G<|D B<|F km1 fun _=>?_
      exact L (by cases h;rfl)
     ·intro v2 ze hv hR
      replace h:=d8 h hv
      cases h
      exact hR
    ·intro v0 ze hv hR
     replace h:=d8 h hv
     cases h
     exact hR
theorem ck138:CK f138 (Rq [Ba 2 1] [0]<|Sq (Rq [Aa 3 0,Cx 4 3] [0,4]<|Co 4 (Rq [Ba 2 1] [2]<|.ret)<|Sk [0])<|Rq [Di 5 1,Aa 6 0,Bq 7 1 5 6,Ay 2 7] [2]<|.ret) [.tmp 2]:= by decide +kernel
theorem c138 (s_0:List Int) (r:(List Int)) (h:slices_Clone_int s_0=some r):Sound prog 138 [lI s_0] (.own (lI r)):= by
 refine Fn ck138 fun hw=>?_
 unfold slices_Clone_int at h
 refine E<|G<|e3<|F km1 fun _=>?_
 refine E<|E<|G<|D B<|l4 B B fun z4 hz4=>?_
 replace h:=m2 h z4 hz4
 refine F km2 fun _=>?_
 refine U B (fun hc4=>?_) (fun hc4=>?_)
 ·replace h:=R hc4 h
  refine E<|G<|e3<|F (ko<|kn) fun _=>?_
  exact L (by cases h;rfl)
 ·replace h:=S hc4 h
  refine T km1 fun _=>?_
  refine E<|G<|e4 (e:=eI) (l:=[]) B B (fun _=>rfl)<|D B ?_
  obtain ⟨x7,hx7,h⟩:=J h
  refine f6 B B B B hx7 B<|e9 B<|F (ko<|kn) fun _=>?_
  exact L (by cases h;rfl)
theorem c221 (l r:List Int) (h:slices_Sort_int l=some r):Sound prog 221 [.list 1 (l.map (TV.int .i64))] (.turn r):=by
  unfold slices_Sort_int at h
  split at h
  · rename_i hl
    unfold nmax at hl
    cases h
    refine mut_of (by rfl) (List.length_mergeSort _) (fun x hx=>List.mem_mergeSort.1 hx) (fun w hz=>?_) (fun g cap w _ _ hg hH=>Go.Proofs.Tryz.slices_Sort_int g 0 cap l w hH hg (by omega))
    subst hz
    exact Go.Proofs.Tryz.slices_Sort_int_none none 0 w
  · cases h
theorem c222 (l r:List Int) (h:slices_Compact_int l=some r):Sound prog 222 [.list 1 (l.map (TV.int .i64))] (.cut r):=by
  unfold slices_Compact_int at h
  split at h
  · rename_i hl
    unfold nmax at hl
    cases h
    have hle:=Go.Lib.compact_length_le l
    refine cut_of (rest:=List.replicate (l.length - (Go.Lib.compact l).length) 0) (by rfl) (by rw [List.length_replicate]; omega) (fun x hx=>compact_mem hx) (fun w hz=>?_) (fun g cap w hc _ hg hH=>Go.Proofs.Tryz.slices_Compact_int g 0 cap l w hH (by omega) hc)
    subst hz
    exact Go.Proofs.Tryz.slices_Compact_int_empty none 0 w
  · cases h
theorem ck161:CK f161 (Rq [Ae 2 0] [0]<|Rq [Aa 4 0,⟨some 5,.callx 138 [.s 4],none⟩,Bw 3 5] [3]<|Rq [Bo 6 3,⟨some 7,.callm 221 (.s 6),none⟩] [3]<|Rq [Bo 8 3,⟨some 9,.callc 222 (.s 8),none⟩,Cy 10 9,Aa 2 10] [2]<|.ret) [.tmp 2]:= by decide +kernel
theorem c161 (l:List Int) (r:Int) (h:morphism_images l=some r):Sound prog 161 [lI l] (.sh (eI r)):= by
 refine Fn ck161 fun hw=>?_
 unfold morphism_images at h
 refine E<|G<|D B<|F km1 fun _=>?_
 refine E<|G<|D B ?_
 obtain ⟨x5,hx5,h⟩:=J h
 refine p4 B B (c138 l _ hx5) B (fun _=>rfl)<|g3 B B (by decide)<|F (kx<|kn) fun _=>?_
 refine E<|G<|f4 B ?_
 obtain ⟨x7,hx7,h⟩:=J h
 refine q3 B B B (c221 x5 _ hx7) B B<|F (kx<|kn) fun _=>?_
 refine E<|G<|f4 B ?_
 obtain ⟨x9,hx9,h⟩:=J h
 refine t3 B B B (by decide) B (c222 x7 _ hx9) B<|l5 B B<|D B<|F km1 fun _=>?_
 exact L (by cases h;rfl)
theorem ck93:CK f93 (Rq [Af 3 0,Af 4 1,Af 5 2,Ah 6] [3,4,5]<|Sq (Dr [6,7,8,9,10,11,12,13,14,15,16,17,18,19,20,21,22,23,24,25,26,27,28,29] [Ad 7 3 2,Ad 8 4 2,Ad 9 5 2,Bg 10 92 7 8 9,Ar 11 10 0,Aa 12 11,Av 13 5 0 12,Aw 14 13 12,Ca 15 161 14 12,Av 16 5 0 12,Aw 17 16 12,Cf 18 17 12,Dg 19 15 18 12,Ao 20 12 19,Aa 21 20,Av 22 5 1 21,Aw 23 22 21,Ca 24 161 23 21,Av 25 5 1 21,Aw 26 25 21,Cf 27 26 21,Dg 28 24 27 21,Ao 29 21 28,Aa 6 29] [6])<|.ret) [.tmp 6]:= by decide +kernel
theorem c93 (a:Graph) (b:Graph) (m:Morphism) (r:Bool) (h:morphism_Injective a b m=some r):Sound prog 93 [eGraph a,eGraph b,eMorphism m] (.sh (eB r)):= by
 refine Fn ck93 fun hw=>?_
 unfold morphism_Injective at h
 refine E<|G<|X B B<|X B B<|X B B<|D B<|F km3 fun _=>?_
 refine E<|e0 B<|M B B (B:_=eGraph a)<|M B B (B:_=eGraph b)<|M B B (B:_=eMorphism m) ?_
 obtain ⟨x10,hx10,h⟩:=J h
 refine V B (c92 a b m _ hx10)<|b2 B B<|D B ?_
 obtain ⟨x20,hx20,h⟩:=J h
 refine gX 8 [13,14,15,16,17,18,19] 20 x20 (decide (x10=0)) (fun hg20=>?_) (fun hg20=>?_) ?_
 ·replace h:=R hg20 hx20
  refine H B hg20<|O B<|H B hg20<|K B ?_
  obtain ⟨x15,hx15,h⟩:=J h
  refine H B hg20<|V B (c161 m.Nodes _ hx15)<|H B hg20<|O B<|H B hg20<|K B<|H B hg20<|W B B<|H B hg20<|b2 B B ?_
  cases h
  refine a4 B hg20 B ?_
  exact ⟨⟨_,_,_,_,_,_,_,B⟩⟩
 ·replace h:=S hg20 hx20
  cases h
  refine I B hg20<|I B hg20<|I B hg20<|I B hg20<|I B hg20<|I B hg20<|I B hg20<|a5 B hg20 B ?_
  exact ⟨⟨_,_,_,_,_,_,_,B⟩⟩
 rintro _ ⟨_,_,_,_,_,_,_,rfl⟩
 refine D B ?_
 obtain ⟨x29,hx29,h⟩:=J h
 refine gX 8 [22,23,24,25,26,27,28] 29 x29 x20 (fun hg29=>?_) (fun hg29=>?_) ?_
 ·replace h:=R hg29 hx29
  refine H B hg29<|O B<|H B hg29<|K B ?_
  obtain ⟨x24,hx24,h⟩:=J h
  refine H B hg29<|V B (c161 m.Edges _ hx24)<|H B hg29<|O B<|H B hg29<|K B<|H B hg29<|W B B<|H B hg29<|b2 B B ?_
  cases h
  refine a4 B hg29 B ?_
  exact ⟨⟨_,_,_,_,_,_,_,B⟩⟩
 ·replace h:=S hg29 hx29
  cases h
  refine I B hg29<|I B hg29<|I B hg29<|I B hg29<|I B hg29<|I B hg29<|I B hg29<|a5 B hg29 B ?_
  exact ⟨⟨_,_,_,_,_,_,_,B⟩⟩
 rintro _ ⟨_,_,_,_,_,_,_,rfl⟩
 refine D B<|F km1 fun _=>?_
 exact L (by cases h;rfl)
theorem ck41:CK f41 (Rq [Af 3 0,⟨some 4,.boxo (.s 1),none⟩,Af 5 2,Ae 6 0] [3,4,5]<|Sq (Rq [Ac 13 5 0,Ab 14 13,Ar 15 14 5] [3,4,5,15]<|Co 15 (Rq [Ac 16 5 4,Ad 17 16 5,Da 7 1 3 4 0 5,Aj 5 7 17] [3,4,5,7]<|Sq (Rq [Ac 18 7 3,Ab 19 18,Ac 20 4 3,Ab 21 20,Am 22 19 21] [3,4,5,7,22]<|Co 22 (Rq [Ae 6 20] [6]<|.ret)<|Sk [3,4,5,7])<|Sq (Rq [Ad 23 3 2,Ad 24 7 5,Ac 25 4 3,Ab 26 25,Bg 27 91 23 24 26,Aa 8 27] [3,4,5,7,8]<|Rq [Aa 28 8,Ax 29 28 0] [3,4,5,7,8,29]<|Co 29 (Rq [Aa 30 8,Aa 6 30] [6]<|.ret)<|Sk [3,4,5,7])<|Sq (Rq [Ac 31 4 0,Ad 32 31 2,Ac 33 7 0,Ad 34 33 2,Ac 35 5 2,Ad 36 35 2,Bg 37 92 32 34 36,Aa 9 37] [3,4,5,7,9]<|Rq [Aa 38 9,Ax 39 38 0] [3,4,5,7,9,39]<|Co 39 (Rq [Aa 40 9,Aa 6 40] [6]<|.ret)<|Sk [3,4,5,7])<|Sq (Rq [Ac 41 4 0,Ad 42 41 2,Ac 43 7 0,Ad 44 43 2,Ac 45 5 2,Ad 46 45 2,Bg 47 93 42 44 46,Bb 48 47] [3,4,5,7,48]<|Co 48 (Rq [Ae 6 1] [6]<|.ret)<|Sk [3,4,5,7])<|Re [Ad 49 7 5,Aj 5 4 49] [3,4,5])<|Sk [3,4,5])<|Sq (Rq [Ac 50 5 1,Ab 51 50,Ag 52 51,Ae 53 0] [3,4,51,52,53]<|Bl 0<|Lo [3,4,51,52,53]<|Rq [Am 54 53 52] [3,4,51,52,53,54]<|Sq (Co 54 (Sk [3,4,51,52,53])<|Ex 0 [])<|Sq (Bl 1<|Rq [Ak 55 51 53 9,Ad 56 55 9,Bf 11 0 9 1 1 1 3 4 0 5,Aj 9 11 56] [3,4,11,51,52,53]<|Rq [Ad 57 3 2,Ad 58 4 5,Ad 59 11 9,Bg 60 41 57 58 59,Aa 12 60] [3,4,12,51,52,53]<|Rq [Aa 61 12,Ax 62 61 0] [3,4,12,51,52,53,62]<|Co 62 (Rq [Aa 63 12,Aa 6 63] [6]<|.ret)<|Sk [3,4,51,52,53])<|Re [An 64 53 1,Aa 53 64] [3,4,51,52,53])<|Rq [Ae 6 0] [6]<|.ret) [.tmp 6]:= by decide +kernel
theorem c41S (n:Nat) (ih_41:∀ (t:Types) (p:Pattern) (c:Condition) (r:Int) (_:condition_insideF n t p c=some r),Sound prog 41 [eTypes t,ePattern p,eCondition c] (.sh (eI r))):∀ (t:Types) (p:Pattern) (c:Condition) (r:Int) (_:condition_insideF (n+1) t p c=some r),Sound prog 41 [eTypes t,ePattern p,eCondition c] (.sh (eI r)):= by
 intro t p c r h
 refine Fn ck41 fun hw=>?_
 unfold condition_insideF at h
 refine E<|G<|X B B<|q4 B B B B<|X B B<|D B<|F (kt<|kb<|kt<|kn) fun _=>?_
 refine E<|E<|G<|O B<|K B<|b2 B B<|F (kt<|kb<|kt<|kt<|kn) fun _=>?_
 refine U B (fun hc15=>?_) (fun hc15=>?_)
 ·replace h:=R hc15 h
  refine E<|G<|O B<|M B B (B:_=ePattern c.Pattern)<|b6 B<|a6 B B B B B<|F (kt<|kb<|kt<|kb<|kn) fun _=>?_
  refine E<|E<|G<|a7 B<|K B<|a7 B<|K B<|Y B B<|F (kt<|kb<|kt<|kb<|kt<|kn) fun _=>?_
  refine U B (fun hc22=>?_) (fun hc22=>?_)
  ·replace h:=R hc22 h
   refine E<|G<|D B<|F km1 fun _=>?_
   exact L (by cases h;rfl)
  ·replace h:=S hc22 h
   refine T (kt<|kb<|kt<|kb<|kn) fun _=>?_
   refine E<|E<|G<|M B B (B:_=eTypes t)<|M B B (B:_=ePattern c.Pattern)<|a7 B<|K B ?_
   obtain ⟨x27,hx27,h⟩:=J h
   refine V B (c91 t c.Pattern p.Vars _ hx27)<|D B<|F (kt<|kb<|kt<|kb<|kt<|kn) fun _=>?_
   refine E<|G<|D B<|a9 B B<|F (kt<|kb<|kt<|kb<|kt<|kt<|kn) fun _=>?_
   refine U B (fun hc29=>?_) (fun hc29=>?_)
   ·replace h:=R hc29 h
    refine E<|G<|D B<|D B<|F km1 fun _=>?_
    exact L (by cases h;rfl)
   ·replace h:=S hc29 h
    refine T (kt<|kb<|kt<|kb<|kn) fun _=>?_
    refine E<|E<|G<|a7 B<|M B B (B:_=eGraph p.Graph)<|a7 B<|M B B (B:_=eGraph c.Pattern.Graph)<|O B<|M B B (B:_=eMorphism c.Map) ?_
    obtain ⟨x37,hx37,h⟩:=J h
    refine V B (c92 p.Graph c.Pattern.Graph c.Map _ hx37)<|D B<|F (kt<|kb<|kt<|kb<|kt<|kn) fun _=>?_
    refine E<|G<|D B<|a9 B B<|F (kt<|kb<|kt<|kb<|kt<|kt<|kn) fun _=>?_
    refine U B (fun hc39=>?_) (fun hc39=>?_)
    ·replace h:=R hc39 h
     refine E<|G<|D B<|D B<|F km1 fun _=>?_
     exact L (by cases h;rfl)
    ·replace h:=S hc39 h
     refine T (kt<|kb<|kt<|kb<|kn) fun _=>?_
     refine E<|E<|G<|a7 B<|M B B (B:_=eGraph p.Graph)<|a7 B<|M B B (B:_=eGraph c.Pattern.Graph)<|O B<|M B B (B:_=eMorphism c.Map) ?_
     obtain ⟨x47,hx47,h⟩:=J h
     refine V B (c93 p.Graph c.Pattern.Graph c.Map _ hx47)<|d4 B<|F (kt<|kb<|kt<|kb<|kt<|kn) fun _=>?_
     refine U B (fun hc48=>?_) (fun hc48=>?_)
     ·replace h:=R hc48 h
      refine E<|G<|D B<|F km1 fun _=>?_
      exact L (by cases h;rfl)
     ·replace h:=S hc48 h
      refine T (kt<|kb<|kt<|kb<|kn) fun _=>?_
      refine G<|M B B (B:_=ePattern c.Pattern)<|a6 B B B B B<|F (kt<|kb<|kt<|kn) fun _=>?_
      refine E<|E<|G<|O B<|K B<|W B (eLCondition_eq _)<|D B<|F (kt<|kb<|kt<|kt<|kt<|kn) fun _=>?_
      obtain ⟨o0,ho0,h⟩:=d6 h
      refine d9 ho0 (fun (i0:Int) (_:Unit)=>[(3,.tv (.pt (eTypes t).cells)),(4,.bx [⟨false,lI c.Pattern.Graph.Nodes⟩,⟨false,lE c.Pattern.Graph.Edges⟩,⟨false,lS c.Pattern.Slots⟩,⟨false,eI c.Pattern.Vars⟩,⟨false,lT c.Pattern.Tests⟩]),(51,.tv (eLCondition c.Kids)),(52,.tv (eI (c.Kids.length:Int))),(53,.tv (eI i0))]) (fun (_:Unit)=>[]) (fun zv ze=>resIs ([.tmp 6]) (.sh (eI zv)) ze) B ?_ ?_ ?_ ?_
      ·clear h ho0
       intro i0 s0 r0 hi0 h hw0
       refine E<|G<|Y B B<|F (kt<|kb<|kt<|kt<|kt<|kt<|kn) fun _=>?_
       refine E<|d1 B (d2 hi0)<|T (kt<|kb<|kt<|kt<|kt<|kn) fun _=>?_
       refine E<|b3<|E<|G ?_
       obtain ⟨x55,hx55,h⟩:=J h
       refine a2 B B (eLCondition_eq _) hx55 B<|M B B (B:_=eCondition x55)<|b6 B<|a6 B B B B B<|F (kt<|kb<|kb<|kt<|kt<|kt<|kn) fun _=>?_
       refine E<|G<|M B B (B:_=eTypes t)<|M B B (B:_=ePattern c.Pattern)<|M B B (B:_=eCondition x55) ?_
       obtain ⟨x60,hx60,h⟩:=J h
       refine V B (ih_41 t c.Pattern x55 _ hx60)<|D B<|F (kt<|kb<|kt<|kt<|kt<|kt<|kn) fun _=>?_
       refine E<|G<|D B<|a9 B B<|F (kt<|kb<|kt<|kt<|kt<|kt<|kt<|kn) fun _=>?_
       refine U B (fun hc62=>?_) (fun hc62=>?_)
       ·replace h:=R hc62 h
        refine E<|G<|D B<|D B<|F km1 fun _=>?_
        refine L ?_
        cases h
        exact ⟨_,rfl,rfl⟩
       ·replace h:=S hc62 h
        refine T (kt<|kb<|kt<|kt<|kt<|kn) fun _=>?_
        refine G<|a8 B B<|D B<|F (kt<|kb<|kt<|kt<|kt<|kn) ?_
        cases h
        refine ⟨_,B,?_⟩
        rw [Ktv rfl (Kbx rfl (Ktv rfl (Ktv rfl (Ktv rfl (Knil _)))))]
        rw [b7 (Z (hw0 53)) hi0 (b9 (Z (hw0 52)))]
        all_goals rfl
      ·intro i0 s0 hi0
       refine E<|G<|Y B B<|F (kt<|kb<|kt<|kt<|kt<|kt<|kn) fun _=>?_
       refine E<|d0 B (d3 hi0)<|b8 kn ?_
       exact ⟨rfl,rfl⟩
      ·intro s0 hs
       replace h:=d7 h hs
       intro _
       refine E<|G<|D B<|F km1 fun _=>?_
       exact L (by cases h;rfl)
      ·intro v0 ze hv hR
       replace h:=d8 h hv
       cases h
       exact hR
 ·replace h:=S hc15 h
  refine T (kt<|kb<|kt<|kn) fun _=>?_
  refine E<|E<|G<|O B<|K B<|W B (eLCondition_eq _)<|D B<|F (kt<|kb<|kt<|kt<|kt<|kn) fun _=>?_
  obtain ⟨o0,ho0,h⟩:=d6 h
  refine d9 ho0 (fun (i0:Int) (_:Unit)=>[(3,.tv (.pt (eTypes t).cells)),(4,.bx [⟨false,lI p.Graph.Nodes⟩,⟨false,lE p.Graph.Edges⟩,⟨false,lS p.Slots⟩,⟨false,eI p.Vars⟩,⟨false,lT p.Tests⟩]),(51,.tv (eLCondition c.Kids)),(52,.tv (eI (c.Kids.length:Int))),(53,.tv (eI i0))]) (fun (_:Unit)=>[]) (fun zv ze=>resIs ([.tmp 6]) (.sh (eI zv)) ze) B ?_ ?_ ?_ ?_
  ·clear h ho0
   intro i0 s0 r0 hi0 h hw0
   refine E<|G<|Y B B<|F (kt<|kb<|kt<|kt<|kt<|kt<|kn) fun _=>?_
   refine E<|d1 B (d2 hi0)<|T (kt<|kb<|kt<|kt<|kt<|kn) fun _=>?_
   refine E<|b3<|E<|G ?_
   obtain ⟨x55,hx55,h⟩:=J h
   refine a2 B B (eLCondition_eq _) hx55 B<|M B B (B:_=eCondition x55)<|b6 B<|a6 B B B B B<|F (kt<|kb<|kb<|kt<|kt<|kt<|kn) fun _=>?_
   refine E<|G<|M B B (B:_=eTypes t)<|M B B (B:_=ePattern p)<|M B B (B:_=eCondition x55) ?_
   obtain ⟨x60,hx60,h⟩:=J h
   refine V B (ih_41 t p x55 _ hx60)<|D B<|F (kt<|kb<|kt<|kt<|kt<|kt<|kn) fun _=>?_
   refine E<|G<|D B<|a9 B B<|F (kt<|kb<|kt<|kt<|kt<|kt<|kt<|kn) fun _=>?_
   refine U B (fun hc62=>?_) (fun hc62=>?_)
   ·replace h:=R hc62 h
    refine E<|G<|D B<|D B<|F km1 fun _=>?_
    refine L ?_
    cases h
    exact ⟨_,rfl,rfl⟩
   ·replace h:=S hc62 h
    refine T (kt<|kb<|kt<|kt<|kt<|kn) fun _=>?_
    refine G<|a8 B B<|D B<|F (kt<|kb<|kt<|kt<|kt<|kn) ?_
    cases h
    refine ⟨_,B,?_⟩
    rw [Ktv rfl (Kbx rfl (Ktv rfl (Ktv rfl (Ktv rfl (Knil _)))))]
    rw [b7 (Z (hw0 53)) hi0 (b9 (Z (hw0 52)))]
    all_goals rfl
  ·intro i0 s0 hi0
   refine E<|G<|Y B B<|F (kt<|kb<|kt<|kt<|kt<|kt<|kn) fun _=>?_
   refine E<|d0 B (d3 hi0)<|b8 kn ?_
   exact ⟨rfl,rfl⟩
  ·intro s0 hs
   replace h:=d7 h hs
   intro _
   refine E<|G<|D B<|F km1 fun _=>?_
   exact L (by cases h;rfl)
  ·intro v0 ze hv hR
   replace h:=d8 h hv
   cases h
   exact hR
theorem c41A:∀ n:Nat,(∀ (t:Types) (p:Pattern) (c:Condition) (r:Int) (_:condition_insideF n t p c=some r),Sound prog 41 [eTypes t,ePattern p,eCondition c] (.sh (eI r))):=by
  intro n
  induction n with
  | zero=>intro t p c r h; cases h
  | succ n ih=>exact c41S n ih
theorem c41 (t:Types) (p:Pattern) (c:Condition) (r:Int) (h:condition_inside t p c=some r):Sound prog 41 [eTypes t,ePattern p,eCondition c] (.sh (eI r)):=by
  obtain ⟨N,hN⟩:=lim_some h
  exact (c41A N) t p c r (hN N (Nat.le_refl _))
theorem ck15:CK f15 (Rq [Af 3 0,Af 4 1,Af 5 2,Ae 6 0] [3,4,5]<|Sq (Rq [Ad 9 3 2,Ad 10 4 5,Ap 11 39 9 10,Aa 7 11] [3,4,5,7]<|Rq [Aa 12 7,Ax 13 12 0] [3,4,5,7,13]<|Co 13 (Rq [Aa 14 7,Aa 6 14] [6]<|.ret)<|Sk [3,4,5])<|Sq (Rq [Ad 15 5 9,Au 16 40 15,Aa 8 16] [3,4,5,8]<|Rq [Aa 17 8,Ax 18 17 0] [3,4,5,8,18]<|Co 18 (Rq [Aa 19 8,Aa 6 19] [6]<|.ret)<|Sk [3,4,5])<|Rq [Ad 20 3 2,Ad 21 4 5,Ad 22 5 9,Bg 23 41 20 21 22,Aa 6 23] [6]<|.ret) [.tmp 6]:= by decide +kernel
theorem c15 (t:Types) (p:Pattern) (c:Condition) (r:Int) (h:condition_Valid t p c=some r):Sound prog 15 [eTypes t,ePattern p,eCondition c] (.sh (eI r)):= by
 refine Fn ck15 fun hw=>?_
 unfold condition_Valid at h
 refine E<|G<|X B B<|X B B<|X B B<|D B<|F km3 fun _=>?_
 refine E<|E<|G<|M B B (B:_=eTypes t)<|M B B (B:_=ePattern p) ?_
 obtain ⟨x11,hx11,h⟩:=J h
 refine V B (c39 t p _ hx11)<|D B<|F km4 fun _=>?_
 refine E<|G<|D B<|a9 B B<|F km5 fun _=>?_
 refine U B (fun hc13=>?_) (fun hc13=>?_)
 ·replace h:=R hc13 h
  refine E<|G<|D B<|D B<|F km1 fun _=>?_
  exact L (by cases h;rfl)
 ·replace h:=S hc13 h
  refine T km3 fun _=>?_
  refine E<|E<|G<|M B B (B:_=eCondition c) ?_
  obtain ⟨x16,hx16,h⟩:=J h
  refine V B (c40 c _ hx16)<|D B<|F km4 fun _=>?_
  refine E<|G<|D B<|a9 B B<|F km5 fun _=>?_
  refine U B (fun hc18=>?_) (fun hc18=>?_)
  ·replace h:=R hc18 h
   refine E<|G<|D B<|D B<|F km1 fun _=>?_
   exact L (by cases h;rfl)
  ·replace h:=S hc18 h
   refine T km3 fun _=>?_
   refine E<|G<|M B B (B:_=eTypes t)<|M B B (B:_=ePattern p)<|M B B (B:_=eCondition c) ?_
   obtain ⟨x23,hx23,h⟩:=J h
   refine V B (c41 t p c _ hx23)<|D B<|F km1 fun _=>?_
   exact L (by cases h;rfl)
theorem ck73:CK f73 (Rq [Ah 4] [0,1]<|Sq (Rq [Aa 6 0,Ag 7 6,Aa 8 1,Ag 9 8,Bd 10 7 9] [0,1,10]<|Co 10 (Rq [Ah 4] [4]<|.ret)<|Sk [0,1])<|Sq (Rq [Aa 11 0,Ag 12 11,Ae 13 0] [0,1,12,13]<|Bl 0<|Lo [0,1,12,13]<|Rq [Am 14 13 12] [0,1,12,13,14]<|Sq (Co 14 (Sk [0,1,12,13])<|Ex 0 [])<|Sq (Bl 1<|Rq [Aa 15 13,Aa 5 15] [0,1,5,12,13]<|Sq (Dr [16,17,18,19,20,21,22,23,24] [Aa 16 0,Aa 17 5,Ak 18 16 17 1,Ab 19 18,Aa 20 1,Aa 21 5,Ak 22 20 21 1,Ab 23 22,Bd 24 19 23] [0,1,12,13,24])<|Co 24 (Rq [Ah 4] [4]<|.ret)<|Sk [0,1,12,13])<|Re [An 25 13 1,Aa 13 25] [0,1,12,13])<|Rq [Bp 4] [4]<|.ret) [.tmp 4]:= by decide +kernel
theorem c73 (s1_0:List Int) (s2_1:List Int) (r:Bool) (h:slices_Equal_int s1_0 s2_1=some r):Sound prog 73 [lI s1_0,lI s2_1] (.sh (eB r)):= by
 refine Fn ck73 fun hw=>?_
 unfold slices_Equal_int at h
 refine E<|G<|D B<|F km2 fun _=>?_
 refine E<|E<|G<|D B<|W B B<|D B<|W B B<|a9 B B<|F km3 fun _=>?_
 refine U B (fun hc10=>?_) (fun hc10=>?_)
 ·replace h:=R hc10 h
  refine E<|G<|D B<|F km1 fun _=>?_
  exact L (by cases h;rfl)
 ·replace h:=S hc10 h
  refine T km2 fun _=>?_
  refine E<|E<|G<|D B<|W B B<|D B<|F km4 fun _=>?_
  obtain ⟨o0,ho0,h⟩:=d6 h
  refine d9 ho0 (fun (i0:Int) (_:Unit)=>[(0,.tv (lI s1_0)),(1,.tv (lI s2_1)),(12,.tv (eI (s1_0.length:Int))),(13,.tv (eI i0))]) (fun (_:Unit)=>[]) (fun zv ze=>resIs ([.tmp 4]) (.sh (eB zv)) ze) B ?_ ?_ ?_ ?_
  ·clear h ho0
   intro i0 s0 r0 hi0 h hw0
   refine E<|G<|Y B B<|F km5 fun _=>?_
   refine E<|d1 B (d2 hi0)<|T km4 fun _=>?_
   refine E<|b3<|E<|G<|D B<|D B<|F km5 fun _=>?_
   refine E<|e0 B<|D B<|D B ?_
   obtain ⟨x18,hx18,h⟩:=J h
   refine a2 B B B hx18 B<|K B<|D B<|D B ?_
   obtain ⟨x22,hx22,h⟩:=J h
   refine a2 B B B hx22 B<|K B<|a9 B B<|F km5 fun _=>?_
   refine U B (fun hc24=>?_) (fun hc24=>?_)
   ·replace h:=R hc24 h
    refine E<|G<|D B<|F km1 fun _=>?_
    refine L ?_
    cases h
    exact ⟨_,rfl,rfl⟩
   ·replace h:=S hc24 h
    refine T km4 fun _=>?_
    refine G<|a8 B B<|D B<|F km4 ?_
    cases h
    refine ⟨_,B,?_⟩
    rw [Ktv rfl (Ktv rfl (Ktv rfl (Ktv rfl (Knil _))))]
    rw [b7 (Z (hw0 13)) hi0 (b9 (Z (hw0 12)))]
    all_goals rfl
  ·intro i0 s0 hi0
   refine E<|G<|Y B B<|F km5 fun _=>?_
   refine E<|d0 B (d3 hi0)<|b8 kn ?_
   exact ⟨rfl,rfl⟩
  ·intro s0 hs
   replace h:=d7 h hs
   intro _
   refine E<|G<|D B<|F km1 fun _=>?_
   exact L (by cases h;rfl)
  ·intro v0 ze hv hR
   replace h:=d8 h hv
   cases h
   exact hR
theorem ck173:CK f173 (Rq [Af 3 0,Ae 6 0] [1,2,3]<|Sq (Rq [Aa 11 1,Ac 12 3 0,Ab 13 12,Ag 14 13,Cq 15 11 14] [1,2,3,15]<|Co 15 (Rq [Ae 6 6] [6]<|.ret)<|Sk [1,2,3])<|Sq (Rq [Ac 16 3 0,Ab 17 16,Aa 18 1,Ak 19 17 18 4,Ai 20 19 2,Ab 21 20] [1,2,3,21]<|Co 21 (Rq [Ae 6 13] [6]<|.ret)<|Sk [1,2,3])<|Rq [Ad 23 3 2,Aa 24 1,Ap 25 153 23 24,Aa 22 25,Al 26 22 0,Al 27 22 1,Ay 7 26,Aa 8 27] [2,7]<|Sq (Rq [Aa 28 2,Ag 29 28,Aa 30 7,Ag 31 30,Bd 32 29 31] [2,7,32]<|Co 32 (Rq [Ae 6 20] [6]<|.ret)<|Sk [2,7])<|Sq (Rq [Aa 33 7,Ag 34 33,Ae 35 0] [2,33,34,35]<|Bl 0<|Lo [2,33,34,35]<|Rq [Am 36 35 34] [2,33,34,35,36]<|Sq (Co 36 (Sk [2,33,34,35])<|Ex 0 [])<|Sq (Bl 1<|Rq [Aa 37 35,Ak 38 33 35 4,Ad 39 38 4,El 10 0 0 1,Aa 9 37,Aj 4 10 39] [2,9,10,33,34,35]<|Sq (Dr [40,41,42,43,44,45,46,47,48,49,50,51,52,53,54,55] [Aa 40 2,Aa 41 9,Ak 42 40 41 1,Ab 43 42,Ac 44 10 1,Ab 45 44,Am 46 43 45,Aa 47 46,Bc 48 2 47,Bc 49 9 47,Cp 50 48 49 1 47,As 51 50 47,Aq 52 10 2 47,As 53 52 47,⟨some 54,.bin (.i) .gtr (.s 51) (.s 53),some (47,false)⟩,At 55 47 54] [2,33,34,35,55])<|Co 55 (Rq [Ae 6 6] [6]<|.ret)<|Sk [2,33,34,35])<|Re [An 56 35 1,Aa 35 56] [2,33,34,35])<|Rq [Ae 6 0] [6]<|.ret) [.tmp 6]:= by decide +kernel
theorem c173 (t:Types) (kind:Int) (values:List Int) (r:Int) (h:host_node t kind values=some r):Sound prog 173 [eTypes t,eI kind,lI values] (.sh (eI r)):= by
 refine Fn ck173 fun hw=>?_
 unfold host_node at h
 refine E<|G<|X B B<|D B<|F km3 fun _=>?_
 refine E<|E<|G<|D B<|O B<|K B<|W B B<|e1 B B<|F km4 fun _=>?_
 refine U B (fun hc15=>?_) (fun hc15=>?_)
 ·replace h:=R hc15 h
  refine E<|G<|D B<|F km1 fun _=>?_
  exact L (by cases h;rfl)
 ·replace h:=S hc15 h
  refine T km3 fun _=>?_
  refine E<|E<|G<|O B<|K B<|D B ?_
  obtain ⟨x19,hx19,h⟩:=J h
  refine a2 B B B hx19 B<|d5 B<|K B<|F km4 fun _=>?_
  refine U B (fun hc21=>?_) (fun hc21=>?_)
  ·replace h:=R hc21 h
   refine E<|G<|D B<|F km1 fun _=>?_
   exact L (by cases h;rfl)
  ·replace h:=S hc21 h
   refine T km3 fun _=>?_
   refine E<|G<|M B B (B:_=eTypes t)<|D B ?_
   obtain ⟨x25,hx25,h⟩:=J h
   refine e8 B (c153 t kind _ hx25)<|e5 B<|b4 B B<|b4 B B<|f8 B<|D B<|F km2 fun _=>?_
   refine E<|E<|G<|D B<|W B B<|D B<|W B B<|a9 B B<|F km3 fun _=>?_
   refine U B (fun hc32=>?_) (fun hc32=>?_)
   ·replace h:=R hc32 h
    refine E<|G<|D B<|F km1 fun _=>?_
    exact L (by cases h;rfl)
   ·replace h:=S hc32 h
    refine T km2 fun _=>?_
    refine E<|E<|G<|D B<|W B B<|D B<|F km4 fun _=>?_
    obtain ⟨o0,ho0,h⟩:=d6 h
    refine d9 ho0 (fun (i0:Int) (_:Unit)=>[(2,.tv (lI values)),(33,.tv (lA x25.1)),(34,.tv (eI (x25.1.length:Int))),(35,.tv (eI i0))]) (fun (_:Unit)=>[]) (fun zv ze=>resIs ([.tmp 6]) (.sh (eI zv)) ze) B ?_ ?_ ?_ ?_
    ·clear h ho0
     intro i0 s0 r0 hi0 h hw0
     refine E<|G<|Y B B<|F km5 fun _=>?_
     refine E<|d1 B (d2 hi0)<|T km4 fun _=>?_
     refine E<|b3<|E<|G<|D B ?_
     obtain ⟨x38,hx38,h⟩:=J h
     refine a2 B B B hx38 B<|M B B (B:_=eAttr x38)<|b6 B<|D B<|a6 B B B B B<|F (kt<|kt<|kb<|kt<|kt<|kt<|kn) fun _=>?_
     refine E<|e0 B<|D B<|D B ?_
     obtain ⟨x42,hx42,h⟩:=J h
     refine a2 B B B hx42 B<|K B<|a7 B<|K B<|Y B B<|D B ?_
     obtain ⟨x55,hx55,h⟩:=J h
     refine gX 8 [48,49,50,51,52,53,54] 55 x55 (decide (x42<x38.Low)) (fun hg55=>?_) (fun hg55=>?_) ?_
     ·replace h:=R hg55 hx55
      cases h
      refine I B hg55<|I B hg55<|I B hg55<|I B hg55<|I B hg55<|I B hg55<|I B hg55<|a4 B hg55 B ?_
      exact ⟨⟨_,_,_,_,_,_,_,B⟩⟩
     ·replace h:=S hg55 hx55
      refine H B hg55<|D B<|H B hg55<|D B ?_
      obtain ⟨x50,hx50,h⟩:=J h
      refine H B hg55<|a2 B B B hx50 B<|H B hg55<|K B<|H B hg55<|a7 B<|H B hg55<|K B<|H B hg55<|f3 B B ?_
      cases h
      refine a5 B hg55 B ?_
      exact ⟨⟨_,_,_,_,_,_,_,B⟩⟩
     rintro _ ⟨_,_,_,_,_,_,_,rfl⟩
     refine F km5 fun _=>?_
     refine U B (fun hc55=>?_) (fun hc55=>?_)
     ·replace h:=R hc55 h
      refine E<|G<|D B<|F km1 fun _=>?_
      refine L ?_
      cases h
      exact ⟨_,rfl,rfl⟩
     ·replace h:=S hc55 h
      refine T km4 fun _=>?_
      refine G<|a8 B B<|D B<|F km4 ?_
      cases h
      refine ⟨_,B,?_⟩
      rw [Ktv rfl (Ktv rfl (Ktv rfl (Ktv rfl (Knil _))))]
      rw [b7 (Z (hw0 35)) hi0 (b9 (Z (hw0 34)))]
      all_goals rfl
    ·intro i0 s0 hi0
     refine E<|G<|Y B B<|F km5 fun _=>?_
     refine E<|d0 B (d3 hi0)<|b8 kn ?_
     exact ⟨rfl,rfl⟩
    ·intro s0 hs
     replace h:=d7 h hs
     intro _
     refine E<|G<|D B<|F km1 fun _=>?_
     exact L (by cases h;rfl)
    ·intro v0 ze hv hR
     replace h:=d8 h hv
     cases h
     exact hR
theorem ck265:CK f265 (Rq [Ae 4 0] [0,1]<|Sq (Rq [Aa 6 0,Ag 7 6,Ae 8 0] [0,1,7,8]<|Bl 0<|Lo [0,1,7,8]<|Rq [Am 9 8 7] [0,1,7,8,9]<|Sq (Co 9 (Sk [0,1,7,8])<|Ex 0 [])<|Sq (Bl 1<|Rq [Aa 10 8,Aa 5 10] [0,1,5,7,8]<|Rq [Aa 11 1,Aa 12 0,Aa 13 5,Ak 14 12 13 1,Ab 15 14,Cu 16 11 15] [0,1,5,7,8,16]<|Co 16 (Rq [Aa 17 5,Aa 4 17] [4]<|.ret)<|Sk [0,1,7,8])<|Re [An 18 8 1,Aa 8 18] [0,1,7,8])<|Rq [Bm 4 (-1)] [4]<|.ret) [.tmp 4]:= by decide +kernel
theorem c265 (s_0:List Int) (v_1:Int) (r:Int) (h:slices_Index_int s_0 v_1=some r):Sound prog 265 [lI s_0,eI v_1] (.sh (eI r)):= by
 refine Fn ck265 fun hw=>?_
 unfold slices_Index_int at h
 refine E<|G<|D B<|F km2 fun _=>?_
 refine E<|E<|G<|D B<|W B B<|D B<|F km4 fun _=>?_
 obtain ⟨o0,ho0,h⟩:=d6 h
 refine d9 ho0 (fun (i0:Int) (_:Unit)=>[(0,.tv (lI s_0)),(1,.tv (eI v_1)),(7,.tv (eI (s_0.length:Int))),(8,.tv (eI i0))]) (fun (_:Unit)=>[]) (fun zv ze=>resIs ([.tmp 4]) (.sh (eI zv)) ze) B ?_ ?_ ?_ ?_
 ·clear h ho0
  intro i0 s0 r0 hi0 h hw0
  refine E<|G<|Y B B<|F km5 fun _=>?_
  refine E<|d1 B (d2 hi0)<|T km4 fun _=>?_
  refine E<|b3<|E<|G<|D B<|D B<|F km5 fun _=>?_
  refine E<|G<|D B<|D B<|D B ?_
  obtain ⟨x14,hx14,h⟩:=J h
  refine a2 B B B hx14 B<|K B<|b2 B B<|F km6 fun _=>?_
  refine U B (fun hc16=>?_) (fun hc16=>?_)
  ·replace h:=R hc16 h
   refine E<|G<|D B<|D B<|F km1 fun _=>?_
   refine L ?_
   cases h
   exact ⟨_,rfl,rfl⟩
  ·replace h:=S hc16 h
   refine T km4 fun _=>?_
   refine G<|a8 B B<|D B<|F km4 ?_
   cases h
   refine ⟨_,B,?_⟩
   rw [Ktv rfl (Ktv rfl (Ktv rfl (Ktv rfl (Knil _))))]
   rw [b7 (Z (hw0 8)) hi0 (b9 (Z (hw0 7)))]
   all_goals rfl
 ·intro i0 s0 hi0
  refine E<|G<|Y B B<|F km5 fun _=>?_
  refine E<|d0 B (d3 hi0)<|b8 kn ?_
  exact ⟨rfl,rfl⟩
 ·intro s0 hs
  replace h:=d7 h hs
  intro _
  refine E<|G<|D B<|F km1 fun _=>?_
  exact L (by cases h;rfl)
 ·intro v0 ze hv hR
  replace h:=d8 h hv
  cases h
  exact hR
theorem ck241:CK f241 (Rq [Ah 4] [0,1]<|Rq [Aa 5 0,Aa 6 1,Ap 7 265 5 6,Bi 8 7 0,Aa 4 8] [4]<|.ret) [.tmp 4]:= by decide +kernel
theorem c241 (s_0:List Int) (v_1:Int) (r:Bool) (h:slices_Contains_int s_0 v_1=some r):Sound prog 241 [lI s_0,eI v_1] (.sh (eB r)):= by
 refine Fn ck241 fun hw=>?_
 unfold slices_Contains_int at h
 refine E<|G<|D B<|F km2 fun _=>?_
 refine E<|G<|D B<|D B ?_
 obtain ⟨x7,hx7,h⟩:=J h
 refine V B (c265 s_0 v_1 _ hx7)<|e1 B B<|D B<|F km1 fun _=>?_
 exact L (by cases h;rfl)
theorem c282 (l r:List Int) (h:slices_Reverse_int l=some r):Sound prog 282 [.list 1 (l.map (TV.int .i64))] (.turn r):=by
  unfold slices_Reverse_int at h
  split at h
  · rename_i hl
    unfold nmax at hl
    cases h
    refine mut_of (by rfl) List.length_reverse (fun x hx=>List.mem_reverse.1 hx) (fun w hz=>?_) (fun g cap w _ _ hg hH=>(Go.Proofs.Tryz.slices_Reverse_int g 0 cap l w hH (by omega)).mono ?_)
    · subst hz
      exact Go.Proofs.Tryz.slices_Reverse_int_empty none 0 w
    · rintro e w' ⟨h1,q,h2⟩
      exact ⟨h1,q,#[],by rw [Go.Sort.grow_empty]; exact h2⟩
  · cases h
theorem ck256:CK f256 (Rq [Af 2 0,Ba 4 1] [1,2]<|Rq [⟨some 5,.nilx 1,none⟩] [1,2,5]<|Sq (Bl 0<|Lo [1,2,5]<|Sq (Rq [Aa 6 1,Bi 7 6 0] [1,2,5,7]<|Co 7 (Sk [1,2,5])<|Ex 0 [5])<|Sq (Bl 1<|Re [Bw 14 5,Aa 15 1,Bh 16 1 15,Dq 17 1 14 16,Bw 5 17] [1,2,5])<|Re [Ac 8 2 0,Ab 9 8,Aa 10 1,Ak 11 9 10 4,Ai 12 11 1,Ab 13 12,Aa 1 13] [1,2,5])<|Rq [Bo 18 5,⟨some 19,.callm 282 (.s 18),none⟩] [5]<|Rq [Cz 20 5,Ay 4 20] [4]<|.ret) [.tmp 4]:= by decide +kernel
theorem c256 (t:Types) (a:Int) (r:(List Int)) (h:types_line t a=some r):Sound prog 256 [eTypes t,eI a] (.own (lI r)):= by
 refine Fn ck256 fun hw=>?_
 unfold types_line at h
 refine E<|G<|X B B<|e3<|F km2 fun _=>?_
 refine E<|G<|p1 B<|F (kt<|kt<|kx<|kn) fun _=>?_
 refine E ?_
 obtain ⟨o0,ho0,h⟩:=d6 h
 refine m0 ho0 (fun (s0:Int × List Int)=>[(1,.tv (eI s0.1)),(2,.tv (.pt (eTypes t).cells)),(5,.xo 1 (List.map eI s0.2))]) (fun (s0:Int × List Int)=>[(5,.xo 1 (List.map eI s0.2))]) (fun zv ze=>resIs ([.tmp 4]) (.own (lI zv)) ze) B ?_ ?_ ?_
 ·clear h ho0
  intro s0 r0 h hw0
  refine E<|E<|G<|D B<|e1 B B<|F (kt<|kt<|kx<|kt<|kn) fun _=>?_
  refine U B (fun hc7=>?_) (fun hc7=>?_)
  ·replace h:=R hc7 h
   refine T (kt<|kt<|kx<|kn) fun _=>?_
   refine E<|b3<|G<|g3 B B (by decide)<|D B<|e4 (e:=eI) (l:=[s0.1]) B B (fun _=>rfl) ?_
   obtain ⟨x17,hx17,h⟩:=J h
   refine m7 B B B B hx17 B B (by decide)<|g3 B B (by decide)<|F (kt<|kt<|kx<|kn) fun _=>?_
   refine G<|O B<|K B<|D B ?_
   obtain ⟨x11,hx11,h⟩:=J h
   refine a2 B B B hx11 B<|d5 B<|K B<|D B<|F (kt<|kt<|kx<|kn) ?_
   cases h
   refine ⟨_,B,?_⟩
   rw [Ktv rfl (Ktv rfl (Kxo rfl (Knil _)))]
   all_goals rfl
  ·replace h:=S hc7 h
   refine b8 (kx<|kn) ?_
   refine ⟨rfl,?_⟩
   cases h
   exact ⟨_,rfl,rfl⟩
 ·intro s0 hs
  replace h:=d7 h hs
  intro _
  refine E<|G<|f4 B ?_
  obtain ⟨x19,hx19,h⟩:=J h
  refine q3 B B B (c282 s0.2 _ hx19) B B<|F (kx<|kn) fun _=>?_
  refine E<|G<|l6 B (by decide)<|e9 B<|F (ko<|kn) fun _=>?_
  exact L (by cases h;rfl)
 ·intro v0 ze hv hR
  replace h:=d8 h hv
  cases h
  exact hR
theorem ck229:CK f229 (Rq [Af 3 0,Ah 6] [1,2,3]<|Rq [Ad 7 3 2,Aa 8 1,Ap 9 256 7 8,Aa 10 2,Ap 11 241 9 10,Aa 6 11] [6]<|.ret) [.tmp 6]:= by decide +kernel
theorem c229 (t:Types) (a:Int) (b:Int) (r:Bool) (h:types_is t a b=some r):Sound prog 229 [eTypes t,eI a,eI b] (.sh (eB r)):= by
 refine Fn ck229 fun hw=>?_
 unfold types_is at h
 refine E<|G<|X B B<|D B<|F km3 fun _=>?_
 refine E<|G<|M B B (B:_=eTypes t)<|D B ?_
 obtain ⟨x9,hx9,h⟩:=J h
 refine l1 B (c256 t a _ hx9)<|D B ?_
 obtain ⟨x11,hx11,h⟩:=J h
 refine V B (c241 x9 b _ hx11)<|D B<|F km1 fun _=>?_
 exact L (by cases h;rfl)
theorem ck174:CK f174 (Rq [Af 4 0,Ah 8] [1,2,3,4]<|Sq (Rq [Ad 9 4 2,Aa 10 2,Aa 11 3,Cs 12 1 10 11,Ap 13 216 9 12,Ax 14 13 0,Aa 15 14,Bc 16 1 15,⟨some 17,.bin (.i) .lss (.s 16) (.c (.int .i64 0)),some (15,false)⟩,At 18 15 17,Aa 19 18,Bc 20 1 19,Aq 21 4 1 19,As 22 21 19,Bj 23 22 19,Ci 24 20 23 19,At 25 19 24] [1,2,3,4,25]<|Co 25 (Rq [Ah 8] [8]<|.ret)<|Sk [1,2,3,4])<|Sq (Dr [8,26,27,28,29,30,31,32,33,34,35,36,37,38,39,40,41,42,43,44,45] [Ad 26 4 2,Aa 27 2,Ac 28 4 1,Ab 29 28,Aa 30 1,Ak 31 29 30 7,Ai 32 31 1,Ab 33 32,Bg 34 229 26 27 33,Aa 35 34,Be 36 4 2 35,Az 37 3 35,Av 38 4 1 35,Aw 39 38 35,Az 40 1 35,⟨some 41,.iad (.s 39) (.s 40) 7,some (35,true)⟩,Cc 42 41 2 35,Aw 43 42 35,⟨some 44,.call 229 [.s 36,.s 37,.s 43],some (35,true)⟩,Ao 45 35 44,Aa 8 45] [8])<|.ret) [.tmp 8]:= by decide +kernel
theorem c174 (t:Types) (edge:Int) (from':Int) (to':Int) (r:Bool) (h:types_Fits t edge from' to'=some r):Sound prog 174 [eTypes t,eI edge,eI from',eI to'] (.sh (eB r)):= by
 refine Fn ck174 fun hw=>?_
 unfold types_Fits at h
 refine E<|G<|X B B<|D B<|F km4 fun _=>?_
 refine E<|E<|G<|M B B (B:_=eTypes t)<|D B<|D B<|e4 (e:=eI) (l:=[from',to']) B B (fun _=>rfl) ?_
 obtain ⟨x13,hx13,h⟩:=J h
 refine V B (c216 t [from',to'] _ hx13)<|a9 B B<|D B ?_
 refine gO 3 [16,17] 18 (!decide (x13=0)) (decide (edge<0)) (fun hg18=>?_) (fun hg18=>?_) ?_
 ·refine I B hg18<|I B hg18<|a4 B hg18 B ?_
  exact ⟨⟨_,_,B⟩⟩
 ·refine H B hg18<|D B<|H B hg18<|Y B B<|a5 B hg18 B ?_
  exact ⟨⟨_,_,B⟩⟩
 rintro _ ⟨_,_,rfl⟩
 refine D B ?_
 refine gO 6 [20,21,22,23,24] 25 ((!decide (x13=0))||(decide (edge<0))) (decide ((t.Edges.length:Int)<=edge)) (fun hg25=>?_) (fun hg25=>?_) ?_
 ·refine I B hg25<|I B hg25<|I B hg25<|I B hg25<|I B hg25<|a4 B hg25 B ?_
  exact ⟨⟨_,_,_,_,_,B⟩⟩
 ·refine H B hg25<|D B<|H B hg25<|O B<|H B hg25<|K B<|H B hg25<|W B B<|H B hg25<|e1 B B<|a5 B hg25 B ?_
  exact ⟨⟨_,_,_,_,_,B⟩⟩
 rintro _ ⟨_,_,_,_,_,rfl⟩
 refine F km5 fun _=>?_
 refine U B (fun hc25=>?_) (fun hc25=>?_)
 ·replace h:=R hc25 h
  refine E<|G<|D B<|F km1 fun _=>?_
  exact L (by cases h;rfl)
 ·replace h:=S hc25 h
  refine T km4 fun _=>?_
  refine E<|e0 B<|M B B (B:_=eTypes t)<|D B<|O B<|K B<|D B ?_
  obtain ⟨x31,hx31,h⟩:=J h
  refine a2 B B B hx31 B<|d5 B<|K B ?_
  obtain ⟨x34,hx34,h⟩:=J h
  refine V B (c229 t from' x31.From _ hx34)<|D B ?_
  obtain ⟨x45,hx45,h⟩:=J h
  refine gX 10 [36,37,38,39,40,41,42,43,44] 45 x45 x34 (fun hg45=>?_) (fun hg45=>?_) ?_
  ·replace h:=R hg45 hx45
   refine H B hg45<|M B B (B:_=eTypes t)<|H B hg45<|D B<|H B hg45<|O B<|H B hg45<|K B<|H B hg45<|D B ?_
   obtain ⟨x41,hx41,h⟩:=J h
   refine H B hg45<|a2 B B B hx41 B<|H B hg45<|d5 B<|H B hg45<|K B ?_
   obtain ⟨x44,hx44,h⟩:=J h
   refine H B hg45<|V B (c229 t to' x41.To _ hx44) ?_
   cases h
   refine a4 B hg45 B ?_
   exact ⟨⟨_,_,_,_,_,_,_,_,_,B⟩⟩
  ·replace h:=S hg45 hx45
   cases h
   refine I B hg45<|I B hg45<|I B hg45<|I B hg45<|I B hg45<|I B hg45<|I B hg45<|I B hg45<|I B hg45<|a5 B hg45 B ?_
   exact ⟨⟨_,_,_,_,_,_,_,_,_,B⟩⟩
  rintro _ ⟨_,_,_,_,_,_,_,_,_,rfl⟩
  refine D B<|F km1 fun _=>?_
  exact L (by cases h;rfl)
theorem ck108:CK f108 (Rq [Af 2 0,Af 3 1,Ae 4 0,Ae 5 0] [2,3]<|Sq (Rq [Ad 15 2 2,Au 16 79 15,Aa 14 16,Al 17 14 0,Al 18 14 1,Aa 6 17,Aa 7 18] [2,3,7]<|Rq [Aa 19 7,Ax 20 19 0] [2,3,7,20]<|Co 20 (Rq [Aa 21 7,Bm 4 (-1),Aa 5 21] [4,5]<|.ret)<|Sk [2,3])<|Sq (Rq [Ac 22 3 0,Ad 23 22 2,Au 24 80 23,Aa 8 24] [2,3,8]<|Rq [Aa 25 8,Ax 26 25 0] [2,3,8,26]<|Co 26 (Rq [Aa 27 8,Bm 4 (-1),Aa 5 27] [4,5]<|.ret)<|Sk [2,3])<|Sq (Rq [Ac 28 3 2,Ab 29 28,Ag 30 29,Ac 31 3 0,Ai 32 31 0,Ab 33 32,Ag 34 33,Bd 35 30 34] [2,3,35]<|Co 35 (Rq [Bm 4 (-1),Ae 5 20] [4,5]<|.ret)<|Sk [2,3])<|Sq (Rq [Ac 36 3 0,Ai 37 36 0,Ab 38 37,Ag 39 38,Ae 40 0] [2,3,38,39,40]<|Bl 0<|Lo [2,3,38,39,40]<|Rq [Am 41 40 39] [2,3,38,39,40,41]<|Sq (Co 41 (Sk [2,3,38,39,40])<|Ex 0 [2,3])<|Sq (Bl 1<|Rq [Aa 42 40,Ak 43 38 40 1,Ab 44 43,Aa 9 42,Aa 10 44] [2,3,9,10,38,39,40]<|Sq (Dr [11,45,46,47,48,49,50,51,52] [Ad 45 2 2,Aa 46 10,Ac 47 3 2,Ab 48 47,Aa 49 9,Ak 50 48 49 1,Ab 51 50,Bg 52 173 45 46 51,Aa 11 52] [2,3,9,11,38,39,40])<|Rq [Aa 53 11,Ax 54 53 0] [2,3,9,11,38,39,40,54]<|Co 54 (Rq [Aa 55 9,Aa 56 11,Aa 4 55,Aa 5 56] [4,5]<|.ret)<|Sk [2,3,38,39,40])<|Re [An 57 40 1,Aa 40 57] [2,3,38,39,40])<|Sq (Rq [Ac 58 3 0,Ai 59 58 1,Ab 60 59,Ag 61 60,Ae 62 0] [2,3,60,61,62]<|Bl 2<|Lo [2,3,60,61,62]<|Rq [Am 63 62 61] [2,3,60,61,62,63]<|Sq (Co 63 (Sk [2,3,60,61,62])<|Ex 2 [])<|Sq (Bl 3<|Rq [Aa 64 62,Ak 65 60 62 3,Ad 66 65 3,Cr 13 0 0 0,Aa 12 64,Aj 3 13 66] [2,3,12,13,60,61,62]<|Sq (Rq [Ac 67 13 0,Ab 68 67,Ac 69 2 1,Ab 70 69,Ag 71 70,Cq 72 68 71] [2,3,12,13,60,61,62,72]<|Co 72 (Rq [Aa 73 12,Aa 4 73,Ae 5 6] [4,5]<|.ret)<|Sk [2,3,12,13,60,61,62])<|Sq (Dr [74,75,76,77,78,79,80,81,82,83,84,85,86,87,88,89,90,91,92] [Ad 74 2 2,Ac 75 13 0,Ab 76 75,Ac 77 3 0,Ai 78 77 0,Ab 79 78,Ac 80 13 1,Ab 81 80,Ak 82 79 81 1,Ab 83 82,Ac 84 3 0,Ai 85 84 0,Ab 86 85,Ac 87 13 2,Ab 88 87,Ak 89 86 88 1,Ab 90 89,Dc 91 174 74 76 83 90,Bb 92 91] [2,3,12,60,61,62,92])<|Co 92 (Rq [Aa 93 12,Aa 4 93,Ae 5 13] [4,5]<|.ret)<|Sk [2,3,60,61,62])<|Re [An 94 62 1,Aa 62 94] [2,3,60,61,62])<|Rq [Bm 4 (-1),Ae 5 0] [4,5]<|.ret) [.tmp 4,.tmp 5]:= by decide +kernel
theorem c108 (t:Types) (h_1:Host) (r:(Int × Int)) (h:host_Valid t h_1=some r):Sound prog 108 [eTypes t,eHost h_1] (.tp [eI r.1,eI r.2]):= by
 refine Fn ck108 fun hw=>?_
 unfold host_Valid at h
 refine E<|G<|X B B<|X B B<|D B<|D B<|F km2 fun _=>?_
 refine E<|E<|G<|M B B (B:_=eTypes t) ?_
 obtain ⟨x16,hx16,h⟩:=J h
 refine e8 B (c79 t _ hx16)<|e5 B<|b4 B B<|b4 B B<|D B<|D B<|F km3 fun _=>?_
 refine E<|G<|D B<|a9 B B<|F km4 fun _=>?_
 refine U B (fun hc20=>?_) (fun hc20=>?_)
 ·replace h:=R hc20 h
  refine E<|G<|D B<|D B<|D B<|F km2 fun _=>?_
  refine L ?_
  cases h
  exact ⟨by decide,rfl⟩
 ·replace h:=S hc20 h
  refine T km2 fun _=>?_
  refine E<|E<|G<|O B<|M B B (B:_=eGraph h_1.Graph) ?_
  obtain ⟨x24,hx24,h⟩:=J h
  refine V B (c80 h_1.Graph _ hx24)<|D B<|F km3 fun _=>?_
  refine E<|G<|D B<|a9 B B<|F km4 fun _=>?_
  refine U B (fun hc26=>?_) (fun hc26=>?_)
  ·replace h:=R hc26 h
   refine E<|G<|D B<|D B<|D B<|F km2 fun _=>?_
   refine L ?_
   cases h
   exact ⟨by decide,rfl⟩
  ·replace h:=S hc26 h
   refine T km2 fun _=>?_
   refine E<|E<|G<|O B<|K B<|W B B<|O B<|d5 B<|K B<|W B B<|a9 B B<|F km3 fun _=>?_
   refine U B (fun hc35=>?_) (fun hc35=>?_)
   ·replace h:=R hc35 h
    refine E<|G<|D B<|D B<|F km2 fun _=>?_
    refine L ?_
    cases h
    exact ⟨by decide,rfl⟩
   ·replace h:=S hc35 h
    refine T km2 fun _=>?_
    refine E<|E<|G<|O B<|d5 B<|K B<|W B B<|D B<|F km5 fun _=>?_
    obtain ⟨o0,ho0,h⟩:=d6 h
    refine d9 ho0 (fun (i0:Int) (_:Unit)=>[(2,.tv (.pt (eTypes t).cells)),(3,.tv (.pt (eHost h_1).cells)),(38,.tv (lI h_1.Graph.Nodes)),(39,.tv (eI (h_1.Graph.Nodes.length:Int))),(40,.tv (eI i0))]) (fun (_:Unit)=>[(2,.tv (.pt (eTypes t).cells)),(3,.tv (.pt (eHost h_1).cells))]) (fun zv ze=>resIs ([.tmp 4,.tmp 5]) (.tp [eI zv.1,eI zv.2]) ze) B ?_ ?_ ?_ ?_
    ·clear h ho0
     intro i0 s0 r0 hi0 h hw0
     refine E<|G<|Y B B<|F km6 fun _=>?_
     refine E<|d1 B (d2 hi0)<|T km5 fun _=>?_
     refine E<|b3<|E<|G<|D B ?_
     obtain ⟨x43,hx43,h⟩:=J h
     refine a2 B B B hx43 B<|K B<|D B<|D B<|F km7 fun _=>?_
     refine E<|e0 B<|M B B (B:_=eTypes t)<|D B<|O B<|K B<|D B ?_
     obtain ⟨x50,hx50,h⟩:=J h
     refine a2 B B B hx50 B<|K B ?_
     obtain ⟨x52,hx52,h⟩:=J h
     refine V B (c173 t x43 x50 _ hx52)<|D B<|F km7 fun _=>?_
     refine E<|G<|D B<|a9 B B<|F km8 fun _=>?_
     refine U B (fun hc54=>?_) (fun hc54=>?_)
     ·replace h:=R hc54 h
      refine E<|G<|D B<|D B<|D B<|D B<|F km2 fun _=>?_
      refine L ?_
      cases h
      exact ⟨_,rfl,⟨by decide,rfl⟩⟩
     ·replace h:=S hc54 h
      refine T km5 fun _=>?_
      refine G<|a8 B B<|D B<|F km5 ?_
      cases h
      refine ⟨_,B,?_⟩
      rw [Ktv rfl (Ktv rfl (Ktv rfl (Ktv rfl (Ktv rfl (Knil _)))))]
      rw [b7 (Z (hw0 40)) hi0 (b9 (Z (hw0 39)))]
      all_goals rfl
    ·intro i0 s0 hi0
     refine E<|G<|Y B B<|F km6 fun _=>?_
     refine E<|d0 B (d3 hi0)<|b8 km2 ?_
     exact ⟨rfl,rfl⟩
    ·intro s0 hs
     replace h:=d7 h hs
     intro _
     refine E<|E<|G<|O B<|d5 B<|K B<|W B B<|D B<|F km5 fun _=>?_
     obtain ⟨o2,ho2,h⟩:=d6 h
     refine d9 ho2 (fun (i2:Int) (_:Unit)=>[(2,.tv (.pt (eTypes t).cells)),(3,.tv (.pt (eHost h_1).cells)),(60,.tv (lE h_1.Graph.Edges)),(61,.tv (eI (h_1.Graph.Edges.length:Int))),(62,.tv (eI i2))]) (fun (_:Unit)=>[]) (fun zv ze=>resIs ([.tmp 4,.tmp 5]) (.tp [eI zv.1,eI zv.2]) ze) B ?_ ?_ ?_ ?_
     ·clear h ho2
      intro i2 s2 r2 hi2 h hw2
      refine E<|G<|Y B B<|F km6 fun _=>?_
      refine E<|d1 B (d2 hi2)<|T km5 fun _=>?_
      refine E<|b3<|E<|G<|D B ?_
      obtain ⟨x65,hx65,h⟩:=J h
      refine a2 B B B hx65 B<|M B B (B:_=eEdge x65)<|b6 B<|D B<|a6 B B B B B<|F (kt<|kt<|kt<|kb<|kt<|kt<|kt<|kn) fun _=>?_
      refine E<|E<|G<|a7 B<|K B<|O B<|K B<|W B B<|e1 B B<|F (kt<|kt<|kt<|kb<|kt<|kt<|kt<|kt<|kn) fun _=>?_
      refine U B (fun hc72=>?_) (fun hc72=>?_)
      ·replace h:=R hc72 h
       refine E<|G<|D B<|D B<|D B<|F km2 fun _=>?_
       refine L ?_
       cases h
       exact ⟨_,rfl,⟨by decide,rfl⟩⟩
      ·replace h:=S hc72 h
       refine T (kt<|kt<|kt<|kb<|kt<|kt<|kt<|kn) fun _=>?_
       refine E<|e0 B<|M B B (B:_=eTypes t)<|a7 B<|K B<|O B<|d5 B<|K B<|a7 B<|K B ?_
       obtain ⟨x82,hx82,h⟩:=J h
       refine a2 B B B hx82 B<|K B<|O B<|d5 B<|K B<|a7 B<|K B ?_
       obtain ⟨x89,hx89,h⟩:=J h
       refine a2 B B B hx89 B<|K B ?_
       obtain ⟨x91,hx91,h⟩:=J h
       refine V B (c174 t x65.Type' x82 x89 _ hx91)<|d4 B<|F km7 fun _=>?_
       refine U B (fun hc92=>?_) (fun hc92=>?_)
       ·replace h:=R hc92 h
        refine E<|G<|D B<|D B<|D B<|F km2 fun _=>?_
        refine L ?_
        cases h
        exact ⟨_,rfl,⟨by decide,rfl⟩⟩
       ·replace h:=S hc92 h
        refine T km5 fun _=>?_
        refine G<|a8 B B<|D B<|F km5 ?_
        cases h
        refine ⟨_,B,?_⟩
        rw [Ktv rfl (Ktv rfl (Ktv rfl (Ktv rfl (Ktv rfl (Knil _)))))]
        rw [b7 (Z (hw2 62)) hi2 (b9 (Z (hw2 61)))]
        all_goals rfl
     ·intro i2 s2 hi2
      refine E<|G<|Y B B<|F km6 fun _=>?_
      refine E<|d0 B (d3 hi2)<|b8 kn ?_
      exact ⟨rfl,rfl⟩
     ·intro s2 hs
      replace h:=d7 h hs
      intro _
      refine E<|G<|D B<|D B<|F km2 fun _=>?_
      refine L ?_
      cases h
      exact ⟨by decide,rfl⟩
     ·intro v2 ze hv hR
      replace h:=d8 h hv
      cases h
      exact hR
    ·intro v0 ze hv hR
     replace h:=d8 h hv
     cases h
     exact hR
theorem ck195:CK f195 (Rq [Ah 3] [0,1]<|Rq [Aa 4 0,Ac 5 1 0,Ab 6 5,Ag 7 6,Cq 8 4 7,Aa 3 8] [3]<|.ret) [.tmp 3]:= by decide +kernel
theorem c195 (n:Int) (c0:Types) (r:Bool) (h:search_within_1 n c0=some r):Sound prog 195 [eI n,.pt (eTypes c0).cells] (.sh (eB r)):= by
 refine Fn ck195 fun hw=>?_
 unfold search_within_1 at h
 refine E<|G<|D B<|F km2 fun _=>?_
 refine E<|G<|D B<|O B<|K B<|W B B<|e1 B B<|D B<|F km1 fun _=>?_
 exact L (by cases h;rfl)
theorem ck196:CK f196 (Rq [Af 2 0,Ah 3] [1,2]<|Rq [Ac 4 2 0,Ab 5 4,Ac 6 1 1,Ab 7 6,Ag 8 7,Cq 9 5 8,Aa 3 9] [3]<|.ret) [.tmp 3]:= by decide +kernel
theorem c196 (x_0:Edge) (c0:Types) (r:Bool) (h:search_within_2 x_0 c0=some r):Sound prog 196 [eEdge x_0,.pt (eTypes c0).cells] (.sh (eB r)):= by
 refine Fn ck196 fun hw=>?_
 unfold search_within_2 at h
 refine E<|G<|X B B<|D B<|F km2 fun _=>?_
 refine E<|G<|O B<|K B<|O B<|K B<|W B B<|e1 B B<|D B<|F km1 fun _=>?_
 exact L (by cases h;rfl)
theorem ck131:CK f131 (Rq [Af 2 0,Af 3 1,Ah 4] [2,3]<|Rq [Ac 5 3 0,Ab 6 5,Ce 7 195 2,Ap 8 81 6 7,Bb 9 8,Aa 10 9,Av 11 3 1 10,Aw 12 11 10,⟨some 13,.clo 196 [.s 2],some (10,true)⟩,Cd 14 83 12 13 10,Db 15 14 10,Ao 16 10 15,Aa 4 16] [4]<|.ret) [.tmp 4]:= by decide +kernel
theorem c131 (t:Types) (g:Graph) (r:Bool) (h:search_within t g=some r):Sound prog 131 [eTypes t,eGraph g] (.sh (eB r)):= by
 refine Fn ck131 fun hw=>?_
 unfold search_within at h
 refine E<|G<|X B B<|X B B<|D B<|F km2 fun _=>?_
 refine E<|G<|O B<|K B<|g1 B ?_
 obtain ⟨x8,hx8,h⟩:=J h
 refine V B (c81 g.Nodes (fun y0=>search_within_1 y0 t) _ _ (fun y0 r h=>c195 y0 t r h) _ hx8)<|d4 B<|D B ?_
 obtain ⟨x16,hx16,h⟩:=J h
 refine gX 6 [11,12,13,14,15] 16 x16 (!x8) (fun hg16=>?_) (fun hg16=>?_) ?_
 ·replace h:=R hg16 hx16
  refine H B hg16<|O B<|H B hg16<|K B<|H B hg16<|g1 B ?_
  obtain ⟨x14,hx14,h⟩:=J h
  refine H B hg16<|V B (c83 g.Edges (fun y0=>search_within_2 y0 t) _ _ (fun y0 r h=>c196 y0 t r h) _ hx14)<|H B hg16<|d4 B ?_
  cases h
  refine a4 B hg16 B ?_
  exact ⟨⟨_,_,_,_,_,B⟩⟩
 ·replace h:=S hg16 hx16
  cases h
  refine I B hg16<|I B hg16<|I B hg16<|I B hg16<|I B hg16<|a5 B hg16 B ?_
  exact ⟨⟨_,_,_,_,_,B⟩⟩
 rintro _ ⟨_,_,_,_,_,rfl⟩
 refine D B<|F km1 fun _=>?_
 exact L (by cases h;rfl)
theorem ck62:CK f62 (Rq [Af 3 0,Af 4 1,Af 5 2,Ae 6 0] [3,4,5]<|Sq (Rq [Ad 13 3 2,Au 14 79 13,Aa 12 14,Al 15 12 0,Al 16 12 1,Aa 7 15,Aa 8 16] [3,4,5,8]<|Rq [Aa 17 8,Ax 18 17 0] [3,4,5,8,18]<|Co 18 (Rq [Aa 19 8,Aa 6 19] [6]<|.ret)<|Sk [3,4,5])<|Sq (Rq [Ad 20 4 2,Ad 21 5 2,Cs 22 2 20 21,Ag 23 22,Ae 24 0] [3,4,5,22,23,24]<|Bl 0<|Lo [3,4,5,22,23,24]<|Rq [Am 25 24 23] [3,4,5,22,23,24,25]<|Sq (Co 25 (Sk [3,4,5,22,23,24])<|Ex 0 [3,4,5])<|Sq (Bl 1<|Rq [Ak 26 22 24 2,Ad 27 26 2,Cl 10 1 3,Aj 2 10 27] [3,4,5,10,22,23,24]<|Rq [Ad 28 10 2,Au 29 80 28,Aa 11 29] [3,4,5,11,22,23,24]<|Rq [Aa 30 11,Ax 31 30 0] [3,4,5,11,22,23,24,31]<|Co 31 (Rq [Aa 32 11,Aa 6 32] [6]<|.ret)<|Sk [3,4,5,22,23,24])<|Re [An 33 24 1,Aa 24 33] [3,4,5,22,23,24])<|Sq (Rq [Ad 34 3 2,Ad 35 4 2,Ap 36 131 34 35,Bb 37 36,Aa 38 37,Bk 39 3 2 38,Bk 40 5 2 38,Bv 41 131 39 40 38,Bn 42 41 38,At 43 38 42] [43]<|Co 43 (Rq [Ae 6 13] [6]<|.ret)<|Sk [])<|Rq [Ae 6 0] [6]<|.ret) [.tmp 6]:= by decide +kernel
theorem c62 (t:Types) (p:Graph) (g:Graph) (r:Int) (h:search_valid t p g=some r):Sound prog 62 [eTypes t,eGraph p,eGraph g] (.sh (eI r)):= by
 refine Fn ck62 fun hw=>?_
 unfold search_valid at h
 refine E<|G<|X B B<|X B B<|X B B<|D B<|F km3 fun _=>?_
 refine E<|E<|G<|M B B (B:_=eTypes t) ?_
 obtain ⟨x14,hx14,h⟩:=J h
 refine e8 B (c79 t _ hx14)<|e5 B<|b4 B B<|b4 B B<|D B<|D B<|F km4 fun _=>?_
 refine E<|G<|D B<|a9 B B<|F km5 fun _=>?_
 refine U B (fun hc18=>?_) (fun hc18=>?_)
 ·replace h:=R hc18 h
  refine E<|G<|D B<|D B<|F km1 fun _=>?_
  exact L (by cases h;rfl)
 ·replace h:=S hc18 h
  refine T km3 fun _=>?_
  refine E<|E<|G<|M B B (B:_=eGraph p)<|M B B (B:_=eGraph g)<|e4 (e:=eGraph) (l:=[p,g]) B B (fun _=>rfl)<|W B B<|D B<|F (kt<|kt<|kt<|ko<|kt<|kt<|kn) fun _=>?_
  obtain ⟨o0,ho0,h⟩:=d6 h
  refine d9 ho0 (fun (i0:Int) (_:Unit)=>[(3,.tv (.pt (eTypes t).cells)),(4,.tv (.pt (eGraph p).cells)),(5,.tv (.pt (eGraph g).cells)),(22,.ow ((eL 2 eGraph) [p,g])),(23,.tv (eI ([p,g].length:Int))),(24,.tv (eI i0))]) (fun (_:Unit)=>[(3,.tv (.pt (eTypes t).cells)),(4,.tv (.pt (eGraph p).cells)),(5,.tv (.pt (eGraph g).cells))]) (fun zv ze=>resIs ([.tmp 6]) (.sh (eI zv)) ze) B ?_ ?_ ?_ ?_
  ·clear h ho0
   intro i0 s0 r0 hi0 h hw0
   refine E<|G<|Y B B<|F (kt<|kt<|kt<|ko<|kt<|kt<|kt<|kn) fun _=>?_
   refine E<|d1 B (d2 hi0)<|T (kt<|kt<|kt<|ko<|kt<|kt<|kn) fun _=>?_
   refine E<|b3<|E<|G ?_
   obtain ⟨x26,hx26,h⟩:=J h
   refine a2 B B B hx26 B<|M B B (B:_=eGraph x26)<|b6 B<|a6 B B B B B<|F (kt<|kt<|kt<|kb<|ko<|kt<|kt<|kn) fun _=>?_
   refine E<|G<|M B B (B:_=eGraph x26) ?_
   obtain ⟨x29,hx29,h⟩:=J h
   refine V B (c80 x26 _ hx29)<|D B<|F (kt<|kt<|kt<|kt<|ko<|kt<|kt<|kn) fun _=>?_
   refine E<|G<|D B<|a9 B B<|F (kt<|kt<|kt<|kt<|ko<|kt<|kt<|kt<|kn) fun _=>?_
   refine U B (fun hc31=>?_) (fun hc31=>?_)
   ·replace h:=R hc31 h
    refine E<|G<|D B<|D B<|F km1 fun _=>?_
    refine L ?_
    cases h
    exact ⟨_,rfl,rfl⟩
   ·replace h:=S hc31 h
    refine T (kt<|kt<|kt<|ko<|kt<|kt<|kn) fun _=>?_
    refine G<|a8 B B<|D B<|F (kt<|kt<|kt<|ko<|kt<|kt<|kn) ?_
    cases h
    refine ⟨_,B,?_⟩
    rw [Ktv rfl (Ktv rfl (Ktv rfl (Kow rfl (Ktv rfl (Ktv rfl (Knil _))))))]
    rw [b7 (Z (hw0 24)) hi0 (b9 (Z (hw0 23)))]
    all_goals rfl
  ·intro i0 s0 hi0
   refine E<|G<|Y B B<|F (kt<|kt<|kt<|ko<|kt<|kt<|kt<|kn) fun _=>?_
   refine E<|d0 B (d3 hi0)<|b8 km3 ?_
   exact ⟨rfl,rfl⟩
  ·intro s0 hs
   replace h:=d7 h hs
   intro _
   refine E<|E<|G<|M B B (B:_=eTypes t)<|M B B (B:_=eGraph p) ?_
   obtain ⟨x36,hx36,h⟩:=J h
   refine V B (c131 t p _ hx36)<|d4 B<|D B ?_
   obtain ⟨x43,hx43,h⟩:=J h
   refine gX 5 [39,40,41,42] 43 x43 (!x36) (fun hg43=>?_) (fun hg43=>?_) ?_
   ·replace h:=R hg43 hx43
    cases h
    refine I B hg43<|I B hg43<|I B hg43<|I B hg43<|a4 B hg43 B ?_
    exact ⟨⟨_,_,_,_,B⟩⟩
   ·replace h:=S hg43 hx43
    refine H B hg43<|M B B (B:_=eTypes t)<|H B hg43<|M B B (B:_=eGraph g) ?_
    obtain ⟨x41,hx41,h⟩:=J h
    refine H B hg43<|V B (c131 t g _ hx41)<|H B hg43<|d4 B ?_
    cases h
    refine a5 B hg43 B ?_
    exact ⟨⟨_,_,_,_,B⟩⟩
   rintro _ ⟨_,_,_,_,rfl⟩
   refine F km1 fun _=>?_
   refine U B (fun hc43=>?_) (fun hc43=>?_)
   ·replace h:=R hc43 h
    refine E<|G<|D B<|F km1 fun _=>?_
    exact L (by cases h;rfl)
   ·replace h:=S hc43 h
    refine T kn fun _=>?_
    refine E<|G<|D B<|F km1 fun _=>?_
    exact L (by cases h;rfl)
  ·intro v0 ze hv hR
   replace h:=d8 h hv
   cases h
   exact hR
end Go.Sf.Sc
