/- Contracts of the functions. -/
import Derived.Test.YtlbmpkmkmkgniaaGreatDoorShort
import Derived.Test.YtlbmpkmkmkgniaaGreatDoorRp
import Derived.Test.YtlbmpkmkmkgniaaGreatDoorTryzShelf
set_option maxRecDepth 100000
set_option maxHeartbeats 4000000
namespace Go.Sf.Sc
open Go Go.Sf Go.Proofs.Tryz
theorem n7:CK f20 (Rq [Aj 4] [0,1]<|Sq (Rq [Aa 6 0,Ag 7 6,Aa 8 1,Ag 9 8,Bp 10 7 9] [0,1,10]<|Co 10 (Rq [Aj 4] [4]<|.ret)<|Sk [0,1])<|Sq (Rq [Aa 11 0,Ag 12 11,Ae 13 0] [0,1,12,13]<|Bl 0<|Lo [0,1,12,13]<|Rq [Al 14 13 12] [0,1,12,13,14]<|Sq (Co 14 (Sk [0,1,12,13])<|Ex 0 [])<|Sq (Bl 1<|Rq [Aa 15 13,Aa 5 15] [0,1,5,12,13]<|Sq (Dr [16,17,18,19,20,21,22,23,24] [Aa 16 0,Aa 17 5,Ai 18 16 17 1,Ab 19 18,Aa 20 1,Aa 21 5,Ai 22 20 21 1,Ab 23 22,Bp 24 19 23] [0,1,12,13,24])<|Co 24 (Rq [Aj 4] [4]<|.ret)<|Sk [0,1,12,13])<|Re [Am 25 13 1,Aa 13 25] [0,1,12,13])<|Rq [Bx 4] [4]<|.ret) [.tmp 4]:=by decide +kernel
instance tF (s1_0:List Int) (s2_1:List Int):Ct prog (slices_Equal_int s1_0 s2_1) 20 [lI s1_0,lI s2_1] (fun r=>.sh (eB r)):=Fi n7 fun r h hw hR=>by
  unfold slices_Equal_int at h
  have:HA 0 13 12 0 fun (i0:Int) (_:Unit)=>[(13,.tv (eI i0))]:=⟨⟩
  exact au
theorem lJ:CK f315 (Rq [Aj 2] [0]<|Rq [Aa 3 0,Dy 4 3 97,Aa 5 4,Ar 6 0 5,Dk 7 6 122 5,As 8 5 7,Aa 9 8,Ba 10 0 9,Gi 11 10 65 9,Ba 12 11 9,Ar 13 0 12,Dk 14 13 90 12,Cf 15 12 14 9,Au 16 9 15,Aa 2 16] [2]<|.ret) [.tmp 2]:=by decide +kernel
instance sa (c:Int):Ct prog (J8 c) 315 [Q2 c] (fun r=>.sh (eB r)):=Fi lJ fun r h hw hR=>by
  unfold J8 at h
  exact au
theorem lK:CK f316 (Rq [Ae 4 0] [0,1]<|Rq [Ae 5 0] [0,1,5]<|Sq (Bl 0<|Lo [0,1,5]<|Sq (Rq [Aa 6 5,Aa 7 0,Cj 8 7,Al 9 6 8,Aa 10 9,Ar 11 1 10,Ar 12 0 10,Ar 13 5 10,Fe 14 12 13 10,⟨some 15,.callv (.s 11) [.s 14],some (10,true)⟩,As 16 10 15] [0,1,5,16]<|Co 16 (Sk [0,1,5])<|Ex 0 [5])<|Bl 1<|Re [Aa 17 5,Am 18 17 1,Aa 5 18] [0,1,5])<|Rq [Aa 19 5,Aa 4 19] [4]<|.ret) [.tmp 4]:=by decide +kernel
instance sb (s_0:ByteArray) (ok:Int->Option Bool) (Wc:FuncId) (k_ok:List TV) [h_ok:∀ (y0:Int),Ct prog (ok y0) Wc (Q2 y0::k_ok) (fun r=>.sh (eB r))]:Ct prog (Hr s_0 ok) 316 [eS s_0,.clo Wc k_ok] (fun r=>.sh (eI r)):=Fi lK fun r h hw hR=>by
  unfold Hr at h
  have:HW 0 fun (s0:Int)=>[(5,.tv (eI s0))]:=⟨⟩
  exact au
theorem lM:CK f318 (Rq [Aj 2] [0]<|Rq [Aa 3 0,Dy 4 3 48,Aa 5 4,Ar 6 0 5,Dk 7 6 57 5,As 8 5 7,Aa 2 8] [2]<|.ret) [.tmp 2]:=by decide +kernel
instance se (c:Int):Ct prog (Jh c) 318 [Q2 c] (fun r=>.sh (eB r)):=Fi lM fun r h hw hR=>by
  unfold Jh at h
  exact au
theorem lL:CK f317 (Rq [Aj 2] [0]<|Rq [Aa 3 0,Ay 4 315 3,Aa 5 4,Ba 6 0 5,Dt 7 318 6 5,Au 8 5 7,Aa 9 8,Ba 10 0 9,Gk 11 10 95 9,Au 12 9 11,Aa 2 12] [2]<|.ret) [.tmp 2]:=by decide +kernel
instance sd (c:Int):Ct prog (Lh c) 317 [Q2 c] (fun r=>.sh (eB r)):=Fi lL fun r h hw hR=>by
  unfold Lh at h
  exact au
theorem lW:CK f326 (Rq [Aj 2] [0]<|Rq [Aa 3 0,Dy 4 3 32,Aa 5 4,Ar 6 0 5,Dk 7 6 126 5,As 8 5 7,Aa 9 8,Ar 10 0 9,⟨some 11,.bin (.i) .neq (.s 10) (.c (.int .u8 34)),some (9,true)⟩,As 12 9 11,Aa 2 12] [2]<|.ret) [.tmp 2]:=by decide +kernel
instance sr (c:Int):Ct prog (KI c) 326 [Q2 c] (fun r=>.sh (eB r)):=Fi lW fun r h hw hR=>by
  unfold KI at h
  exact au
theorem lO:CK f319 (Rq [Ae 2 0,Ae 3 0] [0]<|Rq [Aa 5 0,⟨some 6,.sslc (.s 5) (some (.c (.int .i64 1))) none,none⟩,Ek 7 316 6 326,Aa 4 7] [0,4]<|Sq (Rq [Aa 8 4,⟨some 9,.bin (.i) .add (.c (.int .i64 1)) (.s 8),none⟩,Aa 10 0,Cj 11 10,Dc 12 9 11,Aa 13 12,Ba 14 0 13,Ba 15 4 13,⟨some 16,.bin (.i) .add (.c (.int .i64 1)) (.s 15),some (13,false)⟩,⟨some 17,.sidx (.s 14) (.s 16),some (13,false)⟩,⟨some 18,.bin (.i) .neq (.s 17) (.c (.int .u8 34)),some (13,false)⟩,Au 19 13 18] [4,19]<|Co 19 (Rq [Ae 2 0,Ae 3 2] [2,3]<|.ret)<|Sk [4])<|Sq (Rq [Aa 20 4,Bj 21 20 60] [4,21]<|Co 21 (Rq [Ae 2 0,Ae 3 3] [2,3]<|.ret)<|Sk [4])<|Rq [Aa 22 4,Am 23 22 2,Aa 2 23,Ae 3 0] [2,3]<|.ret) [.tmp 2,.tmp 3]:=by decide +kernel
instance sf (s_0:ByteArray):Ct prog (HT s_0) 319 [eS s_0] (fun r=>.tp [eI r.1,eI r.2]):=Fi lO fun r h hw hR=>by
  unfold HT at h
  exact au
theorem lQ:CK f322 (Rq [Ae 4 0] [0,1]<|Sq (Rq [Aa 6 0,Ag 7 6,Ae 8 0] [0,1,7,8]<|Bl 0<|Lo [0,1,7,8]<|Rq [Al 9 8 7] [0,1,7,8,9]<|Sq (Co 9 (Sk [0,1,7,8])<|Ex 0 [])<|Sq (Bl 1<|Rq [Aa 10 8,Aa 5 10] [0,1,5,7,8]<|Rq [Aa 11 1,Aa 12 0,Aa 13 5,Ai 14 12 13 1,Ab 15 14,Dd 16 11 15] [0,1,5,7,8,16]<|Co 16 (Rq [Aa 17 5,Aa 4 17] [4]<|.ret)<|Sk [0,1,7,8])<|Re [Am 18 8 1,Aa 8 18] [0,1,7,8])<|Rq [Bq 4 (-1)] [4]<|.ret) [.tmp 4]:=by decide +kernel
instance si (s_0:List ByteArray) (v_1:ByteArray):Ct prog (slices_Index_string s_0 v_1) 322 [lB s_0,eS v_1] (fun r=>.sh (eI r)):=Fi lQ fun r h hw hR=>by
  unfold slices_Index_string at h
  have:HA 0 8 7 0 fun (i0:Int) (_:Unit)=>[(8,.tv (eI i0))]:=⟨⟩
  exact au
theorem kz:CK f299 (Rq [Aj 4] [0,1]<|Rq [Aa 5 0,Aa 6 1,Aq 7 322 5 6,Bn 8 7 0,Aa 4 8] [4]<|.ret) [.tmp 4]:=by decide +kernel
instance sQ (s_0:List ByteArray) (v_1:ByteArray):Ct prog (slices_Contains_string s_0 v_1) 299 [lB s_0,eS v_1] (fun r=>.sh (eB r)):=Fi kz fun r h hw hR=>by
  unfold slices_Contains_string at h
  exact au
theorem lP:CK f320 (Rq [Aj 2] [0]<|Rq [Aa 3 0,Cj 4 3,Bn 5 4 2,Aa 6 5,⟨some 7,.lst 1 [.c (.str ⟨#[45,62]⟩),.c (.str ⟨#[60,61]⟩),.c (.str ⟨#[62,61]⟩),.c (.str ⟨#[61,61]⟩),.c (.str ⟨#[33,61]⟩)],some (6,true)⟩,Ar 8 0 6,⟨some 9,.sslc (.s 8) none (some (.c (.int .i64 2))),some (6,true)⟩,Cx 10 299 7 9 6,As 11 6 10,Aa 2 11] [2]<|.ret) [.tmp 2]:=by decide +kernel
instance sg (s_0:ByteArray):Ct prog (Lg s_0) 320 [eS s_0] (fun r=>.sh (eB r)):=Fi lP fun r h hw hR=>by
  unfold Lg at h
  exact au
theorem na (s:ByteArray) (c:Int) (r:Int) (h:strings_IndexByte s c=some r):AR prog 321 [eS s,Q2 c] (.sh (eI r)):=by
  unfold strings_IndexByte at h
  cases h
  exact eM (by rfl) ⟨Go.Lib.indexByte_ge _ _,eK _ _⟩ (fun w=>Go.Proofs.Tryz.strings_IndexByte s c w)
instance s9 (s:ByteArray) (c:Int):Ct Go.Proofs.Tryz.prog (strings_IndexByte s c) 321 [eS s,Q2 c] (fun r=>.sh (eI r)):=⟨na s c⟩
theorem kx:CK f297 (Rq [Ae 2 0,Ae 3 0,Ae 4 0] [0]<|Rq [Aa 10 0,⟨some 11,.sidx (.s 10) (.c (.int .i64 0)),none⟩,Aa 5 11] [0,5]<|Sq (Bl 0<|Rq [Aa 13 5,Ay 14 315 13,Aa 12 14] [0,5,12]<|Co 12 (Rq [Aa 15 0,Ek 16 316 15 317,Aa 6 16] [6]<|Sq (Rq [Aa 17 6,Bj 18 17 20] [6,18]<|Co 18 (Rq [Ae 2 0,Ae 3 0,Ae 4 3] [2,3,4]<|.ret)<|Sk [6])<|Rq [Aa 19 6,Ae 2 1,Aa 3 19,Ae 4 0] [2,3,4]<|.ret)<|Rq [Aa 21 5,Ay 22 318 21,Aa 20 22] [0,5,20]<|Co 20 (Rq [Aa 23 0,Ek 24 316 23 318,Aa 7 24] [7]<|Sq (Rq [Aa 25 7,Bj 26 25 9] [7,26]<|Co 26 (Rq [Ae 2 0,Ae 3 0,Ae 4 3] [2,3,4]<|.ret)<|Sk [7])<|Rq [Aa 27 7,Ae 2 2,Aa 3 27,Ae 4 0] [2,3,4]<|.ret)<|Rq [Aa 29 5,Ff 30 29 34,Aa 28 30] [0,5,28]<|Co 28 (Rq [Aa 32 0,Ay 33 319 32,Aa 31 33,An 34 31 0,An 35 31 1,Aa 8 34,Aa 9 35] [8,9]<|Rq [Aa 36 8,Aa 37 9,Ae 2 3,Aa 3 36,Aa 4 37] [2,3,4]<|.ret)<|Rq [Aa 39 0,Ay 40 320 39,Aa 38 40] [5,38]<|Co 38 (Rq [Ae 2 4,Ae 3 2,Ae 4 0] [2,3,4]<|.ret)<|Rq [Aa 42 5,⟨some 43,.call 321 [.c (.str ⟨#[123,125,40,41,91,93,44,59,58,61,43,45,42,60,62,33,38,124,46,63]⟩),.s 42],none⟩,Bn 44 43 0,Aa 41 44] [41]<|Co 41 (Rq [Ae 2 4,Ae 3 1,Ae 4 0] [2,3,4]<|.ret)<|Sk [])<|Rq [Ae 2 0,Ae 3 0,Ae 4 2] [2,3,4]<|.ret) [.tmp 2,.tmp 3,.tmp 4]:=by decide +kernel
instance sO (s_0:ByteArray):Ct prog (Ib s_0) 297 [eS s_0] (fun r=>.tp [eI r.1,eI r.2.1,eI r.2.2]):=Fi kx fun r h hw hR=>by
  unfold Ib at h
  exact au
theorem kJ:CK f253 (Rq [Af 1 0,Ck 2,Aj 3] [1]<|Rq [Ac 8 1 1,Ab 9 8,Aa 4 9] [1,4]<|Sq (Rq [Ac 10 1 0,Ab 11 10,Bb 12 11 3] [1,4,12]<|Co 12 (Re [Aa 13 4,⟨some 14,.bin (.s) .add (.c (.str ⟨#[34]⟩)) (.s 13),none⟩,⟨some 15,.bin (.s) .add (.s 14) (.c (.str ⟨#[34]⟩)),none⟩,Aa 4 15] [1,4])<|Sk [1,4])<|Sq (Rq [Aa 16 4,⟨some 17,.bin (.s) .eql (.s 16) (.c (.str ⟨#[]⟩)),none⟩] [1,4,17]<|Co 17 (Rq [Ck 2,Aj 3] [2,3]<|.ret)<|Sk [1,4])<|Rq [Aa 19 4,Ay 20 297 19,Aa 18 20,An 21 18 0,An 22 18 1,An 23 18 2,Aa 5 21,Aa 6 22,Aa 7 23] [1,4,5,6,7]<|Rq [Aa 24 4,Aa 25 7,Bb 26 25 0,Aa 27 26,Ar 28 5 27,Bc 29 1 0 27,Be 30 29 27,De 31 28 30 27,As 32 27 31,Aa 33 32,Ar 34 6 33,Ar 35 4 33,Fg 36 35 33,De 37 34 36 33,As 38 33 37,Aa 2 24,Aa 3 38] [2,3]<|.ret) [.tmp 2,.tmp 3]:=by decide +kernel
instance rm (t:FT):Ct prog (Il t) 253 [Q1 t] (fun r=>.tp [eS r.1,eB r.2]):=Fi kJ fun r h hw hR=>by
  unfold Il at h
  have:HJ 12 fun (w1:ByteArray)=>[(4,.tv (eS w1))]:=⟨⟩
  exact au
theorem jV:CK f190 (Rq [Aj 2] [0]<|Rq [Aa 6 0,El 7 0 0 0 1 1 1 1 6,Ay 8 253 7,Aa 5 8,An 9 5 0,An 10 5 1,Aa 3 9,Aa 4 10] [4]<|Rq [Aa 11 4,Aa 2 11] [2]<|.ret) [.tmp 2]:=by decide +kernel
instance q8 (s_0:ByteArray):Ct prog (EZ s_0) 190 [eS s_0] (fun r=>.sh (eB r)):=Fi jV fun r h hw hR=>by
  unfold EZ at h
  exact au
theorem kK:CK f254 (Rq [Ae 4 0] [0,1]<|Sq (Rq [Aa 6 0,Ag 7 6,Ae 8 0] [0,1,7,8]<|Bl 0<|Lo [0,1,7,8]<|Rq [Al 9 8 7] [0,1,7,8,9]<|Sq (Co 9 (Sk [0,1,7,8])<|Ex 0 [])<|Sq (Bl 1<|Rq [Aa 10 8,Aa 5 10] [0,1,5,7,8]<|Rq [Aa 11 1,Aa 12 0,Aa 13 5,Ai 14 12 13 4,Ad 15 14 4,Ce 16 11 15] [0,1,5,7,8,16]<|Co 16 (Rq [Aa 17 5,Aa 4 17] [4]<|.ret)<|Sk [0,1,7,8])<|Re [Am 18 8 1,Aa 8 18] [0,1,7,8])<|Rq [Bq 4 (-1)] [4]<|.ret) [.tmp 4]:=by decide +kernel
instance rn (s_0:List CL) (f:CL->Option Bool) (f_f:FuncId) (k_f:List TV) [h_f:∀ (y0:CL),Ct prog (f y0) f_f (HI y0::k_f) (fun r=>.sh (eB r))]:Ct prog (D3 s_0 f) 254 [lN s_0,.clo f_f k_f] (fun r=>.sh (eI r)):=Fi kK fun r h hw hR=>by
  unfold D3 at h
  have:HA 0 8 7 0 fun (i0:Int) (_:Unit)=>[(8,.tv (eI i0))]:=⟨⟩
  exact au
theorem jW:CK f191 (Rq [Aj 4] [0,1]<|Rq [Aa 5 0,Aa 6 1,Aq 7 254 5 6,Bn 8 7 0,Aa 4 8] [4]<|.ret) [.tmp 4]:=by decide +kernel
instance q9 (s_0:List CL) (f:CL->Option Bool) (f_f:FuncId) (k_f:List TV) [h_f:∀ (y0:CL),Ct prog (f y0) f_f (HI y0::k_f) (fun r=>.sh (eB r))]:Ct prog (CW s_0 f) 191 [lN s_0,.clo f_f k_f] (fun r=>.sh (eB r)):=Fi jW fun r h hw hR=>by
  unfold CW at h
  exact au
theorem jX:CK f192 (Rq [Af 2 0,Aj 3] [1,2]<|Rq [Ac 4 2 0,Ab 5 4,Ac 6 1 0,Ab 7 6,Dd 8 5 7,Aa 3 8] [3]<|.ret) [.tmp 3]:=by decide +kernel
instance rA (m:CL) (c0:CL):Ct prog (Lj m c0) 192 [HI m,.pt (HI c0).cells] (fun r=>.sh (eB r)):=Fi jX fun r h hw hR=>by
  unfold Lj at h
  exact au
theorem jY:CK f193 (Rq [Af 2 0,⟨some 4,.nilx 4,none⟩] [1,2]<|Rq [⟨some 5,.nilx 4,none⟩] [1,2,5]<|Sq (Rq [Ac 7 2 0,Ab 8 7,Aa 9 1,Ai 10 8 9 4,Ah 11 10 1,Ab 12 11,Aa 6 12] [1,2,5,6]<|Rq [Aa 13 6,Bn 14 13 0] [1,2,5,6,14]<|Co 14 (Re [Ad 15 2 2,Aa 16 6,Dz 17 193 15 16,By 5 17] [1,2,5])<|Sk [1,2,5])<|Rq [By 18 5,Ac 19 2 0,Ab 20 19,Aa 21 1,Ai 22 20 21 4,Ah 23 22 3,Ab 24 23,Em 25 4 18 24,By 4 25] [4]<|.ret) [.tmp 4]:=by decide +kernel
theorem g6 (n:Nat) (_ih_193:∀ (t:AD) (a:Int),Ct prog (D9 n t a) 193 [At t,eI a] (fun r=>.xown 4 (List.map Hk r))) (t:AD) (a:Int):Ct prog (D9 (n+1) t a) 193 [At t,eI a] (fun r=>.xown 4 (List.map Hk r)):=Fi jY fun r h hw hR=>by
  unfold D9 at h
  have:HJ 14 fun (w1:List Attr)=>[(5,.xo 4 (List.map Hk w1))]:=⟨⟩
  exact au
theorem g5:∀ n:Nat,(∀ (t:AD) (a:Int),Ct prog (D9 n t a) 193 [At t,eI a] (fun r=>.xown 4 (List.map Hk r))):=by
  intro n
  induction n with
  | zero=>exact (fun t a=>⟨fun _ h=>by cases h⟩)
  | succ n ih=>exact g6 n ih
instance rB (t:AD) (a:Int):Ct prog (Ji t a) 193 [At t,eI a] (fun r=>.xown 4 (List.map Hk r)):=⟨fun r h=>by
  obtain ⟨N,hN⟩:=CO h
  exact ((g5 N) t a).snd r (hN N (Nat.le_refl _))⟩
theorem ky:CK f298 (Rq [Ae 4 0] [0,1]<|Sq (Rq [Aa 6 0,Ag 7 6,Ae 8 0] [0,1,7,8]<|Bl 0<|Lo [0,1,7,8]<|Rq [Al 9 8 7] [0,1,7,8,9]<|Sq (Co 9 (Sk [0,1,7,8])<|Ex 0 [])<|Sq (Bl 1<|Rq [Aa 10 8,Aa 5 10] [0,1,5,7,8]<|Rq [Aa 11 1,Aa 12 0,Aa 13 5,Ai 14 12 13 4,Ad 15 14 4,Ce 16 11 15] [0,1,5,7,8,16]<|Co 16 (Rq [Aa 17 5,Aa 4 17] [4]<|.ret)<|Sk [0,1,7,8])<|Re [Am 18 8 1,Aa 8 18] [0,1,7,8])<|Rq [Bq 4 (-1)] [4]<|.ret) [.tmp 4]:=by decide +kernel
instance sP (s_0:List Attr) (f:Attr->Option Bool) (f_f:FuncId) (k_f:List TV) [h_f:∀ (y0:Attr),Ct prog (f y0) f_f (Hk y0::k_f) (fun r=>.sh (eB r))]:Ct prog (EN s_0 f) 298 [lA s_0,.clo f_f k_f] (fun r=>.sh (eI r)):=Fi ky fun r h hw hR=>by
  unfold EN at h
  have:HA 0 8 7 0 fun (i0:Int) (_:Unit)=>[(8,.tv (eI i0))]:=⟨⟩
  exact au
theorem kL:CK f255 (Rq [Aj 4] [0,1]<|Rq [Aa 5 0,Aa 6 1,Aq 7 298 5 6,Bn 8 7 0,Aa 4 8] [4]<|.ret) [.tmp 4]:=by decide +kernel
instance ro (s_0:List Attr) (f:Attr->Option Bool) (f_f:FuncId) (k_f:List TV) [h_f:∀ (y0:Attr),Ct prog (f y0) f_f (Hk y0::k_f) (fun r=>.sh (eB r))]:Ct prog (DQ s_0 f) 255 [lA s_0,.clo f_f k_f] (fun r=>.sh (eB r)):=Fi kL fun r h hw hR=>by
  unfold DQ at h
  exact au
theorem kM:CK f256 (Rq [Af 2 0,Aj 3] [1,2]<|Rq [Ac 4 2 0,Ab 5 4,Ac 6 1 0,Ab 7 6,Dd 8 5 7,Aa 3 8] [3]<|.ret) [.tmp 3]:=by decide +kernel
instance rp (y:Attr) (c0:Attr):Ct prog (Iv y c0) 256 [Hk y,.pt (Hk c0).cells] (fun r=>.sh (eB r)):=Fi kM fun r h hw hR=>by
  unfold Iv at h
  exact au
theorem kN:CK f257 (Rq [Ae 2 0] [0]<|Sq (Rq [Aa 5 0,Ag 6 5,Bj 7 6 20] [0,7]<|Co 7 (Rq [Ae 2 3] [2]<|.ret)<|Sk [0])<|Sq (Rq [Aa 8 0,Ag 9 8,Ae 10 0] [0,8,9,10]<|Bl 0<|Lo [0,8,9,10]<|Rq [Al 11 10 9] [0,8,9,10,11]<|Sq (Co 11 (Sk [0,8,9,10])<|Ex 0 [])<|Sq (Bl 1<|Rq [Aa 12 10,Ai 13 8 10 1,Ab 14 13,Aa 3 12,Aa 4 14] [0,3,4,8,9,10]<|Bl 2<|Rq [Aa 16 4,Ay 17 190 16,Az 18 17,Aa 15 18] [0,3,4,8,9,10,15]<|Co 15 (Rq [Ae 2 2] [2]<|.ret)<|Rq [Aa 20 0,Aa 21 3,Ea 22 1 20 21,Aa 23 4,Aq 24 299 22 23,Aa 19 24] [0,8,9,10,19]<|Co 19 (Rq [Ae 2 5] [2]<|.ret)<|Sk [0,8,9,10])<|Re [Am 25 10 1,Aa 10 25] [0,8,9,10])<|Rq [Ae 2 0] [2]<|.ret) [.tmp 2]:=by decide +kernel
instance rq (l:List ByteArray):Ct prog (Ht l) 257 [lB l] (fun r=>.sh (eI r)):=Fi kN fun r h hw hR=>by
  unfold Ht at h
  have:HA 0 10 9 0 fun (i0:Int) (_:Unit)=>[(10,.tv (eI i0))]:=⟨⟩
  exact au
theorem jZ:CK f194 (Rq [Af 2 0,Ae 4 0] [1,2]<|Sq (Bl 0<|Rq [Ac 8 2 0,Ab 9 8,Ay 10 190 9,Az 11 10,Aa 7 11] [1,2,7]<|Co 7 (Rq [Ae 4 2] [4]<|.ret)<|Rq [Aa 13 1,Cg 14 256 2,Aq 15 255 13 14,Aa 12 15] [2,12]<|Co 12 (Rq [Ae 4 5] [4]<|.ret)<|Sk [2])<|Sq (Rq [Ac 16 2 3,Ab 17 16,Ay 18 257 17,Aa 5 18] [2,5]<|Rq [Aa 19 5,Ax 20 19 0] [2,5,20]<|Co 20 (Rq [Aa 21 5,Aa 4 21] [4]<|.ret)<|Sk [2])<|Rq [Ac 22 2 1,Ab 23 22,⟨some 24,.bin (.i) .leq (.c (.int .i64 (-1000000))) (.s 23),none⟩,Aa 25 24,Bc 26 2 1 25,Be 27 26 25,Bc 28 2 2 25,Be 29 28 25,Eo 30 27 29 25,As 31 25 30,Aa 32 31,Bc 33 2 2 32,Be 34 33 32,Cd 35 34 1000000 32,As 36 32 35,Aa 6 36] [2,6]<|Sq (Rq [Ac 37 2 3,Ab 38 37,Ag 39 38,Bj 40 39 0] [2,6,40]<|Co 40 (Re [Ac 41 2 1,Ab 42 41,Bb 43 42 0,Aa 44 43,Bc 45 2 2 44,Be 46 45 44,Bc 47 2 3 44,Be 48 47 44,Bv 49 48 44,Fh 50 49 1 44,De 51 46 50 44,As 52 44 51,Aa 6 52] [6])<|Sk [6])<|Sq (Rq [Aa 53 6,Az 54 53] [54]<|Co 54 (Rq [Ae 4 6] [4]<|.ret)<|Sk [])<|Rq [Ae 4 0] [4]<|.ret) [.tmp 4]:=by decide +kernel
instance rC (x_0:Attr) (before:List Attr):Ct prog (FK x_0 before) 194 [Hk x_0,lA before] (fun r=>.sh (eI r)):=Fi jZ fun r h hw hR=>by
  unfold FK at h
  have:HJ 40 fun (w1:Bool)=>[(6,.tv (eB w1))]:=⟨⟩
  exact au
theorem ic:CK f139 (Rq [Af 2 0,Ae 4 0] [1,2]<|Rq [Ac 9 2 0,Ab 10 9,Aa 11 1,Ai 12 10 11 4,Ad 13 12 4,Fj 5 0 4,Ao 4 5 13,Cq 5] [1,2,5]<|Sq (Bl 0<|Rq [Ac 15 5 0,Ab 16 15,Ay 17 190 16,Az 18 17,Aa 14 18] [1,2,5,14]<|Co 14 (Rq [Ae 4 2] [4]<|.ret)<|Rq [Ac 20 2 0,Ab 21 20,Aa 22 1,Ea 23 4 21 22,Cg 24 192 5,Aq 25 191 23 24,Aa 19 25] [1,2,5,19]<|Co 19 (Rq [Ae 4 5] [4]<|.ret)<|Rq [Ac 27 5 1,Ab 28 27,Fk 29 28 (-1),Aa 30 29,Av 31 5 1 30,Ap 32 31 30,Ba 33 1 30,Bw 34 32 33 30,Au 35 30 34,Aa 26 35] [1,2,5,26]<|Co 26 (Rq [Ae 4 6] [4]<|.ret)<|Rq [Ac 37 5 3,Ab 38 37,Ag 39 38,Bj 40 39 4,Aa 36 40] [1,2,5,36]<|Co 36 (Rq [Ae 4 3] [4]<|.ret)<|Sk [1,2,5])<|Rq [Ad 41 2 2,Aa 42 1,Aq 43 193 41 42,Ak 6 43] [5,6]<|Sq (Rq [Aa 44 6,Ag 45 44,Bj 46 45 8] [5,6,46]<|Co 46 (Rq [Ae 4 3] [4]<|.ret)<|Sk [5,6])<|Sq (Rq [Aa 47 6,Ag 48 47,Ac 49 5 3,Ab 50 49,Ag 51 50,Du 52 48 51,Aa 7 52] [6,7]<|Bl 1<|Lo [6,7]<|Sq (Rq [Aa 53 7,Aa 54 6,Ag 55 54,Al 56 53 55] [6,7,56]<|Co 56 (Sk [6,7])<|Ex 1 [])<|Sq (Bl 2<|Sq (Dr [8,59,60,61,62,63,64,65,66] [Aa 59 6,Aa 60 7,Ai 61 59 60 4,Ad 62 61 4,Aa 63 6,Aa 64 7,Ea 65 4 63 64,Aq 66 194 62 65,Aa 8 66] [6,7,8])<|Rq [Aa 67 8,Ax 68 67 0] [6,7,8,68]<|Co 68 (Rq [Aa 69 8,Aa 4 69] [4]<|.ret)<|Sk [6,7])<|Re [Aa 57 7,Am 58 57 1,Aa 7 58] [6,7])<|Rq [Ae 4 0] [4]<|.ret) [.tmp 4]:=by decide +kernel
instance qM (t:AD) (i_1:Int):Ct prog (If t i_1) 139 [At t,eI i_1] (fun r=>.sh (eI r)):=Fi ic fun r h hw hR=>by
  unfold If at h
  have:HA 1 7 6 0 fun (i1:Int) (_:Unit)=>[(7,.tv (eI i1))]:=⟨⟩
  exact au
theorem ja:CK f195 (Rq [Aj 3] [0,1]<|Rq [Aa 4 0,Bn 5 4 0,Aa 6 5,Ar 7 0 6,Bc 8 1 0 6,Be 9 8 6,Bv 10 9 6,Ep 11 7 10 6,As 12 6 11,Aa 3 12] [3]<|.ret) [.tmp 3]:=by decide +kernel
instance rD (n:Int) (c0:AD):Ct prog (J9 n c0) 195 [eI n,.pt (At c0).cells] (fun r=>.sh (eB r)):=Fi ja fun r h hw hR=>by
  unfold J9 at h
  exact au
theorem kO:CK f258 (Rq [Ae 4 0] [0,1]<|Sq (Rq [Aa 6 0,Ag 7 6,Ae 8 0] [0,1,7,8]<|Bl 0<|Lo [0,1,7,8]<|Rq [Al 9 8 7] [0,1,7,8,9]<|Sq (Co 9 (Sk [0,1,7,8])<|Ex 0 [])<|Sq (Bl 1<|Rq [Aa 10 8,Aa 5 10] [0,1,5,7,8]<|Rq [Aa 11 1,Aa 12 0,Aa 13 5,Ai 14 12 13 7,Ad 15 14 7,Ce 16 11 15] [0,1,5,7,8,16]<|Co 16 (Rq [Aa 17 5,Aa 4 17] [4]<|.ret)<|Sk [0,1,7,8])<|Re [Am 18 8 1,Aa 8 18] [0,1,7,8])<|Rq [Bq 4 (-1)] [4]<|.ret) [.tmp 4]:=by decide +kernel
instance rr (s_0:List CZ) (f:CZ->Option Bool) (f_f:FuncId) (k_f:List TV) [h_f:∀ (y0:CZ),Ct prog (f y0) f_f (Hm y0::k_f) (fun r=>.sh (eB r))]:Ct prog (D2 s_0 f) 258 [lX s_0,.clo f_f k_f] (fun r=>.sh (eI r)):=Fi kO fun r h hw hR=>by
  unfold D2 at h
  have:HA 0 8 7 0 fun (i0:Int) (_:Unit)=>[(8,.tv (eI i0))]:=⟨⟩
  exact au
theorem jc:CK f196 (Rq [Aj 4] [0,1]<|Rq [Aa 5 0,Aa 6 1,Aq 7 258 5 6,Bn 8 7 0,Aa 4 8] [4]<|.ret) [.tmp 4]:=by decide +kernel
instance rE (s_0:List CZ) (f:CZ->Option Bool) (f_f:FuncId) (k_f:List TV) [h_f:∀ (y0:CZ),Ct prog (f y0) f_f (Hm y0::k_f) (fun r=>.sh (eB r))]:Ct prog (CU s_0 f) 196 [lX s_0,.clo f_f k_f] (fun r=>.sh (eB r)):=Fi jc fun r h hw hR=>by
  unfold CU at h
  exact au
theorem je:CK f197 (Rq [Af 2 0,Aj 3] [1,2]<|Rq [Ac 4 2 0,Ab 5 4,Ac 6 1 0,Ab 7 6,Dd 8 5 7,Aa 3 8] [3]<|.ret) [.tmp 3]:=by decide +kernel
instance rF (y:CZ) (c0:CZ):Ct prog (Li y c0) 197 [Hm y,.pt (Hm c0).cells] (fun r=>.sh (eB r)):=Fi je fun r h hw hR=>by
  unfold Li at h
  exact au
theorem jf:CK f198 (Rq [Aj 4] [0,1]<|Rq [Aa 5 0,Bn 6 5 0,Aa 7 6,Ar 8 0 7,Cd 9 8 40 7,As 10 7 9,Aa 11 10,Ar 12 1 11,Gl 13 12 (-1) 11,Ar 14 13 11,Ba 15 1 14,Ba 16 0 14,Bw 17 15 16 14,Ba 18 17 14,Ar 19 1 18,Cd 20 19 40 18,Cf 21 18 20 14,Dl 22 14 21 11,As 23 11 22,Aa 4 23] [4]<|.ret) [.tmp 4]:=by decide +kernel
instance rG (low:Int) (high:Int):Ct prog (Ja low high) 198 [eI low,eI high] (fun r=>.sh (eB r)):=Fi jf fun r h hw hR=>by
  unfold Ja at h
  exact au
theorem ig:CK f140 (Rq [Af 2 0,Ae 4 0] [1,2]<|Rq [Ac 7 2 1,Ab 8 7,Aa 9 1,Ai 10 8 9 7,Ad 11 10 7,Fm 5 0 0 0 0 0 0,Ao 7 5 11,Cq 5] [1,2,5]<|Rq [Cg 12 195 2,Aa 6 12] [1,2,5,6]<|Sq (Bl 0<|Rq [Ac 14 5 0,Ab 15 14,Ay 16 190 15,Az 17 16,Aa 13 17] [1,2,5,6,13]<|Co 13 (Rq [Ae 4 2] [4]<|.ret)<|Rq [Ac 19 2 1,Ab 20 19,Aa 21 1,Ea 22 7 20 21,Cg 23 197 5,Aq 24 196 22 23,Aa 18 24] [5,6,18]<|Co 18 (Rq [Ae 4 5] [4]<|.ret)<|Sq (Rq [Aa 26 6,Ac 27 5 1,Ab 28 27,Ce 29 26 28,Az 30 29,Aa 31 30,Ba 32 6 31,Av 33 5 2 31,Ap 34 33 31,⟨some 35,.callv (.s 32) [.s 34],some (31,false)⟩,Br 36 35 31,Au 37 31 36,Aa 25 37] [5,25]<|Co 25 (Sk [25])<|Re [Ac 38 5 3,Ab 39 38,Ac 40 5 4,Ab 41 40,Aq 42 198 39 41,Az 43 42,Aa 44 43,Av 45 5 5 44,Ap 46 45 44,Av 47 5 6 44,Ap 48 47 44,Dm 49 198 46 48 44,Br 50 49 44,Au 51 44 50,Aa 25 51] [25])<|Co 25 (Rq [Ae 4 6] [4]<|.ret)<|Sk [])<|Rq [Ae 4 0] [4]<|.ret) [.tmp 4]:=by decide +kernel
instance qN (t:AD) (i_1:Int):Ct prog (Ie t i_1) 140 [At t,eI i_1] (fun r=>.sh (eI r)):=Fi ig fun r h hw hR=>by
  unfold Ie at h
  have:HJ 25 fun (w1:Bool)=>[(25,.tv (eB w1))]:=⟨⟩
  exact au
theorem ou:CK f95 (Rq [Af 1 0,Ck 2,Ae 3 0] [1]<|Sq (Bl 0<|Rq [Ac 11 1 0,Ab 12 11,Ag 13 12,Bb 14 13 0,Aa 10 14] [1,10]<|Co 10 (Rq [Ck 2,Ae 3 7] [2,3]<|.ret)<|Rq [Ac 16 1 0,Ab 17 16,Ag 18 17,Bj 19 18 12,Aa 20 19,Av 21 1 1 20,Ap 22 21 20,Bg 23 22 20,Bz 24 23 20 20,Au 25 20 24,Aa 15 25] [1,15]<|Co 15 (Rq [Ck 2,Ae 3 3] [2,3]<|.ret)<|Sk [1])<|Sq (Rq [Ac 26 1 0,Ab 27 26,Ag 28 27,Ae 29 0] [1,27,28,29]<|Bl 1<|Lo [1,27,28,29]<|Rq [Al 30 29 28] [1,27,28,29,30]<|Sq (Co 30 (Sk [1,27,28,29])<|Ex 1 [1])<|Sq (Bl 2<|Rq [Aa 31 29,Ai 32 27 29 4,Ad 33 32 4,Fj 5 0 4,Aa 4 31,Ao 4 5 33] [1,4,5,27,28,29]<|Rq [Ad 34 1 2,Aa 35 4,Aq 36 139 34 35,Aa 6 36] [1,5,6,27,28,29]<|Rq [Aa 37 6,Ax 38 37 0] [1,5,6,27,28,29,38]<|Co 38 (Rq [Ac 39 5 0,Ab 40 39,Aa 41 6,Aa 2 40,Aa 3 41] [2,3]<|.ret)<|Sk [1,27,28,29])<|Re [Am 42 29 1,Aa 29 42] [1,27,28,29])<|Sq (Rq [Ac 43 1 1,Ab 44 43,Ag 45 44,Ae 46 0] [1,44,45,46]<|Bl 3<|Lo [1,44,45,46]<|Rq [Al 47 46 45] [1,44,45,46,47]<|Sq (Co 47 (Sk [1,44,45,46])<|Ex 3 [])<|Sq (Bl 4<|Rq [Aa 48 46,Ai 49 44 46 7,Ad 50 49 7,Fm 8 0 0 0 0 0 0,Aa 7 48,Ao 7 8 50] [1,7,8,44,45,46]<|Rq [Ad 51 1 2,Aa 52 7,Aq 53 140 51 52,Aa 9 53] [1,8,9,44,45,46]<|Rq [Aa 54 9,Ax 55 54 0] [1,8,9,44,45,46,55]<|Co 55 (Rq [Ac 56 8 0,Ab 57 56,Aa 58 9,Aa 2 57,Aa 3 58] [2,3]<|.ret)<|Sk [1,44,45,46])<|Re [Am 59 46 1,Aa 46 59] [1,44,45,46])<|Rq [Ck 2,Ae 3 0] [2,3]<|.ret) [.tmp 2,.tmp 3]:=by decide +kernel
instance uC (t:AD):Ct prog (FS t) 95 [At t] (fun r=>.tp [eS r.1,eI r.2]):=Fi ou fun r h hw hR=>by
  unfold FS at h
  have:HA 1 29 28 0 fun (i1:Int) (_:Unit)=>[(29,.tv (eI i1))]:=⟨⟩
  have:HA 3 46 45 0 fun (i3:Int) (_:Unit)=>[(46,.tv (eI i3))]:=⟨⟩
  exact au
theorem oM:CK f46 (Rq [Ae 4 0] [0,1]<|Sq (Rq [Aa 6 0,Ag 7 6,Ae 8 0] [0,1,7,8]<|Bl 0<|Lo [0,1,7,8]<|Rq [Al 9 8 7] [0,1,7,8,9]<|Sq (Co 9 (Sk [0,1,7,8])<|Ex 0 [])<|Sq (Bl 1<|Rq [Aa 10 8,Aa 5 10] [0,1,5,7,8]<|Rq [Aa 11 1,Aa 12 0,Aa 13 5,Ai 14 12 13 1,Ab 15 14,Ce 16 11 15] [0,1,5,7,8,16]<|Co 16 (Rq [Aa 17 5,Aa 4 17] [4]<|.ret)<|Sk [0,1,7,8])<|Re [Am 18 8 1,Aa 8 18] [0,1,7,8])<|Rq [Bq 4 (-1)] [4]<|.ret) [.tmp 4]:=by decide +kernel
instance tU (s_0:List Int) (f:Int->Option Bool) (f_f:FuncId) (k_f:List TV) [h_f:∀ (y0:Int),Ct prog (f y0) f_f (eI y0::k_f) (fun r=>.sh (eB r))]:Ct prog (E5 s_0 f) 46 [lI s_0,.clo f_f k_f] (fun r=>.sh (eI r)):=Fi oM fun r h hw hR=>by
  unfold E5 at h
  have:HA 0 8 7 0 fun (i0:Int) (_:Unit)=>[(8,.tv (eI i0))]:=⟨⟩
  exact au
theorem n9:CK f24 (Rq [Aj 4] [0,1]<|Rq [Aa 5 0,Aa 6 1,Aq 7 46 5 6,Bn 8 7 0,Aa 4 8] [4]<|.ret) [.tmp 4]:=by decide +kernel
instance tH (s_0:List Int) (f:Int->Option Bool) (f_f:FuncId) (k_f:List TV) [h_f:∀ (y0:Int),Ct prog (f y0) f_f (eI y0::k_f) (fun r=>.sh (eB r))]:Ct prog (BU s_0 f) 24 [lI s_0,.clo f_f k_f] (fun r=>.sh (eB r)):=Fi n9 fun r h hw hR=>by
  unfold BU at h
  exact au
theorem ij:CK f142 (Rq [Aj 4] [0,1]<|Rq [Aa 5 0,Bn 6 5 0,Aa 7 6,Ar 8 0 7,Ar 9 1 7,Eo 10 8 9 7,As 11 7 10,Aa 4 11] [4]<|.ret) [.tmp 4]:=by decide +kernel
instance qP (n:Int) (most:Int):Ct prog (H4 n most) 142 [eI n,eI most] (fun r=>.sh (eB r)):=Fi ij fun r h hw hR=>by
  unfold H4 at h
  exact au
theorem ii:CK f141 (Rq [Aj 2] [0]<|Rq [Aa 3 0,Cr 4 142 3 99,Az 5 4,Aa 2 5] [2]<|.ret) [.tmp 2]:=by decide +kernel
instance qO (t:Int):Ct prog (Kn t) 141 [eI t] (fun r=>.sh (eB r)):=Fi ii fun r h hw hR=>by
  unfold Kn at h
  exact au
theorem jg:CK f199 (Rq [Ae 4 0] [0,1]<|Sq (Rq [Aa 6 0,Ag 7 6,Ae 8 0] [0,1,7,8]<|Bl 0<|Lo [0,1,7,8]<|Rq [Al 9 8 7] [0,1,7,8,9]<|Sq (Co 9 (Sk [0,1,7,8])<|Ex 0 [])<|Sq (Bl 1<|Rq [Aa 10 8,Aa 5 10] [0,1,5,7,8]<|Rq [Aa 11 1,Aa 12 0,Aa 13 5,Ai 14 12 13 3,Ad 15 14 3,Ce 16 11 15] [0,1,5,7,8,16]<|Co 16 (Rq [Aa 17 5,Aa 4 17] [4]<|.ret)<|Sk [0,1,7,8])<|Re [Am 18 8 1,Aa 8 18] [0,1,7,8])<|Rq [Bq 4 (-1)] [4]<|.ret) [.tmp 4]:=by decide +kernel
instance rH (s_0:List DS) (f:DS->Option Bool) (f_f:FuncId) (k_f:List TV) [h_f:∀ (y0:DS),Ct prog (f y0) f_f (EQ y0::k_f) (fun r=>.sh (eB r))]:Ct prog (EO s_0 f) 199 [lE s_0,.clo f_f k_f] (fun r=>.sh (eI r)):=Fi jg fun r h hw hR=>by
  unfold EO at h
  have:HA 0 8 7 0 fun (i0:Int) (_:Unit)=>[(8,.tv (eI i0))]:=⟨⟩
  exact au
theorem il:CK f143 (Rq [Aj 4] [0,1]<|Rq [Aa 5 0,Aa 6 1,Aq 7 199 5 6,Bn 8 7 0,Aa 4 8] [4]<|.ret) [.tmp 4]:=by decide +kernel
instance qQ (s_0:List DS) (f:DS->Option Bool) (f_f:FuncId) (k_f:List TV) [h_f:∀ (y0:DS),Ct prog (f y0) f_f (EQ y0::k_f) (fun r=>.sh (eB r))]:Ct prog (B7 s_0 f) 143 [lE s_0,.clo f_f k_f] (fun r=>.sh (eB r)):=Fi il fun r h hw hR=>by
  unfold B7 at h
  exact au
theorem io:CK f145 (Rq [Af 2 0,Aj 4] [1,2]<|Rq [Ac 5 2 0,Ab 6 5,Cr 7 142 6 99,Aa 8 7,Bc 9 2 1 8,Be 10 9 8,Ar 11 1 8,Fh 12 11 1 8,Cx 13 142 10 12 8,As 14 8 13,Aa 15 14,Bc 16 2 2 15,Be 17 16 15,Ar 18 1 15,Fh 19 18 1 15,Cx 20 142 17 19 15,As 21 15 20,Aa 4 21] [4]<|.ret) [.tmp 4]:=by decide +kernel
instance qS (e:DS) (nodes:Int):Ct prog (LR e nodes) 145 [EQ e,eI nodes] (fun r=>.sh (eB r)):=Fi io fun r h hw hR=>by
  unfold LR at h
  exact au
theorem im:CK f144 (Rq [Af 2 0,Aj 3] [1,2]<|Rq [Ad 4 2 3,Ac 5 1 0,Ab 6 5,Ag 7 6,Aq 8 145 4 7,Az 9 8,Aa 3 9] [3]<|.ret) [.tmp 3]:=by decide +kernel
instance qR (e:DS) (c0:Graph):Ct prog (Ko e c0) 144 [EQ e,.pt (DN c0).cells] (fun r=>.sh (eB r)):=Fi im fun r h hw hR=>by
  unfold Ko at h
  exact au
theorem ov:CK f96 (Rq [Af 1 0,Ae 2 0] [1]<|Sq (Rq [Ac 3 1 0,Ab 4 3,Ag 5 4,Bj 6 5 40,Aa 7 6,Av 8 1 1 7,Ap 9 8 7,Bg 10 9 7,Bz 11 10 80 7,Au 12 7 11] [1,12]<|Co 12 (Rq [Ae 2 3] [2]<|.ret)<|Sk [1])<|Sq (Rq [Ac 13 1 0,Ab 14 13,Ek 15 24 14 141] [1,15]<|Co 15 (Rq [Ae 2 6] [2]<|.ret)<|Sk [1])<|Sq (Rq [Ac 16 1 1,Ab 17 16,Cg 18 144 1,Aq 19 143 17 18] [19]<|Co 19 (Rq [Ae 2 6] [2]<|.ret)<|Sk [])<|Rq [Ae 2 0] [2]<|.ret) [.tmp 2]:=by decide +kernel
instance uD (g:Graph):Ct prog (EE g) 96 [DN g] (fun r=>.sh (eI r)):=Fi ov fun r h hw hR=>by
  unfold EE at h
  exact au
theorem ji:CK f201 (Rq [Aj 3] [0,1]<|Rq [Aa 4 0,Bs 5 4 0,Aa 6 5,Ba 7 0 6,Av 8 1 0 6,Ap 9 8 6,Bg 10 9 6,Bw 11 7 10 6,Au 12 6 11,Aa 3 12] [3]<|.ret) [.tmp 3]:=by decide +kernel
instance rJ (a:Int) (c0:AD):Ct prog (Kt a c0) 201 [eI a,.pt (At c0).cells] (fun r=>.sh (eB r)):=Fi ji fun r h hw hR=>by
  unfold Kt at h
  exact au
theorem iq:CK f147 (Rq [Af 2 0,Ae 4 0] [1,2]<|Sq (Rq [Ad 8 2 2,Ay 9 95 8,Aa 7 9,An 10 7 0,An 11 7 1,Aa 5 10,Aa 6 11] [1,2,6]<|Rq [Aa 12 6,Ax 13 12 0] [1,2,6,13]<|Co 13 (Rq [Aa 14 6,Aa 4 14] [4]<|.ret)<|Sk [1,2])<|Sq (Rq [Aa 15 1,Cg 16 201 2,Aq 17 24 15 16] [17]<|Co 17 (Rq [Ae 4 6] [4]<|.ret)<|Sk [])<|Rq [Ae 4 0] [4]<|.ret) [.tmp 4]:=by decide +kernel
instance qU (t:AD) (l:List Int):Ct prog (GF t l) 147 [At t,lI l] (fun r=>.sh (eI r)):=Fi iq fun r h hw hR=>by
  unfold GF at h
  exact au
theorem jh:CK f200 (Rq [Aw 2 1] [0]<|Sq (Rq [Aa 3 0,⟨some 4,.isn (.s 3),none⟩] [0,4]<|Co 4 (Rq [Aw 2 1] [2]<|.ret)<|Sk [0])<|Rq [Eq 5 1,Aa 6 0,Bm 7 1 5 6,Ak 2 7] [2]<|.ret) [.tmp 2]:=by decide +kernel
instance rI (s_0:List ByteArray):Ct prog (slices_Clone_string s_0) 200 [lB s_0] (fun r=>.own (lB r)):=Fi jh fun r h hw hR=>by
  unfold slices_Clone_string at h
  exact au
theorem ip:CK f146 (Rq [Af 2 0,Aw 4 4,Ae 5 0] [1,2]<|Sq (Rq [Ad 9 2 2,Aa 10 1,Bi 11 1 10,Aq 12 147 9 11,Aa 6 12] [1,2,6]<|Rq [Aa 13 6,Ax 14 13 0] [1,2,6,14]<|Co 14 (Rq [Aa 15 6,Aw 4 4,Aa 5 15] [4,5]<|.ret)<|Sk [1,2])<|Rq [Ad 16 2 2,Aa 17 1,Dz 18 193 16 17,By 7 18] [7]<|Sq (Rq [Bk 19 7,Dv 20 19,Ae 21 0] [7,20,21]<|Bl 0<|Lo [7,20,21]<|Rq [Al 22 21 20] [7,20,21,22]<|Sq (Co 22 (Sk [7,20,21])<|Ex 0 [7])<|Sq (Bl 1<|Rq [Aa 23 21,Aa 8 23] [7,8,20,21]<|Re [Bk 24 7,Aa 25 8,Bk 26 7,Aa 27 8,Bt 28 26 27 4,⟨some 29,.xfa (.s 28) 3,none⟩,Er 30 29,Ay 31 200 30,Bt 32 24 25 4,⟨some 33,.xfa (.s 32) 3,none⟩,Cy 33 31] [7,20,21])<|Re [Am 34 21 1,Aa 21 34] [7,20,21])<|Rq [Df 35 7,Ak 4 35,Ae 5 0] [4,5]<|.ret) [.tmp 4,.tmp 5]:=by decide +kernel
instance qT (t:AD) (a:Int):Ct prog (HE t a) 146 [At t,eI a] (fun r=>.tp [lA r.1,eI r.2]):=Fi ip fun r h hw hR=>by
  unfold HE at h
  have:HA 0 21 20 0 fun (i0:Int) (s0:List Attr)=>[(7,.xo 4 (List.map Hk s0)),(21,.tv (eI i0))]:=⟨⟩
  have:HS 31:=⟨⟩
  have:HX 33 fun (a:Attr) (v:List ByteArray)=>Attr.mk a.Name a.Low a.High v:=⟨⟩
  exact au
theorem ox:CK f97 (Rq [Af 3 0,Ae 6 0] [1,2,3]<|Sq (Rq [Aa 11 1,Ac 12 3 0,Ab 13 12,Ag 14 13,Dg 15 11 14] [1,2,3,15]<|Co 15 (Rq [Ae 6 6] [6]<|.ret)<|Sk [1,2,3])<|Sq (Rq [Ac 16 3 0,Ab 17 16,Aa 18 1,Ai 19 17 18 4,Ah 20 19 2,Ab 21 20] [1,2,3,21]<|Co 21 (Rq [Ae 6 13] [6]<|.ret)<|Sk [1,2,3])<|Rq [Ad 23 3 2,Aa 24 1,Aq 25 146 23 24,Aa 22 25,An 26 22 0,An 27 22 1,Ak 7 26,Aa 8 27] [2,7]<|Sq (Rq [Aa 28 2,Ag 29 28,Aa 30 7,Ag 31 30,Bp 32 29 31] [2,7,32]<|Co 32 (Rq [Ae 6 20] [6]<|.ret)<|Sk [2,7])<|Sq (Rq [Aa 33 7,Ag 34 33,Ae 35 0] [2,33,34,35]<|Bl 0<|Lo [2,33,34,35]<|Rq [Al 36 35 34] [2,33,34,35,36]<|Sq (Co 36 (Sk [2,33,34,35])<|Ex 0 [])<|Sq (Bl 1<|Rq [Aa 37 35,Ai 38 33 35 4,Ad 39 38 4,Dn 10 0 0 1,Aa 9 37,Ao 4 10 39] [2,9,10,33,34,35]<|Sq (Dr [40,41,42,43,44,45,46,47,48,49,50,51,52,53,54,55] [Aa 40 2,Aa 41 9,Ai 42 40 41 1,Ab 43 42,Ac 44 10 1,Ab 45 44,Al 46 43 45,Aa 47 46,Ba 48 2 47,Ba 49 9 47,Ch 50 48 49 1 47,Ap 51 50 47,Av 52 10 2 47,Ap 53 52 47,⟨some 54,.bin (.i) .gtr (.s 51) (.s 53),some (47,false)⟩,Au 55 47 54] [2,33,34,35,55])<|Co 55 (Rq [Ae 6 6] [6]<|.ret)<|Sk [2,33,34,35])<|Re [Am 56 35 1,Aa 35 56] [2,33,34,35])<|Rq [Ae 6 0] [6]<|.ret) [.tmp 6]:=by decide +kernel
instance uE (t:AD) (kind:Int) (DD:List Int):Ct prog (I8 t kind DD) 97 [At t,eI kind,lI DD] (fun r=>.sh (eI r)):=Fi ox fun r h hw hR=>by
  unfold I8 at h
  have:HA 0 35 34 0 fun (i0:Int) (_:Unit)=>[(35,.tv (eI i0))]:=⟨⟩
  exact au
theorem oa:CK f73 (Rq [Ae 4 0] [0,1]<|Sq (Rq [Aa 6 0,Ag 7 6,Ae 8 0] [0,1,7,8]<|Bl 0<|Lo [0,1,7,8]<|Rq [Al 9 8 7] [0,1,7,8,9]<|Sq (Co 9 (Sk [0,1,7,8])<|Ex 0 [])<|Sq (Bl 1<|Rq [Aa 10 8,Aa 5 10] [0,1,5,7,8]<|Rq [Aa 11 1,Aa 12 0,Aa 13 5,Ai 14 12 13 1,Ab 15 14,Dc 16 11 15] [0,1,5,7,8,16]<|Co 16 (Rq [Aa 17 5,Aa 4 17] [4]<|.ret)<|Sk [0,1,7,8])<|Re [Am 18 8 1,Aa 8 18] [0,1,7,8])<|Rq [Bq 4 (-1)] [4]<|.ret) [.tmp 4]:=by decide +kernel
instance tm (s_0:List Int) (v_1:Int):Ct prog (slices_Index_int s_0 v_1) 73 [lI s_0,eI v_1] (fun r=>.sh (eI r)):=Fi oa fun r h hw hR=>by
  unfold slices_Index_int at h
  have:HA 0 8 7 0 fun (i0:Int) (_:Unit)=>[(8,.tv (eI i0))]:=⟨⟩
  exact au
theorem oH:CK f38 (Rq [Aj 4] [0,1]<|Rq [Aa 5 0,Aa 6 1,Aq 7 73 5 6,Bn 8 7 0,Aa 4 8] [4]<|.ret) [.tmp 4]:=by decide +kernel
instance tP (s_0:List Int) (v_1:Int):Ct prog (slices_Contains_int s_0 v_1) 38 [lI s_0,eI v_1] (fun r=>.sh (eB r)):=Fi oH fun r h hw hR=>by
  unfold slices_Contains_int at h
  exact au
theorem nY (l r:List Int) (h:slices_Reverse_int l=some r):AR prog 259 [.list 1 (l.map (TV.int .i64))] (.turn r):=by
  unfold slices_Reverse_int at h
  split at h
  · rename_i hl
    unfold B9 at hl
    cases h
    refine Xz (by rfl) List.length_reverse (fun x hx=>List.mem_reverse.1 hx) (fun w hz=>?_) (fun g cap w _ _ hg hH=>(Go.Proofs.Tryz.slices_Reverse_int g 0 cap l w hH (by omega)).mono ?_)
    · subst hz
      exact Go.Proofs.Tryz.slices_Reverse_int_empty none 0 w
    · rintro e w' ⟨h1,q,h2⟩
      exact ⟨h1,q,#[],by rw [Go.Sort.grow_empty]; exact h2⟩
  · cases h
instance s7 (l:List Int):Ct Go.Proofs.Tryz.prog (slices_Reverse_int l) 259 [.list 1 (l.map (TV.int .i64))] CH.turn:=⟨nY l⟩
theorem jk:CK f202 (Rq [Af 2 0,Aw 4 1] [1,2]<|Rq [⟨some 5,.nilx 1,none⟩] [1,2,5]<|Sq (Bl 0<|Lo [1,2,5]<|Sq (Rq [Aa 6 1,Bn 7 6 0] [1,2,5,7]<|Co 7 (Sk [1,2,5])<|Ex 0 [5])<|Sq (Bl 1<|Re [By 14 5,Aa 15 1,Bi 16 1 15,Em 17 1 14 16,By 5 17] [1,2,5])<|Re [Ac 8 2 0,Ab 9 8,Aa 10 1,Ai 11 9 10 4,Ah 12 11 1,Ab 13 12,Aa 1 13] [1,2,5])<|Rq [Bk 18 5,Fo 19 259 18] [5]<|Rq [Df 20 5,Ak 4 20] [4]<|.ret) [.tmp 4]:=by decide +kernel
instance rK (t:AD) (a:Int):Ct prog (JQ t a) 202 [At t,eI a] (fun r=>.own (lI r)):=Fi jk fun r h hw hR=>by
  unfold JQ at h
  have:HW 0 fun (s0:Int × List Int)=>[(1,.tv (eI s0.1)),(5,.xo 1 (List.map eI s0.2))]:=⟨⟩
  exact au
theorem ir:CK f148 (Rq [Af 3 0,Aj 6] [1,2,3]<|Rq [Ad 7 3 2,Aa 8 1,Aq 9 202 7 8,Aa 10 2,Aq 11 38 9 10,Aa 6 11] [6]<|.ret) [.tmp 6]:=by decide +kernel
instance qV (t:AD) (a:Int) (b:Int):Ct prog (Im t a b) 148 [At t,eI a,eI b] (fun r=>.sh (eB r)):=Fi ir fun r h hw hR=>by
  unfold Im at h
  exact au
theorem oy:CK f98 (Rq [Af 4 0,Aj 8] [1,2,3,4]<|Sq (Rq [Ad 9 4 2,Aa 10 2,Aa 11 3,Dh 12 1 10 11,Aq 13 147 9 12,Ax 14 13 0,Aa 15 14,Ba 16 1 15,Gm 17 16 0 15,Au 18 15 17,Aa 19 18,Ba 20 1 19,Av 21 4 1 19,Ap 22 21 19,Bg 23 22 19,Bw 24 20 23 19,Au 25 19 24] [1,2,3,4,25]<|Co 25 (Rq [Aj 8] [8]<|.ret)<|Sk [1,2,3,4])<|Sq (Dr [8,26,27,28,29,30,31,32,33,34,35,36,37,38,39,40,41,42,43,44,45] [Ad 26 4 2,Aa 27 2,Ac 28 4 1,Ab 29 28,Aa 30 1,Ai 31 29 30 7,Ah 32 31 1,Ab 33 32,Bf 34 148 26 27 33,Aa 35 34,Bh 36 4 2 35,Ar 37 3 35,Bc 38 4 1 35,Be 39 38 35,Ar 40 1 35,Fp 41 39 40 7 35,Ca 42 41 2 35,Be 43 42 35,Es 44 148 36 37 43 35,As 45 35 44,Aa 8 45] [8])<|.ret) [.tmp 8]:=by decide +kernel
instance uF (t:AD) (edge:Int) (from':Int) (to':Int):Ct prog (Ic t edge from' to') 98 [At t,eI edge,eI from',eI to'] (fun r=>.sh (eB r)):=Fi oy fun r h hw hR=>by
  unfold Ic at h
  exact au
theorem oO:CK f51 (Rq [Af 2 0,Af 3 1,Ae 4 0,Ae 5 0] [2,3]<|Sq (Rq [Ad 15 2 2,Ay 16 95 15,Aa 14 16,An 17 14 0,An 18 14 1,Aa 6 17,Aa 7 18] [2,3,7]<|Rq [Aa 19 7,Ax 20 19 0] [2,3,7,20]<|Co 20 (Rq [Aa 21 7,Bq 4 (-1),Aa 5 21] [4,5]<|.ret)<|Sk [2,3])<|Sq (Rq [Ac 22 3 0,Ad 23 22 2,Ay 24 96 23,Aa 8 24] [2,3,8]<|Rq [Aa 25 8,Ax 26 25 0] [2,3,8,26]<|Co 26 (Rq [Aa 27 8,Bq 4 (-1),Aa 5 27] [4,5]<|.ret)<|Sk [2,3])<|Sq (Rq [Ac 28 3 2,Ab 29 28,Ag 30 29,Ac 31 3 0,Ah 32 31 0,Ab 33 32,Ag 34 33,Bp 35 30 34] [2,3,35]<|Co 35 (Rq [Bq 4 (-1),Ae 5 20] [4,5]<|.ret)<|Sk [2,3])<|Sq (Rq [Ac 36 3 0,Ah 37 36 0,Ab 38 37,Ag 39 38,Ae 40 0] [2,3,38,39,40]<|Bl 0<|Lo [2,3,38,39,40]<|Rq [Al 41 40 39] [2,3,38,39,40,41]<|Sq (Co 41 (Sk [2,3,38,39,40])<|Ex 0 [2,3])<|Sq (Bl 1<|Rq [Aa 42 40,Ai 43 38 40 1,Ab 44 43,Aa 9 42,Aa 10 44] [2,3,9,10,38,39,40]<|Sq (Dr [11,45,46,47,48,49,50,51,52] [Ad 45 2 2,Aa 46 10,Ac 47 3 2,Ab 48 47,Aa 49 9,Ai 50 48 49 1,Ab 51 50,Bf 52 97 45 46 51,Aa 11 52] [2,3,9,11,38,39,40])<|Rq [Aa 53 11,Ax 54 53 0] [2,3,9,11,38,39,40,54]<|Co 54 (Rq [Aa 55 9,Aa 56 11,Aa 4 55,Aa 5 56] [4,5]<|.ret)<|Sk [2,3,38,39,40])<|Re [Am 57 40 1,Aa 40 57] [2,3,38,39,40])<|Sq (Rq [Ac 58 3 0,Ah 59 58 1,Ab 60 59,Ag 61 60,Ae 62 0] [2,3,60,61,62]<|Bl 2<|Lo [2,3,60,61,62]<|Rq [Al 63 62 61] [2,3,60,61,62,63]<|Sq (Co 63 (Sk [2,3,60,61,62])<|Ex 2 [])<|Sq (Bl 3<|Rq [Aa 64 62,Ai 65 60 62 3,Ad 66 65 3,Cs 13 0 0 0,Aa 12 64,Ao 3 13 66] [2,3,12,13,60,61,62]<|Sq (Rq [Ac 67 13 0,Ab 68 67,Ac 69 2 1,Ab 70 69,Ag 71 70,Dg 72 68 71] [2,3,12,13,60,61,62,72]<|Co 72 (Rq [Aa 73 12,Aa 4 73,Ae 5 6] [4,5]<|.ret)<|Sk [2,3,12,13,60,61,62])<|Sq (Dr [74,75,76,77,78,79,80,81,82,83,84,85,86,87,88,89,90,91,92] [Ad 74 2 2,Ac 75 13 0,Ab 76 75,Ac 77 3 0,Ah 78 77 0,Ab 79 78,Ac 80 13 1,Ab 81 80,Ai 82 79 81 1,Ab 83 82,Ac 84 3 0,Ah 85 84 0,Ab 86 85,Ac 87 13 2,Ab 88 87,Ai 89 86 88 1,Ab 90 89,Do 91 98 74 76 83 90,Az 92 91] [2,3,12,60,61,62,92])<|Co 92 (Rq [Aa 93 12,Aa 4 93,Ae 5 13] [4,5]<|.ret)<|Sk [2,3,60,61,62])<|Re [Am 94 62 1,Aa 62 94] [2,3,60,61,62])<|Rq [Bq 4 (-1),Ae 5 0] [4,5]<|.ret) [.tmp 4,.tmp 5]:=by decide +kernel
instance tW (t:AD) (h_1:A2):Ct prog (G6 t h_1) 51 [At t,IP h_1] (fun r=>.tp [eI r.1,eI r.2]):=Fi oO fun r h hw hR=>by
  unfold G6 at h
  have:HA 0 40 39 0 fun (i0:Int) (_:Unit)=>[(40,.tv (eI i0))]:=⟨⟩
  have:HA 2 62 61 0 fun (i2:Int) (_:Unit)=>[(62,.tv (eI i2))]:=⟨⟩
  exact au
theorem jw:CK f233 (Rq [Aj 3] [0,1]<|Rq [Aa 4 0,Ac 5 1 0,Ab 6 5,Ag 7 6,Dg 8 4 7,Aa 3 8] [3]<|.ret) [.tmp 3]:=by decide +kernel
instance rU (n:Int) (c0:AD):Ct prog (Hg n c0) 233 [eI n,.pt (At c0).cells] (fun r=>.sh (eB r)):=Fi jw fun r h hw hR=>by
  unfold Hg at h
  exact au
theorem jx:CK f234 (Rq [Af 2 0,Aj 3] [1,2]<|Rq [Ac 4 2 0,Ab 5 4,Ac 6 1 1,Ab 7 6,Ag 8 7,Dg 9 5 8,Aa 3 9] [3]<|.ret) [.tmp 3]:=by decide +kernel
instance rV (x_0:DS) (c0:AD):Ct prog (Hh x_0 c0) 234 [EQ x_0,.pt (At c0).cells] (fun r=>.sh (eB r)):=Fi jx fun r h hw hR=>by
  unfold Hh at h
  exact au
theorem jy:CK f235 (Rq [Aj 6] [0,1,2]<|Rq [Aa 7 0,Aa 8 1,Dg 9 7 8,Aa 10 9,Ar 11 0 10,Ar 12 2 10,Eo 13 11 12 10,As 14 10 13,Aa 6 14] [6]<|.ret) [.tmp 6]:=by decide +kernel
instance rW (n:Int) (low:Int) (high:Int):Ct prog (DM n low high) 235 [eI n,eI low,eI high] (fun r=>.sh (eB r)):=Fi jy fun r h hw hR=>by
  unfold DM at h
  exact au
theorem jz:CK f236 (Rq [Af 3 0,Af 4 1,Af 5 2,Dn 6 0 0 1,Aj 7] [3,4,5,6]<|Sq (Rq [Ac 10 5 0,Ab 11 10,Ac 12 4 0,Ah 13 12 0,Ab 14 13,Ag 15 14,Ci 16 15 1,Dp 17 235 11 0 16,Az 18 17] [3,4,5,6,18]<|Co 18 (Rq [Et 19 0 0 1,Ao 4 6 19,Aj 7] [6,7]<|.ret)<|Sk [3,4,5,6])<|Sq (Dr [8,9,20,21,22,23,24,25,26,27,28,29,30,31] [Ad 21 3 2,Ac 22 4 0,Ah 23 22 0,Ab 24 23,Ac 25 5 0,Ab 26 25,Ai 27 24 26 1,Ab 28 27,Aq 29 146 21 28,Aa 20 29,An 30 20 0,An 31 20 1,Ak 8 30,Aa 9 31] [5,6,8])<|Sq (Rq [Ac 32 5 1,Ab 33 32,Aa 34 8,Ag 35 34,Ci 36 35 1,Dp 37 235 33 0 36,Az 38 37] [5,6,8,38]<|Co 38 (Rq [Et 39 0 0 1,Ao 4 6 39,Aj 7] [6,7]<|.ret)<|Sk [5,6,8])<|Rq [Aa 40 8,Ac 41 5 1,Ab 42 41,Ai 43 40 42 4,Ad 44 43 4,Ao 4 6 44,Bx 7] [6,7]<|.ret) [.cell 6 (some 4),.tmp 7]:=by decide +kernel
instance rX (t:AD) (p:Pattern) (s_2:D8):Ct prog (F5 t p s_2) 236 [At t,B1 p,Km s_2] (fun r=>.tp [Hk r.1,eB r.2]):=Fi jz fun r h hw hR=>by
  unfold F5 at h
  exact au
theorem k8:CK f307 (Rq [Af 3 1,Aj 4] [0,3]<|Rq [Ac 5 3 0,Ab 6 5,⟨some 7,.bin (.i) .geq (.s 6) (.c (.int .i64 (-1))),none⟩,Aa 8 7,Bc 9 3 0 8,Be 10 9 8,Ar 11 0 8,Ep 12 10 11 8,As 13 8 12,Aa 14 13,Bc 15 3 1 14,Be 16 15 14,⟨some 17,.bin (.i) .geq (.s 16) (.c (.int .i64 (-1000000))),some (14,true)⟩,As 18 14 17,Aa 19 18,Bc 20 3 1 19,Be 21 20 19,Cd 22 21 1000000 19,As 23 19 22,Aa 4 23] [4]<|.ret) [.tmp 4]:=by decide +kernel
instance sT (n:Int) (t:Term):Ct prog (IN n t) 307 [eI n,Ps t] (fun r=>.sh (eB r)):=Fi k8 fun r h hw hR=>by
  unfold IN at h
  exact au
theorem kZ:CK f282 (Rq [Af 3 1,Ae 4 0] [0,3]<|Sq (Bl 0<|Rq [Ac 6 3 0,Ab 7 6,Ax 8 7 1,Aa 9 8,Bc 10 3 0 9,Be 11 10 9,Fq 12 11 2 9,As 13 9 12,Aa 5 13] [0,3,5]<|Co 5 (Rq [Ae 4 1] [4]<|.ret)<|Rq [Aa 15 0,Ac 16 3 1,Ad 17 16 2,Aq 18 307 15 17,Az 19 18,Aa 20 19,Ba 21 0 20,Av 22 3 3 20,Cb 23 22 2 20,Dm 24 307 21 23 20,Br 25 24 20,Au 26 20 25,Aa 14 26] [14]<|Co 14 (Rq [Ae 4 6] [4]<|.ret)<|Sk [])<|Rq [Ae 4 0] [4]<|.ret) [.tmp 4]:=by decide +kernel
instance sA (n:Int) (x_1:Test):Ct prog (Iz n x_1) 282 [eI n,LM x_1] (fun r=>.sh (eI r)):=Fi kZ fun r h hw hR=>by
  unfold Iz at h
  exact au
theorem j5:CK f237 (Rq [Ae 4 0] [0,1]<|Sq (Rq [Aa 8 0,Bs 9 8 0,Aa 10 9,Ba 11 0 10,Bz 12 11 12 10,Au 13 10 12] [0,1,13]<|Co 13 (Rq [Ae 4 6] [4]<|.ret)<|Sk [0,1])<|Sq (Rq [Aa 14 1,Ag 15 14,Bj 16 15 40] [0,1,16]<|Co 16 (Rq [Ae 4 3] [4]<|.ret)<|Sk [0,1])<|Sq (Rq [Aa 17 1,Ag 18 17,Ae 19 0] [0,17,18,19]<|Bl 0<|Lo [0,17,18,19]<|Rq [Al 20 19 18] [0,17,18,19,20]<|Sq (Co 20 (Sk [0,17,18,19])<|Ex 0 [])<|Sq (Bl 1<|Rq [Ai 21 17 19 5,Ad 22 21 5,Eu 6 0 0 0 0 0,Ao 5 6 22] [0,6,17,18,19]<|Rq [Aa 23 0,Ad 24 6 5,Aq 25 282 23 24,Aa 7 25] [0,7,17,18,19]<|Rq [Aa 26 7,Ax 27 26 0] [0,7,17,18,19,27]<|Co 27 (Rq [Aa 28 7,Aa 4 28] [4]<|.ret)<|Sk [0,17,18,19])<|Re [Am 29 19 1,Aa 19 29] [0,17,18,19])<|Rq [Ae 4 0] [4]<|.ret) [.tmp 4]:=by decide +kernel
instance rY (n:Int) (l:List Test):Ct prog (H2 n l) 237 [eI n,lT l] (fun r=>.sh (eI r)):=Fi j5 fun r h hw hR=>by
  unfold H2 at h
  have:HA 0 19 18 0 fun (i0:Int) (_:Unit)=>[(19,.tv (eI i0))]:=⟨⟩
  exact au
theorem kc:CK f283 (Rq [Ae 4 0] [0,1]<|Sq (Rq [Aa 6 0,Ag 7 6,Ae 8 0] [0,1,7,8]<|Bl 0<|Lo [0,1,7,8]<|Rq [Al 9 8 7] [0,1,7,8,9]<|Sq (Co 9 (Sk [0,1,7,8])<|Ex 0 [])<|Sq (Bl 1<|Rq [Aa 10 8,Aa 5 10] [0,1,5,7,8]<|Rq [Aa 11 1,Aa 12 0,Aa 13 5,Ai 14 12 13 1,Ab 15 14,Dw 16 11 15] [0,1,5,7,8,16]<|Co 16 (Rq [Aa 17 5,Aa 4 17] [4]<|.ret)<|Sk [0,1,7,8])<|Re [Am 18 8 1,Aa 8 18] [0,1,7,8])<|Rq [Bq 4 (-1)] [4]<|.ret) [.tmp 4]:=by decide +kernel
instance sB (s_0:List Bool) (v_1:Bool):Ct prog (It s_0 v_1) 283 [(eL 1 eB) s_0,eB v_1] (fun r=>.sh (eI r)):=Fi kc fun r h hw hR=>by
  unfold It at h
  have:HA 0 8 7 0 fun (i0:Int) (_:Unit)=>[(8,.tv (eI i0))]:=⟨⟩
  exact au
theorem j6:CK f238 (Rq [Aj 4] [0,1]<|Rq [Aa 5 0,Aa 6 1,Aq 7 283 5 6,Bn 8 7 0,Aa 4 8] [4]<|.ret) [.tmp 4]:=by decide +kernel
instance rZ (s_0:List Bool) (v_1:Bool):Ct prog (GP s_0 v_1) 238 [(eL 1 eB) s_0,eB v_1] (fun r=>.sh (eB r)):=Fi j6 fun r h hw hR=>by
  unfold GP at h
  exact au
theorem jI:CK f176 (Rq [Af 2 0,Af 3 1,Ae 4 0] [2,3]<|Sq (Rq [Ad 15 2 2,Ay 16 95 15,Aa 14 16,An 17 14 0,An 18 14 1,Aa 5 17,Aa 6 18] [2,3,6]<|Rq [Aa 19 6,Ax 20 19 0] [2,3,6,20]<|Co 20 (Rq [Aa 21 6,Aa 4 21] [4]<|.ret)<|Sk [2,3])<|Sq (Rq [Ac 22 3 0,Ad 23 22 2,Ay 24 96 23,Aa 7 24] [2,3,7]<|Rq [Aa 25 7,Ax 26 25 0] [2,3,7,26]<|Co 26 (Rq [Aa 27 7,Aa 4 27] [4]<|.ret)<|Sk [2,3])<|Sq (Rq [Ac 28 3 0,Ah 29 28 0,Ab 30 29,Cg 31 233 2,Aq 32 24 30 31,Aa 33 32,Av 34 3 0 33,Bu 35 34 1 33,Ap 36 35 33,⟨some 37,.clo 234 [.s 2],some (33,false)⟩,Dm 38 143 36 37 33,Au 39 33 38] [2,3,39]<|Co 39 (Rq [Ae 4 13] [4]<|.ret)<|Sk [2,3])<|Sq (Rq [Ac 40 3 3,Ab 41 40,Gn 42 235 41 0 12,Az 43 42] [2,3,43]<|Co 43 (Rq [Ae 4 6] [4]<|.ret)<|Sk [2,3])<|Sq (Rq [Ac 44 3 2,Ab 45 44,Ag 46 45,Bj 47 46 10,Aa 48 47,Av 49 3 4 48,Ap 50 49 48,Bg 51 50 48,Bz 52 51 10 48,Au 53 48 52] [2,3,53]<|Co 53 (Rq [Ae 4 3] [4]<|.ret)<|Sk [2,3])<|Rq [Ac 54 3 3,Ab 55 54,Eb 56 1 55,By 8 56] [2,3,8]<|Sq (Rq [Ac 57 3 2,Ab 58 57,Ag 59 58,Ae 60 0] [2,3,8,58,59,60]<|Bl 0<|Lo [2,3,8,58,59,60]<|Rq [Al 61 60 59] [2,3,8,58,59,60,61]<|Sq (Co 61 (Sk [2,3,8,58,59,60])<|Ex 0 [3,8])<|Sq (Bl 1<|Rq [Ai 62 58 60 4,Ad 63 62 4,Ec 10 0 0 0 0,Ao 4 10 63] [2,3,8,10,58,59,60]<|Sq (Rq [Ad 65 2 2,Ad 66 3 5,Ad 67 10 4,Bf 68 236 65 66 67,Aa 64 68,An 69 64 0,An 70 64 1,Dn 11 0 0 1,Ao 4 11 69,Aa 12 70] [2,3,8,10,12,58,59,60]<|Rq [Aa 71 12,Az 72 71,Aa 73 72,Av 74 10 2 73,Bu 75 74 0 73,Ap 76 75 73,Av 77 3 3 73,Ap 78 77 73,Fr 79 78 1 73,⟨some 80,.call 235 [.s 76,.c (.int .i64 (-1)),.s 79],some (73,false)⟩,Br 81 80 73,Au 82 73 81,Aa 83 82,Av 84 10 2 83,Bu 85 84 1 83,Ap 86 85 83,⟨some 87,.call 235 [.s 86,.c (.int .i64 (-1000000)),.c (.int .i64 1000000)],some (83,false)⟩,Br 88 87 83,Au 89 83 88] [2,3,8,10,58,59,60,89]<|Co 89 (Rq [Ae 4 6] [4]<|.ret)<|Sk [2,3,8,10,58,59,60])<|Rq [Ac 90 10 2,Ah 91 90 0,Ab 92 91,Bn 93 92 0] [2,3,8,10,58,59,60,93]<|Co 93 (Re [Bk 94 8,Ac 95 10 2,Ah 96 95 0,Ab 97 96,Bt 98 94 97 1,Dq 98] [2,3,8,58,59,60])<|Sk [2,3,8,58,59,60])<|Re [Am 99 60 1,Aa 60 99] [2,3,8,58,59,60])<|Sq (Rq [Ac 100 3 3,Ab 101 100,Ac 102 3 4,Ab 103 102,Aq 104 237 101 103,Aa 13 104] [8,13]<|Rq [Aa 105 13,Ax 106 105 0] [8,13,106]<|Co 106 (Rq [Aa 107 13,Aa 4 107] [4]<|.ret)<|Sk [8])<|Sq (Rq [Bk 108 8,⟨some 109,.calll 238 [.s 108,.c (.bool false)],none⟩] [109]<|Co 109 (Rq [Ae 4 9] [4]<|.ret)<|Sk [])<|Rq [Ae 4 0] [4]<|.ret) [.tmp 4]:=by decide +kernel
instance qq (t:AD) (p:Pattern):Ct prog (EA t p) 176 [At t,B1 p] (fun r=>.sh (eI r)):=Fi jI fun r h hw hR=>by
  unfold EA at h
  have:HA 0 60 59 0 fun (i0:Int) (s0:List Bool)=>[(8,.xo 1 (List.map eB s0)),(60,.tv (eI i0))]:=⟨⟩
  exact au
theorem jG:CK f171 (Rq [Ae 4 0] [0,1]<|Sq (Rq [Aa 6 0,Ag 7 6,Ae 8 0] [0,1,7,8]<|Bl 0<|Lo [0,1,7,8]<|Rq [Al 9 8 7] [0,1,7,8,9]<|Sq (Co 9 (Sk [0,1,7,8])<|Ex 0 [])<|Sq (Bl 1<|Rq [Aa 10 8,Aa 5 10] [0,1,5,7,8]<|Rq [Aa 11 1,Aa 12 0,Aa 13 5,Ai 14 12 13 9,Ad 15 14 9,Ce 16 11 15] [0,1,5,7,8,16]<|Co 16 (Rq [Aa 17 5,Aa 4 17] [4]<|.ret)<|Sk [0,1,7,8])<|Re [Am 18 8 1,Aa 8 18] [0,1,7,8])<|Rq [Bq 4 (-1)] [4]<|.ret) [.tmp 4]:=by decide +kernel
instance qo (s_0:List AA) (f:AA->Option Bool) (f_f:FuncId) (k_f:List TV) [h_f:∀ (y0:AA),Ct prog (f y0) f_f (AF y0::k_f) (fun r=>.sh (eB r))]:Ct prog (DX s_0 f) 171 [G3 s_0,.clo f_f k_f] (fun r=>.sh (eI r)):=Fi jG fun r h hw hR=>by
  unfold DX at h
  have:HA 0 8 7 0 fun (i0:Int) (_:Unit)=>[(8,.tv (eI i0))]:=⟨⟩
  exact au
theorem iP:CK f120 (Rq [Aj 4] [0,1]<|Rq [Aa 5 0,Aa 6 1,Aq 7 171 5 6,Bn 8 7 0,Aa 4 8] [4]<|.ret) [.tmp 4]:=by decide +kernel
instance p8 (s_0:List AA) (f:AA->Option Bool) (f_f:FuncId) (k_f:List TV) [h_f:∀ (y0:AA),Ct prog (f y0) f_f (AF y0::k_f) (fun r=>.sh (eB r))]:Ct prog (BV s_0 f) 120 [G3 s_0,.clo f_f k_f] (fun r=>.sh (eB r)):=Fi iP fun r h hw hR=>by
  unfold BV at h
  exact au
theorem ke:CK f284 (Rq [Af 1 0,Aj 2] [1]<|Rq [Ac 4 1 4,Ad 5 4 5,Dx 3 1 3 4 0 5,Ao 5 3 5] [1,3]<|Rq [Ac 6 1 2,Ah 7 6 0,Ab 8 7,Ag 9 8,Ac 10 1 2,Ah 11 10 1,Ab 12 11,Ag 13 12,Bo 14 9 13,Ac 15 3 0,Ah 16 15 0,Ab 17 16,Ag 18 17,Bo 19 14 18,Ac 20 3 0,Ah 21 20 1,Ab 22 21,Ag 23 22,Bo 24 19 23,Ac 25 3 2,Ab 26 25,Ag 27 26,Bo 28 24 27,Ac 29 3 4,Ab 30 29,Ag 31 30,Bo 32 28 31,Bb 33 32 0,Aa 34 33,Bc 35 3 3 34,Be 36 35 34,Cz 37 36 0 34,As 38 34 37,Aa 2 38] [2]<|.ret) [.tmp 2]:=by decide +kernel
instance sC (c:AA):Ct prog (F6 c) 284 [AF c] (fun r=>.sh (eB r)):=Fi ke fun r h hw hR=>by
  unfold F6 at h
  exact au
theorem j7:CK f239 (Rq [Af 1 0,Aj 2] [1]<|Rq [Ac 5 1 1,Ab 6 5,Ag 7 6,Aa 3 7] [1,3]<|Rq [Aj 4] [1,3,4]<|Sq (Rq [Ac 8 1 0,Ab 9 8] [1,3,4,9]<|Bl 0<|Rq [Bb 11 9 1,Aa 10 11] [1,3,4,9,10]<|Co 10 (Re [Aa 12 3,Bb 13 12 0,Aa 14 13,Bh 15 1 9 14,Cc 16 284 15 14,As 17 14 16,Aa 4 17] [1,4])<|Rq [Bb 19 9 2,Aa 18 19] [1,3,4,9,18]<|Co 18 (Re [Aa 20 3,Bb 21 20 1,Aa 22 21,Bh 23 1 9 22,Cc 24 284 23 22,As 25 22 24,Aa 4 25] [1,4])<|Sq (Rq [Bb 27 9 3,Aa 26 27] [1,3,4,9,26]<|Co 26 (Sk [1,3,4,9,26])<|Re [Bb 28 9 4,Aa 26 28] [1,3,4,9,26])<|Co 26 (Re [Aa 29 3,Bn 30 29 1,Aa 31 30,Bh 32 1 9 31,Cc 33 284 32 31,As 34 31 33,Aa 4 34] [1,4])<|Rq [Bb 36 9 5,Aa 35 36] [1,3,4,35]<|Co 35 (Re [Aa 37 3,Bb 38 37 1,Aa 4 38] [1,4])<|Sk [1,4])<|Rq [Aa 39 4,Aa 40 39,Bc 41 1 1 40,Be 42 41 40,⟨some 43,.call 120 [.s 42,.c (.clo 285 [])],some (40,true)⟩,Ed 44 43 40,As 45 40 44,Aa 2 45] [2]<|.ret) [.tmp 2]:=by decide +kernel
theorem kf:CK f285 (Rq [Af 1 0,Aj 2] [1]<|Rq [Ad 3 1 9,Ay 4 239 3,Az 5 4,Aa 2 5] [2]<|.ret) [.tmp 2]:=by decide +kernel
theorem g7 (n:Nat) (_ih_239:∀ (c:AA),Ct prog (BW n c) 239 [AF c] (fun r=>.sh (eB r))) (_ih_285:∀ (k:AA),Ct prog (B6 n k) 285 [AF k] (fun r=>.sh (eB r))) (c:AA):Ct prog (BW (n+1) c) 239 [AF c] (fun r=>.sh (eB r)):=Fi j7 fun r h hw hR=>by
  unfold BW at h
  have:HJ 10 fun (w1:Bool)=>[(4,.tv (eB w1))]:=⟨⟩
  exact au
theorem hO (n:Nat) (_ih_239:∀ (c:AA),Ct prog (BW n c) 239 [AF c] (fun r=>.sh (eB r))) (_ih_285:∀ (k:AA),Ct prog (B6 n k) 285 [AF k] (fun r=>.sh (eB r))) (k:AA):Ct prog (B6 (n+1) k) 285 [AF k] (fun r=>.sh (eB r)):=Fi kf fun r h hw hR=>by
  unfold B6 at h
  exact au
theorem aX:∀ n:Nat,(∀ (c:AA),Ct prog (BW n c) 239 [AF c] (fun r=>.sh (eB r)))∧(∀ (k:AA),Ct prog (B6 n k) 285 [AF k] (fun r=>.sh (eB r))):=by
  intro n
  induction n with
  | zero=>exact ⟨(fun c=>⟨fun _ h=>by cases h⟩),(fun k=>⟨fun _ h=>by cases h⟩)⟩
  | succ n ih=>exact ⟨g7 n ih.1 ih.2,hO n ih.1 ih.2⟩
instance ra (c:AA):Ct prog (GK c) 239 [AF c] (fun r=>.sh (eB r)):=⟨fun r h=>by
  obtain ⟨N,hN⟩:=CO h
  exact ((aX N).1 c).snd r (hN N (Nat.le_refl _))⟩
instance sE (k:AA):Ct prog (N0 k) 285 [AF k] (fun r=>.sh (eB r)):=⟨fun r h=>by
  obtain ⟨N,hN⟩:=CO h
  exact ((aX N).2 k).snd r (hN N (Nat.le_refl _))⟩
theorem j8:CK f240 (Rq [Af 1 0,Ae 2 0,Ae 3 0] [1]<|Rq [Ae 4 1,Ae 5 0] [1,4,5]<|Sq (Rq [Ac 10 1 1,Ab 11 10,Ag 12 11,Ae 13 0] [1,4,5,11,12,13]<|Bl 0<|Lo [1,4,5,11,12,13]<|Rq [Al 14 13 12] [1,4,5,11,12,13,14]<|Sq (Co 14 (Sk [1,4,5,11,12,13])<|Ex 0 [1,4,5])<|Sq (Bl 1<|Rq [Ai 15 11 13 9,Ad 16 15 9,Cu 7 0 9 1 1 1 3 4 0 5,Ao 9 7 16] [1,4,5,7,11,12,13]<|Rq [Ad 18 7 9,Ay 19 240 18,Aa 17 19,An 20 17 0,An 21 17 1,Aa 8 20,Aa 9 21] [1,4,5,8,9,11,12,13]<|Re [Aa 22 4,Aa 23 8,Bo 24 22 23,Aa 25 5,Aa 26 9,Fs 27 25 26,Aa 4 24,Aa 5 27] [1,4,5,11,12,13])<|Re [Am 28 13 1,Aa 13 28] [1,4,5,11,12,13])<|Sq (Rq [Ac 29 1 0,Ab 30 29,Bb 31 30 5] [4,5,31]<|Co 31 (Re [Aa 32 5,Am 33 32 1,Aa 5 33] [4,5])<|Sk [4,5])<|Rq [Aa 34 4,Aa 35 5,Aa 2 34,Aa 3 35] [2,3]<|.ret) [.tmp 2,.tmp 3]:=by decide +kernel
theorem g9 (n:Nat) (_ih_240:∀ (c:AA),Ct prog (C0 n c) 240 [AF c] (fun r=>.tp [eI r.1,eI r.2])) (c:AA):Ct prog (C0 (n+1) c) 240 [AF c] (fun r=>.tp [eI r.1,eI r.2]):=Fi j8 fun r h hw hR=>by
  unfold C0 at h
  have:HA 0 13 12 0 fun (i0:Int) (s0:Int × Int)=>[(4,.tv (eI s0.1)),(5,.tv (eI s0.2)),(13,.tv (eI i0))]:=⟨⟩
  have:HJ 31 fun (w1:Int)=>[(5,.tv (eI w1))]:=⟨⟩
  exact au
theorem g8:∀ n:Nat,(∀ (c:AA),Ct prog (C0 n c) 240 [AF c] (fun r=>.tp [eI r.1,eI r.2])):=by
  intro n
  induction n with
  | zero=>exact (fun c=>⟨fun _ h=>by cases h⟩)
  | succ n ih=>exact g9 n ih
instance rb (c:AA):Ct prog (Hi c) 240 [AF c] (fun r=>.tp [eI r.1,eI r.2]):=⟨fun r h=>by
  obtain ⟨N,hN⟩:=CO h
  exact ((g8 N) c).snd r (hN N (Nat.le_refl _))⟩
theorem jJ:CK f177 (Rq [Af 1 0,Ae 2 0] [1]<|Sq (Rq [Ad 5 1 9,Ay 6 239 5,Az 7 6] [1,7]<|Co 7 (Rq [Ae 2 1] [2]<|.ret)<|Sk [1])<|Sq (Rq [Ad 9 1 9,Ay 10 240 9,Aa 8 10,An 11 8 0,An 12 8 1,Aa 3 11,Aa 4 12] [3,4]<|Rq [Aa 13 3,Bj 14 13 12,Aa 15 14,Ba 16 4 15,Bz 17 16 3 15,Au 18 15 17] [18]<|Co 18 (Rq [Ae 2 3] [2]<|.ret)<|Sk [])<|Rq [Ae 2 0] [2]<|.ret) [.tmp 2]:=by decide +kernel
instance qr (c:AA):Ct prog (FG c) 177 [AF c] (fun r=>.sh (eI r)):=Fi jJ fun r h hw hR=>by
  unfold FG at h
  exact au
theorem k9:CK f308 (Rq [Ae 4 0] [0,1]<|Sq (Rq [Aa 6 0,Ag 7 6,Ae 8 0] [0,1,7,8]<|Bl 0<|Lo [0,1,7,8]<|Rq [Al 9 8 7] [0,1,7,8,9]<|Sq (Co 9 (Sk [0,1,7,8])<|Ex 0 [])<|Sq (Bl 1<|Rq [Aa 10 8,Aa 5 10] [0,1,5,7,8]<|Rq [Aa 11 1,Aa 12 0,Aa 13 5,Ai 14 12 13 4,Ad 15 14 4,Ce 16 11 15] [0,1,5,7,8,16]<|Co 16 (Rq [Aa 17 5,Aa 4 17] [4]<|.ret)<|Sk [0,1,7,8])<|Re [Am 18 8 1,Aa 8 18] [0,1,7,8])<|Rq [Bq 4 (-1)] [4]<|.ret) [.tmp 4]:=by decide +kernel
instance sU (s_0:List D8) (f:D8->Option Bool) (f_f:FuncId) (k_f:List TV) [h_f:∀ (y0:D8),Ct prog (f y0) f_f (Km y0::k_f) (fun r=>.sh (eB r))]:Ct prog (EP s_0 f) 308 [lS s_0,.clo f_f k_f] (fun r=>.sh (eI r)):=Fi k9 fun r h hw hR=>by
  unfold EP at h
  have:HA 0 8 7 0 fun (i0:Int) (_:Unit)=>[(8,.tv (eI i0))]:=⟨⟩
  exact au
theorem kh:CK f286 (Rq [Aj 4] [0,1]<|Rq [Aa 5 0,Aa 6 1,Aq 7 308 5 6,Bn 8 7 0,Aa 4 8] [4]<|.ret) [.tmp 4]:=by decide +kernel
instance sF (s_0:List D8) (f:D8->Option Bool) (f_f:FuncId) (k_f:List TV) [h_f:∀ (y0:D8),Ct prog (f y0) f_f (Km y0::k_f) (fun r=>.sh (eB r))]:Ct prog (DR s_0 f) 286 [lS s_0,.clo f_f k_f] (fun r=>.sh (eB r)):=Fi kh fun r h hw hR=>by
  unfold DR at h
  exact au
theorem ki:CK f287 (Rq [Af 2 0,Aj 3] [1,2]<|Rq [Ac 4 2 2,Ah 5 4 0,Ab 6 5,Ab 7 1,Dc 8 6 7,Aa 3 8] [3]<|.ret) [.tmp 3]:=by decide +kernel
instance sG (s_0:D8) (c0:Int):Ct prog (IB s_0 c0) 287 [Km s_0,.pt [eI c0]] (fun r=>.sh (eB r)):=Fi ki fun r h hw hR=>by
  unfold IB at h
  exact au
theorem j9:CK f241 (Rq [Af 3 0,Af 4 1,Ae 6 0] [2,3,4]<|Rq [Ad 9 3 2,Ad 10 4 5,Aq 11 176 9 10,Aa 7 11] [2,4,7]<|Sq (Rq [Aa 12 7,Ax 13 12 9] [2,4,7,13]<|Co 13 (Rq [Aa 14 7,Aa 6 14] [6]<|.ret)<|Sk [2,4,7])<|Sq (Rq [Aa 15 2,Ft 8 0,Ao 1 8 15,Cq 8] [4,7,8]<|Bl 0<|Lo [4,7,8]<|Sq (Rq [Ab 16 8,Ac 17 4 3,Ab 18 17,Al 19 16 18] [4,7,8,19]<|Co 19 (Sk [4,7,8])<|Ex 0 [])<|Sq (Bl 1<|Rq [Ac 22 4 2,Ab 23 22,Cg 24 287 8,Aq 25 286 23 24,Az 26 25] [4,7,8,26]<|Co 26 (Rq [Aa 27 7,Aa 6 27] [6]<|.ret)<|Sk [4,7,8])<|Sq (Rq [Ab 28 8] [4,7,28]<|Re [Ft 8 0,Ao 1 8 28] [4,7,8])<|Re [Ab 20 8,Am 21 20 1,Ao 1 8 21,Cq 8] [4,7,8])<|Rq [Ae 6 0] [6]<|.ret) [.tmp 6]:=by decide +kernel
instance rc (t:AD) (q:Pattern) (outer:Int):Ct prog (EH t q outer) 241 [At t,B1 q,eI outer] (fun r=>.sh (eI r)):=Fi j9 fun r h hw hR=>by
  unfold EH at h
  have:HW 0 fun (s0:Int)=>[(8,.tv (.pt [eI s0]))]:=⟨⟩
  exact au
theorem kA:CK f242 (Rq [Af 3 0,Af 4 1,Af 5 2,Ae 6 0] [3,4,5]<|Sq (Rq [Ad 15 3 2,Ay 16 96 15,Aa 7 16] [3,4,5,7]<|Rq [Aa 17 7,Ax 18 17 0] [3,4,5,7,18]<|Co 18 (Rq [Aa 19 7,Aa 6 19] [6]<|.ret)<|Sk [3,4,5])<|Sq (Rq [Ad 20 4 2,Ay 21 96 20,Aa 8 21] [3,4,5,8]<|Rq [Aa 22 8,Ax 23 22 0] [3,4,5,8,23]<|Co 23 (Rq [Aa 24 8,Aa 6 24] [6]<|.ret)<|Sk [3,4,5])<|Sq (Rq [Ac 25 5 0,Ab 26 25,Ag 27 26,Ac 28 3 0,Ab 29 28,Ag 30 29,Bp 31 27 30,Aa 32 31,Av 33 5 1 32,Ap 34 33 32,Bg 35 34 32,Av 36 3 1 32,Ap 37 36 32,Bg 38 37 32,Da 39 35 38 32,Au 40 32 39] [3,4,5,40]<|Co 40 (Rq [Ae 6 20] [6]<|.ret)<|Sk [3,4,5])<|Sq (Rq [Ac 41 5 0,Ab 42 41,Ag 43 42,Ae 44 0] [3,4,5,42,43,44]<|Bl 0<|Lo [3,4,5,42,43,44]<|Rq [Al 45 44 43] [3,4,5,42,43,44,45]<|Sq (Co 45 (Sk [3,4,5,42,43,44])<|Ex 0 [3,4,5])<|Sq (Bl 1<|Rq [Aa 46 44,Ai 47 42 44 1,Ab 48 47,Aa 9 46,Aa 10 48] [3,4,5,9,10,42,43,44]<|Sq (Rq [Aa 49 10,Bs 50 49 0,Aa 51 50,Ba 52 10 51,Av 53 4 0 51,Ap 54 53 51,Bg 55 54 51,Bw 56 52 55 51,Au 57 51 56] [3,4,5,9,10,42,43,44,57]<|Co 57 (Rq [Ae 6 6] [6]<|.ret)<|Sk [3,4,5,9,10,42,43,44])<|Sq (Dr [58,59,60,61,62,63,64,65,66,67,68] [Ac 58 4 0,Ab 59 58,Aa 60 10,Ai 61 59 60 1,Ab 62 61,Ac 63 3 0,Ab 64 63,Aa 65 9,Ai 66 64 65 1,Ab 67 66,Bp 68 62 67] [3,4,5,42,43,44,68])<|Co 68 (Rq [Ae 6 13] [6]<|.ret)<|Sk [3,4,5,42,43,44])<|Re [Am 69 44 1,Aa 44 69] [3,4,5,42,43,44])<|Sq (Rq [Ac 70 5 1,Ab 71 70,Ag 72 71,Ae 73 0] [3,4,5,71,72,73]<|Bl 2<|Lo [3,4,5,71,72,73]<|Rq [Al 74 73 72] [3,4,5,71,72,73,74]<|Sq (Co 74 (Sk [3,4,5,71,72,73])<|Ex 2 [])<|Sq (Bl 3<|Rq [Aa 75 73,Ai 76 71 73 1,Ab 77 76,Aa 11 75,Aa 12 77] [3,4,5,11,12,71,72,73]<|Sq (Rq [Aa 78 12,Bs 79 78 0,Aa 80 79,Ba 81 12 80,Av 82 4 1 80,Ap 83 82 80,Bg 84 83 80,Bw 85 81 84 80,Au 86 80 85] [3,4,5,11,12,71,72,73,86]<|Co 86 (Rq [Ae 6 6] [6]<|.ret)<|Sk [3,4,5,11,12,71,72,73])<|Sq (Dr [13,14,87,88,89,90,91,92,93,94,95,96] [Ac 87 3 1,Ab 88 87,Aa 89 11,Ai 90 88 89 3,Ad 91 90 3,Ac 92 4 1,Ab 93 92,Aa 94 12,Ai 95 93 94 3,Ad 96 95 3,Cs 13 0 0 0,Cs 14 0 0 0,Ao 3 13 91,Ao 3 14 96] [3,4,5,13,14,71,72,73])<|Sq (Rq [Ac 97 13 0,Ab 98 97,Ac 99 14 0,Ab 100 99,Bp 101 98 100] [3,4,5,13,14,71,72,73,101]<|Co 101 (Rq [Ae 6 13] [6]<|.ret)<|Sk [3,4,5,13,14,71,72,73])<|Sq (Dr [102,103,104,105,106,107,108,109,110,111,112,113,114,115,116,117,118,119,120,121] [Ac 102 5 0,Ab 103 102,Ac 104 13 1,Ab 105 104,Ai 106 103 105 1,Ab 107 106,Ac 108 14 1,Ab 109 108,Bp 110 107 109,Aa 111 110,Av 112 5 0 111,Ap 113 112 111,Av 114 13 2 111,Ap 115 114 111,Ch 116 113 115 1 111,Ap 117 116 111,Av 118 14 2 111,Ap 119 118 111,Da 120 117 119 111,Au 121 111 120] [3,4,5,71,72,73,121])<|Co 121 (Rq [Ae 6 11] [6]<|.ret)<|Sk [3,4,5,71,72,73])<|Re [Am 122 73 1,Aa 73 122] [3,4,5,71,72,73])<|Rq [Ae 6 0] [6]<|.ret) [.tmp 6]:=by decide +kernel
instance rd (a:Graph) (b:Graph) (m:Morphism):Ct prog (E1 a b m) 242 [DN a,DN b,C9 m] (fun r=>.sh (eI r)):=Fi kA fun r h hw hR=>by
  unfold E1 at h
  have:HA 0 44 43 0 fun (i0:Int) (_:Unit)=>[(44,.tv (eI i0))]:=⟨⟩
  have:HA 2 73 72 0 fun (i2:Int) (_:Unit)=>[(73,.tv (eI i2))]:=⟨⟩
  exact au
theorem iJ:CK f109 (Rq [Aw 2 1] [0]<|Sq (Rq [Aa 3 0,⟨some 4,.isn (.s 3),none⟩] [0,4]<|Co 4 (Rq [Aw 2 1] [2]<|.ret)<|Sk [0])<|Rq [Eq 5 1,Aa 6 0,Bm 7 1 5 6,Ak 2 7] [2]<|.ret) [.tmp 2]:=by decide +kernel
instance pz (s_0:List Int):Ct prog (slices_Clone_int s_0) 109 [lI s_0] (fun r=>.own (lI r)):=Fi iJ fun r h hw hR=>by
  unfold slices_Clone_int at h
  exact au
theorem nU (l r:List Int) (h:slices_Sort_int l=some r):AR prog 125 [.list 1 (l.map (TV.int .i64))] (.turn r):=by
  unfold slices_Sort_int at h
  rw [←ZO] at h
  split at h
  · rename_i hl
    unfold B9 at hl
    cases h
    refine Xz (by rfl) (List.length_mergeSort _) (fun x hx=>List.mem_mergeSort.1 hx) (fun w hz=>?_) (fun g cap w _ _ hg hH=>Go.Proofs.Tryz.slices_Sort_int g 0 cap l w hH hg (by omega))
    subst hz
    exact Go.Proofs.Tryz.slices_Sort_int_none none 0 w
  · cases h
instance sz (l:List Int):Ct Go.Proofs.Tryz.prog (slices_Sort_int l) 125 [.list 1 (l.map (TV.int .i64))] CH.turn:=⟨nU l⟩
theorem nV (l r:List Int) (h:slices_Compact_int l=some r):AR prog 126 [.list 1 (l.map (TV.int .i64))] (.cut r):=by
  unfold slices_Compact_int at h
  split at h
  · rename_i hl
    unfold B9 at hl
    cases h
    have hle:=Go.Lib.compact_length_le l
    refine eD (rest:=List.replicate (l.length - (Go.Lib.compact l).length) 0) (by rfl) (by rw [List.length_replicate]; omega) (fun x hx=>VL hx) (fun w hz=>?_) (fun g cap w hc _ hg hH=>Go.Proofs.Tryz.slices_Compact_int g 0 cap l w hH (by omega) hc)
    subst hz
    exact Go.Proofs.Tryz.slices_Compact_int_empty none 0 w
  · cases h
instance s5 (l:List Int):Ct Go.Proofs.Tryz.prog (slices_Compact_int l) 126 [.list 1 (l.map (TV.int .i64))] CH.cut:=⟨nV l⟩
theorem kj:CK f288 (Rq [Ae 2 0] [0]<|Rq [Aa 4 0,Fu 5 109 4,By 3 5] [3]<|Rq [Bk 6 3,Fo 7 125 6] [3]<|Rq [Bk 8 3,⟨some 9,.callc 126 (.s 8),none⟩,Dv 10 9,Aa 2 10] [2]<|.ret) [.tmp 2]:=by decide +kernel
instance sH (l:List Int):Ct prog (HZ l) 288 [lI l] (fun r=>.sh (eI r)):=Fi kj fun r h hw hR=>by
  unfold HZ at h
  exact au
theorem kB:CK f243 (Rq [Af 3 0,Af 4 1,Af 5 2,Aj 6] [3,4,5]<|Sq (Dr [6,7,8,9,10,11,12,13,14,15,16,17,18,19,20,21,22,23,24,25,26,27,28,29] [Ad 7 3 2,Ad 8 4 2,Ad 9 5 2,Bf 10 242 7 8 9,Bb 11 10 0,Aa 12 11,Bc 13 5 0 12,Be 14 13 12,Cc 15 288 14 12,Bc 16 5 0 12,Be 17 16 12,Bv 18 17 12,De 19 15 18 12,As 20 12 19,Aa 21 20,Bc 22 5 1 21,Be 23 22 21,Cc 24 288 23 21,Bc 25 5 1 21,Be 26 25 21,Bv 27 26 21,De 28 24 27 21,As 29 21 28,Aa 6 29] [6])<|.ret) [.tmp 6]:=by decide +kernel
instance re (a:Graph) (b:Graph) (m:Morphism):Ct prog (EC a b m) 243 [DN a,DN b,C9 m] (fun r=>.sh (eB r)):=Fi kB fun r h hw hR=>by
  unfold EC at h
  exact au
theorem jK:CK f178 (Rq [Af 3 0,⟨some 4,.boxo (.s 1),none⟩,Af 5 2,Ae 6 0] [3,4,5]<|Sq (Rq [Ac 13 5 0,Ab 14 13,Bb 15 14 5] [3,4,5,15]<|Co 15 (Rq [Ac 16 5 4,Ad 17 16 5,Dx 7 1 3 4 0 5,Ao 5 7 17] [3,4,5,7]<|Sq (Rq [Ac 18 7 3,Ab 19 18,Ac 20 4 3,Ab 21 20,Al 22 19 21] [3,4,5,7,22]<|Co 22 (Rq [Ae 6 20] [6]<|.ret)<|Sk [3,4,5,7])<|Sq (Rq [Ad 23 3 2,Ad 24 7 5,Ac 25 4 3,Ab 26 25,Bf 27 241 23 24 26,Aa 8 27] [3,4,5,7,8]<|Rq [Aa 28 8,Ax 29 28 0] [3,4,5,7,8,29]<|Co 29 (Rq [Aa 30 8,Aa 6 30] [6]<|.ret)<|Sk [3,4,5,7])<|Sq (Rq [Ac 31 4 0,Ad 32 31 2,Ac 33 7 0,Ad 34 33 2,Ac 35 5 2,Ad 36 35 2,Bf 37 242 32 34 36,Aa 9 37] [3,4,5,7,9]<|Rq [Aa 38 9,Ax 39 38 0] [3,4,5,7,9,39]<|Co 39 (Rq [Aa 40 9,Aa 6 40] [6]<|.ret)<|Sk [3,4,5,7])<|Sq (Rq [Ac 41 4 0,Ad 42 41 2,Ac 43 7 0,Ad 44 43 2,Ac 45 5 2,Ad 46 45 2,Bf 47 243 42 44 46,Az 48 47] [3,4,5,7,48]<|Co 48 (Rq [Ae 6 1] [6]<|.ret)<|Sk [3,4,5,7])<|Re [Ad 49 7 5,Ao 5 4 49] [3,4,5])<|Sk [3,4,5])<|Sq (Rq [Ac 50 5 1,Ab 51 50,Ag 52 51,Ae 53 0] [3,4,51,52,53]<|Bl 0<|Lo [3,4,51,52,53]<|Rq [Al 54 53 52] [3,4,51,52,53,54]<|Sq (Co 54 (Sk [3,4,51,52,53])<|Ex 0 [])<|Sq (Bl 1<|Rq [Ai 55 51 53 9,Ad 56 55 9,Cu 11 0 9 1 1 1 3 4 0 5,Ao 9 11 56] [3,4,11,51,52,53]<|Rq [Ad 57 3 2,Ad 58 4 5,Ad 59 11 9,Bf 60 178 57 58 59,Aa 12 60] [3,4,12,51,52,53]<|Rq [Aa 61 12,Ax 62 61 0] [3,4,12,51,52,53,62]<|Co 62 (Rq [Aa 63 12,Aa 6 63] [6]<|.ret)<|Sk [3,4,51,52,53])<|Re [Am 64 53 1,Aa 53 64] [3,4,51,52,53])<|Rq [Ae 6 0] [6]<|.ret) [.tmp 6]:=by decide +kernel
theorem g0 (n:Nat) (_ih_178:∀ (t:AD) (p:Pattern) (c:AA),Ct prog (CP n t p c) 178 [At t,B1 p,AF c] (fun r=>.sh (eI r))) (t:AD) (p:Pattern) (c:AA):Ct prog (CP (n+1) t p c) 178 [At t,B1 p,AF c] (fun r=>.sh (eI r)):=Fi jK fun r h hw hR=>by
  unfold CP at h
  have:HA 0 53 52 0 fun (i0:Int) (_:Unit)=>[(53,.tv (eI i0))]:=⟨⟩
  exact au
theorem gz:∀ n:Nat,(∀ (t:AD) (p:Pattern) (c:AA),Ct prog (CP n t p c) 178 [At t,B1 p,AF c] (fun r=>.sh (eI r))):=by
  intro n
  induction n with
  | zero=>exact (fun t p c=>⟨fun _ h=>by cases h⟩)
  | succ n ih=>exact g0 n ih
instance qt (t:AD) (p:Pattern) (c:AA):Ct prog (JJ t p c) 178 [At t,B1 p,AF c] (fun r=>.sh (eI r)):=⟨fun r h=>by
  obtain ⟨N,hN⟩:=CO h
  exact ((gz N) t p c).snd r (hN N (Nat.le_refl _))⟩
theorem iW:CK f129 (Rq [Af 3 0,Af 4 1,Af 5 2,Ae 6 0] [3,4,5]<|Sq (Rq [Ad 9 3 2,Ad 10 4 5,Aq 11 176 9 10,Aa 7 11] [3,4,5,7]<|Rq [Aa 12 7,Ax 13 12 0] [3,4,5,7,13]<|Co 13 (Rq [Aa 14 7,Aa 6 14] [6]<|.ret)<|Sk [3,4,5])<|Sq (Rq [Ad 15 5 9,Ay 16 177 15,Aa 8 16] [3,4,5,8]<|Rq [Aa 17 8,Ax 18 17 0] [3,4,5,8,18]<|Co 18 (Rq [Aa 19 8,Aa 6 19] [6]<|.ret)<|Sk [3,4,5])<|Rq [Ad 20 3 2,Ad 21 4 5,Ad 22 5 9,Bf 23 178 20 21 22,Aa 6 23] [6]<|.ret) [.tmp 6]:=by decide +kernel
instance qG (t:AD) (p:Pattern) (c:AA):Ct prog (EB t p c) 129 [At t,B1 p,AF c] (fun r=>.sh (eI r)):=Fi iW fun r h hw hR=>by
  unfold EB at h
  exact au
theorem km:CK f289 (Rq [Aj 3] [0,1]<|Rq [Aa 4 0,Ac 5 1 0,Ab 6 5,Ag 7 6,Dg 8 4 7,Aa 3 8] [3]<|.ret) [.tmp 3]:=by decide +kernel
instance sI (n:Int) (c0:AD):Ct prog (Jm n c0) 289 [eI n,.pt (At c0).cells] (fun r=>.sh (eB r)):=Fi km fun r h hw hR=>by
  unfold Jm at h
  exact au
theorem ko:CK f290 (Rq [Af 2 0,Aj 3] [1,2]<|Rq [Ac 4 2 0,Ab 5 4,Ac 6 1 1,Ab 7 6,Ag 8 7,Dg 9 5 8,Aa 3 9] [3]<|.ret) [.tmp 3]:=by decide +kernel
instance sJ (x_0:DS) (c0:AD):Ct prog (Jn x_0 c0) 290 [EQ x_0,.pt (At c0).cells] (fun r=>.sh (eB r)):=Fi ko fun r h hw hR=>by
  unfold Jn at h
  exact au
theorem kC:CK f244 (Rq [Af 2 0,Af 3 1,Aj 4] [2,3]<|Rq [Ac 5 3 0,Ab 6 5,Cg 7 289 2,Aq 8 24 6 7,Az 9 8,Aa 10 9,Bc 11 3 1 10,Be 12 11 10,⟨some 13,.clo 290 [.s 2],some (10,true)⟩,Cx 14 143 12 13 10,Ed 15 14 10,As 16 10 15,Aa 4 16] [4]<|.ret) [.tmp 4]:=by decide +kernel
instance rf (t:AD) (g:Graph):Ct prog (FY t g) 244 [At t,DN g] (fun r=>.sh (eB r)):=Fi kC fun r h hw hR=>by
  unfold FY at h
  exact au
theorem jL:CK f179 (Rq [Af 3 0,Af 4 1,Af 5 2,Ae 6 0] [3,4,5]<|Sq (Rq [Ad 13 3 2,Ay 14 95 13,Aa 12 14,An 15 12 0,An 16 12 1,Aa 7 15,Aa 8 16] [3,4,5,8]<|Rq [Aa 17 8,Ax 18 17 0] [3,4,5,8,18]<|Co 18 (Rq [Aa 19 8,Aa 6 19] [6]<|.ret)<|Sk [3,4,5])<|Sq (Rq [Ad 20 4 2,Ad 21 5 2,Dh 22 2 20 21,Ag 23 22,Ae 24 0] [3,4,5,22,23,24]<|Bl 0<|Lo [3,4,5,22,23,24]<|Rq [Al 25 24 23] [3,4,5,22,23,24,25]<|Sq (Co 25 (Sk [3,4,5,22,23,24])<|Ex 0 [3,4,5])<|Sq (Bl 1<|Rq [Ai 26 22 24 2,Ad 27 26 2,Di 10 1 3,Ao 2 10 27] [3,4,5,10,22,23,24]<|Rq [Ad 28 10 2,Ay 29 96 28,Aa 11 29] [3,4,5,11,22,23,24]<|Rq [Aa 30 11,Ax 31 30 0] [3,4,5,11,22,23,24,31]<|Co 31 (Rq [Aa 32 11,Aa 6 32] [6]<|.ret)<|Sk [3,4,5,22,23,24])<|Re [Am 33 24 1,Aa 24 33] [3,4,5,22,23,24])<|Sq (Rq [Ad 34 3 2,Ad 35 4 2,Aq 36 244 34 35,Az 37 36,Aa 38 37,Cb 39 3 2 38,Cb 40 5 2 38,Dm 41 244 39 40 38,Br 42 41 38,Au 43 38 42] [43]<|Co 43 (Rq [Ae 6 13] [6]<|.ret)<|Sk [])<|Rq [Ae 6 0] [6]<|.ret) [.tmp 6]:=by decide +kernel
instance qu (t:AD) (p:Graph) (g:Graph):Ct prog (GO t p g) 179 [At t,DN p,DN g] (fun r=>.sh (eI r)):=Fi jL fun r h hw hR=>by
  unfold GO at h
  have:HA 0 24 23 0 fun (i0:Int) (_:Unit)=>[(24,.tv (eI i0))]:=⟨⟩
  exact au
theorem kt:CK f291 (Rq [Af 2 0,Aw 4 1,Ae 5 0] [1,2]<|Sq (Rq [Ad 9 2 2,Aa 10 1,Bi 11 1 10,Aq 12 147 9 11,Aa 6 12] [1,2,6]<|Rq [Aa 13 6,Ax 14 13 0] [1,2,6,14]<|Co 14 (Rq [Aa 15 6,Aw 4 1,Aa 5 15] [4,5]<|.ret)<|Sk [1,2])<|Rq [Aw 7 1] [1,2,7]<|Sq (Rq [Ac 16 2 0,Ab 17 16,Ag 18 17,Ae 19 0] [1,2,7,18,19]<|Bl 0<|Lo [1,2,7,18,19]<|Rq [Al 20 19 18] [1,2,7,18,19,20]<|Sq (Co 20 (Sk [1,2,7,18,19])<|Ex 0 [7])<|Sq (Bl 1<|Rq [Aa 21 19,Aa 8 21] [1,2,7,8,18,19]<|Rq [Ad 22 2 2,Aa 23 8,Aa 24 1,Bf 25 148 22 23 24] [1,2,7,8,18,19,25]<|Co 25 (Re [Ak 26 7,Aa 27 8,Bi 28 1 27,Bm 29 1 26 28,Ak 7 29] [1,2,7,18,19])<|Sk [1,2,7,18,19])<|Re [Am 30 19 1,Aa 19 30] [1,2,7,18,19])<|Rq [Ak 31 7,Ak 4 31,Ae 5 0] [4,5]<|.ret) [.tmp 4,.tmp 5]:=by decide +kernel
instance sK (t:AD) (a:Int):Ct prog (Hs t a) 291 [At t,eI a] (fun r=>.tp [lI r.1,eI r.2]):=Fi kt fun r h hw hR=>by
  unfold Hs at h
  have:HA 0 19 18 0 fun (i0:Int) (s0:List Int)=>[(7,.ow (lI s0)),(19,.tv (eI i0))]:=⟨⟩
  exact au
theorem kD:CK f245 (Rq [Af 1 0,Aw 2 1] [1]<|Rq [Aw 3 1] [1,3]<|Sq (Rq [Ac 10 1 0,Ab 11 10,Ag 12 11,Ae 13 0] [1,3,12,13]<|Bl 0<|Lo [1,3,12,13]<|Rq [Al 14 13 12] [1,3,12,13,14]<|Sq (Co 14 (Sk [1,3,12,13])<|Ex 0 [3])<|Sq (Bl 1<|Rq [Aa 15 13,Aa 4 15] [1,3,4,12,13]<|Rq [Ac 16 1 0,Ab 17 16,Ag 18 17,Eb 19 1 18,By 5 19] [1,3,4,5,12,13]<|Rq [Ad 21 1 2,Aa 22 4,Aq 23 291 21 22,Aa 20 23,An 24 20 0,An 25 20 1,Ak 6 24,Aa 7 25] [1,3,5,6,12,13]<|Sq (Rq [Aa 26 6,Ag 27 26,Ae 28 0] [1,3,5,12,13,26,27,28]<|Bl 2<|Lo [1,3,5,12,13,26,27,28]<|Rq [Al 29 28 27] [1,3,5,12,13,26,27,28,29]<|Sq (Co 29 (Sk [1,3,5,12,13,26,27,28])<|Ex 2 [1,3,5,12,13])<|Sq (Bl 3<|Rq [Ai 30 26 28 1,Ab 31 30,Aa 9 31] [1,3,5,9,12,13,26,27,28]<|Re [Bk 32 5,Aa 33 9,Bt 34 32 33 1,Dq 34] [1,3,5,12,13,26,27,28])<|Re [Am 35 28 1,Aa 28 35] [1,3,5,12,13,26,27,28])<|Re [Ak 36 3,Df 37 5,Bi 38 1 37,Bm 39 1 36 38,Ak 3 39] [1,3,12,13])<|Re [Am 40 13 1,Aa 13 40] [1,3,12,13])<|Rq [Ak 41 3,Ak 2 41] [2]<|.ret) [.tmp 2]:=by decide +kernel
instance rg (t:AD):Ct prog (GN t) 245 [At t] (fun r=>.own ((eL 1 (eL 1 eB)) r)):=Fi kD fun r h hw hR=>by
  unfold GN at h
  have:HA 0 13 12 0 fun (i0:Int) (s0:List (List Bool))=>[(3,.ow ((eL 1 (eL 1 eB)) s0)),(13,.tv (eI i0))]:=⟨⟩
  have:HA 2 28 27 0 fun (i2:Int) (s2:List Bool)=>[(5,.xo 1 (List.map eB s2)),(28,.tv (eI i2))]:=⟨⟩
  exact au
theorem jM:CK f180 (Rq [Af 4 0,Af 5 1,Af 6 2,Af 7 3,Ae 8 0] [4,5,6,7]<|Sq (Rq [Ac 16 7 0,Ab 17 16,Ag 18 17,Ac 19 5 0,Ab 20 19,Ag 21 20,Bp 22 18 21,Aa 23 22,Av 24 7 1 23,Ap 25 24 23,Bg 26 25 23,Av 27 5 1 23,Ap 28 27 23,Bg 29 28 23,Da 30 26 29 23,Au 31 23 30] [4,5,6,7,31]<|Co 31 (Rq [Ae 8 20] [8]<|.ret)<|Sk [4,5,6,7])<|Rq [Ad 32 4 2,Ay 33 245 32,Ak 9 33] [5,6,7,9]<|Sq (Rq [Ac 34 7 0,Ab 35 34,Ag 36 35,Ae 37 0] [5,6,7,9,35,36,37]<|Bl 0<|Lo [5,6,7,9,35,36,37]<|Rq [Al 38 37 36] [5,6,7,9,35,36,37,38]<|Sq (Co 38 (Sk [5,6,7,9,35,36,37])<|Ex 0 [5,6,7])<|Sq (Bl 1<|Rq [Aa 39 37,Ai 40 35 37 1,Ab 41 40,Aa 10 39,Aa 11 41] [5,6,7,9,10,11,35,36,37]<|Sq (Rq [Aa 42 11,Bs 43 42 0,Aa 44 43,Ba 45 11 44,Av 46 6 0 44,Ap 47 46 44,Bg 48 47 44,Bw 49 45 48 44,Au 50 44 49] [5,6,7,9,10,11,35,36,37,50]<|Co 50 (Rq [Ae 8 6] [8]<|.ret)<|Sk [5,6,7,9,10,11,35,36,37])<|Sq (Dr [51,52,53,54,55,56,57,58,59,60,61,62,63,64,65,66] [Aa 51 9,Ac 52 5 0,Ab 53 52,Aa 54 10,Ai 55 53 54 1,Ab 56 55,Ai 57 51 56 1,Ab 58 57,Ac 59 6 0,Ab 60 59,Aa 61 11,Ai 62 60 61 1,Ab 63 62,Ai 64 58 63 1,Ab 65 64,Az 66 65] [5,6,7,9,35,36,37,66])<|Co 66 (Rq [Ae 8 13] [8]<|.ret)<|Sk [5,6,7,9,35,36,37])<|Re [Am 67 37 1,Aa 37 67] [5,6,7,9,35,36,37])<|Sq (Rq [Ac 68 7 1,Ab 69 68,Ag 70 69,Ae 71 0] [5,6,7,69,70,71]<|Bl 2<|Lo [5,6,7,69,70,71]<|Rq [Al 72 71 70] [5,6,7,69,70,71,72]<|Sq (Co 72 (Sk [5,6,7,69,70,71])<|Ex 2 [])<|Sq (Bl 3<|Rq [Aa 73 71,Ai 74 69 71 1,Ab 75 74,Aa 12 73,Aa 13 75] [5,6,7,12,13,69,70,71]<|Sq (Rq [Aa 76 13,Bs 77 76 0,Aa 78 77,Ba 79 13 78,Av 80 6 1 78,Ap 81 80 78,Bg 82 81 78,Bw 83 79 82 78,Au 84 78 83] [5,6,7,12,13,69,70,71,84]<|Co 84 (Rq [Ae 8 6] [8]<|.ret)<|Sk [5,6,7,12,13,69,70,71])<|Sq (Dr [14,15,85,86,87,88,89,90,91,92,93,94] [Ac 85 5 1,Ab 86 85,Aa 87 12,Ai 88 86 87 3,Ad 89 88 3,Ac 90 6 1,Ab 91 90,Aa 92 13,Ai 93 91 92 3,Ad 94 93 3,Cs 14 0 0 0,Cs 15 0 0 0,Ao 3 14 89,Ao 3 15 94] [5,6,7,14,15,69,70,71])<|Sq (Rq [Ac 95 14 0,Ab 96 95,Ac 97 15 0,Ab 98 97,Bp 99 96 98] [5,6,7,14,15,69,70,71,99]<|Co 99 (Rq [Ae 8 13] [8]<|.ret)<|Sk [5,6,7,14,15,69,70,71])<|Sq (Dr [100,101,102,103,104,105,106,107,108,109,110,111,112,113,114,115,116,117,118,119] [Ac 100 7 0,Ab 101 100,Ac 102 14 1,Ab 103 102,Ai 104 101 103 1,Ab 105 104,Ac 106 15 1,Ab 107 106,Bp 108 105 107,Aa 109 108,Av 110 7 0 109,Ap 111 110 109,Av 112 14 2 109,Ap 113 112 109,Ch 114 111 113 1 109,Ap 115 114 109,Av 116 15 2 109,Ap 117 116 109,Da 118 115 117 109,Au 119 109 118] [5,6,7,69,70,71,119])<|Co 119 (Rq [Ae 8 11] [8]<|.ret)<|Sk [5,6,7,69,70,71])<|Re [Am 120 71 1,Aa 71 120] [5,6,7,69,70,71])<|Rq [Ae 8 0] [8]<|.ret) [.tmp 8]:=by decide +kernel
instance qv (t:AD) (p:Graph) (g:Graph) (m:Morphism):Ct prog (HQ t p g m) 180 [At t,DN p,DN g,C9 m] (fun r=>.sh (eI r)):=Fi jM fun r h hw hR=>by
  unfold HQ at h
  have:HA 0 37 36 0 fun (i0:Int) (_:Unit)=>[(37,.tv (eI i0))]:=⟨⟩
  have:HA 2 71 70 0 fun (i2:Int) (_:Unit)=>[(71,.tv (eI i2))]:=⟨⟩
  exact au
theorem nX (l:List Int) (r:Bool) (h:H9 l=some r):AR prog 181 [lI l] (.sh (eB r)):=by
  unfold H9 at h
  rw [←aP] at h
  split at h
  · rename_i hl
    cases h
    exact Vc l hl
  · cases h
instance s6 (l:List Int):Ct Go.Proofs.Tryz.prog (H9 l) 181 [lI l] (fun r=>.sh (eB r)):=⟨nX l⟩
theorem iX:CK f130 (Rq [Af 5 0,Af 6 1,Af 7 2,Af 8 3,Ae 10 0] [4,5,6,7,8]<|Sq (Rq [Ad 13 5 2,Ad 14 6 2,Ad 15 7 2,Bf 16 179 13 14 15,Aa 11 16] [4,5,6,7,8,11]<|Rq [Aa 17 11,Ax 18 17 0] [4,5,6,7,8,11,18]<|Co 18 (Rq [Aa 19 11,Aa 10 19] [10]<|.ret)<|Sk [4,5,6,7,8])<|Sq (Rq [Ad 20 5 2,Ad 21 6 2,Ad 22 7 2,Ad 23 8 2,Do 24 180 20 21 22 23,Aa 12 24] [4,8,12]<|Rq [Aa 25 12,Ax 26 25 0] [4,8,12,26]<|Co 26 (Rq [Aa 27 12,Aa 10 27] [10]<|.ret)<|Sk [4,8])<|Sq (Rq [Aa 28 4,Aa 29 28,Bc 30 8 0 29,Be 31 30 29,Cc 32 181 31 29,Ar 33 32 29,Av 34 8 1 33,Ap 35 34 33,Dt 36 181 35 33,Dl 37 33 36 29,As 38 29 37] [38]<|Co 38 (Rq [Ae 10 5] [10]<|.ret)<|Sk [])<|Rq [Ae 10 0] [10]<|.ret) [.tmp 10]:=by decide +kernel
instance qH (t:AD) (p:Graph) (g:Graph) (m:Morphism) (injective:Bool):Ct prog (GM t p g m injective) 130 [At t,DN p,DN g,C9 m,eB injective] (fun r=>.sh (eI r)):=Fi iX fun r h hw hR=>by
  unfold GM at h
  exact au
theorem jN:CK f182 (Rq [Af 3 0,Af 4 1,Af 5 2,Ae 6 0] [3,4,5]<|Sq (Rq [Ad 10 3 2,Ad 11 4 5,Aq 12 176 10 11,Aa 7 12] [3,5,7]<|Rq [Aa 13 7,Ax 14 13 0] [3,5,7,14]<|Co 14 (Rq [Aa 15 7,Aa 6 15] [6]<|.ret)<|Sk [3,5])<|Rq [Ad 17 3 2,Ad 18 5 3,Aq 19 51 17 18,Aa 16 19,An 20 16 0,An 21 16 1,Aa 8 20,Aa 9 21] [9]<|Rq [Aa 22 9,Aa 6 22] [6]<|.ret) [.tmp 6]:=by decide +kernel
instance qw (t:AD) (p:Pattern) (h_2:A2):Ct prog (FB t p h_2) 182 [At t,B1 p,IP h_2] (fun r=>.sh (eI r)):=Fi jN fun r h hw hR=>by
  unfold FB at h
  exact au
theorem nZ (a b c:Int) (r:Int × Int) (h:IT a b c=some r):AR prog 303 [Jk a,Jk b,Jk c] (.ext [Jk (r.1),Jk (r.2)]):=by
  unfold IT at h
  split at h
  · rename_i hc
    cases h
    obtain ⟨⟨a0,a1⟩,⟨b0,b1⟩,c0,c1⟩:=hc
    intro _
    refine ⟨⟨rfl,?_⟩,fun w vs hv=>?_⟩
    · simp only [Jk,TV.WFs,TV.WF,IntKind.min,IntKind.max,IntKind.signed,IntKind.bits,and_true]
      simp only [Bool.false_eq_true,if_false]
      refine ⟨⟨by omega,?_⟩,by omega,?_⟩
      · have:(2:Int) ^ 64=18446744073709551616:=by decide
        omega
      · have:(2:Int) ^ 64=18446744073709551616:=by decide
        omega
    · obtain ⟨x,rfl⟩:=Int.eq_ofNat_of_zero_le a0
      obtain ⟨y,rfl⟩:=Int.eq_ofNat_of_zero_le b0
      obtain ⟨z,rfl⟩:=Int.eq_ofNat_of_zero_le c0
      have:=Go.Proofs.Any7.bits_Add64 Go.Proofs.Tryz.lays7n25 x y z (by omega) w
      obtain ⟨l⟩:=vs
      simp only [Jk,AQ,A1] at hv
      obtain ⟨v1,r1,rfl,rfl,v2,r2,rfl,rfl,v3,r3,rfl,rfl,rfl⟩:=hv
      refine ⟨_,this,?_⟩
      simp only [Jk,AQ,A1]
      exact ⟨_,_,rfl,by simp,_,_,rfl,by simp,rfl⟩
  · cases h
instance s8 (a b c:Int):Ct Go.Proofs.Tryz.prog (IT a b c) 303 [Jk a,Jk b,Jk c] (fun r=>.ext [Jk (r.1),Jk (r.2)]):=⟨nZ a b c⟩
theorem kU:CK f269 (Rq [Ae 4 0,Fv 5 0] [0,1]<|Rq [Aa 9 0,⟨some 10,.cvt .u64 (.s 9),none⟩,Aa 11 1,⟨some 12,.cvt .u64 (.s 11),none⟩,⟨some 13,.callf 303 [.s 10,.s 12,.c (.int .u64 0)],none⟩,Aa 8 13,An 14 8 0,An 15 8 1,Aa 6 14,Aa 7 15] [0,1,6,7]<|Rq [Aa 16 0,⟨some 17,.bin (.w) .shr (.s 16) (.c (.int .u64 63)),none⟩,Aa 18 1,⟨some 19,.bin (.w) .shr (.s 18) (.c (.int .u64 63)),none⟩,Bo 20 17 19,Aa 21 7,⟨some 22,.cvt .i64 (.s 21),none⟩,Bo 23 20 22,Aa 24 6,Aa 4 23,Aa 5 24] [4,5]<|.ret) [.tmp 4,.tmp 5]:=by decide +kernel
instance r0 (a:Int) (b:Int):Ct prog (HV a b) 269 [eI a,eI b] (fun r=>.tp [eI r.1,Jk r.2]):=Fi kU fun r h hw hR=>by
  unfold HV at h
  exact au
theorem kT:CK f268 (Rq [Af 2 0,Ae 3 0,Fv 4 0,Aj 5] [1,2]<|Sq (Bl 0<|Rq [Ac 11 2 0,Ab 12 11,⟨some 13,.bin (.i) .eql (.s 12) (.c (.int .i64 (-1))),none⟩,Aa 10 13] [1,2,10]<|Co 10 (Rq [Ac 15 2 1,Ab 16 15,⟨some 17,.call 269 [.c (.int .i64 0),.s 16],none⟩,Aa 14 17,An 18 14 0,An 19 14 1,Aa 6 18,Aa 7 19] [6,7]<|Rq [Aa 20 6,Aa 21 7,Aa 3 20,Aa 4 21,Bx 5] [3,4,5]<|.ret)<|Rq [Ac 23 2 0,Ab 24 23,Bs 25 24 0,Aa 26 25,Av 27 2 0 26,Ap 28 27 26,Ap 29 1 26,Bg 30 29 26,Bw 31 28 30 26,Au 32 26 31,Aa 22 32] [1,2,22]<|Co 22 (Rq [Ae 3 0,Fv 4 0,Aj 5] [3,4,5]<|.ret)<|Sk [1,2])<|Sq (Dr [8,9,33,34,35,36,37,38,39,40,41,42,43] [Ab 34 1,Ac 35 2 0,Ab 36 35,Ai 37 34 36 1,Ab 38 37,Ac 39 2 1,Ab 40 39,Aq 41 269 38 40,Aa 33 41,An 42 33 0,An 43 33 1,Aa 8 42,Aa 9 43] [8,9])<|Rq [Aa 44 8,Aa 45 9,Aa 3 44,Aa 4 45,Bx 5] [3,4,5]<|.ret) [.tmp 3,.tmp 4,.tmp 5]:=by decide +kernel
instance rz (t:Term) (c0:List Int):Ct prog (F7 t c0) 268 [Ps t,.pt [lI c0]] (fun r=>.tp [eI r.1,Jk r.2.1,eB r.2.2]):=Fi kT fun r h hw hR=>by
  unfold F7 at h
  exact au
theorem kV:CK f270 (Rq [Ae 2 0] [0]<|Rq [Ae 3 0] [0,3]<|Sq (Rq [Aa 6 0,Ag 7 6,Ae 8 0] [3,6,7,8]<|Bl 0<|Lo [3,6,7,8]<|Rq [Al 9 8 7] [3,6,7,8,9]<|Sq (Co 9 (Sk [3,6,7,8])<|Ex 0 [3])<|Sq (Bl 1<|Rq [Ai 10 6 8 1,Ab 11 10,Aa 5 11] [3,5,6,7,8]<|Rq [Aa 12 5,Aa 13 3,Bp 14 12 13] [3,5,6,7,8,14]<|Co 14 (Rq [Aa 15 5,Aa 2 15] [2]<|.ret)<|Sk [3,6,7,8])<|Re [Am 16 8 1,Aa 8 16] [3,6,7,8])<|Rq [Aa 17 3,Aa 2 17] [2]<|.ret) [.tmp 2]:=by decide +kernel
instance r6 (vals:List Int):Ct prog (LJ vals) 270 [lI vals] (fun r=>.sh (eI r)):=Fi kV fun r h hw hR=>by
  unfold LJ at h
  have:HA 0 8 7 0 fun (i0:Int) (_:Unit)=>[(8,.tv (eI i0))]:=⟨⟩
  exact au
theorem kY:CK f281 (Rq [Aj 2] [0]<|Rq [Aa 3 0,Aa 4 0,Bp 5 3 4,Aa 2 5] [2]<|.ret) [.tmp 2]:=by decide +kernel
instance r9 (x_0:Int):Ct prog (cmp_isNaN_int x_0) 281 [eI x_0] (fun r=>.sh (eB r)):=Fi kY fun r h hw hR=>by
  unfold cmp_isNaN_int at h
  exact au
theorem kW:CK f271 (Rq [Ae 4 0] [0,1]<|Rq [Aa 7 0,Ay 8 281 7,Aa 5 8] [0,1,5]<|Rq [Aa 9 1,Ay 10 281 9,Aa 6 10] [0,1,5,6]<|Sq (Rq [Aa 11 5] [0,1,6,11]<|Co 11 (Sq (Rq [Aa 12 6] [12]<|Co 12 (Rq [Ae 4 0] [4]<|.ret)<|Sk [])<|Rq [Bq 4 (-1)] [4]<|.ret)<|Sk [0,1,6])<|Sq (Rq [Aa 13 6] [0,1,13]<|Co 13 (Rq [Ae 4 1] [4]<|.ret)<|Sk [0,1])<|Sq (Rq [Aa 14 0,Aa 15 1,Al 16 14 15] [0,1,16]<|Co 16 (Rq [Bq 4 (-1)] [4]<|.ret)<|Sk [0,1])<|Sq (Rq [Aa 17 0,Aa 18 1,Fw 19 17 18] [19]<|Co 19 (Rq [Ae 4 1] [4]<|.ret)<|Sk [])<|Rq [Ae 4 0] [4]<|.ret) [.tmp 4]:=by decide +kernel
instance r7 (x_0:Int) (y:Int):Ct prog (cmp_Compare_int x_0 y) 271 [eI x_0,eI y] (fun r=>.sh (eI r)):=Fi kW fun r h hw hR=>by
  unfold cmp_Compare_int at h
  exact au
theorem k7:CK f304 (Rq [Aj 2] [0]<|Rq [Aa 3 0,Aa 4 0,Bp 5 3 4,Aa 2 5] [2]<|.ret) [.tmp 2]:=by decide +kernel
instance sS (x_0:Int):Ct prog (JI x_0) 304 [Jk x_0] (fun r=>.sh (eB r)):=Fi k7 fun r h hw hR=>by
  unfold JI at h
  exact au
theorem kX:CK f272 (Rq [Ae 4 0] [0,1]<|Rq [Aa 7 0,Ay 8 304 7,Aa 5 8] [0,1,5]<|Rq [Aa 9 1,Ay 10 304 9,Aa 6 10] [0,1,5,6]<|Sq (Rq [Aa 11 5] [0,1,6,11]<|Co 11 (Sq (Rq [Aa 12 6] [12]<|Co 12 (Rq [Ae 4 0] [4]<|.ret)<|Sk [])<|Rq [Bq 4 (-1)] [4]<|.ret)<|Sk [0,1,6])<|Sq (Rq [Aa 13 6] [0,1,13]<|Co 13 (Rq [Ae 4 1] [4]<|.ret)<|Sk [0,1])<|Sq (Rq [Aa 14 0,Aa 15 1,Al 16 14 15] [0,1,16]<|Co 16 (Rq [Bq 4 (-1)] [4]<|.ret)<|Sk [0,1])<|Sq (Rq [Aa 17 0,Aa 18 1,Fw 19 17 18] [19]<|Co 19 (Rq [Ae 4 1] [4]<|.ret)<|Sk [])<|Rq [Ae 4 0] [4]<|.ret) [.tmp 4]:=by decide +kernel
instance r8 (x_0:Int) (y:Int):Ct prog (IM x_0 y) 272 [Jk x_0,Jk y] (fun r=>.sh (eI r)):=Fi kX fun r h hw hR=>by
  unfold IM at h
  exact au
theorem ju:CK f216 (Rq [Af 2 0,Af 3 1,Aj 4] [2,3]<|Rq [Cg 13 268 3,Aa 5 13] [2,5]<|Rq [Aa 15 5,Ac 16 2 1,Ad 17 16 2,Ce 18 15 17,Aa 14 18,An 19 14 0,An 20 14 1,An 21 14 2,Aa 6 19,Aa 7 20,Aa 8 21] [2,5,6,7,8]<|Rq [Aa 23 5,Ac 24 2 3,Ad 25 24 2,Ce 26 23 25,Aa 22 26,An 27 22 0,An 28 22 1,An 29 22 2,Aa 9 27,Aa 10 28,Aa 11 29] [2,6,7,8,9,10,11]<|Sq (Rq [Aa 30 8,Az 31 30,Aa 32 31,Ba 33 11 32,Br 34 33 32,Au 35 32 34] [2,6,7,9,10,35]<|Co 35 (Rq [Aj 4] [4]<|.ret)<|Sk [2,6,7,9,10])<|Rq [Aa 36 6,Aa 37 9,Aq 38 271 36 37,Aa 39 7,Aa 40 10,Aq 41 272 39 40,Dh 42 1 38 41,Ay 43 270 42,Aa 12 43] [2,12]<|Rq [Ac 44 2 0,Ab 45 44,Bb 46 45 1,Aa 47 46,Ar 48 12 47,Cd 49 48 0 47,As 50 47 49,Aa 51 50,Av 52 2 0 51,Ap 53 52 51,Gp 54 53 2 51,Ba 55 54 51,Ar 56 12 55,Cz 57 56 0 55,Cf 58 55 57 51,Au 59 51 58,Aa 4 59] [4]<|.ret) [.tmp 4]:=by decide +kernel
instance rS (x_0:Test) (DD:List Int):Ct prog (F2 x_0 DD) 216 [LM x_0,lI DD] (fun r=>.sh (eB r)):=Fi ju fun r h hw hR=>by
  unfold F2 at h
  exact au
theorem kE:CK f248 (Rq [Af 2 0,Ae 4 0] [1,2]<|Sq (Rq [Ac 5 2 0,Ab 6 5,Bs 7 6 0] [1,2,7]<|Co 7 (Rq [Ac 8 2 1,Ab 9 8,Aa 4 9] [4]<|.ret)<|Sk [1,2])<|Sq (Dr [4,10,11,12,13,14,15,16,17] [Aa 10 1,Ac 11 2 0,Ab 12 11,Ai 13 10 12 1,Ab 14 13,Ac 15 2 1,Ab 16 15,Bo 17 14 16,Aa 4 17] [4])<|.ret) [.tmp 4]:=by decide +kernel
instance rh (x_0:Term) (DD:List Int):Ct prog (FC x_0 DD) 248 [Ps x_0,lI DD] (fun r=>.sh (eI r)):=Fi kE fun r h hw hR=>by
  unfold FC at h
  exact au
theorem jO:CK f183 (Rq [Af 3 0,Af 4 1,Af 5 2,Aw 6 1,Ae 7 0] [3,4,5]<|Sq (Dr [8,9,16,17,18,19,20,21] [Ac 16 3 3,Ab 17 16,Fx 18 1 0 17,Ac 19 3 3,Ab 20 19,Eb 21 1 20,By 8 18,By 9 21] [3,4,5,8,9])<|Sq (Rq [Ac 22 3 2,Ab 23 22,Ag 24 23,Ae 25 0] [3,4,5,8,9,23,24,25]<|Bl 0<|Lo [3,4,5,8,9,23,24,25]<|Rq [Al 26 25 24] [3,4,5,8,9,23,24,25,26]<|Sq (Co 26 (Sk [3,4,5,8,9,23,24,25])<|Ex 0 [3,8])<|Sq (Bl 1<|Rq [Ai 27 23 25 4,Ad 28 27 4,Ec 11 0 0 0 0,Ao 4 11 28] [3,4,5,8,9,11,23,24,25]<|Sq (Dr [12,29,30,31,32,33,34,35,36,37,38,39,40,41,42] [Ac 29 4 2,Ab 30 29,Ac 31 5 0,Ab 32 31,Ac 33 11 0,Ab 34 33,Ai 35 32 34 1,Ab 36 35,Ai 37 30 36 1,Ab 38 37,Ac 39 11 1,Ab 40 39,Ai 41 38 40 1,Ab 42 41,Aa 12 42] [3,4,5,8,9,11,12,23,24,25])<|Sq (Rq [Ac 43 11 2,Ah 44 43 0,Ab 45 44,Aa 13 45] [3,4,5,8,9,11,12,13,23,24,25]<|Rq [Aa 46 13,Bn 47 46 0,Aa 48 47,⟨some 49,.xal 9,some (48,true)⟩,Ar 50 13 48,⟨some 51,.xia (.s 49) (.s 50) 1,some (48,true)⟩,⟨some 52,.xld (.s 51),some (48,true)⟩,Ed 53 52 48,As 54 48 53] [3,4,5,8,9,11,12,13,23,24,25,54]<|Co 54 (Re [Bk 55 8,Aa 56 13,Bk 57 9,Aa 58 13,Aa 59 12,Ac 60 11 2,Ah 61 60 1,Ab 62 61,Du 63 59 62,Bt 64 55 56 1,Cy 64 63,Bt 65 57 58 1,Dq 65] [3,4,5,8,9,11,12,23,24,25])<|Sk [3,4,5,8,9,11,12,23,24,25])<|Rq [Ac 66 11 2,Ad 67 66 2,Bk 68 8,Ee 69 248 67 68,Aa 70 12,Bp 71 69 70] [3,4,5,8,9,23,24,25,71]<|Co 71 (Rq [Aw 6 1,Ae 7 11] [6,7]<|.ret)<|Sk [3,4,5,8,9,23,24,25])<|Re [Am 72 25 1,Aa 25 72] [3,4,5,8,9,23,24,25])<|Sq (Rq [Ac 73 3 4,Ab 74 73,Ag 75 74,Ae 76 0] [8,74,75,76]<|Bl 2<|Lo [8,74,75,76]<|Rq [Al 77 76 75] [8,74,75,76,77]<|Sq (Co 77 (Sk [8,74,75,76])<|Ex 2 [8])<|Sq (Bl 3<|Rq [Ai 78 74 76 5,Ad 79 78 5,Eu 15 0 0 0 0 0,Ao 5 15 79] [8,15,74,75,76]<|Rq [Ad 80 15 5,Bk 81 8,Ee 82 216 80 81,Az 83 82] [8,74,75,76,83]<|Co 83 (Rq [Aw 6 1,Ae 7 16] [6,7]<|.ret)<|Sk [8,74,75,76])<|Re [Am 84 76 1,Aa 76 84] [8,74,75,76])<|Rq [Df 85 8,Ak 6 85,Ae 7 0] [6,7]<|.ret) [.tmp 6,.tmp 7]:=by decide +kernel
instance qx (p:Pattern) (h_1:A2) (m:Morphism):Ct prog (IJ p h_1 m) 183 [B1 p,IP h_1,C9 m] (fun r=>.tp [lI r.1,eI r.2]):=Fi jO fun r h hw hR=>by
  unfold IJ at h
  have:HA 0 25 24 0 fun (i0:Int) (s0:List Int × List Bool)=>[(8,.xo 1 (List.map eI s0.1)),(9,.xo 1 (List.map eB s0.2)),(25,.tv (eI i0))]:=⟨⟩
  have:HA 2 76 75 0 fun (i2:Int) (_:Unit)=>[(76,.tv (eI i2))]:=⟨⟩
  exact au
theorem iY:CK f131 (Rq [Af 4 0,Af 5 1,Af 6 2,Af 7 3,Aw 8 1,Ae 9 0] [4,5,6,7]<|Sq (Rq [Ad 12 4 2,Ad 13 5 5,Ad 14 6 3,Bf 15 182 12 13 14,Aa 10 15] [4,5,6,7,10]<|Rq [Aa 16 10,Ax 17 16 0] [4,5,6,7,10,17]<|Co 17 (Rq [Aa 18 10,Aw 8 1,Aa 9 18] [8,9]<|.ret)<|Sk [4,5,6,7])<|Sq (Rq [Ad 19 4 2,Ac 20 5 0,Ad 21 20 2,Ac 22 6 0,Ad 23 22 2,Ad 24 7 2,Gq 25 130 19 21 23 24,Aa 11 25] [5,6,7,11]<|Rq [Aa 26 11,Ax 27 26 0] [5,6,7,11,27]<|Co 27 (Rq [Aa 28 11,Aw 8 1,Aa 9 28] [8,9]<|.ret)<|Sk [5,6,7])<|Rq [Ad 29 5 5,Ad 30 6 3,Ad 31 7 2,Bf 32 183 29 30 31,An 33 32 0,An 34 32 1,Ak 8 33,Aa 9 34] [8,9]<|.ret) [.tmp 8,.tmp 9]:=by decide +kernel
instance qI (t:AD) (p:Pattern) (h_2:A2) (m:Morphism):Ct prog (FA t p h_2 m) 131 [At t,B1 p,IP h_2,C9 m] (fun r=>.tp [lI r.1,eI r.2]):=Fi iY fun r h hw hR=>by
  unfold FA at h
  exact au
theorem ol:CK f88 (Rq [Af 6 0,Af 7 1,Af 8 2,Af 9 3,Af 10 4,Ae 12 0] [5,6,7,8,9,10]<|Sq (Rq [Ad 19 6 2,Ad 20 7 5,Ad 21 8 9,Bf 22 129 19 20 21,Aa 13 22] [5,6,7,9,10,13]<|Rq [Aa 23 13,Ax 24 23 0] [5,6,7,9,10,13,24]<|Co 24 (Rq [Aa 25 13,Aa 12 25] [12]<|.ret)<|Sk [5,6,7,9,10])<|Sq (Rq [Ad 27 6 2,Ad 28 9 3,Aq 29 51 27 28,Aa 26 29,An 30 26 0,An 31 26 1,Aa 14 30,Aa 15 31] [5,6,7,9,10,15]<|Rq [Aa 32 15,Ax 33 32 0] [5,6,7,9,10,15,33]<|Co 33 (Rq [Aa 34 15,Aa 12 34] [12]<|.ret)<|Sk [5,6,7,9,10])<|Sq (Rq [Ad 35 6 2,Ac 36 7 0,Ad 37 36 2,Ac 38 9 0,Ad 39 38 2,Ac 40 10 0,Ad 41 40 2,Aa 42 5,Cv 43 130 35 37 39 41 42,Aa 16 43] [6,7,9,10,16]<|Rq [Aa 44 16,Ax 45 44 0] [6,7,9,10,16,45]<|Co 45 (Rq [Aa 46 16,Aa 12 46] [12]<|.ret)<|Sk [6,7,9,10])<|Rq [Ad 48 6 2,Ad 49 7 5,Ad 50 9 3,Ac 51 10 0,Ad 52 51 2,Do 53 131 48 49 50 52,Aa 47 53,An 54 47 0,An 55 47 1,Ak 17 54,Aa 18 55] [10,17,18]<|Sq (Rq [Aa 56 18,Ax 57 56 0] [10,17,18,57]<|Co 57 (Rq [Aa 58 18,Aa 12 58] [12]<|.ret)<|Sk [10,17])<|Sq (Rq [Aa 59 17,Ac 60 10 2,Ab 61 60,Aq 62 20 59 61,Az 63 62] [63]<|Co 63 (Rq [Ae 12 11] [12]<|.ret)<|Sk [])<|Rq [Ae 12 0] [12]<|.ret) [.tmp 12]:=by decide +kernel
instance t7 (t:AD) (p:Pattern) (c:AA) (h_3:A2) (m:AG) (injective:Bool):Ct prog (FE t p c h_3 m injective) 88 [At t,B1 p,AF c,IP h_3,AO m,eB injective] (fun r=>.sh (eI r)):=Fi ol fun r h hw hR=>by
  unfold FE at h
  exact au
theorem kR:CK f266 (Rq [Aj 3] [0,1]<|Rq [Aa 4 0,Fk 5 4 (-1),Aa 6 5,Ba 7 0 6,Ap 8 1 6,Bw 9 7 8 6,Au 10 6 9,Aa 3 10] [3]<|.ret) [.tmp 3]:=by decide +kernel
instance rx (k:Int) (c0:Int):Ct prog (Kr k c0) 266 [eI k,.pt [eI c0]] (fun r=>.sh (eB r)):=Fi kR fun r h hw hR=>by
  unfold Kr at h
  exact au
theorem jr:CK f214 (Rq [Af 3 1,Ae 4 0] [0,3]<|Sq (Rq [Aa 5 0,Cg 6 266 3,Aq 7 24 5 6] [7]<|Co 7 (Rq [Ae 4 6] [4]<|.ret)<|Sk [])<|Rq [Ae 4 0] [4]<|.ret) [.tmp 4]:=by decide +kernel
instance rQ (l:List Int) (n:Int):Ct prog (HC l n) 214 [lI l,eI n] (fun r=>.sh (eI r)):=Fi jr fun r h hw hR=>by
  unfold HC at h
  exact au
theorem lR:CK f323 (Rq [Ae 4 0] [0,1]<|Sq (Rq [Aa 5 0,⟨some 6,.isn (.s 5),none⟩] [0,1,6]<|Co 6 (Rq [Bq 4 (-1)] [4]<|.ret)<|Sk [0,1])<|Rq [Aa 7 0,Aa 8 1,Ai 9 7 8 1,Ab 10 9,Aa 4 10] [4]<|.ret) [.tmp 4]:=by decide +kernel
instance sj (l:List Int) (i_1:Int):Ct prog (H8 l i_1) 323 [lI l,eI i_1] (fun r=>.sh (eI r)):=Fi lR fun r h hw hR=>by
  unfold H8 at h
  exact au
theorem lV:CK f325 (Rq [Aj 6] [0,1,2]<|Rq [Aa 9 0,Ah 10 9 0,Ah 11 10 0,Ah 12 11 1,Ab 13 12,Aa 14 1,Ai 15 13 14 3,Ad 16 15 3,Cs 7 0 0 0,Ao 3 7 16] [0,1,2,7]<|Sq (Rq [Aa 17 0,Ah 18 17 0,Ah 19 18 5,Ah 20 19 1,Ab 21 20,Aa 22 1,Aq 23 323 21 22,Aa 8 23] [0,2,7,8]<|Rq [Aa 24 8,Bn 25 24 0,Aa 26 25,Ar 27 8 26,Ar 28 2 26,⟨some 29,.bin (.i) .neq (.s 27) (.s 28),some (26,true)⟩,As 30 26 29] [0,2,7,30]<|Co 30 (Rq [Aj 6] [6]<|.ret)<|Sk [0,2,7])<|Sq (Dr [6,31,32,33,34,35,36,37,38,39,40,41,42,43,44,45,46,47,48,49,50,51,52,53,54,55,56,57,58] [Aa 31 0,Ah 32 31 0,Ah 33 32 2,Ah 34 33 1,Ab 35 34,Aa 36 2,Ai 37 35 36 3,Ad 38 37 3,Ac 39 7 0,Ab 40 39,Aa 41 0,Ah 42 41 0,Ah 43 42 9,Ab 44 43,Ac 45 7 1,Ab 46 45,Ai 47 44 46 1,Ab 48 47,Aa 49 0,Ah 50 49 0,Ah 51 50 9,Ab 52 51,Ac 53 7 2,Ab 54 53,Ai 55 52 54 1,Ab 56 55,⟨some 57,.bld [.int .i64 0,.int .i64 0,.int .i64 0] [(0,1,.s 40),(1,1,.s 48),(2,1,.s 56)],none⟩,⟨some 58,.bin (.a [0,0,0]) .eql (.s 38) (.s 57),none⟩,Aa 6 58] [6])<|.ret) [.tmp 6]:=by decide +kernel
instance sq (f:AK) (i_1:Int) (k:Int):Ct prog (EM f i_1 k) 325 [.pt (N8 f).cells,eI i_1,eI k] (fun r=>.sh (eB r)):=Fi lV fun r h hw hR=>by
  unfold EM at h
  exact au
theorem lU:CK f324 (Rq [Aj 2] [0]<|Rq [Aa 8 0,Ah 9 8 0,Ah 10 9 9,Ab 11 10,Ag 12 11,Ci 13 12 1,Aa 3 13] [0,3]<|Sq (Rq [Aa 14 0,Ah 15 14 0,Ah 16 15 0,Ah 17 16 1,Ab 18 17,Ag 19 18,Ae 20 0] [0,3,18,19,20]<|Bl 0<|Lo [0,3,18,19,20]<|Rq [Al 21 20 19] [0,3,18,19,20,21]<|Sq (Co 21 (Sk [0,3,18,19,20])<|Ex 0 [])<|Sq (Bl 1<|Rq [Aa 22 20,Ai 23 18 20 3,Ad 24 23 3,Cs 5 0 0 0,Aa 4 22,Ao 3 5 24] [0,3,4,5,18,19,20]<|Sq (Rq [Ac 25 5 1,Ab 26 25,Ac 27 5 2,Ab 28 27,Fs 29 26 28,Aa 30 3,Bp 31 29 30] [0,3,4,18,19,20,31]<|Co 31 (Ex 1 [0,3,18,19,20])<|Sk [0,3,4,18,19,20])<|Rq [Aj 6] [0,3,4,6,18,19,20]<|Sq (Rq [Aa 32 0,Ah 33 32 0,Ah 34 33 2,Ah 35 34 1,Ab 36 35,Ag 37 36,Ae 38 0] [0,3,4,6,18,19,20,37,38]<|Bl 2<|Lo [0,3,4,6,18,19,20,37,38]<|Rq [Al 39 38 37] [0,3,4,6,18,19,20,37,38,39]<|Sq (Co 39 (Sk [0,3,4,6,18,19,20,37,38])<|Ex 2 [0,3,6,18,19,20])<|Sq (Bl 3<|Rq [Aa 40 38,Aa 7 40] [0,3,4,6,7,18,19,20,37,38]<|Rq [Aa 41 0,Aa 42 4,Aa 43 7,Bf 44 325 41 42 43] [0,3,4,6,18,19,20,37,38,44]<|Co 44 (Rq [Bx 6] [0,3,6,18,19,20]<|Ex 2 [0,3,6,18,19,20])<|Sk [0,3,4,6,18,19,20,37,38])<|Re [Am 45 38 1,Aa 38 45] [0,3,4,6,18,19,20,37,38])<|Rq [Aa 46 6,Az 47 46] [0,3,18,19,20,47]<|Co 47 (Rq [Aj 2] [2]<|.ret)<|Sk [0,3,18,19,20])<|Re [Am 48 20 1,Aa 20 48] [0,3,18,19,20])<|Rq [Bx 2] [2]<|.ret) [.tmp 2]:=by decide +kernel
instance sm (f:AK):Ct prog (CT f) 324 [.pt (N8 f).cells] (fun r=>.sh (eB r)):=Fi lU fun r h hw hR=>by
  unfold CT at h
  have:HA 0 20 19 0 fun (i0:Int) (_:Unit)=>[(20,.tv (eI i0))]:=⟨⟩
  have:HA 2 38 37 0 fun (i2:Int) (s2:Bool)=>[(6,.tv (eB s2)),(38,.tv (eI i2))]:=⟨⟩
  exact au
noncomputable def Tl:PC:=Bl 0<|Sq (Dr [28,29,30,31,32,33,34,35,36,37,38] [Ac 29 0 0,Ah 30 29 0,Ah 31 30 11,Ab 32 31,Ag 33 32,Ac 34 0 0,Ah 35 34 0,Ah 36 35 8,Ab 37 36,Dc 38 33 37,Aa 28 38] [0,28])<|Co 28 (Sk [0])<|Sq (Dr [39,40,41,42,43,44,45,46,47,48,49,50,51] [Ac 40 0 0,Ah 41 40 0,Ah 42 41 9,Dj 43 42,Dv 44 43,Ac 45 0 0,Ah 46 45 0,Ah 47 46 0,Ah 48 47 0,Ab 49 48,Ag 50 49,Al 51 44 50,Aa 39 51] [0,39])<|Co 39 (Rq [Ac 52 0 0,Ah 53 52 0,Ah 54 53 9,Dj 55 54,Dv 56 55,Aa 2 56] [0,2]<|Rq [Ac 57 0 0,Ah 58 57 0,Ah 59 58 2,Ah 60 59 0,Ab 61 60,Ag 62 61,Ae 63 0] [0,2,61,62,63]<|Bl 1<|Lo [0,2,61,62,63]<|Rq [Al 64 63 62] [0,2,61,62,63,64]<|Sq (Co 64 (Sk [0,2,61,62,63])<|Ex 1 [0])<|Sq (Bl 2<|Rq [Aa 65 63,Ai 66 61 63 1,Ab 67 66,Aa 3 65,Aa 4 67] [0,2,3,4,61,62,63]<|Sq (Rq [Ac 68 0 0,Ah 69 68 0,Ah 70 69 5,Ah 71 70 0,Ab 72 71,Aa 73 2,Aq 74 323 72 73,Aa 5 74] [0,2,3,4,5,61,62,63]<|Sq (Dr [75,76,77,78,79,80,81,82,83,84,85,86,87,88,89,90,91,92,93,94,95,96,97,98,99,100,101,102,103,104,105,106,107,108,109,110,111,112,113,114,115] [Aa 75 5,Bn 76 75 0,Aa 77 76,Ar 78 5 77,Ar 79 3 77,⟨some 80,.bin (.i) .neq (.s 78) (.s 79),some (77,true)⟩,As 81 77 80,Aa 82 81,Av 83 0 0 82,Bu 84 83 0 82,Bu 85 84 4 82,Ap 86 85 82,Av 87 0 0 82,Bu 88 87 0 82,Bu 89 88 0 82,Bu 90 89 0 82,Ap 91 90 82,Ba 92 2 82,Ch 93 91 92 1 82,Ap 94 93 82,Ch 95 86 94 1 82,Ap 96 95 82,Ba 97 4 82,Ch 98 96 97 1 82,Ap 99 98 82,Br 100 99 82,Au 101 82 100,Aa 102 101,Av 103 0 0 102,Bu 104 103 0 102,Bu 105 104 7 102,Ap 106 105 102,Ba 107 106 102,Bc 108 0 0 107,Ca 109 108 0 107,Ca 110 109 9 107,⟨some 111,.lac (.s 110),some (107,true)⟩,Ar 112 3 107,⟨some 113,.calll 38 [.s 111,.s 112],some (107,true)⟩,Cf 114 107 113 102,Au 115 102 114] [0,2,3,61,62,63,115])<|Co 115 (Ex 2 [0,2,61,62,63])<|Sk [0,2,3,61,62,63])<|Rq [Ac 116 0 0,Ac 117 0 0,Ah 118 117 0,Ah 119 118 9,Ew 120 119,Aa 121 3,Bi 122 1 121,Em 123 1 120 122,Ah 124 116 0,Ah 125 124 9,Ey 125 123] [0,2,61,62,63]<|Sq (Rq [Ac 126 0 0,Fy 127 324 126] [0,2,61,62,63,127]<|Co 127 (Re [Ac 128 0 0,Ga 129 302 128 0] [0,2,61,62,63])<|Sk [0,2,61,62,63])<|Re [Ac 130 0 0,Ac 131 0 0,Ah 132 131 0,Ah 133 132 9,Ew 134 133,Aa 135 2,⟨some 136,.cut 1 134 (.s 135),none⟩,Ah 137 130 0,Ah 138 137 9,Ey 138 136] [0,2,61,62,63])<|Re [Am 139 63 1,Aa 63 139] [0,2,61,62,63])<|Sq (Dr [140,141,142,143,144,145,146,147,148,149,150,151,152] [Ac 141 0 0,Ah 142 141 0,Ah 143 142 10,Dj 144 143,Dv 145 144,Ac 146 0 0,Ah 147 146 0,Ah 148 147 0,Ah 149 148 1,Ab 150 149,Ag 151 150,Al 152 145 151,Aa 140 152] [0,140])<|Co 140 (Rq [Ac 153 0 0,Ah 154 153 0,Ah 155 154 10,Dj 156 155,Dv 157 156,Aa 6 157] [0,6]<|Rq [Ac 158 0 0,Ah 159 158 0,Ah 160 159 2,Ah 161 160 1,Ab 162 161,Ag 163 162,Ae 164 0] [0,6,163,164]<|Bl 3<|Lo [0,6,163,164]<|Rq [Al 165 164 163] [0,6,163,164,165]<|Sq (Co 165 (Sk [0,6,163,164])<|Ex 3 [0])<|Sq (Bl 4<|Rq [Aa 166 164,Aa 7 166] [0,6,7,163,164]<|Sq (Rq [Ac 167 0 0,Aa 168 6,Aa 169 7,⟨some 170,.calll 325 [.s 167,.s 168,.s 169],none⟩,Az 171 170,Aa 172 171,Av 173 0 0 172,Bu 174 173 0 172,Bu 175 174 7 172,Ap 176 175 172,Ba 177 176 172,Bc 178 0 0 177,Ca 179 178 0 177,Ca 180 179 10 177,⟨some 181,.lac (.s 180),some (177,true)⟩,Ar 182 7 177,⟨some 183,.calll 38 [.s 181,.s 182],some (177,true)⟩,Cf 184 177 183 172,Au 185 172 184] [0,6,7,163,164,185]<|Co 185 (Ex 4 [0,6,163,164])<|Sk [0,6,7,163,164])<|Rq [Ac 186 0 0,Ac 187 0 0,Ah 188 187 0,Ah 189 188 10,Ew 190 189,Aa 191 7,Bi 192 1 191,Em 193 1 190 192,Ah 194 186 0,Ah 195 194 10,Ey 195 193] [0,6,163,164]<|Rq [Ac 196 0 0,Ga 197 302 196 0] [0,6,163,164]<|Re [Ac 198 0 0,Ac 199 0 0,Ah 200 199 0,Ah 201 200 10,Ew 202 201,Aa 203 6,⟨some 204,.cut 1 202 (.s 203),none⟩,Ah 205 198 0,Ah 206 205 10,Ey 206 204] [0,6,163,164])<|Re [Am 207 164 1,Aa 164 207] [0,6,163,164])<|Dr [8,9,10,11,12,13,14,15,16,17,18,19,20,21,22,23,24,25,26,27] [Ac 8 0 0,Ac 9 0 0,Ah 10 9 0,Ah 11 10 11,Ez 12 11,Ac 13 0 0,Ah 14 13 0,Ah 15 14 9,Dj 16 15,Fy 17 109 16,Ac 18 0 0,Ah 19 18 0,Ah 20 19 10,Dj 21 20,Fy 22 109 21,Ds 23 1 1 0 1 17 1 1 22,Bi 24 2 23,Bm 25 2 12 24,Ah 26 8 0,Ah 27 26 11,Ef 1 27 25] [0]
theorem k6:CK f302 Tl []:=by decide +kernel
theorem lw:PC.noClm Tl=true∧PC.noDst 0 Tl=true:=by decide +kernel
theorem iA (n:Nat) (_ih_302:∀ (f:AK),Ct prog (A9 n f) 302 [.undef] (fun r=>.bo (DZ f) (DZ r) 0 [])) (f:AK):Ct prog (A9 (n+1) f) 302 [.undef] (fun r=>.bo (DZ f) (DZ r) 0 []):=pQ k6 lw fun r h hw hwc hR=>by
  unfold Tl
  unfold A9 at h
  have:HA 1 63 62 0 fun (i1:Int) (s1:AK)=>[(0,.bx (DZ s1)),(63,.tv (eI i1))]:=⟨⟩
  have:HA 3 164 163 0 fun (i3:Int) (s3:AK)=>[(0,.bx (DZ s3)),(164,.tv (eI i3))]:=⟨⟩
  have:HJ 28 fun (w1:AK)=>[(0,.bx (DZ w1))]:=⟨⟩
  exact au
theorem hU:∀ n:Nat,(∀ (f:AK),Ct prog (A9 n f) 302 [.undef] (fun r=>.bo (DZ f) (DZ r) 0 [])):=by
  intro n
  induction n with
  | zero=>exact (fun f=>⟨fun _ h=>by cases h⟩)
  | succ n ih=>exact iA n ih
instance sR (f:AK):Ct prog (F4 f) 302 [.undef] (fun r=>.bo (DZ f) (DZ r) 0 []):=⟨fun r h=>by
  obtain ⟨N,hN⟩:=CO h
  exact ((hU N) f).snd r (hN N (Nat.le_refl _))⟩
theorem kS:CK f267 (Rq [Af 6 0,Af 7 1,Af 8 2,Af 9 3,Aw 12 2] [4,5,6,7,8,9]<|Sq (Dr [13,14,15,16,17,18,19,20,21] [Ad 14 7 2,Ad 15 8 2,Ad 16 6 2,Ay 17 245 16,Ad 18 9 2,Aa 19 4,Aa 20 5,⟨some 21,.bld [.list 1 [],.list 3 [],.list 1 [],.list 3 [],.list 1 [],.list 1 [],.list 1 [],.bool false,.int .i64 0,.nil,.nil,.nil] [(0,2,.s 14),(2,2,.s 15),(4,1,.s 17),(5,2,.s 18),(7,1,.s 19),(8,1,.s 20)],none⟩,⟨some 22,.boxp [none,none,none,none,none,none,none,none,none,some ⟨true,.xl 1 []⟩,some ⟨true,.xl 1 []⟩,some ⟨true,.list 2 []⟩] (.s 21),none⟩,Ac 13 22 0] [13,22])<|Rq [Ah 23 13 0,Ga 24 302 23 0] [13,22]<|Rq [Ah 25 13 0,Ah 26 25 0,Ah 27 26 11,Ab 28 27,Ak 12 28] [12]<|.ret) [.tmp 12]:=by decide +kernel
instance ry (t:AD) (p:Graph) (g:Graph) (partial_:Morphism) (injective:Bool) (most:Int):Ct prog (HP t p g partial_ injective most) 267 [At t,DN p,DN g,C9 partial_,eB injective,eI most] (fun r=>.sh ((eL 2 C9) r)):=Fi kS fun r h hw hR=>by
  unfold HP at h
  exact au
theorem jt:CK f215 (Rq [Af 5 0,Af 6 1,Af 7 2,Af 8 3,Aw 10 2,Ae 11 0] [4,5,6,7,8]<|Rq [Ad 13 5 2,Ad 14 6 2,Ad 15 7 2,Ad 16 8 2,Aa 17 4,⟨some 18,.call 267 [.s 13,.s 14,.s 15,.s 16,.s 17,.c (.int .i64 5001)],none⟩,Ak 12 18] [12]<|Sq (Rq [Aa 19 12,Ag 20 19,Bj 21 20 5000] [12,21]<|Co 21 (Rq [Aw 10 2,Ae 11 3] [10,11]<|.ret)<|Sk [12])<|Rq [Aa 22 12,Ak 10 22,Ae 11 0] [10,11]<|.ret) [.tmp 10,.tmp 11]:=by decide +kernel
instance rR (t:AD) (p:Graph) (g:Graph) (partial_:Morphism) (injective:Bool):Ct prog (JP t p g partial_ injective) 215 [At t,DN p,DN g,C9 partial_,eB injective] (fun r=>.tp [(eL 2 C9) r.1,eI r.2]):=Fi jt fun r h hw hR=>by
  unfold JP at h
  exact au
end Go.Sf.Sc
