/- Contracts of the functions. -/
import Derived.Test.YtmaobfbhdkafkaaGreatShort
import Derived.Test.YtmaobfbhdkafkaaGreatRp
import Derived.Test.YtmaobfbhdkafkaaGreatTryzShelf
set_option maxRecDepth 100000
set_option maxHeartbeats 4000000
namespace Go.Sf.Sc
open Go Go.Sf Go.Proofs.Tryz
theorem lq:CK f289 (Rq [Aj 2] [0]<|Rq [Aa 3 0,Es 4 3 97,Aa 5 4,As 6 0 5,Dq 7 6 122 5,Ap 8 5 7,Aa 9 8,Au 10 0 9,Gz 11 10 65 9,Au 12 11 9,As 13 0 12,Dq 14 13 90 12,Cf 15 12 14 9,Aq 16 9 15,Aa 2 16] [2]<|.ret) [.tmp 2]:=by decide +kernel
instance tB (c:Int):Ct prog (KU c) 289 [G6 c] (fun r=>.sh (eB r)):=Fi lq fun r h hw hR=>by
  unfold KU at h
  exact au
theorem lr:CK f290 (Rq [Ad 4 0] [0,1]<|Rq [Ad 5 0] [0,1,5]<|Sq (Bl 0<|Lo [0,1,5]<|Sq (Rq [Aa 6 5,Aa 7 0,Cx 8 7,Am 9 6 8,Aa 10 9,As 11 1 10,As 12 0 10,As 13 5 10,Gb 14 12 13 10,⟨some 15,.callv (.s 11) [.s 14],some (10,true)⟩,Ap 16 10 15] [0,1,5,16]<|Co 16 (Sk [0,1,5])<|Ex 0 [5])<|Bl 1<|Re [Aa 17 5,Al 18 17 1,Aa 5 18] [0,1,5])<|Rq [Aa 19 5,Aa 4 19] [4]<|.ret) [.tmp 4]:=by decide +kernel
instance tC (s_0:ByteArray) (ok:Int->Option Bool) (Sg:FuncId) (k_ok:List TV) [h_ok:∀ (y0:Int),Ct prog (ok y0) Sg (G6 y0::k_ok) (fun r=>.sh (eB r))]:Ct prog (Hy s_0 ok) 290 [eS s_0,.clo Sg k_ok] (fun r=>.sh (eI r)):=Fi lr fun r h hw hR=>by
  unfold Hy at h
  have:HW 0 fun (s0:Int)=>[(5,.tv (eI s0))]:=⟨⟩
  exact au
theorem lv:CK f292 (Rq [Aj 2] [0]<|Rq [Aa 3 0,Es 4 3 48,Aa 5 4,As 6 0 5,Dq 7 6 57 5,Ap 8 5 7,Aa 2 8] [2]<|.ret) [.tmp 2]:=by decide +kernel
instance tE (c:Int):Ct prog (J1 c) 292 [G6 c] (fun r=>.sh (eB r)):=Fi lv fun r h hw hR=>by
  unfold J1 at h
  exact au
theorem lu:CK f291 (Rq [Aj 2] [0]<|Rq [Aa 3 0,Ba 4 289 3,Aa 5 4,Au 6 0 5,Ds 7 292 6 5,Aq 8 5 7,Aa 9 8,Au 10 0 9,Ha 11 10 95 9,Aq 12 9 11,Aa 2 12] [2]<|.ret) [.tmp 2]:=by decide +kernel
instance tD (c:Int):Ct prog (MF c) 291 [G6 c] (fun r=>.sh (eB r)):=Fi lu fun r h hw hR=>by
  unfold MF at h
  exact au
theorem l8:CK f307 (Rq [Aj 2] [0]<|Rq [Aa 3 0,Es 4 3 32,Aa 5 4,As 6 0 5,Dq 7 6 126 5,Ap 8 5 7,Aa 9 8,As 10 0 9,⟨some 11,.bin (.i) .neq (.s 10) (.c (.int .u8 34)),some (9,true)⟩,Ap 12 9 11,Aa 2 12] [2]<|.ret) [.tmp 2]:=by decide +kernel
instance tN (c:Int):Ct prog (Kh c) 307 [G6 c] (fun r=>.sh (eB r)):=Fi l8 fun r h hw hR=>by
  unfold Kh at h
  exact au
theorem lw:CK f293 (Rq [Ad 2 0,Ad 3 0] [0]<|Rq [Aa 5 0,⟨some 6,.sslc (.s 5) (some (.c (.int .i64 1))) none,none⟩,Fh 7 290 6 307,Aa 4 7] [0,4]<|Sq (Rq [Aa 8 4,Ee 9 1 8,Aa 10 0,Cx 11 10,Cy 12 9 11,Aa 13 12,Au 14 0 13,Au 15 4 13,⟨some 16,.bin (.i) .add (.c (.int .i64 1)) (.s 15),some (13,false)⟩,⟨some 17,.sidx (.s 14) (.s 16),some (13,false)⟩,⟨some 18,.bin (.i) .neq (.s 17) (.c (.int .u8 34)),some (13,false)⟩,Aq 19 13 18] [4,19]<|Co 19 (Rq [Ad 2 0,Ad 3 2] [2,3]<|.ret)<|Sk [4])<|Sq (Rq [Aa 20 4,Bk 21 20 60] [4,21]<|Co 21 (Rq [Ad 2 0,Ad 3 3] [2,3]<|.ret)<|Sk [4])<|Rq [Aa 22 4,Al 23 22 2,Aa 2 23,Ad 3 0] [2,3]<|.ret) [.tmp 2,.tmp 3]:=by decide +kernel
instance tF (s_0:ByteArray):Ct prog (HI s_0) 293 [eS s_0] (fun r=>.tp [eI r.1,eI r.2]):=Fi lw fun r h hw hR=>by
  unfold HI at h
  exact au
theorem lz:CK f296 (Rq [Ad 4 0] [0,1]<|Sq (Rq [Aa 6 0,Ah 7 6,Ad 8 0] [0,1,7,8]<|Bl 0<|Lo [0,1,7,8]<|Rq [Am 9 8 7] [0,1,7,8,9]<|Sq (Co 9 (Sk [0,1,7,8])<|Ex 0 [])<|Sq (Bl 1<|Rq [Aa 10 8,Aa 5 10] [0,1,5,7,8]<|Rq [Aa 11 1,Aa 12 0,Aa 13 5,Ai 14 12 13 1,Ac 15 14,Dm 16 11 15] [0,1,5,7,8,16]<|Co 16 (Rq [Aa 17 5,Aa 4 17] [4]<|.ret)<|Sk [0,1,7,8])<|Re [Al 18 8 1,Aa 8 18] [0,1,7,8])<|Rq [Bt 4 (-1)] [4]<|.ret) [.tmp 4]:=by decide +kernel
instance tH (s_0:List ByteArray) (v_1:ByteArray):Ct prog (GR s_0 v_1) 296 [lB s_0,eS v_1] (fun r=>.sh (eI r)):=Fi lz fun r h hw hR=>by
  unfold GR at h
  have:HA 0 8 7 0 fun (i0:Int) (_:Unit)=>[(8,.tv (eI i0))]:=⟨⟩
  exact au
theorem li:CK f268 (Rq [Aj 4] [0,1]<|Rq [Aa 5 0,Aa 6 1,Av 7 296 5 6,Bp 8 7 0,Aa 4 8] [4]<|.ret) [.tmp 4]:=by decide +kernel
instance sz (s_0:List ByteArray) (v_1:ByteArray):Ct prog (D0 s_0 v_1) 268 [lB s_0,eS v_1] (fun r=>.sh (eB r)):=Fi li fun r h hw hR=>by
  unfold D0 at h
  exact au
theorem ly:CK f294 (Rq [Aj 2] [0]<|Rq [Aa 3 0,Cx 4 3,Bp 5 4 2,Aa 6 5,⟨some 7,.lst 1 [.c (.str ⟨#[45,62]⟩),.c (.str ⟨#[60,61]⟩),.c (.str ⟨#[62,61]⟩),.c (.str ⟨#[61,61]⟩),.c (.str ⟨#[33,61]⟩)],some (6,true)⟩,As 8 0 6,⟨some 9,.sslc (.s 8) none (some (.c (.int .i64 2))),some (6,true)⟩,Dt 10 268 7 9 6,Ap 11 6 10,Aa 2 11] [2]<|.ret) [.tmp 2]:=by decide +kernel
instance tG (s_0:ByteArray):Ct prog (ME s_0) 294 [eS s_0] (fun r=>.sh (eB r)):=Fi ly fun r h hw hR=>by
  unfold ME at h
  exact au
theorem oC (s:ByteArray) (c:Int) (r:Int) (h:strings_IndexByte s c=some r):AS prog 295 [eS s,G6 c] (.sh (eI r)):=by
  unfold strings_IndexByte at h
  cases h
  exact fH (by rfl) ⟨Go.Lib.indexByte_ge _ _,fG _ _⟩ (fun w=>Go.Proofs.Tryz.strings_IndexByte s c w)
instance tY (s:ByteArray) (c:Int):Ct Go.Proofs.Tryz.prog (strings_IndexByte s c) 295 [eS s,G6 c] (fun r=>.sh (eI r)):=⟨oC s c⟩
theorem lg:CK f266 (Rq [Ad 2 0,Ad 3 0,Ad 4 0] [0]<|Rq [Aa 10 0,⟨some 11,.sidx (.s 10) (.c (.int .i64 0)),none⟩,Aa 5 11] [0,5]<|Sq (Bl 0<|Rq [Aa 13 5,Ba 14 289 13,Aa 12 14] [0,5,12]<|Co 12 (Rq [Aa 15 0,Fh 16 290 15 291,Aa 6 16] [6]<|Sq (Rq [Aa 17 6,Bk 18 17 20] [6,18]<|Co 18 (Rq [Ad 2 0,Ad 3 0,Ad 4 3] [2,3,4]<|.ret)<|Sk [6])<|Rq [Aa 19 6,Ad 2 1,Aa 3 19,Ad 4 0] [2,3,4]<|.ret)<|Rq [Aa 21 5,Ba 22 292 21,Aa 20 22] [0,5,20]<|Co 20 (Rq [Aa 23 0,Fh 24 290 23 292,Aa 7 24] [7]<|Sq (Rq [Aa 25 7,Bk 26 25 9] [7,26]<|Co 26 (Rq [Ad 2 0,Ad 3 0,Ad 4 3] [2,3,4]<|.ret)<|Sk [7])<|Rq [Aa 27 7,Ad 2 2,Aa 3 27,Ad 4 0] [2,3,4]<|.ret)<|Rq [Aa 29 5,Cn 30 29 34,Aa 28 30] [0,5,28]<|Co 28 (Rq [Aa 32 0,Ba 33 293 32,Aa 31 33,An 34 31 0,An 35 31 1,Aa 8 34,Aa 9 35] [8,9]<|Rq [Aa 36 8,Aa 37 9,Ad 2 3,Aa 3 36,Aa 4 37] [2,3,4]<|.ret)<|Rq [Aa 39 0,Ba 40 294 39,Aa 38 40] [5,38]<|Co 38 (Rq [Ad 2 4,Ad 3 2,Ad 4 0] [2,3,4]<|.ret)<|Rq [Aa 42 5,⟨some 43,.call 295 [.c (.str ⟨#[123,125,40,41,91,93,44,59,58,61,43,45,42,60,62,33,38,124,46,63]⟩),.s 42],none⟩,Bp 44 43 0,Aa 41 44] [41]<|Co 41 (Rq [Ad 2 4,Ad 3 1,Ad 4 0] [2,3,4]<|.ret)<|Sk [])<|Rq [Ad 2 0,Ad 3 0,Ad 4 2] [2,3,4]<|.ret) [.tmp 2,.tmp 3,.tmp 4]:=by decide +kernel
instance sx (s_0:ByteArray):Ct prog (Ii s_0) 266 [eS s_0] (fun r=>.tp [eI r.1,eI r.2.1,eI r.2.2]):=Fi lg fun r h hw hR=>by
  unfold Ii at h
  exact au
theorem lJ:CK f244 (Rq [Ag 1 0,Cz 2,Aj 3] [1]<|Rq [Ab 8 1 1,Ac 9 8,Aa 4 9] [1,4]<|Sq (Rq [Ab 10 1 0,Ac 11 10,Bc 12 11 3] [1,4,12]<|Co 12 (Re [Aa 13 4,⟨some 14,.bin (.s) .add (.c (.str ⟨#[34]⟩)) (.s 13),none⟩,⟨some 15,.bin (.s) .add (.s 14) (.c (.str ⟨#[34]⟩)),none⟩,Aa 4 15] [1,4])<|Sk [1,4])<|Sq (Rq [Aa 16 4,⟨some 17,.bin (.s) .eql (.s 16) (.c (.str ⟨#[]⟩)),none⟩] [1,4,17]<|Co 17 (Rq [Cz 2,Aj 3] [2,3]<|.ret)<|Sk [1,4])<|Rq [Aa 19 4,Ba 20 266 19,Aa 18 20,An 21 18 0,An 22 18 1,An 23 18 2,Aa 5 21,Aa 6 22,Aa 7 23] [1,4,5,6,7]<|Rq [Aa 24 4,Aa 25 7,Bc 26 25 0,Aa 27 26,As 28 5 27,Ay 29 1 0 27,Az 30 29 27,Dg 31 28 30 27,Ap 32 27 31,Aa 33 32,As 34 6 33,As 35 4 33,Gc 36 35 33,Dg 37 34 36 33,Ap 38 33 37,Aa 2 24,Aa 3 38] [2,3]<|.ret) [.tmp 2,.tmp 3]:=by decide +kernel
instance sa (t:E8):Ct prog (Iv t) 244 [Ry t] (fun r=>.tp [eS r.1,eB r.2]):=Fi lJ fun r h hw hR=>by
  unfold Iv at h
  have:HJ 12 fun (w1:ByteArray)=>[(4,.tv (eS w1))]:=⟨⟩
  exact au
theorem kU:CK f207 (Rq [Aj 2] [0]<|Rq [Aa 6 0,Fj 7 0 0 0 1 1 1 1 6,Ba 8 244 7,Aa 5 8,An 9 5 0,An 10 5 1,Aa 3 9,Aa 4 10] [4]<|Rq [Aa 11 4,Aa 2 11] [2]<|.ret) [.tmp 2]:=by decide +kernel
instance ru (s_0:ByteArray):Ct prog (EH s_0) 207 [eS s_0] (fun r=>.sh (eB r)):=Fi kU fun r h hw hR=>by
  unfold EH at h
  exact au
theorem lK:CK f245 (Rq [Ad 4 0] [0,1]<|Sq (Rq [Aa 6 0,Ah 7 6,Ad 8 0] [0,1,7,8]<|Bl 0<|Lo [0,1,7,8]<|Rq [Am 9 8 7] [0,1,7,8,9]<|Sq (Co 9 (Sk [0,1,7,8])<|Ex 0 [])<|Sq (Bl 1<|Rq [Aa 10 8,Aa 5 10] [0,1,5,7,8]<|Rq [Aa 11 1,Aa 12 0,Aa 13 5,Ai 14 12 13 4,Ae 15 14 4,Da 16 11 15] [0,1,5,7,8,16]<|Co 16 (Rq [Aa 17 5,Aa 4 17] [4]<|.ret)<|Sk [0,1,7,8])<|Re [Al 18 8 1,Aa 8 18] [0,1,7,8])<|Rq [Bt 4 (-1)] [4]<|.ret) [.tmp 4]:=by decide +kernel
instance sb (s_0:List BF) (f:BF->Option Bool) (f_f:FuncId) (k_f:List TV) [h_f:∀ (y0:BF),Ct prog (f y0) f_f (Ht y0::k_f) (fun r=>.sh (eB r))]:Ct prog (DP s_0 f) 245 [lN s_0,.clo f_f k_f] (fun r=>.sh (eI r)):=Fi lK fun r h hw hR=>by
  unfold DP at h
  have:HA 0 8 7 0 fun (i0:Int) (_:Unit)=>[(8,.tv (eI i0))]:=⟨⟩
  exact au
theorem kV:CK f208 (Rq [Aj 4] [0,1]<|Rq [Aa 5 0,Aa 6 1,Av 7 245 5 6,Bp 8 7 0,Aa 4 8] [4]<|.ret) [.tmp 4]:=by decide +kernel
instance rx (s_0:List BF) (f:BF->Option Bool) (f_f:FuncId) (k_f:List TV) [h_f:∀ (y0:BF),Ct prog (f y0) f_f (Ht y0::k_f) (fun r=>.sh (eB r))]:Ct prog (CM s_0 f) 208 [lN s_0,.clo f_f k_f] (fun r=>.sh (eB r)):=Fi kV fun r h hw hR=>by
  unfold CM at h
  exact au
theorem kW:CK f209 (Rq [Ag 2 0,Aj 3] [1,2]<|Rq [Ab 4 2 0,Ac 5 4,Ab 6 1 0,Ac 7 6,Dm 8 5 7,Aa 3 8] [3]<|.ret) [.tmp 3]:=by decide +kernel
instance ry (m:BF) (c0:BF):Ct prog (MH m c0) 209 [Ht m,.pt (Ht c0).cells] (fun r=>.sh (eB r)):=Fi kW fun r h hw hR=>by
  unfold MH at h
  exact au
theorem kX:CK f210 (Rq [Ag 2 0,⟨some 4,.nilx 4,none⟩] [1,2]<|Rq [⟨some 5,.nilx 4,none⟩] [1,2,5]<|Sq (Rq [Ab 7 2 0,Ac 8 7,Aa 9 1,Ai 10 8 9 4,Af 11 10 1,Ac 12 11,Aa 6 12] [1,2,5,6]<|Rq [Aa 13 6,Bp 14 13 0] [1,2,5,6,14]<|Co 14 (Re [Ae 15 2 2,Aa 16 6,Gd 17 210 15 16,Ci 5 17] [1,2,5])<|Sk [1,2,5])<|Rq [Ci 18 5,Ab 19 2 0,Ac 20 19,Aa 21 1,Ai 22 20 21 4,Af 23 22 3,Ac 24 23,Ef 25 4 18 24,Ci 4 25] [4]<|.ret) [.tmp 4]:=by decide +kernel
theorem ii (n:Nat) (_ih_210:∀ (t:Types) (a:Int),Ct prog (DS n t a) 210 [AU t,eI a] (fun r=>.xown 4 (List.map IT r))) (t:Types) (a:Int):Ct prog (DS (n+1) t a) 210 [AU t,eI a] (fun r=>.xown 4 (List.map IT r)):=Fi kX fun r h hw hR=>by
  unfold DS at h
  have:HJ 14 fun (w1:List Attr)=>[(5,.xo 4 (List.map IT w1))]:=⟨⟩
  exact au
theorem ig:∀ n:Nat,(∀ (t:Types) (a:Int),Ct prog (DS n t a) 210 [AU t,eI a] (fun r=>.xown 4 (List.map IT r))):=by
  intro n
  induction n with
  | zero=>exact (fun t a=>⟨fun _ h=>by cases h⟩)
  | succ n ih=>exact ii n ih
instance rz (t:Types) (a:Int):Ct prog (J2 t a) 210 [AU t,eI a] (fun r=>.xown 4 (List.map IT r)):=⟨fun r h=>by
  obtain ⟨N,hN⟩:=DK h
  exact ((ig N) t a).snd r (hN N (Nat.le_refl _))⟩
theorem lh:CK f267 (Rq [Ad 4 0] [0,1]<|Sq (Rq [Aa 6 0,Ah 7 6,Ad 8 0] [0,1,7,8]<|Bl 0<|Lo [0,1,7,8]<|Rq [Am 9 8 7] [0,1,7,8,9]<|Sq (Co 9 (Sk [0,1,7,8])<|Ex 0 [])<|Sq (Bl 1<|Rq [Aa 10 8,Aa 5 10] [0,1,5,7,8]<|Rq [Aa 11 1,Aa 12 0,Aa 13 5,Ai 14 12 13 4,Ae 15 14 4,Da 16 11 15] [0,1,5,7,8,16]<|Co 16 (Rq [Aa 17 5,Aa 4 17] [4]<|.ret)<|Sk [0,1,7,8])<|Re [Al 18 8 1,Aa 8 18] [0,1,7,8])<|Rq [Bt 4 (-1)] [4]<|.ret) [.tmp 4]:=by decide +kernel
instance sy (s_0:List Attr) (f:Attr->Option Bool) (f_f:FuncId) (k_f:List TV) [h_f:∀ (y0:Attr),Ct prog (f y0) f_f (IT y0::k_f) (fun r=>.sh (eB r))]:Ct prog (D8 s_0 f) 267 [lA s_0,.clo f_f k_f] (fun r=>.sh (eI r)):=Fi lh fun r h hw hR=>by
  unfold D8 at h
  have:HA 0 8 7 0 fun (i0:Int) (_:Unit)=>[(8,.tv (eI i0))]:=⟨⟩
  exact au
theorem lL:CK f246 (Rq [Aj 4] [0,1]<|Rq [Aa 5 0,Aa 6 1,Av 7 267 5 6,Bp 8 7 0,Aa 4 8] [4]<|.ret) [.tmp 4]:=by decide +kernel
instance sc (s_0:List Attr) (f:Attr->Option Bool) (f_f:FuncId) (k_f:List TV) [h_f:∀ (y0:Attr),Ct prog (f y0) f_f (IT y0::k_f) (fun r=>.sh (eB r))]:Ct prog (C9 s_0 f) 246 [lA s_0,.clo f_f k_f] (fun r=>.sh (eB r)):=Fi lL fun r h hw hR=>by
  unfold C9 at h
  exact au
theorem lM:CK f247 (Rq [Ag 2 0,Aj 3] [1,2]<|Rq [Ab 4 2 0,Ac 5 4,Ab 6 1 0,Ac 7 6,Dm 8 5 7,Aa 3 8] [3]<|.ret) [.tmp 3]:=by decide +kernel
instance sd (y:Attr) (c0:Attr):Ct prog (Iz y c0) 247 [IT y,.pt (IT c0).cells] (fun r=>.sh (eB r)):=Fi lM fun r h hw hR=>by
  unfold Iz at h
  exact au
theorem lO:CK f248 (Rq [Ad 2 0] [0]<|Sq (Rq [Aa 5 0,Ah 6 5,Bk 7 6 20] [0,7]<|Co 7 (Rq [Ad 2 3] [2]<|.ret)<|Sk [0])<|Sq (Rq [Aa 8 0,Ah 9 8,Ad 10 0] [0,8,9,10]<|Bl 0<|Lo [0,8,9,10]<|Rq [Am 11 10 9] [0,8,9,10,11]<|Sq (Co 11 (Sk [0,8,9,10])<|Ex 0 [])<|Sq (Bl 1<|Rq [Aa 12 10,Ai 13 8 10 1,Ac 14 13,Aa 3 12,Aa 4 14] [0,3,4,8,9,10]<|Bl 2<|Rq [Aa 16 4,Ba 17 207 16,Be 18 17,Aa 15 18] [0,3,4,8,9,10,15]<|Co 15 (Rq [Ad 2 2] [2]<|.ret)<|Rq [Aa 20 0,Aa 21 3,Du 22 1 20 21,Aa 23 4,Av 24 268 22 23,Aa 19 24] [0,8,9,10,19]<|Co 19 (Rq [Ad 2 5] [2]<|.ret)<|Sk [0,8,9,10])<|Re [Al 25 10 1,Aa 10 25] [0,8,9,10])<|Rq [Ad 2 0] [2]<|.ret) [.tmp 2]:=by decide +kernel
instance se (l:List ByteArray):Ct prog (H0 l) 248 [lB l] (fun r=>.sh (eI r)):=Fi lO fun r h hw hR=>by
  unfold H0 at h
  have:HA 0 10 9 0 fun (i0:Int) (_:Unit)=>[(10,.tv (eI i0))]:=⟨⟩
  exact au
theorem kY:CK f211 (Rq [Ag 2 0,Ad 4 0] [1,2]<|Sq (Bl 0<|Rq [Ab 8 2 0,Ac 9 8,Ba 10 207 9,Be 11 10,Aa 7 11] [1,2,7]<|Co 7 (Rq [Ad 4 2] [4]<|.ret)<|Rq [Aa 13 1,Db 14 247 2,Av 15 246 13 14,Aa 12 15] [2,12]<|Co 12 (Rq [Ad 4 5] [4]<|.ret)<|Sk [2])<|Sq (Rq [Ab 16 2 3,Ac 17 16,Ba 18 248 17,Aa 5 18] [2,5]<|Rq [Aa 19 5,Aw 20 19 0] [2,5,20]<|Co 20 (Rq [Aa 21 5,Aa 4 21] [4]<|.ret)<|Sk [2])<|Rq [Ab 22 2 1,Ac 23 22,⟨some 24,.bin (.i) .leq (.c (.int .i64 (-1000000))) (.s 23),none⟩,Aa 25 24,Ay 26 2 1 25,Az 27 26 25,Ay 28 2 2 25,Az 29 28 25,Et 30 27 29 25,Ap 31 25 30,Aa 32 31,Ay 33 2 2 32,Az 34 33 32,Cl 35 34 1000000 32,Ap 36 32 35,Aa 6 36] [2,6]<|Sq (Rq [Ab 37 2 3,Ac 38 37,Ah 39 38,Bk 40 39 0] [2,6,40]<|Co 40 (Re [Ab 41 2 1,Ac 42 41,Bc 43 42 0,Aa 44 43,Ay 45 2 2 44,Az 46 45 44,Ay 47 2 3 44,Az 48 47 44,Bv 49 48 44,Ge 50 49 1 44,Dg 51 46 50 44,Ap 52 44 51,Aa 6 52] [6])<|Sk [6])<|Sq (Rq [Aa 53 6,Be 54 53] [54]<|Co 54 (Rq [Ad 4 6] [4]<|.ret)<|Sk [])<|Rq [Ad 4 0] [4]<|.ret) [.tmp 4]:=by decide +kernel
instance r0 (x_0:Attr) (before:List Attr):Ct prog (E2 x_0 before) 211 [IT x_0,lA before] (fun r=>.sh (eI r)):=Fi kY fun r h hw hR=>by
  unfold E2 at h
  have:HJ 40 fun (w1:Bool)=>[(6,.tv (eB w1))]:=⟨⟩
  exact au
theorem jU:CK f145 (Rq [Ag 2 0,Ad 4 0] [1,2]<|Rq [Ab 9 2 0,Ac 10 9,Aa 11 1,Ai 12 10 11 4,Ae 13 12 4,Fk 5 0 4,Ak 4 5 13,Fm 5] [1,2,5]<|Sq (Bl 0<|Rq [Ab 15 5 0,Ac 16 15,Ba 17 207 16,Be 18 17,Aa 14 18] [1,2,5,14]<|Co 14 (Rq [Ad 4 2] [4]<|.ret)<|Rq [Ab 20 2 0,Ac 21 20,Aa 22 1,Du 23 4 21 22,Db 24 209 5,Av 25 208 23 24,Aa 19 25] [1,2,5,19]<|Co 19 (Rq [Ad 4 5] [4]<|.ret)<|Rq [Ab 27 5 1,Ac 28 27,Fo 29 28 (-1),Aa 30 29,Ar 31 5 1 30,Ao 32 31 30,Au 33 1 30,Bz 34 32 33 30,Aq 35 30 34,Aa 26 35] [1,2,5,26]<|Co 26 (Rq [Ad 4 6] [4]<|.ret)<|Rq [Ab 37 5 3,Ac 38 37,Ah 39 38,Bk 40 39 4,Aa 36 40] [1,2,5,36]<|Co 36 (Rq [Ad 4 3] [4]<|.ret)<|Sk [1,2,5])<|Rq [Ae 41 2 2,Aa 42 1,Av 43 210 41 42,Ax 6 43] [5,6]<|Sq (Rq [Aa 44 6,Ah 45 44,Bk 46 45 8] [5,6,46]<|Co 46 (Rq [Ad 4 3] [4]<|.ret)<|Sk [5,6])<|Sq (Rq [Aa 47 6,Ah 48 47,Ab 49 5 3,Ac 50 49,Ah 51 50,Dv 52 48 51,Aa 7 52] [6,7]<|Bl 1<|Lo [6,7]<|Sq (Rq [Aa 53 7,Aa 54 6,Ah 55 54,Am 56 53 55] [6,7,56]<|Co 56 (Sk [6,7])<|Ex 1 [])<|Sq (Bl 2<|Sq (Dr [8,59,60,61,62,63,64,65,66] [Aa 59 6,Aa 60 7,Ai 61 59 60 4,Ae 62 61 4,Aa 63 6,Aa 64 7,Du 65 4 63 64,Av 66 211 62 65,Aa 8 66] [6,7,8])<|Rq [Aa 67 8,Aw 68 67 0] [6,7,8,68]<|Co 68 (Rq [Aa 69 8,Aa 4 69] [4]<|.ret)<|Sk [6,7])<|Re [Aa 57 7,Al 58 57 1,Aa 7 58] [6,7])<|Rq [Ad 4 0] [4]<|.ret) [.tmp 4]:=by decide +kernel
instance qz (t:Types) (i_1:Int):Ct prog (Il t i_1) 145 [AU t,eI i_1] (fun r=>.sh (eI r)):=Fi jU fun r h hw hR=>by
  unfold Il at h
  have:HA 1 7 6 0 fun (i1:Int) (_:Unit)=>[(7,.tv (eI i1))]:=⟨⟩
  exact au
theorem kZ:CK f212 (Rq [Aj 3] [0,1]<|Rq [Aa 4 0,Bp 5 4 0,Aa 6 5,As 7 0 6,Ay 8 1 0 6,Az 9 8 6,Bv 10 9 6,Eu 11 7 10 6,Ap 12 6 11,Aa 3 12] [3]<|.ret) [.tmp 3]:=by decide +kernel
instance sA (n:Int) (c0:Types):Ct prog (KV n c0) 212 [eI n,.pt (AU c0).cells] (fun r=>.sh (eB r)):=Fi kZ fun r h hw hR=>by
  unfold KV at h
  exact au
theorem lP:CK f249 (Rq [Ad 4 0] [0,1]<|Sq (Rq [Aa 6 0,Ah 7 6,Ad 8 0] [0,1,7,8]<|Bl 0<|Lo [0,1,7,8]<|Rq [Am 9 8 7] [0,1,7,8,9]<|Sq (Co 9 (Sk [0,1,7,8])<|Ex 0 [])<|Sq (Bl 1<|Rq [Aa 10 8,Aa 5 10] [0,1,5,7,8]<|Rq [Aa 11 1,Aa 12 0,Aa 13 5,Ai 14 12 13 7,Ae 15 14 7,Da 16 11 15] [0,1,5,7,8,16]<|Co 16 (Rq [Aa 17 5,Aa 4 17] [4]<|.ret)<|Sk [0,1,7,8])<|Re [Al 18 8 1,Aa 8 18] [0,1,7,8])<|Rq [Bt 4 (-1)] [4]<|.ret) [.tmp 4]:=by decide +kernel
instance sf (s_0:List CJ) (f:CJ->Option Bool) (f_f:FuncId) (k_f:List TV) [h_f:∀ (y0:CJ),Ct prog (f y0) f_f (IU y0::k_f) (fun r=>.sh (eB r))]:Ct prog (DO s_0 f) 249 [lX s_0,.clo f_f k_f] (fun r=>.sh (eI r)):=Fi lP fun r h hw hR=>by
  unfold DO at h
  have:HA 0 8 7 0 fun (i0:Int) (_:Unit)=>[(8,.tv (eI i0))]:=⟨⟩
  exact au
theorem kc:CK f213 (Rq [Aj 4] [0,1]<|Rq [Aa 5 0,Aa 6 1,Av 7 249 5 6,Bp 8 7 0,Aa 4 8] [4]<|.ret) [.tmp 4]:=by decide +kernel
instance sB (s_0:List CJ) (f:CJ->Option Bool) (f_f:FuncId) (k_f:List TV) [h_f:∀ (y0:CJ),Ct prog (f y0) f_f (IU y0::k_f) (fun r=>.sh (eB r))]:Ct prog (CL s_0 f) 213 [lX s_0,.clo f_f k_f] (fun r=>.sh (eB r)):=Fi kc fun r h hw hR=>by
  unfold CL at h
  exact au
theorem ke:CK f214 (Rq [Ag 2 0,Aj 3] [1,2]<|Rq [Ab 4 2 0,Ac 5 4,Ab 6 1 0,Ac 7 6,Dm 8 5 7,Aa 3 8] [3]<|.ret) [.tmp 3]:=by decide +kernel
instance sC (y:CJ) (c0:CJ):Ct prog (MG y c0) 214 [IU y,.pt (IU c0).cells] (fun r=>.sh (eB r)):=Fi ke fun r h hw hR=>by
  unfold MG at h
  exact au
theorem kf:CK f215 (Rq [Aj 4] [0,1]<|Rq [Aa 5 0,Bp 6 5 0,Aa 7 6,As 8 0 7,Cl 9 8 40 7,Ap 10 7 9,Aa 11 10,As 12 1 11,Hb 13 12 (-1) 11,As 14 13 11,Au 15 1 14,Au 16 0 14,Bz 17 15 16 14,Au 18 17 14,As 19 1 18,Cl 20 19 40 18,Cf 21 18 20 14,Eg 22 14 21 11,Ap 23 11 22,Aa 4 23] [4]<|.ret) [.tmp 4]:=by decide +kernel
instance sE (low:Int) (high:Int):Ct prog (Jo low high) 215 [eI low,eI high] (fun r=>.sh (eB r)):=Fi kf fun r h hw hR=>by
  unfold Jo at h
  exact au
theorem jV:CK f146 (Rq [Ag 2 0,Ad 4 0] [1,2]<|Rq [Ab 7 2 1,Ac 8 7,Aa 9 1,Ai 10 8 9 7,Ae 11 10 7,Gf 5 0 0 0 0 0 0,Ak 7 5 11,Fm 5] [1,2,5]<|Rq [Db 12 212 2,Aa 6 12] [1,2,5,6]<|Sq (Bl 0<|Rq [Ab 14 5 0,Ac 15 14,Ba 16 207 15,Be 17 16,Aa 13 17] [1,2,5,6,13]<|Co 13 (Rq [Ad 4 2] [4]<|.ret)<|Rq [Ab 19 2 1,Ac 20 19,Aa 21 1,Du 22 7 20 21,Db 23 214 5,Av 24 213 22 23,Aa 18 24] [5,6,18]<|Co 18 (Rq [Ad 4 5] [4]<|.ret)<|Sq (Rq [Aa 26 6,Ab 27 5 1,Ac 28 27,Da 29 26 28,Be 30 29,Aa 31 30,Au 32 6 31,Ar 33 5 2 31,Ao 34 33 31,⟨some 35,.callv (.s 32) [.s 34],some (31,false)⟩,Bs 36 35 31,Aq 37 31 36,Aa 25 37] [5,25]<|Co 25 (Sk [25])<|Re [Ab 38 5 3,Ac 39 38,Ab 40 5 4,Ac 41 40,Av 42 215 39 41,Be 43 42,Aa 44 43,Ar 45 5 5 44,Ao 46 45 44,Ar 47 5 6 44,Ao 48 47 44,Dk 49 215 46 48 44,Bs 50 49 44,Aq 51 44 50,Aa 25 51] [25])<|Co 25 (Rq [Ad 4 6] [4]<|.ret)<|Sk [])<|Rq [Ad 4 0] [4]<|.ret) [.tmp 4]:=by decide +kernel
instance q0 (t:Types) (i_1:Int):Ct prog (Ik t i_1) 146 [AU t,eI i_1] (fun r=>.sh (eI r)):=Fi jV fun r h hw hR=>by
  unfold Ik at h
  have:HJ 25 fun (w1:Bool)=>[(25,.tv (eB w1))]:=⟨⟩
  exact au
theorem pO:CK f79 (Rq [Ag 1 0,Cz 2,Ad 3 0] [1]<|Sq (Bl 0<|Rq [Ab 11 1 0,Ac 12 11,Ah 13 12,Bc 14 13 0,Aa 10 14] [1,10]<|Co 10 (Rq [Cz 2,Ad 3 7] [2,3]<|.ret)<|Rq [Ab 16 1 0,Ac 17 16,Ah 18 17,Bk 19 18 12,Aa 20 19,Ar 21 1 1 20,Ao 22 21 20,Bi 23 22 20,Cd 24 23 20 20,Aq 25 20 24,Aa 15 25] [1,15]<|Co 15 (Rq [Cz 2,Ad 3 3] [2,3]<|.ret)<|Sk [1])<|Sq (Rq [Ab 26 1 0,Ac 27 26,Ah 28 27,Ad 29 0] [1,27,28,29]<|Bl 1<|Lo [1,27,28,29]<|Rq [Am 30 29 28] [1,27,28,29,30]<|Sq (Co 30 (Sk [1,27,28,29])<|Ex 1 [1])<|Sq (Bl 2<|Rq [Aa 31 29,Ai 32 27 29 4,Ae 33 32 4,Fk 5 0 4,Aa 4 31,Ak 4 5 33] [1,4,5,27,28,29]<|Rq [Ae 34 1 2,Aa 35 4,Av 36 145 34 35,Aa 6 36] [1,5,6,27,28,29]<|Rq [Aa 37 6,Aw 38 37 0] [1,5,6,27,28,29,38]<|Co 38 (Rq [Ab 39 5 0,Ac 40 39,Aa 41 6,Aa 2 40,Aa 3 41] [2,3]<|.ret)<|Sk [1,27,28,29])<|Re [Al 42 29 1,Aa 29 42] [1,27,28,29])<|Sq (Rq [Ab 43 1 1,Ac 44 43,Ah 45 44,Ad 46 0] [1,44,45,46]<|Bl 3<|Lo [1,44,45,46]<|Rq [Am 47 46 45] [1,44,45,46,47]<|Sq (Co 47 (Sk [1,44,45,46])<|Ex 3 [])<|Sq (Bl 4<|Rq [Aa 48 46,Ai 49 44 46 7,Ae 50 49 7,Gf 8 0 0 0 0 0 0,Aa 7 48,Ak 7 8 50] [1,7,8,44,45,46]<|Rq [Ae 51 1 2,Aa 52 7,Av 53 146 51 52,Aa 9 53] [1,8,9,44,45,46]<|Rq [Aa 54 9,Aw 55 54 0] [1,8,9,44,45,46,55]<|Co 55 (Rq [Ab 56 8 0,Ac 57 56,Aa 58 9,Aa 2 57,Aa 3 58] [2,3]<|.ret)<|Sk [1,44,45,46])<|Re [Al 59 46 1,Aa 46 59] [1,44,45,46])<|Rq [Cz 2,Ad 3 0] [2,3]<|.ret) [.tmp 2,.tmp 3]:=by decide +kernel
instance uZ (t:Types):Ct prog (E7 t) 79 [AU t] (fun r=>.tp [eS r.1,eI r.2]):=Fi pO fun r h hw hR=>by
  unfold E7 at h
  have:HA 1 29 28 0 fun (i1:Int) (_:Unit)=>[(29,.tv (eI i1))]:=⟨⟩
  have:HA 3 46 45 0 fun (i3:Int) (_:Unit)=>[(46,.tv (eI i3))]:=⟨⟩
  exact au
theorem ja:CK f151 (Rq [Ad 4 0] [0,1]<|Sq (Rq [Aa 6 0,Ah 7 6,Ad 8 0] [0,1,7,8]<|Bl 0<|Lo [0,1,7,8]<|Rq [Am 9 8 7] [0,1,7,8,9]<|Sq (Co 9 (Sk [0,1,7,8])<|Ex 0 [])<|Sq (Bl 1<|Rq [Aa 10 8,Aa 5 10] [0,1,5,7,8]<|Rq [Aa 11 1,Aa 12 0,Aa 13 5,Ai 14 12 13 1,Ac 15 14,Da 16 11 15] [0,1,5,7,8,16]<|Co 16 (Rq [Aa 17 5,Aa 4 17] [4]<|.ret)<|Sk [0,1,7,8])<|Re [Al 18 8 1,Aa 8 18] [0,1,7,8])<|Rq [Bt 4 (-1)] [4]<|.ret) [.tmp 4]:=by decide +kernel
instance q9 (s_0:List Int) (f:Int->Option Bool) (f_f:FuncId) (k_f:List TV) [h_f:∀ (y0:Int),Ct prog (f y0) f_f (eI y0::k_f) (fun r=>.sh (eB r))]:Ct prog (EN s_0 f) 151 [lI s_0,.clo f_f k_f] (fun r=>.sh (eI r)):=Fi ja fun r h hw hR=>by
  unfold EN at h
  have:HA 0 8 7 0 fun (i0:Int) (_:Unit)=>[(8,.tv (eI i0))]:=⟨⟩
  exact au
theorem pQ:CK f81 (Rq [Aj 4] [0,1]<|Rq [Aa 5 0,Aa 6 1,Av 7 151 5 6,Bp 8 7 0,Aa 4 8] [4]<|.ret) [.tmp 4]:=by decide +kernel
instance ub (s_0:List Int) (f:Int->Option Bool) (f_f:FuncId) (k_f:List TV) [h_f:∀ (y0:Int),Ct prog (f y0) f_f (eI y0::k_f) (fun r=>.sh (eB r))]:Ct prog (BJ s_0 f) 81 [lI s_0,.clo f_f k_f] (fun r=>.sh (eB r)):=Fi pQ fun r h hw hR=>by
  unfold BJ at h
  exact au
theorem jc:CK f152 (Rq [Ad 4 0] [0,1]<|Sq (Rq [Aa 6 0,Ah 7 6,Ad 8 0] [0,1,7,8]<|Bl 0<|Lo [0,1,7,8]<|Rq [Am 9 8 7] [0,1,7,8,9]<|Sq (Co 9 (Sk [0,1,7,8])<|Ex 0 [])<|Sq (Bl 1<|Rq [Aa 10 8,Aa 5 10] [0,1,5,7,8]<|Rq [Aa 11 1,Aa 12 0,Aa 13 5,Ai 14 12 13 3,Ae 15 14 3,Da 16 11 15] [0,1,5,7,8,16]<|Co 16 (Rq [Aa 17 5,Aa 4 17] [4]<|.ret)<|Sk [0,1,7,8])<|Re [Al 18 8 1,Aa 8 18] [0,1,7,8])<|Rq [Bt 4 (-1)] [4]<|.ret) [.tmp 4]:=by decide +kernel
instance rA (s_0:List B6) (f:B6->Option Bool) (f_f:FuncId) (k_f:List TV) [h_f:∀ (y0:B6),Ct prog (f y0) f_f (EB y0::k_f) (fun r=>.sh (eB r))]:Ct prog (D9 s_0 f) 152 [lE s_0,.clo f_f k_f] (fun r=>.sh (eI r)):=Fi jc fun r h hw hR=>by
  unfold D9 at h
  have:HA 0 8 7 0 fun (i0:Int) (_:Unit)=>[(8,.tv (eI i0))]:=⟨⟩
  exact au
theorem pS:CK f83 (Rq [Aj 4] [0,1]<|Rq [Aa 5 0,Aa 6 1,Av 7 152 5 6,Bp 8 7 0,Aa 4 8] [4]<|.ret) [.tmp 4]:=by decide +kernel
instance ud (s_0:List B6) (f:B6->Option Bool) (f_f:FuncId) (k_f:List TV) [h_f:∀ (y0:B6),Ct prog (f y0) f_f (EB y0::k_f) (fun r=>.sh (eB r))]:Ct prog (BU s_0 f) 83 [lE s_0,.clo f_f k_f] (fun r=>.sh (eB r)):=Fi pS fun r h hw hR=>by
  unfold BU at h
  exact au
theorem jX:CK f148 (Rq [Aj 4] [0,1]<|Rq [Aa 5 0,Bp 6 5 0,Aa 7 6,As 8 0 7,As 9 1 7,Et 10 8 9 7,Ap 11 7 10,Aa 4 11] [4]<|.ret) [.tmp 4]:=by decide +kernel
instance q6 (n:Int) (most:Int):Ct prog (H8 n most) 148 [eI n,eI most] (fun r=>.sh (eB r)):=Fi jX fun r h hw hR=>by
  unfold H8 at h
  exact au
theorem jW:CK f147 (Rq [Aj 2] [0]<|Rq [Aa 3 0,Ew 4 148 3 99,Be 5 4,Aa 2 5] [2]<|.ret) [.tmp 2]:=by decide +kernel
instance q5 (t:Int):Ct prog (LC t) 147 [eI t] (fun r=>.sh (eB r)):=Fi jW fun r h hw hR=>by
  unfold LC at h
  exact au
theorem jZ:CK f150 (Rq [Ag 2 0,Aj 4] [1,2]<|Rq [Ab 5 2 0,Ac 6 5,Ew 7 148 6 99,Aa 8 7,Ay 9 2 1 8,Az 10 9 8,As 11 1 8,Ge 12 11 1 8,Dt 13 148 10 12 8,Ap 14 8 13,Aa 15 14,Ay 16 2 2 15,Az 17 16 15,As 18 1 15,Ge 19 18 1 15,Dt 20 148 17 19 15,Ap 21 15 20,Aa 4 21] [4]<|.ret) [.tmp 4]:=by decide +kernel
instance q8 (e:B6) (nodes:Int):Ct prog (Lr e nodes) 150 [EB e,eI nodes] (fun r=>.sh (eB r)):=Fi jZ fun r h hw hR=>by
  unfold Lr at h
  exact au
theorem jY:CK f149 (Rq [Ag 2 0,Aj 3] [1,2]<|Rq [Ae 4 2 3,Ab 5 1 0,Ac 6 5,Ah 7 6,Av 8 150 4 7,Be 9 8,Aa 3 9] [3]<|.ret) [.tmp 3]:=by decide +kernel
instance q7 (e:B6) (c0:Graph):Ct prog (LD e c0) 149 [EB e,.pt (B3 c0).cells] (fun r=>.sh (eB r)):=Fi jY fun r h hw hR=>by
  unfold LD at h
  exact au
theorem pP:CK f80 (Rq [Ag 1 0,Ad 2 0] [1]<|Sq (Rq [Ab 3 1 0,Ac 4 3,Ah 5 4,Bk 6 5 40,Aa 7 6,Ar 8 1 1 7,Ao 9 8 7,Bi 10 9 7,Cd 11 10 80 7,Aq 12 7 11] [1,12]<|Co 12 (Rq [Ad 2 3] [2]<|.ret)<|Sk [1])<|Sq (Rq [Ab 13 1 0,Ac 14 13,Fh 15 81 14 147] [1,15]<|Co 15 (Rq [Ad 2 6] [2]<|.ret)<|Sk [1])<|Sq (Rq [Ab 16 1 1,Ac 17 16,Db 18 149 1,Av 19 83 17 18] [19]<|Co 19 (Rq [Ad 2 6] [2]<|.ret)<|Sk [])<|Rq [Ad 2 0] [2]<|.ret) [.tmp 2]:=by decide +kernel
instance ua (g:Graph):Ct prog (DZ g) 80 [B3 g] (fun r=>.sh (eI r)):=Fi pP fun r h hw hR=>by
  unfold DZ at h
  exact au
theorem pR:CK f82 (Rq [Aj 3] [0,1]<|Rq [Aa 4 0,Ab 5 1 0,Ac 6 5,Ah 7 6,Cu 8 4 7,Aa 3 8] [3]<|.ret) [.tmp 3]:=by decide +kernel
instance uc (n:Int) (c0:Types):Ct prog (HV n c0) 82 [eI n,.pt (AU c0).cells] (fun r=>.sh (eB r)):=Fi pR fun r h hw hR=>by
  unfold HV at h
  exact au
theorem pT:CK f84 (Rq [Ag 2 0,Aj 3] [1,2]<|Rq [Ab 4 2 0,Ac 5 4,Ab 6 1 1,Ac 7 6,Ah 8 7,Cu 9 5 8,Aa 3 9] [3]<|.ret) [.tmp 3]:=by decide +kernel
instance ue (x_0:B6) (c0:Types):Ct prog (HY x_0 c0) 84 [EB x_0,.pt (AU c0).cells] (fun r=>.sh (eB r)):=Fi pT fun r h hw hR=>by
  unfold HY at h
  exact au
theorem pU:CK f85 (Rq [Aj 6] [0,1,2]<|Rq [Aa 7 0,Aa 8 1,Cu 9 7 8,Aa 10 9,As 11 0 10,As 12 2 10,Et 13 11 12 10,Ap 14 10 13,Aa 6 14] [6]<|.ret) [.tmp 6]:=by decide +kernel
instance uf (n:Int) (low:Int) (high:Int):Ct prog (C7 n low high) 85 [eI n,eI low,eI high] (fun r=>.sh (eB r)):=Fi pU fun r h hw hR=>by
  unfold C7 at h
  exact au
theorem lQ:CK f250 (Rq [Aj 3] [0,1]<|Rq [Aa 4 0,Ce 5 4 0,Aa 6 5,Au 7 0 6,Ar 8 1 0 6,Ao 9 8 6,Bi 10 9 6,Bz 11 7 10 6,Aq 12 6 11,Aa 3 12] [3]<|.ret) [.tmp 3]:=by decide +kernel
instance sg (a:Int) (c0:Types):Ct prog (LG a c0) 250 [eI a,.pt (AU c0).cells] (fun r=>.sh (eB r)):=Fi lQ fun r h hw hR=>by
  unfold LG at h
  exact au
theorem kh:CK f216 (Rq [Ag 2 0,Ad 4 0] [1,2]<|Sq (Rq [Ae 8 2 2,Ba 9 79 8,Aa 7 9,An 10 7 0,An 11 7 1,Aa 5 10,Aa 6 11] [1,2,6]<|Rq [Aa 12 6,Aw 13 12 0] [1,2,6,13]<|Co 13 (Rq [Aa 14 6,Aa 4 14] [4]<|.ret)<|Sk [1,2])<|Sq (Rq [Aa 15 1,Db 16 250 2,Av 17 81 15 16] [17]<|Co 17 (Rq [Ad 4 6] [4]<|.ret)<|Sk [])<|Rq [Ad 4 0] [4]<|.ret) [.tmp 4]:=by decide +kernel
instance sF (t:Types) (l:List Int):Ct prog (FX t l) 216 [AU t,lI l] (fun r=>.sh (eI r)):=Fi kh fun r h hw hR=>by
  unfold FX at h
  exact au
theorem ki:CK f217 (Rq [Bb 2 1] [0]<|Sq (Rq [Aa 3 0,⟨some 4,.isn (.s 3),none⟩] [0,4]<|Co 4 (Rq [Bb 2 1] [2]<|.ret)<|Sk [0])<|Rq [Dc 5 1,Aa 6 0,Bj 7 1 5 6,Ax 2 7] [2]<|.ret) [.tmp 2]:=by decide +kernel
instance sG (s_0:List ByteArray):Ct prog (slices_Clone_string s_0) 217 [lB s_0] (fun r=>.own (lB r)):=Fi ki fun r h hw hR=>by
  unfold slices_Clone_string at h
  exact au
theorem je:CK f153 (Rq [Ag 2 0,Bb 4 4,Ad 5 0] [1,2]<|Sq (Rq [Ae 9 2 2,Aa 10 1,Bh 11 1 10,Av 12 216 9 11,Aa 6 12] [1,2,6]<|Rq [Aa 13 6,Aw 14 13 0] [1,2,6,14]<|Co 14 (Rq [Aa 15 6,Bb 4 4,Aa 5 15] [4,5]<|.ret)<|Sk [1,2])<|Rq [Ae 16 2 2,Aa 17 1,Gd 18 210 16 17,Ci 7 18] [7]<|Sq (Rq [Bu 19 7,Dn 20 19,Ad 21 0] [7,20,21]<|Bl 0<|Lo [7,20,21]<|Rq [Am 22 21 20] [7,20,21,22]<|Sq (Co 22 (Sk [7,20,21])<|Ex 0 [7])<|Sq (Bl 1<|Rq [Aa 23 21,Aa 8 23] [7,8,20,21]<|Re [Bu 24 7,Aa 25 8,Bu 26 7,Aa 27 8,Cj 28 26 27 4,⟨some 29,.xfa (.s 28) 3,none⟩,⟨some 30,.xld (.s 29),none⟩,Ba 31 217 30,Cj 32 24 25 4,⟨some 33,.xfa (.s 32) 3,none⟩,Dw 33 31] [7,20,21])<|Re [Al 34 21 1,Aa 21 34] [7,20,21])<|Rq [Dx 35 7,Ax 4 35,Ad 5 0] [4,5]<|.ret) [.tmp 4,.tmp 5]:=by decide +kernel
instance rB (t:Types) (a:Int):Ct prog (G4 t a) 153 [AU t,eI a] (fun r=>.tp [lA r.1,eI r.2]):=Fi je fun r h hw hR=>by
  unfold G4 at h
  have:HA 0 21 20 0 fun (i0:Int) (s0:List Attr)=>[(7,.xo 4 (List.map IT s0)),(21,.tv (eI i0))]:=⟨⟩
  have:HS 31:=⟨⟩
  have:HX 33 fun (a:Attr) (v:List ByteArray)=>Attr.mk a.Name a.Low a.High v:=⟨⟩
  exact au
theorem pV:CK f86 (Rq [Ag 3 0,Ag 4 1,Ag 5 2,Dy 6 0 0 1,Aj 7] [3,4,5,6]<|Sq (Rq [Ab 10 5 0,Ac 11 10,Ab 12 4 0,Af 13 12 0,Ac 14 13,Ah 15 14,Bw 16 15 1,Fp 17 85 11 0 16,Be 18 17] [3,4,5,6,18]<|Co 18 (Rq [Fq 19 0 0 1,Ak 4 6 19,Aj 7] [6,7]<|.ret)<|Sk [3,4,5,6])<|Sq (Dr [8,9,20,21,22,23,24,25,26,27,28,29,30,31] [Ae 21 3 2,Ab 22 4 0,Af 23 22 0,Ac 24 23,Ab 25 5 0,Ac 26 25,Ai 27 24 26 1,Ac 28 27,Av 29 153 21 28,Aa 20 29,An 30 20 0,An 31 20 1,Ax 8 30,Aa 9 31] [5,6,8])<|Sq (Rq [Ab 32 5 1,Ac 33 32,Aa 34 8,Ah 35 34,Bw 36 35 1,Fp 37 85 33 0 36,Be 38 37] [5,6,8,38]<|Co 38 (Rq [Fq 39 0 0 1,Ak 4 6 39,Aj 7] [6,7]<|.ret)<|Sk [5,6,8])<|Rq [Aa 40 8,Ab 41 5 1,Ac 42 41,Ai 43 40 42 4,Ae 44 43 4,Ak 4 6 44,Bx 7] [6,7]<|.ret) [.cell 6 (some 4),.tmp 7]:=by decide +kernel
instance ug (t:Types) (p:Pattern) (s_2:CS):Ct prog (FI t p s_2) 86 [AU t,BA p,Mf s_2] (fun r=>.tp [IT r.1,eB r.2]):=Fi pV fun r h hw hR=>by
  unfold FI at h
  exact au
theorem kj:CK f218 (Rq [Ag 3 1,Aj 4] [0,3]<|Rq [Ab 5 3 0,Ac 6 5,⟨some 7,.bin (.i) .geq (.s 6) (.c (.int .i64 (-1))),none⟩,Aa 8 7,Ay 9 3 0 8,Az 10 9 8,As 11 0 8,Eu 12 10 11 8,Ap 13 8 12,Aa 14 13,Ay 15 3 1 14,Az 16 15 14,⟨some 17,.bin (.i) .geq (.s 16) (.c (.int .i64 (-1000000))),some (14,true)⟩,Ap 18 14 17,Aa 19 18,Ay 20 3 1 19,Az 21 20 19,Cl 22 21 1000000 19,Ap 23 19 22,Aa 4 23] [4]<|.ret) [.tmp 4]:=by decide +kernel
instance sH (n:Int) (t:Term):Ct prog (IS n t) 218 [eI n,Pa t] (fun r=>.sh (eB r)):=Fi kj fun r h hw hR=>by
  unfold IS at h
  exact au
theorem jf:CK f154 (Rq [Ag 3 1,Ad 4 0] [0,3]<|Sq (Bl 0<|Rq [Ab 6 3 0,Ac 7 6,Aw 8 7 1,Aa 9 8,Ay 10 3 0 9,Az 11 10 9,Gg 12 11 2 9,Ap 13 9 12,Aa 5 13] [0,3,5]<|Co 5 (Rq [Ad 4 1] [4]<|.ret)<|Rq [Aa 15 0,Ab 16 3 1,Ae 17 16 2,Av 18 218 15 17,Be 19 18,Aa 20 19,Au 21 0 20,Ar 22 3 3 20,Cm 23 22 2 20,Dk 24 218 21 23 20,Bs 25 24 20,Aq 26 20 25,Aa 14 26] [14]<|Co 14 (Rq [Ad 4 6] [4]<|.ret)<|Sk [])<|Rq [Ad 4 0] [4]<|.ret) [.tmp 4]:=by decide +kernel
instance rC (n:Int) (x_1:Test):Ct prog (I3 n x_1) 154 [eI n,Ln x_1] (fun r=>.sh (eI r)):=Fi jf fun r h hw hR=>by
  unfold I3 at h
  exact au
theorem pW:CK f87 (Rq [Ad 4 0] [0,1]<|Sq (Rq [Aa 8 0,Ce 9 8 0,Aa 10 9,Au 11 0 10,Cd 12 11 12 10,Aq 13 10 12] [0,1,13]<|Co 13 (Rq [Ad 4 6] [4]<|.ret)<|Sk [0,1])<|Sq (Rq [Aa 14 1,Ah 15 14,Bk 16 15 40] [0,1,16]<|Co 16 (Rq [Ad 4 3] [4]<|.ret)<|Sk [0,1])<|Sq (Rq [Aa 17 1,Ah 18 17,Ad 19 0] [0,17,18,19]<|Bl 0<|Lo [0,17,18,19]<|Rq [Am 20 19 18] [0,17,18,19,20]<|Sq (Co 20 (Sk [0,17,18,19])<|Ex 0 [])<|Sq (Bl 1<|Rq [Ai 21 17 19 5,Ae 22 21 5,Fr 6 0 0 0 0 0,Ak 5 6 22] [0,6,17,18,19]<|Rq [Aa 23 0,Ae 24 6 5,Av 25 154 23 24,Aa 7 25] [0,7,17,18,19]<|Rq [Aa 26 7,Aw 27 26 0] [0,7,17,18,19,27]<|Co 27 (Rq [Aa 28 7,Aa 4 28] [4]<|.ret)<|Sk [0,17,18,19])<|Re [Al 29 19 1,Aa 19 29] [0,17,18,19])<|Rq [Ad 4 0] [4]<|.ret) [.tmp 4]:=by decide +kernel
instance uh (n:Int) (l:List Test):Ct prog (H6 n l) 87 [eI n,lT l] (fun r=>.sh (eI r)):=Fi pW fun r h hw hR=>by
  unfold H6 at h
  have:HA 0 19 18 0 fun (i0:Int) (_:Unit)=>[(19,.tv (eI i0))]:=⟨⟩
  exact au
theorem jg:CK f155 (Rq [Ad 4 0] [0,1]<|Sq (Rq [Aa 6 0,Ah 7 6,Ad 8 0] [0,1,7,8]<|Bl 0<|Lo [0,1,7,8]<|Rq [Am 9 8 7] [0,1,7,8,9]<|Sq (Co 9 (Sk [0,1,7,8])<|Ex 0 [])<|Sq (Bl 1<|Rq [Aa 10 8,Aa 5 10] [0,1,5,7,8]<|Rq [Aa 11 1,Aa 12 0,Aa 13 5,Ai 14 12 13 1,Ac 15 14,⟨some 16,.bin (.b) .eql (.s 11) (.s 15),none⟩] [0,1,5,7,8,16]<|Co 16 (Rq [Aa 17 5,Aa 4 17] [4]<|.ret)<|Sk [0,1,7,8])<|Re [Al 18 8 1,Aa 8 18] [0,1,7,8])<|Rq [Bt 4 (-1)] [4]<|.ret) [.tmp 4]:=by decide +kernel
instance rD (s_0:List Bool) (v_1:Bool):Ct prog (Iy s_0 v_1) 155 [(eL 1 eB) s_0,eB v_1] (fun r=>.sh (eI r)):=Fi jg fun r h hw hR=>by
  unfold Iy at h
  have:HA 0 8 7 0 fun (i0:Int) (_:Unit)=>[(8,.tv (eI i0))]:=⟨⟩
  exact au
theorem pX:CK f88 (Rq [Aj 4] [0,1]<|Rq [Aa 5 0,Aa 6 1,Av 7 155 5 6,Bp 8 7 0,Aa 4 8] [4]<|.ret) [.tmp 4]:=by decide +kernel
instance ui (s_0:List Bool) (v_1:Bool):Ct prog (GB s_0 v_1) 88 [(eL 1 eB) s_0,eB v_1] (fun r=>.sh (eB r)):=Fi pX fun r h hw hR=>by
  unfold GB at h
  exact au
theorem ov:CK f39 (Rq [Ag 2 0,Ag 3 1,Ad 4 0] [2,3]<|Sq (Rq [Ae 15 2 2,Ba 16 79 15,Aa 14 16,An 17 14 0,An 18 14 1,Aa 5 17,Aa 6 18] [2,3,6]<|Rq [Aa 19 6,Aw 20 19 0] [2,3,6,20]<|Co 20 (Rq [Aa 21 6,Aa 4 21] [4]<|.ret)<|Sk [2,3])<|Sq (Rq [Ab 22 3 0,Ae 23 22 2,Ba 24 80 23,Aa 7 24] [2,3,7]<|Rq [Aa 25 7,Aw 26 25 0] [2,3,7,26]<|Co 26 (Rq [Aa 27 7,Aa 4 27] [4]<|.ret)<|Sk [2,3])<|Sq (Rq [Ab 28 3 0,Af 29 28 0,Ac 30 29,Db 31 82 2,Av 32 81 30 31,Aa 33 32,Ar 34 3 0 33,Bn 35 34 1 33,Ao 36 35 33,⟨some 37,.clo 84 [.s 2],some (33,false)⟩,Dk 38 83 36 37 33,Aq 39 33 38] [2,3,39]<|Co 39 (Rq [Ad 4 13] [4]<|.ret)<|Sk [2,3])<|Sq (Rq [Ab 40 3 3,Ac 41 40,Hc 42 85 41 0 12,Be 43 42] [2,3,43]<|Co 43 (Rq [Ad 4 6] [4]<|.ret)<|Sk [2,3])<|Sq (Rq [Ab 44 3 2,Ac 45 44,Ah 46 45,Bk 47 46 10,Aa 48 47,Ar 49 3 4 48,Ao 50 49 48,Bi 51 50 48,Cd 52 51 10 48,Aq 53 48 52] [2,3,53]<|Co 53 (Rq [Ad 4 3] [4]<|.ret)<|Sk [2,3])<|Rq [Ab 54 3 3,Ac 55 54,Ey 56 1 55,Ci 8 56] [2,3,8]<|Sq (Rq [Ab 57 3 2,Ac 58 57,Ah 59 58,Ad 60 0] [2,3,8,58,59,60]<|Bl 0<|Lo [2,3,8,58,59,60]<|Rq [Am 61 60 59] [2,3,8,58,59,60,61]<|Sq (Co 61 (Sk [2,3,8,58,59,60])<|Ex 0 [3,8])<|Sq (Bl 1<|Rq [Ai 62 58 60 4,Ae 63 62 4,Dz 10 0 0 0 0,Ak 4 10 63] [2,3,8,10,58,59,60]<|Sq (Rq [Ae 65 2 2,Ae 66 3 5,Ae 67 10 4,Bf 68 86 65 66 67,Aa 64 68,An 69 64 0,An 70 64 1,Dy 11 0 0 1,Ak 4 11 69,Aa 12 70] [2,3,8,10,12,58,59,60]<|Rq [Aa 71 12,Be 72 71,Aa 73 72,Ar 74 10 2 73,Bn 75 74 0 73,Ao 76 75 73,Ar 77 3 3 73,Ao 78 77 73,Fs 79 78 1 73,⟨some 80,.call 85 [.s 76,.c (.int .i64 (-1)),.s 79],some (73,false)⟩,Bs 81 80 73,Aq 82 73 81,Aa 83 82,Ar 84 10 2 83,Bn 85 84 1 83,Ao 86 85 83,⟨some 87,.call 85 [.s 86,.c (.int .i64 (-1000000)),.c (.int .i64 1000000)],some (83,false)⟩,Bs 88 87 83,Aq 89 83 88] [2,3,8,10,58,59,60,89]<|Co 89 (Rq [Ad 4 6] [4]<|.ret)<|Sk [2,3,8,10,58,59,60])<|Rq [Ab 90 10 2,Af 91 90 0,Ac 92 91,Bp 93 92 0] [2,3,8,10,58,59,60,93]<|Co 93 (Re [Bu 94 8,Ab 95 10 2,Af 96 95 0,Ac 97 96,Cj 98 94 97 1,Eh 98] [2,3,8,58,59,60])<|Sk [2,3,8,58,59,60])<|Re [Al 99 60 1,Aa 60 99] [2,3,8,58,59,60])<|Sq (Rq [Ab 100 3 3,Ac 101 100,Ab 102 3 4,Ac 103 102,Av 104 87 101 103,Aa 13 104] [8,13]<|Rq [Aa 105 13,Aw 106 105 0] [8,13,106]<|Co 106 (Rq [Aa 107 13,Aa 4 107] [4]<|.ret)<|Sk [8])<|Sq (Rq [Bu 108 8,⟨some 109,.calll 88 [.s 108,.c (.bool false)],none⟩] [109]<|Co 109 (Rq [Ad 4 9] [4]<|.ret)<|Sk [])<|Rq [Ad 4 0] [4]<|.ret) [.tmp 4]:=by decide +kernel
instance t7 (t:Types) (p:Pattern):Ct prog (DT t p) 39 [AU t,BA p] (fun r=>.sh (eI r)):=Fi ov fun r h hw hR=>by
  unfold DT at h
  have:HA 0 60 59 0 fun (i0:Int) (s0:List Bool)=>[(8,.xo 1 (List.map eB s0)),(60,.tv (eI i0))]:=⟨⟩
  exact au
theorem jh:CK f156 (Rq [Ag 1 0,Aj 2] [1]<|Rq [Ab 4 1 4,Ae 5 4 5,Dd 3 1 3 4 0 5,Ak 5 3 5] [1,3]<|Rq [Ab 6 1 2,Af 7 6 0,Ac 8 7,Ah 9 8,Ab 10 1 2,Af 11 10 1,Ac 12 11,Ah 13 12,Bo 14 9 13,Ab 15 3 0,Af 16 15 0,Ac 17 16,Ah 18 17,Bo 19 14 18,Ab 20 3 0,Af 21 20 1,Ac 22 21,Ah 23 22,Bo 24 19 23,Ab 25 3 2,Ac 26 25,Ah 27 26,Bo 28 24 27,Ab 29 3 4,Ac 30 29,Ah 31 30,Bo 32 28 31,Bc 33 32 0,Aa 34 33,Ay 35 3 3 34,Az 36 35 34,Cv 37 36 0 34,Ap 38 34 37,Aa 2 38] [2]<|.ret) [.tmp 2]:=by decide +kernel
instance rE (c:AA):Ct prog (FJ c) 156 [AJ c] (fun r=>.sh (eB r)):=Fi jh fun r h hw hR=>by
  unfold FJ at h
  exact au
theorem km:CK f219 (Rq [Ad 4 0] [0,1]<|Sq (Rq [Aa 6 0,Ah 7 6,Ad 8 0] [0,1,7,8]<|Bl 0<|Lo [0,1,7,8]<|Rq [Am 9 8 7] [0,1,7,8,9]<|Sq (Co 9 (Sk [0,1,7,8])<|Ex 0 [])<|Sq (Bl 1<|Rq [Aa 10 8,Aa 5 10] [0,1,5,7,8]<|Rq [Aa 11 1,Aa 12 0,Aa 13 5,Ai 14 12 13 9,Ae 15 14 9,Da 16 11 15] [0,1,5,7,8,16]<|Co 16 (Rq [Aa 17 5,Aa 4 17] [4]<|.ret)<|Sk [0,1,7,8])<|Re [Al 18 8 1,Aa 8 18] [0,1,7,8])<|Rq [Bt 4 (-1)] [4]<|.ret) [.tmp 4]:=by decide +kernel
instance sI (s_0:List AA) (f:AA->Option Bool) (f_f:FuncId) (k_f:List TV) [h_f:∀ (y0:AA),Ct prog (f y0) f_f (AJ y0::k_f) (fun r=>.sh (eB r))]:Ct prog (DE s_0 f) 219 [FR s_0,.clo f_f k_f] (fun r=>.sh (eI r)):=Fi km fun r h hw hR=>by
  unfold DE at h
  have:HA 0 8 7 0 fun (i0:Int) (_:Unit)=>[(8,.tv (eI i0))]:=⟨⟩
  exact au
theorem ji:CK f157 (Rq [Aj 4] [0,1]<|Rq [Aa 5 0,Aa 6 1,Av 7 219 5 6,Bp 8 7 0,Aa 4 8] [4]<|.ret) [.tmp 4]:=by decide +kernel
instance rF (s_0:List AA) (f:AA->Option Bool) (f_f:FuncId) (k_f:List TV) [h_f:∀ (y0:AA),Ct prog (f y0) f_f (AJ y0::k_f) (fun r=>.sh (eB r))]:Ct prog (BZ s_0 f) 157 [FR s_0,.clo f_f k_f] (fun r=>.sh (eB r)):=Fi ji fun r h hw hR=>by
  unfold BZ at h
  exact au
theorem pY:CK f89 (Rq [Ag 1 0,Aj 2] [1]<|Rq [Ab 5 1 1,Ac 6 5,Ah 7 6,Aa 3 7] [1,3]<|Rq [Aj 4] [1,3,4]<|Sq (Rq [Ab 8 1 0,Ac 9 8] [1,3,4,9]<|Bl 0<|Rq [Bc 11 9 1,Aa 10 11] [1,3,4,9,10]<|Co 10 (Re [Aa 12 3,Bc 13 12 0,Aa 14 13,Bg 15 1 9 14,Ca 16 156 15 14,Ap 17 14 16,Aa 4 17] [1,4])<|Rq [Bc 19 9 2,Aa 18 19] [1,3,4,9,18]<|Co 18 (Re [Aa 20 3,Bc 21 20 1,Aa 22 21,Bg 23 1 9 22,Ca 24 156 23 22,Ap 25 22 24,Aa 4 25] [1,4])<|Sq (Rq [Bc 27 9 3,Aa 26 27] [1,3,4,9,26]<|Co 26 (Sk [1,3,4,9,26])<|Re [Bc 28 9 4,Aa 26 28] [1,3,4,9,26])<|Co 26 (Re [Aa 29 3,Bp 30 29 1,Aa 31 30,Bg 32 1 9 31,Ca 33 156 32 31,Ap 34 31 33,Aa 4 34] [1,4])<|Rq [Bc 36 9 5,Aa 35 36] [1,3,4,35]<|Co 35 (Re [Aa 37 3,Bc 38 37 1,Aa 4 38] [1,4])<|Sk [1,4])<|Rq [Aa 39 4,Aa 40 39,Ay 41 1 1 40,Az 42 41 40,⟨some 43,.call 157 [.s 42,.c (.clo 158 [])],some (40,true)⟩,Ei 44 43 40,Ap 45 40 44,Aa 2 45] [2]<|.ret) [.tmp 2]:=by decide +kernel
theorem jk:CK f158 (Rq [Ag 1 0,Aj 2] [1]<|Rq [Ae 3 1 9,Ba 4 89 3,Be 5 4,Aa 2 5] [2]<|.ret) [.tmp 2]:=by decide +kernel
theorem oS (n:Nat) (_ih_89:∀ (c:AA),Ct prog (BM n c) 89 [AJ c] (fun r=>.sh (eB r))) (_ih_158:∀ (k:AA),Ct prog (BR n k) 158 [AJ k] (fun r=>.sh (eB r))) (c:AA):Ct prog (BM (n+1) c) 89 [AJ c] (fun r=>.sh (eB r)):=Fi pY fun r h hw hR=>by
  unfold BM at h
  have:HJ 10 fun (w1:Bool)=>[(4,.tv (eB w1))]:=⟨⟩
  exact au
theorem iU (n:Nat) (_ih_89:∀ (c:AA),Ct prog (BM n c) 89 [AJ c] (fun r=>.sh (eB r))) (_ih_158:∀ (k:AA),Ct prog (BR n k) 158 [AJ k] (fun r=>.sh (eB r))) (k:AA):Ct prog (BR (n+1) k) 158 [AJ k] (fun r=>.sh (eB r)):=Fi jk fun r h hw hR=>by
  unfold BR at h
  exact au
theorem en:∀ n:Nat,(∀ (c:AA),Ct prog (BM n c) 89 [AJ c] (fun r=>.sh (eB r)))∧(∀ (k:AA),Ct prog (BR n k) 158 [AJ k] (fun r=>.sh (eB r))):=by
  intro n
  induction n with
  | zero=>exact ⟨(fun c=>⟨fun _ h=>by cases h⟩),(fun k=>⟨fun _ h=>by cases h⟩)⟩
  | succ n ih=>exact ⟨oS n ih.1 ih.2,iU n ih.1 ih.2⟩
instance uj (c:AA):Ct prog (F4 c) 89 [AJ c] (fun r=>.sh (eB r)):=⟨fun r h=>by
  obtain ⟨N,hN⟩:=DK h
  exact ((en N).1 c).snd r (hN N (Nat.le_refl _))⟩
instance rG (k:AA):Ct prog (OW k) 158 [AJ k] (fun r=>.sh (eB r)):=⟨fun r h=>by
  obtain ⟨N,hN⟩:=DK h
  exact ((en N).2 k).snd r (hN N (Nat.le_refl _))⟩
theorem pZ:CK f90 (Rq [Ag 1 0,Ad 2 0,Ad 3 0] [1]<|Rq [Ad 4 1,Ad 5 0] [1,4,5]<|Sq (Rq [Ab 10 1 1,Ac 11 10,Ah 12 11,Ad 13 0] [1,4,5,11,12,13]<|Bl 0<|Lo [1,4,5,11,12,13]<|Rq [Am 14 13 12] [1,4,5,11,12,13,14]<|Sq (Co 14 (Sk [1,4,5,11,12,13])<|Ex 0 [1,4,5])<|Sq (Bl 1<|Rq [Ai 15 11 13 9,Ae 16 15 9,Cs 7 0 9 1 1 1 3 4 0 5,Ak 9 7 16] [1,4,5,7,11,12,13]<|Rq [Ae 18 7 9,Ba 19 90 18,Aa 17 19,An 20 17 0,An 21 17 1,Aa 8 20,Aa 9 21] [1,4,5,8,9,11,12,13]<|Re [Aa 22 4,Aa 23 8,Bo 24 22 23,Aa 25 5,Aa 26 9,Gh 27 25 26,Aa 4 24,Aa 5 27] [1,4,5,11,12,13])<|Re [Al 28 13 1,Aa 13 28] [1,4,5,11,12,13])<|Sq (Rq [Ab 29 1 0,Ac 30 29,Bc 31 30 5] [4,5,31]<|Co 31 (Re [Aa 32 5,Al 33 32 1,Aa 5 33] [4,5])<|Sk [4,5])<|Rq [Aa 34 4,Aa 35 5,Aa 2 34,Aa 3 35] [2,3]<|.ret) [.tmp 2,.tmp 3]:=by decide +kernel
theorem oU (n:Nat) (_ih_90:∀ (c:AA),Ct prog (CP n c) 90 [AJ c] (fun r=>.tp [eI r.1,eI r.2])) (c:AA):Ct prog (CP (n+1) c) 90 [AJ c] (fun r=>.tp [eI r.1,eI r.2]):=Fi pZ fun r h hw hR=>by
  unfold CP at h
  have:HA 0 13 12 0 fun (i0:Int) (s0:Int × Int)=>[(4,.tv (eI s0.1)),(5,.tv (eI s0.2)),(13,.tv (eI i0))]:=⟨⟩
  have:HJ 31 fun (w1:Int)=>[(5,.tv (eI w1))]:=⟨⟩
  exact au
theorem oT:∀ n:Nat,(∀ (c:AA),Ct prog (CP n c) 90 [AJ c] (fun r=>.tp [eI r.1,eI r.2])):=by
  intro n
  induction n with
  | zero=>exact (fun c=>⟨fun _ h=>by cases h⟩)
  | succ n ih=>exact oU n ih
instance uk (c:AA):Ct prog (HZ c) 90 [AJ c] (fun r=>.tp [eI r.1,eI r.2]):=⟨fun r h=>by
  obtain ⟨N,hN⟩:=DK h
  exact ((oT N) c).snd r (hN N (Nat.le_refl _))⟩
theorem ox:CK f40 (Rq [Ag 1 0,Ad 2 0] [1]<|Sq (Rq [Ae 5 1 9,Ba 6 89 5,Be 7 6] [1,7]<|Co 7 (Rq [Ad 2 1] [2]<|.ret)<|Sk [1])<|Sq (Rq [Ae 9 1 9,Ba 10 90 9,Aa 8 10,An 11 8 0,An 12 8 1,Aa 3 11,Aa 4 12] [3,4]<|Rq [Aa 13 3,Bk 14 13 12,Aa 15 14,Au 16 4 15,Cd 17 16 3 15,Aq 18 15 17] [18]<|Co 18 (Rq [Ad 2 3] [2]<|.ret)<|Sk [])<|Rq [Ad 2 0] [2]<|.ret) [.tmp 2]:=by decide +kernel
instance t8 (c:AA):Ct prog (EY c) 40 [AJ c] (fun r=>.sh (eI r)):=Fi ox fun r h hw hR=>by
  unfold EY at h
  exact au
theorem ko:CK f220 (Rq [Ad 4 0] [0,1]<|Sq (Rq [Aa 6 0,Ah 7 6,Ad 8 0] [0,1,7,8]<|Bl 0<|Lo [0,1,7,8]<|Rq [Am 9 8 7] [0,1,7,8,9]<|Sq (Co 9 (Sk [0,1,7,8])<|Ex 0 [])<|Sq (Bl 1<|Rq [Aa 10 8,Aa 5 10] [0,1,5,7,8]<|Rq [Aa 11 1,Aa 12 0,Aa 13 5,Ai 14 12 13 4,Ae 15 14 4,Da 16 11 15] [0,1,5,7,8,16]<|Co 16 (Rq [Aa 17 5,Aa 4 17] [4]<|.ret)<|Sk [0,1,7,8])<|Re [Al 18 8 1,Aa 8 18] [0,1,7,8])<|Rq [Bt 4 (-1)] [4]<|.ret) [.tmp 4]:=by decide +kernel
instance sJ (s_0:List CS) (f:CS->Option Bool) (f_f:FuncId) (k_f:List TV) [h_f:∀ (y0:CS),Ct prog (f y0) f_f (Mf y0::k_f) (fun r=>.sh (eB r))]:Ct prog (EA s_0 f) 220 [lS s_0,.clo f_f k_f] (fun r=>.sh (eI r)):=Fi ko fun r h hw hR=>by
  unfold EA at h
  have:HA 0 8 7 0 fun (i0:Int) (_:Unit)=>[(8,.tv (eI i0))]:=⟨⟩
  exact au
theorem jm:CK f159 (Rq [Aj 4] [0,1]<|Rq [Aa 5 0,Aa 6 1,Av 7 220 5 6,Bp 8 7 0,Aa 4 8] [4]<|.ret) [.tmp 4]:=by decide +kernel
instance rH (s_0:List CS) (f:CS->Option Bool) (f_f:FuncId) (k_f:List TV) [h_f:∀ (y0:CS),Ct prog (f y0) f_f (Mf y0::k_f) (fun r=>.sh (eB r))]:Ct prog (DA s_0 f) 159 [lS s_0,.clo f_f k_f] (fun r=>.sh (eB r)):=Fi jm fun r h hw hR=>by
  unfold DA at h
  exact au
theorem jn:CK f160 (Rq [Ag 2 0,Aj 3] [1,2]<|Rq [Ab 4 2 2,Af 5 4 0,Ac 6 5,Ac 7 1,Cy 8 6 7,Aa 3 8] [3]<|.ret) [.tmp 3]:=by decide +kernel
instance rI (s_0:CS) (c0:Int):Ct prog (IF s_0 c0) 160 [Mf s_0,.pt [eI c0]] (fun r=>.sh (eB r)):=Fi jn fun r h hw hR=>by
  unfold IF at h
  exact au
theorem pf:CK f91 (Rq [Ag 3 0,Ag 4 1,Ad 6 0] [2,3,4]<|Rq [Ae 9 3 2,Ae 10 4 5,Av 11 39 9 10,Aa 7 11] [2,4,7]<|Sq (Rq [Aa 12 7,Aw 13 12 9] [2,4,7,13]<|Co 13 (Rq [Aa 14 7,Aa 6 14] [6]<|.ret)<|Sk [2,4,7])<|Sq (Rq [Aa 15 2,⟨some 8,.alc [⟨false,.int .i64 0⟩],none⟩,Ak 1 8 15,Fm 8] [4,7,8]<|Bl 0<|Lo [4,7,8]<|Sq (Rq [Ac 16 8,Ab 17 4 3,Ac 18 17,Am 19 16 18] [4,7,8,19]<|Co 19 (Sk [4,7,8])<|Ex 0 [])<|Sq (Bl 1<|Rq [Ab 22 4 2,Ac 23 22,Db 24 160 8,Av 25 159 23 24,Be 26 25] [4,7,8,26]<|Co 26 (Rq [Aa 27 7,Aa 6 27] [6]<|.ret)<|Sk [4,7,8])<|Sq (Rq [Ac 28 8] [4,7,28]<|Re [⟨some 8,.alc [⟨false,.int .i64 0⟩],none⟩,Ak 1 8 28] [4,7,8])<|Re [Ac 20 8,Al 21 20 1,Ak 1 8 21,Fm 8] [4,7,8])<|Rq [Ad 6 0] [6]<|.ret) [.tmp 6]:=by decide +kernel
instance ul (t:Types) (q:Pattern) (outer:Int):Ct prog (D2 t q outer) 91 [AU t,BA q,eI outer] (fun r=>.sh (eI r)):=Fi pf fun r h hw hR=>by
  unfold D2 at h
  have:HW 0 fun (s0:Int)=>[(8,.tv (.pt [eI s0]))]:=⟨⟩
  exact au
theorem pi:CK f92 (Rq [Ag 3 0,Ag 4 1,Ag 5 2,Ad 6 0] [3,4,5]<|Sq (Rq [Ae 15 3 2,Ba 16 80 15,Aa 7 16] [3,4,5,7]<|Rq [Aa 17 7,Aw 18 17 0] [3,4,5,7,18]<|Co 18 (Rq [Aa 19 7,Aa 6 19] [6]<|.ret)<|Sk [3,4,5])<|Sq (Rq [Ae 20 4 2,Ba 21 80 20,Aa 8 21] [3,4,5,8]<|Rq [Aa 22 8,Aw 23 22 0] [3,4,5,8,23]<|Co 23 (Rq [Aa 24 8,Aa 6 24] [6]<|.ret)<|Sk [3,4,5])<|Sq (Rq [Ab 25 5 0,Ac 26 25,Ah 27 26,Ab 28 3 0,Ac 29 28,Ah 30 29,Br 31 27 30,Aa 32 31,Ar 33 5 1 32,Ao 34 33 32,Bi 35 34 32,Ar 36 3 1 32,Ao 37 36 32,Bi 38 37 32,Cp 39 35 38 32,Aq 40 32 39] [3,4,5,40]<|Co 40 (Rq [Ad 6 20] [6]<|.ret)<|Sk [3,4,5])<|Sq (Rq [Ab 41 5 0,Ac 42 41,Ah 43 42,Ad 44 0] [3,4,5,42,43,44]<|Bl 0<|Lo [3,4,5,42,43,44]<|Rq [Am 45 44 43] [3,4,5,42,43,44,45]<|Sq (Co 45 (Sk [3,4,5,42,43,44])<|Ex 0 [3,4,5])<|Sq (Bl 1<|Rq [Aa 46 44,Ai 47 42 44 1,Ac 48 47,Aa 9 46,Aa 10 48] [3,4,5,9,10,42,43,44]<|Sq (Rq [Aa 49 10,Ce 50 49 0,Aa 51 50,Au 52 10 51,Ar 53 4 0 51,Ao 54 53 51,Bi 55 54 51,Bz 56 52 55 51,Aq 57 51 56] [3,4,5,9,10,42,43,44,57]<|Co 57 (Rq [Ad 6 6] [6]<|.ret)<|Sk [3,4,5,9,10,42,43,44])<|Sq (Dr [58,59,60,61,62,63,64,65,66,67,68] [Ab 58 4 0,Ac 59 58,Aa 60 10,Ai 61 59 60 1,Ac 62 61,Ab 63 3 0,Ac 64 63,Aa 65 9,Ai 66 64 65 1,Ac 67 66,Br 68 62 67] [3,4,5,42,43,44,68])<|Co 68 (Rq [Ad 6 13] [6]<|.ret)<|Sk [3,4,5,42,43,44])<|Re [Al 69 44 1,Aa 44 69] [3,4,5,42,43,44])<|Sq (Rq [Ab 70 5 1,Ac 71 70,Ah 72 71,Ad 73 0] [3,4,5,71,72,73]<|Bl 2<|Lo [3,4,5,71,72,73]<|Rq [Am 74 73 72] [3,4,5,71,72,73,74]<|Sq (Co 74 (Sk [3,4,5,71,72,73])<|Ex 2 [])<|Sq (Bl 3<|Rq [Aa 75 73,Ai 76 71 73 1,Ac 77 76,Aa 11 75,Aa 12 77] [3,4,5,11,12,71,72,73]<|Sq (Rq [Aa 78 12,Ce 79 78 0,Aa 80 79,Au 81 12 80,Ar 82 4 1 80,Ao 83 82 80,Bi 84 83 80,Bz 85 81 84 80,Aq 86 80 85] [3,4,5,11,12,71,72,73,86]<|Co 86 (Rq [Ad 6 6] [6]<|.ret)<|Sk [3,4,5,11,12,71,72,73])<|Sq (Dr [13,14,87,88,89,90,91,92,93,94,95,96] [Ab 87 3 1,Ac 88 87,Aa 89 11,Ai 90 88 89 3,Ae 91 90 3,Ab 92 4 1,Ac 93 92,Aa 94 12,Ai 95 93 94 3,Ae 96 95 3,Ck 13 0 0 0,Ck 14 0 0 0,Ak 3 13 91,Ak 3 14 96] [3,4,5,13,14,71,72,73])<|Sq (Rq [Ab 97 13 0,Ac 98 97,Ab 99 14 0,Ac 100 99,Br 101 98 100] [3,4,5,13,14,71,72,73,101]<|Co 101 (Rq [Ad 6 13] [6]<|.ret)<|Sk [3,4,5,13,14,71,72,73])<|Sq (Dr [102,103,104,105,106,107,108,109,110,111,112,113,114,115,116,117,118,119,120,121] [Ab 102 5 0,Ac 103 102,Ab 104 13 1,Ac 105 104,Ai 106 103 105 1,Ac 107 106,Ab 108 14 1,Ac 109 108,Br 110 107 109,Aa 111 110,Ar 112 5 0 111,Ao 113 112 111,Ar 114 13 2 111,Ao 115 114 111,Cb 116 113 115 1 111,Ao 117 116 111,Ar 118 14 2 111,Ao 119 118 111,Cp 120 117 119 111,Aq 121 111 120] [3,4,5,71,72,73,121])<|Co 121 (Rq [Ad 6 11] [6]<|.ret)<|Sk [3,4,5,71,72,73])<|Re [Al 122 73 1,Aa 73 122] [3,4,5,71,72,73])<|Rq [Ad 6 0] [6]<|.ret) [.tmp 6]:=by decide +kernel
instance um (a:Graph) (b:Graph) (m:Morphism):Ct prog (EI a b m) 92 [B3 a,B3 b,BN m] (fun r=>.sh (eI r)):=Fi pi fun r h hw hR=>by
  unfold EI at h
  have:HA 0 44 43 0 fun (i0:Int) (_:Unit)=>[(44,.tv (eI i0))]:=⟨⟩
  have:HA 2 73 72 0 fun (i2:Int) (_:Unit)=>[(73,.tv (eI i2))]:=⟨⟩
  exact au
theorem jT:CK f138 (Rq [Bb 2 1] [0]<|Sq (Rq [Aa 3 0,⟨some 4,.isn (.s 3),none⟩] [0,4]<|Co 4 (Rq [Bb 2 1] [2]<|.ret)<|Sk [0])<|Rq [Dc 5 1,Aa 6 0,Bj 7 1 5 6,Ax 2 7] [2]<|.ret) [.tmp 2]:=by decide +kernel
instance qy (s_0:List Int):Ct prog (slices_Clone_int s_0) 138 [lI s_0] (fun r=>.own (lI r)):=Fi jT fun r h hw hR=>by
  unfold slices_Clone_int at h
  exact au
theorem n7 (l r:List Int) (h:slices_Sort_int l=some r):AS prog 221 [.list 1 (l.map (TV.int .i64))] (.turn r):=by
  unfold slices_Sort_int at h
  rw [←Zj] at h
  split at h
  · rename_i hl
    unfold BC at hl
    cases h
    refine YM (by rfl) (List.length_mergeSort _) (fun x hx=>List.mem_mergeSort.1 hx) (fun w hz=>?_) (fun g cap w _ _ hg hH=>Go.Proofs.Tryz.slices_Sort_int g 0 cap l w hH hg (by omega))
    subst hz
    exact Go.Proofs.Tryz.slices_Sort_int_none none 0 w
  · cases h
instance tT (l:List Int):Ct Go.Proofs.Tryz.prog (slices_Sort_int l) 221 [.list 1 (l.map (TV.int .i64))] B5.turn:=⟨n7 l⟩
theorem n8 (l r:List Int) (h:slices_Compact_int l=some r):AS prog 222 [.list 1 (l.map (TV.int .i64))] (.cut r):=by
  unfold slices_Compact_int at h
  split at h
  · rename_i hl
    unfold BC at hl
    cases h
    have hle:=Go.Lib.compact_length_le l
    refine fB (rest:=List.replicate (l.length - (Go.Lib.compact l).length) 0) (by rfl) (by rw [List.length_replicate]; omega) (fun x hx=>VZ hx) (fun w hz=>?_) (fun g cap w hc _ hg hH=>Go.Proofs.Tryz.slices_Compact_int g 0 cap l w hH (by omega) hc)
    subst hz
    exact Go.Proofs.Tryz.slices_Compact_int_empty none 0 w
  · cases h
instance tU (l:List Int):Ct Go.Proofs.Tryz.prog (slices_Compact_int l) 222 [.list 1 (l.map (TV.int .i64))] B5.cut:=⟨n8 l⟩
theorem jo:CK f161 (Rq [Ad 2 0] [0]<|Rq [Aa 4 0,⟨some 5,.callx 138 [.s 4],none⟩,Ci 3 5] [3]<|Rq [Bu 6 3,⟨some 7,.callm 221 (.s 6),none⟩] [3]<|Rq [Bu 8 3,⟨some 9,.callc 222 (.s 8),none⟩,Dn 10 9,Aa 2 10] [2]<|.ret) [.tmp 2]:=by decide +kernel
instance rJ (l:List Int):Ct prog (HN l) 161 [lI l] (fun r=>.sh (eI r)):=Fi jo fun r h hw hR=>by
  unfold HN at h
  exact au
theorem pj:CK f93 (Rq [Ag 3 0,Ag 4 1,Ag 5 2,Aj 6] [3,4,5]<|Sq (Dr [6,7,8,9,10,11,12,13,14,15,16,17,18,19,20,21,22,23,24,25,26,27,28,29] [Ae 7 3 2,Ae 8 4 2,Ae 9 5 2,Bf 10 92 7 8 9,Bc 11 10 0,Aa 12 11,Ay 13 5 0 12,Az 14 13 12,Ca 15 161 14 12,Ay 16 5 0 12,Az 17 16 12,Bv 18 17 12,Dg 19 15 18 12,Ap 20 12 19,Aa 21 20,Ay 22 5 1 21,Az 23 22 21,Ca 24 161 23 21,Ay 25 5 1 21,Az 26 25 21,Bv 27 26 21,Dg 28 24 27 21,Ap 29 21 28,Aa 6 29] [6])<|.ret) [.tmp 6]:=by decide +kernel
instance uo (a:Graph) (b:Graph) (m:Morphism):Ct prog (DV a b m) 93 [B3 a,B3 b,BN m] (fun r=>.sh (eB r)):=Fi pj fun r h hw hR=>by
  unfold DV at h
  exact au
theorem oy:CK f41 (Rq [Ag 3 0,⟨some 4,.boxo (.s 1),none⟩,Ag 5 2,Ad 6 0] [3,4,5]<|Sq (Rq [Ab 13 5 0,Ac 14 13,Bc 15 14 5] [3,4,5,15]<|Co 15 (Rq [Ab 16 5 4,Ae 17 16 5,Dd 7 1 3 4 0 5,Ak 5 7 17] [3,4,5,7]<|Sq (Rq [Ab 18 7 3,Ac 19 18,Ab 20 4 3,Ac 21 20,Am 22 19 21] [3,4,5,7,22]<|Co 22 (Rq [Ad 6 20] [6]<|.ret)<|Sk [3,4,5,7])<|Sq (Rq [Ae 23 3 2,Ae 24 7 5,Ab 25 4 3,Ac 26 25,Bf 27 91 23 24 26,Aa 8 27] [3,4,5,7,8]<|Rq [Aa 28 8,Aw 29 28 0] [3,4,5,7,8,29]<|Co 29 (Rq [Aa 30 8,Aa 6 30] [6]<|.ret)<|Sk [3,4,5,7])<|Sq (Rq [Ab 31 4 0,Ae 32 31 2,Ab 33 7 0,Ae 34 33 2,Ab 35 5 2,Ae 36 35 2,Bf 37 92 32 34 36,Aa 9 37] [3,4,5,7,9]<|Rq [Aa 38 9,Aw 39 38 0] [3,4,5,7,9,39]<|Co 39 (Rq [Aa 40 9,Aa 6 40] [6]<|.ret)<|Sk [3,4,5,7])<|Sq (Rq [Ab 41 4 0,Ae 42 41 2,Ab 43 7 0,Ae 44 43 2,Ab 45 5 2,Ae 46 45 2,Bf 47 93 42 44 46,Be 48 47] [3,4,5,7,48]<|Co 48 (Rq [Ad 6 1] [6]<|.ret)<|Sk [3,4,5,7])<|Re [Ae 49 7 5,Ak 5 4 49] [3,4,5])<|Sk [3,4,5])<|Sq (Rq [Ab 50 5 1,Ac 51 50,Ah 52 51,Ad 53 0] [3,4,51,52,53]<|Bl 0<|Lo [3,4,51,52,53]<|Rq [Am 54 53 52] [3,4,51,52,53,54]<|Sq (Co 54 (Sk [3,4,51,52,53])<|Ex 0 [])<|Sq (Bl 1<|Rq [Ai 55 51 53 9,Ae 56 55 9,Cs 11 0 9 1 1 1 3 4 0 5,Ak 9 11 56] [3,4,11,51,52,53]<|Rq [Ae 57 3 2,Ae 58 4 5,Ae 59 11 9,Bf 60 41 57 58 59,Aa 12 60] [3,4,12,51,52,53]<|Rq [Aa 61 12,Aw 62 61 0] [3,4,12,51,52,53,62]<|Co 62 (Rq [Aa 63 12,Aa 6 63] [6]<|.ret)<|Sk [3,4,51,52,53])<|Re [Al 64 53 1,Aa 53 64] [3,4,51,52,53])<|Rq [Ad 6 0] [6]<|.ret) [.tmp 6]:=by decide +kernel
theorem oG (n:Nat) (_ih_41:∀ (t:Types) (p:Pattern) (c:AA),Ct prog (CC n t p c) 41 [AU t,BA p,AJ c] (fun r=>.sh (eI r))) (t:Types) (p:Pattern) (c:AA):Ct prog (CC (n+1) t p c) 41 [AU t,BA p,AJ c] (fun r=>.sh (eI r)):=Fi oy fun r h hw hR=>by
  unfold CC at h
  have:HA 0 53 52 0 fun (i0:Int) (_:Unit)=>[(53,.tv (eI i0))]:=⟨⟩
  exact au
theorem oF:∀ n:Nat,(∀ (t:Types) (p:Pattern) (c:AA),Ct prog (CC n t p c) 41 [AU t,BA p,AJ c] (fun r=>.sh (eI r))):=by
  intro n
  induction n with
  | zero=>exact (fun t p c=>⟨fun _ h=>by cases h⟩)
  | succ n ih=>exact oG n ih
instance uA (t:Types) (p:Pattern) (c:AA):Ct prog (JP t p c) 41 [AU t,BA p,AJ c] (fun r=>.sh (eI r)):=⟨fun r h=>by
  obtain ⟨N,hN⟩:=DK h
  exact ((oF N) t p c).snd r (hN N (Nat.le_refl _))⟩
theorem oZ:CK f15 (Rq [Ag 3 0,Ag 4 1,Ag 5 2,Ad 6 0] [3,4,5]<|Sq (Rq [Ae 9 3 2,Ae 10 4 5,Av 11 39 9 10,Aa 7 11] [3,4,5,7]<|Rq [Aa 12 7,Aw 13 12 0] [3,4,5,7,13]<|Co 13 (Rq [Aa 14 7,Aa 6 14] [6]<|.ret)<|Sk [3,4,5])<|Sq (Rq [Ae 15 5 9,Ba 16 40 15,Aa 8 16] [3,4,5,8]<|Rq [Aa 17 8,Aw 18 17 0] [3,4,5,8,18]<|Co 18 (Rq [Aa 19 8,Aa 6 19] [6]<|.ret)<|Sk [3,4,5])<|Rq [Ae 20 3 2,Ae 21 4 5,Ae 22 5 9,Bf 23 41 20 21 22,Aa 6 23] [6]<|.ret) [.tmp 6]:=by decide +kernel
instance te (t:Types) (p:Pattern) (c:AA):Ct prog (DU t p c) 15 [AU t,BA p,AJ c] (fun r=>.sh (eI r)):=Fi oZ fun r h hw hR=>by
  unfold DU at h
  exact au
theorem pM:CK f73 (Rq [Aj 4] [0,1]<|Sq (Rq [Aa 6 0,Ah 7 6,Aa 8 1,Ah 9 8,Br 10 7 9] [0,1,10]<|Co 10 (Rq [Aj 4] [4]<|.ret)<|Sk [0,1])<|Sq (Rq [Aa 11 0,Ah 12 11,Ad 13 0] [0,1,12,13]<|Bl 0<|Lo [0,1,12,13]<|Rq [Am 14 13 12] [0,1,12,13,14]<|Sq (Co 14 (Sk [0,1,12,13])<|Ex 0 [])<|Sq (Bl 1<|Rq [Aa 15 13,Aa 5 15] [0,1,5,12,13]<|Sq (Dr [16,17,18,19,20,21,22,23,24] [Aa 16 0,Aa 17 5,Ai 18 16 17 1,Ac 19 18,Aa 20 1,Aa 21 5,Ai 22 20 21 1,Ac 23 22,Br 24 19 23] [0,1,12,13,24])<|Co 24 (Rq [Aj 4] [4]<|.ret)<|Sk [0,1,12,13])<|Re [Al 25 13 1,Aa 13 25] [0,1,12,13])<|Rq [Bx 4] [4]<|.ret) [.tmp 4]:=by decide +kernel
instance uX (s1_0:List Int) (s2_1:List Int):Ct prog (FF s1_0 s2_1) 73 [lI s1_0,lI s2_1] (fun r=>.sh (eB r)):=Fi pM fun r h hw hR=>by
  unfold FF at h
  have:HA 0 13 12 0 fun (i0:Int) (_:Unit)=>[(13,.tv (eI i0))]:=⟨⟩
  exact au
theorem jz:CK f173 (Rq [Ag 3 0,Ad 6 0] [1,2,3]<|Sq (Rq [Aa 11 1,Ab 12 3 0,Ac 13 12,Ah 14 13,Cu 15 11 14] [1,2,3,15]<|Co 15 (Rq [Ad 6 6] [6]<|.ret)<|Sk [1,2,3])<|Sq (Rq [Ab 16 3 0,Ac 17 16,Aa 18 1,Ai 19 17 18 4,Af 20 19 2,Ac 21 20] [1,2,3,21]<|Co 21 (Rq [Ad 6 13] [6]<|.ret)<|Sk [1,2,3])<|Rq [Ae 23 3 2,Aa 24 1,Av 25 153 23 24,Aa 22 25,An 26 22 0,An 27 22 1,Ax 7 26,Aa 8 27] [2,7]<|Sq (Rq [Aa 28 2,Ah 29 28,Aa 30 7,Ah 31 30,Br 32 29 31] [2,7,32]<|Co 32 (Rq [Ad 6 20] [6]<|.ret)<|Sk [2,7])<|Sq (Rq [Aa 33 7,Ah 34 33,Ad 35 0] [2,33,34,35]<|Bl 0<|Lo [2,33,34,35]<|Rq [Am 36 35 34] [2,33,34,35,36]<|Sq (Co 36 (Sk [2,33,34,35])<|Ex 0 [])<|Sq (Bl 1<|Rq [Aa 37 35,Ai 38 33 35 4,Ae 39 38 4,Dy 10 0 0 1,Aa 9 37,Ak 4 10 39] [2,9,10,33,34,35]<|Sq (Dr [40,41,42,43,44,45,46,47,48,49,50,51,52,53,54,55] [Aa 40 2,Aa 41 9,Ai 42 40 41 1,Ac 43 42,Ab 44 10 1,Ac 45 44,Am 46 43 45,Aa 47 46,Au 48 2 47,Au 49 9 47,Cb 50 48 49 1 47,Ao 51 50 47,Ar 52 10 2 47,Ao 53 52 47,⟨some 54,.bin (.i) .gtr (.s 51) (.s 53),some (47,false)⟩,Aq 55 47 54] [2,33,34,35,55])<|Co 55 (Rq [Ad 6 6] [6]<|.ret)<|Sk [2,33,34,35])<|Re [Al 56 35 1,Aa 35 56] [2,33,34,35])<|Rq [Ad 6 0] [6]<|.ret) [.tmp 6]:=by decide +kernel
instance rT (t:Types) (kind:Int) (BB:List Int):Ct prog (JH t kind BB) 173 [AU t,eI kind,lI BB] (fun r=>.sh (eI r)):=Fi jz fun r h hw hR=>by
  unfold JH at h
  have:HA 0 35 34 0 fun (i0:Int) (_:Unit)=>[(35,.tv (eI i0))]:=⟨⟩
  exact au
theorem lf:CK f265 (Rq [Ad 4 0] [0,1]<|Sq (Rq [Aa 6 0,Ah 7 6,Ad 8 0] [0,1,7,8]<|Bl 0<|Lo [0,1,7,8]<|Rq [Am 9 8 7] [0,1,7,8,9]<|Sq (Co 9 (Sk [0,1,7,8])<|Ex 0 [])<|Sq (Bl 1<|Rq [Aa 10 8,Aa 5 10] [0,1,5,7,8]<|Rq [Aa 11 1,Aa 12 0,Aa 13 5,Ai 14 12 13 1,Ac 15 14,Cy 16 11 15] [0,1,5,7,8,16]<|Co 16 (Rq [Aa 17 5,Aa 4 17] [4]<|.ret)<|Sk [0,1,7,8])<|Re [Al 18 8 1,Aa 8 18] [0,1,7,8])<|Rq [Bt 4 (-1)] [4]<|.ret) [.tmp 4]:=by decide +kernel
instance sw (s_0:List Int) (v_1:Int):Ct prog (ID s_0 v_1) 265 [lI s_0,eI v_1] (fun r=>.sh (eI r)):=Fi lf fun r h hw hR=>by
  unfold ID at h
  have:HA 0 8 7 0 fun (i0:Int) (_:Unit)=>[(8,.tv (eI i0))]:=⟨⟩
  exact au
theorem lF:CK f241 (Rq [Aj 4] [0,1]<|Rq [Aa 5 0,Aa 6 1,Av 7 265 5 6,Bp 8 7 0,Aa 4 8] [4]<|.ret) [.tmp 4]:=by decide +kernel
instance sX (s_0:List Int) (v_1:Int):Ct prog (DB s_0 v_1) 241 [lI s_0,eI v_1] (fun r=>.sh (eB r)):=Fi lF fun r h hw hR=>by
  unfold DB at h
  exact au
theorem oA (l r:List Int) (h:slices_Reverse_int l=some r):AS prog 282 [.list 1 (l.map (TV.int .i64))] (.turn r):=by
  unfold slices_Reverse_int at h
  split at h
  · rename_i hl
    unfold BC at hl
    cases h
    refine YM (by rfl) List.length_reverse (fun x hx=>List.mem_reverse.1 hx) (fun w hz=>?_) (fun g cap w _ _ hg hH=>(Go.Proofs.Tryz.slices_Reverse_int g 0 cap l w hH (by omega)).mono ?_)
    · subst hz
      exact Go.Proofs.Tryz.slices_Reverse_int_empty none 0 w
    · rintro e w' ⟨h1,q,h2⟩
      exact ⟨h1,q,#[],by rw [Go.Sort.grow_empty]; exact h2⟩
  · cases h
instance tW (l:List Int):Ct Go.Proofs.Tryz.prog (slices_Reverse_int l) 282 [.list 1 (l.map (TV.int .i64))] B5.turn:=⟨oA l⟩
theorem lV:CK f256 (Rq [Ag 2 0,Bb 4 1] [1,2]<|Rq [⟨some 5,.nilx 1,none⟩] [1,2,5]<|Sq (Bl 0<|Lo [1,2,5]<|Sq (Rq [Aa 6 1,Bp 7 6 0] [1,2,5,7]<|Co 7 (Sk [1,2,5])<|Ex 0 [5])<|Sq (Bl 1<|Re [Ci 14 5,Aa 15 1,Bh 16 1 15,Ef 17 1 14 16,Ci 5 17] [1,2,5])<|Re [Ab 8 2 0,Ac 9 8,Aa 10 1,Ai 11 9 10 4,Af 12 11 1,Ac 13 12,Aa 1 13] [1,2,5])<|Rq [Bu 18 5,⟨some 19,.callm 282 (.s 18),none⟩] [5]<|Rq [Dx 20 5,Ax 4 20] [4]<|.ret) [.tmp 4]:=by decide +kernel
instance sm (t:Types) (a:Int):Ct prog (Ja t a) 256 [AU t,eI a] (fun r=>.own (lI r)):=Fi lV fun r h hw hR=>by
  unfold Ja at h
  have:HW 0 fun (s0:Int × List Int)=>[(1,.tv (eI s0.1)),(5,.xo 1 (List.map eI s0.2))]:=⟨⟩
  exact au
theorem ky:CK f229 (Rq [Ag 3 0,Aj 6] [1,2,3]<|Rq [Ae 7 3 2,Aa 8 1,Av 9 256 7 8,Aa 10 2,Av 11 241 9 10,Aa 6 11] [6]<|.ret) [.tmp 6]:=by decide +kernel
instance sP (t:Types) (a:Int) (b:Int):Ct prog (Iw t a b) 229 [AU t,eI a,eI b] (fun r=>.sh (eB r)):=Fi ky fun r h hw hR=>by
  unfold Iw at h
  exact au
theorem j5:CK f174 (Rq [Ag 4 0,Aj 8] [1,2,3,4]<|Sq (Rq [Ae 9 4 2,Aa 10 2,Aa 11 3,Ea 12 1 10 11,Av 13 216 9 12,Aw 14 13 0,Aa 15 14,Au 16 1 15,Hd 17 16 0 15,Aq 18 15 17,Aa 19 18,Au 20 1 19,Ar 21 4 1 19,Ao 22 21 19,Bi 23 22 19,Bz 24 20 23 19,Aq 25 19 24] [1,2,3,4,25]<|Co 25 (Rq [Aj 8] [8]<|.ret)<|Sk [1,2,3,4])<|Sq (Dr [8,26,27,28,29,30,31,32,33,34,35,36,37,38,39,40,41,42,43,44,45] [Ae 26 4 2,Aa 27 2,Ab 28 4 1,Ac 29 28,Aa 30 1,Ai 31 29 30 7,Af 32 31 1,Ac 33 32,Bf 34 229 26 27 33,Aa 35 34,Bg 36 4 2 35,As 37 3 35,Ay 38 4 1 35,Az 39 38 35,As 40 1 35,Dh 41 39 40 7 35,By 42 41 2 35,Az 43 42 35,Ej 44 229 36 37 43 35,Ap 45 35 44,Aa 8 45] [8])<|.ret) [.tmp 8]:=by decide +kernel
instance rU (t:Types) (edge:Int) (from':Int) (to':Int):Ct prog (Ij t edge from' to') 174 [AU t,eI edge,eI from',eI to'] (fun r=>.sh (eB r)):=Fi j5 fun r h hw hR=>by
  unfold Ij at h
  exact au
theorem iw:CK f108 (Rq [Ag 2 0,Ag 3 1,Ad 4 0,Ad 5 0] [2,3]<|Sq (Rq [Ae 15 2 2,Ba 16 79 15,Aa 14 16,An 17 14 0,An 18 14 1,Aa 6 17,Aa 7 18] [2,3,7]<|Rq [Aa 19 7,Aw 20 19 0] [2,3,7,20]<|Co 20 (Rq [Aa 21 7,Bt 4 (-1),Aa 5 21] [4,5]<|.ret)<|Sk [2,3])<|Sq (Rq [Ab 22 3 0,Ae 23 22 2,Ba 24 80 23,Aa 8 24] [2,3,8]<|Rq [Aa 25 8,Aw 26 25 0] [2,3,8,26]<|Co 26 (Rq [Aa 27 8,Bt 4 (-1),Aa 5 27] [4,5]<|.ret)<|Sk [2,3])<|Sq (Rq [Ab 28 3 2,Ac 29 28,Ah 30 29,Ab 31 3 0,Af 32 31 0,Ac 33 32,Ah 34 33,Br 35 30 34] [2,3,35]<|Co 35 (Rq [Bt 4 (-1),Ad 5 20] [4,5]<|.ret)<|Sk [2,3])<|Sq (Rq [Ab 36 3 0,Af 37 36 0,Ac 38 37,Ah 39 38,Ad 40 0] [2,3,38,39,40]<|Bl 0<|Lo [2,3,38,39,40]<|Rq [Am 41 40 39] [2,3,38,39,40,41]<|Sq (Co 41 (Sk [2,3,38,39,40])<|Ex 0 [2,3])<|Sq (Bl 1<|Rq [Aa 42 40,Ai 43 38 40 1,Ac 44 43,Aa 9 42,Aa 10 44] [2,3,9,10,38,39,40]<|Sq (Dr [11,45,46,47,48,49,50,51,52] [Ae 45 2 2,Aa 46 10,Ab 47 3 2,Ac 48 47,Aa 49 9,Ai 50 48 49 1,Ac 51 50,Bf 52 173 45 46 51,Aa 11 52] [2,3,9,11,38,39,40])<|Rq [Aa 53 11,Aw 54 53 0] [2,3,9,11,38,39,40,54]<|Co 54 (Rq [Aa 55 9,Aa 56 11,Aa 4 55,Aa 5 56] [4,5]<|.ret)<|Sk [2,3,38,39,40])<|Re [Al 57 40 1,Aa 40 57] [2,3,38,39,40])<|Sq (Rq [Ab 58 3 0,Af 59 58 1,Ac 60 59,Ah 61 60,Ad 62 0] [2,3,60,61,62]<|Bl 2<|Lo [2,3,60,61,62]<|Rq [Am 63 62 61] [2,3,60,61,62,63]<|Sq (Co 63 (Sk [2,3,60,61,62])<|Ex 2 [])<|Sq (Bl 3<|Rq [Aa 64 62,Ai 65 60 62 3,Ae 66 65 3,Ck 13 0 0 0,Aa 12 64,Ak 3 13 66] [2,3,12,13,60,61,62]<|Sq (Rq [Ab 67 13 0,Ac 68 67,Ab 69 2 1,Ac 70 69,Ah 71 70,Cu 72 68 71] [2,3,12,13,60,61,62,72]<|Co 72 (Rq [Aa 73 12,Aa 4 73,Ad 5 6] [4,5]<|.ret)<|Sk [2,3,12,13,60,61,62])<|Sq (Dr [74,75,76,77,78,79,80,81,82,83,84,85,86,87,88,89,90,91,92] [Ae 74 2 2,Ab 75 13 0,Ac 76 75,Ab 77 3 0,Af 78 77 0,Ac 79 78,Ab 80 13 1,Ac 81 80,Ai 82 79 81 1,Ac 83 82,Ab 84 3 0,Af 85 84 0,Ac 86 85,Ab 87 13 2,Ac 88 87,Ai 89 86 88 1,Ac 90 89,Cq 91 174 74 76 83 90,Be 92 91] [2,3,12,60,61,62,92])<|Co 92 (Rq [Aa 93 12,Aa 4 93,Ad 5 13] [4,5]<|.ret)<|Sk [2,3,60,61,62])<|Re [Al 94 62 1,Aa 62 94] [2,3,60,61,62])<|Rq [Bt 4 (-1),Ad 5 0] [4,5]<|.ret) [.tmp 4,.tmp 5]:=by decide +kernel
instance qS (t:Types) (h_1:AY):Ct prog (Hr t h_1) 108 [AU t,IV h_1] (fun r=>.tp [eI r.1,eI r.2]):=Fi iw fun r h hw hR=>by
  unfold Hr at h
  have:HA 0 40 39 0 fun (i0:Int) (_:Unit)=>[(40,.tv (eI i0))]:=⟨⟩
  have:HA 2 62 61 0 fun (i2:Int) (_:Unit)=>[(62,.tv (eI i2))]:=⟨⟩
  exact au
theorem kN:CK f195 (Rq [Aj 3] [0,1]<|Rq [Aa 4 0,Ab 5 1 0,Ac 6 5,Ah 7 6,Cu 8 4 7,Aa 3 8] [3]<|.ret) [.tmp 3]:=by decide +kernel
instance rm (n:Int) (c0:Types):Ct prog (KA n c0) 195 [eI n,.pt (AU c0).cells] (fun r=>.sh (eB r)):=Fi kN fun r h hw hR=>by
  unfold KA at h
  exact au
theorem kO:CK f196 (Rq [Ag 2 0,Aj 3] [1,2]<|Rq [Ab 4 2 0,Ac 5 4,Ab 6 1 1,Ac 7 6,Ah 8 7,Cu 9 5 8,Aa 3 9] [3]<|.ret) [.tmp 3]:=by decide +kernel
instance rn (x_0:B6) (c0:Types):Ct prog (KB x_0 c0) 196 [EB x_0,.pt (AU c0).cells] (fun r=>.sh (eB r)):=Fi kO fun r h hw hR=>by
  unfold KB at h
  exact au
theorem jP:CK f131 (Rq [Ag 2 0,Ag 3 1,Aj 4] [2,3]<|Rq [Ab 5 3 0,Ac 6 5,Db 7 195 2,Av 8 81 6 7,Be 9 8,Aa 10 9,Ay 11 3 1 10,Az 12 11 10,⟨some 13,.clo 196 [.s 2],some (10,true)⟩,Dt 14 83 12 13 10,Ei 15 14 10,Ap 16 10 15,Aa 4 16] [4]<|.ret) [.tmp 4]:=by decide +kernel
instance qu (t:Types) (g:Graph):Ct prog (FB t g) 131 [AU t,B3 g] (fun r=>.sh (eB r)):=Fi jP fun r h hw hR=>by
  unfold FB at h
  exact au
theorem pF:CK f62 (Rq [Ag 3 0,Ag 4 1,Ag 5 2,Ad 6 0] [3,4,5]<|Sq (Rq [Ae 13 3 2,Ba 14 79 13,Aa 12 14,An 15 12 0,An 16 12 1,Aa 7 15,Aa 8 16] [3,4,5,8]<|Rq [Aa 17 8,Aw 18 17 0] [3,4,5,8,18]<|Co 18 (Rq [Aa 19 8,Aa 6 19] [6]<|.ret)<|Sk [3,4,5])<|Sq (Rq [Ae 20 4 2,Ae 21 5 2,Ea 22 2 20 21,Ah 23 22,Ad 24 0] [3,4,5,22,23,24]<|Bl 0<|Lo [3,4,5,22,23,24]<|Rq [Am 25 24 23] [3,4,5,22,23,24,25]<|Sq (Co 25 (Sk [3,4,5,22,23,24])<|Ex 0 [3,4,5])<|Sq (Bl 1<|Rq [Ai 26 22 24 2,Ae 27 26 2,Cc 10 1 3,Ak 2 10 27] [3,4,5,10,22,23,24]<|Rq [Ae 28 10 2,Ba 29 80 28,Aa 11 29] [3,4,5,11,22,23,24]<|Rq [Aa 30 11,Aw 31 30 0] [3,4,5,11,22,23,24,31]<|Co 31 (Rq [Aa 32 11,Aa 6 32] [6]<|.ret)<|Sk [3,4,5,22,23,24])<|Re [Al 33 24 1,Aa 24 33] [3,4,5,22,23,24])<|Sq (Rq [Ae 34 3 2,Ae 35 4 2,Av 36 131 34 35,Be 37 36,Aa 38 37,Cm 39 3 2 38,Cm 40 5 2 38,Dk 41 131 39 40 38,Bs 42 41 38,Aq 43 38 42] [43]<|Co 43 (Rq [Ad 6 13] [6]<|.ret)<|Sk [])<|Rq [Ad 6 0] [6]<|.ret) [.tmp 6]:=by decide +kernel
instance uQ (t:Types) (p:Graph) (g:Graph):Ct prog (GA t p g) 62 [AU t,B3 p,B3 g] (fun r=>.sh (eI r)):=Fi pF fun r h hw hR=>by
  unfold GA at h
  have:HA 0 24 23 0 fun (i0:Int) (_:Unit)=>[(24,.tv (eI i0))]:=⟨⟩
  exact au
theorem lC:CK f239 (Rq [Ag 2 0,Bb 4 1,Ad 5 0] [1,2]<|Sq (Rq [Ae 9 2 2,Aa 10 1,Bh 11 1 10,Av 12 216 9 11,Aa 6 12] [1,2,6]<|Rq [Aa 13 6,Aw 14 13 0] [1,2,6,14]<|Co 14 (Rq [Aa 15 6,Bb 4 1,Aa 5 15] [4,5]<|.ret)<|Sk [1,2])<|Rq [Bb 7 1] [1,2,7]<|Sq (Rq [Ab 16 2 0,Ac 17 16,Ah 18 17,Ad 19 0] [1,2,7,18,19]<|Bl 0<|Lo [1,2,7,18,19]<|Rq [Am 20 19 18] [1,2,7,18,19,20]<|Sq (Co 20 (Sk [1,2,7,18,19])<|Ex 0 [7])<|Sq (Bl 1<|Rq [Aa 21 19,Aa 8 21] [1,2,7,8,18,19]<|Rq [Ae 22 2 2,Aa 23 8,Aa 24 1,Bf 25 229 22 23 24] [1,2,7,8,18,19,25]<|Co 25 (Re [Ax 26 7,Aa 27 8,Bh 28 1 27,Bj 29 1 26 28,Ax 7 29] [1,2,7,18,19])<|Sk [1,2,7,18,19])<|Re [Al 30 19 1,Aa 19 30] [1,2,7,18,19])<|Rq [Aa 31 7,Ax 4 31,Ad 5 0] [4,5]<|.ret) [.tmp 4,.tmp 5]:=by decide +kernel
instance sV (t:Types) (a:Int):Ct prog (Hz t a) 239 [AU t,eI a] (fun r=>.tp [lI r.1,eI r.2]):=Fi lC fun r h hw hR=>by
  unfold Hz at h
  have:HA 0 19 18 0 fun (i0:Int) (s0:List Int)=>[(7,.ow (lI s0)),(19,.tv (eI i0))]:=⟨⟩
  exact au
theorem kP:CK f197 (Rq [Ag 1 0,Bb 2 1] [1]<|Rq [Bb 3 1] [1,3]<|Sq (Rq [Ab 10 1 0,Ac 11 10,Ah 12 11,Ad 13 0] [1,3,12,13]<|Bl 0<|Lo [1,3,12,13]<|Rq [Am 14 13 12] [1,3,12,13,14]<|Sq (Co 14 (Sk [1,3,12,13])<|Ex 0 [3])<|Sq (Bl 1<|Rq [Aa 15 13,Aa 4 15] [1,3,4,12,13]<|Rq [Ab 16 1 0,Ac 17 16,Ah 18 17,Ey 19 1 18,Ci 5 19] [1,3,4,5,12,13]<|Rq [Ae 21 1 2,Aa 22 4,Av 23 239 21 22,Aa 20 23,An 24 20 0,An 25 20 1,Ax 6 24,Aa 7 25] [1,3,5,6,12,13]<|Sq (Rq [Aa 26 6,Ah 27 26,Ad 28 0] [1,3,5,12,13,26,27,28]<|Bl 2<|Lo [1,3,5,12,13,26,27,28]<|Rq [Am 29 28 27] [1,3,5,12,13,26,27,28,29]<|Sq (Co 29 (Sk [1,3,5,12,13,26,27,28])<|Ex 2 [1,3,5,12,13])<|Sq (Bl 3<|Rq [Ai 30 26 28 1,Ac 31 30,Aa 9 31] [1,3,5,9,12,13,26,27,28]<|Re [Bu 32 5,Aa 33 9,Cj 34 32 33 1,Eh 34] [1,3,5,12,13,26,27,28])<|Re [Al 35 28 1,Aa 28 35] [1,3,5,12,13,26,27,28])<|Re [Ax 36 3,Dx 37 5,Bh 38 1 37,Bj 39 1 36 38,Ax 3 39] [1,3,12,13])<|Re [Al 40 13 1,Aa 13 40] [1,3,12,13])<|Rq [Aa 41 3,Ax 2 41] [2]<|.ret) [.tmp 2]:=by decide +kernel
instance ro (t:Types):Ct prog (F9 t) 197 [AU t] (fun r=>.sh ((eL 1 (eL 1 eB)) r)):=Fi kP fun r h hw hR=>by
  unfold F9 at h
  have:HA 0 13 12 0 fun (i0:Int) (s0:List (List Bool))=>[(3,.ow ((eL 1 (eL 1 eB)) s0)),(13,.tv (eI i0))]:=⟨⟩
  have:HA 2 28 27 0 fun (i2:Int) (s2:List Bool)=>[(5,.xo 1 (List.map eB s2)),(28,.tv (eI i2))]:=⟨⟩
  exact au
theorem j6:CK f175 (Rq [Ag 4 0,Ag 5 1,Ag 6 2,Ag 7 3,Ad 8 0] [4,5,6,7]<|Sq (Rq [Ab 16 7 0,Ac 17 16,Ah 18 17,Ab 19 5 0,Ac 20 19,Ah 21 20,Br 22 18 21,Aa 23 22,Ar 24 7 1 23,Ao 25 24 23,Bi 26 25 23,Ar 27 5 1 23,Ao 28 27 23,Bi 29 28 23,Cp 30 26 29 23,Aq 31 23 30] [4,5,6,7,31]<|Co 31 (Rq [Ad 8 20] [8]<|.ret)<|Sk [4,5,6,7])<|Rq [Ae 32 4 2,Ba 33 197 32,Ax 9 33] [5,6,7,9]<|Sq (Rq [Ab 34 7 0,Ac 35 34,Ah 36 35,Ad 37 0] [5,6,7,9,35,36,37]<|Bl 0<|Lo [5,6,7,9,35,36,37]<|Rq [Am 38 37 36] [5,6,7,9,35,36,37,38]<|Sq (Co 38 (Sk [5,6,7,9,35,36,37])<|Ex 0 [5,6,7])<|Sq (Bl 1<|Rq [Aa 39 37,Ai 40 35 37 1,Ac 41 40,Aa 10 39,Aa 11 41] [5,6,7,9,10,11,35,36,37]<|Sq (Rq [Aa 42 11,Ce 43 42 0,Aa 44 43,Au 45 11 44,Ar 46 6 0 44,Ao 47 46 44,Bi 48 47 44,Bz 49 45 48 44,Aq 50 44 49] [5,6,7,9,10,11,35,36,37,50]<|Co 50 (Rq [Ad 8 6] [8]<|.ret)<|Sk [5,6,7,9,10,11,35,36,37])<|Sq (Dr [51,52,53,54,55,56,57,58,59,60,61,62,63,64,65,66] [Aa 51 9,Ab 52 5 0,Ac 53 52,Aa 54 10,Ai 55 53 54 1,Ac 56 55,Ai 57 51 56 1,Ac 58 57,Ab 59 6 0,Ac 60 59,Aa 61 11,Ai 62 60 61 1,Ac 63 62,Ai 64 58 63 1,Ac 65 64,Be 66 65] [5,6,7,9,35,36,37,66])<|Co 66 (Rq [Ad 8 13] [8]<|.ret)<|Sk [5,6,7,9,35,36,37])<|Re [Al 67 37 1,Aa 37 67] [5,6,7,9,35,36,37])<|Sq (Rq [Ab 68 7 1,Ac 69 68,Ah 70 69,Ad 71 0] [5,6,7,69,70,71]<|Bl 2<|Lo [5,6,7,69,70,71]<|Rq [Am 72 71 70] [5,6,7,69,70,71,72]<|Sq (Co 72 (Sk [5,6,7,69,70,71])<|Ex 2 [])<|Sq (Bl 3<|Rq [Aa 73 71,Ai 74 69 71 1,Ac 75 74,Aa 12 73,Aa 13 75] [5,6,7,12,13,69,70,71]<|Sq (Rq [Aa 76 13,Ce 77 76 0,Aa 78 77,Au 79 13 78,Ar 80 6 1 78,Ao 81 80 78,Bi 82 81 78,Bz 83 79 82 78,Aq 84 78 83] [5,6,7,12,13,69,70,71,84]<|Co 84 (Rq [Ad 8 6] [8]<|.ret)<|Sk [5,6,7,12,13,69,70,71])<|Sq (Dr [14,15,85,86,87,88,89,90,91,92,93,94] [Ab 85 5 1,Ac 86 85,Aa 87 12,Ai 88 86 87 3,Ae 89 88 3,Ab 90 6 1,Ac 91 90,Aa 92 13,Ai 93 91 92 3,Ae 94 93 3,Ck 14 0 0 0,Ck 15 0 0 0,Ak 3 14 89,Ak 3 15 94] [5,6,7,14,15,69,70,71])<|Sq (Rq [Ab 95 14 0,Ac 96 95,Ab 97 15 0,Ac 98 97,Br 99 96 98] [5,6,7,14,15,69,70,71,99]<|Co 99 (Rq [Ad 8 13] [8]<|.ret)<|Sk [5,6,7,14,15,69,70,71])<|Sq (Dr [100,101,102,103,104,105,106,107,108,109,110,111,112,113,114,115,116,117,118,119] [Ab 100 7 0,Ac 101 100,Ab 102 14 1,Ac 103 102,Ai 104 101 103 1,Ac 105 104,Ab 106 15 1,Ac 107 106,Br 108 105 107,Aa 109 108,Ar 110 7 0 109,Ao 111 110 109,Ar 112 14 2 109,Ao 113 112 109,Cb 114 111 113 1 109,Ao 115 114 109,Ar 116 15 2 109,Ao 117 116 109,Cp 118 115 117 109,Aq 119 109 118] [5,6,7,69,70,71,119])<|Co 119 (Rq [Ad 8 11] [8]<|.ret)<|Sk [5,6,7,69,70,71])<|Re [Al 120 71 1,Aa 71 120] [5,6,7,69,70,71])<|Rq [Ad 8 0] [8]<|.ret) [.tmp 8]:=by decide +kernel
instance rV (t:Types) (p:Graph) (g:Graph) (m:Morphism):Ct prog (HH t p g m) 175 [AU t,B3 p,B3 g,BN m] (fun r=>.sh (eI r)):=Fi j6 fun r h hw hR=>by
  unfold HH at h
  have:HA 0 37 36 0 fun (i0:Int) (_:Unit)=>[(37,.tv (eI i0))]:=⟨⟩
  have:HA 2 71 70 0 fun (i2:Int) (_:Unit)=>[(71,.tv (eI i2))]:=⟨⟩
  exact au
theorem n5 (l:List Int) (r:Bool) (h:IC l=some r):AS prog 176 [lI l] (.sh (eB r)):=by
  unfold IC at h
  rw [←a7] at h
  split at h
  · rename_i hl
    cases h
    exact Vo l hl
  · cases h
instance tS (l:List Int):Ct Go.Proofs.Tryz.prog (IC l) 176 [lI l] (fun r=>.sh (eB r)):=⟨n5 l⟩
theorem iy:CK f109 (Rq [Ag 5 0,Ag 6 1,Ag 7 2,Ag 8 3,Ad 10 0] [4,5,6,7,8]<|Sq (Rq [Ae 13 5 2,Ae 14 6 2,Ae 15 7 2,Bf 16 62 13 14 15,Aa 11 16] [4,5,6,7,8,11]<|Rq [Aa 17 11,Aw 18 17 0] [4,5,6,7,8,11,18]<|Co 18 (Rq [Aa 19 11,Aa 10 19] [10]<|.ret)<|Sk [4,5,6,7,8])<|Sq (Rq [Ae 20 5 2,Ae 21 6 2,Ae 22 7 2,Ae 23 8 2,Cq 24 175 20 21 22 23,Aa 12 24] [4,8,12]<|Rq [Aa 25 12,Aw 26 25 0] [4,8,12,26]<|Co 26 (Rq [Aa 27 12,Aa 10 27] [10]<|.ret)<|Sk [4,8])<|Sq (Rq [Aa 28 4,Aa 29 28,Ay 30 8 0 29,Az 31 30 29,Ca 32 176 31 29,As 33 32 29,Ar 34 8 1 33,Ao 35 34 33,Ds 36 176 35 33,Eg 37 33 36 29,Ap 38 29 37] [38]<|Co 38 (Rq [Ad 10 5] [10]<|.ret)<|Sk [])<|Rq [Ad 10 0] [10]<|.ret) [.tmp 10]:=by decide +kernel
instance qT (t:Types) (p:Graph) (g:Graph) (m:Morphism) (injective:Bool):Ct prog (F8 t p g m injective) 109 [AU t,B3 p,B3 g,BN m,eB injective] (fun r=>.sh (eI r)):=Fi iy fun r h hw hR=>by
  unfold F8 at h
  exact au
theorem j7:CK f177 (Rq [Ag 3 0,Ag 4 1,Ag 5 2,Ad 6 0] [3,4,5]<|Sq (Rq [Ae 10 3 2,Ae 11 4 5,Av 12 39 10 11,Aa 7 12] [3,5,7]<|Rq [Aa 13 7,Aw 14 13 0] [3,5,7,14]<|Co 14 (Rq [Aa 15 7,Aa 6 15] [6]<|.ret)<|Sk [3,5])<|Rq [Ae 17 3 2,Ae 18 5 3,Av 19 108 17 18,Aa 16 19,An 20 16 0,An 21 16 1,Aa 8 20,Aa 9 21] [9]<|Rq [Aa 22 9,Aa 6 22] [6]<|.ret) [.tmp 6]:=by decide +kernel
instance rW (t:Types) (p:Pattern) (h_2:AY):Ct prog (EU t p h_2) 177 [AU t,BA p,IV h_2] (fun r=>.sh (eI r)):=Fi j7 fun r h hw hR=>by
  unfold EU at h
  exact au
theorem kz:CK f232 (Rq [Ag 2 0,Ad 4 0] [1,2]<|Sq (Rq [Ab 5 2 0,Ac 6 5,Ce 7 6 0] [1,2,7]<|Co 7 (Rq [Ab 8 2 1,Ac 9 8,Aa 4 9] [4]<|.ret)<|Sk [1,2])<|Sq (Dr [4,10,11,12,13,14,15,16,17] [Aa 10 1,Ab 11 2 0,Ac 12 11,Ai 13 10 12 1,Ac 14 13,Ab 15 2 1,Ac 16 15,Bo 17 14 16,Aa 4 17] [4])<|.ret) [.tmp 4]:=by decide +kernel
instance sQ (x_0:Term) (BB:List Int):Ct prog (EW x_0 BB) 232 [Pa x_0,lI BB] (fun r=>.sh (eI r)):=Fi kz fun r h hw hR=>by
  unfold EW at h
  exact au
theorem oB (a b c:Int) (r:Int × Int) (h:IZ a b c=some r):AS prog 284 [J4 a,J4 b,J4 c] (.ext [J4 (r.1),J4 (r.2)]):=by
  unfold IZ at h
  split at h
  · rename_i hc
    cases h
    obtain ⟨⟨a0,a1⟩,⟨b0,b1⟩,c0,c1⟩:=hc
    intro _
    refine ⟨⟨rfl,?_⟩,fun w vs hv=>?_⟩
    · simp only [J4,TV.WFs,TV.WF,IntKind.min,IntKind.max,IntKind.signed,IntKind.bits,and_true]
      simp only [Bool.false_eq_true,if_false]
      refine ⟨⟨by omega,?_⟩,by omega,?_⟩
      · have:(2:Int) ^ 64=18446744073709551616:=by decide
        omega
      · have:(2:Int) ^ 64=18446744073709551616:=by decide
        omega
    · obtain ⟨x,rfl⟩:=Int.eq_ofNat_of_zero_le a0
      obtain ⟨y,rfl⟩:=Int.eq_ofNat_of_zero_le b0
      obtain ⟨z,rfl⟩:=Int.eq_ofNat_of_zero_le c0
      have:=Go.Proofs.Any7.bits_Add64 Go.Proofs.Tryz.lays7n25 x y z (by omega) w
      obtain ⟨l⟩:=vs
      simp only [J4,AM,A1] at hv
      obtain ⟨v1,r1,rfl,rfl,v2,r2,rfl,rfl,v3,r3,rfl,rfl,rfl⟩:=hv
      refine ⟨_,this,?_⟩
      simp only [J4,AM,A1]
      exact ⟨_,_,rfl,by simp,_,_,rfl,by simp,rfl⟩
  · cases h
instance tX (a b c:Int):Ct Go.Proofs.Tryz.prog (IZ a b c) 284 [J4 a,J4 b,J4 c] (fun r=>.ext [J4 (r.1),J4 (r.2)]):=⟨oB a b c⟩
theorem lY:CK f260 (Rq [Ad 4 0,Gi 5 0] [0,1]<|Rq [Aa 9 0,⟨some 10,.cvt .u64 (.s 9),none⟩,Aa 11 1,⟨some 12,.cvt .u64 (.s 11),none⟩,⟨some 13,.callf 284 [.s 10,.s 12,.c (.int .u64 0)],none⟩,Aa 8 13,An 14 8 0,An 15 8 1,Aa 6 14,Aa 7 15] [0,1,6,7]<|Rq [Aa 16 0,⟨some 17,.bin (.w) .shr (.s 16) (.c (.int .u64 63)),none⟩,Aa 18 1,⟨some 19,.bin (.w) .shr (.s 18) (.c (.int .u64 63)),none⟩,Bo 20 17 19,Aa 21 7,Bq 22 21,Bo 23 20 22,Aa 24 6,Aa 4 23,Aa 5 24] [4,5]<|.ret) [.tmp 4,.tmp 5]:=by decide +kernel
instance sq (a:Int) (b:Int):Ct prog (HL a b) 260 [eI a,eI b] (fun r=>.tp [eI r.1,J4 r.2]):=Fi lY fun r h hw hR=>by
  unfold HL at h
  exact au
theorem lW:CK f259 (Rq [Ag 2 0,Ad 3 0,Gi 4 0,Aj 5] [1,2]<|Sq (Bl 0<|Rq [Ab 11 2 0,Ac 12 11,⟨some 13,.bin (.i) .eql (.s 12) (.c (.int .i64 (-1))),none⟩,Aa 10 13] [1,2,10]<|Co 10 (Rq [Ab 15 2 1,Ac 16 15,⟨some 17,.call 260 [.c (.int .i64 0),.s 16],none⟩,Aa 14 17,An 18 14 0,An 19 14 1,Aa 6 18,Aa 7 19] [6,7]<|Rq [Aa 20 6,Aa 21 7,Aa 3 20,Aa 4 21,Bx 5] [3,4,5]<|.ret)<|Rq [Ab 23 2 0,Ac 24 23,Ce 25 24 0,Aa 26 25,Ar 27 2 0 26,Ao 28 27 26,Ao 29 1 26,Bi 30 29 26,Bz 31 28 30 26,Aq 32 26 31,Aa 22 32] [1,2,22]<|Co 22 (Rq [Ad 3 0,Gi 4 0,Aj 5] [3,4,5]<|.ret)<|Sk [1,2])<|Sq (Dr [8,9,33,34,35,36,37,38,39,40,41,42,43] [Ac 34 1,Ab 35 2 0,Ac 36 35,Ai 37 34 36 1,Ac 38 37,Ab 39 2 1,Ac 40 39,Av 41 260 38 40,Aa 33 41,An 42 33 0,An 43 33 1,Aa 8 42,Aa 9 43] [8,9])<|Rq [Aa 44 8,Aa 45 9,Aa 3 44,Aa 4 45,Bx 5] [3,4,5]<|.ret) [.tmp 3,.tmp 4,.tmp 5]:=by decide +kernel
instance sn (t:Term) (c0:List Int):Ct prog (FK t c0) 259 [Pa t,.pt [lI c0]] (fun r=>.tp [eI r.1,J4 r.2.1,eB r.2.2]):=Fi lW fun r h hw hR=>by
  unfold FK at h
  exact au
theorem lZ:CK f261 (Rq [Ad 2 0] [0]<|Rq [Ad 3 0] [0,3]<|Sq (Rq [Aa 6 0,Ah 7 6,Ad 8 0] [3,6,7,8]<|Bl 0<|Lo [3,6,7,8]<|Rq [Am 9 8 7] [3,6,7,8,9]<|Sq (Co 9 (Sk [3,6,7,8])<|Ex 0 [3])<|Sq (Bl 1<|Rq [Ai 10 6 8 1,Ac 11 10,Aa 5 11] [3,5,6,7,8]<|Rq [Aa 12 5,Aa 13 3,Br 14 12 13] [3,5,6,7,8,14]<|Co 14 (Rq [Aa 15 5,Aa 2 15] [2]<|.ret)<|Sk [3,6,7,8])<|Re [Al 16 8 1,Aa 8 16] [3,6,7,8])<|Rq [Aa 17 3,Aa 2 17] [2]<|.ret) [.tmp 2]:=by decide +kernel
instance sr (vals:List Int):Ct prog (Li vals) 261 [lI vals] (fun r=>.sh (eI r)):=Fi lZ fun r h hw hR=>by
  unfold Li at h
  have:HA 0 8 7 0 fun (i0:Int) (_:Unit)=>[(8,.tv (eI i0))]:=⟨⟩
  exact au
theorem lm:CK f285 (Rq [Aj 2] [0]<|Rq [Aa 3 0,Aa 4 0,Br 5 3 4,Aa 2 5] [2]<|.ret) [.tmp 2]:=by decide +kernel
instance s9 (x_0:Int):Ct prog (Jj x_0) 285 [eI x_0] (fun r=>.sh (eB r)):=Fi lm fun r h hw hR=>by
  unfold Jj at h
  exact au
theorem lb:CK f262 (Rq [Ad 4 0] [0,1]<|Rq [Aa 7 0,Ba 8 285 7,Aa 5 8] [0,1,5]<|Rq [Aa 9 1,Ba 10 285 9,Aa 6 10] [0,1,5,6]<|Sq (Rq [Aa 11 5] [0,1,6,11]<|Co 11 (Sq (Rq [Aa 12 6] [12]<|Co 12 (Rq [Ad 4 0] [4]<|.ret)<|Sk [])<|Rq [Bt 4 (-1)] [4]<|.ret)<|Sk [0,1,6])<|Sq (Rq [Aa 13 6] [0,1,13]<|Co 13 (Rq [Ad 4 1] [4]<|.ret)<|Sk [0,1])<|Sq (Rq [Aa 14 0,Aa 15 1,Am 16 14 15] [0,1,16]<|Co 16 (Rq [Bt 4 (-1)] [4]<|.ret)<|Sk [0,1])<|Sq (Rq [Aa 17 0,Aa 18 1,Ez 19 17 18] [19]<|Co 19 (Rq [Ad 4 1] [4]<|.ret)<|Sk [])<|Rq [Ad 4 0] [4]<|.ret) [.tmp 4]:=by decide +kernel
instance su (x_0:Int) (y:Int):Ct prog (IQ x_0 y) 262 [eI x_0,eI y] (fun r=>.sh (eI r)):=Fi lb fun r h hw hR=>by
  unfold IQ at h
  exact au
theorem ln:CK f286 (Rq [Aj 2] [0]<|Rq [Aa 3 0,Aa 4 0,Br 5 3 4,Aa 2 5] [2]<|.ret) [.tmp 2]:=by decide +kernel
instance tA (x_0:Int):Ct prog (JO x_0) 286 [J4 x_0] (fun r=>.sh (eB r)):=Fi ln fun r h hw hR=>by
  unfold JO at h
  exact au
theorem lc:CK f263 (Rq [Ad 4 0] [0,1]<|Rq [Aa 7 0,Ba 8 286 7,Aa 5 8] [0,1,5]<|Rq [Aa 9 1,Ba 10 286 9,Aa 6 10] [0,1,5,6]<|Sq (Rq [Aa 11 5] [0,1,6,11]<|Co 11 (Sq (Rq [Aa 12 6] [12]<|Co 12 (Rq [Ad 4 0] [4]<|.ret)<|Sk [])<|Rq [Bt 4 (-1)] [4]<|.ret)<|Sk [0,1,6])<|Sq (Rq [Aa 13 6] [0,1,13]<|Co 13 (Rq [Ad 4 1] [4]<|.ret)<|Sk [0,1])<|Sq (Rq [Aa 14 0,Aa 15 1,Am 16 14 15] [0,1,16]<|Co 16 (Rq [Bt 4 (-1)] [4]<|.ret)<|Sk [0,1])<|Sq (Rq [Aa 17 0,Aa 18 1,Ez 19 17 18] [19]<|Co 19 (Rq [Ad 4 1] [4]<|.ret)<|Sk [])<|Rq [Ad 4 0] [4]<|.ret) [.tmp 4]:=by decide +kernel
instance sv (x_0:Int) (y:Int):Ct prog (IR x_0 y) 263 [J4 x_0,J4 y] (fun r=>.sh (eI r)):=Fi lc fun r h hw hR=>by
  unfold IR at h
  exact au
theorem k6:CK f233 (Rq [Ag 2 0,Ag 3 1,Aj 4] [2,3]<|Rq [Db 13 259 3,Aa 5 13] [2,5]<|Rq [Aa 15 5,Ab 16 2 1,Ae 17 16 2,Da 18 15 17,Aa 14 18,An 19 14 0,An 20 14 1,An 21 14 2,Aa 6 19,Aa 7 20,Aa 8 21] [2,5,6,7,8]<|Rq [Aa 23 5,Ab 24 2 3,Ae 25 24 2,Da 26 23 25,Aa 22 26,An 27 22 0,An 28 22 1,An 29 22 2,Aa 9 27,Aa 10 28,Aa 11 29] [2,6,7,8,9,10,11]<|Sq (Rq [Aa 30 8,Be 31 30,Aa 32 31,Au 33 11 32,Bs 34 33 32,Aq 35 32 34] [2,6,7,9,10,35]<|Co 35 (Rq [Aj 4] [4]<|.ret)<|Sk [2,6,7,9,10])<|Rq [Aa 36 6,Aa 37 9,Av 38 262 36 37,Aa 39 7,Aa 40 10,Av 41 263 39 40,Ea 42 1 38 41,Ba 43 261 42,Aa 12 43] [2,12]<|Rq [Ab 44 2 0,Ac 45 44,Bc 46 45 1,Aa 47 46,As 48 12 47,Cl 49 48 0 47,Ap 50 47 49,Aa 51 50,Ar 52 2 0 51,Ao 53 52 51,He 54 53 2 51,Au 55 54 51,As 56 12 55,Cv 57 56 0 55,Cf 58 55 57 51,Aq 59 51 58,Aa 4 59] [4]<|.ret) [.tmp 4]:=by decide +kernel
instance sR (x_0:Test) (BB:List Int):Ct prog (GW x_0 BB) 233 [Ln x_0,lI BB] (fun r=>.sh (eB r)):=Fi k6 fun r h hw hR=>by
  unfold GW at h
  exact au
theorem j8:CK f178 (Rq [Ag 3 0,Ag 4 1,Ag 5 2,Bb 6 1,Ad 7 0] [3,4,5]<|Sq (Dr [8,9,16,17,18,19,20,21] [Ab 16 3 3,Ac 17 16,Ft 18 1 0 17,Ab 19 3 3,Ac 20 19,Ey 21 1 20,Ci 8 18,Ci 9 21] [3,4,5,8,9])<|Sq (Rq [Ab 22 3 2,Ac 23 22,Ah 24 23,Ad 25 0] [3,4,5,8,9,23,24,25]<|Bl 0<|Lo [3,4,5,8,9,23,24,25]<|Rq [Am 26 25 24] [3,4,5,8,9,23,24,25,26]<|Sq (Co 26 (Sk [3,4,5,8,9,23,24,25])<|Ex 0 [3,8])<|Sq (Bl 1<|Rq [Ai 27 23 25 4,Ae 28 27 4,Dz 11 0 0 0 0,Ak 4 11 28] [3,4,5,8,9,11,23,24,25]<|Sq (Dr [12,29,30,31,32,33,34,35,36,37,38,39,40,41,42] [Ab 29 4 2,Ac 30 29,Ab 31 5 0,Ac 32 31,Ab 33 11 0,Ac 34 33,Ai 35 32 34 1,Ac 36 35,Ai 37 30 36 1,Ac 38 37,Ab 39 11 1,Ac 40 39,Ai 41 38 40 1,Ac 42 41,Aa 12 42] [3,4,5,8,9,11,12,23,24,25])<|Sq (Rq [Ab 43 11 2,Af 44 43 0,Ac 45 44,Aa 13 45] [3,4,5,8,9,11,12,13,23,24,25]<|Rq [Aa 46 13,Bp 47 46 0,Aa 48 47,Gk 49 9 48,As 50 13 48,Gl 51 49 50 1 48,Gm 52 51 48,Ei 53 52 48,Ap 54 48 53] [3,4,5,8,9,11,12,13,23,24,25,54]<|Co 54 (Re [Bu 55 8,Aa 56 13,Bu 57 9,Aa 58 13,Aa 59 12,Ab 60 11 2,Af 61 60 1,Ac 62 61,Dv 63 59 62,Cj 64 55 56 1,Dw 64 63,Cj 65 57 58 1,Eh 65] [3,4,5,8,9,11,12,23,24,25])<|Sk [3,4,5,8,9,11,12,23,24,25])<|Rq [Ab 66 11 2,Ae 67 66 2,Bu 68 8,Ek 69 232 67 68,Aa 70 12,Br 71 69 70] [3,4,5,8,9,23,24,25,71]<|Co 71 (Rq [Bb 6 1,Ad 7 11] [6,7]<|.ret)<|Sk [3,4,5,8,9,23,24,25])<|Re [Al 72 25 1,Aa 25 72] [3,4,5,8,9,23,24,25])<|Sq (Rq [Ab 73 3 4,Ac 74 73,Ah 75 74,Ad 76 0] [8,74,75,76]<|Bl 2<|Lo [8,74,75,76]<|Rq [Am 77 76 75] [8,74,75,76,77]<|Sq (Co 77 (Sk [8,74,75,76])<|Ex 2 [8])<|Sq (Bl 3<|Rq [Ai 78 74 76 5,Ae 79 78 5,Fr 15 0 0 0 0 0,Ak 5 15 79] [8,15,74,75,76]<|Rq [Ae 80 15 5,Bu 81 8,Ek 82 233 80 81,Be 83 82] [8,74,75,76,83]<|Co 83 (Rq [Bb 6 1,Ad 7 16] [6,7]<|.ret)<|Sk [8,74,75,76])<|Re [Al 84 76 1,Aa 76 84] [8,74,75,76])<|Rq [Dx 85 8,Ax 6 85,Ad 7 0] [6,7]<|.ret) [.tmp 6,.tmp 7]:=by decide +kernel
instance rX (p:Pattern) (h_1:AY) (m:Morphism):Ct prog (IM p h_1 m) 178 [BA p,IV h_1,BN m] (fun r=>.tp [lI r.1,eI r.2]):=Fi j8 fun r h hw hR=>by
  unfold IM at h
  have:HA 0 25 24 0 fun (i0:Int) (s0:List Int × List Bool)=>[(8,.xo 1 (List.map eI s0.1)),(9,.xo 1 (List.map eB s0.2)),(25,.tv (eI i0))]:=⟨⟩
  have:HA 2 76 75 0 fun (i2:Int) (_:Unit)=>[(76,.tv (eI i2))]:=⟨⟩
  exact au
theorem iz:CK f110 (Rq [Ag 4 0,Ag 5 1,Ag 6 2,Ag 7 3,Bb 8 1,Ad 9 0] [4,5,6,7]<|Sq (Rq [Ae 12 4 2,Ae 13 5 5,Ae 14 6 3,Bf 15 177 12 13 14,Aa 10 15] [4,5,6,7,10]<|Rq [Aa 16 10,Aw 17 16 0] [4,5,6,7,10,17]<|Co 17 (Rq [Aa 18 10,Bb 8 1,Aa 9 18] [8,9]<|.ret)<|Sk [4,5,6,7])<|Sq (Rq [Ae 19 4 2,Ab 20 5 0,Ae 21 20 2,Ab 22 6 0,Ae 23 22 2,Ae 24 7 2,⟨some 25,.call 109 [.s 19,.s 21,.s 23,.s 24,.c (.bool false)],none⟩,Aa 11 25] [5,6,7,11]<|Rq [Aa 26 11,Aw 27 26 0] [5,6,7,11,27]<|Co 27 (Rq [Aa 28 11,Bb 8 1,Aa 9 28] [8,9]<|.ret)<|Sk [5,6,7])<|Rq [Ae 29 5 5,Ae 30 6 3,Ae 31 7 2,Bf 32 178 29 30 31,An 33 32 0,An 34 32 1,Ax 8 33,Aa 9 34] [8,9]<|.ret) [.tmp 8,.tmp 9]:=by decide +kernel
instance qU (t:Types) (p:Pattern) (h_2:AY) (m:Morphism):Ct prog (ET t p h_2 m) 110 [AU t,BA p,IV h_2,BN m] (fun r=>.tp [lI r.1,eI r.2]):=Fi iz fun r h hw hR=>by
  unfold ET at h
  exact au
theorem o2:CK f47 (Rq [Ag 6 0,Ag 7 1,Ag 8 2,Ag 9 3,Ag 10 4,Ad 12 0] [5,6,7,8,9,10]<|Sq (Rq [Ae 19 6 2,Ae 20 7 5,Ae 21 8 9,Bf 22 15 19 20 21,Aa 13 22] [5,6,7,9,10,13]<|Rq [Aa 23 13,Aw 24 23 0] [5,6,7,9,10,13,24]<|Co 24 (Rq [Aa 25 13,Aa 12 25] [12]<|.ret)<|Sk [5,6,7,9,10])<|Sq (Rq [Ae 27 6 2,Ae 28 9 3,Av 29 108 27 28,Aa 26 29,An 30 26 0,An 31 26 1,Aa 14 30,Aa 15 31] [5,6,7,9,10,15]<|Rq [Aa 32 15,Aw 33 32 0] [5,6,7,9,10,15,33]<|Co 33 (Rq [Aa 34 15,Aa 12 34] [12]<|.ret)<|Sk [5,6,7,9,10])<|Sq (Rq [Ae 35 6 2,Ab 36 7 0,Ae 37 36 2,Ab 38 9 0,Ae 39 38 2,Ab 40 10 0,Ae 41 40 2,Aa 42 5,Fa 43 109 35 37 39 41 42,Aa 16 43] [6,7,9,10,16]<|Rq [Aa 44 16,Aw 45 44 0] [6,7,9,10,16,45]<|Co 45 (Rq [Aa 46 16,Aa 12 46] [12]<|.ret)<|Sk [6,7,9,10])<|Rq [Ae 48 6 2,Ae 49 7 5,Ae 50 9 3,Ab 51 10 0,Ae 52 51 2,Cq 53 110 48 49 50 52,Aa 47 53,An 54 47 0,An 55 47 1,Ax 17 54,Aa 18 55] [10,17,18]<|Sq (Rq [Aa 56 18,Aw 57 56 0] [10,17,18,57]<|Co 57 (Rq [Aa 58 18,Aa 12 58] [12]<|.ret)<|Sk [10,17])<|Sq (Rq [Aa 59 17,Ab 60 10 2,Ac 61 60,Av 62 73 59 61,Be 63 62] [63]<|Co 63 (Rq [Ad 12 11] [12]<|.ret)<|Sk [])<|Rq [Ad 12 0] [12]<|.ret) [.tmp 12]:=by decide +kernel
instance uE (t:Types) (p:Pattern) (c:AA) (h_3:AY) (m:AL) (injective:Bool):Ct prog (D4 t p c h_3 m injective) 47 [AU t,BA p,AJ c,IV h_3,CH m,eB injective] (fun r=>.sh (eI r)):=Fi o2 fun r h hw hR=>by
  unfold D4 at h
  exact au
theorem jQ:CK f132 (Rq [Aj 3] [0,1]<|Rq [Aa 4 0,Fo 5 4 (-1),Aa 6 5,Au 7 0 6,Ao 8 1 6,Bz 9 7 8 6,Aq 10 6 9,Aa 3 10] [3]<|.ret) [.tmp 3]:=by decide +kernel
instance qv (k:Int) (c0:Int):Ct prog (LF k c0) 132 [eI k,.pt [eI c0]] (fun r=>.sh (eB r)):=Fi jQ fun r h hw hR=>by
  unfold LF at h
  exact au
theorem pG:CK f63 (Rq [Ag 3 1,Ad 4 0] [0,3]<|Sq (Rq [Aa 5 0,Db 6 132 3,Av 7 81 5 6] [7]<|Co 7 (Rq [Ad 4 6] [4]<|.ret)<|Sk [])<|Rq [Ad 4 0] [4]<|.ret) [.tmp 4]:=by decide +kernel
instance uR (l:List Int) (n:Int):Ct prog (G2 l n) 63 [lI l,eI n] (fun r=>.sh (eI r)):=Fi pG fun r h hw hR=>by
  unfold G2 at h
  exact au
theorem lD:CK f240 (Rq [Ad 4 0] [0,1]<|Sq (Rq [Aa 5 0,⟨some 6,.isn (.s 5),none⟩] [0,1,6]<|Co 6 (Rq [Bt 4 (-1)] [4]<|.ret)<|Sk [0,1])<|Rq [Aa 7 0,Aa 8 1,Ai 9 7 8 1,Ac 10 9,Aa 4 10] [4]<|.ret) [.tmp 4]:=by decide +kernel
instance sW (l:List Int) (i_1:Int):Ct prog (IB l i_1) 240 [lI l,eI i_1] (fun r=>.sh (eI r)):=Fi lD fun r h hw hR=>by
  unfold IB at h
  exact au
theorem lH:CK f243 (Rq [Aj 6] [0,1,2]<|Rq [Aa 9 0,Af 10 9 0,Af 11 10 0,Af 12 11 1,Ac 13 12,Aa 14 1,Ai 15 13 14 3,Ae 16 15 3,Ck 7 0 0 0,Ak 3 7 16] [0,1,2,7]<|Sq (Rq [Aa 17 0,Af 18 17 0,Af 19 18 5,Af 20 19 1,Ac 21 20,Aa 22 1,Av 23 240 21 22,Aa 8 23] [0,2,7,8]<|Rq [Aa 24 8,Bp 25 24 0,Aa 26 25,As 27 8 26,As 28 2 26,Fu 29 27 28 26,Ap 30 26 29] [0,2,7,30]<|Co 30 (Rq [Aj 6] [6]<|.ret)<|Sk [0,2,7])<|Sq (Dr [6,31,32,33,34,35,36,37,38,39,40,41,42,43,44,45,46,47,48,49,50,51,52,53,54,55,56,57,58] [Aa 31 0,Af 32 31 0,Af 33 32 2,Af 34 33 1,Ac 35 34,Aa 36 2,Ai 37 35 36 3,Ae 38 37 3,Ab 39 7 0,Ac 40 39,Aa 41 0,Af 42 41 0,Af 43 42 9,Ac 44 43,Ab 45 7 1,Ac 46 45,Ai 47 44 46 1,Ac 48 47,Aa 49 0,Af 50 49 0,Af 51 50 9,Ac 52 51,Ab 53 7 2,Ac 54 53,Ai 55 52 54 1,Ac 56 55,Fv 57 0 0 0 0 1 40 1 1 48 2 1 56,⟨some 58,.bin (.a [0,0,0]) .eql (.s 38) (.s 57),none⟩,Aa 6 58] [6])<|.ret) [.tmp 6]:=by decide +kernel
instance sZ (f:AH) (i_1:Int) (k:Int):Ct prog (D7 f i_1 k) 243 [.pt (Ok f).cells,eI i_1,eI k] (fun r=>.sh (eB r)):=Fi lH fun r h hw hR=>by
  unfold D7 at h
  exact au
theorem lG:CK f242 (Rq [Aj 2] [0]<|Rq [Aa 8 0,Af 9 8 0,Af 10 9 9,Ac 11 10,Ah 12 11,Bw 13 12 1,Aa 3 13] [0,3]<|Sq (Rq [Aa 14 0,Af 15 14 0,Af 16 15 0,Af 17 16 1,Ac 18 17,Ah 19 18,Ad 20 0] [0,3,18,19,20]<|Bl 0<|Lo [0,3,18,19,20]<|Rq [Am 21 20 19] [0,3,18,19,20,21]<|Sq (Co 21 (Sk [0,3,18,19,20])<|Ex 0 [])<|Sq (Bl 1<|Rq [Aa 22 20,Ai 23 18 20 3,Ae 24 23 3,Ck 5 0 0 0,Aa 4 22,Ak 3 5 24] [0,3,4,5,18,19,20]<|Sq (Rq [Ab 25 5 1,Ac 26 25,Ab 27 5 2,Ac 28 27,Gh 29 26 28,Aa 30 3,Br 31 29 30] [0,3,4,18,19,20,31]<|Co 31 (Ex 1 [0,3,18,19,20])<|Sk [0,3,4,18,19,20])<|Rq [Aj 6] [0,3,4,6,18,19,20]<|Sq (Rq [Aa 32 0,Af 33 32 0,Af 34 33 2,Af 35 34 1,Ac 36 35,Ah 37 36,Ad 38 0] [0,3,4,6,18,19,20,37,38]<|Bl 2<|Lo [0,3,4,6,18,19,20,37,38]<|Rq [Am 39 38 37] [0,3,4,6,18,19,20,37,38,39]<|Sq (Co 39 (Sk [0,3,4,6,18,19,20,37,38])<|Ex 2 [0,3,6,18,19,20])<|Sq (Bl 3<|Rq [Aa 40 38,Aa 7 40] [0,3,4,6,7,18,19,20,37,38]<|Rq [Aa 41 0,Aa 42 4,Aa 43 7,Bf 44 243 41 42 43] [0,3,4,6,18,19,20,37,38,44]<|Co 44 (Rq [Bx 6] [0,3,6,18,19,20]<|Ex 2 [0,3,6,18,19,20])<|Sk [0,3,4,6,18,19,20,37,38])<|Re [Al 45 38 1,Aa 38 45] [0,3,4,6,18,19,20,37,38])<|Rq [Aa 46 6,Be 47 46] [0,3,18,19,20,47]<|Co 47 (Rq [Aj 2] [2]<|.ret)<|Sk [0,3,18,19,20])<|Re [Al 48 20 1,Aa 20 48] [0,3,18,19,20])<|Rq [Bx 2] [2]<|.ret) [.tmp 2]:=by decide +kernel
instance sY (f:AH):Ct prog (CI f) 242 [.pt (Ok f).cells] (fun r=>.sh (eB r)):=Fi lG fun r h hw hR=>by
  unfold CI at h
  have:HA 0 20 19 0 fun (i0:Int) (_:Unit)=>[(20,.tv (eI i0))]:=⟨⟩
  have:HA 2 38 37 0 fun (i2:Int) (s2:Bool)=>[(6,.tv (eB s2)),(38,.tv (eI i2))]:=⟨⟩
  exact au
noncomputable def Tx:PC:=Bl 0<|Sq (Dr [28,29,30,31,32,33,34,35,36,37,38] [Ab 29 0 0,Af 30 29 0,Af 31 30 11,Ac 32 31,Ah 33 32,Ab 34 0 0,Af 35 34 0,Af 36 35 8,Ac 37 36,Cy 38 33 37,Aa 28 38] [0,28])<|Co 28 (Sk [0])<|Sq (Dr [39,40,41,42,43,44,45,46,47,48,49,50,51] [Ab 40 0 0,Af 41 40 0,Af 42 41 9,Cw 43 42,Dn 44 43,Ab 45 0 0,Af 46 45 0,Af 47 46 0,Af 48 47 0,Ac 49 48,Ah 50 49,Am 51 44 50,Aa 39 51] [0,39])<|Co 39 (Rq [Ab 52 0 0,Af 53 52 0,Af 54 53 9,Cw 55 54,Dn 56 55,Aa 2 56] [0,2]<|Rq [Ab 57 0 0,Af 58 57 0,Af 59 58 2,Af 60 59 0,Ac 61 60,Ah 62 61,Ad 63 0] [0,2,61,62,63]<|Bl 1<|Lo [0,2,61,62,63]<|Rq [Am 64 63 62] [0,2,61,62,63,64]<|Sq (Co 64 (Sk [0,2,61,62,63])<|Ex 1 [0])<|Sq (Bl 2<|Rq [Aa 65 63,Ai 66 61 63 1,Ac 67 66,Aa 3 65,Aa 4 67] [0,2,3,4,61,62,63]<|Sq (Rq [Ab 68 0 0,Af 69 68 0,Af 70 69 5,Af 71 70 0,Ac 72 71,Aa 73 2,Av 74 240 72 73,Aa 5 74] [0,2,3,4,5,61,62,63]<|Sq (Dr [75,76,77,78,79,80,81,82,83,84,85,86,87,88,89,90,91,92,93,94,95,96,97,98,99,100,101,102,103,104,105,106,107,108,109,110,111,112,113,114,115] [Aa 75 5,Bp 76 75 0,Aa 77 76,As 78 5 77,As 79 3 77,Fu 80 78 79 77,Ap 81 77 80,Aa 82 81,Ar 83 0 0 82,Bn 84 83 0 82,Bn 85 84 4 82,Ao 86 85 82,Ar 87 0 0 82,Bn 88 87 0 82,Bn 89 88 0 82,Bn 90 89 0 82,Ao 91 90 82,Au 92 2 82,Cb 93 91 92 1 82,Ao 94 93 82,Cb 95 86 94 1 82,Ao 96 95 82,Au 97 4 82,Cb 98 96 97 1 82,Ao 99 98 82,Bs 100 99 82,Aq 101 82 100,Aa 102 101,Ar 103 0 0 102,Bn 104 103 0 102,Bn 105 104 7 102,Ao 106 105 102,Au 107 106 102,Ay 108 0 0 107,By 109 108 0 107,By 110 109 9 107,⟨some 111,.lac (.s 110),some (107,true)⟩,As 112 3 107,⟨some 113,.calll 241 [.s 111,.s 112],some (107,true)⟩,Cf 114 107 113 102,Aq 115 102 114] [0,2,3,61,62,63,115])<|Co 115 (Ex 2 [0,2,61,62,63])<|Sk [0,2,3,61,62,63])<|Rq [Ab 116 0 0,Ab 117 0 0,Af 118 117 0,Af 119 118 9,El 120 119,Aa 121 3,Bh 122 1 121,Ef 123 1 120 122,Af 124 116 0,Af 125 124 9,Em 125 123] [0,2,61,62,63]<|Sq (Rq [Ab 126 0 0,Gn 127 242 126] [0,2,61,62,63,127]<|Co 127 (Re [Ab 128 0 0,Gp 129 198 128 0] [0,2,61,62,63])<|Sk [0,2,61,62,63])<|Re [Ab 130 0 0,Ab 131 0 0,Af 132 131 0,Af 133 132 9,El 134 133,Aa 135 2,⟨some 136,.cut 1 134 (.s 135),none⟩,Af 137 130 0,Af 138 137 9,Em 138 136] [0,2,61,62,63])<|Re [Al 139 63 1,Aa 63 139] [0,2,61,62,63])<|Sq (Dr [140,141,142,143,144,145,146,147,148,149,150,151,152] [Ab 141 0 0,Af 142 141 0,Af 143 142 10,Cw 144 143,Dn 145 144,Ab 146 0 0,Af 147 146 0,Af 148 147 0,Af 149 148 1,Ac 150 149,Ah 151 150,Am 152 145 151,Aa 140 152] [0,140])<|Co 140 (Rq [Ab 153 0 0,Af 154 153 0,Af 155 154 10,Cw 156 155,Dn 157 156,Aa 6 157] [0,6]<|Rq [Ab 158 0 0,Af 159 158 0,Af 160 159 2,Af 161 160 1,Ac 162 161,Ah 163 162,Ad 164 0] [0,6,163,164]<|Bl 3<|Lo [0,6,163,164]<|Rq [Am 165 164 163] [0,6,163,164,165]<|Sq (Co 165 (Sk [0,6,163,164])<|Ex 3 [0])<|Sq (Bl 4<|Rq [Aa 166 164,Aa 7 166] [0,6,7,163,164]<|Sq (Rq [Ab 167 0 0,Aa 168 6,Aa 169 7,⟨some 170,.calll 243 [.s 167,.s 168,.s 169],none⟩,Be 171 170,Aa 172 171,Ar 173 0 0 172,Bn 174 173 0 172,Bn 175 174 7 172,Ao 176 175 172,Au 177 176 172,Ay 178 0 0 177,By 179 178 0 177,By 180 179 10 177,⟨some 181,.lac (.s 180),some (177,true)⟩,As 182 7 177,⟨some 183,.calll 241 [.s 181,.s 182],some (177,true)⟩,Cf 184 177 183 172,Aq 185 172 184] [0,6,7,163,164,185]<|Co 185 (Ex 4 [0,6,163,164])<|Sk [0,6,7,163,164])<|Rq [Ab 186 0 0,Ab 187 0 0,Af 188 187 0,Af 189 188 10,El 190 189,Aa 191 7,Bh 192 1 191,Ef 193 1 190 192,Af 194 186 0,Af 195 194 10,Em 195 193] [0,6,163,164]<|Rq [Ab 196 0 0,Gp 197 198 196 0] [0,6,163,164]<|Re [Ab 198 0 0,Ab 199 0 0,Af 200 199 0,Af 201 200 10,El 202 201,Aa 203 6,⟨some 204,.cut 1 202 (.s 203),none⟩,Af 205 198 0,Af 206 205 10,Em 206 204] [0,6,163,164])<|Re [Al 207 164 1,Aa 164 207] [0,6,163,164])<|Dr [8,9,10,11,12,13,14,15,16,17,18,19,20,21,22,23,24,25,26,27] [Ab 8 0 0,Ab 9 0 0,Af 10 9 0,Af 11 10 11,Ch 12 11,Ab 13 0 0,Af 14 13 0,Af 15 14 9,Cw 16 15,Gn 17 138 16,Ab 18 0 0,Af 19 18 0,Af 20 19 10,Cw 21 20,Gn 22 138 21,Di 23 1 1 0 1 17 1 1 22,Bh 24 2 23,Bj 25 2 12 24,Af 26 8 0,Af 27 26 11,Bm 1 27 25] [0]
theorem kQ:CK f198 Tx []:=by decide +kernel
theorem mR:PC.noClm Tx=true∧PC.noDst 0 Tx=true:=by decide +kernel
theorem ia (n:Nat) (_ih_198:∀ (f:AH),Ct prog (A2 n f) 198 [.undef] (fun r=>.bo (DI f) (DI r) 0 [])) (f:AH):Ct prog (A2 (n+1) f) 198 [.undef] (fun r=>.bo (DI f) (DI r) 0 []):=du kQ mR fun r h hw hwc hR=>by
  unfold Tx
  unfold A2 at h
  have:HA 1 63 62 0 fun (i1:Int) (s1:AH)=>[(0,.bx (DI s1)),(63,.tv (eI i1))]:=⟨⟩
  have:HA 3 164 163 0 fun (i3:Int) (s3:AH)=>[(0,.bx (DI s3)),(164,.tv (eI i3))]:=⟨⟩
  have:HJ 28 fun (w1:AH)=>[(0,.bx (DI w1))]:=⟨⟩
  exact au
theorem iZ:∀ n:Nat,(∀ (f:AH),Ct prog (A2 n f) 198 [.undef] (fun r=>.bo (DI f) (DI r) 0 [])):=by
  intro n
  induction n with
  | zero=>exact (fun f=>⟨fun _ h=>by cases h⟩)
  | succ n ih=>exact ia n ih
instance rp (f:AH):Ct prog (FH f) 198 [.undef] (fun r=>.bo (DI f) (DI r) 0 []):=⟨fun r h=>by
  obtain ⟨N,hN⟩:=DK h
  exact ((iZ N) f).snd r (hN N (Nat.le_refl _))⟩
theorem jR:CK f133 (Rq [Ag 6 0,Ag 7 1,Ag 8 2,Ag 9 3,Bb 12 2] [4,5,6,7,8,9]<|Sq (Dr [13,14,15,16,17,18,19,20,21] [Ae 14 7 2,Ae 15 8 2,Ae 16 6 2,Ba 17 197 16,Ae 18 9 2,Aa 19 4,Aa 20 5,⟨some 21,.bld [.list 1 [],.list 3 [],.list 1 [],.list 3 [],.list 1 [],.list 1 [],.list 1 [],.bool false,.int .i64 0,.nil,.nil,.nil] [(0,2,.s 14),(2,2,.s 15),(4,1,.s 17),(5,2,.s 18),(7,1,.s 19),(8,1,.s 20)],none⟩,⟨some 22,.boxp [none,none,none,none,none,none,none,none,none,some ⟨true,.xl 1 []⟩,some ⟨true,.xl 1 []⟩,some ⟨true,.list 2 []⟩] (.s 21),none⟩,Ab 13 22 0] [13,22])<|Rq [Af 23 13 0,Gp 24 198 23 0] [13,22]<|Rq [Af 25 13 0,Af 26 25 0,Af 27 26 11,Ac 28 27,Ax 12 28] [12]<|.ret) [.tmp 12]:=by decide +kernel
instance qw (t:Types) (p:Graph) (g:Graph) (partial_:Morphism) (injective:Bool) (most:Int):Ct prog (HF t p g partial_ injective most) 133 [AU t,B3 p,B3 g,BN partial_,eB injective,eI most] (fun r=>.sh ((eL 2 BN) r)):=Fi jR fun r h hw hR=>by
  unfold HF at h
  exact au
theorem pH:CK f64 (Rq [Ag 5 0,Ag 6 1,Ag 7 2,Ag 8 3,Bb 10 2,Ad 11 0] [4,5,6,7,8]<|Rq [Ae 13 5 2,Ae 14 6 2,Ae 15 7 2,Ae 16 8 2,Aa 17 4,Gq 18 133 13 14 15 16 17 5001,Ax 12 18] [12]<|Sq (Rq [Aa 19 12,Ah 20 19,Bk 21 20 5000] [12,21]<|Co 21 (Rq [Bb 10 2,Ad 11 3] [10,11]<|.ret)<|Sk [12])<|Rq [Aa 22 12,Ax 10 22,Ad 11 0] [10,11]<|.ret) [.tmp 10,.tmp 11]:=by decide +kernel
instance uS (t:Types) (p:Graph) (g:Graph) (partial_:Morphism) (injective:Bool):Ct prog (JX t p g partial_ injective) 64 [AU t,B3 p,B3 g,BN partial_,eB injective] (fun r=>.tp [(eL 2 BN) r.1,eI r.2]):=Fi pH fun r h hw hR=>by
  unfold JX at h
  exact au
theorem oj:CK f29 (Rq [Ag 5 0,Ag 6 1,Ag 7 2,Ag 8 3,Bb 10 2,Ad 11 0] [4,5,6,7,8]<|Sq (Rq [Ae 15 5 2,Ae 16 6 2,Ae 17 7 2,Bf 18 62 15 16 17,Aa 12 18] [4,5,6,7,8,12]<|Rq [Aa 19 12,Aw 20 19 0] [4,5,6,7,8,12,20]<|Co 20 (Rq [Aa 21 12,Bb 10 2,Aa 11 21] [10,11]<|.ret)<|Sk [4,5,6,7,8])<|Sq (Rq [Ab 22 8 0,Ac 23 22,Ah 24 23,Ab 25 6 0,Ac 26 25,Ah 27 26,Br 28 24 27,Aa 29 28,Ar 30 8 1 29,Ao 31 30 29,Bi 32 31 29,Ar 33 6 1 29,Ao 34 33 29,Bi 35 34 29,Cp 36 32 35 29,Aq 37 29 36] [4,5,6,7,8,37]<|Co 37 (Rq [Bb 10 2,Ad 11 20] [10,11]<|.ret)<|Sk [4,5,6,7,8])<|Sq (Rq [Ab 38 8 0,Ac 39 38,Ab 40 7 0,Ac 41 40,Ah 42 41,Av 43 63 39 42,Aa 13 43] [4,5,6,7,8,13]<|Rq [Aa 44 13,Aw 45 44 0] [4,5,6,7,8,13,45]<|Co 45 (Rq [Aa 46 13,Bb 10 2,Aa 11 46] [10,11]<|.ret)<|Sk [4,5,6,7,8])<|Sq (Rq [Ab 47 8 1,Ac 48 47,Ab 49 7 1,Ac 50 49,Ah 51 50,Av 52 63 48 51,Aa 14 52] [4,5,6,7,8,14]<|Rq [Aa 53 14,Aw 54 53 0] [4,5,6,7,8,14,54]<|Co 54 (Rq [Aa 55 14,Bb 10 2,Aa 11 55] [10,11]<|.ret)<|Sk [4,5,6,7,8])<|Rq [Ae 56 5 2,Ae 57 6 2,Ae 58 7 2,Ae 59 8 2,Aa 60 4,Fa 61 64 56 57 58 59 60,An 62 61 0,An 63 61 1,Ax 10 62,Aa 11 63] [10,11]<|.ret) [.tmp 10,.tmp 11]:=by decide +kernel
instance tu (t:Types) (p:Graph) (g:Graph) (partial_:Morphism) (injective:Bool):Ct prog (FA t p g partial_ injective) 29 [AU t,B3 p,B3 g,BN partial_,eB injective] (fun r=>.tp [(eL 2 BN) r.1,eI r.2]):=Fi oj fun r h hw hR=>by
  unfold FA at h
  exact au
end Go.Sf.Sc
