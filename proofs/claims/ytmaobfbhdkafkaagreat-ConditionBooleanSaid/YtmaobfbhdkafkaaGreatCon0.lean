/- Contracts of the functions. -/
import Derived.Test.YtmaobfbhdkafkaaGreatShort
import Derived.Test.YtmaobfbhdkafkaaGreatRp
import Derived.Test.YtmaobfbhdkafkaaGreatTryzShelf
set_option maxRecDepth 100000
set_option maxHeartbeats 4000000
namespace Go.Sf.Sc
open Go Go.Sf Go.Proofs.Tryz
theorem li:CK f289 (Rq [Aj 2] [0]<|Rq [Aa 3 0,Ep 4 3 97,Aa 5 4,Au 6 0 5,Du 7 6 122 5,Ap 8 5 7,Aa 9 8,As 10 0 9,Gx 11 10 65 9,As 12 11 9,Au 13 0 12,Du 14 13 90 12,Cc 15 12 14 9,Aq 16 9 15,Aa 2 16] [2]<|.ret) [.tmp 2]:=by decide +kernel
instance sx (c:Int):Ct prog (KQ c) 289 [G4 c] (fun r=>.sh (eB r)):=Fi li fun r h hw hR=>by
  unfold KQ at h
  exact au
theorem lj:CK f290 (Rq [Ae 4 0] [0,1]<|Rq [Ae 5 0] [0,1,5]<|Sq (Bl 0<|Lo [0,1,5]<|Sq (Rq [Aa 6 5,Aa 7 0,Cw 8 7,An 9 6 8,Aa 10 9,Au 11 1 10,Au 12 0 10,Au 13 5 10,Ga 14 12 13 10,⟨some 15,.callv (.s 11) [.s 14],some (10,true)⟩,Ap 16 10 15] [0,1,5,16]<|Co 16 (Sk [0,1,5])<|Ex 0 [5])<|Bl 1<|Re [Aa 17 5,Am 18 17 1,Aa 5 18] [0,1,5])<|Rq [Aa 19 5,Aa 4 19] [4]<|.ret) [.tmp 4]:=by decide +kernel
instance sy (s_0:ByteArray) (ok:Int->Option Bool) (UM:FuncId) (k_ok:List TV) [h_ok:∀ (y0:Int),Ct prog (ok y0) UM (G4 y0::k_ok) (fun r=>.sh (eB r))]:Ct prog (Hw s_0 ok) 290 [eS s_0,.clo UM k_ok] (fun r=>.sh (eI r)):=Fi lj fun r h hw hR=>by
  unfold Hw at h
  have:HW 0 fun (s0:Int)=>[(5,.tv (eI s0))]:=⟨⟩
  exact au
theorem lm:CK f292 (Rq [Aj 2] [0]<|Rq [Aa 3 0,Ep 4 3 48,Aa 5 4,Au 6 0 5,Du 7 6 57 5,Ap 8 5 7,Aa 2 8] [2]<|.ret) [.tmp 2]:=by decide +kernel
instance s7 (c:Int):Ct prog (J0 c) 292 [G4 c] (fun r=>.sh (eB r)):=Fi lm fun r h hw hR=>by
  unfold J0 at h
  exact au
theorem ll:CK f291 (Rq [Aj 2] [0]<|Rq [Aa 3 0,Ba 4 289 3,Aa 5 4,As 6 0 5,Dv 7 292 6 5,Aq 8 5 7,Aa 9 8,As 10 0 9,Gy 11 10 95 9,Aq 12 9 11,Aa 2 12] [2]<|.ret) [.tmp 2]:=by decide +kernel
instance sz (c:Int):Ct prog (MC c) 291 [G4 c] (fun r=>.sh (eB r)):=Fi ll fun r h hw hR=>by
  unfold MC at h
  exact au
theorem lz:CK f307 (Rq [Aj 2] [0]<|Rq [Aa 3 0,Ep 4 3 32,Aa 5 4,Au 6 0 5,Du 7 6 126 5,Ap 8 5 7,Aa 9 8,Au 10 0 9,⟨some 11,.bin (.i) .neq (.s 10) (.c (.int .u8 34)),some (9,true)⟩,Ap 12 9 11,Aa 2 12] [2]<|.ret) [.tmp 2]:=by decide +kernel
instance tG (c:Int):Ct prog (Kf c) 307 [G4 c] (fun r=>.sh (eB r)):=Fi lz fun r h hw hR=>by
  unfold Kf at h
  exact au
theorem ln:CK f293 (Rq [Ae 2 0,Ae 3 0] [0]<|Rq [Aa 5 0,⟨some 6,.sslc (.s 5) (some (.c (.int .i64 1))) none,none⟩,Fe 7 290 6 307,Aa 4 7] [0,4]<|Sq (Rq [Aa 8 4,Ee 9 1 8,Aa 10 0,Cw 11 10,Cx 12 9 11,Aa 13 12,As 14 0 13,As 15 4 13,⟨some 16,.bin (.i) .add (.c (.int .i64 1)) (.s 15),some (13,false)⟩,⟨some 17,.sidx (.s 14) (.s 16),some (13,false)⟩,⟨some 18,.bin (.i) .neq (.s 17) (.c (.int .u8 34)),some (13,false)⟩,Aq 19 13 18] [4,19]<|Co 19 (Rq [Ae 2 0,Ae 3 2] [2,3]<|.ret)<|Sk [4])<|Sq (Rq [Aa 20 4,Bk 21 20 60] [4,21]<|Co 21 (Rq [Ae 2 0,Ae 3 3] [2,3]<|.ret)<|Sk [4])<|Rq [Aa 22 4,Am 23 22 2,Aa 2 23,Ae 3 0] [2,3]<|.ret) [.tmp 2,.tmp 3]:=by decide +kernel
instance s8 (s_0:ByteArray):Ct prog (HF s_0) 293 [eS s_0] (fun r=>.tp [eI r.1,eI r.2]):=Fi ln fun r h hw hR=>by
  unfold HF at h
  exact au
theorem lr:CK f296 (Rq [Ae 4 0] [0,1]<|Sq (Rq [Aa 6 0,Ah 7 6,Ae 8 0] [0,1,7,8]<|Bl 0<|Lo [0,1,7,8]<|Rq [An 9 8 7] [0,1,7,8,9]<|Sq (Co 9 (Sk [0,1,7,8])<|Ex 0 [])<|Sq (Bl 1<|Rq [Aa 10 8,Aa 5 10] [0,1,5,7,8]<|Rq [Aa 11 1,Aa 12 0,Aa 13 5,Ai 14 12 13 1,Ac 15 14,Dn 16 11 15] [0,1,5,7,8,16]<|Co 16 (Rq [Aa 17 5,Aa 4 17] [4]<|.ret)<|Sk [0,1,7,8])<|Re [Am 18 8 1,Aa 8 18] [0,1,7,8])<|Rq [Bs 4 (-1)] [4]<|.ret) [.tmp 4]:=by decide +kernel
instance tA (s_0:List ByteArray) (v_1:ByteArray):Ct prog (GQ s_0 v_1) 296 [lB s_0,eS v_1] (fun r=>.sh (eI r)):=Fi lr fun r h hw hR=>by
  unfold GQ at h
  have:HA 0 8 7 0 fun (i0:Int) (_:Unit)=>[(8,.tv (eI i0))]:=⟨⟩
  exact au
theorem lb:CK f268 (Rq [Aj 4] [0,1]<|Rq [Aa 5 0,Aa 6 1,Av 7 296 5 6,Bp 8 7 0,Aa 4 8] [4]<|.ret) [.tmp 4]:=by decide +kernel
instance sq (s_0:List ByteArray) (v_1:ByteArray):Ct prog (DZ s_0 v_1) 268 [lB s_0,eS v_1] (fun r=>.sh (eB r)):=Fi lb fun r h hw hR=>by
  unfold DZ at h
  exact au
theorem lq:CK f294 (Rq [Aj 2] [0]<|Rq [Aa 3 0,Cw 4 3,Bp 5 4 2,Aa 6 5,⟨some 7,.lst 1 [.c (.str ⟨#[45,62]⟩),.c (.str ⟨#[60,61]⟩),.c (.str ⟨#[62,61]⟩),.c (.str ⟨#[61,61]⟩),.c (.str ⟨#[33,61]⟩)],some (6,true)⟩,Au 8 0 6,⟨some 9,.sslc (.s 8) none (some (.c (.int .i64 2))),some (6,true)⟩,Dw 10 268 7 9 6,Ap 11 6 10,Aa 2 11] [2]<|.ret) [.tmp 2]:=by decide +kernel
instance s9 (s_0:ByteArray):Ct prog (MB s_0) 294 [eS s_0] (fun r=>.sh (eB r)):=Fi lq fun r h hw hR=>by
  unfold MB at h
  exact au
theorem n7 (s:ByteArray) (c:Int) (r:Int) (h:strings_IndexByte s c=some r):AS prog 295 [eS s,G4 c] (.sh (eI r)):=by
  unfold strings_IndexByte at h
  cases h
  exact fE (by rfl) ⟨Go.Lib.indexByte_ge _ _,fD _ _⟩ (fun w=>Go.Proofs.Tryz.strings_IndexByte s c w)
instance tR (s:ByteArray) (c:Int):Ct Go.Proofs.Tryz.prog (strings_IndexByte s c) 295 [eS s,G4 c] (fun r=>.sh (eI r)):=⟨n7 s c⟩
theorem lY:CK f266 (Rq [Ae 2 0,Ae 3 0,Ae 4 0] [0]<|Rq [Aa 10 0,⟨some 11,.sidx (.s 10) (.c (.int .i64 0)),none⟩,Aa 5 11] [0,5]<|Sq (Bl 0<|Rq [Aa 13 5,Ba 14 289 13,Aa 12 14] [0,5,12]<|Co 12 (Rq [Aa 15 0,Fe 16 290 15 291,Aa 6 16] [6]<|Sq (Rq [Aa 17 6,Bk 18 17 20] [6,18]<|Co 18 (Rq [Ae 2 0,Ae 3 0,Ae 4 3] [2,3,4]<|.ret)<|Sk [6])<|Rq [Aa 19 6,Ae 2 1,Aa 3 19,Ae 4 0] [2,3,4]<|.ret)<|Rq [Aa 21 5,Ba 22 292 21,Aa 20 22] [0,5,20]<|Co 20 (Rq [Aa 23 0,Fe 24 290 23 292,Aa 7 24] [7]<|Sq (Rq [Aa 25 7,Bk 26 25 9] [7,26]<|Co 26 (Rq [Ae 2 0,Ae 3 0,Ae 4 3] [2,3,4]<|.ret)<|Sk [7])<|Rq [Aa 27 7,Ae 2 2,Aa 3 27,Ae 4 0] [2,3,4]<|.ret)<|Rq [Aa 29 5,Cn 30 29 34,Aa 28 30] [0,5,28]<|Co 28 (Rq [Aa 32 0,Ba 33 293 32,Aa 31 33,Al 34 31 0,Al 35 31 1,Aa 8 34,Aa 9 35] [8,9]<|Rq [Aa 36 8,Aa 37 9,Ae 2 3,Aa 3 36,Aa 4 37] [2,3,4]<|.ret)<|Rq [Aa 39 0,Ba 40 294 39,Aa 38 40] [5,38]<|Co 38 (Rq [Ae 2 4,Ae 3 2,Ae 4 0] [2,3,4]<|.ret)<|Rq [Aa 42 5,⟨some 43,.call 295 [.c (.str ⟨#[123,125,40,41,91,93,44,59,58,61,43,45,42,60,62,33,38,124,46,63]⟩),.s 42],none⟩,Bp 44 43 0,Aa 41 44] [41]<|Co 41 (Rq [Ae 2 4,Ae 3 1,Ae 4 0] [2,3,4]<|.ret)<|Sk [])<|Rq [Ae 2 0,Ae 3 0,Ae 4 2] [2,3,4]<|.ret) [.tmp 2,.tmp 3,.tmp 4]:=by decide +kernel
instance sm (s_0:ByteArray):Ct prog (Ih s_0) 266 [eS s_0] (fun r=>.tp [eI r.1,eI r.2.1,eI r.2.2]):=Fi lY fun r h hw hR=>by
  unfold Ih at h
  exact au
theorem lC:CK f244 (Rq [Af 1 0,Cy 2,Aj 3] [1]<|Rq [Ab 8 1 1,Ac 9 8,Aa 4 9] [1,4]<|Sq (Rq [Ab 10 1 0,Ac 11 10,Bc 12 11 3] [1,4,12]<|Co 12 (Re [Aa 13 4,⟨some 14,.bin (.s) .add (.c (.str ⟨#[34]⟩)) (.s 13),none⟩,⟨some 15,.bin (.s) .add (.s 14) (.c (.str ⟨#[34]⟩)),none⟩,Aa 4 15] [1,4])<|Sk [1,4])<|Sq (Rq [Aa 16 4,⟨some 17,.bin (.s) .eql (.s 16) (.c (.str ⟨#[]⟩)),none⟩] [1,4,17]<|Co 17 (Rq [Cy 2,Aj 3] [2,3]<|.ret)<|Sk [1,4])<|Rq [Aa 19 4,Ba 20 266 19,Aa 18 20,Al 21 18 0,Al 22 18 1,Al 23 18 2,Aa 5 21,Aa 6 22,Aa 7 23] [1,4,5,6,7]<|Rq [Aa 24 4,Aa 25 7,Bc 26 25 0,Aa 27 26,Au 28 5 27,Ay 29 1 0 27,Az 30 29 27,Df 31 28 30 27,Ap 32 27 31,Aa 33 32,Au 34 6 33,Au 35 4 33,Gb 36 35 33,Df 37 34 36 33,Ap 38 33 37,Aa 2 24,Aa 3 38] [2,3]<|.ret) [.tmp 2,.tmp 3]:=by decide +kernel
instance sT (t:E7):Ct prog (Iu t) 244 [Ry t] (fun r=>.tp [eS r.1,eB r.2]):=Fi lC fun r h hw hR=>by
  unfold Iu at h
  have:HJ 12 fun (w1:ByteArray)=>[(4,.tv (eS w1))]:=⟨⟩
  exact au
theorem kP:CK f207 (Rq [Aj 2] [0]<|Rq [Aa 6 0,Ff 7 0 0 0 1 1 1 1 6,Ba 8 244 7,Aa 5 8,Al 9 5 0,Al 10 5 1,Aa 3 9,Aa 4 10] [4]<|Rq [Aa 11 4,Aa 2 11] [2]<|.ret) [.tmp 2]:=by decide +kernel
instance rm (s_0:ByteArray):Ct prog (EG s_0) 207 [eS s_0] (fun r=>.sh (eB r)):=Fi kP fun r h hw hR=>by
  unfold EG at h
  exact au
theorem lD:CK f245 (Rq [Ae 4 0] [0,1]<|Sq (Rq [Aa 6 0,Ah 7 6,Ae 8 0] [0,1,7,8]<|Bl 0<|Lo [0,1,7,8]<|Rq [An 9 8 7] [0,1,7,8,9]<|Sq (Co 9 (Sk [0,1,7,8])<|Ex 0 [])<|Sq (Bl 1<|Rq [Aa 10 8,Aa 5 10] [0,1,5,7,8]<|Rq [Aa 11 1,Aa 12 0,Aa 13 5,Ai 14 12 13 4,Ad 15 14 4,Cz 16 11 15] [0,1,5,7,8,16]<|Co 16 (Rq [Aa 17 5,Aa 4 17] [4]<|.ret)<|Sk [0,1,7,8])<|Re [Am 18 8 1,Aa 8 18] [0,1,7,8])<|Rq [Bs 4 (-1)] [4]<|.ret) [.tmp 4]:=by decide +kernel
instance sU (s_0:List BE) (f:BE->Option Bool) (f_f:FuncId) (k_f:List TV) [h_f:∀ (y0:BE),Ct prog (f y0) f_f (Hq y0::k_f) (fun r=>.sh (eB r))]:Ct prog (DP s_0 f) 245 [lN s_0,.clo f_f k_f] (fun r=>.sh (eI r)):=Fi lD fun r h hw hR=>by
  unfold DP at h
  have:HA 0 8 7 0 fun (i0:Int) (_:Unit)=>[(8,.tv (eI i0))]:=⟨⟩
  exact au
theorem kQ:CK f208 (Rq [Aj 4] [0,1]<|Rq [Aa 5 0,Aa 6 1,Av 7 245 5 6,Bp 8 7 0,Aa 4 8] [4]<|.ret) [.tmp 4]:=by decide +kernel
instance rn (s_0:List BE) (f:BE->Option Bool) (f_f:FuncId) (k_f:List TV) [h_f:∀ (y0:BE),Ct prog (f y0) f_f (Hq y0::k_f) (fun r=>.sh (eB r))]:Ct prog (CM s_0 f) 208 [lN s_0,.clo f_f k_f] (fun r=>.sh (eB r)):=Fi kQ fun r h hw hR=>by
  unfold CM at h
  exact au
theorem kR:CK f209 (Rq [Af 2 0,Aj 3] [1,2]<|Rq [Ab 4 2 0,Ac 5 4,Ab 6 1 0,Ac 7 6,Dn 8 5 7,Aa 3 8] [3]<|.ret) [.tmp 3]:=by decide +kernel
instance ro (m:BE) (c0:BE):Ct prog (ME m c0) 209 [Hq m,.pt (Hq c0).cells] (fun r=>.sh (eB r)):=Fi kR fun r h hw hR=>by
  unfold ME at h
  exact au
theorem kS:CK f210 (Rq [Af 2 0,⟨some 4,.nilx 4,none⟩] [1,2]<|Rq [⟨some 5,.nilx 4,none⟩] [1,2,5]<|Sq (Rq [Ab 7 2 0,Ac 8 7,Aa 9 1,Ai 10 8 9 4,Ag 11 10 1,Ac 12 11,Aa 6 12] [1,2,5,6]<|Rq [Aa 13 6,Bp 14 13 0] [1,2,5,6,14]<|Co 14 (Re [Ad 15 2 2,Aa 16 6,Gc 17 210 15 16,Cj 5 17] [1,2,5])<|Sk [1,2,5])<|Rq [Cj 18 5,Ab 19 2 0,Ac 20 19,Aa 21 1,Ai 22 20 21 4,Ag 23 22 3,Ac 24 23,Fg 25 4 18 24,Cj 4 25] [4]<|.ret) [.tmp 4]:=by decide +kernel
theorem iZ (n:Nat) (_ih_210:∀ (t:Types) (a:Int),Ct prog (DS n t a) 210 [AU t,eI a] (fun r=>.xown 4 (List.map IS r))) (t:Types) (a:Int):Ct prog (DS (n+1) t a) 210 [AU t,eI a] (fun r=>.xown 4 (List.map IS r)):=Fi kS fun r h hw hR=>by
  unfold DS at h
  have:HJ 14 fun (w1:List Attr)=>[(5,.xo 4 (List.map IS w1))]:=⟨⟩
  exact au
theorem iY:∀ n:Nat,(∀ (t:Types) (a:Int),Ct prog (DS n t a) 210 [AU t,eI a] (fun r=>.xown 4 (List.map IS r))):=by
  intro n
  induction n with
  | zero=>exact (fun t a=>⟨fun _ h=>by cases h⟩)
  | succ n ih=>exact iZ n ih
instance rp (t:Types) (a:Int):Ct prog (J1 t a) 210 [AU t,eI a] (fun r=>.xown 4 (List.map IS r)):=⟨fun r h=>by
  obtain ⟨N,hN⟩:=DK h
  exact ((iY N) t a).snd r (hN N (Nat.le_refl _))⟩
theorem lZ:CK f267 (Rq [Ae 4 0] [0,1]<|Sq (Rq [Aa 6 0,Ah 7 6,Ae 8 0] [0,1,7,8]<|Bl 0<|Lo [0,1,7,8]<|Rq [An 9 8 7] [0,1,7,8,9]<|Sq (Co 9 (Sk [0,1,7,8])<|Ex 0 [])<|Sq (Bl 1<|Rq [Aa 10 8,Aa 5 10] [0,1,5,7,8]<|Rq [Aa 11 1,Aa 12 0,Aa 13 5,Ai 14 12 13 4,Ad 15 14 4,Cz 16 11 15] [0,1,5,7,8,16]<|Co 16 (Rq [Aa 17 5,Aa 4 17] [4]<|.ret)<|Sk [0,1,7,8])<|Re [Am 18 8 1,Aa 8 18] [0,1,7,8])<|Rq [Bs 4 (-1)] [4]<|.ret) [.tmp 4]:=by decide +kernel
instance sn (s_0:List Attr) (f:Attr->Option Bool) (f_f:FuncId) (k_f:List TV) [h_f:∀ (y0:Attr),Ct prog (f y0) f_f (IS y0::k_f) (fun r=>.sh (eB r))]:Ct prog (D8 s_0 f) 267 [lA s_0,.clo f_f k_f] (fun r=>.sh (eI r)):=Fi lZ fun r h hw hR=>by
  unfold D8 at h
  have:HA 0 8 7 0 fun (i0:Int) (_:Unit)=>[(8,.tv (eI i0))]:=⟨⟩
  exact au
theorem lF:CK f246 (Rq [Aj 4] [0,1]<|Rq [Aa 5 0,Aa 6 1,Av 7 267 5 6,Bp 8 7 0,Aa 4 8] [4]<|.ret) [.tmp 4]:=by decide +kernel
instance sV (s_0:List Attr) (f:Attr->Option Bool) (f_f:FuncId) (k_f:List TV) [h_f:∀ (y0:Attr),Ct prog (f y0) f_f (IS y0::k_f) (fun r=>.sh (eB r))]:Ct prog (DA s_0 f) 246 [lA s_0,.clo f_f k_f] (fun r=>.sh (eB r)):=Fi lF fun r h hw hR=>by
  unfold DA at h
  exact au
theorem lG:CK f247 (Rq [Af 2 0,Aj 3] [1,2]<|Rq [Ab 4 2 0,Ac 5 4,Ab 6 1 0,Ac 7 6,Dn 8 5 7,Aa 3 8] [3]<|.ret) [.tmp 3]:=by decide +kernel
instance sW (y:Attr) (c0:Attr):Ct prog (Iy y c0) 247 [IS y,.pt (IS c0).cells] (fun r=>.sh (eB r)):=Fi lG fun r h hw hR=>by
  unfold Iy at h
  exact au
theorem lH:CK f248 (Rq [Ae 2 0] [0]<|Sq (Rq [Aa 5 0,Ah 6 5,Bk 7 6 20] [0,7]<|Co 7 (Rq [Ae 2 3] [2]<|.ret)<|Sk [0])<|Sq (Rq [Aa 8 0,Ah 9 8,Ae 10 0] [0,8,9,10]<|Bl 0<|Lo [0,8,9,10]<|Rq [An 11 10 9] [0,8,9,10,11]<|Sq (Co 11 (Sk [0,8,9,10])<|Ex 0 [])<|Sq (Bl 1<|Rq [Aa 12 10,Ai 13 8 10 1,Ac 14 13,Aa 3 12,Aa 4 14] [0,3,4,8,9,10]<|Bl 2<|Rq [Aa 16 4,Ba 17 207 16,Be 18 17,Aa 15 18] [0,3,4,8,9,10,15]<|Co 15 (Rq [Ae 2 2] [2]<|.ret)<|Rq [Aa 20 0,Aa 21 3,Do 22 1 20 21,Aa 23 4,Av 24 268 22 23,Aa 19 24] [0,8,9,10,19]<|Co 19 (Rq [Ae 2 5] [2]<|.ret)<|Sk [0,8,9,10])<|Re [Am 25 10 1,Aa 10 25] [0,8,9,10])<|Rq [Ae 2 0] [2]<|.ret) [.tmp 2]:=by decide +kernel
instance sX (l:List ByteArray):Ct prog (Hy l) 248 [lB l] (fun r=>.sh (eI r)):=Fi lH fun r h hw hR=>by
  unfold Hy at h
  have:HA 0 10 9 0 fun (i0:Int) (_:Unit)=>[(10,.tv (eI i0))]:=⟨⟩
  exact au
theorem kT:CK f211 (Rq [Af 2 0,Ae 4 0] [1,2]<|Sq (Bl 0<|Rq [Ab 8 2 0,Ac 9 8,Ba 10 207 9,Be 11 10,Aa 7 11] [1,2,7]<|Co 7 (Rq [Ae 4 2] [4]<|.ret)<|Rq [Aa 13 1,Da 14 247 2,Av 15 246 13 14,Aa 12 15] [2,12]<|Co 12 (Rq [Ae 4 5] [4]<|.ret)<|Sk [2])<|Sq (Rq [Ab 16 2 3,Ac 17 16,Ba 18 248 17,Aa 5 18] [2,5]<|Rq [Aa 19 5,Aw 20 19 0] [2,5,20]<|Co 20 (Rq [Aa 21 5,Aa 4 21] [4]<|.ret)<|Sk [2])<|Rq [Ab 22 2 1,Ac 23 22,⟨some 24,.bin (.i) .leq (.c (.int .i64 (-1000000))) (.s 23),none⟩,Aa 25 24,Ay 26 2 1 25,Az 27 26 25,Ay 28 2 2 25,Az 29 28 25,Eq 30 27 29 25,Ap 31 25 30,Aa 32 31,Ay 33 2 2 32,Az 34 33 32,Cm 35 34 1000000 32,Ap 36 32 35,Aa 6 36] [2,6]<|Sq (Rq [Ab 37 2 3,Ac 38 37,Ah 39 38,Bk 40 39 0] [2,6,40]<|Co 40 (Re [Ab 41 2 1,Ac 42 41,Bc 43 42 0,Aa 44 43,Ay 45 2 2 44,Az 46 45 44,Ay 47 2 3 44,Az 48 47 44,Bw 49 48 44,Gd 50 49 1 44,Df 51 46 50 44,Ap 52 44 51,Aa 6 52] [6])<|Sk [6])<|Sq (Rq [Aa 53 6,Be 54 53] [54]<|Co 54 (Rq [Ae 4 6] [4]<|.ret)<|Sk [])<|Rq [Ae 4 0] [4]<|.ret) [.tmp 4]:=by decide +kernel
instance rq (x_0:Attr) (before:List Attr):Ct prog (E1 x_0 before) 211 [IS x_0,lA before] (fun r=>.sh (eI r)):=Fi kT fun r h hw hR=>by
  unfold E1 at h
  have:HJ 40 fun (w1:Bool)=>[(6,.tv (eB w1))]:=⟨⟩
  exact au
theorem jP:CK f145 (Rq [Af 2 0,Ae 4 0] [1,2]<|Rq [Ab 9 2 0,Ac 10 9,Aa 11 1,Ai 12 10 11 4,Ad 13 12 4,Fh 5 0 4,Ak 4 5 13,Fj 5] [1,2,5]<|Sq (Bl 0<|Rq [Ab 15 5 0,Ac 16 15,Ba 17 207 16,Be 18 17,Aa 14 18] [1,2,5,14]<|Co 14 (Rq [Ae 4 2] [4]<|.ret)<|Rq [Ab 20 2 0,Ac 21 20,Aa 22 1,Do 23 4 21 22,Da 24 209 5,Av 25 208 23 24,Aa 19 25] [1,2,5,19]<|Co 19 (Rq [Ae 4 5] [4]<|.ret)<|Rq [Ab 27 5 1,Ac 28 27,Ge 29 28 (-1),Aa 30 29,Ar 31 5 1 30,Ao 32 31 30,As 33 1 30,Bz 34 32 33 30,Aq 35 30 34,Aa 26 35] [1,2,5,26]<|Co 26 (Rq [Ae 4 6] [4]<|.ret)<|Rq [Ab 37 5 3,Ac 38 37,Ah 39 38,Bk 40 39 4,Aa 36 40] [1,2,5,36]<|Co 36 (Rq [Ae 4 3] [4]<|.ret)<|Sk [1,2,5])<|Rq [Ad 41 2 2,Aa 42 1,Av 43 210 41 42,Ax 6 43] [5,6]<|Sq (Rq [Aa 44 6,Ah 45 44,Bk 46 45 8] [5,6,46]<|Co 46 (Rq [Ae 4 3] [4]<|.ret)<|Sk [5,6])<|Sq (Rq [Aa 47 6,Ah 48 47,Ab 49 5 3,Ac 50 49,Ah 51 50,Dx 52 48 51,Aa 7 52] [6,7]<|Bl 1<|Lo [6,7]<|Sq (Rq [Aa 53 7,Aa 54 6,Ah 55 54,An 56 53 55] [6,7,56]<|Co 56 (Sk [6,7])<|Ex 1 [])<|Sq (Bl 2<|Sq (Dr [8,59,60,61,62,63,64,65,66] [Aa 59 6,Aa 60 7,Ai 61 59 60 4,Ad 62 61 4,Aa 63 6,Aa 64 7,Do 65 4 63 64,Av 66 211 62 65,Aa 8 66] [6,7,8])<|Rq [Aa 67 8,Aw 68 67 0] [6,7,8,68]<|Co 68 (Rq [Aa 69 8,Aa 4 69] [4]<|.ret)<|Sk [6,7])<|Re [Aa 57 7,Am 58 57 1,Aa 7 58] [6,7])<|Rq [Ae 4 0] [4]<|.ret) [.tmp 4]:=by decide +kernel
instance qr (t:Types) (i_1:Int):Ct prog (Ik t i_1) 145 [AU t,eI i_1] (fun r=>.sh (eI r)):=Fi jP fun r h hw hR=>by
  unfold Ik at h
  have:HA 1 7 6 0 fun (i1:Int) (_:Unit)=>[(7,.tv (eI i1))]:=⟨⟩
  exact au
theorem kU:CK f212 (Rq [Aj 3] [0,1]<|Rq [Aa 4 0,Bp 5 4 0,Aa 6 5,Au 7 0 6,Ay 8 1 0 6,Az 9 8 6,Bw 10 9 6,Er 11 7 10 6,Ap 12 6 11,Aa 3 12] [3]<|.ret) [.tmp 3]:=by decide +kernel
instance rr (n:Int) (c0:Types):Ct prog (KS n c0) 212 [eI n,.pt (AU c0).cells] (fun r=>.sh (eB r)):=Fi kU fun r h hw hR=>by
  unfold KS at h
  exact au
theorem lJ:CK f249 (Rq [Ae 4 0] [0,1]<|Sq (Rq [Aa 6 0,Ah 7 6,Ae 8 0] [0,1,7,8]<|Bl 0<|Lo [0,1,7,8]<|Rq [An 9 8 7] [0,1,7,8,9]<|Sq (Co 9 (Sk [0,1,7,8])<|Ex 0 [])<|Sq (Bl 1<|Rq [Aa 10 8,Aa 5 10] [0,1,5,7,8]<|Rq [Aa 11 1,Aa 12 0,Aa 13 5,Ai 14 12 13 7,Ad 15 14 7,Cz 16 11 15] [0,1,5,7,8,16]<|Co 16 (Rq [Aa 17 5,Aa 4 17] [4]<|.ret)<|Sk [0,1,7,8])<|Re [Am 18 8 1,Aa 8 18] [0,1,7,8])<|Rq [Bs 4 (-1)] [4]<|.ret) [.tmp 4]:=by decide +kernel
instance sY (s_0:List CJ) (f:CJ->Option Bool) (f_f:FuncId) (k_f:List TV) [h_f:∀ (y0:CJ),Ct prog (f y0) f_f (IT y0::k_f) (fun r=>.sh (eB r))]:Ct prog (DO s_0 f) 249 [lX s_0,.clo f_f k_f] (fun r=>.sh (eI r)):=Fi lJ fun r h hw hR=>by
  unfold DO at h
  have:HA 0 8 7 0 fun (i0:Int) (_:Unit)=>[(8,.tv (eI i0))]:=⟨⟩
  exact au
theorem kV:CK f213 (Rq [Aj 4] [0,1]<|Rq [Aa 5 0,Aa 6 1,Av 7 249 5 6,Bp 8 7 0,Aa 4 8] [4]<|.ret) [.tmp 4]:=by decide +kernel
instance rt (s_0:List CJ) (f:CJ->Option Bool) (f_f:FuncId) (k_f:List TV) [h_f:∀ (y0:CJ),Ct prog (f y0) f_f (IT y0::k_f) (fun r=>.sh (eB r))]:Ct prog (CL s_0 f) 213 [lX s_0,.clo f_f k_f] (fun r=>.sh (eB r)):=Fi kV fun r h hw hR=>by
  unfold CL at h
  exact au
theorem kW:CK f214 (Rq [Af 2 0,Aj 3] [1,2]<|Rq [Ab 4 2 0,Ac 5 4,Ab 6 1 0,Ac 7 6,Dn 8 5 7,Aa 3 8] [3]<|.ret) [.tmp 3]:=by decide +kernel
instance ru (y:CJ) (c0:CJ):Ct prog (MD y c0) 214 [IT y,.pt (IT c0).cells] (fun r=>.sh (eB r)):=Fi kW fun r h hw hR=>by
  unfold MD at h
  exact au
theorem kX:CK f215 (Rq [Aj 4] [0,1]<|Rq [Aa 5 0,Bp 6 5 0,Aa 7 6,Au 8 0 7,Cm 9 8 40 7,Ap 10 7 9,Aa 11 10,Au 12 1 11,Gz 13 12 (-1) 11,Au 14 13 11,As 15 1 14,As 16 0 14,Bz 17 15 16 14,As 18 17 14,Au 19 1 18,Cm 20 19 40 18,Cc 21 18 20 14,Ef 22 14 21 11,Ap 23 11 22,Aa 4 23] [4]<|.ret) [.tmp 4]:=by decide +kernel
instance rx (low:Int) (high:Int):Ct prog (Jn low high) 215 [eI low,eI high] (fun r=>.sh (eB r)):=Fi kX fun r h hw hR=>by
  unfold Jn at h
  exact au
theorem jQ:CK f146 (Rq [Af 2 0,Ae 4 0] [1,2]<|Rq [Ab 7 2 1,Ac 8 7,Aa 9 1,Ai 10 8 9 7,Ad 11 10 7,Gf 5 0 0 0 0 0 0,Ak 7 5 11,Fj 5] [1,2,5]<|Rq [Da 12 212 2,Aa 6 12] [1,2,5,6]<|Sq (Bl 0<|Rq [Ab 14 5 0,Ac 15 14,Ba 16 207 15,Be 17 16,Aa 13 17] [1,2,5,6,13]<|Co 13 (Rq [Ae 4 2] [4]<|.ret)<|Rq [Ab 19 2 1,Ac 20 19,Aa 21 1,Do 22 7 20 21,Da 23 214 5,Av 24 213 22 23,Aa 18 24] [5,6,18]<|Co 18 (Rq [Ae 4 5] [4]<|.ret)<|Sq (Rq [Aa 26 6,Ab 27 5 1,Ac 28 27,Cz 29 26 28,Be 30 29,Aa 31 30,As 32 6 31,Ar 33 5 2 31,Ao 34 33 31,⟨some 35,.callv (.s 32) [.s 34],some (31,false)⟩,Br 36 35 31,Aq 37 31 36,Aa 25 37] [5,25]<|Co 25 (Sk [25])<|Re [Ab 38 5 3,Ac 39 38,Ab 40 5 4,Ac 41 40,Av 42 215 39 41,Be 43 42,Aa 44 43,Ar 45 5 5 44,Ao 46 45 44,Ar 47 5 6 44,Ao 48 47 44,Dk 49 215 46 48 44,Br 50 49 44,Aq 51 44 50,Aa 25 51] [25])<|Co 25 (Rq [Ae 4 6] [4]<|.ret)<|Sk [])<|Rq [Ae 4 0] [4]<|.ret) [.tmp 4]:=by decide +kernel
instance qt (t:Types) (i_1:Int):Ct prog (Ij t i_1) 146 [AU t,eI i_1] (fun r=>.sh (eI r)):=Fi jQ fun r h hw hR=>by
  unfold Ij at h
  have:HJ 25 fun (w1:Bool)=>[(25,.tv (eB w1))]:=⟨⟩
  exact au
theorem pH:CK f79 (Rq [Af 1 0,Cy 2,Ae 3 0] [1]<|Sq (Bl 0<|Rq [Ab 11 1 0,Ac 12 11,Ah 13 12,Bc 14 13 0,Aa 10 14] [1,10]<|Co 10 (Rq [Cy 2,Ae 3 7] [2,3]<|.ret)<|Rq [Ab 16 1 0,Ac 17 16,Ah 18 17,Bk 19 18 12,Aa 20 19,Ar 21 1 1 20,Ao 22 21 20,Bi 23 22 20,Cg 24 23 20 20,Aq 25 20 24,Aa 15 25] [1,15]<|Co 15 (Rq [Cy 2,Ae 3 3] [2,3]<|.ret)<|Sk [1])<|Sq (Rq [Ab 26 1 0,Ac 27 26,Ah 28 27,Ae 29 0] [1,27,28,29]<|Bl 1<|Lo [1,27,28,29]<|Rq [An 30 29 28] [1,27,28,29,30]<|Sq (Co 30 (Sk [1,27,28,29])<|Ex 1 [1])<|Sq (Bl 2<|Rq [Aa 31 29,Ai 32 27 29 4,Ad 33 32 4,Fh 5 0 4,Aa 4 31,Ak 4 5 33] [1,4,5,27,28,29]<|Rq [Ad 34 1 2,Aa 35 4,Av 36 145 34 35,Aa 6 36] [1,5,6,27,28,29]<|Rq [Aa 37 6,Aw 38 37 0] [1,5,6,27,28,29,38]<|Co 38 (Rq [Ab 39 5 0,Ac 40 39,Aa 41 6,Aa 2 40,Aa 3 41] [2,3]<|.ret)<|Sk [1,27,28,29])<|Re [Am 42 29 1,Aa 29 42] [1,27,28,29])<|Sq (Rq [Ab 43 1 1,Ac 44 43,Ah 45 44,Ae 46 0] [1,44,45,46]<|Bl 3<|Lo [1,44,45,46]<|Rq [An 47 46 45] [1,44,45,46,47]<|Sq (Co 47 (Sk [1,44,45,46])<|Ex 3 [])<|Sq (Bl 4<|Rq [Aa 48 46,Ai 49 44 46 7,Ad 50 49 7,Gf 8 0 0 0 0 0 0,Aa 7 48,Ak 7 8 50] [1,7,8,44,45,46]<|Rq [Ad 51 1 2,Aa 52 7,Av 53 146 51 52,Aa 9 53] [1,8,9,44,45,46]<|Rq [Aa 54 9,Aw 55 54 0] [1,8,9,44,45,46,55]<|Co 55 (Rq [Ab 56 8 0,Ac 57 56,Aa 58 9,Aa 2 57,Aa 3 58] [2,3]<|.ret)<|Sk [1,44,45,46])<|Re [Am 59 46 1,Aa 46 59] [1,44,45,46])<|Rq [Cy 2,Ae 3 0] [2,3]<|.ret) [.tmp 2,.tmp 3]:=by decide +kernel
instance uQ (t:Types):Ct prog (E6 t) 79 [AU t] (fun r=>.tp [eS r.1,eI r.2]):=Fi pH fun r h hw hR=>by
  unfold E6 at h
  have:HA 1 29 28 0 fun (i1:Int) (_:Unit)=>[(29,.tv (eI i1))]:=⟨⟩
  have:HA 3 46 45 0 fun (i3:Int) (_:Unit)=>[(46,.tv (eI i3))]:=⟨⟩
  exact au
theorem jV:CK f151 (Rq [Ae 4 0] [0,1]<|Sq (Rq [Aa 6 0,Ah 7 6,Ae 8 0] [0,1,7,8]<|Bl 0<|Lo [0,1,7,8]<|Rq [An 9 8 7] [0,1,7,8,9]<|Sq (Co 9 (Sk [0,1,7,8])<|Ex 0 [])<|Sq (Bl 1<|Rq [Aa 10 8,Aa 5 10] [0,1,5,7,8]<|Rq [Aa 11 1,Aa 12 0,Aa 13 5,Ai 14 12 13 1,Ac 15 14,Cz 16 11 15] [0,1,5,7,8,16]<|Co 16 (Rq [Aa 17 5,Aa 4 17] [4]<|.ret)<|Sk [0,1,7,8])<|Re [Am 18 8 1,Aa 8 18] [0,1,7,8])<|Rq [Bs 4 (-1)] [4]<|.ret) [.tmp 4]:=by decide +kernel
instance qy (s_0:List Int) (f:Int->Option Bool) (f_f:FuncId) (k_f:List TV) [h_f:∀ (y0:Int),Ct prog (f y0) f_f (eI y0::k_f) (fun r=>.sh (eB r))]:Ct prog (EM s_0 f) 151 [lI s_0,.clo f_f k_f] (fun r=>.sh (eI r)):=Fi jV fun r h hw hR=>by
  unfold EM at h
  have:HA 0 8 7 0 fun (i0:Int) (_:Unit)=>[(8,.tv (eI i0))]:=⟨⟩
  exact au
theorem pJ:CK f81 (Rq [Aj 4] [0,1]<|Rq [Aa 5 0,Aa 6 1,Av 7 151 5 6,Bp 8 7 0,Aa 4 8] [4]<|.ret) [.tmp 4]:=by decide +kernel
instance uS (s_0:List Int) (f:Int->Option Bool) (f_f:FuncId) (k_f:List TV) [h_f:∀ (y0:Int),Ct prog (f y0) f_f (eI y0::k_f) (fun r=>.sh (eB r))]:Ct prog (BI s_0 f) 81 [lI s_0,.clo f_f k_f] (fun r=>.sh (eB r)):=Fi pJ fun r h hw hR=>by
  unfold BI at h
  exact au
theorem jW:CK f152 (Rq [Ae 4 0] [0,1]<|Sq (Rq [Aa 6 0,Ah 7 6,Ae 8 0] [0,1,7,8]<|Bl 0<|Lo [0,1,7,8]<|Rq [An 9 8 7] [0,1,7,8,9]<|Sq (Co 9 (Sk [0,1,7,8])<|Ex 0 [])<|Sq (Bl 1<|Rq [Aa 10 8,Aa 5 10] [0,1,5,7,8]<|Rq [Aa 11 1,Aa 12 0,Aa 13 5,Ai 14 12 13 3,Ad 15 14 3,Cz 16 11 15] [0,1,5,7,8,16]<|Co 16 (Rq [Aa 17 5,Aa 4 17] [4]<|.ret)<|Sk [0,1,7,8])<|Re [Am 18 8 1,Aa 8 18] [0,1,7,8])<|Rq [Bs 4 (-1)] [4]<|.ret) [.tmp 4]:=by decide +kernel
instance qz (s_0:List B6) (f:B6->Option Bool) (f_f:FuncId) (k_f:List TV) [h_f:∀ (y0:B6),Ct prog (f y0) f_f (EB y0::k_f) (fun r=>.sh (eB r))]:Ct prog (D9 s_0 f) 152 [lE s_0,.clo f_f k_f] (fun r=>.sh (eI r)):=Fi jW fun r h hw hR=>by
  unfold D9 at h
  have:HA 0 8 7 0 fun (i0:Int) (_:Unit)=>[(8,.tv (eI i0))]:=⟨⟩
  exact au
theorem pL:CK f83 (Rq [Aj 4] [0,1]<|Rq [Aa 5 0,Aa 6 1,Av 7 152 5 6,Bp 8 7 0,Aa 4 8] [4]<|.ret) [.tmp 4]:=by decide +kernel
instance uU (s_0:List B6) (f:B6->Option Bool) (f_f:FuncId) (k_f:List TV) [h_f:∀ (y0:B6),Ct prog (f y0) f_f (EB y0::k_f) (fun r=>.sh (eB r))]:Ct prog (BT s_0 f) 83 [lE s_0,.clo f_f k_f] (fun r=>.sh (eB r)):=Fi pL fun r h hw hR=>by
  unfold BT at h
  exact au
theorem jS:CK f148 (Rq [Aj 4] [0,1]<|Rq [Aa 5 0,Bp 6 5 0,Aa 7 6,Au 8 0 7,Au 9 1 7,Eq 10 8 9 7,Ap 11 7 10,Aa 4 11] [4]<|.ret) [.tmp 4]:=by decide +kernel
instance qv (n:Int) (most:Int):Ct prog (H6 n most) 148 [eI n,eI most] (fun r=>.sh (eB r)):=Fi jS fun r h hw hR=>by
  unfold H6 at h
  exact au
theorem jR:CK f147 (Rq [Aj 2] [0]<|Rq [Aa 3 0,Es 4 148 3 99,Be 5 4,Aa 2 5] [2]<|.ret) [.tmp 2]:=by decide +kernel
instance qu (t:Int):Ct prog (LB t) 147 [eI t] (fun r=>.sh (eB r)):=Fi jR fun r h hw hR=>by
  unfold LB at h
  exact au
theorem jU:CK f150 (Rq [Af 2 0,Aj 4] [1,2]<|Rq [Ab 5 2 0,Ac 6 5,Es 7 148 6 99,Aa 8 7,Ay 9 2 1 8,Az 10 9 8,Au 11 1 8,Gd 12 11 1 8,Dw 13 148 10 12 8,Ap 14 8 13,Aa 15 14,Ay 16 2 2 15,Az 17 16 15,Au 18 1 15,Gd 19 18 1 15,Dw 20 148 17 19 15,Ap 21 15 20,Aa 4 21] [4]<|.ret) [.tmp 4]:=by decide +kernel
instance qx (e:B6) (nodes:Int):Ct prog (Lp e nodes) 150 [EB e,eI nodes] (fun r=>.sh (eB r)):=Fi jU fun r h hw hR=>by
  unfold Lp at h
  exact au
theorem jT:CK f149 (Rq [Af 2 0,Aj 3] [1,2]<|Rq [Ad 4 2 3,Ab 5 1 0,Ac 6 5,Ah 7 6,Av 8 150 4 7,Be 9 8,Aa 3 9] [3]<|.ret) [.tmp 3]:=by decide +kernel
instance qw (e:B6) (c0:Graph):Ct prog (LC e c0) 149 [EB e,.pt (CA c0).cells] (fun r=>.sh (eB r)):=Fi jT fun r h hw hR=>by
  unfold LC at h
  exact au
theorem pI:CK f80 (Rq [Af 1 0,Ae 2 0] [1]<|Sq (Rq [Ab 3 1 0,Ac 4 3,Ah 5 4,Bk 6 5 40,Aa 7 6,Ar 8 1 1 7,Ao 9 8 7,Bi 10 9 7,Cg 11 10 80 7,Aq 12 7 11] [1,12]<|Co 12 (Rq [Ae 2 3] [2]<|.ret)<|Sk [1])<|Sq (Rq [Ab 13 1 0,Ac 14 13,Fe 15 81 14 147] [1,15]<|Co 15 (Rq [Ae 2 6] [2]<|.ret)<|Sk [1])<|Sq (Rq [Ab 16 1 1,Ac 17 16,Da 18 149 1,Av 19 83 17 18] [19]<|Co 19 (Rq [Ae 2 6] [2]<|.ret)<|Sk [])<|Rq [Ae 2 0] [2]<|.ret) [.tmp 2]:=by decide +kernel
instance uR (g:Graph):Ct prog (DY g) 80 [CA g] (fun r=>.sh (eI r)):=Fi pI fun r h hw hR=>by
  unfold DY at h
  exact au
theorem pK:CK f82 (Rq [Aj 3] [0,1]<|Rq [Aa 4 0,Ab 5 1 0,Ac 6 5,Ah 7 6,Cs 8 4 7,Aa 3 8] [3]<|.ret) [.tmp 3]:=by decide +kernel
instance uT (n:Int) (c0:Types):Ct prog (HQ n c0) 82 [eI n,.pt (AU c0).cells] (fun r=>.sh (eB r)):=Fi pK fun r h hw hR=>by
  unfold HQ at h
  exact au
theorem pM:CK f84 (Rq [Af 2 0,Aj 3] [1,2]<|Rq [Ab 4 2 0,Ac 5 4,Ab 6 1 1,Ac 7 6,Ah 8 7,Cs 9 5 8,Aa 3 9] [3]<|.ret) [.tmp 3]:=by decide +kernel
instance uV (x_0:B6) (c0:Types):Ct prog (HT x_0 c0) 84 [EB x_0,.pt (AU c0).cells] (fun r=>.sh (eB r)):=Fi pM fun r h hw hR=>by
  unfold HT at h
  exact au
theorem pN:CK f85 (Rq [Aj 6] [0,1,2]<|Rq [Aa 7 0,Aa 8 1,Cs 9 7 8,Aa 10 9,Au 11 0 10,Au 12 2 10,Eq 13 11 12 10,Ap 14 10 13,Aa 6 14] [6]<|.ret) [.tmp 6]:=by decide +kernel
instance uW (n:Int) (low:Int) (high:Int):Ct prog (C8 n low high) 85 [eI n,eI low,eI high] (fun r=>.sh (eB r)):=Fi pN fun r h hw hR=>by
  unfold C8 at h
  exact au
theorem lK:CK f250 (Rq [Aj 3] [0,1]<|Rq [Aa 4 0,Cd 5 4 0,Aa 6 5,As 7 0 6,Ar 8 1 0 6,Ao 9 8 6,Bi 10 9 6,Bz 11 7 10 6,Aq 12 6 11,Aa 3 12] [3]<|.ret) [.tmp 3]:=by decide +kernel
instance sZ (a:Int) (c0:Types):Ct prog (LF a c0) 250 [eI a,.pt (AU c0).cells] (fun r=>.sh (eB r)):=Fi lK fun r h hw hR=>by
  unfold LF at h
  exact au
theorem kY:CK f216 (Rq [Af 2 0,Ae 4 0] [1,2]<|Sq (Rq [Ad 8 2 2,Ba 9 79 8,Aa 7 9,Al 10 7 0,Al 11 7 1,Aa 5 10,Aa 6 11] [1,2,6]<|Rq [Aa 12 6,Aw 13 12 0] [1,2,6,13]<|Co 13 (Rq [Aa 14 6,Aa 4 14] [4]<|.ret)<|Sk [1,2])<|Sq (Rq [Aa 15 1,Da 16 250 2,Av 17 81 15 16] [17]<|Co 17 (Rq [Ae 4 6] [4]<|.ret)<|Sk [])<|Rq [Ae 4 0] [4]<|.ret) [.tmp 4]:=by decide +kernel
instance ry (t:Types) (l:List Int):Ct prog (FW t l) 216 [AU t,lI l] (fun r=>.sh (eI r)):=Fi kY fun r h hw hR=>by
  unfold FW at h
  exact au
theorem kZ:CK f217 (Rq [Bb 2 1] [0]<|Sq (Rq [Aa 3 0,⟨some 4,.isn (.s 3),none⟩] [0,4]<|Co 4 (Rq [Bb 2 1] [2]<|.ret)<|Sk [0])<|Rq [Db 5 1,Aa 6 0,Bj 7 1 5 6,Ax 2 7] [2]<|.ret) [.tmp 2]:=by decide +kernel
instance rz (s_0:List ByteArray):Ct prog (slices_Clone_string s_0) 217 [lB s_0] (fun r=>.own (lB r)):=Fi kZ fun r h hw hR=>by
  unfold slices_Clone_string at h
  exact au
theorem jX:CK f153 (Rq [Af 2 0,Bb 4 4,Ae 5 0] [1,2]<|Sq (Rq [Ad 9 2 2,Aa 10 1,Bh 11 1 10,Av 12 216 9 11,Aa 6 12] [1,2,6]<|Rq [Aa 13 6,Aw 14 13 0] [1,2,6,14]<|Co 14 (Rq [Aa 15 6,Bb 4 4,Aa 5 15] [4,5]<|.ret)<|Sk [1,2])<|Rq [Ad 16 2 2,Aa 17 1,Gc 18 210 16 17,Cj 7 18] [7]<|Sq (Rq [Bu 19 7,Dp 20 19,Ae 21 0] [7,20,21]<|Bl 0<|Lo [7,20,21]<|Rq [An 22 21 20] [7,20,21,22]<|Sq (Co 22 (Sk [7,20,21])<|Ex 0 [7])<|Sq (Bl 1<|Rq [Aa 23 21,Aa 8 23] [7,8,20,21]<|Re [Bu 24 7,Aa 25 8,Bu 26 7,Aa 27 8,Cp 28 26 27 4,⟨some 29,.xfa (.s 28) 3,none⟩,⟨some 30,.xld (.s 29),none⟩,Ba 31 217 30,Cp 32 24 25 4,⟨some 33,.xfa (.s 32) 3,none⟩,Et 33 31] [7,20,21])<|Re [Am 34 21 1,Aa 21 34] [7,20,21])<|Rq [Dy 35 7,Ax 4 35,Ae 5 0] [4,5]<|.ret) [.tmp 4,.tmp 5]:=by decide +kernel
instance q0 (t:Types) (a:Int):Ct prog (G2 t a) 153 [AU t,eI a] (fun r=>.tp [lA r.1,eI r.2]):=Fi jX fun r h hw hR=>by
  unfold G2 at h
  have:HA 0 21 20 0 fun (i0:Int) (s0:List Attr)=>[(7,.xo 4 (List.map IS s0)),(21,.tv (eI i0))]:=⟨⟩
  have:HS 31:=⟨⟩
  have:HX 33 fun (a:Attr) (v:List ByteArray)=>Attr.mk a.Name a.Low a.High v:=⟨⟩
  exact au
theorem pO:CK f86 (Rq [Af 3 0,Af 4 1,Af 5 2,Dz 6 0 0 1,Aj 7] [3,4,5,6]<|Sq (Rq [Ab 10 5 0,Ac 11 10,Ab 12 4 0,Ag 13 12 0,Ac 14 13,Ah 15 14,Bx 16 15 1,Fk 17 85 11 0 16,Be 18 17] [3,4,5,6,18]<|Co 18 (Rq [Fm 19 0 0 1,Ak 4 6 19,Aj 7] [6,7]<|.ret)<|Sk [3,4,5,6])<|Sq (Dr [8,9,20,21,22,23,24,25,26,27,28,29,30,31] [Ad 21 3 2,Ab 22 4 0,Ag 23 22 0,Ac 24 23,Ab 25 5 0,Ac 26 25,Ai 27 24 26 1,Ac 28 27,Av 29 153 21 28,Aa 20 29,Al 30 20 0,Al 31 20 1,Ax 8 30,Aa 9 31] [5,6,8])<|Sq (Rq [Ab 32 5 1,Ac 33 32,Aa 34 8,Ah 35 34,Bx 36 35 1,Fk 37 85 33 0 36,Be 38 37] [5,6,8,38]<|Co 38 (Rq [Fm 39 0 0 1,Ak 4 6 39,Aj 7] [6,7]<|.ret)<|Sk [5,6,8])<|Rq [Aa 40 8,Ab 41 5 1,Ac 42 41,Ai 43 40 42 4,Ad 44 43 4,Ak 4 6 44,Bv 7] [6,7]<|.ret) [.cell 6 (some 4),.tmp 7]:=by decide +kernel
instance uX (t:Types) (p:Pattern) (s_2:CT):Ct prog (FH t p s_2) 86 [AU t,BA p,Mb s_2] (fun r=>.tp [IS r.1,eB r.2]):=Fi pO fun r h hw hR=>by
  unfold FH at h
  exact au
theorem kc:CK f218 (Rq [Af 3 1,Aj 4] [0,3]<|Rq [Ab 5 3 0,Ac 6 5,⟨some 7,.bin (.i) .geq (.s 6) (.c (.int .i64 (-1))),none⟩,Aa 8 7,Ay 9 3 0 8,Az 10 9 8,Au 11 0 8,Er 12 10 11 8,Ap 13 8 12,Aa 14 13,Ay 15 3 1 14,Az 16 15 14,⟨some 17,.bin (.i) .geq (.s 16) (.c (.int .i64 (-1000000))),some (14,true)⟩,Ap 18 14 17,Aa 19 18,Ay 20 3 1 19,Az 21 20 19,Cm 22 21 1000000 19,Ap 23 19 22,Aa 4 23] [4]<|.ret) [.tmp 4]:=by decide +kernel
instance r0 (n:Int) (t:Term):Ct prog (IR n t) 218 [eI n,PW t] (fun r=>.sh (eB r)):=Fi kc fun r h hw hR=>by
  unfold IR at h
  exact au
theorem jY:CK f154 (Rq [Af 3 1,Ae 4 0] [0,3]<|Sq (Bl 0<|Rq [Ab 6 3 0,Ac 7 6,Aw 8 7 1,Aa 9 8,Ay 10 3 0 9,Az 11 10 9,Gg 12 11 2 9,Ap 13 9 12,Aa 5 13] [0,3,5]<|Co 5 (Rq [Ae 4 1] [4]<|.ret)<|Rq [Aa 15 0,Ab 16 3 1,Ad 17 16 2,Av 18 218 15 17,Be 19 18,Aa 20 19,As 21 0 20,Ar 22 3 3 20,Ce 23 22 2 20,Dk 24 218 21 23 20,Br 25 24 20,Aq 26 20 25,Aa 14 26] [14]<|Co 14 (Rq [Ae 4 6] [4]<|.ret)<|Sk [])<|Rq [Ae 4 0] [4]<|.ret) [.tmp 4]:=by decide +kernel
instance q5 (n:Int) (x_1:Test):Ct prog (I2 n x_1) 154 [eI n,Lk x_1] (fun r=>.sh (eI r)):=Fi jY fun r h hw hR=>by
  unfold I2 at h
  exact au
theorem pP:CK f87 (Rq [Ae 4 0] [0,1]<|Sq (Rq [Aa 8 0,Cd 9 8 0,Aa 10 9,As 11 0 10,Cg 12 11 12 10,Aq 13 10 12] [0,1,13]<|Co 13 (Rq [Ae 4 6] [4]<|.ret)<|Sk [0,1])<|Sq (Rq [Aa 14 1,Ah 15 14,Bk 16 15 40] [0,1,16]<|Co 16 (Rq [Ae 4 3] [4]<|.ret)<|Sk [0,1])<|Sq (Rq [Aa 17 1,Ah 18 17,Ae 19 0] [0,17,18,19]<|Bl 0<|Lo [0,17,18,19]<|Rq [An 20 19 18] [0,17,18,19,20]<|Sq (Co 20 (Sk [0,17,18,19])<|Ex 0 [])<|Sq (Bl 1<|Rq [Ai 21 17 19 5,Ad 22 21 5,Fo 6 0 0 0 0 0,Ak 5 6 22] [0,6,17,18,19]<|Rq [Aa 23 0,Ad 24 6 5,Av 25 154 23 24,Aa 7 25] [0,7,17,18,19]<|Rq [Aa 26 7,Aw 27 26 0] [0,7,17,18,19,27]<|Co 27 (Rq [Aa 28 7,Aa 4 28] [4]<|.ret)<|Sk [0,17,18,19])<|Re [Am 29 19 1,Aa 19 29] [0,17,18,19])<|Rq [Ae 4 0] [4]<|.ret) [.tmp 4]:=by decide +kernel
instance uY (n:Int) (l:List Test):Ct prog (H4 n l) 87 [eI n,lT l] (fun r=>.sh (eI r)):=Fi pP fun r h hw hR=>by
  unfold H4 at h
  have:HA 0 19 18 0 fun (i0:Int) (_:Unit)=>[(19,.tv (eI i0))]:=⟨⟩
  exact au
theorem jZ:CK f155 (Rq [Ae 4 0] [0,1]<|Sq (Rq [Aa 6 0,Ah 7 6,Ae 8 0] [0,1,7,8]<|Bl 0<|Lo [0,1,7,8]<|Rq [An 9 8 7] [0,1,7,8,9]<|Sq (Co 9 (Sk [0,1,7,8])<|Ex 0 [])<|Sq (Bl 1<|Rq [Aa 10 8,Aa 5 10] [0,1,5,7,8]<|Rq [Aa 11 1,Aa 12 0,Aa 13 5,Ai 14 12 13 1,Ac 15 14,⟨some 16,.bin (.b) .eql (.s 11) (.s 15),none⟩] [0,1,5,7,8,16]<|Co 16 (Rq [Aa 17 5,Aa 4 17] [4]<|.ret)<|Sk [0,1,7,8])<|Re [Am 18 8 1,Aa 8 18] [0,1,7,8])<|Rq [Bs 4 (-1)] [4]<|.ret) [.tmp 4]:=by decide +kernel
instance q6 (s_0:List Bool) (v_1:Bool):Ct prog (Ix s_0 v_1) 155 [(eL 1 eB) s_0,eB v_1] (fun r=>.sh (eI r)):=Fi jZ fun r h hw hR=>by
  unfold Ix at h
  have:HA 0 8 7 0 fun (i0:Int) (_:Unit)=>[(8,.tv (eI i0))]:=⟨⟩
  exact au
theorem pQ:CK f88 (Rq [Aj 4] [0,1]<|Rq [Aa 5 0,Aa 6 1,Av 7 155 5 6,Bp 8 7 0,Aa 4 8] [4]<|.ret) [.tmp 4]:=by decide +kernel
instance uZ (s_0:List Bool) (v_1:Bool):Ct prog (GA s_0 v_1) 88 [(eL 1 eB) s_0,eB v_1] (fun r=>.sh (eB r)):=Fi pQ fun r h hw hR=>by
  unfold GA at h
  exact au
theorem oj:CK f39 (Rq [Af 2 0,Af 3 1,Ae 4 0] [2,3]<|Sq (Rq [Ad 15 2 2,Ba 16 79 15,Aa 14 16,Al 17 14 0,Al 18 14 1,Aa 5 17,Aa 6 18] [2,3,6]<|Rq [Aa 19 6,Aw 20 19 0] [2,3,6,20]<|Co 20 (Rq [Aa 21 6,Aa 4 21] [4]<|.ret)<|Sk [2,3])<|Sq (Rq [Ab 22 3 0,Ad 23 22 2,Ba 24 80 23,Aa 7 24] [2,3,7]<|Rq [Aa 25 7,Aw 26 25 0] [2,3,7,26]<|Co 26 (Rq [Aa 27 7,Aa 4 27] [4]<|.ret)<|Sk [2,3])<|Sq (Rq [Ab 28 3 0,Ag 29 28 0,Ac 30 29,Da 31 82 2,Av 32 81 30 31,Aa 33 32,Ar 34 3 0 33,Bn 35 34 1 33,Ao 36 35 33,⟨some 37,.clo 84 [.s 2],some (33,false)⟩,Dk 38 83 36 37 33,Aq 39 33 38] [2,3,39]<|Co 39 (Rq [Ae 4 13] [4]<|.ret)<|Sk [2,3])<|Sq (Rq [Ab 40 3 3,Ac 41 40,Ha 42 85 41 0 12,Be 43 42] [2,3,43]<|Co 43 (Rq [Ae 4 6] [4]<|.ret)<|Sk [2,3])<|Sq (Rq [Ab 44 3 2,Ac 45 44,Ah 46 45,Bk 47 46 10,Aa 48 47,Ar 49 3 4 48,Ao 50 49 48,Bi 51 50 48,Cg 52 51 10 48,Aq 53 48 52] [2,3,53]<|Co 53 (Rq [Ae 4 3] [4]<|.ret)<|Sk [2,3])<|Rq [Ab 54 3 3,Ac 55 54,Eu 56 1 55,Cj 8 56] [2,3,8]<|Sq (Rq [Ab 57 3 2,Ac 58 57,Ah 59 58,Ae 60 0] [2,3,8,58,59,60]<|Bl 0<|Lo [2,3,8,58,59,60]<|Rq [An 61 60 59] [2,3,8,58,59,60,61]<|Sq (Co 61 (Sk [2,3,8,58,59,60])<|Ex 0 [3,8])<|Sq (Bl 1<|Rq [Ai 62 58 60 4,Ad 63 62 4,Ea 10 0 0 0 0,Ak 4 10 63] [2,3,8,10,58,59,60]<|Sq (Rq [Ad 65 2 2,Ad 66 3 5,Ad 67 10 4,Bf 68 86 65 66 67,Aa 64 68,Al 69 64 0,Al 70 64 1,Dz 11 0 0 1,Ak 4 11 69,Aa 12 70] [2,3,8,10,12,58,59,60]<|Rq [Aa 71 12,Be 72 71,Aa 73 72,Ar 74 10 2 73,Bn 75 74 0 73,Ao 76 75 73,Ar 77 3 3 73,Ao 78 77 73,Fp 79 78 1 73,⟨some 80,.call 85 [.s 76,.c (.int .i64 (-1)),.s 79],some (73,false)⟩,Br 81 80 73,Aq 82 73 81,Aa 83 82,Ar 84 10 2 83,Bn 85 84 1 83,Ao 86 85 83,⟨some 87,.call 85 [.s 86,.c (.int .i64 (-1000000)),.c (.int .i64 1000000)],some (83,false)⟩,Br 88 87 83,Aq 89 83 88] [2,3,8,10,58,59,60,89]<|Co 89 (Rq [Ae 4 6] [4]<|.ret)<|Sk [2,3,8,10,58,59,60])<|Rq [Ab 90 10 2,Ag 91 90 0,Ac 92 91,Bp 93 92 0] [2,3,8,10,58,59,60,93]<|Co 93 (Re [Bu 94 8,Ab 95 10 2,Ag 96 95 0,Ac 97 96,Cp 98 94 97 1,Eg 98] [2,3,8,58,59,60])<|Sk [2,3,8,58,59,60])<|Re [Am 99 60 1,Aa 60 99] [2,3,8,58,59,60])<|Sq (Rq [Ab 100 3 3,Ac 101 100,Ab 102 3 4,Ac 103 102,Av 104 87 101 103,Aa 13 104] [8,13]<|Rq [Aa 105 13,Aw 106 105 0] [8,13,106]<|Co 106 (Rq [Aa 107 13,Aa 4 107] [4]<|.ret)<|Sk [8])<|Sq (Rq [Bu 108 8,⟨some 109,.calll 88 [.s 108,.c (.bool false)],none⟩] [109]<|Co 109 (Rq [Ae 4 9] [4]<|.ret)<|Sk [])<|Rq [Ae 4 0] [4]<|.ret) [.tmp 4]:=by decide +kernel
instance tq (t:Types) (p:Pattern):Ct prog (DT t p) 39 [AU t,BA p] (fun r=>.sh (eI r)):=Fi oj fun r h hw hR=>by
  unfold DT at h
  have:HA 0 60 59 0 fun (i0:Int) (s0:List Bool)=>[(8,.xo 1 (List.map eB s0)),(60,.tv (eI i0))]:=⟨⟩
  exact au
theorem ja:CK f156 (Rq [Af 1 0,Aj 2] [1]<|Rq [Ab 4 1 4,Ad 5 4 5,Dc 3 1 3 4 0 5,Ak 5 3 5] [1,3]<|Rq [Ab 6 1 2,Ag 7 6 0,Ac 8 7,Ah 9 8,Ab 10 1 2,Ag 11 10 1,Ac 12 11,Ah 13 12,Bm 14 9 13,Ab 15 3 0,Ag 16 15 0,Ac 17 16,Ah 18 17,Bm 19 14 18,Ab 20 3 0,Ag 21 20 1,Ac 22 21,Ah 23 22,Bm 24 19 23,Ab 25 3 2,Ac 26 25,Ah 27 26,Bm 28 24 27,Ab 29 3 4,Ac 30 29,Ah 31 30,Bm 32 28 31,Bc 33 32 0,Aa 34 33,Ay 35 3 3 34,Az 36 35 34,Cu 37 36 0 34,Ap 38 34 37,Aa 2 38] [2]<|.ret) [.tmp 2]:=by decide +kernel
instance q7 (c:AA):Ct prog (FI c) 156 [AJ c] (fun r=>.sh (eB r)):=Fi ja fun r h hw hR=>by
  unfold FI at h
  exact au
theorem ke:CK f219 (Rq [Ae 4 0] [0,1]<|Sq (Rq [Aa 6 0,Ah 7 6,Ae 8 0] [0,1,7,8]<|Bl 0<|Lo [0,1,7,8]<|Rq [An 9 8 7] [0,1,7,8,9]<|Sq (Co 9 (Sk [0,1,7,8])<|Ex 0 [])<|Sq (Bl 1<|Rq [Aa 10 8,Aa 5 10] [0,1,5,7,8]<|Rq [Aa 11 1,Aa 12 0,Aa 13 5,Ai 14 12 13 9,Ad 15 14 9,Cz 16 11 15] [0,1,5,7,8,16]<|Co 16 (Rq [Aa 17 5,Aa 4 17] [4]<|.ret)<|Sk [0,1,7,8])<|Re [Am 18 8 1,Aa 8 18] [0,1,7,8])<|Rq [Bs 4 (-1)] [4]<|.ret) [.tmp 4]:=by decide +kernel
instance sA (s_0:List AA) (f:AA->Option Bool) (f_f:FuncId) (k_f:List TV) [h_f:∀ (y0:AA),Ct prog (f y0) f_f (AJ y0::k_f) (fun r=>.sh (eB r))]:Ct prog (DF s_0 f) 219 [FQ s_0,.clo f_f k_f] (fun r=>.sh (eI r)):=Fi ke fun r h hw hR=>by
  unfold DF at h
  have:HA 0 8 7 0 fun (i0:Int) (_:Unit)=>[(8,.tv (eI i0))]:=⟨⟩
  exact au
theorem jc:CK f157 (Rq [Aj 4] [0,1]<|Rq [Aa 5 0,Aa 6 1,Av 7 219 5 6,Bp 8 7 0,Aa 4 8] [4]<|.ret) [.tmp 4]:=by decide +kernel
instance q8 (s_0:List AA) (f:AA->Option Bool) (f_f:FuncId) (k_f:List TV) [h_f:∀ (y0:AA),Ct prog (f y0) f_f (AJ y0::k_f) (fun r=>.sh (eB r))]:Ct prog (B0 s_0 f) 157 [FQ s_0,.clo f_f k_f] (fun r=>.sh (eB r)):=Fi jc fun r h hw hR=>by
  unfold B0 at h
  exact au
theorem pR:CK f89 (Rq [Af 1 0,Aj 2] [1]<|Rq [Ab 5 1 1,Ac 6 5,Ah 7 6,Aa 3 7] [1,3]<|Rq [Aj 4] [1,3,4]<|Sq (Rq [Ab 8 1 0,Ac 9 8] [1,3,4,9]<|Bl 0<|Rq [Bc 11 9 1,Aa 10 11] [1,3,4,9,10]<|Co 10 (Re [Aa 12 3,Bc 13 12 0,Aa 14 13,Bg 15 1 9 14,Ca 16 156 15 14,Ap 17 14 16,Aa 4 17] [1,4])<|Rq [Bc 19 9 2,Aa 18 19] [1,3,4,9,18]<|Co 18 (Re [Aa 20 3,Bc 21 20 1,Aa 22 21,Bg 23 1 9 22,Ca 24 156 23 22,Ap 25 22 24,Aa 4 25] [1,4])<|Sq (Rq [Bc 27 9 3,Aa 26 27] [1,3,4,9,26]<|Co 26 (Sk [1,3,4,9,26])<|Re [Bc 28 9 4,Aa 26 28] [1,3,4,9,26])<|Co 26 (Re [Aa 29 3,Bp 30 29 1,Aa 31 30,Bg 32 1 9 31,Ca 33 156 32 31,Ap 34 31 33,Aa 4 34] [1,4])<|Rq [Bc 36 9 5,Aa 35 36] [1,3,4,35]<|Co 35 (Re [Aa 37 3,Bc 38 37 1,Aa 4 38] [1,4])<|Sk [1,4])<|Rq [Aa 39 4,Aa 40 39,Ay 41 1 1 40,Az 42 41 40,⟨some 43,.call 157 [.s 42,.c (.clo 158 [])],some (40,true)⟩,Eh 44 43 40,Ap 45 40 44,Aa 2 45] [2]<|.ret) [.tmp 2]:=by decide +kernel
theorem je:CK f158 (Rq [Af 1 0,Aj 2] [1]<|Rq [Ad 3 1 9,Ba 4 89 3,Be 5 4,Aa 2 5] [2]<|.ret) [.tmp 2]:=by decide +kernel
theorem oN (n:Nat) (_ih_89:∀ (c:AA),Ct prog (BL n c) 89 [AJ c] (fun r=>.sh (eB r))) (_ih_158:∀ (k:AA),Ct prog (BP n k) 158 [AJ k] (fun r=>.sh (eB r))) (c:AA):Ct prog (BL (n+1) c) 89 [AJ c] (fun r=>.sh (eB r)):=Fi pR fun r h hw hR=>by
  unfold BL at h
  have:HJ 10 fun (w1:Bool)=>[(4,.tv (eB w1))]:=⟨⟩
  exact au
theorem iP (n:Nat) (_ih_89:∀ (c:AA),Ct prog (BL n c) 89 [AJ c] (fun r=>.sh (eB r))) (_ih_158:∀ (k:AA),Ct prog (BP n k) 158 [AJ k] (fun r=>.sh (eB r))) (k:AA):Ct prog (BP (n+1) k) 158 [AJ k] (fun r=>.sh (eB r)):=Fi je fun r h hw hR=>by
  unfold BP at h
  exact au
theorem ei:∀ n:Nat,(∀ (c:AA),Ct prog (BL n c) 89 [AJ c] (fun r=>.sh (eB r)))∧(∀ (k:AA),Ct prog (BP n k) 158 [AJ k] (fun r=>.sh (eB r))):=by
  intro n
  induction n with
  | zero=>exact ⟨(fun c=>⟨fun _ h=>by cases h⟩),(fun k=>⟨fun _ h=>by cases h⟩)⟩
  | succ n ih=>exact ⟨oN n ih.1 ih.2,iP n ih.1 ih.2⟩
instance ua (c:AA):Ct prog (F3 c) 89 [AJ c] (fun r=>.sh (eB r)):=⟨fun r h=>by
  obtain ⟨N,hN⟩:=DK h
  exact ((ei N).1 c).snd r (hN N (Nat.le_refl _))⟩
instance q9 (k:AA):Ct prog (OS k) 158 [AJ k] (fun r=>.sh (eB r)):=⟨fun r h=>by
  obtain ⟨N,hN⟩:=DK h
  exact ((ei N).2 k).snd r (hN N (Nat.le_refl _))⟩
theorem pS:CK f90 (Rq [Af 1 0,Ae 2 0,Ae 3 0] [1]<|Rq [Ae 4 1,Ae 5 0] [1,4,5]<|Sq (Rq [Ab 10 1 1,Ac 11 10,Ah 12 11,Ae 13 0] [1,4,5,11,12,13]<|Bl 0<|Lo [1,4,5,11,12,13]<|Rq [An 14 13 12] [1,4,5,11,12,13,14]<|Sq (Co 14 (Sk [1,4,5,11,12,13])<|Ex 0 [1,4,5])<|Sq (Bl 1<|Rq [Ai 15 11 13 9,Ad 16 15 9,Ck 7 0 9 1 1 1 3 4 0 5,Ak 9 7 16] [1,4,5,7,11,12,13]<|Rq [Ad 18 7 9,Ba 19 90 18,Aa 17 19,Al 20 17 0,Al 21 17 1,Aa 8 20,Aa 9 21] [1,4,5,8,9,11,12,13]<|Re [Aa 22 4,Aa 23 8,Bm 24 22 23,Aa 25 5,Aa 26 9,Gh 27 25 26,Aa 4 24,Aa 5 27] [1,4,5,11,12,13])<|Re [Am 28 13 1,Aa 13 28] [1,4,5,11,12,13])<|Sq (Rq [Ab 29 1 0,Ac 30 29,Bc 31 30 5] [4,5,31]<|Co 31 (Re [Aa 32 5,Am 33 32 1,Aa 5 33] [4,5])<|Sk [4,5])<|Rq [Aa 34 4,Aa 35 5,Aa 2 34,Aa 3 35] [2,3]<|.ret) [.tmp 2,.tmp 3]:=by decide +kernel
theorem oP (n:Nat) (_ih_90:∀ (c:AA),Ct prog (CQ n c) 90 [AJ c] (fun r=>.tp [eI r.1,eI r.2])) (c:AA):Ct prog (CQ (n+1) c) 90 [AJ c] (fun r=>.tp [eI r.1,eI r.2]):=Fi pS fun r h hw hR=>by
  unfold CQ at h
  have:HA 0 13 12 0 fun (i0:Int) (s0:Int × Int)=>[(4,.tv (eI s0.1)),(5,.tv (eI s0.2)),(13,.tv (eI i0))]:=⟨⟩
  have:HJ 31 fun (w1:Int)=>[(5,.tv (eI w1))]:=⟨⟩
  exact au
theorem oO:∀ n:Nat,(∀ (c:AA),Ct prog (CQ n c) 90 [AJ c] (fun r=>.tp [eI r.1,eI r.2])):=by
  intro n
  induction n with
  | zero=>exact (fun c=>⟨fun _ h=>by cases h⟩)
  | succ n ih=>exact oP n ih
instance ub (c:AA):Ct prog (HU c) 90 [AJ c] (fun r=>.tp [eI r.1,eI r.2]):=⟨fun r h=>by
  obtain ⟨N,hN⟩:=DK h
  exact ((oO N) c).snd r (hN N (Nat.le_refl _))⟩
theorem ol:CK f40 (Rq [Af 1 0,Ae 2 0] [1]<|Sq (Rq [Ad 5 1 9,Ba 6 89 5,Be 7 6] [1,7]<|Co 7 (Rq [Ae 2 1] [2]<|.ret)<|Sk [1])<|Sq (Rq [Ad 9 1 9,Ba 10 90 9,Aa 8 10,Al 11 8 0,Al 12 8 1,Aa 3 11,Aa 4 12] [3,4]<|Rq [Aa 13 3,Bk 14 13 12,Aa 15 14,As 16 4 15,Cg 17 16 3 15,Aq 18 15 17] [18]<|Co 18 (Rq [Ae 2 3] [2]<|.ret)<|Sk [])<|Rq [Ae 2 0] [2]<|.ret) [.tmp 2]:=by decide +kernel
instance tr (c:AA):Ct prog (EY c) 40 [AJ c] (fun r=>.sh (eI r)):=Fi ol fun r h hw hR=>by
  unfold EY at h
  exact au
theorem kf:CK f220 (Rq [Ae 4 0] [0,1]<|Sq (Rq [Aa 6 0,Ah 7 6,Ae 8 0] [0,1,7,8]<|Bl 0<|Lo [0,1,7,8]<|Rq [An 9 8 7] [0,1,7,8,9]<|Sq (Co 9 (Sk [0,1,7,8])<|Ex 0 [])<|Sq (Bl 1<|Rq [Aa 10 8,Aa 5 10] [0,1,5,7,8]<|Rq [Aa 11 1,Aa 12 0,Aa 13 5,Ai 14 12 13 4,Ad 15 14 4,Cz 16 11 15] [0,1,5,7,8,16]<|Co 16 (Rq [Aa 17 5,Aa 4 17] [4]<|.ret)<|Sk [0,1,7,8])<|Re [Am 18 8 1,Aa 8 18] [0,1,7,8])<|Rq [Bs 4 (-1)] [4]<|.ret) [.tmp 4]:=by decide +kernel
instance sB (s_0:List CT) (f:CT->Option Bool) (f_f:FuncId) (k_f:List TV) [h_f:∀ (y0:CT),Ct prog (f y0) f_f (Mb y0::k_f) (fun r=>.sh (eB r))]:Ct prog (EA s_0 f) 220 [lS s_0,.clo f_f k_f] (fun r=>.sh (eI r)):=Fi kf fun r h hw hR=>by
  unfold EA at h
  have:HA 0 8 7 0 fun (i0:Int) (_:Unit)=>[(8,.tv (eI i0))]:=⟨⟩
  exact au
theorem jf:CK f159 (Rq [Aj 4] [0,1]<|Rq [Aa 5 0,Aa 6 1,Av 7 220 5 6,Bp 8 7 0,Aa 4 8] [4]<|.ret) [.tmp 4]:=by decide +kernel
instance rA (s_0:List CT) (f:CT->Option Bool) (f_f:FuncId) (k_f:List TV) [h_f:∀ (y0:CT),Ct prog (f y0) f_f (Mb y0::k_f) (fun r=>.sh (eB r))]:Ct prog (DB s_0 f) 159 [lS s_0,.clo f_f k_f] (fun r=>.sh (eB r)):=Fi jf fun r h hw hR=>by
  unfold DB at h
  exact au
theorem jg:CK f160 (Rq [Af 2 0,Aj 3] [1,2]<|Rq [Ab 4 2 2,Ag 5 4 0,Ac 6 5,Ac 7 1,Cx 8 6 7,Aa 3 8] [3]<|.ret) [.tmp 3]:=by decide +kernel
instance rB (s_0:CT) (c0:Int):Ct prog (ID s_0 c0) 160 [Mb s_0,.pt [eI c0]] (fun r=>.sh (eB r)):=Fi jg fun r h hw hR=>by
  unfold ID at h
  exact au
theorem pT:CK f91 (Rq [Af 3 0,Af 4 1,Ae 6 0] [2,3,4]<|Rq [Ad 9 3 2,Ad 10 4 5,Av 11 39 9 10,Aa 7 11] [2,4,7]<|Sq (Rq [Aa 12 7,Aw 13 12 9] [2,4,7,13]<|Co 13 (Rq [Aa 14 7,Aa 6 14] [6]<|.ret)<|Sk [2,4,7])<|Sq (Rq [Aa 15 2,⟨some 8,.alc [⟨false,.int .i64 0⟩],none⟩,Ak 1 8 15,Fj 8] [4,7,8]<|Bl 0<|Lo [4,7,8]<|Sq (Rq [Ac 16 8,Ab 17 4 3,Ac 18 17,An 19 16 18] [4,7,8,19]<|Co 19 (Sk [4,7,8])<|Ex 0 [])<|Sq (Bl 1<|Rq [Ab 22 4 2,Ac 23 22,Da 24 160 8,Av 25 159 23 24,Be 26 25] [4,7,8,26]<|Co 26 (Rq [Aa 27 7,Aa 6 27] [6]<|.ret)<|Sk [4,7,8])<|Sq (Rq [Ac 28 8] [4,7,28]<|Re [⟨some 8,.alc [⟨false,.int .i64 0⟩],none⟩,Ak 1 8 28] [4,7,8])<|Re [Ac 20 8,Am 21 20 1,Ak 1 8 21,Fj 8] [4,7,8])<|Rq [Ae 6 0] [6]<|.ret) [.tmp 6]:=by decide +kernel
instance uc (t:Types) (q:Pattern) (outer:Int):Ct prog (D1 t q outer) 91 [AU t,BA q,eI outer] (fun r=>.sh (eI r)):=Fi pT fun r h hw hR=>by
  unfold D1 at h
  have:HW 0 fun (s0:Int)=>[(8,.tv (.pt [eI s0]))]:=⟨⟩
  exact au
theorem pU:CK f92 (Rq [Af 3 0,Af 4 1,Af 5 2,Ae 6 0] [3,4,5]<|Sq (Rq [Ad 15 3 2,Ba 16 80 15,Aa 7 16] [3,4,5,7]<|Rq [Aa 17 7,Aw 18 17 0] [3,4,5,7,18]<|Co 18 (Rq [Aa 19 7,Aa 6 19] [6]<|.ret)<|Sk [3,4,5])<|Sq (Rq [Ad 20 4 2,Ba 21 80 20,Aa 8 21] [3,4,5,8]<|Rq [Aa 22 8,Aw 23 22 0] [3,4,5,8,23]<|Co 23 (Rq [Aa 24 8,Aa 6 24] [6]<|.ret)<|Sk [3,4,5])<|Sq (Rq [Ab 25 5 0,Ac 26 25,Ah 27 26,Ab 28 3 0,Ac 29 28,Ah 30 29,Bt 31 27 30,Aa 32 31,Ar 33 5 1 32,Ao 34 33 32,Bi 35 34 32,Ar 36 3 1 32,Ao 37 36 32,Bi 38 37 32,Cv 39 35 38 32,Aq 40 32 39] [3,4,5,40]<|Co 40 (Rq [Ae 6 20] [6]<|.ret)<|Sk [3,4,5])<|Sq (Rq [Ab 41 5 0,Ac 42 41,Ah 43 42,Ae 44 0] [3,4,5,42,43,44]<|Bl 0<|Lo [3,4,5,42,43,44]<|Rq [An 45 44 43] [3,4,5,42,43,44,45]<|Sq (Co 45 (Sk [3,4,5,42,43,44])<|Ex 0 [3,4,5])<|Sq (Bl 1<|Rq [Aa 46 44,Ai 47 42 44 1,Ac 48 47,Aa 9 46,Aa 10 48] [3,4,5,9,10,42,43,44]<|Sq (Rq [Aa 49 10,Cd 50 49 0,Aa 51 50,As 52 10 51,Ar 53 4 0 51,Ao 54 53 51,Bi 55 54 51,Bz 56 52 55 51,Aq 57 51 56] [3,4,5,9,10,42,43,44,57]<|Co 57 (Rq [Ae 6 6] [6]<|.ret)<|Sk [3,4,5,9,10,42,43,44])<|Sq (Dr [58,59,60,61,62,63,64,65,66,67,68] [Ab 58 4 0,Ac 59 58,Aa 60 10,Ai 61 59 60 1,Ac 62 61,Ab 63 3 0,Ac 64 63,Aa 65 9,Ai 66 64 65 1,Ac 67 66,Bt 68 62 67] [3,4,5,42,43,44,68])<|Co 68 (Rq [Ae 6 13] [6]<|.ret)<|Sk [3,4,5,42,43,44])<|Re [Am 69 44 1,Aa 44 69] [3,4,5,42,43,44])<|Sq (Rq [Ab 70 5 1,Ac 71 70,Ah 72 71,Ae 73 0] [3,4,5,71,72,73]<|Bl 2<|Lo [3,4,5,71,72,73]<|Rq [An 74 73 72] [3,4,5,71,72,73,74]<|Sq (Co 74 (Sk [3,4,5,71,72,73])<|Ex 2 [])<|Sq (Bl 3<|Rq [Aa 75 73,Ai 76 71 73 1,Ac 77 76,Aa 11 75,Aa 12 77] [3,4,5,11,12,71,72,73]<|Sq (Rq [Aa 78 12,Cd 79 78 0,Aa 80 79,As 81 12 80,Ar 82 4 1 80,Ao 83 82 80,Bi 84 83 80,Bz 85 81 84 80,Aq 86 80 85] [3,4,5,11,12,71,72,73,86]<|Co 86 (Rq [Ae 6 6] [6]<|.ret)<|Sk [3,4,5,11,12,71,72,73])<|Sq (Dr [13,14,87,88,89,90,91,92,93,94,95,96] [Ab 87 3 1,Ac 88 87,Aa 89 11,Ai 90 88 89 3,Ad 91 90 3,Ab 92 4 1,Ac 93 92,Aa 94 12,Ai 95 93 94 3,Ad 96 95 3,Cl 13 0 0 0,Cl 14 0 0 0,Ak 3 13 91,Ak 3 14 96] [3,4,5,13,14,71,72,73])<|Sq (Rq [Ab 97 13 0,Ac 98 97,Ab 99 14 0,Ac 100 99,Bt 101 98 100] [3,4,5,13,14,71,72,73,101]<|Co 101 (Rq [Ae 6 13] [6]<|.ret)<|Sk [3,4,5,13,14,71,72,73])<|Sq (Dr [102,103,104,105,106,107,108,109,110,111,112,113,114,115,116,117,118,119,120,121] [Ab 102 5 0,Ac 103 102,Ab 104 13 1,Ac 105 104,Ai 106 103 105 1,Ac 107 106,Ab 108 14 1,Ac 109 108,Bt 110 107 109,Aa 111 110,Ar 112 5 0 111,Ao 113 112 111,Ar 114 13 2 111,Ao 115 114 111,Cf 116 113 115 1 111,Ao 117 116 111,Ar 118 14 2 111,Ao 119 118 111,Cv 120 117 119 111,Aq 121 111 120] [3,4,5,71,72,73,121])<|Co 121 (Rq [Ae 6 11] [6]<|.ret)<|Sk [3,4,5,71,72,73])<|Re [Am 122 73 1,Aa 73 122] [3,4,5,71,72,73])<|Rq [Ae 6 0] [6]<|.ret) [.tmp 6]:=by decide +kernel
instance ud (a:Graph) (b:Graph) (m:Morphism):Ct prog (EH a b m) 92 [CA a,CA b,BS m] (fun r=>.sh (eI r)):=Fi pU fun r h hw hR=>by
  unfold EH at h
  have:HA 0 44 43 0 fun (i0:Int) (_:Unit)=>[(44,.tv (eI i0))]:=⟨⟩
  have:HA 2 73 72 0 fun (i2:Int) (_:Unit)=>[(73,.tv (eI i2))]:=⟨⟩
  exact au
theorem jO:CK f138 (Rq [Bb 2 1] [0]<|Sq (Rq [Aa 3 0,⟨some 4,.isn (.s 3),none⟩] [0,4]<|Co 4 (Rq [Bb 2 1] [2]<|.ret)<|Sk [0])<|Rq [Db 5 1,Aa 6 0,Bj 7 1 5 6,Ax 2 7] [2]<|.ret) [.tmp 2]:=by decide +kernel
instance qq (s_0:List Int):Ct prog (slices_Clone_int s_0) 138 [lI s_0] (fun r=>.own (lI r)):=Fi jO fun r h hw hR=>by
  unfold slices_Clone_int at h
  exact au
theorem nw (l r:List Int) (h:slices_Sort_int l=some r):AS prog 221 [.list 1 (l.map (TV.int .i64))] (.turn r):=by
  unfold slices_Sort_int at h
  rw [←Zn] at h
  split at h
  · rename_i hl
    unfold BF at hl
    cases h
    refine YT (by rfl) (List.length_mergeSort _) (fun x hx=>List.mem_mergeSort.1 hx) (fun w hz=>?_) (fun g cap w _ _ hg hH=>Go.Proofs.Tryz.slices_Sort_int g 0 cap l w hH hg (by omega))
    subst hz
    exact Go.Proofs.Tryz.slices_Sort_int_none none 0 w
  · cases h
instance tM (l:List Int):Ct Go.Proofs.Tryz.prog (slices_Sort_int l) 221 [.list 1 (l.map (TV.int .i64))] B5.turn:=⟨nw l⟩
theorem nx (l r:List Int) (h:slices_Compact_int l=some r):AS prog 222 [.list 1 (l.map (TV.int .i64))] (.cut r):=by
  unfold slices_Compact_int at h
  split at h
  · rename_i hl
    unfold BF at hl
    cases h
    have hle:=Go.Lib.compact_length_le l
    refine ey (rest:=List.replicate (l.length - (Go.Lib.compact l).length) 0) (by rfl) (by rw [List.length_replicate]; omega) (fun x hx=>Vc hx) (fun w hz=>?_) (fun g cap w hc _ hg hH=>Go.Proofs.Tryz.slices_Compact_int g 0 cap l w hH (by omega) hc)
    subst hz
    exact Go.Proofs.Tryz.slices_Compact_int_empty none 0 w
  · cases h
instance tN (l:List Int):Ct Go.Proofs.Tryz.prog (slices_Compact_int l) 222 [.list 1 (l.map (TV.int .i64))] B5.cut:=⟨nx l⟩
theorem jh:CK f161 (Rq [Ae 2 0] [0]<|Rq [Aa 4 0,⟨some 5,.callx 138 [.s 4],none⟩,Cj 3 5] [3]<|Rq [Bu 6 3,⟨some 7,.callm 221 (.s 6),none⟩] [3]<|Rq [Bu 8 3,⟨some 9,.callc 222 (.s 8),none⟩,Dp 10 9,Aa 2 10] [2]<|.ret) [.tmp 2]:=by decide +kernel
instance rC (l:List Int):Ct prog (HK l) 161 [lI l] (fun r=>.sh (eI r)):=Fi jh fun r h hw hR=>by
  unfold HK at h
  exact au
theorem pV:CK f93 (Rq [Af 3 0,Af 4 1,Af 5 2,Aj 6] [3,4,5]<|Sq (Dr [6,7,8,9,10,11,12,13,14,15,16,17,18,19,20,21,22,23,24,25,26,27,28,29] [Ad 7 3 2,Ad 8 4 2,Ad 9 5 2,Bf 10 92 7 8 9,Bc 11 10 0,Aa 12 11,Ay 13 5 0 12,Az 14 13 12,Ca 15 161 14 12,Ay 16 5 0 12,Az 17 16 12,Bw 18 17 12,Df 19 15 18 12,Ap 20 12 19,Aa 21 20,Ay 22 5 1 21,Az 23 22 21,Ca 24 161 23 21,Ay 25 5 1 21,Az 26 25 21,Bw 27 26 21,Df 28 24 27 21,Ap 29 21 28,Aa 6 29] [6])<|.ret) [.tmp 6]:=by decide +kernel
instance ue (a:Graph) (b:Graph) (m:Morphism):Ct prog (DV a b m) 93 [CA a,CA b,BS m] (fun r=>.sh (eB r)):=Fi pV fun r h hw hR=>by
  unfold DV at h
  exact au
theorem om:CK f41 (Rq [Af 3 0,⟨some 4,.boxo (.s 1),none⟩,Af 5 2,Ae 6 0] [3,4,5]<|Sq (Rq [Ab 13 5 0,Ac 14 13,Bc 15 14 5] [3,4,5,15]<|Co 15 (Rq [Ab 16 5 4,Ad 17 16 5,Dc 7 1 3 4 0 5,Ak 5 7 17] [3,4,5,7]<|Sq (Rq [Ab 18 7 3,Ac 19 18,Ab 20 4 3,Ac 21 20,An 22 19 21] [3,4,5,7,22]<|Co 22 (Rq [Ae 6 20] [6]<|.ret)<|Sk [3,4,5,7])<|Sq (Rq [Ad 23 3 2,Ad 24 7 5,Ab 25 4 3,Ac 26 25,Bf 27 91 23 24 26,Aa 8 27] [3,4,5,7,8]<|Rq [Aa 28 8,Aw 29 28 0] [3,4,5,7,8,29]<|Co 29 (Rq [Aa 30 8,Aa 6 30] [6]<|.ret)<|Sk [3,4,5,7])<|Sq (Rq [Ab 31 4 0,Ad 32 31 2,Ab 33 7 0,Ad 34 33 2,Ab 35 5 2,Ad 36 35 2,Bf 37 92 32 34 36,Aa 9 37] [3,4,5,7,9]<|Rq [Aa 38 9,Aw 39 38 0] [3,4,5,7,9,39]<|Co 39 (Rq [Aa 40 9,Aa 6 40] [6]<|.ret)<|Sk [3,4,5,7])<|Sq (Rq [Ab 41 4 0,Ad 42 41 2,Ab 43 7 0,Ad 44 43 2,Ab 45 5 2,Ad 46 45 2,Bf 47 93 42 44 46,Be 48 47] [3,4,5,7,48]<|Co 48 (Rq [Ae 6 1] [6]<|.ret)<|Sk [3,4,5,7])<|Re [Ad 49 7 5,Ak 5 4 49] [3,4,5])<|Sk [3,4,5])<|Sq (Rq [Ab 50 5 1,Ac 51 50,Ah 52 51,Ae 53 0] [3,4,51,52,53]<|Bl 0<|Lo [3,4,51,52,53]<|Rq [An 54 53 52] [3,4,51,52,53,54]<|Sq (Co 54 (Sk [3,4,51,52,53])<|Ex 0 [])<|Sq (Bl 1<|Rq [Ai 55 51 53 9,Ad 56 55 9,Ck 11 0 9 1 1 1 3 4 0 5,Ak 9 11 56] [3,4,11,51,52,53]<|Rq [Ad 57 3 2,Ad 58 4 5,Ad 59 11 9,Bf 60 41 57 58 59,Aa 12 60] [3,4,12,51,52,53]<|Rq [Aa 61 12,Aw 62 61 0] [3,4,12,51,52,53,62]<|Co 62 (Rq [Aa 63 12,Aa 6 63] [6]<|.ret)<|Sk [3,4,51,52,53])<|Re [Am 64 53 1,Aa 53 64] [3,4,51,52,53])<|Rq [Ae 6 0] [6]<|.ret) [.tmp 6]:=by decide +kernel
theorem oB (n:Nat) (_ih_41:∀ (t:Types) (p:Pattern) (c:AA),Ct prog (CB n t p c) 41 [AU t,BA p,AJ c] (fun r=>.sh (eI r))) (t:Types) (p:Pattern) (c:AA):Ct prog (CB (n+1) t p c) 41 [AU t,BA p,AJ c] (fun r=>.sh (eI r)):=Fi om fun r h hw hR=>by
  unfold CB at h
  have:HA 0 53 52 0 fun (i0:Int) (_:Unit)=>[(53,.tv (eI i0))]:=⟨⟩
  exact au
theorem oA:∀ n:Nat,(∀ (t:Types) (p:Pattern) (c:AA),Ct prog (CB n t p c) 41 [AU t,BA p,AJ c] (fun r=>.sh (eI r))):=by
  intro n
  induction n with
  | zero=>exact (fun t p c=>⟨fun _ h=>by cases h⟩)
  | succ n ih=>exact oB n ih
instance tu (t:Types) (p:Pattern) (c:AA):Ct prog (JO t p c) 41 [AU t,BA p,AJ c] (fun r=>.sh (eI r)):=⟨fun r h=>by
  obtain ⟨N,hN⟩:=DK h
  exact ((oA N) t p c).snd r (hN N (Nat.le_refl _))⟩
theorem oU:CK f15 (Rq [Af 3 0,Af 4 1,Af 5 2,Ae 6 0] [3,4,5]<|Sq (Rq [Ad 9 3 2,Ad 10 4 5,Av 11 39 9 10,Aa 7 11] [3,4,5,7]<|Rq [Aa 12 7,Aw 13 12 0] [3,4,5,7,13]<|Co 13 (Rq [Aa 14 7,Aa 6 14] [6]<|.ret)<|Sk [3,4,5])<|Sq (Rq [Ad 15 5 9,Ba 16 40 15,Aa 8 16] [3,4,5,8]<|Rq [Aa 17 8,Aw 18 17 0] [3,4,5,8,18]<|Co 18 (Rq [Aa 19 8,Aa 6 19] [6]<|.ret)<|Sk [3,4,5])<|Rq [Ad 20 3 2,Ad 21 4 5,Ad 22 5 9,Bf 23 41 20 21 22,Aa 6 23] [6]<|.ret) [.tmp 6]:=by decide +kernel
instance tW (t:Types) (p:Pattern) (c:AA):Ct prog (DU t p c) 15 [AU t,BA p,AJ c] (fun r=>.sh (eI r)):=Fi oU fun r h hw hR=>by
  unfold DU at h
  exact au
theorem pF:CK f73 (Rq [Aj 4] [0,1]<|Sq (Rq [Aa 6 0,Ah 7 6,Aa 8 1,Ah 9 8,Bt 10 7 9] [0,1,10]<|Co 10 (Rq [Aj 4] [4]<|.ret)<|Sk [0,1])<|Sq (Rq [Aa 11 0,Ah 12 11,Ae 13 0] [0,1,12,13]<|Bl 0<|Lo [0,1,12,13]<|Rq [An 14 13 12] [0,1,12,13,14]<|Sq (Co 14 (Sk [0,1,12,13])<|Ex 0 [])<|Sq (Bl 1<|Rq [Aa 15 13,Aa 5 15] [0,1,5,12,13]<|Sq (Dr [16,17,18,19,20,21,22,23,24] [Aa 16 0,Aa 17 5,Ai 18 16 17 1,Ac 19 18,Aa 20 1,Aa 21 5,Ai 22 20 21 1,Ac 23 22,Bt 24 19 23] [0,1,12,13,24])<|Co 24 (Rq [Aj 4] [4]<|.ret)<|Sk [0,1,12,13])<|Re [Am 25 13 1,Aa 13 25] [0,1,12,13])<|Rq [Bv 4] [4]<|.ret) [.tmp 4]:=by decide +kernel
instance uO (s1_0:List Int) (s2_1:List Int):Ct prog (FE s1_0 s2_1) 73 [lI s1_0,lI s2_1] (fun r=>.sh (eB r)):=Fi pF fun r h hw hR=>by
  unfold FE at h
  have:HA 0 13 12 0 fun (i0:Int) (_:Unit)=>[(13,.tv (eI i0))]:=⟨⟩
  exact au
theorem ju:CK f173 (Rq [Af 3 0,Ae 6 0] [1,2,3]<|Sq (Rq [Aa 11 1,Ab 12 3 0,Ac 13 12,Ah 14 13,Cs 15 11 14] [1,2,3,15]<|Co 15 (Rq [Ae 6 6] [6]<|.ret)<|Sk [1,2,3])<|Sq (Rq [Ab 16 3 0,Ac 17 16,Aa 18 1,Ai 19 17 18 4,Ag 20 19 2,Ac 21 20] [1,2,3,21]<|Co 21 (Rq [Ae 6 13] [6]<|.ret)<|Sk [1,2,3])<|Rq [Ad 23 3 2,Aa 24 1,Av 25 153 23 24,Aa 22 25,Al 26 22 0,Al 27 22 1,Ax 7 26,Aa 8 27] [2,7]<|Sq (Rq [Aa 28 2,Ah 29 28,Aa 30 7,Ah 31 30,Bt 32 29 31] [2,7,32]<|Co 32 (Rq [Ae 6 20] [6]<|.ret)<|Sk [2,7])<|Sq (Rq [Aa 33 7,Ah 34 33,Ae 35 0] [2,33,34,35]<|Bl 0<|Lo [2,33,34,35]<|Rq [An 36 35 34] [2,33,34,35,36]<|Sq (Co 36 (Sk [2,33,34,35])<|Ex 0 [])<|Sq (Bl 1<|Rq [Aa 37 35,Ai 38 33 35 4,Ad 39 38 4,Dz 10 0 0 1,Aa 9 37,Ak 4 10 39] [2,9,10,33,34,35]<|Sq (Dr [40,41,42,43,44,45,46,47,48,49,50,51,52,53,54,55] [Aa 40 2,Aa 41 9,Ai 42 40 41 1,Ac 43 42,Ab 44 10 1,Ac 45 44,An 46 43 45,Aa 47 46,As 48 2 47,As 49 9 47,Cf 50 48 49 1 47,Ao 51 50 47,Ar 52 10 2 47,Ao 53 52 47,⟨some 54,.bin (.i) .gtr (.s 51) (.s 53),some (47,false)⟩,Aq 55 47 54] [2,33,34,35,55])<|Co 55 (Rq [Ae 6 6] [6]<|.ret)<|Sk [2,33,34,35])<|Re [Am 56 35 1,Aa 35 56] [2,33,34,35])<|Rq [Ae 6 0] [6]<|.ret) [.tmp 6]:=by decide +kernel
instance rM (t:Types) (kind:Int) (BB:List Int):Ct prog (JG t kind BB) 173 [AU t,eI kind,lI BB] (fun r=>.sh (eI r)):=Fi ju fun r h hw hR=>by
  unfold JG at h
  have:HA 0 35 34 0 fun (i0:Int) (_:Unit)=>[(35,.tv (eI i0))]:=⟨⟩
  exact au
theorem lW:CK f265 (Rq [Ae 4 0] [0,1]<|Sq (Rq [Aa 6 0,Ah 7 6,Ae 8 0] [0,1,7,8]<|Bl 0<|Lo [0,1,7,8]<|Rq [An 9 8 7] [0,1,7,8,9]<|Sq (Co 9 (Sk [0,1,7,8])<|Ex 0 [])<|Sq (Bl 1<|Rq [Aa 10 8,Aa 5 10] [0,1,5,7,8]<|Rq [Aa 11 1,Aa 12 0,Aa 13 5,Ai 14 12 13 1,Ac 15 14,Cx 16 11 15] [0,1,5,7,8,16]<|Co 16 (Rq [Aa 17 5,Aa 4 17] [4]<|.ret)<|Sk [0,1,7,8])<|Re [Am 18 8 1,Aa 8 18] [0,1,7,8])<|Rq [Bs 4 (-1)] [4]<|.ret) [.tmp 4]:=by decide +kernel
instance sj (s_0:List Int) (v_1:Int):Ct prog (IC s_0 v_1) 265 [lI s_0,eI v_1] (fun r=>.sh (eI r)):=Fi lW fun r h hw hR=>by
  unfold IC at h
  have:HA 0 8 7 0 fun (i0:Int) (_:Unit)=>[(8,.tv (eI i0))]:=⟨⟩
  exact au
theorem k7:CK f241 (Rq [Aj 4] [0,1]<|Rq [Aa 5 0,Aa 6 1,Av 7 265 5 6,Bp 8 7 0,Aa 4 8] [4]<|.ret) [.tmp 4]:=by decide +kernel
instance sQ (s_0:List Int) (v_1:Int):Ct prog (DC s_0 v_1) 241 [lI s_0,eI v_1] (fun r=>.sh (eB r)):=Fi k7 fun r h hw hR=>by
  unfold DC at h
  exact au
theorem n0 (l r:List Int) (h:slices_Reverse_int l=some r):AS prog 282 [.list 1 (l.map (TV.int .i64))] (.turn r):=by
  unfold slices_Reverse_int at h
  split at h
  · rename_i hl
    unfold BF at hl
    cases h
    refine YT (by rfl) List.length_reverse (fun x hx=>List.mem_reverse.1 hx) (fun w hz=>?_) (fun g cap w _ _ hg hH=>(Go.Proofs.Tryz.slices_Reverse_int g 0 cap l w hH (by omega)).mono ?_)
    · subst hz
      exact Go.Proofs.Tryz.slices_Reverse_int_empty none 0 w
    · rintro e w' ⟨h1,q,h2⟩
      exact ⟨h1,q,#[],by rw [Go.Sort.grow_empty]; exact h2⟩
  · cases h
instance tP (l:List Int):Ct Go.Proofs.Tryz.prog (slices_Reverse_int l) 282 [.list 1 (l.map (TV.int .i64))] B5.turn:=⟨n0 l⟩
theorem lO:CK f256 (Rq [Af 2 0,Bb 4 1] [1,2]<|Rq [⟨some 5,.nilx 1,none⟩] [1,2,5]<|Sq (Bl 0<|Lo [1,2,5]<|Sq (Rq [Aa 6 1,Bp 7 6 0] [1,2,5,7]<|Co 7 (Sk [1,2,5])<|Ex 0 [5])<|Sq (Bl 1<|Re [Cj 14 5,Aa 15 1,Bh 16 1 15,Fg 17 1 14 16,Cj 5 17] [1,2,5])<|Re [Ab 8 2 0,Ac 9 8,Aa 10 1,Ai 11 9 10 4,Ag 12 11 1,Ac 13 12,Aa 1 13] [1,2,5])<|Rq [Bu 18 5,⟨some 19,.callm 282 (.s 18),none⟩] [5]<|Rq [Dy 20 5,Ax 4 20] [4]<|.ret) [.tmp 4]:=by decide +kernel
instance sc (t:Types) (a:Int):Ct prog (JX t a) 256 [AU t,eI a] (fun r=>.own (lI r)):=Fi lO fun r h hw hR=>by
  unfold JX at h
  have:HW 0 fun (s0:Int × List Int)=>[(1,.tv (eI s0.1)),(5,.xo 1 (List.map eI s0.2))]:=⟨⟩
  exact au
theorem kt:CK f229 (Rq [Af 3 0,Aj 6] [1,2,3]<|Rq [Ad 7 3 2,Aa 8 1,Av 9 256 7 8,Aa 10 2,Av 11 241 9 10,Aa 6 11] [6]<|.ret) [.tmp 6]:=by decide +kernel
instance sI (t:Types) (a:Int) (b:Int):Ct prog (Iv t a b) 229 [AU t,eI a,eI b] (fun r=>.sh (eB r)):=Fi kt fun r h hw hR=>by
  unfold Iv at h
  exact au
theorem jv:CK f174 (Rq [Af 4 0,Aj 8] [1,2,3,4]<|Sq (Rq [Ad 9 4 2,Aa 10 2,Aa 11 3,Dl 12 1 10 11,Av 13 216 9 12,Aw 14 13 0,Aa 15 14,As 16 1 15,Hb 17 16 0 15,Aq 18 15 17,Aa 19 18,As 20 1 19,Ar 21 4 1 19,Ao 22 21 19,Bi 23 22 19,Bz 24 20 23 19,Aq 25 19 24] [1,2,3,4,25]<|Co 25 (Rq [Aj 8] [8]<|.ret)<|Sk [1,2,3,4])<|Sq (Dr [8,26,27,28,29,30,31,32,33,34,35,36,37,38,39,40,41,42,43,44,45] [Ad 26 4 2,Aa 27 2,Ab 28 4 1,Ac 29 28,Aa 30 1,Ai 31 29 30 7,Ag 32 31 1,Ac 33 32,Bf 34 229 26 27 33,Aa 35 34,Bg 36 4 2 35,Au 37 3 35,Ay 38 4 1 35,Az 39 38 35,Au 40 1 35,Dg 41 39 40 7 35,By 42 41 2 35,Az 43 42 35,Ei 44 229 36 37 43 35,Ap 45 35 44,Aa 8 45] [8])<|.ret) [.tmp 8]:=by decide +kernel
instance rN (t:Types) (edge:Int) (from':Int) (to':Int):Ct prog (Ii t edge from' to') 174 [AU t,eI edge,eI from',eI to'] (fun r=>.sh (eB r)):=Fi jv fun r h hw hR=>by
  unfold Ii at h
  exact au
theorem ip:CK f108 (Rq [Af 2 0,Af 3 1,Ae 4 0,Ae 5 0] [2,3]<|Sq (Rq [Ad 15 2 2,Ba 16 79 15,Aa 14 16,Al 17 14 0,Al 18 14 1,Aa 6 17,Aa 7 18] [2,3,7]<|Rq [Aa 19 7,Aw 20 19 0] [2,3,7,20]<|Co 20 (Rq [Aa 21 7,Bs 4 (-1),Aa 5 21] [4,5]<|.ret)<|Sk [2,3])<|Sq (Rq [Ab 22 3 0,Ad 23 22 2,Ba 24 80 23,Aa 8 24] [2,3,8]<|Rq [Aa 25 8,Aw 26 25 0] [2,3,8,26]<|Co 26 (Rq [Aa 27 8,Bs 4 (-1),Aa 5 27] [4,5]<|.ret)<|Sk [2,3])<|Sq (Rq [Ab 28 3 2,Ac 29 28,Ah 30 29,Ab 31 3 0,Ag 32 31 0,Ac 33 32,Ah 34 33,Bt 35 30 34] [2,3,35]<|Co 35 (Rq [Bs 4 (-1),Ae 5 20] [4,5]<|.ret)<|Sk [2,3])<|Sq (Rq [Ab 36 3 0,Ag 37 36 0,Ac 38 37,Ah 39 38,Ae 40 0] [2,3,38,39,40]<|Bl 0<|Lo [2,3,38,39,40]<|Rq [An 41 40 39] [2,3,38,39,40,41]<|Sq (Co 41 (Sk [2,3,38,39,40])<|Ex 0 [2,3])<|Sq (Bl 1<|Rq [Aa 42 40,Ai 43 38 40 1,Ac 44 43,Aa 9 42,Aa 10 44] [2,3,9,10,38,39,40]<|Sq (Dr [11,45,46,47,48,49,50,51,52] [Ad 45 2 2,Aa 46 10,Ab 47 3 2,Ac 48 47,Aa 49 9,Ai 50 48 49 1,Ac 51 50,Bf 52 173 45 46 51,Aa 11 52] [2,3,9,11,38,39,40])<|Rq [Aa 53 11,Aw 54 53 0] [2,3,9,11,38,39,40,54]<|Co 54 (Rq [Aa 55 9,Aa 56 11,Aa 4 55,Aa 5 56] [4,5]<|.ret)<|Sk [2,3,38,39,40])<|Re [Am 57 40 1,Aa 40 57] [2,3,38,39,40])<|Sq (Rq [Ab 58 3 0,Ag 59 58 1,Ac 60 59,Ah 61 60,Ae 62 0] [2,3,60,61,62]<|Bl 2<|Lo [2,3,60,61,62]<|Rq [An 63 62 61] [2,3,60,61,62,63]<|Sq (Co 63 (Sk [2,3,60,61,62])<|Ex 2 [])<|Sq (Bl 3<|Rq [Aa 64 62,Ai 65 60 62 3,Ad 66 65 3,Cl 13 0 0 0,Aa 12 64,Ak 3 13 66] [2,3,12,13,60,61,62]<|Sq (Rq [Ab 67 13 0,Ac 68 67,Ab 69 2 1,Ac 70 69,Ah 71 70,Cs 72 68 71] [2,3,12,13,60,61,62,72]<|Co 72 (Rq [Aa 73 12,Aa 4 73,Ae 5 6] [4,5]<|.ret)<|Sk [2,3,12,13,60,61,62])<|Sq (Dr [74,75,76,77,78,79,80,81,82,83,84,85,86,87,88,89,90,91,92] [Ad 74 2 2,Ab 75 13 0,Ac 76 75,Ab 77 3 0,Ag 78 77 0,Ac 79 78,Ab 80 13 1,Ac 81 80,Ai 82 79 81 1,Ac 83 82,Ab 84 3 0,Ag 85 84 0,Ac 86 85,Ab 87 13 2,Ac 88 87,Ai 89 86 88 1,Ac 90 89,Cq 91 174 74 76 83 90,Be 92 91] [2,3,12,60,61,62,92])<|Co 92 (Rq [Aa 93 12,Aa 4 93,Ae 5 13] [4,5]<|.ret)<|Sk [2,3,60,61,62])<|Re [Am 94 62 1,Aa 62 94] [2,3,60,61,62])<|Rq [Bs 4 (-1),Ae 5 0] [4,5]<|.ret) [.tmp 4,.tmp 5]:=by decide +kernel
instance qL (t:Types) (h_1:AY):Ct prog (HZ t h_1) 108 [AU t,IU h_1] (fun r=>.tp [eI r.1,eI r.2]):=Fi ip fun r h hw hR=>by
  unfold HZ at h
  have:HA 0 40 39 0 fun (i0:Int) (_:Unit)=>[(40,.tv (eI i0))]:=⟨⟩
  have:HA 2 62 61 0 fun (i2:Int) (_:Unit)=>[(62,.tv (eI i2))]:=⟨⟩
  exact au
theorem kI:CK f195 (Rq [Aj 3] [0,1]<|Rq [Aa 4 0,Ab 5 1 0,Ac 6 5,Ah 7 6,Cs 8 4 7,Aa 3 8] [3]<|.ret) [.tmp 3]:=by decide +kernel
instance rf (n:Int) (c0:Types):Ct prog (KA n c0) 195 [eI n,.pt (AU c0).cells] (fun r=>.sh (eB r)):=Fi kI fun r h hw hR=>by
  unfold KA at h
  exact au
theorem kJ:CK f196 (Rq [Af 2 0,Aj 3] [1,2]<|Rq [Ab 4 2 0,Ac 5 4,Ab 6 1 1,Ac 7 6,Ah 8 7,Cs 9 5 8,Aa 3 9] [3]<|.ret) [.tmp 3]:=by decide +kernel
instance rg (x_0:B6) (c0:Types):Ct prog (KB x_0 c0) 196 [EB x_0,.pt (AU c0).cells] (fun r=>.sh (eB r)):=Fi kJ fun r h hw hR=>by
  unfold KB at h
  exact au
theorem jK:CK f131 (Rq [Af 2 0,Af 3 1,Aj 4] [2,3]<|Rq [Ab 5 3 0,Ac 6 5,Da 7 195 2,Av 8 81 6 7,Be 9 8,Aa 10 9,Ay 11 3 1 10,Az 12 11 10,⟨some 13,.clo 196 [.s 2],some (10,true)⟩,Dw 14 83 12 13 10,Eh 15 14 10,Ap 16 10 15,Aa 4 16] [4]<|.ret) [.tmp 4]:=by decide +kernel
instance qk (t:Types) (g:Graph):Ct prog (FA t g) 131 [AU t,CA g] (fun r=>.sh (eB r)):=Fi jK fun r h hw hR=>by
  unfold FA at h
  exact au
theorem o8:CK f62 (Rq [Af 3 0,Af 4 1,Af 5 2,Ae 6 0] [3,4,5]<|Sq (Rq [Ad 13 3 2,Ba 14 79 13,Aa 12 14,Al 15 12 0,Al 16 12 1,Aa 7 15,Aa 8 16] [3,4,5,8]<|Rq [Aa 17 8,Aw 18 17 0] [3,4,5,8,18]<|Co 18 (Rq [Aa 19 8,Aa 6 19] [6]<|.ret)<|Sk [3,4,5])<|Sq (Rq [Ad 20 4 2,Ad 21 5 2,Dl 22 2 20 21,Ah 23 22,Ae 24 0] [3,4,5,22,23,24]<|Bl 0<|Lo [3,4,5,22,23,24]<|Rq [An 25 24 23] [3,4,5,22,23,24,25]<|Sq (Co 25 (Sk [3,4,5,22,23,24])<|Ex 0 [3,4,5])<|Sq (Bl 1<|Rq [Ai 26 22 24 2,Ad 27 26 2,Cb 10 1 3,Ak 2 10 27] [3,4,5,10,22,23,24]<|Rq [Ad 28 10 2,Ba 29 80 28,Aa 11 29] [3,4,5,11,22,23,24]<|Rq [Aa 30 11,Aw 31 30 0] [3,4,5,11,22,23,24,31]<|Co 31 (Rq [Aa 32 11,Aa 6 32] [6]<|.ret)<|Sk [3,4,5,22,23,24])<|Re [Am 33 24 1,Aa 24 33] [3,4,5,22,23,24])<|Sq (Rq [Ad 34 3 2,Ad 35 4 2,Av 36 131 34 35,Be 37 36,Aa 38 37,Ce 39 3 2 38,Ce 40 5 2 38,Dk 41 131 39 40 38,Br 42 41 38,Aq 43 38 42] [43]<|Co 43 (Rq [Ae 6 13] [6]<|.ret)<|Sk [])<|Rq [Ae 6 0] [6]<|.ret) [.tmp 6]:=by decide +kernel
instance uI (t:Types) (p:Graph) (g:Graph):Ct prog (F9 t p g) 62 [AU t,CA p,CA g] (fun r=>.sh (eI r)):=Fi o8 fun r h hw hR=>by
  unfold F9 at h
  have:HA 0 24 23 0 fun (i0:Int) (_:Unit)=>[(24,.tv (eI i0))]:=⟨⟩
  exact au
theorem kz:CK f239 (Rq [Af 2 0,Bb 4 1,Ae 5 0] [1,2]<|Sq (Rq [Ad 9 2 2,Aa 10 1,Bh 11 1 10,Av 12 216 9 11,Aa 6 12] [1,2,6]<|Rq [Aa 13 6,Aw 14 13 0] [1,2,6,14]<|Co 14 (Rq [Aa 15 6,Bb 4 1,Aa 5 15] [4,5]<|.ret)<|Sk [1,2])<|Rq [Bb 7 1] [1,2,7]<|Sq (Rq [Ab 16 2 0,Ac 17 16,Ah 18 17,Ae 19 0] [1,2,7,18,19]<|Bl 0<|Lo [1,2,7,18,19]<|Rq [An 20 19 18] [1,2,7,18,19,20]<|Sq (Co 20 (Sk [1,2,7,18,19])<|Ex 0 [7])<|Sq (Bl 1<|Rq [Aa 21 19,Aa 8 21] [1,2,7,8,18,19]<|Rq [Ad 22 2 2,Aa 23 8,Aa 24 1,Bf 25 229 22 23 24] [1,2,7,8,18,19,25]<|Co 25 (Re [Ax 26 7,Aa 27 8,Bh 28 1 27,Bj 29 1 26 28,Ax 7 29] [1,2,7,18,19])<|Sk [1,2,7,18,19])<|Re [Am 30 19 1,Aa 19 30] [1,2,7,18,19])<|Rq [Aa 31 7,Ax 4 31,Ae 5 0] [4,5]<|.ret) [.tmp 4,.tmp 5]:=by decide +kernel
instance sO (t:Types) (a:Int):Ct prog (Hx t a) 239 [AU t,eI a] (fun r=>.tp [lI r.1,eI r.2]):=Fi kz fun r h hw hR=>by
  unfold Hx at h
  have:HA 0 19 18 0 fun (i0:Int) (s0:List Int)=>[(7,.ow (lI s0)),(19,.tv (eI i0))]:=⟨⟩
  exact au
theorem kK:CK f197 (Rq [Af 1 0,Bb 2 1] [1]<|Rq [Bb 3 1] [1,3]<|Sq (Rq [Ab 10 1 0,Ac 11 10,Ah 12 11,Ae 13 0] [1,3,12,13]<|Bl 0<|Lo [1,3,12,13]<|Rq [An 14 13 12] [1,3,12,13,14]<|Sq (Co 14 (Sk [1,3,12,13])<|Ex 0 [3])<|Sq (Bl 1<|Rq [Aa 15 13,Aa 4 15] [1,3,4,12,13]<|Rq [Ab 16 1 0,Ac 17 16,Ah 18 17,Eu 19 1 18,Cj 5 19] [1,3,4,5,12,13]<|Rq [Ad 21 1 2,Aa 22 4,Av 23 239 21 22,Aa 20 23,Al 24 20 0,Al 25 20 1,Ax 6 24,Aa 7 25] [1,3,5,6,12,13]<|Sq (Rq [Aa 26 6,Ah 27 26,Ae 28 0] [1,3,5,12,13,26,27,28]<|Bl 2<|Lo [1,3,5,12,13,26,27,28]<|Rq [An 29 28 27] [1,3,5,12,13,26,27,28,29]<|Sq (Co 29 (Sk [1,3,5,12,13,26,27,28])<|Ex 2 [1,3,5,12,13])<|Sq (Bl 3<|Rq [Ai 30 26 28 1,Ac 31 30,Aa 9 31] [1,3,5,9,12,13,26,27,28]<|Re [Bu 32 5,Aa 33 9,Cp 34 32 33 1,Eg 34] [1,3,5,12,13,26,27,28])<|Re [Am 35 28 1,Aa 28 35] [1,3,5,12,13,26,27,28])<|Re [Ax 36 3,Dy 37 5,Bh 38 1 37,Bj 39 1 36 38,Ax 3 39] [1,3,12,13])<|Re [Am 40 13 1,Aa 13 40] [1,3,12,13])<|Rq [Aa 41 3,Ax 2 41] [2]<|.ret) [.tmp 2]:=by decide +kernel
instance rh (t:Types):Ct prog (F8 t) 197 [AU t] (fun r=>.sh ((eL 1 (eL 1 eB)) r)):=Fi kK fun r h hw hR=>by
  unfold F8 at h
  have:HA 0 13 12 0 fun (i0:Int) (s0:List (List Bool))=>[(3,.ow ((eL 1 (eL 1 eB)) s0)),(13,.tv (eI i0))]:=⟨⟩
  have:HA 2 28 27 0 fun (i2:Int) (s2:List Bool)=>[(5,.xo 1 (List.map eB s2)),(28,.tv (eI i2))]:=⟨⟩
  exact au
theorem jw:CK f175 (Rq [Af 4 0,Af 5 1,Af 6 2,Af 7 3,Ae 8 0] [4,5,6,7]<|Sq (Rq [Ab 16 7 0,Ac 17 16,Ah 18 17,Ab 19 5 0,Ac 20 19,Ah 21 20,Bt 22 18 21,Aa 23 22,Ar 24 7 1 23,Ao 25 24 23,Bi 26 25 23,Ar 27 5 1 23,Ao 28 27 23,Bi 29 28 23,Cv 30 26 29 23,Aq 31 23 30] [4,5,6,7,31]<|Co 31 (Rq [Ae 8 20] [8]<|.ret)<|Sk [4,5,6,7])<|Rq [Ad 32 4 2,Ba 33 197 32,Ax 9 33] [5,6,7,9]<|Sq (Rq [Ab 34 7 0,Ac 35 34,Ah 36 35,Ae 37 0] [5,6,7,9,35,36,37]<|Bl 0<|Lo [5,6,7,9,35,36,37]<|Rq [An 38 37 36] [5,6,7,9,35,36,37,38]<|Sq (Co 38 (Sk [5,6,7,9,35,36,37])<|Ex 0 [5,6,7])<|Sq (Bl 1<|Rq [Aa 39 37,Ai 40 35 37 1,Ac 41 40,Aa 10 39,Aa 11 41] [5,6,7,9,10,11,35,36,37]<|Sq (Rq [Aa 42 11,Cd 43 42 0,Aa 44 43,As 45 11 44,Ar 46 6 0 44,Ao 47 46 44,Bi 48 47 44,Bz 49 45 48 44,Aq 50 44 49] [5,6,7,9,10,11,35,36,37,50]<|Co 50 (Rq [Ae 8 6] [8]<|.ret)<|Sk [5,6,7,9,10,11,35,36,37])<|Sq (Dr [51,52,53,54,55,56,57,58,59,60,61,62,63,64,65,66] [Aa 51 9,Ab 52 5 0,Ac 53 52,Aa 54 10,Ai 55 53 54 1,Ac 56 55,Ai 57 51 56 1,Ac 58 57,Ab 59 6 0,Ac 60 59,Aa 61 11,Ai 62 60 61 1,Ac 63 62,Ai 64 58 63 1,Ac 65 64,Be 66 65] [5,6,7,9,35,36,37,66])<|Co 66 (Rq [Ae 8 13] [8]<|.ret)<|Sk [5,6,7,9,35,36,37])<|Re [Am 67 37 1,Aa 37 67] [5,6,7,9,35,36,37])<|Sq (Rq [Ab 68 7 1,Ac 69 68,Ah 70 69,Ae 71 0] [5,6,7,69,70,71]<|Bl 2<|Lo [5,6,7,69,70,71]<|Rq [An 72 71 70] [5,6,7,69,70,71,72]<|Sq (Co 72 (Sk [5,6,7,69,70,71])<|Ex 2 [])<|Sq (Bl 3<|Rq [Aa 73 71,Ai 74 69 71 1,Ac 75 74,Aa 12 73,Aa 13 75] [5,6,7,12,13,69,70,71]<|Sq (Rq [Aa 76 13,Cd 77 76 0,Aa 78 77,As 79 13 78,Ar 80 6 1 78,Ao 81 80 78,Bi 82 81 78,Bz 83 79 82 78,Aq 84 78 83] [5,6,7,12,13,69,70,71,84]<|Co 84 (Rq [Ae 8 6] [8]<|.ret)<|Sk [5,6,7,12,13,69,70,71])<|Sq (Dr [14,15,85,86,87,88,89,90,91,92,93,94] [Ab 85 5 1,Ac 86 85,Aa 87 12,Ai 88 86 87 3,Ad 89 88 3,Ab 90 6 1,Ac 91 90,Aa 92 13,Ai 93 91 92 3,Ad 94 93 3,Cl 14 0 0 0,Cl 15 0 0 0,Ak 3 14 89,Ak 3 15 94] [5,6,7,14,15,69,70,71])<|Sq (Rq [Ab 95 14 0,Ac 96 95,Ab 97 15 0,Ac 98 97,Bt 99 96 98] [5,6,7,14,15,69,70,71,99]<|Co 99 (Rq [Ae 8 13] [8]<|.ret)<|Sk [5,6,7,14,15,69,70,71])<|Sq (Dr [100,101,102,103,104,105,106,107,108,109,110,111,112,113,114,115,116,117,118,119] [Ab 100 7 0,Ac 101 100,Ab 102 14 1,Ac 103 102,Ai 104 101 103 1,Ac 105 104,Ab 106 15 1,Ac 107 106,Bt 108 105 107,Aa 109 108,Ar 110 7 0 109,Ao 111 110 109,Ar 112 14 2 109,Ao 113 112 109,Cf 114 111 113 1 109,Ao 115 114 109,Ar 116 15 2 109,Ao 117 116 109,Cv 118 115 117 109,Aq 119 109 118] [5,6,7,69,70,71,119])<|Co 119 (Rq [Ae 8 11] [8]<|.ret)<|Sk [5,6,7,69,70,71])<|Re [Am 120 71 1,Aa 71 120] [5,6,7,69,70,71])<|Rq [Ae 8 0] [8]<|.ret) [.tmp 8]:=by decide +kernel
instance rO (t:Types) (p:Graph) (g:Graph) (m:Morphism):Ct prog (HE t p g m) 175 [AU t,CA p,CA g,BS m] (fun r=>.sh (eI r)):=Fi jw fun r h hw hR=>by
  unfold HE at h
  have:HA 0 37 36 0 fun (i0:Int) (_:Unit)=>[(37,.tv (eI i0))]:=⟨⟩
  have:HA 2 71 70 0 fun (i2:Int) (_:Unit)=>[(71,.tv (eI i2))]:=⟨⟩
  exact au
theorem nv (l:List Int) (r:Bool) (h:IB l=some r):AS prog 176 [lI l] (.sh (eB r)):=by
  unfold IB at h
  rw [←a8] at h
  split at h
  · rename_i hl
    cases h
    exact Vr l hl
  · cases h
instance tL (l:List Int):Ct Go.Proofs.Tryz.prog (IB l) 176 [lI l] (fun r=>.sh (eB r)):=⟨nv l⟩
theorem iq:CK f109 (Rq [Af 5 0,Af 6 1,Af 7 2,Af 8 3,Ae 10 0] [4,5,6,7,8]<|Sq (Rq [Ad 13 5 2,Ad 14 6 2,Ad 15 7 2,Bf 16 62 13 14 15,Aa 11 16] [4,5,6,7,8,11]<|Rq [Aa 17 11,Aw 18 17 0] [4,5,6,7,8,11,18]<|Co 18 (Rq [Aa 19 11,Aa 10 19] [10]<|.ret)<|Sk [4,5,6,7,8])<|Sq (Rq [Ad 20 5 2,Ad 21 6 2,Ad 22 7 2,Ad 23 8 2,Cq 24 175 20 21 22 23,Aa 12 24] [4,8,12]<|Rq [Aa 25 12,Aw 26 25 0] [4,8,12,26]<|Co 26 (Rq [Aa 27 12,Aa 10 27] [10]<|.ret)<|Sk [4,8])<|Sq (Rq [Aa 28 4,Aa 29 28,Ay 30 8 0 29,Az 31 30 29,Ca 32 176 31 29,Au 33 32 29,Ar 34 8 1 33,Ao 35 34 33,Dv 36 176 35 33,Ef 37 33 36 29,Ap 38 29 37] [38]<|Co 38 (Rq [Ae 10 5] [10]<|.ret)<|Sk [])<|Rq [Ae 10 0] [10]<|.ret) [.tmp 10]:=by decide +kernel
instance qM (t:Types) (p:Graph) (g:Graph) (m:Morphism) (injective:Bool):Ct prog (F7 t p g m injective) 109 [AU t,CA p,CA g,BS m,eB injective] (fun r=>.sh (eI r)):=Fi iq fun r h hw hR=>by
  unfold F7 at h
  exact au
theorem jx:CK f177 (Rq [Af 3 0,Af 4 1,Af 5 2,Ae 6 0] [3,4,5]<|Sq (Rq [Ad 10 3 2,Ad 11 4 5,Av 12 39 10 11,Aa 7 12] [3,5,7]<|Rq [Aa 13 7,Aw 14 13 0] [3,5,7,14]<|Co 14 (Rq [Aa 15 7,Aa 6 15] [6]<|.ret)<|Sk [3,5])<|Rq [Ad 17 3 2,Ad 18 5 3,Av 19 108 17 18,Aa 16 19,Al 20 16 0,Al 21 16 1,Aa 8 20,Aa 9 21] [9]<|Rq [Aa 22 9,Aa 6 22] [6]<|.ret) [.tmp 6]:=by decide +kernel
instance rP (t:Types) (p:Pattern) (h_2:AY):Ct prog (EU t p h_2) 177 [AU t,BA p,IU h_2] (fun r=>.sh (eI r)):=Fi jx fun r h hw hR=>by
  unfold EU at h
  exact au
theorem ku:CK f232 (Rq [Af 2 0,Ae 4 0] [1,2]<|Sq (Rq [Ab 5 2 0,Ac 6 5,Cd 7 6 0] [1,2,7]<|Co 7 (Rq [Ab 8 2 1,Ac 9 8,Aa 4 9] [4]<|.ret)<|Sk [1,2])<|Sq (Dr [4,10,11,12,13,14,15,16,17] [Aa 10 1,Ab 11 2 0,Ac 12 11,Ai 13 10 12 1,Ac 14 13,Ab 15 2 1,Ac 16 15,Bm 17 14 16,Aa 4 17] [4])<|.ret) [.tmp 4]:=by decide +kernel
instance sJ (x_0:Term) (BB:List Int):Ct prog (EW x_0 BB) 232 [PW x_0,lI BB] (fun r=>.sh (eI r)):=Fi ku fun r h hw hR=>by
  unfold EW at h
  exact au
theorem n5 (a b c:Int) (r:Int × Int) (h:IY a b c=some r):AS prog 284 [J3 a,J3 b,J3 c] (.ext [J3 (r.1),J3 (r.2)]):=by
  unfold IY at h
  split at h
  · rename_i hc
    cases h
    obtain ⟨⟨a0,a1⟩,⟨b0,b1⟩,c0,c1⟩:=hc
    intro _
    refine ⟨⟨rfl,?_⟩,fun w vs hv=>?_⟩
    · simp only [J3,TV.WFs,TV.WF,IntKind.min,IntKind.max,IntKind.signed,IntKind.bits,and_true]
      simp only [Bool.false_eq_true,if_false]
      refine ⟨⟨by omega,?_⟩,by omega,?_⟩
      · have:(2:Int) ^ 64=18446744073709551616:=by decide
        omega
      · have:(2:Int) ^ 64=18446744073709551616:=by decide
        omega
    · obtain ⟨x,rfl⟩:=Int.eq_ofNat_of_zero_le a0
      obtain ⟨y,rfl⟩:=Int.eq_ofNat_of_zero_le b0
      obtain ⟨z,rfl⟩:=Int.eq_ofNat_of_zero_le c0
      have:=Go.Proofs.Any7.bits_Add64 Go.Proofs.Tryz.lays7n25 x y z (by omega) w
      obtain ⟨l⟩:=vs
      simp only [J3,AM,A1] at hv
      obtain ⟨v1,r1,rfl,rfl,v2,r2,rfl,rfl,v3,r3,rfl,rfl,rfl⟩:=hv
      refine ⟨_,this,?_⟩
      simp only [J3,AM,A1]
      exact ⟨_,_,rfl,by simp,_,_,rfl,by simp,rfl⟩
  · cases h
instance tQ (a b c:Int):Ct Go.Proofs.Tryz.prog (IY a b c) 284 [J3 a,J3 b,J3 c] (fun r=>.ext [J3 (r.1),J3 (r.2)]):=⟨n5 a b c⟩
theorem lQ:CK f260 (Rq [Ae 4 0,Gi 5 0] [0,1]<|Rq [Aa 9 0,⟨some 10,.cvt .u64 (.s 9),none⟩,Aa 11 1,⟨some 12,.cvt .u64 (.s 11),none⟩,⟨some 13,.callf 284 [.s 10,.s 12,.c (.int .u64 0)],none⟩,Aa 8 13,Al 14 8 0,Al 15 8 1,Aa 6 14,Aa 7 15] [0,1,6,7]<|Rq [Aa 16 0,⟨some 17,.bin (.w) .shr (.s 16) (.c (.int .u64 63)),none⟩,Aa 18 1,⟨some 19,.bin (.w) .shr (.s 18) (.c (.int .u64 63)),none⟩,Bm 20 17 19,Aa 21 7,Bq 22 21,Bm 23 20 22,Aa 24 6,Aa 4 23,Aa 5 24] [4,5]<|.ret) [.tmp 4,.tmp 5]:=by decide +kernel
instance se (a:Int) (b:Int):Ct prog (HH a b) 260 [eI a,eI b] (fun r=>.tp [eI r.1,J3 r.2]):=Fi lQ fun r h hw hR=>by
  unfold HH at h
  exact au
theorem lP:CK f259 (Rq [Af 2 0,Ae 3 0,Gi 4 0,Aj 5] [1,2]<|Sq (Bl 0<|Rq [Ab 11 2 0,Ac 12 11,⟨some 13,.bin (.i) .eql (.s 12) (.c (.int .i64 (-1))),none⟩,Aa 10 13] [1,2,10]<|Co 10 (Rq [Ab 15 2 1,Ac 16 15,⟨some 17,.call 260 [.c (.int .i64 0),.s 16],none⟩,Aa 14 17,Al 18 14 0,Al 19 14 1,Aa 6 18,Aa 7 19] [6,7]<|Rq [Aa 20 6,Aa 21 7,Aa 3 20,Aa 4 21,Bv 5] [3,4,5]<|.ret)<|Rq [Ab 23 2 0,Ac 24 23,Cd 25 24 0,Aa 26 25,Ar 27 2 0 26,Ao 28 27 26,Ao 29 1 26,Bi 30 29 26,Bz 31 28 30 26,Aq 32 26 31,Aa 22 32] [1,2,22]<|Co 22 (Rq [Ae 3 0,Gi 4 0,Aj 5] [3,4,5]<|.ret)<|Sk [1,2])<|Sq (Dr [8,9,33,34,35,36,37,38,39,40,41,42,43] [Ac 34 1,Ab 35 2 0,Ac 36 35,Ai 37 34 36 1,Ac 38 37,Ab 39 2 1,Ac 40 39,Av 41 260 38 40,Aa 33 41,Al 42 33 0,Al 43 33 1,Aa 8 42,Aa 9 43] [8,9])<|Rq [Aa 44 8,Aa 45 9,Aa 3 44,Aa 4 45,Bv 5] [3,4,5]<|.ret) [.tmp 3,.tmp 4,.tmp 5]:=by decide +kernel
instance sd (t:Term) (c0:List Int):Ct prog (FJ t c0) 259 [PW t,.pt [lI c0]] (fun r=>.tp [eI r.1,J3 r.2.1,eB r.2.2]):=Fi lP fun r h hw hR=>by
  unfold FJ at h
  exact au
theorem lR:CK f261 (Rq [Ae 2 0] [0]<|Rq [Ae 3 0] [0,3]<|Sq (Rq [Aa 6 0,Ah 7 6,Ae 8 0] [3,6,7,8]<|Bl 0<|Lo [3,6,7,8]<|Rq [An 9 8 7] [3,6,7,8,9]<|Sq (Co 9 (Sk [3,6,7,8])<|Ex 0 [3])<|Sq (Bl 1<|Rq [Ai 10 6 8 1,Ac 11 10,Aa 5 11] [3,5,6,7,8]<|Rq [Aa 12 5,Aa 13 3,Bt 14 12 13] [3,5,6,7,8,14]<|Co 14 (Rq [Aa 15 5,Aa 2 15] [2]<|.ret)<|Sk [3,6,7,8])<|Re [Am 16 8 1,Aa 8 16] [3,6,7,8])<|Rq [Aa 17 3,Aa 2 17] [2]<|.ret) [.tmp 2]:=by decide +kernel
instance sf (vals:List Int):Ct prog (Lg vals) 261 [lI vals] (fun r=>.sh (eI r)):=Fi lR fun r h hw hR=>by
  unfold Lg at h
  have:HA 0 8 7 0 fun (i0:Int) (_:Unit)=>[(8,.tv (eI i0))]:=⟨⟩
  exact au
theorem lg:CK f285 (Rq [Aj 2] [0]<|Rq [Aa 3 0,Aa 4 0,Bt 5 3 4,Aa 2 5] [2]<|.ret) [.tmp 2]:=by decide +kernel
instance sv (x_0:Int):Ct prog (Jg x_0) 285 [eI x_0] (fun r=>.sh (eB r)):=Fi lg fun r h hw hR=>by
  unfold Jg at h
  exact au
theorem lU:CK f262 (Rq [Ae 4 0] [0,1]<|Rq [Aa 7 0,Ba 8 285 7,Aa 5 8] [0,1,5]<|Rq [Aa 9 1,Ba 10 285 9,Aa 6 10] [0,1,5,6]<|Sq (Rq [Aa 11 5] [0,1,6,11]<|Co 11 (Sq (Rq [Aa 12 6] [12]<|Co 12 (Rq [Ae 4 0] [4]<|.ret)<|Sk [])<|Rq [Bs 4 (-1)] [4]<|.ret)<|Sk [0,1,6])<|Sq (Rq [Aa 13 6] [0,1,13]<|Co 13 (Rq [Ae 4 1] [4]<|.ret)<|Sk [0,1])<|Sq (Rq [Aa 14 0,Aa 15 1,An 16 14 15] [0,1,16]<|Co 16 (Rq [Bs 4 (-1)] [4]<|.ret)<|Sk [0,1])<|Sq (Rq [Aa 17 0,Aa 18 1,Ew 19 17 18] [19]<|Co 19 (Rq [Ae 4 1] [4]<|.ret)<|Sk [])<|Rq [Ae 4 0] [4]<|.ret) [.tmp 4]:=by decide +kernel
instance sg (x_0:Int) (y:Int):Ct prog (IP x_0 y) 262 [eI x_0,eI y] (fun r=>.sh (eI r)):=Fi lU fun r h hw hR=>by
  unfold IP at h
  exact au
theorem lh:CK f286 (Rq [Aj 2] [0]<|Rq [Aa 3 0,Aa 4 0,Bt 5 3 4,Aa 2 5] [2]<|.ret) [.tmp 2]:=by decide +kernel
instance sw (x_0:Int):Ct prog (JN x_0) 286 [J3 x_0] (fun r=>.sh (eB r)):=Fi lh fun r h hw hR=>by
  unfold JN at h
  exact au
theorem lV:CK f263 (Rq [Ae 4 0] [0,1]<|Rq [Aa 7 0,Ba 8 286 7,Aa 5 8] [0,1,5]<|Rq [Aa 9 1,Ba 10 286 9,Aa 6 10] [0,1,5,6]<|Sq (Rq [Aa 11 5] [0,1,6,11]<|Co 11 (Sq (Rq [Aa 12 6] [12]<|Co 12 (Rq [Ae 4 0] [4]<|.ret)<|Sk [])<|Rq [Bs 4 (-1)] [4]<|.ret)<|Sk [0,1,6])<|Sq (Rq [Aa 13 6] [0,1,13]<|Co 13 (Rq [Ae 4 1] [4]<|.ret)<|Sk [0,1])<|Sq (Rq [Aa 14 0,Aa 15 1,An 16 14 15] [0,1,16]<|Co 16 (Rq [Bs 4 (-1)] [4]<|.ret)<|Sk [0,1])<|Sq (Rq [Aa 17 0,Aa 18 1,Ew 19 17 18] [19]<|Co 19 (Rq [Ae 4 1] [4]<|.ret)<|Sk [])<|Rq [Ae 4 0] [4]<|.ret) [.tmp 4]:=by decide +kernel
instance si (x_0:Int) (y:Int):Ct prog (IQ x_0 y) 263 [J3 x_0,J3 y] (fun r=>.sh (eI r)):=Fi lV fun r h hw hR=>by
  unfold IQ at h
  exact au
theorem kv:CK f233 (Rq [Af 2 0,Af 3 1,Aj 4] [2,3]<|Rq [Da 13 259 3,Aa 5 13] [2,5]<|Rq [Aa 15 5,Ab 16 2 1,Ad 17 16 2,Cz 18 15 17,Aa 14 18,Al 19 14 0,Al 20 14 1,Al 21 14 2,Aa 6 19,Aa 7 20,Aa 8 21] [2,5,6,7,8]<|Rq [Aa 23 5,Ab 24 2 3,Ad 25 24 2,Cz 26 23 25,Aa 22 26,Al 27 22 0,Al 28 22 1,Al 29 22 2,Aa 9 27,Aa 10 28,Aa 11 29] [2,6,7,8,9,10,11]<|Sq (Rq [Aa 30 8,Be 31 30,Aa 32 31,As 33 11 32,Br 34 33 32,Aq 35 32 34] [2,6,7,9,10,35]<|Co 35 (Rq [Aj 4] [4]<|.ret)<|Sk [2,6,7,9,10])<|Rq [Aa 36 6,Aa 37 9,Av 38 262 36 37,Aa 39 7,Aa 40 10,Av 41 263 39 40,Dl 42 1 38 41,Ba 43 261 42,Aa 12 43] [2,12]<|Rq [Ab 44 2 0,Ac 45 44,Bc 46 45 1,Aa 47 46,Au 48 12 47,Cm 49 48 0 47,Ap 50 47 49,Aa 51 50,Ar 52 2 0 51,Ao 53 52 51,Hc 54 53 2 51,As 55 54 51,Au 56 12 55,Cu 57 56 0 55,Cc 58 55 57 51,Aq 59 51 58,Aa 4 59] [4]<|.ret) [.tmp 4]:=by decide +kernel
instance sK (x_0:Test) (BB:List Int):Ct prog (GV x_0 BB) 233 [Lk x_0,lI BB] (fun r=>.sh (eB r)):=Fi kv fun r h hw hR=>by
  unfold GV at h
  exact au
theorem jy:CK f178 (Rq [Af 3 0,Af 4 1,Af 5 2,Bb 6 1,Ae 7 0] [3,4,5]<|Sq (Dr [8,9,16,17,18,19,20,21] [Ab 16 3 3,Ac 17 16,Fq 18 1 0 17,Ab 19 3 3,Ac 20 19,Eu 21 1 20,Cj 8 18,Cj 9 21] [3,4,5,8,9])<|Sq (Rq [Ab 22 3 2,Ac 23 22,Ah 24 23,Ae 25 0] [3,4,5,8,9,23,24,25]<|Bl 0<|Lo [3,4,5,8,9,23,24,25]<|Rq [An 26 25 24] [3,4,5,8,9,23,24,25,26]<|Sq (Co 26 (Sk [3,4,5,8,9,23,24,25])<|Ex 0 [3,8])<|Sq (Bl 1<|Rq [Ai 27 23 25 4,Ad 28 27 4,Ea 11 0 0 0 0,Ak 4 11 28] [3,4,5,8,9,11,23,24,25]<|Sq (Dr [12,29,30,31,32,33,34,35,36,37,38,39,40,41,42] [Ab 29 4 2,Ac 30 29,Ab 31 5 0,Ac 32 31,Ab 33 11 0,Ac 34 33,Ai 35 32 34 1,Ac 36 35,Ai 37 30 36 1,Ac 38 37,Ab 39 11 1,Ac 40 39,Ai 41 38 40 1,Ac 42 41,Aa 12 42] [3,4,5,8,9,11,12,23,24,25])<|Sq (Rq [Ab 43 11 2,Ag 44 43 0,Ac 45 44,Aa 13 45] [3,4,5,8,9,11,12,13,23,24,25]<|Rq [Aa 46 13,Bp 47 46 0,Aa 48 47,Gk 49 9 48,Au 50 13 48,Gl 51 49 50 1 48,Gm 52 51 48,Eh 53 52 48,Ap 54 48 53] [3,4,5,8,9,11,12,13,23,24,25,54]<|Co 54 (Re [Bu 55 8,Aa 56 13,Bu 57 9,Aa 58 13,Aa 59 12,Ab 60 11 2,Ag 61 60 1,Ac 62 61,Dx 63 59 62,Cp 64 55 56 1,Et 64 63,Cp 65 57 58 1,Eg 65] [3,4,5,8,9,11,12,23,24,25])<|Sk [3,4,5,8,9,11,12,23,24,25])<|Rq [Ab 66 11 2,Ad 67 66 2,Bu 68 8,Ej 69 232 67 68,Aa 70 12,Bt 71 69 70] [3,4,5,8,9,23,24,25,71]<|Co 71 (Rq [Bb 6 1,Ae 7 11] [6,7]<|.ret)<|Sk [3,4,5,8,9,23,24,25])<|Re [Am 72 25 1,Aa 25 72] [3,4,5,8,9,23,24,25])<|Sq (Rq [Ab 73 3 4,Ac 74 73,Ah 75 74,Ae 76 0] [8,74,75,76]<|Bl 2<|Lo [8,74,75,76]<|Rq [An 77 76 75] [8,74,75,76,77]<|Sq (Co 77 (Sk [8,74,75,76])<|Ex 2 [8])<|Sq (Bl 3<|Rq [Ai 78 74 76 5,Ad 79 78 5,Fo 15 0 0 0 0 0,Ak 5 15 79] [8,15,74,75,76]<|Rq [Ad 80 15 5,Bu 81 8,Ej 82 233 80 81,Be 83 82] [8,74,75,76,83]<|Co 83 (Rq [Bb 6 1,Ae 7 16] [6,7]<|.ret)<|Sk [8,74,75,76])<|Re [Am 84 76 1,Aa 76 84] [8,74,75,76])<|Rq [Dy 85 8,Ax 6 85,Ae 7 0] [6,7]<|.ret) [.tmp 6,.tmp 7]:=by decide +kernel
instance rQ (p:Pattern) (h_1:AY) (m:Morphism):Ct prog (IL p h_1 m) 178 [BA p,IU h_1,BS m] (fun r=>.tp [lI r.1,eI r.2]):=Fi jy fun r h hw hR=>by
  unfold IL at h
  have:HA 0 25 24 0 fun (i0:Int) (s0:List Int × List Bool)=>[(8,.xo 1 (List.map eI s0.1)),(9,.xo 1 (List.map eB s0.2)),(25,.tv (eI i0))]:=⟨⟩
  have:HA 2 76 75 0 fun (i2:Int) (_:Unit)=>[(76,.tv (eI i2))]:=⟨⟩
  exact au
theorem ir:CK f110 (Rq [Af 4 0,Af 5 1,Af 6 2,Af 7 3,Bb 8 1,Ae 9 0] [4,5,6,7]<|Sq (Rq [Ad 12 4 2,Ad 13 5 5,Ad 14 6 3,Bf 15 177 12 13 14,Aa 10 15] [4,5,6,7,10]<|Rq [Aa 16 10,Aw 17 16 0] [4,5,6,7,10,17]<|Co 17 (Rq [Aa 18 10,Bb 8 1,Aa 9 18] [8,9]<|.ret)<|Sk [4,5,6,7])<|Sq (Rq [Ad 19 4 2,Ab 20 5 0,Ad 21 20 2,Ab 22 6 0,Ad 23 22 2,Ad 24 7 2,⟨some 25,.call 109 [.s 19,.s 21,.s 23,.s 24,.c (.bool false)],none⟩,Aa 11 25] [5,6,7,11]<|Rq [Aa 26 11,Aw 27 26 0] [5,6,7,11,27]<|Co 27 (Rq [Aa 28 11,Bb 8 1,Aa 9 28] [8,9]<|.ret)<|Sk [5,6,7])<|Rq [Ad 29 5 5,Ad 30 6 3,Ad 31 7 2,Bf 32 178 29 30 31,Al 33 32 0,Al 34 32 1,Ax 8 33,Aa 9 34] [8,9]<|.ret) [.tmp 8,.tmp 9]:=by decide +kernel
instance qN (t:Types) (p:Pattern) (h_2:AY) (m:Morphism):Ct prog (ET t p h_2 m) 110 [AU t,BA p,IU h_2,BS m] (fun r=>.tp [lI r.1,eI r.2]):=Fi ir fun r h hw hR=>by
  unfold ET at h
  exact au
theorem ov:CK f47 (Rq [Af 6 0,Af 7 1,Af 8 2,Af 9 3,Af 10 4,Ae 12 0] [5,6,7,8,9,10]<|Sq (Rq [Ad 19 6 2,Ad 20 7 5,Ad 21 8 9,Bf 22 15 19 20 21,Aa 13 22] [5,6,7,9,10,13]<|Rq [Aa 23 13,Aw 24 23 0] [5,6,7,9,10,13,24]<|Co 24 (Rq [Aa 25 13,Aa 12 25] [12]<|.ret)<|Sk [5,6,7,9,10])<|Sq (Rq [Ad 27 6 2,Ad 28 9 3,Av 29 108 27 28,Aa 26 29,Al 30 26 0,Al 31 26 1,Aa 14 30,Aa 15 31] [5,6,7,9,10,15]<|Rq [Aa 32 15,Aw 33 32 0] [5,6,7,9,10,15,33]<|Co 33 (Rq [Aa 34 15,Aa 12 34] [12]<|.ret)<|Sk [5,6,7,9,10])<|Sq (Rq [Ad 35 6 2,Ab 36 7 0,Ad 37 36 2,Ab 38 9 0,Ad 39 38 2,Ab 40 10 0,Ad 41 40 2,Aa 42 5,Gn 43 109 35 37 39 41 42,Aa 16 43] [6,7,9,10,16]<|Rq [Aa 44 16,Aw 45 44 0] [6,7,9,10,16,45]<|Co 45 (Rq [Aa 46 16,Aa 12 46] [12]<|.ret)<|Sk [6,7,9,10])<|Rq [Ad 48 6 2,Ad 49 7 5,Ad 50 9 3,Ab 51 10 0,Ad 52 51 2,Cq 53 110 48 49 50 52,Aa 47 53,Al 54 47 0,Al 55 47 1,Ax 17 54,Aa 18 55] [10,17,18]<|Sq (Rq [Aa 56 18,Aw 57 56 0] [10,17,18,57]<|Co 57 (Rq [Aa 58 18,Aa 12 58] [12]<|.ret)<|Sk [10,17])<|Sq (Rq [Aa 59 17,Ab 60 10 2,Ac 61 60,Av 62 73 59 61,Be 63 62] [63]<|Co 63 (Rq [Ae 12 11] [12]<|.ret)<|Sk [])<|Rq [Ae 12 0] [12]<|.ret) [.tmp 12]:=by decide +kernel
instance t2 (t:Types) (p:Pattern) (c:AA) (h_3:AY) (m:AL) (injective:Bool):Ct prog (D4 t p c h_3 m injective) 47 [AU t,BA p,AJ c,IU h_3,CH m,eB injective] (fun r=>.sh (eI r)):=Fi ov fun r h hw hR=>by
  unfold D4 at h
  exact au
theorem jL:CK f132 (Rq [Aj 3] [0,1]<|Rq [Aa 4 0,Ge 5 4 (-1),Aa 6 5,As 7 0 6,Ao 8 1 6,Bz 9 7 8 6,Aq 10 6 9,Aa 3 10] [3]<|.ret) [.tmp 3]:=by decide +kernel
instance ql (k:Int) (c0:Int):Ct prog (LE k c0) 132 [eI k,.pt [eI c0]] (fun r=>.sh (eB r)):=Fi jL fun r h hw hR=>by
  unfold LE at h
  exact au
theorem o9:CK f63 (Rq [Af 3 1,Ae 4 0] [0,3]<|Sq (Rq [Aa 5 0,Da 6 132 3,Av 7 81 5 6] [7]<|Co 7 (Rq [Ae 4 6] [4]<|.ret)<|Sk [])<|Rq [Ae 4 0] [4]<|.ret) [.tmp 4]:=by decide +kernel
instance uJ (l:List Int) (n:Int):Ct prog (G0 l n) 63 [lI l,eI n] (fun r=>.sh (eI r)):=Fi o9 fun r h hw hR=>by
  unfold G0 at h
  exact au
theorem k6:CK f240 (Rq [Ae 4 0] [0,1]<|Sq (Rq [Aa 5 0,⟨some 6,.isn (.s 5),none⟩] [0,1,6]<|Co 6 (Rq [Bs 4 (-1)] [4]<|.ret)<|Sk [0,1])<|Rq [Aa 7 0,Aa 8 1,Ai 9 7 8 1,Ac 10 9,Aa 4 10] [4]<|.ret) [.tmp 4]:=by decide +kernel
instance sP (l:List Int) (i_1:Int):Ct prog (IA l i_1) 240 [lI l,eI i_1] (fun r=>.sh (eI r)):=Fi k6 fun r h hw hR=>by
  unfold IA at h
  exact au
theorem k9:CK f243 (Rq [Aj 6] [0,1,2]<|Rq [Aa 9 0,Ag 10 9 0,Ag 11 10 0,Ag 12 11 1,Ac 13 12,Aa 14 1,Ai 15 13 14 3,Ad 16 15 3,Cl 7 0 0 0,Ak 3 7 16] [0,1,2,7]<|Sq (Rq [Aa 17 0,Ag 18 17 0,Ag 19 18 5,Ag 20 19 1,Ac 21 20,Aa 22 1,Av 23 240 21 22,Aa 8 23] [0,2,7,8]<|Rq [Aa 24 8,Bp 25 24 0,Aa 26 25,Au 27 8 26,Au 28 2 26,Fr 29 27 28 26,Ap 30 26 29] [0,2,7,30]<|Co 30 (Rq [Aj 6] [6]<|.ret)<|Sk [0,2,7])<|Sq (Dr [6,31,32,33,34,35,36,37,38,39,40,41,42,43,44,45,46,47,48,49,50,51,52,53,54,55,56,57,58] [Aa 31 0,Ag 32 31 0,Ag 33 32 2,Ag 34 33 1,Ac 35 34,Aa 36 2,Ai 37 35 36 3,Ad 38 37 3,Ab 39 7 0,Ac 40 39,Aa 41 0,Ag 42 41 0,Ag 43 42 9,Ac 44 43,Ab 45 7 1,Ac 46 45,Ai 47 44 46 1,Ac 48 47,Aa 49 0,Ag 50 49 0,Ag 51 50 9,Ac 52 51,Ab 53 7 2,Ac 54 53,Ai 55 52 54 1,Ac 56 55,Fs 57 0 0 0 0 1 40 1 1 48 2 1 56,⟨some 58,.bin (.a [0,0,0]) .eql (.s 38) (.s 57),none⟩,Aa 6 58] [6])<|.ret) [.tmp 6]:=by decide +kernel
instance sS (f:AG) (i_1:Int) (k:Int):Ct prog (D7 f i_1 k) 243 [.pt (Og f).cells,eI i_1,eI k] (fun r=>.sh (eB r)):=Fi k9 fun r h hw hR=>by
  unfold D7 at h
  exact au
theorem k8:CK f242 (Rq [Aj 2] [0]<|Rq [Aa 8 0,Ag 9 8 0,Ag 10 9 9,Ac 11 10,Ah 12 11,Bx 13 12 1,Aa 3 13] [0,3]<|Sq (Rq [Aa 14 0,Ag 15 14 0,Ag 16 15 0,Ag 17 16 1,Ac 18 17,Ah 19 18,Ae 20 0] [0,3,18,19,20]<|Bl 0<|Lo [0,3,18,19,20]<|Rq [An 21 20 19] [0,3,18,19,20,21]<|Sq (Co 21 (Sk [0,3,18,19,20])<|Ex 0 [])<|Sq (Bl 1<|Rq [Aa 22 20,Ai 23 18 20 3,Ad 24 23 3,Cl 5 0 0 0,Aa 4 22,Ak 3 5 24] [0,3,4,5,18,19,20]<|Sq (Rq [Ab 25 5 1,Ac 26 25,Ab 27 5 2,Ac 28 27,Gh 29 26 28,Aa 30 3,Bt 31 29 30] [0,3,4,18,19,20,31]<|Co 31 (Ex 1 [0,3,18,19,20])<|Sk [0,3,4,18,19,20])<|Rq [Aj 6] [0,3,4,6,18,19,20]<|Sq (Rq [Aa 32 0,Ag 33 32 0,Ag 34 33 2,Ag 35 34 1,Ac 36 35,Ah 37 36,Ae 38 0] [0,3,4,6,18,19,20,37,38]<|Bl 2<|Lo [0,3,4,6,18,19,20,37,38]<|Rq [An 39 38 37] [0,3,4,6,18,19,20,37,38,39]<|Sq (Co 39 (Sk [0,3,4,6,18,19,20,37,38])<|Ex 2 [0,3,6,18,19,20])<|Sq (Bl 3<|Rq [Aa 40 38,Aa 7 40] [0,3,4,6,7,18,19,20,37,38]<|Rq [Aa 41 0,Aa 42 4,Aa 43 7,Bf 44 243 41 42 43] [0,3,4,6,18,19,20,37,38,44]<|Co 44 (Rq [Bv 6] [0,3,6,18,19,20]<|Ex 2 [0,3,6,18,19,20])<|Sk [0,3,4,6,18,19,20,37,38])<|Re [Am 45 38 1,Aa 38 45] [0,3,4,6,18,19,20,37,38])<|Rq [Aa 46 6,Be 47 46] [0,3,18,19,20,47]<|Co 47 (Rq [Aj 2] [2]<|.ret)<|Sk [0,3,18,19,20])<|Re [Am 48 20 1,Aa 20 48] [0,3,18,19,20])<|Rq [Bv 2] [2]<|.ret) [.tmp 2]:=by decide +kernel
instance sR (f:AG):Ct prog (CI f) 242 [.pt (Og f).cells] (fun r=>.sh (eB r)):=Fi k8 fun r h hw hR=>by
  unfold CI at h
  have:HA 0 20 19 0 fun (i0:Int) (_:Unit)=>[(20,.tv (eI i0))]:=⟨⟩
  have:HA 2 38 37 0 fun (i2:Int) (s2:Bool)=>[(6,.tv (eB s2)),(38,.tv (eI i2))]:=⟨⟩
  exact au
noncomputable def Tx:PC:=Bl 0<|Sq (Dr [28,29,30,31,32,33,34,35,36,37,38] [Ab 29 0 0,Ag 30 29 0,Ag 31 30 11,Ac 32 31,Ah 33 32,Ab 34 0 0,Ag 35 34 0,Ag 36 35 8,Ac 37 36,Cx 38 33 37,Aa 28 38] [0,28])<|Co 28 (Sk [0])<|Sq (Dr [39,40,41,42,43,44,45,46,47,48,49,50,51] [Ab 40 0 0,Ag 41 40 0,Ag 42 41 9,Dh 43 42,Dp 44 43,Ab 45 0 0,Ag 46 45 0,Ag 47 46 0,Ag 48 47 0,Ac 49 48,Ah 50 49,An 51 44 50,Aa 39 51] [0,39])<|Co 39 (Rq [Ab 52 0 0,Ag 53 52 0,Ag 54 53 9,Dh 55 54,Dp 56 55,Aa 2 56] [0,2]<|Rq [Ab 57 0 0,Ag 58 57 0,Ag 59 58 2,Ag 60 59 0,Ac 61 60,Ah 62 61,Ae 63 0] [0,2,61,62,63]<|Bl 1<|Lo [0,2,61,62,63]<|Rq [An 64 63 62] [0,2,61,62,63,64]<|Sq (Co 64 (Sk [0,2,61,62,63])<|Ex 1 [0])<|Sq (Bl 2<|Rq [Aa 65 63,Ai 66 61 63 1,Ac 67 66,Aa 3 65,Aa 4 67] [0,2,3,4,61,62,63]<|Sq (Rq [Ab 68 0 0,Ag 69 68 0,Ag 70 69 5,Ag 71 70 0,Ac 72 71,Aa 73 2,Av 74 240 72 73,Aa 5 74] [0,2,3,4,5,61,62,63]<|Sq (Dr [75,76,77,78,79,80,81,82,83,84,85,86,87,88,89,90,91,92,93,94,95,96,97,98,99,100,101,102,103,104,105,106,107,108,109,110,111,112,113,114,115] [Aa 75 5,Bp 76 75 0,Aa 77 76,Au 78 5 77,Au 79 3 77,Fr 80 78 79 77,Ap 81 77 80,Aa 82 81,Ar 83 0 0 82,Bn 84 83 0 82,Bn 85 84 4 82,Ao 86 85 82,Ar 87 0 0 82,Bn 88 87 0 82,Bn 89 88 0 82,Bn 90 89 0 82,Ao 91 90 82,As 92 2 82,Cf 93 91 92 1 82,Ao 94 93 82,Cf 95 86 94 1 82,Ao 96 95 82,As 97 4 82,Cf 98 96 97 1 82,Ao 99 98 82,Br 100 99 82,Aq 101 82 100,Aa 102 101,Ar 103 0 0 102,Bn 104 103 0 102,Bn 105 104 7 102,Ao 106 105 102,As 107 106 102,Ay 108 0 0 107,By 109 108 0 107,By 110 109 9 107,⟨some 111,.lac (.s 110),some (107,true)⟩,Au 112 3 107,⟨some 113,.calll 241 [.s 111,.s 112],some (107,true)⟩,Cc 114 107 113 102,Aq 115 102 114] [0,2,3,61,62,63,115])<|Co 115 (Ex 2 [0,2,61,62,63])<|Sk [0,2,3,61,62,63])<|Rq [Ab 116 0 0,Ab 117 0 0,Ag 118 117 0,Ag 119 118 9,Ft 120 119,Aa 121 3,Bh 122 1 121,Fg 123 1 120 122,Ag 124 116 0,Ag 125 124 9,Fu 125 123] [0,2,61,62,63]<|Sq (Rq [Ab 126 0 0,Gp 127 242 126] [0,2,61,62,63,127]<|Co 127 (Re [Ab 128 0 0,Gq 129 198 128 0] [0,2,61,62,63])<|Sk [0,2,61,62,63])<|Re [Ab 130 0 0,Ab 131 0 0,Ag 132 131 0,Ag 133 132 9,Ft 134 133,Aa 135 2,⟨some 136,.cut 1 134 (.s 135),none⟩,Ag 137 130 0,Ag 138 137 9,Fu 138 136] [0,2,61,62,63])<|Re [Am 139 63 1,Aa 63 139] [0,2,61,62,63])<|Sq (Dr [140,141,142,143,144,145,146,147,148,149,150,151,152] [Ab 141 0 0,Ag 142 141 0,Ag 143 142 10,Dh 144 143,Dp 145 144,Ab 146 0 0,Ag 147 146 0,Ag 148 147 0,Ag 149 148 1,Ac 150 149,Ah 151 150,An 152 145 151,Aa 140 152] [0,140])<|Co 140 (Rq [Ab 153 0 0,Ag 154 153 0,Ag 155 154 10,Dh 156 155,Dp 157 156,Aa 6 157] [0,6]<|Rq [Ab 158 0 0,Ag 159 158 0,Ag 160 159 2,Ag 161 160 1,Ac 162 161,Ah 163 162,Ae 164 0] [0,6,163,164]<|Bl 3<|Lo [0,6,163,164]<|Rq [An 165 164 163] [0,6,163,164,165]<|Sq (Co 165 (Sk [0,6,163,164])<|Ex 3 [0])<|Sq (Bl 4<|Rq [Aa 166 164,Aa 7 166] [0,6,7,163,164]<|Sq (Rq [Ab 167 0 0,Aa 168 6,Aa 169 7,⟨some 170,.calll 243 [.s 167,.s 168,.s 169],none⟩,Be 171 170,Aa 172 171,Ar 173 0 0 172,Bn 174 173 0 172,Bn 175 174 7 172,Ao 176 175 172,As 177 176 172,Ay 178 0 0 177,By 179 178 0 177,By 180 179 10 177,⟨some 181,.lac (.s 180),some (177,true)⟩,Au 182 7 177,⟨some 183,.calll 241 [.s 181,.s 182],some (177,true)⟩,Cc 184 177 183 172,Aq 185 172 184] [0,6,7,163,164,185]<|Co 185 (Ex 4 [0,6,163,164])<|Sk [0,6,7,163,164])<|Rq [Ab 186 0 0,Ab 187 0 0,Ag 188 187 0,Ag 189 188 10,Ft 190 189,Aa 191 7,Bh 192 1 191,Fg 193 1 190 192,Ag 194 186 0,Ag 195 194 10,Fu 195 193] [0,6,163,164]<|Rq [Ab 196 0 0,Gq 197 198 196 0] [0,6,163,164]<|Re [Ab 198 0 0,Ab 199 0 0,Ag 200 199 0,Ag 201 200 10,Ft 202 201,Aa 203 6,⟨some 204,.cut 1 202 (.s 203),none⟩,Ag 205 198 0,Ag 206 205 10,Fu 206 204] [0,6,163,164])<|Re [Am 207 164 1,Aa 164 207] [0,6,163,164])<|Dr [8,9,10,11,12,13,14,15,16,17,18,19,20,21,22,23,24,25,26,27] [Ab 8 0 0,Ab 9 0 0,Ag 10 9 0,Ag 11 10 11,Ci 12 11,Ab 13 0 0,Ag 14 13 0,Ag 15 14 9,Dh 16 15,Gp 17 138 16,Ab 18 0 0,Ag 19 18 0,Ag 20 19 10,Dh 21 20,Gp 22 138 21,Di 23 1 1 0 1 17 1 1 22,Bh 24 2 23,Bj 25 2 12 24,Ag 26 8 0,Ag 27 26 11,Bo 1 27 25] [0]
theorem kL:CK f198 Tx []:=by decide +kernel
theorem mL:PC.noClm Tx=true∧PC.noDst 0 Tx=true:=by decide +kernel
theorem iV (n:Nat) (_ih_198:∀ (f:AG),Ct prog (A2 n f) 198 [.undef] (fun r=>.bo (DH f) (DH r) 0 [])) (f:AG):Ct prog (A2 (n+1) f) 198 [.undef] (fun r=>.bo (DH f) (DH r) 0 []):=dr kL mL fun r h hw hwc hR=>by
  unfold Tx
  unfold A2 at h
  have:HA 1 63 62 0 fun (i1:Int) (s1:AG)=>[(0,.bx (DH s1)),(63,.tv (eI i1))]:=⟨⟩
  have:HA 3 164 163 0 fun (i3:Int) (s3:AG)=>[(0,.bx (DH s3)),(164,.tv (eI i3))]:=⟨⟩
  have:HJ 28 fun (w1:AG)=>[(0,.bx (DH w1))]:=⟨⟩
  exact au
theorem iU:∀ n:Nat,(∀ (f:AG),Ct prog (A2 n f) 198 [.undef] (fun r=>.bo (DH f) (DH r) 0 [])):=by
  intro n
  induction n with
  | zero=>exact (fun f=>⟨fun _ h=>by cases h⟩)
  | succ n ih=>exact iV n ih
instance ri (f:AG):Ct prog (FG f) 198 [.undef] (fun r=>.bo (DH f) (DH r) 0 []):=⟨fun r h=>by
  obtain ⟨N,hN⟩:=DK h
  exact ((iU N) f).snd r (hN N (Nat.le_refl _))⟩
theorem jM:CK f133 (Rq [Af 6 0,Af 7 1,Af 8 2,Af 9 3,Bb 12 2] [4,5,6,7,8,9]<|Sq (Dr [13,14,15,16,17,18,19,20,21] [Ad 14 7 2,Ad 15 8 2,Ad 16 6 2,Ba 17 197 16,Ad 18 9 2,Aa 19 4,Aa 20 5,⟨some 21,.bld [.list 1 [],.list 3 [],.list 1 [],.list 3 [],.list 1 [],.list 1 [],.list 1 [],.bool false,.int .i64 0,.nil,.nil,.nil] [(0,2,.s 14),(2,2,.s 15),(4,1,.s 17),(5,2,.s 18),(7,1,.s 19),(8,1,.s 20)],none⟩,⟨some 22,.boxp [none,none,none,none,none,none,none,none,none,some ⟨true,.xl 1 []⟩,some ⟨true,.xl 1 []⟩,some ⟨true,.list 2 []⟩] (.s 21),none⟩,Ab 13 22 0] [13,22])<|Rq [Ag 23 13 0,Gq 24 198 23 0] [13,22]<|Rq [Ag 25 13 0,Ag 26 25 0,Ag 27 26 11,Ac 28 27,Ax 12 28] [12]<|.ret) [.tmp 12]:=by decide +kernel
instance qo (t:Types) (p:Graph) (g:Graph) (partial_:Morphism) (injective:Bool) (most:Int):Ct prog (HD t p g partial_ injective most) 133 [AU t,CA p,CA g,BS partial_,eB injective,eI most] (fun r=>.sh ((eL 2 BS) r)):=Fi jM fun r h hw hR=>by
  unfold HD at h
  exact au
theorem pA:CK f64 (Rq [Af 5 0,Af 6 1,Af 7 2,Af 8 3,Bb 10 2,Ae 11 0] [4,5,6,7,8]<|Rq [Ad 13 5 2,Ad 14 6 2,Ad 15 7 2,Ad 16 8 2,Aa 17 4,Hd 18 133 13 14 15 16 17 5001,Ax 12 18] [12]<|Sq (Rq [Aa 19 12,Ah 20 19,Bk 21 20 5000] [12,21]<|Co 21 (Rq [Bb 10 2,Ae 11 3] [10,11]<|.ret)<|Sk [12])<|Rq [Aa 22 12,Ax 10 22,Ae 11 0] [10,11]<|.ret) [.tmp 10,.tmp 11]:=by decide +kernel
instance uK (t:Types) (p:Graph) (g:Graph) (partial_:Morphism) (injective:Bool):Ct prog (JV t p g partial_ injective) 64 [AU t,CA p,CA g,BS partial_,eB injective] (fun r=>.tp [(eL 2 BS) r.1,eI r.2]):=Fi pA fun r h hw hR=>by
  unfold JV at h
  exact au
theorem oc:CK f29 (Rq [Af 5 0,Af 6 1,Af 7 2,Af 8 3,Bb 10 2,Ae 11 0] [4,5,6,7,8]<|Sq (Rq [Ad 15 5 2,Ad 16 6 2,Ad 17 7 2,Bf 18 62 15 16 17,Aa 12 18] [4,5,6,7,8,12]<|Rq [Aa 19 12,Aw 20 19 0] [4,5,6,7,8,12,20]<|Co 20 (Rq [Aa 21 12,Bb 10 2,Aa 11 21] [10,11]<|.ret)<|Sk [4,5,6,7,8])<|Sq (Rq [Ab 22 8 0,Ac 23 22,Ah 24 23,Ab 25 6 0,Ac 26 25,Ah 27 26,Bt 28 24 27,Aa 29 28,Ar 30 8 1 29,Ao 31 30 29,Bi 32 31 29,Ar 33 6 1 29,Ao 34 33 29,Bi 35 34 29,Cv 36 32 35 29,Aq 37 29 36] [4,5,6,7,8,37]<|Co 37 (Rq [Bb 10 2,Ae 11 20] [10,11]<|.ret)<|Sk [4,5,6,7,8])<|Sq (Rq [Ab 38 8 0,Ac 39 38,Ab 40 7 0,Ac 41 40,Ah 42 41,Av 43 63 39 42,Aa 13 43] [4,5,6,7,8,13]<|Rq [Aa 44 13,Aw 45 44 0] [4,5,6,7,8,13,45]<|Co 45 (Rq [Aa 46 13,Bb 10 2,Aa 11 46] [10,11]<|.ret)<|Sk [4,5,6,7,8])<|Sq (Rq [Ab 47 8 1,Ac 48 47,Ab 49 7 1,Ac 50 49,Ah 51 50,Av 52 63 48 51,Aa 14 52] [4,5,6,7,8,14]<|Rq [Aa 53 14,Aw 54 53 0] [4,5,6,7,8,14,54]<|Co 54 (Rq [Aa 55 14,Bb 10 2,Aa 11 55] [10,11]<|.ret)<|Sk [4,5,6,7,8])<|Rq [Ad 56 5 2,Ad 57 6 2,Ad 58 7 2,Ad 59 8 2,Aa 60 4,Gn 61 64 56 57 58 59 60,Al 62 61 0,Al 63 61 1,Ax 10 62,Aa 11 63] [10,11]<|.ret) [.tmp 10,.tmp 11]:=by decide +kernel
instance tf (t:Types) (p:Graph) (g:Graph) (partial_:Morphism) (injective:Bool):Ct prog (GI t p g partial_ injective) 29 [AU t,CA p,CA g,BS partial_,eB injective] (fun r=>.tp [(eL 2 BS) r.1,eI r.2]):=Fi oc fun r h hw hR=>by
  unfold GI at h
  exact au
end Go.Sf.Sc
