/- Contracts of the functions. -/
import Derived.Test.YtmaobfbhdkafkaaGreatShort
import Derived.Test.YtmaobfbhdkafkaaGreatRp
import Derived.Test.YtmaobfbhdkafkaaGreatTryzShelf
import Derived.Test.YtmaobfbhdkafkaaGreatRp
set_option maxRecDepth 100000
namespace Go.Sf.Sc
open Go Go.Sf Go.Proofs.Tryz
theorem iO:CK f289 (Rq [Aj 2] [0]<|Rq [Aa 3 0,Ec 4 3 97,Aa 5 4,As 6 0 5,Dl 7 6 122 5,Ar 8 5 7,Aa 9 8,Au 10 0 9,Gg 11 10 65 9,Au 12 11 9,As 13 0 12,Dl 14 13 90 12,Ca 15 12 14 9,Aq 16 9 15,Aa 2 16] [2]<|.ret) [.tmp 2]:=by decide +kernel
instance p9 (c:Int):Ct prog (Jy c) 289 [Qq c] (fun r=>.sh (eB r)):=Fi iO fun r h hw hR=>by
  unfold Jy at h
  exact au
theorem iP:CK f290 (Rq [Ae 4 0] [0,1]<|Rq [Ae 5 0] [0,1,5]<|Sq (Bl 0<|Lo [0,1,5]<|Sq (Rq [Aa 6 5,Aa 7 0,Cn 8 7,Am 9 6 8,Aa 10 9,As 11 1 10,As 12 0 10,As 13 5 10,Fp 14 12 13 10,⟨some 15,.callv (.s 11) [.s 14],some (10,true)⟩,Ar 16 10 15] [0,1,5,16]<|Co 16 (Sk [0,1,5])<|Ex 0 [5])<|Bl 1<|Re [Aa 17 5,An 18 17 1,Aa 5 18] [0,1,5])<|Rq [Aa 19 5,Aa 4 19] [4]<|.ret) [.tmp 4]:=by decide +kernel
instance qA (s_0:ByteArray) (ok:Int->Option Bool) (S0:FuncId) (k_ok:List TV) [h_ok:∀ (y0:Int),Ct prog (ok y0) S0 (Qq y0::k_ok) (fun r=>.sh (eB r))]:Ct prog (Hg s_0 ok) 290 [eS s_0,.clo S0 k_ok] (fun r=>.sh (eI r)):=Fi iP fun r h hw hR=>by
  unfold Hg at h
  have:HW 0 fun (s0:Int)=>[(5,.tv (eI s0))]:=⟨⟩
  exact au
theorem iR:CK f292 (Rq [Aj 2] [0]<|Rq [Aa 3 0,Ec 4 3 48,Aa 5 4,As 6 0 5,Dl 7 6 57 5,Ar 8 5 7,Aa 2 8] [2]<|.ret) [.tmp 2]:=by decide +kernel
instance qC (c:Int):Ct prog (JY c) 292 [Qq c] (fun r=>.sh (eB r)):=Fi iR fun r h hw hR=>by
  unfold JY at h
  exact au
theorem iQ:CK f291 (Rq [Aj 2] [0]<|Rq [Aa 3 0,Ba 4 289 3,Aa 5 4,Au 6 0 5,Db 7 292 6 5,Aq 8 5 7,Aa 9 8,Au 10 0 9,Gh 11 10 95 9,Aq 12 9 11,Aa 2 12] [2]<|.ret) [.tmp 2]:=by decide +kernel
instance qB (c:Int):Ct prog (LZ c) 291 [Qq c] (fun r=>.sh (eB r)):=Fi iQ fun r h hw hR=>by
  unfold LZ at h
  exact au
theorem ia:CK f307 (Rq [Aj 2] [0]<|Rq [Aa 3 0,Ec 4 3 32,Aa 5 4,As 6 0 5,Dl 7 6 126 5,Ar 8 5 7,Aa 9 8,As 10 0 9,⟨some 11,.bin (.i) .neq (.s 10) (.c (.int .u8 34)),some (9,true)⟩,Ar 12 9 11,Aa 2 12] [2]<|.ret) [.tmp 2]:=by decide +kernel
instance qM (c:Int):Ct prog (J7 c) 307 [Qq c] (fun r=>.sh (eB r)):=Fi ia fun r h hw hR=>by
  unfold J7 at h
  exact au
theorem iS:CK f293 (Rq [Ae 2 0,Ae 3 0] [0]<|Rq [Aa 5 0,⟨some 6,.sslc (.s 5) (some (.c (.int .i64 1))) none,none⟩,En 7 290 6 307,Aa 4 7] [0,4]<|Sq (Rq [Aa 8 4,⟨some 9,.bin (.i) .add (.c (.int .i64 1)) (.s 8),none⟩,Aa 10 0,Cn 11 10,Cl 12 9 11,Aa 13 12,Au 14 0 13,Au 15 4 13,⟨some 16,.bin (.i) .add (.c (.int .i64 1)) (.s 15),some (13,false)⟩,⟨some 17,.sidx (.s 14) (.s 16),some (13,false)⟩,⟨some 18,.bin (.i) .neq (.s 17) (.c (.int .u8 34)),some (13,false)⟩,Aq 19 13 18] [4,19]<|Co 19 (Rq [Ae 2 0,Ae 3 2] [2,3]<|.ret)<|Sk [4])<|Sq (Rq [Aa 20 4,Bn 21 20 60] [4,21]<|Co 21 (Rq [Ae 2 0,Ae 3 3] [2,3]<|.ret)<|Sk [4])<|Rq [Aa 22 4,An 23 22 2,Aa 2 23,Ae 3 0] [2,3]<|.ret) [.tmp 2,.tmp 3]:=by decide +kernel
instance qE (s_0:ByteArray):Ct prog (G7 s_0) 293 [eS s_0] (fun r=>.tp [eI r.1,eI r.2]):=Fi iS fun r h hw hR=>by
  unfold G7 at h
  exact au
theorem iU:CK f296 (Rq [Ae 4 0] [0,1]<|Sq (Rq [Aa 6 0,Ag 7 6,Ae 8 0] [0,1,7,8]<|Bl 0<|Lo [0,1,7,8]<|Rq [Am 9 8 7] [0,1,7,8,9]<|Sq (Co 9 (Sk [0,1,7,8])<|Ex 0 [])<|Sq (Bl 1<|Rq [Aa 10 8,Aa 5 10] [0,1,5,7,8]<|Rq [Aa 11 1,Aa 12 0,Aa 13 5,Ai 14 12 13 1,Ab 15 14,Dg 16 11 15] [0,1,5,7,8,16]<|Co 16 (Rq [Aa 17 5,Aa 4 17] [4]<|.ret)<|Sk [0,1,7,8])<|Re [An 18 8 1,Aa 8 18] [0,1,7,8])<|Rq [Bs 4 (-1)] [4]<|.ret) [.tmp 4]:=by decide +kernel
instance qG (s_0:List ByteArray) (v_1:ByteArray):Ct prog (GL s_0 v_1) 296 [lB s_0,eS v_1] (fun r=>.sh (eI r)):=Fi iU fun r h hw hR=>by
  unfold GL at h
  have:HA 0 8 7 0 fun (i0:Int) (_:Unit)=>[(8,.tv (eI i0))]:=⟨⟩
  exact au
theorem iJ:CK f268 (Rq [Aj 4] [0,1]<|Rq [Aa 5 0,Aa 6 1,Ay 7 296 5 6,Bj 8 7 0,Aa 4 8] [4]<|.ret) [.tmp 4]:=by decide +kernel
instance p4 (s_0:List ByteArray) (v_1:ByteArray):Ct prog (D4 s_0 v_1) 268 [lB s_0,eS v_1] (fun r=>.sh (eB r)):=Fi iJ fun r h hw hR=>by
  unfold D4 at h
  exact au
theorem iT:CK f294 (Rq [Aj 2] [0]<|Rq [Aa 3 0,Cn 4 3,Bj 5 4 2,Aa 6 5,⟨some 7,.lst 1 [.c (.str ⟨#[45,62]⟩),.c (.str ⟨#[60,61]⟩),.c (.str ⟨#[62,61]⟩),.c (.str ⟨#[61,61]⟩),.c (.str ⟨#[33,61]⟩)],some (6,true)⟩,As 8 0 6,⟨some 9,.sslc (.s 8) none (some (.c (.int .i64 2))),some (6,true)⟩,Dc 10 268 7 9 6,Ar 11 6 10,Aa 2 11] [2]<|.ret) [.tmp 2]:=by decide +kernel
instance qF (s_0:ByteArray):Ct prog (LY s_0) 294 [eS s_0] (fun r=>.sh (eB r)):=Fi iT fun r h hw hR=>by
  unfold LY at h
  exact au
theorem kt (s:ByteArray) (c:Int) (r:Int) (h:strings_IndexByte s c=some r):AV prog 295 [eS s,Qq c] (.sh (eI r)):=by
  unfold strings_IndexByte at h
  cases h
  exact bw (by rfl) ⟨Go.Lib.indexByte_ge _ _,bv _ _⟩ (fun w=>Go.Proofs.Tryz.strings_IndexByte s c w)
instance qX (s:ByteArray) (c:Int):Ct Go.Proofs.Tryz.prog (strings_IndexByte s c) 295 [eS s,Qq c] (fun r=>.sh (eI r)):=⟨kt s c⟩
theorem iH:CK f266 (Rq [Ae 2 0,Ae 3 0,Ae 4 0] [0]<|Rq [Aa 10 0,⟨some 11,.sidx (.s 10) (.c (.int .i64 0)),none⟩,Aa 5 11] [0,5]<|Sq (Bl 0<|Rq [Aa 13 5,Ba 14 289 13,Aa 12 14] [0,5,12]<|Co 12 (Rq [Aa 15 0,En 16 290 15 291,Aa 6 16] [6]<|Sq (Rq [Aa 17 6,Bn 18 17 20] [6,18]<|Co 18 (Rq [Ae 2 0,Ae 3 0,Ae 4 3] [2,3,4]<|.ret)<|Sk [6])<|Rq [Aa 19 6,Ae 2 1,Aa 3 19,Ae 4 0] [2,3,4]<|.ret)<|Rq [Aa 21 5,Ba 22 292 21,Aa 20 22] [0,5,20]<|Co 20 (Rq [Aa 23 0,En 24 290 23 292,Aa 7 24] [7]<|Sq (Rq [Aa 25 7,Bn 26 25 9] [7,26]<|Co 26 (Rq [Ae 2 0,Ae 3 0,Ae 4 3] [2,3,4]<|.ret)<|Sk [7])<|Rq [Aa 27 7,Ae 2 2,Aa 3 27,Ae 4 0] [2,3,4]<|.ret)<|Rq [Aa 29 5,Fq 30 29 34,Aa 28 30] [0,5,28]<|Co 28 (Rq [Aa 32 0,Ba 33 293 32,Aa 31 33,Ak 34 31 0,Ak 35 31 1,Aa 8 34,Aa 9 35] [8,9]<|Rq [Aa 36 8,Aa 37 9,Ae 2 3,Aa 3 36,Aa 4 37] [2,3,4]<|.ret)<|Rq [Aa 39 0,Ba 40 294 39,Aa 38 40] [5,38]<|Co 38 (Rq [Ae 2 4,Ae 3 2,Ae 4 0] [2,3,4]<|.ret)<|Rq [Aa 42 5,⟨some 43,.call 295 [.c (.str ⟨#[123,125,40,41,91,93,44,59,58,61,43,45,42,60,62,33,38,124,46,63]⟩),.s 42],none⟩,Bj 44 43 0,Aa 41 44] [41]<|Co 41 (Rq [Ae 2 4,Ae 3 1,Ae 4 0] [2,3,4]<|.ret)<|Sk [])<|Rq [Ae 2 0,Ae 3 0,Ae 4 2] [2,3,4]<|.ret) [.tmp 2,.tmp 3,.tmp 4]:=by decide +kernel
instance p0 (s_0:ByteArray):Ct prog (IM s_0) 266 [eS s_0] (fun r=>.tp [eI r.1,eI r.2.1,eI r.2.2]):=Fi iH fun r h hw hR=>by
  unfold IM at h
  exact au
theorem gy:CK f244 (Rq [Af 1 0,Cp 2,Aj 3] [1]<|Rq [Ac 8 1 1,Ab 9 8,Aa 4 9] [1,4]<|Sq (Rq [Ac 10 1 0,Ab 11 10,Az 12 11 3] [1,4,12]<|Co 12 (Re [Aa 13 4,⟨some 14,.bin (.s) .add (.c (.str ⟨#[34]⟩)) (.s 13),none⟩,⟨some 15,.bin (.s) .add (.s 14) (.c (.str ⟨#[34]⟩)),none⟩,Aa 4 15] [1,4])<|Sk [1,4])<|Sq (Rq [Aa 16 4,⟨some 17,.bin (.s) .eql (.s 16) (.c (.str ⟨#[]⟩)),none⟩] [1,4,17]<|Co 17 (Rq [Cp 2,Aj 3] [2,3]<|.ret)<|Sk [1,4])<|Rq [Aa 19 4,Ba 20 266 19,Aa 18 20,Ak 21 18 0,Ak 22 18 1,Ak 23 18 2,Aa 5 21,Aa 6 22,Aa 7 23] [1,4,5,6,7]<|Rq [Aa 24 4,Aa 25 7,Az 26 25 0,Aa 27 26,As 28 5 27,Aw 29 1 0 27,Ax 30 29 27,Cx 31 28 30 27,Ar 32 27 31,Aa 33 32,As 34 6 33,As 35 4 33,Fr 36 35 33,Cx 37 34 36 33,Ar 38 33 37,Aa 2 24,Aa 3 38] [2,3]<|.ret) [.tmp 2,.tmp 3]:=by decide +kernel
instance pW (t:FK):Ct prog (IZ t) 244 [Qp t] (fun r=>.tp [eS r.1,eB r.2]):=Fi gy fun r h hw hR=>by
  unfold IZ at h
  have:HJ 12 fun (w1:ByteArray)=>[(4,.tv (eS w1))]:=⟨⟩
  exact au
theorem gJ:CK f207 (Rq [Aj 2] [0]<|Rq [Aa 6 0,Eo 7 0 0 0 1 1 1 1 6,Ba 8 244 7,Aa 5 8,Ak 9 5 0,Ak 10 5 1,Aa 3 9,Aa 4 10] [4]<|Rq [Aa 11 4,Aa 2 11] [2]<|.ret) [.tmp 2]:=by decide +kernel
instance o0 (s_0:ByteArray):Ct prog (EK s_0) 207 [eS s_0] (fun r=>.sh (eB r)):=Fi gJ fun r h hw hR=>by
  unfold EK at h
  exact au
theorem gz:CK f245 (Rq [Ae 4 0] [0,1]<|Sq (Rq [Aa 6 0,Ag 7 6,Ae 8 0] [0,1,7,8]<|Bl 0<|Lo [0,1,7,8]<|Rq [Am 9 8 7] [0,1,7,8,9]<|Sq (Co 9 (Sk [0,1,7,8])<|Ex 0 [])<|Sq (Bl 1<|Rq [Aa 10 8,Aa 5 10] [0,1,5,7,8]<|Rq [Aa 11 1,Aa 12 0,Aa 13 5,Ai 14 12 13 4,Ad 15 14 4,Cq 16 11 15] [0,1,5,7,8,16]<|Co 16 (Rq [Aa 17 5,Aa 4 17] [4]<|.ret)<|Sk [0,1,7,8])<|Re [An 18 8 1,Aa 8 18] [0,1,7,8])<|Rq [Bs 4 (-1)] [4]<|.ret) [.tmp 4]:=by decide +kernel
instance pX (s_0:List CE) (f:CE->Option Bool) (f_f:FuncId) (k_f:List TV) [h_f:∀ (y0:CE),Ct prog (f y0) f_f (GH y0::k_f) (fun r=>.sh (eB r))]:Ct prog (DS s_0 f) 245 [lN s_0,.clo f_f k_f] (fun r=>.sh (eI r)):=Fi gz fun r h hw hR=>by
  unfold DS at h
  have:HA 0 8 7 0 fun (i0:Int) (_:Unit)=>[(8,.tv (eI i0))]:=⟨⟩
  exact au
theorem gK:CK f208 (Rq [Aj 4] [0,1]<|Rq [Aa 5 0,Aa 6 1,Ay 7 245 5 6,Bj 8 7 0,Aa 4 8] [4]<|.ret) [.tmp 4]:=by decide +kernel
instance o1 (s_0:List CE) (f:CE->Option Bool) (f_f:FuncId) (k_f:List TV) [h_f:∀ (y0:CE),Ct prog (f y0) f_f (GH y0::k_f) (fun r=>.sh (eB r))]:Ct prog (CM s_0 f) 208 [lN s_0,.clo f_f k_f] (fun r=>.sh (eB r)):=Fi gK fun r h hw hR=>by
  unfold CM at h
  exact au
theorem gL:CK f209 (Rq [Af 2 0,Aj 3] [1,2]<|Rq [Ac 4 2 0,Ab 5 4,Ac 6 1 0,Ab 7 6,Dg 8 5 7,Aa 3 8] [3]<|.ret) [.tmp 3]:=by decide +kernel
instance o2 (m:CE) (c0:CE):Ct prog (Lb m c0) 209 [GH m,.pt (GH c0).cells] (fun r=>.sh (eB r)):=Fi gL fun r h hw hR=>by
  unfold Lb at h
  exact au
theorem gM:CK f210 (Rq [Af 2 0,Ep 4 4] [1,2]<|Rq [Ep 5 4] [1,2,5]<|Sq (Rq [Ac 7 2 0,Ab 8 7,Aa 9 1,Ai 10 8 9 4,Ah 11 10 1,Ab 12 11,Aa 6 12] [1,2,5,6]<|Rq [Aa 13 6,Bj 14 13 0] [1,2,5,6,14]<|Co 14 (Re [Ad 15 2 2,Aa 16 6,Fs 17 210 15 16,Bv 5 17] [1,2,5])<|Sk [1,2,5])<|Rq [Bv 18 5,Ac 19 2 0,Ab 20 19,Aa 21 1,Ai 22 20 21 4,Ah 23 22 3,Ab 24 23,Dm 25 4 18 24,Bv 4 25] [4]<|.ret) [.tmp 4]:=by decide +kernel
theorem eP (n:Nat) (_ih_210:∀ (t:AD) (a:Int),Ct prog (DW n t a) 210 [AP t,eI a] (fun r=>.xown 4 (List.map HY r))) (t:AD) (a:Int):Ct prog (DW (n+1) t a) 210 [AP t,eI a] (fun r=>.xown 4 (List.map HY r)):=Fi gM fun r h hw hR=>by
  unfold DW at h
  have:HJ 14 fun (w1:List Attr)=>[(5,.xo 4 (List.map HY w1))]:=⟨⟩
  exact au
theorem eO:∀ n:Nat,(∀ (t:AD) (a:Int),Ct prog (DW n t a) 210 [AP t,eI a] (fun r=>.xown 4 (List.map HY r))):=by
  intro n
  induction n with
  | zero=>exact (fun t a=>⟨fun _ h=>by cases h⟩)
  | succ n ih=>exact eP n ih
instance o3 (t:AD) (a:Int):Ct prog (JZ t a) 210 [AP t,eI a] (fun r=>.xown 4 (List.map HY r)):=⟨fun r h=>by
  obtain ⟨N,hN⟩:=DB h
  exact ((eO N) t a).snd r (hN N (Nat.le_refl _))⟩
theorem iI:CK f267 (Rq [Ae 4 0] [0,1]<|Sq (Rq [Aa 6 0,Ag 7 6,Ae 8 0] [0,1,7,8]<|Bl 0<|Lo [0,1,7,8]<|Rq [Am 9 8 7] [0,1,7,8,9]<|Sq (Co 9 (Sk [0,1,7,8])<|Ex 0 [])<|Sq (Bl 1<|Rq [Aa 10 8,Aa 5 10] [0,1,5,7,8]<|Rq [Aa 11 1,Aa 12 0,Aa 13 5,Ai 14 12 13 4,Ad 15 14 4,Cq 16 11 15] [0,1,5,7,8,16]<|Co 16 (Rq [Aa 17 5,Aa 4 17] [4]<|.ret)<|Sk [0,1,7,8])<|Re [An 18 8 1,Aa 8 18] [0,1,7,8])<|Rq [Bs 4 (-1)] [4]<|.ret) [.tmp 4]:=by decide +kernel
instance p3 (s_0:List Attr) (f:Attr->Option Bool) (f_f:FuncId) (k_f:List TV) [h_f:∀ (y0:Attr),Ct prog (f y0) f_f (HY y0::k_f) (fun r=>.sh (eB r))]:Ct prog (ED s_0 f) 267 [lA s_0,.clo f_f k_f] (fun r=>.sh (eI r)):=Fi iI fun r h hw hR=>by
  unfold ED at h
  have:HA 0 8 7 0 fun (i0:Int) (_:Unit)=>[(8,.tv (eI i0))]:=⟨⟩
  exact au
theorem g0:CK f246 (Rq [Aj 4] [0,1]<|Rq [Aa 5 0,Aa 6 1,Ay 7 267 5 6,Bj 8 7 0,Aa 4 8] [4]<|.ret) [.tmp 4]:=by decide +kernel
instance pY (s_0:List Attr) (f:Attr->Option Bool) (f_f:FuncId) (k_f:List TV) [h_f:∀ (y0:Attr),Ct prog (f y0) f_f (HY y0::k_f) (fun r=>.sh (eB r))]:Ct prog (DC s_0 f) 246 [lA s_0,.clo f_f k_f] (fun r=>.sh (eB r)):=Fi g0 fun r h hw hR=>by
  unfold DC at h
  exact au
theorem g5:CK f247 (Rq [Af 2 0,Aj 3] [1,2]<|Rq [Ac 4 2 0,Ab 5 4,Ac 6 1 0,Ab 7 6,Dg 8 5 7,Aa 3 8] [3]<|.ret) [.tmp 3]:=by decide +kernel
instance pZ (y:Attr) (c0:Attr):Ct prog (If y c0) 247 [HY y,.pt (HY c0).cells] (fun r=>.sh (eB r)):=Fi g5 fun r h hw hR=>by
  unfold If at h
  exact au
theorem g6:CK f248 (Rq [Ae 2 0] [0]<|Sq (Rq [Aa 5 0,Ag 6 5,Bn 7 6 20] [0,7]<|Co 7 (Rq [Ae 2 3] [2]<|.ret)<|Sk [0])<|Sq (Rq [Aa 8 0,Ag 9 8,Ae 10 0] [0,8,9,10]<|Bl 0<|Lo [0,8,9,10]<|Rq [Am 11 10 9] [0,8,9,10,11]<|Sq (Co 11 (Sk [0,8,9,10])<|Ex 0 [])<|Sq (Bl 1<|Rq [Aa 12 10,Ai 13 8 10 1,Ab 14 13,Aa 3 12,Aa 4 14] [0,3,4,8,9,10]<|Bl 2<|Rq [Aa 16 4,Ba 17 207 16,Bb 18 17,Aa 15 18] [0,3,4,8,9,10,15]<|Co 15 (Rq [Ae 2 2] [2]<|.ret)<|Rq [Aa 20 0,Aa 21 3,Eq 22 1 20 21,Aa 23 4,Ay 24 268 22 23,Aa 19 24] [0,8,9,10,19]<|Co 19 (Rq [Ae 2 5] [2]<|.ret)<|Sk [0,8,9,10])<|Re [An 25 10 1,Aa 10 25] [0,8,9,10])<|Rq [Ae 2 0] [2]<|.ret) [.tmp 2]:=by decide +kernel
instance pf (l:List ByteArray):Ct prog (Hi l) 248 [lB l] (fun r=>.sh (eI r)):=Fi g6 fun r h hw hR=>by
  unfold Hi at h
  have:HA 0 10 9 0 fun (i0:Int) (_:Unit)=>[(10,.tv (eI i0))]:=⟨⟩
  exact au
theorem gN:CK f211 (Rq [Af 2 0,Ae 4 0] [1,2]<|Sq (Bl 0<|Rq [Ac 8 2 0,Ab 9 8,Ba 10 207 9,Bb 11 10,Aa 7 11] [1,2,7]<|Co 7 (Rq [Ae 4 2] [4]<|.ret)<|Rq [Aa 13 1,Cr 14 247 2,Ay 15 246 13 14,Aa 12 15] [2,12]<|Co 12 (Rq [Ae 4 5] [4]<|.ret)<|Sk [2])<|Sq (Rq [Ac 16 2 3,Ab 17 16,Ba 18 248 17,Aa 5 18] [2,5]<|Rq [Aa 19 5,Av 20 19 0] [2,5,20]<|Co 20 (Rq [Aa 21 5,Aa 4 21] [4]<|.ret)<|Sk [2])<|Rq [Ac 22 2 1,Ab 23 22,⟨some 24,.bin (.i) .leq (.c (.int .i64 (-1000000))) (.s 23),none⟩,Aa 25 24,Aw 26 2 1 25,Ax 27 26 25,Aw 28 2 2 25,Ax 29 28 25,Ed 30 27 29 25,Ar 31 25 30,Aa 32 31,Aw 33 2 2 32,Ax 34 33 32,Ci 35 34 1000000 32,Ar 36 32 35,Aa 6 36] [2,6]<|Sq (Rq [Ac 37 2 3,Ab 38 37,Ag 39 38,Bn 40 39 0] [2,6,40]<|Co 40 (Re [Ac 41 2 1,Ab 42 41,Az 43 42 0,Aa 44 43,Aw 45 2 2 44,Ax 46 45 44,Aw 47 2 3 44,Ax 48 47 44,Cb 49 48 44,Ft 50 49 1 44,Cx 51 46 50 44,Ar 52 44 51,Aa 6 52] [6])<|Sk [6])<|Sq (Rq [Aa 53 6,Bb 54 53] [54]<|Co 54 (Rq [Ae 4 6] [4]<|.ret)<|Sk [])<|Rq [Ae 4 0] [4]<|.ret) [.tmp 4]:=by decide +kernel
instance o4 (x_0:Attr) (before:List Attr):Ct prog (E8 x_0 before) 211 [HY x_0,lA before] (fun r=>.sh (eI r)):=Fi gN fun r h hw hR=>by
  unfold E8 at h
  have:HJ 40 fun (w1:Bool)=>[(6,.tv (eB w1))]:=⟨⟩
  exact au
theorem fF:CK f145 (Rq [Af 2 0,Ae 4 0] [1,2]<|Rq [Ac 9 2 0,Ab 10 9,Aa 11 1,Ai 12 10 11 4,Ad 13 12 4,Fu 5 0 4,Ao 4 5 13,Er 5] [1,2,5]<|Sq (Bl 0<|Rq [Ac 15 5 0,Ab 16 15,Ba 17 207 16,Bb 18 17,Aa 14 18] [1,2,5,14]<|Co 14 (Rq [Ae 4 2] [4]<|.ret)<|Rq [Ac 20 2 0,Ab 21 20,Aa 22 1,Eq 23 4 21 22,Cr 24 209 5,Ay 25 208 23 24,Aa 19 25] [1,2,5,19]<|Co 19 (Rq [Ae 4 5] [4]<|.ret)<|Rq [Ac 27 5 1,Ab 28 27,Ee 29 28 (-1),Aa 30 29,Ap 31 5 1 30,Al 32 31 30,Au 33 1 30,Bu 34 32 33 30,Aq 35 30 34,Aa 26 35] [1,2,5,26]<|Co 26 (Rq [Ae 4 6] [4]<|.ret)<|Rq [Ac 37 5 3,Ab 38 37,Ag 39 38,Bn 40 39 4,Aa 36 40] [1,2,5,36]<|Co 36 (Rq [Ae 4 3] [4]<|.ret)<|Sk [1,2,5])<|Rq [Ad 41 2 2,Aa 42 1,Ay 43 210 41 42,Be 6 43] [5,6]<|Sq (Rq [Aa 44 6,Ag 45 44,Bn 46 45 8] [5,6,46]<|Co 46 (Rq [Ae 4 3] [4]<|.ret)<|Sk [5,6])<|Sq (Rq [Aa 47 6,Ag 48 47,Ac 49 5 3,Ab 50 49,Ag 51 50,Dn 52 48 51,Aa 7 52] [6,7]<|Bl 1<|Lo [6,7]<|Sq (Rq [Aa 53 7,Aa 54 6,Ag 55 54,Am 56 53 55] [6,7,56]<|Co 56 (Sk [6,7])<|Ex 1 [])<|Sq (Bl 2<|Sq (Dr [8,59,60,61,62,63,64,65,66] [Aa 59 6,Aa 60 7,Ai 61 59 60 4,Ad 62 61 4,Aa 63 6,Aa 64 7,Eq 65 4 63 64,Ay 66 211 62 65,Aa 8 66] [6,7,8])<|Rq [Aa 67 8,Av 68 67 0] [6,7,8,68]<|Co 68 (Rq [Aa 69 8,Aa 4 69] [4]<|.ret)<|Sk [6,7])<|Re [Aa 57 7,An 58 57 1,Aa 7 58] [6,7])<|Rq [Ae 4 0] [4]<|.ret) [.tmp 4]:=by decide +kernel
instance nw (t:AD) (i_1:Int):Ct prog (IQ t i_1) 145 [AP t,eI i_1] (fun r=>.sh (eI r)):=Fi fF fun r h hw hR=>by
  unfold IQ at h
  have:HA 1 7 6 0 fun (i1:Int) (_:Unit)=>[(7,.tv (eI i1))]:=⟨⟩
  exact au
theorem gO:CK f212 (Rq [Aj 3] [0,1]<|Rq [Aa 4 0,Bj 5 4 0,Aa 6 5,As 7 0 6,Aw 8 1 0 6,Ax 9 8 6,Cb 10 9 6,Du 11 7 10 6,Ar 12 6 11,Aa 3 12] [3]<|.ret) [.tmp 3]:=by decide +kernel
instance o5 (n:Int) (c0:AD):Ct prog (Jz n c0) 212 [eI n,.pt (AP c0).cells] (fun r=>.sh (eB r)):=Fi gO fun r h hw hR=>by
  unfold Jz at h
  exact au
theorem g7:CK f249 (Rq [Ae 4 0] [0,1]<|Sq (Rq [Aa 6 0,Ag 7 6,Ae 8 0] [0,1,7,8]<|Bl 0<|Lo [0,1,7,8]<|Rq [Am 9 8 7] [0,1,7,8,9]<|Sq (Co 9 (Sk [0,1,7,8])<|Ex 0 [])<|Sq (Bl 1<|Rq [Aa 10 8,Aa 5 10] [0,1,5,7,8]<|Rq [Aa 11 1,Aa 12 0,Aa 13 5,Ai 14 12 13 7,Ad 15 14 7,Cq 16 11 15] [0,1,5,7,8,16]<|Co 16 (Rq [Aa 17 5,Aa 4 17] [4]<|.ret)<|Sk [0,1,7,8])<|Re [An 18 8 1,Aa 8 18] [0,1,7,8])<|Rq [Bs 4 (-1)] [4]<|.ret) [.tmp 4]:=by decide +kernel
instance ph (s_0:List CQ) (f:CQ->Option Bool) (f_f:FuncId) (k_f:List TV) [h_f:∀ (y0:CQ),Ct prog (f y0) f_f (G0 y0::k_f) (fun r=>.sh (eB r))]:Ct prog (DR s_0 f) 249 [lX s_0,.clo f_f k_f] (fun r=>.sh (eI r)):=Fi g7 fun r h hw hR=>by
  unfold DR at h
  have:HA 0 8 7 0 fun (i0:Int) (_:Unit)=>[(8,.tv (eI i0))]:=⟨⟩
  exact au
theorem gP:CK f213 (Rq [Aj 4] [0,1]<|Rq [Aa 5 0,Aa 6 1,Ay 7 249 5 6,Bj 8 7 0,Aa 4 8] [4]<|.ret) [.tmp 4]:=by decide +kernel
instance o6 (s_0:List CQ) (f:CQ->Option Bool) (f_f:FuncId) (k_f:List TV) [h_f:∀ (y0:CQ),Ct prog (f y0) f_f (G0 y0::k_f) (fun r=>.sh (eB r))]:Ct prog (CL s_0 f) 213 [lX s_0,.clo f_f k_f] (fun r=>.sh (eB r)):=Fi gP fun r h hw hR=>by
  unfold CL at h
  exact au
theorem gQ:CK f214 (Rq [Af 2 0,Aj 3] [1,2]<|Rq [Ac 4 2 0,Ab 5 4,Ac 6 1 0,Ab 7 6,Dg 8 5 7,Aa 3 8] [3]<|.ret) [.tmp 3]:=by decide +kernel
instance o7 (y:CQ) (c0:CQ):Ct prog (La y c0) 214 [G0 y,.pt (G0 c0).cells] (fun r=>.sh (eB r)):=Fi gQ fun r h hw hR=>by
  unfold La at h
  exact au
theorem gR:CK f215 (Rq [Aj 4] [0,1]<|Rq [Aa 5 0,Bj 6 5 0,Aa 7 6,As 8 0 7,Ci 9 8 40 7,Ar 10 7 9,Aa 11 10,As 12 1 11,Gi 13 12 (-1) 11,As 14 13 11,Au 15 1 14,Au 16 0 14,Bu 17 15 16 14,Au 18 17 14,As 19 1 18,Ci 20 19 40 18,Ca 21 18 20 14,Do 22 14 21 11,Ar 23 11 22,Aa 4 23] [4]<|.ret) [.tmp 4]:=by decide +kernel
instance o8 (low:Int) (high:Int):Ct prog (JN low high) 215 [eI low,eI high] (fun r=>.sh (eB r)):=Fi gR fun r h hw hR=>by
  unfold JN at h
  exact au
theorem fG:CK f146 (Rq [Af 2 0,Ae 4 0] [1,2]<|Rq [Ac 7 2 1,Ab 8 7,Aa 9 1,Ai 10 8 9 7,Ad 11 10 7,Fv 5 0 0 0 0 0 0,Ao 7 5 11,Er 5] [1,2,5]<|Rq [Cr 12 212 2,Aa 6 12] [1,2,5,6]<|Sq (Bl 0<|Rq [Ac 14 5 0,Ab 15 14,Ba 16 207 15,Bb 17 16,Aa 13 17] [1,2,5,6,13]<|Co 13 (Rq [Ae 4 2] [4]<|.ret)<|Rq [Ac 19 2 1,Ab 20 19,Aa 21 1,Eq 22 7 20 21,Cr 23 214 5,Ay 24 213 22 23,Aa 18 24] [5,6,18]<|Co 18 (Rq [Ae 4 5] [4]<|.ret)<|Sq (Rq [Aa 26 6,Ac 27 5 1,Ab 28 27,Cq 29 26 28,Bb 30 29,Aa 31 30,Au 32 6 31,Ap 33 5 2 31,Al 34 33 31,⟨some 35,.callv (.s 32) [.s 34],some (31,false)⟩,Bp 36 35 31,Aq 37 31 36,Aa 25 37] [5,25]<|Co 25 (Sk [25])<|Re [Ac 38 5 3,Ab 39 38,Ac 40 5 4,Ab 41 40,Ay 42 215 39 41,Bb 43 42,Aa 44 43,Ap 45 5 5 44,Al 46 45 44,Ap 47 5 6 44,Al 48 47 44,Dh 49 215 46 48 44,Bp 50 49 44,Aq 51 44 50,Aa 25 51] [25])<|Co 25 (Rq [Ae 4 6] [4]<|.ret)<|Sk [])<|Rq [Ae 4 0] [4]<|.ret) [.tmp 4]:=by decide +kernel
instance nx (t:AD) (i_1:Int):Ct prog (IP t i_1) 146 [AP t,eI i_1] (fun r=>.sh (eI r)):=Fi fG fun r h hw hR=>by
  unfold IP at h
  have:HJ 25 fun (w1:Bool)=>[(25,.tv (eB w1))]:=⟨⟩
  exact au
theorem mN:CK f79 (Rq [Af 1 0,Cp 2,Ae 3 0] [1]<|Sq (Bl 0<|Rq [Ac 11 1 0,Ab 12 11,Ag 13 12,Az 14 13 0,Aa 10 14] [1,10]<|Co 10 (Rq [Cp 2,Ae 3 7] [2,3]<|.ret)<|Rq [Ac 16 1 0,Ab 17 16,Ag 18 17,Bn 19 18 12,Aa 20 19,Ap 21 1 1 20,Al 22 21 20,Bh 23 22 20,Cd 24 23 20 20,Aq 25 20 24,Aa 15 25] [1,15]<|Co 15 (Rq [Cp 2,Ae 3 3] [2,3]<|.ret)<|Sk [1])<|Sq (Rq [Ac 26 1 0,Ab 27 26,Ag 28 27,Ae 29 0] [1,27,28,29]<|Bl 1<|Lo [1,27,28,29]<|Rq [Am 30 29 28] [1,27,28,29,30]<|Sq (Co 30 (Sk [1,27,28,29])<|Ex 1 [1])<|Sq (Bl 2<|Rq [Aa 31 29,Ai 32 27 29 4,Ad 33 32 4,Fu 5 0 4,Aa 4 31,Ao 4 5 33] [1,4,5,27,28,29]<|Rq [Ad 34 1 2,Aa 35 4,Ay 36 145 34 35,Aa 6 36] [1,5,6,27,28,29]<|Rq [Aa 37 6,Av 38 37 0] [1,5,6,27,28,29,38]<|Co 38 (Rq [Ac 39 5 0,Ab 40 39,Aa 41 6,Aa 2 40,Aa 3 41] [2,3]<|.ret)<|Sk [1,27,28,29])<|Re [An 42 29 1,Aa 29 42] [1,27,28,29])<|Sq (Rq [Ac 43 1 1,Ab 44 43,Ag 45 44,Ae 46 0] [1,44,45,46]<|Bl 3<|Lo [1,44,45,46]<|Rq [Am 47 46 45] [1,44,45,46,47]<|Sq (Co 47 (Sk [1,44,45,46])<|Ex 3 [])<|Sq (Bl 4<|Rq [Aa 48 46,Ai 49 44 46 7,Ad 50 49 7,Fv 8 0 0 0 0 0 0,Aa 7 48,Ao 7 8 50] [1,7,8,44,45,46]<|Rq [Ad 51 1 2,Aa 52 7,Ay 53 146 51 52,Aa 9 53] [1,8,9,44,45,46]<|Rq [Aa 54 9,Av 55 54 0] [1,8,9,44,45,46,55]<|Co 55 (Rq [Ac 56 8 0,Ab 57 56,Aa 58 9,Aa 2 57,Aa 3 58] [2,3]<|.ret)<|Sk [1,44,45,46])<|Re [An 59 46 1,Aa 46 59] [1,44,45,46])<|Rq [Cp 2,Ae 3 0] [2,3]<|.ret) [.tmp 2,.tmp 3]:=by decide +kernel
instance rR (t:AD):Ct prog (FJ t) 79 [AP t] (fun r=>.tp [eS r.1,eI r.2]):=Fi mN fun r h hw hR=>by
  unfold FJ at h
  have:HA 1 29 28 0 fun (i1:Int) (_:Unit)=>[(29,.tv (eI i1))]:=⟨⟩
  have:HA 3 46 45 0 fun (i3:Int) (_:Unit)=>[(46,.tv (eI i3))]:=⟨⟩
  exact au
theorem fL:CK f151 (Rq [Ae 4 0] [0,1]<|Sq (Rq [Aa 6 0,Ag 7 6,Ae 8 0] [0,1,7,8]<|Bl 0<|Lo [0,1,7,8]<|Rq [Am 9 8 7] [0,1,7,8,9]<|Sq (Co 9 (Sk [0,1,7,8])<|Ex 0 [])<|Sq (Bl 1<|Rq [Aa 10 8,Aa 5 10] [0,1,5,7,8]<|Rq [Aa 11 1,Aa 12 0,Aa 13 5,Ai 14 12 13 1,Ab 15 14,Cq 16 11 15] [0,1,5,7,8,16]<|Co 16 (Rq [Aa 17 5,Aa 4 17] [4]<|.ret)<|Sk [0,1,7,8])<|Re [An 18 8 1,Aa 8 18] [0,1,7,8])<|Rq [Bs 4 (-1)] [4]<|.ret) [.tmp 4]:=by decide +kernel
instance n8 (s_0:List Int) (f:Int->Option Bool) (f_f:FuncId) (k_f:List TV) [h_f:∀ (y0:Int),Ct prog (f y0) f_f (eI y0::k_f) (fun r=>.sh (eB r))]:Ct prog (EQ s_0 f) 151 [lI s_0,.clo f_f k_f] (fun r=>.sh (eI r)):=Fi fL fun r h hw hR=>by
  unfold EQ at h
  have:HA 0 8 7 0 fun (i0:Int) (_:Unit)=>[(8,.tv (eI i0))]:=⟨⟩
  exact au
theorem mP:CK f81 (Rq [Aj 4] [0,1]<|Rq [Aa 5 0,Aa 6 1,Ay 7 151 5 6,Bj 8 7 0,Aa 4 8] [4]<|.ret) [.tmp 4]:=by decide +kernel
instance rT (s_0:List Int) (f:Int->Option Bool) (f_f:FuncId) (k_f:List TV) [h_f:∀ (y0:Int),Ct prog (f y0) f_f (eI y0::k_f) (fun r=>.sh (eB r))]:Ct prog (BL s_0 f) 81 [lI s_0,.clo f_f k_f] (fun r=>.sh (eB r)):=Fi mP fun r h hw hR=>by
  unfold BL at h
  exact au
theorem fM:CK f152 (Rq [Ae 4 0] [0,1]<|Sq (Rq [Aa 6 0,Ag 7 6,Ae 8 0] [0,1,7,8]<|Bl 0<|Lo [0,1,7,8]<|Rq [Am 9 8 7] [0,1,7,8,9]<|Sq (Co 9 (Sk [0,1,7,8])<|Ex 0 [])<|Sq (Bl 1<|Rq [Aa 10 8,Aa 5 10] [0,1,5,7,8]<|Rq [Aa 11 1,Aa 12 0,Aa 13 5,Ai 14 12 13 3,Ad 15 14 3,Cq 16 11 15] [0,1,5,7,8,16]<|Co 16 (Rq [Aa 17 5,Aa 4 17] [4]<|.ret)<|Sk [0,1,7,8])<|Re [An 18 8 1,Aa 8 18] [0,1,7,8])<|Rq [Bs 4 (-1)] [4]<|.ret) [.tmp 4]:=by decide +kernel
instance n9 (s_0:List CY) (f:CY->Option Bool) (f_f:FuncId) (k_f:List TV) [h_f:∀ (y0:CY),Ct prog (f y0) f_f (DZ y0::k_f) (fun r=>.sh (eB r))]:Ct prog (EE s_0 f) 152 [lE s_0,.clo f_f k_f] (fun r=>.sh (eI r)):=Fi fM fun r h hw hR=>by
  unfold EE at h
  have:HA 0 8 7 0 fun (i0:Int) (_:Unit)=>[(8,.tv (eI i0))]:=⟨⟩
  exact au
theorem mR:CK f83 (Rq [Aj 4] [0,1]<|Rq [Aa 5 0,Aa 6 1,Ay 7 152 5 6,Bj 8 7 0,Aa 4 8] [4]<|.ret) [.tmp 4]:=by decide +kernel
instance rV (s_0:List CY) (f:CY->Option Bool) (f_f:FuncId) (k_f:List TV) [h_f:∀ (y0:CY),Ct prog (f y0) f_f (DZ y0::k_f) (fun r=>.sh (eB r))]:Ct prog (BU s_0 f) 83 [lE s_0,.clo f_f k_f] (fun r=>.sh (eB r)):=Fi mR fun r h hw hR=>by
  unfold BU at h
  exact au
theorem fI:CK f148 (Rq [Aj 4] [0,1]<|Rq [Aa 5 0,Bj 6 5 0,Aa 7 6,As 8 0 7,As 9 1 7,Ed 10 8 9 7,Ar 11 7 10,Aa 4 11] [4]<|.ret) [.tmp 4]:=by decide +kernel
instance n0 (n:Int) (most:Int):Ct prog (Hr n most) 148 [eI n,eI most] (fun r=>.sh (eB r)):=Fi fI fun r h hw hR=>by
  unfold Hr at h
  exact au
theorem fH:CK f147 (Rq [Aj 2] [0]<|Rq [Aa 3 0,Es 4 148 3 99,Bb 5 4,Aa 2 5] [2]<|.ret) [.tmp 2]:=by decide +kernel
instance ny (t:Int):Ct prog (Kj t) 147 [eI t] (fun r=>.sh (eB r)):=Fi fH fun r h hw hR=>by
  unfold Kj at h
  exact au
theorem fK:CK f150 (Rq [Af 2 0,Aj 4] [1,2]<|Rq [Ac 5 2 0,Ab 6 5,Es 7 148 6 99,Aa 8 7,Aw 9 2 1 8,Ax 10 9 8,As 11 1 8,Ft 12 11 1 8,Dc 13 148 10 12 8,Ar 14 8 13,Aa 15 14,Aw 16 2 2 15,Ax 17 16 15,As 18 1 15,Ft 19 18 1 15,Dc 20 148 17 19 15,Ar 21 15 20,Aa 4 21] [4]<|.ret) [.tmp 4]:=by decide +kernel
instance n7 (e:CY) (nodes:Int):Ct prog (LJ e nodes) 150 [DZ e,eI nodes] (fun r=>.sh (eB r)):=Fi fK fun r h hw hR=>by
  unfold LJ at h
  exact au
theorem fJ:CK f149 (Rq [Af 2 0,Aj 3] [1,2]<|Rq [Ad 4 2 3,Ac 5 1 0,Ab 6 5,Ag 7 6,Ay 8 150 4 7,Bb 9 8,Aa 3 9] [3]<|.ret) [.tmp 3]:=by decide +kernel
instance n5 (e:CY) (c0:Graph):Ct prog (Kk e c0) 149 [DZ e,.pt (CA c0).cells] (fun r=>.sh (eB r)):=Fi fJ fun r h hw hR=>by
  unfold Kk at h
  exact au
theorem mO:CK f80 (Rq [Af 1 0,Ae 2 0] [1]<|Sq (Rq [Ac 3 1 0,Ab 4 3,Ag 5 4,Bn 6 5 40,Aa 7 6,Ap 8 1 1 7,Al 9 8 7,Bh 10 9 7,Cd 11 10 80 7,Aq 12 7 11] [1,12]<|Co 12 (Rq [Ae 2 3] [2]<|.ret)<|Sk [1])<|Sq (Rq [Ac 13 1 0,Ab 14 13,En 15 81 14 147] [1,15]<|Co 15 (Rq [Ae 2 6] [2]<|.ret)<|Sk [1])<|Sq (Rq [Ac 16 1 1,Ab 17 16,Cr 18 149 1,Ay 19 83 17 18] [19]<|Co 19 (Rq [Ae 2 6] [2]<|.ret)<|Sk [])<|Rq [Ae 2 0] [2]<|.ret) [.tmp 2]:=by decide +kernel
instance rS (g:Graph):Ct prog (D3 g) 80 [CA g] (fun r=>.sh (eI r)):=Fi mO fun r h hw hR=>by
  unfold D3 at h
  exact au
theorem mQ:CK f82 (Rq [Aj 3] [0,1]<|Rq [Aa 4 0,Ac 5 1 0,Ab 6 5,Ag 7 6,Cm 8 4 7,Aa 3 8] [3]<|.ret) [.tmp 3]:=by decide +kernel
instance rU (n:Int) (c0:AD):Ct prog (HK n c0) 82 [eI n,.pt (AP c0).cells] (fun r=>.sh (eB r)):=Fi mQ fun r h hw hR=>by
  unfold HK at h
  exact au
theorem mS:CK f84 (Rq [Af 2 0,Aj 3] [1,2]<|Rq [Ac 4 2 0,Ab 5 4,Ac 6 1 1,Ab 7 6,Ag 8 7,Cm 9 5 8,Aa 3 9] [3]<|.ret) [.tmp 3]:=by decide +kernel
instance rW (x_0:CY) (c0:AD):Ct prog (HL x_0 c0) 84 [DZ x_0,.pt (AP c0).cells] (fun r=>.sh (eB r)):=Fi mS fun r h hw hR=>by
  unfold HL at h
  exact au
theorem mT:CK f85 (Rq [Aj 6] [0,1,2]<|Rq [Aa 7 0,Aa 8 1,Cm 9 7 8,Aa 10 9,As 11 0 10,As 12 2 10,Ed 13 11 12 10,Ar 14 10 13,Aa 6 14] [6]<|.ret) [.tmp 6]:=by decide +kernel
instance rX (n:Int) (low:Int) (high:Int):Ct prog (C9 n low high) 85 [eI n,eI low,eI high] (fun r=>.sh (eB r)):=Fi mT fun r h hw hR=>by
  unfold C9 at h
  exact au
theorem g8:CK f250 (Rq [Aj 3] [0,1]<|Rq [Aa 4 0,By 5 4 0,Aa 6 5,Au 7 0 6,Ap 8 1 0 6,Al 9 8 6,Bh 10 9 6,Bu 11 7 10 6,Aq 12 6 11,Aa 3 12] [3]<|.ret) [.tmp 3]:=by decide +kernel
instance pi (a:Int) (c0:AD):Ct prog (Ko a c0) 250 [eI a,.pt (AP c0).cells] (fun r=>.sh (eB r)):=Fi g8 fun r h hw hR=>by
  unfold Ko at h
  exact au
theorem gS:CK f216 (Rq [Af 2 0,Ae 4 0] [1,2]<|Sq (Rq [Ad 8 2 2,Ba 9 79 8,Aa 7 9,Ak 10 7 0,Ak 11 7 1,Aa 5 10,Aa 6 11] [1,2,6]<|Rq [Aa 12 6,Av 13 12 0] [1,2,6,13]<|Co 13 (Rq [Aa 14 6,Aa 4 14] [4]<|.ret)<|Sk [1,2])<|Sq (Rq [Aa 15 1,Cr 16 250 2,Ay 17 81 15 16] [17]<|Co 17 (Rq [Ae 4 6] [4]<|.ret)<|Sk [])<|Rq [Ae 4 0] [4]<|.ret) [.tmp 4]:=by decide +kernel
instance o9 (t:AD) (l:List Int):Ct prog (F3 t l) 216 [AP t,lI l] (fun r=>.sh (eI r)):=Fi gS fun r h hw hR=>by
  unfold F3 at h
  exact au
theorem gT:CK f217 (Rq [Bc 2 1] [0]<|Sq (Rq [Aa 3 0,⟨some 4,.isn (.s 3),none⟩] [0,4]<|Co 4 (Rq [Bc 2 1] [2]<|.ret)<|Sk [0])<|Rq [Di 5 1,Aa 6 0,Bz 7 1 5 6,Be 2 7] [2]<|.ret) [.tmp 2]:=by decide +kernel
instance pA (s_0:List ByteArray):Ct prog (slices_Clone_string s_0) 217 [lB s_0] (fun r=>.own (lB r)):=Fi gT fun r h hw hR=>by
  unfold slices_Clone_string at h
  exact au
theorem fN:CK f153 (Rq [Af 2 0,Bc 4 4,Ae 5 0] [1,2]<|Sq (Rq [Ad 9 2 2,Aa 10 1,Br 11 1 10,Ay 12 216 9 11,Aa 6 12] [1,2,6]<|Rq [Aa 13 6,Av 14 13 0] [1,2,6,14]<|Co 14 (Rq [Aa 15 6,Bc 4 4,Aa 5 15] [4,5]<|.ret)<|Sk [1,2])<|Rq [Ad 16 2 2,Aa 17 1,Fs 18 210 16 17,Bv 7 18] [7]<|Sq (Rq [Bk 19 7,Dv 20 19,Ae 21 0] [7,20,21]<|Bl 0<|Lo [7,20,21]<|Rq [Am 22 21 20] [7,20,21,22]<|Sq (Co 22 (Sk [7,20,21])<|Ex 0 [7])<|Sq (Bl 1<|Rq [Aa 23 21,Aa 8 23] [7,8,20,21]<|Re [Bk 24 7,Aa 25 8,Bk 26 7,Aa 27 8,Cg 28 26 27 4,⟨some 29,.xfa (.s 28) 3,none⟩,⟨some 30,.xld (.s 29),none⟩,Ba 31 217 30,Cg 32 24 25 4,⟨some 33,.xfa (.s 32) 3,none⟩,Dj 33 31] [7,20,21])<|Re [An 34 21 1,Aa 21 34] [7,20,21])<|Rq [Dd 35 7,Be 4 35,Ae 5 0] [4,5]<|.ret) [.tmp 4,.tmp 5]:=by decide +kernel
instance oA (t:AD) (a:Int):Ct prog (Gz t a) 153 [AP t,eI a] (fun r=>.tp [lA r.1,eI r.2]):=Fi fN fun r h hw hR=>by
  unfold Gz at h
  have:HA 0 21 20 0 fun (i0:Int) (s0:List Attr)=>[(7,.xo 4 (List.map HY s0)),(21,.tv (eI i0))]:=⟨⟩
  have:HS 31:=⟨⟩
  have:HX 33 fun (a:Attr) (v:List ByteArray)=>Attr.mk a.Name a.Low a.High v:=⟨⟩
  exact au
theorem mU:CK f86 (Rq [Af 3 0,Af 4 1,Af 5 2,Dp 6 0 0 1,Aj 7] [3,4,5,6]<|Sq (Rq [Ac 10 5 0,Ab 11 10,Ac 12 4 0,Ah 13 12 0,Ab 14 13,Ag 15 14,Cy 16 15 1,Et 17 85 11 0 16,Bb 18 17] [3,4,5,6,18]<|Co 18 (Rq [Eu 19 0 0 1,Ao 4 6 19,Aj 7] [6,7]<|.ret)<|Sk [3,4,5,6])<|Sq (Dr [8,9,20,21,22,23,24,25,26,27,28,29,30,31] [Ad 21 3 2,Ac 22 4 0,Ah 23 22 0,Ab 24 23,Ac 25 5 0,Ab 26 25,Ai 27 24 26 1,Ab 28 27,Ay 29 153 21 28,Aa 20 29,Ak 30 20 0,Ak 31 20 1,Be 8 30,Aa 9 31] [5,6,8])<|Sq (Rq [Ac 32 5 1,Ab 33 32,Aa 34 8,Ag 35 34,Cy 36 35 1,Et 37 85 33 0 36,Bb 38 37] [5,6,8,38]<|Co 38 (Rq [Eu 39 0 0 1,Ao 4 6 39,Aj 7] [6,7]<|.ret)<|Sk [5,6,8])<|Rq [Aa 40 8,Ac 41 5 1,Ab 42 41,Ai 43 40 42 4,Ad 44 43 4,Ao 4 6 44,Bt 7] [6,7]<|.ret) [.cell 6 (some 4),.tmp 7]:=by decide +kernel
instance rY (t:AD) (p:Pattern) (s_2:DO):Ct prog (FV t p s_2) 86 [AP t,BE p,Kg s_2] (fun r=>.tp [HY r.1,eB r.2]):=Fi mU fun r h hw hR=>by
  unfold FV at h
  exact au
theorem gU:CK f218 (Rq [Af 3 1,Aj 4] [0,3]<|Rq [Ac 5 3 0,Ab 6 5,⟨some 7,.bin (.i) .geq (.s 6) (.c (.int .i64 (-1))),none⟩,Aa 8 7,Aw 9 3 0 8,Ax 10 9 8,As 11 0 8,Du 12 10 11 8,Ar 13 8 12,Aa 14 13,Aw 15 3 1 14,Ax 16 15 14,⟨some 17,.bin (.i) .geq (.s 16) (.c (.int .i64 (-1000000))),some (14,true)⟩,Ar 18 14 17,Aa 19 18,Aw 20 3 1 19,Ax 21 20 19,Ci 22 21 1000000 19,Ar 23 19 22,Aa 4 23] [4]<|.ret) [.tmp 4]:=by decide +kernel
instance pB (n:Int) (t:Term):Ct prog (IG n t) 218 [eI n,Ma t] (fun r=>.sh (eB r)):=Fi gU fun r h hw hR=>by
  unfold IG at h
  exact au
theorem fO:CK f154 (Rq [Af 3 1,Ae 4 0] [0,3]<|Sq (Bl 0<|Rq [Ac 6 3 0,Ab 7 6,Av 8 7 1,Aa 9 8,Aw 10 3 0 9,Ax 11 10 9,Ew 12 11 2 9,Ar 13 9 12,Aa 5 13] [0,3,5]<|Co 5 (Rq [Ae 4 1] [4]<|.ret)<|Rq [Aa 15 0,Ac 16 3 1,Ad 17 16 2,Ay 18 218 15 17,Bb 19 18,Aa 20 19,Au 21 0 20,Ap 22 3 3 20,Cf 23 22 2 20,Dh 24 218 21 23 20,Bp 25 24 20,Aq 26 20 25,Aa 14 26] [14]<|Co 14 (Rq [Ae 4 6] [4]<|.ret)<|Sk [])<|Rq [Ae 4 0] [4]<|.ret) [.tmp 4]:=by decide +kernel
instance oB (n:Int) (x_1:Test):Ct prog (Ik n x_1) 154 [eI n,Kh x_1] (fun r=>.sh (eI r)):=Fi fO fun r h hw hR=>by
  unfold Ik at h
  exact au
theorem mV:CK f87 (Rq [Ae 4 0] [0,1]<|Sq (Rq [Aa 8 0,By 9 8 0,Aa 10 9,Au 11 0 10,Cd 12 11 12 10,Aq 13 10 12] [0,1,13]<|Co 13 (Rq [Ae 4 6] [4]<|.ret)<|Sk [0,1])<|Sq (Rq [Aa 14 1,Ag 15 14,Bn 16 15 40] [0,1,16]<|Co 16 (Rq [Ae 4 3] [4]<|.ret)<|Sk [0,1])<|Sq (Rq [Aa 17 1,Ag 18 17,Ae 19 0] [0,17,18,19]<|Bl 0<|Lo [0,17,18,19]<|Rq [Am 20 19 18] [0,17,18,19,20]<|Sq (Co 20 (Sk [0,17,18,19])<|Ex 0 [])<|Sq (Bl 1<|Rq [Ai 21 17 19 5,Ad 22 21 5,Ey 6 0 0 0 0 0,Ao 5 6 22] [0,6,17,18,19]<|Rq [Aa 23 0,Ad 24 6 5,Ay 25 154 23 24,Aa 7 25] [0,7,17,18,19]<|Rq [Aa 26 7,Av 27 26 0] [0,7,17,18,19,27]<|Co 27 (Rq [Aa 28 7,Aa 4 28] [4]<|.ret)<|Sk [0,17,18,19])<|Re [An 29 19 1,Aa 19 29] [0,17,18,19])<|Rq [Ae 4 0] [4]<|.ret) [.tmp 4]:=by decide +kernel
instance rZ (n:Int) (l:List Test):Ct prog (Hq n l) 87 [eI n,lT l] (fun r=>.sh (eI r)):=Fi mV fun r h hw hR=>by
  unfold Hq at h
  have:HA 0 19 18 0 fun (i0:Int) (_:Unit)=>[(19,.tv (eI i0))]:=⟨⟩
  exact au
theorem fP:CK f155 (Rq [Ae 4 0] [0,1]<|Sq (Rq [Aa 6 0,Ag 7 6,Ae 8 0] [0,1,7,8]<|Bl 0<|Lo [0,1,7,8]<|Rq [Am 9 8 7] [0,1,7,8,9]<|Sq (Co 9 (Sk [0,1,7,8])<|Ex 0 [])<|Sq (Bl 1<|Rq [Aa 10 8,Aa 5 10] [0,1,5,7,8]<|Rq [Aa 11 1,Aa 12 0,Aa 13 5,Ai 14 12 13 1,Ab 15 14,⟨some 16,.bin (.b) .eql (.s 11) (.s 15),none⟩] [0,1,5,7,8,16]<|Co 16 (Rq [Aa 17 5,Aa 4 17] [4]<|.ret)<|Sk [0,1,7,8])<|Re [An 18 8 1,Aa 8 18] [0,1,7,8])<|Rq [Bs 4 (-1)] [4]<|.ret) [.tmp 4]:=by decide +kernel
instance oC (s_0:List Bool) (v_1:Bool):Ct prog (Ie s_0 v_1) 155 [(eL 1 eB) s_0,eB v_1] (fun r=>.sh (eI r)):=Fi fP fun r h hw hR=>by
  unfold Ie at h
  have:HA 0 8 7 0 fun (i0:Int) (_:Unit)=>[(8,.tv (eI i0))]:=⟨⟩
  exact au
theorem mW:CK f88 (Rq [Aj 4] [0,1]<|Rq [Aa 5 0,Aa 6 1,Ay 7 155 5 6,Bj 8 7 0,Aa 4 8] [4]<|.ret) [.tmp 4]:=by decide +kernel
instance ra (s_0:List Bool) (v_1:Bool):Ct prog (GD s_0 v_1) 88 [(eL 1 eB) s_0,eB v_1] (fun r=>.sh (eB r)):=Fi mW fun r h hw hR=>by
  unfold GD at h
  exact au
theorem lr:CK f39 (Rq [Af 2 0,Af 3 1,Ae 4 0] [2,3]<|Sq (Rq [Ad 15 2 2,Ba 16 79 15,Aa 14 16,Ak 17 14 0,Ak 18 14 1,Aa 5 17,Aa 6 18] [2,3,6]<|Rq [Aa 19 6,Av 20 19 0] [2,3,6,20]<|Co 20 (Rq [Aa 21 6,Aa 4 21] [4]<|.ret)<|Sk [2,3])<|Sq (Rq [Ac 22 3 0,Ad 23 22 2,Ba 24 80 23,Aa 7 24] [2,3,7]<|Rq [Aa 25 7,Av 26 25 0] [2,3,7,26]<|Co 26 (Rq [Aa 27 7,Aa 4 27] [4]<|.ret)<|Sk [2,3])<|Sq (Rq [Ac 28 3 0,Ah 29 28 0,Ab 30 29,Cr 31 82 2,Ay 32 81 30 31,Aa 33 32,Ap 34 3 0 33,Bq 35 34 1 33,Al 36 35 33,⟨some 37,.clo 84 [.s 2],some (33,false)⟩,Dh 38 83 36 37 33,Aq 39 33 38] [2,3,39]<|Co 39 (Rq [Ae 4 13] [4]<|.ret)<|Sk [2,3])<|Sq (Rq [Ac 40 3 3,Ab 41 40,Gk 42 85 41 0 12,Bb 43 42] [2,3,43]<|Co 43 (Rq [Ae 4 6] [4]<|.ret)<|Sk [2,3])<|Sq (Rq [Ac 44 3 2,Ab 45 44,Ag 46 45,Bn 47 46 10,Aa 48 47,Ap 49 3 4 48,Al 50 49 48,Bh 51 50 48,Cd 52 51 10 48,Aq 53 48 52] [2,3,53]<|Co 53 (Rq [Ae 4 3] [4]<|.ret)<|Sk [2,3])<|Rq [Ac 54 3 3,Ab 55 54,Dw 56 1 55,Bv 8 56] [2,3,8]<|Sq (Rq [Ac 57 3 2,Ab 58 57,Ag 59 58,Ae 60 0] [2,3,8,58,59,60]<|Bl 0<|Lo [2,3,8,58,59,60]<|Rq [Am 61 60 59] [2,3,8,58,59,60,61]<|Sq (Co 61 (Sk [2,3,8,58,59,60])<|Ex 0 [3,8])<|Sq (Bl 1<|Rq [Ai 62 58 60 4,Ad 63 62 4,Dq 10 0 0 0 0,Ao 4 10 63] [2,3,8,10,58,59,60]<|Sq (Rq [Ad 65 2 2,Ad 66 3 5,Ad 67 10 4,Bg 68 86 65 66 67,Aa 64 68,Ak 69 64 0,Ak 70 64 1,Dp 11 0 0 1,Ao 4 11 69,Aa 12 70] [2,3,8,10,12,58,59,60]<|Rq [Aa 71 12,Bb 72 71,Aa 73 72,Ap 74 10 2 73,Bq 75 74 0 73,Al 76 75 73,Ap 77 3 3 73,Al 78 77 73,Ez 79 78 1 73,⟨some 80,.call 85 [.s 76,.c (.int .i64 (-1)),.s 79],some (73,false)⟩,Bp 81 80 73,Aq 82 73 81,Aa 83 82,Ap 84 10 2 83,Bq 85 84 1 83,Al 86 85 83,⟨some 87,.call 85 [.s 86,.c (.int .i64 (-1000000)),.c (.int .i64 1000000)],some (83,false)⟩,Bp 88 87 83,Aq 89 83 88] [2,3,8,10,58,59,60,89]<|Co 89 (Rq [Ae 4 6] [4]<|.ret)<|Sk [2,3,8,10,58,59,60])<|Rq [Ac 90 10 2,Ah 91 90 0,Ab 92 91,Bj 93 92 0] [2,3,8,10,58,59,60,93]<|Co 93 (Re [Bk 94 8,Ac 95 10 2,Ah 96 95 0,Ab 97 96,Cg 98 94 97 1,Ds 98] [2,3,8,58,59,60])<|Sk [2,3,8,58,59,60])<|Re [An 99 60 1,Aa 60 99] [2,3,8,58,59,60])<|Sq (Rq [Ac 100 3 3,Ab 101 100,Ac 102 3 4,Ab 103 102,Ay 104 87 101 103,Aa 13 104] [8,13]<|Rq [Aa 105 13,Av 106 105 0] [8,13,106]<|Co 106 (Rq [Aa 107 13,Aa 4 107] [4]<|.ret)<|Sk [8])<|Sq (Rq [Bk 108 8,⟨some 109,.calll 88 [.s 108,.c (.bool false)],none⟩] [109]<|Co 109 (Rq [Ae 4 9] [4]<|.ret)<|Sk [])<|Rq [Ae 4 0] [4]<|.ret) [.tmp 4]:=by decide +kernel
instance qx (t:AD) (p:Pattern):Ct prog (DX t p) 39 [AP t,BE p] (fun r=>.sh (eI r)):=Fi lr fun r h hw hR=>by
  unfold DX at h
  have:HA 0 60 59 0 fun (i0:Int) (s0:List Bool)=>[(8,.xo 1 (List.map eB s0)),(60,.tv (eI i0))]:=⟨⟩
  exact au
theorem fQ:CK f156 (Rq [Af 1 0,Aj 2] [1]<|Rq [Ac 4 1 4,Ad 5 4 5,Dx 3 1 3 4 0 5,Ao 5 3 5] [1,3]<|Rq [Ac 6 1 2,Ah 7 6 0,Ab 8 7,Ag 9 8,Ac 10 1 2,Ah 11 10 1,Ab 12 11,Ag 13 12,Bo 14 9 13,Ac 15 3 0,Ah 16 15 0,Ab 17 16,Ag 18 17,Bo 19 14 18,Ac 20 3 0,Ah 21 20 1,Ab 22 21,Ag 23 22,Bo 24 19 23,Ac 25 3 2,Ab 26 25,Ag 27 26,Bo 28 24 27,Ac 29 3 4,Ab 30 29,Ag 31 30,Bo 32 28 31,Az 33 32 0,Aa 34 33,Aw 35 3 3 34,Ax 36 35 34,Cs 37 36 0 34,Ar 38 34 37,Aa 2 38] [2]<|.ret) [.tmp 2]:=by decide +kernel
instance oD (c:AB):Ct prog (FW c) 156 [AJ c] (fun r=>.sh (eB r)):=Fi fQ fun r h hw hR=>by
  unfold FW at h
  exact au
theorem gV:CK f219 (Rq [Ae 4 0] [0,1]<|Sq (Rq [Aa 6 0,Ag 7 6,Ae 8 0] [0,1,7,8]<|Bl 0<|Lo [0,1,7,8]<|Rq [Am 9 8 7] [0,1,7,8,9]<|Sq (Co 9 (Sk [0,1,7,8])<|Ex 0 [])<|Sq (Bl 1<|Rq [Aa 10 8,Aa 5 10] [0,1,5,7,8]<|Rq [Aa 11 1,Aa 12 0,Aa 13 5,Ai 14 12 13 9,Ad 15 14 9,Cq 16 11 15] [0,1,5,7,8,16]<|Co 16 (Rq [Aa 17 5,Aa 4 17] [4]<|.ret)<|Sk [0,1,7,8])<|Re [An 18 8 1,Aa 8 18] [0,1,7,8])<|Rq [Bs 4 (-1)] [4]<|.ret) [.tmp 4]:=by decide +kernel
instance pC (s_0:List AB) (f:AB->Option Bool) (f_f:FuncId) (k_f:List TV) [h_f:∀ (y0:AB),Ct prog (f y0) f_f (AJ y0::k_f) (fun r=>.sh (eB r))]:Ct prog (DL s_0 f) 219 [GT s_0,.clo f_f k_f] (fun r=>.sh (eI r)):=Fi gV fun r h hw hR=>by
  unfold DL at h
  have:HA 0 8 7 0 fun (i0:Int) (_:Unit)=>[(8,.tv (eI i0))]:=⟨⟩
  exact au
theorem fR:CK f157 (Rq [Aj 4] [0,1]<|Rq [Aa 5 0,Aa 6 1,Ay 7 219 5 6,Bj 8 7 0,Aa 4 8] [4]<|.ret) [.tmp 4]:=by decide +kernel
instance oE (s_0:List AB) (f:AB->Option Bool) (f_f:FuncId) (k_f:List TV) [h_f:∀ (y0:AB),Ct prog (f y0) f_f (AJ y0::k_f) (fun r=>.sh (eB r))]:Ct prog (B1 s_0 f) 157 [GT s_0,.clo f_f k_f] (fun r=>.sh (eB r)):=Fi fR fun r h hw hR=>by
  unfold B1 at h
  exact au
theorem mX:CK f89 (Rq [Af 1 0,Aj 2] [1]<|Rq [Ac 5 1 1,Ab 6 5,Ag 7 6,Aa 3 7] [1,3]<|Rq [Aj 4] [1,3,4]<|Sq (Rq [Ac 8 1 0,Ab 9 8] [1,3,4,9]<|Bl 0<|Rq [Az 11 9 1,Aa 10 11] [1,3,4,9,10]<|Co 10 (Re [Aa 12 3,Az 13 12 0,Aa 14 13,Bf 15 1 9 14,Bw 16 156 15 14,Ar 17 14 16,Aa 4 17] [1,4])<|Rq [Az 19 9 2,Aa 18 19] [1,3,4,9,18]<|Co 18 (Re [Aa 20 3,Az 21 20 1,Aa 22 21,Bf 23 1 9 22,Bw 24 156 23 22,Ar 25 22 24,Aa 4 25] [1,4])<|Sq (Rq [Az 27 9 3,Aa 26 27] [1,3,4,9,26]<|Co 26 (Sk [1,3,4,9,26])<|Re [Az 28 9 4,Aa 26 28] [1,3,4,9,26])<|Co 26 (Re [Aa 29 3,Bj 30 29 1,Aa 31 30,Bf 32 1 9 31,Bw 33 156 32 31,Ar 34 31 33,Aa 4 34] [1,4])<|Rq [Az 36 9 5,Aa 35 36] [1,3,4,35]<|Co 35 (Re [Aa 37 3,Az 38 37 1,Aa 4 38] [1,4])<|Sk [1,4])<|Rq [Aa 39 4,Aa 40 39,Aw 41 1 1 40,Ax 42 41 40,⟨some 43,.call 157 [.s 42,.c (.clo 158 [])],some (40,true)⟩,Cu 44 43 40,Ar 45 40 44,Aa 2 45] [2]<|.ret) [.tmp 2]:=by decide +kernel
theorem fS:CK f158 (Rq [Af 1 0,Aj 2] [1]<|Rq [Ad 3 1 9,Ba 4 89 3,Bb 5 4,Aa 2 5] [2]<|.ret) [.tmp 2]:=by decide +kernel
theorem lL (n:Nat) (_ih_89:∀ (c:AB),Ct prog (BN n c) 89 [AJ c] (fun r=>.sh (eB r))) (_ih_158:∀ (k:AB),Ct prog (BS n k) 158 [AJ k] (fun r=>.sh (eB r))) (c:AB):Ct prog (BN (n+1) c) 89 [AJ c] (fun r=>.sh (eB r)):=Fi mX fun r h hw hR=>by
  unfold BN at h
  have:HJ 10 fun (w1:Bool)=>[(4,.tv (eB w1))]:=⟨⟩
  exact au
theorem eC (n:Nat) (_ih_89:∀ (c:AB),Ct prog (BN n c) 89 [AJ c] (fun r=>.sh (eB r))) (_ih_158:∀ (k:AB),Ct prog (BS n k) 158 [AJ k] (fun r=>.sh (eB r))) (k:AB):Ct prog (BS (n+1) k) 158 [AJ k] (fun r=>.sh (eB r)):=Fi fS fun r h hw hR=>by
  unfold BS at h
  exact au
theorem bh:∀ n:Nat,(∀ (c:AB),Ct prog (BN n c) 89 [AJ c] (fun r=>.sh (eB r)))∧(∀ (k:AB),Ct prog (BS n k) 158 [AJ k] (fun r=>.sh (eB r))):=by
  intro n
  induction n with
  | zero=>exact ⟨(fun c=>⟨fun _ h=>by cases h⟩),(fun k=>⟨fun _ h=>by cases h⟩)⟩
  | succ n ih=>exact ⟨lL n ih.1 ih.2,eC n ih.1 ih.2⟩
instance rb (c:AB):Ct prog (F7 c) 89 [AJ c] (fun r=>.sh (eB r)):=⟨fun r h=>by
  obtain ⟨N,hN⟩:=DB h
  exact ((bh N).1 c).snd r (hN N (Nat.le_refl _))⟩
instance oF (k:AB):Ct prog (NW k) 158 [AJ k] (fun r=>.sh (eB r)):=⟨fun r h=>by
  obtain ⟨N,hN⟩:=DB h
  exact ((bh N).2 k).snd r (hN N (Nat.le_refl _))⟩
theorem mY:CK f90 (Rq [Af 1 0,Ae 2 0,Ae 3 0] [1]<|Rq [Ae 4 1,Ae 5 0] [1,4,5]<|Sq (Rq [Ac 10 1 1,Ab 11 10,Ag 12 11,Ae 13 0] [1,4,5,11,12,13]<|Bl 0<|Lo [1,4,5,11,12,13]<|Rq [Am 14 13 12] [1,4,5,11,12,13,14]<|Sq (Co 14 (Sk [1,4,5,11,12,13])<|Ex 0 [1,4,5])<|Sq (Bl 1<|Rq [Ai 15 11 13 9,Ad 16 15 9,Dy 7 0 9 1 1 1 3 4 0 5,Ao 9 7 16] [1,4,5,7,11,12,13]<|Rq [Ad 18 7 9,Ba 19 90 18,Aa 17 19,Ak 20 17 0,Ak 21 17 1,Aa 8 20,Aa 9 21] [1,4,5,8,9,11,12,13]<|Re [Aa 22 4,Aa 23 8,Bo 24 22 23,Aa 25 5,Aa 26 9,Fw 27 25 26,Aa 4 24,Aa 5 27] [1,4,5,11,12,13])<|Re [An 28 13 1,Aa 13 28] [1,4,5,11,12,13])<|Sq (Rq [Ac 29 1 0,Ab 30 29,Az 31 30 5] [4,5,31]<|Co 31 (Re [Aa 32 5,An 33 32 1,Aa 5 33] [4,5])<|Sk [4,5])<|Rq [Aa 34 4,Aa 35 5,Aa 2 34,Aa 3 35] [2,3]<|.ret) [.tmp 2,.tmp 3]:=by decide +kernel
theorem lO (n:Nat) (_ih_90:∀ (c:AB),Ct prog (CS n c) 90 [AJ c] (fun r=>.tp [eI r.1,eI r.2])) (c:AB):Ct prog (CS (n+1) c) 90 [AJ c] (fun r=>.tp [eI r.1,eI r.2]):=Fi mY fun r h hw hR=>by
  unfold CS at h
  have:HA 0 13 12 0 fun (i0:Int) (s0:Int × Int)=>[(4,.tv (eI s0.1)),(5,.tv (eI s0.2)),(13,.tv (eI i0))]:=⟨⟩
  have:HJ 31 fun (w1:Int)=>[(5,.tv (eI w1))]:=⟨⟩
  exact au
theorem lM:∀ n:Nat,(∀ (c:AB),Ct prog (CS n c) 90 [AJ c] (fun r=>.tp [eI r.1,eI r.2])):=by
  intro n
  induction n with
  | zero=>exact (fun c=>⟨fun _ h=>by cases h⟩)
  | succ n ih=>exact lO n ih
instance rc (c:AB):Ct prog (HN c) 90 [AJ c] (fun r=>.tp [eI r.1,eI r.2]):=⟨fun r h=>by
  obtain ⟨N,hN⟩:=DB h
  exact ((lM N) c).snd r (hN N (Nat.le_refl _))⟩
theorem ls:CK f40 (Rq [Af 1 0,Ae 2 0] [1]<|Sq (Rq [Ad 5 1 9,Ba 6 89 5,Bb 7 6] [1,7]<|Co 7 (Rq [Ae 2 1] [2]<|.ret)<|Sk [1])<|Sq (Rq [Ad 9 1 9,Ba 10 90 9,Aa 8 10,Ak 11 8 0,Ak 12 8 1,Aa 3 11,Aa 4 12] [3,4]<|Rq [Aa 13 3,Bn 14 13 12,Aa 15 14,Au 16 4 15,Cd 17 16 3 15,Aq 18 15 17] [18]<|Co 18 (Rq [Ae 2 3] [2]<|.ret)<|Sk [])<|Rq [Ae 2 0] [2]<|.ret) [.tmp 2]:=by decide +kernel
instance qy (c:AB):Ct prog (E3 c) 40 [AJ c] (fun r=>.sh (eI r)):=Fi ls fun r h hw hR=>by
  unfold E3 at h
  exact au
theorem gW:CK f220 (Rq [Ae 4 0] [0,1]<|Sq (Rq [Aa 6 0,Ag 7 6,Ae 8 0] [0,1,7,8]<|Bl 0<|Lo [0,1,7,8]<|Rq [Am 9 8 7] [0,1,7,8,9]<|Sq (Co 9 (Sk [0,1,7,8])<|Ex 0 [])<|Sq (Bl 1<|Rq [Aa 10 8,Aa 5 10] [0,1,5,7,8]<|Rq [Aa 11 1,Aa 12 0,Aa 13 5,Ai 14 12 13 4,Ad 15 14 4,Cq 16 11 15] [0,1,5,7,8,16]<|Co 16 (Rq [Aa 17 5,Aa 4 17] [4]<|.ret)<|Sk [0,1,7,8])<|Re [An 18 8 1,Aa 8 18] [0,1,7,8])<|Rq [Bs 4 (-1)] [4]<|.ret) [.tmp 4]:=by decide +kernel
instance pE (s_0:List DO) (f:DO->Option Bool) (f_f:FuncId) (k_f:List TV) [h_f:∀ (y0:DO),Ct prog (f y0) f_f (Kg y0::k_f) (fun r=>.sh (eB r))]:Ct prog (EF s_0 f) 220 [lS s_0,.clo f_f k_f] (fun r=>.sh (eI r)):=Fi gW fun r h hw hR=>by
  unfold EF at h
  have:HA 0 8 7 0 fun (i0:Int) (_:Unit)=>[(8,.tv (eI i0))]:=⟨⟩
  exact au
theorem fT:CK f159 (Rq [Aj 4] [0,1]<|Rq [Aa 5 0,Aa 6 1,Ay 7 220 5 6,Bj 8 7 0,Aa 4 8] [4]<|.ret) [.tmp 4]:=by decide +kernel
instance oG (s_0:List DO) (f:DO->Option Bool) (f_f:FuncId) (k_f:List TV) [h_f:∀ (y0:DO),Ct prog (f y0) f_f (Kg y0::k_f) (fun r=>.sh (eB r))]:Ct prog (DD s_0 f) 159 [lS s_0,.clo f_f k_f] (fun r=>.sh (eB r)):=Fi fT fun r h hw hR=>by
  unfold DD at h
  exact au
theorem fU:CK f160 (Rq [Af 2 0,Aj 3] [1,2]<|Rq [Ac 4 2 2,Ah 5 4 0,Ab 6 5,Ab 7 1,Cl 8 6 7,Aa 3 8] [3]<|.ret) [.tmp 3]:=by decide +kernel
instance oH (s_0:DO) (c0:Int):Ct prog (H1 s_0 c0) 160 [Kg s_0,.pt [eI c0]] (fun r=>.sh (eB r)):=Fi fU fun r h hw hR=>by
  unfold H1 at h
  exact au
theorem mZ:CK f91 (Rq [Af 3 0,Af 4 1,Ae 6 0] [2,3,4]<|Rq [Ad 9 3 2,Ad 10 4 5,Ay 11 39 9 10,Aa 7 11] [2,4,7]<|Sq (Rq [Aa 12 7,Av 13 12 9] [2,4,7,13]<|Co 13 (Rq [Aa 14 7,Aa 6 14] [6]<|.ret)<|Sk [2,4,7])<|Sq (Rq [Aa 15 2,⟨some 8,.alc [⟨false,.int .i64 0⟩],none⟩,Ao 1 8 15,Er 8] [4,7,8]<|Bl 0<|Lo [4,7,8]<|Sq (Rq [Ab 16 8,Ac 17 4 3,Ab 18 17,Am 19 16 18] [4,7,8,19]<|Co 19 (Sk [4,7,8])<|Ex 0 [])<|Sq (Bl 1<|Rq [Ac 22 4 2,Ab 23 22,Cr 24 160 8,Ay 25 159 23 24,Bb 26 25] [4,7,8,26]<|Co 26 (Rq [Aa 27 7,Aa 6 27] [6]<|.ret)<|Sk [4,7,8])<|Sq (Rq [Ab 28 8] [4,7,28]<|Re [⟨some 8,.alc [⟨false,.int .i64 0⟩],none⟩,Ao 1 8 28] [4,7,8])<|Re [Ab 20 8,An 21 20 1,Ao 1 8 21,Er 8] [4,7,8])<|Rq [Ae 6 0] [6]<|.ret) [.tmp 6]:=by decide +kernel
instance rd (t:AD) (q:Pattern) (outer:Int):Ct prog (D6 t q outer) 91 [AP t,BE q,eI outer] (fun r=>.sh (eI r)):=Fi mZ fun r h hw hR=>by
  unfold D6 at h
  have:HW 0 fun (s0:Int)=>[(8,.tv (.pt [eI s0]))]:=⟨⟩
  exact au
theorem ma:CK f92 (Rq [Af 3 0,Af 4 1,Af 5 2,Ae 6 0] [3,4,5]<|Sq (Rq [Ad 15 3 2,Ba 16 80 15,Aa 7 16] [3,4,5,7]<|Rq [Aa 17 7,Av 18 17 0] [3,4,5,7,18]<|Co 18 (Rq [Aa 19 7,Aa 6 19] [6]<|.ret)<|Sk [3,4,5])<|Sq (Rq [Ad 20 4 2,Ba 21 80 20,Aa 8 21] [3,4,5,8]<|Rq [Aa 22 8,Av 23 22 0] [3,4,5,8,23]<|Co 23 (Rq [Aa 24 8,Aa 6 24] [6]<|.ret)<|Sk [3,4,5])<|Sq (Rq [Ac 25 5 0,Ab 26 25,Ag 27 26,Ac 28 3 0,Ab 29 28,Ag 30 29,Bi 31 27 30,Aa 32 31,Ap 33 5 1 32,Al 34 33 32,Bh 35 34 32,Ap 36 3 1 32,Al 37 36 32,Bh 38 37 32,Cj 39 35 38 32,Aq 40 32 39] [3,4,5,40]<|Co 40 (Rq [Ae 6 20] [6]<|.ret)<|Sk [3,4,5])<|Sq (Rq [Ac 41 5 0,Ab 42 41,Ag 43 42,Ae 44 0] [3,4,5,42,43,44]<|Bl 0<|Lo [3,4,5,42,43,44]<|Rq [Am 45 44 43] [3,4,5,42,43,44,45]<|Sq (Co 45 (Sk [3,4,5,42,43,44])<|Ex 0 [3,4,5])<|Sq (Bl 1<|Rq [Aa 46 44,Ai 47 42 44 1,Ab 48 47,Aa 9 46,Aa 10 48] [3,4,5,9,10,42,43,44]<|Sq (Rq [Aa 49 10,By 50 49 0,Aa 51 50,Au 52 10 51,Ap 53 4 0 51,Al 54 53 51,Bh 55 54 51,Bu 56 52 55 51,Aq 57 51 56] [3,4,5,9,10,42,43,44,57]<|Co 57 (Rq [Ae 6 6] [6]<|.ret)<|Sk [3,4,5,9,10,42,43,44])<|Sq (Dr [58,59,60,61,62,63,64,65,66,67,68] [Ac 58 4 0,Ab 59 58,Aa 60 10,Ai 61 59 60 1,Ab 62 61,Ac 63 3 0,Ab 64 63,Aa 65 9,Ai 66 64 65 1,Ab 67 66,Bi 68 62 67] [3,4,5,42,43,44,68])<|Co 68 (Rq [Ae 6 13] [6]<|.ret)<|Sk [3,4,5,42,43,44])<|Re [An 69 44 1,Aa 44 69] [3,4,5,42,43,44])<|Sq (Rq [Ac 70 5 1,Ab 71 70,Ag 72 71,Ae 73 0] [3,4,5,71,72,73]<|Bl 2<|Lo [3,4,5,71,72,73]<|Rq [Am 74 73 72] [3,4,5,71,72,73,74]<|Sq (Co 74 (Sk [3,4,5,71,72,73])<|Ex 2 [])<|Sq (Bl 3<|Rq [Aa 75 73,Ai 76 71 73 1,Ab 77 76,Aa 11 75,Aa 12 77] [3,4,5,11,12,71,72,73]<|Sq (Rq [Aa 78 12,By 79 78 0,Aa 80 79,Au 81 12 80,Ap 82 4 1 80,Al 83 82 80,Bh 84 83 80,Bu 85 81 84 80,Aq 86 80 85] [3,4,5,11,12,71,72,73,86]<|Co 86 (Rq [Ae 6 6] [6]<|.ret)<|Sk [3,4,5,11,12,71,72,73])<|Sq (Dr [13,14,87,88,89,90,91,92,93,94,95,96] [Ac 87 3 1,Ab 88 87,Aa 89 11,Ai 90 88 89 3,Ad 91 90 3,Ac 92 4 1,Ab 93 92,Aa 94 12,Ai 95 93 94 3,Ad 96 95 3,Ch 13 0 0 0,Ch 14 0 0 0,Ao 3 13 91,Ao 3 14 96] [3,4,5,13,14,71,72,73])<|Sq (Rq [Ac 97 13 0,Ab 98 97,Ac 99 14 0,Ab 100 99,Bi 101 98 100] [3,4,5,13,14,71,72,73,101]<|Co 101 (Rq [Ae 6 13] [6]<|.ret)<|Sk [3,4,5,13,14,71,72,73])<|Sq (Dr [102,103,104,105,106,107,108,109,110,111,112,113,114,115,116,117,118,119,120,121] [Ac 102 5 0,Ab 103 102,Ac 104 13 1,Ab 105 104,Ai 106 103 105 1,Ab 107 106,Ac 108 14 1,Ab 109 108,Bi 110 107 109,Aa 111 110,Ap 112 5 0 111,Al 113 112 111,Ap 114 13 2 111,Al 115 114 111,Bx 116 113 115 1 111,Al 117 116 111,Ap 118 14 2 111,Al 119 118 111,Cj 120 117 119 111,Aq 121 111 120] [3,4,5,71,72,73,121])<|Co 121 (Rq [Ae 6 11] [6]<|.ret)<|Sk [3,4,5,71,72,73])<|Re [An 122 73 1,Aa 73 122] [3,4,5,71,72,73])<|Rq [Ae 6 0] [6]<|.ret) [.tmp 6]:=by decide +kernel
instance re (a:Graph) (b:Graph) (m:Morphism):Ct prog (EL a b m) 92 [CA a,CA b,BO m] (fun r=>.sh (eI r)):=Fi ma fun r h hw hR=>by
  unfold EL at h
  have:HA 0 44 43 0 fun (i0:Int) (_:Unit)=>[(44,.tv (eI i0))]:=⟨⟩
  have:HA 2 73 72 0 fun (i2:Int) (_:Unit)=>[(73,.tv (eI i2))]:=⟨⟩
  exact au
theorem fD:CK f138 (Rq [Bc 2 1] [0]<|Sq (Rq [Aa 3 0,⟨some 4,.isn (.s 3),none⟩] [0,4]<|Co 4 (Rq [Bc 2 1] [2]<|.ret)<|Sk [0])<|Rq [Di 5 1,Aa 6 0,Bz 7 1 5 6,Be 2 7] [2]<|.ret) [.tmp 2]:=by decide +kernel
instance nu (s_0:List Int):Ct prog (slices_Clone_int s_0) 138 [lI s_0] (fun r=>.own (lI r)):=Fi fD fun r h hw hR=>by
  unfold slices_Clone_int at h
  exact au
theorem ke (l r:List Int) (h:slices_Sort_int l=some r):AV prog 221 [.list 1 (l.map (TV.int .i64))] (.turn r):=by
  unfold slices_Sort_int at h
  rw [←Xr] at h
  split at h
  · rename_i hl
    unfold B0 at hl
    cases h
    refine WB (by rfl) (List.length_mergeSort _) (fun x hx=>List.mem_mergeSort.1 hx) (fun w hz=>?_) (fun g cap w _ _ hg hH=>Go.Proofs.Tryz.slices_Sort_int g 0 cap l w hH hg (by omega))
    subst hz
    exact Go.Proofs.Tryz.slices_Sort_int_none none 0 w
  · cases h
instance qS (l:List Int):Ct Go.Proofs.Tryz.prog (slices_Sort_int l) 221 [.list 1 (l.map (TV.int .i64))] B9.turn:=⟨ke l⟩
theorem kf (l r:List Int) (h:slices_Compact_int l=some r):AV prog 222 [.list 1 (l.map (TV.int .i64))] (.cut r):=by
  unfold slices_Compact_int at h
  split at h
  · rename_i hl
    unfold B0 at hl
    cases h
    have hle:=Go.Lib.compact_length_le l
    refine bm (rest:=List.replicate (l.length - (Go.Lib.compact l).length) 0) (by rfl) (by rw [List.length_replicate]; omega) (fun x hx=>T3 hx) (fun w hz=>?_) (fun g cap w hc _ hg hH=>Go.Proofs.Tryz.slices_Compact_int g 0 cap l w hH (by omega) hc)
    subst hz
    exact Go.Proofs.Tryz.slices_Compact_int_empty none 0 w
  · cases h
instance qT (l:List Int):Ct Go.Proofs.Tryz.prog (slices_Compact_int l) 222 [.list 1 (l.map (TV.int .i64))] B9.cut:=⟨kf l⟩
theorem fV:CK f161 (Rq [Ae 2 0] [0]<|Rq [Aa 4 0,⟨some 5,.callx 138 [.s 4],none⟩,Bv 3 5] [3]<|Rq [Bk 6 3,⟨some 7,.callm 221 (.s 6),none⟩] [3]<|Rq [Bk 8 3,⟨some 9,.callc 222 (.s 8),none⟩,Dv 10 9,Aa 2 10] [2]<|.ret) [.tmp 2]:=by decide +kernel
instance oI (l:List Int):Ct prog (HC l) 161 [lI l] (fun r=>.sh (eI r)):=Fi fV fun r h hw hR=>by
  unfold HC at h
  exact au
theorem mb:CK f93 (Rq [Af 3 0,Af 4 1,Af 5 2,Aj 6] [3,4,5]<|Sq (Dr [6,7,8,9,10,11,12,13,14,15,16,17,18,19,20,21,22,23,24,25,26,27,28,29] [Ad 7 3 2,Ad 8 4 2,Ad 9 5 2,Bg 10 92 7 8 9,Az 11 10 0,Aa 12 11,Aw 13 5 0 12,Ax 14 13 12,Bw 15 161 14 12,Aw 16 5 0 12,Ax 17 16 12,Cb 18 17 12,Cx 19 15 18 12,Ar 20 12 19,Aa 21 20,Aw 22 5 1 21,Ax 23 22 21,Bw 24 161 23 21,Aw 25 5 1 21,Ax 26 25 21,Cb 27 26 21,Cx 28 24 27 21,Ar 29 21 28,Aa 6 29] [6])<|.ret) [.tmp 6]:=by decide +kernel
instance rf (a:Graph) (b:Graph) (m:Morphism):Ct prog (D0 a b m) 93 [CA a,CA b,BO m] (fun r=>.sh (eB r)):=Fi mb fun r h hw hR=>by
  unfold D0 at h
  exact au
theorem lu:CK f41 (Rq [Af 3 0,⟨some 4,.boxo (.s 1),none⟩,Af 5 2,Ae 6 0] [3,4,5]<|Sq (Rq [Ac 13 5 0,Ab 14 13,Az 15 14 5] [3,4,5,15]<|Co 15 (Rq [Ac 16 5 4,Ad 17 16 5,Dx 7 1 3 4 0 5,Ao 5 7 17] [3,4,5,7]<|Sq (Rq [Ac 18 7 3,Ab 19 18,Ac 20 4 3,Ab 21 20,Am 22 19 21] [3,4,5,7,22]<|Co 22 (Rq [Ae 6 20] [6]<|.ret)<|Sk [3,4,5,7])<|Sq (Rq [Ad 23 3 2,Ad 24 7 5,Ac 25 4 3,Ab 26 25,Bg 27 91 23 24 26,Aa 8 27] [3,4,5,7,8]<|Rq [Aa 28 8,Av 29 28 0] [3,4,5,7,8,29]<|Co 29 (Rq [Aa 30 8,Aa 6 30] [6]<|.ret)<|Sk [3,4,5,7])<|Sq (Rq [Ac 31 4 0,Ad 32 31 2,Ac 33 7 0,Ad 34 33 2,Ac 35 5 2,Ad 36 35 2,Bg 37 92 32 34 36,Aa 9 37] [3,4,5,7,9]<|Rq [Aa 38 9,Av 39 38 0] [3,4,5,7,9,39]<|Co 39 (Rq [Aa 40 9,Aa 6 40] [6]<|.ret)<|Sk [3,4,5,7])<|Sq (Rq [Ac 41 4 0,Ad 42 41 2,Ac 43 7 0,Ad 44 43 2,Ac 45 5 2,Ad 46 45 2,Bg 47 93 42 44 46,Bb 48 47] [3,4,5,7,48]<|Co 48 (Rq [Ae 6 1] [6]<|.ret)<|Sk [3,4,5,7])<|Re [Ad 49 7 5,Ao 5 4 49] [3,4,5])<|Sk [3,4,5])<|Sq (Rq [Ac 50 5 1,Ab 51 50,Ag 52 51,Ae 53 0] [3,4,51,52,53]<|Bl 0<|Lo [3,4,51,52,53]<|Rq [Am 54 53 52] [3,4,51,52,53,54]<|Sq (Co 54 (Sk [3,4,51,52,53])<|Ex 0 [])<|Sq (Bl 1<|Rq [Ai 55 51 53 9,Ad 56 55 9,Dy 11 0 9 1 1 1 3 4 0 5,Ao 9 11 56] [3,4,11,51,52,53]<|Rq [Ad 57 3 2,Ad 58 4 5,Ad 59 11 9,Bg 60 41 57 58 59,Aa 12 60] [3,4,12,51,52,53]<|Rq [Aa 61 12,Av 62 61 0] [3,4,12,51,52,53,62]<|Co 62 (Rq [Aa 63 12,Aa 6 63] [6]<|.ret)<|Sk [3,4,51,52,53])<|Re [An 64 53 1,Aa 53 64] [3,4,51,52,53])<|Rq [Ae 6 0] [6]<|.ret) [.tmp 6]:=by decide +kernel
theorem kx (n:Nat) (_ih_41:∀ (t:AD) (p:Pattern) (c:AB),Ct prog (CC n t p c) 41 [AP t,BE p,AJ c] (fun r=>.sh (eI r))) (t:AD) (p:Pattern) (c:AB):Ct prog (CC (n+1) t p c) 41 [AP t,BE p,AJ c] (fun r=>.sh (eI r)):=Fi lu fun r h hw hR=>by
  unfold CC at h
  have:HA 0 53 52 0 fun (i0:Int) (_:Unit)=>[(53,.tv (eI i0))]:=⟨⟩
  exact au
theorem kw:∀ n:Nat,(∀ (t:AD) (p:Pattern) (c:AB),Ct prog (CC n t p c) 41 [AP t,BE p,AJ c] (fun r=>.sh (eI r))):=by
  intro n
  induction n with
  | zero=>exact (fun t p c=>⟨fun _ h=>by cases h⟩)
  | succ n ih=>exact kx n ih
instance qz (t:AD) (p:Pattern) (c:AB):Ct prog (I4 t p c) 41 [AP t,BE p,AJ c] (fun r=>.sh (eI r)):=⟨fun r h=>by
  obtain ⟨N,hN⟩:=DB h
  exact ((kw N) t p c).snd r (hN N (Nat.le_refl _))⟩
theorem lV:CK f15 (Rq [Af 3 0,Af 4 1,Af 5 2,Ae 6 0] [3,4,5]<|Sq (Rq [Ad 9 3 2,Ad 10 4 5,Ay 11 39 9 10,Aa 7 11] [3,4,5,7]<|Rq [Aa 12 7,Av 13 12 0] [3,4,5,7,13]<|Co 13 (Rq [Aa 14 7,Aa 6 14] [6]<|.ret)<|Sk [3,4,5])<|Sq (Rq [Ad 15 5 9,Ba 16 40 15,Aa 8 16] [3,4,5,8]<|Rq [Aa 17 8,Av 18 17 0] [3,4,5,8,18]<|Co 18 (Rq [Aa 19 8,Aa 6 19] [6]<|.ret)<|Sk [3,4,5])<|Rq [Ad 20 3 2,Ad 21 4 5,Ad 22 5 9,Bg 23 41 20 21 22,Aa 6 23] [6]<|.ret) [.tmp 6]:=by decide +kernel
instance qe (t:AD) (p:Pattern) (c:AB):Ct prog (DY t p c) 15 [AP t,BE p,AJ c] (fun r=>.sh (eI r)):=Fi lV fun r h hw hR=>by
  unfold DY at h
  exact au
theorem mL:CK f73 (Rq [Aj 4] [0,1]<|Sq (Rq [Aa 6 0,Ag 7 6,Aa 8 1,Ag 9 8,Bi 10 7 9] [0,1,10]<|Co 10 (Rq [Aj 4] [4]<|.ret)<|Sk [0,1])<|Sq (Rq [Aa 11 0,Ag 12 11,Ae 13 0] [0,1,12,13]<|Bl 0<|Lo [0,1,12,13]<|Rq [Am 14 13 12] [0,1,12,13,14]<|Sq (Co 14 (Sk [0,1,12,13])<|Ex 0 [])<|Sq (Bl 1<|Rq [Aa 15 13,Aa 5 15] [0,1,5,12,13]<|Sq (Dr [16,17,18,19,20,21,22,23,24] [Aa 16 0,Aa 17 5,Ai 18 16 17 1,Ab 19 18,Aa 20 1,Aa 21 5,Ai 22 20 21 1,Ab 23 22,Bi 24 19 23] [0,1,12,13,24])<|Co 24 (Rq [Aj 4] [4]<|.ret)<|Sk [0,1,12,13])<|Re [An 25 13 1,Aa 13 25] [0,1,12,13])<|Rq [Bt 4] [4]<|.ret) [.tmp 4]:=by decide +kernel
instance rP (s1_0:List Int) (s2_1:List Int):Ct prog (FR s1_0 s2_1) 73 [lI s1_0,lI s2_1] (fun r=>.sh (eB r)):=Fi mL fun r h hw hR=>by
  unfold FR at h
  have:HA 0 13 12 0 fun (i0:Int) (_:Unit)=>[(13,.tv (eI i0))]:=⟨⟩
  exact au
theorem fi:CK f173 (Rq [Af 3 0,Ae 6 0] [1,2,3]<|Sq (Rq [Aa 11 1,Ac 12 3 0,Ab 13 12,Ag 14 13,Cm 15 11 14] [1,2,3,15]<|Co 15 (Rq [Ae 6 6] [6]<|.ret)<|Sk [1,2,3])<|Sq (Rq [Ac 16 3 0,Ab 17 16,Aa 18 1,Ai 19 17 18 4,Ah 20 19 2,Ab 21 20] [1,2,3,21]<|Co 21 (Rq [Ae 6 13] [6]<|.ret)<|Sk [1,2,3])<|Rq [Ad 23 3 2,Aa 24 1,Ay 25 153 23 24,Aa 22 25,Ak 26 22 0,Ak 27 22 1,Be 7 26,Aa 8 27] [2,7]<|Sq (Rq [Aa 28 2,Ag 29 28,Aa 30 7,Ag 31 30,Bi 32 29 31] [2,7,32]<|Co 32 (Rq [Ae 6 20] [6]<|.ret)<|Sk [2,7])<|Sq (Rq [Aa 33 7,Ag 34 33,Ae 35 0] [2,33,34,35]<|Bl 0<|Lo [2,33,34,35]<|Rq [Am 36 35 34] [2,33,34,35,36]<|Sq (Co 36 (Sk [2,33,34,35])<|Ex 0 [])<|Sq (Bl 1<|Rq [Aa 37 35,Ai 38 33 35 4,Ad 39 38 4,Dp 10 0 0 1,Aa 9 37,Ao 4 10 39] [2,9,10,33,34,35]<|Sq (Dr [40,41,42,43,44,45,46,47,48,49,50,51,52,53,54,55] [Aa 40 2,Aa 41 9,Ai 42 40 41 1,Ab 43 42,Ac 44 10 1,Ab 45 44,Am 46 43 45,Aa 47 46,Au 48 2 47,Au 49 9 47,Bx 50 48 49 1 47,Al 51 50 47,Ap 52 10 2 47,Al 53 52 47,⟨some 54,.bin (.i) .gtr (.s 51) (.s 53),some (47,false)⟩,Aq 55 47 54] [2,33,34,35,55])<|Co 55 (Rq [Ae 6 6] [6]<|.ret)<|Sk [2,33,34,35])<|Re [An 56 35 1,Aa 35 56] [2,33,34,35])<|Rq [Ae 6 0] [6]<|.ret) [.tmp 6]:=by decide +kernel
instance oU (t:AD) (kind:Int) (A6:List Int):Ct prog (Iw t kind A6) 173 [AP t,eI kind,lI A6] (fun r=>.sh (eI r)):=Fi fi fun r h hw hR=>by
  unfold Iw at h
  have:HA 0 35 34 0 fun (i0:Int) (_:Unit)=>[(35,.tv (eI i0))]:=⟨⟩
  exact au
theorem iG:CK f265 (Rq [Ae 4 0] [0,1]<|Sq (Rq [Aa 6 0,Ag 7 6,Ae 8 0] [0,1,7,8]<|Bl 0<|Lo [0,1,7,8]<|Rq [Am 9 8 7] [0,1,7,8,9]<|Sq (Co 9 (Sk [0,1,7,8])<|Ex 0 [])<|Sq (Bl 1<|Rq [Aa 10 8,Aa 5 10] [0,1,5,7,8]<|Rq [Aa 11 1,Aa 12 0,Aa 13 5,Ai 14 12 13 1,Ab 15 14,Cl 16 11 15] [0,1,5,7,8,16]<|Co 16 (Rq [Aa 17 5,Aa 4 17] [4]<|.ret)<|Sk [0,1,7,8])<|Re [An 18 8 1,Aa 8 18] [0,1,7,8])<|Rq [Bs 4 (-1)] [4]<|.ret) [.tmp 4]:=by decide +kernel
instance pz (s_0:List Int) (v_1:Int):Ct prog (H0 s_0 v_1) 265 [lI s_0,eI v_1] (fun r=>.sh (eI r)):=Fi iG fun r h hw hR=>by
  unfold H0 at h
  have:HA 0 8 7 0 fun (i0:Int) (_:Unit)=>[(8,.tv (eI i0))]:=⟨⟩
  exact au
theorem gv:CK f241 (Rq [Aj 4] [0,1]<|Rq [Aa 5 0,Aa 6 1,Ay 7 265 5 6,Bj 8 7 0,Aa 4 8] [4]<|.ret) [.tmp 4]:=by decide +kernel
instance pT (s_0:List Int) (v_1:Int):Ct prog (DG s_0 v_1) 241 [lI s_0,eI v_1] (fun r=>.sh (eB r)):=Fi gv fun r h hw hR=>by
  unfold DG at h
  exact au
theorem km (l r:List Int) (h:slices_Reverse_int l=some r):AV prog 282 [.list 1 (l.map (TV.int .i64))] (.turn r):=by
  unfold slices_Reverse_int at h
  split at h
  · rename_i hl
    unfold B0 at hl
    cases h
    refine WB (by rfl) List.length_reverse (fun x hx=>List.mem_reverse.1 hx) (fun w hz=>?_) (fun g cap w _ _ hg hH=>(Go.Proofs.Tryz.slices_Reverse_int g 0 cap l w hH (by omega)).mono ?_)
    · subst hz
      exact Go.Proofs.Tryz.slices_Reverse_int_empty none 0 w
    · rintro e w' ⟨h1,q,h2⟩
      exact ⟨h1,q,#[],by rw [Go.Sort.grow_empty]; exact h2⟩
  · cases h
instance qV (l:List Int):Ct Go.Proofs.Tryz.prog (slices_Reverse_int l) 282 [.list 1 (l.map (TV.int .i64))] B9.turn:=⟨km l⟩
theorem iA:CK f256 (Rq [Af 2 0,Bc 4 1] [1,2]<|Rq [Ep 5 1] [1,2,5]<|Sq (Bl 0<|Lo [1,2,5]<|Sq (Rq [Aa 6 1,Bj 7 6 0] [1,2,5,7]<|Co 7 (Sk [1,2,5])<|Ex 0 [5])<|Sq (Bl 1<|Re [Bv 14 5,Aa 15 1,Br 16 1 15,Dm 17 1 14 16,Bv 5 17] [1,2,5])<|Re [Ac 8 2 0,Ab 9 8,Aa 10 1,Ai 11 9 10 4,Ah 12 11 1,Ab 13 12,Aa 1 13] [1,2,5])<|Rq [Bk 18 5,⟨some 19,.callm 282 (.s 18),none⟩] [5]<|Rq [Dd 20 5,Be 4 20] [4]<|.ret) [.tmp 4]:=by decide +kernel
instance pr (t:AD) (a:Int):Ct prog (JB t a) 256 [AP t,eI a] (fun r=>.own (lI r)):=Fi iA fun r h hw hR=>by
  unfold JB at h
  have:HW 0 fun (s0:Int × List Int)=>[(1,.tv (eI s0.1)),(5,.xo 1 (List.map eI s0.2))]:=⟨⟩
  exact au
theorem gi:CK f229 (Rq [Af 3 0,Aj 6] [1,2,3]<|Rq [Ad 7 3 2,Aa 8 1,Ay 9 256 7 8,Aa 10 2,Ay 11 241 9 10,Aa 6 11] [6]<|.ret) [.tmp 6]:=by decide +kernel
instance pL (t:AD) (a:Int) (b:Int):Ct prog (Ia t a b) 229 [AP t,eI a,eI b] (fun r=>.sh (eB r)):=Fi gi fun r h hw hR=>by
  unfold Ia at h
  exact au
theorem fj:CK f174 (Rq [Af 4 0,Aj 8] [1,2,3,4]<|Sq (Rq [Ad 9 4 2,Aa 10 2,Aa 11 3,Dt 12 1 10 11,Ay 13 216 9 12,Av 14 13 0,Aa 15 14,Au 16 1 15,Gl 17 16 0 15,Aq 18 15 17,Aa 19 18,Au 20 1 19,Ap 21 4 1 19,Al 22 21 19,Bh 23 22 19,Bu 24 20 23 19,Aq 25 19 24] [1,2,3,4,25]<|Co 25 (Rq [Aj 8] [8]<|.ret)<|Sk [1,2,3,4])<|Sq (Dr [8,26,27,28,29,30,31,32,33,34,35,36,37,38,39,40,41,42,43,44,45] [Ad 26 4 2,Aa 27 2,Ac 28 4 1,Ab 29 28,Aa 30 1,Ai 31 29 30 7,Ah 32 31 1,Ab 33 32,Bg 34 229 26 27 33,Aa 35 34,Bf 36 4 2 35,As 37 3 35,Aw 38 4 1 35,Ax 39 38 35,As 40 1 35,Cv 41 39 40 7 35,Bm 42 41 2 35,Ax 43 42 35,Ef 44 229 36 37 43 35,Ar 45 35 44,Aa 8 45] [8])<|.ret) [.tmp 8]:=by decide +kernel
instance oV (t:AD) (edge:Int) (from':Int) (to':Int):Ct prog (IN t edge from' to') 174 [AP t,eI edge,eI from',eI to'] (fun r=>.sh (eB r)):=Fi fj fun r h hw hR=>by
  unfold IN at h
  exact au
theorem ec:CK f108 (Rq [Af 2 0,Af 3 1,Ae 4 0,Ae 5 0] [2,3]<|Sq (Rq [Ad 15 2 2,Ba 16 79 15,Aa 14 16,Ak 17 14 0,Ak 18 14 1,Aa 6 17,Aa 7 18] [2,3,7]<|Rq [Aa 19 7,Av 20 19 0] [2,3,7,20]<|Co 20 (Rq [Aa 21 7,Bs 4 (-1),Aa 5 21] [4,5]<|.ret)<|Sk [2,3])<|Sq (Rq [Ac 22 3 0,Ad 23 22 2,Ba 24 80 23,Aa 8 24] [2,3,8]<|Rq [Aa 25 8,Av 26 25 0] [2,3,8,26]<|Co 26 (Rq [Aa 27 8,Bs 4 (-1),Aa 5 27] [4,5]<|.ret)<|Sk [2,3])<|Sq (Rq [Ac 28 3 2,Ab 29 28,Ag 30 29,Ac 31 3 0,Ah 32 31 0,Ab 33 32,Ag 34 33,Bi 35 30 34] [2,3,35]<|Co 35 (Rq [Bs 4 (-1),Ae 5 20] [4,5]<|.ret)<|Sk [2,3])<|Sq (Rq [Ac 36 3 0,Ah 37 36 0,Ab 38 37,Ag 39 38,Ae 40 0] [2,3,38,39,40]<|Bl 0<|Lo [2,3,38,39,40]<|Rq [Am 41 40 39] [2,3,38,39,40,41]<|Sq (Co 41 (Sk [2,3,38,39,40])<|Ex 0 [2,3])<|Sq (Bl 1<|Rq [Aa 42 40,Ai 43 38 40 1,Ab 44 43,Aa 9 42,Aa 10 44] [2,3,9,10,38,39,40]<|Sq (Dr [11,45,46,47,48,49,50,51,52] [Ad 45 2 2,Aa 46 10,Ac 47 3 2,Ab 48 47,Aa 49 9,Ai 50 48 49 1,Ab 51 50,Bg 52 173 45 46 51,Aa 11 52] [2,3,9,11,38,39,40])<|Rq [Aa 53 11,Av 54 53 0] [2,3,9,11,38,39,40,54]<|Co 54 (Rq [Aa 55 9,Aa 56 11,Aa 4 55,Aa 5 56] [4,5]<|.ret)<|Sk [2,3,38,39,40])<|Re [An 57 40 1,Aa 40 57] [2,3,38,39,40])<|Sq (Rq [Ac 58 3 0,Ah 59 58 1,Ab 60 59,Ag 61 60,Ae 62 0] [2,3,60,61,62]<|Bl 2<|Lo [2,3,60,61,62]<|Rq [Am 63 62 61] [2,3,60,61,62,63]<|Sq (Co 63 (Sk [2,3,60,61,62])<|Ex 2 [])<|Sq (Bl 3<|Rq [Aa 64 62,Ai 65 60 62 3,Ad 66 65 3,Ch 13 0 0 0,Aa 12 64,Ao 3 13 66] [2,3,12,13,60,61,62]<|Sq (Rq [Ac 67 13 0,Ab 68 67,Ac 69 2 1,Ab 70 69,Ag 71 70,Cm 72 68 71] [2,3,12,13,60,61,62,72]<|Co 72 (Rq [Aa 73 12,Aa 4 73,Ae 5 6] [4,5]<|.ret)<|Sk [2,3,12,13,60,61,62])<|Sq (Dr [74,75,76,77,78,79,80,81,82,83,84,85,86,87,88,89,90,91,92] [Ad 74 2 2,Ac 75 13 0,Ab 76 75,Ac 77 3 0,Ah 78 77 0,Ab 79 78,Ac 80 13 1,Ab 81 80,Ai 82 79 81 1,Ab 83 82,Ac 84 3 0,Ah 85 84 0,Ab 86 85,Ac 87 13 2,Ab 88 87,Ai 89 86 88 1,Ab 90 89,Cw 91 174 74 76 83 90,Bb 92 91] [2,3,12,60,61,62,92])<|Co 92 (Rq [Aa 93 12,Aa 4 93,Ae 5 13] [4,5]<|.ret)<|Sk [2,3,60,61,62])<|Re [An 94 62 1,Aa 62 94] [2,3,60,61,62])<|Rq [Bs 4 (-1),Ae 5 0] [4,5]<|.ret) [.tmp 4,.tmp 5]:=by decide +kernel
instance nT (t:AD) (h_1:AY):Ct prog (HZ t h_1) 108 [AP t,D2 h_1] (fun r=>.tp [eI r.1,eI r.2]):=Fi ec fun r h hw hR=>by
  unfold HZ at h
  have:HA 0 40 39 0 fun (i0:Int) (_:Unit)=>[(40,.tv (eI i0))]:=⟨⟩
  have:HA 2 62 61 0 fun (i2:Int) (_:Unit)=>[(62,.tv (eI i2))]:=⟨⟩
  exact au
theorem gC:CK f195 (Rq [Aj 3] [0,1]<|Rq [Aa 4 0,Ac 5 1 0,Ab 6 5,Ag 7 6,Cm 8 4 7,Aa 3 8] [3]<|.ret) [.tmp 3]:=by decide +kernel
instance oo (n:Int) (c0:AD):Ct prog (Jd n c0) 195 [eI n,.pt (AP c0).cells] (fun r=>.sh (eB r)):=Fi gC fun r h hw hR=>by
  unfold Jd at h
  exact au
theorem gD:CK f196 (Rq [Af 2 0,Aj 3] [1,2]<|Rq [Ac 4 2 0,Ab 5 4,Ac 6 1 1,Ab 7 6,Ag 8 7,Cm 9 5 8,Aa 3 9] [3]<|.ret) [.tmp 3]:=by decide +kernel
instance ot (x_0:CY) (c0:AD):Ct prog (Je x_0 c0) 196 [DZ x_0,.pt (AP c0).cells] (fun r=>.sh (eB r)):=Fi gD fun r h hw hR=>by
  unfold Je at h
  exact au
theorem e9:CK f131 (Rq [Af 2 0,Af 3 1,Aj 4] [2,3]<|Rq [Ac 5 3 0,Ab 6 5,Cr 7 195 2,Ay 8 81 6 7,Bb 9 8,Aa 10 9,Aw 11 3 1 10,Ax 12 11 10,⟨some 13,.clo 196 [.s 2],some (10,true)⟩,Dc 14 83 12 13 10,Cu 15 14 10,Ar 16 10 15,Aa 4 16] [4]<|.ret) [.tmp 4]:=by decide +kernel
instance np (t:AD) (g:Graph):Ct prog (FO t g) 131 [AP t,CA g] (fun r=>.sh (eB r)):=Fi e9 fun r h hw hR=>by
  unfold FO at h
  exact au
theorem mE:CK f62 (Rq [Af 3 0,Af 4 1,Af 5 2,Ae 6 0] [3,4,5]<|Sq (Rq [Ad 13 3 2,Ba 14 79 13,Aa 12 14,Ak 15 12 0,Ak 16 12 1,Aa 7 15,Aa 8 16] [3,4,5,8]<|Rq [Aa 17 8,Av 18 17 0] [3,4,5,8,18]<|Co 18 (Rq [Aa 19 8,Aa 6 19] [6]<|.ret)<|Sk [3,4,5])<|Sq (Rq [Ad 20 4 2,Ad 21 5 2,Dt 22 2 20 21,Ag 23 22,Ae 24 0] [3,4,5,22,23,24]<|Bl 0<|Lo [3,4,5,22,23,24]<|Rq [Am 25 24 23] [3,4,5,22,23,24,25]<|Sq (Co 25 (Sk [3,4,5,22,23,24])<|Ex 0 [3,4,5])<|Sq (Bl 1<|Rq [Ai 26 22 24 2,Ad 27 26 2,De 10 1 3,Ao 2 10 27] [3,4,5,10,22,23,24]<|Rq [Ad 28 10 2,Ba 29 80 28,Aa 11 29] [3,4,5,11,22,23,24]<|Rq [Aa 30 11,Av 31 30 0] [3,4,5,11,22,23,24,31]<|Co 31 (Rq [Aa 32 11,Aa 6 32] [6]<|.ret)<|Sk [3,4,5,22,23,24])<|Re [An 33 24 1,Aa 24 33] [3,4,5,22,23,24])<|Sq (Rq [Ad 34 3 2,Ad 35 4 2,Ay 36 131 34 35,Bb 37 36,Aa 38 37,Cf 39 3 2 38,Cf 40 5 2 38,Dh 41 131 39 40 38,Bp 42 41 38,Aq 43 38 42] [43]<|Co 43 (Rq [Ae 6 13] [6]<|.ret)<|Sk [])<|Rq [Ae 6 0] [6]<|.ret) [.tmp 6]:=by decide +kernel
instance rI (t:AD) (p:Graph) (g:Graph):Ct prog (GB t p g) 62 [AP t,CA p,CA g] (fun r=>.sh (eI r)):=Fi mE fun r h hw hR=>by
  unfold GB at h
  have:HA 0 24 23 0 fun (i0:Int) (_:Unit)=>[(24,.tv (eI i0))]:=⟨⟩
  exact au
theorem gr:CK f239 (Rq [Af 2 0,Bc 4 1,Ae 5 0] [1,2]<|Sq (Rq [Ad 9 2 2,Aa 10 1,Br 11 1 10,Ay 12 216 9 11,Aa 6 12] [1,2,6]<|Rq [Aa 13 6,Av 14 13 0] [1,2,6,14]<|Co 14 (Rq [Aa 15 6,Bc 4 1,Aa 5 15] [4,5]<|.ret)<|Sk [1,2])<|Rq [Bc 7 1] [1,2,7]<|Sq (Rq [Ac 16 2 0,Ab 17 16,Ag 18 17,Ae 19 0] [1,2,7,18,19]<|Bl 0<|Lo [1,2,7,18,19]<|Rq [Am 20 19 18] [1,2,7,18,19,20]<|Sq (Co 20 (Sk [1,2,7,18,19])<|Ex 0 [7])<|Sq (Bl 1<|Rq [Aa 21 19,Aa 8 21] [1,2,7,8,18,19]<|Rq [Ad 22 2 2,Aa 23 8,Aa 24 1,Bg 25 229 22 23 24] [1,2,7,8,18,19,25]<|Co 25 (Re [Be 26 7,Aa 27 8,Br 28 1 27,Bz 29 1 26 28,Be 7 29] [1,2,7,18,19])<|Sk [1,2,7,18,19])<|Re [An 30 19 1,Aa 19 30] [1,2,7,18,19])<|Rq [Aa 31 7,Be 4 31,Ae 5 0] [4,5]<|.ret) [.tmp 4,.tmp 5]:=by decide +kernel
instance pR (t:AD) (a:Int):Ct prog (Hh t a) 239 [AP t,eI a] (fun r=>.tp [lI r.1,eI r.2]):=Fi gr fun r h hw hR=>by
  unfold Hh at h
  have:HA 0 19 18 0 fun (i0:Int) (s0:List Int)=>[(7,.ow (lI s0)),(19,.tv (eI i0))]:=⟨⟩
  exact au
theorem gE:CK f197 (Rq [Af 1 0,Bc 2 1] [1]<|Rq [Bc 3 1] [1,3]<|Sq (Rq [Ac 10 1 0,Ab 11 10,Ag 12 11,Ae 13 0] [1,3,12,13]<|Bl 0<|Lo [1,3,12,13]<|Rq [Am 14 13 12] [1,3,12,13,14]<|Sq (Co 14 (Sk [1,3,12,13])<|Ex 0 [3])<|Sq (Bl 1<|Rq [Aa 15 13,Aa 4 15] [1,3,4,12,13]<|Rq [Ac 16 1 0,Ab 17 16,Ag 18 17,Dw 19 1 18,Bv 5 19] [1,3,4,5,12,13]<|Rq [Ad 21 1 2,Aa 22 4,Ay 23 239 21 22,Aa 20 23,Ak 24 20 0,Ak 25 20 1,Be 6 24,Aa 7 25] [1,3,5,6,12,13]<|Sq (Rq [Aa 26 6,Ag 27 26,Ae 28 0] [1,3,5,12,13,26,27,28]<|Bl 2<|Lo [1,3,5,12,13,26,27,28]<|Rq [Am 29 28 27] [1,3,5,12,13,26,27,28,29]<|Sq (Co 29 (Sk [1,3,5,12,13,26,27,28])<|Ex 2 [1,3,5,12,13])<|Sq (Bl 3<|Rq [Ai 30 26 28 1,Ab 31 30,Aa 9 31] [1,3,5,9,12,13,26,27,28]<|Re [Bk 32 5,Aa 33 9,Cg 34 32 33 1,Ds 34] [1,3,5,12,13,26,27,28])<|Re [An 35 28 1,Aa 28 35] [1,3,5,12,13,26,27,28])<|Re [Be 36 3,Dd 37 5,Br 38 1 37,Bz 39 1 36 38,Be 3 39] [1,3,12,13])<|Re [An 40 13 1,Aa 13 40] [1,3,12,13])<|Rq [Aa 41 3,Be 2 41] [2]<|.ret) [.tmp 2]:=by decide +kernel
instance ou (t:AD):Ct prog (GA t) 197 [AP t] (fun r=>.sh ((eL 1 (eL 1 eB)) r)):=Fi gE fun r h hw hR=>by
  unfold GA at h
  have:HA 0 13 12 0 fun (i0:Int) (s0:List (List Bool))=>[(3,.ow ((eL 1 (eL 1 eB)) s0)),(13,.tv (eI i0))]:=⟨⟩
  have:HA 2 28 27 0 fun (i2:Int) (s2:List Bool)=>[(5,.xo 1 (List.map eB s2)),(28,.tv (eI i2))]:=⟨⟩
  exact au
theorem fk:CK f175 (Rq [Af 4 0,Af 5 1,Af 6 2,Af 7 3,Ae 8 0] [4,5,6,7]<|Sq (Rq [Ac 16 7 0,Ab 17 16,Ag 18 17,Ac 19 5 0,Ab 20 19,Ag 21 20,Bi 22 18 21,Aa 23 22,Ap 24 7 1 23,Al 25 24 23,Bh 26 25 23,Ap 27 5 1 23,Al 28 27 23,Bh 29 28 23,Cj 30 26 29 23,Aq 31 23 30] [4,5,6,7,31]<|Co 31 (Rq [Ae 8 20] [8]<|.ret)<|Sk [4,5,6,7])<|Rq [Ad 32 4 2,Ba 33 197 32,Be 9 33] [5,6,7,9]<|Sq (Rq [Ac 34 7 0,Ab 35 34,Ag 36 35,Ae 37 0] [5,6,7,9,35,36,37]<|Bl 0<|Lo [5,6,7,9,35,36,37]<|Rq [Am 38 37 36] [5,6,7,9,35,36,37,38]<|Sq (Co 38 (Sk [5,6,7,9,35,36,37])<|Ex 0 [5,6,7])<|Sq (Bl 1<|Rq [Aa 39 37,Ai 40 35 37 1,Ab 41 40,Aa 10 39,Aa 11 41] [5,6,7,9,10,11,35,36,37]<|Sq (Rq [Aa 42 11,By 43 42 0,Aa 44 43,Au 45 11 44,Ap 46 6 0 44,Al 47 46 44,Bh 48 47 44,Bu 49 45 48 44,Aq 50 44 49] [5,6,7,9,10,11,35,36,37,50]<|Co 50 (Rq [Ae 8 6] [8]<|.ret)<|Sk [5,6,7,9,10,11,35,36,37])<|Sq (Dr [51,52,53,54,55,56,57,58,59,60,61,62,63,64,65,66] [Aa 51 9,Ac 52 5 0,Ab 53 52,Aa 54 10,Ai 55 53 54 1,Ab 56 55,Ai 57 51 56 1,Ab 58 57,Ac 59 6 0,Ab 60 59,Aa 61 11,Ai 62 60 61 1,Ab 63 62,Ai 64 58 63 1,Ab 65 64,Bb 66 65] [5,6,7,9,35,36,37,66])<|Co 66 (Rq [Ae 8 13] [8]<|.ret)<|Sk [5,6,7,9,35,36,37])<|Re [An 67 37 1,Aa 37 67] [5,6,7,9,35,36,37])<|Sq (Rq [Ac 68 7 1,Ab 69 68,Ag 70 69,Ae 71 0] [5,6,7,69,70,71]<|Bl 2<|Lo [5,6,7,69,70,71]<|Rq [Am 72 71 70] [5,6,7,69,70,71,72]<|Sq (Co 72 (Sk [5,6,7,69,70,71])<|Ex 2 [])<|Sq (Bl 3<|Rq [Aa 73 71,Ai 74 69 71 1,Ab 75 74,Aa 12 73,Aa 13 75] [5,6,7,12,13,69,70,71]<|Sq (Rq [Aa 76 13,By 77 76 0,Aa 78 77,Au 79 13 78,Ap 80 6 1 78,Al 81 80 78,Bh 82 81 78,Bu 83 79 82 78,Aq 84 78 83] [5,6,7,12,13,69,70,71,84]<|Co 84 (Rq [Ae 8 6] [8]<|.ret)<|Sk [5,6,7,12,13,69,70,71])<|Sq (Dr [14,15,85,86,87,88,89,90,91,92,93,94] [Ac 85 5 1,Ab 86 85,Aa 87 12,Ai 88 86 87 3,Ad 89 88 3,Ac 90 6 1,Ab 91 90,Aa 92 13,Ai 93 91 92 3,Ad 94 93 3,Ch 14 0 0 0,Ch 15 0 0 0,Ao 3 14 89,Ao 3 15 94] [5,6,7,14,15,69,70,71])<|Sq (Rq [Ac 95 14 0,Ab 96 95,Ac 97 15 0,Ab 98 97,Bi 99 96 98] [5,6,7,14,15,69,70,71,99]<|Co 99 (Rq [Ae 8 13] [8]<|.ret)<|Sk [5,6,7,14,15,69,70,71])<|Sq (Dr [100,101,102,103,104,105,106,107,108,109,110,111,112,113,114,115,116,117,118,119] [Ac 100 7 0,Ab 101 100,Ac 102 14 1,Ab 103 102,Ai 104 101 103 1,Ab 105 104,Ac 106 15 1,Ab 107 106,Bi 108 105 107,Aa 109 108,Ap 110 7 0 109,Al 111 110 109,Ap 112 14 2 109,Al 113 112 109,Bx 114 111 113 1 109,Al 115 114 109,Ap 116 15 2 109,Al 117 116 109,Cj 118 115 117 109,Aq 119 109 118] [5,6,7,69,70,71,119])<|Co 119 (Rq [Ae 8 11] [8]<|.ret)<|Sk [5,6,7,69,70,71])<|Re [An 120 71 1,Aa 71 120] [5,6,7,69,70,71])<|Rq [Ae 8 0] [8]<|.ret) [.tmp 8]:=by decide +kernel
instance oW (t:AD) (p:Graph) (g:Graph) (m:Morphism):Ct prog (G6 t p g m) 175 [AP t,CA p,CA g,BO m] (fun r=>.sh (eI r)):=Fi fk fun r h hw hR=>by
  unfold G6 at h
  have:HA 0 37 36 0 fun (i0:Int) (_:Unit)=>[(37,.tv (eI i0))]:=⟨⟩
  have:HA 2 71 70 0 fun (i2:Int) (_:Unit)=>[(71,.tv (eI i2))]:=⟨⟩
  exact au
theorem kc (l:List Int) (r:Bool) (h:Hz l=some r):AV prog 176 [lI l] (.sh (eB r)):=by
  unfold Hz at h
  rw [←Yq] at h
  split at h
  · rename_i hl
    cases h
    exact UF l hl
  · cases h
instance qR (l:List Int):Ct Go.Proofs.Tryz.prog (Hz l) 176 [lI l] (fun r=>.sh (eB r)):=⟨kc l⟩
theorem ed:CK f109 (Rq [Af 5 0,Af 6 1,Af 7 2,Af 8 3,Ae 10 0] [4,5,6,7,8]<|Sq (Rq [Ad 13 5 2,Ad 14 6 2,Ad 15 7 2,Bg 16 62 13 14 15,Aa 11 16] [4,5,6,7,8,11]<|Rq [Aa 17 11,Av 18 17 0] [4,5,6,7,8,11,18]<|Co 18 (Rq [Aa 19 11,Aa 10 19] [10]<|.ret)<|Sk [4,5,6,7,8])<|Sq (Rq [Ad 20 5 2,Ad 21 6 2,Ad 22 7 2,Ad 23 8 2,Cw 24 175 20 21 22 23,Aa 12 24] [4,8,12]<|Rq [Aa 25 12,Av 26 25 0] [4,8,12,26]<|Co 26 (Rq [Aa 27 12,Aa 10 27] [10]<|.ret)<|Sk [4,8])<|Sq (Rq [Aa 28 4,Aa 29 28,Aw 30 8 0 29,Ax 31 30 29,Bw 32 176 31 29,As 33 32 29,Ap 34 8 1 33,Al 35 34 33,Db 36 176 35 33,Do 37 33 36 29,Ar 38 29 37] [38]<|Co 38 (Rq [Ae 10 5] [10]<|.ret)<|Sk [])<|Rq [Ae 10 0] [10]<|.ret) [.tmp 10]:=by decide +kernel
instance nU (t:AD) (p:Graph) (g:Graph) (m:Morphism) (injective:Bool):Ct prog (F9 t p g m injective) 109 [AP t,CA p,CA g,BO m,eB injective] (fun r=>.sh (eI r)):=Fi ed fun r h hw hR=>by
  unfold F9 at h
  exact au
theorem fl:CK f177 (Rq [Af 3 0,Af 4 1,Af 5 2,Ae 6 0] [3,4,5]<|Sq (Rq [Ad 10 3 2,Ad 11 4 5,Ay 12 39 10 11,Aa 7 12] [3,5,7]<|Rq [Aa 13 7,Av 14 13 0] [3,5,7,14]<|Co 14 (Rq [Aa 15 7,Aa 6 15] [6]<|.ret)<|Sk [3,5])<|Rq [Ad 17 3 2,Ad 18 5 3,Ay 19 108 17 18,Aa 16 19,Ak 20 16 0,Ak 21 16 1,Aa 8 20,Aa 9 21] [9]<|Rq [Aa 22 9,Aa 6 22] [6]<|.ret) [.tmp 6]:=by decide +kernel
instance oX (t:AD) (p:Pattern) (h_2:AY):Ct prog (E1 t p h_2) 177 [AP t,BE p,D2 h_2] (fun r=>.sh (eI r)):=Fi fl fun r h hw hR=>by
  unfold E1 at h
  exact au
theorem gj:CK f232 (Rq [Af 2 0,Ae 4 0] [1,2]<|Sq (Rq [Ac 5 2 0,Ab 6 5,By 7 6 0] [1,2,7]<|Co 7 (Rq [Ac 8 2 1,Ab 9 8,Aa 4 9] [4]<|.ret)<|Sk [1,2])<|Sq (Dr [4,10,11,12,13,14,15,16,17] [Aa 10 1,Ac 11 2 0,Ab 12 11,Ai 13 10 12 1,Ab 14 13,Ac 15 2 1,Ab 16 15,Bo 17 14 16,Aa 4 17] [4])<|.ret) [.tmp 4]:=by decide +kernel
instance pM (x_0:Term) (A6:List Int):Ct prog (E2 x_0 A6) 232 [Ma x_0,lI A6] (fun r=>.sh (eI r)):=Fi gj fun r h hw hR=>by
  unfold E2 at h
  exact au
theorem ko (a b c:Int) (r:Int × Int) (h:II a b c=some r):AV prog 284 [Ja a,Ja b,Ja c] (.ext [Ja (r.1),Ja (r.2)]):=by
  unfold II at h
  split at h
  · rename_i hc
    cases h
    obtain ⟨⟨a0,a1⟩,⟨b0,b1⟩,c0,c1⟩:=hc
    intro _
    refine ⟨⟨rfl,?_⟩,fun w vs hv=>?_⟩
    · simp only [Ja,TV.WFs,TV.WF,IntKind.min,IntKind.max,IntKind.signed,IntKind.bits,and_true]
      simp only [Bool.false_eq_true,if_false]
      refine ⟨⟨by omega,?_⟩,by omega,?_⟩
      · have:(2:Int) ^ 64=18446744073709551616:=by decide
        omega
      · have:(2:Int) ^ 64=18446744073709551616:=by decide
        omega
    · obtain ⟨x,rfl⟩:=Int.eq_ofNat_of_zero_le a0
      obtain ⟨y,rfl⟩:=Int.eq_ofNat_of_zero_le b0
      obtain ⟨z,rfl⟩:=Int.eq_ofNat_of_zero_le c0
      have:=Go.Proofs.Any7.bits_Add64 Go.Proofs.Tryz.lays7n25 x y z (by omega) w
      obtain ⟨l⟩:=vs
      simp only [Ja,AN,A1] at hv
      obtain ⟨v1,r1,rfl,rfl,v2,r2,rfl,rfl,v3,r3,rfl,rfl,rfl⟩:=hv
      refine ⟨_,this,?_⟩
      simp only [Ja,AN,A1]
      exact ⟨_,_,rfl,by simp,_,_,rfl,by simp,rfl⟩
  · cases h
instance qW (a b c:Int):Ct Go.Proofs.Tryz.prog (II a b c) 284 [Ja a,Ja b,Ja c] (fun r=>.ext [Ja (r.1),Ja (r.2)]):=⟨ko a b c⟩
theorem iC:CK f260 (Rq [Ae 4 0,Fx 5 0] [0,1]<|Rq [Aa 9 0,⟨some 10,.cvt .u64 (.s 9),none⟩,Aa 11 1,⟨some 12,.cvt .u64 (.s 11),none⟩,⟨some 13,.callf 284 [.s 10,.s 12,.c (.int .u64 0)],none⟩,Aa 8 13,Ak 14 8 0,Ak 15 8 1,Aa 6 14,Aa 7 15] [0,1,6,7]<|Rq [Aa 16 0,⟨some 17,.bin (.w) .shr (.s 16) (.c (.int .u64 63)),none⟩,Aa 18 1,⟨some 19,.bin (.w) .shr (.s 18) (.c (.int .u64 63)),none⟩,Bo 20 17 19,Aa 21 7,⟨some 22,.cvt .i64 (.s 21),none⟩,Bo 23 20 22,Aa 24 6,Aa 4 23,Aa 5 24] [4,5]<|.ret) [.tmp 4,.tmp 5]:=by decide +kernel
instance pv (a:Int) (b:Int):Ct prog (G9 a b) 260 [eI a,eI b] (fun r=>.tp [eI r.1,Ja r.2]):=Fi iC fun r h hw hR=>by
  unfold G9 at h
  exact au
theorem iB:CK f259 (Rq [Af 2 0,Ae 3 0,Fx 4 0,Aj 5] [1,2]<|Sq (Bl 0<|Rq [Ac 11 2 0,Ab 12 11,⟨some 13,.bin (.i) .eql (.s 12) (.c (.int .i64 (-1))),none⟩,Aa 10 13] [1,2,10]<|Co 10 (Rq [Ac 15 2 1,Ab 16 15,⟨some 17,.call 260 [.c (.int .i64 0),.s 16],none⟩,Aa 14 17,Ak 18 14 0,Ak 19 14 1,Aa 6 18,Aa 7 19] [6,7]<|Rq [Aa 20 6,Aa 21 7,Aa 3 20,Aa 4 21,Bt 5] [3,4,5]<|.ret)<|Rq [Ac 23 2 0,Ab 24 23,By 25 24 0,Aa 26 25,Ap 27 2 0 26,Al 28 27 26,Al 29 1 26,Bh 30 29 26,Bu 31 28 30 26,Aq 32 26 31,Aa 22 32] [1,2,22]<|Co 22 (Rq [Ae 3 0,Fx 4 0,Aj 5] [3,4,5]<|.ret)<|Sk [1,2])<|Sq (Dr [8,9,33,34,35,36,37,38,39,40,41,42,43] [Ab 34 1,Ac 35 2 0,Ab 36 35,Ai 37 34 36 1,Ab 38 37,Ac 39 2 1,Ab 40 39,Ay 41 260 38 40,Aa 33 41,Ak 42 33 0,Ak 43 33 1,Aa 8 42,Aa 9 43] [8,9])<|Rq [Aa 44 8,Aa 45 9,Aa 3 44,Aa 4 45,Bt 5] [3,4,5]<|.ret) [.tmp 3,.tmp 4,.tmp 5]:=by decide +kernel
instance pu (t:Term) (c0:List Int):Ct prog (FX t c0) 259 [Ma t,.pt [lI c0]] (fun r=>.tp [eI r.1,Ja r.2.1,eB r.2.2]):=Fi iB fun r h hw hR=>by
  unfold FX at h
  exact au
theorem iD:CK f261 (Rq [Ae 2 0] [0]<|Rq [Ae 3 0] [0,3]<|Sq (Rq [Aa 6 0,Ag 7 6,Ae 8 0] [3,6,7,8]<|Bl 0<|Lo [3,6,7,8]<|Rq [Am 9 8 7] [3,6,7,8,9]<|Sq (Co 9 (Sk [3,6,7,8])<|Ex 0 [3])<|Sq (Bl 1<|Rq [Ai 10 6 8 1,Ab 11 10,Aa 5 11] [3,5,6,7,8]<|Rq [Aa 12 5,Aa 13 3,Bi 14 12 13] [3,5,6,7,8,14]<|Co 14 (Rq [Aa 15 5,Aa 2 15] [2]<|.ret)<|Sk [3,6,7,8])<|Re [An 16 8 1,Aa 8 16] [3,6,7,8])<|Rq [Aa 17 3,Aa 2 17] [2]<|.ret) [.tmp 2]:=by decide +kernel
instance pw (vals:List Int):Ct prog (LF vals) 261 [lI vals] (fun r=>.sh (eI r)):=Fi iD fun r h hw hR=>by
  unfold LF at h
  have:HA 0 8 7 0 fun (i0:Int) (_:Unit)=>[(8,.tv (eI i0))]:=⟨⟩
  exact au
theorem iM:CK f285 (Rq [Aj 2] [0]<|Rq [Aa 3 0,Aa 4 0,Bi 5 3 4,Aa 2 5] [2]<|.ret) [.tmp 2]:=by decide +kernel
instance p7 (x_0:Int):Ct prog (JI x_0) 285 [eI x_0] (fun r=>.sh (eB r)):=Fi iM fun r h hw hR=>by
  unfold JI at h
  exact au
theorem iE:CK f262 (Rq [Ae 4 0] [0,1]<|Rq [Aa 7 0,Ba 8 285 7,Aa 5 8] [0,1,5]<|Rq [Aa 9 1,Ba 10 285 9,Aa 6 10] [0,1,5,6]<|Sq (Rq [Aa 11 5] [0,1,6,11]<|Co 11 (Sq (Rq [Aa 12 6] [12]<|Co 12 (Rq [Ae 4 0] [4]<|.ret)<|Sk [])<|Rq [Bs 4 (-1)] [4]<|.ret)<|Sk [0,1,6])<|Sq (Rq [Aa 13 6] [0,1,13]<|Co 13 (Rq [Ae 4 1] [4]<|.ret)<|Sk [0,1])<|Sq (Rq [Aa 14 0,Aa 15 1,Am 16 14 15] [0,1,16]<|Co 16 (Rq [Bs 4 (-1)] [4]<|.ret)<|Sk [0,1])<|Sq (Rq [Aa 17 0,Aa 18 1,Eg 19 17 18] [19]<|Co 19 (Rq [Ae 4 1] [4]<|.ret)<|Sk [])<|Rq [Ae 4 0] [4]<|.ret) [.tmp 4]:=by decide +kernel
instance px (x_0:Int) (y:Int):Ct prog (IE x_0 y) 262 [eI x_0,eI y] (fun r=>.sh (eI r)):=Fi iE fun r h hw hR=>by
  unfold IE at h
  exact au
theorem iN:CK f286 (Rq [Aj 2] [0]<|Rq [Aa 3 0,Aa 4 0,Bi 5 3 4,Aa 2 5] [2]<|.ret) [.tmp 2]:=by decide +kernel
instance p8 (x_0:Int):Ct prog (I3 x_0) 286 [Ja x_0] (fun r=>.sh (eB r)):=Fi iN fun r h hw hR=>by
  unfold I3 at h
  exact au
theorem iF:CK f263 (Rq [Ae 4 0] [0,1]<|Rq [Aa 7 0,Ba 8 286 7,Aa 5 8] [0,1,5]<|Rq [Aa 9 1,Ba 10 286 9,Aa 6 10] [0,1,5,6]<|Sq (Rq [Aa 11 5] [0,1,6,11]<|Co 11 (Sq (Rq [Aa 12 6] [12]<|Co 12 (Rq [Ae 4 0] [4]<|.ret)<|Sk [])<|Rq [Bs 4 (-1)] [4]<|.ret)<|Sk [0,1,6])<|Sq (Rq [Aa 13 6] [0,1,13]<|Co 13 (Rq [Ae 4 1] [4]<|.ret)<|Sk [0,1])<|Sq (Rq [Aa 14 0,Aa 15 1,Am 16 14 15] [0,1,16]<|Co 16 (Rq [Bs 4 (-1)] [4]<|.ret)<|Sk [0,1])<|Sq (Rq [Aa 17 0,Aa 18 1,Eg 19 17 18] [19]<|Co 19 (Rq [Ae 4 1] [4]<|.ret)<|Sk [])<|Rq [Ae 4 0] [4]<|.ret) [.tmp 4]:=by decide +kernel
instance py (x_0:Int) (y:Int):Ct prog (IF x_0 y) 263 [Ja x_0,Ja y] (fun r=>.sh (eI r)):=Fi iF fun r h hw hR=>by
  unfold IF at h
  exact au
theorem gk:CK f233 (Rq [Af 2 0,Af 3 1,Aj 4] [2,3]<|Rq [Cr 13 259 3,Aa 5 13] [2,5]<|Rq [Aa 15 5,Ac 16 2 1,Ad 17 16 2,Cq 18 15 17,Aa 14 18,Ak 19 14 0,Ak 20 14 1,Ak 21 14 2,Aa 6 19,Aa 7 20,Aa 8 21] [2,5,6,7,8]<|Rq [Aa 23 5,Ac 24 2 3,Ad 25 24 2,Cq 26 23 25,Aa 22 26,Ak 27 22 0,Ak 28 22 1,Ak 29 22 2,Aa 9 27,Aa 10 28,Aa 11 29] [2,6,7,8,9,10,11]<|Sq (Rq [Aa 30 8,Bb 31 30,Aa 32 31,Au 33 11 32,Bp 34 33 32,Aq 35 32 34] [2,6,7,9,10,35]<|Co 35 (Rq [Aj 4] [4]<|.ret)<|Sk [2,6,7,9,10])<|Rq [Aa 36 6,Aa 37 9,Ay 38 262 36 37,Aa 39 7,Aa 40 10,Ay 41 263 39 40,Dt 42 1 38 41,Ba 43 261 42,Aa 12 43] [2,12]<|Rq [Ac 44 2 0,Ab 45 44,Az 46 45 1,Aa 47 46,As 48 12 47,Ci 49 48 0 47,Ar 50 47 49,Aa 51 50,Ap 52 2 0 51,Al 53 52 51,Fy 54 53 2 51,Au 55 54 51,As 56 12 55,Cs 57 56 0 55,Ca 58 55 57 51,Aq 59 51 58,Aa 4 59] [4]<|.ret) [.tmp 4]:=by decide +kernel
instance pN (x_0:Test) (A6:List Int):Ct prog (GO x_0 A6) 233 [Kh x_0,lI A6] (fun r=>.sh (eB r)):=Fi gk fun r h hw hR=>by
  unfold GO at h
  exact au
theorem fm:CK f178 (Rq [Af 3 0,Af 4 1,Af 5 2,Bc 6 1,Ae 7 0] [3,4,5]<|Sq (Dr [8,9,16,17,18,19,20,21] [Ac 16 3 3,Ab 17 16,⟨some 18,.mkx 1 [.int .i64 0] (.s 17),none⟩,Ac 19 3 3,Ab 20 19,Dw 21 1 20,Bv 8 18,Bv 9 21] [3,4,5,8,9])<|Sq (Rq [Ac 22 3 2,Ab 23 22,Ag 24 23,Ae 25 0] [3,4,5,8,9,23,24,25]<|Bl 0<|Lo [3,4,5,8,9,23,24,25]<|Rq [Am 26 25 24] [3,4,5,8,9,23,24,25,26]<|Sq (Co 26 (Sk [3,4,5,8,9,23,24,25])<|Ex 0 [3,8])<|Sq (Bl 1<|Rq [Ai 27 23 25 4,Ad 28 27 4,Dq 11 0 0 0 0,Ao 4 11 28] [3,4,5,8,9,11,23,24,25]<|Sq (Dr [12,29,30,31,32,33,34,35,36,37,38,39,40,41,42] [Ac 29 4 2,Ab 30 29,Ac 31 5 0,Ab 32 31,Ac 33 11 0,Ab 34 33,Ai 35 32 34 1,Ab 36 35,Ai 37 30 36 1,Ab 38 37,Ac 39 11 1,Ab 40 39,Ai 41 38 40 1,Ab 42 41,Aa 12 42] [3,4,5,8,9,11,12,23,24,25])<|Sq (Rq [Ac 43 11 2,Ah 44 43 0,Ab 45 44,Aa 13 45] [3,4,5,8,9,11,12,13,23,24,25]<|Rq [Aa 46 13,Bj 47 46 0,Aa 48 47,Fa 49 9 48,As 50 13 48,Fb 51 49 50 1 48,Fc 52 51 48,Cu 53 52 48,Ar 54 48 53] [3,4,5,8,9,11,12,13,23,24,25,54]<|Co 54 (Re [Bk 55 8,Aa 56 13,Bk 57 9,Aa 58 13,Aa 59 12,Ac 60 11 2,Ah 61 60 1,Ab 62 61,Dn 63 59 62,Cg 64 55 56 1,Dj 64 63,Cg 65 57 58 1,Ds 65] [3,4,5,8,9,11,12,23,24,25])<|Sk [3,4,5,8,9,11,12,23,24,25])<|Rq [Ac 66 11 2,Ad 67 66 2,Bk 68 8,Df 69 232 67 68,Aa 70 12,Bi 71 69 70] [3,4,5,8,9,23,24,25,71]<|Co 71 (Rq [Bc 6 1,Ae 7 11] [6,7]<|.ret)<|Sk [3,4,5,8,9,23,24,25])<|Re [An 72 25 1,Aa 25 72] [3,4,5,8,9,23,24,25])<|Sq (Rq [Ac 73 3 4,Ab 74 73,Ag 75 74,Ae 76 0] [8,74,75,76]<|Bl 2<|Lo [8,74,75,76]<|Rq [Am 77 76 75] [8,74,75,76,77]<|Sq (Co 77 (Sk [8,74,75,76])<|Ex 2 [8])<|Sq (Bl 3<|Rq [Ai 78 74 76 5,Ad 79 78 5,Ey 15 0 0 0 0 0,Ao 5 15 79] [8,15,74,75,76]<|Rq [Ad 80 15 5,Bk 81 8,Df 82 233 80 81,Bb 83 82] [8,74,75,76,83]<|Co 83 (Rq [Bc 6 1,Ae 7 16] [6,7]<|.ret)<|Sk [8,74,75,76])<|Re [An 84 76 1,Aa 76 84] [8,74,75,76])<|Rq [Dd 85 8,Be 6 85,Ae 7 0] [6,7]<|.ret) [.tmp 6,.tmp 7]:=by decide +kernel
instance oY (p:Pattern) (h_1:AY) (m:Morphism):Ct prog (IB p h_1 m) 178 [BE p,D2 h_1,BO m] (fun r=>.tp [lI r.1,eI r.2]):=Fi fm fun r h hw hR=>by
  unfold IB at h
  have:HA 0 25 24 0 fun (i0:Int) (s0:List Int × List Bool)=>[(8,.xo 1 (List.map eI s0.1)),(9,.xo 1 (List.map eB s0.2)),(25,.tv (eI i0))]:=⟨⟩
  have:HA 2 76 75 0 fun (i2:Int) (_:Unit)=>[(76,.tv (eI i2))]:=⟨⟩
  exact au
theorem ee:CK f110 (Rq [Af 4 0,Af 5 1,Af 6 2,Af 7 3,Bc 8 1,Ae 9 0] [4,5,6,7]<|Sq (Rq [Ad 12 4 2,Ad 13 5 5,Ad 14 6 3,Bg 15 177 12 13 14,Aa 10 15] [4,5,6,7,10]<|Rq [Aa 16 10,Av 17 16 0] [4,5,6,7,10,17]<|Co 17 (Rq [Aa 18 10,Bc 8 1,Aa 9 18] [8,9]<|.ret)<|Sk [4,5,6,7])<|Sq (Rq [Ad 19 4 2,Ac 20 5 0,Ad 21 20 2,Ac 22 6 0,Ad 23 22 2,Ad 24 7 2,Gm 25 109 19 21 23 24,Aa 11 25] [5,6,7,11]<|Rq [Aa 26 11,Av 27 26 0] [5,6,7,11,27]<|Co 27 (Rq [Aa 28 11,Bc 8 1,Aa 9 28] [8,9]<|.ret)<|Sk [5,6,7])<|Rq [Ad 29 5 5,Ad 30 6 3,Ad 31 7 2,Bg 32 178 29 30 31,Ak 33 32 0,Ak 34 32 1,Be 8 33,Aa 9 34] [8,9]<|.ret) [.tmp 8,.tmp 9]:=by decide +kernel
instance nV (t:AD) (p:Pattern) (h_2:AY) (m:Morphism):Ct prog (E0 t p h_2 m) 110 [AP t,BE p,D2 h_2,BO m] (fun r=>.tp [lI r.1,eI r.2]):=Fi ee fun r h hw hR=>by
  unfold E0 at h
  exact au
theorem l4:CK f47 (Rq [Af 6 0,Af 7 1,Af 8 2,Af 9 3,Af 10 4,Ae 12 0] [5,6,7,8,9,10]<|Sq (Rq [Ad 19 6 2,Ad 20 7 5,Ad 21 8 9,Bg 22 15 19 20 21,Aa 13 22] [5,6,7,9,10,13]<|Rq [Aa 23 13,Av 24 23 0] [5,6,7,9,10,13,24]<|Co 24 (Rq [Aa 25 13,Aa 12 25] [12]<|.ret)<|Sk [5,6,7,9,10])<|Sq (Rq [Ad 27 6 2,Ad 28 9 3,Ay 29 108 27 28,Aa 26 29,Ak 30 26 0,Ak 31 26 1,Aa 14 30,Aa 15 31] [5,6,7,9,10,15]<|Rq [Aa 32 15,Av 33 32 0] [5,6,7,9,10,15,33]<|Co 33 (Rq [Aa 34 15,Aa 12 34] [12]<|.ret)<|Sk [5,6,7,9,10])<|Sq (Rq [Ad 35 6 2,Ac 36 7 0,Ad 37 36 2,Ac 38 9 0,Ad 39 38 2,Ac 40 10 0,Ad 41 40 2,Aa 42 5,Ck 43 109 35 37 39 41 42,Aa 16 43] [6,7,9,10,16]<|Rq [Aa 44 16,Av 45 44 0] [6,7,9,10,16,45]<|Co 45 (Rq [Aa 46 16,Aa 12 46] [12]<|.ret)<|Sk [6,7,9,10])<|Rq [Ad 48 6 2,Ad 49 7 5,Ad 50 9 3,Ac 51 10 0,Ad 52 51 2,Cw 53 110 48 49 50 52,Aa 47 53,Ak 54 47 0,Ak 55 47 1,Be 17 54,Aa 18 55] [10,17,18]<|Sq (Rq [Aa 56 18,Av 57 56 0] [10,17,18,57]<|Co 57 (Rq [Aa 58 18,Aa 12 58] [12]<|.ret)<|Sk [10,17])<|Sq (Rq [Aa 59 17,Ac 60 10 2,Ab 61 60,Ay 62 73 59 61,Bb 63 62] [63]<|Co 63 (Rq [Ae 12 11] [12]<|.ret)<|Sk [])<|Rq [Ae 12 0] [12]<|.ret) [.tmp 12]:=by decide +kernel
instance q8 (t:AD) (p:Pattern) (c:AB) (h_3:AY) (m:AH) (injective:Bool):Ct prog (EA t p c h_3 m injective) 47 [AP t,BE p,AJ c,D2 h_3,BB m,eB injective] (fun r=>.sh (eI r)):=Fi l4 fun r h hw hR=>by
  unfold EA at h
  exact au
theorem fA:CK f132 (Rq [Aj 3] [0,1]<|Rq [Aa 4 0,Ee 5 4 (-1),Aa 6 5,Au 7 0 6,Al 8 1 6,Bu 9 7 8 6,Aq 10 6 9,Aa 3 10] [3]<|.ret) [.tmp 3]:=by decide +kernel
instance nq (k:Int) (c0:Int):Ct prog (Kn k c0) 132 [eI k,.pt [eI c0]] (fun r=>.sh (eB r)):=Fi fA fun r h hw hR=>by
  unfold Kn at h
  exact au
theorem mF:CK f63 (Rq [Af 3 1,Ae 4 0] [0,3]<|Sq (Rq [Aa 5 0,Cr 6 132 3,Ay 7 81 5 6] [7]<|Co 7 (Rq [Ae 4 6] [4]<|.ret)<|Sk [])<|Rq [Ae 4 0] [4]<|.ret) [.tmp 4]:=by decide +kernel
instance rJ (l:List Int) (n:Int):Ct prog (GZ l n) 63 [lI l,eI n] (fun r=>.sh (eI r)):=Fi mF fun r h hw hR=>by
  unfold GZ at h
  exact au
theorem gu:CK f240 (Rq [Ae 4 0] [0,1]<|Sq (Rq [Aa 5 0,⟨some 6,.isn (.s 5),none⟩] [0,1,6]<|Co 6 (Rq [Bs 4 (-1)] [4]<|.ret)<|Sk [0,1])<|Rq [Aa 7 0,Aa 8 1,Ai 9 7 8 1,Ab 10 9,Aa 4 10] [4]<|.ret) [.tmp 4]:=by decide +kernel
instance pS (l:List Int) (i_1:Int):Ct prog (Hy l i_1) 240 [lI l,eI i_1] (fun r=>.sh (eI r)):=Fi gu fun r h hw hR=>by
  unfold Hy at h
  exact au
theorem gx:CK f243 (Rq [Aj 6] [0,1,2]<|Rq [Aa 9 0,Ah 10 9 0,Ah 11 10 0,Ah 12 11 1,Ab 13 12,Aa 14 1,Ai 15 13 14 3,Ad 16 15 3,Ch 7 0 0 0,Ao 3 7 16] [0,1,2,7]<|Sq (Rq [Aa 17 0,Ah 18 17 0,Ah 19 18 5,Ah 20 19 1,Ab 21 20,Aa 22 1,Ay 23 240 21 22,Aa 8 23] [0,2,7,8]<|Rq [Aa 24 8,Bj 25 24 0,Aa 26 25,As 27 8 26,As 28 2 26,Eh 29 27 28 26,Ar 30 26 29] [0,2,7,30]<|Co 30 (Rq [Aj 6] [6]<|.ret)<|Sk [0,2,7])<|Sq (Dr [6,31,32,33,34,35,36,37,38,39,40,41,42,43,44,45,46,47,48,49,50,51,52,53,54,55,56,57,58] [Aa 31 0,Ah 32 31 0,Ah 33 32 2,Ah 34 33 1,Ab 35 34,Aa 36 2,Ai 37 35 36 3,Ad 38 37 3,Ac 39 7 0,Ab 40 39,Aa 41 0,Ah 42 41 0,Ah 43 42 9,Ab 44 43,Ac 45 7 1,Ab 46 45,Ai 47 44 46 1,Ab 48 47,Aa 49 0,Ah 50 49 0,Ah 51 50 9,Ab 52 51,Ac 53 7 2,Ab 54 53,Ai 55 52 54 1,Ab 56 55,⟨some 57,.bld [.int .i64 0,.int .i64 0,.int .i64 0] [(0,1,.s 40),(1,1,.s 48),(2,1,.s 56)],none⟩,⟨some 58,.bin (.a [0,0,0]) .eql (.s 38) (.s 57),none⟩,Aa 6 58] [6])<|.ret) [.tmp 6]:=by decide +kernel
instance pV (f:AK) (i_1:Int) (k:Int):Ct prog (EC f i_1 k) 243 [.pt (Nj f).cells,eI i_1,eI k] (fun r=>.sh (eB r)):=Fi gx fun r h hw hR=>by
  unfold EC at h
  exact au
theorem gw:CK f242 (Rq [Aj 2] [0]<|Rq [Aa 8 0,Ah 9 8 0,Ah 10 9 9,Ab 11 10,Ag 12 11,Cy 13 12 1,Aa 3 13] [0,3]<|Sq (Rq [Aa 14 0,Ah 15 14 0,Ah 16 15 0,Ah 17 16 1,Ab 18 17,Ag 19 18,Ae 20 0] [0,3,18,19,20]<|Bl 0<|Lo [0,3,18,19,20]<|Rq [Am 21 20 19] [0,3,18,19,20,21]<|Sq (Co 21 (Sk [0,3,18,19,20])<|Ex 0 [])<|Sq (Bl 1<|Rq [Aa 22 20,Ai 23 18 20 3,Ad 24 23 3,Ch 5 0 0 0,Aa 4 22,Ao 3 5 24] [0,3,4,5,18,19,20]<|Sq (Rq [Ac 25 5 1,Ab 26 25,Ac 27 5 2,Ab 28 27,Fw 29 26 28,Aa 30 3,Bi 31 29 30] [0,3,4,18,19,20,31]<|Co 31 (Ex 1 [0,3,18,19,20])<|Sk [0,3,4,18,19,20])<|Rq [Aj 6] [0,3,4,6,18,19,20]<|Sq (Rq [Aa 32 0,Ah 33 32 0,Ah 34 33 2,Ah 35 34 1,Ab 36 35,Ag 37 36,Ae 38 0] [0,3,4,6,18,19,20,37,38]<|Bl 2<|Lo [0,3,4,6,18,19,20,37,38]<|Rq [Am 39 38 37] [0,3,4,6,18,19,20,37,38,39]<|Sq (Co 39 (Sk [0,3,4,6,18,19,20,37,38])<|Ex 2 [0,3,6,18,19,20])<|Sq (Bl 3<|Rq [Aa 40 38,Aa 7 40] [0,3,4,6,7,18,19,20,37,38]<|Rq [Aa 41 0,Aa 42 4,Aa 43 7,Bg 44 243 41 42 43] [0,3,4,6,18,19,20,37,38,44]<|Co 44 (Rq [Bt 6] [0,3,6,18,19,20]<|Ex 2 [0,3,6,18,19,20])<|Sk [0,3,4,6,18,19,20,37,38])<|Re [An 45 38 1,Aa 38 45] [0,3,4,6,18,19,20,37,38])<|Rq [Aa 46 6,Bb 47 46] [0,3,18,19,20,47]<|Co 47 (Rq [Aj 2] [2]<|.ret)<|Sk [0,3,18,19,20])<|Re [An 48 20 1,Aa 20 48] [0,3,18,19,20])<|Rq [Bt 2] [2]<|.ret) [.tmp 2]:=by decide +kernel
instance pU (f:AK):Ct prog (CJ f) 242 [.pt (Nj f).cells] (fun r=>.sh (eB r)):=Fi gw fun r h hw hR=>by
  unfold CJ at h
  have:HA 0 20 19 0 fun (i0:Int) (_:Unit)=>[(20,.tv (eI i0))]:=⟨⟩
  have:HA 2 38 37 0 fun (i2:Int) (s2:Bool)=>[(6,.tv (eB s2)),(38,.tv (eI i2))]:=⟨⟩
  exact au
noncomputable def SY:PC:=Bl 0<|Sq (Dr [28,29,30,31,32,33,34,35,36,37,38] [Ac 29 0 0,Ah 30 29 0,Ah 31 30 11,Ab 32 31,Ag 33 32,Ac 34 0 0,Ah 35 34 0,Ah 36 35 8,Ab 37 36,Cl 38 33 37,Aa 28 38] [0,28])<|Co 28 (Sk [0])<|Sq (Dr [39,40,41,42,43,44,45,46,47,48,49,50,51] [Ac 40 0 0,Ah 41 40 0,Ah 42 41 9,Dz 43 42,Dv 44 43,Ac 45 0 0,Ah 46 45 0,Ah 47 46 0,Ah 48 47 0,Ab 49 48,Ag 50 49,Am 51 44 50,Aa 39 51] [0,39])<|Co 39 (Rq [Ac 52 0 0,Ah 53 52 0,Ah 54 53 9,Dz 55 54,Dv 56 55,Aa 2 56] [0,2]<|Rq [Ac 57 0 0,Ah 58 57 0,Ah 59 58 2,Ah 60 59 0,Ab 61 60,Ag 62 61,Ae 63 0] [0,2,61,62,63]<|Bl 1<|Lo [0,2,61,62,63]<|Rq [Am 64 63 62] [0,2,61,62,63,64]<|Sq (Co 64 (Sk [0,2,61,62,63])<|Ex 1 [0])<|Sq (Bl 2<|Rq [Aa 65 63,Ai 66 61 63 1,Ab 67 66,Aa 3 65,Aa 4 67] [0,2,3,4,61,62,63]<|Sq (Rq [Ac 68 0 0,Ah 69 68 0,Ah 70 69 5,Ah 71 70 0,Ab 72 71,Aa 73 2,Ay 74 240 72 73,Aa 5 74] [0,2,3,4,5,61,62,63]<|Sq (Dr [75,76,77,78,79,80,81,82,83,84,85,86,87,88,89,90,91,92,93,94,95,96,97,98,99,100,101,102,103,104,105,106,107,108,109,110,111,112,113,114,115] [Aa 75 5,Bj 76 75 0,Aa 77 76,As 78 5 77,As 79 3 77,Eh 80 78 79 77,Ar 81 77 80,Aa 82 81,Ap 83 0 0 82,Bq 84 83 0 82,Bq 85 84 4 82,Al 86 85 82,Ap 87 0 0 82,Bq 88 87 0 82,Bq 89 88 0 82,Bq 90 89 0 82,Al 91 90 82,Au 92 2 82,Bx 93 91 92 1 82,Al 94 93 82,Bx 95 86 94 1 82,Al 96 95 82,Au 97 4 82,Bx 98 96 97 1 82,Al 99 98 82,Bp 100 99 82,Aq 101 82 100,Aa 102 101,Ap 103 0 0 102,Bq 104 103 0 102,Bq 105 104 7 102,Al 106 105 102,Au 107 106 102,Aw 108 0 0 107,Bm 109 108 0 107,Bm 110 109 9 107,⟨some 111,.lac (.s 110),some (107,true)⟩,As 112 3 107,⟨some 113,.calll 241 [.s 111,.s 112],some (107,true)⟩,Ca 114 107 113 102,Aq 115 102 114] [0,2,3,61,62,63,115])<|Co 115 (Ex 2 [0,2,61,62,63])<|Sk [0,2,3,61,62,63])<|Rq [Ac 116 0 0,Ac 117 0 0,Ah 118 117 0,Ah 119 118 9,Fd 120 119,Aa 121 3,Br 122 1 121,Dm 123 1 120 122,Ah 124 116 0,Ah 125 124 9,Fe 125 123] [0,2,61,62,63]<|Sq (Rq [Ac 126 0 0,Fz 127 242 126] [0,2,61,62,63,127]<|Co 127 (Re [Ac 128 0 0,Ga 129 198 128 0] [0,2,61,62,63])<|Sk [0,2,61,62,63])<|Re [Ac 130 0 0,Ac 131 0 0,Ah 132 131 0,Ah 133 132 9,Fd 134 133,Aa 135 2,⟨some 136,.cut 1 134 (.s 135),none⟩,Ah 137 130 0,Ah 138 137 9,Fe 138 136] [0,2,61,62,63])<|Re [An 139 63 1,Aa 63 139] [0,2,61,62,63])<|Sq (Dr [140,141,142,143,144,145,146,147,148,149,150,151,152] [Ac 141 0 0,Ah 142 141 0,Ah 143 142 10,Dz 144 143,Dv 145 144,Ac 146 0 0,Ah 147 146 0,Ah 148 147 0,Ah 149 148 1,Ab 150 149,Ag 151 150,Am 152 145 151,Aa 140 152] [0,140])<|Co 140 (Rq [Ac 153 0 0,Ah 154 153 0,Ah 155 154 10,Dz 156 155,Dv 157 156,Aa 6 157] [0,6]<|Rq [Ac 158 0 0,Ah 159 158 0,Ah 160 159 2,Ah 161 160 1,Ab 162 161,Ag 163 162,Ae 164 0] [0,6,163,164]<|Bl 3<|Lo [0,6,163,164]<|Rq [Am 165 164 163] [0,6,163,164,165]<|Sq (Co 165 (Sk [0,6,163,164])<|Ex 3 [0])<|Sq (Bl 4<|Rq [Aa 166 164,Aa 7 166] [0,6,7,163,164]<|Sq (Rq [Ac 167 0 0,Aa 168 6,Aa 169 7,⟨some 170,.calll 243 [.s 167,.s 168,.s 169],none⟩,Bb 171 170,Aa 172 171,Ap 173 0 0 172,Bq 174 173 0 172,Bq 175 174 7 172,Al 176 175 172,Au 177 176 172,Aw 178 0 0 177,Bm 179 178 0 177,Bm 180 179 10 177,⟨some 181,.lac (.s 180),some (177,true)⟩,As 182 7 177,⟨some 183,.calll 241 [.s 181,.s 182],some (177,true)⟩,Ca 184 177 183 172,Aq 185 172 184] [0,6,7,163,164,185]<|Co 185 (Ex 4 [0,6,163,164])<|Sk [0,6,7,163,164])<|Rq [Ac 186 0 0,Ac 187 0 0,Ah 188 187 0,Ah 189 188 10,Fd 190 189,Aa 191 7,Br 192 1 191,Dm 193 1 190 192,Ah 194 186 0,Ah 195 194 10,Fe 195 193] [0,6,163,164]<|Rq [Ac 196 0 0,Ga 197 198 196 0] [0,6,163,164]<|Re [Ac 198 0 0,Ac 199 0 0,Ah 200 199 0,Ah 201 200 10,Fd 202 201,Aa 203 6,⟨some 204,.cut 1 202 (.s 203),none⟩,Ah 205 198 0,Ah 206 205 10,Fe 206 204] [0,6,163,164])<|Re [An 207 164 1,Aa 164 207] [0,6,163,164])<|Dr [8,9,10,11,12,13,14,15,16,17,18,19,20,21,22,23,24,25,26,27] [Ac 8 0 0,Ac 9 0 0,Ah 10 9 0,Ah 11 10 11,Ff 12 11,Ac 13 0 0,Ah 14 13 0,Ah 15 14 9,Dz 16 15,Fz 17 138 16,Ac 18 0 0,Ah 19 18 0,Ah 20 19 10,Dz 21 20,Fz 22 138 21,Cz 23 1 1 0 1 17 1 1 22,Br 24 2 23,Bz 25 2 12 24,Ah 26 8 0,Ah 27 26 11,Ei 1 27 25] [0]
theorem gF:CK f198 SY []:=by decide +kernel
theorem jB:PC.noClm SY=true∧PC.noDst 0 SY=true:=by decide +kernel
theorem eJ (n:Nat) (_ih_198:∀ (f:AK),Ct prog (A3 n f) 198 [.undef] (fun r=>.bo (DN f) (DN r) 0 [])) (f:AK):Ct prog (A3 (n+1) f) 198 [.undef] (fun r=>.bo (DN f) (DN r) 0 []):=a6 gF jB fun r h hw hwc hR=>by
  unfold SY
  unfold A3 at h
  have:HA 1 63 62 0 fun (i1:Int) (s1:AK)=>[(0,.bx (DN s1)),(63,.tv (eI i1))]:=⟨⟩
  have:HA 3 164 163 0 fun (i3:Int) (s3:AK)=>[(0,.bx (DN s3)),(164,.tv (eI i3))]:=⟨⟩
  have:HJ 28 fun (w1:AK)=>[(0,.bx (DN w1))]:=⟨⟩
  exact au
theorem eH:∀ n:Nat,(∀ (f:AK),Ct prog (A3 n f) 198 [.undef] (fun r=>.bo (DN f) (DN r) 0 [])):=by
  intro n
  induction n with
  | zero=>exact (fun f=>⟨fun _ h=>by cases h⟩)
  | succ n ih=>exact eJ n ih
instance ov (f:AK):Ct prog (FU f) 198 [.undef] (fun r=>.bo (DN f) (DN r) 0 []):=⟨fun r h=>by
  obtain ⟨N,hN⟩:=DB h
  exact ((eH N) f).snd r (hN N (Nat.le_refl _))⟩
theorem fB:CK f133 (Rq [Af 6 0,Af 7 1,Af 8 2,Af 9 3,Bc 12 2] [4,5,6,7,8,9]<|Sq (Dr [13,14,15,16,17,18,19,20,21] [Ad 14 7 2,Ad 15 8 2,Ad 16 6 2,Ba 17 197 16,Ad 18 9 2,Aa 19 4,Aa 20 5,⟨some 21,.bld [.list 1 [],.list 3 [],.list 1 [],.list 3 [],.list 1 [],.list 1 [],.list 1 [],.bool false,.int .i64 0,.nil,.nil,.nil] [(0,2,.s 14),(2,2,.s 15),(4,1,.s 17),(5,2,.s 18),(7,1,.s 19),(8,1,.s 20)],none⟩,⟨some 22,.boxp [none,none,none,none,none,none,none,none,none,some ⟨true,.xl 1 []⟩,some ⟨true,.xl 1 []⟩,some ⟨true,.list 2 []⟩] (.s 21),none⟩,Ac 13 22 0] [13,22])<|Rq [Ah 23 13 0,Ga 24 198 23 0] [13,22]<|Rq [Ah 25 13 0,Ah 26 25 0,Ah 27 26 11,Ab 28 27,Be 12 28] [12]<|.ret) [.tmp 12]:=by decide +kernel
instance ns (t:AD) (p:Graph) (g:Graph) (partial_:Morphism) (injective:Bool) (most:Int):Ct prog (G5 t p g partial_ injective most) 133 [AP t,CA p,CA g,BO partial_,eB injective,eI most] (fun r=>.sh ((eL 2 BO) r)):=Fi fB fun r h hw hR=>by
  unfold G5 at h
  exact au
theorem mG:CK f64 (Rq [Af 5 0,Af 6 1,Af 7 2,Af 8 3,Bc 10 2,Ae 11 0] [4,5,6,7,8]<|Rq [Ad 13 5 2,Ad 14 6 2,Ad 15 7 2,Ad 16 8 2,Aa 17 4,Gn 18 133 13 14 15 16 17 5001,Be 12 18] [12]<|Sq (Rq [Aa 19 12,Ag 20 19,Bn 21 20 5000] [12,21]<|Co 21 (Rq [Bc 10 2,Ae 11 3] [10,11]<|.ret)<|Sk [12])<|Rq [Aa 22 12,Be 10 22,Ae 11 0] [10,11]<|.ret) [.tmp 10,.tmp 11]:=by decide +kernel
instance rK (t:AD) (p:Graph) (g:Graph) (partial_:Morphism) (injective:Bool):Ct prog (I9 t p g partial_ injective) 64 [AP t,CA p,CA g,BO partial_,eB injective] (fun r=>.tp [(eL 2 BO) r.1,eI r.2]):=Fi mG fun r h hw hR=>by
  unfold I9 at h
  exact au
theorem li:CK f29 (Rq [Af 5 0,Af 6 1,Af 7 2,Af 8 3,Bc 10 2,Ae 11 0] [4,5,6,7,8]<|Sq (Rq [Ad 15 5 2,Ad 16 6 2,Ad 17 7 2,Bg 18 62 15 16 17,Aa 12 18] [4,5,6,7,8,12]<|Rq [Aa 19 12,Av 20 19 0] [4,5,6,7,8,12,20]<|Co 20 (Rq [Aa 21 12,Bc 10 2,Aa 11 21] [10,11]<|.ret)<|Sk [4,5,6,7,8])<|Sq (Rq [Ac 22 8 0,Ab 23 22,Ag 24 23,Ac 25 6 0,Ab 26 25,Ag 27 26,Bi 28 24 27,Aa 29 28,Ap 30 8 1 29,Al 31 30 29,Bh 32 31 29,Ap 33 6 1 29,Al 34 33 29,Bh 35 34 29,Cj 36 32 35 29,Aq 37 29 36] [4,5,6,7,8,37]<|Co 37 (Rq [Bc 10 2,Ae 11 20] [10,11]<|.ret)<|Sk [4,5,6,7,8])<|Sq (Rq [Ac 38 8 0,Ab 39 38,Ac 40 7 0,Ab 41 40,Ag 42 41,Ay 43 63 39 42,Aa 13 43] [4,5,6,7,8,13]<|Rq [Aa 44 13,Av 45 44 0] [4,5,6,7,8,13,45]<|Co 45 (Rq [Aa 46 13,Bc 10 2,Aa 11 46] [10,11]<|.ret)<|Sk [4,5,6,7,8])<|Sq (Rq [Ac 47 8 1,Ab 48 47,Ac 49 7 1,Ab 50 49,Ag 51 50,Ay 52 63 48 51,Aa 14 52] [4,5,6,7,8,14]<|Rq [Aa 53 14,Av 54 53 0] [4,5,6,7,8,14,54]<|Co 54 (Rq [Aa 55 14,Bc 10 2,Aa 11 55] [10,11]<|.ret)<|Sk [4,5,6,7,8])<|Rq [Ad 56 5 2,Ad 57 6 2,Ad 58 7 2,Ad 59 8 2,Aa 60 4,Ck 61 64 56 57 58 59 60,Ak 62 61 0,Ak 63 61 1,Be 10 62,Aa 11 63] [10,11]<|.ret) [.tmp 10,.tmp 11]:=by decide +kernel
instance qq (t:AD) (p:Graph) (g:Graph) (partial_:Morphism) (injective:Bool):Ct prog (GK t p g partial_ injective) 29 [AP t,CA p,CA g,BO partial_,eB injective] (fun r=>.tp [(eL 2 BO) r.1,eI r.2]):=Fi li fun r h hw hR=>by
  unfold GK at h
  exact au
end Go.Sf.Sc
