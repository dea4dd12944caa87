/- Contracts of the functions. -/
import Derived.Test.YtmaobfbhdkafkaaGreatShort
import Derived.Test.YtmaobfbhdkafkaaGreatRp
import Derived.Test.YtmaobfbhdkafkaaGreatTryzShelf
set_option maxRecDepth 100000
set_option maxHeartbeats 4000000
namespace Go.Sf.Sc
open Go Go.Sf Go.Proofs.Tryz
theorem nj:CK f289 (Rq [Ak 2] [0]<|Rq [Aa 3 0,Eo 4 3 97,Aa 5 4,As 6 0 5,Dt 7 6 122 5,Ap 8 5 7,Aa 9 8,Au 10 0 9,Ha 11 10 65 9,Au 12 11 9,As 13 0 12,Dt 14 13 90 12,Cf 15 12 14 9,Ar 16 9 15,Aa 2 16] [2]<|.ret) [.tmp 2]:=by decide +kernel
instance vK (c:Int):Ct prog (Ky c) 289 [HL c] (fun r=>.sh (eB r)):=Fi nj fun r h hw hR=>by
  unfold Ky at h
  exact au
theorem nk:CK f290 (Rq [Ae 4 0] [0,1]<|Rq [Ae 5 0] [0,1,5]<|Sq (Bl 0<|Lo [0,1,5]<|Sq (Rq [Aa 6 5,Aa 7 0,De 8 7,Am 9 6 8,Aa 10 9,As 11 1 10,As 12 0 10,As 13 5 10,Gb 14 12 13 10,⟨some 15,.callv (.s 11) [.s 14],some (10,true)⟩,Ap 16 10 15] [0,1,5,16]<|Co 16 (Sk [0,1,5])<|Ex 0 [5])<|Bl 1<|Re [Aa 17 5,Al 18 17 1,Aa 5 18] [0,1,5])<|Rq [Aa 19 5,Aa 4 19] [4]<|.ret) [.tmp 4]:=by decide +kernel
instance vL (s_0:ByteArray) (ok:Int->Option Bool) (VF:FuncId) (k_ok:List TV) [h_ok:∀ (y0:Int),Ct prog (ok y0) VF (HL y0::k_ok) (fun r=>.sh (eB r))]:Ct prog (ID s_0 ok) 290 [eS s_0,.clo VF k_ok] (fun r=>.sh (eI r)):=Fi nk fun r h hw hR=>by
  unfold ID at h
  have:HW 0 fun (s0:Int)=>[(5,.tv (eI s0))]:=⟨⟩
  exact au
theorem nq:CK f292 (Rq [Ak 2] [0]<|Rq [Aa 3 0,Eo 4 3 48,Aa 5 4,As 6 0 5,Dt 7 6 57 5,Ap 8 5 7,Aa 2 8] [2]<|.ret) [.tmp 2]:=by decide +kernel
instance vN (c:Int):Ct prog (KV c) 292 [HL c] (fun r=>.sh (eB r)):=Fi nq fun r h hw hR=>by
  unfold KV at h
  exact au
theorem np:CK f291 (Rq [Ak 2] [0]<|Rq [Aa 3 0,Ax 4 289 3,Aa 5 4,Au 6 0 5,Du 7 292 6 5,Ar 8 5 7,Aa 9 8,Au 10 0 9,Hb 11 10 95 9,Ar 12 9 11,Aa 2 12] [2]<|.ret) [.tmp 2]:=by decide +kernel
instance vM (c:Int):Ct prog (Mk c) 291 [HL c] (fun r=>.sh (eB r)):=Fi np fun r h hw hR=>by
  unfold Mk at h
  exact au
theorem n5:CK f307 (Rq [Ak 2] [0]<|Rq [Aa 3 0,Eo 4 3 32,Aa 5 4,As 6 0 5,Dt 7 6 126 5,Ap 8 5 7,Aa 9 8,As 10 0 9,⟨some 11,.bin (.i) .neq (.s 10) (.c (.int .u8 34)),some (9,true)⟩,Ap 12 9 11,Aa 2 12] [2]<|.ret) [.tmp 2]:=by decide +kernel
instance vW (c:Int):Ct prog (LC c) 307 [HL c] (fun r=>.sh (eB r)):=Fi n5 fun r h hw hR=>by
  unfold LC at h
  exact au
theorem ns:CK f293 (Rq [Ae 2 0,Ae 3 0] [0]<|Rq [Aa 5 0,⟨some 6,.sslc (.s 5) (some (.c (.int .i64 1))) none,none⟩,Ff 7 290 6 307,Aa 4 7] [0,4]<|Sq (Rq [Aa 8 4,Ee 9 1 8,Aa 10 0,De 11 10,Da 12 9 11,Aa 13 12,Au 14 0 13,Au 15 4 13,⟨some 16,.bin (.i) .add (.c (.int .i64 1)) (.s 15),some (13,false)⟩,⟨some 17,.sidx (.s 14) (.s 16),some (13,false)⟩,⟨some 18,.bin (.i) .neq (.s 17) (.c (.int .u8 34)),some (13,false)⟩,Ar 19 13 18] [4,19]<|Co 19 (Rq [Ae 2 0,Ae 3 2] [2,3]<|.ret)<|Sk [4])<|Sq (Rq [Aa 20 4,Bk 21 20 60] [4,21]<|Co 21 (Rq [Ae 2 0,Ae 3 3] [2,3]<|.ret)<|Sk [4])<|Rq [Aa 22 4,Al 23 22 2,Aa 2 23,Ae 3 0] [2,3]<|.ret) [.tmp 2,.tmp 3]:=by decide +kernel
instance vO (s_0:ByteArray):Ct prog (HZ s_0) 293 [eS s_0] (fun r=>.tp [eI r.1,eI r.2]):=Fi ns fun r h hw hR=>by
  unfold HZ at h
  exact au
theorem nu:CK f296 (Rq [Ae 4 0] [0,1]<|Sq (Rq [Aa 6 0,Ag 7 6,Ae 8 0] [0,1,7,8]<|Bl 0<|Lo [0,1,7,8]<|Rq [Am 9 8 7] [0,1,7,8,9]<|Sq (Co 9 (Sk [0,1,7,8])<|Ex 0 [])<|Sq (Bl 1<|Rq [Aa 10 8,Aa 5 10] [0,1,5,7,8]<|Rq [Aa 11 1,Aa 12 0,Aa 13 5,Ai 14 12 13 1,Ab 15 14,Dp 16 11 15] [0,1,5,7,8,16]<|Co 16 (Rq [Aa 17 5,Aa 4 17] [4]<|.ret)<|Sk [0,1,7,8])<|Re [Al 18 8 1,Aa 8 18] [0,1,7,8])<|Rq [Bu 4 (-1)] [4]<|.ret) [.tmp 4]:=by decide +kernel
instance vQ (s_0:List ByteArray) (v_1:ByteArray):Ct prog (G2 s_0 v_1) 296 [lB s_0,eS v_1] (fun r=>.sh (eI r)):=Fi nu fun r h hw hR=>by
  unfold G2 at h
  have:HA 0 8 7 0 fun (i0:Int) (_:Unit)=>[(8,.tv (eI i0))]:=⟨⟩
  exact au
theorem na:CK f268 (Rq [Ak 4] [0,1]<|Rq [Aa 5 0,Aa 6 1,Av 7 296 5 6,Bq 8 7 0,Aa 4 8] [4]<|.ret) [.tmp 4]:=by decide +kernel
instance vF (s_0:List ByteArray) (v_1:ByteArray):Ct prog (D9 s_0 v_1) 268 [lB s_0,eS v_1] (fun r=>.sh (eB r)):=Fi na fun r h hw hR=>by
  unfold D9 at h
  exact au
theorem nt:CK f294 (Rq [Ak 2] [0]<|Rq [Aa 3 0,De 4 3,Bq 5 4 2,Aa 6 5,⟨some 7,.lst 1 [.c (.str ⟨#[45,62]⟩),.c (.str ⟨#[60,61]⟩),.c (.str ⟨#[62,61]⟩),.c (.str ⟨#[61,61]⟩),.c (.str ⟨#[33,61]⟩)],some (6,true)⟩,As 8 0 6,⟨some 9,.sslc (.s 8) none (some (.c (.int .i64 2))),some (6,true)⟩,Dn 10 268 7 9 6,Ap 11 6 10,Aa 2 11] [2]<|.ret) [.tmp 2]:=by decide +kernel
instance vP (s_0:ByteArray):Ct prog (Mj s_0) 294 [eS s_0] (fun r=>.sh (eB r)):=Fi nt fun r h hw hR=>by
  unfold Mj at h
  exact au
theorem p9 (s:ByteArray) (c:Int) (r:Int) (h:strings_IndexByte s c=some r):AS prog 295 [eS s,HL c] (.sh (eI r)):=by
  unfold strings_IndexByte at h
  cases h
  exact g6 (by rfl) ⟨Go.Lib.indexByte_ge _ _,g5 _ _⟩ (fun w=>Go.Proofs.Tryz.strings_IndexByte s c w)
instance vh (s:ByteArray) (c:Int):Ct Go.Proofs.Tryz.prog (strings_IndexByte s c) 295 [eS s,HL c] (fun r=>.sh (eI r)):=⟨p9 s c⟩
theorem nY:CK f266 (Rq [Ae 2 0,Ae 3 0,Ae 4 0] [0]<|Rq [Aa 10 0,⟨some 11,.sidx (.s 10) (.c (.int .i64 0)),none⟩,Aa 5 11] [0,5]<|Sq (Bl 0<|Rq [Aa 13 5,Ax 14 289 13,Aa 12 14] [0,5,12]<|Co 12 (Rq [Aa 15 0,Ff 16 290 15 291,Aa 6 16] [6]<|Sq (Rq [Aa 17 6,Bk 18 17 20] [6,18]<|Co 18 (Rq [Ae 2 0,Ae 3 0,Ae 4 3] [2,3,4]<|.ret)<|Sk [6])<|Rq [Aa 19 6,Ae 2 1,Aa 3 19,Ae 4 0] [2,3,4]<|.ret)<|Rq [Aa 21 5,Ax 22 292 21,Aa 20 22] [0,5,20]<|Co 20 (Rq [Aa 23 0,Ff 24 290 23 292,Aa 7 24] [7]<|Sq (Rq [Aa 25 7,Bk 26 25 9] [7,26]<|Co 26 (Rq [Ae 2 0,Ae 3 0,Ae 4 3] [2,3,4]<|.ret)<|Sk [7])<|Rq [Aa 27 7,Ae 2 2,Aa 3 27,Ae 4 0] [2,3,4]<|.ret)<|Rq [Aa 29 5,Cn 30 29 34,Aa 28 30] [0,5,28]<|Co 28 (Rq [Aa 32 0,Ax 33 293 32,Aa 31 33,An 34 31 0,An 35 31 1,Aa 8 34,Aa 9 35] [8,9]<|Rq [Aa 36 8,Aa 37 9,Ae 2 3,Aa 3 36,Aa 4 37] [2,3,4]<|.ret)<|Rq [Aa 39 0,Ax 40 294 39,Aa 38 40] [5,38]<|Co 38 (Rq [Ae 2 4,Ae 3 2,Ae 4 0] [2,3,4]<|.ret)<|Rq [Aa 42 5,⟨some 43,.call 295 [.c (.str ⟨#[123,125,40,41,91,93,44,59,58,61,43,45,42,60,62,33,38,124,46,63]⟩),.s 42],none⟩,Bq 44 43 0,Aa 41 44] [41]<|Co 41 (Rq [Ae 2 4,Ae 3 1,Ae 4 0] [2,3,4]<|.ret)<|Sk [])<|Rq [Ae 2 0,Ae 3 0,Ae 4 2] [2,3,4]<|.ret) [.tmp 2,.tmp 3,.tmp 4]:=by decide +kernel
instance vD (s_0:ByteArray):Ct prog (I3 s_0) 266 [eS s_0] (fun r=>.tp [eI r.1,eI r.2.1,eI r.2.2]):=Fi nY fun r h hw hR=>by
  unfold I3 at h
  exact au
theorem nI:CK f244 (Rq [Af 1 0,Df 2,Ak 3] [1]<|Rq [Ac 8 1 1,Ab 9 8,Aa 4 9] [1,4]<|Sq (Rq [Ac 10 1 0,Ab 11 10,Bb 12 11 3] [1,4,12]<|Co 12 (Re [Aa 13 4,⟨some 14,.bin (.s) .add (.c (.str ⟨#[34]⟩)) (.s 13),none⟩,⟨some 15,.bin (.s) .add (.s 14) (.c (.str ⟨#[34]⟩)),none⟩,Aa 4 15] [1,4])<|Sk [1,4])<|Sq (Rq [Aa 16 4,⟨some 17,.bin (.s) .eql (.s 16) (.c (.str ⟨#[]⟩)),none⟩] [1,4,17]<|Co 17 (Rq [Df 2,Ak 3] [2,3]<|.ret)<|Sk [1,4])<|Rq [Aa 19 4,Ax 20 266 19,Aa 18 20,An 21 18 0,An 22 18 1,An 23 18 2,Aa 5 21,Aa 6 22,Aa 7 23] [1,4,5,6,7]<|Rq [Aa 24 4,Aa 25 7,Bb 26 25 0,Aa 27 26,As 28 5 27,Ay 29 1 0 27,Ba 30 29 27,Dj 31 28 30 27,Ap 32 27 31,Aa 33 32,As 34 6 33,As 35 4 33,Gc 36 35 33,Dj 37 34 36 33,Ap 38 33 37,Aa 2 24,Aa 3 38] [2,3]<|.ret) [.tmp 2,.tmp 3]:=by decide +kernel
instance uu (t:FK):Ct prog (JE t) 244 [Sj t] (fun r=>.tp [eS r.1,eB r.2]):=Fi nI fun r h hw hR=>by
  unfold JE at h
  have:HJ 12 fun (w1:ByteArray)=>[(4,.tv (eS w1))]:=⟨⟩
  exact au
theorem md:CK f207 (Rq [Ak 2] [0]<|Rq [Aa 6 0,Fg 7 0 0 0 1 1 1 1 6,Ax 8 244 7,Aa 5 8,An 9 5 0,An 10 5 1,Aa 3 9,Aa 4 10] [4]<|Rq [Aa 11 4,Aa 2 11] [2]<|.ret) [.tmp 2]:=by decide +kernel
instance uN (s_0:ByteArray):Ct prog (ES s_0) 207 [eS s_0] (fun r=>.sh (eB r)):=Fi md fun r h hw hR=>by
  unfold ES at h
  exact au
theorem nJ:CK f245 (Rq [Ae 4 0] [0,1]<|Sq (Rq [Aa 6 0,Ag 7 6,Ae 8 0] [0,1,7,8]<|Bl 0<|Lo [0,1,7,8]<|Rq [Am 9 8 7] [0,1,7,8,9]<|Sq (Co 9 (Sk [0,1,7,8])<|Ex 0 [])<|Sq (Bl 1<|Rq [Aa 10 8,Aa 5 10] [0,1,5,7,8]<|Rq [Aa 11 1,Aa 12 0,Aa 13 5,Ai 14 12 13 4,Ad 15 14 4,Cv 16 11 15] [0,1,5,7,8,16]<|Co 16 (Rq [Aa 17 5,Aa 4 17] [4]<|.ret)<|Sk [0,1,7,8])<|Re [Al 18 8 1,Aa 8 18] [0,1,7,8])<|Rq [Bu 4 (-1)] [4]<|.ret) [.tmp 4]:=by decide +kernel
instance uv (s_0:List BI) (f:BI->Option Bool) (f_f:FuncId) (k_f:List TV) [h_f:∀ (y0:BI),Ct prog (f y0) f_f (H8 y0::k_f) (fun r=>.sh (eB r))]:Ct prog (DU s_0 f) 245 [lN s_0,.clo f_f k_f] (fun r=>.sh (eI r)):=Fi nJ fun r h hw hR=>by
  unfold DU at h
  have:HA 0 8 7 0 fun (i0:Int) (_:Unit)=>[(8,.tv (eI i0))]:=⟨⟩
  exact au
theorem me:CK f208 (Rq [Ak 4] [0,1]<|Rq [Aa 5 0,Aa 6 1,Av 7 245 5 6,Bq 8 7 0,Aa 4 8] [4]<|.ret) [.tmp 4]:=by decide +kernel
instance uO (s_0:List BI) (f:BI->Option Bool) (f_f:FuncId) (k_f:List TV) [h_f:∀ (y0:BI),Ct prog (f y0) f_f (H8 y0::k_f) (fun r=>.sh (eB r))]:Ct prog (CQ s_0 f) 208 [lN s_0,.clo f_f k_f] (fun r=>.sh (eB r)):=Fi me fun r h hw hR=>by
  unfold CQ at h
  exact au
theorem mf:CK f209 (Rq [Af 2 0,Ak 3] [1,2]<|Rq [Ac 4 2 0,Ab 5 4,Ac 6 1 0,Ab 7 6,Dp 8 5 7,Aa 3 8] [3]<|.ret) [.tmp 3]:=by decide +kernel
instance uP (m:BI) (c0:BI):Ct prog (Mn m c0) 209 [H8 m,.pt (H8 c0).cells] (fun r=>.sh (eB r)):=Fi mf fun r h hw hR=>by
  unfold Mn at h
  exact au
theorem mg:CK f210 (Rq [Af 2 0,⟨some 4,.nilx 4,none⟩] [1,2]<|Rq [⟨some 5,.nilx 4,none⟩] [1,2,5]<|Sq (Rq [Ac 7 2 0,Ab 8 7,Aa 9 1,Ai 10 8 9 4,Ah 11 10 1,Ab 12 11,Aa 6 12] [1,2,5,6]<|Rq [Aa 13 6,Bq 14 13 0] [1,2,5,6,14]<|Co 14 (Re [Ad 15 2 2,Aa 16 6,Gd 17 210 15 16,Ck 5 17] [1,2,5])<|Sk [1,2,5])<|Rq [Ck 18 5,Ac 19 2 0,Ab 20 19,Aa 21 1,Ai 22 20 21 4,Ah 23 22 3,Ab 24 23,Fh 25 4 18 24,Ck 4 25] [4]<|.ret) [.tmp 4]:=by decide +kernel
theorem kT (n:Nat) (_ih_210:∀ (t:Types) (a:Int),Ct prog (DY n t a) 210 [AU t,eI a] (fun r=>.xown 4 (List.map Ip r))) (t:Types) (a:Int):Ct prog (DY (n+1) t a) 210 [AU t,eI a] (fun r=>.xown 4 (List.map Ip r)):=Fi mg fun r h hw hR=>by
  unfold DY at h
  have:HJ 14 fun (w1:List Attr)=>[(5,.xo 4 (List.map Ip w1))]:=⟨⟩
  exact au
theorem kS:∀ n:Nat,(∀ (t:Types) (a:Int),Ct prog (DY n t a) 210 [AU t,eI a] (fun r=>.xown 4 (List.map Ip r))):=by
  intro n
  induction n with
  | zero=>exact (fun t a=>⟨fun _ h=>by cases h⟩)
  | succ n ih=>exact kT n ih
instance uQ (t:Types) (a:Int):Ct prog (KW t a) 210 [AU t,eI a] (fun r=>.xown 4 (List.map Ip r)):=⟨fun r h=>by
  obtain ⟨N,hN⟩:=DE h
  exact ((kS N) t a).snd r (hN N (Nat.le_refl _))⟩
theorem nZ:CK f267 (Rq [Ae 4 0] [0,1]<|Sq (Rq [Aa 6 0,Ag 7 6,Ae 8 0] [0,1,7,8]<|Bl 0<|Lo [0,1,7,8]<|Rq [Am 9 8 7] [0,1,7,8,9]<|Sq (Co 9 (Sk [0,1,7,8])<|Ex 0 [])<|Sq (Bl 1<|Rq [Aa 10 8,Aa 5 10] [0,1,5,7,8]<|Rq [Aa 11 1,Aa 12 0,Aa 13 5,Ai 14 12 13 4,Ad 15 14 4,Cv 16 11 15] [0,1,5,7,8,16]<|Co 16 (Rq [Aa 17 5,Aa 4 17] [4]<|.ret)<|Sk [0,1,7,8])<|Re [Al 18 8 1,Aa 8 18] [0,1,7,8])<|Rq [Bu 4 (-1)] [4]<|.ret) [.tmp 4]:=by decide +kernel
instance vE (s_0:List Attr) (f:Attr->Option Bool) (f_f:FuncId) (k_f:List TV) [h_f:∀ (y0:Attr),Ct prog (f y0) f_f (Ip y0::k_f) (fun r=>.sh (eB r))]:Ct prog (EJ s_0 f) 267 [lA s_0,.clo f_f k_f] (fun r=>.sh (eI r)):=Fi nZ fun r h hw hR=>by
  unfold EJ at h
  have:HA 0 8 7 0 fun (i0:Int) (_:Unit)=>[(8,.tv (eI i0))]:=⟨⟩
  exact au
theorem nK:CK f246 (Rq [Ak 4] [0,1]<|Rq [Aa 5 0,Aa 6 1,Av 7 267 5 6,Bq 8 7 0,Aa 4 8] [4]<|.ret) [.tmp 4]:=by decide +kernel
instance uw (s_0:List Attr) (f:Attr->Option Bool) (f_f:FuncId) (k_f:List TV) [h_f:∀ (y0:Attr),Ct prog (f y0) f_f (Ip y0::k_f) (fun r=>.sh (eB r))]:Ct prog (DF s_0 f) 246 [lA s_0,.clo f_f k_f] (fun r=>.sh (eB r)):=Fi nK fun r h hw hR=>by
  unfold DF at h
  exact au
theorem nL:CK f247 (Rq [Af 2 0,Ak 3] [1,2]<|Rq [Ac 4 2 0,Ab 5 4,Ac 6 1 0,Ab 7 6,Dp 8 5 7,Aa 3 8] [3]<|.ret) [.tmp 3]:=by decide +kernel
instance ux (y:Attr) (c0:Attr):Ct prog (JP y c0) 247 [Ip y,.pt (Ip c0).cells] (fun r=>.sh (eB r)):=Fi nL fun r h hw hR=>by
  unfold JP at h
  exact au
theorem nM:CK f248 (Rq [Ae 2 0] [0]<|Sq (Rq [Aa 5 0,Ag 6 5,Bk 7 6 20] [0,7]<|Co 7 (Rq [Ae 2 3] [2]<|.ret)<|Sk [0])<|Sq (Rq [Aa 8 0,Ag 9 8,Ae 10 0] [0,8,9,10]<|Bl 0<|Lo [0,8,9,10]<|Rq [Am 11 10 9] [0,8,9,10,11]<|Sq (Co 11 (Sk [0,8,9,10])<|Ex 0 [])<|Sq (Bl 1<|Rq [Aa 12 10,Ai 13 8 10 1,Ab 14 13,Aa 3 12,Aa 4 14] [0,3,4,8,9,10]<|Bl 2<|Rq [Aa 16 4,Ax 17 207 16,Be 18 17,Aa 15 18] [0,3,4,8,9,10,15]<|Co 15 (Rq [Ae 2 2] [2]<|.ret)<|Rq [Aa 20 0,Aa 21 3,Dv 22 1 20 21,Aa 23 4,Av 24 268 22 23,Aa 19 24] [0,8,9,10,19]<|Co 19 (Rq [Ae 2 5] [2]<|.ret)<|Sk [0,8,9,10])<|Re [Al 25 10 1,Aa 10 25] [0,8,9,10])<|Rq [Ae 2 0] [2]<|.ret) [.tmp 2]:=by decide +kernel
instance uy (l:List ByteArray):Ct prog (IF l) 248 [lB l] (fun r=>.sh (eI r)):=Fi nM fun r h hw hR=>by
  unfold IF at h
  have:HA 0 10 9 0 fun (i0:Int) (_:Unit)=>[(10,.tv (eI i0))]:=⟨⟩
  exact au
theorem mh:CK f211 (Rq [Af 2 0,Ae 4 0] [1,2]<|Sq (Bl 0<|Rq [Ac 8 2 0,Ab 9 8,Ax 10 207 9,Be 11 10,Aa 7 11] [1,2,7]<|Co 7 (Rq [Ae 4 2] [4]<|.ret)<|Rq [Aa 13 1,Dg 14 247 2,Av 15 246 13 14,Aa 12 15] [2,12]<|Co 12 (Rq [Ae 4 5] [4]<|.ret)<|Sk [2])<|Sq (Rq [Ac 16 2 3,Ab 17 16,Ax 18 248 17,Aa 5 18] [2,5]<|Rq [Aa 19 5,Az 20 19 0] [2,5,20]<|Co 20 (Rq [Aa 21 5,Aa 4 21] [4]<|.ret)<|Sk [2])<|Rq [Ac 22 2 1,Ab 23 22,⟨some 24,.bin (.i) .leq (.c (.int .i64 (-1000000))) (.s 23),none⟩,Aa 25 24,Ay 26 2 1 25,Ba 27 26 25,Ay 28 2 2 25,Ba 29 28 25,Ep 30 27 29 25,Ap 31 25 30,Aa 32 31,Ay 33 2 2 32,Ba 34 33 32,Cm 35 34 1000000 32,Ap 36 32 35,Aa 6 36] [2,6]<|Sq (Rq [Ac 37 2 3,Ab 38 37,Ag 39 38,Bk 40 39 0] [2,6,40]<|Co 40 (Re [Ac 41 2 1,Ab 42 41,Bb 43 42 0,Aa 44 43,Ay 45 2 2 44,Ba 46 45 44,Ay 47 2 3 44,Ba 48 47 44,By 49 48 44,Ge 50 49 1 44,Dj 51 46 50 44,Ap 52 44 51,Aa 6 52] [6])<|Sk [6])<|Sq (Rq [Aa 53 6,Be 54 53] [54]<|Co 54 (Rq [Ae 4 6] [4]<|.ret)<|Sk [])<|Rq [Ae 4 0] [4]<|.ret) [.tmp 4]:=by decide +kernel
instance uR (x_0:Attr) (before:List Attr):Ct prog (FE x_0 before) 211 [Ip x_0,lA before] (fun r=>.sh (eI r)):=Fi mh fun r h hw hR=>by
  unfold FE at h
  have:HJ 40 fun (w1:Bool)=>[(6,.tv (eB w1))]:=⟨⟩
  exact au
theorem lW:CK f145 (Rq [Af 2 0,Ae 4 0] [1,2]<|Rq [Ac 9 2 0,Ab 10 9,Aa 11 1,Ai 12 10 11 4,Ad 13 12 4,Fj 5 0 4,Aj 4 5 13,Eq 5] [1,2,5]<|Sq (Bl 0<|Rq [Ac 15 5 0,Ab 16 15,Ax 17 207 16,Be 18 17,Aa 14 18] [1,2,5,14]<|Co 14 (Rq [Ae 4 2] [4]<|.ret)<|Rq [Ac 20 2 0,Ab 21 20,Aa 22 1,Dv 23 4 21 22,Dg 24 209 5,Av 25 208 23 24,Aa 19 25] [1,2,5,19]<|Co 19 (Rq [Ae 4 5] [4]<|.ret)<|Rq [Ac 27 5 1,Ab 28 27,Gf 29 28 (-1),Aa 30 29,Aq 31 5 1 30,Ao 32 31 30,Au 33 1 30,Cb 34 32 33 30,Ar 35 30 34,Aa 26 35] [1,2,5,26]<|Co 26 (Rq [Ae 4 6] [4]<|.ret)<|Rq [Ac 37 5 3,Ab 38 37,Ag 39 38,Bk 40 39 4,Aa 36 40] [1,2,5,36]<|Co 36 (Rq [Ae 4 3] [4]<|.ret)<|Sk [1,2,5])<|Rq [Ad 41 2 2,Aa 42 1,Av 43 210 41 42,Aw 6 43] [5,6]<|Sq (Rq [Aa 44 6,Ag 45 44,Bk 46 45 8] [5,6,46]<|Co 46 (Rq [Ae 4 3] [4]<|.ret)<|Sk [5,6])<|Sq (Rq [Aa 47 6,Ag 48 47,Ac 49 5 3,Ab 50 49,Ag 51 50,Dw 52 48 51,Aa 7 52] [6,7]<|Bl 1<|Lo [6,7]<|Sq (Rq [Aa 53 7,Aa 54 6,Ag 55 54,Am 56 53 55] [6,7,56]<|Co 56 (Sk [6,7])<|Ex 1 [])<|Sq (Bl 2<|Sq (Dr [8,59,60,61,62,63,64,65,66] [Aa 59 6,Aa 60 7,Ai 61 59 60 4,Ad 62 61 4,Aa 63 6,Aa 64 7,Dv 65 4 63 64,Av 66 211 62 65,Aa 8 66] [6,7,8])<|Rq [Aa 67 8,Az 68 67 0] [6,7,8,68]<|Co 68 (Rq [Aa 69 8,Aa 4 69] [4]<|.ret)<|Sk [6,7])<|Re [Aa 57 7,Al 58 57 1,Aa 7 58] [6,7])<|Rq [Ae 4 0] [4]<|.ret) [.tmp 4]:=by decide +kernel
instance tB (t:Types) (i_1:Int):Ct prog (I6 t i_1) 145 [AU t,eI i_1] (fun r=>.sh (eI r)):=Fi lW fun r h hw hR=>by
  unfold I6 at h
  have:HA 1 7 6 0 fun (i1:Int) (_:Unit)=>[(7,.tv (eI i1))]:=⟨⟩
  exact au
theorem mi:CK f212 (Rq [Ak 3] [0,1]<|Rq [Aa 4 0,Bq 5 4 0,Aa 6 5,As 7 0 6,Ay 8 1 0 6,Ba 9 8 6,By 10 9 6,Er 11 7 10 6,Ap 12 6 11,Aa 3 12] [3]<|.ret) [.tmp 3]:=by decide +kernel
instance uS (n:Int) (c0:Types):Ct prog (Kz n c0) 212 [eI n,.pt (AU c0).cells] (fun r=>.sh (eB r)):=Fi mi fun r h hw hR=>by
  unfold Kz at h
  exact au
theorem nN:CK f249 (Rq [Ae 4 0] [0,1]<|Sq (Rq [Aa 6 0,Ag 7 6,Ae 8 0] [0,1,7,8]<|Bl 0<|Lo [0,1,7,8]<|Rq [Am 9 8 7] [0,1,7,8,9]<|Sq (Co 9 (Sk [0,1,7,8])<|Ex 0 [])<|Sq (Bl 1<|Rq [Aa 10 8,Aa 5 10] [0,1,5,7,8]<|Rq [Aa 11 1,Aa 12 0,Aa 13 5,Ai 14 12 13 7,Ad 15 14 7,Cv 16 11 15] [0,1,5,7,8,16]<|Co 16 (Rq [Aa 17 5,Aa 4 17] [4]<|.ret)<|Sk [0,1,7,8])<|Re [Al 18 8 1,Aa 8 18] [0,1,7,8])<|Rq [Bu 4 (-1)] [4]<|.ret) [.tmp 4]:=by decide +kernel
instance uz (s_0:List CO) (f:CO->Option Bool) (f_f:FuncId) (k_f:List TV) [h_f:∀ (y0:CO),Ct prog (f y0) f_f (Iq y0::k_f) (fun r=>.sh (eB r))]:Ct prog (DT s_0 f) 249 [lX s_0,.clo f_f k_f] (fun r=>.sh (eI r)):=Fi nN fun r h hw hR=>by
  unfold DT at h
  have:HA 0 8 7 0 fun (i0:Int) (_:Unit)=>[(8,.tv (eI i0))]:=⟨⟩
  exact au
theorem mj:CK f213 (Rq [Ak 4] [0,1]<|Rq [Aa 5 0,Aa 6 1,Av 7 249 5 6,Bq 8 7 0,Aa 4 8] [4]<|.ret) [.tmp 4]:=by decide +kernel
instance uT (s_0:List CO) (f:CO->Option Bool) (f_f:FuncId) (k_f:List TV) [h_f:∀ (y0:CO),Ct prog (f y0) f_f (Iq y0::k_f) (fun r=>.sh (eB r))]:Ct prog (CP s_0 f) 213 [lX s_0,.clo f_f k_f] (fun r=>.sh (eB r)):=Fi mj fun r h hw hR=>by
  unfold CP at h
  exact au
theorem ml:CK f214 (Rq [Af 2 0,Ak 3] [1,2]<|Rq [Ac 4 2 0,Ab 5 4,Ac 6 1 0,Ab 7 6,Dp 8 5 7,Aa 3 8] [3]<|.ret) [.tmp 3]:=by decide +kernel
instance uU (y:CO) (c0:CO):Ct prog (Mm y c0) 214 [Iq y,.pt (Iq c0).cells] (fun r=>.sh (eB r)):=Fi ml fun r h hw hR=>by
  unfold Mm at h
  exact au
theorem mn:CK f215 (Rq [Ak 4] [0,1]<|Rq [Aa 5 0,Bq 6 5 0,Aa 7 6,As 8 0 7,Cm 9 8 40 7,Ap 10 7 9,Aa 11 10,As 12 1 11,Hc 13 12 (-1) 11,As 14 13 11,Au 15 1 14,Au 16 0 14,Cb 17 15 16 14,Au 18 17 14,As 19 1 18,Cm 20 19 40 18,Cf 21 18 20 14,Ef 22 14 21 11,Ap 23 11 22,Aa 4 23] [4]<|.ret) [.tmp 4]:=by decide +kernel
instance uV (low:Int) (high:Int):Ct prog (KF low high) 215 [eI low,eI high] (fun r=>.sh (eB r)):=Fi mn fun r h hw hR=>by
  unfold KF at h
  exact au
theorem lY:CK f146 (Rq [Af 2 0,Ae 4 0] [1,2]<|Rq [Ac 7 2 1,Ab 8 7,Aa 9 1,Ai 10 8 9 7,Ad 11 10 7,Gg 5 0 0 0 0 0 0,Aj 7 5 11,Eq 5] [1,2,5]<|Rq [Dg 12 212 2,Aa 6 12] [1,2,5,6]<|Sq (Bl 0<|Rq [Ac 14 5 0,Ab 15 14,Ax 16 207 15,Be 17 16,Aa 13 17] [1,2,5,6,13]<|Co 13 (Rq [Ae 4 2] [4]<|.ret)<|Rq [Ac 19 2 1,Ab 20 19,Aa 21 1,Dv 22 7 20 21,Dg 23 214 5,Av 24 213 22 23,Aa 18 24] [5,6,18]<|Co 18 (Rq [Ae 4 5] [4]<|.ret)<|Sq (Rq [Aa 26 6,Ac 27 5 1,Ab 28 27,Cv 29 26 28,Be 30 29,Aa 31 30,Au 32 6 31,Aq 33 5 2 31,Ao 34 33 31,⟨some 35,.callv (.s 32) [.s 34],some (31,false)⟩,Br 36 35 31,Ar 37 31 36,Aa 25 37] [5,25]<|Co 25 (Sk [25])<|Re [Ac 38 5 3,Ab 39 38,Ac 40 5 4,Ab 41 40,Av 42 215 39 41,Be 43 42,Aa 44 43,Aq 45 5 5 44,Ao 46 45 44,Aq 47 5 6 44,Ao 48 47 44,Db 49 215 46 48 44,Br 50 49 44,Ar 51 44 50,Aa 25 51] [25])<|Co 25 (Rq [Ae 4 6] [4]<|.ret)<|Sk [])<|Rq [Ae 4 0] [4]<|.ret) [.tmp 4]:=by decide +kernel
instance tC (t:Types) (i_1:Int):Ct prog (I5 t i_1) 146 [AU t,eI i_1] (fun r=>.sh (eI r)):=Fi lY fun r h hw hR=>by
  unfold I5 at h
  have:HJ 25 fun (w1:Bool)=>[(25,.tv (eB w1))]:=⟨⟩
  exact au
theorem rY:CK f79 (Rq [Af 1 0,Df 2,Ae 3 0] [1]<|Sq (Bl 0<|Rq [Ac 11 1 0,Ab 12 11,Ag 13 12,Bb 14 13 0,Aa 10 14] [1,10]<|Co 10 (Rq [Df 2,Ae 3 7] [2,3]<|.ret)<|Rq [Ac 16 1 0,Ab 17 16,Ag 18 17,Bk 19 18 12,Aa 20 19,Aq 21 1 1 20,Ao 22 21 20,Bj 23 22 20,Cg 24 23 20 20,Ar 25 20 24,Aa 15 25] [1,15]<|Co 15 (Rq [Df 2,Ae 3 3] [2,3]<|.ret)<|Sk [1])<|Sq (Rq [Ac 26 1 0,Ab 27 26,Ag 28 27,Ae 29 0] [1,27,28,29]<|Bl 1<|Lo [1,27,28,29]<|Rq [Am 30 29 28] [1,27,28,29,30]<|Sq (Co 30 (Sk [1,27,28,29])<|Ex 1 [1])<|Sq (Bl 2<|Rq [Aa 31 29,Ai 32 27 29 4,Ad 33 32 4,Fj 5 0 4,Aa 4 31,Aj 4 5 33] [1,4,5,27,28,29]<|Rq [Ad 34 1 2,Aa 35 4,Av 36 145 34 35,Aa 6 36] [1,5,6,27,28,29]<|Rq [Aa 37 6,Az 38 37 0] [1,5,6,27,28,29,38]<|Co 38 (Rq [Ac 39 5 0,Ab 40 39,Aa 41 6,Aa 2 40,Aa 3 41] [2,3]<|.ret)<|Sk [1,27,28,29])<|Re [Al 42 29 1,Aa 29 42] [1,27,28,29])<|Sq (Rq [Ac 43 1 1,Ab 44 43,Ag 45 44,Ae 46 0] [1,44,45,46]<|Bl 3<|Lo [1,44,45,46]<|Rq [Am 47 46 45] [1,44,45,46,47]<|Sq (Co 47 (Sk [1,44,45,46])<|Ex 3 [])<|Sq (Bl 4<|Rq [Aa 48 46,Ai 49 44 46 7,Ad 50 49 7,Gg 8 0 0 0 0 0 0,Aa 7 48,Aj 7 8 50] [1,7,8,44,45,46]<|Rq [Ad 51 1 2,Aa 52 7,Av 53 146 51 52,Aa 9 53] [1,8,9,44,45,46]<|Rq [Aa 54 9,Az 55 54 0] [1,8,9,44,45,46,55]<|Co 55 (Rq [Ac 56 8 0,Ab 57 56,Aa 58 9,Aa 2 57,Aa 3 58] [2,3]<|.ret)<|Sk [1,44,45,46])<|Re [Al 59 46 1,Aa 46 59] [1,44,45,46])<|Rq [Df 2,Ae 3 0] [2,3]<|.ret) [.tmp 2,.tmp 3]:=by decide +kernel
instance wo (t:Types):Ct prog (FJ t) 79 [AU t] (fun r=>.tp [eS r.1,eI r.2]):=Fi rY fun r h hw hR=>by
  unfold FJ at h
  have:HA 1 29 28 0 fun (i1:Int) (_:Unit)=>[(29,.tv (eI i1))]:=⟨⟩
  have:HA 3 46 45 0 fun (i3:Int) (_:Unit)=>[(46,.tv (eI i3))]:=⟨⟩
  exact au
theorem lg:CK f151 (Rq [Ae 4 0] [0,1]<|Sq (Rq [Aa 6 0,Ag 7 6,Ae 8 0] [0,1,7,8]<|Bl 0<|Lo [0,1,7,8]<|Rq [Am 9 8 7] [0,1,7,8,9]<|Sq (Co 9 (Sk [0,1,7,8])<|Ex 0 [])<|Sq (Bl 1<|Rq [Aa 10 8,Aa 5 10] [0,1,5,7,8]<|Rq [Aa 11 1,Aa 12 0,Aa 13 5,Ai 14 12 13 1,Ab 15 14,Cv 16 11 15] [0,1,5,7,8,16]<|Co 16 (Rq [Aa 17 5,Aa 4 17] [4]<|.ret)<|Sk [0,1,7,8])<|Re [Al 18 8 1,Aa 8 18] [0,1,7,8])<|Rq [Bu 4 (-1)] [4]<|.ret) [.tmp 4]:=by decide +kernel
instance tH (s_0:List Int) (f:Int->Option Bool) (f_f:FuncId) (k_f:List TV) [h_f:∀ (y0:Int),Ct prog (f y0) f_f (eI y0::k_f) (fun r=>.sh (eB r))]:Ct prog (EZ s_0 f) 151 [lI s_0,.clo f_f k_f] (fun r=>.sh (eI r)):=Fi lg fun r h hw hR=>by
  unfold EZ at h
  have:HA 0 8 7 0 fun (i0:Int) (_:Unit)=>[(8,.tv (eI i0))]:=⟨⟩
  exact au
theorem ra:CK f81 (Rq [Ak 4] [0,1]<|Rq [Aa 5 0,Aa 6 1,Av 7 151 5 6,Bq 8 7 0,Aa 4 8] [4]<|.ret) [.tmp 4]:=by decide +kernel
instance wt (s_0:List Int) (f:Int->Option Bool) (f_f:FuncId) (k_f:List TV) [h_f:∀ (y0:Int),Ct prog (f y0) f_f (eI y0::k_f) (fun r=>.sh (eB r))]:Ct prog (BM s_0 f) 81 [lI s_0,.clo f_f k_f] (fun r=>.sh (eB r)):=Fi ra fun r h hw hR=>by
  unfold BM at h
  exact au
theorem lh:CK f152 (Rq [Ae 4 0] [0,1]<|Sq (Rq [Aa 6 0,Ag 7 6,Ae 8 0] [0,1,7,8]<|Bl 0<|Lo [0,1,7,8]<|Rq [Am 9 8 7] [0,1,7,8,9]<|Sq (Co 9 (Sk [0,1,7,8])<|Ex 0 [])<|Sq (Bl 1<|Rq [Aa 10 8,Aa 5 10] [0,1,5,7,8]<|Rq [Aa 11 1,Aa 12 0,Aa 13 5,Ai 14 12 13 3,Ad 15 14 3,Cv 16 11 15] [0,1,5,7,8,16]<|Co 16 (Rq [Aa 17 5,Aa 4 17] [4]<|.ret)<|Sk [0,1,7,8])<|Re [Al 18 8 1,Aa 8 18] [0,1,7,8])<|Rq [Bu 4 (-1)] [4]<|.ret) [.tmp 4]:=by decide +kernel
instance tI (s_0:List BX) (f:BX->Option Bool) (f_f:FuncId) (k_f:List TV) [h_f:∀ (y0:BX),Ct prog (f y0) f_f (EM y0::k_f) (fun r=>.sh (eB r))]:Ct prog (EK s_0 f) 152 [lE s_0,.clo f_f k_f] (fun r=>.sh (eI r)):=Fi lh fun r h hw hR=>by
  unfold EK at h
  have:HA 0 8 7 0 fun (i0:Int) (_:Unit)=>[(8,.tv (eI i0))]:=⟨⟩
  exact au
theorem rc:CK f83 (Rq [Ak 4] [0,1]<|Rq [Aa 5 0,Aa 6 1,Av 7 152 5 6,Bq 8 7 0,Aa 4 8] [4]<|.ret) [.tmp 4]:=by decide +kernel
instance wv (s_0:List BX) (f:BX->Option Bool) (f_f:FuncId) (k_f:List TV) [h_f:∀ (y0:BX),Ct prog (f y0) f_f (EM y0::k_f) (fun r=>.sh (eB r))]:Ct prog (BV s_0 f) 83 [lE s_0,.clo f_f k_f] (fun r=>.sh (eB r)):=Fi rc fun r h hw hR=>by
  unfold BV at h
  exact au
theorem lb:CK f148 (Rq [Ak 4] [0,1]<|Rq [Aa 5 0,Bq 6 5 0,Aa 7 6,As 8 0 7,As 9 1 7,Ep 10 8 9 7,Ap 11 7 10,Aa 4 11] [4]<|.ret) [.tmp 4]:=by decide +kernel
instance tE (n:Int) (most:Int):Ct prog (IR n most) 148 [eI n,eI most] (fun r=>.sh (eB r)):=Fi lb fun r h hw hR=>by
  unfold IR at h
  exact au
theorem lZ:CK f147 (Rq [Ak 2] [0]<|Rq [Aa 3 0,Es 4 148 3 99,Be 5 4,Aa 2 5] [2]<|.ret) [.tmp 2]:=by decide +kernel
instance tD (t:Int):Ct prog (Lk t) 147 [eI t] (fun r=>.sh (eB r)):=Fi lZ fun r h hw hR=>by
  unfold Lk at h
  exact au
theorem lf:CK f150 (Rq [Af 2 0,Ak 4] [1,2]<|Rq [Ac 5 2 0,Ab 6 5,Es 7 148 6 99,Aa 8 7,Ay 9 2 1 8,Ba 10 9 8,As 11 1 8,Ge 12 11 1 8,Dn 13 148 10 12 8,Ap 14 8 13,Aa 15 14,Ay 16 2 2 15,Ba 17 16 15,As 18 1 15,Ge 19 18 1 15,Dn 20 148 17 19 15,Ap 21 15 20,Aa 4 21] [4]<|.ret) [.tmp 4]:=by decide +kernel
instance tG (e:BX) (nodes:Int):Ct prog (MO e nodes) 150 [EM e,eI nodes] (fun r=>.sh (eB r)):=Fi lf fun r h hw hR=>by
  unfold MO at h
  exact au
theorem lc:CK f149 (Rq [Af 2 0,Ak 3] [1,2]<|Rq [Ad 4 2 3,Ac 5 1 0,Ab 6 5,Ag 7 6,Av 8 150 4 7,Be 9 8,Aa 3 9] [3]<|.ret) [.tmp 3]:=by decide +kernel
instance tF (e:BX) (c0:Graph):Ct prog (Ll e c0) 149 [EM e,.pt (CC c0).cells] (fun r=>.sh (eB r)):=Fi lc fun r h hw hR=>by
  unfold Ll at h
  exact au
theorem rZ:CK f80 (Rq [Af 1 0,Ae 2 0] [1]<|Sq (Rq [Ac 3 1 0,Ab 4 3,Ag 5 4,Bk 6 5 40,Aa 7 6,Aq 8 1 1 7,Ao 9 8 7,Bj 10 9 7,Cg 11 10 80 7,Ar 12 7 11] [1,12]<|Co 12 (Rq [Ae 2 3] [2]<|.ret)<|Sk [1])<|Sq (Rq [Ac 13 1 0,Ab 14 13,Ff 15 81 14 147] [1,15]<|Co 15 (Rq [Ae 2 6] [2]<|.ret)<|Sk [1])<|Sq (Rq [Ac 16 1 1,Ab 17 16,Dg 18 149 1,Av 19 83 17 18] [19]<|Co 19 (Rq [Ae 2 6] [2]<|.ret)<|Sk [])<|Rq [Ae 2 0] [2]<|.ret) [.tmp 2]:=by decide +kernel
instance ws (g:Graph):Ct prog (D8 g) 80 [CC g] (fun r=>.sh (eI r)):=Fi rZ fun r h hw hR=>by
  unfold D8 at h
  exact au
theorem rb:CK f82 (Rq [Ak 3] [0,1]<|Rq [Aa 4 0,Ac 5 1 0,Ab 6 5,Ag 7 6,Dc 8 4 7,Aa 3 8] [3]<|.ret) [.tmp 3]:=by decide +kernel
instance wu (n:Int) (c0:Types):Ct prog (H1 n c0) 82 [eI n,.pt (AU c0).cells] (fun r=>.sh (eB r)):=Fi rb fun r h hw hR=>by
  unfold H1 at h
  exact au
theorem rd:CK f84 (Rq [Af 2 0,Ak 3] [1,2]<|Rq [Ac 4 2 0,Ab 5 4,Ac 6 1 1,Ab 7 6,Ag 8 7,Dc 9 5 8,Aa 3 9] [3]<|.ret) [.tmp 3]:=by decide +kernel
instance ww (x_0:BX) (c0:Types):Ct prog (H2 x_0 c0) 84 [EM x_0,.pt (AU c0).cells] (fun r=>.sh (eB r)):=Fi rd fun r h hw hR=>by
  unfold H2 at h
  exact au
theorem re:CK f85 (Rq [Ak 6] [0,1,2]<|Rq [Aa 7 0,Aa 8 1,Dc 9 7 8,Aa 10 9,As 11 0 10,As 12 2 10,Ep 13 11 12 10,Ap 14 10 13,Aa 6 14] [6]<|.ret) [.tmp 6]:=by decide +kernel
instance wx (n:Int) (low:Int) (high:Int):Ct prog (DC n low high) 85 [eI n,eI low,eI high] (fun r=>.sh (eB r)):=Fi re fun r h hw hR=>by
  unfold DC at h
  exact au
theorem nO:CK f250 (Rq [Ak 3] [0,1]<|Rq [Aa 4 0,Cd 5 4 0,Aa 6 5,Au 7 0 6,Aq 8 1 0 6,Ao 9 8 6,Bj 10 9 6,Cb 11 7 10 6,Ar 12 6 11,Aa 3 12] [3]<|.ret) [.tmp 3]:=by decide +kernel
instance u0 (a:Int) (c0:Types):Ct prog (Lq a c0) 250 [eI a,.pt (AU c0).cells] (fun r=>.sh (eB r)):=Fi nO fun r h hw hR=>by
  unfold Lq at h
  exact au
theorem mq:CK f216 (Rq [Af 2 0,Ae 4 0] [1,2]<|Sq (Rq [Ad 8 2 2,Ax 9 79 8,Aa 7 9,An 10 7 0,An 11 7 1,Aa 5 10,Aa 6 11] [1,2,6]<|Rq [Aa 12 6,Az 13 12 0] [1,2,6,13]<|Co 13 (Rq [Aa 14 6,Aa 4 14] [4]<|.ret)<|Sk [1,2])<|Sq (Rq [Aa 15 1,Dg 16 250 2,Av 17 81 15 16] [17]<|Co 17 (Rq [Ae 4 6] [4]<|.ret)<|Sk [])<|Rq [Ae 4 0] [4]<|.ret) [.tmp 4]:=by decide +kernel
instance uW (t:Types) (l:List Int):Ct prog (GA t l) 216 [AU t,lI l] (fun r=>.sh (eI r)):=Fi mq fun r h hw hR=>by
  unfold GA at h
  exact au
theorem mr:CK f217 (Rq [Bc 2 1] [0]<|Sq (Rq [Aa 3 0,Eg 4 3] [0,4]<|Co 4 (Rq [Bc 2 1] [2]<|.ret)<|Sk [0])<|Rq [Cp 5 1,Aa 6 0,Bg 7 1 5 6,Aw 2 7] [2]<|.ret) [.tmp 2]:=by decide +kernel
instance uX (s_0:List ByteArray):Ct prog (slices_Clone_string s_0) 217 [lB s_0] (fun r=>.own (lB r)):=Fi mr fun r h hw hR=>by
  unfold slices_Clone_string at h
  exact au
theorem li:CK f153 (Rq [Af 2 0,Bc 4 4,Ae 5 0] [1,2]<|Sq (Rq [Ad 9 2 2,Aa 10 1,Bf 11 1 10,Av 12 216 9 11,Aa 6 12] [1,2,6]<|Rq [Aa 13 6,Az 14 13 0] [1,2,6,14]<|Co 14 (Rq [Aa 15 6,Bc 4 4,Aa 5 15] [4,5]<|.ret)<|Sk [1,2])<|Rq [Ad 16 2 2,Aa 17 1,Gd 18 210 16 17,Ck 7 18] [7]<|Sq (Rq [Bw 19 7,Dq 20 19,Ae 21 0] [7,20,21]<|Bl 0<|Lo [7,20,21]<|Rq [Am 22 21 20] [7,20,21,22]<|Sq (Co 22 (Sk [7,20,21])<|Ex 0 [7])<|Sq (Bl 1<|Rq [Aa 23 21,Aa 8 23] [7,8,20,21]<|Re [Bw 24 7,Aa 25 8,Bw 26 7,Aa 27 8,Cq 28 26 27 4,⟨some 29,.xfa (.s 28) 3,none⟩,⟨some 30,.xld (.s 29),none⟩,Ax 31 217 30,Cq 32 24 25 4,⟨some 33,.xfa (.s 32) 3,none⟩,Et 33 31] [7,20,21])<|Re [Al 34 21 1,Aa 21 34] [7,20,21])<|Rq [Dx 35 7,Aw 4 35,Ae 5 0] [4,5]<|.ret) [.tmp 4,.tmp 5]:=by decide +kernel
instance tJ (t:Types) (a:Int):Ct prog (HH t a) 153 [AU t,eI a] (fun r=>.tp [lA r.1,eI r.2]):=Fi li fun r h hw hR=>by
  unfold HH at h
  have:HA 0 21 20 0 fun (i0:Int) (s0:List Attr)=>[(7,.xo 4 (List.map Ip s0)),(21,.tv (eI i0))]:=⟨⟩
  have:HS 31:=⟨⟩
  have:HX 33 fun (a:Attr) (v:List ByteArray)=>Attr.mk a.Name a.Low a.High v:=⟨⟩
  exact au
theorem rf:CK f86 (Rq [Af 3 0,Af 4 1,Af 5 2,Dy 6 0 0 1,Ak 7] [3,4,5,6]<|Sq (Rq [Ac 10 5 0,Ab 11 10,Ac 12 4 0,Ah 13 12 0,Ab 14 13,Ag 15 14,Bz 16 15 1,Fk 17 85 11 0 16,Be 18 17] [3,4,5,6,18]<|Co 18 (Rq [Fm 19 0 0 1,Aj 4 6 19,Ak 7] [6,7]<|.ret)<|Sk [3,4,5,6])<|Sq (Dr [8,9,20,21,22,23,24,25,26,27,28,29,30,31] [Ad 21 3 2,Ac 22 4 0,Ah 23 22 0,Ab 24 23,Ac 25 5 0,Ab 26 25,Ai 27 24 26 1,Ab 28 27,Av 29 153 21 28,Aa 20 29,An 30 20 0,An 31 20 1,Aw 8 30,Aa 9 31] [5,6,8])<|Sq (Rq [Ac 32 5 1,Ab 33 32,Aa 34 8,Ag 35 34,Bz 36 35 1,Fk 37 85 33 0 36,Be 38 37] [5,6,8,38]<|Co 38 (Rq [Fm 39 0 0 1,Aj 4 6 39,Ak 7] [6,7]<|.ret)<|Sk [5,6,8])<|Rq [Aa 40 8,Ac 41 5 1,Ab 42 41,Ai 43 40 42 4,Ad 44 43 4,Aj 4 6 44,Bt 7] [6,7]<|.ret) [.cell 6 (some 4),.tmp 7]:=by decide +kernel
instance wy (t:Types) (p:Pattern) (s_2:B4):Ct prog (FV t p s_2) 86 [AU t,A8 p,Kd s_2] (fun r=>.tp [Ip r.1,eB r.2]):=Fi rf fun r h hw hR=>by
  unfold FV at h
  exact au
theorem ms:CK f218 (Rq [Af 3 1,Ak 4] [0,3]<|Rq [Ac 5 3 0,Ab 6 5,⟨some 7,.bin (.i) .geq (.s 6) (.c (.int .i64 (-1))),none⟩,Aa 8 7,Ay 9 3 0 8,Ba 10 9 8,As 11 0 8,Er 12 10 11 8,Ap 13 8 12,Aa 14 13,Ay 15 3 1 14,Ba 16 15 14,⟨some 17,.bin (.i) .geq (.s 16) (.c (.int .i64 (-1000000))),some (14,true)⟩,Ap 18 14 17,Aa 19 18,Ay 20 3 1 19,Ba 21 20 19,Cm 22 21 1000000 19,Ap 23 19 22,Aa 4 23] [4]<|.ret) [.tmp 4]:=by decide +kernel
instance uY (n:Int) (t:Term):Ct prog (Io n t) 218 [eI n,QD t] (fun r=>.sh (eB r)):=Fi ms fun r h hw hR=>by
  unfold Io at h
  exact au
theorem lj:CK f154 (Rq [Af 3 1,Ae 4 0] [0,3]<|Sq (Bl 0<|Rq [Ac 6 3 0,Ab 7 6,Az 8 7 1,Aa 9 8,Ay 10 3 0 9,Ba 11 10 9,Gh 12 11 2 9,Ap 13 9 12,Aa 5 13] [0,3,5]<|Co 5 (Rq [Ae 4 1] [4]<|.ret)<|Rq [Aa 15 0,Ac 16 3 1,Ad 17 16 2,Av 18 218 15 17,Be 19 18,Aa 20 19,Au 21 0 20,Aq 22 3 3 20,Ci 23 22 2 20,Db 24 218 21 23 20,Br 25 24 20,Ar 26 20 25,Aa 14 26] [14]<|Co 14 (Rq [Ae 4 6] [4]<|.ret)<|Sk [])<|Rq [Ae 4 0] [4]<|.ret) [.tmp 4]:=by decide +kernel
instance tK (n:Int) (x_1:Test):Ct prog (JU n x_1) 154 [eI n,Jq x_1] (fun r=>.sh (eI r)):=Fi lj fun r h hw hR=>by
  unfold JU at h
  exact au
theorem rg:CK f87 (Rq [Ae 4 0] [0,1]<|Sq (Rq [Aa 8 0,Cd 9 8 0,Aa 10 9,Au 11 0 10,Cg 12 11 12 10,Ar 13 10 12] [0,1,13]<|Co 13 (Rq [Ae 4 6] [4]<|.ret)<|Sk [0,1])<|Sq (Rq [Aa 14 1,Ag 15 14,Bk 16 15 40] [0,1,16]<|Co 16 (Rq [Ae 4 3] [4]<|.ret)<|Sk [0,1])<|Sq (Rq [Aa 17 1,Ag 18 17,Ae 19 0] [0,17,18,19]<|Bl 0<|Lo [0,17,18,19]<|Rq [Am 20 19 18] [0,17,18,19,20]<|Sq (Co 20 (Sk [0,17,18,19])<|Ex 0 [])<|Sq (Bl 1<|Rq [Ai 21 17 19 5,Ad 22 21 5,Fo 6 0 0 0 0 0,Aj 5 6 22] [0,6,17,18,19]<|Rq [Aa 23 0,Ad 24 6 5,Av 25 154 23 24,Aa 7 25] [0,7,17,18,19]<|Rq [Aa 26 7,Az 27 26 0] [0,7,17,18,19,27]<|Co 27 (Rq [Aa 28 7,Aa 4 28] [4]<|.ret)<|Sk [0,17,18,19])<|Re [Al 29 19 1,Aa 19 29] [0,17,18,19])<|Rq [Ae 4 0] [4]<|.ret) [.tmp 4]:=by decide +kernel
instance wz (n:Int) (l:List Test):Ct prog (IP n l) 87 [eI n,lT l] (fun r=>.sh (eI r)):=Fi rg fun r h hw hR=>by
  unfold IP at h
  have:HA 0 19 18 0 fun (i0:Int) (_:Unit)=>[(19,.tv (eI i0))]:=⟨⟩
  exact au
theorem ll:CK f155 (Rq [Ae 4 0] [0,1]<|Sq (Rq [Aa 6 0,Ag 7 6,Ae 8 0] [0,1,7,8]<|Bl 0<|Lo [0,1,7,8]<|Rq [Am 9 8 7] [0,1,7,8,9]<|Sq (Co 9 (Sk [0,1,7,8])<|Ex 0 [])<|Sq (Bl 1<|Rq [Aa 10 8,Aa 5 10] [0,1,5,7,8]<|Rq [Aa 11 1,Aa 12 0,Aa 13 5,Ai 14 12 13 1,Ab 15 14,⟨some 16,.bin (.b) .eql (.s 11) (.s 15),none⟩] [0,1,5,7,8,16]<|Co 16 (Rq [Aa 17 5,Aa 4 17] [4]<|.ret)<|Sk [0,1,7,8])<|Re [Al 18 8 1,Aa 8 18] [0,1,7,8])<|Rq [Bu 4 (-1)] [4]<|.ret) [.tmp 4]:=by decide +kernel
instance tL (s_0:List Bool) (v_1:Bool):Ct prog (JO s_0 v_1) 155 [(eL 1 eB) s_0,eB v_1] (fun r=>.sh (eI r)):=Fi ll fun r h hw hR=>by
  unfold JO at h
  have:HA 0 8 7 0 fun (i0:Int) (_:Unit)=>[(8,.tv (eI i0))]:=⟨⟩
  exact au
theorem rh:CK f88 (Rq [Ak 4] [0,1]<|Rq [Aa 5 0,Aa 6 1,Av 7 155 5 6,Bq 8 7 0,Aa 4 8] [4]<|.ret) [.tmp 4]:=by decide +kernel
instance w4 (s_0:List Bool) (v_1:Bool):Ct prog (GN s_0 v_1) 88 [(eL 1 eB) s_0,eB v_1] (fun r=>.sh (eB r)):=Fi rh fun r h hw hR=>by
  unfold GN at h
  exact au
theorem qz:CK f39 (Rq [Af 2 0,Af 3 1,Ae 4 0] [2,3]<|Sq (Rq [Ad 15 2 2,Ax 16 79 15,Aa 14 16,An 17 14 0,An 18 14 1,Aa 5 17,Aa 6 18] [2,3,6]<|Rq [Aa 19 6,Az 20 19 0] [2,3,6,20]<|Co 20 (Rq [Aa 21 6,Aa 4 21] [4]<|.ret)<|Sk [2,3])<|Sq (Rq [Ac 22 3 0,Ad 23 22 2,Ax 24 80 23,Aa 7 24] [2,3,7]<|Rq [Aa 25 7,Az 26 25 0] [2,3,7,26]<|Co 26 (Rq [Aa 27 7,Aa 4 27] [4]<|.ret)<|Sk [2,3])<|Sq (Rq [Ac 28 3 0,Ah 29 28 0,Ab 30 29,Dg 31 82 2,Av 32 81 30 31,Aa 33 32,Aq 34 3 0 33,Bm 35 34 1 33,Ao 36 35 33,⟨some 37,.clo 84 [.s 2],some (33,false)⟩,Db 38 83 36 37 33,Ar 39 33 38] [2,3,39]<|Co 39 (Rq [Ae 4 13] [4]<|.ret)<|Sk [2,3])<|Sq (Rq [Ac 40 3 3,Ab 41 40,Hd 42 85 41 0 12,Be 43 42] [2,3,43]<|Co 43 (Rq [Ae 4 6] [4]<|.ret)<|Sk [2,3])<|Sq (Rq [Ac 44 3 2,Ab 45 44,Ag 46 45,Bk 47 46 10,Aa 48 47,Aq 49 3 4 48,Ao 50 49 48,Bj 51 50 48,Cg 52 51 10 48,Ar 53 48 52] [2,3,53]<|Co 53 (Rq [Ae 4 3] [4]<|.ret)<|Sk [2,3])<|Rq [Ac 54 3 3,Ab 55 54,Eu 56 1 55,Ck 8 56] [2,3,8]<|Sq (Rq [Ac 57 3 2,Ab 58 57,Ag 59 58,Ae 60 0] [2,3,8,58,59,60]<|Bl 0<|Lo [2,3,8,58,59,60]<|Rq [Am 61 60 59] [2,3,8,58,59,60,61]<|Sq (Co 61 (Sk [2,3,8,58,59,60])<|Ex 0 [3,8])<|Sq (Bl 1<|Rq [Ai 62 58 60 4,Ad 63 62 4,Dz 10 0 0 0 0,Aj 4 10 63] [2,3,8,10,58,59,60]<|Sq (Rq [Ad 65 2 2,Ad 66 3 5,Ad 67 10 4,Bi 68 86 65 66 67,Aa 64 68,An 69 64 0,An 70 64 1,Dy 11 0 0 1,Aj 4 11 69,Aa 12 70] [2,3,8,10,12,58,59,60]<|Rq [Aa 71 12,Be 72 71,Aa 73 72,Aq 74 10 2 73,Bm 75 74 0 73,Ao 76 75 73,Aq 77 3 3 73,Ao 78 77 73,Fp 79 78 1 73,⟨some 80,.call 85 [.s 76,.c (.int .i64 (-1)),.s 79],some (73,false)⟩,Br 81 80 73,Ar 82 73 81,Aa 83 82,Aq 84 10 2 83,Bm 85 84 1 83,Ao 86 85 83,⟨some 87,.call 85 [.s 86,.c (.int .i64 (-1000000)),.c (.int .i64 1000000)],some (83,false)⟩,Br 88 87 83,Ar 89 83 88] [2,3,8,10,58,59,60,89]<|Co 89 (Rq [Ae 4 6] [4]<|.ret)<|Sk [2,3,8,10,58,59,60])<|Rq [Ac 90 10 2,Ah 91 90 0,Ab 92 91,Bq 93 92 0] [2,3,8,10,58,59,60,93]<|Co 93 (Re [Bw 94 8,Ac 95 10 2,Ah 96 95 0,Ab 97 96,Cq 98 94 97 1,Eh 98] [2,3,8,58,59,60])<|Sk [2,3,8,58,59,60])<|Re [Al 99 60 1,Aa 60 99] [2,3,8,58,59,60])<|Sq (Rq [Ac 100 3 3,Ab 101 100,Ac 102 3 4,Ab 103 102,Av 104 87 101 103,Aa 13 104] [8,13]<|Rq [Aa 105 13,Az 106 105 0] [8,13,106]<|Co 106 (Rq [Aa 107 13,Aa 4 107] [4]<|.ret)<|Sk [8])<|Sq (Rq [Bw 108 8,⟨some 109,.calll 88 [.s 108,.c (.bool false)],none⟩] [109]<|Co 109 (Rq [Ae 4 9] [4]<|.ret)<|Sk [])<|Rq [Ae 4 0] [4]<|.ret) [.tmp 4]:=by decide +kernel
instance wF (t:Types) (p:Pattern):Ct prog (DZ t p) 39 [AU t,A8 p] (fun r=>.sh (eI r)):=Fi qz fun r h hw hR=>by
  unfold DZ at h
  have:HA 0 60 59 0 fun (i0:Int) (s0:List Bool)=>[(8,.xo 1 (List.map eB s0)),(60,.tv (eI i0))]:=⟨⟩
  exact au
theorem lm:CK f156 (Rq [Af 1 0,Ak 2] [1]<|Rq [Ac 4 1 4,Ad 5 4 5,Cr 3 1 3 4 0 5,Aj 5 3 5] [1,3]<|Rq [Ac 6 1 2,Ah 7 6 0,Ab 8 7,Ag 9 8,Ac 10 1 2,Ah 11 10 1,Ab 12 11,Ag 13 12,Bn 14 9 13,Ac 15 3 0,Ah 16 15 0,Ab 17 16,Ag 18 17,Bn 19 14 18,Ac 20 3 0,Ah 21 20 1,Ab 22 21,Ag 23 22,Bn 24 19 23,Ac 25 3 2,Ab 26 25,Ag 27 26,Bn 28 24 27,Ac 29 3 4,Ab 30 29,Ag 31 30,Bn 32 28 31,Bb 33 32 0,Aa 34 33,Ay 35 3 3 34,Ba 36 35 34,Cw 37 36 0 34,Ap 38 34 37,Aa 2 38] [2]<|.ret) [.tmp 2]:=by decide +kernel
instance tM (c:AA):Ct prog (FW c) 156 [AG c] (fun r=>.sh (eB r)):=Fi lm fun r h hw hR=>by
  unfold FW at h
  exact au
theorem mt:CK f219 (Rq [Ae 4 0] [0,1]<|Sq (Rq [Aa 6 0,Ag 7 6,Ae 8 0] [0,1,7,8]<|Bl 0<|Lo [0,1,7,8]<|Rq [Am 9 8 7] [0,1,7,8,9]<|Sq (Co 9 (Sk [0,1,7,8])<|Ex 0 [])<|Sq (Bl 1<|Rq [Aa 10 8,Aa 5 10] [0,1,5,7,8]<|Rq [Aa 11 1,Aa 12 0,Aa 13 5,Ai 14 12 13 9,Ad 15 14 9,Cv 16 11 15] [0,1,5,7,8,16]<|Co 16 (Rq [Aa 17 5,Aa 4 17] [4]<|.ret)<|Sk [0,1,7,8])<|Re [Al 18 8 1,Aa 8 18] [0,1,7,8])<|Rq [Bu 4 (-1)] [4]<|.ret) [.tmp 4]:=by decide +kernel
instance uZ (s_0:List AA) (f:AA->Option Bool) (f_f:FuncId) (k_f:List TV) [h_f:∀ (y0:AA),Ct prog (f y0) f_f (AG y0::k_f) (fun r=>.sh (eB r))]:Ct prog (DL s_0 f) 219 [C5 s_0,.clo f_f k_f] (fun r=>.sh (eI r)):=Fi mt fun r h hw hR=>by
  unfold DL at h
  have:HA 0 8 7 0 fun (i0:Int) (_:Unit)=>[(8,.tv (eI i0))]:=⟨⟩
  exact au
theorem ln:CK f157 (Rq [Ak 4] [0,1]<|Rq [Aa 5 0,Aa 6 1,Av 7 219 5 6,Bq 8 7 0,Aa 4 8] [4]<|.ret) [.tmp 4]:=by decide +kernel
instance tN (s_0:List AA) (f:AA->Option Bool) (f_f:FuncId) (k_f:List TV) [h_f:∀ (y0:AA),Ct prog (f y0) f_f (AG y0::k_f) (fun r=>.sh (eB r))]:Ct prog (BC s_0 f) 157 [C5 s_0,.clo f_f k_f] (fun r=>.sh (eB r)):=Fi ln fun r h hw hR=>by
  unfold BC at h
  exact au
theorem ri:CK f89 (Rq [Af 1 0,Ak 2] [1]<|Rq [Ac 5 1 1,Ab 6 5,Ag 7 6,Aa 3 7] [1,3]<|Rq [Ak 4] [1,3,4]<|Sq (Rq [Ac 8 1 0,Ab 9 8] [1,3,4,9]<|Bl 0<|Rq [Bb 11 9 1,Aa 10 11] [1,3,4,9,10]<|Co 10 (Re [Aa 12 3,Bb 13 12 0,Aa 14 13,Bh 15 1 9 14,Cc 16 156 15 14,Ap 17 14 16,Aa 4 17] [1,4])<|Rq [Bb 19 9 2,Aa 18 19] [1,3,4,9,18]<|Co 18 (Re [Aa 20 3,Bb 21 20 1,Aa 22 21,Bh 23 1 9 22,Cc 24 156 23 22,Ap 25 22 24,Aa 4 25] [1,4])<|Sq (Rq [Bb 27 9 3,Aa 26 27] [1,3,4,9,26]<|Co 26 (Sk [1,3,4,9,26])<|Re [Bb 28 9 4,Aa 26 28] [1,3,4,9,26])<|Co 26 (Re [Aa 29 3,Bq 30 29 1,Aa 31 30,Bh 32 1 9 31,Cc 33 156 32 31,Ap 34 31 33,Aa 4 34] [1,4])<|Rq [Bb 36 9 5,Aa 35 36] [1,3,4,35]<|Co 35 (Re [Aa 37 3,Bb 38 37 1,Aa 4 38] [1,4])<|Sk [1,4])<|Rq [Aa 39 4,Aa 40 39,Ay 41 1 1 40,Ba 42 41 40,⟨some 43,.call 157 [.s 42,.c (.clo 158 [])],some (40,true)⟩,Ea 44 43 40,Ap 45 40 44,Aa 2 45] [2]<|.ret) [.tmp 2]:=by decide +kernel
theorem lq:CK f158 (Rq [Af 1 0,Ak 2] [1]<|Rq [Ad 3 1 9,Ax 4 89 3,Be 5 4,Aa 2 5] [2]<|.ret) [.tmp 2]:=by decide +kernel
theorem qU (n:Nat) (_ih_89:∀ (c:AA),Ct prog (BO n c) 89 [AG c] (fun r=>.sh (eB r))) (_ih_158:∀ (k:AA),Ct prog (BR n k) 158 [AG k] (fun r=>.sh (eB r))) (c:AA):Ct prog (BO (n+1) c) 89 [AG c] (fun r=>.sh (eB r)):=Fi ri fun r h hw hR=>by
  unfold BO at h
  have:HJ 10 fun (w1:Bool)=>[(4,.tv (eB w1))]:=⟨⟩
  exact au
theorem kJ (n:Nat) (_ih_89:∀ (c:AA),Ct prog (BO n c) 89 [AG c] (fun r=>.sh (eB r))) (_ih_158:∀ (k:AA),Ct prog (BR n k) 158 [AG k] (fun r=>.sh (eB r))) (k:AA):Ct prog (BR (n+1) k) 158 [AG k] (fun r=>.sh (eB r)):=Fi lq fun r h hw hR=>by
  unfold BR at h
  exact au
theorem gk:∀ n:Nat,(∀ (c:AA),Ct prog (BO n c) 89 [AG c] (fun r=>.sh (eB r)))∧(∀ (k:AA),Ct prog (BR n k) 158 [AG k] (fun r=>.sh (eB r))):=by
  intro n
  induction n with
  | zero=>exact ⟨(fun c=>⟨fun _ h=>by cases h⟩),(fun k=>⟨fun _ h=>by cases h⟩)⟩
  | succ n ih=>exact ⟨qU n ih.1 ih.2,kJ n ih.1 ih.2⟩
instance w5 (c:AA):Ct prog (GH c) 89 [AG c] (fun r=>.sh (eB r)):=⟨fun r h=>by
  obtain ⟨N,hN⟩:=DE h
  exact ((gk N).1 c).snd r (hN N (Nat.le_refl _))⟩
instance tO (k:AA):Ct prog (Pg k) 158 [AG k] (fun r=>.sh (eB r)):=⟨fun r h=>by
  obtain ⟨N,hN⟩:=DE h
  exact ((gk N).2 k).snd r (hN N (Nat.le_refl _))⟩
theorem rj:CK f90 (Rq [Af 1 0,Ae 2 0,Ae 3 0] [1]<|Rq [Ae 4 1,Ae 5 0] [1,4,5]<|Sq (Rq [Ac 10 1 1,Ab 11 10,Ag 12 11,Ae 13 0] [1,4,5,11,12,13]<|Bl 0<|Lo [1,4,5,11,12,13]<|Rq [Am 14 13 12] [1,4,5,11,12,13,14]<|Sq (Co 14 (Sk [1,4,5,11,12,13])<|Ex 0 [1,4,5])<|Sq (Bl 1<|Rq [Ai 15 11 13 9,Ad 16 15 9,Bv 7 0 9 1 1 1 3 4 0 5,Aj 9 7 16] [1,4,5,7,11,12,13]<|Rq [Ad 18 7 9,Ax 19 90 18,Aa 17 19,An 20 17 0,An 21 17 1,Aa 8 20,Aa 9 21] [1,4,5,8,9,11,12,13]<|Re [Aa 22 4,Aa 23 8,Bn 24 22 23,Aa 25 5,Aa 26 9,Gi 27 25 26,Aa 4 24,Aa 5 27] [1,4,5,11,12,13])<|Re [Al 28 13 1,Aa 13 28] [1,4,5,11,12,13])<|Sq (Rq [Ac 29 1 0,Ab 30 29,Bb 31 30 5] [4,5,31]<|Co 31 (Re [Aa 32 5,Al 33 32 1,Aa 5 33] [4,5])<|Sk [4,5])<|Rq [Aa 34 4,Aa 35 5,Aa 2 34,Aa 3 35] [2,3]<|.ret) [.tmp 2,.tmp 3]:=by decide +kernel
theorem qW (n:Nat) (_ih_90:∀ (c:AA),Ct prog (CU n c) 90 [AG c] (fun r=>.tp [eI r.1,eI r.2])) (c:AA):Ct prog (CU (n+1) c) 90 [AG c] (fun r=>.tp [eI r.1,eI r.2]):=Fi rj fun r h hw hR=>by
  unfold CU at h
  have:HA 0 13 12 0 fun (i0:Int) (s0:Int × Int)=>[(4,.tv (eI s0.1)),(5,.tv (eI s0.2)),(13,.tv (eI i0))]:=⟨⟩
  have:HJ 31 fun (w1:Int)=>[(5,.tv (eI w1))]:=⟨⟩
  exact au
theorem qV:∀ n:Nat,(∀ (c:AA),Ct prog (CU n c) 90 [AG c] (fun r=>.tp [eI r.1,eI r.2])):=by
  intro n
  induction n with
  | zero=>exact (fun c=>⟨fun _ h=>by cases h⟩)
  | succ n ih=>exact qW n ih
instance w6 (c:AA):Ct prog (H3 c) 90 [AG c] (fun r=>.tp [eI r.1,eI r.2]):=⟨fun r h=>by
  obtain ⟨N,hN⟩:=DE h
  exact ((qV N) c).snd r (hN N (Nat.le_refl _))⟩
theorem q0:CK f40 (Rq [Af 1 0,Ae 2 0] [1]<|Sq (Rq [Ad 5 1 9,Ax 6 89 5,Be 7 6] [1,7]<|Co 7 (Rq [Ae 2 1] [2]<|.ret)<|Sk [1])<|Sq (Rq [Ad 9 1 9,Ax 10 90 9,Aa 8 10,An 11 8 0,An 12 8 1,Aa 3 11,Aa 4 12] [3,4]<|Rq [Aa 13 3,Bk 14 13 12,Aa 15 14,Au 16 4 15,Cg 17 16 3 15,Ar 18 15 17] [18]<|Co 18 (Rq [Ae 2 3] [2]<|.ret)<|Sk [])<|Rq [Ae 2 0] [2]<|.ret) [.tmp 2]:=by decide +kernel
instance wG (c:AA):Ct prog (EF c) 40 [AG c] (fun r=>.sh (eI r)):=Fi q0 fun r h hw hR=>by
  unfold EF at h
  exact au
theorem mu:CK f220 (Rq [Ae 4 0] [0,1]<|Sq (Rq [Aa 6 0,Ag 7 6,Ae 8 0] [0,1,7,8]<|Bl 0<|Lo [0,1,7,8]<|Rq [Am 9 8 7] [0,1,7,8,9]<|Sq (Co 9 (Sk [0,1,7,8])<|Ex 0 [])<|Sq (Bl 1<|Rq [Aa 10 8,Aa 5 10] [0,1,5,7,8]<|Rq [Aa 11 1,Aa 12 0,Aa 13 5,Ai 14 12 13 4,Ad 15 14 4,Cv 16 11 15] [0,1,5,7,8,16]<|Co 16 (Rq [Aa 17 5,Aa 4 17] [4]<|.ret)<|Sk [0,1,7,8])<|Re [Al 18 8 1,Aa 8 18] [0,1,7,8])<|Rq [Bu 4 (-1)] [4]<|.ret) [.tmp 4]:=by decide +kernel
instance ua (s_0:List B4) (f:B4->Option Bool) (f_f:FuncId) (k_f:List TV) [h_f:∀ (y0:B4),Ct prog (f y0) f_f (Kd y0::k_f) (fun r=>.sh (eB r))]:Ct prog (EL s_0 f) 220 [lS s_0,.clo f_f k_f] (fun r=>.sh (eI r)):=Fi mu fun r h hw hR=>by
  unfold EL at h
  have:HA 0 8 7 0 fun (i0:Int) (_:Unit)=>[(8,.tv (eI i0))]:=⟨⟩
  exact au
theorem lr:CK f159 (Rq [Ak 4] [0,1]<|Rq [Aa 5 0,Aa 6 1,Av 7 220 5 6,Bq 8 7 0,Aa 4 8] [4]<|.ret) [.tmp 4]:=by decide +kernel
instance tP (s_0:List B4) (f:B4->Option Bool) (f_f:FuncId) (k_f:List TV) [h_f:∀ (y0:B4),Ct prog (f y0) f_f (Kd y0::k_f) (fun r=>.sh (eB r))]:Ct prog (DG s_0 f) 159 [lS s_0,.clo f_f k_f] (fun r=>.sh (eB r)):=Fi lr fun r h hw hR=>by
  unfold DG at h
  exact au
theorem ls:CK f160 (Rq [Af 2 0,Ak 3] [1,2]<|Rq [Ac 4 2 2,Ah 5 4 0,Ab 6 5,Ab 7 1,Da 8 6 7,Aa 3 8] [3]<|.ret) [.tmp 3]:=by decide +kernel
instance tQ (s_0:B4) (c0:Int):Ct prog (IX s_0 c0) 160 [Kd s_0,.pt [eI c0]] (fun r=>.sh (eB r)):=Fi ls fun r h hw hR=>by
  unfold IX at h
  exact au
theorem rk:CK f91 (Rq [Af 3 0,Af 4 1,Ae 6 0] [2,3,4]<|Rq [Ad 9 3 2,Ad 10 4 5,Av 11 39 9 10,Aa 7 11] [2,4,7]<|Sq (Rq [Aa 12 7,Az 13 12 9] [2,4,7,13]<|Co 13 (Rq [Aa 14 7,Aa 6 14] [6]<|.ret)<|Sk [2,4,7])<|Sq (Rq [Aa 15 2,⟨some 8,.alc [⟨false,.int .i64 0⟩],none⟩,Aj 1 8 15,Eq 8] [4,7,8]<|Bl 0<|Lo [4,7,8]<|Sq (Rq [Ab 16 8,Ac 17 4 3,Ab 18 17,Am 19 16 18] [4,7,8,19]<|Co 19 (Sk [4,7,8])<|Ex 0 [])<|Sq (Bl 1<|Rq [Ac 22 4 2,Ab 23 22,Dg 24 160 8,Av 25 159 23 24,Be 26 25] [4,7,8,26]<|Co 26 (Rq [Aa 27 7,Aa 6 27] [6]<|.ret)<|Sk [4,7,8])<|Sq (Rq [Ab 28 8] [4,7,28]<|Re [⟨some 8,.alc [⟨false,.int .i64 0⟩],none⟩,Aj 1 8 28] [4,7,8])<|Re [Ab 20 8,Al 21 20 1,Aj 1 8 21,Eq 8] [4,7,8])<|Rq [Ae 6 0] [6]<|.ret) [.tmp 6]:=by decide +kernel
instance w7 (t:Types) (q:Pattern) (outer:Int):Ct prog (EB t q outer) 91 [AU t,A8 q,eI outer] (fun r=>.sh (eI r)):=Fi rk fun r h hw hR=>by
  unfold EB at h
  have:HW 0 fun (s0:Int)=>[(8,.tv (.pt [eI s0]))]:=⟨⟩
  exact au
theorem rl:CK f92 (Rq [Af 3 0,Af 4 1,Af 5 2,Ae 6 0] [3,4,5]<|Sq (Rq [Ad 15 3 2,Ax 16 80 15,Aa 7 16] [3,4,5,7]<|Rq [Aa 17 7,Az 18 17 0] [3,4,5,7,18]<|Co 18 (Rq [Aa 19 7,Aa 6 19] [6]<|.ret)<|Sk [3,4,5])<|Sq (Rq [Ad 20 4 2,Ax 21 80 20,Aa 8 21] [3,4,5,8]<|Rq [Aa 22 8,Az 23 22 0] [3,4,5,8,23]<|Co 23 (Rq [Aa 24 8,Aa 6 24] [6]<|.ret)<|Sk [3,4,5])<|Sq (Rq [Ac 25 5 0,Ab 26 25,Ag 27 26,Ac 28 3 0,Ab 29 28,Ag 30 29,Bo 31 27 30,Aa 32 31,Aq 33 5 1 32,Ao 34 33 32,Bj 35 34 32,Aq 36 3 1 32,Ao 37 36 32,Bj 38 37 32,Cx 39 35 38 32,Ar 40 32 39] [3,4,5,40]<|Co 40 (Rq [Ae 6 20] [6]<|.ret)<|Sk [3,4,5])<|Sq (Rq [Ac 41 5 0,Ab 42 41,Ag 43 42,Ae 44 0] [3,4,5,42,43,44]<|Bl 0<|Lo [3,4,5,42,43,44]<|Rq [Am 45 44 43] [3,4,5,42,43,44,45]<|Sq (Co 45 (Sk [3,4,5,42,43,44])<|Ex 0 [3,4,5])<|Sq (Bl 1<|Rq [Aa 46 44,Ai 47 42 44 1,Ab 48 47,Aa 9 46,Aa 10 48] [3,4,5,9,10,42,43,44]<|Sq (Rq [Aa 49 10,Cd 50 49 0,Aa 51 50,Au 52 10 51,Aq 53 4 0 51,Ao 54 53 51,Bj 55 54 51,Cb 56 52 55 51,Ar 57 51 56] [3,4,5,9,10,42,43,44,57]<|Co 57 (Rq [Ae 6 6] [6]<|.ret)<|Sk [3,4,5,9,10,42,43,44])<|Sq (Dr [58,59,60,61,62,63,64,65,66,67,68] [Ac 58 4 0,Ab 59 58,Aa 60 10,Ai 61 59 60 1,Ab 62 61,Ac 63 3 0,Ab 64 63,Aa 65 9,Ai 66 64 65 1,Ab 67 66,Bo 68 62 67] [3,4,5,42,43,44,68])<|Co 68 (Rq [Ae 6 13] [6]<|.ret)<|Sk [3,4,5,42,43,44])<|Re [Al 69 44 1,Aa 44 69] [3,4,5,42,43,44])<|Sq (Rq [Ac 70 5 1,Ab 71 70,Ag 72 71,Ae 73 0] [3,4,5,71,72,73]<|Bl 2<|Lo [3,4,5,71,72,73]<|Rq [Am 74 73 72] [3,4,5,71,72,73,74]<|Sq (Co 74 (Sk [3,4,5,71,72,73])<|Ex 2 [])<|Sq (Bl 3<|Rq [Aa 75 73,Ai 76 71 73 1,Ab 77 76,Aa 11 75,Aa 12 77] [3,4,5,11,12,71,72,73]<|Sq (Rq [Aa 78 12,Cd 79 78 0,Aa 80 79,Au 81 12 80,Aq 82 4 1 80,Ao 83 82 80,Bj 84 83 80,Cb 85 81 84 80,Ar 86 80 85] [3,4,5,11,12,71,72,73,86]<|Co 86 (Rq [Ae 6 6] [6]<|.ret)<|Sk [3,4,5,11,12,71,72,73])<|Sq (Dr [13,14,87,88,89,90,91,92,93,94,95,96] [Ac 87 3 1,Ab 88 87,Aa 89 11,Ai 90 88 89 3,Ad 91 90 3,Ac 92 4 1,Ab 93 92,Aa 94 12,Ai 95 93 94 3,Ad 96 95 3,Cl 13 0 0 0,Cl 14 0 0 0,Aj 3 13 91,Aj 3 14 96] [3,4,5,13,14,71,72,73])<|Sq (Rq [Ac 97 13 0,Ab 98 97,Ac 99 14 0,Ab 100 99,Bo 101 98 100] [3,4,5,13,14,71,72,73,101]<|Co 101 (Rq [Ae 6 13] [6]<|.ret)<|Sk [3,4,5,13,14,71,72,73])<|Sq (Dr [102,103,104,105,106,107,108,109,110,111,112,113,114,115,116,117,118,119,120,121] [Ac 102 5 0,Ab 103 102,Ac 104 13 1,Ab 105 104,Ai 106 103 105 1,Ab 107 106,Ac 108 14 1,Ab 109 108,Bo 110 107 109,Aa 111 110,Aq 112 5 0 111,Ao 113 112 111,Aq 114 13 2 111,Ao 115 114 111,Ce 116 113 115 1 111,Ao 117 116 111,Aq 118 14 2 111,Ao 119 118 111,Cx 120 117 119 111,Ar 121 111 120] [3,4,5,71,72,73,121])<|Co 121 (Rq [Ae 6 11] [6]<|.ret)<|Sk [3,4,5,71,72,73])<|Re [Al 122 73 1,Aa 73 122] [3,4,5,71,72,73])<|Rq [Ae 6 0] [6]<|.ret) [.tmp 6]:=by decide +kernel
instance w8 (a:Graph) (b:Graph) (m:Morphism):Ct prog (ET a b m) 92 [CC a,CC b,BU m] (fun r=>.sh (eI r)):=Fi rl fun r h hw hR=>by
  unfold ET at h
  have:HA 0 44 43 0 fun (i0:Int) (_:Unit)=>[(44,.tv (eI i0))]:=⟨⟩
  have:HA 2 73 72 0 fun (i2:Int) (_:Unit)=>[(73,.tv (eI i2))]:=⟨⟩
  exact au
theorem lR:CK f138 (Rq [Bc 2 1] [0]<|Sq (Rq [Aa 3 0,Eg 4 3] [0,4]<|Co 4 (Rq [Bc 2 1] [2]<|.ret)<|Sk [0])<|Rq [Cp 5 1,Aa 6 0,Bg 7 1 5 6,Aw 2 7] [2]<|.ret) [.tmp 2]:=by decide +kernel
instance s8 (s_0:List Int):Ct prog (slices_Clone_int s_0) 138 [lI s_0] (fun r=>.own (lI r)):=Fi lR fun r h hw hR=>by
  unfold slices_Clone_int at h
  exact au
theorem p4 (l r:List Int) (h:slices_Sort_int l=some r):AS prog 221 [.list 1 (l.map (TV.int .i64))] (.turn r):=by
  unfold slices_Sort_int at h
  rw [←bE] at h
  split at h
  · rename_i hl
    unfold BA at hl
    cases h
    refine ZZ (by rfl) (List.length_mergeSort _) (fun x hx=>List.mem_mergeSort.1 hx) (fun w hz=>?_) (fun g cap w _ _ hg hH=>Go.Proofs.Tryz.slices_Sort_int g 0 cap l w hH hg (by omega))
    subst hz
    exact Go.Proofs.Tryz.slices_Sort_int_none none 0 w
  · cases h
instance vc (l:List Int):Ct Go.Proofs.Tryz.prog (slices_Sort_int l) 221 [.list 1 (l.map (TV.int .i64))] CA.turn:=⟨p4 l⟩
theorem p5 (l r:List Int) (h:slices_Compact_int l=some r):AS prog 222 [.list 1 (l.map (TV.int .i64))] (.cut r):=by
  unfold slices_Compact_int at h
  split at h
  · rename_i hl
    unfold BA at hl
    cases h
    have hle:=Go.Lib.compact_length_le l
    refine gv (rest:=List.replicate (l.length - (Go.Lib.compact l).length) 0) (by rfl) (by rw [List.length_replicate]; omega) (fun x hx=>WV hx) (fun w hz=>?_) (fun g cap w hc _ hg hH=>Go.Proofs.Tryz.slices_Compact_int g 0 cap l w hH (by omega) hc)
    subst hz
    exact Go.Proofs.Tryz.slices_Compact_int_empty none 0 w
  · cases h
instance vd (l:List Int):Ct Go.Proofs.Tryz.prog (slices_Compact_int l) 222 [.list 1 (l.map (TV.int .i64))] CA.cut:=⟨p5 l⟩
theorem lu:CK f161 (Rq [Ae 2 0] [0]<|Rq [Aa 4 0,⟨some 5,.callx 138 [.s 4],none⟩,Ck 3 5] [3]<|Rq [Bw 6 3,⟨some 7,.callm 221 (.s 6),none⟩] [3]<|Rq [Bw 8 3,⟨some 9,.callc 222 (.s 8),none⟩,Dq 10 9,Aa 2 10] [2]<|.ret) [.tmp 2]:=by decide +kernel
instance tR (l:List Int):Ct prog (Hv l) 161 [lI l] (fun r=>.sh (eI r)):=Fi lu fun r h hw hR=>by
  unfold Hv at h
  exact au
theorem rm:CK f93 (Rq [Af 3 0,Af 4 1,Af 5 2,Ak 6] [3,4,5]<|Sq (Dr [6,7,8,9,10,11,12,13,14,15,16,17,18,19,20,21,22,23,24,25,26,27,28,29] [Ad 7 3 2,Ad 8 4 2,Ad 9 5 2,Bi 10 92 7 8 9,Bb 11 10 0,Aa 12 11,Ay 13 5 0 12,Ba 14 13 12,Cc 15 161 14 12,Ay 16 5 0 12,Ba 17 16 12,By 18 17 12,Dj 19 15 18 12,Ap 20 12 19,Aa 21 20,Ay 22 5 1 21,Ba 23 22 21,Cc 24 161 23 21,Ay 25 5 1 21,Ba 26 25 21,By 27 26 21,Dj 28 24 27 21,Ap 29 21 28,Aa 6 29] [6])<|.ret) [.tmp 6]:=by decide +kernel
instance w9 (a:Graph) (b:Graph) (m:Morphism):Ct prog (D1 a b m) 93 [CC a,CC b,BU m] (fun r=>.sh (eB r)):=Fi rm fun r h hw hR=>by
  unfold D1 at h
  exact au
theorem q5:CK f41 (Rq [Af 3 0,⟨some 4,.boxo (.s 1),none⟩,Af 5 2,Ae 6 0] [3,4,5]<|Sq (Rq [Ac 13 5 0,Ab 14 13,Bb 15 14 5] [3,4,5,15]<|Co 15 (Rq [Ac 16 5 4,Ad 17 16 5,Cr 7 1 3 4 0 5,Aj 5 7 17] [3,4,5,7]<|Sq (Rq [Ac 18 7 3,Ab 19 18,Ac 20 4 3,Ab 21 20,Am 22 19 21] [3,4,5,7,22]<|Co 22 (Rq [Ae 6 20] [6]<|.ret)<|Sk [3,4,5,7])<|Sq (Rq [Ad 23 3 2,Ad 24 7 5,Ac 25 4 3,Ab 26 25,Bi 27 91 23 24 26,Aa 8 27] [3,4,5,7,8]<|Rq [Aa 28 8,Az 29 28 0] [3,4,5,7,8,29]<|Co 29 (Rq [Aa 30 8,Aa 6 30] [6]<|.ret)<|Sk [3,4,5,7])<|Sq (Rq [Ac 31 4 0,Ad 32 31 2,Ac 33 7 0,Ad 34 33 2,Ac 35 5 2,Ad 36 35 2,Bi 37 92 32 34 36,Aa 9 37] [3,4,5,7,9]<|Rq [Aa 38 9,Az 39 38 0] [3,4,5,7,9,39]<|Co 39 (Rq [Aa 40 9,Aa 6 40] [6]<|.ret)<|Sk [3,4,5,7])<|Sq (Rq [Ac 41 4 0,Ad 42 41 2,Ac 43 7 0,Ad 44 43 2,Ac 45 5 2,Ad 46 45 2,Bi 47 93 42 44 46,Be 48 47] [3,4,5,7,48]<|Co 48 (Rq [Ae 6 1] [6]<|.ret)<|Sk [3,4,5,7])<|Re [Ad 49 7 5,Aj 5 4 49] [3,4,5])<|Sk [3,4,5])<|Sq (Rq [Ac 50 5 1,Ab 51 50,Ag 52 51,Ae 53 0] [3,4,51,52,53]<|Bl 0<|Lo [3,4,51,52,53]<|Rq [Am 54 53 52] [3,4,51,52,53,54]<|Sq (Co 54 (Sk [3,4,51,52,53])<|Ex 0 [])<|Sq (Bl 1<|Rq [Ai 55 51 53 9,Ad 56 55 9,Bv 11 0 9 1 1 1 3 4 0 5,Aj 9 11 56] [3,4,11,51,52,53]<|Rq [Ad 57 3 2,Ad 58 4 5,Ad 59 11 9,Bi 60 41 57 58 59,Aa 12 60] [3,4,12,51,52,53]<|Rq [Aa 61 12,Az 62 61 0] [3,4,12,51,52,53,62]<|Co 62 (Rq [Aa 63 12,Aa 6 63] [6]<|.ret)<|Sk [3,4,51,52,53])<|Re [Al 64 53 1,Aa 53 64] [3,4,51,52,53])<|Rq [Ae 6 0] [6]<|.ret) [.tmp 6]:=by decide +kernel
theorem qG (n:Nat) (_ih_41:∀ (t:Types) (p:Pattern) (c:AA),Ct prog (CE n t p c) 41 [AU t,A8 p,AG c] (fun r=>.sh (eI r))) (t:Types) (p:Pattern) (c:AA):Ct prog (CE (n+1) t p c) 41 [AU t,A8 p,AG c] (fun r=>.sh (eI r)):=Fi q5 fun r h hw hR=>by
  unfold CE at h
  have:HA 0 53 52 0 fun (i0:Int) (_:Unit)=>[(53,.tv (eI i0))]:=⟨⟩
  exact au
theorem qF:∀ n:Nat,(∀ (t:Types) (p:Pattern) (c:AA),Ct prog (CE n t p c) 41 [AU t,A8 p,AG c] (fun r=>.sh (eI r))):=by
  intro n
  induction n with
  | zero=>exact (fun t p c=>⟨fun _ h=>by cases h⟩)
  | succ n ih=>exact qG n ih
instance wH (t:Types) (p:Pattern) (c:AA):Ct prog (Jo t p c) 41 [AU t,A8 p,AG c] (fun r=>.sh (eI r)):=⟨fun r h=>by
  obtain ⟨N,hN⟩:=DE h
  exact ((qF N) t p c).snd r (hN N (Nat.le_refl _))⟩
theorem qf:CK f15 (Rq [Af 3 0,Af 4 1,Af 5 2,Ae 6 0] [3,4,5]<|Sq (Rq [Ad 9 3 2,Ad 10 4 5,Av 11 39 9 10,Aa 7 11] [3,4,5,7]<|Rq [Aa 12 7,Az 13 12 0] [3,4,5,7,13]<|Co 13 (Rq [Aa 14 7,Aa 6 14] [6]<|.ret)<|Sk [3,4,5])<|Sq (Rq [Ad 15 5 9,Ax 16 40 15,Aa 8 16] [3,4,5,8]<|Rq [Aa 17 8,Az 18 17 0] [3,4,5,8,18]<|Co 18 (Rq [Aa 19 8,Aa 6 19] [6]<|.ret)<|Sk [3,4,5])<|Rq [Ad 20 3 2,Ad 21 4 5,Ad 22 5 9,Bi 23 41 20 21 22,Aa 6 23] [6]<|.ret) [.tmp 6]:=by decide +kernel
instance vo (t:Types) (p:Pattern) (c:AA):Ct prog (D0 t p c) 15 [AU t,A8 p,AG c] (fun r=>.sh (eI r)):=Fi qf fun r h hw hR=>by
  unfold D0 at h
  exact au
theorem rS:CK f73 (Rq [Ak 4] [0,1]<|Sq (Rq [Aa 6 0,Ag 7 6,Aa 8 1,Ag 9 8,Bo 10 7 9] [0,1,10]<|Co 10 (Rq [Ak 4] [4]<|.ret)<|Sk [0,1])<|Sq (Rq [Aa 11 0,Ag 12 11,Ae 13 0] [0,1,12,13]<|Bl 0<|Lo [0,1,12,13]<|Rq [Am 14 13 12] [0,1,12,13,14]<|Sq (Co 14 (Sk [0,1,12,13])<|Ex 0 [])<|Sq (Bl 1<|Rq [Aa 15 13,Aa 5 15] [0,1,5,12,13]<|Sq (Dr [16,17,18,19,20,21,22,23,24] [Aa 16 0,Aa 17 5,Ai 18 16 17 1,Ab 19 18,Aa 20 1,Aa 21 5,Ai 22 20 21 1,Ab 23 22,Bo 24 19 23] [0,1,12,13,24])<|Co 24 (Rq [Ak 4] [4]<|.ret)<|Sk [0,1,12,13])<|Re [Al 25 13 1,Aa 13 25] [0,1,12,13])<|Rq [Bt 4] [4]<|.ret) [.tmp 4]:=by decide +kernel
instance wg (s1_0:List Int) (s2_1:List Int):Ct prog (ER s1_0 s2_1) 73 [lI s1_0,lI s2_1] (fun r=>.sh (eB r)):=Fi rS fun r h hw hR=>by
  unfold ER at h
  have:HA 0 13 12 0 fun (i0:Int) (_:Unit)=>[(13,.tv (eI i0))]:=⟨⟩
  exact au
theorem l8:CK f173 (Rq [Af 3 0,Ae 6 0] [1,2,3]<|Sq (Rq [Aa 11 1,Ac 12 3 0,Ab 13 12,Ag 14 13,Dc 15 11 14] [1,2,3,15]<|Co 15 (Rq [Ae 6 6] [6]<|.ret)<|Sk [1,2,3])<|Sq (Rq [Ac 16 3 0,Ab 17 16,Aa 18 1,Ai 19 17 18 4,Ah 20 19 2,Ab 21 20] [1,2,3,21]<|Co 21 (Rq [Ae 6 13] [6]<|.ret)<|Sk [1,2,3])<|Rq [Ad 23 3 2,Aa 24 1,Av 25 153 23 24,Aa 22 25,An 26 22 0,An 27 22 1,Aw 7 26,Aa 8 27] [2,7]<|Sq (Rq [Aa 28 2,Ag 29 28,Aa 30 7,Ag 31 30,Bo 32 29 31] [2,7,32]<|Co 32 (Rq [Ae 6 20] [6]<|.ret)<|Sk [2,7])<|Sq (Rq [Aa 33 7,Ag 34 33,Ae 35 0] [2,33,34,35]<|Bl 0<|Lo [2,33,34,35]<|Rq [Am 36 35 34] [2,33,34,35,36]<|Sq (Co 36 (Sk [2,33,34,35])<|Ex 0 [])<|Sq (Bl 1<|Rq [Aa 37 35,Ai 38 33 35 4,Ad 39 38 4,Dy 10 0 0 1,Aa 9 37,Aj 4 10 39] [2,9,10,33,34,35]<|Sq (Dr [40,41,42,43,44,45,46,47,48,49,50,51,52,53,54,55] [Aa 40 2,Aa 41 9,Ai 42 40 41 1,Ab 43 42,Ac 44 10 1,Ab 45 44,Am 46 43 45,Aa 47 46,Au 48 2 47,Au 49 9 47,Ce 50 48 49 1 47,Ao 51 50 47,Aq 52 10 2 47,Ao 53 52 47,⟨some 54,.bin (.i) .gtr (.s 51) (.s 53),some (47,false)⟩,Ar 55 47 54] [2,33,34,35,55])<|Co 55 (Rq [Ae 6 6] [6]<|.ret)<|Sk [2,33,34,35])<|Re [Al 56 35 1,Aa 35 56] [2,33,34,35])<|Rq [Ae 6 0] [6]<|.ret) [.tmp 6]:=by decide +kernel
instance tc (t:Types) (kind:Int) (BD:List Int):Ct prog (Jf t kind BD) 173 [AU t,eI kind,lI BD] (fun r=>.sh (eI r)):=Fi l8 fun r h hw hR=>by
  unfold Jf at h
  have:HA 0 35 34 0 fun (i0:Int) (_:Unit)=>[(35,.tv (eI i0))]:=⟨⟩
  exact au
theorem nX:CK f265 (Rq [Ae 4 0] [0,1]<|Sq (Rq [Aa 6 0,Ag 7 6,Ae 8 0] [0,1,7,8]<|Bl 0<|Lo [0,1,7,8]<|Rq [Am 9 8 7] [0,1,7,8,9]<|Sq (Co 9 (Sk [0,1,7,8])<|Ex 0 [])<|Sq (Bl 1<|Rq [Aa 10 8,Aa 5 10] [0,1,5,7,8]<|Rq [Aa 11 1,Aa 12 0,Aa 13 5,Ai 14 12 13 1,Ab 15 14,Da 16 11 15] [0,1,5,7,8,16]<|Co 16 (Rq [Aa 17 5,Aa 4 17] [4]<|.ret)<|Sk [0,1,7,8])<|Re [Al 18 8 1,Aa 8 18] [0,1,7,8])<|Rq [Bu 4 (-1)] [4]<|.ret) [.tmp 4]:=by decide +kernel
instance vC (s_0:List Int) (v_1:Int):Ct prog (IW s_0 v_1) 265 [lI s_0,eI v_1] (fun r=>.sh (eI r)):=Fi nX fun r h hw hR=>by
  unfold IW at h
  have:HA 0 8 7 0 fun (i0:Int) (_:Unit)=>[(8,.tv (eI i0))]:=⟨⟩
  exact au
theorem nF:CK f241 (Rq [Ak 4] [0,1]<|Rq [Aa 5 0,Aa 6 1,Av 7 265 5 6,Bq 8 7 0,Aa 4 8] [4]<|.ret) [.tmp 4]:=by decide +kernel
instance uq (s_0:List Int) (v_1:Int):Ct prog (DI s_0 v_1) 241 [lI s_0,eI v_1] (fun r=>.sh (eB r)):=Fi nF fun r h hw hR=>by
  unfold DI at h
  exact au
theorem p7 (l r:List Int) (h:slices_Reverse_int l=some r):AS prog 282 [.list 1 (l.map (TV.int .i64))] (.turn r):=by
  unfold slices_Reverse_int at h
  split at h
  · rename_i hl
    unfold BA at hl
    cases h
    refine ZZ (by rfl) List.length_reverse (fun x hx=>List.mem_reverse.1 hx) (fun w hz=>?_) (fun g cap w _ _ hg hH=>(Go.Proofs.Tryz.slices_Reverse_int g 0 cap l w hH (by omega)).mono ?_)
    · subst hz
      exact Go.Proofs.Tryz.slices_Reverse_int_empty none 0 w
    · rintro e w' ⟨h1,q,h2⟩
      exact ⟨h1,q,#[],by rw [Go.Sort.grow_empty]; exact h2⟩
  · cases h
instance vf (l:List Int):Ct Go.Proofs.Tryz.prog (slices_Reverse_int l) 282 [.list 1 (l.map (TV.int .i64))] CA.turn:=⟨p7 l⟩
theorem nR:CK f256 (Rq [Af 2 0,Bc 4 1] [1,2]<|Rq [⟨some 5,.nilx 1,none⟩] [1,2,5]<|Sq (Bl 0<|Lo [1,2,5]<|Sq (Rq [Aa 6 1,Bq 7 6 0] [1,2,5,7]<|Co 7 (Sk [1,2,5])<|Ex 0 [5])<|Sq (Bl 1<|Re [Ck 14 5,Aa 15 1,Bf 16 1 15,Fh 17 1 14 16,Ck 5 17] [1,2,5])<|Re [Ac 8 2 0,Ab 9 8,Aa 10 1,Ai 11 9 10 4,Ah 12 11 1,Ab 13 12,Aa 1 13] [1,2,5])<|Rq [Bw 18 5,⟨some 19,.callm 282 (.s 18),none⟩] [5]<|Rq [Dx 20 5,Aw 4 20] [4]<|.ret) [.tmp 4]:=by decide +kernel
instance u5 (t:Types) (a:Int):Ct prog (Jz t a) 256 [AU t,eI a] (fun r=>.own (lI r)):=Fi nR fun r h hw hR=>by
  unfold Jz at h
  have:HW 0 fun (s0:Int × List Int)=>[(1,.tv (eI s0.1)),(5,.xo 1 (List.map eI s0.2))]:=⟨⟩
  exact au
theorem m7:CK f229 (Rq [Af 3 0,Ak 6] [1,2,3]<|Rq [Ad 7 3 2,Aa 8 1,Av 9 256 7 8,Aa 10 2,Av 11 241 9 10,Aa 6 11] [6]<|.ret) [.tmp 6]:=by decide +kernel
instance ug (t:Types) (a:Int) (b:Int):Ct prog (JF t a b) 229 [AU t,eI a,eI b] (fun r=>.sh (eB r)):=Fi m7 fun r h hw hR=>by
  unfold JF at h
  exact au
theorem l9:CK f174 (Rq [Af 4 0,Ak 8] [1,2,3,4]<|Sq (Rq [Ad 9 4 2,Aa 10 2,Aa 11 3,Eb 12 1 10 11,Av 13 216 9 12,Az 14 13 0,Aa 15 14,Au 16 1 15,He 17 16 0 15,Ar 18 15 17,Aa 19 18,Au 20 1 19,Aq 21 4 1 19,Ao 22 21 19,Bj 23 22 19,Cb 24 20 23 19,Ar 25 19 24] [1,2,3,4,25]<|Co 25 (Rq [Ak 8] [8]<|.ret)<|Sk [1,2,3,4])<|Sq (Dr [8,26,27,28,29,30,31,32,33,34,35,36,37,38,39,40,41,42,43,44,45] [Ad 26 4 2,Aa 27 2,Ac 28 4 1,Ab 29 28,Aa 30 1,Ai 31 29 30 7,Ah 32 31 1,Ab 33 32,Bi 34 229 26 27 33,Aa 35 34,Bh 36 4 2 35,As 37 3 35,Ay 38 4 1 35,Ba 39 38 35,As 40 1 35,Dk 41 39 40 7 35,Bx 42 41 2 35,Ba 43 42 35,Ei 44 229 36 37 43 35,Ap 45 35 44,Aa 8 45] [8])<|.ret) [.tmp 8]:=by decide +kernel
instance td (t:Types) (edge:Int) (from':Int) (to':Int):Ct prog (I4 t edge from' to') 174 [AU t,eI edge,eI from',eI to'] (fun r=>.sh (eB r)):=Fi l9 fun r h hw hR=>by
  unfold I4 at h
  exact au
theorem ki:CK f108 (Rq [Af 2 0,Af 3 1,Ae 4 0,Ae 5 0] [2,3]<|Sq (Rq [Ad 15 2 2,Ax 16 79 15,Aa 14 16,An 17 14 0,An 18 14 1,Aa 6 17,Aa 7 18] [2,3,7]<|Rq [Aa 19 7,Az 20 19 0] [2,3,7,20]<|Co 20 (Rq [Aa 21 7,Bu 4 (-1),Aa 5 21] [4,5]<|.ret)<|Sk [2,3])<|Sq (Rq [Ac 22 3 0,Ad 23 22 2,Ax 24 80 23,Aa 8 24] [2,3,8]<|Rq [Aa 25 8,Az 26 25 0] [2,3,8,26]<|Co 26 (Rq [Aa 27 8,Bu 4 (-1),Aa 5 27] [4,5]<|.ret)<|Sk [2,3])<|Sq (Rq [Ac 28 3 2,Ab 29 28,Ag 30 29,Ac 31 3 0,Ah 32 31 0,Ab 33 32,Ag 34 33,Bo 35 30 34] [2,3,35]<|Co 35 (Rq [Bu 4 (-1),Ae 5 20] [4,5]<|.ret)<|Sk [2,3])<|Sq (Rq [Ac 36 3 0,Ah 37 36 0,Ab 38 37,Ag 39 38,Ae 40 0] [2,3,38,39,40]<|Bl 0<|Lo [2,3,38,39,40]<|Rq [Am 41 40 39] [2,3,38,39,40,41]<|Sq (Co 41 (Sk [2,3,38,39,40])<|Ex 0 [2,3])<|Sq (Bl 1<|Rq [Aa 42 40,Ai 43 38 40 1,Ab 44 43,Aa 9 42,Aa 10 44] [2,3,9,10,38,39,40]<|Sq (Dr [11,45,46,47,48,49,50,51,52] [Ad 45 2 2,Aa 46 10,Ac 47 3 2,Ab 48 47,Aa 49 9,Ai 50 48 49 1,Ab 51 50,Bi 52 173 45 46 51,Aa 11 52] [2,3,9,11,38,39,40])<|Rq [Aa 53 11,Az 54 53 0] [2,3,9,11,38,39,40,54]<|Co 54 (Rq [Aa 55 9,Aa 56 11,Aa 4 55,Aa 5 56] [4,5]<|.ret)<|Sk [2,3,38,39,40])<|Re [Al 57 40 1,Aa 40 57] [2,3,38,39,40])<|Sq (Rq [Ac 58 3 0,Ah 59 58 1,Ab 60 59,Ag 61 60,Ae 62 0] [2,3,60,61,62]<|Bl 2<|Lo [2,3,60,61,62]<|Rq [Am 63 62 61] [2,3,60,61,62,63]<|Sq (Co 63 (Sk [2,3,60,61,62])<|Ex 2 [])<|Sq (Bl 3<|Rq [Aa 64 62,Ai 65 60 62 3,Ad 66 65 3,Cl 13 0 0 0,Aa 12 64,Aj 3 13 66] [2,3,12,13,60,61,62]<|Sq (Rq [Ac 67 13 0,Ab 68 67,Ac 69 2 1,Ab 70 69,Ag 71 70,Dc 72 68 71] [2,3,12,13,60,61,62,72]<|Co 72 (Rq [Aa 73 12,Aa 4 73,Ae 5 6] [4,5]<|.ret)<|Sk [2,3,12,13,60,61,62])<|Sq (Dr [74,75,76,77,78,79,80,81,82,83,84,85,86,87,88,89,90,91,92] [Ad 74 2 2,Ac 75 13 0,Ab 76 75,Ac 77 3 0,Ah 78 77 0,Ab 79 78,Ac 80 13 1,Ab 81 80,Ai 82 79 81 1,Ab 83 82,Ac 84 3 0,Ah 85 84 0,Ab 86 85,Ac 87 13 2,Ab 88 87,Ai 89 86 88 1,Ab 90 89,Cs 91 174 74 76 83 90,Be 92 91] [2,3,12,60,61,62,92])<|Co 92 (Rq [Aa 93 12,Aa 4 93,Ae 5 13] [4,5]<|.ret)<|Sk [2,3,60,61,62])<|Re [Al 94 62 1,Aa 62 94] [2,3,60,61,62])<|Rq [Bu 4 (-1),Ae 5 0] [4,5]<|.ret) [.tmp 4,.tmp 5]:=by decide +kernel
instance sU (t:Types) (h_1:A0):Ct prog (H6 t h_1) 108 [AU t,Ir h_1] (fun r=>.tp [eI r.1,eI r.2]):=Fi ki fun r h hw hR=>by
  unfold H6 at h
  have:HA 0 40 39 0 fun (i0:Int) (_:Unit)=>[(40,.tv (eI i0))]:=⟨⟩
  have:HA 2 62 61 0 fun (i2:Int) (_:Unit)=>[(62,.tv (eI i2))]:=⟨⟩
  exact au
theorem mR:CK f195 (Rq [Ak 3] [0,1]<|Rq [Aa 4 0,Ac 5 1 0,Ab 6 5,Ag 7 6,Dc 8 4 7,Aa 3 8] [3]<|.ret) [.tmp 3]:=by decide +kernel
instance uB (n:Int) (c0:Types):Ct prog (Kh n c0) 195 [eI n,.pt (AU c0).cells] (fun r=>.sh (eB r)):=Fi mR fun r h hw hR=>by
  unfold Kh at h
  exact au
theorem mS:CK f196 (Rq [Af 2 0,Ak 3] [1,2]<|Rq [Ac 4 2 0,Ab 5 4,Ac 6 1 1,Ab 7 6,Ag 8 7,Dc 9 5 8,Aa 3 9] [3]<|.ret) [.tmp 3]:=by decide +kernel
instance uC (x_0:BX) (c0:Types):Ct prog (Ki x_0 c0) 196 [EM x_0,.pt (AU c0).cells] (fun r=>.sh (eB r)):=Fi mS fun r h hw hR=>by
  unfold Ki at h
  exact au
theorem lJ:CK f131 (Rq [Af 2 0,Af 3 1,Ak 4] [2,3]<|Rq [Ac 5 3 0,Ab 6 5,Dg 7 195 2,Av 8 81 6 7,Be 9 8,Aa 10 9,Ay 11 3 1 10,Ba 12 11 10,⟨some 13,.clo 196 [.s 2],some (10,true)⟩,Dn 14 83 12 13 10,Ea 15 14 10,Ap 16 10 15,Aa 4 16] [4]<|.ret) [.tmp 4]:=by decide +kernel
instance sv (t:Types) (g:Graph):Ct prog (FO t g) 131 [AU t,CC g] (fun r=>.sh (eB r)):=Fi lJ fun r h hw hR=>by
  unfold FO at h
  exact au
theorem rL:CK f62 (Rq [Af 3 0,Af 4 1,Af 5 2,Ae 6 0] [3,4,5]<|Sq (Rq [Ad 13 3 2,Ax 14 79 13,Aa 12 14,An 15 12 0,An 16 12 1,Aa 7 15,Aa 8 16] [3,4,5,8]<|Rq [Aa 17 8,Az 18 17 0] [3,4,5,8,18]<|Co 18 (Rq [Aa 19 8,Aa 6 19] [6]<|.ret)<|Sk [3,4,5])<|Sq (Rq [Ad 20 4 2,Ad 21 5 2,Eb 22 2 20 21,Ag 23 22,Ae 24 0] [3,4,5,22,23,24]<|Bl 0<|Lo [3,4,5,22,23,24]<|Rq [Am 25 24 23] [3,4,5,22,23,24,25]<|Sq (Co 25 (Sk [3,4,5,22,23,24])<|Ex 0 [3,4,5])<|Sq (Bl 1<|Rq [Ai 26 22 24 2,Ad 27 26 2,Ca 10 1 3,Aj 2 10 27] [3,4,5,10,22,23,24]<|Rq [Ad 28 10 2,Ax 29 80 28,Aa 11 29] [3,4,5,11,22,23,24]<|Rq [Aa 30 11,Az 31 30 0] [3,4,5,11,22,23,24,31]<|Co 31 (Rq [Aa 32 11,Aa 6 32] [6]<|.ret)<|Sk [3,4,5,22,23,24])<|Re [Al 33 24 1,Aa 24 33] [3,4,5,22,23,24])<|Sq (Rq [Ad 34 3 2,Ad 35 4 2,Av 36 131 34 35,Be 37 36,Aa 38 37,Ci 39 3 2 38,Ci 40 5 2 38,Db 41 131 39 40 38,Br 42 41 38,Ar 43 38 42] [43]<|Co 43 (Rq [Ae 6 13] [6]<|.ret)<|Sk [])<|Rq [Ae 6 0] [6]<|.ret) [.tmp 6]:=by decide +kernel
instance wY (t:Types) (p:Graph) (g:Graph):Ct prog (GM t p g) 62 [AU t,CC p,CC g] (fun r=>.sh (eI r)):=Fi rL fun r h hw hR=>by
  unfold GM at h
  have:HA 0 24 23 0 fun (i0:Int) (_:Unit)=>[(24,.tv (eI i0))]:=⟨⟩
  exact au
theorem nD:CK f239 (Rq [Af 2 0,Bc 4 1,Ae 5 0] [1,2]<|Sq (Rq [Ad 9 2 2,Aa 10 1,Bf 11 1 10,Av 12 216 9 11,Aa 6 12] [1,2,6]<|Rq [Aa 13 6,Az 14 13 0] [1,2,6,14]<|Co 14 (Rq [Aa 15 6,Bc 4 1,Aa 5 15] [4,5]<|.ret)<|Sk [1,2])<|Rq [Bc 7 1] [1,2,7]<|Sq (Rq [Ac 16 2 0,Ab 17 16,Ag 18 17,Ae 19 0] [1,2,7,18,19]<|Bl 0<|Lo [1,2,7,18,19]<|Rq [Am 20 19 18] [1,2,7,18,19,20]<|Sq (Co 20 (Sk [1,2,7,18,19])<|Ex 0 [7])<|Sq (Bl 1<|Rq [Aa 21 19,Aa 8 21] [1,2,7,8,18,19]<|Rq [Ad 22 2 2,Aa 23 8,Aa 24 1,Bi 25 229 22 23 24] [1,2,7,8,18,19,25]<|Co 25 (Re [Aw 26 7,Aa 27 8,Bf 28 1 27,Bg 29 1 26 28,Aw 7 29] [1,2,7,18,19])<|Sk [1,2,7,18,19])<|Re [Al 30 19 1,Aa 19 30] [1,2,7,18,19])<|Rq [Aa 31 7,Aw 4 31,Ae 5 0] [4,5]<|.ret) [.tmp 4,.tmp 5]:=by decide +kernel
instance um (t:Types) (a:Int):Ct prog (IE t a) 239 [AU t,eI a] (fun r=>.tp [lI r.1,eI r.2]):=Fi nD fun r h hw hR=>by
  unfold IE at h
  have:HA 0 19 18 0 fun (i0:Int) (s0:List Int)=>[(7,.ow (lI s0)),(19,.tv (eI i0))]:=⟨⟩
  exact au
theorem mT:CK f197 (Rq [Af 1 0,Bc 2 1] [1]<|Rq [Bc 3 1] [1,3]<|Sq (Rq [Ac 10 1 0,Ab 11 10,Ag 12 11,Ae 13 0] [1,3,12,13]<|Bl 0<|Lo [1,3,12,13]<|Rq [Am 14 13 12] [1,3,12,13,14]<|Sq (Co 14 (Sk [1,3,12,13])<|Ex 0 [3])<|Sq (Bl 1<|Rq [Aa 15 13,Aa 4 15] [1,3,4,12,13]<|Rq [Ac 16 1 0,Ab 17 16,Ag 18 17,Eu 19 1 18,Ck 5 19] [1,3,4,5,12,13]<|Rq [Ad 21 1 2,Aa 22 4,Av 23 239 21 22,Aa 20 23,An 24 20 0,An 25 20 1,Aw 6 24,Aa 7 25] [1,3,5,6,12,13]<|Sq (Rq [Aa 26 6,Ag 27 26,Ae 28 0] [1,3,5,12,13,26,27,28]<|Bl 2<|Lo [1,3,5,12,13,26,27,28]<|Rq [Am 29 28 27] [1,3,5,12,13,26,27,28,29]<|Sq (Co 29 (Sk [1,3,5,12,13,26,27,28])<|Ex 2 [1,3,5,12,13])<|Sq (Bl 3<|Rq [Ai 30 26 28 1,Ab 31 30,Aa 9 31] [1,3,5,9,12,13,26,27,28]<|Re [Bw 32 5,Aa 33 9,Cq 34 32 33 1,Eh 34] [1,3,5,12,13,26,27,28])<|Re [Al 35 28 1,Aa 28 35] [1,3,5,12,13,26,27,28])<|Re [Aw 36 3,Dx 37 5,Bf 38 1 37,Bg 39 1 36 38,Aw 3 39] [1,3,12,13])<|Re [Al 40 13 1,Aa 13 40] [1,3,12,13])<|Rq [Aa 41 3,Aw 2 41] [2]<|.ret) [.tmp 2]:=by decide +kernel
instance uD (t:Types):Ct prog (GL t) 197 [AU t] (fun r=>.sh ((eL 1 (eL 1 eB)) r)):=Fi mT fun r h hw hR=>by
  unfold GL at h
  have:HA 0 13 12 0 fun (i0:Int) (s0:List (List Bool))=>[(3,.ow ((eL 1 (eL 1 eB)) s0)),(13,.tv (eI i0))]:=⟨⟩
  have:HA 2 28 27 0 fun (i2:Int) (s2:List Bool)=>[(5,.xo 1 (List.map eB s2)),(28,.tv (eI i2))]:=⟨⟩
  exact au
theorem mA:CK f175 (Rq [Af 4 0,Af 5 1,Af 6 2,Af 7 3,Ae 8 0] [4,5,6,7]<|Sq (Rq [Ac 16 7 0,Ab 17 16,Ag 18 17,Ac 19 5 0,Ab 20 19,Ag 21 20,Bo 22 18 21,Aa 23 22,Aq 24 7 1 23,Ao 25 24 23,Bj 26 25 23,Aq 27 5 1 23,Ao 28 27 23,Bj 29 28 23,Cx 30 26 29 23,Ar 31 23 30] [4,5,6,7,31]<|Co 31 (Rq [Ae 8 20] [8]<|.ret)<|Sk [4,5,6,7])<|Rq [Ad 32 4 2,Ax 33 197 32,Aw 9 33] [5,6,7,9]<|Sq (Rq [Ac 34 7 0,Ab 35 34,Ag 36 35,Ae 37 0] [5,6,7,9,35,36,37]<|Bl 0<|Lo [5,6,7,9,35,36,37]<|Rq [Am 38 37 36] [5,6,7,9,35,36,37,38]<|Sq (Co 38 (Sk [5,6,7,9,35,36,37])<|Ex 0 [5,6,7])<|Sq (Bl 1<|Rq [Aa 39 37,Ai 40 35 37 1,Ab 41 40,Aa 10 39,Aa 11 41] [5,6,7,9,10,11,35,36,37]<|Sq (Rq [Aa 42 11,Cd 43 42 0,Aa 44 43,Au 45 11 44,Aq 46 6 0 44,Ao 47 46 44,Bj 48 47 44,Cb 49 45 48 44,Ar 50 44 49] [5,6,7,9,10,11,35,36,37,50]<|Co 50 (Rq [Ae 8 6] [8]<|.ret)<|Sk [5,6,7,9,10,11,35,36,37])<|Sq (Dr [51,52,53,54,55,56,57,58,59,60,61,62,63,64,65,66] [Aa 51 9,Ac 52 5 0,Ab 53 52,Aa 54 10,Ai 55 53 54 1,Ab 56 55,Ai 57 51 56 1,Ab 58 57,Ac 59 6 0,Ab 60 59,Aa 61 11,Ai 62 60 61 1,Ab 63 62,Ai 64 58 63 1,Ab 65 64,Be 66 65] [5,6,7,9,35,36,37,66])<|Co 66 (Rq [Ae 8 13] [8]<|.ret)<|Sk [5,6,7,9,35,36,37])<|Re [Al 67 37 1,Aa 37 67] [5,6,7,9,35,36,37])<|Sq (Rq [Ac 68 7 1,Ab 69 68,Ag 70 69,Ae 71 0] [5,6,7,69,70,71]<|Bl 2<|Lo [5,6,7,69,70,71]<|Rq [Am 72 71 70] [5,6,7,69,70,71,72]<|Sq (Co 72 (Sk [5,6,7,69,70,71])<|Ex 2 [])<|Sq (Bl 3<|Rq [Aa 73 71,Ai 74 69 71 1,Ab 75 74,Aa 12 73,Aa 13 75] [5,6,7,12,13,69,70,71]<|Sq (Rq [Aa 76 13,Cd 77 76 0,Aa 78 77,Au 79 13 78,Aq 80 6 1 78,Ao 81 80 78,Bj 82 81 78,Cb 83 79 82 78,Ar 84 78 83] [5,6,7,12,13,69,70,71,84]<|Co 84 (Rq [Ae 8 6] [8]<|.ret)<|Sk [5,6,7,12,13,69,70,71])<|Sq (Dr [14,15,85,86,87,88,89,90,91,92,93,94] [Ac 85 5 1,Ab 86 85,Aa 87 12,Ai 88 86 87 3,Ad 89 88 3,Ac 90 6 1,Ab 91 90,Aa 92 13,Ai 93 91 92 3,Ad 94 93 3,Cl 14 0 0 0,Cl 15 0 0 0,Aj 3 14 89,Aj 3 15 94] [5,6,7,14,15,69,70,71])<|Sq (Rq [Ac 95 14 0,Ab 96 95,Ac 97 15 0,Ab 98 97,Bo 99 96 98] [5,6,7,14,15,69,70,71,99]<|Co 99 (Rq [Ae 8 13] [8]<|.ret)<|Sk [5,6,7,14,15,69,70,71])<|Sq (Dr [100,101,102,103,104,105,106,107,108,109,110,111,112,113,114,115,116,117,118,119] [Ac 100 7 0,Ab 101 100,Ac 102 14 1,Ab 103 102,Ai 104 101 103 1,Ab 105 104,Ac 106 15 1,Ab 107 106,Bo 108 105 107,Aa 109 108,Aq 110 7 0 109,Ao 111 110 109,Aq 112 14 2 109,Ao 113 112 109,Ce 114 111 113 1 109,Ao 115 114 109,Aq 116 15 2 109,Ao 117 116 109,Cx 118 115 117 109,Ar 119 109 118] [5,6,7,69,70,71,119])<|Co 119 (Rq [Ae 8 11] [8]<|.ret)<|Sk [5,6,7,69,70,71])<|Re [Al 120 71 1,Aa 71 120] [5,6,7,69,70,71])<|Rq [Ae 8 0] [8]<|.ret) [.tmp 8]:=by decide +kernel
instance te (t:Types) (p:Graph) (g:Graph) (m:Morphism):Ct prog (HV t p g m) 175 [AU t,CC p,CC g,BU m] (fun r=>.sh (eI r)):=Fi mA fun r h hw hR=>by
  unfold HV at h
  have:HA 0 37 36 0 fun (i0:Int) (_:Unit)=>[(37,.tv (eI i0))]:=⟨⟩
  have:HA 2 71 70 0 fun (i2:Int) (_:Unit)=>[(71,.tv (eI i2))]:=⟨⟩
  exact au
theorem p3 (l:List Int) (r:Bool) (h:IV l=some r):AS prog 176 [lI l] (.sh (eB r)):=by
  unfold IV at h
  rw [←cj] at h
  split at h
  · rename_i hl
    cases h
    exact Wk l hl
  · cases h
instance vb (l:List Int):Ct Go.Proofs.Tryz.prog (IV l) 176 [lI l] (fun r=>.sh (eB r)):=⟨p3 l⟩
theorem kj:CK f109 (Rq [Af 5 0,Af 6 1,Af 7 2,Af 8 3,Ae 10 0] [4,5,6,7,8]<|Sq (Rq [Ad 13 5 2,Ad 14 6 2,Ad 15 7 2,Bi 16 62 13 14 15,Aa 11 16] [4,5,6,7,8,11]<|Rq [Aa 17 11,Az 18 17 0] [4,5,6,7,8,11,18]<|Co 18 (Rq [Aa 19 11,Aa 10 19] [10]<|.ret)<|Sk [4,5,6,7,8])<|Sq (Rq [Ad 20 5 2,Ad 21 6 2,Ad 22 7 2,Ad 23 8 2,Cs 24 175 20 21 22 23,Aa 12 24] [4,8,12]<|Rq [Aa 25 12,Az 26 25 0] [4,8,12,26]<|Co 26 (Rq [Aa 27 12,Aa 10 27] [10]<|.ret)<|Sk [4,8])<|Sq (Rq [Aa 28 4,Aa 29 28,Ay 30 8 0 29,Ba 31 30 29,Cc 32 176 31 29,As 33 32 29,Aq 34 8 1 33,Ao 35 34 33,Du 36 176 35 33,Ef 37 33 36 29,Ap 38 29 37] [38]<|Co 38 (Rq [Ae 10 5] [10]<|.ret)<|Sk [])<|Rq [Ae 10 0] [10]<|.ret) [.tmp 10]:=by decide +kernel
instance sV (t:Types) (p:Graph) (g:Graph) (m:Morphism) (injective:Bool):Ct prog (GK t p g m injective) 109 [AU t,CC p,CC g,BU m,eB injective] (fun r=>.sh (eI r)):=Fi kj fun r h hw hR=>by
  unfold GK at h
  exact au
theorem mB:CK f177 (Rq [Af 3 0,Af 4 1,Af 5 2,Ae 6 0] [3,4,5]<|Sq (Rq [Ad 10 3 2,Ad 11 4 5,Av 12 39 10 11,Aa 7 12] [3,5,7]<|Rq [Aa 13 7,Az 14 13 0] [3,5,7,14]<|Co 14 (Rq [Aa 15 7,Aa 6 15] [6]<|.ret)<|Sk [3,5])<|Rq [Ad 17 3 2,Ad 18 5 3,Av 19 108 17 18,Aa 16 19,An 20 16 0,An 21 16 1,Aa 8 20,Aa 9 21] [9]<|Rq [Aa 22 9,Aa 6 22] [6]<|.ret) [.tmp 6]:=by decide +kernel
instance tf (t:Types) (p:Pattern) (h_2:A0):Ct prog (E8 t p h_2) 177 [AU t,A8 p,Ir h_2] (fun r=>.sh (eI r)):=Fi mB fun r h hw hR=>by
  unfold E8 at h
  exact au
theorem m8:CK f232 (Rq [Af 2 0,Ae 4 0] [1,2]<|Sq (Rq [Ac 5 2 0,Ab 6 5,Cd 7 6 0] [1,2,7]<|Co 7 (Rq [Ac 8 2 1,Ab 9 8,Aa 4 9] [4]<|.ret)<|Sk [1,2])<|Sq (Dr [4,10,11,12,13,14,15,16,17] [Aa 10 1,Ac 11 2 0,Ab 12 11,Ai 13 10 12 1,Ab 14 13,Ac 15 2 1,Ab 16 15,Bn 17 14 16,Aa 4 17] [4])<|.ret) [.tmp 4]:=by decide +kernel
instance uh (x_0:Term) (BD:List Int):Ct prog (E9 x_0 BD) 232 [QD x_0,lI BD] (fun r=>.sh (eI r)):=Fi m8 fun r h hw hR=>by
  unfold E9 at h
  exact au
theorem p8 (a b c:Int) (r:Int × Int) (h:Iv a b c=some r):AS prog 284 [KY a,KY b,KY c] (.ext [KY (r.1),KY (r.2)]):=by
  unfold Iv at h
  split at h
  · rename_i hc
    cases h
    obtain ⟨⟨a0,a1⟩,⟨b0,b1⟩,c0,c1⟩:=hc
    intro _
    refine ⟨⟨rfl,?_⟩,fun w vs hv=>?_⟩
    · simp only [KY,TV.WFs,TV.WF,IntKind.min,IntKind.max,IntKind.signed,IntKind.bits,and_true]
      simp only [Bool.false_eq_true,if_false]
      refine ⟨⟨by omega,?_⟩,by omega,?_⟩
      · have:(2:Int) ^ 64=18446744073709551616:=by decide
        omega
      · have:(2:Int) ^ 64=18446744073709551616:=by decide
        omega
    · obtain ⟨x,rfl⟩:=Int.eq_ofNat_of_zero_le a0
      obtain ⟨y,rfl⟩:=Int.eq_ofNat_of_zero_le b0
      obtain ⟨z,rfl⟩:=Int.eq_ofNat_of_zero_le c0
      have:=Go.Proofs.Any7.bits_Add64 Go.Proofs.Tryz.lays7n25 x y z (by omega) w
      obtain ⟨l⟩:=vs
      simp only [KY,AM,A2] at hv
      obtain ⟨v1,r1,rfl,rfl,v2,r2,rfl,rfl,v3,r3,rfl,rfl,rfl⟩:=hv
      refine ⟨_,this,?_⟩
      simp only [KY,AM,A2]
      exact ⟨_,_,rfl,by simp,_,_,rfl,by simp,rfl⟩
  · cases h
instance vg (a b c:Int):Ct Go.Proofs.Tryz.prog (Iv a b c) 284 [KY a,KY b,KY c] (fun r=>.ext [KY (r.1),KY (r.2)]):=⟨p8 a b c⟩
theorem nT:CK f260 (Rq [Ae 4 0,Gk 5 0] [0,1]<|Rq [Aa 9 0,⟨some 10,.cvt .u64 (.s 9),none⟩,Aa 11 1,⟨some 12,.cvt .u64 (.s 11),none⟩,⟨some 13,.callf 284 [.s 10,.s 12,.c (.int .u64 0)],none⟩,Aa 8 13,An 14 8 0,An 15 8 1,Aa 6 14,Aa 7 15] [0,1,6,7]<|Rq [Aa 16 0,⟨some 17,.bin (.w) .shr (.s 16) (.c (.int .u64 63)),none⟩,Aa 18 1,⟨some 19,.bin (.w) .shr (.s 18) (.c (.int .u64 63)),none⟩,Bn 20 17 19,Aa 21 7,Bs 22 21,Bn 23 20 22,Aa 24 6,Aa 4 23,Aa 5 24] [4,5]<|.ret) [.tmp 4,.tmp 5]:=by decide +kernel
instance u7 (a:Int) (b:Int):Ct prog (Ht a b) 260 [eI a,eI b] (fun r=>.tp [eI r.1,KY r.2]):=Fi nT fun r h hw hR=>by
  unfold Ht at h
  exact au
theorem nS:CK f259 (Rq [Af 2 0,Ae 3 0,Gk 4 0,Ak 5] [1,2]<|Sq (Bl 0<|Rq [Ac 11 2 0,Ab 12 11,⟨some 13,.bin (.i) .eql (.s 12) (.c (.int .i64 (-1))),none⟩,Aa 10 13] [1,2,10]<|Co 10 (Rq [Ac 15 2 1,Ab 16 15,⟨some 17,.call 260 [.c (.int .i64 0),.s 16],none⟩,Aa 14 17,An 18 14 0,An 19 14 1,Aa 6 18,Aa 7 19] [6,7]<|Rq [Aa 20 6,Aa 21 7,Aa 3 20,Aa 4 21,Bt 5] [3,4,5]<|.ret)<|Rq [Ac 23 2 0,Ab 24 23,Cd 25 24 0,Aa 26 25,Aq 27 2 0 26,Ao 28 27 26,Ao 29 1 26,Bj 30 29 26,Cb 31 28 30 26,Ar 32 26 31,Aa 22 32] [1,2,22]<|Co 22 (Rq [Ae 3 0,Gk 4 0,Ak 5] [3,4,5]<|.ret)<|Sk [1,2])<|Sq (Dr [8,9,33,34,35,36,37,38,39,40,41,42,43] [Ab 34 1,Ac 35 2 0,Ab 36 35,Ai 37 34 36 1,Ab 38 37,Ac 39 2 1,Ab 40 39,Av 41 260 38 40,Aa 33 41,An 42 33 0,An 43 33 1,Aa 8 42,Aa 9 43] [8,9])<|Rq [Aa 44 8,Aa 45 9,Aa 3 44,Aa 4 45,Bt 5] [3,4,5]<|.ret) [.tmp 3,.tmp 4,.tmp 5]:=by decide +kernel
instance u6 (t:Term) (c0:List Int):Ct prog (FX t c0) 259 [QD t,.pt [lI c0]] (fun r=>.tp [eI r.1,KY r.2.1,eB r.2.2]):=Fi nS fun r h hw hR=>by
  unfold FX at h
  exact au
theorem nU:CK f261 (Rq [Ae 2 0] [0]<|Rq [Ae 3 0] [0,3]<|Sq (Rq [Aa 6 0,Ag 7 6,Ae 8 0] [3,6,7,8]<|Bl 0<|Lo [3,6,7,8]<|Rq [Am 9 8 7] [3,6,7,8,9]<|Sq (Co 9 (Sk [3,6,7,8])<|Ex 0 [3])<|Sq (Bl 1<|Rq [Ai 10 6 8 1,Ab 11 10,Aa 5 11] [3,5,6,7,8]<|Rq [Aa 12 5,Aa 13 3,Bo 14 12 13] [3,5,6,7,8,14]<|Co 14 (Rq [Aa 15 5,Aa 2 15] [2]<|.ret)<|Sk [3,6,7,8])<|Re [Al 16 8 1,Aa 8 16] [3,6,7,8])<|Rq [Aa 17 3,Aa 2 17] [2]<|.ret) [.tmp 2]:=by decide +kernel
instance u9 (vals:List Int):Ct prog (MH vals) 261 [lI vals] (fun r=>.sh (eI r)):=Fi nU fun r h hw hR=>by
  unfold MH at h
  have:HA 0 8 7 0 fun (i0:Int) (_:Unit)=>[(8,.tv (eI i0))]:=⟨⟩
  exact au
theorem nh:CK f285 (Rq [Ak 2] [0]<|Rq [Aa 3 0,Aa 4 0,Bo 5 3 4,Aa 2 5] [2]<|.ret) [.tmp 2]:=by decide +kernel
instance vI (x_0:Int):Ct prog (J8 x_0) 285 [eI x_0] (fun r=>.sh (eB r)):=Fi nh fun r h hw hR=>by
  unfold J8 at h
  exact au
theorem nV:CK f262 (Rq [Ae 4 0] [0,1]<|Rq [Aa 7 0,Ax 8 285 7,Aa 5 8] [0,1,5]<|Rq [Aa 9 1,Ax 10 285 9,Aa 6 10] [0,1,5,6]<|Sq (Rq [Aa 11 5] [0,1,6,11]<|Co 11 (Sq (Rq [Aa 12 6] [12]<|Co 12 (Rq [Ae 4 0] [4]<|.ret)<|Sk [])<|Rq [Bu 4 (-1)] [4]<|.ret)<|Sk [0,1,6])<|Sq (Rq [Aa 13 6] [0,1,13]<|Co 13 (Rq [Ae 4 1] [4]<|.ret)<|Sk [0,1])<|Sq (Rq [Aa 14 0,Aa 15 1,Am 16 14 15] [0,1,16]<|Co 16 (Rq [Bu 4 (-1)] [4]<|.ret)<|Sk [0,1])<|Sq (Rq [Aa 17 0,Aa 18 1,Ew 19 17 18] [19]<|Co 19 (Rq [Ae 4 1] [4]<|.ret)<|Sk [])<|Rq [Ae 4 0] [4]<|.ret) [.tmp 4]:=by decide +kernel
instance vA (x_0:Int) (y:Int):Ct prog (Il x_0 y) 262 [eI x_0,eI y] (fun r=>.sh (eI r)):=Fi nV fun r h hw hR=>by
  unfold Il at h
  exact au
theorem ni:CK f286 (Rq [Ak 2] [0]<|Rq [Aa 3 0,Aa 4 0,Bo 5 3 4,Aa 2 5] [2]<|.ret) [.tmp 2]:=by decide +kernel
instance vJ (x_0:Int):Ct prog (Jn x_0) 286 [KY x_0] (fun r=>.sh (eB r)):=Fi ni fun r h hw hR=>by
  unfold Jn at h
  exact au
theorem nW:CK f263 (Rq [Ae 4 0] [0,1]<|Rq [Aa 7 0,Ax 8 286 7,Aa 5 8] [0,1,5]<|Rq [Aa 9 1,Ax 10 286 9,Aa 6 10] [0,1,5,6]<|Sq (Rq [Aa 11 5] [0,1,6,11]<|Co 11 (Sq (Rq [Aa 12 6] [12]<|Co 12 (Rq [Ae 4 0] [4]<|.ret)<|Sk [])<|Rq [Bu 4 (-1)] [4]<|.ret)<|Sk [0,1,6])<|Sq (Rq [Aa 13 6] [0,1,13]<|Co 13 (Rq [Ae 4 1] [4]<|.ret)<|Sk [0,1])<|Sq (Rq [Aa 14 0,Aa 15 1,Am 16 14 15] [0,1,16]<|Co 16 (Rq [Bu 4 (-1)] [4]<|.ret)<|Sk [0,1])<|Sq (Rq [Aa 17 0,Aa 18 1,Ew 19 17 18] [19]<|Co 19 (Rq [Ae 4 1] [4]<|.ret)<|Sk [])<|Rq [Ae 4 0] [4]<|.ret) [.tmp 4]:=by decide +kernel
instance vB (x_0:Int) (y:Int):Ct prog (Im x_0 y) 263 [KY x_0,KY y] (fun r=>.sh (eI r)):=Fi nW fun r h hw hR=>by
  unfold Im at h
  exact au
theorem m9:CK f233 (Rq [Af 2 0,Af 3 1,Ak 4] [2,3]<|Rq [Dg 13 259 3,Aa 5 13] [2,5]<|Rq [Aa 15 5,Ac 16 2 1,Ad 17 16 2,Cv 18 15 17,Aa 14 18,An 19 14 0,An 20 14 1,An 21 14 2,Aa 6 19,Aa 7 20,Aa 8 21] [2,5,6,7,8]<|Rq [Aa 23 5,Ac 24 2 3,Ad 25 24 2,Cv 26 23 25,Aa 22 26,An 27 22 0,An 28 22 1,An 29 22 2,Aa 9 27,Aa 10 28,Aa 11 29] [2,6,7,8,9,10,11]<|Sq (Rq [Aa 30 8,Be 31 30,Aa 32 31,Au 33 11 32,Br 34 33 32,Ar 35 32 34] [2,6,7,9,10,35]<|Co 35 (Rq [Ak 4] [4]<|.ret)<|Sk [2,6,7,9,10])<|Rq [Aa 36 6,Aa 37 9,Av 38 262 36 37,Aa 39 7,Aa 40 10,Av 41 263 39 40,Eb 42 1 38 41,Ax 43 261 42,Aa 12 43] [2,12]<|Rq [Ac 44 2 0,Ab 45 44,Bb 46 45 1,Aa 47 46,As 48 12 47,Cm 49 48 0 47,Ap 50 47 49,Aa 51 50,Aq 52 2 0 51,Ao 53 52 51,Hf 54 53 2 51,Au 55 54 51,As 56 12 55,Cw 57 56 0 55,Cf 58 55 57 51,Ar 59 51 58,Aa 4 59] [4]<|.ret) [.tmp 4]:=by decide +kernel
instance ui (x_0:Test) (BD:List Int):Ct prog (G8 x_0 BD) 233 [Jq x_0,lI BD] (fun r=>.sh (eB r)):=Fi m9 fun r h hw hR=>by
  unfold G8 at h
  exact au
theorem mC:CK f178 (Rq [Af 3 0,Af 4 1,Af 5 2,Bc 6 1,Ae 7 0] [3,4,5]<|Sq (Dr [8,9,16,17,18,19,20,21] [Ac 16 3 3,Ab 17 16,Fq 18 1 0 17,Ac 19 3 3,Ab 20 19,Eu 21 1 20,Ck 8 18,Ck 9 21] [3,4,5,8,9])<|Sq (Rq [Ac 22 3 2,Ab 23 22,Ag 24 23,Ae 25 0] [3,4,5,8,9,23,24,25]<|Bl 0<|Lo [3,4,5,8,9,23,24,25]<|Rq [Am 26 25 24] [3,4,5,8,9,23,24,25,26]<|Sq (Co 26 (Sk [3,4,5,8,9,23,24,25])<|Ex 0 [3,8])<|Sq (Bl 1<|Rq [Ai 27 23 25 4,Ad 28 27 4,Dz 11 0 0 0 0,Aj 4 11 28] [3,4,5,8,9,11,23,24,25]<|Sq (Dr [12,29,30,31,32,33,34,35,36,37,38,39,40,41,42] [Ac 29 4 2,Ab 30 29,Ac 31 5 0,Ab 32 31,Ac 33 11 0,Ab 34 33,Ai 35 32 34 1,Ab 36 35,Ai 37 30 36 1,Ab 38 37,Ac 39 11 1,Ab 40 39,Ai 41 38 40 1,Ab 42 41,Aa 12 42] [3,4,5,8,9,11,12,23,24,25])<|Sq (Rq [Ac 43 11 2,Ah 44 43 0,Ab 45 44,Aa 13 45] [3,4,5,8,9,11,12,13,23,24,25]<|Rq [Aa 46 13,Bq 47 46 0,Aa 48 47,Gl 49 9 48,As 50 13 48,Gm 51 49 50 1 48,Gn 52 51 48,Ea 53 52 48,Ap 54 48 53] [3,4,5,8,9,11,12,13,23,24,25,54]<|Co 54 (Re [Bw 55 8,Aa 56 13,Bw 57 9,Aa 58 13,Aa 59 12,Ac 60 11 2,Ah 61 60 1,Ab 62 61,Dw 63 59 62,Cq 64 55 56 1,Et 64 63,Cq 65 57 58 1,Eh 65] [3,4,5,8,9,11,12,23,24,25])<|Sk [3,4,5,8,9,11,12,23,24,25])<|Rq [Ac 66 11 2,Ad 67 66 2,Bw 68 8,Ej 69 232 67 68,Aa 70 12,Bo 71 69 70] [3,4,5,8,9,23,24,25,71]<|Co 71 (Rq [Bc 6 1,Ae 7 11] [6,7]<|.ret)<|Sk [3,4,5,8,9,23,24,25])<|Re [Al 72 25 1,Aa 25 72] [3,4,5,8,9,23,24,25])<|Sq (Rq [Ac 73 3 4,Ab 74 73,Ag 75 74,Ae 76 0] [8,74,75,76]<|Bl 2<|Lo [8,74,75,76]<|Rq [Am 77 76 75] [8,74,75,76,77]<|Sq (Co 77 (Sk [8,74,75,76])<|Ex 2 [8])<|Sq (Bl 3<|Rq [Ai 78 74 76 5,Ad 79 78 5,Fo 15 0 0 0 0 0,Aj 5 15 79] [8,15,74,75,76]<|Rq [Ad 80 15 5,Bw 81 8,Ej 82 233 80 81,Be 83 82] [8,74,75,76,83]<|Co 83 (Rq [Bc 6 1,Ae 7 16] [6,7]<|.ret)<|Sk [8,74,75,76])<|Re [Al 84 76 1,Aa 76 84] [8,74,75,76])<|Rq [Dx 85 8,Aw 6 85,Ae 7 0] [6,7]<|.ret) [.tmp 6,.tmp 7]:=by decide +kernel
instance th (p:Pattern) (h_1:A0) (m:Morphism):Ct prog (Ii p h_1 m) 178 [A8 p,Ir h_1,BU m] (fun r=>.tp [lI r.1,eI r.2]):=Fi mC fun r h hw hR=>by
  unfold Ii at h
  have:HA 0 25 24 0 fun (i0:Int) (s0:List Int × List Bool)=>[(8,.xo 1 (List.map eI s0.1)),(9,.xo 1 (List.map eB s0.2)),(25,.tv (eI i0))]:=⟨⟩
  have:HA 2 76 75 0 fun (i2:Int) (_:Unit)=>[(76,.tv (eI i2))]:=⟨⟩
  exact au
theorem km:CK f110 (Rq [Af 4 0,Af 5 1,Af 6 2,Af 7 3,Bc 8 1,Ae 9 0] [4,5,6,7]<|Sq (Rq [Ad 12 4 2,Ad 13 5 5,Ad 14 6 3,Bi 15 177 12 13 14,Aa 10 15] [4,5,6,7,10]<|Rq [Aa 16 10,Az 17 16 0] [4,5,6,7,10,17]<|Co 17 (Rq [Aa 18 10,Bc 8 1,Aa 9 18] [8,9]<|.ret)<|Sk [4,5,6,7])<|Sq (Rq [Ad 19 4 2,Ac 20 5 0,Ad 21 20 2,Ac 22 6 0,Ad 23 22 2,Ad 24 7 2,⟨some 25,.call 109 [.s 19,.s 21,.s 23,.s 24,.c (.bool false)],none⟩,Aa 11 25] [5,6,7,11]<|Rq [Aa 26 11,Az 27 26 0] [5,6,7,11,27]<|Co 27 (Rq [Aa 28 11,Bc 8 1,Aa 9 28] [8,9]<|.ret)<|Sk [5,6,7])<|Rq [Ad 29 5 5,Ad 30 6 3,Ad 31 7 2,Bi 32 178 29 30 31,An 33 32 0,An 34 32 1,Aw 8 33,Aa 9 34] [8,9]<|.ret) [.tmp 8,.tmp 9]:=by decide +kernel
instance sW (t:Types) (p:Pattern) (h_2:A0) (m:Morphism):Ct prog (E7 t p h_2 m) 110 [AU t,A8 p,Ir h_2,BU m] (fun r=>.tp [lI r.1,eI r.2]):=Fi km fun r h hw hR=>by
  unfold E7 at h
  exact au
theorem q9:CK f47 (Rq [Af 6 0,Af 7 1,Af 8 2,Af 9 3,Af 10 4,Ae 12 0] [5,6,7,8,9,10]<|Sq (Rq [Ad 19 6 2,Ad 20 7 5,Ad 21 8 9,Bi 22 15 19 20 21,Aa 13 22] [5,6,7,9,10,13]<|Rq [Aa 23 13,Az 24 23 0] [5,6,7,9,10,13,24]<|Co 24 (Rq [Aa 25 13,Aa 12 25] [12]<|.ret)<|Sk [5,6,7,9,10])<|Sq (Rq [Ad 27 6 2,Ad 28 9 3,Av 29 108 27 28,Aa 26 29,An 30 26 0,An 31 26 1,Aa 14 30,Aa 15 31] [5,6,7,9,10,15]<|Rq [Aa 32 15,Az 33 32 0] [5,6,7,9,10,15,33]<|Co 33 (Rq [Aa 34 15,Aa 12 34] [12]<|.ret)<|Sk [5,6,7,9,10])<|Sq (Rq [Ad 35 6 2,Ac 36 7 0,Ad 37 36 2,Ac 38 9 0,Ad 39 38 2,Ac 40 10 0,Ad 41 40 2,Aa 42 5,Gp 43 109 35 37 39 41 42,Aa 16 43] [6,7,9,10,16]<|Rq [Aa 44 16,Az 45 44 0] [6,7,9,10,16,45]<|Co 45 (Rq [Aa 46 16,Aa 12 46] [12]<|.ret)<|Sk [6,7,9,10])<|Rq [Ad 48 6 2,Ad 49 7 5,Ad 50 9 3,Ac 51 10 0,Ad 52 51 2,Cs 53 110 48 49 50 52,Aa 47 53,An 54 47 0,An 55 47 1,Aw 17 54,Aa 18 55] [10,17,18]<|Sq (Rq [Aa 56 18,Az 57 56 0] [10,17,18,57]<|Co 57 (Rq [Aa 58 18,Aa 12 58] [12]<|.ret)<|Sk [10,17])<|Sq (Rq [Aa 59 17,Ac 60 10 2,Ab 61 60,Av 62 73 59 61,Be 63 62] [63]<|Co 63 (Rq [Ae 12 11] [12]<|.ret)<|Sk [])<|Rq [Ae 12 0] [12]<|.ret) [.tmp 12]:=by decide +kernel
instance wL (t:Types) (p:Pattern) (c:AA) (h_3:A0) (m:AL) (injective:Bool):Ct prog (EE t p c h_3 m injective) 47 [AU t,A8 p,AG c,Ir h_3,CJ m,eB injective] (fun r=>.sh (eI r)):=Fi q9 fun r h hw hR=>by
  unfold EE at h
  exact au
theorem lK:CK f132 (Rq [Ak 3] [0,1]<|Rq [Aa 4 0,Gf 5 4 (-1),Aa 6 5,Au 7 0 6,Ao 8 1 6,Cb 9 7 8 6,Ar 10 6 9,Aa 3 10] [3]<|.ret) [.tmp 3]:=by decide +kernel
instance sw (k:Int) (c0:Int):Ct prog (Lp k c0) 132 [eI k,.pt [eI c0]] (fun r=>.sh (eB r)):=Fi lK fun r h hw hR=>by
  unfold Lp at h
  exact au
theorem rM:CK f63 (Rq [Af 3 1,Ae 4 0] [0,3]<|Sq (Rq [Aa 5 0,Dg 6 132 3,Av 7 81 5 6] [7]<|Co 7 (Rq [Ae 4 6] [4]<|.ret)<|Sk [])<|Rq [Ae 4 0] [4]<|.ret) [.tmp 4]:=by decide +kernel
instance wZ (l:List Int) (n:Int):Ct prog (HE l n) 63 [lI l,eI n] (fun r=>.sh (eI r)):=Fi rM fun r h hw hR=>by
  unfold HE at h
  exact au
theorem nE:CK f240 (Rq [Ae 4 0] [0,1]<|Sq (Rq [Aa 5 0,Eg 6 5] [0,1,6]<|Co 6 (Rq [Bu 4 (-1)] [4]<|.ret)<|Sk [0,1])<|Rq [Aa 7 0,Aa 8 1,Ai 9 7 8 1,Ab 10 9,Aa 4 10] [4]<|.ret) [.tmp 4]:=by decide +kernel
instance uo (l:List Int) (i_1:Int):Ct prog (IU l i_1) 240 [lI l,eI i_1] (fun r=>.sh (eI r)):=Fi nE fun r h hw hR=>by
  unfold IU at h
  exact au
theorem nH:CK f243 (Rq [Ak 6] [0,1,2]<|Rq [Aa 9 0,Ah 10 9 0,Ah 11 10 0,Ah 12 11 1,Ab 13 12,Aa 14 1,Ai 15 13 14 3,Ad 16 15 3,Cl 7 0 0 0,Aj 3 7 16] [0,1,2,7]<|Sq (Rq [Aa 17 0,Ah 18 17 0,Ah 19 18 5,Ah 20 19 1,Ab 21 20,Aa 22 1,Av 23 240 21 22,Aa 8 23] [0,2,7,8]<|Rq [Aa 24 8,Bq 25 24 0,Aa 26 25,As 27 8 26,As 28 2 26,Fr 29 27 28 26,Ap 30 26 29] [0,2,7,30]<|Co 30 (Rq [Ak 6] [6]<|.ret)<|Sk [0,2,7])<|Sq (Dr [6,31,32,33,34,35,36,37,38,39,40,41,42,43,44,45,46,47,48,49,50,51,52,53,54,55,56,57,58] [Aa 31 0,Ah 32 31 0,Ah 33 32 2,Ah 34 33 1,Ab 35 34,Aa 36 2,Ai 37 35 36 3,Ad 38 37 3,Ac 39 7 0,Ab 40 39,Aa 41 0,Ah 42 41 0,Ah 43 42 9,Ab 44 43,Ac 45 7 1,Ab 46 45,Ai 47 44 46 1,Ab 48 47,Aa 49 0,Ah 50 49 0,Ah 51 50 9,Ab 52 51,Ac 53 7 2,Ab 54 53,Ai 55 52 54 1,Ab 56 55,Fs 57 0 0 0 0 1 40 1 1 48 2 1 56,⟨some 58,.bin (.a [0,0,0]) .eql (.s 38) (.s 57),none⟩,Aa 6 58] [6])<|.ret) [.tmp 6]:=by decide +kernel
instance ut (f:AI) (i_1:Int) (k:Int):Ct prog (EI f i_1 k) 243 [.pt (Po f).cells,eI i_1,eI k] (fun r=>.sh (eB r)):=Fi nH fun r h hw hR=>by
  unfold EI at h
  exact au
theorem nG:CK f242 (Rq [Ak 2] [0]<|Rq [Aa 8 0,Ah 9 8 0,Ah 10 9 9,Ab 11 10,Ag 12 11,Bz 13 12 1,Aa 3 13] [0,3]<|Sq (Rq [Aa 14 0,Ah 15 14 0,Ah 16 15 0,Ah 17 16 1,Ab 18 17,Ag 19 18,Ae 20 0] [0,3,18,19,20]<|Bl 0<|Lo [0,3,18,19,20]<|Rq [Am 21 20 19] [0,3,18,19,20,21]<|Sq (Co 21 (Sk [0,3,18,19,20])<|Ex 0 [])<|Sq (Bl 1<|Rq [Aa 22 20,Ai 23 18 20 3,Ad 24 23 3,Cl 5 0 0 0,Aa 4 22,Aj 3 5 24] [0,3,4,5,18,19,20]<|Sq (Rq [Ac 25 5 1,Ab 26 25,Ac 27 5 2,Ab 28 27,Gi 29 26 28,Aa 30 3,Bo 31 29 30] [0,3,4,18,19,20,31]<|Co 31 (Ex 1 [0,3,18,19,20])<|Sk [0,3,4,18,19,20])<|Rq [Ak 6] [0,3,4,6,18,19,20]<|Sq (Rq [Aa 32 0,Ah 33 32 0,Ah 34 33 2,Ah 35 34 1,Ab 36 35,Ag 37 36,Ae 38 0] [0,3,4,6,18,19,20,37,38]<|Bl 2<|Lo [0,3,4,6,18,19,20,37,38]<|Rq [Am 39 38 37] [0,3,4,6,18,19,20,37,38,39]<|Sq (Co 39 (Sk [0,3,4,6,18,19,20,37,38])<|Ex 2 [0,3,6,18,19,20])<|Sq (Bl 3<|Rq [Aa 40 38,Aa 7 40] [0,3,4,6,7,18,19,20,37,38]<|Rq [Aa 41 0,Aa 42 4,Aa 43 7,Bi 44 243 41 42 43] [0,3,4,6,18,19,20,37,38,44]<|Co 44 (Rq [Bt 6] [0,3,6,18,19,20]<|Ex 2 [0,3,6,18,19,20])<|Sk [0,3,4,6,18,19,20,37,38])<|Re [Al 45 38 1,Aa 38 45] [0,3,4,6,18,19,20,37,38])<|Rq [Aa 46 6,Be 47 46] [0,3,18,19,20,47]<|Co 47 (Rq [Ak 2] [2]<|.ret)<|Sk [0,3,18,19,20])<|Re [Al 48 20 1,Aa 20 48] [0,3,18,19,20])<|Rq [Bt 2] [2]<|.ret) [.tmp 2]:=by decide +kernel
instance ur (f:AI):Ct prog (CN f) 242 [.pt (Po f).cells] (fun r=>.sh (eB r)):=Fi nG fun r h hw hR=>by
  unfold CN at h
  have:HA 0 20 19 0 fun (i0:Int) (_:Unit)=>[(20,.tv (eI i0))]:=⟨⟩
  have:HA 2 38 37 0 fun (i2:Int) (s2:Bool)=>[(6,.tv (eB s2)),(38,.tv (eI i2))]:=⟨⟩
  exact au
noncomputable def Uk:PC:=Bl 0<|Sq (Dr [28,29,30,31,32,33,34,35,36,37,38] [Ac 29 0 0,Ah 30 29 0,Ah 31 30 11,Ab 32 31,Ag 33 32,Ac 34 0 0,Ah 35 34 0,Ah 36 35 8,Ab 37 36,Da 38 33 37,Aa 28 38] [0,28])<|Co 28 (Sk [0])<|Sq (Dr [39,40,41,42,43,44,45,46,47,48,49,50,51] [Ac 40 0 0,Ah 41 40 0,Ah 42 41 9,Dl 43 42,Dq 44 43,Ac 45 0 0,Ah 46 45 0,Ah 47 46 0,Ah 48 47 0,Ab 49 48,Ag 50 49,Am 51 44 50,Aa 39 51] [0,39])<|Co 39 (Rq [Ac 52 0 0,Ah 53 52 0,Ah 54 53 9,Dl 55 54,Dq 56 55,Aa 2 56] [0,2]<|Rq [Ac 57 0 0,Ah 58 57 0,Ah 59 58 2,Ah 60 59 0,Ab 61 60,Ag 62 61,Ae 63 0] [0,2,61,62,63]<|Bl 1<|Lo [0,2,61,62,63]<|Rq [Am 64 63 62] [0,2,61,62,63,64]<|Sq (Co 64 (Sk [0,2,61,62,63])<|Ex 1 [0])<|Sq (Bl 2<|Rq [Aa 65 63,Ai 66 61 63 1,Ab 67 66,Aa 3 65,Aa 4 67] [0,2,3,4,61,62,63]<|Sq (Rq [Ac 68 0 0,Ah 69 68 0,Ah 70 69 5,Ah 71 70 0,Ab 72 71,Aa 73 2,Av 74 240 72 73,Aa 5 74] [0,2,3,4,5,61,62,63]<|Sq (Dr [75,76,77,78,79,80,81,82,83,84,85,86,87,88,89,90,91,92,93,94,95,96,97,98,99,100,101,102,103,104,105,106,107,108,109,110,111,112,113,114,115] [Aa 75 5,Bq 76 75 0,Aa 77 76,As 78 5 77,As 79 3 77,Fr 80 78 79 77,Ap 81 77 80,Aa 82 81,Aq 83 0 0 82,Bm 84 83 0 82,Bm 85 84 4 82,Ao 86 85 82,Aq 87 0 0 82,Bm 88 87 0 82,Bm 89 88 0 82,Bm 90 89 0 82,Ao 91 90 82,Au 92 2 82,Ce 93 91 92 1 82,Ao 94 93 82,Ce 95 86 94 1 82,Ao 96 95 82,Au 97 4 82,Ce 98 96 97 1 82,Ao 99 98 82,Br 100 99 82,Ar 101 82 100,Aa 102 101,Aq 103 0 0 102,Bm 104 103 0 102,Bm 105 104 7 102,Ao 106 105 102,Au 107 106 102,Ay 108 0 0 107,Bx 109 108 0 107,Bx 110 109 9 107,⟨some 111,.lac (.s 110),some (107,true)⟩,As 112 3 107,⟨some 113,.calll 241 [.s 111,.s 112],some (107,true)⟩,Cf 114 107 113 102,Ar 115 102 114] [0,2,3,61,62,63,115])<|Co 115 (Ex 2 [0,2,61,62,63])<|Sk [0,2,3,61,62,63])<|Rq [Ac 116 0 0,Ac 117 0 0,Ah 118 117 0,Ah 119 118 9,Ft 120 119,Aa 121 3,Bf 122 1 121,Fh 123 1 120 122,Ah 124 116 0,Ah 125 124 9,Fu 125 123] [0,2,61,62,63]<|Sq (Rq [Ac 126 0 0,Gq 127 242 126] [0,2,61,62,63,127]<|Co 127 (Re [Ac 128 0 0,Gr 129 198 128 0] [0,2,61,62,63])<|Sk [0,2,61,62,63])<|Re [Ac 130 0 0,Ac 131 0 0,Ah 132 131 0,Ah 133 132 9,Ft 134 133,Aa 135 2,⟨some 136,.cut 1 134 (.s 135),none⟩,Ah 137 130 0,Ah 138 137 9,Fu 138 136] [0,2,61,62,63])<|Re [Al 139 63 1,Aa 63 139] [0,2,61,62,63])<|Sq (Dr [140,141,142,143,144,145,146,147,148,149,150,151,152] [Ac 141 0 0,Ah 142 141 0,Ah 143 142 10,Dl 144 143,Dq 145 144,Ac 146 0 0,Ah 147 146 0,Ah 148 147 0,Ah 149 148 1,Ab 150 149,Ag 151 150,Am 152 145 151,Aa 140 152] [0,140])<|Co 140 (Rq [Ac 153 0 0,Ah 154 153 0,Ah 155 154 10,Dl 156 155,Dq 157 156,Aa 6 157] [0,6]<|Rq [Ac 158 0 0,Ah 159 158 0,Ah 160 159 2,Ah 161 160 1,Ab 162 161,Ag 163 162,Ae 164 0] [0,6,163,164]<|Bl 3<|Lo [0,6,163,164]<|Rq [Am 165 164 163] [0,6,163,164,165]<|Sq (Co 165 (Sk [0,6,163,164])<|Ex 3 [0])<|Sq (Bl 4<|Rq [Aa 166 164,Aa 7 166] [0,6,7,163,164]<|Sq (Rq [Ac 167 0 0,Aa 168 6,Aa 169 7,⟨some 170,.calll 243 [.s 167,.s 168,.s 169],none⟩,Be 171 170,Aa 172 171,Aq 173 0 0 172,Bm 174 173 0 172,Bm 175 174 7 172,Ao 176 175 172,Au 177 176 172,Ay 178 0 0 177,Bx 179 178 0 177,Bx 180 179 10 177,⟨some 181,.lac (.s 180),some (177,true)⟩,As 182 7 177,⟨some 183,.calll 241 [.s 181,.s 182],some (177,true)⟩,Cf 184 177 183 172,Ar 185 172 184] [0,6,7,163,164,185]<|Co 185 (Ex 4 [0,6,163,164])<|Sk [0,6,7,163,164])<|Rq [Ac 186 0 0,Ac 187 0 0,Ah 188 187 0,Ah 189 188 10,Ft 190 189,Aa 191 7,Bf 192 1 191,Fh 193 1 190 192,Ah 194 186 0,Ah 195 194 10,Fu 195 193] [0,6,163,164]<|Rq [Ac 196 0 0,Gr 197 198 196 0] [0,6,163,164]<|Re [Ac 198 0 0,Ac 199 0 0,Ah 200 199 0,Ah 201 200 10,Ft 202 201,Aa 203 6,⟨some 204,.cut 1 202 (.s 203),none⟩,Ah 205 198 0,Ah 206 205 10,Fu 206 204] [0,6,163,164])<|Re [Al 207 164 1,Aa 164 207] [0,6,163,164])<|Dr [8,9,10,11,12,13,14,15,16,17,18,19,20,21,22,23,24,25,26,27] [Ac 8 0 0,Ac 9 0 0,Ah 10 9 0,Ah 11 10 11,Cj 12 11,Ac 13 0 0,Ah 14 13 0,Ah 15 14 9,Dl 16 15,Gq 17 138 16,Ac 18 0 0,Ah 19 18 0,Ah 20 19 10,Dl 21 20,Gq 22 138 21,Dd 23 1 1 0 1 17 1 1 22,Bf 24 2 23,Bg 25 2 12 24,Ah 26 8 0,Ah 27 26 11,Bp 1 27 25] [0]
theorem mU:CK f198 Uk []:=by decide +kernel
theorem oP:PC.noClm Uk=true∧PC.noDst 0 Uk=true:=by decide +kernel
theorem kP (n:Nat) (_ih_198:∀ (f:AI),Ct prog (A3 n f) 198 [.undef] (fun r=>.bo (DN f) (DN r) 0 [])) (f:AI):Ct prog (A3 (n+1) f) 198 [.undef] (fun r=>.bo (DN f) (DN r) 0 []):=fx mU oP fun r h hw hwc hR=>by
  unfold Uk
  unfold A3 at h
  have:HA 1 63 62 0 fun (i1:Int) (s1:AI)=>[(0,.bx (DN s1)),(63,.tv (eI i1))]:=⟨⟩
  have:HA 3 164 163 0 fun (i3:Int) (s3:AI)=>[(0,.bx (DN s3)),(164,.tv (eI i3))]:=⟨⟩
  have:HJ 28 fun (w1:AI)=>[(0,.bx (DN w1))]:=⟨⟩
  exact au
theorem kO:∀ n:Nat,(∀ (f:AI),Ct prog (A3 n f) 198 [.undef] (fun r=>.bo (DN f) (DN r) 0 [])):=by
  intro n
  induction n with
  | zero=>exact (fun f=>⟨fun _ h=>by cases h⟩)
  | succ n ih=>exact kP n ih
instance uE (f:AI):Ct prog (FU f) 198 [.undef] (fun r=>.bo (DN f) (DN r) 0 []):=⟨fun r h=>by
  obtain ⟨N,hN⟩:=DE h
  exact ((kO N) f).snd r (hN N (Nat.le_refl _))⟩
theorem lL:CK f133 (Rq [Af 6 0,Af 7 1,Af 8 2,Af 9 3,Bc 12 2] [4,5,6,7,8,9]<|Sq (Dr [13,14,15,16,17,18,19,20,21] [Ad 14 7 2,Ad 15 8 2,Ad 16 6 2,Ax 17 197 16,Ad 18 9 2,Aa 19 4,Aa 20 5,⟨some 21,.bld [.list 1 [],.list 3 [],.list 1 [],.list 3 [],.list 1 [],.list 1 [],.list 1 [],.bool false,.int .i64 0,.nil,.nil,.nil] [(0,2,.s 14),(2,2,.s 15),(4,1,.s 17),(5,2,.s 18),(7,1,.s 19),(8,1,.s 20)],none⟩,⟨some 22,.boxp [none,none,none,none,none,none,none,none,none,some ⟨true,.xl 1 []⟩,some ⟨true,.xl 1 []⟩,some ⟨true,.list 2 []⟩] (.s 21),none⟩,Ac 13 22 0] [13,22])<|Rq [Ah 23 13 0,Gr 24 198 23 0] [13,22]<|Rq [Ah 25 13 0,Ah 26 25 0,Ah 27 26 11,Ab 28 27,Aw 12 28] [12]<|.ret) [.tmp 12]:=by decide +kernel
instance sx (t:Types) (p:Graph) (g:Graph) (partial_:Morphism) (injective:Bool) (most:Int):Ct prog (HU t p g partial_ injective most) 133 [AU t,CC p,CC g,BU partial_,eB injective,eI most] (fun r=>.sh ((eL 2 BU) r)):=Fi lL fun r h hw hR=>by
  unfold HU at h
  exact au
theorem rN:CK f64 (Rq [Af 5 0,Af 6 1,Af 7 2,Af 8 3,Bc 10 2,Ae 11 0] [4,5,6,7,8]<|Rq [Ad 13 5 2,Ad 14 6 2,Ad 15 7 2,Ad 16 8 2,Aa 17 4,Hg 18 133 13 14 15 16 17 5001,Aw 12 18] [12]<|Sq (Rq [Aa 19 12,Ag 20 19,Bk 21 20 5000] [12,21]<|Co 21 (Rq [Bc 10 2,Ae 11 3] [10,11]<|.ret)<|Sk [12])<|Rq [Aa 22 12,Aw 10 22,Ae 11 0] [10,11]<|.ret) [.tmp 10,.tmp 11]:=by decide +kernel
instance wa (t:Types) (p:Graph) (g:Graph) (partial_:Morphism) (injective:Bool):Ct prog (Jw t p g partial_ injective) 64 [AU t,CC p,CC g,BU partial_,eB injective] (fun r=>.tp [(eL 2 BU) r.1,eI r.2]):=Fi rN fun r h hw hR=>by
  unfold Jw at h
  exact au
theorem qr:CK f29 (Rq [Af 5 0,Af 6 1,Af 7 2,Af 8 3,Bc 10 2,Ae 11 0] [4,5,6,7,8]<|Sq (Rq [Ad 15 5 2,Ad 16 6 2,Ad 17 7 2,Bi 18 62 15 16 17,Aa 12 18] [4,5,6,7,8,12]<|Rq [Aa 19 12,Az 20 19 0] [4,5,6,7,8,12,20]<|Co 20 (Rq [Aa 21 12,Bc 10 2,Aa 11 21] [10,11]<|.ret)<|Sk [4,5,6,7,8])<|Sq (Rq [Ac 22 8 0,Ab 23 22,Ag 24 23,Ac 25 6 0,Ab 26 25,Ag 27 26,Bo 28 24 27,Aa 29 28,Aq 30 8 1 29,Ao 31 30 29,Bj 32 31 29,Aq 33 6 1 29,Ao 34 33 29,Bj 35 34 29,Cx 36 32 35 29,Ar 37 29 36] [4,5,6,7,8,37]<|Co 37 (Rq [Bc 10 2,Ae 11 20] [10,11]<|.ret)<|Sk [4,5,6,7,8])<|Sq (Rq [Ac 38 8 0,Ab 39 38,Ac 40 7 0,Ab 41 40,Ag 42 41,Av 43 63 39 42,Aa 13 43] [4,5,6,7,8,13]<|Rq [Aa 44 13,Az 45 44 0] [4,5,6,7,8,13,45]<|Co 45 (Rq [Aa 46 13,Bc 10 2,Aa 11 46] [10,11]<|.ret)<|Sk [4,5,6,7,8])<|Sq (Rq [Ac 47 8 1,Ab 48 47,Ac 49 7 1,Ab 50 49,Ag 51 50,Av 52 63 48 51,Aa 14 52] [4,5,6,7,8,14]<|Rq [Aa 53 14,Az 54 53 0] [4,5,6,7,8,14,54]<|Co 54 (Rq [Aa 55 14,Bc 10 2,Aa 11 55] [10,11]<|.ret)<|Sk [4,5,6,7,8])<|Rq [Ad 56 5 2,Ad 57 6 2,Ad 58 7 2,Ad 59 8 2,Aa 60 4,Gp 61 64 56 57 58 59 60,An 62 61 0,An 63 61 1,Aw 10 62,Aa 11 63] [10,11]<|.ret) [.tmp 10,.tmp 11]:=by decide +kernel
instance v7 (t:Types) (p:Graph) (g:Graph) (partial_:Morphism) (injective:Bool):Ct prog (GV t p g partial_ injective) 29 [AU t,CC p,CC g,BU partial_,eB injective] (fun r=>.tp [(eL 2 BU) r.1,eI r.2]):=Fi qr fun r h hw hR=>by
  unfold GV at h
  exact au
end Go.Sf.Sc
