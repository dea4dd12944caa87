/- Contracts of the functions. -/
import Derived.Test.YtlbmpkmkmkgniaaGreatDoorShort
import Derived.Test.YtlbmpkmkmkgniaaGreatDoorRp
import Derived.Test.YtlbmpkmkmkgniaaGreatDoorTryzShelf
set_option linter.all false
set_option maxRecDepth 100000
set_option maxHeartbeats 4000000
namespace Go.Sf.Sc
open Go Go.Sf Go.Proofs.Tryz
theorem qI:CK f20 (Rq [Ak 4] [0,1]<|Sq (Rq [Aa 6 0,Ah 7 6,Aa 8 1,Ah 9 8,Bq 10 7 9] [0,1,10]<|Co 10 (Rq [Ak 4] [4]<|.ret)<|Sk [0,1])<|Sq (Rq [Aa 11 0,Ah 12 11,Ad 13 0] [0,1,12,13]<|Bl 0<|Lo [0,1,12,13]<|Rq [Am 14 13 12] [0,1,12,13,14]<|Sq (Co 14 (Sk [0,1,12,13])<|Ex 0 [])<|Sq (Bl 1<|Rq [Aa 15 13,Aa 5 15] [0,1,5,12,13]<|Sq (Dr [16,17,18,19,20,21,22,23,24] [Aa 16 0,Aa 17 5,Ai 18 16 17 1,Ab 19 18,Aa 20 1,Aa 21 5,Ai 22 20 21 1,Ab 23 22,Bq 24 19 23] [0,1,12,13,24])<|Co 24 (Rq [Ak 4] [4]<|.ret)<|Sk [0,1,12,13])<|Re [Al 25 13 1,Aa 13 25] [0,1,12,13])<|Rq [Bw 4] [4]<|.ret) [.tmp 4]:=by decide +kernel
instance vV (b:Ne) (a:Ne):Ct prog (slices_Equal_int b a) 20 [lI b,lI a] (fun r=>.sh (eB r)):=Fi qI fun r h d e=>by
  unfold slices_Equal_int at h;have:HA 0 13 12 0 fun (c:Int) (_:Unit)=>[(13,.tv (eI c))]:=⟨⟩;exact au
theorem nS:CK f322 (Rq [Ad 4 0] [0,1]<|Sq (Rq [Aa 6 0,Ah 7 6,Ad 8 0] [0,1,7,8]<|Bl 0<|Lo [0,1,7,8]<|Rq [Am 9 8 7] [0,1,7,8,9]<|Sq (Co 9 (Sk [0,1,7,8])<|Ex 0 [])<|Sq (Bl 1<|Rq [Aa 10 8,Aa 5 10] [0,1,5,7,8]<|Rq [Aa 11 1,Aa 12 0,Aa 13 5,Ai 14 12 13 1,Ab 15 14,Di 16 11 15] [0,1,5,7,8,16]<|Co 16 (Rq [Aa 17 5,Aa 4 17] [4]<|.ret)<|Sk [0,1,7,8])<|Re [Al 18 8 1,Aa 8 18] [0,1,7,8])<|Rq [Bx 4 (-1)] [4]<|.ret) [.tmp 4]:=by decide +kernel
instance vB (b:List ByteArray) (a:ByteArray):Ct prog (slices_Index_string b a) 322 [lB b,eS a] (fun r=>.sh (eI r)):=Fi nS fun r h d e=>by
  unfold slices_Index_string at h;have:HA 0 8 7 0 fun (c:Int) (_:Unit)=>[(8,.tv (eI c))]:=⟨⟩;exact au
theorem nC:CK f299 (Rq [Ak 4] [0,1]<|Rq [Aa 5 0,Aa 6 1,Au 7 322 5 6,Bo 8 7 0,Aa 4 8] [4]<|.ret) [.tmp 4]:=by decide +kernel
instance ur (b:List ByteArray) (a:ByteArray):Ct prog (slices_Contains_string b a) 299 [lB b,eS a] (fun r=>.sh (eB r)):=Fi nC fun r h c d=>by
  unfold slices_Contains_string at h;exact au
theorem pu (s:ByteArray) (c:Int) (r:Int) (h:strings_IndexByte s c=some r):AR prog 321 [eS s,SI c] (.sh (eI r)):=by
  unfold strings_IndexByte at h;cases h;exact gJ (by rfl) ⟨Go.Lib.indexByte_ge _ _,gI _ _⟩ (fun w=>Go.Proofs.Tryz.strings_IndexByte s c w)
instance vP (s:ByteArray) (c:Int):Ct Go.Proofs.Tryz.prog (strings_IndexByte s c) 321 [eS s,SI c] (fun r=>.sh (eI r)):=⟨pu s c⟩
theorem mX:CK f254 (Rq [Ad 4 0] [0,1]<|Sq (Rq [Aa 6 0,Ah 7 6,Ad 8 0] [0,1,7,8]<|Bl 0<|Lo [0,1,7,8]<|Rq [Am 9 8 7] [0,1,7,8,9]<|Sq (Co 9 (Sk [0,1,7,8])<|Ex 0 [])<|Sq (Bl 1<|Rq [Aa 10 8,Aa 5 10] [0,1,5,7,8]<|Rq [Aa 11 1,Aa 12 0,Aa 13 5,Ai 14 12 13 4,Ae 15 14 4,Ch 16 11 15] [0,1,5,7,8,16]<|Co 16 (Rq [Aa 17 5,Aa 4 17] [4]<|.ret)<|Sk [0,1,7,8])<|Re [Al 18 8 1,Aa 8 18] [0,1,7,8])<|Rq [Bx 4 (-1)] [4]<|.ret) [.tmp 4]:=by decide +kernel
instance uL (a:List CP) (f:CP->ca) (c:FuncId) (b:QQ) [g:∀ (d:CP),Ct prog (f d) c (FV d::b) (fun r=>.sh (eB r))]:Ct prog (D4 a f) 254 [lN a,.clo c b] (fun r=>.sh (eI r)):=Fi mX fun r h i j=>by
  unfold D4 at h;have:HA 0 8 7 0 fun (e:Int) (_:Unit)=>[(8,.tv (eI e))]:=⟨⟩;exact au
theorem lm:CK f191 (Rq [Ak 4] [0,1]<|Rq [Aa 5 0,Aa 6 1,Au 7 254 5 6,Bo 8 7 0,Aa 4 8] [4]<|.ret) [.tmp 4]:=by decide +kernel
instance tP (a:List CP) (f:CP->ca) (c:FuncId) (b:QQ) [e:∀ (d:CP),Ct prog (f d) c (FV d::b) (fun r=>.sh (eB r))]:Ct prog (C6 a f) 191 [lN a,.clo c b] (fun r=>.sh (eB r)):=Fi lm fun r h g i=>by
  unfold C6 at h;exact au
theorem nB:CK f298 (Rq [Ad 4 0] [0,1]<|Sq (Rq [Aa 6 0,Ah 7 6,Ad 8 0] [0,1,7,8]<|Bl 0<|Lo [0,1,7,8]<|Rq [Am 9 8 7] [0,1,7,8,9]<|Sq (Co 9 (Sk [0,1,7,8])<|Ex 0 [])<|Sq (Bl 1<|Rq [Aa 10 8,Aa 5 10] [0,1,5,7,8]<|Rq [Aa 11 1,Aa 12 0,Aa 13 5,Ai 14 12 13 4,Ae 15 14 4,Ch 16 11 15] [0,1,5,7,8,16]<|Co 16 (Rq [Aa 17 5,Aa 4 17] [4]<|.ret)<|Sk [0,1,7,8])<|Re [Al 18 8 1,Aa 8 18] [0,1,7,8])<|Rq [Bx 4 (-1)] [4]<|.ret) [.tmp 4]:=by decide +kernel
instance uq (a:List Attr) (f:Attr->ca) (c:FuncId) (b:QQ) [g:∀ (d:Attr),Ct prog (f d) c (IB d::b) (fun r=>.sh (eB r))]:Ct prog (EZ a f) 298 [lA a,.clo c b] (fun r=>.sh (eI r)):=Fi nB fun r h i j=>by
  unfold EZ at h;have:HA 0 8 7 0 fun (e:Int) (_:Unit)=>[(8,.tv (eI e))]:=⟨⟩;exact au
theorem mY:CK f255 (Rq [Ak 4] [0,1]<|Rq [Aa 5 0,Aa 6 1,Au 7 298 5 6,Bo 8 7 0,Aa 4 8] [4]<|.ret) [.tmp 4]:=by decide +kernel
instance uM (a:List Attr) (f:Attr->ca) (c:FuncId) (b:QQ) [e:∀ (d:Attr),Ct prog (f d) c (IB d::b) (fun r=>.sh (eB r))]:Ct prog (DV a f) 255 [lA a,.clo c b] (fun r=>.sh (eB r)):=Fi mY fun r h g i=>by
  unfold DV at h;exact au
theorem mb:CK f258 (Rq [Ad 4 0] [0,1]<|Sq (Rq [Aa 6 0,Ah 7 6,Ad 8 0] [0,1,7,8]<|Bl 0<|Lo [0,1,7,8]<|Rq [Am 9 8 7] [0,1,7,8,9]<|Sq (Co 9 (Sk [0,1,7,8])<|Ex 0 [])<|Sq (Bl 1<|Rq [Aa 10 8,Aa 5 10] [0,1,5,7,8]<|Rq [Aa 11 1,Aa 12 0,Aa 13 5,Ai 14 12 13 7,Ae 15 14 7,Ch 16 11 15] [0,1,5,7,8,16]<|Co 16 (Rq [Aa 17 5,Aa 4 17] [4]<|.ret)<|Sk [0,1,7,8])<|Re [Al 18 8 1,Aa 8 18] [0,1,7,8])<|Rq [Bx 4 (-1)] [4]<|.ret) [.tmp 4]:=by decide +kernel
instance uP (a:List DA) (f:DA->ca) (c:FuncId) (b:QQ) [g:∀ (d:DA),Ct prog (f d) c (GH d::b) (fun r=>.sh (eB r))]:Ct prog (D3 a f) 258 [lX a,.clo c b] (fun r=>.sh (eI r)):=Fi mb fun r h i j=>by
  unfold D3 at h;have:HA 0 8 7 0 fun (e:Int) (_:Unit)=>[(8,.tv (eI e))]:=⟨⟩;exact au
theorem lu:CK f196 (Rq [Ak 4] [0,1]<|Rq [Aa 5 0,Aa 6 1,Au 7 258 5 6,Bo 8 7 0,Aa 4 8] [4]<|.ret) [.tmp 4]:=by decide +kernel
instance tU (a:List DA) (f:DA->ca) (c:FuncId) (b:QQ) [e:∀ (d:DA),Ct prog (f d) c (GH d::b) (fun r=>.sh (eB r))]:Ct prog (C5 a f) 196 [lX a,.clo c b] (fun r=>.sh (eB r)):=Fi lu fun r h g i=>by
  unfold C5 at h;exact au
theorem qa:CK f46 (Rq [Ad 4 0] [0,1]<|Sq (Rq [Aa 6 0,Ah 7 6,Ad 8 0] [0,1,7,8]<|Bl 0<|Lo [0,1,7,8]<|Rq [Am 9 8 7] [0,1,7,8,9]<|Sq (Co 9 (Sk [0,1,7,8])<|Ex 0 [])<|Sq (Bl 1<|Rq [Aa 10 8,Aa 5 10] [0,1,5,7,8]<|Rq [Aa 11 1,Aa 12 0,Aa 13 5,Ai 14 12 13 1,Ab 15 14,Ch 16 11 15] [0,1,5,7,8,16]<|Co 16 (Rq [Aa 17 5,Aa 4 17] [4]<|.ret)<|Sk [0,1,7,8])<|Re [Al 18 8 1,Aa 8 18] [0,1,7,8])<|Rq [Bx 4 (-1)] [4]<|.ret) [.tmp 4]:=by decide +kernel
instance vp (a:Ne) (f:Int->ca) (c:FuncId) (b:QQ) [g:∀ (d:Int),Ct prog (f d) c (eI d::b) (fun r=>.sh (eB r))]:Ct prog (FH a f) 46 [lI a,.clo c b] (fun r=>.sh (eI r)):=Fi qa fun r h i j=>by
  unfold FH at h;have:HA 0 8 7 0 fun (e:Int) (_:Unit)=>[(8,.tv (eI e))]:=⟨⟩;exact au
theorem qL:CK f24 (Rq [Ak 4] [0,1]<|Rq [Aa 5 0,Aa 6 1,Au 7 46 5 6,Bo 8 7 0,Aa 4 8] [4]<|.ret) [.tmp 4]:=by decide +kernel
instance vY (a:Ne) (f:Int->ca) (c:FuncId) (b:QQ) [e:∀ (d:Int),Ct prog (f d) c (eI d::b) (fun r=>.sh (eB r))]:Ct prog (BW a f) 24 [lI a,.clo c b] (fun r=>.sh (eB r)):=Fi qL fun r h g i=>by
  unfold BW at h;exact au
theorem ly:CK f199 (Rq [Ad 4 0] [0,1]<|Sq (Rq [Aa 6 0,Ah 7 6,Ad 8 0] [0,1,7,8]<|Bl 0<|Lo [0,1,7,8]<|Rq [Am 9 8 7] [0,1,7,8,9]<|Sq (Co 9 (Sk [0,1,7,8])<|Ex 0 [])<|Sq (Bl 1<|Rq [Aa 10 8,Aa 5 10] [0,1,5,7,8]<|Rq [Aa 11 1,Aa 12 0,Aa 13 5,Ai 14 12 13 3,Ae 15 14 3,Ch 16 11 15] [0,1,5,7,8,16]<|Co 16 (Rq [Aa 17 5,Aa 4 17] [4]<|.ret)<|Sk [0,1,7,8])<|Re [Al 18 8 1,Aa 8 18] [0,1,7,8])<|Rq [Bx 4 (-1)] [4]<|.ret) [.tmp 4]:=by decide +kernel
instance tX (a:List DG) (f:DG->ca) (c:FuncId) (b:QQ) [g:∀ (d:DG),Ct prog (f d) c (D5 d::b) (fun r=>.sh (eB r))]:Ct prog (E0 a f) 199 [lE a,.clo c b] (fun r=>.sh (eI r)):=Fi ly fun r h i j=>by
  unfold E0 at h;have:HA 0 8 7 0 fun (e:Int) (_:Unit)=>[(8,.tv (eI e))]:=⟨⟩;exact au
theorem kw:CK f143 (Rq [Ak 4] [0,1]<|Rq [Aa 5 0,Aa 6 1,Au 7 199 5 6,Bo 8 7 0,Aa 4 8] [4]<|.ret) [.tmp 4]:=by decide +kernel
instance se (a:List DG) (f:DG->ca) (c:FuncId) (b:QQ) [e:∀ (d:DG),Ct prog (f d) c (D5 d::b) (fun r=>.sh (eB r))]:Ct prog (B8 a f) 143 [lE a,.clo c b] (fun r=>.sh (eB r)):=Fi kw fun r h g i=>by
  unfold B8 at h;exact au
theorem lz:CK f200 (Rq [Av 2 1] [0]<|Sq (Rq [Aa 3 0,⟨some 4,.isn (.s 3),none⟩] [0,4]<|Co 4 (Rq [Av 2 1] [2]<|.ret)<|Sk [0])<|Rq [Dj 5 1,Aa 6 0,Bi 7 1 5 6,Aj 2 7] [2]<|.ret) [.tmp 2]:=by decide +kernel
instance tY (a:List ByteArray):Ct prog (slices_Clone_string a) 200 [lB a] (fun r=>.own (lB r)):=Fi lz fun r h b c=>by
  unfold slices_Clone_string at h;exact au
theorem qw:CK f73 (Rq [Ad 4 0] [0,1]<|Sq (Rq [Aa 6 0,Ah 7 6,Ad 8 0] [0,1,7,8]<|Bl 0<|Lo [0,1,7,8]<|Rq [Am 9 8 7] [0,1,7,8,9]<|Sq (Co 9 (Sk [0,1,7,8])<|Ex 0 [])<|Sq (Bl 1<|Rq [Aa 10 8,Aa 5 10] [0,1,5,7,8]<|Rq [Aa 11 1,Aa 12 0,Aa 13 5,Ai 14 12 13 1,Ab 15 14,Cp 16 11 15] [0,1,5,7,8,16]<|Co 16 (Rq [Aa 17 5,Aa 4 17] [4]<|.ret)<|Sk [0,1,7,8])<|Re [Al 18 8 1,Aa 8 18] [0,1,7,8])<|Rq [Bx 4 (-1)] [4]<|.ret) [.tmp 4]:=by decide +kernel
instance wJ (b:Ne) (a:Int):Ct prog (slices_Index_int b a) 73 [lI b,eI a] (fun r=>.sh (eI r)):=Fi qw fun r h d e=>by
  unfold slices_Index_int at h;have:HA 0 8 7 0 fun (c:Int) (_:Unit)=>[(8,.tv (eI c))]:=⟨⟩;exact au
theorem qU:CK f38 (Rq [Ak 4] [0,1]<|Rq [Aa 5 0,Aa 6 1,Au 7 73 5 6,Bo 8 7 0,Aa 4 8] [4]<|.ret) [.tmp 4]:=by decide +kernel
instance vh (b:Ne) (a:Int):Ct prog (slices_Contains_int b a) 38 [lI b,eI a] (fun r=>.sh (eB r)):=Fi qU fun r h c d=>by
  unfold slices_Contains_int at h;exact au
theorem pk (l r:Ne) (h:slices_Reverse_int l=some r):AR prog 259 [.list 1 (l.map (TV.int .i64))] (.turn r):=by
  unfold slices_Reverse_int at h;split at h
  · rename_i d
    unfold BY at d;cases h;refine Y3 (by rfl) List.length_reverse (fun x a=>List.mem_reverse.1 a) (fun w b=>?_) (fun g cap w _ _ j c=>(Go.Proofs.Tryz.slices_Reverse_int g 0 cap l w c (by omega)).mono ?_)
    · subst b
      exact Go.Proofs.Tryz.slices_Reverse_int_empty none 0 w
    · rintro e w' ⟨f,q,i⟩
      exact ⟨f,q,#[],by rw [Go.Sort.grow_empty]; exact i⟩
  · cases h
instance vN (l:Ne):Ct Go.Proofs.Tryz.prog (slices_Reverse_int l) 259 [.list 1 (l.map (TV.int .i64))] CM.turn:=⟨pk l⟩
theorem mr:CK f283 (Rq [Ad 4 0] [0,1]<|Sq (Rq [Aa 6 0,Ah 7 6,Ad 8 0] [0,1,7,8]<|Bl 0<|Lo [0,1,7,8]<|Rq [Am 9 8 7] [0,1,7,8,9]<|Sq (Co 9 (Sk [0,1,7,8])<|Ex 0 [])<|Sq (Bl 1<|Rq [Aa 10 8,Aa 5 10] [0,1,5,7,8]<|Rq [Aa 11 1,Aa 12 0,Aa 13 5,Ai 14 12 13 1,Ab 15 14,Ej 16 11 15] [0,1,5,7,8,16]<|Co 16 (Rq [Aa 17 5,Aa 4 17] [4]<|.ret)<|Sk [0,1,7,8])<|Re [Al 18 8 1,Aa 8 18] [0,1,7,8])<|Rq [Bx 4 (-1)] [4]<|.ret) [.tmp 4]:=by decide +kernel
instance ub (b:d0) (a:Bool):Ct prog (JP b a) 283 [(eL 1 eB) b,eB a] (fun r=>.sh (eI r)):=Fi mr fun r h d e=>by
  unfold JP at h;have:HA 0 8 7 0 fun (c:Int) (_:Unit)=>[(8,.tv (eI c))]:=⟨⟩;exact au
theorem mJ:CK f238 (Rq [Ak 4] [0,1]<|Rq [Aa 5 0,Aa 6 1,Au 7 283 5 6,Bo 8 7 0,Aa 4 8] [4]<|.ret) [.tmp 4]:=by decide +kernel
instance t6 (b:d0) (a:Bool):Ct prog (G5 b a) 238 [(eL 1 eB) b,eB a] (fun r=>.sh (eB r)):=Fi mJ fun r h c d=>by
  unfold G5 at h;exact au
theorem lP:CK f171 (Rq [Ad 4 0] [0,1]<|Sq (Rq [Aa 6 0,Ah 7 6,Ad 8 0] [0,1,7,8]<|Bl 0<|Lo [0,1,7,8]<|Rq [Am 9 8 7] [0,1,7,8,9]<|Sq (Co 9 (Sk [0,1,7,8])<|Ex 0 [])<|Sq (Bl 1<|Rq [Aa 10 8,Aa 5 10] [0,1,5,7,8]<|Rq [Aa 11 1,Aa 12 0,Aa 13 5,Ai 14 12 13 9,Ae 15 14 9,Ch 16 11 15] [0,1,5,7,8,16]<|Co 16 (Rq [Aa 17 5,Aa 4 17] [4]<|.ret)<|Sk [0,1,7,8])<|Re [Al 18 8 1,Aa 8 18] [0,1,7,8])<|Rq [Bx 4 (-1)] [4]<|.ret) [.tmp 4]:=by decide +kernel
instance s9 (a:List AA) (f:AA->ca) (c:FuncId) (b:QQ) [g:∀ (d:AA),Ct prog (f d) c (AF d::b) (fun r=>.sh (eB r))]:Ct prog (DY a f) 171 [HL a,.clo c b] (fun r=>.sh (eI r)):=Fi lP fun r h i j=>by
  unfold DY at h;have:HA 0 8 7 0 fun (e:Int) (_:Unit)=>[(8,.tv (eI e))]:=⟨⟩;exact au
theorem kQ:CK f120 (Rq [Ak 4] [0,1]<|Rq [Aa 5 0,Aa 6 1,Au 7 171 5 6,Bo 8 7 0,Aa 4 8] [4]<|.ret) [.tmp 4]:=by decide +kernel
instance sI (a:List AA) (f:AA->ca) (c:FuncId) (b:QQ) [e:∀ (d:AA),Ct prog (f d) c (AF d::b) (fun r=>.sh (eB r))]:Ct prog (BX a f) 120 [HL a,.clo c b] (fun r=>.sh (eB r)):=Fi kQ fun r h g i=>by
  unfold BX at h;exact au
theorem nG:CK f308 (Rq [Ad 4 0] [0,1]<|Sq (Rq [Aa 6 0,Ah 7 6,Ad 8 0] [0,1,7,8]<|Bl 0<|Lo [0,1,7,8]<|Rq [Am 9 8 7] [0,1,7,8,9]<|Sq (Co 9 (Sk [0,1,7,8])<|Ex 0 [])<|Sq (Bl 1<|Rq [Aa 10 8,Aa 5 10] [0,1,5,7,8]<|Rq [Aa 11 1,Aa 12 0,Aa 13 5,Ai 14 12 13 4,Ae 15 14 4,Ch 16 11 15] [0,1,5,7,8,16]<|Co 16 (Rq [Aa 17 5,Aa 4 17] [4]<|.ret)<|Sk [0,1,7,8])<|Re [Al 18 8 1,Aa 8 18] [0,1,7,8])<|Rq [Bx 4 (-1)] [4]<|.ret) [.tmp 4]:=by decide +kernel
instance uw (a:List EG) (f:EG->ca) (c:FuncId) (b:QQ) [g:∀ (d:EG),Ct prog (f d) c (LS d::b) (fun r=>.sh (eB r))]:Ct prog (E1 a f) 308 [lS a,.clo c b] (fun r=>.sh (eI r)):=Fi nG fun r h i j=>by
  unfold E1 at h;have:HA 0 8 7 0 fun (e:Int) (_:Unit)=>[(8,.tv (eI e))]:=⟨⟩;exact au
theorem mu:CK f286 (Rq [Ak 4] [0,1]<|Rq [Aa 5 0,Aa 6 1,Au 7 308 5 6,Bo 8 7 0,Aa 4 8] [4]<|.ret) [.tmp 4]:=by decide +kernel
instance ue (a:List EG) (f:EG->ca) (c:FuncId) (b:QQ) [e:∀ (d:EG),Ct prog (f d) c (LS d::b) (fun r=>.sh (eB r))]:Ct prog (DW a f) 286 [lS a,.clo c b] (fun r=>.sh (eB r)):=Fi mu fun r h g i=>by
  unfold DW at h;exact au
theorem kK:CK f109 (Rq [Av 2 1] [0]<|Sq (Rq [Aa 3 0,⟨some 4,.isn (.s 3),none⟩] [0,4]<|Co 4 (Rq [Av 2 1] [2]<|.ret)<|Sk [0])<|Rq [Dj 5 1,Aa 6 0,Bi 7 1 5 6,Aj 2 7] [2]<|.ret) [.tmp 2]:=by decide +kernel
instance sB (a:Ne):Ct prog (slices_Clone_int a) 109 [lI a] (fun r=>.own (lI r)):=Fi kK fun r h b c=>by
  unfold slices_Clone_int at h;exact au
theorem pZ (l r:Ne) (h:slices_Sort_int l=some r):AR prog 125 [.list 1 (l.map (TV.int .i64))] (.turn r):=by
  unfold slices_Sort_int at h;rw [←aY] at h;split at h
  · rename_i e
    unfold BY at e;cases h;refine Y3 (by rfl) (List.length_mergeSort _) (fun x a=>List.mem_mergeSort.1 a) (fun w b=>?_) (fun g cap w _ _ c d=>Go.Proofs.Tryz.slices_Sort_int g 0 cap l w d c (by omega));subst b;exact Go.Proofs.Tryz.slices_Sort_int_none none 0 w
  · cases h
instance vK (l:Ne):Ct Go.Proofs.Tryz.prog (slices_Sort_int l) 125 [.list 1 (l.map (TV.int .i64))] CM.turn:=⟨pZ l⟩
theorem pf (l r:Ne) (h:slices_Compact_int l=some r):AR prog 126 [.list 1 (l.map (TV.int .i64))] (.cut r):=by
  unfold slices_Compact_int at h;split at h
  · rename_i e
    unfold BY at e;cases h;have f:=Go.Lib.compact_length_le l;refine gD (rest:=List.replicate (l.length - (Go.Lib.compact l).length) 0) (by rfl) (by rw [List.length_replicate]; omega) (fun x a=>WD a) (fun w b=>?_) (fun g cap w c _ i d=>Go.Proofs.Tryz.slices_Compact_int g 0 cap l w d (by omega) c);subst b;exact Go.Proofs.Tryz.slices_Compact_int_empty none 0 w
  · cases h
instance vL (l:Ne):Ct Go.Proofs.Tryz.prog (slices_Compact_int l) 126 [.list 1 (l.map (TV.int .i64))] CM.cut:=⟨pf l⟩
theorem po (a b c:Int) (r:Int × Int) (h:Iz a b c=some r):AR prog 303 [KL a,KL b,KL c] (.ext [KL (r.1),KL (r.2)]):=by
  unfold Iz at h;split at h
  · rename_i d
    cases h;obtain ⟨⟨e,i⟩,⟨f,j⟩,g,k⟩:=d;intro _;refine ⟨⟨rfl,?_⟩,fun w vs hv=>?_⟩
    · simp only [KL,TV.WFs,TV.WF,IntKind.min,IntKind.max,IntKind.signed,IntKind.bits,and_true]
      simp only [Bool.false_eq_true,if_false];refine ⟨⟨by omega,?_⟩,by omega,?_⟩
      · have:(2:Int) ^ 64=18446744073709551616:=by decide
        omega
      · have:(2:Int) ^ 64=18446744073709551616:=by decide
        omega
    · obtain ⟨x,rfl⟩:=Int.eq_ofNat_of_zero_le e
      obtain ⟨y,rfl⟩:=Int.eq_ofNat_of_zero_le f;obtain ⟨z,rfl⟩:=Int.eq_ofNat_of_zero_le g;have:=Go.Proofs.Any7.bits_Add64 Go.Proofs.Tryz.lays7n25 x y z (by omega) w;obtain ⟨l⟩:=vs;simp only [KL,AQ,A3] at hv;obtain ⟨m,n,rfl,rfl,o,p,rfl,rfl,q,s,rfl,rfl,rfl⟩:=hv;refine ⟨_,this,?_⟩;simp only [KL,AQ,A3];exact ⟨_,_,rfl,by simp,_,_,rfl,by simp,rfl⟩
  · cases h
instance vO (a b c:Int):Ct Go.Proofs.Tryz.prog (Iz a b c) 303 [KL a,KL b,KL c] (fun r=>.ext [KL (r.1),KL (r.2)]):=⟨po a b c⟩
theorem mi:CK f270 (Rq [Ad 2 0] [0]<|Rq [Ad 3 0] [0,3]<|Sq (Rq [Aa 6 0,Ah 7 6,Ad 8 0] [3,6,7,8]<|Bl 0<|Lo [3,6,7,8]<|Rq [Am 9 8 7] [3,6,7,8,9]<|Sq (Co 9 (Sk [3,6,7,8])<|Ex 0 [3])<|Sq (Bl 1<|Rq [Ai 10 6 8 1,Ab 11 10,Aa 5 11] [3,5,6,7,8]<|Rq [Aa 12 5,Aa 13 3,Bq 14 12 13] [3,5,6,7,8,14]<|Co 14 (Rq [Aa 15 5,Aa 2 15] [2]<|.ret)<|Sk [3,6,7,8])<|Re [Al 16 8 1,Aa 8 16] [3,6,7,8])<|Rq [Aa 17 3,Aa 2 17] [2]<|.ret) [.tmp 2]:=by decide +kernel
instance uW (a:Ne):Ct prog (L7 a) 270 [lI a] (fun r=>.sh (eI r)):=Fi mi fun r h c d=>by
  unfold L7 at h;have:HA 0 8 7 0 fun (b:Int) (_:Unit)=>[(8,.tv (eI b))]:=⟨⟩;exact au
theorem mn:CK f281 (Rq [Ak 2] [0]<|Rq [Aa 3 0,Aa 4 0,Bq 5 3 4,Aa 2 5] [2]<|.ret) [.tmp 2]:=by decide +kernel
instance uZ (a:Int):Ct prog (cmp_isNaN_int a) 281 [eI a] (fun r=>.sh (eB r)):=Fi mn fun r h b c=>by
  unfold cmp_isNaN_int at h;exact au
theorem mj:CK f271 (Rq [Ad 4 0] [0,1]<|Rq [Aa 7 0,Az 8 281 7,Aa 5 8] [0,1,5]<|Rq [Aa 9 1,Az 10 281 9,Aa 6 10] [0,1,5,6]<|Sq (Rq [Aa 11 5] [0,1,6,11]<|Co 11 (Sq (Rq [Aa 12 6] [12]<|Co 12 (Rq [Ad 4 0] [4]<|.ret)<|Sk [])<|Rq [Bx 4 (-1)] [4]<|.ret)<|Sk [0,1,6])<|Sq (Rq [Aa 13 6] [0,1,13]<|Co 13 (Rq [Ad 4 1] [4]<|.ret)<|Sk [0,1])<|Sq (Rq [Aa 14 0,Aa 15 1,Am 16 14 15] [0,1,16]<|Co 16 (Rq [Bx 4 (-1)] [4]<|.ret)<|Sk [0,1])<|Sq (Rq [Aa 17 0,Aa 18 1,Eo 19 17 18] [19]<|Co 19 (Rq [Ad 4 1] [4]<|.ret)<|Sk [])<|Rq [Ad 4 0] [4]<|.ret) [.tmp 4]:=by decide +kernel
instance uX (a:Int) (y:Int):Ct prog (cmp_Compare_int a y) 271 [eI a,eI y] (fun r=>.sh (eI r)):=Fi mj fun r h b c=>by
  unfold cmp_Compare_int at h;exact au
theorem nE:CK f304 (Rq [Ak 2] [0]<|Rq [Aa 3 0,Aa 4 0,Bq 5 3 4,Aa 2 5] [2]<|.ret) [.tmp 2]:=by decide +kernel
instance uu (a:Int):Ct prog (Jo a) 304 [KL a] (fun r=>.sh (eB r)):=Fi nE fun r h b c=>by
  unfold Jo at h;exact au
theorem ml:CK f272 (Rq [Ad 4 0] [0,1]<|Rq [Aa 7 0,Az 8 304 7,Aa 5 8] [0,1,5]<|Rq [Aa 9 1,Az 10 304 9,Aa 6 10] [0,1,5,6]<|Sq (Rq [Aa 11 5] [0,1,6,11]<|Co 11 (Sq (Rq [Aa 12 6] [12]<|Co 12 (Rq [Ad 4 0] [4]<|.ret)<|Sk [])<|Rq [Bx 4 (-1)] [4]<|.ret)<|Sk [0,1,6])<|Sq (Rq [Aa 13 6] [0,1,13]<|Co 13 (Rq [Ad 4 1] [4]<|.ret)<|Sk [0,1])<|Sq (Rq [Aa 14 0,Aa 15 1,Am 16 14 15] [0,1,16]<|Co 16 (Rq [Bx 4 (-1)] [4]<|.ret)<|Sk [0,1])<|Sq (Rq [Aa 17 0,Aa 18 1,Eo 19 17 18] [19]<|Co 19 (Rq [Ad 4 1] [4]<|.ret)<|Sk [])<|Rq [Ad 4 0] [4]<|.ret) [.tmp 4]:=by decide +kernel
instance uY (a:Int) (y:Int):Ct prog (Is a y) 272 [KL a,KL y] (fun r=>.sh (eI r)):=Fi ml fun r h b c=>by
  unfold Is at h;exact au
theorem rm (l:Ne) (m:Int) (r:Ne) (h:DN l m=some r):AR prog 26 [lI l,eI m] (.own (lI r)):=by
  unfold DN at h;split at h
  · rename_i a
    cases h;obtain ⟨x,rfl⟩:=List.length_eq_one_iff.1 a.1;obtain ⟨k,rfl⟩:=Int.eq_ofNat_of_zero_le a.2.1;exact Vo x k (by have:=a.2.2; omega)
  · cases h
instance i26 (l:Ne) (m:Int):Ct Go.Proofs.Tryz.prog (DN l m) 26 [lI l,eI m] (fun r=>.own (lI r)):=⟨rm l m⟩
theorem lQ:CK f172 (Rq [Ad 4 0] [0,1]<|Sq (Rq [Aa 6 0,Ah 7 6,Ad 8 0] [0,1,7,8]<|Bl 0<|Lo [0,1,7,8]<|Rq [Am 9 8 7] [0,1,7,8,9]<|Sq (Co 9 (Sk [0,1,7,8])<|Ex 0 [])<|Sq (Bl 1<|Rq [Aa 10 8,Aa 5 10] [0,1,5,7,8]<|Rq [Aa 11 1,Aa 12 0,Aa 13 5,Ai 14 12 13 3,Ae 15 14 3,Ch 16 11 15] [0,1,5,7,8,16]<|Co 16 (Rq [Aa 17 5,Aa 4 17] [4]<|.ret)<|Sk [0,1,7,8])<|Re [Al 18 8 1,Aa 8 18] [0,1,7,8])<|Rq [Bx 4 (-1)] [4]<|.ret) [.tmp 4]:=by decide +kernel
instance tA (a:List AG) (f:AG->ca) (c:FuncId) (b:QQ) [g:∀ (d:AG),Ct prog (f d) c (AN d::b) (fun r=>.sh (eB r))]:Ct prog (EN a f) 172 [(eL 3 AN) a,.clo c b] (fun r=>.sh (eI r)):=Fi lQ fun r h i j=>by
  unfold EN at h;have:HA 0 8 7 0 fun (e:Int) (_:Unit)=>[(8,.tv (eI e))]:=⟨⟩;exact au
theorem kS:CK f122 (Rq [Ak 4] [0,1]<|Rq [Aa 5 0,Aa 6 1,Au 7 172 5 6,Bo 8 7 0,Aa 4 8] [4]<|.ret) [.tmp 4]:=by decide +kernel
instance sK (a:List AG) (f:AG->ca) (c:FuncId) (b:QQ) [e:∀ (d:AG),Ct prog (f d) c (AN d::b) (fun r=>.sh (eB r))]:Ct prog (D2 a f) 122 [(eL 3 AN) a,.clo c b] (fun r=>.sh (eB r)):=Fi kS fun r h g i=>by
  unfold D2 at h;exact au
theorem pi (s:Ne) (n:Int) (r:Ne) (h:KT s n=some r):AR prog 173 [.nil,eI n] (.own (lI r)):=by
  unfold KT at h;split at h
  · rename_i c
    cases h;obtain ⟨k,rfl⟩:=Int.eq_ofNat_of_zero_le c.2.1;have d:k<=BY:=by have:=c.2.2; omega
    have g:=d;unfold BY at g;obtain ⟨b,i,j,p,l⟩:∃ b,prog.info? 3=some b∧b.zero=some (.int .i64 0)∧b.size=1∧b.bytes=8:=⟨_,rfl,rfl,rfl,rfl⟩;refine dh (by rfl) d (e:=3) (z:=(Value.int .i64 0).cells) rfl (fun w m=>?_) (fun w o=>?_)
    · exact Go.Proofs.Any8.slices_Grow_room Go.Proofs.Tryz.growI none 0 0 k w (d3 _) (by omega) (by omega) (by omega)
    · exact Go.Proofs.Any8.slices_Grow_grow Go.Proofs.Tryz.growI b (.int .i64 0) i j (by omega) none 0 0 k [] w (d3 _) (by omega) (by rw [l]; omega) (by omega) (by simp) (fun _=>rfl) (fun a f=>by cases f)
  · cases h
instance i173 (s:Ne) (n:Int):Ct Go.Proofs.Tryz.prog (KT s n) 173 [.nil,eI n] (fun r=>.own (lI r)):=⟨pi s n⟩
theorem kU:CK f124 (Rq [Av 2 1] [0]<|Rq [Ad 3 0] [0,3]<|Sq (Rq [Aa 9 0,Ah 10 9,Ad 11 0] [0,3,9,10,11]<|Bl 0<|Lo [0,3,9,10,11]<|Rq [Am 12 11 10] [0,3,9,10,11,12]<|Sq (Co 12 (Sk [0,3,9,10,11])<|Ex 0 [0,3])<|Sq (Bl 1<|Rq [Ai 13 9 11 1,Ab 14 13,Aj 5 14] [0,3,5,9,10,11]<|Rq [Aa 15 3,Aa 16 5,Ah 17 16,Br 18 15 17,Aa 3 18] [0,3,9,10,11]<|Rq [Aa 19 3,Bs 20 19 0] [0,3,9,10,11,20]<|Co 20 (.bad)<|Sk [0,3,9,10,11])<|Re [Al 22 11 1,Aa 11 22] [0,3,9,10,11])<|Rq [Aa 23 3,⟨some 24,.call 173 [.c .nil,.s 23],none⟩,Aj 6 24] [0,6]<|Sq (Rq [Aa 25 0,Ah 26 25,Ad 27 0] [6,25,26,27]<|Bl 2<|Lo [6,25,26,27]<|Rq [Am 28 27 26] [6,25,26,27,28]<|Sq (Co 28 (Sk [6,25,26,27])<|Ex 2 [6])<|Sq (Bl 3<|Rq [Ai 29 25 27 1,Ab 30 29,Aj 8 30] [6,8,25,26,27]<|Re [Aj 31 6,Aa 32 8,Bi 33 1 31 32,Aj 6 33] [6,25,26,27])<|Re [Al 34 27 1,Aa 27 34] [6,25,26,27])<|Rq [Aj 35 6,Aj 2 35] [2]<|.ret) [.tmp 2]:=by decide +kernel
instance sM (a:List Ne):Ct prog (K6 a) 124 [(eL 1 lI) a] (fun r=>.own (lI r)):=Fi kU fun r h f g=>by
  unfold K6 at h;have:HA 0 11 10 0 fun (d:Int) (c:Int)=>[(3,.tv (eI c)),(11,.tv (eI d))]:=⟨⟩;have:HA 2 27 26 0 fun (e:Int) (b:Ne)=>[(6,.ow (lI b)),(27,.tv (eI e))]:=⟨⟩;exact au
theorem rn (i:Int) (r:ByteArray) (h:strconv_Itoa i=some r):AR prog 52 [eI i] (.sh (eS r)):=by
  unfold strconv_Itoa at h;split at h
  · rename_i hi
    cases h;obtain ⟨k,rfl⟩:=Int.eq_ofNat_of_zero_le hi.1;have a:k<100:=by have:=hi.2; omega
    show AR prog 52 [eI (k:Int)] (.sh (eS (Xi k)));refine dj (by rfl) (by have:=Xj k; unfold IV; omega) fun w=>?_;have:=Go.Proofs.Tryz.strconv_Itoa_small k a w;rw [aZ k a] at this;exact this
  · cases h
instance wg (i:Int):Ct Go.Proofs.Tryz.prog (strconv_Itoa i) 52 [eI i] (fun r=>.sh (eS r)):=⟨rn i⟩
theorem ro (l:List ByteArray) (s r:ByteArray) (h:strings_Join l s=some r):AR prog 53 [lB l,eS s] (.sh (eS r)):=by
  unfold strings_Join at h;split at h
  · rename_i d
    cases h;obtain ⟨j,k⟩:=d;unfold BY at j k;have e:(Iy l s).size=(Go.Lib.join (l.map (·.data.toList)) s.data.toList).length:=by simp [Iy,ByteArray.size]
    refine dl (by rfl) (by unfold IV; omega) (fun a c w f=>?_) (fun b o c w g i d=>Go.Proofs.Tryz.strings_Join b o c l s w g i (by omega) d (by omega));subst f;exact Go.Proofs.Tryz.strings_Join_none a c s w
  · cases h
instance i53 (l:List ByteArray) (s:ByteArray):Ct Go.Proofs.Tryz.prog (strings_Join l s) 53 [lB l,eS s] (fun r=>.sh (eS r)):=⟨ro l s⟩
theorem qQ:CK f31 (Rq [Ak 4] [0,1]<|Sq (Rq [Aa 6 0,Ah 7 6,Aa 8 1,Ah 9 8,Bq 10 7 9] [0,1,10]<|Co 10 (Rq [Ak 4] [4]<|.ret)<|Sk [0,1])<|Sq (Rq [Aa 11 0,Ah 12 11,Ad 13 0] [0,1,12,13]<|Bl 0<|Lo [0,1,12,13]<|Rq [Am 14 13 12] [0,1,12,13,14]<|Sq (Co 14 (Sk [0,1,12,13])<|Ex 0 [])<|Sq (Bl 1<|Rq [Aa 15 13,Aa 5 15] [0,1,5,12,13]<|Sq (Dr [16,17,18,19,20,21,22,23,24] [Aa 16 0,Aa 17 5,Ai 18 16 17 1,Ab 19 18,Aa 20 1,Aa 21 5,Ai 22 20 21 1,Ab 23 22,⟨some 24,.bin (.s) .neq (.s 19) (.s 23),none⟩] [0,1,12,13,24])<|Co 24 (Rq [Ak 4] [4]<|.ret)<|Sk [0,1,12,13])<|Re [Al 25 13 1,Aa 13 25] [0,1,12,13])<|Rq [Bw 4] [4]<|.ret) [.tmp 4]:=by decide +kernel
instance vd (b:List ByteArray) (a:List ByteArray):Ct prog (slices_Equal_string b a) 31 [lB b,lB a] (fun r=>.sh (eB r)):=Fi qQ fun r h d e=>by
  unfold slices_Equal_string at h;have:HA 0 13 12 0 fun (c:Int) (_:Unit)=>[(13,.tv (eI c))]:=⟨⟩;exact au
end Go.Sf.Sc
