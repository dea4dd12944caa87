/- Contracts of the functions. -/
import Derived.Test.YtlbmpkmkmkgniaaGreatDoorShort
import Derived.Test.YtlbmpkmkmkgniaaGreatDoorRp
import Derived.Test.YtlbmpkmkmkgniaaGreatDoorTryzShelf
set_option linter.all false
set_option maxRecDepth 100000
set_option maxHeartbeats 4000000
namespace Go.Sf.Sc
open Go Go.Sf Go.Proofs.Tryz
theorem r7:CK f20 (Rq [Ak 4] [0,1]<|Sq (Rq [Aa 6 0,Ah 7 6,Aa 8 1,Ah 9 8,Bn 10 7 9] [0,1,10]<|Co 10 (Rq [Ak 4] [4]<|.ret)<|Sk [0,1])<|Sq (Rq [Aa 11 0,Ah 12 11,Ae 13 0] [0,1,12,13]<|Bl 0<|Lo [0,1,12,13]<|Rq [An 14 13 12] [0,1,12,13,14]<|Sq (Co 14 (Sk [0,1,12,13])<|Ex 0 [])<|Sq (Bl 1<|Rq [Aa 15 13,Aa 5 15] [0,1,5,12,13]<|Sq (Dr [16,17,18,19,20,21,22,23,24] [Aa 16 0,Aa 17 5,Ai 18 16 17 1,Ab 19 18,Aa 20 1,Aa 21 5,Ai 22 20 21 1,Ab 23 22,Bn 24 19 23] [0,1,12,13,24])<|Co 24 (Rq [Ak 4] [4]<|.ret)<|Sk [0,1,12,13])<|Re [Am 25 13 1,Aa 13 25] [0,1,12,13])<|Rq [Bt 4] [4]<|.ret) [.tmp 4]:=by decide +kernel
instance xx (b:Ne) (a:Ne):Ct prog (slices_Equal_int b a) 20 [lI b,lI a] (fun r=>.sh (eB r)):=Fi r7 fun r h d e=>by
  unfold slices_Equal_int at h;have:HA 0 13 12 0 fun (c:Int) (_:Unit)=>[(13,.tv (eI c))]:=⟨⟩;exact au
theorem pM:CK f322 (Rq [Ae 4 0] [0,1]<|Sq (Rq [Aa 6 0,Ah 7 6,Ae 8 0] [0,1,7,8]<|Bl 0<|Lo [0,1,7,8]<|Rq [An 9 8 7] [0,1,7,8,9]<|Sq (Co 9 (Sk [0,1,7,8])<|Ex 0 [])<|Sq (Bl 1<|Rq [Aa 10 8,Aa 5 10] [0,1,5,7,8]<|Rq [Aa 11 1,Aa 12 0,Aa 13 5,Ai 14 12 13 1,Ab 15 14,Dp 16 11 15] [0,1,5,7,8,16]<|Co 16 (Rq [Aa 17 5,Aa 4 17] [4]<|.ret)<|Sk [0,1,7,8])<|Re [Am 18 8 1,Aa 8 18] [0,1,7,8])<|Rq [By 4 (-1)] [4]<|.ret) [.tmp 4]:=by decide +kernel
instance xY (a:List ByteArray) (b:ByteArray):Ct prog (slices_Index_string a b) 322 [lB a,eS b] (fun r=>.sh (eI r)):=Fi pM fun r h d e=>by
  unfold slices_Index_string at h;have:HA 0 8 7 0 fun (c:Int) (_:Unit)=>[(8,.tv (eI c))]:=⟨⟩;exact au
theorem o4:CK f299 (Rq [Ak 4] [0,1]<|Rq [Aa 5 0,Aa 6 1,Av 7 322 5 6,Bo 8 7 0,Aa 4 8] [4]<|.ret) [.tmp 4]:=by decide +kernel
instance xH (a:List ByteArray) (b:ByteArray):Ct prog (slices_Contains_string a b) 299 [lB a,eS b] (fun r=>.sh (eB r)):=Fi o4 fun r h c d=>by
  unfold slices_Contains_string at h;exact au
theorem rb (s:ByteArray) (c:Int) (r:Int) (h:strings_IndexByte s c=some r):AT prog 321 [eS s,TF c] (.sh (eI r)):=by
  unfold strings_IndexByte at h;cases h;exact ic (by rfl) ⟨Go.Lib.indexByte_ge _ _,ib _ _⟩ (fun w=>Go.Proofs.Tryz.strings_IndexByte s c w)
instance xn (s:ByteArray) (c:Int):Ct Go.Proofs.Tryz.prog (strings_IndexByte s c) 321 [eS s,TF c] (fun r=>.sh (eI r)):=⟨rb s c⟩
theorem oM:CK f254 (Rq [Ae 4 0] [0,1]<|Sq (Rq [Aa 6 0,Ah 7 6,Ae 8 0] [0,1,7,8]<|Bl 0<|Lo [0,1,7,8]<|Rq [An 9 8 7] [0,1,7,8,9]<|Sq (Co 9 (Sk [0,1,7,8])<|Ex 0 [])<|Sq (Bl 1<|Rq [Aa 10 8,Aa 5 10] [0,1,5,7,8]<|Rq [Aa 11 1,Aa 12 0,Aa 13 5,Ai 14 12 13 4,Ad 15 14 4,Cm 16 11 15] [0,1,5,7,8,16]<|Co 16 (Rq [Aa 17 5,Aa 4 17] [4]<|.ret)<|Sk [0,1,7,8])<|Re [Am 18 8 1,Aa 8 18] [0,1,7,8])<|Rq [By 4 (-1)] [4]<|.ret) [.tmp 4]:=by decide +kernel
instance wb (c:List CU) (f:CU->ca) (b:FuncId) (a:QQ) [g:∀ (d:CU),Ct prog (f d) b (F8 d::a) (fun r=>.sh (eB r))]:Ct prog (EA c f) 254 [lN c,.clo b a] (fun r=>.sh (eI r)):=Fi oM fun r h i j=>by
  unfold EA at h;have:HA 0 8 7 0 fun (e:Int) (_:Unit)=>[(8,.tv (eI e))]:=⟨⟩;exact au
theorem nP:CK f191 (Rq [Ak 4] [0,1]<|Rq [Aa 5 0,Aa 6 1,Av 7 254 5 6,Bo 8 7 0,Aa 4 8] [4]<|.ret) [.tmp 4]:=by decide +kernel
instance vb (c:List CU) (f:CU->ca) (b:FuncId) (a:QQ) [e:∀ (d:CU),Ct prog (f d) b (F8 d::a) (fun r=>.sh (eB r))]:Ct prog (DA c f) 191 [lN c,.clo b a] (fun r=>.sh (eB r)):=Fi nP fun r h g i=>by
  unfold DA at h;exact au
theorem o3:CK f298 (Rq [Ae 4 0] [0,1]<|Sq (Rq [Aa 6 0,Ah 7 6,Ae 8 0] [0,1,7,8]<|Bl 0<|Lo [0,1,7,8]<|Rq [An 9 8 7] [0,1,7,8,9]<|Sq (Co 9 (Sk [0,1,7,8])<|Ex 0 [])<|Sq (Bl 1<|Rq [Aa 10 8,Aa 5 10] [0,1,5,7,8]<|Rq [Aa 11 1,Aa 12 0,Aa 13 5,Ai 14 12 13 4,Ad 15 14 4,Cm 16 11 15] [0,1,5,7,8,16]<|Co 16 (Rq [Aa 17 5,Aa 4 17] [4]<|.ret)<|Sk [0,1,7,8])<|Re [Am 18 8 1,Aa 8 18] [0,1,7,8])<|Rq [By 4 (-1)] [4]<|.ret) [.tmp 4]:=by decide +kernel
instance xG (c:List Attr) (f:Attr->ca) (b:FuncId) (a:QQ) [g:∀ (d:Attr),Ct prog (f d) b (IU d::a) (fun r=>.sh (eB r))]:Ct prog (FA c f) 298 [lA c,.clo b a] (fun r=>.sh (eI r)):=Fi o3 fun r h i j=>by
  unfold FA at h;have:HA 0 8 7 0 fun (e:Int) (_:Unit)=>[(8,.tv (eI e))]:=⟨⟩;exact au
theorem oN:CK f255 (Rq [Ak 4] [0,1]<|Rq [Aa 5 0,Aa 6 1,Av 7 298 5 6,Bo 8 7 0,Aa 4 8] [4]<|.ret) [.tmp 4]:=by decide +kernel
instance wc (c:List Attr) (f:Attr->ca) (b:FuncId) (a:QQ) [e:∀ (d:Attr),Ct prog (f d) b (IU d::a) (fun r=>.sh (eB r))]:Ct prog (DX c f) 255 [lA c,.clo b a] (fun r=>.sh (eB r)):=Fi oN fun r h g i=>by
  unfold DX at h;exact au
theorem oQ:CK f258 (Rq [Ae 4 0] [0,1]<|Sq (Rq [Aa 6 0,Ah 7 6,Ae 8 0] [0,1,7,8]<|Bl 0<|Lo [0,1,7,8]<|Rq [An 9 8 7] [0,1,7,8,9]<|Sq (Co 9 (Sk [0,1,7,8])<|Ex 0 [])<|Sq (Bl 1<|Rq [Aa 10 8,Aa 5 10] [0,1,5,7,8]<|Rq [Aa 11 1,Aa 12 0,Aa 13 5,Ai 14 12 13 7,Ad 15 14 7,Cm 16 11 15] [0,1,5,7,8,16]<|Co 16 (Rq [Aa 17 5,Aa 4 17] [4]<|.ret)<|Sk [0,1,7,8])<|Re [Am 18 8 1,Aa 8 18] [0,1,7,8])<|Rq [By 4 (-1)] [4]<|.ret) [.tmp 4]:=by decide +kernel
instance wg (c:List DD) (f:DD->ca) (b:FuncId) (a:QQ) [g:∀ (d:DD),Ct prog (f d) b (GY d::a) (fun r=>.sh (eB r))]:Ct prog (D9 c f) 258 [lX c,.clo b a] (fun r=>.sh (eI r)):=Fi oQ fun r h i j=>by
  unfold D9 at h;have:HA 0 8 7 0 fun (e:Int) (_:Unit)=>[(8,.tv (eI e))]:=⟨⟩;exact au
theorem nU:CK f196 (Rq [Ak 4] [0,1]<|Rq [Aa 5 0,Aa 6 1,Av 7 258 5 6,Bo 8 7 0,Aa 4 8] [4]<|.ret) [.tmp 4]:=by decide +kernel
instance vg (c:List DD) (f:DD->ca) (b:FuncId) (a:QQ) [e:∀ (d:DD),Ct prog (f d) b (GY d::a) (fun r=>.sh (eB r))]:Ct prog (C9 c f) 196 [lX c,.clo b a] (fun r=>.sh (eB r)):=Fi nU fun r h g i=>by
  unfold C9 at h;exact au
theorem sS:CK f46 (Rq [Ae 4 0] [0,1]<|Sq (Rq [Aa 6 0,Ah 7 6,Ae 8 0] [0,1,7,8]<|Bl 0<|Lo [0,1,7,8]<|Rq [An 9 8 7] [0,1,7,8,9]<|Sq (Co 9 (Sk [0,1,7,8])<|Ex 0 [])<|Sq (Bl 1<|Rq [Aa 10 8,Aa 5 10] [0,1,5,7,8]<|Rq [Aa 11 1,Aa 12 0,Aa 13 5,Ai 14 12 13 1,Ab 15 14,Cm 16 11 15] [0,1,5,7,8,16]<|Co 16 (Rq [Aa 17 5,Aa 4 17] [4]<|.ret)<|Sk [0,1,7,8])<|Re [Am 18 8 1,Aa 8 18] [0,1,7,8])<|Rq [By 4 (-1)] [4]<|.ret) [.tmp 4]:=by decide +kernel
instance yR (c:Ne) (f:Int->ca) (b:FuncId) (a:QQ) [g:∀ (d:Int),Ct prog (f d) b (eI d::a) (fun r=>.sh (eB r))]:Ct prog (FT c f) 46 [lI c,.clo b a] (fun r=>.sh (eI r)):=Fi sS fun r h i j=>by
  unfold FT at h;have:HA 0 8 7 0 fun (e:Int) (_:Unit)=>[(8,.tv (eI e))]:=⟨⟩;exact au
theorem sA:CK f24 (Rq [Ak 4] [0,1]<|Rq [Aa 5 0,Aa 6 1,Av 7 46 5 6,Bo 8 7 0,Aa 4 8] [4]<|.ret) [.tmp 4]:=by decide +kernel
instance yA (c:Ne) (f:Int->ca) (b:FuncId) (a:QQ) [e:∀ (d:Int),Ct prog (f d) b (eI d::a) (fun r=>.sh (eB r))]:Ct prog (B0 c f) 24 [lI c,.clo b a] (fun r=>.sh (eB r)):=Fi sA fun r h g i=>by
  unfold B0 at h;exact au
theorem nX:CK f199 (Rq [Ae 4 0] [0,1]<|Sq (Rq [Aa 6 0,Ah 7 6,Ae 8 0] [0,1,7,8]<|Bl 0<|Lo [0,1,7,8]<|Rq [An 9 8 7] [0,1,7,8,9]<|Sq (Co 9 (Sk [0,1,7,8])<|Ex 0 [])<|Sq (Bl 1<|Rq [Aa 10 8,Aa 5 10] [0,1,5,7,8]<|Rq [Aa 11 1,Aa 12 0,Aa 13 5,Ai 14 12 13 3,Ad 15 14 3,Cm 16 11 15] [0,1,5,7,8,16]<|Co 16 (Rq [Aa 17 5,Aa 4 17] [4]<|.ret)<|Sk [0,1,7,8])<|Re [Am 18 8 1,Aa 8 18] [0,1,7,8])<|Rq [By 4 (-1)] [4]<|.ret) [.tmp 4]:=by decide +kernel
instance vk (c:List DK) (f:DK->ca) (b:FuncId) (a:QQ) [g:∀ (d:DK),Ct prog (f d) b (EB d::a) (fun r=>.sh (eB r))]:Ct prog (FB c f) 199 [lE c,.clo b a] (fun r=>.sh (eI r)):=Fi nX fun r h i j=>by
  unfold FB at h;have:HA 0 8 7 0 fun (e:Int) (_:Unit)=>[(8,.tv (eI e))]:=⟨⟩;exact au
theorem mY:CK f143 (Rq [Ak 4] [0,1]<|Rq [Aa 5 0,Aa 6 1,Av 7 199 5 6,Bo 8 7 0,Aa 4 8] [4]<|.ret) [.tmp 4]:=by decide +kernel
instance ut (c:List DK) (f:DK->ca) (b:FuncId) (a:QQ) [e:∀ (d:DK),Ct prog (f d) b (EB d::a) (fun r=>.sh (eB r))]:Ct prog (CD c f) 143 [lE c,.clo b a] (fun r=>.sh (eB r)):=Fi mY fun r h g i=>by
  unfold CD at h;exact au
theorem nY:CK f200 (Rq [As 2 1] [0]<|Sq (Rq [Aa 3 0,⟨some 4,.isn (.s 3),none⟩] [0,4]<|Co 4 (Rq [As 2 1] [2]<|.ret)<|Sk [0])<|Rq [Dj 5 1,Aa 6 0,Bi 7 1 5 6,Al 2 7] [2]<|.ret) [.tmp 2]:=by decide +kernel
instance vl (a:List ByteArray):Ct prog (slices_Clone_string a) 200 [lB a] (fun r=>.own (lB r)):=Fi nY fun r h b c=>by
  unfold slices_Clone_string at h;exact au
theorem sr:CK f73 (Rq [Ae 4 0] [0,1]<|Sq (Rq [Aa 6 0,Ah 7 6,Ae 8 0] [0,1,7,8]<|Bl 0<|Lo [0,1,7,8]<|Rq [An 9 8 7] [0,1,7,8,9]<|Sq (Co 9 (Sk [0,1,7,8])<|Ex 0 [])<|Sq (Bl 1<|Rq [Aa 10 8,Aa 5 10] [0,1,5,7,8]<|Rq [Aa 11 1,Aa 12 0,Aa 13 5,Ai 14 12 13 1,Ab 15 14,Cp 16 11 15] [0,1,5,7,8,16]<|Co 16 (Rq [Aa 17 5,Aa 4 17] [4]<|.ret)<|Sk [0,1,7,8])<|Re [Am 18 8 1,Aa 8 18] [0,1,7,8])<|Rq [By 4 (-1)] [4]<|.ret) [.tmp 4]:=by decide +kernel
instance yk (a:Ne) (b:Int):Ct prog (slices_Index_int a b) 73 [lI a,eI b] (fun r=>.sh (eI r)):=Fi sr fun r h d e=>by
  unfold slices_Index_int at h;have:HA 0 8 7 0 fun (c:Int) (_:Unit)=>[(8,.tv (eI c))]:=⟨⟩;exact au
theorem sL:CK f38 (Rq [Ak 4] [0,1]<|Rq [Aa 5 0,Aa 6 1,Av 7 73 5 6,Bo 8 7 0,Aa 4 8] [4]<|.ret) [.tmp 4]:=by decide +kernel
instance yK (a:Ne) (b:Int):Ct prog (slices_Contains_int a b) 38 [lI a,eI b] (fun r=>.sh (eB r)):=Fi sL fun r h c d=>by
  unfold slices_Contains_int at h;exact au
theorem rZ (l r:Ne) (h:slices_Reverse_int l=some r):AT prog 259 [.list 1 (l.map (TV.int .i64))] (.turn r):=by
  unfold slices_Reverse_int at h;split at h
  · rename_i d
    unfold BS at d;cases h;refine aA (by rfl) List.length_reverse (fun x a=>List.mem_reverse.1 a) (fun w b=>?_) (fun g cap w _ _ j c=>(Go.Proofs.Tryz.slices_Reverse_int g 0 cap l w c (by omega)).mono ?_)
    · subst b
      exact Go.Proofs.Tryz.slices_Reverse_int_empty none 0 w
    · rintro e w' ⟨f,q,i⟩
      exact ⟨f,q,#[],by rw [Go.Sort.grow_empty]; exact i⟩
  · cases h
instance xk (l:Ne):Ct Go.Proofs.Tryz.prog (slices_Reverse_int l) 259 [.list 1 (l.map (TV.int .i64))] CQ.turn:=⟨rZ l⟩
theorem oh:CK f283 (Rq [Ae 4 0] [0,1]<|Sq (Rq [Aa 6 0,Ah 7 6,Ae 8 0] [0,1,7,8]<|Bl 0<|Lo [0,1,7,8]<|Rq [An 9 8 7] [0,1,7,8,9]<|Sq (Co 9 (Sk [0,1,7,8])<|Ex 0 [])<|Sq (Bl 1<|Rq [Aa 10 8,Aa 5 10] [0,1,5,7,8]<|Rq [Aa 11 1,Aa 12 0,Aa 13 5,Ai 14 12 13 1,Ab 15 14,Er 16 11 15] [0,1,5,7,8,16]<|Co 16 (Rq [Aa 17 5,Aa 4 17] [4]<|.ret)<|Sk [0,1,7,8])<|Re [Am 18 8 1,Aa 8 18] [0,1,7,8])<|Rq [By 4 (-1)] [4]<|.ret) [.tmp 4]:=by decide +kernel
instance wz (a:d0) (b:Bool):Ct prog (Jh a b) 283 [(eL 1 eB) a,eB b] (fun r=>.sh (eI r)):=Fi oh fun r h d e=>by
  unfold Jh at h;have:HA 0 8 7 0 fun (c:Int) (_:Unit)=>[(8,.tv (eI c))]:=⟨⟩;exact au
theorem n8:CK f238 (Rq [Ak 4] [0,1]<|Rq [Aa 5 0,Aa 6 1,Av 7 283 5 6,Bo 8 7 0,Aa 4 8] [4]<|.ret) [.tmp 4]:=by decide +kernel
instance wL (a:d0) (b:Bool):Ct prog (HK a b) 238 [(eL 1 eB) a,eB b] (fun r=>.sh (eB r)):=Fi n8 fun r h c d=>by
  unfold HK at h;exact au
theorem m9:CK f171 (Rq [Ae 4 0] [0,1]<|Sq (Rq [Aa 6 0,Ah 7 6,Ae 8 0] [0,1,7,8]<|Bl 0<|Lo [0,1,7,8]<|Rq [An 9 8 7] [0,1,7,8,9]<|Sq (Co 9 (Sk [0,1,7,8])<|Ex 0 [])<|Sq (Bl 1<|Rq [Aa 10 8,Aa 5 10] [0,1,5,7,8]<|Rq [Aa 11 1,Aa 12 0,Aa 13 5,Ai 14 12 13 9,Ad 15 14 9,Cm 16 11 15] [0,1,5,7,8,16]<|Co 16 (Rq [Aa 17 5,Aa 4 17] [4]<|.ret)<|Sk [0,1,7,8])<|Re [Am 18 8 1,Aa 8 18] [0,1,7,8])<|Rq [By 4 (-1)] [4]<|.ret) [.tmp 4]:=by decide +kernel
instance vL (c:List AA) (f:AA->ca) (b:FuncId) (a:QQ) [g:∀ (d:AA),Ct prog (f d) b (AF d::a) (fun r=>.sh (eB r))]:Ct prog (D1 c f) 171 [Hp c,.clo b a] (fun r=>.sh (eI r)):=Fi m9 fun r h i j=>by
  unfold D1 at h;have:HA 0 8 7 0 fun (e:Int) (_:Unit)=>[(8,.tv (eI e))]:=⟨⟩;exact au
theorem mD:CK f120 (Rq [Ak 4] [0,1]<|Rq [Aa 5 0,Aa 6 1,Av 7 171 5 6,Bo 8 7 0,Aa 4 8] [4]<|.ret) [.tmp 4]:=by decide +kernel
instance uV (c:List AA) (f:AA->ca) (b:FuncId) (a:QQ) [e:∀ (d:AA),Ct prog (f d) b (AF d::a) (fun r=>.sh (eB r))]:Ct prog (B1 c f) 120 [Hp c,.clo b a] (fun r=>.sh (eB r)):=Fi mD fun r h g i=>by
  unfold B1 at h;exact au
theorem o9:CK f308 (Rq [Ae 4 0] [0,1]<|Sq (Rq [Aa 6 0,Ah 7 6,Ae 8 0] [0,1,7,8]<|Bl 0<|Lo [0,1,7,8]<|Rq [An 9 8 7] [0,1,7,8,9]<|Sq (Co 9 (Sk [0,1,7,8])<|Ex 0 [])<|Sq (Bl 1<|Rq [Aa 10 8,Aa 5 10] [0,1,5,7,8]<|Rq [Aa 11 1,Aa 12 0,Aa 13 5,Ai 14 12 13 4,Ad 15 14 4,Cm 16 11 15] [0,1,5,7,8,16]<|Co 16 (Rq [Aa 17 5,Aa 4 17] [4]<|.ret)<|Sk [0,1,7,8])<|Re [Am 18 8 1,Aa 8 18] [0,1,7,8])<|Rq [By 4 (-1)] [4]<|.ret) [.tmp 4]:=by decide +kernel
instance xM (c:List EG) (f:EG->ca) (b:FuncId) (a:QQ) [g:∀ (d:EG),Ct prog (f d) b (ME d::a) (fun r=>.sh (eB r))]:Ct prog (FC c f) 308 [lS c,.clo b a] (fun r=>.sh (eI r)):=Fi o9 fun r h i j=>by
  unfold FC at h;have:HA 0 8 7 0 fun (e:Int) (_:Unit)=>[(8,.tv (eI e))]:=⟨⟩;exact au
theorem ol:CK f286 (Rq [Ak 4] [0,1]<|Rq [Aa 5 0,Aa 6 1,Av 7 308 5 6,Bo 8 7 0,Aa 4 8] [4]<|.ret) [.tmp 4]:=by decide +kernel
instance w6 (c:List EG) (f:EG->ca) (b:FuncId) (a:QQ) [e:∀ (d:EG),Ct prog (f d) b (ME d::a) (fun r=>.sh (eB r))]:Ct prog (DY c f) 286 [lS c,.clo b a] (fun r=>.sh (eB r)):=Fi ol fun r h g i=>by
  unfold DY at h;exact au
theorem l3:CK f109 (Rq [As 2 1] [0]<|Sq (Rq [Aa 3 0,⟨some 4,.isn (.s 3),none⟩] [0,4]<|Co 4 (Rq [As 2 1] [2]<|.ret)<|Sk [0])<|Rq [Dj 5 1,Aa 6 0,Bi 7 1 5 6,Al 2 7] [2]<|.ret) [.tmp 2]:=by decide +kernel
instance uL (a:Ne):Ct prog (slices_Clone_int a) 109 [lI a] (fun r=>.own (lI r)):=Fi l3 fun r h b c=>by
  unfold slices_Clone_int at h;exact au
theorem rV (l r:Ne) (h:slices_Sort_int l=some r):AT prog 125 [.list 1 (l.map (TV.int .i64))] (.turn r):=by
  unfold slices_Sort_int at h;rw [←cA] at h;split at h
  · rename_i e
    unfold BS at e;cases h;refine aA (by rfl) (List.length_mergeSort _) (fun x a=>List.mem_mergeSort.1 a) (fun w b=>?_) (fun g cap w _ _ c d=>Go.Proofs.Tryz.slices_Sort_int g 0 cap l w d c (by omega));subst b;exact Go.Proofs.Tryz.slices_Sort_int_none none 0 w
  · cases h
instance xh (l:Ne):Ct Go.Proofs.Tryz.prog (slices_Sort_int l) 125 [.list 1 (l.map (TV.int .i64))] CQ.turn:=⟨rV l⟩
theorem rW (l r:Ne) (h:slices_Compact_int l=some r):AT prog 126 [.list 1 (l.map (TV.int .i64))] (.cut r):=by
  unfold slices_Compact_int at h;split at h
  · rename_i e
    unfold BS at e;cases h;have f:=Go.Lib.compact_length_le l;refine iV (rest:=List.replicate (l.length - (Go.Lib.compact l).length) 0) (by rfl) (by rw [List.length_replicate]; omega) (fun x a=>XK a) (fun w b=>?_) (fun g cap w c _ i d=>Go.Proofs.Tryz.slices_Compact_int g 0 cap l w d (by omega) c);subst b;exact Go.Proofs.Tryz.slices_Compact_int_empty none 0 w
  · cases h
instance xi (l:Ne):Ct Go.Proofs.Tryz.prog (slices_Compact_int l) 126 [.list 1 (l.map (TV.int .i64))] CQ.cut:=⟨rW l⟩
theorem ra (a b c:Int) (r:Int × Int) (h:JL a b c=some r):AT prog 303 [Kn a,Kn b,Kn c] (.ext [Kn (r.1),Kn (r.2)]):=by
  unfold JL at h;split at h
  · rename_i d
    cases h;obtain ⟨⟨e,i⟩,⟨f,j⟩,g,k⟩:=d;intro _;refine ⟨⟨rfl,?_⟩,fun w vs hv=>?_⟩
    · simp only [Kn,TV.WFs,TV.WF,IntKind.min,IntKind.max,IntKind.signed,IntKind.bits,and_true]
      simp only [Bool.false_eq_true,if_false];refine ⟨⟨by omega,?_⟩,by omega,?_⟩
      · have:(2:Int) ^ 64=18446744073709551616:=by decide
        omega
      · have:(2:Int) ^ 64=18446744073709551616:=by decide
        omega
    · obtain ⟨x,rfl⟩:=Int.eq_ofNat_of_zero_le e
      obtain ⟨y,rfl⟩:=Int.eq_ofNat_of_zero_le f;obtain ⟨z,rfl⟩:=Int.eq_ofNat_of_zero_le g;have:=Go.Proofs.Any7.bits_Add64 Go.Proofs.Tryz.lays7n25 x y z (by omega) w;obtain ⟨l⟩:=vs;simp only [Kn,AR,A5] at hv;obtain ⟨m,n,rfl,rfl,o,p,rfl,rfl,q,s,rfl,rfl,rfl⟩:=hv;refine ⟨_,this,?_⟩;simp only [Kn,AR,A5];exact ⟨_,_,rfl,by simp,_,_,rfl,by simp,rfl⟩
  · cases h
instance xm (a b c:Int):Ct Go.Proofs.Tryz.prog (JL a b c) 303 [Kn a,Kn b,Kn c] (fun r=>.ext [Kn (r.1),Kn (r.2)]):=⟨ra a b c⟩
theorem oX:CK f270 (Rq [Ae 2 0] [0]<|Rq [Ae 3 0] [0,3]<|Sq (Rq [Aa 6 0,Ah 7 6,Ae 8 0] [3,6,7,8]<|Bl 0<|Lo [3,6,7,8]<|Rq [An 9 8 7] [3,6,7,8,9]<|Sq (Co 9 (Sk [3,6,7,8])<|Ex 0 [3])<|Sq (Bl 1<|Rq [Ai 10 6 8 1,Ab 11 10,Aa 5 11] [3,5,6,7,8]<|Rq [Aa 12 5,Aa 13 3,Bn 14 12 13] [3,5,6,7,8,14]<|Co 14 (Rq [Aa 15 5,Aa 2 15] [2]<|.ret)<|Sk [3,6,7,8])<|Re [Am 16 8 1,Aa 8 16] [3,6,7,8])<|Rq [Aa 17 3,Aa 2 17] [2]<|.ret) [.tmp 2]:=by decide +kernel
instance wq (a:Ne):Ct prog (Mp a) 270 [lI a] (fun r=>.sh (eI r)):=Fi oX fun r h c d=>by
  unfold Mp at h;have:HA 0 8 7 0 fun (b:Int) (_:Unit)=>[(8,.tv (eI b))]:=⟨⟩;exact au
theorem od:CK f281 (Rq [Ak 2] [0]<|Rq [Aa 3 0,Aa 4 0,Bn 5 3 4,Aa 2 5] [2]<|.ret) [.tmp 2]:=by decide +kernel
instance wx (a:Int):Ct prog (cmp_isNaN_int a) 281 [eI a] (fun r=>.sh (eB r)):=Fi od fun r h b c=>by
  unfold cmp_isNaN_int at h;exact au
theorem oY:CK f271 (Rq [Ae 4 0] [0,1]<|Rq [Aa 7 0,Az 8 281 7,Aa 5 8] [0,1,5]<|Rq [Aa 9 1,Az 10 281 9,Aa 6 10] [0,1,5,6]<|Sq (Rq [Aa 11 5] [0,1,6,11]<|Co 11 (Sq (Rq [Aa 12 6] [12]<|Co 12 (Rq [Ae 4 0] [4]<|.ret)<|Sk [])<|Rq [By 4 (-1)] [4]<|.ret)<|Sk [0,1,6])<|Sq (Rq [Aa 13 6] [0,1,13]<|Co 13 (Rq [Ae 4 1] [4]<|.ret)<|Sk [0,1])<|Sq (Rq [Aa 14 0,Aa 15 1,An 16 14 15] [0,1,16]<|Co 16 (Rq [By 4 (-1)] [4]<|.ret)<|Sk [0,1])<|Sq (Rq [Aa 17 0,Aa 18 1,Es 19 17 18] [19]<|Co 19 (Rq [Ae 4 1] [4]<|.ret)<|Sk [])<|Rq [Ae 4 0] [4]<|.ret) [.tmp 4]:=by decide +kernel
instance ws (a:Int) (y:Int):Ct prog (cmp_Compare_int a y) 271 [eI a,eI y] (fun r=>.sh (eI r)):=Fi oY fun r h b c=>by
  unfold cmp_Compare_int at h;exact au
theorem o6:CK f304 (Rq [Ak 2] [0]<|Rq [Aa 3 0,Aa 4 0,Bn 5 3 4,Aa 2 5] [2]<|.ret) [.tmp 2]:=by decide +kernel
instance xJ (a:Int):Ct prog (KD a) 304 [Kn a] (fun r=>.sh (eB r)):=Fi o6 fun r h b c=>by
  unfold KD at h;exact au
theorem oZ:CK f272 (Rq [Ae 4 0] [0,1]<|Rq [Aa 7 0,Az 8 304 7,Aa 5 8] [0,1,5]<|Rq [Aa 9 1,Az 10 304 9,Aa 6 10] [0,1,5,6]<|Sq (Rq [Aa 11 5] [0,1,6,11]<|Co 11 (Sq (Rq [Aa 12 6] [12]<|Co 12 (Rq [Ae 4 0] [4]<|.ret)<|Sk [])<|Rq [By 4 (-1)] [4]<|.ret)<|Sk [0,1,6])<|Sq (Rq [Aa 13 6] [0,1,13]<|Co 13 (Rq [Ae 4 1] [4]<|.ret)<|Sk [0,1])<|Sq (Rq [Aa 14 0,Aa 15 1,An 16 14 15] [0,1,16]<|Co 16 (Rq [By 4 (-1)] [4]<|.ret)<|Sk [0,1])<|Sq (Rq [Aa 17 0,Aa 18 1,Es 19 17 18] [19]<|Co 19 (Rq [Ae 4 1] [4]<|.ret)<|Sk [])<|Rq [Ae 4 0] [4]<|.ret) [.tmp 4]:=by decide +kernel
instance wt (a:Int) (y:Int):Ct prog (JG a y) 272 [Kn a,Kn y] (fun r=>.sh (eI r)):=Fi oZ fun r h b c=>by
  unfold JG at h;exact au
theorem tz (l:Ne) (m:Int) (r:Ne) (h:FZ l m=some r):AT prog 26 [lI l,eI m] (.own (lI r)):=by
  unfold FZ at h;split at h
  · rename_i a
    cases h;obtain ⟨x,rfl⟩:=List.length_eq_one_iff.1 a.1;obtain ⟨k,rfl⟩:=Int.eq_ofNat_of_zero_le a.2.1;exact Wq x k (by have:=a.2.2; omega)
  · cases h
instance i26 (l:Ne) (m:Int):Ct Go.Proofs.Tryz.prog (FZ l m) 26 [lI l,eI m] (fun r=>.own (lI r)):=⟨tz l m⟩
theorem nA:CK f172 (Rq [Ae 4 0] [0,1]<|Sq (Rq [Aa 6 0,Ah 7 6,Ae 8 0] [0,1,7,8]<|Bl 0<|Lo [0,1,7,8]<|Rq [An 9 8 7] [0,1,7,8,9]<|Sq (Co 9 (Sk [0,1,7,8])<|Ex 0 [])<|Sq (Bl 1<|Rq [Aa 10 8,Aa 5 10] [0,1,5,7,8]<|Rq [Aa 11 1,Aa 12 0,Aa 13 5,Ai 14 12 13 3,Ad 15 14 3,Cm 16 11 15] [0,1,5,7,8,16]<|Co 16 (Rq [Aa 17 5,Aa 4 17] [4]<|.ret)<|Sk [0,1,7,8])<|Re [Am 18 8 1,Aa 8 18] [0,1,7,8])<|Rq [By 4 (-1)] [4]<|.ret) [.tmp 4]:=by decide +kernel
instance vM (c:List AE) (f:AE->ca) (b:FuncId) (a:QQ) [g:∀ (d:AE),Ct prog (f d) b (AN d::a) (fun r=>.sh (eB r))]:Ct prog (EX c f) 172 [(eL 3 AN) c,.clo b a] (fun r=>.sh (eI r)):=Fi nA fun r h i j=>by
  unfold EX at h;have:HA 0 8 7 0 fun (e:Int) (_:Unit)=>[(8,.tv (eI e))]:=⟨⟩;exact au
theorem mF:CK f122 (Rq [Ak 4] [0,1]<|Rq [Aa 5 0,Aa 6 1,Av 7 172 5 6,Bo 8 7 0,Aa 4 8] [4]<|.ret) [.tmp 4]:=by decide +kernel
instance uX (c:List AE) (f:AE->ca) (b:FuncId) (a:QQ) [e:∀ (d:AE),Ct prog (f d) b (AN d::a) (fun r=>.sh (eB r))]:Ct prog (D8 c f) 122 [(eL 3 AN) c,.clo b a] (fun r=>.sh (eB r)):=Fi mF fun r h g i=>by
  unfold D8 at h;exact au
theorem rX (s:Ne) (n:Int) (r:Ne) (h:Kx s n=some r):AT prog 173 [.nil,eI n] (.own (lI r)):=by
  unfold Kx at h;split at h
  · rename_i c
    cases h;obtain ⟨k,rfl⟩:=Int.eq_ofNat_of_zero_le c.2.1;have d:k<=BS:=by have:=c.2.2; omega
    have g:=d;unfold BS at g;obtain ⟨b,i,j,p,l⟩:∃ b,prog.info? 3=some b∧b.zero=some (.int .i64 0)∧b.size=1∧b.bytes=8:=⟨_,rfl,rfl,rfl,rfl⟩;refine fP (by rfl) d (e:=3) (z:=(Value.int .i64 0).cells) rfl (fun w m=>?_) (fun w o=>?_)
    · exact Go.Proofs.Any8.slices_Grow_room Go.Proofs.Tryz.growI none 0 0 k w (d3 _) (by omega) (by omega) (by omega)
    · exact Go.Proofs.Any8.slices_Grow_grow Go.Proofs.Tryz.growI b (.int .i64 0) i j (by omega) none 0 0 k [] w (d3 _) (by omega) (by rw [l]; omega) (by omega) (by simp) (fun _=>rfl) (fun a f=>by cases f)
  · cases h
instance i173 (s:Ne) (n:Int):Ct Go.Proofs.Tryz.prog (Kx s n) 173 [.nil,eI n] (fun r=>.own (lI r)):=⟨rX s n⟩
theorem mH:CK f124 (Rq [As 2 1] [0]<|Rq [Ae 3 0] [0,3]<|Sq (Rq [Aa 9 0,Ah 10 9,Ae 11 0] [0,3,9,10,11]<|Bl 0<|Lo [0,3,9,10,11]<|Rq [An 12 11 10] [0,3,9,10,11,12]<|Sq (Co 12 (Sk [0,3,9,10,11])<|Ex 0 [0,3])<|Sq (Bl 1<|Rq [Ai 13 9 11 1,Ab 14 13,Al 5 14] [0,3,5,9,10,11]<|Rq [Aa 15 3,Aa 16 5,Ah 17 16,Bs 18 15 17,Aa 3 18] [0,3,9,10,11]<|Rq [Aa 19 3,Br 20 19 0] [0,3,9,10,11,20]<|Co 20 (.bad)<|Sk [0,3,9,10,11])<|Re [Am 22 11 1,Aa 11 22] [0,3,9,10,11])<|Rq [Aa 23 3,⟨some 24,.call 173 [.c .nil,.s 23],none⟩,Al 6 24] [0,6]<|Sq (Rq [Aa 25 0,Ah 26 25,Ae 27 0] [6,25,26,27]<|Bl 2<|Lo [6,25,26,27]<|Rq [An 28 27 26] [6,25,26,27,28]<|Sq (Co 28 (Sk [6,25,26,27])<|Ex 2 [6])<|Sq (Bl 3<|Rq [Ai 29 25 27 1,Ab 30 29,Al 8 30] [6,8,25,26,27]<|Re [Al 31 6,Aa 32 8,Bi 33 1 31 32,Al 6 33] [6,25,26,27])<|Re [Am 34 27 1,Aa 27 34] [6,25,26,27])<|Rq [Al 35 6,Al 2 35] [2]<|.ret) [.tmp 2]:=by decide +kernel
instance uZ (a:List Ne):Ct prog (Lp a) 124 [(eL 1 lI) a] (fun r=>.own (lI r)):=Fi mH fun r h f g=>by
  unfold Lp at h;have:HA 0 11 10 0 fun (b:Int) (c:Int)=>[(3,.tv (eI c)),(11,.tv (eI b))]:=⟨⟩;have:HA 2 27 26 0 fun (e:Int) (d:Ne)=>[(6,.ow (lI d)),(27,.tv (eI e))]:=⟨⟩;exact au
theorem t1 (i:Int) (r:ByteArray) (h:strconv_Itoa i=some r):AT prog 52 [eI i] (.sh (eS r)):=by
  unfold strconv_Itoa at h;split at h
  · rename_i hi
    cases h;obtain ⟨k,rfl⟩:=Int.eq_ofNat_of_zero_le hi.1;have a:k<100:=by have:=hi.2; omega
    show AT prog 52 [eI (k:Int)] (.sh (eS (Yo k)));refine fR (by rfl) (by have:=Yp k; unfold Iq; omega) fun w=>?_;have:=Go.Proofs.Tryz.strconv_Itoa_small k a w;rw [cD k a] at this;exact this
  · cases h
instance zB (i:Int):Ct Go.Proofs.Tryz.prog (strconv_Itoa i) 52 [eI i] (fun r=>.sh (eS r)):=⟨t1 i⟩
theorem t6 (l:List ByteArray) (s r:ByteArray) (h:strings_Join l s=some r):AT prog 53 [lB l,eS s] (.sh (eS r)):=by
  unfold strings_Join at h;split at h
  · rename_i d
    cases h;obtain ⟨j,k⟩:=d;unfold BS at j k;have e:(JK l s).size=(Go.Lib.join (l.map (·.data.toList)) s.data.toList).length:=by simp [JK,ByteArray.size]
    refine fT (by rfl) (by unfold Iq; omega) (fun a c w f=>?_) (fun b o c w g i d=>Go.Proofs.Tryz.strings_Join b o c l s w g i (by omega) d (by omega));subst f;exact Go.Proofs.Tryz.strings_Join_none a c s w
  · cases h
instance i53 (l:List ByteArray) (s:ByteArray):Ct Go.Proofs.Tryz.prog (strings_Join l s) 53 [lB l,eS s] (fun r=>.sh (eS r)):=⟨t6 l s⟩
theorem sG:CK f31 (Rq [Ak 4] [0,1]<|Sq (Rq [Aa 6 0,Ah 7 6,Aa 8 1,Ah 9 8,Bn 10 7 9] [0,1,10]<|Co 10 (Rq [Ak 4] [4]<|.ret)<|Sk [0,1])<|Sq (Rq [Aa 11 0,Ah 12 11,Ae 13 0] [0,1,12,13]<|Bl 0<|Lo [0,1,12,13]<|Rq [An 14 13 12] [0,1,12,13,14]<|Sq (Co 14 (Sk [0,1,12,13])<|Ex 0 [])<|Sq (Bl 1<|Rq [Aa 15 13,Aa 5 15] [0,1,5,12,13]<|Sq (Dr [16,17,18,19,20,21,22,23,24] [Aa 16 0,Aa 17 5,Ai 18 16 17 1,Ab 19 18,Aa 20 1,Aa 21 5,Ai 22 20 21 1,Ab 23 22,⟨some 24,.bin (.s) .neq (.s 19) (.s 23),none⟩] [0,1,12,13,24])<|Co 24 (Rq [Ak 4] [4]<|.ret)<|Sk [0,1,12,13])<|Re [Am 25 13 1,Aa 13 25] [0,1,12,13])<|Rq [Bt 4] [4]<|.ret) [.tmp 4]:=by decide +kernel
instance yF (b:List ByteArray) (a:List ByteArray):Ct prog (slices_Equal_string b a) 31 [lB b,lB a] (fun r=>.sh (eB r)):=Fi sG fun r h d e=>by
  unfold slices_Equal_string at h;have:HA 0 13 12 0 fun (c:Int) (_:Unit)=>[(13,.tv (eI c))]:=⟨⟩;exact au
end Go.Sf.Sc
