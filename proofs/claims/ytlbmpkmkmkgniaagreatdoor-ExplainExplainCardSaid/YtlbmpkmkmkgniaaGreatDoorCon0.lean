/- Contracts of the functions. -/
import Derived.Test.YtlbmpkmkmkgniaaGreatDoorShort
import Derived.Test.YtlbmpkmkmkgniaaGreatDoorRp
import Derived.Test.YtlbmpkmkmkgniaaGreatDoorTryzShelf
set_option maxRecDepth 100000
set_option maxHeartbeats 4000000
namespace Go.Sf.Sc
open Go Go.Sf Go.Proofs.Tryz
theorem sI:CK f20 (Rq [Al 4] [0,1]<|Sq (Rq [Aa 6 0,Ag 7 6,Aa 8 1,Ag 9 8,Bk 10 7 9] [0,1,10]<|Co 10 (Rq [Al 4] [4]<|.ret)<|Sk [0,1])<|Sq (Rq [Aa 11 0,Ag 12 11,Ae 13 0] [0,1,12,13]<|Bl 0<|Lo [0,1,12,13]<|Rq [Am 14 13 12] [0,1,12,13,14]<|Sq (Co 14 (Sk [0,1,12,13])<|Ex 0 [])<|Sq (Bl 1<|Rq [Aa 15 13,Aa 5 15] [0,1,5,12,13]<|Sq (Dr [16,17,18,19,20,21,22,23,24] [Aa 16 0,Aa 17 5,Ai 18 16 17 1,Ab 19 18,Aa 20 1,Aa 21 5,Ai 22 20 21 1,Ab 23 22,Bk 24 19 23] [0,1,12,13,24])<|Co 24 (Rq [Al 4] [4]<|.ret)<|Sk [0,1,12,13])<|Re [An 25 13 1,Aa 13 25] [0,1,12,13])<|Rq [Br 4] [4]<|.ret) [.tmp 4]:=by decide +kernel
instance yF (a:Ne) (b:Ne):Ct prog (slices_Equal_int a b) 20 [lI a,lI b] (fun r=>.sh (eB r)):=Fi sI fun r h d e=>by
  unfold slices_Equal_int at h;have:HA 0 13 12 0 fun (c:Int) (_:Unit)=>[(13,.tv (eI c))]:=⟨⟩;exact au
theorem pS:CK f322 (Rq [Ae 4 0] [0,1]<|Sq (Rq [Aa 6 0,Ag 7 6,Ae 8 0] [0,1,7,8]<|Bl 0<|Lo [0,1,7,8]<|Rq [Am 9 8 7] [0,1,7,8,9]<|Sq (Co 9 (Sk [0,1,7,8])<|Ex 0 [])<|Sq (Bl 1<|Rq [Aa 10 8,Aa 5 10] [0,1,5,7,8]<|Rq [Aa 11 1,Aa 12 0,Aa 13 5,Ai 14 12 13 1,Ab 15 14,Do 16 11 15] [0,1,5,7,8,16]<|Co 16 (Rq [Aa 17 5,Aa 4 17] [4]<|.ret)<|Sk [0,1,7,8])<|Re [An 18 8 1,Aa 8 18] [0,1,7,8])<|Rq [Bw 4 (-1)] [4]<|.ret) [.tmp 4]:=by decide +kernel
instance xf (b:List ByteArray) (a:ByteArray):Ct prog (slices_Index_string b a) 322 [lB b,eS a] (fun r=>.sh (eI r)):=Fi pS fun r h d e=>by
  unfold slices_Index_string at h;have:HA 0 8 7 0 fun (c:Int) (_:Unit)=>[(8,.tv (eI c))]:=⟨⟩;exact au
theorem pA:CK f299 (Rq [Al 4] [0,1]<|Rq [Aa 5 0,Aa 6 1,Av 7 322 5 6,Bo 8 7 0,Aa 4 8] [4]<|.ret) [.tmp 4]:=by decide +kernel
instance xO (b:List ByteArray) (a:ByteArray):Ct prog (slices_Contains_string b a) 299 [lB b,eS a] (fun r=>.sh (eB r)):=Fi pA fun r h c d=>by
  unfold slices_Contains_string at h;exact au
theorem ri (s:ByteArray) (c:Int) (r:Int) (h:strings_IndexByte s c=some r):AU prog 321 [eS s,Td c] (.sh (eI r)):=by
  unfold strings_IndexByte at h;cases h;exact iq (by rfl) ⟨Go.Lib.indexByte_ge _ _,ip _ _⟩ (fun w=>Go.Proofs.Tryz.strings_IndexByte s c w)
instance xx (s:ByteArray) (c:Int):Ct Go.Proofs.Tryz.prog (strings_IndexByte s c) 321 [eS s,Td c] (fun r=>.sh (eI r)):=⟨ri s c⟩
theorem oS:CK f254 (Rq [Ae 4 0] [0,1]<|Sq (Rq [Aa 6 0,Ag 7 6,Ae 8 0] [0,1,7,8]<|Bl 0<|Lo [0,1,7,8]<|Rq [Am 9 8 7] [0,1,7,8,9]<|Sq (Co 9 (Sk [0,1,7,8])<|Ex 0 [])<|Sq (Bl 1<|Rq [Aa 10 8,Aa 5 10] [0,1,5,7,8]<|Rq [Aa 11 1,Aa 12 0,Aa 13 5,Ai 14 12 13 4,Ad 15 14 4,Cn 16 11 15] [0,1,5,7,8,16]<|Co 16 (Rq [Aa 17 5,Aa 4 17] [4]<|.ret)<|Sk [0,1,7,8])<|Re [An 18 8 1,Aa 8 18] [0,1,7,8])<|Rq [Bw 4 (-1)] [4]<|.ret) [.tmp 4]:=by decide +kernel
instance wn (b:List CX) (f:CX->ca) (a:FuncId) (c:QQ) [g:∀ (d:CX),Ct prog (f d) a (F9 d::c) (fun r=>.sh (eB r))]:Ct prog (EH b f) 254 [lN b,.clo a c] (fun r=>.sh (eI r)):=Fi oS fun r h i j=>by
  unfold EH at h;have:HA 0 8 7 0 fun (e:Int) (_:Unit)=>[(8,.tv (eI e))]:=⟨⟩;exact au
theorem nV:CK f191 (Rq [Al 4] [0,1]<|Rq [Aa 5 0,Aa 6 1,Av 7 254 5 6,Bo 8 7 0,Aa 4 8] [4]<|.ret) [.tmp 4]:=by decide +kernel
instance vp (b:List CX) (f:CX->ca) (a:FuncId) (c:QQ) [e:∀ (d:CX),Ct prog (f d) a (F9 d::c) (fun r=>.sh (eB r))]:Ct prog (DC b f) 191 [lN b,.clo a c] (fun r=>.sh (eB r)):=Fi nV fun r h g i=>by
  unfold DC at h;exact au
theorem o9:CK f298 (Rq [Ae 4 0] [0,1]<|Sq (Rq [Aa 6 0,Ag 7 6,Ae 8 0] [0,1,7,8]<|Bl 0<|Lo [0,1,7,8]<|Rq [Am 9 8 7] [0,1,7,8,9]<|Sq (Co 9 (Sk [0,1,7,8])<|Ex 0 [])<|Sq (Bl 1<|Rq [Aa 10 8,Aa 5 10] [0,1,5,7,8]<|Rq [Aa 11 1,Aa 12 0,Aa 13 5,Ai 14 12 13 4,Ad 15 14 4,Cn 16 11 15] [0,1,5,7,8,16]<|Co 16 (Rq [Aa 17 5,Aa 4 17] [4]<|.ret)<|Sk [0,1,7,8])<|Re [An 18 8 1,Aa 8 18] [0,1,7,8])<|Rq [Bw 4 (-1)] [4]<|.ret) [.tmp 4]:=by decide +kernel
instance xN (b:List Attr) (f:Attr->ca) (a:FuncId) (c:QQ) [g:∀ (d:Attr),Ct prog (f d) a (If d::c) (fun r=>.sh (eB r))]:Ct prog (FD b f) 298 [lA b,.clo a c] (fun r=>.sh (eI r)):=Fi o9 fun r h i j=>by
  unfold FD at h;have:HA 0 8 7 0 fun (e:Int) (_:Unit)=>[(8,.tv (eI e))]:=⟨⟩;exact au
theorem oT:CK f255 (Rq [Al 4] [0,1]<|Rq [Aa 5 0,Aa 6 1,Av 7 298 5 6,Bo 8 7 0,Aa 4 8] [4]<|.ret) [.tmp 4]:=by decide +kernel
instance wo (b:List Attr) (f:Attr->ca) (a:FuncId) (c:QQ) [e:∀ (d:Attr),Ct prog (f d) a (If d::c) (fun r=>.sh (eB r))]:Ct prog (D3 b f) 255 [lA b,.clo a c] (fun r=>.sh (eB r)):=Fi oT fun r h g i=>by
  unfold D3 at h;exact au
theorem oW:CK f258 (Rq [Ae 4 0] [0,1]<|Sq (Rq [Aa 6 0,Ag 7 6,Ae 8 0] [0,1,7,8]<|Bl 0<|Lo [0,1,7,8]<|Rq [Am 9 8 7] [0,1,7,8,9]<|Sq (Co 9 (Sk [0,1,7,8])<|Ex 0 [])<|Sq (Bl 1<|Rq [Aa 10 8,Aa 5 10] [0,1,5,7,8]<|Rq [Aa 11 1,Aa 12 0,Aa 13 5,Ai 14 12 13 7,Ad 15 14 7,Cn 16 11 15] [0,1,5,7,8,16]<|Co 16 (Rq [Aa 17 5,Aa 4 17] [4]<|.ret)<|Sk [0,1,7,8])<|Re [An 18 8 1,Aa 8 18] [0,1,7,8])<|Rq [Bw 4 (-1)] [4]<|.ret) [.tmp 4]:=by decide +kernel
instance wt (b:List DF) (f:DF->ca) (a:FuncId) (c:QQ) [g:∀ (d:DF),Ct prog (f d) a (G5 d::c) (fun r=>.sh (eB r))]:Ct prog (EG b f) 258 [lX b,.clo a c] (fun r=>.sh (eI r)):=Fi oW fun r h i j=>by
  unfold EG at h;have:HA 0 8 7 0 fun (e:Int) (_:Unit)=>[(8,.tv (eI e))]:=⟨⟩;exact au
theorem na:CK f196 (Rq [Al 4] [0,1]<|Rq [Aa 5 0,Aa 6 1,Av 7 258 5 6,Bo 8 7 0,Aa 4 8] [4]<|.ret) [.tmp 4]:=by decide +kernel
instance vw (b:List DF) (f:DF->ca) (a:FuncId) (c:QQ) [e:∀ (d:DF),Ct prog (f d) a (G5 d::c) (fun r=>.sh (eB r))]:Ct prog (DB b f) 196 [lX b,.clo a c] (fun r=>.sh (eB r)):=Fi na fun r h g i=>by
  unfold DB at h;exact au
theorem sb:CK f46 (Rq [Ae 4 0] [0,1]<|Sq (Rq [Aa 6 0,Ag 7 6,Ae 8 0] [0,1,7,8]<|Bl 0<|Lo [0,1,7,8]<|Rq [Am 9 8 7] [0,1,7,8,9]<|Sq (Co 9 (Sk [0,1,7,8])<|Ex 0 [])<|Sq (Bl 1<|Rq [Aa 10 8,Aa 5 10] [0,1,5,7,8]<|Rq [Aa 11 1,Aa 12 0,Aa 13 5,Ai 14 12 13 1,Ab 15 14,Cn 16 11 15] [0,1,5,7,8,16]<|Co 16 (Rq [Aa 17 5,Aa 4 17] [4]<|.ret)<|Sk [0,1,7,8])<|Re [An 18 8 1,Aa 8 18] [0,1,7,8])<|Rq [Bw 4 (-1)] [4]<|.ret) [.tmp 4]:=by decide +kernel
instance yY (b:Ne) (f:Int->ca) (a:FuncId) (c:QQ) [g:∀ (d:Int),Ct prog (f d) a (eI d::c) (fun r=>.sh (eB r))]:Ct prog (FW b f) 46 [lI b,.clo a c] (fun r=>.sh (eI r)):=Fi sb fun r h i j=>by
  unfold FW at h;have:HA 0 8 7 0 fun (e:Int) (_:Unit)=>[(8,.tv (eI e))]:=⟨⟩;exact au
theorem sK:CK f24 (Rq [Al 4] [0,1]<|Rq [Aa 5 0,Aa 6 1,Av 7 46 5 6,Bo 8 7 0,Aa 4 8] [4]<|.ret) [.tmp 4]:=by decide +kernel
instance yH (b:Ne) (f:Int->ca) (a:FuncId) (c:QQ) [e:∀ (d:Int),Ct prog (f d) a (eI d::c) (fun r=>.sh (eB r))]:Ct prog (B5 b f) 24 [lI b,.clo a c] (fun r=>.sh (eB r)):=Fi sK fun r h g i=>by
  unfold B5 at h;exact au
theorem nh:CK f199 (Rq [Ae 4 0] [0,1]<|Sq (Rq [Aa 6 0,Ag 7 6,Ae 8 0] [0,1,7,8]<|Bl 0<|Lo [0,1,7,8]<|Rq [Am 9 8 7] [0,1,7,8,9]<|Sq (Co 9 (Sk [0,1,7,8])<|Ex 0 [])<|Sq (Bl 1<|Rq [Aa 10 8,Aa 5 10] [0,1,5,7,8]<|Rq [Aa 11 1,Aa 12 0,Aa 13 5,Ai 14 12 13 3,Ad 15 14 3,Cn 16 11 15] [0,1,5,7,8,16]<|Co 16 (Rq [Aa 17 5,Aa 4 17] [4]<|.ret)<|Sk [0,1,7,8])<|Re [An 18 8 1,Aa 8 18] [0,1,7,8])<|Rq [Bw 4 (-1)] [4]<|.ret) [.tmp 4]:=by decide +kernel
instance v8 (b:List DY) (f:DY->ca) (a:FuncId) (c:QQ) [g:∀ (d:DY),Ct prog (f d) a (EJ d::c) (fun r=>.sh (eB r))]:Ct prog (FE b f) 199 [lE b,.clo a c] (fun r=>.sh (eI r)):=Fi nh fun r h i j=>by
  unfold FE at h;have:HA 0 8 7 0 fun (e:Int) (_:Unit)=>[(8,.tv (eI e))]:=⟨⟩;exact au
theorem me:CK f143 (Rq [Al 4] [0,1]<|Rq [Aa 5 0,Aa 6 1,Av 7 199 5 6,Bo 8 7 0,Aa 4 8] [4]<|.ret) [.tmp 4]:=by decide +kernel
instance u7 (b:List DY) (f:DY->ca) (a:FuncId) (c:QQ) [e:∀ (d:DY),Ct prog (f d) a (EJ d::c) (fun r=>.sh (eB r))]:Ct prog (CL b f) 143 [lE b,.clo a c] (fun r=>.sh (eB r)):=Fi me fun r h g i=>by
  unfold CL at h;exact au
theorem ni:CK f200 (Rq [Ar 2 1] [0]<|Sq (Rq [Aa 3 0,⟨some 4,.isn (.s 3),none⟩] [0,4]<|Co 4 (Rq [Ar 2 1] [2]<|.ret)<|Sk [0])<|Rq [Dc 5 1,Aa 6 0,Bi 7 1 5 6,Ak 2 7] [2]<|.ret) [.tmp 2]:=by decide +kernel
instance wA (a:List ByteArray):Ct prog (slices_Clone_string a) 200 [lB a] (fun r=>.own (lB r)):=Fi ni fun r h b c=>by
  unfold slices_Clone_string at h;exact au
theorem tF:CK f73 (Rq [Ae 4 0] [0,1]<|Sq (Rq [Aa 6 0,Ag 7 6,Ae 8 0] [0,1,7,8]<|Bl 0<|Lo [0,1,7,8]<|Rq [Am 9 8 7] [0,1,7,8,9]<|Sq (Co 9 (Sk [0,1,7,8])<|Ex 0 [])<|Sq (Bl 1<|Rq [Aa 10 8,Aa 5 10] [0,1,5,7,8]<|Rq [Aa 11 1,Aa 12 0,Aa 13 5,Ai 14 12 13 1,Ab 15 14,Cp 16 11 15] [0,1,5,7,8,16]<|Co 16 (Rq [Aa 17 5,Aa 4 17] [4]<|.ret)<|Sk [0,1,7,8])<|Re [An 18 8 1,Aa 8 18] [0,1,7,8])<|Rq [Bw 4 (-1)] [4]<|.ret) [.tmp 4]:=by decide +kernel
instance yx (b:Ne) (a:Int):Ct prog (slices_Index_int b a) 73 [lI b,eI a] (fun r=>.sh (eI r)):=Fi tF fun r h d e=>by
  unfold slices_Index_int at h;have:HA 0 8 7 0 fun (c:Int) (_:Unit)=>[(8,.tv (eI c))]:=⟨⟩;exact au
theorem sW:CK f38 (Rq [Al 4] [0,1]<|Rq [Aa 5 0,Aa 6 1,Av 7 73 5 6,Bo 8 7 0,Aa 4 8] [4]<|.ret) [.tmp 4]:=by decide +kernel
instance yT (b:Ne) (a:Int):Ct prog (slices_Contains_int b a) 38 [lI b,eI a] (fun r=>.sh (eB r)):=Fi sW fun r h c d=>by
  unfold slices_Contains_int at h;exact au
theorem rg (l r:Ne) (h:slices_Reverse_int l=some r):AU prog 259 [.list 1 (l.map (TV.int .i64))] (.turn r):=by
  unfold slices_Reverse_int at h;split at h
  · rename_i d
    unfold BM at d;cases h;refine aQ (by rfl) List.length_reverse (fun x a=>List.mem_reverse.1 a) (fun w b=>?_) (fun g cap w _ _ j c=>(Go.Proofs.Tryz.slices_Reverse_int g 0 cap l w c (by omega)).mono ?_)
    · subst b
      exact Go.Proofs.Tryz.slices_Reverse_int_empty none 0 w
    · rintro e w' ⟨f,q,i⟩
      exact ⟨f,q,#[],by rw [Go.Sort.grow_empty]; exact i⟩
  · cases h
instance xu (l:Ne):Ct Go.Proofs.Tryz.prog (slices_Reverse_int l) 259 [.list 1 (l.map (TV.int .i64))] CS.turn:=⟨rg l⟩
theorem ot:CK f283 (Rq [Ae 4 0] [0,1]<|Sq (Rq [Aa 6 0,Ag 7 6,Ae 8 0] [0,1,7,8]<|Bl 0<|Lo [0,1,7,8]<|Rq [Am 9 8 7] [0,1,7,8,9]<|Sq (Co 9 (Sk [0,1,7,8])<|Ex 0 [])<|Sq (Bl 1<|Rq [Aa 10 8,Aa 5 10] [0,1,5,7,8]<|Rq [Aa 11 1,Aa 12 0,Aa 13 5,Ai 14 12 13 1,Ab 15 14,Eo 16 11 15] [0,1,5,7,8,16]<|Co 16 (Rq [Aa 17 5,Aa 4 17] [4]<|.ret)<|Sk [0,1,7,8])<|Re [An 18 8 1,Aa 8 18] [0,1,7,8])<|Rq [Bw 4 (-1)] [4]<|.ret) [.tmp 4]:=by decide +kernel
instance xA (b:d0) (a:Bool):Ct prog (Jq b a) 283 [(eL 1 eB) b,eB a] (fun r=>.sh (eI r)):=Fi ot fun r h d e=>by
  unfold Jq at h;have:HA 0 8 7 0 fun (c:Int) (_:Unit)=>[(8,.tv (eI c))]:=⟨⟩;exact au
theorem oE:CK f238 (Rq [Al 4] [0,1]<|Rq [Aa 5 0,Aa 6 1,Av 7 283 5 6,Bo 8 7 0,Aa 4 8] [4]<|.ret) [.tmp 4]:=by decide +kernel
instance wW (b:d0) (a:Bool):Ct prog (Hr b a) 238 [(eL 1 eB) b,eB a] (fun r=>.sh (eB r)):=Fi oE fun r h c d=>by
  unfold Hr at h;exact au
theorem nF:CK f171 (Rq [Ae 4 0] [0,1]<|Sq (Rq [Aa 6 0,Ag 7 6,Ae 8 0] [0,1,7,8]<|Bl 0<|Lo [0,1,7,8]<|Rq [Am 9 8 7] [0,1,7,8,9]<|Sq (Co 9 (Sk [0,1,7,8])<|Ex 0 [])<|Sq (Bl 1<|Rq [Aa 10 8,Aa 5 10] [0,1,5,7,8]<|Rq [Aa 11 1,Aa 12 0,Aa 13 5,Ai 14 12 13 9,Ad 15 14 9,Cn 16 11 15] [0,1,5,7,8,16]<|Co 16 (Rq [Aa 17 5,Aa 4 17] [4]<|.ret)<|Sk [0,1,7,8])<|Re [An 18 8 1,Aa 8 18] [0,1,7,8])<|Rq [Bw 4 (-1)] [4]<|.ret) [.tmp 4]:=by decide +kernel
instance vX (b:List AA) (f:AA->ca) (a:FuncId) (c:QQ) [g:∀ (d:AA),Ct prog (f d) a (AE d::c) (fun r=>.sh (eB r))]:Ct prog (EA b f) 171 [H4 b,.clo a c] (fun r=>.sh (eI r)):=Fi nF fun r h i j=>by
  unfold EA at h;have:HA 0 8 7 0 fun (e:Int) (_:Unit)=>[(8,.tv (eI e))]:=⟨⟩;exact au
theorem mJ:CK f120 (Rq [Al 4] [0,1]<|Rq [Aa 5 0,Aa 6 1,Av 7 171 5 6,Bo 8 7 0,Aa 4 8] [4]<|.ret) [.tmp 4]:=by decide +kernel
instance uh (b:List AA) (f:AA->ca) (a:FuncId) (c:QQ) [e:∀ (d:AA),Ct prog (f d) a (AE d::c) (fun r=>.sh (eB r))]:Ct prog (B6 b f) 120 [H4 b,.clo a c] (fun r=>.sh (eB r)):=Fi mJ fun r h g i=>by
  unfold B6 at h;exact au
theorem pG:CK f308 (Rq [Ae 4 0] [0,1]<|Sq (Rq [Aa 6 0,Ag 7 6,Ae 8 0] [0,1,7,8]<|Bl 0<|Lo [0,1,7,8]<|Rq [Am 9 8 7] [0,1,7,8,9]<|Sq (Co 9 (Sk [0,1,7,8])<|Ex 0 [])<|Sq (Bl 1<|Rq [Aa 10 8,Aa 5 10] [0,1,5,7,8]<|Rq [Aa 11 1,Aa 12 0,Aa 13 5,Ai 14 12 13 4,Ad 15 14 4,Cn 16 11 15] [0,1,5,7,8,16]<|Co 16 (Rq [Aa 17 5,Aa 4 17] [4]<|.ret)<|Sk [0,1,7,8])<|Re [An 18 8 1,Aa 8 18] [0,1,7,8])<|Rq [Bw 4 (-1)] [4]<|.ret) [.tmp 4]:=by decide +kernel
instance xT (b:List EI) (f:EI->ca) (a:FuncId) (c:QQ) [g:∀ (d:EI),Ct prog (f d) a (MD d::c) (fun r=>.sh (eB r))]:Ct prog (FG b f) 308 [lS b,.clo a c] (fun r=>.sh (eI r)):=Fi pG fun r h i j=>by
  unfold FG at h;have:HA 0 8 7 0 fun (e:Int) (_:Unit)=>[(8,.tv (eI e))]:=⟨⟩;exact au
theorem ox:CK f286 (Rq [Al 4] [0,1]<|Rq [Aa 5 0,Aa 6 1,Av 7 308 5 6,Bo 8 7 0,Aa 4 8] [4]<|.ret) [.tmp 4]:=by decide +kernel
instance xD (b:List EI) (f:EI->ca) (a:FuncId) (c:QQ) [e:∀ (d:EI),Ct prog (f d) a (MD d::c) (fun r=>.sh (eB r))]:Ct prog (D4 b f) 286 [lS b,.clo a c] (fun r=>.sh (eB r)):=Fi ox fun r h g i=>by
  unfold D4 at h;exact au
theorem l8:CK f109 (Rq [Ar 2 1] [0]<|Sq (Rq [Aa 3 0,⟨some 4,.isn (.s 3),none⟩] [0,4]<|Co 4 (Rq [Ar 2 1] [2]<|.ret)<|Sk [0])<|Rq [Dc 5 1,Aa 6 0,Bi 7 1 5 6,Ak 2 7] [2]<|.ret) [.tmp 2]:=by decide +kernel
instance uW (a:Ne):Ct prog (slices_Clone_int a) 109 [lI a] (fun r=>.own (lI r)):=Fi l8 fun r h b c=>by
  unfold slices_Clone_int at h;exact au
theorem rc (l r:Ne) (h:slices_Sort_int l=some r):AU prog 125 [.list 1 (l.map (TV.int .i64))] (.turn r):=by
  unfold slices_Sort_int at h;rw [←cX] at h;split at h
  · rename_i e
    unfold BM at e;cases h;refine aQ (by rfl) (List.length_mergeSort _) (fun x a=>List.mem_mergeSort.1 a) (fun w b=>?_) (fun g cap w _ _ c d=>Go.Proofs.Tryz.slices_Sort_int g 0 cap l w d c (by omega));subst b;exact Go.Proofs.Tryz.slices_Sort_int_none none 0 w
  · cases h
instance xq (l:Ne):Ct Go.Proofs.Tryz.prog (slices_Sort_int l) 125 [.list 1 (l.map (TV.int .i64))] CS.turn:=⟨rc l⟩
theorem rd (l r:Ne) (h:slices_Compact_int l=some r):AU prog 126 [.list 1 (l.map (TV.int .i64))] (.cut r):=by
  unfold slices_Compact_int at h;split at h
  · rename_i e
    unfold BM at e;cases h;have f:=Go.Lib.compact_length_le l;refine ig (rest:=List.replicate (l.length - (Go.Lib.compact l).length) 0) (by rfl) (by rw [List.length_replicate]; omega) (fun x a=>Sj a) (fun w b=>?_) (fun g cap w c _ i d=>Go.Proofs.Tryz.slices_Compact_int g 0 cap l w d (by omega) c);subst b;exact Go.Proofs.Tryz.slices_Compact_int_empty none 0 w
  · cases h
instance xr (l:Ne):Ct Go.Proofs.Tryz.prog (slices_Compact_int l) 126 [.list 1 (l.map (TV.int .i64))] CS.cut:=⟨rd l⟩
theorem rh (a b c:Int) (r:Int × Int) (h:JR a b c=some r):AU prog 303 [Ky a,Ky b,Ky c] (.ext [Ky (r.1),Ky (r.2)]):=by
  unfold JR at h;split at h
  · rename_i d
    cases h;obtain ⟨⟨e,i⟩,⟨f,j⟩,g,k⟩:=d;intro _;refine ⟨⟨rfl,?_⟩,fun w vs hv=>?_⟩
    · simp only [Ky,TV.WFs,TV.WF,IntKind.min,IntKind.max,IntKind.signed,IntKind.bits,and_true]
      simp only [Bool.false_eq_true,if_false];refine ⟨⟨by omega,?_⟩,by omega,?_⟩
      · have:(2:Int) ^ 64=18446744073709551616:=by decide
        omega
      · have:(2:Int) ^ 64=18446744073709551616:=by decide
        omega
    · obtain ⟨x,rfl⟩:=Int.eq_ofNat_of_zero_le e
      obtain ⟨y,rfl⟩:=Int.eq_ofNat_of_zero_le f;obtain ⟨z,rfl⟩:=Int.eq_ofNat_of_zero_le g;have:=Go.Proofs.Any7.bits_Add64 Go.Proofs.Tryz.lays7n25 x y z (by omega) w;obtain ⟨l⟩:=vs;simp only [Ky,AS,A7] at hv;obtain ⟨m,n,rfl,rfl,o,p,rfl,rfl,q,s,rfl,rfl,rfl⟩:=hv;refine ⟨_,this,?_⟩;simp only [Ky,AS,A7];exact ⟨_,_,rfl,by simp,_,_,rfl,by simp,rfl⟩
  · cases h
instance xw (a b c:Int):Ct Go.Proofs.Tryz.prog (JR a b c) 303 [Ky a,Ky b,Ky c] (fun r=>.ext [Ky (r.1),Ky (r.2)]):=⟨rh a b c⟩
theorem od:CK f270 (Rq [Ae 2 0] [0]<|Rq [Ae 3 0] [0,3]<|Sq (Rq [Aa 6 0,Ag 7 6,Ae 8 0] [3,6,7,8]<|Bl 0<|Lo [3,6,7,8]<|Rq [Am 9 8 7] [3,6,7,8,9]<|Sq (Co 9 (Sk [3,6,7,8])<|Ex 0 [3])<|Sq (Bl 1<|Rq [Ai 10 6 8 1,Ab 11 10,Aa 5 11] [3,5,6,7,8]<|Rq [Aa 12 5,Aa 13 3,Bk 14 12 13] [3,5,6,7,8,14]<|Co 14 (Rq [Aa 15 5,Aa 2 15] [2]<|.ret)<|Sk [3,6,7,8])<|Re [An 16 8 1,Aa 8 16] [3,6,7,8])<|Rq [Aa 17 3,Aa 2 17] [2]<|.ret) [.tmp 2]:=by decide +kernel
instance w2 (a:Ne):Ct prog (Mr a) 270 [lI a] (fun r=>.sh (eI r)):=Fi od fun r h c d=>by
  unfold Mr at h;have:HA 0 8 7 0 fun (b:Int) (_:Unit)=>[(8,.tv (eI b))]:=⟨⟩;exact au
theorem om:CK f281 (Rq [Al 2] [0]<|Rq [Aa 3 0,Aa 4 0,Bk 5 3 4,Aa 2 5] [2]<|.ret) [.tmp 2]:=by decide +kernel
instance w8 (a:Int):Ct prog (cmp_isNaN_int a) 281 [eI a] (fun r=>.sh (eB r)):=Fi om fun r h b c=>by
  unfold cmp_isNaN_int at h;exact au
theorem oe:CK f271 (Rq [Ae 4 0] [0,1]<|Rq [Aa 7 0,Bb 8 281 7,Aa 5 8] [0,1,5]<|Rq [Aa 9 1,Bb 10 281 9,Aa 6 10] [0,1,5,6]<|Sq (Rq [Aa 11 5] [0,1,6,11]<|Co 11 (Sq (Rq [Aa 12 6] [12]<|Co 12 (Rq [Ae 4 0] [4]<|.ret)<|Sk [])<|Rq [Bw 4 (-1)] [4]<|.ret)<|Sk [0,1,6])<|Sq (Rq [Aa 13 6] [0,1,13]<|Co 13 (Rq [Ae 4 1] [4]<|.ret)<|Sk [0,1])<|Sq (Rq [Aa 14 0,Aa 15 1,Am 16 14 15] [0,1,16]<|Co 16 (Rq [Bw 4 (-1)] [4]<|.ret)<|Sk [0,1])<|Sq (Rq [Aa 17 0,Aa 18 1,Ep 19 17 18] [19]<|Co 19 (Rq [Ae 4 1] [4]<|.ret)<|Sk [])<|Rq [Ae 4 0] [4]<|.ret) [.tmp 4]:=by decide +kernel
instance w3 (a:Int) (y:Int):Ct prog (cmp_Compare_int a y) 271 [eI a,eI y] (fun r=>.sh (eI r)):=Fi oe fun r h b c=>by
  unfold cmp_Compare_int at h;exact au
theorem pC:CK f304 (Rq [Al 2] [0]<|Rq [Aa 3 0,Aa 4 0,Bk 5 3 4,Aa 2 5] [2]<|.ret) [.tmp 2]:=by decide +kernel
instance xQ (a:Int):Ct prog (KM a) 304 [Ky a] (fun r=>.sh (eB r)):=Fi pC fun r h b c=>by
  unfold KM at h;exact au
theorem oh:CK f272 (Rq [Ae 4 0] [0,1]<|Rq [Aa 7 0,Bb 8 304 7,Aa 5 8] [0,1,5]<|Rq [Aa 9 1,Bb 10 304 9,Aa 6 10] [0,1,5,6]<|Sq (Rq [Aa 11 5] [0,1,6,11]<|Co 11 (Sq (Rq [Aa 12 6] [12]<|Co 12 (Rq [Ae 4 0] [4]<|.ret)<|Sk [])<|Rq [Bw 4 (-1)] [4]<|.ret)<|Sk [0,1,6])<|Sq (Rq [Aa 13 6] [0,1,13]<|Co 13 (Rq [Ae 4 1] [4]<|.ret)<|Sk [0,1])<|Sq (Rq [Aa 14 0,Aa 15 1,Am 16 14 15] [0,1,16]<|Co 16 (Rq [Bw 4 (-1)] [4]<|.ret)<|Sk [0,1])<|Sq (Rq [Aa 17 0,Aa 18 1,Ep 19 17 18] [19]<|Co 19 (Rq [Ae 4 1] [4]<|.ret)<|Sk [])<|Rq [Ae 4 0] [4]<|.ret) [.tmp 4]:=by decide +kernel
instance w4 (a:Int) (y:Int):Ct prog (JL a y) 272 [Ky a,Ky y] (fun r=>.sh (eI r)):=Fi oh fun r h b c=>by
  unfold JL at h;exact au
theorem uG (l:Ne) (m:Int) (r:Ne) (h:EL l m=some r):AU prog 26 [lI l,eI m] (.own (lI r)):=by
  unfold EL at h;split at h
  · rename_i a
    cases h;obtain ⟨x,rfl⟩:=List.length_eq_one_iff.1 a.1;obtain ⟨k,rfl⟩:=Int.eq_ofNat_of_zero_le a.2.1;exact XC x k (by have:=a.2.2; omega)
  · cases h
instance i26 (l:Ne) (m:Int):Ct Go.Proofs.Tryz.prog (EL l m) 26 [lI l,eI m] (fun r=>.own (lI r)):=⟨uG l m⟩
theorem nG:CK f172 (Rq [Ae 4 0] [0,1]<|Sq (Rq [Aa 6 0,Ag 7 6,Ae 8 0] [0,1,7,8]<|Bl 0<|Lo [0,1,7,8]<|Rq [Am 9 8 7] [0,1,7,8,9]<|Sq (Co 9 (Sk [0,1,7,8])<|Ex 0 [])<|Sq (Bl 1<|Rq [Aa 10 8,Aa 5 10] [0,1,5,7,8]<|Rq [Aa 11 1,Aa 12 0,Aa 13 5,Ai 14 12 13 3,Ad 15 14 3,Cn 16 11 15] [0,1,5,7,8,16]<|Co 16 (Rq [Aa 17 5,Aa 4 17] [4]<|.ret)<|Sk [0,1,7,8])<|Re [An 18 8 1,Aa 8 18] [0,1,7,8])<|Rq [Bw 4 (-1)] [4]<|.ret) [.tmp 4]:=by decide +kernel
instance vY (b:List AF) (f:AF->ca) (a:FuncId) (c:QQ) [g:∀ (d:AF),Ct prog (f d) a (AO d::c) (fun r=>.sh (eB r))]:Ct prog (E1 b f) 172 [(eL 3 AO) b,.clo a c] (fun r=>.sh (eI r)):=Fi nG fun r h i j=>by
  unfold E1 at h;have:HA 0 8 7 0 fun (e:Int) (_:Unit)=>[(8,.tv (eI e))]:=⟨⟩;exact au
theorem mL:CK f122 (Rq [Al 4] [0,1]<|Rq [Aa 5 0,Aa 6 1,Av 7 172 5 6,Bo 8 7 0,Aa 4 8] [4]<|.ret) [.tmp 4]:=by decide +kernel
instance uj (b:List AF) (f:AF->ca) (a:FuncId) (c:QQ) [e:∀ (d:AF),Ct prog (f d) a (AO d::c) (fun r=>.sh (eB r))]:Ct prog (DU b f) 122 [(eL 3 AO) b,.clo a c] (fun r=>.sh (eB r)):=Fi mL fun r h g i=>by
  unfold DU at h;exact au
theorem re (s:Ne) (n:Int) (r:Ne) (h:IU s n=some r):AU prog 173 [.nil,eI n] (.own (lI r)):=by
  unfold IU at h;split at h
  · rename_i c
    cases h;obtain ⟨k,rfl⟩:=Int.eq_ofNat_of_zero_le c.2.1;have d:k<=BM:=by have:=c.2.2; omega
    have g:=d;unfold BM at g;obtain ⟨b,i,j,p,l⟩:∃ b,prog.info? 3=some b∧b.zero=some (.int .i64 0)∧b.size=1∧b.bytes=8:=⟨_,rfl,rfl,rfl,rfl⟩;refine fX (by rfl) d (e:=3) (z:=(Value.int .i64 0).cells) rfl (fun w m=>?_) (fun w o=>?_)
    · exact Go.Proofs.Any8.slices_Grow_room Go.Proofs.Tryz.growI none 0 0 k w (d3 _) (by omega) (by omega) (by omega)
    · exact Go.Proofs.Any8.slices_Grow_grow Go.Proofs.Tryz.growI b (.int .i64 0) i j (by omega) none 0 0 k [] w (d3 _) (by omega) (by rw [l]; omega) (by omega) (by simp) (fun _=>rfl) (fun a f=>by cases f)
  · cases h
instance i173 (s:Ne) (n:Int):Ct Go.Proofs.Tryz.prog (IU s n) 173 [.nil,eI n] (fun r=>.own (lI r)):=⟨re s n⟩
theorem mN:CK f124 (Rq [Ar 2 1] [0]<|Rq [Ae 3 0] [0,3]<|Sq (Rq [Aa 9 0,Ag 10 9,Ae 11 0] [0,3,9,10,11]<|Bl 0<|Lo [0,3,9,10,11]<|Rq [Am 12 11 10] [0,3,9,10,11,12]<|Sq (Co 12 (Sk [0,3,9,10,11])<|Ex 0 [0,3])<|Sq (Bl 1<|Rq [Ai 13 9 11 1,Ab 14 13,Ak 5 14] [0,3,5,9,10,11]<|Rq [Aa 15 3,Aa 16 5,Ag 17 16,Bs 18 15 17,Aa 3 18] [0,3,9,10,11]<|Rq [Aa 19 3,By 20 19 0] [0,3,9,10,11,20]<|Co 20 (.bad)<|Sk [0,3,9,10,11])<|Re [An 22 11 1,Aa 11 22] [0,3,9,10,11])<|Rq [Aa 23 3,⟨some 24,.call 173 [.c .nil,.s 23],none⟩,Ak 6 24] [0,6]<|Sq (Rq [Aa 25 0,Ag 26 25,Ae 27 0] [6,25,26,27]<|Bl 2<|Lo [6,25,26,27]<|Rq [Am 28 27 26] [6,25,26,27,28]<|Sq (Co 28 (Sk [6,25,26,27])<|Ex 2 [6])<|Sq (Bl 3<|Rq [Ai 29 25 27 1,Ab 30 29,Ak 8 30] [6,8,25,26,27]<|Re [Ak 31 6,Aa 32 8,Bi 33 1 31 32,Ak 6 33] [6,25,26,27])<|Re [An 34 27 1,Aa 27 34] [6,25,26,27])<|Rq [Ak 35 6,Ak 2 35] [2]<|.ret) [.tmp 2]:=by decide +kernel
instance ul (a:List Ne):Ct prog (Ie a) 124 [(eL 1 lI) a] (fun r=>.own (lI r)):=Fi mN fun r h f g=>by
  unfold Ie at h;have:HA 0 11 10 0 fun (b:Int) (c:Int)=>[(3,.tv (eI c)),(11,.tv (eI b))]:=⟨⟩;have:HA 2 27 26 0 fun (e:Int) (d:Ne)=>[(6,.ow (lI d)),(27,.tv (eI e))]:=⟨⟩;exact au
theorem uH (i:Int) (r:ByteArray) (h:strconv_Itoa i=some r):AU prog 52 [eI i] (.sh (eS r)):=by
  unfold strconv_Itoa at h;split at h
  · rename_i hi
    cases h;obtain ⟨k,rfl⟩:=Int.eq_ofNat_of_zero_le hi.1;have a:k<100:=by have:=hi.2; omega
    show AU prog 52 [eI (k:Int)] (.sh (eS (ZA k)));refine fZ (by rfl) (by have:=ZB k; unfold I0; omega) fun w=>?_;have:=Go.Proofs.Tryz.strconv_Itoa_small k a w;rw [cY k a] at this;exact this
  · cases h
instance zK (i:Int):Ct Go.Proofs.Tryz.prog (strconv_Itoa i) 52 [eI i] (fun r=>.sh (eS r)):=⟨uH i⟩
theorem uI (l:List ByteArray) (s r:ByteArray) (h:strings_Join l s=some r):AU prog 53 [lB l,eS s] (.sh (eS r)):=by
  unfold strings_Join at h;split at h
  · rename_i d
    cases h;obtain ⟨j,k⟩:=d;unfold BM at j k;have e:(JQ l s).size=(Go.Lib.join (l.map (·.data.toList)) s.data.toList).length:=by simp [JQ,ByteArray.size]
    refine fb (by rfl) (by unfold I0; omega) (fun a c w f=>?_) (fun b o c w g i d=>Go.Proofs.Tryz.strings_Join b o c l s w g i (by omega) d (by omega));subst f;exact Go.Proofs.Tryz.strings_Join_none a c s w
  · cases h
instance i53 (l:List ByteArray) (s:ByteArray):Ct Go.Proofs.Tryz.prog (strings_Join l s) 53 [lB l,eS s] (fun r=>.sh (eS r)):=⟨uI l s⟩
theorem sP:CK f31 (Rq [Al 4] [0,1]<|Sq (Rq [Aa 6 0,Ag 7 6,Aa 8 1,Ag 9 8,Bk 10 7 9] [0,1,10]<|Co 10 (Rq [Al 4] [4]<|.ret)<|Sk [0,1])<|Sq (Rq [Aa 11 0,Ag 12 11,Ae 13 0] [0,1,12,13]<|Bl 0<|Lo [0,1,12,13]<|Rq [Am 14 13 12] [0,1,12,13,14]<|Sq (Co 14 (Sk [0,1,12,13])<|Ex 0 [])<|Sq (Bl 1<|Rq [Aa 15 13,Aa 5 15] [0,1,5,12,13]<|Sq (Dr [16,17,18,19,20,21,22,23,24] [Aa 16 0,Aa 17 5,Ai 18 16 17 1,Ab 19 18,Aa 20 1,Aa 21 5,Ai 22 20 21 1,Ab 23 22,⟨some 24,.bin (.s) .neq (.s 19) (.s 23),none⟩] [0,1,12,13,24])<|Co 24 (Rq [Al 4] [4]<|.ret)<|Sk [0,1,12,13])<|Re [An 25 13 1,Aa 13 25] [0,1,12,13])<|Rq [Br 4] [4]<|.ret) [.tmp 4]:=by decide +kernel
instance yM (a:List ByteArray) (b:List ByteArray):Ct prog (slices_Equal_string a b) 31 [lB a,lB b] (fun r=>.sh (eB r)):=Fi sP fun r h d e=>by
  unfold slices_Equal_string at h;have:HA 0 13 12 0 fun (c:Int) (_:Unit)=>[(13,.tv (eI c))]:=⟨⟩;exact au
end Go.Sf.Sc
