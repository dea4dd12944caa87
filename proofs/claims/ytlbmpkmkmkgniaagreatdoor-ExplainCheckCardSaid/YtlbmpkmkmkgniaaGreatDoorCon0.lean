/- Contracts of the functions. -/
import Derived.Test.YtlbmpkmkmkgniaaGreatDoorShort
import Derived.Test.YtlbmpkmkmkgniaaGreatDoorRp
import Derived.Test.YtlbmpkmkmkgniaaGreatDoorTryzShelf
set_option linter.all false
set_option maxRecDepth 100000
set_option maxHeartbeats 4000000
namespace Go.Sf.Sc
open Go Go.Sf Go.Proofs.Tryz
theorem sM:CK f20 (Rq [Ak 4] [0,1]<|Sq (Rq [Aa 6 0,Ag 7 6,Aa 8 1,Ag 9 8,Bm 10 7 9] [0,1,10]<|Co 10 (Rq [Ak 4] [4]<|.ret)<|Sk [0,1])<|Sq (Rq [Aa 11 0,Ag 12 11,Ae 13 0] [0,1,12,13]<|Bl 0<|Lo [0,1,12,13]<|Rq [Am 14 13 12] [0,1,12,13,14]<|Sq (Co 14 (Sk [0,1,12,13])<|Ex 0 [])<|Sq (Bl 1<|Rq [Aa 15 13,Aa 5 15] [0,1,5,12,13]<|Sq (Dr [16,17,18,19,20,21,22,23,24] [Aa 16 0,Aa 17 5,Ai 18 16 17 1,Ab 19 18,Aa 20 1,Aa 21 5,Ai 22 20 21 1,Ab 23 22,Bm 24 19 23] [0,1,12,13,24])<|Co 24 (Rq [Ak 4] [4]<|.ret)<|Sk [0,1,12,13])<|Re [An 25 13 1,Aa 13 25] [0,1,12,13])<|Rq [Bs 4] [4]<|.ret) [.tmp 4]:=by decide +kernel
instance yN (a:Ne) (b:Ne):Ct prog (slices_Equal_int a b) 20 [lI a,lI b] (fun r=>.sh (eB r)):=Fi sM fun r h d e=>by
  unfold slices_Equal_int at h;have:HA 0 13 12 0 fun (c:Int) (_:Unit)=>[(13,.tv (eI c))]:=⟨⟩;exact au
theorem pZ:CK f322 (Rq [Ae 4 0] [0,1]<|Sq (Rq [Aa 6 0,Ag 7 6,Ae 8 0] [0,1,7,8]<|Bl 0<|Lo [0,1,7,8]<|Rq [Am 9 8 7] [0,1,7,8,9]<|Sq (Co 9 (Sk [0,1,7,8])<|Ex 0 [])<|Sq (Bl 1<|Rq [Aa 10 8,Aa 5 10] [0,1,5,7,8]<|Rq [Aa 11 1,Aa 12 0,Aa 13 5,Ai 14 12 13 1,Ab 15 14,Do 16 11 15] [0,1,5,7,8,16]<|Co 16 (Rq [Aa 17 5,Aa 4 17] [4]<|.ret)<|Sk [0,1,7,8])<|Re [An 18 8 1,Aa 8 18] [0,1,7,8])<|Rq [Bw 4 (-1)] [4]<|.ret) [.tmp 4]:=by decide +kernel
instance xn (a:List ByteArray) (b:ByteArray):Ct prog (slices_Index_string a b) 322 [lB a,eS b] (fun r=>.sh (eI r)):=Fi pZ fun r h d e=>by
  unfold slices_Index_string at h;have:HA 0 8 7 0 fun (c:Int) (_:Unit)=>[(8,.tv (eI c))]:=⟨⟩;exact au
theorem pI:CK f299 (Rq [Ak 4] [0,1]<|Rq [Aa 5 0,Aa 6 1,Av 7 322 5 6,Bo 8 7 0,Aa 4 8] [4]<|.ret) [.tmp 4]:=by decide +kernel
instance xV (a:List ByteArray) (b:ByteArray):Ct prog (slices_Contains_string a b) 299 [lB a,eS b] (fun r=>.sh (eB r)):=Fi pI fun r h c d=>by
  unfold slices_Contains_string at h;exact au
theorem rn (s:ByteArray) (c:Int) (r:Int) (h:strings_IndexByte s c=some r):AT prog 321 [eS s,Tk c] (.sh (eI r)):=by
  unfold strings_IndexByte at h;cases h;exact i7 (by rfl) ⟨Go.Lib.indexByte_ge _ _,iz _ _⟩ (fun w=>Go.Proofs.Tryz.strings_IndexByte s c w)
instance yE (s:ByteArray) (c:Int):Ct Go.Proofs.Tryz.prog (strings_IndexByte s c) 321 [eS s,Tk c] (fun r=>.sh (eI r)):=⟨rn s c⟩
theorem oZ:CK f254 (Rq [Ae 4 0] [0,1]<|Sq (Rq [Aa 6 0,Ag 7 6,Ae 8 0] [0,1,7,8]<|Bl 0<|Lo [0,1,7,8]<|Rq [Am 9 8 7] [0,1,7,8,9]<|Sq (Co 9 (Sk [0,1,7,8])<|Ex 0 [])<|Sq (Bl 1<|Rq [Aa 10 8,Aa 5 10] [0,1,5,7,8]<|Rq [Aa 11 1,Aa 12 0,Aa 13 5,Ai 14 12 13 4,Ad 15 14 4,Cm 16 11 15] [0,1,5,7,8,16]<|Co 16 (Rq [Aa 17 5,Aa 4 17] [4]<|.ret)<|Sk [0,1,7,8])<|Re [An 18 8 1,Aa 8 18] [0,1,7,8])<|Rq [Bw 4 (-1)] [4]<|.ret) [.tmp 4]:=by decide +kernel
instance ww (c:List CW) (f:CW->ca) (b:FuncId) (a:QQ) [g:∀ (d:CW),Ct prog (f d) b (F5 d::a) (fun r=>.sh (eB r))]:Ct prog (EG c f) 254 [lN c,.clo b a] (fun r=>.sh (eI r)):=Fi oZ fun r h i j=>by
  unfold EG at h;have:HA 0 8 7 0 fun (e:Int) (_:Unit)=>[(8,.tv (eI e))]:=⟨⟩;exact au
theorem ng:CK f191 (Rq [Ak 4] [0,1]<|Rq [Aa 5 0,Aa 6 1,Av 7 254 5 6,Bo 8 7 0,Aa 4 8] [4]<|.ret) [.tmp 4]:=by decide +kernel
instance v7 (c:List CW) (f:CW->ca) (b:FuncId) (a:QQ) [e:∀ (d:CW),Ct prog (f d) b (F5 d::a) (fun r=>.sh (eB r))]:Ct prog (C9 c f) 191 [lN c,.clo b a] (fun r=>.sh (eB r)):=Fi ng fun r h g i=>by
  unfold C9 at h;exact au
theorem pH:CK f298 (Rq [Ae 4 0] [0,1]<|Sq (Rq [Aa 6 0,Ag 7 6,Ae 8 0] [0,1,7,8]<|Bl 0<|Lo [0,1,7,8]<|Rq [Am 9 8 7] [0,1,7,8,9]<|Sq (Co 9 (Sk [0,1,7,8])<|Ex 0 [])<|Sq (Bl 1<|Rq [Aa 10 8,Aa 5 10] [0,1,5,7,8]<|Rq [Aa 11 1,Aa 12 0,Aa 13 5,Ai 14 12 13 4,Ad 15 14 4,Cm 16 11 15] [0,1,5,7,8,16]<|Co 16 (Rq [Aa 17 5,Aa 4 17] [4]<|.ret)<|Sk [0,1,7,8])<|Re [An 18 8 1,Aa 8 18] [0,1,7,8])<|Rq [Bw 4 (-1)] [4]<|.ret) [.tmp 4]:=by decide +kernel
instance xU (c:List Attr) (f:Attr->ca) (b:FuncId) (a:QQ) [g:∀ (d:Attr),Ct prog (f d) b (Ii d::a) (fun r=>.sh (eB r))]:Ct prog (FA c f) 298 [lA c,.clo b a] (fun r=>.sh (eI r)):=Fi pH fun r h i j=>by
  unfold FA at h;have:HA 0 8 7 0 fun (e:Int) (_:Unit)=>[(8,.tv (eI e))]:=⟨⟩;exact au
theorem oa:CK f255 (Rq [Ak 4] [0,1]<|Rq [Aa 5 0,Aa 6 1,Av 7 298 5 6,Bo 8 7 0,Aa 4 8] [4]<|.ret) [.tmp 4]:=by decide +kernel
instance wx (c:List Attr) (f:Attr->ca) (b:FuncId) (a:QQ) [e:∀ (d:Attr),Ct prog (f d) b (Ii d::a) (fun r=>.sh (eB r))]:Ct prog (D0 c f) 255 [lA c,.clo b a] (fun r=>.sh (eB r)):=Fi oa fun r h g i=>by
  unfold D0 at h;exact au
theorem od:CK f258 (Rq [Ae 4 0] [0,1]<|Sq (Rq [Aa 6 0,Ag 7 6,Ae 8 0] [0,1,7,8]<|Bl 0<|Lo [0,1,7,8]<|Rq [Am 9 8 7] [0,1,7,8,9]<|Sq (Co 9 (Sk [0,1,7,8])<|Ex 0 [])<|Sq (Bl 1<|Rq [Aa 10 8,Aa 5 10] [0,1,5,7,8]<|Rq [Aa 11 1,Aa 12 0,Aa 13 5,Ai 14 12 13 7,Ad 15 14 7,Cm 16 11 15] [0,1,5,7,8,16]<|Co 16 (Rq [Aa 17 5,Aa 4 17] [4]<|.ret)<|Sk [0,1,7,8])<|Re [An 18 8 1,Aa 8 18] [0,1,7,8])<|Rq [Bw 4 (-1)] [4]<|.ret) [.tmp 4]:=by decide +kernel
instance w2 (c:List DE) (f:DE->ca) (b:FuncId) (a:QQ) [g:∀ (d:DE),Ct prog (f d) b (G3 d::a) (fun r=>.sh (eB r))]:Ct prog (EF c f) 258 [lX c,.clo b a] (fun r=>.sh (eI r)):=Fi od fun r h i j=>by
  unfold EF at h;have:HA 0 8 7 0 fun (e:Int) (_:Unit)=>[(8,.tv (eI e))]:=⟨⟩;exact au
theorem nm:CK f196 (Rq [Ak 4] [0,1]<|Rq [Aa 5 0,Aa 6 1,Av 7 258 5 6,Bo 8 7 0,Aa 4 8] [4]<|.ret) [.tmp 4]:=by decide +kernel
instance wD (c:List DE) (f:DE->ca) (b:FuncId) (a:QQ) [e:∀ (d:DE),Ct prog (f d) b (G3 d::a) (fun r=>.sh (eB r))]:Ct prog (C8 c f) 196 [lX c,.clo b a] (fun r=>.sh (eB r)):=Fi nm fun r h g i=>by
  unfold C8 at h;exact au
theorem sg:CK f46 (Rq [Ae 4 0] [0,1]<|Sq (Rq [Aa 6 0,Ag 7 6,Ae 8 0] [0,1,7,8]<|Bl 0<|Lo [0,1,7,8]<|Rq [Am 9 8 7] [0,1,7,8,9]<|Sq (Co 9 (Sk [0,1,7,8])<|Ex 0 [])<|Sq (Bl 1<|Rq [Aa 10 8,Aa 5 10] [0,1,5,7,8]<|Rq [Aa 11 1,Aa 12 0,Aa 13 5,Ai 14 12 13 1,Ab 15 14,Cm 16 11 15] [0,1,5,7,8,16]<|Co 16 (Rq [Aa 17 5,Aa 4 17] [4]<|.ret)<|Sk [0,1,7,8])<|Re [An 18 8 1,Aa 8 18] [0,1,7,8])<|Rq [Bw 4 (-1)] [4]<|.ret) [.tmp 4]:=by decide +kernel
instance yg (c:Ne) (f:Int->ca) (b:FuncId) (a:QQ) [g:∀ (d:Int),Ct prog (f d) b (eI d::a) (fun r=>.sh (eB r))]:Ct prog (FR c f) 46 [lI c,.clo b a] (fun r=>.sh (eI r)):=Fi sg fun r h i j=>by
  unfold FR at h;have:HA 0 8 7 0 fun (e:Int) (_:Unit)=>[(8,.tv (eI e))]:=⟨⟩;exact au
theorem sO:CK f24 (Rq [Ak 4] [0,1]<|Rq [Aa 5 0,Aa 6 1,Av 7 46 5 6,Bo 8 7 0,Aa 4 8] [4]<|.ret) [.tmp 4]:=by decide +kernel
instance yP (c:Ne) (f:Int->ca) (b:FuncId) (a:QQ) [e:∀ (d:Int),Ct prog (f d) b (eI d::a) (fun r=>.sh (eB r))]:Ct prog (B4 c f) 24 [lI c,.clo b a] (fun r=>.sh (eB r)):=Fi sO fun r h g i=>by
  unfold B4 at h;exact au
theorem ns:CK f199 (Rq [Ae 4 0] [0,1]<|Sq (Rq [Aa 6 0,Ag 7 6,Ae 8 0] [0,1,7,8]<|Bl 0<|Lo [0,1,7,8]<|Rq [Am 9 8 7] [0,1,7,8,9]<|Sq (Co 9 (Sk [0,1,7,8])<|Ex 0 [])<|Sq (Bl 1<|Rq [Aa 10 8,Aa 5 10] [0,1,5,7,8]<|Rq [Aa 11 1,Aa 12 0,Aa 13 5,Ai 14 12 13 3,Ad 15 14 3,Cm 16 11 15] [0,1,5,7,8,16]<|Co 16 (Rq [Aa 17 5,Aa 4 17] [4]<|.ret)<|Sk [0,1,7,8])<|Re [An 18 8 1,Aa 8 18] [0,1,7,8])<|Rq [Bw 4 (-1)] [4]<|.ret) [.tmp 4]:=by decide +kernel
instance wG (c:List DU) (f:DU->ca) (b:FuncId) (a:QQ) [g:∀ (d:DU),Ct prog (f d) b (EE d::a) (fun r=>.sh (eB r))]:Ct prog (FB c f) 199 [lE c,.clo b a] (fun r=>.sh (eI r)):=Fi ns fun r h i j=>by
  unfold FB at h;have:HA 0 8 7 0 fun (e:Int) (_:Unit)=>[(8,.tv (eI e))]:=⟨⟩;exact au
theorem mq:CK f143 (Rq [Ak 4] [0,1]<|Rq [Aa 5 0,Aa 6 1,Av 7 199 5 6,Bo 8 7 0,Aa 4 8] [4]<|.ret) [.tmp 4]:=by decide +kernel
instance vF (c:List DU) (f:DU->ca) (b:FuncId) (a:QQ) [e:∀ (d:DU),Ct prog (f d) b (EE d::a) (fun r=>.sh (eB r))]:Ct prog (CI c f) 143 [lE c,.clo b a] (fun r=>.sh (eB r)):=Fi mq fun r h g i=>by
  unfold CI at h;exact au
theorem nt:CK f200 (Rq [As 2 1] [0]<|Sq (Rq [Aa 3 0,Fe 4 3] [0,4]<|Co 4 (Rq [As 2 1] [2]<|.ret)<|Sk [0])<|Rq [Cx 5 1,Aa 6 0,Bh 7 1 5 6,Aj 2 7] [2]<|.ret) [.tmp 2]:=by decide +kernel
instance wH (a:List ByteArray):Ct prog (slices_Clone_string a) 200 [lB a] (fun r=>.own (lB r)):=Fi nt fun r h b c=>by
  unfold slices_Clone_string at h;exact au
theorem tG:CK f73 (Rq [Ae 4 0] [0,1]<|Sq (Rq [Aa 6 0,Ag 7 6,Ae 8 0] [0,1,7,8]<|Bl 0<|Lo [0,1,7,8]<|Rq [Am 9 8 7] [0,1,7,8,9]<|Sq (Co 9 (Sk [0,1,7,8])<|Ex 0 [])<|Sq (Bl 1<|Rq [Aa 10 8,Aa 5 10] [0,1,5,7,8]<|Rq [Aa 11 1,Aa 12 0,Aa 13 5,Ai 14 12 13 1,Ab 15 14,Cp 16 11 15] [0,1,5,7,8,16]<|Co 16 (Rq [Aa 17 5,Aa 4 17] [4]<|.ret)<|Sk [0,1,7,8])<|Re [An 18 8 1,Aa 8 18] [0,1,7,8])<|Rq [Bw 4 (-1)] [4]<|.ret) [.tmp 4]:=by decide +kernel
instance y6 (a:Ne) (b:Int):Ct prog (slices_Index_int a b) 73 [lI a,eI b] (fun r=>.sh (eI r)):=Fi tG fun r h d e=>by
  unfold slices_Index_int at h;have:HA 0 8 7 0 fun (c:Int) (_:Unit)=>[(8,.tv (eI c))]:=⟨⟩;exact au
theorem sZ:CK f38 (Rq [Ak 4] [0,1]<|Rq [Aa 5 0,Aa 6 1,Av 7 73 5 6,Bo 8 7 0,Aa 4 8] [4]<|.ret) [.tmp 4]:=by decide +kernel
instance ya (a:Ne) (b:Int):Ct prog (slices_Contains_int a b) 38 [lI a,eI b] (fun r=>.sh (eB r)):=Fi sZ fun r h c d=>by
  unfold slices_Contains_int at h;exact au
theorem rl (l r:Ne) (h:slices_Reverse_int l=some r):AT prog 259 [.list 1 (l.map (TV.int .i64))] (.turn r):=by
  unfold slices_Reverse_int at h;split at h
  · rename_i d
    unfold BN at d;cases h;refine aW (by rfl) List.length_reverse (fun x a=>List.mem_reverse.1 a) (fun w b=>?_) (fun g cap w _ _ j c=>(Go.Proofs.Tryz.slices_Reverse_int g 0 cap l w c (by omega)).mono ?_)
    · subst b
      exact Go.Proofs.Tryz.slices_Reverse_int_empty none 0 w
    · rintro e w' ⟨f,q,i⟩
      exact ⟨f,q,#[],by rw [Go.Sort.grow_empty]; exact i⟩
  · cases h
instance yC (l:Ne):Ct Go.Proofs.Tryz.prog (slices_Reverse_int l) 259 [.list 1 (l.map (TV.int .i64))] CS.turn:=⟨rl l⟩
theorem o3:CK f283 (Rq [Ae 4 0] [0,1]<|Sq (Rq [Aa 6 0,Ag 7 6,Ae 8 0] [0,1,7,8]<|Bl 0<|Lo [0,1,7,8]<|Rq [Am 9 8 7] [0,1,7,8,9]<|Sq (Co 9 (Sk [0,1,7,8])<|Ex 0 [])<|Sq (Bl 1<|Rq [Aa 10 8,Aa 5 10] [0,1,5,7,8]<|Rq [Aa 11 1,Aa 12 0,Aa 13 5,Ai 14 12 13 1,Ab 15 14,Ec 16 11 15] [0,1,5,7,8,16]<|Co 16 (Rq [Aa 17 5,Aa 4 17] [4]<|.ret)<|Sk [0,1,7,8])<|Re [An 18 8 1,Aa 8 18] [0,1,7,8])<|Rq [Bw 4 (-1)] [4]<|.ret) [.tmp 4]:=by decide +kernel
instance xH (a:d0) (b:Bool):Ct prog (Jt a b) 283 [(eL 1 eB) a,eB b] (fun r=>.sh (eI r)):=Fi o3 fun r h d e=>by
  unfold Jt at h;have:HA 0 8 7 0 fun (c:Int) (_:Unit)=>[(8,.tv (eI c))]:=⟨⟩;exact au
theorem oL:CK f238 (Rq [Ak 4] [0,1]<|Rq [Aa 5 0,Aa 6 1,Av 7 283 5 6,Bo 8 7 0,Aa 4 8] [4]<|.ret) [.tmp 4]:=by decide +kernel
instance wd (a:d0) (b:Bool):Ct prog (HZ a b) 238 [(eL 1 eB) a,eB b] (fun r=>.sh (eB r)):=Fi oL fun r h c d=>by
  unfold HZ at h;exact au
theorem nM:CK f171 (Rq [Ae 4 0] [0,1]<|Sq (Rq [Aa 6 0,Ag 7 6,Ae 8 0] [0,1,7,8]<|Bl 0<|Lo [0,1,7,8]<|Rq [Am 9 8 7] [0,1,7,8,9]<|Sq (Co 9 (Sk [0,1,7,8])<|Ex 0 [])<|Sq (Bl 1<|Rq [Aa 10 8,Aa 5 10] [0,1,5,7,8]<|Rq [Aa 11 1,Aa 12 0,Aa 13 5,Ai 14 12 13 9,Ad 15 14 9,Cm 16 11 15] [0,1,5,7,8,16]<|Co 16 (Rq [Aa 17 5,Aa 4 17] [4]<|.ret)<|Sk [0,1,7,8])<|Re [An 18 8 1,Aa 8 18] [0,1,7,8])<|Rq [Bw 4 (-1)] [4]<|.ret) [.tmp 4]:=by decide +kernel
instance ve (c:List AA) (f:AA->ca) (b:FuncId) (a:QQ) [g:∀ (d:AA),Ct prog (f d) b (AE d::a) (fun r=>.sh (eB r))]:Ct prog (EA c f) 171 [H2 c,.clo b a] (fun r=>.sh (eI r)):=Fi nM fun r h i j=>by
  unfold EA at h;have:HA 0 8 7 0 fun (e:Int) (_:Unit)=>[(8,.tv (eI e))]:=⟨⟩;exact au
theorem mQ:CK f120 (Rq [Ak 4] [0,1]<|Rq [Aa 5 0,Aa 6 1,Av 7 171 5 6,Bo 8 7 0,Aa 4 8] [4]<|.ret) [.tmp 4]:=by decide +kernel
instance uq (c:List AA) (f:AA->ca) (b:FuncId) (a:QQ) [e:∀ (d:AA),Ct prog (f d) b (AE d::a) (fun r=>.sh (eB r))]:Ct prog (B6 c f) 120 [H2 c,.clo b a] (fun r=>.sh (eB r)):=Fi mQ fun r h g i=>by
  unfold B6 at h;exact au
theorem pN:CK f308 (Rq [Ae 4 0] [0,1]<|Sq (Rq [Aa 6 0,Ag 7 6,Ae 8 0] [0,1,7,8]<|Bl 0<|Lo [0,1,7,8]<|Rq [Am 9 8 7] [0,1,7,8,9]<|Sq (Co 9 (Sk [0,1,7,8])<|Ex 0 [])<|Sq (Bl 1<|Rq [Aa 10 8,Aa 5 10] [0,1,5,7,8]<|Rq [Aa 11 1,Aa 12 0,Aa 13 5,Ai 14 12 13 4,Ad 15 14 4,Cm 16 11 15] [0,1,5,7,8,16]<|Co 16 (Rq [Aa 17 5,Aa 4 17] [4]<|.ret)<|Sk [0,1,7,8])<|Re [An 18 8 1,Aa 8 18] [0,1,7,8])<|Rq [Bw 4 (-1)] [4]<|.ret) [.tmp 4]:=by decide +kernel
instance xa (c:List EJ) (f:EJ->ca) (b:FuncId) (a:QQ) [g:∀ (d:EJ),Ct prog (f d) b (ME d::a) (fun r=>.sh (eB r))]:Ct prog (FC c f) 308 [lS c,.clo b a] (fun r=>.sh (eI r)):=Fi pN fun r h i j=>by
  unfold FC at h;have:HA 0 8 7 0 fun (e:Int) (_:Unit)=>[(8,.tv (eI e))]:=⟨⟩;exact au
theorem o6:CK f286 (Rq [Ak 4] [0,1]<|Rq [Aa 5 0,Aa 6 1,Av 7 308 5 6,Bo 8 7 0,Aa 4 8] [4]<|.ret) [.tmp 4]:=by decide +kernel
instance xK (c:List EJ) (f:EJ->ca) (b:FuncId) (a:QQ) [e:∀ (d:EJ),Ct prog (f d) b (ME d::a) (fun r=>.sh (eB r))]:Ct prog (D1 c f) 286 [lS c,.clo b a] (fun r=>.sh (eB r)):=Fi o6 fun r h g i=>by
  unfold D1 at h;exact au
theorem mF:CK f109 (Rq [As 2 1] [0]<|Sq (Rq [Aa 3 0,Fe 4 3] [0,4]<|Co 4 (Rq [As 2 1] [2]<|.ret)<|Sk [0])<|Rq [Cx 5 1,Aa 6 0,Bh 7 1 5 6,Aj 2 7] [2]<|.ret) [.tmp 2]:=by decide +kernel
instance ud (a:Ne):Ct prog (slices_Clone_int a) 109 [lI a] (fun r=>.own (lI r)):=Fi mF fun r h b c=>by
  unfold slices_Clone_int at h;exact au
theorem rh (l r:Ne) (h:slices_Sort_int l=some r):AT prog 125 [.list 1 (l.map (TV.int .i64))] (.turn r):=by
  unfold slices_Sort_int at h;rw [←cc] at h;split at h
  · rename_i e
    unfold BN at e;cases h;refine aW (by rfl) (List.length_mergeSort _) (fun x a=>List.mem_mergeSort.1 a) (fun w b=>?_) (fun g cap w _ _ c d=>Go.Proofs.Tryz.slices_Sort_int g 0 cap l w d c (by omega));subst b;exact Go.Proofs.Tryz.slices_Sort_int_none none 0 w
  · cases h
instance xz (l:Ne):Ct Go.Proofs.Tryz.prog (slices_Sort_int l) 125 [.list 1 (l.map (TV.int .i64))] CS.turn:=⟨rh l⟩
theorem ri (l r:Ne) (h:slices_Compact_int l=some r):AT prog 126 [.list 1 (l.map (TV.int .i64))] (.cut r):=by
  unfold slices_Compact_int at h;split at h
  · rename_i e
    unfold BN at e;cases h;have f:=Go.Lib.compact_length_le l;refine iq (rest:=List.replicate (l.length - (Go.Lib.compact l).length) 0) (by rfl) (by rw [List.length_replicate]; omega) (fun x a=>SO a) (fun w b=>?_) (fun g cap w c _ i d=>Go.Proofs.Tryz.slices_Compact_int g 0 cap l w d (by omega) c);subst b;exact Go.Proofs.Tryz.slices_Compact_int_empty none 0 w
  · cases h
instance yA (l:Ne):Ct Go.Proofs.Tryz.prog (slices_Compact_int l) 126 [.list 1 (l.map (TV.int .i64))] CS.cut:=⟨ri l⟩
theorem rm (a b c:Int) (r:Int × Int) (h:JU a b c=some r):AT prog 303 [Kx a,Kx b,Kx c] (.ext [Kx (r.1),Kx (r.2)]):=by
  unfold JU at h;split at h
  · rename_i d
    cases h;obtain ⟨⟨e,i⟩,⟨f,j⟩,g,k⟩:=d;intro _;refine ⟨⟨rfl,?_⟩,fun w vs hv=>?_⟩
    · simp only [Kx,TV.WFs,TV.WF,IntKind.min,IntKind.max,IntKind.signed,IntKind.bits,and_true]
      simp only [Bool.false_eq_true,if_false];refine ⟨⟨by omega,?_⟩,by omega,?_⟩
      · have:(2:Int) ^ 64=18446744073709551616:=by decide
        omega
      · have:(2:Int) ^ 64=18446744073709551616:=by decide
        omega
    · obtain ⟨x,rfl⟩:=Int.eq_ofNat_of_zero_le e
      obtain ⟨y,rfl⟩:=Int.eq_ofNat_of_zero_le f;obtain ⟨z,rfl⟩:=Int.eq_ofNat_of_zero_le g;have:=Go.Proofs.Any7.bits_Add64 Go.Proofs.Tryz.lays7n25 x y z (by omega) w;obtain ⟨l⟩:=vs;simp only [Kx,AS,A7] at hv;obtain ⟨m,n,rfl,rfl,o,p,rfl,rfl,q,s,rfl,rfl,rfl⟩:=hv;refine ⟨_,this,?_⟩;simp only [Kx,AS,A7];exact ⟨_,_,rfl,by simp,_,_,rfl,by simp,rfl⟩
  · cases h
instance yD (a b c:Int):Ct Go.Proofs.Tryz.prog (JU a b c) 303 [Kx a,Kx b,Kx c] (fun r=>.ext [Kx (r.1),Kx (r.2)]):=⟨rm a b c⟩
theorem oo:CK f270 (Rq [Ae 2 0] [0]<|Rq [Ae 3 0] [0,3]<|Sq (Rq [Aa 6 0,Ag 7 6,Ae 8 0] [3,6,7,8]<|Bl 0<|Lo [3,6,7,8]<|Rq [Am 9 8 7] [3,6,7,8,9]<|Sq (Co 9 (Sk [3,6,7,8])<|Ex 0 [3])<|Sq (Bl 1<|Rq [Ai 10 6 8 1,Ab 11 10,Aa 5 11] [3,5,6,7,8]<|Rq [Aa 12 5,Aa 13 3,Bm 14 12 13] [3,5,6,7,8,14]<|Co 14 (Rq [Aa 15 5,Aa 2 15] [2]<|.ret)<|Sk [3,6,7,8])<|Re [An 16 8 1,Aa 8 16] [3,6,7,8])<|Rq [Aa 17 3,Aa 2 17] [2]<|.ret) [.tmp 2]:=by decide +kernel
instance w9 (a:Ne):Ct prog (Mv a) 270 [lI a] (fun r=>.sh (eI r)):=Fi oo fun r h c d=>by
  unfold Mv at h;have:HA 0 8 7 0 fun (b:Int) (_:Unit)=>[(8,.tv (eI b))]:=⟨⟩;exact au
theorem oz:CK f281 (Rq [Ak 2] [0]<|Rq [Aa 3 0,Aa 4 0,Bm 5 3 4,Aa 2 5] [2]<|.ret) [.tmp 2]:=by decide +kernel
instance xF (a:Int):Ct prog (cmp_isNaN_int a) 281 [eI a] (fun r=>.sh (eB r)):=Fi oz fun r h b c=>by
  unfold cmp_isNaN_int at h;exact au
theorem ot:CK f271 (Rq [Ae 4 0] [0,1]<|Rq [Aa 7 0,Bb 8 281 7,Aa 5 8] [0,1,5]<|Rq [Aa 9 1,Bb 10 281 9,Aa 6 10] [0,1,5,6]<|Sq (Rq [Aa 11 5] [0,1,6,11]<|Co 11 (Sq (Rq [Aa 12 6] [12]<|Co 12 (Rq [Ae 4 0] [4]<|.ret)<|Sk [])<|Rq [Bw 4 (-1)] [4]<|.ret)<|Sk [0,1,6])<|Sq (Rq [Aa 13 6] [0,1,13]<|Co 13 (Rq [Ae 4 1] [4]<|.ret)<|Sk [0,1])<|Sq (Rq [Aa 14 0,Aa 15 1,Am 16 14 15] [0,1,16]<|Co 16 (Rq [Bw 4 (-1)] [4]<|.ret)<|Sk [0,1])<|Sq (Rq [Aa 17 0,Aa 18 1,Ei 19 17 18] [19]<|Co 19 (Rq [Ae 4 1] [4]<|.ret)<|Sk [])<|Rq [Ae 4 0] [4]<|.ret) [.tmp 4]:=by decide +kernel
instance xA (a:Int) (y:Int):Ct prog (cmp_Compare_int a y) 271 [eI a,eI y] (fun r=>.sh (eI r)):=Fi ot fun r h b c=>by
  unfold cmp_Compare_int at h;exact au
theorem pK:CK f304 (Rq [Ak 2] [0]<|Rq [Aa 3 0,Aa 4 0,Bm 5 3 4,Aa 2 5] [2]<|.ret) [.tmp 2]:=by decide +kernel
instance xX (a:Int):Ct prog (KO a) 304 [Kx a] (fun r=>.sh (eB r)):=Fi pK fun r h b c=>by
  unfold KO at h;exact au
theorem ou:CK f272 (Rq [Ae 4 0] [0,1]<|Rq [Aa 7 0,Bb 8 304 7,Aa 5 8] [0,1,5]<|Rq [Aa 9 1,Bb 10 304 9,Aa 6 10] [0,1,5,6]<|Sq (Rq [Aa 11 5] [0,1,6,11]<|Co 11 (Sq (Rq [Aa 12 6] [12]<|Co 12 (Rq [Ae 4 0] [4]<|.ret)<|Sk [])<|Rq [Bw 4 (-1)] [4]<|.ret)<|Sk [0,1,6])<|Sq (Rq [Aa 13 6] [0,1,13]<|Co 13 (Rq [Ae 4 1] [4]<|.ret)<|Sk [0,1])<|Sq (Rq [Aa 14 0,Aa 15 1,Am 16 14 15] [0,1,16]<|Co 16 (Rq [Bw 4 (-1)] [4]<|.ret)<|Sk [0,1])<|Sq (Rq [Aa 17 0,Aa 18 1,Ei 19 17 18] [19]<|Co 19 (Rq [Ae 4 1] [4]<|.ret)<|Sk [])<|Rq [Ae 4 0] [4]<|.ret) [.tmp 4]:=by decide +kernel
instance xB (a:Int) (y:Int):Ct prog (JP a y) 272 [Kx a,Kx y] (fun r=>.sh (eI r)):=Fi ou fun r h b c=>by
  unfold JP at h;exact au
theorem uN (l:Ne) (m:Int) (r:Ne) (h:EL l m=some r):AT prog 26 [lI l,eI m] (.own (lI r)):=by
  unfold EL at h;split at h
  · rename_i a
    cases h;obtain ⟨x,rfl⟩:=List.length_eq_one_iff.1 a.1;obtain ⟨k,rfl⟩:=Int.eq_ofNat_of_zero_le a.2.1;exact XI x k (by have:=a.2.2; omega)
  · cases h
instance i26 (l:Ne) (m:Int):Ct Go.Proofs.Tryz.prog (EL l m) 26 [lI l,eI m] (fun r=>.own (lI r)):=⟨uN l m⟩
theorem nN:CK f172 (Rq [Ae 4 0] [0,1]<|Sq (Rq [Aa 6 0,Ag 7 6,Ae 8 0] [0,1,7,8]<|Bl 0<|Lo [0,1,7,8]<|Rq [Am 9 8 7] [0,1,7,8,9]<|Sq (Co 9 (Sk [0,1,7,8])<|Ex 0 [])<|Sq (Bl 1<|Rq [Aa 10 8,Aa 5 10] [0,1,5,7,8]<|Rq [Aa 11 1,Aa 12 0,Aa 13 5,Ai 14 12 13 3,Ad 15 14 3,Cm 16 11 15] [0,1,5,7,8,16]<|Co 16 (Rq [Aa 17 5,Aa 4 17] [4]<|.ret)<|Sk [0,1,7,8])<|Re [An 18 8 1,Aa 8 18] [0,1,7,8])<|Rq [Bw 4 (-1)] [4]<|.ret) [.tmp 4]:=by decide +kernel
instance vf (c:List AF) (f:AF->ca) (b:FuncId) (a:QQ) [g:∀ (d:AF),Ct prog (f d) b (AO d::a) (fun r=>.sh (eB r))]:Ct prog (E0 c f) 172 [(eL 3 AO) c,.clo b a] (fun r=>.sh (eI r)):=Fi nN fun r h i j=>by
  unfold E0 at h;have:HA 0 8 7 0 fun (e:Int) (_:Unit)=>[(8,.tv (eI e))]:=⟨⟩;exact au
theorem mS:CK f122 (Rq [Ak 4] [0,1]<|Rq [Aa 5 0,Aa 6 1,Av 7 172 5 6,Bo 8 7 0,Aa 4 8] [4]<|.ret) [.tmp 4]:=by decide +kernel
instance ut (c:List AF) (f:AF->ca) (b:FuncId) (a:QQ) [e:∀ (d:AF),Ct prog (f d) b (AO d::a) (fun r=>.sh (eB r))]:Ct prog (DQ c f) 122 [(eL 3 AO) c,.clo b a] (fun r=>.sh (eB r)):=Fi mS fun r h g i=>by
  unfold DQ at h;exact au
theorem rj (s:Ne) (n:Int) (r:Ne) (h:IV s n=some r):AT prog 173 [.nil,eI n] (.own (lI r)):=by
  unfold IV at h;split at h
  · rename_i c
    cases h;obtain ⟨k,rfl⟩:=Int.eq_ofNat_of_zero_le c.2.1;have d:k<=BN:=by have:=c.2.2; omega
    have g:=d;unfold BN at g;obtain ⟨b,i,j,p,l⟩:∃ b,prog.info? 3=some b∧b.zero=some (.int .i64 0)∧b.size=1∧b.bytes=8:=⟨_,rfl,rfl,rfl,rfl⟩;refine fe (by rfl) d (e:=3) (z:=(Value.int .i64 0).cells) rfl (fun w m=>?_) (fun w o=>?_)
    · exact Go.Proofs.Any8.slices_Grow_room Go.Proofs.Tryz.growI none 0 0 k w (d3 _) (by omega) (by omega) (by omega)
    · exact Go.Proofs.Any8.slices_Grow_grow Go.Proofs.Tryz.growI b (.int .i64 0) i j (by omega) none 0 0 k [] w (d3 _) (by omega) (by rw [l]; omega) (by omega) (by simp) (fun _=>rfl) (fun a f=>by cases f)
  · cases h
instance i173 (s:Ne) (n:Int):Ct Go.Proofs.Tryz.prog (IV s n) 173 [.nil,eI n] (fun r=>.own (lI r)):=⟨rj s n⟩
theorem mU:CK f124 (Rq [As 2 1] [0]<|Rq [Ae 3 0] [0,3]<|Sq (Rq [Aa 9 0,Ag 10 9,Ae 11 0] [0,3,9,10,11]<|Bl 0<|Lo [0,3,9,10,11]<|Rq [Am 12 11 10] [0,3,9,10,11,12]<|Sq (Co 12 (Sk [0,3,9,10,11])<|Ex 0 [0,3])<|Sq (Bl 1<|Rq [Ai 13 9 11 1,Ab 14 13,Aj 5 14] [0,3,5,9,10,11]<|Rq [Aa 15 3,Aa 16 5,Ag 17 16,Bt 18 15 17,Aa 3 18] [0,3,9,10,11]<|Rq [Aa 19 3,By 20 19 0] [0,3,9,10,11,20]<|Co 20 (.bad)<|Sk [0,3,9,10,11])<|Re [An 22 11 1,Aa 11 22] [0,3,9,10,11])<|Rq [Aa 23 3,⟨some 24,.call 173 [.c .nil,.s 23],none⟩,Aj 6 24] [0,6]<|Sq (Rq [Aa 25 0,Ag 26 25,Ae 27 0] [6,25,26,27]<|Bl 2<|Lo [6,25,26,27]<|Rq [Am 28 27 26] [6,25,26,27,28]<|Sq (Co 28 (Sk [6,25,26,27])<|Ex 2 [6])<|Sq (Bl 3<|Rq [Ai 29 25 27 1,Ab 30 29,Aj 8 30] [6,8,25,26,27]<|Re [Aj 31 6,Aa 32 8,Bh 33 1 31 32,Aj 6 33] [6,25,26,27])<|Re [An 34 27 1,Aa 27 34] [6,25,26,27])<|Rq [Aj 35 6,Aj 2 35] [2]<|.ret) [.tmp 2]:=by decide +kernel
instance uv (a:List Ne):Ct prog (Ig a) 124 [(eL 1 lI) a] (fun r=>.own (lI r)):=Fi mU fun r h f g=>by
  unfold Ig at h;have:HA 0 11 10 0 fun (b:Int) (d:Int)=>[(3,.tv (eI d)),(11,.tv (eI b))]:=⟨⟩;have:HA 2 27 26 0 fun (e:Int) (c:Ne)=>[(6,.ow (lI c)),(27,.tv (eI e))]:=⟨⟩;exact au
theorem uO (i:Int) (r:ByteArray) (h:strconv_Itoa i=some r):AT prog 52 [eI i] (.sh (eS r)):=by
  unfold strconv_Itoa at h;split at h
  · rename_i hi
    cases h;obtain ⟨k,rfl⟩:=Int.eq_ofNat_of_zero_le hi.1;have a:k<100:=by have:=hi.2; omega
    show AT prog 52 [eI (k:Int)] (.sh (eS (ZE k)));refine fg (by rfl) (by have:=ZG k; unfold I3; omega) fun w=>?_;have:=Go.Proofs.Tryz.strconv_Itoa_small k a w;rw [cd k a] at this;exact this
  · cases h
instance zU (i:Int):Ct Go.Proofs.Tryz.prog (strconv_Itoa i) 52 [eI i] (fun r=>.sh (eS r)):=⟨uO i⟩
theorem uP (l:List ByteArray) (s r:ByteArray) (h:strings_Join l s=some r):AT prog 53 [lB l,eS s] (.sh (eS r)):=by
  unfold strings_Join at h;split at h
  · rename_i d
    cases h;obtain ⟨j,k⟩:=d;unfold BN at j k;have e:(F6 l s).size=(Go.Lib.join (l.map (·.data.toList)) s.data.toList).length:=by simp [F6,ByteArray.size]
    refine fi (by rfl) (by unfold I3; omega) (fun a c w f=>?_) (fun b o c w g i d=>Go.Proofs.Tryz.strings_Join b o c l s w g i (by omega) d (by omega));subst f;exact Go.Proofs.Tryz.strings_Join_none a c s w
  · cases h
instance i53 (l:List ByteArray) (s:ByteArray):Ct Go.Proofs.Tryz.prog (strings_Join l s) 53 [lB l,eS s] (fun r=>.sh (eS r)):=⟨uP l s⟩
theorem sT:CK f31 (Rq [Ak 4] [0,1]<|Sq (Rq [Aa 6 0,Ag 7 6,Aa 8 1,Ag 9 8,Bm 10 7 9] [0,1,10]<|Co 10 (Rq [Ak 4] [4]<|.ret)<|Sk [0,1])<|Sq (Rq [Aa 11 0,Ag 12 11,Ae 13 0] [0,1,12,13]<|Bl 0<|Lo [0,1,12,13]<|Rq [Am 14 13 12] [0,1,12,13,14]<|Sq (Co 14 (Sk [0,1,12,13])<|Ex 0 [])<|Sq (Bl 1<|Rq [Aa 15 13,Aa 5 15] [0,1,5,12,13]<|Sq (Dr [16,17,18,19,20,21,22,23,24] [Aa 16 0,Aa 17 5,Ai 18 16 17 1,Ab 19 18,Aa 20 1,Aa 21 5,Ai 22 20 21 1,Ab 23 22,⟨some 24,.bin (.s) .neq (.s 19) (.s 23),none⟩] [0,1,12,13,24])<|Co 24 (Rq [Ak 4] [4]<|.ret)<|Sk [0,1,12,13])<|Re [An 25 13 1,Aa 13 25] [0,1,12,13])<|Rq [Bs 4] [4]<|.ret) [.tmp 4]:=by decide +kernel
instance yU (a:List ByteArray) (b:List ByteArray):Ct prog (slices_Equal_string a b) 31 [lB a,lB b] (fun r=>.sh (eB r)):=Fi sT fun r h d e=>by
  unfold slices_Equal_string at h;have:HA 0 13 12 0 fun (c:Int) (_:Unit)=>[(13,.tv (eI c))]:=⟨⟩;exact au
theorem sJ:CK f16 (Rq [As 2 3] [0]<|Sq (Rq [Aa 3 0,Fe 4 3] [0,4]<|Co 4 (Rq [As 2 3] [2]<|.ret)<|Sk [0])<|Rq [Cx 5 3,Aa 6 0,Bh 7 3 5 6,Aj 2 7] [2]<|.ret) [.tmp 2]:=by decide +kernel
instance yK (a:List AH):Ct prog (JF a) 16 [(eL 3 AR) a] (fun r=>.own ((eL 3 AR) r)):=Fi sJ fun r h b c=>by
  unfold JF at h;exact au
end Go.Sf.Sc
