/- Contracts of the functions. -/
import Derived.Test.YthhobbgaejimgaaGreatDoorShort
import Derived.Test.YthhobbgaejimgaaGreatDoorFo
import Derived.Test.YthhobbgaejimgaaGreatDoorTryzShelf
set_option linter.all false
set_option maxRecDepth 100000
set_option maxHeartbeats 4000000
namespace Go.Sf.Sc
open Go Go.Sf Go.Proofs.Tryz
instance qt(c:Fp)(f:Int->K1)(a:FuncId)(b:Fq)[g:∀(d:Int),Ct prog (f d) a (eI d::b) (fun r=>.sh (eB r))]:Ct prog (CQ c f) 95 [lI c,.sE a b] (fun r=>.sh (eI r)):=Fj f95 0xa1dafb8f606a81dcda70b9 [] [.tmp 4] (h:=fun r h i j=>by
  unfold CQ at h;have:HA 0 8 7 0 fun(e:Int)(_:Unit)=>[(8,.tv (eI e))]:=⟨⟩;exact nz)
instance qG(c:Fp)(f:Int->K1)(a:FuncId)(b:Fq)[e:∀(d:Int),Ct prog (f d) a (eI d::b) (fun r=>.sh (eB r))]:Ct prog (Aq c f) 62 [lI c,.sE a b] (fun r=>.sh (eB r)):=Fj f62 0x9fe3e6 [] [.tmp 4] (h:=fun r h g i=>by
  unfold Aq at h;exact nz)
theorem lD(i:Int)(r:ByteArray)(h:strconv_Itoa i=some r):AH prog 25 [eI i] (.sh (eS r)):=by
  unfold strconv_Itoa at h;split at h
  · rename_i hi
    cases h;obtain⟨k,rfl⟩:=Int.eq_ofNat_of_zero_le hi.1;have hk:k<100:=by have:=hi.2;omega
    show AH prog 25 [eI (k:Int)] (.sh (eS (RT k)));refine ap (by rfl) (by have:=U2 k;unfold Dy;omega) fun w=>?_;have:=Go.Proofs.Tryz.strconv_Itoa_small k hk w;rw[SN k hk]at this;exact this
  · split at h
    · rename_i hi
      cases h;refine YA (by rfl) (by have:=Ts 8 i.toNat (by omega);show(Go.Lib.decDigits i.toNat).toArray.size<=Dy;rw[List.size_toArray];unfold Dy;omega) fun w ht=>?_;have:=Go.Proofs.Tryz.strconv_Itoa i (by omega) (by omega) w (by unfold Go.Lib.TabIs World.var?;rw[show Go.Proofs.Tryz.prog.globalNamed "internal/strconv.uint64pow10" =some 0 by kernel_rfl];exact ht);refine this.mono ?_;rintro e w' ⟨rfl,k,os,rfl⟩;refine⟨by rw[Go.Lib.itoa,bk (by omega)],⟨rfl,rfl,rfl,?_,fun j hj=>?_⟩⟩
      · show w.heap.size<=(w.heap++os).size
        rw [Array.size_append];omega
      · show(w.heap++os)[j]?=w.heap[j]?
        rw [Array.getElem?_append_left hj]
    .cases h
instance qx(i:Int):Ct Go.Proofs.Tryz.prog (strconv_Itoa i) 25 [eI i] (fun r=>.sh (eS r)):=⟨lD i⟩
instance qV(a:Fp):Ct prog (slices_Clone_int a) 79 [lI a] (fun r=>.own (lI r)):=Fj f79 0x82c43047ff01c09c30409a [] [.tmp 2] (h:=fun r h b c=>by
  unfold slices_Clone_int at h;exact nz)
instance qW(a:List B0):Ct prog (Dk a) 80 [lE a] (fun r=>.own (lE r)):=Fj f80 0x820348d147fff49cd1409a [] [.tmp 2] (h:=fun r h b c=>by
  unfold Dk at h;exact nz)
instance nI(b:List ByteArray)(a:ByteArray):Ct prog (slices_Index_string b a) 198 [lB b,eS a] (fun r=>.sh (eI r)):=Fj f198 0xa1dafb86606a81dcda70b9 [] [.tmp 4] (h:=fun r h d e=>by
  unfold slices_Index_string at h;have:HA 0 8 7 0 fun(c:Int)(_:Unit)=>[(8,.tv (eI c))]:=⟨⟩;exact nz)
instance mY(a:List ByteArray)(b:ByteArray):Ct prog (slices_Contains_string a b) 158 [lB a,eS b] (fun r=>.sh (eB r)):=Fj f158 0x9fe3e6 [] [.tmp 4] (h:=fun r h c d=>by
  unfold slices_Contains_string at h;exact nz)
theorem j5(s:ByteArray)(c:Int)(r:Int)(h:strings_IndexByte s c=some r):AH prog 120 [eS s,Ng c] (.sh (eI r)):=by
  unfold strings_IndexByte at h;cases h;exact dU (by rfl) ⟨Go.Lib.indexByte_ge _ _,dT _ _⟩ (fun w=>Go.Proofs.Tryz.strings_IndexByte s c w)
instance ol(s:ByteArray)(c:Int):Ct Go.Proofs.Tryz.prog (strings_IndexByte s c) 120 [eS s,Ng c] (fun r=>.sh (eI r)):=⟨j5 s c⟩
instance mN(c:List BO)(f:BO->K1)(a:FuncId)(b:Fq)[g:∀(d:BO),Ct prog (f d) a (HC d::b) (fun r=>.sh (eB r))]:Ct prog (CE c f) 147 [lN c,.sE a b] (fun r=>.sh (eI r)):=Fj f147 0xa1dafb8f9dbc6a81dcda70b9 [] [.tmp 4] (h:=fun r h i j=>by
  unfold CE at h;have:HA 0 8 7 0 fun(e:Int)(_:Unit)=>[(8,.tv (eI e))]:=⟨⟩;exact nz)
instance qv(c:List BO)(f:BO->K1)(a:FuncId)(b:Fq)[e:∀(d:BO),Ct prog (f d) a (HC d::b) (fun r=>.sh (eB r))]:Ct prog (Bt c f) 99 [lN c,.sE a b] (fun r=>.sh (eB r)):=Fj f99 0x9fe3e6 [] [.tmp 4] (h:=fun r h g i=>by
  unfold Bt at h;exact nz)
instance nG(c:List rc)(f:rc->K1)(a:FuncId)(b:Fq)[g:∀(d:rc),Ct prog (f d) a (GL d::b) (fun r=>.sh (eB r))]:Ct prog (Cf c f) 195 [lA c,.sE a b] (fun r=>.sh (eI r)):=Fj f195 0xa1dafb8f9dbc6a81dcda70b9 [] [.tmp 4] (h:=fun r h i j=>by
  unfold Cf at h;have:HA 0 8 7 0 fun(e:Int)(_:Unit)=>[(8,.tv (eI e))]:=⟨⟩;exact nz)
instance mO(c:List rc)(f:rc->K1)(a:FuncId)(b:Fq)[e:∀(d:rc),Ct prog (f d) a (GL d::b) (fun r=>.sh (eB r))]:Ct prog (CL c f) 148 [lA c,.sE a b] (fun r=>.sh (eB r)):=Fj f148 0x9fe3e6 [] [.tmp 4] (h:=fun r h g i=>by
  unfold CL at h;exact nz)
instance mR(c:List Bg)(f:Bg->K1)(a:FuncId)(b:Fq)[g:∀(d:Bg),Ct prog (f d) a (G9 d::b) (fun r=>.sh (eB r))]:Ct prog (CD c f) 151 [lX c,.sE a b] (fun r=>.sh (eI r)):=Fj f151 0xa1dafb8f074407436a81dcda70b9 [] [.tmp 4] (h:=fun r h i j=>by
  unfold CD at h;have:HA 0 8 7 0 fun(e:Int)(_:Unit)=>[(8,.tv (eI e))]:=⟨⟩;exact nz)
instance lY(c:List Bg)(f:Bg->K1)(a:FuncId)(b:Fq)[e:∀(d:Bg),Ct prog (f d) a (G9 d::b) (fun r=>.sh (eB r))]:Ct prog (Bs c f) 104 [lX c,.sE a b] (fun r=>.sh (eB r)):=Fj f104 0x9fe3e6 [] [.tmp 4] (h:=fun r h g i=>by
  unfold Bs at h;exact nz)
instance mS(c:List B0)(f:B0->K1)(a:FuncId)(b:Fq)[g:∀(d:B0),Ct prog (f d) a (Bj d::b) (fun r=>.sh (eB r))]:Ct prog (Cg c f) 152 [lE c,.sE a b] (fun r=>.sh (eI r)):=Fj f152 0xa1dafb8fd7436a81dcda70b9 [] [.tmp 4] (h:=fun r h i j=>by
  unfold Cg at h;have:HA 0 8 7 0 fun(e:Int)(_:Unit)=>[(8,.tv (eI e))]:=⟨⟩;exact nz)
instance lg(c:List B0)(f:B0->K1)(a:FuncId)(b:Fq)[e:∀(d:B0),Ct prog (f d) a (Bj d::b) (fun r=>.sh (eB r))]:Ct prog (BT c f) 109 [lE c,.sE a b] (fun r=>.sh (eB r)):=Fj f109 0x9fe3e6 [] [.tmp 4] (h:=fun r h g i=>by
  unfold BT at h;exact nz)
instance mT(a:List ByteArray):Ct prog (slices_Clone_string a) 153 [lB a] (fun r=>.own (lB r)):=Fj f153 0x82c43047ff01c09c30409a [] [.tmp 2] (h:=fun r h b c=>by
  unfold slices_Clone_string at h;exact nz)
instance nH(b:Fp)(a:Int):Ct prog (slices_Index_int b a) 196 [lI b,eI a] (fun r=>.sh (eI r)):=Fj f196 0xa1dafb85606a81dcda70b9 [] [.tmp 4] (h:=fun r h d e=>by
  unfold slices_Index_int at h;have:HA 0 8 7 0 fun(c:Int)(_:Unit)=>[(8,.tv (eI c))]:=⟨⟩;exact nz)
instance mV(a:Fp)(b:Int):Ct prog (slices_Contains_int a b) 155 [lI a,eI b] (fun r=>.sh (eB r)):=Fj f155 0x9fe3e6 [] [.tmp 4] (h:=fun r h c d=>by
  unfold slices_Contains_int at h;exact nz)
theorem j6(l r:Fp)(h:slices_Reverse_int l=some r):AH prog 197 [.list 1 (l.map (TV.int .i64))] (.turn r):=by
  unfold slices_Reverse_int at h;split at h
  · rename_i d
    unfold Br at d;cases h;refine WS (by rfl) List.length_reverse (fun x a=>List.mem_reverse.1 a) (fun w b=>?_) (fun g cap w _ _ j c=>(Go.Proofs.Tryz.slices_Reverse_int g 0 cap l w c (by omega)).mono ?_)
    · subst b
      exact Go.Proofs.Tryz.slices_Reverse_int_empty none 0 w
    · rintro e w' ⟨f,q,i⟩
      exact ⟨f,q,#[],by rw[Go.Sort.grow_empty];exact i⟩
  .cases h
instance ot(l:Fp):Ct Go.Proofs.Tryz.prog (slices_Reverse_int l) 197 [.list 1 (l.map (TV.int .i64))] Af.turn:=⟨j6 l⟩
instance nK(b:ae)(a:Bool):Ct prog (Hr b a) 201 [(eL 1 eB) b,eB a] (fun r=>.sh (eI r)):=Fj f201 0xa1dafb87606a81dcda70b9 [] [.tmp 4] (h:=fun r h d e=>by
  unfold Hr at h;have:HA 0 8 7 0 fun(c:Int)(_:Unit)=>[(8,.tv (eI c))]:=⟨⟩;exact nz)
instance mf(a:ae)(b:Bool):Ct prog (GV a b) 166 [(eL 1 eB) a,eB b] (fun r=>.sh (eB r)):=Fj f166 0x9fe3e6 [] [.tmp 4] (h:=fun r h c d=>by
  unfold GV at h;exact nz)
instance nm(c:List CO)(f:CO->K1)(a:FuncId)(b:Fq)[g:∀(d:CO),Ct prog (f d) a (Eh d::b) (fun r=>.sh (eB r))]:Ct prog (Ch c f) 230 [lS c,.sE a b] (fun r=>.sh (eI r)):=Fj f230 0xa1dafb8f9dbc6a81dcda70b9 [] [.tmp 4] (h:=fun r h i j=>by
  unfold Ch at h;have:HA 0 8 7 0 fun(e:Int)(_:Unit)=>[(8,.tv (eI e))]:=⟨⟩;exact nz)
instance nN(c:List CO)(f:CO->K1)(a:FuncId)(b:Fq)[e:∀(d:CO),Ct prog (f d) a (Eh d::b) (fun r=>.sh (eB r))]:Ct prog (Bv c f) 204 [lS c,.sE a b] (fun r=>.sh (eB r)):=Fj f204 0x9fe3e6 [] [.tmp 4] (h:=fun r h g i=>by
  unfold Bv at h;exact nz)
theorem j7(l:Fp)(x:Int)(r:Int×Bool)(h:slices_BinarySearch_int l x=some r):AH prog 207 [lI l,eI x] (.tp [eI (r.1),eB (r.2)]):=by
  unfold slices_BinarySearch_int at h;split at h
  · rename_i d
    cases h;have g:=d.1;unfold Br at g;refine Wu (by rfl) d.1 d.2 (fun a c w i=>?_) (fun b e c w f=>Go.Proofs.Tryz.slices_BinarySearch_int b e l.length c l x w (ca _) (by omega) f (by rw[List.take_length];exact d.2));exact Go.Proofs.Tryz.slices_BinarySearch_int_empty a c x w
  .cases h
instance ou(l:Fp)(x:Int):Ct Go.Proofs.Tryz.prog (slices_BinarySearch_int l x) 207 [lI l,eI x] (fun r=>.tp [eI (r.1),eB (r.2)]):=⟨j7 l x⟩
theorem j9(l r:Fp)(h:slices_Sort_int l=some r):AH prog 234 [.list 1 (l.map (TV.int .i64))] (.turn r):=by
  unfold slices_Sort_int at h;rw[<-X9]at h;split at h
  · rename_i e
    unfold Br at e;cases h;refine WS (by rfl) (List.length_mergeSort _) (fun x a=>List.mem_mergeSort.1 a) (fun w b=>?_) (fun g cap w _ _ c d=>Go.Proofs.Tryz.slices_Sort_int g 0 cap l w d c (by omega));subst b;exact Go.Proofs.Tryz.slices_Sort_int_none none 0 w
  .cases h
instance oy(l:Fp):Ct Go.Proofs.Tryz.prog (slices_Sort_int l) 234 [.list 1 (l.map (TV.int .i64))] Af.turn:=⟨j9 l⟩
theorem kB(l r:Fp)(h:slices_Compact_int l=some r):AH prog 235 [.list 1 (l.map (TV.int .i64))] (.cut r):=by
  unfold slices_Compact_int at h;split at h
  · rename_i e
    unfold Br at e;cases h;have f:=Go.Lib.compact_length_le l;refine dI (rest:=List.replicate (l.length-(Go.Lib.compact l).length) 0) (by rfl) (by rw[List.length_replicate];omega) (fun x a=>TP a) (fun w b=>?_) (fun g cap w c _ i d=>Go.Proofs.Tryz.slices_Compact_int g 0 cap l w d (by omega) c);subst b;exact Go.Proofs.Tryz.slices_Compact_int_empty none 0 w
  .cases h
instance oz(l:Fp):Ct Go.Proofs.Tryz.prog (slices_Compact_int l) 235 [.list 1 (l.map (TV.int .i64))] Af.cut:=⟨kB l⟩
instance oM(c:List j0)(f:j0->K1)(a:FuncId)(b:Fq)[g:∀(d:j0),Ct prog (f d) a (Ae d::b) (fun r=>.sh (eB r))]:Ct prog (B3 c f) 260 [D5 c,.sE a b] (fun r=>.sh (eI r)):=Fj f260 0xa1dafb8fba09436a81dcda70b9 [] [.tmp 4] (h:=fun r h i j=>by
  unfold B3 at h;have:HA 0 8 7 0 fun(e:Int)(_:Unit)=>[(8,.tv (eI e))]:=⟨⟩;exact nz)
instance nu(c:List j0)(f:j0->K1)(a:FuncId)(b:Fq)[e:∀(d:j0),Ct prog (f d) a (Ae d::b) (fun r=>.sh (eB r))]:Ct prog (Bm c f) 237 [D5 c,.sE a b] (fun r=>.sh (eB r)):=Fj f237 0x9fe3e6 [] [.tmp 4] (h:=fun r h g i=>by
  unfold Bm at h;exact nz)
theorem kD(a b c:Int)(r:Int×Int)(h:G3 a b c=some r):AH prog 264 [Gq a,Gq b,Gq c] (.ext [Gq (r.1),Gq (r.2)]):=by
  unfold G3 at h;split at h
  · rename_i d
    cases h;obtain⟨⟨a0,a1⟩,⟨b0,f⟩,e,g⟩:=d;intro _;refine⟨⟨rfl,?_⟩,fun w vs hv=>?_⟩
    · simp only[Gq,TV.rI,TV.WF,IntKind.min,IntKind.max,IntKind.signed,IntKind.bits,and_true]
      simp only[Bool.false_eq_true,if_false];refine⟨⟨by omega,?_⟩,by omega,?_⟩
      · have:(2:Int)^ 64=18446744073709551616:=by decide
        omega
      · have:(2:Int)^ 64=18446744073709551616:=by decide
        omega
    · obtain⟨x,rfl⟩:=Int.eq_ofNat_of_zero_le a0
      obtain ⟨y,rfl⟩:=Int.eq_ofNat_of_zero_le b0;obtain⟨z,rfl⟩:=Int.eq_ofNat_of_zero_le e;have:=Go.Proofs.Any7.bits_Add64 Go.Proofs.Tryz.lays7n25 x y z (by omega) w;obtain⟨l⟩:=vs;simp only[Gq,AI,AS]at hv;obtain⟨i,j,rfl,rfl,k,m,rfl,rfl,n,o,rfl,rfl,rfl⟩:=hv;refine⟨_,this,?_⟩;simp only[Gq,AI,AS];exact⟨_,_,rfl,by simp,_,_,rfl,by simp,rfl⟩
  .cases h
instance o6(a b c:Int):Ct Go.Proofs.Tryz.prog (G3 a b c) 264 [Gq a,Gq b,Gq c] (fun r=>.ext [Gq (r.1),Gq (r.2)]):=⟨kD a b c⟩
instance oA(a:Fp):Ct prog (MA a) 244 [lI a] (fun r=>.sh (eI r)):=Fj f244 0x81013177060304fb85308160315e77060304706b5f01 [] [.tmp 2] (h:=fun r h c d=>by
  unfold MA at h;have:HA 0 8 7 0 fun(b:Int)(_:Unit)=>[(8,.tv (eI b))]:=⟨⟩;exact nz)
instance oL(a:Int):Ct prog (cmp_isNaN_int a) 257 [eI a] (fun r=>.sh (eB r)):=Fj f257 0x9f6a9a [] [.tmp 2] (h:=fun r h b c=>by
  unfold cmp_isNaN_int at h;exact nz)
instance oB(a:Int)(y:Int):Ct prog (cmp_Compare_int a y) 245 [eI a,eI y] (fun r=>.sh (eI r)):=Fj f245 0x81b730b7307636766b0e550eb9 [] [.tmp 4] (h:=fun r h b c=>by
  unfold cmp_Compare_int at h;exact nz)
instance oS(a:Int):Ct prog (GF a) 265 [Gq a] (fun r=>.sh (eB r)):=Fj f265 0x9f6a9a [] [.tmp 2] (h:=fun r h b c=>by
  unfold GF at h;exact nz)
instance oC(a:Int)(y:Int):Ct prog (G8 a y) 246 [Gq a,Gq y] (fun r=>.sh (eI r)):=Fj f246 0x81b730b7307636766b0e550eb9 [] [.tmp 4] (h:=fun r h b c=>by
  unfold G8 at h;exact nz)
instance pK(a:Fp)(b:Fp):Ct prog (slices_Equal_int a b) 21 [lI a,lI b] (fun r=>.sh (eB r)):=Fj f21 0xa1cab56fb7c8c881dccab57001b70bdeb9 [] [.tmp 4] (h:=fun r h d e=>by
  unfold slices_Equal_int at h;have:HA 0 13 12 0 fun(c:Int)(_:Unit)=>[(13,.tv (eI c))]:=⟨⟩;exact nz)
theorem j8(l:Fp)(m:Int)(r:Fp)(h:EZ l m=some r):AH prog 224 [lI l,eI m] (.own (lI r)):=by
  unfold EZ at h;split at h
  · rename_i a
    cases h;obtain⟨x,rfl⟩:=List.length_eq_one_iff.1 a.1;obtain⟨k,rfl⟩:=Int.eq_ofNat_of_zero_le a.2.1;exact Sv x k (by have:=a.2.2;omega)
  .cases h
instance ov(l:Fp)(m:Int):Ct Go.Proofs.Tryz.prog (EZ l m) 224 [lI l,eI m] (fun r=>.own (lI r)):=⟨j8 l m⟩
end Go.Sf.Sc
