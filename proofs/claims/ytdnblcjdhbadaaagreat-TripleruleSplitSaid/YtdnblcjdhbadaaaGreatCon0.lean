/- Contracts of the functions. -/
import Derived.Test.YtdnblcjdhbadaaaGreatShort
import Derived.Test.YtdnblcjdhbadaaaGreatTw
import Derived.Test.YtdnblcjdhbadaaaGreatTryzShelf
set_option linter.all false
set_option maxRecDepth 100000
set_option maxHeartbeats 4000000
namespace Go.Sf.Sc
open Go Go.Sf Go.Proofs.Tryz
instance c34(b:Fp)(a:Int):Ct prog (slices_Index_int b a) 34 [lI b,eI a] (fun r=>.sh (eI r)):=Fj f34 0xa6d1add601858431816965d1ad9701bb [] [.tmp 4] (h:=fun r h d e=>by
  unfold slices_Index_int at h;have:HA 0 8 7 0 fun(c:Int)(_:Unit)=>[(8,.tv (eI c))]:=⟨⟩;exact nz)
instance yj(b:List B6)(f:B6->K1)(c:FuncId)(a:Fq)[g:∀(d:B6),Ct prog (f d) c (Dp d::a) (fun r=>.sh (eB r))]:Ct prog (GI b f) 226 [lN b,.clo c a] (fun r=>.sh (eI r)):=Fj f226 0xa6d1add6018ff6e131816965d1ad9701bb [] [.tmp 4] (h:=fun r h i j=>by
  unfold GI at h;have:HA 0 8 7 0 fun(e:Int)(_:Unit)=>[(8,.tv (eI e))]:=⟨⟩;exact nz)
instance xV(b:List B6)(f:B6->K1)(c:FuncId)(a:Fq)[e:∀(d:B6),Ct prog (f d) c (Dp d::a) (fun r=>.sh (eB r))]:Ct prog (Cw b f) 162 [lN b,.clo c a] (fun r=>.sh (eB r)):=Fj f162 0xb80e31bb [] [.tmp 4] (h:=fun r h g i=>by
  unfold Cw at h;exact nz)
instance ABA(b:List ByteArray)(a:ByteArray):Ct prog (slices_Index_string b a) 371 [lB b,eS a] (fun r=>.sh (eI r)):=Fj f371 0xa6d1add601868431816965d1ad9701bb [] [.tmp 4] (h:=fun r h d e=>by
  unfold slices_Index_string at h;have:HA 0 8 7 0 fun(c:Int)(_:Unit)=>[(8,.tv (eI c))]:=⟨⟩;exact nz)
instance AAo(b:List ByteArray)(a:ByteArray):Ct prog (slices_Contains_string b a) 345 [lB b,eS a] (fun r=>.sh (eB r)):=Fj f345 0xb80e31bb [] [.tmp 4] (h:=fun r h c d=>by
  unfold slices_Contains_string at h;exact nz)
theorem vK(s:ByteArray)(c:Int)(r:Int)(h:strings_IndexByte s c=some r):AQ prog 352 [eS s,U9 c] (.sh (eI r)):=by
  unfold strings_IndexByte at h;cases h;exact ox (by rfl) ⟨Go.Lib.indexByte_ge _ _,ov _ _⟩ (fun w=>Go.Proofs.Tryz.strings_IndexByte s c w)
instance ABb(s:ByteArray)(c:Int):Ct Go.Proofs.Tryz.prog (strings_IndexByte s c) 352 [eS s,U9 c] (fun r=>.sh (eI r)):=⟨vK s c⟩
instance AAn(b:List mo)(f:mo->K1)(c:FuncId)(a:Fq)[g:∀(d:mo),Ct prog (f d) c (GB d::a) (fun r=>.sh (eB r))]:Ct prog (IW b f) 344 [lA b,.clo c a] (fun r=>.sh (eI r)):=Fj f344 0xa6d1add6018ff6e131816965d1ad9701bb [] [.tmp 4] (h:=fun r h i j=>by
  unfold IW at h;have:HA 0 8 7 0 fun(e:Int)(_:Unit)=>[(8,.tv (eI e))]:=⟨⟩;exact nz)
instance z6(b:List mo)(f:mo->K1)(c:FuncId)(a:Fq)[e:∀(d:mo),Ct prog (f d) c (GB d::a) (fun r=>.sh (eB r))]:Ct prog (Ei b f) 296 [lA b,.clo c a] (fun r=>.sh (eB r)):=Fj f296 0xb80e31bb [] [.tmp 4] (h:=fun r h g i=>by
  unfold Ei at h;exact nz)
instance AAA(b:List CY)(f:CY->K1)(c:FuncId)(a:Fq)[g:∀(d:CY),Ct prog (f d) c (EG d::a) (fun r=>.sh (eB r))]:Ct prog (GH b f) 299 [lX b,.clo c a] (fun r=>.sh (eI r)):=Fj f299 0xa6d1add6018f0744078031816965d1ad9701bb [] [.tmp 4] (h:=fun r h i j=>by
  unfold GH at h;have:HA 0 8 7 0 fun(e:Int)(_:Unit)=>[(8,.tv (eI e))]:=⟨⟩;exact nz)
instance yv(b:List CY)(f:CY->K1)(c:FuncId)(a:Fq)[e:∀(d:CY),Ct prog (f d) c (EG d::a) (fun r=>.sh (eB r))]:Ct prog (Dg b f) 237 [lX b,.clo c a] (fun r=>.sh (eB r)):=Fj f237 0xb80e31bb [] [.tmp 4] (h:=fun r h g i=>by
  unfold Dg at h;exact nz)
instance AAC(b:Fp)(f:Int->K1)(c:FuncId)(a:Fq)[g:∀(d:Int),Ct prog (f d) c (eI d::a) (fun r=>.sh (eB r))]:Ct prog (I5 b f) 301 [lI b,.clo c a] (fun r=>.sh (eI r)):=Fj f301 0xa6d1add6018f8431816965d1ad9701bb [] [.tmp 4] (h:=fun r h i j=>by
  unfold I5 at h;have:HA 0 8 7 0 fun(e:Int)(_:Unit)=>[(8,.tv (eI e))]:=⟨⟩;exact nz)
instance yz(b:Fp)(f:Int->K1)(c:FuncId)(a:Fq)[e:∀(d:Int),Ct prog (f d) c (eI d::a) (fun r=>.sh (eB r))]:Ct prog (BO b f) 241 [lI b,.clo c a] (fun r=>.sh (eB r)):=Fj f241 0xb80e31bb [] [.tmp 4] (h:=fun r h g i=>by
  unfold BO at h;exact nz)
instance AAD(b:List BY)(f:BY->K1)(c:FuncId)(a:Fq)[g:∀(d:BY),Ct prog (f d) c (B1 d::a) (fun r=>.sh (eB r))]:Ct prog (IX b f) 302 [lE b,.clo c a] (fun r=>.sh (eI r)):=Fj f302 0xa6d1add6018fd88031816965d1ad9701bb [] [.tmp 4] (h:=fun r h i j=>by
  unfold IX at h;have:HA 0 8 7 0 fun(e:Int)(_:Unit)=>[(8,.tv (eI e))]:=⟨⟩;exact nz)
instance y5(b:List BY)(f:BY->K1)(c:FuncId)(a:Fq)[e:∀(d:BY),Ct prog (f d) c (B1 d::a) (fun r=>.sh (eB r))]:Ct prog (By b f) 243 [lE b,.clo c a] (fun r=>.sh (eB r)):=Fj f243 0xb80e31bb [] [.tmp 4] (h:=fun r h g i=>by
  unfold By at h;exact nz)
instance zc(a:List ByteArray):Ct prog (slices_Clone_string a) 277 [lB a] (fun r=>.own (lB r)):=Fj f277 0x8201483147ff01c09c31400001 [] [.tmp 2] (h:=fun r h b c=>by
  unfold slices_Clone_string at h;exact nz)
instance AAF(b:a5)(a:Bool):Ct prog (IA b a) 304 [(eL 1 eB) b,eB a] (fun r=>.sh (eI r)):=Fj f304 0xa6d1add601878431816965d1ad9701bb [] [.tmp 4] (h:=fun r h d e=>by
  unfold IA at h;have:HA 0 8 7 0 fun(c:Int)(_:Unit)=>[(8,.tv (eI c))]:=⟨⟩;exact nz)
instance zA(b:a5)(a:Bool):Ct prog (Ej b a) 248 [(eL 1 eB) b,eB a] (fun r=>.sh (eB r)):=Fj f248 0xb80e31bb [] [.tmp 4] (h:=fun r h c d=>by
  unfold Ej at h;exact nz)
instance AAw(b:List CI)(f:CI->K1)(c:FuncId)(a:Fq)[g:∀(d:CI),Ct prog (f d) c (D4 d::a) (fun r=>.sh (eB r))]:Ct prog (IY b f) 354 [lS b,.clo c a] (fun r=>.sh (eI r)):=Fj f354 0xa6d1add6018ff6e131816965d1ad9701bb [] [.tmp 4] (h:=fun r h i j=>by
  unfold IY at h;have:HA 0 8 7 0 fun(e:Int)(_:Unit)=>[(8,.tv (eI e))]:=⟨⟩;exact nz)
instance AAI(b:List CI)(f:CI->K1)(c:FuncId)(a:Fq)[e:∀(d:CI),Ct prog (f d) c (D4 d::a) (fun r=>.sh (eB r))]:Ct prog (DW b f) 307 [lS b,.clo c a] (fun r=>.sh (eB r)):=Fj f307 0xb80e31bb [] [.tmp 4] (h:=fun r h g i=>by
  unfold DW at h;exact nz)
instance wV(a:Fp):Ct prog (slices_Clone_int a) 110 [lI a] (fun r=>.own (lI r)):=Fj f110 0x8201483147ff01c09c31400001 [] [.tmp 2] (h:=fun r h b c=>by
  unfold slices_Clone_int at h;exact nz)
theorem vE(l:Fp)(x:Int)(r:Int×Bool)(h:slices_BinarySearch_int l x=some r):AQ prog 190 [lI l,eI x] (.tp [eI (r.1),eB (r.2)]):=by
  unfold slices_BinarySearch_int at h;split at h
  · rename_i d
    cases h;have g:=d.1;unfold AW at g;refine gD (by rfl) d.1 d.2 (fun a c w i=>?_) (fun b e c w f=>Go.Proofs.Tryz.slices_BinarySearch_int b e l.length c l x w (az _) (by omega) f (by rw[List.take_length];exact d.2));exact Go.Proofs.Tryz.slices_BinarySearch_int_empty a c x w
  .cases h
instance ABU(l:Fp)(x:Int):Ct Go.Proofs.Tryz.prog (slices_BinarySearch_int l x) 190 [lI l,eI x] (fun r=>.tp [eI (r.1),eB (r.2)]):=⟨vE l x⟩
theorem vI(l r:Fp)(h:slices_Compact_int l=some r):AQ prog 313 [.list 1 (l.map (TV.int .i64))] (.cut r):=by
  unfold slices_Compact_int at h;split at h
  · rename_i e
    unfold AW at e;cases h;have f:=Go.Lib.compact_length_le l;refine oe (rest:=List.replicate (l.length-(Go.Lib.compact l).length) 0) (by rfl) (by rw[List.length_replicate];omega) (fun x a=>Z0 a) (fun w b=>?_) (fun g cap w c _ i d=>Go.Proofs.Tryz.slices_Compact_int g 0 cap l w d (by omega) c);subst b;exact Go.Proofs.Tryz.slices_Compact_int_empty none 0 w
  .cases h
instance ABZ(l:Fp):Ct Go.Proofs.Tryz.prog (slices_Compact_int l) 313 [.list 1 (l.map (TV.int .i64))] At.cut:=⟨vI l⟩
theorem vL(l r:Fp)(h:slices_Sort_int l=some r):AQ prog 355 [.list 1 (l.map (TV.int .i64))] (.turn r):=by
  unfold slices_Sort_int at h;rw[<-iW]at h;split at h
  · rename_i e
    unfold AW at e;cases h;refine ee (by rfl) (List.length_mergeSort _) (fun x a=>List.mem_mergeSort.1 a) (fun w b=>?_) (fun g cap w _ _ c d=>Go.Proofs.Tryz.slices_Sort_int g 0 cap l w d c (by omega));subst b;exact Go.Proofs.Tryz.slices_Sort_int_none none 0 w
  .cases h
instance ABc(l:Fp):Ct Go.Proofs.Tryz.prog (slices_Sort_int l) 355 [.list 1 (l.map (TV.int .i64))] At.turn:=⟨vL l⟩
instance wX(b:Fp)(a:Int):Ct prog (slices_Contains_int b a) 112 [lI b,eI a] (fun r=>.sh (eB r)):=Fj f112 0xb80e31bb [] [.tmp 4] (h:=fun r h c d=>by
  unfold slices_Contains_int at h;exact nz)
theorem vJ(l r:Fp)(h:slices_Reverse_int l=some r):AQ prog 343 [.list 1 (l.map (TV.int .i64))] (.turn r):=by
  unfold slices_Reverse_int at h;split at h
  · rename_i d
    unfold AW at d;cases h;refine ee (by rfl) List.length_reverse (fun x a=>List.mem_reverse.1 a) (fun w b=>?_) (fun g cap w _ _ j c=>(Go.Proofs.Tryz.slices_Reverse_int g 0 cap l w c (by omega)).mono ?_)
    · subst b
      exact Go.Proofs.Tryz.slices_Reverse_int_empty none 0 w
    · rintro e w' ⟨f,q,i⟩
      exact ⟨f,q,#[],by rw[Go.Sort.grow_empty];exact i⟩
  .cases h
instance ABa(l:Fp):Ct Go.Proofs.Tryz.prog (slices_Reverse_int l) 343 [.list 1 (l.map (TV.int .i64))] At.turn:=⟨vJ l⟩
instance ABC(b:List ea)(f:ea->K1)(c:FuncId)(a:Fq)[g:∀(d:ea),Ct prog (f d) c (AH d::a) (fun r=>.sh (eB r))]:Ct prog (Fu b f) 376 [DD b,.clo c a] (fun r=>.sh (eI r)):=Fj f376 0xa6d1add6018fb2098031816965d1ad9701bb [] [.tmp 4] (h:=fun r h i j=>by
  unfold Fu at h;have:HA 0 8 7 0 fun(e:Int)(_:Unit)=>[(8,.tv (eI e))]:=⟨⟩;exact nz)
instance AAy(b:List ea)(f:ea->K1)(c:FuncId)(a:Fq)[e:∀(d:ea),Ct prog (f d) c (AH d::a) (fun r=>.sh (eB r))]:Ct prog (Cn b f) 357 [DD b,.clo c a] (fun r=>.sh (eB r)):=Fj f357 0xb80e31bb [] [.tmp 4] (h:=fun r h g i=>by
  unfold Cn at h;exact nz)
theorem vG(s:Fp)(n:Int)(r:Fp)(h:Hm s n=some r):AQ prog 225 [.nil,eI n] (.own (lI r)):=by
  unfold Hm at h;split at h
  · rename_i c
    cases h;obtain⟨k,rfl⟩:=Int.eq_ofNat_of_zero_le c.2.1;have d:k<=AW:=by have:=c.2.2;omega
    have g:=d;unfold AW at g;obtain⟨b,i,j,p,l⟩:∃b,prog.info? 3=some b/\b.zero=some (.int .i64 0)/\b.size=1/\b.bytes=8:=⟨_,rfl,rfl,rfl,rfl⟩;refine l7 (by rfl) d (e:=3) (z:=(Value.int .i64 0).cells) rfl (fun w m=>?_) (fun w o=>?_)
    .exact Go.Proofs.Any8.slices_Grow_room Go.Proofs.Tryz.growI none 0 0 k w (az _) (by omega) (by omega) (by omega)
    .exact Go.Proofs.Any8.slices_Grow_grow Go.Proofs.Tryz.growI b (.int .i64 0) i j (by omega) none 0 0 k [] w (az _) (by omega) (by rw[l];omega) (by omega) (by simp) (fun _=>rfl) (fun a f=>by cases f)
  .cases h
instance ABX(s:Fp)(n:Int):Ct Go.Proofs.Tryz.prog (Hm s n) 225 [.nil,eI n] (fun r=>.own (lI r)):=⟨vG s n⟩
theorem sQ:CK f161 (Rq [⟨some 2,.Abk 1,none⟩] [0]<|Rq [Af 3 0] [0,3]<|Sq (Rq [Aa 9 0,⟨some 10,.len (.s 9),none⟩,Af 11 0] [0,3,9,10,11]<|Bl 0<|Lo [0,3,9,10,11]<|Rq [⟨some 12,.bin (.i) .lss (.s 11) (.s 10),none⟩] [0,3,9,10,11,12]<|Sq (Co 12 (Sk [0,3,9,10,11])<|Ex 0 [0,3])<|Sq (Bl 1<|Rq [⟨some 13,.iad (.s 9) (.s 11) 1,none⟩,⟨some 14,.ld (.s 13),none⟩,Ab 5 14] [0,3,5,9,10,11]<|Rq [Aa 15 3,Aa 16 5,⟨some 17,.len (.s 16),none⟩,⟨some 18,.bin (.i) .add (.s 15) (.s 17),none⟩,Aa 3 18] [0,3,9,10,11]<|Rq [Aa 19 3,⟨some 20,.bin (.i) .lss (.s 19) (.c (.int .i64 0)),none⟩] [0,3,9,10,11,20]<|Co 20 (.bad)<|Sk [0,3,9,10,11])<|Re [⟨some 22,.bin (.i) .add (.s 11) (.c (.int .i64 1)),none⟩,Aa 11 22] [0,3,9,10,11])<|Rq [Aa 23 3,⟨some 24,.call 225 [.c .nil,.s 23],none⟩,Ab 6 24] [0,6]<|Sq (Rq [Aa 25 0,⟨some 26,.len (.s 25),none⟩,Af 27 0] [6,25,26,27]<|Bl 2<|Lo [6,25,26,27]<|Rq [⟨some 28,.bin (.i) .lss (.s 27) (.s 26),none⟩] [6,25,26,27,28]<|Sq (Co 28 (Sk [6,25,26,27])<|Ex 2 [6])<|Sq (Bl 3<|Rq [⟨some 29,.iad (.s 25) (.s 27) 1,none⟩,⟨some 30,.ld (.s 29),none⟩,Ab 8 30] [6,8,25,26,27]<|Re [Ab 31 6,Aa 32 8,⟨some 33,.app 1 (.s 31) (.s 32),none⟩,Ab 6 33] [6,25,26,27])<|Re [⟨some 34,.bin (.i) .add (.s 27) (.c (.int .i64 1)),none⟩,Aa 27 34] [6,25,26,27])<|Rq [Ab 35 6,Ab 2 35] [2]<|.ret) [.tmp 2]:=by decide +kernel
instance xU(a:List Fp):Ct prog (F5 a) 161 [(eL 1 lI) a] (fun r=>.own (lI r)):=Fi sQ fun r h f g=>by
  unfold F5 at h;have:HA 0 11 10 0 fun(c:Int)(e:Int)=>[(3,.tv (eI e)),(11,.tv (eI c))]:=⟨⟩;have:HA 2 27 26 0 fun(b:Int)(d:Fp)=>[(6,.ow (lI d)),(27,.tv (eI b))]:=⟨⟩;exact au
instance wW(a:List BY):Ct prog (Cq a) 111 [lE a] (fun r=>.own (lE r)):=Fj f111 0x820348010347ff03c09c0103400001 [] [.tmp 2] (h:=fun r h b c=>by
  unfold Cq at h;exact nz)
instance c23(b:Fp)(a:Fp):Ct prog (slices_Equal_int b a) 23 [lI b,lI a] (fun r=>.sh (eB r)):=Fj f23 0xa6baadd685e8e8816965baad970155ec010b01bb [] [.tmp 4] (h:=fun r h d e=>by
  unfold slices_Equal_int at h;have:HA 0 13 12 0 fun(c:Int)(_:Unit)=>[(13,.tv (eI c))]:=⟨⟩;exact nz)
theorem vM(a b c:Int)(r:Int×Int)(h:HZ a b c=some r):AQ prog 378 [Jh a,Jh b,Jh c] (.ext [Jh (r.1),Jh (r.2)]):=by
  unfold HZ at h;split at h
  · rename_i d
    cases h;obtain⟨⟨a0,a1⟩,⟨e,g⟩,f,i⟩:=d;intro _;refine⟨⟨rfl,?_⟩,fun w vs hv=>?_⟩
    · simp only[Jh,TV.up,TV.WF,IntKind.min,IntKind.max,IntKind.signed,IntKind.bits,and_true]
      simp only[Bool.false_eq_true,if_false];refine⟨⟨by omega,?_⟩,by omega,?_⟩
      · have:(2:Int)^ 64=18446744073709551616:=by decide
        omega
      · have:(2:Int)^ 64=18446744073709551616:=by decide
        omega
    · obtain⟨x,rfl⟩:=Int.eq_ofNat_of_zero_le a0
      obtain ⟨y,rfl⟩:=Int.eq_ofNat_of_zero_le e;obtain⟨z,rfl⟩:=Int.eq_ofNat_of_zero_le f;have:=Go.Proofs.Any7.bits_Add64 Go.Proofs.Tryz.lays7n25 x y z (by omega) w;obtain⟨l⟩:=vs;simp only[Jh,AS,An]at hv;obtain⟨j,k,rfl,rfl,m,n,rfl,rfl,o,p,rfl,rfl,rfl⟩:=hv;refine⟨_,this,?_⟩;simp only[Jh,AS,An];exact⟨_,_,rfl,by simp,_,_,rfl,by simp,rfl⟩
  .cases h
instance ABd(a b c:Int):Ct Go.Proofs.Tryz.prog (HZ a b c) 378 [Jh a,Jh b,Jh c] (fun r=>.ext [Jh (r.1),Jh (r.2)]):=⟨vM a b c⟩
instance AA3(a:Fp):Ct prog (MN a) 364 [lI a] (fun r=>.sh (eI r)):=Fj f364 0xd9300876d2d6018531fc30650876d297a86901 [] [.tmp 2] (h:=fun r h c d=>by
  unfold MN at h;have:HA 0 8 7 0 fun(b:Int)(_:Unit)=>[(8,.tv (eI b))]:=⟨⟩;exact nz)
instance AAV(a:Int):Ct prog (cmp_isNaN_int a) 323 [eI a] (fun r=>.sh (eB r)):=Fj f323 0xb8018d01 [] [.tmp 2] (h:=fun r h b c=>by
  unfold cmp_isNaN_int at h;exact nz)
instance AA4(a:Int)(y:Int):Ct prog (cmp_Compare_int a y) 365 [eI a,eI y] (fun r=>.sh (eI r)):=Fj f365 0xb5853155853155b55581a80e5fa5bb [] [.tmp 4] (h:=fun r h b c=>by
  unfold cmp_Compare_int at h;exact nz)
instance ABD(a:Int):Ct prog (Is a) 379 [Jh a] (fun r=>.sh (eB r)):=Fj f379 0xb8018d01 [] [.tmp 2] (h:=fun r h b c=>by
  unfold Is at h;exact nz)
instance AA5(a:Int)(y:Int):Ct prog (HL a y) 366 [Jh a,Jh y] (fun r=>.sh (eI r)):=Fj f366 0xb5853155853155b55581a80e5fa5bb [] [.tmp 4] (h:=fun r h b c=>by
  unfold HL at h;exact nz)
theorem vF(l:Fp)(m:Int)(r:Fp)(h:Dk l m=some r):AQ prog 191 [lI l,eI m] (.own (lI r)):=by
  unfold Dk at h;split at h
  · rename_i a
    cases h;obtain⟨x,rfl⟩:=List.length_eq_one_iff.1 a.1;obtain⟨k,rfl⟩:=Int.eq_ofNat_of_zero_le a.2.1;exact Za x k (by have:=a.2.2;omega)
  .cases h
instance ABV(l:Fp)(m:Int):Ct Go.Proofs.Tryz.prog (Dk l m) 191 [lI l,eI m] (fun r=>.own (lI r)):=⟨vF l m⟩
instance xb(c:List BY)(b:List BY):Ct prog (Eo c b) 168 [lE c,lE b] (fun r=>.sh (eB r)):=Fj f168 0xa6baadd6bfd84331d84331816965baad970155ec010b01bb [.bin (.a [0,0,0]) .neq (.s 19) (.s 23)] [.tmp 4] (h:=fun r h e f=>by
  unfold Eo at h;have:HA 0 13 12 0 fun(d:Int)(_:Unit)=>[(13,.tv (eI d))]:=⟨⟩;exact nz)
instance yn(c:List CI)(b:List CI):Ct prog (F6 c b) 230 [lS c,lS b] (fun r=>.sh (eB r)):=Fj f230 0xa6baadd6bff6f431f6f431816965baad970155ec010b01bb [.bin (.a [0,0,0,0]) .neq (.s 19) (.s 23)] [.tmp 4] (h:=fun r h e f=>by
  unfold F6 at h;have:HA 0 13 12 0 fun(d:Int)(_:Unit)=>[(13,.tv (eI d))]:=⟨⟩;exact nz)
instance yo(c:List Test)(b:List Test):Ct prog (F7 c b) 231 [lT c,lT b] (fun r=>.sh (eB r)):=Fj f231 0xa6baadd6bf9a05439144054331816965baad970155ec010b01bb [.bin (.a [0,0,0,0,0]) .neq (.s 19) (.s 23)] [.tmp 4] (h:=fun r h e f=>by
  unfold F7 at h;have:HA 0 13 12 0 fun(d:Int)(_:Unit)=>[(13,.tv (eI d))]:=⟨⟩;exact nz)
instance yp(d:List ea)(a:List ea)(f:ea->ea->K1)(c:FuncId)(b:Fq)[j:∀(g:ea)(e:ea),Ct prog (f g e) c (AH g::AH e::b) (fun r=>.sh (eB r))]:Ct prog (DA d a f) 232 [DD d,DD a,.clo c b] (fun r=>.sh (eB r)):=Fj f232 0xa611100f0258d6880fb2b201094b0bc9b2094331094b810bc9b20943696511100f025897b5ec010b3102c6 [] [.tmp 6] (h:=fun r h k l=>by
  unfold DA at h;have:HA 0 17 16 0 fun(i:Int)(_:Unit)=>[(17,.tv (eI i))]:=⟨⟩;exact nz)
instance xc(d:List Fp)(a:List Fp)(f:Fp->Fp->K1)(c:FuncId)(b:Fq)[j:∀(g:Fp)(e:Fp),Ct prog (f g e) c (lI g::lI e::b) (fun r=>.sh (eB r))]:Ct prog (Ek d a f) 169 [(eL 1 lI) d,(eL 1 lI) a,.clo c b] (fun r=>.sh (eB r)):=Fj f169 0xa611100f0258d6880f013182e882fc696511100f025897b5ec010b3102c6 [] [.tmp 6] (h:=fun r h k l=>by
  unfold Ek at h;have:HA 0 17 16 0 fun(i:Int)(_:Unit)=>[(17,.tv (eI i))]:=⟨⟩;exact nz)
end Go.Sf.Sc
