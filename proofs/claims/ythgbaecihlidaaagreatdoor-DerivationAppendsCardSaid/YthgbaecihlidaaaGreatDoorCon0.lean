/- Contracts of the functions. -/
import Derived.Test.YthgbaecihlidaaaGreatDoorShort
import Derived.Test.YthgbaecihlidaaaGreatDoorFo
import Derived.Test.YthgbaecihlidaaaGreatDoorTryzShelf
set_option linter.all false
set_option maxRecDepth 100000
set_option maxHeartbeats 4000000
namespace Go.Sf.Sc
open Go Go.Sf Go.Proofs.Tryz
instance AAg(b:List ByteArray)(a:ByteArray):CT (slices_Index_string b a) 303 [lB b,eS a] rI:=Fj f303 0x91f375f2868030816561f37cde [] fun h=>by
  unfold slices_Index_string at h;have:HA 0 8 7 0 fun(c:Int)(_:Unit)=>[(8,.tv (eI c))]:=⟨⟩;exact nz
instance z6(b:List ByteArray)(a:ByteArray):CT (slices_Contains_string b a) 258 [lB b,eS a] rB:=Fj f258 0xa7fb9f [] fun h=>by
  unfold slices_Contains_string at h;exact nz
theorem wM(s:ByteArray)(c:Int)(r:Int)(h:strings_IndexByte s c=some r):AM prog 265 [eS s,Gt c] (.sh (eI r)):=by
  unfold strings_IndexByte at h;cases h;exact p7 (by rfl) ⟨Go.Lib.indexByte_ge _ _,p6 _ _⟩ (fun w=>Go.Proofs.Tryz.strings_IndexByte s c w)
instance AA9(s:ByteArray)(c:Int):Ct Go.Proofs.Tryz.prog (strings_IndexByte s c) 265 [eS s,Gt c] (fun r=>.sh (eI r)):=⟨wM s c⟩
instance y9(c:List BL)(f:BL->K1)(b:FuncId)(a:Fq)[g:∀(d:BL),CT (f d) b (Ic d::a) rB]:CT (Cr c f) 207 [lN c,.clo b a] rI:=Fj f207 0x91f375f28fb1b930816561f37cde [] fun h=>by
  unfold Cr at h;have:HA 0 8 7 0 fun(e:Int)(_:Unit)=>[(8,.tv (eI e))]:=⟨⟩;exact nz
instance xr(c:List BL)(f:BL->K1)(b:FuncId)(a:Fq)[e:∀(d:BL),CT (f d) b (Ic d::a) rB]:CT (CE c f) 139 [lN c,.clo b a] rB:=Fj f139 0xa7fb9f [] fun h=>by
  unfold CE at h;exact nz
instance zy(c:List mh)(f:mh->K1)(b:FuncId)(a:Fq)[g:∀(d:mh),CT (f d) b (HV d::a) rB]:CT (Dd c f) 257 [lA c,.clo b a] rI:=Fj f257 0x91f375f28fb1b930816561f37cde [] fun h=>by
  unfold Dd at h;have:HA 0 8 7 0 fun(e:Int)(_:Unit)=>[(8,.tv (eI e))]:=⟨⟩;exact nz
instance zA(c:List mh)(f:mh->K1)(b:FuncId)(a:Fq)[e:∀(d:mh),CT (f d) b (HV d::a) rB]:CT (Ca c f) 208 [lA c,.clo b a] rB:=Fj f208 0xa7fb9f [] fun h=>by
  unfold Ca at h;exact nz
instance zE(c:List CB)(f:CB->K1)(b:FuncId)(a:Fq)[g:∀(d:CB),CT (f d) b (Jy d::a) rB]:CT (Cq c f) 211 [lX c,.clo b a] rI:=Fj f211 0x91f375f28f0744075f30816561f37cde [] fun h=>by
  unfold Cq at h;have:HA 0 8 7 0 fun(e:Int)(_:Unit)=>[(8,.tv (eI e))]:=⟨⟩;exact nz
instance xy(c:List CB)(f:CB->K1)(b:FuncId)(a:Fq)[e:∀(d:CB),CT (f d) b (Jy d::a) rB]:CT (CD c f) 144 [lX c,.clo b a] rB:=Fj f144 0xa7fb9f [] fun h=>by
  unfold CD at h;exact nz
instance xS(c:Fp)(f:Int->K1)(b:FuncId)(a:Fq)[g:∀(d:Int),CT (f d) b (eI d::a) rB]:CT (Ck c f) 117 [lI c,.clo b a] rI:=Fj f117 0x91f375f28f8030816561f37cde [] fun h=>by
  unfold Ck at h;have:HA 0 8 7 0 fun(e:Int)(_:Unit)=>[(8,.tv (eI e))]:=⟨⟩;exact nz
instance c72(c:Fp)(f:Int->K1)(b:FuncId)(a:Fq)[e:∀(d:Int),CT (f d) b (eI d::a) rB]:CT (Ay c f) 72 [lI c,.clo b a] rB:=Fj f72 0xa7fb9f [] fun h=>by
  unfold Ay at h;exact nz
instance zH(c:List Bc)(f:Bc->K1)(b:FuncId)(a:Fq)[g:∀(d:Bc),CT (f d) b (CG d::a) rB]:CT (De c f) 213 [lE c,.clo b a] rI:=Fj f213 0x91f375f28fd75f30816561f37cde [] fun h=>by
  unfold De at h;have:HA 0 8 7 0 fun(e:Int)(_:Unit)=>[(8,.tv (eI e))]:=⟨⟩;exact nz
instance yD(c:List Bc)(f:Bc->K1)(b:FuncId)(a:Fq)[e:∀(d:Bc),CT (f d) b (CG d::a) rB]:CT (BV c f) 149 [lE c,.clo b a] rB:=Fj f149 0xa7fb9f [] fun h=>by
  unfold BV at h;exact nz
instance zW(a:List ByteArray):CT (slices_Clone_string a) 227 [lB a] (fun r=>.own (lB r)):=Fj f227 0x8201483047ff01c09c30400001 [] fun h=>by
  unfold slices_Clone_string at h;exact nz
instance zJ(b:ae)(a:Bool):CT (IC b a) 215 [(eL 1 eB) b,eB a] rI:=Fj f215 0x91f375f2878030816561f37cde [] fun h=>by
  unfold IC at h;have:HA 0 8 7 0 fun(c:Int)(_:Unit)=>[(8,.tv (eI c))]:=⟨⟩;exact nz
instance yI(b:ae)(a:Bool):CT (E7 b a) 154 [(eL 1 eB) b,eB a] rB:=Fj f154 0xa7fb9f [] fun h=>by
  unfold E7 at h;exact nz
instance AAF(c:List Bv)(f:Bv->K1)(b:FuncId)(a:Fq)[g:∀(d:Bv),CT (f d) b (Fu d::a) rB]:CT (Df c f) 267 [lS c,.clo b a] rI:=Fj f267 0x91f375f28fb1b930816561f37cde [] fun h=>by
  unfold Df at h;have:HA 0 8 7 0 fun(e:Int)(_:Unit)=>[(8,.tv (eI e))]:=⟨⟩;exact nz
instance zN(c:List Bv)(f:Bv->K1)(b:FuncId)(a:Fq)[e:∀(d:Bv),CT (f d) b (Fu d::a) rB]:CT (CJ c f) 218 [lS c,.clo b a] rB:=Fj f218 0xa7fb9f [] fun h=>by
  unfold CJ at h;exact nz
instance c64(a:Fp):CT (slices_Clone_int a) 64 [lI a] (fun r=>.own (lI r)):=Fj f64 0x8201483047ff01c09c30400001 [] fun h=>by
  unfold slices_Clone_int at h;exact nz
theorem wI(l:Fp)(x:Int)(r:Int×Bool)(h:slices_BinarySearch_int l x=some r):AM prog 221 [lI l,eI x] (.tp [eI (r.1),eB (r.2)]):=by
  unfold slices_BinarySearch_int at h;split at h
  · rename_i d
    cases h;have g:=d.1;unfold At at g;refine ft (by rfl) d.1 d.2 (fun a c w i=>?_) (fun b e c w f=>Go.Proofs.Tryz.slices_BinarySearch_int b e l.length c l x w (bk _) (by omega) f (by rw[List.take_length];exact d.2));exact Go.Proofs.Tryz.slices_BinarySearch_int_empty a c x w
  .cases h
instance AA6(l:Fp)(x:Int):Ct Go.Proofs.Tryz.prog (slices_BinarySearch_int l x) 221 [lI l,eI x] (fun r=>.tp [eI (r.1),eB (r.2)]):=⟨wI l x⟩
theorem wN(l r:Fp)(h:slices_Sort_int l=some r):AM prog 271 [.list 1 (l.map (TV.int .i64))] (.turn r []):=by
  unfold slices_Sort_int at h;rw[<-ig]at h;split at h
  · rename_i e
    unfold At at e;cases h;refine eU (by rfl) (List.length_mergeSort _) (fun x a=>List.mem_mergeSort.1 a) (fun w b=>?_) (fun g cap w _ _ c d=>Go.Proofs.Tryz.slices_Sort_int g 0 cap l w d c (by omega));subst b;exact Go.Proofs.Tryz.slices_Sort_int_none none 0 w
  .cases h
instance ABA(l:Fp):Ct Go.Proofs.Tryz.prog (slices_Sort_int l) 271 [.list 1 (l.map (TV.int .i64))] (fun r=>.turn r []):=⟨wN l⟩
theorem wO(l r:Fp)(h:slices_Compact_int l=some r):AM prog 272 [.list 1 (l.map (TV.int .i64))] (.cut r):=by
  unfold slices_Compact_int at h;split at h
  · rename_i e
    unfold At at e;cases h;have f:=Go.Lib.compact_length_le l;refine pf (rest:=List.replicate (l.length-(Go.Lib.compact l).length) 0) (by rfl) (by rw[List.length_replicate];omega) (fun x a=>ZU a) (fun w b=>?_) (fun g cap w c _ i d=>Go.Proofs.Tryz.slices_Compact_int g 0 cap l w d (by omega) c);subst b;exact Go.Proofs.Tryz.slices_Compact_int_empty none 0 w
  .cases h
instance ABB(l:Fp):Ct Go.Proofs.Tryz.prog (slices_Compact_int l) 272 [.list 1 (l.map (TV.int .i64))] Az.cut:=⟨wO l⟩
instance AAH(b:Fp)(a:Int):CT (slices_Index_int b a) 273 [lI b,eI a] rI:=Fj f273 0x91f375f2858030816561f37cde [] fun h=>by
  unfold slices_Index_int at h;have:HA 0 8 7 0 fun(c:Int)(_:Unit)=>[(8,.tv (eI c))]:=⟨⟩;exact nz
instance zS(b:Fp)(a:Int):CT (slices_Contains_int b a) 223 [lI b,eI a] rB:=Fj f223 0xa7fb9f [] fun h=>by
  unfold slices_Contains_int at h;exact nz
theorem wP(l r:Fp)(h:slices_Reverse_int l=some r):AM prog 278 [.list 1 (l.map (TV.int .i64))] (.turn r []):=by
  unfold slices_Reverse_int at h;split at h
  · rename_i d
    unfold At at d;cases h;refine eU (by rfl) List.length_reverse (fun x a=>List.mem_reverse.1 a) (fun w b=>?_) (fun g cap w _ _ j c=>(Go.Proofs.Tryz.slices_Reverse_int g 0 cap l w c (by omega)).mono ?_)
    · subst b
      exact Go.Proofs.Tryz.slices_Reverse_int_empty none 0 w
    · rintro e w' ⟨f,q,i⟩
      exact ⟨f,q,#[],by rw[Go.Sort.grow_empty];exact i⟩
  .cases h
instance ABC(l:Fp):Ct Go.Proofs.Tryz.prog (slices_Reverse_int l) 278 [.list 1 (l.map (TV.int .i64))] (fun r=>.turn r []):=⟨wP l⟩
instance AAl(c:List ea)(f:ea->K1)(b:FuncId)(a:Fq)[g:∀(d:ea),CT (f d) b (AI d::a) rB]:CT (Cg c f) 311 [El c,.clo b a] rI:=Fj f311 0x91f375f28f9d095f30816561f37cde [] fun h=>by
  unfold Cg at h;have:HA 0 8 7 0 fun(e:Int)(_:Unit)=>[(8,.tv (eI e))]:=⟨⟩;exact nz
instance AAJ(c:List ea)(f:ea->K1)(b:FuncId)(a:Fq)[e:∀(d:ea),CT (f d) b (AI d::a) rB]:CT (Bs c f) 275 [El c,.clo b a] rB:=Fj f275 0xa7fb9f [] fun h=>by
  unfold Bs at h;exact nz
instance c65(a:List Bc):CT (DM a) 65 [lE a] (fun r=>.own (lE r)):=Fj f65 0x820348fe47ff03c09cfe400001 [] fun h=>by
  unfold DM at h;exact nz
theorem wR(a b c:Int)(r:Int×Int)(h:Hg a b c=some r):AM prog 315 [Hx a,Hx b,Hx c] (.ext [Hx (r.1),Hx (r.2)]):=by
  unfold Hg at h;split at h
  · rename_i d
    cases h;obtain⟨⟨a0,a1⟩,⟨e,g⟩,f,i⟩:=d;intro _;refine⟨⟨rfl,?_⟩,fun w vs hv=>?_⟩
    · simp only[Hx,TV.tn,TV.WF,IntKind.min,IntKind.max,IntKind.signed,IntKind.bits,and_true]
      simp only[Bool.false_eq_true,if_false];refine⟨⟨by omega,?_⟩,by omega,?_⟩
      · have:(2:Int)^ 64=18446744073709551616:=by decide
        omega
      · have:(2:Int)^ 64=18446744073709551616:=by decide
        omega
    · obtain⟨x,rfl⟩:=Int.eq_ofNat_of_zero_le a0
      obtain ⟨y,rfl⟩:=Int.eq_ofNat_of_zero_le e;obtain⟨z,rfl⟩:=Int.eq_ofNat_of_zero_le f;have:=Go.Proofs.Any7.bits_Add64 Go.Proofs.Tryz.lays7n25 x y z (by omega) w;obtain⟨l⟩:=vs;simp only[Hx,AL,AX]at hv;obtain⟨j,k,rfl,rfl,m,n,rfl,rfl,o,p,rfl,rfl,rfl⟩:=hv;refine⟨_,this,?_⟩;simp only[Hx,AL,AX];exact⟨_,_,rfl,by simp,_,_,rfl,by simp,rfl⟩
  .cases h
instance ABE(a b c:Int):Ct Go.Proofs.Tryz.prog (Hg a b c) 315 [Hx a,Hx b,Hx c] (fun r=>.ext [Hx (r.1),Hx (r.2)]):=⟨wR a b c⟩
instance AAQ(a:Fp):CT (L8 a) 283 [lI a] rI:=Fj f283 0x810131e5aa75f28530816f3161e5aa7c7f6501 [] fun h=>by
  unfold L8 at h;have:HA 0 8 7 0 fun(b:Int)(_:Unit)=>[(8,.tv (eI b))]:=⟨⟩;exact nz
instance AAk(a:Int):CT (cmp_isNaN_int a) 308 [eI a] rB:=Fj f308 0xa701f1 [] fun h=>by
  unfold cmp_isNaN_int at h;exact nz
instance AAR(a:Int)(y:Int):CT (cmp_Compare_int a y) 284 [eI a,eI y] rI:=Fj f284 0x81ac30ac30b536b57f0e5d0ede [] fun h=>by
  unfold cmp_Compare_int at h;exact nz
instance AAp(a:Int):CT (Io a) 316 [Hx a] rB:=Fj f316 0xa701f1 [] fun h=>by
  unfold Io at h;exact nz
instance AAS(a:Int)(y:Int):CT (HQ a y) 285 [Hx a,Hx y] rI:=Fj f285 0x81ac30ac30b536b57f0e5d0ede [] fun h=>by
  unfold HQ at h;exact nz
instance c17(a:Fp)(b:Fp):CT (slices_Equal_int a b) 17 [lI a,lI b] rB:=Fj f17 0x91dacb75acefef816561dacb7c01ac0b010bde [] fun h=>by
  unfold slices_Equal_int at h;have:HA 0 13 12 0 fun(c:Int)(_:Unit)=>[(13,.tv (eI c))]:=⟨⟩;exact nz
theorem wJ(l:Fp)(m:Int)(r:Fp)(h:D6 l m=some r):AM prog 242 [lI l,eI m] (.own (lI r)):=by
  unfold D6 at h;split at h
  · rename_i a
    cases h;obtain⟨x,rfl⟩:=List.length_eq_one_iff.1 a.1;obtain⟨k,rfl⟩:=Int.eq_ofNat_of_zero_le a.2.1;exact Yw x k (by have:=a.2.2;omega)
  .cases h
instance AA7(l:Fp)(m:Int):Ct Go.Proofs.Tryz.prog (D6 l m) 242 [lI l,eI m] (fun r=>.own (lI r)):=⟨wJ l m⟩
theorem w6(i:Int)(r:ByteArray)(h:strconv_Itoa i=some r):AM prog 41 [eI i] (.sh (eS r)):=by
  unfold strconv_Itoa at h;split at h
  · rename_i hi
    cases h;obtain⟨k,rfl⟩:=Int.eq_ofNat_of_zero_le hi.1;have a:k<100:=by have:=hi.2;omega
    show AM prog 41 [eI (k:Int)] (.sh (eS (br k)));refine mq (by rfl) (by have:=bu k;unfold Gc;omega) fun w=>?_;have:=Go.Proofs.Tryz.strconv_Itoa_small k a w;rw[ii k a]at this;exact this
  .cases h
instance i41(i:Int):Ct Go.Proofs.Tryz.prog (strconv_Itoa i) 41 [eI i] (fun r=>.sh (eS r)):=⟨w6 i⟩
end Go.Sf.Sc
