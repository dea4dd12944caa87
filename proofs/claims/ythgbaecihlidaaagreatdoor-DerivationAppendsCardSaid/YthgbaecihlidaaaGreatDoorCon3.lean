/- Contracts of the functions. -/
import Derived.Test.YthgbaecihlidaaaGreatDoorCon0
import Derived.Test.YthgbaecihlidaaaGreatDoorCon1
import Derived.Test.YthgbaecihlidaaaGreatDoorCon2
import Derived.Test.YthgbaecihlidaaaGreatDoorTryzShelf
import Derived.Test.YthgbaecihlidaaaGreatDoorFo
set_option linter.all false
set_option maxRecDepth 100000
set_option maxHeartbeats 4000000
namespace Go.Sf.Sc
open Go Go.Sf Go.Proofs.Tryz
instance vO(t:ej)(a:hO)(b:gt)(m:AS):CT (Ge t a b m) 115 [AN t,CP a,Cw b,CX m] (fun r=>.tp [SA r.1,eI r.2]):=Fk f115 0x81264b26440f3e36264b0f468a63845b1f42380b6c5b1f4236264b010fec0152ab523737024a244204460edf8422428432840d42840b420b845bb70ecf6c2242bd6c0d426c0b420b6c5bb7024a224204460e5c0b84320e550bbd3f12c91046e6e6d836264b0f46880136264b010f4685308197030f426a6a9d10428db23736264b010f4685309607c9726d32370b42e03736264b010fec96e3726d32e0375bb23736264b010fece66ad8ab11c9629a [.stq 38 [none,none,none,none,none,none,none,none,none,none,none,none,none,none,none,none,none,none,none,none,none,none,none,none,none,none,none,none,none,none,none,some ⟨true,.list 1 []⟩,some ⟨true,.list 3 []⟩,some ⟨true,.xn []⟩,none,none,none,none] (.s 15) (.s 82)] [.cell 8 (some 38),.tmp 9] fun r h c d=>by
  unfold Ge at h;exact nz
instance c66(t:ej)(a:hO)(b:gt):CT (E6 t a b) 66 [AN t,CP a,Cw b] (fun r=>.tp [(eL 3 CX) r.1,eI r.2]):=Fj f66 0x81f00b012625240b600307752625240b6003072625240b6003073c02034803476a0264264b1149976a6ad837a210c9d7430bdb2625240b600307f703c03603c070eb030f426a8db2373603c070e6d8ab0340e4 [] fun h=>by
  unfold E6 at h;have:HA 0 38 37 0 fun(c:Int)(d:List AS)=>[(11,.ow ((eL 3 CX) d)),(38,.tv (eI c))]:=⟨⟩;exact nz
instance zh(t:ej)(a:List hO)(b:gt):CT (DR t a b) 29 [AN t,(eL 25 CP) a,Cw b] (fun r=>.tp [(eL 4 HU) r.1,eI r.2]):=Fj f29 0x81f0080111100f0805d57511100f0805d522212011100f090805030a75020448044711466ab8a210c9d74311100f0805d56122212011100f090805030af73604c070eb6ad837194b810cc9d8195f08db11100f0805d5f704c0fd406230 [] fun h=>by
  unfold DR at h;have:HA 0 17 16 0 fun(c:Int)(d:List By)=>[(8,.ow ((eL 4 HU) d)),(17,.tv (eI c))]:=⟨⟩;have:HA 2 34 33 0 fun(e:Int)(f:List By)=>[(8,.ow ((eL 4 HU) f)),(34,.tv (eI e))]:=⟨⟩;exact nz
instance c67(t:ej)(a:hO)(b:gt)(m:AS):CT (Hn t a b m) 67 [AN t,CP a,Cw b,CX m] (fun r=>.tp [SA r.1,eI r.2]):=Fk f67 0x81264b6be66ad83736264b010fece6d8ab11c9629a [] [.cell 8 (some 38),.tmp 9] fun r h c d=>by
  unfold Hn at h;exact nz
instance zi(t:ej)(a:List hO)(b:gt)(m:By):CT (DA t a b m) 30 [AN t,(eL 25 CP) a,Cw b,HU m] (fun r=>.tp [SA r.1,eI r.2]):=Fk f30 0x8013b81264b6be6b26ad819437e3736264b0f468a6301f47e11c9936230 [] [.cell 8 (some 38),.tmp 9] fun r h c d=>by
  unfold DA at h;exact nz
instance c7(t:ej)(b:List hO)(d:gt)(a:Fp):CT (DK t b d a) 7 [AN t,(eL 25 CP) b,Cw d,lI a] (fun r=>.tp [DG r.1,eI r.2]):=Fk f7 0x81bab10b08022423220b0806040108751106023ba2c8034203591f5a04480447045804034236ba0112468501123d01264b11c997b16ad4ba14c9b1d90538380130ff0b0802640b0136ba0112eceb6ad4816f0b0802612423220b0806040108f7045013c93fe636ba1246850b0136ba0112ece601ab13c9bf933102 [.AbF (.s 2),.Aaz [.v (.s 32) 0 3,.v (.s 32) 1 3,.v (.s 32) 2 3,.z ⟨true,.list 4 []⟩]] [.cell 8 (some 4),.tmp 9] fun r h f g=>by
  unfold DK at h;have:HA 0 36 35 0 fun(e:Int)(c:gt×AP×AP)=>[(6,.bx [⟨false,lI c.1.d6.d5⟩,⟨false,lE c.1.d6.d7⟩,⟨false,(eL 1 lI) c.1.gp⟩]),(8,.bx [⟨true,lI c.2.1.kp.d6.d5⟩,⟨true,lE c.2.1.kp.d6.d7⟩,⟨true,(eL 1 lI) c.2.1.kp.gp⟩,⟨true,(eL 4 HU) c.2.1.j4⟩]),(11,.bx [⟨false,lI c.2.2.kp.d6.d5⟩,⟨false,lE c.2.2.kp.d6.d7⟩,⟨false,(eL 1 lI) c.2.2.kp.gp⟩,⟨true,(eL 4 HU) c.2.2.j4⟩]),(36,.tv (eI e))]:=⟨⟩;exact nz
instance c8(t:ej)(a:List hO)(d:AP):CT (DL t a d) 8 [AN t,(eL 25 CP) a,DG d] (fun r=>.tp [(eL 38 SA) r.1,eI r.2.1,eI r.2.2]):=Fj f8 0x7f820bb80a0121201f0b0a3107750b013ba2026a1f4226482647264402b526c03064264b11c997b16ad4ba8114c9b1b90adb21201f0b0a3107c50342a20dc96a3226c0b526c0850ba8b526c070e632d43026406230 [] fun h=>by
  unfold DL at h;have:HA 0 33 32 0 fun(c:Int)(b:List A9×gt)=>[(10,.ow ((eL 38 SA) b.1)),(11,.bx [⟨false,lI b.2.d6.d5⟩,⟨false,lE b.2.d6.d7⟩,⟨false,(eL 1 lI) b.2.gp⟩]),(33,.tv (eI c))]:=⟨⟩;exact nz
instance vP(n:Int):CT (Ff n) 116 [eI n] (fun r=>.own (lI r)):=Fj f116 0x82183109087375e9301481013161090873819514993f30400001 [.mkx 1 [.int .i64 0] (.s 5)] fun h=>by
  unfold Ff at h;have:HA 0 9 8 0 fun(b:Int)(a:Fp)=>[(3,.xo 1 (List.map eI a)),(9,.tv (eI b))]:=⟨⟩;exact nz
instance c68(g:d6):CT (E9 g) 68 [A8 g] (fun r=>.tp [Bm r.1,eI r.2]):=Fk f68 0x903b819604460edf0ecf3696feece107c99b [] [.cell 2 (some 2),.tmp 3] fun r h a b=>by
  unfold E9 at h;exact nz
instance zm(g:d6):CT (DQ g) 34 [A8 g] (fun r=>.sh (Bm r)):=Fk f34 0x96ab9607c9726d07c99b [] [.cell 2 (some 2)] fun r h a b=>by
  unfold DQ at h;exact nz
instance zp(l:Fp)(a:Fp):CT (FZ l a) 35 [lI l,lI a] (fun r=>.own (lI r)):=Fj f35 0x8218ad0c0b7838750c0b78380c0b78383ce9803014648117d138db0c0b7838819594991a30406502 [] fun h=>by
  unfold FZ at h;have:HA 0 12 11 0 fun(c:Int)(b:Fp)=>[(5,.xo 1 (List.map eI b)),(12,.tv (eI c))]:=⟨⟩;exact nz
instance zQ(t:ej)(a:List hO)(d:AP):CT (C9 t a d) 12 [AN t,(eL 25 CP) a,DG d] (fun r=>.tp [Cw r.1,Bm r.2.1,eI r.2.2]):=Fk f12 0x76023b8196a237e6da7604252423da7607750c013b96a204460e8422425c0e6c2242556a1f42264b11c926442643da760461252423da7607f796a207c90dc96d5b326a323696a2fe4613ec01821197b101ab07c90dc96230 [] [.cell 6 (some 3),.cell 7 (some 2),.tmp 8] fun r h e f=>by
  unfold C9 at h;have:HA 0 37 36 0 fun(c:Int)(b:gt×eb)=>[(12,.bx [⟨false,lI b.1.d6.d5⟩,⟨false,lE b.1.d6.d7⟩,⟨false,(eL 1 lI) b.1.gp⟩]),(13,.bx [⟨false,lI b.2.d5⟩,⟨false,lI b.2.d7⟩]),(37,.tv (eI c))]:=⟨⟩;exact nz
instance c73(n:Int)(a:Int):CT (GX n a) 73 [eI n,.pt [eI a]] rB:=Fj f73 0xf874319f [] fun h=>by
  unfold GX at h;exact nz
instance zv(l:Fp)(a:Int):CT (Ci l a) 39 [lI l,eI a] rB:=Fj f39 0x810e10309b01 [] fun h=>by
  unfold Ci at h;exact nz
instance zw(l:Fp):CT (Dj l) 42 [lI l] (fun r=>.sh (eS r)):=Fj f42 0x813f0131e5aa75e5aa3c01063ffbe5aa3c01063f0e0930646f3161e5aaf7bf3f0001 [.mv (.c (.str ⟨#[]⟩)),.mv (.c (.str ⟨#[40]⟩)),.bin (.s) .add (.c (.str ⟨#[32,45,32]⟩)) (.s 17),.bin (.s) .add (.c (.str ⟨#[32]⟩)) (.s 22),.bin (.s) .add (.s 26) (.c (.str ⟨#[32,41]⟩))] fun h=>by
  unfold Dj at h;have:HA 0 8 7 0 fun(b:Int)(a:ByteArray)=>[(3,.tv (eS a)),(8,.tv (eI b))]:=⟨⟩;exact nz
instance i16(d:AP):Ct Go.Proofs.Tryz.prog (H6 d) 16 [DG d] (fun r=>.tp [eS r.1,eI r.2]):=⟨X6 (fun l low b h=>(inferInstance:Ct _ (Ci l low) _ _ fun r=>.sh (eB r)).snd b h) (fun i s h=>(inferInstance:Ct _ (strconv_Itoa i) _ _ fun r=>.sh (eS r)).snd s h) (fun l s h=>(inferInstance:Ct _ (Dj l) _ _ fun r=>.sh (eS r)).snd s h) d⟩
instance zl(m:AS):CT (Fa m) 33 [CX m] (fun r=>.sh (CX r)):=Fk f33 0x903ba208460e9e04460e84320ebd10c99b [] [.cell 2 (some 3)] fun r h a b=>by
  unfold Fa at h;exact nz
instance zk(d:AP):CT (Dk d) 32 [DG d] (fun r=>.oag [⟨false,lI r.kp.d6.d5⟩,⟨false,lE r.kp.d6.d7⟩,⟨false,(eL 1 lI) r.kp.gp⟩,⟨true,(eL 4 HU) r.j4⟩]):=Fk f32 0x45004535702da0bd675c803420448044711460e0359015acc5a040342053dba14c9b1d9570261da0bd6c50342045013c93fe63213c99b [.Aaz [.v (.s 8) 0 3,.v (.s 8) 1 3,.v (.s 8) 2 3,.z ⟨true,.list 4 []⟩]] [.cell 2 (some 4)] fun r h c e=>by
  unfold Dk at h;have:HA 0 13 12 0 fun(b:Int)(a:AP)=>[(3,.bx [⟨false,lI a.kp.d6.d5⟩,⟨false,lE a.kp.d6.d7⟩,⟨false,(eL 1 lI) a.kp.gp⟩,⟨true,(eL 4 HU) a.j4⟩]),(13,.tv (eI b))]:=⟨⟩;exact nz
instance zN(t:ej)(a:List hO)(d:AP)(m:By):CT (GP t a d m) 10 [AN t,(eL 25 CP) a,DG d,HU m] (fun r=>.tp [DG r.1,eI r.2]):=Fk f10 0x81bab1c803420448044711460e0359015acc5a040342045013c91bb136ba0112ec264b114997b16ad4ff36ba12468163a881ba011246a75d96a207490dc91197b101ab13c9936230 [] [.cell 8 (some 4),.tmp 9] fun r h b c=>by
  unfold GP at h;exact nz
end Go.Sf.Sc
