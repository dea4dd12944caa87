/- Contracts of the functions. -/
import Derived.Test.YthgbaecihlidaaaGreatDoorCon0
import Derived.Test.YthgbaecihlidaaaGreatDoorCon4
import Derived.Test.YthgbaecihlidaaaGreatDoorTryzShelf
import Derived.Test.YthgbaecihlidaaaGreatDoorFo
set_option linter.all false
set_option maxRecDepth 100000
set_option maxHeartbeats 4000000
namespace Go.Sf.Sc
open Go Go.Sf Go.Proofs.Tryz
instance zX(t:ej)(d:Do):CT (Mc t d) 20 [AN t,IK d] (fun r=>.sh (CP r)):=Fk f20 0x194bd8ff194b0ed8830842094a10420eb10a428dab4a0241b70e030742a8375bb737024a0d4204460145df30450b7e024a5bb79704463037054ab72546a882820e030e42df0e030e42cf96e30e0f4437ab96960749e311726d0b42e0194b0cc93f0eaa42e00309428dd309c90eb132370cc99a [.bld [.str ⟨#[]⟩,.list 1 [],.list 3 [],.list 4 [],.int .i64 0,.list 5 [],.list 1 [],.list 3 [],.list 4 [],.int .i64 0,.list 5 [],.list 1 [],.list 1 [],.list 1 [],.list 1 [],.bool false,.int .i64 0,.list 9 [],.list 1 [],.list 1 [],.list 1 [],.list 3 [],.list 4 [],.int .i64 0,.list 5 []] [(0,1,.c (.str ⟨#[114]⟩)),(1,5,.s 17),(15,1,.s 19),(11,2,.s 24)]] [.cell 4 (some 25)] fun r h a b=>by
  unfold Mc at h;exact nz
instance c53(t:ej):CT (KZ t) 53 [AN t] (fun r=>.own (lI r)):=Fj f53 0xf0310431be0431aa31033c90d2b888eeb955318c7e0431c201c001409b [] fun h=>by
  unfold KZ at h;have:HA 0 4 1 0 fun(b:Int)(a:Fp)=>[(3,.ow (lI a)),(4,.tv (eI b))]:=⟨⟩;exact nz
instance zY(t:ej)(d:H0):CT (MU t d) 21 [AN t,SB d] (fun r=>.sh (Cw r)):=Fk f21 0xa26a60020e0de86e0e0de80e0de83cc8014132034803476a040141328e6f9ebd6f5cbd5537a2ea0546adb6b6c6adb6b6c6d0b6b6c66002ff8a63a1783078eda10e0de87f0bbda60476e86ec8f94a5b3201d2fdf9d2fd5b320be5a6080c0b09e5a60a6e90d20505050584d930eed974adb63f025f5584d930020be5a608fa0c0b09e5a60a8182b301ebd4816f6301b63f025ff4045704ff8a633078ed7e76e881826d0dc90dc99a [.aad (.s 38) (.c (.int .i64 0)) 1 2,.cvt .i64 (.s 40),.aad (.s 69) (.c (.int .i64 1)) 1 2,.cvt .i64 (.s 71),.aad (.s 134) (.c (.int .i64 0)) 1 3,.cvt .i64 (.s 136),.aad (.s 145) (.c (.int .i64 1)) 1 3,.cvt .i64 (.s 147),.aad (.s 154) (.c (.int .i64 2)) 1 3,.cvt .i64 (.s 156)] [.cell 4 (some 3)] fun r h g i=>by
  unfold MU at h;have:HW 0 fun(a:gt×Int)=>[(5,.bx [⟨true,lI a.1.d6.d5⟩,⟨true,lE a.1.d6.d7⟩,⟨true,(eL 1 lI) a.1.gp⟩]),(7,.tv (eI a.2))]:=⟨⟩;have:HA 2 12 9 0 fun(f:Int)(e:Fp)=>[(11,.ow (lI e)),(12,.tv (eI f))]:=⟨⟩;have:HW 4 fun(b:gt×Int)=>[(5,.bx [⟨true,lI b.1.d6.d5⟩,⟨true,lE b.1.d6.d7⟩,⟨true,(eL 1 lI) b.1.gp⟩]),(14,.tv (eI b.2))]:=⟨⟩;exact nz
instance c5(d:Fx):CT (Mf d) 5 [IL d] (fun r=>.tp [AN r.1,(eL 25 CP) r.2.1,Cw r.2.2]):=Fk f5 0x402023ba282966d370237961bc9264603452d0b84034284034202452d0b6c03426c0342cd0238766090066e02194819470e0f443702024a5b326d5b320f4b1ac90f440f5f9ecd0238ff8a05ed5777766090068119c09615c90e5c550dc9194015c99b [] [.cell 2 (some 2),.tmp 3,.cell 4 (some 3)] fun r h b c=>by
  unfold Mf at h;have:HW 0 fun(a:List hO×Int)=>[(6,.ow ((eL 25 CP) a.1)),(7,.tv (eI a.2))]:=⟨⟩;exact nz
instance zZ(t:ej):CT (J6 t) 22 [AN t] rB:=Fj f22 0x9108b86eac0c6c07c6008ca108b881300431be0431036031046e603104766031066eac0c80a86031048c737776603106818963a8380c55ba02c9b1b97341b9550431038c7341b9f404310481f50c6cb9f4ed7341b97e308c7e0431037f89d0380b7e9b [] fun h=>by
  unfold J6 at h;have:HA 0 4 1 0 fun(b:Int)(c:Int)=>[(3,.tv (eI c)),(4,.tv (eI b))]:=⟨⟩;have:HW 2 fun(d:Int)=>[(5,.tv (eI d))]:=⟨⟩;have:HW 4 fun(e:Int)=>[(7,.tv (eI e))]:=⟨⟩;have:HA 6 8 1 1 fun(a:Int)(_:Unit)=>[(8,.tv (eI a))]:=⟨⟩;exact nz
instance c56(g:d6):CT (Ic g) 56 [A8 g] rB:=Fj f56 0xc4d0380b7e9b [] fun h=>by
  unfold Ic at h;exact nz
instance za(a:gt):CT (J7 a) 23 [Cw a] rB:=Fj f23 0x9131026eac0b809e008c577731028189635777086d32019b [] fun h=>by
  unfold J7 at h;have:HA 0 3 1 2 fun(b:Int)(_:Unit)=>[(3,.tv (eI b))]:=⟨⟩;exact nz
instance c90(p:ed):CT (Ie p) 90 [BO p] rB:=Fj f90 0xc463aa770a6357776d32019b [] fun h=>by
  unfold Ie at h;exact nz
instance c91(p:Bo)(n:Int):CT (Pj p n) 91 [MA p,eI n] rB:=Fj f91 0xa738df0b7ec3 [] fun h=>by
  unfold Pj at h;exact nz
instance c92(m:eb)(n:Int):CT (N6 m n) 92 [Bm m,eI n] rB:=Fj f92 0xa738df0b7ec3 [] fun h=>by
  unfold N6 at h;exact nz
abbrev Q_126(n:Nat):Prop:=∀(c:ea)(a:Int),CT (Cd n c a) 126 [AI c,eI a] rI
theorem rV(n:Nat)(_ih_126:Q_126 n)(c:ea)(a:Int):CT (Cd (n+1) c a) 126 [AI c,eI a] rI:=Fj f126 0x81017490be010e019d09c630ff8a0530d03890c289086df9a98ddc3830c3 [] fun h=>by
  unfold Cd at h;have:HW 0 fun(b:Int×Int)=>[(1,.tv (eI b.1)),(5,.tv (eI b.2))]:=⟨⟩;exact nz
theorem rU:∀n:Nat,Q_126 n:=by
  intro n
  induction n with
  |zero=>exact(fun c Aab=>⟨fun _ h=>by cases h⟩)
  |succ n a=>exact rV n a
instance vX(c:ea)(a:Int):CT (OY c a) 126 [AI c,eI a] rI:=⟨fun r h=>by
  obtain ⟨N,b⟩:=DU h;exact((rU N) c a).snd r (b N (bk _))⟩
instance c93(c:ea):CT (If c) 93 [AI c] rB:=Fj f93 0xa70e9d019b [] fun h=>by
  unfold If at h;exact nz
instance c57(a:hO):CT (N8 a) 57 [CP a] rB:=Fj f57 0xc40e9d10770a6d0d770a6d0b770a0e8d06770a0e8db2380c7e9b [] fun h=>by
  unfold N8 at h;exact nz
instance wo(t:ej)(g:d6):CT (Gi t g) 191 [AN t,A8 g] rB:=Fj f191 0x910657be89d06c03c6386c03c6008ca10657c257020557be89635580f4805557028cf457c2019a [] fun h=>by
  unfold Gi at h;have:HA 0 5 3 0 fun(a:Int)(_:Unit)=>[(5,.tv (eI a))]:=⟨⟩;have:HA 2 6 3 1 fun(b:Int)(_:Unit)=>[(6,.tv (eI b))]:=⟨⟩;exact nz
instance wq(t:ej)(p:ed)(b:Int)(a:Int):CT (Ma t p b a) 192 [AN t,BO p,eI b,eI a] (fun r=>.tp [HT r.1,eB r.2]):=Fk f192 0x81bab1d93036ba01468a63013078745deb80bd3736ba01468a63bd743002c9625702 [] [.cell 8 (some 4),.tmp 9] fun r h c d=>by
  unfold Ma at h;exact nz
instance ws(n:Int):CT (LT n) 193 [eI n] rB:=Fj f193 0xf874f1 [] fun h=>by
  unfold LT at h;exact nz
instance yZ(n:Int)(t:kg):CT (IQ n t) 296 [eI n,UY t] rI:=Fj f296 0x81f5a178a17801f47e9b01 [] fun h=>by
  unfold IQ at h;exact nz
instance xi(n:Int)(a:Test):CT (N5 n a) 250 [eI n,GY a] rI:=Fj f250 0x816d03777de177f5f47e9b01 [] fun h=>by
  unfold N5 at h;exact nz
instance wt(n:Int)(l:List Test):CT (Ky n l) 194 [eI n,lT l] rI:=Fj f194 0x910565bebb8d055f718c7465c2ac0b01f574de [] fun h=>by
  unfold Ky at h;have:HA 0 5 1 0 fun(a:Int)(_:Unit)=>[(5,.tv (eI a))]:=⟨⟩;exact nz
instance wu(p:ed)(a:Int):CT (J8 p a) 195 [BO p,eI a] rB:=Fj f195 0x910590beac016c0241b99e008c9e3890c201c3 [] fun h=>by
  unfold J8 at h;have:HA 0 5 2 2 fun(b:Int)(_:Unit)=>[(5,.tv (eI b))]:=⟨⟩;exact nz
instance vY(t:ej)(p:ed):CT (H2 t p) 127 [AN t,BO p] rI:=Fj f127 0x910d576edd3844006173770d5781bbaa42a8310857be89a984f978a86cf9786cf9085dba0249975c558d37ba04c9b1b99e318c57770857c28963aa42380b9ef5a838a836886d32377d6d327d0172e19a [] fun h=>by
  unfold H2 at h;have:HA 0 8 3 2 fun(a:Int)(_:Unit)=>[(8,.tv (eI a))]:=⟨⟩;have:HA 2 13 3 3 fun(b:Int)(_:Unit)=>[(13,.tv (eI b))]:=⟨⟩;exact nz
instance ya(c:ea):CT (Gv c) 297 [AI c] rB:=Fj f297 0xf8734104777863aa41dc0beedc30a763845bdc636c5bdc6384ca0b6cf99b [] fun h=>by
  unfold Gv at h;exact nz
instance xj(c:ea):CT (K9 c) 251 [AI c] rB:=Fj f251 0x81ff36d0a7c40e9d38df1904fe5e1904fea7c40e9d38dfa7c40e9d38dfa78332019b [] fun h=>by
  unfold K9 at h;have:HJ 25 fun(a:Bool)=>[(25,.tv (eB a))]:=⟨⟩;exact nz
abbrev Q_196(n:Nat):Prop:=∀(c:ea),CT (EC n c) 196 [AI c] rB
theorem rd(n:Nat)(_ih_196:Q_196 n)(c:ea):CT (EC (n+1) c) 196 [AI c] rB:=Fj f196 0x9131026edd9d09c6008ca1310281dd9d019b [] fun h=>by
  unfold EC at h;have:HA 0 3 1 1 fun(a:Int)(_:Unit)=>[(3,.tv (eI a))]:=⟨⟩;exact nz
theorem rc:∀n:Nat,Q_196 n:=by
  intro n
  induction n with
  |zero=>exact(fun c=>⟨fun _ h=>by cases h⟩)
  |succ n a=>exact rd n a
instance wv(c:ea):CT (NC c) 196 [AI c] rB:=⟨fun r h=>by
  obtain ⟨N,a⟩:=DU h;exact((rc N) c).snd r (a N (bk _))⟩
abbrev Q_197(n:Nat):Prop:=∀(c:ea),CT (Ea n c) 197 [AI c] (fun r=>.tp [eI r.1,eI r.2])
theorem rg(n:Nat)(_ih_197:Q_197 n)(c:ea):CT (Ea (n+1) c) 197 [AI c] (fun r=>.tp [eI r.1,eI r.2]):=Fj f197 0x7f30600260025e01855560fecdfd6e302c74307f979d09c660fe8ca1cdfd817f309b [] fun h=>by
  unfold Ea at h;have:HA 0 6 1 1 fun(b:Int)(a:Int×Int)=>[(4,.tv (eI a.1)),(5,.tv (eI a.2)),(6,.tv (eI b))]:=⟨⟩;have:HJ 33 fun(d:Int)=>[(5,.tv (eI d))]:=⟨⟩;exact nz
theorem rf:∀n:Nat,Q_197 n:=by
  intro n
  induction n with
  |zero=>exact(fun c=>⟨fun _ h=>by cases h⟩)
  |succ n a=>exact rg n a
instance ww(c:ea):CT (OI c) 197 [AI c] (fun r=>.tp [eI r.1,eI r.2]):=⟨fun r h=>by
  obtain ⟨N,a⟩:=DU h;exact((rf N) c).snd r (a N (bk _))⟩
instance vZ(c:ea):CT (K7 c) 128 [AI c] rI:=Fj f128 0x81f5745d81979ddd9d019b [] fun h=>by
  unfold K7 at h;exact nz
instance xk(p:ed)(a:Int):CT (Mb p a) 252 [BO p,eI a] rB:=Fj f252 0x910590beac016c0241b99e008c9e3890c201c3 [] fun h=>by
  unfold Mb at h;have:HA 0 5 2 2 fun(b:Int)(_:Unit)=>[(5,.tv (eI b))]:=⟨⟩;exact nz
instance wx(t:ej)(a:Int)(q:ed):CT (K8 t a q) 198 [AN t,eI a,BO q] rI:=Fj f198 0x91a505bef2c1384400617377a505c201bb8d37ac0173776230 [] fun h=>by
  unfold K8 at h;have:HA 0 8 5 3 fun(b:Int)(_:Unit)=>[(8,.tv (eI b))]:=⟨⟩;exact nz
instance wy(a:d6)(b:d6)(m:eb):CT (Hy a b m) 199 [A8 a,A8 b,Bm m] rI:=Fj f199 0x910a60aa6ef59e6f9ef45c6f5c55ac5555a2a2eaead743805c5cd7c689d0805c38805c008ca10a60aa8160730960aa6eac80556f80555589635580f4805560738c7e0960aa8189d0df38cfcf7d6d7de1e4 [] fun h=>by
  unfold Hy at h;have:HA 0 9 3 0 fun(c:Int)(_:Unit)=>[(9,.tv (eI c))]:=⟨⟩;have:HA 2 10 3 1 fun(d:Int)(_:Unit)=>[(10,.tv (eI d))]:=⟨⟩;exact nz
instance vh(l:Fp):CT (EZ l) 136 [lI l] rB:=Fj f136 0x91cc026ecc0204ccbeacefefcc02613004cc0391facc02816501 [] fun h=>by
  unfold EZ at h;have:HA 0 3 0 0 fun(b:Int)(_:Unit)=>[(3,.tv (eI b))]:=⟨⟩;have:HA 2 4 3 0 fun(a:Int)(_:Unit)=>[(4,.tv (eI a))]:=⟨⟩;exact nz
instance wz(a:d6)(b:d6)(m:eb):CT (Hg a b m) 200 [A8 a,A8 b,Bm m] rB:=Fj f200 0xc40ea10a0ef46d37abe4 [] fun h=>by
  unfold Hg at h;exact nz
abbrev Q_129(n:Nat):Prop:=∀(t:ej)(p:ed)(c:ea),CT (Ep n t p c) 129 [AN t,BO p,AI c] rI
theorem rX(n:Nat)(_ih_129:Q_129 n)(t:ej)(p:ed)(c:ea):CT (Ep (n+1) t p c) 129 [AN t,BO p,AI c] rI:=Fj f129 0x910a0705aa6ebb9d09c68d37008ca10a0705aa810705730705733cd38ddc36886dca375bdce07d6dca375bdce0bb8ddca8378555d309c98d01e4 [] fun h=>by
  unfold Ep at h;have:HA 0 10 5 1 fun(a:Int)(_:Unit)=>[(10,.tv (eI a))]:=⟨⟩;exact nz
theorem rW:∀n:Nat,Q_129 n:=by
  intro n
  induction n with
  |zero=>exact(fun t p c=>⟨fun _ h=>by cases h⟩)
  |succ n a=>exact rX n a
instance va(t:ej)(p:ed)(c:ea):CT (VD t p c) 129 [AN t,BO p,AI c] rI:=⟨fun r h=>by
  obtain ⟨N,a⟩:=DU h;exact((rW N) t p c).snd r (a N (bk _))⟩
instance c94(t:ej)(p:ed)(c:ea):CT (JU t p c) 94 [AN t,BO p,AI c] rI:=Fj f94 0x810e9d8d37bb9dbb8dabe4 [] fun h=>by
  unfold JU at h;exact nz
instance w3(t:ej)(p:d6)(g:d6):CT (K5 t p g) 201 [AN t,A8 p,A8 g] rI:=Fj f201 0x8189086dab086d377d6d7d6d7d0172e1e4 [] fun h=>by
  unfold K5 at h;exact nz
instance vb(t:ej)(p:d6)(g:d6):CT (K4 t p g) 130 [AN t,A8 p,A8 g] rB:=Fj f130 0xc40a0a63a10a63f4d0cf386d37ab0ae10ae1e1e4 [] fun h=>by
  unfold K4 at h;exact nz
instance c95(t:ej)(p:ed)(a:gt):CT (Nf t p a) 95 [AN t,BO p,Cw a] rB:=Fj f95 0xc46d32e0ab0ae6010e8d01e4 [] fun h=>by
  unfold Nf at h;exact nz
abbrev Q_96(n:Nat):Prop:=∀(c:ea),CT (FG n c) 96 [AI c] rB
theorem uU(n:Nat)(_ih_96:Q_96 n)(c:ea):CT (FG (n+1) c) 96 [AI c] rB:=Fj f96 0xa763845bdc0b6c5bdc3031026edd9d09c6308ca1310281019b [] fun h=>by
  unfold FG at h;have:HA 0 3 1 1 fun(a:Int)(_:Unit)=>[(3,.tv (eI a))]:=⟨⟩;exact nz
theorem uT:∀n:Nat,Q_96 n:=by
  intro n
  induction n with
  |zero=>exact(fun c=>⟨fun _ h=>by cases h⟩)
  |succ n a=>exact uU n a
instance c96(c:ea):CT (O9 c) 96 [AI c] rB:=⟨fun r h=>by
  obtain ⟨N,a⟩:=DU h;exact((uT N) c).snd r (a N (bk _))⟩
abbrev Q_97(n:Nat):Prop:=∀(p:ed)(c:ea)(b:Int)(a:Int),CT (Du n p c b a) 97 [BO p,AI c,eI b,eI a] rB
theorem uW(n:Nat)(_ih_97:Q_97 n)(p:ed)(c:ea)(b:Int)(a:Int):CT (Du (n+1) p c b a) 97 [BO p,AI c,eI b,eI a] rB:=Fj f97 0xa7010a010db40557066edd309d09c68d0a018ca10db405570681b405d60cb40557066e3830b405d68c8432010cb4055706810b8432b4e80bb4a6076e3830b4e88cbd010bb4a607810bbd8109a60509a6053cd38ddc8555d309c98d01625702 [] fun h=>by
  unfold Du at h;have:HJ 17 fun(d:ed)=>[(9,.bx [⟨false,lI d.d6.d5⟩,⟨false,lE d.d6.d7⟩,⟨false,lS d.ff⟩,⟨false,eI d.fq⟩,⟨false,lT d.ns⟩])]:=⟨⟩;have:HW 0 fun(e:Int×Int)=>[(10,.tv (eI e.1)),(11,.tv (eI e.2))]:=⟨⟩;have:HW 2 fun(f:Int×Int)=>[(10,.tv (eI f.1)),(12,.tv (eI f.2))]:=⟨⟩;have:HA 4 13 5 1 fun(g:Int)(_:Unit)=>[(13,.tv (eI g))]:=⟨⟩;exact nz
theorem uV:∀n:Nat,Q_97 n:=by
  intro n
  induction n with
  |zero=>exact(fun p c ek em=>⟨fun _ h=>by cases h⟩)
  |succ n a=>exact uW n a
instance c97(p:ed)(c:ea)(a:Int)(b:Int):CT (OH p c a b) 97 [BO p,AI c,eI a,eI b] rB:=⟨fun r h=>by
  obtain ⟨N,d⟩:=DU h;exact((uV N) p c a b).snd r (d N (bk _))⟩
instance c58(t:ej)(p:ed)(c:ea)(a:gt):CT (K6 t p c a) 58 [AN t,BO p,AI c,Cw a] rB:=Fj f58 0xc40a0e9d8d010a638432010a63bd010a0e9d01e68d37380e9d8d3789a96a010aa98d01a99d01629a [] fun h=>by
  unfold K6 at h;exact nz
instance zb(t:ej)(a:hO)(b:gt):CT (JV t a b) 24 [AN t,CP a,Cw b] rB:=Fj f24 0xc4e69d10428db2ab0a0ed801e1e4 [] fun h=>by
  unfold JV at h;exact nz
abbrev Q_25(n:Nat):Prop:=∀(p:ed)(c:ea)(a:Int),CT (C0 n p c a) 25 [BO p,AI c,eI a] rB
theorem uH(n:Nat)(_ih_25:Q_25 n)(p:ed)(c:ea)(a:Int):CT (C0 (n+1) p c a) 25 [BO p,AI c,eI a] rB:=Fj f25 0xa701900a070402046edd019d09c68d02698a05eda10a07040204810704020309070402046e380107040203ff8a05ed8432010907040204810b843207045704a504d66e380107045704ff8a05edbd01a504d6810bbd07045704070457043cd38ddc8555d309c98d016290 [] fun h=>by
  unfold C0 at h;have:HJ 14 fun(b:ed)=>[(7,.bx [⟨false,lI b.d6.d5⟩,⟨false,lE b.d6.d7⟩,⟨false,lS b.ff⟩,⟨false,eI b.fq⟩,⟨false,lT b.ns⟩])]:=⟨⟩;have:HW 0 fun(d:Int×Int)=>[(2,.tv (eI d.1)),(8,.tv (eI d.2))]:=⟨⟩;have:HW 2 fun(e:Int×Int)=>[(2,.tv (eI e.1)),(9,.tv (eI e.2))]:=⟨⟩;have:HW 4 fun(f:Int)=>[(10,.tv (eI f))]:=⟨⟩;exact nz
theorem uG:∀n:Nat,Q_25 n:=by
  intro n
  induction n with
  |zero=>exact(fun p c a=>⟨fun _ h=>by cases h⟩)
  |succ n b=>exact uH n b
instance zc(p:ed)(c:ea)(a:Int):CT (LU p c a) 25 [BO p,AI c,eI a] rB:=⟨fun r h=>by
  obtain ⟨N,b⟩:=DU h;exact((uG N) p c a).snd r (b N (bk _))⟩
instance w7(t:ej)(p:ed)(a:Int):CT (Md t p a) 205 [AN t,BO p,eI a] rI:=Fj f205 0x910a070402046ef55c84b99e38556cb99e0061300a0704020481f584f97884f978a86cf9786cf90a63015c38a1eb6f55bd378963bdf455ba04c9b1b957776290 [] fun h=>by
  unfold Md at h;have:HA 0 10 2 0 fun(b:Int)(_:Unit)=>[(10,.tv (eI b))]:=⟨⟩;exact nz
instance vf(t:ej)(a:hO):CT (LC t a) 134 [AN t,CP a] rI:=Fj f134 0x910657bebb3844b737008cee06770657c2ac0beeb78963aa41b7387341b27341b736886d5bb7377d6d5b06779a [] fun h=>by
  unfold LC at h;have:HA 0 6 3 8 fun(b:Int)(_:Unit)=>[(6,.tv (eI b))]:=⟨⟩;exact nz
instance vg(a:hO):CT (Me a) 135 [CP a] rI:=Fj f135 0x816d0d42375bb7ab96960749e311726d0b42375bb27d6d0b42375b01779b [] fun h=>by
  unfold Me at h;exact nz
instance xu(l:Fp)(n:Int):CT (Pk l n) 256 [lI l,eI n] rB:=Fj f256 0x910565beac016f718c7465c29f [] fun h=>by
  unfold Pk at h;have:HA 0 5 0 0 fun(a:Int)(_:Unit)=>[(5,.tv (eI a))]:=⟨⟩;exact nz
instance w8(n:Int)(l:Fp):CT (Kb n l) 206 [eI n,lI l] (fun r=>.own (lI r)):=Fj f206 0xf0adfccb6efccbfccb3c90d2b8c174db30fccb8101c001406502 [] fun h=>by
  unfold Kb at h;have:HA 0 6 0 0 fun(b:Int)(a:Fp)=>[(5,.ow (lI a)),(6,.tv (eI b))]:=⟨⟩;exact nz
instance vj(a:hO):CT (JI a) 137 [CP a] (fun r=>.tp [lI r.1,lI r.2]):=Fj f137 0x82820e840d420b845bb70e6c0d420b6c5b06774001409b [] fun h=>by
  unfold JI at h;exact nz
instance vk(t:ej)(g:d6)(b:Fp)(a:Fp):CT (KA t g b a) 138 [AN t,A8 g,lI b,lI a] rB:=Fj f138 0x910a60aa6edd6f9e556f5c555537a2ead743ef5c00fa0a60aa81607309a6056e36830241d96fef55556073fa09a6058101625702 [] fun h=>by
  unfold KA at h;have:HA 0 9 2 0 fun(c:Int)(_:Unit)=>[(9,.tv (eI c))]:=⟨⟩;have:HA 2 10 3 0 fun(d:Int)(_:Unit)=>[(10,.tv (eI d))]:=⟨⟩;exact nz
instance c99(t:ej)(a:hO):CT (LA t a) 99 [AN t,CP a] rI:=Fj f99 0x810e9d10428db237dd30375bb73782ebd889a9840d77a96c0d42bbd8bbd837bb8db237dd557d0172e19a [] fun h=>by
  unfold LA at h;exact nz
instance c59(t:ej)(a:List hO):CT (LG t a) 59 [AN t,(eL 25 CP) a] rI:=Fj f59 0x910790bebbd81943303700fa0790c2ac0b017d0172e1c3 [] fun h=>by
  unfold LG at h;have:HA 0 7 1 0 fun(b:Int)(_:Unit)=>[(7,.tv (eI b))]:=⟨⟩;exact nz
instance u9(t:ej)(a:Int)(b:Fp):CT (MW t a b) 100 [AN t,eI a,lI b] rI:=Fj f100 0x91090702bef5eed930807484d9306f71fa090702c2ac0b010b30ebd436830241b955accf30939002 [] fun h=>by
  unfold MW at h;have:HA 0 9 7 0 fun(c:Int)(_:Unit)=>[(9,.tv (eI c))]:=⟨⟩;exact nz
instance c60(t:ej)(a:gt):CT (K3 t a) 60 [AN t,Cw a] (fun r=>.tp [eI r.1,eI r.2]):=Fj f60 0x7f000b57beb501c16f9ebd6f5cbd5537b50185df55a2ead75f8432008c8432010b57c257020957beb530640e809e80bd3757028cbd010957c2b5850bbd0b9eb5706d32b57001726d309a [] fun h=>by
  unfold K3 at h;have:HA 0 9 3 0 fun(b:Int)(_:Unit)=>[(9,.tv (eI b))]:=⟨⟩;have:HA 2 11 3 1 fun(c:Int)(_:Unit)=>[(11,.tv (eI c))]:=⟨⟩;exact nz
instance ze(t:ej)(a:List hO)(b:gt):CT (LH t a b) 26 [AN t,(eL 25 CP) a,Cw b] rI:=Fj f26 0x815d01976a37bb01ab6230 [] fun h=>by
  unfold LH at h;exact nz
instance c6(t:ej)(a:List hO)(b:gt):CT (LF t a b) 6 [AN t,(eL 25 CP) a,Cw b] rB:=Fj f6 0xc40a638432010a63bd0174e6d407053104a50531056e010a0e9d1041194374440141195f300a636c5b0641195f300a63845b0141195f300a636c5b014119433030dd6ad81943303707053104faa50531057f89a96a010a08e10a63300a63ed306230 [] fun h=>by
  unfold LF at h;have:HA 0 8 1 0 fun(c:Int)(d:Bool)=>[(7,.tv (eB d)),(8,.tv (eI c))]:=⟨⟩;exact nz
instance c71(a:Fp)(b:Fp):CT (IS a b) 71 [lI a,lI b] rB:=Fj f71 0x910565beacef6f718c7465c2ac0b010bde [] fun h=>by
  unfold IS at h;have:HA 0 5 0 0 fun(c:Int)(_:Unit)=>[(5,.tv (eI c))]:=⟨⟩;exact nz
instance c69(a:d6)(b:d6):CT (MS a b) 69 [A8 a,A8 b] rB:=Fj f69 0x910557be36bfd7c6d7c6008c5c3857c289d00ba1a9557e9a [.bin (.a [0,0,0]) .neq (.s 32) (.s 37)] fun h=>by
  unfold MS at h;have:HA 0 5 2 1 fun(c:Int)(_:Unit)=>[(5,.tv (eI c))]:=⟨⟩;exact nz
instance c70(a:Fp)(b:Fp):CT (JH a b) 70 [lI a,lI b] rI:=Fj f70 0x8163010b9f0565be3605efef85ef809fff8a6301ed7465c29f [] fun h=>by
  unfold JH at h;have:HW 0 fun(c:Int)=>[(5,.tv (eI c))]:=⟨⟩;exact nz
instance zq(a:gt)(b:gt):CT (MV a b) 36 [Cw a,Cw b] rB:=Fj f36 0x910557beac0e809e809e008c9e3857c289639e0b5777086d32e0019a [] fun h=>by
  unfold MV at h;have:HA 0 5 2 2 fun(c:Int)(_:Unit)=>[(5,.tv (eI c))]:=⟨⟩;exact nz
instance zu(a:Fp)(b:Fp):CT (IP a b) 38 [lI a,lI b] rB:=Fj f38 0x910565beacef6f718c7465c2ac0b010bde [] fun h=>by
  unfold IP at h;have:HA 0 5 0 0 fun(c:Int)(_:Unit)=>[(5,.tv (eI c))]:=⟨⟩;exact nz
instance zS(a:eb)(b:eb):CT (Iw a b) 14 [Bm a,Bm b] rB:=Fj f14 0xc40e5ca10e557e9a [] fun h=>by
  unfold Iw at h;exact nz
instance zr(a:List By)(b:List By):CT (Hh a b) 37 [(eL 4 HU) a,(eL 4 HU) b] rB:=Fj f37 0x910565be89a9ee0141d930ee0141b9300a086d5b0141d930375b0141b9746cd9306cd9718c7465c2ac0b010bde [] fun h=>by
  unfold Hh at h;have:HA 0 5 0 0 fun(c:Int)(_:Unit)=>[(5,.tv (eI c))]:=⟨⟩;exact nz
instance zR(a:AP)(b:AP):CT (Mg a b) 13 [DG a,DG b] rB:=Fj f13 0xc40ea87377e6326a32019a [] fun h=>by
  unfold Mg at h;exact nz
end Go.Sf.Sc
