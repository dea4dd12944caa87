/- Contracts of the functions. -/
import Derived.Test.YthhobbgaejimgaaGreatDoorCon0
import Derived.Test.YthhobbgaejimgaaGreatDoorTryzShelf
import Derived.Test.YthhobbgaejimgaaGreatDoorFo
set_option linter.all false
set_option maxRecDepth 100000
set_option maxHeartbeats 4000000
namespace Go.Sf.Sc
open Go Go.Sf Go.Proofs.Tryz
instance pz(n:Int)(a:Int):Ct prog (Ee n a) 63 [eI n,.pt [eI a]] (fun r=>.sh (eB r)):=Fj f63 0xea7d31e0 [] [.tmp 3] (h:=fun r h b c=>by
  unfold Ee at h;exact nz)
instance pE(l:D1)(a:Int):Ct prog (CB l a) 23 [lI l,eI a] (fun r=>.sh (eB r)):=Fj f23 0x810e10309396 [] [.tmp 4] (h:=fun r h b c=>by
  unfold CB at h;exact nz)
instance pF(l:D1):Ct prog (Cp l) 26 [lI l] (fun r=>.sh (eS r)):=Fj f26 0x813f0131770603b677060304de063fdd77060304de063f0e09306160315f77060304dabf3f96 [.mv (.c (.str ⟨#[]⟩)),.mv (.c (.str ⟨#[40]⟩)),.bin (.s) .add (.c (.str ⟨#[32,45,32]⟩)) (.s 17),.bin (.s) .add (.c (.str ⟨#[32]⟩)) (.s 22),.bin (.s) .add (.s 26) (.c (.str ⟨#[32,41]⟩))] [.tmp 2] (h:=fun r h d e=>by
  unfold Cp at h;have:HA 0 8 7 0 fun(a:Int)(b:ByteArray)=>[(3,.tv (eS b)),(8,.tv (eI a))]:=⟨⟩;exact nz)
instance i7(d:AN):Ct Go.Proofs.Tryz.prog (Fw d) 7 [Cu d] (fun r=>.tp [eS r.1,eI r.2]):=⟨SB (fun l low b h=>(inferInstance:Ct _ (CB l low) _ _ fun r=>.sh (eB r)).snd b h) (fun i s h=>(inferInstance:Ct _ (strconv_Itoa i) _ _ fun r=>.sh (eS r)).snd s h) (fun l s h=>(inferInstance:Ct _ (Cp l) _ _ fun r=>.sh (eS r)).snd s h) d⟩
instance pL(a:AL):Ct prog (Cb a) 37 [CL a] (fun r=>.sh (CL r)):=Fj f37 0x92655b02cb115b056baaa101ef0ef2a182605b025fcb115b05a8a1035001c93f3f0e91320ed501c9ac [.r8 [.w 9,.w 13],.r8 [.g 14 0 2,.g 14 1 2,.z ⟨true,.list 1 []⟩]] [.cell 2 (some 3)] (h:=fun r h d e=>by
  unfold Cb at h;have:HA 0 19 18 0 fun(c:Int)(b:AL)=>[(3,.bx [⟨true,lI b.d3.ci⟩,⟨true,lE b.d3.d6⟩,⟨true,(eL 1 lI) b.hT⟩]),(19,.tv (eI c))]:=⟨⟩;exact nz)
instance qF(b:ByteArray)(d:Int->Fp)(c:FuncId)(a:D2)[g:∀(e:Int),Ct prog (d e) c (Ni e::a) (fun r=>.sh (eB r))]:Ct prog (Du b d) 76 [eS b,.r6 c a] (fun r=>.sh (eI r)):=Fj f76 0x81539a055e035d539a8a0f12307d0c7d5ef4e0 [] [.tmp 4] (h:=fun r h i j=>by
  unfold Du at h;have:HW 0 fun(f:Int)=>[(5,.tv (eI f))]:=⟨⟩;exact nz)
instance lj(c:Int):Ct prog (Hf c) 115 [Ni c] (fun r=>.sh (eB r)):=Fj f115 0xc3737d30737de8 [] [.tmp 2] (h:=fun r h a b=>by
  unfold Hf at h;exact nz)
instance lm(c:Int):Ct prog (G4 c) 117 [Ni c] (fun r=>.sh (eB r)):=Fj f117 0xea7de8 [] [.tmp 2] (h:=fun r h a b=>by
  unfold G4 at h;exact nz)
instance ll(c:Int):Ct prog (JC c) 116 [Ni c] (fun r=>.sh (eB r)):=Fj f116 0xea300adddd96 [] [.tmp 2] (h:=fun r h a b=>by
  unfold JC at h;exact nz)
instance mT(c:Int):Ct prog (GH c) 157 [Ni c] (fun r=>.sh (eB r)):=Fj f157 0xea30737de8 [] [.tmp 2] (h:=fun r h a b=>by
  unfold GH at h;exact nz)
instance ln(a:ByteArray):Ct prog (DD a) 118 [eS a] (fun r=>.tp [eI r.1,eI r.2]):=Fj f118 0x6ce7768501768a051205ed0c53553f0d6a96 [.call 76 [.s 6,.c (.r6 157 [])]] [.tmp 2,.tmp 3] (h:=fun r h b d=>by
  unfold DD at h;exact nz)
instance lq(a:ByteArray):Ct prog (Gl a) 119 [eS a] (fun r=>.sh (eB r)):=Fj f119 0xc30e0d013f530ce8 [.uc 1 [.c (.str ⟨#[45,62]⟩),.c (.str ⟨#[60,61]⟩),.c (.str ⟨#[62,61]⟩),.c (.str ⟨#[61,61]⟩),.c (.str ⟨#[33,61]⟩)]] [.tmp 2] (h:=fun r h b d=>by
  unfold Gl at h;exact nz)
instance qH(a:ByteArray):Ct prog (DF a) 78 [eS a] (fun r=>.tp [eI r.1,eI r.2.1,eI r.2.2]):=Fj f78 0x816cff766c053fdf6c0e556c306c6d5505556c01366c613f550e556c01366c613f550e551230e8 [.call 76 [.s 15,.c (.r6 116 [])],.call 76 [.s 23,.c (.r6 117 [])],.call 120 [.c (.str ⟨#[123,125,40,41,91,93,44,59,58,61,43,45,42,60,62,33,38,124,46,63]⟩),.s 42]] [.tmp 2,.tmp 3,.tmp 4] (h:=fun r h b d=>by
  unfold DF at h;exact nz)
instance lr(t:Ap):Ct prog (DX t) 121 [Gr t] (fun r=>.tp [eS r.1,eB r.2]):=Fj f121 0x6c730c6a73577d30816c116d0136bfbff29e049ede3f3f01855781f73fac [.mv (.c (.str ⟨#[]⟩)),.bin (.s) .add (.c (.str ⟨#[34]⟩)) (.s 13),.bin (.s) .add (.s 14) (.c (.str ⟨#[34]⟩)),.bin (.s) .eql (.s 16) (.c (.str ⟨#[]⟩)),.mv (.c (.str ⟨#[]⟩))] [.tmp 2,.tmp 3] (h:=fun r h b d=>by
  unfold DX at h;have:HJ 12 fun(a:ByteArray)=>[(4,.tv (eS a))]:=⟨⟩;exact nz)
instance qZ(a:ByteArray):Ct prog (CY a) 98 [eS a] (fun r=>.sh (eB r)):=Fj f98 0x8155d10046e8 [] [.tmp 2] (h:=fun r h b c=>by
  unfold CY at h;exact nz)
instance lO(m:Ba)(a:Ba):Ct prog (JF m a) 100 [Ej m,.pt (Ej a).cells] (fun r=>.sh (eB r)):=Fj f100 0x81065780bb [] [.tmp 3] (h:=fun r h b c=>by
  unfold JF at h;exact nz)
abbrev Q_101(n:Nat):Prop:=∀(t:AB)(a:Int),Ct prog (CS n t a) 101 [AS t,eI a] (fun r=>.sF 4 (List.map FD r))
theorem fv(n:Nat)(_ih_101:Q_101 n)(t:AB)(a:Int):Ct prog (CS (n+1) t a) 101 [AS t,eI a] (fun r=>.sF 4 (List.map FD r)):=Fj f101 0x99044f7441fd1905bc0305bc033c191ac46191fd04ce044ebb [] [.tmp 4] (h:=fun r h c d=>by
  unfold CS at h;have:HJ 14 fun(b:List o3)=>[(5,.xo 4 (List.map FD b))]:=⟨⟩;exact nz)
theorem fu:∀n:Nat,Q_101 n:=by
  intro n
  induction n with
  |zero=>exact(fun t a=>⟨fun _ h=>by cases h⟩)
  |succ n b=>exact fv n b
instance lP(t:AB)(a:Int):Ct prog (G6 t a) 101 [AS t,eI a] (fun r=>.sF 4 (List.map FD r)):=⟨fun r h=>by
  obtain ⟨N,b⟩:=Ey h;exact((fu N) t a).snd r (b N (ae _))⟩
instance mL(y:o3)(a:o3):Ct prog (F2 y a) 149 [FD y,.pt (FD a).cells] (fun r=>.sh (eB r)):=Fj f149 0x81065780bb [] [.tmp 3] (h:=fun r h b c=>by
  unfold F2 at h;exact nz)
instance mM(l:List ByteArray):Ct prog (Em l) 150 [lB l] (fun r=>.sh (eI r)):=Fj f150 0xa2e50800b6ff76dd45306c89df60d2e508cfdab80be8 [] [.tmp 2] (h:=fun r h b c=>by
  unfold Em at h;have:HA 0 10 9 0 fun(a:Int)(_:Unit)=>[(10,.tv (eI a))]:=⟨⟩;exact nz)
instance lQ(b:o3)(a:List o3):Ct prog (C5 b a) 102 [FD b,lA a] (fun r=>.sh (eI r)):=Fj f102 0x8136880106010601de736f9f7e535c850b9fea7e01737e5c535cc69fff760e10df8980bb [] [.tmp 4] (h:=fun r h d e=>by
  unfold C5 at h;have:HJ 40 fun(c:Bool)=>[(6,.tv (eB c))]:=⟨⟩;exact nz)
instance p9(t:AB)(a:Int):Ct prog (Ff t a) 71 [AS t,eI a] (fun r=>.sh (eI r)):=Fj f71 0xa2070602abc6044530fb30fa30070602816f9fd8b8d8820ec4ff766f9f6c73015c535c6c0e10044501576c8957053d9b02c9a7d980bb [] [.tmp 4] (h:=fun r h c d=>by
  unfold Ff at h;have:HA 1 7 6 0 fun(b:Int)(_:Unit)=>[(7,.tv (eI b))]:=⟨⟩;exact nz)
instance lR(n:Int)(a:AB):Ct prog (Hg n a) 103 [eI n,.pt (AS a).cells] (fun r=>.sh (eB r)):=Fj f103 0xc36f577db9 [] [.tmp 3] (h:=fun r h b c=>by
  unfold Hg at h;exact nz)
instance lV(y:Bl)(a:Bl):Ct prog (JE y a) 105 [FQ y,.pt (FQ a).cells] (fun r=>.sh (eB r)):=Fj f105 0x81065780bb [] [.tmp 3] (h:=fun r h b c=>by
  unfold JE at h;exact nz)
instance lW(b:Int)(a:Int):Ct prog (Gu b a) 106 [eI b,eI a] (fun r=>.sh (eB r)):=Fj f106 0xc30a737ded30737db9 [] [.tmp 4] (h:=fun r h c d=>by
  unfold Gu at h;exact nz)
instance qA(t:AB)(a:Int):Ct prog (Fe t a) 72 [AS t,eI a] (fun r=>.sh (eI r)):=Fj f72 0x81ff361901de0a8903be030542018903eb9f19550a080f7e30080f5cdf0e100745015c6c89578110053d074b03c9074407d301bb [] [.tmp 4] (h:=fun r h c d=>by
  unfold Fe at h;have:HJ 25 fun(b:Bool)=>[(25,.tv (eB b))]:=⟨⟩;exact nz)
instance pI(t:AB):Ct prog (B5 t) 34 [AS t] (fun r=>.tp [eS r.1,eI r.2]):=Fj f34 0x81bf002e2d2c01b6760157610ec4074b8103c907440743d22e2d2cf2a8b1301d1c1b01b6760157610ec49b8102c9fb6a5f1d1c1bf2a832ff36bfc3e253e381bf816f803fac [.mv (.c (.str ⟨#[]⟩)),.mv (.c (.str ⟨#[]⟩)),.mv (.c (.str ⟨#[]⟩)),.mv (.c (.str ⟨#[]⟩))] [.tmp 2,.tmp 3] (h:=fun r h d e=>by
  unfold B5 at h;have:HA 1 29 28 0 fun(b:Int)(_:Unit)=>[(29,.tv (eI b))]:=⟨⟩;have:HA 3 46 45 0 fun(a:Int)(_:Unit)=>[(46,.tv (eI a))]:=⟨⟩;exact nz)
instance lZ(n:Int)(a:Int):Ct prog (Ex n a) 108 [eI n,eI a] (fun r=>.sh (eB r)):=Fj f108 0xeaedb9 [] [.tmp 4] (h:=fun r h b c=>by
  unfold Ex at h;exact nz)
instance lY(t:Int):Ct prog (IE t) 107 [eI t] (fun r=>.sh (eB r)):=Fj f107 0x8189e8 [] [.tmp 2] (h:=fun r h a b=>by
  unfold IE at h;exact nz)
instance lf(e:Bv)(a:Int):Ct prog (Im e a) 111 [Bp e,eI a] (fun r=>.sh (eB r)):=Fj f111 0xc30ee77e010a0ee75c6980bb [] [.tmp 4] (h:=fun r h b c=>by
  unfold Im at h;exact nz)
instance lc(e:Bv)(a:d3):Ct prog (IF e a) 110 [Bp e,.pt (BO a).cells] (fun r=>.sh (eB r)):=Fj f110 0x8189e36501bb [] [.tmp 3] (h:=fun r h b c=>by
  unfold IF at h;exact nz)
instance qB(g:d3):Ct prog (CG g) 73 [BO g] (fun r=>.sh (eI r)):=Fj f73 0x81368e105c36bf5790e2530b80ac [.call 62 [.s 14,.c (.r6 107 [])]] [.tmp 2] (h:=fun r h a b=>by
  unfold CG at h;exact nz)
instance mQ(a:Int)(b:AB):Ct prog (II a b) 154 [eI a,.pt (AS b).cells] (fun r=>.sh (eB r)):=Fj f154 0xc36f577db9 [] [.tmp 3] (h:=fun r h c d=>by
  unfold II at h;exact nz)
instance lh(t:AB)(l:D1):Ct prog (DY t l) 113 [AS t,lI l] (fun r=>.sh (eI r)):=Fj f113 0x81368e10013672d18dbb [] [.tmp 4] (h:=fun r h a b=>by
  unfold DY at h;exact nz)
instance lg(t:AB)(a:Int):Ct prog (Cv t a) 112 [AS t,eI a] (fun r=>.tp [lA r.1,eI r.2]):=Fj f112 0xe9180701151407036b014d0354044c0e170354044c01140114810107ad151407f49514991a019704c07fb4018d0440bb [] [.tmp 4,.tmp 5] (h:=fun r h d e=>by
  unfold Cv at h;have:HA 0 21 20 0 fun(b:Int)(c:List o3)=>[(7,.xo 4 (List.map FD c)),(21,.tv (eI b))]:=⟨⟩;have:HS 31:=⟨⟩;have:HX 33 fun(a:o3)(v:List ByteArray)=>o3.mk a.og a.s7 a.sb v:=⟨⟩;exact nz)
instance qC(t:AB)(a:Int)(b:D1):Ct prog (GJ t a b) 74 [AS t,eI a,lI b] (fun r=>.sh (eI r)):=Fj f74 0xa223222102b690057e60ed5cd69b8104c9fbd22322210204dab8d80b30e10197830241fdb8e33093029e [] [.tmp 6] (h:=fun r h d e=>by
  unfold GJ at h;have:HA 0 35 34 0 fun(c:Int)(_:Unit)=>[(35,.tv (eI c))]:=⟨⟩;exact nz)
instance mS(t:AB)(a:Int):Ct prog (Gm t a) 156 [AS t,eI a] (fun r=>.own (lI r)):=Fj f156 0x821829140553bc03de91fdff19014fb4011905ad53bc31ce0140bb [] [.tmp 4] (h:=fun r h c d=>by
  unfold Gm at h;have:HW 0 fun(b:Int×D1)=>[(1,.tv (eI b.1)),(5,.xo 1 (List.map eI b.2))]:=⟨⟩;exact nz)
instance li(t:AB)(a:Int)(b:Int):Ct prog (Fu t a b) 114 [AS t,eI a,eI b] (fun r=>.sh (eB r)):=Fj f114 0x810e69018d93029e [] [.tmp 6] (h:=fun r h c d=>by
  unfold Fu at h;exact nz)
instance qE(t:AB)(b:Int)(a:Int)(c:Int):Ct prog (Ei t b a c) 75 [AS t,eI b,eI a,eI c] (fun r=>.sh (eB r)):=Fj f75 0xc30efe07d3c4699107d3c490e230737d0eb4308d935b0103 [] [.tmp 8] (h:=fun r h d e=>by
  unfold Ei at h;exact nz)
instance pJ(t:AB)(a:AL):Ct prog (Cx t a) 35 [AS t,CL a] (fun r=>.tp [eI r.1,eI r.2]):=Fj f35 0x6c003e3d3c5b056b7601c1607ed5605cd557387601850b5c57929df943d23e3d3c5b05a80141325b022827265b056b7630610eb27ec46cb25b025f2827265b05a8373276850bd50b7e767fb57672d13830a6 [] [.tmp 4,.tmp 5] (h:=fun r h d e=>by
  unfold Cx at h;have:HA 0 40 39 0 fun(b:Int)(_:Unit)=>[(40,.tv (eI b))]:=⟨⟩;have:HA 2 62 61 0 fun(c:Int)(_:Unit)=>[(62,.tv (eI c))]:=⟨⟩;exact nz)
instance mW(n:Int)(a:AB):Ct prog (Hx n a) 161 [eI n,.pt (AS a).cells] (fun r=>.sh (eB r)):=Fj f161 0x816f57b9 [] [.tmp 3] (h:=fun r h b c=>by
  unfold Hx at h;exact nz)
instance mX(a:Bv)(b:AB):Ct prog (Hy a b) 162 [Bp a,.pt (AS b).cells] (fun r=>.sh (eB r)):=Fj f162 0x81e280bb [] [.tmp 3] (h:=fun r h c d=>by
  unfold Hy at h;exact nz)
instance mY(n:Int)(b:Int)(a:Int):Ct prog (Cn n b a) 163 [eI n,eI b,eI a] (fun r=>.sh (eB r)):=Fj f163 0xeaed6ab703 [] [.tmp 6] (h:=fun r h c d=>by
  unfold Cn at h;exact nz)
instance mZ(t:AB)(p:ff)(a:CT):Ct prog (Eo t p a) 164 [AS t,C3 p,Ef a] (fun r=>.tp [FD r.1,eB r.2]):=Fj f164 0x819bfbf7369b0146c16f01f7e16057d5979b0146c16fd58004c993a6 [] [.cell 6 (some 4),.tmp 7] (h:=fun r h b c=>by
  unfold Eo at h;exact nz)
instance nf(n:Int)(t:qp):Ct prog (HF n t) 229 [eI n,RY t] (fun r=>.sh (eB r)):=Fj f229 0xeaf773f773015753809396 [] [.tmp 4] (h:=fun r h a b=>by
  unfold HF at h;exact nz)
instance nF(n:Int)(a:Test):Ct prog (JP n a) 200 [eI n,GY a] (fun r=>.sh (eI r)):=Fj f200 0x81ff760a8938034230898d42df735753809396 [] [.tmp 4] (h:=fun r h b c=>by
  unfold JP at h;exact nz)
instance ma(n:Int)(l:List Test):Ct prog (IK n l) 165 [eI n,lT l] (fun r=>.sh (eI r)):=Fj f165 0xa2cb1100b6c6a5534b06c9a50543005fcb11cfdab8d890057db9 [] [.tmp 4] (h:=fun r h b c=>by
  unfold IK at h;have:HA 0 19 18 0 fun(a:Int)(_:Unit)=>[(19,.tv (eI a))]:=⟨⟩;exact nz)
instance l8(t:AB)(p:ff):Ct prog (Ce t p) 133 [AS t,C3 p] (fun r=>.sh (eI r)):=Fj f133 0x8136a014c603eb9f085b3c3b3a085b066b3c3b3a085b063c3b3a085b06def86ea114856ea1908991a1010a89059f6ea10108559b04496da7a5389b07c9fb085b5f3c3b3a085b06a8a1993f9f906f03eb530b7e36c19f900e1091326910d5c6b53672d18da6 [.tR 1 [.bool false] (.s 55)] [.tmp 4] (h:=fun r h c d=>by
  unfold Ce at h;have:HA 0 60 59 0 fun(a:Int)(b:Ne)=>[(8,.xo 1 (List.map eB b)),(60,.tv (eI a))]:=⟨⟩;exact nz)
instance nH(n:Int)(a:AB):Ct prog (Ku n a) 202 [eI n,.pt (AS a).cells] (fun r=>.sh (eB r)):=Fj f202 0x816f57b9 [] [.tmp 3] (h:=fun r h b c=>by
  unfold Ku at h;exact nz)
instance nI(a:Bv)(b:AB):Ct prog (Kv a b) 203 [Bp a,.pt (AS b).cells] (fun r=>.sh (eB r)):=Fj f203 0x81e280bb [] [.tmp 3] (h:=fun r h c d=>by
  unfold Kv at h;exact nz)
instance mc(t:AB)(g:d3):Ct prog (Hn t g) 167 [AS t,BO g] (fun r=>.sh (eB r)):=Fj f167 0xc38910f7891080a6 [] [.tmp 4] (h:=fun r h a b=>by
  unfold Hn at h;exact nz)
instance nK(y:CT)(a:CT):Ct prog (LV y a) 205 [Ef y,.pt (Ef a).cells] (fun r=>.sh (eB r)):=Fj f205 0xea5c5c535780bb [] [.tmp 3] (h:=fun r h b c=>by
  unfold LV at h;exact nz)
instance md(t:AB)(a:jj)(b:Int):Ct prog (IV t a b) 168 [AS t,Fx a,eI b] (fun r=>.sh (eI r)):=Fj f168 0x81368e10044501febe9005f773f7737441be8073800a6f015c535ca908c938a101e16057d4be38906fd4be575357073d9b07c9a7d9febe0163bc [] [.tmp 6] (h:=fun r h c d=>by
  unfold IV at h;exact nz)
instance l9(t:AB)(a:jj):Ct prog (Hm t a) 134 [AS t,Fx a] (fun r=>.sh (eI r)):=Fj f134 0xa22f2e5bb6c601e43881d22f2e5bf5febeff766ffebe6c0a6f030441be537441b17441be6c893837be977f3837be01a6 [] [.tmp 4] (h:=fun r h c d=>by
  unfold Hm at h;have:HA 1 47 46 0 fun(b:Int)(_:Unit)=>[(47,.tv (eI b))]:=⟨⟩;exact nz)
instance oD(l:D1)(n:Int):Ct prog (IH l n) 255 [lI l,eI n] (fun r=>.sh (eI r)):=Fj f255 0xa209ca056b90056005307d019005eddf60d209ca05dae0 [] [.tmp 4] (h:=fun r h b c=>by
  unfold IH at h;have:HA 0 9 8 0 fun(a:Int)(_:Unit)=>[(9,.tv (eI a))]:=⟨⟩;exact nz)
instance oE(l:D1)(n:Int):Ct prog (JB l n) 256 [lI l,eI n] (fun r=>.sh (eB r)):=Fj f256 0x8155d130e0 [] [.tmp 4] (h:=fun r h a b=>by
  unfold JB at h;exact nz)
instance ni(g:d3)(p:B3):Ct prog (KJ g p) 231 [BO g,ON p] (fun r=>.sh (eI r)):=Fj f231 0xa21e1d1c5b056b9089fe03d380899103d3578160005f1e1d1c5b05a8b1c60b5c5cc6e380a6 [] [.tmp 4] (h:=fun r h b c=>by
  unfold KJ at h;have:HA 0 30 29 0 fun(a:Int)(_:Unit)=>[(30,.tv (eI a))]:=⟨⟩;exact nz)
instance nL(g:d3)(p:B3):Ct prog (D7 g p) 206 [BO g,ON p] (fun r=>.sh (eI r)):=Fj f206 0x810e38977f8da6 [] [.tmp 4] (h:=fun r h a b=>by
  unfold D7 at h;exact nz)
instance me(g:d3)(p:B3):Ct prog (D6 g p) 169 [BO g,ON p] (fun r=>.tp [BO r.1,Br r.2.1,eI r.2.2]):=Fj f169 0x78023b81a9a904460e5c0e573808d7042b2a2908785b086baab1034803476504b1aaa16d7e804ab16d5c579205f9d3816008d7045f2b2a2908785b08a8b108785b0519181708785b086baa3201efb2570432816008785b055f19181708785b08a83209c936a9a901034602c80e388d0ac909c9a6 [] [.cell 4 (some 2),.cell 5 (some 2),.tmp 6] (h:=fun r h e f=>by
  unfold D6 at h;have:HA 0 25 24 0 fun(c:Int)(b:d3)=>[(8,.bx [⟨true,lI b.ci⟩,⟨true,lE b.d6⟩]),(25,.tv (eI c))]:=⟨⟩;have:HA 2 43 42 0 fun(d:Int)(a:d3)=>[(8,.bx [⟨true,lI a.ci⟩,⟨true,lE a.d6⟩]),(43,.tv (eI d))]:=⟨⟩;exact nz)
instance mf(a:d3)(b:d3)(m:ec):Ct prog (Cz a b m) 170 [BO a,BO b,Br m] (fun r=>.sh (eI r)):=Fj f170 0xa2494847d7066b90057e607e57535c605c57b85757929205c905f9d3d0d390e27ddf60d2494847d706a8b178742c2b2ad7066bb8b257b257906f577ddf605304745f2c2b2ad706a83290e20b5c53e3e3c6977f8d93a6 [] [.tmp 6] (h:=fun r h e f=>by
  unfold Cz at h;have:HA 0 44 43 0 fun(c:Int)(_:Unit)=>[(44,.tv (eI c))]:=⟨⟩;have:HA 2 73 72 0 fun(d:Int)(_:Unit)=>[(73,.tv (eI d))]:=⟨⟩;exact nz)
instance nM(l:D1):Ct prog (HP l) 208 [lI l] (fun r=>.sh (eI r)):=Fj f208 0x81152a142914991ae8 [] [.tmp 2] (h:=fun r h a b=>by
  unfold HP at h;exact nz)
instance mg(a:d3)(b:d3)(m:ec):Ct prog (Cr a b m) 171 [BO a,BO b,Br m] (fun r=>.sh (eB r)):=Fj f171 0xc3e20ef70a6f570e57530eec8d93a6 [] [.tmp 6] (h:=fun r h c d=>by
  unfold Cr at h;exact nz)
instance mA(a:jj):Ct prog (IU a) 135 [Fx a] (fun r=>.sh (eI r)):=Fj f135 0x8136c1380d423837be977f380d423837be9772a9a90a4909c9116d380b423837b101ac [] [.tmp 2] (h:=fun r h b c=>by
  unfold IU at h;exact nz)
instance mh(l:D1)(n:Int):Ct prog (Ju l n) 172 [lI l,eI n] (fun r=>.own (lI r)):=Fj f172 0x8202e7770500b67705cf7705cf3cbcef9ec1308153ad7705cf6c01c001405e02 [] [.tmp 4] (h:=fun r h c d=>by
  unfold Ju at h;have:HA 0 8 7 0 fun(a:Int)(b:D1)=>[(5,.ow (lI b)),(8,.tv (eI a))]:=⟨⟩;exact nz)
instance mB(a:jj):Ct prog (Kt a) 136 [Fx a] (fun r=>.tp [lI r.1,lI r.2]):=Fj f136 0x82820e0b3162be910d420e0bd4be6e0d4201400140ac [] [.tmp 2,.tmp 3] (h:=fun r h b c=>by
  unfold Kt at h;exact nz)
instance mj(a:Int)(b:AB)(c:d3):Ct prog (JY a b c) 173 [eI a,.pt (AS b).cells,.pt (BO c).cells] (fun r=>.sh (eB r)):=Fj f173 0x81febdb25780b703 [] [.tmp 4] (h:=fun r h d e=>by
  unfold JY at h;exact nz)
instance ml(a:Int)(b:d3)(c:AB):Ct prog (Er a b c) 174 [eI a,.pt (BO b).cells,.pt (AS c).cells] (fun r=>.sh (eB r)):=Fj f174 0x8189607e57605c5757389205f9d39e5e03 [] [.tmp 4] (h:=fun r h d e=>by
  unfold Er at h;exact nz)
instance mC(t:AB)(g:d3)(a:D1)(b:D1):Ct prog (GD t g a b) 137 [AS t,BO g,lI a,lI b] (fun r=>.sh (eB r)):=Fj f137 0xc3891030891030635b02 [] [.tmp 8] (h:=fun r h c d=>by
  unfold GD at h;exact nz)
instance nj(c:fd):Ct prog (Ep c) 236 [Af c] (fun r=>.sh (eB r)):=Fj f236 0xea9f536f03eb6f7e6f91326fd56f91a10b6ea1dc0bc9a5eb01ac [] [.tmp 2] (h:=fun r h a b=>by
  unfold Ep at h;exact nz)
abbrev uI(n:Nat):Prop:=∀(c:fd),Ct prog (BI n c) 209 [Af c] (fun r=>.sh (eB r))
abbrev uJ(n:Nat):Prop:=∀(k:fd),Ct prog (BP n k) 238 [Af k] (fun r=>.sh (eB r))
theorem gC(n:Nat)(_ih_209:uI n)(_ih_238:uJ n)(c:fd):Ct prog (BI (n+1) c) 209 [Af c] (fun r=>.sh (eB r)):=Fj f209 0xc3083f5c30ff049e049e5d55789ede0a0eba53011a090431055d1a0904310581789ede0a0eba5355789ede0a0eba53550583326c0bf7ac [.call 237 [.s 42,.c (.r6 238 [])]] [.tmp 2] (h:=fun r h b d=>by
  unfold BI at h;have:HJ 10 fun(a:Bool)=>[(4,.tv (eB a))]:=⟨⟩;exact nz)
theorem gF(n:Nat)(_ih_209:uI n)(_ih_238:uJ n)(k:fd):Ct prog (BP (n+1) k) 238 [Af k] (fun r=>.sh (eB r)):=Fj f238 0x8189ba01ac [] [.tmp 2] (h:=fun r h a b=>by
  unfold BP at h;exact nz)
theorem Y5:∀n:Nat,uI n/\uJ n:=by
  intro n
  induction n with
  |zero=>exact⟨(fun c=>⟨fun _ h=>by cases h⟩),(fun k=>⟨fun _ h=>by cases h⟩)⟩
  |succ n a=>exact⟨gC n a.1 a.2,gF n a.1 a.2⟩
instance nN(c:fd):Ct prog (Ed c) 209 [Af c] (fun r=>.sh (eB r)):=⟨fun r h=>by
  obtain ⟨N,a⟩:=Ey h;exact((Y5 N).1 c).snd r (a N (ae _))⟩
instance nm(k:fd):Ct prog (LR k) 238 [Af k] (fun r=>.sh (eB r)):=⟨fun r h=>by
  obtain ⟨N,a⟩:=Ey h;exact((Y5 N).2 k).snd r (a N (ae _))⟩
abbrev Q_210(n:Nat):Prop:=∀(c:fd),Ct prog (CA n c) 210 [Af c] (fun r=>.tp [eI r.1,eI r.2])
theorem gE(n:Nat)(_ih_210:Q_210 n)(c:fd):Ct prog (CA (n+1) c) 210 [Af c] (fun r=>.tp [eI r.1,eI r.2]):=Fj f210 0x6c30780278025d018557780103c50b7801066b302c7d306c6dba094b0cc9ba09437801035fc50b780106a8b16c30ac [] [.tmp 2,.tmp 3] (h:=fun r h e f=>by
  unfold CA at h;have:HA 0 13 12 0 fun(d:Int)(a:Int×Int)=>[(4,.tv (eI a.1)),(5,.tv (eI a.2)),(13,.tv (eI d))]:=⟨⟩;have:HJ 31 fun(b:Int)=>[(5,.tv (eI b))]:=⟨⟩;exact nz)
theorem gD:∀n:Nat,Q_210 n:=by
  intro n
  induction n with
  |zero=>exact(fun c=>⟨fun _ h=>by cases h⟩)
  |succ n a=>exact gE n a
instance nO(c:fd):Ct prog (Fv c) 210 [Af c] (fun r=>.tp [eI r.1,eI r.2]):=⟨fun r h=>by
  obtain ⟨N,a⟩:=Ey h;exact((gD N) c).snd r (a N (ae _))⟩
instance mn(c:fd):Ct prog (EN c) 175 [Af c] (fun r=>.sh (eI r)):=Fj f175 0x8190057ddf6dba36c1ba01ac [] [.tmp 2] (h:=fun r h a b=>by
  unfold EN at h;exact nz)
instance np(a:CT)(b:Int):Ct prog (G7 a b) 239 [Ef a,.pt [eI b]] (fun r=>.sh (eB r)):=Fj f239 0x9d036ea101bb [] [.tmp 3] (h:=fun r h c d=>by
  unfold G7 at h;exact nz)
instance nP(t:AB)(q:ff)(a:Int):Ct prog (Dl t q a) 211 [AS t,C3 q,eI a] (fun r=>.sh (eI r)):=Fj f211 0xa27704033c083d014b05314b0d4983ffe6c1107e005f9f03770403083d014b0dc901c6a58d63bc [] [.tmp 6] (h:=fun r h c d=>by
  unfold Dl at h;have:HW 0 fun(b:Int)=>[(8,.tv (.pt [eI b]))]:=⟨⟩;exact nz)
abbrev Q_176(n:Nat):Prop:=∀(t:AB)(p:ff)(c:fd),Ct prog (B4 n t p c) 176 [AS t,C3 p,Af c] (fun r=>.sh (eI r))
theorem gB(n:Nat)(_ih_176:Q_176 n)(t:AB)(p:ff)(c:fd):Ct prog (B4 (n+1) t p c) 176 [AS t,C3 p,Af c] (fun r=>.sh (eI r)):=Fj f176 0xa23534330403056bc6baa538094b0cc9ba0943005f353433040305a8b1787478743cdca536c138a1b5b5c638a1b5b5c69fa597859f9fdc0bc9a5eb858093bfac [.tI (.s 1)] [.tmp 6] (h:=fun r h b d=>by
  unfold B4 at h;have:HA 0 53 52 0 fun(a:Int)(_:Unit)=>[(53,.tv (eI a))]:=⟨⟩;exact nz)
theorem gA:∀n:Nat,Q_176 n:=by
  intro n
  induction n with
  |zero=>exact(fun t p c=>⟨fun _ h=>by cases h⟩)
  |succ n a=>exact gB n a
instance mo(t:AB)(p:ff)(c:fd):Ct prog (GT t p c) 176 [AS t,C3 p,Af c] (fun r=>.sh (eI r)):=⟨fun r h=>by
  obtain ⟨N,a⟩:=Ey h;exact((gA N) t p c).snd r (a N (ae _))⟩
instance mE(t:AB)(p:ff)(c:fd):Ct prog (Dg t p c) 138 [AS t,C3 p,Af c] (fun r=>.sh (eI r)):=Fj f138 0x810ebaa5977fbac6a58d93a6 [] [.tmp 6] (h:=fun r h a b=>by
  unfold Dg at h;exact nz)
instance qU(t:AB)(a:jj):Ct prog (Gf t a) 91 [AS t,Fx a] (fun r=>.sh (eI r)):=Fj f91 0x810eba1042a5b197c1303837be3882e1e4c6e4c6e4977fa5b197c1573672d18da6 [] [.tmp 4] (h:=fun r h b c=>by
  unfold Gf at h;exact nz)
instance pj(t:AB)(a:List jj)(b:AL):Ct prog (DI t a b) 55 [AS t,(eL 25 Fx) a,CL b] (fun r=>.sh (eI r)):=Fj f55 0x8155d16538055b1b1a190503056bc6e438194b0ec9e41943055b5f1b1a19050305dab8d83672d18d6330 [] [.tmp 6] (h:=fun r h d e=>by
  unfold DI at h;have:HA 0 27 26 0 fun(c:Int)(_:Unit)=>[(27,.tv (eI c))]:=⟨⟩;exact nz)
instance mF(t:AB)(b:jj)(a:AL):Ct prog (Gk t b a) 139 [AS t,Fx b,CL a] (fun r=>.sh (eI r)):=Fj f139 0x8155d165977fe49772d18d93a6 [] [.tmp 6] (h:=fun r h c d=>by
  unfold Gk at h;exact nz)
instance mq(t:AB)(p:ff)(a:AL):Ct prog (De t p a) 177 [AS t,C3 p,CL a] (fun r=>.sh (eI r)):=Fj f177 0x8155d165977fa58d93a6 [] [.tmp 6] (h:=fun r h b c=>by
  unfold De at h;exact nz)
instance oH(n:Int)(a:AB):Ct prog (I7 n a) 261 [eI n,.pt (AS a).cells] (fun r=>.sh (eB r)):=Fj f261 0x816f57b9 [] [.tmp 3] (h:=fun r h b c=>by
  unfold I7 at h;exact nz)
instance oI(a:Bv)(b:AB):Ct prog (I8 a b) 262 [Bp a,.pt (AS b).cells] (fun r=>.sh (eB r)):=Fj f262 0x81e280bb [] [.tmp 3] (h:=fun r h c d=>by
  unfold I8 at h;exact nz)
instance ns(t:AB)(g:d3):Ct prog (EY t g) 240 [AS t,BO g] (fun r=>.sh (eB r)):=Fj f240 0xc38910f7891080a6 [] [.tmp 4] (h:=fun r h a b=>by
  unfold EY at h;exact nz)
instance nQ(t:AB)(p:d3)(g:d3):Ct prog (Di t p g) 212 [AS t,BO p,BO g] (fun r=>.sh (eI r)):=Fj f212 0x819089388d89ec7874181716d7066bc638a909c938024378745f181716d7067002c7389772d18d93a6 [] [.tmp 6] (h:=fun r h b c=>by
  unfold Di at h;have:HA 0 24 23 0 fun(a:Int)(_:Unit)=>[(24,.tv (eI a))]:=⟨⟩;exact nz)
instance oL(t:AB)(a:Int):Ct prog (G5 t a) 268 [AS t,eI a] (fun r=>.tp [lI r.1,eI r.2]):=Fj f268 0xe9020701cb0702536bcb070253cb0702533cbcef9e8e3038810107adcb0702537080c0e6c07fb4c43040bb [] [.tmp 4,.tmp 5] (h:=fun r h d e=>by
  unfold G5 at h;have:HA 0 19 18 0 fun(b:Int)(c:D1)=>[(7,.ow (lI c)),(19,.tv (eI b))]:=⟨⟩;exact nz)
instance n7(t:AB):Ct prog (E5 t) 248 [AS t] (fun r=>.own ((eL 1 (eL 1 eB)) r)):=Fj f248 0x820231c531b6bcef1802c50531051c1b1ac50531086b01f801148160c50531055f1c1b1ac5053108da01e1c4993fe38101315fc531f580c00140ac [.tR 1 [.bool false] (.s 18)] [.tmp 2] (h:=fun r h e f=>by
  unfold E5 at h;have:HA 0 13 12 0 fun(b:Int)(c:List Ne)=>[(3,.ow ((eL 1 (eL 1 eB)) c)),(13,.tv (eI b))]:=⟨⟩;have:HA 2 28 27 0 fun(d:Int)(a:Ne)=>[(5,.xo 1 (List.map eB a)),(28,.tv (eI d))]:=⟨⟩;exact nz)
theorem gS:CK f281 (.seq (.region [⟨some 4,.mv (.c (.int .i64 0)),none⟩] [0,1])
 (.seq (.seq (.region [⟨some 5,.mv (.s 0),none⟩,
    ⟨some 6,.um (.s 5),none⟩] [0,1,6])
  (.cond (.s 6) (.seq (.region [⟨some 4,.mv (.c (.int .i64 (-1))),none⟩] [4])
   (.ret))
  (.skip [0,1])))
 (.seq (.region [⟨some 7,.mv (.s 0),none⟩,
    ⟨some 8,.mv (.s 1),none⟩,
    ⟨some 9,.tH (.s 7) (.s 8) 1,none⟩,
    ⟨some 10,.ld (.s 9),none⟩,
    ⟨some 4,.mv (.s 10),none⟩] [4])
 (.ret)))) [.tmp 4]:=by decide +kernel
instance oN(l:Option D1)(i:Int):Ct Go.Proofs.Tryz.prog (Kw l i) 281 [(eO 1 eI) l,eI i] (fun r=>.sh (eI r)):=Fi gS fun r h a b=>by
  cases l with
  |none=>replace h:some (-1)=some r:=h;exact au|some l=>replace h:((Uv l).bind fun _=>(idx l i).bind fun x=>some x)=some r:=h;exact au
instance oR(f:AU)(b:Int)(k:Int):Ct prog (EL f b k) 283 [.pt (Ll f).cells,eI b,eI k] (fun r=>.sh (eB r)):=Fj f283 0x813f0546607e0309f6605c0309f657d0849102f69005ed550e019105f69205f98431623730b703 [.bin (.a [0,0,0]) .eql (.s 38) (.s 57)] [.tmp 6] (h:=fun r h c d=>by
  unfold EL at h;exact nz)
instance oQ(f:AU):Ct prog (Ec f) 282 [.pt (Ll f).cells] (fun r=>.sh (eB r)):=Fj f282 0xa214cb0300055d14cb03000514cb03000581880114cb06030006262514cb06040300096bff14cb06030006018e6a810114cb060300065f262514cb06040300097091026255ff14cb03000585012c7e5c929df943d214cb030005a8016237556f030962e8 [] [.tmp 2] (h:=fun r h d e=>by
  unfold Ec at h;have:HA 0 20 19 0 fun(b:Int)(_:Unit)=>[(20,.tv (eI b))]:=⟨⟩;have:HA 2 38 37 0 fun(c:Int)(a:Bool)=>[(6,.tv (eB a)),(38,.tv (eI c))]:=⟨⟩;exact nz)
noncomputable def Re:PC:=PC.of Mu f263.body (xq bT 0xff963caa0b62024802470446201d0a7c201d097c040b7c3296a4a306cf5da4a306cfa4a306cf3c1f0af651011e0a7c32f0321f0af64fb4011e0a7c32ffa4a306cf8a0a20011d0a7c0103077c0108203032815eada4a306cf7091027c81151d0a7c816f31623732151d0a7c963f3e3d0200055d3f3e3d0200053f3e3d0200053c1f09f651011e097c323f3e3d0200053f3e3d0200053cf032a0321f09f64fb4011e097c32ff3f3e3d0200058a0a20011d097c0103077c010a08b260b2d4373203047c0173ed550e016e057c6c605ead3f3e3d020005a837027c81151d097c816fd43732151d097c00550503087c0b030b7c96) []
theorem gR:CK f263 Re []:=by decide +kernel
theorem gq:PC.ry Re=true/\PC.rr 0 Re=true:=by decide +kernel
abbrev Q_263(n:Nat):Prop:=∀(f:AU),Ct prog (BT n f) 263 [.undef] (fun r=>.bo (B9 f) (B9 r) 0 [])
theorem gI(n:Nat)(_ih_263:Q_263 n)(f:AU):Ct prog (BT (n+1) f) 263 [.undef] (fun r=>.bo (B9 f) (B9 r) 0 []):=PS gR gq fun r h i g j=>by
  unfold Re;unfold f263;unfold BT at h;have:HA 1 63 62 0 fun(e:Int)(b:AU)=>[(0,.bx (B9 b)),(63,.tv (eI e))]:=⟨⟩;have:HA 3 164 163 0 fun(d:Int)(c:AU)=>[(0,.bx (B9 c)),(164,.tv (eI d))]:=⟨⟩;have:HJ 28 fun(a:AU)=>[(0,.bx (B9 a))]:=⟨⟩;exact nz
theorem gH:∀n:Nat,Q_263 n:=by
  intro n
  induction n with
  |zero=>exact(fun f=>⟨fun _ h=>by cases h⟩)
  |succ n a=>exact gI n a
instance oJ(f:AU):Ct prog (EK f) 263 [.undef] (fun r=>.bo (B9 f) (B9 r) 0 []):=⟨fun r h=>by
  obtain ⟨N,a⟩:=Ey h;exact((gH N) f).snd r (a N (ae _))⟩
theorem gQ:CK f241 (Rq [Aa 6 0,Aa 7 1,Aa 8 2,Aa 9 3,⟨some 12,.tE 2,none⟩] [4,5,6,7,8,9]<|Sq (Dr [13,14,15,16,17,18,19,20,21] [Ab 14 7 2,Ab 15 8 2,Ab 16 6 2,⟨some 17,.call 248 [.s 16],none⟩,Ab 18 9 2,⟨some 19,.mv (.s 4),none⟩,⟨some 20,.mv (.s 5),none⟩,⟨some 21,.tn [.list 1 [],.list 3 [],.list 1 [],.list 3 [],.list 1 [],.nil,.nil,.bool false,.int .i64 0,.nil,.nil,.nil] [(0,2,.s 14),(2,2,.s 15),(4,1,.s 17),(5,2,.s 18),(7,1,.s 19),(8,1,.s 20)],none⟩,⟨some 22,.ta [none,none,none,none,none,none,none,none,none,some ⟨true,.xl 1 []⟩,some ⟨true,.xl 1 []⟩,some ⟨true,.list 2 []⟩] (.s 21),none⟩,⟨some 13,.bad 22 0,none⟩] [13,22])<|Rq [Ac 23 13 0,⟨some 24,.rJ 263 [.s 23] 0,none⟩] [13,22]<|Rq [Ac 25 13 0,Ac 26 25 0,Ac 27 26 11,⟨some 28,.ld (.s 27),none⟩,⟨some 12,.tk 28,none⟩] [12]<|.ret) [.tmp 12]:=by decide +kernel
instance nt(t:AB)(p:d3)(g:d3)(b:JM)(a:Bool)(c:Int):Ct prog (GE t p g b a c) 241 [AS t,BO p,BO g,ZA b,eB a,eI c] (fun r=>.sh ((eL 2 Br) r)):=Fi gQ fun r h d e=>by
  unfold GE at h;exact au
instance nR(t:AB)(p:d3)(g:d3)(b:JM)(a:Bool):Ct prog (Gg t p g b a) 213 [AS t,BO p,BO g,ZA b,eB a] (fun r=>.tp [(eL 2 Br) r.1,eI r.2]):=Fj f213 0xe9013602c085d8820ec4ec8d024063630401 [] [.tmp 10,.tmp 11] (h:=fun r h c d=>by
  unfold Gg at h;exact nz)
instance mr(t:AB)(p:d3)(g:d3)(a:Bool):Ct prog (Ho t p g a) 178 [AS t,BO p,BO g,eB a] (fun r=>.tp [(eL 2 Br) r.1,eI r.2]):=Fj f178 0xe9640e010746ec9702c07fec8d0240936331 [] [.tmp 8,.tmp 9] (h:=fun r h b c=>by
  unfold Ho at h;exact nz)
instance nS(a:qp)(b:D1):Ct prog (FO a b) 214 [RY a,lI b] (fun r=>.sh (eI r)):=Fj f214 0x9d5c6080365c8580bb [] [.tmp 4] (h:=fun r h c d=>by
  unfold FO at h;exact nz)
instance nv(a:Int)(b:Int):Ct prog (HH a b) 243 [eI a,eI b] (fun r=>.tp [eI r.1,G8 r.2]):=Fj f243 0x6c533f533f013fdf6401283f013f30e0 [.uj .u64 (.s 9),.uj .u64 (.s 11),.bin (.w) .shr (.s 16) (.c (.int .u64 63)),.bin (.w) .shr (.s 18) (.c (.int .u64 63)),.uj .i64 (.s 21)] [.tmp 4,.tmp 5] (h:=fun r h d e=>by
  unfold HH at h;exact nz)
instance nu(t:qp)(a:D1):Ct prog (FP t a) 242 [RY t,.pt [lI a]] (fun r=>.tp [eI r.1,G8 r.2.1,eB r.2.2]):=Fj f242 0x816c306c6d5c605703ff766c0a6f03575357816c306c6d5c9d576abb [] [.tmp 3,.tmp 4,.tmp 5] (h:=fun r h b c=>by
  unfold FP at h;exact nz)
instance nT(a:Test)(b:D1):Ct prog (GW a b) 215 [GY a,lI b] (fun r=>.sh (eB r)):=Fj f215 0xc3737d80737d57810eb4dddd90083008556c1164010f380342556c1164010f8d42551001a6 [] [.tmp 4] (h:=fun r h c d=>by
  unfold GW at h;exact nz)
instance mt(p:ff)(a:AL)(m:ec):Ct prog (HD p a m) 179 [C3 p,CL a,Br m] (fun r=>.tp [lI r.1,eI r.2]):=Fj f179 0xe91808db4b4a08b6e6c0882014a5dc06c9a5054308ad4c4b4a0804a8eb085b1918170908d7086be6c08501201438a11918170c0b0908d70a1918170c0b0908d70adef801f80591a1301401148a0817db011453556ea181605c606057577e9b07c9fb085b5f1918170908d708a8a199993f9f3f9f304093a6 [.tR 1 [.int .i64 0] (.s 17),.tR 1 [.bool false] (.s 20)] [.tmp 6,.tmp 7] (h:=fun r h e f=>by
  unfold HD at h;have:HA 0 25 24 0 fun(c:Int)(b:D1×Ne)=>[(8,.xo 1 (List.map eI b.1)),(9,.xo 1 (List.map eB b.2)),(25,.tv (eI c))]:=⟨⟩;have:HA 2 76 75 0 fun(d:Int)(_:Unit)=>[(76,.tv (eI d))]:=⟨⟩;exact nz)
instance mG(t:AB)(p:ff)(b:AL)(a:Bool):Ct prog (Dj t p b a) 140 [AS t,C3 p,CL b,eB a] (fun r=>.tp [(eL 3 B7) r.1,eI r.2]):=Fj f140 0xe9020d012827260d71066b2827260d71062827260d71063c02034803470846c40261e13865a5a90ac93802430dad2827260d7106daee36ee72e101b5b597ee7f65a58d0340936331 [] [.tmp 8,.tmp 9] (h:=fun r h e f=>by
  unfold Dj at h;have:HA 0 40 39 0 fun(c:Int)(d:List AR)=>[(13,.ow ((eL 3 B7) d)),(40,.tv (eI c))]:=⟨⟩;exact nz)
instance nW(t:AB)(p:d3)(g:d3)(m:ec):Ct prog (E6 t p g m) 218 [AS t,BO p,BO g,Br m] (fun r=>.sh (eI r)):=Fj f218 0xa2474645b3066b90057e607e57535c605c57b85757929205c905f9d3d0d390e27ddf60d2474645b306a8b1b30325242309b3076b368860b25760b280906f577ddfb2b3035f25242309b307a832820e3890e20b5c53e30b8063a6 [] [.tmp 8] (h:=fun r h c d=>by
  unfold E6 at h;have:HA 0 37 36 0 fun(a:Int)(_:Unit)=>[(37,.tv (eI a))]:=⟨⟩;have:HA 2 71 70 0 fun(b:Int)(_:Unit)=>[(71,.tv (eI b))]:=⟨⟩;exact nz)
theorem kA(l:D1)(r:Bool)(h:He l=some r):AI prog 247 [lI l] (.sh (eB r)):=by
  unfold He at h;rw[<-Yu]at h;split at h
  · rename_i a
    cases h;exact TP l a
  .cases h
instance ot(l:D1):Ct Go.Proofs.Tryz.prog (He l) 247 [lI l] (fun r=>.sh (eB r)):=⟨kA l⟩
instance nU(t:AB)(p:d3)(g:d3)(m:ec)(a:Bool):Ct prog (EJ t p g m a) 216 [AS t,BO p,BO g,Br m,eB a] (fun r=>.sh (eI r)):=Fj f216 0x81900a0e5c695730c638ec977fec8d63630401 [] [.tmp 10] (h:=fun r h b c=>by
  unfold EJ at h;exact nz)
instance nV(t:AB)(p:ff)(a:AL)(m:ec):Ct prog (Dd t p a m) 217 [AS t,C3 p,CL a,Br m] (fun r=>.tp [lI r.1,eI r.2]):=Fj f217 0xe9640e3865a5e6c07f38b5b59701c07f65a538304063a6 [] [.tmp 8,.tmp 9] (h:=fun r h b c=>by
  unfold Dd at h;exact nz)
instance mu(t:AB)(b:jj)(a:AL)(m:AR):Ct prog (GF t b a m) 180 [AS t,Fx b,CL a,B7 m] (fun r=>.sh (eI r)):=Fj f180 0x8136c17e013672e1b565a5b197850e030f42b5b53837b18d63a6 [] [.tmp 8] (h:=fun r h c d=>by
  unfold GF at h;exact nz)
instance mw(t:AB)(p:d3)(g:d3)(m:ec):Ct prog (ET t p g m) 181 [AS t,BO p,BO g,Br m] (fun r=>.tp [BO r.1,eI r.2]):=Fj f181 0x81a9380c08022726250c0806066baa3201efb257043281600c08025f2726250c080606a832025009c93f0e5c36a99ec80e38ec97a99ec80eec8d09c963a6 [.r8 [.z ⟨true,.list 1 []⟩,.w 34]] [.cell 8 (some 2),.tmp 9] (h:=fun r h c d=>by
  unfold ET at h;have:HA 0 39 38 0 fun(b:Int)(a:d3)=>[(12,.bx [⟨true,lI a.ci⟩,⟨true,lE a.d6⟩]),(39,.tv (eI b))]:=⟨⟩;exact nz)
instance nX(a:BX):Ct prog (CJ a) 219 [FR a] (fun r=>.sh (eI r)):=Fj f219 0x810e38ebb5c638be38a1b501ac [] [.tmp 2] (h:=fun r h b c=>by
  unfold CJ at h;exact nz)
instance n8(a:D1)(b:D1):Ct prog (GR a b) 249 [lI a,lI b] (fun r=>.own ((eL 2 Pm) r)):=Fj f249 0x8202e7e5055e056be5055e05e5b35e07abe5b35e07e5b35e073c0202480247094630028a0a896a89edd6d6e5055e05cd30e5b35e079d5553ade5055e05709ec002405e02 [] [.tmp 4] (h:=fun r h g i=>by
  unfold GR at h;have:HA 0 10 9 0 fun(d:Int)(e:List L0)=>[(5,.ow ((eL 2 Pm) e)),(10,.tv (eI d))]:=⟨⟩;have:HA 2 7 0 0 fun(f:Int)(c:List L0)=>[(5,.ow ((eL 2 Pm) c)),(7,.tv (eI f))]:=⟨⟩;exact nz)
instance nY(a:BX):Ct prog (Db a) 220 [FR a] (fun r=>.tp [(eL 2 Pm) r.1,(eL 2 Pm) r.2]):=Fj f220 0x82820e91eb91be0e6eeb6ebe02400240ac [] [.tmp 2,.tmp 3] (h:=fun r h b c=>by
  unfold Db at h;exact nz)
instance n9(a:BX):Ct prog (EB a) 250 [FR a] (fun r=>.own (lI r)):=Fj f250 0x820231e50831056be5083105e50831053cbcef9ec1016eeb6cb2315fe5083105a837be01c00140ac [] [.tmp 2] (h:=fun r h d e=>by
  unfold EB at h;have:HA 0 10 9 0 fun(b:Int)(c:D1)=>[(3,.ow (lI c)),(10,.tv (eI b))]:=⟨⟩;exact nz)
instance nZ(a:BX):Ct prog (Dz a) 221 [FR a] (fun r=>.own (lI r)):=Fj f221 0x82020401c50b0431066bc50b043106c50b0431063cbcef9e8a0a0e7e300e5c30890191be929df98404adc50b043106a80141a101c0820e08440140ac [] [.tmp 2] (h:=fun r h d e=>by
  unfold Dz at h;have:HA 0 13 12 0 fun(b:Int)(c:D1)=>[(4,.ow (lI c)),(13,.tv (eI b))]:=⟨⟩;exact nz)
instance na(n:Int)(a:D1)(b:D1):Ct prog (HE n a b) 222 [eI n,lI a,lI b] (fun r=>.own (lI r)):=Fj f222 0x82020a01201f1e0ab6201f1e0a04201f1e0a043cbcef9e88dfb20aad201f1e0af59801c00701cc0f0702056bcc0f070205cc0f070205def80114c1306cb207adcc0f070205da993f3040b703 [.tR 1 [.bool false] (.s 13)] [.tmp 6] (h:=fun r h g i=>by
  unfold HE at h;have:HA 0 17 16 0 fun(d:Int)(e:Ne)=>[(7,.xo 1 (List.map eB e)),(17,.tv (eI d))]:=⟨⟩;have:HA 2 32 31 0 fun(f:Int)(c:D1)=>[(10,.ow (lI c)),(32,.tv (eI f))]:=⟨⟩;exact nz)
instance my(l:d3)(g:d3)(a:B3)(m:ec):Ct prog (FJ l g a m) 182 [BO l,BO g,ON a,Br m] (fun r=>.tp [ON r.1,eI r.2]):=Fj f182 0x8013b81a904460e5c5c0b5c0e5757e3ff36a90346816f0e084481a903469d6f01d882e1084436a90103c80e0844084b0fc90a4638ec8d0ac963a6 [] [.cell 8 (some 2),.tmp 9] (h:=fun r h b c=>by
  unfold FJ at h;exact nz)
instance oA(t:AB)(p:ff)(c:fd)(b:AL)(m:AR)(a:Bool):Ct prog (EM t p c b m a) 251 [AS t,C3 p,Af c,CL b,B7 m,eB a] (fun r=>.sh (eI r)):=Fj f251 0x8136c17e013672e1b565a5977f01b5b5b59772d165977fbaa58d936363e7 [] [.tmp 12] (h:=fun r h d e=>by
  unfold EM at h;exact nz)
instance oT(n:Int)(b:D1)(a:D1):Ct prog (GU n b a) 293 [eI n,lI b,lI a] (fun r=>.own (lI r)):=Fj f293 0x821807010f0e0d0702056b01f8606a146cb207ad0f0e0d070205da991a30470140b703 [] [.tmp 6] (h:=fun r h e f=>by
  unfold GU at h;have:HA 0 15 14 0 fun(c:Int)(d:D1)=>[(7,.xo 1 (List.map eI d)),(15,.tv (eI c))]:=⟨⟩;exact nz)
instance oX(k:Int)(a:Int):Ct prog (KH k a) 298 [eI k,.pt [eI a]] (fun r=>.sh (eB r)):=Fj f298 0xea037db9 [] [.tmp 3] (h:=fun r h b c=>by
  unfold KH at h;exact nz)
instance oW(l:D1)(n:Int):Ct prog (Ft l n) 297 [lI l,eI n] (fun r=>.sh (eI r)):=Fj f297 0x81368e10309396 [] [.tmp 4] (h:=fun r h a b=>by
  unfold Ft at h;exact nz)
instance oU(t:AB)(p:d3)(g:d3)(b:ec)(a:Bool):Ct prog (FL t p g b a) 294 [AS t,BO p,BO g,Br b,eB a] (fun r=>.tp [(eL 2 Br) r.1,eI r.2]):=Fj f294 0xe9640ec4ec9702c07f0b5c5c3602c07fe3573602c08ae20b5c53e3e33602c07fec8d024063630401 [] [.tmp 10,.tmp 11] (h:=fun r h c d=>by
  unfold FL at h;exact nz)
instance oC(a:qp)(b:D1):Ct prog (F6 a b) 254 [RY a,lI b] (fun r=>.tp [eI r.1,eI r.2]):=Fj f254 0x6c0ec476c16f015730bb [] [.tmp 4,.tmp 5] (h:=fun r h c d=>by
  unfold F6 at h;exact nz)
instance oV(b:Ar)(q:ff)(m:ec)(a:D1):Ct prog (Et b q m a) 295 [Bq b,C3 q,Br m,lI a] (fun r=>.tp [lI r.1,eB r.2]):=Fj f295 0xe9180a016867660ab6e6c0882014a5dc06c9a505430aad6867660a04a8eb73022c2b2a0b0a7104086be6c08a05eddf6401201438a12c2b2a0f0e0b0a71040a2c2b2a0f0e0b0a71040adef801f80591a1301401148a0817db011453556ea181605c60605757fea19b07c9fb73025f2c2b2a0b0a710408a8a10b0a71040522210b0a7104076b01f8011481010b0a7104055f22210b0a7104077001993f9f993f6f019f1a6a40936331 [.s9 1 22 (.int .i64 0) (.s 27),.tR 1 [.bool false] (.s 30)] [.tmp 8,.tmp 9] (h:=fun r h i j=>by
  unfold Et at h;have:HA 0 34 33 0 fun(e:Int)(f:Ne)=>[(11,.xo 1 (List.map eB f)),(34,.tv (eI e))]:=⟨⟩;have:HA 2 44 43 0 fun(g:Int)(c:D1×Ne)=>[(10,.xo 1 (List.map eI c.1)),(11,.xo 1 (List.map eB c.2)),(44,.tv (eI g))]:=⟨⟩;have:HA 4 104 103 0 fun(d:Int)(_:Unit)=>[(104,.tv (eI d))]:=⟨⟩;exact nz)
instance oS(a:Ar)(c:fd)(m:AR):Ct prog (Bx a c m) 286 [Bq a,Af c,B7 m] (fun r=>.tp [(eL 3 B7) r.1,eI r.2]):=Fj f286 0xe9020c013b3a390cd7076b3b3a390cd7073b3a390cd7073c02034803470846c4026ce17e38a5eb0644a90ac93802430cad3b3a390cd707daee36ee72e1030542ec37a138b5a90ac904460e913291a10b5c0ed56ea1e3a909c93837eb01034093a6 [] [.tmp 6,.tmp 7] (h:=fun r h e f=>by
  unfold Bx at h;have:HA 0 59 58 0 fun(b:Int)(d:List AR)=>[(12,.ow ((eL 3 B7) d)),(59,.tv (eI b))]:=⟨⟩;exact nz)
abbrev uC(n:Nat):Prop:=∀(a:Ar)(c:fd)(m:AR),Ct prog (Ao n a c m) 252 [Bq a,Af c,B7 m] (fun r=>.tp [EC r.1,eI r.2])
abbrev uF(n:Nat):Prop:=∀(a:Ar)(c:fd)(m:AR),Ct prog (BB n a c m) 269 [Bq a,Af c,B7 m] (fun r=>.tp [EC r.1,eI r.2])
theorem gG(n:Nat)(_ih_252:uC n)(_ih_269:uF n)(b:Ar)(c:fd)(m:AR):Ct prog (Ao (n+1) b c m) 252 [Bq b,Af c,B7 m] (fun r=>.tp [EC r.1,eI r.2]):=Fj f252 0x9d4b0b46ff36dc64fcba06449d9d4b0b4606014b4a497103066b36dc010b46850136dc0c460547a572dc10c96d65ba0644094b810cc9ba098406ad4b4a49710306a8b19d9d4ba50a06022f2e2d0a7103076baaeb05480547a504eb36dc010bc8dc10c96d65ba0644094b0cc9ba09430a06025f2f2e2d0a710307a8b110c99d9d4b010b46ff36dc0b469d9d4b0b469d6cdc10496d65ba09435c06449d83320110c993a6 [] [.cell 6 (some 5),.tmp 7] (h:=fun r h g i=>by
  unfold Ao at h;have:HA 2 47 46 0 fun(f:Int)(a:Bh×Bh)=>[(6,.bx [⟨false,eI a.1.sL⟩,⟨true,lI a.1.qj.ec.ci⟩,⟨true,lI a.1.qj.ec.d6⟩,⟨true,lI a.1.qj.k8⟩,⟨true,IR a.1.qt⟩]),(10,.bx [⟨false,eI a.2.sL⟩,⟨true,lI a.2.qj.ec.ci⟩,⟨true,lI a.2.qj.ec.d6⟩,⟨true,lI a.2.qj.k8⟩,⟨true,IR a.2.qt⟩]),(47,.tv (eI f))]:=⟨⟩;have:HA 4 75 74 0 fun(e:Int)(d:Bh)=>[(6,.bx [⟨false,eI d.sL⟩,⟨true,lI d.qj.ec.ci⟩,⟨true,lI d.qj.ec.d6⟩,⟨true,lI d.qj.k8⟩,⟨true,IR d.qt⟩]),(75,.tv (eI e))]:=⟨⟩;exact nz)
theorem gJ(n:Nat)(_ih_252:uC n)(_ih_269:uF n)(a:Ar)(c:fd)(m:AR):Ct prog (BB (n+1) a c m) 269 [Bq a,Af c,B7 m] (fun r=>.tp [EC r.1,eI r.2]):=Fj f269 0x9d4b0b4606011b1a19060403066b36dc010b46850136dc0d460547a56561dc10c96d65ba09435c06449211f94306ad1b1a1906040306da36dc010bc8e165ba06440110c993a6 [] [.cell 6 (some 5),.tmp 7] (h:=fun r h e f=>by
  unfold BB at h;have:HA 0 27 26 0 fun(d:Int)(b:Bh)=>[(6,.bx [⟨false,eI b.sL⟩,⟨true,lI b.qj.ec.ci⟩,⟨true,lI b.qj.ec.d6⟩,⟨true,lI b.qj.k8⟩,⟨true,IR b.qt⟩]),(27,.tv (eI d))]:=⟨⟩;exact nz)
theorem Y6:∀n:Nat,uC n/\uF n:=by
  intro n
  induction n with
  |zero=>exact⟨(fun b c m=>⟨fun _ h=>by cases h⟩),(fun b c m=>⟨fun _ h=>by cases h⟩)⟩
  |succ n a=>exact⟨gG n a.1 a.2,gJ n a.1 a.2⟩
instance oB(a:Ar)(c:fd)(m:AR):Ct prog (DU a c m) 252 [Bq a,Af c,B7 m] (fun r=>.tp [EC r.1,eI r.2]):=⟨fun r h=>by
  obtain ⟨N,b⟩:=Ey h;exact((Y6 N).1 a c m).snd r (b N (ae _))⟩
instance oM(a:Ar)(c:fd)(m:AR):Ct prog (KB a c m) 269 [Bq a,Af c,B7 m] (fun r=>.tp [EC r.1,eI r.2]):=⟨fun r h=>by
  obtain ⟨N,b⟩:=Ey h;exact((Y6 N).2 a c m).snd r (b N (ae _))⟩
instance nc(t:AB)(p:ff)(c:fd)(b:AL)(m:AR)(a:Bool):Ct prog (Dk t p c b m a) 223 [AS t,C3 p,Af c,CL b,B7 m,eB a] (fun r=>.tp [EC r.1,eI r.2]):=Fj f223 0x9d4b64fcba0e46016597dc010bc80e016565baa58d10c9936363e7 [] [.cell 12 (some 5),.tmp 13] (h:=fun r h d e=>by
  unfold Dk at h;exact nz)
instance mz(t:AB)(p:ff)(c:fd)(b:AL)(m:AR)(a:Bool):Ct prog (C6 t p c b m a) 183 [AS t,C3 p,Af c,CL b,B7 m,eB a] (fun r=>.tp [eB r.1,eI r.2]):=Fj f183 0x6c53017661dc10496d016565baa53830936363e7 [] [.tmp 12,.tmp 13] (h:=fun r h d e=>by
  unfold C6 at h;exact nz)
instance m7(m:AR):Ct prog (Ja m) 184 [B7 m] (fun r=>.sh (B7 r)):=Fj f184 0xbc3b9208460e7e04460e91320ed511c9ac [] [.cell 2 (some 3)] (h:=fun r h a b=>by
  unfold Ja at h;exact nz)
instance m8(a:AL):Ct prog (KI a) 185 [CL a] (fun r=>.sh (CL r)):=Fj f185 0x92655b02cb115b056baaa101ef0148304704a182605b025fcb115b05a8a1035001c93f3f0e91320ed501c9ac [.r8 [.w 9,.w 13],.r8 [.g 14 0 2,.g 14 1 2,.z ⟨true,.list 1 []⟩]] [.cell 2 (some 3)] (h:=fun r h d e=>by
  unfold KI at h;have:HA 0 19 18 0 fun(c:Int)(b:AL)=>[(3,.bx [⟨true,lI b.d3.ci⟩,⟨true,lE b.d3.d6⟩,⟨true,(eL 1 lI) b.hT⟩]),(19,.tv (eI c))]:=⟨⟩;exact nz)
instance m9(n:Int)(l:D1):Ct prog (KY n l) 186 [eI n,lI l] (fun r=>.own (lI r)):=Fj f186 0x8218e7c5e7b601f83014c5b30106c5b30106de88df6d308153adc5e704819514993f30405e02 [.tR 1 [.int .i64 0] (.s 9)] [.tmp 4] (h:=fun r h c d=>by
  unfold KY at h;have:HA 0 13 12 0 fun(a:Int)(b:D1)=>[(5,.xo 1 (List.map eI b)),(13,.tv (eI a))]:=⟨⟩;exact nz)
instance nA(c:Int)(d:D1)(e:D1)(a:D1)(b:D1)(n:Int):Ct prog (JA c d e a b n) 187 [eI c,lI d,lI e,lI a,lI b,eI n] (fun r=>.own (lI r)):=Fj f187 0x82180d012b2a0d786b2b2a0d782b2a0d785d30f830148517db011481010dad2b2a0d788195140d05021615140d7831086b01f86060606a30146cb20d05025f1615140d783108da991a30470140785b5e06 [] [.tmp 12] (h:=fun r h k l=>by
  unfold JA at h;have:HA 0 22 21 0 fun(g:Int)(i:D1)=>[(13,.xo 1 (List.map eI i)),(22,.tv (eI g))]:=⟨⟩;have:HA 2 43 42 0 fun(j:Int)(f:Int×D1)=>[(5,.tv (eI f.1)),(13,.xo 1 (List.map eI f.2)),(43,.tv (eI j))]:=⟨⟩;exact nz)
instance nd(t:AB)(a:Int):Ct prog (Hr t a) 225 [AS t,eI a] (fun r=>.own (lI r)):=Fj f225 0x82020701cb1107b6bcef5c029b04c9fb07adcb110704da82b401e1018d40bb [] [.tmp 4] (h:=fun r h d e=>by
  unfold Hr at h;have:HA 0 19 18 0 fun(b:Int)(c:D1)=>[(7,.ow (lI c)),(19,.tv (eI b))]:=⟨⟩;exact nz)
noncomputable def Rc:PC:=PC.of Mu f188.body (xq bT 0x30b0afae01b6b0afaef2b0afaef23caa01621f62034803470546607e6e247c605c6e247c570401621f7c32850b31621f7cb291247c929df9436a5fb0afaef2a8b1079e7b7a790731066b7b7a790731067b7a790731063c1f02411f6221221ac42302411f7c32aa37371ff6eff237371f7c32850bd41f7cb26e247c6cb2079e5f7b7a79073106a8320731924a49070631076baa01621f62034803470546607e6e227c605c6e227c570401621f7c329205f984913281600731035f4b4a4907063107a8b1b331051e1d1cb331086b1f02411f622122014fb27e01562302411f7c32aa37371ff6efb2d50437371f7c328160b331055f1e1d1cb33108a832a99209c901c9383706623732651c7c6330) []
theorem gN:CK f188 Rc []:=by decide +kernel
theorem gn:PC.ry Rc=true/\PC.rr 1 Rc=true:=by decide +kernel
instance nB(t:AB)(a:BD)(d:B3):Ct prog (Hq t a d) 188 [AS t,.undef,ON d] (fun r=>.bo (Ca a) (Ca r) 1 []):=PS gN gn fun r h m l n=>by
  unfold Rc;unfold f188;unfold Hq at h;have:HA 0 30 29 0 fun(i:Int)(j:BD)=>[(1,.bx (Ca j)),(30,.tv (eI i))]:=⟨⟩;have:HA 2 75 74 0 fun(k:Int)(c:BD)=>[(1,.bx (Ca c)),(75,.tv (eI k))]:=⟨⟩;have:HA 4 123 122 0 fun(f:Int)(g:BD)=>[(1,.bx (Ca g)),(123,.tv (eI f))]:=⟨⟩;have:HA 6 176 175 0 fun(b:Int)(e:BD)=>[(1,.bx (Ca e)),(176,.tv (eI b))]:=⟨⟩;exact nz
theorem gP:CK f226 (.seq (.region [⟨some 1,.tz (.s 0),none⟩,
    ⟨some 2,.mv (.c .undef),none⟩,
    ⟨some 3,.mv (.c (.int .i64 0)),none⟩] [1])
 (.seq (.region [⟨some 12,.tZ,none⟩,
    ⟨some 4,.uo 12,none⟩] [1,4,12])
 (.seq (.seq (.region [⟨some 13,.bad 1 0,none⟩,
    ⟨some 14,.r9 (.s 13) 6,none⟩,
    ⟨some 15,.r9 (.s 14) 2,none⟩,
    ⟨some 16,.ld (.s 15),none⟩,
    ⟨some 17,.len (.s 16),none⟩,
    ⟨some 18,.mv (.c (.int .i64 0)),none⟩] [1,4,12,16,17,18])
 (.block 0 (.loop [1,4,12,16,17,18] (.seq (.region [⟨some 19,.bin (.i) .lss (.s 18) (.s 17),none⟩] [1,4,12,16,17,18,19])
 (.seq (.cond (.s 19) (.skip [1,4,12,16,17,18])
 (.exit 0 [4,12]))
 (.seq (.block 1 (.seq (.region [⟨some 20,.tH (.s 16) (.s 18) 4,none⟩,
    ⟨some 21,.tD (.s 20) 4,none⟩,
    ⟨some 6,.ud [⟨false,.int .i64 0⟩,⟨false,.int .i64 0⟩,⟨false,.int .i64 0⟩,⟨false,.int .i64 0⟩],none⟩,
    ⟨none,.tC 4 6 (.s 21),none⟩] [1,4,6,12,16,17,18])
 (.seq (.region [⟨some 23,.bad 6 2,none⟩,
    ⟨some 24,.tD (.s 23) 2,none⟩,
    ⟨some 25,.bad 1 25,none⟩,
    ⟨some 26,.r9 (.s 25) 2,none⟩,
    ⟨some 27,.ld (.s 26),none⟩,
    ⟨some 28,.call 254 [.s 24,.s 27],none⟩,
    ⟨some 22,.mv (.s 28),none⟩,
    ⟨some 29,.ext (.s 22) 0,none⟩,
    ⟨some 30,.ext (.s 22) 1,none⟩,
    ⟨some 7,.mv (.s 29),none⟩,
    ⟨some 8,.mv (.s 30),none⟩] [1,4,6,7,8,12,16,17,18])
 (.seq (.seq (.region [⟨some 31,.mv (.s 8),none⟩,
    ⟨some 32,.bin (.i) .neq (.s 31) (.c (.int .i64 0)),none⟩] [1,4,6,7,8,12,16,17,18,32])
 (.cond (.s 32) (.seq (.region [⟨some 33,.mv (.s 8),none⟩,
    ⟨some 2,.mv (.c .undef),none⟩,
    ⟨some 3,.mv (.s 33),none⟩] [2,3,12])
 .ret)
 (.skip [1,4,6,7,12,16,17,18])))
 (.seq (.draw [9,34,35,36,37,38,39,40,41,42,43] [⟨some 34,.bad 1 36,none⟩,
    ⟨some 35,.r9 (.s 34) 0,none⟩,
    ⟨some 36,.ld (.s 35),none⟩,
    ⟨some 37,.bad 6 0,none⟩,
    ⟨some 38,.ld (.s 37),none⟩,
    ⟨some 39,.tH (.s 36) (.s 38) 1,none⟩,
    ⟨some 40,.ld (.s 39),none⟩,
    ⟨some 41,.bad 6 1,none⟩,
    ⟨some 42,.ld (.s 41),none⟩,
    ⟨some 43,.tn [.int .i64 0,.int .i64 0] [(0,1,.s 40),(1,1,.s 42)],none⟩,
    ⟨some 9,.ud [⟨false,.int .i64 0⟩,⟨false,.int .i64 0⟩],none⟩,
    ⟨none,.tC 2 9 (.s 43),none⟩] [1,4,7,9,12,16,17,18])
 (.seq (.seq (.region [⟨some 45,.mv (.s 4),none⟩,
    ⟨some 46,.tD (.s 9) 2,none⟩,
    ⟨some 47,.uK 12 (.s 45) (.s 46),none⟩,
    ⟨some 44,.mv (.s 47),none⟩,
    ⟨some 48,.ext (.s 44) 0,none⟩,
    ⟨some 49,.ext (.s 44) 1,none⟩,
    ⟨some 10,.mv (.s 48),none⟩,
    ⟨some 11,.mv (.s 49),none⟩] [1,4,7,9,10,11,12,16,17,18])
 (.seq (.region [⟨some 50,.mv (.s 11),none⟩,
    ⟨some 51,.mv (.s 50),none⟩,
    ⟨some 52,.mv (.s 10),some (51,true)⟩,
    ⟨some 53,.mv (.s 7),some (51,true)⟩,
    ⟨some 54,.bin (.i) .neq (.s 52) (.s 53),some (51,true)⟩,
    ⟨some 55,.pick (.s 51) (.s 54) (.c (.bool false)),none⟩] [1,4,7,9,12,16,17,18,55])
 (.cond (.s 55) (.seq (.region [⟨some 2,.mv (.c .undef),none⟩,
    ⟨some 3,.mv (.c (.int .i64 11)),none⟩] [2,3,12])
 .ret)
 (.skip [1,4,7,9,12,16,17,18]))))
 (.region [⟨some 56,.mv (.s 4),none⟩,
    ⟨some 57,.tD (.s 9) 2,none⟩,
    ⟨some 58,.mv (.s 7),none⟩,
    ⟨none,.ul 12 (.s 56) (.s 57) (.s 58),none⟩] [1,4,12,16,17,18])))))))
 (.region [⟨some 59,.bin (.i) .add (.s 18) (.c (.int .i64 1)),none⟩,
    ⟨some 18,.mv (.s 59),none⟩] [1,4,12,16,17,18])))))))
 (.seq (.region [⟨some 60,.mv (.s 4),none⟩,
    ⟨some 2,.mv (.s 60),none⟩,
    ⟨some 3,.mv (.c (.int .i64 0)),none⟩] [2,3,12])
 .ret)))) [.tmp 2,.tmp 3]:=by decide +kernel
instance oj(s:BD):Ct Go.Proofs.Tryz.prog (IG s) 226 [Tb s] Ip:=ku gP fun r h d e=>by
  unfold IG at h;have K:∀b:Nat,HA 0 18 17 0 fun(a:Int)(c:Bf)=>[(12,.mx (.mp b c)),(18,.tv (eI a))]:=fun _=>⟨⟩;have:jY 12:=⟨⟩;exact au
theorem Qq(t:AB)(s:BD)(V:List D1)(p:(Int×Int)×Int)(a:Bf)(r:Bk (List D1) Unit)(h:Jh t s V p=some r):WP (AI Go.Proofs.Tryz.prog) (.block 1 (.seq (.region [⟨some 25,.ut 22,none⟩,
    ⟨some 26,.ext (.s 25) 0,none⟩,
    ⟨some 27,.ext (.s 25) 1,none⟩,
    ⟨some 7,.ud [⟨false,.int .i64 0⟩,⟨false,.int .i64 0⟩],none⟩,
    ⟨none,.tC 2 7 (.s 26),none⟩,
    ⟨some 8,.mv (.s 27),none⟩] [1,2,7,8,22])
 (.seq (.draw [9,10,28,29,30,31,32,33,34,35,36,37,38,39,40,41,42] [⟨some 29,.tD (.s 2) 2,none⟩,
    ⟨some 30,.bad 1 0,none⟩,
    ⟨some 31,.r9 (.s 30) 0,none⟩,
    ⟨some 32,.r9 (.s 31) 31,none⟩,
    ⟨some 33,.r9 (.s 32) 0,none⟩,
    ⟨some 34,.r9 (.s 33) 0,none⟩,
    ⟨some 35,.ld (.s 34),none⟩,
    ⟨some 36,.bad 7 0,none⟩,
    ⟨some 37,.ld (.s 36),none⟩,
    ⟨some 38,.tH (.s 35) (.s 37) 1,none⟩,
    ⟨some 39,.ld (.s 38),none⟩,
    ⟨some 40,.call 112 [.s 29,.s 39],none⟩,
    ⟨some 28,.mv (.s 40),none⟩,
    ⟨some 41,.ext (.s 28) 0,none⟩,
    ⟨some 42,.ext (.s 28) 1,none⟩,
    ⟨some 9,.mv (.s 41),none⟩,
    ⟨some 10,.mv (.s 42),none⟩] [1,2,7,8,9,22])
 (.seq (.seq (.region [⟨some 43,.mv (.s 8),none⟩,
    ⟨some 44,.mv (.s 9),none⟩,
    ⟨some 45,.bad 7 1,none⟩,
    ⟨some 46,.ld (.s 45),none⟩,
    ⟨some 47,.tH (.s 44) (.s 46) 4,none⟩,
    ⟨some 48,.r9 (.s 47) 1,none⟩,
    ⟨some 49,.ld (.s 48),none⟩,
    ⟨some 50,.bin (.i) .lss (.s 43) (.s 49),none⟩,
    ⟨some 51,.mv (.s 50),none⟩,
    ⟨some 52,.mv (.s 8),some (51,false)⟩,
    ⟨some 53,.mv (.s 9),some (51,false)⟩,
    ⟨some 54,.bad 7 1,some (51,false)⟩,
    ⟨some 55,.ld (.s 54),some (51,false)⟩,
    ⟨some 56,.tH (.s 53) (.s 55) 4,some (51,false)⟩,
    ⟨some 57,.r9 (.s 56) 2,some (51,false)⟩,
    ⟨some 58,.ld (.s 57),some (51,false)⟩,
    ⟨some 59,.bin (.i) .gtr (.s 52) (.s 58),some (51,false)⟩,
    ⟨some 60,.pick (.s 51) (.c (.bool true)) (.s 59),none⟩] [1,2,7,8,22,60])
 (.cond (.s 60) (.seq (.region [⟨some 4,.mv (.c (.int .i64 6)),none⟩] [1,4])
 .ret)
 (.skip [1,2,7,8,22])))
 (.draw [61,62,63,64,65,66,67,68,69,70,71,72,73] [⟨some 61,.bad 1 0,none⟩,
    ⟨some 62,.r9 (.s 61) 0,none⟩,
    ⟨some 63,.r9 (.s 62) 31,none⟩,
    ⟨some 64,.r9 (.s 63) 2,none⟩,
    ⟨some 65,.ux (.s 64),none⟩,
    ⟨some 66,.bad 7 0,none⟩,
    ⟨some 67,.ld (.s 66),none⟩,
    ⟨some 68,.tY (.s 65) (.s 67),none⟩,
    ⟨some 69,.uw (.s 68),none⟩,
    ⟨some 70,.bad 7 1,none⟩,
    ⟨some 71,.ld (.s 70),none⟩,
    ⟨some 72,.mv (.s 8),none⟩,
    ⟨some 73,.tY (.s 69) (.s 71),none⟩,
    ⟨none,.tX (.s 73) (.s 72),none⟩] [1,2,22]))))) ⟨fun e=>∃b,r=.next b/\Rn (e.kq [1,2,22]) [(1,.bx (Ca (Jw s b))),(2,.tv (.pt (AS t).cells)),(22,.mx (.mi (some p) a))],fun _ _=>False,fun e=>∃v,r=.ret v/\Rn e [(1,.bx (Ca (Jw s V))),(4,.tv (eI 6))]⟩ [(1,.bx (Ca (Jw s V))),(2,.tv (.pt (AS t).cells)),(22,.mx (.mi (some p) a))]:=by
  unfold Jh at h;exact au
noncomputable def Rd:PC:=(.seq (.region [⟨some 2,.tz (.s 0),none⟩,
    ⟨some 4,.mv (.c (.int .i64 0)),none⟩] [1,2])
 (.seq (.region [⟨some 12,.bad 1 0,none⟩,
    ⟨some 13,.r9 (.s 12) 0,none⟩,
    ⟨some 14,.tD (.s 13) 38,none⟩,
    ⟨some 15,.sA 226 [.s 14],none⟩,
    ⟨some 11,.uo 15,none⟩,
    ⟨some 16,.ext (.s 11) 0,none⟩,
    ⟨some 17,.ext (.s 11) 1,none⟩,
    ⟨some 5,.mv (.s 16),none⟩,
    ⟨some 6,.mv (.s 17),none⟩] [1,2,5,6,15])
 (.seq (.seq (.region [⟨some 18,.mv (.s 6),none⟩,
    ⟨some 19,.bin (.i) .neq (.s 18) (.c (.int .i64 0)),none⟩] [1,2,5,6,15,19])
 (.cond (.s 19) (.seq (.region [⟨some 20,.mv (.s 6),none⟩,
    ⟨some 4,.mv (.s 20),none⟩] [1,4])
 .ret)
 (.skip [1,2,5,15])))
 (.seq (.seq (.region [⟨some 21,.mv (.s 5),none⟩,
    ⟨some 22,.rm 15 (.s 21),none⟩] [1,2,22])
 (.block 0 (.loop [1,2,22] (.seq (.region [⟨some 23,.uA 22,none⟩,
    ⟨some 24,.ext (.s 23) 0,none⟩] [1,2,22,24])
 (.seq (.cond (.s 24) (.skip [1,2,22])
 (.exit 0 [1]))
 (.block 1 (.seq (.region [⟨some 25,.ut 22,none⟩,
    ⟨some 26,.ext (.s 25) 0,none⟩,
    ⟨some 27,.ext (.s 25) 1,none⟩,
    ⟨some 7,.ud [⟨false,.int .i64 0⟩,⟨false,.int .i64 0⟩],none⟩,
    ⟨none,.tC 2 7 (.s 26),none⟩,
    ⟨some 8,.mv (.s 27),none⟩] [1,2,7,8,22])
 (.seq (.draw [9,10,28,29,30,31,32,33,34,35,36,37,38,39,40,41,42] [⟨some 29,.tD (.s 2) 2,none⟩,
    ⟨some 30,.bad 1 0,none⟩,
    ⟨some 31,.r9 (.s 30) 0,none⟩,
    ⟨some 32,.r9 (.s 31) 31,none⟩,
    ⟨some 33,.r9 (.s 32) 0,none⟩,
    ⟨some 34,.r9 (.s 33) 0,none⟩,
    ⟨some 35,.ld (.s 34),none⟩,
    ⟨some 36,.bad 7 0,none⟩,
    ⟨some 37,.ld (.s 36),none⟩,
    ⟨some 38,.tH (.s 35) (.s 37) 1,none⟩,
    ⟨some 39,.ld (.s 38),none⟩,
    ⟨some 40,.call 112 [.s 29,.s 39],none⟩,
    ⟨some 28,.mv (.s 40),none⟩,
    ⟨some 41,.ext (.s 28) 0,none⟩,
    ⟨some 42,.ext (.s 28) 1,none⟩,
    ⟨some 9,.mv (.s 41),none⟩,
    ⟨some 10,.mv (.s 42),none⟩] [1,2,7,8,9,22])
 (.seq (.seq (.region [⟨some 43,.mv (.s 8),none⟩,
    ⟨some 44,.mv (.s 9),none⟩,
    ⟨some 45,.bad 7 1,none⟩,
    ⟨some 46,.ld (.s 45),none⟩,
    ⟨some 47,.tH (.s 44) (.s 46) 4,none⟩,
    ⟨some 48,.r9 (.s 47) 1,none⟩,
    ⟨some 49,.ld (.s 48),none⟩,
    ⟨some 50,.bin (.i) .lss (.s 43) (.s 49),none⟩,
    ⟨some 51,.mv (.s 50),none⟩,
    ⟨some 52,.mv (.s 8),some (51,false)⟩,
    ⟨some 53,.mv (.s 9),some (51,false)⟩,
    ⟨some 54,.bad 7 1,some (51,false)⟩,
    ⟨some 55,.ld (.s 54),some (51,false)⟩,
    ⟨some 56,.tH (.s 53) (.s 55) 4,some (51,false)⟩,
    ⟨some 57,.r9 (.s 56) 2,some (51,false)⟩,
    ⟨some 58,.ld (.s 57),some (51,false)⟩,
    ⟨some 59,.bin (.i) .gtr (.s 52) (.s 58),some (51,false)⟩,
    ⟨some 60,.pick (.s 51) (.c (.bool true)) (.s 59),none⟩] [1,2,7,8,22,60])
 (.cond (.s 60) (.seq (.region [⟨some 4,.mv (.c (.int .i64 6)),none⟩] [1,4])
 .ret)
 (.skip [1,2,7,8,22])))
 (.draw [61,62,63,64,65,66,67,68,69,70,71,72,73] [⟨some 61,.bad 1 0,none⟩,
    ⟨some 62,.r9 (.s 61) 0,none⟩,
    ⟨some 63,.r9 (.s 62) 31,none⟩,
    ⟨some 64,.r9 (.s 63) 2,none⟩,
    ⟨some 65,.ux (.s 64),none⟩,
    ⟨some 66,.bad 7 0,none⟩,
    ⟨some 67,.ld (.s 66),none⟩,
    ⟨some 68,.tY (.s 65) (.s 67),none⟩,
    ⟨some 69,.uw (.s 68),none⟩,
    ⟨some 70,.bad 7 1,none⟩,
    ⟨some 71,.ld (.s 70),none⟩,
    ⟨some 72,.mv (.s 8),none⟩,
    ⟨some 73,.tY (.s 69) (.s 71),none⟩,
    ⟨none,.tX (.s 73) (.s 72),none⟩] [1,2,22]))))))))))
 (.seq (.region [⟨some 4,.mv (.c (.int .i64 0)),none⟩] [1,4])
 .ret)))))
theorem gO:CK f189 Rd [.tmp 4]:=by decide +kernel
theorem gp:PC.ry Rd=true/\PC.rr 1 Rd=true:=by decide +kernel
variable{t:AB}{s:BD}
theorem UZ{p:(Int×Int)×Int}{b:Bool}(h:LC t s p=some b){V:List D1}(a:Kc V s.q9.hT):
    (b=true->Jh t s V p=some (.next (D9 V p)))/\(b=false->Jh t s V p=some (.ret ())):=by
  unfold LC Jh at h;unfold Jh;obtain⟨c,d,h⟩:=bind_some h;obtain⟨q,f,d⟩:=bind_some d;obtain⟨r,g,d⟩:=bind_some d;obtain⟨u,i,d⟩:=bind_some d;obtain⟨j,k,d⟩:=bind_some d;simp only[f,g,i,Option.bind_some]at *;rw[k,Option.bind_some];cases j with
  |true=>
    simp only[if_true,rb]at d|-;subst d;simp only[rb]at h;subst h;exact⟨fun e=>(by cases e),fun _=>trivial⟩
  |false=>
    simp only[Bool.false_eq_true,if_false]at d|-;obtain⟨v,l,d⟩:=bind_some d;obtain⟨w,m,d⟩:=bind_some d;cases d;simp only[rb]at h;subst h;obtain⟨x,x',n,o⟩:=a.idx l m;refine⟨fun _=>?_,fun e=>(by cases e)⟩;rw[n,Option.bind_some,o,Option.bind_some,XW n o]
theorem Vx{a:Bf}{c:Bool}(g:a.Dis)(k:sN (LC t s) a=some c){L y:AA->Prop}{x:Nat->AA->Prop}{d:AA->Prop}
    (f:c=true->y [(1,.bx (Ca (Jw s (a.foldl D9 s.q9.hT))))])(m:c=false->∀V,d [(1,.bx (Ca (Jw s V))),(4,.tv (eI 6))]):
    WP (AI Go.Proofs.Tryz.prog) (.loop [1,2,22] (.seq (.region [⟨some 23,.uA 22,none⟩,
    ⟨some 24,.ext (.s 23) 0,none⟩] [1,2,22,24])
 (.seq (.cond (.s 24) (.skip [1,2,22])
 (.exit 0 [1]))
 (.block 1 (.seq (.region [⟨some 25,.ut 22,none⟩,
    ⟨some 26,.ext (.s 25) 0,none⟩,
    ⟨some 27,.ext (.s 25) 1,none⟩,
    ⟨some 7,.ud [⟨false,.int .i64 0⟩,⟨false,.int .i64 0⟩],none⟩,
    ⟨none,.tC 2 7 (.s 26),none⟩,
    ⟨some 8,.mv (.s 27),none⟩] [1,2,7,8,22])
 (.seq (.draw [9,10,28,29,30,31,32,33,34,35,36,37,38,39,40,41,42] [⟨some 29,.tD (.s 2) 2,none⟩,
    ⟨some 30,.bad 1 0,none⟩,
    ⟨some 31,.r9 (.s 30) 0,none⟩,
    ⟨some 32,.r9 (.s 31) 31,none⟩,
    ⟨some 33,.r9 (.s 32) 0,none⟩,
    ⟨some 34,.r9 (.s 33) 0,none⟩,
    ⟨some 35,.ld (.s 34),none⟩,
    ⟨some 36,.bad 7 0,none⟩,
    ⟨some 37,.ld (.s 36),none⟩,
    ⟨some 38,.tH (.s 35) (.s 37) 1,none⟩,
    ⟨some 39,.ld (.s 38),none⟩,
    ⟨some 40,.call 112 [.s 29,.s 39],none⟩,
    ⟨some 28,.mv (.s 40),none⟩,
    ⟨some 41,.ext (.s 28) 0,none⟩,
    ⟨some 42,.ext (.s 28) 1,none⟩,
    ⟨some 9,.mv (.s 41),none⟩,
    ⟨some 10,.mv (.s 42),none⟩] [1,2,7,8,9,22])
 (.seq (.seq (.region [⟨some 43,.mv (.s 8),none⟩,
    ⟨some 44,.mv (.s 9),none⟩,
    ⟨some 45,.bad 7 1,none⟩,
    ⟨some 46,.ld (.s 45),none⟩,
    ⟨some 47,.tH (.s 44) (.s 46) 4,none⟩,
    ⟨some 48,.r9 (.s 47) 1,none⟩,
    ⟨some 49,.ld (.s 48),none⟩,
    ⟨some 50,.bin (.i) .lss (.s 43) (.s 49),none⟩,
    ⟨some 51,.mv (.s 50),none⟩,
    ⟨some 52,.mv (.s 8),some (51,false)⟩,
    ⟨some 53,.mv (.s 9),some (51,false)⟩,
    ⟨some 54,.bad 7 1,some (51,false)⟩,
    ⟨some 55,.ld (.s 54),some (51,false)⟩,
    ⟨some 56,.tH (.s 53) (.s 55) 4,some (51,false)⟩,
    ⟨some 57,.r9 (.s 56) 2,some (51,false)⟩,
    ⟨some 58,.ld (.s 57),some (51,false)⟩,
    ⟨some 59,.bin (.i) .gtr (.s 52) (.s 58),some (51,false)⟩,
    ⟨some 60,.pick (.s 51) (.c (.bool true)) (.s 59),none⟩] [1,2,7,8,22,60])
 (.cond (.s 60) (.seq (.region [⟨some 4,.mv (.c (.int .i64 6)),none⟩] [1,4])
 .ret)
 (.skip [1,2,7,8,22])))
 (.draw [61,62,63,64,65,66,67,68,69,70,71,72,73] [⟨some 61,.bad 1 0,none⟩,
    ⟨some 62,.r9 (.s 61) 0,none⟩,
    ⟨some 63,.r9 (.s 62) 31,none⟩,
    ⟨some 64,.r9 (.s 63) 2,none⟩,
    ⟨some 65,.ux (.s 64),none⟩,
    ⟨some 66,.bad 7 0,none⟩,
    ⟨some 67,.ld (.s 66),none⟩,
    ⟨some 68,.tY (.s 65) (.s 67),none⟩,
    ⟨some 69,.uw (.s 68),none⟩,
    ⟨some 70,.bad 7 1,none⟩,
    ⟨some 71,.ld (.s 70),none⟩,
    ⟨some 72,.mv (.s 8),none⟩,
    ⟨some 73,.tY (.s 69) (.s 71),none⟩,
    ⟨none,.tX (.s 73) (.s 72),none⟩] [1,2,22])))))))) ⟨L,fun j e=>if j=0 then y e else x j e,d⟩ [(1,.bx (Ca s)),(2,.tv (.pt (AS t).cells)),(22,.mx (.mi none a))]:=by
  obtain ⟨m1,Q⟩:=P8 k;refine⟨bW _ (σ:=List D1×Option ((Int×Int)×Int)×Bf) (fun σ=>[(1,.bx (Ca (Jw s σ.1))),(2,.tv (.pt (AS t).cells)),(22,.mx (.mi σ.2.1 σ.2.2))])
    (fun σ=>Kc σ.1 s.q9.hT/\(∀l,σ.2.2.Perm l->l.foldl D9 σ.1=a.foldl D9 s.q9.hT)/\(∀p∈σ.2.2,p∈a)/\(c=false->∃p∈σ.2.2,LC t s p=some false))
    (fun σ=>σ.2.2.length) (s.q9.hT,none,a) rfl ⟨rfl,fun l z=>Ub g z _,fun p o=>o,Q⟩ ?_⟩
  rintro ⟨V,last,r⟩ ⟨H,I,J,K⟩ U;refine WP.out (?_:WP _ _ _ _);apply HC;apply KL;refine iw rfl (by decide) (fun e=>?_) (fun p n o=>?_)
  · simp only at e
    subst e;have O:c=true:=by
      cases c with
      |true=>rfl|false=>obtain⟨p,o,_⟩:=K rfl;cases o
    have P:V=a.foldl D9 s.q9.hT:=I [] (List.Perm.refl _);apply Mi;exact rfl;exact rfl;apply Ib;(focus (repeat(first|exact FX|(apply HM;exact rfl)|(apply HI;exact rfl)|(apply HK;exact rfl)|(apply HN;exact rfl)|(apply HL;exact rfl))));intro B;apply HC;apply Lc;exact rfl;exact rfl;apply Vi;(focus (repeat(first|exact FX|(apply HM;exact rfl)|(apply HI;exact rfl)|(apply HK;exact rfl)|(apply HN;exact rfl)|(apply HL;exact rfl))));show(if(0:Nat)=0 then y [(1,.bx (Ca (Jw s V)))]else x 0 [(1,.bx (Ca (Jw s V)))]);rw[QQ rfl,P];exact f O
  · apply Mi;exact rfl;exact rfl
    apply Ib;(focus (repeat(first|exact FX|(apply HM;exact rfl)|(apply HI;exact rfl)|(apply HK;exact rfl)|(apply HN;exact rfl)|(apply HL;exact rfl))));intro B;apply HC;apply Ld;exact rfl;exact rfl;apply Ru;(focus (repeat(first|exact FX|(apply HM;exact rfl)|(apply HI;exact rfl)|(apply HK;exact rfl)|(apply HN;exact rfl)|(apply HL;exact rfl))));intro N;have C:p∈r:=o.mem_iff.2 (by simp);obtain⟨b,G,D⟩:=m1 p (J p C);obtain⟨R,S⟩:=UZ G H;cases b with
    |true=>
      refine ⟨PC.pc _ _ _ _ (Qq t s V p n _ (R rfl)).out _ (fun e he=>?_) (fun _ _ h=>h.elim) (fun e he=>?_)⟩
      · obtain⟨T,w,E⟩:=he
        cases w;refine⟨(D9 V p,some p,n),E.out,⟨(Vw V p).trans H,fun l z=>?_,fun q A=>J q (o.mem_iff.2 (by simp[A])),fun M=>?_⟩,?_⟩
        .exact I (p::l) (o.trans (z.cons p))
        · obtain⟨q,A,u⟩:=K M
          rcases List.mem_cons.1 (o.mem_iff.1 A)with rfl|F
          .rw[G]at u;cases u
          .exact⟨q,F,u⟩
        · have:=o.length_eq
          simp only[bk]at this;show n.length<r.length;omega
      · obtain⟨v,w,_⟩:=he
        cases w
    |false=>
      refine ⟨PC.pc _ _ _ _ (Qq t s V p n _ (S rfl)).out _ (fun e he=>?_) (fun _ _ h=>h.elim) (fun e he=>?_)⟩
      · obtain⟨T,w,_⟩:=he
        cases w
      · obtain⟨v,_,E⟩:=he
        rw [E.out];exact m (by cases c with|false=>rfl|true=>exact absurd (D rfl) (by simp)) V
instance od(t:AB)(s:BD):Ct Go.Proofs.Tryz.prog (IX t s) 189 [AS t,.undef] (fun r=>.bo (Ca s) (if(!decide (r.1=0))=true then(Ca r.2).set 33 ⟨false,.undef⟩else Ca r.2) 1 [eI r.1]):=ju gO gp fun r h u k=>by
  unfold Rd;unfold IX at h;obtain⟨a,p,h⟩:=bind_some h;have d:=(inferInstance:Ct Go.Proofs.Tryz.prog (IG s) 226 [Tb s] Ip).snd a p;apply HC;apply KL;apply WV;exact rfl;exact rfl;apply KG;exact rfl;apply Ib;(focus (repeat(first|exact FX|(apply HM;exact rfl)|(apply HI;exact rfl)|(apply HK;exact rfl)|(apply HN;exact rfl)|(apply HL;exact rfl))));intro l;apply HC;apply KL
  first|(apply ZP;exact rfl)|(apply WU;exact rfl)
  first|(apply ZQ;exact rfl)|(apply WX;exact rfl;exact rfl)
  apply Rg;exact rfl;exact rfl;exact rfl;by_cases he:a.2=0
  · have e:Ip a=.mpr a.1 [.int .i64 a.2]:=QQ he
    rw [e]at d;rw[a6 (by simp[he])]at h;split at h
    · rename_i hd
      have hd:Bf.Dis a.1:=(show List.Pairwise (fun x y:(Int×Int)×Int=>x.1≠y.1) a.1 from of_decide_eq_true hd);obtain⟨c,q,h⟩:=bind_some h;refine X6 rfl d (fun b=>?_);apply WZ;exact rfl;apply Mi;exact rfl;exact rfl;apply Mi;exact rfl;exact rfl;apply KG;exact rfl;apply KG;exact rfl;apply Ib;(focus (repeat(first|exact FX|(apply HM;exact rfl)|(apply HI;exact rfl)|(apply HK;exact rfl)|(apply HN;exact rfl)|(apply HL;exact rfl))));intro g;apply HC;apply HC;apply KL;apply KG;exact rfl;apply VJ;exact rfl;exact rfl;apply Ib;(focus (repeat(first|exact FX|(apply HM;exact rfl)|(apply HI;exact rfl)|(apply HK;exact rfl)|(apply HN;exact rfl)|(apply HL;exact rfl))));intro i;apply Lc;exact rfl;simp[he];apply Ru;(focus (repeat(first|exact FX|(apply HM;exact rfl)|(apply HI;exact rfl)|(apply HK;exact rfl)|(apply HN;exact rfl)|(apply HL;exact rfl))));intro j;apply HC;apply HC;apply KL;apply KG;exact rfl;apply ZU;exact rfl;exact rfl;decide;apply Ib;(focus (repeat(first|exact FX|(apply HM;exact rfl)|(apply HI;exact rfl)|(apply HK;exact rfl)|(apply HN;exact rfl)|(apply HL;exact rfl))));intro m;apply TU;refine Vx hd q (fun f=>?_) (fun f V=>?_)
      · intro n
        apply HC;apply KL;apply KG;exact rfl;apply Ib;(focus (repeat(first|exact FX|(apply HM;exact rfl)|(apply HI;exact rfl)|(apply HK;exact rfl)|(apply HN;exact rfl)|(apply HL;exact rfl))));intro o;apply UK;rw[QQ f]at h;cases h;exact⟨_,Wk.refl _,rfl,rfl⟩
      · rw[a6 (by simp[f])]at h
        cases h;refine⟨_,?_,rfl,rfl⟩;exact Wk.set (Ca (Jw s V)) 33
    .cases h
  · have e:Ip a=.tp [.undef,.int .i64 a.2]:=a6 he
    rw [e]at d;rw[QQ (by simp[he])]at h;refine X5 rfl d ?_;apply WY;exact rfl;apply Mi;exact rfl;exact rfl;apply Mi;exact rfl;exact rfl;apply KG;exact rfl;apply KG;exact rfl;apply Ib;(focus (repeat(first|exact FX|(apply HM;exact rfl)|(apply HI;exact rfl)|(apply HK;exact rfl)|(apply HN;exact rfl)|(apply HL;exact rfl))));intro g;apply HC;apply HC;apply KL;apply KG;exact rfl;apply VJ;exact rfl;exact rfl;apply Ib;(focus (repeat(first|exact FX|(apply HM;exact rfl)|(apply HI;exact rfl)|(apply HK;exact rfl)|(apply HN;exact rfl)|(apply HL;exact rfl))));intro i;apply Ld;exact rfl;simp[he];apply HC;apply KL;apply KG;exact rfl;apply KG;exact rfl;apply Ib;(focus (repeat(first|exact FX|(apply HM;exact rfl)|(apply HI;exact rfl)|(apply HK;exact rfl)|(apply HN;exact rfl)|(apply HL;exact rfl))));intro j;apply UK;cases h;simp only[he,decide_false,Bool.not_false,if_true];exact⟨_,Wk.set (Ca s) 33,rfl,rfl⟩
instance mH(t:AB)(b:jj)(a:AL)(m:AR):Ct prog (Gi t b a m) 141 [AS t,Fx b,CL a,B7 m] (fun r=>.tp [Nh r.1,eI r.2]):=Fj f141 0x81f126440f3e36f10f468a6f31621f42530bd41f4236f1010fc801528d52ec024a244204460e0b5c9122429132910d42910b420b3162be0ee36e2242d56e0d426e0b420bd4be024a224204460e5c0b91320e570bd53f13c91046fcfce436f10f46880136f1010f468530816d030f426565ba1042a5b197f1010f468530a90ac96db5380b42b597f1010fc8a909c96db5b53837b197f1010fc8fc65e48d12c963a6 [.uq 38 [none,none,none,none,none,none,none,none,none,none,none,none,none,none,none,none,none,none,none,none,none,none,none,none,none,none,none,none,none,none,none,some ⟨true,.list 1 []⟩,some ⟨true,.list 3 []⟩,some ⟨true,.xn []⟩,none,none,none,none] (.s 15) (.s 82)] [.cell 8 (some 38),.tmp 9] (h:=fun r h c d=>by
  unfold Gi at h;exact nz)
instance qV(t:AB)(b:jj)(a:AL):Ct prog (EU t b a) 92 [AS t,Fx b,CL a] (fun r=>.tp [(eL 3 B7) r.1,eI r.2]):=Fj f92 0xe902d82625240bd7076b2625240bd7072625240bd7073c0203480347650261f112496d6565e4389211f9430bad2625240bd707daee36ee72e1030f4265a5b197ee7f65e48d034093a6 [] [.tmp 6,.tmp 7] (h:=fun r h e f=>by
  unfold EU at h;have:HA 0 38 37 0 fun(c:Int)(d:List AR)=>[(11,.ow ((eL 3 B7) d)),(38,.tv (eI c))]:=⟨⟩;exact nz)
instance pk(t:AB)(a:List jj)(b:AL):Ct prog (C8 t a b) 56 [AS t,(eL 25 Fx) a,CL b] (fun r=>.tp [(eL 4 GX) r.1,eI r.2]):=Fj f56 0xe9020801cc0f080503066bcc0f08050306222120cc0f090805030a6b02044804471146659e9211f943cc0f080503065f222120cc0f090805030ada3604c072e165e438194b810ec9e4198408adcc0f08050306da04c0f2406330 [] [.tmp 6,.tmp 7] (h:=fun r h g i=>by
  unfold C8 at h;have:HA 0 17 16 0 fun(d:Int)(e:List CQ)=>[(8,.ow ((eL 4 GX) e)),(17,.tv (eI d))]:=⟨⟩;have:HA 2 34 33 0 fun(f:Int)(c:List CQ)=>[(8,.ow ((eL 4 GX) c)),(34,.tv (eI f))]:=⟨⟩;exact nz)
instance qW(t:AB)(b:jj)(a:AL)(m:AR):Ct prog (Hp t b a m) 93 [AS t,Fx b,CL a,B7 m] (fun r=>.tp [Nh r.1,eI r.2]):=Fj f93 0x81f164fc65e497f1010fc8fce48d12c963a6 [] [.cell 8 (some 38),.tmp 9] (h:=fun r h c d=>by
  unfold Hp at h;exact nz)
instance pu(t:AB)(a:List jj)(b:AL)(m:CQ):Ct prog (DH t a b m) 57 [AS t,(eL 25 Fx) a,CL b,GX m] (fun r=>.tp [Nh r.1,eI r.2]):=Fj f57 0x8013b81f164fcb165e419438097f10f468a6f0157538012c9936330 [] [.cell 8 (some 38),.tmp 9] (h:=fun r h c d=>by
  unfold DH at h;exact nz)
instance pA(t:AB)(b:List jj)(d:AL)(a:D1):Ct prog (Dm t b d a) 19 [AS t,(eL 25 Fx) b,CL d,lI a] (fun r=>.tp [Cu r.1,eI r.2]):=Fj f19 0x819ba70b08022423220b08060401086b1106023b92aa034203591f5a044804470458040342369b0112468501123d01f112c96da765c49b15c9fb0553536aff0b080261d8369b0112c8e165c481600b08025f2423220b0806040108da045014c93ffc369b124685d8369b0112c8fc018d14c9bf933102 [.tI (.s 2),.r8 [.v (.s 32) 0 3,.v (.s 32) 1 3,.v (.s 32) 2 3,.z ⟨true,.list 4 []⟩]] [.cell 8 (some 4),.tmp 9] (h:=fun r h f g=>by
  unfold Dm at h;have:HA 0 36 35 0 fun(e:Int)(c:AL×AN×AN)=>[(6,.bx [⟨false,lI c.1.d3.ci⟩,⟨false,lE c.1.d3.d6⟩,⟨false,(eL 1 lI) c.1.hT⟩]),(8,.bx [⟨true,lI c.2.1.qy.d3.ci⟩,⟨true,lE c.2.1.qy.d3.d6⟩,⟨true,(eL 1 lI) c.2.1.qy.hT⟩,⟨true,(eL 4 GX) c.2.1.o4⟩]),(11,.bx [⟨false,lI c.2.2.qy.d3.ci⟩,⟨false,lE c.2.2.qy.d3.d6⟩,⟨false,(eL 1 lI) c.2.2.qy.hT⟩,⟨true,(eL 4 GX) c.2.2.o4⟩]),(36,.tv (eI e))]:=⟨⟩;exact nz)
instance pv(t:AB)(a:List jj)(d:AN):Ct prog (Dn t a d) 58 [AS t,(eL 25 Fx) a,Cu d] (fun r=>.tp [(eL 38 Nh) r.1,eI r.2.1,eI r.2.2]):=Fj f58 0x6c820b9e0a0121201f0b0a31076bd83b9202651f42264826472644027626c03061f112c96da765c49b8115c9a7d90aad21201f0b0a3107a803429201c9653226c07626c0850b9f7626c07f6532c43026406330 [] [.tmp 6,.tmp 7,.tmp 8] (h:=fun r h e f=>by
  unfold Dn at h;have:HA 0 33 32 0 fun(c:Int)(b:List BD×AL)=>[(10,.ow ((eL 38 Nh) b.1)),(11,.bx [⟨false,lI b.2.d3.ci⟩,⟨false,lE b.2.d3.d6⟩,⟨false,(eL 1 lI) b.2.hT⟩]),(33,.tv (eI c))]:=⟨⟩;exact nz)
instance mI(n:Int):Ct prog (Gd n) 142 [eI n] (fun r=>.own (lI r)):=Fj f142 0x8218310908746b01f830148101315f090874819514993f304096 [.tR 1 [.int .i64 0] (.s 5)] [.tmp 2] (h:=fun r h c d=>by
  unfold Gd at h;have:HA 0 9 8 0 fun(a:Int)(b:D1)=>[(3,.xo 1 (List.map eI b)),(9,.tv (eI a))]:=⟨⟩;exact nz)
instance qX(g:d3):Ct prog (Do g) 94 [BO g] (fun r=>.tp [Br r.1,eI r.2]):=Fj f94 0xbc3b81a904460e0b5c0ee336a90103c80e8d0ac9ac [] [.cell 2 (some 2),.tmp 3] (h:=fun r h a b=>by
  unfold Do at h;exact nz)
instance pw(g:d3):Ct prog (C7 g) 59 [BO g] (fun r=>.sh (Br r)):=Fj f59 0xa98da90ac96d380ac9ac [] [.cell 2 (some 2)] (h:=fun r h a b=>by
  unfold C7 at h;exact nz)
instance px(l:D1)(a:D1):Ct prog (GV l a) 60 [lI l,lI a] (fun r=>.own (lI r)):=Fj f60 0x8218e70c0b73536b0c0b73530c0b7353def8606a14618117db53ad0c0b7353819594991a30405e02 [] [.tmp 4] (h:=fun r h d e=>by
  unfold GV at h;have:HA 0 12 11 0 fun(b:Int)(c:D1)=>[(5,.xo 1 (List.map eI c)),(12,.tv (eI b))]:=⟨⟩;exact nz)
instance pB(t:AB)(a:List jj)(d:AN):Ct prog (D0 t a d) 20 [AS t,(eL 25 Fx) a,Cu d] (fun r=>.tp [CL r.1,Br r.2.1,eI r.2.2]):=Fj f20 0x706023b81a99238fcc5070604252423c50706076b0c013ba99204460e9122425c0e6e224257651f42f112c926442643c50706045f252423c5070607daa9920ac901c90e383732653236a99201034613c80182116da7018d0ac901c96330 [] [.cell 6 (some 3),.cell 7 (some 2),.tmp 8] (h:=fun r h e f=>by
  unfold D0 at h;have:HA 0 37 36 0 fun(c:Int)(b:AL×ec)=>[(12,.bx [⟨false,lI b.1.d3.ci⟩,⟨false,lE b.1.d3.d6⟩,⟨false,(eL 1 lI) b.1.hT⟩]),(13,.bx [⟨false,lI b.2.ci⟩,⟨false,lI b.2.d6⟩]),(37,.tv (eI c))]:=⟨⟩;exact nz)
instance qG(c:Int):Ct prog (GG c) 77 [Ni c] (fun r=>.sh (eB r)):=Fj f77 0x9de8 [] [.tmp 2] (h:=fun r h a b=>by
  unfold GG at h;exact nz)
instance pK(a:ByteArray):Ct prog (E8 a) 36 [eS a] (fun r=>.tp [(eL 3 Gr) r.1,eI r.2.1,eI r.2.2]):=Fj f36 0x6c8202e7710003710003de0d30020348034717466a020b09087100060b0908710006de0d0530610d3076ee0185d876ee30616c116d9aff7100310d3f309d017100310d557330737d017100310d7d5505551253ad0c017100f4ee76ee850c6a034096 [.call 76 [.s 44,.c (.r6 77 [])]] [.tmp 2,.tmp 3,.tmp 4] (h:=fun r h d e=>by
  unfold E8 at h;have:HW 0 fun(b:ByteArray×List Ap×Int)=>[(0,.tv (eS b.1)),(5,.ow ((eL 3 Gr) b.2.1)),(6,.tv (eI b.2.2))]:=⟨⟩;exact nz)
instance pM(d:AE)(a:Int)(b:ByteArray):Ct prog (Ak d a b) 38 [.pt (Nj d).cells,eI a,eS b] (fun r=>.sh (eB r)):=Fj f38 0xc30a060191034331f6d4303f3073016e034331f6d4300a6fd40131627d5b6230b703 [.bin (.s) .eql (.s 40) (.c (.str ⟨#[]⟩))] [.tmp 6] (h:=fun r h e f=>by
  unfold Ak at h;exact nz)
noncomputable def U5:PC:=PC.of Mu f39.body (xq bT 0x5e013caa0362aa0262fe03432d6fd432317cd432013232855b7c5e02) []
theorem kC:CK f39 U5 []:=by decide +kernel
theorem kP:PC.ry U5=true/\PC.rr 0 U5=true:=by decide +kernel
instance pN(a:AE)(e:Int):Ct prog (A9 a e) 39 [.undef,eI e] (fun r=>.bo (Bb a) (Bb r) 0 []):=PS kC kP fun r h d c f=>by
  unfold U5;unfold f39;unfold A9 at h;have:HJ 8 fun(b:AE)=>[(0,.bx (Bb b))]:=⟨⟩;exact nz
noncomputable def U6:PC:=PC.of Mu f40.body (xq bT 0x8191034305317cd432aa016205317cffbff032882030323fb703) [.mv (.c (.str ⟨#[]⟩)),.mv (.c (.str ⟨#[]⟩))]
theorem kD:CK f40 U6 [.tmp 6]:=by decide +kernel
theorem kQ:PC.ry U6=true/\PC.rr 0 U6=true:=by decide +kernel
instance pO(c:AE)(a:Int)(b:ByteArray):Ct prog (Al c a b) 40 [.undef,eI a,eS b] (fun r=>.bo (Bb c) (Bb r.2) 0 [eS r.1]):=PS kD kQ fun r h e d f=>by
  unfold U6;unfold f40;unfold Al at h;exact nz
instance qK(a:ByteArray):Ct prog (E7 a) 81 [eS a] (fun r=>.tp [eI r.1,eI r.2]):=Fj f81 0x6c01060112110600b6533f05127d550106ad121106cf818c55768855d100466a96 [.uj .i64 (.s 26)] [.tmp 2,.tmp 3] (h:=fun r h d e=>by
  unfold E7 at h;have:HA 0 18 17 0 fun(b:Int)(c:Int)=>[(6,.tv (eI c)),(18,.tv (eI b))]:=⟨⟩;exact nz)
noncomputable def U7:PC:=PC.of Mu f41.body (xq bT 0x8130816d3f325e01) [.rJ 40 [.s 6,.c (.int .i64 2),.c (.str ⟨#[]⟩)] 0]
theorem kE:CK f41 U7 [.tmp 2]:=by decide +kernel
theorem kR:PC.ry U7=true/\PC.rr 0 U7=true:=by decide +kernel
instance pP(a:AE):Ct prog (Ai a) 41 [.undef] (fun r=>.bo (Bb a) (Bb r.2) 0 [eI r.1]):=PS kE kR fun r h c b d=>by
  unfold U7;unfold f41;unfold Ai at h;exact nz
noncomputable def U8:PC:=PC.of Mu f42.body (xq bT 0x82023f320775ff07b7043cbcef05f0329e77b70577b7053cf0328ae70b303f3277b70577b7053c304a016205317c8a3f3230810775ff8a083f32535b7c07b7043f3201c00140b703) [.rJ 40 [.s 9,.c (.int .i64 4),.c (.str ⟨#[40]⟩)] 0,.rK 38 [.s 17,.c (.int .i64 4),.c (.str ⟨#[41]⟩)],.rK 38 [.s 23,.c (.int .i64 4),.c (.str ⟨#[45]⟩)],.rK 38 [.s 33,.c (.int .i64 2),.c (.str ⟨#[]⟩)],.rJ 40 [.s 50,.c (.int .i64 4),.c (.str ⟨#[41]⟩)] 0]
theorem kF:CK f42 U8 [.tmp 6]:=by decide +kernel
theorem kS:PC.ry U8=true/\PC.rr 0 U8=true:=by decide +kernel
instance pQ(c:AE)(b:Int)(a:Bool):Ct prog (A0 c b a) 42 [.undef,eI b,eB a] (fun r=>.bo (Bb c) (Bb r.2) 0 [lI r.1]):=PS kF kS fun r h f e g=>by
  unfold U8;unfold f42;unfold A0 at h;have:HW 0 fun(d:AE×D1)=>[(0,.bx (Bb d.1)),(7,.ow (lI d.2))]:=⟨⟩;exact nz
instance oy(t:AB)(a:AL)(b:ByteArray):Ct prog (Ew t a b) 11 [AS t,CL a,eS b] (fun r=>.tp [Cu r.1,eI r.2.1,eI r.2.2]):=Fj f11 0x6c9ba7ff06013b6c9b5b62377462371246855b623733cc0604ff33cc0d713caa034204480447a70403423f37aa0241b1f037aa0162b1f037aa3737b1f0379b15c91946f0373f3733cc0d7133cc0d713cf0378a6f9f013f3733cc0604ff8a055b623753d831623733cc0d71045014c93ffc00c2bf184601769b3012c8e9116d01769b0112c8d16538769b0112c8d1383014c963bc [.ta [none,none,none,none] (.s 50),.r8 [.v (.s 53) 0 3,.v (.s 53) 1 3,.v (.s 53) 2 3,.z ⟨true,.list 4 []⟩],.rK 38 [.s 69,.c (.int .i64 1),.c (.str ⟨#[109,111,118,101]⟩)],.rJ 40 [.s 79,.c (.int .i64 1),.c (.str ⟨#[109,111,118,101]⟩)] 0,.rJ 40 [.s 98,.c (.int .i64 4),.c (.str ⟨#[59]⟩)] 0] [.cell 6 (some 4),.tmp 7,.tmp 8] (h:=fun r h e f=>by
  unfold Ew at h;have:HW 0 fun(d:AN×AE)=>[(17,.bx [⟨false,lI d.1.qy.d3.ci⟩,⟨false,lE d.1.qy.d3.d6⟩,⟨false,(eL 1 lI) d.1.qy.hT⟩,⟨true,(eL 4 GX) d.1.o4⟩]),(51,.bx (Bb d.2))]:=⟨⟩;exact nz)
end Go.Sf.Sc
