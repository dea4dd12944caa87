/- Contracts of the functions. -/
import Derived.Test.YtmbomnkcdolalaaGreatCon0
import Derived.Test.YtmbomnkcdolalaaGreatTryzShelf
import Derived.Test.YtmbomnkcdolalaaGreatTw
set_option linter.all false
set_option maxRecDepth 100000
set_option maxHeartbeats 4000000
namespace Go.Sf.Sc
open Go Go.Sf Go.Proofs.Tryz
instance AAx(c:Int):Ct prog (Ki c) 319 [WL c] (fun r=>.sh (eB r)):=Fj f319 0xb889b23089b230d8 [] [.tmp 2] (h:=fun r h a b=>by
  unfold Ki at h;exact nz)
instance AAy(b:ByteArray)(d:Int->K1)(e:FuncId)(a:Fq)[g:∀(c:Int),Ct prog (d c) e (WL c::a) (fun r=>.sh (eB r))]:Ct prog (Gu b d) 320 [eS b,.clo e a] (fun r=>.sh (eI r)):=Fj f320 0x815801ff8c03605801ff8a0f1230b20c308c0381ed [] [.tmp 4] (h:=fun r h i j=>by
  unfold Gu at h;have:HW 0 fun(f:Int)=>[(5,.tv (eI f))]:=⟨⟩;exact nz)
instance AA0(c:Int):Ct prog (J1 c) 322 [WL c] (fun r=>.sh (eB r)):=Fj f322 0x8189b230d8 [] [.tmp 2] (h:=fun r h a b=>by
  unfold J1 at h;exact nz)
instance AAz(c:Int):Ct prog (M9 c) 321 [WL c] (fun r=>.sh (eB r)):=Fj f321 0x818930f9300e30d8 [] [.tmp 2] (h:=fun r h a b=>by
  unfold M9 at h;exact nz)
instance ABS(c:Int):Ct prog (K3 c) 357 [WL c] (fun r=>.sh (eB r)):=Fj f357 0x81893089b230d8 [] [.tmp 2] (h:=fun r h a b=>by
  unfold K3 at h;exact nz)
instance AA1(a:ByteArray):Ct prog (GD a) 323 [eS a] (fun r=>.tp [eI r.1,eI r.2]):=Fj f323 0x7dd4388185e081cd1205eb0c585b3f0d73d8 [.call 320 [.s 6,.c (.clo 357 [])]] [.tmp 2,.tmp 3] (h:=fun r h b d=>by
  unfold GD at h;exact nz)
instance AA2(a:ByteArray):Ct prog (M8 a) 324 [eS a] (fun r=>.sh (eB r)):=Fj f324 0xb80e0d013f580c30d8 [.lst 1 [.c (.str ⟨#[45,62]⟩),.c (.str ⟨#[60,61]⟩),.c (.str ⟨#[62,61]⟩),.c (.str ⟨#[61,61]⟩),.c (.str ⟨#[33,61]⟩)]] [.tmp 2] (h:=fun r h b d=>by
  unfold M8 at h;exact nz)
instance AAF(a:ByteArray):Ct prog (IA a) 272 [eS a] (fun r=>.tp [eI r.1,eI r.2.1,eI r.2.2]):=Fj f272 0x817d6e817d053f5b817d0e5b7d307d715b055b7de07d633f5b0e5b7de07d633f5b0e5b123030d8 [.call 320 [.s 15,.c (.clo 321 [])],.call 320 [.s 23,.c (.clo 322 [])],.call 325 [.c (.str ⟨#[123,125,40,41,91,93,44,59,58,61,43,45,42,60,62,33,38,124,46,63]⟩),.s 42]] [.tmp 2,.tmp 3,.tmp 4] (h:=fun r h b d=>by
  unfold IA at h;exact nz)
instance yv(t:Ee):Ct prog (IU t) 205 [WK t] (fun r=>.tp [eS r.1,eB r.2]):=Fj f205 0x7d890c738959b230817d1171e0bfbf0104d704d73c013f3f01855981b33f9f [.mv (.c (.str ⟨#[]⟩)),.bin (.s) .add (.c (.str ⟨#[34]⟩)) (.s 13),.bin (.s) .add (.s 14) (.c (.str ⟨#[34]⟩)),.bin (.s) .eql (.s 16) (.c (.str ⟨#[]⟩)),.mv (.c (.str ⟨#[]⟩))] [.tmp 2,.tmp 3] (h:=fun r h b d=>by
  unfold IU at h;have:HJ 12 fun(a:ByteArray)=>[(4,.tv (eS a))]:=⟨⟩;exact nz)
instance yA(a:ByteArray):Ct prog (DQ a) 152 [eS a] (fun r=>.sh (eB r)):=Fj f152 0x815bf4004630d8 [] [.tmp 2] (h:=fun r h b c=>by
  unfold DQ at h;exact nz)
instance yC(m:B8)(a:B8):Ct prog (NB m a) 154 [DK m,.pt (DK a).cells] (fun r=>.sh (eB r)):=Fj f154 0x81065991c3 [] [.tmp 3] (h:=fun r h b c=>by
  unfold NB at h;exact nz)
abbrev Q_155(n:Nat):Prop:=∀(t:AC)(a:Int),Ct prog (DF n t a) 155 [AQ t,eI a] (fun r=>.Aa2 4 (List.map FI r))
theorem ta(n:Nat)(_ih_155:Q_155 n)(t:AC)(a:Int):Ct prog (DF (n+1) t a) 155 [AQ t,eI a] (fun r=>.Aa2 4 (List.map FI r)):=Fj f155 0x99044f7641dc591905a20305a2033c191acc637cdc5904ce044ec3 [] [.tmp 4] (h:=fun r h c d=>by
  unfold DF at h;have:HJ 14 fun(b:List ns)=>[(5,.xo 4 (List.map FI b))]:=⟨⟩;exact nz)
theorem tZ:∀n:Nat,Q_155 n:=by
  intro n
  induction n with
  |zero=>exact(fun t a=>⟨fun _ h=>by cases h⟩)
  |succ n b=>exact ta n b
instance yD(t:AC)(a:Int):Ct prog (J2 t a) 155 [AQ t,eI a] (fun r=>.Aa2 4 (List.map FI r)):=⟨fun r h=>by
  obtain ⟨N,b⟩:=C1 h;exact((tZ N) t a).snd r (b N (az _))⟩
instance yy(y:ns)(a:ns):Ct prog (Ie y a) 208 [FI y,.pt (FI a).cells] (fun r=>.sh (eB r)):=Fj f208 0x81065991c3 [] [.tmp 3] (h:=fun r h b c=>by
  unfold Ie at h;exact nz)
instance yz(l:List ByteArray):Ct prog (Gw l) 209 [lB l] (fun r=>.sh (eI r)):=Fj f209 0x96be080004c66e810e3045307d905b815e6261be0800048da6bc30d8 [] [.tmp 2] (h:=fun r h b c=>by
  unfold Gw at h;have:HA 0 10 9 0 fun(a:Int)(_:Unit)=>[(10,.tv (eI a))]:=⟨⟩;exact nz)
instance yE(b:ns)(a:List ns):Ct prog (ES b a) 156 [FI b,lA a] (fun r=>.sh (eI r)):=Fj f156 0xa68801060106013c01896bb59b585cbcb58189e9899b5c585cf3b56e810e105b819091c3 [] [.tmp 4] (h:=fun r h d e=>by
  unfold ES at h;have:HJ 40 fun(c:Bool)=>[(6,.tv (eB c))]:=⟨⟩;exact nz)
instance xG(t:AC)(a:Int):Ct prog (IC t a) 103 [AQ t,eI a] (fun r=>.sh (eI r)):=Fj f103 0x96bd029d80044530a8ba3000cbbd02816bb50be0bc01820ecc6e816bb57d89015c585c7d0e10044501597d9059053dd200c9a8dc91c3 [] [.tmp 4] (h:=fun r h c d=>by
  unfold IC at h;have:HA 1 7 6 0 fun(b:Int)(_:Unit)=>[(7,.tv (eI b))]:=⟨⟩;exact nz)
instance yF(n:Int)(a:AC):Ct prog (Kj n a) 157 [eI n,.pt (AQ a).cells] (fun r=>.sh (eB r)):=Fj f157 0xb86b59b2de [] [.tmp 3] (h:=fun r h b c=>by
  unfold Kj at h;exact nz)
instance yH(y:CG)(a:CG):Ct prog (NA y a) 159 [DZ y,.pt (DZ a).cells] (fun r=>.sh (eB r)):=Fj f159 0x81065991c3 [] [.tmp 3] (h:=fun r h b c=>by
  unfold NA at h;exact nz)
instance yI(b:Int)(a:Int):Ct prog (Jn b a) 160 [eI b,eI a] (fun r=>.sh (eB r)):=Fj f160 0xb80a89b2eb3089b2de [] [.tmp 4] (h:=fun r h c d=>by
  unfold Jn at h;exact nz)
instance xH(t:AC)(a:Int):Ct prog (IB t a) 104 [AQ t,eI a] (fun r=>.sh (eI r)):=Fj f104 0x816e19013c010a9003d303057490dfb5195b0a080f9b30080f5c5b810e100745015c7d90598110053d074b01c90744077fb3c3 [] [.tmp 4] (h:=fun r h c d=>by
  unfold IB at h;have:HJ 25 fun(b:Bool)=>[(25,.tv (eB b))]:=⟨⟩;exact nz)
instance c72(t:AC):Ct prog (DH t) 72 [AQ t] (fun r=>.tp [eS r.1,eI r.2]):=Fj f72 0x81bf002e2d2c0104d1c85972cc074bc8c90744074362612e2d2c0104d0c1301d1c1b0104d1c85972ccd296c9a8ba73611d1c1b0104d0376ebfb86b5c58e381bf816b913f9f [.mv (.c (.str ⟨#[]⟩)),.mv (.c (.str ⟨#[]⟩)),.mv (.c (.str ⟨#[]⟩)),.mv (.c (.str ⟨#[]⟩))] [.tmp 2,.tmp 3] (h:=fun r h d e=>by
  unfold DH at h;have:HA 1 29 28 0 fun(b:Int)(_:Unit)=>[(29,.tv (eI b))]:=⟨⟩;have:HA 3 46 45 0 fun(a:Int)(_:Unit)=>[(46,.tv (eI a))]:=⟨⟩;exact nz)
instance xK(n:Int)(a:Int):Ct prog (G6 n a) 107 [eI n,eI a] (fun r=>.sh (eB r)):=Fj f107 0x8189ebde [] [.tmp 4] (h:=fun r h b c=>by
  unfold G6 at h;exact nz)
instance xJ(t:Int):Ct prog (Li t) 106 [eI t] (fun r=>.sh (eB r)):=Fj f106 0x819030d8 [] [.tmp 2] (h:=fun r h a b=>by
  unfold Li at h;exact nz)
instance xN(e:Bo)(a:Int):Ct prog (MZ e a) 110 [Bm e,eI a] (fun r=>.sh (eB r)):=Fj f110 0xb80ed4e9f9d45c6a91c3 [] [.tmp 4] (h:=fun r h b c=>by
  unfold MZ at h;exact nz)
instance xM(e:Bo)(a:d4):Ct prog (Lj e a) 109 [Bm e,.pt (At a).cells] (fun r=>.sh (eB r)):=Fj f109 0x8190e36501c3 [] [.tmp 3] (h:=fun r h b c=>by
  unfold Lj at h;exact nz)
instance c73(g:d4):Ct prog (Ci g) 73 [At g] (fun r=>.sh (eI r)):=Fj f73 0xa68e105c38bf5938b95c580b919f [.call 105 [.s 14,.c (.clo 106 [])]] [.tmp 2] (h:=fun r h a b=>by
  unfold Ci at h;exact nz)
instance yM(a:Int)(b:AC):Ct prog (Lr a b) 164 [eI a,.pt (AQ b).cells] (fun r=>.sh (eB r)):=Fj f164 0xb86b59b2de [] [.tmp 3] (h:=fun r h c d=>by
  unfold Lr at h;exact nz)
instance xP(t:AC)(l:Fp):Ct prog (FB t l) 112 [AQ t,lI l] (fun r=>.sh (eI r)):=Fj f112 0xa68e10e00163f47ec3 [] [.tmp 4] (h:=fun r h a b=>by
  unfold FB at h;exact nz)
instance xO(t:AC)(a:Int):Ct prog (D2 t a) 111 [AQ t,eI a] (fun r=>.tp [lA r.1,eI r.2]):=Fj f111 0x818218070115140703c6014d0354044c0e170354044c01140114c807f615140703819514991a018404c080ad017e0440c3 [] [.tmp 4,.tmp 5] (h:=fun r h d e=>by
  unfold D2 at h;have:HA 0 21 20 0 fun(c:Int)(b:List ns)=>[(7,.xo 4 (List.map FI b)),(21,.tv (eI c))]:=⟨⟩;have:HS 31:=⟨⟩;have:HX 33 fun(a:ns)(v:List ByteArray)=>ns.mk a.qo a.Low a.AaD v:=⟨⟩;exact nz)
instance c74(t:AC)(a:Int)(b:Fp):Ct prog (I9 t a b) 74 [AQ t,eI a,lI b] (fun r=>.sh (eI r)):=Fj f74 0x962322210204d1cd9b5eeb5cbbd28102c9a8ba626123222102048da6bcfa3082710184830241dc5938bc593093a202 [] [.tmp 6] (h:=fun r h d e=>by
  unfold I9 at h;have:HA 0 35 34 0 fun(c:Int)(_:Unit)=>[(35,.tv (eI c))]:=⟨⟩;exact nz)
instance yO(t:AC)(a:Int):Ct prog (Ja t a) 166 [AQ t,eI a] (fun r=>.own (lI r)):=Fj f166 0x821829140558a2033c017cdc59ff19014fad0119d46158a236ce0140c3 [] [.tmp 4] (h:=fun r h c d=>by
  unfold Ja at h;have:HW 0 fun(b:Int×Fp)=>[(1,.tv (eI b.1)),(5,.xo 1 (List.map eI b.2))]:=⟨⟩;exact nz)
instance xQ(t:AC)(a:Int)(b:Int):Ct prog (IW t a b) 113 [AQ t,eI a,eI b] (fun r=>.sh (eB r)):=Fj f113 0x810e6a017e93a202 [] [.tmp 6] (h:=fun r h c d=>by
  unfold IW at h;exact nz)
instance c75(t:AC)(b:Int)(a:Int)(c:Int):Ct prog (Gl t b a c) 75 [AQ t,eI b,eI a,eI c] (fun r=>.sh (eB r)):=Fj f75 0xb80e5d41077fb3556a7c077fb384b95c3089b20ead307e935d0103 [] [.tmp 8] (h:=fun r h d e=>by
  unfold Gl at h;exact nz)
instance c39(t:AC)(a:AH):Ct prog (Ei t a) 39 [AQ t,Bn a] (fun r=>.tp [eI r.1,eI r.2]):=Fj f39 0x7d003e3d3cfbd1c8b45e9bca5e5cca5984c8bc5c599781ecd64362613e3d3cfbd00141375d02282726fbd18130729ee9557d9e5d0261282726fbd05a373881bcca0b9b388180aa38c863f45530a1 [] [.tmp 4,.tmp 5] (h:=fun r h d e=>by
  unfold Ei at h;have:HA 0 40 39 0 fun(b:Int)(_:Unit)=>[(40,.tv (eI b))]:=⟨⟩;have:HA 2 62 61 0 fun(c:Int)(_:Unit)=>[(62,.tv (eI c))]:=⟨⟩;exact nz)
instance c40(c:AI):Ct prog (Dh c) 40 [BL c] (fun r=>.oag [⟨false,lI r.ff.kg.d4.d3⟩,⟨false,lE r.ff.kg.d4.d5⟩,⟨true,(eL 1 lI) r.ff.kg.fd⟩,⟨true,(eL 4 CZ) r.ff.j4⟩,⟨true,lI r.kl⟩]):=Fj f40 0x5500553040202333231040205c6e603413704480447054604e75d41c103e73675c10e6d5ac15904034137d206c9a8ba04020261333231040205d003413704a2031f1e1d04a206c6e602a901db0e010402a9825e04a203611f1e1d04a206d0b63f5a37024601e77c370eca0550cf3f0edf9705c9655a37cf9f [.Aau [.z ⟨true,.list 1 []⟩,.z ⟨true,.list 3 []⟩,.z ⟨true,.list 1 []⟩,.z ⟨true,.list 4 []⟩,.w 14],.stq 3 [none,none,some ⟨true,.list 1 []⟩] (.s 27) (.s 25)] [.cell 2 (some 5)] (h:=fun r h f g=>by
  unfold Dh at h;have:HA 0 31 30 0 fun(d:Int)(b:AI)=>[(4,.bx [⟨false,lI b.ff.kg.d4.d3⟩,⟨false,lE b.ff.kg.d4.d5⟩,⟨true,(eL 1 lI) b.ff.kg.fd⟩,⟨true,(eL 4 CZ) b.ff.j4⟩,⟨true,lI b.kl⟩]),(31,.tv (eI d))]:=⟨⟩;have:HA 2 51 50 0 fun(e:Int)(a:AI)=>[(4,.bx [⟨false,lI a.ff.kg.d4.d3⟩,⟨false,lE a.ff.kg.d4.d5⟩,⟨true,(eL 1 lI) a.ff.kg.fd⟩,⟨true,(eL 4 CZ) a.ff.j4⟩,⟨true,lI a.kl⟩]),(51,.tv (eI e))]:=⟨⟩;exact nz)
instance c11(t:AC)(a:AH):Ct prog (GN t a) 11 [AQ t,Bn a] (fun r=>.tp [BL r.1,eI r.2]):=Fj f11 0xb70e0846074665387001ee63f4657ecfa1 [] [.cell 4 (some 5),.tmp 5] (h:=fun r h b c=>by
  unfold GN at h;exact nz)
instance y8(n:Int)(a:AC):Ct prog (GV n a) 215 [eI n,.pt (AQ a).cells] (fun r=>.sh (eB r)):=Fj f215 0x816b59de [] [.tmp 3] (h:=fun r h b c=>by
  unfold GV at h;exact nz)
instance y9(a:Bo)(b:AC):Ct prog (GW a b) 216 [Bm a,.pt (AQ b).cells] (fun r=>.sh (eB r)):=Fj f216 0x816b5c91c3 [] [.tmp 3] (h:=fun r h c d=>by
  unfold GW at h;exact nz)
instance zA(n:Int)(b:Int)(a:Int):Ct prog (Cb n b a) 217 [eI n,eI b,eI a] (fun r=>.sh (eB r)):=Fj f217 0x8189eb73026203 [] [.tmp 6] (h:=fun r h c d=>by
  unfold Cb at h;exact nz)
instance zB(t:AC)(p:ec)(a:Cf):Ct prog (Ew t p a) 218 [AQ t,BF p,Eg a] (fun r=>.tp [FI r.1,eB r.2]):=Fj f218 0x81d2a8bab338d20946b46b01b382715e59ca84d20946b46bca9102c9f1 [] [.cell 6 (some 4),.tmp 7] (h:=fun r h b c=>by
  unfold Ew at h;exact nz)
instance AA4(n:Int)(t:kp):Ct prog (Ht n t) 327 [eI n,MU t] (fun r=>.sh (eB r)):=Fj f327 0x8189b389b38901f7919f01 [] [.tmp 4] (h:=fun r h a b=>by
  unfold Ht at h;exact nz)
instance AAN(n:Int)(a:Test):Ct prog (Im n a) 280 [eI n,FJ a] (fun r=>.sh (eI r)):=Fj f280 0x816eb89055034230907e425b8189f7919f01 [] [.tmp 4] (h:=fun r h b c=>by
  unfold Im at h;exact nz)
instance zC(n:Int)(l:List Test):Ct prog (G5 n l) 219 [eI n,lT l] (fun r=>.sh (eI r)):=Fj f219 0x961312110004d1806c584b07c96c0543006113121100048da6bce0cdb2de [] [.tmp 4] (h:=fun r h b c=>by
  unfold G5 at h;have:HA 0 19 18 0 fun(a:Int)(_:Unit)=>[(19,.tv (eI a))]:=⟨⟩;exact nz)
instance yS(t:AC)(p:ec):Ct prog (Cq t p) 170 [AQ t,BF p] (fun r=>.sh (eI r)):=Fj f170 0xa6a014f3dfb5085d3c3b3a085d06c63c3b3a085d063c3b3a085d063c01fd6db614856db6388a907c02740a9005b56d0274085bd2024971a86c55d208c9a8ba085d613c3b3a085d06d0b6993fb538b9df580b9b38b4b5388a0e107c376a10caf3aa380163f47ea1 [.mkx 1 [.bool false] (.s 55)] [.tmp 4] (h:=fun r h c d=>by
  unfold Cq at h;have:HA 0 60 59 0 fun(b:Int)(a:a5)=>[(8,.xo 1 (List.map eB a)),(60,.tv (eI b))]:=⟨⟩;exact nz)
instance AAP(n:Int)(a:AC):Ct prog (M2 n a) 282 [eI n,.pt (AQ a).cells] (fun r=>.sh (eB r)):=Fj f282 0x816b59de [] [.tmp 3] (h:=fun r h b c=>by
  unfold M2 at h;exact nz)
instance AAQ(a:Bo)(b:AC):Ct prog (M3 a b) 283 [Bm a,.pt (AQ b).cells] (fun r=>.sh (eB r)):=Fj f283 0x816b5c91c3 [] [.tmp 3] (h:=fun r h c d=>by
  unfold M3 at h;exact nz)
instance zF(t:AC)(g:d4):Ct prog (H7 t g) 221 [AQ t,At g] (fun r=>.sh (eB r)):=Fj f221 0xb89010b3901091a1 [] [.tmp 4] (h:=fun r h a b=>by
  unfold H7 at h;exact nz)
instance AAS(y:Cf)(a:Cf):Ct prog (N2 y a) 285 [Eg y,.pt (Eg a).cells] (fun r=>.sh (eB r)):=Fj f285 0x81895c5c585991c3 [] [.tmp 3] (h:=fun r h b c=>by
  unfold N2 at h;exact nz)
instance zH(t:AC)(b:f0)(a:Int):Ct prog (JG t b a) 222 [AQ t,Bc b,eI a] (fun r=>.sh (eI r)):=Fj f222 0xa68e100445015d41d338cdb389b3897641d39189910a6b015c585c9a09c955027482715e596d5ad384b96d5ad3f759073dd208c9a8dc5d4106745fa2 [] [.tmp 6] (h:=fun r h c d=>by
  unfold JG at h;exact nz)
instance yT(t:AC)(a:f0):Ct prog (H6 t a) 171 [AQ t,Bc a] (fun r=>.sh (eI r)):=Fj f171 0x962f2e5d04d18001ef558162612f2e5d048d5d41d36e816b5d41d37d0a6ba541d3587641c17641d37d90ead3f2ea0674a1 [] [.tmp 4] (h:=fun r h c d=>by
  unfold H6 at h;have:HA 1 47 46 0 fun(b:Int)(_:Unit)=>[(47,.tv (eI b))]:=⟨⟩;exact nz)
instance ABT(l:Fp)(n:Int):Ct prog (Hh l n) 359 [lI l,eI n] (fun r=>.sh (eI r)):=Fj f359 0x9609776205d1cd5e0530b2e0cdeb5b815e6261097762058d81ed [] [.tmp 4] (h:=fun r h b c=>by
  unfold Hh at h;have:HA 0 9 8 0 fun(a:Int)(_:Unit)=>[(9,.tv (eI a))]:=⟨⟩;exact nz)
instance ABU(l:Fp)(n:Int):Ct prog (Kh l n) 360 [lI l,eI n] (fun r=>.sh (eB r)):=Fj f360 0x815bf430ed [] [.tmp 4] (h:=fun r h a b=>by
  unfold Kh at h;exact nz)
instance AA6(g:d4)(p:BH):Ct prog (Lq g p) 329 [At g,Fr p] (fun r=>.sh (eI r)):=Fj f329 0x961e1d1cfbd18a905d4103e191907c03e159815e00611e1d1cfbd0c1f3fc5cf3e391a1 [] [.tmp 4] (h:=fun r h b c=>by
  unfold Lq at h;have:HA 0 30 29 0 fun(a:Int)(_:Unit)=>[(30,.tv (eI a))]:=⟨⟩;exact nz)
instance AAT(g:d4)(p:BH):Ct prog (D9 g p) 286 [At g,Fr p] (fun r=>.sh (eI r)):=Fj f286 0x810e55f27ea1 [] [.tmp 4] (h:=fun r h a b=>by
  unfold D9 at h;exact nz)
instance zI(g:d4)(p:BH):Ct prog (Dz g p) 223 [At g,Fr p] (fun r=>.tp [At r.1,Aq r.2.1,eI r.2.2]):=Fj f223 0x69023b819a9a03e75c0e5955f5a52b2a29f55d08c6e6c103480347650401744ab6719b914ac1715c5997ecd6e1815ef5a5612b2a29f55d08d0c1f5fb191817f55d08c6e6dddb9e590437815ef5fb61191817f55d08d0370ac9389a9afa460a4672557ef00ac9a1 [] [.cell 4 (some 2),.cell 5 (some 2),.tmp 6] (h:=fun r h e f=>by
  unfold Dz at h;have:HA 0 25 24 0 fun(c:Int)(b:d4)=>[(8,.bx [⟨true,lI b.d3⟩,⟨true,lE b.d5⟩]),(25,.tv (eI c))]:=⟨⟩;have:HA 2 43 42 0 fun(d:Int)(a:d4)=>[(8,.bx [⟨true,lI a.d3⟩,⟨true,lE a.d5⟩]),(43,.tv (eI d))]:=⟨⟩;exact nz)
instance zJ(a:d4)(b:d4)(m:d6):Ct prog (DD a b m) 224 [At a,At b,Aq m] (fun r=>.sh (eI r)):=Fj f224 0x96494847690306d1cd9b5e9bf75c5e5c59388559599797ececd6e1d6e138b95cb25b815e6261494847690306d0c169762c2b2a690306d1859e599e5938b959b25b815e580476612c2b2a690306d03738b95cfc58e3e3f3f27ef1 [] [.tmp 6] (h:=fun r h e f=>by
  unfold DD at h;have:HA 0 44 43 0 fun(c:Int)(_:Unit)=>[(44,.tv (eI c))]:=⟨⟩;have:HA 2 73 72 0 fun(d:Int)(_:Unit)=>[(73,.tv (eI d))]:=⟨⟩;exact nz)
instance AAU(l:Fp):Ct prog (GK l) 288 [lI l] (fun r=>.sh (eI r)):=Fj f288 0x81152a142914991a30d8 [] [.tmp 2] (h:=fun r h a b=>by
  unfold GK at h;exact nz)
instance zK(a:d4)(b:d4)(m:d6):Ct prog (Cv a b m) 225 [At a,At b,Aq m] (fun r=>.sh (eB r)):=Fj f225 0xb86b5c0eb30a6b590ef70eda7ef1 [] [.tmp 6] (h:=fun r h c d=>by
  unfold Cv at h;exact nz)
instance yU(a:f0):Ct prog (JF a) 172 [Bc a] (fun r=>.sh (eI r)):=Fj f172 0xa6b4550d42ead3f2550d42ead38401639a9a0b490ac91171550b42ea01749f [] [.tmp 2] (h:=fun r h b c=>by
  unfold JF at h;exact nz)
instance zL(l:Fp)(n:Int):Ct prog (J0 l n) 226 [lI l,eI n] (fun r=>.own (lI r)):=Fj f226 0x8202d477050004c677050004770500043ca2dbd7b4308158f6770500047d01c001406202 [] [.tmp 4] (h:=fun r h c d=>by
  unfold J0 at h;have:HA 0 8 7 0 fun(b:Int)(a:Fp)=>[(5,.ow (lI a)),(8,.tv (eI b))]:=⟨⟩;exact nz)
instance yV(a:f0):Ct prog (Kg a) 173 [Bc a] (fun r=>.tp [lI r.1,lI r.2]):=Fj f173 0x82820e0b3675d37c0d420e0b6d5ad36d0d744001409f [] [.tmp 2,.tmp 3] (h:=fun r h b c=>by
  unfold Kg at h;exact nz)
instance zN(a:Int)(b:AC)(c:d4):Ct prog (Kz a b c) 227 [eI a,.pt (AQ b).cells,.pt (At c).cells] (fun r=>.sh (eB r)):=Fj f227 0x815d41ba9e5991026203 [] [.tmp 4] (h:=fun r h d e=>by
  unfold Kz at h;exact nz)
instance zO(a:Int)(b:d4)(c:AC):Ct prog (Fm a b c) 228 [eI a,.pt (At b).cells,.pt (AQ c).cells] (fun r=>.sh (eB r)):=Fj f228 0x81905e9b595e5c59595597ecd67fb3026203 [] [.tmp 4] (h:=fun r h d e=>by
  unfold Fm at h;exact nz)
instance yW(t:AC)(g:d4)(b:Fp)(a:Fp):Ct prog (F9 t g b a) 174 [AQ t,At g,lI b,lI a] (fun r=>.sh (eB r)):=Fj f174 0xb89010309010305f5d02 [] [.tmp 8] (h:=fun r h c d=>by
  unfold F9 at h;exact nz)
instance AA7(c:d7):Ct prog (Ex c) 334 [AK c] (fun r=>.sh (eB r)):=Fj f334 0x8189b5586bdf6b9b6b7c376bca6b7cb60b6db6700cc96c04749f [] [.tmp 2] (h:=fun r h a b=>by
  unfold Ex at h;exact nz)
abbrev Ab0(n:Nat):Prop:=∀(c:d7),Ct prog (BR n c) 289 [AK c] (fun r=>.sh (eB r))
abbrev Ab2(n:Nat):Prop:=∀(k:d7),Ct prog (Bb n k) 336 [AK k] (fun r=>.sh (eB r))
theorem t1(n:Nat)(_ih_289:Ab0 n)(_ih_336:Ab2 n)(c:d7):Ct prog (BR (n+1) c) 289 [AK c] (fun r=>.sh (eB r)):=Fj f289 0xb8083f5c30ff04d704d7605b69d73c01f9a758011a09043605601a090436058169d73c01f9a7585b69d73c01f9a7585b0583377d0bb39f [.call 335 [.s 42,.c (.clo 336 [])]] [.tmp 2] (h:=fun r h b d=>by
  unfold BR at h;have:HJ 10 fun(a:Bool)=>[(4,.tv (eB a))]:=⟨⟩;exact nz)
theorem uC(n:Nat)(_ih_289:Ab0 n)(_ih_336:Ab2 n)(k:d7):Ct prog (Bb (n+1) k) 336 [AK k] (fun r=>.sh (eB r)):=Fj f336 0x8190a7019f [] [.tmp 2] (h:=fun r h a b=>by
  unfold Bb at h;exact nz)
theorem mL:∀n:Nat,Ab0 n/\Ab2 n:=by
  intro n
  induction n with
  |zero=>exact⟨(fun c=>⟨fun _ h=>by cases h⟩),(fun k=>⟨fun _ h=>by cases h⟩)⟩
  |succ n a=>exact⟨t1 n a.1 a.2,uC n a.1 a.2⟩
instance AAV(c:d7):Ct prog (FH c) 289 [AK c] (fun r=>.sh (eB r)):=⟨fun r h=>by
  obtain ⟨N,a⟩:=C1 h;exact((mL N).1 c).snd r (a N (az _))⟩
instance AA9(k:d7):Ct prog (Qx k) 336 [AK k] (fun r=>.sh (eB r)):=⟨fun r h=>by
  obtain ⟨N,a⟩:=C1 h;exact((mL N).2 k).snd r (a N (az _))⟩
abbrev Q_290(n:Nat):Prop:=∀(c:d7),Ct prog (CH n c) 290 [AK c] (fun r=>.tp [eI r.1,eI r.2])
theorem t6(n:Nat)(_ih_290:Q_290 n)(c:d7):Ct prog (CH (n+1) c) 290 [AK c] (fun r=>.tp [eI r.1,eI r.2]):=Fj f290 0x7d30690269026f8559690103c40b690106c6302cb2307d71a7094b0dc9a7094369010361c40b690106d0c17d309f [] [.tmp 2,.tmp 3] (h:=fun r h e f=>by
  unfold CH at h;have:HA 0 13 12 0 fun(d:Int)(a:Int×Int)=>[(4,.tv (eI a.1)),(5,.tv (eI a.2)),(13,.tv (eI d))]:=⟨⟩;have:HJ 31 fun(b:Int)=>[(5,.tv (eI b))]:=⟨⟩;exact nz)
theorem t2:∀n:Nat,Q_290 n:=by
  intro n
  induction n with
  |zero=>exact(fun c=>⟨fun _ h=>by cases h⟩)
  |succ n a=>exact t6 n a
instance AAW(c:d7):Ct prog (GY c) 290 [AK c] (fun r=>.tp [eI r.1,eI r.2]):=⟨fun r h=>by
  obtain ⟨N,a⟩:=C1 h;exact((t2 N) c).snd r (a N (az _))⟩
instance zQ(c:d7):Ct prog (EN c) 229 [AK c] (fun r=>.sh (eI r)):=Fj f229 0xa6cdb25b8171a738b4a7019f [] [.tmp 2] (h:=fun r h a b=>by
  unfold EN at h;exact nz)
instance ABA(a:Cf)(b:Int):Ct prog (HP a b) 337 [Eg a,.pt [eI b]] (fun r=>.sh (eB r)):=Fj f337 0xac036d0274c3 [] [.tmp 3] (h:=fun r h c d=>by
  unfold HP at h;exact nz)
instance AAX(t:AC)(q:ec)(a:Int):Ct prog (DX t q a) 291 [AQ t,BF q,eI a] (fun r=>.sh (eI r)):=Fj f291 0x967704033c083d014b05364b0e49836e01b4109b0061b503770403083d014b0ec9e0806c7e5fa2 [] [.tmp 6] (h:=fun r h c d=>by
  unfold DX at h;have:HW 0 fun(b:Int)=>[(8,.tv (.pt [eI b]))]:=⟨⟩;exact nz)
abbrev Q_230(n:Nat):Prop:=∀(t:AC)(p:ec)(c:d7),Ct prog (B3 n t p c) 230 [AQ t,BF p,AK c] (fun r=>.sh (eI r))
theorem tj(n:Nat)(_ih_230:Q_230 n)(t:AC)(p:ec)(c:d7):Ct prog (B3 (n+1) t p c) 230 [AQ t,BF p,AK c] (fun r=>.sh (eI r)):=Fj f230 0x96353433040305d180a76c55094b0dc9a709430061353433040305d0c1697669763c706c38b455b6aaaaf355b6aaaaf3b56c8485b5b5700cc96ce4859193bf9f [.Abz (.s 1)] [.tmp 6] (h:=fun r h b d=>by
  unfold B3 at h;have:HA 0 53 52 0 fun(a:Int)(_:Unit)=>[(53,.tv (eI a))]:=⟨⟩;exact nz)
theorem ti:∀n:Nat,Q_230 n:=by
  intro n
  induction n with
  |zero=>exact(fun t p c=>⟨fun _ h=>by cases h⟩)
  |succ n a=>exact tj n a
instance zR(t:AC)(p:ec)(c:d7):Ct prog (JP t p c) 230 [AQ t,BF p,AK c] (fun r=>.sh (eI r)):=⟨fun r h=>by
  obtain ⟨N,a⟩:=C1 h;exact((ti N) t p c).snd r (a N (az _))⟩
instance yX(t:AC)(p:ec)(c:d7):Ct prog (Cu t p c) 175 [AQ t,BF p,AK c] (fun r=>.sh (eI r)):=Fj f175 0x810ea76cf2a7f36c7ef1 [] [.tmp 6] (h:=fun r h a b=>by
  unfold Cu at h;exact nz)
instance xc(t:AC)(a:f0):Ct prog (Gh t a) 125 [AQ t,Bc a] (fun r=>.sh (eI r)):=Fj f125 0x810ea710426cc184b430ead355828271eff3eff3eff26cc184b459380163f47ea1 [] [.tmp 4] (h:=fun r h b c=>by
  unfold Gh at h;exact nz)
instance c84(t:AC)(a:List f0)(b:AH):Ct prog (Dt t a b) 84 [AQ t,(eL 25 Bc) a,Bn b] (fun r=>.sh (eI r)):=Fj f84 0x815bf46555055d1b1a19050305d180ef55194b0fc9ef1943055d611b1a190503058da6bce00163f47e5f30 [] [.tmp 6] (h:=fun r h d e=>by
  unfold Dt at h;have:HA 0 27 26 0 fun(c:Int)(_:Unit)=>[(27,.tv (eI c))]:=⟨⟩;exact nz)
instance yY(t:AC)(b:f0)(a:AH):Ct prog (JY t b a) 176 [AQ t,Bc b,Bn a] (fun r=>.sh (eI r)):=Fj f176 0x815bf465f2ef840163f47ef1 [] [.tmp 6] (h:=fun r h c d=>by
  unfold JY at h;exact nz)
instance ABZ(n:Int)(a:AC):Ct prog (KE n a) 369 [eI n,.pt (AQ a).cells] (fun r=>.sh (eB r)):=Fj f369 0x816b59de [] [.tmp 3] (h:=fun r h b c=>by
  unfold KE at h;exact nz)
instance ABa(a:Bo)(b:AC):Ct prog (KF a b) 370 [Bm a,.pt (AQ b).cells] (fun r=>.sh (eB r)):=Fj f370 0x816b5c91c3 [] [.tmp 3] (h:=fun r h c d=>by
  unfold KF at h;exact nz)
instance ABD(t:AC)(g:d4):Ct prog (El t g) 341 [AQ t,At g] (fun r=>.sh (eB r)):=Fj f341 0xb89010b3901091a1 [] [.tmp 4] (h:=fun r h a b=>by
  unfold El at h;exact nz)
instance AAa(t:AC)(p:d4)(g:d4):Ct prog (Ed t p g) 294 [AQ t,At p,At g] (fun r=>.sh (eI r)):=Fj f294 0xa68a90557e90da6976181716690306d180559a0ac95502436976611817166903068d02c755840163f47ef1 [] [.tmp 6] (h:=fun r h b c=>by
  unfold Ed at h;have:HA 0 24 23 0 fun(a:Int)(_:Unit)=>[(24,.tv (eI a))]:=⟨⟩;exact nz)
instance ABb(t:AC)(a:Int):Ct prog (Gv t a) 371 [AQ t,eI a] (fun r=>.tp [lI r.1,eI r.2]):=Fj f371 0x81820207011312070258c6131207025813120702583ca2dbd78e3055c807f613120702588d91c03801c080adcc3040c3 [] [.tmp 4,.tmp 5] (h:=fun r h d e=>by
  unfold Gv at h;have:HA 0 19 18 0 fun(c:Int)(b:Fp)=>[(7,.ow (lI b)),(19,.tv (eI c))]:=⟨⟩;exact nz)
instance ABE(t:AC):Ct prog (FL t) 342 [AQ t] (fun r=>.own ((eL 1 (eL 1 eB)) r)):=Fj f342 0x820236c43604c6a2db1802c40536051c1b1ac4053608c601fd0114815ec4053605611c1b1ac40536088dc88271cc993fe3c83661c436048d91c001409f [.mkx 1 [.bool false] (.s 18)] [.tmp 2] (h:=fun r h e f=>by
  unfold FL at h;have:HA 0 13 12 0 fun(c:Int)(b:List a5)=>[(3,.ow ((eL 1 (eL 1 eB)) b)),(13,.tv (eI c))]:=⟨⟩;have:HA 2 28 27 0 fun(d:Int)(a:a5)=>[(5,.xo 1 (List.map eB a)),(28,.tv (eI d))]:=⟨⟩;exact nz)
instance AAb(t:AC)(p:d4)(g:d4)(m:d6):Ct prog (FM t p g m) 295 [AQ t,At p,At g,Aq m] (fun r=>.sh (eI r)):=Fj f295 0x96474645bd0506d1cd9b5e9bf75c5e5c59388559599797ececd6e1d6e138b95cb25b815e6261474645bd0506d0c1bd050325242309bd0507d1885e9e595e9e9138b959b25b819ebd05036125242309bd0507d037820e84b95cfc58e30b915fa1 [] [.tmp 8] (h:=fun r h c d=>by
  unfold FM at h;have:HA 0 37 36 0 fun(a:Int)(_:Unit)=>[(37,.tv (eI a))]:=⟨⟩;have:HA 2 71 70 0 fun(b:Int)(_:Unit)=>[(71,.tv (eI b))]:=⟨⟩;exact nz)
theorem wo(l:Fp)(r:Bool)(h:HI l=some r):AV prog 338 [lI l] (.sh (eB r)):=by
  unfold HI at h;rw[<-mC]at h;split at h
  · rename_i a
    cases h;exact cN l a
  .cases h
instance ACB(l:Fp):Ct Go.Proofs.Tryz.prog (HI l) 338 [lI l] (fun r=>.sh (eB r)):=⟨wo l⟩
instance AAY(t:AC)(p:d4)(g:d4)(m:d6)(a:Bool):Ct prog (Ec t p g m a) 292 [AQ t,At p,At g,Aq m,eB a] (fun r=>.sh (eI r)):=Fj f292 0xa68af95c6a5930f355daf2da7e5f5f0401 [] [.tmp 10] (h:=fun r h b c=>by
  unfold Ec at h;exact nz)
instance ABB(t:AC)(p:ec)(a:AH):Ct prog (EJ t p a) 339 [AQ t,BF p,Bn a] (fun r=>.sh (eI r)):=Fj f339 0x815bf465f26c7ef1 [] [.tmp 6] (h:=fun r h b c=>by
  unfold EJ at h;exact nz)
instance ABX(a:kp)(b:Fp):Ct prog (EK a b) 367 [MU a,lI b] (fun r=>.sh (eI r)):=Fj f367 0xac5c5e91385c8591c3 [] [.tmp 4] (h:=fun r h c d=>by
  unfold EK at h;exact nz)
instance ABh(a:Int)(b:Int):Ct prog (GI a b) 392 [eI a,eI b] (fun r=>.tp [eI r.1,J3 r.2]):=Fj f392 0x7d583f583f013f5b816401283f013f30ed [.cvt .u64 (.s 9),.cvt .u64 (.s 11),.bin (.w) .shr (.s 16) (.c (.int .u64 63)),.bin (.w) .shr (.s 18) (.c (.int .u64 63)),.cvt .i64 (.s 21)] [.tmp 4,.tmp 5] (h:=fun r h d e=>by
  unfold GI at h;exact nz)
instance ABg(t:kp)(a:Fp):Ct prog (Ey t a) 391 [MU t,.pt [lI a]] (fun r=>.tp [eI r.1,J3 r.2.1,eB r.2.2]):=Fj f391 0x817d307d715c5e59036e817d0a6b03f759817d307d715cac5973c3 [] [.tmp 3,.tmp 4,.tmp 5] (h:=fun r h b c=>by
  unfold Ey at h;exact nz)
instance ABY(a:Test)(b:Fp):Ct prog (Fe a b) 368 [FJ a,lI b] (fun r=>.sh (eB r)):=Fj f368 0xb889b29189b259810ead0e300e30388a0830085b7d1164010f5503425b7d1164010f7e425b1001a1 [] [.tmp 4] (h:=fun r h c d=>by
  unfold Fe at h;exact nz)
instance ABC(p:ec)(a:AH)(m:d6):Ct prog (Hq p a m) 340 [BF p,Bn a,Aq m] (fun r=>.tp [lI r.1,eI r.2]):=Fj f340 0x81821808e24b4a0804d101c08820146c7007c96c054308f64c4b4a0804d0e4085d19181709f50308d101c08501201455b61918170c0b09f5030a1918170c0b09f5030a3c01fd01fd057cb6301401148a0817e20114585b6db6815e5c5e5e59599bd208c9a8ba085d6119181709f50308d0b699993fb53fb53040f1 [.mkx 1 [.int .i64 0] (.s 17),.mkx 1 [.bool false] (.s 20)] [.tmp 6,.tmp 7] (h:=fun r h e f=>by
  unfold Hq at h;have:HA 0 25 24 0 fun(c:Int)(b:Fp×a5)=>[(8,.xo 1 (List.map eI b.1)),(9,.xo 1 (List.map eB b.2)),(25,.tv (eI c))]:=⟨⟩;have:HA 2 76 75 0 fun(d:Int)(_:Unit)=>[(76,.tv (eI d))]:=⟨⟩;exact nz)
instance AAZ(t:AC)(p:ec)(a:AH)(m:d6):Ct prog (De t p a m) 293 [AQ t,BF p,Bn a,Aq m] (fun r=>.tp [lI r.1,eI r.2]):=Fj f293 0x8182640e55656c3801c08055aaaa8401c080656c5530405fa1 [] [.tmp 8,.tmp 9] (h:=fun r h b c=>by
  unfold De at h;exact nz)
instance zT(t:AC)(a:f0)(b:AH)(m:AO):Ct prog (HK t a b m) 231 [AQ t,Bc a,Bn b,Bf m] (fun r=>.sh (eI r)):=Fj f231 0xa6b4e93801638271aa656cc184850e030f42aaaaeac17e5fa1 [] [.tmp 8] (h:=fun r h c d=>by
  unfold HK at h;exact nz)
instance zU(t:AC)(p:d4)(g:d4)(m:d6):Ct prog (EP t p g m) 232 [AQ t,At p,At g,Aq m] (fun r=>.tp [At r.1,eI r.2]):=Fj f232 0x819a550c08022726250c080606c6e6dddb9e590437815e0c0802612726250c080606d03702500ac93f0e5c389a010a467255da849a010a4672da7e0ac95fa1 [.Aau [.z ⟨true,.list 1 []⟩,.w 34]] [.cell 8 (some 2),.tmp 9] (h:=fun r h c d=>by
  unfold EP at h;have:HA 0 39 38 0 fun(b:Int)(a:d4)=>[(12,.bx [⟨true,lI a.d3⟩,⟨true,lE a.d5⟩]),(39,.tv (eI b))]:=⟨⟩;exact nz)
instance AAc(a:Bj):Ct prog (CU a) 296 [Hv a] (fun r=>.sh (eI r)):=Fj f296 0x810e55e4aaf355d355b6aa019f [] [.tmp 2] (h:=fun r h b c=>by
  unfold CU at h;exact nz)
instance ABF(a:Fp)(b:Fp):Ct prog (FZ a b) 343 [lI a,lI b] (fun r=>.own ((eL 2 QT) r)):=Fj f343 0x8202d4be8c05c6be8c05bebd8c07b1bebd8c07bebd8c073c02024802470c4630028a0a907390ebbbbbbe8c05cbbebd8c07ac5b58f6be8c058dd7c002406202 [] [.tmp 4] (h:=fun r h g i=>by
  unfold FZ at h;have:HA 0 10 9 0 fun(e:Int)(d:List GP)=>[(5,.ow ((eL 2 QT) d)),(10,.tv (eI e))]:=⟨⟩;have:HA 2 7 0 0 fun(f:Int)(c:List GP)=>[(5,.ow ((eL 2 QT) c)),(7,.tv (eI f))]:=⟨⟩;exact nz)
instance AAd(a:Bj):Ct prog (Dc a) 297 [Hv a] (fun r=>.tp [(eL 2 QT) r.1,(eL 2 QT) r.2]):=Fj f297 0x82820e7ce47cd30e6de46dd3024002409f [] [.tmp 2,.tmp 3] (h:=fun r h b c=>by
  unfold Dc at h;exact nz)
instance ABG(a:Bj):Ct prog (DJ a) 344 [Hv a] (fun r=>.own (lI r)):=Fj f344 0x820236be083605c6be083605be0836053ca2dbd7b4016de47d9e3661be083605d05a0674c001409f [] [.tmp 2] (h:=fun r h d e=>by
  unfold DJ at h;have:HA 0 10 9 0 fun(c:Int)(b:Fp)=>[(3,.ow (lI b)),(10,.tv (eI c))]:=⟨⟩;exact nz)
instance AAe(a:Bj):Ct prog (DB a) 298 [Hv a] (fun r=>.own (lI r)):=Fj f298 0x82020401c40b043606c6c40b043606c40b0436063ca2dbd78af99b300e5c3090017cd39781ecd67f04f6c40b043606d001410274c0820e084401409f [] [.tmp 2] (h:=fun r h d e=>by
  unfold DB at h;have:HA 0 13 12 0 fun(c:Int)(b:Fp)=>[(4,.ow (lI b)),(13,.tv (eI c))]:=⟨⟩;exact nz)
instance AAf(n:Int)(a:Fp)(b:Fp):Ct prog (GH n a b) 299 [eI n,lI a,lI b] (fun r=>.own (lI r)):=Fj f299 0x82020a01201f1e0a04c6201f1e0a04201f1e0a043ca2dbd7885b819e0af6201f1e0a048d9801c0070111100f070205c611100f07020511100f0702053c01fd0114b4307d9e07f611100f0702058d81993f3040026203 [.mkx 1 [.bool false] (.s 13)] [.tmp 6] (h:=fun r h g i=>by
  unfold GH at h;have:HA 0 17 16 0 fun(e:Int)(d:a5)=>[(7,.xo 1 (List.map eB d)),(17,.tv (eI e))]:=⟨⟩;have:HA 2 32 31 0 fun(f:Int)(c:Fp)=>[(10,.ow (lI c)),(32,.tv (eI f))]:=⟨⟩;exact nz)
instance zV(l:d4)(g:d4)(a:BH)(m:d6):Ct prog (FQ l g a m) 233 [At l,At g,Fr a,Aq m] (fun r=>.tp [Fr r.1,eI r.2]):=Fj f233 0x8013b819a03e75c5cfc0e5959e36e9a0b46816b0e0844819a0b46ac6bfa018282710844389afa46720844084b10c90d4655da7ef05fa1 [] [.cell 8 (some 2),.tmp 9] (h:=fun r h b c=>by
  unfold FQ at h;exact nz)
instance ABH(t:AC)(p:ec)(c:d7)(b:AH)(m:AO)(a:Bool):Ct prog (EM t p c b m a) 345 [AQ t,BF p,AK c,Bn b,Bf m,eB a] (fun r=>.sh (eI r)):=Fj f345 0xa6b4e93801638271aa656cf201aaaaaa840163f465f2a76c7e935f5fd4 [] [.tmp 12] (h:=fun r h d e=>by
  unfold EM at h;exact nz)
instance ABo(n:Int)(b:Fp)(a:Fp):Ct prog (Fa n b a) 406 [eI n,lI b,lI a] (fun r=>.own (lI r)):=Fj f406 0x821807010f0e0d070205c601fd5e73147d9e07f60f0e0d0702058d81991a30470140026203 [] [.tmp 6] (h:=fun r h e f=>by
  unfold Fa at h;have:HA 0 15 14 0 fun(d:Int)(c:Fp)=>[(7,.xo 1 (List.map eI c)),(15,.tv (eI d))]:=⟨⟩;exact nz)
instance ABt(k:Int)(a:Int):Ct prog (Lp k a) 412 [eI k,.pt [eI a]] (fun r=>.sh (eB r)):=Fj f412 0x818903b2de [] [.tmp 3] (h:=fun r h b c=>by
  unfold Lp at h;exact nz)
instance ABr(l:Fp)(n:Int):Ct prog (Fx l n) 410 [lI l,eI n] (fun r=>.sh (eI r)):=Fj f410 0xa68e10309f01 [] [.tmp 4] (h:=fun r h a b=>by
  unfold Fx at h;exact nz)
instance ABw(l:Fp)(a:Int):Ct prog (HH l a) 415 [lI l,eI a] (fun r=>.sh (eI r)):=Fj f415 0x81bb389cde [] [.tmp 4] (h:=fun r h b c=>by
  unfold HH at h;exact nz)
instance ABy(f:AL)(b:Int)(k:Int):Ct prog (Dj f b k) 417 [.pt (RD f).cells,eI b,eI k] (fun r=>.sh (eB r)):=Fj f417 0x813f0e465e9b030975015e5c0309750159d67f7c0275e0cdeb5b0e017c05750197ecd67f36755a30026203 [.bin (.a [0,0,0]) .eql (.s 38) (.s 57)] [.tmp 6] (h:=fun r h c d=>by
  unfold Dj at h;exact nz)
instance ABx(f:AL):Ct prog (B9 f) 416 [.pt (RD f).cells] (fun r=>.sh (eB r)):=Fj f416 0x96141312030005601413120300051413120300058188011413120603000626251413120604030009c6ff14131206030006018e73c81413120603000661262514131206040300098d7c02755bff14131203000585012c9b5c9781ecd6436261141312030005d001755a5b6b03097530d8 [] [.tmp 2] (h:=fun r h d e=>by
  unfold B9 at h;have:HA 0 20 19 0 fun(b:Int)(_:Unit)=>[(20,.tv (eI b))]:=⟨⟩;have:HA 2 38 37 0 fun(c:Int)(a:Bool)=>[(6,.tv (eB a)),(38,.tv (eI c))]:=⟨⟩;exact nz)
noncomputable def ZH:PC:=PC.of XL f414.body (xq bT 0xffd83ce60b75024802470346201d0aa9201d09a9040ba937d8a4a306000460a4a3060004a4a30600043c1f0a750151011e0aa9370052371f0a75014fad011e0aa937ffa4a30600048a0a20011d0aa9010307a901082030378162f6a4a30600048d7c02a981151d0aa9816b36755a37151d0aa9d83f3e3d020005603f3e3d0200053f3e3d0200053c1f09750151011e09a9373f3e3d0200053f3e3d0200053c005237a0371f0975014fad011e09a937ff3f3e3d0200058a0a20011d09a9010307a9010a089e5e9e6d5a5a37a5a90189eb5b0e016d05a97d5e62f63f3e3d020005d05a02a981151d09a9816b6d5a5a37151d09a9005b050308a90b030ba9d8) []
theorem uT:CK f414 ZH []:=by decide +kernel
theorem uq:PC.Aae ZH=true/\PC.Aaf 0 ZH=true:=by decide +kernel
abbrev Q_414(n:Nat):Prop:=∀(f:AL),Ct prog (Az n f) 414 [.undef] (fun r=>.bo (Cr f) (Cr r) 0 [])
theorem uI(n:Nat)(_ih_414:Q_414 n)(f:AL):Ct prog (Az (n+1) f) 414 [.undef] (fun r=>.bo (Cr f) (Cr r) 0 []):=mH uT uq fun r h i g j=>by
  unfold ZH;unfold f414;unfold Az at h;have:HA 1 63 62 0 fun(d:Int)(c:AL)=>[(0,.bx (Cr c)),(63,.tv (eI d))]:=⟨⟩;have:HA 3 164 163 0 fun(a:Int)(b:AL)=>[(0,.bx (Cr b)),(164,.tv (eI a))]:=⟨⟩;have:HJ 28 fun(e:AL)=>[(0,.bx (Cr e))]:=⟨⟩;exact nz
theorem uH:∀n:Nat,Q_414 n:=by
  intro n
  induction n with
  |zero=>exact(fun f=>⟨fun _ h=>by cases h⟩)
  |succ n a=>exact uI n a
instance ABv(f:AL):Ct prog (Et f) 414 [.undef] (fun r=>.bo (Cr f) (Cr r) 0 []):=⟨fun r h=>by
  obtain ⟨N,a⟩:=C1 h;exact((uH N) f).snd r (a N (az _))⟩
theorem uS:CK f413 (Rq [Aa 6 0,Aa 7 1,Aa 8 2,Aa 9 3,⟨some 12,.Abx 2,none⟩] [4,5,6,7,8,9]<|Sq (Dr [13,14,15,16,17,18,19,20,21] [Ab 14 7 2,Ab 15 8 2,Ab 16 6 2,⟨some 17,.call 342 [.s 16],none⟩,Ab 18 9 2,⟨some 19,.mv (.s 4),none⟩,⟨some 20,.mv (.s 5),none⟩,⟨some 21,.bld [.list 1 [],.list 3 [],.list 1 [],.list 3 [],.list 1 [],.list 1 [],.list 1 [],.bool false,.int .i64 0,.nil,.nil,.nil] [(0,2,.s 14),(2,2,.s 15),(4,1,.s 17),(5,2,.s 18),(7,1,.s 19),(8,1,.s 20)],none⟩,⟨some 22,.Abw [none,none,none,none,none,none,none,none,none,some ⟨true,.xl 1 []⟩,some ⟨true,.xl 1 []⟩,some ⟨true,.list 2 []⟩] (.s 21),none⟩,⟨some 13,.bad 22 0,none⟩] [13,22])<|Rq [Ac 23 13 0,⟨some 24,.AaG 414 [.s 23] 0,none⟩] [13,22]<|Rq [Ac 25 13 0,Ac 26 25 0,Ac 27 26 11,⟨some 28,.ld (.s 27),none⟩,⟨some 12,.tk 28,none⟩] [12]<|.ret) [.tmp 12]:=by decide +kernel
instance ABu(t:AC)(p:d4)(g:d4)(b:d6)(a:Bool)(c:Int):Ct prog (GA t p g b a c) 413 [AQ t,At p,At g,Aq b,eB a,eI c] (fun r=>.sh ((eL 2 Aq) r)):=Fi uS fun r h d e=>by
  unfold GA at h;exact au
instance ABs(t:AC)(p:d4)(g:d4)(b:d6)(a:Bool):Ct prog (JV t p g b a) 411 [AQ t,At p,At g,Aq b,eB a] (fun r=>.tp [(eL 2 Aq) r.1,eI r.2]):=Fj f411 0x8182e002c0bc01820eccda7e02405f5f0401 [] [.tmp 10,.tmp 11] (h:=fun r h c d=>by
  unfold JV at h;exact nz)
instance ABp(t:AC)(p:d4)(g:d4)(b:d6)(a:Bool):Ct prog (FW t p g b a) 407 [AQ t,At p,At g,Aq b,eB a] (fun r=>.tp [(eL 2 Aq) r.1,eI r.2]):=Fj f407 0x8182640eccda8402c080fc5c3802c080e3593802c0b95cfc58e3e33802c080da7e02405f5f0401 [] [.tmp 10,.tmp 11] (h:=fun r h c d=>by
  unfold FW at h;exact nz)
instance ABJ(a:kp)(b:Fp):Ct prog (Eu a b) 348 [MU a,lI b] (fun r=>.tp [eI r.1,eI r.2]):=Fj f348 0x7d0e018481b46b015930c3 [] [.tmp 4,.tmp 5] (h:=fun r h c d=>by
  unfold Eu at h;exact nz)
instance ABq(b:As)(q:ec)(m:d6)(a:Fp):Ct prog (Do b q m a) 408 [CQ b,BF q,Aq m,lI a] (fun r=>.tp [lI r.1,eB r.2]):=Fj f408 0x8182180a016867660a04d101c08820146c7007c96c05430af66867660a04d0e489022c2b2a0b0a066908d101c0cdeb5b816401201455b62c2b2a0f0e0b0a06690a2c2b2a0f0e0b0a06690a3c01fd01fd057cb6301401148a0817e20114585b6db6815e5c5e5e59595d41b6d208c9a8ba8902612c2b2a0b0a066908d0b60b0a06690522210b0a066907c601fd0114c80b0a0669056122210b0a0669078d01993fb5993f6b01b51a7340935f36 [.Abm 1 22 (.int .i64 0) (.s 27),.mkx 1 [.bool false] (.s 30)] [.tmp 8,.tmp 9] (h:=fun r h i j=>by
  unfold Do at h;have:HA 0 34 33 0 fun(f:Int)(d:a5)=>[(11,.xo 1 (List.map eB d)),(34,.tv (eI f))]:=⟨⟩;have:HA 2 44 43 0 fun(g:Int)(c:Fp×a5)=>[(10,.xo 1 (List.map eI c.1)),(11,.xo 1 (List.map eB c.2)),(44,.tv (eI g))]:=⟨⟩;have:HA 4 104 103 0 fun(e:Int)(_:Unit)=>[(104,.tv (eI e))]:=⟨⟩;exact nz)
instance ABl(a:As)(c:d7)(m:AO):Ct prog (Bw a c m) 396 [CQ a,AK c,Bf m] (fun r=>.tp [(eL 3 Bf) r.1,eI r.2]):=Fj f396 0x8182020c013b3a390c690307c63b3a390c6903073b3a390c6903073c02034803470446cc027d82719b556ce406449af05502430cf63b3a390c6903078d8103c03803c001638271030542da5ab655aa9af003e77c377cb6fc0eca6db6e39a0ac9ea04740340f1 [] [.tmp 6,.tmp 7] (h:=fun r h e f=>by
  unfold Bw at h;have:HA 0 59 58 0 fun(d:Int)(b:List AO)=>[(12,.ow ((eL 3 Bf) b)),(59,.tv (eI d))]:=⟨⟩;exact nz)
abbrev AbZ(n:Nat):Prop:=∀(a:As)(c:d7)(m:AO),Ct prog (Ao n a c m) 346 [CQ a,AK c,Bf m] (fun r=>.tp [EX r.1,eI r.2])
abbrev AbW(n:Nat):Prop:=∀(a:As)(c:d7)(m:AO),Ct prog (BO n a c m) 372 [CQ a,AK c,Bf m] (fun r=>.tp [EX r.1,eI r.2])
theorem uD(n:Nat)(_ih_346:AbZ n)(_ih_372:AbW n)(d:As)(c:d7)(m:AO):Ct prog (Ao (n+1) d c m) 346 [CQ d,AK c,Bf m] (fun r=>.tp [EX r.1,eI r.2]):=Fj f346 0xb710466e70640e65a70644acb7104606014b4a4906050306d17001104685e070114605476c01637011c97165a70644094b810dc9a7097f06f64b4a4906050306d0c1acb76c0a06022f2e2d0a06050307c6e6e4054805476c04e43870011046637011c97165a70644094b0dc9a709430a0602612f2e2d0a06050307d0c111c9acb70110466e701046acb71046ac7d7011497165a709435c0644ac83dd11c9f1 [] [.cell 6 (some 5),.tmp 7] (h:=fun r h g i=>by
  unfold Ao at h;have:HA 2 47 46 0 fun(f:Int)(a:A6×A6)=>[(6,.bx [⟨false,eI a.1.AaB⟩,⟨true,lI a.1.o3.d6.d3⟩,⟨true,lI a.1.o3.d6.d5⟩,⟨true,lI a.1.o3.hV⟩,⟨true,Ha a.1.hT⟩]),(10,.bx [⟨false,eI a.2.AaB⟩,⟨true,lI a.2.o3.d6.d3⟩,⟨true,lI a.2.o3.d6.d5⟩,⟨true,lI a.2.o3.hV⟩,⟨true,Ha a.2.hT⟩]),(47,.tv (eI f))]:=⟨⟩;have:HA 4 75 74 0 fun(e:Int)(b:A6)=>[(6,.bx [⟨false,eI b.AaB⟩,⟨true,lI b.o3.d6.d3⟩,⟨true,lI b.o3.d6.d5⟩,⟨true,lI b.o3.hV⟩,⟨true,Ha b.hT⟩]),(75,.tv (eI e))]:=⟨⟩;exact nz)
theorem uG(n:Nat)(_ih_346:AbZ n)(_ih_372:AbW n)(b:As)(c:d7)(m:AO):Ct prog (BO (n+1) b c m) 372 [CQ b,AK c,Bf m] (fun r=>.tp [EX r.1,eI r.2]):=Fj f372 0xb7104606011b1a1906040306d17001104685e070124605476c65637011c97165a709435c06449712c9d64306f61b1a19060403068da67001104663827165a706440111c9f1 [] [.cell 6 (some 5),.tmp 7] (h:=fun r h e f=>by
  unfold BO at h;have:HA 0 27 26 0 fun(d:Int)(a:A6)=>[(6,.bx [⟨false,eI a.AaB⟩,⟨true,lI a.o3.d6.d3⟩,⟨true,lI a.o3.d6.d5⟩,⟨true,lI a.o3.hV⟩,⟨true,Ha a.hT⟩]),(27,.tv (eI d))]:=⟨⟩;exact nz)
theorem mM:∀n:Nat,AbZ n/\AbW n:=by
  intro n
  induction n with
  |zero=>exact⟨(fun b c m=>⟨fun _ h=>by cases h⟩),(fun b c m=>⟨fun _ h=>by cases h⟩)⟩
  |succ n a=>exact⟨uD n a.1 a.2,uG n a.1 a.2⟩
instance ABI(a:As)(c:d7)(m:AO):Ct prog (Dd a c m) 346 [CQ a,AK c,Bf m] (fun r=>.tp [EX r.1,eI r.2]):=⟨fun r h=>by
  obtain ⟨N,b⟩:=C1 h;exact((mM N).1 a c m).snd r (b N (az _))⟩
instance ABc(a:As)(c:d7)(m:AO):Ct prog (OV a c m) 372 [CQ a,AK c,Bf m] (fun r=>.tp [EX r.1,eI r.2]):=⟨fun r h=>by
  obtain ⟨N,b⟩:=C1 h;exact((mM N).2 a c m).snd r (b N (az _))⟩
instance AAg(t:AC)(p:ec)(c:d7)(b:AH)(m:AO)(a:Bool):Ct prog (DW t p c b m a) 300 [AQ t,BF p,AK c,Bn b,Bf m,eB a] (fun r=>.tp [EX r.1,eI r.2]):=Fj f300 0xb7640e65a713460165847001104672016565a76c7e11c9935f5fd4 [] [.cell 12 (some 5),.tmp 13] (h:=fun r h d e=>by
  unfold DW at h;exact nz)
instance zW(t:AC)(p:ec)(c:d7)(b:AH)(m:AO)(a:Bool):Ct prog (C6 t p c b m a) 234 [AQ t,BF p,AK c,Bn b,Bf m,eB a] (fun r=>.tp [eB r.1,eI r.2]):=Fj f234 0x7d58e0816370114971016565a76c5530935f5fd4 [] [.tmp 12,.tmp 13] (h:=fun r h d e=>by
  unfold C6 at h;exact nz)
instance zX(m:AO):Ct prog (I5 m) 235 [Bf m] (fun r=>.sh (Bf r)):=Fj f235 0xa23b9704e79b03e77c370eca12c99f [] [.cell 2 (some 3)] (h:=fun r h a b=>by
  unfold I5 at h;exact nz)
instance zY(a:AH):Ct prog (Jl a) 236 [Bn a] (fun r=>.sh (Bn r)):=Fj f236 0x97655d02131211fbc6e60274db0148304704b6825e5d0261131211fbd0b6035005c93f3f0e7c370eca05c99f [.Aau [.w 9,.w 13],.Aau [.g 14 0 2,.g 14 1 2,.z ⟨true,.list 1 []⟩]] [.cell 2 (some 3)] (h:=fun r h d e=>by
  unfold Jl at h;have:HA 0 19 18 0 fun(c:Int)(b:AH)=>[(3,.bx [⟨true,lI b.d4.d3⟩,⟨true,lE b.d4.d5⟩,⟨true,(eL 1 lI) b.fd⟩]),(19,.tv (eI c))]:=⟨⟩;exact nz)
instance zZ(n:Int)(l:Fp):Ct prog (K0 n l) 237 [eI n,lI l] (fun r=>.own (lI r)):=Fj f237 0x8218d4c4d404c601fd3014c4bdd406c4bdd4063c01885b8171308158f6c4d404819514993f30406202 [.mkx 1 [.int .i64 0] (.s 9)] [.tmp 4] (h:=fun r h c d=>by
  unfold K0 at h;have:HA 0 13 12 0 fun(b:Int)(a:Fp)=>[(5,.xo 1 (List.map eI a)),(13,.tv (eI b))]:=⟨⟩;exact nz)
instance za(c:Int)(d:Fp)(e:Fp)(a:Fp)(b:Fp)(n:Int):Ct prog (GB c d e a b n) 238 [eI c,lI d,lI e,lI a,lI b,eI n] (fun r=>.own (lI r)):=Fj f238 0x82180d012b2a0d69c62b2a0d692b2a0d696030fd30148517e20114c80df62b2a0d698195140d05021615140d693608c601fd5e5e5e7330147d9e0d0502611615140d6936088d81991a30470140695d6206 [] [.tmp 12] (h:=fun r h k l=>by
  unfold GB at h;have:HA 0 22 21 0 fun(i:Int)(g:Fp)=>[(13,.xo 1 (List.map eI g)),(22,.tv (eI i))]:=⟨⟩;have:HA 2 43 42 0 fun(j:Int)(f:Int×Fp)=>[(5,.tv (eI f.1)),(13,.xo 1 (List.map eI f.2)),(43,.tv (eI j))]:=⟨⟩;exact nz)
instance AAh(t:AC)(a:Int):Ct prog (H9 t a) 302 [AQ t,eI a] (fun r=>.own (lI r)):=Fj f302 0x820207011312110704c6a2db5c02d202c9a8ba07f613121107048d8182ad018271017e40c3 [] [.tmp 4] (h:=fun r h d e=>by
  unfold H9 at h;have:HA 0 19 18 0 fun(c:Int)(b:Fp)=>[(7,.ow (lI b)),(19,.tv (eI c))]:=⟨⟩;exact nz)
noncomputable def ZC:PC:=PC.of XL f239.body (xq bT 0x30b0afae0104c6b0afae0104b0afae01043ce601751f75034803470e465e9b6d24a95e5c6d24a9590401751fa937bc36751fa99e7c24a99781ecd6437361b0afae0104d0c107d77b7a79073606c67b7a790736067b7a790736063c1f02411f7521221acc2302411fa9dd4a5a5a1f7501db01045a5a1fa937bc6d5a1fa99e6d24a97d9e07d7617b7a79073606d0370736974a49bd3607c6e601751f75034803470e465e9b6d22a95e5c6d22a9590401751fa93797ecd67f7c37815e073603614b4a49bd3607d0c1bd0536051e1d1cbd053608c61f02411f752122014f9ee9562302411fa9dd4a5a5a1f7501db9eca045a5a1fa937815ebd053605611e1d1cbd053608d0379a970ac905c9ea06755a37651ca95f30) []
theorem uN:CK f239 ZC []:=by decide +kernel
theorem uk:PC.Aae ZC=true/\PC.Aaf 1 ZC=true:=by decide +kernel
instance zb(t:AC)(a:Ax)(d:BH):Ct prog (Gk t a d) 239 [AQ t,.undef,Fr d] (fun r=>.bo (DT a) (DT r) 1 []):=mH uN uk fun r h m l n=>by
  unfold ZC;unfold f239;unfold Gk at h;have:HA 0 30 29 0 fun(j:Int)(g:Ax)=>[(1,.bx (DT g)),(30,.tv (eI j))]:=⟨⟩;have:HA 2 75 74 0 fun(k:Int)(f:Ax)=>[(1,.bx (DT f)),(75,.tv (eI k))]:=⟨⟩;have:HA 4 123 122 0 fun(i:Int)(e:Ax)=>[(1,.bx (DT e)),(123,.tv (eI i))]:=⟨⟩;have:HA 6 176 175 0 fun(b:Int)(c:Ax)=>[(1,.bx (DT c)),(176,.tv (eI b))]:=⟨⟩;exact nz
theorem uP:CK f303 (.seq (.region [⟨some 1,.Abt (.s 0),none⟩,
    ⟨some 2,.mv (.c .undef),none⟩,
    ⟨some 3,.mv (.c (.int .i64 0)),none⟩] [1])
 (.seq (.region [⟨some 12,.mkm,none⟩,
    ⟨some 4,.mvm 12,none⟩] [1,4,12])
 (.seq (.seq (.region [⟨some 13,.bad 1 0,none⟩,
    ⟨some 14,.fad (.s 13) 6,none⟩,
    ⟨some 15,.fad (.s 14) 2,none⟩,
    ⟨some 16,.ld (.s 15),none⟩,
    ⟨some 17,.len (.s 16),none⟩,
    ⟨some 18,.mv (.c (.int .i64 0)),none⟩] [1,4,12,16,17,18])
 (.block 0 (.loop [1,4,12,16,17,18] (.seq (.region [⟨some 19,.bin (.i) .lss (.s 18) (.s 17),none⟩] [1,4,12,16,17,18,19])
 (.seq (.cond (.s 19) (.skip [1,4,12,16,17,18])
 (.exit 0 [4,12]))
 (.seq (.block 1 (.seq (.region [⟨some 20,.iad (.s 16) (.s 18) 4,none⟩,
    ⟨some 21,.lda (.s 20) 4,none⟩,
    ⟨some 6,.alc [⟨false,.int .i64 0⟩,⟨false,.int .i64 0⟩,⟨false,.int .i64 0⟩,⟨false,.int .i64 0⟩],none⟩,
    ⟨none,.stb 4 6 (.s 21),none⟩] [1,4,6,12,16,17,18])
 (.seq (.region [⟨some 23,.bad 6 2,none⟩,
    ⟨some 24,.lda (.s 23) 2,none⟩,
    ⟨some 25,.bad 1 25,none⟩,
    ⟨some 26,.fad (.s 25) 2,none⟩,
    ⟨some 27,.ld (.s 26),none⟩,
    ⟨some 28,.call 348 [.s 24,.s 27],none⟩,
    ⟨some 22,.mv (.s 28),none⟩,
    ⟨some 29,.ext (.s 22) 0,none⟩,
    ⟨some 30,.ext (.s 22) 1,none⟩,
    ⟨some 7,.mv (.s 29),none⟩,
    ⟨some 8,.mv (.s 30),none⟩] [1,4,6,7,8,12,16,17,18])
 (.seq (.seq (.region [⟨some 31,.mv (.s 8),none⟩,
    ⟨some 32,.bin (.i) .neq (.s 31) (.c (.int .i64 0)),none⟩] [1,4,6,7,8,12,16,17,18,32])
 (.cond (.s 32) (.seq (.region [⟨some 33,.mv (.s 8),none⟩,
    ⟨some 2,.mv (.c .undef),none⟩,
    ⟨some 3,.mv (.s 33),none⟩] [2,3,12])
 .ret)
 (.skip [1,4,6,7,12,16,17,18])))
 (.seq (.draw [9,34,35,36,37,38,39,40,41,42,43] [⟨some 34,.bad 1 36,none⟩,
    ⟨some 35,.fad (.s 34) 0,none⟩,
    ⟨some 36,.ld (.s 35),none⟩,
    ⟨some 37,.bad 6 0,none⟩,
    ⟨some 38,.ld (.s 37),none⟩,
    ⟨some 39,.iad (.s 36) (.s 38) 1,none⟩,
    ⟨some 40,.ld (.s 39),none⟩,
    ⟨some 41,.bad 6 1,none⟩,
    ⟨some 42,.ld (.s 41),none⟩,
    ⟨some 43,.bld [.int .i64 0,.int .i64 0] [(0,1,.s 40),(1,1,.s 42)],none⟩,
    ⟨some 9,.alc [⟨false,.int .i64 0⟩,⟨false,.int .i64 0⟩],none⟩,
    ⟨none,.stb 2 9 (.s 43),none⟩] [1,4,7,9,12,16,17,18])
 (.seq (.seq (.region [⟨some 45,.mv (.s 4),none⟩,
    ⟨some 46,.lda (.s 9) 2,none⟩,
    ⟨some 47,.mlk 12 (.s 45) (.s 46),none⟩,
    ⟨some 44,.mv (.s 47),none⟩,
    ⟨some 48,.ext (.s 44) 0,none⟩,
    ⟨some 49,.ext (.s 44) 1,none⟩,
    ⟨some 10,.mv (.s 48),none⟩,
    ⟨some 11,.mv (.s 49),none⟩] [1,4,7,9,10,11,12,16,17,18])
 (.seq (.region [⟨some 50,.mv (.s 11),none⟩,
    ⟨some 51,.mv (.s 50),none⟩,
    ⟨some 52,.mv (.s 10),some (51,true)⟩,
    ⟨some 53,.mv (.s 7),some (51,true)⟩,
    ⟨some 54,.bin (.i) .neq (.s 52) (.s 53),some (51,true)⟩,
    ⟨some 55,.pick (.s 51) (.s 54) (.c (.bool false)),none⟩] [1,4,7,9,12,16,17,18,55])
 (.cond (.s 55) (.seq (.region [⟨some 2,.mv (.c .undef),none⟩,
    ⟨some 3,.mv (.c (.int .i64 11)),none⟩] [2,3,12])
 .ret)
 (.skip [1,4,7,9,12,16,17,18]))))
 (.region [⟨some 56,.mv (.s 4),none⟩,
    ⟨some 57,.lda (.s 9) 2,none⟩,
    ⟨some 58,.mv (.s 7),none⟩,
    ⟨none,.mup 12 (.s 56) (.s 57) (.s 58),none⟩] [1,4,12,16,17,18])))))))
 (.region [⟨some 59,.bin (.i) .add (.s 18) (.c (.int .i64 1)),none⟩,
    ⟨some 18,.mv (.s 59),none⟩] [1,4,12,16,17,18])))))))
 (.seq (.region [⟨some 60,.mv (.s 4),none⟩,
    ⟨some 2,.mv (.s 60),none⟩,
    ⟨some 3,.mv (.c (.int .i64 0)),none⟩] [2,3,12])
 .ret)))) [.tmp 2,.tmp 3]:=by decide +kernel
instance AB7(s:Ax):Ct Go.Proofs.Tryz.prog (Hg s) 303 [cd s] Me:=w5 uP fun r h d e=>by
  unfold Hg at h;have K:∀b:Nat,HA 0 18 17 0 fun(a:Int)(c:BM)=>[(12,.mx (.mp b c)),(18,.tv (eI a))]:=fun _=>⟨⟩;have:wP 12:=⟨⟩;exact au
theorem X6(t:AC)(s:Ax)(V:List Fp)(p:(Int×Int)×Int)(a:BM)(r:Bv (List Fp) Unit)(h:MW t s V p=some r):WP (AV Go.Proofs.Tryz.prog) (.block 1 (.seq (.region [⟨some 25,.men 22,none⟩,
    ⟨some 26,.ext (.s 25) 0,none⟩,
    ⟨some 27,.ext (.s 25) 1,none⟩,
    ⟨some 7,.alc [⟨false,.int .i64 0⟩,⟨false,.int .i64 0⟩],none⟩,
    ⟨none,.stb 2 7 (.s 26),none⟩,
    ⟨some 8,.mv (.s 27),none⟩] [1,2,7,8,22])
 (.seq (.draw [9,10,28,29,30,31,32,33,34,35,36,37,38,39,40,41,42] [⟨some 29,.lda (.s 2) 2,none⟩,
    ⟨some 30,.bad 1 0,none⟩,
    ⟨some 31,.fad (.s 30) 0,none⟩,
    ⟨some 32,.fad (.s 31) 31,none⟩,
    ⟨some 33,.fad (.s 32) 0,none⟩,
    ⟨some 34,.fad (.s 33) 0,none⟩,
    ⟨some 35,.ld (.s 34),none⟩,
    ⟨some 36,.bad 7 0,none⟩,
    ⟨some 37,.ld (.s 36),none⟩,
    ⟨some 38,.iad (.s 35) (.s 37) 1,none⟩,
    ⟨some 39,.ld (.s 38),none⟩,
    ⟨some 40,.call 111 [.s 29,.s 39],none⟩,
    ⟨some 28,.mv (.s 40),none⟩,
    ⟨some 41,.ext (.s 28) 0,none⟩,
    ⟨some 42,.ext (.s 28) 1,none⟩,
    ⟨some 9,.mv (.s 41),none⟩,
    ⟨some 10,.mv (.s 42),none⟩] [1,2,7,8,9,22])
 (.seq (.seq (.region [⟨some 43,.mv (.s 8),none⟩,
    ⟨some 44,.mv (.s 9),none⟩,
    ⟨some 45,.bad 7 1,none⟩,
    ⟨some 46,.ld (.s 45),none⟩,
    ⟨some 47,.iad (.s 44) (.s 46) 4,none⟩,
    ⟨some 48,.fad (.s 47) 1,none⟩,
    ⟨some 49,.ld (.s 48),none⟩,
    ⟨some 50,.bin (.i) .lss (.s 43) (.s 49),none⟩,
    ⟨some 51,.mv (.s 50),none⟩,
    ⟨some 52,.mv (.s 8),some (51,false)⟩,
    ⟨some 53,.mv (.s 9),some (51,false)⟩,
    ⟨some 54,.bad 7 1,some (51,false)⟩,
    ⟨some 55,.ld (.s 54),some (51,false)⟩,
    ⟨some 56,.iad (.s 53) (.s 55) 4,some (51,false)⟩,
    ⟨some 57,.fad (.s 56) 2,some (51,false)⟩,
    ⟨some 58,.ld (.s 57),some (51,false)⟩,
    ⟨some 59,.bin (.i) .gtr (.s 52) (.s 58),some (51,false)⟩,
    ⟨some 60,.pick (.s 51) (.c (.bool true)) (.s 59),none⟩] [1,2,7,8,22,60])
 (.cond (.s 60) (.seq (.region [⟨some 4,.mv (.c (.int .i64 6)),none⟩] [1,4])
 .ret)
 (.skip [1,2,7,8,22])))
 (.draw [61,62,63,64,65,66,67,68,69,70,71,72,73] [⟨some 61,.bad 1 0,none⟩,
    ⟨some 62,.fad (.s 61) 0,none⟩,
    ⟨some 63,.fad (.s 62) 31,none⟩,
    ⟨some 64,.fad (.s 63) 2,none⟩,
    ⟨some 65,.lan (.s 64),none⟩,
    ⟨some 66,.bad 7 0,none⟩,
    ⟨some 67,.ld (.s 66),none⟩,
    ⟨some 68,.nia (.s 65) (.s 67),none⟩,
    ⟨some 69,.nld (.s 68),none⟩,
    ⟨some 70,.bad 7 1,none⟩,
    ⟨some 71,.ld (.s 70),none⟩,
    ⟨some 72,.mv (.s 8),none⟩,
    ⟨some 73,.nia (.s 69) (.s 71),none⟩,
    ⟨none,.nst (.s 73) (.s 72),none⟩] [1,2,22]))))) ⟨fun e=>∃b,r=.next b/\Rn (e.jj [1,2,22]) [(1,.bx (DT (M6 s b))),(2,.tv (.pt (AQ t).cells)),(22,.mx (.mi (some p) a))],fun _ _=>False,fun e=>∃v,r=.ret v/\Rn e [(1,.bx (DT (M6 s V))),(4,.tv (eI 6))]⟩ [(1,.bx (DT (M6 s V))),(2,.tv (.pt (AQ t).cells)),(22,.mx (.mi (some p) a))]:=by
  unfold MW at h;exact au
noncomputable def ZD:PC:=(.seq (.region [⟨some 2,.Abt (.s 0),none⟩,
    ⟨some 4,.mv (.c (.int .i64 0)),none⟩] [1,2])
 (.seq (.region [⟨some 12,.bad 1 0,none⟩,
    ⟨some 13,.fad (.s 12) 0,none⟩,
    ⟨some 14,.lda (.s 13) 38,none⟩,
    ⟨some 15,.AaX 303 [.s 14],none⟩,
    ⟨some 11,.mvm 15,none⟩,
    ⟨some 16,.ext (.s 11) 0,none⟩,
    ⟨some 17,.ext (.s 11) 1,none⟩,
    ⟨some 5,.mv (.s 16),none⟩,
    ⟨some 6,.mv (.s 17),none⟩] [1,2,5,6,15])
 (.seq (.seq (.region [⟨some 18,.mv (.s 6),none⟩,
    ⟨some 19,.bin (.i) .neq (.s 18) (.c (.int .i64 0)),none⟩] [1,2,5,6,15,19])
 (.cond (.s 19) (.seq (.region [⟨some 20,.mv (.s 6),none⟩,
    ⟨some 4,.mv (.s 20),none⟩] [1,4])
 .ret)
 (.skip [1,2,5,15])))
 (.seq (.seq (.region [⟨some 21,.mv (.s 5),none⟩,
    ⟨some 22,.mrg 15 (.s 21),none⟩] [1,2,22])
 (.block 0 (.loop [1,2,22] (.seq (.region [⟨some 23,.mnx 22,none⟩,
    ⟨some 24,.ext (.s 23) 0,none⟩] [1,2,22,24])
 (.seq (.cond (.s 24) (.skip [1,2,22])
 (.exit 0 [1]))
 (.block 1 (.seq (.region [⟨some 25,.men 22,none⟩,
    ⟨some 26,.ext (.s 25) 0,none⟩,
    ⟨some 27,.ext (.s 25) 1,none⟩,
    ⟨some 7,.alc [⟨false,.int .i64 0⟩,⟨false,.int .i64 0⟩],none⟩,
    ⟨none,.stb 2 7 (.s 26),none⟩,
    ⟨some 8,.mv (.s 27),none⟩] [1,2,7,8,22])
 (.seq (.draw [9,10,28,29,30,31,32,33,34,35,36,37,38,39,40,41,42] [⟨some 29,.lda (.s 2) 2,none⟩,
    ⟨some 30,.bad 1 0,none⟩,
    ⟨some 31,.fad (.s 30) 0,none⟩,
    ⟨some 32,.fad (.s 31) 31,none⟩,
    ⟨some 33,.fad (.s 32) 0,none⟩,
    ⟨some 34,.fad (.s 33) 0,none⟩,
    ⟨some 35,.ld (.s 34),none⟩,
    ⟨some 36,.bad 7 0,none⟩,
    ⟨some 37,.ld (.s 36),none⟩,
    ⟨some 38,.iad (.s 35) (.s 37) 1,none⟩,
    ⟨some 39,.ld (.s 38),none⟩,
    ⟨some 40,.call 111 [.s 29,.s 39],none⟩,
    ⟨some 28,.mv (.s 40),none⟩,
    ⟨some 41,.ext (.s 28) 0,none⟩,
    ⟨some 42,.ext (.s 28) 1,none⟩,
    ⟨some 9,.mv (.s 41),none⟩,
    ⟨some 10,.mv (.s 42),none⟩] [1,2,7,8,9,22])
 (.seq (.seq (.region [⟨some 43,.mv (.s 8),none⟩,
    ⟨some 44,.mv (.s 9),none⟩,
    ⟨some 45,.bad 7 1,none⟩,
    ⟨some 46,.ld (.s 45),none⟩,
    ⟨some 47,.iad (.s 44) (.s 46) 4,none⟩,
    ⟨some 48,.fad (.s 47) 1,none⟩,
    ⟨some 49,.ld (.s 48),none⟩,
    ⟨some 50,.bin (.i) .lss (.s 43) (.s 49),none⟩,
    ⟨some 51,.mv (.s 50),none⟩,
    ⟨some 52,.mv (.s 8),some (51,false)⟩,
    ⟨some 53,.mv (.s 9),some (51,false)⟩,
    ⟨some 54,.bad 7 1,some (51,false)⟩,
    ⟨some 55,.ld (.s 54),some (51,false)⟩,
    ⟨some 56,.iad (.s 53) (.s 55) 4,some (51,false)⟩,
    ⟨some 57,.fad (.s 56) 2,some (51,false)⟩,
    ⟨some 58,.ld (.s 57),some (51,false)⟩,
    ⟨some 59,.bin (.i) .gtr (.s 52) (.s 58),some (51,false)⟩,
    ⟨some 60,.pick (.s 51) (.c (.bool true)) (.s 59),none⟩] [1,2,7,8,22,60])
 (.cond (.s 60) (.seq (.region [⟨some 4,.mv (.c (.int .i64 6)),none⟩] [1,4])
 .ret)
 (.skip [1,2,7,8,22])))
 (.draw [61,62,63,64,65,66,67,68,69,70,71,72,73] [⟨some 61,.bad 1 0,none⟩,
    ⟨some 62,.fad (.s 61) 0,none⟩,
    ⟨some 63,.fad (.s 62) 31,none⟩,
    ⟨some 64,.fad (.s 63) 2,none⟩,
    ⟨some 65,.lan (.s 64),none⟩,
    ⟨some 66,.bad 7 0,none⟩,
    ⟨some 67,.ld (.s 66),none⟩,
    ⟨some 68,.nia (.s 65) (.s 67),none⟩,
    ⟨some 69,.nld (.s 68),none⟩,
    ⟨some 70,.bad 7 1,none⟩,
    ⟨some 71,.ld (.s 70),none⟩,
    ⟨some 72,.mv (.s 8),none⟩,
    ⟨some 73,.nia (.s 69) (.s 71),none⟩,
    ⟨none,.nst (.s 73) (.s 72),none⟩] [1,2,22]))))))))))
 (.seq (.region [⟨some 4,.mv (.c (.int .i64 0)),none⟩] [1,4])
 .ret)))))
theorem uO:CK f240 ZD [.tmp 4]:=by decide +kernel
theorem ul:PC.Aae ZD=true/\PC.Aaf 1 ZD=true:=by decide +kernel
variable{t:AC}{s:Ax}
theorem eK{p:(Int×Int)×Int}{b:Bool}(h:MY t s p=some b){V:List Fp}(a:Kk V s.wi.fd):
    (b=true->MW t s V p=some (.next (Cd V p)))/\(b=false->MW t s V p=some (.ret ())):=by
  unfold MY MW at h;unfold MW;obtain⟨c,d,h⟩:=bind_some h;obtain⟨q,f,d⟩:=bind_some d;obtain⟨r,g,d⟩:=bind_some d;obtain⟨u,i,d⟩:=bind_some d;obtain⟨j,k,d⟩:=bind_some d;simp only[f,g,i,Option.bind_some]at *;rw[k,Option.bind_some];cases j with
  |true=>
    simp only[if_true,po]at d|-;subst d;simp only[po]at h;subst h;exact⟨fun e=>(by cases e),fun _=>trivial⟩
  |false=>
    simp only[Bool.false_eq_true,if_false]at d|-;obtain⟨v,l,d⟩:=bind_some d;obtain⟨w,m,d⟩:=bind_some d;cases d;simp only[po]at h;subst h;obtain⟨x,x',n,o⟩:=a.idx l m;refine⟨fun _=>?_,fun e=>(by cases e)⟩;rw[n,Option.bind_some,o,Option.bind_some,Zp n o]
theorem gP{a:BM}{c:Bool}(f:a.Dis)(k:AaS (MY t s) a=some c){L y:AB->Prop}{x:Nat->AB->Prop}{d:AB->Prop}
    (m:c=true->y [(1,.bx (DT (M6 s (a.foldl Cd s.wi.fd))))])(g:c=false->∀V,d [(1,.bx (DT (M6 s V))),(4,.tv (eI 6))]):
    WP (AV Go.Proofs.Tryz.prog) (.loop [1,2,22] (.seq (.region [⟨some 23,.mnx 22,none⟩,
    ⟨some 24,.ext (.s 23) 0,none⟩] [1,2,22,24])
 (.seq (.cond (.s 24) (.skip [1,2,22])
 (.exit 0 [1]))
 (.block 1 (.seq (.region [⟨some 25,.men 22,none⟩,
    ⟨some 26,.ext (.s 25) 0,none⟩,
    ⟨some 27,.ext (.s 25) 1,none⟩,
    ⟨some 7,.alc [⟨false,.int .i64 0⟩,⟨false,.int .i64 0⟩],none⟩,
    ⟨none,.stb 2 7 (.s 26),none⟩,
    ⟨some 8,.mv (.s 27),none⟩] [1,2,7,8,22])
 (.seq (.draw [9,10,28,29,30,31,32,33,34,35,36,37,38,39,40,41,42] [⟨some 29,.lda (.s 2) 2,none⟩,
    ⟨some 30,.bad 1 0,none⟩,
    ⟨some 31,.fad (.s 30) 0,none⟩,
    ⟨some 32,.fad (.s 31) 31,none⟩,
    ⟨some 33,.fad (.s 32) 0,none⟩,
    ⟨some 34,.fad (.s 33) 0,none⟩,
    ⟨some 35,.ld (.s 34),none⟩,
    ⟨some 36,.bad 7 0,none⟩,
    ⟨some 37,.ld (.s 36),none⟩,
    ⟨some 38,.iad (.s 35) (.s 37) 1,none⟩,
    ⟨some 39,.ld (.s 38),none⟩,
    ⟨some 40,.call 111 [.s 29,.s 39],none⟩,
    ⟨some 28,.mv (.s 40),none⟩,
    ⟨some 41,.ext (.s 28) 0,none⟩,
    ⟨some 42,.ext (.s 28) 1,none⟩,
    ⟨some 9,.mv (.s 41),none⟩,
    ⟨some 10,.mv (.s 42),none⟩] [1,2,7,8,9,22])
 (.seq (.seq (.region [⟨some 43,.mv (.s 8),none⟩,
    ⟨some 44,.mv (.s 9),none⟩,
    ⟨some 45,.bad 7 1,none⟩,
    ⟨some 46,.ld (.s 45),none⟩,
    ⟨some 47,.iad (.s 44) (.s 46) 4,none⟩,
    ⟨some 48,.fad (.s 47) 1,none⟩,
    ⟨some 49,.ld (.s 48),none⟩,
    ⟨some 50,.bin (.i) .lss (.s 43) (.s 49),none⟩,
    ⟨some 51,.mv (.s 50),none⟩,
    ⟨some 52,.mv (.s 8),some (51,false)⟩,
    ⟨some 53,.mv (.s 9),some (51,false)⟩,
    ⟨some 54,.bad 7 1,some (51,false)⟩,
    ⟨some 55,.ld (.s 54),some (51,false)⟩,
    ⟨some 56,.iad (.s 53) (.s 55) 4,some (51,false)⟩,
    ⟨some 57,.fad (.s 56) 2,some (51,false)⟩,
    ⟨some 58,.ld (.s 57),some (51,false)⟩,
    ⟨some 59,.bin (.i) .gtr (.s 52) (.s 58),some (51,false)⟩,
    ⟨some 60,.pick (.s 51) (.c (.bool true)) (.s 59),none⟩] [1,2,7,8,22,60])
 (.cond (.s 60) (.seq (.region [⟨some 4,.mv (.c (.int .i64 6)),none⟩] [1,4])
 .ret)
 (.skip [1,2,7,8,22])))
 (.draw [61,62,63,64,65,66,67,68,69,70,71,72,73] [⟨some 61,.bad 1 0,none⟩,
    ⟨some 62,.fad (.s 61) 0,none⟩,
    ⟨some 63,.fad (.s 62) 31,none⟩,
    ⟨some 64,.fad (.s 63) 2,none⟩,
    ⟨some 65,.lan (.s 64),none⟩,
    ⟨some 66,.bad 7 0,none⟩,
    ⟨some 67,.ld (.s 66),none⟩,
    ⟨some 68,.nia (.s 65) (.s 67),none⟩,
    ⟨some 69,.nld (.s 68),none⟩,
    ⟨some 70,.bad 7 1,none⟩,
    ⟨some 71,.ld (.s 70),none⟩,
    ⟨some 72,.mv (.s 8),none⟩,
    ⟨some 73,.nia (.s 69) (.s 71),none⟩,
    ⟨none,.nst (.s 73) (.s 72),none⟩] [1,2,22])))))))) ⟨L,fun j e=>if j=0 then y e else x j e,d⟩ [(1,.bx (DT s)),(2,.tv (.pt (AQ t).cells)),(22,.mx (.mi none a))]:=by
  obtain ⟨m1,Q⟩:=Wm k;refine⟨pK _ (σ:=List Fp×Option ((Int×Int)×Int)×BM) (fun σ=>[(1,.bx (DT (M6 s σ.1))),(2,.tv (.pt (AQ t).cells)),(22,.mx (.mi σ.2.1 σ.2.2))])
    (fun σ=>Kk σ.1 s.wi.fd/\(∀l,σ.2.2.Perm l->l.foldl Cd σ.1=a.foldl Cd s.wi.fd)/\(∀p∈σ.2.2,p∈a)/\(c=false->∃p∈σ.2.2,MY t s p=some false))
    (fun σ=>σ.2.2.length) (s.wi.fd,none,a) rfl ⟨rfl,fun l z=>WM f z _,fun p o=>o,Q⟩ ?_⟩
  rintro ⟨V,last,r⟩ ⟨H,I,J,K⟩ U;refine WP.out (?_:WP _ _ _ _);apply J4;apply Oi;refine vo rfl (by decide) (fun e=>?_) (fun p n o=>?_)
  · simp only at e
    subst e;have O:c=true:=by
      cases c with
      |true=>rfl|false=>obtain⟨p,o,_⟩:=K rfl;cases o
    have P:V=a.foldl Cd s.wi.fd:=I [] (List.Perm.refl _);apply SE;exact rfl;exact rfl;apply MI;(focus (repeat(first|exact Hy|(apply KA;exact rfl)|(apply J7;exact rfl)|(apply J8;exact rfl)|(apply KB;exact rfl)|(apply J9;exact rfl))));intro B;apply J4;apply Q9;exact rfl;exact rfl;apply fv;(focus (repeat(first|exact Hy|(apply KA;exact rfl)|(apply J7;exact rfl)|(apply J8;exact rfl)|(apply KB;exact rfl)|(apply J9;exact rfl))));show(if(0:Nat)=0 then y [(1,.bx (DT (M6 s V)))]else x 0 [(1,.bx (DT (M6 s V)))]);rw[a6 rfl,P];exact m O
  · apply SE;exact rfl;exact rfl
    apply MI;(focus (repeat(first|exact Hy|(apply KA;exact rfl)|(apply J7;exact rfl)|(apply J8;exact rfl)|(apply KB;exact rfl)|(apply J9;exact rfl))));intro B;apply J4;apply RA;exact rfl;exact rfl;apply ZS;(focus (repeat(first|exact Hy|(apply KA;exact rfl)|(apply J7;exact rfl)|(apply J8;exact rfl)|(apply KB;exact rfl)|(apply J9;exact rfl))));intro N;have C:p∈r:=o.mem_iff.2 (by simp);obtain⟨b,G,D⟩:=m1 p (J p C);obtain⟨R,S⟩:=eK G H;cases b with
    |true=>
      refine ⟨PC.q0 _ _ _ _ (X6 t s V p n _ (R rfl)).out _ (fun e he=>?_) (fun _ _ h=>h.elim) (fun e he=>?_)⟩
      · obtain⟨T,w,E⟩:=he
        cases w;refine⟨(Cd V p,some p,n),E.out,⟨(X5 V p).trans H,fun l z=>?_,fun q A=>J q (o.mem_iff.2 (by simp[A])),fun M=>?_⟩,?_⟩
        .exact I (p::l) (o.trans (z.cons p))
        · obtain⟨q,A,u⟩:=K M
          rcases List.mem_cons.1 (o.mem_iff.1 A)with rfl|F
          .rw[G]at u;cases u
          .exact⟨q,F,u⟩
        · have:=o.length_eq
          simp only[c7]at this;show n.length<r.length;omega
      · obtain⟨v,w,_⟩:=he
        cases w
    |false=>
      refine ⟨PC.q0 _ _ _ _ (X6 t s V p n _ (S rfl)).out _ (fun e he=>?_) (fun _ _ h=>h.elim) (fun e he=>?_)⟩
      · obtain⟨T,w,_⟩:=he
        cases w
      · obtain⟨v,_,E⟩:=he
        rw [E.out];exact g (by cases c with|false=>rfl|true=>exact absurd (D rfl) (by simp)) V
instance AB4(t:AC)(s:Ax):Ct Go.Proofs.Tryz.prog (JH t s) 240 [AQ t,.undef] (fun r=>.bo (DT s) (if(!decide (r.1=0))=true then(DT r.2).set 33 ⟨false,.undef⟩else DT r.2) 1 [eI r.1]):=wd uO ul fun r h u k=>by
  unfold ZD;unfold JH at h;obtain⟨a,p,h⟩:=bind_some h;have d:=(inferInstance:Ct Go.Proofs.Tryz.prog (Hg s) 303 [cd s] Me).snd a p;apply J4;apply Oi;apply iq;exact rfl;exact rfl;apply Oe;exact rfl;apply MI;(focus (repeat(first|exact Hy|(apply KA;exact rfl)|(apply J7;exact rfl)|(apply J8;exact rfl)|(apply KB;exact rfl)|(apply J9;exact rfl))));intro l;apply J4;apply Oi
  first|(apply mf;exact rfl)|(apply ip;exact rfl)
  first|(apply mg;exact rfl)|(apply iu;exact rfl;exact rfl)
  apply ZM;exact rfl;exact rfl;exact rfl;by_cases he:a.2=0
  · have e:Me a=.mpr a.1 [.int .i64 a.2]:=a6 he
    rw [e]at d;rw[ae (by simp[he])]at h;split at h
    · rename_i hd
      have hd:BM.Dis a.1:=(show List.Pairwise (fun x y:(Int×Int)×Int=>x.1≠y.1) a.1 from of_decide_eq_true hd);obtain⟨c,q,h⟩:=bind_some h;refine kz rfl d (fun b=>?_);apply iw;exact rfl;apply SE;exact rfl;exact rfl;apply SE;exact rfl;exact rfl;apply Oe;exact rfl;apply Oe;exact rfl;apply MI;(focus (repeat(first|exact Hy|(apply KA;exact rfl)|(apply J7;exact rfl)|(apply J8;exact rfl)|(apply KB;exact rfl)|(apply J9;exact rfl))));intro g;apply J4;apply J4;apply Oi;apply Oe;exact rfl;apply fM;exact rfl;exact rfl;apply MI;(focus (repeat(first|exact Hy|(apply KA;exact rfl)|(apply J7;exact rfl)|(apply J8;exact rfl)|(apply KB;exact rfl)|(apply J9;exact rfl))));intro i;apply Q9;exact rfl;simp[he];apply ZS;(focus (repeat(first|exact Hy|(apply KA;exact rfl)|(apply J7;exact rfl)|(apply J8;exact rfl)|(apply KB;exact rfl)|(apply J9;exact rfl))));intro j;apply J4;apply J4;apply Oi;apply Oe;exact rfl;apply mn;exact rfl;exact rfl;decide;apply MI;(focus (repeat(first|exact Hy|(apply KA;exact rfl)|(apply J7;exact rfl)|(apply J8;exact rfl)|(apply KB;exact rfl)|(apply J9;exact rfl))));intro m;apply cR;refine gP hd q (fun f=>?_) (fun f V=>?_)
      · intro n
        apply J4;apply Oi;apply Oe;exact rfl;apply MI;(focus (repeat(first|exact Hy|(apply KA;exact rfl)|(apply J7;exact rfl)|(apply J8;exact rfl)|(apply KB;exact rfl)|(apply J9;exact rfl))));intro o;apply dz;rw[a6 f]at h;cases h;exact⟨_,Wk.refl _,rfl,rfl⟩
      · rw[ae (by simp[f])]at h
        cases h;refine⟨_,?_,rfl,rfl⟩;exact Wk.set (DT (M6 s V)) 33
    .cases h
  · have e:Me a=.tp [.undef,.int .i64 a.2]:=ae he
    rw [e]at d;rw[a6 (by simp[he])]at h;refine kw rfl d ?_;apply iv;exact rfl;apply SE;exact rfl;exact rfl;apply SE;exact rfl;exact rfl;apply Oe;exact rfl;apply Oe;exact rfl;apply MI;(focus (repeat(first|exact Hy|(apply KA;exact rfl)|(apply J7;exact rfl)|(apply J8;exact rfl)|(apply KB;exact rfl)|(apply J9;exact rfl))));intro g;apply J4;apply J4;apply Oi;apply Oe;exact rfl;apply fM;exact rfl;exact rfl;apply MI;(focus (repeat(first|exact Hy|(apply KA;exact rfl)|(apply J7;exact rfl)|(apply J8;exact rfl)|(apply KB;exact rfl)|(apply J9;exact rfl))));intro i;apply RA;exact rfl;simp[he];apply J4;apply Oi;apply Oe;exact rfl;apply Oe;exact rfl;apply MI;(focus (repeat(first|exact Hy|(apply KA;exact rfl)|(apply J7;exact rfl)|(apply J8;exact rfl)|(apply KB;exact rfl)|(apply J9;exact rfl))));intro j;apply dz;cases h;simp only[he,decide_false,Bool.not_false,if_true];exact⟨_,Wk.set (DT s) 33,rfl,rfl⟩
instance yZ(t:AC)(a:f0)(b:AH)(m:AO):Ct prog (JX t a b m) 177 [AQ t,Bc a,Bn b,Bf m] (fun r=>.tp [MT r.1,eI r.2]):=Fj f177 0x81f826440f3e38f81446b936751f42580b6d5a1f4238f80114466301527e52da024a244203e7fc7c22427c377c0d427c0b420b3675d30ee36d2242ca6d0d426d0b420b6d5ad3024a224203e75c0b7c370e590bca3f14c915e7650e65ef38f8144688e0f801144685308171030f426565a710426cc184f801144685309af071aa550b42aa84f8011446639a0ac971aaaaeac184f8011446726565ef7e13c95fa1 [.stq 38 [none,none,none,none,none,none,none,none,none,none,none,none,none,none,none,none,none,none,none,none,none,none,none,none,none,none,none,none,none,none,none,some ⟨true,.list 1 []⟩,some ⟨true,.list 3 []⟩,some ⟨true,.xn []⟩,none,none,none,none] (.s 15) (.s 82)] [.cell 8 (some 38),.tmp 9] (h:=fun r h c d=>by
  unfold JX at h;exact nz)
instance xd(t:AC)(a:f0)(b:AH)(m:AO):Ct prog (H8 t a b m) 126 [AQ t,Bc a,Bn b,Bf m] (fun r=>.tp [MT r.1,eI r.2]):=Fj f126 0x81f8640e6565ef84f80114467265ef7e13c95fa1 [] [.cell 8 (some 38),.tmp 9] (h:=fun r h c d=>by
  unfold H8 at h;exact nz)
instance c85(t:AC)(a:List f0)(b:AH)(m:tg):Ct prog (DL t a b m) 85 [AQ t,(eL 25 Bc) a,Bn b,CZ m] (fun r=>.tp [MT r.1,eI r.2]):=Fj f85 0x8013b81f8640e65c165ef19439184f81446b901f79113c9935f30 [] [.cell 8 (some 38),.tmp 9] (h:=fun r h c d=>by
  unfold DL at h;exact nz)
instance c46(t:AC)(a:List f0)(d:AR):Ct prog (C9 t a d) 46 [AQ t,(eL 25 Bc) a,Ch d] (fun r=>.tp [(eL 38 MT) r.1,eI r.2.1,eI r.2.2]):=Fj f46 0x7d820bd70a0121201f0b0a3607c60b013b9702651f4226482647264402388126c03063f813c971a865ccd28106c9a8dc0af621201f0b0a3607d003429705c9653726c0388126c0bcb5388126c0806537cc3026405f30 [] [.tmp 6,.tmp 7,.tmp 8] (h:=fun r h e f=>by
  unfold C9 at h;have:HA 0 33 32 0 fun(c:Int)(b:List Ax×AH)=>[(10,.ow ((eL 38 MT) b.1)),(11,.bx [⟨false,lI b.2.d4.d3⟩,⟨false,lE b.2.d4.d5⟩,⟨false,(eL 1 lI) b.2.fd⟩]),(33,.tv (eI c))]:=⟨⟩;exact nz)
instance c47(a:AI):Ct prog (EI a) 47 [BL a] (fun r=>.sh (eI r)):=Fj f47 0x960c0b0a0104d1cd5ed4dfb2e0b9764137b25b815e62610c0b0a0104d0e438bca5749f [] [.tmp 2] (h:=fun r h c d=>by
  unfold EI at h;have:HA 0 12 11 0 fun(b:Int)(_:Unit)=>[(12,.tv (eI b))]:=⟨⟩;exact nz)
instance c15(t:AC)(a:List f0)(b:AI):Ct prog (Cl t a b) 15 [AQ t,(eL 25 Bc) a,BL b] (fun r=>.sh (eI r)):=Fj f15 0x810e6c380163d71171a8dd7e5f30 [] [.tmp 6] (h:=fun r h c d=>by
  unfold Cl at h;exact nz)
instance c51(a:AI):Ct prog (EB a) 51 [BL a] (fun r=>.tp [BL r.1,eI r.2]):=Fj f51 0xb76ce6047445d4a5744a03413704455ed4df76413770cf0e6c3870ee630ba574cf9f [] [.cell 2 (some 5),.tmp 3] (h:=fun r h b c=>by
  unfold EB at h;exact nz)
instance c19(t:AC)(a:List f0)(b:AI):Ct prog (CX t a b) 19 [AQ t,(eL 25 Bc) a,BL b] (fun r=>.tp [BL r.1,eI r.2]):=Fj f19 0xb7640e6c387001ee726c017ecf5f30 [] [.cell 6 (some 5),.tmp 7] (h:=fun r h c d=>by
  unfold CX at h;exact nz)
instance c29(a:AI):Ct prog (Gc a) 29 [BL a] (fun r=>.tp [BL r.1,eI r.2]):=Fj f29 0xb76ce60474db0b76413704e40550cf1b6c3870eebcdf387001ee726c01cf9f [] [.cell 2 (some 5),.tmp 3] (h:=fun r h b c=>by
  unfold Gc at h;exact nz)
instance c30(a:AI):Ct prog (GE a) 30 [BL a] (fun r=>.tp [BL r.1,eI r.2]):=Fj f30 0xb76ce60474456bdfdf70cf0e6c3870eebcdf387001ee726c01cf9f [] [.cell 2 (some 5),.tmp 3] (h:=fun r h b c=>by
  unfold GE at h;exact nz)
instance xi(n:Int):Ct prog (Fg n) 141 [eI n] (fun r=>.own (lI r)):=Fj f141 0x821836090876c601fd3014c83661090876819514993f3040d8 [.mkx 1 [.int .i64 0] (.s 5)] [.tmp 2] (h:=fun r h c d=>by
  unfold Fg at h;have:HA 0 9 8 0 fun(a:Int)(b:Fp)=>[(3,.xo 1 (List.map eI b)),(9,.tv (eI a))]:=⟨⟩;exact nz)
instance c97(g:d4):Ct prog (EF g) 97 [At g] (fun r=>.tp [Aq r.1,eI r.2]):=Fj f97 0xa23b819a03e7fc0ee3389afa46727ef09f [] [.cell 2 (some 2),.tmp 3] (h:=fun r h a b=>by
  unfold EF at h;exact nz)
instance c59(g:d4):Ct prog (C7 g) 59 [At g] (fun r=>.sh (Aq r)):=Fj f59 0x9a7e9af07155f09f [] [.cell 2 (some 2)] (h:=fun r h a b=>by
  unfold C7 at h;exact nz)
instance c60(l:Fp)(a:Fp):Ct prog (Fc l a) 60 [lI l,lI a] (fun r=>.own (lI r)):=Fj f60 0x8218d40c0b8958c60c0b89580c0b89583c01fd5e7314638117e258f60c0b8958819594991a30406202 [] [.tmp 4] (h:=fun r h d e=>by
  unfold Fc at h;have:HA 0 12 11 0 fun(c:Int)(b:Fp)=>[(5,.xo 1 (List.map eI b)),(12,.tv (eI c))]:=⟨⟩;exact nz)
instance c61(a:AH):Ct prog (FP a) 61 [Bn a] (fun r=>.sh (Bn r)):=Fj f61 0x97655d02131211fbc6e60274db0e0104b6825e5d0261131211fbd0b6035005c93f3f0e7c370eca05c99f [.Aau [.w 9,.w 13],.Aau [.g 14 0 2,.g 14 1 2,.z ⟨true,.list 1 []⟩]] [.cell 2 (some 3)] (h:=fun r h d e=>by
  unfold FP at h;have:HA 0 19 18 0 fun(c:Int)(b:AH)=>[(3,.bx [⟨true,lI b.d4.d3⟩,⟨true,lE b.d4.d5⟩,⟨true,(eL 1 lI) b.fd⟩]),(19,.tv (eI c))]:=⟨⟩;exact nz)
instance c31(t:AC)(a:List f0)(d:AR):Ct prog (Ds t a d) 31 [AQ t,(eL 25 Bc) a,Ch d] (fun r=>.tp [Bn r.1,Aq r.2.1,eI r.2.2]):=Fj f31 0xbd023b819a97550e65c4bd04252423c4bd07c60c013b9a9703e77c22425c0e6d224259651f42f813c926442643c4bd0461252423c4bd078d819a97f005c90eea376537389a97fa4616466301821171a8017ef005c95f30 [] [.cell 6 (some 3),.cell 7 (some 2),.tmp 8] (h:=fun r h e f=>by
  unfold Ds at h;have:HA 0 37 36 0 fun(c:Int)(b:AH×d6)=>[(12,.bx [⟨false,lI b.1.d4.d3⟩,⟨false,lE b.1.d4.d5⟩,⟨false,(eL 1 lI) b.1.fd⟩]),(13,.bx [⟨false,lI b.2.d3⟩,⟨false,lI b.2.d5⟩]),(37,.tv (eI c))]:=⟨⟩;exact nz)
instance xk(m:AO):Ct prog (Fd m) 143 [Bf m] (fun r=>.sh (Bf r)):=Fj f143 0xa23b9704e79b03e77c370eca12c99f [] [.cell 2 (some 3)] (h:=fun r h a b=>by
  unfold Fd at h;exact nz)
instance xj(d:AR):Ct prog (Du d) 142 [Ch d] (fun r=>.oag [⟨false,lI r.kg.d4.d3⟩,⟨false,lE r.kg.d4.d5⟩,⟨false,(eL 1 lI) r.kg.fd⟩,⟨true,(eL 4 CZ) r.j4⟩]):=Fj f142 0x45004535d02c40bfbc6e603420448044705e765c159040342d206c9a8ba5d0261c40bfbd00342045015c93f0e653715c99f [.Aau [.v (.s 8) 0 3,.v (.s 8) 1 3,.v (.s 8) 2 3,.z ⟨true,.list 4 []⟩]] [.cell 2 (some 4)] (h:=fun r h c e=>by
  unfold Du at h;have:HA 0 13 12 0 fun(b:Int)(a:AR)=>[(3,.bx [⟨false,lI a.kg.d4.d3⟩,⟨false,lE a.kg.d4.d5⟩,⟨false,(eL 1 lI) a.kg.fd⟩,⟨true,(eL 4 CZ) a.j4⟩]),(13,.tv (eI b))]:=⟨⟩;exact nz)
instance c98(t:AC)(a:List f0)(d:AR)(m:tg):Ct prog (DY t a d m) 98 [AQ t,(eL 25 Bc) a,Ch d,CZ m] (fun r=>.tp [Ch r.1,eI r.2]):=Fj f98 0x81d2a8e603420448044705e765c159040342045015c91ba838d201174663f8134971a865cc6ed21746816bb581d2011746ac5b9a970b4905c91171a8017e15c9935f30 [] [.cell 8 (some 4),.tmp 9] (h:=fun r h b c=>by
  unfold DY at h;exact nz)
instance c64(t:AC)(a:List f0)(b:AI)(m:tg):Ct prog (EA t a b m) 64 [AQ t,(eL 25 Bc) a,BL b,CZ m] (fun r=>.tp [BL r.1,eI r.2]):=Fj f64 0x8013bb718e7dfa8387001ee63d215c971a8a8dd7ecf935f30 [] [.cell 8 (some 5),.tmp 9] (h:=fun r h c d=>by
  unfold EA at h;exact nz)
instance c54(t:AC)(b:List f0)(c:AI)(a:BJ):Ct prog (ER t b c a) 54 [AQ t,(eL 25 Bc) b,BL c,Dk a] (fun r=>.tp [BL r.1,eI r.2]):=Fj f54 0xb7ee6e70640e6cacb7640e6cacb7640e6cacb7640ea8c16cccac83ddcf935f30 [] [.cell 8 (some 5),.tmp 9] (h:=fun r h d e=>by
  unfold ER at h;exact nz)
instance c24(t:AC)(a:List f0)(c:AI)(l:List BJ):Ct prog (Dg t a c l) 24 [AQ t,(eL 25 Bc) a,BL c,(eL 5 Dk) l] (fun r=>.tp [BL r.1,eI r.2.1,eI r.2.2]):=Fj f24 0x7d700b58440c087621201f0c08043608c6706c38b730ee6370cf716c6ccc708116c96c057f0c08766121201f0c080436088db7cf0e6c38b7eebce0b701ee726ccc30cf5f3602 [] [.cell 8 (some 5),.tmp 9,.tmp 10] (h:=fun r h e f=>by
  unfold Dg at h;have:HA 0 33 32 0 fun(d:Int)(b:AI×AI)=>[(8,.bx [⟨true,lI b.1.ff.kg.d4.d3⟩,⟨true,lE b.1.ff.kg.d4.d5⟩,⟨true,(eL 1 lI) b.1.ff.kg.fd⟩,⟨true,(eL 4 CZ) b.1.ff.j4⟩,⟨true,lI b.1.kl⟩]),(12,.bx [⟨false,lI b.2.ff.kg.d4.d3⟩,⟨false,lE b.2.ff.kg.d4.d5⟩,⟨false,(eL 1 lI) b.2.ff.kg.fd⟩,⟨false,(eL 4 CZ) b.2.ff.j4⟩,⟨false,lI b.2.kl⟩]),(33,.tv (eI d))]:=⟨⟩;exact nz)
instance c33(t:AC)(a:List f0)(b:AI)(m:tg):Ct prog (I6 t a b m) 33 [AQ t,(eL 25 Bc) a,BL b,CZ m] (fun r=>.tp [BL r.1,eI r.2]):=Fj f33 0xb7640ea86c01847001ee726c017ecf935f30 [] [.cell 8 (some 5),.tmp 9] (h:=fun r h c d=>by
  unfold I6 at h;exact nz)
end Go.Sf.Sc
