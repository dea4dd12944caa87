/- Contracts of the functions. -/
import Derived.Test.YthhobbgaejimgaaGreatDoorCon0
import Derived.Test.YthhobbgaejimgaaGreatDoorTryzShelf
import Derived.Test.YthhobbgaejimgaaGreatDoorFo
set_option linter.all false
set_option maxRecDepth 100000
set_option maxHeartbeats 4000000
namespace Go.Sf.Sc
open Go Go.Sf Go.Proofs.Tryz
instance qH(n:Int)(a:Int):Ct prog (Cs n a) 63 [eI n,.pt [eI a]] (fun r=>.sh (eB r)):=Fj f63 0xc37831e6 [] [.tmp 3] (h:=fun r h b c=>by
  unfold Cs at h;exact nz)
instance pM(l:Fp)(a:Int):Ct prog (Ck l a) 23 [lI l,eI a] (fun r=>.sh (eB r)):=Fj f23 0x810e1030939a [] [.tmp 4] (h:=fun r h b c=>by
  unfold Ck at h;exact nz)
instance pN(l:Fp):Ct prog (BL l) 26 [lI l] (fun r=>.sh (eS r)):=Fj f26 0x813f0131770603046f77060304d8063fe377060304d8063f0e09306160315e77060304e0bf3f9a [.mv (.c (.str ⟨#[]⟩)),.mv (.c (.str ⟨#[40]⟩)),.bin (.s) .add (.c (.str ⟨#[32,45,32]⟩)) (.s 17),.bin (.s) .add (.c (.str ⟨#[32]⟩)) (.s 22),.bin (.s) .add (.s 26) (.c (.str ⟨#[32,41]⟩))] [.tmp 2] (h:=fun r h d e=>by
  unfold BL at h;have:HA 0 8 7 0 fun(b:Int)(a:ByteArray)=>[(3,.tv (eS a)),(8,.tv (eI b))]:=⟨⟩;exact nz)
instance i7(d:AL):Ct Go.Proofs.Tryz.prog (C1 d) 7 [BF d] (fun r=>.tp [eS r.1,eI r.2]):=⟨SG (fun l low b h=>(inferInstance:Ct _ (Ck l low) _ _ fun r=>.sh (eB r)).snd b h) (fun i s h=>(inferInstance:Ct _ (strconv_Itoa i) _ _ fun r=>.sh (eS r)).snd s h) (fun l s h=>(inferInstance:Ct _ (BL l) _ _ fun r=>.sh (eS r)).snd s h) d⟩
instance pX(a:AM):Ct prog (CH a) 37 [CM a] (fun r=>.sh (CM r)):=Fj f37 0x97655b02cf115b056fa7a5f60ea6a582605b025ecf115b05ada5035001c93f3f0e92320ed401c9d9 [.sF [.w 9,.w 13],.sF [.g 14 0 2,.g 14 1 2,.z ⟨true,.list 1 []⟩]] [.cell 2 (some 3)] (h:=fun r h d e=>by
  unfold CH at h;have:HA 0 19 18 0 fun(c:Int)(b:AM)=>[(3,.bx [⟨true,lI b.hT.fq⟩,⟨true,lE b.hT.jj⟩,⟨true,(eL 1 lI) b.og⟩]),(19,.tv (eI c))]:=⟨⟩;exact nz)
instance qS(b:ByteArray)(c:Int->K1)(e:FuncId)(a:Fq)[g:∀(d:Int),Ct prog (c d) e (Ng d::a) (fun r=>.sh (eB r))]:Ct prog (Dn b c) 76 [eS b,.sE e a] (fun r=>.sh (eI r)):=Fj f76 0x81539605bb5d53968a0f1230780c78bb81e6 [] [.tmp 4] (h:=fun r h i j=>by
  unfold Dn at h;have:HW 0 fun(f:Int)=>[(5,.tv (eI f))]:=⟨⟩;exact nz)
instance ln(c:Int):Ct prog (HM c) 115 [Ng c] (fun r=>.sh (eB r)):=Fj f115 0xd66e78f778ee [] [.tmp 2] (h:=fun r h a b=>by
  unfold HM at h;exact nz)
instance lr(c:Int):Ct prog (Gl c) 117 [Ng c] (fun r=>.sh (eB r)):=Fj f117 0xc378ee [] [.tmp 2] (h:=fun r h a b=>by
  unfold Gl at h;exact nz)
instance lq(c:Int):Ct prog (Ir c) 116 [Ng c] (fun r=>.sh (eB r)):=Fj f116 0xc3300ae3e39a [] [.tmp 2] (h:=fun r h a b=>by
  unfold Ir at h;exact nz)
instance mX(c:Int):Ct prog (He c) 157 [Ng c] (fun r=>.sh (eB r)):=Fj f157 0xc3f778ee [] [.tmp 2] (h:=fun r h a b=>by
  unfold He at h;exact nz)
instance ls(a:ByteArray):Ct prog (EH a) 118 [eS a] (fun r=>.tp [eI r.1,eI r.2]):=Fj f118 0x6b0501768501768a051205ec0c53553f0d6a9a [.call 76 [.s 6,.c (.sE 157 [])]] [.tmp 2,.tmp 3] (h:=fun r h b d=>by
  unfold EH at h;exact nz)
instance lu(a:ByteArray):Ct prog (Iq a) 119 [eS a] (fun r=>.sh (eB r)):=Fj f119 0xd60e0d013f530cee [.uc 1 [.c (.str ⟨#[45,62]⟩),.c (.str ⟨#[60,61]⟩),.c (.str ⟨#[62,61]⟩),.c (.str ⟨#[61,61]⟩),.c (.str ⟨#[33,61]⟩)]] [.tmp 2] (h:=fun r h b d=>by
  unfold Iq at h;exact nz)
instance qU(a:ByteArray):Ct prog (D9 a) 78 [eS a] (fun r=>.tp [eI r.1,eI r.2.1,eI r.2.2]):=Fj f78 0x816bff766b053fe56b0e556b306b6c5505556bcb6b613f550e556bcb6b613f550e551230ee [.call 76 [.s 15,.c (.sE 116 [])],.call 76 [.s 23,.c (.sE 117 [])],.call 120 [.c (.str ⟨#[123,125,40,41,91,93,44,59,58,61,43,45,42,60,62,33,38,124,46,63]⟩),.s 42]] [.tmp 2,.tmp 3,.tmp 4] (h:=fun r h b d=>by
  unfold D9 at h;exact nz)
instance lv(t:AY):Ct prog (DB t) 121 [Gc t] (fun r=>.tp [eS r.1,eB r.2]):=Fj f121 0x6b6e0c6a6e577830816b116ccbbfbfa6910491d83f3f018557815c013fd9 [.mv (.c (.str ⟨#[]⟩)),.bin (.s) .add (.c (.str ⟨#[34]⟩)) (.s 13),.bin (.s) .add (.s 14) (.c (.str ⟨#[34]⟩)),.bin (.s) .eql (.s 16) (.c (.str ⟨#[]⟩)),.mv (.c (.str ⟨#[]⟩))] [.tmp 2,.tmp 3] (h:=fun r h b d=>by
  unfold DB at h;have:HJ 12 fun(a:ByteArray)=>[(4,.tv (eS a))]:=⟨⟩;exact nz)
instance qu(a:ByteArray):Ct prog (DA a) 98 [eS a] (fun r=>.sh (eB r)):=Fj f98 0x8155db0046ee [] [.tmp 2] (h:=fun r h b c=>by
  unfold DA at h;exact nz)
instance lR(m:BO)(a:BO):Ct prog (Kl m a) 100 [HC m,.pt (HC a).cells] (fun r=>.sh (eB r)):=Fj f100 0x81065757d5 [] [.tmp 3] (h:=fun r h b c=>by
  unfold Kl at h;exact nz)
abbrev Q_101(n:Nat):Prop:=∀(t:AB)(a:Int),Ct prog (Dd n t a) 101 [AU t,eI a] (fun r=>.sZ 4 (List.map GL r))
theorem gD(n:Nat)(_ih_101:Q_101 n)(t:AB)(a:Int):Ct prog (Dd (n+1) t a) 101 [AU t,eI a] (fun r=>.sZ 4 (List.map GL r)):=Fj f101 0x99044f7341f8190502d10502d13c191a9e6192f804ce044e9330 [] [.tmp 4] (h:=fun r h c d=>by
  unfold Dd at h;have:HJ 14 fun(b:List rc)=>[(5,.xo 4 (List.map GL b))]:=⟨⟩;exact nz)
theorem gC:∀n:Nat,Q_101 n:=by
  intro n
  induction n with
  |zero=>exact(fun t a=>⟨fun _ h=>by cases h⟩)
  |succ n b=>exact gD n b
instance lU(t:AB)(a:Int):Ct prog (Hz t a) 101 [AU t,eI a] (fun r=>.sZ 4 (List.map GL r)):=⟨fun r h=>by
  obtain ⟨N,b⟩:=EU h;exact((gC N) t a).snd r (b N (ca _))⟩
instance mP(y:rc)(a:rc):Ct prog (Hs y a) 149 [GL y,.pt (GL a).cells] (fun r=>.sh (eB r)):=Fj f149 0x81065757d5 [] [.tmp 3] (h:=fun r h b c=>by
  unfold Hs at h;exact nz)
instance mQ(l:List ByteArray):Ct prog (Gn l) 150 [lB l] (fun r=>.sh (eI r)):=Fj f150 0xa1eb08be6fff76e345306b7de560dceb08bee0b70bee [] [.tmp 2] (h:=fun r h b c=>by
  unfold Gn at h;have:HA 0 10 9 0 fun(a:Int)(_:Unit)=>[(10,.tv (eI a))]:=⟨⟩;exact nz)
instance lV(b:rc)(a:List rc):Ct prog (ES b a) 102 [GL b,lA a] (fun r=>.sh (eI r)):=Fj f102 0x8136880106010601d86e748480535c850b84c380e7805c535cab84ff760e10e57d57d5 [] [.tmp 4] (h:=fun r h d e=>by
  unfold ES at h;have:HJ 40 fun(c:Bool)=>[(6,.tv (eB c))]:=⟨⟩;exact nz)
instance qN(t:AB)(a:Int):Ct prog (Hh t a) 71 [AU t,eI a] (fun r=>.sh (eI r)):=Fj f71 0xa1070602a2ab0445309dbc30f3300706028174840b01b70b01820e9eff7674846b6e015c535c6b0e10044501576b7d57053d9b02c99df8d5 [] [.tmp 4] (h:=fun r h c d=>by
  unfold Hh at h;have:HA 1 7 6 0 fun(b:Int)(_:Unit)=>[(7,.tv (eI b))]:=⟨⟩;exact nz)
instance lW(n:Int)(a:AB):Ct prog (Is n a) 103 [eI n,.pt (AU a).cells] (fun r=>.sh (eB r)):=Fj f103 0xc3b178b9 [] [.tmp 3] (h:=fun r h b c=>by
  unfold Is at h;exact nz)
instance lZ(y:Bg)(a:Bg):Ct prog (Kk y a) 105 [G9 y,.pt (G9 a).cells] (fun r=>.sh (eB r)):=Fj f105 0x81065757d5 [] [.tmp 3] (h:=fun r h b c=>by
  unfold Kk at h;exact nz)
instance lb(b:Int)(a:Int):Ct prog (H6 b a) 106 [eI b,eI a] (fun r=>.sh (eB r)):=Fj f106 0xd60a6e78ecf778b9 [] [.tmp 4] (h:=fun r h c d=>by
  unfold H6 at h;exact nz)
instance qO(t:AB)(a:Int):Ct prog (Hf t a) 72 [AU t,eI a] (fun r=>.sh (eI r)):=Fj f72 0x81ff361901d80a7d03c5030542017d03f18419550a080f8030080f5ce50e100745015c6b7d578110053d074b03c9074407ddd5 [] [.tmp 4] (h:=fun r h c d=>by
  unfold Hf at h;have:HJ 25 fun(b:Bool)=>[(25,.tv (eB b))]:=⟨⟩;exact nz)
instance pU(t:AB):Ct prog (Bp t) 34 [AU t] (fun r=>.tp [eS r.1,eI r.2]):=Fj f34 0x81bf002e2d2ca66f760157610e9e074b8103c907440743dc2e2d2ca6adb3301d1c1ba66f760157610e9e9b8102c99dbc6a5e1d1c1ba6ad32ff36bfc3e953b181bf817457013fd9 [.mv (.c (.str ⟨#[]⟩)),.mv (.c (.str ⟨#[]⟩)),.mv (.c (.str ⟨#[]⟩)),.mv (.c (.str ⟨#[]⟩))] [.tmp 2,.tmp 3] (h:=fun r h d e=>by
  unfold Bp at h;have:HA 1 29 28 0 fun(b:Int)(_:Unit)=>[(29,.tv (eI b))]:=⟨⟩;have:HA 3 46 45 0 fun(a:Int)(_:Unit)=>[(46,.tv (eI a))]:=⟨⟩;exact nz)
instance lf(n:Int)(a:Int):Ct prog (Fm n a) 108 [eI n,eI a] (fun r=>.sh (eB r)):=Fj f108 0xc3ecb9 [] [.tmp 4] (h:=fun r h b c=>by
  unfold Fm at h;exact nz)
instance lc(t:Int):Ct prog (Jn t) 107 [eI t] (fun r=>.sh (eB r)):=Fj f107 0x817dee [] [.tmp 2] (h:=fun r h a b=>by
  unfold Jn at h;exact nz)
instance li(e:B0)(a:Int):Ct prog (Mj e a) 111 [Bj e,eI a] (fun r=>.sh (eB r)):=Fj f111 0xd60e050180010a0e05015c6957d5 [] [.tmp 4] (h:=fun r h b c=>by
  unfold Mj at h;exact nz)
instance lh(e:B0)(a:hT):Ct prog (Jo e a) 110 [Bj e,.pt (BI a).cells] (fun r=>.sh (eB r)):=Fj f110 0x817db165d5 [] [.tmp 3] (h:=fun r h b c=>by
  unfold Jo at h;exact nz)
instance qP(g:hT):Ct prog (CX g) 73 [BI g] (fun r=>.sh (eI r)):=Fj f73 0x81368e105c36bf57f05c53b17f00 [.call 62 [.s 14,.c (.sE 107 [])]] [.tmp 2] (h:=fun r h a b=>by
  unfold CX at h;exact nz)
instance mU(a:Int)(b:AB):Ct prog (Jw a b) 154 [eI a,.pt (AU b).cells] (fun r=>.sh (eB r)):=Fj f154 0xc3b178b9 [] [.tmp 3] (h:=fun r h c d=>by
  unfold Jw at h;exact nz)
instance ll(t:AB)(l:Fp):Ct prog (Em t l) 113 [AU t,lI l] (fun r=>.sh (eI r)):=Fj f113 0x81368e10cb72db38d5 [] [.tmp 4] (h:=fun r h a b=>by
  unfold Em at h;exact nz)
instance lj(t:AB)(a:Int):Ct prog (DP t a) 112 [AU t,eI a] (fun r=>.tp [lA r.1,eI r.2]):=Fj f112 0xef180701151407036f014d0354044c0e170354044c01140114810107b415140703819514991a9e3604c08dac9ea6409330 [] [.tmp 4,.tmp 5] (h:=fun r h d e=>by
  unfold DP at h;have:HA 0 21 20 0 fun(c:Int)(b:List rc)=>[(7,.xo 4 (List.map GL b)),(21,.tv (eI c))]:=⟨⟩;have:HS 31:=⟨⟩;have:HX 33 fun(a:rc)(v:List ByteArray)=>rc.mk a.ru a.tU a.sO v:=⟨⟩;exact nz)
instance qQ(t:AB)(a:Int)(b:Fp):Ct prog (IF t a b) 74 [AU t,eI a,lI b] (fun r=>.sh (eI r)):=Fj f74 0xa123222102046ffe8060ec5cc89b8104c99dbcdc2322210204e0b70bde30e89e36830241f8b7b130930291 [] [.tmp 6] (h:=fun r h d e=>by
  unfold IF at h;have:HA 0 35 34 0 fun(c:Int)(_:Unit)=>[(35,.tv (eI c))]:=⟨⟩;exact nz)
instance mW(t:AB)(a:Int):Ct prog (Hg t a) 156 [AU t,eI a] (fun r=>.own (lI r)):=Fj f156 0x82182914055302d1d892f8ff19014fac011905b453020131ce01409330 [] [.tmp 4] (h:=fun r h c d=>by
  unfold Hg at h;have:HW 0 fun(b:Int×Fp)=>[(1,.tv (eI b.1)),(5,.xo 1 (List.map eI b.2))]:=⟨⟩;exact nz)
instance lm(t:AB)(a:Int)(b:Int):Ct prog (HN t a b) 114 [AU t,eI a,eI b] (fun r=>.sh (eB r)):=Fj f114 0x810e699e7f0291 [] [.tmp 6] (h:=fun r h c d=>by
  unfold HN at h;exact nz)
instance qR(t:AB)(b:Int)(a:Int)(c:Int):Ct prog (GZ t b a c) 75 [AU t,eI b,eI a,eI c] (fun r=>.sh (eB r)):=Fj f75 0xd60efd07dd9e699207dd9ef05cf7780eac30387f5bd1 [] [.tmp 8] (h:=fun r h d e=>by
  unfold GZ at h;exact nz)
instance pV(t:AB)(a:AM):Ct prog (Cd t a) 35 [AU t,CM a] (fun r=>.tp [eI r.1,eI r.2]):=Fj f35 0x6b003e3d3c5b056f7601bd6080d4605cd45738760185e957979fc9d743dc3e3d3c5b05ad0141325b022827265b056f7630610eb6809e6bb65b025e2827265b05ad373276850bd40b80768dc67672db3830aa [] [.tmp 4,.tmp 5] (h:=fun r h d e=>by
  unfold Cd at h;have:HA 0 40 39 0 fun(c:Int)(_:Unit)=>[(40,.tv (eI c))]:=⟨⟩;have:HA 2 62 61 0 fun(b:Int)(_:Unit)=>[(62,.tv (eI b))]:=⟨⟩;exact nz)
instance ma(n:Int)(a:AB):Ct prog (Ho n a) 161 [eI n,.pt (AU a).cells] (fun r=>.sh (eB r)):=Fj f161 0x817457b9 [] [.tmp 3] (h:=fun r h b c=>by
  unfold Ho at h;exact nz)
instance mb(a:B0)(b:AB):Ct prog (Hp a b) 162 [Bj a,.pt (AU b).cells] (fun r=>.sh (eB r)):=Fj f162 0x81745c57d5 [] [.tmp 3] (h:=fun r h c d=>by
  unfold Hp at h;exact nz)
instance mc(n:Int)(b:Int)(a:Int):Ct prog (Cj n b a) 163 [eI n,eI b,eI a] (fun r=>.sh (eB r)):=Fj f163 0xc3ec6a02bb [] [.tmp 6] (h:=fun r h c d=>by
  unfold Cj at h;exact nz)
instance md(t:AB)(p:j4)(a:CO):Ct prog (Eo t p a) 164 [AU t,C2 p,Eh a] (fun r=>.tp [GL r.1,eB r.2]):=Fj f164 0x819b9dbc5ccb9b0146bd74015c01e86057d438369b0146bd74d457a6c993aa [] [.cell 6 (some 4),.tmp 7] (h:=fun r h b c=>by
  unfold Eo at h;exact nz)
instance nk(n:Int)(t:rk):Ct prog (Gv n t) 229 [eI n,RS t] (fun r=>.sh (eB r)):=Fj f229 0xc35ce75ce7015753577f9a [] [.tmp 4] (h:=fun r h a b=>by
  unfold Gv at h;exact nz)
instance nJ(n:Int)(a:Test):Ct prog (I2 n a) 200 [eI n,GM a] (fun r=>.sh (eI r)):=Fj f200 0x81ff760a7d380342307d38b355c35753577f9a [] [.tmp 4] (h:=fun r h b c=>by
  unfold I2 at h;exact nz)
instance me(n:Int)(l:List Test):Ct prog (H8 n l) 165 [eI n,lT l] (fun r=>.sh (eI r)):=Fj f165 0xa1cf11be6faba8534b06c9a80543005ecf11bee0b70b01fe78b9 [] [.tmp 4] (h:=fun r h b c=>by
  unfold H8 at h;have:HA 0 19 18 0 fun(a:Int)(_:Unit)=>[(19,.tv (eI a))]:=⟨⟩;exact nz)
instance mC(t:AB)(p:j4):Ct prog (Cc t p) 133 [AU t,C2 p] (fun r=>.sh (eI r)):=Fj f133 0x8136a014ab03f184085b3c3b3a085b066f3c3b3a085b063c3b3a085b06d84de16da514856da5907d92a5010a7d05846da50108559b04496c9da8389b07c99dbc085b5e3c3b3a085b06ada5993f84f003f1530b80f584900e1092326910d4abc63672db3801aa [.ui 1 [.bool false] (.s 55)] [.tmp 4] (h:=fun r h c d=>by
  unfold Cc at h;have:HA 0 60 59 0 fun(b:Int)(a:ae)=>[(8,.xo 1 (List.map eB a)),(60,.tv (eI b))]:=⟨⟩;exact nz)
instance nL(n:Int)(a:AB):Ct prog (Kc n a) 202 [eI n,.pt (AU a).cells] (fun r=>.sh (eB r)):=Fj f202 0x817457b9 [] [.tmp 3] (h:=fun r h b c=>by
  unfold Kc at h;exact nz)
instance nM(a:B0)(b:AB):Ct prog (Kd a b) 203 [Bj a,.pt (AU b).cells] (fun r=>.sh (eB r)):=Fj f203 0x81745c57d5 [] [.tmp 3] (h:=fun r h c d=>by
  unfold Kd at h;exact nz)
instance mg(t:AB)(g:hT):Ct prog (HZ t g) 167 [AU t,BI g] (fun r=>.sh (eB r)):=Fj f167 0xd67d105c017d105701aa [] [.tmp 4] (h:=fun r h a b=>by
  unfold HZ at h;exact nz)
instance nO(y:CO)(a:CO):Ct prog (LU y a) 205 [Eh y,.pt (Eh a).cells] (fun r=>.sh (eB r)):=Fj f205 0xc35c5c535757d5 [] [.tmp 3] (h:=fun r h b c=>by
  unfold LU at h;exact nz)
instance mh(t:AB)(b:ns)(a:Int):Ct prog (IN t b a) 168 [AU t,Fd b,eI a] (fun r=>.sh (eI r)):=Fj f168 0x81368e10044501fdc5fe5ce75ce77341c557e757e70b015c535cb208c938a501e86057d3c538f0d3c5575357073d9b07c99dc1fdc501640201 [] [.tmp 6] (h:=fun r h c d=>by
  unfold IN at h;exact nz)
instance mE(t:AB)(a:ns):Ct prog (HV t a) 134 [AU t,Fd a] (fun r=>.sh (eI r)):=Fj f134 0xa12f2e5b046fab01ea3881dc2f2e5b0470fdc5ff7674fdc56b6e0b030441c5537341b37341c56b7d3837c538ab3837c501aa [] [.tmp 4] (h:=fun r h c d=>by
  unfold HV at h;have:HA 1 47 46 0 fun(b:Int)(_:Unit)=>[(47,.tv (eI b))]:=⟨⟩;exact nz)
instance oJ(l:Fp)(n:Int):Ct prog (H5 l n) 255 [lI l,eI n] (fun r=>.sh (eI r)):=Fj f255 0xa10977ed6ffe6005307801feece560dc0977ede0e6 [] [.tmp 4] (h:=fun r h b c=>by
  unfold H5 at h;have:HA 0 9 8 0 fun(a:Int)(_:Unit)=>[(9,.tv (eI a))]:=⟨⟩;exact nz)
instance oK(l:Fp)(n:Int):Ct prog (Ip l n) 256 [lI l,eI n] (fun r=>.sh (eB r)):=Fj f256 0x8155db30e6 [] [.tmp 4] (h:=fun r h a b=>by
  unfold Ip at h;exact nz)
instance np(g:hT)(p:Bw):Ct prog (Jv g p) 231 [BI g,ON p] (fun r=>.sh (eI r)):=Fj f231 0xa11e1d1c5b056f907dfd03dd57017d9203dd578160005e1e1d1c5b05adb3abe95cabb15701aa [] [.tmp 4] (h:=fun r h b c=>by
  unfold Jv at h;have:HA 0 30 29 0 fun(a:Int)(_:Unit)=>[(30,.tv (eI a))]:=⟨⟩;exact nz)
instance nP(g:hT)(p:Bw):Ct prog (D2 g p) 206 [BI g,ON p] (fun r=>.sh (eI r)):=Fj f206 0x810ea9ab3801aa [] [.tmp 4] (h:=fun r h a b=>by
  unfold D2 at h;exact nz)
instance mj(g:hT)(p:Bw):Ct prog (D1 g p) 169 [BI g,ON p] (fun r=>.tp [BI r.1,Ba r.2.1,eI r.2.2]):=Fj f169 0x7e023b81b2b204460e5c0e573808df042b2a29087e5b086fa7b3034803476504b3a7a56c8057a7b36c5c579705c9d7dd816008df045e2b2a29087e5b08adb3087e5b05191817087e5b086fa732f6b65704328160087e5b055e191817087e5b08ad3209c936b2b2d14602cd0ea9010ac909c9aa [] [.cell 4 (some 2),.cell 5 (some 2),.tmp 6] (h:=fun r h e f=>by
  unfold D1 at h;have:HA 0 25 24 0 fun(d:Int)(a:hT)=>[(8,.bx [⟨true,lI a.fq⟩,⟨true,lE a.jj⟩]),(25,.tv (eI d))]:=⟨⟩;have:HA 2 43 42 0 fun(c:Int)(b:hT)=>[(8,.bx [⟨true,lI b.fq⟩,⟨true,lE b.jj⟩]),(43,.tv (eI c))]:=⟨⟩;exact nz)
instance ml(a:hT)(b:hT)(m:gt):Ct prog (Cw a b m) 170 [BI a,BI b,Ba m] (fun r=>.sh (eI r)):=Fj f170 0xa1494847df066ffe80608057535c605c57b75757979705c905c9d7ddd7ddf05c78e560dc494847df06adb37e732c2b2adf066fb7b657b657f05778e5605304735e2c2b2adf06ad32f05ce953b1b1ab38ab387faa [] [.tmp 6] (h:=fun r h e f=>by
  unfold Cw at h;have:HA 0 44 43 0 fun(d:Int)(_:Unit)=>[(44,.tv (eI d))]:=⟨⟩;have:HA 2 73 72 0 fun(c:Int)(_:Unit)=>[(73,.tv (eI c))]:=⟨⟩;exact nz)
instance nQ(l:Fp):Ct prog (G4 l) 208 [lI l] (fun r=>.sh (eI r)):=Fj f208 0x81152a142914991aee [] [.tmp 2] (h:=fun r h a b=>by
  unfold G4 at h;exact nz)
instance mn(a:hT)(b:hT)(m:gt):Ct prog (Cm a b m) 171 [BI a,BI b,Ba m] (fun r=>.sh (eB r)):=Fj f171 0xc3e90e5ce7b10e57530e38a97faa [] [.tmp 6] (h:=fun r h c d=>by
  unfold Cm at h;exact nz)
instance mF(a:ns):Ct prog (IM a) 135 [Fd a] (fun r=>.sh (eI r)):=Fj f135 0x81f5380d423837c538ab380d423837c5383672b2b20a4909c9116c380b423837b37f00 [] [.tmp 2] (h:=fun r h b c=>by
  unfold IM at h;exact nz)
instance mo(l:Fp)(n:Int):Ct prog (JV l n) 172 [lI l,eI n] (fun r=>.own (lI r)):=Fj f172 0x820205017705be6f7705be7705be3c02f691bd308153b47705be6b01c001405f02 [] [.tmp 4] (h:=fun r h c d=>by
  unfold JV at h;have:HA 0 8 7 0 fun(b:Int)(a:Fp)=>[(5,.ow (lI a)),(8,.tv (eI b))]:=⟨⟩;exact nz)
instance mG(a:ns):Ct prog (Kb a) 136 [Fd a] (fun r=>.tp [lI r.1,lI r.2]):=Fj f136 0x82820e0b3162c5920d420e0bd3c56d0d4201400140d9 [] [.tmp 2,.tmp 3] (h:=fun r h b c=>by
  unfold Kb at h;exact nz)
instance mq(a:Int)(b:AB)(c:hT):Ct prog (I8 a b c) 173 [eI a,.pt (AU b).cells,.pt (BI c).cells] (fun r=>.sh (eB r)):=Fj f173 0x81fdbcb6575791bb [] [.tmp 4] (h:=fun r h d e=>by
  unfold I8 at h;exact nz)
instance mr(a:Int)(b:hT)(c:AB):Ct prog (Et a b c) 174 [eI a,.pt (BI b).cells,.pt (AU c).cells] (fun r=>.sh (eB r)):=Fj f174 0x817d608057605c5757389705c9d7dd91bb [] [.tmp 4] (h:=fun r h d e=>by
  unfold Et at h;exact nz)
instance mH(t:AB)(g:hT)(b:Fp)(a:Fp):Ct prog (Fy t g b a) 137 [AU t,BI g,lI b,lI a] (fun r=>.sh (eB r)):=Fj f137 0xd67d10307d1030645b02 [] [.tmp 8] (h:=fun r h c d=>by
  unfold Fy at h;exact nz)
instance nt(c:j0):Ct prog (Ep c) 236 [Ae c] (fun r=>.sh (eB r)):=Fj f236 0xc384537403f1748074923274d47492a50b6da5e20bc9a8f17f00 [] [.tmp 2] (h:=fun r h a b=>by
  unfold Ep at h;exact nz)
abbrev uU(n:Nat):Prop:=∀(c:j0),Ct prog (BD n c) 209 [Ae c] (fun r=>.sh (eB r))
abbrev uY(n:Nat):Prop:=∀(k:j0),Ct prog (BJ n k) 238 [Ae k] (fun r=>.sh (eB r))
theorem gK(n:Nat)(_ih_209:uU n)(_ih_238:uY n)(c:j0):Ct prog (BD (n+1) c) 209 [Ae c] (fun r=>.sh (eB r)):=Fj f209 0xd6083f5c30ff049104915d557e91d80a0eba53011a090431055d1a09043105817e91d80a0eba53557e91d80a0eba53550583326be97f00 [.call 237 [.s 42,.c (.sE 238 [])]] [.tmp 2] (h:=fun r h b d=>by
  unfold BD at h;have:HJ 10 fun(a:Bool)=>[(4,.tv (eB a))]:=⟨⟩;exact nz)
theorem gN(n:Nat)(_ih_209:uU n)(_ih_238:uY n)(k:j0):Ct prog (BJ (n+1) k) 238 [Ae k] (fun r=>.sh (eB r)):=Fj f238 0x817dba7f00 [] [.tmp 2] (h:=fun r h a b=>by
  unfold BJ at h;exact nz)
theorem ZZ:∀n:Nat,uU n/\uY n:=by
  intro n
  induction n with
  |zero=>exact⟨(fun c=>⟨fun _ h=>by cases h⟩),(fun k=>⟨fun _ h=>by cases h⟩)⟩
  |succ n a=>exact⟨gK n a.1 a.2,gN n a.1 a.2⟩
instance nR(c:j0):Ct prog (Eg c) 209 [Ae c] (fun r=>.sh (eB r)):=⟨fun r h=>by
  obtain ⟨N,a⟩:=EU h;exact((ZZ N).1 c).snd r (a N (ca _))⟩
instance nv(k:j0):Ct prog (LD k) 238 [Ae k] (fun r=>.sh (eB r)):=⟨fun r h=>by
  obtain ⟨N,a⟩:=EU h;exact((ZZ N).2 k).snd r (a N (ca _))⟩
abbrev Q_210(n:Nat):Prop:=∀(c:j0),Ct prog (B8 n c) 210 [Ae c] (fun r=>.tp [eI r.1,eI r.2])
theorem gM(n:Nat)(_ih_210:Q_210 n)(c:j0):Ct prog (B8 (n+1) c) 210 [Ae c] (fun r=>.tp [eI r.1,eI r.2]):=Fj f210 0x6b7804027e025d0185577ed1ca0b7e01066f302c78306b6cba094b0cc9ba09437ed15eca0b7e0106adb36b30d9 [] [.tmp 2,.tmp 3] (h:=fun r h e f=>by
  unfold B8 at h;have:HA 0 13 12 0 fun(d:Int)(a:Int×Int)=>[(4,.tv (eI a.1)),(5,.tv (eI a.2)),(13,.tv (eI d))]:=⟨⟩;have:HJ 31 fun(b:Int)=>[(5,.tv (eI b))]:=⟨⟩;exact nz)
theorem gL:∀n:Nat,Q_210 n:=by
  intro n
  induction n with
  |zero=>exact(fun c=>⟨fun _ h=>by cases h⟩)
  |succ n a=>exact gM n a
instance nS(c:j0):Ct prog (Fc c) 210 [Ae c] (fun r=>.tp [eI r.1,eI r.2]):=⟨fun r h=>by
  obtain ⟨N,a⟩:=EU h;exact((gL N) c).snd r (a N (ca _))⟩
instance mt(c:j0):Ct prog (EL c) 175 [Ae c] (fun r=>.sh (eI r)):=Fj f175 0x81fe78e56cbaf5ba7f00 [] [.tmp 2] (h:=fun r h a b=>by
  unfold EL at h;exact nz)
instance nw(a:CO)(b:Int):Ct prog (Gp a b) 239 [Eh a,.pt [eI b]] (fun r=>.sh (eB r)):=Fj f239 0x9f036da5d5 [] [.tmp 3] (h:=fun r h c d=>by
  unfold Gp at h;exact nz)
instance nT(t:AB)(q:j4)(a:Int):Ct prog (Dg t q a) 211 [AU t,C2 q,eI a] (fun r=>.sh (eI r)):=Fj f211 0xa177f23c083d014b05314b0d4983ffe4bd1080005e840377f2083d014b0dc901aba83801640201 [] [.tmp 6] (h:=fun r h c d=>by
  unfold Dg at h;have:HW 0 fun(b:Int)=>[(8,.tv (.pt [eI b]))]:=⟨⟩;exact nz)
abbrev Q_176(n:Nat):Prop:=∀(t:AB)(p:j4)(c:j0),Ct prog (By n t p c) 176 [AU t,C2 p,Ae c] (fun r=>.sh (eI r))
theorem gJ(n:Nat)(_ih_176:Q_176 n)(t:AB)(p:j4)(c:j0):Ct prog (By (n+1) t p c) 176 [AU t,C2 p,Ae c] (fun r=>.sh (eI r)):=Fj f176 0xa1353433f2056fabbaa838094b0cc9ba0943005e353433f205adb37e737e733ce2a8f538a5c6c6ab38a5c6c6ab84a838b78484e20bc9a8f185577fbfd9 [.tZ (.s 1)] [.tmp 6] (h:=fun r h b d=>by
  unfold By at h;have:HA 0 53 52 0 fun(a:Int)(_:Unit)=>[(53,.tv (eI a))]:=⟨⟩;exact nz)
theorem gI:∀n:Nat,Q_176 n:=by
  intro n
  induction n with
  |zero=>exact(fun t p c=>⟨fun _ h=>by cases h⟩)
  |succ n a=>exact gJ n a
instance mu(t:AB)(p:j4)(c:j0):Ct prog (GH t p c) 176 [AU t,C2 p,Ae c] (fun r=>.sh (eI r)):=⟨fun r h=>by
  obtain ⟨N,a⟩:=EU h;exact((gI N) t p c).snd r (a N (ca _))⟩
instance mI(t:AB)(p:j4)(c:j0):Ct prog (DX t p c) 138 [AU t,C2 p,Ae c] (fun r=>.sh (eI r)):=Fj f138 0x810ebaa838abbaaba8387faa [] [.tmp 6] (h:=fun r h a b=>by
  unfold DX at h;exact nz)
instance ql(t:AB)(a:ns):Ct prog (GT t a) 91 [AU t,Fd a] (fun r=>.sh (eI r)):=Fj f91 0x810eba1042a8b338f5303837c53882e8eaabeaabea38aba8b338f5573672db3801aa [] [.tmp 4] (h:=fun r h b c=>by
  unfold GT at h;exact nz)
instance p8(t:AB)(a:List ns)(b:AM):Ct prog (DF t a b) 55 [AU t,(eL 25 Fd) a,CM b] (fun r=>.sh (eI r)):=Fj f55 0x8155db6538055b1b1a190503056fabea38194b0ec9ea1943055b5e1b1a19050305e0b70bcb72db38016430 [] [.tmp 6] (h:=fun r h d e=>by
  unfold DF at h;have:HA 0 27 26 0 fun(c:Int)(_:Unit)=>[(27,.tv (eI c))]:=⟨⟩;exact nz)
instance mJ(t:AB)(b:ns)(a:AM):Ct prog (GX t b a) 139 [AU t,Fd b,CM a] (fun r=>.sh (eI r)):=Fj f139 0x8155db6538abea383672db387faa [] [.tmp 6] (h:=fun r h c d=>by
  unfold GX at h;exact nz)
instance mw(t:AB)(p:j4)(a:AM):Ct prog (DV t p a) 177 [AU t,C2 p,CM a] (fun r=>.sh (eI r)):=Fj f177 0x8155db6538aba8387faa [] [.tmp 6] (h:=fun r h b c=>by
  unfold DV at h;exact nz)
instance oN(n:Int)(a:AB):Ct prog (Ik n a) 261 [eI n,.pt (AU a).cells] (fun r=>.sh (eB r)):=Fj f261 0x817457b9 [] [.tmp 3] (h:=fun r h b c=>by
  unfold Ik at h;exact nz)
instance oQ(a:B0)(b:AB):Ct prog (Il a b) 262 [Bj a,.pt (AU b).cells] (fun r=>.sh (eB r)):=Fj f262 0x81745c57d5 [] [.tmp 3] (h:=fun r h c d=>by
  unfold Il at h;exact nz)
instance ny(t:AB)(g:hT):Ct prog (EX t g) 240 [AU t,BI g] (fun r=>.sh (eB r)):=Fj f240 0xd67d105c017d105701aa [] [.tmp 4] (h:=fun r h a b=>by
  unfold EX at h;exact nz)
instance nU(t:AB)(p:hT)(g:hT):Ct prog (Db t p g) 212 [AU t,BI p,BI g] (fun r=>.sh (eI r)):=Fj f212 0x81907da9017da97e73181716df066fab38b209c93802437e735e181716df067002c7a93672db387faa [] [.tmp 6] (h:=fun r h b c=>by
  unfold Db at h;have:HA 0 24 23 0 fun(a:Int)(_:Unit)=>[(24,.tv (eI a))]:=⟨⟩;exact nz)
instance oT(t:AB)(a:Int):Ct prog (Gm t a) 268 [AU t,eI a] (fun r=>.tp [lI r.1,eI r.2]):=Fj f268 0xef020701cfd2536fcfd253cfd2533c02f6918e3038810107b4cfd253705701c0e4c08dac9e30409330 [] [.tmp 4,.tmp 5] (h:=fun r h d e=>by
  unfold Gm at h;have:HA 0 19 18 0 fun(c:Int)(b:Fp)=>[(7,.ow (lI b)),(19,.tv (eI c))]:=⟨⟩;exact nz)
instance oD(t:AB):Ct prog (E2 t) 248 [AU t] (fun r=>.own ((eL 1 (eL 1 eB)) r)):=Fj f248 0x820231ca31046f02f61802ca0531051c1b1aca0531086f014de101148160ca0531055e1c1b1aca053108e001e89e993fb18101315eca3104705701c00140d9 [.ui 1 [.bool false] (.s 18)] [.tmp 2] (h:=fun r h e f=>by
  unfold E2 at h;have:HA 0 13 12 0 fun(d:Int)(a:List ae)=>[(3,.ow ((eL 1 (eL 1 eB)) a)),(13,.tv (eI d))]:=⟨⟩;have:HA 2 28 27 0 fun(b:Int)(c:ae)=>[(5,.xo 1 (List.map eB c)),(28,.tv (eI b))]:=⟨⟩;exact nz)
theorem gc:CK f281 (.seq (.region [⟨some 4,.mv (.c (.int .i64 0)),none⟩] [0,1])
 (.seq (.seq (.region [⟨some 5,.mv (.s 0),none⟩,
    ⟨some 6,.uM (.s 5),none⟩] [0,1,6])
  (.cond (.s 6) (.seq (.region [⟨some 4,.mv (.c (.int .i64 (-1))),none⟩] [4])
   (.ret))
  (.skip [0,1])))
 (.seq (.region [⟨some 7,.mv (.s 0),none⟩,
    ⟨some 8,.mv (.s 1),none⟩,
    ⟨some 9,.tY (.s 7) (.s 8) 1,none⟩,
    ⟨some 10,.ld (.s 9),none⟩,
    ⟨some 4,.mv (.s 10),none⟩] [4])
 (.ret)))) [.tmp 4]:=by decide +kernel
instance oV(l:Option Fp)(i:Int):Ct Go.Proofs.Tryz.prog (Ke l i) 281 [(eO 1 eI) l,eI i] (fun r=>.sh (eI r)):=Fi gc fun r h a b=>by
  cases l with
  |none=>replace h:some (-1)=some r:=h;exact au|some l=>replace h:((U9 l).bind fun _=>(idx l i).bind fun x=>some x)=some r:=h;exact au
instance oX(f:AT)(b:Int)(k:Int):Ct prog (EJ f b k) 283 [.pt (Ln f).cells,eI b,eI k] (fun r=>.sh (eB r)):=Fj f283 0x813f0546608003096201605c0309620157d77c92026201feec550e01920562019705c9d77c3162373002bb [.bin (.a [0,0,0]) .eql (.s 38) (.s 57)] [.tmp 6] (h:=fun r h c d=>by
  unfold EJ at h;exact nz)
instance oW(f:AT):Ct prog (Ee f) 282 [.pt (Ln f).cells] (fun r=>.sh (eB r)):=Fj f282 0xa114cf0300055d14cf03000514cf03000581880114cf06030006262514cf06f200096fff14cf06030006018e6a810114cf060300065e262514cf06f200097092026255ff14cf03000585012c805c979fc9d743dc14cf030005ad0162375574030962ee [] [.tmp 2] (h:=fun r h d e=>by
  unfold Ee at h;have:HA 0 20 19 0 fun(c:Int)(_:Unit)=>[(20,.tv (eI c))]:=⟨⟩;have:HA 2 38 37 0 fun(a:Int)(b:Bool)=>[(6,.tv (eB b)),(38,.tv (eI a))]:=⟨⟩;exact nz)
noncomputable def Rd:PC:=PC.of NI f263.body (xq bT 0xff9a3ca70b62024802470446201d0a89201d0989040b89329aa4a306be5da4a306bea4a306be3c1f0a620151011e0a8932f9321f0a62014fac011e0a8932ffa4a306be8a0a20011d0a89d107890108203032815fb4a4a306be7092028981151d0a89817431623732151d0a899a3f3e3d0200055d3f3e3d0200053f3e3d0200053c1f09620151011e0989323f3e3d0200053f3e3d0200053cf932a0321f0962014fac011e098932ff3f3e3d0200058a0a20011d0989d10789010a08b660b6d33732030489e7ec550e016d05896b605fb43f3e3d020005ad37028981151d09898174d33732151d09890055050308890b030b899a) []
theorem gZ:CK f263 Rd []:=by decide +kernel
theorem hO:PC.rQ Rd=true/\PC.rM 0 Rd=true:=by decide +kernel
abbrev Q_263(n:Nat):Prop:=∀(f:AT),Ct prog (BR n f) 263 [.undef] (fun r=>.bo (B7 f) (B7 r) 0 [])
theorem gQ(n:Nat)(_ih_263:Q_263 n)(f:AT):Ct prog (BR (n+1) f) 263 [.undef] (fun r=>.bo (B7 f) (B7 r) 0 []):=PI gZ hO fun r h i g j=>by
  unfold Rd;unfold f263;unfold BR at h;have:HA 1 63 62 0 fun(c:Int)(e:AT)=>[(0,.bx (B7 e)),(63,.tv (eI c))]:=⟨⟩;have:HA 3 164 163 0 fun(a:Int)(b:AT)=>[(0,.bx (B7 b)),(164,.tv (eI a))]:=⟨⟩;have:HJ 28 fun(d:AT)=>[(0,.bx (B7 d))]:=⟨⟩;exact nz
theorem gP:∀n:Nat,Q_263 n:=by
  intro n
  induction n with
  |zero=>exact(fun f=>⟨fun _ h=>by cases h⟩)
  |succ n a=>exact gQ n a
instance oR(f:AT):Ct prog (EI f) 263 [.undef] (fun r=>.bo (B7 f) (B7 r) 0 []):=⟨fun r h=>by
  obtain ⟨N,a⟩:=EU h;exact((gP N) f).snd r (a N (ca _))⟩
theorem gY:CK f241 (Rq [Aa 6 0,Aa 7 1,Aa 8 2,Aa 9 3,⟨some 12,.tW 2,none⟩] [4,5,6,7,8,9]<|Sq (Dr [13,14,15,16,17,18,19,20,21] [Ab 14 7 2,Ab 15 8 2,Ab 16 6 2,⟨some 17,.call 248 [.s 16],none⟩,Ab 18 9 2,⟨some 19,.mv (.s 4),none⟩,⟨some 20,.mv (.s 5),none⟩,⟨some 21,.tQ [.list 1 [],.list 3 [],.list 1 [],.list 3 [],.list 1 [],.nil,.nil,.bool false,.int .i64 0,.nil,.nil,.nil] [(0,2,.s 14),(2,2,.s 15),(4,1,.s 17),(5,2,.s 18),(7,1,.s 19),(8,1,.s 20)],none⟩,⟨some 22,.tD [none,none,none,none,none,none,none,none,none,some ⟨true,.xl 1 []⟩,some ⟨true,.xl 1 []⟩,some ⟨true,.list 2 []⟩] (.s 21),none⟩,⟨some 13,.bad 22 0,none⟩] [13,22])<|Rq [Ac 23 13 0,⟨some 24,.r7 263 [.s 23] 0,none⟩] [13,22]<|Rq [Ac 25 13 0,Ac 26 25 0,Ac 27 26 11,⟨some 28,.ld (.s 27),none⟩,⟨some 12,.tk 28,none⟩] [12]<|.ret) [.tmp 12]:=by decide +kernel
instance n7(t:AB)(p:hT)(g:hT)(b:Iz)(a:Bool)(c:Int):Ct prog (F1 t p g b a c) 241 [AU t,BI p,BI g,Ze b,eB a,eI c] (fun r=>.sh ((eL 2 Ba) r)):=Fi gY fun r h d e=>by
  unfold F1 at h;exact au
instance nV(t:AB)(p:hT)(g:hT)(b:Iz)(a:Bool):Ct prog (GU t p g b a) 213 [AU t,BI p,BI g,Ze b,eB a] (fun r=>.tp [(eL 2 Ba) r.1,eI r.2]):=Fj f213 0xefcb02c0850b01820e9e38a9914064640401 [] [.tmp 10,.tmp 11] (h:=fun r h c d=>by
  unfold GU at h;exact nz)
instance my(t:AB)(p:hT)(g:hT)(a:Bool):Ct prog (Ha t p g a) 178 [AU t,BI p,BI g,eB a] (fun r=>.tp [(eL 2 Ba) r.1,eI r.2]):=Fj f178 0xef630e01074638a93602c08d38a99140936431 [] [.tmp 8,.tmp 9] (h:=fun r h b c=>by
  unfold Ha at h;exact nz)
instance nW(a:rk)(b:Fp):Ct prog (FI a b) 214 [RS a,lI b] (fun r=>.sh (eI r)):=Fj f214 0x9f5c6057cb5c8557d5 [] [.tmp 4] (h:=fun r h c d=>by
  unfold FI at h;exact nz)
instance n9(a:Int)(b:Int):Ct prog (Gw a b) 243 [eI a,eI b] (fun r=>.tp [eI r.1,Gq r.2]):=Fj f243 0x6b533f533f013fe56301283f013f30e6 [.uF .u64 (.s 9),.uF .u64 (.s 11),.bin (.w) .shr (.s 16) (.c (.int .u64 63)),.bin (.w) .shr (.s 18) (.c (.int .u64 63)),.uF .i64 (.s 21)] [.tmp 4,.tmp 5] (h:=fun r h d e=>by
  unfold Gw at h;exact nz)
instance n8(t:rk)(a:Fp):Ct prog (FJ t a) 242 [RS t,.pt [lI a]] (fun r=>.tp [eI r.1,Gq r.2.1,eB r.2.2]):=Fj f242 0x816b306b6c5c605703ff766b6e0b03575357816b306b6c5c9f576a9330 [] [.tmp 3,.tmp 4,.tmp 5] (h:=fun r h b c=>by
  unfold FJ at h;exact nz)
instance nX(a:Test)(b:Fp):Ct prog (GK a b) 215 [GM a,lI b] (fun r=>.sh (eB r)):=Fj f215 0xd66e7857e77857810eace3e390083008556b1163010f380342556b1163010f38b3551001aa [] [.tmp 4] (h:=fun r h c d=>by
  unfold GK at h;exact nz)
instance mz(p:j4)(a:AM)(m:gt):Ct prog (Gt p a m) 179 [C2 p,CM a,Ba m] (fun r=>.tp [lI r.1,eI r.2]):=Fj f179 0xef1808e14b4a0804fbc0882014a8e206c9a8054308b44c4b4a0804adf1085b1918170908df08fbc08501201438a51918170c0b0908df0a1918170c0b0908df0ad84de1014de10592a5301401148a0817e1011453556da581605c60605757809b07c99dbc085b5e1918170908df08ada599993f843f84304093aa [.ui 1 [.int .i64 0] (.s 17),.ui 1 [.bool false] (.s 20)] [.tmp 6,.tmp 7] (h:=fun r h e f=>by
  unfold Gt at h;have:HA 0 25 24 0 fun(d:Int)(b:Fp×ae)=>[(8,.xo 1 (List.map eI b.1)),(9,.xo 1 (List.map eB b.2)),(25,.tv (eI d))]:=⟨⟩;have:HA 2 76 75 0 fun(c:Int)(_:Unit)=>[(76,.tv (eI c))]:=⟨⟩;exact nz)
instance mK(t:AB)(p:j4)(b:AM)(a:Bool):Ct prog (De t p b a) 140 [AU t,C2 p,CM b,eB a] (fun r=>.tp [(eL 3 Bk) r.1,eI r.2]):=Fj f140 0xef020d012827260d71066f2827260d71062827260d71063c020348034708469e0261e83865a8b20ac93802430db42827260d7106e0f436f472e89e32c63836f48d65a838d140936431 [] [.tmp 8,.tmp 9] (h:=fun r h e f=>by
  unfold De at h;have:HA 0 40 39 0 fun(d:Int)(c:List AP)=>[(13,.ow ((eL 3 Bk) c)),(40,.tv (eI d))]:=⟨⟩;exact nz)
instance na(t:AB)(p:hT)(g:hT)(m:gt):Ct prog (E3 t p g m) 218 [AU t,BI p,BI g,Ba m] (fun r=>.sh (eI r)):=Fj f218 0xa1474645b8066ffe80608057535c605c57b75757979705c905c9d7ddd7ddf05c78e560dc474645b806adb3b80325242309b8076f368860b65760b65701f05778e5b6b8035e25242309b807ad32820e38f05ce953b1b10164aa [] [.tmp 8] (h:=fun r h c d=>by
  unfold E3 at h;have:HA 0 37 36 0 fun(b:Int)(_:Unit)=>[(37,.tv (eI b))]:=⟨⟩;have:HA 2 71 70 0 fun(a:Int)(_:Unit)=>[(71,.tv (eI a))]:=⟨⟩;exact nz)
theorem kC(l:Fp)(r:Bool)(h:HL l=some r):AH prog 247 [lI l] (.sh (eB r)):=by
  unfold HL at h;rw[<-ZP]at h;split at h
  · rename_i a
    cases h;exact Te l a
  .cases h
instance o5(l:Fp):Ct Go.Proofs.Tryz.prog (HL l) 247 [lI l] (fun r=>.sh (eB r)):=⟨kC l⟩
instance nY(t:AB)(p:hT)(g:hT)(m:gt)(a:Bool):Ct prog (EG t p g m a) 216 [AU t,BI p,BI g,Ba m,eB a] (fun r=>.sh (eI r)):=Fj f216 0x81900a0e5c695730aba9a9ab38a90164640401 [] [.tmp 10] (h:=fun r h b c=>by
  unfold EG at h;exact nz)
instance nZ(t:AB)(p:j4)(a:AM)(m:gt):Ct prog (DU t p a m) 217 [AU t,C2 p,CM a,Ba m] (fun r=>.tp [lI r.1,eI r.2]):=Fj f217 0xef630e3865a8e4c08da932c638e4c08d65a838304064aa [] [.tmp 8,.tmp 9] (h:=fun r h b c=>by
  unfold DU at h;exact nz)
instance m7(t:AB)(b:ns)(a:AM)(m:AP):Ct prog (F2 t b a m) 180 [AU t,Fd b,CM a,Bk m] (fun r=>.sh (eI r)):=Fj f180 0x81f580cb72e8c665a8b338b70e030f42c6c63837b3380164aa [] [.tmp 8] (h:=fun r h c d=>by
  unfold F2 at h;exact nz)
instance m8(t:AB)(p:hT)(g:hT)(m:gt):Ct prog (EQ t p g m) 181 [AU t,BI p,BI g,Ba m] (fun r=>.tp [BI r.1,eI r.2]):=Fj f181 0x81b2380c08022726250c0806066fa732f6b657043281600c08025e2726250c080606ad32025009c93f0e5c36b291cd0ea9a936b291cd0e38a90109c964aa [.sF [.z ⟨true,.list 1 []⟩,.w 34]] [.cell 8 (some 2),.tmp 9] (h:=fun r h c d=>by
  unfold EQ at h;have:HA 0 39 38 0 fun(b:Int)(a:hT)=>[(12,.bx [⟨true,lI a.fq⟩,⟨true,lE a.jj⟩]),(39,.tv (eI b))]:=⟨⟩;exact nz)
instance nc(a:BV):Ct prog (CC a) 219 [FK a] (fun r=>.sh (eI r)):=Fj f219 0x810e38f1c6ab38c538a5c67f00 [] [.tmp 2] (h:=fun r h b c=>by
  unfold CC at h;exact nz)
instance oE(a:Fp)(b:Fp):Ct prog (GG a b) 249 [lI a,lI b] (fun r=>.own ((eL 2 Pe) r)):=Fj f249 0x82020501eb05ed6feb05edebb85f07a2ebb85f07ebb85f073c0202480247094630028a0a7d6a7decc8c8eb05edcc30ebb85f079f5553b4eb05ed7091c002405f02 [] [.tmp 4] (h:=fun r h g i=>by
  unfold GG at h;have:HA 0 10 9 0 fun(f:Int)(c:List L4)=>[(5,.ow ((eL 2 Pe) c)),(10,.tv (eI f))]:=⟨⟩;have:HA 2 7 0 0 fun(d:Int)(e:List L4)=>[(5,.ow ((eL 2 Pe) e)),(7,.tv (eI d))]:=⟨⟩;exact nz)
instance nd(a:BV):Ct prog (DR a) 220 [FK a] (fun r=>.tp [(eL 2 Pe) r.1,(eL 2 Pe) r.2]):=Fj f220 0x82820e92f192c50e6df16dc502400240d9 [] [.tmp 2,.tmp 3] (h:=fun r h b c=>by
  unfold DR at h;exact nz)
instance oF(a:BV):Ct prog (EA a) 250 [FK a] (fun r=>.own (lI r)):=Fj f250 0x820231eb0831056feb083105eb0831053c02f691bd016df16bb6315eeb083105ad37c501c00140d9 [] [.tmp 2] (h:=fun r h d e=>by
  unfold EA at h;have:HA 0 10 9 0 fun(c:Int)(b:Fp)=>[(3,.ow (lI b)),(10,.tv (eI c))]:=⟨⟩;exact nz)
instance nf(a:BV):Ct prog (Dt a) 221 [FK a] (fun r=>.own (lI r)):=Fj f221 0x82020401ca0b0431066fca0b043106ca0b0431063c02f6918a0a0e80300e5c307d0192c5979fc9d77c04b4ca0b043106ad0141a501c0820e08440140d9 [] [.tmp 2] (h:=fun r h d e=>by
  unfold Dt at h;have:HA 0 13 12 0 fun(c:Int)(b:Fp)=>[(4,.ow (lI b)),(13,.tv (eI c))]:=⟨⟩;exact nz)
instance ng(n:Int)(a:Fp)(b:Fp):Ct prog (Gu n a b) 222 [eI n,lI a,lI b] (fun r=>.own (lI r)):=Fj f222 0x82020a01201f1e0a046f201f1e0a04201f1e0a043c02f69188e5b60ab4201f1e0a04709801c00701d00fd2056fd00fd205d00fd205d84de10114bd306bb607b4d00fd205e0993f304002bb [.ui 1 [.bool false] (.s 13)] [.tmp 6] (h:=fun r h g i=>by
  unfold Gu at h;have:HA 0 17 16 0 fun(f:Int)(c:ae)=>[(7,.xo 1 (List.map eB c)),(17,.tv (eI f))]:=⟨⟩;have:HA 2 32 31 0 fun(d:Int)(e:Fp)=>[(10,.ow (lI e)),(32,.tv (eI d))]:=⟨⟩;exact nz)
instance m9(l:hT)(g:hT)(a:Bw)(m:gt):Ct prog (FC l g a m) 182 [BI l,BI g,ON a,Ba m] (fun r=>.tp [ON r.1,eI r.2]):=Fj f182 0x8013b81b204460e5c5ce90e5757b1ff36b2034681740e084481b203469f74de0182e8084436b2d1cd0e0844084b0fc90a46a9a9010ac964aa [] [.cell 8 (some 2),.tmp 9] (h:=fun r h b c=>by
  unfold FC at h;exact nz)
instance oG(t:AB)(p:j4)(c:j0)(b:AM)(m:AP)(a:Bool):Ct prog (EK t p c b m a) 251 [AU t,C2 p,Ae c,CM b,Bk m,eB a] (fun r=>.sh (eI r)):=Fj f251 0x81f580cb72e8c665a838ab9e32c6c6383672db6538abbaa8387f64640501 [] [.tmp 12] (h:=fun r h d e=>by
  unfold EK at h;exact nz)
instance oZ(n:Int)(b:Fp)(a:Fp):Ct prog (GI n b a) 293 [eI n,lI b,lI a] (fun r=>.own (lI r)):=Fj f293 0x821807010f0e0dd2056f014de1606a146bb607b40f0e0dd205e0991a3047014002bb [] [.tmp 6] (h:=fun r h e f=>by
  unfold GI at h;have:HA 0 15 14 0 fun(d:Int)(c:Fp)=>[(7,.xo 1 (List.map eI c)),(15,.tv (eI d))]:=⟨⟩;exact nz)
instance od(k:Int)(a:Int):Ct prog (Jt k a) 298 [eI k,.pt [eI a]] (fun r=>.sh (eB r)):=Fj f298 0xc30378b9 [] [.tmp 3] (h:=fun r h b c=>by
  unfold Jt at h;exact nz)
instance oc(l:Fp)(n:Int):Ct prog (Fa l n) 297 [lI l,eI n] (fun r=>.sh (eI r)):=Fj f297 0x81368e1030939a [] [.tmp 4] (h:=fun r h a b=>by
  unfold Fa at h;exact nz)
instance oa(t:AB)(p:hT)(g:hT)(b:gt)(a:Bool):Ct prog (FG t p g b a) 294 [AU t,BI p,BI g,Ba b,eB a] (fun r=>.tp [(eL 2 Ba) r.1,eI r.2]):=Fj f294 0xef630e9e38a93602c08de95c3602c08db1573602c08a745ce953b1b13602c08d38a9914064640401 [] [.tmp 10,.tmp 11] (h:=fun r h c d=>by
  unfold FG at h;exact nz)
instance oI(a:rk)(b:Fp):Ct prog (Fh a b) 254 [RS a,lI b] (fun r=>.tp [eI r.1,eI r.2]):=Fj f254 0x6b0e9e76bd740157309330 [] [.tmp 4,.tmp 5] (h:=fun r h c d=>by
  unfold Fh at h;exact nz)
instance ob(b:An)(q:j4)(m:gt)(a:Fp):Ct prog (Ew b q m a) 295 [Bl b,C2 q,Ba m,lI a] (fun r=>.tp [lI r.1,eB r.2]):=Fj f295 0xef180a016867660a04fbc0882014a8e206c9a805430ab46867660a04adf16e022c2b2a0b0a710408fbc08a05ece56301201438a52c2b2a0f0e0b0a71040a2c2b2a0f0e0b0a71040ad84de1014de10592a5301401148a0817e1011453556da581605c60605757fda59b07c99dbc6e025e2c2b2a0b0a710408ada50b0a71040522210b0a7104076f014de1011481de0a7104055e22210b0a7104077001993f84993f7401841a6a40936431 [.tG 1 22 (.int .i64 0) (.s 27),.ui 1 [.bool false] (.s 30)] [.tmp 8,.tmp 9] (h:=fun r h i j=>by
  unfold Ew at h;have:HA 0 34 33 0 fun(g:Int)(d:ae)=>[(11,.xo 1 (List.map eB d)),(34,.tv (eI g))]:=⟨⟩;have:HA 2 44 43 0 fun(f:Int)(c:Fp×ae)=>[(10,.xo 1 (List.map eI c.1)),(11,.xo 1 (List.map eB c.2)),(44,.tv (eI f))]:=⟨⟩;have:HA 4 104 103 0 fun(e:Int)(_:Unit)=>[(104,.tv (eI e))]:=⟨⟩;exact nz)
end Go.Sf.Sc
