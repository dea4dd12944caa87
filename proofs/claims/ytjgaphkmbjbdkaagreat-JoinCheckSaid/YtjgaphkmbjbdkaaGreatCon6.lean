/- Contracts of the functions. -/
import Derived.Test.YtjgaphkmbjbdkaaGreatCon0
import Derived.Test.YtjgaphkmbjbdkaaGreatCon5
import Derived.Test.YtjgaphkmbjbdkaaGreatTryzShelf
import Derived.Test.YtjgaphkmbjbdkaaGreatTw
set_option linter.all false
set_option maxRecDepth 100000
set_option maxHeartbeats 4000000
namespace Go.Sf.Sc
open Go Go.Sf Go.Proofs.Tryz
instance c67(t:AC)(a:eg):CT (He t a) 67 [AM t,Bz a] rI:=Fj f67 0x810ea1104289b336f1303638c63682e3d39ba67d0d4201a66c0d42d5d3d5d336d589b336f1599f017536de [] fun h=>by
  unfold He at h;exact nz
instance c78(t:AC)(a:eg)(b:AF):CT (JA t a b) 78 [AM t,Bz a,BO b] rI:=Fj f78 0x815d01756236d5d3369a8d [] fun h=>by
  unfold JA at h;exact nz
instance zJ(t:AC)(p:d5)(g:d5):CT (FJ t p g) 183 [AM t,Ar p,Ar g] rI:=Fj f183 0x819b087f3601087f369f7f9f7f9f0175369a8d [] fun h=>by
  unfold FJ at h;exact nz
instance AAQ(l:Fp):CT (Jd l) 240 [lI l] rB:=Fj f240 0xa203a77603a704efcfb5bbbb03a7613004ef03a2d003a7816001 [] fun h=>by
  unfold Jd at h;have:HA 0 3 0 0 fun(b:Int)(_:Unit)=>[(3,.tv (eI b))]:=⟨⟩;have:HA 2 4 3 0 fun(a:Int)(_:Unit)=>[(4,.tv (eI a))]:=⟨⟩;exact nz
instance zQ(t:AC)(p:d5)(g:d5)(m:d6)(a:Bool):CT (I3 t p g m a) 188 [AM t,Ar p,Ar g,Ao m,eB a] rI:=Fj f188 0x819b0aa65a01a659300804020cd10405769b057e5e7e59555a5e5a59b5baa5a5f0f0cd439e5a5acdda9bed9e5a559e5a080402845a010cd1040581d104040bd1710676f19e595e9eba369b72599e59559e59d104048459010bd17106819bede855dcdc015c5c0401 [] fun h=>by
  unfold I3 at h;have:HA 0 11 8 0 fun(b:Int)(_:Unit)=>[(11,.tv (eI b))]:=⟨⟩;have:HA 2 12 8 1 fun(c:Int)(_:Unit)=>[(12,.tv (eI c))]:=⟨⟩;exact nz
instance yI(t:AC)(p:d5)(g:d5)(m:d6)(a:Bool):CT (GM t p g m a) 128 [AM t,Ar p,Ar g,Ao m,eB a] rI:=Fj f128 0x810eac36be9f7fbe015c5c0401 [] fun h=>by
  unfold GM at h;exact nz
instance yF(t:AC)(p:ea)(a:AF):CT (Hb t p a) 125 [AM t,A9 p,BO a] rI:=Fj f125 0x815d01756236d589369a8d [] fun h=>by
  unfold Hb at h;exact nz
instance zN(a:gn)(b:Fp):CT (I5 a b) 186 [Py a,lI b] rI:=Fj f186 0xd65a5e5901375a8559f5 [] fun h=>by
  unfold I5 at h;exact nz
instance AAP(t:gn)(a:Fp):CT (Km t a) 239 [Py t,lI a] (fun r=>.tp [eI r.1,eB r.2]):=Fj f239 0x9d055a5e5901b98a7201595559b95a8559309330 [] fun h=>by
  unfold Km at h;exact nz
instance zO(a:Test)(b:Fp):CT (Mi a b) 187 [Dv a,lI b] rB:=Fj f187 0x900a05780559fc7805599b0830085d8175ac03429d75acb3f5 [] fun h=>by
  unfold Mi at h;exact nz
instance yH(p:ea)(a:AF)(m:d6):CT (Jf p a m) 127 [A9 p,BO a,Ao m] (fun r=>.tp [lI r.1,eI r.2]):=Fj f127 0x8182180865088c7637e288201489059203ad08018403ad65088c81085be908ca067637e28501201436a90cbc0908ca080cbc0908ca083c01fd057da9301401fd01148a0817df0114555d6ca9815e5a5e5eba7e044b05c9d4ec7e085b847e700908ca0681993fb4993fb430fe8d [.mkx 1 [.int .i64 0] (.s 16),.mkx 1 [.bool false] (.s 19)] fun h=>by
  unfold Jf at h;have:HA 0 10 3 2 fun(c:Int)(b:Fp×a5)=>[(8,.xo 1 (List.map eI b.1)),(9,.xo 1 (List.map eB b.2)),(10,.tv (eI c))]:=⟨⟩;have:HA 2 14 3 4 fun(d:Int)(_:Unit)=>[(14,.tv (eI d))]:=⟨⟩;exact nz
instance yJ(t:AC)(p:ea)(a:AF)(m:d6):CT (I4 t p a m) 129 [AM t,A9 p,BO a,Ao m] (fun r=>.tp [lI r.1,eI r.2]):=Fj f129 0x81826b7f628937e2777fc4c43637e277e7893630405c8d [] fun h=>by
  unfold I4 at h;exact nz
instance yK(a:Fp)(b:Fp):CT (Hm a b) 130 [lI a,lI b] rB:=Fj f130 0xa296cfb5bbbb00d096ccb5ee0be5 [] fun h=>by
  unfold Hm at h;have:HA 0 5 0 0 fun(c:Int)(_:Unit)=>[(5,.tv (eI c))]:=⟨⟩;exact nz
instance yL(t:AC)(p:d5)(g:d5)(m:d6):CT (F9 t p g m) 131 [AM t,Ar p,Ar g,Ao m] (fun r=>.tp [Ar r.1,eI r.2]):=Fk f131 0x8180360b3e0b08020c0bd1057601fd5e9eba011d320b080261151d32010c0bd10581025018c9273637800103f37f36be0107c95c8d [] [.cell 8 (some 2),.tmp 9] fun r h b c=>by
  unfold F9 at h;have:HW 0 fun(a:d5×Int)=>[(11,.bx [⟨true,.xl 1 (List.map eI a.1.d3)⟩,⟨true,.xl 3 (List.map BP a.1.d4)⟩]),(12,.tv (eI a.2))]:=⟨⟩;exact nz
instance zR(l:d5)(g:d5)(a:At)(m:d6):CT (O6 l g a m) 189 [Ar l,Ar g,Ej a,Ao m] rI:=Fj f189 0x817f369f7fbe015c8d [] fun h=>by
  unfold O6 at h;exact nz
instance AAR(l:Fp)(n:Int):CT (D9 l n) 241 [lI l,eI n] rB:=Fj f241 0xa296cfb501bb00d096ccf7 [] fun h=>by
  unfold D9 at h;have:HA 0 5 0 0 fun(a:Int)(_:Unit)=>[(5,.tv (eI a))]:=⟨⟩;exact nz
instance zS(a:Fp)(b:Fp):CT (F8 a b) 190 [lI a,lI b] (fun r=>.own ((eL 2 Q6) r)):=Fj f190 0xf2b1ea76ea07bd057607bd0507bd053c0202480247054630028a0aa678a67805bbbbead007bd05d65501d0ea8102c002406002 [] fun h=>by
  unfold F8 at h;have:HA 0 6 0 0 fun(c:Int)(d:List Gp)=>[(5,.ow ((eL 2 Q6) d)),(6,.tv (eI c))]:=⟨⟩;have:HA 2 7 0 0 fun(f:Int)(e:List Gp)=>[(5,.ow ((eL 2 Q6) e)),(7,.tv (eI f))]:=⟨⟩;exact nz
instance zV(a:Fp)(b:Fp):CT (KC a b) 193 [lI a,lI b] (fun r=>.own (lI r)):=Fj f193 0xf2b1ea76eaea3cb2d9bb02c830b1d0ea81e201406002 [] fun h=>by
  unfold KC at h;have:HA 0 6 0 0 fun(d:Int)(c:Fp)=>[(5,.ow (lI c)),(6,.tv (eI d))]:=⟨⟩;exact nz
instance zT(l:d5)(g:d5)(a:At)(m:d6):CT (Jb l g a m) 191 [Ar l,Ar g,Ej a,Ao m] (fun r=>.own (lI r)):=Fj f191 0xf20901bc0907050576bc09070572e90705053cb2d9cb8a0a0e5b4103da300e7d03da30a6015a0901845a01bc0907050581820ebae201fe5c1300 [] fun h=>by
  unfold Jb at h;have:HA 0 11 5 1 fun(b:Int)(c:Fp)=>[(9,.ow (lI c)),(11,.tv (eI b))]:=⟨⟩;exact nz
instance zU(n:Int)(l:Fp):CT (MH n l) 192 [eI n,lI l] (fun r=>.own (lI r)):=Fj f192 0xf2b1ea76eaea3cb2d9cbc830b16130ea81e201406002 [] fun h=>by
  unfold MH at h;have:HA 0 6 0 0 fun(b:Int)(a:Fp)=>[(5,.ow (lI a)),(6,.tv (eI b))]:=⟨⟩;exact nz
instance yM(l:d5)(g:d5)(a:At)(m:d6):CT (Qp l g a m) 132 [Ar l,Ar g,Ej a,Ao m] (fun r=>.tp [Ej r.1,eI r.2]):=Fk f132 0x8013b818004460e0e5a5ae80e0ebadc37800046850b7f36be3780004685720e5a5a0b0eba378060f37f36be60c95c8d [] [.cell 8 (some 2),.tmp 9] fun r h b c=>by
  unfold Qp at h;exact nz
instance ABQ(n:Int)(a:Fp)(m:Fp):CT (Jg n a m) 306 [eI n,lI a,lI m] (fun r=>.own (lI r)):=Fj f306 0x821807010907b2047601fdbbbb140701d00907b2048107b2037c0260057619014faa1907b20361307c0260058101ce0140026003 [] fun h=>by
  unfold Jg at h;have:HA 0 8 0 0 fun(b:Int)(c:Fp)=>[(7,.xo 1 (List.map eI c)),(8,.tv (eI b))]:=⟨⟩;have:HA 2 9 1 0 fun(e:Int)(d:Fp)=>[(7,.xo 1 (List.map eI d)),(9,.tv (eI e))]:=⟨⟩;exact nz
instance ABN(b:AX)(a:Fp):CT (FO b a) 303 [.pt (S3 b).cells,lI a] rB:=Fj f303 0xa296035f55600396cc88010796047cbd0676700a055e7e017efc5e5a015a55ba30a5f0cd927d047401079604847d0474307cbd069dff96038a72017e55ee5aa5f0cd927d027460847d02743096ccf7 [] fun h=>by
  unfold FO at h;have:HA 0 5 0 3 fun(c:Int)(_:Unit)=>[(5,.tv (eI c))]:=⟨⟩;have:HA 2 8 0 5 fun(e:Int)(d:Bool)=>[(7,.tv (eB d)),(8,.tv (eI e))]:=⟨⟩;exact nz
instance ABP(a:AX)(l:Fp)(n:Int):CT (CY a l n) 305 [.pt (S3 a).cells,lI l,eI n] rB:=Fj f305 0xa20702d776b501bb00ff8a0308743072300702d781cb6003 [] fun h=>by
  unfold CY at h;have:HW 0 fun(b:Int)=>[(7,.tv (eI b))]:=⟨⟩;exact nz
noncomputable def ZK:PC:=PC.of Rz f304.body (xq bT 0x1d10260065f01d1026006d10260063c005201d9304830470132ffd10260068a055e7e017efc5e5a015afcba7020303270b19e7d06a8559e7d06a8a5f0cd927d04a8d8847d04a801d102600681a5f0cd927d02a8ff014a0a740248024704460148304701483047040aa832850b7d02a85dee610309a80b030aa8026003) []
theorem uW:CK f304 ZK []:=by decide +kernel
theorem ux:PC.t1 ZK=true/\PC.t5 0 ZK=true:=by decide +kernel
abbrev Q_304(n:Nat):Prop:=∀(b:AX)(a:Fp)(l:Fp),CT (Bp n b a l) 304 [.undef,lI a,lI l] (fun r=>.bo (B0 b) (B0 r) 0 [])
theorem uF(n:Nat)(_ih_304:Q_304 n)(b:AX)(a:Fp)(l:Fp):CT (Bp (n+1) b a l) 304 [.undef,lI a,lI l] (fun r=>.bo (B0 b) (B0 r) 0 []):=cR uW ux fun r h e d f=>by
  unfold ZK;unfold f304;unfold Bp at h;have:HW 0 fun(c:AX×Int)=>[(0,.bx (B0 c.1)),(8,.tv (eI c.2))]:=⟨⟩;exact nz
theorem uE:∀n:Nat,Q_304 n:=by
  intro n
  induction n with
  |zero=>exact(fun a ec l=>⟨fun _ h=>by cases h⟩)
  |succ n b=>exact uF n b
instance ABO(b:AX)(a:Fp)(l:Fp):CT (JP b a l) 304 [.undef,lI a,lI l] (fun r=>.bo (B0 b) (B0 r) 0 []):=⟨fun r h=>by
  obtain ⟨N,c⟩:=Cl h;exact((uE N) b a l).snd r (c N (az _))⟩
noncomputable def ZJ:PC:=PC.of Rz f238.body (xq bT 0x5504d75f5504d771d73c005201d93048304732ff71d78aa69e6c02a89e6c04a8363838327020303270b19e6c06a8559e6c06a8d8846c04a85504d781ff3f0132850b6c02a85d0b738a08200132550309a80b030aa86002) [.Aaj 304 [.s 32,.s 33,.c (.list 1 [])] 0]
theorem uU:CK f238 ZJ []:=by decide +kernel
theorem uw:PC.t1 ZJ=true/\PC.t5 0 ZJ=true:=by decide +kernel
abbrev Q_238(n:Nat):Prop:=∀(a:AX)(l:Fp),CT (Bq n a l) 238 [.undef,lI l] (fun r=>.bo (B0 a) (B0 r) 0 [])
theorem t8(n:Nat)(_ih_238:Q_238 n)(a:AX)(l:Fp):CT (Bq (n+1) a l) 238 [.undef,lI l] (fun r=>.bo (B0 a) (B0 r) 0 []):=cR uU uw fun r h d c e=>by
  unfold ZJ;unfold f238;unfold Bq at h;have:HW 0 fun(b:AX×Int)=>[(0,.bx (B0 b.1)),(5,.tv (eI b.2))]:=⟨⟩;exact nz
theorem t7:∀n:Nat,Q_238 n:=by
  intro n
  induction n with
  |zero=>exact(fun a l=>⟨fun _ h=>by cases h⟩)
  |succ n b=>exact t8 n b
instance AAO(a:AX)(l:Fp):CT (Ge a l) 238 [.undef,lI l] (fun r=>.bo (B0 a) (B0 r) 0 []):=⟨fun r h=>by
  obtain ⟨N,b⟩:=Cl h;exact((t7 N) a l).snd r (b N (az _))⟩
instance zK(t:AC)(p:d5)(g:d5)(b:d6)(a:Bool)(d:Int):CT (Jp t p g b a d) 184 [AM t,Ar p,Ar g,Ao b,eB a,eI d] (fun r=>.sh ((eL 2 Ao) r)):=Fj f184 0x82030a74383f3800c2bf1c4630bebe02405c5c7102 [.Aa3 [none,none,none,none,none,none,none,none,none,none,some ⟨true,.list 2 []⟩] (.s 20),.Aaj 238 [.s 22,.c (.list 1 [])] 0] fun h=>by
  unfold Jp at h;exact nz
instance ABy(l:Fp)(a:Int)(n:Int):CT (Je l a n) 343 [lI l,eI a,eI n] rI:=Fj f343 0xa2070200cf9bb15e7805bb00d0070200ccb5010b30026003 [] fun h=>by
  unfold Je at h;have:HA 0 7 0 0 fun(b:Int)(_:Unit)=>[(7,.tv (eI b))]:=⟨⟩;exact nz
instance ABR(t:AC)(p:d5)(g:d5)(b:d6)(a:Bool):CT (Hx t p g b a) 307 [AM t,Ar p,Ar g,Ao b,eB a] (fun r=>.tp [(eL 2 Ao) r.1,eI r.2]):=Fj f307 0x8182013702c085ee820eac36be3702c0770ee8e85a3702c0770edc0bba3702c08aede855dcdc3702c0777fbecb405c5c0401 [] fun h=>by
  unfold Hx at h;exact nz
instance yT(a:gn)(b:Fp):CT (Eo a b) 139 [Py a,lI b] (fun r=>.tp [eI r.1,eI r.2]):=Fj f139 0x9d0eacb98a7201595559309330 [] fun h=>by
  unfold Eo at h;exact nz
instance ABS(q:ea)(b:AF)(m:d6)(a:Fp):CT (Lk q b m a) 308 [A9 q,BO b,Ao m,lI a] (fun r=>.tp [lI r.1,eB r.2]):=Fj f308 0x8182180a01120a04cf37e28a0a05780559fc7805595d6b0120143603425d6b01201436b3b804c989059203ad0a018403ad01120a04039004020dbc0671067637e28578816b01201436a90f0e0dbc0671080f0e0dbc0671083c01fd01fd057da9016ca9146ca9148a0817df6ca914556ca9815e5a5e5eba7e044b05c9d4ec7e0a0402847e010dbc06710681bc0671050cbc06ca07760cbc06ca070cbc06ca073c19014faa19850b78fd727814bc06710561b4010cbc06ca0781993fb499014f305630fe5c31 [.mkx 1 [.bool false] (.s 28)] fun h=>by
  unfold Lk at h;have:HA 0 12 4 3 fun(e:Int)(c:Fp×a5)=>[(10,.xo 1 (List.map eI c.1)),(11,.xo 1 (List.map eB c.2)),(12,.tv (eI e))]:=⟨⟩;have:HA 2 13 4 2 fun(g:Int)(d:Fp×a5)=>[(10,.xo 1 (List.map eI d.1)),(11,.xo 1 (List.map eB d.2)),(13,.tv (eI g))]:=⟨⟩;have:HA 4 18 4 4 fun(f:Int)(_:Unit)=>[(18,.tv (eI f))]:=⟨⟩;exact nz
instance AAS(t:AC)(c:d7)(b:AF)(m:AL)(a:Bool):CT (Ew t c b m a) 242 [AM t,AH c,BO b,BT m,eB a] (fun r=>.tp [(eL 3 BT) r.1,eI r.2]):=Fj f242 0x81f2100111100e0cd17611100e0cd111100e0cd13c02034803470946ac02c3029de37e3602c362891001d011100e0cd18103c03703c077e3acc4c43680e004460ee47da90be40ec16ca90bc1b809c989ad0103405c5c0401 [] fun h=>by
  unfold Ew at h;have:HA 0 17 14 0 fun(d:Int)(e:List AL)=>[(16,.ow ((eL 3 BT) e)),(17,.tv (eI d))]:=⟨⟩;exact nz
abbrev Q_194(n:Nat):Prop:=∀(t:AC)(c:d7)(b:AF)(m:AL)(a:Bool),CT (C7 n t c b m a) 194 [AM t,AH c,BO b,BT m,eB a] (fun r=>.tp [Eb r.1,eI r.2])
theorem ti(n:Nat)(_ih_194:Q_194 n)(t:AC)(c:d7)(e:AF)(m:AL)(a:Bool):CT (C7 (n+1) t c e m a) 194 [AM t,AH c,BO e,BT m,eB a] (fun r=>.tp [Eb r.1,eI r.2]):=Fk f194 0x81b80a46ff37b80a460a0117150aeb710776ff0a013b81b8010c46054789cdc36ab80ec97501cdc362fa435a360a01d017150aeb71078137b870f3e3016262a136d681b80a460a01120ad171077637b8010b4605478977b80ec975016262fada360a01845a01120ad171079d0581b8890e0a020f0e0ad1710876014aad054805478904ad37b870f3b80ec975016262fada360e0a02845a010f0e0ad17108d6500ec93fd681b8704637b80a46850137b80af3b80e4975016262fa435a36d6833265c95c5c0401 [.Aad [.z ⟨false,.int .i64 0⟩,.z ⟨true,.list 1 []⟩,.z ⟨true,.list 1 []⟩,.z ⟨true,.list 1 []⟩,.z ⟨true,.list 5 []⟩]] [.cell 10 (some 5),.tmp 11] fun r h k l=>by
  unfold C7 at h;have:HA 1 15 6 1 fun(i:Int)(b:BA×BA)=>[(10,.bx [⟨false,eI b.1.Aag⟩,⟨true,lI b.1.kp.d6.d3⟩,⟨true,lI b.1.kp.d6.d4⟩,⟨true,lI b.1.kp.fa⟩,⟨true,IE b.1.en⟩]),(14,.bx [⟨false,eI b.2.Aag⟩,⟨true,lI b.2.kp.d6.d3⟩,⟨true,lI b.2.kp.d6.d4⟩,⟨true,lI b.2.kp.fa⟩,⟨true,IE b.2.en⟩]),(15,.tv (eI i))]:=⟨⟩;have:HA 3 18 6 1 fun(g:Int)(f:BA)=>[(10,.bx [⟨false,eI f.Aag⟩,⟨true,lI f.kp.d6.d3⟩,⟨true,lI f.kp.d6.d4⟩,⟨true,lI f.kp.fa⟩,⟨true,IE f.en⟩]),(18,.tv (eI g))]:=⟨⟩;have:HA 5 23 21 0 fun(j:Int)(d:BA)=>[(10,.bx [⟨false,eI d.Aag⟩,⟨true,lI d.kp.d6.d3⟩,⟨true,lI d.kp.d6.d4⟩,⟨true,lI d.kp.fa⟩,⟨true,IE d.en⟩]),(23,.tv (eI j))]:=⟨⟩;exact nz
theorem th:∀n:Nat,Q_194 n:=by
  intro n
  induction n with
  |zero=>exact(fun t c a m fb=>⟨fun _ h=>by cases h⟩)
  |succ n b=>exact ti n b
instance zW(t:AC)(c:d7)(b:AF)(m:AL)(a:Bool):CT (O8 t c b m a) 194 [AM t,AH c,BO b,BT m,eB a] (fun r=>.tp [Eb r.1,eI r.2]):=⟨fun r h=>by
  obtain ⟨N,d⟩:=Cl h;exact((th N) t c b m a).snd r (d N (az _))⟩
instance yN(t:AC)(c:d7)(b:AF)(m:AL)(a:Bool):CT (I6 t c b m a) 133 [AM t,AH c,BO b,BT m,eB a] (fun r=>.tp [eB r.1,eI r.2]):=Fj f133 0x9d5501b96ab80e4975016262a136305c5c0401 [] fun h=>by
  unfold I6 at h;exact nz
instance c80(t:AC)(b:eg)(a:AF)(m:AL):CT (Ho t b a m) 80 [AM t,Bz b,BO a,BT m] (fun r=>.tp [Ej r.1,eI r.2]):=Fk f80 0x8180ac0d0b08030d0b08033c018a0830b68175030f426262a110423637806046853080e075c4360b42c4363780604685308007c975c4c43638b33637800046c87e01378060f3e3c46289b33637800046850e030f42c4c43638b33660c95c8d [] [.cell 8 (some 2),.tmp 9] fun r h d e=>by
  unfold Ho at h;have:HJ 95 fun(c:Int)=>[(11,.tv (eI c))]:=⟨⟩;exact nz
instance yO(t:AC)(a:AF)(p:At):CT (Gv t a p) 134 [AM t,BO a,Ej p] (fun r=>.tp [BO r.1,eI r.2]):=Fk f134 0x81a5620d06020e0d0b06040576014aa901d901485e9e597eaa04a90d06028459650d0b06040581035010c93f3637a50111f38080e007c91175be3237a50111f3017562360110c9938d [.Aad [.v (.s 37) 0 2,.v (.s 37) 1 2,.z ⟨true,.list 1 []⟩]] [.cell 6 (some 3),.tmp 7] fun r h c d=>by
  unfold Gv at h;have:HW 0 fun(b:AF×Int)=>[(13,.bx [⟨false,lI b.1.d5.d3⟩,⟨false,lE b.1.d5.d4⟩,⟨true,(eL 1 lI) b.1.ed⟩]),(14,.tv (eI b.2))]:=⟨⟩;exact nz
instance yQ(l:Fp)(n:Int):CT (MG l n) 136 [lI l,eI n] (fun r=>.own (lI r)):=Fj f136 0x8218b1ea76ea07bd057607bd0507bd053c01fd30148501bbead007bd058119014faa19b16130ea8101ce01406002 [] fun h=>by
  unfold MG at h;have:HA 0 6 1 0 fun(a:Int)(b:Fp)=>[(5,.xo 1 (List.map eI b)),(6,.tv (eI a))]:=⟨⟩;have:HA 2 7 0 0 fun(d:Int)(c:Fp)=>[(5,.xo 1 (List.map eI c)),(7,.tv (eI d))]:=⟨⟩;exact nz
instance yP(n:Int)(a:Fp):CT (Ll n a) 135 [eI n,lI a] (fun r=>.own (lI r)):=Fj f135 0x820e78406002 [] fun h=>by
  unfold Ll at h;exact nz
instance c81(t:AC)(a:AF)(d:At):CT (IJ t a d) 81 [AM t,BO a,Ej d] (fun r=>.tp [BO r.1,Ao r.2]):=Fk f81 0xeb023b80a504460e5a0be40e590bc16201a510c975366236e010c9938d [] [.cell 6 (some 3),.cell 7 (some 2)] fun r h b c=>by
  unfold IJ at h;exact nz
instance c82(a:Fp)(b:Fp):CT (Hn a b) 82 [lI a,lI b] (fun r=>.own (lI r)):=Fj f82 0xf2b1ea76b2d95e5e7802b1d0ea81e201406002 [] fun h=>by
  unfold Hn at h;have:HA 0 6 0 0 fun(d:Int)(c:Fp)=>[(5,.ow (lI c)),(6,.tv (eI d))]:=⟨⟩;exact nz
instance c83(c:Fp)(d:Fp)(b:Int)(f:Fp)(a:Int):CT (Fh c d b f a) 83 [lI c,lI d,eI b,lI f,eI a] (fun r=>.own (lI r)):=Fj f83 0xf20c01b70be1000776b70be100075f01b2d9cbb70be100073cb2d95e5ebb300285bb0cf930b70be1000781e2820e7840e16005 [] fun h=>by
  unfold Fh at h;have:HA 0 13 2 0 fun(g:Int)(e:Int×Fp)=>[(4,.tv (eI e.1)),(12,.ow (lI e.2)),(13,.tv (eI g))]:=⟨⟩;exact nz
instance yR(a:Fp)(b:Int):CT (II a b) 137 [lI a,eI b] rB:=Fj f137 0xa296cfb501bb00d096ccf7 [] fun h=>by
  unfold II at h;have:HA 0 5 0 0 fun(c:Int)(_:Unit)=>[(5,.tv (eI c))]:=⟨⟩;exact nz
noncomputable def lJ:PC:=PC.of Rz f84.body (xq bT 0x35003530806020f09d10506760f09d105060f09d105063c014a0141320348034707465e7e595e5aba04014132a5f0cdda8e017d0d42080602845a010f09d105068109d10505e9d171075f7009d17107e9d171073c1fa921221923a90de9d171a60dbc09d1710a7619014faa7d04c3190de9d17108d00e0dbc09d1710a8101ce01e39e5936014a383201d99e59043832ffe9d17107c8016c0d4209d1050584597009d17107818007c93638c616c993ab8d) []
theorem wu:CK f84 lJ [.cell 8 (some 3)]:=by decide +kernel
theorem w5:PC.t1 lJ=true:=by decide +kernel
instance c84(t:AC)(b:eg)(a:AF)(c:d6):CT (Il t b a c) 84 [AM t,Bz b,.agg [.undef,.undef,.undef],Ao c] (fun r=>.ag [⟨true,lI a.d5.d3⟩,⟨true,lE a.d5.d4⟩,⟨true,.xn (List.map lI a.ed)⟩] 2 (.x8 [⟨true,lI r.d5.d3⟩,⟨true,lE r.d5.d4⟩,⟨true,.xn (List.map lI r.ed)⟩])):=v7 wu w5 fun r h j i k=>by
  unfold lJ;unfold f84;unfold Il at h;have:HW 0 fun(d:AF×Int)=>[(6,.bx [⟨true,lI d.1.d5.d3⟩,⟨true,lE d.1.d5.d4⟩,⟨true,.xn (List.map lI d.1.ed)⟩]),(10,.tv (eI d.2))]:=⟨⟩;have:HA 2 14 11 0 fun(g:Int)(f:Fp)=>[(13,.xo 1 (List.map eI f)),(14,.tv (eI g))]:=⟨⟩;have:HW 4 fun(e:AF×Int)=>[(6,.bx [⟨true,lI e.1.d5.d3⟩,⟨true,lE e.1.d5.d4⟩,⟨true,.xn (List.map lI e.1.ed)⟩]),(15,.tv (eI e.2))]:=⟨⟩;exact nz
noncomputable def lK:PC:=PC.of Rz f85.body (xq bT 0x81a562073e0a0702130c0a7c7107762624017d04c325240123a937a511468a055b4104437d04437830057d04437d04437830e39ec136815e6c04c3595d75ac024104c30a0702d0130c0a7c7107810c0a7c7106b70a7c710776b70a7c7107100eb70a7c71097637a511468a05780a057d04c37d044378055e6c04c3595e6c04c3595d75ac024104c3b70a7c71076130100eb70a7c7109815d75ac024104c30c0a7c7106d0b70a7c710781825b41c60110c993ab5c0401) []
theorem wv:CK f85 lK [.cell 10 (some 3),.tmp 11]:=by decide +kernel
theorem w6:PC.t1 lK=true:=by decide +kernel
instance c85(t:AC)(e:eg)(a:AF)(c:d6)(b:Fp):CT (Js t e a c b) 85 [AM t,Bz e,.agg [.undef,.undef,.undef],Ao c,lI b] (fun r=>.ag [⟨true,lI a.d5.d3⟩,⟨true,lE a.d5.d4⟩,⟨true,.xn (List.map lI a.ed)⟩] 2 (.tp [BO r.1,eI r.2])):=v7 wv w6 fun r h m l n=>by
  unfold lK;unfold f85;unfold Js at h;have:HA 0 13 12 0 fun(i:Int)(f:AF)=>[(10,.bx [⟨true,lI f.d5.d3⟩,⟨true,lE f.d5.d4⟩,⟨true,(eL 1 lI) f.ed⟩]),(13,.tv (eI i))]:=⟨⟩;have:HA 2 16 13 0 fun(k:Int)(g:AF)=>[(10,.bx [⟨true,lI g.d5.d3⟩,⟨true,lE g.d5.d4⟩,⟨true,(eL 1 lI) g.ed⟩]),(16,.tv (eI k))]:=⟨⟩;have:HA 4 19 12 0 fun(j:Int)(d:AF×AF)=>[(7,.bx [⟨true,lI d.1.d5.d3⟩,⟨true,lE d.1.d5.d4⟩,⟨true,.xn (List.map lI d.1.ed)⟩]),(10,.bx [⟨true,lI d.2.d5.d3⟩,⟨true,lE d.2.d5.d4⟩,⟨true,(eL 1 lI) d.2.ed⟩]),(19,.tv (eI j))]:=⟨⟩;exact nz
end Go.Sf.Sc
