/- Contracts of the functions. -/
import Derived.Test.YtmbomnkcdolalaaGreatCon0
import Derived.Test.YtmbomnkcdolalaaGreatTryzShelf
import Derived.Test.YtmbomnkcdolalaaGreatTw
set_option linter.all false
set_option maxRecDepth 100000
set_option maxHeartbeats 4000000
namespace Go.Sf.Sc
open Go Go.Sf Go.Proofs.Tryz
instance xT(c:Int):Ct prog (J8 c) 319 [Tx c] (fun r=>.sh (eB r)):=Fj f319 0x810a80ad3080ad30da [] [.tmp 2] (h:=fun r h a b=>by
  unfold J8 at h;exact nz)
instance xU(b:ByteArray)(d:Int->K1)(e:FuncId)(a:Fq)[g:∀(c:Int),Ct prog (d c) e (Tx c::a) (fun r=>.sh (eB r))]:Ct prog (GV b d) 320 [eS b,.clo e a] (fun r=>.sh (eI r)):=Fj f320 0x815801ff8c035f5801ff8a0f1230ad0c308c0381ed [] [.tmp 4] (h:=fun r h i j=>by
  unfold GV at h;have:HW 0 fun(f:Int)=>[(5,.tv (eI f))]:=⟨⟩;exact nz)
instance xW(c:Int):Ct prog (JT c) 322 [Tx c] (fun r=>.sh (eB r)):=Fj f322 0x8180ad30da [] [.tmp 2] (h:=fun r h a b=>by
  unfold JT at h;exact nz)
instance xV(c:Int):Ct prog (MY c) 321 [Tx c] (fun r=>.sh (eB r)):=Fj f321 0x818030bc300e30da [] [.tmp 2] (h:=fun r h a b=>by
  unfold MY at h;exact nz)
instance yF(c:Int):Ct prog (KQ c) 357 [Tx c] (fun r=>.sh (eB r)):=Fj f357 0x81803080ad30da [] [.tmp 2] (h:=fun r h a b=>by
  unfold KQ at h;exact nz)
instance xX(a:ByteArray):Ct prog (Fh a) 323 [eS a] (fun r=>.tp [eI r.1,eI r.2]):=Fj f323 0x7f05d68185d681c61205e80c585c3f0d71da [.call 320 [.s 6,.c (.clo 357 [])]] [.tmp 2,.tmp 3] (h:=fun r h b d=>by
  unfold Fh at h;exact nz)
instance xY(a:ByteArray):Ct prog (MW a) 324 [eS a] (fun r=>.sh (eB r)):=Fj f324 0x81bc0d013f580c30da [.lst 1 [.c (.str ⟨#[45,62]⟩),.c (.str ⟨#[60,61]⟩),.c (.str ⟨#[62,61]⟩),.c (.str ⟨#[61,61]⟩),.c (.str ⟨#[33,61]⟩)]] [.tmp 2] (h:=fun r h b d=>by
  unfold MW at h;exact nz)
instance we(a:ByteArray):Ct prog (Hj a) 272 [eS a] (fun r=>.tp [eI r.1,eI r.2.1,eI r.2.2]):=Fj f272 0x817f6d817f053f5c817f0e5c7f307f6f5c055c7fd67f633f5c0e5c7fd67f633f5c0e5c123030da [.call 320 [.s 15,.c (.clo 321 [])],.call 320 [.s 23,.c (.clo 322 [])],.call 325 [.c (.str ⟨#[123,125,40,41,91,93,44,59,58,61,43,45,42,60,62,33,38,124,46,63]⟩),.s 42]] [.tmp 2,.tmp 3,.tmp 4] (h:=fun r h b d=>by
  unfold Hj at h;exact nz)
instance vQ(t:EH):Ct prog (Hy t) 205 [Tw t] (fun r=>.tp [eS r.1,eB r.2]):=Fj f205 0x7f800c718059ad30817f116fd6bfbff9d704d73c013f3f01855981aa3fa2 [.mv (.c (.str ⟨#[]⟩)),.bin (.s) .add (.c (.str ⟨#[34]⟩)) (.s 13),.bin (.s) .add (.s 14) (.c (.str ⟨#[34]⟩)),.bin (.s) .eql (.s 16) (.c (.str ⟨#[]⟩)),.mv (.c (.str ⟨#[]⟩))] [.tmp 2,.tmp 3] (h:=fun r h b d=>by
  unfold Hy at h;have:HJ 12 fun(a:ByteArray)=>[(4,.tv (eS a))]:=⟨⟩;exact nz)
instance uW(a:ByteArray):Ct prog (C8 a) 152 [eS a] (fun r=>.sh (eB r)):=Fj f152 0x815ce6004630da [] [.tmp 2] (h:=fun r h b c=>by
  unfold C8 at h;exact nz)
instance uY(m:B0)(a:B0):Ct prog (Ma m a) 154 [EZ m,.pt (EZ a).cells] (fun r=>.sh (eB r)):=Fj f154 0x81065990bb [] [.tmp 3] (h:=fun r h b c=>by
  unfold Ma at h;exact nz)
abbrev Q_155(n:Nat):Prop:=∀(t:AC)(a:Int),Ct prog (Cz n t a) 155 [AN t,eI a] (fun r=>.Aa0 4 (List.map GD r))
theorem pB(n:Nat)(_ih_155:Q_155 n)(t:AC)(a:Int):Ct prog (Cz (n+1) t a) 155 [AN t,eI a] (fun r=>.Aa0 4 (List.map GD r)):=Fj f155 0x99044f7641d8591905a60305a6033c191ad2637cd85904ce044ebb [] [.tmp 4] (h:=fun r h c d=>by
  unfold Cz at h;have:HJ 14 fun(b:List kp)=>[(5,.xo 4 (List.map GD b))]:=⟨⟩;exact nz)
theorem pA:∀n:Nat,Q_155 n:=by
  intro n
  induction n with
  |zero=>exact(fun t a=>⟨fun _ h=>by cases h⟩)
  |succ n b=>exact pB n b
instance uZ(t:AC)(a:Int):Ct prog (JU t a) 155 [AN t,eI a] (fun r=>.Aa0 4 (List.map GD r)):=⟨fun r h=>by
  obtain ⟨N,b⟩:=Ck h;exact((pA N) t a).snd r (b N (az _))⟩
instance vT(y:kp)(a:kp):Ct prog (H7 y a) 208 [GD y,.pt (GD a).cells] (fun r=>.sh (eB r)):=Fj f208 0x81065990bb [] [.tmp 3] (h:=fun r h b c=>by
  unfold H7 at h;exact nz)
instance vU(l:List ByteArray):Ct prog (GX l) 209 [lB l] (fun r=>.sh (eI r)):=Fj f209 0x92ba080004be6d810e3045307f915c815e6261ba0800048da1c330da [] [.tmp 2] (h:=fun r h b c=>by
  unfold GX at h;have:HA 0 10 9 0 fun(a:Int)(_:Unit)=>[(10,.tv (eI a))]:=⟨⟩;exact nz)
instance ua(b:kp)(a:List kp):Ct prog (D4 b a) 156 [GD b,lA a] (fun r=>.sh (eI r)):=Fj f156 0xa18801060106013c01806bb49e585bc3b48180e5809e5b585befb46d810e105c819190bb [] [.tmp 4] (h:=fun r h d e=>by
  unfold D4 at h;have:HJ 40 fun(c:Bool)=>[(6,.tv (eB c))]:=⟨⟩;exact nz)
instance ta(t:AC)(a:Int):Ct prog (Hl t a) 103 [AN t,eI a] (fun r=>.sh (eI r)):=Fj f103 0x92c502977e044530b1b83000cfc502816bb40bd6c301820ed26d816bb47f80015b585b7f0e10044501597f9159053dd500c9b1d890bb [] [.tmp 4] (h:=fun r h c d=>by
  unfold Hl at h;have:HA 1 7 6 0 fun(b:Int)(_:Unit)=>[(7,.tv (eI b))]:=⟨⟩;exact nz)
instance ub(n:Int)(a:AC):Ct prog (KA n a) 157 [eI n,.pt (AN a).cells] (fun r=>.sh (eB r)):=Fj f157 0x81e059addc [] [.tmp 3] (h:=fun r h b c=>by
  unfold KA at h;exact nz)
instance ud(y:B9)(a:B9):Ct prog (MZ y a) 159 [E3 y,.pt (E3 a).cells] (fun r=>.sh (eB r)):=Fj f159 0x81065990bb [] [.tmp 3] (h:=fun r h b c=>by
  unfold MZ at h;exact nz)
instance ue(b:Int)(a:Int):Ct prog (JF b a) 160 [eI b,eI a] (fun r=>.sh (eB r)):=Fj f160 0x810a0a80ade83080addc [] [.tmp 4] (h:=fun r h c d=>by
  unfold JF at h;exact nz)
instance td(t:AC)(a:Int):Ct prog (Hk t a) 104 [AN t,eI a] (fun r=>.sh (eI r)):=Fj f104 0x816d19013c010a9103d103057591f3b4195c0a080f9e30080f5b5c810e100745015b7f91598110053d074b01c90744077daabb [] [.tmp 4] (h:=fun r h c d=>by
  unfold Hk at h;have:HJ 25 fun(b:Bool)=>[(25,.tv (eB b))]:=⟨⟩;exact nz)
instance z7(t:AC):Ct prog (C1 t) 72 [AN t] (fun r=>.tp [eS r.1,eI r.2]):=Fj f72 0x81bf002e2d2cf9cdd059630ed2074bd0c90744074362612e2d2cf9c8c1301d1c1bf9cdd059630ed2d592c9b1b871611d1c1bf9c8376dbf81e05b58e281bf816b903fa2 [.mv (.c (.str ⟨#[]⟩)),.mv (.c (.str ⟨#[]⟩)),.mv (.c (.str ⟨#[]⟩)),.mv (.c (.str ⟨#[]⟩))] [.tmp 2,.tmp 3] (h:=fun r h d e=>by
  unfold C1 at h;have:HA 1 29 28 0 fun(a:Int)(_:Unit)=>[(29,.tv (eI a))]:=⟨⟩;have:HA 3 46 45 0 fun(b:Int)(_:Unit)=>[(46,.tv (eI b))]:=⟨⟩;exact nz)
instance th(n:Int)(a:Int):Ct prog (Gh n a) 107 [eI n,eI a] (fun r=>.sh (eB r)):=Fj f107 0x8180e8dc [] [.tmp 4] (h:=fun r h b c=>by
  unfold Gh at h;exact nz)
instance tf(t:Int):Ct prog (K7 t) 106 [eI t] (fun r=>.sh (eB r)):=Fj f106 0x819130da [] [.tmp 2] (h:=fun r h a b=>by
  unfold K7 at h;exact nz)
instance tq(e:Bf)(a:Int):Ct prog (Lz e a) 110 [Bq e,eI a] (fun r=>.sh (eB r)):=Fj f110 0x81bce4e5bce45b6a90bb [] [.tmp 4] (h:=fun r h b c=>by
  unfold Lz at h;exact nz)
instance tj(e:Bf)(a:d4):Ct prog (K8 e a) 109 [Bq e,.pt (Aq a).cells] (fun r=>.sh (eB r)):=Fj f109 0x8191e26401bb [] [.tmp 3] (h:=fun r h b c=>by
  unfold K8 at h;exact nz)
instance z8(g:d4):Ct prog (CU g) 73 [Aq g] (fun r=>.sh (eI r)):=Fj f73 0xa18e105b38bf5938b65b580b90a2 [.call 105 [.s 14,.c (.clo 106 [])]] [.tmp 2] (h:=fun r h a b=>by
  unfold CU at h;exact nz)
instance ui(a:Int)(b:AC):Ct prog (LF a b) 164 [eI a,.pt (AN b).cells] (fun r=>.sh (eB r)):=Fj f164 0x81e059addc [] [.tmp 3] (h:=fun r h c d=>by
  unfold LF at h;exact nz)
instance tw(t:AC)(l:Fp):Ct prog (El t l) 112 [AN t,lI l] (fun r=>.sh (eI r)):=Fj f112 0xa18e10d670e684bb [] [.tmp 4] (h:=fun r h a b=>by
  unfold El at h;exact nz)
instance tu(t:AC)(a:Int):Ct prog (Dh t a) 111 [AN t,eI a] (fun r=>.tp [lA r.1,eI r.2]):=Fj f111 0x818218070115140703be014d0354044c0e170354044c01140114d007f115140703819514991a018904c07eb701840440bb [] [.tmp 4,.tmp 5] (h:=fun r h d e=>by
  unfold Dh at h;have:HA 0 21 20 0 fun(c:Int)(b:List kp)=>[(7,.xo 4 (List.map GD b)),(21,.tv (eI c))]:=⟨⟩;have:HS 31:=⟨⟩;have:HX 33 fun(a:kp)(v:List ByteArray)=>kp.mk a.pq a.Low a.AaD v:=⟨⟩;exact nz)
instance c74(t:AC)(a:Int)(b:Fp):Ct prog (IW t a b) 74 [AN t,eI a,lI b] (fun r=>.sh (eI r)):=Fj f74 0x922322210204cdc69e5ee85bb9d58102c9b1b8626123222102048da1c3f830fd0189830241d85938c3593093a602 [] [.tmp 6] (h:=fun r h d e=>by
  unfold IW at h;have:HA 0 35 34 0 fun(c:Int)(_:Unit)=>[(35,.tv (eI c))]:=⟨⟩;exact nz)
instance uk(t:AC)(a:Int):Ct prog (I1 t a) 166 [AN t,eI a] (fun r=>.own (lI r)):=Fj f166 0x821829140558a6033c017cd859ff19014fb70119e46158a636ce0140bb [] [.tmp 4] (h:=fun r h c d=>by
  unfold I1 at h;have:HW 0 fun(b:Int×Fp)=>[(1,.tv (eI b.1)),(5,.xo 1 (List.map eI b.2))]:=⟨⟩;exact nz)
instance tz(t:AC)(a:Int)(b:Int):Ct prog (H0 t a b) 113 [AN t,eI a,eI b] (fun r=>.sh (eB r)):=Fj f113 0x810e6a018493a602 [] [.tmp 6] (h:=fun r h c d=>by
  unfold H0 at h;exact nz)
instance c75(t:AC)(b:Int)(a:Int)(c:Int):Ct prog (GN t b a c) 75 [AN t,eI b,eI a,eI c] (fun r=>.sh (eB r)):=Fj f75 0x81bc5d41077daa556a7c077daa89b65b3080ad0eb73084935d0103 [] [.tmp 8] (h:=fun r h d e=>by
  unfold GN at h;exact nz)
instance zV(t:AC)(a:AG):Ct prog (EK t a) 39 [AN t,Bl a] (fun r=>.tp [eI r.1,eI r.2]):=Fj f39 0x7f003e3d3cf4cdd0ac5e9ec45e5bc45989d0c35b599d81e9d34362613e3d3cf4c80141375d02282726f4cd8130630e9ae5557f9a5d0261282726f4c85a373881c3c40b9e38817ea9388170e655309b [] [.tmp 4,.tmp 5] (h:=fun r h d e=>by
  unfold EK at h;have:HA 0 40 39 0 fun(c:Int)(_:Unit)=>[(40,.tv (eI c))]:=⟨⟩;have:HA 2 62 61 0 fun(b:Int)(_:Unit)=>[(62,.tv (eI b))]:=⟨⟩;exact nz)
instance zW(c:AU):Ct prog (DN c) 40 [B3 c] (fun r=>.oag [⟨false,lI r.jj.kg.d4.ci⟩,⟨false,lE r.jj.kg.d4.d3⟩,⟨true,(eL 1 lI) r.jj.kg.fd⟩,⟨true,(eL 4 Et) r.jj.kq⟩,⟨true,lI r.pr⟩]):=Fj f40 0x5500553040202333231040205bef703413704480447054604e75d41c103e73673c10e6c5ac15904034137d506c9b1b804020261333231040205c803413704a6031f1e1d04a606bef702a701e10ef902a7825e04a603611f1e1d04a606c8b23f5a37024601e77c370ec4055004c93f0ef39d05c9645a3704c9a2 [.Aay [.z ⟨true,.list 1 []⟩,.z ⟨true,.list 3 []⟩,.z ⟨true,.list 1 []⟩,.z ⟨true,.list 4 []⟩,.w 14],.stq 3 [none,none,some ⟨true,.list 1 []⟩] (.s 27) (.s 25)] [.cell 2 (some 5)] (h:=fun r h f g=>by
  unfold DN at h;have:HA 0 31 30 0 fun(e:Int)(a:AU)=>[(4,.bx [⟨false,lI a.jj.kg.d4.ci⟩,⟨false,lE a.jj.kg.d4.d3⟩,⟨true,(eL 1 lI) a.jj.kg.fd⟩,⟨true,(eL 4 Et) a.jj.kq⟩,⟨true,lI a.pr⟩]),(31,.tv (eI e))]:=⟨⟩;have:HA 2 51 50 0 fun(d:Int)(b:AU)=>[(4,.bx [⟨false,lI b.jj.kg.d4.ci⟩,⟨false,lE b.jj.kg.d4.d3⟩,⟨true,(eL 1 lI) b.jj.kg.fd⟩,⟨true,(eL 4 Et) b.jj.kq⟩,⟨true,lI b.pr⟩]),(51,.tv (eI d))]:=⟨⟩;exact nz)
instance y7(t:AC)(a:AG):Ct prog (DM t a) 11 [AN t,Bl a] (fun r=>.tp [B3 r.1,eI r.2]):=Fj f11 0xdb0e084607466438770106cae6648404c99b [] [.cell 4 (some 5),.tmp 5] (h:=fun r h b c=>by
  unfold DM at h;exact nz)
instance vZ(n:Int)(a:AC):Ct prog (F5 n a) 215 [eI n,.pt (AN a).cells] (fun r=>.sh (eB r)):=Fj f215 0x816b59dc [] [.tmp 3] (h:=fun r h b c=>by
  unfold F5 at h;exact nz)
instance va(a:Bf)(b:AC):Ct prog (F6 a b) 216 [Bq a,.pt (AN b).cells] (fun r=>.sh (eB r)):=Fj f216 0x816b5b90bb [] [.tmp 3] (h:=fun r h c d=>by
  unfold F6 at h;exact nz)
instance vb(n:Int)(b:Int)(a:Int):Ct prog (CQ n b a) 217 [eI n,eI b,eI a] (fun r=>.sh (eB r)):=Fj f217 0x8180e871026203 [] [.tmp 6] (h:=fun r h c d=>by
  unfold CQ at h;exact nz)
instance vc(t:AC)(p:ea)(a:CT):Ct prog (EW t p a) 218 [AN t,BC p,FM a] (fun r=>.tp [GD r.1,eB r.2]):=Fj f218 0x81d5b1b8aa38d50946ac6b01aafd5e59c489d50946ac6bc49002c9ec [] [.cell 6 (some 4),.tmp 7] (h:=fun r h b c=>by
  unfold EW at h;exact nz)
instance xa(n:Int)(t:j0):Ct prog (HO n t) 327 [eI n,N9 t] (fun r=>.sh (eB r)):=Fj f327 0x8180aa80aa8001f290a201 [] [.tmp 4] (h:=fun r h a b=>by
  unfold HO at h;exact nz)
instance wq(n:Int)(a:Test):Ct prog (IE n a) 280 [eI n,GF a] (fun r=>.sh (eI r)):=Fj f280 0x816d810a91550342309184425c8180f290a201 [] [.tmp 4] (h:=fun r h b c=>by
  unfold IE at h;exact nz)
instance vd(n:Int)(l:List Test):Ct prog (Gg n l) 219 [eI n,lT l] (fun r=>.sh (eI r)):=Fj f219 0x921312110004cd7e72584b07c9720543006113121100048da1c3d6c6addc [] [.tmp 4] (h:=fun r h b c=>by
  unfold Gg at h;have:HA 0 19 18 0 fun(a:Int)(_:Unit)=>[(19,.tv (eI a))]:=⟨⟩;exact nz)
instance uq(t:AC)(p:ea):Ct prog (Cc t p) 170 [AN t,BC p] (fun r=>.sh (eI r)):=Fj f170 0xa1a014eff3b4085d3c3b3a085d06be3c3b3a085d063c3b3a085d063c01fb6cb214856cb2388a917c02750a9105b46c0275085cd502496fb17255d508c9b1b8085d613c3b3a085d06c8b2993fb438b6f3580b9e38acb4388a0e107c376a10c4efa93870e6849b [.mkx 1 [.bool false] (.s 55)] [.tmp 4] (h:=fun r h c d=>by
  unfold Cc at h;have:HA 0 60 59 0 fun(b:Int)(a:a5)=>[(8,.xo 1 (List.map eB a)),(60,.tv (eI b))]:=⟨⟩;exact nz)
instance wt(n:Int)(a:AC):Ct prog (MR n a) 282 [eI n,.pt (AN a).cells] (fun r=>.sh (eB r)):=Fj f282 0x816b59dc [] [.tmp 3] (h:=fun r h b c=>by
  unfold MR at h;exact nz)
instance wu(a:Bf)(b:AC):Ct prog (MS a b) 283 [Bq a,.pt (AN b).cells] (fun r=>.sh (eB r)):=Fj f283 0x816b5b90bb [] [.tmp 3] (h:=fun r h c d=>by
  unfold MS at h;exact nz)
instance vf(t:AC)(g:d4):Ct prog (Hg t g) 221 [AN t,Aq g] (fun r=>.sh (eB r)):=Fj f221 0x810a9110aa9110909b [] [.tmp 4] (h:=fun r h a b=>by
  unfold Hg at h;exact nz)
instance ww(y:CT)(a:CT):Ct prog (NN y a) 285 [FM y,.pt (FM a).cells] (fun r=>.sh (eB r)):=Fj f285 0x81805b5b585990bb [] [.tmp 3] (h:=fun r h b c=>by
  unfold NN at h;exact nz)
instance vg(t:AC)(b:gp)(a:Int):Ct prog (Ie t b a) 222 [AN t,Bs b,eI a] (fun r=>.sh (eI r)):=Fj f222 0xa18e100445015d41d138c6aa80aa807641d1908090e0015b585b9f09c9550275fd5e596c5ad189b66c5ad1f259073dd508c9b1d85d41067560a6 [] [.tmp 6] (h:=fun r h c d=>by
  unfold Ie at h;exact nz)
instance ur(t:AC)(a:gp):Ct prog (Hf t a) 171 [AN t,Bs a] (fun r=>.sh (eI r)):=Fj f171 0x922f2e5d04cd7e01eb558162612f2e5d048d5d41d16d816b5d41d17fe0a841d1587641c17641d17f91ead1eeea06759b [] [.tmp 4] (h:=fun r h c d=>by
  unfold Hf at h;have:HA 1 47 46 0 fun(b:Int)(_:Unit)=>[(47,.tv (eI b))]:=⟨⟩;exact nz)
instance yG(l:Fp)(n:Int):Ct prog (G8 l n) 359 [lI l,eI n] (fun r=>.sh (eI r)):=Fj f359 0x9209746205cdc65e0530add6c6e85c815e6261097462058d81ed [] [.tmp 4] (h:=fun r h b c=>by
  unfold G8 at h;have:HA 0 9 8 0 fun(a:Int)(_:Unit)=>[(9,.tv (eI a))]:=⟨⟩;exact nz)
instance yH(l:Fp)(n:Int):Ct prog (J7 l n) 360 [lI l,eI n] (fun r=>.sh (eB r)):=Fj f360 0x815ce630ed [] [.tmp 4] (h:=fun r h a b=>by
  unfold J7 at h;exact nz)
instance xc(g:d4)(p:BA):Ct prog (LE g p) 329 [Aq g,GE p] (fun r=>.sh (eI r)):=Fj f329 0x921e1d1cf4cd8a915d4103dd90917c03dd59815e00611e1d1cf4c8c1effe5befe2909b [] [.tmp 4] (h:=fun r h b c=>by
  unfold LE at h;have:HA 0 30 29 0 fun(a:Int)(_:Unit)=>[(30,.tv (eI a))]:=⟨⟩;exact nz)
instance wx(g:d4)(p:BA):Ct prog (Do g p) 286 [Aq g,GE p] (fun r=>.sh (eI r)):=Fj f286 0x810e55ee849b [] [.tmp 4] (h:=fun r h a b=>by
  unfold Do at h;exact nz)
instance vh(g:d4)(p:BA):Ct prog (Dc g p) 223 [Aq g,GE p] (fun r=>.tp [Aq r.1,An r.2.1,eI r.2.2]):=Fj f223 0x69023b819f9f03e75b0e5955f0a82b2a29f05d08bef7c103480347640401754ab26f9e904ac16f5b599de9d3dd815ef0a8612b2a29f05d08c8c1f0f4191817f05d08bef7dfe19a590437815ef0f461191817f05d08c8370ac9389f9ff8460aca0e55840bc90ac99b [] [.cell 4 (some 2),.cell 5 (some 2),.tmp 6] (h:=fun r h e f=>by
  unfold Dc at h;have:HA 0 25 24 0 fun(c:Int)(a:d4)=>[(8,.bx [⟨true,lI a.ci⟩,⟨true,lE a.d3⟩]),(25,.tv (eI c))]:=⟨⟩;have:HA 2 43 42 0 fun(d:Int)(b:d4)=>[(8,.bx [⟨true,lI b.ci⟩,⟨true,lE b.d3⟩]),(43,.tv (eI d))]:=⟨⟩;exact nz)
instance vj(a:d4)(b:d4)(m:d5):Ct prog (Cx a b m) 224 [Aq a,Aq b,An m] (fun r=>.sh (eI r)):=Fj f224 0x92494847690306cdc69e5e9ef25b5e5b59388559599d9de9e9d3ddd3dd38b65bad5c815e6261494847690306c8c169762c2b2a690306cd859a599a5938b659ad5c815e580476612c2b2a690306c83738b65bfe58e2e2efee84ec [] [.tmp 6] (h:=fun r h e f=>by
  unfold Cx at h;have:HA 0 44 43 0 fun(d:Int)(_:Unit)=>[(44,.tv (eI d))]:=⟨⟩;have:HA 2 73 72 0 fun(c:Int)(_:Unit)=>[(73,.tv (eI c))]:=⟨⟩;exact nz)
instance wy(l:Fp):Ct prog (Ft l) 288 [lI l] (fun r=>.sh (eI r)):=Fj f288 0x81152a142914991a30da [] [.tmp 2] (h:=fun r h a b=>by
  unfold Ft at h;exact nz)
instance vk(a:d4)(b:d4)(m:d5):Ct prog (Cg a b m) 225 [Aq a,Aq b,An m] (fun r=>.sh (eB r)):=Fj f225 0x81e05b0eaae0590ef20ecb84ec [] [.tmp 6] (h:=fun r h c d=>by
  unfold Cg at h;exact nz)
instance ut(a:gp):Ct prog (Ic a) 172 [Bs a] (fun r=>.sh (eI r)):=Fj f172 0xa1ac550d42ead1ee550d42ead189709f9f0b490ac9116f550b42ea0175a2 [] [.tmp 2] (h:=fun r h b c=>by
  unfold Ic at h;exact nz)
instance vl(l:Fp)(n:Int):Ct prog (JS l n) 226 [lI l,eI n] (fun r=>.own (lI r)):=Fj f226 0x8202e474050004be74050004740500043ca6e1d7ac308158f1740500047f01c001406202 [] [.tmp 4] (h:=fun r h c d=>by
  unfold JS at h;have:HA 0 8 7 0 fun(b:Int)(a:Fp)=>[(5,.ow (lI a)),(8,.tv (eI b))]:=⟨⟩;exact nz)
instance uu(a:gp):Ct prog (J6 a) 173 [Bs a] (fun r=>.tp [lI r.1,lI r.2]):=Fj f173 0x82820e0b3673d17c0d420e0b6c5ad16c0d75400140a2 [] [.tmp 2,.tmp 3] (h:=fun r h b c=>by
  unfold J6 at h;exact nz)
instance vn(a:Int)(c:AC)(b:d4):Ct prog (KO a c b) 227 [eI a,.pt (AN c).cells,.pt (Aq b).cells] (fun r=>.sh (eB r)):=Fj f227 0x815d41b89a5990026203 [] [.tmp 4] (h:=fun r h d e=>by
  unfold KO at h;exact nz)
instance vo(a:Int)(c:d4)(b:AC):Ct prog (FJ a c b) 228 [eI a,.pt (Aq c).cells,.pt (AN b).cells] (fun r=>.sh (eB r)):=Fj f228 0x81915e9e595e5b5959559de9d37daa026203 [] [.tmp 4] (h:=fun r h d e=>by
  unfold FJ at h;exact nz)
instance uv(t:AC)(g:d4)(b:Fp)(a:Fp):Ct prog (Fe t g b a) 174 [AN t,Aq g,lI b,lI a] (fun r=>.sh (eB r)):=Fj f174 0x810a911030911030605d02 [] [.tmp 8] (h:=fun r h c d=>by
  unfold Fe at h;exact nz)
instance xd(c:d6):Ct prog (EX c) 334 [AJ c] (fun r=>.sh (eB r)):=Fj f334 0x8180b4586bf36b9e6b7c376bc46b7cb20b6cb2770cc9720475a2 [] [.tmp 2] (h:=fun r h a b=>by
  unfold EX at h;exact nz)
abbrev AbY(n:Nat):Prop:=∀(c:d6),Ct prog (BL n c) 289 [AJ c] (fun r=>.sh (eB r))
abbrev Ab1(n:Nat):Prop:=∀(k:d6),Ct prog (BV n k) 336 [AJ k] (fun r=>.sh (eB r))
theorem pN(n:Nat)(_ih_289:AbY n)(_ih_336:Ab1 n)(c:d6):Ct prog (BL (n+1) c) 289 [AJ c] (fun r=>.sh (eB r)):=Fj f289 0x810a083f5b30ff04d704d75f5c69d73c01bca558011a090436055f1a090436058169d73c01bca5585c69d73c01bca5585c0583377f0baaa2 [.call 335 [.s 42,.c (.clo 336 [])]] [.tmp 2] (h:=fun r h b d=>by
  unfold BL at h;have:HJ 10 fun(a:Bool)=>[(4,.tv (eB a))]:=⟨⟩;exact nz)
theorem pU(n:Nat)(_ih_289:AbY n)(_ih_336:Ab1 n)(k:d6):Ct prog (BV (n+1) k) 336 [AJ k] (fun r=>.sh (eB r)):=Fj f336 0x8191a501a2 [] [.tmp 2] (h:=fun r h a b=>by
  unfold BV at h;exact nz)
theorem gZ:∀n:Nat,AbY n/\Ab1 n:=by
  intro n
  induction n with
  |zero=>exact⟨(fun c=>⟨fun _ h=>by cases h⟩),(fun k=>⟨fun _ h=>by cases h⟩)⟩
  |succ n a=>exact⟨pN n a.1 a.2,pU n a.1 a.2⟩
instance wz(c:d6):Ct prog (Es c) 289 [AJ c] (fun r=>.sh (eB r)):=⟨fun r h=>by
  obtain ⟨N,a⟩:=Ck h;exact((gZ N).1 c).snd r (a N (az _))⟩
instance xf(k:d6):Ct prog (PY k) 336 [AJ k] (fun r=>.sh (eB r)):=⟨fun r h=>by
  obtain ⟨N,a⟩:=Ck h;exact((gZ N).2 k).snd r (a N (az _))⟩
abbrev Q_290(n:Nat):Prop:=∀(c:d6),Ct prog (CA n c) 290 [AJ c] (fun r=>.tp [eI r.1,eI r.2])
theorem pP(n:Nat)(_ih_290:Q_290 n)(c:d6):Ct prog (CA (n+1) c) 290 [AJ c] (fun r=>.tp [eI r.1,eI r.2]):=Fj f290 0x7f30690269026e8559690103cc0b690106be302cad307f6fa5094b0dc9a5094369010361cc0b690106c8c17f30a2 [] [.tmp 2,.tmp 3] (h:=fun r h e f=>by
  unfold CA at h;have:HA 0 13 12 0 fun(b:Int)(a:Int×Int)=>[(4,.tv (eI a.1)),(5,.tv (eI a.2)),(13,.tv (eI b))]:=⟨⟩;have:HJ 31 fun(d:Int)=>[(5,.tv (eI d))]:=⟨⟩;exact nz)
theorem pO:∀n:Nat,Q_290 n:=by
  intro n
  induction n with
  |zero=>exact(fun c=>⟨fun _ h=>by cases h⟩)
  |succ n a=>exact pP n a
instance w2(c:d6):Ct prog (F8 c) 290 [AJ c] (fun r=>.tp [eI r.1,eI r.2]):=⟨fun r h=>by
  obtain ⟨N,a⟩:=Ck h;exact((pO N) c).snd r (a N (az _))⟩
instance vp(c:d6):Ct prog (D0 c) 229 [AJ c] (fun r=>.sh (eI r)):=Fj f229 0xa1c6ad5c816fa538aca501a2 [] [.tmp 2] (h:=fun r h a b=>by
  unfold D0 at h;exact nz)
instance xg(a:CT)(b:Int):Ct prog (Gx a b) 337 [FM a,.pt [eI b]] (fun r=>.sh (eB r)):=Fj f337 0xb3036c0275bb [] [.tmp 3] (h:=fun r h c d=>by
  unfold Gx at h;exact nz)
instance w3(t:AC)(q:ea)(a:Int):Ct prog (DE t q a) 291 [AN t,BC q,eI a] (fun r=>.sh (eI r)):=Fj f291 0x927404033c083d014b05364b0e49836d01ac109e0061b403740403083d014b0ec9d67e728460a6 [] [.tmp 6] (h:=fun r h c d=>by
  unfold DE at h;have:HW 0 fun(b:Int)=>[(8,.tv (.pt [eI b]))]:=⟨⟩;exact nz)
abbrev Q_230(n:Nat):Prop:=∀(t:AC)(p:ea)(c:d6),Ct prog (Bv n t p c) 230 [AN t,BC p,AJ c] (fun r=>.sh (eI r))
theorem pI(n:Nat)(_ih_230:Q_230 n)(t:AC)(p:ea)(c:d6):Ct prog (Bv (n+1) t p c) 230 [AN t,BC p,AJ c] (fun r=>.sh (eI r)):=Fj f230 0x92353433040305cd7ea57255094b0dc9a509430061353433040305c8c1697669763c777238ac55b2a9a9ef55b2a9a9efb4728985b4b4770cc972e3859093bfa2 [.AbC (.s 1)] [.tmp 6] (h:=fun r h b d=>by
  unfold Bv at h;have:HA 0 53 52 0 fun(a:Int)(_:Unit)=>[(53,.tv (eI a))]:=⟨⟩;exact nz)
theorem pH:∀n:Nat,Q_230 n:=by
  intro n
  induction n with
  |zero=>exact(fun t p c=>⟨fun _ h=>by cases h⟩)
  |succ n a=>exact pI n a
instance vq(t:AC)(p:ea)(c:d6):Ct prog (Io t p c) 230 [AN t,BC p,AJ c] (fun r=>.sh (eI r)):=⟨fun r h=>by
  obtain ⟨N,a⟩:=Ck h;exact((pH N) t p c).snd r (a N (az _))⟩
instance uw(t:AC)(p:ea)(c:d6):Ct prog (Cf t p c) 175 [AN t,BC p,AJ c] (fun r=>.sh (eI r)):=Fj f175 0x810ea572eea5ef7284ec [] [.tmp 6] (h:=fun r h a b=>by
  unfold Cf at h;exact nz)
instance uG(t:AC)(a:gp):Ct prog (GJ t a) 125 [AN t,Bs a] (fun r=>.sh (eI r)):=Fj f125 0x810ea5104272c189ac30ead15582fdebefebefebee72c189ac593870e6849b [] [.tmp 4] (h:=fun r h b c=>by
  unfold GJ at h;exact nz)
instance c84(t:AC)(a:List gp)(b:AG):Ct prog (DY t a b) 84 [AN t,(eL 25 Bs) a,Bl b] (fun r=>.sh (eI r)):=Fj f84 0x815ce66455055d1b1a19050305cd7eeb55194b0fc9eb1943055d611b1a190503058da1c3d670e6846030 [] [.tmp 6] (h:=fun r h d e=>by
  unfold DY at h;have:HA 0 27 26 0 fun(c:Int)(_:Unit)=>[(27,.tv (eI c))]:=⟨⟩;exact nz)
instance ux(t:AC)(a:gp)(b:AG):Ct prog (Iz t a b) 176 [AN t,Bs a,Bl b] (fun r=>.sh (eI r)):=Fj f176 0x815ce664eeeb8970e684ec [] [.tmp 6] (h:=fun r h c d=>by
  unfold Iz at h;exact nz)
instance yM(n:Int)(a:AC):Ct prog (Jg n a) 369 [eI n,.pt (AN a).cells] (fun r=>.sh (eB r)):=Fj f369 0x816b59dc [] [.tmp 3] (h:=fun r h b c=>by
  unfold Jg at h;exact nz)
instance yN(a:Bf)(b:AC):Ct prog (Jh a b) 370 [Bq a,.pt (AN b).cells] (fun r=>.sh (eB r)):=Fj f370 0x816b5b90bb [] [.tmp 3] (h:=fun r h c d=>by
  unfold Jh at h;exact nz)
instance xj(t:AC)(g:d4):Ct prog (EN t g) 341 [AN t,Aq g] (fun r=>.sh (eB r)):=Fj f341 0x810a9110aa9110909b [] [.tmp 4] (h:=fun r h a b=>by
  unfold EN at h;exact nz)
instance w6(t:AC)(p:d4)(g:d4):Ct prog (EG t p g) 294 [AN t,Aq p,Aq g] (fun r=>.sh (eI r)):=Fj f294 0xa18a91558491cb6976181716690306cd7e559f0ac95502436976611817166903068d02c7558970e684ec [] [.tmp 6] (h:=fun r h b c=>by
  unfold EG at h;have:HA 0 24 23 0 fun(a:Int)(_:Unit)=>[(24,.tv (eI a))]:=⟨⟩;exact nz)
instance yO(t:AC)(a:Int):Ct prog (GW t a) 371 [AN t,eI a] (fun r=>.tp [lI r.1,eI r.2]):=Fj f371 0x81820207011312070258be131207025813120702583ca6e1d78e3055d007f113120702588d90c03801c07eb7d23040bb [] [.tmp 4,.tmp 5] (h:=fun r h d e=>by
  unfold GW at h;have:HA 0 19 18 0 fun(c:Int)(b:Fp)=>[(7,.ow (lI b)),(19,.tv (eI c))]:=⟨⟩;exact nz)
instance xk(t:AC):Ct prog (Ew t) 342 [AN t] (fun r=>.own ((eL 1 (eL 1 eB)) r)):=Fj f342 0x820236cc3604bea6e11802cc0536051c1b1acc053608be01fb0114815ecc053605611c1b1acc0536088dd0fdd2993fe2d03661cc36048d90c00140a2 [.mkx 1 [.bool false] (.s 18)] [.tmp 2] (h:=fun r h e f=>by
  unfold Ew at h;have:HA 0 13 12 0 fun(b:Int)(a:List a5)=>[(3,.ow ((eL 1 (eL 1 eB)) a)),(13,.tv (eI b))]:=⟨⟩;have:HA 2 28 27 0 fun(c:Int)(d:a5)=>[(5,.xo 1 (List.map eB d)),(28,.tv (eI c))]:=⟨⟩;exact nz)
instance w7(t:AC)(p:d4)(g:d4)(m:d5):Ct prog (Ex t p g m) 295 [AN t,Aq p,Aq g,An m] (fun r=>.sh (eI r)):=Fj f295 0x92474645c50506cdc69e5e9ef25b5e5b59388559599d9de9e9d3ddd3dd38b65bad5c815e6261474645c50506c8c1c5050325242309c50507cd885e9a595e9a9038b659ad5c819ac505036125242309c50507c837820e89b65bfe58e20b90609b [] [.tmp 8] (h:=fun r h c d=>by
  unfold Ex at h;have:HA 0 37 36 0 fun(b:Int)(_:Unit)=>[(37,.tv (eI b))]:=⟨⟩;have:HA 2 71 70 0 fun(a:Int)(_:Unit)=>[(71,.tv (eI a))]:=⟨⟩;exact nz)
theorem sa(l:Fp)(r:Bool)(h:Gr l=some r):AQ prog 338 [lI l] (.sh (eB r)):=by
  unfold Gr at h;rw[<-gQ]at h;split at h
  · rename_i a
    cases h;exact Yd l a
  .cases h
instance yz(l:Fp):Ct Go.Proofs.Tryz.prog (Gr l) 338 [lI l] (fun r=>.sh (eB r)):=⟨sa l⟩
instance w4(t:AC)(p:d4)(g:d4)(m:d5)(a:Bool):Ct prog (EF t p g m a) 292 [AN t,Aq p,Aq g,An m,eB a] (fun r=>.sh (eI r)):=Fj f292 0xa18abc5b6a5930ef55cbeecb8460600401 [] [.tmp 10] (h:=fun r h b c=>by
  unfold EF at h;exact nz)
instance xh(t:AC)(p:ea)(a:AG):Ct prog (Dw t p a) 339 [AN t,BC p,Bl a] (fun r=>.sh (eI r)):=Fj f339 0x815ce664ee7284ec [] [.tmp 6] (h:=fun r h b c=>by
  unfold Dw at h;exact nz)
instance yK(a:j0)(b:Fp):Ct prog (Dx a b) 367 [N9 a,lI b] (fun r=>.sh (eI r)):=Fj f367 0xb35b5e90385b8590bb [] [.tmp 4] (h:=fun r h c d=>by
  unfold Dx at h;exact nz)
instance yU(a:Int)(b:Int):Ct prog (Fr a b) 392 [eI a,eI b] (fun r=>.tp [eI r.1,JV r.2]):=Fj f392 0x7f583f583f013f5c816501283f013f30ed [.cvt .u64 (.s 9),.cvt .u64 (.s 11),.bin (.w) .shr (.s 16) (.c (.int .u64 63)),.bin (.w) .shr (.s 18) (.c (.int .u64 63)),.cvt .i64 (.s 21)] [.tmp 4,.tmp 5] (h:=fun r h d e=>by
  unfold Fr at h;exact nz)
instance yT(t:j0)(a:Fp):Ct prog (EY t a) 391 [N9 t,.pt [lI a]] (fun r=>.tp [eI r.1,JV r.2.1,eB r.2.2]):=Fj f391 0x817f307f6f5b5e59036d817fe003f259817f307f6f5bb35971bb [] [.tmp 3,.tmp 4,.tmp 5] (h:=fun r h b c=>by
  unfold EY at h;exact nz)
instance yL(a:Test)(b:Fp):Ct prog (FE a b) 368 [GF a,lI b] (fun r=>.sh (eB r)):=Fj f368 0x810a80ad9080ad59810eb70e300e30388a0830085c7f1165010f5503425c7f1165010f84425c10019b [] [.tmp 4] (h:=fun r h c d=>by
  unfold FE at h;exact nz)
instance xi(p:ea)(a:AG)(m:d5):Ct prog (HK p a m) 340 [BC p,Bl a,An m] (fun r=>.tp [lI r.1,eI r.2]):=Fj f340 0x81821808de4b4a0804cd01c0882014727707c972054308f14c4b4a0804c8e3085d19181709f00308cd01c08501201455b21918170c0b09f0030a1918170c0b09f0030a3c01fb01fb057cb2301401148a0817de0114585c6cb2815e5b5e5e59599ed508c9b1b8085d6119181709f00308c8b299993fb43fb43040ec [.mkx 1 [.int .i64 0] (.s 17),.mkx 1 [.bool false] (.s 20)] [.tmp 6,.tmp 7] (h:=fun r h e f=>by
  unfold HK at h;have:HA 0 25 24 0 fun(c:Int)(b:Fp×a5)=>[(8,.xo 1 (List.map eI b.1)),(9,.xo 1 (List.map eB b.2)),(25,.tv (eI c))]:=⟨⟩;have:HA 2 76 75 0 fun(d:Int)(_:Unit)=>[(76,.tv (eI d))]:=⟨⟩;exact nz)
instance w5(t:AC)(p:ea)(a:AG)(m:d5):Ct prog (DJ t p a m) 293 [AN t,BC p,Bl a,An m] (fun r=>.tp [lI r.1,eI r.2]):=Fj f293 0x8182650e5564723801c07e55a9a98901c07e6472553040609b [] [.tmp 8,.tmp 9] (h:=fun r h b c=>by
  unfold DJ at h;exact nz)
instance vr(t:AC)(b:gp)(a:AG)(m:AL):Ct prog (Gs t b a m) 231 [AN t,Bs b,Bl a,Be m] (fun r=>.sh (eI r)):=Fj f231 0xa1ace53870fda96472c189850e030f42a9a9eac184609b [] [.tmp 8] (h:=fun r h c d=>by
  unfold Gs at h;exact nz)
instance vt(t:AC)(p:d4)(g:d4)(m:d5):Ct prog (D2 t p g m) 232 [AN t,Aq p,Aq g,An m] (fun r=>.tp [Aq r.1,eI r.2]):=Fj f232 0x819f550c08022726250c080606bef7dfe19a590437815e0c0802612726250c080606c83702500ac93f0e5b389f010aca0e55cb899f010aca0ecb840ac9609b [.Aay [.z ⟨true,.list 1 []⟩,.w 34]] [.cell 8 (some 2),.tmp 9] (h:=fun r h c d=>by
  unfold D2 at h;have:HA 0 39 38 0 fun(b:Int)(a:d4)=>[(12,.bx [⟨true,lI a.ci⟩,⟨true,lE a.d3⟩]),(39,.tv (eI b))]:=⟨⟩;exact nz)
instance w8(a:Ba):Ct prog (CN a) 296 [HP a] (fun r=>.sh (eI r)):=Fj f296 0x810e55e3a9ef55d155b2a901a2 [] [.tmp 2] (h:=fun r h b c=>by
  unfold CN at h;exact nz)
instance xm(a:Fp)(b:Fp):Ct prog (FB a b) 343 [lI a,lI b] (fun r=>.own ((eL 2 O5) r)):=Fj f343 0x8202e4ba8c05beba8c05bac58c07b5bac58c07bac58c073c02024802470c4630028a0a917191e8b9b9ba8c05cfbac58c07b35c58f1ba8c058dd7c002406202 [] [.tmp 4] (h:=fun r h g i=>by
  unfold FB at h;have:HA 0 10 9 0 fun(d:Int)(c:List F1)=>[(5,.ow ((eL 2 O5) c)),(10,.tv (eI d))]:=⟨⟩;have:HA 2 7 0 0 fun(e:Int)(f:List F1)=>[(5,.ow ((eL 2 O5) f)),(7,.tv (eI e))]:=⟨⟩;exact nz)
instance w9(a:Ba):Ct prog (DH a) 297 [HP a] (fun r=>.tp [(eL 2 O5) r.1,(eL 2 O5) r.2]):=Fj f297 0x82820e7ce37cd10e6ce36cd102400240a2 [] [.tmp 2,.tmp 3] (h:=fun r h b c=>by
  unfold DH at h;exact nz)
instance xr(a:Ba):Ct prog (C3 a) 344 [HP a] (fun r=>.own (lI r)):=Fj f344 0x820236ba083605beba083605ba0836053ca6e1d7ac016ce37f9a3661ba083605c85a0675c00140a2 [] [.tmp 2] (h:=fun r h d e=>by
  unfold C3 at h;have:HA 0 10 9 0 fun(c:Int)(b:Fp)=>[(3,.ow (lI b)),(10,.tv (eI c))]:=⟨⟩;exact nz)
instance xA(a:Ba):Ct prog (Cv a) 298 [HP a] (fun r=>.own (lI r)):=Fj f298 0x82020401cc0b043606becc0b043606cc0b0436063ca6e1d78abc9e300e5b3091017cd19d81e9d37d04f1cc0b043606c801410275c0820e08440140a2 [] [.tmp 2] (h:=fun r h d e=>by
  unfold Cv at h;have:HA 0 13 12 0 fun(c:Int)(b:Fp)=>[(4,.ow (lI b)),(13,.tv (eI c))]:=⟨⟩;exact nz)
instance xB(n:Int)(a:Fp)(b:Fp):Ct prog (Fo n a b) 299 [eI n,lI a,lI b] (fun r=>.own (lI r)):=Fj f299 0x82020a01201f1e0a04be201f1e0a04201f1e0a043ca6e1d7885c819a0af1201f1e0a048d9801c0070111100f070205be11100f07020511100f0702053c01fb0114ac307f9a07f111100f0702058d81993f3040026203 [.mkx 1 [.bool false] (.s 13)] [.tmp 6] (h:=fun r h g i=>by
  unfold Fo at h;have:HA 0 17 16 0 fun(d:Int)(c:a5)=>[(7,.xo 1 (List.map eB c)),(17,.tv (eI d))]:=⟨⟩;have:HA 2 32 31 0 fun(e:Int)(f:Fp)=>[(10,.ow (lI f)),(32,.tv (eI e))]:=⟨⟩;exact nz)
instance vu(l:d4)(g:d4)(a:BA)(m:d5):Ct prog (E2 l g a m) 233 [Aq l,Aq g,GE a,An m] (fun r=>.tp [GE r.1,eI r.2]):=Fj f233 0x8013b819f03e75b5bfe0e5959e26d9f0b46816b0e0844819f0b46b36bf80182fd0844389ff8ca0e0844084b10c90d4655cb840bc9609b [] [.cell 8 (some 2),.tmp 9] (h:=fun r h b c=>by
  unfold E2 at h;exact nz)
instance xt(t:AC)(p:ea)(c:d6)(b:AG)(m:AL)(a:Bool):Ct prog (Dz t p c b m a) 345 [AN t,BC p,AJ c,Bl b,Be m,eB a] (fun r=>.sh (eI r)):=Fj f345 0xa1ace53870fda96472ee01a9a9a98970e664eea57284936060e4 [] [.tmp 12] (h:=fun r h d e=>by
  unfold Dz at h;exact nz)
instance yb(n:Int)(b:Fp)(a:Fp):Ct prog (FC n b a) 406 [eI n,lI b,lI a] (fun r=>.own (lI r)):=Fj f406 0x821807010f0e0d070205be01fb5e71147f9a07f10f0e0d0702058d81991a30470140026203 [] [.tmp 6] (h:=fun r h e f=>by
  unfold FC at h;have:HA 0 15 14 0 fun(d:Int)(c:Fp)=>[(7,.xo 1 (List.map eI c)),(15,.tv (eI d))]:=⟨⟩;exact nz)
instance yg(k:Int)(a:Int):Ct prog (LD k a) 412 [eI k,.pt [eI a]] (fun r=>.sh (eB r)):=Fj f412 0x818003addc [] [.tmp 3] (h:=fun r h b c=>by
  unfold LD at h;exact nz)
instance ye(l:Fp)(n:Int):Ct prog (FU l n) 410 [lI l,eI n] (fun r=>.sh (eI r)):=Fj f410 0xa18e1030a201 [] [.tmp 4] (h:=fun r h a b=>by
  unfold FU at h;exact nz)
instance yj(l:Fp)(a:Int):Ct prog (Gq l a) 415 [lI l,eI a] (fun r=>.sh (eI r)):=Fj f415 0x81b9389cdc [] [.tmp 4] (h:=fun r h b c=>by
  unfold Gq at h;exact nz)
instance yl(f:AH)(b:Int)(k:Int):Ct prog (DP f b k) 417 [.pt (Pl f).cells,eI b,eI k] (fun r=>.sh (eB r)):=Fj f417 0x813f0e465e9e030973015e5b0309730159d37d7c0273d6c6e85c0e017c0573019de9d37d36735a30026203 [.bin (.a [0,0,0]) .eql (.s 38) (.s 57)] [.tmp 6] (h:=fun r h c d=>by
  unfold DP at h;exact nz)
instance yk(f:AH):Ct prog (B2 f) 416 [.pt (Pl f).cells] (fun r=>.sh (eB r)):=Fj f416 0x921413120300055f1413120300051413120300058188011413120603000626251413120604030009beff14131206030006018e71d01413120603000661262514131206040300098d7c02735cff14131203000585012c9e5b9d81e9d3436261141312030005c801735a5c6b03097330da [] [.tmp 2] (h:=fun r h d e=>by
  unfold B2 at h;have:HA 0 20 19 0 fun(b:Int)(_:Unit)=>[(20,.tv (eI b))]:=⟨⟩;have:HA 2 38 37 0 fun(a:Int)(c:Bool)=>[(6,.tv (eB c)),(38,.tv (eI a))]:=⟨⟩;exact nz)
noncomputable def WS:PC:=PC.of Uf f414.body (xq bT 0xffda3cf70b73024802470346201d0aa7201d09a7040ba737daa4a30600045fa4a3060004a4a30600043c1f0a730151011e0aa7370052371f0a73014fb7011e0aa737ffa4a30600048a0a20011d0aa7010307a701082030378162f1a4a30600048d7c02a781151d0aa7816b36735a37151d0aa7da3f3e3d0200055f3f3e3d0200053f3e3d0200053c1f09730151011e09a7373f3e3d0200053f3e3d0200053c005237a0371f0973014fb7011e09a737ff3f3e3d0200058a0a20011d09a7010307a7010a089a5e9a6c5a5a37a8a70180e85c0e016c05a77f5e62f13f3e3d020005c85a02a781151d09a7816b6c5a5a37151d09a7005c050308a70b030ba7da) []
theorem p0:CK f414 WS []:=by decide +kernel
theorem qR:PC.Aad WS=true/\PC.Aaf 0 WS=true:=by decide +kernel
abbrev Q_414(n:Nat):Prop:=∀(f:AH),Ct prog (At n f) 414 [.undef] (fun r=>.bo (Cd f) (Cd r) 0 [])
theorem pf(n:Nat)(_ih_414:Q_414 n)(f:AH):Ct prog (At (n+1) f) 414 [.undef] (fun r=>.bo (Cd f) (Cd r) 0 []):=gU p0 qR fun r h i g j=>by
  unfold WS;unfold f414;unfold At at h;have:HA 1 63 62 0 fun(a:Int)(c:AH)=>[(0,.bx (Cd c)),(63,.tv (eI a))]:=⟨⟩;have:HA 3 164 163 0 fun(d:Int)(e:AH)=>[(0,.bx (Cd e)),(164,.tv (eI d))]:=⟨⟩;have:HJ 28 fun(b:AH)=>[(0,.bx (Cd b))]:=⟨⟩;exact nz
theorem pZ:∀n:Nat,Q_414 n:=by
  intro n
  induction n with
  |zero=>exact(fun f=>⟨fun _ h=>by cases h⟩)
  |succ n a=>exact pf n a
instance yi(f:AH):Ct prog (ET f) 414 [.undef] (fun r=>.bo (Cd f) (Cd r) 0 []):=⟨fun r h=>by
  obtain ⟨N,a⟩:=Ck h;exact((pZ N) f).snd r (a N (az _))⟩
theorem pz:CK f413 (Rq [Aa 6 0,Aa 7 1,Aa 8 2,Aa 9 3,⟨some 12,.Abx 2,none⟩] [4,5,6,7,8,9]<|Sq (Dr [13,14,15,16,17,18,19,20,21] [Ab 14 7 2,Ab 15 8 2,Ab 16 6 2,⟨some 17,.call 342 [.s 16],none⟩,Ab 18 9 2,⟨some 19,.mv (.s 4),none⟩,⟨some 20,.mv (.s 5),none⟩,⟨some 21,.bld [.list 1 [],.list 3 [],.list 1 [],.list 3 [],.list 1 [],.list 1 [],.list 1 [],.bool false,.int .i64 0,.nil,.nil,.nil] [(0,2,.s 14),(2,2,.s 15),(4,1,.s 17),(5,2,.s 18),(7,1,.s 19),(8,1,.s 20)],none⟩,⟨some 22,.Abu [none,none,none,none,none,none,none,none,none,some ⟨true,.xl 1 []⟩,some ⟨true,.xl 1 []⟩,some ⟨true,.list 2 []⟩] (.s 21),none⟩,⟨some 13,.bad 22 0,none⟩] [13,22])<|Rq [Ac 23 13 0,⟨some 24,.AaF 414 [.s 23] 0,none⟩] [13,22]<|Rq [Ac 25 13 0,Ac 26 25 0,Ac 27 26 11,⟨some 28,.ld (.s 27),none⟩,⟨some 12,.tk 28,none⟩] [12]<|.ret) [.tmp 12]:=by decide +kernel
instance yh(t:AC)(p:d4)(g:d4)(b:d5)(a:Bool)(c:Int):Ct prog (Ff t p g b a c) 413 [AN t,Aq p,Aq g,An b,eB a,eI c] (fun r=>.sh ((eL 2 An) r)):=Fi pz fun r h d e=>by
  unfold Ff at h;exact au
instance yf(t:AC)(p:d4)(g:d4)(b:d5)(a:Bool):Ct prog (Iw t p g b a) 411 [AN t,Aq p,Aq g,An b,eB a] (fun r=>.tp [(eL 2 An) r.1,eI r.2]):=Fj f411 0x8182d602c0c301820ed2cb84024060600401 [] [.tmp 10,.tmp 11] (h:=fun r h c d=>by
  unfold Iw at h;exact nz)
instance yc(t:AC)(p:d4)(g:d4)(b:d5)(a:Bool):Ct prog (E8 t p g b a) 407 [AN t,Aq p,Aq g,An b,eB a] (fun r=>.tp [(eL 2 An) r.1,eI r.2]):=Fj f407 0x8182650ed2cb8902c07efe5b3802c07ee2593802c0b65bfe58e2e23802c07ecb84024060600401 [] [.tmp 10,.tmp 11] (h:=fun r h c d=>by
  unfold E8 at h;exact nz)
instance xw(a:j0)(b:Fp):Ct prog (EU a b) 348 [N9 a,lI b] (fun r=>.tp [eI r.1,eI r.2]):=Fj f348 0x7f0e018981ac6b015930bb [] [.tmp 4,.tmp 5] (h:=fun r h c d=>by
  unfold EU at h;exact nz)
instance yd(b:Al)(q:ea)(m:d5)(a:Fp):Ct prog (DV b q m a) 408 [CH b,BC q,An m,lI a] (fun r=>.tp [lI r.1,eB r.2]):=Fj f408 0x8182180a016867660a04cd01c0882014727707c97205430af16867660a04c8e380022c2b2a0b0a066908cd01c0c6e85c816501201455b22c2b2a0f0e0b0a06690a2c2b2a0f0e0b0a06690a3c01fb01fb057cb2301401148a0817de0114585c6cb2815e5b5e5e59595d41b2d508c9b1b88002612c2b2a0b0a066908c8b20b0a06690522210b0a066907be01fb0114d00b0a0669056122210b0a0669078d01993fb4993f6b01b41a7140936036 [.Abk 1 22 (.int .i64 0) (.s 27),.mkx 1 [.bool false] (.s 30)] [.tmp 8,.tmp 9] (h:=fun r h i j=>by
  unfold DV at h;have:HA 0 34 33 0 fun(e:Int)(d:a5)=>[(11,.xo 1 (List.map eB d)),(34,.tv (eI e))]:=⟨⟩;have:HA 2 44 43 0 fun(f:Int)(c:Fp×a5)=>[(10,.xo 1 (List.map eI c.1)),(11,.xo 1 (List.map eB c.2)),(44,.tv (eI f))]:=⟨⟩;have:HA 4 104 103 0 fun(g:Int)(_:Unit)=>[(104,.tv (eI g))]:=⟨⟩;exact nz)
instance yY(a:Al)(c:d6)(m:AL):Ct prog (Bm a c m) 396 [CH a,AJ c,Be m] (fun r=>.tp [(eL 3 Be) r.1,eI r.2]):=Fj f396 0x8182020c013b3a390c690307be3b3a390c6903073b3a390c6903073c02034803470446d2027ffd9e5572e306449f0bc95502430cf13b3a390c6903078d8103c03803c070fd030542cb5ab255a99f0bc903e77c377cb2fe0ec46cb2e29f0ac9ea04750340ec [] [.tmp 6,.tmp 7] (h:=fun r h e f=>by
  unfold Bm at h;have:HA 0 59 58 0 fun(d:Int)(b:List AL)=>[(12,.ow ((eL 3 Be) b)),(59,.tv (eI d))]:=⟨⟩;exact nz)
abbrev AbX(n:Nat):Prop:=∀(a:Al)(c:d6)(m:AL),Ct prog (Aj n a c m) 346 [CH a,AJ c,Be m] (fun r=>.tp [D8 r.1,eI r.2])
abbrev Ab0(n:Nat):Prop:=∀(a:Al)(c:d6)(m:AL),Ct prog (BH n a c m) 372 [CH a,AJ c,Be m] (fun r=>.tp [D8 r.1,eI r.2])
theorem pV(n:Nat)(_ih_346:AbX n)(_ih_372:Ab0 n)(b:Al)(c:d6)(m:AL):Ct prog (Aj (n+1) b c m) 346 [CH b,AJ c,Be m] (fun r=>.tp [D8 r.1,eI r.2]):=Fj f346 0xdb10466d77650e64a50644b3db104606014b4a4906050306cd7701104685d6771146054772707711fc64a50644094b810dc9a5097d06f14b4a4906050306c8c1b3db720a06022f2e2d0a06050307bef7e3054805477204e338770110ca7711fc64a50644094b0dc9a509430a0602612f2e2d0a06050307c8c111c9b3db0110466d771046b3db1046b37f7711496f64a509435b0644b383df11c9ec [] [.cell 6 (some 5),.tmp 7] (h:=fun r h g i=>by
  unfold Aj at h;have:HA 2 47 46 0 fun(e:Int)(a:A0×A0)=>[(6,.bx [⟨false,eI a.1.AaB⟩,⟨true,lI a.1.o3.d5.ci⟩,⟨true,lI a.1.o3.d5.d3⟩,⟨true,lI a.1.o3.gt⟩,⟨true,G0 a.1.gn⟩]),(10,.bx [⟨false,eI a.2.AaB⟩,⟨true,lI a.2.o3.d5.ci⟩,⟨true,lI a.2.o3.d5.d3⟩,⟨true,lI a.2.o3.gt⟩,⟨true,G0 a.2.gn⟩]),(47,.tv (eI e))]:=⟨⟩;have:HA 4 75 74 0 fun(f:Int)(d:A0)=>[(6,.bx [⟨false,eI d.AaB⟩,⟨true,lI d.o3.d5.ci⟩,⟨true,lI d.o3.d5.d3⟩,⟨true,lI d.o3.gt⟩,⟨true,G0 d.gn⟩]),(75,.tv (eI f))]:=⟨⟩;exact nz)
theorem pY(n:Nat)(_ih_346:AbX n)(_ih_372:Ab0 n)(b:Al)(c:d6)(m:AL):Ct prog (BH (n+1) b c m) 372 [CH b,AJ c,Be m] (fun r=>.tp [D8 r.1,eI r.2]):=Fj f372 0xdb104606011b1a1906040306cd7701104685d677124605477264637711fc64a509435b06449d12c9d34306f11b1a19060403068da1770110cafd64a506440111c9ec [] [.cell 6 (some 5),.tmp 7] (h:=fun r h e f=>by
  unfold BH at h;have:HA 0 27 26 0 fun(d:Int)(a:A0)=>[(6,.bx [⟨false,eI a.AaB⟩,⟨true,lI a.o3.d5.ci⟩,⟨true,lI a.o3.d5.d3⟩,⟨true,lI a.o3.gt⟩,⟨true,G0 a.gn⟩]),(27,.tv (eI d))]:=⟨⟩;exact nz)
theorem gc:∀n:Nat,AbX n/\Ab0 n:=by
  intro n
  induction n with
  |zero=>exact⟨(fun b c m=>⟨fun _ h=>by cases h⟩),(fun b c m=>⟨fun _ h=>by cases h⟩)⟩
  |succ n a=>exact⟨pV n a.1 a.2,pY n a.1 a.2⟩
instance xu(a:Al)(c:d6)(m:AL):Ct prog (DI a c m) 346 [CH a,AJ c,Be m] (fun r=>.tp [D8 r.1,eI r.2]):=⟨fun r h=>by
  obtain ⟨N,b⟩:=Ck h;exact((gc N).1 a c m).snd r (b N (az _))⟩
instance yP(a:Al)(c:d6)(m:AL):Ct prog (Ns a c m) 372 [CH a,AJ c,Be m] (fun r=>.tp [D8 r.1,eI r.2]):=⟨fun r h=>by
  obtain ⟨N,b⟩:=Ck h;exact((gc N).2 a c m).snd r (b N (az _))⟩
instance xC(t:AC)(p:ea)(c:d6)(b:AG)(m:AL)(a:Bool):Ct prog (DD t p c b m a) 300 [AN t,BC p,AJ c,Bl b,Be m,eB a] (fun r=>.tp [D8 r.1,eI r.2]):=Fj f300 0xdb650e64a51346016489770110ca0e016464a5728411c9936060e4 [] [.cell 12 (some 5),.tmp 13] (h:=fun r h d e=>by
  unfold DD at h;exact nz)
instance vw(t:AC)(p:ea)(c:d6)(b:AG)(m:AL)(a:Bool):Ct prog (Co t p c b m a) 234 [AN t,BC p,AJ c,Bl b,Be m,eB a] (fun r=>.tp [eB r.1,eI r.2]):=Fj f234 0x7f58d681637711496f016464a5725530936060e4 [] [.tmp 12,.tmp 13] (h:=fun r h d e=>by
  unfold Co at h;exact nz)
instance vz(m:AL):Ct prog (IS m) 235 [Be m] (fun r=>.sh (Be r)):=Fj f235 0xa63b9d04e79e03e77c370ec412c9a2 [] [.cell 2 (some 3)] (h:=fun r h a b=>by
  unfold IS at h;exact nz)
instance v7(a:AG):Ct prog (JC a) 236 [Bl a] (fun r=>.sh (Bl r)):=Fj f236 0x9d645d02131211f4bef70275e10148304704b2825e5d0261131211f4c8b2035005c93f3f0e7c370ec405c9a2 [.Aay [.w 9,.w 13],.Aay [.g 14 0 2,.g 14 1 2,.z ⟨true,.list 1 []⟩]] [.cell 2 (some 3)] (h:=fun r h d e=>by
  unfold JC at h;have:HA 0 19 18 0 fun(c:Int)(b:AG)=>[(3,.bx [⟨true,lI b.d4.ci⟩,⟨true,lE b.d4.d3⟩,⟨true,(eL 1 lI) b.fd⟩]),(19,.tv (eI c))]:=⟨⟩;exact nz)
instance v8(n:Int)(l:Fp):Ct prog (KP n l) 237 [eI n,lI l] (fun r=>.own (lI r)):=Fj f237 0x8218e4cce404be01fb3014ccc5e406ccc5e4063c01885c816f308158f1cce404819514993f30406202 [.mkx 1 [.int .i64 0] (.s 9)] [.tmp 4] (h:=fun r h c d=>by
  unfold KP at h;have:HA 0 13 12 0 fun(b:Int)(a:Fp)=>[(5,.xo 1 (List.map eI a)),(13,.tv (eI b))]:=⟨⟩;exact nz)
instance wA(c:Int)(d:Fp)(e:Fp)(a:Fp)(b:Fp)(n:Int):Ct prog (Fg c d e a b n) 238 [eI c,lI d,lI e,lI a,lI b,eI n] (fun r=>.own (lI r)):=Fj f238 0x82180d012b2a0d69be2b2a0d692b2a0d695f30fb30148517de0114d00df12b2a0d698195140d05021615140d693608be01fb5e5e5e7130147f9a0d0502611615140d6936088d81991a30470140695d6206 [] [.tmp 12] (h:=fun r h k l=>by
  unfold Fg at h;have:HA 0 22 21 0 fun(i:Int)(g:Fp)=>[(13,.xo 1 (List.map eI g)),(22,.tv (eI i))]:=⟨⟩;have:HA 2 43 42 0 fun(j:Int)(f:Int×Fp)=>[(5,.tv (eI f.1)),(13,.xo 1 (List.map eI f.2)),(43,.tv (eI j))]:=⟨⟩;exact nz)
instance xD(t:AC)(a:Int):Ct prog (Hi t a) 302 [AN t,eI a] (fun r=>.own (lI r)):=Fj f302 0x820207011312110704bea6e15b02d502c9b1b807f113121107048d8182b701fd018440bb [] [.tmp 4] (h:=fun r h d e=>by
  unfold Hi at h;have:HA 0 19 18 0 fun(c:Int)(b:Fp)=>[(7,.ow (lI b)),(19,.tv (eI c))]:=⟨⟩;exact nz)
noncomputable def WM:PC:=PC.of Uf f239.body (xq bT 0x30b0afaef9beb0afaef9b0afaef93cf701731f73034803470e465e9e6c24a75e5b6c24a7590401731fa737c336731fa79a7c24a79d81e9d3437161b0afaef9c8c107d77b7a79073606be7b7a790736067b7a790736063c1f02411f7321221ad22302411fa7df4a5a5a1f7301e1f95a5a1fa737c36c5a1fa79a6c24a77f9a07d7617b7a79073606c83707369d4a49c53607bef701731f73034803470e465e9e6c22a75e5b6c22a7590401731fa7379de9d37d7c37815e073603614b4a49c53607c8c1c50536051e1d1cc5053608be1f02411f732122014f9ae5562302411fa7df4a5a5a1f7301e19ac4045a5a1fa737815ec5053605611e1d1cc5053608c8379f9d0ac905c9ea06735a37641ca76030) []
theorem pu:CK f239 WM []:=by decide +kernel
theorem qN:PC.Aad WM=true/\PC.Aaf 1 WM=true:=by decide +kernel
instance wB(t:AC)(a:Ar)(d:BA):Ct prog (GL t a d) 239 [AN t,.undef,GE d] (fun r=>.bo (DA a) (DA r) 1 []):=gU pu qN fun r h m l n=>by
  unfold WM;unfold f239;unfold GL at h;have:HA 0 30 29 0 fun(c:Int)(b:Ar)=>[(1,.bx (DA b)),(30,.tv (eI c))]:=⟨⟩;have:HA 2 75 74 0 fun(e:Int)(g:Ar)=>[(1,.bx (DA g)),(75,.tv (eI e))]:=⟨⟩;have:HA 4 123 122 0 fun(f:Int)(j:Ar)=>[(1,.bx (DA j)),(123,.tv (eI f))]:=⟨⟩;have:HA 6 176 175 0 fun(k:Int)(i:Ar)=>[(1,.bx (DA i)),(176,.tv (eI k))]:=⟨⟩;exact nz
theorem pw:CK f303 (.seq (.region [⟨some 1,.Abt (.s 0),none⟩,
    ⟨some 2,.mv (.c .undef),none⟩,
    ⟨some 3,.mv (.c (.int .i64 0)),none⟩] [1])
 (.seq (.region [⟨some 12,.mkm,none⟩,
    ⟨some 4,.mvm 12,none⟩] [1,4,12])
 (.seq (.seq (.region [⟨some 13,.bad 1 0,none⟩,
    ⟨some 14,.fad (.s 13) 6,none⟩,
    ⟨some 15,.fad (.s 14) 2,none⟩,
    ⟨some 16,.ld (.s 15),none⟩,
    ⟨some 17,.len (.s 16),none⟩,
    ⟨some 18,.mv (.c (.int .i64 0)),none⟩] [1,4,12,16,17,18])
 (.block 0 (.loop [1,4,12,16,17,18] (.seq (.region [⟨some 19,.bin (.i) .lss (.s 18) (.s 17),none⟩] [1,4,12,16,17,18,19])
 (.seq (.cond (.s 19) (.skip [1,4,12,16,17,18])
 (.exit 0 [4,12]))
 (.seq (.block 1 (.seq (.region [⟨some 20,.iad (.s 16) (.s 18) 4,none⟩,
    ⟨some 21,.lda (.s 20) 4,none⟩,
    ⟨some 6,.alc [⟨false,.int .i64 0⟩,⟨false,.int .i64 0⟩,⟨false,.int .i64 0⟩,⟨false,.int .i64 0⟩],none⟩,
    ⟨none,.stb 4 6 (.s 21),none⟩] [1,4,6,12,16,17,18])
 (.seq (.region [⟨some 23,.bad 6 2,none⟩,
    ⟨some 24,.lda (.s 23) 2,none⟩,
    ⟨some 25,.bad 1 25,none⟩,
    ⟨some 26,.fad (.s 25) 2,none⟩,
    ⟨some 27,.ld (.s 26),none⟩,
    ⟨some 28,.call 348 [.s 24,.s 27],none⟩,
    ⟨some 22,.mv (.s 28),none⟩,
    ⟨some 29,.ext (.s 22) 0,none⟩,
    ⟨some 30,.ext (.s 22) 1,none⟩,
    ⟨some 7,.mv (.s 29),none⟩,
    ⟨some 8,.mv (.s 30),none⟩] [1,4,6,7,8,12,16,17,18])
 (.seq (.seq (.region [⟨some 31,.mv (.s 8),none⟩,
    ⟨some 32,.bin (.i) .neq (.s 31) (.c (.int .i64 0)),none⟩] [1,4,6,7,8,12,16,17,18,32])
 (.cond (.s 32) (.seq (.region [⟨some 33,.mv (.s 8),none⟩,
    ⟨some 2,.mv (.c .undef),none⟩,
    ⟨some 3,.mv (.s 33),none⟩] [2,3,12])
 .ret)
 (.skip [1,4,6,7,12,16,17,18])))
 (.seq (.draw [9,34,35,36,37,38,39,40,41,42,43] [⟨some 34,.bad 1 36,none⟩,
    ⟨some 35,.fad (.s 34) 0,none⟩,
    ⟨some 36,.ld (.s 35),none⟩,
    ⟨some 37,.bad 6 0,none⟩,
    ⟨some 38,.ld (.s 37),none⟩,
    ⟨some 39,.iad (.s 36) (.s 38) 1,none⟩,
    ⟨some 40,.ld (.s 39),none⟩,
    ⟨some 41,.bad 6 1,none⟩,
    ⟨some 42,.ld (.s 41),none⟩,
    ⟨some 43,.bld [.int .i64 0,.int .i64 0] [(0,1,.s 40),(1,1,.s 42)],none⟩,
    ⟨some 9,.alc [⟨false,.int .i64 0⟩,⟨false,.int .i64 0⟩],none⟩,
    ⟨none,.stb 2 9 (.s 43),none⟩] [1,4,7,9,12,16,17,18])
 (.seq (.seq (.region [⟨some 45,.mv (.s 4),none⟩,
    ⟨some 46,.lda (.s 9) 2,none⟩,
    ⟨some 47,.mlk 12 (.s 45) (.s 46),none⟩,
    ⟨some 44,.mv (.s 47),none⟩,
    ⟨some 48,.ext (.s 44) 0,none⟩,
    ⟨some 49,.ext (.s 44) 1,none⟩,
    ⟨some 10,.mv (.s 48),none⟩,
    ⟨some 11,.mv (.s 49),none⟩] [1,4,7,9,10,11,12,16,17,18])
 (.seq (.region [⟨some 50,.mv (.s 11),none⟩,
    ⟨some 51,.mv (.s 50),none⟩,
    ⟨some 52,.mv (.s 10),some (51,true)⟩,
    ⟨some 53,.mv (.s 7),some (51,true)⟩,
    ⟨some 54,.bin (.i) .neq (.s 52) (.s 53),some (51,true)⟩,
    ⟨some 55,.pick (.s 51) (.s 54) (.c (.bool false)),none⟩] [1,4,7,9,12,16,17,18,55])
 (.cond (.s 55) (.seq (.region [⟨some 2,.mv (.c .undef),none⟩,
    ⟨some 3,.mv (.c (.int .i64 11)),none⟩] [2,3,12])
 .ret)
 (.skip [1,4,7,9,12,16,17,18]))))
 (.region [⟨some 56,.mv (.s 4),none⟩,
    ⟨some 57,.lda (.s 9) 2,none⟩,
    ⟨some 58,.mv (.s 7),none⟩,
    ⟨none,.mup 12 (.s 56) (.s 57) (.s 58),none⟩] [1,4,12,16,17,18])))))))
 (.region [⟨some 59,.bin (.i) .add (.s 18) (.c (.int .i64 1)),none⟩,
    ⟨some 18,.mv (.s 59),none⟩] [1,4,12,16,17,18])))))))
 (.seq (.region [⟨some 60,.mv (.s 4),none⟩,
    ⟨some 2,.mv (.s 60),none⟩,
    ⟨some 3,.mv (.c (.int .i64 0)),none⟩] [2,3,12])
 .ret)))) [.tmp 2,.tmp 3]:=by decide +kernel
instance yv(s:Ar):Ct Go.Proofs.Tryz.prog (G7 s) 303 [Yr s] L5:=tN pw fun r h d e=>by
  unfold G7 at h;have K:∀b:Nat,HA 0 18 17 0 fun(c:Int)(a:BE)=>[(12,.mx (.mp b a)),(18,.tv (eI c))]:=fun _=>⟨⟩;have:sE 12:=⟨⟩;exact au
theorem VM(t:AC)(s:Ar)(V:List Fp)(p:(Int×Int)×Int)(a:BE)(r:Bk (List Fp) Unit)(h:Lx t s V p=some r):WP (AQ Go.Proofs.Tryz.prog) (.block 1 (.seq (.region [⟨some 25,.men 22,none⟩,
    ⟨some 26,.ext (.s 25) 0,none⟩,
    ⟨some 27,.ext (.s 25) 1,none⟩,
    ⟨some 7,.alc [⟨false,.int .i64 0⟩,⟨false,.int .i64 0⟩],none⟩,
    ⟨none,.stb 2 7 (.s 26),none⟩,
    ⟨some 8,.mv (.s 27),none⟩] [1,2,7,8,22])
 (.seq (.draw [9,10,28,29,30,31,32,33,34,35,36,37,38,39,40,41,42] [⟨some 29,.lda (.s 2) 2,none⟩,
    ⟨some 30,.bad 1 0,none⟩,
    ⟨some 31,.fad (.s 30) 0,none⟩,
    ⟨some 32,.fad (.s 31) 31,none⟩,
    ⟨some 33,.fad (.s 32) 0,none⟩,
    ⟨some 34,.fad (.s 33) 0,none⟩,
    ⟨some 35,.ld (.s 34),none⟩,
    ⟨some 36,.bad 7 0,none⟩,
    ⟨some 37,.ld (.s 36),none⟩,
    ⟨some 38,.iad (.s 35) (.s 37) 1,none⟩,
    ⟨some 39,.ld (.s 38),none⟩,
    ⟨some 40,.call 111 [.s 29,.s 39],none⟩,
    ⟨some 28,.mv (.s 40),none⟩,
    ⟨some 41,.ext (.s 28) 0,none⟩,
    ⟨some 42,.ext (.s 28) 1,none⟩,
    ⟨some 9,.mv (.s 41),none⟩,
    ⟨some 10,.mv (.s 42),none⟩] [1,2,7,8,9,22])
 (.seq (.seq (.region [⟨some 43,.mv (.s 8),none⟩,
    ⟨some 44,.mv (.s 9),none⟩,
    ⟨some 45,.bad 7 1,none⟩,
    ⟨some 46,.ld (.s 45),none⟩,
    ⟨some 47,.iad (.s 44) (.s 46) 4,none⟩,
    ⟨some 48,.fad (.s 47) 1,none⟩,
    ⟨some 49,.ld (.s 48),none⟩,
    ⟨some 50,.bin (.i) .lss (.s 43) (.s 49),none⟩,
    ⟨some 51,.mv (.s 50),none⟩,
    ⟨some 52,.mv (.s 8),some (51,false)⟩,
    ⟨some 53,.mv (.s 9),some (51,false)⟩,
    ⟨some 54,.bad 7 1,some (51,false)⟩,
    ⟨some 55,.ld (.s 54),some (51,false)⟩,
    ⟨some 56,.iad (.s 53) (.s 55) 4,some (51,false)⟩,
    ⟨some 57,.fad (.s 56) 2,some (51,false)⟩,
    ⟨some 58,.ld (.s 57),some (51,false)⟩,
    ⟨some 59,.bin (.i) .gtr (.s 52) (.s 58),some (51,false)⟩,
    ⟨some 60,.pick (.s 51) (.c (.bool true)) (.s 59),none⟩] [1,2,7,8,22,60])
 (.cond (.s 60) (.seq (.region [⟨some 4,.mv (.c (.int .i64 6)),none⟩] [1,4])
 .ret)
 (.skip [1,2,7,8,22])))
 (.draw [61,62,63,64,65,66,67,68,69,70,71,72,73] [⟨some 61,.bad 1 0,none⟩,
    ⟨some 62,.fad (.s 61) 0,none⟩,
    ⟨some 63,.fad (.s 62) 31,none⟩,
    ⟨some 64,.fad (.s 63) 2,none⟩,
    ⟨some 65,.lan (.s 64),none⟩,
    ⟨some 66,.bad 7 0,none⟩,
    ⟨some 67,.ld (.s 66),none⟩,
    ⟨some 68,.nia (.s 65) (.s 67),none⟩,
    ⟨some 69,.nld (.s 68),none⟩,
    ⟨some 70,.bad 7 1,none⟩,
    ⟨some 71,.ld (.s 70),none⟩,
    ⟨some 72,.mv (.s 8),none⟩,
    ⟨some 73,.nia (.s 69) (.s 71),none⟩,
    ⟨none,.nst (.s 73) (.s 72),none⟩] [1,2,22]))))) ⟨fun e=>∃b,r=.next b/\Rn (e.hT [1,2,22]) [(1,.bx (DA (MU s b))),(2,.tv (.pt (AN t).cells)),(22,.mx (.mi (some p) a))],fun _ _=>False,fun e=>∃v,r=.ret v/\Rn e [(1,.bx (DA (MU s V))),(4,.tv (eI 6))]⟩ [(1,.bx (DA (MU s V))),(2,.tv (.pt (AN t).cells)),(22,.mx (.mi (some p) a))]:=by
  unfold Lx at h;exact au
noncomputable def WN:PC:=(.seq (.region [⟨some 2,.Abt (.s 0),none⟩,
    ⟨some 4,.mv (.c (.int .i64 0)),none⟩] [1,2])
 (.seq (.region [⟨some 12,.bad 1 0,none⟩,
    ⟨some 13,.fad (.s 12) 0,none⟩,
    ⟨some 14,.lda (.s 13) 38,none⟩,
    ⟨some 15,.AaQ 303 [.s 14],none⟩,
    ⟨some 11,.mvm 15,none⟩,
    ⟨some 16,.ext (.s 11) 0,none⟩,
    ⟨some 17,.ext (.s 11) 1,none⟩,
    ⟨some 5,.mv (.s 16),none⟩,
    ⟨some 6,.mv (.s 17),none⟩] [1,2,5,6,15])
 (.seq (.seq (.region [⟨some 18,.mv (.s 6),none⟩,
    ⟨some 19,.bin (.i) .neq (.s 18) (.c (.int .i64 0)),none⟩] [1,2,5,6,15,19])
 (.cond (.s 19) (.seq (.region [⟨some 20,.mv (.s 6),none⟩,
    ⟨some 4,.mv (.s 20),none⟩] [1,4])
 .ret)
 (.skip [1,2,5,15])))
 (.seq (.seq (.region [⟨some 21,.mv (.s 5),none⟩,
    ⟨some 22,.z5 15 (.s 21),none⟩] [1,2,22])
 (.block 0 (.loop [1,2,22] (.seq (.region [⟨some 23,.mnx 22,none⟩,
    ⟨some 24,.ext (.s 23) 0,none⟩] [1,2,22,24])
 (.seq (.cond (.s 24) (.skip [1,2,22])
 (.exit 0 [1]))
 (.block 1 (.seq (.region [⟨some 25,.men 22,none⟩,
    ⟨some 26,.ext (.s 25) 0,none⟩,
    ⟨some 27,.ext (.s 25) 1,none⟩,
    ⟨some 7,.alc [⟨false,.int .i64 0⟩,⟨false,.int .i64 0⟩],none⟩,
    ⟨none,.stb 2 7 (.s 26),none⟩,
    ⟨some 8,.mv (.s 27),none⟩] [1,2,7,8,22])
 (.seq (.draw [9,10,28,29,30,31,32,33,34,35,36,37,38,39,40,41,42] [⟨some 29,.lda (.s 2) 2,none⟩,
    ⟨some 30,.bad 1 0,none⟩,
    ⟨some 31,.fad (.s 30) 0,none⟩,
    ⟨some 32,.fad (.s 31) 31,none⟩,
    ⟨some 33,.fad (.s 32) 0,none⟩,
    ⟨some 34,.fad (.s 33) 0,none⟩,
    ⟨some 35,.ld (.s 34),none⟩,
    ⟨some 36,.bad 7 0,none⟩,
    ⟨some 37,.ld (.s 36),none⟩,
    ⟨some 38,.iad (.s 35) (.s 37) 1,none⟩,
    ⟨some 39,.ld (.s 38),none⟩,
    ⟨some 40,.call 111 [.s 29,.s 39],none⟩,
    ⟨some 28,.mv (.s 40),none⟩,
    ⟨some 41,.ext (.s 28) 0,none⟩,
    ⟨some 42,.ext (.s 28) 1,none⟩,
    ⟨some 9,.mv (.s 41),none⟩,
    ⟨some 10,.mv (.s 42),none⟩] [1,2,7,8,9,22])
 (.seq (.seq (.region [⟨some 43,.mv (.s 8),none⟩,
    ⟨some 44,.mv (.s 9),none⟩,
    ⟨some 45,.bad 7 1,none⟩,
    ⟨some 46,.ld (.s 45),none⟩,
    ⟨some 47,.iad (.s 44) (.s 46) 4,none⟩,
    ⟨some 48,.fad (.s 47) 1,none⟩,
    ⟨some 49,.ld (.s 48),none⟩,
    ⟨some 50,.bin (.i) .lss (.s 43) (.s 49),none⟩,
    ⟨some 51,.mv (.s 50),none⟩,
    ⟨some 52,.mv (.s 8),some (51,false)⟩,
    ⟨some 53,.mv (.s 9),some (51,false)⟩,
    ⟨some 54,.bad 7 1,some (51,false)⟩,
    ⟨some 55,.ld (.s 54),some (51,false)⟩,
    ⟨some 56,.iad (.s 53) (.s 55) 4,some (51,false)⟩,
    ⟨some 57,.fad (.s 56) 2,some (51,false)⟩,
    ⟨some 58,.ld (.s 57),some (51,false)⟩,
    ⟨some 59,.bin (.i) .gtr (.s 52) (.s 58),some (51,false)⟩,
    ⟨some 60,.pick (.s 51) (.c (.bool true)) (.s 59),none⟩] [1,2,7,8,22,60])
 (.cond (.s 60) (.seq (.region [⟨some 4,.mv (.c (.int .i64 6)),none⟩] [1,4])
 .ret)
 (.skip [1,2,7,8,22])))
 (.draw [61,62,63,64,65,66,67,68,69,70,71,72,73] [⟨some 61,.bad 1 0,none⟩,
    ⟨some 62,.fad (.s 61) 0,none⟩,
    ⟨some 63,.fad (.s 62) 31,none⟩,
    ⟨some 64,.fad (.s 63) 2,none⟩,
    ⟨some 65,.lan (.s 64),none⟩,
    ⟨some 66,.bad 7 0,none⟩,
    ⟨some 67,.ld (.s 66),none⟩,
    ⟨some 68,.nia (.s 65) (.s 67),none⟩,
    ⟨some 69,.nld (.s 68),none⟩,
    ⟨some 70,.bad 7 1,none⟩,
    ⟨some 71,.ld (.s 70),none⟩,
    ⟨some 72,.mv (.s 8),none⟩,
    ⟨some 73,.nia (.s 69) (.s 71),none⟩,
    ⟨none,.nst (.s 73) (.s 72),none⟩] [1,2,22]))))))))))
 (.seq (.region [⟨some 4,.mv (.c (.int .i64 0)),none⟩] [1,4])
 .ret)))))
theorem pv:CK f240 WN [.tmp 4]:=by decide +kernel
theorem qO:PC.Aad WN=true/\PC.Aaf 1 WN=true:=by decide +kernel
variable{t:AC}{s:Ar}
theorem Zt{p:(Int×Int)×Int}{b:Bool}(h:Ly t s p=some b){V:List Fp}(a:LQ V s.wi.fd):
    (b=true->Lx t s V p=some (.next (CS V p)))/\(b=false->Lx t s V p=some (.ret ())):=by
  unfold Ly Lx at h;unfold Lx;obtain⟨c,d,h⟩:=bind_some h;obtain⟨q,f,d⟩:=bind_some d;obtain⟨r,g,d⟩:=bind_some d;obtain⟨u,i,d⟩:=bind_some d;obtain⟨j,k,d⟩:=bind_some d;simp only[f,g,i,Option.bind_some]at *;rw[k,Option.bind_some];cases j with
  |true=>
    simp only[if_true,o4]at d|-;subst d;simp only[o4]at h;subst h;exact⟨fun e=>(by cases e),fun _=>trivial⟩
  |false=>
    simp only[Bool.false_eq_true,if_false]at d|-;obtain⟨v,l,d⟩:=bind_some d;obtain⟨w,m,d⟩:=bind_some d;cases d;simp only[o4]at h;subst h;obtain⟨x,x',n,o⟩:=a.idx l m;refine⟨fun _=>?_,fun e=>(by cases e)⟩;rw[n,Option.bind_some,o,Option.bind_some,Wy n o]
theorem bZ{a:BE}{c:Bool}(m:a.Dis)(f:AaP (Ly t s) a=some c){L y:AB->Prop}{x:Nat->AB->Prop}{d:AB->Prop}
    (k:c=true->y [(1,.bx (DA (MU s (a.foldl CS s.wi.fd))))])(g:c=false->∀V,d [(1,.bx (DA (MU s V))),(4,.tv (eI 6))]):
    WP (AQ Go.Proofs.Tryz.prog) (.loop [1,2,22] (.seq (.region [⟨some 23,.mnx 22,none⟩,
    ⟨some 24,.ext (.s 23) 0,none⟩] [1,2,22,24])
 (.seq (.cond (.s 24) (.skip [1,2,22])
 (.exit 0 [1]))
 (.block 1 (.seq (.region [⟨some 25,.men 22,none⟩,
    ⟨some 26,.ext (.s 25) 0,none⟩,
    ⟨some 27,.ext (.s 25) 1,none⟩,
    ⟨some 7,.alc [⟨false,.int .i64 0⟩,⟨false,.int .i64 0⟩],none⟩,
    ⟨none,.stb 2 7 (.s 26),none⟩,
    ⟨some 8,.mv (.s 27),none⟩] [1,2,7,8,22])
 (.seq (.draw [9,10,28,29,30,31,32,33,34,35,36,37,38,39,40,41,42] [⟨some 29,.lda (.s 2) 2,none⟩,
    ⟨some 30,.bad 1 0,none⟩,
    ⟨some 31,.fad (.s 30) 0,none⟩,
    ⟨some 32,.fad (.s 31) 31,none⟩,
    ⟨some 33,.fad (.s 32) 0,none⟩,
    ⟨some 34,.fad (.s 33) 0,none⟩,
    ⟨some 35,.ld (.s 34),none⟩,
    ⟨some 36,.bad 7 0,none⟩,
    ⟨some 37,.ld (.s 36),none⟩,
    ⟨some 38,.iad (.s 35) (.s 37) 1,none⟩,
    ⟨some 39,.ld (.s 38),none⟩,
    ⟨some 40,.call 111 [.s 29,.s 39],none⟩,
    ⟨some 28,.mv (.s 40),none⟩,
    ⟨some 41,.ext (.s 28) 0,none⟩,
    ⟨some 42,.ext (.s 28) 1,none⟩,
    ⟨some 9,.mv (.s 41),none⟩,
    ⟨some 10,.mv (.s 42),none⟩] [1,2,7,8,9,22])
 (.seq (.seq (.region [⟨some 43,.mv (.s 8),none⟩,
    ⟨some 44,.mv (.s 9),none⟩,
    ⟨some 45,.bad 7 1,none⟩,
    ⟨some 46,.ld (.s 45),none⟩,
    ⟨some 47,.iad (.s 44) (.s 46) 4,none⟩,
    ⟨some 48,.fad (.s 47) 1,none⟩,
    ⟨some 49,.ld (.s 48),none⟩,
    ⟨some 50,.bin (.i) .lss (.s 43) (.s 49),none⟩,
    ⟨some 51,.mv (.s 50),none⟩,
    ⟨some 52,.mv (.s 8),some (51,false)⟩,
    ⟨some 53,.mv (.s 9),some (51,false)⟩,
    ⟨some 54,.bad 7 1,some (51,false)⟩,
    ⟨some 55,.ld (.s 54),some (51,false)⟩,
    ⟨some 56,.iad (.s 53) (.s 55) 4,some (51,false)⟩,
    ⟨some 57,.fad (.s 56) 2,some (51,false)⟩,
    ⟨some 58,.ld (.s 57),some (51,false)⟩,
    ⟨some 59,.bin (.i) .gtr (.s 52) (.s 58),some (51,false)⟩,
    ⟨some 60,.pick (.s 51) (.c (.bool true)) (.s 59),none⟩] [1,2,7,8,22,60])
 (.cond (.s 60) (.seq (.region [⟨some 4,.mv (.c (.int .i64 6)),none⟩] [1,4])
 .ret)
 (.skip [1,2,7,8,22])))
 (.draw [61,62,63,64,65,66,67,68,69,70,71,72,73] [⟨some 61,.bad 1 0,none⟩,
    ⟨some 62,.fad (.s 61) 0,none⟩,
    ⟨some 63,.fad (.s 62) 31,none⟩,
    ⟨some 64,.fad (.s 63) 2,none⟩,
    ⟨some 65,.lan (.s 64),none⟩,
    ⟨some 66,.bad 7 0,none⟩,
    ⟨some 67,.ld (.s 66),none⟩,
    ⟨some 68,.nia (.s 65) (.s 67),none⟩,
    ⟨some 69,.nld (.s 68),none⟩,
    ⟨some 70,.bad 7 1,none⟩,
    ⟨some 71,.ld (.s 70),none⟩,
    ⟨some 72,.mv (.s 8),none⟩,
    ⟨some 73,.nia (.s 69) (.s 71),none⟩,
    ⟨none,.nst (.s 73) (.s 72),none⟩] [1,2,22])))))))) ⟨L,fun j e=>if j=0 then y e else x j e,d⟩ [(1,.bx (DA s)),(2,.tv (.pt (AN t).cells)),(22,.mx (.mi none a))]:=by
  obtain ⟨m1,Q⟩:=UN f;refine⟨kX _ (σ:=List Fp×Option ((Int×Int)×Int)×BE) (fun σ=>[(1,.bx (DA (MU s σ.1))),(2,.tv (.pt (AN t).cells)),(22,.mx (.mi σ.2.1 σ.2.2))])
    (fun σ=>LQ σ.1 s.wi.fd/\(∀l,σ.2.2.Perm l->l.foldl CS σ.1=a.foldl CS s.wi.fd)/\(∀p∈σ.2.2,p∈a)/\(c=false->∃p∈σ.2.2,Ly t s p=some false))
    (fun σ=>σ.2.2.length) (s.wi.fd,none,a) rfl ⟨rfl,fun l z=>Ty m z _,fun p o=>o,Q⟩ ?_⟩
  rintro ⟨V,last,r⟩ ⟨H,I,J,K⟩ U;refine WP.out (?_:WP _ _ _ _);apply JW;apply N4;refine rd rfl (by decide) (fun e=>?_) (fun p n o=>?_)
  · simp only at e
    subst e;have O:c=true:=by
      cases c with
      |true=>rfl|false=>obtain⟨p,o,_⟩:=K rfl;cases o
    have P:V=a.foldl CS s.wi.fd:=I [] (List.Perm.refl _);apply Qk;exact rfl;exact rfl;apply Li;(focus (repeat(first|exact HU|(apply Jc;exact rfl)|(apply JZ;exact rfl)|(apply Ja;exact rfl)|(apply Jd;exact rfl)|(apply Jb;exact rfl))));intro B;apply JW;apply Pg;exact rfl;exact rfl;apply bG;(focus (repeat(first|exact HU|(apply Jc;exact rfl)|(apply JZ;exact rfl)|(apply Ja;exact rfl)|(apply Jd;exact rfl)|(apply Jb;exact rfl))));show(if(0:Nat)=0 then y [(1,.bx (DA (MU s V)))]else x 0 [(1,.bx (DA (MU s V)))]);rw[a6 rfl,P];exact k O
  · apply Qk;exact rfl;exact rfl
    apply Li;(focus (repeat(first|exact HU|(apply Jc;exact rfl)|(apply JZ;exact rfl)|(apply Ja;exact rfl)|(apply Jd;exact rfl)|(apply Jb;exact rfl))));intro B;apply JW;apply Ph;exact rfl;exact rfl;apply Wd;(focus (repeat(first|exact HU|(apply Jc;exact rfl)|(apply JZ;exact rfl)|(apply Ja;exact rfl)|(apply Jd;exact rfl)|(apply Jb;exact rfl))));intro N;have C:p∈r:=o.mem_iff.2 (by simp);obtain⟨b,G,D⟩:=m1 p (J p C);obtain⟨R,S⟩:=Zt G H;cases b with
    |true=>
      refine ⟨PC.qo _ _ _ _ (VM t s V p n _ (R rfl)).out _ (fun e he=>?_) (fun _ _ h=>h.elim) (fun e he=>?_)⟩
      · obtain⟨T,w,E⟩:=he
        cases w;refine⟨(CS V p,some p,n),E.out,⟨(VL V p).trans H,fun l z=>?_,fun q A=>J q (o.mem_iff.2 (by simp[A])),fun M=>?_⟩,?_⟩
        .exact I (p::l) (o.trans (z.cons p))
        · obtain⟨q,A,u⟩:=K M
          rcases List.mem_cons.1 (o.mem_iff.1 A)with rfl|F
          .rw[G]at u;cases u
          .exact⟨q,F,u⟩
        · have:=o.length_eq
          simp only[c7]at this;show n.length<r.length;omega
      · obtain⟨v,w,_⟩:=he
        cases w
    |false=>
      refine ⟨PC.qo _ _ _ _ (VM t s V p n _ (S rfl)).out _ (fun e he=>?_) (fun _ _ h=>h.elim) (fun e he=>?_)⟩
      · obtain⟨T,w,_⟩:=he
        cases w
      · obtain⟨v,_,E⟩:=he
        rw [E.out];exact g (by cases c with|false=>rfl|true=>exact absurd (D rfl) (by simp)) V
instance yr(t:AC)(s:Ar):Ct Go.Proofs.Tryz.prog (Ig t s) 240 [AN t,.undef] (fun r=>.bo (DA s) (if(!decide (r.1=0))=true then(DA r.2).set 33 ⟨false,.undef⟩else DA r.2) 1 [eI r.1]):=sS pv qO fun r h u k=>by
  unfold WN;unfold Ig at h;obtain⟨a,p,h⟩:=bind_some h;have d:=(inferInstance:Ct Go.Proofs.Tryz.prog (G7 s) 303 [Yr s] L5).snd a p;apply JW;apply N4;apply cu;exact rfl;exact rfl;apply N1;exact rfl;apply Li;(focus (repeat(first|exact HU|(apply Jc;exact rfl)|(apply JZ;exact rfl)|(apply Ja;exact rfl)|(apply Jd;exact rfl)|(apply Jb;exact rfl))));intro l;apply JW;apply N4
  first|(apply hU;exact rfl)|(apply ct;exact rfl)
  first|(apply iA;exact rfl)|(apply cw;exact rfl;exact rfl)
  apply WX;exact rfl;exact rfl;exact rfl;by_cases he:a.2=0
  · have e:L5 a=.mpr a.1 [.int .i64 a.2]:=a6 he
    rw [e]at d;rw[ae (by simp[he])]at h;split at h
    · rename_i hd
      have hd:BE.Dis a.1:=(show List.Pairwise (fun x y:(Int×Int)×Int=>x.1≠y.1) a.1 from of_decide_eq_true hd);obtain⟨c,q,h⟩:=bind_some h;refine fN rfl d (fun b=>?_);apply cy;exact rfl;apply Qk;exact rfl;exact rfl;apply Qk;exact rfl;exact rfl;apply N1;exact rfl;apply N1;exact rfl;apply Li;(focus (repeat(first|exact HU|(apply Jc;exact rfl)|(apply JZ;exact rfl)|(apply Ja;exact rfl)|(apply Jd;exact rfl)|(apply Jb;exact rfl))));intro g;apply JW;apply JW;apply N4;apply N1;exact rfl;apply aW;exact rfl;exact rfl;apply Li;(focus (repeat(first|exact HU|(apply Jc;exact rfl)|(apply JZ;exact rfl)|(apply Ja;exact rfl)|(apply Jd;exact rfl)|(apply Jb;exact rfl))));intro i;apply Pg;exact rfl;simp[he];apply Wd;(focus (repeat(first|exact HU|(apply Jc;exact rfl)|(apply JZ;exact rfl)|(apply Ja;exact rfl)|(apply Jd;exact rfl)|(apply Jb;exact rfl))));intro j;apply JW;apply JW;apply N4;apply N1;exact rfl;apply iE;exact rfl;exact rfl;decide;apply Li;(focus (repeat(first|exact HU|(apply Jc;exact rfl)|(apply JZ;exact rfl)|(apply Ja;exact rfl)|(apply Jd;exact rfl)|(apply Jb;exact rfl))));intro m;apply Yh;refine bZ hd q (fun f=>?_) (fun f V=>?_)
      · intro n
        apply JW;apply N4;apply N1;exact rfl;apply Li;(focus (repeat(first|exact HU|(apply Jc;exact rfl)|(apply JZ;exact rfl)|(apply Ja;exact rfl)|(apply Jd;exact rfl)|(apply Jb;exact rfl))));intro o;apply Zj;rw[a6 f]at h;cases h;exact⟨_,Wk.refl _,rfl,rfl⟩
      · rw[ae (by simp[f])]at h
        cases h;refine⟨_,?_,rfl,rfl⟩;exact Wk.set (DA (MU s V)) 33
    .cases h
  · have e:L5 a=.tp [.undef,.int .i64 a.2]:=ae he
    rw [e]at d;rw[a6 (by simp[he])]at h;refine fM rfl d ?_;apply cx;exact rfl;apply Qk;exact rfl;exact rfl;apply Qk;exact rfl;exact rfl;apply N1;exact rfl;apply N1;exact rfl;apply Li;(focus (repeat(first|exact HU|(apply Jc;exact rfl)|(apply JZ;exact rfl)|(apply Ja;exact rfl)|(apply Jd;exact rfl)|(apply Jb;exact rfl))));intro g;apply JW;apply JW;apply N4;apply N1;exact rfl;apply aW;exact rfl;exact rfl;apply Li;(focus (repeat(first|exact HU|(apply Jc;exact rfl)|(apply JZ;exact rfl)|(apply Ja;exact rfl)|(apply Jd;exact rfl)|(apply Jb;exact rfl))));intro i;apply Ph;exact rfl;simp[he];apply JW;apply N4;apply N1;exact rfl;apply N1;exact rfl;apply Li;(focus (repeat(first|exact HU|(apply Jc;exact rfl)|(apply JZ;exact rfl)|(apply Ja;exact rfl)|(apply Jd;exact rfl)|(apply Jb;exact rfl))));intro j;apply Zj;cases h;simp only[he,decide_false,Bool.not_false,if_true];exact⟨_,Wk.set (DA s) 33,rfl,rfl⟩
instance uy(t:AC)(b:gp)(a:AG)(m:AL):Ct prog (Iy t b a m) 177 [AN t,Bs b,Bl a,Be m] (fun r=>.tp [Lu r.1,eI r.2]):=Fj f177 0x81f626440f3e38f61446b636731f42580b6c5a1f4238f60114ca01528452cb024a244203e7fe7c22427c377c0d427c0b420b3673d10ee26c2242c46c0d426c0b420b6c5ad1024a224203e75b0b7c370e590bc43f14c915e7640e64eb38f6144688d6f60114468530816f030f426464a5104272c189f601144685309f0bfca9550b42a989f60114ca9f0afca9a9eac189f60114ca0e6464eb8413c9609b [.stq 38 [none,none,none,none,none,none,none,none,none,none,none,none,none,none,none,none,none,none,none,none,none,none,none,none,none,none,none,none,none,none,none,some ⟨true,.list 1 []⟩,some ⟨true,.list 3 []⟩,some ⟨true,.xn []⟩,none,none,none,none] (.s 15) (.s 82)] [.cell 8 (some 38),.tmp 9] (h:=fun r h c d=>by
  unfold Iy at h;exact nz)
instance uH(t:AC)(b:gp)(a:AG)(m:AL):Ct prog (Hh t b a m) 126 [AN t,Bs b,Bl a,Be m] (fun r=>.tp [Lu r.1,eI r.2]):=Fj f126 0x81f6650e6464eb89f60114ca0e64eb8413c9609b [] [.cell 8 (some 38),.tmp 9] (h:=fun r h c d=>by
  unfold Hh at h;exact nz)
instance c85(t:AC)(a:List gp)(b:AG)(m:zt):Ct prog (C4 t a b m) 85 [AN t,(eL 25 Bs) a,Bl b,Et m] (fun r=>.tp [Lu r.1,eI r.2]):=Fj f85 0x8013b81f6650e64c164eb19439089f61446b601f29013c9936030 [] [.cell 8 (some 38),.tmp 9] (h:=fun r h c d=>by
  unfold C4 at h;exact nz)
instance zc(t:AC)(a:List gp)(d:AW):Ct prog (Cq t a d) 46 [AN t,(eL 25 Bs) a,De d] (fun r=>.tp [(eL 38 Lu) r.1,eI r.2.1,eI r.2.2]):=Fj f46 0x7f820bd70a0121201f0b0a3607be0b013b9d02641f4226482647264402388126c03063f613fcb164d2d58106c9b1d80af121201f0b0a3607c803429d05c9643726c0388126c0c3b4388126c07e6437d23026406030 [] [.tmp 6,.tmp 7,.tmp 8] (h:=fun r h e f=>by
  unfold Cq at h;have:HA 0 33 32 0 fun(c:Int)(b:List Ar×AG)=>[(10,.ow ((eL 38 Lu) b.1)),(11,.bx [⟨false,lI b.2.d4.ci⟩,⟨false,lE b.2.d4.d3⟩,⟨false,(eL 1 lI) b.2.fd⟩]),(33,.tv (eI c))]:=⟨⟩;exact nz)
instance ze(a:AU):Ct prog (Dv a) 47 [B3 a] (fun r=>.sh (eI r)):=Fj f47 0x920c0b0af9cdc65ee4f3add6b6764137ad5c815e62610c0b0af9c8e338c3a875a2 [] [.tmp 2] (h:=fun r h c d=>by
  unfold Dv at h;have:HA 0 12 11 0 fun(b:Int)(_:Unit)=>[(12,.tv (eI b))]:=⟨⟩;exact nz)
instance zB(t:AC)(a:List gp)(b:AU):Ct prog (CX t a b) 15 [AN t,(eL 25 Bs) a,B3 b] (fun r=>.sh (eI r)):=Fj f15 0x810e723870d7116fb1df846030 [] [.tmp 6] (h:=fun r h c d=>by
  unfold CX at h;exact nz)
instance zi(a:AU):Ct prog (GM a) 51 [B3 a] (fun r=>.tp [B3 r.1,eI r.2]):=Fj f51 0xdb72f7047545e4a8754a03413704455ee4f37641377704c90e72387706ca0ba87504c9a2 [] [.cell 2 (some 5),.tmp 3] (h:=fun r h b c=>by
  unfold GM at h;exact nz)
instance zH(t:AC)(a:List gp)(b:AU):Ct prog (Dp t a b) 19 [AN t,(eL 25 Bs) a,B3 b] (fun r=>.tp [B3 r.1,eI r.2]):=Fj f19 0xdb650e7238770106ca0e72018404c96030 [] [.cell 6 (some 5),.tmp 7] (h:=fun r h c d=>by
  unfold Dp at h;exact nz)
instance zK(a:AU):Ct prog (KZ a) 29 [B3 a] (fun r=>.tp [B3 r.1,eI r.2]):=Fj f29 0xdb72f70475e10b76413704e3055004c91b7238770646c3f338770106ca0e72f9c9a2 [] [.cell 2 (some 5),.tmp 3] (h:=fun r h b c=>by
  unfold KZ at h;exact nz)
instance zL(a:AU):Ct prog (J9 a) 30 [B3 a] (fun r=>.tp [B3 r.1,eI r.2]):=Fj f30 0xdb72f70475456bf3f37704c90e7238770646c3f338770106ca0e72f9c9a2 [] [.cell 2 (some 5),.tmp 3] (h:=fun r h b c=>by
  unfold J9 at h;exact nz)
instance uL(n:Int):Ct prog (It n) 141 [eI n] (fun r=>.own (lI r)):=Fj f141 0x821836090876be01fb3014d03661090876819514993f3040da [.mkx 1 [.int .i64 0] (.s 5)] [.tmp 2] (h:=fun r h c d=>by
  unfold It at h;have:HA 0 9 8 0 fun(a:Int)(b:Fp)=>[(3,.xo 1 (List.map eI b)),(9,.tv (eI a))]:=⟨⟩;exact nz)
instance c97(g:d4):Ct prog (E1 g) 97 [Aq g] (fun r=>.tp [An r.1,eI r.2]):=Fj f97 0xa63b819f03e7fe0ee2389ff8ca0e840bc9a2 [] [.cell 2 (some 2),.tmp 3] (h:=fun r h a b=>by
  unfold E1 at h;exact nz)
instance zl(g:d4):Ct prog (D5 g) 59 [Aq g] (fun r=>.sh (An r)):=Fj f59 0x9f849f0bfc550bc9a2 [] [.cell 2 (some 2)] (h:=fun r h a b=>by
  unfold D5 at h;exact nz)
instance zm(l:Fp)(a:Fp):Ct prog (Iq l a) 60 [lI l,lI a] (fun r=>.own (lI r)):=Fj f60 0x8218e40c0b8058be0c0b80580c0b80583c01fb5e7114638117de58f10c0b8058819594991a30406202 [] [.tmp 4] (h:=fun r h d e=>by
  unfold Iq at h;have:HA 0 12 11 0 fun(c:Int)(b:Fp)=>[(5,.xo 1 (List.map eI b)),(12,.tv (eI c))]:=⟨⟩;exact nz)
instance zp(a:AG):Ct prog (H3 a) 61 [Bl a] (fun r=>.sh (Bl r)):=Fj f61 0x9d645d02131211f4bef70275e10ef9b2825e5d0261131211f4c8b2035005c93f3f0e7c370ec405c9a2 [.Aay [.w 9,.w 13],.Aay [.g 14 0 2,.g 14 1 2,.z ⟨true,.list 1 []⟩]] [.cell 2 (some 3)] (h:=fun r h d e=>by
  unfold H3 at h;have:HA 0 19 18 0 fun(c:Int)(b:AG)=>[(3,.bx [⟨true,lI b.d4.ci⟩,⟨true,lE b.d4.d3⟩,⟨true,(eL 1 lI) b.fd⟩]),(19,.tv (eI c))]:=⟨⟩;exact nz)
instance zN(t:AC)(a:List gp)(d:AW):Ct prog (FD t a d) 31 [AN t,(eL 25 Bs) a,De d] (fun r=>.tp [Bl r.1,An r.2.1,eI r.2.2]):=Fj f31 0xc5023b819f9d550e64ccc504252423ccc507be0c013b9f9d03e77c22425b0e6c224259641f42f613c926442643ccc50461252423ccc5078d819f9d0bc905c90eea376437389f9df84616ca0182116fb101840bc905c96030 [] [.cell 6 (some 3),.cell 7 (some 2),.tmp 8] (h:=fun r h e f=>by
  unfold FD at h;have:HA 0 37 36 0 fun(c:Int)(b:AG×d5)=>[(12,.bx [⟨false,lI b.1.d4.ci⟩,⟨false,lE b.1.d4.d3⟩,⟨false,(eL 1 lI) b.1.fd⟩]),(13,.bx [⟨false,lI b.2.ci⟩,⟨false,lI b.2.d3⟩]),(37,.tv (eI c))]:=⟨⟩;exact nz)
instance uN(m:AL):Ct prog (KB m) 143 [Be m] (fun r=>.sh (Be r)):=Fj f143 0xa63b9d04e79e03e77c370ec412c9a2 [] [.cell 2 (some 3)] (h:=fun r h a b=>by
  unfold KB at h;exact nz)
instance uM(d:AW):Ct prog (Gf d) 142 [De d] (fun r=>.oag [⟨false,lI r.kg.d4.ci⟩,⟨false,lE r.kg.d4.d3⟩,⟨false,(eL 1 lI) r.kg.fd⟩,⟨true,(eL 4 Et) r.kq⟩]):=Fj f142 0x45004535d02cc0bf4bef703420448044705e764c159040342d506c9b1b85d0261cc0bf4c80342045015c93f0e643715c9a2 [.Aay [.v (.s 8) 0 3,.v (.s 8) 1 3,.v (.s 8) 2 3,.z ⟨true,.list 4 []⟩]] [.cell 2 (some 4)] (h:=fun r h c e=>by
  unfold Gf at h;have:HA 0 13 12 0 fun(b:Int)(a:AW)=>[(3,.bx [⟨false,lI a.kg.d4.ci⟩,⟨false,lE a.kg.d4.d3⟩,⟨false,(eL 1 lI) a.kg.fd⟩,⟨true,(eL 4 Et) a.kq⟩]),(13,.tv (eI b))]:=⟨⟩;exact nz)
instance c98(t:AC)(a:List gp)(d:AW)(m:zt):Ct prog (E0 t a d m) 98 [AN t,(eL 25 Bs) a,De d,Et m] (fun r=>.tp [De r.1,eI r.2]):=Fj f98 0x81d5b1f703420448044705e764c159040342045015c91bb138d50117caf613496fb164d26dd51746816bb481d5011746b35c9f9d0b4905c9116fb1018415c9936030 [] [.cell 8 (some 4),.tmp 9] (h:=fun r h b c=>by
  unfold E0 at h;exact nz)
instance zu(t:AC)(a:List gp)(b:AU)(m:zt):Ct prog (Gd t a b m) 64 [AN t,(eL 25 Bs) a,B3 b,Et m] (fun r=>.tp [B3 r.1,eI r.2]):=Fj f64 0x8013bdb18e7f3b138770106cad515fcb1b1df8404c9936030 [] [.cell 8 (some 5),.tmp 9] (h:=fun r h c d=>by
  unfold Gd at h;exact nz)
instance zk(t:AC)(b:List gp)(c:AU)(a:H8):Ct prog (Fx t b c a) 54 [AN t,(eL 25 Bs) b,B3 c,Yq a] (fun r=>.tp [B3 r.1,eI r.2]):=Fj f54 0xdb06466d77650e72b3db650e72b3db650e72b3db650eb1c172d2b383df04c9936030 [] [.cell 8 (some 5),.tmp 9] (h:=fun r h d e=>by
  unfold Fx at h;exact nz)
instance zJ(t:AC)(a:List gp)(c:AU)(l:List H8):Ct prog (Fw t a c l) 24 [AN t,(eL 25 Bs) a,B3 c,(eL 5 Yq) l] (fun r=>.tp [B3 r.1,eI r.2.1,eI r.2.2]):=Fj f24 0x7f770b58440c087621201f0c08043608be777238db3006ca7704fc7272d2778116c972057d0c08766121201f0c080436088ddb04c90e7238db0646c3d6db0106ca0e72d23004c9603602 [] [.cell 8 (some 5),.tmp 9,.tmp 10] (h:=fun r h e f=>by
  unfold Fw at h;have:HA 0 33 32 0 fun(d:Int)(b:AU×AU)=>[(8,.bx [⟨true,lI b.1.jj.kg.d4.ci⟩,⟨true,lE b.1.jj.kg.d4.d3⟩,⟨true,(eL 1 lI) b.1.jj.kg.fd⟩,⟨true,(eL 4 Et) b.1.jj.kq⟩,⟨true,lI b.1.pr⟩]),(12,.bx [⟨false,lI b.2.jj.kg.d4.ci⟩,⟨false,lE b.2.jj.kg.d4.d3⟩,⟨false,(eL 1 lI) b.2.jj.kg.fd⟩,⟨false,(eL 4 Et) b.2.jj.kq⟩,⟨false,lI b.2.pr⟩]),(33,.tv (eI d))]:=⟨⟩;exact nz)
end Go.Sf.Sc
