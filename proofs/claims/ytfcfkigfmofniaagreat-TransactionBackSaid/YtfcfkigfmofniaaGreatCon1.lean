/- Contracts of the functions. -/
import Derived.Test.YtfcfkigfmofniaaGreatCon0
set_option linter.all false
set_option maxRecDepth 100000
set_option maxHeartbeats 4000000
open List renaming map->u!
namespace Go.Sf.Sc
open Go Go.Sf Go.Proofs.Tryz
instance(a):CT (EG a) 26 [Ba a] rI:=Bl f26 0xa60ce101049d9a056058ec3058e47f41373058898000640ce10104daf1ba0b9b70a5 [] (EG.eq_1 ..) (A3 0 12 11 0)
instance(a):CT (LT a) 304 [HF a] rB:=Fe f304 0xb4fd9efd058401 [] (LT.eq_1 ..)
instance yL(b:ByteArray)(d:Int->K1)(e:FuncId)(a:Fq)[g:∀(c:Int),CT (d c) e (HF c::a) rB]:CT (G3 b d) 305 [eS b,.zv e a] rI:=Bl f305 0xb858ff92036c58ff8a0f123030050c3092deb7 [] (G3.eq_1 ..) (⟨⟩:HW 0 λ(f:Int)=>[(5,.tv (eI f))])
instance(a):CT (Kb a) 307 [HF a] rB:=Fe f307 0xb49e058401 [] (Kb.eq_1 ..)
instance(a):CT (OL a) 306 [HF a] rB:=Fe f306 0xb49e0a0e300e8401 [] (OL.eq_1 ..)
instance(a):CT (Lw a) 344 [HF a] rB:=Fe f344 0xb49efd058401 [] (Lw.eq_1 ..)
instance(a):CT (Hd a) 308 [eS a] (rT eI eI):=Fe f308 0x8958dd8501dd8a05125830050c0158813f0d018401 [.call 305 [.s 6,.c (.zv 344 [])]] (Hd.eq_1 ..)
instance(a):CT (OK a) 309 [eS a] rB:=Fe f309 0xb40e0d013f01050c8401 [.lst 1 [.c (.str ⟨#[45,62]⟩),.c (.str ⟨#[60,61]⟩),.c (.str ⟨#[62,61]⟩),.c (.str ⟨#[61,61]⟩),.c (.str ⟨#[33,61]⟩)]] (OK.eq_1 ..)
instance(a):CT (Jw a) 264 [eS a] (λr=>.tp [eI r.1,eI r.2.1,eI r.2.2]):=Fe f264 0x8189ffdd89053f6181890e618930897461588189015589693f610e6189015589693f610e6112308401 [.call 305 [.s 15,.c (.zv 306 [])],.call 305 [.s 23,.c (.zv 307 [])],.call 310 [.c (.str ⟨#[123,125,40,41,91,93,44,59,58,61,43,45,42,60,62,33,38,124,46,63]⟩),.s 42]] (Jw.eq_1 ..)
instance(a):CT (Kc a) 204 [WT a] (rT eS eB):=Bl f204 0x89f80c0130f85b309e818911740155bfbf0104cb04cb5f3f3f01855b81963fa5 [.mv (.c (.str ⟨#[]⟩)),.bin (.s) .add (.c (.str ⟨#[34]⟩)) (.s 13),.bin (.s) .add (.s 14) (.c (.str ⟨#[34]⟩)),.bin (.s) .eql (.s 16) (.c (.str ⟨#[]⟩)),.mv (.c (.str ⟨#[]⟩))] (Kc.eq_1 ..) (⟨⟩:HJ 12 λ(b:ByteArray)=>[(4,.tv (eS b))])
instance(a):CT (Ds a) 147 [eS a] rB:=Fe f147 0x8161017400468401 [] (Ds.eq_1 ..)
instance(a b):CT (ON a b) 157 [Gq a,.pt (Gq b).cells] rB:=Fe f157 0x81065b76d8 [] (ON.eq_1 ..)
abbrev Q_158(n:Nat):Prop:=∀(t:eb)(a:Int),CT (C7 n t a) 158 [AJ t,eI a] (λr=>.Aai 4 (u! IF r))
theorem ub(n:Nat)(_ih_158:Q_158 n)(t:eb)(a:Int):CT (C7 (n+1) t a) 158 [AJ t,eI a] (λr=>.Aai 4 (u! IF r)):=Fj f158 0x99044f7f41c65b190578030578033c191ac3697ec65b04ce044ed8 [] λh=>by
  unfold C7 at h;have:HJ 14 λ(b:List mh)=>[(5,.xo 4 (u! IF b))]:=⟨⟩;exact nz
theorem ua:∀n:Nat,Q_158 n:=by
  intro n
  induction n with
  |zero=>exact(λt a=>⟨λ_ h=>c?⟩)
  |succ n b=>exact ub n b
instance(t a):CT (MZ t a) 158 [AJ t,eI a] (λr=>.Aai 4 (u! IF r)):=⟨λr h=>by
  obtain ⟨N,b⟩:=Cq h;exact((ua N) t a).snd r (b N (b6 _))⟩
instance(a b):CT (I0 a b) 233 [IF a,.pt (IF b).cells] rB:=Fe f233 0x81065b76d8 [] (I0.eq_1 ..)
instance(a):CT (Iu a) 234 [lB a] rI:=Bl f234 0xa6a70800049dffdd0e30453089a96181800064a7080004a181ba0b8401 [] (Iu.eq_1 ..) (A3 0 10 9 0)
instance(a b):CT (FL a b) 159 [IF a,lA b] rI:=Bl f159 0x81558801060106015ff865bcdb055e850bbcb405dbf8b596055eaabcffdd0e106181a976d8 [] (FL.eq_1 ..) (⟨⟩:HJ 40 λ(c:Bool)=>[(6,.tv (eB c))])
instance(a b):CT (Jz a b) 98 [AJ a,eI b] rI:=Bl f98 0xa672026eaa044530ad044384be72028165bcf3baf3820ec3ffdd65bc890a5896055e890e100445015b89a95b053dd400c9adc676d8 [] (Jz.eq_1 ..) (A3 1 7 6 0)
instance(a b):CT (LU a b) 160 [eI a,.pt (AJ b).cells] rB:=Fe f160 0xb4655b3058b7 [] (LU.eq_1 ..)
instance(a b):CT (OM a b) 162 [IG a,.pt (IG b).cells] rB:=Fe f162 0x81065b76d8 [] (OM.eq_1 ..)
instance(a b):CT (KE a b) 163 [eI a,eI b] rB:=Fe f163 0xb40afd58309efd58b7 [] (KE.eq_1 ..)
instance(a b):CT (Jx a b) 99 [AJ a,eI b] rI:=Bl f99 0x81ff5519015f0aa903d5030570a9ecbc19610a080fb530080f5e61810e100745015e89a95b8110053d074b01c90744077396d8 [] (Jx.eq_1 ..) (⟨⟩:HJ 25 λ(c:Bool)=>[(25,.tv (eB c))])
instance(a):CT (DM a) 62 [AJ a] (rT eS eI):=Hz f62 0x81bf002e2d2c01049d55b85b77c3074bb8c90744077300642e2d2c0104dab9301d1c1b01049d55b85b77c3d4a6c9adc630641d1c1b0104da37ff55bfb46596655b81bf8165763fa5 [.mv (.c (.str ⟨#[]⟩)),.mv (.c (.str ⟨#[]⟩)),.mv (.c (.str ⟨#[]⟩)),.mv (.c (.str ⟨#[]⟩))] (DM.eq_1 ..) (A3 1 29 28 0) (A3 3 46 45 0)
instance(a b):CT (HI a b) 102 [eI a,eI b] rB:=Fe f102 0xb4583058b7 [] (HI.eq_1 ..)
instance(a):CT (Md a) 101 [eI a] rB:=Fe f101 0x81a98401 [] (Md.eq_1 ..)
instance(a b):CT (Ng a b) 105 [Bu a,eI b] rB:=Fe f105 0xb40e58db0a0e585e6b76d8 [] (Ng.eq_1 ..)
instance(a b):CT (Me a b) 104 [Bu a,.pt (Ah b).cells] rB:=Fe f104 0x81a9f06d01d8 [] (Me.eq_1 ..)
instance(a):CT (Cp a) 63 [Ah a] rI:=Fe f63 0x81558e105e55bf5be4966576a5 [.call 100 [.s 14,.c (.zv 101 [])]] (Cp.eq_1 ..)
instance(a b):CT (Ms a b) 167 [eI a,.pt (AJ b).cells] rB:=Fe f167 0xb4655b3058b7 [] (Ms.eq_1 ..)
instance(a b):CT (GB a b) 107 [AJ a,lI b] rI:=Fe f107 0x81558e10017d6901748dd8 [] (GB.eq_1 ..)
instance(t a):CT (ES t a) 106 [AJ t,eI a] (rT lA eI):=gT f106 0x8182180701151407039d014d0354044c0e170354044c01140114b8070164151407de9514991ac35504d677ac018d0440d8 [] (ES.eq_1 ..) (Ay 0 21 20 0 (hX 7 4 IF)) (⟨⟩:HS 31) (⟨⟩:HX 33 λ(a:mh)(v:List ByteArray)=>mh.mk a.mt a.zu a.yr v)
instance(a b c):CT (K0 a b c) 64 [AJ a,eI b,lI c] rI:=Bl f64 0xa623222102049d9a05b58030055ee0d48102c9adc600642322210204a181baf30b30e9c355830241c65bbaf030937802 [] (K0.eq_1 ..) (A3 0 35 34 0)
instance(a b):CT (Lx a b) 169 [AJ a,eI b] (rO lI):=Bl f169 0x82182914580578035f7ec65bff19014fac0119586401057836ce0140d8 [] (Lx.eq_1 ..) (⟨⟩:HW 0 λ(c:Int×Fp)=>[(1,.tv (eI c.1)),(5,.xo 1 (u! eI c.2))])
instance(a b c):CT (Jy a b c) 108 [AJ a,eI b,eI c] rB:=Fe f108 0x810e6b018d937802 [] (Jy.eq_1 ..)
instance(a b c d):CT (IZ a b c d) 65 [AJ a,eI b,eI c,eI d] rB:=Fe f65 0xb40e5d41077396386b7e07739638e45e30fd050eac308d935d0103 [] (IZ.eq_1 ..)
instance(a b):CT (FA a b) 36 [AJ a,Bk b] (rT eI eI):=Hz f36 0x89003e3d3c5d059d55b8ca60b5d9605ed95b3855b8850b5e5b9f81f5f600643e3d3c5d05da0141375d022827265d059ddd307780db3889805d02642827265d05da5c37dd850bd90bb555b877cf55b86901743830a2 [] (FA.eq_1 ..) (A3 0 40 39 0) (A3 2 62 61 0)
instance(a b):CT (Gb a b) 205 [eI a,.pt (AJ b).cells] rB:=Fe f205 0x816576b7 [] (Gb.eq_1 ..)
instance(a b):CT (Gc a b) 206 [Bu a,.pt (AJ b).cells] rB:=Fe f206 0x81655e76d8 [] (Gc.eq_1 ..)
instance(a b c):CT (CU a b c) 207 [eI a,eI b,eI c] rB:=Fe f207 0xb458305830780003 [] (CU.eq_1 ..)
instance(a b c):CT (Fo a b c) 208 [AJ a,BB b,F7 c] (rT IF eB):=Fk f208 0x81d4ad04439655d40146cafa96e9605bd93855d40146ca65d97602c9f7 [] [.cell 6 (some 4),.tmp 7] λr h d e=>by
  unfold Fo at h;exact nz
instance(a b):CT (IE a b) 311 [eI a,Q7 b] rB:=Fe f311 0xb40596f8960a58760576a501 [] (IE.eq_1 ..)
instance(a b):CT (I8 a b) 265 [eI a,GP b] rI:=Fe f265 0x81ff55b4a938034230a98d4261b405760576a501 [] (I8.eq_1 ..)
instance(a b):CT (HE a b) 209 [eI a,lT b] rI:=Bl f209 0xa613121100049daa6f017504c96f054300641312110004a181baf39a9e58b7 [] (HE.eq_1 ..) (A3 0 19 18 0)
instance(a b):CT (C9 a b) 148 [AJ a,BB b] rI:=Bl f148 0x8155a014aaecbc085d3c3b3a085d069d3c3b3a085d063c3b3a085d065fe371bd148571bd9aa97e02700aa905bc7102700861d4024974ad6f38d405c9ad0443085d643c3b3a085d06dabd993fbce49b7065b5e8bc9a0e107e376b10d9aacf7d6901748da2 [.mkx 1 [.bool false] (.s 55)] (C9.eq_1 ..) (Ay 0 60 59 0 (hX 8 1 eB))
instance(a b):CT (OG a b) 267 [eI a,.pt (AJ b).cells] rB:=Fe f267 0x816576b7 [] (OG.eq_1 ..)
instance(a b):CT (OH a b) 268 [Bu a,.pt (AJ b).cells] rB:=Fe f268 0x81655e76d8 [] (OH.eq_1 ..)
instance(a b):CT (Jq a b) 211 [AJ a,Ah b] rB:=Fe f211 0xb4a91096a91076a2 [] (Jq.eq_1 ..)
instance(a b):CT (PJ a b) 270 [F7 a,.pt (F7 b).cells] rB:=Fe f270 0xb4055e96055b76d8 [] (PJ.eq_1 ..)
instance(a b c):CT (LP a b c) 212 [AJ a,BX b,eI c] rI:=Fe f212 0x81558e100445015d41d59a0596f896f87f41d576f8760afa96055e8c06c9380270e9605b715cd538e4715cd576055b073dd405c9adc65d4106706278 [] (LP.eq_1 ..)
instance(a b):CT (Jp a b) 149 [AJ a,BX b] rI:=Bl f149 0xa62f2e5d049daa01eb388197642f2e5d04a15d41d5ffdd655d41d5890a659b410670057f41b97f41d589a9ead538aaea0670a2 [] (Jp.eq_1 ..) (A3 1 47 46 0)
instance(a b):CT (Hy a b) 346 [lI a,eI b] rI:=Bl f346 0xa609a897059d9a05609e30589a5830588980006409a89705a181b7 [] (Hy.eq_1 ..) (A3 0 9 8 0)
instance(a b):CT (LS a b) 347 [lI a,eI b] rB:=Fe f347 0x8161017430b7 [] (LS.eq_1 ..)
instance(a b):CT (Mq a b) 313 [Ah a,Hk b] rI:=Bl f313 0xa61e1d1c5d059d9aa95d41c45e76a97ec45e5b816000641e1d1c5d05dab9aa0b5e5eaaf076a2 [] (Mq.eq_1 ..) (A3 0 30 29 0)
instance(a b):CT (Ep a b) 271 [Ah a,Hk b] rI:=Fe f271 0x810eb1aa8da2 [] (Ep.eq_1 ..)
instance(a b):CT (Ee a b) 213 [Ah a,Hk b] (λr=>.tp [Ah r.1,Ao r.2.1,eI r.2.2]):=Fk f213 0x63023b818c8c04f25e0e5b3808639b2b2a2908bb089de6b9034803476d0401704abd74b5764ab9745e5b9ff5f65e816008639b642b2a2908bb08dab908bb0519181708bb089de6b6cc805b0437816008bb056419181708bb08da37fb558c8c010346024677388df4fba2 [] [.cell 4 (some 2),.cell 5 (some 2),.tmp 6] λr h c d=>by
  unfold Ee at h;have:=Ay 0 25 24 0 λs0:d3=>[(8,.bx [⟨true,lI s0.ca⟩,⟨true,lE s0.ci⟩])];have:=Ay 2 43 42 0 λs2:d3=>[(8,.bx [⟨true,lI s2.ca⟩,⟨true,lE s2.ci⟩])];exact nz
instance(a b c):CT (DK a b c) 214 [Ah a,Ah b,Ao c] rI:=Hz f214 0xa649484763ed9d9a05b560b576055e605e5bba5b5b9f9ff5f5f65ef65ee45e30588980006449484763eddab9637f2c2b2a63ed9dba805b805be45b30588980637f642c2b2a63edda37e45e0b96655bf0aa38aa8df7 [] (DK.eq_1 ..) (A3 0 44 43 0) (A3 2 73 72 0)
instance(a):CT (GR a) 273 [lI a] rI:=Fe f273 0x81152a142914991a8401 [] (GR.eq_1 ..)
instance(a b c):CT (DE a b c) 215 [Ah a,Ah b,Ao c] rB:=Fe f215 0xb4655e0e960a655b0e76050eb18df7 [] (DE.eq_1 ..)
instance(a):CT (LN a) 150 [BX a] rI:=Fe f150 0x81e8380d42ead538aa380d42ead5387d698c8c0849fb1174380b42ea0170a5 [] (LN.eq_1 ..)
instance(a b):CT (KZ a b) 216 [lI a,eI b] (rO lI):=Bl f216 0xef58a80500049da8050004a80500043c78cccbca30b85864a80500048901d6409702 [] (KZ.eq_1 ..) (Ay 0 8 7 0 (hO 5 lI))
instance(a):CT (LM a) 151 [BX a] (rT lI lI):=Fe f151 0x82820e0b7e5cd57e0d420e0b715cd5710d70400140a5 [] (LM.eq_1 ..)
instance(a b c):CT (Lr a b c) 217 [eI a,.pt (AJ b).cells,.pt (Ah c).cells] rB:=Fe f217 0x815d410443805b76780003 [] (Lr.eq_1 ..)
instance(a b c):CT (G9 a b c) 218 [eI a,.pt (Ah b).cells,.pt (AJ c).cells] rB:=Fe f218 0x81a960b55b605e5b5b389ff5f696780003 [] (G9.eq_1 ..)
instance(a b c d):CT (HV a b c d) 152 [AJ a,Ah b,lI c,lI d] rB:=Fe f152 0xb4a91030a91030625d02 [] (HV.eq_1 ..)
instance(a):CT (Ei a) 318 [AI a] rB:=Fe f318 0xb4057f700565ec65b5657e3765d9657ebd0b71bd7509c96f0470a5 [] (Ei.eq_1 ..)
abbrev Aa3(n:Nat):Prop:=∀(c:d5),CT (BJ n c) 274 [AI c] rB
abbrev Aa4(n:Nat):Prop:=∀(k:d5),CT (BW n k) 320 [AI k] rB
theorem ut(n:Nat)(_ih_274:Aa3 n)(_ih_320:Aa4 n)(c:d5):CT (BJ (n+1) c) 274 [AI c] rB:=Fj f274 0xb4083f5e30ff04cb04cb6c8163cb5f0a0eb201581a09fc05911a09fc058163cb5f0a0eb201588163cb5f0a0eb20158c58337890b96a5 [.call 319 [.s 42,.c (.zv 320 [])]] λh=>by
  unfold BJ at h;have:HJ 10 λ(a:Bool)=>[(4,.tv (eB a))]:=⟨⟩;exact nz
theorem uy(n:Nat)(_ih_274:Aa3 n)(_ih_320:Aa4 n)(k:d5):CT (BW (n+1) k) 320 [AI k] rB:=Fj f320 0x81a9b201a5 [] λh=>by
  unfold BW at h;exact nz
theorem nV:∀n:Nat,Aa3 n/\Aa4 n:=by
  intro n
  induction n with
  |zero=>exact⟨(λc=>⟨λ_ h=>c?⟩),(λk=>⟨λ_ h=>c?⟩)⟩
  |succ n a=>exact⟨ut n a.1 a.2,uy n a.1 a.2⟩
instance(c):CT (Gl c) 274 [AI c] rB:=⟨λr h=>by
  obtain ⟨N,a⟩:=Cq h;exact((nV N).1 c).snd r (a N (b6 _))⟩
instance(k):CT (RZ k) 320 [AI k] rB:=⟨λr h=>by
  obtain ⟨N,a⟩:=Cq h;exact((nV N).2 k).snd r (a N (b6 _))⟩
abbrev Q_275(n:Nat):Prop:=∀(c:d5),CT (CC n c) 275 [AI c] (rT eI eI)
theorem uv(n:Nat)(_ih_275:Q_275 n)(c:d5):CT (CC (n+1) c) 275 [AI c] (rT eI eI):=Fj f275 0x8930630263026c855b630103d20b6301069d302c309e8974b2094b0ac9b2094363010364d20b630106dab98930a5 [] λh=>by
  unfold CC at h;have:=Ay 0 13 12 0 λs0:Int×Int=>[(4,.tv (eI s0.1)),(5,.tv (eI s0.2))];have:HJ 31 λ(a:Int)=>[(5,.tv (eI a))]:=⟨⟩;exact nz
theorem uu:∀n:Nat,Q_275 n:=by
  intro n
  induction n with
  |zero=>exact(λc=>⟨λ_ h=>c?⟩)
  |succ n a=>exact uv n a
instance(c):CT (Ix c) 275 [AI c] (rT eI eI):=⟨λr h=>by
  obtain ⟨N,a⟩:=Cq h;exact((uu N) c).snd r (a N (b6 _))⟩
instance(a):CT (E8 a) 219 [AI a] rI:=Fe f219 0x819a9e588974b2e8b201a5 [] (E8.eq_1 ..)
instance(a b):CT (Hj a b) 321 [F7 a,.pt [eI b]] rB:=Fe f321 0xc503710270d8 [] (Hj.eq_1 ..)
instance(a b c):CT (EA a b c) 276 [AJ a,BB b,eI c] rI:=Bl f276 0xa6a804033c083d014b05364b0b4983ff7dca10b50064bc03a80403083d014b0bc901aa6f8d6278 [] (EA.eq_1 ..) (⟨⟩:HW 0 λ(d:Int)=>[(8,.tv (.pt [eI d]))])
abbrev Q_220(n:Nat):Prop:=∀(t:eb)(p:d7)(c:d5),CT (Bz n t p c) 220 [AJ t,BB p,AI c] rI
theorem uh(n:Nat)(_ih_220:Q_220 n)(t:eb)(p:d7)(c:d5):CT (Bz (n+1) t p c) 220 [AJ t,BB p,AI c] rI:=Fj f220 0xa63534330403059daab26f38094b0ac9b209430064353433040305dab9637f637f3c756fe838bdcfcfaa38bdcfcfaabc6f38babcbc7509c96ff1857693bfa5 [.AaF (.s 1)] λh=>by
  unfold Bz at h;have:=A3 0 53 52 0;exact nz
theorem ug:∀n:Nat,Q_220 n:=by
  intro n
  induction n with
  |zero=>exact(λt p c=>⟨λ_ h=>c?⟩)
  |succ n a=>exact uh n a
instance(t p c):CT (Mv t p c) 220 [AJ t,BB p,AI c] rI:=⟨λr h=>by
  obtain ⟨N,a⟩:=Cq h;exact((ug N) t p c).snd r (a N (b6 _))⟩
instance(a b c):CT (DA a b c) 153 [AJ a,BB b,AI c] rI:=Fe f153 0x810eb26f38aab2aa6f8df7 [] (DA.eq_1 ..)
instance(a b):CT (IU a b) 95 [AJ a,BX b] rI:=Fe f95 0x810eb210426fb938e830ead53882e9ebaaebaaeb38aa6fb938e85b7d6901748da2 [] (IU.eq_1 ..)
instance(a b c):CT (Ec a b c) 59 [AJ a,(eL 25 BX) b,Bk c] rI:=Bl f59 0x816101746d38055d1b1a190503059daaeb38194b0cc9eb1943055d641b1a19050305a181baf37d6901748d6230 [] (Ec.eq_1 ..) (A3 0 27 26 0)
instance(a b c):CT (Lu a b c) 154 [AJ a,BX b,Bk c] rI:=Fe f154 0x816101746d38aaeb387d6901748df7 [] (Lu.eq_1 ..)
instance(a b):CT (Km a b) 356 [eI a,.pt (AJ b).cells] rB:=Fe f356 0x816576b7 [] (Km.eq_1 ..)
instance(a b):CT (Kn a b) 357 [Bu a,.pt (AJ b).cells] rB:=Fe f357 0x81655e76d8 [] (Kn.eq_1 ..)
instance(a b):CT (FY a b) 325 [AJ a,Ah b] rB:=Fe f325 0xb4a91096a91076a2 [] (FY.eq_1 ..)
instance(a b c):CT (FI a b c) 279 [AJ a,Ah b,Ah c] rI:=Bl f279 0x819aa9388da9b1637f18171663ed9daa388cfb380243637f6418171663eda102c7b17d6901748df7 [] (FI.eq_1 ..) (A3 0 24 23 0)
instance(a b):CT (It a b) 358 [AJ a,eI b] (rT lI eI):=Bl f358 0x81ef070113120778059d131207780513120778053c78cccb8e3038b80701641312077805a176c07dd677acc33040d8 [] (It.eq_1 ..) (Ay 0 19 18 0 (hO 7 lI))
instance(a):CT (GH a) 326 [AJ a] (rO (eL 1 (eL 1 eB))):=Hz f326 0xef36d236049d78cc1802d20536051c1b1ad20536089d01e301148160d2053605641c1b1ad2053608a1b8e9c3993ff0b83664d23604a176d640a5 [.mkx 1 [.bool false] (.s 18)] (GH.eq_1 ..) (Ay 0 13 12 0 (hO 3 (eL 1 (eL 1 eB)))) (Ay 2 28 27 0 (hX 5 1 eB))
instance(a b c d):CT (GI a b c d) 280 [AJ a,Ah b,Ah c,Ao d] rI:=Hz f280 0xa64746457205069d9a05b560b576055e605e5bba5b5b9f9ff5f5f65ef65ee45e305889800064474645720506dab9720503252423097205079d558860805b608076e45b305889807205036425242309720507da37820e38e45e0b96655b0b7662a2 [] (GI.eq_1 ..) (A3 0 37 36 0) (A3 2 71 70 0)
theorem xX(l:Fp)(r:Bool)(h:Hb l=some r):AX prog 322 [lI l] (.sh (eB r)):=by
  unfold Hb at h;rw[<-nL]at h;split at h
  · rename_i a
    cases h;exact cZ l a
  .cases h
instance yc(l:Fp):Ct Go.Proofs.Tryz.prog (Hb l) 322 [lI l] (rS eB):=⟨xX l⟩
instance(a b c d e):CT (FG a b c d e) 277 [AJ a,Ah b,Ah c,Ao d,eB e] rI:=Fe f277 0x819a0a0e5e6b5b30aab1b1aab18d62620401 [] (FG.eq_1 ..)
instance(a b c):CT (E6 a b c) 323 [AJ a,BB b,Bk c] rI:=Fe f323 0x816101746d38aa6f8df7 [] (E6.eq_1 ..)
instance(a b):CT (EJ a b) 354 [Q7 a,lI b] rI:=Fe f354 0xc55e6076555e8576d8 [] (EJ.eq_1 ..)
instance(a b):CT (GO a b) 377 [eI a,eI b] (rT eI Ig):=Fe f377 0x8901053f01053f013f61816a01283f013f30b7 [.zp .u64 (.s 9),.zp .u64 (.s 11),.bin (.w) .shr (.s 16) (.c (.int .u64 63)),.bin (.w) .shr (.s 18) (.c (.int .u64 63)),.zp .i64 (.s 21)] (GO.eq_1 ..)
instance(a b):CT (Ej a b) 376 [Q7 a,.pt [lI b]] (λr=>.tp [eI r.1,Ig r.2.1,eB r.2.2]):=Fe f376 0x81893089745e605b03ffdd890a650376055b81893089745ec57630d8 [] (Ej.eq_1 ..)
instance(a b):CT (Fw a b) 355 [GP a,lI b] rB:=Fe f355 0xb4fd0576fd055b810eac0e300e309a0830086189116a010f3803426189116a010f8d42611001a2 [] (Fw.eq_1 ..)
instance(a b c):CT (H9 a b c) 324 [BB a,Bk b,Ao c] (rT lI eI):=Hz f324 0x81821808d14b4a08049d7dc08820146f7504c96f05430801644c4b4a0804daf1085d19181709086303089d7dc08501201438bd1918170c0b090863030a1918170c0b090863030a5fe301e3057ebd301401148a0817d1011401588171bd81605e60605b5bb5d405c9ad0443085d641918170908630308dabd99993fbc3fbc3040f7 [.mkx 1 [.int .i64 0] (.s 17),.mkx 1 [.bool false] (.s 20)] (H9.eq_1 ..) (Ay 0 25 24 0 λs0:Fp×a6=>[(8,.xo 1 (u! eI s0.1)),(9,.xo 1 (u! eB s0.2))]) (A3 2 76 75 0)
instance(a b c d):CT (EI a b c d) 278 [AJ a,BB b,Bk c,Ao d] (rT lI eI):=Fe f278 0x81826a0e386d6f7dd677b137cf387dd6776d6f38304062a2 [] (EI.eq_1 ..)
instance(a b c d):CT (JT a b c d) 221 [AJ a,BX b,Bk c,Bf d] rI:=Fe f221 0x81e8db7d69e9cf6d6fb938ba0e030f42cfcfeab98d62a2 [] (JT.eq_1 ..)
instance(a b c d):CT (FH a b c d) 222 [AJ a,Ah b,Ah c,Ao d] (rT Ah eI):=Fk f222 0x818c380c08022726250c0806069de6b6cc805b043781600c0802642726250c080606da370250fb3f0e5e558ccb4677b1b1558ccb4677b18dfb62a2 [.yz [.z ⟨true,.list 1 []⟩,.w 34]] [.cell 8 (some 2),.tmp 9] λr h e f=>by
  unfold FH at h;have:=Ay 0 39 38 0 λs0:d3=>[(12,.bx [⟨true,lI s0.ca⟩,⟨true,lE s0.ci⟩])];exact nz
instance(a):CT (Cr a) 281 [IH a] rI:=Fe f281 0x810e38f1cfaa38d538bd38b6a5 [] (Cr.eq_1 ..)
instance(a b):CT (Fr a b) 327 [lI a,lI b] (rO (eL 2 Q6)):=Hz f327 0xef58a792059da79205a77292076ea7729207a77292073c0202480247054630028a0aa90130a9013005e0e0a79205bea77292078158b85864a79205a1cbc002409702 [] (Fr.eq_1 ..) (Ay 0 10 9 0 (hO 5 (eL 2 Q6))) (Ay 2 7 0 0 (hO 5 (eL 2 Q6)))
instance(a):CT (DZ a) 282 [IH a] (rT (eL 2 Q6) (eL 2 Q6)):=Fe f282 0x82820e7ef17ed50e71f171d502400240a5 [] (DZ.eq_1 ..)
instance(a):CT (DD a) 328 [IH a] (rO lI):=Bl f328 0xef36a70836059da7083605a70836053c78cccbca0171f189803664a7083605da5c0670d640a5 [] (DD.eq_1 ..) (Ay 0 10 9 0 (hO 3 lI))
instance(a):CT (C1 a) 283 [IH a] (rO lI):=Bl f283 0xef0401d20bfc069dd20bfc06d20bfc063c78cccb8a0a0eb5300e5e30a9017ed59f81f5f6040164d20bfc06da01410270c0820e08440140a5 [] (C1.eq_1 ..) (Ay 0 13 12 0 (hO 4 lI))
instance(a b c):CT (GN a b c) 284 [eI a,lI b,lI c] (rO lI):=Hz f284 0xef0a01201f1e0a049d201f1e0a04201f1e0a043c78cccb886181800a0164201f1e0a04a19801c0070111100f0702059d11100f07020511100f0702055fe30114ca30898007016411100f070205a181993f3040780003 [.mkx 1 [.bool false] (.s 13)] (GN.eq_1 ..) (Ay 0 17 16 0 (hX 7 1 eB)) (Ay 2 32 31 0 (hO 10 lI))
instance(a b c d):CT (GX a b c d) 223 [Ah a,Ah b,Hk c,Ao d] (rT Hk eI):=Fk f223 0x8013b818c04f25e5e0b5e0e5b5bf0ff558c034681650e0844818c0346c5faf382e90844558c010346770844084b0dc9064638b18df462a2 [] [.cell 8 (some 2),.tmp 9] λr h e f=>by
  unfold GX at h;exact nz
end Go.Sf.Sc
