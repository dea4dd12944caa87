/- Contracts of the functions. -/
import Derived.Test.YthcncnllajfkfaaGreatCon0
set_option linter.all false
set_option maxRecDepth 100000
set_option maxHeartbeats 4000000
open Option renaming some->Y,none->W
open Bool renaming true->X,false->T
open List renaming map->v5
namespace Go.Sf.Sc
open Go Go.Sf Go.Proofs.Tryz
instance(a):CT (Kg a) 117 [Ay a] (λr=>.zl [⟨X,lI r.dl⟩,⟨X,lE r.d3⟩]):=Fk f117 0xb53b02503f03485a0347014859b307c99300 [.Aag [.w 6,.w 10]] [.cell 2 (Y 2)] λr h b c=>by
  unfold Kg at h;exact nz
instance(a):CT (Iu a) 59 [BY a] (λr=>.zl [⟨X,lI r.dr.dl⟩,⟨X,lE r.dr.d3⟩,⟨X,.xn (v5 lI r.eb)⟩]):=Fk f59 0x35003535b02e2f1761fa92122014f977e015623a95b027f7e01e2f181035016c93f1bcf16c99300 [.Aag [.g 7 0 2,.g 7 1 2,.z ⟨X,.xn []⟩]] [.cell 2 (Y 3)] λr h b c=>by
  unfold Iu at h;have:=A8 0 4 1 2 λs0:AF=>[(3,.bx [⟨X,lI s0.dr.dl⟩,⟨X,lE s0.dr.d3⟩,⟨X,.xn (v5 lI s0.eb)⟩])];exact nz
instance(a b c):CT (EC a b c) 140 [eI a,eI b,eI c] rB:=Fe f140 0x800577057702be [] (EC.eq_1 ..)
abbrev Q_139(n:Nat):Prop:=∀(t:AC)(a:Int),CT (Ea n t a) 139 [AK t,eI a] (rO lA)
theorem z7(n:Nat)(_ih_139:Q_139 n)(t:AC)(a:Int):CT (Ea (n+1) t a) 139 [AK t,eI a] (rO lA):=Fj f139 0x8204488d41e75904480e7de759360447ff04c085f1409330 [] λh=>by
  unfold Ea at h;exact nz
theorem z6:∀n:Nat,Q_139 n:=by
  intro n
  induction n with
  |zero=>exact(λt a=>⟨λ_ h=>c_⟩)
  |succ n b=>exact z7 n b
instance(t a):CT (Nx t a) 139 [AK t,eI a] (rO lA):=⟨λr h=>by
  obtain ⟨N,b⟩:=Cd h;exact((z6 N) t a).snd r (b N (ae _))⟩
instance(a):CT (RU a) 327 [Xz a] (rS eS):=Fe f327 0x815a373f3f5a85593f9300 [.mv (.c (.str ⟨#[]⟩)),.bin (.s) .add (.c (.str ⟨#[34]⟩)) (.s 7),.bin (.s) .add (.s 8) (.c (.str ⟨#[34]⟩))] (RU.eq_1 ..)
instance(a):CT (Mh a) 376 [X0 a] rB:=Fe f376 0x800a05aa300a05aa30d7 [] (Mh.eq_1 ..)
instance(a):CT (J5 a) 377 [X0 a] rB:=Fe f377 0x8005aa30d7 [] (J5.eq_1 ..)
instance(a b c):CT (Mj a b c) 378 [eS a,eI b,eB c] rI:=By f378 0x810107730702a6600107738a0a0a0a05120530300e1205303008300e120530aa0c55300702a681c3be [] (Mj.eq_1 ..) (⟨⟩:HW 0 λ(d:Int)=>[(7,.tv (eI d))])
instance(a b):CT (It a b) 379 [eS a,eI b] rI:=By f379 0xa705be769605aa0137057c12057700610c55aabe81fa [] (It.eq_1 ..) (⟨⟩:HW 0 λ(c:Int)=>[(5,.tv (eI c))])
instance ACs:CT (QS ) 380 [] (rO lB):=Fe f380 0x823f014000 [.lst 1 [.c (.str ⟨#[45,62]⟩),.c (.str ⟨#[60,61]⟩),.c (.str ⟨#[62,61]⟩),.c (.str ⟨#[61,61]⟩),.c (.str ⟨#[33,61]⟩),.c (.str ⟨#[123]⟩),.c (.str ⟨#[125]⟩),.c (.str ⟨#[40]⟩),.c (.str ⟨#[41]⟩),.c (.str ⟨#[91]⟩),.c (.str ⟨#[93]⟩),.c (.str ⟨#[44]⟩),.c (.str ⟨#[59]⟩),.c (.str ⟨#[58]⟩),.c (.str ⟨#[61]⟩),.c (.str ⟨#[43]⟩),.c (.str ⟨#[45]⟩),.c (.str ⟨#[42]⟩),.c (.str ⟨#[60]⟩),.c (.str ⟨#[62]⟩),.c (.str ⟨#[33]⟩),.c (.str ⟨#[38]⟩),.c (.str ⟨#[124]⟩),.c (.str ⟨#[46]⟩),.c (.str ⟨#[63]⟩)]] (QS.eq_1 ..)
instance(a b):CT (Mi a b) 328 [eS a,eI b] (λr=>.tp [Xz r.1,eI r.2.1,eI r.2.2]):=Fk f328 0x9eb21a460401c1045f0576ff04013b9eb20c5d7746bb8a06bb0d050cbb30aa0c550c5d770401f6c1045f05e80ecbb230460d0505aa30cbb21a4685bccbb21af40e308501cbb230460d057730cbb21a4685300acd045f060acd045f063c308e5e9e0e0e778a0e300e5e12303017c95f02 [] [.cell 4 (Y 3),.tmp 5,.tmp 6] λr h d e=>by
  unfold Mi at h;have:HJ 29 λ(c:Int×Int)=>[(9,.tv (eI c.1)),(10,.tv (eI c.2))]:=⟨⟩;have:=A8 0 13 12 0 λs0:HE=>[(4,.bx [⟨T,eI s0.jj⟩,⟨T,eS s0.AbB⟩,⟨T,eI s0.Line⟩])];exact nz
instance(a):CT (Lu a) 254 [Xz a] rB:=Fe f254 0x8005c4ec0c77055e81b217c911750137bf5eed9b00 [.bin (.s) .eql (.s 9) (.c (.str ⟨#[]⟩))] (Lu.eq_1 ..)
instance(a):CT (EZ a) 192 [eS a] rB:=Fe f192 0x810e014630d7 [] (EZ.eq_1 ..)
instance(a):CT (J6 a) 339 [lB a] rI:=I9 f339 0xa703a87603a804f2f03786bbbb03a8613004f20381f3bbe13003a881b90b30d7 [] (J6.eq_1 ..) (BB 0 3 0 0) (BB 2 4 3 0)
instance(a):CT (GR a) 272 [HF a] rI:=Fe f272 0x81960574b77e555ad6b73796a55a7e01a55a850bb79b00 [] (GR.eq_1 ..)
instance(a b):CT (LH a b) 215 [AK a,eI b] rI:=nC f215 0xa7780276d6d504b678020978f037866a04b66a04b67802613009780381f36a04b6e13078028174b7f896743074b7820eb1f3bc5a05b503a2b504763786596ae75905b5036130a2b50481f359044b01c9d5e759fc [] (LH.eq_1 ..) (BB 0 6 1 0) (BB 2 8 7 0) (BB 4 9 8 0)
instance(a b):CT (Lw a b) 273 [eI a,eI b] rB:=Fe f273 0x800a0e7705300ee6 [] (Lw.eq_1 ..)
instance(a b):CT (LG a b) 216 [AK a,eI b] rI:=By f216 0x8196a503c603054272a503acb772a5017e01a5015a817459050202a2b504763786596a07d80502026130a2b50481f359074b02c9074407d8fc [] (LG.eq_1 ..) (BB 0 6 1 0)
instance(a):CT (Eg a) 163 [AK a] (rT eS eI):=I9 f163 0x81bf0006c376cb016a07d86c0eb1e15a0106c3813004c376cb016ae7596c0eb1307f59f1c38137bf8aeb55d937bf85d9013f9300 [.mv (.c (.str ⟨#[]⟩)),.mv (.c (.str ⟨#[]⟩)),.mv (.c (.str ⟨#[]⟩)),.mv (.c (.str ⟨#[]⟩))] (Eg.eq_1 ..) (BB 0 4 1 0) (BB 2 6 1 1)
instance(a b c):CT (IS a b c) 138 [AK a,eI b,eI c] rI:=Fe f138 0x8196a5745930a57459019f0175369bb502 [] (IS.eq_1 ..)
abbrev Q_141(n:Nat):Prop:=∀(t:AC)(a:Int)(b:Int),CT (D0 n t a b) 141 [AK t,eI a,eI b] rB
theorem AAA(n:Nat)(_ih_141:Q_141 n)(t:AC)(a:Int)(b:Int):CT (D0 (n+1) t a b) 141 [AK t,eI a,eI b] rB:=Fj f141 0x800a0e017de7593655aa7793b502 [] λh=>by
  unfold D0 at h;exact nz
theorem z8:∀n:Nat,Q_141 n:=by
  intro n
  induction n with
  |zero=>exact(λt a b=>⟨λ_ h=>c_⟩)
  |succ n c=>exact AAA n c
instance(t a b):CT (Ha t a b) 141 [AK t,eI a,eI b] rB:=⟨λr h=>by
  obtain ⟨N,c⟩:=Cd h;exact((z8 N) t a b).snd r (c N (ae _))⟩
instance(a b c d):CT (Ji a b c d) 89 [AK a,eI b,eI c,eI d] rB:=Fe f89 0x800e5b4107d8b1657d07d8b196a5ebaa0e30369b5b0103 [] (Ji.eq_1 ..)
instance(a):CT (NO a) 189 [eI a] rB:=Fe f189 0x8005aa30d7 [] (NO.eq_1 ..)
instance(a b):CT (QT a b) 190 [BQ a,eI b] rB:=Fe f190 0x80bc7eec7e72bc5aec5a6559fc [] (QT.eq_1 ..)
instance(a):CT (Eh a) 135 [Ay a] rI:=I9 f135 0xa704c376f3d9c8d8e15af1c38130310276f39759307f590131028196eb55d99b00 [] (Eh.eq_1 ..) (BB 0 3 1 0) (BB 2 4 1 1)
instance(a b):CT (FO a b) 88 [AK a,eI b] (rT lA eI):=By f88 0xe80207010978f00204480447d5b54a03420148b7b3044b03c9d504b60701f6097803e80eb104c03704c07c0e3036f1409330 [] (FO.eq_1 ..) (A8 0 9 8 0 (hO 7 lA))
instance(a b c):CT (LJ a b c) 164 [AK a,eI b,lI c] rI:=By f164 0xa7090702f096055b4104b65d77057d04b6bbe1300907020381b9f80b30d1b137830241e759b9d93093b502 [] (LJ.eq_1 ..) (BB 0 9 7 0)
instance(a b):CT (GB a b) 102 [AK a,BY b] (rT eI eI):=I9 f102 0x9e000b5bf0cb01cc5d7ebd5d5abd5936cb0185ee59b2efc890dee1de010b5b03815b02095bf0cb306c0e977e97bd365b027fbd01095b0381cb850bbd0b7ecb7c8c32cb7c0175363091 [] (GB.eq_1 ..) (BB 0 9 3 0) (BB 2 11 3 1)
instance(a b):CT (IV a b) 255 [AK a,Ay b] rB:=I9 f255 0xa7065bf096eb6a03d8556a03d8e15a01065b03815b02055bf096745997595597595b027f59555b0381dc [] (IV.eq_1 ..) (BB 0 5 3 0) (BB 2 6 3 1)
instance(a b c d):CT (LN a b c d) 256 [AK a,BE b,eI c,eI d] (rT HF eB):=Fk f256 0x81044bd504b637044b02468a74770a05aa5ed197bd3637044b02468a74bdaa3003c95c5b02 [] [.cell 8 (Y 4),.tmp 9] λr h e f=>by
  unfold LN at h;exact nz
instance(a):CT (OH a) 257 [eI a] rB:=Fe f257 0x8005aa30d7 [] (OH.eq_1 ..)
instance(a b):CT (Kf a b) 381 [eI a,QI b] rI:=Fe f381 0x8196055aec5a72bc5955599bd7 [] (Kf.eq_1 ..)
instance(a b):CT (Qr a b) 329 [eI a,Dx b] rI:=Fe f329 0x818c0342019f8cad0196055955599bd7 [] (Qr.eq_1 ..)
instance(a b):CT (Nw a b) 258 [eI a,lT b] rI:=By f258 0xa705be76d689054377e1aabe81b9f89605aae6 [] (Nw.eq_1 ..) (BB 0 5 1 0)
instance(a b):CT (Mn a b) 259 [BE a,eI b] rB:=By f259 0xa705b5f0b9016a0241e77ee17e55b50381fc [] (Mn.eq_1 ..) (BB 0 5 2 2)
instance(a b):CT (GE a b) 193 [AK a,BE b] rI:=I9 f193 0xa70d5b76f355440061b7010d5b81d603acb731085bf096a57da9ecb76aa9ec6aa901085e044b0349755a598936044b05c9d5e77e317f7e01085b0381967403ac550b7e9605b755b737888c32369f8c329f017536dc [] (GE.eq_1 ..) (BB 0 8 3 2) (BB 2 13 3 3)
instance(a):CT (Ix a) 383 [AJ a] rB:=Fe f383 0x80058d41acec74030441ac0b5b41ac30ba743171ac74f5ac747da90b6aa99b00 [] (Ix.eq_1 ..)
instance(a):CT (N0 a) 337 [AJ a] rB:=By f337 0x81ff37ebba800ea155ee190401036019040103ba800ea155eeba800ea155eeba83329b00 [] (N0.eq_1 ..) (⟨⟩:HJ 25 λ(b:Bool)=>[(25,.tv (eB b))])
abbrev Q_268(n:Nat):Prop:=∀(c:d5),CT (DL n c) 268 [AJ c] rB
theorem AAW(n:Nat)(_ih_268:Q_268 n)(c:d5):CT (DL (n+1) c) 268 [AJ c] rB:=Fj f268 0xa7310276f3fdd8e15a01310281f3a19b00 [] λh=>by
  unfold DL at h;have:=BB 0 3 1 1;exact nz
theorem AAV:∀n:Nat,Q_268 n:=by
  intro n
  induction n with
  |zero=>exact(λc=>⟨λ_ h=>c_⟩)
  |succ n a=>exact AAW n a
instance(c):CT (NR c) 268 [AJ c] rB:=⟨λr h=>by
  obtain ⟨N,a⟩:=Cd h;exact((AAV N) c).snd r (a N (ae _))⟩
abbrev Q_269(n:Nat):Prop:=∀(c:d5),CT (Dh n c) 269 [AJ c] (rT eI eI)
theorem AAY(n:Nat)(_ih_269:Q_269 n)(c:d5):CT (Dh (n+1) c) 269 [AJ c] (rT eI eI):=Fj f269 0x9e3070027002600185597001030670f176302caa309e75fdd87001037f5a010670f1819e309300 [] λh=>by
  unfold Dh at h;have:=A8 0 6 1 1 λs0:Int×Int=>[(4,.tv (eI s0.1)),(5,.tv (eI s0.2))];have:HJ 33 λ(a:Int)=>[(5,.tv (eI a))]:=⟨⟩;exact nz
theorem AAX:∀n:Nat,Q_269 n:=by
  intro n
  induction n with
  |zero=>exact(λc=>⟨λ_ h=>c_⟩)
  |succ n a=>exact AAY n a
instance(c):CT (OI c) 269 [AJ c] (rT eI eI):=⟨λr h=>by
  obtain ⟨N,a⟩:=Cd h;exact((AAX N) c).snd r (a N (ae _))⟩
instance(a):CT (KD a) 212 [AJ a] rI:=Fe f212 0x819605aa5e8175a1f3a19b00 [] (KD.eq_1 ..)
instance(a b c):CT (IT a b c) 261 [Ay a,Ay b,Ap c] rI:=I9 f261 0xa70ad0047696057e5d7e59555a5d5a59b9c4b2b2efefc843975a5ac8d896eb975a55975ae15a72d00481708d09d00476b997595d97c49674599759559759708d7f590109d0048196ebee55d9d99f8c9f8c9b91 [] (IT.eq_1 ..) (BB 0 9 3 0) (BB 2 10 3 1)
instance(a b):CT (PZ a b) 338 [BE a,eI b] rB:=By f338 0xa705b5f0b9016a0241e77ee17e55b50381fc [] (PZ.eq_1 ..) (BB 0 5 2 2)
instance(a b c):CT (KE a b c) 270 [AK a,eI b,BE c] rI:=By f270 0xa77805f03701cc55440061b7017805038101d68936b901b7015c30 [] (KE.eq_1 ..) (BB 0 8 5 3)
instance(a):CT (F4 a) 196 [lI a] rB:=I9 f196 0xa703a87603a804f2f0b9bbbb03a8613004f203a7f603a8815f01 [] (F4.eq_1 ..) (BB 0 3 0 0) (BB 2 4 3 0)
instance(a b c):CT (Jl a b c) 271 [Ay a,Ay b,Ap c] rB:=Fe f271 0x800e5a720e59558cc59b91 [] (Jl.eq_1 ..)
abbrev Q_213(n:Nat):Prop:=∀(t:AC)(p:d7)(c:d5),CT (D5 n t p c) 213 [AK t,BE p,AJ c] rI
theorem AAO(n:Nat)(_ih_213:Q_213 n)(t:AC)(p:d7)(c:d5):CT (D5 (n+1) t p c) 213 [AK t,BE p,AJ c] rI:=Fj f213 0xa70a0705030476d6fdd88936e15a72070503048107058d07058d3cd489ac37888ca93638accf9f8ca93638accfd689acb7368559d409c9899b91 [] λh=>by
  unfold D5 at h;have:=BB 0 10 5 1;exact nz
theorem AAN:∀n:Nat,Q_213 n:=by
  intro n
  induction n with
  |zero=>exact(λt p c=>⟨λ_ h=>c_⟩)
  |succ n a=>exact AAO n a
instance(t p c):CT (UO t p c) 213 [AK t,BE p,AJ c] rI:=⟨λr h=>by
  obtain ⟨N,a⟩:=Cd h;exact((AAN N) t p c).snd r (a N (ae _))⟩
instance(a b c):CT (IY a b c) 159 [AK a,BE b,AJ c] rI:=Fe f159 0x810ea18936d6a1d689369b91 [] (IY.eq_1 ..)
instance(a b c):CT (LP a b c) 260 [AK a,BE b,eI c] rI:=By f260 0xa70a070402047696055a7de77e55596ae77e0061300a070402048196057da9ec7da9ecb76aa9ec6aa97274015a555a01d15d59bd369674bd595559044b05c9d5e77e015cb5 [] (LP.eq_1 ..) (BB 0 10 2 0)
instance(a b):CT (KF a b) 194 [AK a,Bt b] rI:=By f194 0xa7065bf0d65544c636e15b41c601065b0381b90b5b41c69674030441c6558d41ad8d41c637888c38c6369f8c38c6dc [] (KF.eq_1 ..) (BB 0 6 3 8)
instance(a b):CT (Ho a b) 252 [lI a,eI b] rI:=By f252 0xa705be7696055d05305d77bc96bc5d7705bbe1aabe81fa [] (Ho.eq_1 ..) (BB 0 5 0 0)
instance(a b):CT (Qs a b) 253 [lI a,eI b] rB:=By f253 0xa705be76b901bbe1aabe81fa [] (Qs.eq_1 ..) (BB 0 5 0 0)
instance(a b):CT (QU a b) 188 [Ay a,FC b] rI:=By f188 0xa7075bf096a57e5901a55a59b2efc843975a5ae15a01075b0381d6ee5ad60bc4dc [] (QU.eq_1 ..) (BB 0 7 3 1)
instance(a b):CT (J7 a b) 131 [Ay a,FC b] rI:=Fe f131 0x818c369f8cdc [] (J7.eq_1 ..)
instance(a b):CT (J8 a b) 132 [lI a,eI b] rI:=By f132 0xa705be7637018501bbe1aabe81fa [] (J8.eq_1 ..) (BB 0 5 0 0)
instance(a b):CT (JJ a b) 80 [Ay a,FC b] (λr=>.tp [Ay r.1,Ap r.2.1,eI r.2.2]):=Fk f80 0x70023b818484044601485ab3014859b33608d0040a08705b0676014aad0348034707460e7e590e5ac404adb2efc843975a5a08d0047f5a7208705b068108705b05cd705b0676014a3201db5d97c4043208705b057f5901cd705b068107c93784845f4603f48c365fc907c991 [] [.cell 4 (Y 2),.cell 5 (Y 2),.tmp 6] λr h c d=>by
  unfold JJ at h;have:=A8 0 9 3 0 λs0:dr=>[(8,.bx [⟨X,lI s0.dl⟩,⟨X,lE s0.d3⟩])];have:=A8 2 10 3 1 λs2:dr=>[(8,.bx [⟨X,lI s2.dl⟩,⟨X,lE s2.d3⟩])];exact nz
instance(a):CT (Pb a) 195 [Bt a] rI:=Fe f195 0x818c0d423638c6360184e04907c91175360b423638ad9f8c0b423638ad9b00 [] (Pb.eq_1 ..)
instance(a b):CT (So a b) 330 [lI a,eI b] rB:=By f330 0xa705be76b901bbe1aabe81fa [] (So.eq_1 ..) (BB 0 5 0 0)
instance(a b):CT (NS a b) 262 [eI a,lI b] (rO lI):=By f262 0x8202bcfe76fefe3cb5dbc3ccaaea30fe81e501405f02 [] (NS.eq_1 ..) (A8 0 6 0 0 (hO 5 lI))
instance(a):CT (Lk a) 197 [Bt a] (rT lI lI):=Fe f197 0x82820e7d0d420b3171c60e6a0d420bf5c6014001409300 [] (Lk.eq_1 ..)
instance(a b c d):CT (Iy a b c d) 198 [AK a,Ay b,lI c,lI d] rB:=I9 f198 0xa70ad00476f35d7e595d5ac436b2efc843bb5ae1300ad00481708d09705b05763783024104435dbbc4708df609705b0581015c5b02 [] (Iy.eq_1 ..) (BB 0 9 2 0) (BB 2 10 3 0)
instance(a b):CT (IZ a b) 142 [AK a,Bt b] rI:=Fe f142 0x810ea1104289ad36f3303638c63682d1ca96a57d0d4201a56a0d42d6cad6ca36d689ad36f3599f017536dc [] (IZ.eq_1 ..)
instance(a b c):CT (HP a b c) 90 [AK a,Bt b,BY c] rI:=Fe f90 0x815e01756236d6ca369b91 [] (HP.eq_1 ..)
instance(a b):CT (Ig a b) 62 [lI a,lI b] rB:=By f62 0xa705be76b9bbbbe1aabe81b9f80be6 [] (Ig.eq_1 ..) (BB 0 5 0 0)
instance(a b c):CT (GD a b c) 199 [AK a,Ay b,Ay c] rI:=Fe f199 0x8196088c3601088c369f8c9f8c9f0175369b91 [] (GD.eq_1 ..)
instance(a):CT (Ki a) 265 [lI a] rB:=I9 f265 0xa703a87603a804f2f0b9bbbb03a8613004f203a7f603a8815f01 [] (Ki.eq_1 ..) (BB 0 3 0 0) (BB 2 4 3 0)
instance(a b c d e):CT (J9 a b c d e) 204 [AK a,Ay b,Ay c,Ap d,eB e] rI:=I9 f204 0x81960aa55a01a559300804020cda04057696057e5d7e59555a5d5a59b9c4b2b2efefc843975a5ac8d896eb975a55975a0804027f5a010cda040581da04040bda700676f397595d97c4369674599759559759da04047f59010bda70068196ebee55d9d9015c5c0401 [] (J9.eq_1 ..) (BB 0 11 8 0) (BB 2 12 8 1)
instance(a b c d e):CT (HN a b c d e) 146 [AK a,Ay b,Ay c,Ap d,eB e] rI:=Fe f146 0x810eb136c59f8cc5015c5c0401 [] (HN.eq_1 ..)
instance(a b c):CT (IW a b c) 143 [AK a,BE b,BY c] rI:=Fe f143 0x815e01756236d689369b91 [] (IW.eq_1 ..)
instance(a b):CT (KB a b) 202 [QI a,lI b] rI:=Fe f202 0xba5a5d5901375a8559fc [] (KB.eq_1 ..)
instance(a b):CT (Lv a b) 264 [QI a,lI b] (rT eI eB):=Fe f264 0x9e055a5d5901cb8a7401595559cb5a8559309330 [] (Lv.eq_1 ..)
instance(a b):CT (Nv a b) 203 [Dx a,lI b] rB:=Fe f203 0x800a05770559ec770559960830085e8175b103429e75b1adfc [] (Nv.eq_1 ..)
instance(a b c):CT (Iw a b c) 145 [BE a,BY b,Ap c] (rT lI eI):=I9 f145 0xe8180865088d7637e588201489059003ac08017f03ac65088d81085b0acdd0067637e58501201436a90cb8cdd0080cb8cdd0083c01f9057da9301401f901148a0817d30114555e6aa9815d5a5d5dc47e044b05c9d5e77e085b7f7e72cdd00681993fb7993fb730409391 [.mkx 1 [.int .i64 0] (.s 16),.mkx 1 [.bool T] (.s 19)] (Iw.eq_1 ..) (A8 0 10 3 2 λs0:Fp×a5=>[(8,.xo 1 (v5 eI s0.1)),(9,.xo 1 (v5 eB s0.2))]) (BB 2 14 3 4)
instance(a b c d):CT (KA a b c d) 147 [AK a,BE b,BY c,Ap d] (rT lI eI):=Fe f147 0xe86b8c628937e57c8ccfcf3637e57ced893630405c91 [] (KA.eq_1 ..)
instance(a b c d):CT (G8 a b c d) 148 [AK a,Ay b,Ay c,Ap d] (rT Ay eI):=Fk f148 0x8184360b3e0b08020c0b78a27601f95d97c4011d320b080261151d32010c0b78a281025018c9273637840103f48c36c50107c95c91 [] [.cell 8 (Y 2),.tmp 9] λr h f g=>by
  unfold G8 at h;have:HW 0 λ(e:dr×Int)=>[(11,.bx [⟨X,.xl 1 (v5 eI e.1.dl)⟩,⟨X,.xl 3 (v5 BQ e.1.d3)⟩]),(12,.tv (eI e.2))]:=⟨⟩;exact nz
instance(a b c d):CT (QV a b c d) 205 [Ay a,Ay b,FC c,Ap d] rI:=Fe f205 0x818c369f8cc5015c91 [] (QV.eq_1 ..)
instance(a b):CT (Eb a b) 266 [lI a,eI b] rB:=By f266 0xa705be76b901bbe1aabe81fa [] (Eb.eq_1 ..) (BB 0 5 0 0)
instance(a b):CT (G7 a b) 206 [lI a,lI b] (rO (eL 2 SR)):=I9 f206 0x8202bcfe76fe07a25f057607a25f0507a25f053c0202480247054630028a0aa577a57705bbbbfef607a25f05ba5501f6fe8102c002405f02 [] (G7.eq_1 ..) (A8 0 6 0 0 (hO 5 (eL 2 SR))) (A8 2 7 0 0 (hO 5 (eL 2 SR)))
instance(a b):CT (LI a b) 209 [lI a,lI b] (rO lI):=By f209 0x8202bcfe76fefe3cb5dbbb02ccaa01f6fe81e501405f02 [] (LI.eq_1 ..) (A8 0 6 0 0 (hO 5 lI))
instance(a b c d):CT (Kh a b c d) 207 [Ay a,Ay b,FC c,Ap d] (rO lI):=By f207 0x82020901b80907050576b8090705740a090705053cb5dbc38a0a0e5b4103d8300e7d03d830a5015a09017f5a01b809070505e80ec4e50140935c1300 [] (Kh.eq_1 ..) (A8 0 11 5 1 (hO 9 lI))
instance(a b):CT (NQ a b) 208 [eI a,lI b] (rO lI):=By f208 0x8202bcfe76fefe3cb5dbc3ccaaea30fe81e501405f02 [] (NQ.eq_1 ..) (A8 0 6 0 0 (hO 5 lI))
instance(a b c d):CT (SF a b c d) 149 [Ay a,Ay b,FC c,Ap d] (rT FC eI):=Fk f149 0x8013b818404460e0e5a5aee0e0ec4d937e046850b8c36c537e04685740e5a5a0b0ec437845ff48c36c55fc95c91 [] [.cell 8 (Y 2),.tmp 9] λr h e f=>by
  unfold SF at h;exact nz
instance(a b c):CT (Kk a b c) 334 [eI a,lI b,lI c] (rO lI):=I9 f334 0x821807010907b5047601f9bbbb140701f60907b5048107b50378025f057619014fb31907b503613078025f058101ce014002be [] (Kk.eq_1 ..) (A8 0 8 0 0 (hX 7 1 eI)) (A8 2 9 1 0 (hX 7 1 eI))
instance(a b):CT (GJ a b) 331 [.pt (Ui a).cells,lI b] rB:=I9 f331 0xa705be6055be05be8188010705a678a25f0676720a055d7e017eec5d5a015a55c430b2efc8907d0471010705a67f7d04713078a25f069eff05be8a74017e55f85ab2efc8907d02715f7f7d0271aabe81fa [] (GJ.eq_1 ..) (BB 0 5 0 3) (A8 2 8 0 5 (hT 7 eB))
instance(a b c):CT (Ch a b c) 333 [.pt (Ui a).cells,lI b,eI c] rB:=By f333 0xa70702a676b901bb00ff8a0308713074300702a681c3be [] (Ch.eq_1 ..) (⟨⟩:HW 0 λ(d:Int)=>[(7,.tv (eI d))])
noncomputable def cv:PC:=PC.of My f332.body (xq bT 0x1da025f066001da025f06da025f063c005201db304830470132ffda025f068a055d7e017eec5d5a015aecc47220303272bc977d069d55977d069db2efc8907d049dd77f7d049d01da025f0681b2efc8907d029dff014a0a710248024704460148304701483047040a9d32850b7d029d5e0bea03099d0b030a9d02be) []
theorem AAz:CK f332 cv []:=b!
theorem ABO:PC.sR cv=X/\PC.tl 0 cv=X:=b!
abbrev Q_332(n:Nat):Prop:=∀(b:Ao)(a:Fp)(l:Fp),CT (B0 n b a l) 332 [.undef,lI a,lI l] (λr=>.bo (CD b) (CD r) 0 [])
theorem AAg(n:Nat)(_ih_332:Q_332 n)(b:Ao)(a:Fp)(l:Fp):CT (B0 (n+1) b a l) 332 [.undef,lI a,lI l] (λr=>.bo (CD b) (CD r) 0 []):=Z5 AAz ABO λr h e d f=>by
  unfold cv;unfold f332;unfold B0 at h;have:HW 0 λ(c:Ao×Int)=>[(0,.bx (CD c.1)),(8,.tv (eI c.2))]:=⟨⟩;exact nz
theorem AAf:∀n:Nat,Q_332 n:=by
  intro n
  induction n with
  |zero=>exact(λa ea l=>⟨λ_ h=>c_⟩)
  |succ n b=>exact AAg n b
instance(s_0 ea l):CT (KW s_0 ea l) 332 [.undef,lI ea,lI l] (λr=>.bo (CD s_0) (CD r) 0 []):=⟨λr h=>by
  obtain ⟨N,a⟩:=Cd h;exact((AAf N) s_0 ea l).snd r (a N (ae _))⟩
noncomputable def cu:PC:=PC.of My f263.body (xq bT 0x5504a6605504a670a63c005201db3048304732ff70a68aa5976a029d976a049d363838327220303272bc976a069d55976a069dd77f6a049d5504a681ff3f0132850b6a029d5e0b738a082001325503099d0b030a9d5f02) [.Aaf 332 [.s 32,.s 33,.c (.list 1 [])] 0]
theorem AAx:CK f263 cu []:=b!
theorem ABN:PC.sR cu=X/\PC.tl 0 cu=X:=b!
abbrev Q_263(n:Nat):Prop:=∀(a:Ao)(l:Fp),CT (B1 n a l) 263 [.undef,lI l] (λr=>.bo (CD a) (CD r) 0 [])
theorem AAU(n:Nat)(_ih_263:Q_263 n)(a:Ao)(l:Fp):CT (B1 (n+1) a l) 263 [.undef,lI l] (λr=>.bo (CD a) (CD r) 0 []):=Z5 AAx ABN λr h d c e=>by
  unfold cu;unfold f263;unfold B1 at h;have:HW 0 λ(b:Ao×Int)=>[(0,.bx (CD b.1)),(5,.tv (eI b.2))]:=⟨⟩;exact nz
theorem AAT:∀n:Nat,Q_263 n:=by
  intro n
  induction n with
  |zero=>exact(λa l=>⟨λ_ h=>c_⟩)
  |succ n b=>exact AAU n b
instance(s_0 l):CT (Hh s_0 l) 263 [.undef,lI l] (λr=>.bo (CD s_0) (CD r) 0 []):=⟨λr h=>by
  obtain ⟨N,a⟩:=Cd h;exact((AAT N) s_0 l).snd r (a N (ae _))⟩
instance(a b c d e f):CT (Kw a b c d e f) 200 [AK a,Ay b,Ay c,Ap d,eB e,eI f] (rS (eL 2 Ap)):=Fe f200 0x82030a71383f3800c2bf1b4630c5c502405c5c7002 [.AaY [W,W,W,W,W,W,W,W,W,W,Y ⟨X,.list 2 []⟩] (.s 20),.Aaf 263 [.s 22,.c (.list 1 [])] 0] (Kw.eq_1 ..)
instance(a b c):CT (Kj a b c) 382 [lI a,eI b,eI c] rI:=By f382 0xa7070200f096bc5d7705bbe1300702000381b9010b3002be [] (Kj.eq_1 ..) (BB 0 7 0 0)
instance(a b c d e):CT (Iv a b c d e) 335 [AK a,Ay b,Ay c,Ap d,eB e] (rT (eL 2 Ap) eI):=Fe f335 0xe8013702c085f8820eb136c53702c07c0eeeee5a3702c07c0ed90bc43702c08aebee55d9d93702c07c8cc5c3405c5c0401 [] (Iv.eq_1 ..)
instance(a b):CT (FY a b) 155 [QI a,lI b] (rT eI eI):=Fe f155 0x9e0eb1cb8a7401595559309330 [] (FY.eq_1 ..)
instance(a b c d):CT (Mp a b c d) 336 [BE a,BY b,Ap c,lI d] (rT lI eB):=nC f336 0xe8180a01120a04f037e58a0a05770559ec7705595e6b0120143603425e6b01201436add404c989059003ac0a017f03ac01120a04038004020db80670067637e58577816b01201436a90f0e0db80670080f0e0db80670083c01f901f9057da9016aa9146aa9148a0817d36aa914556aa9815d5a5d5dc47e044b05c9d5e77e0a04027f7e010db806700681b80670050cb806d007760cb806d0070cb806d0073c19014fb319850b77f9747714b806700561b7010cb806d00781993fb799014f30563040935c31 [.mkx 1 [.bool T] (.s 28)] (Mp.eq_1 ..) (A8 0 12 4 3 λs0:Fp×a5=>[(10,.xo 1 (v5 eI s0.1)),(11,.xo 1 (v5 eB s0.2))]) (A8 2 13 4 2 λs2:Fp×a5=>[(10,.xo 1 (v5 eI s2.1)),(11,.xo 1 (v5 eB s2.2))]) (BB 4 18 4 4)
instance(a b c d e):CT (Ft a b c d e) 267 [AK a,AJ b,BY c,Bb d,eB e] (rT (eL 3 Bb) eI):=By f267 0xe802100111100e0cda7611100e0cda11100e0cda3c02034803470946b102b6029ed17e3602b662891001f611100e0cda8103c03703c07cd1b1cfcf36e0c904460ede7da90bde0ebd6aa90bbdd409c989ac0103405c5c0401 [] (Ft.eq_1 ..) (A8 0 17 14 0 (hO 16 (eL 3 Bb)))
abbrev Q_210(n:Nat):Prop:=∀(t:AC)(c:d5)(b:AF)(m:AP)(a:Bool),CT (DM n t c b m a) 210 [AK t,AJ c,BY b,Bb m,eB a] (rT FK eI)
theorem AAK(n:Nat)(_ih_210:Q_210 n)(t:AC)(c:d5)(b:AF)(m:AP)(a:Bool):CT (DM (n+1) t c b m a) 210 [AK t,AJ c,BY b,Bb m,eB a] (rT FK eI):=Fk f210 0xba4b0a46ff37d40a460a0117150a0706700776ff0a013bba4b010c46054789c8b66cd40ee901c8b662fd435a360a01f617150a070670078137d472f4d1016262a136baba4b0a460a01120ada70077637d4010b460547897cd40ee9016262fdd8360a017f5a01120ada70079e05ba4b890e0a020f0e0ada700876014aac054805478904ac37d472f4d40ee9016262fdd8360e0a027f5a010f0e0ada7008ba500ec93fbaba4b724637d40a46850137d40af4d40e4975016262fd435a36ba833265c95c5c0401 [.Aag [.z ⟨T,.int .i64 0⟩,.z ⟨X,.list 1 []⟩,.z ⟨X,.list 1 []⟩,.z ⟨X,.list 1 []⟩,.z ⟨X,.list 5 []⟩]] [.cell 10 (Y 5),.tmp 11] λr h d e=>by
  unfold DM at h;have:=A8 1 15 6 1 λs1:BF×BF=>[(10,.bx [⟨T,eI s1.1.Aah⟩,⟨X,lI s1.1.j0.d4.dl⟩,⟨X,lI s1.1.j0.d4.d3⟩,⟨X,lI s1.1.j0.ey⟩,⟨X,JG s1.1.em⟩]),(14,.bx [⟨T,eI s1.2.Aah⟩,⟨X,lI s1.2.j0.d4.dl⟩,⟨X,lI s1.2.j0.d4.d3⟩,⟨X,lI s1.2.j0.ey⟩,⟨X,JG s1.2.em⟩])];have:=A8 3 18 6 1 λs3:BF=>[(10,.bx [⟨T,eI s3.Aah⟩,⟨X,lI s3.j0.d4.dl⟩,⟨X,lI s3.j0.d4.d3⟩,⟨X,lI s3.j0.ey⟩,⟨X,JG s3.em⟩])];have:=A8 5 23 21 0 λs5:BF=>[(10,.bx [⟨T,eI s5.Aah⟩,⟨X,lI s5.j0.d4.dl⟩,⟨X,lI s5.j0.d4.d3⟩,⟨X,lI s5.j0.ey⟩,⟨X,JG s5.em⟩])];exact nz
theorem AAJ:∀n:Nat,Q_210 n:=by
  intro n
  induction n with
  |zero=>exact(λt c a m en=>⟨λ_ h=>c_⟩)
  |succ n b=>exact AAK n b
instance(t c h_2 m en):CT (QX t c h_2 m en) 210 [AK t,AJ c,BY h_2,Bb m,eB en] (rT FK eI):=⟨λr h=>by
  obtain ⟨N,a⟩:=Cd h;exact((AAJ N) t c h_2 m en).snd r (a N (ae _))⟩
instance(a b c d e):CT (KC a b c d e) 150 [AK a,AJ b,BY c,Bb d,eB e] (rT eB eI):=Fe f150 0x9e5501cb6cd40e4975016262a136305c5c0401 [] (KC.eq_1 ..)
instance(a b c d):CT (Ii a b c d) 92 [AK a,Bt b,BY c,Bb d] (rT FC eI):=Fk f92 0x8184b10d0b08030d0b08033c018a08aa308175030f426262a110423637845f468530e0e9cf360b42cf3637845f4685308407e9cfcf3638ad3637e046cc7e0137845ff4d1cf6289ad3637e046850e030f42cfcf3638ad365fc95c91 [] [.cell 8 (Y 2),.tmp 9] λr h f g=>by
  unfold Ii at h;have:HJ 95 λ(e:Int)=>[(11,.tv (eI e))]:=⟨⟩;exact nz
end Go.Sf.Sc
