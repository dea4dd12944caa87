/- Contracts of the functions. -/
import Derived.Test.YthcncnllajfkfaaGreatCon0
set_option linter.all false
set_option maxRecDepth 100000
set_option maxHeartbeats 4000000
open Option renaming some->Y,none->W
open Bool renaming true->X,false->T
open List renaming map->v1
namespace Go.Sf.Sc
open Go Go.Sf Go.Proofs.Tryz
instance(a):CT (Kr a) 117 [A8 a] (λr=>.z5 [⟨X,lI r.dl⟩,⟨X,lE r.d3⟩]):=Fk f117 0xb53b02503f03485a0347014859b307c99300 [.Aah [.w 6,.w 10]] [.cell 2 (Y 2)] λr h b c=>by
  unfold Kr at h;exact nz
instance(a):CT (I4 a) 59 [Bj a] (λr=>.z5 [⟨X,lI r.dr.dl⟩,⟨X,lE r.dr.d3⟩,⟨X,.xn (v1 lI r.eb)⟩]):=Fk f59 0x35003535b02e2f1761fa92122014f9d7e015623a95b027f7e01e2f181035016c93f1bcf16c99300 [.Aah [.g 7 0 2,.g 7 1 2,.z ⟨X,.xn []⟩]] [.cell 2 (Y 3)] λr h b c=>by
  unfold I4 at h;have:=BI 0 4 1 2 λs0:AF=>[(3,.bx [⟨X,lI s0.dr.dl⟩,⟨X,lE s0.dr.d3⟩,⟨X,.xn (v1 lI s0.eb)⟩])];exact nz
instance(a b c):CT (EM a b c) 140 [eI a,eI b,eI c] rB:=Fe f140 0x800577057702be [] (EM.eq_1 ..)
abbrev Q_139(n:Nat):Prop:=∀(t:AC)(a:Int),CT (Ej n t a) 139 [AK t,eI a] (rO lA)
theorem AAH(n:Nat)(_ih_139:Q_139 n)(t:AC)(a:Int):CT (Ej (n+1) t a) 139 [AK t,eI a] (rO lA):=Fj f139 0x8204488d41e75904480e7de759360447ff04c085f1409330 [] λh=>by
  unfold Ej at h;exact nz
theorem AAG:∀n:Nat,Q_139 n:=by
  intro n
  induction n with
  |zero=>exact(λt a=>⟨λ_ h=>c_⟩)
  |succ n b=>exact AAH n b
instance(t a):CT (N7 t a) 139 [AK t,eI a] (rO lA):=⟨λr h=>by
  obtain ⟨N,b⟩:=Cn h;exact((AAG N) t a).snd r (b N (ae _))⟩
instance(a):CT (Rg a) 327 [X5 a] (rS eS):=Fe f327 0x815a373f3f5a85593f9300 [.mv (.c (.str ⟨#[]⟩)),.bin (.s) .add (.c (.str ⟨#[34]⟩)) (.s 7),.bin (.s) .add (.s 8) (.c (.str ⟨#[34]⟩))] (Rg.eq_1 ..)
instance(a):CT (Mt a) 376 [X6 a] rB:=Fe f376 0x800a05aa300a05aa30d7 [] (Mt.eq_1 ..)
instance(a):CT (KF a) 377 [X6 a] rB:=Fe f377 0x8005aa30d7 [] (KF.eq_1 ..)
instance(a b c):CT (Mv a b c) 378 [eS a,eI b,eB c] rI:=B8 f378 0x810107740702a75f0107748a0a0a0a05120530300e1205303008300e120530aa0c55300702a781c3be [] (Mv.eq_1 ..) (⟨⟩:HW 0 λ(d:Int)=>[(7,.tv (eI d))])
instance(a b):CT (I3 a b) 379 [eS a,eI b] rI:=B8 f379 0xa605be769605aa0137057c12057700610c55aabe81fc [] (I3.eq_1 ..) (⟨⟩:HW 0 λ(c:Int)=>[(5,.tv (eI c))])
instance AC1:CT (Qc ) 380 [] (rO lB):=Fe f380 0x823f014000 [.lst 1 [.c (.str ⟨#[45,62]⟩),.c (.str ⟨#[60,61]⟩),.c (.str ⟨#[62,61]⟩),.c (.str ⟨#[61,61]⟩),.c (.str ⟨#[33,61]⟩),.c (.str ⟨#[123]⟩),.c (.str ⟨#[125]⟩),.c (.str ⟨#[40]⟩),.c (.str ⟨#[41]⟩),.c (.str ⟨#[91]⟩),.c (.str ⟨#[93]⟩),.c (.str ⟨#[44]⟩),.c (.str ⟨#[59]⟩),.c (.str ⟨#[58]⟩),.c (.str ⟨#[61]⟩),.c (.str ⟨#[43]⟩),.c (.str ⟨#[45]⟩),.c (.str ⟨#[42]⟩),.c (.str ⟨#[60]⟩),.c (.str ⟨#[62]⟩),.c (.str ⟨#[33]⟩),.c (.str ⟨#[38]⟩),.c (.str ⟨#[124]⟩),.c (.str ⟨#[46]⟩),.c (.str ⟨#[63]⟩)]] (Qc.eq_1 ..)
instance(a b):CT (Mu a b) 328 [eS a,eI b] (λr=>.tp [X5 r.1,eI r.2.1,eI r.2.2]):=Fk f328 0x9bb21a460401c104600576ff04013b9bb20c5e7746bb8a06bb0d050cbb30aa0c550c5e770401f5c1046005e80ecbb230460d0505aa30cbb21a4685bccbb21af40e308501cbb230460d057730cbb21a4685300acd0460060acd0460063c308e5d9b0e0e778a0e300e5d12303017c96002 [] [.cell 4 (Y 3),.tmp 5,.tmp 6] λr h d e=>by
  unfold Mu at h;have:HJ 29 λ(c:Int×Int)=>[(9,.tv (eI c.1)),(10,.tv (eI c.2))]:=⟨⟩;have:=BI 0 13 12 0 λs0:HQ=>[(4,.bx [⟨T,eI s0.jj⟩,⟨T,eS s0.AbB⟩,⟨T,eI s0.Line⟩])];exact nz
instance(a):CT (L6 a) 254 [X5 a] rB:=Fe f254 0x8005c4ee0c77055d81b217c911750137bf5dec9a00 [.bin (.s) .eql (.s 9) (.c (.str ⟨#[]⟩))] (L6.eq_1 ..)
instance(a):CT (Ei a) 192 [eS a] rB:=Fe f192 0x810e014630d7 [] (Ei.eq_1 ..)
instance(a):CT (KG a) 339 [lB a] rI:=JK f339 0xa603a87603a804f2f03786bbbb03a8613004f20381f3bbe13003a881b90b30d7 [] (KG.eq_1 ..) (BM 0 3 0 0) (BM 2 4 3 0)
instance(a):CT (Gc a) 272 [HT a] rI:=Fe f272 0xfe0573b77e555ad6b73796a55a7e01a55a850bb79a00 [] (Gc.eq_1 ..)
instance(a b):CT (LT a b) 215 [AK a,eI b] rI:=nL f215 0xa6780276d6d504b678020978f037866a04b66a04b67802613009780381f36a04b6e13078028173b7f796733073b7820eb1f3bc5a05b503a1b504763786596ae75905b5036130a1b50481f359044b01c9d5e759fa [] (LT.eq_1 ..) (BM 0 6 1 0) (BM 2 8 7 0) (BM 4 9 8 0)
instance(a b):CT (L8 a b) 273 [eI a,eI b] rB:=Fe f273 0x800a0e7705300ee6 [] (L8.eq_1 ..)
instance(a b):CT (LS a b) 216 [AK a,eI b] rI:=B8 f216 0xfea503c603054272a503acb772a5017e01a5015a817359050202a1b504763786596a07d80502026130a1b50481f359074b02c9074407d8fa [] (LS.eq_1 ..) (BM 0 6 1 0)
instance(a):CT (Er a) 163 [AK a] (rT eS eI):=JK f163 0x81bf0006c376cb016a07d86c0eb1e15a0106c3813004c376cb016ae7596c0eb1307f59f1c38137bf8aeb55d937bf85d9013f9300 [.mv (.c (.str ⟨#[]⟩)),.mv (.c (.str ⟨#[]⟩)),.mv (.c (.str ⟨#[]⟩)),.mv (.c (.str ⟨#[]⟩))] (Er.eq_1 ..) (BM 0 4 1 0) (BM 2 6 1 1)
instance(a b c):CT (Ic a b c) 138 [AK a,eI b,eI c] rI:=Fe f138 0xfea5735930a57359019e0175369ab502 [] (Ic.eq_1 ..)
abbrev Q_141(n:Nat):Prop:=∀(t:AC)(a:Int)(b:Int),CT (EA n t a b) 141 [AK t,eI a,eI b] rB
theorem AAJ(n:Nat)(_ih_141:Q_141 n)(t:AC)(a:Int)(b:Int):CT (EA (n+1) t a b) 141 [AK t,eI a,eI b] rB:=Fj f141 0x800a0e017de7593655aa7793b502 [] λh=>by
  unfold EA at h;exact nz
theorem AAI:∀n:Nat,Q_141 n:=by
  intro n
  induction n with
  |zero=>exact(λt a b=>⟨λ_ h=>c_⟩)
  |succ n c=>exact AAJ n c
instance(t a b):CT (Hk t a b) 141 [AK t,eI a,eI b] rB:=⟨λr h=>by
  obtain ⟨N,c⟩:=Cn h;exact((AAI N) t a b).snd r (c N (ae _))⟩
instance(a b c d):CT (Js a b c d) 89 [AK a,eI b,eI c,eI d] rB:=Fe f89 0x800e5b4107d8b1657d07d8b196a5ebaa0e30369a5b0103 [] (Js.eq_1 ..)
instance(a):CT (NY a) 189 [eI a] rB:=Fe f189 0x8005aa30d7 [] (NY.eq_1 ..)
instance(a b):CT (Qd a b) 190 [Ba a,eI b] rB:=Fe f190 0x80bc7eee7e72bc5aee5a6559fa [] (Qd.eq_1 ..)
instance(a):CT (Es a) 135 [A8 a] rI:=JK f135 0xa604c376f3d9c8d8e15af1c38130310276f39d59307f59013102feeb55d99a00 [] (Es.eq_1 ..) (BM 0 3 1 0) (BM 2 4 1 1)
instance(a b):CT (FZ a b) 88 [AK a,eI b] (rT lA eI):=B8 f88 0xe80207010978f00204480447d5b54a03420148b7b3044b03c9d504b60701f5097803e80eb104c03704c07c0e3036f1409330 [] (FZ.eq_1 ..) (BI 0 9 8 0 (hO 7 lA))
instance(a b c):CT (LV a b c) 164 [AK a,eI b,lI c] rI:=B8 f164 0xa6090702f096055b4104b65e77057d04b6bbe1300907020381b9f70b30d1b137830241e759b9d93093b502 [] (LV.eq_1 ..) (BM 0 9 7 0)
instance(a b):CT (GL a b) 102 [AK a,Bj b] (rT eI eI):=JK f102 0x9b000b5bf0cb01cc5e7ebd5e5abd5936cb0185ed59b2efc890dde1dd010b5b03815b02095bf0cb306c0e9d7e9dbd365b027fbd01095b0381cb850bbd0b7ecb7c8c32cb7c0175363091 [] (GL.eq_1 ..) (BM 0 9 3 0) (BM 2 11 3 1)
instance(a b):CT (Ig a b) 255 [AK a,A8 b] rB:=JK f255 0xa6065bf096eb6a03d8556a03d8e15a01065b03815b02055bf09673599d59559d595b027f59555b0381db [] (Ig.eq_1 ..) (BM 0 5 3 0) (BM 2 6 3 1)
instance(a b c d):CT (LZ a b c d) 256 [AK a,BP b,eI c,eI d] (rT HT eB):=Fk f256 0x81044bd504b637044b02468a73770a05aa5dd19dbd3637044b02468a73bdaa3003c95c5b02 [] [.cell 8 (Y 4),.tmp 9] λr h e f=>by
  unfold LZ at h;exact nz
instance(a):CT (OR a) 257 [eI a] rB:=Fe f257 0x8005aa30d7 [] (OR.eq_1 ..)
instance(a b):CT (Kq a b) 381 [eI a,QT b] rI:=Fe f381 0xfe055aee5a72bc5955599ad7 [] (Kq.eq_1 ..)
instance(a b):CT (Q1 a b) 329 [eI a,D7 b] rI:=Fe f329 0x818c0342019e8cad0196055955599ad7 [] (Q1.eq_1 ..)
instance(a b):CT (N6 a b) 258 [eI a,lT b] rI:=B8 f258 0xa605be76d689054377e1aabe81b9f79605aae6 [] (N6.eq_1 ..) (BM 0 5 1 0)
instance(a b):CT (My a b) 259 [BP a,eI b] rB:=B8 f259 0xa605b5f0b9016a0241e77ee17e55b50381fa [] (My.eq_1 ..) (BM 0 5 2 2)
instance(a b):CT (GN a b) 193 [AK a,BP b] rI:=JK f193 0xa60d5b76f355440061b7010d5b81d603acb731085bf096a57da9eeb76aa9ee6aa901085d044b0349755a598936044b05c9d5e77e317f7e01085b03fe7303ac550b7e9605b755b737888c32369e8c329e017536db [] (GN.eq_1 ..) (BM 0 8 3 2) (BM 2 13 3 3)
instance(a):CT (I7 a) 383 [AJ a] rB:=Fe f383 0x80058d41acee73030441ac0b5b41ac30ba733171ac736a38ac737da90b6aa99a00 [] (I7.eq_1 ..)
instance(a):CT (OA a) 337 [AJ a] rB:=B8 f337 0x81ff37ebba800e9f55ed190401035f19040103ba800e9f55edba800e9f55edba83329a00 [] (OA.eq_1 ..) (⟨⟩:HJ 25 λ(b:Bool)=>[(25,.tv (eB b))])
abbrev Q_268(n:Nat):Prop:=∀(c:d5),CT (DW n c) 268 [AJ c] rB
theorem AAf(n:Nat)(_ih_268:Q_268 n)(c:d5):CT (DW (n+1) c) 268 [AJ c] rB:=Fj f268 0xa6310276f3fbd8e15a01310281f39f9a00 [] λh=>by
  unfold DW at h;have:=BM 0 3 1 1;exact nz
theorem AAe:∀n:Nat,Q_268 n:=by
  intro n
  induction n with
  |zero=>exact(λc=>⟨λ_ h=>c_⟩)
  |succ n a=>exact AAf n a
instance(c):CT (Nb c) 268 [AJ c] rB:=⟨λr h=>by
  obtain ⟨N,a⟩:=Cn h;exact((AAe N) c).snd r (a N (ae _))⟩
abbrev Q_269(n:Nat):Prop:=∀(c:d5),CT (Ds n c) 269 [AJ c] (rT eI eI)
theorem AAh(n:Nat)(_ih_269:Q_269 n)(c:d5):CT (Ds (n+1) c) 269 [AJ c] (rT eI eI):=Fj f269 0x9b30700270025f0185597001030670f176302caa309b75fbd87001037f5a010670f1819b309300 [] λh=>by
  unfold Ds at h;have:=BI 0 6 1 1 λs0:Int×Int=>[(4,.tv (eI s0.1)),(5,.tv (eI s0.2))];have:HJ 33 λ(a:Int)=>[(5,.tv (eI a))]:=⟨⟩;exact nz
theorem AAg:∀n:Nat,Q_269 n:=by
  intro n
  induction n with
  |zero=>exact(λc=>⟨λ_ h=>c_⟩)
  |succ n a=>exact AAh n a
instance(c):CT (OS c) 269 [AJ c] (rT eI eI):=⟨λr h=>by
  obtain ⟨N,a⟩:=Cn h;exact((AAg N) c).snd r (a N (ae _))⟩
instance(a):CT (KN a) 212 [AJ a] rI:=Fe f212 0xfe05aa5d81759ff39f9a00 [] (KN.eq_1 ..)
instance(a b c):CT (Ie a b c) 261 [A8 a,A8 b,Az c] rI:=JK f261 0xa60ad0047696057e5e7e59555a5e5a59b9c4b2b2efefc8439d5a5ac8d896eb9d5a559d5ae15a72d00481708d09d00476b99d595e9dc49673599d59559d59708d7f590109d004feebed55d9d99e8c9e8c9a91 [] (Ie.eq_1 ..) (BM 0 9 3 0) (BM 2 10 3 1)
instance(a b):CT (Pk a b) 338 [BP a,eI b] rB:=B8 f338 0xa605b5f0b9016a0241e77ee17e55b50381fa [] (Pk.eq_1 ..) (BM 0 5 2 2)
instance(a b c):CT (KO a b c) 270 [AK a,eI b,BP c] rI:=B8 f270 0xa67805f03701cc55440061b7017805038101d68936b901b7015c30 [] (KO.eq_1 ..) (BM 0 8 5 3)
instance(a):CT (GE a) 196 [lI a] rB:=JK f196 0xa603a87603a804f2f0b9bbbb03a8613004f203a6f503a8816001 [] (GE.eq_1 ..) (BM 0 3 0 0) (BM 2 4 3 0)
instance(a b c):CT (Jv a b c) 271 [A8 a,A8 b,Az c] rB:=Fe f271 0x800e5a720e59558cc59a91 [] (Jv.eq_1 ..)
abbrev Q_213(n:Nat):Prop:=∀(t:AC)(p:d7)(c:d5),CT (EF n t p c) 213 [AK t,BP p,AJ c] rI
theorem AAX(n:Nat)(_ih_213:Q_213 n)(t:AC)(p:d7)(c:d5):CT (EF (n+1) t p c) 213 [AK t,BP p,AJ c] rI:=Fj f213 0xa60a0705030476d6fbd88936e15a72070503048107058d07058d3cd489ac37888ca93638accf9e8ca93638accfd689acb7368559d409c9899a91 [] λh=>by
  unfold EF at h;have:=BM 0 10 5 1;exact nz
theorem AAW:∀n:Nat,Q_213 n:=by
  intro n
  induction n with
  |zero=>exact(λt p c=>⟨λ_ h=>c_⟩)
  |succ n a=>exact AAX n a
instance(t p c):CT (UY t p c) 213 [AK t,BP p,AJ c] rI:=⟨λr h=>by
  obtain ⟨N,a⟩:=Cn h;exact((AAW N) t p c).snd r (a N (ae _))⟩
instance(a b c):CT (Ij a b c) 159 [AK a,BP b,AJ c] rI:=Fe f159 0x810e9f8936d69fd689369a91 [] (Ij.eq_1 ..)
instance(a b c):CT (La a b c) 260 [AK a,BP b,eI c] rI:=B8 f260 0xa60a070402047696055a7de77e55596ae77e0061300a07040204fe057da9ee7da9eeb76aa9ee6aa97273015a555a01d15e59bd369673bd595559044b05c9d5e77e015cb5 [] (La.eq_1 ..) (BM 0 10 2 0)
instance(a b):CT (KP a b) 194 [AK a,B3 b] rI:=B8 f194 0xa6065bf0d65544c636e15b41c601065b0381b90b5b41c69673030441c6558d41ad8d41c637888c38c6369e8c38c6db [] (KP.eq_1 ..) (BM 0 6 3 8)
instance(a b):CT (Hy a b) 252 [lI a,eI b] rI:=B8 f252 0xa605be7696055e05305e77bc96bc5e7705bbe1aabe81fc [] (Hy.eq_1 ..) (BM 0 5 0 0)
instance(a b):CT (Q2 a b) 253 [lI a,eI b] rB:=B8 f253 0xa605be76b901bbe1aabe81fc [] (Q2.eq_1 ..) (BM 0 5 0 0)
instance(a b):CT (Qe a b) 188 [A8 a,FN b] rI:=B8 f188 0xa6075bf096a57e5901a55a59b2efc8439d5a5ae15a01075b0381d6ed5ad60bc4db [] (Qe.eq_1 ..) (BM 0 7 3 1)
instance(a b):CT (KH a b) 131 [A8 a,FN b] rI:=Fe f131 0x818c369e8cdb [] (KH.eq_1 ..)
instance(a b):CT (KI a b) 132 [lI a,eI b] rI:=B8 f132 0xa605be7637018501bbe1aabe81fc [] (KI.eq_1 ..) (BM 0 5 0 0)
instance(a b):CT (JT a b) 80 [A8 a,FN b] (λr=>.tp [A8 r.1,Az r.2.1,eI r.2.2]):=Fk f80 0x70023b818484044601485ab3014859b33608d0040a08705b0676014aad0348034707460e7e590e5ac404adb2efc8439d5a5a08d0047f5a7208705b068108705b05cd705b0676014a3201e05e9dc4043208705b057f5901cd705b068107c9378484604603f48c3660c907c991 [] [.cell 4 (Y 2),.cell 5 (Y 2),.tmp 6] λr h c d=>by
  unfold JT at h;have:=BI 0 9 3 0 λs0:dr=>[(8,.bx [⟨X,lI s0.dl⟩,⟨X,lE s0.d3⟩])];have:=BI 2 10 3 1 λs2:dr=>[(8,.bx [⟨X,lI s2.dl⟩,⟨X,lE s2.d3⟩])];exact nz
instance(a):CT (Pm a) 195 [B3 a] rI:=Fe f195 0x818c0d423638c6360184df4907c91175360b423638ad9e8c0b423638ad9a00 [] (Pm.eq_1 ..)
instance(a b):CT (S0 a b) 330 [lI a,eI b] rB:=B8 f330 0xa605be76b901bbe1aabe81fc [] (S0.eq_1 ..) (BM 0 5 0 0)
instance(a b):CT (Nc a b) 262 [eI a,lI b] (rO lI):=B8 f262 0x8202bcfd76fdfd3cb5e0c3ccaaea30fd81e501406002 [] (Nc.eq_1 ..) (BI 0 6 0 0 (hO 5 lI))
instance(a):CT (Lw a) 197 [B3 a] (rT lI lI):=Fe f197 0x82820e7d0d420b3171c60e6a0d420b6a38c6014001409300 [] (Lw.eq_1 ..)
instance(a b c d):CT (I8 a b c d) 198 [AK a,A8 b,lI c,lI d] rB:=JK f198 0xa60ad00476f35e7e595e5ac436b2efc843bb5ae1300ad00481708d09705b05763783024104435ebbc4708df509705b0581015c5b02 [] (I8.eq_1 ..) (BM 0 9 2 0) (BM 2 10 3 0)
instance(a b):CT (Ik a b) 142 [AK a,B3 b] rI:=Fe f142 0x810e9f104289ad36f3303638c63682d1ca96a57d0d4201a56a0d42d6cad6ca36d689ad36f3599e017536db [] (Ik.eq_1 ..)
instance(a b c):CT (He a b c) 90 [AK a,B3 b,Bj c] rI:=Fe f90 0x815d01756236d6ca369a91 [] (He.eq_1 ..)
instance(a b):CT (Ir a b) 62 [lI a,lI b] rB:=B8 f62 0xa605be76b9bbbbe1aabe81b9f70be6 [] (Ir.eq_1 ..) (BM 0 5 0 0)
instance(a b c):CT (GM a b c) 199 [AK a,A8 b,A8 c] rI:=Fe f199 0xfe088c3601088c369e8c9e8c9e0175369a91 [] (GM.eq_1 ..)
instance(a):CT (Kt a) 265 [lI a] rB:=JK f265 0xa603a87603a804f2f0b9bbbb03a8613004f203a6f503a8816001 [] (Kt.eq_1 ..) (BM 0 3 0 0) (BM 2 4 3 0)
instance(a b c d e):CT (KJ a b c d e) 204 [AK a,A8 b,A8 c,Az d,eB e] rI:=JK f204 0xfe0aa55a01a559300804020cda04057696057e5e7e59555a5e5a59b9c4b2b2efefc8439d5a5ac8d896eb9d5a559d5a0804027f5a010cda040581da04040bda700676f39d595e9dc4369673599d59559d59da04047f59010bda7006feebed55d9d9015c5c0401 [] (KJ.eq_1 ..) (BM 0 11 8 0) (BM 2 12 8 1)
instance(a b c d e):CT (Hc a b c d e) 146 [AK a,A8 b,A8 c,Az d,eB e] rI:=Fe f146 0x810eb136c59e8cc5015c5c0401 [] (Hc.eq_1 ..)
instance(a b c):CT (Ih a b c) 143 [AK a,BP b,Bj c] rI:=Fe f143 0x815d01756236d689369a91 [] (Ih.eq_1 ..)
instance(a b):CT (KL a b) 202 [QT a,lI b] rI:=Fe f202 0xba5a5e5901375a8559fa [] (KL.eq_1 ..)
instance(a b):CT (L7 a b) 264 [QT a,lI b] (rT eI eB):=Fe f264 0x9b055a5e5901cb8a7301595559cb5a8559309330 [] (L7.eq_1 ..)
instance(a b):CT (N5 a b) 203 [D7 a,lI b] rB:=Fe f203 0x800a05770559ee770559960830085d8175b103429b75b1adfa [] (N5.eq_1 ..)
instance(a b c):CT (I6 a b c) 145 [BP a,Bj b,Az c] (rT lI eI):=JK f145 0xe8180865088d7637e588201489059003ac08017f03ac65088d81085b0acdd0067637e58501201436a90cb8cdd0080cb8cdd0083c01f8057da9301401f801148a0817d30114555d6aa9815e5a5e5ec47e044b05c9d5e77e085b7f7e72cdd00681993fb7993fb730409391 [.mkx 1 [.int .i64 0] (.s 16),.mkx 1 [.bool T] (.s 19)] (I6.eq_1 ..) (BI 0 10 3 2 λs0:Fp×a5=>[(8,.xo 1 (v1 eI s0.1)),(9,.xo 1 (v1 eB s0.2))]) (BM 2 14 3 4)
instance(a b c d):CT (KK a b c d) 147 [AK a,BP b,Bj c,Az d] (rT lI eI):=Fe f147 0xe86b8c628937e57c8ccfcf3637e57cec893630405c91 [] (KK.eq_1 ..)
instance(a b c d):CT (HM a b c d) 148 [AK a,A8 b,A8 c,Az d] (rT A8 eI):=Fk f148 0x8184360b3e0b08020c0b78a17601f85e9dc4011d320b080261151d32010c0b78a181025018c9273637840103f48c36c50107c95c91 [] [.cell 8 (Y 2),.tmp 9] λr h f g=>by
  unfold HM at h;have:HW 0 λ(e:dr×Int)=>[(11,.bx [⟨X,.xl 1 (v1 eI e.1.dl)⟩,⟨X,.xl 3 (v1 Ba e.1.d3)⟩]),(12,.tv (eI e.2))]:=⟨⟩;exact nz
instance(a b c d):CT (Qf a b c d) 205 [A8 a,A8 b,FN c,Az d] rI:=Fe f205 0x818c369e8cc5015c91 [] (Qf.eq_1 ..)
instance(a b):CT (Ek a b) 266 [lI a,eI b] rB:=B8 f266 0xa605be76b901bbe1aabe81fc [] (Ek.eq_1 ..) (BM 0 5 0 0)
instance(a b):CT (HL a b) 206 [lI a,lI b] (rO (eL 2 Sb)):=JK f206 0x8202bcfd76fd07a160057607a1600507a160053c0202480247054630028a0aa577a57705bbbbfdf507a16005ba5501f5fd8102c002406002 [] (HL.eq_1 ..) (BI 0 6 0 0 (hO 5 (eL 2 Sb))) (BI 2 7 0 0 (hO 5 (eL 2 Sb)))
instance(a b):CT (LU a b) 209 [lI a,lI b] (rO lI):=B8 f209 0x8202bcfd76fdfd3cb5e0bb02ccaa01f5fd81e501406002 [] (LU.eq_1 ..) (BI 0 6 0 0 (hO 5 lI))
instance(a b c d):CT (Ks a b c d) 207 [A8 a,A8 b,FN c,Az d] (rO lI):=B8 f207 0x82020901b80907050576b8090705730a090705053cb5e0c38a0a0e5b4103d8300e7d03d830a5015a09017f5a01b809070505e80ec4e50140935c1300 [] (Ks.eq_1 ..) (BI 0 11 5 1 (hO 9 lI))
instance(a b):CT (Na a b) 208 [eI a,lI b] (rO lI):=B8 f208 0x8202bcfd76fdfd3cb5e0c3ccaaea30fd81e501406002 [] (Na.eq_1 ..) (BI 0 6 0 0 (hO 5 lI))
instance(a b c d):CT (SP a b c d) 149 [A8 a,A8 b,FN c,Az d] (rT FN eI):=Fk f149 0x8013b818404460e0e5a5aed0e0ec4d937df46850b8c36c537df4685730e5a5a0b0ec4378460f48c36c560c95c91 [] [.cell 8 (Y 2),.tmp 9] λr h e f=>by
  unfold SP at h;exact nz
instance(a b c):CT (Kv a b c) 334 [eI a,lI b,lI c] (rO lI):=JK f334 0x821807010907b5047601f8bbbb140701f50907b5048107b503780260057619014fb31907b5036130780260058101ce014002be [] (Kv.eq_1 ..) (BI 0 8 0 0 (hX 7 1 eI)) (BI 2 9 1 0 (hX 7 1 eI))
instance(a b):CT (GT a b) 331 [.pt (Us a).cells,lI b] rB:=JK f331 0xa605be5f55be05be8188010705a778a1600676720a055e7e017eee5e5a015a55c430b2efc8907d0471010705a77f7d04713078a160069bff05be8a73017e55f75ab2efc8907d0271607f7d0271aabe81fc [] (GT.eq_1 ..) (BM 0 5 0 3) (BI 2 8 0 5 (hT 7 eB))
instance(a b c):CT (Cs a b c) 333 [.pt (Us a).cells,lI b,eI c] rB:=B8 f333 0xa60702a776b901bb00ff8a0308713073300702a781c3be [] (Cs.eq_1 ..) (⟨⟩:HW 0 λ(d:Int)=>[(7,.tv (eI d))])
noncomputable def dB:PC:=PC.of Nr f332.body (xq bT 0x1da0260065f01da026006da0260063c005201e0304830470132ffda0260068a055e7e017eee5e5a015aeec47220303272bc9d7d06a2559d7d06a2b2efc8907d04a2d77f7d04a201da02600681b2efc8907d02a2ff014a0a710248024704460148304701483047040aa232850b7d02a25d0bea0309a20b030aa202be) []
theorem AA8:CK f332 dB []:=b!
theorem ABX:PC.sB dB=X/\PC.tn 0 dB=X:=b!
abbrev Q_332(n:Nat):Prop:=∀(b:Ay)(a:Fp)(l:Fp),CT (CA n b a l) 332 [.undef,lI a,lI l] (λr=>.bo (CO b) (CO r) 0 [])
theorem AAp(n:Nat)(_ih_332:Q_332 n)(b:Ay)(a:Fp)(l:Fp):CT (CA (n+1) b a l) 332 [.undef,lI a,lI l] (λr=>.bo (CO b) (CO r) 0 []):=aA AA8 ABX λr h e d f=>by
  unfold dB;unfold f332;unfold CA at h;have:HW 0 λ(c:Ay×Int)=>[(0,.bx (CO c.1)),(8,.tv (eI c.2))]:=⟨⟩;exact nz
theorem AAo:∀n:Nat,Q_332 n:=by
  intro n
  induction n with
  |zero=>exact(λa ea l=>⟨λ_ h=>c_⟩)
  |succ n b=>exact AAp n b
instance(s_0 ea l):CT (Kg s_0 ea l) 332 [.undef,lI ea,lI l] (λr=>.bo (CO s_0) (CO r) 0 []):=⟨λr h=>by
  obtain ⟨N,a⟩:=Cn h;exact((AAo N) s_0 ea l).snd r (a N (ae _))⟩
noncomputable def dA:PC:=PC.of Nr f263.body (xq bT 0x5504a75f5504a770a73c005201e03048304732ff70a78aa59d6a02a29d6a04a2363838327220303272bc9d6a06a2559d6a06a2d77f6a04a25504a781ff3f0132850b6a02a25d0b748a08200132550309a20b030aa26002) [.zt 332 [.s 32,.s 33,.c (.list 1 [])] 0]
theorem AA6:CK f263 dA []:=b!
theorem ABW:PC.sB dA=X/\PC.tn 0 dA=X:=b!
abbrev Q_263(n:Nat):Prop:=∀(a:Ay)(l:Fp),CT (CB n a l) 263 [.undef,lI l] (λr=>.bo (CO a) (CO r) 0 [])
theorem AAd(n:Nat)(_ih_263:Q_263 n)(a:Ay)(l:Fp):CT (CB (n+1) a l) 263 [.undef,lI l] (λr=>.bo (CO a) (CO r) 0 []):=aA AA6 ABW λr h d c e=>by
  unfold dA;unfold f263;unfold CB at h;have:HW 0 λ(b:Ay×Int)=>[(0,.bx (CO b.1)),(5,.tv (eI b.2))]:=⟨⟩;exact nz
theorem AAc:∀n:Nat,Q_263 n:=by
  intro n
  induction n with
  |zero=>exact(λa l=>⟨λ_ h=>c_⟩)
  |succ n b=>exact AAd n b
instance(s_0 l):CT (Hr s_0 l) 263 [.undef,lI l] (λr=>.bo (CO s_0) (CO r) 0 []):=⟨λr h=>by
  obtain ⟨N,a⟩:=Cn h;exact((AAc N) s_0 l).snd r (a N (ae _))⟩
instance(a b c d e f):CT (K8 a b c d e f) 200 [AK a,A8 b,A8 c,Az d,eB e,eI f] (rS (eL 2 Az)):=Fe f200 0x82030a71383f3800c2bf1b4630c5c502405c5c7002 [.AaW [W,W,W,W,W,W,W,W,W,W,Y ⟨X,.list 2 []⟩] (.s 20),.zt 263 [.s 22,.c (.list 1 [])] 0] (K8.eq_1 ..)
instance(a b c):CT (Ku a b c) 382 [lI a,eI b,eI c] rI:=B8 f382 0xa6070200f096bc5e7705bbe1300702000381b9010b3002be [] (Ku.eq_1 ..) (BM 0 7 0 0)
instance(a b c d e):CT (I5 a b c d e) 335 [AK a,A8 b,A8 c,Az d,eB e] (rT (eL 2 Az) eI):=Fe f335 0xe8013702c085f7820eb136c53702c07c0eeded5a3702c07c0ed90bc43702c08aebed55d9d93702c07c8cc5c3405c5c0401 [] (I5.eq_1 ..)
instance(a b):CT (Fr a b) 155 [QT a,lI b] (rT eI eI):=Fe f155 0x9b0eb1cb8a7301595559309330 [] (Fr.eq_1 ..)
instance(a b c d):CT (Mz a b c d) 336 [BP a,Bj b,Az c,lI d] (rT lI eB):=nL f336 0xe8180a01120a04f037e58a0a05770559ee7705595d6b0120143603425d6b01201436add404c989059003ac0a017f03ac01120a04038004020db80670067637e58577816b01201436a90f0e0db80670080f0e0db80670083c01f801f8057da9016aa9146aa9148a0817d36aa914556aa9815e5a5e5ec47e044b05c9d5e77e0a04027f7e010db806700681b80670050cb806d007760cb806d0070cb806d0073c19014fb319850b77f8737714b806700561b7010cb806d00781993fb799014f30563040935c31 [.mkx 1 [.bool T] (.s 28)] (Mz.eq_1 ..) (BI 0 12 4 3 λs0:Fp×a5=>[(10,.xo 1 (v1 eI s0.1)),(11,.xo 1 (v1 eB s0.2))]) (BI 2 13 4 2 λs2:Fp×a5=>[(10,.xo 1 (v1 eI s2.1)),(11,.xo 1 (v1 eB s2.2))]) (BM 4 18 4 4)
instance(a b c d e):CT (F4 a b c d e) 267 [AK a,AJ b,Bj c,Bn d,eB e] (rT (eL 3 Bn) eI):=B8 f267 0xe802100111100e0cda7611100e0cda11100e0cda3c02034803470946b102b6029bd17e3602b662891001f511100e0cda8103c03703c07cd1b1cfcf36dfc904460edd7da90bdd0ebd6aa90bbdd409c989ac0103405c5c0401 [] (F4.eq_1 ..) (BI 0 17 14 0 (hO 16 (eL 3 Bn)))
abbrev Q_210(n:Nat):Prop:=∀(t:AC)(c:d5)(b:AF)(m:AP)(a:Bool),CT (DX n t c b m a) 210 [AK t,AJ c,Bj b,Bn m,eB a] (rT FV eI)
theorem AAT(n:Nat)(_ih_210:Q_210 n)(t:AC)(c:d5)(b:AF)(m:AP)(a:Bool):CT (DX (n+1) t c b m a) 210 [AK t,AJ c,Bj b,Bn m,eB a] (rT FV eI):=Fk f210 0xba4b0a46ff37d40a460a0117150a0706700776ff0a013bba4b010c46054789c8b66cd40ee901c8b662fb435a360a01f517150a070670078137d472f4d10162629f36baba4b0a460a01120ada70077637d4010b460547897cd40ee9016262fbd8360a017f5a01120ada70079b05ba4b890e0a020f0e0ada700876014aac054805478904ac37d472f4d40ee9016262fbd8360e0a027f5a010f0e0ada7008ba500ec93fbaba4b724637d40a46850137d40af4d40e4975016262fb435a36ba833265c95c5c0401 [.Aah [.z ⟨T,.int .i64 0⟩,.z ⟨X,.list 1 []⟩,.z ⟨X,.list 1 []⟩,.z ⟨X,.list 1 []⟩,.z ⟨X,.list 5 []⟩]] [.cell 10 (Y 5),.tmp 11] λr h d e=>by
  unfold DX at h;have:=BI 1 15 6 1 λs1:BQ×BQ=>[(10,.bx [⟨T,eI s1.1.Aag⟩,⟨X,lI s1.1.j0.d4.dl⟩,⟨X,lI s1.1.j0.d4.d3⟩,⟨X,lI s1.1.j0.ey⟩,⟨X,JQ s1.1.em⟩]),(14,.bx [⟨T,eI s1.2.Aag⟩,⟨X,lI s1.2.j0.d4.dl⟩,⟨X,lI s1.2.j0.d4.d3⟩,⟨X,lI s1.2.j0.ey⟩,⟨X,JQ s1.2.em⟩])];have:=BI 3 18 6 1 λs3:BQ=>[(10,.bx [⟨T,eI s3.Aag⟩,⟨X,lI s3.j0.d4.dl⟩,⟨X,lI s3.j0.d4.d3⟩,⟨X,lI s3.j0.ey⟩,⟨X,JQ s3.em⟩])];have:=BI 5 23 21 0 λs5:BQ=>[(10,.bx [⟨T,eI s5.Aag⟩,⟨X,lI s5.j0.d4.dl⟩,⟨X,lI s5.j0.d4.d3⟩,⟨X,lI s5.j0.ey⟩,⟨X,JQ s5.em⟩])];exact nz
theorem AAS:∀n:Nat,Q_210 n:=by
  intro n
  induction n with
  |zero=>exact(λt c a m en=>⟨λ_ h=>c_⟩)
  |succ n b=>exact AAT n b
instance(t c h_2 m en):CT (Qh t c h_2 m en) 210 [AK t,AJ c,Bj h_2,Bn m,eB en] (rT FV eI):=⟨λr h=>by
  obtain ⟨N,a⟩:=Cn h;exact((AAS N) t c h_2 m en).snd r (a N (ae _))⟩
instance(a b c d e):CT (KM a b c d e) 150 [AK a,AJ b,Bj c,Bn d,eB e] (rT eB eI):=Fe f150 0x9b5501cb6cd40e49750162629f36305c5c0401 [] (KM.eq_1 ..)
instance(a b c d):CT (It a b c d) 92 [AK a,B3 b,Bj c,Bn d] (rT FN eI):=Fk f92 0x8184b10d0b08030d0b08033c018a08aa308175030f4262629f104236378460468530dfe9cf360b42cf363784604685308407e9cfcf3638ad3637df46cc7e01378460f4d1cf6289ad3637df46850e030f42cfcf3638ad3660c95c91 [] [.cell 8 (Y 2),.tmp 9] λr h f g=>by
  unfold It at h;have:HJ 95 λ(e:Int)=>[(11,.tv (eI e))]:=⟨⟩;exact nz
instance(a b c):CT (H6 a b c) 151 [AK a,Bj b,FN c] (rT Bj eI):=Fk f151 0x81b2620d06020e0d0b06040576014aa901e001485e9d597eb304a90d06027f59650d0b06040581035010c93f3637b20119f484dfc907c91175c53237b20119f4017562360110c99391 [.Aah [.v (.s 37) 0 2,.v (.s 37) 1 2,.z ⟨X,.list 1 []⟩]] [.cell 6 (Y 3),.tmp 7] λr h e f=>by
  unfold H6 at h;have:HW 0 λ(d:AF×Int)=>[(13,.bx [⟨T,lI d.1.dr.dl⟩,⟨T,lE d.1.dr.d3⟩,⟨X,(eL 1 lI) d.1.eb⟩]),(14,.tv (eI d.2))]:=⟨⟩;exact nz
instance(a b):CT (NZ a b) 153 [lI a,eI b] (rO lI):=JK f153 0x8218bcfd76fd07a160057607a1600507a160053c01f830148501bbfdf507a160058119014fb319bc6130fd8101ce01406002 [] (NZ.eq_1 ..) (BI 0 6 1 0 (hX 5 1 eI)) (BI 2 7 0 0 (hX 5 1 eI))
instance(a b):CT (M0 a b) 152 [eI a,lI b] (rO lI):=Fe f152 0x820e77406002 [] (M0.eq_1 ..)
end Go.Sf.Sc
