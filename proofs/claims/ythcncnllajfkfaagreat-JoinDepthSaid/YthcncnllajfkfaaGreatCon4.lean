/- Contracts of the functions. -/
import Derived.Test.YthcncnllajfkfaaGreatCon0
set_option linter.all false
set_option maxRecDepth 100000
set_option maxHeartbeats 4000000
open Option renaming some->Y,none->W
open Bool renaming true->X,false->T
open List renaming map->w_
namespace Go.Sf.Sc
open Go Go.Sf Go.Proofs.Tryz
instance(a):CT (Di a) 117 [A2 a] (λr=>.oag [⟨X,lI r.d3⟩,⟨X,lE r.d4⟩]):=Fk f117 0xad3b0250e1485c034701485ba7fafc [.Aao [.w 6,.w 10]] [.cell 2 (Y 2)] λr h b c=>by
  unfold Di at h;exact nz
instance(a):CT (Mr a) 59 [Bg a] (λr=>.oag [⟨X,lI r.d5.d3⟩,⟨X,lE r.d5.d4⟩,⟨X,.xn (w_ lI r.ej)⟩]):=Fk f59 0x35003535d02dee8751fac2122014f8d90015623ac5d02899001dee881035016c93f1bd316c9fc [.Aao [.g 7 0 2,.g 7 1 2,.z ⟨X,.xn []⟩]] [.cell 2 (Y 3)] λr h b c=>by
  unfold Mr at h;have:=BG 0 4 1 2 λs0:AG=>[(3,.bx [⟨X,lI s0.d5.d3⟩,⟨X,lE s0.d5.d4⟩,⟨X,.xn (w_ lI s0.ej)⟩])];exact nz
instance(a b c):CT (ED a b c) 140 [eI a,eI b,eI c] rB:=Fe f140 0xa2a58c013202d4 [] (ED.eq_1 ..)
abbrev Q_139(n:Nat):Prop:=∀(t:AC)(a:Int),CT (EZ n t a) 139 [AL t,eI a] (rO lA)
theorem zj(n:Nat)(_ih_139:Q_139 n)(t:AC)(a:Int):CT (EZ (n+1) t a) 139 [AL t,eI a] (rO lA):=Fj f139 0x8204488041d75b04480e7fd75b380447ff04c085e8409332 [] λh=>by
  unfold EZ at h;exact nz
theorem zi:∀n:Nat,Q_139 n:=by
  intro n
  induction n with
  |zero=>exact(λt a=>⟨λ_ h=>d_⟩)
  |succ n b=>exact zj n b
instance(t a):CT (N6 t a) 139 [AL t,eI a] (rO lA):=⟨λr h=>by
  obtain ⟨N,b⟩:=Cy h;exact((zi N) t a).snd r (b N (az _))⟩
instance(a):CT (Rs a) 327 [YF a] (rS eS):=Fe f327 0x815c553f3f5c855b3ffc [.mv (.c (.str ⟨#[]⟩)),.bin (.s) .add (.c (.str ⟨#[34]⟩)) (.s 7),.bin (.s) .add (.s 8) (.c (.str ⟨#[34]⟩))] (Rs.eq_1 ..)
instance(a):CT (Mm a) 376 [Eo a] rB:=Fe f376 0xa20a058c320a058c9101 [] (Mm.eq_1 ..)
instance(a):CT (J0 a) 377 [Eo a] rB:=Fe f377 0xa2058c9101 [] (J0.eq_1 ..)
instance(a b c):CT (Mp a b c) 378 [eS a,eI b,eB c] rI:=Bv f378 0x810107740702b45e0107748a0a0a0a0512f0320e12f03208320e12f08c0c59320702b481c4d4 [] (Mp.eq_1 ..) (⟨⟩:HW 0 λ(d:Int)=>[(7,.tv (eI d))])
instance(a b):CT (Im a b) 379 [eS a,eI b] rI:=Bv f379 0xaa05d475a1058c0155057e12a591620c598cd481b9 [] (Im.eq_1 ..) (⟨⟩:HW 0 λ(c:Int)=>[(5,.tv (eI c))])
instance ACq:CT (Qn ) 380 [] (rO lB):=Fe f380 0x823ffb00 [.lst 1 [.c (.str ⟨#[45,62]⟩),.c (.str ⟨#[60,61]⟩),.c (.str ⟨#[62,61]⟩),.c (.str ⟨#[61,61]⟩),.c (.str ⟨#[33,61]⟩),.c (.str ⟨#[123]⟩),.c (.str ⟨#[125]⟩),.c (.str ⟨#[40]⟩),.c (.str ⟨#[41]⟩),.c (.str ⟨#[91]⟩),.c (.str ⟨#[93]⟩),.c (.str ⟨#[44]⟩),.c (.str ⟨#[59]⟩),.c (.str ⟨#[58]⟩),.c (.str ⟨#[61]⟩),.c (.str ⟨#[43]⟩),.c (.str ⟨#[45]⟩),.c (.str ⟨#[42]⟩),.c (.str ⟨#[60]⟩),.c (.str ⟨#[62]⟩),.c (.str ⟨#[33]⟩),.c (.str ⟨#[38]⟩),.c (.str ⟨#[124]⟩),.c (.str ⟨#[46]⟩),.c (.str ⟨#[63]⟩)]] (Qn.eq_1 ..)
instance(a b):CT (Mn a b) 328 [eS a,eI b] (λr=>.tp [YF r.1,eI r.2.1,eI r.2.2]):=Fk f328 0x9ab11a460401c604650575ff04013b9ab10c8d3246eb8a06eb0d050ceb328c0c590c8d320401e7c604650581820eccb132460d05058c32ccb11a4685a5ccb11af60e328501ccb132460da53232ccb11a468532da08046506da080465063c328e609a0e0e01328a0e320e6012323217c96502 [] [.cell 4 (Y 3),.tmp 5,.tmp 6] λr h d e=>by
  unfold Mn at h;have:HJ 29 λ(c:Int×Int)=>[(9,.tv (eI c.1)),(10,.tv (eI c.2))]:=⟨⟩;have:=BG 0 13 12 0 λs0:G3=>[(4,.bx [⟨T,eI s0.kq⟩,⟨T,eS s0.AbR⟩,⟨T,eI s0.Line⟩])];exact nz
instance(a):CT (L0 a) 254 [YF a] rB:=Fe f254 0xa205dc76050c018c6081b117c911780155bf600e6bf9 [.bin (.s) .eql (.s 9) (.c (.str ⟨#[]⟩))] (L0.eq_1 ..)
instance(a):CT (EY a) 192 [eS a] rB:=Fe f192 0x810e01469101 [] (EY.eq_1 ..)
instance(a):CT (J1 a) 339 [lB a] rI:=KE f339 0xaac80275c80204c8f25586ebebc802623204c8fefd5f91e7c80281bb0b9101 [] (J1.eq_1 ..) (BM 0 3 0 0) (BM 2 4 3 0)
instance(a):CT (GI a) 272 [JU a] rI:=Fe f272 0x81a10570b690595cdfb655a1b35c9001b35c850bb6f9 [] (GI.eq_1 ..)
instance(a b):CT (LM a b) 215 [AL a,eI b] rI:=iR f215 0xaa7c0275dfd504c57c02097cf255867304c57304c57c026232097cfefd73044391e77c028170b6e5a1703270b6820eb5fda55c05ad039bad047555865b73d75b05ad0362329bad0481fd5b044b01c9d5d75b9f32 [] (LM.eq_1 ..) (BM 0 6 1 0) (BM 2 8 7 0) (BM 4 9 8 0)
instance(a b):CT (L4 a b) 273 [eI a,eI b] rB:=Fe f273 0xa20a0e018c320e01b9 [] (L4.eq_1 ..)
instance(a b):CT (LK a b) 216 [AL a,eI b] rI:=Bv f216 0x81a1b303bc03054276b303b7b676b3019001b3015c81705b0502029bad047555865b7307ca05020262329bad0481fd5b074b02c9074407ca9f32 [] (LK.eq_1 ..) (BM 0 6 1 0)
instance(a):CT (Ee a) 163 [AL a] (rT eS eI):=KE f163 0x81bf0006c475cc017307ca710eb500895c0106c4813204c475cc0173d75b710eb532895be8c48155bf8ad859bd55bf85bd013ffc [.mv (.c (.str ⟨#[]⟩)),.mv (.c (.str ⟨#[]⟩)),.mv (.c (.str ⟨#[]⟩)),.mv (.c (.str ⟨#[]⟩))] (Ee.eq_1 ..) (BM 0 4 1 0) (BM 2 6 1 1)
instance(a b c):CT (IL a b c) 138 [AL a,eI b,eI c] rI:=Fe f138 0x81a1b3705b32b3705b01a60178389fad02 [] (IL.eq_1 ..)
abbrev Q_141(n:Nat):Prop:=∀(t:AC)(a:Int)(b:Int),CT (D2 n t a b) 141 [AL t,eI a,eI b] rB
theorem zl(n:Nat)(_ih_141:Q_141 n)(t:AC)(a:Int)(b:Int):CT (D2 (n+1) t a b) 141 [AL t,eI a,eI b] rB:=Fj f141 0xa20a0e017fd75b38598c013293ad02 [] λh=>by
  unfold D2 at h;exact nz
theorem zk:∀n:Nat,Q_141 n:=by
  intro n
  induction n with
  |zero=>exact(λt a b=>⟨λ_ h=>d_⟩)
  |succ n c=>exact zl n c
instance(t a b):CT (FE t a b) 141 [AL t,eI a,eI b] rB:=⟨λr h=>by
  obtain ⟨N,c⟩:=Cy h;exact((zk N) t a b).snd r (c N (az _))⟩
instance(a b c d):CT (HC a b c d) 89 [AL a,eI b,eI c,eI d] rB:=Fe f89 0xa20e5d4107cab56c7f07cab5a1b3d88c0e32389f5df7 [] (HC.eq_1 ..)
instance(a):CT (NV a) 189 [eI a] rB:=Fe f189 0xa2058c9101 [] (NV.eq_1 ..)
instance(a b):CT (Qo a b) 190 [B5 a,eI b] rB:=Fe f190 0xa2a59076059076a55c76055c6c5b9f32 [] (Qo.eq_1 ..)
instance(a):CT (D7 a) 135 [A2 a] rI:=KE f135 0xaa04c475fdbdcfca00895ce8c48132360275fd8d5b32895b01360281a1d859bdf9 [] (D7.eq_1 ..) (BM 0 3 1 0) (BM 2 4 1 1)
instance(a b):CT (Ds a b) 88 [AL a,eI b] (rT lA eI):=Bv f88 0x81ec0701097cf20204480447d5ad4a03420148b6a7044b03c9d504c50701e7097cfe820eb504c05504c07e0e3238e8409332 [] (Ds.eq_1 ..) (BG 0 9 8 0 (hO 7 lA))
instance(a b c):CT (LP a b c) 164 [AL a,eI b,lI c] rI:=Bv f164 0xaa090702f2a1055d4104c58d8c7f04c55f91e7090702febbe50b32e3b555830241d75bbbbd3293ad02 [] (LP.eq_1 ..) (BM 0 9 7 0)
instance(a b):CT (F2 a b) 102 [AL a,Bg b] (rT eI eI):=KE f102 0x9a000b5df2cc01d65f90be5f5cbe5b38cc0185e95bb1eecf7dea0089ea010b5dfe5d02095df2cc32710e8d908dbe385d0289be01095dfecc850bbe0b90cc7e9237cc7e017838329d [] (F2.eq_1 ..) (BM 0 9 3 0) (BM 2 11 3 1)
instance(a b):CT (IP a b) 255 [AL a,A2 b] rB:=KE f255 0xaa065df2a1d87303ca597303ca00895c01065dfe5d02055df2a1705b8d5b598d5b5d02895b595dfef1 [] (IP.eq_1 ..) (BM 0 5 3 0) (BM 2 6 3 1)
instance(a b c d):CT (LR a b c d) 256 [AL a,BQ b,eI c,eI d] (rT JU eB):=Fk f256 0x81044bd504c555044b02468a7001320a058c60e38dbe3855044b02468a70be8c3203c9615d02 [] [.cell 8 (Y 4),.tmp 9] λr h e f=>by
  unfold LR at h;exact nz
instance(a):CT (OU a) 257 [eI a] rB:=Fe f257 0xa2058c9101 [] (OU.eq_1 ..)
instance(a b):CT (Kb a b) 381 [eI a,Su b] rI:=Fe f381 0x81a1055c76055c76a55b595bf901 [] (Kb.eq_1 ..)
instance(a b):CT (RC a b) 329 [eI a,F1 b] rI:=Fe f329 0x8192034201a692b801a1055b595bf901 [] (RC.eq_1 ..)
instance(a b):CT (N5 a b) 258 [eI a,lT b] rI:=Bv f258 0xaa05d475df9e057d91898cd481bbe5a1058c01b9 [] (N5.eq_1 ..) (BM 0 5 1 0)
instance(a b):CT (Mt a b) 259 [BQ a,eI b] rB:=Bv f259 0xaa05adf2bb01730241d79000899059adfe9f32 [] (Mt.eq_1 ..) (BM 0 5 2 2)
instance(a b):CT (F4 a b) 193 [AL a,BQ b] rI:=KE f193 0xaa0d5d75fd59440062b6010d5d81df03b7b636085df2a1b37fac7605b673ac760573ac010860044b0349785c5b9e38044b05c9d5d79036899001085dfea17003b7590b90a105b659b65588923738a69237a6017838f1 [] (F4.eq_1 ..) (BM 0 8 3 2) (BM 2 13 3 3)
instance(a):CT (Iq a) 383 [AI a] rB:=Fe f383 0xa2058041b7760570030441b70b5d41b732db703677b770735ab7707fac0b73acf9 [] (Iq.eq_1 ..)
instance(a):CT (OD a) 337 [AI a] rB:=Bv f337 0x81ff55d8dba20ea959e91904f75e1904f7dba20ea959e9dba20ea959e9db8337f9 [] (OD.eq_1 ..) (⟨⟩:HJ 25 λ(b:Bool)=>[(25,.tv (eB b))])
abbrev Q_268(n:Nat):Prop:=∀(c:d7),CT (DI n c) 268 [AI c] rB
theorem AAF(n:Nat)(_ih_268:Q_268 n)(c:d7):CT (DI (n+1) c) 268 [AI c] rB:=Fj f268 0xaa360275fda909ca00895c01360281fda9f9 [] λh=>by
  unfold DI at h;have:=BM 0 3 1 1;exact nz
theorem AAE:∀n:Nat,Q_268 n:=by
  intro n
  induction n with
  |zero=>exact(λc=>⟨λ_ h=>d_⟩)
  |succ n a=>exact AAF n a
instance(c):CT (NZ c) 268 [AI c] rB:=⟨λr h=>by
  obtain ⟨N,a⟩:=Cy h;exact((AAE N) c).snd r (a N (az _))⟩
abbrev Q_269(n:Nat):Prop:=∀(c:d7),CT (Dj n c) 269 [AI c] (rT eI eI)
theorem AAH(n:Nat)(_ih_269:Q_269 n)(c:d7):CT (Dj (n+1) c) 269 [AI c] (rT eI eI):=Fj f269 0x9a326a026a025e01855b6af7a8e875322c8c329a78a909ca6af7895c01a8e8819a32fc [] λh=>by
  unfold Dj at h;have:=BG 0 6 1 1 λs0:Int×Int=>[(4,.tv (eI s0.1)),(5,.tv (eI s0.2))];have:HJ 33 λ(a:Int)=>[(5,.tv (eI a))]:=⟨⟩;exact nz
theorem AAG:∀n:Nat,Q_269 n:=by
  intro n
  induction n with
  |zero=>exact(λc=>⟨λ_ h=>d_⟩)
  |succ n a=>exact AAH n a
instance(c):CT (OV c) 269 [AI c] (rT eI eI):=⟨λr h=>by
  obtain ⟨N,a⟩:=Cy h;exact((AAG N) c).snd r (a N (az _))⟩
instance(a):CT (J8 a) 212 [AI a] rI:=Fe f212 0x81a1058c608178a9fda9f9 [] (J8.eq_1 ..)
instance(a b c):CT (IM a b c) 261 [A2 a,A2 b,A6 c] rI:=KE f261 0xaa0acb0475a105905f905b595c5f5c5bbbdcb1b1eeeecf438d5c5ccfcaa1d88d5c598d5c00895c76cb04816a8009cb0475bb8d5b5f8ddca1705b8d5b598d5b6a80895b0109cb0481a1d8e959bdbda692a6929f9d [] (IM.eq_1 ..) (BM 0 9 3 0) (BM 2 10 3 1)
instance(a b):CT (Pn a b) 338 [BQ a,eI b] rB:=Bv f338 0xaa05adf2bb01730241d79000899059adfe9f32 [] (Pn.eq_1 ..) (BM 0 5 2 2)
instance(a b c):CT (J9 a b c) 270 [AL a,eI b,BQ c] rI:=Bv f270 0xaa7c05f25501d659440062b6017c05fe01df9e38bb01b6016132 [] (J9.eq_1 ..) (BM 0 8 5 3)
instance(a):CT (Fo a) 196 [lI a] rB:=KE f196 0xaac80275c80204c8f2bbebebc802623204c803aae7c802816501 [] (Fo.eq_1 ..) (BM 0 3 0 0) (BM 2 4 3 0)
instance(a b c):CT (Jh a b c) 271 [A2 a,A2 b,A6 c] rB:=Fe f271 0xa20e5c760e5b5992c19f9d [] (Jh.eq_1 ..)
abbrev Q_213(n:Nat):Prop:=∀(t:AC)(p:ea)(c:d7),CT (D8 n t p c) 213 [AL t,BQ p,AI c] rI
theorem z8(n:Nat)(_ih_213:Q_213 n)(t:AC)(p:ea)(c:d7):CT (D8 (n+1) t p c) 213 [AL t,BQ p,AI c] rI:=Fj f213 0xaa0a0705030475dfa909ca9e3800895c7607050304810705800705803cba9eb7558892ac385ab7d3a692ac385ab7d3df9eb7b638855bba09c99e9f9d [] λh=>by
  unfold D8 at h;have:=BM 0 10 5 1;exact nz
theorem z7:∀n:Nat,Q_213 n:=by
  intro n
  induction n with
  |zero=>exact(λt p c=>⟨λ_ h=>d_⟩)
  |succ n a=>exact z8 n a
instance(t p c):CT (Uj t p c) 213 [AL t,BQ p,AI c] rI:=⟨λr h=>by
  obtain ⟨N,a⟩:=Cy h;exact((z7 N) t p c).snd r (a N (az _))⟩
instance(a b c):CT (IR a b c) 159 [AL a,BQ b,AI c] rI:=Fe f159 0x810ea99e38dfa9df9e389f9d [] (IR.eq_1 ..)
instance(a b c):CT (LS a b c) 260 [AL a,BQ b,eI c] rI:=Bv f260 0xaa0a0704020475a1055c7fd790595b73d7900062320a0704020481a1057fac76057fac7605b673ac760573ac7670015c595c01e35f5bbe38a170be5b595b044b05c9d5d7900161ad [] (LS.eq_1 ..) (BM 0 10 2 0)
instance(a b):CT (KA a b) 194 [AL a,CB b] rI:=Bv f194 0xaa065df2df5944bc3800895d41bc01065dfebb0b5d41bca170030441bc598041b88041bc5588925abc38a6925abcf1 [] (KA.eq_1 ..) (BM 0 6 3 8)
instance(a b):CT (Hh a b) 252 [lI a,eI b] rI:=Bv f252 0xaa05d475a1055ff08d8c01a1a58d8c5f91898cd481b9 [] (Hh.eq_1 ..) (BM 0 5 0 0)
instance(a b):CT (RD a b) 253 [lI a,eI b] rB:=Bv f253 0xaa05d475bb015f91898cd481b9 [] (RD.eq_1 ..) (BM 0 5 0 0)
instance(a b):CT (Qp a b) 188 [A2 a,Hc b] rI:=Bv f188 0xaa075df2a1b3905b01b35c5bb1eecf438d5c5c00895c01075dfedfe95cdfbd5bf1 [] (Qp.eq_1 ..) (BM 0 7 3 1)
instance(a b):CT (J2 a b) 131 [A2 a,Hc b] rI:=Fe f131 0x819238a692f1 [] (J2.eq_1 ..)
instance(a b):CT (J3 a b) 132 [lI a,eI b] rI:=Bv f132 0xaa05d475550185015f91898cd481b9 [] (J3.eq_1 ..) (BM 0 5 0 0)
instance(a b):CT (Hm a b) 80 [A2 a,Hc b] (λr=>.tp [A2 r.1,A6 r.2.1,eI r.2.2]):=Fk f80 0x6a023b818484044601485ca701485ba73808cb040a08e60675d9b80348034707460e905b0e5cdc04b8b1eecf438d5c5c08cb04895c7608e6068108e6050908e60675d93701d05f8ddc043708e605895b010908e60681fa558484654603f6923865c9fa9d [] [.cell 4 (Y 2),.cell 5 (Y 2),.tmp 6] λr h c d=>by
  unfold Hm at h;have:=BG 0 9 3 0 λs0:d5=>[(8,.bx [⟨X,lI s0.d3⟩,⟨X,lE s0.d4⟩])];have:=BG 2 10 3 1 λs2:d5=>[(8,.bx [⟨X,lI s2.d3⟩,⟨X,lE s2.d4⟩])];exact nz
instance(a):CT (Po a) 195 [CB a] rI:=Fe f195 0x81920d42385abc380184840049fa1178380b42385ab8a6920b42385ab8f9 [] (Po.eq_1 ..)
instance(a b):CT (TC a b) 330 [lI a,eI b] rB:=Bv f330 0xaa05d475bb015f91898cd481b9 [] (TC.eq_1 ..) (BM 0 5 0 0)
instance(a b):CT (Nc a b) 262 [eI a,lI b] (rO lI):=Bv f262 0xeca59bb4759bb49bb43cadd0c4d68cf8329bb481e0fb6502 [] (Nc.eq_1 ..) (BG 0 6 0 0 (hO 5 lI))
instance(a):CT (Ls a) 197 [CB a] (rT lI lI):=Fe f197 0x82820e7f0d420b3677bc0e730d420b735abcfbfbfc [] (Ls.eq_1 ..)
instance(a b c d):CT (Ir a b c d) 198 [AL a,A2 b,lI c,lI d] rB:=KE f198 0xaa0acb0475fd5f905b5f5cdc38b1eecf43eb5c00e70acb04816a8009e605755583024104435febdc6a80e709e6058101615d02 [] (Ir.eq_1 ..) (BM 0 9 2 0) (BM 2 10 3 0)
instance(a b):CT (IS a b) 142 [AL a,CB b] rI:=Fe f142 0x810ea910429eb838fd32385abc3882e3d1a1b37f0d4201b3730d42dfd1dfd138df9eb838fd5ba6017838f1 [] (IS.eq_1 ..)
instance(a b c):CT (HH a b c) 90 [AL a,CB b,Bg c] rI:=Fe f90 0x816001786b38dfd1389f9d [] (HH.eq_1 ..)
instance(a b):CT (IY a b) 62 [lI a,lI b] rB:=Bv f62 0xaa05d475bbeb5f91898cd481bbe5e5b9 [] (IY.eq_1 ..) (BM 0 5 0 0)
instance(a b c):CT (F3 a b c) 199 [AL a,A2 b,A2 c] rI:=Fe f199 0x81a108923801089238a692a692a60178389f9d [] (F3.eq_1 ..)
instance(a):CT (Ke a) 265 [lI a] rB:=KE f265 0xaac80275c80204c8f2bbebebc802623204c803aae7c802816501 [] (Ke.eq_1 ..) (BM 0 3 0 0) (BM 2 4 3 0)
instance(a b c d e):CT (J4 a b c d e) 204 [AL a,A2 b,A2 c,A6 d,eB e] rI:=KE f204 0x81a10ab35c01b35b320804020c7c06040575a105905f905b595c5f5c5bbbdcb1b1eeeecf438d5c5ccfcaa1d88d5c598d5c080402895c010c7c060405817c0604040b7ca80675fd8d5b5f8ddc38a1705b8d5b598d5b7c060404895b010b7ca80681a1d8e959bdbd0161610401 [] (J4.eq_1 ..) (BM 0 11 8 0) (BM 2 12 8 1)
instance(a b c d e):CT (HD a b c d e) 146 [AL a,A2 b,A2 c,A6 d,eB e] rI:=Fe f146 0x810eb538c1a692c10161610401 [] (HD.eq_1 ..)
instance(a b c):CT (IQ a b c) 143 [AL a,BQ b,Bg c] rI:=Fe f143 0x816001786b38df9e389f9d [] (IQ.eq_1 ..)
instance(a b):CT (J6 a b) 202 [Su a,lI b] rI:=Fe f202 0xdb5c5f5b01555c855b9f32 [] (J6.eq_1 ..)
instance(a b):CT (L3 a b) 264 [Su a,lI b] (rT eI eB):=Fe f264 0x9a055c5f5b01cc8a70015b595bcc5c855b329332 [] (L3.eq_1 ..)
instance(a b):CT (N4 a b) 203 [F1 a,lI b] rB:=Fe f203 0xa20aa58c5b76a58c5ba1083208608178b503429a78b5b89f32 [] (N4.eq_1 ..)
instance(a b c):CT (Ip a b c) 145 [BQ a,Bg b,A6 c] (rT lI eI):=KE f145 0x818218086c08807555e08820149e057d03b708018903b76c088081085dda08cb067555e08501201438ac0cc30908cb080cc30908cb083cf4057fac3214f401148a0817cd0114596073ac815f5c5f5fdc90044b05c9d5d790085d8990760908cb0681993fb6993fb63240939d [.mkx 1 [.int .i64 0] (.s 16),.mkx 1 [.bool T] (.s 19)] (Ip.eq_1 ..) (BG 0 10 3 2 λs0:Fp×a6=>[(8,.xo 1 (w_ eI s0.1)),(9,.xo 1 (w_ eB s0.2))]) (BM 2 14 3 4)
instance(a b c d):CT (J5 a b c d) 147 [AL a,BQ b,Bg c,A6 d] (rT lI eI):=Fe f147 0x818272926b9e55e07e92d3d33855e07e0e6b9e383240619d [] (J5.eq_1 ..)
instance(a b c d):CT (Gy a b c d) 148 [AL a,A2 b,A2 c,A6 d] (rT A2 eI):=Fk f148 0x8184380b3e0b08020c0b7c9b75f45f8ddc011d370b080262151d37010c0b7c9b81025018c927385584f7f69238c101fa619d [] [.cell 8 (Y 2),.tmp 9] λr h f g=>by
  unfold Gy at h;have:HW 0 λ(e:d5×Int)=>[(11,.bx [⟨X,.xl 1 (w_ eI e.1.d3)⟩,⟨X,.xl 3 (w_ B5 e.1.d4)⟩]),(12,.tv (eI e.2))]:=⟨⟩;exact nz
instance(a b c d):CT (Qq a b c d) 205 [A2 a,A2 b,Hc c,A6 d] rI:=Fe f205 0x819238a692c101619d [] (Qq.eq_1 ..)
instance(a b):CT (Ea a b) 266 [lI a,eI b] rB:=Bv f266 0xaa05d475bb015f91898cd481b9 [] (Ea.eq_1 ..) (BM 0 5 0 0)
instance(a b):CT (Gx a b) 206 [lI a,lI b] (rO (eL 2 St)):=KE f206 0xeca59bb4759bb4f5650575f56505f565053c0202480247054632028a0ab30132b3018cebeb9bb4e7f56505db5901e79bb48102c002406502 [] (Gx.eq_1 ..) (BG 0 6 0 0 (hO 5 (eL 2 St))) (BG 2 7 0 0 (hO 5 (eL 2 St)))
instance(a b):CT (LN a b) 209 [lI a,lI b] (rO lI):=Bv f209 0xeca59bb4759bb49bb43cadd0eb02d68c01e79bb481e0fb6502 [] (LN.eq_1 ..) (BG 0 6 0 0 (hO 5 lI))
instance(a b c d):CT (Kd a b c d) 207 [A2 a,A2 b,Hc c,A6 d] (rO lI):=Bv f207 0xec0901c30907050575c309070570da0705053cadd0c48a0a0e5d4103ca320e7f03ca32b3015c0901895c01c30907050581820edce0fb93611300 [] (Kd.eq_1 ..) (BG 0 11 5 1 (hO 9 lI))
instance(a b):CT (NX a b) 208 [eI a,lI b] (rO lI):=Bv f208 0xeca59bb4759bb49bb43cadd0c4d68cf8329bb481e0fb6502 [] (NX.eq_1 ..) (BG 0 6 0 0 (hO 5 lI))
instance(a b c d):CT (Sa a b c d) 149 [A2 a,A2 b,Hc c,A6 d] (rT Hc eI):=Fk f149 0x8013b818404460e0e5c5ce90e0edcbd55840046850b9238c15584004685700e5c5c0b0edc558465f69238c165c9619d [] [.cell 8 (Y 2),.tmp 9] λr h e f=>by
  unfold Sa at h;exact nz
instance(a b c):CT (Kg a b c) 334 [eI a,lI b,lI c] (rO lI):=KE f334 0x821807010907ad0475f4ebeb140701e70907ad048107ad037c0265057519014fa71907ad0362327c0265058101cefb02d4 [] (Kg.eq_1 ..) (BG 0 8 0 0 (hX 7 1 eI)) (BG 2 9 1 0 (hX 7 1 eI))
instance(a b):CT (F9 a b) 331 [.pt (U0 a).cells,lI b] rB:=KE f331 0xaa05d45e59d405d48188010705b47c9b650675760a055f90019076055f5c015c59dc32b1eecf7d7f0477010705b4897f0477327c9b65069aff05d48a70019059e55cb1eecf7d7f027765897f02778cd481b9 [] (F9.eq_1 ..) (BM 0 5 0 3) (BG 2 8 0 5 (hT 7 eB))
instance(a b c):CT (Ci a b c) 333 [.pt (U0 a).cells,lI b,eI c] rB:=Bv f333 0xaa0702b475bb015f91ff8a0308773270320702b481c4d4 [] (Ci.eq_1 ..) (⟨⟩:HW 0 λ(d:Int)=>[(7,.tv (eI d))])
noncomputable def cu:PC:=PC.of OL f332.body (xq bT 0x17c060265065e017c060265067c060265063c005201d0324832470137ff7c060265068a055f90019076055f5c015c7605dc7620323776a58d7f06b2598d7f06b2b1eecf7d7f04b20001897f04b2017c0602650681b1eecf7d7f02b2ffd90a770248024704460148324701483247040ab237850b7f02b260e5620309b20b030ab202d4) []
theorem AAe:CK f332 cu []:=c!
theorem AA6:PC.x9 cu=X/\PC.zt 0 cu=X:=c!
abbrev Q_332(n:Nat):Prop:=∀(b:Az)(a:Fp)(l:Fp),CT (B3 n b a l) 332 [.undef,lI a,lI l] (λr=>.bo (CG b) (CG r) 0 [])
theorem AAN(n:Nat)(_ih_332:Q_332 n)(b:Az)(a:Fp)(l:Fp):CT (B3 (n+1) b a l) 332 [.undef,lI a,lI l] (λr=>.bo (CG b) (CG r) 0 []):=iS AAe AA6 λr h e d f=>by
  unfold cu;unfold f332;unfold B3 at h;have:HW 0 λ(c:Az×Int)=>[(0,.bx (CG c.1)),(8,.tv (eI c.2))]:=⟨⟩;exact nz
theorem AAM:∀n:Nat,Q_332 n:=by
  intro n
  induction n with
  |zero=>exact(λa ec l=>⟨λ_ h=>d_⟩)
  |succ n b=>exact AAN n b
instance(s_0 ec l):CT (KQ s_0 ec l) 332 [.undef,lI ec,lI l] (λr=>.bo (CG s_0) (CG r) 0 []):=⟨λr h=>by
  obtain ⟨N,a⟩:=Cy h;exact((AAM N) s_0 ec l).snd r (a N (az _))⟩
noncomputable def ct:PC:=PC.of OL f263.body (xq bT 0x5904b45e5904b46ab43c005201d03248324737ff6ab48ab38d7302b28d7304b2385a5a377620323776a58d7306b2598d7306b20001897304b25904b481ff3f0137850b7302b2600b748a08200137590309b20b030ab26502) [.AaA 332 [.s 32,.s 33,.c (.list 1 [])] 0]
theorem AAc:CK f263 ct []:=c!
theorem AA5:PC.x9 ct=X/\PC.zt 0 ct=X:=c!
abbrev Q_263(n:Nat):Prop:=∀(a:Az)(l:Fp),CT (B4 n a l) 263 [.undef,lI l] (λr=>.bo (CG a) (CG r) 0 [])
theorem AAD(n:Nat)(_ih_263:Q_263 n)(a:Az)(l:Fp):CT (B4 (n+1) a l) 263 [.undef,lI l] (λr=>.bo (CG a) (CG r) 0 []):=iS AAc AA5 λr h d c e=>by
  unfold ct;unfold f263;unfold B4 at h;have:HW 0 λ(b:Az×Int)=>[(0,.bx (CG b.1)),(5,.tv (eI b.2))]:=⟨⟩;exact nz
theorem AAC:∀n:Nat,Q_263 n:=by
  intro n
  induction n with
  |zero=>exact(λa l=>⟨λ_ h=>d_⟩)
  |succ n b=>exact AAD n b
instance(s_0 l):CT (HV s_0 l) 263 [.undef,lI l] (λr=>.bo (CG s_0) (CG r) 0 []):=⟨λr h=>by
  obtain ⟨N,a⟩:=Cy h;exact((AAC N) s_0 l).snd r (a N (az _))⟩
instance(a b c d e f):CT (Kr a b c d e f) 200 [AL a,A2 b,A2 c,A6 d,eB e,eI f] (rS (eL 2 A6)):=Fe f200 0x82030a775a3f5a00c2bf1b4632c1c1024061616a02 [.Abh [W,W,W,W,W,W,W,W,W,W,Y ⟨X,.list 2 []⟩] (.s 20),.AaA 263 [.s 22,.c (.list 1 [])] 0] (Kr.eq_1 ..)
instance(a b c):CT (Kf a b c) 382 [lI a,eI b,eI c] rI:=Bv f382 0xaa070200f2a1a58d8c5f91e7070200febb010b3202d4 [] (Kf.eq_1 ..) (BM 0 7 0 0)
instance(a b c d e):CT (Io a b c d e) 335 [AL a,A2 b,A2 c,A6 d,eB e] (rT (eL 2 A6) eI):=Fe f335 0x8182015502c085e5820eb538c15502c07e0ee9e95c5502c07e0ebdbd5b5502c08ad8e959bdbd5502c07e92c1c44061610401 [] (Io.eq_1 ..)
instance(a b):CT (FP a b) 155 [Su a,lI b] (rT eI eI):=Fe f155 0x9a0eb5cc8a70015b595b329332 [] (FP.eq_1 ..)
instance(a b c d):CT (Mu a b c d) 336 [BQ a,Bg b,A6 c,lI d] (rT lI eB):=iR f336 0x8182180a01120a04f255e08a0aa58c5b76a58c5b6072012014380342607201201438b8ba04c99e057d03b70a018903b701120a0403a204020dc3a8067555e0850132817201201438ac0f0e0dc3a8080f0e0dc3a8083cf4f4057fac0173ac1473ac148a0817cd73ac145973ac815f5c5f5fdc90044b05c9d5d7900a04028990010dc3a80681c3a8050cc3a80307750cc3a803070cc3a803073c19014fa71985e532ed70013214c3a80562b6010cc3a8030781993fb699014f32563240936136 [.mkx 1 [.bool T] (.s 28)] (Mu.eq_1 ..) (BG 0 12 4 3 λs0:Fp×a6=>[(10,.xo 1 (w_ eI s0.1)),(11,.xo 1 (w_ eB s0.2))]) (BG 2 13 4 2 λs2:Fp×a6=>[(10,.xo 1 (w_ eI s2.1)),(11,.xo 1 (w_ eB s2.2))]) (BM 4 18 4 4)
instance(a b c d e):CT (FY a b c d e) 267 [AL a,AI b,Bg c,Bo d,eB e] (rT (eL 3 Bo) eI):=Bv f267 0x81ec100111100e0c7c067511100e0c7c0611100e0c7c063c02034803470946b502c5029ae3903802c56b9e1001e711100e0c7c068103c05503c07ee3b5d3d33884ef04460eea7fac0bea0ebe73ac0bbeba09c99eb7f74061610401 [] (FY.eq_1 ..) (BG 0 17 14 0 (hO 16 (eL 3 Bo)))
abbrev Q_210(n:Nat):Prop:=∀(t:AC)(c:d7)(b:AG)(m:AP)(a:Bool),CT (DJ n t c b m a) 210 [AL t,AI c,Bg b,Bo m,eB a] (rT FB eI)
theorem zx(n:Nat)(_ih_210:Q_210 n)(t:AC)(c:d7)(b:AG)(m:AP)(a:Bool):CT (DJ (n+1) t c b m a) 210 [AL t,AI c,Bg b,Bo m,eB a] (rT FB eI):=Fk f210 0x81ba0a46ff55ba0a460a0117150a07a80775ff0a013b81ba010c4605479ecfc571ba0ec97801cfc56ba909435c380a01e717150a07a8078155ba76f6e3016b6ba938db81ba0a460a01120a7ca8077555ba010b4605479e7eba0ec978016b6ba909ca380a01895c01120a7ca8079a0581ba9e0e0a020f0e0a7ca80875d9b7054805479e04b755ba76f6ba0ec978016b6ba909ca380e0a02895c010f0e0a7ca808db500ec93fdb81ba764655ba0a46850155ba0af6ba0e4978016b6ba909435c38db83376cc961610401 [.Aao [.z ⟨T,.int .i64 0⟩,.z ⟨X,.list 1 []⟩,.z ⟨X,.list 1 []⟩,.z ⟨X,.list 1 []⟩,.z ⟨X,.list 5 []⟩]] [.cell 10 (Y 5),.tmp 11] λr h d e=>by
  unfold DJ at h;have:=BG 1 15 6 1 λs1:BN×BN=>[(10,.bx [⟨T,eI s1.1.Aaw⟩,⟨X,lI s1.1.og.d6.d3⟩,⟨X,lI s1.1.og.d6.d4⟩,⟨X,lI s1.1.og.fd⟩,⟨X,I8 s1.1.fu⟩]),(14,.bx [⟨T,eI s1.2.Aaw⟩,⟨X,lI s1.2.og.d6.d3⟩,⟨X,lI s1.2.og.d6.d4⟩,⟨X,lI s1.2.og.fd⟩,⟨X,I8 s1.2.fu⟩])];have:=BG 3 18 6 1 λs3:BN=>[(10,.bx [⟨T,eI s3.Aaw⟩,⟨X,lI s3.og.d6.d3⟩,⟨X,lI s3.og.d6.d4⟩,⟨X,lI s3.og.fd⟩,⟨X,I8 s3.fu⟩])];have:=BG 5 23 21 0 λs5:BN=>[(10,.bx [⟨T,eI s5.Aaw⟩,⟨X,lI s5.og.d6.d3⟩,⟨X,lI s5.og.d6.d4⟩,⟨X,lI s5.og.fd⟩,⟨X,I8 s5.fu⟩])];exact nz
theorem zw:∀n:Nat,Q_210 n:=by
  intro n
  induction n with
  |zero=>exact(λt c a m fq=>⟨λ_ h=>d_⟩)
  |succ n b=>exact zx n b
instance(t c h_2 m fq):CT (Qs t c h_2 m fq) 210 [AL t,AI c,Bg h_2,Bo m,eB fq] (rT FB eI):=⟨λr h=>by
  obtain ⟨N,a⟩:=Cy h;exact((zw N) t c h_2 m fq).snd r (a N (az _))⟩
instance(a b c d e):CT (J7 a b c d e) 150 [AL a,AI b,Bg c,Bo d,eB e] (rT eB eI):=Fe f150 0x9a5901cc71ba0e4978016b6ba9383261610401 [] (J7.eq_1 ..)
instance(a b c d):CT (Ia a b c d) 92 [AL a,CB b,Bg c,Bo d] (rT Hc eI):=Fk f92 0x8184b50d0b08030d0b08033c018a088c328178030f426b6ba910423855846546853284ef78d3380b42d33855846546853284fa78d3d3385ab83855840046d69001558465f6e3d36b9eb83855840046850e030f42d3d3385ab83865c9619d [] [.cell 8 (Y 2),.tmp 9] λr h f g=>by
  unfold Ia at h;have:HJ 95 λ(e:Int)=>[(11,.tv (eI e))]:=⟨⟩;exact nz
instance(a b c):CT (Hn a b c) 151 [AL a,Bg b,Hc c] (rT Bg eI):=Fk f151 0x81b16b0d06020e0d0b06040575d9ac01d001485f8d5b90a704ac0d0602895b6c0d0b06040581035010c93f3855b10119f68484effa1178c13755b10119f601786b380110c9939d [.Aao [.v (.s 37) 0 2,.v (.s 37) 1 2,.z ⟨X,.list 1 []⟩]] [.cell 6 (Y 3),.tmp 7] λr h e f=>by
  unfold Hn at h;have:HW 0 λ(d:AG×Int)=>[(13,.bx [⟨T,lI d.1.d5.d3⟩,⟨T,lE d.1.d5.d4⟩,⟨X,(eL 1 lI) d.1.ej⟩]),(14,.tv (eI d.2))]:=⟨⟩;exact nz
end Go.Sf.Sc
