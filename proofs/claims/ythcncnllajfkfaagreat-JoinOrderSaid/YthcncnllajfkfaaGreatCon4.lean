/- Contracts of the functions. -/
import Derived.Test.YthcncnllajfkfaaGreatCon0
set_option linter.all false
set_option maxRecDepth 100000
set_option maxHeartbeats 4000000
open Option renaming some->Y,none->W
open Bool renaming true->X,false->T
open List renaming map->v?
namespace Go.Sf.Sc
open Go Go.Sf Go.Proofs.Tryz
instance(a):CT (Dj a) 117 [A5 a] (λr=>.oag [⟨X,lI r.ci⟩,⟨X,lE r.c9⟩]):=Fk f117 0xa93b0250e6485d034701485ca2fd9300 [.Aap [.w 6,.w 10]] [.cell 2 (Y 2)] λr h b c=>by
  unfold Dj at h;exact nz
instance(a):CT (Mk a) 59 [Bm a] (λr=>.oag [⟨X,lI r.d3.ci⟩,⟨X,lE r.d3.c9⟩,⟨X,.xn (v? lI r.eh)⟩]):=Fk f59 0x35003535e02def5761fa82122014f8d91015623a85e02909101def581035016c93f1bd016c99300 [.Aap [.g 7 0 2,.g 7 1 2,.z ⟨X,.xn []⟩]] [.cell 2 (Y 3)] λr h b c=>by
  unfold Mk at h;have:=BH 0 4 1 2 λs0:AG=>[(3,.bx [⟨X,lI s0.d3.ci⟩,⟨X,lE s0.d3.c9⟩,⟨X,.xn (v? lI s0.eh)⟩])];exact nz
instance(a b c):CT (ED a b c) 140 [eI a,eI b,eI c] rB:=Fe f140 0xa67f367f3602e0 [] (ED.eq_1 ..)
abbrev Q_139(n:Nat):Prop:=∀(t:AC)(a:Int),CT (Ea n t a) 139 [AL t,eI a] (rO lA)
theorem zY(n:Nat)(_ih_139:Q_139 n)(t:AC)(a:Int):CT (Ea (n+1) t a) 139 [AL t,eI a] (rO lA):=Fj f139 0x8204488c41e45c04480e84e45c550447ff04c085f5409336 [] λh=>by
  unfold Ea at h;exact nz
theorem zX:∀n:Nat,Q_139 n:=by
  intro n
  induction n with
  |zero=>exact(λt a=>⟨λ_ h=>d_⟩)
  |succ n b=>exact zY n b
instance(t a):CT (Nz t a) 139 [AL t,eI a] (rO lA):=⟨λr h=>by
  obtain ⟨N,b⟩:=Cy h;exact((zX N) t a).snd r (b N (az _))⟩
instance(a):CT (Ri a) 327 [YC a] (rS eS):=Fe f327 0x815d593f3f5d855c3f9300 [.mv (.c (.str ⟨#[]⟩)),.bin (.s) .add (.c (.str ⟨#[34]⟩)) (.s 7),.bin (.s) .add (.s 8) (.c (.str ⟨#[34]⟩))] (Ri.eq_1 ..)
instance(a):CT (Mg a) 376 [Eh a] rB:=Fe f376 0xa60a05a5360a05a59201 [] (Mg.eq_1 ..)
instance(a):CT (Jz a) 377 [Eh a] rB:=Fe f377 0xa605a59201 [] (Jz.eq_1 ..)
instance(a b c):CT (Mi a b c) 378 [eS a,eI b,eB c] rI:=B1 f378 0xd507750702b35f0107758a0a0a0a0512e5360e12e53608360e12e5a50c5a360702b381c5e0 [] (Mi.eq_1 ..) (⟨⟩:HW 0 λ(d:Int)=>[(7,.tv (eI d))])
instance(a b):CT (Io a b) 379 [eS a,eI b] rI:=B1 f379 0xad05e076aae57f597f72127f92650c5aa5e081ba [] (Io.eq_1 ..) (⟨⟩:HW 0 λ(c:Int)=>[(5,.tv (eI c))])
instance ACg:CT (Qg ) 380 [] (rO lB):=Fe f380 0x823ffe00 [.lst 1 [.c (.str ⟨#[45,62]⟩),.c (.str ⟨#[60,61]⟩),.c (.str ⟨#[62,61]⟩),.c (.str ⟨#[61,61]⟩),.c (.str ⟨#[33,61]⟩),.c (.str ⟨#[123]⟩),.c (.str ⟨#[125]⟩),.c (.str ⟨#[40]⟩),.c (.str ⟨#[41]⟩),.c (.str ⟨#[91]⟩),.c (.str ⟨#[93]⟩),.c (.str ⟨#[44]⟩),.c (.str ⟨#[59]⟩),.c (.str ⟨#[58]⟩),.c (.str ⟨#[61]⟩),.c (.str ⟨#[43]⟩),.c (.str ⟨#[45]⟩),.c (.str ⟨#[42]⟩),.c (.str ⟨#[60]⟩),.c (.str ⟨#[62]⟩),.c (.str ⟨#[33]⟩),.c (.str ⟨#[38]⟩),.c (.str ⟨#[124]⟩),.c (.str ⟨#[46]⟩),.c (.str ⟨#[63]⟩)]] (Qg.eq_1 ..)
instance(a b):CT (Mh a b) 328 [eS a,eI b] (λr=>.tp [YC r.1,eI r.2.1,eI r.2.2]):=Fk f328 0x9dac1a460401c8046a0576ff04013b9dac0c8d3646f98a06f90d050cf936a50c5a0c8d360401eac8046a0581820e5981ac36460d0505a5365981ac1a46857f5981ac1af70e3685f881ac36460d7f36365981ac1a468536db08046a06db08046a063c368e609d0e0e01368a0e360e6012363617c96a02 [] [.cell 4 (Y 3),.tmp 5,.tmp 6] λr h d e=>by
  unfold Mh at h;have:HJ 29 λ(c:Int×Int)=>[(9,.tv (eI c.1)),(10,.tv (eI c.2))]:=⟨⟩;have:=BH 0 13 12 0 λs0:G5=>[(4,.bx [⟨T,eI s0.kl⟩,⟨T,eS s0.AbS⟩,⟨T,eI s0.Line⟩])];exact nz
instance(a):CT (Lw a) 254 [YC a] rB:=Fe f254 0xa605ec77050c01a56081ac17c9117df8bf600e6c9e00 [.bin (.s) .eql (.s 9) (.c (.str ⟨#[]⟩))] (Lw.eq_1 ..)
instance(a):CT (EZ a) 192 [eS a] rB:=Fe f192 0x810e01469201 [] (EZ.eq_1 ..)
instance(a):CT (J0 a) 339 [lB a] rI:=KD f339 0xadcc0276cc0204cc03cb86f9f9cc02653604cc03e2d76192eacc02e2da9201 [] (J0.eq_1 ..) (BM 0 3 0 0) (BM 2 4 3 0)
instance(a):CT (GK a) 272 [JU a] rI:=Fe f272 0x81aa0571b7915a5d59beb759aab45d9101b45ddab79e00 [] (GK.eq_1 ..)
instance(a b):CT (LJ a b) 215 [AL a,eI b] rI:=iO f215 0xadb202cbbee304bdb20209b203cb867404bd7404bdb202653609b203e2d774044392eab2028171b70b01aa713671b7820e019fd77f5d05a903d4a904cb865c74e45c05a9036536d4a904e2d75c044b01c9e3e45c9e36 [] (LJ.eq_1 ..) (BM 0 6 1 0) (BM 2 8 7 0) (BM 4 9 8 0)
instance(a b):CT (Ly a b) 273 [eI a,eI b] rB:=Fe f273 0xa60a0e01a5360e01ba [] (Ly.eq_1 ..)
instance(a b):CT (LI a b) 216 [AL a,eI b] rI:=B1 f216 0x81aab403bc03054277b403b5b777b4019101b4015d81715c050202d4a904cb865c7407cd0502026536d4a904e2d75c074b02c9074407cd9e36 [] (LI.eq_1 ..) (BM 0 6 1 0)
instance(a):CT (Eg a) 163 [AL a] (rT eS eI):=KD f163 0x81bf0006c5cbd57407cd720ebb00905d0106c5813604c5cbd574e45c720ebb3690e104c5e2bf8add5ac159bf85c1013f9300 [.mv (.c (.str ⟨#[]⟩)),.mv (.c (.str ⟨#[]⟩)),.mv (.c (.str ⟨#[]⟩)),.mv (.c (.str ⟨#[]⟩))] (Eg.eq_1 ..) (BM 0 4 1 0) (BM 2 6 1 1)
instance(a b c):CT (IN a b c) 138 [AL a,eI b,eI c] rI:=Fe f138 0x81aab4715c36b471e15980017d559ea902 [] (IN.eq_1 ..)
abbrev Q_141(n:Nat):Prop:=∀(t:AC)(a:Int)(b:Int),CT (D2 n t a b) 141 [AL t,eI a,eI b] rB
theorem za(n:Nat)(_ih_141:Q_141 n)(t:AC)(a:Int)(b:Int):CT (D2 (n+1) t a b) 141 [AL t,eI a,eI b] rB:=Fj f141 0xa60a0e0184e45c555a367f3693a902 [] λh=>by
  unfold D2 at h;exact nz
theorem zZ:∀n:Nat,Q_141 n:=by
  intro n
  induction n with
  |zero=>exact(λt a b=>⟨λ_ h=>d_⟩)
  |succ n c=>exact za n c
instance(t a b):CT (FE t a b) 141 [AL t,eI a,eI b] rB:=⟨λr h=>by
  obtain ⟨N,c⟩:=Cy h;exact((zZ N) t a b).snd r (c N (az _))⟩
instance(a b c d):CT (HE a b c d) 89 [AL a,eI b,eI c,eI d] rB:=Fe f89 0xa60e5e4107cdbb708407cd019f8ab4dda50e36559e5efc [] (HE.eq_1 ..)
instance(a):CT (NP a) 189 [eI a] rB:=Fe f189 0xa605a59201 [] (NP.eq_1 ..)
instance(a b):CT (Qh a b) 190 [B6 a,eI b] rB:=Fe f190 0xa67f91770591777f5d77055d705c9e36 [] (Qh.eq_1 ..)
instance(a):CT (D7 a) 135 [A5 a] rI:=KD f135 0xad04c5cbd7c1d8cd00905df5c581363702cbd78d5c3690e1370281aadd5ac19e00 [] (D7.eq_1 ..) (BM 0 3 1 0) (BM 2 4 1 1)
instance(a b):CT (Ds a b) 88 [AL a,eI b] (rT lA eI):=B1 f88 0x81ee070109b203760204480447e3a94a03420148b7a2044b03c9e304bd0701ea09b20381820ebb04c05904c0be3655f5409336 [] (Ds.eq_1 ..) (BH 0 9 8 0 (hO 7 lA))
instance(a b c):CT (LM a b c) 164 [AL a,eI b,lI c] rI:=B1 f164 0xad0907020376aa055e4104bd8da58404bd6192ea09070203e2da010b36e8019f830241e45c5985c13693a902 [] (LM.eq_1 ..) (BM 0 9 7 0)
instance(a b):CT (F3 a b) 102 [AL a,Bm b] (rT eI eI):=KD f102 0x9d000b5e03cbd5d76191c6615dc65c9fd5da5d5cacf0d87ef30090f3010b5e03815e02095e03cb8136720e8d918dc6555e0290c601095e03e281dac60b915981f438598180017d5536a1 [] (F3.eq_1 ..) (BM 0 9 3 0) (BM 2 11 3 1)
instance(a b):CT (IR a b) 255 [AL a,A5 b] rB:=KD f255 0xad065e0376aadd7403cd5a7403cd00905d01065e03815e02055e0376aa715c8d5c5a8d5c5e02905c5a5e03d5a1 [] (IR.eq_1 ..) (BM 0 5 3 0) (BM 2 6 3 1)
instance(a b c d):CT (LP a b c d) 256 [AL a,BQ b,eI c,eI d] (rT JU eB):=Fk f256 0x81044be304bd59044b02468a7101360a05a560e88dc69f044b02468a71c6a53603c9625e02 [] [.cell 8 (Y 4),.tmp 9] λr h e f=>by
  unfold LP at h;exact nz
instance(a):CT (OM a) 257 [eI a] rB:=Fe f257 0xa605a59201 [] (OM.eq_1 ..)
instance(a b):CT (Kb a b) 381 [eI a,Sj b] rI:=Fe f381 0x81aa055d77055d777f5c5a5c9e0001 [] (Kb.eq_1 ..)
instance(a b):CT (Q4 a b) 329 [eI a,F1 b] rI:=Fe f329 0x81960342f8f4b601aa055c5a5c9e0001 [] (Q4.eq_1 ..)
instance(a b):CT (Ny a b) 258 [eI a,lT b] rI:=B1 f258 0xad05e0cbbe9b057e9290a5e0e2da01aae57fba [] (Ny.eq_1 ..) (BM 0 5 1 0)
instance(a b):CT (Mn a b) 259 [BQ a,eI b] rB:=B1 f259 0xad05a903cb8501740241e4910090915aa903819e36 [] (Mn.eq_1 ..) (BM 0 5 2 2)
instance(a b):CT (F5 a b) 193 [AL a,BQ b] rI:=KD f193 0xad0d5ecbd75a440065b7010d5ee2be03b5b737085e0376aab484a87705b774a8770574a8010860044b03497d5d5c9b55044b05c9e3e49137909101085e0381aa7103b55a0b91aa05b75ab7598896389ff4385980017d5501a1 [] (F5.eq_1 ..) (BM 0 8 3 2) (BM 2 13 3 3)
instance(a):CT (Ir a) 383 [AI a] rB:=Fe f383 0xa6058c41b5770571030441b50b5e41b536dc71377cb571745bb57184a80b74a89e00 [] (Ir.eq_1 ..)
instance(a):CT (N6 a) 337 [AI a] rB:=B1 f337 0x81ff59dddca60ea75af21904fc5f1904fcdca60ea75af2dca60ea75af2dc83389e00 [] (N6.eq_1 ..) (⟨⟩:HJ 25 λ(b:Bool)=>[(25,.tv (eB b))])
abbrev Q_268(n:Nat):Prop:=∀(c:d5),CT (DI n c) 268 [AI c] rB
theorem zx(n:Nat)(_ih_268:Q_268 n)(c:d5):CT (DI (n+1) c) 268 [AI c] rB:=Fj f268 0xad3702cbd7a709cd00905d013702e2d7a79e00 [] λh=>by
  unfold DI at h;have:=BM 0 3 1 1;exact nz
theorem zw:∀n:Nat,Q_268 n:=by
  intro n
  induction n with
  |zero=>exact(λc=>⟨λ_ h=>d_⟩)
  |succ n a=>exact zx n a
instance(c):CT (NU c) 268 [AI c] rB:=⟨λr h=>by
  obtain ⟨N,a⟩:=Cy h;exact((zw N) c).snd r (a N (az _))⟩
abbrev Q_269(n:Nat):Prop:=∀(c:d5),CT (Dk n c) 269 [AI c] (rT eI eI)
theorem z6(n:Nat)(_ih_269:Q_269 n)(c:d5):CT (Dk (n+1) c) 269 [AI c] (rT eI eI):=Fj f269 0x9d366b026b025f01855c6bfc066bf576362ca5369d7da709cd6bfc905d01066bf5819d369300 [] λh=>by
  unfold Dk at h;have:=BH 0 6 1 1 λs0:Int×Int=>[(4,.tv (eI s0.1)),(5,.tv (eI s0.2))];have:HJ 33 λ(a:Int)=>[(5,.tv (eI a))]:=⟨⟩;exact nz
theorem zy:∀n:Nat,Q_269 n:=by
  intro n
  induction n with
  |zero=>exact(λc=>⟨λ_ h=>d_⟩)
  |succ n a=>exact z6 n a
instance(c):CT (ON c) 269 [AI c] (rT eI eI):=⟨λr h=>by
  obtain ⟨N,a⟩:=Cy h;exact((zy N) c).snd r (a N (az _))⟩
instance(a):CT (J7 a) 212 [AI a] rI:=Fe f212 0x81aa05a560817da759d7a79e00 [] (J7.eq_1 ..)
instance(a b c):CT (IP a b c) 261 [A5 a,A5 b,A8 c] rI:=KD f261 0xad0ac30476aa059161915c5a5d615d5c5985ecacacf0f0d8438d5d5dd8cdaadd8d5d5a8d5d00905d77c304816b8c09c304cb858d5c618decaa715c8d5c5a8d5c6b8c90e109c30481aaddf25ac1c159f459f49ea1 [] (IP.eq_1 ..) (BM 0 9 3 0) (BM 2 10 3 1)
instance(a b):CT (Pe a b) 338 [BQ a,eI b] rB:=B1 f338 0xad05a903cb8501740241e4910090915aa903819e36 [] (Pe.eq_1 ..) (BM 0 5 2 2)
instance(a b c):CT (J8 a b c) 270 [AL a,eI b,BQ c] rI:=B1 f270 0xadb20503cb01d75a440065b701b20503d559be9b9f8501b7016236 [] (J8.eq_1 ..) (BM 0 8 5 3)
instance(a):CT (Fr a) 196 [lI a] rB:=KD f196 0xadcc0276cc0204cc03cb85f9f9cc02653604cc03adeacc02816a01 [] (Fr.eq_1 ..) (BM 0 3 0 0) (BM 2 4 3 0)
instance(a b c):CT (Jh a b c) 271 [A5 a,A5 b,A8 c] rB:=Fe f271 0xa60e5d770e5c5a96df9ea1 [] (Jh.eq_1 ..)
abbrev Q_213(n:Nat):Prop:=∀(t:AC)(p:d6)(c:d5),CT (D8 n t p c) 213 [AL t,BQ p,AI c] rI
theorem zp(n:Nat)(_ih_213:Q_213 n)(t:AC)(p:d6)(c:d5):CT (D8 (n+1) t p c) 213 [AL t,BQ p,AI c] rI:=Fj f213 0xad0a07050304cbbea709cd9b5500905d77070503048107058c07058c3cb99bb5598896a8555bb5d059f4a8555bb5d059be9bb5b755855cb909c99b9ea1 [] λh=>by
  unfold D8 at h;have:=BM 0 10 5 1;exact nz
theorem zm:∀n:Nat,Q_213 n:=by
  intro n
  induction n with
  |zero=>exact(λt p c=>⟨λ_ h=>d_⟩)
  |succ n a=>exact zp n a
instance(t p c):CT (Ub t p c) 213 [AL t,BQ p,AI c] rI:=⟨λr h=>by
  obtain ⟨N,a⟩:=Cy h;exact((zm N) t p c).snd r (a N (az _))⟩
instance(a b c):CT (IT a b c) 159 [AL a,BQ b,AI c] rI:=Fe f159 0x810ea79b9fbea759be9b559ea1 [] (IT.eq_1 ..)
instance(a b c):CT (LQ a b c) 260 [AL a,BQ b,eI c] rI:=B1 f260 0xad0a0704020476aa055d84e4915a5c74e4910065360a0704020481aa0584a8770584a87705b774a8770574a87771015d5a5d01e8615cc69f8a71c65c5a5c044b05c9e3e4910162a9 [] (LQ.eq_1 ..) (BM 0 10 2 0)
instance(a b):CT (J9 a b) 194 [AL a,CB b] rI:=B1 f194 0xad065e03cbbe5a44bc5500905e41bc01065e03e2da5e41bcaa71030441bc5a8c41b68c41bc5988965bbc9ff45bbc01a1 [] (J9.eq_1 ..) (BM 0 6 3 8)
instance(a b):CT (Hl a b) 252 [lI a,eI b] rI:=B1 f252 0xad05e076aa0561e58d367faa7f8da5619290a5e081ba [] (Hl.eq_1 ..) (BM 0 5 0 0)
instance(a b):CT (Q5 a b) 253 [lI a,eI b] rB:=B1 f253 0xad05e0cb8501619290a5e081ba [] (Q5.eq_1 ..) (BM 0 5 0 0)
instance(a b):CT (Qi a b) 188 [A5 a,Hg b] rI:=B1 f188 0xad075e0376aab491e1b45d5cacf0d8438d5d5d00905d01075e03e2bef25d59bec1e1a1 [] (Qi.eq_1 ..) (BM 0 7 3 1)
instance(a b):CT (J1 a b) 131 [A5 a,Hg b] rI:=Fe f131 0x81969ff401a1 [] (J1.eq_1 ..)
instance(a b):CT (J2 a b) 132 [lI a,eI b] rI:=B1 f132 0xad05e0cb018501619290a5e081ba [] (J2.eq_1 ..) (BM 0 5 0 0)
instance(a b):CT (Hq a b) 80 [A5 a,Hg b] (λr=>.tp [A5 r.1,A8 r.2.1,eI r.2.2]):=Fk f80 0x6b023b818989044601485da201485ca25508c3040a08ca0676d9b60348034707460e915c0e5dec04b6acf0d8438d5d5d08c304905d7708ca068108ca050908ca0676d93801d1618dec043808ca0590e10908ca0681fd5989896a4603f796556ac9fda1 [] [.cell 4 (Y 2),.cell 5 (Y 2),.tmp 6] λr h c d=>by
  unfold Hq at h;have:=BH 0 9 3 0 λs0:d3=>[(8,.bx [⟨X,lI s0.ci⟩,⟨X,lE s0.c9⟩])];have:=BH 2 10 3 1 λs2:d3=>[(8,.bx [⟨X,lI s2.ci⟩,⟨X,lE s2.c9⟩])];exact nz
instance(a):CT (Pf a) 195 [CB a] rI:=Fe f195 0x81960d42555bbc550189890049fd117d550b42555bb659f40b42555bb69e00 [] (Pf.eq_1 ..)
instance(a b):CT (S4 a b) 330 [lI a,eI b] rB:=B1 f330 0xad05e0cb8501619290a5e081ba [] (S4.eq_1 ..) (BM 0 5 0 0)
instance(a b):CT (NX a b) 262 [eI a,lI b] (rO lI):=B1 f262 0xee7fd4b376d4b3d4b33ca9d1c5d7367f6536d4b3d5c0fe6a02 [] (NX.eq_1 ..) (BH 0 6 0 0 (hO 5 lI))
instance(a):CT (Lp a) 197 [CB a] (rT lI lI):=Fe f197 0x82820e840d420b377cbc0e740d420b745bbcfefe9300 [] (Lp.eq_1 ..)
instance(a b c d):CT (Is a b c d) 198 [AL a,A5 b,lI c,lI d] rB:=KD f198 0xad0ac304cbd761915c615dec55acf0d843f95d00ea0ac304816b8c09ca05cb830241044361f9ec6b8cea09ca05d5625e02 [] (Is.eq_1 ..) (BM 0 9 2 0) (BM 2 10 3 0)
instance(a b):CT (IU a b) 142 [AL a,CB b] rI:=Fe f142 0x810ea710429bb69fd736555bbc5582e8d3aab4840d4201b4740d4259bed359bed39fbe9bb69fd75c5980017d5501a1 [] (IU.eq_1 ..)
instance(a b c):CT (HK a b c) 90 [AL a,CB b,Bm c] rI:=Fe f90 0x8160017d6c9fbed3559ea1 [] (HK.eq_1 ..)
instance(a b):CT (NO a b) 62 [lI a,lI b] rB:=B1 f62 0xad05e0cb85f9619290a5e0e2da010b01ba [] (NO.eq_1 ..) (BM 0 5 0 0)
instance(a b c):CT (F4 a b c) 199 [AL a,A5 b,A5 c] rI:=Fe f199 0x81aa0896550108969ff459f45980017d559ea1 [] (F4.eq_1 ..)
instance(a):CT (Ke a) 265 [lI a] rB:=KD f265 0xadcc0276cc0204cc03cb85f9f9cc02653604cc03adeacc02816a01 [] (Ke.eq_1 ..) (BM 0 3 0 0) (BM 2 4 3 0)
instance(a b c d e):CT (J3 a b c d e) 204 [AL a,A5 b,A5 c,A8 d,eB e] rI:=KD f204 0x81aa0ab45d01b45c360804020cb8040576aa059161915c5a5d615d5c5985ecacacf0f0d8438d5d5dd8cdaadd8d5d5a8d5d080402905d010cb8040581b804040bb86b06cbd78d5c618dec9f8a715c8d5c5a8d5cb8040490e10bb86b0681aaddf25ac1c10162620401 [] (J3.eq_1 ..) (BM 0 11 8 0) (BM 2 12 8 1)
instance(a b c d e):CT (HF a b c d e) 146 [AL a,A5 b,A5 c,A8 d,eB e] rI:=Fe f146 0x810ebbdf9ff4df0162620401 [] (HF.eq_1 ..)
instance(a b c):CT (IS a b c) 143 [AL a,BQ b,Bm c] rI:=Fe f143 0x8160017d6c9fbe9b559ea1 [] (IS.eq_1 ..)
instance(a b):CT (J5 a b) 202 [Sj a,lI b] rI:=Fe f202 0xdc5d61e1595d855c9e36 [] (J5.eq_1 ..)
instance(a b):CT (Lx a b) 264 [Sj a,lI b] (rT eI eB):=Fe f264 0x9d055d61e159818a71015c5a5c59815d855c369336 [] (Lx.eq_1 ..)
instance(a b):CT (Nx a b) 203 [F1 a,lI b] rB:=Fe f203 0xa60a7fa55c777fa55caa08360860817dbb03429d7dbbb69e36 [] (Nx.eq_1 ..)
instance(a b c):CT (Iq a b c) 145 [BQ a,Bm b,A8 c] (rT lI eI):=KD f145 0x8182180870088ccb01c08820149b057e03b508019003b570088c81085edb08c306cb01c08501201455a80cc40908c3080cc40908c3083cf60584a83614f601148a0817cf01145a6074a881615d6161ec91044b05c9e3e491085e9091770908c30681993fb7993fb7364093a1 [.mkx 1 [.int .i64 0] (.s 16),.mkx 1 [.bool T] (.s 19)] (Iq.eq_1 ..) (BH 0 10 3 2 λs0:Fp×a6=>[(8,.xo 1 (v? eI s0.1)),(9,.xo 1 (v? eB s0.2))]) (BM 2 14 3 4)
instance(a b c d):CT (J4 a b c d) 147 [AL a,BQ b,Bm c,A8 d] (rT lI eI):=Fe f147 0x818273966c9b5901c0f4d0d09f01c0be6c9b55364062a1 [] (J4.eq_1 ..)
instance(a b c d):CT (G0 a b c d) 148 [AL a,A5 b,A5 c,A8 d] (rT A5 eI):=Fk f148 0x8189550b3e0b08020c0bb80576f6618d5ce11d380b080265151d38010c0bb80581025018c9279f89fcf79655df01fd62a1 [] [.cell 8 (Y 2),.tmp 9] λr h f g=>by
  unfold G0 at h;have:HW 0 λ(e:d3×Int)=>[(11,.bx [⟨X,.xl 1 (v? eI e.1.ci)⟩,⟨X,.xl 3 (v? B6 e.1.c9)⟩]),(12,.tv (eI e.2))]:=⟨⟩;exact nz
instance(a b c d):CT (Qj a b c d) 205 [A5 a,A5 b,Hg c,A8 d] rI:=Fe f205 0x81969ff4df0162a1 [] (Qj.eq_1 ..)
instance(a b):CT (Eb a b) 266 [lI a,eI b] rB:=B1 f266 0xad05e0cb8501619290a5e081ba [] (Eb.eq_1 ..) (BM 0 5 0 0)
instance(a b):CT (Gz a b) 206 [lI a,lI b] (rO (eL 2 Si)):=KD f206 0xee7fd4b376d4b378056a057678056a0578056a053c0202480247054636028a0ab40136b401a5f9f9d4b3ea78056a05dc5a01ead4b38102c002406a02 [] (Gz.eq_1 ..) (BH 0 6 0 0 (hO 5 (eL 2 Si))) (BH 2 7 0 0 (hO 5 (eL 2 Si)))
instance(a b):CT (LK a b) 209 [lI a,lI b] (rO lI):=B1 f209 0xee7fd4b376d4b3d4b33ca9d1f902d7367fead4b3d5c0fe6a02 [] (LK.eq_1 ..) (BH 0 6 0 0 (hO 5 lI))
instance(a b c d):CT (Kd a b c d) 207 [A5 a,A5 b,Hg c,A8 d] (rO lI):=B1 f207 0xee0901c40907050576c409070571db0705053ca9d1c58a0a0e5e4103cd360e8403cd36b4015d0901905d01c40907050581820e5ce1c0fe93621300 [] (Kd.eq_1 ..) (BH 0 11 5 1 (hO 9 lI))
instance(a b):CT (NR a b) 208 [eI a,lI b] (rO lI):=B1 f208 0xee7fd4b376d4b3d4b33ca9d1c5d7367f6536d4b3d5c0fe6a02 [] (NR.eq_1 ..) (BH 0 6 0 0 (hO 5 lI))
instance(a b c d):CT (SS a b c d) 149 [A5 a,A5 b,Hg c,A8 d] (rT Hg eI):=Fk f149 0x8013b818904460e0e5d5df20e0eecc159890046da96df9f89004685710e5d5d0b0eec59896af79655df6ac962a1 [] [.cell 8 (Y 2),.tmp 9] λr h e f=>by
  unfold SS at h;exact nz
instance(a b c):CT (Kg a b c) 334 [eI a,lI b,lI c] (rO lI):=KD f334 0x821807010907a90476f6f9f9140701ea0907a9048107a903b2026a057619014fa21907a9036536b2026a05d5cefe02e0 [] (Kg.eq_1 ..) (BH 0 8 0 0 (hX 7 1 eI)) (BH 2 9 1 0 (hX 7 1 eI))
instance(a b):CT (GA a b) 331 [.pt (Us a).cells,lI b] rB:=KD f331 0xad05e05f5ae005e08188010705b3b8056a0676770a05619101917705615d015d5aec36acf0d87e84047c010705b39084047c36b8056a069dff05e08a7101915a0b015dacf0d87e84027c6a9084027ca5e081ba [] (GA.eq_1 ..) (BM 0 5 0 3) (BH 2 8 0 5 (hT 7 eB))
instance(a b c):CT (Ci a b c) 333 [.pt (Us a).cells,lI b,eI c] rB:=B1 f333 0xad0702b3cb85016192ff8a03087c3671360702b381c5e0 [] (Ci.eq_1 ..) (⟨⟩:HW 0 λ(d:Int)=>[(7,.tv (eI d))])
noncomputable def cp:PC:=PC.of OD f332.body (xq bT 0x1b8026a065f01b8026a06b8026a063c005201d1364836470138ffb8026a068a05619101917705615d015d7705ec77203638777f8d8406b15a8d8406b1acf0d87e8404b10001908404b101b8026a0681acf0d87e8402b1ffd90a7c0248024704460148364701483647040ab138da8402b1600bfa0309b10b030ab102e0) []
theorem AAU:CK f332 cp []:=c!
theorem AAw:PC.x7 cp=X/\PC.x9 0 cp=X:=c!
abbrev Q_332(n:Nat):Prop:=∀(b:A0)(a:Fp)(l:Fp),CT (B4 n b a l) 332 [.undef,lI a,lI l] (λr=>.bo (CG b) (CG r) 0 [])
theorem AAD(n:Nat)(_ih_332:Q_332 n)(b:A0)(a:Fp)(l:Fp):CT (B4 (n+1) b a l) 332 [.undef,lI a,lI l] (λr=>.bo (CG b) (CG r) 0 []):=iP AAU AAw λr h e d f=>by
  unfold cp;unfold f332;unfold B4 at h;have:HW 0 λ(c:A0×Int)=>[(0,.bx (CG c.1)),(8,.tv (eI c.2))]:=⟨⟩;exact nz
theorem AAC:∀n:Nat,Q_332 n:=by
  intro n
  induction n with
  |zero=>exact(λa ea l=>⟨λ_ h=>d_⟩)
  |succ n b=>exact AAD n b
instance(s_0 ea l):CT (KP s_0 ea l) 332 [.undef,lI ea,lI l] (λr=>.bo (CG s_0) (CG r) 0 []):=⟨λr h=>by
  obtain ⟨N,a⟩:=Cy h;exact((AAC N) s_0 ea l).snd r (a N (az _))⟩
noncomputable def cm:PC:=PC.of OD f263.body (xq bT 0x5a04b35f5a04b36bb33c005201d13648364738ff6bb38ab48d7402b18d7404b1555b5b3877203638777f8d7406b15a8d7406b10001907404b15a04b381ff3f0138da7402b1600b758a082001385a0309b10b030ab16a02) [.Aay 332 [.s 32,.s 33,.c (.list 1 [])] 0]
theorem AAS:CK f263 cm []:=c!
theorem AAv:PC.x7 cm=X/\PC.x9 0 cm=X:=c!
abbrev Q_263(n:Nat):Prop:=∀(a:A0)(l:Fp),CT (B5 n a l) 263 [.undef,lI l] (λr=>.bo (CG a) (CG r) 0 [])
theorem zv(n:Nat)(_ih_263:Q_263 n)(a:A0)(l:Fp):CT (B5 (n+1) a l) 263 [.undef,lI l] (λr=>.bo (CG a) (CG r) 0 []):=iP AAS AAv λr h d c e=>by
  unfold cm;unfold f263;unfold B5 at h;have:HW 0 λ(b:A0×Int)=>[(0,.bx (CG b.1)),(5,.tv (eI b.2))]:=⟨⟩;exact nz
theorem zu:∀n:Nat,Q_263 n:=by
  intro n
  induction n with
  |zero=>exact(λa l=>⟨λ_ h=>d_⟩)
  |succ n b=>exact zv n b
instance(s_0 l):CT (Hc s_0 l) 263 [.undef,lI l] (λr=>.bo (CG s_0) (CG r) 0 []):=⟨λr h=>by
  obtain ⟨N,a⟩:=Cy h;exact((zu N) s_0 l).snd r (a N (az _))⟩
instance(a b c d e f):CT (Ks a b c d e f) 200 [AL a,A5 b,A5 c,A8 d,eB e,eI f] (rS (eL 2 A8)):=Fe f200 0x82030a7c5b3f5b00c2bf1b4636dfdf024062626b02 [.Abk [W,W,W,W,W,W,W,W,W,W,Y ⟨X,.list 2 []⟩] (.s 20),.Aay 263 [.s 22,.c (.list 1 [])] 0] (Ks.eq_1 ..)
instance(a b c):CT (Kf a b c) 382 [lI a,eI b,eI c] rI:=B1 f382 0xad0702000376aa7f8da56192ea07020003e285010b3602e0 [] (Kf.eq_1 ..) (BM 0 7 0 0)
instance(a b c d e):CT (Ip a b c d e) 335 [AL a,A5 b,A5 c,A8 d,eB e] (rT (eL 2 A8) eI):=Fe f335 0x8182f802c0da01820ebbdf9f02c0bef2f25d5902c0bec1c15c5902c08addf25ac1c15902c0f4dfc54062620401 [] (Ip.eq_1 ..)
instance(a b):CT (FO a b) 155 [Sj a,lI b] (rT eI eI):=Fe f155 0x9d0e019f818a71015c5a5c369336 [] (FO.eq_1 ..)
instance(a b c d):CT (Mp a b c d) 336 [BQ a,Bm b,A8 c,lI d] (rT lI eB):=iO f336 0x8182180a01120a0403cb01c08a0a7fa55c777fa55c6073012014550342607301201455b6b904c99b057e03b50a019003b501120a0403a604020dc4066b06cb01c0850136817301201455a80f0e0dc4066b080f0e0dc4066b083cf6f60584a80174a81474a8148a0817cf74a8145a74a881615d6161ec91044b05c9e3e4910a04029091010dc4066b0681c4066b050cc406c307760cc406c3070cc406c3073c19014fa219da0136ef71013614c4066b0565b7010cc406c30781993fb799014f36563640936237 [.mkx 1 [.bool T] (.s 28)] (Mp.eq_1 ..) (BH 0 12 4 3 λs0:Fp×a6=>[(10,.xo 1 (v? eI s0.1)),(11,.xo 1 (v? eB s0.2))]) (BH 2 13 4 2 λs2:Fp×a6=>[(10,.xo 1 (v? eI s2.1)),(11,.xo 1 (v? eB s2.2))]) (BM 4 18 4 4)
instance(a b c d e):CT (FY a b c d e) 267 [AL a,AI b,Bm c,Bv d,eB e] (rT (eL 3 Bv) eI):=B1 f267 0x81ee100111100e0cb87611100e0cb811100e0cb83c02034803470946bb02bd029de8915502bd6c9b1001ea11100e0cb88103c05903c080e8bbd0d05589f104460ef384a80bf30ec674a80bc6b909c99bb5fc4062620401 [] (FY.eq_1 ..) (BH 0 17 14 0 (hO 16 (eL 3 Bv)))
abbrev Q_210(n:Nat):Prop:=∀(t:AC)(c:d5)(b:AG)(m:AQ)(a:Bool),CT (DJ n t c b m a) 210 [AL t,AI c,Bm b,Bv m,eB a] (rT FB eI)
theorem zj(n:Nat)(_ih_210:Q_210 n)(t:AC)(c:d5)(b:AG)(m:AQ)(a:Bool):CT (DJ (n+1) t c b m a) 210 [AL t,AI c,Bm b,Bv m,eB a] (rT FB eI):=Fk f210 0x81b90a46ff59b90a460a0117150a786b0776ff0a013b81b9010c4605479bd8bd72b90ec97d01d8bd6ca709435d550a01ea17150a786b07e2b977f7e8016c6ca755dc81b90a460a01120ab86b07cbb9010b4605479b80b90ec97d016c6ca709cd550a01905d01120ab86b079d0581b99b0e0a020f0e0ab86b0876d9b5054805479b04b559b977f7b90ec97d016c6ca709cd550e0a02905d010f0e0ab86b08dc500ec93fdc81b9774659b90a4685f8b90af7b90e497d016c6ca709435d55dc833870c962620401 [.Aap [.z ⟨T,.int .i64 0⟩,.z ⟨X,.list 1 []⟩,.z ⟨X,.list 1 []⟩,.z ⟨X,.list 1 []⟩,.z ⟨X,.list 5 []⟩]] [.cell 10 (Y 5),.tmp 11] λr h d e=>by
  unfold DJ at h;have:=BH 1 15 6 1 λs1:BN×BN=>[(10,.bx [⟨T,eI s1.1.Aaw⟩,⟨X,lI s1.1.l4.d4.ci⟩,⟨X,lI s1.1.l4.d4.c9⟩,⟨X,lI s1.1.l4.em⟩,⟨X,I8 s1.1.fl⟩]),(14,.bx [⟨T,eI s1.2.Aaw⟩,⟨X,lI s1.2.l4.d4.ci⟩,⟨X,lI s1.2.l4.d4.c9⟩,⟨X,lI s1.2.l4.em⟩,⟨X,I8 s1.2.fl⟩])];have:=BH 3 18 6 1 λs3:BN=>[(10,.bx [⟨T,eI s3.Aaw⟩,⟨X,lI s3.l4.d4.ci⟩,⟨X,lI s3.l4.d4.c9⟩,⟨X,lI s3.l4.em⟩,⟨X,I8 s3.fl⟩])];have:=BH 5 23 21 0 λs5:BN=>[(10,.bx [⟨T,eI s5.Aaw⟩,⟨X,lI s5.l4.d4.ci⟩,⟨X,lI s5.l4.d4.c9⟩,⟨X,lI s5.l4.em⟩,⟨X,I8 s5.fl⟩])];exact nz
theorem zi:∀n:Nat,Q_210 n:=by
  intro n
  induction n with
  |zero=>exact(λt c a m ff=>⟨λ_ h=>d_⟩)
  |succ n b=>exact zj n b
instance(t c h_2 m ff):CT (Ql t c h_2 m ff) 210 [AL t,AI c,Bm h_2,Bv m,eB ff] (rT FB eI):=⟨λr h=>by
  obtain ⟨N,a⟩:=Cy h;exact((zi N) t c h_2 m ff).snd r (a N (az _))⟩
instance(a b c d e):CT (J6 a b c d e) 150 [AL a,AI b,Bm c,Bv d,eB e] (rT eB eI):=Fe f150 0x9d5af88172b90e497d016c6ca7553662620401 [] (J6.eq_1 ..)
instance(a b c d):CT (Ib a b c d) 92 [AL a,CB b,Bm c,Bv d] (rT Hg eI):=Fk f92 0x8189bb0d0b08030d0b08033c018a08a536817d030f426c6ca710429f896a46853689f17dd0550b42d09f896a46853689fd7dd0d0555bb69f890046d791f8896af7e8d06c9bb69f890046850e030f42d0d0555bb6556ac962a1 [] [.cell 8 (Y 2),.tmp 9] λr h f g=>by
  unfold Ib at h;have:HJ 95 λ(e:Int)=>[(11,.tv (eI e))]:=⟨⟩;exact nz
end Go.Sf.Sc
