/- Contracts of the functions. -/
import Derived.Test.YthcncnllajfkfaaGreatCon4
set_option linter.all false
set_option maxRecDepth 100000
set_option maxHeartbeats 4000000
open Option renaming some->Y
open Bool renaming true->X,false->T
open List renaming map->v?
namespace Go.Sf.Sc
open Go Go.Sf Go.Proofs.Tryz
instance(a b c):CT (Hr a b c) 151 [AL a,Bm b,Hg c] (rT Bm eI):=Fk f151 0x81ac6c0d06020e0d0b06040576d9a801d10148618d5c91a204a80d0602905c700d0b06040581035010c93f9fac0119f78989f1fd117d55d059ac0119f7017d6c550110c993a1 [.Aap [.v (.s 37) 0 2,.v (.s 37) 1 2,.z ⟨X,.list 1 []⟩]] [.cell 6 (Y 3),.tmp 7] λr h e f=>by
  unfold Hr at h;have:HW 0 λ(d:AG×Int)=>[(13,.bx [⟨T,lI d.1.d3.ci⟩,⟨T,lE d.1.d3.c9⟩,⟨X,(eL 1 lI) d.1.eh⟩]),(14,.tv (eI d.2))]:=⟨⟩;exact nz
instance(a b):CT (NQ a b) 153 [lI a,eI b] (rO lI):=KD f153 0x82187fd4b376d4b378056a057678056a0578056a053cf636148501f9d4b3ea78056a058119014fa2197f6536d4b3d5cefe6a02 [] (NQ.eq_1 ..) (BH 0 6 1 0 (hX 5 1 eI)) (BH 2 7 0 0 (hX 5 1 eI))
instance(a b):CT (Mr a b) 152 [eI a,lI b] (rO lI):=Fe f152 0x820e0136406a02 [] (Mr.eq_1 ..)
instance(a b c):CT (JE a b c) 93 [AL a,Bm b,Hg c] (rT Bm A8):=Fk f93 0x78023b89ac04460e5d0bf30e5c0bc66c01ac10c97d556c55f110c993a1 [] [.cell 6 (Y 3),.cell 7 (Y 2)] λr h d e=>by
  unfold JE at h;exact nz
instance(a b):CT (Ia a b) 94 [lI a,lI b] (rO lI):=B1 f94 0xee7fd4b376a9d1618d36027fead4b3d5c0fe6a02 [] (Ia.eq_1 ..) (BH 0 6 0 0 (hO 5 lI))
instance(a b c d e):CT (GZ a b c d e) 95 [lI a,lI b,eI c,lI d,eI e] (rO lI):=B1 f95 0xee0c01c80bde000776c80bde00075f01a9d1c5c80bde00073ca9d16161f9360285f90cfa36c80bde0007d5c0820e013640de6a05 [] (GZ.eq_1 ..) (BH 0 13 2 0 λs0:Int×Fp=>[(4,.tv (eI s0.1)),(12,.ow (lI s0.2))])
instance(a b):CT (JC a b) 154 [lI a,eI b] rB:=B1 f154 0xad05e0cb8501619290a5e081ba [] (JC.eq_1 ..) (BM 0 5 0 0)
noncomputable def qn:PC:=PC.of OD f96.body (xq bT 0x35003530806020f09b80506760f09b805060f09b805063cd901413803480347074661915c615dec04014138acf0d8cd8e01840d42080602905d010f09b805068109b80505dbb86b075f7709b86b07dbb86b073c1fa821221923a80ddbb86bb40dc409b86b0a7619014fa28404bd190ddbb86b08ea0e0dc409b86b0ad5ce01e88d5c55d95b3801d18d5c045b38ffdbb86b07d701740d4209b80505905c7709b86b078189fd555bbc16c993aba1) []
theorem ACA:CK f96 qn [.cell 8 (Y 3)]:=c!
theorem ACG:PC.x7 qn=X:=c!
instance(a b c d):CT (Ji a b c d) 96 [AL a,CB b,.agg [.undef,.undef,.undef],A8 d] (λr=>.ag [⟨X,lI c.d3.ci⟩,⟨X,lE c.d3.c9⟩,⟨X,.xn (v? lI c.eh)⟩] 2 (.oag [⟨X,lI r.d3.ci⟩,⟨X,lE r.d3.c9⟩,⟨X,.xn (v? lI r.eh)⟩])):=FiA ACA ACG λr h i g j=>by
  unfold qn;unfold f96;unfold Ji at h;have:HW 0 λ(f:AG×Int)=>[(6,.bx [⟨X,lI f.1.d3.ci⟩,⟨X,lE f.1.d3.c9⟩,⟨X,.xn (v? lI f.1.eh)⟩]),(10,.tv (eI f.2))]:=⟨⟩;have:=BH 2 14 11 0 (hX 13 1 eI);have:HW 4 λ(e:AG×Int)=>[(6,.bx [⟨X,lI e.1.d3.ci⟩,⟨X,lE e.1.d3.c9⟩,⟨X,.xn (v? lI e.1.eh)⟩]),(15,.tv (eI e.2))]:=⟨⟩;exact nz
noncomputable def qp:PC:=PC.of OD f97.body (xq bT 0x81ac6c073e0a0702130c0ab26b07762624018404bd25240123a859ac19468a055e41044384e436a584044384e43636e88dc65581617404bd5c607dbb024104bd0a0702ea130c0ab26b07810c0ab26b06c80ab26b0776c80ab26b07100ec80ab26b09cbac19468a7f360a058404bd84e4a5617404bd5c617404bd5c607dbb024104bdc80ab26b076536100ec80ab26b0981607dbb024104bd0c0ab26b06eac80ab26b0781825e41bc0110c993ab620401) []
theorem ACB:CK f97 qp [.cell 10 (Y 3),.tmp 11]:=c!
theorem ACH:PC.x7 qp=X:=c!
instance(a b c d e):CT (Kv a b c d e) 97 [AL a,CB b,.agg [.undef,.undef,.undef],A8 d,lI e] (λr=>.ag [⟨X,lI c.d3.ci⟩,⟨X,lE c.d3.c9⟩,⟨X,.xn (v? lI c.eh)⟩] 2 (.tp [Bm r.1,eI r.2])):=FiA ACB ACH λr h g f i=>by
  unfold qp;unfold f97;unfold Kv at h;have:=BH 0 13 12 0 λs0:AG=>[(10,.bx [⟨X,lI s0.d3.ci⟩,⟨X,lE s0.d3.c9⟩,⟨X,(eL 1 lI) s0.eh⟩])];have:=BH 2 16 13 0 λs2:AG=>[(10,.bx [⟨X,lI s2.d3.ci⟩,⟨X,lE s2.d3.c9⟩,⟨X,(eL 1 lI) s2.eh⟩])];have:=BH 4 19 12 0 λs4:AG×AG=>[(7,.bx [⟨X,lI s4.1.d3.ci⟩,⟨X,lE s4.1.d3.c9⟩,⟨X,.xn (v? lI s4.1.eh)⟩]),(10,.bx [⟨X,lI s4.2.d3.ci⟩,⟨X,lE s4.2.d3.c9⟩,⟨X,(eL 1 lI) s4.2.eh⟩])];exact nz
instance(a b c d):CT (IV a b c d) 43 [AL a,CB b,Bm c,Bv d] (rT DY eI):=Fk f43 0x81264b1c46df6c6c6cd359264b0e468a71f35a0bc659264b70468536ac73c55791550353d3550d013b03500257551b6cd35589f104460ef25d0b377cbc840d42840b420ec15c0b745bbc740d42740b4289f104460e5df30e5cc689acf116c97d556c9f264b70f789f17d6c6cd39f264b70f70e6cd3550111c962a1 [] [.cell 8 (Y 38),.tmp 9] λr h e f=>by
  unfold IV at h;exact nz
instance(a):CT (LN a) 201 [A5 a] (rS A8):=Fk f201 0x8955033e5e02055e0376f6011db65e0265151db65a5e03815e02de0376f6011d385e0265151d3801de0381025019c93f3ff23fc1f19300 [.mkx 1 [.int .i64 0] (.s 8),.mkx 1 [.int .i64 0] (.s 12),.Aap [.w 9,.w 13]] [.cell 2 (Y 2)] λr h d e=>by
  unfold LN at h;have:HW 0 λ(c:d4×Int)=>[(3,.bx [⟨X,.xl 1 (v? eI c.1.ci)⟩,⟨X,.xl 1 (v? eI c.1.c9)⟩]),(4,.tv (eI c.2))]:=⟨⟩;have:HW 2 λ(b:d4×Int)=>[(3,.bx [⟨X,.xl 1 (v? eI b.1.ci)⟩,⟨X,.xl 1 (v? eI b.1.c9)⟩]),(5,.tv (eI b.2))]:=⟨⟩;exact nz
instance(a b c d):CT (Mm a b c d) 144 [AL a,A5 b,A5 c,eB d] (rT (eL 2 A8) eI):=Fe f144 0x8182f802c0da01820e7055df9f02c0f4dfc540936237 [] (Mm.eq_1 ..)
instance(a b c d):CT (Hs a b c d) 91 [AL a,BQ b,Bm c,eB d] (rT (eL 3 Bv) eI):=B1 f91 0x81ee0d700d0bd405760e0d0bd4050e0d0bd4053c02034803470946bb02bd0272e85502bd6c9b0d01ea0e0d0bd4058103c05903c080e8bb38d09f03c0be6c9b55fc40936237 [] (Hs.eq_1 ..) (BH 0 14 11 0 (hO 13 (eL 3 Bv)))
instance(a b c):CT (FZ a b c) 42 [AL a,CB b,Bm c] (rT (eL 3 Bv) eI):=B1 f42 0x81ee0b010c0b09c306760c0b09c3060c0b09c3063c0203480347d8bd0272264b11497dd8bd6cd3550b01ea0c0b09c3068103c05903c080e8030f426c9bb69f03c0be6cd355fc4093a1 [] (FZ.eq_1 ..) (BH 0 12 9 0 (hO 11 (eL 3 Bv)))
instance(a b c d):CT (HI a b c d) 17 [AL a,CB b,Bm c,eI d] (rO (eL 38 DY)):=B1 f17 0xee0b010c0b0906c307760226482647d6a9264b11c97dd8bd6cd3550b758a7f3671360c0b0906c3078126c001e86cd3552640936237 [] (HI.eq_1 ..) (⟨⟩:HW 0 λ(e:List AU×Int)=>[(11,.ow ((eL 38 DY) e.1)),(12,.tv (eI e.2))])
instance c19:CT (RF ) 19 [] (λr=>.oag [⟨X,lN r.ci⟩,⟨X,lX r.c9⟩]):=Fk f19 0x2503f07473f3f04473f3f04473f3f3f3f04473f1ac900 [.bld [.str ⟨#[]⟩,.int .i64 0,.int .i64 0,.list 1 []] [(0,1,.c (.str ⟨#[98,97,108,97,110,99,101]⟩)),(1,1,.c (.int .i64 (-1000))),(2,1,.c (.int .i64 1000))],.bld [.str ⟨#[]⟩,.int .i64 0,.bool T,.list 4 []] [(0,1,.c (.str ⟨#[65,99,99,111,117,110,116]⟩)),(1,1,.c (.int .i64 (-1))),(2,1,.c (.bool X)),(3,1,.s 2)],.bld [.str ⟨#[]⟩,.int .i64 0,.bool T,.list 4 []] [(0,1,.c (.str ⟨#[67,97,115,104]⟩)),(1,1,.c (.int .i64 0))],.lst 1 [.c (.str ⟨#[111,112,101,110]⟩),.c (.str ⟨#[99,108,111,115,101,100]⟩)],.bld [.str ⟨#[]⟩,.int .i64 0,.int .i64 0,.list 1 []] [(0,1,.c (.str ⟨#[115,116,97,116,101]⟩)),(2,1,.c (.int .i64 1)),(3,1,.s 5)],.bld [.str ⟨#[]⟩,.int .i64 0,.bool T,.list 4 []] [(0,1,.c (.str ⟨#[76,111,97,110]⟩)),(1,1,.c (.int .i64 0)),(3,1,.s 7)],.bld [.str ⟨#[]⟩,.int .i64 0,.bool T,.list 4 []] [(0,1,.c (.str ⟨#[80,101,114,115,111,110]⟩)),(1,1,.c (.int .i64 (-1)))],.bld [.str ⟨#[]⟩,.int .i64 0,.int .i64 0,.int .i64 0,.int .i64 0,.int .i64 0,.int .i64 0] [(0,1,.c (.str ⟨#[111,119,110,115]⟩)),(1,1,.c (.int .i64 3)),(2,1,.c (.int .i64 0)),(4,1,.c (.int .i64 (-1))),(5,1,.c (.int .i64 1)),(6,1,.c (.int .i64 1))],.bld [.str ⟨#[]⟩,.int .i64 0,.int .i64 0,.int .i64 0,.int .i64 0,.int .i64 0,.int .i64 0] [(0,1,.c (.str ⟨#[112,97,121,115]⟩)),(1,1,.c (.int .i64 1)),(2,1,.c (.int .i64 1)),(4,1,.c (.int .i64 (-1))),(6,1,.c (.int .i64 (-1)))],.Aap [.w 10,.w 13]] [.cell 0 (Y 2)] λr h a b=>by
  unfold RF at h;exact nz
instance(a):CT (Mj a) 44 [AL a] rB:=Fj f44 0xad08c5cb850c7407cd00905d0108c58136ed0376ed036b3704766b3704786b3706cb850c8db76b370490b701786b370681aa71b75a0c5c044b03c9e3e48c41e45ced03908c41e45c5aed0481aa050c74e45c5a36718c41e4e13690e1ed039daadd5ac19e00 [] λh=>by
  unfold Mj at h;have:=BH 0 4 1 0 (hT 3 eI);have:HW 2 λ(c:Int)=>[(5,.tv (eI c))]:=⟨⟩;have:HW 4 λ(b:Int)=>[(7,.tv (eI b))]:=⟨⟩;have:=BM 6 8 1 1;exact nz
instance(a):CT (Jf a) 98 [A5 a] rB:=Fe f98 0xa6dd5ac19e00 [] (Jf.eq_1 ..)
instance(a):CT (IQ a) 45 [Bm a] rB:=B1 f45 0xad3702cbda8d9100909101370281aa7191010896389e00 [] (IQ.eq_1 ..) (BM 0 3 1 2)
instance(a b):CT (Jg a b) 50 [A8 a,eI b] rB:=Fe f50 0xdc5af2c19e36 [] (Jg.eq_1 ..)
instance(a):CT (Kt a) 156 [BQ a] rB:=Fe f156 0xa67103b577719170d09e00 [] (Kt.eq_1 ..)
instance(a b):CT (S3 a b) 157 [Hg a,eI b] rB:=Fe f157 0xdc5af2c19e36 [] (S3.eq_1 ..)
abbrev Q_211(n:Nat):Prop:=∀(c:d5)(a:Int),CT (DA n c a) 211 [AI c,eI a] rI
theorem zl(n:Nat)(_ih_211:Q_211 n)(c:d5)(a:Int):CT (DA (n+1) c a) 211 [AI c,eI a] rI:=Fj f211 0xd5a5a903767001a709cd36ff8ae5dd5aa90381aa0896a801b49bb55a369336 [] λh=>by
  unfold DA at h;have:HW 0 λ(b:Int×Int)=>[(1,.tv (eI b.1)),(5,.tv (eI b.2))]:=⟨⟩;exact nz
theorem zk:∀n:Nat,Q_211 n:=by
  intro n
  induction n with
  |zero=>exact(λc r0=>⟨λ_ h=>d_⟩)
  |succ n a=>exact zl n a
instance(c r0):CT (Rj c r0) 211 [AI c,eI r0] rI:=⟨λr h=>by
  obtain ⟨N,a⟩:=Cy h;exact((zk N) c r0).snd r (a N (az _))⟩
instance(a):CT (Ku a) 158 [AI a] rB:=Fe f158 0xdc0ea79e00 [] (Ku.eq_1 ..)
instance(a):CT (Q6 a) 99 [CB a] rB:=Fe f99 0xa60ea7104277960d4277960b42770e9bbc770e9bb65a0c5c9e00 [] (Q6.eq_1 ..)
instance(a b c):CT (N3 a b c) 214 [AL a,A5 b,A5 c] rB:=Fe f214 0xa60a0add77715c5addc15a96df7796779670559ea1 [] (N3.eq_1 ..)
instance(a b c):CT (Qk a b c) 160 [AL a,BQ b,Bm c] rB:=Fe f160 0xa69638d055770e6c709b9ea1 [] (Qk.eq_1 ..)
abbrev Q_161(n:Nat):Prop:=∀(c:d5),CT (GY n c) 161 [AI c] rB
theorem zc(n:Nat)(_ih_161:Q_161 n)(c:d5):CT (GY (n+1) c) 161 [AI c] rB:=Fj f161 0xdc71377cb50b745bb5363702cbd7a709cd36905d013702819e00 [] λh=>by
  unfold GY at h;have:=BM 0 3 1 1;exact nz
theorem zb:∀n:Nat,Q_161 n:=by
  intro n
  induction n with
  |zero=>exact(λc=>⟨λ_ h=>d_⟩)
  |succ n a=>exact zc n a
instance(c):CT (SU c) 161 [AI c] rB:=⟨λr h=>by
  obtain ⟨N,a⟩:=Cy h;exact((zb N) c).snd r (a N (az _))⟩
abbrev Q_162(n:Nat):Prop:=∀(p:d6)(c:d5)(a:Int)(b:Int),CT (Ek n p c a b) 162 [BQ p,AI c,eI a,eI b] rB
theorem zf(n:Nat)(_ih_162:Q_162 n)(p:d6)(c:d5)(a:Int)(b:Int):CT (Ek (n+1) p c a b) 162 [BQ p,AI c,eI a,eI b] rB:=Fj f162 0xdc77010ddb055e06cbd736a709cd9b0a01905d010ddb055e06a609055e050cdb055e06765a36db055e0590f3010cdb055e06810bf3dbca06c409ca07765a36dbca0690c601c409ca07810bc68109ca0509ca053cb99bb5855cb909c99b01625e02 [] λh=>by
  unfold Ek at h;have:HJ 17 λ(d:d6)=>[(9,.bx [⟨T,lI d.d3.ci⟩,⟨T,lE d.d3.c9⟩,⟨T,lS d.ei⟩,⟨T,eI d.em⟩,⟨T,lT d.kg⟩])]:=⟨⟩;have:HW 0 λ(f:Int×Int)=>[(10,.tv (eI f.1)),(11,.tv (eI f.2))]:=⟨⟩;have:HW 2 λ(e:Int×Int)=>[(10,.tv (eI e.1)),(12,.tv (eI e.2))]:=⟨⟩;have:=BM 4 13 5 1;exact nz
theorem ze:∀n:Nat,Q_162 n:=by
  intro n
  induction n with
  |zero=>exact(λp c ea eb=>⟨λ_ h=>d_⟩)
  |succ n a=>exact zf n a
instance(p c ea eb):CT (RG p c ea eb) 162 [BQ p,AI c,eI ea,eI eb] rB:=⟨λr h=>by
  obtain ⟨N,a⟩:=Cy h;exact((ze N) p c ea eb).snd r (a N (az _))⟩
instance(a b c d):CT (N5 a b c d) 100 [AL a,BQ b,AI c,Bm d] rB:=Fe f100 0xa60a0ea79b7771f37771c6770ea7706c9b555a0ea79b9f8ab46c77b49b01b4a70162a1 [] (N5.eq_1 ..)
instance(a b c):CT (HH a b c) 46 [AL a,CB b,Bm c] rB:=Fe f46 0xa60e6ca710429bb655770ed370559ea1 [] (HH.eq_1 ..)
abbrev Q_47(n:Nat):Prop:=∀(p:d6)(c:d5)(a:Int),CT (Dl n p c a) 47 [BQ p,AI c,eI a] rB
theorem AB6(n:Nat)(_ih_47:Q_47 n)(p:d6)(c:d5)(a:Int):CT (Dl (n+1) p c a) 47 [BQ p,AI c,eI a] rB:=Fj f47 0x817f027707040204cbd701a709cd9b02758ae5dd770704020481070402030907040204765a0107040203ff8ae571f3010907040204810bf307de04b2de05765a0107de04ff8ae571c601b2de05810bc607de0407de043cb99bb5855cb909c99b0162a9 [] λh=>by
  unfold Dl at h;have:HJ 14 λ(b:d6)=>[(7,.bx [⟨T,lI b.d3.ci⟩,⟨T,lE b.d3.c9⟩,⟨T,lS b.ei⟩,⟨T,eI b.em⟩,⟨T,lT b.kg⟩])]:=⟨⟩;have:HW 0 λ(e:Int×Int)=>[(2,.tv (eI e.1)),(8,.tv (eI e.2))]:=⟨⟩;have:HW 2 λ(d:Int×Int)=>[(2,.tv (eI d.1)),(9,.tv (eI d.2))]:=⟨⟩;have:HW 4 λ(f:Int)=>[(10,.tv (eI f))]:=⟨⟩;exact nz
theorem AB5:∀n:Nat,Q_47 n:=by
  intro n
  induction n with
  |zero=>exact(λp c a=>⟨λ_ h=>d_⟩)
  |succ n b=>exact AB6 n b
instance(p c ways):CT (OO p c ways) 47 [BQ p,AI c,eI ways] rB:=⟨λr h=>by
  obtain ⟨N,a⟩:=Cy h;exact((AB5 N) p c ways).snd r (a N (az _))⟩
instance(a b):CT (N9 a b) 101 [AL a,(eL 25 CB) b] rI:=B1 f101 0xad07a903cbbed319bd5500ea07a903e2daf880017d559e36 [] (N9.eq_1 ..) (BM 0 7 1 0)
instance(a b c):CT (OA a b c) 48 [AL a,(eL 25 CB) b,Bm c] rI:=Fe f48 0x8160017d6c9fbebb016236 [] (OA.eq_1 ..)
instance(a b c):CT (IW a b c) 24 [AL a,(eL 25 CB) b,Bm c] rB:=B1 f24 0xa60a71f37771c601a50e6cbb07053704b205370576770ea7104119bd9b0141197e360a71745b0641197e360a71377c0141197e360a71745b014119bd3659d76cd319bd5507053704eab20537059daab46c7708967771360a713671366236 [] (IW.eq_1 ..) (BH 0 8 1 0 (hT 7 eB))
instance(a b):CT (NY a b) 49 [Bv a,eI b] rB:=Fe f49 0xa67f0b9170bb389e36 [] (NY.eq_1 ..)
instance(a b):CT (E7 a b) 25 [AL a,DY b] rB:=Fe f25 0xa696244277962242770e6c1942770e6c1f42706c1c42d3385501a1 [] (E7.eq_1 ..)
instance(a):CT (NZ a) 26 [CB a] rB:=Fe f26 0xa605ddf27705715cc177dd5ac18989fdfd555bbc555bb69e00 [] (NZ.eq_1 ..)
instance(a b c d e):CT (L0 a b c d e) 9 [AL a,(eL 25 CB) b,DY c,DY d,eI e] rB:=B1 f9 0xa60a0a0ae50a71a5360ae50a71a5a5360a05a560810b377c1c420b745b1c420704fc0b0704f5cbd7d319bd0704fcea0b0704f581aab4d33877b4d33877b4d65577b4d65501b46c1c42bb9e6204c5 [] (L0.eq_1 ..) (BM 0 11 1 0)
instance(a b):CT (PZ a b) 39 [(eL 2 LA) a,(eL 2 LA) b] (rS AL):=Fk f39 0x89556b020a6bf576d9b60748074729467fe63f02bd7fe63f02bd3fe504b681c16b02ff8ae571360a6bf5816bfc066b6a0576d93804480447e30438ff08066b6a0608066b6a063cd90342044728463f600508066b6a063cd903420447274605053f055d6005855d813fe5044b01c926460505055c05057f3f5c3fe5786b6a06786b6a063c895502bdda36891bc925466bfcff8a0ae57101367f066b6a05811ac91ac96a02 [.Aam (.c (.str ⟨#[65,66,67,68,69,70]⟩)) (Y (.s 35)) (Y (.s 37)),.cvt .i64 (.s 40),.Aam (.c (.str ⟨#[117,118,119,120,121,122]⟩)) (Y (.s 52)) (Y (.s 54)),.cvt .i64 (.s 64),.lst 1 [.c (.str ⟨#[111,102,102]⟩),.c (.str ⟨#[111,110]⟩)],.Aam (.c (.str ⟨#[101,102,103,104,105]⟩)) (Y (.s 99)) (Y (.s 101)),.aad (.s 105) (.c (.int .i64 0)) 1 2,.cvt .i64 (.s 107),.aad (.s 113) (.c (.int .i64 1)) 1 2,.cvt .i64 (.s 115)] [.cell 4 (Y 2)] λr h f g=>by
  unfold PZ at h;have:HW 0 λ(d:AC×Int)=>[(5,.bx [⟨X,lN d.1.ci⟩,⟨X,lX d.1.c9⟩]),(6,.tv (eI d.2))]:=⟨⟩;have:HW 3 λ(e:AC×Int)=>[(5,.bx [⟨X,lN e.1.ci⟩,⟨X,lX e.1.c9⟩]),(10,.tv (eI e.2))]:=⟨⟩;exact nz
instance(a b c):CT (Lz a b c) 185 [AL a,A5 b,eI c] (rO lI):=B1 f185 0xee0701b2de0576b2de05b2de053ca9d1c58e018d5c55070190e1b2de05d5c0fe62a9 [] (Lz.eq_1 ..) (BH 0 8 4 0 (hO 7 lI))
instance(a b c):CT (Pc a b c) 128 [AL a,VH b,eB c] (rS A5):=Fk f128 0x89550906020b0906040305760b090604037109060403053cd9b6034803470746617101e6e6cd01617101e6e6cd3604b68a7136710182820e5e4107cddf0e8407cddf81dde6e6cd090602ff8add77e5dd010b0906040305810906040304db7804030676d93801d16171013f8de104380906040304ff8a71360ae5715c77097804030681fd78040304b8de0676b8de06b8de063ca9d1c58a085e41e45c367804030490e1b8de06d5c0fd62a9 [.cvt .i64 (.s 59),.aad (.s 89) (.c (.int .i64 0)) 1 3,.cvt .i64 (.s 91),.aad (.s 130) (.c (.int .i64 1)) 1 3,.cvt .i64 (.s 132),.aad (.s 143) (.c (.int .i64 2)) 1 3,.cvt .i64 (.s 145)] [.cell 6 (Y 2)] λr h f g=>by
  unfold Pc at h;have:=BH 0 8 3 0 (hO 7 lI);have:HW 2 λ(e:d3×Int)=>[(9,.bx [⟨X,lI e.1.ci⟩,⟨X,lE e.1.c9⟩]),(10,.tv (eI e.2))]:=⟨⟩;have:HW 4 λ(d:d3×Int)=>[(9,.bx [⟨X,lI d.1.ci⟩,⟨X,lE d.1.c9⟩]),(11,.tv (eI d.2))]:=⟨⟩;exact nz
instance(a b):CT (GJ a b) 186 [eI a,eI b] rI:=Fe f186 0xdc5a5a36ba [] (GJ.eq_1 ..)
instance(a b):CT (PY a b) 129 [eI a,OZ b] (rS F1):=Fk f129 0xb92a46054605e63f011e46369d050e7fe63f050e7fe63fdc050ee63f04c9930001 [.aad (.s 3) (.c (.int .i64 0)) 1 4,.cvt .i64 (.s 9),.aad (.s 3) (.c (.int .i64 1)) 1 4,.cvt .i64 (.s 15),.aad (.s 3) (.c (.int .i64 2)) 1 4,.cvt .i64 (.s 22),.aad (.s 3) (.c (.int .i64 3)) 1 4,.cvt .i64 (.s 33)] [.cell 4 (Y 5)] λr h d e=>by
  unfold PY at h;exact nz
instance(a b):CT (Pd a b) 78 [AL a,VK b] (rS BQ):=Fk f78 0xb99b6b020fc30476d9b5054805470ee3e4b7b704b56b02ff8ae571b7010fc304816b8c0b06c30576d9a804480447e304a80e0b06c3060e0b06c3063cd95ba8d9034285b70e0b06c3060e0b06c3063cd9034205b7024aa81e46b785b774a8044b05c92b46054605053f9105053f5d5d5c8906c955024371013fe1ac1cc9d87e916b8cff8a71360ae57191010b06c3058106c30478ca067678ca060ab8ca087602024802470546360278ca06ea0ab8ca08d5e88dc65506c30490c60178ca068102c0055009c93f96385509c9a1 [.Aap [.v (.s 19) 0 2,.v (.s 19) 1 2,.z ⟨X,.list 4 []⟩,.z ⟨T,.int .i64 0⟩,.z ⟨X,.list 5 []⟩],.cvt .i64 (.s 75),.cvt .i64 (.s 87),.cvt .i64 (.s 92)] [.cell 4 (Y 5)] λr h f g=>by
  unfold Pd at h;have:HW 0 λ(e:List Kz×Int)=>[(6,.ow ((eL 2 Z2) e.1)),(7,.tv (eI e.2))]:=⟨⟩;have:=BH 2 10 8 0 (hO 6 (eL 2 Z2));have:HW 4 λ(d:d6×Int)=>[(5,.bx [⟨T,lI d.1.d3.ci⟩,⟨T,lE d.1.d3.c9⟩,⟨X,lS d.1.ei⟩,⟨T,eI d.1.em⟩,⟨X,lT d.1.kg⟩]),(11,.tv (eI d.2))]:=⟨⟩;have:HW 6 λ(c:d6×Int)=>[(5,.bx [⟨T,lI c.1.d3.ci⟩,⟨T,lE c.1.d3.c9⟩,⟨X,lS c.1.ei⟩,⟨T,eI c.1.em⟩,⟨X,lT c.1.kg⟩]),(15,.tv (eI c.2))]:=⟨⟩;exact nz
instance(a):CT (Kc a) 187 [(eL 1 eB) a] (rO lI):=B1 f187 0xee3704cc037604cc0304cc033ca9d1c58301bd37ea04cc03d5c0fe0001 [] (Kc.eq_1 ..) (BH 0 4 0 0 (hO 3 lI))
instance(a b c):CT (N1 a b c) 130 [A5 a,(eL 1 eB) b,(eL 1 eB) c] (λr=>.oag [⟨X,lI r.ci⟩,⟨X,lI r.c9⟩]):=Fk f130 0x2503f0e012014780203b85e0576b85e05b85e053cf6f65e4103cd148403cd148301bd780203eab85e058199014f3656f193a902 [.Aap [.w 39,.w 41]] [.cell 6 (Y 2)] λr h d e=>by
  unfold N1 at h;have:=BH 0 8 2 0 (hX 7 1 eB);exact nz
instance(a b):CT (Pa a b) 79 [A5 a,Ii b] (λr=>.oag [⟨X,lI r.ci⟩,⟨X,lI r.c9⟩]):=Fk f79 0x2501b181855066b020408066ba90676f6053f3f057f15143614066b02046515140108066ba90681066b025a786ba90676f6053f3f7f3614066b025a65151401786ba9068199993ff23fc1f19336 [.mkx 1 [.bool T] (.s 11),.mkx 1 [.bool T] (.s 15),.bin (.w) .shr (.s 25) (.s 27),.bin (.w) .and (.s 28) (.c (.int .u64 1)),.bin (.w) .shr (.s 40) (.s 45),.bin (.w) .and (.s 46) (.c (.int .u64 1))] [.cell 4 (Y 2)] λr h f g=>by
  unfold Pa at h;have:HW 0 λ(e:a6×Int)=>[(5,.xo 1 (v? eB e.1)),(7,.tv (eI e.2))]:=⟨⟩;have:HW 2 λ(d:a6×Int)=>[(6,.xo 1 (v? eB d.1)),(8,.tv (eI d.2))]:=⟨⟩;exact nz
instance(a):CT (NW a) 133 [AL a] (rO lI):=B1 f133 0xee37ed0376ed03ed033ca9d1c5885e41e45c3790e1ed03d5c0fe9300 [] (NW.eq_1 ..) (BH 0 4 1 0 (hO 3 lI))
instance(a b c):CT (N7 a b c) 81 [AL a,A5 b,KW c] (rS A5):=Fk f81 0x89557802c47805030676c478050306c4780503063cd9b6034803476c04b68e61915c615dec55acf007467fe6e67e03bc7fe6e67e03bcdde6e67e03bc7802ff8add77e50ae57103bc01c4780503069dc17805030409b805030676d93801d16171013f8d030542f53878050304ff8a71360ae5710305420109b80503068182960250fd1b55fd93a1 [.cvt .i64 (.s 40),.aad (.s 77) (.c (.int .i64 0)) 1 3,.cvt .i64 (.s 79),.aad (.s 88) (.c (.int .i64 1)) 1 3,.cvt .i64 (.s 90),.aad (.s 97) (.c (.int .i64 2)) 1 3,.cvt .i64 (.s 99)] [.cell 6 (Y 2)] λr h f g=>by
  unfold N7 at h;have:HW 0 λ(e:d3×Int)=>[(7,.bx [⟨X,lI e.1.ci⟩,⟨X,lE e.1.c9⟩]),(9,.tv (eI e.2))]:=⟨⟩;have:HW 2 λ(d:d3×Int)=>[(7,.bx [⟨X,lI d.1.ci⟩,⟨X,lE d.1.c9⟩]),(11,.tv (eI d.2))]:=⟨⟩;exact nz
instance(a b):CT (Ll a b) 134 [eI a,eI b] (rO lI):=B1 f134 0xee7fd4b376a9d1e5027f6536d4b3d5c0fe6a02 [] (Ll.eq_1 ..) (BH 0 6 1 0 (hO 5 lI))
instance(a b):CT (JB a b) 82 [eI a,(eL 1 Eh) b] (rO lI):=B1 f82 0x82187fd4b376f6f617cf011417cf011401140114dc05e53f8da5758a7101a536d4b381991a36406a02 [.cvt .i64 (.s 25)] (JB.eq_1 ..) (⟨⟩:HW 0 λ(c:Fp×Int)=>[(5,.xo 1 (v? eI c.1)),(6,.tv (eI c.2))])
instance(a):CT (GT a) 136 [lI a] rI:=iO f136 0xad040002760400026b0003cb85f9f904000265366b0003adea040002ad01cc0276aa71018da5619201eacc02816a01 [] (GT.eq_1 ..) (BM 0 3 0 0) (BM 2 4 0 0) (BM 4 5 4 0)
instance(a b):CT (Ln a b) 83 [A5 a,A8 b] (rT A5 eI):=Fk f83 0x818955093e0904020b09de0576034d034c074661915c615dec8d5d1db6acf0d8cd090402905d010b09de058109de04dbde0576f68d5c8d5c1d3809de04905c7709de0581025018c9279f89fcf70e5d5989fcf70e5c598903468addf25ac1c15989fcf79601fda1 [] [.cell 4 (Y 2),.tmp 5] λr h d e=>by
  unfold Ln at h;have:=BH 0 10 2 0 λs0:d3=>[(9,.bx [⟨X,.xl 1 (v? eI s0.ci)⟩,⟨X,.xl 3 (v? B6 s0.c9)⟩])];have:=BH 2 11 2 1 λs2:d3=>[(9,.bx [⟨X,.xl 1 (v? eI s2.ci)⟩,⟨X,.xl 3 (v? B6 s2.c9)⟩])];have:HY 106 (λ(a:Int)(b:Int)(c:Int)=>Bt.mk a b c) (eI) (eI) (eI):=⟨⟩;exact nz
instance(a b c d):CT (N8 a b c d) 84 [AL a,A5 b,eI c,(eL 3 DO) d] (rO lS):=KD f84 0xee097709ca065f7709ca06dbca06dbca063c0204480447e30288010f0edbca08100f0edbca0976770a055d84e4a55c7404bd360f0edbca08ea100f0edbca099d044b05c92b46054605e6e643a5057f3f0503e6bd7101e6e67e36ffdbca06da36e88d5c5581715ce6e6bd09758a715c77e57136dbca068104c00440625e02 [.aad (.s 35) (.c (.int .i64 0)) 1 3,.cvt .i64 (.s 37),.aad (.s 59) (.c (.int .i64 1)) 1 3,.cvt .i64 (.s 61),.aad (.s 68) (.c (.int .i64 1)) 1 3,.cvt .i64 (.s 71),.aad (.s 79) (.c (.int .i64 2)) 1 3,.cvt .i64 (.s 81)] (N8.eq_1 ..) (⟨⟩:HW 0 λ(e:List CA×Int)=>[(9,.ow (lS e.1)),(10,.tv (eI e.2))]) (BH 2 16 9 0 (hT 15 eB))
instance(a):CT (Ka a) 191 [eI a] (rO lI):=B1 f191 0xee3704cc0376a9d1c537653604cc03d5c0fe0001 [] (Ka.eq_1 ..) (BH 0 4 0 0 (hO 3 lI))
instance(a):CT (QI a) 137 [A5 a] (λr=>.oag [⟨X,lI r.ci⟩,⟨X,lI r.c9⟩]):=Fk f137 0xa93b02503f0ef20ec1f19300 [.Aap [.w 6,.w 10]] [.cell 2 (Y 2)] λr h b c=>by
  unfold QI at h;exact nz
instance(a b c):CT (Mq a b c) 85 [AL a,BQ b,dh c] (rS AI):=Fk f85 0x94b2e460947a7094b0ac92d46094722462c46b7df89f19638ff094b22467804033cd9b60348034707467fe63f7fe63fdde63f04b6ff094b22468add5a60057804033cd93801d1715ce63f0438dc85033f81c10250fd1bd00ac993a1 [.aad (.s 5) (.c (.int .i64 0)) 1 4,.aad (.s 5) (.c (.int .i64 1)) 1 4,.cvt .i64 (.s 26),.aad (.s 5) (.c (.int .i64 1)) 1 4,.cvt .i64 (.s 49),.aad (.s 5) (.c (.int .i64 2)) 1 4,.cvt .i64 (.s 56),.aad (.s 5) (.c (.int .i64 3)) 1 4,.cvt .i64 (.s 61)] [.cell 6 (Y 9)] λr h d e=>by
  unfold Mq at h;exact nz
instance(a):CT (Qm a) 86 [CB a] (rS CB):=Fk f86 0xa93b194b30462246030f4204460148840d42a20148740d42a204460148840b42a20148740b42a22f46965bbc2f46965bb65c0cc99300 [] [.cell 2 (Y 25)] λr h b c=>by
  unfold Qm at h;exact nz
instance(a b):CT (NV a b) 40 [AL a,KW b] (rS CB):=Fk f40 0x194bd3ff194b0ed3830842094a10420ee30a429b55d90241bc0e030742b7555bbc55024a0d4204460145f23645c1c54a5bbc7d04463655054abc3146b782820e030e42f20e030e42c189fd0e0f44df0189890049fd117d550b42d0194b0cc93f0e03b5d00309429bb909c90ee338550cc9a1 [.bld [.str ⟨#[]⟩,.list 1 [],.list 3 [],.list 4 [],.int .i64 0,.list 5 [],.list 1 [],.list 3 [],.list 4 [],.int .i64 0,.list 5 [],.list 1 [],.list 1 [],.list 1 [],.list 1 [],.bool T,.int .i64 0,.list 9 [],.list 1 [],.list 1 [],.list 1 [],.list 3 [],.list 4 [],.int .i64 0,.list 5 []] [(0,1,.c (.str ⟨#[114]⟩)),(1,5,.s 17),(15,1,.s 19),(11,2,.s 24)]] [.cell 4 (Y 25)] λr h d e=>by
  unfold NV at h;exact nz
instance(a):CT (NS a) 87 [AL a] (rO lI):=B1 f87 0xee37ed0376ed03ed033ca9d1c5885e41e45c3790e1ed03d5c0fe9300 [] (NS.eq_1 ..) (BH 0 4 1 0 (hO 3 lI))
instance(a b):CT (Pb a b) 41 [AL a,VJ b] (rS Bm):=Fk f41 0xac6c6b020e0dca06760e0dca060e0dca063cd9014138034803476c040141388e6191c6615dc65c55acf007467fe6e6cd7fe6e6cddde6e6cd6b02ff8add77e50ae5dd700dca069d0bc6ca0478ca0676d9a8d95b3801d1f5a801d1f55b380bb8ca080c0b09b8ca0a76a9d1050505058404bd5e410443a57fe63f027e5c8404bd020bb8ca08ea0c0b09b8ca0a8182a201e8bb81617101e63f027e5c5ade04ff8a71360ae571e178ca0681829610c910c9a1 [.aad (.s 38) (.c (.int .i64 0)) 1 2,.cvt .i64 (.s 40),.aad (.s 69) (.c (.int .i64 1)) 1 2,.cvt .i64 (.s 71),.aad (.s 134) (.c (.int .i64 0)) 1 3,.cvt .i64 (.s 136),.aad (.s 145) (.c (.int .i64 1)) 1 3,.cvt .i64 (.s 147),.aad (.s 154) (.c (.int .i64 2)) 1 3,.cvt .i64 (.s 156)] [.cell 4 (Y 3)] λr h f g=>by
  unfold Pb at h;have:HW 0 λ(e:AG×Int)=>[(5,.bx [⟨X,lI e.1.d3.ci⟩,⟨X,lE e.1.d3.c9⟩,⟨X,(eL 1 lI) e.1.eh⟩]),(7,.tv (eI e.2))]:=⟨⟩;have:=BH 2 12 9 0 (hO 11 lI);have:HW 4 λ(d:AG×Int)=>[(5,.bx [⟨X,lI d.1.d3.ci⟩,⟨X,lE d.1.d3.c9⟩,⟨X,(eL 1 lI) d.1.eh⟩]),(14,.tv (eI d.2))]:=⟨⟩;exact nz
end Go.Sf.Sc
