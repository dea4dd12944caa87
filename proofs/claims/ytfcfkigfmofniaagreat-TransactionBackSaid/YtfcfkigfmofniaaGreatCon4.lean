/- Contracts of the functions. -/
import Derived.Test.YtfcfkigfmofniaaGreatCon0
set_option linter.all false
set_option maxRecDepth 100000
set_option maxHeartbeats 4000000
open Option renaming some->Y
open Bool renaming true->X,false->T
open List renaming map->u!
namespace Go.Sf.Sc
open Go Go.Sf Go.Proofs.Tryz
instance ye:CT (Pu ) 16 [] (λr=>.yy [⟨X,lN r.ca⟩,⟨X,lX r.ci⟩]):=Fk f16 0x2503f07473f3f04473f3f04473f3f3f3f04473f17c900 [.bld [.str ⟨#[]⟩,.int .i64 0,.int .i64 0,.list 1 []] [(0,1,.c (.str ⟨#[98,97,108,97,110,99,101]⟩)),(1,1,.c (.int .i64 (-1000))),(2,1,.c (.int .i64 1000))],.bld [.str ⟨#[]⟩,.int .i64 0,.bool T,.list 4 []] [(0,1,.c (.str ⟨#[65,99,99,111,117,110,116]⟩)),(1,1,.c (.int .i64 (-1))),(2,1,.c (.bool X)),(3,1,.s 2)],.bld [.str ⟨#[]⟩,.int .i64 0,.bool T,.list 4 []] [(0,1,.c (.str ⟨#[67,97,115,104]⟩)),(1,1,.c (.int .i64 0))],.lst 1 [.c (.str ⟨#[111,112,101,110]⟩),.c (.str ⟨#[99,108,111,115,101,100]⟩)],.bld [.str ⟨#[]⟩,.int .i64 0,.int .i64 0,.list 1 []] [(0,1,.c (.str ⟨#[115,116,97,116,101]⟩)),(2,1,.c (.int .i64 1)),(3,1,.s 5)],.bld [.str ⟨#[]⟩,.int .i64 0,.bool T,.list 4 []] [(0,1,.c (.str ⟨#[76,111,97,110]⟩)),(1,1,.c (.int .i64 0)),(3,1,.s 7)],.bld [.str ⟨#[]⟩,.int .i64 0,.bool T,.list 4 []] [(0,1,.c (.str ⟨#[80,101,114,115,111,110]⟩)),(1,1,.c (.int .i64 (-1)))],.bld [.str ⟨#[]⟩,.int .i64 0,.int .i64 0,.int .i64 0,.int .i64 0,.int .i64 0,.int .i64 0] [(0,1,.c (.str ⟨#[111,119,110,115]⟩)),(1,1,.c (.int .i64 3)),(2,1,.c (.int .i64 0)),(4,1,.c (.int .i64 (-1))),(5,1,.c (.int .i64 1)),(6,1,.c (.int .i64 1))],.bld [.str ⟨#[]⟩,.int .i64 0,.int .i64 0,.int .i64 0,.int .i64 0,.int .i64 0,.int .i64 0] [(0,1,.c (.str ⟨#[112,97,121,115]⟩)),(1,1,.c (.int .i64 1)),(2,1,.c (.int .i64 1)),(4,1,.c (.int .i64 (-1))),(6,1,.c (.int .i64 (-1)))],.yz [.w 10,.w 13]] [.cell 0 (Y 2)] λr h a b=>by
  unfold Pu at h;exact nz
instance(a b):CT (Nv a b) 37 [(eL 2 EC) a,(eL 2 EC) b] (rS AJ):=Fk f37 0x8c3863020a6301046ee6b907480747214658ee3f02c158ee3f02c13f9e04b981f06302ff8a9e65300a63010481630103d097056ee63704480447ad0437ff08d0970608d097065f4a0342044720463f610508d097065f4a034204471f4605053f055e6105855e813f9ed400c91e460505055b0505583f5b3f9e72639706726397063c8c3802c1850b308c18c91d46630103ff8afdfa3058d097058117c917c99702 [.y6 (.c (.str ⟨#[65,66,67,68,69,70]⟩)) (Y (.s 35)) (Y (.s 37)),.zp .i64 (.s 40),.y6 (.c (.str ⟨#[117,118,119,120,121,122]⟩)) (Y (.s 52)) (Y (.s 54)),.zp .i64 (.s 64),.lst 1 [.c (.str ⟨#[111,102,102]⟩),.c (.str ⟨#[111,110]⟩)],.y6 (.c (.str ⟨#[101,102,103,104,105]⟩)) (Y (.s 99)) (Y (.s 101)),.zJ (.s 105) (.c (.int .i64 0)) 1 2,.zp .i64 (.s 107),.zJ (.s 113) (.c (.int .i64 1)) 1 2,.zp .i64 (.s 115)] [.cell 4 (Y 2)] λr h f g=>by
  unfold Nv at h;have:HW 0 λ(d:eb×Int)=>[(5,.bx [⟨X,lN d.1.ca⟩,⟨X,lX d.1.ci⟩]),(6,.tv (eI d.2))]:=⟨⟩;have:HW 3 λ(e:eb×Int)=>[(5,.bx [⟨X,lN e.1.ca⟩,⟨X,lX e.1.ci⟩]),(10,.tv (eI e.2))]:=⟨⟩;exact nz
instance(a b c):CT (MS a b c) 38 [Nc a,eI b,eI c] (rS Nc):=Fk f38 0x6013b8c104603452d010b5e96452d01f05bfb937802 [] [.cell 6 (Y 2)] λr h d e=>by
  unfold MS at h;exact nz
instance(a b c):CT (DU a b c) 120 [eI a,eI b,eI c] rB:=Fe f120 0xb458305830780003 [] (DU.eq_1 ..)
abbrev Q_119(n:Nat):Prop:=∀(t:eb)(a:Int),CT (GE n t a) 119 [AJ t,eI a] (rO lA)
theorem uT(n:Nat)(_ih_119:Q_119 n)(t:eb)(a:Int):CT (GE (n+1) t a) 119 [AJ t,eI a] (rO lA):=Fj f119 0x8204487f41c65b04480e7ec65b380447ff04c085010440d8 [] λh=>by
  unfold GE at h;exact nz
theorem uR:∀n:Nat,Q_119 n:=by
  intro n
  induction n with
  |zero=>exact(λt a=>⟨λ_ h=>c?⟩)
  |succ n b=>exact uT n b
instance(t a):CT (O9 t a) 119 [AJ t,eI a] (rO lA):=⟨λr h=>by
  obtain ⟨N,b⟩:=Cq h;exact((uR N) t a).snd r (b N (b6 _))⟩
instance(a):CT (QH a) 295 [WT a] (rS eS):=Fe f295 0x815e553f3f5e855b3fa5 [.mv (.c (.str ⟨#[]⟩)),.bin (.s) .add (.c (.str ⟨#[34]⟩)) (.s 7),.bin (.s) .add (.s 8) (.c (.str ⟨#[34]⟩))] (QH.eq_1 ..)
instance(a):CT (K9 a) 336 [HF a] rB:=Fe f336 0xb4fd9efd058401 [] (K9.eq_1 ..)
instance(a):CT (Ii a) 337 [HF a] rB:=Fe f337 0xb49e058401 [] (Ii.eq_1 ..)
instance(a b c):CT (Pa a b c) 338 [eS a,eI b,eB c] rI:=Bl f338 0xb80701ff077800046c0701ff8a0a0af8129e300e129e3008300e129e30050c019e07780004b8780003 [] (Pa.eq_1 ..) (⟨⟩:HW 0 λ(d:Int)=>[(7,.tv (eI d))])
instance(a b):CT (LA a b) 339 [eS a,eI b] rI:=Bl f339 0xa692cd9a9e58555869125884640c019e92deb7 [] (LA.eq_1 ..) (⟨⟩:HW 0 λ(c:Int)=>[(5,.tv (eI c))])
instance yO:CT (O8 ) 340 [] (rO lB):=Fe f340 0x823f014000 [.lst 1 [.c (.str ⟨#[45,62]⟩),.c (.str ⟨#[60,61]⟩),.c (.str ⟨#[62,61]⟩),.c (.str ⟨#[61,61]⟩),.c (.str ⟨#[33,61]⟩),.c (.str ⟨#[123]⟩),.c (.str ⟨#[125]⟩),.c (.str ⟨#[40]⟩),.c (.str ⟨#[41]⟩),.c (.str ⟨#[91]⟩),.c (.str ⟨#[93]⟩),.c (.str ⟨#[44]⟩),.c (.str ⟨#[59]⟩),.c (.str ⟨#[58]⟩),.c (.str ⟨#[61]⟩),.c (.str ⟨#[43]⟩),.c (.str ⟨#[45]⟩),.c (.str ⟨#[42]⟩),.c (.str ⟨#[60]⟩),.c (.str ⟨#[62]⟩),.c (.str ⟨#[33]⟩),.c (.str ⟨#[38]⟩),.c (.str ⟨#[124]⟩),.c (.str ⟨#[46]⟩),.c (.str ⟨#[63]⟩)]] (O8.eq_1 ..)
instance(a b):CT (PZ a b) 296 [eS a,eI b] (λr=>.tp [WT r.1,eI r.2.1,eI r.2.2]):=Fk f296 0x899f22460401d20497056eff04013b899f0c608446e08a06e00d050ce03030050c01050c80300401bed204970581820edd9f97460d059e9edd9f22468558dd9f224677308501dd9f97460d583030dd9f22468530a708049706a7080497063c308e61890e0e01308a0e300e6112303019c99702 [] [.cell 4 (Y 3),.tmp 5,.tmp 6] λr h d e=>by
  unfold PZ at h;have:HJ 29 λ(c:Int×Int)=>[(9,.tv (eI c.1)),(10,.tv (eI c.2))]:=⟨⟩;have:=Ay 0 13 12 0 λs0:F6=>[(4,.bx [⟨T,eI s0.l3⟩,⟨T,eS s0.AaW⟩,⟨T,eI s0.Line⟩])];exact nz
instance(a):CT (O7 a) 252 [WT a] rB:=Fe f252 0xb4055b76f80c013058899f19c911740155bf610e6d01a5 [.bin (.s) .eql (.s 9) (.c (.str ⟨#[]⟩))] (O7.eq_1 ..)
instance(a):CT (FC a) 183 [eS a] rB:=Fe f183 0x810e00468401 [] (FC.eq_1 ..)
instance(a):CT (ME a) 294 [lB a] rI:=Hz f294 0xa6d7026ed70204d7cd5586e0e0d702643004d7dee86084bed70281ba0b8401 [] (ME.eq_1 ..) (A3 0 3 0 0) (A3 2 4 3 0)
instance(a):CT (IN a) 250 [IF a] rI:=Fe f250 0x819a0565bcdb055eaabc559aa95edba95e850b7f70a5 [] (IN.eq_1 ..)
instance(a b):CT (Nx a b) 181 [AJ a,eI b] rI:=gT f181 0xa6a8026eaaad04c1a80209a8cd55867104c17104c1a802643009a8dee871044384bea8028165bcf3e43065bc820ec3e8585e0578ed0578046e55865b71c65b05780364300605780481e85bd400c9adc676d8 [] (Nx.eq_1 ..) (A3 0 6 1 0) (A3 2 8 7 0) (A3 4 9 8 0)
instance(a b):CT (KK a b) 251 [eI a,eI b] rB:=Fe f251 0xb40a0e01309e0e01b7 [] (KK.eq_1 ..)
instance(a b):CT (Nw a b) 182 [AJ a,eI b] rI:=Bl f182 0x819aa903d50305700aa9ec7f700aa901dba9015e81655b050202060578046e55865b7107735e05020264300605780481e85b074b01c90744077396d8 [] (Nw.eq_1 ..) (A3 0 6 1 0)
instance(a):CT (Ez a) 130 [AJ a] (rT eS eI):=Hz f130 0x81bf0006cb6e55b87107735e77c3007c9606cb813004cb6e55b871c65b77c3307c7604cb8155bf8a6596655b55bf850b763fa5 [.mv (.c (.str ⟨#[]⟩)),.mv (.c (.str ⟨#[]⟩)),.mv (.c (.str ⟨#[]⟩)),.mv (.c (.str ⟨#[]⟩))] (Ez.eq_1 ..) (A3 0 4 1 0) (A3 2 6 1 1)
instance(a b c):CT (KL a b c) 118 [AJ a,eI b,eI c] rI:=Fe f118 0x819aa9655b30a965767d6901748d937802 [] (KL.eq_1 ..)
instance(a b):CT (Dv a b) 76 [AJ a,eI b] (rT lA eI):=Bl f76 0x81ef070109a8cd0204480447ad784a0370487f7047d402c9ad04c10701be09a8de820ec304c05504d677308d0440d8 [] (Dv.eq_1 ..) (Ay 0 9 8 0 (hO 7 lA))
abbrev Q_121(n:Nat):Prop:=∀(t:eb)(a:Int)(b:Int),CT (FV n t a b) 121 [AJ t,eI a,eI b] rB
theorem uV(n:Nat)(_ih_121:Q_121 n)(t:eb)(a:Int)(b:Int):CT (FV (n+1) t a b) 121 [AJ t,eI a,eI b] rB:=Fj f121 0xb40a0e017ec65b8d9e5830937802 [] λh=>by
  unfold FV at h;exact nz
theorem uU:∀n:Nat,Q_121 n:=by
  intro n
  induction n with
  |zero=>exact(λt a b=>⟨λ_ h=>c?⟩)
  |succ n c=>exact uV n c
instance(t a b):CT (FE t a b) 121 [AJ t,eI a,eI b] rB:=⟨λr h=>by
  obtain ⟨N,c⟩:=Cq h;exact((uU N) t a b).snd r (c N (b6 _))⟩
instance(a b c):CT (KN a b c) 170 [AJ a,Ah b,eI c] (rO lI):=Bl f170 0xef0701a8e5056ea8e505a8e5053c78cccb8e01805b3807017c76a8e505b8d6406278 [] (KN.eq_1 ..) (Ay 0 8 4 0 (hO 7 lI))
instance(a b c):CT (N3 a b c) 109 [AJ a,Nc b,eB c] (rS Ah):=Fk f109 0x8c380906020b09060403056e0b090604036509060403055f4ab903480347074660faee3fc49660faee3fc45e3004b98a6530fa82820e5d4107735eb10e7e07735eb181655eee3fc45e090602ff8a6596fd65960b0906040305810906049ba77204ed6ee6b6cc60fa3f807604370906049bff8a6530fd6576a77204ed81fb72049bb3e5066eb3e506b3e5063c78cccb8a085d41c65b3072049b7c76b3e506b8c0fb6278 [.zp .i64 (.s 59),.zJ (.s 89) (.c (.int .i64 0)) 1 3,.zp .i64 (.s 91),.zJ (.s 130) (.c (.int .i64 1)) 1 3,.zp .i64 (.s 132),.zJ (.s 143) (.c (.int .i64 2)) 1 3,.zp .i64 (.s 145)] [.cell 6 (Y 2)] λr h f g=>by
  unfold N3 at h;have:=Ay 0 8 3 0 (hO 7 lI);have:HW 2 λ(d:d3×Int)=>[(9,.bx [⟨X,lI d.1.ca⟩,⟨X,lE d.1.ci⟩]),(10,.tv (eI d.2))]:=⟨⟩;have:HW 4 λ(e:d3×Int)=>[(9,.bx [⟨X,lI e.1.ca⟩,⟨X,lE e.1.ci⟩]),(11,.tv (eI e.2))]:=⟨⟩;exact nz
instance(a b):CT (FD a b) 171 [eI a,eI b] rI:=Fe f171 0x8158589eb7 [] (FD.eq_1 ..)
instance(a b):CT (Nu a b) 110 [eI a,Qj b] (rS GP):=Fk f110 0x752446054605ee3f0123463089050e58ee3f050e58ee3fc5050eee3f04c9a501 [.zJ (.s 3) (.c (.int .i64 0)) 1 4,.zp .i64 (.s 9),.zJ (.s 3) (.c (.int .i64 1)) 1 4,.zp .i64 (.s 15),.zJ (.s 3) (.c (.int .i64 2)) 1 4,.zp .i64 (.s 22),.zJ (.s 3) (.c (.int .i64 3)) 1 4,.zp .i64 (.s 33)] [.cell 4 (Y 5)] λr h d e=>by
  unfold Nu at h;exact nz
instance(a b):CT (N5 a b) 66 [AJ a,T4 b] (rS BB):=Fk f66 0x756f63020f639b6ee6f1054805470eadc6bcbc04f16302ff8a9e657f700f639b81637f0bd003056ee6bd04480447ad04bd0e0bd0ed0e0bd0ed5f4a5c02704a034285bc0e0bd0ed0e0bd0ed5f4a034205bc024abd2346bc85bc71bdd405c92546054605053fb505053f5e5e5b8c06c9380243fa3f769f1ac9f6b5637fff8a6530fd65db0bd0030581d09b72bb066e72bb060ab3bb086e02024802470546300272bb06be0ab3bb08b8e980d938d09b7c71b672bb068102c0055009c93f0ecf3809c9a2 [.yz [.v (.s 19) 0 2,.v (.s 19) 1 2,.z ⟨X,.list 4 []⟩,.z ⟨T,.int .i64 0⟩,.z ⟨X,.list 5 []⟩],.zp .i64 (.s 75),.zp .i64 (.s 87),.zp .i64 (.s 92)] [.cell 4 (Y 5)] λr h f g=>by
  unfold N5 at h;have:HW 0 λ(e:List Jb×Int)=>[(6,.ow ((eL 2 YB) e.1)),(7,.tv (eI e.2))]:=⟨⟩;have:=Ay 2 10 8 0 (hO 6 (eL 2 YB));have:HW 4 λ(d:d7×Int)=>[(5,.bx [⟨T,lI d.1.d3.ca⟩,⟨T,lE d.1.d3.ci⟩,⟨X,lS d.1.ed⟩,⟨T,eI d.1.ff⟩,⟨X,lT d.1.mo⟩]),(11,.tv (eI d.2))]:=⟨⟩;have:HW 6 λ(c:d7×Int)=>[(5,.bx [⟨T,lI c.1.d3.ca⟩,⟨T,lE c.1.d3.ci⟩,⟨X,lS c.1.ed⟩,⟨T,eI c.1.ff⟩,⟨X,lT c.1.mo⟩]),(15,.tv (eI c.2))]:=⟨⟩;exact nz
instance(a):CT (JI a) 172 [(eL 1 eB) a] (rO lI):=Bl f172 0xef3604d7cd04d79bd7033c78cccb8301c136be04d703b8d6400001 [] (JI.eq_1 ..) (Ay 0 4 0 0 (hO 3 lI))
instance(a b c):CT (MG a b c) 111 [Ah a,(eL 1 eB) b,(eL 1 eB) c] (λr=>.yy [⟨X,lI r.ca⟩,⟨X,lI r.ci⟩]):=Fk f111 0x2503f0e012014720203b35d056eb35d05b35d055fe301e35d41c45e147ec45e148301c1720203beb35d058199014f3056f4937802 [.yz [.w 39,.w 41]] [.cell 6 (Y 2)] λr h d e=>by
  unfold MG at h;have:=Ay 0 8 2 0 (hX 7 1 eB);exact nz
instance(a b):CT (Nz a b) 67 [Ah a,Ig b] (λr=>.yy [⟨X,lI r.ca⟩,⟨X,lI r.ci⟩]):=Fk f67 0x2501b181838d0020408d078066e01e3053f3f055815143014d002046415140108d0780681d07805726378066e01e3053f3f583014d0780564151401726378068199993f0b5e3ff0f4d8 [.mkx 1 [.bool T] (.s 11),.mkx 1 [.bool T] (.s 15),.bin (.w) .shr (.s 25) (.s 27),.bin (.w) .and (.s 28) (.c (.int .u64 1)),.bin (.w) .shr (.s 40) (.s 45),.bin (.w) .and (.s 46) (.c (.int .u64 1))] [.cell 4 (Y 2)] λr h f g=>by
  unfold Nz at h;have:HW 0 λ(d:a6×Int)=>[(5,.xo 1 (u! eB d.1)),(7,.tv (eI d.2))]:=⟨⟩;have:HW 2 λ(e:a6×Int)=>[(6,.xo 1 (u! eB e.1)),(8,.tv (eI e.2))]:=⟨⟩;exact nz
instance(a):CT (Lh a) 174 [eI a] rB:=Fe f174 0xb49e058401 [] (Lh.eq_1 ..)
instance(a b):CT (PA a b) 175 [Bu a,eI b] rB:=Fe f175 0xb458dbf8db0a5896f85e6b76d8 [] (PA.eq_1 ..)
instance(a):CT (DL a) 116 [Ah a] rI:=Hz f116 0xa604cb6ee8f0f65e007c9604cb813036026ee8805b307c76360281e4966576a5 [] (DL.eq_1 ..) (A3 0 3 1 0) (A3 2 4 1 1)
instance(a b):CT (GU a b) 238 [lI a,eI b] rI:=Bl f238 0xa692cd9a05609e8030589a588030056084be92deb7 [] (GU.eq_1 ..) (A3 0 5 0 0)
instance(a b):CT (Pd a b) 239 [lI a,eI b] rB:=Bl f239 0xa692cdba016084be92deb7 [] (Pd.eq_1 ..) (A3 0 5 0 0)
instance(a b):CT (PB a b) 173 [Ah a,Hk b] rI:=Bl f173 0xa6075dcd9aa9b576a95e5b9ff56d0343805e5e007c96075ddeaa0b5e5eaaf076a2 [] (PB.eq_1 ..) (A3 0 7 3 1)
instance(a b):CT (Ij a b) 112 [Ah a,Hk b] rI:=Fe f112 0x810eb1aa8da2 [] (Ij.eq_1 ..)
instance(a b):CT (Ik a b) 113 [lI a,eI b] rI:=Bl f113 0xa692cd7d85016084be92deb7 [] (Ik.eq_1 ..) (A3 0 5 0 0)
instance(a b):CT (GY a b) 68 [Ah a,Hk b] (λr=>.tp [Ah r.1,Ao r.2.1,eI r.2.2]):=Fk f68 0x63023b818c8c044601489647014876473808639b0a08bb066ee6b90348034707f2b55b0e5e5b5b04b99ff56d0343805e5e08639b7c960a08bb068108bb050908bb066ee6b6cc60805b5b043708bb057c760908bb0681fb558c8c010346024677388df4fba2 [] [.cell 4 (Y 2),.cell 5 (Y 2),.tmp 6] λr h c d=>by
  unfold GY at h;have:=Ay 0 9 3 0 λs0:d3=>[(8,.bx [⟨X,lI s0.ca⟩,⟨X,lE s0.ci⟩])];have:=Ay 2 10 3 1 λs2:d3=>[(8,.bx [⟨X,lI s2.ca⟩,⟨X,lE s2.ci⟩])];exact nz
instance(a b c d):CT (IM a b c d) 77 [AJ a,eI b,eI c,eI d] rB:=Fe f77 0xb40e5d41077396386b7e077396389aa9655e30050e308d935d0103 [] (IM.eq_1 ..)
instance(a):CT (C4 a) 86 [Ah a] (λr=>.yy [⟨X,lI r.ca⟩,⟨X,lE r.ci⟩]):=Fk f86 0x783b0250ee485e034701487647fba5 [.yz [.w 6,.w 10]] [.cell 2 (Y 2)] λr h b c=>by
  unfold C4 at h;exact nz
instance(a):CT (Ll a) 114 [AJ a] (rO lI):=Bl f114 0xef36fccdfc9b36033c78cccb885d41c65b367c76fc03b8d640a5 [] (Ll.eq_1 ..) (Ay 0 4 1 0 (hO 3 lI))
instance(a b c):CT (MP a b c) 69 [AJ a,Ah b,JB c] (rS Ah):=Fk f69 0x8c387202e17205ed6ee17205ede17205ed5f4ab9034803476d04b98e60b55b605e5b5b389ff5074658ee3fc403d558ee3fc403d5655eee3fc403d57202ff8a6596fdfd65ed70e17205ed89f072059b09b305ed6ee6b6cc60fa3f80030570043772059bff8a6530fd6503057009b305ed81820e380250fb1b38fbf7 [.zp .i64 (.s 40),.zJ (.s 77) (.c (.int .i64 0)) 1 3,.zp .i64 (.s 79),.zJ (.s 88) (.c (.int .i64 1)) 1 3,.zp .i64 (.s 90),.zJ (.s 97) (.c (.int .i64 2)) 1 3,.zp .i64 (.s 99)] [.cell 6 (Y 2)] λr h f g=>by
  unfold MP at h;have:HW 0 λ(d:d3×Int)=>[(7,.bx [⟨X,lI d.1.ca⟩,⟨X,lE d.1.ci⟩]),(9,.tv (eI d.2))]:=⟨⟩;have:HW 2 λ(e:d3×Int)=>[(7,.bx [⟨X,lI e.1.ca⟩,⟨X,lE e.1.ci⟩]),(11,.tv (eI e.2))]:=⟨⟩;exact nz
instance(a b):CT (J7 a b) 115 [eI a,eI b] (rO lI):=Bl f115 0xef58e76e78cc9e02586430e7b8d6409702 [] (J7.eq_1 ..) (Ay 0 6 1 0 (hO 5 lI))
instance(a b):CT (Ht a b) 70 [eI a,(eL 1 HF) b] (rO lI):=Bl f70 0x821858e76e01e301e317d1011417d1011401140114c5059e3f803058ff8afa309ee781991a30409702 [.zp .i64 (.s 25)] (Ht.eq_1 ..) (⟨⟩:HW 0 λ(c:Fp×Int)=>[(5,.xo 1 (u! eI c.1)),(6,.tv (eI c.2))])
instance(a):CT (FQ a) 117 [lI a] rI:=gT f117 0xa60400026e0400026300cdbae0e00400026430630003a6be040002a601d7026ee401803005608401bed702819701 [] (FQ.eq_1 ..) (A3 0 3 0 0) (A3 2 4 0 0) (A3 4 5 4 0)
instance(a b):CT (J8 a b) 71 [Ah a,Ao b] (rT Ah eI):=Fk f71 0x818c38093e0904020b09e5056e034d034c074660b55b605e5b5b805e1db99ff5f65e0904027c960b09e5058109e504a7e5056e01e3805b805b1d3709e5047c76a7e5058102501bc92738558ccb46775e558ccb46775b558c02468a655e0b96655bf0558ccb46778dfba2 [] [.cell 4 (Y 2),.tmp 5] λr h d e=>by
  unfold J8 at h;have:=Ay 0 10 2 0 λs0:d3=>[(9,.bx [⟨X,.xl 1 (u! eI s0.ca)⟩,⟨X,.xl 3 (u! Bu s0.ci)⟩])];have:=Ay 2 11 2 1 λs2:d3=>[(9,.bx [⟨X,.xl 1 (u! eI s2.ca)⟩,⟨X,.xl 3 (u! Bu s2.ci)⟩])];have:HY 106 (λ(a:Int)(b:Int)(c:Int)=>Bo.mk a b c) (eI) (eI) (eI):=⟨⟩;exact nz
instance(a b c d):CT (MR a b c d) 72 [AJ a,Ah b,eI c,(eL 3 Fx) d] (rO lS):=Hz f72 0xef0901a7bb066ca7bb06a7bb06a7bb063c0204480447ad0288010f0ea7bb08100f0ea7bb096e010af85e7ec630055b7104c1300f0ea7bb08be100f0ea7bb0989d405c92546054605eeeec10505583f0503eec1faee3fc430ffa7bb06850b30e9805b3881655beeeec10901ff8a6576fd6530a7bb068104c00440625d02 [.zJ (.s 35) (.c (.int .i64 0)) 1 3,.zp .i64 (.s 37),.zJ (.s 59) (.c (.int .i64 1)) 1 3,.zp .i64 (.s 61),.zJ (.s 68) (.c (.int .i64 1)) 1 3,.zp .i64 (.s 71),.zJ (.s 79) (.c (.int .i64 2)) 1 3,.zp .i64 (.s 81)] (MR.eq_1 ..) (⟨⟩:HW 0 λ(e:List Bw×Int)=>[(9,.ow (lS e.1)),(10,.tv (eI e.2))]) (Ay 2 16 9 0 (hT 15 eB))
instance(a):CT (JG a) 85 [eI a] (rO lI):=Bl f85 0xef3604d7cd78cccb36643004d703b8d6400001 [] (JG.eq_1 ..) (Ay 0 4 0 0 (hO 3 lI))
instance(a):CT (Mz a) 50 [Ah a] (λr=>.yy [⟨X,lI r.ca⟩,⟨X,lI r.ci⟩]):=Fk f50 0x783b02503f0e0b5e0ef0f4a5 [.yz [.w 6,.w 10]] [.cell 2 (Y 2)] λr h b c=>by
  unfold Mz at h;exact nz
instance(a b c):CT (LG a b c) 73 [AJ a,BB b,Z3 c] (rS AI):=Fk f73 0x94b28460947b2094b0ac9274609471b462646bcb18cf40ecfff094b1b467204035f4ab903480347074658ee3f58ee3f655eee3f04b9ff094b1b468a659658c57204035f4ab6cc655bee3f0437c585033f81f00250fb1bcf0ac9f7 [.zJ (.s 5) (.c (.int .i64 0)) 1 4,.zJ (.s 5) (.c (.int .i64 1)) 1 4,.zp .i64 (.s 26),.zJ (.s 5) (.c (.int .i64 1)) 1 4,.zp .i64 (.s 49),.zJ (.s 5) (.c (.int .i64 2)) 1 4,.zp .i64 (.s 56),.zJ (.s 5) (.c (.int .i64 3)) 1 4,.zp .i64 (.s 61)] [.cell 6 (Y 9)] λr h d e=>by
  unfold LG at h;exact nz
instance(a):CT (PF a) 74 [BX a] (rS BX):=Fk f74 0x783b194b29461b46030f42044601487e0d70470148710d7047044601487e0b70470148710b70471af2ead51af2eab95b0cc9a5 [] [.cell 2 (Y 25)] λr h b c=>by
  unfold PF at h;exact nz
instance(a b):CT (N8 a b) 39 [AJ a,JB b] (rS BX):=Fk f39 0x194bebff194b0eeb830842094a10420ead0a426f8d4a0241d50e030742bcead538024a0d42044601450b5e30450b76024a5cd57404463038054ad52a46bc82820e030e420b5e0e030e42f08cfb0e0f44388d8c8c0849fb1174380b42cf194b0cc93f0eeccf0309426f7509c90ead37380cc9a2 [.bld [.str ⟨#[]⟩,.list 1 [],.list 3 [],.list 4 [],.int .i64 0,.list 5 [],.list 1 [],.list 3 [],.list 4 [],.int .i64 0,.list 5 [],.list 1 [],.list 1 [],.list 1 [],.list 1 [],.bool T,.int .i64 0,.list 9 [],.list 1 [],.list 1 [],.list 1 [],.list 3 [],.list 4 [],.int .i64 0,.list 5 []] [(0,1,.c (.str ⟨#[114]⟩)),(1,5,.s 17),(15,1,.s 19),(11,2,.s 24)]] [.cell 4 (Y 25)] λr h d e=>by
  unfold N8 at h;exact nz
instance(a):CT (Lk a) 75 [AJ a] (rO lI):=Bl f75 0xef36fccdfc9b36033c78cccb885d41c65b367c76fc03b8d640a5 [] (Lk.eq_1 ..) (Ay 0 4 1 0 (hO 3 lI))
instance(a b):CT (N0 a b) 40 [AJ a,T3 b] (rS Bk):=Fk f40 0x9f6d63020e0dbb066e0e0dbb060e0dbb065f4a014137034803476d040141378e60b5d9605ed95b389ff5074658ee3fc45e58ee3fc45e655eee3fc45e6302ff8a6596fdfd655e6b0dbb06890bd9bb0472bb066ee602704a5cb6cc01040270cc01045c370bb3bb080c0b09b3bb0a6e78cc050505057e04c15d4104c10558ee3f02735b7e04c1020bb3bb08be0c0b09b3bb0a8182ac01e9c38160faee3f027376bb04ff8a6530fd657672bb0681820e3810c910c9a2 [.zJ (.s 38) (.c (.int .i64 0)) 1 2,.zp .i64 (.s 40),.zJ (.s 69) (.c (.int .i64 1)) 1 2,.zp .i64 (.s 71),.zJ (.s 134) (.c (.int .i64 0)) 1 3,.zp .i64 (.s 136),.zJ (.s 145) (.c (.int .i64 1)) 1 3,.zp .i64 (.s 147),.zJ (.s 154) (.c (.int .i64 2)) 1 3,.zp .i64 (.s 156)] [.cell 4 (Y 3)] λr h f g=>by
  unfold N0 at h;have:HW 0 λ(d:fl×Int)=>[(5,.bx [⟨X,lI d.1.d3.ca⟩,⟨X,lE d.1.d3.ci⟩,⟨X,(eL 1 lI) d.1.em⟩]),(7,.tv (eI d.2))]:=⟨⟩;have:=Ay 2 12 9 0 (hO 11 lI);have:HW 4 λ(e:fl×Int)=>[(5,.bx [⟨X,lI e.1.d3.ca⟩,⟨X,lE e.1.d3.ci⟩,⟨X,(eL 1 lI) e.1.em⟩]),(14,.tv (eI e.2))]:=⟨⟩;exact nz
end Go.Sf.Sc
