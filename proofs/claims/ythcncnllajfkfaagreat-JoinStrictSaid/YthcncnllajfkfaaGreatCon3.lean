/- Contracts of the functions. -/
import Derived.Test.YthcncnllajfkfaaGreatCon2
set_option linter.all false
set_option maxRecDepth 100000
set_option maxHeartbeats 4000000
open Option renaming some->Y,none->W
open Bool renaming true->X,false->T
namespace Go.Sf.Sc
open Go Go.Sf Go.Proofs.Tryz
instance(a b c d):CT (IW a b c d) 167 [AK a,B3 b,Bj c,Bn d] (rT Br eI):=Fk f167 0x81264bb40f3e37264b0e468a7331711f42550b6a381f4237264b65f40152360152c5024a244204460eed7de4dd7d0d427d0b420b3171c60ed96ae4bd6a0d426a0b420b6a38c6024ae404460e5a0bdd0e590bbd3f12c90f46ececca37264b0e46880137264b654685308175030f4262629f104289ad3637264b65468530dfe9cf360b42cf3637264b65f48407e9cfcf3638ad3637264b65f4ec62ca360111c95c91 [.stq 38 [W,W,W,W,W,W,W,W,W,W,W,W,W,W,W,W,W,W,W,W,W,W,W,W,W,W,W,W,W,W,W,Y ⟨X,.list 1 []⟩,Y ⟨X,.list 3 []⟩,Y ⟨X,.xn []⟩,W,W,W,W] (.s 15) (.s 82)] [.cell 8 (Y 38),.tmp 9] λr h e f=>by
  unfold IW at h;exact nz
instance(a b c d):CT (Fv a b c d) 104 [AK a,B3 b,Bj c,Bn d] (rT Br eI):=Fk f104 0x81264b6bec62ca3637264b65f4ecca360111c95c91 [] [.cell 8 (Y 38),.tmp 9] λr h e f=>by
  unfold Fv at h;exact nz
instance(a b c d):CT (Fx a b c d) 122 [AK a,(eL 25 B3) b,Bj c,GY d] (rT Br eI):=Fk f122 0x8013b81264b6becad62ca194359b137264b0e468a73015955590111c9935c30 [] [.cell 8 (Y 38),.tmp 9] λr h e f=>by
  unfold Fx at h;exact nz
instance(a b c):CT (EH a b c) 63 [AK a,(eL 25 B3) b,QS c] (λr=>.tp [(eL 38 Br) r.1,eI r.2.1,eI r.2.2]):=B8 f63 0x9b820bc30a0121201fb8310792f73bb202621f4226482647b402cb26c0306c264b11e9d562b1044b8113c9d5044372ea21201fb83107dc0342b210c9623226c0cb26c0850bb7cb26c07cec32b13026405c30 [] (EH.eq_1 ..) (BI 0 33 32 0 λs0:List AR×AF=>[(10,.ow ((eL 38 Br) s0.1)),(11,.bx [⟨T,lI s0.2.dr.dl⟩,⟨T,lE s0.2.dr.d3⟩,⟨T,(eL 1 lI) s0.2.eb⟩])])
instance(a b):CT (Fm a b) 182 [Az a,Az b] rB:=Fe f182 0x800e5a5a65c4db [] (Fm.eq_1 ..)
instance(a b):CT (RY a b) 322 [A8 a,A8 b] rB:=Fe f322 0x800e5a5a65c4db [] (RY.eq_1 ..)
instance(a b):CT (HN a b) 245 [BP a,BP b] rB:=Fe f245 0x800e03ac03ac720e7e7eeeb7b765cfcfdb [] (HN.eq_1 ..)
abbrev Q_246(n:Nat):Prop:=∀(a:d5)(b:d5),CT (DC n a b) 246 [AJ a,AJ b] rB
theorem AAb(n:Nat)(_ih_246:Q_246 n)(a:d5)(b:d5):CT (DC (n+1) a b) 246 [AJ a,AJ b] rB:=Fj f246 0x803f5a5a720e03ac03ac657e7e96a5dddd72a5bdbdeeb7b772088ca936a955c4d4d409c909c989ac89acdb [.call 325 [.s 65,.s 67,.c (.clo 246 [])]] λh=>by
  unfold DC at h;exact nz
theorem AAa:∀n:Nat,Q_246 n:=by
  intro n
  induction n with
  |zero=>exact(λa b=>⟨λ_ h=>c_⟩)
  |succ n c=>exact AAb n c
instance(a b):CT (NI a b) 246 [AJ a,AJ b] rB:=⟨λr h=>by
  obtain ⟨N,c⟩:=Cn h;exact((AAa N) a b).snd r (c N (ae _))⟩
instance(a b):CT (M3 a b) 180 [B3 a,B3 b] rB:=Fe f180 0x800e9f10429f1042728c0d42360d42720e7d0b427d0b42720e6a0b426a0b42720e89c689c6720e89ad89ad7207030f42030f420106c4db [] (M3.eq_1 ..)
instance(a b):CT (Ky a b) 181 [Bn a,Bn b] rB:=Fe f181 0x800e7e7e65cfcfdb [] (Ky.eq_1 ..)
instance(a b):CT (M8 a b) 123 [Br a,Br b] rB:=Fe f123 0x808c2442362442728ce436e472ec1f42621f4272ec1c42621c4272ec194262194265ca32ca32db [] (M8.eq_1 ..)
instance(a b):CT (J1 a b) 64 [AK a,Br b] rB:=Fe f64 0x800eb4b4555d264b11e9621942621c42ca3236db [] (J1.eq_1 ..)
instance(a b c d):CT (Jp a b c d) 31 [AK a,(eL 25 B3) b,Br c,Br d] rI:=Fe f31 0x81f3621c42621c4296a5b43601a5b4369ec311751046b19a5c30 [] (Jp.eq_1 ..)
instance(a b):CT (C0 a b) 36 [lI a,lI b] (rO lI):=B8 f36 0x82020572cd055592b5e0c30a0978bc060a0978bc063c01bb6c5ebc610acd05559781e501406002 [] (C0.eq_1 ..) (BI 0 10 9 0 (hO 5 lI))
instance(a):CT (N0 a) 75 [Bj a] (rS Bj):=Fk f75 0xb2625b02de115b0592014aa901e00ef1a9825e5b0261de115b05dca9035010c93f3f0edd0ebd10c99300 [.Aah [.w 9,.w 13],.Aah [.g 14 0 2,.g 14 1 2,.z ⟨X,.list 1 []⟩]] [.cell 2 (Y 3)] λr h b c=>by
  unfold N0 at h;have:=BI 0 19 18 0 λs0:AF=>[(3,.bx [⟨X,lI s0.dr.dl⟩,⟨X,lE s0.dr.d3⟩,⟨X,(eL 1 lI) s0.eb⟩])];exact nz
instance(a b):CT (HZ a b) 35 [Br a,FN b] (rS Ch):=Fk f35 0x4013b094b124604460e7de45a0e6ae459621f421146ec1f4214c991 [] [.cell 4 (Y 9)] λr h c d=>by
  unfold HZ at h;exact nz
instance(a b c d):CT (Lf a b c d) 218 [AK a,A8 b,A8 c,eB d] (rT (eL 2 Az) eI):=Fe f218 0xe86b0e01134636c53702c07c8cc5c340935c31 [] (Lf.eq_1 ..)
instance(a b c d):CT (FA a b c d) 166 [AK a,BP b,Bj c,eB d] (rT (eL 3 Bn) eI):=B8 f166 0xe8020d012827260da106922827260da1062827260da1063c02034803470946b1026cd1366289dfc93602430dea2827260da106978103c03703c07cd1b132cf363703c07cec8936010340935c31 [] (FA.eq_1 ..) (BI 0 40 39 0 (hO 13 (eL 3 Bn)))
instance(a b c):CT (FR a b c) 103 [AK a,B3 b,Bj c] (rT (eL 3 Bn) eI):=B8 f103 0xe802f72625240bd007922625240bd0072625240bd0073c020348034762026c264b1149756262ca36b20fc9c8430bea2625240bd007978103c03703c07cd1030f426289ad363703c07cecca360103409391 [] (FR.eq_1 ..) (BI 0 38 37 0 (hO 11 (eL 3 Bn)))
instance(a b c):CT (FT a b c) 105 [Ch a,eI b,Br c] (rS Ch):=Fk f105 0x6013b094b124604460e7de47d07420e6ae46a0742621f4215460162383282044804471446621942658d413214c95c30 [] [.cell 6 (Y 9)] λr h d e=>by
  unfold FT at h;exact nz
instance(a b c):CT (Jm a b c) 109 [eI a,lI b,lI c] (rT lI eB):=B8 f109 0xe8180801100f0e0802055f100f0e080205100f0e0802053c01f85e771437e58a05bb17d301145517d30114ff100f0e080205850137e587055eaa5d819d08ea100f0e0802059781991a3047304002be [] (Jm.eq_1 ..) (BI 0 16 15 0 (hX 8 1 eI))
noncomputable def cv:PC:=PC.of Nr f171.body (xq bT 0xa6013c3b3a05f2065f3c3b3a05f2063c3b3a05f2063c1f014108710151011e014108a2323700d2321f01410871014fb3011e014108a232ff3c3b3a05f2068a20011d014108a2723f626272bc9d0307a2559d0307a2b281efc84360ea3c3b3a05f206dc017103a2b2ef074617d37e1d3808a217d35a1d3808a259b2efc8903171383832b90b31713838325d151d014108a26001) [.bin (.a [0,0,0]) .neq (.s 85) (.s 86)]
theorem AA1:CK f171 cv [.tmp 2]:=b!
theorem ABR:PC.sB cv=X/\PC.tn 0 cv=X:=b!
abbrev Q_171(n:Nat):Prop:=∀(a:Bg),CT (Bz n a) 171 [.undef] (λr=>.bo (C1 a) (C1 r.2) 0 [eB r.1])
theorem AAP(n:Nat)(_ih_171:Q_171 n)(a:Bg):CT (Bz (n+1) a) 171 [.undef] (λr=>.bo (C1 a) (C1 r.2) 0 [eB r.1]):=aA AA1 ABR λr h c b d=>by
  unfold cv;unfold f171;unfold Bz at h;have:=BI 0 60 59 0 λs0:Bg=>[(0,.bx (C1 s0))];exact nz
theorem AAO:∀n:Nat,Q_171 n:=by
  intro n
  induction n with
  |zero=>exact(λa=>⟨λ_ h=>c_⟩)
  |succ n b=>exact AAP n b
instance(x_0):CT (IC x_0) 171 [.undef] (λr=>.bo (C1 x_0) (C1 r.2) 0 [eB r.1]):=⟨λr h=>by
  obtain ⟨N,a⟩:=Cn h;exact((AAO N) x_0).snd r (a N (ae _))⟩
instance(a b c):CT (Jl a b c) 231 [A8 a,eI b,eI c] rI:=B8 f231 0x81010701c10b07b50692c10b07b506c10b07b5065f018abc7e55015ab2efc84307eac10b07b506dcad819ab502 [] (Jl.eq_1 ..) (BI 0 13 12 0 (hT 7 eI))
instance(a):CT (G6 a) 172 [.pt (lh a).cells] rB:=B8 f172 0xa6de11f2059296050e019d6a0871b1380371653036383838aa0e9d6a087130363803716530363838385d815ef9de11f205dc3808715d736a087130d7 [] (G6.eq_1 ..) (BM 0 19 18 0)
noncomputable def cu:PC:=PC.of Nr f110.body (xq bT 0xa6011e1d1cf2055f1e1d1cf2051e1d1cf2053c1f3808710151011e3808a232960052320120321f380871014fb3011e3808a232ff1e1d1cf2058aa59d5b4103a29d5b7138327220011d3808a2ee9d6a38383832300abc9d0306a2559d0306a29b5e60ea1e1d1cf205dc383803a237005232850b6a383838325d151d3808a26001) []
theorem AA0:CK f110 cu [.tmp 2]:=b!
theorem ABQ:PC.sB cu=X/\PC.tn 0 cu=X:=b!
abbrev Q_110(n:Nat):Prop:=∀(a:Bg),CT (B0 n a) 110 [.undef] (λr=>.bo (C1 a) (C1 r.2) 0 [eB r.1])
theorem AAF(n:Nat)(_ih_110:Q_110 n)(a:Bg):CT (B0 (n+1) a) 110 [.undef] (λr=>.bo (C1 a) (C1 r.2) 0 [eB r.1]):=aA AA0 ABQ λr h c b d=>by
  unfold cu;unfold f110;unfold B0 at h;have:=BI 0 30 29 0 λs0:Bg=>[(0,.bx (C1 s0))];exact nz
theorem AAE:∀n:Nat,Q_110 n:=by
  intro n
  induction n with
  |zero=>exact(λa=>⟨λ_ h=>c_⟩)
  |succ n b=>exact AAF n b
instance(x_0):CT (Gk x_0) 110 [.undef] (λr=>.bo (C1 x_0) (C1 r.2) 0 [eB r.1]):=⟨λr h=>by
  obtain ⟨N,a⟩:=Cn h;exact((AAE N) x_0).snd r (a N (ae _))⟩
instance(a b c d):CT (Dl a b c d) 53 [Bj a,Bj b,Az c,Az d] (rT Az eB):=Fk f53 0x8184b1087138483e60523800c2bf164630626237df468a0830085dd15a5a0bdd81d1c40bbd37df468a73dd0bdd550bbd0bbd60c95c91 [.AaW [W,W,W,W,W,W,W,W,Y ⟨X,.xl 1 []⟩,Y ⟨X,.xl 1 []⟩] (.s 71)] [.cell 8 (Y 2),.tmp 9] λr h e f=>by
  unfold Dl at h;exact nz
instance(a b):CT (NQ a b) 108 [Ch a,Ch b] rB:=Fe f108 0x815ddf497536074236074262ac62acdb [] (NQ.eq_1 ..)
instance(a b):CT (Ha a b) 107 [Ch a,.pt (Ch b).cells] rB:=Fe f107 0x810e9f9ffa [] (Ha.eq_1 ..)
instance(a b c d):CT (Ia a b c d) 51 [AK a,(eL 25 B3) b,Ch c,eI d] (rT (eL 9 Ch) eI):=nL f51 0xe8020a01b8e3055f01b8e3730ae305282726b8e30892282726b8e3083d3c3b282726c1b8e30d5f3d3c3b282726c1b8e30d3d3c3b282726c1b8e30d3c02094809479f023709c0850b743d3c3b282726c1b8e30d8e1001143d094b14c90eb401fbb63709c0850b6a381f423709c07c264b11e96262044109b6ca36b20fc9c843282726b8e308613d3c3b282726c1b8e30d97813709c07cd162044109b6ca36194b810cc9ca1990b8e30561282726b8e3089781ffb8e30585010b8d7109b60a01f5b8e305e809479f0109405c3102 [] (Ia.eq_1 ..) (⟨⟩:HW 0 λ(e:List A7×Int)=>[(10,.ow ((eL 9 Ch) e.1)),(11,.tv (eI e.2))]) (BI 2 40 39 0 (hO 10 (eL 9 Ch))) (BI 4 61 60 0 (hO 10 (eL 9 Ch)))
instance(a):CT (Dh a) 52 [Ch a] rB:=Fe f52 0x800e7d0742656a07429a00 [] (Dh.eq_1 ..)
instance(a b c d e f):CT (K6 a b c d e f) 27 [AK a,(eL 25 B3) b,Br c,Br d,eI e,eB f] (rT RT eI):=Fk f27 0x804b17460c01646312f6050692646312f605066968676463def6050a926968676463def6050a6f6e6d696867646315def6050e5f6f6e6d696867646315def6050e6f6e6d696867646315def6050e804b184636d532d5329bdfe9c562ac62ac6f6e6d696867646319181715def605111918023b6f6e6d696867646319181715def605113c84843607423607428184dfc900c900460046ff6f6e6d696867646315def6050e8a0a0a0e9f659f7705550b8d41320b8d4132094b14c9fb436968676463def6050a616f6e6d696867646315def6050e9781094b14c9fb43646312f60506616968676463def6050a979b010cea646312f605068185bc370a4b0117468530d16536b4b1370a4b0117468530d16536b4b1370a4b0117f4dfe9b4b4370a4b17468a736a381f42550b6a381f42370a4b17468a05aa01370a4b0117f40eb4b4b10115c9935c700103 [] [.cell 12 (Y 10),.tmp 13] λr h g i=>by
  unfold K6 at h;have:=BI 0 100 99 0 λs0:pr=>[(12,.bx [⟨X,lI s0.fu.gp.dr.dl⟩,⟨X,lE s0.fu.gp.dr.d3⟩,⟨X,(eL 1 lI) s0.fu.gp.eb⟩,⟨X,(eL 4 GY) s0.fu.ib⟩,⟨X,lI s0.ec.gp.dr.dl⟩,⟨X,lE s0.ec.gp.dr.d3⟩,⟨X,(eL 1 lI) s0.ec.gp.eb⟩,⟨X,(eL 4 GY) s0.ec.ib⟩,⟨X,lI s0.Iso.dl⟩,⟨X,lI s0.Iso.d3⟩])];have:=BI 2 105 104 0 λs2:pr=>[(12,.bx [⟨X,lI s2.fu.gp.dr.dl⟩,⟨X,lE s2.fu.gp.dr.d3⟩,⟨X,(eL 1 lI) s2.fu.gp.eb⟩,⟨X,(eL 4 GY) s2.fu.ib⟩,⟨X,lI s2.ec.gp.dr.dl⟩,⟨X,lE s2.ec.gp.dr.d3⟩,⟨X,(eL 1 lI) s2.ec.gp.eb⟩,⟨X,(eL 4 GY) s2.ec.ib⟩,⟨X,lI s2.Iso.dl⟩,⟨X,lI s2.Iso.d3⟩])];have:=BI 4 111 110 0 λs4:pr=>[(12,.bx [⟨X,lI s4.fu.gp.dr.dl⟩,⟨X,lE s4.fu.gp.dr.d3⟩,⟨X,(eL 1 lI) s4.fu.gp.eb⟩,⟨X,(eL 4 GY) s4.fu.ib⟩,⟨X,lI s4.ec.gp.dr.dl⟩,⟨X,lE s4.ec.gp.dr.d3⟩,⟨X,(eL 1 lI) s4.ec.gp.eb⟩,⟨X,(eL 4 GY) s4.ec.ib⟩,⟨X,lI s4.Iso.dl⟩,⟨X,lI s4.Iso.d3⟩])];exact nz
instance(a b c d e):CT (KC a b c d e) 10 [AK a,(eL 25 B3) b,Br c,Br d,eI e] (rT RT eI):=Fk f10 0x804b6b0e01b4b4b10115c9935c04c3 [] [.cell 10 (Y 10),.tmp 11] λr h f g=>by
  unfold KC at h;exact nz
instance(a):CT (HI a) 184 [eI a] (rO lI):=B8 f184 0x821831cd8d9201f8301481013161cd8d819514993f3040d7 [.mkx 1 [.int .i64 0] (.s 5)] (HI.eq_1 ..) (BI 0 9 8 0 (hX 3 1 eI))
instance(a):CT (Gm a) 124 [A8 a] (rT Az eI):=Fk f124 0xb53b818404460eed0ed9378460f48c60c99300 [] [.cell 2 (Y 2),.tmp 3] λr h b c=>by
  unfold Gm at h;exact nz
instance(a):CT (EL a) 67 [A8 a] (rS Az):=Fk f67 0x843601dfe93600c99300 [] [.cell 2 (Y 2)] λr h b c=>by
  unfold EL at h;exact nz
instance(a b):CT (HE a b) 68 [lI a,lI b] (rO lI):=B8 f68 0x8218bc0cb80555920cb805550cb805553c01f85e77146c8117d355ea0cb80555819594991a30406002 [] (HE.eq_1 ..) (BI 0 12 11 0 (hX 5 1 eI))
instance(a):CT (IG a) 69 [Bj a] (rS Bj):=Fk f69 0xb2625b02de115b0592014aa901e00ef1a9825e5b0261de115b05dca9035010c93f3f0edd0ebd10c99300 [.Aah [.w 9,.w 13],.Aah [.g 14 0 2,.g 14 1 2,.z ⟨X,.list 1 []⟩]] [.cell 2 (Y 3)] λr h b c=>by
  unfold IG at h;have:=BI 0 19 18 0 λs0:AF=>[(3,.bx [⟨X,lI s0.dr.dl⟩,⟨X,lE s0.dr.d3⟩,⟨X,(eL 1 lI) s0.eb⟩])];exact nz
instance(a b c):CT (Eg a b c) 33 [AK a,(eL 25 B3) b,QS c] (λr=>.tp [Bj r.1,Az r.2.1,eI r.2.2]):=Fk f33 0x706023b8184b236ecc1070604252423c1070607920c013b84b204460e7de45a0e6ae459621f42264b11c9b42643c107060461252423c1070607978184b200c910c98c383262323784b2604619f401821175d5b160c910c95c30 [] [.cell 6 (Y 3),.cell 7 (Y 2),.tmp 8] λr h d e=>by
  unfold Eg at h;have:=BI 0 37 36 0 λs0:AF×d4=>[(12,.bx [⟨T,lI s0.1.dr.dl⟩,⟨T,lE s0.1.dr.d3⟩,⟨T,(eL 1 lI) s0.1.eb⟩]),(13,.bx [⟨T,lI s0.2.dl⟩,⟨T,lI s0.2.d3⟩])];exact nz
instance(a b):CT (Jn a b) 72 [eI a,.pt (Bj b).cells] rB:=Fe f72 0x8173bde6 [] (Jn.eq_1 ..)
instance(a b):CT (Jo a b) 73 [eI a,.pt (Bj b).cells] rB:=Fe f73 0x8173dde6 [] (Jo.eq_1 ..)
instance(a):CT (Km a) 74 [eI a] (rO lI):=B8 f74 0x820231a18d92b5e0c381013161a18d9be50140d7 [] (Km.eq_1 ..) (BI 0 6 5 0 (hO 3 lI))
instance(a b c):CT (F3 a b c) 34 [Bj a,Bj b,Az c] rB:=Fe f34 0x800e5a5a720ec43081dfe93604460eed0ed96262960e105a65105996050e01e00eb35a597273dded550bbdd99a91 [] (F3.eq_1 ..)
instance(a b c d e):CT (HV a b c d e) 13 [AK a,(eL 25 B3) b,Br c,Br d,RT e] (rT eB eB):=Fe f13 0x81800e5a0e7d08425a65590e6a084259cb8e0eb35a595a598404460e5a5a0ec48404460e5a5a0ec484dfc900c93f8cb43f8cb401dfe9b4b4cb8a088c08426262eeaa5d84b200c910c91175d5acb18184b200c910c91175d532b1cb8aa5621f426238ac72a5621f42623832550eb4b4b1305c5c30 [.Abi (.s 86) 7 2 X,.Abi (.s 90) 7 2 X] (HV.eq_1 ..)
instance(a b c d e):CT (Sp a b c d e) 14 [AK a,(eL 25 B3) b,Br c,Br d,eI e] (rT RT eI):=Fk f14 0x804b6b0e01b4b4b10115c9935c04c3 [] [.cell 10 (Y 10),.tmp 11] λr h f g=>by
  unfold Sp at h;exact nz
end Go.Sf.Sc
