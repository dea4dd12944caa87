/- Contracts of the functions. -/
import Derived.Test.YtfcfkigfmofniaaGreatCon2
set_option linter.all false
set_option maxRecDepth 100000
set_option maxHeartbeats 4000000
open Option renaming some->Y,none->W
open Bool renaming true->X,false->T
namespace Go.Sf.Sc
open Go Go.Sf Go.Proofs.Tryz
instance(a b c d):CT (Lt a b c d) 155 [AJ a,BX b,Bk c,Bf d] (rT Na eI):=Fk f155 0x81fe26440f3e55fe0e468a657e5c1f7065715c1f4255fe6b466901528d52b1024a244204f20b5e7e22427e377e0d427e0b420b7e5cd50ef0712242d9710d42710b420b715cd5024a224204f25e0b7e370e5b0bd93f12c90ff26d0e6deb55fe0e46880155fe6b4685308174030f426d6db210426fb93855fe6b4685308cf474cf380b42cf3855fe6b46698cfb74cfcfeab93855fe6b46776d6deb8d11c962a2 [.stq 38 [W,W,W,W,W,W,W,W,W,W,W,W,W,W,W,W,W,W,W,W,W,W,W,W,W,W,W,W,W,W,W,Y ⟨X,.list 1 []⟩,Y ⟨X,.list 3 []⟩,Y ⟨X,.xn []⟩,W,W,W,W] (.s 15) (.s 82)] [.cell 8 (Y 38),.tmp 9] λr h e f=>by
  unfold Lt at h;exact nz
instance(a b c d):CT (Js a b c d) 96 [AJ a,BX b,Bk c,Bf d] (rT Na eI):=Fk f96 0x81fe6a0e6d6deb3855fe6b46776deb8d11c962a2 [] [.cell 8 (Y 38),.tmp 9] λr h e f=>by
  unfold Js at h;exact nz
instance(a b c d):CT (Dm a b c d) 60 [AJ a,(eL 25 BX) b,Bk c,EK d] (rT Na eI):=Fk f60 0x8013b81fe6a0e6db96deb1943763855fe0e468afa76057611c9936230 [] [.cell 8 (Y 38),.tmp 9] λr h e f=>by
  unfold Dm at h;exact nz
instance(a b c):CT (DO a b c) 30 [AJ a,(eL 25 BX) b,Du c] (λr=>.tp [(eL 38 Na) r.1,eI r.2.1,eI r.2.2]):=Bl f30 0x89820bcb0a0121201fe136079df33b9f026d1f4226482647264402dd26c03069fe11c974ad6dc3d48113c9adc60a016421201fe13607da03429f10c96d3726c0dd26c0850bbcdd26d6776db6383026406230 [] (DO.eq_1 ..) (Ay 0 33 32 0 λs0:List Ax×fl=>[(10,.ow ((eL 38 Na) s0.1)),(11,.bx [⟨T,lI s0.2.d3.ca⟩,⟨T,lE s0.2.d3.ci⟩,⟨T,(eL 1 lI) s0.2.em⟩])])
instance(a b c):CT (DQ a b c) 14 [AJ a,(eL 25 BX) b,Ba c] rI:=Fe f14 0x810e6f7d69cb1174adb68d6230 [] (DQ.eq_1 ..)
instance(a):CT (Dd a) 21 [Ba a] (λr=>.yy [⟨T,lI r.ei.hV.d3.ca⟩,⟨T,lE r.ei.hV.d3.ci⟩,⟨X,(eL 1 lI) r.ei.hV.em⟩,⟨X,(eL 4 EK) r.ei.gt⟩,⟨X,lI r.fd⟩]):=Fk f21 0x55005530402023332310402059de603413704480447124609f25d41b904f27e5cb90e715cb95b04034137d413c9ad044304020264333231040205da0341370478031f1e1d0478069de60290b6cc0e010402c88260047803641f1e1d047806dabd3f5c37114610f27e370ed90550dc3f0eec9f10c96d5c37dca5 [.yz [.z ⟨X,.list 1 []⟩,.z ⟨X,.list 3 []⟩,.z ⟨X,.list 1 []⟩,.z ⟨X,.list 4 []⟩,.w 14],.stq 3 [W,W,Y ⟨X,.list 1 []⟩] (.s 27) (.s 25)] [.cell 2 (Y 5)] λr h b c=>by
  unfold Dd at h;have:=Ay 0 31 30 0 λs0:AG=>[(4,.bx [⟨T,lI s0.ei.hV.d3.ca⟩,⟨T,lE s0.ei.hV.d3.ci⟩,⟨X,(eL 1 lI) s0.ei.hV.em⟩,⟨X,(eL 4 EK) s0.ei.gt⟩,⟨X,lI s0.fd⟩])];have:=Ay 2 51 50 0 λs2:AG=>[(4,.bx [⟨T,lI s2.ei.hV.d3.ca⟩,⟨T,lE s2.ei.hV.d3.ci⟩,⟨X,(eL 1 lI) s2.ei.hV.em⟩,⟨X,(eL 4 EK) s2.ei.gt⟩,⟨X,lI s2.fd⟩])];exact nz
instance(a):CT (FR a) 9 [Ba a] (rT Ba eI):=Fk f9 0xd36fe60470cc0b7f413704f10550dc1b6fdf1346850becdf011346776f01dca5 [] [.cell 2 (Y 5),.tmp 3] λr h b c=>by
  unfold FR at h;exact nz
instance(a):CT (Dt a) 10 [Ba a] (rT Ba eI):=Fk f10 0xd36fe604704565ecec75dc0e6fdf1346850becdf011346776f01dca5 [] [.cell 2 (Y 5),.tmp 3] λr h b c=>by
  unfold Dt at h;exact nz
instance(a):CT (D1 a) 27 [Ba a] (rT Ba eI):=Fk f27 0xd36fe6047045589b704a03413704456058ec7f413775dc0e6fdf1346690b9b70dca5 [] [.cell 2 (Y 5),.tmp 3] λr h b c=>by
  unfold D1 at h;exact nz
instance(a):CT (F1 a) 97 [eI a] (rO lI):=Bl f97 0x82183609087f9d01e33014b8366409087f819514993f30400001 [.mkx 1 [.int .i64 0] (.s 5)] (F1.eq_1 ..) (Ay 0 9 8 0 (hX 3 1 eI))
instance(a):CT (FO a) 61 [Ah a] (rT Ao eI):=Fk f61 0x783b818c04f20b5e0ef0558c010346778df4a5 [] [.cell 2 (Y 2),.tmp 3] λr h b c=>by
  unfold FO at h;exact nz
instance(a):CT (DT a) 31 [Ah a] (rS Ao):=Fk f31 0x8c8d8cf47438f4a5 [] [.cell 2 (Y 2)] λr h b c=>by
  unfold DT at h;exact nz
instance(a b):CT (Fu a b) 32 [lI a,lI b] (rO lI):=Bl f32 0x8218580ce158059d0ce158050ce158055fe3803014698117d10158640ce15805819594991a30409702 [] (Fu.eq_1 ..) (Ay 0 12 11 0 (hX 5 1 eI))
instance(a):CT (FN a) 33 [Bk a] (rS Bk):=Fk f33 0x9f6d5d021312115d059de60270cc0e0104bd82605d02641312115d05dabd035010c93f3f0e7e370ed910c9a5 [.yz [.w 9,.w 13],.yz [.g 14 0 2,.g 14 1 2,.z ⟨X,.list 1 []⟩]] [.cell 2 (Y 3)] λr h b c=>by
  unfold FN at h;have:=Ay 0 19 18 0 λs0:fl=>[(3,.bx [⟨X,lI s0.d3.ca⟩,⟨X,lE s0.d3.ci⟩,⟨X,(eL 1 lI) s0.em⟩])];exact nz
instance(a b c):CT (Eb a b c) 13 [AJ a,(eL 25 BX) b,Du c] (λr=>.tp [Bk r.1,Ao r.2.1,eI r.2.2]):=Fk f13 0x72023b818c9f380e6dd27204252423d272079d0c013b8c9f04f27e22425e0e7122425b6d1f42fe11c926442643d2720464252423d27207a1818c9ff410c90eea376d37558c9f01034614466901821174ad018df410c96230 [] [.cell 6 (Y 3),.cell 7 (Y 2),.tmp 8] λr h d e=>by
  unfold Eb at h;have:=Ay 0 37 36 0 λs0:fl×d4=>[(12,.bx [⟨T,lI s0.1.d3.ca⟩,⟨T,lE s0.1.d3.ci⟩,⟨T,(eL 1 lI) s0.1.em⟩]),(13,.bx [⟨T,lI s0.2.ca⟩,⟨T,lI s0.2.ci⟩])];exact nz
instance(a):CT (Fv a) 134 [Bf a] (rS Bf):=Fk f134 0x783b9f09f2b504f27e370ed90fc9a5 [] [.cell 2 (Y 3)] λr h b c=>by
  unfold Fv at h;exact nz
instance(a):CT (Dn a) 133 [Du a] (λr=>.yy [⟨T,lI r.hV.d3.ca⟩,⟨T,lE r.hV.d3.ci⟩,⟨T,(eL 1 lI) r.hV.em⟩,⟨X,(eL 4 EK) r.gt⟩]):=Fk f133 0x45004535d02d20b5d059de603420448044712f20359015ad75a040342053dd413c9ad04435d0264d20b5d05da0342045015c93f0e6d3715c9a5 [.yz [.v (.s 8) 0 3,.v (.s 8) 1 3,.v (.s 8) 2 3,.z ⟨X,.list 4 []⟩]] [.cell 2 (Y 4)] λr h b c=>by
  unfold Dn at h;have:=Ay 0 13 12 0 λs0:AS=>[(3,.bx [⟨T,lI s0.hV.d3.ca⟩,⟨T,lE s0.hV.d3.ci⟩,⟨T,(eL 1 lI) s0.hV.em⟩,⟨X,(eL 4 EK) s0.gt⟩])];exact nz
instance(a b c d):CT (EB a b c d) 83 [AJ a,(eL 25 BX) b,Du c,EK d] (rT Du eI):=Fk f83 0x81d4ade603420448044712f20359015ad75a040342045015c91bad55d401154669fe114974ad6dc3ff55d415468165bc81d40115468158818c9f084910c91174ad018d15c9936230 [] [.cell 8 (Y 4),.tmp 9] λr h e f=>by
  unfold EB at h;exact nz
instance(a b c d):CT (F5 a b c d) 48 [AJ a,(eL 25 BX) b,Ba c,EK d] (rT Ba eI):=Fk f48 0x8013bd316f2ecaddf01134669d415c974adadb68ddc936230 [] [.cell 8 (Y 5),.tmp 9] λr h e f=>by
  unfold F5 at h;exact nz
instance(a b c d):CT (FK a b c d) 22 [AJ a,(eL 25 BX) b,Ba c,Rt d] (rT Ba eI):=Fk f22 0xd31346ffdf6a0e6fc5d36a0e6fc5d36a0e6fc5d36a0eadb96fc3c583b6dc936230 [] [.cell 8 (Y 5),.tmp 9] λr h e f=>by
  unfold FK at h;exact nz
instance(a b c d):CT (DB a b c d) 7 [AJ a,(eL 25 BX) b,Ba c,(eL 5 Rt) d] (λr=>.tp [Ba r.1,eI r.2.1,eI r.2.2]):=Fk f7 0x8975f36f0c087f21201f0c08fc089d756f55d33013466975dc746f6fc3758116c96f05730c087f6421201f0c08fc08a1d3dc0e6f55d3134685f355d3011346776fc330dc623602 [] [.cell 8 (Y 5),.tmp 9,.tmp 10] λr h e f=>by
  unfold DB at h;have:=Ay 0 33 32 0 λs0:AG×AG=>[(8,.bx [⟨X,lI s0.1.ei.hV.d3.ca⟩,⟨X,lE s0.1.ei.hV.d3.ci⟩,⟨X,(eL 1 lI) s0.1.ei.hV.em⟩,⟨X,(eL 4 EK) s0.1.ei.gt⟩,⟨X,lI s0.1.fd⟩]),(12,.bx [⟨T,lI s0.2.ei.hV.d3.ca⟩,⟨T,lE s0.2.ei.hV.d3.ci⟩,⟨T,(eL 1 lI) s0.2.ei.hV.em⟩,⟨T,(eL 4 EK) s0.2.ei.gt⟩,⟨T,lI s0.2.fd⟩])];exact nz
instance(a b c):CT (Cn a b c) 11 [AJ a,(eL 25 BX) b,Ba c] (rT Ba eI):=Fk f11 0xd36a0e6fdf011346776f018ddc6230 [] [.cell 6 (Y 5),.tmp 7] λr h d e=>by
  unfold Cn at h;exact nz
instance(a b):CT (IY a b) 17 [AJ a,Bk b] (rT Ba eI):=Fk f17 0xd30e184617466ddf0113466901746d8ddca2 [] [.cell 4 (Y 5),.tmp 5] λr h c d=>by
  unfold IY at h;exact nz
end Go.Sf.Sc
