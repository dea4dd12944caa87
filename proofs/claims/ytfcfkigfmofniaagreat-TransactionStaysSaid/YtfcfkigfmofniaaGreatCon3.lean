/- Contracts of the functions. -/
import Derived.Test.YtfcfkigfmofniaaGreatCon0
import Derived.Test.YtfcfkigfmofniaaGreatCon1
import Derived.Test.YtfcfkigfmofniaaGreatCon2
import Derived.Test.YtfcfkigfmofniaaGreatTryzShelf
import Derived.Test.YtfcfkigfmofniaaGreatTw
set_option linter.all false
set_option maxRecDepth 100000
set_option maxHeartbeats 4000000
namespace Go.Sf.Sc
open Go Go.Sf Go.Proofs.Tryz
instance(a b c d):CT (Lt a b c d) 155 [AJ a,BX b,Bi c,Bb d] (rT NY eI):=Fk f155 0x81fe26440f3e55fe0e468a657e5c1f6f65725c1f4255fe6c466901528d52ad024a244204f00b5e7e22427e377e0d427e0b420b7e5cd40eee722242d9720d42720b420b725cd4024a224204f05e0b7e370e5b0bd93f12c90ff06d0e6dea55fe0e46880155fe6c4685308174030f426d6db1104270b93855fe6c46853089f174cd380b42cd3855fe6c466989fc74cdcdf4b93855fe6c46766d6dea8d11c962a7 [.stq 38 [none,none,none,none,none,none,none,none,none,none,none,none,none,none,none,none,none,none,none,none,none,none,none,none,none,none,none,none,none,none,none,some ⟨true,.list 1 []⟩,some ⟨true,.list 3 []⟩,some ⟨true,.xn []⟩,none,none,none,none] (.s 15) (.s 82)] [.cell 8 (some 38),.tmp 9] fun r h e f=>by
  unfold Lt at h;exact nz
instance(a b c d):CT (Jo a b c d) 96 [AJ a,BX b,Bi c,Bb d] (rT NY eI):=Fk f96 0x81fe6a0e6d6dea3855fe6c46766dea8d11c962a7 [] [.cell 8 (some 38),.tmp 9] fun r h e f=>by
  unfold Jo at h;exact nz
instance(a b c d):CT (Dj a b c d) 60 [AJ a,(eL 25 BX) b,Bi c,E3 d] (rT NY eI):=Fk f60 0x8013b81fe6a0e6db96dea1943773855fe0e468afa77057711c9936230 [] [.cell 8 (some 38),.tmp 9] fun r h e f=>by
  unfold Dj at h;exact nz
instance(a b c):CT (DN a b c) 30 [AJ a,(eL 25 BX) b,Ep c] (fun r=>.tp [(eL 38 NY) r.1,eI r.2.1,eI r.2.2]):=Bj f30 0x84820bca0a0121201fe036079d0b013b9b026d1f4226482647264402dc26c03069fe11c974ac6dc4d38113c9accc0a016421201fe03607da03429bfb6d3726c0dc26c0f7bedc26d6766db5383026406230 [] (DN.eq_1 ..) (Az 0 33 32 0 fun s0:List Ax×ff=>[(10,.ow ((eL 38 NY) s0.1)),(11,.bx [⟨false,lI s0.2.d3.ca⟩,⟨false,lE s0.2.d3.ci⟩,⟨false,(eL 1 lI) s0.2.ej⟩])])
instance(a b c):CT (Cz a b c) 14 [AJ a,(eL 25 BX) b,Bk c] rI:=Fe f14 0x810e707d69ca1174acb58d6230 [] (Cz.eq_1 ..)
instance(a):CT (Da a) 21 [Bk a] (fun r=>.yr [⟨false,lI r.em.hV.d3.ca⟩,⟨false,lE r.em.hV.d3.ci⟩,⟨true,(eL 1 lI) r.em.hV.ej⟩,⟨true,(eL 4 E3) r.em.gn⟩,⟨true,lI r.gp⟩]):=Fk f21 0x55005530402023332310402059de603413704480447124609f05d41b904f07e5cb90e725cb95b04034137d313c9ac044304020264333231040205da0341370478031f1e1d0478069de60290b5cb0e010402c58260047803641f1e1d047806dabb3f5c37114610f07e370ed90550e33f0ea1429bfb6d5c37e3a2 [.yt [.z ⟨true,.list 1 []⟩,.z ⟨true,.list 3 []⟩,.z ⟨true,.list 1 []⟩,.z ⟨true,.list 4 []⟩,.w 14],.stq 3 [none,none,some ⟨true,.list 1 []⟩] (.s 27) (.s 25)] [.cell 2 (some 5)] fun r h b c=>by
  unfold Da at h;have:=Az 0 31 30 0 fun s0:AH=>[(4,.bx [⟨false,lI s0.em.hV.d3.ca⟩,⟨false,lE s0.em.hV.d3.ci⟩,⟨true,(eL 1 lI) s0.em.hV.ej⟩,⟨true,(eL 4 E3) s0.em.gn⟩,⟨true,lI s0.gp⟩])];have:=Az 2 51 50 0 fun s2:AH=>[(4,.bx [⟨false,lI s2.em.hV.d3.ca⟩,⟨false,lE s2.em.hV.d3.ci⟩,⟨true,(eL 1 lI) s2.em.hV.ej⟩,⟨true,(eL 4 E3) s2.em.gn⟩,⟨true,lI s2.gp⟩])];exact nz
instance(a):CT (Ge a) 9 [Bk a] (rT Bk eI):=Fk f9 0xd870e6046fcb0b7f413704ef0550e31b70dd1346f7a142dd011346767001e3a2 [] [.cell 2 (some 5),.tmp 3] fun r h b c=>by
  unfold Ge at h;exact nz
instance(a):CT (GH a) 10 [Bk a] (rT Bk eI):=Fk f10 0xd870e6046f4565a142a14275e30e70dd1346f7a142dd011346767001e3a2 [] [.cell 2 (some 5),.tmp 3] fun r h b c=>by
  unfold GH at h;exact nz
instance(a):CT (Dw a) 27 [Bk a] (rT Bk eI):=Fk f27 0xd870e6046f4558a16f4a03413704456058a1427f413775e30e70dd1346690ba16fe3a2 [] [.cell 2 (some 5),.tmp 3] fun r h b c=>by
  unfold Dw at h;exact nz
instance(a):CT (Fu a) 97 [eI a] (rO lI):=Bj f97 0x82183609087f9d01e23014b8366409087f819514993f30400001 [.z8 1 [.int .i64 0] (.s 5)] (Fu.eq_1 ..) (Az 0 9 8 0 (hX 3 1 eI))
instance(a):CT (FJ a) 61 [Ah a] (rT Aq eI):=Fk f61 0x783b818904f00b5e0eee5589010346768df1a2 [] [.cell 2 (some 2),.tmp 3] fun r h b c=>by
  unfold FJ at h;exact nz
instance(a):CT (DQ a) 31 [Ah a] (rS Aq):=Fk f31 0x898d89f17438f1a2 [] [.cell 2 (some 2)] fun r h b c=>by
  unfold DQ at h;exact nz
instance(a b):CT (Fg a b) 32 [lI a,lI b] (rO lI):=Bj f32 0x8218580ce058059d0ce058050ce058055fe2803014698117d10158640ce05805819594991a30409602 [] (Fg.eq_1 ..) (Az 0 12 11 0 (hX 5 1 eI))
instance(a):CT (FI a) 33 [Bi a] (rS Bi):=Fk f33 0x9b6d5d021312115d059de6026fcb0e0104bb82605d02641312115d05dabb0350fb3f3f0e7e370ed9fba2 [.yt [.w 9,.w 13],.yt [.g 14 0 2,.g 14 1 2,.z ⟨true,.list 1 []⟩]] [.cell 2 (some 3)] fun r h b c=>by
  unfold FI at h;have:=Az 0 19 18 0 fun s0:ff=>[(3,.bx [⟨true,lI s0.d3.ca⟩,⟨true,lE s0.d3.ci⟩,⟨true,(eL 1 lI) s0.ej⟩])];exact nz
instance(a b c):CT (DE a b c) 13 [AJ a,(eL 25 BX) b,Ep c] (fun r=>.tp [Bi r.1,Aq r.2.1,eI r.2.2]):=Fk f13 0x71023b81899b380e6dd27104252423d271079d0c013b899b04f07e22425e0e7222425b6d1f42fe11c926442643d2710464252423d271079f81899bf1fb0ef4376d3755899b01034614466901821174ac018df1fb6230 [] [.cell 6 (some 3),.cell 7 (some 2),.tmp 8] fun r h d e=>by
  unfold DE at h;have:=Az 0 37 36 0 fun s0:ff×d4=>[(12,.bx [⟨false,lI s0.1.d3.ca⟩,⟨false,lE s0.1.d3.ci⟩,⟨false,(eL 1 lI) s0.1.ej⟩]),(13,.bx [⟨false,lI s0.2.ca⟩,⟨false,lI s0.2.ci⟩])];exact nz
instance(a):CT (Fh a) 134 [Bb a] (rS Bb):=Fk f134 0x783b9b09f0b404f07e370ed90fc9a2 [] [.cell 2 (some 3)] fun r h b c=>by
  unfold Fh at h;exact nz
instance(a):CT (Dk a) 133 [Ep a] (fun r=>.yr [⟨false,lI r.hV.d3.ca⟩,⟨false,lE r.hV.d3.ci⟩,⟨false,(eL 1 lI) r.hV.ej⟩,⟨true,(eL 4 E3) r.gn⟩]):=Fk f133 0x45004535d02d20b5d059de603420448044712f00359015ad75a040342053dd313c9ac04435d0264d20b5d05da0342045015c93f0e6d3715c9a2 [.yt [.v (.s 8) 0 3,.v (.s 8) 1 3,.v (.s 8) 2 3,.z ⟨true,.list 4 []⟩]] [.cell 2 (some 4)] fun r h b c=>by
  unfold Dk at h;have:=Az 0 13 12 0 fun s0:AS=>[(3,.bx [⟨false,lI s0.hV.d3.ca⟩,⟨false,lE s0.hV.d3.ci⟩,⟨false,(eL 1 lI) s0.hV.ej⟩,⟨true,(eL 4 E3) s0.gn⟩])];exact nz
instance(a b c d):CT (D5 a b c d) 83 [AJ a,(eL 25 BX) b,Ep c,E3 d] (rT Ep eI):=Fk f83 0x81d3ace603420448044712f00359015ad75a040342045015c91bac55d301154669fe114974ac6dc4ff55d315468165be81d3011546815881899b0849fb1174ac018d15c9936230 [] [.cell 8 (some 4),.tmp 9] fun r h e f=>by
  unfold D5 at h;exact nz
instance(a b c d):CT (Fy a b c d) 48 [AJ a,(eL 25 BX) b,Bk c,E3 d] (rT Bk eI):=Fk f48 0x8013bd816f0a142acdd01134669d315c974acacb58de3936230 [] [.cell 8 (some 5),.tmp 9] fun r h e f=>by
  unfold Fy at h;exact nz
instance(a b c d):CT (FG a b c d) 22 [AJ a,(eL 25 BX) b,Bk c,Rm d] (rT Bk eI):=Fk f22 0xd81346ffdd6a0e70c3d86a0e70c3d86a0e70c3d86a0eacb970c4c383b5e3936230 [] [.cell 8 (some 5),.tmp 9] fun r h e f=>by
  unfold FG at h;exact nz
instance(a b c d):CT (EE a b c d) 7 [AJ a,(eL 25 BX) b,Bk c,(eL 5 Rm) d] (fun r=>.tp [Bk r.1,eI r.2.1,eI r.2.2]):=Fk f7 0x84750b01700c087f21201f0c08fd089d757055d83013466975e3747070c4758116c97005730c087f6421201f0c08fd089fd8e30e7055d81346f70155d80113467670c430e3623602 [] [.cell 8 (some 5),.tmp 9,.tmp 10] fun r h e f=>by
  unfold EE at h;have:=Az 0 33 32 0 fun s0:AH×AH=>[(8,.bx [⟨true,lI s0.1.em.hV.d3.ca⟩,⟨true,lE s0.1.em.hV.d3.ci⟩,⟨true,(eL 1 lI) s0.1.em.hV.ej⟩,⟨true,(eL 4 E3) s0.1.em.gn⟩,⟨true,lI s0.1.gp⟩]),(12,.bx [⟨false,lI s0.2.em.hV.d3.ca⟩,⟨false,lE s0.2.em.hV.d3.ci⟩,⟨false,(eL 1 lI) s0.2.em.hV.ej⟩,⟨false,(eL 4 E3) s0.2.em.gn⟩,⟨false,lI s0.2.gp⟩])];exact nz
instance(a b c):CT (FE a b c) 11 [AJ a,(eL 25 BX) b,Bk c] (rT Bk eI):=Fk f11 0xd86a0e70dd0113467670018de36230 [] [.cell 6 (some 5),.tmp 7] fun r h d e=>by
  unfold FE at h;exact nz
instance(a b):CT (IS a b) 17 [AJ a,Bi b] (rT Bk eI):=Fk f17 0xd80e184617466ddd0113466901746d8de3a7 [] [.cell 4 (some 5),.tmp 5] fun r h c d=>by
  unfold IS at h;exact nz
end Go.Sf.Sc
