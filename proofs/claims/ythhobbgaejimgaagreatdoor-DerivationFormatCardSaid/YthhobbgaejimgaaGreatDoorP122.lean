/- Plain lemmas: what the functions of the program and of the reference compute. -/
import Derived.Test.YthhobbgaejimgaaGreatDoorP121
set_option linter.all false
set_option maxRecDepth 100000
namespace Go.Sf.Sc
open Go Go.Sf
noncomputable def Zp[Ev](D:AL)(x78:AE):Option (B2 (AL×AE) (AL×Int×Int)):=
 (Ai x78 1 (⟨#[109,111,118,101]⟩:ByteArray)).bind fun x80=>
 (Ag x80.2).bind fun x82=>
 (Aw x82.2 40 false).bind fun x85=>
 (Aw x85.2 80 false).bind fun x90=>
 (Aw x90.2 12 true).bind fun x95=>
 (Ai x95.2 4 (⟨#[59]⟩:ByteArray)).bind fun x99=>
 (Am D.po [BW.mk x82.1 (AP.mk (gt.mk x85.1 x90.1) x95.1)]).bind fun x104=>
 some (.next (AL.mk D.rn x104,x99.2))
noncomputable def UE[Ev](l:List AY):AL×AE->Option (B2 (AL×AE) (AL×Int×Int)):=fun s0=>
 if ((decide (s0.2.at'<(l.length:Int)))&&(decide (s0.2.err=0)))=true then
 (Ah s0.2 1 (⟨#[109,111,118,101]⟩:ByteArray)).bind fun x70=>
 if (x70&&(decide ((s0.1.po.length:Int)=30)))=true then
 (A6 s0.2 3).bind fun x78=>Zp s0.1 x78
 else Zp s0.1 s0.2
 else
 some (.brk (s0.1,s0.2))
end Go.Sf.Sc
