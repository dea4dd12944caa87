/- The types of the program as Lean types. -/
import Derived.Test.YtiefejhapgafkaaGreatSfStep
import Derived.Test.YtiefejhapgafkaaGreatProg
set_option linter.all false
set_option maxRecDepth 100000
open Bool renaming true->X,false->T
namespace Go.Sf.Sc
open Go Go.Sf Go.Proofs.Tryz
def eI(n:Int):TV:=.int .i64 n
def Eu(n:Int):TV:=.int .u8 n
def Iw(n:Int):TV:=.int .u64 n
def ADK(n:Int):TV:=.int .i32 n
def ADM(n:Int):TV:=.int .u32 n
def nO(n:Int):TV:=.int .i8 n
def ADJ(n:Int):TV:=.int .i16 n
def ADL(n:Int):TV:=.int .u16 n
def eB(b:Bool):TV:=.bool b
def eS(s:ByteArray):TV:=.str s
def eL{α:Type}(n:Nat)(e:α->TV)(l:List α):TV:=.list n (l.map e)
def Tryz_follows:Go.Proofs.Tryz.prog.follows .mixedOrders=X:=c_
structure B0 where
 ib:Int
 ia:Int
 To:Int
 deriving DecidableEq
def CB(x:B0):TV:=.agg [eI x.ib,eI x.ia,eI x.To]
structure d3 where
 dl:Fp
 dr:List B0
 deriving DecidableEq
def A5(x:d3):TV:=.agg [(eL 1 eI) x.dl,(eL 3 CB) x.dr]
structure AE where
 d3:d3
 ec:List Fp
 deriving DecidableEq
def Bn(x:AE):TV:=.agg [(eL 1 eI) x.d3.dl,(eL 3 CB) x.d3.dr,(eL 1 (eL 1 eI)) x.ec]
structure d4 where
 dl:Fp
 dr:Fp
 deriving DecidableEq
def A9(x:d4):TV:=.agg [(eL 1 eI) x.dl,(eL 1 eI) x.dr]
structure Bc where
 a:AE
 b:AE
 ea:Fp
 eb:Fp
 m:d4
 deriving DecidableEq
def lC(x:Bc):TV:=.agg [(eL 1 eI) x.a.d3.dl,(eL 3 CB) x.a.d3.dr,(eL 1 (eL 1 eI)) x.a.ec,(eL 1 eI) x.b.d3.dl,(eL 3 CB) x.b.d3.dr,(eL 1 (eL 1 eI)) x.b.ec,(eL 1 eI) x.ea,(eL 1 eI) x.eb,(eL 1 eI) x.m.dl,(eL 1 eI) x.m.dr]
def Cx(x:Bc):List AS:=[⟨T,(eL 1 eI) x.a.d3.dl⟩,⟨T,(eL 3 CB) x.a.d3.dr⟩,⟨T,(eL 1 (eL 1 eI)) x.a.ec⟩,⟨T,(eL 1 eI) x.b.d3.dl⟩,⟨T,(eL 3 CB) x.b.d3.dr⟩,⟨T,(eL 1 (eL 1 eI)) x.b.ec⟩,⟨T,(eL 1 eI) x.ea⟩,⟨T,(eL 1 eI) x.eb⟩,⟨X,.xl 1 (List.map eI x.m.dl)⟩,⟨X,.xl 1 (List.map eI x.m.dr)⟩]
structure ke where
 kh:ByteArray
 Low:Int
 Aab:Int
 pf:List ByteArray
 deriving DecidableEq
def Jh(x:ke):TV:=.agg [eS x.kh,eI x.Low,eI x.Aab,(eL 1 eS) x.pf]
structure Be where
 kh:ByteArray
 sx:Int
 o3:Bool
 og:List ke
 deriving DecidableEq
def IX(x:Be):TV:=.agg [eS x.kh,eI x.sx,eB x.o3,(eL 4 Jh) x.og]
structure Cy where
 kh:ByteArray
 ia:Int
 To:Int
 AaN:Int
 Aay:Int
 Abg:Int
 AaP:Int
 deriving DecidableEq
def Ji(x:Cy):TV:=.agg [eS x.kh,eI x.ia,eI x.To,eI x.AaN,eI x.Aay,eI x.Abg,eI x.AaP]
structure AC where
 dl:List Be
 dr:List Cy
 deriving DecidableEq
def AL(x:AC):TV:=.agg [(eL 4 IX) x.dl,(eL 7 Ji) x.dr]
structure A1 where
 t:AC
 p:d3
 g:d3
 fu:d4
 ff:Bool
 po:Int
 Aao:List d4
 deriving DecidableEq
def VA(x:A1):TV:=.agg [(eL 4 IX) x.t.dl,(eL 7 Ji) x.t.dr,(eL 1 eI) x.p.dl,(eL 3 CB) x.p.dr,(eL 1 eI) x.g.dl,(eL 3 CB) x.g.dr,(eL 1 eI) x.fu.dl,(eL 1 eI) x.fu.dr,eB x.ff,eI x.po,(eL 2 A9) x.Aao]
def CL(x:A1):List AS:=[⟨T,(eL 4 IX) x.t.dl⟩,⟨T,(eL 7 Ji) x.t.dr⟩,⟨T,(eL 1 eI) x.p.dl⟩,⟨T,(eL 3 CB) x.p.dr⟩,⟨T,(eL 1 eI) x.g.dl⟩,⟨T,(eL 3 CB) x.g.dr⟩,⟨T,(eL 1 eI) x.fu.dl⟩,⟨T,(eL 1 eI) x.fu.dr⟩,⟨T,eB x.ff⟩,⟨T,eI x.po⟩,⟨X,(eL 2 A9) x.Aao⟩]
structure gl where
 Var:Int
 Add:Int
 deriving DecidableEq
def Sv(x:gl):TV:=.agg [eI x.Var,eI x.Add]
structure CF where
 mL:Int
 ke:Int
 gl:gl
 deriving DecidableEq
def FQ(x:CF):TV:=.agg [eI x.mL,eI x.ke,eI x.gl.Var,eI x.gl.Add]
structure Test where
 kg:Int
 f0:gl
 eh:gl
 deriving DecidableEq
def F9(x:Test):TV:=.agg [eI x.kg,eI x.f0.Var,eI x.f0.Add,eI x.eh.Var,eI x.eh.Add]
structure d6 where
 d3:d3
 ei:List CF
 em:Int
 jj:List Test
 deriving DecidableEq
def BS(x:d6):TV:=.agg [(eL 1 eI) x.d3.dl,(eL 3 CB) x.d3.dr,(eL 4 FQ) x.ei,eI x.em,(eL 5 F9) x.jj]
structure BM where
 dl:Fp
 dr:Fp
 deriving DecidableEq
def Ht(x:BM):TV:=.agg [(eL 1 eI) x.dl,(eL 1 eI) x.dr]
structure d5 where
 kg:Int
 fl:List d5
 Map:d4
 d6:d6
mutual
def Wv:d5->TV
 |⟨y0,y1,y2,y3⟩=>.agg [eI y0,.list 9 (Km y1),(eL 1 eI) y2.dl,(eL 1 eI) y2.dr,(eL 1 eI) y3.d3.dl,(eL 3 CB) y3.d3.dr,(eL 4 FQ) y3.ei,eI y3.em,(eL 5 F9) y3.jj]
def Km:List d5->Fq
 |[]=>[]|c::cs=>Wv c::Km cs
end
def Ei(l:List d5):TV:=.list 9 (Km l)
def AI(x:d5):TV:=.agg [eI x.kg,Ei x.fl,(eL 1 eI) x.Map.dl,(eL 1 eI) x.Map.dr,(eL 1 eI) x.d6.d3.dl,(eL 3 CB) x.d6.d3.dr,(eL 4 FQ) x.d6.ei,eI x.d6.em,(eL 5 F9) x.d6.jj]
def ZX(x:d5):Wv x=AI x:=by
 cases x;rfl
def NR:∀l:List d5,Km l=l.map AI
 |[]=>rfl|x::l=>by rw[Km,ZX,NR l];rfl
def St(l:List d5):Ei l=.list 9 (l.map AI):=by rw[Ei,NR]
structure ey where
 kh:ByteArray
 f0:d6
 eh:d6
 mR:BM
 l4:d4
 ij:Bool
 d5:d5
def CH(x:ey):TV:=.agg [eS x.kh,(eL 1 eI) x.f0.d3.dl,(eL 3 CB) x.f0.d3.dr,(eL 4 FQ) x.f0.ei,eI x.f0.em,(eL 5 F9) x.f0.jj,(eL 1 eI) x.eh.d3.dl,(eL 3 CB) x.eh.d3.dr,(eL 4 FQ) x.eh.ei,eI x.eh.em,(eL 5 F9) x.eh.jj,(eL 1 eI) x.mR.dl,(eL 1 eI) x.mR.dr,(eL 1 eI) x.l4.dl,(eL 1 eI) x.l4.dr,eB x.ij,eI x.d5.kg,Ei x.d5.fl,(eL 1 eI) x.d5.Map.dl,(eL 1 eI) x.d5.Map.dr,(eL 1 eI) x.d5.d6.d3.dl,(eL 3 CB) x.d5.d6.d3.dr,(eL 4 FQ) x.d5.d6.ei,eI x.d5.d6.em,(eL 5 F9) x.d5.d6.jj]
structure AQ where
 d4:d4
 em:Fp
 deriving DecidableEq
def By(x:AQ):TV:=.agg [(eL 1 eI) x.d4.dl,(eL 1 eI) x.d4.dr,(eL 1 eI) x.em]
structure AT where
 ey:ey
 ll:AQ
 gx:AE
 gp:AE
 n8:d4
 sr:d4
def Df(x:AT):TV:=.agg [eS x.ey.kh,(eL 1 eI) x.ey.f0.d3.dl,(eL 3 CB) x.ey.f0.d3.dr,(eL 4 FQ) x.ey.f0.ei,eI x.ey.f0.em,(eL 5 F9) x.ey.f0.jj,(eL 1 eI) x.ey.eh.d3.dl,(eL 3 CB) x.ey.eh.d3.dr,(eL 4 FQ) x.ey.eh.ei,eI x.ey.eh.em,(eL 5 F9) x.ey.eh.jj,(eL 1 eI) x.ey.mR.dl,(eL 1 eI) x.ey.mR.dr,(eL 1 eI) x.ey.l4.dl,(eL 1 eI) x.ey.l4.dr,eB x.ey.ij,eI x.ey.d5.kg,Ei x.ey.d5.fl,(eL 1 eI) x.ey.d5.Map.dl,(eL 1 eI) x.ey.d5.Map.dr,(eL 1 eI) x.ey.d5.d6.d3.dl,(eL 3 CB) x.ey.d5.d6.d3.dr,(eL 4 FQ) x.ey.d5.d6.ei,eI x.ey.d5.d6.em,(eL 5 F9) x.ey.d5.d6.jj,(eL 1 eI) x.ll.d4.dl,(eL 1 eI) x.ll.d4.dr,(eL 1 eI) x.ll.em,(eL 1 eI) x.gx.d3.dl,(eL 3 CB) x.gx.d3.dr,(eL 1 (eL 1 eI)) x.gx.ec,(eL 1 eI) x.gp.d3.dl,(eL 3 CB) x.gp.d3.dr,(eL 1 (eL 1 eI)) x.gp.ec,(eL 1 eI) x.n8.dl,(eL 1 eI) x.n8.dr,(eL 1 eI) x.sr.dl,(eL 1 eI) x.sr.dr]
def EA(x:AT):List AS:=[⟨T,eS x.ey.kh⟩,⟨T,(eL 1 eI) x.ey.f0.d3.dl⟩,⟨T,(eL 3 CB) x.ey.f0.d3.dr⟩,⟨T,(eL 4 FQ) x.ey.f0.ei⟩,⟨T,eI x.ey.f0.em⟩,⟨T,(eL 5 F9) x.ey.f0.jj⟩,⟨T,(eL 1 eI) x.ey.eh.d3.dl⟩,⟨T,(eL 3 CB) x.ey.eh.d3.dr⟩,⟨T,(eL 4 FQ) x.ey.eh.ei⟩,⟨T,eI x.ey.eh.em⟩,⟨T,(eL 5 F9) x.ey.eh.jj⟩,⟨T,(eL 1 eI) x.ey.mR.dl⟩,⟨T,(eL 1 eI) x.ey.mR.dr⟩,⟨T,(eL 1 eI) x.ey.l4.dl⟩,⟨T,(eL 1 eI) x.ey.l4.dr⟩,⟨T,eB x.ey.ij⟩,⟨T,eI x.ey.d5.kg⟩,⟨T,Ei x.ey.d5.fl⟩,⟨T,(eL 1 eI) x.ey.d5.Map.dl⟩,⟨T,(eL 1 eI) x.ey.d5.Map.dr⟩,⟨T,(eL 1 eI) x.ey.d5.d6.d3.dl⟩,⟨T,(eL 3 CB) x.ey.d5.d6.d3.dr⟩,⟨T,(eL 4 FQ) x.ey.d5.d6.ei⟩,⟨T,eI x.ey.d5.d6.em⟩,⟨T,(eL 5 F9) x.ey.d5.d6.jj⟩,⟨T,(eL 1 eI) x.ll.d4.dl⟩,⟨T,(eL 1 eI) x.ll.d4.dr⟩,⟨T,(eL 1 eI) x.ll.em⟩,⟨T,(eL 1 eI) x.gx.d3.dl⟩,⟨T,(eL 3 CB) x.gx.d3.dr⟩,⟨T,(eL 1 (eL 1 eI)) x.gx.ec⟩,⟨X,(eL 1 eI) x.gp.d3.dl⟩,⟨X,(eL 3 CB) x.gp.d3.dr⟩,⟨X,.xn (List.map (eL 1 eI) x.gp.ec)⟩,⟨T,(eL 1 eI) x.n8.dl⟩,⟨T,(eL 1 eI) x.n8.dr⟩,⟨T,(eL 1 eI) x.sr.dl⟩,⟨T,(eL 1 eI) x.sr.dr⟩]
structure P5 where
 dl:Option Fp
 dr:Option Fp
 deriving DecidableEq
def th(x:P5):TV:=.agg [(eO 1 eI) x.dl,(eO 1 eI) x.dr]
def P5.of(m:d4):P5:=⟨some m.dl,some m.dr⟩
instance:Coe d4 P5:=⟨P5.of⟩
structure AM where
 p:d3
 g:d3
 is:List a6
 fu:P5
 ff:Bool
 po:Int
 ea:Fp
 eb:Fp
 out:List d4
 deriving DecidableEq
def Th(x:AM):TV:=.agg [(eL 1 eI) x.p.dl,(eL 3 CB) x.p.dr,(eL 1 eI) x.g.dl,(eL 3 CB) x.g.dr,(eL 1 (eL 1 eB)) x.is,(eO 1 eI) x.fu.dl,(eO 1 eI) x.fu.dr,eB x.ff,eI x.po,(eL 1 eI) x.ea,(eL 1 eI) x.eb,(eL 2 A9) x.out]
def DN(x:AM):List AS:=[⟨T,(eL 1 eI) x.p.dl⟩,⟨T,(eL 3 CB) x.p.dr⟩,⟨T,(eL 1 eI) x.g.dl⟩,⟨T,(eL 3 CB) x.g.dr⟩,⟨T,(eL 1 (eL 1 eB)) x.is⟩,⟨T,(eO 1 eI) x.fu.dl⟩,⟨T,(eO 1 eI) x.fu.dr⟩,⟨T,eB x.ff⟩,⟨T,eI x.po⟩,⟨X,.xl 1 (List.map eI x.ea)⟩,⟨X,.xl 1 (List.map eI x.eb)⟩,⟨X,(eL 2 A9) x.out⟩]
structure MA where
 a0:Int
 a1:Int
 deriving DecidableEq
def LS(x:MA):TV:=.agg [Eu x.a0,Eu x.a1]
structure HK where
 kg:Int
 AbK:ByteArray
 Line:Int
 deriving DecidableEq
def YN(x:HK):TV:=.agg [eI x.kg,eS x.AbK,eI x.Line]
structure Ke where
 a0:Int
 a1:Int
 a2:Int
 deriving DecidableEq
def DU(x:Ke):TV:=.agg [Eu x.a0,Eu x.a1,Eu x.a2]
structure OC where
 dl:Fp
 dr:List Ke
 deriving DecidableEq
def VW(x:OC):TV:=.agg [(eL 1 Eu) x.dl,(eL 3 DU) x.dr]
structure Tb where
 a0:Int
 a1:Int
 a2:Int
 a3:Int
 deriving DecidableEq
def Ol(x:Tb):TV:=.agg [nO x.a0,nO x.a1,nO x.a2,nO x.a3]
structure LI where
 a0:Int
 a1:Int
 deriving DecidableEq
def aE(x:LI):TV:=.agg [eI x.a0,eI x.a1]
structure OG where
 d3:OC
 ei:List Ke
 jj:List Tb
 deriving DecidableEq
def VY(x:OG):TV:=.agg [(eL 1 Eu) x.d3.dl,(eL 3 DU) x.d3.dr,(eL 3 DU) x.ei,(eL 4 Ol) x.jj]
structure WL where
 a0:Int
 a1:Int
 a2:Int
 a3:Int
 deriving DecidableEq
def eC(x:WL):TV:=.agg [Eu x.a0,Eu x.a1,Eu x.a2,Eu x.a3]
structure GG where
 f0:OG
 mR:Int
 dl:Fp
 dr:List Ke
 ei:List Ke
 Plain:Bool
 ij:Bool
 Aac:WL
 Abp:Fp
 deriving DecidableEq
def Kn(x:GG):TV:=.agg [(eL 1 Eu) x.f0.d3.dl,(eL 3 DU) x.f0.d3.dr,(eL 3 DU) x.f0.ei,(eL 4 Ol) x.f0.jj,Iw x.mR,(eL 1 Eu) x.dl,(eL 3 DU) x.dr,(eL 3 DU) x.ei,eB x.Plain,eB x.ij,Eu x.Aac.a0,Eu x.Aac.a1,Eu x.Aac.a2,Eu x.Aac.a3,(eL 1 Eu) x.Abp]
structure OE where
 dl:List MA
 dr:List Ke
 deriving DecidableEq
def VX(x:OE):TV:=.agg [(eL 2 LS) x.dl,(eL 3 DU) x.dr]
structure Hf where
 dl:List MA
 dr:List MA
 A:GG
 B:GG
 H:OE
 deriving DecidableEq
def JN(x:Hf):TV:=.agg [(eL 2 LS) x.dl,(eL 2 LS) x.dr,(eL 1 Eu) x.A.f0.d3.dl,(eL 3 DU) x.A.f0.d3.dr,(eL 3 DU) x.A.f0.ei,(eL 4 Ol) x.A.f0.jj,Iw x.A.mR,(eL 1 Eu) x.A.dl,(eL 3 DU) x.A.dr,(eL 3 DU) x.A.ei,eB x.A.Plain,eB x.A.ij,Eu x.A.Aac.a0,Eu x.A.Aac.a1,Eu x.A.Aac.a2,Eu x.A.Aac.a3,(eL 1 Eu) x.A.Abp,(eL 1 Eu) x.B.f0.d3.dl,(eL 3 DU) x.B.f0.d3.dr,(eL 3 DU) x.B.f0.ei,(eL 4 Ol) x.B.f0.jj,Iw x.B.mR,(eL 1 Eu) x.B.dl,(eL 3 DU) x.B.dr,(eL 3 DU) x.B.ei,eB x.B.Plain,eB x.B.ij,Eu x.B.Aac.a0,Eu x.B.Aac.a1,Eu x.B.Aac.a2,Eu x.B.Aac.a3,(eL 1 Eu) x.B.Abp,(eL 2 LS) x.H.dl,(eL 3 DU) x.H.dr]
structure KA where
 A:Int
 B:Int
 deriving DecidableEq
def Su(x:KA):TV:=.agg [eI x.A,eI x.B]
structure BO where
 Aaq:Int
 ll:AQ
 fl:List BO
mutual
def jJ:BO->TV
 |⟨y0,y1,y2⟩=>.agg [eI y0,(eL 1 eI) y1.d4.dl,(eL 1 eI) y1.d4.dr,(eL 1 eI) y1.em,.list 5 (QB y2)]
def QB:List BO->Fq
 |[]=>[]|c::cs=>jJ c::QB cs
end
def JM(l:List BO):TV:=.list 5 (QB l)
def FI(x:BO):TV:=.agg [eI x.Aaq,(eL 1 eI) x.ll.d4.dl,(eL 1 eI) x.ll.d4.dr,(eL 1 eI) x.ll.em,JM x.fl]
def k8(x:BO):jJ x=FI x:=by
 cases x;rfl
def UL:∀l:List BO,QB l=l.map FI
 |[]=>rfl|x::l=>by rw[QB,k8,UL l];rfl
def iL(l:List BO):JM l=.list 5 (l.map FI):=by rw[JM,UL]
structure DE where
 l:d3
 g:d3
 fd:BM
 m:d4
 deriving DecidableEq
def Jj(x:DE):TV:=.agg [(eL 1 eI) x.l.dl,(eL 3 CB) x.l.dr,(eL 1 eI) x.g.dl,(eL 3 CB) x.g.dr,(eL 1 eI) x.fd.dl,(eL 1 eI) x.fd.dr,(eL 1 eI) x.m.dl,(eL 1 eI) x.m.dr]
structure Bk where
 t:AC
 h:AE
 ff:Bool
 deriving DecidableEq
def C0(x:Bk):TV:=.agg [(eL 4 IX) x.t.dl,(eL 7 Ji) x.t.dr,(eL 1 eI) x.h.d3.dl,(eL 3 CB) x.h.d3.dr,(eL 1 (eL 1 eI)) x.h.ec,eB x.ff]
structure GB where
 ey:Int
 ll:AQ
 deriving DecidableEq
def NS(x:GB):TV:=.agg [eI x.ey,(eL 1 eI) x.ll.d4.dl,(eL 1 eI) x.ll.d4.dr,(eL 1 eI) x.ll.em]
structure B4 where
 j4:AE
 kl:List GB
 deriving DecidableEq
def Ww(x:B4):TV:=.agg [(eL 1 eI) x.j4.d3.dl,(eL 3 CB) x.j4.d3.dr,(eL 1 (eL 1 eI)) x.j4.ec,(eL 4 NS) x.kl]
structure A7 where
 d:B4
 AaD:AE
 fq:d4
 deriving DecidableEq
def Ca(x:A7):TV:=.agg [(eL 1 eI) x.d.j4.d3.dl,(eL 3 CB) x.d.j4.d3.dr,(eL 1 (eL 1 eI)) x.d.j4.ec,(eL 4 NS) x.d.kl,(eL 1 eI) x.AaD.d3.dl,(eL 3 CB) x.AaD.d3.dr,(eL 1 (eL 1 eI)) x.AaD.ec,(eL 1 eI) x.fq.dl,(eL 1 eI) x.fq.dr]
structure x8 where
 f0:B4
 eh:B4
 Iso:d4
 deriving DecidableEq
def cw(x:x8):TV:=.agg [(eL 1 eI) x.f0.j4.d3.dl,(eL 3 CB) x.f0.j4.d3.dr,(eL 1 (eL 1 eI)) x.f0.j4.ec,(eL 4 NS) x.f0.kl,(eL 1 eI) x.eh.j4.d3.dl,(eL 3 CB) x.eh.j4.d3.dr,(eL 1 (eL 1 eI)) x.eh.j4.ec,(eL 4 NS) x.eh.kl,(eL 1 eI) x.Iso.dl,(eL 1 eI) x.Iso.dr]
abbrev lI:Fp->TV:=eL 1 eI
abbrev lE:List B0->TV:=eL 3 CB
abbrev lS:List CF->TV:=eL 4 FQ
abbrev lT:List Test->TV:=eL 5 F9
abbrev lN:List Be->TV:=eL 4 IX
abbrev lX:List Cy->TV:=eL 7 Ji
abbrev lA:List ke->TV:=eL 4 Jh
abbrev lB:List ByteArray->TV:=eL 1 eS
def qW(a b:B0):CN (TV.cells (CB a)) (TV.cells (CB b))=some (decide (a=b)):=by
 rcases a with⟨a0,a1,a2⟩;rcases b with⟨b0,b1,b2⟩;simp[CB,TV.cells,CN,eI,Bool.and_assoc,B0.mk.injEq]
def qX(a b:CF):CN (TV.cells (FQ a)) (TV.cells (FQ b))=some (decide (a=b)):=by
 rcases a with⟨a0,a1,⟨a20,a21⟩⟩;rcases b with⟨b0,b1,⟨b20,b21⟩⟩;simp[FQ,TV.cells,CN,eI,Bool.and_assoc,CF.mk.injEq,gl.mk.injEq]
def qY(a b:Test):CN (TV.cells (F9 a)) (TV.cells (F9 b))=some (decide (a=b)):=by
 rcases a with⟨a0,⟨a10,a11⟩,⟨a20,a21⟩⟩;rcases b with⟨b0,⟨b10,b11⟩,⟨b20,b21⟩⟩;simp[F9,TV.cells,CN,eI,Bool.and_assoc,gl.mk.injEq,Test.mk.injEq]
end Go.Sf.Sc
