/- The types of the program as Lean types. -/
import Derived.Test.YthcncnllajfkfaaGreatSfK
import Derived.Test.YthcncnllajfkfaaGreatSfStep
import Derived.Test.YthcncnllajfkfaaGreatProg
set_option linter.all false
set_option maxRecDepth 100000
open Bool renaming true->X,false->T
namespace Go.Sf.Sc
open Go Go.Sf Go.Proofs.Tryz
def eI(n:Int):TV:=.int .i64 n
def Eh(n:Int):TV:=.int .u8 n
def Ii(n:Int):TV:=.int .u64 n
def ACo(n:Int):TV:=.int .i32 n
def ACq(n:Int):TV:=.int .u32 n
def mc(n:Int):TV:=.int .i8 n
def ACn(n:Int):TV:=.int .i16 n
def ACp(n:Int):TV:=.int .u16 n
def eB(b:Bool):TV:=.bool b
def eS(s:ByteArray):TV:=.str s
def eL{α:Type}(n:Nat)(e:α->TV)(l:List α):TV:=.list n (l.map e)
theorem Tryz_follows:Go.Proofs.Tryz.prog.follows .mixedOrders=X:=c!
structure Bt where
 j4:Int
 jj:Int
 To:Int
 deriving DecidableEq
def B6(x:Bt):TV:=.agg [eI x.j4,eI x.jj,eI x.To]
structure d3 where
 ci:Fp
 c9:List Bt
 deriving DecidableEq
def A5(x:d3):TV:=.agg [(eL 1 eI) x.ci,(eL 3 B6) x.c9]
structure AG where
 d3:d3
 eh:List Fp
 deriving DecidableEq
def Bm(x:AG):TV:=.agg [(eL 1 eI) x.d3.ci,(eL 3 B6) x.d3.c9,(eL 1 (eL 1 eI)) x.eh]
structure d4 where
 ci:Fp
 c9:Fp
 deriving DecidableEq
def A8(x:d4):TV:=.agg [(eL 1 eI) x.ci,(eL 1 eI) x.c9]
structure Bc where
 a:AG
 b:AG
 ea:Fp
 eb:Fp
 m:d4
 deriving DecidableEq
def kO(x:Bc):TV:=.agg [(eL 1 eI) x.a.d3.ci,(eL 3 B6) x.a.d3.c9,(eL 1 (eL 1 eI)) x.a.eh,(eL 1 eI) x.b.d3.ci,(eL 3 B6) x.b.d3.c9,(eL 1 (eL 1 eI)) x.b.eh,(eL 1 eI) x.ea,(eL 1 eI) x.eb,(eL 1 eI) x.m.ci,(eL 1 eI) x.m.c9]
def Cr(x:Bc):List AR:=[⟨T,(eL 1 eI) x.a.d3.ci⟩,⟨T,(eL 3 B6) x.a.d3.c9⟩,⟨T,(eL 1 (eL 1 eI)) x.a.eh⟩,⟨T,(eL 1 eI) x.b.d3.ci⟩,⟨T,(eL 3 B6) x.b.d3.c9⟩,⟨T,(eL 1 (eL 1 eI)) x.b.eh⟩,⟨T,(eL 1 eI) x.ea⟩,⟨T,(eL 1 eI) x.eb⟩,⟨X,.xl 1 (List.map eI x.m.ci)⟩,⟨X,.xl 1 (List.map eI x.m.c9)⟩]
structure gp where
 Var:Int
 Add:Int
 deriving DecidableEq
def Sj(x:gp):TV:=.agg [eI x.Var,eI x.Add]
structure CA where
 o4:Int
 kh:Int
 gp:gp
 deriving DecidableEq
def FK(x:CA):TV:=.agg [eI x.o4,eI x.kh,eI x.gp.Var,eI x.gp.Add]
structure Test where
 kl:Int
 gl:gp
 ec:gp
 deriving DecidableEq
def F1(x:Test):TV:=.agg [eI x.kl,eI x.gl.Var,eI x.gl.Add,eI x.ec.Var,eI x.ec.Add]
structure d6 where
 d3:d3
 ei:List CA
 em:Int
 kg:List Test
 deriving DecidableEq
def BQ(x:d6):TV:=.agg [(eL 1 eI) x.d3.ci,(eL 3 B6) x.d3.c9,(eL 4 FK) x.ei,eI x.em,(eL 5 F1) x.kg]
structure BR where
 ci:Fp
 c9:Fp
 deriving DecidableEq
def Hg(x:BR):TV:=.agg [(eL 1 eI) x.ci,(eL 1 eI) x.c9]
structure d5 where
 kl:Int
 fl:List d5
 Map:d4
 d6:d6
mutual
def Wi:d5->TV
 |⟨y0,y1,y2,y3⟩=>.agg [eI y0,.list 9 (KV y1),(eL 1 eI) y2.ci,(eL 1 eI) y2.c9,(eL 1 eI) y3.d3.ci,(eL 3 B6) y3.d3.c9,(eL 4 FK) y3.ei,eI y3.em,(eL 5 F1) y3.kg]
def KV:List d5->Fq
 |[]=>[]|c::cs=>Wi c::KV cs
end
def Ef(l:List d5):TV:=.list 9 (KV l)
def AI(x:d5):TV:=.agg [eI x.kl,Ef x.fl,(eL 1 eI) x.Map.ci,(eL 1 eI) x.Map.c9,(eL 1 eI) x.d6.d3.ci,(eL 3 B6) x.d6.d3.c9,(eL 4 FK) x.d6.ei,eI x.d6.em,(eL 5 F1) x.d6.kg]
theorem ZJ(x:d5):Wi x=AI x:=by
 cases x;rfl
theorem NC:∀l:List d5,KV l=l.map AI
 |[]=>rfl|x::l=>by rw[KV,ZJ,NC l];rfl
theorem Sh(l:List d5):Ef l=.list 9 (l.map AI):=by rw[Ef,NC]
structure fd where
 kp:ByteArray
 gl:d6
 ec:d6
 pf:BR
 o3:d4
 ke:Bool
 d5:d5
def CB(x:fd):TV:=.agg [eS x.kp,(eL 1 eI) x.gl.d3.ci,(eL 3 B6) x.gl.d3.c9,(eL 4 FK) x.gl.ei,eI x.gl.em,(eL 5 F1) x.gl.kg,(eL 1 eI) x.ec.d3.ci,(eL 3 B6) x.ec.d3.c9,(eL 4 FK) x.ec.ei,eI x.ec.em,(eL 5 F1) x.ec.kg,(eL 1 eI) x.pf.ci,(eL 1 eI) x.pf.c9,(eL 1 eI) x.o3.ci,(eL 1 eI) x.o3.c9,eB x.ke,eI x.d5.kl,Ef x.d5.fl,(eL 1 eI) x.d5.Map.ci,(eL 1 eI) x.d5.Map.c9,(eL 1 eI) x.d5.d6.d3.ci,(eL 3 B6) x.d5.d6.d3.c9,(eL 4 FK) x.d5.d6.ei,eI x.d5.d6.em,(eL 5 F1) x.d5.d6.kg]
structure AQ where
 d4:d4
 em:Fp
 deriving DecidableEq
def Bv(x:AQ):TV:=.agg [(eL 1 eI) x.d4.ci,(eL 1 eI) x.d4.c9,(eL 1 eI) x.em]
structure AU where
 fd:fd
 l4:AQ
 hV:AG
 f0:AG
 po:d4
 t5:d4
def DY(x:AU):TV:=.agg [eS x.fd.kp,(eL 1 eI) x.fd.gl.d3.ci,(eL 3 B6) x.fd.gl.d3.c9,(eL 4 FK) x.fd.gl.ei,eI x.fd.gl.em,(eL 5 F1) x.fd.gl.kg,(eL 1 eI) x.fd.ec.d3.ci,(eL 3 B6) x.fd.ec.d3.c9,(eL 4 FK) x.fd.ec.ei,eI x.fd.ec.em,(eL 5 F1) x.fd.ec.kg,(eL 1 eI) x.fd.pf.ci,(eL 1 eI) x.fd.pf.c9,(eL 1 eI) x.fd.o3.ci,(eL 1 eI) x.fd.o3.c9,eB x.fd.ke,eI x.fd.d5.kl,Ef x.fd.d5.fl,(eL 1 eI) x.fd.d5.Map.ci,(eL 1 eI) x.fd.d5.Map.c9,(eL 1 eI) x.fd.d5.d6.d3.ci,(eL 3 B6) x.fd.d5.d6.d3.c9,(eL 4 FK) x.fd.d5.d6.ei,eI x.fd.d5.d6.em,(eL 5 F1) x.fd.d5.d6.kg,(eL 1 eI) x.l4.d4.ci,(eL 1 eI) x.l4.d4.c9,(eL 1 eI) x.l4.em,(eL 1 eI) x.hV.d3.ci,(eL 3 B6) x.hV.d3.c9,(eL 1 (eL 1 eI)) x.hV.eh,(eL 1 eI) x.f0.d3.ci,(eL 3 B6) x.f0.d3.c9,(eL 1 (eL 1 eI)) x.f0.eh,(eL 1 eI) x.po.ci,(eL 1 eI) x.po.c9,(eL 1 eI) x.t5.ci,(eL 1 eI) x.t5.c9]
def D5(x:AU):List AR:=[⟨T,eS x.fd.kp⟩,⟨T,(eL 1 eI) x.fd.gl.d3.ci⟩,⟨T,(eL 3 B6) x.fd.gl.d3.c9⟩,⟨T,(eL 4 FK) x.fd.gl.ei⟩,⟨T,eI x.fd.gl.em⟩,⟨T,(eL 5 F1) x.fd.gl.kg⟩,⟨T,(eL 1 eI) x.fd.ec.d3.ci⟩,⟨T,(eL 3 B6) x.fd.ec.d3.c9⟩,⟨T,(eL 4 FK) x.fd.ec.ei⟩,⟨T,eI x.fd.ec.em⟩,⟨T,(eL 5 F1) x.fd.ec.kg⟩,⟨T,(eL 1 eI) x.fd.pf.ci⟩,⟨T,(eL 1 eI) x.fd.pf.c9⟩,⟨T,(eL 1 eI) x.fd.o3.ci⟩,⟨T,(eL 1 eI) x.fd.o3.c9⟩,⟨T,eB x.fd.ke⟩,⟨T,eI x.fd.d5.kl⟩,⟨T,Ef x.fd.d5.fl⟩,⟨T,(eL 1 eI) x.fd.d5.Map.ci⟩,⟨T,(eL 1 eI) x.fd.d5.Map.c9⟩,⟨T,(eL 1 eI) x.fd.d5.d6.d3.ci⟩,⟨T,(eL 3 B6) x.fd.d5.d6.d3.c9⟩,⟨T,(eL 4 FK) x.fd.d5.d6.ei⟩,⟨T,eI x.fd.d5.d6.em⟩,⟨T,(eL 5 F1) x.fd.d5.d6.kg⟩,⟨T,(eL 1 eI) x.l4.d4.ci⟩,⟨T,(eL 1 eI) x.l4.d4.c9⟩,⟨T,(eL 1 eI) x.l4.em⟩,⟨T,(eL 1 eI) x.hV.d3.ci⟩,⟨T,(eL 3 B6) x.hV.d3.c9⟩,⟨T,(eL 1 (eL 1 eI)) x.hV.eh⟩,⟨X,(eL 1 eI) x.f0.d3.ci⟩,⟨X,(eL 3 B6) x.f0.d3.c9⟩,⟨X,.xn (List.map (eL 1 eI) x.f0.eh)⟩,⟨T,(eL 1 eI) x.po.ci⟩,⟨T,(eL 1 eI) x.po.c9⟩,⟨T,(eL 1 eI) x.t5.ci⟩,⟨T,(eL 1 eI) x.t5.c9⟩]
structure kh where
 kp:ByteArray
 Low:Int
 Aae:Int
 qo:List ByteArray
 deriving DecidableEq
def JU(x:kh):TV:=.agg [eS x.kp,eI x.Low,eI x.Aae,(eL 1 eS) x.qo]
structure Ba where
 kp:ByteArray
 t2:Int
 p0:Bool
 pr:List kh
 deriving DecidableEq
def IJ(x:Ba):TV:=.agg [eS x.kp,eI x.t2,eB x.p0,(eL 4 JU) x.pr]
structure Cs where
 kp:ByteArray
 jj:Int
 To:Int
 AaU:Int
 AaD:Int
 Abj:Int
 AaT:Int
 deriving DecidableEq
def JV(x:Cs):TV:=.agg [eS x.kp,eI x.jj,eI x.To,eI x.AaU,eI x.AaD,eI x.Abj,eI x.AaT]
structure AC where
 ci:List Ba
 c9:List Cs
 deriving DecidableEq
def AL(x:AC):TV:=.agg [(eL 4 IJ) x.ci,(eL 7 JV) x.c9]
structure A0 where
 t:AC
 p:d3
 g:d3
 fu:d4
 ff:Bool
 r0:Int
 Aau:List d4
 deriving DecidableEq
def Us(x:A0):TV:=.agg [(eL 4 IJ) x.t.ci,(eL 7 JV) x.t.c9,(eL 1 eI) x.p.ci,(eL 3 B6) x.p.c9,(eL 1 eI) x.g.ci,(eL 3 B6) x.g.c9,(eL 1 eI) x.fu.ci,(eL 1 eI) x.fu.c9,eB x.ff,eI x.r0,(eL 2 A8) x.Aau]
def CG(x:A0):List AR:=[⟨T,(eL 4 IJ) x.t.ci⟩,⟨T,(eL 7 JV) x.t.c9⟩,⟨T,(eL 1 eI) x.p.ci⟩,⟨T,(eL 3 B6) x.p.c9⟩,⟨T,(eL 1 eI) x.g.ci⟩,⟨T,(eL 3 B6) x.g.c9⟩,⟨T,(eL 1 eI) x.fu.ci⟩,⟨T,(eL 1 eI) x.fu.c9⟩,⟨T,eB x.ff⟩,⟨T,eI x.r0⟩,⟨X,(eL 2 A8) x.Aau⟩]
structure P0 where
 ci:Option Fp
 c9:Option Fp
 deriving DecidableEq
def sv(x:P0):TV:=.agg [(eO 1 eI) x.ci,(eO 1 eI) x.c9]
def P0.of(m:d4):P0:=⟨some m.ci,some m.c9⟩
instance:Coe d4 P0:=⟨P0.of⟩
structure AM where
 p:d3
 g:d3
 is:List a6
 fu:P0
 ff:Bool
 r0:Int
 ea:Fp
 eb:Fp
 out:List d4
 deriving DecidableEq
def TY(x:AM):TV:=.agg [(eL 1 eI) x.p.ci,(eL 3 B6) x.p.c9,(eL 1 eI) x.g.ci,(eL 3 B6) x.g.c9,(eL 1 (eL 1 eB)) x.is,(eO 1 eI) x.fu.ci,(eO 1 eI) x.fu.c9,eB x.ff,eI x.r0,(eL 1 eI) x.ea,(eL 1 eI) x.eb,(eL 2 A8) x.out]
def DG(x:AM):List AR:=[⟨T,(eL 1 eI) x.p.ci⟩,⟨T,(eL 3 B6) x.p.c9⟩,⟨T,(eL 1 eI) x.g.ci⟩,⟨T,(eL 3 B6) x.g.c9⟩,⟨T,(eL 1 (eL 1 eB)) x.is⟩,⟨T,(eO 1 eI) x.fu.ci⟩,⟨T,(eO 1 eI) x.fu.c9⟩,⟨T,eB x.ff⟩,⟨T,eI x.r0⟩,⟨X,.xl 1 (List.map eI x.ea)⟩,⟨X,.xl 1 (List.map eI x.eb)⟩,⟨X,(eL 2 A8) x.out⟩]
structure G5 where
 kl:Int
 AbS:ByteArray
 Line:Int
 deriving DecidableEq
def YC(x:G5):TV:=.agg [eI x.kl,eS x.AbS,eI x.Line]
structure C9 where
 l:d3
 g:d3
 ey:BR
 m:d4
 deriving DecidableEq
def JW(x:C9):TV:=.agg [(eL 1 eI) x.l.ci,(eL 3 B6) x.l.c9,(eL 1 eI) x.g.ci,(eL 3 B6) x.g.c9,(eL 1 eI) x.ey.ci,(eL 1 eI) x.ey.c9,(eL 1 eI) x.m.ci,(eL 1 eI) x.m.c9]
structure Jv where
 A:Int
 B:Int
 deriving DecidableEq
def Si(x:Jv):TV:=.agg [eI x.A,eI x.B]
structure Bj where
 t:AC
 h:AG
 ff:Bool
 deriving DecidableEq
def Cv(x:Bj):TV:=.agg [(eL 4 IJ) x.t.ci,(eL 7 JV) x.t.c9,(eL 1 eI) x.h.d3.ci,(eL 3 B6) x.h.d3.c9,(eL 1 (eL 1 eI)) x.h.eh,eB x.ff]
structure BN where
 Aaw:Int
 l4:AQ
 fl:List BN
mutual
def ig:BN->TV
 |⟨y0,y1,y2⟩=>.agg [eI y0,(eL 1 eI) y1.d4.ci,(eL 1 eI) y1.d4.c9,(eL 1 eI) y1.em,.list 5 (P6 y2)]
def P6:List BN->Fq
 |[]=>[]|c::cs=>ig c::P6 cs
end
def I8(l:List BN):TV:=.list 5 (P6 l)
def FB(x:BN):TV:=.agg [eI x.Aaw,(eL 1 eI) x.l4.d4.ci,(eL 1 eI) x.l4.d4.c9,(eL 1 eI) x.l4.em,I8 x.fl]
theorem kM(x:BN):ig x=FB x:=by
 cases x;rfl
theorem T8:∀l:List BN,P6 l=l.map FB
 |[]=>rfl|x::l=>by rw[P6,kM,T8 l];rfl
theorem gv(l:List BN):I8 l=.list 5 (l.map FB):=by rw[I8,T8]
structure F8 where
 fd:Int
 l4:AQ
 deriving DecidableEq
def ND(x:F8):TV:=.agg [eI x.fd,(eL 1 eI) x.l4.d4.ci,(eL 1 eI) x.l4.d4.c9,(eL 1 eI) x.l4.em]
structure Ch where
 ng:AG
 ln:List F8
 deriving DecidableEq
def Wj(x:Ch):TV:=.agg [(eL 1 eI) x.ng.d3.ci,(eL 3 B6) x.ng.d3.c9,(eL 1 (eL 1 eI)) x.ng.eh,(eL 4 ND) x.ln]
structure A7 where
 d:Ch
 AaJ:AG
 fq:d4
 deriving DecidableEq
def CX(x:A7):TV:=.agg [(eL 1 eI) x.d.ng.d3.ci,(eL 3 B6) x.d.ng.d3.c9,(eL 1 (eL 1 eI)) x.d.ng.eh,(eL 4 ND) x.d.ln,(eL 1 eI) x.AaJ.d3.ci,(eL 3 B6) x.AaJ.d3.c9,(eL 1 (eL 1 eI)) x.AaJ.eh,(eL 1 eI) x.fq.ci,(eL 1 eI) x.fq.c9]
structure Aaf where
 gl:Ch
 ec:Ch
 Iso:d4
 deriving DecidableEq
def cZ(x:Aaf):TV:=.agg [(eL 1 eI) x.gl.ng.d3.ci,(eL 3 B6) x.gl.ng.d3.c9,(eL 1 (eL 1 eI)) x.gl.ng.eh,(eL 4 ND) x.gl.ln,(eL 1 eI) x.ec.ng.d3.ci,(eL 3 B6) x.ec.ng.d3.c9,(eL 1 (eL 1 eI)) x.ec.ng.eh,(eL 4 ND) x.ec.ln,(eL 1 eI) x.Iso.ci,(eL 1 eI) x.Iso.c9]
structure Lt where
 a0:Int
 a1:Int
 deriving DecidableEq
def LA(x:Lt):TV:=.agg [Eh x.a0,Eh x.a1]
structure KN where
 a0:Int
 a1:Int
 a2:Int
 deriving DecidableEq
def DO(x:KN):TV:=.agg [Eh x.a0,Eh x.a1,Eh x.a2]
structure N0 where
 ci:Fp
 c9:List KN
 deriving DecidableEq
def VH(x:N0):TV:=.agg [(eL 1 Eh) x.ci,(eL 3 DO) x.c9]
structure TR where
 a0:Int
 a1:Int
 a2:Int
 a3:Int
 deriving DecidableEq
def OZ(x:TR):TV:=.agg [mc x.a0,mc x.a1,mc x.a2,mc x.a3]
structure Kz where
 a0:Int
 a1:Int
 deriving DecidableEq
def Z2(x:Kz):TV:=.agg [eI x.a0,eI x.a1]
structure N4 where
 d3:N0
 ei:List KN
 kg:List TR
 deriving DecidableEq
def VK(x:N4):TV:=.agg [(eL 1 Eh) x.d3.ci,(eL 3 DO) x.d3.c9,(eL 3 DO) x.ei,(eL 4 OZ) x.kg]
structure V6 where
 a0:Int
 a1:Int
 a2:Int
 a3:Int
 deriving DecidableEq
def dh(x:V6):TV:=.agg [Eh x.a0,Eh x.a1,Eh x.a2,Eh x.a3]
structure F6 where
 gl:N4
 pf:Int
 ci:Fp
 c9:List KN
 ei:List KN
 Plain:Bool
 ke:Bool
 Aah:V6
 Abw:Fp
 deriving DecidableEq
def KW(x:F6):TV:=.agg [(eL 1 Eh) x.gl.d3.ci,(eL 3 DO) x.gl.d3.c9,(eL 3 DO) x.gl.ei,(eL 4 OZ) x.gl.kg,Ii x.pf,(eL 1 Eh) x.ci,(eL 3 DO) x.c9,(eL 3 DO) x.ei,eB x.Plain,eB x.ke,Eh x.Aah.a0,Eh x.Aah.a1,Eh x.Aah.a2,Eh x.Aah.a3,(eL 1 Eh) x.Abw]
structure N2 where
 ci:List Lt
 c9:List KN
 deriving DecidableEq
def VJ(x:N2):TV:=.agg [(eL 2 LA) x.ci,(eL 3 DO) x.c9]
structure HP where
 ci:List Lt
 c9:List Lt
 A:F6
 B:F6
 H:N2
 deriving DecidableEq
def I9(x:HP):TV:=.agg [(eL 2 LA) x.ci,(eL 2 LA) x.c9,(eL 1 Eh) x.A.gl.d3.ci,(eL 3 DO) x.A.gl.d3.c9,(eL 3 DO) x.A.gl.ei,(eL 4 OZ) x.A.gl.kg,Ii x.A.pf,(eL 1 Eh) x.A.ci,(eL 3 DO) x.A.c9,(eL 3 DO) x.A.ei,eB x.A.Plain,eB x.A.ke,Eh x.A.Aah.a0,Eh x.A.Aah.a1,Eh x.A.Aah.a2,Eh x.A.Aah.a3,(eL 1 Eh) x.A.Abw,(eL 1 Eh) x.B.gl.d3.ci,(eL 3 DO) x.B.gl.d3.c9,(eL 3 DO) x.B.gl.ei,(eL 4 OZ) x.B.gl.kg,Ii x.B.pf,(eL 1 Eh) x.B.ci,(eL 3 DO) x.B.c9,(eL 3 DO) x.B.ei,eB x.B.Plain,eB x.B.ke,Eh x.B.Aah.a0,Eh x.B.Aah.a1,Eh x.B.Aah.a2,Eh x.B.Aah.a3,(eL 1 Eh) x.B.Abw,(eL 2 LA) x.H.ci,(eL 3 DO) x.H.c9]
abbrev lI:Fp->TV:=eL 1 eI
abbrev lE:List Bt->TV:=eL 3 B6
abbrev lS:List CA->TV:=eL 4 FK
abbrev lT:List Test->TV:=eL 5 F1
abbrev lN:List Ba->TV:=eL 4 IJ
abbrev lX:List Cs->TV:=eL 7 JV
abbrev lA:List kh->TV:=eL 4 JU
abbrev lB:List ByteArray->TV:=eL 1 eS
theorem pu(a b:Bt):CJ (TV.cells (B6 a)) (TV.cells (B6 b))=some (decide (a=b)):=by
 rcases a with⟨a0,a1,a2⟩;rcases b with⟨b0,b1,b2⟩;simp[B6,TV.cells,CJ,eI,Bool.and_assoc,Bt.mk.injEq]
theorem pv(a b:CA):CJ (TV.cells (FK a)) (TV.cells (FK b))=some (decide (a=b)):=by
 rcases a with⟨a0,a1,⟨a20,a21⟩⟩;rcases b with⟨b0,b1,⟨b20,b21⟩⟩;simp[FK,TV.cells,CJ,eI,Bool.and_assoc,CA.mk.injEq,gp.mk.injEq]
theorem pw(a b:Test):CJ (TV.cells (F1 a)) (TV.cells (F1 b))=some (decide (a=b)):=by
 rcases a with⟨a0,⟨a10,a11⟩,⟨a20,a21⟩⟩;rcases b with⟨b0,⟨b10,b11⟩,⟨b20,b21⟩⟩;simp[F1,TV.cells,CJ,eI,Bool.and_assoc,gp.mk.injEq,Test.mk.injEq]
end Go.Sf.Sc
