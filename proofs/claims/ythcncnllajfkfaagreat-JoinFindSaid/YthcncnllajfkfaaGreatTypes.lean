/- The types of the program as Lean types. -/
import Derived.Test.YthcncnllajfkfaaGreatSfK
import Derived.Test.YthcncnllajfkfaaGreatSfStep
import Derived.Test.YthcncnllajfkfaaGreatProg
set_option linter.all false
set_option maxRecDepth 100000
open Bool renaming true->X,false->T
namespace Go.Sf.Sc
open Go Go.Sf Go.Proofs.Tryz
def eI(n:Int):TV:=.int .i64 n
def X0(n:Int):TV:=.int .u8 n
def MB(n:Int):TV:=.int .u64 n
def AC0(n:Int):TV:=.int .i32 n
def AC2(n:Int):TV:=.int .u32 n
def eI8(n:Int):TV:=.int .i8 n
def ACz(n:Int):TV:=.int .i16 n
def AC1(n:Int):TV:=.int .u16 n
def eB(b:Bool):TV:=.bool b
def eS(s:ByteArray):TV:=.str s
def eL{α:Type}(n:Nat)(e:α->TV)(l:List α):TV:=.list n (l.map e)
theorem Tryz_follows:Go.Proofs.Tryz.prog.follows .mixedOrders=X:=b!
structure CC where
 ia:Int
 hV:Int
 To:Int
 deriving DecidableEq
def BQ(x:CC):TV:=.agg [eI x.ia,eI x.hV,eI x.To]
structure dr where
 dl:Fp
 d3:List CC
 deriving DecidableEq
def Ay(x:dr):TV:=.agg [(eL 1 eI) x.dl,(eL 3 BQ) x.d3]
structure AF where
 dr:dr
 eb:List Fp
 deriving DecidableEq
def BY(x:AF):TV:=.agg [(eL 1 eI) x.dr.dl,(eL 3 BQ) x.dr.d3,(eL 1 (eL 1 eI)) x.eb]
structure d4 where
 dl:Fp
 d3:Fp
 deriving DecidableEq
def Ap(x:d4):TV:=.agg [(eL 1 eI) x.dl,(eL 1 eI) x.d3]
structure BV where
 a:AF
 b:AF
 ea:Fp
 eh:Fp
 m:d4
 deriving DecidableEq
def lU(x:BV):TV:=.agg [(eL 1 eI) x.a.dr.dl,(eL 3 BQ) x.a.dr.d3,(eL 1 (eL 1 eI)) x.a.eb,(eL 1 eI) x.b.dr.dl,(eL 3 BQ) x.b.dr.d3,(eL 1 (eL 1 eI)) x.b.eb,(eL 1 eI) x.ea,(eL 1 eI) x.eh,(eL 1 eI) x.m.dl,(eL 1 eI) x.m.d3]
def Cq(x:BV):List AS:=[⟨T,(eL 1 eI) x.a.dr.dl⟩,⟨T,(eL 3 BQ) x.a.dr.d3⟩,⟨T,(eL 1 (eL 1 eI)) x.a.eb⟩,⟨T,(eL 1 eI) x.b.dr.dl⟩,⟨T,(eL 3 BQ) x.b.dr.d3⟩,⟨T,(eL 1 (eL 1 eI)) x.b.eb⟩,⟨T,(eL 1 eI) x.ea⟩,⟨T,(eL 1 eI) x.eh⟩,⟨X,.xl 1 (List.map eI x.m.dl)⟩,⟨X,.xl 1 (List.map eI x.m.d3)⟩]
structure Av where
 a:AF
 b:AF
 ea:Fp
 eh:Fp
 out:d4
 wB:Bool
 deriving DecidableEq
def uZ(x:Av):TV:=.agg [(eL 1 eI) x.a.dr.dl,(eL 3 BQ) x.a.dr.d3,(eL 1 (eL 1 eI)) x.a.eb,(eL 1 eI) x.b.dr.dl,(eL 3 BQ) x.b.dr.d3,(eL 1 (eL 1 eI)) x.b.eb,(eL 1 eI) x.ea,(eL 1 eI) x.eh,(eL 1 eI) x.out.dl,(eL 1 eI) x.out.d3,eB x.wB]
def B4(x:Av):List AS:=[⟨T,(eL 1 eI) x.a.dr.dl⟩,⟨T,(eL 3 BQ) x.a.dr.d3⟩,⟨T,(eL 1 (eL 1 eI)) x.a.eb⟩,⟨T,(eL 1 eI) x.b.dr.dl⟩,⟨T,(eL 3 BQ) x.b.dr.d3⟩,⟨T,(eL 1 (eL 1 eI)) x.b.eb⟩,⟨T,(eL 1 eI) x.ea⟩,⟨T,(eL 1 eI) x.eh⟩,⟨T,(eL 1 eI) x.out.dl⟩,⟨T,(eL 1 eI) x.out.d3⟩,⟨T,eB x.wB⟩]
structure gl where
 Var:Int
 Add:Int
 deriving DecidableEq
def QI(x:gl):TV:=.agg [eI x.Var,eI x.Add]
structure Cu where
 o3:Int
 ke:Int
 gl:gl
 deriving DecidableEq
def Da(x:Cu):TV:=.agg [eI x.o3,eI x.ke,eI x.gl.Var,eI x.gl.Add]
structure Test where
 jj:Int
 fu:gl
 ec:gl
 deriving DecidableEq
def Dx(x:Test):TV:=.agg [eI x.jj,eI x.fu.Var,eI x.fu.Add,eI x.ec.Var,eI x.ec.Add]
structure d7 where
 dr:dr
 ek:List Cu
 ey:Int
 j4:List Test
 deriving DecidableEq
def BE(x:d7):TV:=.agg [(eL 1 eI) x.dr.dl,(eL 3 BQ) x.dr.d3,(eL 4 Da) x.ek,eI x.ey,(eL 5 Dx) x.j4]
structure BC where
 dl:Fp
 d3:Fp
 deriving DecidableEq
def FC(x:BC):TV:=.agg [(eL 1 eI) x.dl,(eL 1 eI) x.d3]
structure d5 where
 jj:Int
 em:List d5
 Map:d4
 d7:d7
mutual
def WT:d5->TV
 |⟨y0,y1,y2,y3⟩=>.agg [eI y0,.list 9 (Ka y1),(eL 1 eI) y2.dl,(eL 1 eI) y2.d3,(eL 1 eI) y3.dr.dl,(eL 3 BQ) y3.dr.d3,(eL 4 Da) y3.ek,eI y3.ey,(eL 5 Dx) y3.j4]
def Ka:List d5->Fq
 |[]=>[]|c::cs=>WT c::Ka cs
end
def Cz(l:List d5):TV:=.list 9 (Ka l)
def AJ(x:d5):TV:=.agg [eI x.jj,Cz x.em,(eL 1 eI) x.Map.dl,(eL 1 eI) x.Map.d3,(eL 1 eI) x.d7.dr.dl,(eL 3 BQ) x.d7.dr.d3,(eL 4 Da) x.d7.ek,eI x.d7.ey,(eL 5 Dx) x.d7.j4]
theorem ZE(x:d5):WT x=AJ x:=by
 cases x;rfl
theorem P2:∀l:List d5,Ka l=l.map AJ
 |[]=>rfl|x::l=>by rw[Ka,ZE,P2 l];rfl
theorem MH(l:List d5):Cz l=.list 9 (l.map AJ):=by rw[Cz,P2]
structure eg where
 kq:ByteArray
 fu:d7
 ec:d7
 o4:BC
 mo:d4
 ij:Bool
 d5:d5
def Bt(x:eg):TV:=.agg [eS x.kq,(eL 1 eI) x.fu.dr.dl,(eL 3 BQ) x.fu.dr.d3,(eL 4 Da) x.fu.ek,eI x.fu.ey,(eL 5 Dx) x.fu.j4,(eL 1 eI) x.ec.dr.dl,(eL 3 BQ) x.ec.dr.d3,(eL 4 Da) x.ec.ek,eI x.ec.ey,(eL 5 Dx) x.ec.j4,(eL 1 eI) x.o4.dl,(eL 1 eI) x.o4.d3,(eL 1 eI) x.mo.dl,(eL 1 eI) x.mo.d3,eB x.ij,eI x.d5.jj,Cz x.d5.em,(eL 1 eI) x.d5.Map.dl,(eL 1 eI) x.d5.Map.d3,(eL 1 eI) x.d5.d7.dr.dl,(eL 3 BQ) x.d5.d7.dr.d3,(eL 4 Da) x.d5.d7.ek,eI x.d5.d7.ey,(eL 5 Dx) x.d5.d7.j4]
structure AP where
 d4:d4
 ey:Fp
 deriving DecidableEq
def Bb(x:AP):TV:=.agg [(eL 1 eI) x.d4.dl,(eL 1 eI) x.d4.d3,(eL 1 eI) x.ey]
structure AR where
 eg:eg
 j0:AP
 fl:AF
 ex:AF
 kp:d4
 pq:d4
def Bg(x:AR):TV:=.agg [eS x.eg.kq,(eL 1 eI) x.eg.fu.dr.dl,(eL 3 BQ) x.eg.fu.dr.d3,(eL 4 Da) x.eg.fu.ek,eI x.eg.fu.ey,(eL 5 Dx) x.eg.fu.j4,(eL 1 eI) x.eg.ec.dr.dl,(eL 3 BQ) x.eg.ec.dr.d3,(eL 4 Da) x.eg.ec.ek,eI x.eg.ec.ey,(eL 5 Dx) x.eg.ec.j4,(eL 1 eI) x.eg.o4.dl,(eL 1 eI) x.eg.o4.d3,(eL 1 eI) x.eg.mo.dl,(eL 1 eI) x.eg.mo.d3,eB x.eg.ij,eI x.eg.d5.jj,Cz x.eg.d5.em,(eL 1 eI) x.eg.d5.Map.dl,(eL 1 eI) x.eg.d5.Map.d3,(eL 1 eI) x.eg.d5.d7.dr.dl,(eL 3 BQ) x.eg.d5.d7.dr.d3,(eL 4 Da) x.eg.d5.d7.ek,eI x.eg.d5.d7.ey,(eL 5 Dx) x.eg.d5.d7.j4,(eL 1 eI) x.j0.d4.dl,(eL 1 eI) x.j0.d4.d3,(eL 1 eI) x.j0.ey,(eL 1 eI) x.fl.dr.dl,(eL 3 BQ) x.fl.dr.d3,(eL 1 (eL 1 eI)) x.fl.eb,(eL 1 eI) x.ex.dr.dl,(eL 3 BQ) x.ex.dr.d3,(eL 1 (eL 1 eI)) x.ex.eb,(eL 1 eI) x.kp.dl,(eL 1 eI) x.kp.d3,(eL 1 eI) x.pq.dl,(eL 1 eI) x.pq.d3]
def D3(x:AR):List AS:=[⟨T,eS x.eg.kq⟩,⟨T,(eL 1 eI) x.eg.fu.dr.dl⟩,⟨T,(eL 3 BQ) x.eg.fu.dr.d3⟩,⟨T,(eL 4 Da) x.eg.fu.ek⟩,⟨T,eI x.eg.fu.ey⟩,⟨T,(eL 5 Dx) x.eg.fu.j4⟩,⟨T,(eL 1 eI) x.eg.ec.dr.dl⟩,⟨T,(eL 3 BQ) x.eg.ec.dr.d3⟩,⟨T,(eL 4 Da) x.eg.ec.ek⟩,⟨T,eI x.eg.ec.ey⟩,⟨T,(eL 5 Dx) x.eg.ec.j4⟩,⟨T,(eL 1 eI) x.eg.o4.dl⟩,⟨T,(eL 1 eI) x.eg.o4.d3⟩,⟨T,(eL 1 eI) x.eg.mo.dl⟩,⟨T,(eL 1 eI) x.eg.mo.d3⟩,⟨T,eB x.eg.ij⟩,⟨T,eI x.eg.d5.jj⟩,⟨T,Cz x.eg.d5.em⟩,⟨T,(eL 1 eI) x.eg.d5.Map.dl⟩,⟨T,(eL 1 eI) x.eg.d5.Map.d3⟩,⟨T,(eL 1 eI) x.eg.d5.d7.dr.dl⟩,⟨T,(eL 3 BQ) x.eg.d5.d7.dr.d3⟩,⟨T,(eL 4 Da) x.eg.d5.d7.ek⟩,⟨T,eI x.eg.d5.d7.ey⟩,⟨T,(eL 5 Dx) x.eg.d5.d7.j4⟩,⟨T,(eL 1 eI) x.j0.d4.dl⟩,⟨T,(eL 1 eI) x.j0.d4.d3⟩,⟨T,(eL 1 eI) x.j0.ey⟩,⟨T,(eL 1 eI) x.fl.dr.dl⟩,⟨T,(eL 3 BQ) x.fl.dr.d3⟩,⟨T,(eL 1 (eL 1 eI)) x.fl.eb⟩,⟨X,(eL 1 eI) x.ex.dr.dl⟩,⟨X,(eL 3 BQ) x.ex.dr.d3⟩,⟨X,.xn (List.map (eL 1 eI) x.ex.eb)⟩,⟨T,(eL 1 eI) x.kp.dl⟩,⟨T,(eL 1 eI) x.kp.d3⟩,⟨T,(eL 1 eI) x.pq.dl⟩,⟨T,(eL 1 eI) x.pq.d3⟩]
structure ke where
 kq:ByteArray
 Low:Int
 z5:Int
 pc:List ByteArray
 deriving DecidableEq
def HF(x:ke):TV:=.agg [eS x.kq,eI x.Low,eI x.z5,(eL 1 eS) x.pc]
structure Cj where
 kq:ByteArray
 t2:Int
 up:Bool
 po:List ke
 deriving DecidableEq
def FB(x:Cj):TV:=.agg [eS x.kq,eI x.t2,eB x.up,(eL 4 HF) x.po]
structure Cx where
 kq:ByteArray
 hV:Int
 To:Int
 AaT:Int
 Aaz:Int
 Abf:Int
 AaR:Int
 deriving DecidableEq
def F1(x:Cx):TV:=.agg [eS x.kq,eI x.hV,eI x.To,eI x.AaT,eI x.Aaz,eI x.Abf,eI x.AaR]
structure AC where
 dl:List Cj
 d3:List Cx
 deriving DecidableEq
def AK(x:AC):TV:=.agg [(eL 4 FB) x.dl,(eL 7 F1) x.d3]
structure Ao where
 t:AC
 p:dr
 g:dr
 ff:d4
 en:Bool
 pf:Int
 wB:List d4
 deriving DecidableEq
def Ui(x:Ao):TV:=.agg [(eL 4 FB) x.t.dl,(eL 7 F1) x.t.d3,(eL 1 eI) x.p.dl,(eL 3 BQ) x.p.d3,(eL 1 eI) x.g.dl,(eL 3 BQ) x.g.d3,(eL 1 eI) x.ff.dl,(eL 1 eI) x.ff.d3,eB x.en,eI x.pf,(eL 2 Ap) x.wB]
def CD(x:Ao):List AS:=[⟨T,(eL 4 FB) x.t.dl⟩,⟨T,(eL 7 F1) x.t.d3⟩,⟨T,(eL 1 eI) x.p.dl⟩,⟨T,(eL 3 BQ) x.p.d3⟩,⟨T,(eL 1 eI) x.g.dl⟩,⟨T,(eL 3 BQ) x.g.d3⟩,⟨T,(eL 1 eI) x.ff.dl⟩,⟨T,(eL 1 eI) x.ff.d3⟩,⟨T,eB x.en⟩,⟨T,eI x.pf⟩,⟨X,(eL 2 Ap) x.wB⟩]
structure Py where
 dl:Option Fp
 d3:Option Fp
 deriving DecidableEq
def tW(x:Py):TV:=.agg [(eO 1 eI) x.dl,(eO 1 eI) x.d3]
def Py.of(m:d4):Py:=⟨some m.dl,some m.d3⟩
instance:Coe d4 Py:=⟨Py.of⟩
structure AM where
 p:dr
 g:dr
 is:List a5
 ff:Py
 en:Bool
 pf:Int
 ea:Fp
 eh:Fp
 out:List d4
 deriving DecidableEq
def TD(x:AM):TV:=.agg [(eL 1 eI) x.p.dl,(eL 3 BQ) x.p.d3,(eL 1 eI) x.g.dl,(eL 3 BQ) x.g.d3,(eL 1 (eL 1 eB)) x.is,(eO 1 eI) x.ff.dl,(eO 1 eI) x.ff.d3,eB x.en,eI x.pf,(eL 1 eI) x.ea,(eL 1 eI) x.eh,(eL 2 Ap) x.out]
def DJ(x:AM):List AS:=[⟨T,(eL 1 eI) x.p.dl⟩,⟨T,(eL 3 BQ) x.p.d3⟩,⟨T,(eL 1 eI) x.g.dl⟩,⟨T,(eL 3 BQ) x.g.d3⟩,⟨T,(eL 1 (eL 1 eB)) x.is⟩,⟨T,(eO 1 eI) x.ff.dl⟩,⟨T,(eO 1 eI) x.ff.d3⟩,⟨T,eB x.en⟩,⟨T,eI x.pf⟩,⟨X,.xl 1 (List.map eI x.ea)⟩,⟨X,.xl 1 (List.map eI x.eh)⟩,⟨X,(eL 2 Ap) x.out⟩]
structure HE where
 jj:Int
 AbB:ByteArray
 Line:Int
 deriving DecidableEq
def Xz(x:HE):TV:=.agg [eI x.jj,eS x.AbB,eI x.Line]
structure C9 where
 l:dr
 g:dr
 fq:BC
 m:d4
 deriving DecidableEq
def JY(x:C9):TV:=.agg [(eL 1 eI) x.l.dl,(eL 3 BQ) x.l.d3,(eL 1 eI) x.g.dl,(eL 3 BQ) x.g.d3,(eL 1 eI) x.fq.dl,(eL 1 eI) x.fq.d3,(eL 1 eI) x.m.dl,(eL 1 eI) x.m.d3]
structure Jw where
 A:Int
 B:Int
 deriving DecidableEq
def SR(x:Jw):TV:=.agg [eI x.A,eI x.B]
structure Bh where
 t:AC
 h:AF
 en:Bool
 deriving DecidableEq
def Cr(x:Bh):TV:=.agg [(eL 4 FB) x.t.dl,(eL 7 F1) x.t.d3,(eL 1 eI) x.h.dr.dl,(eL 3 BQ) x.h.dr.d3,(eL 1 (eL 1 eI)) x.h.eb,eB x.en]
structure BF where
 Aah:Int
 j0:AP
 em:List BF
mutual
def jW:BF->TV
 |⟨y0,y1,y2⟩=>.agg [eI y0,(eL 1 eI) y1.d4.dl,(eL 1 eI) y1.d4.d3,(eL 1 eI) y1.ey,.list 5 (P3 y2)]
def P3:List BF->Fq
 |[]=>[]|c::cs=>jW c::P3 cs
end
def JG(l:List BF):TV:=.list 5 (P3 l)
def FK(x:BF):TV:=.agg [eI x.Aah,(eL 1 eI) x.j0.d4.dl,(eL 1 eI) x.j0.d4.d3,(eL 1 eI) x.j0.ey,JG x.em]
theorem lR(x:BF):jW x=FK x:=by
 cases x;rfl
theorem Tq:∀l:List BF,P3 l=l.map FK
 |[]=>rfl|x::l=>by rw[P3,lR,Tq l];rfl
theorem ig(l:List BF):JG l=.list 5 (l.map FK):=by rw[JG,Tq]
structure C0 where
 eg:Int
 j0:AP
 deriving DecidableEq
def GN(x:C0):TV:=.agg [eI x.eg,(eL 1 eI) x.j0.d4.dl,(eL 1 eI) x.j0.d4.d3,(eL 1 eI) x.j0.ey]
structure BX where
 gp:AF
 ib:List C0
 deriving DecidableEq
def QH(x:BX):TV:=.agg [(eL 1 eI) x.gp.dr.dl,(eL 3 BQ) x.gp.dr.d3,(eL 1 (eL 1 eI)) x.gp.eb,(eL 4 GN) x.ib]
structure Ax where
 d:BX
 Aav:AF
 fd:d4
 deriving DecidableEq
def CX(x:Ax):TV:=.agg [(eL 1 eI) x.d.gp.dr.dl,(eL 3 BQ) x.d.gp.dr.d3,(eL 1 (eL 1 eI)) x.d.gp.eb,(eL 4 GN) x.d.ib,(eL 1 eI) x.Aav.dr.dl,(eL 3 BQ) x.Aav.dr.d3,(eL 1 (eL 1 eI)) x.Aav.eb,(eL 1 eI) x.fd.dl,(eL 1 eI) x.fd.d3]
structure pr where
 fu:BX
 ec:BX
 Iso:d4
 deriving DecidableEq
def RJ(x:pr):TV:=.agg [(eL 1 eI) x.fu.gp.dr.dl,(eL 3 BQ) x.fu.gp.dr.d3,(eL 1 (eL 1 eI)) x.fu.gp.eb,(eL 4 GN) x.fu.ib,(eL 1 eI) x.ec.gp.dr.dl,(eL 3 BQ) x.ec.gp.dr.d3,(eL 1 (eL 1 eI)) x.ec.gp.eb,(eL 4 GN) x.ec.ib,(eL 1 eI) x.Iso.dl,(eL 1 eI) x.Iso.d3]
structure CO where
 gx:List C0
 kg:AF
 ll:d4
 deriving DecidableEq
def GO(x:CO):TV:=.agg [(eL 4 GN) x.gx,(eL 1 eI) x.kg.dr.dl,(eL 3 BQ) x.kg.dr.d3,(eL 1 (eL 1 eI)) x.kg.eb,(eL 1 eI) x.ll.dl,(eL 1 eI) x.ll.d3]
structure Kv where
 Aao:List eg
 A:AR
 B:AR
def EF(x:Kv):TV:=.agg [(eL 25 Bt) x.Aao,eS x.A.eg.kq,(eL 1 eI) x.A.eg.fu.dr.dl,(eL 3 BQ) x.A.eg.fu.dr.d3,(eL 4 Da) x.A.eg.fu.ek,eI x.A.eg.fu.ey,(eL 5 Dx) x.A.eg.fu.j4,(eL 1 eI) x.A.eg.ec.dr.dl,(eL 3 BQ) x.A.eg.ec.dr.d3,(eL 4 Da) x.A.eg.ec.ek,eI x.A.eg.ec.ey,(eL 5 Dx) x.A.eg.ec.j4,(eL 1 eI) x.A.eg.o4.dl,(eL 1 eI) x.A.eg.o4.d3,(eL 1 eI) x.A.eg.mo.dl,(eL 1 eI) x.A.eg.mo.d3,eB x.A.eg.ij,eI x.A.eg.d5.jj,Cz x.A.eg.d5.em,(eL 1 eI) x.A.eg.d5.Map.dl,(eL 1 eI) x.A.eg.d5.Map.d3,(eL 1 eI) x.A.eg.d5.d7.dr.dl,(eL 3 BQ) x.A.eg.d5.d7.dr.d3,(eL 4 Da) x.A.eg.d5.d7.ek,eI x.A.eg.d5.d7.ey,(eL 5 Dx) x.A.eg.d5.d7.j4,(eL 1 eI) x.A.j0.d4.dl,(eL 1 eI) x.A.j0.d4.d3,(eL 1 eI) x.A.j0.ey,(eL 1 eI) x.A.fl.dr.dl,(eL 3 BQ) x.A.fl.dr.d3,(eL 1 (eL 1 eI)) x.A.fl.eb,(eL 1 eI) x.A.ex.dr.dl,(eL 3 BQ) x.A.ex.dr.d3,(eL 1 (eL 1 eI)) x.A.ex.eb,(eL 1 eI) x.A.kp.dl,(eL 1 eI) x.A.kp.d3,(eL 1 eI) x.A.pq.dl,(eL 1 eI) x.A.pq.d3,eS x.B.eg.kq,(eL 1 eI) x.B.eg.fu.dr.dl,(eL 3 BQ) x.B.eg.fu.dr.d3,(eL 4 Da) x.B.eg.fu.ek,eI x.B.eg.fu.ey,(eL 5 Dx) x.B.eg.fu.j4,(eL 1 eI) x.B.eg.ec.dr.dl,(eL 3 BQ) x.B.eg.ec.dr.d3,(eL 4 Da) x.B.eg.ec.ek,eI x.B.eg.ec.ey,(eL 5 Dx) x.B.eg.ec.j4,(eL 1 eI) x.B.eg.o4.dl,(eL 1 eI) x.B.eg.o4.d3,(eL 1 eI) x.B.eg.mo.dl,(eL 1 eI) x.B.eg.mo.d3,eB x.B.eg.ij,eI x.B.eg.d5.jj,Cz x.B.eg.d5.em,(eL 1 eI) x.B.eg.d5.Map.dl,(eL 1 eI) x.B.eg.d5.Map.d3,(eL 1 eI) x.B.eg.d5.d7.dr.dl,(eL 3 BQ) x.B.eg.d5.d7.dr.d3,(eL 4 Da) x.B.eg.d5.d7.ek,eI x.B.eg.d5.d7.ey,(eL 5 Dx) x.B.eg.d5.d7.j4,(eL 1 eI) x.B.j0.d4.dl,(eL 1 eI) x.B.j0.d4.d3,(eL 1 eI) x.B.j0.ey,(eL 1 eI) x.B.fl.dr.dl,(eL 3 BQ) x.B.fl.dr.d3,(eL 1 (eL 1 eI)) x.B.fl.eb,(eL 1 eI) x.B.ex.dr.dl,(eL 3 BQ) x.B.ex.dr.d3,(eL 1 (eL 1 eI)) x.B.ex.eb,(eL 1 eI) x.B.kp.dl,(eL 1 eI) x.B.kp.d3,(eL 1 eI) x.B.pq.dl,(eL 1 eI) x.B.pq.d3]
abbrev lI:Fp->TV:=eL 1 eI
abbrev lE:List CC->TV:=eL 3 BQ
abbrev lS:List Cu->TV:=eL 4 Da
abbrev lT:List Test->TV:=eL 5 Dx
abbrev lN:List Cj->TV:=eL 4 FB
abbrev lX:List Cx->TV:=eL 7 F1
abbrev lA:List ke->TV:=eL 4 HF
abbrev lB:List ByteArray->TV:=eL 1 eS
theorem qK(a b:CC):CH (TV.cells (BQ a)) (TV.cells (BQ b))=some (decide (a=b)):=by
 rcases a with⟨a0,a1,a2⟩;rcases b with⟨b0,b1,b2⟩;simp[BQ,TV.cells,CH,eI,Bool.and_assoc,CC.mk.injEq]
theorem qL(a b:Cu):CH (TV.cells (Da a)) (TV.cells (Da b))=some (decide (a=b)):=by
 rcases a with⟨a0,a1,⟨a20,a21⟩⟩;rcases b with⟨b0,b1,⟨b20,b21⟩⟩;simp[Da,TV.cells,CH,eI,Bool.and_assoc,Cu.mk.injEq,gl.mk.injEq]
theorem qM(a b:Test):CH (TV.cells (Dx a)) (TV.cells (Dx b))=some (decide (a=b)):=by
 rcases a with⟨a0,⟨a10,a11⟩,⟨a20,a21⟩⟩;rcases b with⟨b0,⟨b10,b11⟩,⟨b20,b21⟩⟩;simp[Dx,TV.cells,CH,eI,Bool.and_assoc,gl.mk.injEq,Test.mk.injEq]
end Go.Sf.Sc
