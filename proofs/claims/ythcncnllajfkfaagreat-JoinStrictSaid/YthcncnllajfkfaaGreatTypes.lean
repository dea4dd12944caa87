/- The types of the program as Lean types. -/
import Derived.Test.YthcncnllajfkfaaGreatSfK
import Derived.Test.YthcncnllajfkfaaGreatSfStep
import Derived.Test.YthcncnllajfkfaaGreatProg
set_option linter.all false
set_option maxRecDepth 100000
open Bool renaming true->X,false->T
namespace Go.Sf.Sc
open Go Go.Sf Go.Proofs.Tryz
def eI(n:Int):TV:=.int .i64 n
def X6(n:Int):TV:=.int .u8 n
def MM(n:Int):TV:=.int .u64 n
def AC9(n:Int):TV:=.int .i32 n
def ADB(n:Int):TV:=.int .u32 n
def eI8(n:Int):TV:=.int .i8 n
def AC8(n:Int):TV:=.int .i16 n
def ADA(n:Int):TV:=.int .u16 n
def eB(b:Bool):TV:=.bool b
def eS(s:ByteArray):TV:=.str s
def eL{α:Type}(n:Nat)(e:α->TV)(l:List α):TV:=.list n (l.map e)
theorem Tryz_follows:Go.Proofs.Tryz.prog.follows .mixedOrders=X:=b!
structure CN where
 ia:Int
 hV:Int
 To:Int
 deriving DecidableEq
def Ba(x:CN):TV:=.agg [eI x.ia,eI x.hV,eI x.To]
structure dr where
 dl:Fp
 d3:List CN
 deriving DecidableEq
def A8(x:dr):TV:=.agg [(eL 1 eI) x.dl,(eL 3 Ba) x.d3]
structure AF where
 dr:dr
 eb:List Fp
 deriving DecidableEq
def Bj(x:AF):TV:=.agg [(eL 1 eI) x.dr.dl,(eL 3 Ba) x.dr.d3,(eL 1 (eL 1 eI)) x.eb]
structure d4 where
 dl:Fp
 d3:Fp
 deriving DecidableEq
def Az(x:d4):TV:=.agg [(eL 1 eI) x.dl,(eL 1 eI) x.d3]
structure Bg where
 a:AF
 b:AF
 ea:Fp
 eg:Fp
 m:d4
 deriving DecidableEq
def lh(x:Bg):TV:=.agg [(eL 1 eI) x.a.dr.dl,(eL 3 Ba) x.a.dr.d3,(eL 1 (eL 1 eI)) x.a.eb,(eL 1 eI) x.b.dr.dl,(eL 3 Ba) x.b.dr.d3,(eL 1 (eL 1 eI)) x.b.eb,(eL 1 eI) x.ea,(eL 1 eI) x.eg,(eL 1 eI) x.m.dl,(eL 1 eI) x.m.d3]
def C1(x:Bg):List AS:=[⟨T,(eL 1 eI) x.a.dr.dl⟩,⟨T,(eL 3 Ba) x.a.dr.d3⟩,⟨T,(eL 1 (eL 1 eI)) x.a.eb⟩,⟨T,(eL 1 eI) x.b.dr.dl⟩,⟨T,(eL 3 Ba) x.b.dr.d3⟩,⟨T,(eL 1 (eL 1 eI)) x.b.eb⟩,⟨T,(eL 1 eI) x.ea⟩,⟨T,(eL 1 eI) x.eg⟩,⟨X,.xl 1 (List.map eI x.m.dl)⟩,⟨X,.xl 1 (List.map eI x.m.d3)⟩]
structure A5 where
 a:AF
 b:AF
 ea:Fp
 eg:Fp
 out:d4
 wA:Bool
 deriving DecidableEq
def uj(x:A5):TV:=.agg [(eL 1 eI) x.a.dr.dl,(eL 3 Ba) x.a.dr.d3,(eL 1 (eL 1 eI)) x.a.eb,(eL 1 eI) x.b.dr.dl,(eL 3 Ba) x.b.dr.d3,(eL 1 (eL 1 eI)) x.b.eb,(eL 1 eI) x.ea,(eL 1 eI) x.eg,(eL 1 eI) x.out.dl,(eL 1 eI) x.out.d3,eB x.wA]
def CE(x:A5):List AS:=[⟨T,(eL 1 eI) x.a.dr.dl⟩,⟨T,(eL 3 Ba) x.a.dr.d3⟩,⟨T,(eL 1 (eL 1 eI)) x.a.eb⟩,⟨T,(eL 1 eI) x.b.dr.dl⟩,⟨T,(eL 3 Ba) x.b.dr.d3⟩,⟨T,(eL 1 (eL 1 eI)) x.b.eb⟩,⟨T,(eL 1 eI) x.ea⟩,⟨T,(eL 1 eI) x.eg⟩,⟨T,(eL 1 eI) x.out.dl⟩,⟨T,(eL 1 eI) x.out.d3⟩,⟨T,eB x.wA⟩]
structure gl where
 Var:Int
 Add:Int
 deriving DecidableEq
def QT(x:gl):TV:=.agg [eI x.Var,eI x.Add]
structure C4 where
 o4:Int
 ke:Int
 gl:gl
 deriving DecidableEq
def Dk(x:C4):TV:=.agg [eI x.o4,eI x.ke,eI x.gl.Var,eI x.gl.Add]
structure Test where
 jj:Int
 fu:gl
 ec:gl
 deriving DecidableEq
def D7(x:Test):TV:=.agg [eI x.jj,eI x.fu.Var,eI x.fu.Add,eI x.ec.Var,eI x.ec.Add]
structure d7 where
 dr:dr
 ek:List C4
 ey:Int
 j4:List Test
 deriving DecidableEq
def BP(x:d7):TV:=.agg [(eL 1 eI) x.dr.dl,(eL 3 Ba) x.dr.d3,(eL 4 Dk) x.ek,eI x.ey,(eL 5 D7) x.j4]
structure BN where
 dl:Fp
 d3:Fp
 deriving DecidableEq
def FN(x:BN):TV:=.agg [(eL 1 eI) x.dl,(eL 1 eI) x.d3]
structure d5 where
 jj:Int
 em:List d5
 Map:d4
 d7:d7
mutual
def WZ:d5->TV
 |⟨y0,y1,y2,y3⟩=>.agg [eI y0,.list 9 (Kk y1),(eL 1 eI) y2.dl,(eL 1 eI) y2.d3,(eL 1 eI) y3.dr.dl,(eL 3 Ba) y3.dr.d3,(eL 4 Dk) y3.ek,eI y3.ey,(eL 5 D7) y3.j4]
def Kk:List d5->Fq
 |[]=>[]|c::cs=>WZ c::Kk cs
end
def C9(l:List d5):TV:=.list 9 (Kk l)
def AJ(x:d5):TV:=.agg [eI x.jj,C9 x.em,(eL 1 eI) x.Map.dl,(eL 1 eI) x.Map.d3,(eL 1 eI) x.d7.dr.dl,(eL 3 Ba) x.d7.dr.d3,(eL 4 Dk) x.d7.ek,eI x.d7.ey,(eL 5 D7) x.d7.j4]
theorem ZK(x:d5):WZ x=AJ x:=by
 cases x;rfl
theorem QC:∀l:List d5,Kk l=l.map AJ
 |[]=>rfl|x::l=>by rw[Kk,ZK,QC l];rfl
theorem MR(l:List d5):C9 l=.list 9 (l.map AJ):=by rw[C9,QC]
structure eh where
 kq:ByteArray
 fu:d7
 ec:d7
 o3:BN
 mo:d4
 ij:Bool
 d5:d5
def B3(x:eh):TV:=.agg [eS x.kq,(eL 1 eI) x.fu.dr.dl,(eL 3 Ba) x.fu.dr.d3,(eL 4 Dk) x.fu.ek,eI x.fu.ey,(eL 5 D7) x.fu.j4,(eL 1 eI) x.ec.dr.dl,(eL 3 Ba) x.ec.dr.d3,(eL 4 Dk) x.ec.ek,eI x.ec.ey,(eL 5 D7) x.ec.j4,(eL 1 eI) x.o3.dl,(eL 1 eI) x.o3.d3,(eL 1 eI) x.mo.dl,(eL 1 eI) x.mo.d3,eB x.ij,eI x.d5.jj,C9 x.d5.em,(eL 1 eI) x.d5.Map.dl,(eL 1 eI) x.d5.Map.d3,(eL 1 eI) x.d5.d7.dr.dl,(eL 3 Ba) x.d5.d7.dr.d3,(eL 4 Dk) x.d5.d7.ek,eI x.d5.d7.ey,(eL 5 D7) x.d5.d7.j4]
structure AP where
 d4:d4
 ey:Fp
 deriving DecidableEq
def Bn(x:AP):TV:=.agg [(eL 1 eI) x.d4.dl,(eL 1 eI) x.d4.d3,(eL 1 eI) x.ey]
structure AR where
 eh:eh
 j0:AP
 fl:AF
 ex:AF
 kl:d4
 pq:d4
def Br(x:AR):TV:=.agg [eS x.eh.kq,(eL 1 eI) x.eh.fu.dr.dl,(eL 3 Ba) x.eh.fu.dr.d3,(eL 4 Dk) x.eh.fu.ek,eI x.eh.fu.ey,(eL 5 D7) x.eh.fu.j4,(eL 1 eI) x.eh.ec.dr.dl,(eL 3 Ba) x.eh.ec.dr.d3,(eL 4 Dk) x.eh.ec.ek,eI x.eh.ec.ey,(eL 5 D7) x.eh.ec.j4,(eL 1 eI) x.eh.o3.dl,(eL 1 eI) x.eh.o3.d3,(eL 1 eI) x.eh.mo.dl,(eL 1 eI) x.eh.mo.d3,eB x.eh.ij,eI x.eh.d5.jj,C9 x.eh.d5.em,(eL 1 eI) x.eh.d5.Map.dl,(eL 1 eI) x.eh.d5.Map.d3,(eL 1 eI) x.eh.d5.d7.dr.dl,(eL 3 Ba) x.eh.d5.d7.dr.d3,(eL 4 Dk) x.eh.d5.d7.ek,eI x.eh.d5.d7.ey,(eL 5 D7) x.eh.d5.d7.j4,(eL 1 eI) x.j0.d4.dl,(eL 1 eI) x.j0.d4.d3,(eL 1 eI) x.j0.ey,(eL 1 eI) x.fl.dr.dl,(eL 3 Ba) x.fl.dr.d3,(eL 1 (eL 1 eI)) x.fl.eb,(eL 1 eI) x.ex.dr.dl,(eL 3 Ba) x.ex.dr.d3,(eL 1 (eL 1 eI)) x.ex.eb,(eL 1 eI) x.kl.dl,(eL 1 eI) x.kl.d3,(eL 1 eI) x.pq.dl,(eL 1 eI) x.pq.d3]
def ED(x:AR):List AS:=[⟨T,eS x.eh.kq⟩,⟨T,(eL 1 eI) x.eh.fu.dr.dl⟩,⟨T,(eL 3 Ba) x.eh.fu.dr.d3⟩,⟨T,(eL 4 Dk) x.eh.fu.ek⟩,⟨T,eI x.eh.fu.ey⟩,⟨T,(eL 5 D7) x.eh.fu.j4⟩,⟨T,(eL 1 eI) x.eh.ec.dr.dl⟩,⟨T,(eL 3 Ba) x.eh.ec.dr.d3⟩,⟨T,(eL 4 Dk) x.eh.ec.ek⟩,⟨T,eI x.eh.ec.ey⟩,⟨T,(eL 5 D7) x.eh.ec.j4⟩,⟨T,(eL 1 eI) x.eh.o3.dl⟩,⟨T,(eL 1 eI) x.eh.o3.d3⟩,⟨T,(eL 1 eI) x.eh.mo.dl⟩,⟨T,(eL 1 eI) x.eh.mo.d3⟩,⟨T,eB x.eh.ij⟩,⟨T,eI x.eh.d5.jj⟩,⟨T,C9 x.eh.d5.em⟩,⟨T,(eL 1 eI) x.eh.d5.Map.dl⟩,⟨T,(eL 1 eI) x.eh.d5.Map.d3⟩,⟨T,(eL 1 eI) x.eh.d5.d7.dr.dl⟩,⟨T,(eL 3 Ba) x.eh.d5.d7.dr.d3⟩,⟨T,(eL 4 Dk) x.eh.d5.d7.ek⟩,⟨T,eI x.eh.d5.d7.ey⟩,⟨T,(eL 5 D7) x.eh.d5.d7.j4⟩,⟨T,(eL 1 eI) x.j0.d4.dl⟩,⟨T,(eL 1 eI) x.j0.d4.d3⟩,⟨T,(eL 1 eI) x.j0.ey⟩,⟨T,(eL 1 eI) x.fl.dr.dl⟩,⟨T,(eL 3 Ba) x.fl.dr.d3⟩,⟨T,(eL 1 (eL 1 eI)) x.fl.eb⟩,⟨X,(eL 1 eI) x.ex.dr.dl⟩,⟨X,(eL 3 Ba) x.ex.dr.d3⟩,⟨X,.xn (List.map (eL 1 eI) x.ex.eb)⟩,⟨T,(eL 1 eI) x.kl.dl⟩,⟨T,(eL 1 eI) x.kl.d3⟩,⟨T,(eL 1 eI) x.pq.dl⟩,⟨T,(eL 1 eI) x.pq.d3⟩]
structure ke where
 kq:ByteArray
 Low:Int
 Aab:Int
 pc:List ByteArray
 deriving DecidableEq
def HT(x:ke):TV:=.agg [eS x.kq,eI x.Low,eI x.Aab,(eL 1 eS) x.pc]
structure Cv where
 kq:ByteArray
 t1:Int
 up:Bool
 po:List ke
 deriving DecidableEq
def FM(x:Cv):TV:=.agg [eS x.kq,eI x.t1,eB x.up,(eL 4 HT) x.po]
structure C7 where
 kq:ByteArray
 hV:Int
 To:Int
 AaQ:Int
 Aay:Int
 Abh:Int
 AaT:Int
 deriving DecidableEq
def GA(x:C7):TV:=.agg [eS x.kq,eI x.hV,eI x.To,eI x.AaQ,eI x.Aay,eI x.Abh,eI x.AaT]
structure AC where
 dl:List Cv
 d3:List C7
 deriving DecidableEq
def AK(x:AC):TV:=.agg [(eL 4 FM) x.dl,(eL 7 GA) x.d3]
structure Ay where
 t:AC
 p:dr
 g:dr
 ff:d4
 en:Bool
 pf:Int
 wA:List d4
 deriving DecidableEq
def Us(x:Ay):TV:=.agg [(eL 4 FM) x.t.dl,(eL 7 GA) x.t.d3,(eL 1 eI) x.p.dl,(eL 3 Ba) x.p.d3,(eL 1 eI) x.g.dl,(eL 3 Ba) x.g.d3,(eL 1 eI) x.ff.dl,(eL 1 eI) x.ff.d3,eB x.en,eI x.pf,(eL 2 Az) x.wA]
def CO(x:Ay):List AS:=[⟨T,(eL 4 FM) x.t.dl⟩,⟨T,(eL 7 GA) x.t.d3⟩,⟨T,(eL 1 eI) x.p.dl⟩,⟨T,(eL 3 Ba) x.p.d3⟩,⟨T,(eL 1 eI) x.g.dl⟩,⟨T,(eL 3 Ba) x.g.d3⟩,⟨T,(eL 1 eI) x.ff.dl⟩,⟨T,(eL 1 eI) x.ff.d3⟩,⟨T,eB x.en⟩,⟨T,eI x.pf⟩,⟨X,(eL 2 Az) x.wA⟩]
structure P8 where
 dl:Option Fp
 d3:Option Fp
 deriving DecidableEq
def tq(x:P8):TV:=.agg [(eO 1 eI) x.dl,(eO 1 eI) x.d3]
def P8.of(m:d4):P8:=⟨some m.dl,some m.d3⟩
instance:Coe d4 P8:=⟨P8.of⟩
structure AM where
 p:dr
 g:dr
 is:List a5
 ff:P8
 en:Bool
 pf:Int
 ea:Fp
 eg:Fp
 out:List d4
 deriving DecidableEq
def TN(x:AM):TV:=.agg [(eL 1 eI) x.p.dl,(eL 3 Ba) x.p.d3,(eL 1 eI) x.g.dl,(eL 3 Ba) x.g.d3,(eL 1 (eL 1 eB)) x.is,(eO 1 eI) x.ff.dl,(eO 1 eI) x.ff.d3,eB x.en,eI x.pf,(eL 1 eI) x.ea,(eL 1 eI) x.eg,(eL 2 Az) x.out]
def DU(x:AM):List AS:=[⟨T,(eL 1 eI) x.p.dl⟩,⟨T,(eL 3 Ba) x.p.d3⟩,⟨T,(eL 1 eI) x.g.dl⟩,⟨T,(eL 3 Ba) x.g.d3⟩,⟨T,(eL 1 (eL 1 eB)) x.is⟩,⟨T,(eO 1 eI) x.ff.dl⟩,⟨T,(eO 1 eI) x.ff.d3⟩,⟨T,eB x.en⟩,⟨T,eI x.pf⟩,⟨X,.xl 1 (List.map eI x.ea)⟩,⟨X,.xl 1 (List.map eI x.eg)⟩,⟨X,(eL 2 Az) x.out⟩]
structure HQ where
 jj:Int
 AbB:ByteArray
 Line:Int
 deriving DecidableEq
def X5(x:HQ):TV:=.agg [eI x.jj,eS x.AbB,eI x.Line]
structure DJ where
 l:dr
 g:dr
 fq:BN
 m:d4
 deriving DecidableEq
def Ji(x:DJ):TV:=.agg [(eL 1 eI) x.l.dl,(eL 3 Ba) x.l.d3,(eL 1 eI) x.g.dl,(eL 3 Ba) x.g.d3,(eL 1 eI) x.fq.dl,(eL 1 eI) x.fq.d3,(eL 1 eI) x.m.dl,(eL 1 eI) x.m.d3]
structure J6 where
 A:Int
 B:Int
 deriving DecidableEq
def Sb(x:J6):TV:=.agg [eI x.A,eI x.B]
structure Bs where
 t:AC
 h:AF
 en:Bool
 deriving DecidableEq
def C2(x:Bs):TV:=.agg [(eL 4 FM) x.t.dl,(eL 7 GA) x.t.d3,(eL 1 eI) x.h.dr.dl,(eL 3 Ba) x.h.dr.d3,(eL 1 (eL 1 eI)) x.h.eb,eB x.en]
structure BQ where
 Aag:Int
 j0:AP
 em:List BQ
mutual
def jh:BQ->TV
 |⟨y0,y1,y2⟩=>.agg [eI y0,(eL 1 eI) y1.d4.dl,(eL 1 eI) y1.d4.d3,(eL 1 eI) y1.ey,.list 5 (QD y2)]
def QD:List BQ->Fq
 |[]=>[]|c::cs=>jh c::QD cs
end
def JQ(l:List BQ):TV:=.list 5 (QD l)
def FV(x:BQ):TV:=.agg [eI x.Aag,(eL 1 eI) x.j0.d4.dl,(eL 1 eI) x.j0.d4.d3,(eL 1 eI) x.j0.ey,JQ x.em]
theorem lg(x:BQ):jh x=FV x:=by
 cases x;rfl
theorem T1:∀l:List BQ,QD l=l.map FV
 |[]=>rfl|x::l=>by rw[QD,lg,T1 l];rfl
theorem iu(l:List BQ):JQ l=.list 5 (l.map FV):=by rw[JQ,T1]
structure DA where
 eh:Int
 j0:AP
 deriving DecidableEq
def GY(x:DA):TV:=.agg [eI x.eh,(eL 1 eI) x.j0.d4.dl,(eL 1 eI) x.j0.d4.d3,(eL 1 eI) x.j0.ey]
structure Bi where
 gp:AF
 ib:List DA
 deriving DecidableEq
def QS(x:Bi):TV:=.agg [(eL 1 eI) x.gp.dr.dl,(eL 3 Ba) x.gp.dr.d3,(eL 1 (eL 1 eI)) x.gp.eb,(eL 4 GY) x.ib]
structure A7 where
 d:Bi
 Aav:AF
 fd:d4
 deriving DecidableEq
def Ch(x:A7):TV:=.agg [(eL 1 eI) x.d.gp.dr.dl,(eL 3 Ba) x.d.gp.dr.d3,(eL 1 (eL 1 eI)) x.d.gp.eb,(eL 4 GY) x.d.ib,(eL 1 eI) x.Aav.dr.dl,(eL 3 Ba) x.Aav.dr.d3,(eL 1 (eL 1 eI)) x.Aav.eb,(eL 1 eI) x.fd.dl,(eL 1 eI) x.fd.d3]
structure pr where
 fu:Bi
 ec:Bi
 Iso:d4
 deriving DecidableEq
def RT(x:pr):TV:=.agg [(eL 1 eI) x.fu.gp.dr.dl,(eL 3 Ba) x.fu.gp.dr.d3,(eL 1 (eL 1 eI)) x.fu.gp.eb,(eL 4 GY) x.fu.ib,(eL 1 eI) x.ec.gp.dr.dl,(eL 3 Ba) x.ec.gp.dr.d3,(eL 1 (eL 1 eI)) x.ec.gp.eb,(eL 4 GY) x.ec.ib,(eL 1 eI) x.Iso.dl,(eL 1 eI) x.Iso.d3]
structure Ca where
 gx:List DA
 kp:AF
 ll:d4
 deriving DecidableEq
def GZ(x:Ca):TV:=.agg [(eL 4 GY) x.gx,(eL 1 eI) x.kp.dr.dl,(eL 3 Ba) x.kp.dr.d3,(eL 1 (eL 1 eI)) x.kp.eb,(eL 1 eI) x.ll.dl,(eL 1 eI) x.ll.d3]
structure K7 where
 Aao:List eh
 A:AR
 B:AR
def EP(x:K7):TV:=.agg [(eL 25 B3) x.Aao,eS x.A.eh.kq,(eL 1 eI) x.A.eh.fu.dr.dl,(eL 3 Ba) x.A.eh.fu.dr.d3,(eL 4 Dk) x.A.eh.fu.ek,eI x.A.eh.fu.ey,(eL 5 D7) x.A.eh.fu.j4,(eL 1 eI) x.A.eh.ec.dr.dl,(eL 3 Ba) x.A.eh.ec.dr.d3,(eL 4 Dk) x.A.eh.ec.ek,eI x.A.eh.ec.ey,(eL 5 D7) x.A.eh.ec.j4,(eL 1 eI) x.A.eh.o3.dl,(eL 1 eI) x.A.eh.o3.d3,(eL 1 eI) x.A.eh.mo.dl,(eL 1 eI) x.A.eh.mo.d3,eB x.A.eh.ij,eI x.A.eh.d5.jj,C9 x.A.eh.d5.em,(eL 1 eI) x.A.eh.d5.Map.dl,(eL 1 eI) x.A.eh.d5.Map.d3,(eL 1 eI) x.A.eh.d5.d7.dr.dl,(eL 3 Ba) x.A.eh.d5.d7.dr.d3,(eL 4 Dk) x.A.eh.d5.d7.ek,eI x.A.eh.d5.d7.ey,(eL 5 D7) x.A.eh.d5.d7.j4,(eL 1 eI) x.A.j0.d4.dl,(eL 1 eI) x.A.j0.d4.d3,(eL 1 eI) x.A.j0.ey,(eL 1 eI) x.A.fl.dr.dl,(eL 3 Ba) x.A.fl.dr.d3,(eL 1 (eL 1 eI)) x.A.fl.eb,(eL 1 eI) x.A.ex.dr.dl,(eL 3 Ba) x.A.ex.dr.d3,(eL 1 (eL 1 eI)) x.A.ex.eb,(eL 1 eI) x.A.kl.dl,(eL 1 eI) x.A.kl.d3,(eL 1 eI) x.A.pq.dl,(eL 1 eI) x.A.pq.d3,eS x.B.eh.kq,(eL 1 eI) x.B.eh.fu.dr.dl,(eL 3 Ba) x.B.eh.fu.dr.d3,(eL 4 Dk) x.B.eh.fu.ek,eI x.B.eh.fu.ey,(eL 5 D7) x.B.eh.fu.j4,(eL 1 eI) x.B.eh.ec.dr.dl,(eL 3 Ba) x.B.eh.ec.dr.d3,(eL 4 Dk) x.B.eh.ec.ek,eI x.B.eh.ec.ey,(eL 5 D7) x.B.eh.ec.j4,(eL 1 eI) x.B.eh.o3.dl,(eL 1 eI) x.B.eh.o3.d3,(eL 1 eI) x.B.eh.mo.dl,(eL 1 eI) x.B.eh.mo.d3,eB x.B.eh.ij,eI x.B.eh.d5.jj,C9 x.B.eh.d5.em,(eL 1 eI) x.B.eh.d5.Map.dl,(eL 1 eI) x.B.eh.d5.Map.d3,(eL 1 eI) x.B.eh.d5.d7.dr.dl,(eL 3 Ba) x.B.eh.d5.d7.dr.d3,(eL 4 Dk) x.B.eh.d5.d7.ek,eI x.B.eh.d5.d7.ey,(eL 5 D7) x.B.eh.d5.d7.j4,(eL 1 eI) x.B.j0.d4.dl,(eL 1 eI) x.B.j0.d4.d3,(eL 1 eI) x.B.j0.ey,(eL 1 eI) x.B.fl.dr.dl,(eL 3 Ba) x.B.fl.dr.d3,(eL 1 (eL 1 eI)) x.B.fl.eb,(eL 1 eI) x.B.ex.dr.dl,(eL 3 Ba) x.B.ex.dr.d3,(eL 1 (eL 1 eI)) x.B.ex.eb,(eL 1 eI) x.B.kl.dl,(eL 1 eI) x.B.kl.d3,(eL 1 eI) x.B.pq.dl,(eL 1 eI) x.B.pq.d3]
abbrev lI:Fp->TV:=eL 1 eI
abbrev lE:List CN->TV:=eL 3 Ba
abbrev lS:List C4->TV:=eL 4 Dk
abbrev lT:List Test->TV:=eL 5 D7
abbrev lN:List Cv->TV:=eL 4 FM
abbrev lX:List C7->TV:=eL 7 GA
abbrev lA:List ke->TV:=eL 4 HT
abbrev lB:List ByteArray->TV:=eL 1 eS
theorem qU(a b:CN):CS (TV.cells (Ba a)) (TV.cells (Ba b))=some (decide (a=b)):=by
 rcases a with⟨a0,a1,a2⟩;rcases b with⟨b0,b1,b2⟩;simp[Ba,TV.cells,CS,eI,Bool.and_assoc,CN.mk.injEq]
theorem qV(a b:C4):CS (TV.cells (Dk a)) (TV.cells (Dk b))=some (decide (a=b)):=by
 rcases a with⟨a0,a1,⟨a20,a21⟩⟩;rcases b with⟨b0,b1,⟨b20,b21⟩⟩;simp[Dk,TV.cells,CS,eI,Bool.and_assoc,C4.mk.injEq,gl.mk.injEq]
theorem qW(a b:Test):CS (TV.cells (D7 a)) (TV.cells (D7 b))=some (decide (a=b)):=by
 rcases a with⟨a0,⟨a10,a11⟩,⟨a20,a21⟩⟩;rcases b with⟨b0,⟨b10,b11⟩,⟨b20,b21⟩⟩;simp[D7,TV.cells,CS,eI,Bool.and_assoc,gl.mk.injEq,Test.mk.injEq]
end Go.Sf.Sc
