/- The types of the program as Lean types. -/
import Derived.Test.YtjgaphkmbjbdkaaGreatSfK
import Derived.Test.YtjgaphkmbjbdkaaGreatSfStep
import Derived.Test.YtjgaphkmbjbdkaaGreatProg
set_option linter.all false
set_option maxRecDepth 100000
namespace Go.Sf.Sc
open Go Go.Sf Go.Proofs.Tryz
def eI(n:Int):TV:=.int .i64 n
def Vj(n:Int):TV:=.int .u8 n
def K0(n:Int):TV:=.int .u64 n
def ACg(n:Int):TV:=.int .i32 n
def ACi(n:Int):TV:=.int .u32 n
def eI8(n:Int):TV:=.int .i8 n
def ACf(n:Int):TV:=.int .i16 n
def ACh(n:Int):TV:=.int .u16 n
def eB(b:Bool):TV:=.bool b
def eS(s:ByteArray):TV:=.str s
def eL{α:Type}(n:Nat)(e:α->TV)(l:List α):TV:=.list n (l.map e)
theorem Tryz_follows:Go.Proofs.Tryz.prog.follows .mixedOrders=true:=by decide +kernel
structure Bk where
 jj:Int
 ib:Int
 To:Int
 deriving DecidableEq
def BP(x:Bk):TV:=.agg [eI x.jj,eI x.ib,eI x.To]
structure d5 where
 d3:Fp
 d4:List Bk
 deriving DecidableEq
def Ar(x:d5):TV:=.agg [(eL 1 eI) x.d3,(eL 3 BP) x.d4]
structure AF where
 d5:d5
 ed:List Fp
 deriving DecidableEq
def BO(x:AF):TV:=.agg [(eL 1 eI) x.d5.d3,(eL 3 BP) x.d5.d4,(eL 1 (eL 1 eI)) x.ed]
structure d6 where
 d3:Fp
 d4:Fp
 deriving DecidableEq
def Ao(x:d6):TV:=.agg [(eL 1 eI) x.d3,(eL 1 eI) x.d4]
structure BZ where
 a:AF
 b:AF
 ec:Fp
 ei:Fp
 m:d6
 deriving DecidableEq
def ef(x:BZ):TV:=.agg [(eL 1 eI) x.a.d5.d3,(eL 3 BP) x.a.d5.d4,(eL 1 (eL 1 eI)) x.a.ed,(eL 1 eI) x.b.d5.d3,(eL 3 BP) x.b.d5.d4,(eL 1 (eL 1 eI)) x.b.ed,(eL 1 eI) x.ec,(eL 1 eI) x.ei,(eL 1 eI) x.m.d3,(eL 1 eI) x.m.d4]
def Ci(x:BZ):List AS:=[⟨false,(eL 1 eI) x.a.d5.d3⟩,⟨false,(eL 3 BP) x.a.d5.d4⟩,⟨false,(eL 1 (eL 1 eI)) x.a.ed⟩,⟨false,(eL 1 eI) x.b.d5.d3⟩,⟨false,(eL 3 BP) x.b.d5.d4⟩,⟨false,(eL 1 (eL 1 eI)) x.b.ed⟩,⟨false,(eL 1 eI) x.ec⟩,⟨false,(eL 1 eI) x.ei⟩,⟨true,.xl 1 (List.map eI x.m.d3)⟩,⟨true,.xl 1 (List.map eI x.m.d4)⟩]
structure gn where
 Var:Int
 Add:Int
 deriving DecidableEq
def Py(x:gn):TV:=.agg [eI x.Var,eI x.Add]
structure CP where
 po:Int
 kg:Int
 gn:gn
 deriving DecidableEq
def Da(x:CP):TV:=.agg [eI x.po,eI x.kg,eI x.gn.Var,eI x.gn.Add]
structure Test where
 j0:Int
 gt:gn
 ee:gn
 deriving DecidableEq
def Dv(x:Test):TV:=.agg [eI x.j0,eI x.gt.Var,eI x.gt.Add,eI x.ee.Var,eI x.ee.Add]
structure ea where
 d5:d5
 em:List CP
 fa:Int
 kq:List Test
 deriving DecidableEq
def A9(x:ea):TV:=.agg [(eL 1 eI) x.d5.d3,(eL 3 BP) x.d5.d4,(eL 4 Da) x.em,eI x.fa,(eL 5 Dv) x.kq]
structure At where
 d3:Fp
 d4:Fp
 deriving DecidableEq
def Ej(x:At):TV:=.agg [(eL 1 eI) x.d3,(eL 1 eI) x.d4]
structure d7 where
 j0:Int
 en:List d7
 Map:d6
 ea:ea
mutual
def UX:d7->TV
 |⟨y0,y1,y2,y3⟩=>.agg [eI y0,.list 9 (JS y1),(eL 1 eI) y2.d3,(eL 1 eI) y2.d4,(eL 1 eI) y3.d5.d3,(eL 3 BP) y3.d5.d4,(eL 4 Da) y3.em,eI y3.fa,(eL 5 Dv) y3.kq]
def JS:List d7->Fq
 |[]=>[]|c::cs=>UX c::JS cs
end
def DB(l:List d7):TV:=.list 9 (JS l)
def AH(x:d7):TV:=.agg [eI x.j0,DB x.en,(eL 1 eI) x.Map.d3,(eL 1 eI) x.Map.d4,(eL 1 eI) x.ea.d5.d3,(eL 3 BP) x.ea.d5.d4,(eL 4 Da) x.ea.em,eI x.ea.fa,(eL 5 Dv) x.ea.kq]
theorem Wm(x:d7):UX x=AH x:=by
 cases x;rfl
theorem OZ:∀l:List d7,JS l=l.map AH
 |[]=>rfl|x::l=>by rw[JS,Wm,OZ l];rfl
theorem Nu(l:List d7):DB l=.list 9 (l.map AH):=by rw[DB,OZ]
structure eg where
 ls:ByteArray
 gt:ea
 ee:ea
 pq:At
 o3:d6
 j4:Bool
 d7:d7
def Bz(x:eg):TV:=.agg [eS x.ls,(eL 1 eI) x.gt.d5.d3,(eL 3 BP) x.gt.d5.d4,(eL 4 Da) x.gt.em,eI x.gt.fa,(eL 5 Dv) x.gt.kq,(eL 1 eI) x.ee.d5.d3,(eL 3 BP) x.ee.d5.d4,(eL 4 Da) x.ee.em,eI x.ee.fa,(eL 5 Dv) x.ee.kq,(eL 1 eI) x.pq.d3,(eL 1 eI) x.pq.d4,(eL 1 eI) x.o3.d3,(eL 1 eI) x.o3.d4,eB x.j4,eI x.d7.j0,DB x.d7.en,(eL 1 eI) x.d7.Map.d3,(eL 1 eI) x.d7.Map.d4,(eL 1 eI) x.d7.ea.d5.d3,(eL 3 BP) x.d7.ea.d5.d4,(eL 4 Da) x.d7.ea.em,eI x.d7.ea.fa,(eL 5 Dv) x.d7.ea.kq]
structure AL where
 d6:d6
 fa:Fp
 deriving DecidableEq
def BT(x:AL):TV:=.agg [(eL 1 eI) x.d6.d3,(eL 1 eI) x.d6.d4,(eL 1 eI) x.fa]
structure AP where
 eg:eg
 kp:AL
 gp:AF
 ia:AF
 mo:d6
 rr:d6
def Bv(x:AP):TV:=.agg [eS x.eg.ls,(eL 1 eI) x.eg.gt.d5.d3,(eL 3 BP) x.eg.gt.d5.d4,(eL 4 Da) x.eg.gt.em,eI x.eg.gt.fa,(eL 5 Dv) x.eg.gt.kq,(eL 1 eI) x.eg.ee.d5.d3,(eL 3 BP) x.eg.ee.d5.d4,(eL 4 Da) x.eg.ee.em,eI x.eg.ee.fa,(eL 5 Dv) x.eg.ee.kq,(eL 1 eI) x.eg.pq.d3,(eL 1 eI) x.eg.pq.d4,(eL 1 eI) x.eg.o3.d3,(eL 1 eI) x.eg.o3.d4,eB x.eg.j4,eI x.eg.d7.j0,DB x.eg.d7.en,(eL 1 eI) x.eg.d7.Map.d3,(eL 1 eI) x.eg.d7.Map.d4,(eL 1 eI) x.eg.d7.ea.d5.d3,(eL 3 BP) x.eg.d7.ea.d5.d4,(eL 4 Da) x.eg.d7.ea.em,eI x.eg.d7.ea.fa,(eL 5 Dv) x.eg.d7.ea.kq,(eL 1 eI) x.kp.d6.d3,(eL 1 eI) x.kp.d6.d4,(eL 1 eI) x.kp.fa,(eL 1 eI) x.gp.d5.d3,(eL 3 BP) x.gp.d5.d4,(eL 1 (eL 1 eI)) x.gp.ed,(eL 1 eI) x.ia.d5.d3,(eL 3 BP) x.ia.d5.d4,(eL 1 (eL 1 eI)) x.ia.ed,(eL 1 eI) x.mo.d3,(eL 1 eI) x.mo.d4,(eL 1 eI) x.rr.d3,(eL 1 eI) x.rr.d4]
def Di(x:AP):List AS:=[⟨false,eS x.eg.ls⟩,⟨false,(eL 1 eI) x.eg.gt.d5.d3⟩,⟨false,(eL 3 BP) x.eg.gt.d5.d4⟩,⟨false,(eL 4 Da) x.eg.gt.em⟩,⟨false,eI x.eg.gt.fa⟩,⟨false,(eL 5 Dv) x.eg.gt.kq⟩,⟨false,(eL 1 eI) x.eg.ee.d5.d3⟩,⟨false,(eL 3 BP) x.eg.ee.d5.d4⟩,⟨false,(eL 4 Da) x.eg.ee.em⟩,⟨false,eI x.eg.ee.fa⟩,⟨false,(eL 5 Dv) x.eg.ee.kq⟩,⟨false,(eL 1 eI) x.eg.pq.d3⟩,⟨false,(eL 1 eI) x.eg.pq.d4⟩,⟨false,(eL 1 eI) x.eg.o3.d3⟩,⟨false,(eL 1 eI) x.eg.o3.d4⟩,⟨false,eB x.eg.j4⟩,⟨false,eI x.eg.d7.j0⟩,⟨false,DB x.eg.d7.en⟩,⟨false,(eL 1 eI) x.eg.d7.Map.d3⟩,⟨false,(eL 1 eI) x.eg.d7.Map.d4⟩,⟨false,(eL 1 eI) x.eg.d7.ea.d5.d3⟩,⟨false,(eL 3 BP) x.eg.d7.ea.d5.d4⟩,⟨false,(eL 4 Da) x.eg.d7.ea.em⟩,⟨false,eI x.eg.d7.ea.fa⟩,⟨false,(eL 5 Dv) x.eg.d7.ea.kq⟩,⟨false,(eL 1 eI) x.kp.d6.d3⟩,⟨false,(eL 1 eI) x.kp.d6.d4⟩,⟨false,(eL 1 eI) x.kp.fa⟩,⟨false,(eL 1 eI) x.gp.d5.d3⟩,⟨false,(eL 3 BP) x.gp.d5.d4⟩,⟨false,(eL 1 (eL 1 eI)) x.gp.ed⟩,⟨true,(eL 1 eI) x.ia.d5.d3⟩,⟨true,(eL 3 BP) x.ia.d5.d4⟩,⟨true,.xn (List.map (eL 1 eI) x.ia.ed)⟩,⟨false,(eL 1 eI) x.mo.d3⟩,⟨false,(eL 1 eI) x.mo.d4⟩,⟨false,(eL 1 eI) x.rr.d3⟩,⟨false,(eL 1 eI) x.rr.d4⟩]
structure kg where
 ls:ByteArray
 Low:Int
 z5:Int
 qo:List ByteArray
 deriving DecidableEq
def HL(x:kg):TV:=.agg [eS x.ls,eI x.Low,eI x.z5,(eL 1 eS) x.qo]
structure CN where
 ls:ByteArray
 tl:Int
 wa:Bool
 q0:List kg
 deriving DecidableEq
def Fc(x:CN):TV:=.agg [eS x.ls,eI x.tl,eB x.wa,(eL 4 HL) x.q0]
structure Cb where
 ls:ByteArray
 ib:Int
 To:Int
 AaQ:Int
 Aav:Int
 Abi:Int
 AaO:Int
 deriving DecidableEq
def GR(x:Cb):TV:=.agg [eS x.ls,eI x.ib,eI x.To,eI x.AaQ,eI x.Aav,eI x.Abi,eI x.AaO]
structure AC where
 d3:List CN
 d4:List Cb
 deriving DecidableEq
def AM(x:AC):TV:=.agg [(eL 4 Fc) x.d3,(eL 7 GR) x.d4]
structure AX where
 t:AC
 p:d5
 g:d5
 fq:d6
 fb:Bool
 pr:Int
 Aae:List d6
 deriving DecidableEq
def S3(x:AX):TV:=.agg [(eL 4 Fc) x.t.d3,(eL 7 GR) x.t.d4,(eL 1 eI) x.p.d3,(eL 3 BP) x.p.d4,(eL 1 eI) x.g.d3,(eL 3 BP) x.g.d4,(eL 1 eI) x.fq.d3,(eL 1 eI) x.fq.d4,eB x.fb,eI x.pr,(eL 2 Ao) x.Aae]
def B0(x:AX):List AS:=[⟨false,(eL 4 Fc) x.t.d3⟩,⟨false,(eL 7 GR) x.t.d4⟩,⟨false,(eL 1 eI) x.p.d3⟩,⟨false,(eL 3 BP) x.p.d4⟩,⟨false,(eL 1 eI) x.g.d3⟩,⟨false,(eL 3 BP) x.g.d4⟩,⟨false,(eL 1 eI) x.fq.d3⟩,⟨false,(eL 1 eI) x.fq.d4⟩,⟨false,eB x.fb⟩,⟨false,eI x.pr⟩,⟨true,(eL 2 Ao) x.Aae⟩]
structure QV where
 d3:Option Fp
 d4:Option Fp
 deriving DecidableEq
def nD(x:QV):TV:=.agg [(eO 1 eI) x.d3,(eO 1 eI) x.d4]
def QV.of(m:d6):QV:=⟨some m.d3,some m.d4⟩
instance:Coe d6 QV:=⟨QV.of⟩
structure AK where
 p:d5
 g:d5
 is:List a5
 fq:QV
 fb:Bool
 pr:Int
 ec:Fp
 ei:Fp
 out:List d6
 deriving DecidableEq
def Rj(x:AK):TV:=.agg [(eL 1 eI) x.p.d3,(eL 3 BP) x.p.d4,(eL 1 eI) x.g.d3,(eL 3 BP) x.g.d4,(eL 1 (eL 1 eB)) x.is,(eO 1 eI) x.fq.d3,(eO 1 eI) x.fq.d4,eB x.fb,eI x.pr,(eL 1 eI) x.ec,(eL 1 eI) x.ei,(eL 2 Ao) x.out]
def C5(x:AK):List AS:=[⟨false,(eL 1 eI) x.p.d3⟩,⟨false,(eL 3 BP) x.p.d4⟩,⟨false,(eL 1 eI) x.g.d3⟩,⟨false,(eL 3 BP) x.g.d4⟩,⟨false,(eL 1 (eL 1 eB)) x.is⟩,⟨false,(eO 1 eI) x.fq.d3⟩,⟨false,(eO 1 eI) x.fq.d4⟩,⟨false,eB x.fb⟩,⟨false,eI x.pr⟩,⟨true,.xl 1 (List.map eI x.ec)⟩,⟨true,.xl 1 (List.map eI x.ei)⟩,⟨true,(eL 2 Ao) x.out⟩]
structure FB where
 j0:Int
 AbB:ByteArray
 Line:Int
 deriving DecidableEq
def Vi(x:FB):TV:=.agg [eI x.j0,eS x.AbB,eI x.Line]
structure B5 where
 l:d5
 g:d5
 ff:At
 m:d6
 deriving DecidableEq
def IX(x:B5):TV:=.agg [(eL 1 eI) x.l.d3,(eL 3 BP) x.l.d4,(eL 1 eI) x.g.d3,(eL 3 BP) x.g.d4,(eL 1 eI) x.ff.d3,(eL 1 eI) x.ff.d4,(eL 1 eI) x.m.d3,(eL 1 eI) x.m.d4]
structure Gp where
 A:Int
 B:Int
 deriving DecidableEq
def Q6(x:Gp):TV:=.agg [eI x.A,eI x.B]
structure BD where
 t:AC
 h:AF
 fb:Bool
 deriving DecidableEq
def Ck(x:BD):TV:=.agg [(eL 4 Fc) x.t.d3,(eL 7 GR) x.t.d4,(eL 1 eI) x.h.d5.d3,(eL 3 BP) x.h.d5.d4,(eL 1 (eL 1 eI)) x.h.ed,eB x.fb]
structure BA where
 Aag:Int
 kp:AL
 en:List BA
mutual
def cf:BA->TV
 |⟨y0,y1,y2⟩=>.agg [eI y0,(eL 1 eI) y1.d6.d3,(eL 1 eI) y1.d6.d4,(eL 1 eI) y1.fa,.list 5 (Oa y2)]
def Oa:List BA->Fq
 |[]=>[]|c::cs=>cf c::Oa cs
end
def IE(l:List BA):TV:=.list 5 (Oa l)
def Eb(x:BA):TV:=.agg [eI x.Aag,(eL 1 eI) x.kp.d6.d3,(eL 1 eI) x.kp.d6.d4,(eL 1 eI) x.kp.fa,IE x.en]
theorem eZ(x:BA):cf x=Eb x:=by
 cases x;rfl
theorem SG:∀l:List BA,Oa l=l.map Eb
 |[]=>rfl|x::l=>by rw[Oa,eZ,SG l];rfl
theorem bv(l:List BA):IE l=.list 5 (l.map Eb):=by rw[IE,SG]
structure HF where
 eg:Int
 kp:AL
 deriving DecidableEq
def GE(x:HF):TV:=.agg [eI x.eg,(eL 1 eI) x.kp.d6.d3,(eL 1 eI) x.kp.d6.d4,(eL 1 eI) x.kp.fa]
structure A8 where
 hV:AF
 kl:List HF
 deriving DecidableEq
def Kj(x:A8):TV:=.agg [(eL 1 eI) x.hV.d5.d3,(eL 3 BP) x.hV.d5.d4,(eL 1 (eL 1 eI)) x.hV.ed,(eL 4 GE) x.kl]
structure Aq where
 d:A8
 Aa2:AF
 fd:d6
 deriving DecidableEq
def CJ(x:Aq):TV:=.agg [(eL 1 eI) x.d.hV.d5.d3,(eL 3 BP) x.d.hV.d5.d4,(eL 1 (eL 1 eI)) x.d.hV.ed,(eL 4 GE) x.d.kl,(eL 1 eI) x.Aa2.d5.d3,(eL 3 BP) x.Aa2.d5.d4,(eL 1 (eL 1 eI)) x.Aa2.ed,(eL 1 eI) x.fd.d3,(eL 1 eI) x.fd.d4]
structure x6 where
 gt:A8
 ee:A8
 Iso:d6
 deriving DecidableEq
def Ow(x:x6):TV:=.agg [(eL 1 eI) x.gt.hV.d5.d3,(eL 3 BP) x.gt.hV.d5.d4,(eL 1 (eL 1 eI)) x.gt.hV.ed,(eL 4 GE) x.gt.kl,(eL 1 eI) x.ee.hV.d5.d3,(eL 3 BP) x.ee.hV.d5.d4,(eL 1 (eL 1 eI)) x.ee.hV.ed,(eL 4 GE) x.ee.kl,(eL 1 eI) x.Iso.d3,(eL 1 eI) x.Iso.d4]
structure Rb where
 AaS:List HF
 AbP:AF
 Aaz:d6
 deriving DecidableEq
def Zn(x:Rb):TV:=.agg [(eL 4 GE) x.AaS,(eL 1 eI) x.AbP.d5.d3,(eL 3 BP) x.AbP.d5.d4,(eL 1 (eL 1 eI)) x.AbP.ed,(eL 1 eI) x.Aaz.d3,(eL 1 eI) x.Aaz.d4]
structure RG where
 Abx:List eg
 A:AP
 B:AP
def L6(x:RG):TV:=.agg [(eL 25 Bz) x.Abx,eS x.A.eg.ls,(eL 1 eI) x.A.eg.gt.d5.d3,(eL 3 BP) x.A.eg.gt.d5.d4,(eL 4 Da) x.A.eg.gt.em,eI x.A.eg.gt.fa,(eL 5 Dv) x.A.eg.gt.kq,(eL 1 eI) x.A.eg.ee.d5.d3,(eL 3 BP) x.A.eg.ee.d5.d4,(eL 4 Da) x.A.eg.ee.em,eI x.A.eg.ee.fa,(eL 5 Dv) x.A.eg.ee.kq,(eL 1 eI) x.A.eg.pq.d3,(eL 1 eI) x.A.eg.pq.d4,(eL 1 eI) x.A.eg.o3.d3,(eL 1 eI) x.A.eg.o3.d4,eB x.A.eg.j4,eI x.A.eg.d7.j0,DB x.A.eg.d7.en,(eL 1 eI) x.A.eg.d7.Map.d3,(eL 1 eI) x.A.eg.d7.Map.d4,(eL 1 eI) x.A.eg.d7.ea.d5.d3,(eL 3 BP) x.A.eg.d7.ea.d5.d4,(eL 4 Da) x.A.eg.d7.ea.em,eI x.A.eg.d7.ea.fa,(eL 5 Dv) x.A.eg.d7.ea.kq,(eL 1 eI) x.A.kp.d6.d3,(eL 1 eI) x.A.kp.d6.d4,(eL 1 eI) x.A.kp.fa,(eL 1 eI) x.A.gp.d5.d3,(eL 3 BP) x.A.gp.d5.d4,(eL 1 (eL 1 eI)) x.A.gp.ed,(eL 1 eI) x.A.ia.d5.d3,(eL 3 BP) x.A.ia.d5.d4,(eL 1 (eL 1 eI)) x.A.ia.ed,(eL 1 eI) x.A.mo.d3,(eL 1 eI) x.A.mo.d4,(eL 1 eI) x.A.rr.d3,(eL 1 eI) x.A.rr.d4,eS x.B.eg.ls,(eL 1 eI) x.B.eg.gt.d5.d3,(eL 3 BP) x.B.eg.gt.d5.d4,(eL 4 Da) x.B.eg.gt.em,eI x.B.eg.gt.fa,(eL 5 Dv) x.B.eg.gt.kq,(eL 1 eI) x.B.eg.ee.d5.d3,(eL 3 BP) x.B.eg.ee.d5.d4,(eL 4 Da) x.B.eg.ee.em,eI x.B.eg.ee.fa,(eL 5 Dv) x.B.eg.ee.kq,(eL 1 eI) x.B.eg.pq.d3,(eL 1 eI) x.B.eg.pq.d4,(eL 1 eI) x.B.eg.o3.d3,(eL 1 eI) x.B.eg.o3.d4,eB x.B.eg.j4,eI x.B.eg.d7.j0,DB x.B.eg.d7.en,(eL 1 eI) x.B.eg.d7.Map.d3,(eL 1 eI) x.B.eg.d7.Map.d4,(eL 1 eI) x.B.eg.d7.ea.d5.d3,(eL 3 BP) x.B.eg.d7.ea.d5.d4,(eL 4 Da) x.B.eg.d7.ea.em,eI x.B.eg.d7.ea.fa,(eL 5 Dv) x.B.eg.d7.ea.kq,(eL 1 eI) x.B.kp.d6.d3,(eL 1 eI) x.B.kp.d6.d4,(eL 1 eI) x.B.kp.fa,(eL 1 eI) x.B.gp.d5.d3,(eL 3 BP) x.B.gp.d5.d4,(eL 1 (eL 1 eI)) x.B.gp.ed,(eL 1 eI) x.B.ia.d5.d3,(eL 3 BP) x.B.ia.d5.d4,(eL 1 (eL 1 eI)) x.B.ia.ed,(eL 1 eI) x.B.mo.d3,(eL 1 eI) x.B.mo.d4,(eL 1 eI) x.B.rr.d3,(eL 1 eI) x.B.rr.d4]
abbrev lI:Fp->TV:=eL 1 eI
abbrev lE:List Bk->TV:=eL 3 BP
abbrev lS:List CP->TV:=eL 4 Da
abbrev lT:List Test->TV:=eL 5 Dv
abbrev lN:List CN->TV:=eL 4 Fc
abbrev lX:List Cb->TV:=eL 7 GR
abbrev lA:List kg->TV:=eL 4 HL
abbrev lB:List ByteArray->TV:=eL 1 eS
theorem kM(a b:Bk):B3 (TV.cells (BP a)) (TV.cells (BP b))=some (decide (a=b)):=by
 rcases a with⟨a0,a1,a2⟩;rcases b with⟨b0,b1,b2⟩;simp[BP,TV.cells,B3,eI,Bool.and_assoc,Bk.mk.injEq]
theorem kN(a b:CP):B3 (TV.cells (Da a)) (TV.cells (Da b))=some (decide (a=b)):=by
 rcases a with⟨a0,a1,⟨a20,a21⟩⟩;rcases b with⟨b0,b1,⟨b20,b21⟩⟩;simp[Da,TV.cells,B3,eI,Bool.and_assoc,CP.mk.injEq,gn.mk.injEq]
theorem kO(a b:Test):B3 (TV.cells (Dv a)) (TV.cells (Dv b))=some (decide (a=b)):=by
 rcases a with⟨a0,⟨a10,a11⟩,⟨a20,a21⟩⟩;rcases b with⟨b0,⟨b10,b11⟩,⟨b20,b21⟩⟩;simp[Dv,TV.cells,B3,eI,Bool.and_assoc,gn.mk.injEq,Test.mk.injEq]
end Go.Sf.Sc
