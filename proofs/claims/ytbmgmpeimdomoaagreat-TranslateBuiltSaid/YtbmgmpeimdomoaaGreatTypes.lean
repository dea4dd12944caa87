/- The types of the program as Lean types. -/
import Derived.Test.YtbmgmpeimdomoaaGreatSfK
import Derived.Test.YtbmgmpeimdomoaaGreatSfStep
import Derived.Test.YtbmgmpeimdomoaaGreatProg
set_option linter.all false
set_option maxRecDepth 100000
open Bool renaming false->T
namespace Go.Sf.Sc
open Go Go.Sf Go.Proofs.Tryz
def eI(n:Int):TV:=.int .i64 n
def Nn(n:Int):TV:=.int .u8 n
def LB(n:Int):TV:=.int .u64 n
def AA8(n:Int):TV:=.int .i32 n
def ABA(n:Int):TV:=.int .u32 n
def eI8(n:Int):TV:=.int .i8 n
def AA7(n:Int):TV:=.int .i16 n
def AA9(n:Int):TV:=.int .u16 n
def eB(b:Bool):TV:=.bool b
def eS(s:ByteArray):TV:=.str s
def eL{α:Type}(n:Nat)(e:α->TV)(l:List α):TV:=.list n (l.map e)
theorem Tryz_follows:Go.Proofs.Tryz.prog.follows .mixedOrders=true:=b!
structure ff where
 f0:ByteArray
 Low:Int
 z5:Int
 kx:List ByteArray
 deriving DecidableEq
def Iy(x:ff):TV:=.agg [eS x.f0,eI x.Low,eI x.z5,(eL 1 eS) x.kx]
structure Bx where
 f0:ByteArray
 gT:Int
 p0:Bool
 gR:List ff
 deriving DecidableEq
def Dy(x:Bx):TV:=.agg [eS x.f0,eI x.gT,eB x.p0,(eL 4 Iy) x.gR]
structure Cq where
 f0:ByteArray
 fb:Int
 To:Int
 AaX:Int
 AaE:Int
 Abq:Int
 Aa0:Int
 deriving DecidableEq
def Et(x:Cq):TV:=.agg [eS x.f0,eI x.fb,eI x.To,eI x.AaX,eI x.AaE,eI x.Abq,eI x.Aa0]
structure AC where
 az:List Bx
 be:List Cq
 deriving DecidableEq
def AN(x:AC):TV:=.agg [(eL 4 Dy) x.az,(eL 7 Et) x.be]
structure An where
 az:Fp
 be:Fp
 deriving DecidableEq
def F5(x:An):TV:=.agg [(eL 1 eI) x.az,(eL 1 eI) x.be]
structure Bw where
 em:Int
 fb:Int
 To:Int
 deriving DecidableEq
def B6(x:Bw):TV:=.agg [eI x.em,eI x.fb,eI x.To]
structure bi where
 az:Fp
 be:List Bw
 deriving DecidableEq
def Au(x:bi):TV:=.agg [(eL 1 eI) x.az,(eL 3 B6) x.be]
structure ew where
 Var:Int
 Add:Int
 deriving DecidableEq
def Ri(x:ew):TV:=.agg [eI x.Var,eI x.Add]
structure DN where
 kp:Int
 ff:Int
 ew:ew
 deriving DecidableEq
def Gp(x:DN):TV:=.agg [eI x.kp,eI x.ff,eI x.ew.Var,eI x.ew.Add]
structure Test where
 fq:Int
 d7:ew
 ca:ew
 deriving DecidableEq
def Hh(x:Test):TV:=.agg [eI x.fq,eI x.d7.Var,eI x.d7.Add,eI x.ca.Var,eI x.ca.Add]
structure cE where
 bi:bi
 d4:List DN
 eg:Int
 fv:List Test
 deriving DecidableEq
def B4(x:cE):TV:=.agg [(eL 1 eI) x.bi.az,(eL 3 B6) x.bi.be,(eL 4 Gp) x.d4,eI x.eg,(eL 5 Hh) x.fv]
structure Bo where
 az:Fp
 be:Fp
 deriving DecidableEq
def IY(x:Bo):TV:=.agg [(eL 1 eI) x.az,(eL 1 eI) x.be]
structure bk where
 az:Fp
 be:Fp
 deriving DecidableEq
def A2(x:bk):TV:=.agg [(eL 1 eI) x.az,(eL 1 eI) x.be]
structure bq where
 fq:Int
 eo:List bq
 Map:bk
 cE:cE
mutual
def V9:bq->TV
 |⟨y0,y1,y2,y3⟩=>.agg [eI y0,.list 9 (Jv y1),(eL 1 eI) y2.az,(eL 1 eI) y2.be,(eL 1 eI) y3.bi.az,(eL 3 B6) y3.bi.be,(eL 4 Gp) y3.d4,eI y3.eg,(eL 5 Hh) y3.fv]
def Jv:List bq->Fq
 |[]=>[]|c::cs=>V9 c::Jv cs
end
def Fo(l:List bq):TV:=.list 9 (Jv l)
def AQ(x:bq):TV:=.agg [eI x.fq,Fo x.eo,(eL 1 eI) x.Map.az,(eL 1 eI) x.Map.be,(eL 1 eI) x.cE.bi.az,(eL 3 B6) x.cE.bi.be,(eL 4 Gp) x.cE.d4,eI x.cE.eg,(eL 5 Hh) x.cE.fv]
theorem Yg(x:bq):V9 x=AQ x:=by
 cases x;rfl
theorem MI:∀l:List bq,Jv l=l.map AQ
 |[]=>rfl|x::l=>by rw[Jv,Yg,MI l];rfl
theorem Rg(l:List bq):Fo l=.list 9 (l.map AQ):=by rw[Fo,MI]
structure d3 where
 f0:ByteArray
 d7:cE
 ca:cE
 kg:Bo
 ec:bk
 fd:Bool
 bq:bq
def Bm(x:d3):TV:=.agg [eS x.f0,(eL 1 eI) x.d7.bi.az,(eL 3 B6) x.d7.bi.be,(eL 4 Gp) x.d7.d4,eI x.d7.eg,(eL 5 Hh) x.d7.fv,(eL 1 eI) x.ca.bi.az,(eL 3 B6) x.ca.bi.be,(eL 4 Gp) x.ca.d4,eI x.ca.eg,(eL 5 Hh) x.ca.fv,(eL 1 eI) x.kg.az,(eL 1 eI) x.kg.be,(eL 1 eI) x.ec.az,(eL 1 eI) x.ec.be,eB x.fd,eI x.bq.fq,Fo x.bq.eo,(eL 1 eI) x.bq.Map.az,(eL 1 eI) x.bq.Map.be,(eL 1 eI) x.bq.cE.bi.az,(eL 3 B6) x.bq.cE.bi.be,(eL 4 Gp) x.bq.cE.d4,eI x.bq.cE.eg,(eL 5 Hh) x.bq.cE.fv]
structure Cb where
 t:AC
 s:An
 c7:List d3
def G0(x:Cb):TV:=.agg [(eL 4 Dy) x.t.az,(eL 7 Et) x.t.be,(eL 1 eI) x.s.az,(eL 1 eI) x.s.be,(eL 25 Bm) x.c7]
structure AH where
 bi:bi
 d5:List Fp
 deriving DecidableEq
def CF(x:AH):TV:=.agg [(eL 1 eI) x.bi.az,(eL 3 B6) x.bi.be,(eL 1 (eL 1 eI)) x.d5]
structure AT where
 bk:bk
 eg:Fp
 deriving DecidableEq
def CB(x:AT):TV:=.agg [(eL 1 eI) x.bk.az,(eL 1 eI) x.bk.be,(eL 1 eI) x.eg]
structure C8 where
 d3:Int
 gE:AT
 deriving DecidableEq
def Ji(x:C8):TV:=.agg [eI x.d3,(eL 1 eI) x.gE.bk.az,(eL 1 eI) x.gE.bk.be,(eL 1 eI) x.gE.eg]
structure Bv where
 l6:AH
 Aa4:List C8
 Iso:bk
 deriving DecidableEq
def OI(x:Bv):TV:=.agg [(eL 1 eI) x.l6.bi.az,(eL 3 B6) x.l6.bi.be,(eL 1 (eL 1 eI)) x.l6.d5,(eL 4 Ji) x.Aa4,(eL 1 eI) x.Iso.az,(eL 1 eI) x.Iso.be]
structure Ah where
 jj:Cb
 Aan:Fp
 Aao:Int
 Aac:Bv
 e:Int
def V2(x:Ah):TV:=.agg [(eL 4 Dy) x.jj.t.az,(eL 7 Et) x.jj.t.be,(eL 1 eI) x.jj.s.az,(eL 1 eI) x.jj.s.be,(eL 25 Bm) x.jj.c7,(eL 1 eI) x.Aan,eI x.Aao,(eL 1 eI) x.Aac.l6.bi.az,(eL 3 B6) x.Aac.l6.bi.be,(eL 1 (eL 1 eI)) x.Aac.l6.d5,(eL 4 Ji) x.Aac.Aa4,(eL 1 eI) x.Aac.Iso.az,(eL 1 eI) x.Aac.Iso.be,eI x.e]
def Ax(x:Ah):List AO:=[⟨T,(eL 4 Dy) x.jj.t.az⟩,⟨T,(eL 7 Et) x.jj.t.be⟩,⟨T,(eL 1 eI) x.jj.s.az⟩,⟨T,(eL 1 eI) x.jj.s.be⟩,⟨T,(eL 25 Bm) x.jj.c7⟩,⟨T,(eL 1 eI) x.Aan⟩,⟨T,eI x.Aao⟩,⟨T,(eL 1 eI) x.Aac.l6.bi.az⟩,⟨T,(eL 3 B6) x.Aac.l6.bi.be⟩,⟨T,(eL 1 (eL 1 eI)) x.Aac.l6.d5⟩,⟨T,(eL 4 Ji) x.Aac.Aa4⟩,⟨T,(eL 1 eI) x.Aac.Iso.az⟩,⟨T,(eL 1 eI) x.Aac.Iso.be⟩,⟨T,eI x.e⟩]
structure BG where
 d3:d3
 gE:AT
 zt:AH
 k7:AH
 Aaq:bk
 wi:bk
def RF(x:BG):TV:=.agg [eS x.d3.f0,(eL 1 eI) x.d3.d7.bi.az,(eL 3 B6) x.d3.d7.bi.be,(eL 4 Gp) x.d3.d7.d4,eI x.d3.d7.eg,(eL 5 Hh) x.d3.d7.fv,(eL 1 eI) x.d3.ca.bi.az,(eL 3 B6) x.d3.ca.bi.be,(eL 4 Gp) x.d3.ca.d4,eI x.d3.ca.eg,(eL 5 Hh) x.d3.ca.fv,(eL 1 eI) x.d3.kg.az,(eL 1 eI) x.d3.kg.be,(eL 1 eI) x.d3.ec.az,(eL 1 eI) x.d3.ec.be,eB x.d3.fd,eI x.d3.bq.fq,Fo x.d3.bq.eo,(eL 1 eI) x.d3.bq.Map.az,(eL 1 eI) x.d3.bq.Map.be,(eL 1 eI) x.d3.bq.cE.bi.az,(eL 3 B6) x.d3.bq.cE.bi.be,(eL 4 Gp) x.d3.bq.cE.d4,eI x.d3.bq.cE.eg,(eL 5 Hh) x.d3.bq.cE.fv,(eL 1 eI) x.gE.bk.az,(eL 1 eI) x.gE.bk.be,(eL 1 eI) x.gE.eg,(eL 1 eI) x.zt.bi.az,(eL 3 B6) x.zt.bi.be,(eL 1 (eL 1 eI)) x.zt.d5,(eL 1 eI) x.k7.bi.az,(eL 3 B6) x.k7.bi.be,(eL 1 (eL 1 eI)) x.k7.d5,(eL 1 eI) x.Aaq.az,(eL 1 eI) x.Aaq.be,(eL 1 eI) x.wi.az,(eL 1 eI) x.wi.be]
def Dv(x:BG):List AO:=[⟨T,eS x.d3.f0⟩,⟨T,(eL 1 eI) x.d3.d7.bi.az⟩,⟨T,(eL 3 B6) x.d3.d7.bi.be⟩,⟨T,(eL 4 Gp) x.d3.d7.d4⟩,⟨T,eI x.d3.d7.eg⟩,⟨T,(eL 5 Hh) x.d3.d7.fv⟩,⟨T,(eL 1 eI) x.d3.ca.bi.az⟩,⟨T,(eL 3 B6) x.d3.ca.bi.be⟩,⟨T,(eL 4 Gp) x.d3.ca.d4⟩,⟨T,eI x.d3.ca.eg⟩,⟨T,(eL 5 Hh) x.d3.ca.fv⟩,⟨T,(eL 1 eI) x.d3.kg.az⟩,⟨T,(eL 1 eI) x.d3.kg.be⟩,⟨T,(eL 1 eI) x.d3.ec.az⟩,⟨T,(eL 1 eI) x.d3.ec.be⟩,⟨T,eB x.d3.fd⟩,⟨T,eI x.d3.bq.fq⟩,⟨T,Fo x.d3.bq.eo⟩,⟨T,(eL 1 eI) x.d3.bq.Map.az⟩,⟨T,(eL 1 eI) x.d3.bq.Map.be⟩,⟨T,(eL 1 eI) x.d3.bq.cE.bi.az⟩,⟨T,(eL 3 B6) x.d3.bq.cE.bi.be⟩,⟨T,(eL 4 Gp) x.d3.bq.cE.d4⟩,⟨T,eI x.d3.bq.cE.eg⟩,⟨T,(eL 5 Hh) x.d3.bq.cE.fv⟩,⟨T,(eL 1 eI) x.gE.bk.az⟩,⟨T,(eL 1 eI) x.gE.bk.be⟩,⟨T,(eL 1 eI) x.gE.eg⟩,⟨T,(eL 1 eI) x.zt.bi.az⟩,⟨T,(eL 3 B6) x.zt.bi.be⟩,⟨T,(eL 1 (eL 1 eI)) x.zt.d5⟩,⟨true,(eL 1 eI) x.k7.bi.az⟩,⟨true,(eL 3 B6) x.k7.bi.be⟩,⟨true,.xn (List.map (eL 1 eI) x.k7.d5)⟩,⟨T,(eL 1 eI) x.Aaq.az⟩,⟨T,(eL 1 eI) x.Aaq.be⟩,⟨T,(eL 1 eI) x.wi.az⟩,⟨T,(eL 1 eI) x.wi.be⟩]
structure Al where
 t:AC
 p:bi
 g:bi
 ed:bk
 eb:Bool
 mo:Int
 Aaj:List bk
 deriving DecidableEq
def T4(x:Al):TV:=.agg [(eL 4 Dy) x.t.az,(eL 7 Et) x.t.be,(eL 1 eI) x.p.az,(eL 3 B6) x.p.be,(eL 1 eI) x.g.az,(eL 3 B6) x.g.be,(eL 1 eI) x.ed.az,(eL 1 eI) x.ed.be,eB x.eb,eI x.mo,(eL 2 A2) x.Aaj]
def B3(x:Al):List AO:=[⟨T,(eL 4 Dy) x.t.az⟩,⟨T,(eL 7 Et) x.t.be⟩,⟨T,(eL 1 eI) x.p.az⟩,⟨T,(eL 3 B6) x.p.be⟩,⟨T,(eL 1 eI) x.g.az⟩,⟨T,(eL 3 B6) x.g.be⟩,⟨T,(eL 1 eI) x.ed.az⟩,⟨T,(eL 1 eI) x.ed.be⟩,⟨T,eB x.eb⟩,⟨T,eI x.mo⟩,⟨true,(eL 2 A2) x.Aaj⟩]
structure O4 where
 az:Option Fp
 be:Option Fp
 deriving DecidableEq
def qW(x:O4):TV:=.agg [(eO 1 eI) x.az,(eO 1 eI) x.be]
def O4.of(m:bk):O4:=⟨some m.az,some m.be⟩
instance:Coe bk O4:=⟨O4.of⟩
structure AL where
 p:bi
 g:bi
 is:List MV
 ed:O4
 eb:Bool
 mo:Int
 ci:Fp
 c8:Fp
 out:List bk
 deriving DecidableEq
def Sh(x:AL):TV:=.agg [(eL 1 eI) x.p.az,(eL 3 B6) x.p.be,(eL 1 eI) x.g.az,(eL 3 B6) x.g.be,(eL 1 (eL 1 eB)) x.is,(eO 1 eI) x.ed.az,(eO 1 eI) x.ed.be,eB x.eb,eI x.mo,(eL 1 eI) x.ci,(eL 1 eI) x.c8,(eL 2 A2) x.out]
def DC(x:AL):List AO:=[⟨T,(eL 1 eI) x.p.az⟩,⟨T,(eL 3 B6) x.p.be⟩,⟨T,(eL 1 eI) x.g.az⟩,⟨T,(eL 3 B6) x.g.be⟩,⟨T,(eL 1 (eL 1 eB)) x.is⟩,⟨T,(eO 1 eI) x.ed.az⟩,⟨T,(eO 1 eI) x.ed.be⟩,⟨T,eB x.eb⟩,⟨T,eI x.mo⟩,⟨true,.xl 1 (List.map eI x.ci)⟩,⟨true,.xl 1 (List.map eI x.c8)⟩,⟨true,(eL 2 A2) x.out⟩]
structure Gn where
 fq:Int
 AbO:ByteArray
 Line:Int
 deriving DecidableEq
def Xc(x:Gn):TV:=.agg [eI x.fq,eS x.AbO,eI x.Line]
structure C6 where
 l:bi
 g:bi
 ei:Bo
 m:bk
 deriving DecidableEq
def Iz(x:C6):TV:=.agg [(eL 1 eI) x.l.az,(eL 3 B6) x.l.be,(eL 1 eI) x.g.az,(eL 3 B6) x.g.be,(eL 1 eI) x.ei.az,(eL 1 eI) x.ei.be,(eL 1 eI) x.m.az,(eL 1 eI) x.m.be]
structure JL where
 A:Int
 B:Int
 deriving DecidableEq
def Rh(x:JL):TV:=.agg [eI x.A,eI x.B]
structure BX where
 t:AC
 h:AH
 eb:Bool
 deriving DecidableEq
def Cn(x:BX):TV:=.agg [(eL 4 Dy) x.t.az,(eL 7 Et) x.t.be,(eL 1 eI) x.h.bi.az,(eL 3 B6) x.h.bi.be,(eL 1 (eL 1 eI)) x.h.d5,eB x.eb]
structure BD where
 Aam:Int
 gE:AT
 eo:List BD
mutual
def fO:BD->TV
 |⟨y0,y1,y2⟩=>.agg [eI y0,(eL 1 eI) y1.bk.az,(eL 1 eI) y1.bk.be,(eL 1 eI) y1.eg,.list 5 (PA y2)]
def PA:List BD->Fq
 |[]=>[]|c::cs=>fO c::PA cs
end
def Ie(l:List BD):TV:=.list 5 (PA l)
def E7(x:BD):TV:=.agg [eI x.Aam,(eL 1 eI) x.gE.bk.az,(eL 1 eI) x.gE.bk.be,(eL 1 eI) x.gE.eg,Ie x.eo]
theorem iY(x:BD):fO x=E7 x:=by
 cases x;rfl
theorem TG:∀l:List BD,PA l=l.map E7
 |[]=>rfl|x::l=>by rw[PA,iY,TG l];rfl
theorem eG(l:List BD):Ie l=.list 5 (l.map E7):=by rw[Ie,TG]
structure AI where
 ea:bi
 ci:MV
 c8:MV
 og:List C8
 l3:bk
 deriving DecidableEq
def CW(x:AI):TV:=.agg [(eL 1 eI) x.ea.az,(eL 3 B6) x.ea.be,(eL 1 eB) x.ci,(eL 1 eB) x.c8,(eL 4 Ji) x.og,(eL 1 eI) x.l3.az,(eL 1 eI) x.l3.be]
structure Cc where
 up:bi
 ci:Fp
 c8:Fp
 deriving DecidableEq
def UT(x:Cc):TV:=.agg [(eL 1 eI) x.up.az,(eL 3 B6) x.up.be,(eL 1 eI) x.ci,(eL 1 eI) x.c8]
structure Qt where
 a0:Int
 a1:Int
 deriving DecidableEq
def TF(x:Qt):TV:=.agg [Nn x.a0,Nn x.a1]
structure Ic where
 a0:Int
 a1:Int
 a2:Int
 deriving DecidableEq
def RE(x:Ic):TV:=.agg [Nn x.a0,Nn x.a1,Nn x.a2]
structure Hv where
 az:List Qt
 be:List Ic
 deriving DecidableEq
def US(x:Hv):TV:=.agg [(eL 2 TF) x.az,(eL 3 RE) x.be]
structure Ft where
 d7:Hv
 az:Fp
 be:List Ic
 deriving DecidableEq
def LZ(x:Ft):TV:=.agg [(eL 2 TF) x.d7.az,(eL 3 RE) x.d7.be,(eL 1 Nn) x.az,(eL 3 RE) x.be]
structure CZ where
 θ:AC
 S:An
 l4:List d3
def Se(x:CZ):TV:=.agg [(eL 4 Dy) x.θ.az,(eL 7 Et) x.θ.be,(eL 1 eI) x.S.az,(eL 1 eI) x.S.be,(eL 25 Bm) x.l4]
structure JO where
 l4:List Ft
 AaD:Fp
 deriving DecidableEq
def IH(x:JO):TV:=.agg [(eL 4 LZ) x.l4,(eL 1 Nn) x.AaD]
abbrev lI:Fp->TV:=eL 1 eI
abbrev lE:List Bw->TV:=eL 3 B6
abbrev lS:List DN->TV:=eL 4 Gp
abbrev lT:List Test->TV:=eL 5 Hh
abbrev lN:List Bx->TV:=eL 4 Dy
abbrev lX:List Cq->TV:=eL 7 Et
abbrev lA:List ff->TV:=eL 4 Iy
abbrev lB:List ByteArray->TV:=eL 1 eS
theorem na(a b:Bw):CJ (TV.cells (B6 a)) (TV.cells (B6 b))=some (decide (a=b)):=by
 rcases a with⟨a0,a1,a2⟩;rcases b with⟨b0,b1,b2⟩;simp[B6,TV.cells,CJ,eI,Bool.and_assoc,Bw.mk.injEq]
end Go.Sf.Sc
