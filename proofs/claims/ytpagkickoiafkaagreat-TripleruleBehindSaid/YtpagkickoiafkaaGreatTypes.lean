/- The types of the program as Lean types. -/
import Derived.Test.YtpagkickoiafkaaGreatSfK
import Derived.Test.YtpagkickoiafkaaGreatSfStep
import Derived.Test.YtpagkickoiafkaaGreatProg
set_option linter.all false
set_option maxRecDepth 100000
open Bool renaming false->T
namespace Go.Sf.Sc
open Go Go.Sf Go.Proofs.Tryz
def eI(n:Int):TV:=.int .i64 n
def JP(n:Int):TV:=.int .u8 n
def Ft(n:Int):TV:=.int .u64 n
def ii(n:Int):TV:=.int .i32 n
def il(n:Int):TV:=.int .u32 n
def jG(n:Int):TV:=.int .i8 n
def ig(n:Int):TV:=.int .i16 n
def ij(n:Int):TV:=.int .u16 n
def eB(b:Bool):TV:=.bool b
def eS(s:ByteArray):TV:=.str s
def eL{α:Type}(n:Nat)(e:α->TV)(l:List α):TV:=.list n (l.map e)
theorem Tryz_follows:Go.Proofs.Tryz.prog.follows .mixedOrders=true:=b_
structure Bp where
 jo:Int
 jK:Int
 To:Int
 deriving DecidableEq
def BS(x:Bp):TV:=.agg [eI x.jo,eI x.jK,eI x.To]
structure ff where
 fd:Fp
 fq:List Bp
 deriving DecidableEq
def AU(x:ff):TV:=.agg [(eL 1 eI) x.fd,(eL 3 BS) x.fq]
structure jm where
 Var:Int
 Add:Int
 deriving DecidableEq
def Kz(x:jm):TV:=.agg [eI x.Var,eI x.Add]
structure Ci where
 j9:Int
 jy:Int
 jm:jm
 deriving DecidableEq
def Cp(x:Ci):TV:=.agg [eI x.j9,eI x.jy,eI x.jm.Var,eI x.jm.Add]
structure Test where
 jI:Int
 jn:jm
 jc:jm
 deriving DecidableEq
def DB(x:Test):TV:=.agg [eI x.jI,eI x.jn.Var,eI x.jn.Add,eI x.jc.Var,eI x.jc.Add]
structure hV where
 ff:ff
 jh:List Ci
 jk:Int
 jJ:List Test
 deriving DecidableEq
def Av(x:hV):TV:=.agg [(eL 1 eI) x.ff.fd,(eL 3 BS) x.ff.fq,(eL 4 Cp) x.jh,eI x.jk,(eL 5 DB) x.jJ]
structure Az where
 fd:Fp
 fq:Fp
 deriving DecidableEq
def C1(x:Az):TV:=.agg [(eL 1 eI) x.fd,(eL 1 eI) x.fq]
structure f0 where
 fd:Fp
 fq:Fp
 deriving DecidableEq
def Aj(x:f0):TV:=.agg [(eL 1 eI) x.fd,(eL 1 eI) x.fq]
structure gt where
 jI:Int
 jv:List gt
 Map:f0
 hV:hV
mutual
def PY:gt->TV
 |⟨y0,y1,y2,y3⟩=>.agg [eI y0,.list 9 (Ek y1),(eL 1 eI) y2.fd,(eL 1 eI) y2.fq,(eL 1 eI) y3.ff.fd,(eL 3 BS) y3.ff.fq,(eL 4 Cp) y3.jh,eI y3.jk,(eL 5 DB) y3.jJ]
def Ek:List gt->Fq
 |[]=>[]|c::cs=>PY c::Ek cs
end
def CU(l:List gt):TV:=.list 9 (Ek l)
def AG(x:gt):TV:=.agg [eI x.jI,CU x.jv,(eL 1 eI) x.Map.fd,(eL 1 eI) x.Map.fq,(eL 1 eI) x.hV.ff.fd,(eL 3 BS) x.hV.ff.fq,(eL 4 Cp) x.hV.jh,eI x.hV.jk,(eL 5 DB) x.hV.jJ]
theorem Qz(x:gt):PY x=AG x:=by
 cases x;rfl
theorem Ii:∀l:List gt,Ek l=l.map AG
 |[]=>rfl|x::l=>by rw[Ek,Qz,Ii l];rfl
theorem QM(l:List gt):CU l=.list 9 (l.map AG):=by rw[CU,Ii]
structure jg where
 jO:ByteArray
 jn:hV
 jc:hV
 j5:Az
 jN:f0
 jQ:Bool
 gt:gt
def BY(x:jg):TV:=.agg [eS x.jO,(eL 1 eI) x.jn.ff.fd,(eL 3 BS) x.jn.ff.fq,(eL 4 Cp) x.jn.jh,eI x.jn.jk,(eL 5 DB) x.jn.jJ,(eL 1 eI) x.jc.ff.fd,(eL 3 BS) x.jc.ff.fq,(eL 4 Cp) x.jc.jh,eI x.jc.jk,(eL 5 DB) x.jc.jJ,(eL 1 eI) x.j5.fd,(eL 1 eI) x.j5.fq,(eL 1 eI) x.jN.fd,(eL 1 eI) x.jN.fq,eB x.jQ,eI x.gt.jI,CU x.gt.jv,(eL 1 eI) x.gt.Map.fd,(eL 1 eI) x.gt.Map.fq,(eL 1 eI) x.gt.hV.ff.fd,(eL 3 BS) x.gt.hV.ff.fq,(eL 4 Cp) x.gt.hV.jh,eI x.gt.hV.jk,(eL 5 DB) x.gt.hV.jJ]
structure AT where
 f0:f0
 jk:Fp
 deriving DecidableEq
def BB(x:AT):TV:=.agg [(eL 1 eI) x.f0.fd,(eL 1 eI) x.f0.fq,(eL 1 eI) x.jk]
structure AN where
 ff:ff
 jf:List Fp
 deriving DecidableEq
def BC(x:AN):TV:=.agg [(eL 1 eI) x.ff.fd,(eL 3 BS) x.ff.fq,(eL 1 (eL 1 eI)) x.jf]
structure A9 where
 jg:jg
 jz:AT
 j4:AN
 jM:AN
 ko:f0
 jS:f0
def EF(x:A9):TV:=.agg [eS x.jg.jO,(eL 1 eI) x.jg.jn.ff.fd,(eL 3 BS) x.jg.jn.ff.fq,(eL 4 Cp) x.jg.jn.jh,eI x.jg.jn.jk,(eL 5 DB) x.jg.jn.jJ,(eL 1 eI) x.jg.jc.ff.fd,(eL 3 BS) x.jg.jc.ff.fq,(eL 4 Cp) x.jg.jc.jh,eI x.jg.jc.jk,(eL 5 DB) x.jg.jc.jJ,(eL 1 eI) x.jg.j5.fd,(eL 1 eI) x.jg.j5.fq,(eL 1 eI) x.jg.jN.fd,(eL 1 eI) x.jg.jN.fq,eB x.jg.jQ,eI x.jg.gt.jI,CU x.jg.gt.jv,(eL 1 eI) x.jg.gt.Map.fd,(eL 1 eI) x.jg.gt.Map.fq,(eL 1 eI) x.jg.gt.hV.ff.fd,(eL 3 BS) x.jg.gt.hV.ff.fq,(eL 4 Cp) x.jg.gt.hV.jh,eI x.jg.gt.hV.jk,(eL 5 DB) x.jg.gt.hV.jJ,(eL 1 eI) x.jz.f0.fd,(eL 1 eI) x.jz.f0.fq,(eL 1 eI) x.jz.jk,(eL 1 eI) x.j4.ff.fd,(eL 3 BS) x.j4.ff.fq,(eL 1 (eL 1 eI)) x.j4.jf,(eL 1 eI) x.jM.ff.fd,(eL 3 BS) x.jM.ff.fq,(eL 1 (eL 1 eI)) x.jM.jf,(eL 1 eI) x.ko.fd,(eL 1 eI) x.ko.fq,(eL 1 eI) x.jS.fd,(eL 1 eI) x.jS.fq]
def B7(x:A9):List AI:=[⟨T,eS x.jg.jO⟩,⟨T,(eL 1 eI) x.jg.jn.ff.fd⟩,⟨T,(eL 3 BS) x.jg.jn.ff.fq⟩,⟨T,(eL 4 Cp) x.jg.jn.jh⟩,⟨T,eI x.jg.jn.jk⟩,⟨T,(eL 5 DB) x.jg.jn.jJ⟩,⟨T,(eL 1 eI) x.jg.jc.ff.fd⟩,⟨T,(eL 3 BS) x.jg.jc.ff.fq⟩,⟨T,(eL 4 Cp) x.jg.jc.jh⟩,⟨T,eI x.jg.jc.jk⟩,⟨T,(eL 5 DB) x.jg.jc.jJ⟩,⟨T,(eL 1 eI) x.jg.j5.fd⟩,⟨T,(eL 1 eI) x.jg.j5.fq⟩,⟨T,(eL 1 eI) x.jg.jN.fd⟩,⟨T,(eL 1 eI) x.jg.jN.fq⟩,⟨T,eB x.jg.jQ⟩,⟨T,eI x.jg.gt.jI⟩,⟨T,CU x.jg.gt.jv⟩,⟨T,(eL 1 eI) x.jg.gt.Map.fd⟩,⟨T,(eL 1 eI) x.jg.gt.Map.fq⟩,⟨T,(eL 1 eI) x.jg.gt.hV.ff.fd⟩,⟨T,(eL 3 BS) x.jg.gt.hV.ff.fq⟩,⟨T,(eL 4 Cp) x.jg.gt.hV.jh⟩,⟨T,eI x.jg.gt.hV.jk⟩,⟨T,(eL 5 DB) x.jg.gt.hV.jJ⟩,⟨T,(eL 1 eI) x.jz.f0.fd⟩,⟨T,(eL 1 eI) x.jz.f0.fq⟩,⟨T,(eL 1 eI) x.jz.jk⟩,⟨T,(eL 1 eI) x.j4.ff.fd⟩,⟨T,(eL 3 BS) x.j4.ff.fq⟩,⟨T,(eL 1 (eL 1 eI)) x.j4.jf⟩,⟨true,(eL 1 eI) x.jM.ff.fd⟩,⟨true,(eL 3 BS) x.jM.ff.fq⟩,⟨true,.xn (List.map (eL 1 eI) x.jM.jf)⟩,⟨T,(eL 1 eI) x.ko.fd⟩,⟨T,(eL 1 eI) x.ko.fq⟩,⟨T,(eL 1 eI) x.jS.fd⟩,⟨T,(eL 1 eI) x.jS.fq⟩]
structure jy where
 jO:ByteArray
 li:Int
 kJ:Int
 ku:List ByteArray
 deriving DecidableEq
def Ec(x:jy):TV:=.agg [eS x.jO,eI x.li,eI x.kJ,(eL 1 eS) x.ku]
structure Bn where
 jO:ByteArray
 kq:Int
 kp:Bool
 kw:List jy
 deriving DecidableEq
def Dj(x:Bn):TV:=.agg [eS x.jO,eI x.kq,eB x.kp,(eL 4 Ec) x.kw]
structure B9 where
 jO:ByteArray
 jK:Int
 To:Int
 mu:Int
 lU:Int
 mX:Int
 mA:Int
 deriving DecidableEq
def Di(x:B9):TV:=.agg [eS x.jO,eI x.jK,eI x.To,eI x.mu,eI x.lU,eI x.mX,eI x.mA]
structure AE where
 fd:List Bn
 fq:List B9
 deriving DecidableEq
def AK(x:AE):TV:=.agg [(eL 4 Dj) x.fd,(eL 7 Di) x.fq]
structure Aw where
 t:AE
 p:ff
 g:ff
 jx:f0
 ju:Bool
 kB:Int
 lK:List f0
 deriving DecidableEq
def N9(x:Aw):TV:=.agg [(eL 4 Dj) x.t.fd,(eL 7 Di) x.t.fq,(eL 1 eI) x.p.fd,(eL 3 BS) x.p.fq,(eL 1 eI) x.g.fd,(eL 3 BS) x.g.fq,(eL 1 eI) x.jx.fd,(eL 1 eI) x.jx.fq,eB x.ju,eI x.kB,(eL 2 Aj) x.lK]
def BI(x:Aw):List AI:=[⟨T,(eL 4 Dj) x.t.fd⟩,⟨T,(eL 7 Di) x.t.fq⟩,⟨T,(eL 1 eI) x.p.fd⟩,⟨T,(eL 3 BS) x.p.fq⟩,⟨T,(eL 1 eI) x.g.fd⟩,⟨T,(eL 3 BS) x.g.fq⟩,⟨T,(eL 1 eI) x.jx.fd⟩,⟨T,(eL 1 eI) x.jx.fq⟩,⟨T,eB x.ju⟩,⟨T,eI x.kB⟩,⟨true,(eL 2 Aj) x.lK⟩]
structure AW where
 p:ff
 g:ff
 is:List a5
 jx:f0
 ju:Bool
 kB:Int
 ji:Fp
 jw:Fp
 out:List f0
 deriving DecidableEq
def MA(x:AW):TV:=.agg [(eL 1 eI) x.p.fd,(eL 3 BS) x.p.fq,(eL 1 eI) x.g.fd,(eL 3 BS) x.g.fq,(eL 1 (eL 1 eB)) x.is,(eL 1 eI) x.jx.fd,(eL 1 eI) x.jx.fq,eB x.ju,eI x.kB,(eL 1 eI) x.ji,(eL 1 eI) x.jw,(eL 2 Aj) x.out]
def Bq(x:AW):List AI:=[⟨T,(eL 1 eI) x.p.fd⟩,⟨T,(eL 3 BS) x.p.fq⟩,⟨T,(eL 1 eI) x.g.fd⟩,⟨T,(eL 3 BS) x.g.fq⟩,⟨T,(eL 1 (eL 1 eB)) x.is⟩,⟨T,(eL 1 eI) x.jx.fd⟩,⟨T,(eL 1 eI) x.jx.fq⟩,⟨T,eB x.ju⟩,⟨T,eI x.kB⟩,⟨true,.xl 1 (List.map eI x.ji)⟩,⟨true,.xl 1 (List.map eI x.jw)⟩,⟨true,(eL 2 Aj) x.out⟩]
structure Ba where
 fd:Fp
 fq:Fp
 deriving DecidableEq
def C3(x:Ba):TV:=.agg [(eL 1 eI) x.fd,(eL 1 eI) x.fq]
structure D3 where
 jI:Int
 na:ByteArray
 Line:Int
 deriving DecidableEq
def QN(x:D3):TV:=.agg [eI x.jI,eS x.na,eI x.Line]
structure Bb where
 kT:ff
 ji:Fp
 jw:Fp
 deriving DecidableEq
def GL(x:Bb):TV:=.agg [(eL 1 eI) x.kT.fd,(eL 3 BS) x.kT.fq,(eL 1 eI) x.ji,(eL 1 eI) x.jw]
structure Qu where
 a0:Int
 a1:Int
 deriving DecidableEq
def Mg(x:Qu):TV:=.agg [JP x.a0,JP x.a1]
structure PD where
 a0:Int
 a1:Int
 a2:Int
 deriving DecidableEq
def KQ(x:PD):TV:=.agg [JP x.a0,JP x.a1,JP x.a2]
structure ET where
 fd:List Qu
 fq:List PD
 deriving DecidableEq
def GK(x:ET):TV:=.agg [(eL 2 Mg) x.fd,(eL 3 KQ) x.fq]
structure Fm where
 jn:ET
 fd:Fp
 fq:List PD
 deriving DecidableEq
def El(x:Fm):TV:=.agg [(eL 2 Mg) x.jn.fd,(eL 3 KQ) x.jn.fq,(eL 1 JP) x.fd,(eL 3 KQ) x.fq]
structure KK where
 A:Int
 B:Int
 deriving DecidableEq
def Ky(x:KK):TV:=.agg [eI x.A,eI x.B]
structure A7 where
 kI:Int
 jz:AT
 jv:List A7
mutual
def TZ:A7->TV
 |⟨y0,y1,y2⟩=>.agg [eI y0,(eL 1 eI) y1.f0.fd,(eL 1 eI) y1.f0.fq,(eL 1 eI) y1.jk,.list 5 (Ij y2)]
def Ij:List A7->Fq
 |[]=>[]|c::cs=>TZ c::Ij cs
end
def D5(l:List A7):TV:=.list 5 (Ij l)
def CW(x:A7):TV:=.agg [eI x.kI,(eL 1 eI) x.jz.f0.fd,(eL 1 eI) x.jz.f0.fq,(eL 1 eI) x.jz.jk,D5 x.jv]
theorem UJ(x:A7):TZ x=CW x:=by
 cases x;rfl
theorem Mh:∀l:List A7,Ij l=l.map CW
 |[]=>rfl|x::l=>by rw[Ij,UJ,Mh l];rfl
theorem TE(l:List A7):D5 l=.list 5 (l.map CW):=by rw[D5,Mh]
structure B8 where
 l:ff
 g:ff
 jj:Az
 m:f0
 deriving DecidableEq
def EG(x:B8):TV:=.agg [(eL 1 eI) x.l.fd,(eL 3 BS) x.l.fq,(eL 1 eI) x.g.fd,(eL 3 BS) x.g.fq,(eL 1 eI) x.jj.fd,(eL 1 eI) x.jj.fq,(eL 1 eI) x.m.fd,(eL 1 eI) x.m.fq]
structure BN where
 t:AE
 h:AN
 ju:Bool
 deriving DecidableEq
def BZ(x:BN):TV:=.agg [(eL 4 Dj) x.t.fd,(eL 7 Di) x.t.fq,(eL 1 eI) x.h.ff.fd,(eL 3 BS) x.h.ff.fq,(eL 1 (eL 1 eI)) x.h.jf,eB x.ju]
abbrev lI:Fp->TV:=eL 1 eI
abbrev lE:List Bp->TV:=eL 3 BS
abbrev lS:List Ci->TV:=eL 4 Cp
abbrev lT:List Test->TV:=eL 5 DB
abbrev lN:List Bn->TV:=eL 4 Dj
abbrev lX:List B9->TV:=eL 7 Di
abbrev lA:List jy->TV:=eL 4 Ec
abbrev lB:List ByteArray->TV:=eL 1 eS
theorem Wd(a b:Bp):BL (TV.cells (BS a)) (TV.cells (BS b))=some (decide (a=b)):=by
 rcases a with⟨a0,a1,a2⟩;rcases b with⟨b0,b1,b2⟩;simp[BS,TV.cells,BL,eI,Bool.and_assoc,Bp.mk.injEq]
theorem We(a b:Ci):BL (TV.cells (Cp a)) (TV.cells (Cp b))=some (decide (a=b)):=by
 rcases a with⟨a0,a1,⟨a20,a21⟩⟩;rcases b with⟨b0,b1,⟨b20,b21⟩⟩;simp[Cp,TV.cells,BL,eI,Bool.and_assoc,Ci.mk.injEq,jm.mk.injEq]
theorem Wf(a b:Test):BL (TV.cells (DB a)) (TV.cells (DB b))=some (decide (a=b)):=by
 rcases a with⟨a0,⟨a10,a11⟩,⟨a20,a21⟩⟩;rcases b with⟨b0,⟨b10,b11⟩,⟨b20,b21⟩⟩;simp[DB,TV.cells,BL,eI,Bool.and_assoc,jm.mk.injEq,Test.mk.injEq]
end Go.Sf.Sc
