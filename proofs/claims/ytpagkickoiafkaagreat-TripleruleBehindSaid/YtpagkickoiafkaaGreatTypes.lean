/- The types of the program as Lean types. -/
import Derived.Test.YtpagkickoiafkaaGreatSfK
import Derived.Test.YtpagkickoiafkaaGreatSfStep
import Derived.Test.YtpagkickoiafkaaGreatProg
set_option linter.all false
set_option maxRecDepth 100000
open Bool renaming false->T
namespace Go.Sf.Sc
open Go Go.Sf Go.Proofs.Tryz
def eI(n:Int):TV:=.int .i64 n
def Oa(n:Int):TV:=.int .u8 n
def Kr(n:Int):TV:=.int .u64 n
def ABL(n:Int):TV:=.int .i32 n
def ABN(n:Int):TV:=.int .u32 n
def eI8(n:Int):TV:=.int .i8 n
def ABK(n:Int):TV:=.int .i16 n
def ABM(n:Int):TV:=.int .u16 n
def eB(b:Bool):TV:=.bool b
def eS(s:ByteArray):TV:=.str s
def eL{α:Type}(n:Nat)(e:α->TV)(l:List α):TV:=.list n (l.map e)
theorem Tryz_follows:Go.Proofs.Tryz.prog.follows .mixedOrders=true:=b!
structure Bu where
 fa:Int
 fd:Int
 To:Int
 deriving DecidableEq
def CD(x:Bu):TV:=.agg [eI x.fa,eI x.fd,eI x.To]
structure ci where
 bq:Fp
 ca:List Bu
 deriving DecidableEq
def An(x:ci):TV:=.agg [(eL 1 eI) x.bq,(eL 3 CD) x.ca]
structure fb where
 Var:Int
 Add:Int
 deriving DecidableEq
def Rh(x:fb):TV:=.agg [eI x.Var,eI x.Add]
structure Cz where
 j0:Int
 gt:Int
 fb:fb
 deriving DecidableEq
def El(x:Cz):TV:=.agg [eI x.j0,eI x.gt,eI x.fb.Var,eI x.fb.Add]
structure Test where
 fu:Int
 eh:fb
 d5:fb
 deriving DecidableEq
def FQ(x:Test):TV:=.agg [eI x.fu,eI x.eh.Var,eI x.eh.Add,eI x.d5.Var,eI x.d5.Add]
structure d4 where
 ci:ci
 ed:List Cz
 ek:Int
 f0:List Test
 deriving DecidableEq
def BP(x:d4):TV:=.agg [(eL 1 eI) x.ci.bq,(eL 3 CD) x.ci.ca,(eL 4 El) x.ed,eI x.ek,(eL 5 FQ) x.f0]
structure A3 where
 bq:Fp
 ca:Fp
 deriving DecidableEq
def FP(x:A3):TV:=.agg [(eL 1 eI) x.bq,(eL 1 eI) x.ca]
structure cE where
 bq:Fp
 ca:Fp
 deriving DecidableEq
def Aw(x:cE):TV:=.agg [(eL 1 eI) x.bq,(eL 1 eI) x.ca]
structure c9 where
 fu:Int
 ej:List c9
 Map:cE
 d4:d4
mutual
def V8:c9->TV
 |⟨y0,y1,y2,y3⟩=>.agg [eI y0,.list 9 (JN y1),(eL 1 eI) y2.bq,(eL 1 eI) y2.ca,(eL 1 eI) y3.ci.bq,(eL 3 CD) y3.ci.ca,(eL 4 El) y3.ed,eI y3.ek,(eL 5 FQ) y3.f0]
def JN:List c9->Fq
 |[]=>[]|c::cs=>V8 c::JN cs
end
def D1(l:List c9):TV:=.list 9 (JN l)
def AI(x:c9):TV:=.agg [eI x.fu,D1 x.ej,(eL 1 eI) x.Map.bq,(eL 1 eI) x.Map.ca,(eL 1 eI) x.d4.ci.bq,(eL 3 CD) x.d4.ci.ca,(eL 4 El) x.d4.ed,eI x.d4.ek,(eL 5 FQ) x.d4.f0]
theorem YY(x:c9):V8 x=AI x:=by
 cases x;rfl
theorem Lr:∀l:List c9,JN l=l.map AI
 |[]=>rfl|x::l=>by rw[JN,YY,Lr l];rfl
theorem Rf(l:List c9):D1 l=.list 9 (l.map AI):=by rw[D1,Lr]
structure ec where
 gi:ByteArray
 eh:d4
 d5:d4
 im:A3
 eE:cE
 ff:Bool
 c9:c9
def CE(x:ec):TV:=.agg [eS x.gi,(eL 1 eI) x.eh.ci.bq,(eL 3 CD) x.eh.ci.ca,(eL 4 El) x.eh.ed,eI x.eh.ek,(eL 5 FQ) x.eh.f0,(eL 1 eI) x.d5.ci.bq,(eL 3 CD) x.d5.ci.ca,(eL 4 El) x.d5.ed,eI x.d5.ek,(eL 5 FQ) x.d5.f0,(eL 1 eI) x.im.bq,(eL 1 eI) x.im.ca,(eL 1 eI) x.eE.bq,(eL 1 eI) x.eE.ca,eB x.ff,eI x.c9.fu,D1 x.c9.ej,(eL 1 eI) x.c9.Map.bq,(eL 1 eI) x.c9.Map.ca,(eL 1 eI) x.c9.d4.ci.bq,(eL 3 CD) x.c9.d4.ci.ca,(eL 4 El) x.c9.d4.ed,eI x.c9.d4.ek,(eL 5 FQ) x.c9.d4.f0]
structure AN where
 cE:cE
 ek:Fp
 deriving DecidableEq
def Bp(x:AN):TV:=.agg [(eL 1 eI) x.cE.bq,(eL 1 eI) x.cE.ca,(eL 1 eI) x.ek]
structure AH where
 ci:ci
 eg:List Fp
 deriving DecidableEq
def Bq(x:AH):TV:=.agg [(eL 1 eI) x.ci.bq,(eL 3 CD) x.ci.ca,(eL 1 (eL 1 eI)) x.eg]
structure Au where
 ec:ec
 gh:AN
 gA:AH
 fq:AH
 ll:cE
 iT:cE
def IX(x:Au):TV:=.agg [eS x.ec.gi,(eL 1 eI) x.ec.eh.ci.bq,(eL 3 CD) x.ec.eh.ci.ca,(eL 4 El) x.ec.eh.ed,eI x.ec.eh.ek,(eL 5 FQ) x.ec.eh.f0,(eL 1 eI) x.ec.d5.ci.bq,(eL 3 CD) x.ec.d5.ci.ca,(eL 4 El) x.ec.d5.ed,eI x.ec.d5.ek,(eL 5 FQ) x.ec.d5.f0,(eL 1 eI) x.ec.im.bq,(eL 1 eI) x.ec.im.ca,(eL 1 eI) x.ec.eE.bq,(eL 1 eI) x.ec.eE.ca,eB x.ec.ff,eI x.ec.c9.fu,D1 x.ec.c9.ej,(eL 1 eI) x.ec.c9.Map.bq,(eL 1 eI) x.ec.c9.Map.ca,(eL 1 eI) x.ec.c9.d4.ci.bq,(eL 3 CD) x.ec.c9.d4.ci.ca,(eL 4 El) x.ec.c9.d4.ed,eI x.ec.c9.d4.ek,(eL 5 FQ) x.ec.c9.d4.f0,(eL 1 eI) x.gh.cE.bq,(eL 1 eI) x.gh.cE.ca,(eL 1 eI) x.gh.ek,(eL 1 eI) x.gA.ci.bq,(eL 3 CD) x.gA.ci.ca,(eL 1 (eL 1 eI)) x.gA.eg,(eL 1 eI) x.fq.ci.bq,(eL 3 CD) x.fq.ci.ca,(eL 1 (eL 1 eI)) x.fq.eg,(eL 1 eI) x.ll.bq,(eL 1 eI) x.ll.ca,(eL 1 eI) x.iT.bq,(eL 1 eI) x.iT.ca]
def Da(x:Au):List AQ:=[⟨T,eS x.ec.gi⟩,⟨T,(eL 1 eI) x.ec.eh.ci.bq⟩,⟨T,(eL 3 CD) x.ec.eh.ci.ca⟩,⟨T,(eL 4 El) x.ec.eh.ed⟩,⟨T,eI x.ec.eh.ek⟩,⟨T,(eL 5 FQ) x.ec.eh.f0⟩,⟨T,(eL 1 eI) x.ec.d5.ci.bq⟩,⟨T,(eL 3 CD) x.ec.d5.ci.ca⟩,⟨T,(eL 4 El) x.ec.d5.ed⟩,⟨T,eI x.ec.d5.ek⟩,⟨T,(eL 5 FQ) x.ec.d5.f0⟩,⟨T,(eL 1 eI) x.ec.im.bq⟩,⟨T,(eL 1 eI) x.ec.im.ca⟩,⟨T,(eL 1 eI) x.ec.eE.bq⟩,⟨T,(eL 1 eI) x.ec.eE.ca⟩,⟨T,eB x.ec.ff⟩,⟨T,eI x.ec.c9.fu⟩,⟨T,D1 x.ec.c9.ej⟩,⟨T,(eL 1 eI) x.ec.c9.Map.bq⟩,⟨T,(eL 1 eI) x.ec.c9.Map.ca⟩,⟨T,(eL 1 eI) x.ec.c9.d4.ci.bq⟩,⟨T,(eL 3 CD) x.ec.c9.d4.ci.ca⟩,⟨T,(eL 4 El) x.ec.c9.d4.ed⟩,⟨T,eI x.ec.c9.d4.ek⟩,⟨T,(eL 5 FQ) x.ec.c9.d4.f0⟩,⟨T,(eL 1 eI) x.gh.cE.bq⟩,⟨T,(eL 1 eI) x.gh.cE.ca⟩,⟨T,(eL 1 eI) x.gh.ek⟩,⟨T,(eL 1 eI) x.gA.ci.bq⟩,⟨T,(eL 3 CD) x.gA.ci.ca⟩,⟨T,(eL 1 (eL 1 eI)) x.gA.eg⟩,⟨true,(eL 1 eI) x.fq.ci.bq⟩,⟨true,(eL 3 CD) x.fq.ci.ca⟩,⟨true,.xn (List.map (eL 1 eI) x.fq.eg)⟩,⟨T,(eL 1 eI) x.ll.bq⟩,⟨T,(eL 1 eI) x.ll.ca⟩,⟨T,(eL 1 eI) x.iT.bq⟩,⟨T,(eL 1 eI) x.iT.ca⟩]
structure gt where
 gi:ByteArray
 Low:Int
 vB:Int
 kg:List ByteArray
 deriving DecidableEq
def IW(x:gt):TV:=.agg [eS x.gi,eI x.Low,eI x.vB,(eL 1 eS) x.kg]
structure Cd where
 gi:ByteArray
 kq:Int
 o3:Bool
 kl:List gt
 deriving DecidableEq
def GT(x:Cd):TV:=.agg [eS x.gi,eI x.kq,eB x.o3,(eL 4 IW) x.kl]
structure DC where
 gi:ByteArray
 fd:Int
 To:Int
 AaI:Int
 Aap:Int
 Aba:Int
 AaJ:Int
 deriving DecidableEq
def HI(x:DC):TV:=.agg [eS x.gi,eI x.fd,eI x.To,eI x.AaI,eI x.Aap,eI x.Aba,eI x.AaJ]
structure AC where
 bq:List Cd
 ca:List DC
 deriving DecidableEq
def AO(x:AC):TV:=.agg [(eL 4 GT) x.bq,(eL 7 HI) x.ca]
structure Am where
 t:AC
 p:ci
 g:ci
 eo:cE
 ei:Bool
 kp:Int
 x6:List cE
 deriving DecidableEq
def UT(x:Am):TV:=.agg [(eL 4 GT) x.t.bq,(eL 7 HI) x.t.ca,(eL 1 eI) x.p.bq,(eL 3 CD) x.p.ca,(eL 1 eI) x.g.bq,(eL 3 CD) x.g.ca,(eL 1 eI) x.eo.bq,(eL 1 eI) x.eo.ca,eB x.ei,eI x.kp,(eL 2 Aw) x.x6]
def Bx(x:Am):List AQ:=[⟨T,(eL 4 GT) x.t.bq⟩,⟨T,(eL 7 HI) x.t.ca⟩,⟨T,(eL 1 eI) x.p.bq⟩,⟨T,(eL 3 CD) x.p.ca⟩,⟨T,(eL 1 eI) x.g.bq⟩,⟨T,(eL 3 CD) x.g.ca⟩,⟨T,(eL 1 eI) x.eo.bq⟩,⟨T,(eL 1 eI) x.eo.ca⟩,⟨T,eB x.ei⟩,⟨T,eI x.kp⟩,⟨true,(eL 2 Aw) x.x6⟩]
structure AM where
 p:ci
 g:ci
 is:List Ne
 eo:cE
 ei:Bool
 kp:Int
 d6:Fp
 d7:Fp
 out:List cE
 deriving DecidableEq
def SZ(x:AM):TV:=.agg [(eL 1 eI) x.p.bq,(eL 3 CD) x.p.ca,(eL 1 eI) x.g.bq,(eL 3 CD) x.g.ca,(eL 1 (eL 1 eB)) x.is,(eL 1 eI) x.eo.bq,(eL 1 eI) x.eo.ca,eB x.ei,eI x.kp,(eL 1 eI) x.d6,(eL 1 eI) x.d7,(eL 2 Aw) x.out]
def C2(x:AM):List AQ:=[⟨T,(eL 1 eI) x.p.bq⟩,⟨T,(eL 3 CD) x.p.ca⟩,⟨T,(eL 1 eI) x.g.bq⟩,⟨T,(eL 3 CD) x.g.ca⟩,⟨T,(eL 1 (eL 1 eB)) x.is⟩,⟨T,(eL 1 eI) x.eo.bq⟩,⟨T,(eL 1 eI) x.eo.ca⟩,⟨T,eB x.ei⟩,⟨T,eI x.kp⟩,⟨true,.xl 1 (List.map eI x.d6)⟩,⟨true,.xl 1 (List.map eI x.d7)⟩,⟨true,(eL 2 Aw) x.out⟩]
structure A5 where
 bq:Fp
 ca:Fp
 deriving DecidableEq
def F1(x:A5):TV:=.agg [(eL 1 eI) x.bq,(eL 1 eI) x.ca]
structure GI where
 fu:Int
 Abu:ByteArray
 Line:Int
 deriving DecidableEq
def XP(x:GI):TV:=.agg [eI x.fu,eS x.Abu,eI x.Line]
structure CC where
 Aak:ci
 d6:Fp
 d7:Fp
 deriving DecidableEq
def LE(x:CC):TV:=.agg [(eL 1 eI) x.Aak.bq,(eL 3 CD) x.Aak.ca,(eL 1 eI) x.d6,(eL 1 eI) x.d7]
structure YN where
 a0:Int
 a1:Int
 deriving DecidableEq
def TJ(x:YN):TV:=.agg [Oa x.a0,Oa x.a1]
structure VW where
 a0:Int
 a1:Int
 a2:Int
 deriving DecidableEq
def RD(x:VW):TV:=.agg [Oa x.a0,Oa x.a1,Oa x.a2]
structure Ee where
 bq:List YN
 ca:List VW
 deriving DecidableEq
def Hh(x:Ee):TV:=.agg [(eL 2 TJ) x.bq,(eL 3 RD) x.ca]
structure GO where
 eh:Ee
 bq:Fp
 ca:List VW
 deriving DecidableEq
def GU(x:GO):TV:=.agg [(eL 2 TJ) x.eh.bq,(eL 3 RD) x.eh.ca,(eL 1 Oa) x.bq,(eL 3 RD) x.ca]
structure Iw where
 A:Int
 B:Int
 deriving DecidableEq
def Rg(x:Iw):TV:=.agg [eI x.A,eI x.B]
structure BC where
 x8:Int
 gh:AN
 ej:List BC
mutual
def fR:BC->TV
 |⟨y0,y1,y2⟩=>.agg [eI y0,(eL 1 eI) y1.cE.bq,(eL 1 eI) y1.cE.ca,(eL 1 eI) y1.ek,.list 5 (Oi y2)]
def Oi:List BC->Fq
 |[]=>[]|c::cs=>fR c::Oi cs
end
def H8(l:List BC):TV:=.list 5 (Oi l)
def Ea(x:BC):TV:=.agg [eI x.x8,(eL 1 eI) x.gh.cE.bq,(eL 1 eI) x.gh.cE.ca,(eL 1 eI) x.gh.ek,H8 x.ej]
theorem iw(x:BC):fR x=Ea x:=by
 cases x;rfl
theorem TK:∀l:List BC,Oi l=l.map Ea
 |[]=>rfl|x::l=>by rw[Oi,iw,TK l];rfl
theorem eP(l:List BC):H8 l=.list 5 (l.map Ea):=by rw[H8,TK]
structure Cu where
 l:ci
 g:ci
 em:A3
 m:cE
 deriving DecidableEq
def IY(x:Cu):TV:=.agg [(eL 1 eI) x.l.bq,(eL 3 CD) x.l.ca,(eL 1 eI) x.g.bq,(eL 3 CD) x.g.ca,(eL 1 eI) x.em.bq,(eL 1 eI) x.em.ca,(eL 1 eI) x.m.bq,(eL 1 eI) x.m.ca]
structure Ba where
 t:AC
 h:AH
 ei:Bool
 deriving DecidableEq
def Ca(x:Ba):TV:=.agg [(eL 4 GT) x.t.bq,(eL 7 HI) x.t.ca,(eL 1 eI) x.h.ci.bq,(eL 3 CD) x.h.ci.ca,(eL 1 (eL 1 eI)) x.h.eg,eB x.ei]
abbrev lI:Fp->TV:=eL 1 eI
abbrev lE:List Bu->TV:=eL 3 CD
abbrev lS:List Cz->TV:=eL 4 El
abbrev lT:List Test->TV:=eL 5 FQ
abbrev lN:List Cd->TV:=eL 4 GT
abbrev lX:List DC->TV:=eL 7 HI
abbrev lA:List gt->TV:=eL 4 IW
abbrev lB:List ByteArray->TV:=eL 1 eS
theorem nt(a b:Bu):B1 (TV.cells (CD a)) (TV.cells (CD b))=some (decide (a=b)):=by
 rcases a with⟨a0,a1,a2⟩;rcases b with⟨b0,b1,b2⟩;simp[CD,TV.cells,B1,eI,Bool.and_assoc,Bu.mk.injEq]
theorem nu(a b:Cz):B1 (TV.cells (El a)) (TV.cells (El b))=some (decide (a=b)):=by
 rcases a with⟨a0,a1,⟨a20,a21⟩⟩;rcases b with⟨b0,b1,⟨b20,b21⟩⟩;simp[El,TV.cells,B1,eI,Bool.and_assoc,Cz.mk.injEq,fb.mk.injEq]
theorem nv(a b:Test):B1 (TV.cells (FQ a)) (TV.cells (FQ b))=some (decide (a=b)):=by
 rcases a with⟨a0,⟨a10,a11⟩,⟨a20,a21⟩⟩;rcases b with⟨b0,⟨b10,b11⟩,⟨b20,b21⟩⟩;simp[FQ,TV.cells,B1,eI,Bool.and_assoc,fb.mk.injEq,Test.mk.injEq]
end Go.Sf.Sc
