/- The types of the program as Lean types. -/
import Derived.Test.YtmbomnkcdolalaaGreatSfK
import Derived.Test.YtmbomnkcdolalaaGreatSfStep
import Derived.Test.YtmbomnkcdolalaaGreatProg
set_option linter.all false
set_option maxRecDepth 100000
namespace Go.Sf.Sc
open Go Go.Sf Go.Proofs.Tryz
def eI(n:Int):TV:=.int .i64 n
def Tx(n:Int):TV:=.int .u8 n
def JV(n:Int):TV:=.int .u64 n
def yn(n:Int):TV:=.int .i32 n
def yp(n:Int):TV:=.int .u32 n
def eI8(n:Int):TV:=.int .i8 n
def ym(n:Int):TV:=.int .i16 n
def yo(n:Int):TV:=.int .u16 n
def eB(b:Bool):TV:=.bool b
def eS(s:ByteArray):TV:=.str s
def eL{α:Type}(n:Nat)(e:α->TV)(l:List α):TV:=.list n (l.map e)
theorem Tryz_follows:Go.Proofs.Tryz.prog.follows .mixedOrders=true:=by decide +kernel
structure Bf where
 ne:Int
 ns:Int
 To:Int
 deriving DecidableEq
def Bq(x:Bf):TV:=.agg [eI x.ne,eI x.ns,eI x.To]
structure d4 where
 ci:Fp
 d3:List Bf
 deriving DecidableEq
def Aq(x:d4):TV:=.agg [(eL 1 eI) x.ci,(eL 3 Bq) x.d3]
structure j0 where
 Var:Int
 Add:Int
 deriving DecidableEq
def N9(x:j0):TV:=.agg [eI x.Var,eI x.Add]
structure CT where
 tl:Int
 kp:Int
 j0:j0
 deriving DecidableEq
def FM(x:CT):TV:=.agg [eI x.tl,eI x.kp,eI x.j0.Var,eI x.j0.Add]
structure Test where
 mo:Int
 kl:j0
 em:j0
 deriving DecidableEq
def GF(x:Test):TV:=.agg [eI x.mo,eI x.kl.Var,eI x.kl.Add,eI x.em.Var,eI x.em.Add]
structure ea where
 d4:d4
 ff:List CT
 gt:Int
 sr:List Test
 deriving DecidableEq
def BC(x:ea):TV:=.agg [(eL 1 eI) x.d4.ci,(eL 3 Bq) x.d4.d3,(eL 4 FM) x.ff,eI x.gt,(eL 5 GF) x.sr]
structure BA where
 ci:Fp
 d3:Fp
 deriving DecidableEq
def GE(x:BA):TV:=.agg [(eL 1 eI) x.ci,(eL 1 eI) x.d3]
structure d5 where
 ci:Fp
 d3:Fp
 deriving DecidableEq
def An(x:d5):TV:=.agg [(eL 1 eI) x.ci,(eL 1 eI) x.d3]
structure d6 where
 mo:Int
 gn:List d6
 Map:d5
 ea:ea
mutual
def Sp:d6->TV
 |⟨y0,y1,y2,y3⟩=>.agg [eI y0,.list 9 (IG y1),(eL 1 eI) y2.ci,(eL 1 eI) y2.d3,(eL 1 eI) y3.d4.ci,(eL 3 Bq) y3.d4.d3,(eL 4 FM) y3.ff,eI y3.gt,(eL 5 GF) y3.sr]
def IG:List d6->Fq
 |[]=>[]|c::cs=>Sp c::IG cs
end
def D7(l:List d6):TV:=.list 9 (IG l)
def AJ(x:d6):TV:=.agg [eI x.mo,D7 x.gn,(eL 1 eI) x.Map.ci,(eL 1 eI) x.Map.d3,(eL 1 eI) x.ea.d4.ci,(eL 3 Bq) x.ea.d4.d3,(eL 4 FM) x.ea.ff,eI x.ea.gt,(eL 5 GF) x.ea.sr]
theorem Uq(x:d6):Sp x=AJ x:=by
 cases x;rfl
theorem Mh:∀l:List d6,IG l=l.map AJ
 |[]=>rfl|x::l=>by rw[IG,Uq,Mh l];rfl
theorem Lv(l:List d6):D7 l=.list 9 (l.map AJ):=by rw[D7,Mh]
structure gp where
 pq:ByteArray
 kl:ea
 em:ea
 x3:BA
 tc:d5
 sc:Bool
 d6:d6
def Bs(x:gp):TV:=.agg [eS x.pq,(eL 1 eI) x.kl.d4.ci,(eL 3 Bq) x.kl.d4.d3,(eL 4 FM) x.kl.ff,eI x.kl.gt,(eL 5 GF) x.kl.sr,(eL 1 eI) x.em.d4.ci,(eL 3 Bq) x.em.d4.d3,(eL 4 FM) x.em.ff,eI x.em.gt,(eL 5 GF) x.em.sr,(eL 1 eI) x.x3.ci,(eL 1 eI) x.x3.d3,(eL 1 eI) x.tc.ci,(eL 1 eI) x.tc.d3,eB x.sc,eI x.d6.mo,D7 x.d6.gn,(eL 1 eI) x.d6.Map.ci,(eL 1 eI) x.d6.Map.d3,(eL 1 eI) x.d6.ea.d4.ci,(eL 3 Bq) x.d6.ea.d4.d3,(eL 4 FM) x.d6.ea.ff,eI x.d6.ea.gt,(eL 5 GF) x.d6.ea.sr]
structure AL where
 d5:d5
 gt:Fp
 deriving DecidableEq
def Be(x:AL):TV:=.agg [(eL 1 eI) x.d5.ci,(eL 1 eI) x.d5.d3,(eL 1 eI) x.gt]
structure AG where
 d4:d4
 fd:List Fp
 deriving DecidableEq
def Bl(x:AG):TV:=.agg [(eL 1 eI) x.d4.ci,(eL 3 Bq) x.d4.d3,(eL 1 (eL 1 eI)) x.fd]
structure Ar where
 gp:gp
 o3:AL
 Aas:AG
 wi:AG
 AaA:d5
 Aal:d5
def Lu(x:Ar):TV:=.agg [eS x.gp.pq,(eL 1 eI) x.gp.kl.d4.ci,(eL 3 Bq) x.gp.kl.d4.d3,(eL 4 FM) x.gp.kl.ff,eI x.gp.kl.gt,(eL 5 GF) x.gp.kl.sr,(eL 1 eI) x.gp.em.d4.ci,(eL 3 Bq) x.gp.em.d4.d3,(eL 4 FM) x.gp.em.ff,eI x.gp.em.gt,(eL 5 GF) x.gp.em.sr,(eL 1 eI) x.gp.x3.ci,(eL 1 eI) x.gp.x3.d3,(eL 1 eI) x.gp.tc.ci,(eL 1 eI) x.gp.tc.d3,eB x.gp.sc,eI x.gp.d6.mo,D7 x.gp.d6.gn,(eL 1 eI) x.gp.d6.Map.ci,(eL 1 eI) x.gp.d6.Map.d3,(eL 1 eI) x.gp.d6.ea.d4.ci,(eL 3 Bq) x.gp.d6.ea.d4.d3,(eL 4 FM) x.gp.d6.ea.ff,eI x.gp.d6.ea.gt,(eL 5 GF) x.gp.d6.ea.sr,(eL 1 eI) x.o3.d5.ci,(eL 1 eI) x.o3.d5.d3,(eL 1 eI) x.o3.gt,(eL 1 eI) x.Aas.d4.ci,(eL 3 Bq) x.Aas.d4.d3,(eL 1 (eL 1 eI)) x.Aas.fd,(eL 1 eI) x.wi.d4.ci,(eL 3 Bq) x.wi.d4.d3,(eL 1 (eL 1 eI)) x.wi.fd,(eL 1 eI) x.AaA.ci,(eL 1 eI) x.AaA.d3,(eL 1 eI) x.Aal.ci,(eL 1 eI) x.Aal.d3]
def DA(x:Ar):List AO:=[⟨false,eS x.gp.pq⟩,⟨false,(eL 1 eI) x.gp.kl.d4.ci⟩,⟨false,(eL 3 Bq) x.gp.kl.d4.d3⟩,⟨false,(eL 4 FM) x.gp.kl.ff⟩,⟨false,eI x.gp.kl.gt⟩,⟨false,(eL 5 GF) x.gp.kl.sr⟩,⟨false,(eL 1 eI) x.gp.em.d4.ci⟩,⟨false,(eL 3 Bq) x.gp.em.d4.d3⟩,⟨false,(eL 4 FM) x.gp.em.ff⟩,⟨false,eI x.gp.em.gt⟩,⟨false,(eL 5 GF) x.gp.em.sr⟩,⟨false,(eL 1 eI) x.gp.x3.ci⟩,⟨false,(eL 1 eI) x.gp.x3.d3⟩,⟨false,(eL 1 eI) x.gp.tc.ci⟩,⟨false,(eL 1 eI) x.gp.tc.d3⟩,⟨false,eB x.gp.sc⟩,⟨false,eI x.gp.d6.mo⟩,⟨false,D7 x.gp.d6.gn⟩,⟨false,(eL 1 eI) x.gp.d6.Map.ci⟩,⟨false,(eL 1 eI) x.gp.d6.Map.d3⟩,⟨false,(eL 1 eI) x.gp.d6.ea.d4.ci⟩,⟨false,(eL 3 Bq) x.gp.d6.ea.d4.d3⟩,⟨false,(eL 4 FM) x.gp.d6.ea.ff⟩,⟨false,eI x.gp.d6.ea.gt⟩,⟨false,(eL 5 GF) x.gp.d6.ea.sr⟩,⟨false,(eL 1 eI) x.o3.d5.ci⟩,⟨false,(eL 1 eI) x.o3.d5.d3⟩,⟨false,(eL 1 eI) x.o3.gt⟩,⟨false,(eL 1 eI) x.Aas.d4.ci⟩,⟨false,(eL 3 Bq) x.Aas.d4.d3⟩,⟨false,(eL 1 (eL 1 eI)) x.Aas.fd⟩,⟨true,(eL 1 eI) x.wi.d4.ci⟩,⟨true,(eL 3 Bq) x.wi.d4.d3⟩,⟨true,.xn (List.map (eL 1 eI) x.wi.fd)⟩,⟨false,(eL 1 eI) x.AaA.ci⟩,⟨false,(eL 1 eI) x.AaA.d3⟩,⟨false,(eL 1 eI) x.Aal.ci⟩,⟨false,(eL 1 eI) x.Aal.d3⟩]
structure kp where
 pq:ByteArray
 Low:Int
 AaD:Int
 t5:List ByteArray
 deriving DecidableEq
def GD(x:kp):TV:=.agg [eS x.pq,eI x.Low,eI x.AaD,(eL 1 eS) x.t5]
structure B0 where
 pq:ByteArray
 Aac:Int
 Aao:Bool
 up:List kp
 deriving DecidableEq
def EZ(x:B0):TV:=.agg [eS x.pq,eI x.Aac,eB x.Aao,(eL 4 GD) x.up]
structure B9 where
 pq:ByteArray
 ns:Int
 To:Int
 Abh:Int
 AaX:Int
 AbA:Int
 Abf:Int
 deriving DecidableEq
def E3(x:B9):TV:=.agg [eS x.pq,eI x.ns,eI x.To,eI x.Abh,eI x.AaX,eI x.AbA,eI x.Abf]
structure AC where
 ci:List B0
 d3:List B9
 deriving DecidableEq
def AN(x:AC):TV:=.agg [(eL 4 EZ) x.ci,(eL 7 E3) x.d3]
structure AZ where
 t:AC
 p:d4
 g:d4
 f0:d5
 ei:Bool
 tn:Int
 Aax:List d5
 deriving DecidableEq
def RF(x:AZ):TV:=.agg [(eL 4 EZ) x.t.ci,(eL 7 E3) x.t.d3,(eL 1 eI) x.p.ci,(eL 3 Bq) x.p.d3,(eL 1 eI) x.g.ci,(eL 3 Bq) x.g.d3,(eL 1 eI) x.f0.ci,(eL 1 eI) x.f0.d3,eB x.ei,eI x.tn,(eL 2 An) x.Aax]
def Bc(x:AZ):List AO:=[⟨false,(eL 4 EZ) x.t.ci⟩,⟨false,(eL 7 E3) x.t.d3⟩,⟨false,(eL 1 eI) x.p.ci⟩,⟨false,(eL 3 Bq) x.p.d3⟩,⟨false,(eL 1 eI) x.g.ci⟩,⟨false,(eL 3 Bq) x.g.d3⟩,⟨false,(eL 1 eI) x.f0.ci⟩,⟨false,(eL 1 eI) x.f0.d3⟩,⟨false,eB x.ei⟩,⟨false,eI x.tn⟩,⟨true,(eL 2 An) x.Aax⟩]
structure AH where
 p:d4
 g:d4
 is:List a5
 f0:d5
 ei:Bool
 tn:Int
 ec:Fp
 ek:Fp
 out:List d5
 deriving DecidableEq
def Pl(x:AH):TV:=.agg [(eL 1 eI) x.p.ci,(eL 3 Bq) x.p.d3,(eL 1 eI) x.g.ci,(eL 3 Bq) x.g.d3,(eL 1 (eL 1 eB)) x.is,(eL 1 eI) x.f0.ci,(eL 1 eI) x.f0.d3,eB x.ei,eI x.tn,(eL 1 eI) x.ec,(eL 1 eI) x.ek,(eL 2 An) x.out]
def Cd(x:AH):List AO:=[⟨false,(eL 1 eI) x.p.ci⟩,⟨false,(eL 3 Bq) x.p.d3⟩,⟨false,(eL 1 eI) x.g.ci⟩,⟨false,(eL 3 Bq) x.g.d3⟩,⟨false,(eL 1 (eL 1 eB)) x.is⟩,⟨false,(eL 1 eI) x.f0.ci⟩,⟨false,(eL 1 eI) x.f0.d3⟩,⟨false,eB x.ei⟩,⟨false,eI x.tn⟩,⟨true,.xl 1 (List.map eI x.ec)⟩,⟨true,.xl 1 (List.map eI x.ek)⟩,⟨true,(eL 2 An) x.out⟩]
structure EH where
 mo:Int
 AbU:ByteArray
 Line:Int
 deriving DecidableEq
def Tw(x:EH):TV:=.agg [eI x.mo,eS x.AbU,eI x.Line]
structure zt where
 gp:Int
 o3:AL
 deriving DecidableEq
def Et(x:zt):TV:=.agg [eI x.gp,(eL 1 eI) x.o3.d5.ci,(eL 1 eI) x.o3.d5.d3,(eL 1 eI) x.o3.gt]
structure AW where
 kg:AG
 kq:List zt
 deriving DecidableEq
def De(x:AW):TV:=.agg [(eL 1 eI) x.kg.d4.ci,(eL 3 Bq) x.kg.d4.d3,(eL 1 (eL 1 eI)) x.kg.fd,(eL 4 Et) x.kq]
structure AU where
 jj:AW
 pr:Fp
 deriving DecidableEq
def B3(x:AU):TV:=.agg [(eL 1 eI) x.jj.kg.d4.ci,(eL 3 Bq) x.jj.kg.d4.d3,(eL 1 (eL 1 eI)) x.jj.kg.fd,(eL 4 Et) x.jj.kq,(eL 1 eI) x.pr]
structure Ba where
 l:d4
 g:d4
 hT:BA
 m:d5
 deriving DecidableEq
def HP(x:Ba):TV:=.agg [(eL 1 eI) x.l.ci,(eL 3 Bq) x.l.d3,(eL 1 eI) x.g.ci,(eL 3 Bq) x.g.d3,(eL 1 eI) x.hT.ci,(eL 1 eI) x.hT.d3,(eL 1 eI) x.m.ci,(eL 1 eI) x.m.d3]
structure F1 where
 A:Int
 B:Int
 deriving DecidableEq
def O5(x:F1):TV:=.agg [eI x.A,eI x.B]
structure Al where
 t:AC
 h:AG
 ei:Bool
 deriving DecidableEq
def CH(x:Al):TV:=.agg [(eL 4 EZ) x.t.ci,(eL 7 E3) x.t.d3,(eL 1 eI) x.h.d4.ci,(eL 3 Bq) x.h.d4.d3,(eL 1 (eL 1 eI)) x.h.fd,eB x.ei]
structure A0 where
 AaB:Int
 o3:AL
 gn:List A0
mutual
def Ys:A0->TV
 |⟨y0,y1,y2⟩=>.agg [eI y0,(eL 1 eI) y1.d5.ci,(eL 1 eI) y1.d5.d3,(eL 1 eI) y1.gt,.list 5 (Mi y2)]
def Mi:List A0->Fq
 |[]=>[]|c::cs=>Ys c::Mi cs
end
def G0(l:List A0):TV:=.list 5 (Mi l)
def D8(x:A0):TV:=.agg [eI x.AaB,(eL 1 eI) x.o3.d5.ci,(eL 1 eI) x.o3.d5.d3,(eL 1 eI) x.o3.gt,G0 x.gn]
theorem Zs(x:A0):Ys x=D8 x:=by
 cases x;rfl
theorem QJ:∀l:List A0,Mi l=l.map D8
 |[]=>rfl|x::l=>by rw[Mi,Zs,QJ l];rfl
theorem YM(l:List A0):G0 l=.list 5 (l.map D8):=by rw[G0,QJ]
structure H8 where
 mo:Int
 zt:zt
 deriving DecidableEq
def Yq(x:H8):TV:=.agg [eI x.mo,eI x.zt.gp,(eL 1 eI) x.zt.o3.d5.ci,(eL 1 eI) x.zt.o3.d5.d3,(eL 1 eI) x.zt.o3.gt]
structure GH where
 T:AC
 Abz:List gp
 S:AU
def GO(x:GH):TV:=.agg [(eL 4 EZ) x.T.ci,(eL 7 E3) x.T.d3,(eL 25 Bs) x.Abz,(eL 1 eI) x.S.jj.kg.d4.ci,(eL 3 Bq) x.S.jj.kg.d4.d3,(eL 1 (eL 1 eI)) x.S.jj.kg.fd,(eL 4 Et) x.S.jj.kq,(eL 1 eI) x.S.pr]
abbrev lI:Fp->TV:=eL 1 eI
abbrev lE:List Bf->TV:=eL 3 Bq
abbrev lS:List CT->TV:=eL 4 FM
abbrev lT:List Test->TV:=eL 5 GF
abbrev lN:List B0->TV:=eL 4 EZ
abbrev lX:List B9->TV:=eL 7 E3
abbrev lA:List kp->TV:=eL 4 GD
abbrev lB:List ByteArray->TV:=eL 1 eS
theorem d9(a b:Bf):Bz (TV.cells (Bq a)) (TV.cells (Bq b))=some (decide (a=b)):=by
 rcases a with⟨a0,a1,a2⟩;rcases b with⟨b0,b1,b2⟩;simp[Bq,TV.cells,Bz,eI,Bool.and_assoc,Bf.mk.injEq]
end Go.Sf.Sc
