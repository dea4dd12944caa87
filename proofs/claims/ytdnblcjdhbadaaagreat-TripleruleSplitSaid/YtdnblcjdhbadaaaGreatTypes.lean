/- The types of the program as Lean types. -/
import Derived.Test.YtdnblcjdhbadaaaGreatSfK
import Derived.Test.YtdnblcjdhbadaaaGreatSfStep
import Derived.Test.YtdnblcjdhbadaaaGreatProg
set_option linter.all false
set_option maxRecDepth 100000
namespace Go.Sf.Sc
open Go Go.Sf Go.Proofs.Tryz
def eI(n:Int):TV:=.int .i64 n
def U9(n:Int):TV:=.int .u8 n
def Jh(n:Int):TV:=.int .u64 n
def ABQ(n:Int):TV:=.int .i32 n
def ABS(n:Int):TV:=.int .u32 n
def eI8(n:Int):TV:=.int .i8 n
def ABP(n:Int):TV:=.int .i16 n
def ABR(n:Int):TV:=.int .u16 n
def eB(b:Bool):TV:=.bool b
def eS(s:ByteArray):TV:=.str s
def eL{α:Type}(n:Nat)(e:α->TV)(l:List α):TV:=.list n (l.map e)
theorem Tryz_follows:Go.Proofs.Tryz.prog.follows .mixedOrders=true:=by decide +kernel
structure BY where
 kg:Int
 kq:Int
 To:Int
 deriving DecidableEq
def B1(x:BY):TV:=.agg [eI x.kg,eI x.kq,eI x.To]
structure d6 where
 d4:Fp
 d5:List BY
 deriving DecidableEq
def Am(x:d6):TV:=.agg [(eL 1 eI) x.d4,(eL 3 B1) x.d5]
structure j4 where
 Var:Int
 Add:Int
 deriving DecidableEq
def Om(x:j4):TV:=.agg [eI x.Var,eI x.Add]
structure CI where
 sx:Int
 mo:Int
 j4:j4
 deriving DecidableEq
def D4(x:CI):TV:=.agg [eI x.sx,eI x.mo,eI x.j4.Var,eI x.j4.Add]
structure Test where
 l3:Int
 f0:j4
 ek:j4
 deriving DecidableEq
def Ee(x:Test):TV:=.agg [eI x.l3,eI x.f0.Var,eI x.f0.Add,eI x.ek.Var,eI x.ek.Add]
structure ec where
 d6:d6
 ff:List CI
 gn:Int
 l4:List Test
 deriving DecidableEq
def BG(x:ec):TV:=.agg [(eL 1 eI) x.d6.d4,(eL 3 B1) x.d6.d5,(eL 4 D4) x.ff,eI x.gn,(eL 5 Ee) x.l4]
structure Ak where
 d4:Fp
 d5:Fp
 deriving DecidableEq
def Da(x:Ak):TV:=.agg [(eL 1 eI) x.d4,(eL 1 eI) x.d5]
structure d7 where
 d4:Fp
 d5:Fp
 deriving DecidableEq
def As(x:d7):TV:=.agg [(eL 1 eI) x.d4,(eL 1 eI) x.d5]
structure ea where
 l3:Int
 gp:List ea
 Map:d7
 ec:ec
mutual
def UD:ea->TV
 |⟨y0,y1,y2,y3⟩=>.agg [eI y0,.list 9 (II y1),(eL 1 eI) y2.d4,(eL 1 eI) y2.d5,(eL 1 eI) y3.d6.d4,(eL 3 B1) y3.d6.d5,(eL 4 D4) y3.ff,eI y3.gn,(eL 5 Ee) y3.l4]
def II:List ea->Fq
 |[]=>[]|c::cs=>UD c::II cs
end
def DD(l:List ea):TV:=.list 9 (II l)
def AH(x:ea):TV:=.agg [eI x.l3,DD x.gp,(eL 1 eI) x.Map.d4,(eL 1 eI) x.Map.d5,(eL 1 eI) x.ec.d6.d4,(eL 3 B1) x.ec.d6.d5,(eL 4 D4) x.ec.ff,eI x.ec.gn,(eL 5 Ee) x.ec.l4]
theorem V4(x:ea):UD x=AH x:=by
 cases x;rfl
theorem NJ:∀l:List ea,II l=l.map AH
 |[]=>rfl|x::l=>by rw[II,V4,NJ l];rfl
theorem MS(l:List ea):DD l=.list 9 (l.map AH):=by rw[DD,NJ]
structure em where
 og:ByteArray
 f0:ec
 ek:ec
 sr:Ak
 kl:d7
 le:Bool
 ea:ea
def Bq(x:em):TV:=.agg [eS x.og,(eL 1 eI) x.f0.d6.d4,(eL 3 B1) x.f0.d6.d5,(eL 4 D4) x.f0.ff,eI x.f0.gn,(eL 5 Ee) x.f0.l4,(eL 1 eI) x.ek.d6.d4,(eL 3 B1) x.ek.d6.d5,(eL 4 D4) x.ek.ff,eI x.ek.gn,(eL 5 Ee) x.ek.l4,(eL 1 eI) x.sr.d4,(eL 1 eI) x.sr.d5,(eL 1 eI) x.kl.d4,(eL 1 eI) x.kl.d5,eB x.le,eI x.ea.l3,DD x.ea.gp,(eL 1 eI) x.ea.Map.d4,(eL 1 eI) x.ea.Map.d5,(eL 1 eI) x.ea.ec.d6.d4,(eL 3 B1) x.ea.ec.d6.d5,(eL 4 D4) x.ea.ec.ff,eI x.ea.ec.gn,(eL 5 Ee) x.ea.ec.l4]
structure AJ where
 d7:d7
 gn:Fp
 deriving DecidableEq
def Bg(x:AJ):TV:=.agg [(eL 1 eI) x.d7.d4,(eL 1 eI) x.d7.d5,(eL 1 eI) x.gn]
structure AG where
 d6:d6
 hT:List Fp
 deriving DecidableEq
def CD(x:AG):TV:=.agg [(eL 1 eI) x.d6.d4,(eL 3 B1) x.d6.d5,(eL 1 (eL 1 eI)) x.hT]
structure Ai where
 em:em
 kp:AJ
 o3:AG
 q0:AG
 tc:d7
 pq:d7
def C1(x:Ai):TV:=.agg [eS x.em.og,(eL 1 eI) x.em.f0.d6.d4,(eL 3 B1) x.em.f0.d6.d5,(eL 4 D4) x.em.f0.ff,eI x.em.f0.gn,(eL 5 Ee) x.em.f0.l4,(eL 1 eI) x.em.ek.d6.d4,(eL 3 B1) x.em.ek.d6.d5,(eL 4 D4) x.em.ek.ff,eI x.em.ek.gn,(eL 5 Ee) x.em.ek.l4,(eL 1 eI) x.em.sr.d4,(eL 1 eI) x.em.sr.d5,(eL 1 eI) x.em.kl.d4,(eL 1 eI) x.em.kl.d5,eB x.em.le,eI x.em.ea.l3,DD x.em.ea.gp,(eL 1 eI) x.em.ea.Map.d4,(eL 1 eI) x.em.ea.Map.d5,(eL 1 eI) x.em.ea.ec.d6.d4,(eL 3 B1) x.em.ea.ec.d6.d5,(eL 4 D4) x.em.ea.ec.ff,eI x.em.ea.ec.gn,(eL 5 Ee) x.em.ea.ec.l4,(eL 1 eI) x.kp.d7.d4,(eL 1 eI) x.kp.d7.d5,(eL 1 eI) x.kp.gn,(eL 1 eI) x.o3.d6.d4,(eL 3 B1) x.o3.d6.d5,(eL 1 (eL 1 eI)) x.o3.hT,(eL 1 eI) x.q0.d6.d4,(eL 3 B1) x.q0.d6.d5,(eL 1 (eL 1 eI)) x.q0.hT,(eL 1 eI) x.tc.d4,(eL 1 eI) x.tc.d5,(eL 1 eI) x.pq.d4,(eL 1 eI) x.pq.d5]
def DC(x:Ai):List AP:=[⟨false,eS x.em.og⟩,⟨false,(eL 1 eI) x.em.f0.d6.d4⟩,⟨false,(eL 3 B1) x.em.f0.d6.d5⟩,⟨false,(eL 4 D4) x.em.f0.ff⟩,⟨false,eI x.em.f0.gn⟩,⟨false,(eL 5 Ee) x.em.f0.l4⟩,⟨false,(eL 1 eI) x.em.ek.d6.d4⟩,⟨false,(eL 3 B1) x.em.ek.d6.d5⟩,⟨false,(eL 4 D4) x.em.ek.ff⟩,⟨false,eI x.em.ek.gn⟩,⟨false,(eL 5 Ee) x.em.ek.l4⟩,⟨false,(eL 1 eI) x.em.sr.d4⟩,⟨false,(eL 1 eI) x.em.sr.d5⟩,⟨false,(eL 1 eI) x.em.kl.d4⟩,⟨false,(eL 1 eI) x.em.kl.d5⟩,⟨false,eB x.em.le⟩,⟨false,eI x.em.ea.l3⟩,⟨false,DD x.em.ea.gp⟩,⟨false,(eL 1 eI) x.em.ea.Map.d4⟩,⟨false,(eL 1 eI) x.em.ea.Map.d5⟩,⟨false,(eL 1 eI) x.em.ea.ec.d6.d4⟩,⟨false,(eL 3 B1) x.em.ea.ec.d6.d5⟩,⟨false,(eL 4 D4) x.em.ea.ec.ff⟩,⟨false,eI x.em.ea.ec.gn⟩,⟨false,(eL 5 Ee) x.em.ea.ec.l4⟩,⟨false,(eL 1 eI) x.kp.d7.d4⟩,⟨false,(eL 1 eI) x.kp.d7.d5⟩,⟨false,(eL 1 eI) x.kp.gn⟩,⟨false,(eL 1 eI) x.o3.d6.d4⟩,⟨false,(eL 3 B1) x.o3.d6.d5⟩,⟨false,(eL 1 (eL 1 eI)) x.o3.hT⟩,⟨true,(eL 1 eI) x.q0.d6.d4⟩,⟨true,(eL 3 B1) x.q0.d6.d5⟩,⟨true,.xn (List.map (eL 1 eI) x.q0.hT)⟩,⟨false,(eL 1 eI) x.tc.d4⟩,⟨false,(eL 1 eI) x.tc.d5⟩,⟨false,(eL 1 eI) x.pq.d4⟩,⟨false,(eL 1 eI) x.pq.d5⟩]
structure mo where
 og:ByteArray
 Low:Int
 Aao:Int
 tg:List ByteArray
 deriving DecidableEq
def GB(x:mo):TV:=.agg [eS x.og,eI x.Low,eI x.Aao,(eL 1 eS) x.tg]
structure B6 where
 og:ByteArray
 r0:Int
 Aae:Bool
 tl:List mo
 deriving DecidableEq
def Dp(x:B6):TV:=.agg [eS x.og,eI x.r0,eB x.Aae,(eL 4 GB) x.tl]
structure CY where
 og:ByteArray
 kq:Int
 To:Int
 Aa5:Int
 AaP:Int
 Abp:Int
 Aa4:Int
 deriving DecidableEq
def EG(x:CY):TV:=.agg [eS x.og,eI x.kq,eI x.To,eI x.Aa5,eI x.AaP,eI x.Abp,eI x.Aa4]
structure AC where
 d4:List B6
 d5:List CY
 deriving DecidableEq
def AO(x:AC):TV:=.agg [(eL 4 Dp) x.d4,(eL 7 EG) x.d5]
structure Ah where
 t:AC
 p:d6
 g:d6
 jj:d7
 gt:Bool
 t1:Int
 Aap:List d7
 deriving DecidableEq
def R4(x:Ah):TV:=.agg [(eL 4 Dp) x.t.d4,(eL 7 EG) x.t.d5,(eL 1 eI) x.p.d4,(eL 3 B1) x.p.d5,(eL 1 eI) x.g.d4,(eL 3 B1) x.g.d5,(eL 1 eI) x.jj.d4,(eL 1 eI) x.jj.d5,eB x.gt,eI x.t1,(eL 2 As) x.Aap]
def Bf(x:Ah):List AP:=[⟨false,(eL 4 Dp) x.t.d4⟩,⟨false,(eL 7 EG) x.t.d5⟩,⟨false,(eL 1 eI) x.p.d4⟩,⟨false,(eL 3 B1) x.p.d5⟩,⟨false,(eL 1 eI) x.g.d4⟩,⟨false,(eL 3 B1) x.g.d5⟩,⟨false,(eL 1 eI) x.jj.d4⟩,⟨false,(eL 1 eI) x.jj.d5⟩,⟨false,eB x.gt⟩,⟨false,eI x.t1⟩,⟨true,(eL 2 As) x.Aap⟩]
structure AL where
 p:d6
 g:d6
 is:List a5
 jj:d7
 gt:Bool
 t1:Int
 ej:Fp
 fd:Fp
 out:List d7
 deriving DecidableEq
def Qj(x:AL):TV:=.agg [(eL 1 eI) x.p.d4,(eL 3 B1) x.p.d5,(eL 1 eI) x.g.d4,(eL 3 B1) x.g.d5,(eL 1 (eL 1 eB)) x.is,(eL 1 eI) x.jj.d4,(eL 1 eI) x.jj.d5,eB x.gt,eI x.t1,(eL 1 eI) x.ej,(eL 1 eI) x.fd,(eL 2 As) x.out]
def Cg(x:AL):List AP:=[⟨false,(eL 1 eI) x.p.d4⟩,⟨false,(eL 3 B1) x.p.d5⟩,⟨false,(eL 1 eI) x.g.d4⟩,⟨false,(eL 3 B1) x.g.d5⟩,⟨false,(eL 1 (eL 1 eB)) x.is⟩,⟨false,(eL 1 eI) x.jj.d4⟩,⟨false,(eL 1 eI) x.jj.d5⟩,⟨false,eB x.gt⟩,⟨false,eI x.t1⟩,⟨true,.xl 1 (List.map eI x.ej)⟩,⟨true,.xl 1 (List.map eI x.fd)⟩,⟨true,(eL 2 As) x.out⟩]
structure Ao where
 d4:Fp
 d5:Fp
 deriving DecidableEq
def C2(x:Ao):TV:=.agg [(eL 1 eI) x.d4,(eL 1 eI) x.d5]
structure EO where
 l3:Int
 AbI:ByteArray
 Line:Int
 deriving DecidableEq
def U8(x:EO):TV:=.agg [eI x.l3,eS x.AbI,eI x.Line]
structure Bz where
 AaH:d6
 ej:Fp
 fd:Fp
 deriving DecidableEq
def J1(x:Bz):TV:=.agg [(eL 1 eI) x.AaH.d4,(eL 3 B1) x.AaH.d5,(eL 1 eI) x.ej,(eL 1 eI) x.fd]
structure Bm where
 l:d6
 g:d6
 hV:Ak
 m:d7
 deriving DecidableEq
def HP(x:Bm):TV:=.agg [(eL 1 eI) x.l.d4,(eL 3 B1) x.l.d5,(eL 1 eI) x.g.d4,(eL 3 B1) x.g.d5,(eL 1 eI) x.hV.d4,(eL 1 eI) x.hV.d5,(eL 1 eI) x.m.d4,(eL 1 eI) x.m.d5]
structure Fk where
 A:Int
 B:Int
 deriving DecidableEq
def P2(x:Fk):TV:=.agg [eI x.A,eI x.B]
structure A3 where
 t:AC
 h:AG
 gt:Bool
 deriving DecidableEq
def CG(x:A3):TV:=.agg [(eL 4 Dp) x.t.d4,(eL 7 EG) x.t.d5,(eL 1 eI) x.h.d6.d4,(eL 3 B1) x.h.d6.d5,(eL 1 (eL 1 eI)) x.h.hT,eB x.gt]
structure A0 where
 Aar:Int
 kp:AJ
 gp:List A0
mutual
def aZ:A0->TV
 |⟨y0,y1,y2⟩=>.agg [eI y0,(eL 1 eI) y1.d7.d4,(eL 1 eI) y1.d7.d5,(eL 1 eI) y1.gn,.list 5 (NM y2)]
def NM:List A0->Fq
 |[]=>[]|c::cs=>aZ c::NM cs
end
def Gz(l:List A0):TV:=.list 5 (NM l)
def Du(x:A0):TV:=.agg [eI x.Aar,(eL 1 eI) x.kp.d7.d4,(eL 1 eI) x.kp.d7.d5,(eL 1 eI) x.kp.gn,Gz x.gp]
theorem cO(x:A0):aZ x=Du x:=by
 cases x;rfl
theorem RG:∀l:List A0,NM l=l.map Du
 |[]=>rfl|x::l=>by rw[NM,cO,RG l];rfl
theorem Z1(l:List A0):Gz l=.list 5 (l.map Du):=by rw[Gz,RG]
structure Ou where
 T:AC
 S:Ao
 deriving DecidableEq
def Kz(x:Ou):TV:=.agg [(eL 4 Dp) x.T.d4,(eL 7 EG) x.T.d5,(eL 1 eI) x.S.d4,(eL 1 eI) x.S.d5]
abbrev lI:Fp->TV:=eL 1 eI
abbrev lE:List BY->TV:=eL 3 B1
abbrev lS:List CI->TV:=eL 4 D4
abbrev lT:List Test->TV:=eL 5 Ee
abbrev lN:List B6->TV:=eL 4 Dp
abbrev lX:List CY->TV:=eL 7 EG
abbrev lA:List mo->TV:=eL 4 GB
abbrev lB:List ByteArray->TV:=eL 1 eS
theorem iE(a b:BY):Bj (TV.cells (B1 a)) (TV.cells (B1 b))=some (decide (a=b)):=by
 rcases a with⟨a0,a1,a2⟩;rcases b with⟨b0,b1,b2⟩;simp[B1,TV.cells,Bj,eI,Bool.and_assoc,BY.mk.injEq]
theorem iF(a b:CI):Bj (TV.cells (D4 a)) (TV.cells (D4 b))=some (decide (a=b)):=by
 rcases a with⟨a0,a1,⟨a20,a21⟩⟩;rcases b with⟨b0,b1,⟨b20,b21⟩⟩;simp[D4,TV.cells,Bj,eI,Bool.and_assoc,CI.mk.injEq,j4.mk.injEq]
theorem iG(a b:Test):Bj (TV.cells (Ee a)) (TV.cells (Ee b))=some (decide (a=b)):=by
 rcases a with⟨a0,⟨a10,a11⟩,⟨a20,a21⟩⟩;rcases b with⟨b0,⟨b10,b11⟩,⟨b20,b21⟩⟩;simp[Ee,TV.cells,Bj,eI,Bool.and_assoc,j4.mk.injEq,Test.mk.injEq]
end Go.Sf.Sc
