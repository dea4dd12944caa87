/- The types of the program as Lean types. -/
import Derived.Test.YtlbmpkmkmkgniaaGreatDoorSfDraw
import Derived.Test.YtlbmpkmkmkgniaaGreatDoorSfStep
import Derived.Test.YtlbmpkmkmkgniaaGreatDoorProg
set_option linter.all false
set_option maxRecDepth 100000
namespace Go.Sf.Sc
open Go Go.Sf Go.Proofs.Tryz
def eI (n:Int):TV:=.int .i64 n
def Tk (n:Int):TV:=.int .u8 n
def Kx (n:Int):TV:=.int .u64 n
def xw (n:Int):TV:=.int .i32 n
def xy (n:Int):TV:=.int .u32 n
def zT (n:Int):TV:=.int .i8 n
def xu (n:Int):TV:=.int .i16 n
def xx (n:Int):TV:=.int .u16 n
def eB (b:Bool):TV:=.bool b
def eS (s:ByteArray):TV:=.str s
def eL {α:Type} (n:Nat) (e:α->TV) (l:List α):TV:=.list n (l.map e)
theorem Tryz_follows:Go.Proofs.Tryz.prog.follows .mixedOrders=true:=by decide +kernel
structure Attr where
 Name:ByteArray
 Low:Int
 High:Int
 Names:List ByteArray
 deriving DecidableEq
def Ii (x:Attr):TV:=.agg [eS x.Name,eI x.Low,eI x.High,(eL 1 eS) x.Names]
structure CW where
 Name:ByteArray
 Parent:Int
 Abstract:Bool
 Attrs:List Attr
 deriving DecidableEq
def F5 (x:CW):TV:=.agg [eS x.Name,eI x.Parent,eB x.Abstract,(eL 4 Ii) x.Attrs]
structure DE where
 Name:ByteArray
 From:Int
 To:Int
 OutLow:Int
 OutHigh:Int
 InLow:Int
 InHigh:Int
 deriving DecidableEq
def G3 (x:DE):TV:=.agg [eS x.Name,eI x.From,eI x.To,eI x.OutLow,eI x.OutHigh,eI x.InLow,eI x.InHigh]
structure AC where
 Nodes:List CW
 Edges:List DE
 deriving DecidableEq
def AV (x:AC):TV:=.agg [(eL 4 F5) x.Nodes,(eL 7 G3) x.Edges]
structure DU where
 Type':Int
 From:Int
 To:Int
 deriving DecidableEq
def EE (x:DU):TV:=.agg [eI x.Type',eI x.From,eI x.To]
structure Graph where
 Nodes:Ne
 Edges:List DU
 deriving DecidableEq
def CZ (x:Graph):TV:=.agg [(eL 1 eI) x.Nodes,(eL 3 EE) x.Edges]
structure Morphism where
 Nodes:Ne
 Edges:Ne
 deriving DecidableEq
def CA (x:Morphism):TV:=.agg [(eL 1 eI) x.Nodes,(eL 1 eI) x.Edges]
structure AW where
 t:AC
 p:Graph
 g:Graph
 partial_:Morphism
 injective:Bool
 most:Int
 found:List Morphism
 deriving DecidableEq
def Q8 (x:AW):TV:=.agg [(eL 4 F5) x.t.Nodes,(eL 7 G3) x.t.Edges,(eL 1 eI) x.p.Nodes,(eL 3 EE) x.p.Edges,(eL 1 eI) x.g.Nodes,(eL 3 EE) x.g.Edges,(eL 1 eI) x.partial_.Nodes,(eL 1 eI) x.partial_.Edges,eB x.injective,eI x.most,(eL 2 CA) x.found]
def CO (x:AW):List A1:=[⟨false,(eL 4 F5) x.t.Nodes⟩,⟨false,(eL 7 G3) x.t.Edges⟩,⟨false,(eL 1 eI) x.p.Nodes⟩,⟨false,(eL 3 EE) x.p.Edges⟩,⟨false,(eL 1 eI) x.g.Nodes⟩,⟨false,(eL 3 EE) x.g.Edges⟩,⟨false,(eL 1 eI) x.partial_.Nodes⟩,⟨false,(eL 1 eI) x.partial_.Edges⟩,⟨false,eB x.injective⟩,⟨false,eI x.most⟩,⟨true,(eL 2 CA) x.found⟩]
structure AN where
 p:Graph
 g:Graph
 is:List d0
 partial_:Morphism
 injective:Bool
 most:Int
 nodes:Ne
 edges:Ne
 out:List Morphism
 deriving DecidableEq
def P4 (x:AN):TV:=.agg [(eL 1 eI) x.p.Nodes,(eL 3 EE) x.p.Edges,(eL 1 eI) x.g.Nodes,(eL 3 EE) x.g.Edges,(eL 1 (eL 1 eB)) x.is,(eL 1 eI) x.partial_.Nodes,(eL 1 eI) x.partial_.Edges,eB x.injective,eI x.most,(eL 1 eI) x.nodes,(eL 1 eI) x.edges,(eL 2 CA) x.out]
def EC (x:AN):List A1:=[⟨false,(eL 1 eI) x.p.Nodes⟩,⟨false,(eL 3 EE) x.p.Edges⟩,⟨false,(eL 1 eI) x.g.Nodes⟩,⟨false,(eL 3 EE) x.g.Edges⟩,⟨false,(eL 1 (eL 1 eB)) x.is⟩,⟨false,(eL 1 eI) x.partial_.Nodes⟩,⟨false,(eL 1 eI) x.partial_.Edges⟩,⟨false,eB x.injective⟩,⟨false,eI x.most⟩,⟨true,.xl 1 (List.map eI x.nodes)⟩,⟨true,.xl 1 (List.map eI x.edges)⟩,⟨true,(eL 2 CA) x.out⟩]
structure GM where
 Kind:Int
 Text:ByteArray
 Line:Int
 deriving DecidableEq
def Tj (x:GM):TV:=.agg [eI x.Kind,eS x.Text,eI x.Line]
structure AU where
 Graph:Graph
 Values:List Ne
 deriving DecidableEq
def ET (x:AU):TV:=.agg [(eL 1 eI) x.Graph.Nodes,(eL 3 EE) x.Graph.Edges,(eL 1 (eL 1 eI)) x.Values]
structure Term where
 Var:Int
 Add:Int
 deriving DecidableEq
def OW (x:Term):TV:=.agg [eI x.Var,eI x.Add]
structure EJ where
 Node:Int
 Attr:Int
 Term:Term
 deriving DecidableEq
def ME (x:EJ):TV:=.agg [eI x.Node,eI x.Attr,eI x.Term.Var,eI x.Term.Add]
structure Test where
 Kind:Int
 Left:Term
 Right:Term
 deriving DecidableEq
def MF (x:Test):TV:=.agg [eI x.Kind,eI x.Left.Var,eI x.Left.Add,eI x.Right.Var,eI x.Right.Add]
structure Pattern where
 Graph:Graph
 Slots:List EJ
 Vars:Int
 Tests:List Test
 deriving DecidableEq
def BQ (x:Pattern):TV:=.agg [(eL 1 eI) x.Graph.Nodes,(eL 3 EE) x.Graph.Edges,(eL 4 ME) x.Slots,eI x.Vars,(eL 5 MF) x.Tests]
structure AA where
 Kind:Int
 Kids:List AA
 Map:Morphism
 Pattern:Pattern
mutual
def SP:AA->TV
 | ⟨y0,y1,y2,y3⟩=>.agg [eI y0,.list 9 (J2 y1),(eL 1 eI) y2.Nodes,(eL 1 eI) y2.Edges,(eL 1 eI) y3.Graph.Nodes,(eL 3 EE) y3.Graph.Edges,(eL 4 ME) y3.Slots,eI y3.Vars,(eL 5 MF) y3.Tests]
def J2:List AA->QQ
 | []=>[]
 | c::cs=>SP c::J2 cs
end
def H2 (l:List AA):TV:=.list 9 (J2 l)
def AE (x:AA):TV:=.agg [eI x.Kind,H2 x.Kids,(eL 1 eI) x.Map.Nodes,(eL 1 eI) x.Map.Edges,(eL 1 eI) x.Pattern.Graph.Nodes,(eL 3 EE) x.Pattern.Graph.Edges,(eL 4 ME) x.Pattern.Slots,eI x.Pattern.Vars,(eL 5 MF) x.Pattern.Tests]
theorem Ud (x:AA):SP x=AE x:=by
 cases x; rfl
theorem NZ:∀ l:List AA,J2 l=l.map AE
 | []=>rfl
 | x::l=>by rw [J2,Ud,NZ l]; rfl
theorem Kz (l:List AA):H2 l=.list 9 (l.map AE):=by rw [H2,NZ]
structure AF where
 Morphism:Morphism
 Vars:Ne
 deriving DecidableEq
def AO (x:AF):TV:=.agg [(eL 1 eI) x.Morphism.Nodes,(eL 1 eI) x.Morphism.Edges,(eL 1 eI) x.Vars]
structure A8 where
 t:AC
 h:AU
 injective:Bool
 deriving DecidableEq
def DL (x:A8):TV:=.agg [(eL 4 F5) x.t.Nodes,(eL 7 G3) x.t.Edges,(eL 1 eI) x.h.Graph.Nodes,(eL 3 EE) x.h.Graph.Edges,(eL 1 (eL 1 eI)) x.h.Values,eB x.injective]
structure A2 where
 Choice:Int
 Match:AF
 Kids:List A2
mutual
def YC:A2->TV
 | ⟨y0,y1,y2⟩=>.agg [eI y0,(eL 1 eI) y1.Morphism.Nodes,(eL 1 eI) y1.Morphism.Edges,(eL 1 eI) y1.Vars,.list 5 (Na y2)]
def Na:List A2->QQ
 | []=>[]
 | c::cs=>YC c::Na cs
end
def JJ (l:List A2):TV:=.list 5 (Na l)
def GE (x:A2):TV:=.agg [eI x.Choice,(eL 1 eI) x.Match.Morphism.Nodes,(eL 1 eI) x.Match.Morphism.Edges,(eL 1 eI) x.Match.Vars,JJ x.Kids]
theorem Y7 (x:A2):YC x=GE x:=by
 cases x; rfl
theorem QT:∀ l:List A2,Na l=l.map GE
 | []=>rfl
 | x::l=>by rw [Na,Y7,QT l]; rfl
theorem Xk (l:List A2):JJ l=.list 5 (l.map GE):=by rw [JJ,QT]
structure AG where
 t:AC
 h:AU
 injective:Bool
 deriving DecidableEq
def AK (x:AG):TV:=.agg [(eL 4 F5) x.t.Nodes,(eL 7 G3) x.t.Edges,(eL 1 eI) x.h.Graph.Nodes,(eL 3 EE) x.h.Graph.Edges,(eL 1 (eL 1 eI)) x.h.Values,eB x.injective]
structure AH where
 Path:Ne
 Kind:Int
 Nodes:Ne
 deriving DecidableEq
def AR (x:AH):TV:=.agg [(eL 1 eI) x.Path,eI x.Kind,(eL 1 eI) x.Nodes]
structure H6 where
 P:Pattern
 C:AA
def H3 (x:H6):TV:=.agg [(eL 1 eI) x.P.Graph.Nodes,(eL 3 EE) x.P.Graph.Edges,(eL 4 ME) x.P.Slots,eI x.P.Vars,(eL 5 MF) x.P.Tests,eI x.C.Kind,H2 x.C.Kids,(eL 1 eI) x.C.Map.Nodes,(eL 1 eI) x.C.Map.Edges,(eL 1 eI) x.C.Pattern.Graph.Nodes,(eL 3 EE) x.C.Pattern.Graph.Edges,(eL 4 ME) x.C.Pattern.Slots,eI x.C.Pattern.Vars,(eL 5 MF) x.C.Pattern.Tests]
structure MP where
 H:AU
 M:AF
 Injective:Bool
 deriving DecidableEq
def RR (x:MP):TV:=.agg [(eL 1 eI) x.H.Graph.Nodes,(eL 3 EE) x.H.Graph.Edges,(eL 1 (eL 1 eI)) x.H.Values,(eL 1 eI) x.M.Morphism.Nodes,(eL 1 eI) x.M.Morphism.Edges,(eL 1 eI) x.M.Vars,eB x.Injective]
structure CL where
 T:AC
 H:AU
 M:AF
 Injective:Bool
 deriving DecidableEq
def EO (x:CL):TV:=.agg [(eL 4 F5) x.T.Nodes,(eL 7 G3) x.T.Edges,(eL 1 eI) x.H.Graph.Nodes,(eL 3 EE) x.H.Graph.Edges,(eL 1 (eL 1 eI)) x.H.Values,(eL 1 eI) x.M.Morphism.Nodes,(eL 1 eI) x.M.Morphism.Edges,(eL 1 eI) x.M.Vars,eB x.Injective]
structure Nq where
 At:MP
 Reasons:List AH
 deriving DecidableEq
def K9 (x:Nq):TV:=.agg [(eL 1 eI) x.At.H.Graph.Nodes,(eL 3 EE) x.At.H.Graph.Edges,(eL 1 (eL 1 eI)) x.At.H.Values,(eL 1 eI) x.At.M.Morphism.Nodes,(eL 1 eI) x.At.M.Morphism.Edges,(eL 1 eI) x.At.M.Vars,eB x.At.Injective,(eL 3 AR) x.Reasons]
abbrev lI:Ne->TV:=eL 1 eI
abbrev lE:List DU->TV:=eL 3 EE
abbrev lS:List EJ->TV:=eL 4 ME
abbrev lT:List Test->TV:=eL 5 MF
abbrev lN:List CW->TV:=eL 4 F5
abbrev lX:List DE->TV:=eL 7 G3
abbrev lA:List Attr->TV:=eL 4 Ii
abbrev lB:List ByteArray->TV:=eL 1 eS
theorem cM (a b:DU):CX (TV.cells (EE a)) (TV.cells (EE b))=some (decide (a=b)):=by
 rcases a with ⟨a0,a1,a2⟩; rcases b with ⟨b0,b1,b2⟩; simp [EE,TV.cells,CX,eI,Bool.and_assoc,DU.mk.injEq]
end Go.Sf.Sc
