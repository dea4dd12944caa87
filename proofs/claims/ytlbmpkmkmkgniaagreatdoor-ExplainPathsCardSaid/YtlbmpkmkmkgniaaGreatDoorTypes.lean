/- The types of the program as Lean types. -/
import Derived.Test.YtlbmpkmkmkgniaaGreatDoorSfDraw
import Derived.Test.YtlbmpkmkmkgniaaGreatDoorSfStep
import Derived.Test.YtlbmpkmkmkgniaaGreatDoorProg
set_option maxRecDepth 100000
namespace Go.Sf.Sc
open Go Go.Sf Go.Proofs.Tryz
def eI (n:Int):TV:=.int .i64 n
def RW (n:Int):TV:=.int .u8 n
def Jl (n:Int):TV:=.int .u64 n
def s9 (n:Int):TV:=.int .i32 n
def tB (n:Int):TV:=.int .u32 n
def uQ (n:Int):TV:=.int .i8 n
def s8 (n:Int):TV:=.int .i16 n
def tA (n:Int):TV:=.int .u16 n
def eB (b:Bool):TV:=.bool b
def eS (s:ByteArray):TV:=.str s
def eL {α:Type} (n:Nat) (e:α->TV) (l:List α):TV:=.list n (l.map e)
theorem Tryz_follows:Go.Proofs.Tryz.prog.follows .mixedOrders=true:=by decide +kernel
structure DQ where
 Type':Int
 From:Int
 To:Int
 deriving DecidableEq
def EQ (x:DQ):TV:=.agg [eI x.Type',eI x.From,eI x.To]
structure Graph where
 Nodes:List Int
 Edges:List DQ
 deriving DecidableEq
def DM (x:Graph):TV:=.agg [(eL 1 eI) x.Nodes,(eL 3 EQ) x.Edges]
structure Morphism where
 Nodes:List Int
 Edges:List Int
 deriving DecidableEq
def C9 (x:Morphism):TV:=.agg [(eL 1 eI) x.Nodes,(eL 1 eI) x.Edges]
structure AK where
 p:Graph
 g:Graph
 is:List (List Bool)
 partial_:Morphism
 injective:Bool
 most:Int
 nodes:List Int
 edges:List Int
 out:List Morphism
 deriving DecidableEq
def OC (x:AK):TV:=.agg [(eL 1 eI) x.p.Nodes,(eL 3 EQ) x.p.Edges,(eL 1 eI) x.g.Nodes,(eL 3 EQ) x.g.Edges,(eL 1 (eL 1 eB)) x.is,(eL 1 eI) x.partial_.Nodes,(eL 1 eI) x.partial_.Edges,eB x.injective,eI x.most,(eL 1 eI) x.nodes,(eL 1 eI) x.edges,(eL 2 C9) x.out]
def DV (x:AK):List AV:=[⟨false,(eL 1 eI) x.p.Nodes⟩,⟨false,(eL 3 EQ) x.p.Edges⟩,⟨false,(eL 1 eI) x.g.Nodes⟩,⟨false,(eL 3 EQ) x.g.Edges⟩,⟨false,(eL 1 (eL 1 eB)) x.is⟩,⟨false,(eL 1 eI) x.partial_.Nodes⟩,⟨false,(eL 1 eI) x.partial_.Edges⟩,⟨false,eB x.injective⟩,⟨false,eI x.most⟩,⟨true,.xl 1 (List.map eI x.nodes)⟩,⟨true,.xl 1 (List.map eI x.edges)⟩,⟨true,(eL 2 C9) x.out⟩]
structure FS where
 Kind:Int
 Text:ByteArray
 Line:Int
 deriving DecidableEq
def RU (x:FS):TV:=.agg [eI x.Kind,eS x.Text,eI x.Line]
structure Attr where
 Name:ByteArray
 Low:Int
 High:Int
 Names:List ByteArray
 deriving DecidableEq
def Hl (x:Attr):TV:=.agg [eS x.Name,eI x.Low,eI x.High,(eL 1 eS) x.Names]
structure CJ where
 Name:ByteArray
 Parent:Int
 Abstract:Bool
 Attrs:List Attr
 deriving DecidableEq
def HE (x:CJ):TV:=.agg [eS x.Name,eI x.Parent,eB x.Abstract,(eL 4 Hl) x.Attrs]
structure CZ where
 Name:ByteArray
 From:Int
 To:Int
 OutLow:Int
 OutHigh:Int
 InLow:Int
 InHigh:Int
 deriving DecidableEq
def Ho (x:CZ):TV:=.agg [eS x.Name,eI x.From,eI x.To,eI x.OutLow,eI x.OutHigh,eI x.InLow,eI x.InHigh]
structure AD where
 Nodes:List CJ
 Edges:List CZ
 deriving DecidableEq
def At (x:AD):TV:=.agg [(eL 4 HE) x.Nodes,(eL 7 Ho) x.Edges]
structure A0 where
 Graph:Graph
 Values:List (List Int)
 deriving DecidableEq
def IR (x:A0):TV:=.agg [(eL 1 eI) x.Graph.Nodes,(eL 3 EQ) x.Graph.Edges,(eL 1 (eL 1 eI)) x.Values]
structure Term where
 Var:Int
 Add:Int
 deriving DecidableEq
def P0 (x:Term):TV:=.agg [eI x.Var,eI x.Add]
structure D4 where
 Node:Int
 Attr:Int
 Term:Term
 deriving DecidableEq
def Km (x:D4):TV:=.agg [eI x.Node,eI x.Attr,eI x.Term.Var,eI x.Term.Add]
structure Test where
 Kind:Int
 Left:Term
 Right:Term
 deriving DecidableEq
def LO (x:Test):TV:=.agg [eI x.Kind,eI x.Left.Var,eI x.Left.Add,eI x.Right.Var,eI x.Right.Add]
structure Pattern where
 Graph:Graph
 Slots:List D4
 Vars:Int
 Tests:List Test
 deriving DecidableEq
def B1 (x:Pattern):TV:=.agg [(eL 1 eI) x.Graph.Nodes,(eL 3 EQ) x.Graph.Edges,(eL 4 Km) x.Slots,eI x.Vars,(eL 5 LO) x.Tests]
structure AA where
 Kind:Int
 Kids:List AA
 Map:Morphism
 Pattern:Pattern
mutual
def QJ:AA->TV
 | ⟨y0,y1,y2,y3⟩=>.agg [eI y0,.list 9 (I1 y1),(eL 1 eI) y2.Nodes,(eL 1 eI) y2.Edges,(eL 1 eI) y3.Graph.Nodes,(eL 3 EQ) y3.Graph.Edges,(eL 4 Km) y3.Slots,eI y3.Vars,(eL 5 LO) y3.Tests]
def I1:List AA->List TV
 | []=>[]
 | c::cs=>QJ c::I1 cs
end
def FM (l:List AA):TV:=.list 9 (I1 l)
def AF (x:AA):TV:=.agg [eI x.Kind,FM x.Kids,(eL 1 eI) x.Map.Nodes,(eL 1 eI) x.Map.Edges,(eL 1 eI) x.Pattern.Graph.Nodes,(eL 3 EQ) x.Pattern.Graph.Edges,(eL 4 Km) x.Pattern.Slots,eI x.Pattern.Vars,(eL 5 LO) x.Pattern.Tests]
theorem SP (x:AA):QJ x=AF x:=by
 cases x; rfl
theorem Lx:∀ l:List AA,I1 l=l.map AF
 | []=>rfl
 | x::l=>by rw [I1,SP,Lx l]; rfl
theorem Jm (l:List AA):FM l=.list 9 (l.map AF):=by rw [FM,Lx]
structure AG where
 Morphism:Morphism
 Vars:List Int
 deriving DecidableEq
def AO (x:AG):TV:=.agg [(eL 1 eI) x.Morphism.Nodes,(eL 1 eI) x.Morphism.Edges,(eL 1 eI) x.Vars]
structure A3 where
 t:AD
 h:A0
 injective:Bool
 deriving DecidableEq
def C7 (x:A3):TV:=.agg [(eL 4 HE) x.t.Nodes,(eL 7 Ho) x.t.Edges,(eL 1 eI) x.h.Graph.Nodes,(eL 3 EQ) x.h.Graph.Edges,(eL 1 (eL 1 eI)) x.h.Values,eB x.injective]
structure BQ where
 Choice:Int
 Match:AG
 Kids:List BQ
mutual
def Vl:BQ->TV
 | ⟨y0,y1,y2⟩=>.agg [eI y0,(eL 1 eI) y1.Morphism.Nodes,(eL 1 eI) y1.Morphism.Edges,(eL 1 eI) y1.Vars,.list 5 (Ly y2)]
def Ly:List BQ->List TV
 | []=>[]
 | c::cs=>Vl c::Ly cs
end
def K4 (l:List BQ):TV:=.list 5 (Ly l)
def HF (x:BQ):TV:=.agg [eI x.Choice,(eL 1 eI) x.Match.Morphism.Nodes,(eL 1 eI) x.Match.Morphism.Edges,(eL 1 eI) x.Match.Vars,K4 x.Kids]
theorem Wa (x:BQ):Vl x=HF x:=by
 cases x; rfl
theorem Oa:∀ l:List BQ,Ly l=l.map HF
 | []=>rfl
 | x::l=>by rw [Ly,Wa,Oa l]; rfl
theorem VK (l:List BQ):K4 l=.list 5 (l.map HF):=by rw [K4,Oa]
structure AE where
 t:AD
 h:A0
 injective:Bool
 deriving DecidableEq
def AI (x:AE):TV:=.agg [(eL 4 HE) x.t.Nodes,(eL 7 Ho) x.t.Edges,(eL 1 eI) x.h.Graph.Nodes,(eL 3 EQ) x.h.Graph.Edges,(eL 1 (eL 1 eI)) x.h.Values,eB x.injective]
structure AN where
 Path:List Int
 Kind:Int
 Nodes:List Int
 deriving DecidableEq
def AW (x:AN):TV:=.agg [(eL 1 eI) x.Path,eI x.Kind,(eL 1 eI) x.Nodes]
structure G5 where
 P:Pattern
 C:AA
def G2 (x:G5):TV:=.agg [(eL 1 eI) x.P.Graph.Nodes,(eL 3 EQ) x.P.Graph.Edges,(eL 4 Km) x.P.Slots,eI x.P.Vars,(eL 5 LO) x.P.Tests,eI x.C.Kind,FM x.C.Kids,(eL 1 eI) x.C.Map.Nodes,(eL 1 eI) x.C.Map.Edges,(eL 1 eI) x.C.Pattern.Graph.Nodes,(eL 3 EQ) x.C.Pattern.Graph.Edges,(eL 4 Km) x.C.Pattern.Slots,eI x.C.Pattern.Vars,(eL 5 LO) x.C.Pattern.Tests]
structure H6 where
 H:A0
 M:AG
 Injective:Bool
 deriving DecidableEq
def I9 (x:H6):TV:=.agg [(eL 1 eI) x.H.Graph.Nodes,(eL 3 EQ) x.H.Graph.Edges,(eL 1 (eL 1 eI)) x.H.Values,(eL 1 eI) x.M.Morphism.Nodes,(eL 1 eI) x.M.Morphism.Edges,(eL 1 eI) x.M.Vars,eB x.Injective]
abbrev lI:List Int->TV:=eL 1 eI
abbrev lE:List DQ->TV:=eL 3 EQ
abbrev lS:List D4->TV:=eL 4 Km
abbrev lT:List Test->TV:=eL 5 LO
abbrev lN:List CJ->TV:=eL 4 HE
abbrev lX:List CZ->TV:=eL 7 Ho
abbrev lA:List Attr->TV:=eL 4 Hl
abbrev lB:List ByteArray->TV:=eL 1 eS
theorem ZE (a b:DQ):CL (TV.cells (EQ a)) (TV.cells (EQ b))=some (decide (a=b)):=by
 rcases a with ⟨a0,a1,a2⟩; rcases b with ⟨b0,b1,b2⟩; simp [EQ,TV.cells,CL,eI,Bool.and_assoc,DQ.mk.injEq]
end Go.Sf.Sc
