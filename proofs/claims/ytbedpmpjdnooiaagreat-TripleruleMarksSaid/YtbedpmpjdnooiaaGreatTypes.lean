/- The types of the program as Lean types. -/
import Derived.Test.YtbedpmpjdnooiaaGreatSfDraw
import Derived.Test.YtbedpmpjdnooiaaGreatSfStep
import Derived.Test.YtbedpmpjdnooiaaGreatProg
set_option maxRecDepth 100000
namespace Go.Sf.Sc
open Go Go.Sf Go.Proofs.Tryz
def eI (n:Int):TV:=.int .i64 n
def eU8 (n:Int):TV:=.int .u8 n
def eU64 (n:Int):TV:=.int .u64 n
def eI32 (n:Int):TV:=.int .i32 n
def eU32 (n:Int):TV:=.int .u32 n
def eB (b:Bool):TV:=.bool b
def eS (s:ByteArray):TV:=.str s
def eL {α:Type} (n:Nat) (e:α->TV) (l:List α):TV:=.list n (l.map e)
theorem Tryz_follows:Go.Proofs.Tryz.prog.follows .mixedOrders=true:=by decide +kernel
structure Attr where
 Name:ByteArray
 Low:Int
 High:Int
 Names:List ByteArray
 deriving DecidableEq
def eAttr (x:Attr):TV:=.agg [eS x.Name,eI x.Low,eI x.High,(eL 1 eS) x.Names]
structure NodeType where
 Name:ByteArray
 Parent:Int
 Abstract:Bool
 Attrs:List Attr
 deriving DecidableEq
def eNodeType (x:NodeType):TV:=.agg [eS x.Name,eI x.Parent,eB x.Abstract,(eL 4 eAttr) x.Attrs]
structure Token where
 Kind:Int
 Text:ByteArray
 Line:Int
 deriving DecidableEq
def eToken (x:Token):TV:=.agg [eI x.Kind,eS x.Text,eI x.Line]
structure EdgeType where
 Name:ByteArray
 From:Int
 To:Int
 OutLow:Int
 OutHigh:Int
 InLow:Int
 InHigh:Int
 deriving DecidableEq
def eEdgeType (x:EdgeType):TV:=.agg [eS x.Name,eI x.From,eI x.To,eI x.OutLow,eI x.OutHigh,eI x.InLow,eI x.InHigh]
structure Types where
 Nodes:List NodeType
 Edges:List EdgeType
 deriving DecidableEq
def eTypes (x:Types):TV:=.agg [(eL 4 eNodeType) x.Nodes,(eL 7 eEdgeType) x.Edges]
structure Sorts where
 Nodes:List Int
 Edges:List Int
 deriving DecidableEq
def eSorts (x:Sorts):TV:=.agg [(eL 1 eI) x.Nodes,(eL 1 eI) x.Edges]
structure Edge where
 Type':Int
 From:Int
 To:Int
 deriving DecidableEq
def eEdge (x:Edge):TV:=.agg [eI x.Type',eI x.From,eI x.To]
structure Graph where
 Nodes:List Int
 Edges:List Edge
 deriving DecidableEq
def eGraph (x:Graph):TV:=.agg [(eL 1 eI) x.Nodes,(eL 3 eEdge) x.Edges]
structure Term where
 Var:Int
 Add:Int
 deriving DecidableEq
def eTerm (x:Term):TV:=.agg [eI x.Var,eI x.Add]
structure Slot where
 Node:Int
 Attr:Int
 Term:Term
 deriving DecidableEq
def eSlot (x:Slot):TV:=.agg [eI x.Node,eI x.Attr,eI x.Term.Var,eI x.Term.Add]
structure Test where
 Kind:Int
 Left:Term
 Right:Term
 deriving DecidableEq
def eTest (x:Test):TV:=.agg [eI x.Kind,eI x.Left.Var,eI x.Left.Add,eI x.Right.Var,eI x.Right.Add]
structure Pattern where
 Graph:Graph
 Slots:List Slot
 Vars:Int
 Tests:List Test
 deriving DecidableEq
def ePattern (x:Pattern):TV:=.agg [(eL 1 eI) x.Graph.Nodes,(eL 3 eEdge) x.Graph.Edges,(eL 4 eSlot) x.Slots,eI x.Vars,(eL 5 eTest) x.Tests]
structure Part where
 Nodes:List Int
 Edges:List Int
 deriving DecidableEq
def ePart (x:Part):TV:=.agg [(eL 1 eI) x.Nodes,(eL 1 eI) x.Edges]
structure Morphism where
 Nodes:List Int
 Edges:List Int
 deriving DecidableEq
def eMorphism (x:Morphism):TV:=.agg [(eL 1 eI) x.Nodes,(eL 1 eI) x.Edges]
structure Condition where
 Kind:Int
 Kids:List Condition
 Map:Morphism
 Pattern:Pattern
mutual
def eCondition0:Condition->TV
 | ⟨y0,y1,y2,y3⟩=>.agg [eI y0,.list 9 (eLCondition0 y1),(eL 1 eI) y2.Nodes,(eL 1 eI) y2.Edges,(eL 1 eI) y3.Graph.Nodes,(eL 3 eEdge) y3.Graph.Edges,(eL 4 eSlot) y3.Slots,eI y3.Vars,(eL 5 eTest) y3.Tests]
def eLCondition0:List Condition->List TV
 | []=>[]
 | c::cs=>eCondition0 c::eLCondition0 cs
end
def eLCondition (l:List Condition):TV:=.list 9 (eLCondition0 l)
def eCondition (x:Condition):TV:=.agg [eI x.Kind,eLCondition x.Kids,(eL 1 eI) x.Map.Nodes,(eL 1 eI) x.Map.Edges,(eL 1 eI) x.Pattern.Graph.Nodes,(eL 3 eEdge) x.Pattern.Graph.Edges,(eL 4 eSlot) x.Pattern.Slots,eI x.Pattern.Vars,(eL 5 eTest) x.Pattern.Tests]
theorem eCondition0_eq (x:Condition):eCondition0 x=eCondition x:=by
 cases x; rfl
theorem eLCondition_eq:∀ l:List Condition,eLCondition0 l=l.map eCondition
 | []=>rfl
 | x::l=>by rw [eLCondition0,eCondition0_eq,eLCondition_eq l]; rfl
structure Rule where
 Name:ByteArray
 Left:Pattern
 Right:Pattern
 Keep:Part
 Into:Morphism
 Injective:Bool
 Condition:Condition
def eRule (x:Rule):TV:=.agg [eS x.Name,(eL 1 eI) x.Left.Graph.Nodes,(eL 3 eEdge) x.Left.Graph.Edges,(eL 4 eSlot) x.Left.Slots,eI x.Left.Vars,(eL 5 eTest) x.Left.Tests,(eL 1 eI) x.Right.Graph.Nodes,(eL 3 eEdge) x.Right.Graph.Edges,(eL 4 eSlot) x.Right.Slots,eI x.Right.Vars,(eL 5 eTest) x.Right.Tests,(eL 1 eI) x.Keep.Nodes,(eL 1 eI) x.Keep.Edges,(eL 1 eI) x.Into.Nodes,(eL 1 eI) x.Into.Edges,eB x.Injective,eI x.Condition.Kind,eLCondition x.Condition.Kids,(eL 1 eI) x.Condition.Map.Nodes,(eL 1 eI) x.Condition.Map.Edges,(eL 1 eI) x.Condition.Pattern.Graph.Nodes,(eL 3 eEdge) x.Condition.Pattern.Graph.Edges,(eL 4 eSlot) x.Condition.Pattern.Slots,eI x.Condition.Pattern.Vars,(eL 5 eTest) x.Condition.Pattern.Tests]
structure triplerule_chosen where
 graph:Graph
 nodes:List Int
 edges:List Int
 deriving DecidableEq
def etriplerule_chosen (x:triplerule_chosen):TV:=.agg [(eL 1 eI) x.graph.Nodes,(eL 3 eEdge) x.graph.Edges,(eL 1 eI) x.nodes,(eL 1 eI) x.edges]
structure Arr2_u8 where
 a0:Int
 a1:Int
 deriving DecidableEq
def eArr2_u8 (x:Arr2_u8):TV:=.agg [eU8 x.a0,eU8 x.a1]
structure Arr3_u8 where
 a0:Int
 a1:Int
 a2:Int
 deriving DecidableEq
def eArr3_u8 (x:Arr3_u8):TV:=.agg [eU8 x.a0,eU8 x.a1,eU8 x.a2]
structure ref15_Draft where
 Nodes:List Arr2_u8
 Edges:List Arr3_u8
 deriving DecidableEq
def eref15_Draft (x:ref15_Draft):TV:=.agg [(eL 2 eArr2_u8) x.Nodes,(eL 3 eArr3_u8) x.Edges]
structure ref53_Draft where
 Left:ref15_Draft
 Nodes:List Int
 Edges:List Arr3_u8
 deriving DecidableEq
def eref53_Draft (x:ref53_Draft):TV:=.agg [(eL 2 eArr2_u8) x.Left.Nodes,(eL 3 eArr3_u8) x.Left.Edges,(eL 1 eU8) x.Nodes,(eL 3 eArr3_u8) x.Edges]
structure Host where
 Graph:Graph
 Values:List (List Int)
 deriving DecidableEq
def eHost (x:Host):TV:=.agg [(eL 1 eI) x.Graph.Nodes,(eL 3 eEdge) x.Graph.Edges,(eL 1 (eL 1 eI)) x.Values]
abbrev lI:List Int->TV:=eL 1 eI
abbrev lE:List Edge->TV:=eL 3 eEdge
abbrev lS:List Slot->TV:=eL 4 eSlot
abbrev lT:List Test->TV:=eL 5 eTest
abbrev lN:List NodeType->TV:=eL 4 eNodeType
abbrev lX:List EdgeType->TV:=eL 7 eEdgeType
abbrev lA:List Attr->TV:=eL 4 eAttr
abbrev lB:List ByteArray->TV:=eL 1 eS
end Go.Sf.Sc
