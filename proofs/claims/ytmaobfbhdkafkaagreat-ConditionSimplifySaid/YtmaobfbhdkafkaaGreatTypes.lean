/- The types of the program as Lean types. -/
import Derived.Test.YtmaobfbhdkafkaaGreatSfDraw
import Derived.Test.YtmaobfbhdkafkaaGreatSfStep
import Derived.Test.YtmaobfbhdkafkaaGreatProg
set_option maxRecDepth 100000
namespace Go.Sf.Sc
open Go Go.Sf Go.Proofs.Tryz
def eI (n:Int):TV:=.int .i64 n
def eU8 (n:Int):TV:=.int .u8 n
def eU64 (n:Int):TV:=.int .u64 n
def eI32 (n:Int):TV:=.int .i32 n
def eU32 (n:Int):TV:=.int .u32 n
def eB (b:Bool):TV:=.bool b
def eS (s:ByteArray):TV:=.str s
def eL {α:Type} (n:Nat) (e:α->TV) (l:List α):TV:=.list n (l.map e)
theorem Tryz_follows:Go.Proofs.Tryz.prog.follows .mixedOrders=true:=by decide +kernel
structure Edge where
 Type':Int
 From:Int
 To:Int
 deriving DecidableEq
def eEdge (x:Edge):TV:=.agg [eI x.Type',eI x.From,eI x.To]
structure Graph where
 Nodes:List Int
 Edges:List Edge
 deriving DecidableEq
def eGraph (x:Graph):TV:=.agg [(eL 1 eI) x.Nodes,(eL 3 eEdge) x.Edges]
structure Morphism where
 Nodes:List Int
 Edges:List Int
 deriving DecidableEq
def eMorphism (x:Morphism):TV:=.agg [(eL 1 eI) x.Nodes,(eL 1 eI) x.Edges]
structure search_finder where
 p:Graph
 g:Graph
 is:List (List Bool)
 partial_:Morphism
 injective:Bool
 most:Int
 nodes:List Int
 edges:List Int
 out:List Morphism
 deriving DecidableEq
def esearch_finder (x:search_finder):TV:=.agg [(eL 1 eI) x.p.Nodes,(eL 3 eEdge) x.p.Edges,(eL 1 eI) x.g.Nodes,(eL 3 eEdge) x.g.Edges,(eL 1 (eL 1 eB)) x.is,(eL 1 eI) x.partial_.Nodes,(eL 1 eI) x.partial_.Edges,eB x.injective,eI x.most,(eL 1 eI) x.nodes,(eL 1 eI) x.edges,(eL 2 eMorphism) x.out]
def bxsearch_finder (x:search_finder):List Cell:=[⟨false,(eL 1 eI) x.p.Nodes⟩,⟨false,(eL 3 eEdge) x.p.Edges⟩,⟨false,(eL 1 eI) x.g.Nodes⟩,⟨false,(eL 3 eEdge) x.g.Edges⟩,⟨false,(eL 1 (eL 1 eB)) x.is⟩,⟨false,(eL 1 eI) x.partial_.Nodes⟩,⟨false,(eL 1 eI) x.partial_.Edges⟩,⟨false,eB x.injective⟩,⟨false,eI x.most⟩,⟨true,.xl 1 (List.map eI x.nodes)⟩,⟨true,.xl 1 (List.map eI x.edges)⟩,⟨true,(eL 2 eMorphism) x.out⟩]
structure Token where
 Kind:Int
 Text:ByteArray
 Line:Int
 deriving DecidableEq
def eToken (x:Token):TV:=.agg [eI x.Kind,eS x.Text,eI x.Line]
structure Attr where
 Name:ByteArray
 Low:Int
 High:Int
 Names:List ByteArray
 deriving DecidableEq
def eAttr (x:Attr):TV:=.agg [eS x.Name,eI x.Low,eI x.High,(eL 1 eS) x.Names]
structure NodeType where
 Name:ByteArray
 Parent:Int
 Abstract:Bool
 Attrs:List Attr
 deriving DecidableEq
def eNodeType (x:NodeType):TV:=.agg [eS x.Name,eI x.Parent,eB x.Abstract,(eL 4 eAttr) x.Attrs]
structure EdgeType where
 Name:ByteArray
 From:Int
 To:Int
 OutLow:Int
 OutHigh:Int
 InLow:Int
 InHigh:Int
 deriving DecidableEq
def eEdgeType (x:EdgeType):TV:=.agg [eS x.Name,eI x.From,eI x.To,eI x.OutLow,eI x.OutHigh,eI x.InLow,eI x.InHigh]
structure Types where
 Nodes:List NodeType
 Edges:List EdgeType
 deriving DecidableEq
def eTypes (x:Types):TV:=.agg [(eL 4 eNodeType) x.Nodes,(eL 7 eEdgeType) x.Edges]
structure Term where
 Var:Int
 Add:Int
 deriving DecidableEq
def eTerm (x:Term):TV:=.agg [eI x.Var,eI x.Add]
structure Slot where
 Node:Int
 Attr:Int
 Term:Term
 deriving DecidableEq
def eSlot (x:Slot):TV:=.agg [eI x.Node,eI x.Attr,eI x.Term.Var,eI x.Term.Add]
structure Test where
 Kind:Int
 Left:Term
 Right:Term
 deriving DecidableEq
def eTest (x:Test):TV:=.agg [eI x.Kind,eI x.Left.Var,eI x.Left.Add,eI x.Right.Var,eI x.Right.Add]
structure Pattern where
 Graph:Graph
 Slots:List Slot
 Vars:Int
 Tests:List Test
 deriving DecidableEq
def ePattern (x:Pattern):TV:=.agg [(eL 1 eI) x.Graph.Nodes,(eL 3 eEdge) x.Graph.Edges,(eL 4 eSlot) x.Slots,eI x.Vars,(eL 5 eTest) x.Tests]
structure Condition where
 Kind:Int
 Kids:List Condition
 Map:Morphism
 Pattern:Pattern
mutual
def eCondition0:Condition->TV
 | ⟨y0,y1,y2,y3⟩=>.agg [eI y0,.list 9 (eLCondition0 y1),(eL 1 eI) y2.Nodes,(eL 1 eI) y2.Edges,(eL 1 eI) y3.Graph.Nodes,(eL 3 eEdge) y3.Graph.Edges,(eL 4 eSlot) y3.Slots,eI y3.Vars,(eL 5 eTest) y3.Tests]
def eLCondition0:List Condition->List TV
 | []=>[]
 | c::cs=>eCondition0 c::eLCondition0 cs
end
def eLCondition (l:List Condition):TV:=.list 9 (eLCondition0 l)
def eCondition (x:Condition):TV:=.agg [eI x.Kind,eLCondition x.Kids,(eL 1 eI) x.Map.Nodes,(eL 1 eI) x.Map.Edges,(eL 1 eI) x.Pattern.Graph.Nodes,(eL 3 eEdge) x.Pattern.Graph.Edges,(eL 4 eSlot) x.Pattern.Slots,eI x.Pattern.Vars,(eL 5 eTest) x.Pattern.Tests]
theorem eCondition0_eq (x:Condition):eCondition0 x=eCondition x:=by
 cases x; rfl
theorem eLCondition_eq:∀ l:List Condition,eLCondition0 l=l.map eCondition
 | []=>rfl
 | x::l=>by rw [eLCondition0,eCondition0_eq,eLCondition_eq l]; rfl
theorem eLCondition_lst (l:List Condition):eLCondition l=.list 9 (l.map eCondition):=by rw [eLCondition,eLCondition_eq]
structure Host where
 Graph:Graph
 Values:List (List Int)
 deriving DecidableEq
def eHost (x:Host):TV:=.agg [(eL 1 eI) x.Graph.Nodes,(eL 3 eEdge) x.Graph.Edges,(eL 1 (eL 1 eI)) x.Values]
structure GMatch where
 Morphism:Morphism
 Vars:List Int
 deriving DecidableEq
def eGMatch (x:GMatch):TV:=.agg [(eL 1 eI) x.Morphism.Nodes,(eL 1 eI) x.Morphism.Edges,(eL 1 eI) x.Vars]
structure condition_scene where
 t:Types
 h:Host
 injective:Bool
 deriving DecidableEq
def econdition_scene (x:condition_scene):TV:=.agg [(eL 4 eNodeType) x.t.Nodes,(eL 7 eEdgeType) x.t.Edges,(eL 1 eI) x.h.Graph.Nodes,(eL 3 eEdge) x.h.Graph.Edges,(eL 1 (eL 1 eI)) x.h.Values,eB x.injective]
structure Proof where
 Choice:Int
 Match:GMatch
 Kids:List Proof
mutual
def eProof0:Proof->TV
 | ⟨y0,y1,y2⟩=>.agg [eI y0,(eL 1 eI) y1.Morphism.Nodes,(eL 1 eI) y1.Morphism.Edges,(eL 1 eI) y1.Vars,.list 5 (eLProof0 y2)]
def eLProof0:List Proof->List TV
 | []=>[]
 | c::cs=>eProof0 c::eLProof0 cs
end
def eLProof (l:List Proof):TV:=.list 5 (eLProof0 l)
def eProof (x:Proof):TV:=.agg [eI x.Choice,(eL 1 eI) x.Match.Morphism.Nodes,(eL 1 eI) x.Match.Morphism.Edges,(eL 1 eI) x.Match.Vars,eLProof x.Kids]
theorem eProof0_eq (x:Proof):eProof0 x=eProof x:=by
 cases x; rfl
theorem eLProof_eq:∀ l:List Proof,eLProof0 l=l.map eProof
 | []=>rfl
 | x::l=>by rw [eLProof0,eProof0_eq,eLProof_eq l]; rfl
theorem eLProof_lst (l:List Proof):eLProof l=.list 5 (l.map eProof):=by rw [eLProof,eLProof_eq]
structure law22_Over where
 P:Pattern
 C:Condition
def elaw22_Over (x:law22_Over):TV:=.agg [(eL 1 eI) x.P.Graph.Nodes,(eL 3 eEdge) x.P.Graph.Edges,(eL 4 eSlot) x.P.Slots,eI x.P.Vars,(eL 5 eTest) x.P.Tests,eI x.C.Kind,eLCondition x.C.Kids,(eL 1 eI) x.C.Map.Nodes,(eL 1 eI) x.C.Map.Edges,(eL 1 eI) x.C.Pattern.Graph.Nodes,(eL 3 eEdge) x.C.Pattern.Graph.Edges,(eL 4 eSlot) x.C.Pattern.Slots,eI x.C.Pattern.Vars,(eL 5 eTest) x.C.Pattern.Tests]
abbrev lI:List Int->TV:=eL 1 eI
abbrev lE:List Edge->TV:=eL 3 eEdge
abbrev lS:List Slot->TV:=eL 4 eSlot
abbrev lT:List Test->TV:=eL 5 eTest
abbrev lN:List NodeType->TV:=eL 4 eNodeType
abbrev lX:List EdgeType->TV:=eL 7 eEdgeType
abbrev lA:List Attr->TV:=eL 4 eAttr
abbrev lB:List ByteArray->TV:=eL 1 eS
theorem eqi_Edge (a b:Edge):eqInts (TV.cells (eEdge a)) (TV.cells (eEdge b))=some (decide (a=b)):=by
 rcases a with ⟨a0,a1,a2⟩; rcases b with ⟨b0,b1,b2⟩; simp [eEdge,TV.cells,eqInts,eI,Bool.and_assoc,Edge.mk.injEq]
theorem eqi_Slot (a b:Slot):eqInts (TV.cells (eSlot a)) (TV.cells (eSlot b))=some (decide (a=b)):=by
 rcases a with ⟨a0,a1,⟨a20,a21⟩⟩; rcases b with ⟨b0,b1,⟨b20,b21⟩⟩; simp [eSlot,TV.cells,eqInts,eI,Bool.and_assoc,Slot.mk.injEq,Term.mk.injEq]
theorem eqi_Test (a b:Test):eqInts (TV.cells (eTest a)) (TV.cells (eTest b))=some (decide (a=b)):=by
 rcases a with ⟨a0,⟨a10,a11⟩,⟨a20,a21⟩⟩; rcases b with ⟨b0,⟨b10,b11⟩,⟨b20,b21⟩⟩; simp [eTest,TV.cells,eqInts,eI,Bool.and_assoc,Term.mk.injEq,Test.mk.injEq]
end Go.Sf.Sc
