/- The types of the program as Lean types. -/
import Derived.Test.YtmaobfbhdkafkaaGreatSfDraw
import Derived.Test.YtmaobfbhdkafkaaGreatSfStep
import Derived.Test.YtmaobfbhdkafkaaGreatProg
set_option maxRecDepth 100000
namespace Go.Sf.Sc
open Go Go.Sf Go.Proofs.Tryz
def eI (n:Int):TV:=.int .i64 n
def Qq (n:Int):TV:=.int .u8 n
def Ja (n:Int):TV:=.int .u64 n
def qO (n:Int):TV:=.int .i32 n
def qQ (n:Int):TV:=.int .u32 n
def rm (n:Int):TV:=.int .i8 n
def qN (n:Int):TV:=.int .i16 n
def qP (n:Int):TV:=.int .u16 n
def eB (b:Bool):TV:=.bool b
def eS (s:ByteArray):TV:=.str s
def eL {α:Type} (n:Nat) (e:α->TV) (l:List α):TV:=.list n (l.map e)
theorem Tryz_follows:Go.Proofs.Tryz.prog.follows .mixedOrders=true:=by decide +kernel
structure Attr where
 Name:ByteArray
 Low:Int
 High:Int
 Names:List ByteArray
 deriving DecidableEq
def HY (x:Attr):TV:=.agg [eS x.Name,eI x.Low,eI x.High,(eL 1 eS) x.Names]
structure CE where
 Name:ByteArray
 Parent:Int
 Abstract:Bool
 Attrs:List Attr
 deriving DecidableEq
def GH (x:CE):TV:=.agg [eS x.Name,eI x.Parent,eB x.Abstract,(eL 4 HY) x.Attrs]
structure CQ where
 Name:ByteArray
 From:Int
 To:Int
 OutLow:Int
 OutHigh:Int
 InLow:Int
 InHigh:Int
 deriving DecidableEq
def G0 (x:CQ):TV:=.agg [eS x.Name,eI x.From,eI x.To,eI x.OutLow,eI x.OutHigh,eI x.InLow,eI x.InHigh]
structure AD where
 Nodes:List CE
 Edges:List CQ
 deriving DecidableEq
def AP (x:AD):TV:=.agg [(eL 4 GH) x.Nodes,(eL 7 G0) x.Edges]
structure CY where
 Type':Int
 From:Int
 To:Int
 deriving DecidableEq
def DZ (x:CY):TV:=.agg [eI x.Type',eI x.From,eI x.To]
structure Graph where
 Nodes:List Int
 Edges:List CY
 deriving DecidableEq
def CA (x:Graph):TV:=.agg [(eL 1 eI) x.Nodes,(eL 3 DZ) x.Edges]
structure Morphism where
 Nodes:List Int
 Edges:List Int
 deriving DecidableEq
def BO (x:Morphism):TV:=.agg [(eL 1 eI) x.Nodes,(eL 1 eI) x.Edges]
structure AQ where
 t:AD
 p:Graph
 g:Graph
 partial_:Morphism
 injective:Bool
 most:Int
 found:List Morphism
 deriving DecidableEq
def Od (x:AQ):TV:=.agg [(eL 4 GH) x.t.Nodes,(eL 7 G0) x.t.Edges,(eL 1 eI) x.p.Nodes,(eL 3 DZ) x.p.Edges,(eL 1 eI) x.g.Nodes,(eL 3 DZ) x.g.Edges,(eL 1 eI) x.partial_.Nodes,(eL 1 eI) x.partial_.Edges,eB x.injective,eI x.most,(eL 2 BO) x.found]
def BY (x:AQ):List AW:=[⟨false,(eL 4 GH) x.t.Nodes⟩,⟨false,(eL 7 G0) x.t.Edges⟩,⟨false,(eL 1 eI) x.p.Nodes⟩,⟨false,(eL 3 DZ) x.p.Edges⟩,⟨false,(eL 1 eI) x.g.Nodes⟩,⟨false,(eL 3 DZ) x.g.Edges⟩,⟨false,(eL 1 eI) x.partial_.Nodes⟩,⟨false,(eL 1 eI) x.partial_.Edges⟩,⟨false,eB x.injective⟩,⟨false,eI x.most⟩,⟨true,(eL 2 BO) x.found⟩]
structure AK where
 p:Graph
 g:Graph
 is:List (List Bool)
 partial_:Morphism
 injective:Bool
 most:Int
 nodes:List Int
 edges:List Int
 out:List Morphism
 deriving DecidableEq
def Nj (x:AK):TV:=.agg [(eL 1 eI) x.p.Nodes,(eL 3 DZ) x.p.Edges,(eL 1 eI) x.g.Nodes,(eL 3 DZ) x.g.Edges,(eL 1 (eL 1 eB)) x.is,(eL 1 eI) x.partial_.Nodes,(eL 1 eI) x.partial_.Edges,eB x.injective,eI x.most,(eL 1 eI) x.nodes,(eL 1 eI) x.edges,(eL 2 BO) x.out]
def DN (x:AK):List AW:=[⟨false,(eL 1 eI) x.p.Nodes⟩,⟨false,(eL 3 DZ) x.p.Edges⟩,⟨false,(eL 1 eI) x.g.Nodes⟩,⟨false,(eL 3 DZ) x.g.Edges⟩,⟨false,(eL 1 (eL 1 eB)) x.is⟩,⟨false,(eL 1 eI) x.partial_.Nodes⟩,⟨false,(eL 1 eI) x.partial_.Edges⟩,⟨false,eB x.injective⟩,⟨false,eI x.most⟩,⟨true,.xl 1 (List.map eI x.nodes)⟩,⟨true,.xl 1 (List.map eI x.edges)⟩,⟨true,(eL 2 BO) x.out⟩]
structure FK where
 Kind:Int
 Text:ByteArray
 Line:Int
 deriving DecidableEq
def Qp (x:FK):TV:=.agg [eI x.Kind,eS x.Text,eI x.Line]
structure Term where
 Var:Int
 Add:Int
 deriving DecidableEq
def Ma (x:Term):TV:=.agg [eI x.Var,eI x.Add]
structure DO where
 Node:Int
 Attr:Int
 Term:Term
 deriving DecidableEq
def Kg (x:DO):TV:=.agg [eI x.Node,eI x.Attr,eI x.Term.Var,eI x.Term.Add]
structure Test where
 Kind:Int
 Left:Term
 Right:Term
 deriving DecidableEq
def Kh (x:Test):TV:=.agg [eI x.Kind,eI x.Left.Var,eI x.Left.Add,eI x.Right.Var,eI x.Right.Add]
structure Pattern where
 Graph:Graph
 Slots:List DO
 Vars:Int
 Tests:List Test
 deriving DecidableEq
def BE (x:Pattern):TV:=.agg [(eL 1 eI) x.Graph.Nodes,(eL 3 DZ) x.Graph.Edges,(eL 4 Kg) x.Slots,eI x.Vars,(eL 5 Kh) x.Tests]
structure AB where
 Kind:Int
 Kids:List AB
 Map:Morphism
 Pattern:Pattern
mutual
def P7:AB->TV
 | ⟨y0,y1,y2,y3⟩=>.agg [eI y0,.list 9 (Il y1),(eL 1 eI) y2.Nodes,(eL 1 eI) y2.Edges,(eL 1 eI) y3.Graph.Nodes,(eL 3 DZ) y3.Graph.Edges,(eL 4 Kg) y3.Slots,eI y3.Vars,(eL 5 Kh) y3.Tests]
def Il:List AB->List TV
 | []=>[]
 | c::cs=>P7 c::Il cs
end
def GT (l:List AB):TV:=.list 9 (Il l)
def AJ (x:AB):TV:=.agg [eI x.Kind,GT x.Kids,(eL 1 eI) x.Map.Nodes,(eL 1 eI) x.Map.Edges,(eL 1 eI) x.Pattern.Graph.Nodes,(eL 3 DZ) x.Pattern.Graph.Edges,(eL 4 Kg) x.Pattern.Slots,eI x.Pattern.Vars,(eL 5 Kh) x.Pattern.Tests]
theorem RM (x:AB):P7 x=AJ x:=by
 cases x; rfl
theorem Lh:∀ l:List AB,Il l=l.map AJ
 | []=>rfl
 | x::l=>by rw [Il,RM,Lh l]; rfl
theorem LH (l:List AB):GT l=.list 9 (l.map AJ):=by rw [GT,Lh]
structure AY where
 Graph:Graph
 Values:List (List Int)
 deriving DecidableEq
def D2 (x:AY):TV:=.agg [(eL 1 eI) x.Graph.Nodes,(eL 3 DZ) x.Graph.Edges,(eL 1 (eL 1 eI)) x.Values]
structure AH where
 Morphism:Morphism
 Vars:List Int
 deriving DecidableEq
def BB (x:AH):TV:=.agg [(eL 1 eI) x.Morphism.Nodes,(eL 1 eI) x.Morphism.Edges,(eL 1 eI) x.Vars]
structure AS where
 t:AD
 h:AY
 injective:Bool
 deriving DecidableEq
def BX (x:AS):TV:=.agg [(eL 4 GH) x.t.Nodes,(eL 7 G0) x.t.Edges,(eL 1 eI) x.h.Graph.Nodes,(eL 3 DZ) x.h.Graph.Edges,(eL 1 (eL 1 eI)) x.h.Values,eB x.injective]
structure AM where
 Choice:Int
 Match:AH
 Kids:List AM
mutual
def UO:AM->TV
 | ⟨y0,y1,y2⟩=>.agg [eI y0,(eL 1 eI) y1.Morphism.Nodes,(eL 1 eI) y1.Morphism.Edges,(eL 1 eI) y1.Vars,.list 5 (Li y2)]
def Li:List AM->List TV
 | []=>[]
 | c::cs=>UO c::Li cs
end
def GP (l:List AM):TV:=.list 5 (Li l)
def BZ (x:AM):TV:=.agg [eI x.Choice,(eL 1 eI) x.Match.Morphism.Nodes,(eL 1 eI) x.Match.Morphism.Edges,(eL 1 eI) x.Match.Vars,GP x.Kids]
theorem VC (x:AM):UO x=BZ x:=by
 cases x; rfl
theorem N6:∀ l:List AM,Li l=l.map BZ
 | []=>rfl
 | x::l=>by rw [Li,VC,N6 l]; rfl
theorem NX (l:List AM):GP l=.list 5 (l.map BZ):=by rw [GP,N6]
structure GW where
 P:Pattern
 C:AB
def GU (x:GW):TV:=.agg [(eL 1 eI) x.P.Graph.Nodes,(eL 3 DZ) x.P.Graph.Edges,(eL 4 Kg) x.P.Slots,eI x.P.Vars,(eL 5 Kh) x.P.Tests,eI x.C.Kind,GT x.C.Kids,(eL 1 eI) x.C.Map.Nodes,(eL 1 eI) x.C.Map.Edges,(eL 1 eI) x.C.Pattern.Graph.Nodes,(eL 3 DZ) x.C.Pattern.Graph.Edges,(eL 4 Kg) x.C.Pattern.Slots,eI x.C.Pattern.Vars,(eL 5 Kh) x.C.Pattern.Tests]
structure M2 where
 H:AY
 M:AH
 Injective:Bool
 deriving DecidableEq
def Rd (x:M2):TV:=.agg [(eL 1 eI) x.H.Graph.Nodes,(eL 3 DZ) x.H.Graph.Edges,(eL 1 (eL 1 eI)) x.H.Values,(eL 1 eI) x.M.Morphism.Nodes,(eL 1 eI) x.M.Morphism.Edges,(eL 1 eI) x.M.Vars,eB x.Injective]
structure KM where
 At:M2
 W:AM
def Im (x:KM):TV:=.agg [(eL 1 eI) x.At.H.Graph.Nodes,(eL 3 DZ) x.At.H.Graph.Edges,(eL 1 (eL 1 eI)) x.At.H.Values,(eL 1 eI) x.At.M.Morphism.Nodes,(eL 1 eI) x.At.M.Morphism.Edges,(eL 1 eI) x.At.M.Vars,eB x.At.Injective,eI x.W.Choice,(eL 1 eI) x.W.Match.Morphism.Nodes,(eL 1 eI) x.W.Match.Morphism.Edges,(eL 1 eI) x.W.Match.Vars,GP x.W.Kids]
abbrev lI:List Int->TV:=eL 1 eI
abbrev lE:List CY->TV:=eL 3 DZ
abbrev lS:List DO->TV:=eL 4 Kg
abbrev lT:List Test->TV:=eL 5 Kh
abbrev lN:List CE->TV:=eL 4 GH
abbrev lX:List CQ->TV:=eL 7 G0
abbrev lA:List Attr->TV:=eL 4 HY
abbrev lB:List ByteArray->TV:=eL 1 eS
theorem Xf (a b:CY):B5 (TV.cells (DZ a)) (TV.cells (DZ b))=some (decide (a=b)):=by
 rcases a with ⟨a0,a1,a2⟩; rcases b with ⟨b0,b1,b2⟩; simp [DZ,TV.cells,B5,eI,Bool.and_assoc,CY.mk.injEq]
end Go.Sf.Sc
