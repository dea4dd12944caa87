/- The types of the program as Lean types. -/
import Derived.Test.YtmaobfbhdkafkaaGreatSfDraw
import Derived.Test.YtmaobfbhdkafkaaGreatSfStep
import Derived.Test.YtmaobfbhdkafkaaGreatProg
set_option maxRecDepth 100000
namespace Go.Sf.Sc
open Go Go.Sf Go.Proofs.Tryz
def eI (n:Int):TV:=.int .i64 n
def Qh (n:Int):TV:=.int .u8 n
def JX (n:Int):TV:=.int .u64 n
def qB (n:Int):TV:=.int .i32 n
def qE (n:Int):TV:=.int .u32 n
def rY (n:Int):TV:=.int .i8 n
def qA (n:Int):TV:=.int .i16 n
def qC (n:Int):TV:=.int .u16 n
def eB (b:Bool):TV:=.bool b
def eS (s:ByteArray):TV:=.str s
def eL {α:Type} (n:Nat) (e:α->TV) (l:List α):TV:=.list n (l.map e)
theorem Tryz_follows:Go.Proofs.Tryz.prog.follows .mixedOrders=true:=by decide +kernel
structure Attr where
 Name:ByteArray
 Low:Int
 High:Int
 Names:List ByteArray
 deriving DecidableEq
def HM (x:Attr):TV:=.agg [eS x.Name,eI x.Low,eI x.High,(eL 1 eS) x.Names]
structure CD where
 Name:ByteArray
 Parent:Int
 Abstract:Bool
 Attrs:List Attr
 deriving DecidableEq
def GG (x:CD):TV:=.agg [eS x.Name,eI x.Parent,eB x.Abstract,(eL 4 HM) x.Attrs]
structure CN where
 Name:ByteArray
 From:Int
 To:Int
 OutLow:Int
 OutHigh:Int
 InLow:Int
 InHigh:Int
 deriving DecidableEq
def GZ (x:CN):TV:=.agg [eS x.Name,eI x.From,eI x.To,eI x.OutLow,eI x.OutHigh,eI x.InLow,eI x.InHigh]
structure AD where
 Nodes:List CD
 Edges:List CN
 deriving DecidableEq
def AS (x:AD):TV:=.agg [(eL 4 GG) x.Nodes,(eL 7 GZ) x.Edges]
structure CW where
 Type':Int
 From:Int
 To:Int
 deriving DecidableEq
def D0 (x:CW):TV:=.agg [eI x.Type',eI x.From,eI x.To]
structure Graph where
 Nodes:List Int
 Edges:List CW
 deriving DecidableEq
def B9 (x:Graph):TV:=.agg [(eL 1 eI) x.Nodes,(eL 3 D0) x.Edges]
structure Morphism where
 Nodes:List Int
 Edges:List Int
 deriving DecidableEq
def BL (x:Morphism):TV:=.agg [(eL 1 eI) x.Nodes,(eL 1 eI) x.Edges]
structure AQ where
 t:AD
 p:Graph
 g:Graph
 partial_:Morphism
 injective:Bool
 most:Int
 found:List Morphism
 deriving DecidableEq
def O4 (x:AQ):TV:=.agg [(eL 4 GG) x.t.Nodes,(eL 7 GZ) x.t.Edges,(eL 1 eI) x.p.Nodes,(eL 3 D0) x.p.Edges,(eL 1 eI) x.g.Nodes,(eL 3 D0) x.g.Edges,(eL 1 eI) x.partial_.Nodes,(eL 1 eI) x.partial_.Edges,eB x.injective,eI x.most,(eL 2 BL) x.found]
def BY (x:AQ):List AW:=[⟨false,(eL 4 GG) x.t.Nodes⟩,⟨false,(eL 7 GZ) x.t.Edges⟩,⟨false,(eL 1 eI) x.p.Nodes⟩,⟨false,(eL 3 D0) x.p.Edges⟩,⟨false,(eL 1 eI) x.g.Nodes⟩,⟨false,(eL 3 D0) x.g.Edges⟩,⟨false,(eL 1 eI) x.partial_.Nodes⟩,⟨false,(eL 1 eI) x.partial_.Edges⟩,⟨false,eB x.injective⟩,⟨false,eI x.most⟩,⟨true,(eL 2 BL) x.found⟩]
structure AJ where
 p:Graph
 g:Graph
 is:List (List Bool)
 partial_:Morphism
 injective:Bool
 most:Int
 nodes:List Int
 edges:List Int
 out:List Morphism
 deriving DecidableEq
def Nl (x:AJ):TV:=.agg [(eL 1 eI) x.p.Nodes,(eL 3 D0) x.p.Edges,(eL 1 eI) x.g.Nodes,(eL 3 D0) x.g.Edges,(eL 1 (eL 1 eB)) x.is,(eL 1 eI) x.partial_.Nodes,(eL 1 eI) x.partial_.Edges,eB x.injective,eI x.most,(eL 1 eI) x.nodes,(eL 1 eI) x.edges,(eL 2 BL) x.out]
def DO (x:AJ):List AW:=[⟨false,(eL 1 eI) x.p.Nodes⟩,⟨false,(eL 3 D0) x.p.Edges⟩,⟨false,(eL 1 eI) x.g.Nodes⟩,⟨false,(eL 3 D0) x.g.Edges⟩,⟨false,(eL 1 (eL 1 eB)) x.is⟩,⟨false,(eL 1 eI) x.partial_.Nodes⟩,⟨false,(eL 1 eI) x.partial_.Edges⟩,⟨false,eB x.injective⟩,⟨false,eI x.most⟩,⟨true,.xl 1 (List.map eI x.nodes)⟩,⟨true,.xl 1 (List.map eI x.edges)⟩,⟨true,(eL 2 BL) x.out⟩]
structure FI where
 Kind:Int
 Text:ByteArray
 Line:Int
 deriving DecidableEq
def Qg (x:FI):TV:=.agg [eI x.Kind,eS x.Text,eI x.Line]
structure Term where
 Var:Int
 Add:Int
 deriving DecidableEq
def MS (x:Term):TV:=.agg [eI x.Var,eI x.Add]
structure DP where
 Node:Int
 Attr:Int
 Term:Term
 deriving DecidableEq
def KZ (x:DP):TV:=.agg [eI x.Node,eI x.Attr,eI x.Term.Var,eI x.Term.Add]
structure Test where
 Kind:Int
 Left:Term
 Right:Term
 deriving DecidableEq
def Ka (x:Test):TV:=.agg [eI x.Kind,eI x.Left.Var,eI x.Left.Add,eI x.Right.Var,eI x.Right.Add]
structure Pattern where
 Graph:Graph
 Slots:List DP
 Vars:Int
 Tests:List Test
 deriving DecidableEq
def BC (x:Pattern):TV:=.agg [(eL 1 eI) x.Graph.Nodes,(eL 3 D0) x.Graph.Edges,(eL 4 KZ) x.Slots,eI x.Vars,(eL 5 Ka) x.Tests]
structure AB where
 Kind:Int
 Kids:List AB
 Map:Morphism
 Pattern:Pattern
mutual
def P0:AB->TV
 | ⟨y0,y1,y2,y3⟩=>.agg [eI y0,.list 9 (Ie y1),(eL 1 eI) y2.Nodes,(eL 1 eI) y2.Edges,(eL 1 eI) y3.Graph.Nodes,(eL 3 D0) y3.Graph.Edges,(eL 4 KZ) y3.Slots,eI y3.Vars,(eL 5 Ka) y3.Tests]
def Ie:List AB->List TV
 | []=>[]
 | c::cs=>P0 c::Ie cs
end
def GP (l:List AB):TV:=.list 9 (Ie l)
def AK (x:AB):TV:=.agg [eI x.Kind,GP x.Kids,(eL 1 eI) x.Map.Nodes,(eL 1 eI) x.Map.Edges,(eL 1 eI) x.Pattern.Graph.Nodes,(eL 3 D0) x.Pattern.Graph.Edges,(eL 4 KZ) x.Pattern.Slots,eI x.Pattern.Vars,(eL 5 Ka) x.Pattern.Tests]
theorem RD (x:AB):P0 x=AK x:=by
 cases x; rfl
theorem La:∀ l:List AB,Ie l=l.map AK
 | []=>rfl
 | x::l=>by rw [Ie,RD,La l]; rfl
theorem K9 (l:List AB):GP l=.list 9 (l.map AK):=by rw [GP,La]
structure AZ where
 Graph:Graph
 Values:List (List Int)
 deriving DecidableEq
def FK (x:AZ):TV:=.agg [(eL 1 eI) x.Graph.Nodes,(eL 3 D0) x.Graph.Edges,(eL 1 (eL 1 eI)) x.Values]
structure AH where
 Morphism:Morphism
 Vars:List Int
 deriving DecidableEq
def BP (x:AH):TV:=.agg [(eL 1 eI) x.Morphism.Nodes,(eL 1 eI) x.Morphism.Edges,(eL 1 eI) x.Vars]
structure AP where
 t:AD
 h:AZ
 injective:Bool
 deriving DecidableEq
def BX (x:AP):TV:=.agg [(eL 4 GG) x.t.Nodes,(eL 7 GZ) x.t.Edges,(eL 1 eI) x.h.Graph.Nodes,(eL 3 D0) x.h.Graph.Edges,(eL 1 (eL 1 eI)) x.h.Values,eB x.injective]
structure AL where
 Choice:Int
 Match:AH
 Kids:List AL
mutual
def UI:AL->TV
 | ⟨y0,y1,y2⟩=>.agg [eI y0,(eL 1 eI) y1.Morphism.Nodes,(eL 1 eI) y1.Morphism.Edges,(eL 1 eI) y1.Vars,.list 5 (Lb y2)]
def Lb:List AL->List TV
 | []=>[]
 | c::cs=>UI c::Lb cs
end
def Hz (l:List AL):TV:=.list 5 (Lb l)
def CQ (x:AL):TV:=.agg [eI x.Choice,(eL 1 eI) x.Match.Morphism.Nodes,(eL 1 eI) x.Match.Morphism.Edges,(eL 1 eI) x.Match.Vars,Hz x.Kids]
theorem U7 (x:AL):UI x=CQ x:=by
 cases x; rfl
theorem OW:∀ l:List AL,Lb l=l.map CQ
 | []=>rfl
 | x::l=>by rw [Lb,U7,OW l]; rfl
theorem Tu (l:List AL):Hz l=.list 5 (l.map CQ):=by rw [Hz,OW]
structure GU where
 P:Pattern
 C:AB
def GQ (x:GU):TV:=.agg [(eL 1 eI) x.P.Graph.Nodes,(eL 3 D0) x.P.Graph.Edges,(eL 4 KZ) x.P.Slots,eI x.P.Vars,(eL 5 Ka) x.P.Tests,eI x.C.Kind,GP x.C.Kids,(eL 1 eI) x.C.Map.Nodes,(eL 1 eI) x.C.Map.Edges,(eL 1 eI) x.C.Pattern.Graph.Nodes,(eL 3 D0) x.C.Pattern.Graph.Edges,(eL 4 KZ) x.C.Pattern.Slots,eI x.C.Pattern.Vars,(eL 5 Ka) x.C.Pattern.Tests]
structure Ki where
 H:AZ
 M:AH
 Injective:Bool
 deriving DecidableEq
def Ko (x:Ki):TV:=.agg [(eL 1 eI) x.H.Graph.Nodes,(eL 3 D0) x.H.Graph.Edges,(eL 1 (eL 1 eI)) x.H.Values,(eL 1 eI) x.M.Morphism.Nodes,(eL 1 eI) x.M.Morphism.Edges,(eL 1 eI) x.M.Vars,eB x.Injective]
abbrev lI:List Int->TV:=eL 1 eI
abbrev lE:List CW->TV:=eL 3 D0
abbrev lS:List DP->TV:=eL 4 KZ
abbrev lT:List Test->TV:=eL 5 Ka
abbrev lN:List CD->TV:=eL 4 GG
abbrev lX:List CN->TV:=eL 7 GZ
abbrev lA:List Attr->TV:=eL 4 HM
abbrev lB:List ByteArray->TV:=eL 1 eS
theorem Xb (a b:CW):B4 (TV.cells (D0 a)) (TV.cells (D0 b))=some (decide (a=b)):=by
 rcases a with ⟨a0,a1,a2⟩; rcases b with ⟨b0,b1,b2⟩; simp [D0,TV.cells,B4,eI,Bool.and_assoc,CW.mk.injEq]
end Go.Sf.Sc
