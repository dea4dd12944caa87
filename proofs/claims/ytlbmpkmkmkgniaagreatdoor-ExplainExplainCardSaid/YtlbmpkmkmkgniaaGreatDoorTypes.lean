/- The types of the program as Lean types. -/
import Derived.Test.YtlbmpkmkmkgniaaGreatDoorSfDraw
import Derived.Test.YtlbmpkmkmkgniaaGreatDoorSfStep
import Derived.Test.YtlbmpkmkmkgniaaGreatDoorProg
set_option linter.all false
set_option maxRecDepth 100000
namespace Go.Sf.Sc
open Go Go.Sf Go.Proofs.Tryz
def eI (n:Int):TV:=.int .i64 n
def Td (n:Int):TV:=.int .u8 n
def Ky (n:Int):TV:=.int .u64 n
def xm (n:Int):TV:=.int .i32 n
def xp (n:Int):TV:=.int .u32 n
def zJ (n:Int):TV:=.int .i8 n
def xk (n:Int):TV:=.int .i16 n
def xn (n:Int):TV:=.int .u16 n
def eB (b:Bool):TV:=.bool b
def eS (s:ByteArray):TV:=.str s
def eL {α:Type} (n:Nat) (e:α->TV) (l:List α):TV:=.list n (l.map e)
theorem Tryz_follows:Go.Proofs.Tryz.prog.follows .mixedOrders=true:=by decide +kernel
structure Attr where
 Name:ByteArray
 Low:Int
 High:Int
 Names:List ByteArray
 deriving DecidableEq
def If (x:Attr):TV:=.agg [eS x.Name,eI x.Low,eI x.High,(eL 1 eS) x.Names]
structure CX where
 Name:ByteArray
 Parent:Int
 Abstract:Bool
 Attrs:List Attr
 deriving DecidableEq
def F9 (x:CX):TV:=.agg [eS x.Name,eI x.Parent,eB x.Abstract,(eL 4 If) x.Attrs]
structure DF where
 Name:ByteArray
 From:Int
 To:Int
 OutLow:Int
 OutHigh:Int
 InLow:Int
 InHigh:Int
 deriving DecidableEq
def G5 (x:DF):TV:=.agg [eS x.Name,eI x.From,eI x.To,eI x.OutLow,eI x.OutHigh,eI x.InLow,eI x.InHigh]
structure AC where
 Nodes:List CX
 Edges:List DF
 deriving DecidableEq
def AV (x:AC):TV:=.agg [(eL 4 F9) x.Nodes,(eL 7 G5) x.Edges]
structure DY where
 Type':Int
 From:Int
 To:Int
 deriving DecidableEq
def EJ (x:DY):TV:=.agg [eI x.Type',eI x.From,eI x.To]
structure Graph where
 Nodes:Ne
 Edges:List DY
 deriving DecidableEq
def C0 (x:Graph):TV:=.agg [(eL 1 eI) x.Nodes,(eL 3 EJ) x.Edges]
structure Morphism where
 Nodes:Ne
 Edges:Ne
 deriving DecidableEq
def CC (x:Morphism):TV:=.agg [(eL 1 eI) x.Nodes,(eL 1 eI) x.Edges]
structure AW where
 t:AC
 p:Graph
 g:Graph
 partial_:Morphism
 injective:Bool
 most:Int
 found:List Morphism
 deriving DecidableEq
def Q3 (x:AW):TV:=.agg [(eL 4 F9) x.t.Nodes,(eL 7 G5) x.t.Edges,(eL 1 eI) x.p.Nodes,(eL 3 EJ) x.p.Edges,(eL 1 eI) x.g.Nodes,(eL 3 EJ) x.g.Edges,(eL 1 eI) x.partial_.Nodes,(eL 1 eI) x.partial_.Edges,eB x.injective,eI x.most,(eL 2 CC) x.found]
def CO (x:AW):List At:=[⟨false,(eL 4 F9) x.t.Nodes⟩,⟨false,(eL 7 G5) x.t.Edges⟩,⟨false,(eL 1 eI) x.p.Nodes⟩,⟨false,(eL 3 EJ) x.p.Edges⟩,⟨false,(eL 1 eI) x.g.Nodes⟩,⟨false,(eL 3 EJ) x.g.Edges⟩,⟨false,(eL 1 eI) x.partial_.Nodes⟩,⟨false,(eL 1 eI) x.partial_.Edges⟩,⟨false,eB x.injective⟩,⟨false,eI x.most⟩,⟨true,(eL 2 CC) x.found⟩]
structure AN where
 p:Graph
 g:Graph
 is:List d0
 partial_:Morphism
 injective:Bool
 most:Int
 nodes:Ne
 edges:Ne
 out:List Morphism
 deriving DecidableEq
def Pu (x:AN):TV:=.agg [(eL 1 eI) x.p.Nodes,(eL 3 EJ) x.p.Edges,(eL 1 eI) x.g.Nodes,(eL 3 EJ) x.g.Edges,(eL 1 (eL 1 eB)) x.is,(eL 1 eI) x.partial_.Nodes,(eL 1 eI) x.partial_.Edges,eB x.injective,eI x.most,(eL 1 eI) x.nodes,(eL 1 eI) x.edges,(eL 2 CC) x.out]
def EC (x:AN):List At:=[⟨false,(eL 1 eI) x.p.Nodes⟩,⟨false,(eL 3 EJ) x.p.Edges⟩,⟨false,(eL 1 eI) x.g.Nodes⟩,⟨false,(eL 3 EJ) x.g.Edges⟩,⟨false,(eL 1 (eL 1 eB)) x.is⟩,⟨false,(eL 1 eI) x.partial_.Nodes⟩,⟨false,(eL 1 eI) x.partial_.Edges⟩,⟨false,eB x.injective⟩,⟨false,eI x.most⟩,⟨true,.xl 1 (List.map eI x.nodes)⟩,⟨true,.xl 1 (List.map eI x.edges)⟩,⟨true,(eL 2 CC) x.out⟩]
structure GN where
 Kind:Int
 Text:ByteArray
 Line:Int
 deriving DecidableEq
def Tc (x:GN):TV:=.agg [eI x.Kind,eS x.Text,eI x.Line]
structure AT where
 Graph:Graph
 Values:List Ne
 deriving DecidableEq
def ER (x:AT):TV:=.agg [(eL 1 eI) x.Graph.Nodes,(eL 3 EJ) x.Graph.Edges,(eL 1 (eL 1 eI)) x.Values]
structure Term where
 Var:Int
 Add:Int
 deriving DecidableEq
def OV (x:Term):TV:=.agg [eI x.Var,eI x.Add]
structure EI where
 Node:Int
 Attr:Int
 Term:Term
 deriving DecidableEq
def MD (x:EI):TV:=.agg [eI x.Node,eI x.Attr,eI x.Term.Var,eI x.Term.Add]
structure Test where
 Kind:Int
 Left:Term
 Right:Term
 deriving DecidableEq
def ME (x:Test):TV:=.agg [eI x.Kind,eI x.Left.Var,eI x.Left.Add,eI x.Right.Var,eI x.Right.Add]
structure Pattern where
 Graph:Graph
 Slots:List EI
 Vars:Int
 Tests:List Test
 deriving DecidableEq
def BT (x:Pattern):TV:=.agg [(eL 1 eI) x.Graph.Nodes,(eL 3 EJ) x.Graph.Edges,(eL 4 MD) x.Slots,eI x.Vars,(eL 5 ME) x.Tests]
structure AA where
 Kind:Int
 Kids:List AA
 Map:Morphism
 Pattern:Pattern
mutual
def Sl:AA->TV
 | ⟨y0,y1,y2,y3⟩=>.agg [eI y0,.list 9 (J0 y1),(eL 1 eI) y2.Nodes,(eL 1 eI) y2.Edges,(eL 1 eI) y3.Graph.Nodes,(eL 3 EJ) y3.Graph.Edges,(eL 4 MD) y3.Slots,eI y3.Vars,(eL 5 ME) y3.Tests]
def J0:List AA->QQ
 | []=>[]
 | c::cs=>Sl c::J0 cs
end
def H4 (l:List AA):TV:=.list 9 (J0 l)
def AE (x:AA):TV:=.agg [eI x.Kind,H4 x.Kids,(eL 1 eI) x.Map.Nodes,(eL 1 eI) x.Map.Edges,(eL 1 eI) x.Pattern.Graph.Nodes,(eL 3 EJ) x.Pattern.Graph.Edges,(eL 4 MD) x.Pattern.Slots,eI x.Pattern.Vars,(eL 5 ME) x.Pattern.Tests]
theorem UT (x:AA):Sl x=AE x:=by
 cases x; rfl
theorem NU:∀ l:List AA,J0 l=l.map AE
 | []=>rfl
 | x::l=>by rw [J0,UT,NU l]; rfl
theorem K0 (l:List AA):H4 l=.list 9 (l.map AE):=by rw [H4,NU]
structure AF where
 Morphism:Morphism
 Vars:Ne
 deriving DecidableEq
def AO (x:AF):TV:=.agg [(eL 1 eI) x.Morphism.Nodes,(eL 1 eI) x.Morphism.Edges,(eL 1 eI) x.Vars]
structure A8 where
 t:AC
 h:AT
 injective:Bool
 deriving DecidableEq
def DM (x:A8):TV:=.agg [(eL 4 F9) x.t.Nodes,(eL 7 G5) x.t.Edges,(eL 1 eI) x.h.Graph.Nodes,(eL 3 EJ) x.h.Graph.Edges,(eL 1 (eL 1 eI)) x.h.Values,eB x.injective]
structure A1 where
 Choice:Int
 Match:AF
 Kids:List A1
mutual
def YB:A1->TV
 | ⟨y0,y1,y2⟩=>.agg [eI y0,(eL 1 eI) y1.Morphism.Nodes,(eL 1 eI) y1.Morphism.Edges,(eL 1 eI) y1.Vars,.list 5 (NV y2)]
def NV:List A1->QQ
 | []=>[]
 | c::cs=>YB c::NV cs
end
def JF (l:List A1):TV:=.list 5 (NV l)
def GI (x:A1):TV:=.agg [eI x.Choice,(eL 1 eI) x.Match.Morphism.Nodes,(eL 1 eI) x.Match.Morphism.Edges,(eL 1 eI) x.Match.Vars,JF x.Kids]
theorem Y4 (x:A1):YB x=GI x:=by
 cases x; rfl
theorem QH:∀ l:List A1,NV l=l.map GI
 | []=>rfl
 | x::l=>by rw [NV,Y4,QH l]; rfl
theorem Xj (l:List A1):JF l=.list 5 (l.map GI):=by rw [JF,QH]
structure AG where
 t:AC
 h:AT
 injective:Bool
 deriving DecidableEq
def AK (x:AG):TV:=.agg [(eL 4 F9) x.t.Nodes,(eL 7 G5) x.t.Edges,(eL 1 eI) x.h.Graph.Nodes,(eL 3 EJ) x.h.Graph.Edges,(eL 1 (eL 1 eI)) x.h.Values,eB x.injective]
structure AH where
 Path:Ne
 Kind:Int
 Nodes:Ne
 deriving DecidableEq
def AQ (x:AH):TV:=.agg [(eL 1 eI) x.Path,eI x.Kind,(eL 1 eI) x.Nodes]
structure H8 where
 P:Pattern
 C:AA
def H5 (x:H8):TV:=.agg [(eL 1 eI) x.P.Graph.Nodes,(eL 3 EJ) x.P.Graph.Edges,(eL 4 MD) x.P.Slots,eI x.P.Vars,(eL 5 ME) x.P.Tests,eI x.C.Kind,H4 x.C.Kids,(eL 1 eI) x.C.Map.Nodes,(eL 1 eI) x.C.Map.Edges,(eL 1 eI) x.C.Pattern.Graph.Nodes,(eL 3 EJ) x.C.Pattern.Graph.Edges,(eL 4 MD) x.C.Pattern.Slots,eI x.C.Pattern.Vars,(eL 5 ME) x.C.Pattern.Tests]
structure KO where
 H:AT
 M:AF
 Injective:Bool
 deriving DecidableEq
def LA (x:KO):TV:=.agg [(eL 1 eI) x.H.Graph.Nodes,(eL 3 EJ) x.H.Graph.Edges,(eL 1 (eL 1 eI)) x.H.Values,(eL 1 eI) x.M.Morphism.Nodes,(eL 1 eI) x.M.Morphism.Edges,(eL 1 eI) x.M.Vars,eB x.Injective]
structure A3 where
 T:AC
 H:AT
 M:AF
 Injective:Bool
 deriving DecidableEq
def BP (x:A3):TV:=.agg [(eL 4 F9) x.T.Nodes,(eL 7 G5) x.T.Edges,(eL 1 eI) x.H.Graph.Nodes,(eL 3 EJ) x.H.Graph.Edges,(eL 1 (eL 1 eI)) x.H.Values,(eL 1 eI) x.M.Morphism.Nodes,(eL 1 eI) x.M.Morphism.Edges,(eL 1 eI) x.M.Vars,eB x.Injective]
abbrev lI:Ne->TV:=eL 1 eI
abbrev lE:List DY->TV:=eL 3 EJ
abbrev lS:List EI->TV:=eL 4 MD
abbrev lT:List Test->TV:=eL 5 ME
abbrev lN:List CX->TV:=eL 4 F9
abbrev lX:List DF->TV:=eL 7 G5
abbrev lA:List Attr->TV:=eL 4 If
abbrev lB:List ByteArray->TV:=eL 1 eS
theorem cI (a b:DY):CY (TV.cells (EJ a)) (TV.cells (EJ b))=some (decide (a=b)):=by
 rcases a with ⟨a0,a1,a2⟩; rcases b with ⟨b0,b1,b2⟩; simp [EJ,TV.cells,CY,eI,Bool.and_assoc,DY.mk.injEq]
end Go.Sf.Sc
