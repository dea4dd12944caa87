/- The types of the program as Lean types. -/
import Derived.Test.YtlbmpkmkmkgniaaGreatDoorSfDraw
import Derived.Test.YtlbmpkmkmkgniaaGreatDoorSfStep
import Derived.Test.YtlbmpkmkmkgniaaGreatDoorProg
set_option linter.all false
set_option maxRecDepth 100000
namespace Go.Sf.Sc
open Go Go.Sf Go.Proofs.Tryz
def eI (n:Int):TV:=.int .i64 n
def SI (n:Int):TV:=.int .u8 n
def KL (n:Int):TV:=.int .u64 n
def vH (n:Int):TV:=.int .i32 n
def vJ (n:Int):TV:=.int .u32 n
def we (n:Int):TV:=.int .i8 n
def vG (n:Int):TV:=.int .i16 n
def vI (n:Int):TV:=.int .u16 n
def eB (b:Bool):TV:=.bool b
def eS (s:ByteArray):TV:=.str s
def eL {α:Type} (n:Nat) (e:α->TV) (l:List α):TV:=.list n (l.map e)
theorem Tryz_follows:Go.Proofs.Tryz.prog.follows .mixedOrders=true:=by decide +kernel
structure Attr where
 Name:ByteArray
 Low:Int
 High:Int
 Names:List ByteArray
 deriving DecidableEq
def IB (x:Attr):TV:=.agg [eS x.Name,eI x.Low,eI x.High,(eL 1 eS) x.Names]
structure CP where
 Name:ByteArray
 Parent:Int
 Abstract:Bool
 Attrs:List Attr
 deriving DecidableEq
def FV (x:CP):TV:=.agg [eS x.Name,eI x.Parent,eB x.Abstract,(eL 4 IB) x.Attrs]
structure DA where
 Name:ByteArray
 From:Int
 To:Int
 OutLow:Int
 OutHigh:Int
 InLow:Int
 InHigh:Int
 deriving DecidableEq
def GH (x:DA):TV:=.agg [eS x.Name,eI x.From,eI x.To,eI x.OutLow,eI x.OutHigh,eI x.InLow,eI x.InHigh]
structure AD where
 Nodes:List CP
 Edges:List DA
 deriving DecidableEq
def At (x:AD):TV:=.agg [(eL 4 FV) x.Nodes,(eL 7 GH) x.Edges]
structure DG where
 Type':Int
 From:Int
 To:Int
 deriving DecidableEq
def D5 (x:DG):TV:=.agg [eI x.Type',eI x.From,eI x.To]
structure Graph where
 Nodes:Ne
 Edges:List DG
 deriving DecidableEq
def C2 (x:Graph):TV:=.agg [(eL 1 eI) x.Nodes,(eL 3 D5) x.Edges]
structure Morphism where
 Nodes:Ne
 Edges:Ne
 deriving DecidableEq
def CD (x:Morphism):TV:=.agg [(eL 1 eI) x.Nodes,(eL 1 eI) x.Edges]
structure AS where
 t:AD
 p:Graph
 g:Graph
 partial_:Morphism
 injective:Bool
 most:Int
 found:List Morphism
 deriving DecidableEq
def P2 (x:AS):TV:=.agg [(eL 4 FV) x.t.Nodes,(eL 7 GH) x.t.Edges,(eL 1 eI) x.p.Nodes,(eL 3 D5) x.p.Edges,(eL 1 eI) x.g.Nodes,(eL 3 D5) x.g.Edges,(eL 1 eI) x.partial_.Nodes,(eL 1 eI) x.partial_.Edges,eB x.injective,eI x.most,(eL 2 CD) x.found]
def CE (x:AS):List AV:=[⟨false,(eL 4 FV) x.t.Nodes⟩,⟨false,(eL 7 GH) x.t.Edges⟩,⟨false,(eL 1 eI) x.p.Nodes⟩,⟨false,(eL 3 D5) x.p.Edges⟩,⟨false,(eL 1 eI) x.g.Nodes⟩,⟨false,(eL 3 D5) x.g.Edges⟩,⟨false,(eL 1 eI) x.partial_.Nodes⟩,⟨false,(eL 1 eI) x.partial_.Edges⟩,⟨false,eB x.injective⟩,⟨false,eI x.most⟩,⟨true,(eL 2 CD) x.found⟩]
structure AM where
 p:Graph
 g:Graph
 is:List d0
 partial_:Morphism
 injective:Bool
 most:Int
 nodes:Ne
 edges:Ne
 out:List Morphism
 deriving DecidableEq
def Om (x:AM):TV:=.agg [(eL 1 eI) x.p.Nodes,(eL 3 D5) x.p.Edges,(eL 1 eI) x.g.Nodes,(eL 3 D5) x.g.Edges,(eL 1 (eL 1 eB)) x.is,(eL 1 eI) x.partial_.Nodes,(eL 1 eI) x.partial_.Edges,eB x.injective,eI x.most,(eL 1 eI) x.nodes,(eL 1 eI) x.edges,(eL 2 CD) x.out]
def D0 (x:AM):List AV:=[⟨false,(eL 1 eI) x.p.Nodes⟩,⟨false,(eL 3 D5) x.p.Edges⟩,⟨false,(eL 1 eI) x.g.Nodes⟩,⟨false,(eL 3 D5) x.g.Edges⟩,⟨false,(eL 1 (eL 1 eB)) x.is⟩,⟨false,(eL 1 eI) x.partial_.Nodes⟩,⟨false,(eL 1 eI) x.partial_.Edges⟩,⟨false,eB x.injective⟩,⟨false,eI x.most⟩,⟨true,.xl 1 (List.map eI x.nodes)⟩,⟨true,.xl 1 (List.map eI x.edges)⟩,⟨true,(eL 2 CD) x.out⟩]
structure F3 where
 Kind:Int
 Text:ByteArray
 Line:Int
 deriving DecidableEq
def SH (x:F3):TV:=.agg [eI x.Kind,eS x.Text,eI x.Line]
structure A0 where
 Graph:Graph
 Values:List Ne
 deriving DecidableEq
def Iu (x:A0):TV:=.agg [(eL 1 eI) x.Graph.Nodes,(eL 3 D5) x.Graph.Edges,(eL 1 (eL 1 eI)) x.Values]
structure Term where
 Var:Int
 Add:Int
 deriving DecidableEq
def RD (x:Term):TV:=.agg [eI x.Var,eI x.Add]
structure EG where
 Node:Int
 Attr:Int
 Term:Term
 deriving DecidableEq
def LS (x:EG):TV:=.agg [eI x.Node,eI x.Attr,eI x.Term.Var,eI x.Term.Add]
structure Test where
 Kind:Int
 Left:Term
 Right:Term
 deriving DecidableEq
def L9 (x:Test):TV:=.agg [eI x.Kind,eI x.Left.Var,eI x.Left.Add,eI x.Right.Var,eI x.Right.Add]
structure Pattern where
 Graph:Graph
 Slots:List EG
 Vars:Int
 Tests:List Test
 deriving DecidableEq
def B2 (x:Pattern):TV:=.agg [(eL 1 eI) x.Graph.Nodes,(eL 3 D5) x.Graph.Edges,(eL 4 LS) x.Slots,eI x.Vars,(eL 5 L9) x.Tests]
structure AA where
 Kind:Int
 Kids:List AA
 Map:Morphism
 Pattern:Pattern
mutual
def RS:AA->TV
 | ⟨y0,y1,y2,y3⟩=>.agg [eI y0,.list 9 (JW y1),(eL 1 eI) y2.Nodes,(eL 1 eI) y2.Edges,(eL 1 eI) y3.Graph.Nodes,(eL 3 D5) y3.Graph.Edges,(eL 4 LS) y3.Slots,eI y3.Vars,(eL 5 L9) y3.Tests]
def JW:List AA->QQ
 | []=>[]
 | c::cs=>RS c::JW cs
end
def HL (l:List AA):TV:=.list 9 (JW l)
def AF (x:AA):TV:=.agg [eI x.Kind,HL x.Kids,(eL 1 eI) x.Map.Nodes,(eL 1 eI) x.Map.Edges,(eL 1 eI) x.Pattern.Graph.Nodes,(eL 3 D5) x.Pattern.Graph.Edges,(eL 4 LS) x.Pattern.Slots,eI x.Pattern.Vars,(eL 5 L9) x.Pattern.Tests]
theorem TC (x:AA):RS x=AF x:=by
 cases x; rfl
theorem Mg:∀ l:List AA,JW l=l.map AF
 | []=>rfl
 | x::l=>by rw [JW,TC,Mg l]; rfl
theorem KN (l:List AA):HL l=.list 9 (l.map AF):=by rw [HL,Mg]
structure AG where
 Morphism:Morphism
 Vars:Ne
 deriving DecidableEq
def AN (x:AG):TV:=.agg [(eL 1 eI) x.Morphism.Nodes,(eL 1 eI) x.Morphism.Edges,(eL 1 eI) x.Vars]
structure A4 where
 t:AD
 h:A0
 injective:Bool
 deriving DecidableEq
def DH (x:A4):TV:=.agg [(eL 4 FV) x.t.Nodes,(eL 7 GH) x.t.Edges,(eL 1 eI) x.h.Graph.Nodes,(eL 3 D5) x.h.Graph.Edges,(eL 1 (eL 1 eI)) x.h.Values,eB x.injective]
structure BQ where
 Choice:Int
 Match:AG
 Kids:List BQ
mutual
def Wg:BQ->TV
 | ⟨y0,y1,y2⟩=>.agg [eI y0,(eL 1 eI) y1.Morphism.Nodes,(eL 1 eI) y1.Morphism.Edges,(eL 1 eI) y1.Vars,.list 5 (Mh y2)]
def Mh:List BQ->QQ
 | []=>[]
 | c::cs=>Wg c::Mh cs
end
def Lp (l:List BQ):TV:=.list 5 (Mh l)
def HZ (x:BQ):TV:=.agg [eI x.Choice,(eL 1 eI) x.Match.Morphism.Nodes,(eL 1 eI) x.Match.Morphism.Edges,(eL 1 eI) x.Match.Vars,Lp x.Kids]
theorem Xa (x:BQ):Wg x=HZ x:=by
 cases x; rfl
theorem PH:∀ l:List BQ,Mh l=l.map HZ
 | []=>rfl
 | x::l=>by rw [Mh,Xa,PH l]; rfl
theorem WE (l:List BQ):Lp l=.list 5 (l.map HZ):=by rw [Lp,PH]
structure AE where
 t:AD
 h:A0
 injective:Bool
 deriving DecidableEq
def AI (x:AE):TV:=.agg [(eL 4 FV) x.t.Nodes,(eL 7 GH) x.t.Edges,(eL 1 eI) x.h.Graph.Nodes,(eL 3 D5) x.h.Graph.Edges,(eL 1 (eL 1 eI)) x.h.Values,eB x.injective]
structure AO where
 Path:Ne
 Kind:Int
 Nodes:Ne
 deriving DecidableEq
def AX (x:AO):TV:=.agg [(eL 1 eI) x.Path,eI x.Kind,(eL 1 eI) x.Nodes]
structure HP where
 P:Pattern
 C:AA
def HM (x:HP):TV:=.agg [(eL 1 eI) x.P.Graph.Nodes,(eL 3 D5) x.P.Graph.Edges,(eL 4 LS) x.P.Slots,eI x.P.Vars,(eL 5 L9) x.P.Tests,eI x.C.Kind,HL x.C.Kids,(eL 1 eI) x.C.Map.Nodes,(eL 1 eI) x.C.Map.Edges,(eL 1 eI) x.C.Pattern.Graph.Nodes,(eL 3 D5) x.C.Pattern.Graph.Edges,(eL 4 LS) x.C.Pattern.Slots,eI x.C.Pattern.Vars,(eL 5 L9) x.C.Pattern.Tests]
structure Jr where
 H:A0
 M:AG
 Injective:Bool
 deriving DecidableEq
def KY (x:Jr):TV:=.agg [(eL 1 eI) x.H.Graph.Nodes,(eL 3 D5) x.H.Graph.Edges,(eL 1 (eL 1 eI)) x.H.Values,(eL 1 eI) x.M.Morphism.Nodes,(eL 1 eI) x.M.Morphism.Edges,(eL 1 eI) x.M.Vars,eB x.Injective]
structure IF where
 T:AD
 H:A0
 M:AG
 Injective:Bool
 deriving DecidableEq
def Qk (x:IF):TV:=.agg [(eL 4 FV) x.T.Nodes,(eL 7 GH) x.T.Edges,(eL 1 eI) x.H.Graph.Nodes,(eL 3 D5) x.H.Graph.Edges,(eL 1 (eL 1 eI)) x.H.Values,(eL 1 eI) x.M.Morphism.Nodes,(eL 1 eI) x.M.Morphism.Edges,(eL 1 eI) x.M.Vars,eB x.Injective]
abbrev lI:Ne->TV:=eL 1 eI
abbrev lE:List DG->TV:=eL 3 D5
abbrev lS:List EG->TV:=eL 4 LS
abbrev lT:List Test->TV:=eL 5 L9
abbrev lN:List CP->TV:=eL 4 FV
abbrev lX:List DA->TV:=eL 7 GH
abbrev lA:List Attr->TV:=eL 4 IB
abbrev lB:List ByteArray->TV:=eL 1 eS
theorem aM (a b:DG):CQ (TV.cells (D5 a)) (TV.cells (D5 b))=some (decide (a=b)):=by
 rcases a with ⟨a0,a1,a2⟩; rcases b with ⟨b0,b1,b2⟩; simp [D5,TV.cells,CQ,eI,Bool.and_assoc,DG.mk.injEq]
end Go.Sf.Sc
