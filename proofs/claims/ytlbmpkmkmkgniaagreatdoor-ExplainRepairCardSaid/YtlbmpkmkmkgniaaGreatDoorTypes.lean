/- The types of the program as Lean types. -/
import Derived.Test.YtlbmpkmkmkgniaaGreatDoorSfDraw
import Derived.Test.YtlbmpkmkmkgniaaGreatDoorSfStep
import Derived.Test.YtlbmpkmkmkgniaaGreatDoorProg
set_option linter.all false
set_option maxRecDepth 100000
namespace Go.Sf.Sc
open Go Go.Sf Go.Proofs.Tryz
def eI (n:Int):TV:=.int .i64 n
def TF (n:Int):TV:=.int .u8 n
def Kn (n:Int):TV:=.int .u64 n
def xe (n:Int):TV:=.int .i32 n
def xg (n:Int):TV:=.int .u32 n
def zA (n:Int):TV:=.int .i8 n
def xd (n:Int):TV:=.int .i16 n
def xf (n:Int):TV:=.int .u16 n
def eB (b:Bool):TV:=.bool b
def eS (s:ByteArray):TV:=.str s
def eL {α:Type} (n:Nat) (e:α->TV) (l:List α):TV:=.list n (l.map e)
theorem Tryz_follows:Go.Proofs.Tryz.prog.follows .mixedOrders=true:=by decide +kernel
structure Attr where
 Name:ByteArray
 Low:Int
 High:Int
 Names:List ByteArray
 deriving DecidableEq
def IU (x:Attr):TV:=.agg [eS x.Name,eI x.Low,eI x.High,(eL 1 eS) x.Names]
structure CU where
 Name:ByteArray
 Parent:Int
 Abstract:Bool
 Attrs:List Attr
 deriving DecidableEq
def F8 (x:CU):TV:=.agg [eS x.Name,eI x.Parent,eB x.Abstract,(eL 4 IU) x.Attrs]
structure DD where
 Name:ByteArray
 From:Int
 To:Int
 OutLow:Int
 OutHigh:Int
 InLow:Int
 InHigh:Int
 deriving DecidableEq
def GY (x:DD):TV:=.agg [eS x.Name,eI x.From,eI x.To,eI x.OutLow,eI x.OutHigh,eI x.InLow,eI x.InHigh]
structure AC where
 Nodes:List CU
 Edges:List DD
 deriving DecidableEq
def AU (x:AC):TV:=.agg [(eL 4 F8) x.Nodes,(eL 7 GY) x.Edges]
structure DK where
 Type':Int
 From:Int
 To:Int
 deriving DecidableEq
def EB (x:DK):TV:=.agg [eI x.Type',eI x.From,eI x.To]
structure Graph where
 Nodes:Ne
 Edges:List DK
 deriving DecidableEq
def CS (x:Graph):TV:=.agg [(eL 1 eI) x.Nodes,(eL 3 EB) x.Edges]
structure Morphism where
 Nodes:Ne
 Edges:Ne
 deriving DecidableEq
def B4 (x:Morphism):TV:=.agg [(eL 1 eI) x.Nodes,(eL 1 eI) x.Edges]
structure AV where
 t:AC
 p:Graph
 g:Graph
 partial_:Morphism
 injective:Bool
 most:Int
 found:List Morphism
 deriving DecidableEq
def Qc (x:AV):TV:=.agg [(eL 4 F8) x.t.Nodes,(eL 7 GY) x.t.Edges,(eL 1 eI) x.p.Nodes,(eL 3 EB) x.p.Edges,(eL 1 eI) x.g.Nodes,(eL 3 EB) x.g.Edges,(eL 1 eI) x.partial_.Nodes,(eL 1 eI) x.partial_.Edges,eB x.injective,eI x.most,(eL 2 B4) x.found]
def CL (x:AV):List AY:=[⟨false,(eL 4 F8) x.t.Nodes⟩,⟨false,(eL 7 GY) x.t.Edges⟩,⟨false,(eL 1 eI) x.p.Nodes⟩,⟨false,(eL 3 EB) x.p.Edges⟩,⟨false,(eL 1 eI) x.g.Nodes⟩,⟨false,(eL 3 EB) x.g.Edges⟩,⟨false,(eL 1 eI) x.partial_.Nodes⟩,⟨false,(eL 1 eI) x.partial_.Edges⟩,⟨false,eB x.injective⟩,⟨false,eI x.most⟩,⟨true,(eL 2 B4) x.found⟩]
structure AM where
 p:Graph
 g:Graph
 is:List d0
 partial_:Morphism
 injective:Bool
 most:Int
 nodes:Ne
 edges:Ne
 out:List Morphism
 deriving DecidableEq
def Pd (x:AM):TV:=.agg [(eL 1 eI) x.p.Nodes,(eL 3 EB) x.p.Edges,(eL 1 eI) x.g.Nodes,(eL 3 EB) x.g.Edges,(eL 1 (eL 1 eB)) x.is,(eL 1 eI) x.partial_.Nodes,(eL 1 eI) x.partial_.Edges,eB x.injective,eI x.most,(eL 1 eI) x.nodes,(eL 1 eI) x.edges,(eL 2 B4) x.out]
def D3 (x:AM):List AY:=[⟨false,(eL 1 eI) x.p.Nodes⟩,⟨false,(eL 3 EB) x.p.Edges⟩,⟨false,(eL 1 eI) x.g.Nodes⟩,⟨false,(eL 3 EB) x.g.Edges⟩,⟨false,(eL 1 (eL 1 eB)) x.is⟩,⟨false,(eL 1 eI) x.partial_.Nodes⟩,⟨false,(eL 1 eI) x.partial_.Edges⟩,⟨false,eB x.injective⟩,⟨false,eI x.most⟩,⟨true,.xl 1 (List.map eI x.nodes)⟩,⟨true,.xl 1 (List.map eI x.edges)⟩,⟨true,(eL 2 B4) x.out⟩]
structure GK where
 Kind:Int
 Text:ByteArray
 Line:Int
 deriving DecidableEq
def TE (x:GK):TV:=.agg [eI x.Kind,eS x.Text,eI x.Line]
structure AQ where
 Graph:Graph
 Values:List Ne
 deriving DecidableEq
def EL (x:AQ):TV:=.agg [(eL 1 eI) x.Graph.Nodes,(eL 3 EB) x.Graph.Edges,(eL 1 (eL 1 eI)) x.Values]
structure Term where
 Var:Int
 Add:Int
 deriving DecidableEq
def OD (x:Term):TV:=.agg [eI x.Var,eI x.Add]
structure EG where
 Node:Int
 Attr:Int
 Term:Term
 deriving DecidableEq
def ME (x:EG):TV:=.agg [eI x.Node,eI x.Attr,eI x.Term.Var,eI x.Term.Add]
structure Test where
 Kind:Int
 Left:Term
 Right:Term
 deriving DecidableEq
def MF (x:Test):TV:=.agg [eI x.Kind,eI x.Left.Var,eI x.Left.Add,eI x.Right.Var,eI x.Right.Add]
structure Pattern where
 Graph:Graph
 Slots:List EG
 Vars:Int
 Tests:List Test
 deriving DecidableEq
def BN (x:Pattern):TV:=.agg [(eL 1 eI) x.Graph.Nodes,(eL 3 EB) x.Graph.Edges,(eL 4 ME) x.Slots,eI x.Vars,(eL 5 MF) x.Tests]
structure AA where
 Kind:Int
 Kids:List AA
 Map:Morphism
 Pattern:Pattern
mutual
def SH:AA->TV
 | ⟨y0,y1,y2,y3⟩=>.agg [eI y0,.list 9 (Jr y1),(eL 1 eI) y2.Nodes,(eL 1 eI) y2.Edges,(eL 1 eI) y3.Graph.Nodes,(eL 3 EB) y3.Graph.Edges,(eL 4 ME) y3.Slots,eI y3.Vars,(eL 5 MF) y3.Tests]
def Jr:List AA->QQ
 | []=>[]
 | c::cs=>SH c::Jr cs
end
def Hp (l:List AA):TV:=.list 9 (Jr l)
def AF (x:AA):TV:=.agg [eI x.Kind,Hp x.Kids,(eL 1 eI) x.Map.Nodes,(eL 1 eI) x.Map.Edges,(eL 1 eI) x.Pattern.Graph.Nodes,(eL 3 EB) x.Pattern.Graph.Edges,(eL 4 ME) x.Pattern.Slots,eI x.Pattern.Vars,(eL 5 MF) x.Pattern.Tests]
theorem T8 (x:AA):SH x=AF x:=by
 cases x; rfl
theorem NI:∀ l:List AA,Jr l=l.map AF
 | []=>rfl
 | x::l=>by rw [Jr,T8,NI l]; rfl
theorem Kr (l:List AA):Hp l=.list 9 (l.map AF):=by rw [Hp,NI]
structure AE where
 Morphism:Morphism
 Vars:Ne
 deriving DecidableEq
def AN (x:AE):TV:=.agg [(eL 1 eI) x.Morphism.Nodes,(eL 1 eI) x.Morphism.Edges,(eL 1 eI) x.Vars]
structure A7 where
 t:AC
 h:AQ
 injective:Bool
 deriving DecidableEq
def DL (x:A7):TV:=.agg [(eL 4 F8) x.t.Nodes,(eL 7 GY) x.t.Edges,(eL 1 eI) x.h.Graph.Nodes,(eL 3 EB) x.h.Graph.Edges,(eL 1 (eL 1 eI)) x.h.Values,eB x.injective]
structure A0 where
 Choice:Int
 Match:AE
 Kids:List A0
mutual
def Xm:A0->TV
 | ⟨y0,y1,y2⟩=>.agg [eI y0,(eL 1 eI) y1.Morphism.Nodes,(eL 1 eI) y1.Morphism.Edges,(eL 1 eI) y1.Vars,.list 5 (NJ y2)]
def NJ:List A0->QQ
 | []=>[]
 | c::cs=>Xm c::NJ cs
end
def I6 (l:List A0):TV:=.list 5 (NJ l)
def GD (x:A0):TV:=.agg [eI x.Choice,(eL 1 eI) x.Match.Morphism.Nodes,(eL 1 eI) x.Match.Morphism.Edges,(eL 1 eI) x.Match.Vars,I6 x.Kids]
theorem Yg (x:A0):Xm x=GD x:=by
 cases x; rfl
theorem Pz:∀ l:List A0,NJ l=l.map GD
 | []=>rfl
 | x::l=>by rw [NJ,Yg,Pz l]; rfl
theorem XL (l:List A0):I6 l=.list 5 (l.map GD):=by rw [I6,Pz]
structure AG where
 t:AC
 h:AQ
 injective:Bool
 deriving DecidableEq
def AI (x:AG):TV:=.agg [(eL 4 F8) x.t.Nodes,(eL 7 GY) x.t.Edges,(eL 1 eI) x.h.Graph.Nodes,(eL 3 EB) x.h.Graph.Edges,(eL 1 (eL 1 eI)) x.h.Values,eB x.injective]
structure AO where
 Path:Ne
 Kind:Int
 Nodes:Ne
 deriving DecidableEq
def AZ (x:AO):TV:=.agg [(eL 1 eI) x.Path,eI x.Kind,(eL 1 eI) x.Nodes]
structure Ht where
 P:Pattern
 C:AA
def Hq (x:Ht):TV:=.agg [(eL 1 eI) x.P.Graph.Nodes,(eL 3 EB) x.P.Graph.Edges,(eL 4 ME) x.P.Slots,eI x.P.Vars,(eL 5 MF) x.P.Tests,eI x.C.Kind,Hp x.C.Kids,(eL 1 eI) x.C.Map.Nodes,(eL 1 eI) x.C.Map.Edges,(eL 1 eI) x.C.Pattern.Graph.Nodes,(eL 3 EB) x.C.Pattern.Graph.Edges,(eL 4 ME) x.C.Pattern.Slots,eI x.C.Pattern.Vars,(eL 5 MF) x.C.Pattern.Tests]
structure KG where
 H:AQ
 M:AE
 Injective:Bool
 deriving DecidableEq
def K3 (x:KG):TV:=.agg [(eL 1 eI) x.H.Graph.Nodes,(eL 3 EB) x.H.Graph.Edges,(eL 1 (eL 1 eI)) x.H.Values,(eL 1 eI) x.M.Morphism.Nodes,(eL 1 eI) x.M.Morphism.Edges,(eL 1 eI) x.M.Vars,eB x.Injective]
structure DJ where
 T:AC
 H:AQ
 M:AE
 Injective:Bool
 deriving DecidableEq
def Io (x:DJ):TV:=.agg [(eL 4 F8) x.T.Nodes,(eL 7 GY) x.T.Edges,(eL 1 eI) x.H.Graph.Nodes,(eL 3 EB) x.H.Graph.Edges,(eL 1 (eL 1 eI)) x.H.Values,(eL 1 eI) x.M.Morphism.Nodes,(eL 1 eI) x.M.Morphism.Edges,(eL 1 eI) x.M.Vars,eB x.Injective]
abbrev lI:Ne->TV:=eL 1 eI
abbrev lE:List DK->TV:=eL 3 EB
abbrev lS:List EG->TV:=eL 4 ME
abbrev lT:List Test->TV:=eL 5 MF
abbrev lN:List CU->TV:=eL 4 F8
abbrev lX:List DD->TV:=eL 7 GY
abbrev lA:List Attr->TV:=eL 4 IU
abbrev lB:List ByteArray->TV:=eL 1 eS
theorem bl (a b:DK):CY (TV.cells (EB a)) (TV.cells (EB b))=some (decide (a=b)):=by
 rcases a with ⟨a0,a1,a2⟩; rcases b with ⟨b0,b1,b2⟩; simp [EB,TV.cells,CY,eI,Bool.and_assoc,DK.mk.injEq]
end Go.Sf.Sc
