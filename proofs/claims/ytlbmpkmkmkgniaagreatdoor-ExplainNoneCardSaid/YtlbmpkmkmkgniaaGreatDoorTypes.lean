/- The types of the program as Lean types. -/
import Derived.Test.YtlbmpkmkmkgniaaGreatDoorSfDraw
import Derived.Test.YtlbmpkmkmkgniaaGreatDoorSfStep
import Derived.Test.YtlbmpkmkmkgniaaGreatDoorProg
set_option maxRecDepth 100000
namespace Go.Sf.Sc
open Go Go.Sf Go.Proofs.Tryz
def eI (n:Int):TV:=.int .i64 n
def Q2 (n:Int):TV:=.int .u8 n
def Jk (n:Int):TV:=.int .u64 n
def sv (n:Int):TV:=.int .i32 n
def sy (n:Int):TV:=.int .u32 n
def uG (n:Int):TV:=.int .i8 n
def su (n:Int):TV:=.int .i16 n
def sw (n:Int):TV:=.int .u16 n
def eB (b:Bool):TV:=.bool b
def eS (s:ByteArray):TV:=.str s
def eL {α:Type} (n:Nat) (e:α->TV) (l:List α):TV:=.list n (l.map e)
theorem Tryz_follows:Go.Proofs.Tryz.prog.follows .mixedOrders=true:=by decide +kernel
structure DS where
 Type':Int
 From:Int
 To:Int
 deriving DecidableEq
def EQ (x:DS):TV:=.agg [eI x.Type',eI x.From,eI x.To]
structure Graph where
 Nodes:List Int
 Edges:List DS
 deriving DecidableEq
def DN (x:Graph):TV:=.agg [(eL 1 eI) x.Nodes,(eL 3 EQ) x.Edges]
structure Morphism where
 Nodes:List Int
 Edges:List Int
 deriving DecidableEq
def C9 (x:Morphism):TV:=.agg [(eL 1 eI) x.Nodes,(eL 1 eI) x.Edges]
structure AK where
 p:Graph
 g:Graph
 is:List (List Bool)
 partial_:Morphism
 injective:Bool
 most:Int
 nodes:List Int
 edges:List Int
 out:List Morphism
 deriving DecidableEq
def N8 (x:AK):TV:=.agg [(eL 1 eI) x.p.Nodes,(eL 3 EQ) x.p.Edges,(eL 1 eI) x.g.Nodes,(eL 3 EQ) x.g.Edges,(eL 1 (eL 1 eB)) x.is,(eL 1 eI) x.partial_.Nodes,(eL 1 eI) x.partial_.Edges,eB x.injective,eI x.most,(eL 1 eI) x.nodes,(eL 1 eI) x.edges,(eL 2 C9) x.out]
def DZ (x:AK):List AU:=[⟨false,(eL 1 eI) x.p.Nodes⟩,⟨false,(eL 3 EQ) x.p.Edges⟩,⟨false,(eL 1 eI) x.g.Nodes⟩,⟨false,(eL 3 EQ) x.g.Edges⟩,⟨false,(eL 1 (eL 1 eB)) x.is⟩,⟨false,(eL 1 eI) x.partial_.Nodes⟩,⟨false,(eL 1 eI) x.partial_.Edges⟩,⟨false,eB x.injective⟩,⟨false,eI x.most⟩,⟨true,.xl 1 (List.map eI x.nodes)⟩,⟨true,.xl 1 (List.map eI x.edges)⟩,⟨true,(eL 2 C9) x.out⟩]
structure FT where
 Kind:Int
 Text:ByteArray
 Line:Int
 deriving DecidableEq
def Q1 (x:FT):TV:=.agg [eI x.Kind,eS x.Text,eI x.Line]
structure Attr where
 Name:ByteArray
 Low:Int
 High:Int
 Names:List ByteArray
 deriving DecidableEq
def Hk (x:Attr):TV:=.agg [eS x.Name,eI x.Low,eI x.High,(eL 1 eS) x.Names]
structure CL where
 Name:ByteArray
 Parent:Int
 Abstract:Bool
 Attrs:List Attr
 deriving DecidableEq
def HI (x:CL):TV:=.agg [eS x.Name,eI x.Parent,eB x.Abstract,(eL 4 Hk) x.Attrs]
structure CZ where
 Name:ByteArray
 From:Int
 To:Int
 OutLow:Int
 OutHigh:Int
 InLow:Int
 InHigh:Int
 deriving DecidableEq
def Hm (x:CZ):TV:=.agg [eS x.Name,eI x.From,eI x.To,eI x.OutLow,eI x.OutHigh,eI x.InLow,eI x.InHigh]
structure AD where
 Nodes:List CL
 Edges:List CZ
 deriving DecidableEq
def At (x:AD):TV:=.agg [(eL 4 HI) x.Nodes,(eL 7 Hm) x.Edges]
structure A2 where
 Graph:Graph
 Values:List (List Int)
 deriving DecidableEq
def IP (x:A2):TV:=.agg [(eL 1 eI) x.Graph.Nodes,(eL 3 EQ) x.Graph.Edges,(eL 1 (eL 1 eI)) x.Values]
structure Term where
 Var:Int
 Add:Int
 deriving DecidableEq
def Ps (x:Term):TV:=.agg [eI x.Var,eI x.Add]
structure D8 where
 Node:Int
 Attr:Int
 Term:Term
 deriving DecidableEq
def Km (x:D8):TV:=.agg [eI x.Node,eI x.Attr,eI x.Term.Var,eI x.Term.Add]
structure Test where
 Kind:Int
 Left:Term
 Right:Term
 deriving DecidableEq
def LM (x:Test):TV:=.agg [eI x.Kind,eI x.Left.Var,eI x.Left.Add,eI x.Right.Var,eI x.Right.Add]
structure Pattern where
 Graph:Graph
 Slots:List D8
 Vars:Int
 Tests:List Test
 deriving DecidableEq
def B1 (x:Pattern):TV:=.agg [(eL 1 eI) x.Graph.Nodes,(eL 3 EQ) x.Graph.Edges,(eL 4 Km) x.Slots,eI x.Vars,(eL 5 LM) x.Tests]
structure AA where
 Kind:Int
 Kids:List AA
 Map:Morphism
 Pattern:Pattern
mutual
def QB:AA->TV
 | ⟨y0,y1,y2,y3⟩=>.agg [eI y0,.list 9 (I0 y1),(eL 1 eI) y2.Nodes,(eL 1 eI) y2.Edges,(eL 1 eI) y3.Graph.Nodes,(eL 3 EQ) y3.Graph.Edges,(eL 4 Km) y3.Slots,eI y3.Vars,(eL 5 LM) y3.Tests]
def I0:List AA->List TV
 | []=>[]
 | c::cs=>QB c::I0 cs
end
def G3 (l:List AA):TV:=.list 9 (I0 l)
def AF (x:AA):TV:=.agg [eI x.Kind,G3 x.Kids,(eL 1 eI) x.Map.Nodes,(eL 1 eI) x.Map.Edges,(eL 1 eI) x.Pattern.Graph.Nodes,(eL 3 EQ) x.Pattern.Graph.Edges,(eL 4 Km) x.Pattern.Slots,eI x.Pattern.Vars,(eL 5 LM) x.Pattern.Tests]
theorem SI (x:AA):QB x=AF x:=by
 cases x; rfl
theorem Lw:∀ l:List AA,I0 l=l.map AF
 | []=>rfl
 | x::l=>by rw [I0,SI,Lw l]; rfl
theorem Jl (l:List AA):G3 l=.list 9 (l.map AF):=by rw [G3,Lw]
structure AG where
 Morphism:Morphism
 Vars:List Int
 deriving DecidableEq
def AO (x:AG):TV:=.agg [(eL 1 eI) x.Morphism.Nodes,(eL 1 eI) x.Morphism.Edges,(eL 1 eI) x.Vars]
structure A3 where
 t:AD
 h:A2
 injective:Bool
 deriving DecidableEq
def C6 (x:A3):TV:=.agg [(eL 4 HI) x.t.Nodes,(eL 7 Hm) x.t.Edges,(eL 1 eI) x.h.Graph.Nodes,(eL 3 EQ) x.h.Graph.Edges,(eL 1 (eL 1 eI)) x.h.Values,eB x.injective]
structure BP where
 Choice:Int
 Match:AG
 Kids:List BP
mutual
def Vm:BP->TV
 | ⟨y0,y1,y2⟩=>.agg [eI y0,(eL 1 eI) y1.Morphism.Nodes,(eL 1 eI) y1.Morphism.Edges,(eL 1 eI) y1.Vars,.list 5 (Lx y2)]
def Lx:List BP->List TV
 | []=>[]
 | c::cs=>Vm c::Lx cs
end
def K3 (l:List BP):TV:=.list 5 (Lx l)
def HK (x:BP):TV:=.agg [eI x.Choice,(eL 1 eI) x.Match.Morphism.Nodes,(eL 1 eI) x.Match.Morphism.Edges,(eL 1 eI) x.Match.Vars,K3 x.Kids]
theorem Wa (x:BP):Vm x=HK x:=by
 cases x; rfl
theorem OU:∀ l:List BP,Lx l=l.map HK
 | []=>rfl
 | x::l=>by rw [Lx,Wa,OU l]; rfl
theorem VM (l:List BP):K3 l=.list 5 (l.map HK):=by rw [K3,OU]
structure AE where
 t:AD
 h:A2
 injective:Bool
 deriving DecidableEq
def AI (x:AE):TV:=.agg [(eL 4 HI) x.t.Nodes,(eL 7 Hm) x.t.Edges,(eL 1 eI) x.h.Graph.Nodes,(eL 3 EQ) x.h.Graph.Edges,(eL 1 (eL 1 eI)) x.h.Values,eB x.injective]
structure AN where
 Path:List Int
 Kind:Int
 Nodes:List Int
 deriving DecidableEq
def AW (x:AN):TV:=.agg [(eL 1 eI) x.Path,eI x.Kind,(eL 1 eI) x.Nodes]
structure G7 where
 P:Pattern
 C:AA
def G4 (x:G7):TV:=.agg [(eL 1 eI) x.P.Graph.Nodes,(eL 3 EQ) x.P.Graph.Edges,(eL 4 Km) x.P.Slots,eI x.P.Vars,(eL 5 LM) x.P.Tests,eI x.C.Kind,G3 x.C.Kids,(eL 1 eI) x.C.Map.Nodes,(eL 1 eI) x.C.Map.Edges,(eL 1 eI) x.C.Pattern.Graph.Nodes,(eL 3 EQ) x.C.Pattern.Graph.Edges,(eL 4 Km) x.C.Pattern.Slots,eI x.C.Pattern.Vars,(eL 5 LM) x.C.Pattern.Tests]
structure JK where
 H:A2
 M:AG
 Injective:Bool
 deriving DecidableEq
def Jv (x:JK):TV:=.agg [(eL 1 eI) x.H.Graph.Nodes,(eL 3 EQ) x.H.Graph.Edges,(eL 1 (eL 1 eI)) x.H.Values,(eL 1 eI) x.M.Morphism.Nodes,(eL 1 eI) x.M.Morphism.Edges,(eL 1 eI) x.M.Vars,eB x.Injective]
abbrev lI:List Int->TV:=eL 1 eI
abbrev lE:List DS->TV:=eL 3 EQ
abbrev lS:List D8->TV:=eL 4 Km
abbrev lT:List Test->TV:=eL 5 LM
abbrev lN:List CL->TV:=eL 4 HI
abbrev lX:List CZ->TV:=eL 7 Hm
abbrev lA:List Attr->TV:=eL 4 Hk
abbrev lB:List ByteArray->TV:=eL 1 eS
theorem ZB (a b:DS):CN (TV.cells (EQ a)) (TV.cells (EQ b))=some (decide (a=b)):=by
 rcases a with ⟨a0,a1,a2⟩; rcases b with ⟨b0,b1,b2⟩; simp [EQ,TV.cells,CN,eI,Bool.and_assoc,DS.mk.injEq]
end Go.Sf.Sc
