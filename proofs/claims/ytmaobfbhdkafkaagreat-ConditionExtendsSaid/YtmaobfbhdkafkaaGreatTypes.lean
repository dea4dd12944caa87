/- The types of the program as Lean types. -/
import Derived.Test.YtmaobfbhdkafkaaGreatSfDraw
import Derived.Test.YtmaobfbhdkafkaaGreatSfStep
import Derived.Test.YtmaobfbhdkafkaaGreatProg
set_option maxRecDepth 100000
namespace Go.Sf.Sc
open Go Go.Sf Go.Proofs.Tryz
def eI (n:Int):TV:=.int .i64 n
def G6 (n:Int):TV:=.int .u8 n
def J4 (n:Int):TV:=.int .u64 n
def tP (n:Int):TV:=.int .i32 n
def tR (n:Int):TV:=.int .u32 n
def X7 (n:Int):TV:=.int .i8 n
def tO (n:Int):TV:=.int .i16 n
def tQ (n:Int):TV:=.int .u16 n
def eB (b:Bool):TV:=.bool b
def eS (s:ByteArray):TV:=.str s
def eL {α:Type} (n:Nat) (e:α->TV) (l:List α):TV:=.list n (l.map e)
theorem Tryz_follows:Go.Proofs.Tryz.prog.follows .mixedOrders=true:=by decide +kernel
structure Attr where
 Name:ByteArray
 Low:Int
 High:Int
 Names:List ByteArray
 deriving DecidableEq
def IT (x:Attr):TV:=.agg [eS x.Name,eI x.Low,eI x.High,(eL 1 eS) x.Names]
structure BF where
 Name:ByteArray
 Parent:Int
 Abstract:Bool
 Attrs:List Attr
 deriving DecidableEq
def Ht (x:BF):TV:=.agg [eS x.Name,eI x.Parent,eB x.Abstract,(eL 4 IT) x.Attrs]
structure CJ where
 Name:ByteArray
 From:Int
 To:Int
 OutLow:Int
 OutHigh:Int
 InLow:Int
 InHigh:Int
 deriving DecidableEq
def IU (x:CJ):TV:=.agg [eS x.Name,eI x.From,eI x.To,eI x.OutLow,eI x.OutHigh,eI x.InLow,eI x.InHigh]
structure Types where
 Nodes:List BF
 Edges:List CJ
 deriving DecidableEq
def AU (x:Types):TV:=.agg [(eL 4 Ht) x.Nodes,(eL 7 IU) x.Edges]
structure B6 where
 Type':Int
 From:Int
 To:Int
 deriving DecidableEq
def EB (x:B6):TV:=.agg [eI x.Type',eI x.From,eI x.To]
structure Graph where
 Nodes:List Int
 Edges:List B6
 deriving DecidableEq
def B3 (x:Graph):TV:=.agg [(eL 1 eI) x.Nodes,(eL 3 EB) x.Edges]
structure Morphism where
 Nodes:List Int
 Edges:List Int
 deriving DecidableEq
def BN (x:Morphism):TV:=.agg [(eL 1 eI) x.Nodes,(eL 1 eI) x.Edges]
structure AO where
 t:Types
 p:Graph
 g:Graph
 partial_:Morphism
 injective:Bool
 most:Int
 found:List Morphism
 deriving DecidableEq
def P9 (x:AO):TV:=.agg [(eL 4 Ht) x.t.Nodes,(eL 7 IU) x.t.Edges,(eL 1 eI) x.p.Nodes,(eL 3 EB) x.p.Edges,(eL 1 eI) x.g.Nodes,(eL 3 EB) x.g.Edges,(eL 1 eI) x.partial_.Nodes,(eL 1 eI) x.partial_.Edges,eB x.injective,eI x.most,(eL 2 BN) x.found]
def BY (x:AO):List AT:=[⟨false,(eL 4 Ht) x.t.Nodes⟩,⟨false,(eL 7 IU) x.t.Edges⟩,⟨false,(eL 1 eI) x.p.Nodes⟩,⟨false,(eL 3 EB) x.p.Edges⟩,⟨false,(eL 1 eI) x.g.Nodes⟩,⟨false,(eL 3 EB) x.g.Edges⟩,⟨false,(eL 1 eI) x.partial_.Nodes⟩,⟨false,(eL 1 eI) x.partial_.Edges⟩,⟨false,eB x.injective⟩,⟨false,eI x.most⟩,⟨true,(eL 2 BN) x.found⟩]
structure AH where
 p:Graph
 g:Graph
 is:List (List Bool)
 partial_:Morphism
 injective:Bool
 most:Int
 nodes:List Int
 edges:List Int
 out:List Morphism
 deriving DecidableEq
def Ok (x:AH):TV:=.agg [(eL 1 eI) x.p.Nodes,(eL 3 EB) x.p.Edges,(eL 1 eI) x.g.Nodes,(eL 3 EB) x.g.Edges,(eL 1 (eL 1 eB)) x.is,(eL 1 eI) x.partial_.Nodes,(eL 1 eI) x.partial_.Edges,eB x.injective,eI x.most,(eL 1 eI) x.nodes,(eL 1 eI) x.edges,(eL 2 BN) x.out]
def DI (x:AH):List AT:=[⟨false,(eL 1 eI) x.p.Nodes⟩,⟨false,(eL 3 EB) x.p.Edges⟩,⟨false,(eL 1 eI) x.g.Nodes⟩,⟨false,(eL 3 EB) x.g.Edges⟩,⟨false,(eL 1 (eL 1 eB)) x.is⟩,⟨false,(eL 1 eI) x.partial_.Nodes⟩,⟨false,(eL 1 eI) x.partial_.Edges⟩,⟨false,eB x.injective⟩,⟨false,eI x.most⟩,⟨true,.xl 1 (List.map eI x.nodes)⟩,⟨true,.xl 1 (List.map eI x.edges)⟩,⟨true,(eL 2 BN) x.out⟩]
structure E8 where
 Kind:Int
 Text:ByteArray
 Line:Int
 deriving DecidableEq
def Ry (x:E8):TV:=.agg [eI x.Kind,eS x.Text,eI x.Line]
structure Term where
 Var:Int
 Add:Int
 deriving DecidableEq
def Pa (x:Term):TV:=.agg [eI x.Var,eI x.Add]
structure CS where
 Node:Int
 Attr:Int
 Term:Term
 deriving DecidableEq
def Mf (x:CS):TV:=.agg [eI x.Node,eI x.Attr,eI x.Term.Var,eI x.Term.Add]
structure Test where
 Kind:Int
 Left:Term
 Right:Term
 deriving DecidableEq
def Ln (x:Test):TV:=.agg [eI x.Kind,eI x.Left.Var,eI x.Left.Add,eI x.Right.Var,eI x.Right.Add]
structure Pattern where
 Graph:Graph
 Slots:List CS
 Vars:Int
 Tests:List Test
 deriving DecidableEq
def BA (x:Pattern):TV:=.agg [(eL 1 eI) x.Graph.Nodes,(eL 3 EB) x.Graph.Edges,(eL 4 Mf) x.Slots,eI x.Vars,(eL 5 Ln) x.Tests]
structure AA where
 Kind:Int
 Kids:List AA
 Map:Morphism
 Pattern:Pattern
mutual
def RC:AA->TV
 | ⟨y0,y1,y2,y3⟩=>.agg [eI y0,.list 9 (I4 y1),(eL 1 eI) y2.Nodes,(eL 1 eI) y2.Edges,(eL 1 eI) y3.Graph.Nodes,(eL 3 EB) y3.Graph.Edges,(eL 4 Mf) y3.Slots,eI y3.Vars,(eL 5 Ln) y3.Tests]
def I4:List AA->List TV
 | []=>[]
 | c::cs=>RC c::I4 cs
end
def FR (l:List AA):TV:=.list 9 (I4 l)
def AJ (x:AA):TV:=.agg [eI x.Kind,FR x.Kids,(eL 1 eI) x.Map.Nodes,(eL 1 eI) x.Map.Edges,(eL 1 eI) x.Pattern.Graph.Nodes,(eL 3 EB) x.Pattern.Graph.Edges,(eL 4 Mf) x.Pattern.Slots,eI x.Pattern.Vars,(eL 5 Ln) x.Pattern.Tests]
theorem Se (x:AA):RC x=AJ x:=by
 cases x; rfl
theorem MR:∀ l:List AA,I4 l=l.map AJ
 | []=>rfl
 | x::l=>by rw [I4,Se,MR l]; rfl
theorem Ll (l:List AA):FR l=.list 9 (l.map AJ):=by rw [FR,MR]
structure AY where
 Graph:Graph
 Values:List (List Int)
 deriving DecidableEq
def IV (x:AY):TV:=.agg [(eL 1 eI) x.Graph.Nodes,(eL 3 EB) x.Graph.Edges,(eL 1 (eL 1 eI)) x.Values]
structure AL where
 Morphism:Morphism
 Vars:List Int
 deriving DecidableEq
def CH (x:AL):TV:=.agg [(eL 1 eI) x.Morphism.Nodes,(eL 1 eI) x.Morphism.Edges,(eL 1 eI) x.Vars]
structure AR where
 t:Types
 h:AY
 injective:Bool
 deriving DecidableEq
def BX (x:AR):TV:=.agg [(eL 4 Ht) x.t.Nodes,(eL 7 IU) x.t.Edges,(eL 1 eI) x.h.Graph.Nodes,(eL 3 EB) x.h.Graph.Edges,(eL 1 (eL 1 eI)) x.h.Values,eB x.injective]
structure A4 where
 Choice:Int
 Match:AL
 Kids:List A4
mutual
def Vx:A4->TV
 | ⟨y0,y1,y2⟩=>.agg [eI y0,(eL 1 eI) y1.Morphism.Nodes,(eL 1 eI) y1.Morphism.Edges,(eL 1 eI) y1.Vars,.list 5 (MS y2)]
def MS:List A4->List TV
 | []=>[]
 | c::cs=>Vx c::MS cs
end
def LP (l:List A4):TV:=.list 5 (MS l)
def EE (x:A4):TV:=.agg [eI x.Choice,(eL 1 eI) x.Match.Morphism.Nodes,(eL 1 eI) x.Match.Morphism.Edges,(eL 1 eI) x.Match.Vars,LP x.Kids]
theorem Wt (x:A4):Vx x=EE x:=by
 cases x; rfl
theorem PZ:∀ l:List A4,MS l=l.map EE
 | []=>rfl
 | x::l=>by rw [MS,Wt,PZ l]; rfl
theorem Va (l:List A4):LP l=.list 5 (l.map EE):=by rw [LP,PZ]
structure Kb where
 P:Pattern
 C:AA
def RD (x:Kb):TV:=.agg [(eL 1 eI) x.P.Graph.Nodes,(eL 3 EB) x.P.Graph.Edges,(eL 4 Mf) x.P.Slots,eI x.P.Vars,(eL 5 Ln) x.P.Tests,eI x.C.Kind,FR x.C.Kids,(eL 1 eI) x.C.Map.Nodes,(eL 1 eI) x.C.Map.Edges,(eL 1 eI) x.C.Pattern.Graph.Nodes,(eL 3 EB) x.C.Pattern.Graph.Edges,(eL 4 Mf) x.C.Pattern.Slots,eI x.C.Pattern.Vars,(eL 5 Ln) x.C.Pattern.Tests]
structure IJ where
 a0:Int
 a1:Int
 deriving DecidableEq
def JQ (x:IJ):TV:=.agg [G6 x.a0,G6 x.a1]
structure MM where
 a0:Int
 a1:Int
 a2:Int
 deriving DecidableEq
def Iq (x:MM):TV:=.agg [G6 x.a0,G6 x.a1,G6 x.a2]
structure Ju where
 Nodes:List Int
 Edges:List MM
 deriving DecidableEq
def QU (x:Ju):TV:=.agg [(eL 1 G6) x.Nodes,(eL 3 Iq) x.Edges]
structure NY where
 a0:Int
 a1:Int
 a2:Int
 a3:Int
 deriving DecidableEq
def Nk (x:NY):TV:=.agg [X7 x.a0,X7 x.a1,X7 x.a2,X7 x.a3]
structure Ip where
 a0:Int
 a1:Int
 deriving DecidableEq
def S4 (x:Ip):TV:=.agg [eI x.a0,eI x.a1]
structure Jx where
 Graph:Ju
 Slots:List MM
 Tests:List NY
 deriving DecidableEq
def QW (x:Jx):TV:=.agg [(eL 1 G6) x.Graph.Nodes,(eL 3 Iq) x.Graph.Edges,(eL 3 Iq) x.Slots,(eL 4 Nk) x.Tests]
structure Is where
 Nodes:List IJ
 Edges:List MM
 deriving DecidableEq
def QV (x:Is):TV:=.agg [(eL 2 JQ) x.Nodes,(eL 3 Iq) x.Edges]
structure G0 where
 Types:List IJ
 Ends:List IJ
 P:Jx
 C:List Int
 D:List Int
 H:Is
 deriving DecidableEq
def I5 (x:G0):TV:=.agg [(eL 2 JQ) x.Types,(eL 2 JQ) x.Ends,(eL 1 G6) x.P.Graph.Nodes,(eL 3 Iq) x.P.Graph.Edges,(eL 3 Iq) x.P.Slots,(eL 4 Nk) x.P.Tests,(eL 1 G6) x.C,(eL 1 G6) x.D,(eL 2 JQ) x.H.Nodes,(eL 3 Iq) x.H.Edges]
abbrev lI:List Int->TV:=eL 1 eI
abbrev lE:List B6->TV:=eL 3 EB
abbrev lS:List CS->TV:=eL 4 Mf
abbrev lT:List Test->TV:=eL 5 Ln
abbrev lN:List BF->TV:=eL 4 Ht
abbrev lX:List CJ->TV:=eL 7 IU
abbrev lA:List Attr->TV:=eL 4 IT
abbrev lB:List ByteArray->TV:=eL 1 eS
theorem ZW (a b:B6):B7 (TV.cells (EB a)) (TV.cells (EB b))=some (decide (a=b)):=by
 rcases a with ⟨a0,a1,a2⟩; rcases b with ⟨b0,b1,b2⟩; simp [EB,TV.cells,B7,eI,Bool.and_assoc,B6.mk.injEq]
end Go.Sf.Sc
