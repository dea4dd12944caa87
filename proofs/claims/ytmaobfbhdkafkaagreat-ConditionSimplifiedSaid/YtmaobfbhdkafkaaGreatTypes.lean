/- The types of the program as Lean types. -/
import Derived.Test.YtmaobfbhdkafkaaGreatSfDraw
import Derived.Test.YtmaobfbhdkafkaaGreatSfStep
import Derived.Test.YtmaobfbhdkafkaaGreatProg
set_option maxRecDepth 100000
namespace Go.Sf.Sc
open Go Go.Sf Go.Proofs.Tryz
def eI (n:Int):TV:=.int .i64 n
def HL (n:Int):TV:=.int .u8 n
def KY (n:Int):TV:=.int .u64 n
def vY (n:Int):TV:=.int .i32 n
def va (n:Int):TV:=.int .u32 n
def ZE (n:Int):TV:=.int .i8 n
def vX (n:Int):TV:=.int .i16 n
def vZ (n:Int):TV:=.int .u16 n
def eB (b:Bool):TV:=.bool b
def eS (s:ByteArray):TV:=.str s
def eL {α:Type} (n:Nat) (e:α->TV) (l:List α):TV:=.list n (l.map e)
theorem Tryz_follows:Go.Proofs.Tryz.prog.follows .mixedOrders=true:=by decide +kernel
structure Attr where
 Name:ByteArray
 Low:Int
 High:Int
 Names:List ByteArray
 deriving DecidableEq
def Ip (x:Attr):TV:=.agg [eS x.Name,eI x.Low,eI x.High,(eL 1 eS) x.Names]
structure BI where
 Name:ByteArray
 Parent:Int
 Abstract:Bool
 Attrs:List Attr
 deriving DecidableEq
def H8 (x:BI):TV:=.agg [eS x.Name,eI x.Parent,eB x.Abstract,(eL 4 Ip) x.Attrs]
structure CO where
 Name:ByteArray
 From:Int
 To:Int
 OutLow:Int
 OutHigh:Int
 InLow:Int
 InHigh:Int
 deriving DecidableEq
def Iq (x:CO):TV:=.agg [eS x.Name,eI x.From,eI x.To,eI x.OutLow,eI x.OutHigh,eI x.InLow,eI x.InHigh]
structure Types where
 Nodes:List BI
 Edges:List CO
 deriving DecidableEq
def AU (x:Types):TV:=.agg [(eL 4 H8) x.Nodes,(eL 7 Iq) x.Edges]
structure BX where
 Type':Int
 From:Int
 To:Int
 deriving DecidableEq
def EM (x:BX):TV:=.agg [eI x.Type',eI x.From,eI x.To]
structure Graph where
 Nodes:List Int
 Edges:List BX
 deriving DecidableEq
def CC (x:Graph):TV:=.agg [(eL 1 eI) x.Nodes,(eL 3 EM) x.Edges]
structure Morphism where
 Nodes:List Int
 Edges:List Int
 deriving DecidableEq
def BU (x:Morphism):TV:=.agg [(eL 1 eI) x.Nodes,(eL 1 eI) x.Edges]
structure AO where
 t:Types
 p:Graph
 g:Graph
 partial_:Morphism
 injective:Bool
 most:Int
 found:List Morphism
 deriving DecidableEq
def Qo (x:AO):TV:=.agg [(eL 4 H8) x.t.Nodes,(eL 7 Iq) x.t.Edges,(eL 1 eI) x.p.Nodes,(eL 3 EM) x.p.Edges,(eL 1 eI) x.g.Nodes,(eL 3 EM) x.g.Edges,(eL 1 eI) x.partial_.Nodes,(eL 1 eI) x.partial_.Edges,eB x.injective,eI x.most,(eL 2 BU) x.found]
def B3 (x:AO):List AT:=[⟨false,(eL 4 H8) x.t.Nodes⟩,⟨false,(eL 7 Iq) x.t.Edges⟩,⟨false,(eL 1 eI) x.p.Nodes⟩,⟨false,(eL 3 EM) x.p.Edges⟩,⟨false,(eL 1 eI) x.g.Nodes⟩,⟨false,(eL 3 EM) x.g.Edges⟩,⟨false,(eL 1 eI) x.partial_.Nodes⟩,⟨false,(eL 1 eI) x.partial_.Edges⟩,⟨false,eB x.injective⟩,⟨false,eI x.most⟩,⟨true,(eL 2 BU) x.found⟩]
structure AI where
 p:Graph
 g:Graph
 is:List (List Bool)
 partial_:Morphism
 injective:Bool
 most:Int
 nodes:List Int
 edges:List Int
 out:List Morphism
 deriving DecidableEq
def Po (x:AI):TV:=.agg [(eL 1 eI) x.p.Nodes,(eL 3 EM) x.p.Edges,(eL 1 eI) x.g.Nodes,(eL 3 EM) x.g.Edges,(eL 1 (eL 1 eB)) x.is,(eL 1 eI) x.partial_.Nodes,(eL 1 eI) x.partial_.Edges,eB x.injective,eI x.most,(eL 1 eI) x.nodes,(eL 1 eI) x.edges,(eL 2 BU) x.out]
def DN (x:AI):List AT:=[⟨false,(eL 1 eI) x.p.Nodes⟩,⟨false,(eL 3 EM) x.p.Edges⟩,⟨false,(eL 1 eI) x.g.Nodes⟩,⟨false,(eL 3 EM) x.g.Edges⟩,⟨false,(eL 1 (eL 1 eB)) x.is⟩,⟨false,(eL 1 eI) x.partial_.Nodes⟩,⟨false,(eL 1 eI) x.partial_.Edges⟩,⟨false,eB x.injective⟩,⟨false,eI x.most⟩,⟨true,.xl 1 (List.map eI x.nodes)⟩,⟨true,.xl 1 (List.map eI x.edges)⟩,⟨true,(eL 2 BU) x.out⟩]
structure FK where
 Kind:Int
 Text:ByteArray
 Line:Int
 deriving DecidableEq
def Sj (x:FK):TV:=.agg [eI x.Kind,eS x.Text,eI x.Line]
structure Term where
 Var:Int
 Add:Int
 deriving DecidableEq
def QD (x:Term):TV:=.agg [eI x.Var,eI x.Add]
structure B4 where
 Node:Int
 Attr:Int
 Term:Term
 deriving DecidableEq
def Kd (x:B4):TV:=.agg [eI x.Node,eI x.Attr,eI x.Term.Var,eI x.Term.Add]
structure Test where
 Kind:Int
 Left:Term
 Right:Term
 deriving DecidableEq
def Jq (x:Test):TV:=.agg [eI x.Kind,eI x.Left.Var,eI x.Left.Add,eI x.Right.Var,eI x.Right.Add]
structure Pattern where
 Graph:Graph
 Slots:List B4
 Vars:Int
 Tests:List Test
 deriving DecidableEq
def A8 (x:Pattern):TV:=.agg [(eL 1 eI) x.Graph.Nodes,(eL 3 EM) x.Graph.Edges,(eL 4 Kd) x.Slots,eI x.Vars,(eL 5 Jq) x.Tests]
structure AA where
 Kind:Int
 Kids:List AA
 Map:Morphism
 Pattern:Pattern
mutual
def Ru:AA->TV
 | ⟨y0,y1,y2,y3⟩=>.agg [eI y0,.list 9 (JV y1),(eL 1 eI) y2.Nodes,(eL 1 eI) y2.Edges,(eL 1 eI) y3.Graph.Nodes,(eL 3 EM) y3.Graph.Edges,(eL 4 Kd) y3.Slots,eI y3.Vars,(eL 5 Jq) y3.Tests]
def JV:List AA->List TV
 | []=>[]
 | c::cs=>Ru c::JV cs
end
def C5 (l:List AA):TV:=.list 9 (JV l)
def AG (x:AA):TV:=.agg [eI x.Kind,C5 x.Kids,(eL 1 eI) x.Map.Nodes,(eL 1 eI) x.Map.Edges,(eL 1 eI) x.Pattern.Graph.Nodes,(eL 3 EM) x.Pattern.Graph.Edges,(eL 4 Kd) x.Pattern.Slots,eI x.Pattern.Vars,(eL 5 Jq) x.Pattern.Tests]
theorem TU (x:AA):Ru x=AG x:=by
 cases x; rfl
theorem Mx:∀ l:List AA,JV l=l.map AG
 | []=>rfl
 | x::l=>by rw [JV,TU,Mx l]; rfl
theorem ML (l:List AA):C5 l=.list 9 (l.map AG):=by rw [C5,Mx]
structure A0 where
 Graph:Graph
 Values:List (List Int)
 deriving DecidableEq
def Ir (x:A0):TV:=.agg [(eL 1 eI) x.Graph.Nodes,(eL 3 EM) x.Graph.Edges,(eL 1 (eL 1 eI)) x.Values]
structure AL where
 Morphism:Morphism
 Vars:List Int
 deriving DecidableEq
def CJ (x:AL):TV:=.agg [(eL 1 eI) x.Morphism.Nodes,(eL 1 eI) x.Morphism.Edges,(eL 1 eI) x.Vars]
structure AR where
 t:Types
 h:A0
 injective:Bool
 deriving DecidableEq
def B0 (x:AR):TV:=.agg [(eL 4 H8) x.t.Nodes,(eL 7 Iq) x.t.Edges,(eL 1 eI) x.h.Graph.Nodes,(eL 3 EM) x.h.Graph.Edges,(eL 1 (eL 1 eI)) x.h.Values,eB x.injective]
structure A4 where
 Choice:Int
 Match:AL
 Kids:List A4
mutual
def Ww:A4->TV
 | ⟨y0,y1,y2⟩=>.agg [eI y0,(eL 1 eI) y1.Morphism.Nodes,(eL 1 eI) y1.Morphism.Edges,(eL 1 eI) y1.Vars,.list 5 (My y2)]
def My:List A4->List TV
 | []=>[]
 | c::cs=>Ww c::My cs
end
def Ly (l:List A4):TV:=.list 5 (My l)
def EP (x:A4):TV:=.agg [eI x.Choice,(eL 1 eI) x.Match.Morphism.Nodes,(eL 1 eI) x.Match.Morphism.Edges,(eL 1 eI) x.Match.Vars,Ly x.Kids]
theorem X2 (x:A4):Ww x=EP x:=by
 cases x; rfl
theorem QC:∀ l:List A4,My l=l.map EP
 | []=>rfl
 | x::l=>by rw [My,X2,QC l]; rfl
theorem WW (l:List A4):Ly l=.list 5 (l.map EP):=by rw [Ly,QC]
structure K6 where
 P:Pattern
 C:AA
def Rv (x:K6):TV:=.agg [(eL 1 eI) x.P.Graph.Nodes,(eL 3 EM) x.P.Graph.Edges,(eL 4 Kd) x.P.Slots,eI x.P.Vars,(eL 5 Jq) x.P.Tests,eI x.C.Kind,C5 x.C.Kids,(eL 1 eI) x.C.Map.Nodes,(eL 1 eI) x.C.Map.Edges,(eL 1 eI) x.C.Pattern.Graph.Nodes,(eL 3 EM) x.C.Pattern.Graph.Edges,(eL 4 Kd) x.C.Pattern.Slots,eI x.C.Pattern.Vars,(eL 5 Jq) x.C.Pattern.Tests]
structure Ie where
 a0:Int
 a1:Int
 deriving DecidableEq
def Jp (x:Ie):TV:=.agg [HL x.a0,HL x.a1]
structure Mr where
 a0:Int
 a1:Int
 a2:Int
 deriving DecidableEq
def I9 (x:Mr):TV:=.agg [HL x.a0,HL x.a1,HL x.a2]
structure KM where
 Nodes:List Int
 Edges:List Mr
 deriving DecidableEq
def Q7 (x:KM):TV:=.agg [(eL 1 HL) x.Nodes,(eL 3 I9) x.Edges]
structure N8 where
 a0:Int
 a1:Int
 a2:Int
 a3:Int
 deriving DecidableEq
def OR (x:N8):TV:=.agg [ZE x.a0,ZE x.a1,ZE x.a2,ZE x.a3]
structure I8 where
 a0:Int
 a1:Int
 deriving DecidableEq
def Tq (x:I8):TV:=.agg [eI x.a0,eI x.a1]
structure KQ where
 Graph:KM
 Slots:List Mr
 Tests:List N8
 deriving DecidableEq
def Q9 (x:KQ):TV:=.agg [(eL 1 HL) x.Graph.Nodes,(eL 3 I9) x.Graph.Edges,(eL 3 I9) x.Slots,(eL 4 OR) x.Tests]
structure JB where
 Nodes:List Ie
 Edges:List Mr
 deriving DecidableEq
def Q8 (x:JB):TV:=.agg [(eL 2 Jp) x.Nodes,(eL 3 I9) x.Edges]
structure HC where
 Types:List Ie
 Ends:List Ie
 P:KQ
 C:List Int
 D:List Int
 H:JB
 deriving DecidableEq
def JW (x:HC):TV:=.agg [(eL 2 Jp) x.Types,(eL 2 Jp) x.Ends,(eL 1 HL) x.P.Graph.Nodes,(eL 3 I9) x.P.Graph.Edges,(eL 3 I9) x.P.Slots,(eL 4 OR) x.P.Tests,(eL 1 HL) x.C,(eL 1 HL) x.D,(eL 2 Jp) x.H.Nodes,(eL 3 I9) x.H.Edges]
abbrev lI:List Int->TV:=eL 1 eI
abbrev lE:List BX->TV:=eL 3 EM
abbrev lS:List B4->TV:=eL 4 Kd
abbrev lT:List Test->TV:=eL 5 Jq
abbrev lN:List BI->TV:=eL 4 H8
abbrev lX:List CO->TV:=eL 7 Iq
abbrev lA:List Attr->TV:=eL 4 Ip
abbrev lB:List ByteArray->TV:=eL 1 eS
theorem ak (a b:BX):B1 (TV.cells (EM a)) (TV.cells (EM b))=some (decide (a=b)):=by
 rcases a with ⟨a0,a1,a2⟩; rcases b with ⟨b0,b1,b2⟩; simp [EM,TV.cells,B1,eI,Bool.and_assoc,BX.mk.injEq]
theorem al (a b:B4):B1 (TV.cells (Kd a)) (TV.cells (Kd b))=some (decide (a=b)):=by
 rcases a with ⟨a0,a1,⟨a20,a21⟩⟩; rcases b with ⟨b0,b1,⟨b20,b21⟩⟩; simp [Kd,TV.cells,B1,eI,Bool.and_assoc,B4.mk.injEq,Term.mk.injEq]
theorem am (a b:Test):B1 (TV.cells (Jq a)) (TV.cells (Jq b))=some (decide (a=b)):=by
 rcases a with ⟨a0,⟨a10,a11⟩,⟨a20,a21⟩⟩; rcases b with ⟨b0,⟨b10,b11⟩,⟨b20,b21⟩⟩; simp [Jq,TV.cells,B1,eI,Bool.and_assoc,Term.mk.injEq,Test.mk.injEq]
end Go.Sf.Sc
