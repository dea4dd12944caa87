/- The types of the program as Lean types. -/
import Derived.Test.YtmaobfbhdkafkaaGreatSfDraw
import Derived.Test.YtmaobfbhdkafkaaGreatSfStep
import Derived.Test.YtmaobfbhdkafkaaGreatProg
set_option maxRecDepth 100000
namespace Go.Sf.Sc
open Go Go.Sf Go.Proofs.Tryz
def eI (n:Int):TV:=.int .i64 n
def G4 (n:Int):TV:=.int .u8 n
def J3 (n:Int):TV:=.int .u64 n
def tI (n:Int):TV:=.int .i32 n
def tK (n:Int):TV:=.int .u32 n
def YC (n:Int):TV:=.int .i8 n
def tH (n:Int):TV:=.int .i16 n
def tJ (n:Int):TV:=.int .u16 n
def eB (b:Bool):TV:=.bool b
def eS (s:ByteArray):TV:=.str s
def eL {α:Type} (n:Nat) (e:α->TV) (l:List α):TV:=.list n (l.map e)
theorem Tryz_follows:Go.Proofs.Tryz.prog.follows .mixedOrders=true:=by decide +kernel
structure Attr where
 Name:ByteArray
 Low:Int
 High:Int
 Names:List ByteArray
 deriving DecidableEq
def IS (x:Attr):TV:=.agg [eS x.Name,eI x.Low,eI x.High,(eL 1 eS) x.Names]
structure BE where
 Name:ByteArray
 Parent:Int
 Abstract:Bool
 Attrs:List Attr
 deriving DecidableEq
def Hq (x:BE):TV:=.agg [eS x.Name,eI x.Parent,eB x.Abstract,(eL 4 IS) x.Attrs]
structure CJ where
 Name:ByteArray
 From:Int
 To:Int
 OutLow:Int
 OutHigh:Int
 InLow:Int
 InHigh:Int
 deriving DecidableEq
def IT (x:CJ):TV:=.agg [eS x.Name,eI x.From,eI x.To,eI x.OutLow,eI x.OutHigh,eI x.InLow,eI x.InHigh]
structure Types where
 Nodes:List BE
 Edges:List CJ
 deriving DecidableEq
def AU (x:Types):TV:=.agg [(eL 4 Hq) x.Nodes,(eL 7 IT) x.Edges]
structure B6 where
 Type':Int
 From:Int
 To:Int
 deriving DecidableEq
def EB (x:B6):TV:=.agg [eI x.Type',eI x.From,eI x.To]
structure Graph where
 Nodes:List Int
 Edges:List B6
 deriving DecidableEq
def CA (x:Graph):TV:=.agg [(eL 1 eI) x.Nodes,(eL 3 EB) x.Edges]
structure Morphism where
 Nodes:List Int
 Edges:List Int
 deriving DecidableEq
def BS (x:Morphism):TV:=.agg [(eL 1 eI) x.Nodes,(eL 1 eI) x.Edges]
structure AO where
 t:Types
 p:Graph
 g:Graph
 partial_:Morphism
 injective:Bool
 most:Int
 found:List Morphism
 deriving DecidableEq
def P7 (x:AO):TV:=.agg [(eL 4 Hq) x.t.Nodes,(eL 7 IT) x.t.Edges,(eL 1 eI) x.p.Nodes,(eL 3 EB) x.p.Edges,(eL 1 eI) x.g.Nodes,(eL 3 EB) x.g.Edges,(eL 1 eI) x.partial_.Nodes,(eL 1 eI) x.partial_.Edges,eB x.injective,eI x.most,(eL 2 BS) x.found]
def BZ (x:AO):List AT:=[⟨false,(eL 4 Hq) x.t.Nodes⟩,⟨false,(eL 7 IT) x.t.Edges⟩,⟨false,(eL 1 eI) x.p.Nodes⟩,⟨false,(eL 3 EB) x.p.Edges⟩,⟨false,(eL 1 eI) x.g.Nodes⟩,⟨false,(eL 3 EB) x.g.Edges⟩,⟨false,(eL 1 eI) x.partial_.Nodes⟩,⟨false,(eL 1 eI) x.partial_.Edges⟩,⟨false,eB x.injective⟩,⟨false,eI x.most⟩,⟨true,(eL 2 BS) x.found⟩]
structure AG where
 p:Graph
 g:Graph
 is:List (List Bool)
 partial_:Morphism
 injective:Bool
 most:Int
 nodes:List Int
 edges:List Int
 out:List Morphism
 deriving DecidableEq
def Og (x:AG):TV:=.agg [(eL 1 eI) x.p.Nodes,(eL 3 EB) x.p.Edges,(eL 1 eI) x.g.Nodes,(eL 3 EB) x.g.Edges,(eL 1 (eL 1 eB)) x.is,(eL 1 eI) x.partial_.Nodes,(eL 1 eI) x.partial_.Edges,eB x.injective,eI x.most,(eL 1 eI) x.nodes,(eL 1 eI) x.edges,(eL 2 BS) x.out]
def DH (x:AG):List AT:=[⟨false,(eL 1 eI) x.p.Nodes⟩,⟨false,(eL 3 EB) x.p.Edges⟩,⟨false,(eL 1 eI) x.g.Nodes⟩,⟨false,(eL 3 EB) x.g.Edges⟩,⟨false,(eL 1 (eL 1 eB)) x.is⟩,⟨false,(eL 1 eI) x.partial_.Nodes⟩,⟨false,(eL 1 eI) x.partial_.Edges⟩,⟨false,eB x.injective⟩,⟨false,eI x.most⟩,⟨true,.xl 1 (List.map eI x.nodes)⟩,⟨true,.xl 1 (List.map eI x.edges)⟩,⟨true,(eL 2 BS) x.out⟩]
structure E7 where
 Kind:Int
 Text:ByteArray
 Line:Int
 deriving DecidableEq
def Ry (x:E7):TV:=.agg [eI x.Kind,eS x.Text,eI x.Line]
structure Term where
 Var:Int
 Add:Int
 deriving DecidableEq
def PW (x:Term):TV:=.agg [eI x.Var,eI x.Add]
structure CT where
 Node:Int
 Attr:Int
 Term:Term
 deriving DecidableEq
def Mb (x:CT):TV:=.agg [eI x.Node,eI x.Attr,eI x.Term.Var,eI x.Term.Add]
structure Test where
 Kind:Int
 Left:Term
 Right:Term
 deriving DecidableEq
def Lk (x:Test):TV:=.agg [eI x.Kind,eI x.Left.Var,eI x.Left.Add,eI x.Right.Var,eI x.Right.Add]
structure Pattern where
 Graph:Graph
 Slots:List CT
 Vars:Int
 Tests:List Test
 deriving DecidableEq
def BA (x:Pattern):TV:=.agg [(eL 1 eI) x.Graph.Nodes,(eL 3 EB) x.Graph.Edges,(eL 4 Mb) x.Slots,eI x.Vars,(eL 5 Lk) x.Tests]
structure AA where
 Kind:Int
 Kids:List AA
 Map:Morphism
 Pattern:Pattern
mutual
def RA:AA->TV
 | ⟨y0,y1,y2,y3⟩=>.agg [eI y0,.list 9 (I3 y1),(eL 1 eI) y2.Nodes,(eL 1 eI) y2.Edges,(eL 1 eI) y3.Graph.Nodes,(eL 3 EB) y3.Graph.Edges,(eL 4 Mb) y3.Slots,eI y3.Vars,(eL 5 Lk) y3.Tests]
def I3:List AA->List TV
 | []=>[]
 | c::cs=>RA c::I3 cs
end
def FQ (l:List AA):TV:=.list 9 (I3 l)
def AJ (x:AA):TV:=.agg [eI x.Kind,FQ x.Kids,(eL 1 eI) x.Map.Nodes,(eL 1 eI) x.Map.Edges,(eL 1 eI) x.Pattern.Graph.Nodes,(eL 3 EB) x.Pattern.Graph.Edges,(eL 4 Mb) x.Pattern.Slots,eI x.Pattern.Vars,(eL 5 Lk) x.Pattern.Tests]
theorem Sh (x:AA):RA x=AJ x:=by
 cases x; rfl
theorem MN:∀ l:List AA,I3 l=l.map AJ
 | []=>rfl
 | x::l=>by rw [I3,Sh,MN l]; rfl
theorem Lj (l:List AA):FQ l=.list 9 (l.map AJ):=by rw [FQ,MN]
structure AY where
 Graph:Graph
 Values:List (List Int)
 deriving DecidableEq
def IU (x:AY):TV:=.agg [(eL 1 eI) x.Graph.Nodes,(eL 3 EB) x.Graph.Edges,(eL 1 (eL 1 eI)) x.Values]
structure AL where
 Morphism:Morphism
 Vars:List Int
 deriving DecidableEq
def CH (x:AL):TV:=.agg [(eL 1 eI) x.Morphism.Nodes,(eL 1 eI) x.Morphism.Edges,(eL 1 eI) x.Vars]
structure AR where
 t:Types
 h:AY
 injective:Bool
 deriving DecidableEq
def BY (x:AR):TV:=.agg [(eL 4 Hq) x.t.Nodes,(eL 7 IT) x.t.Edges,(eL 1 eI) x.h.Graph.Nodes,(eL 3 EB) x.h.Graph.Edges,(eL 1 (eL 1 eI)) x.h.Values,eB x.injective]
structure A4 where
 Choice:Int
 Match:AL
 Kids:List A4
mutual
def V0:A4->TV
 | ⟨y0,y1,y2⟩=>.agg [eI y0,(eL 1 eI) y1.Morphism.Nodes,(eL 1 eI) y1.Morphism.Edges,(eL 1 eI) y1.Vars,.list 5 (MO y2)]
def MO:List A4->List TV
 | []=>[]
 | c::cs=>V0 c::MO cs
end
def LP (l:List A4):TV:=.list 5 (MO l)
def EE (x:A4):TV:=.agg [eI x.Choice,(eL 1 eI) x.Match.Morphism.Nodes,(eL 1 eI) x.Match.Morphism.Edges,(eL 1 eI) x.Match.Vars,LP x.Kids]
theorem Wx (x:A4):V0 x=EE x:=by
 cases x; rfl
theorem PV:∀ l:List A4,MO l=l.map EE
 | []=>rfl
 | x::l=>by rw [MO,Wx,PV l]; rfl
theorem Vd (l:List A4):LP l=.list 5 (l.map EE):=by rw [LP,PV]
structure KY where
 P:Pattern
 C:AA
def RB (x:KY):TV:=.agg [(eL 1 eI) x.P.Graph.Nodes,(eL 3 EB) x.P.Graph.Edges,(eL 4 Mb) x.P.Slots,eI x.P.Vars,(eL 5 Lk) x.P.Tests,eI x.C.Kind,FQ x.C.Kids,(eL 1 eI) x.C.Map.Nodes,(eL 1 eI) x.C.Map.Edges,(eL 1 eI) x.C.Pattern.Graph.Nodes,(eL 3 EB) x.C.Pattern.Graph.Edges,(eL 4 Mb) x.C.Pattern.Slots,eI x.C.Pattern.Vars,(eL 5 Lk) x.C.Pattern.Tests]
structure II where
 a0:Int
 a1:Int
 deriving DecidableEq
def JP (x:II):TV:=.agg [G4 x.a0,G4 x.a1]
structure MH where
 a0:Int
 a1:Int
 a2:Int
 deriving DecidableEq
def Io (x:MH):TV:=.agg [G4 x.a0,G4 x.a1,G4 x.a2]
structure Jt where
 Nodes:List Int
 Edges:List MH
 deriving DecidableEq
def QU (x:Jt):TV:=.agg [(eL 1 G4) x.Nodes,(eL 3 Io) x.Edges]
structure NV where
 a0:Int
 a1:Int
 a2:Int
 a3:Int
 deriving DecidableEq
def Nh (x:NV):TV:=.agg [YC x.a0,YC x.a1,YC x.a2,YC x.a3]
structure Im where
 a0:Int
 a1:Int
 deriving DecidableEq
def S6 (x:Im):TV:=.agg [eI x.a0,eI x.a1]
structure Jx where
 Graph:Jt
 Slots:List MH
 Tests:List NV
 deriving DecidableEq
def QW (x:Jx):TV:=.agg [(eL 1 G4) x.Graph.Nodes,(eL 3 Io) x.Graph.Edges,(eL 3 Io) x.Slots,(eL 4 Nh) x.Tests]
structure Iq where
 Nodes:List II
 Edges:List MH
 deriving DecidableEq
def QV (x:Iq):TV:=.agg [(eL 2 JP) x.Nodes,(eL 3 Io) x.Edges]
structure GY where
 Types:List II
 Ends:List II
 P:Jx
 C:List Int
 D:List Int
 H:Iq
 deriving DecidableEq
def I4 (x:GY):TV:=.agg [(eL 2 JP) x.Types,(eL 2 JP) x.Ends,(eL 1 G4) x.P.Graph.Nodes,(eL 3 Io) x.P.Graph.Edges,(eL 3 Io) x.P.Slots,(eL 4 Nh) x.P.Tests,(eL 1 G4) x.C,(eL 1 G4) x.D,(eL 2 JP) x.H.Nodes,(eL 3 Io) x.H.Edges]
abbrev lI:List Int->TV:=eL 1 eI
abbrev lE:List B6->TV:=eL 3 EB
abbrev lS:List CT->TV:=eL 4 Mb
abbrev lT:List Test->TV:=eL 5 Lk
abbrev lN:List BE->TV:=eL 4 Hq
abbrev lX:List CJ->TV:=eL 7 IT
abbrev lA:List Attr->TV:=eL 4 IS
abbrev lB:List ByteArray->TV:=eL 1 eS
theorem Za (a b:B6):B7 (TV.cells (EB a)) (TV.cells (EB b))=some (decide (a=b)):=by
 rcases a with ⟨a0,a1,a2⟩; rcases b with ⟨b0,b1,b2⟩; simp [EB,TV.cells,B7,eI,Bool.and_assoc,B6.mk.injEq]
end Go.Sf.Sc
