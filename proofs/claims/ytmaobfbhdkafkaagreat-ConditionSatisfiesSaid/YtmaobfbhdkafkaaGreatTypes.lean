/- The types of the program as Lean types. -/
import Derived.Test.YtmaobfbhdkafkaaGreatSfDraw
import Derived.Test.YtmaobfbhdkafkaaGreatSfStep
import Derived.Test.YtmaobfbhdkafkaaGreatProg
set_option maxRecDepth 100000
namespace Go.Sf.Sc
open Go Go.Sf Go.Proofs.Tryz
def eI (n:Int):TV:=.int .i64 n
def Qd (n:Int):TV:=.int .u8 n
def JW (n:Int):TV:=.int .u64 n
def p8 (n:Int):TV:=.int .i32 n
def qA (n:Int):TV:=.int .u32 n
def rU (n:Int):TV:=.int .i8 n
def p7 (n:Int):TV:=.int .i16 n
def p9 (n:Int):TV:=.int .u16 n
def eB (b:Bool):TV:=.bool b
def eS (s:ByteArray):TV:=.str s
def eL {α:Type} (n:Nat) (e:α->TV) (l:List α):TV:=.list n (l.map e)
theorem Tryz_follows:Go.Proofs.Tryz.prog.follows .mixedOrders=true:=by decide +kernel
structure Attr where
 Name:ByteArray
 Low:Int
 High:Int
 Names:List ByteArray
 deriving DecidableEq
def HK (x:Attr):TV:=.agg [eS x.Name,eI x.Low,eI x.High,(eL 1 eS) x.Names]
structure CC where
 Name:ByteArray
 Parent:Int
 Abstract:Bool
 Attrs:List Attr
 deriving DecidableEq
def GC (x:CC):TV:=.agg [eS x.Name,eI x.Parent,eB x.Abstract,(eL 4 HK) x.Attrs]
structure CL where
 Name:ByteArray
 From:Int
 To:Int
 OutLow:Int
 OutHigh:Int
 InLow:Int
 InHigh:Int
 deriving DecidableEq
def GY (x:CL):TV:=.agg [eS x.Name,eI x.From,eI x.To,eI x.OutLow,eI x.OutHigh,eI x.InLow,eI x.InHigh]
structure AD where
 Nodes:List CC
 Edges:List CL
 deriving DecidableEq
def AP (x:AD):TV:=.agg [(eL 4 GC) x.Nodes,(eL 7 GY) x.Edges]
structure CS where
 Type':Int
 From:Int
 To:Int
 deriving DecidableEq
def DZ (x:CS):TV:=.agg [eI x.Type',eI x.From,eI x.To]
structure Graph where
 Nodes:List Int
 Edges:List CS
 deriving DecidableEq
def B7 (x:Graph):TV:=.agg [(eL 1 eI) x.Nodes,(eL 3 DZ) x.Edges]
structure Morphism where
 Nodes:List Int
 Edges:List Int
 deriving DecidableEq
def BJ (x:Morphism):TV:=.agg [(eL 1 eI) x.Nodes,(eL 1 eI) x.Edges]
structure AN where
 t:AD
 p:Graph
 g:Graph
 partial_:Morphism
 injective:Bool
 most:Int
 found:List Morphism
 deriving DecidableEq
def O3 (x:AN):TV:=.agg [(eL 4 GC) x.t.Nodes,(eL 7 GY) x.t.Edges,(eL 1 eI) x.p.Nodes,(eL 3 DZ) x.p.Edges,(eL 1 eI) x.g.Nodes,(eL 3 DZ) x.g.Edges,(eL 1 eI) x.partial_.Nodes,(eL 1 eI) x.partial_.Edges,eB x.injective,eI x.most,(eL 2 BJ) x.found]
def BX (x:AN):List AW:=[⟨false,(eL 4 GC) x.t.Nodes⟩,⟨false,(eL 7 GY) x.t.Edges⟩,⟨false,(eL 1 eI) x.p.Nodes⟩,⟨false,(eL 3 DZ) x.p.Edges⟩,⟨false,(eL 1 eI) x.g.Nodes⟩,⟨false,(eL 3 DZ) x.g.Edges⟩,⟨false,(eL 1 eI) x.partial_.Nodes⟩,⟨false,(eL 1 eI) x.partial_.Edges⟩,⟨false,eB x.injective⟩,⟨false,eI x.most⟩,⟨true,(eL 2 BJ) x.found⟩]
structure AI where
 p:Graph
 g:Graph
 is:List (List Bool)
 partial_:Morphism
 injective:Bool
 most:Int
 nodes:List Int
 edges:List Int
 out:List Morphism
 deriving DecidableEq
def OB (x:AI):TV:=.agg [(eL 1 eI) x.p.Nodes,(eL 3 DZ) x.p.Edges,(eL 1 eI) x.g.Nodes,(eL 3 DZ) x.g.Edges,(eL 1 (eL 1 eB)) x.is,(eL 1 eI) x.partial_.Nodes,(eL 1 eI) x.partial_.Edges,eB x.injective,eI x.most,(eL 1 eI) x.nodes,(eL 1 eI) x.edges,(eL 2 BJ) x.out]
def DJ (x:AI):List AW:=[⟨false,(eL 1 eI) x.p.Nodes⟩,⟨false,(eL 3 DZ) x.p.Edges⟩,⟨false,(eL 1 eI) x.g.Nodes⟩,⟨false,(eL 3 DZ) x.g.Edges⟩,⟨false,(eL 1 (eL 1 eB)) x.is⟩,⟨false,(eL 1 eI) x.partial_.Nodes⟩,⟨false,(eL 1 eI) x.partial_.Edges⟩,⟨false,eB x.injective⟩,⟨false,eI x.most⟩,⟨true,.xl 1 (List.map eI x.nodes)⟩,⟨true,.xl 1 (List.map eI x.edges)⟩,⟨true,(eL 2 BJ) x.out⟩]
structure FD where
 Kind:Int
 Text:ByteArray
 Line:Int
 deriving DecidableEq
def Qc (x:FD):TV:=.agg [eI x.Kind,eS x.Text,eI x.Line]
structure Term where
 Var:Int
 Add:Int
 deriving DecidableEq
def MW (x:Term):TV:=.agg [eI x.Var,eI x.Add]
structure DH where
 Node:Int
 Attr:Int
 Term:Term
 deriving DecidableEq
def KV (x:DH):TV:=.agg [eI x.Node,eI x.Attr,eI x.Term.Var,eI x.Term.Add]
structure Test where
 Kind:Int
 Left:Term
 Right:Term
 deriving DecidableEq
def KW (x:Test):TV:=.agg [eI x.Kind,eI x.Left.Var,eI x.Left.Add,eI x.Right.Var,eI x.Right.Add]
structure Pattern where
 Graph:Graph
 Slots:List DH
 Vars:Int
 Tests:List Test
 deriving DecidableEq
def BB (x:Pattern):TV:=.agg [(eL 1 eI) x.Graph.Nodes,(eL 3 DZ) x.Graph.Edges,(eL 4 KV) x.Slots,eI x.Vars,(eL 5 KW) x.Tests]
structure AB where
 Kind:Int
 Kids:List AB
 Map:Morphism
 Pattern:Pattern
mutual
def Pv:AB->TV
 | ⟨y0,y1,y2,y3⟩=>.agg [eI y0,.list 9 (If y1),(eL 1 eI) y2.Nodes,(eL 1 eI) y2.Edges,(eL 1 eI) y3.Graph.Nodes,(eL 3 DZ) y3.Graph.Edges,(eL 4 KV) y3.Slots,eI y3.Vars,(eL 5 KW) y3.Tests]
def If:List AB->List TV
 | []=>[]
 | c::cs=>Pv c::If cs
end
def GP (l:List AB):TV:=.list 9 (If l)
def AJ (x:AB):TV:=.agg [eI x.Kind,GP x.Kids,(eL 1 eI) x.Map.Nodes,(eL 1 eI) x.Map.Edges,(eL 1 eI) x.Pattern.Graph.Nodes,(eL 3 DZ) x.Pattern.Graph.Edges,(eL 4 KV) x.Pattern.Slots,eI x.Pattern.Vars,(eL 5 KW) x.Pattern.Tests]
theorem RC (x:AB):Pv x=AJ x:=by
 cases x; rfl
theorem Lb:∀ l:List AB,If l=l.map AJ
 | []=>rfl
 | x::l=>by rw [If,RC,Lb l]; rfl
theorem LA (l:List AB):GP l=.list 9 (l.map AJ):=by rw [GP,Lb]
structure AZ where
 Graph:Graph
 Values:List (List Int)
 deriving DecidableEq
def E1 (x:AZ):TV:=.agg [(eL 1 eI) x.Graph.Nodes,(eL 3 DZ) x.Graph.Edges,(eL 1 (eL 1 eI)) x.Values]
structure AK where
 Morphism:Morphism
 Vars:List Int
 deriving DecidableEq
def BQ (x:AK):TV:=.agg [(eL 1 eI) x.Morphism.Nodes,(eL 1 eI) x.Morphism.Edges,(eL 1 eI) x.Vars]
structure AR where
 t:AD
 h:AZ
 injective:Bool
 deriving DecidableEq
def BW (x:AR):TV:=.agg [(eL 4 GC) x.t.Nodes,(eL 7 GY) x.t.Edges,(eL 1 eI) x.h.Graph.Nodes,(eL 3 DZ) x.h.Graph.Edges,(eL 1 (eL 1 eI)) x.h.Values,eB x.injective]
structure AS where
 Choice:Int
 Match:AK
 Kids:List AS
mutual
def UI:AS->TV
 | ⟨y0,y1,y2⟩=>.agg [eI y0,(eL 1 eI) y1.Morphism.Nodes,(eL 1 eI) y1.Morphism.Edges,(eL 1 eI) y1.Vars,.list 5 (Lc y2)]
def Lc:List AS->List TV
 | []=>[]
 | c::cs=>UI c::Lc cs
end
def Hy (l:List AS):TV:=.list 5 (Lc l)
def DX (x:AS):TV:=.agg [eI x.Choice,(eL 1 eI) x.Match.Morphism.Nodes,(eL 1 eI) x.Match.Morphism.Edges,(eL 1 eI) x.Match.Vars,Hy x.Kids]
theorem U9 (x:AS):UI x=DX x:=by
 cases x; rfl
theorem OU:∀ l:List AS,Lc l=l.map DX
 | []=>rfl
 | x::l=>by rw [Lc,U9,OU l]; rfl
theorem Tq (l:List AS):Hy l=.list 5 (l.map DX):=by rw [Hy,OU]
structure GT where
 P:Pattern
 C:AB
def GQ (x:GT):TV:=.agg [(eL 1 eI) x.P.Graph.Nodes,(eL 3 DZ) x.P.Graph.Edges,(eL 4 KV) x.P.Slots,eI x.P.Vars,(eL 5 KW) x.P.Tests,eI x.C.Kind,GP x.C.Kids,(eL 1 eI) x.C.Map.Nodes,(eL 1 eI) x.C.Map.Edges,(eL 1 eI) x.C.Pattern.Graph.Nodes,(eL 3 DZ) x.C.Pattern.Graph.Edges,(eL 4 KV) x.C.Pattern.Slots,eI x.C.Pattern.Vars,(eL 5 KW) x.C.Pattern.Tests]
structure Kf where
 H:AZ
 M:AK
 Injective:Bool
 deriving DecidableEq
def Km (x:Kf):TV:=.agg [(eL 1 eI) x.H.Graph.Nodes,(eL 3 DZ) x.H.Graph.Edges,(eL 1 (eL 1 eI)) x.H.Values,(eL 1 eI) x.M.Morphism.Nodes,(eL 1 eI) x.M.Morphism.Edges,(eL 1 eI) x.M.Vars,eB x.Injective]
abbrev lI:List Int->TV:=eL 1 eI
abbrev lE:List CS->TV:=eL 3 DZ
abbrev lS:List DH->TV:=eL 4 KV
abbrev lT:List Test->TV:=eL 5 KW
abbrev lN:List CC->TV:=eL 4 GC
abbrev lX:List CL->TV:=eL 7 GY
abbrev lA:List Attr->TV:=eL 4 HK
abbrev lB:List ByteArray->TV:=eL 1 eS
theorem Xf (a b:CS):B2 (TV.cells (DZ a)) (TV.cells (DZ b))=some (decide (a=b)):=by
 rcases a with ⟨a0,a1,a2⟩; rcases b with ⟨b0,b1,b2⟩; simp [DZ,TV.cells,B2,eI,Bool.and_assoc,CS.mk.injEq]
end Go.Sf.Sc
