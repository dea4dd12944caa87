/- Plain lemmas: what the functions of the program and of the reference compute. -/
import Derived.Test.YtmaobfbhdkafkaaGreatP5
set_option maxRecDepth 100000
namespace Go.Sf
end Go.Sf
namespace Go.Sf.Sc
open Go Go.Sf
end Go.Sf.Sc
namespace Go.Sf.Sc
open Go Go.Sf
structure MorOk (a b:Graph) (m:Morphism):Prop where
 ga:GraphOk a
 gb:GraphOk b
 nlen:m.Nodes.length=a.Nodes.length
 elen:m.Edges.length=a.Edges.length
 node:∀ i:Int,0<=i->i<m.Nodes.length->(0<=at' m.Nodes i∧at' m.Nodes i<b.Nodes.length)∧at' b.Nodes (at' m.Nodes i)=at' a.Nodes i
 edge:∀ i:Int,0<=i->i<m.Edges.length->(0<=at' m.Edges i∧at' m.Edges i<b.Edges.length)∧(at' a.Edges i).Type'=(at' b.Edges (at' m.Edges i)).Type' ∧
  at' m.Nodes (at' a.Edges i).From=(at' b.Edges (at' m.Edges i)).From∧at' m.Nodes (at' a.Edges i).To=(at' b.Edges (at' m.Edges i)).To
end Go.Sf.Sc
