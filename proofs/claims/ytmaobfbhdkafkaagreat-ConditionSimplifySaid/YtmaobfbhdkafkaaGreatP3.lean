/- Plain lemmas: what the functions of the program and of the reference compute. -/
import Derived.Test.YtmaobfbhdkafkaaGreatP1
set_option maxRecDepth 100000
namespace Go.Sf.Sc
open Go Go.Sf
def namesE (l:List ByteArray):Int:=
 if (20:Int)<l.length then 3 else (fst (fun i=>if isName (at' l i)=false then some 2 else if anyR (fun j=>at' l j==at' l i) 0 i=true then some 5 else none) 0 l.length).getD 0
def attrE (all:List Attr) (k:Int):Int:=
 let x:=at' all k
 if isName x.Name=false then 2 else if anyR (fun j=>(at' all j).Name==x.Name) 0 k=true then 5 else
 if x.Names.length=0 then (if -1000000<=x.Low∧x.Low<=x.High∧x.High<=1000000 then 0 else 6) else
 if namesE x.Names≠0 then namesE x.Names else if x.Low=0∧x.High=x.Names.length - 1 then 0 else 6
def nodeE (t:Types) (i:Int):Int:=
 let n:=at' t.Nodes i
 if isName n.Name=false then 2 else if anyR (fun j=>(at' t.Nodes j).Name==n.Name) 0 i=true then 5 else
 if n.Parent < -1∨i<=n.Parent then 6 else if 4<n.Attrs.length∨8<(attrsS t i).length then 3 else
 (fst (fun k=>nz (attrE (attrsS t i) k)) ((attrsS t i).length - n.Attrs.length) (attrsS t i).length).getD 0
theorem ParOk.next {t:Types} {i:Int} (h:ParOk t i) (h1:-1<=par t i) (h2:par t i<i):ParOk t (i+1):=by
 intro j k1 k2
 by_cases hj:j=i
 ·subst hj; exact ⟨h1,h2⟩
 ·exact h j k1 (by omega)
def boundB (low high:Int):Bool:=((decide (0<=low))&&(decide (low<=40)))&&((decide (high=(-1)))||((decide (low<=high))&&(decide (high<=40))))
def edgeE (t:Types) (i:Int):Int:=
 let x:=at' t.Edges i
 if isName x.Name=false then 2 else if anyR (fun j=>(at' t.Edges j).Name==x.Name) 0 i=true then 5 else
 if (0<=x.From∧x.From<t.Nodes.length)∧(0<=x.To∧x.To<t.Nodes.length)∧boundB x.OutLow x.OutHigh=true∧boundB x.InLow x.InHigh=true then 0 else 6
theorem nodeE_par {t:Types} {i:Int} (h:nodeE t i=0):-1<=par t i∧par t i<i:=by
 unfold nodeE at h
 dsimp only at h
 unfold par
 by_cases hr:(at' t.Nodes i).Parent < -1∨i<=(at' t.Nodes i).Parent
 ·rw [if_pos hr] at h
  split at h
  ·cases h
  ·split at h <;> cases h
 ·omega
theorem parOk_of {t:Types} {i:Int} (h:∀ j,0<=j->j<i->nodeE t j=0):ParOk t i:=fun j h1 h2=>nodeE_par (h j h1 h2)
end Go.Sf.Sc
namespace Go.Sf.Sc
open Go Go.Sf
theorem if_b {α:Type} {c:Bool} {a b:α}:(if c=true then some a else some b)=some (if c=true then a else b):=by cases c <;> rfl
structure GraphOk (g:Graph):Prop where
 nodes:g.Nodes.length<=40
 edges:g.Edges.length<=80
 kind:∀ n∈g.Nodes,0<=n∧n<=99
 fit:∀ e∈g.Edges,(0<=e.Type'∧e.Type'<=99)∧(0<=e.From∧e.From<g.Nodes.length)∧(0<=e.To∧e.To<g.Nodes.length)
structure TypesOk (t:Types):Prop where
 nodes:t.Nodes.length<=12
 edges:t.Edges.length<=20
 node:∀ i:Int,0<=i->i<t.Nodes.length->nodeE t i=0
 edge:∀ i:Int,0<=i->i<t.Edges.length->edgeE t i=0
theorem TypesOk.par {t:Types} (h:TypesOk t):ParOk t t.Nodes.length:=parOk_of h.node
theorem TypesOk.ends {t:Types} (h:TypesOk t) {i:Int} (h0:0<=i) (h1:i<t.Edges.length):(0<=(at' t.Edges i).From∧(at' t.Edges i).From<t.Nodes.length)∧(0<=(at' t.Edges i).To∧(at' t.Edges i).To<t.Nodes.length):=by
 have:=h.edge i h0 h1
 unfold edgeE at this
 dsimp only at this
 split at this
 ·cases this
 ·split at this
  ·cases this
  ·split at this
   ·rename_i hc; exact ⟨hc.1,hc.2.1⟩
   ·cases this
theorem take_succ_at {α:Type} [Inhabited α] {l:List α} {i:Int} (h0:0<=i) (h1:i<l.length):l.take (i+1).toNat=l.take i.toNat++[at' l i]:=by
 unfold at'
 rw [show (i+1).toNat=i.toNat+1 by omega,List.take_add_one,List.getD_eq_getElem?_getD,List.getElem?_eq_getElem (by omega)]
 rfl
theorem appC_nil {α:Type} {l:List α} (h:l.length<=nmax):appC [] l=some l:=by rw [appC_some (by simpa using h)]; rfl
end Go.Sf.Sc
