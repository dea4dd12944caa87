/- Plain lemmas: what the functions of the program and of the reference compute. -/
import Derived.Test.YtmaobfbhdkafkaaGreatFns
import Derived.Test.YtmaobfbhdkafkaaGreatSfPl
set_option maxRecDepth 100000
namespace Go.Sf
theorem fstGo_some {ρ:Type} {d:Int->Option ρ} {r:ρ}:∀ {n:Nat} {a:Int},fstGo d n a=some r->∃ i,a<=i∧i<a+n∧d i=some r∧∀ j,a<=j->j<i->d j=none
 | 0,_,h=>by cases h
 | n+1,a,h=>by
  rw [fstGo] at h
  cases hd:d a with
  | some r'=>
   rw [hd] at h
   exact ⟨a,Int.le_refl _,by omega,by rw [hd]; exact h,fun j h1 h2=>by omega⟩
  | none=>
   rw [hd] at h
   obtain ⟨i,h1,h2,h3,h4⟩:=fstGo_some h
   refine ⟨i,by omega,by omega,h3,fun j k1 k2=>?_⟩
   by_cases hj:j=a
   ·subst hj; exact hd
   ·exact h4 j (by omega) k2
theorem fst_some {ρ:Type} {d:Int->Option ρ} {r:ρ} {a b:Int} (h:fst d a b=some r):∃ i,a<=i∧i<b∧d i=some r∧∀ j,a<=j->j<i->d j=none:=by
 obtain ⟨i,h1,h2,h3,h4⟩:=fstGo_some h
 exact ⟨i,h1,by omega,h3,h4⟩
def runS (p:Int->Bool) (s:ByteArray):Int:=(fst (fun i=>if p (bt s i) then none else some i) 0 s.size).getD s.size
end Go.Sf
namespace Go.Sf.Sc
open Go Go.Sf
def letterB (c:Int):Bool:=((decide (97<=c))&&(decide (c<=122)))||((decide (65<=c))&&(decide (c<=90)))
def digitB (c:Int):Bool:=(decide (48<=c))&&(decide (c<=57))
def partB (c:Int):Bool:=letterB c||digitB c||decide (c=95)
def isName (s:ByteArray):Bool:=decide (0<s.size)&&letterB (bt s 0)&&decide (s.size<=20)&&decide (runS partB s=s.size)
end Go.Sf.Sc
namespace Go.Sf
variable {ρ β:Type}
def nz (e:Int):Option Int:=if e=0 then none else some e
theorem bl_ctl (b:Bool) (r:ρ):(if b=true then some (Ctl.ret r) else some (Ctl.next ()))=some (ansC (if b=true then some r else none)):=by
 cases b <;> rfl
theorem thenR_inl {σ:Type} {s:σ} {k:σ->Option β} {kr:ρ->Option β}:thenR (some (.inl s)) k kr=k s:=rfl
theorem thenR_ans (o:Option ρ) (k:Unit->Option β) (kr:ρ->Option β):thenR (some (ans o)) k kr=match o with | none=>k () | some r=>kr r:=by
 cases o <;> rfl
theorem index_of {α:Type} [Inhabited α] {l:List α} {f:α->Option Bool} {p:α->Bool} (h:∀ x∈l,f x=some (p x)) :
  (thenR (forR (ρ:=Int) (fun (i0:Int) (_:Unit)=>(idx l i0).bind fun x14=>(f x14).bind fun x16=>if x16=true then some (.ret i0) else some (.next ())) 0 (l.length:Int) ()) (fun _=>some (-1)) (fun v0=>some v0)) =
   some ((fst (fun i=>if p (at' l i)=true then some i else none) 0 l.length).getD (-1)):=by
 rw [forR_fst (fun i=>if p (at' l i)=true then some i else none)]
 ·rw [thenR_ans]; cases fst (fun i=>if p (at' l i)=true then some i else none) 0 l.length <;> rfl
 ·intro i h1 h2 _
  rw [idx_at h1 h2,bs,h _ (at_mem h1 h2),bs,bl_ctl]
theorem index_any {α:Type} [Inhabited α] {l:List α} {p:α->Bool}:decide (0<=(fst (fun i=>if p (at' l i)=true then some i else none) 0 l.length).getD (-1))=l.any p:=by
 rw [any_at,anyR]
 cases h:fst (fun i=>if p (at' l i)=true then some i else none) 0 l.length with
 | none=>
  rw [fst_none] at h
  symm
  show Option.isSome _=false
  rw [Option.isSome_eq_false_iff,Option.isNone_iff_eq_none,fst_none]
  intro i h1 h2
  have:=h i h1 h2
  by_cases hp:p (at' l i)=true
  ·rw [if_pos hp] at this; cases this
  ·rw [if_neg hp]
 | some k=>
  obtain ⟨i,h1,h2,h3,_⟩:=fst_some h
  have h4:p (at' l i)=true∧i=k:=by
   by_cases hv:p (at' l i)=true
   ·rw [if_pos hv] at h3; exact ⟨hv,by simpa using h3⟩
   ·rw [if_neg hv] at h3; cases h3
  simp only [Option.getD]
  rw [decide_eq_true (show (0:Int)<=k by omega)]
  symm
  show Option.isSome _=true
  rw [Option.isSome_iff_ne_none,ne_eq,fst_none]
  intro hn
  have:=hn i h1 h2
  rw [if_pos h4.1] at this
  cases this
theorem contains_of {α:Type} [Inhabited α] {l:List α} {f:α->Option Bool} {p:α->Bool} (h:∀ x∈l,f x=some (p x)) :
  ((thenR (forR (ρ:=Int) (fun (i0:Int) (_:Unit)=>(idx l i0).bind fun x14=>(f x14).bind fun x16=>if x16=true then some (.ret i0) else some (.next ())) 0 (l.length:Int) ()) (fun _=>some (-1)) (fun v0=>some v0)).bind fun x7=>some (decide (0<=x7)))=some (l.any p):=by
 rw [index_of h,bs,index_any]
end Go.Sf
namespace Go.Sf.Sc
open Go Go.Sf
instance:Inhabited Attr:=⟨⟨⟨#[]⟩,0,0,[]⟩⟩
instance:Inhabited NodeType:=⟨⟨⟨#[]⟩,0,false,[]⟩⟩
instance:Inhabited EdgeType:=⟨⟨⟨#[]⟩,0,0,0,0,0,0⟩⟩
instance:Inhabited Edge:=⟨⟨0,0,0⟩⟩
instance:Inhabited Slot:=⟨⟨0,0,⟨0,0⟩⟩⟩
instance:Inhabited Test:=⟨⟨0,⟨0,0⟩,⟨0,0⟩⟩⟩
instance:Inhabited Condition:=⟨⟨0,[],⟨[],[]⟩,⟨⟨[],[]⟩,[],0,[]⟩⟩⟩
theorem cf_Condition {l:List Condition} {f:Condition->Option Bool} {p:Condition->Bool} (h:∀ x∈l,f x=some (p x)):slices_ContainsFunc_Condition l f=some (l.any p):=contains_of h
structure FewA (a:Attr):Prop where
 name:(a.Name.size:Int)<=40
 names:a.Names.length<=25
 each:∀ x∈a.Names,(x.size:Int)<=40
structure FewT (t:Types):Prop where
 nodes:t.Nodes.length<=20
 edges:t.Edges.length<=30
 name:∀ n∈t.Nodes,(n.Name.size:Int)<=40
 attrs:∀ n∈t.Nodes,n.Attrs.length<=30
 each:∀ n∈t.Nodes,∀ a∈n.Attrs,FewA a
 ename:∀ e∈t.Edges,(e.Name.size:Int)<=40
def par (t:Types) (i:Int):Int:=(at' t.Nodes i).Parent
def ParOk (t:Types) (k:Int):Prop:=∀ i,0<=i->i<k->-1<=par t i∧par t i<i
def attrsN (t:Types):Nat->Int->List Attr
 | 0,_=>[]
 | n+1,a=>if a<0 then [] else attrsN t n (par t a)++(at' t.Nodes a).Attrs
def attrsS (t:Types) (a:Int):List Attr:=attrsN t (a+1).toNat a
end Go.Sf.Sc
