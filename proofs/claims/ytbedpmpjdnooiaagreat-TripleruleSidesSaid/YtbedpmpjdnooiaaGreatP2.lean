/- Plain lemmas: what the functions of the program and of the reference compute. -/
import Derived.Test.YtbedpmpjdnooiaaGreatP1
set_option maxRecDepth 100000
namespace Go.Sf
variable {ρ β:Type}
def nz (e:Int):Option Int:=if e=0 then none else some e
theorem nz_ctl (e:Int):(if (!decide (e=0))=true then some (Ctl.ret e) else some (Ctl.next ()))=some (ansC (nz e)):=by
 unfold nz
 by_cases h:e=0 <;> simp [h,ansC]
theorem bl_ctl (b:Bool) (r:ρ):(if b=true then some (Ctl.ret r) else some (Ctl.next ()))=some (ansC (if b=true then some r else none)):=by
 cases b <;> rfl
theorem thenR_inl {σ:Type} {s:σ} {k:σ->Option β} {kr:ρ->Option β}:thenR (some (.inl s)) k kr=k s:=rfl
theorem thenR_inr {σ:Type} {r:ρ} {k:σ->Option β} {kr:ρ->Option β}:thenR (some (.inr r)) k kr=kr r:=rfl
theorem thenR_ans (o:Option ρ) (k:Unit->Option β) (kr:ρ->Option β):thenR (some (ans o)) k kr=match o with | none=>k () | some r=>kr r:=by
 cases o <;> rfl
theorem thenR_ans0 (o:Option Int):thenR (some (ans o)) (fun _=>some 0) (fun v=>some v)=some (o.getD 0):=by
 cases o <;> rfl
theorem nz_none {e:Int}:nz e=none↔e=0:=by
 unfold nz
 by_cases h:e=0 <;> simp [h]
theorem index_of {α:Type} [Inhabited α] {l:List α} {f:α->Option Bool} {p:α->Bool} (h:∀ x∈l,f x=some (p x)) :
  (thenR (forR (ρ:=Int) (fun (i0:Int) (_:Unit)=>(idx l i0).bind fun x14=>(f x14).bind fun x16=>if x16=true then some (.ret i0) else some (.next ())) 0 (l.length:Int) ()) (fun _=>some (-1)) (fun v0=>some v0)) =
   some ((fst (fun i=>if p (at' l i)=true then some i else none) 0 l.length).getD (-1)):=by
 rw [forR_fst (fun i=>if p (at' l i)=true then some i else none)]
 ·rw [thenR_ans]; cases fst (fun i=>if p (at' l i)=true then some i else none) 0 l.length <;> rfl
 ·intro i h1 h2 _
  rw [idx_at h1 h2,bs,h _ (at_mem h1 h2),bs,bl_ctl]
theorem index_any {α:Type} [Inhabited α] {l:List α} {p:α->Bool}:decide (0<=(fst (fun i=>if p (at' l i)=true then some i else none) 0 l.length).getD (-1))=l.any p:=by
 rw [any_at,anyR]
 cases h:fst (fun i=>if p (at' l i)=true then some i else none) 0 l.length with
 | none=>
  rw [fst_none] at h
  symm
  show Option.isSome _=false
  rw [Option.isSome_eq_false_iff,Option.isNone_iff_eq_none,fst_none]
  intro i h1 h2
  have:=h i h1 h2
  by_cases hp:p (at' l i)=true
  ·rw [if_pos hp] at this; cases this
  ·rw [if_neg hp]
 | some k=>
  obtain ⟨i,h1,h2,h3,_⟩:=fst_some h
  have h4:p (at' l i)=true∧i=k:=by
   by_cases hv:p (at' l i)=true
   ·rw [if_pos hv] at h3; exact ⟨hv,by simpa using h3⟩
   ·rw [if_neg hv] at h3; cases h3
  simp only [Option.getD]
  rw [decide_eq_true (show (0:Int)<=k by omega)]
  symm
  show Option.isSome _=true
  rw [Option.isSome_iff_ne_none,ne_eq,fst_none]
  intro hn
  have:=hn i h1 h2
  rw [if_pos h4.1] at this
  cases this
theorem contains_of {α:Type} [Inhabited α] {l:List α} {f:α->Option Bool} {p:α->Bool} (h:∀ x∈l,f x=some (p x)) :
  ((thenR (forR (ρ:=Int) (fun (i0:Int) (_:Unit)=>(idx l i0).bind fun x14=>(f x14).bind fun x16=>if x16=true then some (.ret i0) else some (.next ())) 0 (l.length:Int) ()) (fun _=>some (-1)) (fun v0=>some v0)).bind fun x7=>some (decide (0<=x7)))=some (l.any p):=by
 rw [index_of h,bs,index_any]
end Go.Sf
namespace Go.Sf.Sc
open Go Go.Sf
instance:Inhabited Attr:=⟨⟨⟨#[]⟩,0,0,[]⟩⟩
instance:Inhabited NodeType:=⟨⟨⟨#[]⟩,0,false,[]⟩⟩
instance:Inhabited EdgeType:=⟨⟨⟨#[]⟩,0,0,0,0,0,0⟩⟩
instance:Inhabited Edge:=⟨⟨0,0,0⟩⟩
instance:Inhabited Slot:=⟨⟨0,0,⟨0,0⟩⟩⟩
instance:Inhabited Test:=⟨⟨0,⟨0,0⟩,⟨0,0⟩⟩⟩
instance:Inhabited Condition:=⟨⟨0,[],⟨[],[]⟩,⟨⟨[],[]⟩,[],0,[]⟩⟩⟩
theorem cf_int {l:List Int} {f:Int->Option Bool} {p:Int->Bool} (h:∀ x∈l,f x=some (p x)):slices_ContainsFunc_int l f=some (l.any p):=contains_of h
theorem cf_Edge {l:List Edge} {f:Edge->Option Bool} {p:Edge->Bool} (h:∀ x∈l,f x=some (p x)):slices_ContainsFunc_Edge l f=some (l.any p):=contains_of h
theorem cf_Condition {l:List Condition} {f:Condition->Option Bool} {p:Condition->Bool} (h:∀ x∈l,f x=some (p x)):slices_ContainsFunc_Condition l f=some (l.any p):=contains_of h
theorem cg_NodeType {l:List NodeType} {p:NodeType->Bool}:slices_ContainsFunc_NodeType l (fun x=>some (p x))=some (l.any p):=contains_of (fun _ _=>rfl)
theorem cg_EdgeType {l:List EdgeType} {p:EdgeType->Bool}:slices_ContainsFunc_EdgeType l (fun x=>some (p x))=some (l.any p):=contains_of (fun _ _=>rfl)
theorem cg_Attr {l:List Attr} {p:Attr->Bool}:slices_ContainsFunc_Attr l (fun x=>some (p x))=some (l.any p):=contains_of (fun _ _=>rfl)
theorem cg_int {l:List Int} {p:Int->Bool}:slices_ContainsFunc_int l (fun x=>some (p x))=some (l.any p):=contains_of (fun _ _=>rfl)
theorem cg_Edge {l:List Edge} {p:Edge->Bool}:slices_ContainsFunc_Edge l (fun x=>some (p x))=some (l.any p):=contains_of (fun _ _=>rfl)
theorem cg_Slot {l:List Slot} {p:Slot->Bool}:slices_ContainsFunc_Slot l (fun x=>some (p x))=some (l.any p):=contains_of (fun _ _=>rfl)
theorem ix_int (l:List Int) (v:Int):slices_Index_int l v=some ((fst (fun i=>if decide (v=at' l i)=true then some i else none) 0 l.length).getD (-1)):=by
 have:=index_of (l:=l) (f:=fun x=>some (decide (v=x))) (p:=fun x=>decide (v=x)) (fun _ _=>rfl)
 unfold slices_Index_int
 simpa only [bs] using this
theorem ct_int (l:List Int) (v:Int):slices_Contains_int l v=some (l.any fun x=>decide (v=x)):=by
 unfold slices_Contains_int
 rw [ix_int,bs,index_any (p:=fun x=>decide (v=x))]
theorem ct_bool (l:List Bool) (v:Bool):slices_Contains_bool l v=some (l.any fun x=>v==x):=by
 have:=contains_of (l:=l) (f:=fun x=>some (v==x)) (p:=fun x=>v==x) (fun _ _=>rfl)
 unfold slices_Contains_bool slices_Index_bool
 simpa only [bs] using this
structure FewA (a:Attr):Prop where
 name:(a.Name.size:Int)<=40
 names:a.Names.length<=25
 each:∀ x∈a.Names,(x.size:Int)<=40
structure FewT (t:Types):Prop where
 nodes:t.Nodes.length<=20
 edges:t.Edges.length<=30
 name:∀ n∈t.Nodes,(n.Name.size:Int)<=40
 attrs:∀ n∈t.Nodes,n.Attrs.length<=30
 each:∀ n∈t.Nodes,∀ a∈n.Attrs,FewA a
 ename:∀ e∈t.Edges,(e.Name.size:Int)<=40
def par (t:Types) (i:Int):Int:=(at' t.Nodes i).Parent
def ParOk (t:Types) (k:Int):Prop:=∀ i,0<=i->i<k->-1<=par t i∧par t i<i
def attrsN (t:Types):Nat->Int->List Attr
 | 0,_=>[]
 | n+1,a=>if a<0 then [] else attrsN t n (par t a)++(at' t.Nodes a).Attrs
def attrsS (t:Types) (a:Int):List Attr:=attrsN t (a+1).toNat a
theorem attrsN_neg {t:Types} {n:Nat} {a:Int} (h:a<0):attrsN t n a=[]:=by
 cases n with
 | zero=>rfl
 | succ n=>rw [attrsN,if_pos h]
theorem attrsN_eq {t:Types} {k:Int} (hp:ParOk t k):∀ (n m:Nat) (a:Int),a<k->a<n->a<m->attrsN t n a=attrsN t m a
 | n,m,a,hk,hn,hm=>by
  by_cases h0:a<0
  ·rw [attrsN_neg h0,attrsN_neg h0]
  ·cases n with
   | zero=>omega
   | succ n=>
    cases m with
    | zero=>omega
    | succ m=>
     rw [attrsN,attrsN,if_neg h0,if_neg h0]
     have:=hp a (by omega) hk
     rw [attrsN_eq hp n m (par t a) (by omega) (by omega) (by omega)]
theorem attrsN_len {t:Types} (hf:FewT t) {k:Int} (hk:k<=t.Nodes.length) (hp:ParOk t k):∀ (n:Nat) (a:Int),a<k->((attrsN t n a).length:Int)<=30*n
 | 0,_,_=>by simp [attrsN]
 | n+1,a,ha=>by
  rw [attrsN]
  split
  ·simp; omega
  ·rename_i h0
   have h1:=hp a (by omega) ha
   have h2:=attrsN_len hf hk hp n (par t a) (by omega)
   have h3:=hf.attrs _ (at_mem (l:=t.Nodes) (show 0<=a by omega) (by omega))
   rw [List.length_append]
   omega
theorem attrsN_few {t:Types} (hf:FewT t) {k:Int} (hk:k<=t.Nodes.length) (hp:ParOk t k):∀ (n:Nat) (a:Int),a<k->∀ x∈attrsN t n a,FewA x
 | 0,_,_=>by simp [attrsN]
 | n+1,a,ha=>by
  rw [attrsN]
  split
  ·simp
  ·rename_i h0
   have h1:=hp a (by omega) ha
   intro x hx
   rcases List.mem_append.1 hx with hx | hx
   ·exact attrsN_few hf hk hp n (par t a) (by omega) x hx
   ·exact hf.each _ (at_mem (l:=t.Nodes) (show 0<=a by omega) (by omega)) x hx
theorem attrsS_len {t:Types} (hf:FewT t) {k a:Int} (hk:k<=t.Nodes.length) (hp:ParOk t k) (ha:a<k):(attrsS t a).length<=600:=by
 have:=attrsN_len hf hk hp (a+1).toNat a ha
 have:=hf.nodes
 unfold attrsS
 omega
theorem attrsS_few {t:Types} (hf:FewT t) {k a:Int} (hk:k<=t.Nodes.length) (hp:ParOk t k) (ha:a<k):∀ x∈attrsS t a,FewA x:=attrsN_few hf hk hp _ a ha
theorem p_attrsF {t:Types} (hf:FewT t) {k:Int} (hk:k<=t.Nodes.length) (hp:ParOk t k):∀ (n:Nat) (a:Int),0<=a->a<k->a<n->types_attrsF n t a=some (attrsN t n a)
 | 0,_,_,_,_=>by omega
 | n+1,a,h0,ha,hn=>by
  have h1:=hp a (by omega) ha
  have h2:=attrsN_len hf hk hp n (par t a) (by omega)
  have h3:=hf.attrs _ (at_mem (l:=t.Nodes) h0 (by omega))
  have h4:=hf.nodes
  rw [types_attrsF,attrsN,if_neg (by omega),idx_at h0 (by omega)]
  simp only [bs]
  show ((if decide (0<=par t a)=true then (types_attrsF n t (par t a)).bind fun x17=>some x17 else some []).bind _)=_
  have e:(if decide (0<=par t a)=true then (types_attrsF n t (par t a)).bind fun x17=>some x17 else some [])=some (attrsN t n (par t a)):=by
   by_cases hq:0<=par t a
   ·rw [if_pos (by simpa using hq),p_attrsF hf hk hp n (par t a) hq (by omega) (by omega)]; rfl
   ·rw [if_neg (by simpa using hq),attrsN_neg (by omega)]
  have hb:(attrsN t n (par t a)).length+(at' t.Nodes a).Attrs.length<=nmax:=by
   unfold nmax
   have:((attrsN t n (par t a)).length:Int)<=30*n:=h2
   have h5:attrsN t n (par t a)=attrsN t 20 (par t a):=by
    by_cases hneg:par t a<0
    ·rw [attrsN_neg hneg,attrsN_neg hneg]
    ·exact attrsN_eq hp n 20 (par t a) (by omega) (by omega) (by omega)
   have h6:=attrsN_len hf hk hp 20 (par t a) (by omega)
   rw [←h5] at h6
   omega
  rw [e,bs,appC_some hb]
  rfl
theorem p_attrs {t:Types} (hf:FewT t) {k:Int} (hk:k<=t.Nodes.length) (hp:ParOk t k) {a:Int} (h0:0<=a) (ha:a<k):types_attrs t a=some (attrsS t a):=
 lim_eq (a+1).toNat fun n hn=>by
  rw [p_attrsF hf hk hp n a h0 ha (by omega),attrsS,attrsN_eq hp n (a+1).toNat a ha (by omega) (by omega)]
theorem r_attrsF {t:Types} (hf:FewT t) {k:Int} (hk:k<=t.Nodes.length) (hp:ParOk t k):∀ (n:Nat) (a:Int),-1<=a->a<k->a+1<n->ref04_attrsF n t a=some (attrsN t n a)
 | 0,_,_,_,_=>by omega
 | n+1,a,h0,ha,hn=>by
  rw [ref04_attrsF,attrsN]
  by_cases hneg:a<0
  ·rw [if_pos (by simpa using hneg),if_pos hneg]
  ·have h1:=hp a (by omega) ha
   have h3:=hf.attrs _ (at_mem (l:=t.Nodes) (show 0<=a by omega) (by omega))
   have h4:=hf.nodes
   rw [if_neg (by simpa using hneg),if_neg hneg,idx_at (by omega) (by omega)]
   simp only [bs]
   have h5:attrsN t n (par t a)=attrsN t 20 (par t a):=by
    by_cases hneg:par t a<0
    ·rw [attrsN_neg hneg,attrsN_neg hneg]
    ·exact attrsN_eq hp n 20 (par t a) (by omega) (by omega) (by omega)
   have h6:=attrsN_len hf hk hp 20 (par t a) (by omega)
   rw [←h5] at h6
   have hb:(attrsN t n (par t a)).length+(at' t.Nodes a).Attrs.length<=nmax:=by unfold nmax; omega
   rw [show (at' t.Nodes a).Parent=par t a from rfl,r_attrsF hf hk hp n (par t a) (by omega) (by omega) (by omega),bs,appC_some (by simp; unfold nmax; omega)]
   simp only [bs,List.nil_append]
   rw [appC_some hb]; rfl
theorem r_attrs {t:Types} (hf:FewT t) {k:Int} (hk:k<=t.Nodes.length) (hp:ParOk t k) {a:Int} (h0:0<=a) (ha:a<k):ref04_attrs t a=some (attrsS t a):=
 lim_eq (a+2).toNat fun n hn=>by
  rw [r_attrsF hf hk hp n a (by omega) ha (by omega),attrsS,attrsN_eq hp n (a+1).toNat a ha (by omega) (by omega)]
end Go.Sf.Sc
