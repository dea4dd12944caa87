/- Plain lemmas: what the functions of the program and of the reference compute. -/
import Derived.Test.YtmaobfbhdkafkaaGreatP25
set_option maxRecDepth 100000
namespace Go.Sf.Sc
open Go Go.Sf
theorem XO {all:List Attr} {k:Int} (h:MN all k=0) (hn:(AA all k).Names.length<=1000):-1000000<=(AA all k).Low∧(AA all k).High<=1000000:=by
 unfold MN at h
 dsimp only at h
 split at h
 ·cases h
 split at h
 ·cases h
 split at h
 ·split at h
  ·rename_i hc; exact ⟨hc.1,hc.2.2⟩
  ·cases h
 split at h
 ·rename_i hc; exact absurd h hc
 split at h
 ·rename_i hc; omega
 ·cases h
theorem Tx {t:AD} {i:Int} (h:IV t i=0):∀ k,((A8 t i).length:Int) - (AA t.Nodes i).Attrs.length<=k->k<(A8 t i).length->MN (A8 t i) k=0:=by
 unfold IV at h
 dsimp only at h
 split at h
 ·cases h
 split at h
 ·cases h
 split at h
 ·cases h
 split at h
 ·cases h
 exact Sv h
theorem MO {t:AD} {n:Nat} {a:Int} (h0:0<=a):CC t (n+1) a=CC t n (par t a)++(AA t.Nodes a).Attrs:=by
 rw [CC,if_neg (by omega)]
theorem QZ {t:AD} (hf:BT t) (h:G1 t):∀ (n:Nat) (a:Int),a<t.Nodes.length->a<n->∀ x∈CC t n a,-1000000<=x.Low∧x.High<=1000000
 | 0,_,_,_=>by simp [CC]
 | n+1,a,ha,hn=>by
  by_cases h0:a<0
  ·rw [H4 h0]; simp
  ·have hp:=h.par a (by omega) ha
   intro x hx
   rw [MO (by omega)] at hx
   rcases List.mem_append.1 hx with hx | hx
   ·exact QZ hf h n (par t a) (by omega) (by omega) x hx
   ·obtain ⟨j,j0,j1,rfl⟩:=FE hx
    have e:A8 t a=CC t a.toNat (par t a)++(AA t.Nodes a).Attrs:=by
     unfold A8
     rw [show (a+1).toNat=a.toNat+1 by omega,MO (by omega)]
    have hl:(A8 t a).length=(CC t a.toNat (par t a)).length+(AA t.Nodes a).Attrs.length:=by rw [e,List.length_append]
    have h1:=Tx (h.node a (by omega) ha) ((CC t a.toNat (par t a)).length+j) (by omega) (by omega)
    have e2:AA (A8 t a) ((CC t a.toNat (par t a)).length+j)=AA (AA t.Nodes a).Attrs j:=by
     rw [e,RP,if_neg (by omega)]
     unfold AA
     congr 1
     omega
    have hm:=K4 hf (Int.le_refl _) h.par ha (AA (A8 t a) ((CC t a.toNat (par t a)).length+j)) (AO (by omega) (by omega))
    have:=XO h1 (by have:=hm.names; omega)
    rwa [e2] at this
theorem U2 {t:AD} (hf:BT t) (h:G1 t) {a:Int} (h0:0<=a) (ha:a<t.Nodes.length):∀ x∈A8 t a,-1000000<=x.Low∧x.High<=1000000:=QZ hf h _ a ha (by omega)
theorem R8 {t:AD} {k:Int} (hp:F3 t k):∀ (n:Nat) (a b:Int),a<k->a<n->b∈MC t n a->0<=b∧b<=a∧(A8 t b).length<=(CC t n a).length
 | 0,_,_,_,_=>by simp [MC]
 | n+1,a,b,ha,hn=>by
  intro hb
  rw [MC] at hb
  split at hb
  ·cases hb
  ·rename_i h0
   have hq:=hp a (by omega) ha
   rw [MO (by omega)]
   rcases List.mem_cons.1 hb with rfl | hb
   ·refine ⟨by omega,by omega,?_⟩
    unfold A8
    rw [Kn hp (b+1).toNat (n+1) b ha (by omega) (by omega),MO (by omega)]
    exact Nat.le_refl _
   ·have:=R8 hp n (par t a) b (by omega) (by omega) hb
    refine ⟨this.1,by omega,?_⟩
    rw [List.length_append]; omega
theorem V3 {t:AD} (h:G1 t) {a b:Int} (ha:a<t.Nodes.length) (hb:Hw t a b=true):(A8 t b).length<=(A8 t a).length:=by
 unfold Hw at hb
 rw [List.any_eq_true] at hb
 obtain ⟨x,hx,e⟩:=hb
 rw [decide_eq_true_eq] at e
 subst e
 by_cases h0:a<0
 ·have:(a+1).toNat=0:=by omega
  rw [this] at hx; cases hx
 ·exact (R8 h.par (a+1).toNat a b ha (by omega) hx).2.2
theorem U6 {α:Type} {a b:Int} {Q:Prop} [Decidable Q] {v:α} {X:Option α} {Y:α} (he:a=b↔Q) (h:Q->X=some Y):(if (!decide (a=b))=true then some v else X)=some (if ¬ Q then v else Y):=by
 by_cases hq:Q
 ·rw [if_neg (by simp [he.2 hq]),if_neg (by simpa using hq),h hq]
 ·rw [if_pos (by simp; exact fun e=>hq (he.1 e)),if_pos hq]
def Ok (t:AD) (k:Int) (v:List Int) (j:Int):Bool:=decide (AA v j<(AA (A8 t k) j).Low)||decide ((AA (A8 t k) j).High<AA v j)
def JC (t:AD) (k:Int) (v:List Int):Int:=
 if (t.Nodes.length:Int)<=k then 6 else if (AA t.Nodes k).Abstract=true then 13 else if ¬ v.length=(A8 t k).length then 20 else
 if anyR (Ok t k v) 0 (A8 t k).length=true then 6 else 0
def KF (t:AD) (g:Graph) (i:Int):Int:=
 if (t.Edges.length:Int)<=(AA g.Edges i).Type' then 6 else if QF t g i=false then 13 else 0
def MU (t:AD) (h:AZ):Int × Int:=
 if (BA t).2≠0 then (-1,(BA t).2) else if C5 h.Graph≠0 then (-1,C5 h.Graph) else if ¬ h.Values.length=h.Graph.Nodes.length then (-1,20) else
 match fst (fun i=>(nz (JC t (AA h.Graph.Nodes i) (AA h.Values i))).map fun e=>(i,e)) 0 h.Graph.Nodes.length with
 | some r=>r
 | none=>(fst (fun i=>(nz (KF t h.Graph i)).map fun e=>(i,e)) 0 h.Graph.Edges.length).getD (-1,0)
theorem PI {t:AD} (hv:(BA t).2=0) {k:Int} (h0:0<=k) (h1:k<t.Nodes.length):H5 t k=(A8 t k,0):=by
 unfold H5
 rw [if_neg (by simp [hv]),if_pos (Kq.2 ⟨h0,h1⟩)]
theorem UV {x:Bool} {y:Bool}:(if x=true then some true else some y)=some (x||y):=by cases x <;> rfl
theorem Z1 {t:AD} (hf:BT t) (hv:(BA t).2=0) {k:Int} (h0:0<=k) (v:List Int):Ip t k v=some (JC t k v):=by
 unfold Ip JC
 by_cases h1:(t.Nodes.length:Int)<=k
 ·rw [if_pos (by simpa using h1),if_pos h1]
 rw [if_neg (by simpa using h1),if_neg h1,AG h0 (by omega),bs]
 refine kO fun _=>?_
 rw [UW hf,PI hv h0 (by omega),bs]
 refine U6 (by simp only []; omega) fun hl=>?_
 rw [B2 (Ok t k v) 6]
 ·cases anyR (Ok t k v) 0 (A8 t k).length <;> rfl
 ·intro j j0 j1 _
  have j1:j<(A8 t k).length:=j1
  rw [AG j0 j1,bs,AG j0 (by omega)]
  simp only [bs,UV]
  unfold Ok
  cases decide (AA v j<(AA (A8 t k) j).Low) <;> cases decide ((AA (A8 t k) j).High<AA v j) <;> rfl
theorem aD {t:AD} (hf:BT t) (hv:(BA t).2=0) {k:Int} (h0:0<=k) (v:List Int):LI t k v=some (JC t k v):=by
 unfold LI JC
 by_cases h1:(t.Nodes.length:Int)<=k
 ·rw [if_pos (by simpa using h1),if_pos h1]
 rw [if_neg (by simpa using h1),if_neg h1,AG h0 (by omega),bs]
 refine kO fun _=>?_
 rw [Ub hf,PI hv h0 (by omega),bs]
 refine U6 (by simp only []; omega) fun hl=>?_
 rw [B2 (Ok t k v) 6]
 ·cases anyR (Ok t k v) 0 (A8 t k).length <;> rfl
 ·intro j j0 j1 _
  have j1:j<(A8 t k).length:=j1
  rw [AG j0 (by omega),bs,AG j0 j1]
  simp only [bs,UV]
  unfold Ok
  cases decide (AA v j<(AA (A8 t k) j).Low) <;> cases decide ((AA (A8 t k) j).High<AA v j) <;> rfl
theorem S8 (e i:Int):(if (!decide (e=0))=true then some (CE.ret (σ:=Unit) (ρ:=Int × Int) (i,e)) else some (.next ()))=some (NO ((nz e).map fun e=>(i,e))):=by
 unfold nz
 by_cases h:e=0 <;> simp [h,NO]
theorem WE {t:AD} (hf:BT t) (h:AZ):HN t h=some (MU t h):=by
 unfold HN MU
 rw [Pp hf,bs]
 refine JW fun hv=>?_
 rw [Mg,bs]
 refine JW fun hg=>?_
 have go:=FA hg
 refine U6 (by omega) fun hl=>?_
 rw [CG (fun i=>(nz (JC t (AA h.Graph.Nodes i) (AA h.Values i))).map fun e=>(i,e)),E7]
 ·cases hn:fst (fun i=>(nz (JC t (AA h.Graph.Nodes i) (AA h.Values i))).map fun e=>(i,e)) 0 h.Graph.Nodes.length with
  | some r=>rfl
  | none=>
   have hn2:=DQ.1 hn
   dsimp only
   rw [CG (fun i=>(nz (KF t h.Graph i)).map fun e=>(i,e)),E7]
   ·cases fst (fun i=>(nz (KF t h.Graph i)).map fun e=>(i,e)) 0 h.Graph.Edges.length <;> rfl
   ·intro i i0 i1 _
    have hfi:=go.fit _ (AO (l:=h.Graph.Edges) i0 i1)
    rw [AG i0 i1,bs]
    unfold KF QF
    by_cases h1:(t.Edges.length:Int)<=(AA h.Graph.Edges i).Type'
    ·rw [if_pos (by simpa using h1),if_pos h1]; rfl
    ·rw [if_neg (by simpa using h1),if_neg h1,AG (by omega) (by omega),bs,AG (by omega) (by omega),bs,cE hf,bs]
     cases OZ t (AA h.Graph.Edges i).Type' (AA h.Graph.Nodes (AA h.Graph.Edges i).From) (AA h.Graph.Nodes (AA h.Graph.Edges i).To) <;> rfl
 ·intro i i0 i1 _
  rw [AG i0 i1,bs,AG i0 (by omega),bs,Z1 hf hv (go.kind _ (AO i0 i1)).1,bs]
  exact S8 _ i
theorem WT {t:AD} (hf:BT t) (h:AZ):JR t h=some (MU t h):=by
 unfold JR MU
 rw [Ps hf,bs]
 refine JW fun hv=>?_
 rw [Mi,bs]
 refine JW fun hg=>?_
 have go:=FA hg
 refine U6 (by omega) fun hl=>?_
 rw [CG (fun i=>(nz (JC t (AA h.Graph.Nodes i) (AA h.Values i))).map fun e=>(i,e)),E7]
 ·cases hn:fst (fun i=>(nz (JC t (AA h.Graph.Nodes i) (AA h.Values i))).map fun e=>(i,e)) 0 h.Graph.Nodes.length with
  | some r=>rfl
  | none=>
   have hn2:=DQ.1 hn
   dsimp only
   rw [CG (fun i=>(nz (KF t h.Graph i)).map fun e=>(i,e)),E7]
   ·cases fst (fun i=>(nz (KF t h.Graph i)).map fun e=>(i,e)) 0 h.Graph.Edges.length <;> rfl
   ·intro i i0 i1 _
    have hfi:=go.fit _ (AO (l:=h.Graph.Edges) i0 i1)
    rw [AG i0 i1,bs]
    unfold KF QF
    by_cases h1:(t.Edges.length:Int)<=(AA h.Graph.Edges i).Type'
    ·rw [if_pos (by simpa using h1),if_pos h1]; rfl
    ·rw [if_neg (by simpa using h1),if_neg h1,AG (by omega) (by omega),bs,AG (by omega) (by omega),bs,cQ hf,bs]
     cases OZ t (AA h.Graph.Edges i).Type' (AA h.Graph.Nodes (AA h.Graph.Edges i).From) (AA h.Graph.Nodes (AA h.Graph.Edges i).To) <;> rfl
 ·intro i i0 i1 _
  rw [AG i0 i1,bs,AG i0 (by omega),bs,aD hf hv (go.kind _ (AO i0 i1)).1,bs]
  exact S8 _ i
structure I8 (t:AD) (h:AZ):Prop where
 g:JL h.Graph
 len:h.Values.length=h.Graph.Nodes.length
 kind:∀ i:Int,0<=i->i<h.Graph.Nodes.length->0<=AA h.Graph.Nodes i∧AA h.Graph.Nodes i<t.Nodes.length
 row:∀ i:Int,0<=i->i<h.Graph.Nodes.length->(AA h.Values i).length=(A8 t (AA h.Graph.Nodes i)).length
 low:∀ i:Int,0<=i->i<h.Graph.Nodes.length->∀ x∈AA h.Values i,-1000000<=x∧x<=1000000
 ge:C5 h.Graph=0
 ty:FG t h.Graph=true
theorem UP {t:AD} (hf:BT t) {h:AZ} (e:(MU t h).2=0):(BA t).2=0∧I8 t h:=by
 unfold MU at e
 split at e
 ·rename_i h1; exact absurd e h1
 split at e
 ·rename_i h1; exact absurd e h1
 split at e
 ·cases e
 rename_i h1 h2 h3
 have hv:=Classical.not_not.1 h1
 have go:=FA (Classical.not_not.1 h2)
 have hn:∀ i:Int,0<=i->i<h.Graph.Nodes.length->JC t (AA h.Graph.Nodes i) (AA h.Values i)=0:=by
  split at e
  ·rename_i r hr
   obtain ⟨i,_,_,k,_⟩:=D8 hr
   unfold nz at k
   split at k
   ·cases k
   ·rename_i hne; cases k; exact absurd e hne
  ·rename_i hr
   exact fun i i0 i1=>Mf.1 (Lc.1 (DQ.1 hr i i0 i1))
 have hk:∀ i:Int,0<=i->i<h.Graph.Nodes.length->(0<=AA h.Graph.Nodes i∧AA h.Graph.Nodes i<t.Nodes.length)∧(AA h.Values i).length=(A8 t (AA h.Graph.Nodes i)).length∧∀ j:Int,0<=j->j<(A8 t (AA h.Graph.Nodes i)).length->Ok t (AA h.Graph.Nodes i) (AA h.Values i) j=false:=by
  intro i i0 i1
  have k0:=(go.kind _ (AO i0 i1)).1
  have:=hn i i0 i1
  unfold JC at this
  split at this
  ·cases this
  split at this
  ·cases this
  split at this
  ·cases this
  split at this
  ·cases this
  rename_i a1 a2 a3 a4
  exact ⟨⟨k0,by omega⟩,Classical.not_not.1 a3,EB.1 (by simpa using a4)⟩
 have he:∀ i:Int,0<=i->i<h.Graph.Edges.length->KF t h.Graph i=0:=by
  have hn':fst (fun i=>(nz (JC t (AA h.Graph.Nodes i) (AA h.Values i))).map fun e=>(i,e)) 0 h.Graph.Nodes.length=none:=DQ.2 fun i i0 i1=>by rw [hn i i0 i1]; rfl
  rw [hn'] at e
  dsimp only at e
  cases hr:fst (fun i=>(nz (KF t h.Graph i)).map fun e=>(i,e)) 0 h.Graph.Edges.length with
  | some r=>
   rw [hr] at e
   obtain ⟨i,_,_,k,_⟩:=D8 hr
   unfold nz at k
   split at k
   ·cases k
   ·rename_i hne; cases k; exact absurd e hne
  | none=>exact fun i i0 i1=>Mf.1 (Lc.1 (DQ.1 hr i i0 i1))
 have hty:FG t h.Graph=true:=by
  unfold FG
  rw [Bool.and_eq_true,Bool.not_eq_true',Bool.not_eq_true',List.any_eq_false,List.any_eq_false]
  refine ⟨fun n hn=>?_,fun x hx=>?_⟩
  ·obtain ⟨i,i0,i1,rfl⟩:=FE hn
   have:=(hk i i0 i1).1.2
   simp; omega
  ·obtain ⟨i,i0,i1,rfl⟩:=FE hx
   have:=he i i0 i1
   unfold KF at this
   split at this
   ·cases this
   ·simp; omega
 suffices hlow:∀ i:Int,0<=i->i<h.Graph.Nodes.length->∀ x∈AA h.Values i,-1000000<=x∧x<=1000000 from ⟨hv,go,Classical.not_not.1 h3,fun i i0 i1=>(hk i i0 i1).1,fun i i0 i1=>(hk i i0 i1).2.1,hlow,Classical.not_not.1 h2,hty⟩
 intro i i0 i1 x hx
 obtain ⟨k1,k2,k3⟩:=hk i i0 i1
 obtain ⟨j,j0,j1,rfl⟩:=FE hx
 have:=k3 j j0 (by omega)
 unfold Ok at this
 simp only [Bool.or_eq_false_iff,decide_eq_false_iff_not] at this
 have:=U2 hf (GF hv) k1.1 k1.2 _ (AO (l:=A8 t (AA h.Graph.Nodes i)) j0 (by omega))
 omega
end Go.Sf.Sc
namespace Go.Sf.Sc
open Go Go.Sf
def Jf (t:AD) (p g:Graph) (m:Morphism) (i:Int):Option Int:=
 if AA m.Nodes i<0∨g.Nodes.length<=AA m.Nodes i then some 6 else if Hw t (AA g.Nodes (AA m.Nodes i)) (AA p.Nodes i)=false then some 13 else none
def MY (t:AD) (p g:Graph) (m:Morphism):Int:=
 if m.Nodes.length≠p.Nodes.length∨m.Edges.length≠p.Edges.length then 20 else
 match fst (Jf t p g m) 0 m.Nodes.length with
 | some e=>e
 | none=>(fst (HI p g m) 0 m.Edges.length).getD 0
def Ms (t:AD) (p g:Graph) (m:Morphism) (inj:Bool):Int:=
 if HF t p g≠0 then HF t p g else if MY t p g m≠0 then MY t p g m else if (inj&&!NU m)=true then 5 else 0
structure ST (t:AD) (p g:Graph) (m:Morphism):Prop where
 nlen:m.Nodes.length=p.Nodes.length
 elen:m.Edges.length=p.Edges.length
 node:∀ i:Int,0<=i->i<m.Nodes.length->(0<=AA m.Nodes i∧AA m.Nodes i<g.Nodes.length)∧Hw t (AA g.Nodes (AA m.Nodes i)) (AA p.Nodes i)=true
 edge:∀ i:Int,0<=i->i<m.Edges.length->0<=AA m.Edges i∧AA m.Edges i<g.Edges.length
theorem Ob {t:AD} {p g:Graph} (h:HF t p g=0):(BA t).2=0∧JL p∧JL g∧(∀ n∈p.Nodes,0<=n∧n<t.Nodes.length)∧∀ n∈g.Nodes,0<=n∧n<t.Nodes.length:=by
 unfold HF at h
 split at h
 ·rename_i h1; exact absurd h h1
 split at h
 ·rename_i h1; exact absurd h h1
 split at h
 ·rename_i h1; exact absurd h h1
 split at h
 ·rename_i h1 h2 h3 h4
  rw [Bool.and_eq_true] at h4
  have gp:=FA (Classical.not_not.1 h2)
  have gg:=FA (Classical.not_not.1 h3)
  exact ⟨Classical.not_not.1 h1,gp,gg,(Lj gp h4.1).1,(Lj gg h4.2).1⟩
 ·cases h
theorem Ui {t:AD} {p g:Graph} {m:Morphism} (h:MY t p g m=0):ST t p g m:=by
 unfold MY at h
 split at h
 ·cases h
 rename_i h3
 have hn:fst (Jf t p g m) 0 m.Nodes.length=none:=by
  split at h
  ·rename_i r hr
   obtain ⟨i,_,_,k,_⟩:=D8 hr
   subst h
   unfold Jf at k
   split at k
   ·cases k
   ·split at k <;> cases k
  ·assumption
 rw [hn] at h
 have he:=Rd (fun i=>by
  unfold HI
  split
  ·simp
  ·split
   ·simp
   ·split <;> simp) h
 refine ⟨by omega,by omega,fun i i1 i2=>?_,fun i i1 i2=>?_⟩
 ·have:=DQ.1 hn i i1 i2
  unfold Jf at this
  split at this
  ·cases this
  ·split at this
   ·cases this
   ·rename_i x y
    exact ⟨by omega,by simpa using y⟩
 ·have:=he i i1 i2
  unfold HI at this
  split at this
  ·cases this
  ·omega
theorem WK {t:AD} (hf:BT t) {p g:Graph} (hg:HF t p g=0) (m:Morphism):Gz t p g m=some (MY t p g m):=by
 obtain ⟨hv,gp,gg,tp,tg⟩:=Ob hg
 unfold Gz MY
 refine Nc (by simp; try omega) fun hl=>?_
 rw [Yx hf (GF hv) hv,bs,CG (Jf t p g m),E7]
 ·cases hn:fst (Jf t p g m) 0 m.Nodes.length with
  | some e=>rfl
  | none=>
   dsimp only
   rw [CG (HI p g m),GD]
   intro i i1 i2 _
   unfold HI
   rw [AG i1 i2,bs]
   by_cases h1:AA m.Edges i<0∨g.Edges.length<=AA m.Edges i
   ·rw [if_pos (by simpa using h1),if_pos h1]; rfl
   ·have hf:=gp.fit _ (AO (l:=p.Edges) i1 (by omega))
    rw [if_neg (by simpa using h1),if_neg h1,AG i1 (by omega),bs,AG (by omega) (by omega),bs]
    by_cases h2:(AA p.Edges i).Type'=(AA g.Edges (AA m.Edges i)).Type'
    ·rw [if_neg (by simpa using h2),if_neg (by simpa using h2),AG (by omega) (by omega),bs]
     by_cases h3:AA m.Nodes (AA p.Edges i).From=(AA g.Edges (AA m.Edges i)).From
     ·rw [if_neg (by simpa using h3),AG (by omega) (by omega),bs,bs]
      by_cases h4:AA m.Nodes (AA p.Edges i).To=(AA g.Edges (AA m.Edges i)).To
      ·rw [if_neg (by simpa using h4),if_neg (by simp [h3,h4])]; rfl
      ·rw [if_pos (by simpa using h4),if_pos (.inr h4)]; rfl
     ·rw [if_pos (by simpa using h3),bs,if_pos rfl,if_pos (.inl h3)]; rfl
    ·rw [if_pos (by simpa using h2),if_pos h2]; rfl
 ·intro i i1 i2 _
  unfold Jf
  rw [AG i1 i2,bs]
  by_cases h1:AA m.Nodes i<0∨g.Nodes.length<=AA m.Nodes i
  ·rw [if_pos (by simpa using h1),if_pos h1]; rfl
  ·have kp:=tp _ (AO (l:=p.Nodes) i1 (by omega))
   have kg:=tg _ (AO (l:=g.Nodes) (show 0<=AA m.Nodes i by omega) (by omega))
   rw [if_neg (by simpa using h1),if_neg h1,AG i1 (by omega),bs,AG kp.1 (by unfold I3; rw [List.length_map,EA]; exact kp.2),bs,AG (by omega) (by omega),bs]
   have e:AA (I3 t) (AA p.Nodes i)=JY t (AA p.Nodes i):=by unfold I3; exact Lk (JY t) kp.1 kp.2
   rw [e,AG kg.1 (by unfold JY; rw [List.length_map,EA]; exact kg.2),bs]
   have e2:AA (JY t (AA p.Nodes i)) (AA g.Nodes (AA m.Nodes i))=Hw t (AA g.Nodes (AA m.Nodes i)) (AA p.Nodes i):=by unfold JY; exact Lk (fun k=>Hw t k (AA p.Nodes i)) kg.1 kg.2
   rw [e2]
   cases Hw t (AA g.Nodes (AA m.Nodes i)) (AA p.Nodes i) <;> rfl
theorem UZ {l:List Int} (hl:l.length<=1000):Hr l=some (!J9 l):=by
 unfold Hr
 rw [if_pos (by omega)]
 congr 1
 have h1:=QE l
 have h2:=Sj (l:=l)
 cases hd:dupB l with
 | false=>rw [h2.2 (h1.1 hd)]; rfl
 | true=>
  cases he:J9 l with
  | false=>rfl
  | true=>rw [h1.2 (h2.1 he)] at hd; cases hd
theorem UY {t:AD} (hf:BT t) (p g:Graph) (m:Morphism) (inj:Bool):F8 t p g m inj=some (Ms t p g m inj):=by
 unfold F8 Ms
 rw [Ua hf,bs]
 refine HC fun hg=>?_
 rw [WK hf hg,bs]
 refine HC fun hs=>?_
 obtain ⟨_,gp,gg,_⟩:=Ob hg
 have mo:=Ui hs
 have:=gp.nodes; have:=gp.edges; have:=mo.nlen; have:=mo.elen
 rw [UZ (by omega),UZ (by omega)]
 unfold NU
 cases inj <;> cases J9 m.Nodes <;> cases J9 m.Edges <;> rfl
theorem aC (l:List Int):Ii l=some (J9 l):=VO l
theorem WW {t:AD} {p g:Graph} (hg:HF t p g=0) (m:Morphism) (inj:Bool):KQ t p g m inj=some (if MY t p g m≠0 then MY t p g m else if (inj&&!NU m)=true then 5 else 0):=by
 obtain ⟨hv,gp,gg,tp,tg⟩:=Ob hg
 unfold KQ MY
 by_cases hl:m.Nodes.length≠p.Nodes.length∨m.Edges.length≠p.Edges.length
 ·rw [if_pos (by simp; try omega),if_pos hl]; rfl
 rw [if_neg (by simp; try omega),if_neg hl,CG (Jf t p g m),E7]
 ·cases hn:fst (Jf t p g m) 0 m.Nodes.length with
  | some e=>
   have:e≠0:=by
    obtain ⟨i,_,_,k,_⟩:=D8 hn
    rintro rfl
    unfold Jf at k
    split at k
    ·cases k
    ·split at k <;> cases k
   dsimp only
   rw [if_pos this]
  | none=>
   dsimp only
   rw [CG (HI p g m),E7]
   ·cases he:fst (HI p g m) 0 m.Edges.length with
    | some e=>
     have:e≠0:=by
      obtain ⟨i,_,_,k,_⟩:=D8 he
      rintro rfl
      unfold HI at k
      split at k
      ·cases k
      ·split at k
       ·cases k
       ·split at k <;> cases k
     simp only [Option.getD_some]
     rw [if_pos this]
    | none=>
     simp only [Option.getD_none,aC]
     unfold NU
     cases inj <;> cases J9 m.Nodes <;> cases J9 m.Edges <;> rfl
   intro i i1 i2 _
   unfold HI
   rw [AG i1 i2]
   simp only [bs,PU]
   by_cases h1:AA m.Edges i<0∨g.Edges.length<=AA m.Edges i
   ·rw [if_pos (by simpa using h1),if_pos h1]; rfl
   ·have hf:=gp.fit _ (AO (l:=p.Edges) i1 (by omega))
    rw [if_neg (by simpa using h1),if_neg h1,AG i1 (by omega),bs,AG (by omega) (by omega),bs]
    by_cases h2:(AA p.Edges i).Type'=(AA g.Edges (AA m.Edges i)).Type'
    ·rw [if_neg (by simpa using h2),if_neg (by simpa using h2),AG (by omega) (by omega),bs]
     by_cases h3:AA m.Nodes (AA p.Edges i).From=(AA g.Edges (AA m.Edges i)).From
     ·rw [if_neg (by simpa using h3),AG (by omega) (by omega),bs,bs]
      by_cases h4:AA m.Nodes (AA p.Edges i).To=(AA g.Edges (AA m.Edges i)).To
      ·rw [if_neg (by simpa using h4),if_neg (by simp [h3,h4])]; rfl
      ·rw [if_pos (by simpa using h4),if_pos (.inr h4)]; rfl
     ·rw [if_pos (by simpa using h3),bs,if_pos rfl,if_pos (.inl h3)]; rfl
    ·rw [if_pos (by simpa using h2),if_pos h2]; rfl
 ·intro i i1 i2 _
  unfold Jf
  rw [AG i1 i2]
  simp only [bs,PU]
  by_cases h1:AA m.Nodes i<0∨g.Nodes.length<=AA m.Nodes i
  ·rw [if_pos (by simpa using h1),if_pos h1]; rfl
  ·have kp:=tp _ (AO (l:=p.Nodes) i1 (by omega))
   have kg:=tg _ (AO (l:=g.Nodes) (show 0<=AA m.Nodes i by omega) (by omega))
   rw [if_neg (by simpa using h1),if_neg h1,AG (by omega) (by omega),bs,AG i1 (by omega),bs,Pt (GF hv) kg.1 kg.2 kp.1,bs]
   cases Hw t (AA g.Nodes (AA m.Nodes i)) (AA p.Nodes i) <;> rfl
theorem Ud {t:AD} (hf:BT t) (p g:Graph) (m:Morphism) (inj:Bool):JS t p g m inj=some (Ms t p g m inj):=by
 unfold JS Ms
 rw [QM hf,bs]
 refine HC fun hg=>?_
 rw [WW hg,bs]
theorem Vw {t:AD} {p g:Graph} {m:Morphism} {inj:Bool} (h:Ms t p g m inj=0):HF t p g=0∧ST t p g m:=by
 unfold Ms at h
 split at h
 ·rename_i h1; exact absurd h h1
 split at h
 ·rename_i h1; exact absurd h h1
 rename_i h1 h2
 exact ⟨Classical.not_not.1 h1,Ui (Classical.not_not.1 h2)⟩
end Go.Sf.Sc
namespace Go.Sf.Sc
open Go Go.Sf
section
variable {α σ ρ:Type}
def D1 (step:α->σ->CE σ ρ):List α->σ->σ ⊕ ρ
 | [],s=>.inl s
 | a::r,s=>match step a s with
  | .next s'=>D1 step r s'
  | .brk s'=>.inl s'
  | .ret r=>.inr r
theorem PO [Inhabited α] {l:List α} {f:Int->σ->Option (CE σ ρ)} (step:α->σ->CE σ ρ) (I:σ->Prop) (h:∀ (i:Int) s,0<=i->i<l.length->I s->f i s=some (step (AA l i) s)∧∀ s',step (AA l i) s=.next s'->I s') :
  ∀ (n:Nat) (a:Int) (s:σ),0<=a->a+n=l.length->I s->forGo f n a s=some (D1 step (l.drop a.toNat) s)
 | 0,a,s,h0,h1,_=>by
  rw [List.drop_eq_nil_of_le (by omega)]; rfl
 | n+1,a,s,h0,h1,hs=>by
  obtain ⟨h2,h3⟩:=h a s h0 (by omega) hs
  have hd:l.drop a.toNat=AA l a::l.drop (a+1).toNat:=by
   rw [show (a+1).toNat=a.toNat+1 by omega,List.drop_eq_getElem_cons (by omega)]
   congr 1
   unfold AA
   rw [List.getD_eq_getElem?_getD,List.getElem?_eq_getElem (by omega)]; rfl
  rw [GR,h2,hd,D1]
  cases hc:step (AA l a) s with
  | next s'=>
   simp only
   exact PO step I h n (a+1) s' (by omega) (by omega) (h3 s' hc)
  | brk s'=>rfl
  | ret r=>rfl
theorem M8 [Inhabited α] {l:List α} {f:Int->σ->Option (CE σ ρ)} (step:α->σ->CE σ ρ) (I:σ->Prop) {s:σ} (hs:I s) (h:∀ (i:Int) s,0<=i->i<l.length->I s->f i s=some (step (AA l i) s)∧∀ s',step (AA l i) s=.next s'->I s') :
  forR f 0 l.length s=some (D1 step l s):=by
 have:=PO step I h l.length 0 s (by omega) (by omega) hs
 unfold forR
 rw [show ((l.length:Int) - 0).toNat=l.length by omega]
 exact this
theorem TY [Inhabited α] (step:α->σ->CE σ ρ) (I:σ->Prop):∀ (l:List α) (s s':σ),I s->(∀ a∈l,∀ s s',I s->step a s=.next s'->I s')->(∀ a∈l,∀ s s',step a s≠.brk s')->D1 step l s=.inl s'->I s'
 | [],s,s',h,_,_,e=>by cases e; exact h
 | a::r,s,s',h,hn,hb,e=>by
  rw [D1] at e
  split at e
  ·rename_i s2 h2
   exact TY step I r s2 s' (hn a (by simp) s s2 h h2) (fun a ha=>hn a (by simp [ha])) (fun a ha=>hb a (by simp [ha])) e
  ·rename_i s2 h2; exact absurd h2 (hb a (by simp) _ _)
  ·cases e
end
def D2 (x:Term) (l:List Int):Int:=if x.Var<0 then x.Add else A1 (AA l x.Var+x.Add)
theorem PV {x:Term} {l:List Int} (h:x.Var<l.length):E2 x l=some (D2 x l):=by
 unfold E2 D2
 by_cases h0:x.Var<0
 ·rw [if_pos (by simpa using h0),if_pos h0]
 ·rw [if_neg (by simpa using h0),if_neg h0,AG (by omega) h]; rfl
theorem Ry {x:Term} {l:List Int} (h:x.Var<l.length):IQ x l=some (D2 x l):=PV h
theorem Xr {x:Term} {l:List Int} (h0:-1<=x.Var) (h:x.Var<l.length) (hl:l.length<=1000):GL x l=some (D2 x l,0):=by
 unfold GL C8
 rw [BG (by omega) (by omega),bs,if_neg (by simp; omega),PV h]; rfl
theorem QL {x:Term} {l:List Int} (h0:-1<=x.Var) (h:x.Var<l.length):HO x l=some (D2 x l,0):=by
 unfold HO
 rw [if_neg (by simp; omega),Ry h]; rfl
def H9 (x:Test) (l:List Int):Bool:=(decide (x.Kind=1)&&decide (D2 x.Left l<=D2 x.Right l))||(decide (x.Kind=2)&&decide (D2 x.Left l=D2 x.Right l))
structure H2 (n:Int) (x:Term):Prop where
 low:-1<=x.Var
 high:x.Var<n
 add:-1000000<=x.Add∧x.Add<=1000000
def MD (l:List Int):Prop:=∀ x∈l,-2000000<=x∧x<=2000000
theorem O0 {n:Int} {x:Term} (h:H2 n x) {l:List Int} (hl:MD l) (hn:n<=l.length):D2 x l=(if x.Var<0 then x.Add else AA l x.Var+x.Add)∧-3000000<=D2 x l∧D2 x l<=3000000:=by
 unfold D2
 have:=h.add
 by_cases h0:x.Var<0
 ·rw [if_pos h0,if_pos h0]; omega
 ·have hh:=h.high
  have:=hl _ (AO (l:=l) (show 0<=x.Var by omega) (by omega))
  rw [if_neg h0,if_neg h0,BG (by omega) (by omega)]; omega
theorem Rx {n:Int} {x:Term} (h:H2 n x) {l:List Int} (hn:n<=l.length):JM x l=some (D2 x l,true):=by
 have h1:=h.low
 have h2:=h.high
 unfold JM D2
 by_cases h0:x.Var=-1
 ·rw [if_pos (by simpa using h0),if_pos (by omega)]
 ·rw [if_neg (by simpa using h0),if_neg (by simp; omega),if_neg (by omega),AG (by omega) (by omega)]; rfl
theorem r_holds {n:Int} {x:Test} (h1:H2 n x.Left) (h2:H2 n x.Right) {l:List Int} (hn:n<=l.length):KM x l=some (H9 x l):=by
 unfold KM
 rw [Rx h1 hn,Rx h2 hn]; rfl
theorem R9 {a b:Int} (ha:-4000000<=a∧a<=4000000) (hb:-4000000<=b∧b<=4000000):G2 a b=some (if a+b<0 then (-1,a+b+18446744073709551616) else (0,a+b)):=by
 have hw:∀ c:Int,IntKind.u64.wrap c=c % 18446744073709551616:=fun c=>by
  simp [IntKind.wrap,IntKind.signed,IntKind.bits]
 have hs:∀ c:Int,-4000000<=c∧c<=4000000->KG .i64 .shr c 63=some (if c<0 then -1 else 0):=by
  intro c hc
  unfold KG
  have e:c.fdiv (2 ^ (min (63:Int).toNat (IntKind.bits .i64)))=if c<0 then -1 else 0:=by
   show c.fdiv (2 ^ 63)=_
   rw [Int.fdiv_eq_ediv_of_nonneg _ (by decide)]
   split <;> omega
  simp only [e]
  have:(0:Int)<=63∧IntKind.min .i64<=(if c<0 then -1 else 0)∧(if c<0 then -1 else 0)<=IntKind.max .i64:=by
   split <;> decide
  rw [if_pos this]
 unfold G2 IA
 rw [hw,hw,if_pos (by omega),bs,hs a ha,hs b hb,bs,bs]
 congr 1
 have wi:∀ c:Int,-10<=c->c<=10->A1 c=c:=fun c h1 h2=>BG (by omega) (by omega)
 have hq:(a % 18446744073709551616+b % 18446744073709551616+0) / 18446744073709551616=if a<0∧b<0 then 1 else if (a<0∨b<0)∧0<=a+b then 1 else 0:=by
  split
  ·omega
  ·split <;> omega
 have hr:(a % 18446744073709551616+b % 18446744073709551616+0) % 18446744073709551616=if a+b<0 then a+b+18446744073709551616 else a+b:=by
  split <;> omega
 rw [hq,hr]
 by_cases h1:a<0 <;> by_cases h2:b<0
 ·simp only [h1,h2,and_self,if_true]
  rw [wi _ (by decide) (by decide),wi _ (by decide) (by decide),if_pos (by omega),if_pos (by omega)]; rfl
 ·by_cases h3:a+b<0
  ·simp only [h1,h2,and_false,if_true,if_false,true_or,true_and,h3,show ¬ 0<=a+b by omega]
   rw [wi _ (by decide) (by decide),wi _ (by decide) (by decide)]; rfl
  ·simp only [h1,h2,and_false,if_true,if_false,true_or,true_and,h3,show 0<=a+b by omega]
   rw [wi _ (by decide) (by decide),wi _ (by decide) (by decide)]; rfl
 ·by_cases h3:a+b<0
  ·simp only [h1,h2,false_and,if_true,if_false,or_true,true_and,h3,show ¬ 0<=a+b by omega]
   rw [wi _ (by decide) (by decide),wi _ (by decide) (by decide)]; rfl
  ·simp only [h1,h2,false_and,if_true,if_false,or_true,true_and,h3,show 0<=a+b by omega]
   rw [wi _ (by decide) (by decide),wi _ (by decide) (by decide)]; rfl
 ·have h3:¬ a+b<0:=by omega
  simp only [h1,h2,false_and,and_self,if_false,or_self,h3]
  rw [wi _ (by decide) (by decide),wi _ (by decide) (by decide)]; rfl
def I7 (a:Int):Int × Int:=if a<0 then (-1,a+18446744073709551616) else (0,a)
theorem TF {n:Int} {x:Term} (h:H2 n x) {l:List Int} (hl:MD l) (hn:n<=l.length):FV x l=some ((I7 (D2 x l)).1,(I7 (D2 x l)).2,true):=by
 have h1:=h.low
 have h2:=h.high
 have h3:=h.add
 have hs:=(O0 h hl hn).1
 unfold FV
 by_cases h0:x.Var=-1
 ·have e:D2 x l=x.Add:=by rw [hs,if_pos (by omega)]
  rw [e,if_pos (by simpa using h0),R9 (by omega) (by omega),bs,Int.zero_add]; rfl
 ·have:=hl _ (AO (l:=l) (show 0<=x.Var by omega) (by omega))
  have e:D2 x l=AA l x.Var+x.Add:=by rw [hs,if_neg (by omega)]
  rw [e,if_neg (by simpa using h0),if_neg (by simp; omega),AG (by omega) (by omega),bs,R9 (by omega) (by omega),bs]; rfl
theorem Yr (a b:Int):H6 a b=some (if a<b then -1 else if b<a then 1 else 0):=by
 unfold H6 JB
 simp only [bs,decide_true,Bool.not_true,Bool.false_eq_true,if_false,decide_eq_true_eq]
 split
 ·rfl
 ·split <;> rfl
theorem iW (a b:Int):H7 a b=some (if a<b then -1 else if b<a then 1 else 0):=Yr a b
theorem bf (a b:Int):K7 [a,b]=some (if a=0 then b else a):=by
 unfold K7
 show thenR (forGo _ 2 0 ()) _ _=_
 rw [GR,show AI [a,b] 0=some a from rfl,bs]
 by_cases ha:a=0
 ·rw [if_neg (by simp [ha]),if_pos ha]
  show thenR (forGo _ 1 (0+1) ()) _ _=_
  rw [GR,show AI [a,b] (0+1)=some b from rfl,bs]
  by_cases hb:b=0
  ·rw [if_neg (by simp [hb]),hb]; rfl
  ·rw [if_pos (by simp [hb])]; rfl
 ·rw [if_pos (by simp [ha]),if_neg ha]; rfl
theorem p_holds {n:Int} {x:Test} (h1:H2 n x.Left) (h2:H2 n x.Right) {l:List Int} (hl:MD l) (hn:n<=l.length):GN x l=some (H9 x l):=by
 have s1:=(O0 h1 hl hn).2
 have s2:=(O0 h2 hl hn).2
 unfold GN H9
 rw [TF h1 hl hn,TF h2 hl hn]
 simp only [bs,Bool.not_true,Bool.or_self,Bool.false_eq_true,if_false,Yr,iW,bf]
 generalize D2 x.Left l=a at s1
 generalize D2 x.Right l=b at s2
 have key:(if (if (I7 a).1<(I7 b).1 then (-1:Int) else if (I7 b).1<(I7 a).1 then 1 else 0)=0 then (if (I7 a).2<(I7 b).2 then (-1:Int) else if (I7 b).2<(I7 a).2 then 1 else 0) else (if (I7 a).1<(I7 b).1 then (-1:Int) else if (I7 b).1<(I7 a).1 then 1 else 0))=if a<b then -1 else if b<a then 1 else 0:=by
  unfold I7
  by_cases ha:a<0 <;> by_cases hb:b<0 <;> simp only [ha,hb,if_true,if_false] <;> (repeat' split) <;> omega
 rw [key]
 congr 2
 ·congr 1
  rw [decide_eq_decide]
  repeat' split
  all_goals omega
 ·congr 1
  rw [decide_eq_decide]
  repeat' split
  all_goals omega
end Go.Sf.Sc
namespace Go.Sf.Sc
open Go Go.Sf
structure O2 (t:AD) (q:Pattern):Prop where
 g:JL q.Graph
 kind:∀ n∈q.Graph.Nodes,0<=n∧n<t.Nodes.length
 vars:0<=q.Vars∧q.Vars<=12
 few:q.Slots.length<=10∧q.Tests.length<=10
 slot:∀ s∈q.Slots,(0<=s.Node∧s.Node<q.Graph.Nodes.length)∧(0<=s.Attr∧s.Attr<(A8 t (AA q.Graph.Nodes s.Node)).length)∧H2 q.Vars s.Term
 test:∀ x∈q.Tests,(x.Kind=1∨x.Kind=2)∧H2 q.Vars x.Left∧H2 q.Vars x.Right
 ge:C5 q.Graph=0
 ty:FG t q.Graph=true
theorem Tf {n:Int} {x:Term} (h:LP n x=true):H2 n x:=by
 unfold LP at h
 simp only [Bool.and_eq_true,decide_eq_true_eq] at h
 exact ⟨h.1.1.1,h.1.1.2,h.1.2,h.2⟩
theorem Yi {n:Int} {l:List Test} (h:JI n l=0):∀ x∈l,(x.Kind=1∨x.Kind=2)∧H2 n x.Left∧H2 n x.Right:=by
 unfold JI at h
 split at h
 ·cases h
 split at h
 ·cases h
 have h2:=Sv h
 intro x hx
 obtain ⟨i,i0,i1,rfl⟩:=FE hx
 have:=h2 i i0 i1
 unfold L0 at this
 split at this
 ·cases this
 split at this
 ·rename_i h3 h4
  rw [Bool.and_eq_true] at h4
  exact ⟨by omega,Tf h4.1,Tf h4.2⟩
 ·cases this
theorem Vj (n:Int) (l:List Test):JI n l≠9:=by
 unfold JI
 split
 ·decide
 split
 ·decide
 intro h
 cases hr:fst (fun i=>nz (L0 n (AA l i))) 0 l.length with
 | none=>rw [hr] at h; cases h
 | some r=>
  rw [hr] at h
  obtain ⟨i,_,_,k,_⟩:=D8 hr
  simp only [Option.getD_some] at h
  subst h
  unfold nz L0 at k
  split at k
  ·cases k
  ·rename_i hne
   split at k
   ·cases k
   ·split at k <;> cases k
theorem VN {t:AD} {q:Pattern} (hv:(BA t).2=0) (h:Jm t q=0∨Jm t q=9):O2 t q:=by
 have hg9:=Qn q.Graph
 unfold Jm at h
 rw [if_neg (by simp [hv])] at h
 split at h
 ·omega
 rename_i h1
 have g:=FA (Classical.not_not.1 h1)
 split at h
 ·omega
 rename_i h2
 split at h
 ·omega
 rename_i h3
 split at h
 ·omega
 rename_i h4
 split at h
 ·omega
 rename_i h5
 split at h
 ·rename_i h6
  have:=Vj q.Vars q.Tests
  omega
 rename_i h6
 refine ⟨g,(Lj g (by simpa using h2)).1,by omega,by omega,fun s hs=>?_,Yi (Classical.not_not.1 h6),Classical.not_not.1 h1,by simpa using h2⟩
 have hb:N4 t q s=false:=by
  rw [Bool.not_eq_true,List.any_eq_false] at h5
  simpa using h5 s hs
 unfold N4 at hb
 simp only [Bool.or_eq_false_iff,Bool.not_eq_false',decide_eq_false_iff_not] at hb
 obtain ⟨⟨⟨b1,b2⟩,b3⟩,b4,b5⟩:=hb
 unfold M5 at b1
 dsimp only at b1
 split at b1
 ·cases b1
 rename_i c1
 have hk:=(Lj g (by simpa using h2)).1 _ (AO (l:=q.Graph.Nodes) (show 0<=s.Node by omega) (by omega))
 rw [PI hv hk.1 hk.2] at b1
 split at b1
 ·cases b1
 rename_i c2
 have c2:¬ (s.Attr<0∨((A8 t (AA q.Graph.Nodes s.Node)).length:Int)<=s.Attr):=c2
 exact ⟨by omega,by omega,by omega,by omega,by omega,by omega⟩
def KA (h:AZ) (m:Morphism) (s:DP):Int:=AA (AA h.Values (AA m.Nodes s.Node)) s.Attr
def Lz (h:AZ) (m:Morphism) (s:DP) (st:List Int × List Bool):List Int × List Bool:=
 if 0<=s.Term.Var∧AA st.2 s.Term.Var=false then (CS st.1 s.Term.Var (A1 (KA h m s - s.Term.Add)),CS st.2 s.Term.Var true) else st
def FN {ρ:Type} (r:ρ) (h:AZ) (m:Morphism) (s:DP) (st:List Int × List Bool):CE (List Int × List Bool) ρ:=
 if D2 s.Term (Lz h m s st).1=KA h m s then .next (Lz h m s st) else .ret r
structure VI (n:Int) (st:List Int × List Bool):Prop where
 l1:(st.1.length:Int)=n
 l2:(st.2.length:Int)=n
 small:MD st.1
structure IZ (n:Int) (h:AZ) (m:Morphism) (s:DP):Prop where
 node:0<=s.Node∧s.Node<m.Nodes.length
 val:0<=AA m.Nodes s.Node∧AA m.Nodes s.Node<h.Values.length
 attr:0<=s.Attr∧s.Attr<(AA h.Values (AA m.Nodes s.Node)).length
 term:H2 n s.Term
 has:-1000000<=KA h m s∧KA h m s<=1000000
theorem Mk {t:AD} (ht:G1 t) {q:Pattern} {h:AZ} {m:Morphism} (hq:O2 t q) (hh:I8 t h) (hm:ST t q.Graph h.Graph m) {s:DP} (hs:s∈q.Slots):IZ q.Vars h m s:=by
 obtain ⟨h1,h2,h3⟩:=hq.slot s hs
 have hl:=hm.nlen
 have hn:=hm.node s.Node h1.1 (by omega)
 have hr:=hh.row _ hn.1.1 hn.1.2
 have hk:=hh.kind _ hn.1.1 hn.1.2
 have hb:=V3 ht hk.2 hn.2
 have hv:=hh.len
 refine ⟨by omega,by omega,by omega,h3,?_⟩
 unfold KA
 exact hh.low _ hn.1.1 hn.1.2 _ (AO h2.1 (by omega))
theorem Ox {α:Type} (l:List α) (i:Int) (a:α):(CS l i a).length=l.length:=by unfold CS; rw [List.length_set]
theorem YE {α:Type} {l:List α} {i:Int} {a x:α} (h:x∈CS l i a):x∈l∨x=a:=List.mem_or_eq_of_mem_set h
theorem Wk {n:Int} {h:AZ} {m:Morphism} {s:DP} (hs:IZ n h m s) {st:List Int × List Bool} (hi:VI n st):VI n (Lz h m s st):=by
 have h1:=hs.has
 have h2:=hs.term.add
 unfold Lz
 split
 ·refine ⟨by rw [Ox]; exact hi.l1,by rw [Ox]; exact hi.l2,fun x hx=>?_⟩
  rcases YE hx with hx | rfl
  ·exact hi.small x hx
  ·rw [BG (by omega) (by omega)]; omega
 ·exact hi
def LO (q:Pattern) (h:AZ) (m:Morphism):List Int × Int:=
 match D1 (FN (([],11):List Int × Int) h m) q.Slots (List.replicate q.Vars.toNat 0,List.replicate q.Vars.toNat false) with
 | .inr r=>r
 | .inl st=>if anyR (fun i=>!H9 (AA q.Tests i) st.1) 0 q.Tests.length=true then ([],16) else (st.1,0)
theorem Nw {n:Int} (h0:0<=n):VI n (List.replicate n.toNat 0,List.replicate n.toNat false):=by
 refine ⟨by simp; omega,by simp; omega,fun x hx=>?_⟩
 rw [List.mem_replicate] at hx
 omega
theorem MB {ρ:Type} {r:ρ} {n:Int} {h:AZ} {m:Morphism} {s:DP} (hs:IZ n h m s) {st st':List Int × List Bool} (hi:VI n st) (e:FN r h m s st=.next st'):VI n st':=by
 unfold FN at e
 split at e
 ·cases e; exact Wk hs hi
 ·cases e
theorem Wl {ρ:Type} {r:ρ} {h:AZ} {m:Morphism} {s:DP} {st st':List Int × List Bool}:FN r h m s st≠.brk st':=by
 unfold FN
 split <;> simp
theorem Lh {ρ:Type} {r:ρ} {n:Int} {h:AZ} {m:Morphism} {l:List DP} (hs:∀ s∈l,IZ n h m s) {st st':List Int × List Bool} (hi:VI n st) (e:D1 (FN r h m) l st=.inl st'):VI n st':=
 TY (FN r h m) (VI n) l st st' hi (fun a ha _ _ h1 h2=>MB (hs a ha) h1 h2) (fun _ _ _ _=>Wl) e
theorem MZ {ρ:Type} {r:ρ} {n:Int} {h:AZ} {m:Morphism} {s:DP} (hs:IZ n h m s) {st:List Int × List Bool} (hi:VI n st) {T:List Int × List Bool->Option (CE (List Int × List Bool) ρ)}
  (h1:∀ st':List Int × List Bool,(st'.1.length:Int)=n->T st'=some (if D2 s.Term st'.1=KA h m s then .next st' else .ret r)) :
  ((if (decide (0<=s.Term.Var))=true then ((AI st.2 s.Term.Var).bind fun x51=>some (!x51)) else some false).bind fun x54=>
   if x54=true then (AI st.1 s.Term.Var).bind fun _=>(AI st.2 s.Term.Var).bind fun _=>T (CS st.1 s.Term.Var (A1 (KA h m s - s.Term.Add)),CS st.2 s.Term.Var true) else T (st.1,st.2))=some (FN r h m s st):=by
 have hl:=hs.term.high
 have l1:=hi.l1
 have l2:=hi.l2
 unfold FN
 by_cases h0:0<=s.Term.Var
 ·rw [if_pos (by simpa using h0),AG h0 (by omega),bs,bs]
  by_cases hk:AA st.2 s.Term.Var=false
  ·rw [if_pos (by simp [hk]),AG h0 (by omega),bs,bs,h1 _ (by dsimp only; rw [Ox]; exact l1)]
   have e:Lz h m s st=(CS st.1 s.Term.Var (A1 (KA h m s - s.Term.Add)),CS st.2 s.Term.Var true):=by unfold Lz; rw [if_pos ⟨h0,hk⟩]
   rw [e]
  ·rw [if_neg (by simpa using hk),h1 _ l1]
   have e:Lz h m s st=st:=by unfold Lz; rw [if_neg (fun e=>hk e.2)]
   rw [e]
 ·rw [if_neg (by simpa using h0),bs,if_neg (by decide),h1 _ l1]
  have e:Lz h m s st=st:=by unfold Lz; rw [if_neg (fun e=>h0 e.1)]
  rw [e]
theorem T8 {ρ:Type} {r:ρ} {n:Int} {h:AZ} {m:Morphism} {s:DP} (hs:IZ n h m s) {st:List Int × List Bool} (hi:VI n st) {T:List Int × List Bool->Option (CE (List Int × List Bool) ρ)}
  (h1:∀ st':List Int × List Bool,(st'.1.length:Int)=n->T st'=some (if D2 s.Term st'.1=KA h m s then .next st' else .ret r)) :
  ((if (decide (0<=s.Term.Var))=true then ((AI st.2 s.Term.Var).bind fun x51=>some (!x51)) else some false).bind fun x54=>
   if x54=true then (AI st.2 s.Term.Var).bind fun _=>(AI st.1 s.Term.Var).bind fun _=>T (CS st.1 s.Term.Var (A1 (KA h m s - s.Term.Add)),CS st.2 s.Term.Var true) else T (st.1,st.2))=some (FN r h m s st):=by
 rw [←MZ hs hi h1]
 have hl:=hs.term.high
 have l1:=hi.l1
 have l2:=hi.l2
 by_cases h0:0<=s.Term.Var
 ·rw [AG h0 (by omega),AG h0 (by omega)]; rfl
 ·rw [if_neg (by simpa using h0)]; rfl
theorem R3 {t:Term} {n v:Int} {f:Term->List Int->Option Int} (hf:∀ l:List Int,(l.length:Int)=n->f t l=some (D2 t l)) (st':List Int × List Bool) (hl:(st'.1.length:Int)=n):((f t st'.1).bind fun x69=>if (!decide (x69=v))=true then some (CE.ret (([],11):List Int × Int)) else some (.next st'))=some (if D2 t st'.1=v then .next st' else .ret ([],11)):=by
 rw [hf _ hl,bs]
 by_cases e:D2 t st'.1=v
 ·rw [if_neg (by simp [e]),if_pos e]
 ·rw [if_pos (by simp [e]),if_neg e]
theorem Z5 {q:Pattern} {h:AZ} {m:Morphism} {t:AD} (hq:O2 t q) (hs:∀ s∈q.Slots,IZ q.Vars h m s):H3 q h m=some (LO q h m):=by
 have hv:=hq.vars
 unfold H3 LO KK
 rw [if_pos (by omega),bs,if_pos (by omega),bs]
 rw [M8 (FN (([],11):List Int × Int) h m) (VI q.Vars) (Nw hv.1)]
 ·cases hr:D1 (FN (([],11):List Int × Int) h m) q.Slots (List.replicate q.Vars.toNat 0,List.replicate q.Vars.toNat false) with
  | inr r=>rfl
  | inl st=>
   have hi:=Lh hs (Nw hv.1) hr
   rw [DT,B2 (fun i=>!H9 (AA q.Tests i) st.1) ([],16)]
   ·dsimp only
    cases anyR (fun i=>!H9 (AA q.Tests i) st.1) 0 q.Tests.length <;> rfl
   ·intro i i0 i1 _
    have hx:=hq.test _ (AO i0 i1)
    rw [AG i0 i1,bs,p_holds hx.2.1 hx.2.2 hi.small (by have:=hi.l1; omega),bs]
    cases H9 (AA q.Tests i) st.1 <;> rfl
 ·intro i st i0 i1 hi
  have ha:=hs _ (AO i0 i1)
  refine ⟨?_,fun s' e=>MB ha hi e⟩
  rw [AG i0 i1,bs,AG ha.node.1 ha.node.2,bs,AG ha.val.1 ha.val.2,bs,AG ha.attr.1 ha.attr.2,bs]
  exact MZ ha hi (T:=fun st'=>(E2 (AA q.Slots i).Term st'.1).bind fun x69=>if (!decide (x69=KA h m (AA q.Slots i)))=true then some (CE.ret (([],11):List Int × Int)) else some (.next st')) (R3 fun l hl=>PV (by have:=ha.term.high; omega))
theorem aH {q:Pattern} {h:AZ} {m:Morphism} {t:AD} (hq:O2 t q) (hs:∀ s∈q.Slots,IZ q.Vars h m s):Jq q h m=some (LO q h m):=by
 have hv:=hq.vars
 unfold Jq LO KK
 rw [if_pos (by omega),bs,if_pos (by omega),bs]
 rw [M8 (FN (([],11):List Int × Int) h m) (VI q.Vars) (Nw hv.1)]
 ·cases hr:D1 (FN (([],11):List Int × Int) h m) q.Slots (List.replicate q.Vars.toNat 0,List.replicate q.Vars.toNat false) with
  | inr r=>rfl
  | inl st=>
   have hi:=Lh hs (Nw hv.1) hr
   rw [DT,B2 (fun i=>!H9 (AA q.Tests i) st.1) ([],16)]
   ·dsimp only
    cases anyR (fun i=>!H9 (AA q.Tests i) st.1) 0 q.Tests.length <;> rfl
   ·intro i i0 i1 _
    have hx:=hq.test _ (AO i0 i1)
    rw [AG i0 i1,bs,r_holds hx.2.1 hx.2.2 (by have:=hi.l1; omega),bs]
    cases H9 (AA q.Tests i) st.1 <;> rfl
 ·intro i st i0 i1 hi
  have ha:=hs _ (AO i0 i1)
  refine ⟨?_,fun s' e=>MB ha hi e⟩
  rw [AG i0 i1,bs,AG ha.node.1 ha.node.2,bs,AG ha.val.1 ha.val.2,bs,AG ha.attr.1 ha.attr.2,bs]
  exact T8 ha hi (T:=fun st'=>(IQ (AA q.Slots i).Term st'.1).bind fun x69=>if (!decide (x69=KA h m (AA q.Slots i)))=true then some (CE.ret (([],11):List Int × Int)) else some (.next st')) (R3 fun l hl=>Ry (by have:=ha.term.high; omega))
def NI (t:AD) (p:Pattern) (h:AZ):Int:=if Jm t p≠0 then Jm t p else (MU t h).2
theorem WD {t:AD} (hf:BT t) (p:Pattern) (h:AZ):E1 t p h=some (NI t p h):=by
 unfold E1 NI
 rw [SM hf,bs]
 refine HC fun _=>?_
 rw [WE hf]; rfl
theorem WS {t:AD} (hf:BT t) (p:Pattern) (h:AZ):KT t p h=some (NI t p h):=by
 unfold KT NI
 rw [VP hf,bs]
 refine HC fun _=>?_
 rw [WT hf]; rfl
def LN (t:AD) (p:Pattern) (h:AZ) (m:Morphism):List Int × Int:=
 if NI t p h≠0 then ([],NI t p h) else if Ms t p.Graph h.Graph m false≠0 then ([],Ms t p.Graph h.Graph m false) else LO p h m
theorem P8 {t:AD} (hf:BT t) {p:Pattern} {h:AZ} {m:Morphism} {inj:Bool} (h1:NI t p h=0) (h2:Ms t p.Graph h.Graph m inj=0):(BA t).2=0∧O2 t p∧I8 t h∧ST t p.Graph h.Graph m:=by
 unfold NI at h1
 split at h1
 ·rename_i h3; exact absurd h1 h3
 rename_i h3
 obtain ⟨hv,hh⟩:=UP hf h1
 exact ⟨hv,VN hv (.inl (Classical.not_not.1 h3)),hh,(Vw h2).2⟩
theorem Zx {t:AD} (hf:BT t) (p:Pattern) (h:AZ) (m:Morphism):E0 t p h m=some (LN t p h m):=by
 unfold E0 LN
 rw [WD hf,bs]
 refine JW fun h1=>?_
 rw [UY hf,bs]
 refine JW fun h2=>?_
 obtain ⟨hv,hq,hh,hm⟩:=P8 hf h1 h2
 rw [Z5 hq (fun s hs=>Mk (GF hv) hq hh hm hs)]; rfl
theorem Z9 {t:AD} (hf:BT t) (p:Pattern) (h:AZ) (m:Morphism):KS t p h m=some (LN t p h m):=by
 unfold KS LN
 rw [WS hf,bs]
 refine JW fun h1=>?_
 rw [Ud hf,bs]
 refine JW fun h2=>?_
 obtain ⟨hv,hq,hh,hm⟩:=P8 hf h1 h2
 rw [aH hq (fun s hs=>Mk (GF hv) hq hh hm hs)]; rfl
theorem Wm {t:AD} {q:Pattern} {h:AZ} {m:Morphism} (hq:O2 t q) (hs:∀ s∈q.Slots,IZ q.Vars h m s) (e:(LO q h m).2=0):((LO q h m).1.length:Int)=q.Vars∧MD (LO q h m).1:=by
 unfold LO at e ⊢
 cases hr:D1 (FN (([],11):List Int × Int) h m) q.Slots (List.replicate q.Vars.toNat 0,List.replicate q.Vars.toNat false) with
 | inr r=>
  rw [hr] at e
  have:∀ (l:List DP) (st:List Int × List Bool) (r:List Int × Int),D1 (FN (([],11):List Int × Int) h m) l st=.inr r->r=([],11):=by
   intro l
   induction l with
   | nil=>intro st r h; cases h
   | cons a l ih=>
    intro st r h
    rw [D1] at h
    split at h
    ·exact ih _ _ h
    ·cases h
    ·rename_i r' h'
     cases h
     unfold FN at h'
     split at h'
     ·cases h'
     ·cases h'; rfl
  rw [this _ _ _ hr] at e
  cases e
 | inl st=>
  rw [hr] at e
  have hi:=Lh hs (Nw hq.vars.1) hr
  dsimp only at e ⊢
  split at e
  ·cases e
  ·rename_i h1
   rw [if_neg h1]
   exact ⟨hi.l1,hi.small⟩
end Go.Sf.Sc
namespace Go.Sf.Sc
open Go Go.Sf
theorem R2 {n:Nat} {α:Type} [Inhabited α] (F:Int->α) {i:Int} (h0:0<=i) (v:α):CS ((BS n).map F) i v=(BS n).map fun j=>if j=i then v else F j:=by
 unfold CS
 refine List.ext_getElem (by simp) (fun k k1 k2=>?_)
 have hk:k<n:=by simpa [EA] using k2
 rw [List.getElem_set]
 have e:(BS n)[k]'(by rw [EA]; exact hk)=(k:Int):=by simp [BS]
 simp only [List.getElem_map,e]
 by_cases h:i.toNat=k
 ·rw [if_pos h,if_pos (by omega)]
 ·rw [if_neg h,if_neg (by omega)]
theorem Ma {n:Nat} {α:Type} {F G:Int->α} (h:∀ j,0<=j->j<(n:Int)->F j=G j):(BS n).map F=(BS n).map G:=List.map_congr_left fun j hj=>h j (I5.1 hj).1 (I5.1 hj).2
def HH (n:Nat) (k:Int):List Bool:=(BS n).map fun j=>decide (j<k)
theorem Qq (n:Nat):HH n 0=List.replicate n false:=by
 unfold HH
 refine List.ext_getElem (by simp [EA]) (fun k k1 k2=>?_)
 have hk:k<n:=by simpa using k2
 have e:(BS n)[k]'(by rw [EA]; exact hk)=(k:Int):=by simp [BS]
 simp only [List.getElem_map,e,List.getElem_replicate,decide_eq_false_iff_not]
 omega
theorem Rm (n:Nat) (k:Int):(HH n k).length=n:=by unfold HH; rw [List.length_map,EA]
def Kh (q:Pattern) (h:AZ) (m:Morphism) (given:List Int):List Int × Bool:=
 match D1 (FN (([],false):List Int × Bool) h m) q.Slots (given++List.replicate (q.Vars - given.length).toNat 0,HH q.Vars.toNat given.length) with
 | .inr r=>r
 | .inl st=>if anyR (fun i=>!H9 (AA q.Tests i) st.1) 0 q.Tests.length=true then ([],false) else (st.1,true)
theorem QR {n:Int} {given:List Int} (h0:0<=n) (hg:given.length<=n) (hv:MD given):VI n (given++List.replicate (n - given.length).toNat 0,HH n.toNat given.length):=by
 refine ⟨by simp; omega,by show ((HH n.toNat given.length).length:Int)=n; rw [Rm]; omega,fun x hx=>?_⟩
 rcases List.mem_append.1 hx with hx | hx
 ·exact hv x hx
 ·rw [List.mem_replicate] at hx
  omega
theorem cO {s:AP} {q:Pattern} {m:Morphism} {t:AD} {given:List Int} (hq:O2 t q) (hs:∀ x∈q.Slots,IZ q.Vars s.h m x) (hg:given.length<=q.Vars) (hv:MD given):EJ s q m given=some (Kh q s.h m given):=by
 have hn:=hq.vars
 unfold EJ Kh slices_Clone_int
 rw [Hh (by unfold BZ; omega),bs,BG (by omega) (by omega)]
 have ea:QB given (q.Vars - given.length) 0=some (given++List.replicate (q.Vars - given.length).toNat 0):=by
  unfold QB
  rw [if_pos ⟨by omega,by unfold BZ; omega⟩]
 have em:KK q.Vars false=some (List.replicate q.Vars.toNat false):=by
  unfold KK
  rw [if_pos (by omega)]
 rw [ea,bs,em,bs]
 have ek:forA (fun (i0:Int) (s0:List Bool)=>(AI s0 i0).bind fun x39=>some (CS s0 i0 true)) 0 (given.length:Int) (List.replicate q.Vars.toNat false)=some (HH q.Vars.toNat given.length):=by
  refine Hb (fun i=>HH q.Vars.toNat i) (by omega) (Qq _) (fun i i0 i1=>?_)
  rw [AG i0 (by rw [Rm]; omega),bs]
  congr 1
  unfold HH
  rw [R2 _ i0]
  refine Ma (fun j j0 j1=>?_)
  by_cases e:j=i
  ·rw [if_pos e,e]; simp; omega
  ·rw [if_neg e,decide_eq_decide]; omega
 rw [ek,bs]
 have hi0:=QR hn.1 hg hv
 rw [M8 (FN (([],false):List Int × Bool) s.h m) (VI q.Vars) hi0]
 ·cases hr:D1 (FN (([],false):List Int × Bool) s.h m) q.Slots (given++List.replicate (q.Vars - given.length).toNat 0,HH q.Vars.toNat given.length) with
  | inr r=>rfl
  | inl st=>
   have hi:=Lh hs hi0 hr
   rw [DT,B2 (fun i=>!H9 (AA q.Tests i) st.1) ([],false)]
   ·dsimp only
    cases anyR (fun i=>!H9 (AA q.Tests i) st.1) 0 q.Tests.length <;> rfl
   ·intro i i0 i1 _
    have hx:=hq.test _ (AO i0 i1)
    rw [AG i0 i1,bs,p_holds hx.2.1 hx.2.2 hi.small (by have:=hi.l1; omega),bs]
    cases H9 (AA q.Tests i) st.1 <;> rfl
 ·intro i st i0 i1 hi
  have ha:=hs _ (AO i0 i1)
  refine ⟨?_,fun s' e=>MB ha hi e⟩
  rw [AG i0 i1,bs,AG ha.node.1 ha.node.2,bs,AG ha.val.1 ha.val.2,bs,AG ha.attr.1 ha.attr.2,bs]
  refine MZ ha hi (T:=fun st'=>(GL (AA q.Slots i).Term st'.1).bind fun x90=>if ((!decide (x90.2=0))||(!decide (x90.1=KA s.h m (AA q.Slots i))))=true then some (CE.ret (([],false):List Int × Bool)) else some (.next st')) (fun st' hl=>?_)
  rw [Xr ha.term.low (by have:=ha.term.high; omega) (by omega),bs]
  by_cases e:D2 (AA q.Slots i).Term st'.1=KA s.h m (AA q.Slots i)
  ·rw [if_neg (by simp [e]),if_pos e]
  ·rw [if_pos (by simp [e]),if_neg e]
theorem cb {h:AZ} {q:Pattern} {m:Morphism} {t:AD} {given:List Int} (hq:O2 t q) (hs:∀ x∈q.Slots,IZ q.Vars h m x) (hg:given.length<=q.Vars) (hv:MD given):Js q h m given=some (Kh q h m given):=by
 have hn:=hq.vars
 unfold Js Kh
 have em:KK q.Vars false=some (List.replicate q.Vars.toNat false):=by
  unfold KK
  rw [if_pos (by omega)]
 rw [Hh (by unfold BZ; omega),bs,em,bs]
 have ek:forA (fun (i0:Int) (s0:List Int × List Bool)=>
   (AI s0.2 i0).bind fun x42=>
   if (decide ((given.length:Int)<=i0))=true then
   (CO s0.1 [0]).bind fun x49=>
   some (x49,CS s0.2 i0 (decide (i0<(given.length:Int))))
   else
   some (s0.1,CS s0.2 i0 (decide (i0<(given.length:Int))))) 0 q.Vars (given,List.replicate q.Vars.toNat false)=some (given++List.replicate (q.Vars - given.length).toNat 0,(BS q.Vars.toNat).map fun j=>decide (j<q.Vars)&&decide (j<(given.length:Int))):=by
  refine Hb (fun i=>(given++List.replicate (i - given.length).toNat 0,(BS q.Vars.toNat).map fun j=>decide (j<i)&&decide (j<(given.length:Int)))) hn.1 ?_ (fun i i0 i1=>?_)
  ·have e1:((0:Int) - given.length).toNat=0:=by omega
   rw [e1]
   simp only [List.replicate_zero,List.append_nil,Prod.mk.injEq,true_and]
   rw [←Qq]
   unfold HH
   refine Ma (fun j j0 j1=>?_)
   rw [show decide (j<0)=false by simp; omega]; rfl
  ·dsimp only
   rw [AG i0 (by rw [List.length_map,EA]; omega),bs]
   have e2:CS ((BS q.Vars.toNat).map fun j=>decide (j<i)&&decide (j<(given.length:Int))) i (decide (i<(given.length:Int)))=(BS q.Vars.toNat).map fun j=>decide (j<i+1)&&decide (j<(given.length:Int)):=by
    rw [R2 _ i0]
    refine Ma (fun j j0 j1=>?_)
    by_cases e:j=i
    ·rw [if_pos e,e,show decide (i<i+1)=true by simp; omega,Bool.true_and]
    ·rw [if_neg e]; congr 1; rw [decide_eq_decide]; omega
   rw [e2]
   by_cases hi:(given.length:Int)<=i
   ·rw [if_pos (by simpa using hi),DG (by simp; unfold BZ; omega),bs]
    congr 2
    rw [List.append_assoc,show (i+1 - given.length).toNat=(i - given.length).toNat+1 by omega,List.replicate_succ']
   ·rw [if_neg (by simpa using hi)]
    have e3:(i+1 - given.length).toNat=(i - given.length).toNat:=by omega
    rw [e3]
 have ek2:((BS q.Vars.toNat).map fun j=>decide (j<q.Vars)&&decide (j<(given.length:Int)))=HH q.Vars.toNat given.length:=by
  unfold HH
  refine Ma (fun j j0 j1=>?_)
  rw [show decide (j<q.Vars)=true by simp; omega,Bool.true_and]
 rw [ek2] at ek
 rw [ek,bs]
 have hi0:=QR hn.1 hg hv
 dsimp only
 rw [M8 (FN (([],false):List Int × Bool) h m) (VI q.Vars) hi0]
 ·cases hr:D1 (FN (([],false):List Int × Bool) h m) q.Slots (given++List.replicate (q.Vars - given.length).toNat 0,HH q.Vars.toNat given.length) with
  | inr r=>rfl
  | inl st=>
   have hi:=Lh hs hi0 hr
   rw [DT,B2 (fun i=>!H9 (AA q.Tests i) st.1) ([],false)]
   ·dsimp only
    cases anyR (fun i=>!H9 (AA q.Tests i) st.1) 0 q.Tests.length <;> rfl
   ·intro i i0 i1 _
    have hx:=hq.test _ (AO i0 i1)
    have hl:=hi.l1
    rw [AG i0 i1,bs,QL hx.2.1.low (by have:=hx.2.1.high; omega),bs,QL hx.2.2.low (by have:=hx.2.2.high; omega),bs,←Ig]
    unfold H9
    dsimp only
    congr 1
    generalize D2 (AA q.Tests i).Left st.1=a
    generalize D2 (AA q.Tests i).Right st.1=b
    rcases hx.1 with e | e
    ·rw [e,eq_iff_iff]; simp
    ·rw [e,eq_iff_iff]; simp
 ·intro i st i0 i1 hi
  have ha:=hs _ (AO i0 i1)
  refine ⟨?_,fun s' e=>MB ha hi e⟩
  rw [AG i0 i1,bs,AG ha.node.1 ha.node.2,bs,AG ha.val.1 ha.val.2,bs,AG ha.attr.1 ha.attr.2,bs]
  refine MZ ha hi (T:=fun st'=>(HO (AA q.Slots i).Term st'.1).bind fun x108=>if (!decide (x108.1=KA h m (AA q.Slots i)))=true then some (CE.ret (([],false):List Int × Bool)) else some (.next st')) (fun st' hl=>?_)
  rw [QL ha.term.low (by have:=ha.term.high; omega),bs]
  by_cases e:D2 (AA q.Slots i).Term st'.1=KA h m (AA q.Slots i)
  ·rw [if_neg (by simp [e]),if_pos e]
  ·rw [if_pos (by simp [e]),if_neg e]
theorem Yl {t:AD} {q:Pattern} {h:AZ} {m:Morphism} {given:List Int} (hq:O2 t q) (hs:∀ s∈q.Slots,IZ q.Vars h m s) (hg:given.length<=q.Vars) (hv:MD given) (e:(Kh q h m given).2=true):((Kh q h m given).1.length:Int)=q.Vars∧MD (Kh q h m given).1:=by
 unfold Kh at e ⊢
 have hi0:=QR hq.vars.1 hg hv
 cases hr:D1 (FN (([],false):List Int × Bool) h m) q.Slots (given++List.replicate (q.Vars - given.length).toNat 0,HH q.Vars.toNat given.length) with
 | inr r=>
  rw [hr] at e
  have:∀ (l:List DP) (st:List Int × List Bool) (r:List Int × Bool),D1 (FN (([],false):List Int × Bool) h m) l st=.inr r->r=([],false):=by
   intro l
   induction l with
   | nil=>intro st r h; cases h
   | cons a l ih=>
    intro st r h
    rw [D1] at h
    split at h
    ·exact ih _ _ h
    ·cases h
    ·rename_i r' h'
     cases h
     unfold FN at h'
     split at h'
     ·cases h'
     ·cases h'; rfl
  rw [this _ _ _ hr] at e
  cases e
 | inl st=>
  rw [hr] at e
  have hi:=Lh hs hi0 hr
  dsimp only at e ⊢
  split at e
  ·cases e
  ·rename_i h1
   rw [if_neg h1]
   exact ⟨hi.l1,hi.small⟩
def PW (n:Nat) (by' images:List Int):List Int:=(BS by'.length).foldl (fun l i=>CS l (AA by' i) (AA images i)) (List.replicate n (-1))
theorem RZ (by' images:List Int):∀ (ks:List Int) (l:List Int),(ks.foldl (fun l i=>CS l (AA by' i) (AA images i)) l).length=l.length
 | [],l=>rfl
 | k::ks,l=>by rw [List.foldl_cons,RZ by' images ks,Ox]
theorem Q0 {n:Nat} {by' images:List Int} (hb:∀ x∈by',0<=x∧x<n) (hl:by'.length<=images.length):forA (fun (i0:Int) (s0:List Int)=>
  (AI by' i0).bind fun x18=>
  (AI images i0).bind fun x24=>
  (AI s0 x18).bind fun x26=>
  some (CS s0 x18 x24)) 0 (by'.length:Int) (List.replicate n (-1))=some (PW n by' images):=by
 have h:=Hb (f:=fun (i0:Int) (s0:List Int)=>
  (AI by' i0).bind fun x18=>
  (AI images i0).bind fun x24=>
  (AI s0 x18).bind fun x26=>
  some (CS s0 x18 x24)) (fun i=>(BS i.toNat).foldl (fun l i=>CS l (AA by' i) (AA images i)) (List.replicate n (-1))) (a:=0) (b:=by'.length) (s:=List.replicate n (-1)) (by omega) rfl (fun i i0 i1=>by
   have hx:=hb _ (AO i0 i1)
   rw [AG i0 i1,bs,AG i0 (by omega),bs,AG hx.1 (by rw [RZ]; simpa using hx.2),bs,J4 i0,List.foldl_append]; rfl)
 rw [h,Int.toNat_natCast]; rfl
theorem TI {n:Nat} {by' images:List Int} (hn:n<=1000) (hb:∀ x∈by',0<=x∧x<n) (hl:by'.length<=images.length):GM n by' images=some (PW n by' images):=by
 unfold GM HK
 rw [if_pos ⟨rfl,by omega,by omega⟩,bs]
 show (forA _ 0 _ (List.replicate (n:Int).toNat (-1))).bind _=_
 rw [Int.toNat_natCast,Q0 hb hl]; rfl
theorem TO {n:Nat} {by' images:List Int} (hn:n<=1000) (hb:∀ x∈by',0<=x∧x<n) (hl:by'.length<=images.length):Ik n by' images=some (PW n by' images):=by
 unfold Ik
 rw [Hb (a:=0) (b:=n) (s:=[]) (fun i=>List.replicate i.toNat (-1)) (by omega) rfl,bs,Int.toNat_natCast,Q0 hb hl]
 ·rfl
 ·intro i i0 i1
  rw [DG (by simp; unfold BZ; omega),bs,show (i+1).toNat=i.toNat+1 by omega,List.replicate_succ']
end Go.Sf.Sc
namespace Go.Sf.Sc
open Go Go.Sf
structure Yo (f:AJ):Prop where
 nl:f.nodes.length<=f.p.Nodes.length
 node:∀ i:Int,0<=i->i<f.nodes.length->(0<=AA f.nodes i∧AA f.nodes i<f.g.Nodes.length)∧AA (AA f.is (AA f.p.Nodes i)) (AA f.g.Nodes (AA f.nodes i))=true
 edge:∀ i:Int,0<=i->i<f.edges.length->(0<=AA f.edges i∧AA f.edges i<f.g.Edges.length)∧AA f.g.Edges (AA f.edges i)=⟨(AA f.p.Edges i).Type',AA f.nodes (AA f.p.Edges i).From,AA f.nodes (AA f.p.Edges i).To⟩
 inj:f.injective=true->f.nodes.Nodup∧f.edges.Nodup
structure Uy (f:AJ) (m:Morphism):Prop where
 nl:m.Nodes.length=f.p.Nodes.length
 el:m.Edges.length=f.p.Edges.length
 node:∀ i:Int,0<=i->i<m.Nodes.length->(0<=AA m.Nodes i∧AA m.Nodes i<f.g.Nodes.length)∧AA (AA f.is (AA f.p.Nodes i)) (AA f.g.Nodes (AA m.Nodes i))=true
 edge:∀ i:Int,0<=i->i<m.Edges.length->(0<=AA m.Edges i∧AA m.Edges i<f.g.Edges.length)∧AA f.g.Edges (AA m.Edges i)=⟨(AA f.p.Edges i).Type',AA m.Nodes (AA f.p.Edges i).From,AA m.Nodes (AA f.p.Edges i).To⟩
 inj:f.injective=true->m.Nodes.Nodup∧m.Edges.Nodup
theorem UB {α:Type} [Inhabited α] (l:List α) (x:α) {i:Int} (h:i=l.length):AA (l++[x]) i=x:=by
 subst h
 rw [RP,if_neg (by omega)]
 simp
theorem Qv {l:List Int} {k:Int} {b:Bool} (h:(!(b&&l.any fun x=>decide (k=x)))=true) (hb:b=true) (hl:l.Nodup):(l++[k]).Nodup:=by
 subst hb
 simp only [Bool.true_and,Bool.not_eq_true',List.any_eq_false,decide_eq_true_eq] at h
 rw [List.nodup_append]
 refine ⟨hl,by simp,fun a ha b hb e=>?_⟩
 rw [List.mem_singleton] at hb
 exact h a ha (by rw [e,hb])
theorem RN:∀ (n:Nat) (f:AJ),Yo f->f.nodes.length=f.p.Nodes.length->f.edges.length+n=f.p.Edges.length->∀ m∈FB n f,Uy f m
 | 0,f,hp,hn,he,m,hm=>by
  rw [FB,List.mem_singleton] at hm
  subst hm
  exact ⟨hn,by simpa using he,hp.node,hp.edge,hp.inj⟩
 | n+1,f,hp,hn,he,m,hm=>by
  rw [FB,List.mem_flatMap] at hm
  obtain ⟨k,hk,hm⟩:=hm
  have hk:=I5.1 hk
  split at hm
  ·rename_i hok
   unfold O7 at hok
   rw [Bool.and_eq_true] at hok
   obtain ⟨ho1,ho2⟩:=hok
   rw [QP,Bool.and_eq_true,decide_eq_true_eq] at ho1
   have:=RN n { f with edges:=f.edges++[k] } ⟨hp.nl,hp.node,fun i i0 i1=>by
    have i1:i<((f.edges++[k]).length:Int):=i1
    simp only [List.length_append,List.length_singleton] at i1
    show (0<=AA (f.edges++[k]) i∧AA (f.edges++[k]) i<f.g.Edges.length)∧AA f.g.Edges (AA (f.edges++[k]) i)=⟨(AA f.p.Edges i).Type',AA f.nodes (AA f.p.Edges i).From,AA f.nodes (AA f.p.Edges i).To⟩
    by_cases e:i=f.edges.length
    ·rw [UB _ _ e]; exact ⟨hk,by rw [e]; exact ho1.2⟩
    ·rw [QX _ _ i0 (by omega)]; exact hp.edge i i0 (by omega),fun hi=>⟨(hp.inj hi).1,Qv ho2 hi (hp.inj hi).2⟩⟩ hn (by show (f.edges++[k]).length+n=f.p.Edges.length; rw [List.length_append,List.length_singleton]; omega) m hm
   exact ⟨this.nl,this.el,this.node,this.edge,this.inj⟩
  ·cases hm
theorem RO:∀ (n:Nat) (f:AJ),Yo f->f.edges=[]->f.nodes.length+n=f.p.Nodes.length->∀ m∈G5 n f,Uy f m
 | 0,f,hp,he,hn,m,hm=>by
  rw [G5] at hm
  exact RN _ f hp (by omega) (by rw [he]; simp) m hm
 | n+1,f,hp,he,hn,m,hm=>by
  rw [G5,List.mem_flatMap] at hm
  obtain ⟨k,hk,hm⟩:=hm
  have hk:=I5.1 hk
  split at hm
  ·rename_i hok
   unfold O8 at hok
   rw [Bool.and_eq_true,Bool.and_eq_true] at hok
   obtain ⟨⟨_,ho1⟩,ho2⟩:=hok
   have:=RO n { f with nodes:=f.nodes++[k] } ⟨by show (f.nodes++[k]).length<=f.p.Nodes.length; rw [List.length_append,List.length_singleton]; omega,fun i i0 i1=>by
    have i1:i<((f.nodes++[k]).length:Int):=i1
    simp only [List.length_append,List.length_singleton] at i1
    show (0<=AA (f.nodes++[k]) i∧AA (f.nodes++[k]) i<f.g.Nodes.length)∧AA (AA f.is (AA f.p.Nodes i)) (AA f.g.Nodes (AA (f.nodes++[k]) i))=true
    by_cases e:i=f.nodes.length
    ·rw [UB _ _ e]
     exact ⟨hk,by rw [e]; exact ho1⟩
    ·rw [QX _ _ i0 (by omega)]; exact hp.node i i0 (by omega),fun i i0 i1=>by
    have i1:i<(f.edges.length:Int):=i1
    rw [he] at i1
    have:i<(0:Nat):=i1
    omega,fun hi=>⟨Qv ho2 hi (hp.inj hi).1,(hp.inj hi).2⟩⟩ he (by show (f.nodes++[k]).length+n=f.p.Nodes.length; rw [List.length_append,List.length_singleton]; omega) m hm
   exact ⟨this.nl,this.el,this.node,this.edge,this.inj⟩
  ·cases hm
theorem U8 {t:AD} {p g:Graph} {pa:Morphism} {inj:Bool} {m:Morphism} (hm:m∈L4 t p g pa inj):Uy (FS ⟨t,p,g,pa,inj,5000,[]⟩ [] []) m:=
 RO _ (FS ⟨t,p,g,pa,inj,5000,[]⟩ [] []) ⟨Nat.zero_le _,fun i i0 i1=>by have i1:i<(0:Nat):=i1; omega,fun i i0 i1=>by have i1:i<(0:Nat):=i1; omega,fun _=>⟨List.nodup_nil,List.nodup_nil⟩⟩ rfl (by show 0+p.Nodes.length=p.Nodes.length; omega) m (List.mem_of_mem_take hm)
theorem Xe {t:AD} {p g:Graph} {pa:Morphism} {inj:Bool} (h:HF t p g=0) {m:Morphism} (hm:m∈L4 t p g pa inj):ST t p g m:=by
 obtain ⟨hv,gp,gg,tp,tg⟩:=Ob h
 have:=U8 hm
 refine ⟨this.nl,this.el,fun i i0 i1=>?_,fun i i0 i1=>(this.edge i i0 i1).1⟩
 obtain ⟨h1,h2⟩:=this.node i i0 i1
 refine ⟨h1,?_⟩
 have hl:=this.nl
 have kp:=tp _ (AO (l:=p.Nodes) i0 (by show i<(p.Nodes.length:Int); have hl:m.Nodes.length=p.Nodes.length:=hl; omega))
 have kg:=tg _ (AO (l:=g.Nodes) h1.1 h1.2)
 have h2:AA (AA (I3 t) (AA p.Nodes i)) (AA g.Nodes (AA m.Nodes i))=true:=h2
 have e:AA (I3 t) (AA p.Nodes i)=JY t (AA p.Nodes i):=by unfold I3; exact Lk (JY t) kp.1 kp.2
 rw [e] at h2
 have e2:AA (JY t (AA p.Nodes i)) (AA g.Nodes (AA m.Nodes i))=Hw t (AA g.Nodes (AA m.Nodes i)) (AA p.Nodes i):=by unfold JY; exact Lk (fun k=>Hw t k (AA p.Nodes i)) kg.1 kg.2
 rwa [e2] at h2
theorem Sn {t:AD} {p g:Graph} {pa:Morphism} {inj:Bool} (h:(OX t p g pa inj).2=0):(OX t p g pa inj).1.length<=5000∧∀ m∈(OX t p g pa inj).1,ST t p g m:=by
 unfold OX at h ⊢
 split at h
 ·rename_i h1; exact absurd h h1
 rename_i h1
 split at h
 ·cases h
 rename_i h2
 split at h
 ·rename_i h3; exact absurd h h3
 rename_i h3
 split at h
 ·rename_i h4; exact absurd h h4
 rename_i h4
 split at h
 ·cases h
 rename_i h5
 rw [if_neg h1,if_neg h2,if_neg h3,if_neg h4,if_neg h5]
 exact ⟨by dsimp only; omega,fun m hm=>Xe (Classical.not_not.1 h1) hm⟩
structure Py (t:AD) (p:Pattern) (h:AZ) (x:AH):Prop where
 q:O2 t p
 m:ST t p.Graph h.Graph x.Morphism
 len:(x.Vars.length:Int)=p.Vars
 small:MD x.Vars
structure Vq (t:AD) (p:Pattern) (c:AB):Prop where
 q:O2 t c.Pattern
 vars:p.Vars<=c.Pattern.Vars
 map:Yn p.Graph c.Pattern.Graph c.Map
 inj:NU c.Map=true
def DK (t:AD) (c:AB) (h:AZ) (m:AH) (inj:Bool):List AH × Int:=
 let x:=OX t c.Pattern.Graph h.Graph ⟨PW c.Pattern.Graph.Nodes.length c.Map.Nodes m.Morphism.Nodes,PW c.Pattern.Graph.Edges.length c.Map.Edges m.Morphism.Edges⟩ inj
 if x.2≠0 then ([],x.2) else ((x.1.filter fun y=>(Kh c.Pattern h y m.Vars).2).map fun y=>⟨y,(Kh c.Pattern h y m.Vars).1⟩,0)
instance:Inhabited Morphism:=⟨⟨[],[]⟩⟩
instance:Inhabited AH:=⟨⟨default,[]⟩⟩
instance:Inhabited AL:=⟨⟨0,default,[]⟩⟩
theorem P1 {x:List Morphism} {F:Morphism->List Int × Bool} {f:Int->List AH->Option (List AH)} (hx:x.length<=5000)
  (hf:∀ (i:Int) (s:List AH),0<=i->i<x.length->s.length<=5000->f i s=some (if (F (AA x i)).2=true then s++[⟨AA x i,(F (AA x i)).1⟩] else s)) :
  forA f 0 (x.length:Int) []=some ((x.filter fun y=>(F y).2).map fun y=>⟨y,(F y).1⟩):=by
 rw [Hb (a:=0) (b:=x.length) (s:=[]) (fun i=>((x.take i.toNat).filter fun y=>(F y).2).map fun y=>(⟨y,(F y).1⟩:AH)) (by omega) rfl,Int.toNat_natCast,List.take_length]
 intro i i0 i1
 have hl:(((x.take i.toNat).filter fun y=>(F y).2).map fun y=>(⟨y,(F y).1⟩:AH)).length<=5000:=by
  rw [List.length_map]
  have:=List.length_filter_le (fun y=>(F y).2) (x.take i.toNat)
  have:=List.length_take_le i.toNat x
  have:(x.take i.toNat).length<=x.length:=by rw [List.length_take]; omega
  omega
 rw [hf i _ i0 i1 hl,Io i0 i1,List.filter_append,List.map_append]
 cases hc:(F (AA x i)).2 <;> simp [hc]
theorem WC {s:AP} {p:Pattern} {c:AB} {m:AH} (hf:BT s.t) (hv:(BA s.t).2=0) (hh:I8 s.t s.h) (ha:Py s.t p s.h m) (hi:Vq s.t p c):BW s c m=some (DK s.t c s.h m s.injective):=by
 have gn:=hi.q.g.nodes
 have ge:=hi.q.g.edges
 have m1:=hi.map.nlen
 have m2:=hi.map.elen
 have m3:=ha.m.nlen
 have m4:=ha.m.elen
 unfold BW DK
 rw [TI (by omega) (fun x hx=>by obtain ⟨i,i0,i1,rfl⟩:=FE hx; exact (hi.map.node i i0 i1).1) (by omega),bs,
  TI (by omega) (fun x hx=>by obtain ⟨i,i0,i1,rfl⟩:=FE hx; exact (hi.map.edge i i0 i1).1) (by omega),bs,Xt hf,bs]
 dsimp only
 refine JW fun h0=>?_
 obtain ⟨e1,e2⟩:=Sn h0
 rw [P1 (F:=fun y=>Kh c.Pattern s.h y m.Vars) e1]
 ·rfl
 ·intro i st i0 i1 hl
  have hm:=e2 _ (AO i0 i1)
  have hg:(m.Vars.length:Int)<=c.Pattern.Vars:=by have:=ha.len; have:=hi.vars; omega
  rw [AG i0 i1,bs,cO hi.q (fun x hx=>Mk (GF hv) hi.q hh hm hx) hg ha.small,bs,←Ig]
  split
  ·rw [DG (by simp; unfold BZ; omega)]; rfl
  ·rfl
theorem cU {t:AD} {h:AZ} {inj:Bool} {p:Pattern} {c:AB} {m:AH} (hf:BT t) (hv:(BA t).2=0) (hh:I8 t h) (ha:Py t p h m) (hi:Vq t p c):Hm t c h m inj=some (DK t c h m inj):=by
 have gn:=hi.q.g.nodes
 have ge:=hi.q.g.edges
 have m1:=hi.map.nlen
 have m2:=hi.map.elen
 have m3:=ha.m.nlen
 have m4:=ha.m.elen
 unfold Hm DK
 rw [TO (by omega) (fun x hx=>by obtain ⟨i,i0,i1,rfl⟩:=FE hx; exact (hi.map.node i i0 i1).1) (by omega),bs,
  TO (by omega) (fun x hx=>by obtain ⟨i,i0,i1,rfl⟩:=FE hx; exact (hi.map.edge i i0 i1).1) (by omega),bs,Xy hf,bs]
 dsimp only
 refine JW fun h0=>?_
 obtain ⟨e1,e2⟩:=Sn h0
 rw [P1 (F:=fun y=>Kh c.Pattern h y m.Vars) e1]
 ·rfl
 ·intro i st i0 i1 hl
  have hm:=e2 _ (AO i0 i1)
  have hg:(m.Vars.length:Int)<=c.Pattern.Vars:=by have:=ha.len; have:=hi.vars; omega
  rw [AG i0 i1,bs,cb hi.q (fun x hx=>Mk (GF hv) hi.q hh hm hx) hg ha.small,bs,←Ig]
  split
  ·rw [bs,DG (by simp; unfold BZ; omega)]; rfl
  ·rfl
theorem Pk {t:AD} {h:AZ} {inj:Bool} {p:Pattern} {c:AB} {m:AH} (hv:(BA t).2=0) (hh:I8 t h) (ha:Py t p h m) (hi:Vq t p c) (e:(DK t c h m inj).2=0):(DK t c h m inj).1.length<=5000∧∀ x∈(DK t c h m inj).1,Py t c.Pattern h x:=by
 unfold DK at e ⊢
 dsimp only at e ⊢
 split at e
 ·rename_i h1; exact absurd e h1
 rename_i h1
 rw [if_neg h1]
 obtain ⟨e1,e2⟩:=Sn (Classical.not_not.1 h1)
 refine ⟨by dsimp only; rw [List.length_map]; exact Nat.le_trans (List.length_filter_le _ _) e1,fun x hx=>?_⟩
 dsimp only at hx
 rw [List.mem_map] at hx
 obtain ⟨y,hy,rfl⟩:=hx
 rw [List.mem_filter] at hy
 have hm:=e2 y hy.1
 have hg:(m.Vars.length:Int)<=c.Pattern.Vars:=by have:=ha.len; have:=hi.vars; omega
 have:=Yl hi.q (fun x hx=>Mk (GF hv) hi.q hh hm hx) hg ha.small hy.2
 exact ⟨hi.q,hm,this.1,this.2⟩
end Go.Sf.Sc
