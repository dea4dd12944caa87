/- Plain lemmas: what the functions of the program and of the reference compute. -/
import Derived.Test.YtmaobfbhdkafkaaGreatP25
set_option maxRecDepth 100000
namespace Go.Sf.Sc
open Go Go.Sf
theorem XS {all:List Attr} {k:Int} (h:MV all k=0) (hn:(AA all k).Names.length<=1000):-1000000<=(AA all k).Low∧(AA all k).High<=1000000:=by
 unfold MV at h
 dsimp only at h
 split at h
 ·cases h
 split at h
 ·cases h
 split at h
 ·split at h
  ·rename_i hc; exact ⟨hc.1,hc.2.2⟩
  ·cases h
 split at h
 ·rename_i hc; exact absurd h hc
 split at h
 ·rename_i hc; omega
 ·cases h
theorem T6 {t:AD} {i:Int} (h:Ic t i=0):∀ k,((A9 t i).length:Int) - (AA t.Nodes i).Attrs.length<=k->k<(A9 t i).length->MV (A9 t i) k=0:=by
 unfold Ic at h
 dsimp only at h
 split at h
 ·cases h
 split at h
 ·cases h
 split at h
 ·cases h
 split at h
 ·cases h
 exact S6 h
theorem MW {t:AD} {n:Nat} {a:Int} (h0:0<=a):CD t (n+1) a=CD t n (par t a)++(AA t.Nodes a).Attrs:=by
 rw [CD,if_neg (by omega)]
theorem Qh {t:AD} (hf:BV t) (h:G8 t):∀ (n:Nat) (a:Int),a<t.Nodes.length->a<n->∀ x∈CD t n a,-1000000<=x.Low∧x.High<=1000000
 | 0,_,_,_=>by simp [CD]
 | n+1,a,ha,hn=>by
  by_cases h0:a<0
  ·rw [IC h0]; simp
  ·have hp:=h.par a (by omega) ha
   intro x hx
   rw [MW (by omega)] at hx
   rcases List.mem_append.1 hx with hx | hx
   ·exact Qh hf h n (par t a) (by omega) (by omega) x hx
   ·obtain ⟨j,j0,j1,rfl⟩:=FF hx
    have e:A9 t a=CD t a.toNat (par t a)++(AA t.Nodes a).Attrs:=by
     unfold A9
     rw [show (a+1).toNat=a.toNat+1 by omega,MW (by omega)]
    have hl:(A9 t a).length=(CD t a.toNat (par t a)).length+(AA t.Nodes a).Attrs.length:=by rw [e,List.length_append]
    have h1:=T6 (h.node a (by omega) ha) ((CD t a.toNat (par t a)).length+j) (by omega) (by omega)
    have e2:AA (A9 t a) ((CD t a.toNat (par t a)).length+j)=AA (AA t.Nodes a).Attrs j:=by
     rw [e,RZ,if_neg (by omega)]
     unfold AA
     congr 1
     omega
    have hm:=LC hf (Int.le_refl _) h.par ha (AA (A9 t a) ((CD t a.toNat (par t a)).length+j)) (AO (by omega) (by omega))
    have:=XS h1 (by have:=hm.names; omega)
    rwa [e2] at this
theorem U6 {t:AD} (hf:BV t) (h:G8 t) {a:Int} (h0:0<=a) (ha:a<t.Nodes.length):∀ x∈A9 t a,-1000000<=x.Low∧x.High<=1000000:=Qh hf h _ a ha (by omega)
theorem SJ {t:AD} {k:Int} (hp:F4 t k):∀ (n:Nat) (a b:Int),a<k->a<n->b∈MK t n a->0<=b∧b<=a∧(A9 t b).length<=(CD t n a).length
 | 0,_,_,_,_=>by simp [MK]
 | n+1,a,b,ha,hn=>by
  intro hb
  rw [MK] at hb
  split at hb
  ·cases hb
  ·rename_i h0
   have hq:=hp a (by omega) ha
   rw [MW (by omega)]
   rcases List.mem_cons.1 hb with rfl | hb
   ·refine ⟨by omega,by omega,?_⟩
    unfold A9
    rw [Kw hp (b+1).toNat (n+1) b ha (by omega) (by omega),MW (by omega)]
    exact Nat.le_refl _
   ·have:=SJ hp n (par t a) b (by omega) (by omega) hb
    refine ⟨this.1,by omega,?_⟩
    rw [List.length_append]; omega
theorem V7 {t:AD} (h:G8 t) {a b:Int} (ha:a<t.Nodes.length) (hb:H5 t a b=true):(A9 t b).length<=(A9 t a).length:=by
 unfold H5 at hb
 rw [List.any_eq_true] at hb
 obtain ⟨x,hx,e⟩:=hb
 rw [decide_eq_true_eq] at e
 subst e
 by_cases h0:a<0
 ·have:(a+1).toNat=0:=by omega
  rw [this] at hx; cases hx
 ·exact (SJ h.par (a+1).toNat a b ha (by omega) hx).2.2
theorem VA {α:Type} {a b:Int} {Q:Prop} [Decidable Q] {v:α} {X:Option α} {Y:α} (he:a=b↔Q) (h:Q->X=some Y):(if (!decide (a=b))=true then some v else X)=some (if ¬ Q then v else Y):=by
 by_cases hq:Q
 ·rw [if_neg (by simp [he.2 hq]),if_neg (by simpa using hq),h hq]
 ·rw [if_pos (by simp; exact fun e=>hq (he.1 e)),if_pos hq]
def OL (t:AD) (k:Int) (v:List Int) (j:Int):Bool:=decide (AA v j<(AA (A9 t k) j).Low)||decide ((AA (A9 t k) j).High<AA v j)
def JJ (t:AD) (k:Int) (v:List Int):Int:=
 if (t.Nodes.length:Int)<=k then 6 else if (AA t.Nodes k).Abstract=true then 13 else if ¬ v.length=(A9 t k).length then 20 else
 if anyR (OL t k v) 0 (A9 t k).length=true then 6 else 0
def KJ (t:AD) (g:Graph) (i:Int):Int:=
 if (t.Edges.length:Int)<=(AA g.Edges i).Type' then 6 else if QM t g i=false then 13 else 0
def Mc (t:AD) (h:AY):Int × Int:=
 if (BC t).2≠0 then (-1,(BC t).2) else if C6 h.Graph≠0 then (-1,C6 h.Graph) else if ¬ h.Values.length=h.Graph.Nodes.length then (-1,20) else
 match fst (fun i=>(nz (JJ t (AA h.Graph.Nodes i) (AA h.Values i))).map fun e=>(i,e)) 0 h.Graph.Nodes.length with
 | some r=>r
 | none=>(fst (fun i=>(nz (KJ t h.Graph i)).map fun e=>(i,e)) 0 h.Graph.Edges.length).getD (-1,0)
theorem Oy {t:AD} (hv:(BC t).2=0) {k:Int} (h0:0<=k) (h1:k<t.Nodes.length):ID t k=(A9 t k,0):=by
 unfold ID
 rw [if_neg (by simp [hv]),if_pos (Kx.2 ⟨h0,h1⟩)]
theorem Ub {x:Bool} {y:Bool}:(if x=true then some true else some y)=some (x||y):=by cases x <;> rfl
theorem Z8 {t:AD} (hf:BV t) (hv:(BC t).2=0) {k:Int} (h0:0<=k) (v:List Int):Iw t k v=some (JJ t k v):=by
 unfold Iw JJ
 by_cases h1:(t.Nodes.length:Int)<=k
 ·rw [if_pos (by simpa using h1),if_pos h1]
 rw [if_neg (by simpa using h1),if_neg h1,AF h0 (by omega),bs]
 refine kU fun _=>?_
 rw [Uc hf,Oy hv h0 (by omega),bs]
 refine VA (by simp only []; omega) fun hl=>?_
 rw [B3 (OL t k v) 6]
 ·cases anyR (OL t k v) 0 (A9 t k).length <;> rfl
 ·intro j j0 j1 _
  have j1:j<(A9 t k).length:=j1
  rw [AF j0 j1,bs,AF j0 (by omega)]
  simp only [bs,Ub]
  unfold OL
  cases decide (AA v j<(AA (A9 t k) j).Low) <;> cases decide ((AA (A9 t k) j).High<AA v j) <;> rfl
theorem aK {t:AD} (hf:BV t) (hv:(BC t).2=0) {k:Int} (h0:0<=k) (v:List Int):LR t k v=some (JJ t k v):=by
 unfold LR JJ
 by_cases h1:(t.Nodes.length:Int)<=k
 ·rw [if_pos (by simpa using h1),if_pos h1]
 rw [if_neg (by simpa using h1),if_neg h1,AF h0 (by omega),bs]
 refine kU fun _=>?_
 rw [Uh hf,Oy hv h0 (by omega),bs]
 refine VA (by simp only []; omega) fun hl=>?_
 rw [B3 (OL t k v) 6]
 ·cases anyR (OL t k v) 0 (A9 t k).length <;> rfl
 ·intro j j0 j1 _
  have j1:j<(A9 t k).length:=j1
  rw [AF j0 (by omega),bs,AF j0 j1]
  simp only [bs,Ub]
  unfold OL
  cases decide (AA v j<(AA (A9 t k) j).Low) <;> cases decide ((AA (A9 t k) j).High<AA v j) <;> rfl
theorem TI (e i:Int):(if (!decide (e=0))=true then some (CH.ret (σ:=Unit) (ρ:=Int × Int) (i,e)) else some (.next ()))=some (NV ((nz e).map fun e=>(i,e))):=by
 unfold nz
 by_cases h:e=0 <;> simp [h,NV]
theorem WK {t:AD} (hf:BV t) (h:AY):HZ t h=some (Mc t h):=by
 unfold HZ Mc
 rw [Pv hf,bs]
 refine KD fun hv=>?_
 rw [Mp,bs]
 refine KD fun hg=>?_
 have go:=FB hg
 refine VA (by omega) fun hl=>?_
 rw [CF (fun i=>(nz (JJ t (AA h.Graph.Nodes i) (AA h.Values i))).map fun e=>(i,e)),E7]
 ·cases hn:fst (fun i=>(nz (JJ t (AA h.Graph.Nodes i) (AA h.Values i))).map fun e=>(i,e)) 0 h.Graph.Nodes.length with
  | some r=>rfl
  | none=>
   have hn2:=DP.1 hn
   dsimp only
   rw [CF (fun i=>(nz (KJ t h.Graph i)).map fun e=>(i,e)),E7]
   ·cases fst (fun i=>(nz (KJ t h.Graph i)).map fun e=>(i,e)) 0 h.Graph.Edges.length <;> rfl
   ·intro i i0 i1 _
    have hfi:=go.fit _ (AO (l:=h.Graph.Edges) i0 i1)
    rw [AF i0 i1,bs]
    unfold KJ QM
    by_cases h1:(t.Edges.length:Int)<=(AA h.Graph.Edges i).Type'
    ·rw [if_pos (by simpa using h1),if_pos h1]; rfl
    ·rw [if_neg (by simpa using h1),if_neg h1,AF (by omega) (by omega),bs,AF (by omega) (by omega),bs,cI hf,bs]
     cases N9 t (AA h.Graph.Edges i).Type' (AA h.Graph.Nodes (AA h.Graph.Edges i).From) (AA h.Graph.Nodes (AA h.Graph.Edges i).To) <;> rfl
 ·intro i i0 i1 _
  rw [AF i0 i1,bs,AF i0 (by omega),bs,Z8 hf hv (go.kind _ (AO i0 i1)).1,bs]
  exact TI _ i
theorem WZ {t:AD} (hf:BV t) (h:AY):JV t h=some (Mc t h):=by
 unfold JV Mc
 rw [Px hf,bs]
 refine KD fun hv=>?_
 rw [Mr,bs]
 refine KD fun hg=>?_
 have go:=FB hg
 refine VA (by omega) fun hl=>?_
 rw [CF (fun i=>(nz (JJ t (AA h.Graph.Nodes i) (AA h.Values i))).map fun e=>(i,e)),E7]
 ·cases hn:fst (fun i=>(nz (JJ t (AA h.Graph.Nodes i) (AA h.Values i))).map fun e=>(i,e)) 0 h.Graph.Nodes.length with
  | some r=>rfl
  | none=>
   have hn2:=DP.1 hn
   dsimp only
   rw [CF (fun i=>(nz (KJ t h.Graph i)).map fun e=>(i,e)),E7]
   ·cases fst (fun i=>(nz (KJ t h.Graph i)).map fun e=>(i,e)) 0 h.Graph.Edges.length <;> rfl
   ·intro i i0 i1 _
    have hfi:=go.fit _ (AO (l:=h.Graph.Edges) i0 i1)
    rw [AF i0 i1,bs]
    unfold KJ QM
    by_cases h1:(t.Edges.length:Int)<=(AA h.Graph.Edges i).Type'
    ·rw [if_pos (by simpa using h1),if_pos h1]; rfl
    ·rw [if_neg (by simpa using h1),if_neg h1,AF (by omega) (by omega),bs,AF (by omega) (by omega),bs,cV hf,bs]
     cases N9 t (AA h.Graph.Edges i).Type' (AA h.Graph.Nodes (AA h.Graph.Edges i).From) (AA h.Graph.Nodes (AA h.Graph.Edges i).To) <;> rfl
 ·intro i i0 i1 _
  rw [AF i0 i1,bs,AF i0 (by omega),bs,aK hf hv (go.kind _ (AO i0 i1)).1,bs]
  exact TI _ i
structure Jg (t:AD) (h:AY):Prop where
 g:JP h.Graph
 len:h.Values.length=h.Graph.Nodes.length
 kind:∀ i:Int,0<=i->i<h.Graph.Nodes.length->0<=AA h.Graph.Nodes i∧AA h.Graph.Nodes i<t.Nodes.length
 row:∀ i:Int,0<=i->i<h.Graph.Nodes.length->(AA h.Values i).length=(A9 t (AA h.Graph.Nodes i)).length
 low:∀ i:Int,0<=i->i<h.Graph.Nodes.length->∀ x∈AA h.Values i,-1000000<=x∧x<=1000000
 ge:C6 h.Graph=0
 ty:FI t h.Graph=true
theorem UV {t:AD} (hf:BV t) {h:AY} (e:(Mc t h).2=0):(BC t).2=0∧Jg t h:=by
 unfold Mc at e
 split at e
 ·rename_i h1; exact absurd e h1
 split at e
 ·rename_i h1; exact absurd e h1
 split at e
 ·cases e
 rename_i h1 h2 h3
 have hv:=Classical.not_not.1 h1
 have go:=FB (Classical.not_not.1 h2)
 have hn:∀ i:Int,0<=i->i<h.Graph.Nodes.length->JJ t (AA h.Graph.Nodes i) (AA h.Values i)=0:=by
  split at e
  ·rename_i r hr
   obtain ⟨i,_,_,k,_⟩:=EY hr
   unfold nz at k
   split at k
   ·cases k
   ·rename_i hne; cases k; exact absurd e hne
  ·rename_i hr
   exact fun i i0 i1=>Mn.1 (Lk.1 (DP.1 hr i i0 i1))
 have hk:∀ i:Int,0<=i->i<h.Graph.Nodes.length->(0<=AA h.Graph.Nodes i∧AA h.Graph.Nodes i<t.Nodes.length)∧(AA h.Values i).length=(A9 t (AA h.Graph.Nodes i)).length∧∀ j:Int,0<=j->j<(A9 t (AA h.Graph.Nodes i)).length->OL t (AA h.Graph.Nodes i) (AA h.Values i) j=false:=by
  intro i i0 i1
  have k0:=(go.kind _ (AO i0 i1)).1
  have:=hn i i0 i1
  unfold JJ at this
  split at this
  ·cases this
  split at this
  ·cases this
  split at this
  ·cases this
  split at this
  ·cases this
  rename_i a1 a2 a3 a4
  exact ⟨⟨k0,by omega⟩,Classical.not_not.1 a3,FL.1 (by simpa using a4)⟩
 have he:∀ i:Int,0<=i->i<h.Graph.Edges.length->KJ t h.Graph i=0:=by
  have hn':fst (fun i=>(nz (JJ t (AA h.Graph.Nodes i) (AA h.Values i))).map fun e=>(i,e)) 0 h.Graph.Nodes.length=none:=DP.2 fun i i0 i1=>by rw [hn i i0 i1]; rfl
  rw [hn'] at e
  dsimp only at e
  cases hr:fst (fun i=>(nz (KJ t h.Graph i)).map fun e=>(i,e)) 0 h.Graph.Edges.length with
  | some r=>
   rw [hr] at e
   obtain ⟨i,_,_,k,_⟩:=EY hr
   unfold nz at k
   split at k
   ·cases k
   ·rename_i hne; cases k; exact absurd e hne
  | none=>exact fun i i0 i1=>Mn.1 (Lk.1 (DP.1 hr i i0 i1))
 have hty:FI t h.Graph=true:=by
  unfold FI
  rw [Bool.and_eq_true,Bool.not_eq_true',Bool.not_eq_true',List.any_eq_false,List.any_eq_false]
  refine ⟨fun n hn=>?_,fun x hx=>?_⟩
  ·obtain ⟨i,i0,i1,rfl⟩:=FF hn
   have:=(hk i i0 i1).1.2
   simp; omega
  ·obtain ⟨i,i0,i1,rfl⟩:=FF hx
   have:=he i i0 i1
   unfold KJ at this
   split at this
   ·cases this
   ·simp; omega
 suffices hlow:∀ i:Int,0<=i->i<h.Graph.Nodes.length->∀ x∈AA h.Values i,-1000000<=x∧x<=1000000 from ⟨hv,go,Classical.not_not.1 h3,fun i i0 i1=>(hk i i0 i1).1,fun i i0 i1=>(hk i i0 i1).2.1,hlow,Classical.not_not.1 h2,hty⟩
 intro i i0 i1 x hx
 obtain ⟨k1,k2,k3⟩:=hk i i0 i1
 obtain ⟨j,j0,j1,rfl⟩:=FF hx
 have:=k3 j j0 (by omega)
 unfold OL at this
 simp only [Bool.or_eq_false_iff,decide_eq_false_iff_not] at this
 have:=U6 hf (GG hv) k1.1 k1.2 _ (AO (l:=A9 t (AA h.Graph.Nodes i)) j0 (by omega))
 omega
end Go.Sf.Sc
namespace Go.Sf.Sc
open Go Go.Sf
def Jk (t:AD) (p g:Graph) (m:Morphism) (i:Int):Option Int:=
 if AA m.Nodes i<0∨g.Nodes.length<=AA m.Nodes i then some 6 else if H5 t (AA g.Nodes (AA m.Nodes i)) (AA p.Nodes i)=false then some 13 else none
def Mg (t:AD) (p g:Graph) (m:Morphism):Int:=
 if m.Nodes.length≠p.Nodes.length∨m.Edges.length≠p.Edges.length then 20 else
 match fst (Jk t p g m) 0 m.Nodes.length with
 | some e=>e
 | none=>(fst (HT p g m) 0 m.Edges.length).getD 0
def Mz (t:AD) (p g:Graph) (m:Morphism) (inj:Bool):Int:=
 if HP t p g≠0 then HP t p g else if Mg t p g m≠0 then Mg t p g m else if (inj&&!NZ m)=true then 5 else 0
structure Se (t:AD) (p g:Graph) (m:Morphism):Prop where
 nlen:m.Nodes.length=p.Nodes.length
 elen:m.Edges.length=p.Edges.length
 node:∀ i:Int,0<=i->i<m.Nodes.length->(0<=AA m.Nodes i∧AA m.Nodes i<g.Nodes.length)∧H5 t (AA g.Nodes (AA m.Nodes i)) (AA p.Nodes i)=true
 edge:∀ i:Int,0<=i->i<m.Edges.length->0<=AA m.Edges i∧AA m.Edges i<g.Edges.length
theorem OB {t:AD} {p g:Graph} (h:HP t p g=0):(BC t).2=0∧JP p∧JP g∧(∀ n∈p.Nodes,0<=n∧n<t.Nodes.length)∧∀ n∈g.Nodes,0<=n∧n<t.Nodes.length:=by
 unfold HP at h
 split at h
 ·rename_i h1; exact absurd h h1
 split at h
 ·rename_i h1; exact absurd h h1
 split at h
 ·rename_i h1; exact absurd h h1
 split at h
 ·rename_i h1 h2 h3 h4
  rw [Bool.and_eq_true] at h4
  have gp:=FB (Classical.not_not.1 h2)
  have gg:=FB (Classical.not_not.1 h3)
  exact ⟨Classical.not_not.1 h1,gp,gg,(Ls gp h4.1).1,(Ls gg h4.2).1⟩
 ·cases h
theorem Um {t:AD} {p g:Graph} {m:Morphism} (h:Mg t p g m=0):Se t p g m:=by
 unfold Mg at h
 split at h
 ·cases h
 rename_i h3
 have hn:fst (Jk t p g m) 0 m.Nodes.length=none:=by
  split at h
  ·rename_i r hr
   obtain ⟨i,_,_,k,_⟩:=EY hr
   subst h
   unfold Jk at k
   split at k
   ·cases k
   ·split at k <;> cases k
  ·assumption
 rw [hn] at h
 have he:=Rp (fun i=>by
  unfold HT
  split
  ·simp
  ·split
   ·simp
   ·split <;> simp) h
 refine ⟨by omega,by omega,fun i i1 i2=>?_,fun i i1 i2=>?_⟩
 ·have:=DP.1 hn i i1 i2
  unfold Jk at this
  split at this
  ·cases this
  ·split at this
   ·cases this
   ·rename_i x y
    exact ⟨by omega,by simpa using y⟩
 ·have:=he i i1 i2
  unfold HT at this
  split at this
  ·cases this
  ·omega
theorem WR {t:AD} (hf:BV t) {p g:Graph} (hg:HP t p g=0) (m:Morphism):G6 t p g m=some (Mg t p g m):=by
 obtain ⟨hv,gp,gg,tp,tg⟩:=OB hg
 unfold G6 Mg
 refine Nh (by simp; try omega) fun hl=>?_
 rw [Y4 hf (GG hv) hv,bs,CF (Jk t p g m),E7]
 ·cases hn:fst (Jk t p g m) 0 m.Nodes.length with
  | some e=>rfl
  | none=>
   dsimp only
   rw [CF (HT p g m),GE]
   intro i i1 i2 _
   unfold HT
   rw [AF i1 i2,bs]
   by_cases h1:AA m.Edges i<0∨g.Edges.length<=AA m.Edges i
   ·rw [if_pos (by simpa using h1),if_pos h1]; rfl
   ·have hf:=gp.fit _ (AO (l:=p.Edges) i1 (by omega))
    rw [if_neg (by simpa using h1),if_neg h1,AF i1 (by omega),bs,AF (by omega) (by omega),bs]
    by_cases h2:(AA p.Edges i).Type'=(AA g.Edges (AA m.Edges i)).Type'
    ·rw [if_neg (by simpa using h2),if_neg (by simpa using h2),AF (by omega) (by omega),bs]
     by_cases h3:AA m.Nodes (AA p.Edges i).From=(AA g.Edges (AA m.Edges i)).From
     ·rw [if_neg (by simpa using h3),AF (by omega) (by omega),bs,bs]
      by_cases h4:AA m.Nodes (AA p.Edges i).To=(AA g.Edges (AA m.Edges i)).To
      ·rw [if_neg (by simpa using h4),if_neg (by simp [h3,h4])]; rfl
      ·rw [if_pos (by simpa using h4),if_pos (.inr h4)]; rfl
     ·rw [if_pos (by simpa using h3),bs,if_pos rfl,if_pos (.inl h3)]; rfl
    ·rw [if_pos (by simpa using h2),if_pos h2]; rfl
 ·intro i i1 i2 _
  unfold Jk
  rw [AF i1 i2,bs]
  by_cases h1:AA m.Nodes i<0∨g.Nodes.length<=AA m.Nodes i
  ·rw [if_pos (by simpa using h1),if_pos h1]; rfl
  ·have kp:=tp _ (AO (l:=p.Nodes) i1 (by omega))
   have kg:=tg _ (AO (l:=g.Nodes) (show 0<=AA m.Nodes i by omega) (by omega))
   rw [if_neg (by simpa using h1),if_neg h1,AF i1 (by omega),bs,AF kp.1 (by unfold JA; rw [List.length_map,D9]; exact kp.2),bs,AF (by omega) (by omega),bs]
   have e:AA (JA t) (AA p.Nodes i)=Jb t (AA p.Nodes i):=by unfold JA; exact Lt (Jb t) kp.1 kp.2
   rw [e,AF kg.1 (by unfold Jb; rw [List.length_map,D9]; exact kg.2),bs]
   have e2:AA (Jb t (AA p.Nodes i)) (AA g.Nodes (AA m.Nodes i))=H5 t (AA g.Nodes (AA m.Nodes i)) (AA p.Nodes i):=by unfold Jb; exact Lt (fun k=>H5 t k (AA p.Nodes i)) kg.1 kg.2
   rw [e2]
   cases H5 t (AA g.Nodes (AA m.Nodes i)) (AA p.Nodes i) <;> rfl
theorem Uf {l:List Int} (hl:l.length<=1000):Hz l=some (!KE l):=by
 unfold Hz
 rw [if_pos (by omega)]
 congr 1
 have h1:=QL l
 have h2:=Sx (l:=l)
 cases hd:dupB l with
 | false=>rw [h2.2 (h1.1 hd)]; rfl
 | true=>
  cases he:KE l with
  | false=>rfl
  | true=>rw [h1.2 (h2.1 he)] at hd; cases hd
theorem Ue {t:AD} (hf:BV t) (p g:Graph) (m:Morphism) (inj:Bool):F9 t p g m inj=some (Mz t p g m inj):=by
 unfold F9 Mz
 rw [Ug hf,bs]
 refine HM fun hg=>?_
 rw [WR hf hg,bs]
 refine HM fun hs=>?_
 obtain ⟨_,gp,gg,_⟩:=OB hg
 have mo:=Um hs
 have:=gp.nodes; have:=gp.edges; have:=mo.nlen; have:=mo.elen
 rw [Uf (by omega),Uf (by omega)]
 unfold NZ
 cases inj <;> cases KE m.Nodes <;> cases KE m.Edges <;> rfl
theorem aJ (l:List Int):Iq l=some (KE l):=VS l
theorem Wc {t:AD} {p g:Graph} (hg:HP t p g=0) (m:Morphism) (inj:Bool):KX t p g m inj=some (if Mg t p g m≠0 then Mg t p g m else if (inj&&!NZ m)=true then 5 else 0):=by
 obtain ⟨hv,gp,gg,tp,tg⟩:=OB hg
 unfold KX Mg
 by_cases hl:m.Nodes.length≠p.Nodes.length∨m.Edges.length≠p.Edges.length
 ·rw [if_pos (by simp; try omega),if_pos hl]; rfl
 rw [if_neg (by simp; try omega),if_neg hl,CF (Jk t p g m),E7]
 ·cases hn:fst (Jk t p g m) 0 m.Nodes.length with
  | some e=>
   have:e≠0:=by
    obtain ⟨i,_,_,k,_⟩:=EY hn
    rintro rfl
    unfold Jk at k
    split at k
    ·cases k
    ·split at k <;> cases k
   dsimp only
   rw [if_pos this]
  | none=>
   dsimp only
   rw [CF (HT p g m),E7]
   ·cases he:fst (HT p g m) 0 m.Edges.length with
    | some e=>
     have:e≠0:=by
      obtain ⟨i,_,_,k,_⟩:=EY he
      rintro rfl
      unfold HT at k
      split at k
      ·cases k
      ·split at k
       ·cases k
       ·split at k <;> cases k
     simp only [Option.getD_some]
     rw [if_pos this]
    | none=>
     simp only [Option.getD_none,aJ]
     unfold NZ
     cases inj <;> cases KE m.Nodes <;> cases KE m.Edges <;> rfl
   intro i i1 i2 _
   unfold HT
   rw [AF i1 i2]
   simp only [bs,Pa]
   by_cases h1:AA m.Edges i<0∨g.Edges.length<=AA m.Edges i
   ·rw [if_pos (by simpa using h1),if_pos h1]; rfl
   ·have hf:=gp.fit _ (AO (l:=p.Edges) i1 (by omega))
    rw [if_neg (by simpa using h1),if_neg h1,AF i1 (by omega),bs,AF (by omega) (by omega),bs]
    by_cases h2:(AA p.Edges i).Type'=(AA g.Edges (AA m.Edges i)).Type'
    ·rw [if_neg (by simpa using h2),if_neg (by simpa using h2),AF (by omega) (by omega),bs]
     by_cases h3:AA m.Nodes (AA p.Edges i).From=(AA g.Edges (AA m.Edges i)).From
     ·rw [if_neg (by simpa using h3),AF (by omega) (by omega),bs,bs]
      by_cases h4:AA m.Nodes (AA p.Edges i).To=(AA g.Edges (AA m.Edges i)).To
      ·rw [if_neg (by simpa using h4),if_neg (by simp [h3,h4])]; rfl
      ·rw [if_pos (by simpa using h4),if_pos (.inr h4)]; rfl
     ·rw [if_pos (by simpa using h3),bs,if_pos rfl,if_pos (.inl h3)]; rfl
    ·rw [if_pos (by simpa using h2),if_pos h2]; rfl
 ·intro i i1 i2 _
  unfold Jk
  rw [AF i1 i2]
  simp only [bs,Pa]
  by_cases h1:AA m.Nodes i<0∨g.Nodes.length<=AA m.Nodes i
  ·rw [if_pos (by simpa using h1),if_pos h1]; rfl
  ·have kp:=tp _ (AO (l:=p.Nodes) i1 (by omega))
   have kg:=tg _ (AO (l:=g.Nodes) (show 0<=AA m.Nodes i by omega) (by omega))
   rw [if_neg (by simpa using h1),if_neg h1,AF (by omega) (by omega),bs,AF i1 (by omega),bs,Py (GG hv) kg.1 kg.2 kp.1,bs]
   cases H5 t (AA g.Nodes (AA m.Nodes i)) (AA p.Nodes i) <;> rfl
theorem Uj {t:AD} (hf:BV t) (p g:Graph) (m:Morphism) (inj:Bool):JW t p g m inj=some (Mz t p g m inj):=by
 unfold JW Mz
 rw [QU hf,bs]
 refine HM fun hg=>?_
 rw [Wc hg,bs]
theorem V0 {t:AD} {p g:Graph} {m:Morphism} {inj:Bool} (h:Mz t p g m inj=0):HP t p g=0∧Se t p g m:=by
 unfold Mz at h
 split at h
 ·rename_i h1; exact absurd h h1
 split at h
 ·rename_i h1; exact absurd h h1
 rename_i h1 h2
 exact ⟨Classical.not_not.1 h1,Um (Classical.not_not.1 h2)⟩
end Go.Sf.Sc
namespace Go.Sf.Sc
open Go Go.Sf
section
variable {α σ ρ:Type}
def EO (step:α->σ->CH σ ρ):List α->σ->σ ⊕ ρ
 | [],s=>.inl s
 | a::r,s=>match step a s with
  | .next s'=>EO step r s'
  | .brk s'=>.inl s'
  | .ret r=>.inr r
theorem PV [Inhabited α] {l:List α} {f:Int->σ->Option (CH σ ρ)} (step:α->σ->CH σ ρ) (I:σ->Prop) (h:∀ (i:Int) s,0<=i->i<l.length->I s->f i s=some (step (AA l i) s)∧∀ s',step (AA l i) s=.next s'->I s') :
  ∀ (n:Nat) (a:Int) (s:σ),0<=a->a+n=l.length->I s->forGo f n a s=some (EO step (l.drop a.toNat) s)
 | 0,a,s,h0,h1,_=>by
  rw [List.drop_eq_nil_of_le (by omega)]; rfl
 | n+1,a,s,h0,h1,hs=>by
  obtain ⟨h2,h3⟩:=h a s h0 (by omega) hs
  have hd:l.drop a.toNat=AA l a::l.drop (a+1).toNat:=by
   rw [show (a+1).toNat=a.toNat+1 by omega,List.drop_eq_getElem_cons (by omega)]
   congr 1
   unfold AA
   rw [List.getD_eq_getElem?_getD,List.getElem?_eq_getElem (by omega)]; rfl
  rw [GV,h2,hd,EO]
  cases hc:step (AA l a) s with
  | next s'=>
   simp only
   exact PV step I h n (a+1) s' (by omega) (by omega) (h3 s' hc)
  | brk s'=>rfl
  | ret r=>rfl
theorem NH [Inhabited α] {l:List α} {f:Int->σ->Option (CH σ ρ)} (step:α->σ->CH σ ρ) (I:σ->Prop) {s:σ} (hs:I s) (h:∀ (i:Int) s,0<=i->i<l.length->I s->f i s=some (step (AA l i) s)∧∀ s',step (AA l i) s=.next s'->I s') :
  forR f 0 l.length s=some (EO step l s):=by
 have:=PV step I h l.length 0 s (by omega) (by omega) hs
 unfold forR
 rw [show ((l.length:Int) - 0).toNat=l.length by omega]
 exact this
theorem Th [Inhabited α] (step:α->σ->CH σ ρ) (I:σ->Prop):∀ (l:List α) (s s':σ),I s->(∀ a∈l,∀ s s',I s->step a s=.next s'->I s')->(∀ a∈l,∀ s s',step a s≠.brk s')->EO step l s=.inl s'->I s'
 | [],s,s',h,_,_,e=>by cases e; exact h
 | a::r,s,s',h,hn,hb,e=>by
  rw [EO] at e
  split at e
  ·rename_i s2 h2
   exact Th step I r s2 s' (hn a (by simp) s s2 h h2) (fun a ha=>hn a (by simp [ha])) (fun a ha=>hb a (by simp [ha])) e
  ·rename_i s2 h2; exact absurd h2 (hb a (by simp) _ _)
  ·cases e
end
def D1 (x:Term) (l:List Int):Int:=if x.Var<0 then x.Add else A0 (AA l x.Var+x.Add)
theorem Pb {x:Term} {l:List Int} (h:x.Var<l.length):E2 x l=some (D1 x l):=by
 unfold E2 D1
 by_cases h0:x.Var<0
 ·rw [if_pos (by simpa using h0),if_pos h0]
 ·rw [if_neg (by simpa using h0),if_neg h0,AF (by omega) h]; rfl
theorem R8 {x:Term} {l:List Int} (h:x.Var<l.length):IY x l=some (D1 x l):=Pb h
theorem Xw {x:Term} {l:List Int} (h0:-1<=x.Var) (h:x.Var<l.length) (hl:l.length<=1000):GM x l=some (D1 x l,0):=by
 unfold GM C9
 rw [BI (by omega) (by omega),bs,if_neg (by simp; omega),Pb h]; rfl
theorem QT {x:Term} {l:List Int} (h0:-1<=x.Var) (h:x.Var<l.length):Hb x l=some (D1 x l,0):=by
 unfold Hb
 rw [if_neg (by simp; omega),R8 h]; rfl
def IH (x:Test) (l:List Int):Bool:=(decide (x.Kind=1)&&decide (D1 x.Left l<=D1 x.Right l))||(decide (x.Kind=2)&&decide (D1 x.Left l=D1 x.Right l))
structure IA (n:Int) (x:Term):Prop where
 low:-1<=x.Var
 high:x.Var<n
 add:-1000000<=x.Add∧x.Add<=1000000
def ML (l:List Int):Prop:=∀ x∈l,-2000000<=x∧x<=2000000
theorem OZ {n:Int} {x:Term} (h:IA n x) {l:List Int} (hl:ML l) (hn:n<=l.length):D1 x l=(if x.Var<0 then x.Add else AA l x.Var+x.Add)∧-3000000<=D1 x l∧D1 x l<=3000000:=by
 unfold D1
 have:=h.add
 by_cases h0:x.Var<0
 ·rw [if_pos h0,if_pos h0]; omega
 ·have hh:=h.high
  have:=hl _ (AO (l:=l) (show 0<=x.Var by omega) (by omega))
  rw [if_neg h0,if_neg h0,BI (by omega) (by omega)]; omega
theorem R7 {n:Int} {x:Term} (h:IA n x) {l:List Int} (hn:n<=l.length):JQ x l=some (D1 x l,true):=by
 have h1:=h.low
 have h2:=h.high
 unfold JQ D1
 by_cases h0:x.Var=-1
 ·rw [if_pos (by simpa using h0),if_pos (by omega)]
 ·rw [if_neg (by simpa using h0),if_neg (by simp; omega),if_neg (by omega),AF (by omega) (by omega)]; rfl
theorem r_holds {n:Int} {x:Test} (h1:IA n x.Left) (h2:IA n x.Right) {l:List Int} (hn:n<=l.length):KT x l=some (IH x l):=by
 unfold KT
 rw [R7 h1 hn,R7 h2 hn]; rfl
theorem SK {a b:Int} (ha:-4000000<=a∧a<=4000000) (hb:-4000000<=b∧b<=4000000):G9 a b=some (if a+b<0 then (-1,a+b+18446744073709551616) else (0,a+b)):=by
 have hw:∀ c:Int,IntKind.u64.wrap c=c % 18446744073709551616:=fun c=>by
  simp [IntKind.wrap,IntKind.signed,IntKind.bits]
 have hs:∀ c:Int,-4000000<=c∧c<=4000000->KK .i64 .shr c 63=some (if c<0 then -1 else 0):=by
  intro c hc
  unfold KK
  have e:c.fdiv (2 ^ (min (63:Int).toNat (IntKind.bits .i64)))=if c<0 then -1 else 0:=by
   show c.fdiv (2 ^ 63)=_
   rw [Int.fdiv_eq_ediv_of_nonneg _ (by decide)]
   split <;> omega
  simp only [e]
  have:(0:Int)<=63∧IntKind.min .i64<=(if c<0 then -1 else 0)∧(if c<0 then -1 else 0)<=IntKind.max .i64:=by
   split <;> decide
  rw [if_pos this]
 unfold G9 II
 rw [hw,hw,if_pos (by omega),bs,hs a ha,hs b hb,bs,bs]
 congr 1
 have wi:∀ c:Int,-10<=c->c<=10->A0 c=c:=fun c h1 h2=>BI (by omega) (by omega)
 have hq:(a % 18446744073709551616+b % 18446744073709551616+0) / 18446744073709551616=if a<0∧b<0 then 1 else if (a<0∨b<0)∧0<=a+b then 1 else 0:=by
  split
  ·omega
  ·split <;> omega
 have hr:(a % 18446744073709551616+b % 18446744073709551616+0) % 18446744073709551616=if a+b<0 then a+b+18446744073709551616 else a+b:=by
  split <;> omega
 rw [hq,hr]
 by_cases h1:a<0 <;> by_cases h2:b<0
 ·simp only [h1,h2,and_self,if_true]
  rw [wi _ (by decide) (by decide),wi _ (by decide) (by decide),if_pos (by omega),if_pos (by omega)]; rfl
 ·by_cases h3:a+b<0
  ·simp only [h1,h2,and_false,if_true,if_false,true_or,true_and,h3,show ¬ 0<=a+b by omega]
   rw [wi _ (by decide) (by decide),wi _ (by decide) (by decide)]; rfl
  ·simp only [h1,h2,and_false,if_true,if_false,true_or,true_and,h3,show 0<=a+b by omega]
   rw [wi _ (by decide) (by decide),wi _ (by decide) (by decide)]; rfl
 ·by_cases h3:a+b<0
  ·simp only [h1,h2,false_and,if_true,if_false,or_true,true_and,h3,show ¬ 0<=a+b by omega]
   rw [wi _ (by decide) (by decide),wi _ (by decide) (by decide)]; rfl
  ·simp only [h1,h2,false_and,if_true,if_false,or_true,true_and,h3,show 0<=a+b by omega]
   rw [wi _ (by decide) (by decide),wi _ (by decide) (by decide)]; rfl
 ·have h3:¬ a+b<0:=by omega
  simp only [h1,h2,false_and,and_self,if_false,or_self,h3]
  rw [wi _ (by decide) (by decide),wi _ (by decide) (by decide)]; rfl
def JF (a:Int):Int × Int:=if a<0 then (-1,a+18446744073709551616) else (0,a)
theorem TO {n:Int} {x:Term} (h:IA n x) {l:List Int} (hl:ML l) (hn:n<=l.length):FX x l=some ((JF (D1 x l)).1,(JF (D1 x l)).2,true):=by
 have h1:=h.low
 have h2:=h.high
 have h3:=h.add
 have hs:=(OZ h hl hn).1
 unfold FX
 by_cases h0:x.Var=-1
 ·have e:D1 x l=x.Add:=by rw [hs,if_pos (by omega)]
  rw [e,if_pos (by simpa using h0),SK (by omega) (by omega),bs,Int.zero_add]; rfl
 ·have:=hl _ (AO (l:=l) (show 0<=x.Var by omega) (by omega))
  have e:D1 x l=AA l x.Var+x.Add:=by rw [hs,if_neg (by omega)]
  rw [e,if_neg (by simpa using h0),if_neg (by simp; omega),AF (by omega) (by omega),bs,SK (by omega) (by omega),bs]; rfl
theorem Yy (a b:Int):IE a b=some (if a<b then -1 else if b<a then 1 else 0):=by
 unfold IE JI
 simp only [bs,decide_true,Bool.not_true,Bool.false_eq_true,if_false,decide_eq_true_eq]
 split
 ·rfl
 ·split <;> rfl
theorem ib (a b:Int):IF a b=some (if a<b then -1 else if b<a then 1 else 0):=Yy a b
theorem bl (a b:Int):LF [a,b]=some (if a=0 then b else a):=by
 unfold LF
 show thenR (forGo _ 2 0 ()) _ _=_
 rw [GV,show AI [a,b] 0=some a from rfl,bs]
 by_cases ha:a=0
 ·rw [if_neg (by simp [ha]),if_pos ha]
  show thenR (forGo _ 1 (0+1) ()) _ _=_
  rw [GV,show AI [a,b] (0+1)=some b from rfl,bs]
  by_cases hb:b=0
  ·rw [if_neg (by simp [hb]),hb]; rfl
  ·rw [if_pos (by simp [hb])]; rfl
 ·rw [if_pos (by simp [ha]),if_neg ha]; rfl
theorem p_holds {n:Int} {x:Test} (h1:IA n x.Left) (h2:IA n x.Right) {l:List Int} (hl:ML l) (hn:n<=l.length):GO x l=some (IH x l):=by
 have s1:=(OZ h1 hl hn).2
 have s2:=(OZ h2 hl hn).2
 unfold GO IH
 rw [TO h1 hl hn,TO h2 hl hn]
 simp only [bs,Bool.not_true,Bool.or_self,Bool.false_eq_true,if_false,Yy,ib,bl]
 generalize D1 x.Left l=a at s1
 generalize D1 x.Right l=b at s2
 have key:(if (if (JF a).1<(JF b).1 then (-1:Int) else if (JF b).1<(JF a).1 then 1 else 0)=0 then (if (JF a).2<(JF b).2 then (-1:Int) else if (JF b).2<(JF a).2 then 1 else 0) else (if (JF a).1<(JF b).1 then (-1:Int) else if (JF b).1<(JF a).1 then 1 else 0))=if a<b then -1 else if b<a then 1 else 0:=by
  unfold JF
  by_cases ha:a<0 <;> by_cases hb:b<0 <;> simp only [ha,hb,if_true,if_false] <;> (repeat' split) <;> omega
 rw [key]
 congr 2
 ·congr 1
  rw [decide_eq_decide]
  repeat' split
  all_goals omega
 ·congr 1
  rw [decide_eq_decide]
  repeat' split
  all_goals omega
end Go.Sf.Sc
namespace Go.Sf.Sc
open Go Go.Sf
structure Ob (t:AD) (q:Pattern):Prop where
 g:JP q.Graph
 kind:∀ n∈q.Graph.Nodes,0<=n∧n<t.Nodes.length
 vars:0<=q.Vars∧q.Vars<=12
 few:q.Slots.length<=10∧q.Tests.length<=10
 slot:∀ s∈q.Slots,(0<=s.Node∧s.Node<q.Graph.Nodes.length)∧(0<=s.Attr∧s.Attr<(A9 t (AA q.Graph.Nodes s.Node)).length)∧IA q.Vars s.Term
 test:∀ x∈q.Tests,(x.Kind=1∨x.Kind=2)∧IA q.Vars x.Left∧IA q.Vars x.Right
 ge:C6 q.Graph=0
 ty:FI t q.Graph=true
theorem Tp {n:Int} {x:Term} (h:LX n x=true):IA n x:=by
 unfold LX at h
 simp only [Bool.and_eq_true,decide_eq_true_eq] at h
 exact ⟨h.1.1.1,h.1.1.2,h.1.2,h.2⟩
theorem Yo {n:Int} {l:List Test} (h:JM n l=0):∀ x∈l,(x.Kind=1∨x.Kind=2)∧IA n x.Left∧IA n x.Right:=by
 unfold JM at h
 split at h
 ·cases h
 split at h
 ·cases h
 have h2:=S6 h
 intro x hx
 obtain ⟨i,i0,i1,rfl⟩:=FF hx
 have:=h2 i i0 i1
 unfold L9 at this
 split at this
 ·cases this
 split at this
 ·rename_i h3 h4
  rw [Bool.and_eq_true] at h4
  exact ⟨by omega,Tp h4.1,Tp h4.2⟩
 ·cases this
theorem Vn (n:Int) (l:List Test):JM n l≠9:=by
 unfold JM
 split
 ·decide
 split
 ·decide
 intro h
 cases hr:fst (fun i=>nz (L9 n (AA l i))) 0 l.length with
 | none=>rw [hr] at h; cases h
 | some r=>
  rw [hr] at h
  obtain ⟨i,_,_,k,_⟩:=EY hr
  simp only [Option.getD_some] at h
  subst h
  unfold nz L9 at k
  split at k
  ·cases k
  ·rename_i hne
   split at k
   ·cases k
   ·split at k <;> cases k
theorem VR {t:AD} {q:Pattern} (hv:(BC t).2=0) (h:Jq t q=0∨Jq t q=9):Ob t q:=by
 have hg9:=Qw q.Graph
 unfold Jq at h
 rw [if_neg (by simp [hv])] at h
 split at h
 ·omega
 rename_i h1
 have g:=FB (Classical.not_not.1 h1)
 split at h
 ·omega
 rename_i h2
 split at h
 ·omega
 rename_i h3
 split at h
 ·omega
 rename_i h4
 split at h
 ·omega
 rename_i h5
 split at h
 ·rename_i h6
  have:=Vn q.Vars q.Tests
  omega
 rename_i h6
 refine ⟨g,(Ls g (by simpa using h2)).1,by omega,by omega,fun s hs=>?_,Yo (Classical.not_not.1 h6),Classical.not_not.1 h1,by simpa using h2⟩
 have hb:N0 t q s=false:=by
  rw [Bool.not_eq_true,List.any_eq_false] at h5
  simpa using h5 s hs
 unfold N0 at hb
 simp only [Bool.or_eq_false_iff,Bool.not_eq_false',decide_eq_false_iff_not] at hb
 obtain ⟨⟨⟨b1,b2⟩,b3⟩,b4,b5⟩:=hb
 unfold NE at b1
 dsimp only at b1
 split at b1
 ·cases b1
 rename_i c1
 have hk:=(Ls g (by simpa using h2)).1 _ (AO (l:=q.Graph.Nodes) (show 0<=s.Node by omega) (by omega))
 rw [Oy hv hk.1 hk.2] at b1
 split at b1
 ·cases b1
 rename_i c2
 have c2:¬ (s.Attr<0∨((A9 t (AA q.Graph.Nodes s.Node)).length:Int)<=s.Attr):=c2
 exact ⟨by omega,by omega,by omega,by omega,by omega,by omega⟩
def KF (h:AY) (m:Morphism) (s:DO):Int:=AA (AA h.Values (AA m.Nodes s.Node)) s.Attr
def L8 (h:AY) (m:Morphism) (s:DO) (st:List Int × List Bool):List Int × List Bool:=
 if 0<=s.Term.Var∧AA st.2 s.Term.Var=false then (CU st.1 s.Term.Var (A0 (KF h m s - s.Term.Add)),CU st.2 s.Term.Var true) else st
def FP {ρ:Type} (r:ρ) (h:AY) (m:Morphism) (s:DO) (st:List Int × List Bool):CH (List Int × List Bool) ρ:=
 if D1 s.Term (L8 h m s st).1=KF h m s then .next (L8 h m s st) else .ret r
structure VI (n:Int) (st:List Int × List Bool):Prop where
 l1:(st.1.length:Int)=n
 l2:(st.2.length:Int)=n
 small:ML st.1
structure Ih (n:Int) (h:AY) (m:Morphism) (s:DO):Prop where
 node:0<=s.Node∧s.Node<m.Nodes.length
 val:0<=AA m.Nodes s.Node∧AA m.Nodes s.Node<h.Values.length
 attr:0<=s.Attr∧s.Attr<(AA h.Values (AA m.Nodes s.Node)).length
 term:IA n s.Term
 has:-1000000<=KF h m s∧KF h m s<=1000000
theorem Mt {t:AD} (ht:G8 t) {q:Pattern} {h:AY} {m:Morphism} (hq:Ob t q) (hh:Jg t h) (hm:Se t q.Graph h.Graph m) {s:DO} (hs:s∈q.Slots):Ih q.Vars h m s:=by
 obtain ⟨h1,h2,h3⟩:=hq.slot s hs
 have hl:=hm.nlen
 have hn:=hm.node s.Node h1.1 (by omega)
 have hr:=hh.row _ hn.1.1 hn.1.2
 have hk:=hh.kind _ hn.1.1 hn.1.2
 have hb:=V7 ht hk.2 hn.2
 have hv:=hh.len
 refine ⟨by omega,by omega,by omega,h3,?_⟩
 unfold KF
 exact hh.low _ hn.1.1 hn.1.2 _ (AO h2.1 (by omega))
theorem OW {α:Type} (l:List α) (i:Int) (a:α):(CU l i a).length=l.length:=by unfold CU; rw [List.length_set]
theorem YK {α:Type} {l:List α} {i:Int} {a x:α} (h:x∈CU l i a):x∈l∨x=a:=List.mem_or_eq_of_mem_set h
theorem Wp {n:Int} {h:AY} {m:Morphism} {s:DO} (hs:Ih n h m s) {st:List Int × List Bool} (hi:VI n st):VI n (L8 h m s st):=by
 have h1:=hs.has
 have h2:=hs.term.add
 unfold L8
 split
 ·refine ⟨by rw [OW]; exact hi.l1,by rw [OW]; exact hi.l2,fun x hx=>?_⟩
  rcases YK hx with hx | rfl
  ·exact hi.small x hx
  ·rw [BI (by omega) (by omega)]; omega
 ·exact hi
def LV (q:Pattern) (h:AY) (m:Morphism):List Int × Int:=
 match EO (FP (([],11):List Int × Int) h m) q.Slots (List.replicate q.Vars.toNat 0,List.replicate q.Vars.toNat false) with
 | .inr r=>r
 | .inl st=>if anyR (fun i=>!IH (AA q.Tests i) st.1) 0 q.Tests.length=true then ([],16) else (st.1,0)
theorem Nt {n:Int} (h0:0<=n):VI n (List.replicate n.toNat 0,List.replicate n.toNat false):=by
 refine ⟨by simp; omega,by simp; omega,fun x hx=>?_⟩
 rw [List.mem_replicate] at hx
 omega
theorem MJ {ρ:Type} {r:ρ} {n:Int} {h:AY} {m:Morphism} {s:DO} (hs:Ih n h m s) {st st':List Int × List Bool} (hi:VI n st) (e:FP r h m s st=.next st'):VI n st':=by
 unfold FP at e
 split at e
 ·cases e; exact Wp hs hi
 ·cases e
theorem Wq {ρ:Type} {r:ρ} {h:AY} {m:Morphism} {s:DO} {st st':List Int × List Bool}:FP r h m s st≠.brk st':=by
 unfold FP
 split <;> simp
theorem Lq {ρ:Type} {r:ρ} {n:Int} {h:AY} {m:Morphism} {l:List DO} (hs:∀ s∈l,Ih n h m s) {st st':List Int × List Bool} (hi:VI n st) (e:EO (FP r h m) l st=.inl st'):VI n st':=
 Th (FP r h m) (VI n) l st st' hi (fun a ha _ _ h1 h2=>MJ (hs a ha) h1 h2) (fun _ _ _ _=>Wq) e
theorem Mh {ρ:Type} {r:ρ} {n:Int} {h:AY} {m:Morphism} {s:DO} (hs:Ih n h m s) {st:List Int × List Bool} (hi:VI n st) {T:List Int × List Bool->Option (CH (List Int × List Bool) ρ)}
  (h1:∀ st':List Int × List Bool,(st'.1.length:Int)=n->T st'=some (if D1 s.Term st'.1=KF h m s then .next st' else .ret r)) :
  ((if (decide (0<=s.Term.Var))=true then ((AI st.2 s.Term.Var).bind fun x51=>some (!x51)) else some false).bind fun x54=>
   if x54=true then (AI st.1 s.Term.Var).bind fun _=>(AI st.2 s.Term.Var).bind fun _=>T (CU st.1 s.Term.Var (A0 (KF h m s - s.Term.Add)),CU st.2 s.Term.Var true) else T (st.1,st.2))=some (FP r h m s st):=by
 have hl:=hs.term.high
 have l1:=hi.l1
 have l2:=hi.l2
 unfold FP
 by_cases h0:0<=s.Term.Var
 ·rw [if_pos (by simpa using h0),AF h0 (by omega),bs,bs]
  by_cases hk:AA st.2 s.Term.Var=false
  ·rw [if_pos (by simp [hk]),AF h0 (by omega),bs,bs,h1 _ (by dsimp only; rw [OW]; exact l1)]
   have e:L8 h m s st=(CU st.1 s.Term.Var (A0 (KF h m s - s.Term.Add)),CU st.2 s.Term.Var true):=by unfold L8; rw [if_pos ⟨h0,hk⟩]
   rw [e]
  ·rw [if_neg (by simpa using hk),h1 _ l1]
   have e:L8 h m s st=st:=by unfold L8; rw [if_neg (fun e=>hk e.2)]
   rw [e]
 ·rw [if_neg (by simpa using h0),bs,if_neg (by decide),h1 _ l1]
  have e:L8 h m s st=st:=by unfold L8; rw [if_neg (fun e=>h0 e.1)]
  rw [e]
theorem UE {ρ:Type} {r:ρ} {n:Int} {h:AY} {m:Morphism} {s:DO} (hs:Ih n h m s) {st:List Int × List Bool} (hi:VI n st) {T:List Int × List Bool->Option (CH (List Int × List Bool) ρ)}
  (h1:∀ st':List Int × List Bool,(st'.1.length:Int)=n->T st'=some (if D1 s.Term st'.1=KF h m s then .next st' else .ret r)) :
  ((if (decide (0<=s.Term.Var))=true then ((AI st.2 s.Term.Var).bind fun x51=>some (!x51)) else some false).bind fun x54=>
   if x54=true then (AI st.2 s.Term.Var).bind fun _=>(AI st.1 s.Term.Var).bind fun _=>T (CU st.1 s.Term.Var (A0 (KF h m s - s.Term.Add)),CU st.2 s.Term.Var true) else T (st.1,st.2))=some (FP r h m s st):=by
 rw [←Mh hs hi h1]
 have hl:=hs.term.high
 have l1:=hi.l1
 have l2:=hi.l2
 by_cases h0:0<=s.Term.Var
 ·rw [AF h0 (by omega),AF h0 (by omega)]; rfl
 ·rw [if_neg (by simpa using h0)]; rfl
theorem SE {t:Term} {n v:Int} {f:Term->List Int->Option Int} (hf:∀ l:List Int,(l.length:Int)=n->f t l=some (D1 t l)) (st':List Int × List Bool) (hl:(st'.1.length:Int)=n):((f t st'.1).bind fun x69=>if (!decide (x69=v))=true then some (CH.ret (([],11):List Int × Int)) else some (.next st'))=some (if D1 t st'.1=v then .next st' else .ret ([],11)):=by
 rw [hf _ hl,bs]
 by_cases e:D1 t st'.1=v
 ·rw [if_neg (by simp [e]),if_pos e]
 ·rw [if_pos (by simp [e]),if_neg e]
theorem aC {q:Pattern} {h:AY} {m:Morphism} {t:AD} (hq:Ob t q) (hs:∀ s∈q.Slots,Ih q.Vars h m s):IB q h m=some (LV q h m):=by
 have hv:=hq.vars
 unfold IB LV KP
 rw [if_pos (by omega),bs,if_pos (by omega),bs]
 rw [NH (FP (([],11):List Int × Int) h m) (VI q.Vars) (Nt hv.1)]
 ·cases hr:EO (FP (([],11):List Int × Int) h m) q.Slots (List.replicate q.Vars.toNat 0,List.replicate q.Vars.toNat false) with
  | inr r=>rfl
  | inl st=>
   have hi:=Lq hs (Nt hv.1) hr
   rw [DT,B3 (fun i=>!IH (AA q.Tests i) st.1) ([],16)]
   ·dsimp only
    cases anyR (fun i=>!IH (AA q.Tests i) st.1) 0 q.Tests.length <;> rfl
   ·intro i i0 i1 _
    have hx:=hq.test _ (AO i0 i1)
    rw [AF i0 i1,bs,p_holds hx.2.1 hx.2.2 hi.small (by have:=hi.l1; omega),bs]
    cases IH (AA q.Tests i) st.1 <;> rfl
 ·intro i st i0 i1 hi
  have ha:=hs _ (AO i0 i1)
  refine ⟨?_,fun s' e=>MJ ha hi e⟩
  rw [AF i0 i1,bs,AF ha.node.1 ha.node.2,bs,AF ha.val.1 ha.val.2,bs,AF ha.attr.1 ha.attr.2,bs]
  exact Mh ha hi (T:=fun st'=>(E2 (AA q.Slots i).Term st'.1).bind fun x69=>if (!decide (x69=KF h m (AA q.Slots i)))=true then some (CH.ret (([],11):List Int × Int)) else some (.next st')) (SE fun l hl=>Pb (by have:=ha.term.high; omega))
theorem aO {q:Pattern} {h:AY} {m:Morphism} {t:AD} (hq:Ob t q) (hs:∀ s∈q.Slots,Ih q.Vars h m s):Ju q h m=some (LV q h m):=by
 have hv:=hq.vars
 unfold Ju LV KP
 rw [if_pos (by omega),bs,if_pos (by omega),bs]
 rw [NH (FP (([],11):List Int × Int) h m) (VI q.Vars) (Nt hv.1)]
 ·cases hr:EO (FP (([],11):List Int × Int) h m) q.Slots (List.replicate q.Vars.toNat 0,List.replicate q.Vars.toNat false) with
  | inr r=>rfl
  | inl st=>
   have hi:=Lq hs (Nt hv.1) hr
   rw [DT,B3 (fun i=>!IH (AA q.Tests i) st.1) ([],16)]
   ·dsimp only
    cases anyR (fun i=>!IH (AA q.Tests i) st.1) 0 q.Tests.length <;> rfl
   ·intro i i0 i1 _
    have hx:=hq.test _ (AO i0 i1)
    rw [AF i0 i1,bs,r_holds hx.2.1 hx.2.2 (by have:=hi.l1; omega),bs]
    cases IH (AA q.Tests i) st.1 <;> rfl
 ·intro i st i0 i1 hi
  have ha:=hs _ (AO i0 i1)
  refine ⟨?_,fun s' e=>MJ ha hi e⟩
  rw [AF i0 i1,bs,AF ha.node.1 ha.node.2,bs,AF ha.val.1 ha.val.2,bs,AF ha.attr.1 ha.attr.2,bs]
  exact UE ha hi (T:=fun st'=>(IY (AA q.Slots i).Term st'.1).bind fun x69=>if (!decide (x69=KF h m (AA q.Slots i)))=true then some (CH.ret (([],11):List Int × Int)) else some (.next st')) (SE fun l hl=>R8 (by have:=ha.term.high; omega))
def NQ (t:AD) (p:Pattern) (h:AY):Int:=if Jq t p≠0 then Jq t p else (Mc t h).2
theorem WJ {t:AD} (hf:BV t) (p:Pattern) (h:AY):E1 t p h=some (NQ t p h):=by
 unfold E1 NQ
 rw [SW hf,bs]
 refine HM fun _=>?_
 rw [WK hf]; rfl
theorem WY {t:AD} (hf:BV t) (p:Pattern) (h:AY):KZ t p h=some (NQ t p h):=by
 unfold KZ NQ
 rw [VT hf,bs]
 refine HM fun _=>?_
 rw [WZ hf]; rfl
def LU (t:AD) (p:Pattern) (h:AY) (m:Morphism):List Int × Int:=
 if NQ t p h≠0 then ([],NQ t p h) else if Mz t p.Graph h.Graph m false≠0 then ([],Mz t p.Graph h.Graph m false) else LV p h m
theorem QF {t:AD} (hf:BV t) {p:Pattern} {h:AY} {m:Morphism} {inj:Bool} (h1:NQ t p h=0) (h2:Mz t p.Graph h.Graph m inj=0):(BC t).2=0∧Ob t p∧Jg t h∧Se t p.Graph h.Graph m:=by
 unfold NQ at h1
 split at h1
 ·rename_i h3; exact absurd h1 h3
 rename_i h3
 obtain ⟨hv,hh⟩:=UV hf h1
 exact ⟨hv,VR hv (.inl (Classical.not_not.1 h3)),hh,(V0 h2).2⟩
theorem Z4 {t:AD} (hf:BV t) (p:Pattern) (h:AY) (m:Morphism):E0 t p h m=some (LU t p h m):=by
 unfold E0 LU
 rw [WJ hf,bs]
 refine KD fun h1=>?_
 rw [Ue hf,bs]
 refine KD fun h2=>?_
 obtain ⟨hv,hq,hh,hm⟩:=QF hf h1 h2
 rw [aC hq (fun s hs=>Mt (GG hv) hq hh hm hs)]; rfl
theorem aG {t:AD} (hf:BV t) (p:Pattern) (h:AY) (m:Morphism):KY t p h m=some (LU t p h m):=by
 unfold KY LU
 rw [WY hf,bs]
 refine KD fun h1=>?_
 rw [Uj hf,bs]
 refine KD fun h2=>?_
 obtain ⟨hv,hq,hh,hm⟩:=QF hf h1 h2
 rw [aO hq (fun s hs=>Mt (GG hv) hq hh hm hs)]; rfl
theorem Wr {t:AD} {q:Pattern} {h:AY} {m:Morphism} (hq:Ob t q) (hs:∀ s∈q.Slots,Ih q.Vars h m s) (e:(LV q h m).2=0):((LV q h m).1.length:Int)=q.Vars∧ML (LV q h m).1:=by
 unfold LV at e ⊢
 cases hr:EO (FP (([],11):List Int × Int) h m) q.Slots (List.replicate q.Vars.toNat 0,List.replicate q.Vars.toNat false) with
 | inr r=>
  rw [hr] at e
  have:∀ (l:List DO) (st:List Int × List Bool) (r:List Int × Int),EO (FP (([],11):List Int × Int) h m) l st=.inr r->r=([],11):=by
   intro l
   induction l with
   | nil=>intro st r h; cases h
   | cons a l ih=>
    intro st r h
    rw [EO] at h
    split at h
    ·exact ih _ _ h
    ·cases h
    ·rename_i r' h'
     cases h
     unfold FP at h'
     split at h'
     ·cases h'
     ·cases h'; rfl
  rw [this _ _ _ hr] at e
  cases e
 | inl st=>
  rw [hr] at e
  have hi:=Lq hs (Nt hq.vars.1) hr
  dsimp only at e ⊢
  split at e
  ·cases e
  ·rename_i h1
   rw [if_neg h1]
   exact ⟨hi.l1,hi.small⟩
end Go.Sf.Sc
namespace Go.Sf.Sc
open Go Go.Sf
theorem SC {n:Nat} {α:Type} [Inhabited α] (F:Int->α) {i:Int} (h0:0<=i) (v:α):CU ((BT n).map F) i v=(BT n).map fun j=>if j=i then v else F j:=by
 unfold CU
 refine List.ext_getElem (by simp) (fun k k1 k2=>?_)
 have hk:k<n:=by simpa [D9] using k2
 rw [List.getElem_set]
 have e:(BT n)[k]'(by rw [D9]; exact hk)=(k:Int):=by simp [BT]
 simp only [List.getElem_map,e]
 by_cases h:i.toNat=k
 ·rw [if_pos h,if_pos (by omega)]
 ·rw [if_neg h,if_neg (by omega)]
theorem Mi {n:Nat} {α:Type} {F G:Int->α} (h:∀ j,0<=j->j<(n:Int)->F j=G j):(BT n).map F=(BT n).map G:=List.map_congr_left fun j hj=>h j (JC.1 hj).1 (JC.1 hj).2
def HQ (n:Nat) (k:Int):List Bool:=(BT n).map fun j=>decide (j<k)
theorem Qz (n:Nat):HQ n 0=List.replicate n false:=by
 unfold HQ
 refine List.ext_getElem (by simp [D9]) (fun k k1 k2=>?_)
 have hk:k<n:=by simpa using k2
 have e:(BT n)[k]'(by rw [D9]; exact hk)=(k:Int):=by simp [BT]
 simp only [List.getElem_map,e,List.getElem_replicate,decide_eq_false_iff_not]
 omega
theorem Ry (n:Nat) (k:Int):(HQ n k).length=n:=by unfold HQ; rw [List.length_map,D9]
def Kq (q:Pattern) (h:AY) (m:Morphism) (given:List Int):List Int × Bool:=
 match EO (FP (([],false):List Int × Bool) h m) q.Slots (given++List.replicate (q.Vars - given.length).toNat 0,HQ q.Vars.toNat given.length) with
 | .inr r=>r
 | .inl st=>if anyR (fun i=>!IH (AA q.Tests i) st.1) 0 q.Tests.length=true then ([],false) else (st.1,true)
theorem QY {n:Int} {given:List Int} (h0:0<=n) (hg:given.length<=n) (hv:ML given):VI n (given++List.replicate (n - given.length).toNat 0,HQ n.toNat given.length):=by
 refine ⟨by simp; omega,by show ((HQ n.toNat given.length).length:Int)=n; rw [Ry]; omega,fun x hx=>?_⟩
 rcases List.mem_append.1 hx with hx | hx
 ·exact hv x hx
 ·rw [List.mem_replicate] at hx
  omega
theorem cT {s:AS} {q:Pattern} {m:Morphism} {t:AD} {given:List Int} (hq:Ob t q) (hs:∀ x∈q.Slots,Ih q.Vars s.h m x) (hg:given.length<=q.Vars) (hv:ML given):EG s q m given=some (Kq q s.h m given):=by
 have hn:=hq.vars
 unfold EG Kq slices_Clone_int
 rw [Hp (by unfold B0; omega),bs,BI (by omega) (by omega)]
 have ea:QI given (q.Vars - given.length) 0=some (given++List.replicate (q.Vars - given.length).toNat 0):=by
  unfold QI
  rw [if_pos ⟨by omega,by unfold B0; omega⟩]
 have em:KP q.Vars false=some (List.replicate q.Vars.toNat false):=by
  unfold KP
  rw [if_pos (by omega)]
 rw [ea,bs,em,bs]
 have ek:forA (fun (i0:Int) (s0:List Bool)=>(AI s0 i0).bind fun x39=>some (CU s0 i0 true)) 0 (given.length:Int) (List.replicate q.Vars.toNat false)=some (HQ q.Vars.toNat given.length):=by
  refine Hj (fun i=>HQ q.Vars.toNat i) (by omega) (Qz _) (fun i i0 i1=>?_)
  rw [AF i0 (by rw [Ry]; omega),bs]
  congr 1
  unfold HQ
  rw [SC _ i0]
  refine Mi (fun j j0 j1=>?_)
  by_cases e:j=i
  ·rw [if_pos e,e]; simp; omega
  ·rw [if_neg e,decide_eq_decide]; omega
 rw [ek,bs]
 have hi0:=QY hn.1 hg hv
 rw [NH (FP (([],false):List Int × Bool) s.h m) (VI q.Vars) hi0]
 ·cases hr:EO (FP (([],false):List Int × Bool) s.h m) q.Slots (given++List.replicate (q.Vars - given.length).toNat 0,HQ q.Vars.toNat given.length) with
  | inr r=>rfl
  | inl st=>
   have hi:=Lq hs hi0 hr
   rw [DT,B3 (fun i=>!IH (AA q.Tests i) st.1) ([],false)]
   ·dsimp only
    cases anyR (fun i=>!IH (AA q.Tests i) st.1) 0 q.Tests.length <;> rfl
   ·intro i i0 i1 _
    have hx:=hq.test _ (AO i0 i1)
    rw [AF i0 i1,bs,p_holds hx.2.1 hx.2.2 hi.small (by have:=hi.l1; omega),bs]
    cases IH (AA q.Tests i) st.1 <;> rfl
 ·intro i st i0 i1 hi
  have ha:=hs _ (AO i0 i1)
  refine ⟨?_,fun s' e=>MJ ha hi e⟩
  rw [AF i0 i1,bs,AF ha.node.1 ha.node.2,bs,AF ha.val.1 ha.val.2,bs,AF ha.attr.1 ha.attr.2,bs]
  refine Mh ha hi (T:=fun st'=>(GM (AA q.Slots i).Term st'.1).bind fun x90=>if ((!decide (x90.2=0))||(!decide (x90.1=KF s.h m (AA q.Slots i))))=true then some (CH.ret (([],false):List Int × Bool)) else some (.next st')) (fun st' hl=>?_)
  rw [Xw ha.term.low (by have:=ha.term.high; omega) (by omega),bs]
  by_cases e:D1 (AA q.Slots i).Term st'.1=KF s.h m (AA q.Slots i)
  ·rw [if_neg (by simp [e]),if_pos e]
  ·rw [if_pos (by simp [e]),if_neg e]
theorem ce {h:AY} {q:Pattern} {m:Morphism} {t:AD} {given:List Int} (hq:Ob t q) (hs:∀ x∈q.Slots,Ih q.Vars h m x) (hg:given.length<=q.Vars) (hv:ML given):Jw q h m given=some (Kq q h m given):=by
 have hn:=hq.vars
 unfold Jw Kq
 have em:KP q.Vars false=some (List.replicate q.Vars.toNat false):=by
  unfold KP
  rw [if_pos (by omega)]
 rw [Hp (by unfold B0; omega),bs,em,bs]
 have ek:forA (fun (i0:Int) (s0:List Int × List Bool)=>
   (AI s0.2 i0).bind fun x42=>
   if (decide ((given.length:Int)<=i0))=true then
   (CR s0.1 [0]).bind fun x49=>
   some (x49,CU s0.2 i0 (decide (i0<(given.length:Int))))
   else
   some (s0.1,CU s0.2 i0 (decide (i0<(given.length:Int))))) 0 q.Vars (given,List.replicate q.Vars.toNat false)=some (given++List.replicate (q.Vars - given.length).toNat 0,(BT q.Vars.toNat).map fun j=>decide (j<q.Vars)&&decide (j<(given.length:Int))):=by
  refine Hj (fun i=>(given++List.replicate (i - given.length).toNat 0,(BT q.Vars.toNat).map fun j=>decide (j<i)&&decide (j<(given.length:Int)))) hn.1 ?_ (fun i i0 i1=>?_)
  ·have e1:((0:Int) - given.length).toNat=0:=by omega
   rw [e1]
   simp only [List.replicate_zero,List.append_nil,Prod.mk.injEq,true_and]
   rw [←Qz]
   unfold HQ
   refine Mi (fun j j0 j1=>?_)
   rw [show decide (j<0)=false by simp; omega]; rfl
  ·dsimp only
   rw [AF i0 (by rw [List.length_map,D9]; omega),bs]
   have e2:CU ((BT q.Vars.toNat).map fun j=>decide (j<i)&&decide (j<(given.length:Int))) i (decide (i<(given.length:Int)))=(BT q.Vars.toNat).map fun j=>decide (j<i+1)&&decide (j<(given.length:Int)):=by
    rw [SC _ i0]
    refine Mi (fun j j0 j1=>?_)
    by_cases e:j=i
    ·rw [if_pos e,e,show decide (i<i+1)=true by simp; omega,Bool.true_and]
    ·rw [if_neg e]; congr 1; rw [decide_eq_decide]; omega
   rw [e2]
   by_cases hi:(given.length:Int)<=i
   ·rw [if_pos (by simpa using hi),DI (by simp; unfold B0; omega),bs]
    congr 2
    rw [List.append_assoc,show (i+1 - given.length).toNat=(i - given.length).toNat+1 by omega,List.replicate_succ']
   ·rw [if_neg (by simpa using hi)]
    have e3:(i+1 - given.length).toNat=(i - given.length).toNat:=by omega
    rw [e3]
 have ek2:((BT q.Vars.toNat).map fun j=>decide (j<q.Vars)&&decide (j<(given.length:Int)))=HQ q.Vars.toNat given.length:=by
  unfold HQ
  refine Mi (fun j j0 j1=>?_)
  rw [show decide (j<q.Vars)=true by simp; omega,Bool.true_and]
 rw [ek2] at ek
 rw [ek,bs]
 have hi0:=QY hn.1 hg hv
 dsimp only
 rw [NH (FP (([],false):List Int × Bool) h m) (VI q.Vars) hi0]
 ·cases hr:EO (FP (([],false):List Int × Bool) h m) q.Slots (given++List.replicate (q.Vars - given.length).toNat 0,HQ q.Vars.toNat given.length) with
  | inr r=>rfl
  | inl st=>
   have hi:=Lq hs hi0 hr
   rw [DT,B3 (fun i=>!IH (AA q.Tests i) st.1) ([],false)]
   ·dsimp only
    cases anyR (fun i=>!IH (AA q.Tests i) st.1) 0 q.Tests.length <;> rfl
   ·intro i i0 i1 _
    have hx:=hq.test _ (AO i0 i1)
    have hl:=hi.l1
    rw [AF i0 i1,bs,QT hx.2.1.low (by have:=hx.2.1.high; omega),bs,QT hx.2.2.low (by have:=hx.2.2.high; omega),bs,←IT]
    unfold IH
    dsimp only
    congr 1
    generalize D1 (AA q.Tests i).Left st.1=a
    generalize D1 (AA q.Tests i).Right st.1=b
    rcases hx.1 with e | e
    ·rw [e,eq_iff_iff]; simp
    ·rw [e,eq_iff_iff]; simp
 ·intro i st i0 i1 hi
  have ha:=hs _ (AO i0 i1)
  refine ⟨?_,fun s' e=>MJ ha hi e⟩
  rw [AF i0 i1,bs,AF ha.node.1 ha.node.2,bs,AF ha.val.1 ha.val.2,bs,AF ha.attr.1 ha.attr.2,bs]
  refine Mh ha hi (T:=fun st'=>(Hb (AA q.Slots i).Term st'.1).bind fun x108=>if (!decide (x108.1=KF h m (AA q.Slots i)))=true then some (CH.ret (([],false):List Int × Bool)) else some (.next st')) (fun st' hl=>?_)
  rw [QT ha.term.low (by have:=ha.term.high; omega),bs]
  by_cases e:D1 (AA q.Slots i).Term st'.1=KF h m (AA q.Slots i)
  ·rw [if_neg (by simp [e]),if_pos e]
  ·rw [if_pos (by simp [e]),if_neg e]
theorem Yr {t:AD} {q:Pattern} {h:AY} {m:Morphism} {given:List Int} (hq:Ob t q) (hs:∀ s∈q.Slots,Ih q.Vars h m s) (hg:given.length<=q.Vars) (hv:ML given) (e:(Kq q h m given).2=true):((Kq q h m given).1.length:Int)=q.Vars∧ML (Kq q h m given).1:=by
 unfold Kq at e ⊢
 have hi0:=QY hq.vars.1 hg hv
 cases hr:EO (FP (([],false):List Int × Bool) h m) q.Slots (given++List.replicate (q.Vars - given.length).toNat 0,HQ q.Vars.toNat given.length) with
 | inr r=>
  rw [hr] at e
  have:∀ (l:List DO) (st:List Int × List Bool) (r:List Int × Bool),EO (FP (([],false):List Int × Bool) h m) l st=.inr r->r=([],false):=by
   intro l
   induction l with
   | nil=>intro st r h; cases h
   | cons a l ih=>
    intro st r h
    rw [EO] at h
    split at h
    ·exact ih _ _ h
    ·cases h
    ·rename_i r' h'
     cases h
     unfold FP at h'
     split at h'
     ·cases h'
     ·cases h'; rfl
  rw [this _ _ _ hr] at e
  cases e
 | inl st=>
  rw [hr] at e
  have hi:=Lq hs hi0 hr
  dsimp only at e ⊢
  split at e
  ·cases e
  ·rename_i h1
   rw [if_neg h1]
   exact ⟨hi.l1,hi.small⟩
def Pc (n:Nat) (by' images:List Int):List Int:=(BT by'.length).foldl (fun l i=>CU l (AA by' i) (AA images i)) (List.replicate n (-1))
theorem Rk (by' images:List Int):∀ (ks:List Int) (l:List Int),(ks.foldl (fun l i=>CU l (AA by' i) (AA images i)) l).length=l.length
 | [],l=>rfl
 | k::ks,l=>by rw [List.foldl_cons,Rk by' images ks,OW]
theorem Q9 {n:Nat} {by' images:List Int} (hb:∀ x∈by',0<=x∧x<n) (hl:by'.length<=images.length):forA (fun (i0:Int) (s0:List Int)=>
  (AI by' i0).bind fun x18=>
  (AI images i0).bind fun x24=>
  (AI s0 x18).bind fun x26=>
  some (CU s0 x18 x24)) 0 (by'.length:Int) (List.replicate n (-1))=some (Pc n by' images):=by
 have h:=Hj (f:=fun (i0:Int) (s0:List Int)=>
  (AI by' i0).bind fun x18=>
  (AI images i0).bind fun x24=>
  (AI s0 x18).bind fun x26=>
  some (CU s0 x18 x24)) (fun i=>(BT i.toNat).foldl (fun l i=>CU l (AA by' i) (AA images i)) (List.replicate n (-1))) (a:=0) (b:=by'.length) (s:=List.replicate n (-1)) (by omega) rfl (fun i i0 i1=>by
   have hx:=hb _ (AO i0 i1)
   rw [AF i0 i1,bs,AF i0 (by omega),bs,AF hx.1 (by rw [Rk]; simpa using hx.2),bs,J8 i0,List.foldl_append]; rfl)
 rw [h,Int.toNat_natCast]; rfl
theorem TR {n:Nat} {by' images:List Int} (hn:n<=1000) (hb:∀ x∈by',0<=x∧x<n) (hl:by'.length<=images.length):GN n by' images=some (Pc n by' images):=by
 unfold GN HU
 rw [if_pos ⟨rfl,by omega,by omega⟩,bs]
 show (forA _ 0 _ (List.replicate (n:Int).toNat (-1))).bind _=_
 rw [Int.toNat_natCast,Q9 hb hl]; rfl
theorem TY {n:Nat} {by' images:List Int} (hn:n<=1000) (hb:∀ x∈by',0<=x∧x<n) (hl:by'.length<=images.length):Is n by' images=some (Pc n by' images):=by
 unfold Is
 rw [Hj (a:=0) (b:=n) (s:=[]) (fun i=>List.replicate i.toNat (-1)) (by omega) rfl,bs,Int.toNat_natCast,Q9 hb hl]
 ·rfl
 ·intro i i0 i1
  rw [DI (by simp; unfold B0; omega),bs,show (i+1).toNat=i.toNat+1 by omega,List.replicate_succ']
end Go.Sf.Sc
namespace Go.Sf.Sc
open Go Go.Sf
structure Yu (f:AK):Prop where
 nl:f.nodes.length<=f.p.Nodes.length
 node:∀ i:Int,0<=i->i<f.nodes.length->(0<=AA f.nodes i∧AA f.nodes i<f.g.Nodes.length)∧AA (AA f.is (AA f.p.Nodes i)) (AA f.g.Nodes (AA f.nodes i))=true
 edge:∀ i:Int,0<=i->i<f.edges.length->(0<=AA f.edges i∧AA f.edges i<f.g.Edges.length)∧AA f.g.Edges (AA f.edges i)=⟨(AA f.p.Edges i).Type',AA f.nodes (AA f.p.Edges i).From,AA f.nodes (AA f.p.Edges i).To⟩
 inj:f.injective=true->f.nodes.Nodup∧f.edges.Nodup
structure U2 (f:AK) (m:Morphism):Prop where
 nl:m.Nodes.length=f.p.Nodes.length
 el:m.Edges.length=f.p.Edges.length
 node:∀ i:Int,0<=i->i<m.Nodes.length->(0<=AA m.Nodes i∧AA m.Nodes i<f.g.Nodes.length)∧AA (AA f.is (AA f.p.Nodes i)) (AA f.g.Nodes (AA m.Nodes i))=true
 edge:∀ i:Int,0<=i->i<m.Edges.length->(0<=AA m.Edges i∧AA m.Edges i<f.g.Edges.length)∧AA f.g.Edges (AA m.Edges i)=⟨(AA f.p.Edges i).Type',AA m.Nodes (AA f.p.Edges i).From,AA m.Nodes (AA f.p.Edges i).To⟩
 inj:f.injective=true->m.Nodes.Nodup∧m.Edges.Nodup
theorem UH {α:Type} [Inhabited α] (l:List α) (x:α) {i:Int} (h:i=l.length):AA (l++[x]) i=x:=by
 subst h
 rw [RZ,if_neg (by omega)]
 simp
theorem Q3 {l:List Int} {k:Int} {b:Bool} (h:(!(b&&l.any fun x=>decide (k=x)))=true) (hb:b=true) (hl:l.Nodup):(l++[k]).Nodup:=by
 subst hb
 simp only [Bool.true_and,Bool.not_eq_true',List.any_eq_false,decide_eq_true_eq] at h
 rw [List.nodup_append]
 refine ⟨hl,by simp,fun a ha b hb e=>?_⟩
 rw [List.mem_singleton] at hb
 exact h a ha (by rw [e,hb])
theorem RX:∀ (n:Nat) (f:AK),Yu f->f.nodes.length=f.p.Nodes.length->f.edges.length+n=f.p.Edges.length->∀ m∈FC n f,U2 f m
 | 0,f,hp,hn,he,m,hm=>by
  rw [FC,List.mem_singleton] at hm
  subst hm
  exact ⟨hn,by simpa using he,hp.node,hp.edge,hp.inj⟩
 | n+1,f,hp,hn,he,m,hm=>by
  rw [FC,List.mem_flatMap] at hm
  obtain ⟨k,hk,hm⟩:=hm
  have hk:=JC.1 hk
  split at hm
  ·rename_i hok
   unfold Og at hok
   rw [Bool.and_eq_true] at hok
   obtain ⟨ho1,ho2⟩:=hok
   rw [QX,Bool.and_eq_true,decide_eq_true_eq] at ho1
   have:=RX n { f with edges:=f.edges++[k] } ⟨hp.nl,hp.node,fun i i0 i1=>by
    have i1:i<((f.edges++[k]).length:Int):=i1
    simp only [List.length_append,List.length_singleton] at i1
    show (0<=AA (f.edges++[k]) i∧AA (f.edges++[k]) i<f.g.Edges.length)∧AA f.g.Edges (AA (f.edges++[k]) i)=⟨(AA f.p.Edges i).Type',AA f.nodes (AA f.p.Edges i).From,AA f.nodes (AA f.p.Edges i).To⟩
    by_cases e:i=f.edges.length
    ·rw [UH _ _ e]; exact ⟨hk,by rw [e]; exact ho1.2⟩
    ·rw [Qf _ _ i0 (by omega)]; exact hp.edge i i0 (by omega),fun hi=>⟨(hp.inj hi).1,Q3 ho2 hi (hp.inj hi).2⟩⟩ hn (by show (f.edges++[k]).length+n=f.p.Edges.length; rw [List.length_append,List.length_singleton]; omega) m hm
   exact ⟨this.nl,this.el,this.node,this.edge,this.inj⟩
  ·cases hm
theorem RY:∀ (n:Nat) (f:AK),Yu f->f.edges=[]->f.nodes.length+n=f.p.Nodes.length->∀ m∈HE n f,U2 f m
 | 0,f,hp,he,hn,m,hm=>by
  rw [HE] at hm
  exact RX _ f hp (by omega) (by rw [he]; simp) m hm
 | n+1,f,hp,he,hn,m,hm=>by
  rw [HE,List.mem_flatMap] at hm
  obtain ⟨k,hk,hm⟩:=hm
  have hk:=JC.1 hk
  split at hm
  ·rename_i hok
   unfold Oh at hok
   rw [Bool.and_eq_true,Bool.and_eq_true] at hok
   obtain ⟨⟨_,ho1⟩,ho2⟩:=hok
   have:=RY n { f with nodes:=f.nodes++[k] } ⟨by show (f.nodes++[k]).length<=f.p.Nodes.length; rw [List.length_append,List.length_singleton]; omega,fun i i0 i1=>by
    have i1:i<((f.nodes++[k]).length:Int):=i1
    simp only [List.length_append,List.length_singleton] at i1
    show (0<=AA (f.nodes++[k]) i∧AA (f.nodes++[k]) i<f.g.Nodes.length)∧AA (AA f.is (AA f.p.Nodes i)) (AA f.g.Nodes (AA (f.nodes++[k]) i))=true
    by_cases e:i=f.nodes.length
    ·rw [UH _ _ e]
     exact ⟨hk,by rw [e]; exact ho1⟩
    ·rw [Qf _ _ i0 (by omega)]; exact hp.node i i0 (by omega),fun i i0 i1=>by
    have i1:i<(f.edges.length:Int):=i1
    rw [he] at i1
    have:i<(0:Nat):=i1
    omega,fun hi=>⟨Q3 ho2 hi (hp.inj hi).1,(hp.inj hi).2⟩⟩ he (by show (f.nodes++[k]).length+n=f.p.Nodes.length; rw [List.length_append,List.length_singleton]; omega) m hm
   exact ⟨this.nl,this.el,this.node,this.edge,this.inj⟩
  ·cases hm
theorem VD {t:AD} {p g:Graph} {pa:Morphism} {inj:Bool} {m:Morphism} (hm:m∈MB t p g pa inj):U2 (FS ⟨t,p,g,pa,inj,5000,[]⟩ [] []) m:=
 RY _ (FS ⟨t,p,g,pa,inj,5000,[]⟩ [] []) ⟨Nat.zero_le _,fun i i0 i1=>by have i1:i<(0:Nat):=i1; omega,fun i i0 i1=>by have i1:i<(0:Nat):=i1; omega,fun _=>⟨List.nodup_nil,List.nodup_nil⟩⟩ rfl (by show 0+p.Nodes.length=p.Nodes.length; omega) m (List.mem_of_mem_take hm)
theorem Xi {t:AD} {p g:Graph} {pa:Morphism} {inj:Bool} (h:HP t p g=0) {m:Morphism} (hm:m∈MB t p g pa inj):Se t p g m:=by
 obtain ⟨hv,gp,gg,tp,tg⟩:=OB h
 have:=VD hm
 refine ⟨this.nl,this.el,fun i i0 i1=>?_,fun i i0 i1=>(this.edge i i0 i1).1⟩
 obtain ⟨h1,h2⟩:=this.node i i0 i1
 refine ⟨h1,?_⟩
 have hl:=this.nl
 have kp:=tp _ (AO (l:=p.Nodes) i0 (by show i<(p.Nodes.length:Int); have hl:m.Nodes.length=p.Nodes.length:=hl; omega))
 have kg:=tg _ (AO (l:=g.Nodes) h1.1 h1.2)
 have h2:AA (AA (JA t) (AA p.Nodes i)) (AA g.Nodes (AA m.Nodes i))=true:=h2
 have e:AA (JA t) (AA p.Nodes i)=Jb t (AA p.Nodes i):=by unfold JA; exact Lt (Jb t) kp.1 kp.2
 rw [e] at h2
 have e2:AA (Jb t (AA p.Nodes i)) (AA g.Nodes (AA m.Nodes i))=H5 t (AA g.Nodes (AA m.Nodes i)) (AA p.Nodes i):=by unfold Jb; exact Lt (fun k=>H5 t k (AA p.Nodes i)) kg.1 kg.2
 rwa [e2] at h2
theorem Sz {t:AD} {p g:Graph} {pa:Morphism} {inj:Bool} (h:(N7 t p g pa inj).2=0):(N7 t p g pa inj).1.length<=5000∧∀ m∈(N7 t p g pa inj).1,Se t p g m:=by
 unfold N7 at h ⊢
 split at h
 ·rename_i h1; exact absurd h h1
 rename_i h1
 split at h
 ·cases h
 rename_i h2
 split at h
 ·rename_i h3; exact absurd h h3
 rename_i h3
 split at h
 ·rename_i h4; exact absurd h h4
 rename_i h4
 split at h
 ·cases h
 rename_i h5
 rw [if_neg h1,if_neg h2,if_neg h3,if_neg h4,if_neg h5]
 exact ⟨by dsimp only; omega,fun m hm=>Xi (Classical.not_not.1 h1) hm⟩
structure Qa (t:AD) (p:Pattern) (h:AY) (x:AH):Prop where
 q:Ob t p
 m:Se t p.Graph h.Graph x.Morphism
 len:(x.Vars.length:Int)=p.Vars
 small:ML x.Vars
structure Vu (t:AD) (p:Pattern) (c:AB):Prop where
 q:Ob t c.Pattern
 vars:p.Vars<=c.Pattern.Vars
 map:Yt p.Graph c.Pattern.Graph c.Map
 inj:NZ c.Map=true
def C2 (t:AD) (c:AB) (h:AY) (m:AH) (inj:Bool):List AH × Int:=
 let x:=N7 t c.Pattern.Graph h.Graph ⟨Pc c.Pattern.Graph.Nodes.length c.Map.Nodes m.Morphism.Nodes,Pc c.Pattern.Graph.Edges.length c.Map.Edges m.Morphism.Edges⟩ inj
 if x.2≠0 then ([],x.2) else ((x.1.filter fun y=>(Kq c.Pattern h y m.Vars).2).map fun y=>⟨y,(Kq c.Pattern h y m.Vars).1⟩,0)
instance:Inhabited Morphism:=⟨⟨[],[]⟩⟩
instance:Inhabited AH:=⟨⟨default,[]⟩⟩
instance:Inhabited AM:=⟨⟨0,default,[]⟩⟩
theorem P8 {x:List Morphism} {F:Morphism->List Int × Bool} {f:Int->List AH->Option (List AH)} (hx:x.length<=5000)
  (hf:∀ (i:Int) (s:List AH),0<=i->i<x.length->s.length<=5000->f i s=some (if (F (AA x i)).2=true then s++[⟨AA x i,(F (AA x i)).1⟩] else s)) :
  forA f 0 (x.length:Int) []=some ((x.filter fun y=>(F y).2).map fun y=>⟨y,(F y).1⟩):=by
 rw [Hj (a:=0) (b:=x.length) (s:=[]) (fun i=>((x.take i.toNat).filter fun y=>(F y).2).map fun y=>(⟨y,(F y).1⟩:AH)) (by omega) rfl,Int.toNat_natCast,List.take_length]
 intro i i0 i1
 have hl:(((x.take i.toNat).filter fun y=>(F y).2).map fun y=>(⟨y,(F y).1⟩:AH)).length<=5000:=by
  rw [List.length_map]
  have:=List.length_filter_le (fun y=>(F y).2) (x.take i.toNat)
  have:=List.length_take_le i.toNat x
  have:(x.take i.toNat).length<=x.length:=by rw [List.length_take]; omega
  omega
 rw [hf i _ i0 i1 hl,Iv i0 i1,List.filter_append,List.map_append]
 cases hc:(F (AA x i)).2 <;> simp [hc]
theorem WI {s:AS} {p:Pattern} {c:AB} {m:AH} (hf:BV s.t) (hv:(BC s.t).2=0) (hh:Jg s.t s.h) (ha:Qa s.t p s.h m) (hi:Vu s.t p c):BW s c m=some (C2 s.t c s.h m s.injective):=by
 have gn:=hi.q.g.nodes
 have ge:=hi.q.g.edges
 have m1:=hi.map.nlen
 have m2:=hi.map.elen
 have m3:=ha.m.nlen
 have m4:=ha.m.elen
 unfold BW C2
 rw [TR (by omega) (fun x hx=>by obtain ⟨i,i0,i1,rfl⟩:=FF hx; exact (hi.map.node i i0 i1).1) (by omega),bs,
  TR (by omega) (fun x hx=>by obtain ⟨i,i0,i1,rfl⟩:=FF hx; exact (hi.map.edge i i0 i1).1) (by omega),bs,Xz hf,bs]
 dsimp only
 refine KD fun h0=>?_
 obtain ⟨e1,e2⟩:=Sz h0
 rw [P8 (F:=fun y=>Kq c.Pattern s.h y m.Vars) e1]
 ·rfl
 ·intro i st i0 i1 hl
  have hm:=e2 _ (AO i0 i1)
  have hg:(m.Vars.length:Int)<=c.Pattern.Vars:=by have:=ha.len; have:=hi.vars; omega
  rw [AF i0 i1,bs,cT hi.q (fun x hx=>Mt (GG hv) hi.q hh hm hx) hg ha.small,bs,←IT]
  split
  ·rw [DI (by simp; unfold B0; omega)]; rfl
  ·rfl
theorem WX {t:AD} {h:AY} {inj:Bool} {p:Pattern} {c:AB} {m:AH} (hf:BV t) (hv:(BC t).2=0) (hh:Jg t h) (ha:Qa t p h m) (hi:Vu t p c):GQ t c h m inj=some (C2 t c h m inj):=by
 have gn:=hi.q.g.nodes
 have ge:=hi.q.g.edges
 have m1:=hi.map.nlen
 have m2:=hi.map.elen
 have m3:=ha.m.nlen
 have m4:=ha.m.elen
 unfold GQ C2
 rw [TY (by omega) (fun x hx=>by obtain ⟨i,i0,i1,rfl⟩:=FF hx; exact (hi.map.node i i0 i1).1) (by omega),bs,
  TY (by omega) (fun x hx=>by obtain ⟨i,i0,i1,rfl⟩:=FF hx; exact (hi.map.edge i i0 i1).1) (by omega),bs,X7 hf,bs]
 dsimp only
 refine KD fun h0=>?_
 obtain ⟨e1,e2⟩:=Sz h0
 rw [P8 (F:=fun y=>Kq c.Pattern h y m.Vars) e1]
 ·rfl
 ·intro i st i0 i1 hl
  have hm:=e2 _ (AO i0 i1)
  have hg:(m.Vars.length:Int)<=c.Pattern.Vars:=by have:=ha.len; have:=hi.vars; omega
  rw [AF i0 i1,bs,ce hi.q (fun x hx=>Mt (GG hv) hi.q hh hm hx) hg ha.small,bs,←IT]
  split
  ·rw [bs,DI (by simp; unfold B0; omega)]; rfl
  ·rfl
theorem Pq {t:AD} {h:AY} {inj:Bool} {p:Pattern} {c:AB} {m:AH} (hv:(BC t).2=0) (hh:Jg t h) (ha:Qa t p h m) (hi:Vu t p c) (e:(C2 t c h m inj).2=0):(C2 t c h m inj).1.length<=5000∧∀ x∈(C2 t c h m inj).1,Qa t c.Pattern h x:=by
 unfold C2 at e ⊢
 dsimp only at e ⊢
 split at e
 ·rename_i h1; exact absurd e h1
 rename_i h1
 rw [if_neg h1]
 obtain ⟨e1,e2⟩:=Sz (Classical.not_not.1 h1)
 refine ⟨by dsimp only; rw [List.length_map]; exact Nat.le_trans (List.length_filter_le _ _) e1,fun x hx=>?_⟩
 dsimp only at hx
 rw [List.mem_map] at hx
 obtain ⟨y,hy,rfl⟩:=hx
 rw [List.mem_filter] at hy
 have hm:=e2 y hy.1
 have hg:(m.Vars.length:Int)<=c.Pattern.Vars:=by have:=ha.len; have:=hi.vars; omega
 have:=Yr hi.q (fun x hx=>Mt (GG hv) hi.q hh hm hx) hg ha.small hy.2
 exact ⟨hi.q,hm,this.1,this.2⟩
end Go.Sf.Sc
