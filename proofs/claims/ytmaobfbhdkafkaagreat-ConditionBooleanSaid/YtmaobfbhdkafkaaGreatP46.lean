/- Plain lemmas: what the functions of the program and of the reference compute. -/
import Derived.Test.YtmaobfbhdkafkaaGreatP25
set_option maxRecDepth 100000
namespace Go.Sf.Sc
open Go Go.Sf
theorem Oz {all:List Attr} {k:Int} (h:LA all k=0) (hn:(AB all k).Names.length<=1000):-1000000<=(AB all k).Low∧(AB all k).High<=1000000:=by
 unfold LA at h
 dsimp only at h
 split at h
 ·cases h
 split at h
 ·cases h
 split at h
 ·split at h
  ·rename_i hc; exact ⟨hc.1,hc.2.2⟩
  ·cases h
 split at h
 ·rename_i hc; exact absurd h hc
 split at h
 ·rename_i hc; omega
 ·cases h
theorem Vh {t:Types} {i:Int} (h:Iw t i=0):∀ k,((AZ t i).length:Int) - (AB t.Nodes i).Attrs.length<=k->k<(AZ t i).length->LA (AZ t i) k=0:=by
 unfold Iw at h
 dsimp only at h
 split at h
 ·cases h
 split at h
 ·cases h
 split at h
 ·cases h
 split at h
 ·cases h
 exact R5 h
theorem NJ {t:Types} {n:Nat} {a:Int} (h0:0<=a):CD t (n+1) a=CD t n (par t a)++(AB t.Nodes a).Attrs:=by
 rw [CD,if_neg (by omega)]
theorem ZW {all:List Attr} {k:Int} (h:LA all k=0) (hn:(AB all k).Names.length<=1000):(AB all k).Low<=(AB all k).High:=by
 unfold LA at h
 dsimp only at h
 split at h
 ·cases h
 split at h
 ·cases h
 split at h
 ·split at h
  ·rename_i hc; exact hc.2.1
  ·cases h
 split at h
 ·rename_i hc; exact absurd h hc
 split at h
 ·rename_i hc; omega
 ·cases h
theorem O0 {t:Types} (hf:BV t) (h:GR t) {Q:Attr->Prop} (Oz:∀ {all:List Attr} {k:Int},LA all k=0->(AB all k).Names.length<=1000->Q (AB all k)):∀ (n:Nat) (a:Int),a<t.Nodes.length->a<n->∀ x∈CD t n a,Q x
 | 0,_,_,_=>by simp [CD]
 | n+1,a,ha,hn=>by
  by_cases h0:a<0
  ·rw [IM h0]; simp
  ·have hp:=h.par a (by omega) ha
   intro x hx
   rw [NJ (by omega)] at hx
   rcases List.mem_append.1 hx with hx | hx
   ·exact O0 hf h Oz n (par t a) (by omega) (by omega) x hx
   ·obtain ⟨j,j0,j1,rfl⟩:=EP hx
    have e:AZ t a=CD t a.toNat (par t a)++(AB t.Nodes a).Attrs:=by
     unfold AZ
     rw [show (a+1).toNat=a.toNat+1 by omega,NJ (by omega)]
    have hl:(AZ t a).length=(CD t a.toNat (par t a)).length+(AB t.Nodes a).Attrs.length:=by rw [e,List.length_append]
    have h1:=Vh (h.node a (by omega) ha) ((CD t a.toNat (par t a)).length+j) (by omega) (by omega)
    have e2:AB (AZ t a) ((CD t a.toNat (par t a)).length+j)=AB (AB t.Nodes a).Attrs j:=by
     rw [e,S1,if_neg (by omega)]
     unfold AB
     congr 1
     omega
    have hm:=Lb hf (Int.le_refl _) h.par ha (AB (AZ t a) ((CD t a.toNat (par t a)).length+j)) (AN (by omega) (by omega))
    have:=Oz h1 (by have:=hm.names; omega)
    rwa [e2] at this
theorem Rr {t:Types} (hf:BV t) (h:GR t) {a:Int} (h0:0<=a) (ha:a<t.Nodes.length):∀ x∈AZ t a,-1000000<=x.Low∧x.High<=1000000:=O0 hf h Oz _ a ha (by omega)
theorem X3 {t:Types} (hf:BV t) (h:GR t) {a:Int} (h0:0<=a) (ha:a<t.Nodes.length):∀ x∈AZ t a,x.Low<=x.High:=O0 hf h ZW _ a ha (by omega)
theorem Th {t:Types} {k:Int} (hp:FN t k):∀ (n:Nat) (a b:Int),a<k->a<n->b∈M2 t n a->0<=b∧b<=a∧(AZ t b).length<=(CD t n a).length
 | 0,_,_,_,_=>by simp [M2]
 | n+1,a,b,ha,hn=>by
  intro hb
  rw [M2] at hb
  split at hb
  ·cases hb
  ·rename_i h0
   have hq:=hp a (by omega) ha
   rw [NJ (by omega)]
   rcases List.mem_cons.1 hb with rfl | hb
   ·refine ⟨by omega,by omega,?_⟩
    unfold AZ
    rw [LO hp (b+1).toNat (n+1) b ha (by omega) (by omega),NJ (by omega)]
    exact Nat.le_refl _
   ·have:=Th hp n (par t a) b (by omega) (by omega) hb
    refine ⟨this.1,by omega,?_⟩
    rw [List.length_append]; omega
theorem YN {t:Types} (h:GR t) {a b:Int} (ha:a<t.Nodes.length) (hb:IW t a b=true):(AZ t b).length<=(AZ t a).length:=by
 unfold IW at hb
 rw [List.any_eq_true] at hb
 obtain ⟨x,hx,e⟩:=hb
 rw [zzX] at e
 subst e
 by_cases h0:a<0
 ·have:(a+1).toNat=0:=by omega
  rw [this] at hx; cases hx
 ·exact (Th h.par (a+1).toNat a b ha (by omega) hx).2.2
theorem Ww {α:Type} {a b:Int} {Q:Prop} [Decidable Q] {v:α} {X:Option α} {Y:α} (he:a=b↔Q) (h:Q->X=some Y):(if (!decide (a=b))=true then some v else X)=some (if ¬ Q then v else Y):=by
 by_cases hq:Q
 ·rw [if_neg (by simp [he.2 hq]),if_neg (by simpa using hq),h hq]
 ·rw [if_pos (by simp; exact fun e=>hq (he.1 e)),if_pos hq]
def Pp (t:Types) (k:Int) (v:List Int) (j:Int):Bool:=decide (AB v j<(AB (AZ t k) j).Low)||decide ((AB (AZ t k) j).High<AB v j)
def Jh (t:Types) (k:Int) (v:List Int):Int:=
 if (t.Nodes.length:Int)<=k then 6 else if (AB t.Nodes k).Abstract=true then 13 else if ¬ v.length=(AZ t k).length then 20 else
 if anyR (Pp t k v) 0 (AZ t k).length=true then 6 else 0
def Kv (t:Types) (g:Graph) (i:Int):Int:=
 if (t.Edges.length:Int)<=(AB g.Edges i).Type' then 6 else if RT t g i=false then 13 else 0
def Mc (t:Types) (h:AY):Int × Int:=
 if (A7 t).2≠0 then (-1,(A7 t).2) else if C1 h.Graph≠0 then (-1,C1 h.Graph) else if ¬ h.Values.length=h.Graph.Nodes.length then (-1,20) else
 match fst (fun i=>(nz (Jh t (AB h.Graph.Nodes i) (AB h.Values i))).map fun e=>(i,e)) 0 h.Graph.Nodes.length with
 | some r=>r
 | none=>(fst (fun i=>(nz (Kv t h.Graph i)).map fun e=>(i,e)) 0 h.Graph.Edges.length).getD (-1,0)
theorem Nz {t:Types} (hv:(A7 t).2=0) {k:Int} (h0:0<=k) (h1:k<t.Nodes.length):H3 t k=(AZ t k,0):=by
 unfold H3
 rw [if_neg (by simp [hv]),if_pos (LQ.2 ⟨h0,h1⟩)]
theorem WI {x:Bool} {y:Bool}:(if x=true then some true else some y)=some (x||y):=by cases x <;> rfl
theorem cu {t:Types} (hf:BV t) (hv:(A7 t).2=0) {k:Int} (h0:0<=k) (v:List Int):JG t k v=some (Jh t k v):=by
 unfold JG Jh
 by_cases h1:(t.Nodes.length:Int)<=k
 ·rw [if_pos (by simpa using h1),if_pos h1]
 rw [if_neg (by simpa using h1),if_neg h1,AF h0 (by omega),bs]
 refine nj fun _=>?_
 rw [WL hf,Nz hv h0 (by omega),bs]
 refine Ww (by simp only []; omega) fun hl=>?_
 rw [CE (Pp t k v) 6]
 ·cases anyR (Pp t k v) 0 (AZ t k).length <;> rfl
 ·intro j j0 j1 _
  have j1:j<(AZ t k).length:=j1
  rw [AF j0 j1,bs,AF j0 (by omega)]
  simp only [bs,WI]
  unfold Pp
  cases decide (AB v j<(AB (AZ t k) j).Low) <;> cases decide ((AB (AZ t k) j).High<AB v j) <;> rfl
theorem c9 {t:Types} (hf:BV t) (hv:(A7 t).2=0) {k:Int} (h0:0<=k) (v:List Int):L4 t k v=some (Jh t k v):=by
 unfold L4 Jh
 by_cases h1:(t.Nodes.length:Int)<=k
 ·rw [if_pos (by simpa using h1),if_pos h1]
 rw [if_neg (by simpa using h1),if_neg h1,AF h0 (by omega),bs]
 refine nj fun _=>?_
 rw [Q5 hf,Nz hv h0 (by omega),bs]
 refine Ww (by simp only []; omega) fun hl=>?_
 rw [CE (Pp t k v) 6]
 ·cases anyR (Pp t k v) 0 (AZ t k).length <;> rfl
 ·intro j j0 j1 _
  have j1:j<(AZ t k).length:=j1
  rw [AF j0 (by omega),bs,AF j0 j1]
  simp only [bs,WI]
  unfold Pp
  cases decide (AB v j<(AB (AZ t k) j).Low) <;> cases decide ((AB (AZ t k) j).High<AB v j) <;> rfl
theorem Uj (e i:Int):(if (!decide (e=0))=true then some (B8.ret (σ:=Unit) (ρ:=Int × Int) (i,e)) else some (.next ()))=some (OO ((nz e).map fun e=>(i,e))):=by
 unfold nz
 by_cases h:e=0 <;> simp [h,OO]
theorem YY {t:Types} (hf:BV t) (h:AY):HZ t h=some (Mc t h):=by
 unfold HZ Mc
 rw [Q3 hf,bs]
 refine Ng fun hv=>?_
 rw [NY,bs]
 refine Ng fun hg=>?_
 have go:=E3 hg
 refine Ww (by omega) fun hl=>?_
 rw [CX (fun i=>(nz (Jh t (AB h.Graph.Nodes i) (AB h.Values i))).map fun e=>(i,e)),GJ]
 ·cases hn:fst (fun i=>(nz (Jh t (AB h.Graph.Nodes i) (AB h.Values i))).map fun e=>(i,e)) 0 h.Graph.Nodes.length with
  | some r=>rfl
  | none=>
   have hn2:=CY.1 hn
   dsimp only
   rw [CX (fun i=>(nz (Kv t h.Graph i)).map fun e=>(i,e)),GJ]
   ·cases fst (fun i=>(nz (Kv t h.Graph i)).map fun e=>(i,e)) 0 h.Graph.Edges.length <;> rfl
   ·intro i i0 i1 _
    have hfi:=go.fit _ (AN (l:=h.Graph.Edges) i0 i1)
    rw [AF i0 i1,bs]
    unfold Kv RT
    by_cases h1:(t.Edges.length:Int)<=(AB h.Graph.Edges i).Type'
    ·rw [if_pos (by simpa using h1),if_pos h1]; rfl
    ·rw [if_neg (by simpa using h1),if_neg h1,AF (by omega) (by omega),bs,AF (by omega) (by omega),bs,fQ hf,bs]
     cases Pa t (AB h.Graph.Edges i).Type' (AB h.Graph.Nodes (AB h.Graph.Edges i).From) (AB h.Graph.Nodes (AB h.Graph.Edges i).To) <;> rfl
 ·intro i i0 i1 _
  rw [AF i0 i1,bs,AF i0 (by omega),bs,cu hf hv (go.kind _ (AN i0 i1)).1,bs]
  exact Uj _ i
theorem fi {t:Types} (hf:BV t) (h:AY):K4 t h=some (Mc t h):=by
 unfold K4 Mc
 rw [Q6 hf,bs]
 refine Ng fun hv=>?_
 rw [Na,bs]
 refine Ng fun hg=>?_
 have go:=E3 hg
 refine Ww (by omega) fun hl=>?_
 rw [CX (fun i=>(nz (Jh t (AB h.Graph.Nodes i) (AB h.Values i))).map fun e=>(i,e)),GJ]
 ·cases hn:fst (fun i=>(nz (Jh t (AB h.Graph.Nodes i) (AB h.Values i))).map fun e=>(i,e)) 0 h.Graph.Nodes.length with
  | some r=>rfl
  | none=>
   have hn2:=CY.1 hn
   dsimp only
   rw [CX (fun i=>(nz (Kv t h.Graph i)).map fun e=>(i,e)),GJ]
   ·cases fst (fun i=>(nz (Kv t h.Graph i)).map fun e=>(i,e)) 0 h.Graph.Edges.length <;> rfl
   ·intro i i0 i1 _
    have hfi:=go.fit _ (AN (l:=h.Graph.Edges) i0 i1)
    rw [AF i0 i1,bs]
    unfold Kv RT
    by_cases h1:(t.Edges.length:Int)<=(AB h.Graph.Edges i).Type'
    ·rw [if_pos (by simpa using h1),if_pos h1]; rfl
    ·rw [if_neg (by simpa using h1),if_neg h1,AF (by omega) (by omega),bs,AF (by omega) (by omega),bs,Yh hf,bs]
     cases Pa t (AB h.Graph.Edges i).Type' (AB h.Graph.Nodes (AB h.Graph.Edges i).From) (AB h.Graph.Nodes (AB h.Graph.Edges i).To) <;> rfl
 ·intro i i0 i1 _
  rw [AF i0 i1,bs,AF i0 (by omega),bs,c9 hf hv (go.kind _ (AN i0 i1)).1,bs]
  exact Uj _ i
structure LX (t:Types) (h:AY):Prop where
 g:Jp h.Graph
 len:h.Values.length=h.Graph.Nodes.length
 kind:∀ i:Int,0<=i->i<h.Graph.Nodes.length->0<=AB h.Graph.Nodes i∧AB h.Graph.Nodes i<t.Nodes.length
 row:∀ i:Int,0<=i->i<h.Graph.Nodes.length->(AB h.Values i).length=(AZ t (AB h.Graph.Nodes i)).length
 low:∀ i:Int,0<=i->i<h.Graph.Nodes.length->∀ x∈AB h.Values i,-1000000<=x∧x<=1000000
 ge:C1 h.Graph=0
 ty:E5 t h.Graph=true
theorem WA {t:Types} (hf:BV t) {h:AY} (e:(Mc t h).2=0):(A7 t).2=0∧LX t h:=by
 unfold Mc at e
 split at e
 ·rename_i h1; exact absurd e h1
 split at e
 ·rename_i h1; exact absurd e h1
 split at e
 ·cases e
 rename_i h1 h2 h3
 have hv:=Classical.not_not.1 h1
 have go:=E3 (Classical.not_not.1 h2)
 have hn:∀ i:Int,0<=i->i<h.Graph.Nodes.length->Jh t (AB h.Graph.Nodes i) (AB h.Values i)=0:=by
  split at e
  ·rename_i r hr
   obtain ⟨i,_,_,k,_⟩:=FD hr
   unfold nz at k
   split at k
   ·cases k
   ·rename_i hne; cases k; exact absurd e hne
  ·rename_i hr
   exact fun i i0 i1=>NX.1 (MR.1 (CY.1 hr i i0 i1))
 have hk:∀ i:Int,0<=i->i<h.Graph.Nodes.length->(0<=AB h.Graph.Nodes i∧AB h.Graph.Nodes i<t.Nodes.length)∧(AB h.Values i).length=(AZ t (AB h.Graph.Nodes i)).length∧∀ j:Int,0<=j->j<(AZ t (AB h.Graph.Nodes i)).length->Pp t (AB h.Graph.Nodes i) (AB h.Values i) j=false:=by
  intro i i0 i1
  have k0:=(go.kind _ (AN i0 i1)).1
  have:=hn i i0 i1
  unfold Jh at this
  split at this
  ·cases this
  split at this
  ·cases this
  split at this
  ·cases this
  split at this
  ·cases this
  rename_i a1 a2 a3 a4
  exact ⟨⟨k0,by omega⟩,Classical.not_not.1 a3,DW.1 (by simpa using a4)⟩
 have he:∀ i:Int,0<=i->i<h.Graph.Edges.length->Kv t h.Graph i=0:=by
  have hn':fst (fun i=>(nz (Jh t (AB h.Graph.Nodes i) (AB h.Values i))).map fun e=>(i,e)) 0 h.Graph.Nodes.length=none:=CY.2 fun i i0 i1=>by rw [hn i i0 i1]; rfl
  rw [hn'] at e
  dsimp only at e
  cases hr:fst (fun i=>(nz (Kv t h.Graph i)).map fun e=>(i,e)) 0 h.Graph.Edges.length with
  | some r=>
   rw [hr] at e
   obtain ⟨i,_,_,k,_⟩:=FD hr
   unfold nz at k
   split at k
   ·cases k
   ·rename_i hne; cases k; exact absurd e hne
  | none=>exact fun i i0 i1=>NX.1 (MR.1 (CY.1 hr i i0 i1))
 have hty:E5 t h.Graph=true:=by
  unfold E5
  rw [zzZ,Bool.not_eq_true',Bool.not_eq_true',List.any_eq_false,List.any_eq_false]
  refine ⟨fun n hn=>?_,fun x hx=>?_⟩
  ·obtain ⟨i,i0,i1,rfl⟩:=EP hn
   have:=(hk i i0 i1).1.2
   simp; omega
  ·obtain ⟨i,i0,i1,rfl⟩:=EP hx
   have:=he i i0 i1
   unfold Kv at this
   split at this
   ·cases this
   ·simp; omega
 suffices hlow:∀ i:Int,0<=i->i<h.Graph.Nodes.length->∀ x∈AB h.Values i,-1000000<=x∧x<=1000000 from ⟨hv,go,Classical.not_not.1 h3,fun i i0 i1=>(hk i i0 i1).1,fun i i0 i1=>(hk i i0 i1).2.1,hlow,Classical.not_not.1 h2,hty⟩
 intro i i0 i1 x hx
 obtain ⟨k1,k2,k3⟩:=hk i i0 i1
 obtain ⟨j,j0,j1,rfl⟩:=EP hx
 have:=k3 j j0 (by omega)
 unfold Pp at this
 simp only [Bool.or_eq_false_iff,decide_eq_false_iff_not] at this
 have:=Rr hf (GF hv) k1.1 k1.2 _ (AN (l:=AZ t (AB h.Graph.Nodes i)) j0 (by omega))
 omega
end Go.Sf.Sc
namespace Go.Sf.Sc
open Go Go.Sf
def Lf (t:Types) (p g:Graph) (m:Morphism) (i:Int):Option Int:=
 if AB m.Nodes i<0∨g.Nodes.length<=AB m.Nodes i then some 6 else if IW t (AB g.Nodes (AB m.Nodes i)) (AB p.Nodes i)=false then some 13 else none
def OK (t:Types) (p g:Graph) (m:Morphism):Int:=
 if m.Nodes.length≠p.Nodes.length∨m.Edges.length≠p.Edges.length then 20 else
 match fst (Lf t p g m) 0 m.Nodes.length with
 | some e=>e
 | none=>(fst (IX p g m) 0 m.Edges.length).getD 0
def Kn (t:Types) (p g:Graph) (m:Morphism) (inj:Bool):Int:=
 if GO t p g≠0 then GO t p g else if OK t p g m≠0 then OK t p g m else if (inj&&!M7 m)=true then 5 else 0
structure T4 (t:Types) (p g:Graph) (m:Morphism):Prop where
 nlen:m.Nodes.length=p.Nodes.length
 elen:m.Edges.length=p.Edges.length
 node:∀ i:Int,0<=i->i<m.Nodes.length->(0<=AB m.Nodes i∧AB m.Nodes i<g.Nodes.length)∧IW t (AB g.Nodes (AB m.Nodes i)) (AB p.Nodes i)=true
 edge:∀ i:Int,0<=i->i<m.Edges.length->0<=AB m.Edges i∧AB m.Edges i<g.Edges.length
theorem Pd {t:Types} {p g:Graph} (h:GO t p g=0):(A7 t).2=0∧Jp p∧Jp g∧(∀ n∈p.Nodes,0<=n∧n<t.Nodes.length)∧∀ n∈g.Nodes,0<=n∧n<t.Nodes.length:=by
 unfold GO at h
 split at h
 ·rename_i h1; exact absurd h h1
 split at h
 ·rename_i h1; exact absurd h h1
 split at h
 ·rename_i h1; exact absurd h h1
 split at h
 ·rename_i h1 h2 h3 h4
  rw [zzZ] at h4
  have gp:=E3 (Classical.not_not.1 h2)
  have gg:=E3 (Classical.not_not.1 h3)
  exact ⟨Classical.not_not.1 h1,gp,gg,(MX gp h4.1).1,(MX gg h4.2).1⟩
 ·cases h
theorem WX {t:Types} {p g:Graph} {m:Morphism} (h:OK t p g m=0):T4 t p g m:=by
 unfold OK at h
 split at h
 ·cases h
 rename_i h3
 have hn:fst (Lf t p g m) 0 m.Nodes.length=none:=by
  split at h
  ·rename_i r hr
   obtain ⟨i,_,_,k,_⟩:=FD hr
   subst h
   unfold Lf at k
   split at k
   ·cases k
   ·split at k <;> cases k
  ·assumption
 rw [hn] at h
 have he:=TF (fun i=>by
  unfold IX
  split
  ·simp
  ·split
   ·simp
   ·split <;> simp) h
 refine ⟨by omega,by omega,fun i i1 i2=>?_,fun i i1 i2=>?_⟩
 ·have:=CY.1 hn i i1 i2
  unfold Lf at this
  split at this
  ·cases this
  ·split at this
   ·cases this
   ·rename_i x y
    exact ⟨by omega,by simpa using y⟩
 ·have:=he i i1 i2
  unfold IX at this
  split at this
  ·cases this
  ·omega
theorem Yd {t:Types} (hf:BV t) {p g:Graph} (hg:GO t p g=0) (m:Morphism):HE t p g m=some (OK t p g m):=by
 obtain ⟨hv,gp,gg,tp,tg⟩:=Pd hg
 unfold HE OK
 refine P5 (by simp; try omega) fun hl=>?_
 rw [bT hf (GF hv) hv,bs,CX (Lf t p g m),GJ]
 ·cases hn:fst (Lf t p g m) 0 m.Nodes.length with
  | some e=>rfl
  | none=>
   dsimp only
   rw [CX (IX p g m),GD]
   intro i i1 i2 _
   unfold IX
   rw [AF i1 i2,bs]
   by_cases h1:AB m.Edges i<0∨g.Edges.length<=AB m.Edges i
   ·rw [if_pos (by simpa using h1),if_pos h1]; rfl
   ·have hf:=gp.fit _ (AN (l:=p.Edges) i1 (by omega))
    rw [if_neg (by simpa using h1),if_neg h1,AF i1 (by omega),bs,AF (by omega) (by omega),bs]
    by_cases h2:(AB p.Edges i).Type'=(AB g.Edges (AB m.Edges i)).Type'
    ·rw [if_neg (by simpa using h2),if_neg (by simpa using h2),AF (by omega) (by omega),bs]
     by_cases h3:AB m.Nodes (AB p.Edges i).From=(AB g.Edges (AB m.Edges i)).From
     ·rw [if_neg (by simpa using h3),AF (by omega) (by omega),bs,bs]
      by_cases h4:AB m.Nodes (AB p.Edges i).To=(AB g.Edges (AB m.Edges i)).To
      ·rw [if_neg (by simpa using h4),if_neg (by simp [h3,h4])]; rfl
      ·rw [if_pos (by simpa using h4),if_pos (.inr h4)]; rfl
     ·rw [if_pos (by simpa using h3),bs,if_pos rfl,if_pos (.inl h3)]; rfl
    ·rw [if_pos (by simpa using h2),if_pos h2]; rfl
 ·intro i i1 i2 _
  unfold Lf
  rw [AF i1 i2,bs]
  by_cases h1:AB m.Nodes i<0∨g.Nodes.length<=AB m.Nodes i
  ·rw [if_pos (by simpa using h1),if_pos h1]; rfl
  ·have kp:=tp _ (AN (l:=p.Nodes) i1 (by omega))
   have kg:=tg _ (AN (l:=g.Nodes) (show 0<=AB m.Nodes i by omega) (by omega))
   rw [if_neg (by simpa using h1),if_neg h1,AF i1 (by omega),bs,AF kp.1 (by unfold JW; rw [List.length_map,DE]; exact kp.2),bs,AF (by omega) (by omega),bs]
   have e:AB (JW t) (AB p.Nodes i)=J5 t (AB p.Nodes i):=by unfold JW; exact LV (J5 t) kp.1 kp.2
   rw [e,AF kg.1 (by unfold J5; rw [List.length_map,DE]; exact kg.2),bs]
   have e2:AB (J5 t (AB p.Nodes i)) (AB g.Nodes (AB m.Nodes i))=IW t (AB g.Nodes (AB m.Nodes i)) (AB p.Nodes i):=by unfold J5; exact LV (fun k=>IW t k (AB p.Nodes i)) kg.1 kg.2
   rw [e2]
   cases IW t (AB g.Nodes (AB m.Nodes i)) (AB p.Nodes i) <;> rfl
theorem WQ {l:List Int} (hl:l.length<=1000):IB l=some (!ML l):=by
 unfold IB
 rw [if_pos (by omega)]
 congr 1
 have h1:=RS l
 have h2:=MM (l:=l)
 cases hd:dupB l with
 | false=>rw [h2.2 (h1.1 hd)]; rfl
 | true=>
  cases he:ML l with
  | false=>rfl
  | true=>rw [h1.2 (h2.1 he)] at hd; cases hd
theorem WN {t:Types} (hf:BV t) (p g:Graph) (m:Morphism) (inj:Bool):F7 t p g m inj=some (Kn t p g m inj):=by
 unfold F7 Kn
 rw [WR hf,bs]
 refine IN fun hg=>?_
 rw [Yd hf hg,bs]
 refine IN fun hs=>?_
 obtain ⟨_,gp,gg,_⟩:=Pd hg
 have mo:=WX hs
 have:=gp.nodes; have:=gp.edges; have:=mo.nlen; have:=mo.elen
 rw [WQ (by omega),WQ (by omega)]
 unfold M7
 cases inj <;> cases ML m.Nodes <;> cases ML m.Edges <;> rfl
theorem X8 {t:Types} {p g:Graph} {m:Morphism} {inj:Bool} (h:Kn t p g m inj=0):GO t p g=0∧T4 t p g m:=by
 unfold Kn at h
 split at h
 ·rename_i h1; exact absurd h h1
 split at h
 ·rename_i h1; exact absurd h h1
 rename_i h1 h2
 exact ⟨Classical.not_not.1 h1,WX (Classical.not_not.1 h2)⟩
end Go.Sf.Sc
namespace Go.Sf.Sc
open Go Go.Sf
section
variable {α σ ρ:Type}
def HC (step:α->σ->B8 σ ρ):List α->σ->σ ⊕ ρ
 | [],s=>.inl s
 | a::r,s=>match step a s with
  | .next s'=>HC step r s'
  | .brk s'=>.inl s'
  | .ret r=>.inr r
theorem Qe [Inhabited α] {l:List α} {f:Int->σ->Option (B8 σ ρ)} (step:α->σ->B8 σ ρ) (I:σ->Prop) (h:∀ (i:Int) s,0<=i->i<l.length->I s->f i s=some (step (AB l i) s)∧∀ s',step (AB l i) s=.next s'->I s') :
  ∀ (n:Nat) (a:Int) (s:σ),0<=a->a+n=l.length->I s->forGo f n a s=some (HC step (l.drop a.toNat) s)
 | 0,a,s,h0,h1,_=>by
  rw [List.drop_eq_nil_of_le (by omega)]; rfl
 | n+1,a,s,h0,h1,hs=>by
  obtain ⟨h2,h3⟩:=h a s h0 (by omega) hs
  have hd:l.drop a.toNat=AB l a::l.drop (a+1).toNat:=by
   rw [show (a+1).toNat=a.toNat+1 by omega,List.drop_eq_getElem_cons (by omega)]
   congr 1
   unfold AB
   rw [List.getD_eq_getElem?_getD,List.getElem?_eq_getElem (by omega)]; rfl
  rw [F4,h2,hd,HC]
  cases hc:step (AB l a) s with
  | next s'=>
   simp only
   exact Qe step I h n (a+1) s' (by omega) (by omega) (h3 s' hc)
  | brk s'=>rfl
  | ret r=>rfl
theorem Qd [Inhabited α] {l:List α} {f:Int->σ->Option (B8 σ ρ)} (step:α->σ->B8 σ ρ) (I:σ->Prop) {s:σ} (hs:I s) (h:∀ (i:Int) s,0<=i->i<l.length->I s->f i s=some (step (AB l i) s)∧∀ s',step (AB l i) s=.next s'->I s') :
  forR f 0 l.length s=some (HC step l s):=by
 have:=Qe step I h l.length 0 s (by omega) (by omega) hs
 unfold forR
 rw [show ((l.length:Int) - 0).toNat=l.length by omega]
 exact this
theorem VB [Inhabited α] (step:α->σ->B8 σ ρ) (I:σ->Prop):∀ (l:List α) (s s':σ),I s->(∀ a∈l,∀ s s',I s->step a s=.next s'->I s')->(∀ a∈l,∀ s s',step a s≠.brk s')->HC step l s=.inl s'->I s'
 | [],s,s',h,_,_,e=>by cases e; exact h
 | a::r,s,s',h,hn,hb,e=>by
  rw [HC] at e
  split at e
  ·rename_i s2 h2
   exact VB step I r s2 s' (hn a (by simp) s s2 h h2) (fun a ha=>hn a (by simp [ha])) (fun a ha=>hb a (by simp [ha])) e
  ·rename_i s2 h2; exact absurd h2 (hb a (by simp) _ _)
  ·cases e
end
def EN (x:Term) (l:List Int):Int:=if x.Var<0 then x.Add else AI (AB l x.Var+x.Add)
theorem Qk {x:Term} {l:List Int} (h:x.Var<l.length):EW x l=some (EN x l):=by
 unfold EW EN
 by_cases h0:x.Var<0
 ·rw [if_pos (by simpa using h0),if_pos h0]
 ·rw [if_neg (by simpa using h0),if_neg h0,AF (by omega) h]; rfl
theorem Yp {x:Term} {l:List Int} (h:x.Var<l.length):Jy x l=some (EN x l):=Qk h
theorem Zu {x:Term} {l:List Int} (h0:-1<=x.Var) (h:x.Var<l.length) (hl:l.length<=1000):GT x l=some (EN x l,0):=by
 unfold GT C8
 rw [AW (by omega) (by omega),bs,if_neg (by simp; omega),Qk h]; rfl
def J6 (x:Test) (l:List Int):Bool:=(decide (x.Kind=1)&&decide (EN x.Left l<=EN x.Right l))||(decide (x.Kind=2)&&decide (EN x.Left l=EN x.Right l))
structure IK (n:Int) (x:Term):Prop where
 low:-1<=x.Var
 high:x.Var<n
 add:-1000000<=x.Add∧x.Add<=1000000
def Nd (l:List Int):Prop:=∀ x∈l,-2000000<=x∧x<=2000000
theorem P3 {n:Int} {x:Term} (h:IK n x) {l:List Int} (hl:Nd l) (hn:n<=l.length):EN x l=(if x.Var<0 then x.Add else AB l x.Var+x.Add)∧-3000000<=EN x l∧EN x l<=3000000:=by
 unfold EN
 have:=h.add
 by_cases h0:x.Var<0
 ·rw [if_pos h0,if_pos h0]; omega
 ·have hh:=h.high
  have:=hl _ (AN (l:=l) (show 0<=x.Var by omega) (by omega))
  rw [if_neg h0,if_neg h0,AW (by omega) (by omega)]; omega
theorem TW {n:Int} {x:Term} (h:IK n x) {l:List Int} (hn:n<=l.length):Jq x l=some (EN x l,true):=by
 have h1:=h.low
 have h2:=h.high
 unfold Jq EN
 by_cases h0:x.Var=-1
 ·rw [if_pos (by simpa using h0),if_pos (by omega)]
 ·rw [if_neg (by simpa using h0),if_neg (by simp; omega),if_neg (by omega),AF (by omega) (by omega)]; rfl
theorem r_holds {n:Int} {x:Test} (h1:IK n x.Left) (h2:IK n x.Right) {l:List Int} (hn:n<=l.length):K0 x l=some (J6 x l):=by
 unfold K0
 rw [TW h1 hn,TW h2 hn]; rfl
theorem Ti {a b:Int} (ha:-4000000<=a∧a<=4000000) (hb:-4000000<=b∧b<=4000000):HH a b=some (if a+b<0 then (-1,a+b+18446744073709551616) else (0,a+b)):=by
 have hw:∀ c:Int,IntKind.u64.wrap c=c % 18446744073709551616:=fun c=>by
  simp [IntKind.wrap,IntKind.signed,IntKind.bits]
 have hs:∀ c:Int,-4000000<=c∧c<=4000000->Kw .i64 .shr c 63=some (if c<0 then -1 else 0):=by
  intro c hc
  unfold Kw
  have e:c.fdiv (2 ^ (min (63:Int).toNat (IntKind.bits .i64)))=if c<0 then -1 else 0:=by
   show c.fdiv (2 ^ 63)=_
   rw [Int.fdiv_eq_ediv_of_nonneg _ (by decide)]
   split <;> omega
  simp only [e]
  have:(0:Int)<=63∧IntKind.min .i64<=(if c<0 then -1 else 0)∧(if c<0 then -1 else 0)<=IntKind.max .i64:=by
   split <;> decide
  rw [if_pos this]
 unfold HH IY
 rw [hw,hw,if_pos (by omega),bs,hs a ha,hs b hb,bs,bs]
 congr 1
 have wi:∀ c:Int,-10<=c->c<=10->AI c=c:=fun c h1 h2=>AW (by omega) (by omega)
 have hq:(a % 18446744073709551616+b % 18446744073709551616+0) / 18446744073709551616=if a<0∧b<0 then 1 else if (a<0∨b<0)∧0<=a+b then 1 else 0:=by
  split
  ·omega
  ·split <;> omega
 have hr:(a % 18446744073709551616+b % 18446744073709551616+0) % 18446744073709551616=if a+b<0 then a+b+18446744073709551616 else a+b:=by
  split <;> omega
 rw [hq,hr]
 by_cases h1:a<0 <;> by_cases h2:b<0
 ·simp only [h1,h2,and_self,if_true]
  rw [wi _ (by decide) (by decide),wi _ (by decide) (by decide),if_pos (by omega),if_pos (by omega)]; rfl
 ·by_cases h3:a+b<0
  ·simp only [h1,h2,and_false,if_true,if_false,true_or,true_and,h3,show ¬ 0<=a+b by omega]
   rw [wi _ (by decide) (by decide),wi _ (by decide) (by decide)]; rfl
  ·simp only [h1,h2,and_false,if_true,if_false,true_or,true_and,h3,show 0<=a+b by omega]
   rw [wi _ (by decide) (by decide),wi _ (by decide) (by decide)]; rfl
 ·by_cases h3:a+b<0
  ·simp only [h1,h2,false_and,if_true,if_false,or_true,true_and,h3,show ¬ 0<=a+b by omega]
   rw [wi _ (by decide) (by decide),wi _ (by decide) (by decide)]; rfl
  ·simp only [h1,h2,false_and,if_true,if_false,or_true,true_and,h3,show 0<=a+b by omega]
   rw [wi _ (by decide) (by decide),wi _ (by decide) (by decide)]; rfl
 ·have h3:¬ a+b<0:=by omega
  simp only [h1,h2,false_and,and_self,if_false,or_self,h3]
  rw [wi _ (by decide) (by decide),wi _ (by decide) (by decide)]; rfl
def Jb (a:Int):Int × Int:=if a<0 then (-1,a+18446744073709551616) else (0,a)
theorem Up {n:Int} {x:Term} (h:IK n x) {l:List Int} (hl:Nd l) (hn:n<=l.length):FJ x l=some ((Jb (EN x l)).1,(Jb (EN x l)).2,true):=by
 have h1:=h.low
 have h2:=h.high
 have h3:=h.add
 have hs:=(P3 h hl hn).1
 unfold FJ
 by_cases h0:x.Var=-1
 ·have e:EN x l=x.Add:=by rw [hs,if_pos (by omega)]
  rw [e,if_pos (by simpa using h0),Ti (by omega) (by omega),bs,Int.zero_add]; rfl
 ·have:=hl _ (AN (l:=l) (show 0<=x.Var by omega) (by omega))
  have e:EN x l=AB l x.Var+x.Add:=by rw [hs,if_neg (by omega)]
  rw [e,if_neg (by simpa using h0),if_neg (by simp; omega),AF (by omega) (by omega),bs,Ti (by omega) (by omega),bs]; rfl
theorem bM (a b:Int):IP a b=some (if a<b then -1 else if b<a then 1 else 0):=by
 unfold IP Jg
 simp only [bs,decide_true,Bool.not_true,Bool.false_eq_true,if_false,zzX]
 split
 ·rfl
 ·split <;> rfl
theorem l3 (a b:Int):IQ a b=some (if a<b then -1 else if b<a then 1 else 0):=bM a b
theorem eo (a b:Int):Lg [a,b]=some (if a=0 then b else a):=by
 unfold Lg
 show thenR (forGo _ 2 0 ()) _ _=_
 rw [F4,show AH [a,b] 0=some a from rfl,bs]
 by_cases ha:a=0
 ·rw [if_neg (by simp [ha]),if_pos ha]
  show thenR (forGo _ 1 (0+1) ()) _ _=_
  rw [F4,show AH [a,b] (0+1)=some b from rfl,bs]
  by_cases hb:b=0
  ·rw [if_neg (by simp [hb]),hb]; rfl
  ·rw [if_pos (by simp [hb])]; rfl
 ·rw [if_pos (by simp [ha]),if_neg ha]; rfl
theorem p_holds {n:Int} {x:Test} (h1:IK n x.Left) (h2:IK n x.Right) {l:List Int} (hl:Nd l) (hn:n<=l.length):GV x l=some (J6 x l):=by
 have s1:=(P3 h1 hl hn).2
 have s2:=(P3 h2 hl hn).2
 unfold GV J6
 rw [Up h1 hl hn,Up h2 hl hn]
 simp only [bs,Bool.not_true,Bool.or_self,Bool.false_eq_true,if_false,bM,l3,eo]
 generalize EN x.Left l=a at s1
 generalize EN x.Right l=b at s2
 have key:(if (if (Jb a).1<(Jb b).1 then (-1:Int) else if (Jb b).1<(Jb a).1 then 1 else 0)=0 then (if (Jb a).2<(Jb b).2 then (-1:Int) else if (Jb b).2<(Jb a).2 then 1 else 0) else (if (Jb a).1<(Jb b).1 then (-1:Int) else if (Jb b).1<(Jb a).1 then 1 else 0))=if a<b then -1 else if b<a then 1 else 0:=by
  unfold Jb
  by_cases ha:a<0 <;> by_cases hb:b<0 <;> simp only [ha,hb,if_true,if_false] <;> (repeat' split) <;> omega
 rw [key]
 congr 2
 ·congr 1
  rw [decide_eq_decide]
  repeat' split
  all_goals omega
 ·congr 1
  rw [decide_eq_decide]
  repeat' split
  all_goals omega
end Go.Sf.Sc
namespace Go.Sf.Sc
open Go Go.Sf
structure QI (t:Types) (q:Pattern):Prop where
 g:Jp q.Graph
 kind:∀ n∈q.Graph.Nodes,0<=n∧n<t.Nodes.length
 vars:0<=q.Vars∧q.Vars<=12
 few:q.Slots.length<=10∧q.Tests.length<=10
 slot:∀ s∈q.Slots,(0<=s.Node∧s.Node<q.Graph.Nodes.length)∧(0<=s.Attr∧s.Attr<(AZ t (AB q.Graph.Nodes s.Node)).length)∧IK q.Vars s.Term
 test:∀ x∈q.Tests,(x.Kind=1∨x.Kind=2)∧IK q.Vars x.Left∧IK q.Vars x.Right
 ge:C1 q.Graph=0
 ty:E5 t q.Graph=true
theorem VL {n:Int} {x:Term} (h:MA n x=true):IK n x:=by
 unfold MA at h
 simp only [zzZ,zzX] at h
 exact ⟨h.1.1.1,h.1.1.2,h.1.2,h.2⟩
theorem ay {n:Int} {l:List Test} (h:Jm n l=0):∀ x∈l,(x.Kind=1∨x.Kind=2)∧IK n x.Left∧IK n x.Right:=by
 unfold Jm at h
 split at h
 ·cases h
 split at h
 ·cases h
 have h2:=R5 h
 intro x hx
 obtain ⟨i,i0,i1,rfl⟩:=EP hx
 have:=h2 i i0 i1
 unfold Mr at this
 split at this
 ·cases this
 split at this
 ·rename_i h3 h4
  rw [zzZ] at h4
  exact ⟨by omega,VL h4.1,VL h4.2⟩
 ·cases this
theorem Xf (n:Int) (l:List Test):Jm n l≠9:=by
 unfold Jm
 split
 ·decide
 split
 ·decide
 intro h
 cases hr:fst (fun i=>nz (Mr n (AB l i))) 0 l.length with
 | none=>rw [hr] at h; cases h
 | some r=>
  rw [hr] at h
  obtain ⟨i,_,_,k,_⟩:=FD hr
  simp only [Option.getD_some] at h
  subst h
  unfold nz Mr at k
  split at k
  ·cases k
  ·rename_i hne
   split at k
   ·cases k
   ·split at k <;> cases k
theorem XI {t:Types} {q:Pattern} (hv:(A7 t).2=0) (h:IH t q=0∨IH t q=9):QI t q:=by
 have hg9:=R7 q.Graph
 unfold IH at h
 rw [if_neg (by simp [hv])] at h
 split at h
 ·omega
 rename_i h1
 have g:=E3 (Classical.not_not.1 h1)
 split at h
 ·omega
 rename_i h2
 split at h
 ·omega
 rename_i h3
 split at h
 ·omega
 rename_i h4
 split at h
 ·omega
 rename_i h5
 split at h
 ·rename_i h6
  have:=Xf q.Vars q.Tests
  omega
 rename_i h6
 refine ⟨g,(MX g (by simpa using h2)).1,by omega,by omega,fun s hs=>?_,ay (Classical.not_not.1 h6),Classical.not_not.1 h1,by simpa using h2⟩
 have hb:O1 t q s=false:=by
  rw [Bool.not_eq_true,List.any_eq_false] at h5
  simpa using h5 s hs
 unfold O1 at hb
 simp only [Bool.or_eq_false_iff,Bool.not_eq_false',decide_eq_false_iff_not] at hb
 obtain ⟨⟨⟨b1,b2⟩,b3⟩,b4,b5⟩:=hb
 unfold Ny at b1
 dsimp only at b1
 split at b1
 ·cases b1
 rename_i c1
 have hk:=(MX g (by simpa using h2)).1 _ (AN (l:=q.Graph.Nodes) (show 0<=s.Node by omega) (by omega))
 rw [Nz hv hk.1 hk.2] at b1
 split at b1
 ·cases b1
 rename_i c2
 have c2:¬ (s.Attr<0∨((AZ t (AB q.Graph.Nodes s.Node)).length:Int)<=s.Attr):=c2
 exact ⟨by omega,by omega,by omega,by omega,by omega,by omega⟩
def Lq (h:AY) (m:Morphism) (s:CT):Int:=AB (AB h.Values (AB m.Nodes s.Node)) s.Attr
def Mq (h:AY) (m:Morphism) (s:CT) (st:List Int × List Bool):List Int × List Bool:=
 if 0<=s.Term.Var∧AB st.2 s.Term.Var=false then (CP st.1 s.Term.Var (AI (Lq h m s - s.Term.Add)),CP st.2 s.Term.Var true) else st
def GB {ρ:Type} (r:ρ) (h:AY) (m:Morphism) (s:CT) (st:List Int × List Bool):B8 (List Int × List Bool) ρ:=
 if EN s.Term (Mq h m s st).1=Lq h m s then .next (Mq h m s st) else .ret r
structure VI (n:Int) (st:List Int × List Bool):Prop where
 l1:(st.1.length:Int)=n
 l2:(st.2.length:Int)=n
 small:Nd st.1
structure Jc (n:Int) (h:AY) (m:Morphism) (s:CT):Prop where
 node:0<=s.Node∧s.Node<m.Nodes.length
 val:0<=AB m.Nodes s.Node∧AB m.Nodes s.Node<h.Values.length
 attr:0<=s.Attr∧s.Attr<(AB h.Values (AB m.Nodes s.Node)).length
 term:IK n s.Term
 has:-1000000<=Lq h m s∧Lq h m s<=1000000
theorem Oo {t:Types} (ht:GR t) {q:Pattern} {h:AY} {m:Morphism} (hq:QI t q) (hh:LX t h) (hm:T4 t q.Graph h.Graph m) {s:CT} (hs:s∈q.Slots):Jc q.Vars h m s:=by
 obtain ⟨h1,h2,h3⟩:=hq.slot s hs
 have hl:=hm.nlen
 have hn:=hm.node s.Node h1.1 (by omega)
 have hr:=hh.row _ hn.1.1 hn.1.2
 have hk:=hh.kind _ hn.1.1 hn.1.2
 have hb:=YN ht hk.2 hn.2
 have hv:=hh.len
 refine ⟨by omega,by omega,by omega,h3,?_⟩
 unfold Lq
 exact hh.low _ hn.1.1 hn.1.2 _ (AN h2.1 (by omega))
theorem Nr {α:Type} (l:List α) (i:Int) (a:α):(CP l i a).length=l.length:=by unfold CP; rw [List.length_set]
theorem VD {α:Type} {l:List α} {i:Int} {a x:α} (h:x∈CP l i a):x∈l∨x=a:=List.mem_or_eq_of_mem_set h
theorem Yy {n:Int} {h:AY} {m:Morphism} {s:CT} (hs:Jc n h m s) {st:List Int × List Bool} (hi:VI n st):VI n (Mq h m s st):=by
 have h1:=hs.has
 have h2:=hs.term.add
 unfold Mq
 split
 ·refine ⟨by rw [Nr]; exact hi.l1,by rw [Nr]; exact hi.l2,fun x hx=>?_⟩
  rcases VD hx with hx | rfl
  ·exact hi.small x hx
  ·rw [AW (by omega) (by omega)]; omega
 ·exact hi
def If (q:Pattern) (h:AY) (m:Morphism):List Int × Int:=
 match HC (GB (([],11):List Int × Int) h m) q.Slots (List.replicate q.Vars.toNat 0,List.replicate q.Vars.toNat false) with
 | .inr r=>r
 | .inl st=>if anyR (fun i=>!J6 (AB q.Tests i) st.1) 0 q.Tests.length=true then ([],16) else (st.1,0)
theorem Ov {n:Int} (h0:0<=n):VI n (List.replicate n.toNat 0,List.replicate n.toNat false):=by
 refine ⟨by simp; omega,by simp; omega,fun x hx=>?_⟩
 rw [List.mem_replicate] at hx
 omega
theorem OL {ρ:Type} {r:ρ} {n:Int} {h:AY} {m:Morphism} {s:CT} (hs:Jc n h m s) {st st':List Int × List Bool} (hi:VI n st) (e:GB r h m s st=.next st'):VI n st':=by
 unfold GB at e
 split at e
 ·cases e; exact Yy hs hi
 ·cases e
theorem Yz {ρ:Type} {r:ρ} {h:AY} {m:Morphism} {s:CT} {st st':List Int × List Bool}:GB r h m s st≠.brk st':=by
 unfold GB
 split <;> simp
theorem Nq {ρ:Type} {r:ρ} {n:Int} {h:AY} {m:Morphism} {l:List CT} (hs:∀ s∈l,Jc n h m s) {st st':List Int × List Bool} (hi:VI n st) (e:HC (GB r h m) l st=.inl st'):VI n st':=
 VB (GB r h m) (VI n) l st st' hi (fun a ha _ _ h1 h2=>OL (hs a ha) h1 h2) (fun _ _ _ _=>Yz) e
theorem P0 {ρ:Type} {r:ρ} {n:Int} {h:AY} {m:Morphism} {s:CT} (hs:Jc n h m s) {st:List Int × List Bool} (hi:VI n st) {T:List Int × List Bool->Option (B8 (List Int × List Bool) ρ)}
  (h1:∀ st':List Int × List Bool,(st'.1.length:Int)=n->T st'=some (if EN s.Term st'.1=Lq h m s then .next st' else .ret r)) :
  ((if (decide (0<=s.Term.Var))=true then ((AH st.2 s.Term.Var).bind fun x51=>some (!x51)) else some false).bind fun x54=>
   if x54=true then (AH st.1 s.Term.Var).bind fun _=>(AH st.2 s.Term.Var).bind fun _=>T (CP st.1 s.Term.Var (AI (Lq h m s - s.Term.Add)),CP st.2 s.Term.Var true) else T (st.1,st.2))=some (GB r h m s st):=by
 have hl:=hs.term.high
 have l1:=hi.l1
 have l2:=hi.l2
 unfold GB
 by_cases h0:0<=s.Term.Var
 ·rw [if_pos (by simpa using h0),AF h0 (by omega),bs,bs]
  by_cases hk:AB st.2 s.Term.Var=false
  ·rw [if_pos (by simp [hk]),AF h0 (by omega),bs,bs,h1 _ (by dsimp only; rw [Nr]; exact l1)]
   have e:Mq h m s st=(CP st.1 s.Term.Var (AI (Lq h m s - s.Term.Add)),CP st.2 s.Term.Var true):=by unfold Mq; rw [if_pos ⟨h0,hk⟩]
   rw [e]
  ·rw [if_neg (by simpa using hk),h1 _ l1]
   have e:Mq h m s st=st:=by unfold Mq; rw [if_neg (fun e=>hk e.2)]
   rw [e]
 ·rw [if_neg (by simpa using h0),bs,if_neg (by decide),h1 _ l1]
  have e:Mq h m s st=st:=by unfold Mq; rw [if_neg (fun e=>h0 e.1)]
  rw [e]
theorem Vq {ρ:Type} {r:ρ} {n:Int} {h:AY} {m:Morphism} {s:CT} (hs:Jc n h m s) {st:List Int × List Bool} (hi:VI n st) {T:List Int × List Bool->Option (B8 (List Int × List Bool) ρ)}
  (h1:∀ st':List Int × List Bool,(st'.1.length:Int)=n->T st'=some (if EN s.Term st'.1=Lq h m s then .next st' else .ret r)) :
  ((if (decide (0<=s.Term.Var))=true then ((AH st.2 s.Term.Var).bind fun x51=>some (!x51)) else some false).bind fun x54=>
   if x54=true then (AH st.2 s.Term.Var).bind fun _=>(AH st.1 s.Term.Var).bind fun _=>T (CP st.1 s.Term.Var (AI (Lq h m s - s.Term.Add)),CP st.2 s.Term.Var true) else T (st.1,st.2))=some (GB r h m s st):=by
 rw [←P0 hs hi h1]
 have hl:=hs.term.high
 have l1:=hi.l1
 have l2:=hi.l2
 by_cases h0:0<=s.Term.Var
 ·rw [AF h0 (by omega),AF h0 (by omega)]; rfl
 ·rw [if_neg (by simpa using h0)]; rfl
theorem Tc {t:Term} {n v:Int} {f:Term->List Int->Option Int} (hf:∀ l:List Int,(l.length:Int)=n->f t l=some (EN t l)) (st':List Int × List Bool) (hl:(st'.1.length:Int)=n):((f t st'.1).bind fun x69=>if (!decide (x69=v))=true then some (B8.ret (([],11):List Int × Int)) else some (.next st'))=some (if EN t st'.1=v then .next st' else .ret ([],11)):=by
 rw [hf _ hl,bs]
 by_cases e:EN t st'.1=v
 ·rw [if_neg (by simp [e]),if_pos e]
 ·rw [if_pos (by simp [e]),if_neg e]
theorem cx {q:Pattern} {h:AY} {m:Morphism} {t:Types} (hq:QI t q) (hs:∀ s∈q.Slots,Jc q.Vars h m s):IL q h m=some (If q h m):=by
 have hv:=hq.vars
 unfold IL If J8
 rw [if_pos (by omega),bs,if_pos (by omega),bs]
 rw [Qd (GB (([],11):List Int × Int) h m) (VI q.Vars) (Ov hv.1)]
 ·cases hr:HC (GB (([],11):List Int × Int) h m) q.Slots (List.replicate q.Vars.toNat 0,List.replicate q.Vars.toNat false) with
  | inr r=>rfl
  | inl st=>
   have hi:=Nq hs (Ov hv.1) hr
   rw [C4,CE (fun i=>!J6 (AB q.Tests i) st.1) ([],16)]
   ·dsimp only
    cases anyR (fun i=>!J6 (AB q.Tests i) st.1) 0 q.Tests.length <;> rfl
   ·intro i i0 i1 _
    have hx:=hq.test _ (AN i0 i1)
    rw [AF i0 i1,bs,p_holds hx.2.1 hx.2.2 hi.small (by have:=hi.l1; omega),bs]
    cases J6 (AB q.Tests i) st.1 <;> rfl
 ·intro i st i0 i1 hi
  have ha:=hs _ (AN i0 i1)
  refine ⟨?_,fun s' e=>OL ha hi e⟩
  rw [AF i0 i1,bs,AF ha.node.1 ha.node.2,bs,AF ha.val.1 ha.val.2,bs,AF ha.attr.1 ha.attr.2,bs]
  exact P0 ha hi (T:=fun st'=>(EW (AB q.Slots i).Term st'.1).bind fun x69=>if (!decide (x69=Lq h m (AB q.Slots i)))=true then some (B8.ret (([],11):List Int × Int)) else some (.next st')) (Tc fun l hl=>Qk (by have:=ha.term.high; omega))
theorem dG {q:Pattern} {h:AY} {m:Morphism} {t:Types} (hq:QI t q) (hs:∀ s∈q.Slots,Jc q.Vars h m s):I9 q h m=some (If q h m):=by
 have hv:=hq.vars
 unfold I9 If J8
 rw [if_pos (by omega),bs,if_pos (by omega),bs]
 rw [Qd (GB (([],11):List Int × Int) h m) (VI q.Vars) (Ov hv.1)]
 ·cases hr:HC (GB (([],11):List Int × Int) h m) q.Slots (List.replicate q.Vars.toNat 0,List.replicate q.Vars.toNat false) with
  | inr r=>rfl
  | inl st=>
   have hi:=Nq hs (Ov hv.1) hr
   rw [C4,CE (fun i=>!J6 (AB q.Tests i) st.1) ([],16)]
   ·dsimp only
    cases anyR (fun i=>!J6 (AB q.Tests i) st.1) 0 q.Tests.length <;> rfl
   ·intro i i0 i1 _
    have hx:=hq.test _ (AN i0 i1)
    rw [AF i0 i1,bs,r_holds hx.2.1 hx.2.2 (by have:=hi.l1; omega),bs]
    cases J6 (AB q.Tests i) st.1 <;> rfl
 ·intro i st i0 i1 hi
  have ha:=hs _ (AN i0 i1)
  refine ⟨?_,fun s' e=>OL ha hi e⟩
  rw [AF i0 i1,bs,AF ha.node.1 ha.node.2,bs,AF ha.val.1 ha.val.2,bs,AF ha.attr.1 ha.attr.2,bs]
  exact Vq ha hi (T:=fun st'=>(Jy (AB q.Slots i).Term st'.1).bind fun x69=>if (!decide (x69=Lq h m (AB q.Slots i)))=true then some (B8.ret (([],11):List Int × Int)) else some (.next st')) (Tc fun l hl=>Yp (by have:=ha.term.high; omega))
def J9 (t:Types) (p:Pattern) (h:AY):Int:=if IH t p≠0 then IH t p else (Mc t h).2
theorem YX {t:Types} (hf:BV t) (p:Pattern) (h:AY):EU t p h=some (J9 t p h):=by
 unfold EU J9
 rw [Tv hf,bs]
 refine IN fun _=>?_
 rw [YY hf]; rfl
theorem Yk {t:Types} (hf:BV t) (p:Pattern) (h:AY):K6 t p h=some (J9 t p h):=by
 unfold K6 J9
 rw [SO hf,bs]
 refine IN fun _=>?_
 rw [fi hf]; rfl
def NS (t:Types) (p:Pattern) (h:AY) (m:Morphism):List Int × Int:=
 if J9 t p h≠0 then ([],J9 t p h) else if Kn t p.Graph h.Graph m false≠0 then ([],Kn t p.Graph h.Graph m false) else If p h m
theorem RJ {t:Types} (hf:BV t) {p:Pattern} {h:AY} {m:Morphism} {inj:Bool} (h1:J9 t p h=0) (h2:Kn t p.Graph h.Graph m inj=0):(A7 t).2=0∧QI t p∧LX t h∧T4 t p.Graph h.Graph m:=by
 unfold J9 at h1
 split at h1
 ·rename_i h3; exact absurd h1 h3
 rename_i h3
 obtain ⟨hv,hh⟩:=WA hf h1
 exact ⟨hv,XI hv (.inl (Classical.not_not.1 h3)),hh,(X8 h2).2⟩
theorem cp {t:Types} (hf:BV t) (p:Pattern) (h:AY) (m:Morphism):ET t p h m=some (NS t p h m):=by
 unfold ET NS
 rw [YX hf,bs]
 refine Ng fun h1=>?_
 rw [WN hf,bs]
 refine Ng fun h2=>?_
 obtain ⟨hv,hq,hh,hm⟩:=RJ hf h1 h2
 rw [cx hq (fun s hs=>Oo (GF hv) hq hh hm hs)]; rfl
theorem Y0 {t:Types} {q:Pattern} {h:AY} {m:Morphism} (hq:QI t q) (hs:∀ s∈q.Slots,Jc q.Vars h m s) (e:(If q h m).2=0):((If q h m).1.length:Int)=q.Vars∧Nd (If q h m).1:=by
 unfold If at e ⊢
 cases hr:HC (GB (([],11):List Int × Int) h m) q.Slots (List.replicate q.Vars.toNat 0,List.replicate q.Vars.toNat false) with
 | inr r=>
  rw [hr] at e
  have:∀ (l:List CT) (st:List Int × List Bool) (r:List Int × Int),HC (GB (([],11):List Int × Int) h m) l st=.inr r->r=([],11):=by
   intro l
   induction l with
   | nil=>intro st r h; cases h
   | cons a l ih=>
    intro st r h
    rw [HC] at h
    split at h
    ·exact ih _ _ h
    ·cases h
    ·rename_i r' h'
     cases h
     unfold GB at h'
     split at h'
     ·cases h'
     ·cases h'; rfl
  rw [this _ _ _ hr] at e
  cases e
 | inl st=>
  rw [hr] at e
  have hi:=Nq hs (Ov hq.vars.1) hr
  dsimp only at e ⊢
  split at e
  ·cases e
  ·rename_i h1
   rw [if_neg h1]
   exact ⟨hi.l1,hi.small⟩
end Go.Sf.Sc
namespace Go.Sf.Sc
open Go Go.Sf
theorem Yx {n:Nat} {α:Type} [Inhabited α] (F:Int->α) {i:Int} (h0:0<=i) (v:α):CP ((BQ n).map F) i v=(BQ n).map fun j=>if j=i then v else F j:=by
 unfold CP
 refine List.ext_getElem (by simp) (fun k k1 k2=>?_)
 have hk:k<n:=by simpa [DE] using k2
 rw [List.getElem_set]
 have e:(BQ n)[k]'(by rw [DE]; exact hk)=(k:Int):=by simp [BQ]
 simp only [List.getElem_map,e]
 by_cases h:i.toNat=k
 ·rw [if_pos h,if_pos (by omega)]
 ·rw [if_neg h,if_neg (by omega)]
theorem Xg {n:Nat} {α:Type} {F G:Int->α} (h:∀ j,0<=j->j<(n:Int)->F j=G j):(BQ n).map F=(BQ n).map G:=List.map_congr_left fun j hj=>h j (HP.1 hj).1 (HP.1 hj).2
def Ji (n:Nat) (k:Int):List Bool:=(BQ n).map fun j=>decide (j<k)
theorem W6 (n:Nat):Ji n 0=List.replicate n false:=by
 unfold Ji
 refine List.ext_getElem (by simp [DE]) (fun k k1 k2=>?_)
 have hk:k<n:=by simpa using k2
 have e:(BQ n)[k]'(by rw [DE]; exact hk)=(k:Int):=by simp [BQ]
 simp only [List.getElem_map,e,List.getElem_replicate,decide_eq_false_iff_not]
 omega
theorem TN (n:Nat) (k:Int):(Ji n k).length=n:=by unfold Ji; rw [List.length_map,DE]
def NT (q:Pattern) (h:AY) (m:Morphism) (given:List Int):List Int × Bool:=
 match HC (GB (([],false):List Int × Bool) h m) q.Slots (given++List.replicate (q.Vars - given.length).toNat 0,Ji q.Vars.toNat given.length) with
 | .inr r=>r
 | .inl st=>if anyR (fun i=>!J6 (AB q.Tests i) st.1) 0 q.Tests.length=true then ([],false) else (st.1,true)
theorem VP {n:Int} {given:List Int} (h0:0<=n) (hg:given.length<=n) (hv:Nd given):VI n (given++List.replicate (n - given.length).toNat 0,Ji n.toNat given.length):=by
 refine ⟨by simp; omega,by show ((Ji n.toNat given.length).length:Int)=n; rw [TN]; omega,fun x hx=>?_⟩
 rcases List.mem_append.1 hx with hx | hx
 ·exact hv x hx
 ·rw [List.mem_replicate] at hx
  omega
theorem fb {s:AR} {q:Pattern} {m:Morphism} {t:Types} {given:List Int} (hq:QI t q) (hs:∀ x∈q.Slots,Jc q.Vars s.h m x) (hg:given.length<=q.Vars) (hv:Nd given):EC s q m given=some (NT q s.h m given):=by
 have hn:=hq.vars
 unfold EC NT slices_Clone_int
 rw [FZ (by unfold BF; omega),bs,AW (by omega) (by omega)]
 have ea:RM given (q.Vars - given.length) 0=some (given++List.replicate (q.Vars - given.length).toNat 0):=by
  unfold RM
  rw [if_pos ⟨by omega,by unfold BF; omega⟩]
 have em:J8 q.Vars false=some (List.replicate q.Vars.toNat false):=by
  unfold J8
  rw [if_pos (by omega)]
 rw [ea,bs,em,bs]
 have ek:forA (fun (i0:Int) (s0:List Bool)=>(AH s0 i0).bind fun x39=>some (CP s0 i0 true)) 0 (given.length:Int) (List.replicate q.Vars.toNat false)=some (Ji q.Vars.toNat given.length):=by
  refine I5 (fun i=>Ji q.Vars.toNat i) (by omega) (W6 _) (fun i i0 i1=>?_)
  rw [AF i0 (by rw [TN]; omega),bs]
  congr 1
  unfold Ji
  rw [Yx _ i0]
  refine Xg (fun j j0 j1=>?_)
  by_cases e:j=i
  ·rw [if_pos e,e]; simp; omega
  ·rw [if_neg e,decide_eq_decide]; omega
 rw [ek,bs]
 have hi0:=VP hn.1 hg hv
 rw [Qd (GB (([],false):List Int × Bool) s.h m) (VI q.Vars) hi0]
 ·cases hr:HC (GB (([],false):List Int × Bool) s.h m) q.Slots (given++List.replicate (q.Vars - given.length).toNat 0,Ji q.Vars.toNat given.length) with
  | inr r=>rfl
  | inl st=>
   have hi:=Nq hs hi0 hr
   rw [C4,CE (fun i=>!J6 (AB q.Tests i) st.1) ([],false)]
   ·dsimp only
    cases anyR (fun i=>!J6 (AB q.Tests i) st.1) 0 q.Tests.length <;> rfl
   ·intro i i0 i1 _
    have hx:=hq.test _ (AN i0 i1)
    rw [AF i0 i1,bs,p_holds hx.2.1 hx.2.2 hi.small (by have:=hi.l1; omega),bs]
    cases J6 (AB q.Tests i) st.1 <;> rfl
 ·intro i st i0 i1 hi
  have ha:=hs _ (AN i0 i1)
  refine ⟨?_,fun s' e=>OL ha hi e⟩
  rw [AF i0 i1,bs,AF ha.node.1 ha.node.2,bs,AF ha.val.1 ha.val.2,bs,AF ha.attr.1 ha.attr.2,bs]
  refine P0 ha hi (T:=fun st'=>(GT (AB q.Slots i).Term st'.1).bind fun x90=>if ((!decide (x90.2=0))||(!decide (x90.1=Lq s.h m (AB q.Slots i))))=true then some (B8.ret (([],false):List Int × Bool)) else some (.next st')) (fun st' hl=>?_)
  rw [Zu ha.term.low (by have:=ha.term.high; omega) (by omega),bs]
  by_cases e:EN (AB q.Slots i).Term st'.1=Lq s.h m (AB q.Slots i)
  ·rw [if_neg (by simp [e]),if_pos e]
  ·rw [if_pos (by simp [e]),if_neg e]
theorem bA {t:Types} {q:Pattern} {h:AY} {m:Morphism} {given:List Int} (hq:QI t q) (hs:∀ s∈q.Slots,Jc q.Vars h m s) (hg:given.length<=q.Vars) (hv:Nd given) (e:(NT q h m given).2=true):((NT q h m given).1.length:Int)=q.Vars∧Nd (NT q h m given).1:=by
 unfold NT at e ⊢
 have hi0:=VP hq.vars.1 hg hv
 cases hr:HC (GB (([],false):List Int × Bool) h m) q.Slots (given++List.replicate (q.Vars - given.length).toNat 0,Ji q.Vars.toNat given.length) with
 | inr r=>
  rw [hr] at e
  have:∀ (l:List CT) (st:List Int × List Bool) (r:List Int × Bool),HC (GB (([],false):List Int × Bool) h m) l st=.inr r->r=([],false):=by
   intro l
   induction l with
   | nil=>intro st r h; cases h
   | cons a l ih=>
    intro st r h
    rw [HC] at h
    split at h
    ·exact ih _ _ h
    ·cases h
    ·rename_i r' h'
     cases h
     unfold GB at h'
     split at h'
     ·cases h'
     ·cases h'; rfl
  rw [this _ _ _ hr] at e
  cases e
 | inl st=>
  rw [hr] at e
  have hi:=Nq hs hi0 hr
  dsimp only at e ⊢
  split at e
  ·cases e
  ·rename_i h1
   rw [if_neg h1]
   exact ⟨hi.l1,hi.small⟩
def Jj (n:Nat) (by' images:List Int):List Int:=(BQ by'.length).foldl (fun l i=>CP l (AB by' i) (AB images i)) (List.replicate n (-1))
theorem Qc (by' images:List Int):∀ (ks:List Int) (l:List Int),(ks.foldl (fun l i=>CP l (AB by' i) (AB images i)) l).length=l.length
 | [],l=>rfl
 | k::ks,l=>by rw [List.foldl_cons,Qc by' images ks,Nr]
theorem SL (n:Nat) (by' images:List Int):(Jj n by' images).length=n:=by unfold Jj; rw [Qc]; simp
theorem TB (by' images:List Int) {x:Int}:∀ (ks:List Int) (l:List Int),x∈ks.foldl (fun l i=>CP l (AB by' i) (AB images i)) l->x∈l∨∃ k∈ks,x=AB images k
 | [],l,h=>.inl h
 | k::ks,l,h=>by
  rw [List.foldl_cons] at h
  rcases TB by' images ks _ h with h | ⟨j,hj,e⟩
  ·rcases VD h with h | h
   ·exact .inl h
   ·exact .inr ⟨k,by simp,h⟩
  ·exact .inr ⟨j,by simp [hj],e⟩
theorem SM {n:Nat} {by' images:List Int} {x:Int} (h:x∈Jj n by' images):x=-1∨∃ k:Int,(0<=k∧k<by'.length)∧x=AB images k:=by
 rcases TB by' images _ _ h with h | ⟨k,hk,e⟩
 ·rw [List.mem_replicate] at h; exact .inl h.2
 ·exact .inr ⟨k,HP.1 hk,e⟩
theorem XH {n:Nat} {by' images:List Int} (hb:∀ x∈by',0<=x∧x<n) (hl:by'.length<=images.length):forA (fun (i0:Int) (s0:List Int)=>
  (AH by' i0).bind fun x18=>
  (AH images i0).bind fun x24=>
  (AH s0 x18).bind fun x26=>
  some (CP s0 x18 x24)) 0 (by'.length:Int) (List.replicate n (-1))=some (Jj n by' images):=by
 have h:=I5 (f:=fun (i0:Int) (s0:List Int)=>
  (AH by' i0).bind fun x18=>
  (AH images i0).bind fun x24=>
  (AH s0 x18).bind fun x26=>
  some (CP s0 x18 x24)) (fun i=>(BQ i.toNat).foldl (fun l i=>CP l (AB by' i) (AB images i)) (List.replicate n (-1))) (a:=0) (b:=by'.length) (s:=List.replicate n (-1)) (by omega) rfl (fun i i0 i1=>by
   have hx:=hb _ (AN i0 i1)
   rw [AF i0 i1,bs,AF i0 (by omega),bs,AF hx.1 (by rw [Qc]; simpa using hx.2),bs,Kg i0,List.foldl_append]; rfl)
 rw [h,Int.toNat_natCast]; rfl
theorem Us {n:Nat} {by' images:List Int} (hn:n<=1000) (hb:∀ x∈by',0<=x∧x<n) (hl:by'.length<=images.length):GU n by' images=some (Jj n by' images):=by
 unfold GU HV
 rw [if_pos ⟨rfl,by omega,by omega⟩,bs]
 show (forA _ 0 _ (List.replicate (n:Int).toNat (-1))).bind _=_
 rw [Int.toNat_natCast,XH hb hl]; rfl
end Go.Sf.Sc
namespace Go.Sf.Sc
open Go Go.Sf
structure bH (f:AG):Prop where
 nl:f.nodes.length<=f.p.Nodes.length
 node:∀ i:Int,0<=i->i<f.nodes.length->(0<=AB f.nodes i∧AB f.nodes i<f.g.Nodes.length)∧AB (AB f.is (AB f.p.Nodes i)) (AB f.g.Nodes (AB f.nodes i))=true
 edge:∀ i:Int,0<=i->i<f.edges.length->(0<=AB f.edges i∧AB f.edges i<f.g.Edges.length)∧AB f.g.Edges (AB f.edges i)=⟨(AB f.p.Edges i).Type',AB f.nodes (AB f.p.Edges i).From,AB f.nodes (AB f.p.Edges i).To⟩
 inj:f.injective=true->f.nodes.Nodup∧f.edges.Nodup
structure Wp (f:AG) (m:Morphism):Prop where
 nl:m.Nodes.length=f.p.Nodes.length
 el:m.Edges.length=f.p.Edges.length
 node:∀ i:Int,0<=i->i<m.Nodes.length->(0<=AB m.Nodes i∧AB m.Nodes i<f.g.Nodes.length)∧AB (AB f.is (AB f.p.Nodes i)) (AB f.g.Nodes (AB m.Nodes i))=true
 edge:∀ i:Int,0<=i->i<m.Edges.length->(0<=AB m.Edges i∧AB m.Edges i<f.g.Edges.length)∧AB f.g.Edges (AB m.Edges i)=⟨(AB f.p.Edges i).Type',AB m.Nodes (AB f.p.Edges i).From,AB m.Nodes (AB f.p.Edges i).To⟩
 inj:f.injective=true->m.Nodes.Nodup∧m.Edges.Nodup
theorem Sa {α:Type} [Inhabited α] (l:List α) (x:α) {i:Int} (h:i=l.length):AB (l++[x]) i=x:=by
 subst h
 rw [S1,if_neg (by omega)]
 simp
theorem SF {l:List Int} {k:Int} {b:Bool} (h:(!(b&&l.any fun x=>decide (k=x)))=true) (hb:b=true) (hl:l.Nodup):(l++[k]).Nodup:=by
 subst hb
 simp only [Bool.true_and,Bool.not_eq_true',List.any_eq_false,zzX] at h
 rw [List.nodup_append]
 refine ⟨hl,by simp,fun a ha b hb e=>?_⟩
 rw [List.mem_singleton] at hb
 exact h a ha (by rw [e,hb])
theorem Sz:∀ (n:Nat) (f:AG),bH f->f.nodes.length=f.p.Nodes.length->f.edges.length+n=f.p.Edges.length->∀ m∈D6 n f,Wp f m
 | 0,f,hp,hn,he,m,hm=>by
  rw [D6,List.mem_singleton] at hm
  subst hm
  exact ⟨hn,by simpa using he,hp.node,hp.edge,hp.inj⟩
 | n+1,f,hp,hn,he,m,hm=>by
  rw [D6,List.mem_flatMap] at hm
  obtain ⟨k,hk,hm⟩:=hm
  have hk:=HP.1 hk
  split at hm
  ·rename_i hok
   unfold OB at hok
   rw [zzZ] at hok
   obtain ⟨ho1,ho2⟩:=hok
   rw [Pz,zzZ,zzX] at ho1
   have:=Sz n { f with edges:=f.edges++[k] } ⟨hp.nl,hp.node,fun i i0 i1=>by
    have i1:i<((f.edges++[k]).length:Int):=i1
    simp only [List.length_append,List.length_singleton] at i1
    show (0<=AB (f.edges++[k]) i∧AB (f.edges++[k]) i<f.g.Edges.length)∧AB f.g.Edges (AB (f.edges++[k]) i)=⟨(AB f.p.Edges i).Type',AB f.nodes (AB f.p.Edges i).From,AB f.nodes (AB f.p.Edges i).To⟩
    by_cases e:i=f.edges.length
    ·rw [Sa _ _ e]; exact ⟨hk,by rw [e]; exact ho1.2⟩
    ·rw [QJ _ _ i0 (by omega)]; exact hp.edge i i0 (by omega),fun hi=>⟨(hp.inj hi).1,SF ho2 hi (hp.inj hi).2⟩⟩ hn (by show (f.edges++[k]).length+n=f.p.Edges.length; rw [List.length_append,List.length_singleton]; omega) m hm
   exact ⟨this.nl,this.el,this.node,this.edge,this.inj⟩
  ·cases hm
theorem S0:∀ (n:Nat) (f:AG),bH f->f.edges=[]->f.nodes.length+n=f.p.Nodes.length->∀ m∈FY n f,Wp f m
 | 0,f,hp,he,hn,m,hm=>by
  rw [FY] at hm
  exact Sz _ f hp (by omega) (by rw [he]; simp) m hm
 | n+1,f,hp,he,hn,m,hm=>by
  rw [FY,List.mem_flatMap] at hm
  obtain ⟨k,hk,hm⟩:=hm
  have hk:=HP.1 hk
  split at hm
  ·rename_i hok
   unfold OC at hok
   rw [zzZ,zzZ] at hok
   obtain ⟨⟨_,ho1⟩,ho2⟩:=hok
   have:=S0 n { f with nodes:=f.nodes++[k] } ⟨by show (f.nodes++[k]).length<=f.p.Nodes.length; rw [List.length_append,List.length_singleton]; omega,fun i i0 i1=>by
    have i1:i<((f.nodes++[k]).length:Int):=i1
    simp only [List.length_append,List.length_singleton] at i1
    show (0<=AB (f.nodes++[k]) i∧AB (f.nodes++[k]) i<f.g.Nodes.length)∧AB (AB f.is (AB f.p.Nodes i)) (AB f.g.Nodes (AB (f.nodes++[k]) i))=true
    by_cases e:i=f.nodes.length
    ·rw [Sa _ _ e]
     exact ⟨hk,by rw [e]; exact ho1⟩
    ·rw [QJ _ _ i0 (by omega)]; exact hp.node i i0 (by omega),fun i i0 i1=>by
    have i1:i<(f.edges.length:Int):=i1
    rw [he] at i1
    have:i<(0:Nat):=i1
    omega,fun hi=>⟨SF ho2 hi (hp.inj hi).1,(hp.inj hi).2⟩⟩ he (by show (f.nodes++[k]).length+n=f.p.Nodes.length; rw [List.length_append,List.length_singleton]; omega) m hm
   exact ⟨this.nl,this.el,this.node,this.edge,this.inj⟩
  ·cases hm
theorem R3 {t:Types} {p g:Graph} {pa:Morphism} {inj:Bool} {m:Morphism} (hm:m∈Ku t p g pa inj):Wp (FS ⟨t,p,g,pa,inj,5000,[]⟩ [] []) m:=
 S0 _ (FS ⟨t,p,g,pa,inj,5000,[]⟩ [] []) ⟨Nat.zero_le _,fun i i0 i1=>by have i1:i<(0:Nat):=i1; omega,fun i i0 i1=>by have i1:i<(0:Nat):=i1; omega,fun _=>⟨List.nodup_nil,List.nodup_nil⟩⟩ rfl (by show 0+p.Nodes.length=p.Nodes.length; omega) m (List.mem_of_mem_take hm)
theorem UR {t:Types} {p g:Graph} {pa:Morphism} {inj:Bool} (h:GO t p g=0) {m:Morphism} (hm:m∈Ku t p g pa inj):T4 t p g m:=by
 obtain ⟨hv,gp,gg,tp,tg⟩:=Pd h
 have:=R3 hm
 refine ⟨this.nl,this.el,fun i i0 i1=>?_,fun i i0 i1=>(this.edge i i0 i1).1⟩
 obtain ⟨h1,h2⟩:=this.node i i0 i1
 refine ⟨h1,?_⟩
 have hl:=this.nl
 have kp:=tp _ (AN (l:=p.Nodes) i0 (by show i<(p.Nodes.length:Int); have hl:m.Nodes.length=p.Nodes.length:=hl; omega))
 have kg:=tg _ (AN (l:=g.Nodes) h1.1 h1.2)
 have h2:AB (AB (JW t) (AB p.Nodes i)) (AB g.Nodes (AB m.Nodes i))=true:=h2
 have e:AB (JW t) (AB p.Nodes i)=J5 t (AB p.Nodes i):=by unfold JW; exact LV (J5 t) kp.1 kp.2
 rw [e] at h2
 have e2:AB (J5 t (AB p.Nodes i)) (AB g.Nodes (AB m.Nodes i))=IW t (AB g.Nodes (AB m.Nodes i)) (AB p.Nodes i):=by unfold J5; exact LV (fun k=>IW t k (AB p.Nodes i)) kg.1 kg.2
 rwa [e2] at h2
theorem YK {t:Types} {p g:Graph} {pa:Morphism} {inj:Bool} (h:GO t p g=0) {m:Morphism} (hm:m∈Ku t p g pa inj):Kn t p g m inj=0:=by
 have ok:=UR h hm
 have fu:=R3 hm
 have hs:OK t p g m=0:=by
  unfold OK
  rw [if_neg (by have:=ok.nlen; have:=ok.elen; omega)]
  have h1:fst (Lf t p g m) 0 m.Nodes.length=none:=by
   rw [CY]
   intro i i0 i1
   obtain ⟨k1,k2⟩:=ok.node i i0 i1
   unfold Lf
   rw [if_neg (by omega),if_neg (by rw [k2]; decide)]
  have h2:fst (IX p g m) 0 m.Edges.length=none:=by
   rw [CY]
   intro i i0 i1
   obtain ⟨k1,k2⟩:=fu.edge i i0 i1
   have k1:0<=AB m.Edges i∧AB m.Edges i<g.Edges.length:=k1
   have k2:AB g.Edges (AB m.Edges i)=⟨(AB p.Edges i).Type',AB m.Nodes (AB p.Edges i).From,AB m.Nodes (AB p.Edges i).To⟩:=k2
   unfold IX
   rw [if_neg (by omega),k2,if_neg (by simp),if_neg (by simp)]
  rw [h1,h2]; rfl
 unfold Kn
 rw [if_neg (by simp [h]),if_neg (by simp [hs])]
 cases inj
 ·rfl
 ·have:=fu.inj rfl
  unfold M7
  rw [MM.2 this.1,MM.2 this.2]; rfl
theorem YD {t:Types} {p g:Graph} {pa:Morphism} {inj:Bool} (h:(PY t p g pa inj).2=0):(PY t p g pa inj).1.length<=5000∧∀ m∈(PY t p g pa inj).1,T4 t p g m:=by
 unfold PY at h ⊢
 split at h
 ·rename_i h1; exact absurd h h1
 rename_i h1
 split at h
 ·cases h
 rename_i h2
 split at h
 ·rename_i h3; exact absurd h h3
 rename_i h3
 split at h
 ·rename_i h4; exact absurd h h4
 rename_i h4
 split at h
 ·cases h
 rename_i h5
 rw [if_neg h1,if_neg h2,if_neg h3,if_neg h4,if_neg h5]
 exact ⟨by dsimp only; omega,fun m hm=>UR (Classical.not_not.1 h1) hm⟩
structure T2 (t:Types) (p:Pattern) (h:AY) (x:AL):Prop where
 q:QI t p
 m:T4 t p.Graph h.Graph x.Morphism
 len:(x.Vars.length:Int)=p.Vars
 small:Nd x.Vars
structure Xr (t:Types) (p:Pattern) (c:AA):Prop where
 q:QI t c.Pattern
 vars:p.Vars<=c.Pattern.Vars
 map:bG p.Graph c.Pattern.Graph c.Map
 inj:M7 c.Map=true
def GW (t:Types) (c:AA) (h:AY) (m:AL) (inj:Bool):List AL × Int:=
 let x:=PY t c.Pattern.Graph h.Graph ⟨Jj c.Pattern.Graph.Nodes.length c.Map.Nodes m.Morphism.Nodes,Jj c.Pattern.Graph.Edges.length c.Map.Edges m.Morphism.Edges⟩ inj
 if x.2≠0 then ([],x.2) else ((x.1.filter fun y=>(NT c.Pattern h y m.Vars).2).map fun y=>⟨y,(NT c.Pattern h y m.Vars).1⟩,0)
instance:Inhabited Morphism:=⟨⟨[],[]⟩⟩
instance:Inhabited AL:=⟨⟨default,[]⟩⟩
instance:Inhabited A4:=⟨⟨0,default,[]⟩⟩
theorem RC {x:List Morphism} {F:Morphism->List Int × Bool} {f:Int->List AL->Option (List AL)} (hx:x.length<=5000)
  (hf:∀ (i:Int) (s:List AL),0<=i->i<x.length->s.length<=5000->f i s=some (if (F (AB x i)).2=true then s++[⟨AB x i,(F (AB x i)).1⟩] else s)) :
  forA f 0 (x.length:Int) []=some ((x.filter fun y=>(F y).2).map fun y=>⟨y,(F y).1⟩):=by
 rw [I5 (a:=0) (b:=x.length) (s:=[]) (fun i=>((x.take i.toNat).filter fun y=>(F y).2).map fun y=>(⟨y,(F y).1⟩:AL)) (by omega) rfl,Int.toNat_natCast,List.take_length]
 intro i i0 i1
 have hl:(((x.take i.toNat).filter fun y=>(F y).2).map fun y=>(⟨y,(F y).1⟩:AL)).length<=5000:=by
  rw [List.length_map]
  have:=List.length_filter_le (fun y=>(F y).2) (x.take i.toNat)
  have:=List.length_take_le i.toNat x
  have:(x.take i.toNat).length<=x.length:=by rw [List.length_take]; omega
  omega
 rw [hf i _ i0 i1 hl,JE i0 i1,List.filter_append,List.map_append]
 cases hc:(F (AB x i)).2 <;> simp [hc]
theorem fU {s:AR} {p:Pattern} {c:AA} {m:AL} (hf:BV s.t) (hv:(A7 s.t).2=0) (hh:LX s.t s.h) (ha:T2 s.t p s.h m) (hi:Xr s.t p c):BW s c m=some (GW s.t c s.h m s.injective):=by
 have gn:=hi.q.g.nodes
 have ge:=hi.q.g.edges
 have m1:=hi.map.nlen
 have m2:=hi.map.elen
 have m3:=ha.m.nlen
 have m4:=ha.m.elen
 unfold BW GW
 rw [Us (by omega) (fun x hx=>by obtain ⟨i,i0,i1,rfl⟩:=EP hx; exact (hi.map.node i i0 i1).1) (by omega),bs,
  Us (by omega) (fun x hx=>by obtain ⟨i,i0,i1,rfl⟩:=EP hx; exact (hi.map.edge i i0 i1).1) (by omega),bs,Zw hf,bs]
 dsimp only
 refine Ng fun h0=>?_
 obtain ⟨e1,e2⟩:=YD h0
 rw [RC (F:=fun y=>NT c.Pattern s.h y m.Vars) e1]
 ·rfl
 ·intro i st i0 i1 hl
  have hm:=e2 _ (AN i0 i1)
  have hg:(m.Vars.length:Int)<=c.Pattern.Vars:=by have:=ha.len; have:=hi.vars; omega
  rw [AF i0 i1,bs,fb hi.q (fun x hx=>Oo (GF hv) hi.q hh hm hx) hg ha.small,bs,←KI]
  split
  ·rw [BM (by simp; unfold BF; omega)]; rfl
  ·rfl
theorem V2 {t:Types} {h:AY} {inj:Bool} {p:Pattern} {c:AA} {m:AL} (hv:(A7 t).2=0) (hh:LX t h) (ha:T2 t p h m) (hi:Xr t p c) (e:(GW t c h m inj).2=0):(GW t c h m inj).1.length<=5000∧∀ x∈(GW t c h m inj).1,T2 t c.Pattern h x:=by
 unfold GW at e ⊢
 dsimp only at e ⊢
 split at e
 ·rename_i h1; exact absurd e h1
 rename_i h1
 rw [if_neg h1]
 obtain ⟨e1,e2⟩:=YD (Classical.not_not.1 h1)
 refine ⟨by dsimp only; rw [List.length_map]; exact Nat.le_trans (List.length_filter_le _ _) e1,fun x hx=>?_⟩
 dsimp only at hx
 rw [List.mem_map] at hx
 obtain ⟨y,hy,rfl⟩:=hx
 rw [List.mem_filter] at hy
 have hm:=e2 y hy.1
 have hg:(m.Vars.length:Int)<=c.Pattern.Vars:=by have:=ha.len; have:=hi.vars; omega
 have:=bA hi.q (fun x hx=>Oo (GF hv) hi.q hh hm hx) hg ha.small hy.2
 exact ⟨hi.q,hm,this.1,this.2⟩
end Go.Sf.Sc
