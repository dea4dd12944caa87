/- Plain lemmas: what the functions of the program and of the reference compute. -/
import Derived.Test.YtmaobfbhdkafkaaGreatP25
set_option maxRecDepth 100000
namespace Go.Sf.Sc
open Go Go.Sf
theorem O3 {all:List Attr} {k:Int} (h:LB all k=0) (hn:(AB all k).Names.length<=1000):-1000000<=(AB all k).Low∧(AB all k).High<=1000000:=by
 unfold LB at h
 dsimp only at h
 split at h
 ·cases h
 split at h
 ·cases h
 split at h
 ·split at h
  ·rename_i hc; exact ⟨hc.1,hc.2.2⟩
  ·cases h
 split at h
 ·rename_i hc; exact absurd h hc
 split at h
 ·rename_i hc; omega
 ·cases h
theorem Ve {t:Types} {i:Int} (h:Ix t i=0):∀ k,((AZ t i).length:Int) - (AB t.Nodes i).Attrs.length<=k->k<(AZ t i).length->LB (AZ t i) k=0:=by
 unfold Ix at h
 dsimp only at h
 split at h
 ·cases h
 split at h
 ·cases h
 split at h
 ·cases h
 split at h
 ·cases h
 exact R5 h
theorem NO {t:Types} {n:Nat} {a:Int} (h0:0<=a):CE t (n+1) a=CE t n (par t a)++(AB t.Nodes a).Attrs:=by
 rw [CE,if_neg (by omega)]
theorem ZS {all:List Attr} {k:Int} (h:LB all k=0) (hn:(AB all k).Names.length<=1000):(AB all k).Low<=(AB all k).High:=by
 unfold LB at h
 dsimp only at h
 split at h
 ·cases h
 split at h
 ·cases h
 split at h
 ·split at h
  ·rename_i hc; exact hc.2.1
  ·cases h
 split at h
 ·rename_i hc; exact absurd h hc
 split at h
 ·rename_i hc; omega
 ·cases h
theorem O4 {t:Types} (hf:BS t) (h:GT t) {Q:Attr->Prop} (O3:∀ {all:List Attr} {k:Int},LB all k=0->(AB all k).Names.length<=1000->Q (AB all k)):∀ (n:Nat) (a:Int),a<t.Nodes.length->a<n->∀ x∈CE t n a,Q x
 | 0,_,_,_=>by simp [CE]
 | n+1,a,ha,hn=>by
  by_cases h0:a<0
  ·rw [IN h0]; simp
  ·have hp:=h.par a (by omega) ha
   intro x hx
   rw [NO (by omega)] at hx
   rcases List.mem_append.1 hx with hx | hx
   ·exact O4 hf h O3 n (par t a) (by omega) (by omega) x hx
   ·obtain ⟨j,j0,j1,rfl⟩:=DX hx
    have e:AZ t a=CE t a.toNat (par t a)++(AB t.Nodes a).Attrs:=by
     unfold AZ
     rw [show (a+1).toNat=a.toNat+1 by omega,NO (by omega)]
    have hl:(AZ t a).length=(CE t a.toNat (par t a)).length+(AB t.Nodes a).Attrs.length:=by rw [e,List.length_append]
    have h1:=Ve (h.node a (by omega) ha) ((CE t a.toNat (par t a)).length+j) (by omega) (by omega)
    have e2:AB (AZ t a) ((CE t a.toNat (par t a)).length+j)=AB (AB t.Nodes a).Attrs j:=by
     rw [e,Sz,if_neg (by omega)]
     unfold AB
     congr 1
     omega
    have hm:=Lc hf (Int.le_refl _) h.par ha (AB (AZ t a) ((CE t a.toNat (par t a)).length+j)) (AN (by omega) (by omega))
    have:=O3 h1 (by have:=hm.names; omega)
    rwa [e2] at this
theorem Rs {t:Types} (hf:BS t) (h:GT t) {a:Int} (h0:0<=a) (ha:a<t.Nodes.length):∀ x∈AZ t a,-1000000<=x.Low∧x.High<=1000000:=O4 hf h O3 _ a ha (by omega)
theorem Xx {t:Types} (hf:BS t) (h:GT t) {a:Int} (h0:0<=a) (ha:a<t.Nodes.length):∀ x∈AZ t a,x.Low<=x.High:=O4 hf h ZS _ a ha (by omega)
theorem Tg {t:Types} {k:Int} (hp:FO t k):∀ (n:Nat) (a b:Int),a<k->a<n->b∈M7 t n a->0<=b∧b<=a∧(AZ t b).length<=(CE t n a).length
 | 0,_,_,_,_=>by simp [M7]
 | n+1,a,b,ha,hn=>by
  intro hb
  rw [M7] at hb
  split at hb
  ·cases hb
  ·rename_i h0
   have hq:=hp a (by omega) ha
   rw [NO (by omega)]
   rcases List.mem_cons.1 hb with rfl | hb
   ·refine ⟨by omega,by omega,?_⟩
    unfold AZ
    rw [LO hp (b+1).toNat (n+1) b ha (by omega) (by omega),NO (by omega)]
    exact Nat.le_refl _
   ·have:=Tg hp n (par t a) b (by omega) (by omega) hb
    refine ⟨this.1,by omega,?_⟩
    rw [List.length_append]; omega
theorem YH {t:Types} (h:GT t) {a b:Int} (ha:a<t.Nodes.length) (hb:IX t a b=true):(AZ t b).length<=(AZ t a).length:=by
 unfold IX at hb
 rw [List.any_eq_true] at hb
 obtain ⟨x,hx,e⟩:=hb
 rw [zzX] at e
 subst e
 by_cases h0:a<0
 ·have:(a+1).toNat=0:=by omega
  rw [this] at hx; cases hx
 ·exact (Tg h.par (a+1).toNat a b ha (by omega) hx).2.2
theorem Ws {α:Type} {a b:Int} {Q:Prop} [Decidable Q] {v:α} {X:Option α} {Y:α} (he:a=b↔Q) (h:Q->X=some Y):(if (!decide (a=b))=true then some v else X)=some (if ¬ Q then v else Y):=by
 by_cases hq:Q
 ·rw [if_neg (by simp [he.2 hq]),if_neg (by simpa using hq),h hq]
 ·rw [if_pos (by simp; exact fun e=>hq (he.1 e)),if_pos hq]
def Pr (t:Types) (k:Int) (v:List Int) (j:Int):Bool:=decide (AB v j<(AB (AZ t k) j).Low)||decide ((AB (AZ t k) j).High<AB v j)
def Jk (t:Types) (k:Int) (v:List Int):Int:=
 if (t.Nodes.length:Int)<=k then 6 else if (AB t.Nodes k).Abstract=true then 13 else if ¬ v.length=(AZ t k).length then 20 else
 if anyR (Pr t k v) 0 (AZ t k).length=true then 6 else 0
def Kv (t:Types) (g:Graph) (i:Int):Int:=
 if (t.Edges.length:Int)<=(AB g.Edges i).Type' then 6 else if RU t g i=false then 13 else 0
def Mg (t:Types) (h:AY):Int × Int:=
 if (A6 t).2≠0 then (-1,(A6 t).2) else if C1 h.Graph≠0 then (-1,C1 h.Graph) else if ¬ h.Values.length=h.Graph.Nodes.length then (-1,20) else
 match fst (fun i=>(nz (Jk t (AB h.Graph.Nodes i) (AB h.Values i))).map fun e=>(i,e)) 0 h.Graph.Nodes.length with
 | some r=>r
 | none=>(fst (fun i=>(nz (Kv t h.Graph i)).map fun e=>(i,e)) 0 h.Graph.Edges.length).getD (-1,0)
theorem N2 {t:Types} (hv:(A6 t).2=0) {k:Int} (h0:0<=k) (h1:k<t.Nodes.length):H4 t k=(AZ t k,0):=by
 unfold H4
 rw [if_neg (by simp [hv]),if_pos (LQ.2 ⟨h0,h1⟩)]
theorem WD {x:Bool} {y:Bool}:(if x=true then some true else some y)=some (x||y):=by cases x <;> rfl
theorem cu {t:Types} (hf:BS t) (hv:(A6 t).2=0) {k:Int} (h0:0<=k) (v:List Int):JH t k v=some (Jk t k v):=by
 unfold JH Jk
 by_cases h1:(t.Nodes.length:Int)<=k
 ·rw [if_pos (by simpa using h1),if_pos h1]
 rw [if_neg (by simpa using h1),if_neg h1,AF h0 (by omega),bs]
 refine nt fun _=>?_
 rw [WH hf,N2 hv h0 (by omega),bs]
 refine Ws (by simp only []; omega) fun hl=>?_
 rw [CB (Pr t k v) 6]
 ·cases anyR (Pr t k v) 0 (AZ t k).length <;> rfl
 ·intro j j0 j1 _
  have j1:j<(AZ t k).length:=j1
  rw [AF j0 j1,bs,AF j0 (by omega)]
  simp only [bs,WD]
  unfold Pr
  cases decide (AB v j<(AB (AZ t k) j).Low) <;> cases decide ((AB (AZ t k) j).High<AB v j) <;> rfl
theorem dB {t:Types} (hf:BS t) (hv:(A6 t).2=0) {k:Int} (h0:0<=k) (v:List Int):L6 t k v=some (Jk t k v):=by
 unfold L6 Jk
 by_cases h1:(t.Nodes.length:Int)<=k
 ·rw [if_pos (by simpa using h1),if_pos h1]
 rw [if_neg (by simpa using h1),if_neg h1,AF h0 (by omega),bs]
 refine nt fun _=>?_
 rw [Q5 hf,N2 hv h0 (by omega),bs]
 refine Ws (by simp only []; omega) fun hl=>?_
 rw [CB (Pr t k v) 6]
 ·cases anyR (Pr t k v) 0 (AZ t k).length <;> rfl
 ·intro j j0 j1 _
  have j1:j<(AZ t k).length:=j1
  rw [AF j0 (by omega),bs,AF j0 j1]
  simp only [bs,WD]
  unfold Pr
  cases decide (AB v j<(AB (AZ t k) j).Low) <;> cases decide ((AB (AZ t k) j).High<AB v j) <;> rfl
theorem Uj (e i:Int):(if (!decide (e=0))=true then some (B9.ret (σ:=Unit) (ρ:=Int × Int) (i,e)) else some (.next ()))=some (OS ((nz e).map fun e=>(i,e))):=by
 unfold nz
 by_cases h:e=0 <;> simp [h,OS]
theorem YR {t:Types} (hf:BS t) (h:AY):Hr t h=some (Mg t h):=by
 unfold Hr Mg
 rw [Q3 hf,bs]
 refine Lh fun hv=>?_
 rw [Nb,bs]
 refine Lh fun hg=>?_
 have go:=E4 hg
 refine Ws (by omega) fun hl=>?_
 rw [CX (fun i=>(nz (Jk t (AB h.Graph.Nodes i) (AB h.Values i))).map fun e=>(i,e)),GJ]
 ·cases hn:fst (fun i=>(nz (Jk t (AB h.Graph.Nodes i) (AB h.Values i))).map fun e=>(i,e)) 0 h.Graph.Nodes.length with
  | some r=>rfl
  | none=>
   have hn2:=CY.1 hn
   dsimp only
   rw [CX (fun i=>(nz (Kv t h.Graph i)).map fun e=>(i,e)),GJ]
   ·cases fst (fun i=>(nz (Kv t h.Graph i)).map fun e=>(i,e)) 0 h.Graph.Edges.length <;> rfl
   ·intro i i0 i1 _
    have hfi:=go.fit _ (AN (l:=h.Graph.Edges) i0 i1)
    rw [AF i0 i1,bs]
    unfold Kv RU
    by_cases h1:(t.Edges.length:Int)<=(AB h.Graph.Edges i).Type'
    ·rw [if_pos (by simpa using h1),if_pos h1]; rfl
    ·rw [if_neg (by simpa using h1),if_neg h1,AF (by omega) (by omega),bs,AF (by omega) (by omega),bs,fT hf,bs]
     cases Pd t (AB h.Graph.Edges i).Type' (AB h.Graph.Nodes (AB h.Graph.Edges i).From) (AB h.Graph.Nodes (AB h.Graph.Edges i).To) <;> rfl
 ·intro i i0 i1 _
  rw [AF i0 i1,bs,AF i0 (by omega),bs,cu hf hv (go.kind _ (AN i0 i1)).1,bs]
  exact Uj _ i
theorem fo {t:Types} (hf:BS t) (h:AY):K4 t h=some (Mg t h):=by
 unfold K4 Mg
 rw [Q6 hf,bs]
 refine Lh fun hv=>?_
 rw [Nd,bs]
 refine Lh fun hg=>?_
 have go:=E4 hg
 refine Ws (by omega) fun hl=>?_
 rw [CX (fun i=>(nz (Jk t (AB h.Graph.Nodes i) (AB h.Values i))).map fun e=>(i,e)),GJ]
 ·cases hn:fst (fun i=>(nz (Jk t (AB h.Graph.Nodes i) (AB h.Values i))).map fun e=>(i,e)) 0 h.Graph.Nodes.length with
  | some r=>rfl
  | none=>
   have hn2:=CY.1 hn
   dsimp only
   rw [CX (fun i=>(nz (Kv t h.Graph i)).map fun e=>(i,e)),GJ]
   ·cases fst (fun i=>(nz (Kv t h.Graph i)).map fun e=>(i,e)) 0 h.Graph.Edges.length <;> rfl
   ·intro i i0 i1 _
    have hfi:=go.fit _ (AN (l:=h.Graph.Edges) i0 i1)
    rw [AF i0 i1,bs]
    unfold Kv RU
    by_cases h1:(t.Edges.length:Int)<=(AB h.Graph.Edges i).Type'
    ·rw [if_pos (by simpa using h1),if_pos h1]; rfl
    ·rw [if_neg (by simpa using h1),if_neg h1,AF (by omega) (by omega),bs,AF (by omega) (by omega),bs,Ya hf,bs]
     cases Pd t (AB h.Graph.Edges i).Type' (AB h.Graph.Nodes (AB h.Graph.Edges i).From) (AB h.Graph.Nodes (AB h.Graph.Edges i).To) <;> rfl
 ·intro i i0 i1 _
  rw [AF i0 i1,bs,AF i0 (by omega),bs,dB hf hv (go.kind _ (AN i0 i1)).1,bs]
  exact Uj _ i
structure LY (t:Types) (h:AY):Prop where
 g:Jq h.Graph
 len:h.Values.length=h.Graph.Nodes.length
 kind:∀ i:Int,0<=i->i<h.Graph.Nodes.length->0<=AB h.Graph.Nodes i∧AB h.Graph.Nodes i<t.Nodes.length
 row:∀ i:Int,0<=i->i<h.Graph.Nodes.length->(AB h.Values i).length=(AZ t (AB h.Graph.Nodes i)).length
 low:∀ i:Int,0<=i->i<h.Graph.Nodes.length->∀ x∈AB h.Values i,-1000000<=x∧x<=1000000
 ge:C1 h.Graph=0
 ty:E6 t h.Graph=true
theorem V6 {t:Types} (hf:BS t) {h:AY} (e:(Mg t h).2=0):(A6 t).2=0∧LY t h:=by
 unfold Mg at e
 split at e
 ·rename_i h1; exact absurd e h1
 split at e
 ·rename_i h1; exact absurd e h1
 split at e
 ·cases e
 rename_i h1 h2 h3
 have hv:=Classical.not_not.1 h1
 have go:=E4 (Classical.not_not.1 h2)
 have hn:∀ i:Int,0<=i->i<h.Graph.Nodes.length->Jk t (AB h.Graph.Nodes i) (AB h.Values i)=0:=by
  split at e
  ·rename_i r hr
   obtain ⟨i,_,_,k,_⟩:=FE hr
   unfold nz at k
   split at k
   ·cases k
   ·rename_i hne; cases k; exact absurd e hne
  ·rename_i hr
   exact fun i i0 i1=>Na.1 (MV.1 (CY.1 hr i i0 i1))
 have hk:∀ i:Int,0<=i->i<h.Graph.Nodes.length->(0<=AB h.Graph.Nodes i∧AB h.Graph.Nodes i<t.Nodes.length)∧(AB h.Values i).length=(AZ t (AB h.Graph.Nodes i)).length∧∀ j:Int,0<=j->j<(AZ t (AB h.Graph.Nodes i)).length->Pr t (AB h.Graph.Nodes i) (AB h.Values i) j=false:=by
  intro i i0 i1
  have k0:=(go.kind _ (AN i0 i1)).1
  have:=hn i i0 i1
  unfold Jk at this
  split at this
  ·cases this
  split at this
  ·cases this
  split at this
  ·cases this
  split at this
  ·cases this
  rename_i a1 a2 a3 a4
  exact ⟨⟨k0,by omega⟩,Classical.not_not.1 a3,DH.1 (by simpa using a4)⟩
 have he:∀ i:Int,0<=i->i<h.Graph.Edges.length->Kv t h.Graph i=0:=by
  have hn':fst (fun i=>(nz (Jk t (AB h.Graph.Nodes i) (AB h.Values i))).map fun e=>(i,e)) 0 h.Graph.Nodes.length=none:=CY.2 fun i i0 i1=>by rw [hn i i0 i1]; rfl
  rw [hn'] at e
  dsimp only at e
  cases hr:fst (fun i=>(nz (Kv t h.Graph i)).map fun e=>(i,e)) 0 h.Graph.Edges.length with
  | some r=>
   rw [hr] at e
   obtain ⟨i,_,_,k,_⟩:=FE hr
   unfold nz at k
   split at k
   ·cases k
   ·rename_i hne; cases k; exact absurd e hne
  | none=>exact fun i i0 i1=>Na.1 (MV.1 (CY.1 hr i i0 i1))
 have hty:E6 t h.Graph=true:=by
  unfold E6
  rw [zzZ,Bool.not_eq_true',Bool.not_eq_true',List.any_eq_false,List.any_eq_false]
  refine ⟨fun n hn=>?_,fun x hx=>?_⟩
  ·obtain ⟨i,i0,i1,rfl⟩:=DX hn
   have:=(hk i i0 i1).1.2
   simp; omega
  ·obtain ⟨i,i0,i1,rfl⟩:=DX hx
   have:=he i i0 i1
   unfold Kv at this
   split at this
   ·cases this
   ·simp; omega
 suffices hlow:∀ i:Int,0<=i->i<h.Graph.Nodes.length->∀ x∈AB h.Values i,-1000000<=x∧x<=1000000 from ⟨hv,go,Classical.not_not.1 h3,fun i i0 i1=>(hk i i0 i1).1,fun i i0 i1=>(hk i i0 i1).2.1,hlow,Classical.not_not.1 h2,hty⟩
 intro i i0 i1 x hx
 obtain ⟨k1,k2,k3⟩:=hk i i0 i1
 obtain ⟨j,j0,j1,rfl⟩:=DX hx
 have:=k3 j j0 (by omega)
 unfold Pr at this
 simp only [Bool.or_eq_false_iff,decide_eq_false_iff_not] at this
 have:=Rs hf (GG hv) k1.1 k1.2 _ (AN (l:=AZ t (AB h.Graph.Nodes i)) j0 (by omega))
 omega
end Go.Sf.Sc
namespace Go.Sf.Sc
open Go Go.Sf
def Lg (t:Types) (p g:Graph) (m:Morphism) (i:Int):Option Int:=
 if AB m.Nodes i<0∨g.Nodes.length<=AB m.Nodes i then some 6 else if IX t (AB g.Nodes (AB m.Nodes i)) (AB p.Nodes i)=false then some 13 else none
def OO (t:Types) (p g:Graph) (m:Morphism):Int:=
 if m.Nodes.length≠p.Nodes.length∨m.Edges.length≠p.Edges.length then 20 else
 match fst (Lg t p g m) 0 m.Nodes.length with
 | some e=>e
 | none=>(fst (IY p g m) 0 m.Edges.length).getD 0
def Kn (t:Types) (p g:Graph) (m:Morphism) (inj:Bool):Int:=
 if GO t p g≠0 then GO t p g else if OO t p g m≠0 then OO t p g m else if (inj&&!NC m)=true then 5 else 0
structure T5 (t:Types) (p g:Graph) (m:Morphism):Prop where
 nlen:m.Nodes.length=p.Nodes.length
 elen:m.Edges.length=p.Edges.length
 node:∀ i:Int,0<=i->i<m.Nodes.length->(0<=AB m.Nodes i∧AB m.Nodes i<g.Nodes.length)∧IX t (AB g.Nodes (AB m.Nodes i)) (AB p.Nodes i)=true
 edge:∀ i:Int,0<=i->i<m.Edges.length->0<=AB m.Edges i∧AB m.Edges i<g.Edges.length
theorem Pg {t:Types} {p g:Graph} (h:GO t p g=0):(A6 t).2=0∧Jq p∧Jq g∧(∀ n∈p.Nodes,0<=n∧n<t.Nodes.length)∧∀ n∈g.Nodes,0<=n∧n<t.Nodes.length:=by
 unfold GO at h
 split at h
 ·rename_i h1; exact absurd h h1
 split at h
 ·rename_i h1; exact absurd h h1
 split at h
 ·rename_i h1; exact absurd h h1
 split at h
 ·rename_i h1 h2 h3 h4
  rw [zzZ] at h4
  have gp:=E4 (Classical.not_not.1 h2)
  have gg:=E4 (Classical.not_not.1 h3)
  exact ⟨Classical.not_not.1 h1,gp,gg,(Mb gp h4.1).1,(Mb gg h4.2).1⟩
 ·cases h
theorem WT {t:Types} {p g:Graph} {m:Morphism} (h:OO t p g m=0):T5 t p g m:=by
 unfold OO at h
 split at h
 ·cases h
 rename_i h3
 have hn:fst (Lg t p g m) 0 m.Nodes.length=none:=by
  split at h
  ·rename_i r hr
   obtain ⟨i,_,_,k,_⟩:=FE hr
   subst h
   unfold Lg at k
   split at k
   ·cases k
   ·split at k <;> cases k
  ·assumption
 rw [hn] at h
 have he:=TE (fun i=>by
  unfold IY
  split
  ·simp
  ·split
   ·simp
   ·split <;> simp) h
 refine ⟨by omega,by omega,fun i i1 i2=>?_,fun i i1 i2=>?_⟩
 ·have:=CY.1 hn i i1 i2
  unfold Lg at this
  split at this
  ·cases this
  ·split at this
   ·cases this
   ·rename_i x y
    exact ⟨by omega,by simpa using y⟩
 ·have:=he i i1 i2
  unfold IY at this
  split at this
  ·cases this
  ·omega
theorem YW {t:Types} (hf:BS t) {p g:Graph} (hg:GO t p g=0) (m:Morphism):HH t p g m=some (OO t p g m):=by
 obtain ⟨hv,gp,gg,tp,tg⟩:=Pg hg
 unfold HH OO
 refine Oc (by simp; try omega) fun hl=>?_
 rw [bR hf (GG hv) hv,bs,CX (Lg t p g m),GJ]
 ·cases hn:fst (Lg t p g m) 0 m.Nodes.length with
  | some e=>rfl
  | none=>
   dsimp only
   rw [CX (IY p g m),GE]
   intro i i1 i2 _
   unfold IY
   rw [AF i1 i2,bs]
   by_cases h1:AB m.Edges i<0∨g.Edges.length<=AB m.Edges i
   ·rw [if_pos (by simpa using h1),if_pos h1]; rfl
   ·have hf:=gp.fit _ (AN (l:=p.Edges) i1 (by omega))
    rw [if_neg (by simpa using h1),if_neg h1,AF i1 (by omega),bs,AF (by omega) (by omega),bs]
    by_cases h2:(AB p.Edges i).Type'=(AB g.Edges (AB m.Edges i)).Type'
    ·rw [if_neg (by simpa using h2),if_neg (by simpa using h2),AF (by omega) (by omega),bs]
     by_cases h3:AB m.Nodes (AB p.Edges i).From=(AB g.Edges (AB m.Edges i)).From
     ·rw [if_neg (by simpa using h3),AF (by omega) (by omega),bs,bs]
      by_cases h4:AB m.Nodes (AB p.Edges i).To=(AB g.Edges (AB m.Edges i)).To
      ·rw [if_neg (by simpa using h4),if_neg (by simp [h3,h4])]; rfl
      ·rw [if_pos (by simpa using h4),if_pos (.inr h4)]; rfl
     ·rw [if_pos (by simpa using h3),bs,if_pos rfl,if_pos (.inl h3)]; rfl
    ·rw [if_pos (by simpa using h2),if_pos h2]; rfl
 ·intro i i1 i2 _
  unfold Lg
  rw [AF i1 i2,bs]
  by_cases h1:AB m.Nodes i<0∨g.Nodes.length<=AB m.Nodes i
  ·rw [if_pos (by simpa using h1),if_pos h1]; rfl
  ·have kp:=tp _ (AN (l:=p.Nodes) i1 (by omega))
   have kg:=tg _ (AN (l:=g.Nodes) (show 0<=AB m.Nodes i by omega) (by omega))
   rw [if_neg (by simpa using h1),if_neg h1,AF i1 (by omega),bs,AF kp.1 (by unfold JZ; rw [List.length_map,DD]; exact kp.2),bs,AF (by omega) (by omega),bs]
   have e:AB (JZ t) (AB p.Nodes i)=J6 t (AB p.Nodes i):=by unfold JZ; exact LX (J6 t) kp.1 kp.2
   rw [e,AF kg.1 (by unfold J6; rw [List.length_map,DD]; exact kg.2),bs]
   have e2:AB (J6 t (AB p.Nodes i)) (AB g.Nodes (AB m.Nodes i))=IX t (AB g.Nodes (AB m.Nodes i)) (AB p.Nodes i):=by unfold J6; exact LX (fun k=>IX t k (AB p.Nodes i)) kg.1 kg.2
   rw [e2]
   cases IX t (AB g.Nodes (AB m.Nodes i)) (AB p.Nodes i) <;> rfl
theorem WK {l:List Int} (hl:l.length<=1000):IC l=some (!MP l):=by
 unfold IC
 rw [if_pos (by omega)]
 congr 1
 have h1:=RT l
 have h2:=MQ (l:=l)
 cases hd:dupB l with
 | false=>rw [h2.2 (h1.1 hd)]; rfl
 | true=>
  cases he:MP l with
  | false=>rfl
  | true=>rw [h1.2 (h2.1 he)] at hd; cases hd
theorem WJ {t:Types} (hf:BS t) (p g:Graph) (m:Morphism) (inj:Bool):F8 t p g m inj=some (Kn t p g m inj):=by
 unfold F8 Kn
 rw [WL hf,bs]
 refine IP fun hg=>?_
 rw [YW hf hg,bs]
 refine IP fun hs=>?_
 obtain ⟨_,gp,gg,_⟩:=Pg hg
 have mo:=WT hs
 have:=gp.nodes; have:=gp.edges; have:=mo.nlen; have:=mo.elen
 rw [WK (by omega),WK (by omega)]
 unfold NC
 cases inj <;> cases MP m.Nodes <;> cases MP m.Edges <;> rfl
theorem X3 {t:Types} {p g:Graph} {m:Morphism} {inj:Bool} (h:Kn t p g m inj=0):GO t p g=0∧T5 t p g m:=by
 unfold Kn at h
 split at h
 ·rename_i h1; exact absurd h h1
 split at h
 ·rename_i h1; exact absurd h h1
 rename_i h1 h2
 exact ⟨Classical.not_not.1 h1,WT (Classical.not_not.1 h2)⟩
end Go.Sf.Sc
namespace Go.Sf.Sc
open Go Go.Sf
section
variable {α σ ρ:Type}
def GY (step:α->σ->B9 σ ρ):List α->σ->σ ⊕ ρ
 | [],s=>.inl s
 | a::r,s=>match step a s with
  | .next s'=>GY step r s'
  | .brk s'=>.inl s'
  | .ret r=>.inr r
theorem Qd [Inhabited α] {l:List α} {f:Int->σ->Option (B9 σ ρ)} (step:α->σ->B9 σ ρ) (I:σ->Prop) (h:∀ (i:Int) s,0<=i->i<l.length->I s->f i s=some (step (AB l i) s)∧∀ s',step (AB l i) s=.next s'->I s') :
  ∀ (n:Nat) (a:Int) (s:σ),0<=a->a+n=l.length->I s->forGo f n a s=some (GY step (l.drop a.toNat) s)
 | 0,a,s,h0,h1,_=>by
  rw [List.drop_eq_nil_of_le (by omega)]; rfl
 | n+1,a,s,h0,h1,hs=>by
  obtain ⟨h2,h3⟩:=h a s h0 (by omega) hs
  have hd:l.drop a.toNat=AB l a::l.drop (a+1).toNat:=by
   rw [show (a+1).toNat=a.toNat+1 by omega,List.drop_eq_getElem_cons (by omega)]
   congr 1
   unfold AB
   rw [List.getD_eq_getElem?_getD,List.getElem?_eq_getElem (by omega)]; rfl
  rw [F5,h2,hd,GY]
  cases hc:step (AB l a) s with
  | next s'=>
   simp only
   exact Qd step I h n (a+1) s' (by omega) (by omega) (h3 s' hc)
  | brk s'=>rfl
  | ret r=>rfl
theorem Qc [Inhabited α] {l:List α} {f:Int->σ->Option (B9 σ ρ)} (step:α->σ->B9 σ ρ) (I:σ->Prop) {s:σ} (hs:I s) (h:∀ (i:Int) s,0<=i->i<l.length->I s->f i s=some (step (AB l i) s)∧∀ s',step (AB l i) s=.next s'->I s') :
  forR f 0 l.length s=some (GY step l s):=by
 have:=Qd step I h l.length 0 s (by omega) (by omega) hs
 unfold forR
 rw [show ((l.length:Int) - 0).toNat=l.length by omega]
 exact this
theorem VA [Inhabited α] (step:α->σ->B9 σ ρ) (I:σ->Prop):∀ (l:List α) (s s':σ),I s->(∀ a∈l,∀ s s',I s->step a s=.next s'->I s')->(∀ a∈l,∀ s s',step a s≠.brk s')->GY step l s=.inl s'->I s'
 | [],s,s',h,_,_,e=>by cases e; exact h
 | a::r,s,s',h,hn,hb,e=>by
  rw [GY] at e
  split at e
  ·rename_i s2 h2
   exact VA step I r s2 s' (hn a (by simp) s s2 h h2) (fun a ha=>hn a (by simp [ha])) (fun a ha=>hb a (by simp [ha])) e
  ·rename_i s2 h2; exact absurd h2 (hb a (by simp) _ _)
  ·cases e
end
def EO (x:Term) (l:List Int):Int:=if x.Var<0 then x.Add else AI (AB l x.Var+x.Add)
theorem Qk {x:Term} {l:List Int} (h:x.Var<l.length):EW x l=some (EO x l):=by
 unfold EW EO
 by_cases h0:x.Var<0
 ·rw [if_pos (by simpa using h0),if_pos h0]
 ·rw [if_neg (by simpa using h0),if_neg h0,AF (by omega) h]; rfl
theorem Yj {x:Term} {l:List Int} (h:x.Var<l.length):Jy x l=some (EO x l):=Qk h
theorem Zs {x:Term} {l:List Int} (h0:-1<=x.Var) (h:x.Var<l.length) (hl:l.length<=1000):GU x l=some (EO x l,0):=by
 unfold GU C7
 rw [AW (by omega) (by omega),bs,if_neg (by simp; omega),Qk h]; rfl
def JS (x:Test) (l:List Int):Bool:=(decide (x.Kind=1)&&decide (EO x.Left l<=EO x.Right l))||(decide (x.Kind=2)&&decide (EO x.Left l=EO x.Right l))
structure IL (n:Int) (x:Term):Prop where
 low:-1<=x.Var
 high:x.Var<n
 add:-1000000<=x.Add∧x.Add<=1000000
def Nh (l:List Int):Prop:=∀ x∈l,-2000000<=x∧x<=2000000
theorem P5 {n:Int} {x:Term} (h:IL n x) {l:List Int} (hl:Nh l) (hn:n<=l.length):EO x l=(if x.Var<0 then x.Add else AB l x.Var+x.Add)∧-3000000<=EO x l∧EO x l<=3000000:=by
 unfold EO
 have:=h.add
 by_cases h0:x.Var<0
 ·rw [if_pos h0,if_pos h0]; omega
 ·have hh:=h.high
  have:=hl _ (AN (l:=l) (show 0<=x.Var by omega) (by omega))
  rw [if_neg h0,if_neg h0,AW (by omega) (by omega)]; omega
theorem TU {n:Int} {x:Term} (h:IL n x) {l:List Int} (hn:n<=l.length):Jr x l=some (EO x l,true):=by
 have h1:=h.low
 have h2:=h.high
 unfold Jr EO
 by_cases h0:x.Var=-1
 ·rw [if_pos (by simpa using h0),if_pos (by omega)]
 ·rw [if_neg (by simpa using h0),if_neg (by simp; omega),if_neg (by omega),AF (by omega) (by omega)]; rfl
theorem r_holds {n:Int} {x:Test} (h1:IL n x.Left) (h2:IL n x.Right) {l:List Int} (hn:n<=l.length):K0 x l=some (JS x l):=by
 unfold K0
 rw [TU h1 hn,TU h2 hn]; rfl
theorem Th {a b:Int} (ha:-4000000<=a∧a<=4000000) (hb:-4000000<=b∧b<=4000000):HL a b=some (if a+b<0 then (-1,a+b+18446744073709551616) else (0,a+b)):=by
 have hw:∀ c:Int,IntKind.u64.wrap c=c % 18446744073709551616:=fun c=>by
  simp [IntKind.wrap,IntKind.signed,IntKind.bits]
 have hs:∀ c:Int,-4000000<=c∧c<=4000000->Kw .i64 .shr c 63=some (if c<0 then -1 else 0):=by
  intro c hc
  unfold Kw
  have e:c.fdiv (2 ^ (min (63:Int).toNat (IntKind.bits .i64)))=if c<0 then -1 else 0:=by
   show c.fdiv (2 ^ 63)=_
   rw [Int.fdiv_eq_ediv_of_nonneg _ (by decide)]
   split <;> omega
  simp only [e]
  have:(0:Int)<=63∧IntKind.min .i64<=(if c<0 then -1 else 0)∧(if c<0 then -1 else 0)<=IntKind.max .i64:=by
   split <;> decide
  rw [if_pos this]
 unfold HL IZ
 rw [hw,hw,if_pos (by omega),bs,hs a ha,hs b hb,bs,bs]
 congr 1
 have wi:∀ c:Int,-10<=c->c<=10->AI c=c:=fun c h1 h2=>AW (by omega) (by omega)
 have hq:(a % 18446744073709551616+b % 18446744073709551616+0) / 18446744073709551616=if a<0∧b<0 then 1 else if (a<0∨b<0)∧0<=a+b then 1 else 0:=by
  split
  ·omega
  ·split <;> omega
 have hr:(a % 18446744073709551616+b % 18446744073709551616+0) % 18446744073709551616=if a+b<0 then a+b+18446744073709551616 else a+b:=by
  split <;> omega
 rw [hq,hr]
 by_cases h1:a<0 <;> by_cases h2:b<0
 ·simp only [h1,h2,and_self,if_true]
  rw [wi _ (by decide) (by decide),wi _ (by decide) (by decide),if_pos (by omega),if_pos (by omega)]; rfl
 ·by_cases h3:a+b<0
  ·simp only [h1,h2,and_false,if_true,if_false,true_or,true_and,h3,show ¬ 0<=a+b by omega]
   rw [wi _ (by decide) (by decide),wi _ (by decide) (by decide)]; rfl
  ·simp only [h1,h2,and_false,if_true,if_false,true_or,true_and,h3,show 0<=a+b by omega]
   rw [wi _ (by decide) (by decide),wi _ (by decide) (by decide)]; rfl
 ·by_cases h3:a+b<0
  ·simp only [h1,h2,false_and,if_true,if_false,or_true,true_and,h3,show ¬ 0<=a+b by omega]
   rw [wi _ (by decide) (by decide),wi _ (by decide) (by decide)]; rfl
  ·simp only [h1,h2,false_and,if_true,if_false,or_true,true_and,h3,show 0<=a+b by omega]
   rw [wi _ (by decide) (by decide),wi _ (by decide) (by decide)]; rfl
 ·have h3:¬ a+b<0:=by omega
  simp only [h1,h2,false_and,and_self,if_false,or_self,h3]
  rw [wi _ (by decide) (by decide),wi _ (by decide) (by decide)]; rfl
def Je (a:Int):Int × Int:=if a<0 then (-1,a+18446744073709551616) else (0,a)
theorem Uq {n:Int} {x:Term} (h:IL n x) {l:List Int} (hl:Nh l) (hn:n<=l.length):FK x l=some ((Je (EO x l)).1,(Je (EO x l)).2,true):=by
 have h1:=h.low
 have h2:=h.high
 have h3:=h.add
 have hs:=(P5 h hl hn).1
 unfold FK
 by_cases h0:x.Var=-1
 ·have e:EO x l=x.Add:=by rw [hs,if_pos (by omega)]
  rw [e,if_pos (by simpa using h0),Th (by omega) (by omega),bs,Int.zero_add]; rfl
 ·have:=hl _ (AN (l:=l) (show 0<=x.Var by omega) (by omega))
  have e:EO x l=AB l x.Var+x.Add:=by rw [hs,if_neg (by omega)]
  rw [e,if_neg (by simpa using h0),if_neg (by simp; omega),AF (by omega) (by omega),bs,Th (by omega) (by omega),bs]; rfl
theorem bK (a b:Int):IQ a b=some (if a<b then -1 else if b<a then 1 else 0):=by
 unfold IQ Jj
 simp only [bs,decide_true,Bool.not_true,Bool.false_eq_true,if_false,zzX]
 split
 ·rfl
 ·split <;> rfl
theorem l9 (a b:Int):IR a b=some (if a<b then -1 else if b<a then 1 else 0):=bK a b
theorem ey (a b:Int):Li [a,b]=some (if a=0 then b else a):=by
 unfold Li
 show thenR (forGo _ 2 0 ()) _ _=_
 rw [F5,show AG [a,b] 0=some a from rfl,bs]
 by_cases ha:a=0
 ·rw [if_neg (by simp [ha]),if_pos ha]
  show thenR (forGo _ 1 (0+1) ()) _ _=_
  rw [F5,show AG [a,b] (0+1)=some b from rfl,bs]
  by_cases hb:b=0
  ·rw [if_neg (by simp [hb]),hb]; rfl
  ·rw [if_pos (by simp [hb])]; rfl
 ·rw [if_pos (by simp [ha]),if_neg ha]; rfl
theorem p_holds {n:Int} {x:Test} (h1:IL n x.Left) (h2:IL n x.Right) {l:List Int} (hl:Nh l) (hn:n<=l.length):GW x l=some (JS x l):=by
 have s1:=(P5 h1 hl hn).2
 have s2:=(P5 h2 hl hn).2
 unfold GW JS
 rw [Uq h1 hl hn,Uq h2 hl hn]
 simp only [bs,Bool.not_true,Bool.or_self,Bool.false_eq_true,if_false,bK,l9,ey]
 generalize EO x.Left l=a at s1
 generalize EO x.Right l=b at s2
 have key:(if (if (Je a).1<(Je b).1 then (-1:Int) else if (Je b).1<(Je a).1 then 1 else 0)=0 then (if (Je a).2<(Je b).2 then (-1:Int) else if (Je b).2<(Je a).2 then 1 else 0) else (if (Je a).1<(Je b).1 then (-1:Int) else if (Je b).1<(Je a).1 then 1 else 0))=if a<b then -1 else if b<a then 1 else 0:=by
  unfold Je
  by_cases ha:a<0 <;> by_cases hb:b<0 <;> simp only [ha,hb,if_true,if_false] <;> (repeat' split) <;> omega
 rw [key]
 congr 2
 ·congr 1
  rw [decide_eq_decide]
  repeat' split
  all_goals omega
 ·congr 1
  rw [decide_eq_decide]
  repeat' split
  all_goals omega
end Go.Sf.Sc
namespace Go.Sf.Sc
open Go Go.Sf
structure P7 (t:Types) (q:Pattern):Prop where
 g:Jq q.Graph
 kind:∀ n∈q.Graph.Nodes,0<=n∧n<t.Nodes.length
 vars:0<=q.Vars∧q.Vars<=12
 few:q.Slots.length<=10∧q.Tests.length<=10
 slot:∀ s∈q.Slots,(0<=s.Node∧s.Node<q.Graph.Nodes.length)∧(0<=s.Attr∧s.Attr<(AZ t (AB q.Graph.Nodes s.Node)).length)∧IL q.Vars s.Term
 test:∀ x∈q.Tests,(x.Kind=1∨x.Kind=2)∧IL q.Vars x.Left∧IL q.Vars x.Right
 ge:C1 q.Graph=0
 ty:E6 t q.Graph=true
theorem VK {n:Int} {x:Term} (h:MD n x=true):IL n x:=by
 unfold MD at h
 simp only [zzZ,zzX] at h
 exact ⟨h.1.1.1,h.1.1.2,h.1.2,h.2⟩
theorem ax {n:Int} {l:List Test} (h:Ih n l=0):∀ x∈l,(x.Kind=1∨x.Kind=2)∧IL n x.Left∧IL n x.Right:=by
 unfold Ih at h
 split at h
 ·cases h
 split at h
 ·cases h
 have h2:=R5 h
 intro x hx
 obtain ⟨i,i0,i1,rfl⟩:=DX hx
 have:=h2 i i0 i1
 unfold Mw at this
 split at this
 ·cases this
 split at this
 ·rename_i h3 h4
  rw [zzZ] at h4
  exact ⟨by omega,VK h4.1,VK h4.2⟩
 ·cases this
theorem Xb (n:Int) (l:List Test):Ih n l≠9:=by
 unfold Ih
 split
 ·decide
 split
 ·decide
 intro h
 cases hr:fst (fun i=>nz (Mw n (AB l i))) 0 l.length with
 | none=>rw [hr] at h; cases h
 | some r=>
  rw [hr] at h
  obtain ⟨i,_,_,k,_⟩:=FE hr
  simp only [Option.getD_some] at h
  subst h
  unfold nz Mw at k
  split at k
  ·cases k
  ·rename_i hne
   split at k
   ·cases k
   ·split at k <;> cases k
theorem XE {t:Types} {q:Pattern} (hv:(A6 t).2=0) (h:GK t q=0∨GK t q=9):P7 t q:=by
 have hg9:=R7 q.Graph
 unfold GK at h
 rw [if_neg (by simp [hv])] at h
 split at h
 ·omega
 rename_i h1
 have g:=E4 (Classical.not_not.1 h1)
 split at h
 ·omega
 rename_i h2
 split at h
 ·omega
 rename_i h3
 split at h
 ·omega
 rename_i h4
 split at h
 ·omega
 rename_i h5
 split at h
 ·rename_i h6
  have:=Xb q.Vars q.Tests
  omega
 rename_i h6
 refine ⟨g,(Mb g (by simpa using h2)).1,by omega,by omega,fun s hs=>?_,ax (Classical.not_not.1 h6),Classical.not_not.1 h1,by simpa using h2⟩
 have hb:O5 t q s=false:=by
  rw [Bool.not_eq_true,List.any_eq_false] at h5
  simpa using h5 s hs
 unfold O5 at hb
 simp only [Bool.or_eq_false_iff,Bool.not_eq_false',decide_eq_false_iff_not] at hb
 obtain ⟨⟨⟨b1,b2⟩,b3⟩,b4,b5⟩:=hb
 unfold N1 at b1
 dsimp only at b1
 split at b1
 ·cases b1
 rename_i c1
 have hk:=(Mb g (by simpa using h2)).1 _ (AN (l:=q.Graph.Nodes) (show 0<=s.Node by omega) (by omega))
 rw [N2 hv hk.1 hk.2] at b1
 split at b1
 ·cases b1
 rename_i c2
 have c2:¬ (s.Attr<0∨((AZ t (AB q.Graph.Nodes s.Node)).length:Int)<=s.Attr):=c2
 exact ⟨by omega,by omega,by omega,by omega,by omega,by omega⟩
def Ls (h:AY) (m:Morphism) (s:CS):Int:=AB (AB h.Values (AB m.Nodes s.Node)) s.Attr
def Mv (h:AY) (m:Morphism) (s:CS) (st:List Int × List Bool):List Int × List Bool:=
 if 0<=s.Term.Var∧AB st.2 s.Term.Var=false then (B8 st.1 s.Term.Var (AI (Ls h m s - s.Term.Add)),B8 st.2 s.Term.Var true) else st
def GD {ρ:Type} (r:ρ) (h:AY) (m:Morphism) (s:CS) (st:List Int × List Bool):B9 (List Int × List Bool) ρ:=
 if EO s.Term (Mv h m s st).1=Ls h m s then .next (Mv h m s st) else .ret r
structure VI (n:Int) (st:List Int × List Bool):Prop where
 l1:(st.1.length:Int)=n
 l2:(st.2.length:Int)=n
 small:Nh st.1
structure Jf (n:Int) (h:AY) (m:Morphism) (s:CS):Prop where
 node:0<=s.Node∧s.Node<m.Nodes.length
 val:0<=AB m.Nodes s.Node∧AB m.Nodes s.Node<h.Values.length
 attr:0<=s.Attr∧s.Attr<(AB h.Values (AB m.Nodes s.Node)).length
 term:IL n s.Term
 has:-1000000<=Ls h m s∧Ls h m s<=1000000
theorem Ov {t:Types} (ht:GT t) {q:Pattern} {h:AY} {m:Morphism} (hq:P7 t q) (hh:LY t h) (hm:T5 t q.Graph h.Graph m) {s:CS} (hs:s∈q.Slots):Jf q.Vars h m s:=by
 obtain ⟨h1,h2,h3⟩:=hq.slot s hs
 have hl:=hm.nlen
 have hn:=hm.node s.Node h1.1 (by omega)
 have hr:=hh.row _ hn.1.1 hn.1.2
 have hk:=hh.kind _ hn.1.1 hn.1.2
 have hb:=YH ht hk.2 hn.2
 have hv:=hh.len
 refine ⟨by omega,by omega,by omega,h3,?_⟩
 unfold Ls
 exact hh.low _ hn.1.1 hn.1.2 _ (AN h2.1 (by omega))
theorem Nu {α:Type} (l:List α) (i:Int) (a:α):(B8 l i a).length=l.length:=by unfold B8; rw [List.length_set]
theorem VC {α:Type} {l:List α} {i:Int} {a x:α} (h:x∈B8 l i a):x∈l∨x=a:=List.mem_or_eq_of_mem_set h
theorem Ys {n:Int} {h:AY} {m:Morphism} {s:CS} (hs:Jf n h m s) {st:List Int × List Bool} (hi:VI n st):VI n (Mv h m s st):=by
 have h1:=hs.has
 have h2:=hs.term.add
 unfold Mv
 split
 ·refine ⟨by rw [Nu]; exact hi.l1,by rw [Nu]; exact hi.l2,fun x hx=>?_⟩
  rcases VC hx with hx | rfl
  ·exact hi.small x hx
  ·rw [AW (by omega) (by omega)]; omega
 ·exact hi
def If (q:Pattern) (h:AY) (m:Morphism):List Int × Int:=
 match GY (GD (([],11):List Int × Int) h m) q.Slots (List.replicate q.Vars.toNat 0,List.replicate q.Vars.toNat false) with
 | .inr r=>r
 | .inl st=>if anyR (fun i=>!JS (AB q.Tests i) st.1) 0 q.Tests.length=true then ([],16) else (st.1,0)
theorem Oz {n:Int} (h0:0<=n):VI n (List.replicate n.toNat 0,List.replicate n.toNat false):=by
 refine ⟨by simp; omega,by simp; omega,fun x hx=>?_⟩
 rw [List.mem_replicate] at hx
 omega
theorem OP {ρ:Type} {r:ρ} {n:Int} {h:AY} {m:Morphism} {s:CS} (hs:Jf n h m s) {st st':List Int × List Bool} (hi:VI n st) (e:GD r h m s st=.next st'):VI n st':=by
 unfold GD at e
 split at e
 ·cases e; exact Ys hs hi
 ·cases e
theorem Yt {ρ:Type} {r:ρ} {h:AY} {m:Morphism} {s:CS} {st st':List Int × List Bool}:GD r h m s st≠.brk st':=by
 unfold GD
 split <;> simp
theorem Nt {ρ:Type} {r:ρ} {n:Int} {h:AY} {m:Morphism} {l:List CS} (hs:∀ s∈l,Jf n h m s) {st st':List Int × List Bool} (hi:VI n st) (e:GY (GD r h m) l st=.inl st'):VI n st':=
 VA (GD r h m) (VI n) l st st' hi (fun a ha _ _ h1 h2=>OP (hs a ha) h1 h2) (fun _ _ _ _=>Yt) e
theorem P2 {ρ:Type} {r:ρ} {n:Int} {h:AY} {m:Morphism} {s:CS} (hs:Jf n h m s) {st:List Int × List Bool} (hi:VI n st) {T:List Int × List Bool->Option (B9 (List Int × List Bool) ρ)}
  (h1:∀ st':List Int × List Bool,(st'.1.length:Int)=n->T st'=some (if EO s.Term st'.1=Ls h m s then .next st' else .ret r)) :
  ((if (decide (0<=s.Term.Var))=true then ((AG st.2 s.Term.Var).bind fun x51=>some (!x51)) else some false).bind fun x54=>
   if x54=true then (AG st.1 s.Term.Var).bind fun _=>(AG st.2 s.Term.Var).bind fun _=>T (B8 st.1 s.Term.Var (AI (Ls h m s - s.Term.Add)),B8 st.2 s.Term.Var true) else T (st.1,st.2))=some (GD r h m s st):=by
 have hl:=hs.term.high
 have l1:=hi.l1
 have l2:=hi.l2
 unfold GD
 by_cases h0:0<=s.Term.Var
 ·rw [if_pos (by simpa using h0),AF h0 (by omega),bs,bs]
  by_cases hk:AB st.2 s.Term.Var=false
  ·rw [if_pos (by simp [hk]),AF h0 (by omega),bs,bs,h1 _ (by dsimp only; rw [Nu]; exact l1)]
   have e:Mv h m s st=(B8 st.1 s.Term.Var (AI (Ls h m s - s.Term.Add)),B8 st.2 s.Term.Var true):=by unfold Mv; rw [if_pos ⟨h0,hk⟩]
   rw [e]
  ·rw [if_neg (by simpa using hk),h1 _ l1]
   have e:Mv h m s st=st:=by unfold Mv; rw [if_neg (fun e=>hk e.2)]
   rw [e]
 ·rw [if_neg (by simpa using h0),bs,if_neg (by decide),h1 _ l1]
  have e:Mv h m s st=st:=by unfold Mv; rw [if_neg (fun e=>h0 e.1)]
  rw [e]
theorem Vn {ρ:Type} {r:ρ} {n:Int} {h:AY} {m:Morphism} {s:CS} (hs:Jf n h m s) {st:List Int × List Bool} (hi:VI n st) {T:List Int × List Bool->Option (B9 (List Int × List Bool) ρ)}
  (h1:∀ st':List Int × List Bool,(st'.1.length:Int)=n->T st'=some (if EO s.Term st'.1=Ls h m s then .next st' else .ret r)) :
  ((if (decide (0<=s.Term.Var))=true then ((AG st.2 s.Term.Var).bind fun x51=>some (!x51)) else some false).bind fun x54=>
   if x54=true then (AG st.2 s.Term.Var).bind fun _=>(AG st.1 s.Term.Var).bind fun _=>T (B8 st.1 s.Term.Var (AI (Ls h m s - s.Term.Add)),B8 st.2 s.Term.Var true) else T (st.1,st.2))=some (GD r h m s st):=by
 rw [←P2 hs hi h1]
 have hl:=hs.term.high
 have l1:=hi.l1
 have l2:=hi.l2
 by_cases h0:0<=s.Term.Var
 ·rw [AF h0 (by omega),AF h0 (by omega)]; rfl
 ·rw [if_neg (by simpa using h0)]; rfl
theorem Tb {t:Term} {n v:Int} {f:Term->List Int->Option Int} (hf:∀ l:List Int,(l.length:Int)=n->f t l=some (EO t l)) (st':List Int × List Bool) (hl:(st'.1.length:Int)=n):((f t st'.1).bind fun x69=>if (!decide (x69=v))=true then some (B9.ret (([],11):List Int × Int)) else some (.next st'))=some (if EO t st'.1=v then .next st' else .ret ([],11)):=by
 rw [hf _ hl,bs]
 by_cases e:EO t st'.1=v
 ·rw [if_neg (by simp [e]),if_pos e]
 ·rw [if_pos (by simp [e]),if_neg e]
theorem cx {q:Pattern} {h:AY} {m:Morphism} {t:Types} (hq:P7 t q) (hs:∀ s∈q.Slots,Jf q.Vars h m s):IM q h m=some (If q h m):=by
 have hv:=hq.vars
 unfold IM If J8
 rw [if_pos (by omega),bs,if_pos (by omega),bs]
 rw [Qc (GD (([],11):List Int × Int) h m) (VI q.Vars) (Oz hv.1)]
 ·cases hr:GY (GD (([],11):List Int × Int) h m) q.Slots (List.replicate q.Vars.toNat 0,List.replicate q.Vars.toNat false) with
  | inr r=>rfl
  | inl st=>
   have hi:=Nt hs (Oz hv.1) hr
   rw [C4,CB (fun i=>!JS (AB q.Tests i) st.1) ([],16)]
   ·dsimp only
    cases anyR (fun i=>!JS (AB q.Tests i) st.1) 0 q.Tests.length <;> rfl
   ·intro i i0 i1 _
    have hx:=hq.test _ (AN i0 i1)
    rw [AF i0 i1,bs,p_holds hx.2.1 hx.2.2 hi.small (by have:=hi.l1; omega),bs]
    cases JS (AB q.Tests i) st.1 <;> rfl
 ·intro i st i0 i1 hi
  have ha:=hs _ (AN i0 i1)
  refine ⟨?_,fun s' e=>OP ha hi e⟩
  rw [AF i0 i1,bs,AF ha.node.1 ha.node.2,bs,AF ha.val.1 ha.val.2,bs,AF ha.attr.1 ha.attr.2,bs]
  exact P2 ha hi (T:=fun st'=>(EW (AB q.Slots i).Term st'.1).bind fun x69=>if (!decide (x69=Ls h m (AB q.Slots i)))=true then some (B9.ret (([],11):List Int × Int)) else some (.next st')) (Tb fun l hl=>Qk (by have:=ha.term.high; omega))
theorem dI {q:Pattern} {h:AY} {m:Morphism} {t:Types} (hq:P7 t q) (hs:∀ s∈q.Slots,Jf q.Vars h m s):JA q h m=some (If q h m):=by
 have hv:=hq.vars
 unfold JA If J8
 rw [if_pos (by omega),bs,if_pos (by omega),bs]
 rw [Qc (GD (([],11):List Int × Int) h m) (VI q.Vars) (Oz hv.1)]
 ·cases hr:GY (GD (([],11):List Int × Int) h m) q.Slots (List.replicate q.Vars.toNat 0,List.replicate q.Vars.toNat false) with
  | inr r=>rfl
  | inl st=>
   have hi:=Nt hs (Oz hv.1) hr
   rw [C4,CB (fun i=>!JS (AB q.Tests i) st.1) ([],16)]
   ·dsimp only
    cases anyR (fun i=>!JS (AB q.Tests i) st.1) 0 q.Tests.length <;> rfl
   ·intro i i0 i1 _
    have hx:=hq.test _ (AN i0 i1)
    rw [AF i0 i1,bs,r_holds hx.2.1 hx.2.2 (by have:=hi.l1; omega),bs]
    cases JS (AB q.Tests i) st.1 <;> rfl
 ·intro i st i0 i1 hi
  have ha:=hs _ (AN i0 i1)
  refine ⟨?_,fun s' e=>OP ha hi e⟩
  rw [AF i0 i1,bs,AF ha.node.1 ha.node.2,bs,AF ha.val.1 ha.val.2,bs,AF ha.attr.1 ha.attr.2,bs]
  exact Vn ha hi (T:=fun st'=>(Jy (AB q.Slots i).Term st'.1).bind fun x69=>if (!decide (x69=Ls h m (AB q.Slots i)))=true then some (B9.ret (([],11):List Int × Int)) else some (.next st')) (Tb fun l hl=>Yj (by have:=ha.term.high; omega))
def J9 (t:Types) (p:Pattern) (h:AY):Int:=if GK t p≠0 then GK t p else (Mg t h).2
theorem YQ {t:Types} (hf:BS t) (p:Pattern) (h:AY):EU t p h=some (J9 t p h):=by
 unfold EU J9
 rw [Tv hf,bs]
 refine IP fun _=>?_
 rw [YR hf]; rfl
theorem Ye {t:Types} (hf:BS t) (p:Pattern) (h:AY):K6 t p h=some (J9 t p h):=by
 unfold K6 J9
 rw [SO hf,bs]
 refine IP fun _=>?_
 rw [fo hf]; rfl
def NW (t:Types) (p:Pattern) (h:AY) (m:Morphism):List Int × Int:=
 if J9 t p h≠0 then ([],J9 t p h) else if Kn t p.Graph h.Graph m false≠0 then ([],Kn t p.Graph h.Graph m false) else If p h m
theorem RL {t:Types} (hf:BS t) {p:Pattern} {h:AY} {m:Morphism} {inj:Bool} (h1:J9 t p h=0) (h2:Kn t p.Graph h.Graph m inj=0):(A6 t).2=0∧P7 t p∧LY t h∧T5 t p.Graph h.Graph m:=by
 unfold J9 at h1
 split at h1
 ·rename_i h3; exact absurd h1 h3
 rename_i h3
 obtain ⟨hv,hh⟩:=V6 hf h1
 exact ⟨hv,XE hv (.inl (Classical.not_not.1 h3)),hh,(X3 h2).2⟩
theorem cp {t:Types} (hf:BS t) (p:Pattern) (h:AY) (m:Morphism):ET t p h m=some (NW t p h m):=by
 unfold ET NW
 rw [YQ hf,bs]
 refine Lh fun h1=>?_
 rw [WJ hf,bs]
 refine Lh fun h2=>?_
 obtain ⟨hv,hq,hh,hm⟩:=RL hf h1 h2
 rw [cx hq (fun s hs=>Ov (GG hv) hq hh hm hs)]; rfl
theorem Yu {t:Types} {q:Pattern} {h:AY} {m:Morphism} (hq:P7 t q) (hs:∀ s∈q.Slots,Jf q.Vars h m s) (e:(If q h m).2=0):((If q h m).1.length:Int)=q.Vars∧Nh (If q h m).1:=by
 unfold If at e ⊢
 cases hr:GY (GD (([],11):List Int × Int) h m) q.Slots (List.replicate q.Vars.toNat 0,List.replicate q.Vars.toNat false) with
 | inr r=>
  rw [hr] at e
  have:∀ (l:List CS) (st:List Int × List Bool) (r:List Int × Int),GY (GD (([],11):List Int × Int) h m) l st=.inr r->r=([],11):=by
   intro l
   induction l with
   | nil=>intro st r h; cases h
   | cons a l ih=>
    intro st r h
    rw [GY] at h
    split at h
    ·exact ih _ _ h
    ·cases h
    ·rename_i r' h'
     cases h
     unfold GD at h'
     split at h'
     ·cases h'
     ·cases h'; rfl
  rw [this _ _ _ hr] at e
  cases e
 | inl st=>
  rw [hr] at e
  have hi:=Nt hs (Oz hq.vars.1) hr
  dsimp only at e ⊢
  split at e
  ·cases e
  ·rename_i h1
   rw [if_neg h1]
   exact ⟨hi.l1,hi.small⟩
end Go.Sf.Sc
namespace Go.Sf.Sc
open Go Go.Sf
theorem Yr {n:Nat} {α:Type} [Inhabited α] (F:Int->α) {i:Int} (h0:0<=i) (v:α):B8 ((BP n).map F) i v=(BP n).map fun j=>if j=i then v else F j:=by
 unfold B8
 refine List.ext_getElem (by simp) (fun k k1 k2=>?_)
 have hk:k<n:=by simpa [DD] using k2
 rw [List.getElem_set]
 have e:(BP n)[k]'(by rw [DD]; exact hk)=(k:Int):=by simp [BP]
 simp only [List.getElem_map,e]
 by_cases h:i.toNat=k
 ·rw [if_pos h,if_pos (by omega)]
 ·rw [if_neg h,if_neg (by omega)]
theorem Xc {n:Nat} {α:Type} {F G:Int->α} (h:∀ j,0<=j->j<(n:Int)->F j=G j):(BP n).map F=(BP n).map G:=List.map_congr_left fun j hj=>h j (HU.1 hj).1 (HU.1 hj).2
def Jl (n:Nat) (k:Int):List Bool:=(BP n).map fun j=>decide (j<k)
theorem Wy (n:Nat):Jl n 0=List.replicate n false:=by
 unfold Jl
 refine List.ext_getElem (by simp [DD]) (fun k k1 k2=>?_)
 have hk:k<n:=by simpa using k2
 have e:(BP n)[k]'(by rw [DD]; exact hk)=(k:Int):=by simp [BP]
 simp only [List.getElem_map,e,List.getElem_replicate,decide_eq_false_iff_not]
 omega
theorem TM (n:Nat) (k:Int):(Jl n k).length=n:=by unfold Jl; rw [List.length_map,DD]
def MI (q:Pattern) (h:AY) (m:Morphism) (given:List Int):List Int × Bool:=
 match GY (GD (([],false):List Int × Bool) h m) q.Slots (given++List.replicate (q.Vars - given.length).toNat 0,Jl q.Vars.toNat given.length) with
 | .inr r=>r
 | .inl st=>if anyR (fun i=>!JS (AB q.Tests i) st.1) 0 q.Tests.length=true then ([],false) else (st.1,true)
theorem VO {n:Int} {given:List Int} (h0:0<=n) (hg:given.length<=n) (hv:Nh given):VI n (given++List.replicate (n - given.length).toNat 0,Jl n.toNat given.length):=by
 refine ⟨by simp; omega,by show ((Jl n.toNat given.length).length:Int)=n; rw [TM]; omega,fun x hx=>?_⟩
 rcases List.mem_append.1 hx with hx | hx
 ·exact hv x hx
 ·rw [List.mem_replicate] at hx
  omega
theorem ff {s:AR} {q:Pattern} {m:Morphism} {t:Types} {given:List Int} (hq:P7 t q) (hs:∀ x∈q.Slots,Jf q.Vars s.h m x) (hg:given.length<=q.Vars) (hv:Nh given):EC s q m given=some (MI q s.h m given):=by
 have hn:=hq.vars
 unfold EC MI slices_Clone_int
 rw [F1 (by unfold BC; omega),bs,AW (by omega) (by omega)]
 have ea:RO given (q.Vars - given.length) 0=some (given++List.replicate (q.Vars - given.length).toNat 0):=by
  unfold RO
  rw [if_pos ⟨by omega,by unfold BC; omega⟩]
 have em:J8 q.Vars false=some (List.replicate q.Vars.toNat false):=by
  unfold J8
  rw [if_pos (by omega)]
 rw [ea,bs,em,bs]
 have ek:forA (fun (i0:Int) (s0:List Bool)=>(AG s0 i0).bind fun x39=>some (B8 s0 i0 true)) 0 (given.length:Int) (List.replicate q.Vars.toNat false)=some (Jl q.Vars.toNat given.length):=by
  refine GX (fun i=>Jl q.Vars.toNat i) (by omega) (Wy _) (fun i i0 i1=>?_)
  rw [AF i0 (by rw [TM]; omega),bs]
  congr 1
  unfold Jl
  rw [Yr _ i0]
  refine Xc (fun j j0 j1=>?_)
  by_cases e:j=i
  ·rw [if_pos e,e]; simp; omega
  ·rw [if_neg e,decide_eq_decide]; omega
 rw [ek,bs]
 have hi0:=VO hn.1 hg hv
 rw [Qc (GD (([],false):List Int × Bool) s.h m) (VI q.Vars) hi0]
 ·cases hr:GY (GD (([],false):List Int × Bool) s.h m) q.Slots (given++List.replicate (q.Vars - given.length).toNat 0,Jl q.Vars.toNat given.length) with
  | inr r=>rfl
  | inl st=>
   have hi:=Nt hs hi0 hr
   rw [C4,CB (fun i=>!JS (AB q.Tests i) st.1) ([],false)]
   ·dsimp only
    cases anyR (fun i=>!JS (AB q.Tests i) st.1) 0 q.Tests.length <;> rfl
   ·intro i i0 i1 _
    have hx:=hq.test _ (AN i0 i1)
    rw [AF i0 i1,bs,p_holds hx.2.1 hx.2.2 hi.small (by have:=hi.l1; omega),bs]
    cases JS (AB q.Tests i) st.1 <;> rfl
 ·intro i st i0 i1 hi
  have ha:=hs _ (AN i0 i1)
  refine ⟨?_,fun s' e=>OP ha hi e⟩
  rw [AF i0 i1,bs,AF ha.node.1 ha.node.2,bs,AF ha.val.1 ha.val.2,bs,AF ha.attr.1 ha.attr.2,bs]
  refine P2 ha hi (T:=fun st'=>(GU (AB q.Slots i).Term st'.1).bind fun x90=>if ((!decide (x90.2=0))||(!decide (x90.1=Ls s.h m (AB q.Slots i))))=true then some (B9.ret (([],false):List Int × Bool)) else some (.next st')) (fun st' hl=>?_)
  rw [Zs ha.term.low (by have:=ha.term.high; omega) (by omega),bs]
  by_cases e:EO (AB q.Slots i).Term st'.1=Ls s.h m (AB q.Slots i)
  ·rw [if_neg (by simp [e]),if_pos e]
  ·rw [if_pos (by simp [e]),if_neg e]
theorem a8 {t:Types} {q:Pattern} {h:AY} {m:Morphism} {given:List Int} (hq:P7 t q) (hs:∀ s∈q.Slots,Jf q.Vars h m s) (hg:given.length<=q.Vars) (hv:Nh given) (e:(MI q h m given).2=true):((MI q h m given).1.length:Int)=q.Vars∧Nh (MI q h m given).1:=by
 unfold MI at e ⊢
 have hi0:=VO hq.vars.1 hg hv
 cases hr:GY (GD (([],false):List Int × Bool) h m) q.Slots (given++List.replicate (q.Vars - given.length).toNat 0,Jl q.Vars.toNat given.length) with
 | inr r=>
  rw [hr] at e
  have:∀ (l:List CS) (st:List Int × List Bool) (r:List Int × Bool),GY (GD (([],false):List Int × Bool) h m) l st=.inr r->r=([],false):=by
   intro l
   induction l with
   | nil=>intro st r h; cases h
   | cons a l ih=>
    intro st r h
    rw [GY] at h
    split at h
    ·exact ih _ _ h
    ·cases h
    ·rename_i r' h'
     cases h
     unfold GD at h'
     split at h'
     ·cases h'
     ·cases h'; rfl
  rw [this _ _ _ hr] at e
  cases e
 | inl st=>
  rw [hr] at e
  have hi:=Nt hs hi0 hr
  dsimp only at e ⊢
  split at e
  ·cases e
  ·rename_i h1
   rw [if_neg h1]
   exact ⟨hi.l1,hi.small⟩
def GP (n:Nat) (by' images:List Int):List Int:=(BP by'.length).foldl (fun l i=>B8 l (AB by' i) (AB images i)) (List.replicate n (-1))
theorem My (by' images:List Int):∀ (ks:List Int) (l:List Int),(ks.foldl (fun l i=>B8 l (AB by' i) (AB images i)) l).length=l.length
 | [],l=>rfl
 | k::ks,l=>by rw [List.foldl_cons,My by' images ks,Nu]
theorem SL (n:Nat) (by' images:List Int):(GP n by' images).length=n:=by unfold GP; rw [My]; simp
theorem TA (by' images:List Int) {x:Int}:∀ (ks:List Int) (l:List Int),x∈ks.foldl (fun l i=>B8 l (AB by' i) (AB images i)) l->x∈l∨∃ k∈ks,x=AB images k
 | [],l,h=>.inl h
 | k::ks,l,h=>by
  rw [List.foldl_cons] at h
  rcases TA by' images ks _ h with h | ⟨j,hj,e⟩
  ·rcases VC h with h | h
   ·exact .inl h
   ·exact .inr ⟨k,by simp,h⟩
  ·exact .inr ⟨j,by simp [hj],e⟩
theorem SM {n:Nat} {by' images:List Int} {x:Int} (h:x∈GP n by' images):x=-1∨∃ k:Int,(0<=k∧k<by'.length)∧x=AB images k:=by
 rcases TA by' images _ _ h with h | ⟨k,hk,e⟩
 ·rw [List.mem_replicate] at h; exact .inl h.2
 ·exact .inr ⟨k,HU.1 hk,e⟩
theorem XD {n:Nat} {by' images:List Int} (hb:∀ x∈by',0<=x∧x<n) (hl:by'.length<=images.length):forA (fun (i0:Int) (s0:List Int)=>
  (AG by' i0).bind fun x18=>
  (AG images i0).bind fun x24=>
  (AG s0 x18).bind fun x26=>
  some (B8 s0 x18 x24)) 0 (by'.length:Int) (List.replicate n (-1))=some (GP n by' images):=by
 have h:=GX (f:=fun (i0:Int) (s0:List Int)=>
  (AG by' i0).bind fun x18=>
  (AG images i0).bind fun x24=>
  (AG s0 x18).bind fun x26=>
  some (B8 s0 x18 x24)) (fun i=>(BP i.toNat).foldl (fun l i=>B8 l (AB by' i) (AB images i)) (List.replicate n (-1))) (a:=0) (b:=by'.length) (s:=List.replicate n (-1)) (by omega) rfl (fun i i0 i1=>by
   have hx:=hb _ (AN i0 i1)
   rw [AF i0 i1,bs,AF i0 (by omega),bs,AF hx.1 (by rw [My]; simpa using hx.2),bs,Im i0,List.foldl_append]; rfl)
 rw [h,Int.toNat_natCast]; rfl
theorem Ut {n:Nat} {by' images:List Int} (hn:n<=1000) (hb:∀ x∈by',0<=x∧x<n) (hl:by'.length<=images.length):GV n by' images=some (GP n by' images):=by
 unfold GV Hp
 rw [if_pos ⟨rfl,by omega,by omega⟩,bs]
 show (forA _ 0 _ (List.replicate (n:Int).toNat (-1))).bind _=_
 rw [Int.toNat_natCast,XD hb hl]; rfl
end Go.Sf.Sc
namespace Go.Sf.Sc
open Go Go.Sf
structure bG (f:AH):Prop where
 nl:f.nodes.length<=f.p.Nodes.length
 node:∀ i:Int,0<=i->i<f.nodes.length->(0<=AB f.nodes i∧AB f.nodes i<f.g.Nodes.length)∧AB (AB f.is (AB f.p.Nodes i)) (AB f.g.Nodes (AB f.nodes i))=true
 edge:∀ i:Int,0<=i->i<f.edges.length->(0<=AB f.edges i∧AB f.edges i<f.g.Edges.length)∧AB f.g.Edges (AB f.edges i)=⟨(AB f.p.Edges i).Type',AB f.nodes (AB f.p.Edges i).From,AB f.nodes (AB f.p.Edges i).To⟩
 inj:f.injective=true->f.nodes.Nodup∧f.edges.Nodup
structure Wl (f:AH) (m:Morphism):Prop where
 nl:m.Nodes.length=f.p.Nodes.length
 el:m.Edges.length=f.p.Edges.length
 node:∀ i:Int,0<=i->i<m.Nodes.length->(0<=AB m.Nodes i∧AB m.Nodes i<f.g.Nodes.length)∧AB (AB f.is (AB f.p.Nodes i)) (AB f.g.Nodes (AB m.Nodes i))=true
 edge:∀ i:Int,0<=i->i<m.Edges.length->(0<=AB m.Edges i∧AB m.Edges i<f.g.Edges.length)∧AB f.g.Edges (AB m.Edges i)=⟨(AB f.p.Edges i).Type',AB m.Nodes (AB f.p.Edges i).From,AB m.Nodes (AB f.p.Edges i).To⟩
 inj:f.injective=true->m.Nodes.Nodup∧m.Edges.Nodup
theorem Sa {α:Type} [Inhabited α] (l:List α) (x:α) {i:Int} (h:i=l.length):AB (l++[x]) i=x:=by
 subst h
 rw [Sz,if_neg (by omega)]
 simp
theorem SF {l:List Int} {k:Int} {b:Bool} (h:(!(b&&l.any fun x=>decide (k=x)))=true) (hb:b=true) (hl:l.Nodup):(l++[k]).Nodup:=by
 subst hb
 simp only [Bool.true_and,Bool.not_eq_true',List.any_eq_false,zzX] at h
 rw [List.nodup_append]
 refine ⟨hl,by simp,fun a ha b hb e=>?_⟩
 rw [List.mem_singleton] at hb
 exact h a ha (by rw [e,hb])
theorem Sw:∀ (n:Nat) (f:AH),bG f->f.nodes.length=f.p.Nodes.length->f.edges.length+n=f.p.Edges.length->∀ m∈D6 n f,Wl f m
 | 0,f,hp,hn,he,m,hm=>by
  rw [D6,List.mem_singleton] at hm
  subst hm
  exact ⟨hn,by simpa using he,hp.node,hp.edge,hp.inj⟩
 | n+1,f,hp,hn,he,m,hm=>by
  rw [D6,List.mem_flatMap] at hm
  obtain ⟨k,hk,hm⟩:=hm
  have hk:=HU.1 hk
  split at hm
  ·rename_i hok
   unfold OG at hok
   rw [zzZ] at hok
   obtain ⟨ho1,ho2⟩:=hok
   rw [P1,zzZ,zzX] at ho1
   have:=Sw n { f with edges:=f.edges++[k] } ⟨hp.nl,hp.node,fun i i0 i1=>by
    have i1:i<((f.edges++[k]).length:Int):=i1
    simp only [List.length_append,List.length_singleton] at i1
    show (0<=AB (f.edges++[k]) i∧AB (f.edges++[k]) i<f.g.Edges.length)∧AB f.g.Edges (AB (f.edges++[k]) i)=⟨(AB f.p.Edges i).Type',AB f.nodes (AB f.p.Edges i).From,AB f.nodes (AB f.p.Edges i).To⟩
    by_cases e:i=f.edges.length
    ·rw [Sa _ _ e]; exact ⟨hk,by rw [e]; exact ho1.2⟩
    ·rw [QK _ _ i0 (by omega)]; exact hp.edge i i0 (by omega),fun hi=>⟨(hp.inj hi).1,SF ho2 hi (hp.inj hi).2⟩⟩ hn (by show (f.edges++[k]).length+n=f.p.Edges.length; rw [List.length_append,List.length_singleton]; omega) m hm
   exact ⟨this.nl,this.el,this.node,this.edge,this.inj⟩
  ·cases hm
theorem Sx:∀ (n:Nat) (f:AH),bG f->f.edges=[]->f.nodes.length+n=f.p.Nodes.length->∀ m∈FZ n f,Wl f m
 | 0,f,hp,he,hn,m,hm=>by
  rw [FZ] at hm
  exact Sw _ f hp (by omega) (by rw [he]; simp) m hm
 | n+1,f,hp,he,hn,m,hm=>by
  rw [FZ,List.mem_flatMap] at hm
  obtain ⟨k,hk,hm⟩:=hm
  have hk:=HU.1 hk
  split at hm
  ·rename_i hok
   unfold OH at hok
   rw [zzZ,zzZ] at hok
   obtain ⟨⟨_,ho1⟩,ho2⟩:=hok
   have:=Sx n { f with nodes:=f.nodes++[k] } ⟨by show (f.nodes++[k]).length<=f.p.Nodes.length; rw [List.length_append,List.length_singleton]; omega,fun i i0 i1=>by
    have i1:i<((f.nodes++[k]).length:Int):=i1
    simp only [List.length_append,List.length_singleton] at i1
    show (0<=AB (f.nodes++[k]) i∧AB (f.nodes++[k]) i<f.g.Nodes.length)∧AB (AB f.is (AB f.p.Nodes i)) (AB f.g.Nodes (AB (f.nodes++[k]) i))=true
    by_cases e:i=f.nodes.length
    ·rw [Sa _ _ e]
     exact ⟨hk,by rw [e]; exact ho1⟩
    ·rw [QK _ _ i0 (by omega)]; exact hp.node i i0 (by omega),fun i i0 i1=>by
    have i1:i<(f.edges.length:Int):=i1
    rw [he] at i1
    have:i<(0:Nat):=i1
    omega,fun hi=>⟨SF ho2 hi (hp.inj hi).1,(hp.inj hi).2⟩⟩ he (by show (f.nodes++[k]).length+n=f.p.Nodes.length; rw [List.length_append,List.length_singleton]; omega) m hm
   exact ⟨this.nl,this.el,this.node,this.edge,this.inj⟩
  ·cases hm
theorem R3 {t:Types} {p g:Graph} {pa:Morphism} {inj:Bool} {m:Morphism} (hm:m∈KG t p g pa inj):Wl (FS ⟨t,p,g,pa,inj,5000,[]⟩ [] []) m:=
 Sx _ (FS ⟨t,p,g,pa,inj,5000,[]⟩ [] []) ⟨Nat.zero_le _,fun i i0 i1=>by have i1:i<(0:Nat):=i1; omega,fun i i0 i1=>by have i1:i<(0:Nat):=i1; omega,fun _=>⟨List.nodup_nil,List.nodup_nil⟩⟩ rfl (by show 0+p.Nodes.length=p.Nodes.length; omega) m (List.mem_of_mem_take hm)
theorem US {t:Types} {p g:Graph} {pa:Morphism} {inj:Bool} (h:GO t p g=0) {m:Morphism} (hm:m∈KG t p g pa inj):T5 t p g m:=by
 obtain ⟨hv,gp,gg,tp,tg⟩:=Pg h
 have:=R3 hm
 refine ⟨this.nl,this.el,fun i i0 i1=>?_,fun i i0 i1=>(this.edge i i0 i1).1⟩
 obtain ⟨h1,h2⟩:=this.node i i0 i1
 refine ⟨h1,?_⟩
 have hl:=this.nl
 have kp:=tp _ (AN (l:=p.Nodes) i0 (by show i<(p.Nodes.length:Int); have hl:m.Nodes.length=p.Nodes.length:=hl; omega))
 have kg:=tg _ (AN (l:=g.Nodes) h1.1 h1.2)
 have h2:AB (AB (JZ t) (AB p.Nodes i)) (AB g.Nodes (AB m.Nodes i))=true:=h2
 have e:AB (JZ t) (AB p.Nodes i)=J6 t (AB p.Nodes i):=by unfold JZ; exact LX (J6 t) kp.1 kp.2
 rw [e] at h2
 have e2:AB (J6 t (AB p.Nodes i)) (AB g.Nodes (AB m.Nodes i))=IX t (AB g.Nodes (AB m.Nodes i)) (AB p.Nodes i):=by unfold J6; exact LX (fun k=>IX t k (AB p.Nodes i)) kg.1 kg.2
 rwa [e2] at h2
theorem YE {t:Types} {p g:Graph} {pa:Morphism} {inj:Bool} (h:GO t p g=0) {m:Morphism} (hm:m∈KG t p g pa inj):Kn t p g m inj=0:=by
 have ok:=US h hm
 have fu:=R3 hm
 have hs:OO t p g m=0:=by
  unfold OO
  rw [if_neg (by have:=ok.nlen; have:=ok.elen; omega)]
  have h1:fst (Lg t p g m) 0 m.Nodes.length=none:=by
   rw [CY]
   intro i i0 i1
   obtain ⟨k1,k2⟩:=ok.node i i0 i1
   unfold Lg
   rw [if_neg (by omega),if_neg (by rw [k2]; decide)]
  have h2:fst (IY p g m) 0 m.Edges.length=none:=by
   rw [CY]
   intro i i0 i1
   obtain ⟨k1,k2⟩:=fu.edge i i0 i1
   have k1:0<=AB m.Edges i∧AB m.Edges i<g.Edges.length:=k1
   have k2:AB g.Edges (AB m.Edges i)=⟨(AB p.Edges i).Type',AB m.Nodes (AB p.Edges i).From,AB m.Nodes (AB p.Edges i).To⟩:=k2
   unfold IY
   rw [if_neg (by omega),k2,if_neg (by simp),if_neg (by simp)]
  rw [h1,h2]; rfl
 unfold Kn
 rw [if_neg (by simp [h]),if_neg (by simp [hs])]
 cases inj
 ·rfl
 ·have:=fu.inj rfl
  unfold NC
  rw [MQ.2 this.1,MQ.2 this.2]; rfl
theorem X8 {t:Types} {p g:Graph} {pa:Morphism} {inj:Bool} (h:(MT t p g pa inj).2=0):(MT t p g pa inj).1.length<=5000∧∀ m∈(MT t p g pa inj).1,T5 t p g m:=by
 unfold MT at h ⊢
 split at h
 ·rename_i h1; exact absurd h h1
 rename_i h1
 split at h
 ·cases h
 rename_i h2
 split at h
 ·rename_i h3; exact absurd h h3
 rename_i h3
 split at h
 ·rename_i h4; exact absurd h h4
 rename_i h4
 split at h
 ·cases h
 rename_i h5
 rw [if_neg h1,if_neg h2,if_neg h3,if_neg h4,if_neg h5]
 exact ⟨by dsimp only; omega,fun m hm=>US (Classical.not_not.1 h1) hm⟩
structure T2 (t:Types) (p:Pattern) (h:AY) (x:AL):Prop where
 q:P7 t p
 m:T5 t p.Graph h.Graph x.Morphism
 len:(x.Vars.length:Int)=p.Vars
 small:Nh x.Vars
structure T3 (t:Types) (p:Pattern) (c:AA):Prop where
 q:P7 t c.Pattern
 vars:p.Vars<=c.Pattern.Vars
 map:bF p.Graph c.Pattern.Graph c.Map
 inj:NC c.Map=true
def E0 (t:Types) (c:AA) (h:AY) (m:AL) (inj:Bool):List AL × Int:=
 let x:=MT t c.Pattern.Graph h.Graph ⟨GP c.Pattern.Graph.Nodes.length c.Map.Nodes m.Morphism.Nodes,GP c.Pattern.Graph.Edges.length c.Map.Edges m.Morphism.Edges⟩ inj
 if x.2≠0 then ([],x.2) else ((x.1.filter fun y=>(MI c.Pattern h y m.Vars).2).map fun y=>⟨y,(MI c.Pattern h y m.Vars).1⟩,0)
instance:Inhabited Morphism:=⟨⟨[],[]⟩⟩
instance:Inhabited AL:=⟨⟨default,[]⟩⟩
instance:Inhabited A4:=⟨⟨0,default,[]⟩⟩
theorem RE {x:List Morphism} {F:Morphism->List Int × Bool} {f:Int->List AL->Option (List AL)} (hx:x.length<=5000)
  (hf:∀ (i:Int) (s:List AL),0<=i->i<x.length->s.length<=5000->f i s=some (if (F (AB x i)).2=true then s++[⟨AB x i,(F (AB x i)).1⟩] else s)) :
  forA f 0 (x.length:Int) []=some ((x.filter fun y=>(F y).2).map fun y=>⟨y,(F y).1⟩):=by
 rw [GX (a:=0) (b:=x.length) (s:=[]) (fun i=>((x.take i.toNat).filter fun y=>(F y).2).map fun y=>(⟨y,(F y).1⟩:AL)) (by omega) rfl,Int.toNat_natCast,List.take_length]
 intro i i0 i1
 have hl:(((x.take i.toNat).filter fun y=>(F y).2).map fun y=>(⟨y,(F y).1⟩:AL)).length<=5000:=by
  rw [List.length_map]
  have:=List.length_filter_le (fun y=>(F y).2) (x.take i.toNat)
  have:=List.length_take_le i.toNat x
  have:(x.take i.toNat).length<=x.length:=by rw [List.length_take]; omega
  omega
 rw [hf i _ i0 i1 hl,JF i0 i1,List.filter_append,List.map_append]
 cases hc:(F (AB x i)).2 <;> simp [hc]
theorem fX {s:AR} {p:Pattern} {c:AA} {m:AL} (hf:BS s.t) (hv:(A6 s.t).2=0) (hh:LY s.t s.h) (ha:T2 s.t p s.h m) (hi:T3 s.t p c):BV s c m=some (E0 s.t c s.h m s.injective):=by
 have gn:=hi.q.g.nodes
 have ge:=hi.q.g.edges
 have m1:=hi.map.nlen
 have m2:=hi.map.elen
 have m3:=ha.m.nlen
 have m4:=ha.m.elen
 unfold BV E0
 rw [Ut (by omega) (fun x hx=>by obtain ⟨i,i0,i1,rfl⟩:=DX hx; exact (hi.map.node i i0 i1).1) (by omega),bs,
  Ut (by omega) (fun x hx=>by obtain ⟨i,i0,i1,rfl⟩:=DX hx; exact (hi.map.edge i i0 i1).1) (by omega),bs,Up hf,bs]
 dsimp only
 refine Lh fun h0=>?_
 obtain ⟨e1,e2⟩:=X8 h0
 rw [RE (F:=fun y=>MI c.Pattern s.h y m.Vars) e1]
 ·rfl
 ·intro i st i0 i1 hl
  have hm:=e2 _ (AN i0 i1)
  have hg:(m.Vars.length:Int)<=c.Pattern.Vars:=by have:=ha.len; have:=hi.vars; omega
  rw [AF i0 i1,bs,ff hi.q (fun x hx=>Ov (GG hv) hi.q hh hm hx) hg ha.small,bs,←KJ]
  split
  ·rw [BI (by simp; unfold BC; omega)]; rfl
  ·rfl
theorem Vz {t:Types} {h:AY} {inj:Bool} {p:Pattern} {c:AA} {m:AL} (hv:(A6 t).2=0) (hh:LY t h) (ha:T2 t p h m) (hi:T3 t p c) (e:(E0 t c h m inj).2=0):(E0 t c h m inj).1.length<=5000∧∀ x∈(E0 t c h m inj).1,T2 t c.Pattern h x:=by
 unfold E0 at e ⊢
 dsimp only at e ⊢
 split at e
 ·rename_i h1; exact absurd e h1
 rename_i h1
 rw [if_neg h1]
 obtain ⟨e1,e2⟩:=X8 (Classical.not_not.1 h1)
 refine ⟨by dsimp only; rw [List.length_map]; exact Nat.le_trans (List.length_filter_le _ _) e1,fun x hx=>?_⟩
 dsimp only at hx
 rw [List.mem_map] at hx
 obtain ⟨y,hy,rfl⟩:=hx
 rw [List.mem_filter] at hy
 have hm:=e2 y hy.1
 have hg:(m.Vars.length:Int)<=c.Pattern.Vars:=by have:=ha.len; have:=hi.vars; omega
 have:=a8 hi.q (fun x hx=>Ov (GG hv) hi.q hh hm hx) hg ha.small hy.2
 exact ⟨hi.q,hm,this.1,this.2⟩
end Go.Sf.Sc
