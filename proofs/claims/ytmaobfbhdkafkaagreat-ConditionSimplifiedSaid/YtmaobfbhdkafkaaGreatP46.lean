/- Plain lemmas: what the functions of the program and of the reference compute. -/
import Derived.Test.YtmaobfbhdkafkaaGreatP25
set_option maxRecDepth 100000
namespace Go.Sf.Sc
open Go Go.Sf
theorem P4 {all:List Attr} {k:Int} (h:Lj all k=0) (hn:(AB all k).Names.length<=1000):-1000000<=(AB all k).Low∧(AB all k).High<=1000000:=by
 unfold Lj at h
 dsimp only at h
 split at h
 ·cases h
 split at h
 ·cases h
 split at h
 ·split at h
  ·rename_i hc; exact ⟨hc.1,hc.2.2⟩
  ·cases h
 split at h
 ·rename_i hc; exact absurd h hc
 split at h
 ·rename_i hc; omega
 ·cases h
theorem Wa {t:Types} {i:Int} (h:JH t i=0):∀ k,((AZ t i).length:Int) - (AB t.Nodes i).Attrs.length<=k->k<(AZ t i).length->Lj (AZ t i) k=0:=by
 unfold JH at h
 dsimp only at h
 split at h
 ·cases h
 split at h
 ·cases h
 split at h
 ·cases h
 split at h
 ·cases h
 exact St h
theorem Nt {t:Types} {n:Nat} {a:Int} (h0:0<=a):CH t (n+1) a=CH t n (par t a)++(AB t.Nodes a).Attrs:=by
 rw [CH,if_neg (by omega)]
theorem ag {all:List Attr} {k:Int} (h:Lj all k=0) (hn:(AB all k).Names.length<=1000):(AB all k).Low<=(AB all k).High:=by
 unfold Lj at h
 dsimp only at h
 split at h
 ·cases h
 split at h
 ·cases h
 split at h
 ·split at h
  ·rename_i hc; exact hc.2.1
  ·cases h
 split at h
 ·rename_i hc; exact absurd h hc
 split at h
 ·rename_i hc; omega
 ·cases h
theorem P5 {t:Types} (hf:BW t) (h:G3 t) {Q:Attr->Prop} (P4:∀ {all:List Attr} {k:Int},Lj all k=0->(AB all k).Names.length<=1000->Q (AB all k)):∀ (n:Nat) (a:Int),a<t.Nodes.length->a<n->∀ x∈CH t n a,Q x
 | 0,_,_,_=>by simp [CH]
 | n+1,a,ha,hn=>by
  by_cases h0:a<0
  ·rw [Ij h0]; simp
  ·have hp:=h.par a (by omega) ha
   intro x hx
   rw [Nt (by omega)] at hx
   rcases List.mem_append.1 hx with hx | hx
   ·exact P5 hf h P4 n (par t a) (by omega) (by omega) x hx
   ·obtain ⟨j,j0,j1,rfl⟩:=E3 hx
    have e:AZ t a=CH t a.toNat (par t a)++(AB t.Nodes a).Attrs:=by
     unfold AZ
     rw [show (a+1).toNat=a.toNat+1 by omega,Nt (by omega)]
    have hl:(AZ t a).length=(CH t a.toNat (par t a)).length+(AB t.Nodes a).Attrs.length:=by rw [e,List.length_append]
    have h1:=Wa (h.node a (by omega) ha) ((CH t a.toNat (par t a)).length+j) (by omega) (by omega)
    have e2:AB (AZ t a) ((CH t a.toNat (par t a)).length+j)=AB (AB t.Nodes a).Attrs j:=by
     rw [e,Tl,if_neg (by omega)]
     unfold AB
     congr 1
     omega
    have hm:=MD hf (Int.le_refl _) h.par ha (AB (AZ t a) ((CH t a.toNat (par t a)).length+j)) (AN (by omega) (by omega))
    have:=P4 h1 (by have:=hm.names; omega)
    rwa [e2] at this
theorem SZ {t:Types} (hf:BW t) (h:G3 t) {a:Int} (h0:0<=a) (ha:a<t.Nodes.length):∀ x∈AZ t a,-1000000<=x.Low∧x.High<=1000000:=P5 hf h P4 _ a ha (by omega)
theorem Y1 {t:Types} (hf:BW t) (h:G3 t) {a:Int} (h0:0<=a) (ha:a<t.Nodes.length):∀ x∈AZ t a,x.Low<=x.High:=P5 hf h ag _ a ha (by omega)
theorem UV {t:Types} {k:Int} (hp:F1 t k):∀ (n:Nat) (a b:Int),a<k->a<n->b∈Nc t n a->0<=b∧b<=a∧(AZ t b).length<=(CH t n a).length
 | 0,_,_,_,_=>by simp [Nc]
 | n+1,a,b,ha,hn=>by
  intro hb
  rw [Nc] at hb
  split at hb
  ·cases hb
  ·rename_i h0
   have hq:=hp a (by omega) ha
   rw [Nt (by omega)]
   rcases List.mem_cons.1 hb with rfl | hb
   ·refine ⟨by omega,by omega,?_⟩
    unfold AZ
    rw [Lx hp (b+1).toNat (n+1) b ha (by omega) (by omega),Nt (by omega)]
    exact Nat.le_refl _
   ·have:=UV hp n (par t a) b (by omega) (by omega) hb
    refine ⟨this.1,by omega,?_⟩
    rw [List.length_append]; omega
theorem ZS {t:Types} (h:G3 t) {a b:Int} (ha:a<t.Nodes.length) (hb:It t a b=true):(AZ t b).length<=(AZ t a).length:=by
 unfold It at hb
 rw [List.any_eq_true] at hb
 obtain ⟨x,hx,e⟩:=hb
 rw [zzX] at e
 subst e
 by_cases h0:a<0
 ·have:(a+1).toNat=0:=by omega
  rw [this] at hx; cases hx
 ·exact (UV h.par (a+1).toNat a b ha (by omega) hx).2.2
theorem X0 {α:Type} {a b:Int} {Q:Prop} [Decidable Q] {v:α} {X:Option α} {Y:α} (he:a=b↔Q) (h:Q->X=some Y):(if (!decide (a=b))=true then some v else X)=some (if ¬ Q then v else Y):=by
 by_cases hq:Q
 ·rw [if_neg (by simp [he.2 hq]),if_neg (by simpa using hq),h hq]
 ·rw [if_pos (by simp; exact fun e=>hq (he.1 e)),if_pos hq]
def QV (t:Types) (k:Int) (v:List Int) (j:Int):Bool:=decide (AB v j<(AB (AZ t k) j).Low)||decide ((AB (AZ t k) j).High<AB v j)
def J9 (t:Types) (k:Int) (v:List Int):Int:=
 if (t.Nodes.length:Int)<=k then 6 else if (AB t.Nodes k).Abstract=true then 13 else if ¬ v.length=(AZ t k).length then 20 else
 if anyR (QV t k v) 0 (AZ t k).length=true then 6 else 0
def LR (t:Types) (g:Graph) (i:Int):Int:=
 if (t.Edges.length:Int)<=(AB g.Edges i).Type' then 6 else if SC t g i=false then 13 else 0
def ND (t:Types) (h:A0):Int × Int:=
 if (A7 t).2≠0 then (-1,(A7 t).2) else if C6 h.Graph≠0 then (-1,C6 h.Graph) else if ¬ h.Values.length=h.Graph.Nodes.length then (-1,20) else
 match fst (fun i=>(nz (J9 t (AB h.Graph.Nodes i) (AB h.Values i))).map fun e=>(i,e)) 0 h.Graph.Nodes.length with
 | some r=>r
 | none=>(fst (fun i=>(nz (LR t h.Graph i)).map fun e=>(i,e)) 0 h.Graph.Edges.length).getD (-1,0)
theorem PA {t:Types} (hv:(A7 t).2=0) {k:Int} (h0:0<=k) (h1:k<t.Nodes.length):IM t k=(AZ t k,0):=by
 unfold IM
 rw [if_neg (by simp [hv]),if_pos (Lz.2 ⟨h0,h1⟩)]
theorem XH {x:Bool} {y:Bool}:(if x=true then some true else some y)=some (x||y):=by cases x <;> rfl
theorem eo {t:Types} (hf:BW t) (hv:(A7 t).2=0) {k:Int} (h0:0<=k) (v:List Int):Jf t k v=some (J9 t k v):=by
 unfold Jf J9
 by_cases h1:(t.Nodes.length:Int)<=k
 ·rw [if_pos (by simpa using h1),if_pos h1]
 rw [if_neg (by simpa using h1),if_neg h1,AF h0 (by omega),bs]
 refine pw fun _=>?_
 rw [XK hf,PA hv h0 (by omega),bs]
 refine X0 (by simp only []; omega) fun hl=>?_
 rw [CD (QV t k v) 6]
 ·cases anyR (QV t k v) 0 (AZ t k).length <;> rfl
 ·intro j j0 j1 _
  have j1:j<(AZ t k).length:=j1
  rw [AF j0 j1,bs,AF j0 (by omega)]
  simp only [bs,XH]
  unfold QV
  cases decide (AB v j<(AB (AZ t k) j).Low) <;> cases decide ((AB (AZ t k) j).High<AB v j) <;> rfl
theorem fD {t:Types} (hf:BW t) (hv:(A7 t).2=0) {k:Int} (h0:0<=k) (v:List Int):Mb t k v=some (J9 t k v):=by
 unfold Mb J9
 by_cases h1:(t.Nodes.length:Int)<=k
 ·rw [if_pos (by simpa using h1),if_pos h1]
 rw [if_neg (by simpa using h1),if_neg h1,AF h0 (by omega),bs]
 refine pw fun _=>?_
 rw [Ro hf,PA hv h0 (by omega),bs]
 refine X0 (by simp only []; omega) fun hl=>?_
 rw [CD (QV t k v) 6]
 ·cases anyR (QV t k v) 0 (AZ t k).length <;> rfl
 ·intro j j0 j1 _
  have j1:j<(AZ t k).length:=j1
  rw [AF j0 (by omega),bs,AF j0 j1]
  simp only [bs,XH]
  unfold QV
  cases decide (AB v j<(AB (AZ t k) j).Low) <;> cases decide ((AB (AZ t k) j).High<AB v j) <;> rfl
theorem Vf (e i:Int):(if (!decide (e=0))=true then some (B9.ret (σ:=Unit) (ρ:=Int × Int) (i,e)) else some (.next ()))=some (Pc ((nz e).map fun e=>(i,e))):=by
 unfold nz
 by_cases h:e=0 <;> simp [h,Pc]
theorem Ze {t:Types} (hf:BW t) (h:A0):H6 t h=some (ND t h):=by
 unfold H6 ND
 rw [Rl hf,bs]
 refine OK fun hv=>?_
 rw [OD,bs]
 refine OK fun hg=>?_
 have go:=FG hg
 refine X0 (by omega) fun hl=>?_
 rw [C0 (fun i=>(nz (J9 t (AB h.Graph.Nodes i) (AB h.Values i))).map fun e=>(i,e)),GW]
 ·cases hn:fst (fun i=>(nz (J9 t (AB h.Graph.Nodes i) (AB h.Values i))).map fun e=>(i,e)) 0 h.Graph.Nodes.length with
  | some r=>rfl
  | none=>
   have hn2:=C1.1 hn
   dsimp only
   rw [C0 (fun i=>(nz (LR t h.Graph i)).map fun e=>(i,e)),GW]
   ·cases fst (fun i=>(nz (LR t h.Graph i)).map fun e=>(i,e)) 0 h.Graph.Edges.length <;> rfl
   ·intro i i0 i1 _
    have hfi:=go.fit _ (AN (l:=h.Graph.Edges) i0 i1)
    rw [AF i0 i1,bs]
    unfold LR SC
    by_cases h1:(t.Edges.length:Int)<=(AB h.Graph.Edges i).Type'
    ·rw [if_pos (by simpa using h1),if_pos h1]; rfl
    ·rw [if_neg (by simpa using h1),if_neg h1,AF (by omega) (by omega),bs,AF (by omega) (by omega),bs,iG hf,bs]
     cases QH t (AB h.Graph.Edges i).Type' (AB h.Graph.Nodes (AB h.Graph.Edges i).From) (AB h.Graph.Nodes (AB h.Graph.Edges i).To) <;> rfl
 ·intro i i0 i1 _
  rw [AF i0 i1,bs,AF i0 (by omega),bs,eo hf hv (go.kind _ (AN i0 i1)).1,bs]
  exact Vf _ i
theorem ic {t:Types} (hf:BW t) (h:A0):Lb t h=some (ND t h):=by
 unfold Lb ND
 rw [Rp hf,bs]
 refine OK fun hv=>?_
 rw [OF,bs]
 refine OK fun hg=>?_
 have go:=FG hg
 refine X0 (by omega) fun hl=>?_
 rw [C0 (fun i=>(nz (J9 t (AB h.Graph.Nodes i) (AB h.Values i))).map fun e=>(i,e)),GW]
 ·cases hn:fst (fun i=>(nz (J9 t (AB h.Graph.Nodes i) (AB h.Values i))).map fun e=>(i,e)) 0 h.Graph.Nodes.length with
  | some r=>rfl
  | none=>
   have hn2:=C1.1 hn
   dsimp only
   rw [C0 (fun i=>(nz (LR t h.Graph i)).map fun e=>(i,e)),GW]
   ·cases fst (fun i=>(nz (LR t h.Graph i)).map fun e=>(i,e)) 0 h.Graph.Edges.length <;> rfl
   ·intro i i0 i1 _
    have hfi:=go.fit _ (AN (l:=h.Graph.Edges) i0 i1)
    rw [AF i0 i1,bs]
    unfold LR SC
    by_cases h1:(t.Edges.length:Int)<=(AB h.Graph.Edges i).Type'
    ·rw [if_pos (by simpa using h1),if_pos h1]; rfl
    ·rw [if_neg (by simpa using h1),if_neg h1,AF (by omega) (by omega),bs,AF (by omega) (by omega),bs,Zp hf,bs]
     cases QH t (AB h.Graph.Edges i).Type' (AB h.Graph.Nodes (AB h.Graph.Edges i).From) (AB h.Graph.Nodes (AB h.Graph.Edges i).To) <;> rfl
 ·intro i i0 i1 _
  rw [AF i0 i1,bs,AF i0 (by omega),bs,fD hf hv (go.kind _ (AN i0 i1)).1,bs]
  exact Vf _ i
structure L8 (t:Types) (h:A0):Prop where
 g:KI h.Graph
 len:h.Values.length=h.Graph.Nodes.length
 kind:∀ i:Int,0<=i->i<h.Graph.Nodes.length->0<=AB h.Graph.Nodes i∧AB h.Graph.Nodes i<t.Nodes.length
 row:∀ i:Int,0<=i->i<h.Graph.Nodes.length->(AB h.Values i).length=(AZ t (AB h.Graph.Nodes i)).length
 low:∀ i:Int,0<=i->i<h.Graph.Nodes.length->∀ x∈AB h.Values i,-1000000<=x∧x<=1000000
 ge:C6 h.Graph=0
 ty:FI t h.Graph=true
theorem XA {t:Types} (hf:BW t) {h:A0} (e:(ND t h).2=0):(A7 t).2=0∧L8 t h:=by
 unfold ND at e
 split at e
 ·rename_i h1; exact absurd e h1
 split at e
 ·rename_i h1; exact absurd e h1
 split at e
 ·cases e
 rename_i h1 h2 h3
 have hv:=Classical.not_not.1 h1
 have go:=FG (Classical.not_not.1 h2)
 have hn:∀ i:Int,0<=i->i<h.Graph.Nodes.length->J9 t (AB h.Graph.Nodes i) (AB h.Values i)=0:=by
  split at e
  ·rename_i r hr
   obtain ⟨i,_,_,k,_⟩:=FR hr
   unfold nz at k
   split at k
   ·cases k
   ·rename_i hne; cases k; exact absurd e hne
  ·rename_i hr
   exact fun i i0 i1=>OC.1 (M1.1 (C1.1 hr i i0 i1))
 have hk:∀ i:Int,0<=i->i<h.Graph.Nodes.length->(0<=AB h.Graph.Nodes i∧AB h.Graph.Nodes i<t.Nodes.length)∧(AB h.Values i).length=(AZ t (AB h.Graph.Nodes i)).length∧∀ j:Int,0<=j->j<(AZ t (AB h.Graph.Nodes i)).length->QV t (AB h.Graph.Nodes i) (AB h.Values i) j=false:=by
  intro i i0 i1
  have k0:=(go.kind _ (AN i0 i1)).1
  have:=hn i i0 i1
  unfold J9 at this
  split at this
  ·cases this
  split at this
  ·cases this
  split at this
  ·cases this
  split at this
  ·cases this
  rename_i a1 a2 a3 a4
  exact ⟨⟨k0,by omega⟩,Classical.not_not.1 a3,D2.1 (by simpa using a4)⟩
 have he:∀ i:Int,0<=i->i<h.Graph.Edges.length->LR t h.Graph i=0:=by
  have hn':fst (fun i=>(nz (J9 t (AB h.Graph.Nodes i) (AB h.Values i))).map fun e=>(i,e)) 0 h.Graph.Nodes.length=none:=C1.2 fun i i0 i1=>by rw [hn i i0 i1]; rfl
  rw [hn'] at e
  dsimp only at e
  cases hr:fst (fun i=>(nz (LR t h.Graph i)).map fun e=>(i,e)) 0 h.Graph.Edges.length with
  | some r=>
   rw [hr] at e
   obtain ⟨i,_,_,k,_⟩:=FR hr
   unfold nz at k
   split at k
   ·cases k
   ·rename_i hne; cases k; exact absurd e hne
  | none=>exact fun i i0 i1=>OC.1 (M1.1 (C1.1 hr i i0 i1))
 have hty:FI t h.Graph=true:=by
  unfold FI
  rw [zzZ,Bool.not_eq_true',Bool.not_eq_true',List.any_eq_false,List.any_eq_false]
  refine ⟨fun n hn=>?_,fun x hx=>?_⟩
  ·obtain ⟨i,i0,i1,rfl⟩:=E3 hn
   have:=(hk i i0 i1).1.2
   simp; omega
  ·obtain ⟨i,i0,i1,rfl⟩:=E3 hx
   have:=he i i0 i1
   unfold LR at this
   split at this
   ·cases this
   ·simp; omega
 suffices hlow:∀ i:Int,0<=i->i<h.Graph.Nodes.length->∀ x∈AB h.Values i,-1000000<=x∧x<=1000000 from ⟨hv,go,Classical.not_not.1 h3,fun i i0 i1=>(hk i i0 i1).1,fun i i0 i1=>(hk i i0 i1).2.1,hlow,Classical.not_not.1 h2,hty⟩
 intro i i0 i1 x hx
 obtain ⟨k1,k2,k3⟩:=hk i i0 i1
 obtain ⟨j,j0,j1,rfl⟩:=E3 hx
 have:=k3 j j0 (by omega)
 unfold QV at this
 simp only [Bool.or_eq_false_iff,decide_eq_false_iff_not] at this
 have:=SZ hf (GR hv) k1.1 k1.2 _ (AN (l:=AZ t (AB h.Graph.Nodes i)) j0 (by omega))
 omega
end Go.Sf.Sc
namespace Go.Sf.Sc
open Go Go.Sf
def MG (t:Types) (p g:Graph) (m:Morphism) (i:Int):Option Int:=
 if AB m.Nodes i<0∨g.Nodes.length<=AB m.Nodes i then some 6 else if It t (AB g.Nodes (AB m.Nodes i)) (AB p.Nodes i)=false then some 13 else none
def PY (t:Types) (p g:Graph) (m:Morphism):Int:=
 if m.Nodes.length≠p.Nodes.length∨m.Edges.length≠p.Edges.length then 20 else
 match fst (MG t p g m) 0 m.Nodes.length with
 | some e=>e
 | none=>(fst (Iu p g m) 0 m.Edges.length).getD 0
def LJ (t:Types) (p g:Graph) (m:Morphism) (inj:Bool):Int:=
 if G0 t p g≠0 then G0 t p g else if PY t p g m≠0 then PY t p g m else if (inj&&!Ni m)=true then 5 else 0
structure Ut (t:Types) (p g:Graph) (m:Morphism):Prop where
 nlen:m.Nodes.length=p.Nodes.length
 elen:m.Edges.length=p.Edges.length
 node:∀ i:Int,0<=i->i<m.Nodes.length->(0<=AB m.Nodes i∧AB m.Nodes i<g.Nodes.length)∧It t (AB g.Nodes (AB m.Nodes i)) (AB p.Nodes i)=true
 edge:∀ i:Int,0<=i->i<m.Edges.length->0<=AB m.Edges i∧AB m.Edges i<g.Edges.length
theorem QK {t:Types} {p g:Graph} (h:G0 t p g=0):(A7 t).2=0∧KI p∧KI g∧(∀ n∈p.Nodes,0<=n∧n<t.Nodes.length)∧∀ n∈g.Nodes,0<=n∧n<t.Nodes.length:=by
 unfold G0 at h
 split at h
 ·rename_i h1; exact absurd h h1
 split at h
 ·rename_i h1; exact absurd h h1
 split at h
 ·rename_i h1; exact absurd h h1
 split at h
 ·rename_i h1 h2 h3 h4
  rw [zzZ] at h4
  have gp:=FG (Classical.not_not.1 h2)
  have gg:=FG (Classical.not_not.1 h3)
  exact ⟨Classical.not_not.1 h1,gp,gg,(M7 gp h4.1).1,(M7 gg h4.2).1⟩
 ·cases h
theorem XZ {t:Types} {p g:Graph} {m:Morphism} (h:PY t p g m=0):Ut t p g m:=by
 unfold PY at h
 split at h
 ·cases h
 rename_i h3
 have hn:fst (MG t p g m) 0 m.Nodes.length=none:=by
  split at h
  ·rename_i r hr
   obtain ⟨i,_,_,k,_⟩:=FR hr
   subst h
   unfold MG at k
   split at k
   ·cases k
   ·split at k <;> cases k
  ·assumption
 rw [hn] at h
 have he:=T2 (fun i=>by
  unfold Iu
  split
  ·simp
  ·split
   ·simp
   ·split <;> simp) h
 refine ⟨by omega,by omega,fun i i1 i2=>?_,fun i i1 i2=>?_⟩
 ·have:=C1.1 hn i i1 i2
  unfold MG at this
  split at this
  ·cases this
  ·split at this
   ·cases this
   ·rename_i x y
    exact ⟨by omega,by simpa using y⟩
 ·have:=he i i1 i2
  unfold Iu at this
  split at this
  ·cases this
  ·omega
theorem Zk {t:Types} (hf:BW t) {p g:Graph} (hg:G0 t p g=0) (m:Morphism):HV t p g m=some (PY t p g m):=by
 obtain ⟨hv,gp,gg,tp,tg⟩:=QK hg
 unfold HV PY
 refine Qm (by simp; try omega) fun hl=>?_
 rw [dG hf (GR hv) hv,bs,C0 (MG t p g m),GW]
 ·cases hn:fst (MG t p g m) 0 m.Nodes.length with
  | some e=>rfl
  | none=>
   dsimp only
   rw [C0 (Iu p g m),GP]
   intro i i1 i2 _
   unfold Iu
   rw [AF i1 i2,bs]
   by_cases h1:AB m.Edges i<0∨g.Edges.length<=AB m.Edges i
   ·rw [if_pos (by simpa using h1),if_pos h1]; rfl
   ·have hf:=gp.fit _ (AN (l:=p.Edges) i1 (by omega))
    rw [if_neg (by simpa using h1),if_neg h1,AF i1 (by omega),bs,AF (by omega) (by omega),bs]
    by_cases h2:(AB p.Edges i).Type'=(AB g.Edges (AB m.Edges i)).Type'
    ·rw [if_neg (by simpa using h2),if_neg (by simpa using h2),AF (by omega) (by omega),bs]
     by_cases h3:AB m.Nodes (AB p.Edges i).From=(AB g.Edges (AB m.Edges i)).From
     ·rw [if_neg (by simpa using h3),AF (by omega) (by omega),bs,bs]
      by_cases h4:AB m.Nodes (AB p.Edges i).To=(AB g.Edges (AB m.Edges i)).To
      ·rw [if_neg (by simpa using h4),if_neg (by simp [h3,h4])]; rfl
      ·rw [if_pos (by simpa using h4),if_pos (.inr h4)]; rfl
     ·rw [if_pos (by simpa using h3),bs,if_pos rfl,if_pos (.inl h3)]; rfl
    ·rw [if_pos (by simpa using h2),if_pos h2]; rfl
 ·intro i i1 i2 _
  unfold MG
  rw [AF i1 i2,bs]
  by_cases h1:AB m.Nodes i<0∨g.Nodes.length<=AB m.Nodes i
  ·rw [if_pos (by simpa using h1),if_pos h1]; rfl
  ·have kp:=tp _ (AN (l:=p.Nodes) i1 (by omega))
   have kg:=tg _ (AN (l:=g.Nodes) (show 0<=AB m.Nodes i by omega) (by omega))
   rw [if_neg (by simpa using h1),if_neg h1,AF i1 (by omega),bs,AF kp.1 (by unfold Jy; rw [List.length_map,DK]; exact kp.2),bs,AF (by omega) (by omega),bs]
   have e:AB (Jy t) (AB p.Nodes i)=Kb t (AB p.Nodes i):=by unfold Jy; exact L7 (Kb t) kp.1 kp.2
   rw [e,AF kg.1 (by unfold Kb; rw [List.length_map,DK]; exact kg.2),bs]
   have e2:AB (Kb t (AB p.Nodes i)) (AB g.Nodes (AB m.Nodes i))=It t (AB g.Nodes (AB m.Nodes i)) (AB p.Nodes i):=by unfold Kb; exact L7 (fun k=>It t k (AB p.Nodes i)) kg.1 kg.2
   rw [e2]
   cases It t (AB g.Nodes (AB m.Nodes i)) (AB p.Nodes i) <;> rfl
theorem XP {l:List Int} (hl:l.length<=1000):IV l=some (!Mv l):=by
 unfold IV
 rw [if_pos (by omega)]
 congr 1
 have h1:=SB l
 have h2:=Mw (l:=l)
 cases hd:dupB l with
 | false=>rw [h2.2 (h1.1 hd)]; rfl
 | true=>
  cases he:Mv l with
  | false=>rfl
  | true=>rw [h1.2 (h2.1 he)] at hd; cases hd
theorem XM {t:Types} (hf:BW t) (p g:Graph) (m:Morphism) (inj:Bool):GK t p g m inj=some (LJ t p g m inj):=by
 unfold GK LJ
 rw [XQ hf,bs]
 refine Ik fun hg=>?_
 rw [Zk hf hg,bs]
 refine Ik fun hs=>?_
 obtain ⟨_,gp,gg,_⟩:=QK hg
 have mo:=XZ hs
 have:=gp.nodes; have:=gp.edges; have:=mo.nlen; have:=mo.elen
 rw [XP (by omega),XP (by omega)]
 unfold Ni
 cases inj <;> cases Mv m.Nodes <;> cases Mv m.Edges <;> rfl
theorem Y6 {t:Types} {p g:Graph} {m:Morphism} {inj:Bool} (h:LJ t p g m inj=0):G0 t p g=0∧Ut t p g m:=by
 unfold LJ at h
 split at h
 ·rename_i h1; exact absurd h h1
 split at h
 ·rename_i h1; exact absurd h h1
 rename_i h1 h2
 exact ⟨Classical.not_not.1 h1,XZ (Classical.not_not.1 h2)⟩
end Go.Sf.Sc
namespace Go.Sf.Sc
open Go Go.Sf
section
variable {α σ ρ:Type}
def HT (step:α->σ->B9 σ ρ):List α->σ->σ ⊕ ρ
 | [],s=>.inl s
 | a::r,s=>match step a s with
  | .next s'=>HT step r s'
  | .brk s'=>.inl s'
  | .ret r=>.inr r
theorem RH [Inhabited α] {l:List α} {f:Int->σ->Option (B9 σ ρ)} (step:α->σ->B9 σ ρ) (I:σ->Prop) (h:∀ (i:Int) s,0<=i->i<l.length->I s->f i s=some (step (AB l i) s)∧∀ s',step (AB l i) s=.next s'->I s') :
  ∀ (n:Nat) (a:Int) (s:σ),0<=a->a+n=l.length->I s->forGo f n a s=some (HT step (l.drop a.toNat) s)
 | 0,a,s,h0,h1,_=>by
  rw [List.drop_eq_nil_of_le (by omega)]; rfl
 | n+1,a,s,h0,h1,hs=>by
  obtain ⟨h2,h3⟩:=h a s h0 (by omega) hs
  have hd:l.drop a.toNat=AB l a::l.drop (a+1).toNat:=by
   rw [show (a+1).toNat=a.toNat+1 by omega,List.drop_eq_getElem_cons (by omega)]
   congr 1
   unfold AB
   rw [List.getD_eq_getElem?_getD,List.getElem?_eq_getElem (by omega)]; rfl
  rw [FM,h2,hd,HT]
  cases hc:step (AB l a) s with
  | next s'=>
   simp only
   exact RH step I h n (a+1) s' (by omega) (by omega) (h3 s' hc)
  | brk s'=>rfl
  | ret r=>rfl
theorem RG [Inhabited α] {l:List α} {f:Int->σ->Option (B9 σ ρ)} (step:α->σ->B9 σ ρ) (I:σ->Prop) {s:σ} (hs:I s) (h:∀ (i:Int) s,0<=i->i<l.length->I s->f i s=some (step (AB l i) s)∧∀ s',step (AB l i) s=.next s'->I s') :
  forR f 0 l.length s=some (HT step l s):=by
 have:=RH step I h l.length 0 s (by omega) (by omega) hs
 unfold forR
 rw [show ((l.length:Int) - 0).toNat=l.length by omega]
 exact this
theorem V3 [Inhabited α] (step:α->σ->B9 σ ρ) (I:σ->Prop):∀ (l:List α) (s s':σ),I s->(∀ a∈l,∀ s s',I s->step a s=.next s'->I s')->(∀ a∈l,∀ s s',step a s≠.brk s')->HT step l s=.inl s'->I s'
 | [],s,s',h,_,_,e=>by cases e; exact h
 | a::r,s,s',h,hn,hb,e=>by
  rw [HT] at e
  split at e
  ·rename_i s2 h2
   exact V3 step I r s2 s' (hn a (by simp) s s2 h h2) (fun a ha=>hn a (by simp [ha])) (fun a ha=>hb a (by simp [ha])) e
  ·rename_i s2 h2; exact absurd h2 (hb a (by simp) _ _)
  ·cases e
end
def E0 (x:Term) (l:List Int):Int:=if x.Var<0 then x.Add else AJ (AB l x.Var+x.Add)
theorem RN {x:Term} {l:List Int} (h:x.Var<l.length):E9 x l=some (E0 x l):=by
 unfold E9 E0
 by_cases h0:x.Var<0
 ·rw [if_pos (by simpa using h0),if_pos h0]
 ·rw [if_neg (by simpa using h0),if_neg h0,AF (by omega) h]; rfl
theorem Zy {x:Term} {l:List Int} (h:x.Var<l.length):KS x l=some (E0 x l):=RN h
theorem bN {x:Term} {l:List Int} (h0:-1<=x.Var) (h:x.Var<l.length) (hl:l.length<=1000):G4 x l=some (E0 x l,0):=by
 unfold G4 DC
 rw [AW (by omega) (by omega),bs,if_neg (by simp; omega),RN h]; rfl
def Ke (x:Test) (l:List Int):Bool:=(decide (x.Kind=1)&&decide (E0 x.Left l<=E0 x.Right l))||(decide (x.Kind=2)&&decide (E0 x.Left l=E0 x.Right l))
structure Ih (n:Int) (x:Term):Prop where
 low:-1<=x.Var
 high:x.Var<n
 add:-1000000<=x.Add∧x.Add<=1000000
def OI (l:List Int):Prop:=∀ x∈l,-2000000<=x∧x<=2000000
theorem Qj {n:Int} {x:Term} (h:Ih n x) {l:List Int} (hl:OI l) (hn:n<=l.length):E0 x l=(if x.Var<0 then x.Add else AB l x.Var+x.Add)∧-3000000<=E0 x l∧E0 x l<=3000000:=by
 unfold E0
 have:=h.add
 by_cases h0:x.Var<0
 ·rw [if_pos h0,if_pos h0]; omega
 ·have hh:=h.high
  have:=hl _ (AN (l:=l) (show 0<=x.Var by omega) (by omega))
  rw [if_neg h0,if_neg h0,AW (by omega) (by omega)]; omega
theorem UJ {n:Int} {x:Term} (h:Ih n x) {l:List Int} (hn:n<=l.length):KJ x l=some (E0 x l,true):=by
 have h1:=h.low
 have h2:=h.high
 unfold KJ E0
 by_cases h0:x.Var=-1
 ·rw [if_pos (by simpa using h0),if_pos (by omega)]
 ·rw [if_neg (by simpa using h0),if_neg (by simp; omega),if_neg (by omega),AF (by omega) (by omega)]; rfl
theorem r_holds {n:Int} {x:Test} (h1:Ih n x.Left) (h2:Ih n x.Right) {l:List Int} (hn:n<=l.length):LY x l=some (Ke x l):=by
 unfold LY
 rw [UJ h1 hn,UJ h2 hn]; rfl
theorem UW {a b:Int} (ha:-4000000<=a∧a<=4000000) (hb:-4000000<=b∧b<=4000000):Ht a b=some (if a+b<0 then (-1,a+b+18446744073709551616) else (0,a+b)):=by
 have hw:∀ c:Int,IntKind.u64.wrap c=c % 18446744073709551616:=fun c=>by
  simp [IntKind.wrap,IntKind.signed,IntKind.bits]
 have hs:∀ c:Int,-4000000<=c∧c<=4000000->LS .i64 .shr c 63=some (if c<0 then -1 else 0):=by
  intro c hc
  unfold LS
  have e:c.fdiv (2 ^ (min (63:Int).toNat (IntKind.bits .i64)))=if c<0 then -1 else 0:=by
   show c.fdiv (2 ^ 63)=_
   rw [Int.fdiv_eq_ediv_of_nonneg _ (by decide)]
   split <;> omega
  simp only [e]
  have:(0:Int)<=63∧IntKind.min .i64<=(if c<0 then -1 else 0)∧(if c<0 then -1 else 0)<=IntKind.max .i64:=by
   split <;> decide
  rw [if_pos this]
 unfold Ht Iv
 rw [hw,hw,if_pos (by omega),bs,hs a ha,hs b hb,bs,bs]
 congr 1
 have wi:∀ c:Int,-10<=c->c<=10->AJ c=c:=fun c h1 h2=>AW (by omega) (by omega)
 have hq:(a % 18446744073709551616+b % 18446744073709551616+0) / 18446744073709551616=if a<0∧b<0 then 1 else if (a<0∨b<0)∧0<=a+b then 1 else 0:=by
  split
  ·omega
  ·split <;> omega
 have hr:(a % 18446744073709551616+b % 18446744073709551616+0) % 18446744073709551616=if a+b<0 then a+b+18446744073709551616 else a+b:=by
  split <;> omega
 rw [hq,hr]
 by_cases h1:a<0 <;> by_cases h2:b<0
 ·simp only [h1,h2,and_self,if_true]
  rw [wi _ (by decide) (by decide),wi _ (by decide) (by decide),if_pos (by omega),if_pos (by omega)]; rfl
 ·by_cases h3:a+b<0
  ·simp only [h1,h2,and_false,if_true,if_false,true_or,true_and,h3,show ¬ 0<=a+b by omega]
   rw [wi _ (by decide) (by decide),wi _ (by decide) (by decide)]; rfl
  ·simp only [h1,h2,and_false,if_true,if_false,true_or,true_and,h3,show 0<=a+b by omega]
   rw [wi _ (by decide) (by decide),wi _ (by decide) (by decide)]; rfl
 ·by_cases h3:a+b<0
  ·simp only [h1,h2,false_and,if_true,if_false,or_true,true_and,h3,show ¬ 0<=a+b by omega]
   rw [wi _ (by decide) (by decide),wi _ (by decide) (by decide)]; rfl
  ·simp only [h1,h2,false_and,if_true,if_false,or_true,true_and,h3,show 0<=a+b by omega]
   rw [wi _ (by decide) (by decide),wi _ (by decide) (by decide)]; rfl
 ·have h3:¬ a+b<0:=by omega
  simp only [h1,h2,false_and,and_self,if_false,or_self,h3]
  rw [wi _ (by decide) (by decide),wi _ (by decide) (by decide)]; rfl
def J3 (a:Int):Int × Int:=if a<0 then (-1,a+18446744073709551616) else (0,a)
theorem Vl {n:Int} {x:Term} (h:Ih n x) {l:List Int} (hl:OI l) (hn:n<=l.length):FX x l=some ((J3 (E0 x l)).1,(J3 (E0 x l)).2,true):=by
 have h1:=h.low
 have h2:=h.high
 have h3:=h.add
 have hs:=(Qj h hl hn).1
 unfold FX
 by_cases h0:x.Var=-1
 ·have e:E0 x l=x.Add:=by rw [hs,if_pos (by omega)]
  rw [e,if_pos (by simpa using h0),UW (by omega) (by omega),bs,Int.zero_add]; rfl
 ·have:=hl _ (AN (l:=l) (show 0<=x.Var by omega) (by omega))
  have e:E0 x l=AB l x.Var+x.Add:=by rw [hs,if_neg (by omega)]
  rw [e,if_neg (by simpa using h0),if_neg (by simp; omega),AF (by omega) (by omega),bs,UW (by omega) (by omega),bs]; rfl
theorem cx (a b:Int):Il a b=some (if a<b then -1 else if b<a then 1 else 0):=by
 unfold Il J8
 simp only [bs,decide_true,Bool.not_true,Bool.false_eq_true,if_false,zzX]
 split
 ·rfl
 ·split <;> rfl
theorem n7 (a b:Int):Im a b=some (if a<b then -1 else if b<a then 1 else 0):=cx a b
theorem gq (a b:Int):MH [a,b]=some (if a=0 then b else a):=by
 unfold MH
 show thenR (forGo _ 2 0 ()) _ _=_
 rw [FM,show AH [a,b] 0=some a from rfl,bs]
 by_cases ha:a=0
 ·rw [if_neg (by simp [ha]),if_pos ha]
  show thenR (forGo _ 1 (0+1) ()) _ _=_
  rw [FM,show AH [a,b] (0+1)=some b from rfl,bs]
  by_cases hb:b=0
  ·rw [if_neg (by simp [hb]),hb]; rfl
  ·rw [if_pos (by simp [hb])]; rfl
 ·rw [if_pos (by simp [ha]),if_neg ha]; rfl
theorem p_holds {n:Int} {x:Test} (h1:Ih n x.Left) (h2:Ih n x.Right) {l:List Int} (hl:OI l) (hn:n<=l.length):G8 x l=some (Ke x l):=by
 have s1:=(Qj h1 hl hn).2
 have s2:=(Qj h2 hl hn).2
 unfold G8 Ke
 rw [Vl h1 hl hn,Vl h2 hl hn]
 simp only [bs,Bool.not_true,Bool.or_self,Bool.false_eq_true,if_false,cx,n7,gq]
 generalize E0 x.Left l=a at s1
 generalize E0 x.Right l=b at s2
 have key:(if (if (J3 a).1<(J3 b).1 then (-1:Int) else if (J3 b).1<(J3 a).1 then 1 else 0)=0 then (if (J3 a).2<(J3 b).2 then (-1:Int) else if (J3 b).2<(J3 a).2 then 1 else 0) else (if (J3 a).1<(J3 b).1 then (-1:Int) else if (J3 b).1<(J3 a).1 then 1 else 0))=if a<b then -1 else if b<a then 1 else 0:=by
  unfold J3
  by_cases ha:a<0 <;> by_cases hb:b<0 <;> simp only [ha,hb,if_true,if_false] <;> (repeat' split) <;> omega
 rw [key]
 congr 2
 ·congr 1
  rw [decide_eq_decide]
  repeat' split
  all_goals omega
 ·congr 1
  rw [decide_eq_decide]
  repeat' split
  all_goals omega
end Go.Sf.Sc
namespace Go.Sf.Sc
open Go Go.Sf
structure Qv (t:Types) (q:Pattern):Prop where
 g:KI q.Graph
 kind:∀ n∈q.Graph.Nodes,0<=n∧n<t.Nodes.length
 vars:0<=q.Vars∧q.Vars<=12
 few:q.Slots.length<=10∧q.Tests.length<=10
 slot:∀ s∈q.Slots,(0<=s.Node∧s.Node<q.Graph.Nodes.length)∧(0<=s.Attr∧s.Attr<(AZ t (AB q.Graph.Nodes s.Node)).length)∧Ih q.Vars s.Term
 test:∀ x∈q.Tests,(x.Kind=1∨x.Kind=2)∧Ih q.Vars x.Left∧Ih q.Vars x.Right
 ge:C6 q.Graph=0
 ty:FI t q.Graph=true
theorem WD {n:Int} {x:Term} (h:Mi n x=true):Ih n x:=by
 unfold Mi at h
 simp only [zzZ,zzX] at h
 exact ⟨h.1.1.1,h.1.1.2,h.1.2,h.2⟩
theorem cd {n:Int} {l:List Test} (h:KE n l=0):∀ x∈l,(x.Kind=1∨x.Kind=2)∧Ih n x.Left∧Ih n x.Right:=by
 unfold KE at h
 split at h
 ·cases h
 split at h
 ·cases h
 have h2:=St h
 intro x hx
 obtain ⟨i,i0,i1,rfl⟩:=E3 hx
 have:=h2 i i0 i1
 unfold NR at this
 split at this
 ·cases this
 split at this
 ·rename_i h3 h4
  rw [zzZ] at h4
  exact ⟨by omega,WD h4.1,WD h4.2⟩
 ·cases this
theorem Ye (n:Int) (l:List Test):KE n l≠9:=by
 unfold KE
 split
 ·decide
 split
 ·decide
 intro h
 cases hr:fst (fun i=>nz (NR n (AB l i))) 0 l.length with
 | none=>rw [hr] at h; cases h
 | some r=>
  rw [hr] at h
  obtain ⟨i,_,_,k,_⟩:=FR hr
  simp only [Option.getD_some] at h
  subst h
  unfold nz NR at k
  split at k
  ·cases k
  ·rename_i hne
   split at k
   ·cases k
   ·split at k <;> cases k
theorem YJ {t:Types} {q:Pattern} (hv:(A7 t).2=0) (h:Ic t q=0∨Ic t q=9):Qv t q:=by
 have hg9:=Sv q.Graph
 unfold Ic at h
 rw [if_neg (by simp [hv])] at h
 split at h
 ·omega
 rename_i h1
 have g:=FG (Classical.not_not.1 h1)
 split at h
 ·omega
 rename_i h2
 split at h
 ·omega
 rename_i h3
 split at h
 ·omega
 rename_i h4
 split at h
 ·omega
 rename_i h5
 split at h
 ·rename_i h6
  have:=Ye q.Vars q.Tests
  omega
 rename_i h6
 refine ⟨g,(M7 g (by simpa using h2)).1,by omega,by omega,fun s hs=>?_,cd (Classical.not_not.1 h6),Classical.not_not.1 h1,by simpa using h2⟩
 have hb:P6 t q s=false:=by
  rw [Bool.not_eq_true,List.any_eq_false] at h5
  simpa using h5 s hs
 unfold P6 at hb
 simp only [Bool.or_eq_false_iff,Bool.not_eq_false',decide_eq_false_iff_not] at hb
 obtain ⟨⟨⟨b1,b2⟩,b3⟩,b4,b5⟩:=hb
 unfold O9 at b1
 dsimp only at b1
 split at b1
 ·cases b1
 rename_i c1
 have hk:=(M7 g (by simpa using h2)).1 _ (AN (l:=q.Graph.Nodes) (show 0<=s.Node by omega) (by omega))
 rw [PA hv hk.1 hk.2] at b1
 split at b1
 ·cases b1
 rename_i c2
 have c2:¬ (s.Attr<0∨((AZ t (AB q.Graph.Nodes s.Node)).length:Int)<=s.Attr):=c2
 exact ⟨by omega,by omega,by omega,by omega,by omega,by omega⟩
def MP (h:A0) (m:Morphism) (s:B4):Int:=AB (AB h.Values (AB m.Nodes s.Node)) s.Attr
def NQ (h:A0) (m:Morphism) (s:B4) (st:List Int × List Bool):List Int × List Bool:=
 if 0<=s.Term.Var∧AB st.2 s.Term.Var=false then (CT st.1 s.Term.Var (AJ (MP h m s - s.Term.Add)),CT st.2 s.Term.Var true) else st
def GO {ρ:Type} (r:ρ) (h:A0) (m:Morphism) (s:B4) (st:List Int × List Bool):B9 (List Int × List Bool) ρ:=
 if E0 s.Term (NQ h m s st).1=MP h m s then .next (NQ h m s st) else .ret r
structure VI (n:Int) (st:List Int × List Bool):Prop where
 l1:(st.1.length:Int)=n
 l2:(st.2.length:Int)=n
 small:OI st.1
structure J4 (n:Int) (h:A0) (m:Morphism) (s:B4):Prop where
 node:0<=s.Node∧s.Node<m.Nodes.length
 val:0<=AB m.Nodes s.Node∧AB m.Nodes s.Node<h.Values.length
 attr:0<=s.Attr∧s.Attr<(AB h.Values (AB m.Nodes s.Node)).length
 term:Ih n s.Term
 has:-1000000<=MP h m s∧MP h m s<=1000000
theorem Pv {t:Types} (ht:G3 t) {q:Pattern} {h:A0} {m:Morphism} (hq:Qv t q) (hh:L8 t h) (hm:Ut t q.Graph h.Graph m) {s:B4} (hs:s∈q.Slots):J4 q.Vars h m s:=by
 obtain ⟨h1,h2,h3⟩:=hq.slot s hs
 have hl:=hm.nlen
 have hn:=hm.node s.Node h1.1 (by omega)
 have hr:=hh.row _ hn.1.1 hn.1.2
 have hk:=hh.kind _ hn.1.1 hn.1.2
 have hb:=ZS ht hk.2 hn.2
 have hv:=hh.len
 refine ⟨by omega,by omega,by omega,h3,?_⟩
 unfold MP
 exact hh.low _ hn.1.1 hn.1.2 _ (AN h2.1 (by omega))
theorem Oa {α:Type} (l:List α) (i:Int) (a:α):(CT l i a).length=l.length:=by unfold CT; rw [List.length_set]
theorem V6 {α:Type} {l:List α} {i:Int} {a x:α} (h:x∈CT l i a):x∈l∨x=a:=List.mem_or_eq_of_mem_set h
theorem Z7 {n:Int} {h:A0} {m:Morphism} {s:B4} (hs:J4 n h m s) {st:List Int × List Bool} (hi:VI n st):VI n (NQ h m s st):=by
 have h1:=hs.has
 have h2:=hs.term.add
 unfold NQ
 split
 ·refine ⟨by rw [Oa]; exact hi.l1,by rw [Oa]; exact hi.l2,fun x hx=>?_⟩
  rcases V6 hx with hx | rfl
  ·exact hi.small x hx
  ·rw [AW (by omega) (by omega)]; omega
 ·exact hi
def I1 (q:Pattern) (h:A0) (m:Morphism):List Int × Int:=
 match HT (GO (([],11):List Int × Int) h m) q.Slots (List.replicate q.Vars.toNat 0,List.replicate q.Vars.toNat false) with
 | .inr r=>r
 | .inl st=>if anyR (fun i=>!Ke (AB q.Tests i) st.1) 0 q.Tests.length=true then ([],16) else (st.1,0)
theorem Pz {n:Int} (h0:0<=n):VI n (List.replicate n.toNat 0,List.replicate n.toNat false):=by
 refine ⟨by simp; omega,by simp; omega,fun x hx=>?_⟩
 rw [List.mem_replicate] at hx
 omega
theorem PZ {ρ:Type} {r:ρ} {n:Int} {h:A0} {m:Morphism} {s:B4} (hs:J4 n h m s) {st st':List Int × List Bool} (hi:VI n st) (e:GO r h m s st=.next st'):VI n st':=by
 unfold GO at e
 split at e
 ·cases e; exact Z7 hs hi
 ·cases e
theorem Z8 {ρ:Type} {r:ρ} {h:A0} {m:Morphism} {s:B4} {st st':List Int × List Bool}:GO r h m s st≠.brk st':=by
 unfold GO
 split <;> simp
theorem OZ {ρ:Type} {r:ρ} {n:Int} {h:A0} {m:Morphism} {l:List B4} (hs:∀ s∈l,J4 n h m s) {st st':List Int × List Bool} (hi:VI n st) (e:HT (GO r h m) l st=.inl st'):VI n st':=
 V3 (GO r h m) (VI n) l st st' hi (fun a ha _ _ h1 h2=>PZ (hs a ha) h1 h2) (fun _ _ _ _=>Z8) e
theorem Qg {ρ:Type} {r:ρ} {n:Int} {h:A0} {m:Morphism} {s:B4} (hs:J4 n h m s) {st:List Int × List Bool} (hi:VI n st) {T:List Int × List Bool->Option (B9 (List Int × List Bool) ρ)}
  (h1:∀ st':List Int × List Bool,(st'.1.length:Int)=n->T st'=some (if E0 s.Term st'.1=MP h m s then .next st' else .ret r)) :
  ((if (decide (0<=s.Term.Var))=true then ((AH st.2 s.Term.Var).bind fun x51=>some (!x51)) else some false).bind fun x54=>
   if x54=true then (AH st.1 s.Term.Var).bind fun _=>(AH st.2 s.Term.Var).bind fun _=>T (CT st.1 s.Term.Var (AJ (MP h m s - s.Term.Add)),CT st.2 s.Term.Var true) else T (st.1,st.2))=some (GO r h m s st):=by
 have hl:=hs.term.high
 have l1:=hi.l1
 have l2:=hi.l2
 unfold GO
 by_cases h0:0<=s.Term.Var
 ·rw [if_pos (by simpa using h0),AF h0 (by omega),bs,bs]
  by_cases hk:AB st.2 s.Term.Var=false
  ·rw [if_pos (by simp [hk]),AF h0 (by omega),bs,bs,h1 _ (by dsimp only; rw [Oa]; exact l1)]
   have e:NQ h m s st=(CT st.1 s.Term.Var (AJ (MP h m s - s.Term.Add)),CT st.2 s.Term.Var true):=by unfold NQ; rw [if_pos ⟨h0,hk⟩]
   rw [e]
  ·rw [if_neg (by simpa using hk),h1 _ l1]
   have e:NQ h m s st=st:=by unfold NQ; rw [if_neg (fun e=>hk e.2)]
   rw [e]
 ·rw [if_neg (by simpa using h0),bs,if_neg (by decide),h1 _ l1]
  have e:NQ h m s st=st:=by unfold NQ; rw [if_neg (fun e=>h0 e.1)]
  rw [e]
theorem Wj {ρ:Type} {r:ρ} {n:Int} {h:A0} {m:Morphism} {s:B4} (hs:J4 n h m s) {st:List Int × List Bool} (hi:VI n st) {T:List Int × List Bool->Option (B9 (List Int × List Bool) ρ)}
  (h1:∀ st':List Int × List Bool,(st'.1.length:Int)=n->T st'=some (if E0 s.Term st'.1=MP h m s then .next st' else .ret r)) :
  ((if (decide (0<=s.Term.Var))=true then ((AH st.2 s.Term.Var).bind fun x51=>some (!x51)) else some false).bind fun x54=>
   if x54=true then (AH st.2 s.Term.Var).bind fun _=>(AH st.1 s.Term.Var).bind fun _=>T (CT st.1 s.Term.Var (AJ (MP h m s - s.Term.Add)),CT st.2 s.Term.Var true) else T (st.1,st.2))=some (GO r h m s st):=by
 rw [←Qg hs hi h1]
 have hl:=hs.term.high
 have l1:=hi.l1
 have l2:=hi.l2
 by_cases h0:0<=s.Term.Var
 ·rw [AF h0 (by omega),AF h0 (by omega)]; rfl
 ·rw [if_neg (by simpa using h0)]; rfl
theorem UQ {t:Term} {n v:Int} {f:Term->List Int->Option Int} (hf:∀ l:List Int,(l.length:Int)=n->f t l=some (E0 t l)) (st':List Int × List Bool) (hl:(st'.1.length:Int)=n):((f t st'.1).bind fun x69=>if (!decide (x69=v))=true then some (B9.ret (([],11):List Int × Int)) else some (.next st'))=some (if E0 t st'.1=v then .next st' else .ret ([],11)):=by
 rw [hf _ hl,bs]
 by_cases e:E0 t st'.1=v
 ·rw [if_neg (by simp [e]),if_pos e]
 ·rw [if_pos (by simp [e]),if_neg e]
theorem ez {q:Pattern} {h:A0} {m:Morphism} {t:Types} (hq:Qv t q) (hs:∀ s∈q.Slots,J4 q.Vars h m s):Ii q h m=some (I1 q h m):=by
 have hv:=hq.vars
 unfold Ii I1 Kf
 rw [if_pos (by omega),bs,if_pos (by omega),bs]
 rw [RG (GO (([],11):List Int × Int) h m) (VI q.Vars) (Pz hv.1)]
 ·cases hr:HT (GO (([],11):List Int × Int) h m) q.Slots (List.replicate q.Vars.toNat 0,List.replicate q.Vars.toNat false) with
  | inr r=>rfl
  | inl st=>
   have hi:=OZ hs (Pz hv.1) hr
   rw [C9,CD (fun i=>!Ke (AB q.Tests i) st.1) ([],16)]
   ·dsimp only
    cases anyR (fun i=>!Ke (AB q.Tests i) st.1) 0 q.Tests.length <;> rfl
   ·intro i i0 i1 _
    have hx:=hq.test _ (AN i0 i1)
    rw [AF i0 i1,bs,p_holds hx.2.1 hx.2.2 hi.small (by have:=hi.l1; omega),bs]
    cases Ke (AB q.Tests i) st.1 <;> rfl
 ·intro i st i0 i1 hi
  have ha:=hs _ (AN i0 i1)
  refine ⟨?_,fun s' e=>PZ ha hi e⟩
  rw [AF i0 i1,bs,AF ha.node.1 ha.node.2,bs,AF ha.val.1 ha.val.2,bs,AF ha.attr.1 ha.attr.2,bs]
  exact Qg ha hi (T:=fun st'=>(E9 (AB q.Slots i).Term st'.1).bind fun x69=>if (!decide (x69=MP h m (AB q.Slots i)))=true then some (B9.ret (([],11):List Int × Int)) else some (.next st')) (UQ fun l hl=>RN (by have:=ha.term.high; omega))
theorem fJ {q:Pattern} {h:A0} {m:Morphism} {t:Types} (hq:Qv t q) (hs:∀ s∈q.Slots,J4 q.Vars h m s):Ja q h m=some (I1 q h m):=by
 have hv:=hq.vars
 unfold Ja I1 Kf
 rw [if_pos (by omega),bs,if_pos (by omega),bs]
 rw [RG (GO (([],11):List Int × Int) h m) (VI q.Vars) (Pz hv.1)]
 ·cases hr:HT (GO (([],11):List Int × Int) h m) q.Slots (List.replicate q.Vars.toNat 0,List.replicate q.Vars.toNat false) with
  | inr r=>rfl
  | inl st=>
   have hi:=OZ hs (Pz hv.1) hr
   rw [C9,CD (fun i=>!Ke (AB q.Tests i) st.1) ([],16)]
   ·dsimp only
    cases anyR (fun i=>!Ke (AB q.Tests i) st.1) 0 q.Tests.length <;> rfl
   ·intro i i0 i1 _
    have hx:=hq.test _ (AN i0 i1)
    rw [AF i0 i1,bs,r_holds hx.2.1 hx.2.2 (by have:=hi.l1; omega),bs]
    cases Ke (AB q.Tests i) st.1 <;> rfl
 ·intro i st i0 i1 hi
  have ha:=hs _ (AN i0 i1)
  refine ⟨?_,fun s' e=>PZ ha hi e⟩
  rw [AF i0 i1,bs,AF ha.node.1 ha.node.2,bs,AF ha.val.1 ha.val.2,bs,AF ha.attr.1 ha.attr.2,bs]
  exact Wj ha hi (T:=fun st'=>(KS (AB q.Slots i).Term st'.1).bind fun x69=>if (!decide (x69=MP h m (AB q.Slots i)))=true then some (B9.ret (([],11):List Int × Int)) else some (.next st')) (UQ fun l hl=>Zy (by have:=ha.term.high; omega))
def Kg (t:Types) (p:Pattern) (h:A0):Int:=if Ic t p≠0 then Ic t p else (ND t h).2
theorem Zd {t:Types} (hf:BW t) (p:Pattern) (h:A0):E8 t p h=some (Kg t p h):=by
 unfold E8 Kg
 rw [Ui hf,bs]
 refine Ik fun _=>?_
 rw [Ze hf]; rfl
theorem Zt {t:Types} (hf:BW t) (p:Pattern) (h:A0):Ld t p h=some (Kg t p h):=by
 unfold Ld Kg
 rw [TD hf,bs]
 refine Ik fun _=>?_
 rw [ic hf]; rfl
def N5 (t:Types) (p:Pattern) (h:A0) (m:Morphism):List Int × Int:=
 if Kg t p h≠0 then ([],Kg t p h) else if LJ t p.Graph h.Graph m false≠0 then ([],LJ t p.Graph h.Graph m false) else I1 p h m
theorem R3 {t:Types} (hf:BW t) {p:Pattern} {h:A0} {m:Morphism} {inj:Bool} (h1:Kg t p h=0) (h2:LJ t p.Graph h.Graph m inj=0):(A7 t).2=0∧Qv t p∧L8 t h∧Ut t p.Graph h.Graph m:=by
 unfold Kg at h1
 split at h1
 ·rename_i h3; exact absurd h1 h3
 rename_i h3
 obtain ⟨hv,hh⟩:=XA hf h1
 exact ⟨hv,YJ hv (.inl (Classical.not_not.1 h3)),hh,(Y6 h2).2⟩
theorem ef {t:Types} (hf:BW t) (p:Pattern) (h:A0) (m:Morphism):E7 t p h m=some (N5 t p h m):=by
 unfold E7 N5
 rw [Zd hf,bs]
 refine OK fun h1=>?_
 rw [XM hf,bs]
 refine OK fun h2=>?_
 obtain ⟨hv,hq,hh,hm⟩:=R3 hf h1 h2
 rw [ez hq (fun s hs=>Pv (GR hv) hq hh hm hs)]; rfl
theorem Z9 {t:Types} {q:Pattern} {h:A0} {m:Morphism} (hq:Qv t q) (hs:∀ s∈q.Slots,J4 q.Vars h m s) (e:(I1 q h m).2=0):((I1 q h m).1.length:Int)=q.Vars∧OI (I1 q h m).1:=by
 unfold I1 at e ⊢
 cases hr:HT (GO (([],11):List Int × Int) h m) q.Slots (List.replicate q.Vars.toNat 0,List.replicate q.Vars.toNat false) with
 | inr r=>
  rw [hr] at e
  have:∀ (l:List B4) (st:List Int × List Bool) (r:List Int × Int),HT (GO (([],11):List Int × Int) h m) l st=.inr r->r=([],11):=by
   intro l
   induction l with
   | nil=>intro st r h; cases h
   | cons a l ih=>
    intro st r h
    rw [HT] at h
    split at h
    ·exact ih _ _ h
    ·cases h
    ·rename_i r' h'
     cases h
     unfold GO at h'
     split at h'
     ·cases h'
     ·cases h'; rfl
  rw [this _ _ _ hr] at e
  cases e
 | inl st=>
  rw [hr] at e
  have hi:=OZ hs (Pz hq.vars.1) hr
  dsimp only at e ⊢
  split at e
  ·cases e
  ·rename_i h1
   rw [if_neg h1]
   exact ⟨hi.l1,hi.small⟩
end Go.Sf.Sc
namespace Go.Sf.Sc
open Go Go.Sf
theorem Z6 {n:Nat} {α:Type} [Inhabited α] (F:Int->α) {i:Int} (h0:0<=i) (v:α):CT ((BS n).map F) i v=(BS n).map fun j=>if j=i then v else F j:=by
 unfold CT
 refine List.ext_getElem (by simp) (fun k k1 k2=>?_)
 have hk:k<n:=by simpa [DK] using k2
 rw [List.getElem_set]
 have e:(BS n)[k]'(by rw [DK]; exact hk)=(k:Int):=by simp [BS]
 simp only [List.getElem_map,e]
 by_cases h:i.toNat=k
 ·rw [if_pos h,if_pos (by omega)]
 ·rw [if_neg h,if_neg (by omega)]
theorem Yg {n:Nat} {α:Type} {F G:Int->α} (h:∀ j,0<=j->j<(n:Int)->F j=G j):(BS n).map F=(BS n).map G:=List.map_congr_left fun j hj=>h j (H0.1 hj).1 (H0.1 hj).2
def KA (n:Nat) (k:Int):List Bool:=(BS n).map fun j=>decide (j<k)
theorem X7 (n:Nat):KA n 0=List.replicate n false:=by
 unfold KA
 refine List.ext_getElem (by simp [DK]) (fun k k1 k2=>?_)
 have hk:k<n:=by simpa using k2
 have e:(BS n)[k]'(by rw [DK]; exact hk)=(k:Int):=by simp [BS]
 simp only [List.getElem_map,e,List.getElem_replicate,decide_eq_false_iff_not]
 omega
theorem UA (n:Nat) (k:Int):(KA n k).length=n:=by unfold KA; rw [List.length_map,DK]
def N6 (q:Pattern) (h:A0) (m:Morphism) (given:List Int):List Int × Bool:=
 match HT (GO (([],false):List Int × Bool) h m) q.Slots (given++List.replicate (q.Vars - given.length).toNat 0,KA q.Vars.toNat given.length) with
 | .inr r=>r
 | .inl st=>if anyR (fun i=>!Ke (AB q.Tests i) st.1) 0 q.Tests.length=true then ([],false) else (st.1,true)
theorem WI {n:Int} {given:List Int} (h0:0<=n) (hg:given.length<=n) (hv:OI given):VI n (given++List.replicate (n - given.length).toNat 0,KA n.toNat given.length):=by
 refine ⟨by simp; omega,by show ((KA n.toNat given.length).length:Int)=n; rw [UA]; omega,fun x hx=>?_⟩
 rcases List.mem_append.1 hx with hx | hx
 ·exact hv x hx
 ·rw [List.mem_replicate] at hx
  omega
theorem iT {s:AR} {q:Pattern} {m:Morphism} {t:Types} {given:List Int} (hq:Qv t q) (hs:∀ x∈q.Slots,J4 q.Vars s.h m x) (hg:given.length<=q.Vars) (hv:OI given):EN s q m given=some (N6 q s.h m given):=by
 have hn:=hq.vars
 unfold EN N6 slices_Clone_int
 rw [DX (by unfold BA; omega),bs,AW (by omega) (by omega)]
 have ea:R6 given (q.Vars - given.length) 0=some (given++List.replicate (q.Vars - given.length).toNat 0):=by
  unfold R6
  rw [if_pos ⟨by omega,by unfold BA; omega⟩]
 have em:Kf q.Vars false=some (List.replicate q.Vars.toNat false):=by
  unfold Kf
  rw [if_pos (by omega)]
 rw [ea,bs,em,bs]
 have ek:forA (fun (i0:Int) (s0:List Bool)=>(AH s0 i0).bind fun x39=>some (CT s0 i0 true)) 0 (given.length:Int) (List.replicate q.Vars.toNat false)=some (KA q.Vars.toNat given.length):=by
  refine IH (fun i=>KA q.Vars.toNat i) (by omega) (X7 _) (fun i i0 i1=>?_)
  rw [AF i0 (by rw [UA]; omega),bs]
  congr 1
  unfold KA
  rw [Z6 _ i0]
  refine Yg (fun j j0 j1=>?_)
  by_cases e:j=i
  ·rw [if_pos e,e]; simp; omega
  ·rw [if_neg e,decide_eq_decide]; omega
 rw [ek,bs]
 have hi0:=WI hn.1 hg hv
 rw [RG (GO (([],false):List Int × Bool) s.h m) (VI q.Vars) hi0]
 ·cases hr:HT (GO (([],false):List Int × Bool) s.h m) q.Slots (given++List.replicate (q.Vars - given.length).toNat 0,KA q.Vars.toNat given.length) with
  | inr r=>rfl
  | inl st=>
   have hi:=OZ hs hi0 hr
   rw [C9,CD (fun i=>!Ke (AB q.Tests i) st.1) ([],false)]
   ·dsimp only
    cases anyR (fun i=>!Ke (AB q.Tests i) st.1) 0 q.Tests.length <;> rfl
   ·intro i i0 i1 _
    have hx:=hq.test _ (AN i0 i1)
    rw [AF i0 i1,bs,p_holds hx.2.1 hx.2.2 hi.small (by have:=hi.l1; omega),bs]
    cases Ke (AB q.Tests i) st.1 <;> rfl
 ·intro i st i0 i1 hi
  have ha:=hs _ (AN i0 i1)
  refine ⟨?_,fun s' e=>PZ ha hi e⟩
  rw [AF i0 i1,bs,AF ha.node.1 ha.node.2,bs,AF ha.val.1 ha.val.2,bs,AF ha.attr.1 ha.attr.2,bs]
  refine Qg ha hi (T:=fun st'=>(G4 (AB q.Slots i).Term st'.1).bind fun x90=>if ((!decide (x90.2=0))||(!decide (x90.1=MP s.h m (AB q.Slots i))))=true then some (B9.ret (([],false):List Int × Bool)) else some (.next st')) (fun st' hl=>?_)
  rw [bN ha.term.low (by have:=ha.term.high; omega) (by omega),bs]
  by_cases e:E0 (AB q.Slots i).Term st'.1=MP s.h m (AB q.Slots i)
  ·rw [if_neg (by simp [e]),if_pos e]
  ·rw [if_pos (by simp [e]),if_neg e]
theorem cl {t:Types} {q:Pattern} {h:A0} {m:Morphism} {given:List Int} (hq:Qv t q) (hs:∀ s∈q.Slots,J4 q.Vars h m s) (hg:given.length<=q.Vars) (hv:OI given) (e:(N6 q h m given).2=true):((N6 q h m given).1.length:Int)=q.Vars∧OI (N6 q h m given).1:=by
 unfold N6 at e ⊢
 have hi0:=WI hq.vars.1 hg hv
 cases hr:HT (GO (([],false):List Int × Bool) h m) q.Slots (given++List.replicate (q.Vars - given.length).toNat 0,KA q.Vars.toNat given.length) with
 | inr r=>
  rw [hr] at e
  have:∀ (l:List B4) (st:List Int × List Bool) (r:List Int × Bool),HT (GO (([],false):List Int × Bool) h m) l st=.inr r->r=([],false):=by
   intro l
   induction l with
   | nil=>intro st r h; cases h
   | cons a l ih=>
    intro st r h
    rw [HT] at h
    split at h
    ·exact ih _ _ h
    ·cases h
    ·rename_i r' h'
     cases h
     unfold GO at h'
     split at h'
     ·cases h'
     ·cases h'; rfl
  rw [this _ _ _ hr] at e
  cases e
 | inl st=>
  rw [hr] at e
  have hi:=OZ hs hi0 hr
  dsimp only at e ⊢
  split at e
  ·cases e
  ·rename_i h1
   rw [if_neg h1]
   exact ⟨hi.l1,hi.small⟩
def KB (n:Nat) (by' images:List Int):List Int:=(BS by'.length).foldl (fun l i=>CT l (AB by' i) (AB images i)) (List.replicate n (-1))
theorem RF (by' images:List Int):∀ (ks:List Int) (l:List Int),(ks.foldl (fun l i=>CT l (AB by' i) (AB images i)) l).length=l.length
 | [],l=>rfl
 | k::ks,l=>by rw [List.foldl_cons,RF by' images ks,Oa]
theorem TA (n:Nat) (by' images:List Int):(KB n by' images).length=n:=by unfold KB; rw [RF]; simp
theorem Tx (by' images:List Int) {x:Int}:∀ (ks:List Int) (l:List Int),x∈ks.foldl (fun l i=>CT l (AB by' i) (AB images i)) l->x∈l∨∃ k∈ks,x=AB images k
 | [],l,h=>.inl h
 | k::ks,l,h=>by
  rw [List.foldl_cons] at h
  rcases Tx by' images ks _ h with h | ⟨j,hj,e⟩
  ·rcases V6 h with h | h
   ·exact .inl h
   ·exact .inr ⟨k,by simp,h⟩
  ·exact .inr ⟨j,by simp [hj],e⟩
theorem TB {n:Nat} {by' images:List Int} {x:Int} (h:x∈KB n by' images):x=-1∨∃ k:Int,(0<=k∧k<by'.length)∧x=AB images k:=by
 rcases Tx by' images _ _ h with h | ⟨k,hk,e⟩
 ·rw [List.mem_replicate] at h; exact .inl h.2
 ·exact .inr ⟨k,H0.1 hk,e⟩
theorem YI {n:Nat} {by' images:List Int} (hb:∀ x∈by',0<=x∧x<n) (hl:by'.length<=images.length):forA (fun (i0:Int) (s0:List Int)=>
  (AH by' i0).bind fun x18=>
  (AH images i0).bind fun x24=>
  (AH s0 x18).bind fun x26=>
  some (CT s0 x18 x24)) 0 (by'.length:Int) (List.replicate n (-1))=some (KB n by' images):=by
 have h:=IH (f:=fun (i0:Int) (s0:List Int)=>
  (AH by' i0).bind fun x18=>
  (AH images i0).bind fun x24=>
  (AH s0 x18).bind fun x26=>
  some (CT s0 x18 x24)) (fun i=>(BS i.toNat).foldl (fun l i=>CT l (AB by' i) (AB images i)) (List.replicate n (-1))) (a:=0) (b:=by'.length) (s:=List.replicate n (-1)) (by omega) rfl (fun i i0 i1=>by
   have hx:=hb _ (AN i0 i1)
   rw [AF i0 i1,bs,AF i0 (by omega),bs,AF hx.1 (by rw [RF]; simpa using hx.2),bs,LD i0,List.foldl_append]; rfl)
 rw [h,Int.toNat_natCast]; rfl
theorem Vp {n:Nat} {by' images:List Int} (hn:n<=1000) (hb:∀ x∈by',0<=x∧x<n) (hl:by'.length<=images.length):G7 n by' images=some (KB n by' images):=by
 unfold G7 H4
 rw [if_pos ⟨rfl,by omega,by omega⟩,bs]
 show (forA _ 0 _ (List.replicate (n:Int).toNat (-1))).bind _=_
 rw [Int.toNat_natCast,YI hb hl]; rfl
end Go.Sf.Sc
namespace Go.Sf.Sc
open Go Go.Sf
structure cr (f:AI):Prop where
 nl:f.nodes.length<=f.p.Nodes.length
 node:∀ i:Int,0<=i->i<f.nodes.length->(0<=AB f.nodes i∧AB f.nodes i<f.g.Nodes.length)∧AB (AB f.is (AB f.p.Nodes i)) (AB f.g.Nodes (AB f.nodes i))=true
 edge:∀ i:Int,0<=i->i<f.edges.length->(0<=AB f.edges i∧AB f.edges i<f.g.Edges.length)∧AB f.g.Edges (AB f.edges i)=⟨(AB f.p.Edges i).Type',AB f.nodes (AB f.p.Edges i).From,AB f.nodes (AB f.p.Edges i).To⟩
 inj:f.injective=true->f.nodes.Nodup∧f.edges.Nodup
structure Xs (f:AI) (m:Morphism):Prop where
 nl:m.Nodes.length=f.p.Nodes.length
 el:m.Edges.length=f.p.Edges.length
 node:∀ i:Int,0<=i->i<m.Nodes.length->(0<=AB m.Nodes i∧AB m.Nodes i<f.g.Nodes.length)∧AB (AB f.is (AB f.p.Nodes i)) (AB f.g.Nodes (AB m.Nodes i))=true
 edge:∀ i:Int,0<=i->i<m.Edges.length->(0<=AB m.Edges i∧AB m.Edges i<f.g.Edges.length)∧AB f.g.Edges (AB m.Edges i)=⟨(AB f.p.Edges i).Type',AB m.Nodes (AB f.p.Edges i).From,AB m.Nodes (AB f.p.Edges i).To⟩
 inj:f.injective=true->m.Nodes.Nodup∧m.Edges.Nodup
theorem TP {α:Type} [Inhabited α] (l:List α) (x:α) {i:Int} (h:i=l.length):AB (l++[x]) i=x:=by
 subst h
 rw [Tl,if_neg (by omega)]
 simp
theorem S4 {l:List Int} {k:Int} {b:Bool} (h:(!(b&&l.any fun x=>decide (k=x)))=true) (hb:b=true) (hl:l.Nodup):(l++[k]).Nodup:=by
 subst hb
 simp only [Bool.true_and,Bool.not_eq_true',List.any_eq_false,zzX] at h
 rw [List.nodup_append]
 refine ⟨hl,by simp,fun a ha b hb e=>?_⟩
 rw [List.mem_singleton] at hb
 exact h a ha (by rw [e,hb])
theorem Tj:∀ (n:Nat) (f:AI),cr f->f.nodes.length=f.p.Nodes.length->f.edges.length+n=f.p.Edges.length->∀ m∈EH n f,Xs f m
 | 0,f,hp,hn,he,m,hm=>by
  rw [EH,List.mem_singleton] at hm
  subst hm
  exact ⟨hn,by simpa using he,hp.node,hp.edge,hp.inj⟩
 | n+1,f,hp,hn,he,m,hm=>by
  rw [EH,List.mem_flatMap] at hm
  obtain ⟨k,hk,hm⟩:=hm
  have hk:=H0.1 hk
  split at hm
  ·rename_i hok
   unfold PO at hok
   rw [zzZ] at hok
   obtain ⟨ho1,ho2⟩:=hok
   rw [Qf,zzZ,zzX] at ho1
   have:=Tj n { f with edges:=f.edges++[k] } ⟨hp.nl,hp.node,fun i i0 i1=>by
    have i1:i<((f.edges++[k]).length:Int):=i1
    simp only [List.length_append,List.length_singleton] at i1
    show (0<=AB (f.edges++[k]) i∧AB (f.edges++[k]) i<f.g.Edges.length)∧AB f.g.Edges (AB (f.edges++[k]) i)=⟨(AB f.p.Edges i).Type',AB f.nodes (AB f.p.Edges i).From,AB f.nodes (AB f.p.Edges i).To⟩
    by_cases e:i=f.edges.length
    ·rw [TP _ _ e]; exact ⟨hk,by rw [e]; exact ho1.2⟩
    ·rw [Qw _ _ i0 (by omega)]; exact hp.edge i i0 (by omega),fun hi=>⟨(hp.inj hi).1,S4 ho2 hi (hp.inj hi).2⟩⟩ hn (by show (f.edges++[k]).length+n=f.p.Edges.length; rw [List.length_append,List.length_singleton]; omega) m hm
   exact ⟨this.nl,this.el,this.node,this.edge,this.inj⟩
  ·cases hm
theorem Tk:∀ (n:Nat) (f:AI),cr f->f.edges=[]->f.nodes.length+n=f.p.Nodes.length->∀ m∈GD n f,Xs f m
 | 0,f,hp,he,hn,m,hm=>by
  rw [GD] at hm
  exact Tj _ f hp (by omega) (by rw [he]; simp) m hm
 | n+1,f,hp,he,hn,m,hm=>by
  rw [GD,List.mem_flatMap] at hm
  obtain ⟨k,hk,hm⟩:=hm
  have hk:=H0.1 hk
  split at hm
  ·rename_i hok
   unfold PP at hok
   rw [zzZ,zzZ] at hok
   obtain ⟨⟨_,ho1⟩,ho2⟩:=hok
   have:=Tk n { f with nodes:=f.nodes++[k] } ⟨by show (f.nodes++[k]).length<=f.p.Nodes.length; rw [List.length_append,List.length_singleton]; omega,fun i i0 i1=>by
    have i1:i<((f.nodes++[k]).length:Int):=i1
    simp only [List.length_append,List.length_singleton] at i1
    show (0<=AB (f.nodes++[k]) i∧AB (f.nodes++[k]) i<f.g.Nodes.length)∧AB (AB f.is (AB f.p.Nodes i)) (AB f.g.Nodes (AB (f.nodes++[k]) i))=true
    by_cases e:i=f.nodes.length
    ·rw [TP _ _ e]
     exact ⟨hk,by rw [e]; exact ho1⟩
    ·rw [Qw _ _ i0 (by omega)]; exact hp.node i i0 (by omega),fun i i0 i1=>by
    have i1:i<(f.edges.length:Int):=i1
    rw [he] at i1
    have:i<(0:Nat):=i1
    omega,fun hi=>⟨S4 ho2 hi (hp.inj hi).1,(hp.inj hi).2⟩⟩ he (by show (f.nodes++[k]).length+n=f.p.Nodes.length; rw [List.length_append,List.length_singleton]; omega) m hm
   exact ⟨this.nl,this.el,this.node,this.edge,this.inj⟩
  ·cases hm
theorem Sr {t:Types} {p g:Graph} {pa:Morphism} {inj:Bool} {m:Morphism} (hm:m∈LQ t p g pa inj):Xs (FS ⟨t,p,g,pa,inj,5000,[]⟩ [] []) m:=
 Tk _ (FS ⟨t,p,g,pa,inj,5000,[]⟩ [] []) ⟨Nat.zero_le _,fun i i0 i1=>by have i1:i<(0:Nat):=i1; omega,fun i i0 i1=>by have i1:i<(0:Nat):=i1; omega,fun _=>⟨List.nodup_nil,List.nodup_nil⟩⟩ rfl (by show 0+p.Nodes.length=p.Nodes.length; omega) m (List.mem_of_mem_take hm)
theorem VN {t:Types} {p g:Graph} {pa:Morphism} {inj:Bool} (h:G0 t p g=0) {m:Morphism} (hm:m∈LQ t p g pa inj):Ut t p g m:=by
 obtain ⟨hv,gp,gg,tp,tg⟩:=QK h
 have:=Sr hm
 refine ⟨this.nl,this.el,fun i i0 i1=>?_,fun i i0 i1=>(this.edge i i0 i1).1⟩
 obtain ⟨h1,h2⟩:=this.node i i0 i1
 refine ⟨h1,?_⟩
 have hl:=this.nl
 have kp:=tp _ (AN (l:=p.Nodes) i0 (by show i<(p.Nodes.length:Int); have hl:m.Nodes.length=p.Nodes.length:=hl; omega))
 have kg:=tg _ (AN (l:=g.Nodes) h1.1 h1.2)
 have h2:AB (AB (Jy t) (AB p.Nodes i)) (AB g.Nodes (AB m.Nodes i))=true:=h2
 have e:AB (Jy t) (AB p.Nodes i)=Kb t (AB p.Nodes i):=by unfold Jy; exact L7 (Kb t) kp.1 kp.2
 rw [e] at h2
 have e2:AB (Kb t (AB p.Nodes i)) (AB g.Nodes (AB m.Nodes i))=It t (AB g.Nodes (AB m.Nodes i)) (AB p.Nodes i):=by unfold Kb; exact L7 (fun k=>It t k (AB p.Nodes i)) kg.1 kg.2
 rwa [e2] at h2
theorem ZP {t:Types} {p g:Graph} {pa:Morphism} {inj:Bool} (h:G0 t p g=0) {m:Morphism} (hm:m∈LQ t p g pa inj):LJ t p g m inj=0:=by
 have ok:=VN h hm
 have fu:=Sr hm
 have hs:PY t p g m=0:=by
  unfold PY
  rw [if_neg (by have:=ok.nlen; have:=ok.elen; omega)]
  have h1:fst (MG t p g m) 0 m.Nodes.length=none:=by
   rw [C1]
   intro i i0 i1
   obtain ⟨k1,k2⟩:=ok.node i i0 i1
   unfold MG
   rw [if_neg (by omega),if_neg (by rw [k2]; decide)]
  have h2:fst (Iu p g m) 0 m.Edges.length=none:=by
   rw [C1]
   intro i i0 i1
   obtain ⟨k1,k2⟩:=fu.edge i i0 i1
   have k1:0<=AB m.Edges i∧AB m.Edges i<g.Edges.length:=k1
   have k2:AB g.Edges (AB m.Edges i)=⟨(AB p.Edges i).Type',AB m.Nodes (AB p.Edges i).From,AB m.Nodes (AB p.Edges i).To⟩:=k2
   unfold Iu
   rw [if_neg (by omega),k2,if_neg (by simp),if_neg (by simp)]
  rw [h1,h2]; rfl
 unfold LJ
 rw [if_neg (by simp [h]),if_neg (by simp [hs])]
 cases inj
 ·rfl
 ·have:=fu.inj rfl
  unfold Ni
  rw [Mw.2 this.1,Mw.2 this.2]; rfl
theorem ZH {t:Types} {p g:Graph} {pa:Morphism} {inj:Bool} (h:(QF t p g pa inj).2=0):(QF t p g pa inj).1.length<=5000∧∀ m∈(QF t p g pa inj).1,Ut t p g m:=by
 unfold QF at h ⊢
 split at h
 ·rename_i h1; exact absurd h h1
 rename_i h1
 split at h
 ·cases h
 rename_i h2
 split at h
 ·rename_i h3; exact absurd h h3
 rename_i h3
 split at h
 ·rename_i h4; exact absurd h h4
 rename_i h4
 split at h
 ·cases h
 rename_i h5
 rw [if_neg h1,if_neg h2,if_neg h3,if_neg h4,if_neg h5]
 exact ⟨by dsimp only; omega,fun m hm=>VN (Classical.not_not.1 h1) hm⟩
structure Uq (t:Types) (p:Pattern) (h:A0) (x:AL):Prop where
 q:Qv t p
 m:Ut t p.Graph h.Graph x.Morphism
 len:(x.Vars.length:Int)=p.Vars
 small:OI x.Vars
structure Yq (t:Types) (p:Pattern) (c:AA):Prop where
 q:Qv t c.Pattern
 vars:p.Vars<=c.Pattern.Vars
 map:cq p.Graph c.Pattern.Graph c.Map
 inj:Ni c.Map=true
def FL (t:Types) (c:AA) (h:A0) (m:AL) (inj:Bool):List AL × Int:=
 let x:=QF t c.Pattern.Graph h.Graph ⟨KB c.Pattern.Graph.Nodes.length c.Map.Nodes m.Morphism.Nodes,KB c.Pattern.Graph.Edges.length c.Map.Edges m.Morphism.Edges⟩ inj
 if x.2≠0 then ([],x.2) else ((x.1.filter fun y=>(N6 c.Pattern h y m.Vars).2).map fun y=>⟨y,(N6 c.Pattern h y m.Vars).1⟩,0)
instance:Inhabited Morphism:=⟨⟨[],[]⟩⟩
instance:Inhabited AL:=⟨⟨default,[]⟩⟩
instance:Inhabited A4:=⟨⟨0,default,[]⟩⟩
theorem Rw {x:List Morphism} {F:Morphism->List Int × Bool} {f:Int->List AL->Option (List AL)} (hx:x.length<=5000)
  (hf:∀ (i:Int) (s:List AL),0<=i->i<x.length->s.length<=5000->f i s=some (if (F (AB x i)).2=true then s++[⟨AB x i,(F (AB x i)).1⟩] else s)) :
  forA f 0 (x.length:Int) []=some ((x.filter fun y=>(F y).2).map fun y=>⟨y,(F y).1⟩):=by
 rw [IH (a:=0) (b:=x.length) (s:=[]) (fun i=>((x.take i.toNat).filter fun y=>(F y).2).map fun y=>(⟨y,(F y).1⟩:AL)) (by omega) rfl,Int.toNat_natCast,List.take_length]
 intro i i0 i1
 have hl:(((x.take i.toNat).filter fun y=>(F y).2).map fun y=>(⟨y,(F y).1⟩:AL)).length<=5000:=by
  rw [List.length_map]
  have:=List.length_filter_le (fun y=>(F y).2) (x.take i.toNat)
  have:=List.length_take_le i.toNat x
  have:(x.take i.toNat).length<=x.length:=by rw [List.length_take]; omega
  omega
 rw [hf i _ i0 i1 hl,HY i0 i1,List.filter_append,List.map_append]
 cases hc:(F (AB x i)).2 <;> simp [hc]
theorem iL {s:AR} {p:Pattern} {c:AA} {m:AL} (hf:BW s.t) (hv:(A7 s.t).2=0) (hh:L8 s.t s.h) (ha:Uq s.t p s.h m) (hi:Yq s.t p c):BY s c m=some (FL s.t c s.h m s.injective):=by
 have gn:=hi.q.g.nodes
 have ge:=hi.q.g.edges
 have m1:=hi.map.nlen
 have m2:=hi.map.elen
 have m3:=ha.m.nlen
 have m4:=ha.m.elen
 unfold BY FL
 rw [Vp (by omega) (fun x hx=>by obtain ⟨i,i0,i1,rfl⟩:=E3 hx; exact (hi.map.node i i0 i1).1) (by omega),bs,
  Vp (by omega) (fun x hx=>by obtain ⟨i,i0,i1,rfl⟩:=E3 hx; exact (hi.map.edge i i0 i1).1) (by omega),bs,bQ hf,bs]
 dsimp only
 refine OK fun h0=>?_
 obtain ⟨e1,e2⟩:=ZH h0
 rw [Rw (F:=fun y=>N6 c.Pattern s.h y m.Vars) e1]
 ·rfl
 ·intro i st i0 i1 hl
  have hm:=e2 _ (AN i0 i1)
  have hg:(m.Vars.length:Int)<=c.Pattern.Vars:=by have:=ha.len; have:=hi.vars; omega
  rw [AF i0 i1,bs,iT hi.q (fun x hx=>Pv (GR hv) hi.q hh hm hx) hg ha.small,bs,←KZ]
  split
  ·rw [BE (by simp; unfold BA; omega)]; rfl
  ·rfl
theorem Wy {t:Types} {h:A0} {inj:Bool} {p:Pattern} {c:AA} {m:AL} (hv:(A7 t).2=0) (hh:L8 t h) (ha:Uq t p h m) (hi:Yq t p c) (e:(FL t c h m inj).2=0):(FL t c h m inj).1.length<=5000∧∀ x∈(FL t c h m inj).1,Uq t c.Pattern h x:=by
 unfold FL at e ⊢
 dsimp only at e ⊢
 split at e
 ·rename_i h1; exact absurd e h1
 rename_i h1
 rw [if_neg h1]
 obtain ⟨e1,e2⟩:=ZH (Classical.not_not.1 h1)
 refine ⟨by dsimp only; rw [List.length_map]; exact Nat.le_trans (List.length_filter_le _ _) e1,fun x hx=>?_⟩
 dsimp only at hx
 rw [List.mem_map] at hx
 obtain ⟨y,hy,rfl⟩:=hx
 rw [List.mem_filter] at hy
 have hm:=e2 y hy.1
 have hg:(m.Vars.length:Int)<=c.Pattern.Vars:=by have:=ha.len; have:=hi.vars; omega
 have:=cl hi.q (fun x hx=>Pv (GR hv) hi.q hh hm hx) hg ha.small hy.2
 exact ⟨hi.q,hm,this.1,this.2⟩
end Go.Sf.Sc
