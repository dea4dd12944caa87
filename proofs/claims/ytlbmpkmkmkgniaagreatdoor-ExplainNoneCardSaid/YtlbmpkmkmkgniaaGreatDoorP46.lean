/- Plain lemmas: what the functions of the program and of the reference compute. -/
import Derived.Test.YtlbmpkmkmkgniaaGreatDoorP25
set_option maxRecDepth 100000
namespace Go.Sf.Sc
open Go Go.Sf
theorem OP {all:List Attr} {k:Int} (h:Kl all k=0) (hn:(AB all k).Names.length<=1000):-1000000<=(AB all k).Low∧(AB all k).High<=1000000:=by
 unfold Kl at h
 dsimp only at h
 split at h
 ·cases h
 split at h
 ·cases h
 split at h
 ·split at h
  ·rename_i hc; exact ⟨hc.1,hc.2.2⟩
  ·cases h
 split at h
 ·rename_i hc; exact absurd h hc
 split at h
 ·rename_i hc; omega
 ·cases h
theorem VT {t:AD} {i:Int} (h:IC t i=0):∀ k,((BQ t i).length:Int) - (AB t.Nodes i).Attrs.length<=k->k<(BQ t i).length->Kl (BQ t i) k=0:=by
 unfold IC at h
 dsimp only at h
 split at h
 ·cases h
 split at h
 ·cases h
 split at h
 ·cases h
 split at h
 ·cases h
 exact Ra h
theorem Mi {t:AD} {n:Nat} {a:Int} (h0:0<=a):CR t (n+1) a=CR t n (par t a)++(AB t.Nodes a).Attrs:=by
 rw [CR,if_neg (by omega)]
theorem Qu {t:AD} (hf:CA t) (h:IF t) {Q:Attr->Prop} (OP:∀ {all:List Attr} {k:Int},Kl all k=0->(AB all k).Names.length<=1000->Q (AB all k)):∀ (n:Nat) (a:Int),a<t.Nodes.length->a<n->∀ x∈CR t n a,Q x
 | 0,_,_,_=>by simp [CR]
 | n+1,a,ha,hn=>by
  by_cases h0:a<0
  ·rw [IK h0]; simp
  ·have hp:=h.par a (by omega) ha
   intro x hx
   rw [Mi (by omega)] at hx
   rcases List.mem_append.1 hx with hx | hx
   ·exact Qu hf h OP n (par t a) (by omega) (by omega) x hx
   ·obtain ⟨j,j0,j1,rfl⟩:=EX hx
    have e:BQ t a=CR t a.toNat (par t a)++(AB t.Nodes a).Attrs:=by
     unfold BQ
     rw [show (a+1).toNat=a.toNat+1 by omega,Mi (by omega)]
    have hl:(BQ t a).length=(CR t a.toNat (par t a)).length+(AB t.Nodes a).Attrs.length:=by rw [e,List.length_append]
    have h1:=VT (h.node a (by omega) ha) ((CR t a.toNat (par t a)).length+j) (by omega) (by omega)
    have e2:AB (BQ t a) ((CR t a.toNat (par t a)).length+j)=AB (AB t.Nodes a).Attrs j:=by
     rw [e,Sg,if_neg (by omega)]
     unfold AB
     congr 1
     omega
    have hm:=LF hf (Int.le_refl _) h.par ha (AB (BQ t a) ((CR t a.toNat (par t a)).length+j)) (AV (by omega) (by omega))
    have:=OP h1 (by have:=hm.names; omega)
    rwa [e2] at this
theorem WX {t:AD} (hf:CA t) (h:IF t) {a:Int} (h0:0<=a) (ha:a<t.Nodes.length):∀ x∈BQ t a,-1000000<=x.Low∧x.High<=1000000:=Qu hf h OP _ a ha (by omega)
theorem TS {t:AD} {k:Int} (hp:GG t k):∀ (n:Nat) (a b:Int),a<k->a<n->b∈Nw t n a->0<=b∧b<=a∧(BQ t b).length<=(CR t n a).length
 | 0,_,_,_,_=>by simp [Nw]
 | n+1,a,b,ha,hn=>by
  intro hb
  rw [Nw] at hb
  split at hb
  ·cases hb
  ·rename_i h0
   have hq:=hp a (by omega) ha
   rw [Mi (by omega)]
   rcases List.mem_cons.1 hb with rfl | hb
   ·refine ⟨by omega,by omega,?_⟩
    unfold BQ
    rw [K1 hp (b+1).toNat (n+1) b ha (by omega) (by omega),Mi (by omega)]
    exact Nat.le_refl _
   ·have:=TS hp n (par t a) b (by omega) (by omega) hb
    refine ⟨this.1,by omega,?_⟩
    rw [List.length_append]; omega
theorem Xu {t:AD} (h:IF t) {a b:Int} (ha:a<t.Nodes.length) (hb:Jz t a b=true):(BQ t b).length<=(BQ t a).length:=by
 unfold Jz at hb
 rw [List.any_eq_true] at hb
 obtain ⟨x,hx,e⟩:=hb
 rw [zzX] at e
 subst e
 by_cases h0:a<0
 ·have:(a+1).toNat=0:=by omega
  rw [this] at hx; cases hx
 ·exact (TS h.par (a+1).toNat a b ha (by omega) hx).2.2
theorem d8 {α:Type} {a b:Int} {Q:Prop} [Decidable Q] {v:α} {X:Option α} {Y:α} (he:a=b↔Q) (h:Q->X=some Y):(if (!decide (a=b))=true then some v else X)=some (if ¬ Q then v else Y):=by
 by_cases hq:Q
 ·rw [if_neg (by simp [he.2 hq]),if_neg (by simpa using hq),h hq]
 ·rw [if_pos (by simp; exact fun e=>hq (he.1 e)),if_pos hq]
def SR (t:AD) (k:Int) (v:List Int) (j:Int):Bool:=decide (AB v j<(AB (BQ t k) j).Low)||decide ((AB (BQ t k) j).High<AB v j)
def KV (t:AD) (k:Int) (v:List Int):Int:=
 if (t.Nodes.length:Int)<=k then 6 else if (AB t.Nodes k).Abstract=true then 13 else if ¬ v.length=(BQ t k).length then 20 else
 if anyR (SR t k v) 0 (BQ t k).length=true then 6 else 0
def KU (t:AD) (g:Graph) (i:Int):Int:=
 if (t.Edges.length:Int)<=(AB g.Edges i).Type' then 6 else if T7 t g i=false then 13 else 0
def Mn (t:AD) (h:A2):Int × Int:=
 if (BJ t).2≠0 then (-1,(BJ t).2) else if C4 h.Graph≠0 then (-1,C4 h.Graph) else if ¬ h.Values.length=h.Graph.Nodes.length then (-1,20) else
 match fst (fun i=>(nz (KV t (AB h.Graph.Nodes i) (AB h.Values i))).map fun e=>(i,e)) 0 h.Graph.Nodes.length with
 | some r=>r
 | none=>(fst (fun i=>(nz (KU t h.Graph i)).map fun e=>(i,e)) 0 h.Graph.Edges.length).getD (-1,0)
theorem Sh {t:AD} (hv:(BJ t).2=0) {k:Int} (h0:0<=k) (h1:k<t.Nodes.length):IL t k=(BQ t k,0):=by
 unfold IL
 rw [if_neg (by simp [hv]),if_pos (Mv.2 ⟨h0,h1⟩)]
theorem cI {x:Bool} {y:Bool}:(if x=true then some true else some y)=some (x||y):=by cases x <;> rfl
theorem cP {t:AD} (hf:CA t) (hv:(BJ t).2=0) {k:Int} (h0:0<=k) (v:List Int):I8 t k v=some (KV t k v):=by
 unfold I8 KV
 by_cases h1:(t.Nodes.length:Int)<=k
 ·rw [if_pos (by simpa using h1),if_pos h1]
 rw [if_neg (by simpa using h1),if_neg h1,AM h0 (by omega),bs]
 refine pW fun _=>?_
 rw [Vz hf,Sh hv h0 (by omega),bs]
 refine d8 (by simp only []; omega) fun hl=>?_
 rw [C7 (SR t k v) 6]
 ·cases anyR (SR t k v) 0 (BQ t k).length <;> rfl
 ·intro j j0 j1 _
  have j1:j<(BQ t k).length:=j1
  rw [AM j0 j1,bs,AM j0 (by omega)]
  simp only [bs,cI]
  unfold SR
  cases decide (AB v j<(AB (BQ t k) j).Low) <;> cases decide ((AB (BQ t k) j).High<AB v j) <;> rfl
theorem ZZ (e i:Int):(if (!decide (e=0))=true then some (CY.ret (σ:=Unit) (ρ:=Int × Int) (i,e)) else some (.next ()))=some (Nz ((nz e).map fun e=>(i,e))):=by
 unfold nz
 by_cases h:e=0 <;> simp [h,Nz]
theorem X8 {t:AD} (hf:CA t) (h:A2):G6 t h=some (Mn t h):=by
 unfold G6 Mn
 rw [P2 hf,bs]
 refine OS fun hv=>?_
 rw [My,bs]
 refine OS fun hg=>?_
 have go:=F8 hg
 refine d8 (by omega) fun hl=>?_
 rw [DO (fun i=>(nz (KV t (AB h.Graph.Nodes i) (AB h.Values i))).map fun e=>(i,e)),Hp]
 ·cases hn:fst (fun i=>(nz (KV t (AB h.Graph.Nodes i) (AB h.Values i))).map fun e=>(i,e)) 0 h.Graph.Nodes.length with
  | some r=>rfl
  | none=>
   have hn2:=DF.1 hn
   dsimp only
   rw [DO (fun i=>(nz (KU t h.Graph i)).map fun e=>(i,e)),Hp]
   ·cases fst (fun i=>(nz (KU t h.Graph i)).map fun e=>(i,e)) 0 h.Graph.Edges.length <;> rfl
   ·intro i i0 i1 _
    have hfi:=go.fit _ (AV (l:=h.Graph.Edges) i0 i1)
    rw [AM i0 i1,bs]
    unfold KU T7
    by_cases h1:(t.Edges.length:Int)<=(AB h.Graph.Edges i).Type'
    ·rw [if_pos (by simpa using h1),if_pos h1]; rfl
    ·rw [if_neg (by simpa using h1),if_neg h1,AM (by omega) (by omega),bs,AM (by omega) (by omega),bs,eb hf,bs]
     cases Tf t (AB h.Graph.Edges i).Type' (AB h.Graph.Nodes (AB h.Graph.Edges i).From) (AB h.Graph.Nodes (AB h.Graph.Edges i).To) <;> rfl
 ·intro i i0 i1 _
  rw [AM i0 i1,bs,AM i0 (by omega),bs,cP hf hv (go.kind _ (AV i0 i1)).1,bs]
  exact ZZ _ i
structure H1 (t:AD) (h:A2):Prop where
 g:Jc h.Graph
 len:h.Values.length=h.Graph.Nodes.length
 kind:∀ i:Int,0<=i->i<h.Graph.Nodes.length->0<=AB h.Graph.Nodes i∧AB h.Graph.Nodes i<t.Nodes.length
 row:∀ i:Int,0<=i->i<h.Graph.Nodes.length->(AB h.Values i).length=(BQ t (AB h.Graph.Nodes i)).length
 low:∀ i:Int,0<=i->i<h.Graph.Nodes.length->∀ x∈AB h.Values i,-1000000<=x∧x<=1000000
 ge:C4 h.Graph=0
 ty:FR t h.Graph=true
theorem Vs {t:AD} (hf:CA t) {h:A2} (e:(Mn t h).2=0):(BJ t).2=0∧H1 t h:=by
 unfold Mn at e
 split at e
 ·rename_i h1; exact absurd e h1
 split at e
 ·rename_i h1; exact absurd e h1
 split at e
 ·cases e
 rename_i h1 h2 h3
 have hv:=Classical.not_not.1 h1
 have go:=F8 (Classical.not_not.1 h2)
 have hn:∀ i:Int,0<=i->i<h.Graph.Nodes.length->KV t (AB h.Graph.Nodes i) (AB h.Values i)=0:=by
  split at e
  ·rename_i r hr
   obtain ⟨i,_,_,k,_⟩:=DP hr
   unfold nz at k
   split at k
   ·cases k
   ·rename_i hne; cases k; exact absurd e hne
  ·rename_i hr
   exact fun i i0 i1=>Mx.1 (Lz.1 (DF.1 hr i i0 i1))
 have hk:∀ i:Int,0<=i->i<h.Graph.Nodes.length->(0<=AB h.Graph.Nodes i∧AB h.Graph.Nodes i<t.Nodes.length)∧(AB h.Values i).length=(BQ t (AB h.Graph.Nodes i)).length∧∀ j:Int,0<=j->j<(BQ t (AB h.Graph.Nodes i)).length->SR t (AB h.Graph.Nodes i) (AB h.Values i) j=false:=by
  intro i i0 i1
  have k0:=(go.kind _ (AV i0 i1)).1
  have:=hn i i0 i1
  unfold KV at this
  split at this
  ·cases this
  split at this
  ·cases this
  split at this
  ·cases this
  split at this
  ·cases this
  rename_i a1 a2 a3 a4
  exact ⟨⟨k0,by omega⟩,Classical.not_not.1 a3,EJ.1 (by simpa using a4)⟩
 have he:∀ i:Int,0<=i->i<h.Graph.Edges.length->KU t h.Graph i=0:=by
  have hn':fst (fun i=>(nz (KV t (AB h.Graph.Nodes i) (AB h.Values i))).map fun e=>(i,e)) 0 h.Graph.Nodes.length=none:=DF.2 fun i i0 i1=>by rw [hn i i0 i1]; rfl
  rw [hn'] at e
  dsimp only at e
  cases hr:fst (fun i=>(nz (KU t h.Graph i)).map fun e=>(i,e)) 0 h.Graph.Edges.length with
  | some r=>
   rw [hr] at e
   obtain ⟨i,_,_,k,_⟩:=DP hr
   unfold nz at k
   split at k
   ·cases k
   ·rename_i hne; cases k; exact absurd e hne
  | none=>exact fun i i0 i1=>Mx.1 (Lz.1 (DF.1 hr i i0 i1))
 have hty:FR t h.Graph=true:=by
  unfold FR
  rw [zzZ,Bool.not_eq_true',Bool.not_eq_true',List.any_eq_false,List.any_eq_false]
  refine ⟨fun n hn=>?_,fun x hx=>?_⟩
  ·obtain ⟨i,i0,i1,rfl⟩:=EX hn
   have:=(hk i i0 i1).1.2
   simp; omega
  ·obtain ⟨i,i0,i1,rfl⟩:=EX hx
   have:=he i i0 i1
   unfold KU at this
   split at this
   ·cases this
   ·simp; omega
 suffices hlow:∀ i:Int,0<=i->i<h.Graph.Nodes.length->∀ x∈AB h.Values i,-1000000<=x∧x<=1000000 from ⟨hv,go,Classical.not_not.1 h3,fun i i0 i1=>(hk i i0 i1).1,fun i i0 i1=>(hk i i0 i1).2.1,hlow,Classical.not_not.1 h2,hty⟩
 intro i i0 i1 x hx
 obtain ⟨k1,k2,k3⟩:=hk i i0 i1
 obtain ⟨j,j0,j1,rfl⟩:=EX hx
 have:=k3 j j0 (by omega)
 unfold SR at this
 simp only [Bool.or_eq_false_iff,decide_eq_false_iff_not] at this
 have:=WX hf (II hv) k1.1 k1.2 _ (AV (l:=BQ t (AB h.Graph.Nodes i)) j0 (by omega))
 omega
end Go.Sf.Sc
namespace Go.Sf.Sc
open Go Go.Sf
def LI (t:AD) (p g:Graph) (m:Morphism) (i:Int):Option Int:=
 if AB m.Nodes i<0∨g.Nodes.length<=AB m.Nodes i then some 6 else if Jz t (AB g.Nodes (AB m.Nodes i)) (AB p.Nodes i)=false then some 13 else none
def Nu (t:AD) (p g:Graph) (m:Morphism):Int:=
 if m.Nodes.length≠p.Nodes.length∨m.Edges.length≠p.Edges.length then 20 else
 match fst (LI t p g m) 0 m.Nodes.length with
 | some e=>e
 | none=>(fst (IS p g m) 0 m.Edges.length).getD 0
def MX (t:AD) (p g:Graph) (m:Morphism) (inj:Bool):Int:=
 if GX t p g≠0 then GX t p g else if Nu t p g m≠0 then Nu t p g m else if (inj&&!NE m)=true then 5 else 0
structure Tn (t:AD) (p g:Graph) (m:Morphism):Prop where
 nlen:m.Nodes.length=p.Nodes.length
 elen:m.Edges.length=p.Edges.length
 node:∀ i:Int,0<=i->i<m.Nodes.length->(0<=AB m.Nodes i∧AB m.Nodes i<g.Nodes.length)∧Jz t (AB g.Nodes (AB m.Nodes i)) (AB p.Nodes i)=true
 edge:∀ i:Int,0<=i->i<m.Edges.length->0<=AB m.Edges i∧AB m.Edges i<g.Edges.length
theorem Qc {t:AD} {p g:Graph} (h:GX t p g=0):(BJ t).2=0∧Jc p∧Jc g∧(∀ n∈p.Nodes,0<=n∧n<t.Nodes.length)∧∀ n∈g.Nodes,0<=n∧n<t.Nodes.length:=by
 unfold GX at h
 split at h
 ·rename_i h1; exact absurd h h1
 split at h
 ·rename_i h1; exact absurd h h1
 split at h
 ·rename_i h1; exact absurd h h1
 split at h
 ·rename_i h1 h2 h3 h4
  rw [zzZ] at h4
  have gp:=F8 (Classical.not_not.1 h2)
  have gg:=F8 (Classical.not_not.1 h3)
  exact ⟨Classical.not_not.1 h1,gp,gg,(L7 gp h4.1).1,(L7 gg h4.2).1⟩
 ·cases h
theorem V7 {t:AD} {p g:Graph} {m:Morphism} (h:Nu t p g m=0):Tn t p g m:=by
 unfold Nu at h
 split at h
 ·cases h
 rename_i h3
 have hn:fst (LI t p g m) 0 m.Nodes.length=none:=by
  split at h
  ·rename_i r hr
   obtain ⟨i,_,_,k,_⟩:=DP hr
   subst h
   unfold LI at k
   split at k
   ·cases k
   ·split at k <;> cases k
  ·assumption
 rw [hn] at h
 have he:=S2 (fun i=>by
  unfold IS
  split
  ·simp
  ·split
   ·simp
   ·split <;> simp) h
 refine ⟨by omega,by omega,fun i i1 i2=>?_,fun i i1 i2=>?_⟩
 ·have:=DF.1 hn i i1 i2
  unfold LI at this
  split at this
  ·cases this
  ·split at this
   ·cases this
   ·rename_i x y
    exact ⟨by omega,by simpa using y⟩
 ·have:=he i i1 i2
  unfold IS at this
  split at this
  ·cases this
  ·omega
theorem YD {t:AD} (hf:CA t) {p g:Graph} (hg:GX t p g=0) (m:Morphism):HQ t p g m=some (Nu t p g m):=by
 obtain ⟨hv,gp,gg,tp,tg⟩:=Qc hg
 unfold HQ Nu
 refine O2 (by simp; try omega) fun hl=>?_
 rw [aj hf (II hv) hv,bs,DO (LI t p g m),Hp]
 ·cases hn:fst (LI t p g m) 0 m.Nodes.length with
  | some e=>rfl
  | none=>
   dsimp only
   rw [DO (IS p g m),GQ]
   intro i i1 i2 _
   unfold IS
   rw [AM i1 i2,bs]
   by_cases h1:AB m.Edges i<0∨g.Edges.length<=AB m.Edges i
   ·rw [if_pos (by simpa using h1),if_pos h1]; rfl
   ·have hf:=gp.fit _ (AV (l:=p.Edges) i1 (by omega))
    rw [if_neg (by simpa using h1),if_neg h1,AM i1 (by omega),bs,AM (by omega) (by omega),bs]
    by_cases h2:(AB p.Edges i).Type'=(AB g.Edges (AB m.Edges i)).Type'
    ·rw [if_neg (by simpa using h2),if_neg (by simpa using h2),AM (by omega) (by omega),bs]
     by_cases h3:AB m.Nodes (AB p.Edges i).From=(AB g.Edges (AB m.Edges i)).From
     ·rw [if_neg (by simpa using h3),AM (by omega) (by omega),bs,bs]
      by_cases h4:AB m.Nodes (AB p.Edges i).To=(AB g.Edges (AB m.Edges i)).To
      ·rw [if_neg (by simpa using h4),if_neg (by simp [h3,h4])]; rfl
      ·rw [if_pos (by simpa using h4),if_pos (.inr h4)]; rfl
     ·rw [if_pos (by simpa using h3),bs,if_pos rfl,if_pos (.inl h3)]; rfl
    ·rw [if_pos (by simpa using h2),if_pos h2]; rfl
 ·intro i i1 i2 _
  unfold LI
  rw [AM i1 i2,bs]
  by_cases h1:AB m.Nodes i<0∨g.Nodes.length<=AB m.Nodes i
  ·rw [if_pos (by simpa using h1),if_pos h1]; rfl
  ·have kp:=tp _ (AV (l:=p.Nodes) i1 (by omega))
   have kg:=tg _ (AV (l:=g.Nodes) (show 0<=AB m.Nodes i by omega) (by omega))
   rw [if_neg (by simpa using h1),if_neg h1,AM i1 (by omega),bs,AM kp.1 (by unfold Ld; rw [List.length_map,D0]; exact kp.2),bs,AM (by omega) (by omega),bs]
   have e:AB (Ld t) (AB p.Nodes i)=La t (AB p.Nodes i):=by unfold Ld; exact M1 (La t) kp.1 kp.2
   rw [e,AM kg.1 (by unfold La; rw [List.length_map,D0]; exact kg.2),bs]
   have e2:AB (La t (AB p.Nodes i)) (AB g.Nodes (AB m.Nodes i))=Jz t (AB g.Nodes (AB m.Nodes i)) (AB p.Nodes i):=by unfold La; exact M1 (fun k=>Jz t k (AB p.Nodes i)) kg.1 kg.2
   rw [e2]
   cases Jz t (AB g.Nodes (AB m.Nodes i)) (AB p.Nodes i) <;> rfl
theorem V2 {l:List Int} (hl:l.length<=1000):H9 l=some (!Lv l):=by
 unfold H9
 rw [if_pos (by omega)]
 congr 1
 have h1:=QT l
 have h2:=OT (l:=l)
 cases hd:dupB l with
 | false=>rw [h2.2 (h1.1 hd)]; rfl
 | true=>
  cases he:Lv l with
  | false=>rfl
  | true=>rw [h1.2 (h2.1 he)] at hd; cases hd
theorem V1 {t:AD} (hf:CA t) (p g:Graph) (m:Morphism) (inj:Bool):GM t p g m inj=some (MX t p g m inj):=by
 unfold GM MX
 rw [V3 hf,bs]
 refine Io fun hg=>?_
 rw [YD hf hg,bs]
 refine Io fun hs=>?_
 obtain ⟨_,gp,gg,_⟩:=Qc hg
 have mo:=V7 hs
 have:=gp.nodes; have:=gp.edges; have:=mo.nlen; have:=mo.elen
 rw [V2 (by omega),V2 (by omega)]
 unfold NE
 cases inj <;> cases Lv m.Nodes <;> cases Lv m.Edges <;> rfl
theorem Xm {t:AD} {p g:Graph} {m:Morphism} {inj:Bool} (h:MX t p g m inj=0):GX t p g=0∧Tn t p g m:=by
 unfold MX at h
 split at h
 ·rename_i h1; exact absurd h h1
 split at h
 ·rename_i h1; exact absurd h h1
 rename_i h1 h2
 exact ⟨Classical.not_not.1 h1,V7 (Classical.not_not.1 h2)⟩
end Go.Sf.Sc
namespace Go.Sf.Sc
open Go Go.Sf
section
variable {α σ ρ:Type}
def GU (step:α->σ->CY σ ρ):List α->σ->σ ⊕ ρ
 | [],s=>.inl s
 | a::r,s=>match step a s with
  | .next s'=>GU step r s'
  | .brk s'=>.inl s'
  | .ret r=>.inr r
theorem PX [Inhabited α] {l:List α} {f:Int->σ->Option (CY σ ρ)} (step:α->σ->CY σ ρ) (I:σ->Prop) (h:∀ (i:Int) s,0<=i->i<l.length->I s->f i s=some (step (AB l i) s)∧∀ s',step (AB l i) s=.next s'->I s') :
  ∀ (n:Nat) (a:Int) (s:σ),0<=a->a+n=l.length->I s->forGo f n a s=some (GU step (l.drop a.toNat) s)
 | 0,a,s,h0,h1,_=>by
  rw [List.drop_eq_nil_of_le (by omega)]; rfl
 | n+1,a,s,h0,h1,hs=>by
  obtain ⟨h2,h3⟩:=h a s h0 (by omega) hs
  have hd:l.drop a.toNat=AB l a::l.drop (a+1).toNat:=by
   rw [show (a+1).toNat=a.toNat+1 by omega,List.drop_eq_getElem_cons (by omega)]
   congr 1
   unfold AB
   rw [List.getD_eq_getElem?_getD,List.getElem?_eq_getElem (by omega)]; rfl
  rw [G5,h2,hd,GU]
  cases hc:step (AB l a) s with
  | next s'=>
   simp only
   exact PX step I h n (a+1) s' (by omega) (by omega) (h3 s' hc)
  | brk s'=>rfl
  | ret r=>rfl
theorem PW [Inhabited α] {l:List α} {f:Int->σ->Option (CY σ ρ)} (step:α->σ->CY σ ρ) (I:σ->Prop) {s:σ} (hs:I s) (h:∀ (i:Int) s,0<=i->i<l.length->I s->f i s=some (step (AB l i) s)∧∀ s',step (AB l i) s=.next s'->I s') :
  forR f 0 l.length s=some (GU step l s):=by
 have:=PX step I h l.length 0 s (by omega) (by omega) hs
 unfold forR
 rw [show ((l.length:Int) - 0).toNat=l.length by omega]
 exact this
theorem Us [Inhabited α] (step:α->σ->CY σ ρ) (I:σ->Prop):∀ (l:List α) (s s':σ),I s->(∀ a∈l,∀ s s',I s->step a s=.next s'->I s')->(∀ a∈l,∀ s s',step a s≠.brk s')->GU step l s=.inl s'->I s'
 | [],s,s',h,_,_,e=>by cases e; exact h
 | a::r,s,s',h,hn,hb,e=>by
  rw [GU] at e
  split at e
  ·rename_i s2 h2
   exact Us step I r s2 s' (hn a (by simp) s s2 h h2) (fun a ha=>hn a (by simp [ha])) (fun a ha=>hb a (by simp [ha])) e
  ·rename_i s2 h2; exact absurd h2 (hb a (by simp) _ _)
  ·cases e
end
def EL (x:Term) (l:List Int):Int:=if x.Var<0 then x.Add else A8 (AB l x.Var+x.Add)
theorem TE {x:Term} {l:List Int} (h:x.Var<l.length):FC x l=some (EL x l):=by
 unfold FC EL
 by_cases h0:x.Var<0
 ·rw [if_pos (by simpa using h0),if_pos h0]
 ·rw [if_neg (by simpa using h0),if_neg h0,AM (by omega) h]; rfl
theorem Zc {x:Term} {l:List Int} (h0:-1<=x.Var) (h:x.Var<l.length) (hl:l.length<=1000):G0 x l=some (EL x l,0):=by
 unfold G0 DM
 rw [BN (by omega) (by omega),bs,if_neg (by simp; omega),TE h]; rfl
def KD (x:Test) (l:List Int):Bool:=(decide (x.Kind=1)&&decide (EL x.Left l<=EL x.Right l))||(decide (x.Kind=2)&&decide (EL x.Left l=EL x.Right l))
structure Jq (n:Int) (x:Term):Prop where
 low:-1<=x.Var
 high:x.Var<n
 add:-1000000<=x.Add∧x.Add<=1000000
def MR (l:List Int):Prop:=∀ x∈l,-2000000<=x∧x<=2000000
theorem Ox {n:Int} {x:Term} (h:Jq n x) {l:List Int} (hl:MR l) (hn:n<=l.length):EL x l=(if x.Var<0 then x.Add else AB l x.Var+x.Add)∧-3000000<=EL x l∧EL x l<=3000000:=by
 unfold EL
 have:=h.add
 by_cases h0:x.Var<0
 ·rw [if_pos h0,if_pos h0]; omega
 ·have hh:=h.high
  have:=hl _ (AV (l:=l) (show 0<=x.Var by omega) (by omega))
  rw [if_neg h0,if_neg h0,BN (by omega) (by omega)]; omega
theorem TT {a b:Int} (ha:-4000000<=a∧a<=4000000) (hb:-4000000<=b∧b<=4000000):HV a b=some (if a+b<0 then (-1,a+b+18446744073709551616) else (0,a+b)):=by
 have hw:∀ c:Int,IntKind.u64.wrap c=c % 18446744073709551616:=fun c=>by
  simp [IntKind.wrap,IntKind.signed,IntKind.bits]
 have hs:∀ c:Int,-4000000<=c∧c<=4000000->KW .i64 .shr c 63=some (if c<0 then -1 else 0):=by
  intro c hc
  unfold KW
  have e:c.fdiv (2 ^ (min (63:Int).toNat (IntKind.bits .i64)))=if c<0 then -1 else 0:=by
   show c.fdiv (2 ^ 63)=_
   rw [Int.fdiv_eq_ediv_of_nonneg _ (by decide)]
   split <;> omega
  simp only [e]
  have:(0:Int)<=63∧IntKind.min .i64<=(if c<0 then -1 else 0)∧(if c<0 then -1 else 0)<=IntKind.max .i64:=by
   split <;> decide
  rw [if_pos this]
 unfold HV IT
 rw [hw,hw,if_pos (by omega),bs,hs a ha,hs b hb,bs,bs]
 congr 1
 have wi:∀ c:Int,-10<=c->c<=10->A8 c=c:=fun c h1 h2=>BN (by omega) (by omega)
 have hq:(a % 18446744073709551616+b % 18446744073709551616+0) / 18446744073709551616=if a<0∧b<0 then 1 else if (a<0∨b<0)∧0<=a+b then 1 else 0:=by
  split
  ·omega
  ·split <;> omega
 have hr:(a % 18446744073709551616+b % 18446744073709551616+0) % 18446744073709551616=if a+b<0 then a+b+18446744073709551616 else a+b:=by
  split <;> omega
 rw [hq,hr]
 by_cases h1:a<0 <;> by_cases h2:b<0
 ·simp only [h1,h2,and_self,if_true]
  rw [wi _ (by decide) (by decide),wi _ (by decide) (by decide),if_pos (by omega),if_pos (by omega)]; rfl
 ·by_cases h3:a+b<0
  ·simp only [h1,h2,and_false,if_true,if_false,true_or,true_and,h3,show ¬ 0<=a+b by omega]
   rw [wi _ (by decide) (by decide),wi _ (by decide) (by decide)]; rfl
  ·simp only [h1,h2,and_false,if_true,if_false,true_or,true_and,h3,show 0<=a+b by omega]
   rw [wi _ (by decide) (by decide),wi _ (by decide) (by decide)]; rfl
 ·by_cases h3:a+b<0
  ·simp only [h1,h2,false_and,if_true,if_false,or_true,true_and,h3,show ¬ 0<=a+b by omega]
   rw [wi _ (by decide) (by decide),wi _ (by decide) (by decide)]; rfl
  ·simp only [h1,h2,false_and,if_true,if_false,or_true,true_and,h3,show 0<=a+b by omega]
   rw [wi _ (by decide) (by decide),wi _ (by decide) (by decide)]; rfl
 ·have h3:¬ a+b<0:=by omega
  simp only [h1,h2,false_and,and_self,if_false,or_self,h3]
  rw [wi _ (by decide) (by decide),wi _ (by decide) (by decide)]; rfl
def JT (a:Int):Int × Int:=if a<0 then (-1,a+18446744073709551616) else (0,a)
theorem Uc {n:Int} {x:Term} (h:Jq n x) {l:List Int} (hl:MR l) (hn:n<=l.length):F7 x l=some ((JT (EL x l)).1,(JT (EL x l)).2,true):=by
 have h1:=h.low
 have h2:=h.high
 have h3:=h.add
 have hs:=(Ox h hl hn).1
 unfold F7
 by_cases h0:x.Var=-1
 ·have e:EL x l=x.Add:=by rw [hs,if_pos (by omega)]
  rw [e,if_pos (by simpa using h0),TT (by omega) (by omega),bs,Int.zero_add]; rfl
 ·have:=hl _ (AV (l:=l) (show 0<=x.Var by omega) (by omega))
  have e:EL x l=AB l x.Var+x.Add:=by rw [hs,if_neg (by omega)]
  rw [e,if_neg (by simpa using h0),if_neg (by simp; omega),AM (by omega) (by omega),bs,TT (by omega) (by omega),bs]; rfl
theorem aa (a b:Int):cmp_Compare_int a b=some (if a<b then -1 else if b<a then 1 else 0):=by
 unfold cmp_Compare_int cmp_isNaN_int
 simp only [bs,decide_true,Bool.not_true,Bool.false_eq_true,if_false,zzX]
 split
 ·rfl
 ·split <;> rfl
theorem lY (a b:Int):IM a b=some (if a<b then -1 else if b<a then 1 else 0):=aa a b
theorem d9 (a b:Int):LJ [a,b]=some (if a=0 then b else a):=by
 unfold LJ
 show thenR (forGo _ 2 0 ()) _ _=_
 rw [G5,show AL [a,b] 0=some a from rfl,bs]
 by_cases ha:a=0
 ·rw [if_neg (by simp [ha]),if_pos ha]
  show thenR (forGo _ 1 (0+1) ()) _ _=_
  rw [G5,show AL [a,b] (0+1)=some b from rfl,bs]
  by_cases hb:b=0
  ·rw [if_neg (by simp [hb]),hb]; rfl
  ·rw [if_pos (by simp [hb])]; rfl
 ·rw [if_pos (by simp [ha]),if_neg ha]; rfl
theorem p_holds {n:Int} {x:Test} (h1:Jq n x.Left) (h2:Jq n x.Right) {l:List Int} (hl:MR l) (hn:n<=l.length):F2 x l=some (KD x l):=by
 have s1:=(Ox h1 hl hn).2
 have s2:=(Ox h2 hl hn).2
 unfold F2 KD
 rw [Uc h1 hl hn,Uc h2 hl hn]
 simp only [bs,Bool.not_true,Bool.or_self,Bool.false_eq_true,if_false,aa,lY,d9]
 generalize EL x.Left l=a at s1
 generalize EL x.Right l=b at s2
 have key:(if (if (JT a).1<(JT b).1 then (-1:Int) else if (JT b).1<(JT a).1 then 1 else 0)=0 then (if (JT a).2<(JT b).2 then (-1:Int) else if (JT b).2<(JT a).2 then 1 else 0) else (if (JT a).1<(JT b).1 then (-1:Int) else if (JT b).1<(JT a).1 then 1 else 0))=if a<b then -1 else if b<a then 1 else 0:=by
  unfold JT
  by_cases ha:a<0 <;> by_cases hb:b<0 <;> simp only [ha,hb,if_true,if_false] <;> (repeat' split) <;> omega
 rw [key]
 congr 2
 ·congr 1
  rw [decide_eq_decide]
  repeat' split
  all_goals omega
 ·congr 1
  rw [decide_eq_decide]
  repeat' split
  all_goals omega
end Go.Sf.Sc
namespace Go.Sf.Sc
open Go Go.Sf
structure PA (t:AD) (q:Pattern):Prop where
 g:Jc q.Graph
 kind:∀ n∈q.Graph.Nodes,0<=n∧n<t.Nodes.length
 vars:0<=q.Vars∧q.Vars<=12
 few:q.Slots.length<=10∧q.Tests.length<=10
 slot:∀ s∈q.Slots,(0<=s.Node∧s.Node<q.Graph.Nodes.length)∧(0<=s.Attr∧s.Attr<(BQ t (AB q.Graph.Nodes s.Node)).length)∧Jq q.Vars s.Term
 test:∀ x∈q.Tests,(x.Kind=1∨x.Kind=2)∧Jq q.Vars x.Left∧Jq q.Vars x.Right
 ge:C4 q.Graph=0
 ty:FR t q.Graph=true
theorem U2 {n:Int} {x:Term} (h:Lf n x=true):Jq n x:=by
 unfold Lf at h
 simp only [zzZ,zzX] at h
 exact ⟨h.1.1.1,h.1.1.2,h.1.2,h.2⟩
theorem aN {n:Int} {l:List Test} (h:Ia n l=0):∀ x∈l,(x.Kind=1∨x.Kind=2)∧Jq n x.Left∧Jq n x.Right:=by
 unfold Ia at h
 split at h
 ·cases h
 split at h
 ·cases h
 have h2:=Ra h
 intro x hx
 obtain ⟨i,i0,i1,rfl⟩:=EX hx
 have:=h2 i i0 i1
 unfold Ks at this
 split at this
 ·cases this
 split at this
 ·rename_i h3 h4
  rw [zzZ] at h4
  exact ⟨by omega,U2 h4.1,U2 h4.2⟩
 ·cases this
theorem XR (n:Int) (l:List Test):Ia n l≠9:=by
 unfold Ia
 split
 ·decide
 split
 ·decide
 intro h
 cases hr:fst (fun i=>nz (Ks n (AB l i))) 0 l.length with
 | none=>rw [hr] at h; cases h
 | some r=>
  rw [hr] at h
  obtain ⟨i,_,_,k,_⟩:=DP hr
  simp only [Option.getD_some] at h
  subst h
  unfold nz Ks at k
  split at k
  ·cases k
  ·rename_i hne
   split at k
   ·cases k
   ·split at k <;> cases k
theorem Wy {t:AD} {q:Pattern} (hv:(BJ t).2=0) (h:I3 t q=0∨I3 t q=9):PA t q:=by
 have hg9:=Rc q.Graph
 unfold I3 at h
 rw [if_neg (by simp [hv])] at h
 split at h
 ·omega
 rename_i h1
 have g:=F8 (Classical.not_not.1 h1)
 split at h
 ·omega
 rename_i h2
 split at h
 ·omega
 rename_i h3
 split at h
 ·omega
 rename_i h4
 split at h
 ·omega
 rename_i h5
 split at h
 ·rename_i h6
  have:=XR q.Vars q.Tests
  omega
 rename_i h6
 refine ⟨g,(L7 g (by simpa using h2)).1,by omega,by omega,fun s hs=>?_,aN (Classical.not_not.1 h6),Classical.not_not.1 h1,by simpa using h2⟩
 have hb:OQ t q s=false:=by
  rw [Bool.not_eq_true,List.any_eq_false] at h5
  simpa using h5 s hs
 unfold OQ at hb
 simp only [Bool.or_eq_false_iff,Bool.not_eq_false',decide_eq_false_iff_not] at hb
 obtain ⟨⟨⟨b1,b2⟩,b3⟩,b4,b5⟩:=hb
 unfold NW at b1
 dsimp only at b1
 split at b1
 ·cases b1
 rename_i c1
 have hk:=(L7 g (by simpa using h2)).1 _ (AV (l:=q.Graph.Nodes) (show 0<=s.Node by omega) (by omega))
 rw [Sh hv hk.1 hk.2] at b1
 split at b1
 ·cases b1
 rename_i c2
 have c2:¬ (s.Attr<0∨((BQ t (AB q.Graph.Nodes s.Node)).length:Int)<=s.Attr):=c2
 exact ⟨by omega,by omega,by omega,by omega,by omega,by omega⟩
def Ih (h:A2) (m:Morphism) (s:D8):Int:=AB (AB h.Values (AB m.Nodes s.Node)) s.Attr
def Iu (h:A2) (m:Morphism) (s:D8) (st:List Int × List Bool):List Int × List Bool:=
 if 0<=s.Term.Var∧AB st.2 s.Term.Var=false then (CB st.1 s.Term.Var (A8 (Ih h m s - s.Term.Add)),CB st.2 s.Term.Var true) else st
def FJ {ρ:Type} (r:ρ) (h:A2) (m:Morphism) (s:D8) (st:List Int × List Bool):CY (List Int × List Bool) ρ:=
 if EL s.Term (Iu h m s st).1=Ih h m s then .next (Iu h m s st) else .ret r
structure VI (n:Int) (st:List Int × List Bool):Prop where
 l1:(st.1.length:Int)=n
 l2:(st.2.length:Int)=n
 small:MR st.1
structure JU (n:Int) (h:A2) (m:Morphism) (s:D8):Prop where
 node:0<=s.Node∧s.Node<m.Nodes.length
 val:0<=AB m.Nodes s.Node∧AB m.Nodes s.Node<h.Values.length
 attr:0<=s.Attr∧s.Attr<(AB h.Values (AB m.Nodes s.Node)).length
 term:Jq n s.Term
 has:-1000000<=Ih h m s∧Ih h m s<=1000000
theorem OG {t:AD} (ht:IF t) {q:Pattern} {h:A2} {m:Morphism} (hq:PA t q) (hh:H1 t h) (hm:Tn t q.Graph h.Graph m) {s:D8} (hs:s∈q.Slots):JU q.Vars h m s:=by
 obtain ⟨h1,h2,h3⟩:=hq.slot s hs
 have hl:=hm.nlen
 have hn:=hm.node s.Node h1.1 (by omega)
 have hr:=hh.row _ hn.1.1 hn.1.2
 have hk:=hh.kind _ hn.1.1 hn.1.2
 have hb:=Xu ht hk.2 hn.2
 have hv:=hh.len
 refine ⟨by omega,by omega,by omega,h3,?_⟩
 unfold Ih
 exact hh.low _ hn.1.1 hn.1.2 _ (AV h2.1 (by omega))
theorem NN {α:Type} (l:List α) (i:Int) (a:α):(CB l i a).length=l.length:=by unfold CB; rw [List.length_set]
theorem Uu {α:Type} {l:List α} {i:Int} {a x:α} (h:x∈CB l i a):x∈l∨x=a:=List.mem_or_eq_of_mem_set h
theorem YW {n:Int} {h:A2} {m:Morphism} {s:D8} (hs:JU n h m s) {st:List Int × List Bool} (hi:VI n st):VI n (Iu h m s st):=by
 have h1:=hs.has
 have h2:=hs.term.add
 unfold Iu
 split
 ·refine ⟨by rw [NN]; exact hi.l1,by rw [NN]; exact hi.l2,fun x hx=>?_⟩
  rcases Uu hx with hx | rfl
  ·exact hi.small x hx
  ·rw [BN (by omega) (by omega)]; omega
 ·exact hi
def Lc (q:Pattern) (h:A2) (m:Morphism):List Int × Int:=
 match GU (FJ (([],11):List Int × Int) h m) q.Slots (List.replicate q.Vars.toNat 0,List.replicate q.Vars.toNat false) with
 | .inr r=>r
 | .inl st=>if anyR (fun i=>!KD (AB q.Tests i) st.1) 0 q.Tests.length=true then ([],16) else (st.1,0)
theorem SY {n:Int} (h0:0<=n):VI n (List.replicate n.toNat 0,List.replicate n.toNat false):=by
 refine ⟨by simp; omega,by simp; omega,fun x hx=>?_⟩
 rw [List.mem_replicate] at hx
 omega
theorem Nv {ρ:Type} {r:ρ} {n:Int} {h:A2} {m:Morphism} {s:D8} (hs:JU n h m s) {st st':List Int × List Bool} (hi:VI n st) (e:FJ r h m s st=.next st'):VI n st':=by
 unfold FJ at e
 split at e
 ·cases e; exact YW hs hi
 ·cases e
theorem YX {ρ:Type} {r:ρ} {h:A2} {m:Morphism} {s:D8} {st st':List Int × List Bool}:FJ r h m s st≠.brk st':=by
 unfold FJ
 split <;> simp
theorem NM {ρ:Type} {r:ρ} {n:Int} {h:A2} {m:Morphism} {l:List D8} (hs:∀ s∈l,JU n h m s) {st st':List Int × List Bool} (hi:VI n st) (e:GU (FJ r h m) l st=.inl st'):VI n st':=
 Us (FJ r h m) (VI n) l st st' hi (fun a ha _ _ h1 h2=>Nv (hs a ha) h1 h2) (fun _ _ _ _=>YX) e
theorem R5 {ρ:Type} {r:ρ} {n:Int} {h:A2} {m:Morphism} {s:D8} (hs:JU n h m s) {st:List Int × List Bool} (hi:VI n st) {T:List Int × List Bool->Option (CY (List Int × List Bool) ρ)}
  (h1:∀ st':List Int × List Bool,(st'.1.length:Int)=n->T st'=some (if EL s.Term st'.1=Ih h m s then .next st' else .ret r)) :
  ((if (decide (0<=s.Term.Var))=true then ((AL st.2 s.Term.Var).bind fun x51=>some (!x51)) else some false).bind fun x54=>
   if x54=true then (AL st.1 s.Term.Var).bind fun _=>(AL st.2 s.Term.Var).bind fun _=>T (CB st.1 s.Term.Var (A8 (Ih h m s - s.Term.Add)),CB st.2 s.Term.Var true) else T (st.1,st.2))=some (FJ r h m s st):=by
 have hl:=hs.term.high
 have l1:=hi.l1
 have l2:=hi.l2
 unfold FJ
 by_cases h0:0<=s.Term.Var
 ·rw [if_pos (by simpa using h0),AM h0 (by omega),bs,bs]
  by_cases hk:AB st.2 s.Term.Var=false
  ·rw [if_pos (by simp [hk]),AM h0 (by omega),bs,bs,h1 _ (by dsimp only; rw [NN]; exact l1)]
   have e:Iu h m s st=(CB st.1 s.Term.Var (A8 (Ih h m s - s.Term.Add)),CB st.2 s.Term.Var true):=by unfold Iu; rw [if_pos ⟨h0,hk⟩]
   rw [e]
  ·rw [if_neg (by simpa using hk),h1 _ l1]
   have e:Iu h m s st=st:=by unfold Iu; rw [if_neg (fun e=>hk e.2)]
   rw [e]
 ·rw [if_neg (by simpa using h0),bs,if_neg (by decide),h1 _ l1]
  have e:Iu h m s st=st:=by unfold Iu; rw [if_neg (fun e=>h0 e.1)]
  rw [e]
theorem YZ {t:Term} {n v:Int} {f:Term->List Int->Option Int} (hf:∀ l:List Int,(l.length:Int)=n->f t l=some (EL t l)) (st':List Int × List Bool) (hl:(st'.1.length:Int)=n):((f t st'.1).bind fun x69=>if (!decide (x69=v))=true then some (CY.ret (([],11):List Int × Int)) else some (.next st'))=some (if EL t st'.1=v then .next st' else .ret ([],11)):=by
 rw [hf _ hl,bs]
 by_cases e:EL t st'.1=v
 ·rw [if_neg (by simp [e]),if_pos e]
 ·rw [if_pos (by simp [e]),if_neg e]
theorem cT {q:Pattern} {h:A2} {m:Morphism} {t:AD} (hq:PA t q) (hs:∀ s∈q.Slots,JU q.Vars h m s):IJ q h m=some (Lc q h m):=by
 have hv:=hq.vars
 unfold IJ Lc KN
 rw [if_pos (by omega),bs,if_pos (by omega),bs]
 rw [PW (FJ (([],11):List Int × Int) h m) (VI q.Vars) (SY hv.1)]
 ·cases hr:GU (FJ (([],11):List Int × Int) h m) q.Slots (List.replicate q.Vars.toNat 0,List.replicate q.Vars.toNat false) with
  | inr r=>rfl
  | inl st=>
   have hi:=NM hs (SY hv.1) hr
   rw [EY,C7 (fun i=>!KD (AB q.Tests i) st.1) ([],16)]
   ·dsimp only
    cases anyR (fun i=>!KD (AB q.Tests i) st.1) 0 q.Tests.length <;> rfl
   ·intro i i0 i1 _
    have hx:=hq.test _ (AV i0 i1)
    rw [AM i0 i1,bs,p_holds hx.2.1 hx.2.2 hi.small (by have:=hi.l1; omega),bs]
    cases KD (AB q.Tests i) st.1 <;> rfl
 ·intro i st i0 i1 hi
  have ha:=hs _ (AV i0 i1)
  refine ⟨?_,fun s' e=>Nv ha hi e⟩
  rw [AM i0 i1,bs,AM ha.node.1 ha.node.2,bs,AM ha.val.1 ha.val.2,bs,AM ha.attr.1 ha.attr.2,bs]
  exact R5 ha hi (T:=fun st'=>(FC (AB q.Slots i).Term st'.1).bind fun x69=>if (!decide (x69=Ih h m (AB q.Slots i)))=true then some (CY.ret (([],11):List Int × Int)) else some (.next st')) (YZ fun l hl=>TE (by have:=ha.term.high; omega))
def Mq (t:AD) (p:Pattern) (h:A2):Int:=if I3 t p≠0 then I3 t p else (Mn t h).2
theorem X7 {t:AD} (hf:CA t) (p:Pattern) (h:A2):FB t p h=some (Mq t p h):=by
 unfold FB Mq
 rw [Tk hf,bs]
 refine Io fun _=>?_
 rw [X8 hf]; rfl
def Mt (t:AD) (p:Pattern) (h:A2) (m:Morphism):List Int × Int:=
 if Mq t p h≠0 then ([],Mq t p h) else if MX t p.Graph h.Graph m false≠0 then ([],MX t p.Graph h.Graph m false) else Lc p h m
theorem Va {t:AD} (hf:CA t) {p:Pattern} {h:A2} {m:Morphism} {inj:Bool} (h1:Mq t p h=0) (h2:MX t p.Graph h.Graph m inj=0):(BJ t).2=0∧PA t p∧H1 t h∧Tn t p.Graph h.Graph m:=by
 unfold Mq at h1
 split at h1
 ·rename_i h3; exact absurd h1 h3
 rename_i h3
 obtain ⟨hv,hh⟩:=Vs hf h1
 exact ⟨hv,Wy hv (.inl (Classical.not_not.1 h3)),hh,(Xm h2).2⟩
theorem cL {t:AD} (hf:CA t) (p:Pattern) (h:A2) (m:Morphism):FA t p h m=some (Mt t p h m):=by
 unfold FA Mt
 rw [X7 hf,bs]
 refine OS fun h1=>?_
 rw [V1 hf,bs]
 refine OS fun h2=>?_
 obtain ⟨hv,hq,hh,hm⟩:=Va hf h1 h2
 rw [cT hq (fun s hs=>OG (II hv) hq hh hm hs)]; rfl
theorem YY {t:AD} {q:Pattern} {h:A2} {m:Morphism} (hq:PA t q) (hs:∀ s∈q.Slots,JU q.Vars h m s) (e:(Lc q h m).2=0):((Lc q h m).1.length:Int)=q.Vars∧MR (Lc q h m).1:=by
 unfold Lc at e ⊢
 cases hr:GU (FJ (([],11):List Int × Int) h m) q.Slots (List.replicate q.Vars.toNat 0,List.replicate q.Vars.toNat false) with
 | inr r=>
  rw [hr] at e
  have:∀ (l:List D8) (st:List Int × List Bool) (r:List Int × Int),GU (FJ (([],11):List Int × Int) h m) l st=.inr r->r=([],11):=by
   intro l
   induction l with
   | nil=>intro st r h; cases h
   | cons a l ih=>
    intro st r h
    rw [GU] at h
    split at h
    ·exact ih _ _ h
    ·cases h
    ·rename_i r' h'
     cases h
     unfold FJ at h'
     split at h'
     ·cases h'
     ·cases h'; rfl
  rw [this _ _ _ hr] at e
  cases e
 | inl st=>
  rw [hr] at e
  have hi:=NM hs (SY hq.vars.1) hr
  dsimp only at e ⊢
  split at e
  ·cases e
  ·rename_i h1
   rw [if_neg h1]
   exact ⟨hi.l1,hi.small⟩
end Go.Sf.Sc
namespace Go.Sf.Sc
open Go Go.Sf
theorem TO {n:Nat} {α:Type} [Inhabited α] (F:Int->α) {i:Int} (h0:0<=i) (v:α):CB ((B2 n).map F) i v=(B2 n).map fun j=>if j=i then v else F j:=by
 unfold CB
 refine List.ext_getElem (by simp) (fun k k1 k2=>?_)
 have hk:k<n:=by simpa [D0] using k2
 rw [List.getElem_set]
 have e:(B2 n)[k]'(by rw [D0]; exact hk)=(k:Int):=by simp [B2]
 simp only [List.getElem_map,e]
 by_cases h:i.toNat=k
 ·rw [if_pos h,if_pos (by omega)]
 ·rw [if_neg h,if_neg (by omega)]
theorem R8 {n:Nat} {α:Type} {F G:Int->α} (h:∀ j,0<=j->j<(n:Int)->F j=G j):(B2 n).map F=(B2 n).map G:=List.map_congr_left fun j hj=>h j (G2.1 hj).1 (G2.1 hj).2
def Hj (n:Nat) (k:Int):List Bool:=(B2 n).map fun j=>decide (j<k)
theorem Ri (n:Nat):Hj n 0=List.replicate n false:=by
 unfold Hj
 refine List.ext_getElem (by simp [D0]) (fun k k1 k2=>?_)
 have hk:k<n:=by simpa using k2
 have e:(B2 n)[k]'(by rw [D0]; exact hk)=(k:Int):=by simp [B2]
 simp only [List.getElem_map,e,List.getElem_replicate,decide_eq_false_iff_not]
 omega
theorem Pa (n:Nat) (k:Int):(Hj n k).length=n:=by unfold Hj; rw [List.length_map,D0]
def Ku (q:Pattern) (h:A2) (m:Morphism) (given:List Int):List Int × Bool:=
 match GU (FJ (([],false):List Int × Bool) h m) q.Slots (given++List.replicate (q.Vars - given.length).toNat 0,Hj q.Vars.toNat given.length) with
 | .inr r=>r
 | .inl st=>if anyR (fun i=>!KD (AB q.Tests i) st.1) 0 q.Tests.length=true then ([],false) else (st.1,true)
theorem Qn {n:Int} {given:List Int} (h0:0<=n) (hg:given.length<=n) (hv:MR given):VI n (given++List.replicate (n - given.length).toNat 0,Hj n.toNat given.length):=by
 refine ⟨by simp; omega,by show ((Hj n.toNat given.length).length:Int)=n; rw [Pa]; omega,fun x hx=>?_⟩
 rcases List.mem_append.1 hx with hx | hx
 ·exact hv x hx
 ·rw [List.mem_replicate] at hx
  omega
theorem et {s:A3} {q:Pattern} {m:Morphism} {t:AD} {given:List Int} (hq:PA t q) (hs:∀ x∈q.Slots,JU q.Vars s.h m x) (hg:given.length<=q.Vars) (hv:MR given):ES s q m given=some (Ku q s.h m given):=by
 have hn:=hq.vars
 unfold ES Ku slices_Clone_int
 rw [JG (by unfold B9; omega),bs,BN (by omega) (by omega)]
 have ea:QM given (q.Vars - given.length) 0=some (given++List.replicate (q.Vars - given.length).toNat 0):=by
  unfold QM
  rw [if_pos ⟨by omega,by unfold B9; omega⟩]
 have em:KN q.Vars false=some (List.replicate q.Vars.toNat false):=by
  unfold KN
  rw [if_pos (by omega)]
 rw [ea,bs,em,bs]
 have ek:forA (fun (i0:Int) (s0:List Bool)=>(AL s0 i0).bind fun x39=>some (CB s0 i0 true)) 0 (given.length:Int) (List.replicate q.Vars.toNat false)=some (Hj q.Vars.toNat given.length):=by
  refine Hx (fun i=>Hj q.Vars.toNat i) (by omega) (Ri _) (fun i i0 i1=>?_)
  rw [AM i0 (by rw [Pa]; omega),bs]
  congr 1
  unfold Hj
  rw [TO _ i0]
  refine R8 (fun j j0 j1=>?_)
  by_cases e:j=i
  ·rw [if_pos e,e]; simp; omega
  ·rw [if_neg e,decide_eq_decide]; omega
 rw [ek,bs]
 have hi0:=Qn hn.1 hg hv
 rw [PW (FJ (([],false):List Int × Bool) s.h m) (VI q.Vars) hi0]
 ·cases hr:GU (FJ (([],false):List Int × Bool) s.h m) q.Slots (given++List.replicate (q.Vars - given.length).toNat 0,Hj q.Vars.toNat given.length) with
  | inr r=>rfl
  | inl st=>
   have hi:=NM hs hi0 hr
   rw [EY,C7 (fun i=>!KD (AB q.Tests i) st.1) ([],false)]
   ·dsimp only
    cases anyR (fun i=>!KD (AB q.Tests i) st.1) 0 q.Tests.length <;> rfl
   ·intro i i0 i1 _
    have hx:=hq.test _ (AV i0 i1)
    rw [AM i0 i1,bs,p_holds hx.2.1 hx.2.2 hi.small (by have:=hi.l1; omega),bs]
    cases KD (AB q.Tests i) st.1 <;> rfl
 ·intro i st i0 i1 hi
  have ha:=hs _ (AV i0 i1)
  refine ⟨?_,fun s' e=>Nv ha hi e⟩
  rw [AM i0 i1,bs,AM ha.node.1 ha.node.2,bs,AM ha.val.1 ha.val.2,bs,AM ha.attr.1 ha.attr.2,bs]
  refine R5 ha hi (T:=fun st'=>(G0 (AB q.Slots i).Term st'.1).bind fun x90=>if ((!decide (x90.2=0))||(!decide (x90.1=Ih s.h m (AB q.Slots i))))=true then some (CY.ret (([],false):List Int × Bool)) else some (.next st')) (fun st' hl=>?_)
  rw [Zc ha.term.low (by have:=ha.term.high; omega) (by omega),bs]
  by_cases e:EL (AB q.Slots i).Term st'.1=Ih s.h m (AB q.Slots i)
  ·rw [if_neg (by simp [e]),if_pos e]
  ·rw [if_pos (by simp [e]),if_neg e]
theorem aQ {t:AD} {q:Pattern} {h:A2} {m:Morphism} {given:List Int} (hq:PA t q) (hs:∀ s∈q.Slots,JU q.Vars h m s) (hg:given.length<=q.Vars) (hv:MR given) (e:(Ku q h m given).2=true):((Ku q h m given).1.length:Int)=q.Vars∧MR (Ku q h m given).1:=by
 unfold Ku at e ⊢
 have hi0:=Qn hq.vars.1 hg hv
 cases hr:GU (FJ (([],false):List Int × Bool) h m) q.Slots (given++List.replicate (q.Vars - given.length).toNat 0,Hj q.Vars.toNat given.length) with
 | inr r=>
  rw [hr] at e
  have:∀ (l:List D8) (st:List Int × List Bool) (r:List Int × Bool),GU (FJ (([],false):List Int × Bool) h m) l st=.inr r->r=([],false):=by
   intro l
   induction l with
   | nil=>intro st r h; cases h
   | cons a l ih=>
    intro st r h
    rw [GU] at h
    split at h
    ·exact ih _ _ h
    ·cases h
    ·rename_i r' h'
     cases h
     unfold FJ at h'
     split at h'
     ·cases h'
     ·cases h'; rfl
  rw [this _ _ _ hr] at e
  cases e
 | inl st=>
  rw [hr] at e
  have hi:=NM hs hi0 hr
  dsimp only at e ⊢
  split at e
  ·cases e
  ·rename_i h1
   rw [if_neg h1]
   exact ⟨hi.l1,hi.small⟩
def IV (n:Nat) (by' images:List Int):List Int:=(B2 by'.length).foldl (fun l i=>CB l (AB by' i) (AB images i)) (List.replicate n (-1))
theorem MK (by' images:List Int):∀ (ks:List Int) (l:List Int),(ks.foldl (fun l i=>CB l (AB by' i) (AB images i)) l).length=l.length
 | [],l=>rfl
 | k::ks,l=>by rw [List.foldl_cons,MK by' images ks,NN]
theorem Ry (n:Nat) (by' images:List Int):(IV n by' images).length=n:=by unfold IV; rw [MK]; simp
theorem Sw (by' images:List Int) {x:Int}:∀ (ks:List Int) (l:List Int),x∈ks.foldl (fun l i=>CB l (AB by' i) (AB images i)) l->x∈l∨∃ k∈ks,x=AB images k
 | [],l,h=>.inl h
 | k::ks,l,h=>by
  rw [List.foldl_cons] at h
  rcases Sw by' images ks _ h with h | ⟨j,hj,e⟩
  ·rcases Uu h with h | h
   ·exact .inl h
   ·exact .inr ⟨k,by simp,h⟩
  ·exact .inr ⟨j,by simp [hj],e⟩
theorem Rz {n:Nat} {by' images:List Int} {x:Int} (h:x∈IV n by' images):x=-1∨∃ k:Int,(0<=k∧k<by'.length)∧x=AB images k:=by
 rcases Sw by' images _ _ h with h | ⟨k,hk,e⟩
 ·rw [List.mem_replicate] at h; exact .inl h.2
 ·exact .inr ⟨k,G2.1 hk,e⟩
theorem Wx {n:Nat} {by' images:List Int} (hb:∀ x∈by',0<=x∧x<n) (hl:by'.length<=images.length):forA (fun (i0:Int) (s0:List Int)=>
  (AL by' i0).bind fun x18=>
  (AL images i0).bind fun x24=>
  (AL s0 x18).bind fun x26=>
  some (CB s0 x18 x24)) 0 (by'.length:Int) (List.replicate n (-1))=some (IV n by' images):=by
 have h:=Hx (f:=fun (i0:Int) (s0:List Int)=>
  (AL by' i0).bind fun x18=>
  (AL images i0).bind fun x24=>
  (AL s0 x18).bind fun x26=>
  some (CB s0 x18 x24)) (fun i=>(B2 i.toNat).foldl (fun l i=>CB l (AB by' i) (AB images i)) (List.replicate n (-1))) (a:=0) (b:=by'.length) (s:=List.replicate n (-1)) (by omega) rfl (fun i i0 i1=>by
   have hx:=hb _ (AV i0 i1)
   rw [AM i0 i1,bs,AM i0 (by omega),bs,AM hx.1 (by rw [MK]; simpa using hx.2),bs,Lk i0,List.foldl_append]; rfl)
 rw [h,Int.toNat_natCast]; rfl
theorem Uf {n:Nat} {by' images:List Int} (hn:n<=1000) (hb:∀ x∈by',0<=x∧x<n) (hl:by'.length<=images.length):G1 n by' images=some (IV n by' images):=by
 unfold G1 D5
 rw [if_pos ⟨rfl,by omega,by omega⟩,bs]
 show (forA _ 0 _ (List.replicate (n:Int).toNat (-1))).bind _=_
 rw [Int.toNat_natCast,Wx hb hl]; rfl
end Go.Sf.Sc
namespace Go.Sf.Sc
open Go Go.Sf
structure aU (f:AK):Prop where
 nl:f.nodes.length<=f.p.Nodes.length
 node:∀ i:Int,0<=i->i<f.nodes.length->(0<=AB f.nodes i∧AB f.nodes i<f.g.Nodes.length)∧AB (AB f.is (AB f.p.Nodes i)) (AB f.g.Nodes (AB f.nodes i))=true
 edge:∀ i:Int,0<=i->i<f.edges.length->(0<=AB f.edges i∧AB f.edges i<f.g.Edges.length)∧AB f.g.Edges (AB f.edges i)=⟨(AB f.p.Edges i).Type',AB f.nodes (AB f.p.Edges i).From,AB f.nodes (AB f.p.Edges i).To⟩
 inj:f.injective=true->f.nodes.Nodup∧f.edges.Nodup
structure WR (f:AK) (m:Morphism):Prop where
 nl:m.Nodes.length=f.p.Nodes.length
 el:m.Edges.length=f.p.Edges.length
 node:∀ i:Int,0<=i->i<m.Nodes.length->(0<=AB m.Nodes i∧AB m.Nodes i<f.g.Nodes.length)∧AB (AB f.is (AB f.p.Nodes i)) (AB f.g.Nodes (AB m.Nodes i))=true
 edge:∀ i:Int,0<=i->i<m.Edges.length->(0<=AB m.Edges i∧AB m.Edges i<f.g.Edges.length)∧AB f.g.Edges (AB m.Edges i)=⟨(AB f.p.Edges i).Type',AB m.Nodes (AB f.p.Edges i).From,AB m.Nodes (AB f.p.Edges i).To⟩
 inj:f.injective=true->m.Nodes.Nodup∧m.Edges.Nodup
theorem SD {α:Type} [Inhabited α] (l:List α) (x:α) {i:Int} (h:i=l.length):AB (l++[x]) i=x:=by
 subst h
 rw [Sg,if_neg (by omega)]
 simp
theorem Rp {l:List Int} {k:Int} {b:Bool} (h:(!(b&&l.any fun x=>decide (k=x)))=true) (hb:b=true) (hl:l.Nodup):(l++[k]).Nodup:=by
 subst hb
 simp only [Bool.true_and,Bool.not_eq_true',List.any_eq_false,zzX] at h
 rw [List.nodup_append]
 refine ⟨hl,by simp,fun a ha b hb e=>?_⟩
 rw [List.mem_singleton] at hb
 exact h a ha (by rw [e,hb])
theorem Sd:∀ (n:Nat) (f:AK),aU f->f.nodes.length=f.p.Nodes.length->f.edges.length+n=f.p.Edges.length->∀ m∈GZ n f,WR f m
 | 0,f,hp,hn,he,m,hm=>by
  rw [GZ,List.mem_singleton] at hm
  subst hm
  exact ⟨hn,by simpa using he,hp.node,hp.edge,hp.inj⟩
 | n+1,f,hp,hn,he,m,hm=>by
  rw [GZ,List.mem_flatMap] at hm
  obtain ⟨k,hk,hm⟩:=hm
  have hk:=G2.1 hk
  split at hm
  ·rename_i hok
   unfold Pe at hok
   rw [zzZ] at hok
   obtain ⟨ho1,ho2⟩:=hok
   rw [Qm,zzZ,zzX] at ho1
   have:=Sd n { f with edges:=f.edges++[k] } ⟨hp.nl,hp.node,fun i i0 i1=>by
    have i1:i<((f.edges++[k]).length:Int):=i1
    simp only [List.length_append,List.length_singleton] at i1
    show (0<=AB (f.edges++[k]) i∧AB (f.edges++[k]) i<f.g.Edges.length)∧AB f.g.Edges (AB (f.edges++[k]) i)=⟨(AB f.p.Edges i).Type',AB f.nodes (AB f.p.Edges i).From,AB f.nodes (AB f.p.Edges i).To⟩
    by_cases e:i=f.edges.length
    ·rw [SD _ _ e]; exact ⟨hk,by rw [e]; exact ho1.2⟩
    ·rw [PB _ _ i0 (by omega)]; exact hp.edge i i0 (by omega),fun hi=>⟨(hp.inj hi).1,Rp ho2 hi (hp.inj hi).2⟩⟩ hn (by show (f.edges++[k]).length+n=f.p.Edges.length; rw [List.length_append,List.length_singleton]; omega) m hm
   exact ⟨this.nl,this.el,this.node,this.edge,this.inj⟩
  ·cases hm
theorem Se:∀ (n:Nat) (f:AK),aU f->f.edges=[]->f.nodes.length+n=f.p.Nodes.length->∀ m∈LD n f,WR f m
 | 0,f,hp,he,hn,m,hm=>by
  rw [LD] at hm
  exact Sd _ f hp (by omega) (by rw [he]; simp) m hm
 | n+1,f,hp,he,hn,m,hm=>by
  rw [LD,List.mem_flatMap] at hm
  obtain ⟨k,hk,hm⟩:=hm
  have hk:=G2.1 hk
  split at hm
  ·rename_i hok
   unfold QG at hok
   rw [zzZ,zzZ] at hok
   obtain ⟨⟨_,ho1⟩,ho2⟩:=hok
   have:=Se n { f with nodes:=f.nodes++[k] } ⟨by show (f.nodes++[k]).length<=f.p.Nodes.length; rw [List.length_append,List.length_singleton]; omega,fun i i0 i1=>by
    have i1:i<((f.nodes++[k]).length:Int):=i1
    simp only [List.length_append,List.length_singleton] at i1
    show (0<=AB (f.nodes++[k]) i∧AB (f.nodes++[k]) i<f.g.Nodes.length)∧AB (AB f.is (AB f.p.Nodes i)) (AB f.g.Nodes (AB (f.nodes++[k]) i))=true
    by_cases e:i=f.nodes.length
    ·rw [SD _ _ e]
     exact ⟨hk,by rw [e]; exact ho1⟩
    ·rw [PB _ _ i0 (by omega)]; exact hp.node i i0 (by omega),fun i i0 i1=>by
    have i1:i<(f.edges.length:Int):=i1
    rw [he] at i1
    have:i<(0:Nat):=i1
    omega,fun hi=>⟨Rp ho2 hi (hp.inj hi).1,(hp.inj hi).2⟩⟩ he (by show (f.nodes++[k]).length+n=f.p.Nodes.length; rw [List.length_append,List.length_singleton]; omega) m hm
   exact ⟨this.nl,this.el,this.node,this.edge,this.inj⟩
  ·cases hm
theorem We {t:AD} {p g:Graph} {pa:Morphism} {inj:Bool} {m:Morphism} (hm:m∈ML t p g pa inj):WR (FF t p g pa inj) m:=
 Se _ (FF t p g pa inj) ⟨Nat.zero_le _,fun i i0 i1=>by have i1:i<(0:Nat):=i1; omega,fun i i0 i1=>by have i1:i<(0:Nat):=i1; omega,fun _=>⟨List.nodup_nil,List.nodup_nil⟩⟩ rfl (by show 0+p.Nodes.length=p.Nodes.length; omega) m (List.mem_of_mem_take hm)
theorem ZD {t:AD} {p g:Graph} {pa:Morphism} {inj:Bool} (h:GX t p g=0) {m:Morphism} (hm:m∈ML t p g pa inj):Tn t p g m:=by
 obtain ⟨hv,gp,gg,tp,tg⟩:=Qc h
 have:=We hm
 refine ⟨this.nl,this.el,fun i i0 i1=>?_,fun i i0 i1=>(this.edge i i0 i1).1⟩
 obtain ⟨h1,h2⟩:=this.node i i0 i1
 refine ⟨h1,?_⟩
 have hl:=this.nl
 have kp:=tp _ (AV (l:=p.Nodes) i0 (by show i<(p.Nodes.length:Int); have hl:m.Nodes.length=p.Nodes.length:=hl; omega))
 have kg:=tg _ (AV (l:=g.Nodes) h1.1 h1.2)
 have h2:AB (AB (Ld t) (AB p.Nodes i)) (AB g.Nodes (AB m.Nodes i))=true:=h2
 have e:AB (Ld t) (AB p.Nodes i)=La t (AB p.Nodes i):=by unfold Ld; exact M1 (La t) kp.1 kp.2
 rw [e] at h2
 have e2:AB (La t (AB p.Nodes i)) (AB g.Nodes (AB m.Nodes i))=Jz t (AB g.Nodes (AB m.Nodes i)) (AB p.Nodes i):=by unfold La; exact M1 (fun k=>Jz t k (AB p.Nodes i)) kg.1 kg.2
 rwa [e2] at h2
theorem T9 {t:AD} {p g:Graph} {pa:Morphism} {inj:Bool} (h:(OW t p g pa inj).2=0):(OW t p g pa inj).1.length<=5000∧∀ m∈(OW t p g pa inj).1,Tn t p g m:=by
 unfold OW at h ⊢
 split at h
 ·rename_i h1; exact absurd h h1
 rename_i h1
 split at h
 ·cases h
 rename_i h2
 split at h
 ·rename_i h3; exact absurd h h3
 rename_i h3
 split at h
 ·rename_i h4; exact absurd h h4
 rename_i h4
 split at h
 ·cases h
 rename_i h5
 rw [if_neg h1,if_neg h2,if_neg h3,if_neg h4,if_neg h5]
 exact ⟨by dsimp only; omega,fun m hm=>ZD (Classical.not_not.1 h1) hm⟩
structure N5 (t:AD) (p:Pattern) (h:A2) (x:AG):Prop where
 q:PA t p
 m:Tn t p.Graph h.Graph x.Morphism
 len:(x.Vars.length:Int)=p.Vars
 small:MR x.Vars
structure Ve (t:AD) (p:Pattern) (c:AA):Prop where
 q:PA t c.Pattern
 vars:p.Vars<=c.Pattern.Vars
 map:aT p.Graph c.Pattern.Graph c.Map
 inj:NE c.Map=true
def DU (t:AD) (c:AA) (h:A2) (m:AG) (inj:Bool):List AG × Int:=
 let x:=OW t c.Pattern.Graph h.Graph ⟨IV c.Pattern.Graph.Nodes.length c.Map.Nodes m.Morphism.Nodes,IV c.Pattern.Graph.Edges.length c.Map.Edges m.Morphism.Edges⟩ inj
 if x.2≠0 then ([],x.2) else ((x.1.filter fun y=>(Ku c.Pattern h y m.Vars).2).map fun y=>⟨y,(Ku c.Pattern h y m.Vars).1⟩,0)
instance:Inhabited Morphism:=⟨⟨[],[]⟩⟩
instance:Inhabited AG:=⟨⟨default,[]⟩⟩
instance:Inhabited BP:=⟨⟨0,default,[]⟩⟩
theorem QC {x:List Morphism} {F:Morphism->List Int × Bool} {f:Int->List AG->Option (List AG)} (hx:x.length<=5000)
  (hf:∀ (i:Int) (s:List AG),0<=i->i<x.length->s.length<=5000->f i s=some (if (F (AB x i)).2=true then s++[⟨AB x i,(F (AB x i)).1⟩] else s)) :
  forA f 0 (x.length:Int) []=some ((x.filter fun y=>(F y).2).map fun y=>⟨y,(F y).1⟩):=by
 rw [Hx (a:=0) (b:=x.length) (s:=[]) (fun i=>((x.take i.toNat).filter fun y=>(F y).2).map fun y=>(⟨y,(F y).1⟩:AG)) (by omega) rfl,Int.toNat_natCast,List.take_length]
 intro i i0 i1
 have hl:(((x.take i.toNat).filter fun y=>(F y).2).map fun y=>(⟨y,(F y).1⟩:AG)).length<=5000:=by
  rw [List.length_map]
  have:=List.length_filter_le (fun y=>(F y).2) (x.take i.toNat)
  have:=List.length_take_le i.toNat x
  have:(x.take i.toNat).length<=x.length:=by rw [List.length_take]; omega
  omega
 rw [hf i _ i0 i1 hl,IA i0 i1,List.filter_append,List.map_append]
 cases hc:(F (AB x i)).2 <;> simp [hc]
theorem ef {s:A3} {p:Pattern} {c:AA} {m:AG} (hf:CA s.t) (hv:(BJ s.t).2=0) (hh:H1 s.t s.h) (ha:N5 s.t p s.h m) (hi:Ve s.t p c):CI s c m=some (DU s.t c s.h m s.injective):=by
 have gn:=hi.q.g.nodes
 have ge:=hi.q.g.edges
 have m1:=hi.map.nlen
 have m2:=hi.map.elen
 have m3:=ha.m.nlen
 have m4:=ha.m.elen
 unfold CI DU
 rw [Uf (by omega) (fun x hx=>by obtain ⟨i,i0,i1,rfl⟩:=EX hx; exact (hi.map.node i i0 i1).1) (by omega),bs,
  Uf (by omega) (fun x hx=>by obtain ⟨i,i0,i1,rfl⟩:=EX hx; exact (hi.map.edge i i0 i1).1) (by omega),bs,Ub hf,bs]
 dsimp only
 refine OS fun h0=>?_
 obtain ⟨e1,e2⟩:=T9 h0
 rw [QC (F:=fun y=>Ku c.Pattern s.h y m.Vars) e1]
 ·rfl
 ·intro i st i0 i1 hl
  have hm:=e2 _ (AV i0 i1)
  have hg:(m.Vars.length:Int)<=c.Pattern.Vars:=by have:=ha.len; have:=hi.vars; omega
  rw [AM i0 i1,bs,et hi.q (fun x hx=>OG (II hv) hi.q hh hm hx) hg ha.small,bs,←Jy]
  split
  ·rw [DY (by simp; unfold B9; omega)]; rfl
  ·rfl
theorem Pu {t:AD} {h:A2} {inj:Bool} {p:Pattern} {c:AA} {m:AG} (hv:(BJ t).2=0) (hh:H1 t h) (ha:N5 t p h m) (hi:Ve t p c) (e:(DU t c h m inj).2=0):(DU t c h m inj).1.length<=5000∧∀ x∈(DU t c h m inj).1,N5 t c.Pattern h x:=by
 unfold DU at e ⊢
 dsimp only at e ⊢
 split at e
 ·rename_i h1; exact absurd e h1
 rename_i h1
 rw [if_neg h1]
 obtain ⟨e1,e2⟩:=T9 (Classical.not_not.1 h1)
 refine ⟨by dsimp only; rw [List.length_map]; exact Nat.le_trans (List.length_filter_le _ _) e1,fun x hx=>?_⟩
 dsimp only at hx
 rw [List.mem_map] at hx
 obtain ⟨y,hy,rfl⟩:=hx
 rw [List.mem_filter] at hy
 have hm:=e2 y hy.1
 have hg:(m.Vars.length:Int)<=c.Pattern.Vars:=by have:=ha.len; have:=hi.vars; omega
 have:=aQ hi.q (fun x hx=>OG (II hv) hi.q hh hm hx) hg ha.small hy.2
 exact ⟨hi.q,hm,this.1,this.2⟩
end Go.Sf.Sc
