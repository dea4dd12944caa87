/- Plain lemmas: what the functions of the program and of the reference compute. -/
import Derived.Test.YtlbmpkmkmkgniaaGreatDoorP25
set_option linter.all false
set_option maxRecDepth 100000
namespace Go.Sf.Sc
open Go Go.Sf
theorem Pv {all:List Attr} {k:Int} (h:MD all k=0) (b:(AB all k).Names.length<=1000):-1000000<=(AB all k).Low∧(AB all k).High<=1000000:=by
 unfold MD at h;dsimp only at h;split at h
 ·cases h
 split at h
 ·cases h
 split at h
 ·split at h
  ·rename_i a; exact ⟨a.1,a.2.2⟩
  ·cases h
 split at h
 ·rename_i a; exact absurd h a
 split at h
 ·rename_i a; omega
 ·cases h
theorem XS {t:AC} {i:Int} (h:I1 t i=0):∀ k,((BQ t i).length:Int) - (AB t.Nodes i).Attrs.length<=k->k<(BQ t i).length->MD (BQ t i) k=0:=by
 unfold I1 at h;dsimp only at h;split at h
 ·cases h
 split at h
 ·cases h
 split at h
 ·cases h
 split at h
 ·cases h
 exact TO h
theorem OA {t:AC} {n:Nat} {a:Int} (b:0<=a):C5 t (n+1) a=C5 t n (par t a)++(AB t.Nodes a).Attrs:=by
 rw [C5,d2 (by omega)]
theorem S5 {t:AC} (d:BX t) (h:IA t) {Q:Attr->Prop} (Pv:∀ {all:List Attr} {k:Int},MD all k=0->(AB all k).Names.length<=1000->Q (AB all k)):∀ (n:Nat) (a:Int),a<t.Nodes.length->a<n->∀ x∈C5 t n a,Q x
 | 0,_,_,_=>by simp [C5]
 | n+1,a,c,r=>by
  by_cases f:a<0
  ·rw [JE f]; simp
  ·have m:=h.par a (by omega) c;intro x b;rw [OA (by omega)] at b;rcases List.mem_append.1 b with b | b
   ·exact S5 d h Pv n (par t a) (by omega) (by omega) x b
   ·obtain ⟨j,p,q,rfl⟩:=EH b;have e:BQ t a=C5 t a.toNat (par t a)++(AB t.Nodes a).Attrs:=by
     unfold BQ;rw [show (a+1).toNat=a.toNat+1 by omega,OA (by omega)]
    have o:(BQ t a).length=(C5 t a.toNat (par t a)).length+(AB t.Nodes a).Attrs.length:=by rw [e,d4]
    have g:=XS (h.node a (by omega) c) ((C5 t a.toNat (par t a)).length+j) (by omega) (by omega);have i:AB (BQ t a) ((C5 t a.toNat (par t a)).length+j)=AB (AB t.Nodes a).Attrs j:=by
     rw [e,UR,d2 (by omega)];unfold AB;congr 1;omega
    have l:=Mk d (Int.le_refl _) h.par c (AB (BQ t a) ((C5 t a.toNat (par t a)).length+j)) (AS (by omega) (by omega));have:=Pv g (by have:=l.names; omega)
    rwa [i] at this
theorem Yc {t:AC} (b:BX t) (h:IA t) {a:Int} (d:0<=a) (c:a<t.Nodes.length):∀ x∈BQ t a,-1000000<=x.Low∧x.High<=1000000:=S5 b h Pv _ a c (by omega)
theorem VH {t:AC} {k:Int} (d:G1 t k):∀ (n:Nat) (a b:Int),a<k->a<n->b∈Nt t n a->0<=b∧b<=a∧(BQ t b).length<=(C5 t n a).length
 | 0,_,_,_,_=>by simp [Nt]
 | n+1,a,b,e,h=>by
  intro c;rw [Nt] at c;split at c
  ·cases c
  ·rename_i f;have g:=d a (by omega) e;rw [OA (by omega)];rcases List.mem_cons.1 c with rfl | c
   ·refine ⟨by omega,by omega,?_⟩;unfold BQ;rw [MW d (b+1).toNat (n+1) b e (by omega) (by omega),OA (by omega)];exact d3 _
   ·have:=VH d n (par t a) b (by omega) (by omega) c;refine ⟨this.1,by omega,?_⟩;rw [d4]; omega
theorem Z2 {t:AC} (h:IA t) {a b:Int} (f:a<t.Nodes.length) (c:I4 t a b=true):(BQ t b).length<=(BQ t a).length:=by
 unfold I4 at c;rw [List.any_eq_true] at c;obtain ⟨x,d,e⟩:=c;rw [zzX] at e;subst e;by_cases g:a<0
 ·have:(a+1).toNat=0:=by omega
  rw [this] at d; cases d
 ·exact (VH h.par (a+1).toNat a b f (by omega) d).2.2
theorem Ye {α:Type} {a b:Int} {Q:Prop} [Decidable Q] {v:α} {X:Option α} {Y:α} (d:a=b↔Q) (h:Q->X=some Y):(if (!decide (a=b))=true then some v else X)=some (if ¬ Q then v else Y):=by
 by_cases c:Q
 ·rw [d2 (by simp [d.2 c]),d2 (by simpa using c),h c]
 ·rw [d1 (by simp; exact fun e=>c (d.1 e)),d1 c]
def QK (t:AC) (k:Int) (v:Ne) (j:Int):Bool:=decide (AB v j<(AB (BQ t k) j).Low)||decide ((AB (BQ t k) j).High<AB v j)
def H1 (t:AC) (k:Int) (v:Ne):Int:=
 if (t.Nodes.length:Int)<=k then 6 else if (AB t.Nodes k).Abstract=true then 13 else if ¬ v.length=(BQ t k).length then 20 else
 if anyR (QK t k v) 0 (BQ t k).length=true then 6 else 0
def H0 (t:AC) (g:Graph) (i:Int):Int:=
 if (t.Edges.length:Int)<=(AB g.Edges i).Type' then 6 else if P0 t g i=false then 13 else 0
def Iz (t:AC) (h:AQ):Int × Int:=
 if (BF t).2≠0 then (-1,(BF t).2) else if CZ h.Graph≠0 then (-1,CZ h.Graph) else if ¬ h.Values.length=h.Graph.Nodes.length then (-1,20) else
 match fst (fun i=>(nz (H1 t (AB h.Graph.Nodes i) (AB h.Values i))).map fun e=>(i,e)) 0 h.Graph.Nodes.length with
 | some r=>r
 | none=>(fst (fun i=>(nz (H0 t h.Graph i)).map fun e=>(i,e)) 0 h.Graph.Edges.length).getD (-1,0)
theorem Qq {t:AC} (hv:(BF t).2=0) {k:Int} (a:0<=k) (b:k<t.Nodes.length):JF t k=(BQ t k,0):=by
 unfold JF;rw [d2 (by simp [hv]),d1 (MY.2 ⟨a,b⟩)]
theorem X2 {x:Bool} {y:Bool}:(if x=true then some true else some y)=some (x||y):=by cases x <;> rfl
theorem fh {t:AC} (e:BX t) (hv:(BF t).2=0) {k:Int} (c:0<=k) (v:Ne):J6 t k v=some (H1 t k v):=by
 unfold J6 H1;by_cases a:(t.Nodes.length:Int)<=k
 ·rw [d1 (by simpa using a),d1 a]
 rw [d2 (by simpa using a),d2 a,AK c (by omega),bs];refine rN fun _=>?_;rw [X3 e,Qq hv c (by omega),bs];refine Ye (by simp only []; omega) fun f=>?_;rw [CP (QK t k v) 6]
 ·cases anyR (QK t k v) 0 (BQ t k).length <;> rfl
 ·intro j d b _;have b:j<(BQ t k).length:=b;rw [AK d b,bs,AK d (by omega)];simp only [bs,X2];unfold QK;cases decide (AB v j<(AB (BQ t k) j).Low) <;> cases decide ((AB (BQ t k) j).High<AB v j) <;> rfl
theorem fx {t:AC} (e:BX t) (hv:(BF t).2=0) {k:Int} (c:0<=k) (v:Ne):M0 t k v=some (H1 t k v):=by
 unfold M0 H1;by_cases a:(t.Nodes.length:Int)<=k
 ·rw [d1 (by simpa using a),d1 a]
 rw [d2 (by simpa using a),d2 a,AK c (by omega),bs];refine rN fun _=>?_;rw [X9 e,Qq hv c (by omega),bs];refine Ye (by simp only []; omega) fun f=>?_;rw [CP (QK t k v) 6]
 ·cases anyR (QK t k v) 0 (BQ t k).length <;> rfl
 ·intro j d b _;have b:j<(BQ t k).length:=b;rw [AK d (by omega),bs,AK d b];simp only [bs,X2];unfold QK;cases decide (AB v j<(AB (BQ t k) j).Low) <;> cases decide ((AB (BQ t k) j).High<AB v j) <;> rfl
theorem WR (e i:Int):(if (!decide (e=0))=true then some (C2.ret (σ:=Unit) (ρ:=Int × Int) (i,e)) else some (.next ()))=some (PT ((nz e).map fun e=>(i,e))):=by
 unfold nz;by_cases h:e=0 <;> simp [h,PT]
theorem aH {t:AC} (d:BX t) (h:AQ):Hs t h=some (Iz t h):=by
 unfold Hs Iz;rw [Rh d,bs];refine K1 fun hv=>?_;rw [OM,bs];refine K1 fun f=>?_;have go:=E9 f;refine Ye (by omega) fun m=>?_;rw [CW (fun i=>(nz (H1 t (AB h.Graph.Nodes i) (AB h.Values i))).map fun e=>(i,e)),GA]
 ·cases g:fst (fun i=>(nz (H1 t (AB h.Graph.Nodes i) (AB h.Values i))).map fun e=>(i,e)) 0 h.Graph.Nodes.length with
  | some r=>rfl
  | none=>
   have j:=C0.1 g;dsimp only;rw [CW (fun i=>(nz (H0 t h.Graph i)).map fun e=>(i,e)),GA]
   ·cases fst (fun i=>(nz (H0 t h.Graph i)).map fun e=>(i,e)) 0 h.Graph.Edges.length <;> rfl
   ·intro i a b _;have k:=go.fit _ (AS (l:=h.Graph.Edges) a b);rw [AK a b,bs];unfold H0 P0;by_cases c:(t.Edges.length:Int)<=(AB h.Graph.Edges i).Type'
    ·rw [d1 (by simpa using c),d1 c]; rfl
    ·rw [d2 (by simpa using c),d2 c,AK (by omega) (by omega),bs,AK (by omega) (by omega),bs,iw d,bs];cases O4 t (AB h.Graph.Edges i).Type' (AB h.Graph.Nodes (AB h.Graph.Edges i).From) (AB h.Graph.Nodes (AB h.Graph.Edges i).To) <;> rfl
 ·intro i a b _;rw [AK a b,bs,AK a (by omega),bs,fh d hv (go.kind _ (AS a b)).1,bs];exact WR _ i
theorem aS {t:AC} (d:BX t) (h:AQ):Kg t h=some (Iz t h):=by
 unfold Kg Iz;rw [Rj d,bs];refine K1 fun hv=>?_;rw [NN,bs];refine K1 fun f=>?_;have go:=E9 f;refine Ye (by omega) fun m=>?_;rw [CW (fun i=>(nz (H1 t (AB h.Graph.Nodes i) (AB h.Values i))).map fun e=>(i,e)),GA]
 ·cases g:fst (fun i=>(nz (H1 t (AB h.Graph.Nodes i) (AB h.Values i))).map fun e=>(i,e)) 0 h.Graph.Nodes.length with
  | some r=>rfl
  | none=>
   have j:=C0.1 g;dsimp only;rw [CW (fun i=>(nz (H0 t h.Graph i)).map fun e=>(i,e)),GA]
   ·cases fst (fun i=>(nz (H0 t h.Graph i)).map fun e=>(i,e)) 0 h.Graph.Edges.length <;> rfl
   ·intro i a b _;have k:=go.fit _ (AS (l:=h.Graph.Edges) a b);rw [AK a b,bs];unfold H0 P0;by_cases c:(t.Edges.length:Int)<=(AB h.Graph.Edges i).Type'
    ·rw [d1 (by simpa using c),d1 c]; rfl
    ·rw [d2 (by simpa using c),d2 c,AK (by omega) (by omega),bs,AK (by omega) (by omega),bs,jK d,bs];cases O4 t (AB h.Graph.Edges i).Type' (AB h.Graph.Nodes (AB h.Graph.Edges i).From) (AB h.Graph.Nodes (AB h.Graph.Edges i).To) <;> rfl
 ·intro i a b _;rw [AK a b,bs,AK a (by omega),bs,fx d hv (go.kind _ (AS a b)).1,bs];exact WR _ i
structure IN (t:AC) (h:AQ):Prop where
 g:KZ h.Graph
 len:h.Values.length=h.Graph.Nodes.length
 kind:∀ i:Int,0<=i->i<h.Graph.Nodes.length->0<=AB h.Graph.Nodes i∧AB h.Graph.Nodes i<t.Nodes.length
 row:∀ i:Int,0<=i->i<h.Graph.Nodes.length->(AB h.Values i).length=(BQ t (AB h.Graph.Nodes i)).length
 low:∀ i:Int,0<=i->i<h.Graph.Nodes.length->∀ x∈AB h.Values i,-1000000<=x∧x<=1000000
 ge:CZ h.Graph=0
 ty:E5 t h.Graph=true
theorem Xu {t:AC} (y:BX t) {h:AQ} (e:(Iz t h).2=0):(BF t).2=0∧IN t h:=by
 unfold Iz at e;split at e
 ·rename_i f; exact absurd e f
 split at e
 ·rename_i f; exact absurd e f
 split at e
 ·cases e
 rename_i f u z;have hv:=Classical.not_not.1 f;have go:=E9 (Classical.not_not.1 u);have m:∀ i:Int,0<=i->i<h.Graph.Nodes.length->H1 t (AB h.Graph.Nodes i) (AB h.Values i)=0:=by
  split at e
  ·rename_i r c;obtain ⟨i,_,_,k,_⟩:=C8 c;unfold nz at k;split at k
   ·cases k
   ·rename_i d; cases k; exact absurd e d
  ·rename_i c;exact fun i a b=>Mb.1 (LA.1 (C0.1 c i a b))
 have o:∀ i:Int,0<=i->i<h.Graph.Nodes.length->(0<=AB h.Graph.Nodes i∧AB h.Graph.Nodes i<t.Nodes.length)∧(AB h.Values i).length=(BQ t (AB h.Graph.Nodes i)).length∧∀ j:Int,0<=j->j<(BQ t (AB h.Graph.Nodes i)).length->QK t (AB h.Graph.Nodes i) (AB h.Values i) j=false:=by
  intro i a b;have C:=(go.kind _ (AS a b)).1;have:=m i a b;unfold H1 at this;split at this
  ·cases this
  split at this
  ·cases this
  split at this
  ·cases this
  split at this
  ·cases this
  rename_i F G A B;exact ⟨⟨C,by omega⟩,Classical.not_not.1 A,EQ.1 (by simpa using B)⟩
 have D:∀ i:Int,0<=i->i<h.Graph.Edges.length->H0 t h.Graph i=0:=by
  have q:fst (fun i=>(nz (H1 t (AB h.Graph.Nodes i) (AB h.Values i))).map fun e=>(i,e)) 0 h.Graph.Nodes.length=none:=C0.2 fun i a b=>by rw [m i a b]; rfl
  rw [q] at e;dsimp only at e;cases c:fst (fun i=>(nz (H0 t h.Graph i)).map fun e=>(i,e)) 0 h.Graph.Edges.length with
  | some r=>
   rw [c] at e;obtain ⟨i,_,_,k,_⟩:=C8 c;unfold nz at k;split at k
   ·cases k
   ·rename_i d; cases k; exact absurd e d
  | none=>exact fun i a b=>Mb.1 (LA.1 (C0.1 c i a b))
 have s:E5 t h.Graph=true:=by
  unfold E5;rw [zzZ,Bool.not_eq_true',Bool.not_eq_true',List.any_eq_false,List.any_eq_false];refine ⟨fun n m=>?_,fun x p=>?_⟩
  ·obtain ⟨i,a,b,rfl⟩:=EH m;have:=(o i a b).1.2;simp; omega
  ·obtain ⟨i,a,b,rfl⟩:=EH p;have:=D i a b;unfold H0 at this;split at this
   ·cases this
   ·simp; omega
 suffices g:∀ i:Int,0<=i->i<h.Graph.Nodes.length->∀ x∈AB h.Values i,-1000000<=x∧x<=1000000 from ⟨hv,go,Classical.not_not.1 z,fun i a b=>(o i a b).1,fun i a b=>(o i a b).2.1,g,Classical.not_not.1 u,s⟩
 intro i a b x p;obtain ⟨v,H,E⟩:=o i a b;obtain ⟨j,w,I,rfl⟩:=EH p;have:=E j w (by omega);unfold QK at this;simp only [Bool.or_eq_false_iff,decide_eq_false_iff_not] at this;have:=Yc y (HN hv) v.1 v.2 _ (AS (l:=BQ t (AB h.Graph.Nodes i)) w (by omega));omega
end Go.Sf.Sc
namespace Go.Sf.Sc
open Go Go.Sf
def HT (t:AC) (p g:Graph) (m:Morphism) (i:Int):dD:=
 if AB m.Nodes i<0∨g.Nodes.length<=AB m.Nodes i then some 6 else if I4 t (AB g.Nodes (AB m.Nodes i)) (AB p.Nodes i)=false then some 13 else none
def KM (t:AC) (p g:Graph) (m:Morphism):Int:=
 if m.Nodes.length≠p.Nodes.length∨m.Edges.length≠p.Edges.length then 20 else
 match fst (HT t p g m) 0 m.Nodes.length with
 | some e=>e
 | none=>(fst (E2 p g m) 0 m.Edges.length).getD 0
def Jp (t:AC) (p g:Graph) (m:Morphism) (inj:Bool):Int:=
 if GE t p g≠0 then GE t p g else if KM t p g m≠0 then KM t p g m else if (inj&&!K7 m)=true then 5 else 0
structure Vc (t:AC) (p g:Graph) (m:Morphism):Prop where
 nlen:m.Nodes.length=p.Nodes.length
 elen:m.Edges.length=p.Edges.length
 node:∀ i:Int,0<=i->i<m.Nodes.length->(0<=AB m.Nodes i∧AB m.Nodes i<g.Nodes.length)∧I4 t (AB g.Nodes (AB m.Nodes i)) (AB p.Nodes i)=true
 edge:∀ i:Int,0<=i->i<m.Edges.length->0<=AB m.Edges i∧AB m.Edges i<g.Edges.length
theorem P5 {t:AC} {p g:Graph} (h:GE t p g=0):(BF t).2=0∧KZ p∧KZ g∧(∀ n∈p.Nodes,0<=n∧n<t.Nodes.length)∧∀ n∈g.Nodes,0<=n∧n<t.Nodes.length:=by
 unfold GE at h;split at h
 ·rename_i a; exact absurd h a
 split at h
 ·rename_i a; exact absurd h a
 split at h
 ·rename_i a; exact absurd h a
 split at h
 ·rename_i a e f b;rw [zzZ] at b;have c:=E9 (Classical.not_not.1 e);have d:=E9 (Classical.not_not.1 f);exact ⟨Classical.not_not.1 a,c,d,(NS c b.1).1,(NS d b.2).1⟩
 ·cases h
theorem YG {t:AC} {p g:Graph} {m:Morphism} (h:KM t p g m=0):Vc t p g m:=by
 unfold KM at h;split at h
 ·cases h
 rename_i f;have c:fst (HT t p g m) 0 m.Nodes.length=none:=by
  split at h
  ·rename_i r d;obtain ⟨i,_,_,k,_⟩:=C8 d;subst h;unfold HT at k;split at k
   ·cases k
   ·split at k <;> cases k
  ·assumption
 rw [c] at h;have e:=Uj (fun i=>by
  unfold E2;split
  ·simp
  ·split
   ·simp
   ·split <;> simp) h
 refine ⟨by omega,by omega,fun i a b=>?_,fun i a b=>?_⟩
 ·have:=C0.1 c i a b;unfold HT at this;split at this
  ·cases this
  ·split at this
   ·cases this
   ·rename_i x y;exact ⟨by omega,by simpa using y⟩
 ·have:=e i a b;unfold E2 at this;split at this
  ·cases this
  ·omega
theorem aM {t:AC} (o:BX t) {p g:Graph} (q:GE t p g=0) (m:Morphism):H7 t p g m=some (KM t p g m):=by
 obtain ⟨hv,s,x,tp,u⟩:=P5 q;unfold H7 KM;refine Pb (by simp; try omega) fun v=>?_;rw [dx o (HN hv) hv,bs,CW (HT t p g m),GA]
 ·cases w:fst (HT t p g m) 0 m.Nodes.length with
  | some e=>rfl
  | none=>
   dsimp only;rw [CW (E2 p g m),HL];intro i b n _;unfold E2;rw [AK b n,bs];by_cases a:AB m.Edges i<0∨g.Edges.length<=AB m.Edges i
   ·rw [d1 (by simpa using a),d1 a]; rfl
   ·have o:=s.fit _ (AS (l:=p.Edges) b (by omega));rw [d2 (by simpa using a),d2 a,AK b (by omega),bs,AK (by omega) (by omega),bs];by_cases c:(AB p.Edges i).Type'=(AB g.Edges (AB m.Edges i)).Type'
    ·rw [d2 (by simpa using c),d2 (by simpa using c),AK (by omega) (by omega),bs];by_cases d:AB m.Nodes (AB p.Edges i).From=(AB g.Edges (AB m.Edges i)).From
     ·rw [d2 (by simpa using d),AK (by omega) (by omega),bs,bs];by_cases f:AB m.Nodes (AB p.Edges i).To=(AB g.Edges (AB m.Edges i)).To
      ·rw [d2 (by simpa using f),d2 (by simp [d,f])]; rfl
      ·rw [d1 (by simpa using f),d1 (.inr f)]; rfl
     ·rw [d1 (by simpa using d),bs,d1 rfl,d1 (.inl d)]; rfl
    ·rw [d1 (by simpa using c),d1 c]; rfl
 ·intro i b n _;unfold HT;rw [AK b n,bs];by_cases a:AB m.Nodes i<0∨g.Nodes.length<=AB m.Nodes i
  ·rw [d1 (by simpa using a),d1 a]; rfl
  ·have h:=tp _ (AS (l:=p.Nodes) b (by omega));have j:=u _ (AS (l:=g.Nodes) (show 0<=AB m.Nodes i by omega) (by omega));rw [d2 (by simpa using a),d2 a,AK b (by omega),bs,AK h.1 (by unfold J5; rw [d7,CI]; exact h.2),bs,AK (by omega) (by omega),bs];have e:AB (J5 t) (AB p.Nodes i)=Ko t (AB p.Nodes i):=by unfold J5; exact I9 (Ko t) h.1 h.2
   rw [e,AK j.1 (by unfold Ko; rw [d7,CI]; exact j.2),bs];have r:AB (Ko t (AB p.Nodes i)) (AB g.Nodes (AB m.Nodes i))=I4 t (AB g.Nodes (AB m.Nodes i)) (AB p.Nodes i):=by unfold Ko; exact I9 (fun k=>I4 t k (AB p.Nodes i)) j.1 j.2
   rw [r];cases I4 t (AB g.Nodes (AB m.Nodes i)) (AB p.Nodes i) <;> rfl
theorem X7 {l:Ne} (e:l.length<=1000):Iv l=some (!Lk l):=by
 unfold Iv;rw [d1 (by omega)];congr 1;have b:=SZ l;have c:=NH (l:=l);cases a:dupB l with
 | false=>rw [c.2 (b.1 a)]; rfl
 | true=>
  cases d:Lk l with
  | false=>rfl
  | true=>rw [b.2 (c.1 d)] at a; cases a
theorem X5 {t:AC} (a:BX t) (p g:Graph) (m:Morphism) (inj:Bool):HF t p g m inj=some (Jp t p g m inj):=by
 unfold HF Jp;rw [X8 a,bs];refine IR fun b=>?_;rw [aM a b,bs];refine IR fun e=>?_;obtain ⟨_,d,f,_⟩:=P5 b;have c:=YG e;have:=d.nodes; have:=d.edges; have:=c.nlen; have:=c.elen;rw [X7 (by omega),X7 (by omega)];unfold K7;cases inj <;> cases Lk m.Nodes <;> cases Lk m.Edges <;> rfl
theorem fv (l:Ne):Jz l=some (Lk l):=Y4 l
theorem aU {t:AC} {p g:Graph} (o:GE t p g=0) (m:Morphism) (inj:Bool):L5 t p g m inj=some (if KM t p g m≠0 then KM t p g m else if (inj&&!K7 m)=true then 5 else 0):=by
 obtain ⟨hv,u,x,tp,v⟩:=P5 o;unfold L5 KM;by_cases j:m.Nodes.length≠p.Nodes.length∨m.Edges.length≠p.Edges.length
 ·rw [d1 (by simp; try omega),d1 j]; rfl
 rw [d2 (by simp; try omega),d2 j,CW (HT t p g m),GA]
 ·cases q:fst (HT t p g m) 0 m.Nodes.length with
  | some e=>
   have:e≠0:=by
    obtain ⟨i,_,_,k,_⟩:=C8 q;rintro rfl;unfold HT at k;split at k
    ·cases k
    ·split at k <;> cases k
   dsimp only;rw [d1 this]
  | none=>
   dsimp only;rw [CW (E2 p g m),GA]
   ·cases r:fst (E2 p g m) 0 m.Edges.length with
    | some e=>
     have:e≠0:=by
      obtain ⟨i,_,_,k,_⟩:=C8 r;rintro rfl;unfold E2 at k;split at k
      ·cases k
      ·split at k
       ·cases k
       ·split at k <;> cases k
     simp only [Option.getD_some];rw [d1 this]
    | none=>
     simp only [Option.getD_none,fv];unfold K7;cases inj <;> cases Lk m.Nodes <;> cases Lk m.Edges <;> rfl
   intro i b h _;unfold E2;rw [AK b h];simp only [bs,RK];by_cases a:AB m.Edges i<0∨g.Edges.length<=AB m.Edges i
   ·rw [d1 (by simpa using a),d1 a]; rfl
   ·have w:=u.fit _ (AS (l:=p.Edges) b (by omega));rw [d2 (by simpa using a),d2 a,AK b (by omega),bs,AK (by omega) (by omega),bs];by_cases c:(AB p.Edges i).Type'=(AB g.Edges (AB m.Edges i)).Type'
    ·rw [d2 (by simpa using c),d2 (by simpa using c),AK (by omega) (by omega),bs];by_cases d:AB m.Nodes (AB p.Edges i).From=(AB g.Edges (AB m.Edges i)).From
     ·rw [d2 (by simpa using d),AK (by omega) (by omega),bs,bs];by_cases f:AB m.Nodes (AB p.Edges i).To=(AB g.Edges (AB m.Edges i)).To
      ·rw [d2 (by simpa using f),d2 (by simp [d,f])]; rfl
      ·rw [d1 (by simpa using f),d1 (.inr f)]; rfl
     ·rw [d1 (by simpa using d),bs,d1 rfl,d1 (.inl d)]; rfl
    ·rw [d1 (by simpa using c),d1 c]; rfl
 ·intro i b h _;unfold HT;rw [AK b h];simp only [bs,RK];by_cases a:AB m.Nodes i<0∨g.Nodes.length<=AB m.Nodes i
  ·rw [d1 (by simpa using a),d1 a]; rfl
  ·have s:=tp _ (AS (l:=p.Nodes) b (by omega));have n:=v _ (AS (l:=g.Nodes) (show 0<=AB m.Nodes i by omega) (by omega));rw [d2 (by simpa using a),d2 a,AK (by omega) (by omega),bs,AK b (by omega),bs,Rk (HN hv) n.1 n.2 s.1,bs];cases I4 t (AB g.Nodes (AB m.Nodes i)) (AB p.Nodes i) <;> rfl
theorem YC {t:AC} (a:BX t) (p g:Graph) (m:Morphism) (inj:Bool):Kh t p g m inj=some (Jp t p g m inj):=by
 unfold Kh Jp;rw [Ss a,bs];refine IR fun b=>?_;rw [aU b,bs]
theorem Vp {t:AC} {p g:Graph} {m:Morphism} {inj:Bool} (h:Jp t p g m inj=0):GE t p g=0∧Vc t p g m:=by
 unfold Jp at h;split at h
 ·rename_i a; exact absurd h a
 split at h
 ·rename_i a; exact absurd h a
 rename_i a b;exact ⟨Classical.not_not.1 a,YG (Classical.not_not.1 b)⟩
end Go.Sf.Sc
namespace Go.Sf.Sc
open Go Go.Sf
section
variable {α σ ρ:Type}
def ET (step:α->σ->C2 σ ρ):List α->σ->σ ⊕ ρ
 | [],s=>.inl s
 | a::r,s=>match step a s with
  | .next s'=>ET step r s'
  | .brk s'=>.inl s'
  | .ret r=>.inr r
theorem RD [Inhabited α] {l:List α} {f:Int->σ->Option (C2 σ ρ)} (step:α->σ->C2 σ ρ) (I:σ->Prop) (h:∀ (i:Int) s,0<=i->i<l.length->I s->f i s=some (step (AB l i) s)∧∀ s',step (AB l i) s=.next s'->I s') :
  ∀ (n:Nat) (a:Int) (s:σ),0<=a->a+n=l.length->I s->forGo f n a s=some (ET step (l.drop a.toNat) s)
 | 0,a,s,b,j,_=>by
  rw [List.drop_eq_nil_of_le (by omega)]; rfl
 | n+1,a,s,b,j,k=>by
  obtain ⟨e,g⟩:=h a s b (by omega) k;have c:l.drop a.toNat=AB l a::l.drop (a+1).toNat:=by
   rw [show (a+1).toNat=a.toNat+1 by omega,List.drop_eq_getElem_cons (by omega)];congr 1;unfold AB;rw [List.getD_eq_getElem?_getD,List.getElem?_eq_getElem (by omega)]; rfl
  rw [Hr,e,c,ET];cases d:step (AB l a) s with
  | next s'=>
   simp only;exact RD step I h n (a+1) s' (by omega) (by omega) (g s' d)
  | brk s'=>rfl
  | ret r=>rfl
theorem O7 [Inhabited α] {l:List α} {f:Int->σ->Option (C2 σ ρ)} (step:α->σ->C2 σ ρ) (I:σ->Prop) {s:σ} (a:I s) (h:∀ (i:Int) s,0<=i->i<l.length->I s->f i s=some (step (AB l i) s)∧∀ s',step (AB l i) s=.next s'->I s') :
  forR f 0 l.length s=some (ET step l s):=by
 have:=RD step I h l.length 0 s (by omega) (by omega) a;unfold forR;rw [show ((l.length:Int) - 0).toNat=l.length by omega];exact this
theorem Wr [Inhabited α] (step:α->σ->C2 σ ρ) (I:σ->Prop):∀ (l:List α) (s s':σ),I s->(∀ a∈l,∀ s s',I s->step a s=.next s'->I s')->(∀ a∈l,∀ s s',step a s≠.brk s')->ET step l s=.inl s'->I s'
 | [],s,s',h,_,_,e=>by cases e; exact h
 | a::r,s,s',h,d,f,e=>by
  rw [ET] at e;split at e
  ·rename_i s2 c;exact Wr step I r s2 s' (d a (by simp) s s2 h c) (fun a b=>d a (by simp [b])) (fun a b=>f a (by simp [b])) e
  ·rename_i s2 c; exact absurd c (f a (by simp) _ _)
  ·cases e
end
def ES (x:Term) (l:Ne):Int:=if x.Var<0 then x.Add else A3 (AB l x.Var+x.Add)
theorem RL {x:Term} {l:Ne} (h:x.Var<l.length):F3 x l=some (ES x l):=by
 unfold F3 ES;by_cases a:x.Var<0
 ·rw [d1 (by simpa using a),d1 a]
 ·rw [d2 (by simpa using a),d2 a,AK (by omega) h]; rfl
theorem U5 {x:Term} {l:Ne} (h:x.Var<l.length):Jc x l=some (ES x l):=RL h
theorem cO {x:Term} {l:Ne} (a:-1<=x.Var) (h:x.Var<l.length) (b:l.length<=1000):HV x l=some (ES x l,0):=by
 unfold HV DW;rw [BC (by omega) (by omega),bs,d2 (by simp; omega),RL h]; rfl
theorem Sp {x:Term} {l:Ne} (a:-1<=x.Var) (h:x.Var<l.length):IV x l=some (ES x l,0):=by
 unfold IV;rw [d2 (by simp; omega),U5 h]; rfl
def JJ (x:Test) (l:Ne):Bool:=(decide (x.Kind=1)&&decide (ES x.Left l<=ES x.Right l))||(decide (x.Kind=2)&&decide (ES x.Left l=ES x.Right l))
structure JB (n:Int) (x:Term):Prop where
 low:-1<=x.Var
 high:x.Var<n
 add:-1000000<=x.Add∧x.Add<=1000000
def Nv (l:Ne):Prop:=∀ x∈l,-2000000<=x∧x<=2000000
theorem QW {n:Int} {x:Term} (h:JB n x) {l:Ne} (b:Nv l) (c:n<=l.length):ES x l=(if x.Var<0 then x.Add else AB l x.Var+x.Add)∧-3000000<=ES x l∧ES x l<=3000000:=by
 unfold ES;have:=h.add;by_cases a:x.Var<0
 ·rw [d1 a,d1 a]; omega
 ·have d:=h.high;have:=b _ (AS (l:=l) (show 0<=x.Var by omega) (by omega));rw [d2 a,d2 a,BC (by omega) (by omega)]; omega
theorem U4 {n:Int} {x:Term} (h:JB n x) {l:Ne} (b:n<=l.length):Kb x l=some (ES x l,true):=by
 have c:=h.low;have d:=h.high;unfold Kb ES;by_cases a:x.Var=-1
 ·rw [d1 (by simpa using a),d1 (by omega)]
 ·rw [d2 (by simpa using a),d2 (by simp; omega),d2 (by omega),AK (by omega) (by omega)]; rfl
theorem r_holds {n:Int} {x:Test} (b:JB n x.Left) (c:JB n x.Right) {l:Ne} (a:n<=l.length):Lz x l=some (JJ x l):=by
 unfold Lz;rw [U4 b a,U4 c a]; rfl
theorem VL {a b:Int} (k:-4000000<=a∧a<=4000000) (l:-4000000<=b∧b<=4000000):IB a b=some (if a+b<0 then (-1,a+b+18446744073709551616) else (0,a+b)):=by
 have i:∀ c:Int,IntKind.u64.wrap c=c % 18446744073709551616:=fun c=>by
  simp [IntKind.wrap,IntKind.signed,IntKind.bits]
 have j:∀ c:Int,-4000000<=c∧c<=4000000->Lv .i64 .shr c 63=some (if c<0 then -1 else 0):=by
  intro c o;unfold Lv;have e:c.fdiv (2 ^ (min (63:Int).toNat (IntKind.bits .i64)))=if c<0 then -1 else 0:=by
   show c.fdiv (2 ^ 63)=_;rw [Int.fdiv_eq_ediv_of_nonneg _ (by decide)];split <;> omega
  simp only [e];have:(0:Int)<=63∧IntKind.min .i64<=(if c<0 then -1 else 0)∧(if c<0 then -1 else 0)<=IntKind.max .i64:=by
   split <;> decide
  rw [d1 this]
 unfold IB JL;rw [i,i,d1 (by omega),bs,j a k,j b l,bs,bs];congr 1;have d:∀ c:Int,-10<=c->c<=10->A3 c=c:=fun c f g=>BC (by omega) (by omega);have m:(a % 18446744073709551616+b % 18446744073709551616+0) / 18446744073709551616=if a<0∧b<0 then 1 else if (a<0∨b<0)∧0<=a+b then 1 else 0:=by
  split
  ·omega
  ·split <;> omega
 have n:(a % 18446744073709551616+b % 18446744073709551616+0) % 18446744073709551616=if a+b<0 then a+b+18446744073709551616 else a+b:=by
  split <;> omega
 rw [m,n];by_cases f:a<0 <;> by_cases g:b<0
 ·simp only [f,g,and_self,if_true];rw [d _ (by decide) (by decide),d _ (by decide) (by decide),d1 (by omega),d1 (by omega)]; rfl
 ·by_cases h:a+b<0
  ·simp only [f,g,and_false,if_true,if_false,true_or,true_and,h,show ¬ 0<=a+b by omega];rw [d _ (by decide) (by decide),d _ (by decide) (by decide)]; rfl
  ·simp only [f,g,and_false,if_true,if_false,true_or,true_and,h,show 0<=a+b by omega];rw [d _ (by decide) (by decide),d _ (by decide) (by decide)]; rfl
 ·by_cases h:a+b<0
  ·simp only [f,g,false_and,if_true,if_false,or_true,true_and,h,show ¬ 0<=a+b by omega];rw [d _ (by decide) (by decide),d _ (by decide) (by decide)]; rfl
  ·simp only [f,g,false_and,if_true,if_false,or_true,true_and,h,show 0<=a+b by omega];rw [d _ (by decide) (by decide),d _ (by decide) (by decide)]; rfl
 ·have h:¬ a+b<0:=by omega
  simp only [f,g,false_and,and_self,if_false,or_self,h];rw [d _ (by decide) (by decide),d _ (by decide) (by decide)]; rfl
def KS (a:Int):Int × Int:=if a<0 then (-1,a+18446744073709551616) else (0,a)
theorem WW {n:Int} {x:Term} (h:JB n x) {l:Ne} (a:Nv l) (d:n<=l.length):GX x l=some ((KS (ES x l)).1,(KS (ES x l)).2,true):=by
 have f:=h.low;have g:=h.high;have i:=h.add;have b:=(QW h a d).1;unfold GX;by_cases c:x.Var=-1
 ·have e:ES x l=x.Add:=by rw [b,d1 (by omega)]
  rw [e,d1 (by simpa using c),VL (by omega) (by omega),bs,Int.zero_add]; rfl
 ·have:=a _ (AS (l:=l) (show 0<=x.Var by omega) (by omega));have e:ES x l=AB l x.Var+x.Add:=by rw [b,d2 (by omega)]
  rw [e,d2 (by simpa using c),d2 (by simp; omega),AK (by omega) (by omega),bs,VL (by omega) (by omega),bs]; rfl
theorem dl (a b:Int):cmp_Compare_int a b=some (if a<b then -1 else if b<a then 1 else 0):=by
 unfold cmp_Compare_int cmp_isNaN_int;simp only [bs,decide_true,Bool.not_true,Bool.false_eq_true,if_false,zzX];split
 ·rfl
 ·split <;> rfl
theorem pR (a b:Int):JG a b=some (if a<b then -1 else if b<a then 1 else 0):=dl a b
theorem iS (a b:Int):Mp [a,b]=some (if a=0 then b else a):=by
 unfold Mp;show thenR (forGo _ 2 0 ()) _ _=_;rw [Hr,show AL [a,b] 0=some a from rfl,bs];by_cases c:a=0
 ·rw [d2 (by simp [c]),d1 c];show thenR (forGo _ 1 (0+1) ()) _ _=_;rw [Hr,show AL [a,b] (0+1)=some b from rfl,bs];by_cases d:b=0
  ·rw [d2 (by simp [d]),d]; rfl
  ·rw [d1 (by simp [d])]; rfl
 ·rw [d1 (by simp [c]),d2 c]; rfl
theorem p_holds {n:Int} {x:Test} (e:JB n x.Left) (f:JB n x.Right) {l:Ne} (c:Nv l) (d:n<=l.length):GR x l=some (JJ x l):=by
 have g:=(QW e c d).2;have s2:=(QW f c d).2;unfold GR JJ;rw [WW e c d,WW f c d];simp only [bs,Bool.not_true,Bool.or_self,Bool.false_eq_true,if_false,dl,pR,iS];generalize ES x.Left l=a at g;generalize ES x.Right l=b at s2;have key:(if (if (KS a).1<(KS b).1 then (-1:Int) else if (KS b).1<(KS a).1 then 1 else 0)=0 then (if (KS a).2<(KS b).2 then (-1:Int) else if (KS b).2<(KS a).2 then 1 else 0) else (if (KS a).1<(KS b).1 then (-1:Int) else if (KS b).1<(KS a).1 then 1 else 0))=if a<b then -1 else if b<a then 1 else 0:=by
  unfold KS;by_cases h:a<0 <;> by_cases i:b<0 <;> simp only [h,i,if_true,if_false] <;> (repeat' split) <;> omega
 rw [key];congr 2
 ·congr 1;rw [decide_eq_decide]
  repeat' split
  all_goals omega
 ·congr 1;rw [decide_eq_decide]
  repeat' split
  all_goals omega
end Go.Sf.Sc
namespace Go.Sf.Sc
open Go Go.Sf
structure Qa (t:AC) (q:Pattern):Prop where
 g:KZ q.Graph
 kind:∀ n∈q.Graph.Nodes,0<=n∧n<t.Nodes.length
 vars:0<=q.Vars∧q.Vars<=12
 few:q.Slots.length<=10∧q.Tests.length<=10
 slot:∀ s∈q.Slots,(0<=s.Node∧s.Node<q.Graph.Nodes.length)∧(0<=s.Attr∧s.Attr<(BQ t (AB q.Graph.Nodes s.Node)).length)∧JB q.Vars s.Term
 test:∀ x∈q.Tests,(x.Kind=1∨x.Kind=2)∧JB q.Vars x.Left∧JB q.Vars x.Right
 ge:CZ q.Graph=0
 ty:E5 t q.Graph=true
theorem W4 {n:Int} {x:Term} (h:M4 n x=true):JB n x:=by
 unfold M4 at h;simp only [zzZ,zzX] at h;exact ⟨h.1.1.1,h.1.1.2,h.1.2,h.2⟩
theorem dX {n:Int} {l:List Test} (h:JR n l=0):∀ x∈l,(x.Kind=1∨x.Kind=2)∧JB n x.Left∧JB n x.Right:=by
 unfold JR at h;split at h
 ·cases h
 split at h
 ·cases h
 have c:=TO h;intro x b;obtain ⟨i,d,e,rfl⟩:=EH b;have:=c i d e;unfold MK at this;split at this
 ·cases this
 split at this
 ·rename_i f a;rw [zzZ] at a;exact ⟨by omega,W4 a.1,W4 a.2⟩
 ·cases this
theorem ZW (n:Int) (l:List Test):JR n l≠9:=by
 unfold JR;split
 ·decide
 split
 ·decide
 intro h;cases a:fst (fun i=>nz (MK n (AB l i))) 0 l.length with
 | none=>rw [a] at h; cases h
 | some r=>
  rw [a] at h;obtain ⟨i,_,_,k,_⟩:=C8 a;simp only [Option.getD_some] at h;subst h;unfold nz MK at k;split at k
  ·cases k
  ·rename_i b;split at k
   ·cases k
   ·split at k <;> cases k
theorem Y3 {t:AC} {q:Pattern} (hv:(BF t).2=0) (h:Jv t q=0∨Jv t q=9):Qa t q:=by
 have m:=TQ q.Graph;unfold Jv at h;rw [d2 (by simp [hv])] at h;split at h
 ·omega
 rename_i d;have g:=E9 (Classical.not_not.1 d);split at h
 ·omega
 rename_i b;split at h
 ·omega
 rename_i n;split at h
 ·omega
 rename_i o;split at h
 ·omega
 rename_i e;split at h
 ·rename_i f;have:=ZW q.Vars q.Tests;omega
 rename_i f;refine ⟨g,(NS g (by simpa using b)).1,by omega,by omega,fun s k=>?_,dX (Classical.not_not.1 f),Classical.not_not.1 d,by simpa using b⟩;have c:Pw t q s=false:=by
  rw [Bool.not_eq_true,List.any_eq_false] at e;simpa using e s k
 unfold Pw at c;simp only [Bool.or_eq_false_iff,Bool.not_eq_false',decide_eq_false_iff_not] at c;obtain ⟨⟨⟨a,r⟩,u⟩,v,w⟩:=c;unfold Oy at a;dsimp only at a;split at a
 ·cases a
 rename_i p;have j:=(NS g (by simpa using b)).1 _ (AS (l:=q.Graph.Nodes) (show 0<=s.Node by omega) (by omega));rw [Qq hv j.1 j.2] at a;split at a
 ·cases a
 rename_i i;have i:¬ (s.Attr<0∨((BQ t (AB q.Graph.Nodes s.Node)).length:Int)<=s.Attr):=i;exact ⟨by omega,by omega,by omega,by omega,by omega,by omega⟩
def Ll (h:AQ) (m:Morphism) (s:EG):Int:=AB (AB h.Values (AB m.Nodes s.Node)) s.Attr
def Nh (h:AQ) (m:Morphism) (s:EG) (st:Ne × d0):Ne × d0:=
 if 0<=s.Term.Var∧AB st.2 s.Term.Var=false then (CJ st.1 s.Term.Var (A3 (Ll h m s - s.Term.Add)),CJ st.2 s.Term.Var true) else st
def FU {ρ:Type} (r:ρ) (h:AQ) (m:Morphism) (s:EG) (st:Ne × d0):C2 (Ne × d0) ρ:=
 if ES s.Term (Nh h m s st).1=Ll h m s then .next (Nh h m s st) else .ret r
structure VI (n:Int) (st:Ne × d0):Prop where
 l1:(st.1.length:Int)=n
 l2:(st.2.length:Int)=n
 small:Nv st.1
structure Jl (n:Int) (h:AQ) (m:Morphism) (s:EG):Prop where
 node:0<=s.Node∧s.Node<m.Nodes.length
 val:0<=AB m.Nodes s.Node∧AB m.Nodes s.Node<h.Values.length
 attr:0<=s.Attr∧s.Attr<(AB h.Values (AB m.Nodes s.Node)).length
 term:JB n s.Term
 has:-1000000<=Ll h m s∧Ll h m s<=1000000
theorem OP {t:AC} (d:IA t) {q:Pattern} {h:AQ} {m:Morphism} (e:Qa t q) (b:IN t h) (c:Vc t q.Graph h.Graph m) {s:EG} (f:s∈q.Slots):Jl q.Vars h m s:=by
 obtain ⟨i,j,k⟩:=e.slot s f;have l:=c.nlen;have a:=c.node s.Node i.1 (by omega);have n:=b.row _ a.1.1 a.1.2;have g:=b.kind _ a.1.1 a.1.2;have o:=Z2 d g.2 a.2;have hv:=b.len;refine ⟨by omega,by omega,by omega,k,?_⟩;unfold Ll;exact b.low _ a.1.1 a.1.2 _ (AS j.1 (by omega))
theorem Ok {α:Type} (l:List α) (i:Int) (a:α):(CJ l i a).length=l.length:=by unfold CJ; rw [List.length_set]
theorem Wt {α:Type} {l:List α} {i:Int} {a x:α} (h:x∈CJ l i a):x∈l∨x=a:=List.mem_or_eq_of_mem_set h
theorem am {n:Int} {h:AQ} {m:Morphism} {s:EG} (b:Jl n h m s) {st:Ne × d0} (hi:VI n st):VI n (Nh h m s st):=by
 have c:=b.has;have d:=b.term.add;unfold Nh;split
 ·refine ⟨by rw [Ok]; exact hi.l1,by rw [Ok]; exact hi.l2,fun x a=>?_⟩;rcases Wt a with a | rfl
  ·exact hi.small x a
  ·rw [BC (by omega) (by omega)]; omega
 ·exact hi
def LO (q:Pattern) (h:AQ) (m:Morphism):Ne × Int:=
 match ET (FU (([],11):Ne × Int) h m) q.Slots (List.replicate q.Vars.toNat 0,List.replicate q.Vars.toNat false) with
 | .inr r=>r
 | .inl st=>if anyR (fun i=>!JJ (AB q.Tests i) st.1) 0 q.Tests.length=true then ([],16) else (st.1,0)
theorem Pp {n:Int} (b:0<=n):VI n (List.replicate n.toNat 0,List.replicate n.toNat false):=by
 refine ⟨by simp; omega,by simp; omega,fun x a=>?_⟩;rw [List.mem_replicate] at a;omega
theorem Ns {ρ:Type} {r:ρ} {n:Int} {h:AQ} {m:Morphism} {s:EG} (b:Jl n h m s) {st a:Ne × d0} (hi:VI n st) (e:FU r h m s st=.next a):VI n a:=by
 unfold FU at e;split at e
 ·cases e; exact am b hi
 ·cases e
theorem ap {ρ:Type} {r:ρ} {h:AQ} {m:Morphism} {s:EG} {st a:Ne × d0}:FU r h m s st≠.brk a:=by
 unfold FU;split <;> simp
theorem NQ {ρ:Type} {r:ρ} {n:Int} {h:AQ} {m:Morphism} {l:List EG} (c:∀ s∈l,Jl n h m s) {st b:Ne × d0} (hi:VI n st) (e:ET (FU r h m) l st=.inl b):VI n b:=
 Wr (FU r h m) (VI n) l st b hi (fun a d _ _ f g=>Ns (c a d) f g) (fun _ _ _ _=>ap) e
theorem OI {ρ:Type} {r:ρ} {n:Int} {h:AQ} {m:Morphism} {s:EG} (i:Jl n h m s) {st:Ne × d0} (hi:VI n st) {T:Ne × d0->Option (C2 (Ne × d0) ρ)}
  (d:∀ a:Ne × d0,(a.1.length:Int)=n->T a=some (if ES s.Term a.1=Ll h m s then .next a else .ret r)) :
  ((if (decide (0<=s.Term.Var))=true then ((AL st.2 s.Term.Var).bind fun f=>some (!f)) else some false).bind fun g=>
   if g=true then (AL st.1 s.Term.Var).bind fun _=>(AL st.2 s.Term.Var).bind fun _=>T (CJ st.1 s.Term.Var (A3 (Ll h m s - s.Term.Add)),CJ st.2 s.Term.Var true) else T (st.1,st.2))=some (FU r h m s st):=by
 have j:=i.term.high;have l1:=hi.l1;have l2:=hi.l2;unfold FU;by_cases b:0<=s.Term.Var
 ·rw [d1 (by simpa using b),AK b (by omega),bs,bs];by_cases c:AB st.2 s.Term.Var=false
  ·rw [d1 (by simp [c]),AK b (by omega),bs,bs,d _ (by dsimp only; rw [Ok]; exact l1)];have e:Nh h m s st=(CJ st.1 s.Term.Var (A3 (Ll h m s - s.Term.Add)),CJ st.2 s.Term.Var true):=by unfold Nh; rw [d1 ⟨b,c⟩]
   rw [e]
  ·rw [d2 (by simpa using c),d _ l1];have e:Nh h m s st=st:=by unfold Nh; rw [d2 (fun e=>c e.2)]
   rw [e]
 ·rw [d2 (by simpa using b),bs,d2 (by decide),d _ l1];have e:Nh h m s st=st:=by unfold Nh; rw [d2 (fun e=>b e.1)]
  rw [e]
theorem Xa {ρ:Type} {r:ρ} {n:Int} {h:AQ} {m:Morphism} {s:EG} (e:Jl n h m s) {st:Ne × d0} (hi:VI n st) {T:Ne × d0->Option (C2 (Ne × d0) ρ)}
  (f:∀ a:Ne × d0,(a.1.length:Int)=n->T a=some (if ES s.Term a.1=Ll h m s then .next a else .ret r)) :
  ((if (decide (0<=s.Term.Var))=true then ((AL st.2 s.Term.Var).bind fun b=>some (!b)) else some false).bind fun c=>
   if c=true then (AL st.2 s.Term.Var).bind fun _=>(AL st.1 s.Term.Var).bind fun _=>T (CJ st.1 s.Term.Var (A3 (Ll h m s - s.Term.Add)),CJ st.2 s.Term.Var true) else T (st.1,st.2))=some (FU r h m s st):=by
 rw [←OI e hi f];have g:=e.term.high;have l1:=hi.l1;have l2:=hi.l2;by_cases d:0<=s.Term.Var
 ·rw [AK d (by omega),AK d (by omega)]; rfl
 ·rw [d2 (by simpa using d)]; rfl
theorem VC {t:Term} {n v:Int} {f:Term->Ne->dD} (c:∀ l:Ne,(l.length:Int)=n->f t l=some (ES t l)) (a:Ne × d0) (d:(a.1.length:Int)=n):((f t a.1).bind fun b=>if (!decide (b=v))=true then some (C2.ret (([],11):Ne × Int)) else some (.next a))=some (if ES t a.1=v then .next a else .ret ([],11)):=by
 rw [c _ d,bs];by_cases e:ES t a.1=v
 ·rw [d2 (by simp [e]),d1 e]
 ·rw [d1 (by simp [e]),d2 e]
theorem fk {q:Pattern} {h:AQ} {m:Morphism} {t:AC} (g:Qa t q) (j:∀ s∈q.Slots,Jl q.Vars h m s):JC q h m=some (LO q h m):=by
 have hv:=g.vars;unfold JC LO J7;rw [d1 (by omega),bs,d1 (by omega),bs];rw [O7 (FU (([],11):Ne × Int) h m) (VI q.Vars) (Pp hv.1)]
 ·cases n:ET (FU (([],11):Ne × Int) h m) q.Slots (List.replicate q.Vars.toNat 0,List.replicate q.Vars.toNat false) with
  | inr r=>rfl
  | inl st=>
   have hi:=NQ j (Pp hv.1) n;rw [D5,CP (fun i=>!JJ (AB q.Tests i) st.1) ([],16)]
   ·dsimp only;cases anyR (fun i=>!JJ (AB q.Tests i) st.1) 0 q.Tests.length <;> rfl
   ·intro i c d _;have k:=g.test _ (AS c d);rw [AK c d,bs,p_holds k.2.1 k.2.2 hi.small (by have:=hi.l1; omega),bs];cases JJ (AB q.Tests i) st.1 <;> rfl
 ·intro i st c d hi;have a:=j _ (AS c d);refine ⟨?_,fun s' e=>Ns a hi e⟩;rw [AK c d,bs,AK a.node.1 a.node.2,bs,AK a.val.1 a.val.2,bs,AK a.attr.1 a.attr.2,bs];exact OI a hi (T:=fun b=>(F3 (AB q.Slots i).Term b.1).bind fun f=>if (!decide (f=Ll h m (AB q.Slots i)))=true then some (C2.ret (([],11):Ne × Int)) else some (.next b)) (VC fun l o=>RL (by have:=a.term.high; omega))
theorem gA {q:Pattern} {h:AQ} {m:Morphism} {t:AC} (g:Qa t q) (j:∀ s∈q.Slots,Jl q.Vars h m s):LH q h m=some (LO q h m):=by
 have hv:=g.vars;unfold LH LO J7;rw [d1 (by omega),bs,d1 (by omega),bs];rw [O7 (FU (([],11):Ne × Int) h m) (VI q.Vars) (Pp hv.1)]
 ·cases n:ET (FU (([],11):Ne × Int) h m) q.Slots (List.replicate q.Vars.toNat 0,List.replicate q.Vars.toNat false) with
  | inr r=>rfl
  | inl st=>
   have hi:=NQ j (Pp hv.1) n;rw [D5,CP (fun i=>!JJ (AB q.Tests i) st.1) ([],16)]
   ·dsimp only;cases anyR (fun i=>!JJ (AB q.Tests i) st.1) 0 q.Tests.length <;> rfl
   ·intro i c d _;have k:=g.test _ (AS c d);rw [AK c d,bs,r_holds k.2.1 k.2.2 (by have:=hi.l1; omega),bs];cases JJ (AB q.Tests i) st.1 <;> rfl
 ·intro i st c d hi;have a:=j _ (AS c d);refine ⟨?_,fun s' e=>Ns a hi e⟩;rw [AK c d,bs,AK a.node.1 a.node.2,bs,AK a.val.1 a.val.2,bs,AK a.attr.1 a.attr.2,bs];exact Xa a hi (T:=fun b=>(Jc (AB q.Slots i).Term b.1).bind fun f=>if (!decide (f=Ll h m (AB q.Slots i)))=true then some (C2.ret (([],11):Ne × Int)) else some (.next b)) (VC fun l o=>U5 (by have:=a.term.high; omega))
def LX (t:AC) (p:Pattern) (h:AQ):Int:=if Jv t p≠0 then Jv t p else (Iz t h).2
theorem aG {t:AC} (a:BX t) (p:Pattern) (h:AQ):F2 t p h=some (LX t p h):=by
 unfold F2 LX;rw [VY a,bs];refine IR fun _=>?_;rw [aH a]; rfl
theorem aQ {t:AC} (a:BX t) (p:Pattern) (h:AQ):L8 t p h=some (LX t p h):=by
 unfold L8 LX;rw [Y5 a,bs];refine IR fun _=>?_;rw [aS a]; rfl
def IX (t:AC) (p:Pattern) (h:AQ) (m:Morphism):Ne × Int:=
 if LX t p h≠0 then ([],LX t p h) else if Jp t p.Graph h.Graph m false≠0 then ([],Jp t p.Graph h.Graph m false) else LO p h m
theorem SS {t:AC} (c:BX t) {p:Pattern} {h:AQ} {m:Morphism} {inj:Bool} (a:LX t p h=0) (d:Jp t p.Graph h.Graph m inj=0):(BF t).2=0∧Qa t p∧IN t h∧Vc t p.Graph h.Graph m:=by
 unfold LX at a;split at a
 ·rename_i b; exact absurd a b
 rename_i b;obtain ⟨hv,e⟩:=Xu c a;exact ⟨hv,Y3 hv (.inl (Classical.not_not.1 b)),e,(Vp d).2⟩
theorem fc {t:AC} (a:BX t) (p:Pattern) (h:AQ) (m:Morphism):F1 t p h m=some (IX t p h m):=by
 unfold F1 IX;rw [aG a,bs];refine K1 fun c=>?_;rw [X5 a,bs];refine K1 fun d=>?_;obtain ⟨hv,b,f,g⟩:=SS a c d;rw [fk b (fun s e=>OP (HN hv) b f g e)]; rfl
theorem fo {t:AC} (a:BX t) (p:Pattern) (h:AQ) (m:Morphism):L7 t p h m=some (IX t p h m):=by
 unfold L7 IX;rw [aQ a,bs];refine K1 fun c=>?_;rw [YC a,bs];refine K1 fun d=>?_;obtain ⟨hv,b,f,g⟩:=SS a c d;rw [gA b (fun s e=>OP (HN hv) b f g e)]; rfl
theorem aq {t:AC} {q:Pattern} {h:AQ} {m:Morphism} (d:Qa t q) (f:∀ s∈q.Slots,Jl q.Vars h m s) (e:(LO q h m).2=0):((LO q h m).1.length:Int)=q.Vars∧Nv (LO q h m).1:=by
 unfold LO at e ⊢;cases c:ET (FU (([],11):Ne × Int) h m) q.Slots (List.replicate q.Vars.toNat 0,List.replicate q.Vars.toNat false) with
 | inr r=>
  rw [c] at e;have:∀ (l:List EG) (st:Ne × d0) (r:Ne × Int),ET (FU (([],11):Ne × Int) h m) l st=.inr r->r=([],11):=by
   intro l
   induction l with
   | nil=>intro st r h; cases h
   | cons a l i=>
    intro st r h;rw [ET] at h;split at h
    ·exact i _ _ h
    ·cases h
    ·rename_i j b;cases h;unfold FU at b;split at b
     ·cases b
     ·cases b; rfl
  rw [this _ _ _ c] at e;cases e
 | inl st=>
  rw [c] at e;have hi:=NQ f (Pp d.vars.1) c;dsimp only at e ⊢;split at e
  ·cases e
  ·rename_i g;rw [d2 g];exact ⟨hi.l1,hi.small⟩
end Go.Sf.Sc
namespace Go.Sf.Sc
open Go Go.Sf
theorem RS {n:Nat} {α:Type} [Inhabited α] (F:Int->α) {i:Int} (c:0<=i) (v:α):CJ ((A6 n).map F) i v=(A6 n).map fun j=>if j=i then v else F j:=by
 unfold CJ;refine List.ext_getElem (by simp) (fun k d a=>?_);have b:k<n:=by simpa [CI] using a
 rw [List.getElem_set];have e:(A6 n)[k]'(by rw [CI]; exact b)=(k:Int):=by simp [A6]
 simp only [List.getElem_map,e];by_cases h:i.toNat=k
 ·rw [d1 h,d1 (by omega)]
 ·rw [d2 h,d2 (by omega)]
theorem Lc {n:Nat} {α:Type} {F G:Int->α} (h:∀ j,0<=j->j<(n:Int)->F j=G j):(A6 n).map F=(A6 n).map G:=List.map_congr_left fun j a=>h j (FL.1 a).1 (FL.1 a).2
def IT (n:Nat) (k:Int):d0:=(A6 n).map fun j=>decide (j<k)
theorem TW (n:Nat):IT n 0=List.replicate n false:=by
 unfold IT;refine List.ext_getElem (by simp [CI]) (fun k c a=>?_);have b:k<n:=by simpa using a
 have e:(A6 n)[k]'(by rw [CI]; exact b)=(k:Int):=by simp [A6]
 simp only [List.getElem_map,e,List.getElem_replicate,decide_eq_false_iff_not];omega
theorem Ut (n:Nat) (k:Int):(IT n k).length=n:=by unfold IT; rw [d7,CI]
def MM (q:Pattern) (h:AQ) (m:Morphism) (given:Ne):Ne × Bool:=
 match ET (FU (([],false):Ne × Bool) h m) q.Slots (given++List.replicate (q.Vars - given.length).toNat 0,IT q.Vars.toNat given.length) with
 | .inr r=>r
 | .inl st=>if anyR (fun i=>!JJ (AB q.Tests i) st.1) 0 q.Tests.length=true then ([],false) else (st.1,true)
theorem Sw {n:Int} {a:Ne} (c:0<=n) (d:a.length<=n) (hv:Nv a):VI n (a++List.replicate (n - a.length).toNat 0,IT n.toNat a.length):=by
 refine ⟨by simp; omega,by show ((IT n.toNat a.length).length:Int)=n; rw [Ut]; omega,fun x b=>?_⟩;rcases List.mem_append.1 b with b | b
 ·exact hv x b
 ·rw [List.mem_replicate] at b;omega
theorem jI {s:A7} {q:Pattern} {m:Morphism} {t:AC} {a:Ne} (l:Qa t q) (n:∀ x∈q.Slots,Jl q.Vars s.h m x) (u:a.length<=q.Vars) (hv:Nv a):FD s q m a=some (MM q s.h m a):=by
 have w:=l.vars;unfold FD MM slices_Clone_int;rw [IJ (by unfold BS; omega),bs,BC (by omega) (by omega)];have y:ST a (q.Vars - a.length) 0=some (a++List.replicate (q.Vars - a.length).toNat 0):=by
  unfold ST;rw [d1 ⟨by omega,by unfold BS; omega⟩]
 have z:J7 q.Vars false=some (List.replicate q.Vars.toNat false):=by
  unfold J7;rw [d1 (by omega)]
 rw [y,bs,z,bs];have A:forA (fun (b:Int) (o:d0)=>(AL o b).bind fun v=>some (CJ o b true)) 0 (a.length:Int) (List.replicate q.Vars.toNat false)=some (IT q.Vars.toNat a.length):=by
  refine E8 (fun i=>IT q.Vars.toNat i) (by omega) (TW _) (fun i b f=>?_);rw [AK b (by rw [Ut]; omega),bs];congr 1;unfold IT;rw [RS _ b];refine Lc (fun j C D=>?_);by_cases e:j=i
  ·rw [d1 e,e]; simp; omega
  ·rw [d2 e,decide_eq_decide]; omega
 rw [A,bs];have k:=Sw w.1 u hv;rw [O7 (FU (([],false):Ne × Bool) s.h m) (VI q.Vars) k]
 ·cases B:ET (FU (([],false):Ne × Bool) s.h m) q.Slots (a++List.replicate (q.Vars - a.length).toNat 0,IT q.Vars.toNat a.length) with
  | inr r=>rfl
  | inl st=>
   have hi:=NQ n k B;rw [D5,CP (fun i=>!JJ (AB q.Tests i) st.1) ([],false)]
   ·dsimp only;cases anyR (fun i=>!JJ (AB q.Tests i) st.1) 0 q.Tests.length <;> rfl
   ·intro i b f _;have p:=l.test _ (AS b f);rw [AK b f,bs,p_holds p.2.1 p.2.2 hi.small (by have:=hi.l1; omega),bs];cases JJ (AB q.Tests i) st.1 <;> rfl
 ·intro i st b f hi;have c:=n _ (AS b f);refine ⟨?_,fun s' e=>Ns c hi e⟩;rw [AK b f,bs,AK c.node.1 c.node.2,bs,AK c.val.1 c.val.2,bs,AK c.attr.1 c.attr.2,bs];refine OI c hi (T:=fun d=>(HV (AB q.Slots i).Term d.1).bind fun g=>if ((!decide (g.2=0))||(!decide (g.1=Ll s.h m (AB q.Slots i))))=true then some (C2.ret (([],false):Ne × Bool)) else some (.next d)) (fun d E=>?_);rw [cO c.term.low (by have:=c.term.high; omega) (by omega),bs];by_cases e:ES (AB q.Slots i).Term d.1=Ll s.h m (AB q.Slots i)
  ·rw [d2 (by simp [e]),d1 e]
  ·rw [d1 (by simp [e]),d2 e]
theorem jT {h:AQ} {q:Pattern} {m:Morphism} {t:AC} {c:Ne} (v:Qa t q) (w:∀ x∈q.Slots,Jl q.Vars h m x) (C:c.length<=q.Vars) (hv:Nv c):LJ q h m c=some (MM q h m c):=by
 have A:=v.vars;unfold LJ MM;have F:J7 q.Vars false=some (List.replicate q.Vars.toNat false):=by
  unfold J7;rw [d1 (by omega)]
 rw [IJ (by unfold BS; omega),bs,F,bs];have B:forA (fun (d:Int) (l:Ne × d0)=>
   (AL l.2 d).bind fun D=>
   if (decide ((c.length:Int)<=d))=true then
   (B2 l.1 [0]).bind fun s=>
   some (s,CJ l.2 d (decide (d<(c.length:Int))))
   else
   some (l.1,CJ l.2 d (decide (d<(c.length:Int))))) 0 q.Vars (c,List.replicate q.Vars.toNat false)=some (c++List.replicate (q.Vars - c.length).toNat 0,(A6 q.Vars.toNat).map fun j=>decide (j<q.Vars)&&decide (j<(c.length:Int))):=by
  refine E8 (fun i=>(c++List.replicate (i - c.length).toNat 0,(A6 q.Vars.toNat).map fun j=>decide (j<i)&&decide (j<(c.length:Int)))) A.1 ?_ (fun i d k=>?_)
  ·have G:((0:Int) - c.length).toNat=0:=by omega
   rw [G];simp only [List.replicate_zero,List.append_nil,Prod.mk.injEq,true_and];rw [←TW];unfold IT;refine Lc (fun j y z=>?_);rw [show decide (j<0)=false by simp; omega]; rfl
  ·dsimp only;rw [AK d (by rw [d7,CI]; omega),bs];have H:CJ ((A6 q.Vars.toNat).map fun j=>decide (j<i)&&decide (j<(c.length:Int))) i (decide (i<(c.length:Int)))=(A6 q.Vars.toNat).map fun j=>decide (j<i+1)&&decide (j<(c.length:Int)):=by
    rw [RS _ d];refine Lc (fun j y z=>?_);by_cases e:j=i
    ·rw [d1 e,e,show decide (i<i+1)=true by simp; omega,Bool.true_and]
    ·rw [d2 e]; congr 1; rw [decide_eq_decide]; omega
   rw [H];by_cases hi:(c.length:Int)<=i
   ·rw [d1 (by simpa using hi),CC (by simp; unfold BS; omega),bs];congr 2;rw [ea,show (i+1 - c.length).toNat=(i - c.length).toNat+1 by omega,List.replicate_succ']
   ·rw [d2 (by simpa using hi)];have I:(i+1 - c.length).toNat=(i - c.length).toNat:=by omega
    rw [I]
 have u:((A6 q.Vars.toNat).map fun j=>decide (j<q.Vars)&&decide (j<(c.length:Int)))=IT q.Vars.toNat c.length:=by
  unfold IT;refine Lc (fun j y z=>?_);rw [show decide (j<q.Vars)=true by simp; omega,Bool.true_and]
 rw [u] at B;rw [B,bs];have o:=Sw A.1 C hv;dsimp only;rw [O7 (FU (([],false):Ne × Bool) h m) (VI q.Vars) o]
 ·cases J:ET (FU (([],false):Ne × Bool) h m) q.Slots (c++List.replicate (q.Vars - c.length).toNat 0,IT q.Vars.toNat c.length) with
  | inr r=>rfl
  | inl st=>
   have hi:=NQ w o J;rw [D5,CP (fun i=>!JJ (AB q.Tests i) st.1) ([],false)]
   ·dsimp only;cases anyR (fun i=>!JJ (AB q.Tests i) st.1) 0 q.Tests.length <;> rfl
   ·intro i d k _;have p:=v.test _ (AS d k);have E:=hi.l1;rw [AK d k,bs,Sp p.2.1.low (by have:=p.2.1.high; omega),bs,Sp p.2.2.low (by have:=p.2.2.high; omega),bs,←Jt];unfold JJ;dsimp only;congr 1;generalize ES (AB q.Tests i).Left st.1=a;generalize ES (AB q.Tests i).Right st.1=b;rcases p.1 with e | e
    ·rw [e,eq_iff_iff]; simp
    ·rw [e,eq_iff_iff]; simp
 ·intro i st d k hi;have f:=w _ (AS d k);refine ⟨?_,fun s' e=>Ns f hi e⟩;rw [AK d k,bs,AK f.node.1 f.node.2,bs,AK f.val.1 f.val.2,bs,AK f.attr.1 f.attr.2,bs];refine OI f hi (T:=fun g=>(IV (AB q.Slots i).Term g.1).bind fun n=>if (!decide (n.1=Ll h m (AB q.Slots i)))=true then some (C2.ret (([],false):Ne × Bool)) else some (.next g)) (fun g E=>?_);rw [Sp f.term.low (by have:=f.term.high; omega),bs];by_cases e:ES (AB q.Slots i).Term g.1=Ll h m (AB q.Slots i)
  ·rw [d2 (by simp [e]),d1 e]
  ·rw [d1 (by simp [e]),d2 e]
theorem da {t:AC} {q:Pattern} {h:AQ} {m:Morphism} {b:Ne} (g:Qa t q) (i:∀ s∈q.Slots,Jl q.Vars h m s) (j:b.length<=q.Vars) (hv:Nv b) (e:(MM q h m b).2=true):((MM q h m b).1.length:Int)=q.Vars∧Nv (MM q h m b).1:=by
 unfold MM at e ⊢;have f:=Sw g.vars.1 j hv;cases d:ET (FU (([],false):Ne × Bool) h m) q.Slots (b++List.replicate (q.Vars - b.length).toNat 0,IT q.Vars.toNat b.length) with
 | inr r=>
  rw [d] at e;have:∀ (l:List EG) (st:Ne × d0) (r:Ne × Bool),ET (FU (([],false):Ne × Bool) h m) l st=.inr r->r=([],false):=by
   intro l
   induction l with
   | nil=>intro st r h; cases h
   | cons a l n=>
    intro st r h;rw [ET] at h;split at h
    ·exact n _ _ h
    ·cases h
    ·rename_i o c;cases h;unfold FU at c;split at c
     ·cases c
     ·cases c; rfl
  rw [this _ _ _ d] at e;cases e
 | inl st=>
  rw [d] at e;have hi:=NQ i f d;dsimp only at e ⊢;split at e
  ·cases e
  ·rename_i k;rw [d2 k];exact ⟨hi.l1,hi.small⟩
def Jw (n:Nat) (by' images:Ne):Ne:=(A6 by'.length).foldl (fun l i=>CJ l (AB by' i) (AB images i)) (List.replicate n (-1))
theorem RC (by' images:Ne):∀ (a:Ne) (l:Ne),(a.foldl (fun l i=>CJ l (AB by' i) (AB images i)) l).length=l.length
 | [],l=>rfl
 | k::a,l=>by rw [List.foldl_cons,RC by' images a,Ok]
theorem Tl (n:Nat) (by' images:Ne):(Jw n by' images).length=n:=by unfold Jw; rw [RC]; simp
theorem Uf (by' images:Ne) {x:Int}:∀ (a:Ne) (l:Ne),x∈a.foldl (fun l i=>CJ l (AB by' i) (AB images i)) l->x∈l∨∃ k∈a,x=AB images k
 | [],l,h=>.inl h
 | k::a,l,h=>by
  rw [List.foldl_cons] at h;rcases Uf by' images a _ h with h | ⟨j,b,e⟩
  ·rcases Wt h with h | h
   ·exact .inl h
   ·exact .inr ⟨k,by simp,h⟩
  ·exact .inr ⟨j,by simp [b],e⟩
theorem Tm {n:Nat} {by' images:Ne} {x:Int} (h:x∈Jw n by' images):x=-1∨∃ k:Int,(0<=k∧k<by'.length)∧x=AB images k:=by
 rcases Uf by' images _ _ h with h | ⟨k,a,e⟩
 ·rw [List.mem_replicate] at h; exact .inl h.2
 ·exact .inr ⟨k,FL.1 a,e⟩
theorem Tn {n:Nat} {by' images:Ne} (o:∀ x∈by',0<=x∧x<n) (p:by'.length<=images.length):forA (fun (d:Int) (g:Ne)=>
  (AL by' d).bind fun c=>
  (AL images d).bind fun e=>
  (AL g c).bind fun j=>
  some (CJ g c e)) 0 (by'.length:Int) (List.replicate n (-1))=some (Jw n by' images):=by
 have h:=E8 (f:=fun (d:Int) (g:Ne)=>
  (AL by' d).bind fun c=>
  (AL images d).bind fun e=>
  (AL g c).bind fun j=>
  some (CJ g c e)) (fun i=>(A6 i.toNat).foldl (fun l i=>CJ l (AB by' i) (AB images i)) (List.replicate n (-1))) (a:=0) (b:=by'.length) (s:=List.replicate n (-1)) (by omega) rfl (fun i d k=>by
   have m:=o _ (AS d k);rw [AK d k,bs,AK d (by omega),bs,AK m.1 (by rw [RC]; simpa using m.2),bs,KO d,List.foldl_append]; rfl)
 rw [h,Int.toNat_natCast]; rfl
theorem WZ {n:Nat} {by' images:Ne} (c:n<=1000) (a:∀ x∈by',0<=x∧x<n) (b:by'.length<=images.length):HY n by' images=some (Jw n by' images):=by
 unfold HY FZ;rw [d1 ⟨rfl,by omega,by omega⟩,bs];show (forA _ 0 _ (List.replicate (n:Int).toNat (-1))).bind _=_;rw [Int.toNat_natCast,Tn a b]; rfl
theorem Wf {n:Nat} {by' images:Ne} (e:n<=1000) (c:∀ x∈by',0<=x∧x<n) (d:by'.length<=images.length):J1 n by' images=some (Jw n by' images):=by
 unfold J1;rw [E8 (a:=0) (b:=n) (s:=[]) (fun i=>List.replicate i.toNat (-1)) (by omega) rfl,bs,Int.toNat_natCast,Tn c d]
 ·rfl
 ·intro i f g;rw [CC (by simp; unfold BS; omega),bs,show (i+1).toNat=i.toNat+1 by omega,List.replicate_succ']
end Go.Sf.Sc
namespace Go.Sf.Sc
open Go Go.Sf
structure dg (f:AM):Prop where
 nl:f.nodes.length<=f.p.Nodes.length
 node:∀ i:Int,0<=i->i<f.nodes.length->(0<=AB f.nodes i∧AB f.nodes i<f.g.Nodes.length)∧AB (AB f.is (AB f.p.Nodes i)) (AB f.g.Nodes (AB f.nodes i))=true
 edge:∀ i:Int,0<=i->i<f.edges.length->(0<=AB f.edges i∧AB f.edges i<f.g.Edges.length)∧AB f.g.Edges (AB f.edges i)=⟨(AB f.p.Edges i).Type',AB f.nodes (AB f.p.Edges i).From,AB f.nodes (AB f.p.Edges i).To⟩
 inj:f.injective=true->f.nodes.Nodup∧f.edges.Nodup
structure YW (f:AM) (m:Morphism):Prop where
 nl:m.Nodes.length=f.p.Nodes.length
 el:m.Edges.length=f.p.Edges.length
 node:∀ i:Int,0<=i->i<m.Nodes.length->(0<=AB m.Nodes i∧AB m.Nodes i<f.g.Nodes.length)∧AB (AB f.is (AB f.p.Nodes i)) (AB f.g.Nodes (AB m.Nodes i))=true
 edge:∀ i:Int,0<=i->i<m.Edges.length->(0<=AB m.Edges i∧AB m.Edges i<f.g.Edges.length)∧AB f.g.Edges (AB m.Edges i)=⟨(AB f.p.Edges i).Type',AB m.Nodes (AB f.p.Edges i).From,AB m.Nodes (AB f.p.Edges i).To⟩
 inj:f.injective=true->m.Nodes.Nodup∧m.Edges.Nodup
theorem T5 {α:Type} [Inhabited α] (l:List α) (x:α) {i:Int} (h:i=l.length):AB (l++[x]) i=x:=by
 subst h;rw [UR,d2 (by omega)];simp
theorem Td {l:Ne} {k:Int} {b:Bool} (h:(!(b&&l.any fun x=>decide (k=x)))=true) (c:b=true) (d:l.Nodup):(l++[k]).Nodup:=by
 subst c;simp only [Bool.true_and,Bool.not_eq_true',List.any_eq_false,zzX] at h;rw [List.nodup_append];refine ⟨d,by simp,fun a f b c e=>?_⟩;rw [List.mem_singleton] at c;exact h a f (by rw [e,c])
theorem UP:∀ (n:Nat) (f:AM),dg f->f.nodes.length=f.p.Nodes.length->f.edges.length+n=f.p.Edges.length->∀ m∈E6 n f,YW f m
 | 0,f,b,o,r,m,a=>by
  rw [E6,List.mem_singleton] at a;subst a;exact ⟨o,by simpa using r,b.node,b.edge,b.inj⟩
 | n+1,f,b,o,r,m,a=>by
  rw [E6,List.mem_flatMap] at a;obtain ⟨k,j,a⟩:=a;have j:=FL.1 j;split at a
  ·rename_i c;unfold PH at c;rw [zzZ] at c;obtain ⟨d,l⟩:=c;rw [QT,zzZ,zzX] at d;have:=UP n { f with edges:=f.edges++[k] } ⟨b.nl,b.node,fun i q h=>by
    have h:i<((f.edges++[k]).length:Int):=h;simp only [d4,List.length_singleton] at h;show (0<=AB (f.edges++[k]) i∧AB (f.edges++[k]) i<f.g.Edges.length)∧AB f.g.Edges (AB (f.edges++[k]) i)=⟨(AB f.p.Edges i).Type',AB f.nodes (AB f.p.Edges i).From,AB f.nodes (AB f.p.Edges i).To⟩;by_cases e:i=f.edges.length
    ·rw [T5 _ _ e]; exact ⟨j,by rw [e]; exact d.2⟩
    ·rw [Qp _ _ q (by omega)]; exact b.edge i q (by omega),fun hi=>⟨(b.inj hi).1,Td l hi (b.inj hi).2⟩⟩ o (by show (f.edges++[k]).length+n=f.p.Edges.length; rw [d4,List.length_singleton]; omega) m a
   exact ⟨this.nl,this.el,this.node,this.edge,this.inj⟩
  ·cases a
theorem UQ:∀ (n:Nat) (f:AM),dg f->f.edges=[]->f.nodes.length+n=f.p.Nodes.length->∀ m∈G8 n f,YW f m
 | 0,f,d,h,r,m,a=>by
  rw [G8] at a;exact UP _ f d (by omega) (by rw [h]; simp) m a
 | n+1,f,d,h,r,m,a=>by
  rw [G8,List.mem_flatMap] at a;obtain ⟨k,l,a⟩:=a;have l:=FL.1 l;split at a
  ·rename_i c;unfold PI at c;rw [zzZ,zzZ] at c;obtain ⟨⟨_,o⟩,q⟩:=c;have:=UQ n { f with nodes:=f.nodes++[k] } ⟨by show (f.nodes++[k]).length<=f.p.Nodes.length; rw [d4,List.length_singleton]; omega,fun i j b=>by
    have b:i<((f.nodes++[k]).length:Int):=b;simp only [d4,List.length_singleton] at b;show (0<=AB (f.nodes++[k]) i∧AB (f.nodes++[k]) i<f.g.Nodes.length)∧AB (AB f.is (AB f.p.Nodes i)) (AB f.g.Nodes (AB (f.nodes++[k]) i))=true;by_cases e:i=f.nodes.length
    ·rw [T5 _ _ e];exact ⟨l,by rw [e]; exact o⟩
    ·rw [Qp _ _ j (by omega)]; exact d.node i j (by omega),fun i j b=>by
    have b:i<(f.edges.length:Int):=b;rw [h] at b;have:i<(0:Nat):=b;omega,fun hi=>⟨Td q hi (d.inj hi).1,(d.inj hi).2⟩⟩ h (by show (f.nodes++[k]).length+n=f.p.Nodes.length; rw [d4,List.length_singleton]; omega) m a
   exact ⟨this.nl,this.el,this.node,this.edge,this.inj⟩
  ·cases a
theorem Yj {t:AC} {p g:Graph} {b:Morphism} {inj:Bool} {m:Morphism} (c:m∈Lu t p g b inj):YW (FF t p g b inj) m:=
 UQ _ (FF t p g b inj) ⟨Nat.zero_le _,fun i d a=>by have a:i<(0:Nat):=a; omega,fun i d a=>by have a:i<(0:Nat):=a; omega,fun _=>⟨List.nodup_nil,List.nodup_nil⟩⟩ rfl (by show 0+p.Nodes.length=p.Nodes.length; omega) m (List.mem_of_mem_take c)
theorem bn {t:AC} {p g:Graph} {o:Morphism} {inj:Bool} (h:GE t p g=0) {m:Morphism} (q:m∈Lu t p g o inj):Vc t p g m:=by
 obtain ⟨hv,u,v,tp,s⟩:=P5 h;have:=Yj q;refine ⟨this.nl,this.el,fun i a c=>?_,fun i a c=>(this.edge i a c).1⟩;obtain ⟨d,b⟩:=this.node i a c;refine ⟨d,?_⟩;have f:=this.nl;have j:=tp _ (AS (l:=p.Nodes) a (by show i<(p.Nodes.length:Int); have f:m.Nodes.length=p.Nodes.length:=f; omega));have n:=s _ (AS (l:=g.Nodes) d.1 d.2);have b:AB (AB (J5 t) (AB p.Nodes i)) (AB g.Nodes (AB m.Nodes i))=true:=b;have e:AB (J5 t) (AB p.Nodes i)=Ko t (AB p.Nodes i):=by unfold J5; exact I9 (Ko t) j.1 j.2
 rw [e] at b;have r:AB (Ko t (AB p.Nodes i)) (AB g.Nodes (AB m.Nodes i))=I4 t (AB g.Nodes (AB m.Nodes i)) (AB p.Nodes i):=by unfold Ko; exact I9 (fun k=>I4 t k (AB p.Nodes i)) n.1 n.2
 rwa [r] at b
theorem Vw {t:AC} {p g:Graph} {b:Morphism} {inj:Bool} (h:(Ob t p g b inj).2=0):(Ob t p g b inj).1.length<=5000∧∀ m∈(Ob t p g b inj).1,Vc t p g m:=by
 unfold Ob at h ⊢;split at h
 ·rename_i a; exact absurd h a
 rename_i a;split at h
 ·cases h
 rename_i f;split at h
 ·rename_i c; exact absurd h c
 rename_i c;split at h
 ·rename_i d; exact absurd h d
 rename_i d;split at h
 ·cases h
 rename_i i;rw [d2 a,d2 f,d2 c,d2 d,d2 i];exact ⟨by dsimp only; omega,fun m e=>bn (Classical.not_not.1 a) e⟩
structure Ou (t:AC) (p:Pattern) (h:AQ) (x:AE):Prop where
 q:Qa t p
 m:Vc t p.Graph h.Graph x.Morphism
 len:(x.Vars.length:Int)=p.Vars
 small:Nv x.Vars
structure Xe (t:AC) (p:Pattern) (c:AA):Prop where
 q:Qa t c.Pattern
 vars:p.Vars<=c.Pattern.Vars
 map:df p.Graph c.Pattern.Graph c.Map
 inj:K7 c.Map=true
def D7 (t:AC) (c:AA) (h:AQ) (m:AE) (inj:Bool):List AE × Int:=
 let x:=Ob t c.Pattern.Graph h.Graph ⟨Jw c.Pattern.Graph.Nodes.length c.Map.Nodes m.Morphism.Nodes,Jw c.Pattern.Graph.Edges.length c.Map.Edges m.Morphism.Edges⟩ inj
 if x.2≠0 then ([],x.2) else ((x.1.filter fun y=>(MM c.Pattern h y m.Vars).2).map fun y=>⟨y,(MM c.Pattern h y m.Vars).1⟩,0)
instance:Inhabited Morphism:=⟨⟨[],[]⟩⟩
instance:Inhabited AE:=⟨⟨default,[]⟩⟩
instance:Inhabited A0:=⟨⟨0,default,[]⟩⟩
theorem SI {x:List Morphism} {F:Morphism->Ne × Bool} {f:Int->List AE->Option (List AE)} (j:x.length<=5000)
  (e:∀ (i:Int) (s:List AE),0<=i->i<x.length->s.length<=5000->f i s=some (if (F (AB x i)).2=true then s++[⟨AB x i,(F (AB x i)).1⟩] else s)) :
  forA f 0 (x.length:Int) []=some ((x.filter fun y=>(F y).2).map fun y=>⟨y,(F y).1⟩):=by
 rw [E8 (a:=0) (b:=x.length) (s:=[]) (fun i=>((x.take i.toNat).filter fun y=>(F y).2).map fun y=>(⟨y,(F y).1⟩:AE)) (by omega) rfl,Int.toNat_natCast,List.take_length];intro i c d;have g:(((x.take i.toNat).filter fun y=>(F y).2).map fun y=>(⟨y,(F y).1⟩:AE)).length<=5000:=by
  rw [d7];have:=List.length_filter_le (fun y=>(F y).2) (x.take i.toNat);have:=List.length_take_le i.toNat x;have:(x.take i.toNat).length<=x.length:=by rw [d5]; omega
  omega
 rw [e i _ c d g,GI c d,List.filter_append,List.map_append];cases h:(F (AB x i)).2 <;> simp [h]
theorem jA {s:A7} {p:Pattern} {c:AA} {m:AE} (f:BX s.t) (hv:(BF s.t).2=0) (j:IN s.t s.h) (e:Ou s.t p s.h m) (hi:Xe s.t p c):CR s c m=some (D7 s.t c s.h m s.injective):=by
 have v:=hi.q.g.nodes;have ge:=hi.q.g.edges;have m1:=hi.map.nlen;have w:=hi.map.elen;have z:=e.m.nlen;have A:=e.m.elen;unfold CR D7;rw [WZ (by omega) (fun x d=>by obtain ⟨i,a,b,rfl⟩:=EH d; exact (hi.map.node i a b).1) (by omega),bs,
  WZ (by omega) (fun x d=>by obtain ⟨i,a,b,rfl⟩:=EH d; exact (hi.map.edge i a b).1) (by omega),bs,cQ f,bs]
 dsimp only;refine K1 fun k=>?_;obtain ⟨o,r⟩:=Vw k;rw [SI (F:=fun y=>MM c.Pattern s.h y m.Vars) o]
 ·rfl
 ·intro i st a b u;have l:=r _ (AS a b);have n:(m.Vars.length:Int)<=c.Pattern.Vars:=by have:=e.len; have:=hi.vars; omega
  rw [AK a b,bs,jI hi.q (fun x d=>OP (HN hv) hi.q j l d) n e.small,bs,←Jt];split
  ·rw [CC (by simp; unfold BS; omega)]; rfl
  ·rfl
theorem jN {t:AC} {h:AQ} {inj:Bool} {p:Pattern} {c:AA} {m:AE} (f:BX t) (hv:(BF t).2=0) (j:IN t h) (e:Ou t p h m) (hi:Xe t p c):Ir t c h m inj=some (D7 t c h m inj):=by
 have u:=hi.q.g.nodes;have ge:=hi.q.g.edges;have m1:=hi.map.nlen;have v:=hi.map.elen;have w:=e.m.nlen;have z:=e.m.elen;unfold Ir D7;rw [Wf (by omega) (fun x d=>by obtain ⟨i,a,b,rfl⟩:=EH d; exact (hi.map.node i a b).1) (by omega),bs,
  Wf (by omega) (fun x d=>by obtain ⟨i,a,b,rfl⟩:=EH d; exact (hi.map.edge i a b).1) (by omega),bs,cW f,bs]
 dsimp only;refine K1 fun k=>?_;obtain ⟨o,r⟩:=Vw k;rw [SI (F:=fun y=>MM c.Pattern h y m.Vars) o]
 ·rfl
 ·intro i st a b s;have l:=r _ (AS a b);have n:(m.Vars.length:Int)<=c.Pattern.Vars:=by have:=e.len; have:=hi.vars; omega
  rw [AK a b,bs,jT hi.q (fun x d=>OP (HN hv) hi.q j l d) n e.small,bs,←Jt];split
  ·rw [bs,CC (by simp; unfold BS; omega)]; rfl
  ·rfl
theorem T9 {t:AC} {h:AQ} {inj:Bool} {p:Pattern} {c:AA} {m:AE} (hv:(BF t).2=0) (i:IN t h) (f:Ou t p h m) (hi:Xe t p c) (e:(D7 t c h m inj).2=0):(D7 t c h m inj).1.length<=5000∧∀ x∈(D7 t c h m inj).1,Ou t c.Pattern h x:=by
 unfold D7 at e ⊢;dsimp only at e ⊢;split at e
 ·rename_i b; exact absurd e b
 rename_i b;rw [d2 b];obtain ⟨k,l⟩:=Vw (Classical.not_not.1 b);refine ⟨by dsimp only; rw [d7]; exact Nat.le_trans (List.length_filter_le _ _) k,fun x a=>?_⟩;dsimp only at a;rw [List.mem_map] at a;obtain ⟨y,d,rfl⟩:=a;rw [List.mem_filter] at d;have g:=l y d.1;have j:(m.Vars.length:Int)<=c.Pattern.Vars:=by have:=f.len; have:=hi.vars; omega
 have:=da hi.q (fun x a=>OP (HN hv) hi.q i g a) j f.small d.2;exact ⟨hi.q,g,this.1,this.2⟩
end Go.Sf.Sc
