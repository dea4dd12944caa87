/- Plain lemmas: what the functions of the program and of the reference compute. -/
import Derived.Test.YtlbmpkmkmkgniaaGreatDoorP25
set_option linter.all false
set_option maxRecDepth 100000
namespace Go.Sf.Sc
open Go Go.Sf
theorem QN {a:List Attr} {k:Int} (h:MD a k=0) (c:(AB a k).Names.length<=1000):-1000000<=(AB a k).Low∧(AB a k).High<=1000000:=by
 unfold MD at h;dsimp only at h;split at h
 ·cases h
 split at h
 ·cases h
 split at h
 ·split at h
  ·rename_i b; exact ⟨b.1,b.2.2⟩
  ·cases h
 split at h
 ·rename_i b; exact absurd h b
 split at h
 ·rename_i b; omega
 ·cases h
theorem Xr {t:AC} {i:Int} (h:JC t i=0):∀ k,((BT t i).length:Int) - (AB t.Nodes i).Attrs.length<=k->k<(BT t i).length->MD (BT t i) k=0:=by
 unfold JC at h;dsimp only at h;split at h
 ·cases h
 split at h
 ·cases h
 split at h
 ·cases h
 split at h
 ·cases h
 exact Tx h
theorem OT {t:AC} {n:Nat} {a:Int} (b:0<=a):C2 t (n+1) a=C2 t n (par t a)++(AB t.Nodes a).Attrs:=by
 rw [C2,d2 (by omega)]
theorem Tb {t:AC} (f:BX t) (h:IP t) {Q:Attr->Prop} (QN:∀ {b:List Attr} {k:Int},MD b k=0->(AB b k).Names.length<=1000->Q (AB b k)):∀ (n:Nat) (a:Int),a<t.Nodes.length->a<n->∀ x∈C2 t n a,Q x
 | 0,_,_,_=>by simp [C2]
 | n+1,a,d,s=>by
  by_cases g:a<0
  ·rw [JN g]; simp
  ·have o:=h.par a (by omega) d;intro x c;rw [OT (by omega)] at c;rcases List.mem_append.1 c with c | c
   ·exact Tb f h QN n (par t a) (by omega) (by omega) x c
   ·obtain ⟨j,q,r,rfl⟩:=EH c;have e:BT t a=C2 t a.toNat (par t a)++(AB t.Nodes a).Attrs:=by
     unfold BT;rw [show (a+1).toNat=a.toNat+1 by omega,OT (by omega)]
    have p:(BT t a).length=(C2 t a.toNat (par t a)).length+(AB t.Nodes a).Attrs.length:=by rw [e,d4]
    have i:=Xr (h.node a (by omega) d) ((C2 t a.toNat (par t a)).length+j) (by omega) (by omega);have l:AB (BT t a) ((C2 t a.toNat (par t a)).length+j)=AB (AB t.Nodes a).Attrs j:=by
     rw [e,Ux,d2 (by omega)];unfold AB;congr 1;omega
    have m:=Mr f (Int.le_refl _) h.par d (AB (BT t a) ((C2 t a.toNat (par t a)).length+j)) (AQ (by omega) (by omega));have:=QN i (by have:=m.names; omega)
    rwa [l] at this
theorem Y1 {t:AC} (b:BX t) (h:IP t) {a:Int} (d:0<=a) (c:a<t.Nodes.length):∀ x∈BT t a,-1000000<=x.Low∧x.High<=1000000:=Tb b h QN _ a c (by omega)
theorem Vm {t:AC} {k:Int} (d:G9 t k):∀ (n:Nat) (a b:Int),a<k->a<n->b∈OB t n a->0<=b∧b<=a∧(BT t b).length<=(C2 t n a).length
 | 0,_,_,_,_=>by simp [OB]
 | n+1,a,b,e,h=>by
  intro c;rw [OB] at c;split at c
  ·cases c
  ·rename_i f;have g:=d a (by omega) e;rw [OT (by omega)];rcases List.mem_cons.1 c with rfl | c
   ·refine ⟨by omega,by omega,?_⟩;unfold BT;rw [MZ d (b+1).toNat (n+1) b e (by omega) (by omega),OT (by omega)];exact d3 _
   ·have:=Vm d n (par t a) b (by omega) (by omega) c;refine ⟨this.1,by omega,?_⟩;rw [d4]; omega
theorem aQ {t:AC} (h:IP t) {a b:Int} (f:a<t.Nodes.length) (c:JH t a b=true):(BT t b).length<=(BT t a).length:=by
 unfold JH at c;rw [List.any_eq_true] at c;obtain ⟨x,d,e⟩:=c;rw [zzX] at e;subst e;by_cases g:a<0
 ·have:(a+1).toNat=0:=by omega
  rw [this] at d; cases d
 ·exact (Vm h.par (a+1).toNat a b f (by omega) d).2.2
theorem Y4 {α:Type} {a b:Int} {Q:Prop} [Decidable Q] {v:α} {X:Option α} {Y:α} (d:a=b↔Q) (h:Q->X=some Y):(if (!decide (a=b))=true then some v else X)=some (if ¬ Q then v else Y):=by
 by_cases c:Q
 ·rw [d2 (by simp [d.2 c]),d2 (by simpa using c),h c]
 ·rw [d1 (by simp; exact fun e=>c (d.1 e)),d1 c]
def Qo (t:AC) (k:Int) (v:Ne) (j:Int):Bool:=decide (AB v j<(AB (BT t k) j).Low)||decide ((AB (BT t k) j).High<AB v j)
def JS (t:AC) (k:Int) (v:Ne):Int:=
 if (t.Nodes.length:Int)<=k then 6 else if (AB t.Nodes k).Abstract=true then 13 else if ¬ v.length=(BT t k).length then 20 else
 if anyR (Qo t k v) 0 (BT t k).length=true then 6 else 0
def J4 (t:AC) (g:Graph) (i:Int):Int:=
 if (t.Edges.length:Int)<=(AB g.Edges i).Type' then 6 else if Si t g i=false then 13 else 0
def M3 (t:AC) (h:AU):Int × Int:=
 if (BF t).2≠0 then (-1,(BF t).2) else if DJ h.Graph≠0 then (-1,DJ h.Graph) else if ¬ h.Values.length=h.Graph.Nodes.length then (-1,20) else
 match fst (fun i=>(nz (JS t (AB h.Graph.Nodes i) (AB h.Values i))).map fun e=>(i,e)) 0 h.Graph.Nodes.length with
 | some r=>r
 | none=>(fst (fun i=>(nz (J4 t h.Graph i)).map fun e=>(i,e)) 0 h.Graph.Edges.length).getD (-1,0)
theorem RG {t:AC} (hv:(BF t).2=0) {k:Int} (a:0<=k) (b:k<t.Nodes.length):JO t k=(BT t k,0):=by
 unfold JO;rw [d2 (by simp [hv]),d1 (Ma.2 ⟨a,b⟩)]
theorem YR {x:Bool} {y:Bool}:(if x=true then some true else some y)=some (x||y):=by cases x <;> rfl
theorem fz {t:AC} (e:BX t) (hv:(BF t).2=0) {k:Int} (c:0<=k) (v:Ne):KH t k v=some (JS t k v):=by
 unfold KH JS;by_cases a:(t.Nodes.length:Int)<=k
 ·rw [d1 (by simpa using a),d1 a]
 rw [d2 (by simpa using a),d2 a,AI c (by omega),bs];refine rZ fun _=>?_;rw [YS e,RG hv c (by omega),bs];refine Y4 (by simp only []; omega) fun f=>?_;rw [CR (Qo t k v) 6]
 ·cases anyR (Qo t k v) 0 (BT t k).length <;> rfl
 ·intro j d b _;have b:j<(BT t k).length:=b;rw [AI d b,bs,AI d (by omega)];simp only [bs,YR];unfold Qo;cases decide (AB v j<(AB (BT t k) j).Low) <;> cases decide ((AB (BT t k) j).High<AB v j) <;> rfl
theorem gL {t:AC} (e:BX t) (hv:(BF t).2=0) {k:Int} (c:0<=k) (v:Ne):NC t k v=some (JS t k v):=by
 unfold NC JS;by_cases a:(t.Nodes.length:Int)<=k
 ·rw [d1 (by simpa using a),d1 a]
 rw [d2 (by simpa using a),d2 a,AI c (by omega),bs];refine rZ fun _=>?_;rw [YY e,RG hv c (by omega),bs];refine Y4 (by simp only []; omega) fun f=>?_;rw [CR (Qo t k v) 6]
 ·cases anyR (Qo t k v) 0 (BT t k).length <;> rfl
 ·intro j d b _;have b:j<(BT t k).length:=b;rw [AI d (by omega),bs,AI d b];simp only [bs,YR];unfold Qo;cases decide (AB v j<(AB (BT t k) j).Low) <;> cases decide ((AB (BT t k) j).High<AB v j) <;> rfl
theorem Wp (e i:Int):(if (!decide (e=0))=true then some (CY.ret (σ:=Unit) (ρ:=Int × Int) (i,e)) else some (.next ()))=some (Pr ((nz e).map fun e=>(i,e))):=by
 unfold nz;by_cases h:e=0 <;> simp [h,Pr]
theorem ah {t:AC} (d:BX t) (h:AU):H5 t h=some (M3 t h):=by
 unfold H5 M3;rw [R9 d,bs];refine K8 fun hv=>?_;rw [Oi,bs];refine K8 fun f=>?_;have go:=GA f;refine Y4 (by omega) fun m=>?_;rw [C7 (fun i=>(nz (JS t (AB h.Graph.Nodes i) (AB h.Values i))).map fun e=>(i,e)),F8]
 ·cases g:fst (fun i=>(nz (JS t (AB h.Graph.Nodes i) (AB h.Values i))).map fun e=>(i,e)) 0 h.Graph.Nodes.length with
  | some r=>rfl
  | none=>
   have j:=D9.1 g;dsimp only;rw [C7 (fun i=>(nz (J4 t h.Graph i)).map fun e=>(i,e)),F8]
   ·cases fst (fun i=>(nz (J4 t h.Graph i)).map fun e=>(i,e)) 0 h.Graph.Edges.length <;> rfl
   ·intro i a b _;have k:=go.fit _ (AQ (l:=h.Graph.Edges) a b);rw [AI a b,bs];unfold J4 Si;by_cases c:(t.Edges.length:Int)<=(AB h.Graph.Edges i).Type'
    ·rw [d1 (by simpa using c),d1 c]; rfl
    ·rw [d2 (by simpa using c),d2 c,AI (by omega) (by omega),bs,AI (by omega) (by omega),bs,jL d,bs];cases QW t (AB h.Graph.Edges i).Type' (AB h.Graph.Nodes (AB h.Graph.Edges i).From) (AB h.Graph.Nodes (AB h.Graph.Edges i).To) <;> rfl
 ·intro i a b _;rw [AI a b,bs,AI a (by omega),bs,fz d hv (go.kind _ (AQ a b)).1,bs];exact Wp _ i
theorem ax {t:AC} (d:BX t) (h:AU):Kr t h=some (M3 t h):=by
 unfold Kr M3;rw [SB d,bs];refine K8 fun hv=>?_;rw [Ok,bs];refine K8 fun f=>?_;have go:=GA f;refine Y4 (by omega) fun m=>?_;rw [C7 (fun i=>(nz (JS t (AB h.Graph.Nodes i) (AB h.Values i))).map fun e=>(i,e)),F8]
 ·cases g:fst (fun i=>(nz (JS t (AB h.Graph.Nodes i) (AB h.Values i))).map fun e=>(i,e)) 0 h.Graph.Nodes.length with
  | some r=>rfl
  | none=>
   have j:=D9.1 g;dsimp only;rw [C7 (fun i=>(nz (J4 t h.Graph i)).map fun e=>(i,e)),F8]
   ·cases fst (fun i=>(nz (J4 t h.Graph i)).map fun e=>(i,e)) 0 h.Graph.Edges.length <;> rfl
   ·intro i a b _;have k:=go.fit _ (AQ (l:=h.Graph.Edges) a b);rw [AI a b,bs];unfold J4 Si;by_cases c:(t.Edges.length:Int)<=(AB h.Graph.Edges i).Type'
    ·rw [d1 (by simpa using c),d1 c]; rfl
    ·rw [d2 (by simpa using c),d2 c,AI (by omega) (by omega),bs,AI (by omega) (by omega),bs,jY d,bs];cases QW t (AB h.Graph.Edges i).Type' (AB h.Graph.Nodes (AB h.Graph.Edges i).From) (AB h.Graph.Nodes (AB h.Graph.Edges i).To) <;> rfl
 ·intro i a b _;rw [AI a b,bs,AI a (by omega),bs,gL d hv (go.kind _ (AQ a b)).1,bs];exact Wp _ i
structure GY (t:AC) (h:AU):Prop where
 g:Kj h.Graph
 len:h.Values.length=h.Graph.Nodes.length
 kind:∀ i:Int,0<=i->i<h.Graph.Nodes.length->0<=AB h.Graph.Nodes i∧AB h.Graph.Nodes i<t.Nodes.length
 row:∀ i:Int,0<=i->i<h.Graph.Nodes.length->(AB h.Values i).length=(BT t (AB h.Graph.Nodes i)).length
 low:∀ i:Int,0<=i->i<h.Graph.Nodes.length->∀ x∈AB h.Values i,-1000000<=x∧x<=1000000
 ge:DJ h.Graph=0
 ty:GK t h.Graph=true
theorem YJ {t:AC} (y:BX t) {h:AU} (e:(M3 t h).2=0):(BF t).2=0∧GY t h:=by
 unfold M3 at e;split at e
 ·rename_i f; exact absurd e f
 split at e
 ·rename_i f; exact absurd e f
 split at e
 ·cases e
 rename_i f u z;have hv:=Classical.not_not.1 f;have go:=GA (Classical.not_not.1 u);have m:∀ i:Int,0<=i->i<h.Graph.Nodes.length->JS t (AB h.Graph.Nodes i) (AB h.Values i)=0:=by
  split at e
  ·rename_i r c;obtain ⟨i,_,_,k,_⟩:=DZ c;unfold nz at k;split at k
   ·cases k
   ·rename_i d; cases k; exact absurd e d
  ·rename_i c;exact fun i a b=>Oh.1 (Nd.1 (D9.1 c i a b))
 have o:∀ i:Int,0<=i->i<h.Graph.Nodes.length->(0<=AB h.Graph.Nodes i∧AB h.Graph.Nodes i<t.Nodes.length)∧(AB h.Values i).length=(BT t (AB h.Graph.Nodes i)).length∧∀ j:Int,0<=j->j<(BT t (AB h.Graph.Nodes i)).length->Qo t (AB h.Graph.Nodes i) (AB h.Values i) j=false:=by
  intro i a b;have C:=(go.kind _ (AQ a b)).1;have:=m i a b;unfold JS at this;split at this
  ·cases this
  split at this
  ·cases this
  split at this
  ·cases this
  split at this
  ·cases this
  rename_i F G A B;exact ⟨⟨C,by omega⟩,Classical.not_not.1 A,E6.1 (by simpa using B)⟩
 have D:∀ i:Int,0<=i->i<h.Graph.Edges.length->J4 t h.Graph i=0:=by
  have q:fst (fun i=>(nz (JS t (AB h.Graph.Nodes i) (AB h.Values i))).map fun e=>(i,e)) 0 h.Graph.Nodes.length=none:=D9.2 fun i a b=>by rw [m i a b]; rfl
  rw [q] at e;dsimp only at e;cases c:fst (fun i=>(nz (J4 t h.Graph i)).map fun e=>(i,e)) 0 h.Graph.Edges.length with
  | some r=>
   rw [c] at e;obtain ⟨i,_,_,k,_⟩:=DZ c;unfold nz at k;split at k
   ·cases k
   ·rename_i d; cases k; exact absurd e d
  | none=>exact fun i a b=>Oh.1 (Nd.1 (D9.1 c i a b))
 have s:GK t h.Graph=true:=by
  unfold GK;rw [zzZ,Bool.not_eq_true',Bool.not_eq_true',List.any_eq_false,List.any_eq_false];refine ⟨fun n m=>?_,fun x p=>?_⟩
  ·obtain ⟨i,a,b,rfl⟩:=EH m;have:=(o i a b).1.2;simp; omega
  ·obtain ⟨i,a,b,rfl⟩:=EH p;have:=D i a b;unfold J4 at this;split at this
   ·cases this
   ·simp; omega
 suffices g:∀ i:Int,0<=i->i<h.Graph.Nodes.length->∀ x∈AB h.Values i,-1000000<=x∧x<=1000000 from ⟨hv,go,Classical.not_not.1 z,fun i a b=>(o i a b).1,fun i a b=>(o i a b).2.1,g,Classical.not_not.1 u,s⟩
 intro i a b x p;obtain ⟨v,H,E⟩:=o i a b;obtain ⟨j,w,I,rfl⟩:=EH p;have:=E j w (by omega);unfold Qo at this;simp only [Bool.or_eq_false_iff,decide_eq_false_iff_not] at this;have:=Y1 y (G8 hv) v.1 v.2 _ (AQ (l:=BT t (AB h.Graph.Nodes i)) w (by omega));omega
end Go.Sf.Sc
namespace Go.Sf.Sc
open Go Go.Sf
def J0 (t:AC) (p g:Graph) (m:Morphism) (i:Int):dD:=
 if AB m.Nodes i<0∨g.Nodes.length<=AB m.Nodes i then some 6 else if JH t (AB g.Nodes (AB m.Nodes i)) (AB p.Nodes i)=false then some 13 else none
def NH (t:AC) (p g:Graph) (m:Morphism):Int:=
 if m.Nodes.length≠p.Nodes.length∨m.Edges.length≠p.Edges.length then 20 else
 match fst (J0 t p g m) 0 m.Nodes.length with
 | some e=>e
 | none=>(fst (Hy p g m) 0 m.Edges.length).getD 0
def Mu (t:AC) (p g:Graph) (m:Morphism) (inj:Bool):Int:=
 if HP t p g≠0 then HP t p g else if NH t p g m≠0 then NH t p g m else if (inj&&!Nc m)=true then 5 else 0
structure V5 (t:AC) (p g:Graph) (m:Morphism):Prop where
 nlen:m.Nodes.length=p.Nodes.length
 elen:m.Edges.length=p.Edges.length
 node:∀ i:Int,0<=i->i<m.Nodes.length->(0<=AB m.Nodes i∧AB m.Nodes i<g.Nodes.length)∧JH t (AB g.Nodes (AB m.Nodes i)) (AB p.Nodes i)=true
 edge:∀ i:Int,0<=i->i<m.Edges.length->0<=AB m.Edges i∧AB m.Edges i<g.Edges.length
theorem Qa {t:AC} {p g:Graph} (h:HP t p g=0):(BF t).2=0∧Kj p∧Kj g∧(∀ n∈p.Nodes,0<=n∧n<t.Nodes.length)∧∀ n∈g.Nodes,0<=n∧n<t.Nodes.length:=by
 unfold HP at h;split at h
 ·rename_i a; exact absurd h a
 split at h
 ·rename_i a; exact absurd h a
 split at h
 ·rename_i a; exact absurd h a
 split at h
 ·rename_i a e f b;rw [zzZ] at b;have c:=GA (Classical.not_not.1 e);have d:=GA (Classical.not_not.1 f);exact ⟨Classical.not_not.1 a,c,d,(Nk c b.1).1,(Nk d b.2).1⟩
 ·cases h
theorem Yf {t:AC} {p g:Graph} {m:Morphism} (h:NH t p g m=0):V5 t p g m:=by
 unfold NH at h;split at h
 ·cases h
 rename_i f;have c:fst (J0 t p g m) 0 m.Nodes.length=none:=by
  split at h
  ·rename_i r d;obtain ⟨i,_,_,k,_⟩:=DZ d;subst h;unfold J0 at k;split at k
   ·cases k
   ·split at k <;> cases k
  ·assumption
 rw [c] at h;have e:=VG (fun i=>by
  unfold Hy;split
  ·simp
  ·split
   ·simp
   ·split <;> simp) h
 refine ⟨by omega,by omega,fun i a b=>?_,fun i a b=>?_⟩
 ·have:=D9.1 c i a b;unfold J0 at this;split at this
  ·cases this
  ·split at this
   ·cases this
   ·rename_i x y;exact ⟨by omega,by simpa using y⟩
 ·have:=e i a b;unfold Hy at this;split at this
  ·cases this
  ·omega
theorem am {t:AC} (o:BX t) {p g:Graph} (q:HP t p g=0) (m:Morphism):IL t p g m=some (NH t p g m):=by
 obtain ⟨hv,s,x,tp,u⟩:=Qa q;unfold IL NH;refine P2 (by simp; try omega) fun v=>?_;rw [eQ o (G8 hv) hv,bs,C7 (J0 t p g m),F8]
 ·cases w:fst (J0 t p g m) 0 m.Nodes.length with
  | some e=>rfl
  | none=>
   dsimp only;rw [C7 (Hy p g m),Hq];intro i b n _;unfold Hy;rw [AI b n,bs];by_cases a:AB m.Edges i<0∨g.Edges.length<=AB m.Edges i
   ·rw [d1 (by simpa using a),d1 a]; rfl
   ·have o:=s.fit _ (AQ (l:=p.Edges) b (by omega));rw [d2 (by simpa using a),d2 a,AI b (by omega),bs,AI (by omega) (by omega),bs];by_cases c:(AB p.Edges i).Type'=(AB g.Edges (AB m.Edges i)).Type'
    ·rw [d2 (by simpa using c),d2 (by simpa using c),AI (by omega) (by omega),bs];by_cases d:AB m.Nodes (AB p.Edges i).From=(AB g.Edges (AB m.Edges i)).From
     ·rw [d2 (by simpa using d),AI (by omega) (by omega),bs,bs];by_cases f:AB m.Nodes (AB p.Edges i).To=(AB g.Edges (AB m.Edges i)).To
      ·rw [d2 (by simpa using f),d2 (by simp [d,f])]; rfl
      ·rw [d1 (by simpa using f),d1 (.inr f)]; rfl
     ·rw [d1 (by simpa using d),bs,d1 rfl,d1 (.inl d)]; rfl
    ·rw [d1 (by simpa using c),d1 c]; rfl
 ·intro i b n _;unfold J0;rw [AI b n,bs];by_cases a:AB m.Nodes i<0∨g.Nodes.length<=AB m.Nodes i
  ·rw [d1 (by simpa using a),d1 a]; rfl
  ·have h:=tp _ (AQ (l:=p.Nodes) b (by omega));have j:=u _ (AQ (l:=g.Nodes) (show 0<=AB m.Nodes i by omega) (by omega));rw [d2 (by simpa using a),d2 a,AI b (by omega),bs,AI h.1 (by unfold KG; rw [d7,D2]; exact h.2),bs,AI (by omega) (by omega),bs];have e:AB (KG t) (AB p.Nodes i)=Ky t (AB p.Nodes i):=by unfold KG; exact Mk (Ky t) h.1 h.2
   rw [e,AI j.1 (by unfold Ky; rw [d7,D2]; exact j.2),bs];have r:AB (Ky t (AB p.Nodes i)) (AB g.Nodes (AB m.Nodes i))=JH t (AB g.Nodes (AB m.Nodes i)) (AB p.Nodes i):=by unfold Ky; exact Mk (fun k=>JH t k (AB p.Nodes i)) j.1 j.2
   rw [r];cases JH t (AB g.Nodes (AB m.Nodes i)) (AB p.Nodes i) <;> rfl
theorem YV {l:Ne} (e:l.length<=1000):I9 l=some (!Ll l):=by
 unfold I9;rw [d1 (by omega)];congr 1;have b:=Sh l;have c:=QS (l:=l);cases a:dupB l with
 | false=>rw [c.2 (b.1 a)]; rfl
 | true=>
  cases d:Ll l with
  | false=>rfl
  | true=>rw [b.2 (c.1 d)] at a; cases a
theorem YU {t:AC} (a:BX t) (p g:Graph) (m:Morphism) (inj:Bool):HU t p g m inj=some (Mu t p g m inj):=by
 unfold HU Mu;rw [YW a,bs];refine Ie fun b=>?_;rw [am a b,bs];refine Ie fun e=>?_;obtain ⟨_,d,f,_⟩:=Qa b;have c:=Yf e;have:=d.nodes; have:=d.edges; have:=c.nlen; have:=c.elen;rw [YV (by omega),YV (by omega)];unfold Nc;cases inj <;> cases Ll m.Nodes <;> cases Ll m.Edges <;> rfl
theorem gJ (l:Ne):KA l=some (Ll l):=ZX l
theorem a8 {t:AC} {p g:Graph} (o:HP t p g=0) (m:Morphism) (inj:Bool):L4 t p g m inj=some (if NH t p g m≠0 then NH t p g m else if (inj&&!Nc m)=true then 5 else 0):=by
 obtain ⟨hv,u,x,tp,v⟩:=Qa o;unfold L4 NH;by_cases j:m.Nodes.length≠p.Nodes.length∨m.Edges.length≠p.Edges.length
 ·rw [d1 (by simp; try omega),d1 j]; rfl
 rw [d2 (by simp; try omega),d2 j,C7 (J0 t p g m),F8]
 ·cases q:fst (J0 t p g m) 0 m.Nodes.length with
  | some e=>
   have:e≠0:=by
    obtain ⟨i,_,_,k,_⟩:=DZ q;rintro rfl;unfold J0 at k;split at k
    ·cases k
    ·split at k <;> cases k
   dsimp only;rw [d1 this]
  | none=>
   dsimp only;rw [C7 (Hy p g m),F8]
   ·cases r:fst (Hy p g m) 0 m.Edges.length with
    | some e=>
     have:e≠0:=by
      obtain ⟨i,_,_,k,_⟩:=DZ r;rintro rfl;unfold Hy at k;split at k
      ·cases k
      ·split at k
       ·cases k
       ·split at k <;> cases k
     simp only [Option.getD_some];rw [d1 this]
    | none=>
     simp only [Option.getD_none,gJ];unfold Nc;cases inj <;> cases Ll m.Nodes <;> cases Ll m.Edges <;> rfl
   intro i b h _;unfold Hy;rw [AI b h];simp only [bs,Ro];by_cases a:AB m.Edges i<0∨g.Edges.length<=AB m.Edges i
   ·rw [d1 (by simpa using a),d1 a]; rfl
   ·have w:=u.fit _ (AQ (l:=p.Edges) b (by omega));rw [d2 (by simpa using a),d2 a,AI b (by omega),bs,AI (by omega) (by omega),bs];by_cases c:(AB p.Edges i).Type'=(AB g.Edges (AB m.Edges i)).Type'
    ·rw [d2 (by simpa using c),d2 (by simpa using c),AI (by omega) (by omega),bs];by_cases d:AB m.Nodes (AB p.Edges i).From=(AB g.Edges (AB m.Edges i)).From
     ·rw [d2 (by simpa using d),AI (by omega) (by omega),bs,bs];by_cases f:AB m.Nodes (AB p.Edges i).To=(AB g.Edges (AB m.Edges i)).To
      ·rw [d2 (by simpa using f),d2 (by simp [d,f])]; rfl
      ·rw [d1 (by simpa using f),d1 (.inr f)]; rfl
     ·rw [d1 (by simpa using d),bs,d1 rfl,d1 (.inl d)]; rfl
    ·rw [d1 (by simpa using c),d1 c]; rfl
 ·intro i b h _;unfold J0;rw [AI b h];simp only [bs,Ro];by_cases a:AB m.Nodes i<0∨g.Nodes.length<=AB m.Nodes i
  ·rw [d1 (by simpa using a),d1 a]; rfl
  ·have s:=tp _ (AQ (l:=p.Nodes) b (by omega));have n:=v _ (AQ (l:=g.Nodes) (show 0<=AB m.Nodes i by omega) (by omega));rw [d2 (by simpa using a),d2 a,AI (by omega) (by omega),bs,AI b (by omega),bs,SC (G8 hv) n.1 n.2 s.1,bs];cases JH t (AB g.Nodes (AB m.Nodes i)) (AB p.Nodes i) <;> rfl
theorem Ya {t:AC} (a:BX t) (p g:Graph) (m:Morphism) (inj:Bool):Ks t p g m inj=some (Mu t p g m inj):=by
 unfold Ks Mu;rw [TN a,bs];refine Ie fun b=>?_;rw [a8 b,bs]
theorem aH {t:AC} {p g:Graph} {m:Morphism} {inj:Bool} (h:Mu t p g m inj=0):HP t p g=0∧V5 t p g m:=by
 unfold Mu at h;split at h
 ·rename_i a; exact absurd h a
 split at h
 ·rename_i a; exact absurd h a
 rename_i a b;exact ⟨Classical.not_not.1 a,Yf (Classical.not_not.1 b)⟩
end Go.Sf.Sc
namespace Go.Sf.Sc
open Go Go.Sf
section
variable {α σ ρ:Type}
def EX (step:α->σ->CY σ ρ):List α->σ->σ ⊕ ρ
 | [],s=>.inl s
 | a::r,s=>match step a s with
  | .next s'=>EX step r s'
  | .brk s'=>.inl s'
  | .ret r=>.inr r
theorem Rf [Inhabited α] {l:List α} {f:Int->σ->Option (CY σ ρ)} (step:α->σ->CY σ ρ) (I:σ->Prop) (h:∀ (i:Int) s,0<=i->i<l.length->I s->f i s=some (step (AB l i) s)∧∀ s',step (AB l i) s=.next s'->I s') :
  ∀ (n:Nat) (a:Int) (s:σ),0<=a->a+n=l.length->I s->forGo f n a s=some (EX step (l.drop a.toNat) s)
 | 0,a,s,b,j,_=>by
  rw [List.drop_eq_nil_of_le (by omega)]; rfl
 | n+1,a,s,b,j,k=>by
  obtain ⟨e,g⟩:=h a s b (by omega) k;have c:l.drop a.toNat=AB l a::l.drop (a+1).toNat:=by
   rw [show (a+1).toNat=a.toNat+1 by omega,List.drop_eq_getElem_cons (by omega)];congr 1;unfold AB;rw [List.getD_eq_getElem?_getD,List.getElem?_eq_getElem (by omega)]; rfl
  rw [H4,e,c,EX];cases d:step (AB l a) s with
  | next s'=>
   simp only;exact Rf step I h n (a+1) s' (by omega) (by omega) (g s' d)
  | brk s'=>rfl
  | ret r=>rfl
theorem N4 [Inhabited α] {l:List α} {f:Int->σ->Option (CY σ ρ)} (step:α->σ->CY σ ρ) (I:σ->Prop) {s:σ} (a:I s) (h:∀ (i:Int) s,0<=i->i<l.length->I s->f i s=some (step (AB l i) s)∧∀ s',step (AB l i) s=.next s'->I s') :
  forR f 0 l.length s=some (EX step l s):=by
 have:=Rf step I h l.length 0 s (by omega) (by omega) a;unfold forR;rw [show ((l.length:Int) - 0).toNat=l.length by omega];exact this
theorem XJ [Inhabited α] (step:α->σ->CY σ ρ) (I:σ->Prop):∀ (l:List α) (s s':σ),I s->(∀ a∈l,∀ s s',I s->step a s=.next s'->I s')->(∀ a∈l,∀ s s',step a s≠.brk s')->EX step l s=.inl s'->I s'
 | [],s,s',h,_,_,e=>by cases e; exact h
 | a::r,s,s',h,d,f,e=>by
  rw [EX] at e;split at e
  ·rename_i s2 c;exact XJ step I r s2 s' (d a (by simp) s s2 h c) (fun a b=>d a (by simp [b])) (fun a b=>f a (by simp [b])) e
  ·rename_i s2 c; exact absurd c (f a (by simp) _ _)
  ·cases e
end
def D4 (x:Term) (l:Ne):Int:=if x.Var<0 then x.Add else A4 (AB l x.Var+x.Add)
theorem Rp {x:Term} {l:Ne} (h:x.Var<l.length):FZ x l=some (D4 x l):=by
 unfold FZ D4;by_cases a:x.Var<0
 ·rw [d1 (by simpa using a),d1 a]
 ·rw [d2 (by simpa using a),d2 a,AI (by omega) h]; rfl
theorem Vb {x:Term} {l:Ne} (h:x.Var<l.length):Jn x l=some (D4 x l):=Rp h
theorem cq {x:Term} {l:Ne} (a:-1<=x.Var) (h:x.Var<l.length) (b:l.length<=1000):Hz x l=some (D4 x l,0):=by
 unfold Hz DY;rw [BG (by omega) (by omega),bs,d2 (by simp; omega),Rp h]; rfl
theorem TL {x:Term} {l:Ne} (a:-1<=x.Var) (h:x.Var<l.length):Ij x l=some (D4 x l,0):=by
 unfold Ij;rw [d2 (by simp; omega),Vb h]; rfl
def IS (x:Test) (l:Ne):Bool:=(decide (x.Kind=1)&&decide (D4 x.Left l<=D4 x.Right l))||(decide (x.Kind=2)&&decide (D4 x.Left l=D4 x.Right l))
structure JL (n:Int) (x:Term):Prop where
 low:-1<=x.Var
 high:x.Var<n
 add:-1000000<=x.Add∧x.Add<=1000000
def NU (l:Ne):Prop:=∀ x∈l,-2000000<=x∧x<=2000000
theorem Q1 {n:Int} {x:Term} (h:JL n x) {l:Ne} (b:NU l) (c:n<=l.length):D4 x l=(if x.Var<0 then x.Add else AB l x.Var+x.Add)∧-3000000<=D4 x l∧D4 x l<=3000000:=by
 unfold D4;have:=h.add;by_cases a:x.Var<0
 ·rw [d1 a,d1 a]; omega
 ·have d:=h.high;have:=b _ (AQ (l:=l) (show 0<=x.Var by omega) (by omega));rw [d2 a,d2 a,BG (by omega) (by omega)]; omega
theorem Va {n:Int} {x:Term} (h:JL n x) {l:Ne} (b:n<=l.length):Kl x l=some (D4 x l,true):=by
 have c:=h.low;have d:=h.high;unfold Kl D4;by_cases a:x.Var=-1
 ·rw [d1 (by simpa using a),d1 (by omega)]
 ·rw [d2 (by simpa using a),d2 (by simp; omega),d2 (by omega),AI (by omega) (by omega)]; rfl
theorem r_holds {n:Int} {x:Test} (b:JL n x.Left) (c:JL n x.Right) {l:Ne} (a:n<=l.length):Ly x l=some (IS x l):=by
 unfold Ly;rw [Va b a,Va c a]; rfl
theorem Vn {a b:Int} (k:-4000000<=a∧a<=4000000) (l:-4000000<=b∧b<=4000000):IQ a b=some (if a+b<0 then (-1,a+b+18446744073709551616) else (0,a+b)):=by
 have i:∀ c:Int,IntKind.u64.wrap c=c % 18446744073709551616:=fun c=>by
  simp [IntKind.wrap,IntKind.signed,IntKind.bits]
 have j:∀ c:Int,-4000000<=c∧c<=4000000->Lt .i64 .shr c 63=some (if c<0 then -1 else 0):=by
  intro c o;unfold Lt;have e:c.fdiv (2 ^ (min (63:Int).toNat (IntKind.bits .i64)))=if c<0 then -1 else 0:=by
   show c.fdiv (2 ^ 63)=_;rw [Int.fdiv_eq_ediv_of_nonneg _ (by decide)];split <;> omega
  simp only [e];have:(0:Int)<=63∧IntKind.min .i64<=(if c<0 then -1 else 0)∧(if c<0 then -1 else 0)<=IntKind.max .i64:=by
   split <;> decide
  rw [d1 this]
 unfold IQ JU;rw [i,i,d1 (by omega),bs,j a k,j b l,bs,bs];congr 1;have d:∀ c:Int,-10<=c->c<=10->A4 c=c:=fun c f g=>BG (by omega) (by omega);have m:(a % 18446744073709551616+b % 18446744073709551616+0) / 18446744073709551616=if a<0∧b<0 then 1 else if (a<0∨b<0)∧0<=a+b then 1 else 0:=by
  split
  ·omega
  ·split <;> omega
 have n:(a % 18446744073709551616+b % 18446744073709551616+0) % 18446744073709551616=if a+b<0 then a+b+18446744073709551616 else a+b:=by
  split <;> omega
 rw [m,n];by_cases f:a<0 <;> by_cases g:b<0
 ·simp only [f,g,and_self,if_true];rw [d _ (by decide) (by decide),d _ (by decide) (by decide),d1 (by omega),d1 (by omega)]; rfl
 ·by_cases h:a+b<0
  ·simp only [f,g,and_false,if_true,if_false,true_or,true_and,h,show ¬ 0<=a+b by omega];rw [d _ (by decide) (by decide),d _ (by decide) (by decide)]; rfl
  ·simp only [f,g,and_false,if_true,if_false,true_or,true_and,h,show 0<=a+b by omega];rw [d _ (by decide) (by decide),d _ (by decide) (by decide)]; rfl
 ·by_cases h:a+b<0
  ·simp only [f,g,false_and,if_true,if_false,or_true,true_and,h,show ¬ 0<=a+b by omega];rw [d _ (by decide) (by decide),d _ (by decide) (by decide)]; rfl
  ·simp only [f,g,false_and,if_true,if_false,or_true,true_and,h,show 0<=a+b by omega];rw [d _ (by decide) (by decide),d _ (by decide) (by decide)]; rfl
 ·have h:¬ a+b<0:=by omega
  simp only [f,g,false_and,and_self,if_false,or_self,h];rw [d _ (by decide) (by decide),d _ (by decide) (by decide)]; rfl
def Kb (a:Int):Int × Int:=if a<0 then (-1,a+18446744073709551616) else (0,a)
theorem Wv {n:Int} {x:Term} (h:JL n x) {l:Ne} (a:NU l) (d:n<=l.length):G2 x l=some ((Kb (D4 x l)).1,(Kb (D4 x l)).2,true):=by
 have f:=h.low;have g:=h.high;have i:=h.add;have b:=(Q1 h a d).1;unfold G2;by_cases c:x.Var=-1
 ·have e:D4 x l=x.Add:=by rw [b,d1 (by omega)]
  rw [e,d1 (by simpa using c),Vn (by omega) (by omega),bs,Int.zero_add]; rfl
 ·have:=a _ (AQ (l:=l) (show 0<=x.Var by omega) (by omega));have e:D4 x l=AB l x.Var+x.Add:=by rw [b,d2 (by omega)]
  rw [e,d2 (by simpa using c),d2 (by simp; omega),AI (by omega) (by omega),bs,Vn (by omega) (by omega),bs]; rfl
theorem eG (a b:Int):cmp_Compare_int a b=some (if a<b then -1 else if b<a then 1 else 0):=by
 unfold cmp_Compare_int cmp_isNaN_int;simp only [bs,decide_true,Bool.not_true,Bool.false_eq_true,if_false,zzX];split
 ·rfl
 ·split <;> rfl
theorem po (a b:Int):JP a b=some (if a<b then -1 else if b<a then 1 else 0):=eG a b
theorem il (a b:Int):Mv [a,b]=some (if a=0 then b else a):=by
 unfold Mv;show thenR (forGo _ 2 0 ()) _ _=_;rw [H4,show AM [a,b] 0=some a from rfl,bs];by_cases c:a=0
 ·rw [d2 (by simp [c]),d1 c];show thenR (forGo _ 1 (0+1) ()) _ _=_;rw [H4,show AM [a,b] (0+1)=some b from rfl,bs];by_cases d:b=0
  ·rw [d2 (by simp [d]),d]; rfl
  ·rw [d1 (by simp [d])]; rfl
 ·rw [d1 (by simp [c]),d2 c]; rfl
theorem p_holds {n:Int} {x:Test} (e:JL n x.Left) (f:JL n x.Right) {l:Ne} (c:NU l) (d:n<=l.length):GW x l=some (IS x l):=by
 have g:=(Q1 e c d).2;have s2:=(Q1 f c d).2;unfold GW IS;rw [Wv e c d,Wv f c d];simp only [bs,Bool.not_true,Bool.or_self,Bool.false_eq_true,if_false,eG,po,il];generalize D4 x.Left l=a at g;generalize D4 x.Right l=b at s2;have key:(if (if (Kb a).1<(Kb b).1 then (-1:Int) else if (Kb b).1<(Kb a).1 then 1 else 0)=0 then (if (Kb a).2<(Kb b).2 then (-1:Int) else if (Kb b).2<(Kb a).2 then 1 else 0) else (if (Kb a).1<(Kb b).1 then (-1:Int) else if (Kb b).1<(Kb a).1 then 1 else 0))=if a<b then -1 else if b<a then 1 else 0:=by
  unfold Kb;by_cases h:a<0 <;> by_cases i:b<0 <;> simp only [h,i,if_true,if_false] <;> (repeat' split) <;> omega
 rw [key];congr 2
 ·congr 1;rw [decide_eq_decide]
  repeat' split
  all_goals omega
 ·congr 1;rw [decide_eq_decide]
  repeat' split
  all_goals omega
end Go.Sf.Sc
namespace Go.Sf.Sc
open Go Go.Sf
structure P1 (t:AC) (q:Pattern):Prop where
 g:Kj q.Graph
 kind:∀ n∈q.Graph.Nodes,0<=n∧n<t.Nodes.length
 vars:0<=q.Vars∧q.Vars<=12
 few:q.Slots.length<=10∧q.Tests.length<=10
 slot:∀ s∈q.Slots,(0<=s.Node∧s.Node<q.Graph.Nodes.length)∧(0<=s.Attr∧s.Attr<(BT t (AB q.Graph.Nodes s.Node)).length)∧JL q.Vars s.Term
 test:∀ x∈q.Tests,(x.Kind=1∨x.Kind=2)∧JL q.Vars x.Left∧JL q.Vars x.Right
 ge:DJ q.Graph=0
 ty:GK t q.Graph=true
theorem XS {n:Int} {x:Term} (h:NI n x=true):JL n x:=by
 unfold NI at h;simp only [zzZ,zzX] at h;exact ⟨h.1.1.1,h.1.1.2,h.1.2,h.2⟩
theorem du {n:Int} {l:List Test} (h:Jb n l=0):∀ x∈l,(x.Kind=1∨x.Kind=2)∧JL n x.Left∧JL n x.Right:=by
 unfold Jb at h;split at h
 ·cases h
 split at h
 ·cases h
 have c:=Tx h;intro x b;obtain ⟨i,d,e,rfl⟩:=EH b;have:=c i d e;unfold ML at this;split at this
 ·cases this
 split at this
 ·rename_i f a;rw [zzZ] at a;exact ⟨by omega,XS a.1,XS a.2⟩
 ·cases this
theorem Zx (n:Int) (l:List Test):Jb n l≠9:=by
 unfold Jb;split
 ·decide
 split
 ·decide
 intro h;cases a:fst (fun i=>nz (ML n (AB l i))) 0 l.length with
 | none=>rw [a] at h; cases h
 | some r=>
  rw [a] at h;obtain ⟨i,_,_,k,_⟩:=DZ a;simp only [Option.getD_some] at h;subst h;unfold nz ML at k;split at k
  ·cases k
  ·rename_i b;split at k
   ·cases k
   ·split at k <;> cases k
theorem ZW {t:AC} {q:Pattern} (hv:(BF t).2=0) (h:J7 t q=0∨J7 t q=9):P1 t q:=by
 have m:=Tz q.Graph;unfold J7 at h;rw [d2 (by simp [hv])] at h;split at h
 ·omega
 rename_i d;have g:=GA (Classical.not_not.1 d);split at h
 ·omega
 rename_i b;split at h
 ·omega
 rename_i n;split at h
 ·omega
 rename_i o;split at h
 ·omega
 rename_i e;split at h
 ·rename_i f;have:=Zx q.Vars q.Tests;omega
 rename_i f;refine ⟨g,(Nk g (by simpa using b)).1,by omega,by omega,fun s k=>?_,du (Classical.not_not.1 f),Classical.not_not.1 d,by simpa using b⟩;have c:QO t q s=false:=by
  rw [Bool.not_eq_true,List.any_eq_false] at e;simpa using e s k
 unfold QO at c;simp only [Bool.or_eq_false_iff,Bool.not_eq_false',decide_eq_false_iff_not] at c;obtain ⟨⟨⟨a,r⟩,u⟩,v,w⟩:=c;unfold PK at a;dsimp only at a;split at a
 ·cases a
 rename_i p;have j:=(Nk g (by simpa using b)).1 _ (AQ (l:=q.Graph.Nodes) (show 0<=s.Node by omega) (by omega));rw [RG hv j.1 j.2] at a;split at a
 ·cases a
 rename_i i;have i:¬ (s.Attr<0∨((BT t (AB q.Graph.Nodes s.Node)).length:Int)<=s.Attr):=i;exact ⟨by omega,by omega,by omega,by omega,by omega,by omega⟩
def ID (h:AU) (m:Morphism) (s:EJ):Int:=AB (AB h.Values (AB m.Nodes s.Node)) s.Attr
def Ju (h:AU) (m:Morphism) (s:EJ) (st:Ne × d0):Ne × d0:=
 if 0<=s.Term.Var∧AB st.2 s.Term.Var=false then (BZ st.1 s.Term.Var (A4 (ID h m s - s.Term.Add)),BZ st.2 s.Term.Var true) else st
def EY {ρ:Type} (r:ρ) (h:AU) (m:Morphism) (s:EJ) (st:Ne × d0):CY (Ne × d0) ρ:=
 if D4 s.Term (Ju h m s st).1=ID h m s then .next (Ju h m s st) else .ret r
structure VI (n:Int) (st:Ne × d0):Prop where
 l1:(st.1.length:Int)=n
 l2:(st.2.length:Int)=n
 small:NU st.1
structure Iz (n:Int) (h:AU) (m:Morphism) (s:EJ):Prop where
 node:0<=s.Node∧s.Node<m.Nodes.length
 val:0<=AB m.Nodes s.Node∧AB m.Nodes s.Node<h.Values.length
 attr:0<=s.Attr∧s.Attr<(AB h.Values (AB m.Nodes s.Node)).length
 term:JL n s.Term
 has:-1000000<=ID h m s∧ID h m s<=1000000
theorem Nj {t:AC} (d:IP t) {q:Pattern} {h:AU} {m:Morphism} (e:P1 t q) (b:GY t h) (c:V5 t q.Graph h.Graph m) {s:EJ} (f:s∈q.Slots):Iz q.Vars h m s:=by
 obtain ⟨i,j,k⟩:=e.slot s f;have l:=c.nlen;have a:=c.node s.Node i.1 (by omega);have n:=b.row _ a.1.1 a.1.2;have g:=b.kind _ a.1.1 a.1.2;have o:=aQ d g.2 a.2;have hv:=b.len;refine ⟨by omega,by omega,by omega,k,?_⟩;unfold ID;exact b.low _ a.1.1 a.1.2 _ (AQ j.1 (by omega))
theorem O8 {α:Type} (l:List α) (i:Int) (a:α):(BZ l i a).length=l.length:=by unfold BZ; rw [List.length_set]
theorem XL {α:Type} {l:List α} {i:Int} {a x:α} (h:x∈BZ l i a):x∈l∨x=a:=List.mem_or_eq_of_mem_set h
theorem bP {n:Int} {h:AU} {m:Morphism} {s:EJ} (b:Iz n h m s) {st:Ne × d0} (hi:VI n st):VI n (Ju h m s st):=by
 have c:=b.has;have d:=b.term.add;unfold Ju;split
 ·refine ⟨by rw [O8]; exact hi.l1,by rw [O8]; exact hi.l2,fun x a=>?_⟩;rcases XL a with a | rfl
  ·exact hi.small x a
  ·rw [BG (by omega) (by omega)]; omega
 ·exact hi
def LP (q:Pattern) (h:AU) (m:Morphism):Ne × Int:=
 match EX (EY (([],11):Ne × Int) h m) q.Slots (List.replicate q.Vars.toNat 0,List.replicate q.Vars.toNat false) with
 | .inr r=>r
 | .inl st=>if anyR (fun i=>!IS (AB q.Tests i) st.1) 0 q.Tests.length=true then ([],16) else (st.1,0)
theorem QG {n:Int} (b:0<=n):VI n (List.replicate n.toNat 0,List.replicate n.toNat false):=by
 refine ⟨by simp; omega,by simp; omega,fun x a=>?_⟩;rw [List.mem_replicate] at a;omega
theorem Mi {ρ:Type} {r:ρ} {n:Int} {h:AU} {m:Morphism} {s:EJ} (b:Iz n h m s) {st a:Ne × d0} (hi:VI n st) (e:EY r h m s st=.next a):VI n a:=by
 unfold EY at e;split at e
 ·cases e; exact bP b hi
 ·cases e
theorem bQ {ρ:Type} {r:ρ} {h:AU} {m:Morphism} {s:EJ} {st a:Ne × d0}:EY r h m s st≠.brk a:=by
 unfold EY;split <;> simp
theorem MT {ρ:Type} {r:ρ} {n:Int} {h:AU} {m:Morphism} {l:List EJ} (c:∀ s∈l,Iz n h m s) {st b:Ne × d0} (hi:VI n st) (e:EX (EY r h m) l st=.inl b):VI n b:=
 XJ (EY r h m) (VI n) l st b hi (fun a d _ _ f g=>Mi (c a d) f g) (fun _ _ _ _=>bQ) e
theorem Ob {ρ:Type} {r:ρ} {n:Int} {h:AU} {m:Morphism} {s:EJ} (i:Iz n h m s) {st:Ne × d0} (hi:VI n st) {T:Ne × d0->Option (CY (Ne × d0) ρ)}
  (d:∀ a:Ne × d0,(a.1.length:Int)=n->T a=some (if D4 s.Term a.1=ID h m s then .next a else .ret r)) :
  ((if (decide (0<=s.Term.Var))=true then ((AM st.2 s.Term.Var).bind fun f=>some (!f)) else some false).bind fun g=>
   if g=true then (AM st.1 s.Term.Var).bind fun _=>(AM st.2 s.Term.Var).bind fun _=>T (BZ st.1 s.Term.Var (A4 (ID h m s - s.Term.Add)),BZ st.2 s.Term.Var true) else T (st.1,st.2))=some (EY r h m s st):=by
 have j:=i.term.high;have l1:=hi.l1;have l2:=hi.l2;unfold EY;by_cases b:0<=s.Term.Var
 ·rw [d1 (by simpa using b),AI b (by omega),bs,bs];by_cases c:AB st.2 s.Term.Var=false
  ·rw [d1 (by simp [c]),AI b (by omega),bs,bs,d _ (by dsimp only; rw [O8]; exact l1)];have e:Ju h m s st=(BZ st.1 s.Term.Var (A4 (ID h m s - s.Term.Add)),BZ st.2 s.Term.Var true):=by unfold Ju; rw [d1 ⟨b,c⟩]
   rw [e]
  ·rw [d2 (by simpa using c),d _ l1];have e:Ju h m s st=st:=by unfold Ju; rw [d2 (fun e=>c e.2)]
   rw [e]
 ·rw [d2 (by simpa using b),bs,d2 (by decide),d _ l1];have e:Ju h m s st=st:=by unfold Ju; rw [d2 (fun e=>b e.1)]
  rw [e]
theorem Xz {ρ:Type} {r:ρ} {n:Int} {h:AU} {m:Morphism} {s:EJ} (e:Iz n h m s) {st:Ne × d0} (hi:VI n st) {T:Ne × d0->Option (CY (Ne × d0) ρ)}
  (f:∀ a:Ne × d0,(a.1.length:Int)=n->T a=some (if D4 s.Term a.1=ID h m s then .next a else .ret r)) :
  ((if (decide (0<=s.Term.Var))=true then ((AM st.2 s.Term.Var).bind fun b=>some (!b)) else some false).bind fun c=>
   if c=true then (AM st.2 s.Term.Var).bind fun _=>(AM st.1 s.Term.Var).bind fun _=>T (BZ st.1 s.Term.Var (A4 (ID h m s - s.Term.Add)),BZ st.2 s.Term.Var true) else T (st.1,st.2))=some (EY r h m s st):=by
 rw [←Ob e hi f];have g:=e.term.high;have l1:=hi.l1;have l2:=hi.l2;by_cases d:0<=s.Term.Var
 ·rw [AI d (by omega),AI d (by omega)]; rfl
 ·rw [d2 (by simpa using d)]; rfl
theorem Vh {t:Term} {n v:Int} {f:Term->Ne->dD} (c:∀ l:Ne,(l.length:Int)=n->f t l=some (D4 t l)) (a:Ne × d0) (d:(a.1.length:Int)=n):((f t a.1).bind fun b=>if (!decide (b=v))=true then some (CY.ret (([],11):Ne × Int)) else some (.next a))=some (if D4 t a.1=v then .next a else .ret ([],11)):=by
 rw [c _ d,bs];by_cases e:D4 t a.1=v
 ·rw [d2 (by simp [e]),d1 e]
 ·rw [d1 (by simp [e]),d2 e]
theorem gB {q:Pattern} {h:AU} {m:Morphism} {t:AC} (g:P1 t q) (j:∀ s∈q.Slots,Iz q.Vars h m s):JM q h m=some (LP q h m):=by
 have hv:=g.vars;unfold JM LP Jq;rw [d1 (by omega),bs,d1 (by omega),bs];rw [N4 (EY (([],11):Ne × Int) h m) (VI q.Vars) (QG hv.1)]
 ·cases n:EX (EY (([],11):Ne × Int) h m) q.Slots (List.replicate q.Vars.toNat 0,List.replicate q.Vars.toNat false) with
  | inr r=>rfl
  | inl st=>
   have hi:=MT j (QG hv.1) n;rw [DT,CR (fun i=>!IS (AB q.Tests i) st.1) ([],16)]
   ·dsimp only;cases anyR (fun i=>!IS (AB q.Tests i) st.1) 0 q.Tests.length <;> rfl
   ·intro i c d _;have k:=g.test _ (AQ c d);rw [AI c d,bs,p_holds k.2.1 k.2.2 hi.small (by have:=hi.l1; omega),bs];cases IS (AB q.Tests i) st.1 <;> rfl
 ·intro i st c d hi;have a:=j _ (AQ c d);refine ⟨?_,fun s' e=>Mi a hi e⟩;rw [AI c d,bs,AI a.node.1 a.node.2,bs,AI a.val.1 a.val.2,bs,AI a.attr.1 a.attr.2,bs];exact Ob a hi (T:=fun b=>(FZ (AB q.Slots i).Term b.1).bind fun f=>if (!decide (f=ID h m (AB q.Slots i)))=true then some (CY.ret (([],11):Ne × Int)) else some (.next b)) (Vh fun l o=>Rp (by have:=a.term.high; omega))
theorem gP {q:Pattern} {h:AU} {m:Morphism} {t:AC} (g:P1 t q) (j:∀ s∈q.Slots,Iz q.Vars h m s):LJ q h m=some (LP q h m):=by
 have hv:=g.vars;unfold LJ LP Jq;rw [d1 (by omega),bs,d1 (by omega),bs];rw [N4 (EY (([],11):Ne × Int) h m) (VI q.Vars) (QG hv.1)]
 ·cases n:EX (EY (([],11):Ne × Int) h m) q.Slots (List.replicate q.Vars.toNat 0,List.replicate q.Vars.toNat false) with
  | inr r=>rfl
  | inl st=>
   have hi:=MT j (QG hv.1) n;rw [DT,CR (fun i=>!IS (AB q.Tests i) st.1) ([],16)]
   ·dsimp only;cases anyR (fun i=>!IS (AB q.Tests i) st.1) 0 q.Tests.length <;> rfl
   ·intro i c d _;have k:=g.test _ (AQ c d);rw [AI c d,bs,r_holds k.2.1 k.2.2 (by have:=hi.l1; omega),bs];cases IS (AB q.Tests i) st.1 <;> rfl
 ·intro i st c d hi;have a:=j _ (AQ c d);refine ⟨?_,fun s' e=>Mi a hi e⟩;rw [AI c d,bs,AI a.node.1 a.node.2,bs,AI a.val.1 a.val.2,bs,AI a.attr.1 a.attr.2,bs];exact Xz a hi (T:=fun b=>(Jn (AB q.Slots i).Term b.1).bind fun f=>if (!decide (f=ID h m (AB q.Slots i)))=true then some (CY.ret (([],11):Ne × Int)) else some (.next b)) (Vh fun l o=>Vb (by have:=a.term.high; omega))
def M8 (t:AC) (p:Pattern) (h:AU):Int:=if J7 t p≠0 then J7 t p else (M3 t h).2
theorem ag {t:AC} (a:BX t) (p:Pattern) (h:AU):FY t p h=some (M8 t p h):=by
 unfold FY M8;rw [V0 a,bs];refine Ie fun _=>?_;rw [ah a]; rfl
theorem aw {t:AC} (a:BX t) (p:Pattern) (h:AU):L7 t p h=some (M8 t p h):=by
 unfold L7 M8;rw [ZY a,bs];refine Ie fun _=>?_;rw [ax a]; rfl
def Lc (t:AC) (p:Pattern) (h:AU) (m:Morphism):Ne × Int:=
 if M8 t p h≠0 then ([],M8 t p h) else if Mu t p.Graph h.Graph m false≠0 then ([],Mu t p.Graph h.Graph m false) else LP p h m
theorem SY {t:AC} (c:BX t) {p:Pattern} {h:AU} {m:Morphism} {inj:Bool} (a:M8 t p h=0) (d:Mu t p.Graph h.Graph m inj=0):(BF t).2=0∧P1 t p∧GY t h∧V5 t p.Graph h.Graph m:=by
 unfold M8 at a;split at a
 ·rename_i b; exact absurd a b
 rename_i b;obtain ⟨hv,e⟩:=YJ c a;exact ⟨hv,ZW hv (.inl (Classical.not_not.1 b)),e,(aH d).2⟩
theorem fv {t:AC} (a:BX t) (p:Pattern) (h:AU) (m:Morphism):FX t p h m=some (Lc t p h m):=by
 unfold FX Lc;rw [ag a,bs];refine K8 fun c=>?_;rw [YU a,bs];refine K8 fun d=>?_;obtain ⟨hv,b,f,g⟩:=SY a c d;rw [gB b (fun s e=>Nj (G8 hv) b f g e)]; rfl
theorem gG {t:AC} (a:BX t) (p:Pattern) (h:AU) (m:Morphism):L6 t p h m=some (Lc t p h m):=by
 unfold L6 Lc;rw [aw a,bs];refine K8 fun c=>?_;rw [Ya a,bs];refine K8 fun d=>?_;obtain ⟨hv,b,f,g⟩:=SY a c d;rw [gP b (fun s e=>Nj (G8 hv) b f g e)]; rfl
theorem bR {t:AC} {q:Pattern} {h:AU} {m:Morphism} (d:P1 t q) (f:∀ s∈q.Slots,Iz q.Vars h m s) (e:(LP q h m).2=0):((LP q h m).1.length:Int)=q.Vars∧NU (LP q h m).1:=by
 unfold LP at e ⊢;cases c:EX (EY (([],11):Ne × Int) h m) q.Slots (List.replicate q.Vars.toNat 0,List.replicate q.Vars.toNat false) with
 | inr r=>
  rw [c] at e;have:∀ (l:List EJ) (st:Ne × d0) (r:Ne × Int),EX (EY (([],11):Ne × Int) h m) l st=.inr r->r=([],11):=by
   intro l
   induction l with
   | nil=>intro st r h; cases h
   | cons a l i=>
    intro st r h;rw [EX] at h;split at h
    ·exact i _ _ h
    ·cases h
    ·rename_i j b;cases h;unfold EY at b;split at b
     ·cases b
     ·cases b; rfl
  rw [this _ _ _ c] at e;cases e
 | inl st=>
  rw [c] at e;have hi:=MT f (QG d.vars.1) c;dsimp only at e ⊢;split at e
  ·cases e
  ·rename_i g;rw [d2 g];exact ⟨hi.l1,hi.small⟩
end Go.Sf.Sc
namespace Go.Sf.Sc
open Go Go.Sf
theorem Rw {n:Nat} {α:Type} [Inhabited α] (F:Int->α) {i:Int} (c:0<=i) (v:α):BZ ((BW n).map F) i v=(BW n).map fun j=>if j=i then v else F j:=by
 unfold BZ;refine List.ext_getElem (by simp) (fun k d a=>?_);have b:k<n:=by simpa [D2] using a
 rw [List.getElem_set];have e:(BW n)[k]'(by rw [D2]; exact b)=(k:Int):=by simp [BW]
 simp only [List.getElem_map,e];by_cases h:i.toNat=k
 ·rw [d1 h,d1 (by omega)]
 ·rw [d2 h,d2 (by omega)]
theorem NN {n:Nat} {α:Type} {F G:Int->α} (h:∀ j,0<=j->j<(n:Int)->F j=G j):(BW n).map F=(BW n).map G:=List.map_congr_left fun j a=>h j (Hr.1 a).1 (Hr.1 a).2
def G5 (n:Nat) (k:Int):d0:=(BW n).map fun j=>decide (j<k)
theorem Qe (n:Nat):G5 n 0=List.replicate n false:=by
 unfold G5;refine List.ext_getElem (by simp [D2]) (fun k c a=>?_);have b:k<n:=by simpa using a
 have e:(BW n)[k]'(by rw [D2]; exact b)=(k:Int):=by simp [BW]
 simp only [List.getElem_map,e,List.getElem_replicate,decide_eq_false_iff_not];omega
theorem Rj (n:Nat) (k:Int):(G5 n k).length=n:=by unfold G5; rw [d7,D2]
def KZ (q:Pattern) (h:AU) (m:Morphism) (given:Ne):Ne × Bool:=
 match EX (EY (([],false):Ne × Bool) h m) q.Slots (given++List.replicate (q.Vars - given.length).toNat 0,G5 q.Vars.toNat given.length) with
 | .inr r=>r
 | .inl st=>if anyR (fun i=>!IS (AB q.Tests i) st.1) 0 q.Tests.length=true then ([],false) else (st.1,true)
theorem Q5 {n:Int} {a:Ne} (c:0<=n) (d:a.length<=n) (hv:NU a):VI n (a++List.replicate (n - a.length).toNat 0,G5 n.toNat a.length):=by
 refine ⟨by simp; omega,by show ((G5 n.toNat a.length).length:Int)=n; rw [Rj]; omega,fun x b=>?_⟩;rcases List.mem_append.1 b with b | b
 ·exact hv x b
 ·rw [List.mem_replicate] at b;omega
theorem jW {s:A8} {q:Pattern} {m:Morphism} {t:AC} {a:Ne} (l:P1 t q) (n:∀ x∈q.Slots,Iz q.Vars s.h m x) (u:a.length<=q.Vars) (hv:NU a):FD s q m a=some (KZ q s.h m a):=by
 have w:=l.vars;unfold FD KZ slices_Clone_int;rw [FE (by unfold BN; omega),bs,BG (by omega) (by omega)];have y:SZ a (q.Vars - a.length) 0=some (a++List.replicate (q.Vars - a.length).toNat 0):=by
  unfold SZ;rw [d1 ⟨by omega,by unfold BN; omega⟩]
 have z:Jq q.Vars false=some (List.replicate q.Vars.toNat false):=by
  unfold Jq;rw [d1 (by omega)]
 rw [y,bs,z,bs];have A:forA (fun (b:Int) (o:d0)=>(AM o b).bind fun v=>some (BZ o b true)) 0 (a.length:Int) (List.replicate q.Vars.toNat false)=some (G5 q.Vars.toNat a.length):=by
  refine DO (fun i=>G5 q.Vars.toNat i) (by omega) (Qe _) (fun i b f=>?_);rw [AI b (by rw [Rj]; omega),bs];congr 1;unfold G5;rw [Rw _ b];refine NN (fun j C D=>?_);by_cases e:j=i
  ·rw [d1 e,e]; simp; omega
  ·rw [d2 e,decide_eq_decide]; omega
 rw [A,bs];have k:=Q5 w.1 u hv;rw [N4 (EY (([],false):Ne × Bool) s.h m) (VI q.Vars) k]
 ·cases B:EX (EY (([],false):Ne × Bool) s.h m) q.Slots (a++List.replicate (q.Vars - a.length).toNat 0,G5 q.Vars.toNat a.length) with
  | inr r=>rfl
  | inl st=>
   have hi:=MT n k B;rw [DT,CR (fun i=>!IS (AB q.Tests i) st.1) ([],false)]
   ·dsimp only;cases anyR (fun i=>!IS (AB q.Tests i) st.1) 0 q.Tests.length <;> rfl
   ·intro i b f _;have p:=l.test _ (AQ b f);rw [AI b f,bs,p_holds p.2.1 p.2.2 hi.small (by have:=hi.l1; omega),bs];cases IS (AB q.Tests i) st.1 <;> rfl
 ·intro i st b f hi;have c:=n _ (AQ b f);refine ⟨?_,fun s' e=>Mi c hi e⟩;rw [AI b f,bs,AI c.node.1 c.node.2,bs,AI c.val.1 c.val.2,bs,AI c.attr.1 c.attr.2,bs];refine Ob c hi (T:=fun d=>(Hz (AB q.Slots i).Term d.1).bind fun g=>if ((!decide (g.2=0))||(!decide (g.1=ID s.h m (AB q.Slots i))))=true then some (CY.ret (([],false):Ne × Bool)) else some (.next d)) (fun d E=>?_);rw [cq c.term.low (by have:=c.term.high; omega) (by omega),bs];by_cases e:D4 (AB q.Slots i).Term d.1=ID s.h m (AB q.Slots i)
  ·rw [d2 (by simp [e]),d1 e]
  ·rw [d1 (by simp [e]),d2 e]
theorem ji {h:AU} {q:Pattern} {m:Morphism} {t:AC} {c:Ne} (v:P1 t q) (w:∀ x∈q.Slots,Iz q.Vars h m x) (C:c.length<=q.Vars) (hv:NU c):LM q h m c=some (KZ q h m c):=by
 have A:=v.vars;unfold LM KZ;have F:Jq q.Vars false=some (List.replicate q.Vars.toNat false):=by
  unfold Jq;rw [d1 (by omega)]
 rw [FE (by unfold BN; omega),bs,F,bs];have B:forA (fun (d:Int) (l:Ne × d0)=>
   (AM l.2 d).bind fun D=>
   if (decide ((c.length:Int)<=d))=true then
   (BV l.1 [0]).bind fun s=>
   some (s,BZ l.2 d (decide (d<(c.length:Int))))
   else
   some (l.1,BZ l.2 d (decide (d<(c.length:Int))))) 0 q.Vars (c,List.replicate q.Vars.toNat false)=some (c++List.replicate (q.Vars - c.length).toNat 0,(BW q.Vars.toNat).map fun j=>decide (j<q.Vars)&&decide (j<(c.length:Int))):=by
  refine DO (fun i=>(c++List.replicate (i - c.length).toNat 0,(BW q.Vars.toNat).map fun j=>decide (j<i)&&decide (j<(c.length:Int)))) A.1 ?_ (fun i d k=>?_)
  ·have G:((0:Int) - c.length).toNat=0:=by omega
   rw [G];simp only [List.replicate_zero,List.append_nil,Prod.mk.injEq,true_and];rw [←Qe];unfold G5;refine NN (fun j y z=>?_);rw [show decide (j<0)=false by simp; omega]; rfl
  ·dsimp only;rw [AI d (by rw [d7,D2]; omega),bs];have H:BZ ((BW q.Vars.toNat).map fun j=>decide (j<i)&&decide (j<(c.length:Int))) i (decide (i<(c.length:Int)))=(BW q.Vars.toNat).map fun j=>decide (j<i+1)&&decide (j<(c.length:Int)):=by
    rw [Rw _ d];refine NN (fun j y z=>?_);by_cases e:j=i
    ·rw [d1 e,e,show decide (i<i+1)=true by simp; omega,Bool.true_and]
    ·rw [d2 e]; congr 1; rw [decide_eq_decide]; omega
   rw [H];by_cases hi:(c.length:Int)<=i
   ·rw [d1 (by simpa using hi),CF (by simp; unfold BN; omega),bs];congr 2;rw [ea,show (i+1 - c.length).toNat=(i - c.length).toNat+1 by omega,List.replicate_succ']
   ·rw [d2 (by simpa using hi)];have I:(i+1 - c.length).toNat=(i - c.length).toNat:=by omega
    rw [I]
 have u:((BW q.Vars.toNat).map fun j=>decide (j<q.Vars)&&decide (j<(c.length:Int)))=G5 q.Vars.toNat c.length:=by
  unfold G5;refine NN (fun j y z=>?_);rw [show decide (j<q.Vars)=true by simp; omega,Bool.true_and]
 rw [u] at B;rw [B,bs];have o:=Q5 A.1 C hv;dsimp only;rw [N4 (EY (([],false):Ne × Bool) h m) (VI q.Vars) o]
 ·cases J:EX (EY (([],false):Ne × Bool) h m) q.Slots (c++List.replicate (q.Vars - c.length).toNat 0,G5 q.Vars.toNat c.length) with
  | inr r=>rfl
  | inl st=>
   have hi:=MT w o J;rw [DT,CR (fun i=>!IS (AB q.Tests i) st.1) ([],false)]
   ·dsimp only;cases anyR (fun i=>!IS (AB q.Tests i) st.1) 0 q.Tests.length <;> rfl
   ·intro i d k _;have p:=v.test _ (AQ d k);have E:=hi.l1;rw [AI d k,bs,TL p.2.1.low (by have:=p.2.1.high; omega),bs,TL p.2.2.low (by have:=p.2.2.high; omega),bs,←J5];unfold IS;dsimp only;congr 1;generalize D4 (AB q.Tests i).Left st.1=a;generalize D4 (AB q.Tests i).Right st.1=b;rcases p.1 with e | e
    ·rw [e,eq_iff_iff]; simp
    ·rw [e,eq_iff_iff]; simp
 ·intro i st d k hi;have f:=w _ (AQ d k);refine ⟨?_,fun s' e=>Mi f hi e⟩;rw [AI d k,bs,AI f.node.1 f.node.2,bs,AI f.val.1 f.val.2,bs,AI f.attr.1 f.attr.2,bs];refine Ob f hi (T:=fun g=>(Ij (AB q.Slots i).Term g.1).bind fun n=>if (!decide (n.1=ID h m (AB q.Slots i)))=true then some (CY.ret (([],false):Ne × Bool)) else some (.next g)) (fun g E=>?_);rw [TL f.term.low (by have:=f.term.high; omega),bs];by_cases e:D4 (AB q.Slots i).Term g.1=ID h m (AB q.Slots i)
  ·rw [d2 (by simp [e]),d1 e]
  ·rw [d1 (by simp [e]),d2 e]
theorem dy {t:AC} {q:Pattern} {h:AU} {m:Morphism} {b:Ne} (g:P1 t q) (i:∀ s∈q.Slots,Iz q.Vars h m s) (j:b.length<=q.Vars) (hv:NU b) (e:(KZ q h m b).2=true):((KZ q h m b).1.length:Int)=q.Vars∧NU (KZ q h m b).1:=by
 unfold KZ at e ⊢;have f:=Q5 g.vars.1 j hv;cases d:EX (EY (([],false):Ne × Bool) h m) q.Slots (b++List.replicate (q.Vars - b.length).toNat 0,G5 q.Vars.toNat b.length) with
 | inr r=>
  rw [d] at e;have:∀ (l:List EJ) (st:Ne × d0) (r:Ne × Bool),EX (EY (([],false):Ne × Bool) h m) l st=.inr r->r=([],false):=by
   intro l
   induction l with
   | nil=>intro st r h; cases h
   | cons a l n=>
    intro st r h;rw [EX] at h;split at h
    ·exact n _ _ h
    ·cases h
    ·rename_i o c;cases h;unfold EY at c;split at c
     ·cases c
     ·cases c; rfl
  rw [this _ _ _ d] at e;cases e
 | inl st=>
  rw [d] at e;have hi:=MT i f d;dsimp only at e ⊢;split at e
  ·cases e
  ·rename_i k;rw [d2 k];exact ⟨hi.l1,hi.small⟩
def I4 (n:Nat) (by' images:Ne):Ne:=(BW by'.length).foldl (fun l i=>BZ l (AB by' i) (AB images i)) (List.replicate n (-1))
theorem N3 (by' images:Ne):∀ (a:Ne) (l:Ne),(a.foldl (fun l i=>BZ l (AB by' i) (AB images i)) l).length=l.length
 | [],l=>rfl
 | k::a,l=>by rw [List.foldl_cons,N3 by' images a,O8]
theorem UH (n:Nat) (by' images:Ne):(I4 n by' images).length=n:=by unfold I4; rw [N3]; simp
theorem VC (by' images:Ne) {x:Int}:∀ (a:Ne) (l:Ne),x∈a.foldl (fun l i=>BZ l (AB by' i) (AB images i)) l->x∈l∨∃ k∈a,x=AB images k
 | [],l,h=>.inl h
 | k::a,l,h=>by
  rw [List.foldl_cons] at h;rcases VC by' images a _ h with h | ⟨j,b,e⟩
  ·rcases XL h with h | h
   ·exact .inl h
   ·exact .inr ⟨k,by simp,h⟩
  ·exact .inr ⟨j,by simp [b],e⟩
theorem UI {n:Nat} {by' images:Ne} {x:Int} (h:x∈I4 n by' images):x=-1∨∃ k:Int,(0<=k∧k<by'.length)∧x=AB images k:=by
 rcases VC by' images _ _ h with h | ⟨k,a,e⟩
 ·rw [List.mem_replicate] at h; exact .inl h.2
 ·exact .inr ⟨k,Hr.1 a,e⟩
theorem UJ {n:Nat} {by' images:Ne} (o:∀ x∈by',0<=x∧x<n) (p:by'.length<=images.length):forA (fun (d:Int) (g:Ne)=>
  (AM by' d).bind fun c=>
  (AM images d).bind fun e=>
  (AM g c).bind fun j=>
  some (BZ g c e)) 0 (by'.length:Int) (List.replicate n (-1))=some (I4 n by' images):=by
 have h:=DO (f:=fun (d:Int) (g:Ne)=>
  (AM by' d).bind fun c=>
  (AM images d).bind fun e=>
  (AM g c).bind fun j=>
  some (BZ g c e)) (fun i=>(BW i.toNat).foldl (fun l i=>BZ l (AB by' i) (AB images i)) (List.replicate n (-1))) (a:=0) (b:=by'.length) (s:=List.replicate n (-1)) (by omega) rfl (fun i d k=>by
   have m:=o _ (AQ d k);rw [AI d k,bs,AI d (by omega),bs,AI m.1 (by rw [N3]; simpa using m.2),bs,Jg d,List.foldl_append]; rfl)
 rw [h,Int.toNat_natCast]; rfl
theorem Wy {n:Nat} {by' images:Ne} (c:n<=1000) (a:∀ x∈by',0<=x∧x<n) (b:by'.length<=images.length):H0 n by' images=some (I4 n by' images):=by
 unfold H0 EL;rw [d1 ⟨rfl,by omega,by omega⟩,bs];show (forA _ 0 _ (List.replicate (n:Int).toNat (-1))).bind _=_;rw [Int.toNat_natCast,UJ a b]; rfl
theorem W8 {n:Nat} {by' images:Ne} (e:n<=1000) (c:∀ x∈by',0<=x∧x<n) (d:by'.length<=images.length):KC n by' images=some (I4 n by' images):=by
 unfold KC;rw [DO (a:=0) (b:=n) (s:=[]) (fun i=>List.replicate i.toNat (-1)) (by omega) rfl,bs,Int.toNat_natCast,UJ c d]
 ·rfl
 ·intro i f g;rw [CF (by simp; unfold BN; omega),bs,show (i+1).toNat=i.toNat+1 by omega,List.replicate_succ']
end Go.Sf.Sc
namespace Go.Sf.Sc
open Go Go.Sf
structure eA (f:AN):Prop where
 nl:f.nodes.length<=f.p.Nodes.length
 node:∀ i:Int,0<=i->i<f.nodes.length->(0<=AB f.nodes i∧AB f.nodes i<f.g.Nodes.length)∧AB (AB f.is (AB f.p.Nodes i)) (AB f.g.Nodes (AB f.nodes i))=true
 edge:∀ i:Int,0<=i->i<f.edges.length->(0<=AB f.edges i∧AB f.edges i<f.g.Edges.length)∧AB f.g.Edges (AB f.edges i)=⟨(AB f.p.Edges i).Type',AB f.nodes (AB f.p.Edges i).From,AB f.nodes (AB f.p.Edges i).To⟩
 inj:f.injective=true->f.nodes.Nodup∧f.edges.Nodup
structure Yv (f:AN) (m:Morphism):Prop where
 nl:m.Nodes.length=f.p.Nodes.length
 el:m.Edges.length=f.p.Edges.length
 node:∀ i:Int,0<=i->i<m.Nodes.length->(0<=AB m.Nodes i∧AB m.Nodes i<f.g.Nodes.length)∧AB (AB f.is (AB f.p.Nodes i)) (AB f.g.Nodes (AB m.Nodes i))=true
 edge:∀ i:Int,0<=i->i<m.Edges.length->(0<=AB m.Edges i∧AB m.Edges i<f.g.Edges.length)∧AB f.g.Edges (AB m.Edges i)=⟨(AB f.p.Edges i).Type',AB m.Nodes (AB f.p.Edges i).From,AB m.Nodes (AB f.p.Edges i).To⟩
 inj:f.injective=true->m.Nodes.Nodup∧m.Edges.Nodup
theorem Ua {α:Type} [Inhabited α] (l:List α) (x:α) {i:Int} (h:i=l.length):AB (l++[x]) i=x:=by
 subst h;rw [Ux,d2 (by omega)];simp
theorem UA {l:Ne} {k:Int} {b:Bool} (h:(!(b&&l.any fun x=>decide (k=x)))=true) (c:b=true) (d:l.Nodup):(l++[k]).Nodup:=by
 subst c;simp only [Bool.true_and,Bool.not_eq_true',List.any_eq_false,zzX] at h;rw [List.nodup_append];refine ⟨d,by simp,fun a f b c e=>?_⟩;rw [List.mem_singleton] at c;exact h a f (by rw [e,c])
theorem Ut:∀ (n:Nat) (f:AN),eA f->f.nodes.length=f.p.Nodes.length->f.edges.length+n=f.p.Edges.length->∀ m∈E8 n f,Yv f m
 | 0,f,b,o,r,m,a=>by
  rw [E8,List.mem_singleton] at a;subst a;exact ⟨o,by simpa using r,b.node,b.edge,b.inj⟩
 | n+1,f,b,o,r,m,a=>by
  rw [E8,List.mem_flatMap] at a;obtain ⟨k,j,a⟩:=a;have j:=Hr.1 j;split at a
  ·rename_i c;unfold Pf at c;rw [zzZ] at c;obtain ⟨d,l⟩:=c;rw [Qy,zzZ,zzX] at d;have:=Ut n { f with edges:=f.edges++[k] } ⟨b.nl,b.node,fun i q h=>by
    have h:i<((f.edges++[k]).length:Int):=h;simp only [d4,List.length_singleton] at h;show (0<=AB (f.edges++[k]) i∧AB (f.edges++[k]) i<f.g.Edges.length)∧AB f.g.Edges (AB (f.edges++[k]) i)=⟨(AB f.p.Edges i).Type',AB f.nodes (AB f.p.Edges i).From,AB f.nodes (AB f.p.Edges i).To⟩;by_cases e:i=f.edges.length
    ·rw [Ua _ _ e]; exact ⟨j,by rw [e]; exact d.2⟩
    ·rw [RF _ _ q (by omega)]; exact b.edge i q (by omega),fun hi=>⟨(b.inj hi).1,UA l hi (b.inj hi).2⟩⟩ o (by show (f.edges++[k]).length+n=f.p.Edges.length; rw [d4,List.length_singleton]; omega) m a
   exact ⟨this.nl,this.el,this.node,this.edge,this.inj⟩
  ·cases a
theorem Uu:∀ (n:Nat) (f:AN),eA f->f.edges=[]->f.nodes.length+n=f.p.Nodes.length->∀ m∈HL n f,Yv f m
 | 0,f,d,h,r,m,a=>by
  rw [HL] at a;exact Ut _ f d (by omega) (by rw [h]; simp) m a
 | n+1,f,d,h,r,m,a=>by
  rw [HL,List.mem_flatMap] at a;obtain ⟨k,l,a⟩:=a;have l:=Hr.1 l;split at a
  ·rename_i c;unfold Pg at c;rw [zzZ,zzZ] at c;obtain ⟨⟨_,o⟩,q⟩:=c;have:=Uu n { f with nodes:=f.nodes++[k] } ⟨by show (f.nodes++[k]).length<=f.p.Nodes.length; rw [d4,List.length_singleton]; omega,fun i j b=>by
    have b:i<((f.nodes++[k]).length:Int):=b;simp only [d4,List.length_singleton] at b;show (0<=AB (f.nodes++[k]) i∧AB (f.nodes++[k]) i<f.g.Nodes.length)∧AB (AB f.is (AB f.p.Nodes i)) (AB f.g.Nodes (AB (f.nodes++[k]) i))=true;by_cases e:i=f.nodes.length
    ·rw [Ua _ _ e];exact ⟨l,by rw [e]; exact o⟩
    ·rw [RF _ _ j (by omega)]; exact d.node i j (by omega),fun i j b=>by
    have b:i<(f.edges.length:Int):=b;rw [h] at b;have:i<(0:Nat):=b;omega,fun hi=>⟨UA q hi (d.inj hi).1,(d.inj hi).2⟩⟩ h (by show (f.nodes++[k]).length+n=f.p.Nodes.length; rw [d4,List.length_singleton]; omega) m a
   exact ⟨this.nl,this.el,this.node,this.edge,this.inj⟩
  ·cases a
theorem ZA {t:AC} {p g:Graph} {b:Morphism} {inj:Bool} {m:Morphism} (c:m∈Ls t p g b inj):Yv (FF t p g b inj) m:=
 Uu _ (FF t p g b inj) ⟨Nat.zero_le _,fun i d a=>by have a:i<(0:Nat):=a; omega,fun i d a=>by have a:i<(0:Nat):=a; omega,fun _=>⟨List.nodup_nil,List.nodup_nil⟩⟩ rfl (by show 0+p.Nodes.length=p.Nodes.length; omega) m (List.mem_of_mem_take c)
theorem cO {t:AC} {p g:Graph} {o:Morphism} {inj:Bool} (h:HP t p g=0) {m:Morphism} (q:m∈Ls t p g o inj):V5 t p g m:=by
 obtain ⟨hv,u,v,tp,s⟩:=Qa h;have:=ZA q;refine ⟨this.nl,this.el,fun i a c=>?_,fun i a c=>(this.edge i a c).1⟩;obtain ⟨d,b⟩:=this.node i a c;refine ⟨d,?_⟩;have f:=this.nl;have j:=tp _ (AQ (l:=p.Nodes) a (by show i<(p.Nodes.length:Int); have f:m.Nodes.length=p.Nodes.length:=f; omega));have n:=s _ (AQ (l:=g.Nodes) d.1 d.2);have b:AB (AB (KG t) (AB p.Nodes i)) (AB g.Nodes (AB m.Nodes i))=true:=b;have e:AB (KG t) (AB p.Nodes i)=Ky t (AB p.Nodes i):=by unfold KG; exact Mk (Ky t) j.1 j.2
 rw [e] at b;have r:AB (Ky t (AB p.Nodes i)) (AB g.Nodes (AB m.Nodes i))=JH t (AB g.Nodes (AB m.Nodes i)) (AB p.Nodes i):=by unfold Ky; exact Mk (fun k=>JH t k (AB p.Nodes i)) n.1 n.2
 rwa [r] at b
theorem Tp {t:AC} {p g:Graph} {b:Morphism} {inj:Bool} (h:(O0 t p g b inj).2=0):(O0 t p g b inj).1.length<=5000∧∀ m∈(O0 t p g b inj).1,V5 t p g m:=by
 unfold O0 at h ⊢;split at h
 ·rename_i a; exact absurd h a
 rename_i a;split at h
 ·cases h
 rename_i f;split at h
 ·rename_i c; exact absurd h c
 rename_i c;split at h
 ·rename_i d; exact absurd h d
 rename_i d;split at h
 ·cases h
 rename_i i;rw [d2 a,d2 f,d2 c,d2 d,d2 i];exact ⟨by dsimp only; omega,fun m e=>cO (Classical.not_not.1 a) e⟩
structure NP (t:AC) (p:Pattern) (h:AU) (x:AF):Prop where
 q:P1 t p
 m:V5 t p.Graph h.Graph x.Morphism
 len:(x.Vars.length:Int)=p.Vars
 small:NU x.Vars
structure V4 (t:AC) (p:Pattern) (c:AA):Prop where
 q:P1 t c.Pattern
 vars:p.Vars<=c.Pattern.Vars
 map:d9 p.Graph c.Pattern.Graph c.Map
 inj:Nc c.Map=true
def B5 (t:AC) (c:AA) (h:AU) (m:AF) (inj:Bool):List AF × Int:=
 let x:=O0 t c.Pattern.Graph h.Graph ⟨I4 c.Pattern.Graph.Nodes.length c.Map.Nodes m.Morphism.Nodes,I4 c.Pattern.Graph.Edges.length c.Map.Edges m.Morphism.Edges⟩ inj
 if x.2≠0 then ([],x.2) else ((x.1.filter fun y=>(KZ c.Pattern h y m.Vars).2).map fun y=>⟨y,(KZ c.Pattern h y m.Vars).1⟩,0)
instance:Inhabited Morphism:=⟨⟨[],[]⟩⟩
instance:Inhabited AF:=⟨⟨default,[]⟩⟩
instance:Inhabited A2:=⟨⟨0,default,[]⟩⟩
theorem Pu {x:List Morphism} {F:Morphism->Ne × Bool} {f:Int->List AF->Option (List AF)} (j:x.length<=5000)
  (e:∀ (i:Int) (s:List AF),0<=i->i<x.length->s.length<=5000->f i s=some (if (F (AB x i)).2=true then s++[⟨AB x i,(F (AB x i)).1⟩] else s)) :
  forA f 0 (x.length:Int) []=some ((x.filter fun y=>(F y).2).map fun y=>⟨y,(F y).1⟩):=by
 rw [DO (a:=0) (b:=x.length) (s:=[]) (fun i=>((x.take i.toNat).filter fun y=>(F y).2).map fun y=>(⟨y,(F y).1⟩:AF)) (by omega) rfl,Int.toNat_natCast,List.take_length];intro i c d;have g:(((x.take i.toNat).filter fun y=>(F y).2).map fun y=>(⟨y,(F y).1⟩:AF)).length<=5000:=by
  rw [d7];have:=List.length_filter_le (fun y=>(F y).2) (x.take i.toNat);have:=List.length_take_le i.toNat x;have:(x.take i.toNat).length<=x.length:=by rw [d5]; omega
  omega
 rw [e i _ c d g,GJ c d,List.filter_append,List.map_append];cases h:(F (AB x i)).2 <;> simp [h]
theorem jP {s:A8} {p:Pattern} {c:AA} {m:AF} (f:BX s.t) (hv:(BF s.t).2=0) (j:GY s.t s.h) (e:NP s.t p s.h m) (hi:V4 s.t p c):CT s c m=some (B5 s.t c s.h m s.injective):=by
 have v:=hi.q.g.nodes;have ge:=hi.q.g.edges;have m1:=hi.map.nlen;have w:=hi.map.elen;have z:=e.m.nlen;have A:=e.m.elen;unfold CT B5;rw [Wy (by omega) (fun x d=>by obtain ⟨i,a,b,rfl⟩:=EH d; exact (hi.map.node i a b).1) (by omega),bs,
  Wy (by omega) (fun x d=>by obtain ⟨i,a,b,rfl⟩:=EH d; exact (hi.map.edge i a b).1) (by omega),bs,Wu f,bs]
 dsimp only;refine K8 fun k=>?_;obtain ⟨o,r⟩:=Tp k;rw [Pu (F:=fun y=>KZ c.Pattern s.h y m.Vars) o]
 ·rfl
 ·intro i st a b u;have l:=r _ (AQ a b);have n:(m.Vars.length:Int)<=c.Pattern.Vars:=by have:=e.len; have:=hi.vars; omega
  rw [AI a b,bs,jW hi.q (fun x d=>Nj (G8 hv) hi.q j l d) n e.small,bs,←J5];split
  ·rw [CF (by simp; unfold BN; omega)]; rfl
  ·rfl
theorem av {t:AC} {h:AU} {inj:Bool} {p:Pattern} {c:AA} {m:AF} (f:BX t) (hv:(BF t).2=0) (j:GY t h) (e:NP t p h m) (hi:V4 t p c):H1 t c h m inj=some (B5 t c h m inj):=by
 have u:=hi.q.g.nodes;have ge:=hi.q.g.edges;have m1:=hi.map.nlen;have v:=hi.map.elen;have w:=e.m.nlen;have z:=e.m.elen;unfold H1 B5;rw [W8 (by omega) (fun x d=>by obtain ⟨i,a,b,rfl⟩:=EH d; exact (hi.map.node i a b).1) (by omega),bs,
  W8 (by omega) (fun x d=>by obtain ⟨i,a,b,rfl⟩:=EH d; exact (hi.map.edge i a b).1) (by omega),bs,cx f,bs]
 dsimp only;refine K8 fun k=>?_;obtain ⟨o,r⟩:=Tp k;rw [Pu (F:=fun y=>KZ c.Pattern h y m.Vars) o]
 ·rfl
 ·intro i st a b s;have l:=r _ (AQ a b);have n:(m.Vars.length:Int)<=c.Pattern.Vars:=by have:=e.len; have:=hi.vars; omega
  rw [AI a b,bs,ji hi.q (fun x d=>Nj (G8 hv) hi.q j l d) n e.small,bs,←J5];split
  ·rw [bs,CF (by simp; unfold BN; omega)]; rfl
  ·rfl
theorem Od {t:AC} {h:AU} {inj:Bool} {p:Pattern} {c:AA} {m:AF} (hv:(BF t).2=0) (i:GY t h) (f:NP t p h m) (hi:V4 t p c) (e:(B5 t c h m inj).2=0):(B5 t c h m inj).1.length<=5000∧∀ x∈(B5 t c h m inj).1,NP t c.Pattern h x:=by
 unfold B5 at e ⊢;dsimp only at e ⊢;split at e
 ·rename_i b; exact absurd e b
 rename_i b;rw [d2 b];obtain ⟨k,l⟩:=Tp (Classical.not_not.1 b);refine ⟨by dsimp only; rw [d7]; exact Nat.le_trans (List.length_filter_le _ _) k,fun x a=>?_⟩;dsimp only at a;rw [List.mem_map] at a;obtain ⟨y,d,rfl⟩:=a;rw [List.mem_filter] at d;have g:=l y d.1;have j:(m.Vars.length:Int)<=c.Pattern.Vars:=by have:=f.len; have:=hi.vars; omega
 have:=dy hi.q (fun x a=>Nj (G8 hv) hi.q i g a) j f.small d.2;exact ⟨hi.q,g,this.1,this.2⟩
end Go.Sf.Sc
