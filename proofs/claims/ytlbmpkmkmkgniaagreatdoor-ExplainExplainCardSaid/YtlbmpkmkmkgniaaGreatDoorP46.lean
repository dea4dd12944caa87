/- Plain lemmas: what the functions of the program and of the reference compute. -/
import Derived.Test.YtlbmpkmkmkgniaaGreatDoorP25
set_option linter.all false
set_option maxRecDepth 100000
namespace Go.Sf.Sc
open Go Go.Sf
variable {k:Int}
theorem QC {d:List Attr} (h:MC d k=0) (j:(AB d k).Names.length<=1000):-1000000<=(AB d k).Low∧(AB d k).High<=1000000:=by
 unfold MC at h;dsimp only at h;split at h
 ·cases h
 split at h
 ·cases h
 split at h
 ·split at h
  ·rename_i e; exact ⟨e.1,e.2.2⟩
  ·cases h
 split at h
 ·rename_i e; exact absurd h e
 split at h
 ·rename_i e; omega
 ·cases h
variable {t:AC} {i:Int}
theorem Xq (h:I9 t i=0):∀ k,((BW t i).length:Int) - (AB t.Nodes i).Attrs.length<=k->k<(BW t i).length->MC (BW t i) k=0:=by
 unfold I9 at h;dsimp only at h;split at h
 ·cases h
 split at h
 ·cases h
 split at h
 ·cases h
 split at h
 ·cases h
 exact Tn h
variable {a:Int}
theorem OS {n:Nat} (d:0<=a):C4 t (n+1) a=C4 t n (par t a)++(AB t.Nodes a).Attrs:=by
 rw [C4,d2 (by omega)]
theorem TS (u:BY t) (h:IP t) {Q:Attr->Prop} (QC:∀ {d:List Attr} {k:Int},MC d k=0->(AB d k).Names.length<=1000->Q (AB d k)):∀ (n:Nat) (a:Int),a<t.Nodes.length->a<n->∀ x∈C4 t n a,Q x
 | 0,_,_,_=>by simp [C4]
 | n+1,a,r,E=>by
  by_cases v:a<0
  ·rw [JJ v]; simp
  ·have A:=h.par a (by omega) r;intro x o;rw [OS (by omega)] at o;rcases List.mem_append.1 o with o | o
   ·exact TS u h QC n (par t a) (by omega) (by omega) x o
   ·obtain ⟨j,C,D,rfl⟩:=ED o;have e:BW t a=C4 t a.toNat (par t a)++(AB t.Nodes a).Attrs:=by
     unfold BW;rw [show (a+1).toNat=a.toNat+1 by omega,OS (by omega)]
    have B:(BW t a).length=(C4 t a.toNat (par t a)).length+(AB t.Nodes a).Attrs.length:=by rw [e,d4]
    have w:=Xq (h.node a (by omega) r) ((C4 t a.toNat (par t a)).length+j) (by omega) (by omega);have y:AB (BW t a) ((C4 t a.toNat (par t a)).length+j)=AB (AB t.Nodes a).Attrs j:=by
     rw [e,Uo,d2 (by omega)];unfold AB;congr 1;omega
    have z:=Mm u (Int.le_refl _) h.par r (AB (BW t a) ((C4 t a.toNat (par t a)).length+j)) (AP (by omega) (by omega));have:=QC w (by have:=z.names; omega)
    rwa [y] at this
theorem Yy (d:BY t) (h:IP t) (j:0<=a) (e:a<t.Nodes.length):∀ x∈BW t a,-1000000<=x.Low∧x.High<=1000000:=TS d h QC _ a e (by omega)
theorem VZ (e:HD t k):∀ (n:Nat) (a b:Int),a<k->a<n->b∈OA t n a->0<=b∧b<=a∧(BW t b).length<=(C4 t n a).length
 | 0,_,_,_,_=>by simp [OA]
 | n+1,a,b,j,u=>by
  intro d;rw [OA] at d;split at d
  ·cases d
  ·rename_i o;have r:=e a (by omega) j;rw [OS (by omega)];rcases List.mem_cons.1 d with rfl | d
   ·refine ⟨by omega,by omega,?_⟩;unfold BW;rw [MW e (b+1).toNat (n+1) b j (by omega) (by omega),OS (by omega)];exact d3 _
   ·have:=VZ e n (par t a) b (by omega) (by omega) d;refine ⟨this.1,by omega,?_⟩;rw [d4]; omega
variable {b:Int}
theorem aK (h:IP t) (o:a<t.Nodes.length) (d:JC t a b=true):(BW t b).length<=(BW t a).length:=by
 unfold JC at d;rw [List.any_eq_true] at d;obtain ⟨x,j,e⟩:=d;rw [zzX] at e;subst e;by_cases r:a<0
 ·have:(a+1).toNat=0:=by omega
  rw [this] at j; cases j
 ·exact (VZ h.par (a+1).toNat a b o (by omega) j).2.2
theorem Y2 {α:Type} {Q:Prop} [Decidable Q] {v:α} {X:Option α} {Y:α} (j:a=b↔Q) (h:Q->X=some Y):(if (!decide (a=b))=true then some v else X)=some (if ¬ Q then v else Y):=by
 by_cases d:Q
 ·rw [d2 (by simp [j.2 d]),d2 (by simpa using d),h d]
 ·rw [d1 (by simp; exact fun e=>d (j.1 e)),d1 d]
def Qh (t:AC) (k:Int) (v:Ne) (j:Int):Bool:=decide (AB v j<(AB (BW t k) j).Low)||decide ((AB (BW t k) j).High<AB v j)
def JP (t:AC) (k:Int) (v:Ne):Int:=
 if (t.Nodes.length:Int)<=k then 6 else if (AB t.Nodes k).Abstract=true then 13 else if ¬ v.length=(BW t k).length then 20 else
 if anyR (Qh t k v) 0 (BW t k).length=true then 6 else 0
def J2 (t:AC) (g:Graph) (i:Int):Int:=
 if (t.Edges.length:Int)<=(AB g.Edges i).Type' then 6 else if S6 t g i=false then 13 else 0
def My (t:AC) (h:AT):Int × Int:=
 if (BE t).2≠0 then (-1,(BE t).2) else if DK h.Graph≠0 then (-1,DK h.Graph) else if ¬ h.Values.length=h.Graph.Nodes.length then (-1,20) else
 match fst (fun i=>(nz (JP t (AB h.Graph.Nodes i) (AB h.Values i))).map fun e=>(i,e)) 0 h.Graph.Nodes.length with
 | some r=>r
 | none=>(fst (fun i=>(nz (J2 t h.Graph i)).map fun e=>(i,e)) 0 h.Graph.Edges.length).getD (-1,0)
theorem RK (hv:(BE t).2=0) (d:0<=k) (e:k<t.Nodes.length):JK t k=(BW t k,0):=by
 unfold JK;rw [d2 (by simp [hv]),d1 (MX.2 ⟨d,e⟩)]
theorem YQ {x:Bool} {y:Bool}:(if x=true then some true else some y)=some (x||y):=by cases x <;> rfl
theorem ft (u:BY t) (hv:(BE t).2=0) (o:0<=k) (v:Ne):KG t k v=some (JP t k v):=by
 unfold KG JP;by_cases d:(t.Nodes.length:Int)<=k
 ·rw [d1 (by simpa using d),d1 d]
 rw [d2 (by simpa using d),d2 d,AI o (by omega),bs];refine rT fun _=>?_;rw [YR u,RK hv o (by omega),bs];refine Y2 (by simp only []; omega) fun w=>?_;rw [CR (Qh t k v) 6]
 ·cases anyR (Qh t k v) 0 (BW t k).length <;> rfl
 ·intro j r e _;have e:j<(BW t k).length:=e;rw [AI r e,bs,AI r (by omega)];simp only [bs,YQ];unfold Qh;cases decide (AB v j<(AB (BW t k) j).Low) <;> cases decide ((AB (BW t k) j).High<AB v j) <;> rfl
theorem gE (u:BY t) (hv:(BE t).2=0) (o:0<=k) (v:Ne):M7 t k v=some (JP t k v):=by
 unfold M7 JP;by_cases d:(t.Nodes.length:Int)<=k
 ·rw [d1 (by simpa using d),d1 d]
 rw [d2 (by simpa using d),d2 d,AI o (by omega),bs];refine rT fun _=>?_;rw [YX u,RK hv o (by omega),bs];refine Y2 (by simp only []; omega) fun w=>?_;rw [CR (Qh t k v) 6]
 ·cases anyR (Qh t k v) 0 (BW t k).length <;> rfl
 ·intro j r e _;have e:j<(BW t k).length:=e;rw [AI r (by omega),bs,AI r e];simp only [bs,YQ];unfold Qh;cases decide (AB v j<(AB (BW t k) j).Low) <;> cases decide ((AB (BW t k) j).High<AB v j) <;> rfl
theorem Wi (e i:Int):(if (!decide (e=0))=true then some (CZ.ret (σ:=Unit) (ρ:=Int × Int) (i,e)) else some (.next ()))=some (Pg ((nz e).map fun e=>(i,e))):=by
 unfold nz;by_cases h:e=0 <;> simp [h,Pg]
theorem aZ (u:BY t) (h:AT):H7 t h=some (My t h):=by
 unfold H7 My;rw [SX u,bs];refine K8 fun hv=>?_;rw [Oe,bs];refine K8 fun v=>?_;have go:=GE v;refine Y2 (by omega) fun A=>?_;rw [C5 (fun i=>(nz (JP t (AB h.Graph.Nodes i) (AB h.Values i))).map fun e=>(i,e)),GB]
 ·cases w:fst (fun i=>(nz (JP t (AB h.Graph.Nodes i) (AB h.Values i))).map fun e=>(i,e)) 0 h.Graph.Nodes.length with
  | some r=>rfl
  | none=>
   have y:=DA.1 w;dsimp only;rw [C5 (fun i=>(nz (J2 t h.Graph i)).map fun e=>(i,e)),GB]
   ·cases fst (fun i=>(nz (J2 t h.Graph i)).map fun e=>(i,e)) 0 h.Graph.Edges.length <;> rfl
   ·intro i d j _;have z:=go.fit _ (AP (l:=h.Graph.Edges) d j);rw [AI d j,bs];unfold J2 S6;by_cases o:(t.Edges.length:Int)<=(AB h.Graph.Edges i).Type'
    ·rw [d1 (by simpa using o),d1 o]; rfl
    ·rw [d2 (by simpa using o),d2 o,AI (by omega) (by omega),bs,AI (by omega) (by omega),bs,jE u,bs];cases QP t (AB h.Graph.Edges i).Type' (AB h.Graph.Nodes (AB h.Graph.Edges i).From) (AB h.Graph.Nodes (AB h.Graph.Edges i).To) <;> rfl
 ·intro i d j _;rw [AI d j,bs,AI d (by omega),bs,ft u hv (go.kind _ (AP d j)).1,bs];exact Wi _ i
theorem am (u:BY t) (h:AT):Kr t h=some (My t h):=by
 unfold Kr My;rw [SZ u,bs];refine K8 fun hv=>?_;rw [Og,bs];refine K8 fun v=>?_;have go:=GE v;refine Y2 (by omega) fun A=>?_;rw [C5 (fun i=>(nz (JP t (AB h.Graph.Nodes i) (AB h.Values i))).map fun e=>(i,e)),GB]
 ·cases w:fst (fun i=>(nz (JP t (AB h.Graph.Nodes i) (AB h.Values i))).map fun e=>(i,e)) 0 h.Graph.Nodes.length with
  | some r=>rfl
  | none=>
   have y:=DA.1 w;dsimp only;rw [C5 (fun i=>(nz (J2 t h.Graph i)).map fun e=>(i,e)),GB]
   ·cases fst (fun i=>(nz (J2 t h.Graph i)).map fun e=>(i,e)) 0 h.Graph.Edges.length <;> rfl
   ·intro i d j _;have z:=go.fit _ (AP (l:=h.Graph.Edges) d j);rw [AI d j,bs];unfold J2 S6;by_cases o:(t.Edges.length:Int)<=(AB h.Graph.Edges i).Type'
    ·rw [d1 (by simpa using o),d1 o]; rfl
    ·rw [d2 (by simpa using o),d2 o,AI (by omega) (by omega),bs,AI (by omega) (by omega),bs,jR u,bs];cases QP t (AB h.Graph.Edges i).Type' (AB h.Graph.Nodes (AB h.Graph.Edges i).From) (AB h.Graph.Nodes (AB h.Graph.Edges i).To) <;> rfl
 ·intro i d j _;rw [AI d j,bs,AI d (by omega),bs,gE u hv (go.kind _ (AP d j)).1,bs];exact Wi _ i
structure GF (t:AC) (h:AT):Prop where
 g:Ki h.Graph
 len:h.Values.length=h.Graph.Nodes.length
 kind:∀ i:Int,0<=i->i<h.Graph.Nodes.length->0<=AB h.Graph.Nodes i∧AB h.Graph.Nodes i<t.Nodes.length
 row:∀ i:Int,0<=i->i<h.Graph.Nodes.length->(AB h.Values i).length=(BW t (AB h.Graph.Nodes i)).length
 low:∀ i:Int,0<=i->i<h.Graph.Nodes.length->∀ x∈AB h.Values i,-1000000<=x∧x<=1000000
 ge:DK h.Graph=0
 ty:GL t h.Graph=true
variable {h:AT}
theorem YI (H:BY t) (e:(My t h).2=0):(BE t).2=0∧GF t h:=by
 unfold My at e;split at e
 ·rename_i w; exact absurd e w
 split at e
 ·rename_i w; exact absurd e w
 split at e
 ·cases e
 rename_i w E I;have hv:=Classical.not_not.1 w;have go:=GE (Classical.not_not.1 E);have z:∀ i:Int,0<=i->i<h.Graph.Nodes.length->JP t (AB h.Graph.Nodes i) (AB h.Values i)=0:=by
  split at e
  ·rename_i r u;obtain ⟨i,_,_,k,_⟩:=C1 u;unfold nz at k;split at k
   ·cases k
   ·rename_i v; cases k; exact absurd e v
  ·rename_i u;exact fun i d o=>Od.1 (Nb.1 (DA.1 u i d o))
 have A:∀ i:Int,0<=i->i<h.Graph.Nodes.length->(0<=AB h.Graph.Nodes i∧AB h.Graph.Nodes i<t.Nodes.length)∧(AB h.Values i).length=(BW t (AB h.Graph.Nodes i)).length∧∀ j:Int,0<=j->j<(BW t (AB h.Graph.Nodes i)).length->Qh t (AB h.Graph.Nodes i) (AB h.Values i) j=false:=by
  intro i d o;have L:=(go.kind _ (AP d o)).1;have:=z i d o;unfold JP at this;split at this
  ·cases this
  split at this
  ·cases this
  split at this
  ·cases this
  split at this
  ·cases this
  rename_i O P J K;exact ⟨⟨L,by omega⟩,Classical.not_not.1 J,ET.1 (by simpa using K)⟩
 have M:∀ i:Int,0<=i->i<h.Graph.Edges.length->J2 t h.Graph i=0:=by
  have C:fst (fun i=>(nz (JP t (AB h.Graph.Nodes i) (AB h.Values i))).map fun e=>(i,e)) 0 h.Graph.Nodes.length=none:=DA.2 fun i d o=>by rw [z i d o]; rfl
  rw [C] at e;dsimp only at e;cases u:fst (fun i=>(nz (J2 t h.Graph i)).map fun e=>(i,e)) 0 h.Graph.Edges.length with
  | some r=>
   rw [u] at e;obtain ⟨i,_,_,k,_⟩:=C1 u;unfold nz at k;split at k
   ·cases k
   ·rename_i v; cases k; exact absurd e v
  | none=>exact fun i d o=>Od.1 (Nb.1 (DA.1 u i d o))
 have D:GL t h.Graph=true:=by
  unfold GL;rw [zzZ,Bool.not_eq_true',Bool.not_eq_true',List.any_eq_false,List.any_eq_false];refine ⟨fun n z=>?_,fun x B=>?_⟩
  ·obtain ⟨i,d,o,rfl⟩:=ED z;have:=(A i d o).1.2;simp; omega
  ·obtain ⟨i,d,o,rfl⟩:=ED B;have:=M i d o;unfold J2 at this;split at this
   ·cases this
   ·simp; omega
 suffices y:∀ i:Int,0<=i->i<h.Graph.Nodes.length->∀ x∈AB h.Values i,-1000000<=x∧x<=1000000 from ⟨hv,go,Classical.not_not.1 I,fun i d o=>(A i d o).1,fun i d o=>(A i d o).2.1,y,Classical.not_not.1 E,D⟩
 intro i d o x B;obtain ⟨F,Q,N⟩:=A i d o;obtain ⟨j,G,R,rfl⟩:=ED B;have:=N j G (by omega);unfold Qh at this;simp only [Bool.or_eq_false_iff,decide_eq_false_iff_not] at this;have:=Yy H (HC hv) F.1 F.2 _ (AP (l:=BW t (AB h.Graph.Nodes i)) G (by omega));omega
end Go.Sf.Sc
namespace Go.Sf.Sc
open Go Go.Sf
def Jx (t:AC) (p g:Graph) (m:Morphism) (i:Int):dD:=
 if AB m.Nodes i<0∨g.Nodes.length<=AB m.Nodes i then some 6 else if JC t (AB g.Nodes (AB m.Nodes i)) (AB p.Nodes i)=false then some 13 else none
def NC (t:AC) (p g:Graph) (m:Morphism):Int:=
 if m.Nodes.length≠p.Nodes.length∨m.Edges.length≠p.Edges.length then 20 else
 match fst (Jx t p g m) 0 m.Nodes.length with
 | some e=>e
 | none=>(fst (Hz p g m) 0 m.Edges.length).getD 0
def Mq (t:AC) (p g:Graph) (m:Morphism) (inj:Bool):Int:=
 if HU t p g≠0 then HU t p g else if NC t p g m≠0 then NC t p g m else if (inj&&!Na m)=true then 5 else 0
structure Vt (t:AC) (p g:Graph) (m:Morphism):Prop where
 nlen:m.Nodes.length=p.Nodes.length
 elen:m.Edges.length=p.Edges.length
 node:∀ i:Int,0<=i->i<m.Nodes.length->(0<=AB m.Nodes i∧AB m.Nodes i<g.Nodes.length)∧JC t (AB g.Nodes (AB m.Nodes i)) (AB p.Nodes i)=true
 edge:∀ i:Int,0<=i->i<m.Edges.length->0<=AB m.Edges i∧AB m.Edges i<g.Edges.length
variable {t:AC} {p g:Graph}
theorem QT (h:HU t p g=0):(BE t).2=0∧Ki p∧Ki g∧(∀ n∈p.Nodes,0<=n∧n<t.Nodes.length)∧∀ n∈g.Nodes,0<=n∧n<t.Nodes.length:=by
 unfold HU at h;split at h
 ·rename_i d; exact absurd h d
 split at h
 ·rename_i d; exact absurd h d
 split at h
 ·rename_i d; exact absurd h d
 split at h
 ·rename_i d r u e;rw [zzZ] at e;have j:=GE (Classical.not_not.1 r);have o:=GE (Classical.not_not.1 u);exact ⟨Classical.not_not.1 d,j,o,(Ni j e.1).1,(Ni o e.2).1⟩
 ·cases h
variable {m:Morphism}
theorem Yc (h:NC t p g m=0):Vt t p g m:=by
 unfold NC at h;split at h
 ·cases h
 rename_i v;have j:fst (Jx t p g m) 0 m.Nodes.length=none:=by
  split at h
  ·rename_i r o;obtain ⟨i,_,_,k,_⟩:=C1 o;subst h;unfold Jx at k;split at k
   ·cases k
   ·split at k <;> cases k
  ·assumption
 rw [j] at h;have u:=U3 (fun i=>by
  unfold Hz;split
  ·simp
  ·split
   ·simp
   ·split <;> simp) h
 refine ⟨by omega,by omega,fun i d e=>?_,fun i d e=>?_⟩
 ·have:=DA.1 j i d e;unfold Jx at this;split at this
  ·cases this
  ·split at this
   ·cases this
   ·rename_i x y;exact ⟨by omega,by simpa using y⟩
 ·have:=u i d e;unfold Hz at this;split at this
  ·cases this
  ·omega
theorem ag (z:BY t) (A:HU t p g=0) (m:Morphism):IL t p g m=some (NC t p g m):=by
 obtain ⟨hv,C,G,tp,D⟩:=QT A;unfold IL NC;refine Pr (by simp; try omega) fun E=>?_;rw [eH z (HC hv) hv,bs,C5 (Jx t p g m),GB]
 ·cases F:fst (Jx t p g m) 0 m.Nodes.length with
  | some e=>rfl
  | none=>
   dsimp only;rw [C5 (Hz p g m),Ht];intro i j y _;unfold Hz;rw [AI j y,bs];by_cases d:AB m.Edges i<0∨g.Edges.length<=AB m.Edges i
   ·rw [d1 (by simpa using d),d1 d]; rfl
   ·have z:=C.fit _ (AP (l:=p.Edges) j (by omega));rw [d2 (by simpa using d),d2 d,AI j (by omega),bs,AI (by omega) (by omega),bs];by_cases o:(AB p.Edges i).Type'=(AB g.Edges (AB m.Edges i)).Type'
    ·rw [d2 (by simpa using o),d2 (by simpa using o),AI (by omega) (by omega),bs];by_cases r:AB m.Nodes (AB p.Edges i).From=(AB g.Edges (AB m.Edges i)).From
     ·rw [d2 (by simpa using r),AI (by omega) (by omega),bs,bs];by_cases u:AB m.Nodes (AB p.Edges i).To=(AB g.Edges (AB m.Edges i)).To
      ·rw [d2 (by simpa using u),d2 (by simp [r,u])]; rfl
      ·rw [d1 (by simpa using u),d1 (.inr u)]; rfl
     ·rw [d1 (by simpa using r),bs,d1 rfl,d1 (.inl r)]; rfl
    ·rw [d1 (by simpa using o),d1 o]; rfl
 ·intro i j y _;unfold Jx;rw [AI j y,bs];by_cases d:AB m.Nodes i<0∨g.Nodes.length<=AB m.Nodes i
  ·rw [d1 (by simpa using d),d1 d]; rfl
  ·have v:=tp _ (AP (l:=p.Nodes) j (by omega));have w:=D _ (AP (l:=g.Nodes) (show 0<=AB m.Nodes i by omega) (by omega));rw [d2 (by simpa using d),d2 d,AI j (by omega),bs,AI v.1 (by unfold KE; rw [d7,DN]; exact v.2),bs,AI (by omega) (by omega),bs];have e:AB (KE t) (AB p.Nodes i)=Kz t (AB p.Nodes i):=by unfold KE; exact Mg (Kz t) v.1 v.2
   rw [e,AI w.1 (by unfold Kz; rw [d7,DN]; exact w.2),bs];have B:AB (Kz t (AB p.Nodes i)) (AB g.Nodes (AB m.Nodes i))=JC t (AB g.Nodes (AB m.Nodes i)) (AB p.Nodes i):=by unfold Kz; exact Mg (fun k=>JC t k (AB p.Nodes i)) w.1 w.2
   rw [B];cases JC t (AB g.Nodes (AB m.Nodes i)) (AB p.Nodes i) <;> rfl
variable {l:Ne}
theorem YU (r:l.length<=1000):I6 l=some (!Ln l):=by
 unfold I6;rw [d1 (by omega)];congr 1;have e:=S5 l;have j:=QG (l:=l);cases d:dupB l with
 | false=>rw [j.2 (e.1 d)]; rfl
 | true=>
  cases o:Ln l with
  | false=>rfl
  | true=>rw [e.2 (j.1 o)] at d; cases d
theorem YT (d:BY t) (p g:Graph) (m:Morphism) (inj:Bool):Ho t p g m inj=some (Mq t p g m inj):=by
 unfold Ho Mq;rw [YV d,bs];refine Ib fun e=>?_;rw [ag d e,bs];refine Ib fun r=>?_;obtain ⟨_,o,u,_⟩:=QT e;have j:=Yc r;have:=o.nodes; have:=o.edges; have:=j.nlen; have:=j.elen;rw [YU (by omega),YU (by omega)];unfold Na;cases inj <;> cases Ln m.Nodes <;> cases Ln m.Edges <;> rfl
theorem gD (l:Ne):J8 l=some (Ln l):=ZS l
theorem aq (z:HU t p g=0) (m:Morphism) (inj:Bool):L4 t p g m inj=some (if NC t p g m≠0 then NC t p g m else if (inj&&!Na m)=true then 5 else 0):=by
 obtain ⟨hv,D,G,tp,E⟩:=QT z;unfold L4 NC;by_cases w:m.Nodes.length≠p.Nodes.length∨m.Edges.length≠p.Edges.length
 ·rw [d1 (by simp; try omega),d1 w]; rfl
 rw [d2 (by simp; try omega),d2 w,C5 (Jx t p g m),GB]
 ·cases A:fst (Jx t p g m) 0 m.Nodes.length with
  | some e=>
   have:e≠0:=by
    obtain ⟨i,_,_,k,_⟩:=C1 A;rintro rfl;unfold Jx at k;split at k
    ·cases k
    ·split at k <;> cases k
   dsimp only;rw [d1 this]
  | none=>
   dsimp only;rw [C5 (Hz p g m),GB]
   ·cases B:fst (Hz p g m) 0 m.Edges.length with
    | some e=>
     have:e≠0:=by
      obtain ⟨i,_,_,k,_⟩:=C1 B;rintro rfl;unfold Hz at k;split at k
      ·cases k
      ·split at k
       ·cases k
       ·split at k <;> cases k
     simp only [Option.getD_some];rw [d1 this]
    | none=>
     simp only [Option.getD_none,gD];unfold Na;cases inj <;> cases Ln m.Nodes <;> cases Ln m.Edges <;> rfl
   intro i j v _;unfold Hz;rw [AI j v];simp only [bs,SB];by_cases d:AB m.Edges i<0∨g.Edges.length<=AB m.Edges i
   ·rw [d1 (by simpa using d),d1 d]; rfl
   ·have F:=D.fit _ (AP (l:=p.Edges) j (by omega));rw [d2 (by simpa using d),d2 d,AI j (by omega),bs,AI (by omega) (by omega),bs];by_cases o:(AB p.Edges i).Type'=(AB g.Edges (AB m.Edges i)).Type'
    ·rw [d2 (by simpa using o),d2 (by simpa using o),AI (by omega) (by omega),bs];by_cases r:AB m.Nodes (AB p.Edges i).From=(AB g.Edges (AB m.Edges i)).From
     ·rw [d2 (by simpa using r),AI (by omega) (by omega),bs,bs];by_cases u:AB m.Nodes (AB p.Edges i).To=(AB g.Edges (AB m.Edges i)).To
      ·rw [d2 (by simpa using u),d2 (by simp [r,u])]; rfl
      ·rw [d1 (by simpa using u),d1 (.inr u)]; rfl
     ·rw [d1 (by simpa using r),bs,d1 rfl,d1 (.inl r)]; rfl
    ·rw [d1 (by simpa using o),d1 o]; rfl
 ·intro i j v _;unfold Jx;rw [AI j v];simp only [bs,SB];by_cases d:AB m.Nodes i<0∨g.Nodes.length<=AB m.Nodes i
  ·rw [d1 (by simpa using d),d1 d]; rfl
  ·have C:=tp _ (AP (l:=p.Nodes) j (by omega));have y:=E _ (AP (l:=g.Nodes) (show 0<=AB m.Nodes i by omega) (by omega));rw [d2 (by simpa using d),d2 d,AI (by omega) (by omega),bs,AI j (by omega),bs,Sa (HC hv) y.1 y.2 C.1,bs];cases JC t (AB g.Nodes (AB m.Nodes i)) (AB p.Nodes i) <;> rfl
theorem YZ (d:BY t) (p g:Graph) (m:Morphism) (inj:Bool):Ks t p g m inj=some (Mq t p g m inj):=by
 unfold Ks Mq;rw [TH d,bs];refine Ib fun e=>?_;rw [aq e,bs]
theorem aD {inj:Bool} (h:Mq t p g m inj=0):HU t p g=0∧Vt t p g m:=by
 unfold Mq at h;split at h
 ·rename_i d; exact absurd h d
 split at h
 ·rename_i d; exact absurd h d
 rename_i d e;exact ⟨Classical.not_not.1 d,Yc (Classical.not_not.1 e)⟩
end Go.Sf.Sc
namespace Go.Sf.Sc
open Go Go.Sf
section
variable {α σ ρ:Type}
def EW (step:α->σ->CZ σ ρ):List α->σ->σ ⊕ ρ
 | [],s=>.inl s
 | a::r,s=>match step a s with
  | .next s'=>EW step r s'
  | .brk s'=>.inl s'
  | .ret r=>.inr r
variable {f:Int->σ->Option (CZ σ ρ)}
theorem R4 [Inhabited α] {l:List α} (step:α->σ->CZ σ ρ) (I:σ->Prop) (h:∀ (i:Int) s,0<=i->i<l.length->I s->f i s=some (step (AB l i) s)∧∀ s',step (AB l i) s=.next s'->I s') :
  ∀ (n:Nat) (a:Int) (s:σ),0<=a->a+n=l.length->I s->forGo f n a s=some (EW step (l.drop a.toNat) s)
 | 0,a,s,d,v,_=>by
  rw [List.drop_eq_nil_of_le (by omega)]; rfl
 | n+1,a,s,d,v,w=>by
  obtain ⟨o,u⟩:=h a s d (by omega) w;have e:l.drop a.toNat=AB l a::l.drop (a+1).toNat:=by
   rw [show (a+1).toNat=a.toNat+1 by omega,List.drop_eq_getElem_cons (by omega)];congr 1;unfold AB;rw [List.getD_eq_getElem?_getD,List.getElem?_eq_getElem (by omega)]; rfl
  rw [H6,o,e,EW];cases j:step (AB l a) s with
  | next s'=>
   simp only;exact R4 step I h n (a+1) s' (by omega) (by omega) (u s' j)
  | brk s'=>rfl
  | ret r=>rfl
theorem N3 [Inhabited α] {l:List α} (step:α->σ->CZ σ ρ) (I:σ->Prop) {s:σ} (d:I s) (h:∀ (i:Int) s,0<=i->i<l.length->I s->f i s=some (step (AB l i) s)∧∀ s',step (AB l i) s=.next s'->I s') :
  forR f 0 l.length s=some (EW step l s):=by
 have:=R4 step I h l.length 0 s (by omega) (by omega) d;unfold forR;rw [show ((l.length:Int) - 0).toNat=l.length by omega];exact this
theorem XD [Inhabited α] (step:α->σ->CZ σ ρ) (I:σ->Prop):∀ (l:List α) (s s':σ),I s->(∀ a∈l,∀ s s',I s->step a s=.next s'->I s')->(∀ a∈l,∀ s s',step a s≠.brk s')->EW step l s=.inl s'->I s'
 | [],s,s',h,_,_,e=>by cases e; exact h
 | a::r,s,s',h,o,u,e=>by
  rw [EW] at e;split at e
  ·rename_i s2 j;exact XD step I r s2 s' (o a (by simp) s s2 h j) (fun a d=>o a (by simp [d])) (fun a d=>u a (by simp [d])) e
  ·rename_i s2 j; exact absurd j (u a (by simp) _ _)
  ·cases e
end
def D5 (x:Term) (l:Ne):Int:=if x.Var<0 then x.Add else A4 (AB l x.Var+x.Add)
variable {x:Term} {l:Ne}
theorem SC (h:x.Var<l.length):F4 x l=some (D5 x l):=by
 unfold F4 D5;by_cases d:x.Var<0
 ·rw [d1 (by simpa using d),d1 d]
 ·rw [d2 (by simpa using d),d2 d,AI (by omega) h]; rfl
theorem VP (h:x.Var<l.length):Jk x l=some (D5 x l):=SC h
theorem cl (d:-1<=x.Var) (h:x.Var<l.length) (e:l.length<=1000):H0 x l=some (D5 x l,0):=by
 unfold H0 D2;rw [BI (by omega) (by omega),bs,d2 (by simp; omega),SC h]; rfl
theorem TF (d:-1<=x.Var) (h:x.Var<l.length):Ih x l=some (D5 x l,0):=by
 unfold Ih;rw [d2 (by simp; omega),VP h]; rfl
def IR (x:Test) (l:Ne):Bool:=(decide (x.Kind=1)&&decide (D5 x.Left l<=D5 x.Right l))||(decide (x.Kind=2)&&decide (D5 x.Left l=D5 x.Right l))
structure JH (n:Int) (x:Term):Prop where
 low:-1<=x.Var
 high:x.Var<n
 add:-1000000<=x.Add∧x.Add<=1000000
def NQ (l:Ne):Prop:=∀ x∈l,-2000000<=x∧x<=2000000
variable {n:Int}
theorem Qv (h:JH n x) (e:NQ l) (j:n<=l.length):D5 x l=(if x.Var<0 then x.Add else AB l x.Var+x.Add)∧-3000000<=D5 x l∧D5 x l<=3000000:=by
 unfold D5;have:=h.add;by_cases d:x.Var<0
 ·rw [d1 d,d1 d]; omega
 ·have o:=h.high;have:=e _ (AP (l:=l) (show 0<=x.Var by omega) (by omega));rw [d2 d,d2 d,BI (by omega) (by omega)]; omega
theorem VO (h:JH n x) (e:n<=l.length):Kl x l=some (D5 x l,true):=by
 have j:=h.low;have o:=h.high;unfold Kl D5;by_cases d:x.Var=-1
 ·rw [d1 (by simpa using d),d1 (by omega)]
 ·rw [d2 (by simpa using d),d2 (by simp; omega),d2 (by omega),AI (by omega) (by omega)]; rfl
theorem r_holds {x:Test} (e:JH n x.Left) (j:JH n x.Right) (d:n<=l.length):Ly x l=some (IR x l):=by
 unfold Ly;rw [VO e d,VO j d]; rfl
variable {a b:Int}
theorem Va (w:-4000000<=a∧a<=4000000) (y:-4000000<=b∧b<=4000000):IQ a b=some (if a+b<0 then (-1,a+b+18446744073709551616) else (0,a+b)):=by
 have u:∀ c:Int,IntKind.u64.wrap c=c % 18446744073709551616:=fun c=>by
  simp [IntKind.wrap,IntKind.signed,IntKind.bits]
 have v:∀ c:Int,-4000000<=c∧c<=4000000->Lu .i64 .shr c 63=some (if c<0 then -1 else 0):=by
  intro c B;unfold Lu;have e:c.fdiv (2 ^ (min (63:Int).toNat (IntKind.bits .i64)))=if c<0 then -1 else 0:=by
   show c.fdiv (2 ^ 63)=_;rw [Int.fdiv_eq_ediv_of_nonneg _ (by decide)];split <;> omega
  simp only [e];have:(0:Int)<=63∧IntKind.min .i64<=(if c<0 then -1 else 0)∧(if c<0 then -1 else 0)<=IntKind.max .i64:=by
   split <;> decide
  rw [d1 this]
 unfold IQ JR;rw [u,u,d1 (by omega),bs,v a w,v b y,bs,bs];congr 1;have d:∀ c:Int,-10<=c->c<=10->A4 c=c:=fun c j o=>BI (by omega) (by omega);have z:(a % 18446744073709551616+b % 18446744073709551616+0) / 18446744073709551616=if a<0∧b<0 then 1 else if (a<0∨b<0)∧0<=a+b then 1 else 0:=by
  split
  ·omega
  ·split <;> omega
 have A:(a % 18446744073709551616+b % 18446744073709551616+0) % 18446744073709551616=if a+b<0 then a+b+18446744073709551616 else a+b:=by
  split <;> omega
 rw [z,A];by_cases j:a<0 <;> by_cases o:b<0
 ·simp only [j,o,and_self,if_true];rw [d _ (by decide) (by decide),d _ (by decide) (by decide),d1 (by omega),d1 (by omega)]; rfl
 ·by_cases r:a+b<0
  ·simp only [j,o,and_false,if_true,if_false,true_or,true_and,r,show ¬ 0<=a+b by omega];rw [d _ (by decide) (by decide),d _ (by decide) (by decide)]; rfl
  ·simp only [j,o,and_false,if_true,if_false,true_or,true_and,r,show 0<=a+b by omega];rw [d _ (by decide) (by decide),d _ (by decide) (by decide)]; rfl
 ·by_cases r:a+b<0
  ·simp only [j,o,false_and,if_true,if_false,or_true,true_and,r,show ¬ 0<=a+b by omega];rw [d _ (by decide) (by decide),d _ (by decide) (by decide)]; rfl
  ·simp only [j,o,false_and,if_true,if_false,or_true,true_and,r,show 0<=a+b by omega];rw [d _ (by decide) (by decide),d _ (by decide) (by decide)]; rfl
 ·have r:¬ a+b<0:=by omega
  simp only [j,o,false_and,and_self,if_false,or_self,r];rw [d _ (by decide) (by decide),d _ (by decide) (by decide)]; rfl
def KZ (a:Int):Int × Int:=if a<0 then (-1,a+18446744073709551616) else (0,a)
theorem Wo (h:JH n x) (d:NQ l) (r:n<=l.length):G4 x l=some ((KZ (D5 x l)).1,(KZ (D5 x l)).2,true):=by
 have u:=h.low;have v:=h.high;have w:=h.add;have j:=(Qv h d r).1;unfold G4;by_cases o:x.Var=-1
 ·have e:D5 x l=x.Add:=by rw [j,d1 (by omega)]
  rw [e,d1 (by simpa using o),Va (by omega) (by omega),bs,Int.zero_add]; rfl
 ·have:=d _ (AP (l:=l) (show 0<=x.Var by omega) (by omega));have e:D5 x l=AB l x.Var+x.Add:=by rw [j,d2 (by omega)]
  rw [e,d2 (by simpa using o),d2 (by simp; omega),AI (by omega) (by omega),bs,Va (by omega) (by omega),bs]; rfl
theorem d9 (a b:Int):cmp_Compare_int a b=some (if a<b then -1 else if b<a then 1 else 0):=by
 unfold cmp_Compare_int cmp_isNaN_int;simp only [bs,decide_true,Bool.not_true,Bool.false_eq_true,if_false,zzX];split
 ·rfl
 ·split <;> rfl
theorem pX (a b:Int):JL a b=some (if a<b then -1 else if b<a then 1 else 0):=d9 a b
theorem iZ (a b:Int):Mr [a,b]=some (if a=0 then b else a):=by
 unfold Mr;show thenR (forGo _ 2 0 ()) _ _=_;rw [H6,show AM [a,b] 0=some a from rfl,bs];by_cases d:a=0
 ·rw [d2 (by simp [d]),d1 d];show thenR (forGo _ 1 (0+1) ()) _ _=_;rw [H6,show AM [a,b] (0+1)=some b from rfl,bs];by_cases e:b=0
  ·rw [d2 (by simp [e]),e]; rfl
  ·rw [d1 (by simp [e])]; rfl
 ·rw [d1 (by simp [d]),d2 d]; rfl
theorem p_holds {x:Test} (j:JH n x.Left) (o:JH n x.Right) (d:NQ l) (e:n<=l.length):GZ x l=some (IR x l):=by
 have r:=(Qv j d e).2;have s2:=(Qv o d e).2;unfold GZ IR;rw [Wo j d e,Wo o d e];simp only [bs,Bool.not_true,Bool.or_self,Bool.false_eq_true,if_false,d9,pX,iZ];generalize D5 x.Left l=a at r;generalize D5 x.Right l=b at s2;have key:(if (if (KZ a).1<(KZ b).1 then (-1:Int) else if (KZ b).1<(KZ a).1 then 1 else 0)=0 then (if (KZ a).2<(KZ b).2 then (-1:Int) else if (KZ b).2<(KZ a).2 then 1 else 0) else (if (KZ a).1<(KZ b).1 then (-1:Int) else if (KZ b).1<(KZ a).1 then 1 else 0))=if a<b then -1 else if b<a then 1 else 0:=by
  unfold KZ;by_cases u:a<0 <;> by_cases v:b<0 <;> simp only [u,v,if_true,if_false] <;> (repeat' split) <;> omega
 rw [key];congr 2
 ·congr 1;rw [decide_eq_decide]
  repeat' split
  all_goals omega
 ·congr 1;rw [decide_eq_decide]
  repeat' split
  all_goals omega
end Go.Sf.Sc
namespace Go.Sf.Sc
open Go Go.Sf
structure Pq (t:AC) (q:Pattern):Prop where
 g:Ki q.Graph
 kind:∀ n∈q.Graph.Nodes,0<=n∧n<t.Nodes.length
 vars:0<=q.Vars∧q.Vars<=12
 few:q.Slots.length<=10∧q.Tests.length<=10
 slot:∀ s∈q.Slots,(0<=s.Node∧s.Node<q.Graph.Nodes.length)∧(0<=s.Attr∧s.Attr<(BW t (AB q.Graph.Nodes s.Node)).length)∧JH q.Vars s.Term
 test:∀ x∈q.Tests,(x.Kind=1∨x.Kind=2)∧JH q.Vars x.Left∧JH q.Vars x.Right
 ge:DK q.Graph=0
 ty:GL t q.Graph=true
variable {n:Int} {x:Term}
theorem XO (h:ND n x=true):JH n x:=by
 unfold ND at h;simp only [zzZ,zzX] at h;exact ⟨h.1.1.1,h.1.1.2,h.1.2,h.2⟩
theorem dk {l:List Test} (h:JX n l=0):∀ x∈l,(x.Kind=1∨x.Kind=2)∧JH n x.Left∧JH n x.Right:=by
 unfold JX at h;split at h
 ·cases h
 split at h
 ·cases h
 have j:=Tn h;intro x e;obtain ⟨i,o,r,rfl⟩:=ED e;have:=j i o r;unfold MJ at this;split at this
 ·cases this
 split at this
 ·rename_i u d;rw [zzZ] at d;exact ⟨by omega,XO d.1,XO d.2⟩
 ·cases this
theorem Zs (n:Int) (l:List Test):JX n l≠9:=by
 unfold JX;split
 ·decide
 split
 ·decide
 intro h;cases d:fst (fun i=>nz (MJ n (AB l i))) 0 l.length with
 | none=>rw [d] at h; cases h
 | some r=>
  rw [d] at h;obtain ⟨i,_,_,k,_⟩:=C1 d;simp only [Option.getD_some] at h;subst h;unfold nz MJ at k;split at k
  ·cases k
  ·rename_i e;split at k
   ·cases k
   ·split at k <;> cases k
variable {t:AC} {q:Pattern}
theorem ZR (hv:(BE t).2=0) (h:J5 t q=0∨J5 t q=9):Pq t q:=by
 have z:=Tq q.Graph;unfold J5 at h;rw [d2 (by simp [hv])] at h;split at h
 ·omega
 rename_i o;have g:=GE (Classical.not_not.1 o);split at h
 ·omega
 rename_i e;split at h
 ·omega
 rename_i A;split at h
 ·omega
 rename_i B;split at h
 ·omega
 rename_i r;split at h
 ·rename_i u;have:=Zs q.Vars q.Tests;omega
 rename_i u;refine ⟨g,(Ni g (by simpa using e)).1,by omega,by omega,fun s y=>?_,dk (Classical.not_not.1 u),Classical.not_not.1 o,by simpa using e⟩;have j:QD t q s=false:=by
  rw [Bool.not_eq_true,List.any_eq_false] at r;simpa using r s y
 unfold QD at j;simp only [Bool.or_eq_false_iff,Bool.not_eq_false',decide_eq_false_iff_not] at j;obtain ⟨⟨⟨d,D⟩,E⟩,F,G⟩:=j;unfold PD at d;dsimp only at d;split at d
 ·cases d
 rename_i C;have w:=(Ni g (by simpa using e)).1 _ (AP (l:=q.Graph.Nodes) (show 0<=s.Node by omega) (by omega));rw [RK hv w.1 w.2] at d;split at d
 ·cases d
 rename_i v;have v:¬ (s.Attr<0∨((BW t (AB q.Graph.Nodes s.Node)).length:Int)<=s.Attr):=v;exact ⟨by omega,by omega,by omega,by omega,by omega,by omega⟩
def IF (h:AT) (m:Morphism) (s:EI):Int:=AB (AB h.Values (AB m.Nodes s.Node)) s.Attr
def Jr (h:AT) (m:Morphism) (s:EI) (st:Ne × d0):Ne × d0:=
 if 0<=s.Term.Var∧AB st.2 s.Term.Var=false then (B1 st.1 s.Term.Var (A4 (IF h m s - s.Term.Add)),B1 st.2 s.Term.Var true) else st
def EX {ρ:Type} (r:ρ) (h:AT) (m:Morphism) (s:EI) (st:Ne × d0):CZ (Ne × d0) ρ:=
 if D5 s.Term (Jr h m s st).1=IF h m s then .next (Jr h m s st) else .ret r
structure VI (n:Int) (st:Ne × d0):Prop where
 l1:(st.1.length:Int)=n
 l2:(st.2.length:Int)=n
 small:NQ st.1
structure Iw (n:Int) (h:AT) (m:Morphism) (s:EI):Prop where
 node:0<=s.Node∧s.Node<m.Nodes.length
 val:0<=AB m.Nodes s.Node∧AB m.Nodes s.Node<h.Values.length
 attr:0<=s.Attr∧s.Attr<(AB h.Values (AB m.Nodes s.Node)).length
 term:JH n s.Term
 has:-1000000<=IF h m s∧IF h m s<=1000000
variable {h:AT} {m:Morphism} {s:EI}
theorem Nh (o:IP t) (r:Pq t q) (e:GF t h) (j:Vt t q.Graph h.Graph m) (u:s∈q.Slots):Iw q.Vars h m s:=by
 obtain ⟨w,y,z⟩:=r.slot s u;have A:=j.nlen;have d:=j.node s.Node w.1 (by omega);have B:=e.row _ d.1.1 d.1.2;have v:=e.kind _ d.1.1 d.1.2;have C:=aK o v.2 d.2;have hv:=e.len;refine ⟨by omega,by omega,by omega,z,?_⟩;unfold IF;exact e.low _ d.1.1 d.1.2 _ (AP y.1 (by omega))
theorem O3 {α:Type} (l:List α) (i:Int) (a:α):(B1 l i a).length=l.length:=by unfold B1; rw [List.length_set]
variable {i:Int}
theorem XF {α:Type} {l:List α} {a x:α} (h:x∈B1 l i a):x∈l∨x=a:=List.mem_or_eq_of_mem_set h
variable {st:Ne × d0}
theorem bL (e:Iw n h m s) (hi:VI n st):VI n (Jr h m s st):=by
 have j:=e.has;have o:=e.term.add;unfold Jr;split
 ·refine ⟨by rw [O3]; exact hi.l1,by rw [O3]; exact hi.l2,fun x d=>?_⟩;rcases XF d with d | rfl
  ·exact hi.small x d
  ·rw [BI (by omega) (by omega)]; omega
 ·exact hi
def LP (q:Pattern) (h:AT) (m:Morphism):Ne × Int:=
 match EW (EX (([],11):Ne × Int) h m) q.Slots (List.replicate q.Vars.toNat 0,List.replicate q.Vars.toNat false) with
 | .inr r=>r
 | .inl st=>if anyR (fun i=>!IR (AB q.Tests i) st.1) 0 q.Tests.length=true then ([],16) else (st.1,0)
theorem P5 (e:0<=n):VI n (List.replicate n.toNat 0,List.replicate n.toNat false):=by
 refine ⟨by simp; omega,by simp; omega,fun x d=>?_⟩;rw [List.mem_replicate] at d;omega
variable {st':Ne × d0}
theorem Me {ρ:Type} {r:ρ} (d:Iw n h m s) (hi:VI n st) (e:EX r h m s st=.next st'):VI n st':=by
 unfold EX at e;split at e
 ·cases e; exact bL d hi
 ·cases e
theorem bM {ρ:Type} {r:ρ}:EX r h m s st≠.brk st':=by
 unfold EX;split <;> simp
theorem MQ {ρ:Type} {r:ρ} {l:List EI} (d:∀ s∈l,Iw n h m s) (hi:VI n st) (e:EW (EX r h m) l st=.inl st'):VI n st':=
 XD (EX r h m) (VI n) l st st' hi (fun a j _ _ o u=>Me (d a j) o u) (fun _ _ _ _=>bM) e
theorem Oa {ρ:Type} {r:ρ} (w:Iw n h m s) (hi:VI n st) {T:Ne × d0->Option (CZ (Ne × d0) ρ)}
  (o:∀ st':Ne × d0,(st'.1.length:Int)=n->T st'=some (if D5 s.Term st'.1=IF h m s then .next st' else .ret r)) :
  ((if (decide (0<=s.Term.Var))=true then ((AM st.2 s.Term.Var).bind fun u=>some (!u)) else some false).bind fun v=>
   if v=true then (AM st.1 s.Term.Var).bind fun _=>(AM st.2 s.Term.Var).bind fun _=>T (B1 st.1 s.Term.Var (A4 (IF h m s - s.Term.Add)),B1 st.2 s.Term.Var true) else T (st.1,st.2))=some (EX r h m s st):=by
 have y:=w.term.high;have l1:=hi.l1;have l2:=hi.l2;unfold EX;by_cases d:0<=s.Term.Var
 ·rw [d1 (by simpa using d),AI d (by omega),bs,bs];by_cases j:AB st.2 s.Term.Var=false
  ·rw [d1 (by simp [j]),AI d (by omega),bs,bs,o _ (by dsimp only; rw [O3]; exact l1)];have e:Jr h m s st=(B1 st.1 s.Term.Var (A4 (IF h m s - s.Term.Add)),B1 st.2 s.Term.Var true):=by unfold Jr; rw [d1 ⟨d,j⟩]
   rw [e]
  ·rw [d2 (by simpa using j),o _ l1];have e:Jr h m s st=st:=by unfold Jr; rw [d2 (fun e=>j e.2)]
   rw [e]
 ·rw [d2 (by simpa using d),bs,d2 (by decide),o _ l1];have e:Jr h m s st=st:=by unfold Jr; rw [d2 (fun e=>d e.1)]
  rw [e]
theorem Xy {ρ:Type} {r:ρ} (o:Iw n h m s) (hi:VI n st) {T:Ne × d0->Option (CZ (Ne × d0) ρ)}
  (u:∀ st':Ne × d0,(st'.1.length:Int)=n->T st'=some (if D5 s.Term st'.1=IF h m s then .next st' else .ret r)) :
  ((if (decide (0<=s.Term.Var))=true then ((AM st.2 s.Term.Var).bind fun d=>some (!d)) else some false).bind fun e=>
   if e=true then (AM st.2 s.Term.Var).bind fun _=>(AM st.1 s.Term.Var).bind fun _=>T (B1 st.1 s.Term.Var (A4 (IF h m s - s.Term.Add)),B1 st.2 s.Term.Var true) else T (st.1,st.2))=some (EX r h m s st):=by
 rw [←Oa o hi u];have v:=o.term.high;have l1:=hi.l1;have l2:=hi.l2;by_cases j:0<=s.Term.Var
 ·rw [AI j (by omega),AI j (by omega)]; rfl
 ·rw [d2 (by simpa using j)]; rfl
theorem VU {t:Term} {n v:Int} {f:Term->Ne->dD} (j:∀ l:Ne,(l.length:Int)=n->f t l=some (D5 t l)) (st':Ne × d0) (o:(st'.1.length:Int)=n):((f t st'.1).bind fun d=>if (!decide (d=v))=true then some (CZ.ret (([],11):Ne × Int)) else some (.next st'))=some (if D5 t st'.1=v then .next st' else .ret ([],11)):=by
 rw [j _ o,bs];by_cases e:D5 t st'.1=v
 ·rw [d2 (by simp [e]),d1 e]
 ·rw [d1 (by simp [e]),d2 e]
theorem fw (v:Pq t q) (w:∀ s∈q.Slots,Iw q.Vars h m s):JI q h m=some (LP q h m):=by
 have hv:=v.vars;unfold JI LP Jn;rw [d1 (by omega),bs,d1 (by omega),bs];rw [N3 (EX (([],11):Ne × Int) h m) (VI q.Vars) (P5 hv.1)]
 ·cases z:EW (EX (([],11):Ne × Int) h m) q.Slots (List.replicate q.Vars.toNat 0,List.replicate q.Vars.toNat false) with
  | inr r=>rfl
  | inl st=>
   have hi:=MQ w (P5 hv.1) z;rw [DX,CR (fun i=>!IR (AB q.Tests i) st.1) ([],16)]
   ·dsimp only;cases anyR (fun i=>!IR (AB q.Tests i) st.1) 0 q.Tests.length <;> rfl
   ·intro i j o _;have y:=v.test _ (AP j o);rw [AI j o,bs,p_holds y.2.1 y.2.2 hi.small (by have:=hi.l1; omega),bs];cases IR (AB q.Tests i) st.1 <;> rfl
 ·intro i st j o hi;have d:=w _ (AP j o);refine ⟨?_,fun s' e=>Me d hi e⟩;rw [AI j o,bs,AI d.node.1 d.node.2,bs,AI d.val.1 d.val.2,bs,AI d.attr.1 d.attr.2,bs];exact Oa d hi (T:=fun st'=>(F4 (AB q.Slots i).Term st'.1).bind fun u=>if (!decide (u=IF h m (AB q.Slots i)))=true then some (CZ.ret (([],11):Ne × Int)) else some (.next st')) (VU fun l A=>SC (by have:=d.term.high; omega))
theorem gI (v:Pq t q) (w:∀ s∈q.Slots,Iw q.Vars h m s):LK q h m=some (LP q h m):=by
 have hv:=v.vars;unfold LK LP Jn;rw [d1 (by omega),bs,d1 (by omega),bs];rw [N3 (EX (([],11):Ne × Int) h m) (VI q.Vars) (P5 hv.1)]
 ·cases z:EW (EX (([],11):Ne × Int) h m) q.Slots (List.replicate q.Vars.toNat 0,List.replicate q.Vars.toNat false) with
  | inr r=>rfl
  | inl st=>
   have hi:=MQ w (P5 hv.1) z;rw [DX,CR (fun i=>!IR (AB q.Tests i) st.1) ([],16)]
   ·dsimp only;cases anyR (fun i=>!IR (AB q.Tests i) st.1) 0 q.Tests.length <;> rfl
   ·intro i j o _;have y:=v.test _ (AP j o);rw [AI j o,bs,r_holds y.2.1 y.2.2 (by have:=hi.l1; omega),bs];cases IR (AB q.Tests i) st.1 <;> rfl
 ·intro i st j o hi;have d:=w _ (AP j o);refine ⟨?_,fun s' e=>Me d hi e⟩;rw [AI j o,bs,AI d.node.1 d.node.2,bs,AI d.val.1 d.val.2,bs,AI d.attr.1 d.attr.2,bs];exact Xy d hi (T:=fun st'=>(Jk (AB q.Slots i).Term st'.1).bind fun u=>if (!decide (u=IF h m (AB q.Slots i)))=true then some (CZ.ret (([],11):Ne × Int)) else some (.next st')) (VU fun l A=>VP (by have:=d.term.high; omega))
def M3 (t:AC) (p:Pattern) (h:AT):Int:=if J5 t p≠0 then J5 t p else (My t h).2
theorem aY (d:BY t) (p:Pattern) (h:AT):F3 t p h=some (M3 t p h):=by
 unfold F3 M3;rw [Vo d,bs];refine Ib fun _=>?_;rw [aZ d]; rfl
theorem al (d:BY t) (p:Pattern) (h:AT):L7 t p h=some (M3 t p h):=by
 unfold L7 M3;rw [ZT d,bs];refine Ib fun _=>?_;rw [am d]; rfl
def Ld (t:AC) (p:Pattern) (h:AT) (m:Morphism):Ne × Int:=
 if M3 t p h≠0 then ([],M3 t p h) else if Mq t p.Graph h.Graph m false≠0 then ([],Mq t p.Graph h.Graph m false) else LP p h m
theorem Sw (j:BY t) {p:Pattern} {inj:Bool} (d:M3 t p h=0) (o:Mq t p.Graph h.Graph m inj=0):(BE t).2=0∧Pq t p∧GF t h∧Vt t p.Graph h.Graph m:=by
 unfold M3 at d;split at d
 ·rename_i e; exact absurd d e
 rename_i e;obtain ⟨hv,r⟩:=YI j d;exact ⟨hv,ZR hv (.inl (Classical.not_not.1 e)),r,(aD o).2⟩
theorem fk (d:BY t) (p:Pattern) (h:AT) (m:Morphism):F2 t p h m=some (Ld t p h m):=by
 unfold F2 Ld;rw [aY d,bs];refine K8 fun j=>?_;rw [YT d,bs];refine K8 fun o=>?_;obtain ⟨hv,e,u,v⟩:=Sw d j o;rw [fw e (fun s r=>Nh (HC hv) e u v r)]; rfl
theorem gA (d:BY t) (p:Pattern) (h:AT) (m:Morphism):L6 t p h m=some (Ld t p h m):=by
 unfold L6 Ld;rw [al d,bs];refine K8 fun j=>?_;rw [YZ d,bs];refine K8 fun o=>?_;obtain ⟨hv,e,u,v⟩:=Sw d j o;rw [gI e (fun s r=>Nh (HC hv) e u v r)]; rfl
theorem bN (o:Pq t q) (u:∀ s∈q.Slots,Iw q.Vars h m s) (e:(LP q h m).2=0):((LP q h m).1.length:Int)=q.Vars∧NQ (LP q h m).1:=by
 unfold LP at e ⊢;cases j:EW (EX (([],11):Ne × Int) h m) q.Slots (List.replicate q.Vars.toNat 0,List.replicate q.Vars.toNat false) with
 | inr r=>
  rw [j] at e;have:∀ (l:List EI) (st:Ne × d0) (r:Ne × Int),EW (EX (([],11):Ne × Int) h m) l st=.inr r->r=([],11):=by
   intro l
   induction l with
   | nil=>intro st r h; cases h
   | cons a l w=>
    intro st r h;rw [EW] at h;split at h
    ·exact w _ _ h
    ·cases h
    ·rename_i y d;cases h;unfold EX at d;split at d
     ·cases d
     ·cases d; rfl
  rw [this _ _ _ j] at e;cases e
 | inl st=>
  rw [j] at e;have hi:=MQ u (P5 o.vars.1) j;dsimp only at e ⊢;split at e
  ·cases e
  ·rename_i v;rw [d2 v];exact ⟨hi.l1,hi.small⟩
end Go.Sf.Sc
namespace Go.Sf.Sc
open Go Go.Sf
variable {i:Int}
theorem SK {n:Nat} {α:Type} [Inhabited α] (F:Int->α) (r:0<=i) (v:α):B1 ((BJ n).map F) i v=(BJ n).map fun j=>if j=i then v else F j:=by
 unfold B1;refine List.ext_getElem (by simp) (fun k u d=>?_);have o:k<n:=by simpa [DN] using d
 rw [List.getElem_set];have e:(BJ n)[k]'(by rw [DN]; exact o)=(k:Int):=by simp [BJ]
 simp only [List.getElem_map,e];by_cases h:i.toNat=k
 ·rw [d1 h,d1 (by omega)]
 ·rw [d2 h,d2 (by omega)]
theorem NJ {n:Nat} {α:Type} {F G:Int->α} (h:∀ j,0<=j->j<(n:Int)->F j=G j):(BJ n).map F=(BJ n).map G:=List.map_congr_left fun j d=>h j (Hu.1 d).1 (Hu.1 d).2
def G7 (n:Nat) (k:Int):d0:=(BJ n).map fun j=>decide (j<k)
theorem QX (n:Nat):G7 n 0=List.replicate n false:=by
 unfold G7;refine List.ext_getElem (by simp [DN]) (fun k o d=>?_);have j:k<n:=by simpa using d
 have e:(BJ n)[k]'(by rw [DN]; exact j)=(k:Int):=by simp [BJ]
 simp only [List.getElem_map,e,List.getElem_replicate,decide_eq_false_iff_not];omega
theorem R7 (n:Nat) (k:Int):(G7 n k).length=n:=by unfold G7; rw [d7,DN]
def KX (q:Pattern) (h:AT) (m:Morphism) (given:Ne):Ne × Bool:=
 match EW (EX (([],false):Ne × Bool) h m) q.Slots (given++List.replicate (q.Vars - given.length).toNat 0,G7 q.Vars.toNat given.length) with
 | .inr r=>r
 | .inl st=>if anyR (fun i=>!IR (AB q.Tests i) st.1) 0 q.Tests.length=true then ([],false) else (st.1,true)
variable {n:Int} {given:Ne}
theorem Qz (e:0<=n) (j:given.length<=n) (hv:NQ given):VI n (given++List.replicate (n - given.length).toNat 0,G7 n.toNat given.length):=by
 refine ⟨by simp; omega,by show ((G7 n.toNat given.length).length:Int)=n; rw [R7]; omega,fun x d=>?_⟩;rcases List.mem_append.1 d with d | d
 ·exact hv x d
 ·rw [List.mem_replicate] at d;omega
variable {q:Pattern} {m:Morphism} {t:AC}
theorem jP {s:A8} (y:Pq t q) (z:∀ x∈q.Slots,Iw q.Vars s.h m x) (C:given.length<=q.Vars) (hv:NQ given):FI s q m given=some (KX q s.h m given):=by
 have E:=y.vars;unfold FI KX slices_Clone_int;rw [E5 (by unfold BM; omega),bs,BI (by omega) (by omega)];have F:Sx given (q.Vars - given.length) 0=some (given++List.replicate (q.Vars - given.length).toNat 0):=by
  unfold Sx;rw [d1 ⟨by omega,by unfold BM; omega⟩]
 have G:Jn q.Vars false=some (List.replicate q.Vars.toNat false):=by
  unfold Jn;rw [d1 (by omega)]
 rw [F,bs,G,bs];have H:forA (fun (d:Int) (A:d0)=>(AM A d).bind fun D=>some (B1 A d true)) 0 (given.length:Int) (List.replicate q.Vars.toNat false)=some (G7 q.Vars.toNat given.length):=by
  refine EF (fun i=>G7 q.Vars.toNat i) (by omega) (QX _) (fun i d u=>?_);rw [AI d (by rw [R7]; omega),bs];congr 1;unfold G7;rw [SK _ d];refine NJ (fun j J K=>?_);by_cases e:j=i
  ·rw [d1 e,e]; simp; omega
  ·rw [d2 e,decide_eq_decide]; omega
 rw [H,bs];have w:=Qz E.1 C hv;rw [N3 (EX (([],false):Ne × Bool) s.h m) (VI q.Vars) w]
 ·cases I:EW (EX (([],false):Ne × Bool) s.h m) q.Slots (given++List.replicate (q.Vars - given.length).toNat 0,G7 q.Vars.toNat given.length) with
  | inr r=>rfl
  | inl st=>
   have hi:=MQ z w I;rw [DX,CR (fun i=>!IR (AB q.Tests i) st.1) ([],false)]
   ·dsimp only;cases anyR (fun i=>!IR (AB q.Tests i) st.1) 0 q.Tests.length <;> rfl
   ·intro i d u _;have B:=y.test _ (AP d u);rw [AI d u,bs,p_holds B.2.1 B.2.2 hi.small (by have:=hi.l1; omega),bs];cases IR (AB q.Tests i) st.1 <;> rfl
 ·intro i st d u hi;have o:=z _ (AP d u);refine ⟨?_,fun s' e=>Me o hi e⟩;rw [AI d u,bs,AI o.node.1 o.node.2,bs,AI o.val.1 o.val.2,bs,AI o.attr.1 o.attr.2,bs];refine Oa o hi (T:=fun st'=>(H0 (AB q.Slots i).Term st'.1).bind fun v=>if ((!decide (v.2=0))||(!decide (v.1=IF s.h m (AB q.Slots i))))=true then some (CZ.ret (([],false):Ne × Bool)) else some (.next st')) (fun st' L=>?_);rw [cl o.term.low (by have:=o.term.high; omega) (by omega),bs];by_cases e:D5 (AB q.Slots i).Term st'.1=IF s.h m (AB q.Slots i)
  ·rw [d2 (by simp [e]),d1 e]
  ·rw [d1 (by simp [e]),d2 e]
variable {h:AT}
theorem jZ (C:Pq t q) (D:∀ x∈q.Slots,Iw q.Vars h m x) (I:given.length<=q.Vars) (hv:NQ given):LN q h m given=some (KX q h m given):=by
 have G:=C.vars;unfold LN KX;have L:Jn q.Vars false=some (List.replicate q.Vars.toNat false):=by
  unfold Jn;rw [d1 (by omega)]
 rw [E5 (by unfold BM; omega),bs,L,bs];have H:forA (fun (d:Int) (v:Ne × d0)=>
   (AM v.2 d).bind fun J=>
   if (decide ((given.length:Int)<=d))=true then
   (B0 v.1 [0]).bind fun A=>
   some (A,B1 v.2 d (decide (d<(given.length:Int))))
   else
   some (v.1,B1 v.2 d (decide (d<(given.length:Int))))) 0 q.Vars (given,List.replicate q.Vars.toNat false)=some (given++List.replicate (q.Vars - given.length).toNat 0,(BJ q.Vars.toNat).map fun j=>decide (j<q.Vars)&&decide (j<(given.length:Int))):=by
  refine EF (fun i=>(given++List.replicate (i - given.length).toNat 0,(BJ q.Vars.toNat).map fun j=>decide (j<i)&&decide (j<(given.length:Int)))) G.1 ?_ (fun i d u=>?_)
  ·have M:((0:Int) - given.length).toNat=0:=by omega
   rw [M];simp only [List.replicate_zero,List.append_nil,Prod.mk.injEq,true_and];rw [←QX];unfold G7;refine NJ (fun j E F=>?_);rw [show decide (j<0)=false by simp; omega]; rfl
  ·dsimp only;rw [AI d (by rw [d7,DN]; omega),bs];have N:B1 ((BJ q.Vars.toNat).map fun j=>decide (j<i)&&decide (j<(given.length:Int))) i (decide (i<(given.length:Int)))=(BJ q.Vars.toNat).map fun j=>decide (j<i+1)&&decide (j<(given.length:Int)):=by
    rw [SK _ d];refine NJ (fun j E F=>?_);by_cases e:j=i
    ·rw [d1 e,e,show decide (i<i+1)=true by simp; omega,Bool.true_and]
    ·rw [d2 e]; congr 1; rw [decide_eq_decide]; omega
   rw [N];by_cases hi:(given.length:Int)<=i
   ·rw [d1 (by simpa using hi),B7 (by simp; unfold BM; omega),bs];congr 2;rw [ea,show (i+1 - given.length).toNat=(i - given.length).toNat+1 by omega,List.replicate_succ']
   ·rw [d2 (by simpa using hi)];have O:(i+1 - given.length).toNat=(i - given.length).toNat:=by omega
    rw [O]
 have B:((BJ q.Vars.toNat).map fun j=>decide (j<q.Vars)&&decide (j<(given.length:Int)))=G7 q.Vars.toNat given.length:=by
  unfold G7;refine NJ (fun j E F=>?_);rw [show decide (j<q.Vars)=true by simp; omega,Bool.true_and]
 rw [B] at H;rw [H,bs];have y:=Qz G.1 I hv;dsimp only;rw [N3 (EX (([],false):Ne × Bool) h m) (VI q.Vars) y]
 ·cases P:EW (EX (([],false):Ne × Bool) h m) q.Slots (given++List.replicate (q.Vars - given.length).toNat 0,G7 q.Vars.toNat given.length) with
  | inr r=>rfl
  | inl st=>
   have hi:=MQ D y P;rw [DX,CR (fun i=>!IR (AB q.Tests i) st.1) ([],false)]
   ·dsimp only;cases anyR (fun i=>!IR (AB q.Tests i) st.1) 0 q.Tests.length <;> rfl
   ·intro i d u _;have z:=C.test _ (AP d u);have K:=hi.l1;rw [AI d u,bs,TF z.2.1.low (by have:=z.2.1.high; omega),bs,TF z.2.2.low (by have:=z.2.2.high; omega),bs,←J3];unfold IR;dsimp only;congr 1;generalize D5 (AB q.Tests i).Left st.1=a;generalize D5 (AB q.Tests i).Right st.1=b;rcases z.1 with e | e
    ·rw [e,eq_iff_iff]; simp
    ·rw [e,eq_iff_iff]; simp
 ·intro i st d u hi;have o:=D _ (AP d u);refine ⟨?_,fun s' e=>Me o hi e⟩;rw [AI d u,bs,AI o.node.1 o.node.2,bs,AI o.val.1 o.val.2,bs,AI o.attr.1 o.attr.2,bs];refine Oa o hi (T:=fun st'=>(Ih (AB q.Slots i).Term st'.1).bind fun w=>if (!decide (w.1=IF h m (AB q.Slots i)))=true then some (CZ.ret (([],false):Ne × Bool)) else some (.next st')) (fun st' K=>?_);rw [TF o.term.low (by have:=o.term.high; omega),bs];by_cases e:D5 (AB q.Slots i).Term st'.1=IF h m (AB q.Slots i)
  ·rw [d2 (by simp [e]),d1 e]
  ·rw [d1 (by simp [e]),d2 e]
theorem dn (u:Pq t q) (v:∀ s∈q.Slots,Iw q.Vars h m s) (w:given.length<=q.Vars) (hv:NQ given) (e:(KX q h m given).2=true):((KX q h m given).1.length:Int)=q.Vars∧NQ (KX q h m given).1:=by
 unfold KX at e ⊢;have o:=Qz u.vars.1 w hv;cases j:EW (EX (([],false):Ne × Bool) h m) q.Slots (given++List.replicate (q.Vars - given.length).toNat 0,G7 q.Vars.toNat given.length) with
 | inr r=>
  rw [j] at e;have:∀ (l:List EI) (st:Ne × d0) (r:Ne × Bool),EW (EX (([],false):Ne × Bool) h m) l st=.inr r->r=([],false):=by
   intro l
   induction l with
   | nil=>intro st r h; cases h
   | cons a l z=>
    intro st r h;rw [EW] at h;split at h
    ·exact z _ _ h
    ·cases h
    ·rename_i A d;cases h;unfold EX at d;split at d
     ·cases d
     ·cases d; rfl
  rw [this _ _ _ j] at e;cases e
 | inl st=>
  rw [j] at e;have hi:=MQ v o j;dsimp only at e ⊢;split at e
  ·cases e
  ·rename_i y;rw [d2 y];exact ⟨hi.l1,hi.small⟩
def I1 (n:Nat) (by' images:Ne):Ne:=(BJ by'.length).foldl (fun l i=>B1 l (AB by' i) (AB images i)) (List.replicate n (-1))
theorem N2 (by' images:Ne):∀ (d:Ne) (l:Ne),(d.foldl (fun l i=>B1 l (AB by' i) (AB images i)) l).length=l.length
 | [],l=>rfl
 | k::d,l=>by rw [List.foldl_cons,N2 by' images d,O3]
theorem T8 (n:Nat) (by' images:Ne):(I1 n by' images).length=n:=by unfold I1; rw [N2]; simp
theorem Uz (by' images:Ne) {x:Int}:∀ (d:Ne) (l:Ne),x∈d.foldl (fun l i=>B1 l (AB by' i) (AB images i)) l->x∈l∨∃ k∈d,x=AB images k
 | [],l,h=>.inl h
 | k::d,l,h=>by
  rw [List.foldl_cons] at h;rcases Uz by' images d _ h with h | ⟨j,o,e⟩
  ·rcases XF h with h | h
   ·exact .inl h
   ·exact .inr ⟨k,by simp,h⟩
  ·exact .inr ⟨j,by simp [o],e⟩
theorem T9 {n:Nat} {by' images:Ne} {x:Int} (h:x∈I1 n by' images):x=-1∨∃ k:Int,(0<=k∧k<by'.length)∧x=AB images k:=by
 rcases Uz by' images _ _ h with h | ⟨k,d,e⟩
 ·rw [List.mem_replicate] at h; exact .inl h.2
 ·exact .inr ⟨k,Hu.1 d,e⟩
theorem UA {n:Nat} {by' images:Ne} (w:∀ x∈by',0<=x∧x<n) (y:by'.length<=images.length):forA (fun (e:Int) (o:Ne)=>
  (AM by' e).bind fun d=>
  (AM images e).bind fun j=>
  (AM o d).bind fun r=>
  some (B1 o d j)) 0 (by'.length:Int) (List.replicate n (-1))=some (I1 n by' images):=by
 have h:=EF (f:=fun (e:Int) (o:Ne)=>
  (AM by' e).bind fun d=>
  (AM images e).bind fun j=>
  (AM o d).bind fun r=>
  some (B1 o d j)) (fun i=>(BJ i.toNat).foldl (fun l i=>B1 l (AB by' i) (AB images i)) (List.replicate n (-1))) (a:=0) (b:=by'.length) (s:=List.replicate n (-1)) (by omega) rfl (fun i e u=>by
   have v:=w _ (AP e u);rw [AI e u,bs,AI e (by omega),bs,AI v.1 (by rw [N2]; simpa using v.2),bs,Jc e,List.foldl_append]; rfl)
 rw [h,Int.toNat_natCast]; rfl
theorem Wr {n:Nat} {by' images:Ne} (j:n<=1000) (d:∀ x∈by',0<=x∧x<n) (e:by'.length<=images.length):H1 n by' images=some (I1 n by' images):=by
 unfold H1 EL;rw [d1 ⟨rfl,by omega,by omega⟩,bs];show (forA _ 0 _ (List.replicate (n:Int).toNat (-1))).bind _=_;rw [Int.toNat_natCast,UA d e]; rfl
theorem Wx {n:Nat} {by' images:Ne} (j:n<=1000) (d:∀ x∈by',0<=x∧x<n) (e:by'.length<=images.length):KA n by' images=some (I1 n by' images):=by
 unfold KA;rw [EF (a:=0) (b:=n) (s:=[]) (fun i=>List.replicate i.toNat (-1)) (by omega) rfl,bs,Int.toNat_natCast,UA d e]
 ·rfl
 ·intro i o r;rw [B7 (by simp; unfold BM; omega),bs,show (i+1).toNat=i.toNat+1 by omega,List.replicate_succ']
end Go.Sf.Sc
namespace Go.Sf.Sc
open Go Go.Sf
structure dw (f:AN):Prop where
 nl:f.nodes.length<=f.p.Nodes.length
 node:∀ i:Int,0<=i->i<f.nodes.length->(0<=AB f.nodes i∧AB f.nodes i<f.g.Nodes.length)∧AB (AB f.is (AB f.p.Nodes i)) (AB f.g.Nodes (AB f.nodes i))=true
 edge:∀ i:Int,0<=i->i<f.edges.length->(0<=AB f.edges i∧AB f.edges i<f.g.Edges.length)∧AB f.g.Edges (AB f.edges i)=⟨(AB f.p.Edges i).Type',AB f.nodes (AB f.p.Edges i).From,AB f.nodes (AB f.p.Edges i).To⟩
 inj:f.injective=true->f.nodes.Nodup∧f.edges.Nodup
structure Ys (f:AN) (m:Morphism):Prop where
 nl:m.Nodes.length=f.p.Nodes.length
 el:m.Edges.length=f.p.Edges.length
 node:∀ i:Int,0<=i->i<m.Nodes.length->(0<=AB m.Nodes i∧AB m.Nodes i<f.g.Nodes.length)∧AB (AB f.is (AB f.p.Nodes i)) (AB f.g.Nodes (AB m.Nodes i))=true
 edge:∀ i:Int,0<=i->i<m.Edges.length->(0<=AB m.Edges i∧AB m.Edges i<f.g.Edges.length)∧AB f.g.Edges (AB m.Edges i)=⟨(AB f.p.Edges i).Type',AB m.Nodes (AB f.p.Edges i).From,AB m.Nodes (AB f.p.Edges i).To⟩
 inj:f.injective=true->m.Nodes.Nodup∧m.Edges.Nodup
variable {i:Int}
theorem UQ {α:Type} [Inhabited α] (l:List α) (x:α) (h:i=l.length):AB (l++[x]) i=x:=by
 subst h;rw [Uo,d2 (by omega)];simp
variable {l:Ne} {k:Int}
theorem T1 {b:Bool} (h:(!(b&&l.any fun x=>decide (k=x)))=true) (d:b=true) (j:l.Nodup):(l++[k]).Nodup:=by
 subst d;simp only [Bool.true_and,Bool.not_eq_true',List.any_eq_false,zzX] at h;rw [List.nodup_append];refine ⟨j,by simp,fun a o b d e=>?_⟩;rw [List.mem_singleton] at d;exact h a o (by rw [e,d])
theorem Uk:∀ (n:Nat) (f:AN),dw f->f.nodes.length=f.p.Nodes.length->f.edges.length+n=f.p.Edges.length->∀ m∈FB n f,Ys f m
 | 0,f,j,y,A,m,d=>by
  rw [FB,List.mem_singleton] at d;subst d;exact ⟨y,by simpa using A,j.node,j.edge,j.inj⟩
 | n+1,f,j,y,A,m,d=>by
  rw [FB,List.mem_flatMap] at d;obtain ⟨k,v,d⟩:=d;have v:=Hu.1 v;split at d
  ·rename_i o;unfold PU at o;rw [zzZ] at o;obtain ⟨r,w⟩:=o;rw [Qr,zzZ,zzX] at r;have:=Uk n { f with edges:=f.edges++[k] } ⟨j.nl,j.node,fun i z u=>by
    have u:i<((f.edges++[k]).length:Int):=u;simp only [d4,List.length_singleton] at u;show (0<=AB (f.edges++[k]) i∧AB (f.edges++[k]) i<f.g.Edges.length)∧AB f.g.Edges (AB (f.edges++[k]) i)=⟨(AB f.p.Edges i).Type',AB f.nodes (AB f.p.Edges i).From,AB f.nodes (AB f.p.Edges i).To⟩;by_cases e:i=f.edges.length
    ·rw [UQ _ _ e]; exact ⟨v,by rw [e]; exact r.2⟩
    ·rw [RJ _ _ z (by omega)]; exact j.edge i z (by omega),fun hi=>⟨(j.inj hi).1,T1 w hi (j.inj hi).2⟩⟩ y (by show (f.edges++[k]).length+n=f.p.Edges.length; rw [d4,List.length_singleton]; omega) m d
   exact ⟨this.nl,this.el,this.node,this.edge,this.inj⟩
  ·cases d
theorem Ul:∀ (n:Nat) (f:AN),dw f->f.edges=[]->f.nodes.length+n=f.p.Nodes.length->∀ m∈HO n f,Ys f m
 | 0,f,r,u,A,m,d=>by
  rw [HO] at d;exact Uk _ f r (by omega) (by rw [u]; simp) m d
 | n+1,f,r,u,A,m,d=>by
  rw [HO,List.mem_flatMap] at d;obtain ⟨k,w,d⟩:=d;have w:=Hu.1 w;split at d
  ·rename_i o;unfold PV at o;rw [zzZ,zzZ] at o;obtain ⟨⟨_,y⟩,z⟩:=o;have:=Ul n { f with nodes:=f.nodes++[k] } ⟨by show (f.nodes++[k]).length<=f.p.Nodes.length; rw [d4,List.length_singleton]; omega,fun i v j=>by
    have j:i<((f.nodes++[k]).length:Int):=j;simp only [d4,List.length_singleton] at j;show (0<=AB (f.nodes++[k]) i∧AB (f.nodes++[k]) i<f.g.Nodes.length)∧AB (AB f.is (AB f.p.Nodes i)) (AB f.g.Nodes (AB (f.nodes++[k]) i))=true;by_cases e:i=f.nodes.length
    ·rw [UQ _ _ e];exact ⟨w,by rw [e]; exact y⟩
    ·rw [RJ _ _ v (by omega)]; exact r.node i v (by omega),fun i v j=>by
    have j:i<(f.edges.length:Int):=j;rw [u] at j;have:i<(0:Nat):=j;omega,fun hi=>⟨T1 z hi (r.inj hi).1,(r.inj hi).2⟩⟩ u (by show (f.nodes++[k]).length+n=f.p.Nodes.length; rw [d4,List.length_singleton]; omega) m d
   exact ⟨this.nl,this.el,this.node,this.edge,this.inj⟩
  ·cases d
variable {t:AC} {p g:Graph} {pa m:Morphism}
theorem Y6 {inj:Bool} (e:m∈Lt t p g pa inj):Ys (FF t p g pa inj) m:=
 Ul _ (FF t p g pa inj) ⟨Nat.zero_le _,fun i j d=>by have d:i<(0:Nat):=d; omega,fun i j d=>by have d:i<(0:Nat):=d; omega,fun _=>⟨List.nodup_nil,List.nodup_nil⟩⟩ rfl (by show 0+p.Nodes.length=p.Nodes.length; omega) m (List.mem_of_mem_take e)
theorem cK {inj:Bool} (h:HU t p g=0) (y:m∈Lt t p g pa inj):Vt t p g m:=by
 obtain ⟨hv,B,C,tp,A⟩:=QT h;have:=Y6 y;refine ⟨this.nl,this.el,fun i d o=>?_,fun i d o=>(this.edge i d o).1⟩;obtain ⟨r,j⟩:=this.node i d o;refine ⟨r,?_⟩;have u:=this.nl;have v:=tp _ (AP (l:=p.Nodes) d (by show i<(p.Nodes.length:Int); have u:m.Nodes.length=p.Nodes.length:=u; omega));have w:=A _ (AP (l:=g.Nodes) r.1 r.2);have j:AB (AB (KE t) (AB p.Nodes i)) (AB g.Nodes (AB m.Nodes i))=true:=j;have e:AB (KE t) (AB p.Nodes i)=Kz t (AB p.Nodes i):=by unfold KE; exact Mg (Kz t) v.1 v.2
 rw [e] at j;have z:AB (Kz t (AB p.Nodes i)) (AB g.Nodes (AB m.Nodes i))=JC t (AB g.Nodes (AB m.Nodes i)) (AB p.Nodes i):=by unfold Kz; exact Mg (fun k=>JC t k (AB p.Nodes i)) w.1 w.2
 rwa [z] at j
theorem Tf {inj:Bool} (h:(Ov t p g pa inj).2=0):(Ov t p g pa inj).1.length<=5000∧∀ m∈(Ov t p g pa inj).1,Vt t p g m:=by
 unfold Ov at h ⊢;split at h
 ·rename_i d; exact absurd h d
 rename_i d;split at h
 ·cases h
 rename_i r;split at h
 ·rename_i e; exact absurd h e
 rename_i e;split at h
 ·rename_i j; exact absurd h j
 rename_i j;split at h
 ·cases h
 rename_i u;rw [d2 d,d2 r,d2 e,d2 j,d2 u];exact ⟨by dsimp only; omega,fun m o=>cK (Classical.not_not.1 d) o⟩
structure Mh (t:AC) (p:Pattern) (h:AT) (x:AF):Prop where
 q:Pq t p
 m:Vt t p.Graph h.Graph x.Morphism
 len:(x.Vars.length:Int)=p.Vars
 small:NQ x.Vars
structure Vs (t:AC) (p:Pattern) (c:AA):Prop where
 q:Pq t c.Pattern
 vars:p.Vars<=c.Pattern.Vars
 map:du p.Graph c.Pattern.Graph c.Map
 inj:Na c.Map=true
def BV (t:AC) (c:AA) (h:AT) (m:AF) (inj:Bool):List AF × Int:=
 let x:=Ov t c.Pattern.Graph h.Graph ⟨I1 c.Pattern.Graph.Nodes.length c.Map.Nodes m.Morphism.Nodes,I1 c.Pattern.Graph.Edges.length c.Map.Edges m.Morphism.Edges⟩ inj
 if x.2≠0 then ([],x.2) else ((x.1.filter fun y=>(KX c.Pattern h y m.Vars).2).map fun y=>⟨y,(KX c.Pattern h y m.Vars).1⟩,0)
instance:Inhabited Morphism:=⟨⟨[],[]⟩⟩
instance:Inhabited AF:=⟨⟨default,[]⟩⟩
instance:Inhabited A1:=⟨⟨0,default,[]⟩⟩
theorem Pk {x:List Morphism} {F:Morphism->Ne × Bool} {f:Int->List AF->Option (List AF)} (u:x.length<=5000)
  (j:∀ (i:Int) (s:List AF),0<=i->i<x.length->s.length<=5000->f i s=some (if (F (AB x i)).2=true then s++[⟨AB x i,(F (AB x i)).1⟩] else s)) :
  forA f 0 (x.length:Int) []=some ((x.filter fun y=>(F y).2).map fun y=>⟨y,(F y).1⟩):=by
 rw [EF (a:=0) (b:=x.length) (s:=[]) (fun i=>((x.take i.toNat).filter fun y=>(F y).2).map fun y=>(⟨y,(F y).1⟩:AF)) (by omega) rfl,Int.toNat_natCast,List.take_length];intro i d e;have o:(((x.take i.toNat).filter fun y=>(F y).2).map fun y=>(⟨y,(F y).1⟩:AF)).length<=5000:=by
  rw [d7];have:=List.length_filter_le (fun y=>(F y).2) (x.take i.toNat);have:=List.length_take_le i.toNat x;have:(x.take i.toNat).length<=x.length:=by rw [d5]; omega
  omega
 rw [j i _ d e o,Hs d e,List.filter_append,List.map_append];cases r:(F (AB x i)).2 <;> simp [r]
variable {c:AA}
theorem jI {s:A8} {p:Pattern} {m:AF} (r:BY s.t) (hv:(BE s.t).2=0) (u:GF s.t s.h) (o:Mh s.t p s.h m) (hi:Vs s.t p c):CT s c m=some (BV s.t c s.h m s.injective):=by
 have D:=hi.q.g.nodes;have ge:=hi.q.g.edges;have m1:=hi.map.nlen;have E:=hi.map.elen;have G:=o.m.nlen;have H:=o.m.elen;unfold CT BV;rw [Wr (by omega) (fun x j=>by obtain ⟨i,d,e,rfl⟩:=ED j; exact (hi.map.node i d e).1) (by omega),bs,
  Wr (by omega) (fun x j=>by obtain ⟨i,d,e,rfl⟩:=ED j; exact (hi.map.edge i d e).1) (by omega),bs,Wn r,bs]
 dsimp only;refine K8 fun v=>?_;obtain ⟨A,B⟩:=Tf v;rw [Pk (F:=fun y=>KX c.Pattern s.h y m.Vars) A]
 ·rfl
 ·intro i st d e C;have w:=B _ (AP d e);have z:(m.Vars.length:Int)<=c.Pattern.Vars:=by have:=o.len; have:=hi.vars; omega
  rw [AI d e,bs,jP hi.q (fun x j=>Nh (HC hv) hi.q u w j) z o.small,bs,←J3];split
  ·rw [B7 (by simp; unfold BM; omega)]; rfl
  ·rfl
variable {h:AT}
theorem ak {inj:Bool} {p:Pattern} {m:AF} (r:BY t) (hv:(BE t).2=0) (u:GF t h) (o:Mh t p h m) (hi:Vs t p c):H2 t c h m inj=some (BV t c h m inj):=by
 have D:=hi.q.g.nodes;have ge:=hi.q.g.edges;have m1:=hi.map.nlen;have E:=hi.map.elen;have G:=o.m.nlen;have H:=o.m.elen;unfold H2 BV;rw [Wx (by omega) (fun x j=>by obtain ⟨i,d,e,rfl⟩:=ED j; exact (hi.map.node i d e).1) (by omega),bs,
  Wx (by omega) (fun x j=>by obtain ⟨i,d,e,rfl⟩:=ED j; exact (hi.map.edge i d e).1) (by omega),bs,cr r,bs]
 dsimp only;refine K8 fun v=>?_;obtain ⟨A,B⟩:=Tf v;rw [Pk (F:=fun y=>KX c.Pattern h y m.Vars) A]
 ·rfl
 ·intro i st d e C;have w:=B _ (AP d e);have z:(m.Vars.length:Int)<=c.Pattern.Vars:=by have:=o.len; have:=hi.vars; omega
  rw [AI d e,bs,jZ hi.q (fun x j=>Nh (HC hv) hi.q u w j) z o.small,bs,←J3];split
  ·rw [bs,B7 (by simp; unfold BM; omega)]; rfl
  ·rfl
theorem NW {inj:Bool} {p:Pattern} {m:AF} (hv:(BE t).2=0) (v:GF t h) (r:Mh t p h m) (hi:Vs t p c) (e:(BV t c h m inj).2=0):(BV t c h m inj).1.length<=5000∧∀ x∈(BV t c h m inj).1,Mh t c.Pattern h x:=by
 unfold BV at e ⊢;dsimp only at e ⊢;split at e
 ·rename_i j; exact absurd e j
 rename_i j;rw [d2 j];obtain ⟨z,A⟩:=Tf (Classical.not_not.1 j);refine ⟨by dsimp only; rw [d7]; exact Nat.le_trans (List.length_filter_le _ _) z,fun x d=>?_⟩;dsimp only at d;rw [List.mem_map] at d;obtain ⟨y,o,rfl⟩:=d;rw [List.mem_filter] at o;have u:=A y o.1;have w:(m.Vars.length:Int)<=c.Pattern.Vars:=by have:=r.len; have:=hi.vars; omega
 have:=dn hi.q (fun x d=>Nh (HC hv) hi.q v u d) w r.small o.2;exact ⟨hi.q,u,this.1,this.2⟩
end Go.Sf.Sc
