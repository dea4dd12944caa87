/- Plain lemmas: what the functions of the program and of the reference compute. -/
import Derived.Test.YtlbmpkmkmkgniaaGreatDoorP25
set_option linter.all false
set_option maxRecDepth 100000
namespace Go.Sf.Sc
open Go Go.Sf
theorem PD {all:List Attr} {k:Int} (h:LR all k=0) (b:(AB all k).Names.length<=1000):-1000000<=(AB all k).Low∧(AB all k).High<=1000000:=by
 unfold LR at h;dsimp only at h;split at h
 ·cases h
 split at h
 ·cases h
 split at h
 ·split at h
  ·rename_i a; exact ⟨a.1,a.2.2⟩
  ·cases h
 split at h
 ·rename_i a; exact absurd h a
 split at h
 ·rename_i a; omega
 ·cases h
theorem WN {t:AD} {i:Int} (h:Ic t i=0):∀ k,((BS t i).length:Int) - (AB t.Nodes i).Attrs.length<=k->k<(BS t i).length->LR (BS t i) k=0:=by
 unfold Ic at h;dsimp only at h;split at h
 ·cases h
 split at h
 ·cases h
 split at h
 ·cases h
 split at h
 ·cases h
 exact SR h
theorem NW {t:AD} {n:Nat} {a:Int} (b:0<=a):CY t (n+1) a=CY t n (par t a)++(AB t.Nodes a).Attrs:=by
 rw [CY,d2 (by omega)]
theorem R8 {t:AD} (d:CC t) (h:Hx t) {Q:Attr->Prop} (PD:∀ {all:List Attr} {k:Int},LR all k=0->(AB all k).Names.length<=1000->Q (AB all k)):∀ (n:Nat) (a:Int),a<t.Nodes.length->a<n->∀ x∈CY t n a,Q x
 | 0,_,_,_=>by simp [CY]
 | n+1,a,c,r=>by
  by_cases f:a<0
  ·rw [Ip f]; simp
  ·have m:=h.par a (by omega) c;intro x b;rw [NW (by omega)] at b;rcases List.mem_append.1 b with b | b
   ·exact R8 d h PD n (par t a) (by omega) (by omega) x b
   ·obtain ⟨j,p,q,rfl⟩:=EB b;have e:BS t a=CY t a.toNat (par t a)++(AB t.Nodes a).Attrs:=by
     unfold BS;rw [show (a+1).toNat=a.toNat+1 by omega,NW (by omega)]
    have o:(BS t a).length=(CY t a.toNat (par t a)).length+(AB t.Nodes a).Attrs.length:=by rw [e,d4]
    have g:=WN (h.node a (by omega) c) ((CY t a.toNat (par t a)).length+j) (by omega) (by omega);have i:AB (BS t a) ((CY t a.toNat (par t a)).length+j)=AB (AB t.Nodes a).Attrs j:=by
     rw [e,TW,d2 (by omega)];unfold AB;congr 1;omega
    have l:=L4 d (Int.le_refl _) h.par c (AB (BS t a) ((CY t a.toNat (par t a)).length+j)) (AW (by omega) (by omega));have:=PD g (by have:=l.names; omega)
    rwa [i] at this
theorem XX {t:AD} (b:CC t) (h:Hx t) {a:Int} (d:0<=a) (c:a<t.Nodes.length):∀ x∈BS t a,-1000000<=x.Low∧x.High<=1000000:=R8 b h PD _ a c (by omega)
theorem UN {t:AD} {k:Int} (d:GN t k):∀ (n:Nat) (a b:Int),a<k->a<n->b∈NC t n a->0<=b∧b<=a∧(BS t b).length<=(CY t n a).length
 | 0,_,_,_,_=>by simp [NC]
 | n+1,a,b,e,h=>by
  intro c;rw [NC] at c;split at c
  ·cases c
  ·rename_i f;have g:=d a (by omega) e;rw [NW (by omega)];rcases List.mem_cons.1 c with rfl | c
   ·refine ⟨by omega,by omega,?_⟩;unfold BS;rw [Ln d (b+1).toNat (n+1) b e (by omega) (by omega),NW (by omega)];exact d3 _
   ·have:=UN d n (par t a) b (by omega) (by omega) c;refine ⟨this.1,by omega,?_⟩;rw [d4]; omega
theorem Yw {t:AD} (h:Hx t) {a b:Int} (f:a<t.Nodes.length) (c:JL t a b=true):(BS t b).length<=(BS t a).length:=by
 unfold JL at c;rw [List.any_eq_true] at c;obtain ⟨x,d,e⟩:=c;rw [zzX] at e;subst e;by_cases g:a<0
 ·have:(a+1).toNat=0:=by omega
  rw [this] at d; cases d
 ·exact (UN h.par (a+1).toNat a b f (by omega) d).2.2
theorem f0 {α:Type} {a b:Int} {Q:Prop} [Decidable Q] {v:α} {X:Option α} {Y:α} (d:a=b↔Q) (h:Q->X=some Y):(if (!decide (a=b))=true then some v else X)=some (if ¬ Q then v else Y):=by
 by_cases c:Q
 ·rw [d2 (by simp [d.2 c]),d2 (by simpa using c),h c]
 ·rw [d1 (by simp; exact fun e=>c (d.1 e)),d1 c]
def TJ (t:AD) (k:Int) (v:Ne) (j:Int):Bool:=decide (AB v j<(AB (BS t k) j).Low)||decide ((AB (BS t k) j).High<AB v j)
def JY (t:AD) (k:Int) (v:Ne):Int:=
 if (t.Nodes.length:Int)<=k then 6 else if (AB t.Nodes k).Abstract=true then 13 else if ¬ v.length=(BS t k).length then 20 else
 if anyR (TJ t k v) 0 (BS t k).length=true then 6 else 0
def Ix (t:AD) (g:Graph) (i:Int):Int:=
 if (t.Edges.length:Int)<=(AB g.Edges i).Type' then 6 else if Rm t g i=false then 13 else 0
def JO (t:AD) (h:A0):Int × Int:=
 if (BM t).2≠0 then (-1,(BM t).2) else if CR h.Graph≠0 then (-1,CR h.Graph) else if ¬ h.Values.length=h.Graph.Nodes.length then (-1,20) else
 match fst (fun i=>(nz (JY t (AB h.Graph.Nodes i) (AB h.Values i))).map fun e=>(i,e)) 0 h.Graph.Nodes.length with
 | some r=>r
 | none=>(fst (fun i=>(nz (Ix t h.Graph i)).map fun e=>(i,e)) 0 h.Graph.Edges.length).getD (-1,0)
theorem TX {t:AD} (hv:(BM t).2=0) {k:Int} (a:0<=k) (b:k<t.Nodes.length):Iq t k=(BS t k,0):=by
 unfold Iq;rw [d2 (by simp [hv]),d1 (Nf.2 ⟨a,b⟩)]
theorem du {x:Bool} {y:Bool}:(if x=true then some true else some y)=some (x||y):=by cases x <;> rfl
theorem eC {t:AD} (e:CC t) (hv:(BM t).2=0) {k:Int} (c:0<=k) (v:Ne):Ji t k v=some (JY t k v):=by
 unfold Ji JY;by_cases a:(t.Nodes.length:Int)<=k
 ·rw [d1 (by simpa using a),d1 a]
 rw [d2 (by simpa using a),d2 a,AL c (by omega),bs];refine rp fun _=>?_;rw [Wv e,TX hv c (by omega),bs];refine f0 (by simp only []; omega) fun f=>?_;rw [C4 (TJ t k v) 6]
 ·cases anyR (TJ t k v) 0 (BS t k).length <;> rfl
 ·intro j d b _;have b:j<(BS t k).length:=b;rw [AL d b,bs,AL d (by omega)];simp only [bs,du];unfold TJ;cases decide (AB v j<(AB (BS t k) j).Low) <;> cases decide ((AB (BS t k) j).High<AB v j) <;> rfl
theorem aj (e i:Int):(if (!decide (e=0))=true then some (C7.ret (σ:=Unit) (ρ:=Int × Int) (i,e)) else some (.next ()))=some (Oe ((nz e).map fun e=>(i,e))):=by
 unfold nz;by_cases h:e=0 <;> simp [h,Oe]
theorem Y9 {t:AD} (d:CC t) (h:A0):HO t h=some (JO t h):=by
 unfold HO JO;rw [RK d,bs];refine NK fun hv=>?_;rw [Nh,bs];refine NK fun f=>?_;have go:=FA f;refine f0 (by omega) fun m=>?_;rw [DI (fun i=>(nz (JY t (AB h.Graph.Nodes i) (AB h.Values i))).map fun e=>(i,e)),IG]
 ·cases g:fst (fun i=>(nz (JY t (AB h.Graph.Nodes i) (AB h.Values i))).map fun e=>(i,e)) 0 h.Graph.Nodes.length with
  | some r=>rfl
  | none=>
   have j:=CZ.1 g;dsimp only;rw [DI (fun i=>(nz (Ix t h.Graph i)).map fun e=>(i,e)),IG]
   ·cases fst (fun i=>(nz (Ix t h.Graph i)).map fun e=>(i,e)) 0 h.Graph.Edges.length <;> rfl
   ·intro i a b _;have k:=go.fit _ (AW (l:=h.Graph.Edges) a b);rw [AL a b,bs];unfold Ix Rm;by_cases c:(t.Edges.length:Int)<=(AB h.Graph.Edges i).Type'
    ·rw [d1 (by simpa using c),d1 c]; rfl
    ·rw [d2 (by simpa using c),d2 c,AL (by omega) (by omega),bs,AL (by omega) (by omega),bs,gW d,bs];cases SL t (AB h.Graph.Edges i).Type' (AB h.Graph.Nodes (AB h.Graph.Edges i).From) (AB h.Graph.Nodes (AB h.Graph.Edges i).To) <;> rfl
 ·intro i a b _;rw [AL a b,bs,AL a (by omega),bs,eC d hv (go.kind _ (AW a b)).1,bs];exact aj _ i
structure J2 (t:AD) (h:A0):Prop where
 g:KB h.Graph
 len:h.Values.length=h.Graph.Nodes.length
 kind:∀ i:Int,0<=i->i<h.Graph.Nodes.length->0<=AB h.Graph.Nodes i∧AB h.Graph.Nodes i<t.Nodes.length
 row:∀ i:Int,0<=i->i<h.Graph.Nodes.length->(AB h.Values i).length=(BS t (AB h.Graph.Nodes i)).length
 low:∀ i:Int,0<=i->i<h.Graph.Nodes.length->∀ x∈AB h.Values i,-1000000<=x∧x<=1000000
 ge:CR h.Graph=0
 ty:EU t h.Graph=true
theorem Wo {t:AD} (y:CC t) {h:A0} (e:(JO t h).2=0):(BM t).2=0∧J2 t h:=by
 unfold JO at e;split at e
 ·rename_i f; exact absurd e f
 split at e
 ·rename_i f; exact absurd e f
 split at e
 ·cases e
 rename_i f u z;have hv:=Classical.not_not.1 f;have go:=FA (Classical.not_not.1 u);have m:∀ i:Int,0<=i->i<h.Graph.Nodes.length->JY t (AB h.Graph.Nodes i) (AB h.Values i)=0:=by
  split at e
  ·rename_i r c;obtain ⟨i,_,_,k,_⟩:=DJ c;unfold nz at k;split at k
   ·cases k
   ·rename_i d; cases k; exact absurd e d
  ·rename_i c;exact fun i a b=>Lt.1 (Kf.1 (CZ.1 c i a b))
 have o:∀ i:Int,0<=i->i<h.Graph.Nodes.length->(0<=AB h.Graph.Nodes i∧AB h.Graph.Nodes i<t.Nodes.length)∧(AB h.Values i).length=(BS t (AB h.Graph.Nodes i)).length∧∀ j:Int,0<=j->j<(BS t (AB h.Graph.Nodes i)).length->TJ t (AB h.Graph.Nodes i) (AB h.Values i) j=false:=by
  intro i a b;have C:=(go.kind _ (AW a b)).1;have:=m i a b;unfold JY at this;split at this
  ·cases this
  split at this
  ·cases this
  split at this
  ·cases this
  split at this
  ·cases this
  rename_i F G A B;exact ⟨⟨C,by omega⟩,Classical.not_not.1 A,EK.1 (by simpa using B)⟩
 have D:∀ i:Int,0<=i->i<h.Graph.Edges.length->Ix t h.Graph i=0:=by
  have q:fst (fun i=>(nz (JY t (AB h.Graph.Nodes i) (AB h.Values i))).map fun e=>(i,e)) 0 h.Graph.Nodes.length=none:=CZ.2 fun i a b=>by rw [m i a b]; rfl
  rw [q] at e;dsimp only at e;cases c:fst (fun i=>(nz (Ix t h.Graph i)).map fun e=>(i,e)) 0 h.Graph.Edges.length with
  | some r=>
   rw [c] at e;obtain ⟨i,_,_,k,_⟩:=DJ c;unfold nz at k;split at k
   ·cases k
   ·rename_i d; cases k; exact absurd e d
  | none=>exact fun i a b=>Lt.1 (Kf.1 (CZ.1 c i a b))
 have s:EU t h.Graph=true:=by
  unfold EU;rw [zzZ,Bool.not_eq_true',Bool.not_eq_true',List.any_eq_false,List.any_eq_false];refine ⟨fun n m=>?_,fun x p=>?_⟩
  ·obtain ⟨i,a,b,rfl⟩:=EB m;have:=(o i a b).1.2;simp; omega
  ·obtain ⟨i,a,b,rfl⟩:=EB p;have:=D i a b;unfold Ix at this;split at this
   ·cases this
   ·simp; omega
 suffices g:∀ i:Int,0<=i->i<h.Graph.Nodes.length->∀ x∈AB h.Values i,-1000000<=x∧x<=1000000 from ⟨hv,go,Classical.not_not.1 z,fun i a b=>(o i a b).1,fun i a b=>(o i a b).2.1,g,Classical.not_not.1 u,s⟩
 intro i a b x p;obtain ⟨v,H,E⟩:=o i a b;obtain ⟨j,w,I,rfl⟩:=EB p;have:=E j w (by omega);unfold TJ at this;simp only [Bool.or_eq_false_iff,decide_eq_false_iff_not] at this;have:=XX y (Ik hv) v.1 v.2 _ (AW (l:=BS t (AB h.Graph.Nodes i)) w (by omega));omega
end Go.Sf.Sc
namespace Go.Sf.Sc
open Go Go.Sf
def Ir (t:AD) (p g:Graph) (m:Morphism) (i:Int):dD:=
 if AB m.Nodes i<0∨g.Nodes.length<=AB m.Nodes i then some 6 else if JL t (AB g.Nodes (AB m.Nodes i)) (AB p.Nodes i)=false then some 13 else none
def LY (t:AD) (p g:Graph) (m:Morphism):Int:=
 if m.Nodes.length≠p.Nodes.length∨m.Edges.length≠p.Edges.length then 20 else
 match fst (Ir t p g m) 0 m.Nodes.length with
 | some e=>e
 | none=>(fst (GK p g m) 0 m.Edges.length).getD 0
def KK (t:AD) (p g:Graph) (m:Morphism) (inj:Bool):Int:=
 if GI t p g≠0 then GI t p g else if LY t p g m≠0 then LY t p g m else if (inj&&!Lc m)=true then 5 else 0
structure Ui (t:AD) (p g:Graph) (m:Morphism):Prop where
 nlen:m.Nodes.length=p.Nodes.length
 elen:m.Edges.length=p.Edges.length
 node:∀ i:Int,0<=i->i<m.Nodes.length->(0<=AB m.Nodes i∧AB m.Nodes i<g.Nodes.length)∧JL t (AB g.Nodes (AB m.Nodes i)) (AB p.Nodes i)=true
 edge:∀ i:Int,0<=i->i<m.Edges.length->0<=AB m.Edges i∧AB m.Edges i<g.Edges.length
theorem Rr {t:AD} {p g:Graph} (h:GI t p g=0):(BM t).2=0∧KB p∧KB g∧(∀ n∈p.Nodes,0<=n∧n<t.Nodes.length)∧∀ n∈g.Nodes,0<=n∧n<t.Nodes.length:=by
 unfold GI at h;split at h
 ·rename_i a; exact absurd h a
 split at h
 ·rename_i a; exact absurd h a
 split at h
 ·rename_i a; exact absurd h a
 split at h
 ·rename_i a e f b;rw [zzZ] at b;have c:=FA (Classical.not_not.1 e);have d:=FA (Classical.not_not.1 f);exact ⟨Classical.not_not.1 a,c,d,(Mp c b.1).1,(Mp d b.2).1⟩
 ·cases h
theorem W9 {t:AD} {p g:Graph} {m:Morphism} (h:LY t p g m=0):Ui t p g m:=by
 unfold LY at h;split at h
 ·cases h
 rename_i f;have c:fst (Ir t p g m) 0 m.Nodes.length=none:=by
  split at h
  ·rename_i r d;obtain ⟨i,_,_,k,_⟩:=DJ d;subst h;unfold Ir at k;split at k
   ·cases k
   ·split at k <;> cases k
  ·assumption
 rw [c] at h;have e:=Tr (fun i=>by
  unfold GK;split
  ·simp
  ·split
   ·simp
   ·split <;> simp) h
 refine ⟨by omega,by omega,fun i a b=>?_,fun i a b=>?_⟩
 ·have:=CZ.1 c i a b;unfold Ir at this;split at this
  ·cases this
  ·split at this
   ·cases this
   ·rename_i x y;exact ⟨by omega,by simpa using y⟩
 ·have:=e i a b;unfold GK at this;split at this
  ·cases this
  ·omega
theorem ZE {t:AD} (o:CC t) {p g:Graph} (q:GI t p g=0) (m:Morphism):Hu t p g m=some (LY t p g m):=by
 obtain ⟨hv,s,x,tp,u⟩:=Rr q;unfold Hu LY;refine Ok (by simp; try omega) fun v=>?_;rw [cU o (Ik hv) hv,bs,DI (Ir t p g m),IG]
 ·cases w:fst (Ir t p g m) 0 m.Nodes.length with
  | some e=>rfl
  | none=>
   dsimp only;rw [DI (GK p g m),G7];intro i b n _;unfold GK;rw [AL b n,bs];by_cases a:AB m.Edges i<0∨g.Edges.length<=AB m.Edges i
   ·rw [d1 (by simpa using a),d1 a]; rfl
   ·have o:=s.fit _ (AW (l:=p.Edges) b (by omega));rw [d2 (by simpa using a),d2 a,AL b (by omega),bs,AL (by omega) (by omega),bs];by_cases c:(AB p.Edges i).Type'=(AB g.Edges (AB m.Edges i)).Type'
    ·rw [d2 (by simpa using c),d2 (by simpa using c),AL (by omega) (by omega),bs];by_cases d:AB m.Nodes (AB p.Edges i).From=(AB g.Edges (AB m.Edges i)).From
     ·rw [d2 (by simpa using d),AL (by omega) (by omega),bs,bs];by_cases f:AB m.Nodes (AB p.Edges i).To=(AB g.Edges (AB m.Edges i)).To
      ·rw [d2 (by simpa using f),d2 (by simp [d,f])]; rfl
      ·rw [d1 (by simpa using f),d1 (.inr f)]; rfl
     ·rw [d1 (by simpa using d),bs,d1 rfl,d1 (.inl d)]; rfl
    ·rw [d1 (by simpa using c),d1 c]; rfl
 ·intro i b n _;unfold Ir;rw [AL b n,bs];by_cases a:AB m.Nodes i<0∨g.Nodes.length<=AB m.Nodes i
  ·rw [d1 (by simpa using a),d1 a]; rfl
  ·have h:=tp _ (AW (l:=p.Nodes) b (by omega));have j:=u _ (AW (l:=g.Nodes) (show 0<=AB m.Nodes i by omega) (by omega));rw [d2 (by simpa using a),d2 a,AL b (by omega),bs,AL h.1 (by unfold Jh; rw [d7,CI]; exact h.2),bs,AL (by omega) (by omega),bs];have e:AB (Jh t) (AB p.Nodes i)=KM t (AB p.Nodes i):=by unfold Jh; exact Il (KM t) h.1 h.2
   rw [e,AL j.1 (by unfold KM; rw [d7,CI]; exact j.2),bs];have r:AB (KM t (AB p.Nodes i)) (AB g.Nodes (AB m.Nodes i))=JL t (AB g.Nodes (AB m.Nodes i)) (AB p.Nodes i):=by unfold KM; exact Il (fun k=>JL t k (AB p.Nodes i)) j.1 j.2
   rw [r];cases JL t (AB g.Nodes (AB m.Nodes i)) (AB p.Nodes i) <;> rfl
theorem Wz {l:Ne} (e:l.length<=1000):IZ l=some (!Me l):=by
 unfold IZ;rw [d1 (by omega)];congr 1;have b:=Rl l;have c:=Mf (l:=l);cases a:dupB l with
 | false=>rw [c.2 (b.1 a)]; rfl
 | true=>
  cases d:Me l with
  | false=>rfl
  | true=>rw [b.2 (c.1 d)] at a; cases a
theorem Wx {t:AD} (a:CC t) (p g:Graph) (m:Morphism) (inj:Bool):G2 t p g m inj=some (KK t p g m inj):=by
 unfold G2 KK;rw [W4 a,bs];refine JJ fun b=>?_;rw [ZE a b,bs];refine JJ fun e=>?_;obtain ⟨_,d,f,_⟩:=Rr b;have c:=W9 e;have:=d.nodes; have:=d.edges; have:=c.nlen; have:=c.elen;rw [Wz (by omega),Wz (by omega)];unfold Lc;cases inj <;> cases Me m.Nodes <;> cases Me m.Edges <;> rfl
theorem Uu {t:AD} {p g:Graph} {m:Morphism} {inj:Bool} (h:KK t p g m inj=0):GI t p g=0∧Ui t p g m:=by
 unfold KK at h;split at h
 ·rename_i a; exact absurd h a
 split at h
 ·rename_i a; exact absurd h a
 rename_i a b;exact ⟨Classical.not_not.1 a,W9 (Classical.not_not.1 b)⟩
end Go.Sf.Sc
namespace Go.Sf.Sc
open Go Go.Sf
section
variable {α σ ρ:Type}
def HI (step:α->σ->C7 σ ρ):List α->σ->σ ⊕ ρ
 | [],s=>.inl s
 | a::r,s=>match step a s with
  | .next s'=>HI step r s'
  | .brk s'=>.inl s'
  | .ret r=>.inr r
theorem Qt [Inhabited α] {l:List α} {f:Int->σ->Option (C7 σ ρ)} (step:α->σ->C7 σ ρ) (I:σ->Prop) (h:∀ (i:Int) s,0<=i->i<l.length->I s->f i s=some (step (AB l i) s)∧∀ s',step (AB l i) s=.next s'->I s') :
  ∀ (n:Nat) (a:Int) (s:σ),0<=a->a+n=l.length->I s->forGo f n a s=some (HI step (l.drop a.toNat) s)
 | 0,a,s,b,j,_=>by
  rw [List.drop_eq_nil_of_le (by omega)]; rfl
 | n+1,a,s,b,j,k=>by
  obtain ⟨e,g⟩:=h a s b (by omega) k;have c:l.drop a.toNat=AB l a::l.drop (a+1).toNat:=by
   rw [show (a+1).toNat=a.toNat+1 by omega,List.drop_eq_getElem_cons (by omega)];congr 1;unfold AB;rw [List.getD_eq_getElem?_getD,List.getElem?_eq_getElem (by omega)]; rfl
  rw [HN,e,c,HI];cases d:step (AB l a) s with
  | next s'=>
   simp only;exact Qt step I h n (a+1) s' (by omega) (by omega) (g s' d)
  | brk s'=>rfl
  | ret r=>rfl
theorem Tp [Inhabited α] {l:List α} {f:Int->σ->Option (C7 σ ρ)} (step:α->σ->C7 σ ρ) (I:σ->Prop) {s:σ} (a:I s) (h:∀ (i:Int) s,0<=i->i<l.length->I s->f i s=some (step (AB l i) s)∧∀ s',step (AB l i) s=.next s'->I s') :
  forR f 0 l.length s=some (HI step l s):=by
 have:=Qt step I h l.length 0 s (by omega) (by omega) a;unfold forR;rw [show ((l.length:Int) - 0).toNat=l.length by omega];exact this
theorem Vp [Inhabited α] (step:α->σ->C7 σ ρ) (I:σ->Prop):∀ (l:List α) (s s':σ),I s->(∀ a∈l,∀ s s',I s->step a s=.next s'->I s')->(∀ a∈l,∀ s s',step a s≠.brk s')->HI step l s=.inl s'->I s'
 | [],s,s',h,_,_,e=>by cases e; exact h
 | a::r,s,s',h,f,g,e=>by
  rw [HI] at e;split at e
  ·rename_i c d;exact Vp step I r c s' (f a (by simp) s c h d) (fun a b=>f a (by simp [b])) (fun a b=>g a (by simp [b])) e
  ·rename_i c d; exact absurd d (g a (by simp) _ _)
  ·cases e
end
def G6 (x:Term) (l:Ne):Int:=if x.Var<0 then x.Add else A6 (AB l x.Var+x.Add)
theorem T6 {x:Term} {l:Ne} (h:x.Var<l.length):FP x l=some (G6 x l):=by
 unfold FP G6;by_cases a:x.Var<0
 ·rw [d1 (by simpa using a),d1 a]
 ·rw [d2 (by simpa using a),d2 a,AL (by omega) h]; rfl
theorem am {x:Term} {l:Ne} (a:-1<=x.Var) (h:x.Var<l.length) (b:l.length<=1000):HF x l=some (G6 x l,0):=by
 unfold HF DU;rw [BD (by omega) (by omega),bs,d2 (by simp; omega),T6 h]; rfl
def Mr (x:Test) (l:Ne):Bool:=(decide (x.Kind=1)&&decide (G6 x.Left l<=G6 x.Right l))||(decide (x.Kind=2)&&decide (G6 x.Left l=G6 x.Right l))
structure KU (n:Int) (x:Term):Prop where
 low:-1<=x.Var
 high:x.Var<n
 add:-1000000<=x.Add∧x.Add<=1000000
def Nq (l:Ne):Prop:=∀ x∈l,-2000000<=x∧x<=2000000
theorem Pw {n:Int} {x:Term} (h:KU n x) {l:Ne} (b:Nq l) (c:n<=l.length):G6 x l=(if x.Var<0 then x.Add else AB l x.Var+x.Add)∧-3000000<=G6 x l∧G6 x l<=3000000:=by
 unfold G6;have:=h.add;by_cases a:x.Var<0
 ·rw [d1 a,d1 a]; omega
 ·have d:=h.high;have:=b _ (AW (l:=l) (show 0<=x.Var by omega) (by omega));rw [d2 a,d2 a,BD (by omega) (by omega)]; omega
theorem UP {a b:Int} (k:-4000000<=a∧a<=4000000) (l:-4000000<=b∧b<=4000000):Hy a b=some (if a+b<0 then (-1,a+b+18446744073709551616) else (0,a+b)):=by
 have i:∀ c:Int,IntKind.u64.wrap c=c % 18446744073709551616:=fun c=>by
  simp [IntKind.wrap,IntKind.signed,IntKind.bits]
 have j:∀ c:Int,-4000000<=c∧c<=4000000->LC .i64 .shr c 63=some (if c<0 then -1 else 0):=by
  intro c o;unfold LC;have e:c.fdiv (2 ^ (min (63:Int).toNat (IntKind.bits .i64)))=if c<0 then -1 else 0:=by
   show c.fdiv (2 ^ 63)=_;rw [Int.fdiv_eq_ediv_of_nonneg _ (by decide)];split <;> omega
  simp only [e];have:(0:Int)<=63∧IntKind.min .i64<=(if c<0 then -1 else 0)∧(if c<0 then -1 else 0)<=IntKind.max .i64:=by
   split <;> decide
  rw [d1 this]
 unfold Hy Iz;rw [i,i,d1 (by omega),bs,j a k,j b l,bs,bs];congr 1;have d:∀ c:Int,-10<=c->c<=10->A6 c=c:=fun c f g=>BD (by omega) (by omega);have m:(a % 18446744073709551616+b % 18446744073709551616+0) / 18446744073709551616=if a<0∧b<0 then 1 else if (a<0∨b<0)∧0<=a+b then 1 else 0:=by
  split
  ·omega
  ·split <;> omega
 have n:(a % 18446744073709551616+b % 18446744073709551616+0) % 18446744073709551616=if a+b<0 then a+b+18446744073709551616 else a+b:=by
  split <;> omega
 rw [m,n];by_cases f:a<0 <;> by_cases g:b<0
 ·simp only [f,g,and_self,if_true];rw [d _ (by decide) (by decide),d _ (by decide) (by decide),d1 (by omega),d1 (by omega)]; rfl
 ·by_cases h:a+b<0
  ·simp only [f,g,and_false,if_true,if_false,true_or,true_and,h,show ¬ 0<=a+b by omega];rw [d _ (by decide) (by decide),d _ (by decide) (by decide)]; rfl
  ·simp only [f,g,and_false,if_true,if_false,true_or,true_and,h,show 0<=a+b by omega];rw [d _ (by decide) (by decide),d _ (by decide) (by decide)]; rfl
 ·by_cases h:a+b<0
  ·simp only [f,g,false_and,if_true,if_false,or_true,true_and,h,show ¬ 0<=a+b by omega];rw [d _ (by decide) (by decide),d _ (by decide) (by decide)]; rfl
  ·simp only [f,g,false_and,if_true,if_false,or_true,true_and,h,show 0<=a+b by omega];rw [d _ (by decide) (by decide),d _ (by decide) (by decide)]; rfl
 ·have h:¬ a+b<0:=by omega
  simp only [f,g,false_and,and_self,if_false,or_self,h];rw [d _ (by decide) (by decide),d _ (by decide) (by decide)]; rfl
def J1 (a:Int):Int × Int:=if a<0 then (-1,a+18446744073709551616) else (0,a)
theorem VW {n:Int} {x:Term} (h:KU n x) {l:Ne} (a:Nq l) (d:n<=l.length):GG x l=some ((J1 (G6 x l)).1,(J1 (G6 x l)).2,true):=by
 have f:=h.low;have g:=h.high;have i:=h.add;have b:=(Pw h a d).1;unfold GG;by_cases c:x.Var=-1
 ·have e:G6 x l=x.Add:=by rw [b,d1 (by omega)]
  rw [e,d1 (by simpa using c),UP (by omega) (by omega),bs,Int.zero_add]; rfl
 ·have:=a _ (AW (l:=l) (show 0<=x.Var by omega) (by omega));have e:G6 x l=AB l x.Var+x.Add:=by rw [b,d2 (by omega)]
  rw [e,d2 (by simpa using c),d2 (by simp; omega),AL (by omega) (by omega),bs,UP (by omega) (by omega),bs]; rfl
theorem cM (a b:Int):cmp_Compare_int a b=some (if a<b then -1 else if b<a then 1 else 0):=by
 unfold cmp_Compare_int cmp_isNaN_int;simp only [bs,decide_true,Bool.not_true,Bool.false_eq_true,if_false,zzX];split
 ·rfl
 ·split <;> rfl
theorem nX (a b:Int):Is a b=some (if a<b then -1 else if b<a then 1 else 0):=cM a b
theorem gA (a b:Int):L7 [a,b]=some (if a=0 then b else a):=by
 unfold L7;show thenR (forGo _ 2 0 ()) _ _=_;rw [HN,show AK [a,b] 0=some a from rfl,bs];by_cases c:a=0
 ·rw [d2 (by simp [c]),d1 c];show thenR (forGo _ 1 (0+1) ()) _ _=_;rw [HN,show AK [a,b] (0+1)=some b from rfl,bs];by_cases d:b=0
  ·rw [d2 (by simp [d]),d]; rfl
  ·rw [d1 (by simp [d])]; rfl
 ·rw [d1 (by simp [c]),d2 c]; rfl
theorem p_holds {n:Int} {x:Test} (e:KU n x.Left) (f:KU n x.Right) {l:Ne} (c:Nq l) (d:n<=l.length):GA x l=some (Mr x l):=by
 have g:=(Pw e c d).2;have h:=(Pw f c d).2;unfold GA Mr;rw [VW e c d,VW f c d];simp only [bs,Bool.not_true,Bool.or_self,Bool.false_eq_true,if_false,cM,nX,gA];generalize G6 x.Left l=a at g;generalize G6 x.Right l=b at h;have key:(if (if (J1 a).1<(J1 b).1 then (-1:Int) else if (J1 b).1<(J1 a).1 then 1 else 0)=0 then (if (J1 a).2<(J1 b).2 then (-1:Int) else if (J1 b).2<(J1 a).2 then 1 else 0) else (if (J1 a).1<(J1 b).1 then (-1:Int) else if (J1 b).1<(J1 a).1 then 1 else 0))=if a<b then -1 else if b<a then 1 else 0:=by
  unfold J1;by_cases i:a<0 <;> by_cases j:b<0 <;> simp only [i,j,if_true,if_false] <;> (repeat' split) <;> omega
 rw [key];congr 2
 ·congr 1;rw [decide_eq_decide]
  repeat' split
  all_goals omega
 ·congr 1;rw [decide_eq_decide]
  repeat' split
  all_goals omega
end Go.Sf.Sc
namespace Go.Sf.Sc
open Go Go.Sf
structure RQ (t:AD) (q:Pattern):Prop where
 g:KB q.Graph
 kind:∀ n∈q.Graph.Nodes,0<=n∧n<t.Nodes.length
 vars:0<=q.Vars∧q.Vars<=12
 few:q.Slots.length<=10∧q.Tests.length<=10
 slot:∀ s∈q.Slots,(0<=s.Node∧s.Node<q.Graph.Nodes.length)∧(0<=s.Attr∧s.Attr<(BS t (AB q.Graph.Nodes s.Node)).length)∧KU q.Vars s.Term
 test:∀ x∈q.Tests,(x.Kind=1∨x.Kind=2)∧KU q.Vars x.Left∧KU q.Vars x.Right
 ge:CR q.Graph=0
 ty:EU t q.Graph=true
theorem Vy {n:Int} {x:Term} (h:MQ n x=true):KU n x:=by
 unfold MQ at h;simp only [zzZ,zzX] at h;exact ⟨h.1.1.1,h.1.1.2,h.1.2,h.2⟩
theorem b7 {n:Int} {l:List Test} (h:I5 n l=0):∀ x∈l,(x.Kind=1∨x.Kind=2)∧KU n x.Left∧KU n x.Right:=by
 unfold I5 at h;split at h
 ·cases h
 split at h
 ·cases h
 have c:=SR h;intro x b;obtain ⟨i,d,e,rfl⟩:=EB b;have:=c i d e;unfold LZ at this;split at this
 ·cases this
 split at this
 ·rename_i f a;rw [zzZ] at a;exact ⟨by omega,Vy a.1,Vy a.2⟩
 ·cases this
theorem YP (n:Int) (l:List Test):I5 n l≠9:=by
 unfold I5;split
 ·decide
 split
 ·decide
 intro h;cases a:fst (fun i=>nz (LZ n (AB l i))) 0 l.length with
 | none=>rw [a] at h; cases h
 | some r=>
  rw [a] at h;obtain ⟨i,_,_,k,_⟩:=DJ a;simp only [Option.getD_some] at h;subst h;unfold nz LZ at k;split at k
  ·cases k
  ·rename_i b;split at k
   ·cases k
   ·split at k <;> cases k
theorem Xz {t:AD} {q:Pattern} (hv:(BM t).2=0) (h:Ja t q=0∨Ja t q=9):RQ t q:=by
 have m:=ST q.Graph;unfold Ja at h;rw [d2 (by simp [hv])] at h;split at h
 ·omega
 rename_i d;have g:=FA (Classical.not_not.1 d);split at h
 ·omega
 rename_i b;split at h
 ·omega
 rename_i n;split at h
 ·omega
 rename_i o;split at h
 ·omega
 rename_i e;split at h
 ·rename_i f;have:=YP q.Vars q.Tests;omega
 rename_i f;refine ⟨g,(Mp g (by simpa using b)).1,by omega,by omega,fun s k=>?_,b7 (Classical.not_not.1 f),Classical.not_not.1 d,by simpa using b⟩;have c:PE t q s=false:=by
  rw [Bool.not_eq_true,List.any_eq_false] at e;simpa using e s k
 unfold PE at c;simp only [Bool.or_eq_false_iff,Bool.not_eq_false',decide_eq_false_iff_not] at c;obtain ⟨⟨⟨a,r⟩,u⟩,v,w⟩:=c;unfold OE at a;dsimp only at a;split at a
 ·cases a
 rename_i p;have j:=(Mp g (by simpa using b)).1 _ (AW (l:=q.Graph.Nodes) (show 0<=s.Node by omega) (by omega));rw [TX hv j.1 j.2] at a;split at a
 ·cases a
 rename_i i;have i:¬ (s.Attr<0∨((BS t (AB q.Graph.Nodes s.Node)).length:Int)<=s.Attr):=i;exact ⟨by omega,by omega,by omega,by omega,by omega,by omega⟩
def Nx (h:A0) (m:Morphism) (s:EG):Int:=AB (AB h.Values (AB m.Nodes s.Node)) s.Attr
def M3 (h:A0) (m:Morphism) (s:EG) (st:Ne × d0):Ne × d0:=
 if 0<=s.Term.Var∧AB st.2 s.Term.Var=false then (CU st.1 s.Term.Var (A6 (Nx h m s - s.Term.Add)),CU st.2 s.Term.Var true) else st
def HE {ρ:Type} (r:ρ) (h:A0) (m:Morphism) (s:EG) (st:Ne × d0):C7 (Ne × d0) ρ:=
 if G6 s.Term (M3 h m s st).1=Nx h m s then .next (M3 h m s st) else .ret r
structure VI (n:Int) (st:Ne × d0):Prop where
 l1:(st.1.length:Int)=n
 l2:(st.2.length:Int)=n
 small:Nq st.1
structure K7 (n:Int) (h:A0) (m:Morphism) (s:EG):Prop where
 node:0<=s.Node∧s.Node<m.Nodes.length
 val:0<=AB m.Nodes s.Node∧AB m.Nodes s.Node<h.Values.length
 attr:0<=s.Attr∧s.Attr<(AB h.Values (AB m.Nodes s.Node)).length
 term:KU n s.Term
 has:-1000000<=Nx h m s∧Nx h m s<=1000000
theorem RM {t:AD} (d:Hx t) {q:Pattern} {h:A0} {m:Morphism} (e:RQ t q) (b:J2 t h) (c:Ui t q.Graph h.Graph m) {s:EG} (f:s∈q.Slots):K7 q.Vars h m s:=by
 obtain ⟨i,j,k⟩:=e.slot s f;have l:=c.nlen;have a:=c.node s.Node i.1 (by omega);have n:=b.row _ a.1.1 a.1.2;have g:=b.kind _ a.1.1 a.1.2;have o:=Yw d g.2 a.2;have hv:=b.len;refine ⟨by omega,by omega,by omega,k,?_⟩;unfold Nx;exact b.low _ a.1.1 a.1.2 _ (AW j.1 (by omega))
theorem N4 {α:Type} (l:List α) (i:Int) (a:α):(CU l i a).length=l.length:=by unfold CU; rw [List.length_set]
theorem Vr {α:Type} {l:List α} {i:Int} {a x:α} (h:x∈CU l i a):x∈l∨x=a:=List.mem_or_eq_of_mem_set h
theorem Zb {n:Int} {h:A0} {m:Morphism} {s:EG} (b:K7 n h m s) {st:Ne × d0} (hi:VI n st):VI n (M3 h m s st):=by
 have c:=b.has;have d:=b.term.add;unfold M3;split
 ·refine ⟨by rw [N4]; exact hi.l1,by rw [N4]; exact hi.l2,fun x a=>?_⟩;rcases Vr a with a | rfl
  ·exact hi.small x a
  ·rw [BD (by omega) (by omega)]; omega
 ·exact hi
def MP (q:Pattern) (h:A0) (m:Morphism):Ne × Int:=
 match HI (HE (([],11):Ne × Int) h m) q.Slots (List.replicate q.Vars.toNat 0,List.replicate q.Vars.toNat false) with
 | .inr r=>r
 | .inl st=>if anyR (fun i=>!Mr (AB q.Tests i) st.1) 0 q.Tests.length=true then ([],16) else (st.1,0)
theorem TQ {n:Int} (b:0<=n):VI n (List.replicate n.toNat 0,List.replicate n.toNat false):=by
 refine ⟨by simp; omega,by simp; omega,fun x a=>?_⟩;rw [List.mem_replicate] at a;omega
theorem Q5 {ρ:Type} {r:ρ} {n:Int} {h:A0} {m:Morphism} {s:EG} (b:K7 n h m s) {st a:Ne × d0} (hi:VI n st) (e:HE r h m s st=.next a):VI n a:=by
 unfold HE at e;split at e
 ·cases e; exact Zb b hi
 ·cases e
theorem Zc {ρ:Type} {r:ρ} {h:A0} {m:Morphism} {s:EG} {st a:Ne × d0}:HE r h m s st≠.brk a:=by
 unfold HE;split <;> simp
theorem Pr {ρ:Type} {r:ρ} {n:Int} {h:A0} {m:Morphism} {l:List EG} (c:∀ s∈l,K7 n h m s) {st b:Ne × d0} (hi:VI n st) (e:HI (HE r h m) l st=.inl b):VI n b:=
 Vp (HE r h m) (VI n) l st b hi (fun a d _ _ f g=>Q5 (c a d) f g) (fun _ _ _ _=>Zc) e
theorem S1 {ρ:Type} {r:ρ} {n:Int} {h:A0} {m:Morphism} {s:EG} (i:K7 n h m s) {st:Ne × d0} (hi:VI n st) {T:Ne × d0->Option (C7 (Ne × d0) ρ)}
  (d:∀ a:Ne × d0,(a.1.length:Int)=n->T a=some (if G6 s.Term a.1=Nx h m s then .next a else .ret r)) :
  ((if (decide (0<=s.Term.Var))=true then ((AK st.2 s.Term.Var).bind fun f=>some (!f)) else some false).bind fun g=>
   if g=true then (AK st.1 s.Term.Var).bind fun _=>(AK st.2 s.Term.Var).bind fun _=>T (CU st.1 s.Term.Var (A6 (Nx h m s - s.Term.Add)),CU st.2 s.Term.Var true) else T (st.1,st.2))=some (HE r h m s st):=by
 have j:=i.term.high;have l1:=hi.l1;have l2:=hi.l2;unfold HE;by_cases b:0<=s.Term.Var
 ·rw [d1 (by simpa using b),AL b (by omega),bs,bs];by_cases c:AB st.2 s.Term.Var=false
  ·rw [d1 (by simp [c]),AL b (by omega),bs,bs,d _ (by dsimp only; rw [N4]; exact l1)];have e:M3 h m s st=(CU st.1 s.Term.Var (A6 (Nx h m s - s.Term.Add)),CU st.2 s.Term.Var true):=by unfold M3; rw [d1 ⟨b,c⟩]
   rw [e]
  ·rw [d2 (by simpa using c),d _ l1];have e:M3 h m s st=st:=by unfold M3; rw [d2 (fun e=>c e.2)]
   rw [e]
 ·rw [d2 (by simpa using b),bs,d2 (by decide),d _ l1];have e:M3 h m s st=st:=by unfold M3; rw [d2 (fun e=>b e.1)]
  rw [e]
theorem Ze {t:Term} {n v:Int} {f:Term->Ne->dD} (c:∀ l:Ne,(l.length:Int)=n->f t l=some (G6 t l)) (a:Ne × d0) (d:(a.1.length:Int)=n):((f t a.1).bind fun b=>if (!decide (b=v))=true then some (C7.ret (([],11):Ne × Int)) else some (.next a))=some (if G6 t a.1=v then .next a else .ret ([],11)):=by
 rw [c _ d,bs];by_cases e:G6 t a.1=v
 ·rw [d2 (by simp [e]),d1 e]
 ·rw [d1 (by simp [e]),d2 e]
theorem eF {q:Pattern} {h:A0} {m:Morphism} {t:AD} (g:RQ t q) (j:∀ s∈q.Slots,K7 q.Vars h m s):Io q h m=some (MP q h m):=by
 have hv:=g.vars;unfold Io MP Ls;rw [d1 (by omega),bs,d1 (by omega),bs];rw [Tp (HE (([],11):Ne × Int) h m) (VI q.Vars) (TQ hv.1)]
 ·cases n:HI (HE (([],11):Ne × Int) h m) q.Slots (List.replicate q.Vars.toNat 0,List.replicate q.Vars.toNat false) with
  | inr r=>rfl
  | inl st=>
   have hi:=Pr j (TQ hv.1) n;rw [EI,C4 (fun i=>!Mr (AB q.Tests i) st.1) ([],16)]
   ·dsimp only;cases anyR (fun i=>!Mr (AB q.Tests i) st.1) 0 q.Tests.length <;> rfl
   ·intro i c d _;have k:=g.test _ (AW c d);rw [AL c d,bs,p_holds k.2.1 k.2.2 hi.small (by have:=hi.l1; omega),bs];cases Mr (AB q.Tests i) st.1 <;> rfl
 ·intro i st c d hi;have a:=j _ (AW c d);refine ⟨?_,fun s' e=>Q5 a hi e⟩;rw [AL c d,bs,AL a.node.1 a.node.2,bs,AL a.val.1 a.val.2,bs,AL a.attr.1 a.attr.2,bs];exact S1 a hi (T:=fun b=>(FP (AB q.Slots i).Term b.1).bind fun f=>if (!decide (f=Nx h m (AB q.Slots i)))=true then some (C7.ret (([],11):Ne × Int)) else some (.next b)) (Ze fun l o=>T6 (by have:=a.term.high; omega))
def MH (t:AD) (p:Pattern) (h:A0):Int:=if Ja t p≠0 then Ja t p else (JO t h).2
theorem Y8 {t:AD} (a:CC t) (p:Pattern) (h:A0):FO t p h=some (MH t p h):=by
 unfold FO MH;rw [Ue a,bs];refine JJ fun _=>?_;rw [Y9 a]; rfl
def Jx (t:AD) (p:Pattern) (h:A0) (m:Morphism):Ne × Int:=
 if MH t p h≠0 then ([],MH t p h) else if KK t p.Graph h.Graph m false≠0 then ([],KK t p.Graph h.Graph m false) else MP p h m
theorem WV {t:AD} (c:CC t) {p:Pattern} {h:A0} {m:Morphism} {inj:Bool} (a:MH t p h=0) (d:KK t p.Graph h.Graph m inj=0):(BM t).2=0∧RQ t p∧J2 t h∧Ui t p.Graph h.Graph m:=by
 unfold MH at a;split at a
 ·rename_i b; exact absurd a b
 rename_i b;obtain ⟨hv,e⟩:=Wo c a;exact ⟨hv,Xz hv (.inl (Classical.not_not.1 b)),e,(Uu d).2⟩
theorem dz {t:AD} (a:CC t) (p:Pattern) (h:A0) (m:Morphism):FN t p h m=some (Jx t p h m):=by
 unfold FN Jx;rw [Y8 a,bs];refine NK fun c=>?_;rw [Wx a,bs];refine NK fun d=>?_;obtain ⟨hv,b,f,g⟩:=WV a c d;rw [eF b (fun s e=>RM (Ik hv) b f g e)]; rfl
theorem Zd {t:AD} {q:Pattern} {h:A0} {m:Morphism} (d:RQ t q) (f:∀ s∈q.Slots,K7 q.Vars h m s) (e:(MP q h m).2=0):((MP q h m).1.length:Int)=q.Vars∧Nq (MP q h m).1:=by
 unfold MP at e ⊢;cases c:HI (HE (([],11):Ne × Int) h m) q.Slots (List.replicate q.Vars.toNat 0,List.replicate q.Vars.toNat false) with
 | inr r=>
  rw [c] at e;have:∀ (l:List EG) (st:Ne × d0) (r:Ne × Int),HI (HE (([],11):Ne × Int) h m) l st=.inr r->r=([],11):=by
   intro l
   induction l with
   | nil=>intro st r h; cases h
   | cons a l i=>
    intro st r h;rw [HI] at h;split at h
    ·exact i _ _ h
    ·cases h
    ·rename_i j b;cases h;unfold HE at b;split at b
     ·cases b
     ·cases b; rfl
  rw [this _ _ _ c] at e;cases e
 | inl st=>
  rw [c] at e;have hi:=Pr f (TQ d.vars.1) c;dsimp only at e ⊢;split at e
  ·cases e
  ·rename_i g;rw [d2 g];exact ⟨hi.l1,hi.small⟩
end Go.Sf.Sc
namespace Go.Sf.Sc
open Go Go.Sf
theorem UH {n:Nat} {α:Type} [Inhabited α] (F:Int->α) {i:Int} (c:0<=i) (v:α):CU ((A9 n).map F) i v=(A9 n).map fun j=>if j=i then v else F j:=by
 unfold CU;refine List.ext_getElem (by simp) (fun k d a=>?_);have b:k<n:=by simpa [CI] using a
 rw [List.getElem_set];have e:(A9 n)[k]'(by rw [CI]; exact b)=(k:Int):=by simp [A9]
 simp only [List.getElem_map,e];by_cases h:i.toNat=k
 ·rw [d1 h,d1 (by omega)]
 ·rw [d2 h,d2 (by omega)]
theorem Pz {n:Nat} {α:Type} {F G:Int->α} (h:∀ j,0<=j->j<(n:Int)->F j=G j):(A9 n).map F=(A9 n).map G:=List.map_congr_left fun j a=>h j (E7.1 a).1 (E7.1 a).2
def J6 (n:Nat) (k:Int):d0:=(A9 n).map fun j=>decide (j<k)
theorem Xk (n:Nat):J6 n 0=List.replicate n false:=by
 unfold J6;refine List.ext_getElem (by simp [CI]) (fun k c a=>?_);have b:k<n:=by simpa using a
 have e:(A9 n)[k]'(by rw [CI]; exact b)=(k:Int):=by simp [A9]
 simp only [List.getElem_map,e,List.getElem_replicate,decide_eq_false_iff_not];omega
theorem T1 (n:Nat) (k:Int):(J6 n k).length=n:=by unfold J6; rw [d7,CI]
def MV (q:Pattern) (h:A0) (m:Morphism) (given:Ne):Ne × Bool:=
 match HI (HE (([],false):Ne × Bool) h m) q.Slots (given++List.replicate (q.Vars - given.length).toNat 0,J6 q.Vars.toNat given.length) with
 | .inr r=>r
 | .inl st=>if anyR (fun i=>!Mr (AB q.Tests i) st.1) 0 q.Tests.length=true then ([],false) else (st.1,true)
theorem V1 {n:Int} {a:Ne} (c:0<=n) (d:a.length<=n) (hv:Nq a):VI n (a++List.replicate (n - a.length).toNat 0,J6 n.toNat a.length):=by
 refine ⟨by simp; omega,by show ((J6 n.toNat a.length).length:Int)=n; rw [T1]; omega,fun x b=>?_⟩;rcases List.mem_append.1 b with b | b
 ·exact hv x b
 ·rw [List.mem_replicate] at b;omega
theorem gq {s:A4} {q:Pattern} {m:Morphism} {t:AD} {a:Ne} (l:RQ t q) (n:∀ x∈q.Slots,K7 q.Vars s.h m x) (u:a.length<=q.Vars) (hv:Nq a):E2 s q m a=some (MV q s.h m a):=by
 have w:=l.vars;unfold E2 MV slices_Clone_int;rw [JC (by unfold BY; omega),bs,BD (by omega) (by omega)];have y:Rf a (q.Vars - a.length) 0=some (a++List.replicate (q.Vars - a.length).toNat 0):=by
  unfold Rf;rw [d1 ⟨by omega,by unfold BY; omega⟩]
 have z:Ls q.Vars false=some (List.replicate q.Vars.toNat false):=by
  unfold Ls;rw [d1 (by omega)]
 rw [y,bs,z,bs];have A:forA (fun (b:Int) (o:d0)=>(AK o b).bind fun v=>some (CU o b true)) 0 (a.length:Int) (List.replicate q.Vars.toNat false)=some (J6 q.Vars.toNat a.length):=by
  refine EY (fun i=>J6 q.Vars.toNat i) (by omega) (Xk _) (fun i b f=>?_);rw [AL b (by rw [T1]; omega),bs];congr 1;unfold J6;rw [UH _ b];refine Pz (fun j C D=>?_);by_cases e:j=i
  ·rw [d1 e,e]; simp; omega
  ·rw [d2 e,decide_eq_decide]; omega
 rw [A,bs];have k:=V1 w.1 u hv;rw [Tp (HE (([],false):Ne × Bool) s.h m) (VI q.Vars) k]
 ·cases B:HI (HE (([],false):Ne × Bool) s.h m) q.Slots (a++List.replicate (q.Vars - a.length).toNat 0,J6 q.Vars.toNat a.length) with
  | inr r=>rfl
  | inl st=>
   have hi:=Pr n k B;rw [EI,C4 (fun i=>!Mr (AB q.Tests i) st.1) ([],false)]
   ·dsimp only;cases anyR (fun i=>!Mr (AB q.Tests i) st.1) 0 q.Tests.length <;> rfl
   ·intro i b f _;have p:=l.test _ (AW b f);rw [AL b f,bs,p_holds p.2.1 p.2.2 hi.small (by have:=hi.l1; omega),bs];cases Mr (AB q.Tests i) st.1 <;> rfl
 ·intro i st b f hi;have c:=n _ (AW b f);refine ⟨?_,fun s' e=>Q5 c hi e⟩;rw [AL b f,bs,AL c.node.1 c.node.2,bs,AL c.val.1 c.val.2,bs,AL c.attr.1 c.attr.2,bs];refine S1 c hi (T:=fun d=>(HF (AB q.Slots i).Term d.1).bind fun g=>if ((!decide (g.2=0))||(!decide (g.1=Nx s.h m (AB q.Slots i))))=true then some (C7.ret (([],false):Ne × Bool)) else some (.next d)) (fun d E=>?_);rw [am c.term.low (by have:=c.term.high; omega) (by omega),bs];by_cases e:G6 (AB q.Slots i).Term d.1=Nx s.h m (AB q.Slots i)
  ·rw [d2 (by simp [e]),d1 e]
  ·rw [d1 (by simp [e]),d2 e]
theorem cA {t:AD} {q:Pattern} {h:A0} {m:Morphism} {b:Ne} (g:RQ t q) (i:∀ s∈q.Slots,K7 q.Vars h m s) (j:b.length<=q.Vars) (hv:Nq b) (e:(MV q h m b).2=true):((MV q h m b).1.length:Int)=q.Vars∧Nq (MV q h m b).1:=by
 unfold MV at e ⊢;have f:=V1 g.vars.1 j hv;cases d:HI (HE (([],false):Ne × Bool) h m) q.Slots (b++List.replicate (q.Vars - b.length).toNat 0,J6 q.Vars.toNat b.length) with
 | inr r=>
  rw [d] at e;have:∀ (l:List EG) (st:Ne × d0) (r:Ne × Bool),HI (HE (([],false):Ne × Bool) h m) l st=.inr r->r=([],false):=by
   intro l
   induction l with
   | nil=>intro st r h; cases h
   | cons a l n=>
    intro st r h;rw [HI] at h;split at h
    ·exact n _ _ h
    ·cases h
    ·rename_i o c;cases h;unfold HE at c;split at c
     ·cases c
     ·cases c; rfl
  rw [this _ _ _ d] at e;cases e
 | inl st=>
  rw [d] at e;have hi:=Pr i f d;dsimp only at e ⊢;split at e
  ·cases e
  ·rename_i k;rw [d2 k];exact ⟨hi.l1,hi.small⟩
def I1 (n:Nat) (by' images:Ne):Ne:=(A9 by'.length).foldl (fun l i=>CU l (AB by' i) (AB images i)) (List.replicate n (-1))
theorem M5 (by' images:Ne):∀ (a:Ne) (l:Ne),(a.foldl (fun l i=>CU l (AB by' i) (AB images i)) l).length=l.length
 | [],l=>rfl
 | k::a,l=>by rw [List.foldl_cons,M5 by' images a,N4]
theorem Sr (n:Nat) (by' images:Ne):(I1 n by' images).length=n:=by unfold I1; rw [M5]; simp
theorem Tl (by' images:Ne) {x:Int}:∀ (a:Ne) (l:Ne),x∈a.foldl (fun l i=>CU l (AB by' i) (AB images i)) l->x∈l∨∃ k∈a,x=AB images k
 | [],l,h=>.inl h
 | k::a,l,h=>by
  rw [List.foldl_cons] at h;rcases Tl by' images a _ h with h | ⟨j,b,e⟩
  ·rcases Vr h with h | h
   ·exact .inl h
   ·exact .inr ⟨k,by simp,h⟩
  ·exact .inr ⟨j,by simp [b],e⟩
theorem Ss {n:Nat} {by' images:Ne} {x:Int} (h:x∈I1 n by' images):x=-1∨∃ k:Int,(0<=k∧k<by'.length)∧x=AB images k:=by
 rcases Tl by' images _ _ h with h | ⟨k,a,e⟩
 ·rw [List.mem_replicate] at h; exact .inl h.2
 ·exact .inr ⟨k,E7.1 a,e⟩
theorem Xy {n:Nat} {by' images:Ne} (o:∀ x∈by',0<=x∧x<n) (p:by'.length<=images.length):forA (fun (d:Int) (g:Ne)=>
  (AK by' d).bind fun c=>
  (AK images d).bind fun e=>
  (AK g c).bind fun j=>
  some (CU g c e)) 0 (by'.length:Int) (List.replicate n (-1))=some (I1 n by' images):=by
 have h:=EY (f:=fun (d:Int) (g:Ne)=>
  (AK by' d).bind fun c=>
  (AK images d).bind fun e=>
  (AK g c).bind fun j=>
  some (CU g c e)) (fun i=>(A9 i.toNat).foldl (fun l i=>CU l (AB by' i) (AB images i)) (List.replicate n (-1))) (a:=0) (b:=by'.length) (s:=List.replicate n (-1)) (by omega) rfl (fun i d k=>by
   have m:=o _ (AW d k);rw [AL d k,bs,AL d (by omega),bs,AL m.1 (by rw [M5]; simpa using m.2),bs,ID d,List.foldl_append]; rfl)
 rw [h,Int.toNat_natCast]; rfl
theorem VZ {n:Nat} {by' images:Ne} (c:n<=1000) (a:∀ x∈by',0<=x∧x<n) (b:by'.length<=images.length):HH n by' images=some (I1 n by' images):=by
 unfold HH DN;rw [d1 ⟨rfl,by omega,by omega⟩,bs];show (forA _ 0 _ (List.replicate (n:Int).toNat (-1))).bind _=_;rw [Int.toNat_natCast,Xy a b]; rfl
end Go.Sf.Sc
namespace Go.Sf.Sc
open Go Go.Sf
structure cH (f:AM):Prop where
 nl:f.nodes.length<=f.p.Nodes.length
 node:∀ i:Int,0<=i->i<f.nodes.length->(0<=AB f.nodes i∧AB f.nodes i<f.g.Nodes.length)∧AB (AB f.is (AB f.p.Nodes i)) (AB f.g.Nodes (AB f.nodes i))=true
 edge:∀ i:Int,0<=i->i<f.edges.length->(0<=AB f.edges i∧AB f.edges i<f.g.Edges.length)∧AB f.g.Edges (AB f.edges i)=⟨(AB f.p.Edges i).Type',AB f.nodes (AB f.p.Edges i).From,AB f.nodes (AB f.p.Edges i).To⟩
 inj:f.injective=true->f.nodes.Nodup∧f.edges.Nodup
structure XQ (f:AM) (m:Morphism):Prop where
 nl:m.Nodes.length=f.p.Nodes.length
 el:m.Edges.length=f.p.Edges.length
 node:∀ i:Int,0<=i->i<m.Nodes.length->(0<=AB m.Nodes i∧AB m.Nodes i<f.g.Nodes.length)∧AB (AB f.is (AB f.p.Nodes i)) (AB f.g.Nodes (AB m.Nodes i))=true
 edge:∀ i:Int,0<=i->i<m.Edges.length->(0<=AB m.Edges i∧AB m.Edges i<f.g.Edges.length)∧AB f.g.Edges (AB m.Edges i)=⟨(AB f.p.Edges i).Type',AB m.Nodes (AB f.p.Edges i).From,AB m.Nodes (AB f.p.Edges i).To⟩
 inj:f.injective=true->m.Nodes.Nodup∧m.Edges.Nodup
theorem S9 {α:Type} [Inhabited α] (l:List α) (x:α) {i:Int} (h:i=l.length):AB (l++[x]) i=x:=by
 subst h;rw [TW,d2 (by omega)];simp
theorem Sg {l:Ne} {k:Int} {b:Bool} (h:(!(b&&l.any fun x=>decide (k=x)))=true) (c:b=true) (d:l.Nodup):(l++[k]).Nodup:=by
 subst c;simp only [Bool.true_and,Bool.not_eq_true',List.any_eq_false,zzX] at h;rw [List.nodup_append];refine ⟨d,by simp,fun a f b c e=>?_⟩;rw [List.mem_singleton] at c;exact h a f (by rw [e,c])
theorem TT:∀ (n:Nat) (f:AM),cH f->f.nodes.length=f.p.Nodes.length->f.edges.length+n=f.p.Edges.length->∀ m∈EW n f,XQ f m
 | 0,f,b,o,r,m,a=>by
  rw [EW,List.mem_singleton] at a;subst a;exact ⟨o,by simpa using r,b.node,b.edge,b.inj⟩
 | n+1,f,b,o,r,m,a=>by
  rw [EW,List.mem_flatMap] at a;obtain ⟨k,j,a⟩:=a;have j:=E7.1 j;split at a
  ·rename_i c;unfold OU at c;rw [zzZ] at c;obtain ⟨d,l⟩:=c;rw [Pt,zzZ,zzX] at d;have:=TT n { f with edges:=f.edges++[k] } ⟨b.nl,b.node,fun i q h=>by
    have h:i<((f.edges++[k]).length:Int):=h;simp only [d4,List.length_singleton] at h;show (0<=AB (f.edges++[k]) i∧AB (f.edges++[k]) i<f.g.Edges.length)∧AB f.g.Edges (AB (f.edges++[k]) i)=⟨(AB f.p.Edges i).Type',AB f.nodes (AB f.p.Edges i).From,AB f.nodes (AB f.p.Edges i).To⟩;by_cases e:i=f.edges.length
    ·rw [S9 _ _ e]; exact ⟨j,by rw [e]; exact d.2⟩
    ·rw [Qa _ _ q (by omega)]; exact b.edge i q (by omega),fun hi=>⟨(b.inj hi).1,Sg l hi (b.inj hi).2⟩⟩ o (by show (f.edges++[k]).length+n=f.p.Edges.length; rw [d4,List.length_singleton]; omega) m a
   exact ⟨this.nl,this.el,this.node,this.edge,this.inj⟩
  ·cases a
theorem TU:∀ (n:Nat) (f:AM),cH f->f.edges=[]->f.nodes.length+n=f.p.Nodes.length->∀ m∈GW n f,XQ f m
 | 0,f,d,h,r,m,a=>by
  rw [GW] at a;exact TT _ f d (by omega) (by rw [h]; simp) m a
 | n+1,f,d,h,r,m,a=>by
  rw [GW,List.mem_flatMap] at a;obtain ⟨k,l,a⟩:=a;have l:=E7.1 l;split at a
  ·rename_i c;unfold OV at c;rw [zzZ,zzZ] at c;obtain ⟨⟨_,o⟩,q⟩:=c;have:=TU n { f with nodes:=f.nodes++[k] } ⟨by show (f.nodes++[k]).length<=f.p.Nodes.length; rw [d4,List.length_singleton]; omega,fun i j b=>by
    have b:i<((f.nodes++[k]).length:Int):=b;simp only [d4,List.length_singleton] at b;show (0<=AB (f.nodes++[k]) i∧AB (f.nodes++[k]) i<f.g.Nodes.length)∧AB (AB f.is (AB f.p.Nodes i)) (AB f.g.Nodes (AB (f.nodes++[k]) i))=true;by_cases e:i=f.nodes.length
    ·rw [S9 _ _ e];exact ⟨l,by rw [e]; exact o⟩
    ·rw [Qa _ _ j (by omega)]; exact d.node i j (by omega),fun i j b=>by
    have b:i<(f.edges.length:Int):=b;rw [h] at b;have:i<(0:Nat):=b;omega,fun hi=>⟨Sg q hi (d.inj hi).1,(d.inj hi).2⟩⟩ h (by show (f.nodes++[k]).length+n=f.p.Nodes.length; rw [d4,List.length_singleton]; omega) m a
   exact ⟨this.nl,this.el,this.node,this.edge,this.inj⟩
  ·cases a
theorem Xe {t:AD} {p g:Graph} {b:Morphism} {inj:Bool} {m:Morphism} (c:m∈LB t p g b inj):XQ (FF t p g b inj) m:=
 TU _ (FF t p g b inj) ⟨Nat.zero_le _,fun i d a=>by have a:i<(0:Nat):=a; omega,fun i d a=>by have a:i<(0:Nat):=a; omega,fun _=>⟨List.nodup_nil,List.nodup_nil⟩⟩ rfl (by show 0+p.Nodes.length=p.Nodes.length; omega) m (List.mem_of_mem_take c)
theorem aO {t:AD} {p g:Graph} {o:Morphism} {inj:Bool} (h:GI t p g=0) {m:Morphism} (q:m∈LB t p g o inj):Ui t p g m:=by
 obtain ⟨hv,u,v,tp,s⟩:=Rr h;have:=Xe q;refine ⟨this.nl,this.el,fun i a c=>?_,fun i a c=>(this.edge i a c).1⟩;obtain ⟨d,b⟩:=this.node i a c;refine ⟨d,?_⟩;have f:=this.nl;have j:=tp _ (AW (l:=p.Nodes) a (by show i<(p.Nodes.length:Int); have f:m.Nodes.length=p.Nodes.length:=f; omega));have n:=s _ (AW (l:=g.Nodes) d.1 d.2);have b:AB (AB (Jh t) (AB p.Nodes i)) (AB g.Nodes (AB m.Nodes i))=true:=b;have e:AB (Jh t) (AB p.Nodes i)=KM t (AB p.Nodes i):=by unfold Jh; exact Il (KM t) j.1 j.2
 rw [e] at b;have r:AB (KM t (AB p.Nodes i)) (AB g.Nodes (AB m.Nodes i))=JL t (AB g.Nodes (AB m.Nodes i)) (AB p.Nodes i):=by unfold KM; exact Il (fun k=>JL t k (AB p.Nodes i)) n.1 n.2
 rwa [r] at b
theorem Yo {t:AD} {p g:Graph} {b:Morphism} {inj:Bool} (h:(NL t p g b inj).2=0):(NL t p g b inj).1.length<=5000∧∀ m∈(NL t p g b inj).1,Ui t p g m:=by
 unfold NL at h ⊢;split at h
 ·rename_i a; exact absurd h a
 rename_i a;split at h
 ·cases h
 rename_i f;split at h
 ·rename_i c; exact absurd h c
 rename_i c;split at h
 ·rename_i d; exact absurd h d
 rename_i d;split at h
 ·cases h
 rename_i i;rw [d2 a,d2 f,d2 c,d2 d,d2 i];exact ⟨by dsimp only; omega,fun m e=>aO (Classical.not_not.1 a) e⟩
structure RP (t:AD) (p:Pattern) (h:A0) (x:AG):Prop where
 q:RQ t p
 m:Ui t p.Graph h.Graph x.Morphism
 len:(x.Vars.length:Int)=p.Vars
 small:Nq x.Vars
structure YW (t:AD) (p:Pattern) (c:AA):Prop where
 q:RQ t c.Pattern
 vars:p.Vars<=c.Pattern.Vars
 map:cG p.Graph c.Pattern.Graph c.Map
 inj:Lc c.Map=true
def G0 (t:AD) (c:AA) (h:A0) (m:AG) (inj:Bool):List AG × Int:=
 let x:=NL t c.Pattern.Graph h.Graph ⟨I1 c.Pattern.Graph.Nodes.length c.Map.Nodes m.Morphism.Nodes,I1 c.Pattern.Graph.Edges.length c.Map.Edges m.Morphism.Edges⟩ inj
 if x.2≠0 then ([],x.2) else ((x.1.filter fun y=>(MV c.Pattern h y m.Vars).2).map fun y=>⟨y,(MV c.Pattern h y m.Vars).1⟩,0)
instance:Inhabited Morphism:=⟨⟨[],[]⟩⟩
instance:Inhabited AG:=⟨⟨default,[]⟩⟩
instance:Inhabited BQ:=⟨⟨0,default,[]⟩⟩
theorem WG {x:List Morphism} {F:Morphism->Ne × Bool} {f:Int->List AG->Option (List AG)} (j:x.length<=5000)
  (e:∀ (i:Int) (s:List AG),0<=i->i<x.length->s.length<=5000->f i s=some (if (F (AB x i)).2=true then s++[⟨AB x i,(F (AB x i)).1⟩] else s)) :
  forA f 0 (x.length:Int) []=some ((x.filter fun y=>(F y).2).map fun y=>⟨y,(F y).1⟩):=by
 rw [EY (a:=0) (b:=x.length) (s:=[]) (fun i=>((x.take i.toNat).filter fun y=>(F y).2).map fun y=>(⟨y,(F y).1⟩:AG)) (by omega) rfl,Int.toNat_natCast,List.take_length];intro i c d;have g:(((x.take i.toNat).filter fun y=>(F y).2).map fun y=>(⟨y,(F y).1⟩:AG)).length<=5000:=by
  rw [d7];have:=List.length_filter_le (fun y=>(F y).2) (x.take i.toNat);have:=List.length_take_le i.toNat x;have:(x.take i.toNat).length<=x.length:=by rw [d5]; omega
  omega
 rw [e i _ c d g,F1 c d,List.filter_append,List.map_append];cases h:(F (AB x i)).2 <;> simp [h]
theorem gc {s:A4} {p:Pattern} {c:AA} {m:AG} (f:CC s.t) (hv:(BM s.t).2=0) (j:J2 s.t s.h) (e:RP s.t p s.h m) (hi:YW s.t p c):CN s c m=some (G0 s.t c s.h m s.injective):=by
 have v:=hi.q.g.nodes;have ge:=hi.q.g.edges;have m1:=hi.map.nlen;have w:=hi.map.elen;have z:=e.m.nlen;have A:=e.m.elen;unfold CN G0;rw [VZ (by omega) (fun x d=>by obtain ⟨i,a,b,rfl⟩:=EB d; exact (hi.map.node i a b).1) (by omega),bs,
  VZ (by omega) (fun x d=>by obtain ⟨i,a,b,rfl⟩:=EB d; exact (hi.map.edge i a b).1) (by omega),bs,aq f,bs]
 dsimp only;refine NK fun k=>?_;obtain ⟨o,r⟩:=Yo k;rw [WG (F:=fun y=>MV c.Pattern s.h y m.Vars) o]
 ·rfl
 ·intro i st a b u;have l:=r _ (AW a b);have n:(m.Vars.length:Int)<=c.Pattern.Vars:=by have:=e.len; have:=hi.vars; omega
  rw [AL a b,bs,gq hi.q (fun x d=>RM (Ik hv) hi.q j l d) n e.small,bs,←Kc];split
  ·rw [CS (by simp; unfold BY; omega)]; rfl
  ·rfl
theorem Wi {t:AD} {h:A0} {inj:Bool} {p:Pattern} {c:AA} {m:AG} (hv:(BM t).2=0) (i:J2 t h) (f:RP t p h m) (hi:YW t p c) (e:(G0 t c h m inj).2=0):(G0 t c h m inj).1.length<=5000∧∀ x∈(G0 t c h m inj).1,RP t c.Pattern h x:=by
 unfold G0 at e ⊢;dsimp only at e ⊢;split at e
 ·rename_i b; exact absurd e b
 rename_i b;rw [d2 b];obtain ⟨k,l⟩:=Yo (Classical.not_not.1 b);refine ⟨by dsimp only; rw [d7]; exact Nat.le_trans (List.length_filter_le _ _) k,fun x a=>?_⟩;dsimp only at a;rw [List.mem_map] at a;obtain ⟨y,d,rfl⟩:=a;rw [List.mem_filter] at d;have g:=l y d.1;have j:(m.Vars.length:Int)<=c.Pattern.Vars:=by have:=f.len; have:=hi.vars; omega
 have:=cA hi.q (fun x a=>RM (Ik hv) hi.q i g a) j f.small d.2;exact ⟨hi.q,g,this.1,this.2⟩
end Go.Sf.Sc
