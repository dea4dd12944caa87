/- Plain lemmas: what the functions of the program and of the reference compute. -/
import Derived.Test.YtlbmpkmkmkgniaaGreatDoorP28
import Derived.Test.YtlbmpkmkmkgniaaGreatDoorP46
import Derived.Test.YtlbmpkmkmkgniaaGreatDoorP25
set_option maxRecDepth 100000
namespace Go.Sf.Sc
open Go Go.Sf
inductive CV (t:AD):Pattern->AA->Prop where
 | mk (p:Pattern) (c:AA) (few:c.Kids.length<=40) (rng:1<=c.Kind∧c.Kind<=5) (one:c.Kind=2∨c.Kind=5->c.Kids.length=1) (ins:c.Kind=5->Ve t p c) (kids:∀ k∈c.Kids,CV t (if c.Kind=5 then c.Pattern else p) k):CV t p c
theorem CV.few {t:AD} {p:Pattern} {c:AA} (h:CV t p c):c.Kids.length<=40:=by cases h; assumption
theorem CV.rng {t:AD} {p:Pattern} {c:AA} (h:CV t p c):1<=c.Kind∧c.Kind<=5:=by cases h; assumption
theorem CV.one {t:AD} {p:Pattern} {c:AA} (h:CV t p c):c.Kind=2∨c.Kind=5->c.Kids.length=1:=by cases h; assumption
theorem CV.ins {t:AD} {p:Pattern} {c:AA} (h:CV t p c):c.Kind=5->Ve t p c:=by cases h; assumption
theorem CV.kids {t:AD} {p:Pattern} {c:AA} (h:CV t p c):∀ k∈c.Kids,CV t (if c.Kind=5 then c.Pattern else p) k:=by cases h; assumption
theorem CV.kid {t:AD} {p:Pattern} {c:AA} (h:CV t p c) (h5:¬ c.Kind=5):∀ k∈c.Kids,CV t p k:=fun k hk=>by have:=h.kids k hk; rwa [if_neg h5] at this
theorem CV.kid5 {t:AD} {p:Pattern} {c:AA} (h:CV t p c) (h5:c.Kind=5):∀ k∈c.Kids,CV t c.Pattern k:=fun k hk=>by have:=h.kids k hk; rwa [if_pos h5] at this
theorem PK:∀ l:List AA,l.length<=GJ l
 | []=>by simp
 | c::l=>by
  have:=PK l
  have h1:GJ (c::l)=cnt c+GJ l:=by simp [GJ]
  have h2:=Ju c
  simp only [List.length_cons]
  omega
theorem lf {t:AD} {q:Pattern} {v:Int} (hv:(BJ t).2=0) (h:Kw t q v=0):PA t q:=by
 unfold Kw at h
 split at h
 ·exact Wy hv (.inl h)
 ·rename_i h9; exact Wy hv (.inr (Classical.not_not.1 h9))
theorem ac {t:AD} (hv:(BJ t).2=0):∀ (N:Nat) (c:AA) (p:Pattern),SizeOf.sizeOf c<=N->cnt c<=40->Lq N c=true->ER N t p c=0->CV t p c
 | 0,c,_,h,_,_,_=>by have:=DA c; omega
 | N+1,c,p,h,hc,hw,ho=>by
  have hk0:=Ju c
  have hk1:=PK c.Kids
  rw [Lq,zzZ] at hw
  obtain ⟨hw1,hw2⟩:=hw
  have hone:c.Kind=2∨c.Kind=5->c.Kids.length=1:=by
   intro hk
   unfold Nf at hw1
   rcases hk with hk | hk
   ·rw [if_neg (by omega),if_pos hk,zzZ,zzX] at hw1; exact hw1.1
   ·rw [if_neg (by omega),if_neg (by omega),if_neg (by omega),if_pos hk,zzX] at hw1; exact hw1
  have hrng:1<=c.Kind∧c.Kind<=5:=by
   unfold Nf at hw1
   split at hw1
   ·omega
   split at hw1
   ·omega
   split at hw1
   ·omega
   split at hw1
   ·omega
   ·cases hw1
  have hkid:∀ q,(fst (fun i=>nz (ER N t q (AB c.Kids i))) 0 c.Kids.length).getD 0=0->∀ k∈c.Kids,CV t q k:=by
   intro q hq k hk
   have h1:=Ra hq
   have h2:=NA hk
   have h3:=DW hk
   rw [List.all_eq_true] at hw2
   obtain ⟨i,i0,i1,e⟩:=EX hk
   have h4:=h1 i i0 i1
   rw [e] at h4
   exact ac hv N k q (by omega) (by omega) (hw2 k hk) h4
  rw [ER] at ho
  by_cases h5:c.Kind=5
  ·rw [if_pos h5] at ho
   split at ho
   ·cases ho
   rename_i h6
   split at ho
   ·rename_i h7; exact absurd ho h7
   rename_i h7
   split at ho
   ·rename_i h8; exact absurd ho h8
   rename_i h8
   split at ho
   ·cases ho
   rename_i h9
   refine CV.mk p c (by omega) hrng hone (fun _=>⟨lf hv (Classical.not_not.1 h7),by omega,ah (Classical.not_not.1 h8),by simpa using h9⟩) ?_
   rw [if_pos h5]
   exact hkid _ ho
  ·rw [if_neg h5] at ho
   refine CV.mk p c (by omega) hrng hone (fun e=>absurd e h5) ?_
   rw [if_neg h5]
   exact hkid _ ho
section
variable {α σ ρ:Type}
theorem O4 [Inhabited α] {l:List α} {f:Int->σ->Option (CY σ ρ)} (step:α->σ->CY σ ρ) (I:Int->σ->Prop) (h:∀ (i:Int) s,0<=i->i<l.length->I i s->f i s=some (step (AB l i) s)∧∀ s',step (AB l i) s=.next s'->I (i+1) s') :
  ∀ (n:Nat) (a:Int) (s:σ),0<=a->a+n=l.length->I a s->forGo f n a s=some (GU step (l.drop a.toNat) s)
 | 0,a,s,h0,h1,_=>by
  rw [List.drop_eq_nil_of_le (by omega)]; rfl
 | n+1,a,s,h0,h1,hs=>by
  obtain ⟨h2,h3⟩:=h a s h0 (by omega) hs
  have hd:l.drop a.toNat=AB l a::l.drop (a+1).toNat:=by
   rw [show (a+1).toNat=a.toNat+1 by omega,List.drop_eq_getElem_cons (by omega)]
   congr 1
   unfold AB
   rw [List.getD_eq_getElem?_getD,List.getElem?_eq_getElem (by omega)]; rfl
  rw [G5,h2,hd,GU]
  cases hc:step (AB l a) s with
  | next s'=>
   simp only
   exact O4 step I h n (a+1) s' (by omega) (by omega) (h3 s' hc)
  | brk s'=>rfl
  | ret r=>rfl
theorem Wd [Inhabited α] {l:List α} {f:Int->σ->Option (CY σ ρ)} (step:α->σ->CY σ ρ) (I:Int->σ->Prop) {s:σ} (hs:I 0 s) (h:∀ (i:Int) s,0<=i->i<l.length->I i s->f i s=some (step (AB l i) s)∧∀ s',step (AB l i) s=.next s'->I (i+1) s') :
  forR f 0 l.length s=some (GU step l s):=by
 have:=O4 step I h l.length 0 s (by omega) (by omega) hs
 unfold forR
 rw [show ((l.length:Int) - 0).toNat=l.length by omega]
 exact this
end
abbrev zM:AG:=⟨⟨[],[]⟩,[]⟩
abbrev zP:BP:=⟨0,zM,[]⟩
def QL (w:AA->BP × Int) (k:AA) (s:BP × BP):CY (BP × BP) (BP × Int):=
 if (w k).2≠0 then .ret (zP,(w k).2) else .next (s.1,⟨s.2.Choice,s.2.Match,s.2.Kids++[(w k).1]⟩)
def dt (w:AA->BP × Int) (l:List AA):BP × Int:=
 match GU (QL w) l (zP,zP) with
 | .inl s=>(s.2,0)
 | .inr r=>r
def D1 (t:AD) (h:A2) (inj:Bool):Nat->AA->AG->BP × Int
 | 0,_,_=>(zP,0)
 | N+1,c,m=>
  if c.Kind=2 then (if (D1 t h inj N (AB c.Kids 0) m).2=0 then (zP,10) else if (D1 t h inj N (AB c.Kids 0) m).2=10 then (zP,0) else (zP,(D1 t h inj N (AB c.Kids 0) m).2)) else
  if c.Kind=3 then dt (fun k=>D1 t h inj N k m) c.Kids else
  if c.Kind=4 then (fst (fun i=>if (D1 t h inj N (AB c.Kids i) m).2=0 then some (⟨i,zM,[(D1 t h inj N (AB c.Kids i) m).1]⟩,0) else if (D1 t h inj N (AB c.Kids i) m).2≠10 then some (zP,(D1 t h inj N (AB c.Kids i) m).2) else none) 0 c.Kids.length).getD (zP,10) else
  if c.Kind=5 then
   (if (DU t c h m inj).2≠0 then (zP,(DU t c h m inj).2) else
   (fst (fun i=>if (D1 t h inj N (AB c.Kids 0) (AB (DU t c h m inj).1 i)).2=0 then some (⟨0,AB (DU t c h m inj).1 i,[(D1 t h inj N (AB c.Kids 0) (AB (DU t c h m inj).1 i)).1]⟩,0) else
    if (D1 t h inj N (AB c.Kids 0) (AB (DU t c h m inj).1 i)).2≠10 then some (zP,(D1 t h inj N (AB c.Kids 0) (AB (DU t c h m inj).1 i)).2) else none) 0 (DU t c h m inj).1.length).getD (zP,10)) else
  (zP,0)
end Go.Sf.Sc
namespace Go.Sf.Sc
open Go Go.Sf
def Tg (i:Int) (s:BP × BP):Prop:=(s.2.Kids.length:Int)=i
theorem Rw {s:A3} (hf:CA s.t) (hv:(BJ s.t).2=0) (hh:H1 s.t s.h):∀ (N:Nat) (c:AA) (p:Pattern) (m:AG),SizeOf.sizeOf c<=N->CV s.t p c->N5 s.t p s.h m->∀ n,2*N<=n->A0 n s c m=some (D1 s.t s.h s.injective N c m)
 | 0,c,_,_,h,_,_,_,_=>by have:=DA c; omega
 | N+1,c,p,m,h,hc,ha,n,hn=>by
  obtain ⟨n,rfl⟩:∃ k,n=k+2:=⟨n - 2,by omega⟩
  have kid:∀ (i:Int),0<=i->i<c.Kids.length->SizeOf.sizeOf (AB c.Kids i)<=N:=fun i i0 i1=>by
   have:=DW (AV (l:=c.Kids) i0 i1); omega
  rw [A0,D1]
  by_cases h2:c.Kind=2
  ·have h1:=hc.one (.inl h2)
   rw [if_pos (by simpa using h2),if_pos h2,AM (by omega) (by omega),bs,Rw hf hv hh N _ p m (kid 0 (by omega) (by omega)) (hc.kid (by omega) _ (AV (by omega) (by omega))) ha (n+1) (by omega),bs]
   generalize D1 s.t s.h s.injective N (AB c.Kids 0) m=x
   by_cases e0:x.2=0
   ·rw [if_pos (by simpa using e0),if_pos e0]; try rfl
   ·rw [if_neg (by simpa using e0),if_neg e0]
    by_cases e1:x.2=10
    ·rw [if_pos (by simpa using e1),if_pos e1]; try rfl
    ·rw [if_neg (by simpa using e1),if_neg e1]; try rfl
  rw [if_neg (by simpa using h2),if_neg h2]
  by_cases h3:c.Kind=3
  ·rw [if_pos (by simpa using h3),if_pos h3]
   have hfew:=hc.few
   rw [Wd (QL fun k=>D1 s.t s.h s.injective N k m) Tg (show Tg 0 (zP,zP) from rfl)]
   ·unfold dt
    show thenR (some (GU (QL fun k=>D1 s.t s.h s.injective N k m) c.Kids (zP,zP))) _ _=_
    cases GU (QL fun k=>D1 s.t s.h s.injective N k m) c.Kids (zP,zP) <;> rfl
   ·intro i st i0 i1 hi
    unfold Tg at hi
    rw [AM i0 i1,bs,Rw hf hv hh N _ p m (kid i i0 i1) (hc.kid (by omega) _ (AV i0 i1)) ha (n+1) (by omega),bs]
    dsimp only [QL]
    by_cases e0:(D1 s.t s.h s.injective N (AB c.Kids i) m).2=0
    ·rw [if_neg (by simp [e0]),if_neg (by simp [e0]),DY (by simp; unfold B9; omega),bs]
     refine ⟨rfl,fun s' e=>?_⟩
     cases e
     unfold Tg
     simp; omega
    ·rw [if_pos (by simp [e0]),if_pos e0]
     exact ⟨rfl,fun s' e=>by cases e⟩
  rw [if_neg (by simpa using h3),if_neg h3]
  by_cases h4:c.Kind=4
  ·rw [if_pos (by simpa using h4),if_pos h4]
   rw [Ly (fun _=>zP) (fun i=>if (D1 s.t s.h s.injective N (AB c.Kids i) m).2=0 then some (⟨i,zM,[(D1 s.t s.h s.injective N (AB c.Kids i) m).1]⟩,0) else if (D1 s.t s.h s.injective N (AB c.Kids i) m).2≠10 then some (zP,(D1 s.t s.h s.injective N (AB c.Kids i) m).2) else none) (by omega) rfl]
   ·cases fst (fun i=>if (D1 s.t s.h s.injective N (AB c.Kids i) m).2=0 then some ((⟨i,zM,[(D1 s.t s.h s.injective N (AB c.Kids i) m).1]⟩:BP),(0:Int)) else if (D1 s.t s.h s.injective N (AB c.Kids i) m).2≠10 then some (zP,(D1 s.t s.h s.injective N (AB c.Kids i) m).2) else none) 0 c.Kids.length <;> rfl
   ·intro i i0 i1 _
    rw [AM i0 i1,bs,Rw hf hv hh N _ p m (kid i i0 i1) (hc.kid (by omega) _ (AV i0 i1)) ha (n+1) (by omega),bs]
    generalize D1 s.t s.h s.injective N (AB c.Kids i) m=x
    by_cases e0:x.2=0
    ·rw [if_pos (by simpa using e0),if_pos e0]; try rfl
    ·rw [if_neg (by simpa using e0),if_neg e0]
     by_cases e1:x.2=10
     ·rw [if_neg (by simp [e1]),if_neg (by simp [e1])]; try rfl
     ·rw [if_pos (by simp [e1]),if_pos e1]; try rfl
  rw [if_neg (by simpa using h4),if_neg h4]
  by_cases h5:c.Kind=5
  ·rw [if_pos (by simpa using h5),if_pos h5]
   have hi:=hc.ins h5
   have h1:=hc.one (.inr h5)
   rw [BT,ef hf hv hh ha hi,bs]
   by_cases h6:(DU s.t c s.h m s.injective).2=0
   ·obtain ⟨e1,e2⟩:=Pu hv hh ha hi h6
    rw [if_neg (by simp [h6]),if_neg (by simp [h6])]
    generalize (DU s.t c s.h m s.injective).1=l at e1 e2
    rw [Ly (fun _=>zP) (fun i=>if (D1 s.t s.h s.injective N (AB c.Kids 0) (AB l i)).2=0 then some (⟨0,AB l i,[(D1 s.t s.h s.injective N (AB c.Kids 0) (AB l i)).1]⟩,0) else if (D1 s.t s.h s.injective N (AB c.Kids 0) (AB l i)).2≠10 then some (zP,(D1 s.t s.h s.injective N (AB c.Kids 0) (AB l i)).2) else none) (by omega) rfl]
    ·cases fst (fun i=>if (D1 s.t s.h s.injective N (AB c.Kids 0) (AB l i)).2=0 then some ((⟨0,AB l i,[(D1 s.t s.h s.injective N (AB c.Kids 0) (AB l i)).1]⟩:BP),(0:Int)) else if (D1 s.t s.h s.injective N (AB c.Kids 0) (AB l i)).2≠10 then some (zP,(D1 s.t s.h s.injective N (AB c.Kids 0) (AB l i)).2) else none) 0 l.length <;> rfl
    ·intro i i0 i1 _
     rw [AM i0 i1,bs,AM (by omega) (by omega),bs,Rw hf hv hh N _ c.Pattern _ (kid 0 (by omega) (by omega)) (hc.kid5 h5 _ (AV (by omega) (by omega))) (e2 _ (AV i0 i1)) n (by omega),bs]
     generalize D1 s.t s.h s.injective N (AB c.Kids 0) (AB l i)=x
     by_cases e0:x.2=0
     ·rw [if_pos (by simpa using e0),if_pos e0]; try rfl
     ·rw [if_neg (by simpa using e0),if_neg e0]
      by_cases e1:x.2=10
      ·rw [if_neg (by simp [e1]),if_neg (by simp [e1])]; try rfl
      ·rw [if_pos (by simp [e1]),if_pos e1]; try rfl
   ·rw [if_pos (by simp [h6]),if_pos h6]; try rfl
  rw [if_neg (by simpa using h5),if_neg h5]; try rfl
end Go.Sf.Sc
namespace Go.Sf.Sc
open Go Go.Sf
theorem OA {c:Int->Option Int} {a b:Int} {v w:Int} (hw:w≠v) (h:∀ i,c i≠some v):(fst c a b).getD w≠v:=by
 cases hr:fst c a b with
 | none=>exact hw
 | some r=>
  obtain ⟨i,_,_,k,_⟩:=DP hr
  simp only [Option.getD_some]
  exact fun e=>h i (by rw [k,e])
theorem Wo {e v:Int} (h:e≠v):nz e≠some v:=by
 unfold nz
 split
 ·simp
 ·simpa using h
theorem Jd (g:Graph):C4 g≠10:=by
 unfold C4
 split
 ·decide
 ·split
  ·decide
  ·split <;> decide
theorem VS (l:List ByteArray):I2 l≠10:=by
 unfold I2
 split
 ·decide
 ·refine OA (by decide) (fun i=>?_)
  split
  ·decide
  ·split <;> decide
theorem WW (l:List Attr) (k:Int):Kl l k≠10:=by
 have:=VS (AB l k).Names
 unfold Kl
 dsimp only
 split
 ·decide
 split
 ·decide
 split
 ·split <;> decide
 split
 ·exact this
 split <;> decide
theorem Wn (t:AD) (i:Int):IC t i≠10:=by
 unfold IC
 dsimp only
 split
 ·decide
 split
 ·decide
 split
 ·decide
 split
 ·decide
 exact OA (by decide) (fun i=>Wo (WW _ _))
theorem Wb (t:AD) (i:Int):Ir t i≠10:=by
 unfold Ir
 dsimp only
 split
 ·decide
 split
 ·decide
 split <;> decide
theorem Rr {α:Type} {e:Int} {x r:α} (h:(nz e).map (fun e=>(x,e))=some (r,(10:Int))):e=10:=by
 unfold nz at h
 split at h
 ·cases h
 ·simp only [Option.map_some,zzY,Prod.mk.injEq] at h; exact h.2
theorem Oz (t:AD):(BJ t).2≠10:=by
 unfold BJ
 split
 ·decide
 split
 ·decide
 split
 ·rename_i r hr
  obtain ⟨i,_,_,k,_⟩:=DP hr
  intro e
  obtain ⟨r1,r2⟩:=r
  simp only at e
  subst e
  exact Wn t i (Rr k)
 ·cases hr:fst (fun i=>(nz (Ir t i)).map fun e=>((AB t.Edges i).Name,e)) 0 t.Edges.length with
  | none=>decide
  | some r=>
   obtain ⟨i,_,_,k,_⟩:=DP hr
   intro e
   obtain ⟨r1,r2⟩:=r
   simp only [Option.getD_some] at e
   subst e
   exact Wb t i (Rr k)
theorem XQ (n:Int) (x:Test):Ks n x≠10:=by
 unfold Ks
 split
 ·decide
 ·split <;> decide
theorem Vb (n:Int) (l:List Test):Ia n l≠10:=by
 unfold Ia
 split
 ·decide
 split
 ·decide
 exact OA (by decide) (fun i=>Wo (XQ _ _))
theorem Pf (t:AD) (p:Pattern):I3 t p≠10:=by
 have h1:=Oz t
 have h2:=Jd p.Graph
 have h3:=Vb p.Vars p.Tests
 unfold I3
 split
 ·exact h1
 split
 ·exact h2
 split
 ·decide
 split
 ·decide
 split
 ·decide
 split
 ·decide
 split
 ·exact h3
 split <;> decide
theorem Xt (t:AD) (q:Pattern) (v:Int):Kw t q v≠10:=by
 have:=Pf t q
 unfold Kw
 split
 ·exact this
 ·split <;> decide
theorem VR (a b:Graph) (m:Morphism) (i:Int):JY a b m i≠some 10:=by
 unfold JY
 split
 ·decide
 ·split <;> decide
theorem QE (a b:Graph) (m:Morphism) (i:Int):IS a b m i≠some 10:=by
 unfold IS
 split
 ·decide
 ·split
  ·decide
  ·split <;> decide
theorem VG (t:AD) (a b:Graph) (m:Morphism) (i:Int):LI t a b m i≠some 10:=by
 unfold LI
 split
 ·decide
 ·split <;> decide
theorem UR {c:Int->Option Int} {d:Int} {a b:Int} (h:∀ i,c i≠some 10) (hd:d≠10):(match fst c a b with | some e=>e | none=>d)≠10:=by
 cases hr:fst c a b with
 | none=>exact hd
 | some r=>
  obtain ⟨i,_,_,k,_⟩:=DP hr
  exact fun e=>h i (by rw [k]; exact congrArg some e)
theorem Xy (a b:Graph) (m:Morphism):Kx a b m≠10:=by
 have h1:=Jd a
 have h2:=Jd b
 unfold Kx
 split
 ·exact h1
 split
 ·exact h2
 split
 ·decide
 exact UR (VR a b m) (OA (by decide) (QE a b m))
theorem Rv (t:AD):∀ (N:Nat) (p:Pattern) (c:AA),ER N t p c≠10
 | 0,_,_=>by rw [ER]; decide
 | N+1,p,c=>by
  have hk:∀ q,(fst (fun i=>nz (ER N t q (AB c.Kids i))) 0 c.Kids.length).getD 0≠10:=fun q=>OA (by decide) (fun i=>Wo (Rv t N q _))
  have h1:=Xt t c.Pattern p.Vars
  have h2:=Xy p.Graph c.Pattern.Graph c.Map
  rw [ER]
  split
  ·split
   ·decide
   split
   ·exact h1
   split
   ·exact h2
   split
   ·decide
   exact hk _
  ·exact hk _
theorem WZ (t:AD) (p:Pattern) (c:AA):ED t p c≠10:=by
 have h1:=Pf t p
 have h2:=Rv t (SizeOf.sizeOf c) p c
 unfold ED
 split
 ·exact h1
 split
 ·unfold IZ
  split
  ·decide
  ·split <;> decide
 ·exact h2
theorem Rd (t:AD) (h:A2):(Mn t h).2≠10:=by
 have h1:=Oz t
 have h2:=Jd h.Graph
 have hn:∀ i,KV t (AB h.Graph.Nodes i) (AB h.Values i)≠10:=by
  intro i
  unfold KV
  split
  ·decide
  split
  ·decide
  split
  ·decide
  split <;> decide
 have he:∀ i,KU t h.Graph i≠10:=by
  intro i
  unfold KU
  split
  ·decide
  split <;> decide
 unfold Mn
 split
 ·exact h1
 split
 ·exact h2
 split
 ·decide
 split
 ·rename_i r hr
  obtain ⟨i,_,_,k,_⟩:=DP hr
  intro e
  obtain ⟨r1,r2⟩:=r
  simp only at e
  subst e
  exact hn i (Rr k)
 ·cases hr:fst (fun i=>(nz (KU t h.Graph i)).map fun e=>(i,e)) 0 h.Graph.Edges.length with
  | none=>decide
  | some r=>
   obtain ⟨i,_,_,k,_⟩:=DP hr
   intro e
   obtain ⟨r1,r2⟩:=r
   simp only [Option.getD_some] at e
   subst e
   exact he i (Rr k)
theorem VP (t:AD) (p g:Graph):GX t p g≠10:=by
 have h1:=Oz t
 have h2:=Jd p
 have h3:=Jd g
 unfold GX
 split
 ·exact h1
 split
 ·exact h2
 split
 ·exact h3
 split <;> decide
theorem Sj (t:AD) (p g:Graph) (m:Morphism) (inj:Bool):MX t p g m inj≠10:=by
 have h1:=VP t p g
 have h2:Nu t p g m≠10:=by
  unfold Nu
  split
  ·decide
  exact UR (VG t p g m) (OA (by decide) (QE p g m))
 unfold MX
 split
 ·exact h1
 split
 ·exact h2
 split <;> decide
theorem Zm {ρ:Type} {v:ρ} {h:A2} {m:Morphism}:∀ (l:List D8) (st:List Int × List Bool) (r:ρ),GU (FJ v h m) l st=.inr r->r=v:=by
 intro l
 induction l with
 | nil=>intro st r h; cases h
 | cons a l ih=>
  intro st r h
  rw [GU] at h
  split at h
  ·exact ih _ _ h
  ·cases h
  ·rename_i r' h'
   cases h
   unfold FJ at h'
   split at h'
   ·cases h'
   ·cases h'; rfl
theorem XG (t:AD) (p:Pattern) (h:A2) (m:Morphism):(Mt t p h m).2≠10:=by
 have h1:=Pf t p
 have h2:=Rd t h
 have h3:=Sj t p.Graph h.Graph m false
 have h4:Mq t p h≠10:=by
  unfold Mq
  split
  ·exact h1
  ·exact h2
 unfold Mt
 split
 ·exact h4
 split
 ·exact h3
 unfold Lc
 split
 ·rename_i r hr
  rw [Zm _ _ _ hr]; decide
 ·split
  ·decide
  ·show (0:Int)≠10
   decide
noncomputable def Mf (t:AD) (p:Pattern) (c:AA) (h:A2) (m:AG) (inj:Bool):Int:=
 if ED t p c≠0 then ED t p c else if (Mn t h).2≠0 then (Mn t h).2 else if MX t p.Graph h.Graph m.Morphism inj≠0 then MX t p.Graph h.Graph m.Morphism inj else
 if (Mt t p h m.Morphism).2≠0 then (Mt t p h m.Morphism).2 else if (Mt t p h m.Morphism).1=m.Vars then 0 else 11
theorem Y9 (t:AD) (p:Pattern) (c:AA) (h:A2) (m:AG) (inj:Bool):Mf t p c h m inj≠10:=by
 have h1:=WZ t p c
 have h2:=Rd t h
 have h3:=Sj t p.Graph h.Graph m.Morphism inj
 have h4:=XG t p h m.Morphism
 unfold Mf
 split
 ·exact h1
 split
 ·exact h2
 split
 ·exact h3
 split
 ·exact h4
 split <;> decide
theorem Zd {t:AD} (hf:CA t) (p:Pattern) {c:AA} (hc:D6 c) (h:A2) (m:AG) (inj:Bool):FE t p c h m inj=some (Mf t p c h m inj):=by
 unfold FE Mf
 rw [cN hf p hc,bs]
 refine Io fun _=>?_
 rw [X8 hf,bs]
 refine Io fun _=>?_
 rw [V1 hf,bs]
 refine Io fun _=>?_
 rw [cL hf,bs]
 refine Io fun _=>?_
 rw [mC,bs]
 by_cases e:(Mt t p h m.Morphism).1=m.Vars
 ·rw [if_neg (by simp [e]),if_pos e]
 ·rw [if_pos (by simp [e]),if_neg e]
theorem aZ {t:AD} (hf:CA t) {p:Pattern} {c:AA} (hc:cnt c<=40) {h:A2} {m:AG} {inj:Bool} (e:Mf t p c h m inj=0):(BJ t).2=0∧H1 t h∧CV t p c∧N5 t p h m:=by
 unfold Mf at e
 split at e
 ·rename_i h1; exact absurd e h1
 rename_i h1
 split at e
 ·rename_i h2; exact absurd e h2
 rename_i h2
 split at e
 ·rename_i h3; exact absurd e h3
 rename_i h3
 split at e
 ·rename_i h4; exact absurd e h4
 rename_i h4
 split at e
 case isFalse=>cases e
 rename_i h5
 have h1:=Classical.not_not.1 h1
 have h2:=Classical.not_not.1 h2
 have h3:=Classical.not_not.1 h3
 have h4:=Classical.not_not.1 h4
 obtain ⟨hv,hh⟩:=Vs hf h2
 have hm:=(Xm h3).2
 unfold ED at h1
 split at h1
 ·rename_i h6; exact absurd h1 h6
 rename_i h6
 split at h1
 ·rename_i h7; exact absurd h1 h7
 rename_i h7
 have hq:=Wy hv (.inl (Classical.not_not.1 h6))
 have h7:=Classical.not_not.1 h7
 have hw:U6 c=true:=by
  unfold IZ at h7
  split at h7
  ·cases h7
  ·rename_i h8; simpa using h8
 suffices hs:(m.Vars.length:Int)=p.Vars∧MR m.Vars from ⟨hv,hh,ac hv _ c p (Nat.le_refl _) hc hw h1,hq,hm,hs.1,hs.2⟩
 have hs:∀ s∈p.Slots,JU p.Vars h m.Morphism s:=fun s hs=>OG (II hv) hq hh hm hs
 unfold Mt at h4 h5
 split at h4
 ·rename_i h8; exact absurd h4 h8
 rename_i h8
 rw [if_neg h8] at h5
 split at h4
 ·rename_i h9; exact absurd h4 h9
 rename_i h9
 rw [if_neg h9] at h5
 have:=YY hq hs h4
 rw [h5] at this
 exact this
end Go.Sf.Sc
namespace Go.Sf.Sc
open Go Go.Sf
def KF:Nat->AA->Bool
 | 0,_=>true
 | N+1,c=>if anyR (fun i=>!KF N (AB c.Kids i)) 0 c.Kids.length=true then false else decide (A8 ((c.Pattern.Graph.Nodes.length:Int)+c.Pattern.Graph.Edges.length)<=6)
theorem TK:∀ (N:Nat) (c:AA),SizeOf.sizeOf c<=N->∀ n,N<=n->GT n c=some (KF N c)
 | 0,c,h,_,_=>by have:=DA c; omega
 | N+1,c,h,n,hn=>by
  obtain ⟨n,rfl⟩:∃ k,n=k+1:=⟨n - 1,by omega⟩
  rw [GT,KF,C7 (fun i=>!KF N (AB c.Kids i)) false]
  ·cases anyR (fun i=>!KF N (AB c.Kids i)) 0 c.Kids.length <;> rfl
  ·intro i i0 i1 _
   have:=DW (AV (l:=c.Kids) i0 i1)
   rw [AM i0 i1,bs,TK N _ (by omega) n (by omega),bs,Jy]
theorem Uk (c:AA):NL c=some (KF (SizeOf.sizeOf c) c):=GY (SizeOf.sizeOf c) fun n hn=>TK _ c (Nat.le_refl _) n hn
def Ky (a:Int):Nat->Int->Int
 | 0,s=>s
 | k+1,s=>A8 (Ky a k s*a)
theorem ap {a b k s:Int} (hk:0<=k) (hk2:k<=1000) (hb:b<=1000):JB (ρ:=Bool) (fun (s0:Int × Int)=>
  if (decide (s0.2<b))=true then
  some (.next (A8 (s0.1*a),A8 (s0.2+1)))
  else
  some (.brk (s0.1,s0.2))) (s,k)=some (.inl (Ky a (max k b - k).toNat s,max k b)):=by
 refine fw (fun i=>Ky a (i - k).toNat s) (by omega) (by rw [show (k - k).toNat=0 by omega]; rfl) (fun i i0 i1=>?_) ?_
 ·rw [if_pos (by simp; omega),show (i+1 - k).toNat=(i - k).toNat+1 by omega,Ky]
  dsimp only
  rw [BN (n:=i+1) (by omega) (by omega)]
 ·rw [if_neg (by simp; omega)]
def KT (a b:Int):Nat->Pattern->AA->Bool
 | 0,_,_=>true
 | N+1,p,c=>
  let q:=if c.Kind=5 then c.Pattern else p
  if anyR (fun i=>!KT a b N q (AB c.Kids i)) 0 c.Kids.length=true then false else
  decide (Ky b (max (p.Graph.Edges.length:Int) q.Graph.Edges.length - p.Graph.Edges.length).toNat (Ky a (max (p.Graph.Nodes.length:Int) q.Graph.Nodes.length - p.Graph.Nodes.length).toNat 1)<=5000)
theorem Ui (a b:Int):∀ (N:Nat) (c:AA) (p:Pattern),SizeOf.sizeOf c<=N->D6 c->OM p->∀ n,N<=n->E3 n p c a b=some (KT a b N p c)
 | 0,c,_,h,_,_,_,_=>by have:=DA c; omega
 | N+1,c,p,h,hc,hp,n,hn=>by
  obtain ⟨n,rfl⟩:∃ k,n=k+1:=⟨n - 1,by omega⟩
  have q1:=hc.q.nodes
  have q2:=hc.q.edges
  have p1:=hp.nodes
  have p2:=hp.edges
  have main:∀ q:Pattern,OM q->(thenR (JB (ρ:=Bool) (fun (s0:Int × Int)=>
    if (decide (s0.2<(q.Graph.Nodes.length:Int)))=true then
    some (.next (A8 (s0.1*a),A8 (s0.2+1)))
    else
    some (.brk (s0.1,s0.2))) (1,(p.Graph.Nodes.length:Int))) (fun s0=>
    thenR (JB (ρ:=Bool) (fun (s2:Int × Int)=>
    if (decide (s2.2<(q.Graph.Edges.length:Int)))=true then
    some (.next (A8 (s2.1*b),A8 (s2.2+1)))
    else
    some (.brk (s2.1,s2.2))) (s0.1,(p.Graph.Edges.length:Int))) (fun s2=>
    thenR (forR (ρ:=Bool) (fun (i4:Int) (_:Unit)=>
    (AL c.Kids i4).bind fun x61=>
    (E3 n q x61 a b).bind fun x65=>
    if (!x65)=true then
    some (.ret false)
    else
    some (.next ())) 0 (c.Kids.length:Int) ()) (fun _=>
    some (decide (s2.1<=5000))) (fun v4=>some v4)) (fun v2=>some v2)) (fun v0=>some v0)) =
    some (if anyR (fun i=>!KT a b N q (AB c.Kids i)) 0 c.Kids.length=true then false else
     decide (Ky b (max (p.Graph.Edges.length:Int) q.Graph.Edges.length - p.Graph.Edges.length).toNat (Ky a (max (p.Graph.Nodes.length:Int) q.Graph.Nodes.length - p.Graph.Nodes.length).toNat 1)<=5000)):=by
   intro q hq
   have k1:=hq.nodes
   have k2:=hq.edges
   rw [ap (by omega) (by omega) (by omega),EY]
   dsimp only
   rw [ap (by omega) (by omega) (by omega),EY,C7 (fun i=>!KT a b N q (AB c.Kids i)) false]
   ·cases anyR (fun i=>!KT a b N q (AB c.Kids i)) 0 c.Kids.length <;> rfl
   ·intro i i0 i1 _
    have:=DW (AV (l:=c.Kids) i0 i1)
    rw [AM i0 i1,bs,Ui a b N _ q (by omega) (hc.k _ (AV i0 i1)) hq n (by omega),bs,Jy]
  rw [E3,KT]
  by_cases h5:c.Kind=5
  ·rw [if_pos (by simpa using h5),if_pos h5,bs,main _ hc.q]
  ·rw [if_neg (by simpa using h5),if_neg h5,bs,main _ hp]
theorem TI (a b:Int) {c:AA} {p:Pattern} (hc:D6 c) (hp:OM p):Md p c a b=some (KT a b (SizeOf.sizeOf c) p c):=GY (SizeOf.sizeOf c) fun n hn=>Ui a b _ c p (Nat.le_refl _) hc hp n hn
theorem UA (h:A2):∃ b,K8 h=some b:=by
 unfold K8 JA
 rw [bs]
 split
 ·exact ⟨_,rfl⟩
 ·rw [C7 (fun i=>decide (12<((AB h.Values i).length:Int))) false]
  ·cases anyR (fun i=>decide (12<((AB h.Values i).length:Int))) 0 h.Values.length
   ·exact ⟨true,rfl⟩
   ·exact ⟨false,rfl⟩
  ·intro i i0 i1 _
   rw [AM i0 i1,bs,Jy]
theorem TJ {t:AD} (hf:CA t) (st:(At t).Sm) (p g:Graph):∃ b,Ke t p g=some b:=by
 obtain ⟨b,e,_⟩:=St st
 unfold Ke JA
 rw [e,bs,Zh hf]
 simp only [bs]
 cases b <;> simp only [Bool.false_eq_true,if_false,if_true,bs]
 ·exact ⟨_,rfl⟩
 ·split <;> (rw [bs]; split <;> exact ⟨_,rfl⟩)
theorem YH {t:AD} (hf:CA t) (st:(At t).Sm) (p:Pattern) {c:AA} (sc:(AF c).Sm) (h:A2):∃ b,FP t p c h=some b∧(b=true->D6 c∧cnt c<=40∧OM p):=by
 obtain ⟨b1,e1,f1⟩:=Sr sc
 obtain ⟨b2,e2,f2⟩:=SM p
 obtain ⟨b3,e3⟩:=UA h
 unfold FP
 rw [e1,bs]
 cases b1
 ·exact ⟨false,rfl,fun h=>by cases h⟩
 rw [e2]
 cases b2
 ·exact ⟨false,rfl,fun h=>by cases h⟩
 rw [e3]
 cases b3
 ·exact ⟨false,rfl,fun h=>by cases h⟩
 have hc:=f1 rfl
 have hp:=f2 rfl
 simp only [bs,Bool.not_true,Bool.false_eq_true,if_false]
 rw [YG hf p hc.1,bs]
 have hall:∀ o:Option Bool,(∃ b,o=some b)->∃ b,o=some b∧(b=true->D6 c∧cnt c<=40∧OM p):=fun o ⟨b,e⟩=>⟨b,e,fun _=>⟨hc.1,hc.2,hp⟩⟩
 refine hall _ ?_
 split
 ·exact ⟨true,rfl⟩
 ·obtain ⟨b4,e4⟩:=TJ hf st p.Graph h.Graph
  unfold Kg
  rw [e2,e3,e4,Uk,TI 14 18 hc.1 hp]
  simp only [bs,if_true]
  cases b4 <;> simp only [Bool.false_eq_true,if_false,if_true,bs,Bool.false_and]
  ·exact ⟨_,rfl⟩
  ·split
   ·exact ⟨_,rfl⟩
   ·exact ⟨_,rfl⟩
noncomputable def wS (t:AD) (p:Pattern) (c:AA) (h:A2) (m:AG) (inj:Bool):BP × Int:=
 if Mf t p c h m inj≠0 then (zP,Mf t p c h m inj) else D1 t h inj (SizeOf.sizeOf c) c m
theorem YE {t:AD} (hf:CA t) (p:Pattern) {c:AA} (hc:D6 c) (hk:cnt c<=40) (h:A2) (m:AG) (inj:Bool):EG t p c h m inj=some (wS t p c h m inj):=by
 unfold EG wS
 rw [Zd hf p hc,bs]
 refine OS fun h0=>?_
 obtain ⟨hv,hh,hcv,ha⟩:=aZ hf hk h0
 rw [show EI (A3.mk t h inj) c m=some (D1 t h inj (SizeOf.sizeOf c) c m) from GY (2*SizeOf.sizeOf c) fun n hn=>Rw (s:=⟨t,h,inj⟩) hf hv hh _ c p m (Nat.le_refl _) hcv ha n hn]
 rfl
noncomputable def J7 (t:AD) (p:Pattern) (c:AA) (h:A2) (m:AG) (inj:Bool):Bool × Int:=
 if (wS t p c h m inj).2=10 then (false,0) else (decide ((wS t p c h m inj).2=0),(wS t p c h m inj).2)
theorem N2 {t:AD} (hf:CA t) (p:Pattern) {c:AA} (hc:D6 c) (hk:cnt c<=40) (h:A2) (m:AG) (inj:Bool):CM t p c h m inj=some (J7 t p c h m inj):=by
 unfold CM J7
 rw [YE hf p hc hk,bs]
 by_cases e:(wS t p c h m inj).2=10
 ·rw [if_pos (by simpa using e),if_pos e]
 ·rw [if_neg (by simpa using e),if_neg e]
end Go.Sf.Sc
namespace Go.Sf.Sc
open Go Go.Sf
end Go.Sf.Sc
namespace Go.Sf.Sc
open Go Go.Sf
end Go.Sf.Sc
namespace Go.Sf.Sc
open Go Go.Sf
def E7:List Int->Nat
 | []=>0
 | x::l=>(if x<0 then 1 else 0)+E7 l
theorem OY {α β:Type} {F:α->List β} {B:Nat}:∀ {l:List α},(∀ k∈l,(F k).length<=B)->(l.flatMap F).length<=l.length*B
 | [],_=>by simp
 | a::l,h=>by
  have:=OY (F:=F) (l:=l) fun k hk=>h k (by simp [hk])
  have:=h a (by simp)
  rw [List.flatMap_cons,List.length_append,List.length_cons,Nat.succ_mul]
  omega
theorem RW {α β:Type} {F:α->List β}:∀ {l:List α},(∀ k∈l,F k=[])->l.flatMap F=[]
 | [],_=>rfl
 | a::l,h=>by rw [List.flatMap_cons,h a (by simp),RW fun k hk=>h k (by simp [hk])]; rfl
theorem PS {α β:Type} {F:α->List β} {B:Nat} {a:α}:∀ {l:List α},l.Nodup->(∀ k∈l,k≠a->F k=[])->(F a).length<=B->(l.flatMap F).length<=B
 | [],_,_,_=>by simp
 | b::l,hn,h,hB=>by
  rw [List.nodup_cons] at hn
  rw [List.flatMap_cons,List.length_append]
  by_cases e:b=a
  ·subst e
   rw [RW fun k hk=>h k (by simp [hk]) fun e=>hn.1 (e ▸ hk)]
   simpa using hB
  ·rw [h b (by simp) e]
   have:=PS hn.2 (fun k hk=>h k (by simp [hk])) hB
   simpa using this
theorem R9 (n:Nat):(B2 n).Nodup:=by
 induction n with
 | zero=>simp [B2]
 | succ n ih=>
  rw [LB,List.nodup_append]
  refine ⟨ih,by simp,fun a ha b hb e=>?_⟩
  rw [List.mem_singleton] at hb
  have:=G2.1 ha
  omega
theorem T6 {l:List Int} {k:Nat} (h:k<l.length):l.drop k=AB l k::l.drop (k+1):=by
 rw [List.drop_eq_getElem_cons h]
 congr 1
 unfold AB
 rw [List.getD_eq_getElem?_getD,List.getElem?_eq_getElem (by omega)]; rfl
theorem eA:∀ (n:Nat) (f:AK),f.edges.length+n=f.partial_.Edges.length->(GZ n f).length<=f.g.Edges.length ^ E7 (f.partial_.Edges.drop f.edges.length)
 | 0,f,h=>by
  rw [List.drop_of_length_le (by omega)]
  simp [GZ,E7]
 | n+1,f,h=>by
  have hd:=T6 (l:=f.partial_.Edges) (k:=f.edges.length) (by omega)
  have ih:∀ k,(if Pe f k=true then GZ n { f with edges:=f.edges++[k] } else []).length<=f.g.Edges.length ^ E7 (f.partial_.Edges.drop (f.edges.length+1)):=by
   intro k
   split
   ·have:=eA n { f with edges:=f.edges++[k] } (by show (f.edges++[k]).length+n=f.partial_.Edges.length; rw [List.length_append,List.length_singleton]; omega)
    have e:(f.edges++[k]).length=f.edges.length+1:=by rw [List.length_append,List.length_singleton]
    dsimp only at this
    rwa [e] at this
   ·simp
  rw [GZ,hd,E7]
  by_cases h0:AB f.partial_.Edges (f.edges.length:Int)<0
  ·rw [if_pos h0,Nat.pow_add,Nat.pow_one]
   have:=OY (l:=B2 f.g.Edges.length) (B:=f.g.Edges.length ^ E7 (f.partial_.Edges.drop (f.edges.length+1))) (fun k _=>ih k)
   rwa [D0] at this
  ·rw [if_neg h0,Nat.zero_add]
   refine PS (a:=AB f.partial_.Edges (f.edges.length:Int)) (R9 _) (fun k _ hk=>?_) (ih _)
   rw [if_neg]
   intro hok
   unfold Pe at hok
   rw [zzZ,Qm,zzZ,Bool.or_eq_true,zzX,zzX] at hok
   rcases hok.1.1 with h | h
   ·exact h0 h
   ·exact hk h.symm
theorem eC:∀ (n:Nat) (f:AK),f.edges=[]->f.p.Edges.length=f.partial_.Edges.length->f.nodes.length+n=f.partial_.Nodes.length->(LD n f).length<=f.g.Nodes.length ^ E7 (f.partial_.Nodes.drop f.nodes.length)*f.g.Edges.length ^ E7 f.partial_.Edges
 | 0,f,he,hp,h=>by
  rw [List.drop_of_length_le (by omega)]
  have:=eA f.p.Edges.length f (by rw [he,hp]; simp)
  rw [he] at this
  simpa [LD,E7] using this
 | n+1,f,he,hp,h=>by
  have hd:=T6 (l:=f.partial_.Nodes) (k:=f.nodes.length) (by omega)
  have ih:∀ k,(if QG f k=true then LD n { f with nodes:=f.nodes++[k] } else []).length<=f.g.Nodes.length ^ E7 (f.partial_.Nodes.drop (f.nodes.length+1))*f.g.Edges.length ^ E7 f.partial_.Edges:=by
   intro k
   split
   ·have:=eC n { f with nodes:=f.nodes++[k] } he hp (by show (f.nodes++[k]).length+n=f.partial_.Nodes.length; rw [List.length_append,List.length_singleton]; omega)
    have e:(f.nodes++[k]).length=f.nodes.length+1:=by rw [List.length_append,List.length_singleton]
    dsimp only at this
    rwa [e] at this
   ·simp
  rw [LD,hd,E7]
  by_cases h0:AB f.partial_.Nodes (f.nodes.length:Int)<0
  ·rw [if_pos h0,Nat.pow_add,Nat.pow_one,Nat.mul_assoc]
   have:=OY (l:=B2 f.g.Nodes.length) (B:=f.g.Nodes.length ^ E7 (f.partial_.Nodes.drop (f.nodes.length+1))*f.g.Edges.length ^ E7 f.partial_.Edges) (fun k _=>ih k)
   rwa [D0] at this
  ·rw [if_neg h0,Nat.zero_add]
   refine PS (a:=AB f.partial_.Nodes (f.nodes.length:Int)) (R9 _) (fun k _ hk=>?_) (ih _)
   rw [if_neg]
   intro hok
   unfold QG at hok
   rw [zzZ,zzZ,Bool.or_eq_true,zzX,zzX] at hok
   rcases hok.1.1 with h | h
   ·exact h0 h
   ·exact hk h.symm
theorem VO {t:AD} {p g:Graph} {pa:Morphism} {inj:Bool} (h1:pa.Nodes.length=p.Nodes.length) (h2:pa.Edges.length=p.Edges.length):(ML t p g pa inj).length<=g.Nodes.length ^ E7 pa.Nodes*g.Edges.length ^ E7 pa.Edges:=by
 have:=eC p.Nodes.length (FF t p g pa inj) rfl h2.symm (by show 0+p.Nodes.length=pa.Nodes.length; omega)
 unfold ML
 rw [List.length_take]
 exact Nat.le_trans (Nat.min_le_right _ _) this
theorem US:∀ (l:List Int) (k:Nat) (v:Int),k<l.length->l.getD k default<0->0<=v->E7 (l.set k v)+1=E7 l
 | [],k,v,h,_,_=>by simp at h
 | x::l,0,v,_,h1,h2=>by
  simp at h1
  rw [List.set_cons_zero,E7,E7,if_neg (by omega),if_pos h1]; omega
 | x::l,k+1,v,h0,h1,h2=>by
  have:=US l k v (by simpa using h0) (by simpa using h1) h2
  rw [List.set_cons_succ,E7,E7]
  omega
theorem ZW (n:Nat):E7 (List.replicate n (-1))=n:=by
 induction n with
 | zero=>rfl
 | succ n ih=>rw [List.replicate_succ,E7,ih]; simp; omega
theorem bZ {α:Type} [Inhabited α] {l:List α} {i j:Int} (v:α) (h0:0<=i) (h1:0<=j) (h:j≠i):AB (CB l i v) j=AB l j:=by
 unfold AB CB
 rw [List.getD_eq_getElem?_getD,List.getD_eq_getElem?_getD,List.getElem?_set]
 rw [if_neg (by omega)]
theorem TC {by' images:List Int}:∀ (ks l:List Int),(ks.map (AB by')).Nodup->(∀ k∈ks,(0<=AB by' k∧AB by' k<l.length)∧AB l (AB by' k)<0∧0<=AB images k)->E7 (ks.foldl (fun l i=>CB l (AB by' i) (AB images i)) l)+ks.length=E7 l
 | [],l,_,_=>by simp
 | k::ks,l,hn,h=>by
  obtain ⟨h1,h2,h3⟩:=h k (by simp)
  rw [List.map_cons,List.nodup_cons] at hn
  have e:=US l (AB by' k).toNat (AB images k) (by omega) h2 h3
  have ih:=TC (by':=by') (images:=images) ks (CB l (AB by' k) (AB images k)) hn.2 (fun j hj=>by
   obtain ⟨j1,j2,j3⟩:=h j (by simp [hj])
   refine ⟨by rw [NN]; exact j1,?_,j3⟩
   rw [bZ _ h1.1 j1.1]
   ·exact j2
   ·intro e
    exact hn.1 (List.mem_map.2 ⟨j,hj,e⟩))
  rw [List.foldl_cons,List.length_cons]
  have e2:E7 (CB l (AB by' k) (AB images k))+1=E7 l:=e
  omega
theorem U5 (l:List Int):(B2 l.length).map (AB l)=l:=by
 refine Xh (by rw [List.length_map,D0]) (fun i i0 i1=>?_)
 rw [List.length_map,D0] at i1
 exact M1 _ i0 i1
theorem Rm {n:Nat} {by' images:List Int} (hn:by'.Nodup) (hb:∀ x∈by',0<=x∧x<n) (hi:∀ k:Int,0<=k->k<by'.length->0<=AB images k):E7 (IV n by' images)+by'.length=n:=by
 have:=TC (by':=by') (images:=images) (B2 by'.length) (List.replicate n (-1)) (by rw [U5]; exact hn) (fun k hk=>by
  have hk:=G2.1 hk
  have hx:=hb _ (AV hk.1 hk.2)
  refine ⟨by simpa using hx,?_,hi k hk.1 hk.2⟩
  have:AB (List.replicate n (-1:Int)) (AB by' k)∈List.replicate n (-1:Int):=AV hx.1 (by simpa using hx.2)
  rw [List.mem_replicate] at this
  omega)
 rw [ZW,D0] at this
 exact this
def aS (p:Pattern) (c:AA):Prop:=14 ^ (c.Pattern.Graph.Nodes.length - p.Graph.Nodes.length)*18 ^ (c.Pattern.Graph.Edges.length - p.Graph.Edges.length)<=5000
theorem PP {t:AD} {h:A2} {inj:Bool} {p:Pattern} {c:AA} {m:AG} (hv:(BJ t).2=0) (hh:H1 t h) (ha:N5 t p h m) (hi:Ve t p c) (hb:aS p c) (n1:h.Graph.Nodes.length<=14) (n2:h.Graph.Edges.length<=18):(DU t c h m inj).2=0:=by
 have inj':=hi.inj
 unfold NE at inj'
 rw [zzZ,OT,OT] at inj'
 have m1:=hi.map.nlen
 have m2:=hi.map.elen
 have m3:=ha.m.nlen
 have m4:=ha.m.elen
 have c1:=Rm (n:=c.Pattern.Graph.Nodes.length) (images:=m.Morphism.Nodes) inj'.1 (fun x hx=>by obtain ⟨i,i0,i1,rfl⟩:=EX hx; exact (hi.map.node i i0 i1).1) (fun k k0 k1=>(ha.m.node k k0 (by omega)).1.1)
 have c2:=Rm (n:=c.Pattern.Graph.Edges.length) (images:=m.Morphism.Edges) inj'.2 (fun x hx=>by obtain ⟨i,i0,i1,rfl⟩:=EX hx; exact (hi.map.edge i i0 i1).1) (fun k k0 k1=>(ha.m.edge k k0 (by omega)).1)
 have hE:∀ pa:Morphism,pa.Nodes.length=c.Pattern.Graph.Nodes.length->pa.Edges.length=c.Pattern.Graph.Edges.length->(∀ x∈pa.Nodes,-1<=x∧x<h.Graph.Nodes.length)->(∀ x∈pa.Edges,-1<=x∧x<h.Graph.Edges.length)->E7 pa.Nodes=c.Pattern.Graph.Nodes.length - p.Graph.Nodes.length->E7 pa.Edges=c.Pattern.Graph.Edges.length - p.Graph.Edges.length->(OW t c.Pattern.Graph h.Graph pa inj).2=0:=by
  intro pa l1 l2 r1 r2 g1 g2
  unfold OW
  rw [if_neg,if_neg (by omega),if_neg,if_neg,if_neg]
  ·have:=VO (t:=t) (g:=h.Graph) (inj:=inj) l1 l2
   rw [g1,g2] at this
   have k1:h.Graph.Nodes.length ^ (c.Pattern.Graph.Nodes.length - p.Graph.Nodes.length)<=14 ^ (c.Pattern.Graph.Nodes.length - p.Graph.Nodes.length):=Nat.pow_le_pow_left n1 _
   have k2:h.Graph.Edges.length ^ (c.Pattern.Graph.Edges.length - p.Graph.Edges.length)<=18 ^ (c.Pattern.Graph.Edges.length - p.Graph.Edges.length):=Nat.pow_le_pow_left n2 _
   have k3:=Nat.mul_le_mul k1 k2
   unfold aS at hb
   omega
  ·unfold Np
   rw [if_neg]
   ·simp
   ·rw [List.any_eq_true]
    rintro ⟨x,hx,e⟩
    have:=r2 x hx
    unfold SE at e
    rw [Bool.or_eq_true,zzX,zzX] at e
    omega
  ·unfold Np
   rw [if_neg]
   ·simp
   ·rw [List.any_eq_true]
    rintro ⟨x,hx,e⟩
    have:=r1 x hx
    unfold SE at e
    rw [Bool.or_eq_true,zzX,zzX] at e
    omega
  ·unfold GX
   rw [if_neg (by simp [hv]),if_neg (by simp [hi.q.ge]),if_neg (by simp [hh.ge]),if_pos (by rw [hi.q.ty,hh.ty]; rfl)]
   simp
 have hp:=hE ⟨IV c.Pattern.Graph.Nodes.length c.Map.Nodes m.Morphism.Nodes,IV c.Pattern.Graph.Edges.length c.Map.Edges m.Morphism.Edges⟩ (Ry _ _ _) (Ry _ _ _) (fun x hx=>by
  rcases Rz hx with e | ⟨k,hk,e⟩
  ·omega
  ·have:=(ha.m.node k hk.1 (by omega)).1; omega) (fun x hx=>by
  rcases Rz hx with e | ⟨k,hk,e⟩
  ·omega
  ·have:=ha.m.edge k hk.1 (by omega); omega) (by show E7 (IV _ _ _)=_; omega) (by show E7 (IV _ _ _)=_; omega)
 unfold DU
 dsimp only
 rw [if_neg (by rw [hp]; simp)]
end Go.Sf.Sc
namespace Go.Sf.Sc
open Go Go.Sf
def Od (t:AD) (p:Pattern) (c:AA):Int:=
 if c.Pattern.Vars<p.Vars then 20 else if Kw t c.Pattern p.Vars≠0 then Kw t c.Pattern p.Vars else
 if Kx p.Graph c.Pattern.Graph c.Map≠0 then Kx p.Graph c.Pattern.Graph c.Map else if NE c.Map=false then 1 else 0
inductive CG (t:AD):Pattern->AA->Prop where
 | mk (p:Pattern) (c:AA) (ex:c.Kind=5->Od t p c=0∧aS p c) (kids:∀ k∈c.Kids,CG t (if c.Kind=5 then c.Pattern else p) k):CG t p c
theorem CG.ex {t:AD} {p:Pattern} {c:AA} (h:CG t p c):c.Kind=5->Od t p c=0∧aS p c:=by cases h; assumption
theorem CG.kids {t:AD} {p:Pattern} {c:AA} (h:CG t p c):∀ k∈c.Kids,CG t (if c.Kind=5 then c.Pattern else p) k:=by cases h; assumption
theorem CG.kid {t:AD} {p:Pattern} {c:AA} (h:CG t p c) (h5:¬ c.Kind=5):∀ k∈c.Kids,CG t p k:=fun k hk=>by have:=h.kids k hk; rwa [if_neg h5] at this
theorem CG.kid5 {t:AD} {p:Pattern} {c:AA} (h:CG t p c) (h5:c.Kind=5):∀ k∈c.Kids,CG t c.Pattern k:=fun k hk=>by have:=h.kids k hk; rwa [if_pos h5] at this
theorem P0 (t:AD) (p:Pattern) (c:AA) (N:Nat):ER (N+1) t p c=if c.Kind=5∧Od t p c≠0 then Od t p c else (fst (fun i=>nz (ER N t (if c.Kind=5 then c.Pattern else p) (AB c.Kids i))) 0 c.Kids.length).getD 0:=by
 rw [ER]
 by_cases h5:c.Kind=5
 ·rw [if_pos h5,if_pos h5]
  unfold Od
  by_cases h1:c.Pattern.Vars<p.Vars
  ·rw [if_pos h1,if_pos h1,if_pos ⟨h5,by decide⟩]
  rw [if_neg h1,if_neg h1]
  by_cases h2:Kw t c.Pattern p.Vars≠0
  ·rw [if_pos h2,if_pos h2,if_pos ⟨h5,h2⟩]
  rw [if_neg h2,if_neg h2]
  by_cases h3:Kx p.Graph c.Pattern.Graph c.Map≠0
  ·rw [if_pos h3,if_pos h3,if_pos ⟨h5,h3⟩]
  rw [if_neg h3,if_neg h3]
  by_cases h4:NE c.Map=false
  ·rw [if_pos h4,if_pos h4,if_pos ⟨h5,by decide⟩]
  rw [if_neg h4,if_neg h4,if_neg (by simp)]
 ·rw [if_neg h5,if_neg h5,if_neg (by simp [h5])]
theorem SO {a:Nat} (ha:a<=18) (h1:1<=a) {s:Nat}:∀ k:Nat,(∀ j,j<=k->a ^ j*s<=18 ^ 6)->Ky a k s=((a ^ k*s:Nat):Int)
 | 0,_=>by simp [Ky]
 | k+1,h=>by
  have e:=SO ha h1 (s:=s) k fun j hj=>h j (by omega)
  have b:=h (k+1) (Nat.le_refl _)
  rw [Ky,e]
  have e2:((a ^ k*s:Nat):Int)*(a:Int)=((a ^ (k+1)*s:Nat):Int):=by
   rw [Nat.pow_succ]; push_cast; rw [Int.mul_right_comm]
  rw [e2,BN (by omega) (by
   have:((18:Nat) ^ 6)=34012224:=by decide
   omega)]
theorem dw {p q:Pattern} (h:Ky 18 (max (p.Graph.Edges.length:Int) q.Graph.Edges.length - p.Graph.Edges.length).toNat (Ky 14 (max (p.Graph.Nodes.length:Int) q.Graph.Nodes.length - p.Graph.Nodes.length).toNat 1)<=5000) (hs:q.Graph.Nodes.length+q.Graph.Edges.length<=6) :
  14 ^ (q.Graph.Nodes.length - p.Graph.Nodes.length)*18 ^ (q.Graph.Edges.length - p.Graph.Edges.length)<=5000:=by
 have e1:(max (p.Graph.Edges.length:Int) q.Graph.Edges.length - p.Graph.Edges.length).toNat=q.Graph.Edges.length - p.Graph.Edges.length:=by omega
 have e2:(max (p.Graph.Nodes.length:Int) q.Graph.Nodes.length - p.Graph.Nodes.length).toNat=q.Graph.Nodes.length - p.Graph.Nodes.length:=by omega
 rw [e1,e2] at h
 generalize hj:q.Graph.Edges.length - p.Graph.Edges.length=j at *
 generalize hk:q.Graph.Nodes.length - p.Graph.Nodes.length=k at *
 have hjk:k+j<=6:=by omega
 have b1:∀ i,i<=k->14 ^ i*1<=18 ^ 6:=fun i hi=>by
  rw [Nat.mul_one]
  exact Nat.le_trans (Nat.pow_le_pow_left (by omega) i) (Nat.pow_le_pow_right (by omega) (by omega))
 have b2:∀ i,i<=j->18 ^ i*(14 ^ k*1)<=18 ^ 6:=fun i hi=>by
  rw [Nat.mul_one]
  refine Nat.le_trans (Nat.mul_le_mul_left _ (Nat.pow_le_pow_left (by omega:14<=18) k)) ?_
  rw [←Nat.pow_add]
  exact Nat.pow_le_pow_right (by omega) (by omega)
 have m1:=SO (a:=14) (by omega) (by omega) (s:=1) k b1
 have m2:=SO (a:=18) (by omega) (by omega) (s:=14 ^ k*1) j b2
 have m1':Ky 14 k 1=((14 ^ k*1:Nat):Int):=m1
 have m2':Ky 18 j ((14 ^ k*1:Nat):Int)=((18 ^ j*(14 ^ k*1):Nat):Int):=m2
 rw [m1',m2',Nat.mul_one,Nat.mul_comm] at h
 omega
theorem aY {t:AD}:∀ (N:Nat) {p:Pattern} {c:AA},SizeOf.sizeOf c<=N->(∀ M,M=N->ER M t p c=0)->KT 14 18 N p c=true->KF N c=true->D6 c->CG t p c
 | 0,_,c,h,_,_,_,_=>by have:=DA c; omega
 | N+1,p,c,h,ho,hb,hn,hf=>by
  have ho:=ho _ rfl
  rw [P0] at ho
  rw [KT] at hb
  rw [KF] at hn
  generalize hq:(if c.Kind=5 then c.Pattern else p)=q at hb
  try dsimp only at hb
  split at hb
  ·cases hb
  rename_i hb1
  split at hn
  ·cases hn
  rename_i hn1
  rw [zzX] at hb hn
  rw [Bool.not_eq_true,EJ] at hb1 hn1
  have q1:=hf.q.nodes
  have q2:=hf.q.edges
  rw [BN (by omega) (by omega)] at hn
  have hkid:(fst (fun i=>nz (ER N t (if c.Kind=5 then c.Pattern else p) (AB c.Kids i))) 0 c.Kids.length).getD 0=0:=by
   by_cases hx:c.Kind=5∧Od t p c≠0
   ·rw [if_pos hx] at ho; exact absurd ho hx.2
   ·rwa [if_neg hx] at ho
  refine .mk p c (fun h5=>⟨?_,?_⟩) (fun k hk=>?_)
  ·by_cases hx:Od t p c≠0
   ·rw [if_pos ⟨h5,hx⟩] at ho; exact ho
   ·exact Classical.not_not.1 hx
  ·rw [if_pos h5] at hq
   subst hq
   exact dw hb (by omega)
  ·have hs:=DW hk
   obtain ⟨i,i0,i1,rfl⟩:=EX hk
   refine aY N (by omega) (fun M hM=>by subst hM; exact Ra hkid i i0 i1) ?_ ?_ (hf.k _ hk)
   ·have:=hb1 i i0 i1
    rw [hq]
    simpa using this
   ·have:=hn1 i i0 i1
    simpa using this
mutual
def HH (t:AD) (h:A2) (inj:Bool):AA->AG->Bool
 | ⟨k,kids,mp,p⟩,m=>
  if k=2 then !((QS t h inj kids).headD fun _=>true) m else
  if k=3 then (QS t h inj kids).all fun f=>f m else
  if k=4 then (QS t h inj kids).any fun f=>f m else
  if k=5 then (DU t ⟨k,kids,mp,p⟩ h m inj).1.any ((QS t h inj kids).headD fun _=>true) else true
def QS (t:AD) (h:A2) (inj:Bool):List AA->List (AG->Bool)
 | []=>[]
 | c::l=>HH t h inj c::QS t h inj l
end
theorem T3 (t:AD) (h:A2) (inj:Bool):∀ l,QS t h inj l=l.map (HH t h inj)
 | []=>rfl
 | c::l=>by rw [QS,T3 t h inj l]; rfl
theorem T4 (t:AD) (h:A2) (inj:Bool) (c:AA) (m:AG):HH t h inj c m =
  if c.Kind=2 then !((c.Kids.map (HH t h inj)).headD fun _=>true) m else
  if c.Kind=3 then c.Kids.all fun k=>HH t h inj k m else
  if c.Kind=4 then c.Kids.any fun k=>HH t h inj k m else
  if c.Kind=5 then (DU t c h m inj).1.any ((c.Kids.map (HH t h inj)).headD fun _=>true) else true:=by
 cases c
 rw [HH,T3,List.all_map,List.any_map]
 rfl
theorem Oc {α:Type} [Inhabited α] {β:Type} {l:List α} {f:α->β} {d:β} (h:l.length=1):(l.map f).headD d=f (AB l 0):=by
 obtain ⟨x,rfl⟩:=List.length_eq_one_iff.1 h
 rfl
theorem Vr {w:Int->BP × Int} {d:Int->Bool} {F:Int->Option (BP × Int)} {n:Int} (hw:∀ i,0<=i->i<n->(w i).2=if d i=true then 0 else 10)
  (hF:∀ i,0<=i->i<n->((F i).map (·.2))=if (w i).2=0 then some 0 else if (w i).2≠10 then some (w i).2 else none):((fst F 0 n).getD (zP,10)).2=if anyR d 0 n=true then 0 else 10:=by
 cases hr:fst F 0 n with
 | none=>
  have h0:=DF.1 hr
  rw [if_neg]
  ·rfl
  ·rw [Bool.not_eq_true,EJ]
   intro i i0 i1
   have h1:=hF i i0 i1
   rw [h0 i i0 i1,hw i i0 i1] at h1
   cases hd:d i
   ·rfl
   ·rw [hd] at h1; simp at h1
 | some r=>
  obtain ⟨i,i0,i1,k,_⟩:=DP hr
  have h1:=hF i i0 i1
  rw [k,hw i i0 i1] at h1
  cases hd:d i
  ·rw [hd] at h1; simp at h1
  ·rw [hd] at h1
   rw [if_pos (by rw [JF]; exact ⟨i,i0,i1,hd⟩)]
   simpa using h1
theorem Tt {w:AA->BP × Int} {d:AA->Bool}:∀ (l:List AA) (s:BP × BP),(∀ k∈l,(w k).2=if d k=true then 0 else 10)->(match GU (QL w) l s with | .inl s=>(s.2,(0:Int)) | .inr r=>r).2=if l.all d=true then 0 else 10
 | [],s,_=>rfl
 | k::l,s,h=>by
  have hk:=h k (by simp)
  rw [GU]
  unfold QL
  rw [List.all_cons]
  cases hd:d k
  ·rw [hd] at hk
   rw [if_pos (by rw [hk]; decide)]
   simpa using hk
  ·rw [hd] at hk
   rw [if_neg (by rw [hk]; decide),Bool.true_and]
   exact Tt l _ fun k hk=>h k (by simp [hk])
theorem WN {t:AD} {h:A2} {inj:Bool} (hv:(BJ t).2=0) (hh:H1 t h) (n1:h.Graph.Nodes.length<=14) (n2:h.Graph.Edges.length<=18):∀ (N:Nat) (c:AA) (p:Pattern) (m:AG),SizeOf.sizeOf c<=N->CV t p c->CG t p c->N5 t p h m->(D1 t h inj N c m).2=if HH t h inj c m=true then 0 else 10
 | 0,c,_,_,h,_,_,_=>by have:=DA c; omega
 | N+1,c,p,m,hs,hc,hg,ha=>by
  have kid:∀ k∈c.Kids,SizeOf.sizeOf k<=N:=fun k hk=>by have:=DW hk; omega
  have ih:=WN hv hh n1 n2 (inj:=inj) N
  rw [D1,T4]
  by_cases h2:c.Kind=2
  ·have h1:=hc.one (.inl h2)
   rw [if_pos h2,if_pos h2,Oc h1]
   have hk:=AV (l:=c.Kids) (i:=0) (by omega) (by omega)
   have e:=ih _ p m (kid _ hk) (hc.kid (by omega) _ hk) (hg.kid (by omega) _ hk) ha
   cases hd:HH t h inj (AB c.Kids 0) m
   ·rw [hd] at e
    rw [if_neg (by rw [e]; decide),if_pos (by rw [e]; rfl)]; rfl
   ·rw [hd] at e
    rw [if_pos (by rw [e]; rfl)]; rfl
  rw [if_neg h2,if_neg h2]
  by_cases h3:c.Kind=3
  ·rw [if_pos h3,if_pos h3]
   exact Tt c.Kids (zP,zP) fun k hk=>ih k p m (kid k hk) (hc.kid (by omega) k hk) (hg.kid (by omega) k hk) ha
  rw [if_neg h3,if_neg h3]
  by_cases h4:c.Kind=4
  ·rw [if_pos h4,if_pos h4,JW]
   refine Vr (w:=fun i=>D1 t h inj N (AB c.Kids i) m) (fun i i0 i1=>?_) (fun i i0 i1=>?_)
   ·have hk:=AV i0 i1
    exact ih _ p m (kid _ hk) (hc.kid (by omega) _ hk) (hg.kid (by omega) _ hk) ha
   ·try dsimp only
    split
    ·rfl
    ·split <;> rfl
  rw [if_neg h4,if_neg h4]
  by_cases h5:c.Kind=5
  ·rw [if_pos h5,if_pos h5]
   have hi:=hc.ins h5
   have h1:=hc.one (.inr h5)
   have e0:=PP (inj:=inj) hv hh ha hi (hg.ex h5).2 n1 n2
   obtain ⟨e1,e2⟩:=Pu hv hh ha hi e0
   have hk:=AV (l:=c.Kids) (i:=0) (by omega) (by omega)
   rw [if_neg (by simp [e0]),Oc h1,JW]
   refine Vr (w:=fun i=>D1 t h inj N (AB c.Kids 0) (AB (DU t c h m inj).1 i)) (fun i i0 i1=>?_) (fun i i0 i1=>?_)
   ·exact ih _ c.Pattern _ (kid _ hk) (hc.kid5 h5 _ hk) (hg.kid5 h5 _ hk) (e2 _ (AV i0 i1))
   ·try dsimp only
    split
    ·rfl
    ·split <;> rfl
  rw [if_neg h5,if_neg h5]; rfl
end Go.Sf.Sc
namespace Go.Sf.Sc
open Go Go.Sf
section
variable (t:AD) (h:A2) (inj:Bool) (m:AG)
end
end Go.Sf.Sc
namespace Go.Sf.Sc
open Go Go.Sf
def U8 (x:Int):Prop:=0<=x∧x<256
theorem U8.w {x:Int} (h:U8 x):A8 x=x:=BN (by have:=h.1; omega) (by have:=h.2; omega)
structure WS (n:CL) (i:Int):Prop where
 name:n.Name.size<=40
 par:-1<=n.Parent∧n.Parent<i
 attrs:n.Attrs.length<=1
 each:∀ a∈n.Attrs,O8 a
structure Tc (t:AD) (i:Int):Prop where
 len:(t.Nodes.length:Int)=i
 node:∀ k:Int,0<=k->k<i->WS (AB t.Nodes k) k
theorem Tc.app {t:AD} {i:Int} (h:Tc t i) {n:CL} (hn:WS n i):Tc ⟨t.Nodes++[n],t.Edges⟩ (i+1):=by
 refine ⟨by simp [←h.len],fun k k0 k1=>?_⟩
 have hl:=h.len
 by_cases e:k=i
 ·subst e
  rw [show AB (t.Nodes++[n]) k=n from SD _ _ (by omega)]
  exact hn
 ·rw [show AB (t.Nodes++[n]) k=AB t.Nodes k from PB _ _ k0 (by omega)]
  exact h.node k k0 (by omega)
structure Td (t:AD):Prop where
 n:Tc t t.Nodes.length
 pos:0<t.Nodes.length
 nodes:t.Nodes.length<=6
 edges:t.Edges.length<=5
 edge:∀ e∈t.Edges,e.Name.size<=40∧(0<=e.From∧e.From<t.Nodes.length)∧0<=e.To∧e.To<t.Nodes.length
theorem Td.few {t:AD} (h:Td t):CA t:=by
 have hn:∀ n∈t.Nodes,∃ i,WS n i:=fun n hn=>by
  obtain ⟨i,i0,i1,rfl⟩:=EX hn
  exact ⟨i,h.n.node i i0 i1⟩
 refine ⟨by have:=h.nodes; omega,by have:=h.edges; omega,fun n hm=>?_,fun n hm=>?_,fun n hm=>?_,fun e he=>?_⟩
 ·obtain ⟨i,k⟩:=hn n hm; have:=k.name; omega
 ·obtain ⟨i,k⟩:=hn n hm; have:=k.attrs; omega
 ·obtain ⟨i,k⟩:=hn n hm; exact k.each
 ·have:=(h.edge e he).1; omega
theorem Td.par {t:AD} (h:Td t):GG t t.Nodes.length:=fun i i0 i1=>(h.n.node i i0 i1).par
end Go.Sf.Sc
namespace Go.Sf.Sc
open Go Go.Sf
structure pf (t:AD) (g:Graph):Prop where
 nodes:g.Nodes.length<=8
 edges:g.Edges.length<=10
 kind:∀ n∈g.Nodes,0<=n∧n<t.Nodes.length
structure fy (p:Pattern):Prop where
 nodes:p.Graph.Nodes.length<=8
 edges:p.Graph.Edges.length<=10
 slots:p.Slots.length<=4
 tests:p.Tests.length<=3
 vars:0<=p.Vars∧p.Vars<=3
end Go.Sf.Sc
namespace Go.Sf.Sc
open Go Go.Sf
structure M4 (t:AD) (p:Pattern) (h:A2) (inj:Bool) (m:AG):Prop where
 chk:MX t p.Graph h.Graph m.Morphism inj=0
 solve:Lc p h m.Morphism=(m.Vars,0)
end Go.Sf.Sc
namespace Go.Sf.Sc
open Go Go.Sf
structure pj (p q:Pattern):Prop where
 nodes:q.Graph.Nodes.length<=p.Graph.Nodes.length+1
 edges:q.Graph.Edges.length<=p.Graph.Edges.length+1
 slots:q.Slots.length<=1
 tests:q.Tests.length<=1
 vars:0<=q.Vars∧q.Vars<=20
end Go.Sf.Sc
namespace Go.Sf.Sc
open Go Go.Sf
structure tA (p:Pattern) (depth:Int):Prop where
 d:0<=depth∧depth<=2
 nodes:(p.Graph.Nodes.length:Int)+depth<=20
 edges:(p.Graph.Edges.length:Int)+depth<=20
 vars:0<=p.Vars∧p.Vars<=20
end Go.Sf.Sc
namespace Go.Sf.Sc
open Go Go.Sf
theorem KH {α:Type} {e:α->TV} {n:Nat} {l:List α} (h:l.length<=1000) (hx:∀ x∈l,(e x).Sm):TV.Sm (eL n e l):=by
 show TV.Sm (.list n (l.map e))
 simp only [TV.Sm,List.length_map]
 refine ⟨by unfold reachBytes; omega,OH.2 fun t ht=>?_⟩
 obtain ⟨x,hm,rfl⟩:=List.mem_map.1 ht
 exact hx x hm
theorem SX {l:List Int} (h:l.length<=1000):TV.Sm (eL 1 eI l):=KH h fun _ _=>trivial
theorem R6 {s:ByteArray} (h:(s.size:Int)<=1000):TV.Sm (eS s):=by
 show TV.Sm (.str s)
 simp only [TV.Sm]
 unfold reachBytes; omega
theorem Zw {t:AD} (h:CA t):(At t).Sm:=by
 have h1:=h.nodes
 have h2:=h.edges
 refine ⟨KH (by omega) fun n hn=>?_,KH (by omega) fun e he=>?_,trivial⟩
 ·have:=h.name n hn
  have:=h.attrs n hn
  refine ⟨R6 (by omega),trivial,trivial,KH (by omega) fun a ha=>?_,trivial⟩
  have ha:=h.each n hn a ha
  have:=ha.name
  have:=ha.names
  exact ⟨R6 (by omega),trivial,trivial,KH (by omega) fun x hx=>R6 (by have:=ha.each x hx; omega),trivial⟩
 ·have:=h.ename e he
  exact ⟨R6 (by omega),trivial,trivial,trivial,trivial,trivial,trivial,trivial⟩
theorem V8:∀ (N:Nat) (c:AA),SizeOf.sizeOf c<=N->D6 c->cnt c<=1000->(AF c).Sm
 | 0,c,h,_,_=>by have:=DA c; omega
 | N+1,c,h,hf,hn=>by
  have q1:=hf.q.nodes
  have q2:=hf.q.edges
  have q3:=hf.q.slots
  have q4:=hf.q.tests
  have m1:=hf.m.nodes
  have m2:=hf.m.edges
  have hc:=Ju c
  have hl:=PK c.Kids
  refine ⟨trivial,?_,SX (by omega),SX (by omega),SX (by omega),KH (by omega) fun _ _=>⟨trivial,trivial,trivial,trivial⟩,KH (by omega) fun _ _=>⟨trivial,trivial,trivial,trivial,trivial⟩,trivial,KH (by omega) fun _ _=>⟨trivial,trivial,trivial,trivial,trivial,trivial⟩,trivial⟩
  rw [Jl]
  refine KH (n:=9) (by omega) fun k hk=>?_
  have:=DW hk
  have:=NA hk
  exact V8 N k (by omega) (hf.k k hk) (by omega)
structure Qr (p:Pattern) (c:AA) (h:A2):Prop where
 few:D6 c
 cnt:cnt c<=40
 q:OM p
 bound:KT 14 18 (SizeOf.sizeOf c) p c=true
 narrow:KF (SizeOf.sizeOf c) c=true
 nodes:h.Graph.Nodes.length<=6
 edges:h.Graph.Edges.length<=8
theorem ZT {t:AD} (hf:CA t) {p:Pattern} {c:AA} (hc:D6 c) (hk:cnt c<=1000) (he:ED t p c=0) (h:A2):∃ b,FP t p c h=some b∧(b=true->Qr p c h):=by
 obtain ⟨b1,e1,f1⟩:=Sr (V8 _ c (Nat.le_refl _) hc hk)
 obtain ⟨b2,e2,f2⟩:=SM p
 obtain ⟨b3,e3⟩:=UA h
 unfold FP
 rw [e1,bs]
 cases b1
 ·exact ⟨false,rfl,fun h=>by cases h⟩
 rw [e2]
 cases b2
 ·exact ⟨false,rfl,fun h=>by cases h⟩
 rw [e3]
 cases b3
 ·exact ⟨false,rfl,fun h=>by cases h⟩
 have hc':=f1 rfl
 have hp:=f2 rfl
 simp only [bs,Bool.not_true,Bool.false_eq_true,if_false]
 rw [YG hf p hc,bs,if_neg (by simp [he])]
 obtain ⟨b4,e4⟩:=TJ hf (Zw hf) p.Graph h.Graph
 unfold Kg
 rw [e2,e3,e4,Uk,TI 14 18 hc hp]
 simp only [bs,if_true]
 cases b4
 ·simp only [Bool.false_eq_true,if_false,bs,Bool.false_and]
  exact ⟨_,rfl,fun h=>by cases h⟩
 simp only [if_true,bs]
 split
 ·rename_i hcond
  rw [bs,bs]
  refine ⟨_,rfl,fun hb=>?_⟩
  rw [zzZ,zzZ,zzX,zzX] at hcond
  exact ⟨hc,hc'.2,hp,hb,hcond.1.1,by omega,by omega⟩
 ·exact ⟨_,rfl,fun h=>by cases h⟩
end Go.Sf.Sc
namespace Go.Sf.Sc
open Go Go.Sf
structure pi (t:AD) (p:Pattern) (c:AA) (h:A2) (l:List AG) (inj:Bool):Prop where
 few:CA t
 hv:(BJ t).2=0
 pat:fy p
 cond:ED t p c=0
 ph:Mq t p h=0
 each:∀ m∈l,M4 t p h inj m
 len:l.length<=30
 light:Qr p c h
theorem PL {t:AD} {p:Pattern} {c:AA} (h:ED t p c=0):I3 t p=0∧IZ c=0∧ER (SizeOf.sizeOf c) t p c=0:=by
 unfold ED at h
 split at h
 ·rename_i k; exact absurd h k
 rename_i k1
 split at h
 ·rename_i k; exact absurd h k
 rename_i k2
 exact ⟨Classical.not_not.1 k1,Classical.not_not.1 k2,h⟩
theorem ZS {t:AD} {p:Pattern} {c:AA} {h:A2} (hl:Qr p c h) (he:ED t p c=0):CG t p c:=
 aY _ (Nat.le_refl _) (fun M hM=>by rw [hM]; exact (PL he).2.2) hl.bound hl.narrow hl.few
end Go.Sf.Sc
namespace Go.Sf.Sc
open Go Go.Sf
end Go.Sf.Sc
namespace Go.Sf.Sc
open Go Go.Sf
def uI (kd:Int) (a b:AA):AA:=⟨kd,[a,b],⟨[],[]⟩,⟨⟨[],[]⟩,[],0,[]⟩⟩
end Go.Sf.Sc
namespace Go.Sf.Sc
open Go Go.Sf
theorem cW {n:Nat} {by' images:List Int} (hb:∀ x∈by',0<=x∧x<n) (hl:by'.length<=images.length) (l:List Int):forA (fun (i0:Int) (s0:Morphism)=>
  (AL by' i0).bind fun x18=>
  (AL images i0).bind fun x24=>
  (AL s0.Nodes x18).bind fun _=>
  some (Morphism.mk (CB s0.Nodes x18 x24) s0.Edges)) 0 (by'.length:Int) ⟨List.replicate n (-1),l⟩=some ⟨IV n by' images,l⟩:=by
 rw [Hx (a:=0) (b:=by'.length) (s:=⟨List.replicate n (-1),l⟩) (fun i=>(⟨(B2 i.toNat).foldl (fun l i=>CB l (AB by' i) (AB images i)) (List.replicate n (-1)),l⟩:Morphism)) (by omega) rfl,Int.toNat_natCast]
 ·rfl
 intro i i0 i1
 have hx:=hb _ (AV i0 i1)
 rw [AM i0 i1,bs,AM i0 (by omega),bs,AM hx.1 (by rw [MK]; simpa using hx.2),bs,Lk i0,List.foldl_append]; rfl
theorem cV {n:Nat} {by' images:List Int} (hb:∀ x∈by',0<=x∧x<n) (hl:by'.length<=images.length) (l:List Int):forA (fun (i0:Int) (s0:Morphism)=>
  (AL by' i0).bind fun x18=>
  (AL images i0).bind fun x24=>
  (AL s0.Edges x18).bind fun _=>
  some (Morphism.mk s0.Nodes (CB s0.Edges x18 x24))) 0 (by'.length:Int) ⟨l,List.replicate n (-1)⟩=some ⟨l,IV n by' images⟩:=by
 rw [Hx (a:=0) (b:=by'.length) (s:=⟨l,List.replicate n (-1)⟩) (fun i=>(⟨l,(B2 i.toNat).foldl (fun l i=>CB l (AB by' i) (AB images i)) (List.replicate n (-1))⟩:Morphism)) (by omega) rfl,Int.toNat_natCast]
 ·rfl
 intro i i0 i1
 have hx:=hb _ (AV i0 i1)
 rw [AM i0 i1,bs,AM i0 (by omega),bs,AM hx.1 (by rw [MK]; simpa using hx.2),bs,Lk i0,List.foldl_append]; rfl
end Go.Sf.Sc
namespace Go.Sf.Sc
open Go Go.Sf
theorem Tu {α:Type} [Inhabited α] {l:List α} {i:Int} (v:α) (h0:0<=i) (h1:i<l.length):AB (CB l i v) i=v:=by
 unfold AB CB
 rw [List.getD_eq_getElem?_getD,List.getElem?_set_self (by omega)]; rfl
theorem Zv {ρ:Type} {r:ρ} {n:Int} {h:A2} {m:Morphism} {s:D8} (hs:JU n h m s) {st:List Int × List Bool} (hi:VI n st) :
  (if (decide (s.Term.Var<0))=true then
  if (!decide ((A8 (Ih h m s - s.Term.Add))=0))=true then
  some (CY.ret r)
  else
  some (.next (st.1,st.2))
  else
  (AL st.2 s.Term.Var).bind fun x78=>
  if (!x78)=true then
  (AL st.1 s.Term.Var).bind fun _=>
  (AL st.2 s.Term.Var).bind fun _=>
  some (.next (CB st.1 s.Term.Var (A8 (Ih h m s - s.Term.Add)),CB st.2 s.Term.Var true))
  else
  (AL st.1 s.Term.Var).bind fun x91=>
  if (!decide (x91=(A8 (Ih h m s - s.Term.Add))))=true then
  some (.ret r)
  else
  some (.next (st.1,st.2)))=some (FJ r h m s st):=by
 have hl:=hs.term.high
 have l1:=hi.l1
 have l2:=hi.l2
 have hv:=hs.has
 have ha:=hs.term.add
 have e1:A8 (Ih h m s - s.Term.Add)=Ih h m s - s.Term.Add:=BN (by omega) (by omega)
 unfold FJ
 by_cases h0:s.Term.Var<0
 ·have sn:Iu h m s st=st:=by unfold Iu; rw [if_neg (fun e=>by omega)]
  have ht:EL s.Term st.1=s.Term.Add:=by unfold EL; rw [if_pos h0]
  rw [if_pos (by simpa using h0),sn,ht,e1]
  by_cases e:Ih h m s - s.Term.Add=0
  ·rw [if_neg (by simp [e]),if_pos (by omega)]
  ·rw [if_pos (by simp [e]),if_neg (by omega)]
 ·rw [if_neg (by simpa using h0),AM (by omega) (by omega),bs]
  by_cases hk:AB st.2 s.Term.Var=false
  ·have sn:Iu h m s st=(CB st.1 s.Term.Var (A8 (Ih h m s - s.Term.Add)),CB st.2 s.Term.Var true):=by unfold Iu; rw [if_pos ⟨by omega,hk⟩]
   have ht:EL s.Term (CB st.1 s.Term.Var (A8 (Ih h m s - s.Term.Add)))=Ih h m s:=by
    unfold EL
    rw [if_neg h0,Tu _ (by omega) (by omega),e1,BN (by omega) (by omega)]; omega
   rw [if_pos (by simp [hk]),AM (by omega) (by omega),bs,bs,sn,if_pos ht]
  ·have hx:=hi.small _ (AV (l:=st.1) (i:=s.Term.Var) (by omega) (by omega))
   have sn:Iu h m s st=st:=by unfold Iu; rw [if_neg (fun e=>hk e.2)]
   have ht:EL s.Term st.1=AB st.1 s.Term.Var+s.Term.Add:=by unfold EL; rw [if_neg h0,BN (by omega) (by omega)]
   rw [if_neg (by simpa using hk),AM (by omega) (by omega),bs,sn,ht,e1]
   by_cases e:AB st.1 s.Term.Var=Ih h m s - s.Term.Add
   ·rw [if_neg (by simp [e]),if_pos (by omega)]
   ·rw [if_pos (by simp [e]),if_neg (by omega)]
theorem eE {s:AE} {q:Pattern} {m:Morphism} {t:AD} {given:List Int} (hq:PA t q) (hs:∀ x∈q.Slots,JU q.Vars s.h m x) (hg:given.length<=q.Vars) (hv:MR given):FM s q m given=some (Ku q s.h m given):=by
 have hn:=hq.vars
 unfold FM Ku
 have em:KN q.Vars false=some (List.replicate q.Vars.toNat false):=by
  unfold KN
  rw [if_pos (by omega)]
 have ez:KN q.Vars (0:Int)=some (List.replicate q.Vars.toNat 0):=by
  unfold KN
  rw [if_pos (by omega)]
 rw [ez,bs,em,bs]
 have ek:forA (fun (i0:Int) (s0:List Int × List Bool)=>
   (AL given i0).bind fun x31=>
   (AL s0.1 i0).bind fun x38=>
   (AL s0.2 i0).bind fun x39=>
   some (CB s0.1 i0 x31,CB s0.2 i0 true)) 0 (given.length:Int) (List.replicate q.Vars.toNat 0,List.replicate q.Vars.toNat false)=some (given++List.replicate (q.Vars - given.length).toNat 0,Hj q.Vars.toNat given.length):=by
  have hh:=Hx (f:=fun (i0:Int) (s0:List Int × List Bool)=>
   (AL given i0).bind fun x31=>
   (AL s0.1 i0).bind fun x38=>
   (AL s0.2 i0).bind fun x39=>
   some (CB s0.1 i0 x31,CB s0.2 i0 true)) (a:=0) (b:=given.length) (s:=(List.replicate q.Vars.toNat 0,List.replicate q.Vars.toNat false)) (fun i=>(given.take i.toNat++List.replicate (q.Vars - i).toNat 0,Hj q.Vars.toNat i)) (by omega) ?_ (fun i i0 i1=>?_)
  ·rw [hh,Int.toNat_natCast,List.take_length]
  ·simp only [Int.toNat_zero,List.take_zero,List.nil_append,Int.sub_zero,Prod.mk.injEq,true_and]
   exact Ri _
  ·have hl:(given.take i.toNat).length=i.toNat:=by rw [List.length_take]; omega
   rw [AM i0 i1,bs,AM i0 (by simp only [List.length_append,hl,List.length_replicate]; omega),bs,AM i0 (by rw [Pa]; omega),bs]
   congr 2
   ·unfold CB
    rw [List.set_append_right _ _ (by omega),hl,Nat.sub_self,show (q.Vars - i).toNat=(q.Vars - (i+1)).toNat+1 by omega,List.replicate_succ,List.set_cons_zero,IA i0 i1,List.append_assoc]
    rfl
   ·unfold Hj
    rw [TO _ i0]
    refine R8 (fun j j0 j1=>?_)
    by_cases e:j=i
    ·rw [if_pos e,e]; simp; omega
    ·rw [if_neg e,decide_eq_decide]; omega
 rw [ek,bs]
 have hi0:=Qn hn.1 hg hv
 dsimp only
 rw [PW (FJ (([],false):List Int × Bool) s.h m) (VI q.Vars) hi0]
 ·cases hr:GU (FJ (([],false):List Int × Bool) s.h m) q.Slots (given++List.replicate (q.Vars - given.length).toNat 0,Hj q.Vars.toNat given.length) with
  | inr r=>rfl
  | inl st=>
   have hi:=NM hs hi0 hr
   rw [EY,C7 (fun i=>!KD (AB q.Tests i) st.1) ([],false)]
   ·dsimp only
    cases anyR (fun i=>!KD (AB q.Tests i) st.1) 0 q.Tests.length <;> rfl
   ·intro i i0 i1 _
    have hx:=hq.test _ (AV i0 i1)
    rw [AM i0 i1,bs,p_holds hx.2.1 hx.2.2 hi.small (by have:=hi.l1; omega),bs]
    cases KD (AB q.Tests i) st.1 <;> rfl
 ·intro i st i0 i1 hi
  have ha:=hs _ (AV i0 i1)
  refine ⟨?_,fun s' e=>Nv ha hi e⟩
  rw [AM i0 i1,bs,AM ha.node.1 ha.node.2,bs,AM ha.val.1 ha.val.2,bs,AM ha.attr.1 ha.attr.2,bs]
  exact Zv ha hi
end Go.Sf.Sc
namespace Go.Sf.Sc
open Go Go.Sf
theorem Xk {l:List AG} {f:AG->Option Bool} {p:AG->Bool} (h:∀ x∈l,f x=some (p x)):DG l f=some (l.any p):=FN h
theorem YN {n:Nat} (hn:n<=1000):D5 [-1] (n:Int)=some (List.replicate n (-1)):=by
 unfold D5
 rw [if_pos ⟨rfl,by omega,by omega⟩]
 show some (List.replicate (n:Int).toNat (-1))=_
 rw [Int.toNat_natCast]
theorem Xq {s:AE} {p:Pattern} {c:AA} {m:AG} (hf:CA s.t) (hv:(BJ s.t).2=0) (hh:H1 s.t s.h) (ha:N5 s.t p s.h m) (hi:Ve s.t p c) (e:(DU s.t c s.h m s.injective).2=0):B8 s c m=some (DU s.t c s.h m s.injective).1:=by
 have gn:=hi.q.g.nodes
 have ge:=hi.q.g.edges
 have m1:=hi.map.nlen
 have m2:=hi.map.elen
 have m3:=ha.m.nlen
 have m4:=ha.m.elen
 unfold B8
 rw [YN (by omega),bs,YN (by omega),bs,
  cW (fun y hy=>by obtain ⟨j,j0,j1,rfl⟩:=EX hy; exact (hi.map.node j j0 j1).1) (by omega),bs,
  cV (fun y hy=>by obtain ⟨j,j0,j1,rfl⟩:=EX hy; exact (hi.map.edge j j0 j1).1) (by omega),bs,Ub hf,bs]
 unfold DU at e ⊢
 dsimp only at e ⊢
 split at e
 ·rename_i h1; exact absurd e h1
 rename_i h1
 obtain ⟨e1,e2⟩:=T9 (Classical.not_not.1 h1)
 rw [if_neg h1,QC (F:=fun y=>Ku c.Pattern s.h y m.Vars) e1]
 ·rfl
 ·intro i st i0 i1 hl
  have hm:=e2 _ (AV i0 i1)
  have hg:(m.Vars.length:Int)<=c.Pattern.Vars:=by have:=ha.len; have:=hi.vars; omega
  rw [AM i0 i1,bs,eE hi.q (fun x hx=>OG (II hv) hi.q hh hm hx) hg ha.small,bs,←Jy]
  split
  ·rw [DY (by simp; unfold B9; omega)]; rfl
  ·rfl
theorem NB {s:AE} (hf:CA s.t) (hv:(BJ s.t).2=0) (hh:H1 s.t s.h) (n1:s.h.Graph.Nodes.length<=14) (n2:s.h.Graph.Edges.length<=18):∀ (N:Nat) (c:AA) (p:Pattern) (m:AG),SizeOf.sizeOf c<=N->CV s.t p c->CG s.t p c->N5 s.t p s.h m->∀ n,2*N<=n->BH n s c m=some (HH s.t s.h s.injective c m)
 | 0,c,_,_,h,_,_,_,_,_=>by have:=DA c; omega
 | N+1,c,p,m,h,hc,hg,ha,n,hn=>by
  obtain ⟨n,rfl⟩:∃ k,n=k+2:=⟨n - 2,by omega⟩
  have kid:∀ k∈c.Kids,SizeOf.sizeOf k<=N:=fun k hk=>by have:=DW hk; omega
  rw [BH,T4]
  by_cases h2:c.Kind=2
  ·have h1:=hc.one (.inl h2)
   have hk:=AV (l:=c.Kids) (i:=0) (by omega) (by omega)
   rw [if_pos (by simpa using h2),if_pos h2,Oc h1,AM (by omega) (by omega),bs,BA,NB hf hv hh n1 n2 N _ p m (kid _ hk) (hc.kid (by omega) _ hk) (hg.kid (by omega) _ hk) ha n (by omega)]
   rfl
  rw [if_neg (by simpa using h2),if_neg h2]
  by_cases h3:c.Kind=3
  ·rw [if_pos (by simpa using h3),if_pos h3,M9 (p:=fun k=>!HH s.t s.h s.injective k m) (fun k hk=>by
    rw [DV,BA,NB hf hv hh n1 n2 N _ p m (kid _ hk) (hc.kid (by omega) _ hk) (hg.kid (by omega) _ hk) ha n (by omega)]; rfl),bs,List.all_eq_not_any_not]
  rw [if_neg (by simpa using h3),if_neg h3]
  by_cases h4:c.Kind=4
  ·rw [if_pos (by simpa using h4),if_pos h4,M9 (p:=fun k=>HH s.t s.h s.injective k m) (fun k hk=>by
    rw [BA,NB hf hv hh n1 n2 N _ p m (kid _ hk) (hc.kid (by omega) _ hk) (hg.kid (by omega) _ hk) ha n (by omega)]; rfl),bs]
  rw [if_neg (by simpa using h4),if_neg h4]
  by_cases h5:c.Kind=5
  ·have hi:=hc.ins h5
   have h1:=hc.one (.inr h5)
   have e0:=PP (inj:=s.injective) hv hh ha hi (hg.ex h5).2 n1 n2
   obtain ⟨e1,e2⟩:=Pu hv hh ha hi e0
   have hk:=AV (l:=c.Kids) (i:=0) (by omega) (by omega)
   rw [if_pos (by simpa using h5),if_pos h5,Oc h1,Xq hf hv hh ha hi e0,bs,Xk (p:=fun x=>HH s.t s.h s.injective (AB c.Kids 0) x) (fun x hx=>by
    rw [BY,AM (by omega) (by omega),bs,NB hf hv hh n1 n2 N _ c.Pattern x (kid _ hk) (hc.kid5 h5 _ hk) (hg.kid5 h5 _ hk) (e2 _ hx) n (by omega)]; rfl),bs]
  rw [if_neg (by simpa using h5),if_neg h5]
theorem e_holds {s:AE} (hf:CA s.t) (hv:(BJ s.t).2=0) (hh:H1 s.t s.h) (n1:s.h.Graph.Nodes.length<=14) (n2:s.h.Graph.Edges.length<=18) {c:AA} {p:Pattern} {m:AG} (hc:CV s.t p c) (hg:CG s.t p c) (ha:N5 s.t p s.h m):_explain_scene__holds s c m=some (HH s.t s.h s.injective c m):=
 GY (2*SizeOf.sizeOf c) fun n hn=>NB hf hv hh n1 n2 _ c p m (Nat.le_refl _) hc hg ha n hn
end Go.Sf.Sc
