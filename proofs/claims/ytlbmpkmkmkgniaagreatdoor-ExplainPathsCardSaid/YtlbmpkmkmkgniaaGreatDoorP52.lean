/- Plain lemmas: what the functions of the program and of the reference compute. -/
import Derived.Test.YtlbmpkmkmkgniaaGreatDoorP28
import Derived.Test.YtlbmpkmkmkgniaaGreatDoorP46
import Derived.Test.YtlbmpkmkmkgniaaGreatDoorP25
set_option maxRecDepth 100000
namespace Go.Sf.Sc
open Go Go.Sf
inductive CV (t:AD):Pattern->AA->Prop where
 | mk (p:Pattern) (c:AA) (few:c.Kids.length<=40) (rng:1<=c.Kind∧c.Kind<=5) (one:c.Kind=2∨c.Kind=5->c.Kids.length=1) (ins:c.Kind=5->Vd t p c) (kids:∀ k∈c.Kids,CV t (if c.Kind=5 then c.Pattern else p) k):CV t p c
theorem CV.few {t:AD} {p:Pattern} {c:AA} (h:CV t p c):c.Kids.length<=40:=by cases h; assumption
theorem CV.rng {t:AD} {p:Pattern} {c:AA} (h:CV t p c):1<=c.Kind∧c.Kind<=5:=by cases h; assumption
theorem CV.one {t:AD} {p:Pattern} {c:AA} (h:CV t p c):c.Kind=2∨c.Kind=5->c.Kids.length=1:=by cases h; assumption
theorem CV.ins {t:AD} {p:Pattern} {c:AA} (h:CV t p c):c.Kind=5->Vd t p c:=by cases h; assumption
theorem CV.kids {t:AD} {p:Pattern} {c:AA} (h:CV t p c):∀ k∈c.Kids,CV t (if c.Kind=5 then c.Pattern else p) k:=by cases h; assumption
theorem CV.kid {t:AD} {p:Pattern} {c:AA} (h:CV t p c) (h5:¬ c.Kind=5):∀ k∈c.Kids,CV t p k:=fun k hk=>by have:=h.kids k hk; rwa [if_neg h5] at this
theorem CV.kid5 {t:AD} {p:Pattern} {c:AA} (h:CV t p c) (h5:c.Kind=5):∀ k∈c.Kids,CV t c.Pattern k:=fun k hk=>by have:=h.kids k hk; rwa [if_pos h5] at this
theorem PP:∀ l:List AA,l.length<=GZ l
 | []=>by simp
 | c::l=>by
  have:=PP l
  have h1:GZ (c::l)=cnt c+GZ l:=by simp [GZ]
  have h2:=KT c
  simp only [List.length_cons]
  omega
theorem lj {t:AD} {q:Pattern} {v:Int} (hv:(BJ t).2=0) (h:Kw t q v=0):PG t q:=by
 unfold Kw at h
 split at h
 ·exact Wy hv (.inl h)
 ·rename_i h9; exact Wy hv (.inr (Classical.not_not.1 h9))
theorem ac {t:AD} (hv:(BJ t).2=0):∀ (N:Nat) (c:AA) (p:Pattern),SizeOf.sizeOf c<=N->cnt c<=40->Mh N c=true->GB N t p c=0->CV t p c
 | 0,c,_,h,_,_,_=>by have:=DW c; omega
 | N+1,c,p,h,hc,hw,ho=>by
  have hk0:=KT c
  have hk1:=PP c.Kids
  rw [Mh,zzZ] at hw
  obtain ⟨hw1,hw2⟩:=hw
  have hone:c.Kind=2∨c.Kind=5->c.Kids.length=1:=by
   intro hk
   unfold Nl at hw1
   rcases hk with hk | hk
   ·rw [if_neg (by omega),if_pos hk,zzZ,zzX] at hw1; exact hw1.1
   ·rw [if_neg (by omega),if_neg (by omega),if_neg (by omega),if_pos hk,zzX] at hw1; exact hw1
  have hrng:1<=c.Kind∧c.Kind<=5:=by
   unfold Nl at hw1
   split at hw1
   ·omega
   split at hw1
   ·omega
   split at hw1
   ·omega
   split at hw1
   ·omega
   ·cases hw1
  have hkid:∀ q,(fst (fun i=>nz (GB N t q (AB c.Kids i))) 0 c.Kids.length).getD 0=0->∀ k∈c.Kids,CV t q k:=by
   intro q hq k hk
   have h1:=Ri hq
   have h2:=ND hk
   have h3:=EC hk
   rw [List.all_eq_true] at hw2
   obtain ⟨i,i0,i1,e⟩:=D8 hk
   have h4:=h1 i i0 i1
   rw [e] at h4
   exact ac hv N k q (by omega) (by omega) (hw2 k hk) h4
  rw [GB] at ho
  by_cases h5:c.Kind=5
  ·rw [if_pos h5] at ho
   split at ho
   ·cases ho
   rename_i h6
   split at ho
   ·rename_i h7; exact absurd ho h7
   rename_i h7
   split at ho
   ·rename_i h8; exact absurd ho h8
   rename_i h8
   split at ho
   ·cases ho
   rename_i h9
   refine CV.mk p c (by omega) hrng hone (fun _=>⟨lj hv (Classical.not_not.1 h7),by omega,ah (Classical.not_not.1 h8),by simpa using h9⟩) ?_
   rw [if_pos h5]
   exact hkid _ ho
  ·rw [if_neg h5] at ho
   refine CV.mk p c (by omega) hrng hone (fun e=>absurd e h5) ?_
   rw [if_neg h5]
   exact hkid _ ho
section
variable {α σ ρ:Type}
theorem O9 [Inhabited α] {l:List α} {f:Int->σ->Option (CY σ ρ)} (step:α->σ->CY σ ρ) (I:Int->σ->Prop) (h:∀ (i:Int) s,0<=i->i<l.length->I i s->f i s=some (step (AB l i) s)∧∀ s',step (AB l i) s=.next s'->I (i+1) s') :
  ∀ (n:Nat) (a:Int) (s:σ),0<=a->a+n=l.length->I a s->forGo f n a s=some (GT step (l.drop a.toNat) s)
 | 0,a,s,h0,h1,_=>by
  rw [List.drop_eq_nil_of_le (by omega)]; rfl
 | n+1,a,s,h0,h1,hs=>by
  obtain ⟨h2,h3⟩:=h a s h0 (by omega) hs
  have hd:l.drop a.toNat=AB l a::l.drop (a+1).toNat:=by
   rw [show (a+1).toNat=a.toNat+1 by omega,List.drop_eq_getElem_cons (by omega)]
   congr 1
   unfold AB
   rw [List.getD_eq_getElem?_getD,List.getElem?_eq_getElem (by omega)]; rfl
  rw [G3,h2,hd,GT]
  cases hc:step (AB l a) s with
  | next s'=>
   simp only
   exact O9 step I h n (a+1) s' (by omega) (by omega) (h3 s' hc)
  | brk s'=>rfl
  | ret r=>rfl
theorem Wd [Inhabited α] {l:List α} {f:Int->σ->Option (CY σ ρ)} (step:α->σ->CY σ ρ) (I:Int->σ->Prop) {s:σ} (hs:I 0 s) (h:∀ (i:Int) s,0<=i->i<l.length->I i s->f i s=some (step (AB l i) s)∧∀ s',step (AB l i) s=.next s'->I (i+1) s') :
  forR f 0 l.length s=some (GT step l s):=by
 have:=O9 step I h l.length 0 s (by omega) (by omega) hs
 unfold forR
 rw [show ((l.length:Int) - 0).toNat=l.length by omega]
 exact this
end
abbrev zM:AG:=⟨⟨[],[]⟩,[]⟩
abbrev zP:BQ:=⟨0,zM,[]⟩
def QU (w:AA->BQ × Int) (k:AA) (s:BQ × BQ):CY (BQ × BQ) (BQ × Int):=
 if (w k).2≠0 then .ret (zP,(w k).2) else .next (s.1,⟨s.2.Choice,s.2.Match,s.2.Kids++[(w k).1]⟩)
def dw (w:AA->BQ × Int) (l:List AA):BQ × Int:=
 match GT (QU w) l (zP,zP) with
 | .inl s=>(s.2,0)
 | .inr r=>r
def DY (t:AD) (h:A0) (inj:Bool):Nat->AA->AG->BQ × Int
 | 0,_,_=>(zP,0)
 | N+1,c,m=>
  if c.Kind=2 then (if (DY t h inj N (AB c.Kids 0) m).2=0 then (zP,10) else if (DY t h inj N (AB c.Kids 0) m).2=10 then (zP,0) else (zP,(DY t h inj N (AB c.Kids 0) m).2)) else
  if c.Kind=3 then dw (fun k=>DY t h inj N k m) c.Kids else
  if c.Kind=4 then (fst (fun i=>if (DY t h inj N (AB c.Kids i) m).2=0 then some (⟨i,zM,[(DY t h inj N (AB c.Kids i) m).1]⟩,0) else if (DY t h inj N (AB c.Kids i) m).2≠10 then some (zP,(DY t h inj N (AB c.Kids i) m).2) else none) 0 c.Kids.length).getD (zP,10) else
  if c.Kind=5 then
   (if (DK t c h m inj).2≠0 then (zP,(DK t c h m inj).2) else
   (fst (fun i=>if (DY t h inj N (AB c.Kids 0) (AB (DK t c h m inj).1 i)).2=0 then some (⟨0,AB (DK t c h m inj).1 i,[(DY t h inj N (AB c.Kids 0) (AB (DK t c h m inj).1 i)).1]⟩,0) else
    if (DY t h inj N (AB c.Kids 0) (AB (DK t c h m inj).1 i)).2≠10 then some (zP,(DY t h inj N (AB c.Kids 0) (AB (DK t c h m inj).1 i)).2) else none) 0 (DK t c h m inj).1.length).getD (zP,10)) else
  (zP,0)
end Go.Sf.Sc
namespace Go.Sf.Sc
open Go Go.Sf
def Th (i:Int) (s:BQ × BQ):Prop:=(s.2.Kids.length:Int)=i
theorem R3 {s:A3} (hf:CA s.t) (hv:(BJ s.t).2=0) (hh:Hg s.t s.h):∀ (N:Nat) (c:AA) (p:Pattern) (m:AG),SizeOf.sizeOf c<=N->CV s.t p c->M4 s.t p s.h m->∀ n,2*N<=n->A1 n s c m=some (DY s.t s.h s.injective N c m)
 | 0,c,_,_,h,_,_,_,_=>by have:=DW c; omega
 | N+1,c,p,m,h,hc,ha,n,hn=>by
  obtain ⟨n,rfl⟩:∃ k,n=k+2:=⟨n - 2,by omega⟩
  have kid:∀ (i:Int),0<=i->i<c.Kids.length->SizeOf.sizeOf (AB c.Kids i)<=N:=fun i i0 i1=>by
   have:=EC (AS (l:=c.Kids) i0 i1); omega
  rw [A1,DY]
  by_cases h2:c.Kind=2
  ·have h1:=hc.one (.inl h2)
   rw [if_pos (by simpa using h2),if_pos h2,AL (by omega) (by omega),bs,R3 hf hv hh N _ p m (kid 0 (by omega) (by omega)) (hc.kid (by omega) _ (AS (by omega) (by omega))) ha (n+1) (by omega),bs]
   generalize DY s.t s.h s.injective N (AB c.Kids 0) m=x
   by_cases e0:x.2=0
   ·rw [if_pos (by simpa using e0),if_pos e0]; try rfl
   ·rw [if_neg (by simpa using e0),if_neg e0]
    by_cases e1:x.2=10
    ·rw [if_pos (by simpa using e1),if_pos e1]; try rfl
    ·rw [if_neg (by simpa using e1),if_neg e1]; try rfl
  rw [if_neg (by simpa using h2),if_neg h2]
  by_cases h3:c.Kind=3
  ·rw [if_pos (by simpa using h3),if_pos h3]
   have hfew:=hc.few
   rw [Wd (QU fun k=>DY s.t s.h s.injective N k m) Th (show Th 0 (zP,zP) from rfl)]
   ·unfold dw
    show thenR (some (GT (QU fun k=>DY s.t s.h s.injective N k m) c.Kids (zP,zP))) _ _=_
    cases GT (QU fun k=>DY s.t s.h s.injective N k m) c.Kids (zP,zP) <;> rfl
   ·intro i st i0 i1 hi
    unfold Th at hi
    rw [AL i0 i1,bs,R3 hf hv hh N _ p m (kid i i0 i1) (hc.kid (by omega) _ (AS i0 i1)) ha (n+1) (by omega),bs]
    dsimp only [QU]
    by_cases e0:(DY s.t s.h s.injective N (AB c.Kids i) m).2=0
    ·rw [if_neg (by simp [e0]),if_neg (by simp [e0]),DU (by simp; unfold B9; omega),bs]
     refine ⟨rfl,fun s' e=>?_⟩
     cases e
     unfold Th
     simp; omega
    ·rw [if_pos (by simp [e0]),if_pos e0]
     exact ⟨rfl,fun s' e=>by cases e⟩
  rw [if_neg (by simpa using h3),if_neg h3]
  by_cases h4:c.Kind=4
  ·rw [if_pos (by simpa using h4),if_pos h4]
   rw [K5 (fun _=>zP) (fun i=>if (DY s.t s.h s.injective N (AB c.Kids i) m).2=0 then some (⟨i,zM,[(DY s.t s.h s.injective N (AB c.Kids i) m).1]⟩,0) else if (DY s.t s.h s.injective N (AB c.Kids i) m).2≠10 then some (zP,(DY s.t s.h s.injective N (AB c.Kids i) m).2) else none) (by omega) rfl]
   ·cases fst (fun i=>if (DY s.t s.h s.injective N (AB c.Kids i) m).2=0 then some ((⟨i,zM,[(DY s.t s.h s.injective N (AB c.Kids i) m).1]⟩:BQ),(0:Int)) else if (DY s.t s.h s.injective N (AB c.Kids i) m).2≠10 then some (zP,(DY s.t s.h s.injective N (AB c.Kids i) m).2) else none) 0 c.Kids.length <;> rfl
   ·intro i i0 i1 _
    rw [AL i0 i1,bs,R3 hf hv hh N _ p m (kid i i0 i1) (hc.kid (by omega) _ (AS i0 i1)) ha (n+1) (by omega),bs]
    generalize DY s.t s.h s.injective N (AB c.Kids i) m=x
    by_cases e0:x.2=0
    ·rw [if_pos (by simpa using e0),if_pos e0]; try rfl
    ·rw [if_neg (by simpa using e0),if_neg e0]
     by_cases e1:x.2=10
     ·rw [if_neg (by simp [e1]),if_neg (by simp [e1])]; try rfl
     ·rw [if_pos (by simp [e1]),if_pos e1]; try rfl
  rw [if_neg (by simpa using h4),if_neg h4]
  by_cases h5:c.Kind=5
  ·rw [if_pos (by simpa using h5),if_pos h5]
   have hi:=hc.ins h5
   have h1:=hc.one (.inr h5)
   rw [BU,eh hf hv hh ha hi,bs]
   by_cases h6:(DK s.t c s.h m s.injective).2=0
   ·obtain ⟨e1,e2⟩:=OD hv hh ha hi h6
    rw [if_neg (by simp [h6]),if_neg (by simp [h6])]
    generalize (DK s.t c s.h m s.injective).1=l at e1 e2
    rw [K5 (fun _=>zP) (fun i=>if (DY s.t s.h s.injective N (AB c.Kids 0) (AB l i)).2=0 then some (⟨0,AB l i,[(DY s.t s.h s.injective N (AB c.Kids 0) (AB l i)).1]⟩,0) else if (DY s.t s.h s.injective N (AB c.Kids 0) (AB l i)).2≠10 then some (zP,(DY s.t s.h s.injective N (AB c.Kids 0) (AB l i)).2) else none) (by omega) rfl]
    ·cases fst (fun i=>if (DY s.t s.h s.injective N (AB c.Kids 0) (AB l i)).2=0 then some ((⟨0,AB l i,[(DY s.t s.h s.injective N (AB c.Kids 0) (AB l i)).1]⟩:BQ),(0:Int)) else if (DY s.t s.h s.injective N (AB c.Kids 0) (AB l i)).2≠10 then some (zP,(DY s.t s.h s.injective N (AB c.Kids 0) (AB l i)).2) else none) 0 l.length <;> rfl
    ·intro i i0 i1 _
     rw [AL i0 i1,bs,AL (by omega) (by omega),bs,R3 hf hv hh N _ c.Pattern _ (kid 0 (by omega) (by omega)) (hc.kid5 h5 _ (AS (by omega) (by omega))) (e2 _ (AS i0 i1)) n (by omega),bs]
     generalize DY s.t s.h s.injective N (AB c.Kids 0) (AB l i)=x
     by_cases e0:x.2=0
     ·rw [if_pos (by simpa using e0),if_pos e0]; try rfl
     ·rw [if_neg (by simpa using e0),if_neg e0]
      by_cases e1:x.2=10
      ·rw [if_neg (by simp [e1]),if_neg (by simp [e1])]; try rfl
      ·rw [if_pos (by simp [e1]),if_pos e1]; try rfl
   ·rw [if_pos (by simp [h6]),if_pos h6]; try rfl
  rw [if_neg (by simpa using h5),if_neg h5]; try rfl
end Go.Sf.Sc
namespace Go.Sf.Sc
open Go Go.Sf
theorem OF {c:Int->Option Int} {a b:Int} {v w:Int} (hw:w≠v) (h:∀ i,c i≠some v):(fst c a b).getD w≠v:=by
 cases hr:fst c a b with
 | none=>exact hw
 | some r=>
  obtain ⟨i,_,_,k,_⟩:=CT hr
  simp only [Option.getD_some]
  exact fun e=>h i (by rw [k,e])
theorem Wo {e v:Int} (h:e≠v):nz e≠some v:=by
 unfold nz
 split
 ·simp
 ·simpa using h
theorem Je (g:Graph):C5 g≠10:=by
 unfold C5
 split
 ·decide
 ·split
  ·decide
  ·split <;> decide
theorem VQ (l:List ByteArray):I3 l≠10:=by
 unfold I3
 split
 ·decide
 ·refine OF (by decide) (fun i=>?_)
  split
  ·decide
  ·split <;> decide
theorem WW (l:List Attr) (k:Int):Kl l k≠10:=by
 have:=VQ (AB l k).Names
 unfold Kl
 dsimp only
 split
 ·decide
 split
 ·decide
 split
 ·split <;> decide
 split
 ·exact this
 split <;> decide
theorem Wn (t:AD) (i:Int):ID t i≠10:=by
 unfold ID
 dsimp only
 split
 ·decide
 split
 ·decide
 split
 ·decide
 split
 ·decide
 exact OF (by decide) (fun i=>Wo (WW _ _))
theorem Wb (t:AD) (i:Int):It t i≠10:=by
 unfold It
 dsimp only
 split
 ·decide
 split
 ·decide
 split <;> decide
theorem Ry {α:Type} {e:Int} {x r:α} (h:(nz e).map (fun e=>(x,e))=some (r,(10:Int))):e=10:=by
 unfold nz at h
 split at h
 ·cases h
 ·simp only [Option.map_some,zzY,Prod.mk.injEq] at h; exact h.2
theorem O4 (t:AD):(BJ t).2≠10:=by
 unfold BJ
 split
 ·decide
 split
 ·decide
 split
 ·rename_i r hr
  obtain ⟨i,_,_,k,_⟩:=CT hr
  intro e
  obtain ⟨r1,r2⟩:=r
  simp only at e
  subst e
  exact Wn t i (Ry k)
 ·cases hr:fst (fun i=>(nz (It t i)).map fun e=>((AB t.Edges i).Name,e)) 0 t.Edges.length with
  | none=>decide
  | some r=>
   obtain ⟨i,_,_,k,_⟩:=CT hr
   intro e
   obtain ⟨r1,r2⟩:=r
   simp only [Option.getD_some] at e
   subst e
   exact Wb t i (Ry k)
theorem XQ (n:Int) (x:Test):Ks n x≠10:=by
 unfold Ks
 split
 ·decide
 ·split <;> decide
theorem Va (n:Int) (l:List Test):Ic n l≠10:=by
 unfold Ic
 split
 ·decide
 split
 ·decide
 exact OF (by decide) (fun i=>Wo (XQ _ _))
theorem Po (t:AD) (p:Pattern):I4 t p≠10:=by
 have h1:=O4 t
 have h2:=Je p.Graph
 have h3:=Va p.Vars p.Tests
 unfold I4
 split
 ·exact h1
 split
 ·exact h2
 split
 ·decide
 split
 ·decide
 split
 ·decide
 split
 ·decide
 split
 ·exact h3
 split <;> decide
theorem Xu (t:AD) (q:Pattern) (v:Int):Kw t q v≠10:=by
 have:=Po t q
 unfold Kw
 split
 ·exact this
 ·split <;> decide
theorem VP (a b:Graph) (m:Morphism) (i:Int):JZ a b m i≠some 10:=by
 unfold JZ
 split
 ·decide
 ·split <;> decide
theorem QM (a b:Graph) (m:Morphism) (i:Int):IV a b m i≠some 10:=by
 unfold IV
 split
 ·decide
 ·split
  ·decide
  ·split <;> decide
theorem VE (t:AD) (a b:Graph) (m:Morphism) (i:Int):LK t a b m i≠some 10:=by
 unfold LK
 split
 ·decide
 ·split <;> decide
theorem UP {c:Int->Option Int} {d:Int} {a b:Int} (h:∀ i,c i≠some 10) (hd:d≠10):(match fst c a b with | some e=>e | none=>d)≠10:=by
 cases hr:fst c a b with
 | none=>exact hd
 | some r=>
  obtain ⟨i,_,_,k,_⟩:=CT hr
  exact fun e=>h i (by rw [k]; exact congrArg some e)
theorem Xz (a b:Graph) (m:Morphism):Kx a b m≠10:=by
 have h1:=Je a
 have h2:=Je b
 unfold Kx
 split
 ·exact h1
 split
 ·exact h2
 split
 ·decide
 exact UP (VP a b m) (OF (by decide) (QM a b m))
theorem R2 (t:AD):∀ (N:Nat) (p:Pattern) (c:AA),GB N t p c≠10
 | 0,_,_=>by rw [GB]; decide
 | N+1,p,c=>by
  have hk:∀ q,(fst (fun i=>nz (GB N t q (AB c.Kids i))) 0 c.Kids.length).getD 0≠10:=fun q=>OF (by decide) (fun i=>Wo (R2 t N q _))
  have h1:=Xu t c.Pattern p.Vars
  have h2:=Xz p.Graph c.Pattern.Graph c.Map
  rw [GB]
  split
  ·split
   ·decide
   split
   ·exact h1
   split
   ·exact h2
   split
   ·decide
   exact hk _
  ·exact hk _
theorem WZ (t:AD) (p:Pattern) (c:AA):HU t p c≠10:=by
 have h1:=Po t p
 have h2:=R2 t (SizeOf.sizeOf c) p c
 unfold HU
 split
 ·exact h1
 split
 ·unfold J6
  split
  ·decide
  ·split <;> decide
 ·exact h2
theorem Rl (t:AD) (h:A0):(Mq t h).2≠10:=by
 have h1:=O4 t
 have h2:=Je h.Graph
 have hn:∀ i,KV t (AB h.Graph.Nodes i) (AB h.Values i)≠10:=by
  intro i
  unfold KV
  split
  ·decide
  split
  ·decide
  split
  ·decide
  split <;> decide
 have he:∀ i,KU t h.Graph i≠10:=by
  intro i
  unfold KU
  split
  ·decide
  split <;> decide
 unfold Mq
 split
 ·exact h1
 split
 ·exact h2
 split
 ·decide
 split
 ·rename_i r hr
  obtain ⟨i,_,_,k,_⟩:=CT hr
  intro e
  obtain ⟨r1,r2⟩:=r
  simp only at e
  subst e
  exact hn i (Ry k)
 ·cases hr:fst (fun i=>(nz (KU t h.Graph i)).map fun e=>(i,e)) 0 h.Graph.Edges.length with
  | none=>decide
  | some r=>
   obtain ⟨i,_,_,k,_⟩:=CT hr
   intro e
   obtain ⟨r1,r2⟩:=r
   simp only [Option.getD_some] at e
   subst e
   exact he i (Ry k)
theorem VN (t:AD) (p g:Graph):GW t p g≠10:=by
 have h1:=O4 t
 have h2:=Je p
 have h3:=Je g
 unfold GW
 split
 ·exact h1
 split
 ·exact h2
 split
 ·exact h3
 split <;> decide
theorem Sp (t:AD) (p g:Graph) (m:Morphism) (inj:Bool):MX t p g m inj≠10:=by
 have h1:=VN t p g
 have h2:N0 t p g m≠10:=by
  unfold N0
  split
  ·decide
  exact UP (VE t p g m) (OF (by decide) (QM p g m))
 unfold MX
 split
 ·exact h1
 split
 ·exact h2
 split <;> decide
theorem Zm {ρ:Type} {v:ρ} {h:A0} {m:Morphism}:∀ (l:List D4) (st:List Int × List Bool) (r:ρ),GT (FI v h m) l st=.inr r->r=v:=by
 intro l
 induction l with
 | nil=>intro st r h; cases h
 | cons a l ih=>
  intro st r h
  rw [GT] at h
  split at h
  ·exact ih _ _ h
  ·cases h
  ·rename_i r' h'
   cases h
   unfold FI at h'
   split at h'
   ·cases h'
   ·cases h'; rfl
theorem XG (t:AD) (p:Pattern) (h:A0) (m:Morphism):(Mv t p h m).2≠10:=by
 have h1:=Po t p
 have h2:=Rl t h
 have h3:=Sp t p.Graph h.Graph m false
 have h4:Ms t p h≠10:=by
  unfold Ms
  split
  ·exact h1
  ·exact h2
 unfold Mv
 split
 ·exact h4
 split
 ·exact h3
 unfold Lf
 split
 ·rename_i r hr
  rw [Zm _ _ _ hr]; decide
 ·split
  ·decide
  ·show (0:Int)≠10
   decide
noncomputable def Nc (t:AD) (p:Pattern) (c:AA) (h:A0) (m:AG) (inj:Bool):Int:=
 if HU t p c≠0 then HU t p c else if (Mq t h).2≠0 then (Mq t h).2 else if MX t p.Graph h.Graph m.Morphism inj≠0 then MX t p.Graph h.Graph m.Morphism inj else
 if (Mv t p h m.Morphism).2≠0 then (Mv t p h m.Morphism).2 else if (Mv t p h m.Morphism).1=m.Vars then 0 else 11
theorem ZA (t:AD) (p:Pattern) (c:AA) (h:A0) (m:AG) (inj:Bool):Nc t p c h m inj≠10:=by
 have h1:=WZ t p c
 have h2:=Rl t h
 have h3:=Sp t p.Graph h.Graph m.Morphism inj
 have h4:=XG t p h m.Morphism
 unfold Nc
 split
 ·exact h1
 split
 ·exact h2
 split
 ·exact h3
 split
 ·exact h4
 split <;> decide
theorem Zd {t:AD} (hf:CA t) (p:Pattern) {c:AA} (hc:EA c) (h:A0) (m:AG) (inj:Bool):FD t p c h m inj=some (Nc t p c h m inj):=by
 unfold FD Nc
 rw [cO hf p hc,bs]
 refine Iq fun _=>?_
 rw [X8 hf,bs]
 refine Iq fun _=>?_
 rw [V0 hf,bs]
 refine Iq fun _=>?_
 rw [cM hf,bs]
 refine Iq fun _=>?_
 rw [mG,bs]
 by_cases e:(Mv t p h m.Morphism).1=m.Vars
 ·rw [if_neg (by simp [e]),if_pos e]
 ·rw [if_pos (by simp [e]),if_neg e]
theorem aZ {t:AD} (hf:CA t) {p:Pattern} {c:AA} (hc:cnt c<=40) {h:A0} {m:AG} {inj:Bool} (e:Nc t p c h m inj=0):(BJ t).2=0∧Hg t h∧CV t p c∧M4 t p h m:=by
 unfold Nc at e
 split at e
 ·rename_i h1; exact absurd e h1
 rename_i h1
 split at e
 ·rename_i h2; exact absurd e h2
 rename_i h2
 split at e
 ·rename_i h3; exact absurd e h3
 rename_i h3
 split at e
 ·rename_i h4; exact absurd e h4
 rename_i h4
 split at e
 case isFalse=>cases e
 rename_i h5
 have h1:=Classical.not_not.1 h1
 have h2:=Classical.not_not.1 h2
 have h3:=Classical.not_not.1 h3
 have h4:=Classical.not_not.1 h4
 obtain ⟨hv,hh⟩:=Vr hf h2
 have hm:=(Xm h3).2
 unfold HU at h1
 split at h1
 ·rename_i h6; exact absurd h1 h6
 rename_i h6
 split at h1
 ·rename_i h7; exact absurd h1 h7
 rename_i h7
 have hq:=Wy hv (.inl (Classical.not_not.1 h6))
 have h7:=Classical.not_not.1 h7
 have hw:Ys c=true:=by
  unfold J6 at h7
  split at h7
  ·cases h7
  ·rename_i h8; simpa using h8
 suffices hs:(m.Vars.length:Int)=p.Vars∧MR m.Vars from ⟨hv,hh,ac hv _ c p (Nat.le_refl _) hc hw h1,hq,hm,hs.1,hs.2⟩
 have hs:∀ s∈p.Slots,JV p.Vars h m.Morphism s:=fun s hs=>OL (IK hv) hq hh hm hs
 unfold Mv at h4 h5
 split at h4
 ·rename_i h8; exact absurd h4 h8
 rename_i h8
 rw [if_neg h8] at h5
 split at h4
 ·rename_i h9; exact absurd h4 h9
 rename_i h9
 rw [if_neg h9] at h5
 have:=YX hq hs h4
 rw [h5] at this
 exact this
end Go.Sf.Sc
namespace Go.Sf.Sc
open Go Go.Sf
def KE:Nat->AA->Bool
 | 0,_=>true
 | N+1,c=>if anyR (fun i=>!KE N (AB c.Kids i)) 0 c.Kids.length=true then false else decide (A8 ((c.Pattern.Graph.Nodes.length:Int)+c.Pattern.Graph.Edges.length)<=6)
theorem TL:∀ (N:Nat) (c:AA),SizeOf.sizeOf c<=N->∀ n,N<=n->GR n c=some (KE N c)
 | 0,c,h,_,_=>by have:=DW c; omega
 | N+1,c,h,n,hn=>by
  obtain ⟨n,rfl⟩:∃ k,n=k+1:=⟨n - 1,by omega⟩
  rw [GR,KE,C1 (fun i=>!KE N (AB c.Kids i)) false]
  ·cases anyR (fun i=>!KE N (AB c.Kids i)) 0 c.Kids.length <;> rfl
  ·intro i i0 i1 _
   have:=EC (AS (l:=c.Kids) i0 i1)
   rw [AL i0 i1,bs,TL N _ (by omega) n (by omega),bs,Jx]
theorem Ui (c:AA):NO c=some (KE (SizeOf.sizeOf c) c):=HK (SizeOf.sizeOf c) fun n hn=>TL _ c (Nat.le_refl _) n hn
def Ky (a:Int):Nat->Int->Int
 | 0,s=>s
 | k+1,s=>A8 (Ky a k s*a)
theorem ap {a b k s:Int} (hk:0<=k) (hk2:k<=1000) (hb:b<=1000):JE (ρ:=Bool) (fun (s0:Int × Int)=>
  if (decide (s0.2<b))=true then
  some (.next (A8 (s0.1*a),A8 (s0.2+1)))
  else
  some (.brk (s0.1,s0.2))) (s,k)=some (.inl (Ky a (max k b - k).toNat s,max k b)):=by
 refine f0 (fun i=>Ky a (i - k).toNat s) (by omega) (by rw [show (k - k).toNat=0 by omega]; rfl) (fun i i0 i1=>?_) ?_
 ·rw [if_pos (by simp; omega),show (i+1 - k).toNat=(i - k).toNat+1 by omega,Ky]
  dsimp only
  rw [BO (n:=i+1) (by omega) (by omega)]
 ·rw [if_neg (by simp; omega)]
def KS (a b:Int):Nat->Pattern->AA->Bool
 | 0,_,_=>true
 | N+1,p,c=>
  let q:=if c.Kind=5 then c.Pattern else p
  if anyR (fun i=>!KS a b N q (AB c.Kids i)) 0 c.Kids.length=true then false else
  decide (Ky b (max (p.Graph.Edges.length:Int) q.Graph.Edges.length - p.Graph.Edges.length).toNat (Ky a (max (p.Graph.Nodes.length:Int) q.Graph.Nodes.length - p.Graph.Nodes.length).toNat 1)<=5000)
theorem Ug (a b:Int):∀ (N:Nat) (c:AA) (p:Pattern),SizeOf.sizeOf c<=N->EA c->OR p->∀ n,N<=n->E2 n p c a b=some (KS a b N p c)
 | 0,c,_,h,_,_,_,_=>by have:=DW c; omega
 | N+1,c,p,h,hc,hp,n,hn=>by
  obtain ⟨n,rfl⟩:∃ k,n=k+1:=⟨n - 1,by omega⟩
  have q1:=hc.q.nodes
  have q2:=hc.q.edges
  have p1:=hp.nodes
  have p2:=hp.edges
  have main:∀ q:Pattern,OR q->(thenR (JE (ρ:=Bool) (fun (s0:Int × Int)=>
    if (decide (s0.2<(q.Graph.Nodes.length:Int)))=true then
    some (.next (A8 (s0.1*a),A8 (s0.2+1)))
    else
    some (.brk (s0.1,s0.2))) (1,(p.Graph.Nodes.length:Int))) (fun s0=>
    thenR (JE (ρ:=Bool) (fun (s2:Int × Int)=>
    if (decide (s2.2<(q.Graph.Edges.length:Int)))=true then
    some (.next (A8 (s2.1*b),A8 (s2.2+1)))
    else
    some (.brk (s2.1,s2.2))) (s0.1,(p.Graph.Edges.length:Int))) (fun s2=>
    thenR (forR (ρ:=Bool) (fun (i4:Int) (_:Unit)=>
    (AM c.Kids i4).bind fun x61=>
    (E2 n q x61 a b).bind fun x65=>
    if (!x65)=true then
    some (.ret false)
    else
    some (.next ())) 0 (c.Kids.length:Int) ()) (fun _=>
    some (decide (s2.1<=5000))) (fun v4=>some v4)) (fun v2=>some v2)) (fun v0=>some v0)) =
    some (if anyR (fun i=>!KS a b N q (AB c.Kids i)) 0 c.Kids.length=true then false else
     decide (Ky b (max (p.Graph.Edges.length:Int) q.Graph.Edges.length - p.Graph.Edges.length).toNat (Ky a (max (p.Graph.Nodes.length:Int) q.Graph.Nodes.length - p.Graph.Nodes.length).toNat 1)<=5000)):=by
   intro q hq
   have k1:=hq.nodes
   have k2:=hq.edges
   rw [ap (by omega) (by omega) (by omega),EW]
   dsimp only
   rw [ap (by omega) (by omega) (by omega),EW,C1 (fun i=>!KS a b N q (AB c.Kids i)) false]
   ·cases anyR (fun i=>!KS a b N q (AB c.Kids i)) 0 c.Kids.length <;> rfl
   ·intro i i0 i1 _
    have:=EC (AS (l:=c.Kids) i0 i1)
    rw [AL i0 i1,bs,Ug a b N _ q (by omega) (hc.k _ (AS i0 i1)) hq n (by omega),bs,Jx]
  rw [E2,KS]
  by_cases h5:c.Kind=5
  ·rw [if_pos (by simpa using h5),if_pos h5,bs,main _ hc.q]
  ·rw [if_neg (by simpa using h5),if_neg h5,bs,main _ hp]
theorem TJ (a b:Int) {c:AA} {p:Pattern} (hc:EA c) (hp:OR p):Md p c a b=some (KS a b (SizeOf.sizeOf c) p c):=HK (SizeOf.sizeOf c) fun n hn=>Ug a b _ c p (Nat.le_refl _) hc hp n hn
theorem T8 (h:A0):∃ b,LA h=some b:=by
 unfold LA JC
 rw [bs]
 split
 ·exact ⟨_,rfl⟩
 ·rw [C1 (fun i=>decide (12<((AB h.Values i).length:Int))) false]
  ·cases anyR (fun i=>decide (12<((AB h.Values i).length:Int))) 0 h.Values.length
   ·exact ⟨true,rfl⟩
   ·exact ⟨false,rfl⟩
  ·intro i i0 i1 _
   rw [AL i0 i1,bs,Jx]
theorem TK {t:AD} (hf:CA t) (st:(At t).Sm) (p g:Graph):∃ b,Ke t p g=some b:=by
 obtain ⟨b,e,_⟩:=Sw st
 unfold Ke JC
 rw [e,bs,Zh hf]
 simp only [bs]
 cases b <;> simp only [Bool.false_eq_true,if_false,if_true,bs]
 ·exact ⟨_,rfl⟩
 ·split <;> (rw [bs]; split <;> exact ⟨_,rfl⟩)
theorem YH {t:AD} (hf:CA t) (st:(At t).Sm) (p:Pattern) {c:AA} (sc:(AF c).Sm) (h:A0):∃ b,FO t p c h=some b∧(b=true->EA c∧cnt c<=40∧OR p):=by
 obtain ⟨b1,e1,f1⟩:=Su sc
 obtain ⟨b2,e2,f2⟩:=SQ p
 obtain ⟨b3,e3⟩:=T8 h
 unfold FO
 rw [e1,bs]
 cases b1
 ·exact ⟨false,rfl,fun h=>by cases h⟩
 rw [e2]
 cases b2
 ·exact ⟨false,rfl,fun h=>by cases h⟩
 rw [e3]
 cases b3
 ·exact ⟨false,rfl,fun h=>by cases h⟩
 have hc:=f1 rfl
 have hp:=f2 rfl
 simp only [bs,Bool.not_true,Bool.false_eq_true,if_false]
 rw [YG hf p hc.1,bs]
 have hall:∀ o:Option Bool,(∃ b,o=some b)->∃ b,o=some b∧(b=true->EA c∧cnt c<=40∧OR p):=fun o ⟨b,e⟩=>⟨b,e,fun _=>⟨hc.1,hc.2,hp⟩⟩
 refine hall _ ?_
 split
 ·exact ⟨true,rfl⟩
 ·obtain ⟨b4,e4⟩:=TK hf st p.Graph h.Graph
  unfold Kg
  rw [e2,e3,e4,Ui,TJ 14 18 hc.1 hp]
  simp only [bs,if_true]
  cases b4 <;> simp only [Bool.false_eq_true,if_false,if_true,bs,Bool.false_and]
  ·exact ⟨_,rfl⟩
  ·split
   ·exact ⟨_,rfl⟩
   ·exact ⟨_,rfl⟩
noncomputable def wS (t:AD) (p:Pattern) (c:AA) (h:A0) (m:AG) (inj:Bool):BQ × Int:=
 if Nc t p c h m inj≠0 then (zP,Nc t p c h m inj) else DY t h inj (SizeOf.sizeOf c) c m
theorem YE {t:AD} (hf:CA t) (p:Pattern) {c:AA} (hc:EA c) (hk:cnt c<=40) (h:A0) (m:AG) (inj:Bool):EG t p c h m inj=some (wS t p c h m inj):=by
 unfold EG wS
 rw [Zd hf p hc,bs]
 refine OY fun h0=>?_
 obtain ⟨hv,hh,hcv,ha⟩:=aZ hf hk h0
 rw [show EI (A3.mk t h inj) c m=some (DY t h inj (SizeOf.sizeOf c) c m) from HK (2*SizeOf.sizeOf c) fun n hn=>R3 (s:=⟨t,h,inj⟩) hf hv hh _ c p m (Nat.le_refl _) hcv ha n hn]
 rfl
noncomputable def K0 (t:AD) (p:Pattern) (c:AA) (h:A0) (m:AG) (inj:Bool):Bool × Int:=
 if (wS t p c h m inj).2=10 then (false,0) else (decide ((wS t p c h m inj).2=0),(wS t p c h m inj).2)
theorem VU {t:AD} (hf:CA t) (p:Pattern) {c:AA} (hc:EA c) (hk:cnt c<=40) (h:A0) (m:AG) (inj:Bool):CR t p c h m inj=some (K0 t p c h m inj):=by
 unfold CR K0
 rw [YE hf p hc hk,bs]
 by_cases e:(wS t p c h m inj).2=10
 ·rw [if_pos (by simpa using e),if_pos e]
 ·rw [if_neg (by simpa using e),if_neg e]
end Go.Sf.Sc
namespace Go.Sf.Sc
open Go Go.Sf
end Go.Sf.Sc
namespace Go.Sf.Sc
open Go Go.Sf
end Go.Sf.Sc
namespace Go.Sf.Sc
open Go Go.Sf
def E6:List Int->Nat
 | []=>0
 | x::l=>(if x<0 then 1 else 0)+E6 l
theorem Oe {α β:Type} {F:α->List β} {B:Nat}:∀ {l:List α},(∀ k∈l,(F k).length<=B)->(l.flatMap F).length<=l.length*B
 | [],_=>by simp
 | a::l,h=>by
  have:=Oe (F:=F) (l:=l) fun k hk=>h k (by simp [hk])
  have:=h a (by simp)
  rw [List.flatMap_cons,List.length_append,List.length_cons,Nat.succ_mul]
  omega
theorem Rd {α β:Type} {F:α->List β}:∀ {l:List α},(∀ k∈l,F k=[])->l.flatMap F=[]
 | [],_=>rfl
 | a::l,h=>by rw [List.flatMap_cons,h a (by simp),Rd fun k hk=>h k (by simp [hk])]; rfl
theorem Pa {α β:Type} {F:α->List β} {B:Nat} {a:α}:∀ {l:List α},l.Nodup->(∀ k∈l,k≠a->F k=[])->(F a).length<=B->(l.flatMap F).length<=B
 | [],_,_,_=>by simp
 | b::l,hn,h,hB=>by
  rw [List.nodup_cons] at hn
  rw [List.flatMap_cons,List.length_append]
  by_cases e:b=a
  ·subst e
   rw [Rd fun k hk=>h k (by simp [hk]) fun e=>hn.1 (e ▸ hk)]
   simpa using hB
  ·rw [h b (by simp) e]
   have:=Pa hn.2 (fun k hk=>h k (by simp [hk])) hB
   simpa using this
theorem SG (n:Nat):(B2 n).Nodup:=by
 induction n with
 | zero=>simp [B2]
 | succ n ih=>
  rw [LD,List.nodup_append]
  refine ⟨ih,by simp,fun a ha b hb e=>?_⟩
  rw [List.mem_singleton] at hb
  have:=EY.1 ha
  omega
theorem Qb {l:List Int} {k:Nat} (h:k<l.length):l.drop k=AB l k::l.drop (k+1):=by
 rw [List.drop_eq_getElem_cons h]
 congr 1
 unfold AB
 rw [List.getD_eq_getElem?_getD,List.getElem?_eq_getElem (by omega)]; rfl
theorem eD:∀ (n:Nat) (f:AK),f.edges.length+n=f.partial_.Edges.length->(GX n f).length<=f.g.Edges.length ^ E6 (f.partial_.Edges.drop f.edges.length)
 | 0,f,h=>by
  rw [List.drop_of_length_le (by omega)]
  simp [GX,E6]
 | n+1,f,h=>by
  have hd:=Qb (l:=f.partial_.Edges) (k:=f.edges.length) (by omega)
  have ih:∀ k,(if Pn f k=true then GX n { f with edges:=f.edges++[k] } else []).length<=f.g.Edges.length ^ E6 (f.partial_.Edges.drop (f.edges.length+1)):=by
   intro k
   split
   ·have:=eD n { f with edges:=f.edges++[k] } (by show (f.edges++[k]).length+n=f.partial_.Edges.length; rw [List.length_append,List.length_singleton]; omega)
    have e:(f.edges++[k]).length=f.edges.length+1:=by rw [List.length_append,List.length_singleton]
    dsimp only at this
    rwa [e] at this
   ·simp
  rw [GX,hd,E6]
  by_cases h0:AB f.partial_.Edges (f.edges.length:Int)<0
  ·rw [if_pos h0,Nat.pow_add,Nat.pow_one]
   have:=Oe (l:=B2 f.g.Edges.length) (B:=f.g.Edges.length ^ E6 (f.partial_.Edges.drop (f.edges.length+1))) (fun k _=>ih k)
   rwa [DX] at this
  ·rw [if_neg h0,Nat.zero_add]
   refine Pa (a:=AB f.partial_.Edges (f.edges.length:Int)) (SG _) (fun k _ hk=>?_) (ih _)
   rw [if_neg]
   intro hok
   unfold Pn at hok
   rw [zzZ,RD,zzZ,Bool.or_eq_true,zzX,zzX] at hok
   rcases hok.1.1 with h | h
   ·exact h0 h
   ·exact hk h.symm
theorem eE:∀ (n:Nat) (f:AK),f.edges=[]->f.p.Edges.length=f.partial_.Edges.length->f.nodes.length+n=f.partial_.Nodes.length->(LF n f).length<=f.g.Nodes.length ^ E6 (f.partial_.Nodes.drop f.nodes.length)*f.g.Edges.length ^ E6 f.partial_.Edges
 | 0,f,he,hp,h=>by
  rw [List.drop_of_length_le (by omega)]
  have:=eD f.p.Edges.length f (by rw [he,hp]; simp)
  rw [he] at this
  simpa [LF,E6] using this
 | n+1,f,he,hp,h=>by
  have hd:=Qb (l:=f.partial_.Nodes) (k:=f.nodes.length) (by omega)
  have ih:∀ k,(if QO f k=true then LF n { f with nodes:=f.nodes++[k] } else []).length<=f.g.Nodes.length ^ E6 (f.partial_.Nodes.drop (f.nodes.length+1))*f.g.Edges.length ^ E6 f.partial_.Edges:=by
   intro k
   split
   ·have:=eE n { f with nodes:=f.nodes++[k] } he hp (by show (f.nodes++[k]).length+n=f.partial_.Nodes.length; rw [List.length_append,List.length_singleton]; omega)
    have e:(f.nodes++[k]).length=f.nodes.length+1:=by rw [List.length_append,List.length_singleton]
    dsimp only at this
    rwa [e] at this
   ·simp
  rw [LF,hd,E6]
  by_cases h0:AB f.partial_.Nodes (f.nodes.length:Int)<0
  ·rw [if_pos h0,Nat.pow_add,Nat.pow_one,Nat.mul_assoc]
   have:=Oe (l:=B2 f.g.Nodes.length) (B:=f.g.Nodes.length ^ E6 (f.partial_.Nodes.drop (f.nodes.length+1))*f.g.Edges.length ^ E6 f.partial_.Edges) (fun k _=>ih k)
   rwa [DX] at this
  ·rw [if_neg h0,Nat.zero_add]
   refine Pa (a:=AB f.partial_.Nodes (f.nodes.length:Int)) (SG _) (fun k _ hk=>?_) (ih _)
   rw [if_neg]
   intro hok
   unfold QO at hok
   rw [zzZ,zzZ,Bool.or_eq_true,zzX,zzX] at hok
   rcases hok.1.1 with h | h
   ·exact h0 h
   ·exact hk h.symm
theorem VM {t:AD} {p g:Graph} {pa:Morphism} {inj:Bool} (h1:pa.Nodes.length=p.Nodes.length) (h2:pa.Edges.length=p.Edges.length):(ML t p g pa inj).length<=g.Nodes.length ^ E6 pa.Nodes*g.Edges.length ^ E6 pa.Edges:=by
 have:=eE p.Nodes.length (FF t p g pa inj) rfl h2.symm (by show 0+p.Nodes.length=pa.Nodes.length; omega)
 unfold ML
 rw [List.length_take]
 exact Nat.le_trans (Nat.min_le_right _ _) this
theorem UR:∀ (l:List Int) (k:Nat) (v:Int),k<l.length->l.getD k default<0->0<=v->E6 (l.set k v)+1=E6 l
 | [],k,v,h,_,_=>by simp at h
 | x::l,0,v,_,h1,h2=>by
  simp at h1
  rw [List.set_cons_zero,E6,E6,if_neg (by omega),if_pos h1]; omega
 | x::l,k+1,v,h0,h1,h2=>by
  have:=UR l k v (by simpa using h0) (by simpa using h1) h2
  rw [List.set_cons_succ,E6,E6]
  omega
theorem ZY (n:Nat):E6 (List.replicate n (-1))=n:=by
 induction n with
 | zero=>rfl
 | succ n ih=>rw [List.replicate_succ,E6,ih]; simp; omega
theorem bZ {α:Type} [Inhabited α] {l:List α} {i j:Int} (v:α) (h0:0<=i) (h1:0<=j) (h:j≠i):AB (CB l i v) j=AB l j:=by
 unfold AB CB
 rw [List.getD_eq_getElem?_getD,List.getD_eq_getElem?_getD,List.getElem?_set]
 rw [if_neg (by omega)]
theorem TE {by' images:List Int}:∀ (ks l:List Int),(ks.map (AB by')).Nodup->(∀ k∈ks,(0<=AB by' k∧AB by' k<l.length)∧AB l (AB by' k)<0∧0<=AB images k)->E6 (ks.foldl (fun l i=>CB l (AB by' i) (AB images i)) l)+ks.length=E6 l
 | [],l,_,_=>by simp
 | k::ks,l,hn,h=>by
  obtain ⟨h1,h2,h3⟩:=h k (by simp)
  rw [List.map_cons,List.nodup_cons] at hn
  have e:=UR l (AB by' k).toNat (AB images k) (by omega) h2 h3
  have ih:=TE (by':=by') (images:=images) ks (CB l (AB by' k) (AB images k)) hn.2 (fun j hj=>by
   obtain ⟨j1,j2,j3⟩:=h j (by simp [hj])
   refine ⟨by rw [NQ]; exact j1,?_,j3⟩
   rw [bZ _ h1.1 j1.1]
   ·exact j2
   ·intro e
    exact hn.1 (List.mem_map.2 ⟨j,hj,e⟩))
  rw [List.foldl_cons,List.length_cons]
  have e2:E6 (CB l (AB by' k) (AB images k))+1=E6 l:=e
  omega
theorem U5 (l:List Int):(B2 l.length).map (AB l)=l:=by
 refine Xh (by rw [List.length_map,DX]) (fun i i0 i1=>?_)
 rw [List.length_map,DX] at i1
 exact M3 _ i0 i1
theorem Rv {n:Nat} {by' images:List Int} (hn:by'.Nodup) (hb:∀ x∈by',0<=x∧x<n) (hi:∀ k:Int,0<=k->k<by'.length->0<=AB images k):E6 (IY n by' images)+by'.length=n:=by
 have:=TE (by':=by') (images:=images) (B2 by'.length) (List.replicate n (-1)) (by rw [U5]; exact hn) (fun k hk=>by
  have hk:=EY.1 hk
  have hx:=hb _ (AS hk.1 hk.2)
  refine ⟨by simpa using hx,?_,hi k hk.1 hk.2⟩
  have:AB (List.replicate n (-1:Int)) (AB by' k)∈List.replicate n (-1:Int):=AS hx.1 (by simpa using hx.2)
  rw [List.mem_replicate] at this
  omega)
 rw [ZY,DX] at this
 exact this
def aS (p:Pattern) (c:AA):Prop:=14 ^ (c.Pattern.Graph.Nodes.length - p.Graph.Nodes.length)*18 ^ (c.Pattern.Graph.Edges.length - p.Graph.Edges.length)<=5000
theorem Nh {t:AD} {h:A0} {inj:Bool} {p:Pattern} {c:AA} {m:AG} (hv:(BJ t).2=0) (hh:Hg t h) (ha:M4 t p h m) (hi:Vd t p c) (hb:aS p c) (n1:h.Graph.Nodes.length<=14) (n2:h.Graph.Edges.length<=18):(DK t c h m inj).2=0:=by
 have inj':=hi.inj
 unfold NH at inj'
 rw [zzZ,OZ,OZ] at inj'
 have m1:=hi.map.nlen
 have m2:=hi.map.elen
 have m3:=ha.m.nlen
 have m4:=ha.m.elen
 have c1:=Rv (n:=c.Pattern.Graph.Nodes.length) (images:=m.Morphism.Nodes) inj'.1 (fun x hx=>by obtain ⟨i,i0,i1,rfl⟩:=D8 hx; exact (hi.map.node i i0 i1).1) (fun k k0 k1=>(ha.m.node k k0 (by omega)).1.1)
 have c2:=Rv (n:=c.Pattern.Graph.Edges.length) (images:=m.Morphism.Edges) inj'.2 (fun x hx=>by obtain ⟨i,i0,i1,rfl⟩:=D8 hx; exact (hi.map.edge i i0 i1).1) (fun k k0 k1=>(ha.m.edge k k0 (by omega)).1)
 have hE:∀ pa:Morphism,pa.Nodes.length=c.Pattern.Graph.Nodes.length->pa.Edges.length=c.Pattern.Graph.Edges.length->(∀ x∈pa.Nodes,-1<=x∧x<h.Graph.Nodes.length)->(∀ x∈pa.Edges,-1<=x∧x<h.Graph.Edges.length)->E6 pa.Nodes=c.Pattern.Graph.Nodes.length - p.Graph.Nodes.length->E6 pa.Edges=c.Pattern.Graph.Edges.length - p.Graph.Edges.length->(Oc t c.Pattern.Graph h.Graph pa inj).2=0:=by
  intro pa l1 l2 r1 r2 g1 g2
  unfold Oc
  rw [if_neg,if_neg (by omega),if_neg,if_neg,if_neg]
  ·have:=VM (t:=t) (g:=h.Graph) (inj:=inj) l1 l2
   rw [g1,g2] at this
   have k1:h.Graph.Nodes.length ^ (c.Pattern.Graph.Nodes.length - p.Graph.Nodes.length)<=14 ^ (c.Pattern.Graph.Nodes.length - p.Graph.Nodes.length):=Nat.pow_le_pow_left n1 _
   have k2:h.Graph.Edges.length ^ (c.Pattern.Graph.Edges.length - p.Graph.Edges.length)<=18 ^ (c.Pattern.Graph.Edges.length - p.Graph.Edges.length):=Nat.pow_le_pow_left n2 _
   have k3:=Nat.mul_le_mul k1 k2
   unfold aS at hb
   omega
  ·unfold Nv
   rw [if_neg]
   ·simp
   ·rw [List.any_eq_true]
    rintro ⟨x,hx,e⟩
    have:=r2 x hx
    unfold SL at e
    rw [Bool.or_eq_true,zzX,zzX] at e
    omega
  ·unfold Nv
   rw [if_neg]
   ·simp
   ·rw [List.any_eq_true]
    rintro ⟨x,hx,e⟩
    have:=r1 x hx
    unfold SL at e
    rw [Bool.or_eq_true,zzX,zzX] at e
    omega
  ·unfold GW
   rw [if_neg (by simp [hv]),if_neg (by simp [hi.q.ge]),if_neg (by simp [hh.ge]),if_pos (by rw [hi.q.ty,hh.ty]; rfl)]
   simp
 have hp:=hE ⟨IY c.Pattern.Graph.Nodes.length c.Map.Nodes m.Morphism.Nodes,IY c.Pattern.Graph.Edges.length c.Map.Edges m.Morphism.Edges⟩ (R5 _ _ _) (R5 _ _ _) (fun x hx=>by
  rcases R6 hx with e | ⟨k,hk,e⟩
  ·omega
  ·have:=(ha.m.node k hk.1 (by omega)).1; omega) (fun x hx=>by
  rcases R6 hx with e | ⟨k,hk,e⟩
  ·omega
  ·have:=ha.m.edge k hk.1 (by omega); omega) (by show E6 (IY _ _ _)=_; omega) (by show E6 (IY _ _ _)=_; omega)
 unfold DK
 dsimp only
 rw [if_neg (by rw [hp]; simp)]
end Go.Sf.Sc
namespace Go.Sf.Sc
open Go Go.Sf
def Oi (t:AD) (p:Pattern) (c:AA):Int:=
 if c.Pattern.Vars<p.Vars then 20 else if Kw t c.Pattern p.Vars≠0 then Kw t c.Pattern p.Vars else
 if Kx p.Graph c.Pattern.Graph c.Map≠0 then Kx p.Graph c.Pattern.Graph c.Map else if NH c.Map=false then 1 else 0
inductive CG (t:AD):Pattern->AA->Prop where
 | mk (p:Pattern) (c:AA) (ex:c.Kind=5->Oi t p c=0∧aS p c) (kids:∀ k∈c.Kids,CG t (if c.Kind=5 then c.Pattern else p) k):CG t p c
theorem CG.ex {t:AD} {p:Pattern} {c:AA} (h:CG t p c):c.Kind=5->Oi t p c=0∧aS p c:=by cases h; assumption
theorem CG.kids {t:AD} {p:Pattern} {c:AA} (h:CG t p c):∀ k∈c.Kids,CG t (if c.Kind=5 then c.Pattern else p) k:=by cases h; assumption
theorem CG.kid {t:AD} {p:Pattern} {c:AA} (h:CG t p c) (h5:¬ c.Kind=5):∀ k∈c.Kids,CG t p k:=fun k hk=>by have:=h.kids k hk; rwa [if_neg h5] at this
theorem CG.kid5 {t:AD} {p:Pattern} {c:AA} (h:CG t p c) (h5:c.Kind=5):∀ k∈c.Kids,CG t c.Pattern k:=fun k hk=>by have:=h.kids k hk; rwa [if_pos h5] at this
theorem cJ (t:AD) (p:Pattern) (c:AA) (N:Nat):GB (N+1) t p c=if c.Kind=5∧Oi t p c≠0 then Oi t p c else (fst (fun i=>nz (GB N t (if c.Kind=5 then c.Pattern else p) (AB c.Kids i))) 0 c.Kids.length).getD 0:=by
 rw [GB]
 by_cases h5:c.Kind=5
 ·rw [if_pos h5,if_pos h5]
  unfold Oi
  by_cases h1:c.Pattern.Vars<p.Vars
  ·rw [if_pos h1,if_pos h1,if_pos ⟨h5,by decide⟩]
  rw [if_neg h1,if_neg h1]
  by_cases h2:Kw t c.Pattern p.Vars≠0
  ·rw [if_pos h2,if_pos h2,if_pos ⟨h5,h2⟩]
  rw [if_neg h2,if_neg h2]
  by_cases h3:Kx p.Graph c.Pattern.Graph c.Map≠0
  ·rw [if_pos h3,if_pos h3,if_pos ⟨h5,h3⟩]
  rw [if_neg h3,if_neg h3]
  by_cases h4:NH c.Map=false
  ·rw [if_pos h4,if_pos h4,if_pos ⟨h5,by decide⟩]
  rw [if_neg h4,if_neg h4,if_neg (by simp)]
 ·rw [if_neg h5,if_neg h5,if_neg (by simp [h5])]
theorem SS {a:Nat} (ha:a<=18) (h1:1<=a) {s:Nat}:∀ k:Nat,(∀ j,j<=k->a ^ j*s<=18 ^ 6)->Ky a k s=((a ^ k*s:Nat):Int)
 | 0,_=>by simp [Ky]
 | k+1,h=>by
  have e:=SS ha h1 (s:=s) k fun j hj=>h j (by omega)
  have b:=h (k+1) (Nat.le_refl _)
  rw [Ky,e]
  have e2:((a ^ k*s:Nat):Int)*(a:Int)=((a ^ (k+1)*s:Nat):Int):=by
   rw [Nat.pow_succ]; push_cast; rw [Int.mul_right_comm]
  rw [e2,BO (by omega) (by
   have:((18:Nat) ^ 6)=34012224:=by decide
   omega)]
theorem dy {p q:Pattern} (h:Ky 18 (max (p.Graph.Edges.length:Int) q.Graph.Edges.length - p.Graph.Edges.length).toNat (Ky 14 (max (p.Graph.Nodes.length:Int) q.Graph.Nodes.length - p.Graph.Nodes.length).toNat 1)<=5000) (hs:q.Graph.Nodes.length+q.Graph.Edges.length<=6) :
  14 ^ (q.Graph.Nodes.length - p.Graph.Nodes.length)*18 ^ (q.Graph.Edges.length - p.Graph.Edges.length)<=5000:=by
 have e1:(max (p.Graph.Edges.length:Int) q.Graph.Edges.length - p.Graph.Edges.length).toNat=q.Graph.Edges.length - p.Graph.Edges.length:=by omega
 have e2:(max (p.Graph.Nodes.length:Int) q.Graph.Nodes.length - p.Graph.Nodes.length).toNat=q.Graph.Nodes.length - p.Graph.Nodes.length:=by omega
 rw [e1,e2] at h
 generalize hj:q.Graph.Edges.length - p.Graph.Edges.length=j at *
 generalize hk:q.Graph.Nodes.length - p.Graph.Nodes.length=k at *
 have hjk:k+j<=6:=by omega
 have b1:∀ i,i<=k->14 ^ i*1<=18 ^ 6:=fun i hi=>by
  rw [Nat.mul_one]
  exact Nat.le_trans (Nat.pow_le_pow_left (by omega) i) (Nat.pow_le_pow_right (by omega) (by omega))
 have b2:∀ i,i<=j->18 ^ i*(14 ^ k*1)<=18 ^ 6:=fun i hi=>by
  rw [Nat.mul_one]
  refine Nat.le_trans (Nat.mul_le_mul_left _ (Nat.pow_le_pow_left (by omega:14<=18) k)) ?_
  rw [←Nat.pow_add]
  exact Nat.pow_le_pow_right (by omega) (by omega)
 have m1:=SS (a:=14) (by omega) (by omega) (s:=1) k b1
 have m2:=SS (a:=18) (by omega) (by omega) (s:=14 ^ k*1) j b2
 have m1':Ky 14 k 1=((14 ^ k*1:Nat):Int):=m1
 have m2':Ky 18 j ((14 ^ k*1:Nat):Int)=((18 ^ j*(14 ^ k*1):Nat):Int):=m2
 rw [m1',m2',Nat.mul_one,Nat.mul_comm] at h
 omega
theorem aY {t:AD}:∀ (N:Nat) {p:Pattern} {c:AA},SizeOf.sizeOf c<=N->(∀ M,M=N->GB M t p c=0)->KS 14 18 N p c=true->KE N c=true->EA c->CG t p c
 | 0,_,c,h,_,_,_,_=>by have:=DW c; omega
 | N+1,p,c,h,ho,hb,hn,hf=>by
  have ho:=ho _ rfl
  rw [cJ] at ho
  rw [KS] at hb
  rw [KE] at hn
  generalize hq:(if c.Kind=5 then c.Pattern else p)=q at hb
  try dsimp only at hb
  split at hb
  ·cases hb
  rename_i hb1
  split at hn
  ·cases hn
  rename_i hn1
  rw [zzX] at hb hn
  rw [Bool.not_eq_true,EB] at hb1 hn1
  have q1:=hf.q.nodes
  have q2:=hf.q.edges
  rw [BO (by omega) (by omega)] at hn
  have hkid:(fst (fun i=>nz (GB N t (if c.Kind=5 then c.Pattern else p) (AB c.Kids i))) 0 c.Kids.length).getD 0=0:=by
   by_cases hx:c.Kind=5∧Oi t p c≠0
   ·rw [if_pos hx] at ho; exact absurd ho hx.2
   ·rwa [if_neg hx] at ho
  refine .mk p c (fun h5=>⟨?_,?_⟩) (fun k hk=>?_)
  ·by_cases hx:Oi t p c≠0
   ·rw [if_pos ⟨h5,hx⟩] at ho; exact ho
   ·exact Classical.not_not.1 hx
  ·rw [if_pos h5] at hq
   subst hq
   exact dy hb (by omega)
  ·have hs:=EC hk
   obtain ⟨i,i0,i1,rfl⟩:=D8 hk
   refine aY N (by omega) (fun M hM=>by subst hM; exact Ri hkid i i0 i1) ?_ ?_ (hf.k _ hk)
   ·have:=hb1 i i0 i1
    rw [hq]
    simpa using this
   ·have:=hn1 i i0 i1
    simpa using this
mutual
def G1 (t:AD) (h:A0) (inj:Bool):AA->AG->Bool
 | ⟨k,kids,mp,p⟩,m=>
  if k=2 then !((Qa t h inj kids).headD fun _=>true) m else
  if k=3 then (Qa t h inj kids).all fun f=>f m else
  if k=4 then (Qa t h inj kids).any fun f=>f m else
  if k=5 then (DK t ⟨k,kids,mp,p⟩ h m inj).1.any ((Qa t h inj kids).headD fun _=>true) else true
def Qa (t:AD) (h:A0) (inj:Bool):List AA->List (AG->Bool)
 | []=>[]
 | c::l=>G1 t h inj c::Qa t h inj l
end
theorem T2 (t:AD) (h:A0) (inj:Bool):∀ l,Qa t h inj l=l.map (G1 t h inj)
 | []=>rfl
 | c::l=>by rw [Qa,T2 t h inj l]; rfl
theorem T3 (t:AD) (h:A0) (inj:Bool) (c:AA) (m:AG):G1 t h inj c m =
  if c.Kind=2 then !((c.Kids.map (G1 t h inj)).headD fun _=>true) m else
  if c.Kind=3 then c.Kids.all fun k=>G1 t h inj k m else
  if c.Kind=4 then c.Kids.any fun k=>G1 t h inj k m else
  if c.Kind=5 then (DK t c h m inj).1.any ((c.Kids.map (G1 t h inj)).headD fun _=>true) else true:=by
 cases c
 rw [G1,T2,List.all_map,List.any_map]
 rfl
theorem Lz {α:Type} [Inhabited α] {β:Type} {l:List α} {f:α->β} {d:β} (h:l.length=1):(l.map f).headD d=f (AB l 0):=by
 obtain ⟨x,rfl⟩:=List.length_eq_one_iff.1 h
 rfl
theorem Vq {w:Int->BQ × Int} {d:Int->Bool} {F:Int->Option (BQ × Int)} {n:Int} (hw:∀ i,0<=i->i<n->(w i).2=if d i=true then 0 else 10)
  (hF:∀ i,0<=i->i<n->((F i).map (·.2))=if (w i).2=0 then some 0 else if (w i).2≠10 then some (w i).2 else none):((fst F 0 n).getD (zP,10)).2=if anyR d 0 n=true then 0 else 10:=by
 cases hr:fst F 0 n with
 | none=>
  have h0:=C2.1 hr
  rw [if_neg]
  ·rfl
  ·rw [Bool.not_eq_true,EB]
   intro i i0 i1
   have h1:=hF i i0 i1
   rw [h0 i i0 i1,hw i i0 i1] at h1
   cases hd:d i
   ·rfl
   ·rw [hd] at h1; simp at h1
 | some r=>
  obtain ⟨i,i0,i1,k,_⟩:=CT hr
  have h1:=hF i i0 i1
  rw [k,hw i i0 i1] at h1
  cases hd:d i
  ·rw [hd] at h1; simp at h1
  ·rw [hd] at h1
   rw [if_pos (by rw [JH]; exact ⟨i,i0,i1,hd⟩)]
   simpa using h1
theorem Tu {w:AA->BQ × Int} {d:AA->Bool}:∀ (l:List AA) (s:BQ × BQ),(∀ k∈l,(w k).2=if d k=true then 0 else 10)->(match GT (QU w) l s with | .inl s=>(s.2,(0:Int)) | .inr r=>r).2=if l.all d=true then 0 else 10
 | [],s,_=>rfl
 | k::l,s,h=>by
  have hk:=h k (by simp)
  rw [GT]
  unfold QU
  rw [List.all_cons]
  cases hd:d k
  ·rw [hd] at hk
   rw [if_pos (by rw [hk]; decide)]
   simpa using hk
  ·rw [hd] at hk
   rw [if_neg (by rw [hk]; decide),Bool.true_and]
   exact Tu l _ fun k hk=>h k (by simp [hk])
theorem WN {t:AD} {h:A0} {inj:Bool} (hv:(BJ t).2=0) (hh:Hg t h) (n1:h.Graph.Nodes.length<=14) (n2:h.Graph.Edges.length<=18):∀ (N:Nat) (c:AA) (p:Pattern) (m:AG),SizeOf.sizeOf c<=N->CV t p c->CG t p c->M4 t p h m->(DY t h inj N c m).2=if G1 t h inj c m=true then 0 else 10
 | 0,c,_,_,h,_,_,_=>by have:=DW c; omega
 | N+1,c,p,m,hs,hc,hg,ha=>by
  have kid:∀ k∈c.Kids,SizeOf.sizeOf k<=N:=fun k hk=>by have:=EC hk; omega
  have ih:=WN hv hh n1 n2 (inj:=inj) N
  rw [DY,T3]
  by_cases h2:c.Kind=2
  ·have h1:=hc.one (.inl h2)
   rw [if_pos h2,if_pos h2,Lz h1]
   have hk:=AS (l:=c.Kids) (i:=0) (by omega) (by omega)
   have e:=ih _ p m (kid _ hk) (hc.kid (by omega) _ hk) (hg.kid (by omega) _ hk) ha
   cases hd:G1 t h inj (AB c.Kids 0) m
   ·rw [hd] at e
    rw [if_neg (by rw [e]; decide),if_pos (by rw [e]; rfl)]; rfl
   ·rw [hd] at e
    rw [if_pos (by rw [e]; rfl)]; rfl
  rw [if_neg h2,if_neg h2]
  by_cases h3:c.Kind=3
  ·rw [if_pos h3,if_pos h3]
   exact Tu c.Kids (zP,zP) fun k hk=>ih k p m (kid k hk) (hc.kid (by omega) k hk) (hg.kid (by omega) k hk) ha
  rw [if_neg h3,if_neg h3]
  by_cases h4:c.Kind=4
  ·rw [if_pos h4,if_pos h4,JX]
   refine Vq (w:=fun i=>DY t h inj N (AB c.Kids i) m) (fun i i0 i1=>?_) (fun i i0 i1=>?_)
   ·have hk:=AS i0 i1
    exact ih _ p m (kid _ hk) (hc.kid (by omega) _ hk) (hg.kid (by omega) _ hk) ha
   ·try dsimp only
    split
    ·rfl
    ·split <;> rfl
  rw [if_neg h4,if_neg h4]
  by_cases h5:c.Kind=5
  ·rw [if_pos h5,if_pos h5]
   have hi:=hc.ins h5
   have h1:=hc.one (.inr h5)
   have e0:=Nh (inj:=inj) hv hh ha hi (hg.ex h5).2 n1 n2
   obtain ⟨e1,e2⟩:=OD hv hh ha hi e0
   have hk:=AS (l:=c.Kids) (i:=0) (by omega) (by omega)
   rw [if_neg (by simp [e0]),Lz h1,JX]
   refine Vq (w:=fun i=>DY t h inj N (AB c.Kids 0) (AB (DK t c h m inj).1 i)) (fun i i0 i1=>?_) (fun i i0 i1=>?_)
   ·exact ih _ c.Pattern _ (kid _ hk) (hc.kid5 h5 _ hk) (hg.kid5 h5 _ hk) (e2 _ (AS i0 i1))
   ·try dsimp only
    split
    ·rfl
    ·split <;> rfl
  rw [if_neg h5,if_neg h5]; rfl
end Go.Sf.Sc
namespace Go.Sf.Sc
open Go Go.Sf
section
variable (t:AD) (h:A0) (inj:Bool) (m:AG)
end
end Go.Sf.Sc
namespace Go.Sf.Sc
open Go Go.Sf
def U8 (x:Int):Prop:=0<=x∧x<256
theorem U8.w {x:Int} (h:U8 x):A8 x=x:=BO (by have:=h.1; omega) (by have:=h.2; omega)
structure WS (n:CJ) (i:Int):Prop where
 name:n.Name.size<=40
 par:-1<=n.Parent∧n.Parent<i
 attrs:n.Attrs.length<=1
 each:∀ a∈n.Attrs,PE a
structure Td (t:AD) (i:Int):Prop where
 len:(t.Nodes.length:Int)=i
 node:∀ k:Int,0<=k->k<i->WS (AB t.Nodes k) k
theorem Td.app {t:AD} {i:Int} (h:Td t i) {n:CJ} (hn:WS n i):Td ⟨t.Nodes++[n],t.Edges⟩ (i+1):=by
 refine ⟨by simp [←h.len],fun k k0 k1=>?_⟩
 have hl:=h.len
 by_cases e:k=i
 ·subst e
  rw [show AB (t.Nodes++[n]) k=n from SK _ _ (by omega)]
  exact hn
 ·rw [show AB (t.Nodes++[n]) k=AB t.Nodes k from PH _ _ k0 (by omega)]
  exact h.node k k0 (by omega)
structure Te (t:AD):Prop where
 n:Td t t.Nodes.length
 pos:0<t.Nodes.length
 nodes:t.Nodes.length<=6
 edges:t.Edges.length<=5
 edge:∀ e∈t.Edges,e.Name.size<=40∧(0<=e.From∧e.From<t.Nodes.length)∧0<=e.To∧e.To<t.Nodes.length
theorem Te.few {t:AD} (h:Te t):CA t:=by
 have hn:∀ n∈t.Nodes,∃ i,WS n i:=fun n hn=>by
  obtain ⟨i,i0,i1,rfl⟩:=D8 hn
  exact ⟨i,h.n.node i i0 i1⟩
 refine ⟨by have:=h.nodes; omega,by have:=h.edges; omega,fun n hm=>?_,fun n hm=>?_,fun n hm=>?_,fun e he=>?_⟩
 ·obtain ⟨i,k⟩:=hn n hm; have:=k.name; omega
 ·obtain ⟨i,k⟩:=hn n hm; have:=k.attrs; omega
 ·obtain ⟨i,k⟩:=hn n hm; exact k.each
 ·have:=(h.edge e he).1; omega
theorem Te.par {t:AD} (h:Te t):GG t t.Nodes.length:=fun i i0 i1=>(h.n.node i i0 i1).par
end Go.Sf.Sc
namespace Go.Sf.Sc
open Go Go.Sf
structure pw (t:AD) (g:Graph):Prop where
 nodes:g.Nodes.length<=8
 edges:g.Edges.length<=10
 kind:∀ n∈g.Nodes,0<=n∧n<t.Nodes.length
structure gB (p:Pattern):Prop where
 nodes:p.Graph.Nodes.length<=8
 edges:p.Graph.Edges.length<=10
 slots:p.Slots.length<=4
 tests:p.Tests.length<=3
 vars:0<=p.Vars∧p.Vars<=3
end Go.Sf.Sc
namespace Go.Sf.Sc
open Go Go.Sf
structure M7 (t:AD) (p:Pattern) (h:A0) (inj:Bool) (m:AG):Prop where
 chk:MX t p.Graph h.Graph m.Morphism inj=0
 solve:Lf p h m.Morphism=(m.Vars,0)
end Go.Sf.Sc
namespace Go.Sf.Sc
open Go Go.Sf
structure py (p q:Pattern):Prop where
 nodes:q.Graph.Nodes.length<=p.Graph.Nodes.length+1
 edges:q.Graph.Edges.length<=p.Graph.Edges.length+1
 slots:q.Slots.length<=1
 tests:q.Tests.length<=1
 vars:0<=q.Vars∧q.Vars<=20
end Go.Sf.Sc
namespace Go.Sf.Sc
open Go Go.Sf
structure tI (p:Pattern) (depth:Int):Prop where
 d:0<=depth∧depth<=2
 nodes:(p.Graph.Nodes.length:Int)+depth<=20
 edges:(p.Graph.Edges.length:Int)+depth<=20
 vars:0<=p.Vars∧p.Vars<=20
end Go.Sf.Sc
namespace Go.Sf.Sc
open Go Go.Sf
theorem KG {α:Type} {e:α->TV} {n:Nat} {l:List α} (h:l.length<=1000) (hx:∀ x∈l,(e x).Sm):TV.Sm (eL n e l):=by
 show TV.Sm (.list n (l.map e))
 simp only [TV.Sm,List.length_map]
 refine ⟨by unfold reachBytes; omega,OM.2 fun t ht=>?_⟩
 obtain ⟨x,hm,rfl⟩:=List.mem_map.1 ht
 exact hx x hm
theorem Sb {l:List Int} (h:l.length<=1000):TV.Sm (eL 1 eI l):=KG h fun _ _=>trivial
theorem SD {s:ByteArray} (h:(s.size:Int)<=1000):TV.Sm (eS s):=by
 show TV.Sm (.str s)
 simp only [TV.Sm]
 unfold reachBytes; omega
theorem Zw {t:AD} (h:CA t):(At t).Sm:=by
 have h1:=h.nodes
 have h2:=h.edges
 refine ⟨KG (by omega) fun n hn=>?_,KG (by omega) fun e he=>?_,trivial⟩
 ·have:=h.name n hn
  have:=h.attrs n hn
  refine ⟨SD (by omega),trivial,trivial,KG (by omega) fun a ha=>?_,trivial⟩
  have ha:=h.each n hn a ha
  have:=ha.name
  have:=ha.names
  exact ⟨SD (by omega),trivial,trivial,KG (by omega) fun x hx=>SD (by have:=ha.each x hx; omega),trivial⟩
 ·have:=h.ename e he
  exact ⟨SD (by omega),trivial,trivial,trivial,trivial,trivial,trivial,trivial⟩
theorem V7:∀ (N:Nat) (c:AA),SizeOf.sizeOf c<=N->EA c->cnt c<=1000->(AF c).Sm
 | 0,c,h,_,_=>by have:=DW c; omega
 | N+1,c,h,hf,hn=>by
  have q1:=hf.q.nodes
  have q2:=hf.q.edges
  have q3:=hf.q.slots
  have q4:=hf.q.tests
  have m1:=hf.m.nodes
  have m2:=hf.m.edges
  have hc:=KT c
  have hl:=PP c.Kids
  refine ⟨trivial,?_,Sb (by omega),Sb (by omega),Sb (by omega),KG (by omega) fun _ _=>⟨trivial,trivial,trivial,trivial⟩,KG (by omega) fun _ _=>⟨trivial,trivial,trivial,trivial,trivial⟩,trivial,KG (by omega) fun _ _=>⟨trivial,trivial,trivial,trivial,trivial,trivial⟩,trivial⟩
  rw [Jm]
  refine KG (n:=9) (by omega) fun k hk=>?_
  have:=EC hk
  have:=ND hk
  exact V7 N k (by omega) (hf.k k hk) (by omega)
structure RI (p:Pattern) (c:AA) (h:A0):Prop where
 few:EA c
 cnt:cnt c<=40
 q:OR p
 bound:KS 14 18 (SizeOf.sizeOf c) p c=true
 narrow:KE (SizeOf.sizeOf c) c=true
 nodes:h.Graph.Nodes.length<=6
 edges:h.Graph.Edges.length<=8
theorem ZW {t:AD} (hf:CA t) {p:Pattern} {c:AA} (hc:EA c) (hk:cnt c<=1000) (he:HU t p c=0) (h:A0):∃ b,FO t p c h=some b∧(b=true->RI p c h):=by
 obtain ⟨b1,e1,f1⟩:=Su (V7 _ c (Nat.le_refl _) hc hk)
 obtain ⟨b2,e2,f2⟩:=SQ p
 obtain ⟨b3,e3⟩:=T8 h
 unfold FO
 rw [e1,bs]
 cases b1
 ·exact ⟨false,rfl,fun h=>by cases h⟩
 rw [e2]
 cases b2
 ·exact ⟨false,rfl,fun h=>by cases h⟩
 rw [e3]
 cases b3
 ·exact ⟨false,rfl,fun h=>by cases h⟩
 have hc':=f1 rfl
 have hp:=f2 rfl
 simp only [bs,Bool.not_true,Bool.false_eq_true,if_false]
 rw [YG hf p hc,bs,if_neg (by simp [he])]
 obtain ⟨b4,e4⟩:=TK hf (Zw hf) p.Graph h.Graph
 unfold Kg
 rw [e2,e3,e4,Ui,TJ 14 18 hc hp]
 simp only [bs,if_true]
 cases b4
 ·simp only [Bool.false_eq_true,if_false,bs,Bool.false_and]
  exact ⟨_,rfl,fun h=>by cases h⟩
 simp only [if_true,bs]
 split
 ·rename_i hcond
  rw [bs,bs]
  refine ⟨_,rfl,fun hb=>?_⟩
  rw [zzZ,zzZ,zzX,zzX] at hcond
  exact ⟨hc,hc'.2,hp,hb,hcond.1.1,by omega,by omega⟩
 ·exact ⟨_,rfl,fun h=>by cases h⟩
end Go.Sf.Sc
namespace Go.Sf.Sc
open Go Go.Sf
structure px (t:AD) (p:Pattern) (c:AA) (h:A0) (l:List AG) (inj:Bool):Prop where
 few:CA t
 hv:(BJ t).2=0
 pat:gB p
 cond:HU t p c=0
 ph:Ms t p h=0
 each:∀ m∈l,M7 t p h inj m
 len:l.length<=30
 light:RI p c h
theorem PQ {t:AD} {p:Pattern} {c:AA} (h:HU t p c=0):I4 t p=0∧J6 c=0∧GB (SizeOf.sizeOf c) t p c=0:=by
 unfold HU at h
 split at h
 ·rename_i k; exact absurd h k
 rename_i k1
 split at h
 ·rename_i k; exact absurd h k
 rename_i k2
 exact ⟨Classical.not_not.1 k1,Classical.not_not.1 k2,h⟩
theorem ZV {t:AD} {p:Pattern} {c:AA} {h:A0} (hl:RI p c h) (he:HU t p c=0):CG t p c:=
 aY _ (Nat.le_refl _) (fun M hM=>by rw [hM]; exact (PQ he).2.2) hl.bound hl.narrow hl.few
end Go.Sf.Sc
namespace Go.Sf.Sc
open Go Go.Sf
end Go.Sf.Sc
namespace Go.Sf.Sc
open Go Go.Sf
def uS (kd:Int) (a b:AA):AA:=⟨kd,[a,b],⟨[],[]⟩,⟨⟨[],[]⟩,[],0,[]⟩⟩
end Go.Sf.Sc
namespace Go.Sf.Sc
open Go Go.Sf
theorem cX {n:Nat} {by' images:List Int} (hb:∀ x∈by',0<=x∧x<n) (hl:by'.length<=images.length) (l:List Int):forA (fun (i0:Int) (s0:Morphism)=>
  (AM by' i0).bind fun x18=>
  (AM images i0).bind fun x24=>
  (AM s0.Nodes x18).bind fun _=>
  some (Morphism.mk (CB s0.Nodes x18 x24) s0.Edges)) 0 (by'.length:Int) ⟨List.replicate n (-1),l⟩=some ⟨IY n by' images,l⟩:=by
 rw [Hz (a:=0) (b:=by'.length) (s:=⟨List.replicate n (-1),l⟩) (fun i=>(⟨(B2 i.toNat).foldl (fun l i=>CB l (AB by' i) (AB images i)) (List.replicate n (-1)),l⟩:Morphism)) (by omega) rfl,Int.toNat_natCast]
 ·rfl
 intro i i0 i1
 have hx:=hb _ (AS i0 i1)
 rw [AL i0 i1,bs,AL i0 (by omega),bs,AL hx.1 (by rw [MK]; simpa using hx.2),bs,Ln i0,List.foldl_append]; rfl
theorem cW {n:Nat} {by' images:List Int} (hb:∀ x∈by',0<=x∧x<n) (hl:by'.length<=images.length) (l:List Int):forA (fun (i0:Int) (s0:Morphism)=>
  (AM by' i0).bind fun x18=>
  (AM images i0).bind fun x24=>
  (AM s0.Edges x18).bind fun _=>
  some (Morphism.mk s0.Nodes (CB s0.Edges x18 x24))) 0 (by'.length:Int) ⟨l,List.replicate n (-1)⟩=some ⟨l,IY n by' images⟩:=by
 rw [Hz (a:=0) (b:=by'.length) (s:=⟨l,List.replicate n (-1)⟩) (fun i=>(⟨l,(B2 i.toNat).foldl (fun l i=>CB l (AB by' i) (AB images i)) (List.replicate n (-1))⟩:Morphism)) (by omega) rfl,Int.toNat_natCast]
 ·rfl
 intro i i0 i1
 have hx:=hb _ (AS i0 i1)
 rw [AL i0 i1,bs,AL i0 (by omega),bs,AL hx.1 (by rw [MK]; simpa using hx.2),bs,Ln i0,List.foldl_append]; rfl
end Go.Sf.Sc
namespace Go.Sf.Sc
open Go Go.Sf
theorem Tv {α:Type} [Inhabited α] {l:List α} {i:Int} (v:α) (h0:0<=i) (h1:i<l.length):AB (CB l i v) i=v:=by
 unfold AB CB
 rw [List.getD_eq_getElem?_getD,List.getElem?_set_self (by omega)]; rfl
theorem Zv {ρ:Type} {r:ρ} {n:Int} {h:A0} {m:Morphism} {s:D4} (hs:JV n h m s) {st:List Int × List Bool} (hi:VI n st) :
  (if (decide (s.Term.Var<0))=true then
  if (!decide ((A8 (Ij h m s - s.Term.Add))=0))=true then
  some (CY.ret r)
  else
  some (.next (st.1,st.2))
  else
  (AM st.2 s.Term.Var).bind fun x78=>
  if (!x78)=true then
  (AM st.1 s.Term.Var).bind fun _=>
  (AM st.2 s.Term.Var).bind fun _=>
  some (.next (CB st.1 s.Term.Var (A8 (Ij h m s - s.Term.Add)),CB st.2 s.Term.Var true))
  else
  (AM st.1 s.Term.Var).bind fun x91=>
  if (!decide (x91=(A8 (Ij h m s - s.Term.Add))))=true then
  some (.ret r)
  else
  some (.next (st.1,st.2)))=some (FI r h m s st):=by
 have hl:=hs.term.high
 have l1:=hi.l1
 have l2:=hi.l2
 have hv:=hs.has
 have ha:=hs.term.add
 have e1:A8 (Ij h m s - s.Term.Add)=Ij h m s - s.Term.Add:=BO (by omega) (by omega)
 unfold FI
 by_cases h0:s.Term.Var<0
 ·have sn:Iv h m s st=st:=by unfold Iv; rw [if_neg (fun e=>by omega)]
  have ht:EL s.Term st.1=s.Term.Add:=by unfold EL; rw [if_pos h0]
  rw [if_pos (by simpa using h0),sn,ht,e1]
  by_cases e:Ij h m s - s.Term.Add=0
  ·rw [if_neg (by simp [e]),if_pos (by omega)]
  ·rw [if_pos (by simp [e]),if_neg (by omega)]
 ·rw [if_neg (by simpa using h0),AL (by omega) (by omega),bs]
  by_cases hk:AB st.2 s.Term.Var=false
  ·have sn:Iv h m s st=(CB st.1 s.Term.Var (A8 (Ij h m s - s.Term.Add)),CB st.2 s.Term.Var true):=by unfold Iv; rw [if_pos ⟨by omega,hk⟩]
   have ht:EL s.Term (CB st.1 s.Term.Var (A8 (Ij h m s - s.Term.Add)))=Ij h m s:=by
    unfold EL
    rw [if_neg h0,Tv _ (by omega) (by omega),e1,BO (by omega) (by omega)]; omega
   rw [if_pos (by simp [hk]),AL (by omega) (by omega),bs,bs,sn,if_pos ht]
  ·have hx:=hi.small _ (AS (l:=st.1) (i:=s.Term.Var) (by omega) (by omega))
   have sn:Iv h m s st=st:=by unfold Iv; rw [if_neg (fun e=>hk e.2)]
   have ht:EL s.Term st.1=AB st.1 s.Term.Var+s.Term.Add:=by unfold EL; rw [if_neg h0,BO (by omega) (by omega)]
   rw [if_neg (by simpa using hk),AL (by omega) (by omega),bs,sn,ht,e1]
   by_cases e:AB st.1 s.Term.Var=Ij h m s - s.Term.Add
   ·rw [if_neg (by simp [e]),if_pos (by omega)]
   ·rw [if_pos (by simp [e]),if_neg (by omega)]
theorem eG {s:AE} {q:Pattern} {m:Morphism} {t:AD} {given:List Int} (hq:PG t q) (hs:∀ x∈q.Slots,JV q.Vars s.h m x) (hg:given.length<=q.Vars) (hv:MR given):FK s q m given=some (Ku q s.h m given):=by
 have hn:=hq.vars
 unfold FK Ku
 have em:KM q.Vars false=some (List.replicate q.Vars.toNat false):=by
  unfold KM
  rw [if_pos (by omega)]
 have ez:KM q.Vars (0:Int)=some (List.replicate q.Vars.toNat 0):=by
  unfold KM
  rw [if_pos (by omega)]
 rw [ez,bs,em,bs]
 have ek:forA (fun (i0:Int) (s0:List Int × List Bool)=>
   (AM given i0).bind fun x31=>
   (AM s0.1 i0).bind fun x38=>
   (AM s0.2 i0).bind fun x39=>
   some (CB s0.1 i0 x31,CB s0.2 i0 true)) 0 (given.length:Int) (List.replicate q.Vars.toNat 0,List.replicate q.Vars.toNat false)=some (given++List.replicate (q.Vars - given.length).toNat 0,Hk q.Vars.toNat given.length):=by
  have hh:=Hz (f:=fun (i0:Int) (s0:List Int × List Bool)=>
   (AM given i0).bind fun x31=>
   (AM s0.1 i0).bind fun x38=>
   (AM s0.2 i0).bind fun x39=>
   some (CB s0.1 i0 x31,CB s0.2 i0 true)) (a:=0) (b:=given.length) (s:=(List.replicate q.Vars.toNat 0,List.replicate q.Vars.toNat false)) (fun i=>(given.take i.toNat++List.replicate (q.Vars - i).toNat 0,Hk q.Vars.toNat i)) (by omega) ?_ (fun i i0 i1=>?_)
  ·rw [hh,Int.toNat_natCast,List.take_length]
  ·simp only [Int.toNat_zero,List.take_zero,List.nil_append,Int.sub_zero,Prod.mk.injEq,true_and]
   exact Rr _
  ·have hl:(given.take i.toNat).length=i.toNat:=by rw [List.length_take]; omega
   rw [AL i0 i1,bs,AL i0 (by simp only [List.length_append,hl,List.length_replicate]; omega),bs,AL i0 (by rw [Pj]; omega),bs]
   congr 2
   ·unfold CB
    rw [List.set_append_right _ _ (by omega),hl,Nat.sub_self,show (q.Vars - i).toNat=(q.Vars - (i+1)).toNat+1 by omega,List.replicate_succ,List.set_cons_zero,HP i0 i1,List.append_assoc]
    rfl
   ·unfold Hk
    rw [TP _ i0]
    refine SF (fun j j0 j1=>?_)
    by_cases e:j=i
    ·rw [if_pos e,e]; simp; omega
    ·rw [if_neg e,decide_eq_decide]; omega
 rw [ek,bs]
 have hi0:=RE hn.1 hg hv
 dsimp only
 rw [Pe (FI (([],false):List Int × Bool) s.h m) (VI q.Vars) hi0]
 ·cases hr:GT (FI (([],false):List Int × Bool) s.h m) q.Slots (given++List.replicate (q.Vars - given.length).toNat 0,Hk q.Vars.toNat given.length) with
  | inr r=>rfl
  | inl st=>
   have hi:=NP hs hi0 hr
   rw [EW,C1 (fun i=>!KC (AB q.Tests i) st.1) ([],false)]
   ·dsimp only
    cases anyR (fun i=>!KC (AB q.Tests i) st.1) 0 q.Tests.length <;> rfl
   ·intro i i0 i1 _
    have hx:=hq.test _ (AS i0 i1)
    rw [AL i0 i1,bs,p_holds hx.2.1 hx.2.2 hi.small (by have:=hi.l1; omega),bs]
    cases KC (AB q.Tests i) st.1 <;> rfl
 ·intro i st i0 i1 hi
  have ha:=hs _ (AS i0 i1)
  refine ⟨?_,fun s' e=>N1 ha hi e⟩
  rw [AL i0 i1,bs,AL ha.node.1 ha.node.2,bs,AL ha.val.1 ha.val.2,bs,AL ha.attr.1 ha.attr.2,bs]
  exact Zv ha hi
end Go.Sf.Sc
namespace Go.Sf.Sc
open Go Go.Sf
theorem Xk {l:List AG} {f:AG->Option Bool} {p:AG->Bool} (h:∀ x∈l,f x=some (p x)):DE l f=some (l.any p):=FL h
theorem YN {n:Nat} (hn:n<=1000):D2 [-1] (n:Int)=some (List.replicate n (-1)):=by
 unfold D2
 rw [if_pos ⟨rfl,by omega,by omega⟩]
 show some (List.replicate (n:Int).toNat (-1))=_
 rw [Int.toNat_natCast]
theorem Xq {s:AE} {p:Pattern} {c:AA} {m:AG} (hf:CA s.t) (hv:(BJ s.t).2=0) (hh:Hg s.t s.h) (ha:M4 s.t p s.h m) (hi:Vd s.t p c) (e:(DK s.t c s.h m s.injective).2=0):B8 s c m=some (DK s.t c s.h m s.injective).1:=by
 have gn:=hi.q.g.nodes
 have ge:=hi.q.g.edges
 have m1:=hi.map.nlen
 have m2:=hi.map.elen
 have m3:=ha.m.nlen
 have m4:=ha.m.elen
 unfold B8
 rw [YN (by omega),bs,YN (by omega),bs,
  cX (fun y hy=>by obtain ⟨j,j0,j1,rfl⟩:=D8 hy; exact (hi.map.node j j0 j1).1) (by omega),bs,
  cW (fun y hy=>by obtain ⟨j,j0,j1,rfl⟩:=D8 hy; exact (hi.map.edge j j0 j1).1) (by omega),bs,UZ hf,bs]
 unfold DK at e ⊢
 dsimp only at e ⊢
 split at e
 ·rename_i h1; exact absurd e h1
 rename_i h1
 obtain ⟨e1,e2⟩:=T7 (Classical.not_not.1 h1)
 rw [if_neg h1,QK (F:=fun y=>Ku c.Pattern s.h y m.Vars) e1]
 ·rfl
 ·intro i st i0 i1 hl
  have hm:=e2 _ (AS i0 i1)
  have hg:(m.Vars.length:Int)<=c.Pattern.Vars:=by have:=ha.len; have:=hi.vars; omega
  rw [AL i0 i1,bs,eG hi.q (fun x hx=>OL (IK hv) hi.q hh hm hx) hg ha.small,bs,←Jx]
  split
  ·rw [DU (by simp; unfold B9; omega)]; rfl
  ·rfl
theorem NE {s:AE} (hf:CA s.t) (hv:(BJ s.t).2=0) (hh:Hg s.t s.h) (n1:s.h.Graph.Nodes.length<=14) (n2:s.h.Graph.Edges.length<=18):∀ (N:Nat) (c:AA) (p:Pattern) (m:AG),SizeOf.sizeOf c<=N->CV s.t p c->CG s.t p c->M4 s.t p s.h m->∀ n,2*N<=n->BH n s c m=some (G1 s.t s.h s.injective c m)
 | 0,c,_,_,h,_,_,_,_,_=>by have:=DW c; omega
 | N+1,c,p,m,h,hc,hg,ha,n,hn=>by
  obtain ⟨n,rfl⟩:∃ k,n=k+2:=⟨n - 2,by omega⟩
  have kid:∀ k∈c.Kids,SizeOf.sizeOf k<=N:=fun k hk=>by have:=EC hk; omega
  rw [BH,T3]
  by_cases h2:c.Kind=2
  ·have h1:=hc.one (.inl h2)
   have hk:=AS (l:=c.Kids) (i:=0) (by omega) (by omega)
   rw [if_pos (by simpa using h2),if_pos h2,Lz h1,AL (by omega) (by omega),bs,BA,NE hf hv hh n1 n2 N _ p m (kid _ hk) (hc.kid (by omega) _ hk) (hg.kid (by omega) _ hk) ha n (by omega)]
   rfl
  rw [if_neg (by simpa using h2),if_neg h2]
  by_cases h3:c.Kind=3
  ·rw [if_pos (by simpa using h3),if_pos h3,NC (p:=fun k=>!G1 s.t s.h s.injective k m) (fun k hk=>by
    rw [DS,BA,NE hf hv hh n1 n2 N _ p m (kid _ hk) (hc.kid (by omega) _ hk) (hg.kid (by omega) _ hk) ha n (by omega)]; rfl),bs,List.all_eq_not_any_not]
  rw [if_neg (by simpa using h3),if_neg h3]
  by_cases h4:c.Kind=4
  ·rw [if_pos (by simpa using h4),if_pos h4,NC (p:=fun k=>G1 s.t s.h s.injective k m) (fun k hk=>by
    rw [BA,NE hf hv hh n1 n2 N _ p m (kid _ hk) (hc.kid (by omega) _ hk) (hg.kid (by omega) _ hk) ha n (by omega)]; rfl),bs]
  rw [if_neg (by simpa using h4),if_neg h4]
  by_cases h5:c.Kind=5
  ·have hi:=hc.ins h5
   have h1:=hc.one (.inr h5)
   have e0:=Nh (inj:=s.injective) hv hh ha hi (hg.ex h5).2 n1 n2
   obtain ⟨e1,e2⟩:=OD hv hh ha hi e0
   have hk:=AS (l:=c.Kids) (i:=0) (by omega) (by omega)
   rw [if_pos (by simpa using h5),if_pos h5,Lz h1,Xq hf hv hh ha hi e0,bs,Xk (p:=fun x=>G1 s.t s.h s.injective (AB c.Kids 0) x) (fun x hx=>by
    rw [BY,AL (by omega) (by omega),bs,NE hf hv hh n1 n2 N _ c.Pattern x (kid _ hk) (hc.kid5 h5 _ hk) (hg.kid5 h5 _ hk) (e2 _ hx) n (by omega)]; rfl),bs]
  rw [if_neg (by simpa using h5),if_neg h5]
theorem e_holds {s:AE} (hf:CA s.t) (hv:(BJ s.t).2=0) (hh:Hg s.t s.h) (n1:s.h.Graph.Nodes.length<=14) (n2:s.h.Graph.Edges.length<=18) {c:AA} {p:Pattern} {m:AG} (hc:CV s.t p c) (hg:CG s.t p c) (ha:M4 s.t p s.h m):_explain_scene__holds s c m=some (G1 s.t s.h s.injective c m):=
 HK (2*SizeOf.sizeOf c) fun n hn=>NE hf hv hh n1 n2 _ c p m (Nat.le_refl _) hc hg ha n hn
end Go.Sf.Sc
