/- Plain lemmas: what the functions of the program and of the reference compute. -/
import Derived.Test.YtmaobfbhdkafkaaGreatP46
import Derived.Test.YtmaobfbhdkafkaaGreatP25
set_option maxRecDepth 100000
namespace Go.Sf.Sc
open Go Go.Sf
inductive CV (t:AD):Pattern->AB->Prop where
 | mk (p:Pattern) (c:AB) (few:c.Kids.length<=40) (rng:1<=c.Kind∧c.Kind<=5) (one:c.Kind=2∨c.Kind=5->c.Kids.length=1) (ins:c.Kind=5->Vx t p c) (kids:∀ k∈c.Kids,CV t (if c.Kind=5 then c.Pattern else p) k):CV t p c
theorem CV.few {t:AD} {p:Pattern} {c:AB} (h:CV t p c):c.Kids.length<=40:=by cases h; assumption
theorem CV.rng {t:AD} {p:Pattern} {c:AB} (h:CV t p c):1<=c.Kind∧c.Kind<=5:=by cases h; assumption
theorem CV.one {t:AD} {p:Pattern} {c:AB} (h:CV t p c):c.Kind=2∨c.Kind=5->c.Kids.length=1:=by cases h; assumption
theorem CV.ins {t:AD} {p:Pattern} {c:AB} (h:CV t p c):c.Kind=5->Vx t p c:=by cases h; assumption
theorem CV.kids {t:AD} {p:Pattern} {c:AB} (h:CV t p c):∀ k∈c.Kids,CV t (if c.Kind=5 then c.Pattern else p) k:=by cases h; assumption
theorem CV.kid {t:AD} {p:Pattern} {c:AB} (h:CV t p c) (h5:¬ c.Kind=5):∀ k∈c.Kids,CV t p k:=fun k hk=>by have:=h.kids k hk; rwa [if_neg h5] at this
theorem CV.kid5 {t:AD} {p:Pattern} {c:AB} (h:CV t p c) (h5:c.Kind=5):∀ k∈c.Kids,CV t c.Pattern k:=fun k hk=>by have:=h.kids k hk; rwa [if_pos h5] at this
theorem RQ:∀ l:List AB,l.length<=MJ l
 | []=>by simp
 | c::l=>by
  have:=RQ l
  have h1:MJ (c::l)=He c+MJ l:=by simp [MJ]
  have h2:=SZ c
  simp only [List.length_cons]
  omega
theorem ia {t:AD} {q:Pattern} {v:Int} (hv:(BA t).2=0) (h:MK t q v=0):O0 t q:=by
 unfold MK at h
 split at h
 ·exact VR hv (.inl h)
 ·rename_i h9; exact VR hv (.inr (Classical.not_not.1 h9))
theorem Yx {t:AD} (hv:(BA t).2=0):∀ (N:Nat) (c:AB) (p:Pattern),SizeOf.sizeOf c<=N->He c<=40->OM N c=true->Ht N t p c=0->CV t p c
 | 0,c,_,h,_,_,_=>by have:=GG c; omega
 | N+1,c,p,h,hc,hw,ho=>by
  have hk0:=SZ c
  have hk1:=RQ c.Kids
  rw [OM,Bool.and_eq_true] at hw
  obtain ⟨hw1,hw2⟩:=hw
  have hone:c.Kind=2∨c.Kind=5->c.Kids.length=1:=by
   intro hk
   unfold Ob at hw1
   rcases hk with hk | hk
   ·rw [if_neg (by omega),if_pos hk,Bool.and_eq_true,decide_eq_true_eq] at hw1; exact hw1.1
   ·rw [if_neg (by omega),if_neg (by omega),if_neg (by omega),if_pos hk,decide_eq_true_eq] at hw1; exact hw1
  have hrng:1<=c.Kind∧c.Kind<=5:=by
   unfold Ob at hw1
   split at hw1
   ·omega
   split at hw1
   ·omega
   split at hw1
   ·omega
   split at hw1
   ·omega
   ·cases hw1
  have hkid:∀ q,(fst (fun i=>nz (Ht N t q (AA c.Kids i))) 0 c.Kids.length).getD 0=0->∀ k∈c.Kids,CV t q k:=by
   intro q hq k hk
   have h1:=Sr hq
   have h2:=SY hk
   have h3:=G6 hk
   rw [List.all_eq_true] at hw2
   obtain ⟨i,i0,i1,e⟩:=E9 hk
   have h4:=h1 i i0 i1
   rw [e] at h4
   exact Yx hv N k q (by omega) (by omega) (hw2 k hk) h4
  rw [Ht] at ho
  by_cases h5:c.Kind=5
  ·rw [if_pos h5] at ho
   split at ho
   ·cases ho
   rename_i h6
   split at ho
   ·rename_i h7; exact absurd ho h7
   rename_i h7
   split at ho
   ·rename_i h8; exact absurd ho h8
   rename_i h8
   split at ho
   ·cases ho
   rename_i h9
   refine CV.mk p c (by omega) hrng hone (fun _=>⟨ia hv (Classical.not_not.1 h7),by omega,Y0 (Classical.not_not.1 h8),by simpa using h9⟩) ?_
   rw [if_pos h5]
   exact hkid _ ho
  ·rw [if_neg h5] at ho
   refine CV.mk p c (by omega) hrng hone (fun e=>absurd e h5) ?_
   rw [if_neg h5]
   exact hkid _ ho
section
variable {α σ ρ:Type}
theorem O4 [Inhabited α] {l:List α} {f:Int->σ->Option (CD σ ρ)} (step:α->σ->CD σ ρ) (I:Int->σ->Prop) (h:∀ (i:Int) s,0<=i->i<l.length->I i s->f i s=some (step (AA l i) s)∧∀ s',step (AA l i) s=.next s'->I (i+1) s') :
  ∀ (n:Nat) (a:Int) (s:σ),0<=a->a+n=l.length->I a s->forGo f n a s=some (EB step (l.drop a.toNat) s)
 | 0,a,s,h0,h1,_=>by
  rw [List.drop_eq_nil_of_le (by omega)]; rfl
 | n+1,a,s,h0,h1,hs=>by
  obtain ⟨h2,h3⟩:=h a s h0 (by omega) hs
  have hd:l.drop a.toNat=AA l a::l.drop (a+1).toNat:=by
   rw [show (a+1).toNat=a.toNat+1 by omega,List.drop_eq_getElem_cons (by omega)]
   congr 1
   unfold AA
   rw [List.getD_eq_getElem?_getD,List.getElem?_eq_getElem (by omega)]; rfl
  rw [GR,h2,hd,EB]
  cases hc:step (AA l a) s with
  | next s'=>
   simp only
   exact O4 step I h n (a+1) s' (by omega) (by omega) (h3 s' hc)
  | brk s'=>rfl
  | ret r=>rfl
theorem Qh [Inhabited α] {l:List α} {f:Int->σ->Option (CD σ ρ)} (step:α->σ->CD σ ρ) (I:Int->σ->Prop) {s:σ} (hs:I 0 s) (h:∀ (i:Int) s,0<=i->i<l.length->I i s->f i s=some (step (AA l i) s)∧∀ s',step (AA l i) s=.next s'->I (i+1) s') :
  forR f 0 l.length s=some (EB step l s):=by
 have:=O4 step I h l.length 0 s (by omega) (by omega) hs
 unfold forR
 rw [show ((l.length:Int) - 0).toNat=l.length by omega]
 exact this
theorem Q6 {s1 s2:α->σ->CD σ ρ}:∀ {l:List α} {s:σ},(∀ a∈l,s1 a=s2 a)->EB s1 l s=EB s2 l s
 | [],_,_=>rfl
 | a::l,s,h=>by
  rw [EB,EB,h a (by simp)]
  split
  ·exact Q6 fun b hb=>h b (by simp [hb])
  ·rfl
  ·rfl
end
abbrev zM:AK:=⟨⟨[],[]⟩,[]⟩
abbrev zP:AS:=⟨0,zM,[]⟩
def K0 (w:AB->AS × Int) (k:AB) (s:AS × AS):CD (AS × AS) (AS × Int):=
 if (w k).2≠0 then .ret (zP,(w k).2) else .next (s.1,⟨s.2.Choice,s.2.Match,s.2.Kids++[(w k).1]⟩)
def PE (w:AB->AS × Int) (l:List AB):AS × Int:=
 match EB (K0 w) l (zP,zP) with
 | .inl s=>(s.2,0)
 | .inr r=>r
def DD (t:AD) (h:AZ) (inj:Bool):Nat->AB->AK->AS × Int
 | 0,_,_=>(zP,0)
 | N+1,c,m=>
  if c.Kind=2 then (if (DD t h inj N (AA c.Kids 0) m).2=0 then (zP,10) else if (DD t h inj N (AA c.Kids 0) m).2=10 then (zP,0) else (zP,(DD t h inj N (AA c.Kids 0) m).2)) else
  if c.Kind=3 then PE (fun k=>DD t h inj N k m) c.Kids else
  if c.Kind=4 then (fst (fun i=>if (DD t h inj N (AA c.Kids i) m).2=0 then some (⟨i,zM,[(DD t h inj N (AA c.Kids i) m).1]⟩,0) else if (DD t h inj N (AA c.Kids i) m).2≠10 then some (zP,(DD t h inj N (AA c.Kids i) m).2) else none) 0 c.Kids.length).getD (zP,10) else
  if c.Kind=5 then
   (if (D9 t c h m inj).2≠0 then (zP,(D9 t c h m inj).2) else
   (fst (fun i=>if (DD t h inj N (AA c.Kids 0) (AA (D9 t c h m inj).1 i)).2=0 then some (⟨0,AA (D9 t c h m inj).1 i,[(DD t h inj N (AA c.Kids 0) (AA (D9 t c h m inj).1 i)).1]⟩,0) else
    if (DD t h inj N (AA c.Kids 0) (AA (D9 t c h m inj).1 i)).2≠10 then some (zP,(DD t h inj N (AA c.Kids 0) (AA (D9 t c h m inj).1 i)).2) else none) 0 (D9 t c h m inj).1.length).getD (zP,10)) else
  (zP,0)
def DC (t:AD) (h:AZ) (inj:Bool):Nat->AB->AK->AS × Int
 | 0,_,_=>(zP,0)
 | N+1,c,m=>
  if c.Kind=2 then (if (DC t h inj N (AA c.Kids 0) m).2=0 then (zP,10) else if (DC t h inj N (AA c.Kids 0) m).2=10 then (zP,0) else (zP,(DC t h inj N (AA c.Kids 0) m).2)) else
  if c.Kind=3 then PE (fun k=>DC t h inj N k m) c.Kids else
  if c.Kind=4 then (fst (fun i=>if (DC t h inj N (AA c.Kids i) m).2≠10 then some (⟨i,zM,[(DC t h inj N (AA c.Kids i) m).1]⟩,(DC t h inj N (AA c.Kids i) m).2) else none) 0 c.Kids.length).getD (zP,10) else
  if c.Kind=5 then
   (if (D9 t c h m inj).2≠0 then (zP,(D9 t c h m inj).2) else
   (fst (fun i=>if (DC t h inj N (AA c.Kids 0) (AA (D9 t c h m inj).1 i)).2≠10 then some (⟨0,AA (D9 t c h m inj).1 i,[(DC t h inj N (AA c.Kids 0) (AA (D9 t c h m inj).1 i)).1]⟩,(DC t h inj N (AA c.Kids 0) (AA (D9 t c h m inj).1 i)).2) else none) 0 (D9 t c h m inj).1.length).getD (zP,10)) else
  (zP,0)
def Kg (x:AS × Int):AS × Int:=if x.2=0 then x else (zP,x.2)
theorem WL (x:AS × Int):(Kg x).2=x.2:=by unfold Kg; split <;> rfl
theorem WK {x:AS × Int} (h:x.2=0):(Kg x).1=x.1:=by unfold Kg; rw [if_pos h]
theorem XS (w:AB->AS × Int) (l:List AB):Kg (PE w l)=PE w l:=by
 unfold PE
 have:∀ (l:List AB) (s:AS × AS) (r:AS × Int),EB (K0 w) l s=.inr r->Kg r=r:=by
  intro l
  induction l with
  | nil=>intro s r h; cases h
  | cons a l ih=>
   intro s r h
   rw [EB] at h
   split at h
   ·exact ih _ _ h
   ·cases h
   ·rename_i r' h'
    cases h
    unfold K0 at h'
    split at h'
    ·rename_i hne
     cases h'
     unfold Kg
     rw [if_neg hne]
    ·cases h'
 cases hr:EB (K0 w) l (zP,zP) with
 | inl s=>rfl
 | inr r=>exact this _ _ _ hr
theorem Rd (o:Option (AS × Int)):Kg (o.getD (zP,10))=(o.map Kg).getD (zP,10):=by cases o <;> rfl
theorem Uv (t:AD) (h:AZ) (inj:Bool):∀ (N:Nat) (c:AB) (m:AK),DD t h inj N c m=Kg (DC t h inj N c m)
 | 0,_,_=>rfl
 | N+1,c,m=>by
  have ih:=Uv t h inj N
  have key:∀ (c:AB) (m:AK),(DD t h inj N c m).2=(DC t h inj N c m).2:=fun c m=>by rw [ih,WL]
  have pick:∀ (k:AB) (m x:AK) (i:Int),(if (DD t h inj N k m).2=0 then some ((⟨i,x,[(DD t h inj N k m).1]⟩:AS),(0:Int)) else if (DD t h inj N k m).2≠10 then some (zP,(DD t h inj N k m).2) else none)=(if (DC t h inj N k m).2≠10 then some ((⟨i,x,[(DC t h inj N k m).1]⟩:AS),(DC t h inj N k m).2) else none).map Kg:=by
   intro k m x i
   rw [key]
   by_cases h0:(DC t h inj N k m).2=0
   ·rw [if_pos h0,if_pos (by omega),ih,WK h0]
    simp [Kg,h0]
   ·rw [if_neg h0]
    by_cases h1:(DC t h inj N k m).2≠10
    ·rw [if_pos h1,if_pos h1]
     simp [Kg,h0]
    ·rw [if_neg h1,if_neg h1]; rfl
  rw [DD,DC]
  by_cases h2:c.Kind=2
  ·rw [if_pos h2,if_pos h2,key]
   by_cases h0:(DC t h inj N (AA c.Kids 0) m).2=0
   ·rw [if_pos h0]; rfl
   ·rw [if_neg h0]
    by_cases h1:(DC t h inj N (AA c.Kids 0) m).2=10
    ·rw [if_pos h1]; rfl
    ·rw [if_neg h1]; unfold Kg; rw [if_neg h0]
  rw [if_neg h2,if_neg h2]
  by_cases h3:c.Kind=3
  ·rw [if_pos h3,if_pos h3,XS]
   unfold PE
   rw [Q6 (s2:=K0 fun k=>DC t h inj N k m)]
   intro k _
   funext s
   unfold K0
   simp only [key]
   by_cases h0:(DC t h inj N k m).2=0
   ·rw [if_neg (by simp [h0]),if_neg (by simp [h0]),ih,WK h0]
   ·rw [if_pos h0,if_pos h0]
  rw [if_neg h3,if_neg h3]
  by_cases h4:c.Kind=4
  ·rw [if_pos h4,if_pos h4,Rd,←Me]
   congr 1
   exact congrArg (fun F=>fst F 0 (c.Kids.length:Int)) (funext fun i=>pick _ _ _ _)
  rw [if_neg h4,if_neg h4]
  by_cases h5:c.Kind=5
  ·rw [if_pos h5,if_pos h5]
   by_cases h6:(D9 t c h m inj).2≠0
   ·rw [if_pos h6,if_pos h6]; unfold Kg; rw [if_neg h6]
   ·rw [if_neg h6,if_neg h6,Rd,←Me]
    congr 1
    exact congrArg (fun F=>fst F 0 ((D9 t c h m inj).1.length:Int)) (funext fun i=>pick _ _ _ _)
  rw [if_neg h5,if_neg h5]; rfl
end Go.Sf.Sc
namespace Go.Sf.Sc
open Go Go.Sf
def NK (i:Int) (s:AS × AS):Prop:=(s.2.Kids.length:Int)=i
theorem Qy {s:AR} (hf:BU s.t) (hv:(BA s.t).2=0) (hh:J8 s.t s.h):∀ (N:Nat) (c:AB) (p:Pattern) (m:AK),SizeOf.sizeOf c<=N->CV s.t p c->RJ s.t p s.h m->∀ n,2*N<=n->AY n s c m=some (DD s.t s.h s.injective N c m)
 | 0,c,_,_,h,_,_,_,_=>by have:=GG c; omega
 | N+1,c,p,m,h,hc,ha,n,hn=>by
  obtain ⟨n,rfl⟩:∃ k,n=k+2:=⟨n - 2,by omega⟩
  have kid:∀ (i:Int),0<=i->i<c.Kids.length->SizeOf.sizeOf (AA c.Kids i)<=N:=fun i i0 i1=>by
   have:=G6 (AT (l:=c.Kids) i0 i1); omega
  rw [AY,DD]
  by_cases h2:c.Kind=2
  ·have h1:=hc.one (.inl h2)
   rw [if_pos (by simpa using h2),if_pos h2,AG (by omega) (by omega),bs,Qy hf hv hh N _ p m (kid 0 (by omega) (by omega)) (hc.kid (by omega) _ (AT (by omega) (by omega))) ha (n+1) (by omega),bs]
   generalize DD s.t s.h s.injective N (AA c.Kids 0) m=x
   by_cases e0:x.2=0
   ·rw [if_pos (by simpa using e0),if_pos e0]; try rfl
   ·rw [if_neg (by simpa using e0),if_neg e0]
    by_cases e1:x.2=10
    ·rw [if_pos (by simpa using e1),if_pos e1]; try rfl
    ·rw [if_neg (by simpa using e1),if_neg e1]; try rfl
  rw [if_neg (by simpa using h2),if_neg h2]
  by_cases h3:c.Kind=3
  ·rw [if_pos (by simpa using h3),if_pos h3]
   have hfew:=hc.few
   rw [Qh (K0 fun k=>DD s.t s.h s.injective N k m) NK (show NK 0 (zP,zP) from rfl)]
   ·unfold PE
    show thenR (some (EB (K0 fun k=>DD s.t s.h s.injective N k m) c.Kids (zP,zP))) _ _=_
    cases EB (K0 fun k=>DD s.t s.h s.injective N k m) c.Kids (zP,zP) <;> rfl
   ·intro i st i0 i1 hi
    unfold NK at hi
    rw [AG i0 i1,bs,Qy hf hv hh N _ p m (kid i i0 i1) (hc.kid (by omega) _ (AT i0 i1)) ha (n+1) (by omega),bs]
    dsimp only [K0]
    by_cases e0:(DD s.t s.h s.injective N (AA c.Kids i) m).2=0
    ·rw [if_neg (by simp [e0]),if_neg (by simp [e0]),DB (by simp; unfold BY; omega),bs]
     refine ⟨rfl,fun s' e=>?_⟩
     cases e
     unfold NK
     simp; omega
    ·rw [if_pos (by simp [e0]),if_pos e0]
     exact ⟨rfl,fun s' e=>by cases e⟩
  rw [if_neg (by simpa using h3),if_neg h3]
  by_cases h4:c.Kind=4
  ·rw [if_pos (by simpa using h4),if_pos h4]
   rw [OC (fun _=>zP) (fun i=>if (DD s.t s.h s.injective N (AA c.Kids i) m).2=0 then some (⟨i,zM,[(DD s.t s.h s.injective N (AA c.Kids i) m).1]⟩,0) else if (DD s.t s.h s.injective N (AA c.Kids i) m).2≠10 then some (zP,(DD s.t s.h s.injective N (AA c.Kids i) m).2) else none) (by omega) rfl]
   ·cases fst (fun i=>if (DD s.t s.h s.injective N (AA c.Kids i) m).2=0 then some ((⟨i,zM,[(DD s.t s.h s.injective N (AA c.Kids i) m).1]⟩:AS),(0:Int)) else if (DD s.t s.h s.injective N (AA c.Kids i) m).2≠10 then some (zP,(DD s.t s.h s.injective N (AA c.Kids i) m).2) else none) 0 c.Kids.length <;> rfl
   ·intro i i0 i1 _
    rw [AG i0 i1,bs,Qy hf hv hh N _ p m (kid i i0 i1) (hc.kid (by omega) _ (AT i0 i1)) ha (n+1) (by omega),bs]
    generalize DD s.t s.h s.injective N (AA c.Kids i) m=x
    by_cases e0:x.2=0
    ·rw [if_pos (by simpa using e0),if_pos e0]; try rfl
    ·rw [if_neg (by simpa using e0),if_neg e0]
     by_cases e1:x.2=10
     ·rw [if_neg (by simp [e1]),if_neg (by simp [e1])]; try rfl
     ·rw [if_pos (by simp [e1]),if_pos e1]; try rfl
  rw [if_neg (by simpa using h4),if_neg h4]
  by_cases h5:c.Kind=5
  ·rw [if_pos (by simpa using h5),if_pos h5]
   have hi:=hc.ins h5
   have h1:=hc.one (.inr h5)
   rw [BE,cI hf hv hh ha hi,bs]
   by_cases h6:(D9 s.t c s.h m s.injective).2=0
   ·obtain ⟨e1,e2⟩:=UL hv hh ha hi h6
    rw [if_neg (by simp [h6]),if_neg (by simp [h6])]
    generalize (D9 s.t c s.h m s.injective).1=l at e1 e2
    rw [OC (fun _=>zP) (fun i=>if (DD s.t s.h s.injective N (AA c.Kids 0) (AA l i)).2=0 then some (⟨0,AA l i,[(DD s.t s.h s.injective N (AA c.Kids 0) (AA l i)).1]⟩,0) else if (DD s.t s.h s.injective N (AA c.Kids 0) (AA l i)).2≠10 then some (zP,(DD s.t s.h s.injective N (AA c.Kids 0) (AA l i)).2) else none) (by omega) rfl]
    ·cases fst (fun i=>if (DD s.t s.h s.injective N (AA c.Kids 0) (AA l i)).2=0 then some ((⟨0,AA l i,[(DD s.t s.h s.injective N (AA c.Kids 0) (AA l i)).1]⟩:AS),(0:Int)) else if (DD s.t s.h s.injective N (AA c.Kids 0) (AA l i)).2≠10 then some (zP,(DD s.t s.h s.injective N (AA c.Kids 0) (AA l i)).2) else none) 0 l.length <;> rfl
    ·intro i i0 i1 _
     rw [AG i0 i1,bs,AG (by omega) (by omega),bs,Qy hf hv hh N _ c.Pattern _ (kid 0 (by omega) (by omega)) (hc.kid5 h5 _ (AT (by omega) (by omega))) (e2 _ (AT i0 i1)) n (by omega),bs]
     generalize DD s.t s.h s.injective N (AA c.Kids 0) (AA l i)=x
     by_cases e0:x.2=0
     ·rw [if_pos (by simpa using e0),if_pos e0]; try rfl
     ·rw [if_neg (by simpa using e0),if_neg e0]
      by_cases e1:x.2=10
      ·rw [if_neg (by simp [e1]),if_neg (by simp [e1])]; try rfl
      ·rw [if_pos (by simp [e1]),if_pos e1]; try rfl
   ·rw [if_pos (by simp [h6]),if_pos h6]; try rfl
  rw [if_neg (by simpa using h5),if_neg h5]; try rfl
theorem OG {t:AD} {hst:AZ} {inj:Bool} (hf:BU t) (hv:(BA t).2=0) (hh:J8 t hst):∀ (N:Nat) (c:AB) (p:Pattern) (m:AK),SizeOf.sizeOf c<=N->CV t p c->RJ t p hst m->∀ n,N<=n->EJ n t c hst m inj=some (DC t hst inj N c m)
 | 0,c,_,_,h,_,_,_,_=>by have:=GG c; omega
 | N+1,c,p,m,h,hc,ha,n,hn=>by
  obtain ⟨n,rfl⟩:∃ k,n=k+1:=⟨n - 1,by omega⟩
  have kid:∀ (i:Int),0<=i->i<c.Kids.length->SizeOf.sizeOf (AA c.Kids i)<=N:=fun i i0 i1=>by
   have:=G6 (AT (l:=c.Kids) i0 i1); omega
  rw [EJ,DC]
  by_cases h2:c.Kind=2
  ·have h1:=hc.one (.inl h2)
   rw [if_pos (by simpa using h2),if_pos h2,AG (by omega) (by omega),bs,OG hf hv hh N _ p m (kid 0 (by omega) (by omega)) (hc.kid (by omega) _ (AT (by omega) (by omega))) ha n (by omega),bs]
   generalize DC t hst inj N (AA c.Kids 0) m=x
   by_cases e0:x.2=0
   ·rw [if_pos (by simpa using e0),if_pos e0]; try rfl
   ·rw [if_neg (by simpa using e0),if_neg e0]
    by_cases e1:x.2=10
    ·rw [if_pos (by simpa using e1),if_pos e1]; try rfl
    ·rw [if_neg (by simpa using e1),if_neg e1]; try rfl
  rw [if_neg (by simpa using h2),if_neg h2]
  by_cases h3:c.Kind=3
  ·rw [if_pos (by simpa using h3),if_pos h3]
   have hfew:=hc.few
   rw [Qh (K0 fun k=>DC t hst inj N k m) NK (show NK 0 (zP,zP) from rfl)]
   ·unfold PE
    show thenR (some (EB (K0 fun k=>DC t hst inj N k m) c.Kids (zP,zP))) _ _=_
    cases EB (K0 fun k=>DC t hst inj N k m) c.Kids (zP,zP) <;> rfl
   ·intro i st i0 i1 hi
    unfold NK at hi
    rw [AG i0 i1,bs,OG hf hv hh N _ p m (kid i i0 i1) (hc.kid (by omega) _ (AT i0 i1)) ha n (by omega),bs]
    dsimp only [K0]
    by_cases e0:(DC t hst inj N (AA c.Kids i) m).2=0
    ·rw [if_neg (by simp [e0]),if_neg (by simp [e0]),DB (by simp; unfold BY; omega),bs]
     refine ⟨rfl,fun s' e=>?_⟩
     cases e
     unfold NK
     simp; omega
    ·rw [if_pos (by simp [e0]),if_pos e0]
     exact ⟨rfl,fun s' e=>by cases e⟩
  rw [if_neg (by simpa using h3),if_neg h3]
  by_cases h4:c.Kind=4
  ·rw [if_pos (by simpa using h4),if_pos h4]
   rw [OC (fun _=>zP) (fun i=>if (DC t hst inj N (AA c.Kids i) m).2≠10 then some (⟨i,zM,[(DC t hst inj N (AA c.Kids i) m).1]⟩,(DC t hst inj N (AA c.Kids i) m).2) else none) (by omega) rfl]
   ·cases fst (fun i=>if (DC t hst inj N (AA c.Kids i) m).2≠10 then some ((⟨i,zM,[(DC t hst inj N (AA c.Kids i) m).1]⟩:AS),(DC t hst inj N (AA c.Kids i) m).2) else none) 0 c.Kids.length <;> rfl
   ·intro i i0 i1 _
    rw [AG i0 i1,bs,OG hf hv hh N _ p m (kid i i0 i1) (hc.kid (by omega) _ (AT i0 i1)) ha n (by omega),bs]
    generalize DC t hst inj N (AA c.Kids i) m=x
    by_cases e1:x.2=10
    ·rw [if_neg (by simp [e1]),if_neg (by simp [e1])]; try rfl
    ·rw [if_pos (by simp [e1]),if_pos e1]; try rfl
  rw [if_neg (by simpa using h4),if_neg h4]
  by_cases h5:c.Kind=5
  ·rw [if_pos (by simpa using h5),if_pos h5]
   have hi:=hc.ins h5
   have h1:=hc.one (.inr h5)
   rw [cV hf hv hh ha hi,bs]
   by_cases h6:(D9 t c hst m inj).2=0
   ·obtain ⟨e1,e2⟩:=UL hv hh ha hi h6
    rw [if_neg (by simp [h6]),if_neg (by simp [h6])]
    generalize (D9 t c hst m inj).1=l at e1 e2
    rw [OC (fun _=>zP) (fun i=>if (DC t hst inj N (AA c.Kids 0) (AA l i)).2≠10 then some (⟨0,AA l i,[(DC t hst inj N (AA c.Kids 0) (AA l i)).1]⟩,(DC t hst inj N (AA c.Kids 0) (AA l i)).2) else none) (by omega) rfl]
    ·cases fst (fun i=>if (DC t hst inj N (AA c.Kids 0) (AA l i)).2≠10 then some ((⟨0,AA l i,[(DC t hst inj N (AA c.Kids 0) (AA l i)).1]⟩:AS),(DC t hst inj N (AA c.Kids 0) (AA l i)).2) else none) 0 l.length <;> rfl
    ·intro i i0 i1 _
     rw [AG (by omega) (by omega),bs,AG i0 i1,bs,OG hf hv hh N _ c.Pattern _ (kid 0 (by omega) (by omega)) (hc.kid5 h5 _ (AT (by omega) (by omega))) (e2 _ (AT i0 i1)) n (by omega),bs]
     generalize DC t hst inj N (AA c.Kids 0) (AA l i)=x
     by_cases e1:x.2=10
     ·rw [if_neg (by simp [e1]),if_neg (by simp [e1])]; try rfl
     ·rw [if_pos (by simp [e1]),if_pos e1]; try rfl
   ·rw [if_pos (by simp [h6]),if_pos h6]; try rfl
  rw [if_neg (by simpa using h5),if_neg h5]; try rfl
end Go.Sf.Sc
namespace Go.Sf.Sc
open Go Go.Sf
theorem OE {c:Int->Option Int} {a b:Int} {v w:Int} (hw:w≠v) (h:∀ i,c i≠some v):(fst c a b).getD w≠v:=by
 cases hr:fst c a b with
 | none=>exact hw
 | some r=>
  obtain ⟨i,_,_,k,_⟩:=DF hr
  simp only [Option.getD_some]
  exact fun e=>h i (by rw [k,e])
theorem VJ {e v:Int} (h:e≠v):nz e≠some v:=by
 unfold nz
 split
 ·simp
 ·simpa using h
theorem JK (g:Graph):CU g≠10:=by
 unfold CU
 split
 ·decide
 ·split
  ·decide
  ·split <;> decide
theorem Tv (l:List ByteArray):Ii l≠10:=by
 unfold Ii
 split
 ·decide
 ·refine OE (by decide) (fun i=>?_)
  split
  ·decide
  ·split <;> decide
theorem U2 (l:List Attr) (k:Int):K1 l k≠10:=by
 have:=Tv (AA l k).Names
 unfold K1
 dsimp only
 split
 ·decide
 split
 ·decide
 split
 ·split <;> decide
 split
 ·exact this
 split <;> decide
theorem VH (t:AD) (i:Int):Hr t i≠10:=by
 unfold Hr
 dsimp only
 split
 ·decide
 split
 ·decide
 split
 ·decide
 split
 ·decide
 exact OE (by decide) (fun i=>VJ (U2 _ _))
theorem VA (t:AD) (i:Int):IV t i≠10:=by
 unfold IV
 dsimp only
 split
 ·decide
 split
 ·decide
 split <;> decide
theorem Qs {α:Type} {e:Int} {x r:α} (h:(nz e).map (fun e=>(x,e))=some (r,(10:Int))):e=10:=by
 unfold nz at h
 split at h
 ·cases h
 ·simp only [Option.map_some,Option.some.injEq,Prod.mk.injEq] at h; exact h.2
theorem Oy (t:AD):(BA t).2≠10:=by
 unfold BA
 split
 ·decide
 split
 ·decide
 split
 ·rename_i r hr
  obtain ⟨i,_,_,k,_⟩:=DF hr
  intro e
  obtain ⟨r1,r2⟩:=r
  simp only at e
  subst e
  exact VH t i (Qs k)
 ·cases hr:fst (fun i=>(nz (IV t i)).map fun e=>((AA t.Edges i).Name,e)) 0 t.Edges.length with
  | none=>decide
  | some r=>
   obtain ⟨i,_,_,k,_⟩:=DF hr
   intro e
   obtain ⟨r1,r2⟩:=r
   simp only [Option.getD_some] at e
   subst e
   exact VA t i (Qs k)
theorem Vp (n:Int) (x:Test):Kc n x≠10:=by
 unfold Kc
 split
 ·decide
 ·split <;> decide
theorem T8 (n:Int) (l:List Test):IF n l≠10:=by
 unfold IF
 split
 ·decide
 split
 ·decide
 exact OE (by decide) (fun i=>VJ (Vp _ _))
theorem PT (t:AD) (p:Pattern):I3 t p≠10:=by
 have h1:=Oy t
 have h2:=JK p.Graph
 have h3:=T8 p.Vars p.Tests
 unfold I3
 split
 ·exact h1
 split
 ·exact h2
 split
 ·decide
 split
 ·decide
 split
 ·decide
 split
 ·decide
 split
 ·exact h3
 split <;> decide
theorem WA (t:AD) (q:Pattern) (v:Int):MK t q v≠10:=by
 have:=PT t q
 unfold MK
 split
 ·exact this
 ·split <;> decide
theorem Tu (a b:Graph) (m:Morphism) (i:Int):JF a b m i≠some 10:=by
 unfold JF
 split
 ·decide
 ·split <;> decide
theorem Py (a b:Graph) (m:Morphism) (i:Int):GJ a b m i≠some 10:=by
 unfold GJ
 split
 ·decide
 ·split
  ·decide
  ·split <;> decide
theorem Tk (t:AD) (a b:Graph) (m:Morphism) (i:Int):Ic t a b m i≠some 10:=by
 unfold Ic
 split
 ·decide
 ·split <;> decide
theorem S1 {c:Int->Option Int} {d:Int} {a b:Int} (h:∀ i,c i≠some 10) (hd:d≠10):(match fst c a b with | some e=>e | none=>d)≠10:=by
 cases hr:fst c a b with
 | none=>exact hd
 | some r=>
  obtain ⟨i,_,_,k,_⟩:=DF hr
  exact fun e=>h i (by rw [k]; exact congrArg some e)
theorem WG (a b:Graph) (m:Morphism):MN a b m≠10:=by
 have h1:=JK a
 have h2:=JK b
 unfold MN
 split
 ·exact h1
 split
 ·exact h2
 split
 ·decide
 exact S1 (Tu a b m) (OE (by decide) (Py a b m))
theorem Qx (t:AD):∀ (N:Nat) (p:Pattern) (c:AB),Ht N t p c≠10
 | 0,_,_=>by rw [Ht]; decide
 | N+1,p,c=>by
  have hk:∀ q,(fst (fun i=>nz (Ht N t q (AA c.Kids i))) 0 c.Kids.length).getD 0≠10:=fun q=>OE (by decide) (fun i=>VJ (Qx t N q _))
  have h1:=WA t c.Pattern p.Vars
  have h2:=WG p.Graph c.Pattern.Graph c.Map
  rw [Ht]
  split
  ·split
   ·decide
   split
   ·exact h1
   split
   ·exact h2
   split
   ·decide
   exact hk _
  ·exact hk _
theorem U8 (t:AD) (p:Pattern) (c:AB):K8 t p c≠10:=by
 have h1:=PT t p
 have h2:=Qx t (SizeOf.sizeOf c) p c
 unfold K8
 split
 ·exact h1
 split
 ·unfold MD
  split
  ·decide
  ·split <;> decide
 ·exact h2
theorem Qk (t:AD) (h:AZ):(LD t h).2≠10:=by
 have h1:=Oy t
 have h2:=JK h.Graph
 have hn:∀ i,H8 t (AA h.Graph.Nodes i) (AA h.Values i)≠10:=by
  intro i
  unfold H8
  split
  ·decide
  split
  ·decide
  split
  ·decide
  split <;> decide
 have he:∀ i,Ih t h.Graph i≠10:=by
  intro i
  unfold Ih
  split
  ·decide
  split <;> decide
 unfold LD
 split
 ·exact h1
 split
 ·exact h2
 split
 ·decide
 split
 ·rename_i r hr
  obtain ⟨i,_,_,k,_⟩:=DF hr
  intro e
  obtain ⟨r1,r2⟩:=r
  simp only at e
  subst e
  exact hn i (Qs k)
 ·cases hr:fst (fun i=>(nz (Ih t h.Graph i)).map fun e=>(i,e)) 0 h.Graph.Edges.length with
  | none=>decide
  | some r=>
   obtain ⟨i,_,_,k,_⟩:=DF hr
   intro e
   obtain ⟨r1,r2⟩:=r
   simp only [Option.getD_some] at e
   subst e
   exact he i (Qs k)
theorem Ts (t:AD) (p g:Graph):GI t p g≠10:=by
 have h1:=Oy t
 have h2:=JK p
 have h3:=JK g
 unfold GI
 split
 ·exact h1
 split
 ·exact h2
 split
 ·exact h3
 split <;> decide
theorem RP (t:AD) (p g:Graph) (m:Morphism) (inj:Bool):La t p g m inj≠10:=by
 have h1:=Ts t p g
 have h2:LO t p g m≠10:=by
  unfold LO
  split
  ·decide
  exact S1 (Tk t p g m) (OE (by decide) (Py p g m))
 unfold La
 split
 ·exact h1
 split
 ·exact h2
 split <;> decide
theorem YB {ρ:Type} {v:ρ} {h:AZ} {m:Morphism}:∀ (l:List DH) (st:List Int × List Bool) (r:ρ),EB (ER v h m) l st=.inr r->r=v:=by
 intro l
 induction l with
 | nil=>intro st r h; cases h
 | cons a l ih=>
  intro st r h
  rw [EB] at h
  split at h
  ·exact ih _ _ h
  ·cases h
  ·rename_i r' h'
   cases h
   unfold ER at h'
   split at h'
   ·cases h'
   ·cases h'; rfl
theorem Vf (t:AD) (p:Pattern) (h:AZ) (m:Morphism):(Jy t p h m).2≠10:=by
 have h1:=PT t p
 have h2:=Qk t h
 have h3:=RP t p.Graph h.Graph m false
 have h4:Lr t p h≠10:=by
  unfold Lr
  split
  ·exact h1
  ·exact h2
 unfold Jy
 split
 ·exact h4
 split
 ·exact h3
 unfold KU
 split
 ·rename_i r hr
  rw [YB _ _ _ hr]; decide
 ·split
  ·decide
  ·show (0:Int)≠10
   decide
noncomputable def O1 (t:AD) (p:Pattern) (c:AB) (h:AZ) (m:AK) (inj:Bool):Int:=
 if K8 t p c≠0 then K8 t p c else if (LD t h).2≠0 then (LD t h).2 else if La t p.Graph h.Graph m.Morphism inj≠0 then La t p.Graph h.Graph m.Morphism inj else
 if (Jy t p h m.Morphism).2≠0 then (Jy t p h m.Morphism).2 else if (Jy t p h m.Morphism).1=m.Vars then 0 else 11
theorem Xe (t:AD) (p:Pattern) (c:AB) (h:AZ) (m:AK) (inj:Bool):O1 t p c h m inj≠10:=by
 have h1:=U8 t p c
 have h2:=Qk t h
 have h3:=RP t p.Graph h.Graph m.Morphism inj
 have h4:=Vf t p h m.Morphism
 unfold O1
 split
 ·exact h1
 split
 ·exact h2
 split
 ·exact h3
 split
 ·exact h4
 split <;> decide
theorem Xx {t:AD} (hf:BU t) (p:Pattern) {c:AB} (hc:EL c) (h:AZ) (m:AK) (inj:Bool):D8 t p c h m inj=some (O1 t p c h m inj):=by
 unfold D8 O1
 rw [Z4 hf p hc,bs]
 refine HC fun _=>?_
 rw [WQ hf,bs]
 refine HC fun _=>?_
 rw [Ua hf,bs]
 refine HC fun _=>?_
 rw [Z2 hf,bs]
 refine HC fun _=>?_
 rw [jJ,bs]
 by_cases e:(Jy t p h m.Morphism).1=m.Vars
 ·rw [if_neg (by simp [e]),if_pos e]
 ·rw [if_pos (by simp [e]),if_neg e]
theorem X2 {t:AD} (hf:BU t) (p:Pattern) {c:AB} (hc:EL c) (h:AZ) (m:AK) (inj:Bool):KQ t p c h m inj=some (O1 t p c h m inj):=by
 unfold KQ O1
 rw [WZ hf p hc,bs]
 refine HC fun _=>?_
 rw [Wb hf,bs]
 refine HC fun _=>?_
 unfold Lz
 rw [Uf hf,bs]
 have e:∀ o:Option Int,(o.bind fun x37=>some x37)=o:=fun o=>by cases o <;> rfl
 rw [e]
 refine HC fun _=>?_
 rw [aC hf,bs,aB]
 by_cases h0:(Jy t p h m.Morphism).2=0
 ·rw [if_pos (by simpa using h0),if_neg (by simp [h0])]
  by_cases e:(Jy t p h m.Morphism).1=m.Vars
  ·rw [if_pos e]; simp [e,h0]
  ·rw [if_neg e]; simp [e]
 ·rw [if_neg (by simpa using h0),if_pos h0]; rfl
theorem Yv {t:AD} (hf:BU t) {p:Pattern} {c:AB} (hc:He c<=40) {h:AZ} {m:AK} {inj:Bool} (e:O1 t p c h m inj=0):(BA t).2=0∧J8 t h∧CV t p c∧RJ t p h m:=by
 unfold O1 at e
 split at e
 ·rename_i h1; exact absurd e h1
 rename_i h1
 split at e
 ·rename_i h2; exact absurd e h2
 rename_i h2
 split at e
 ·rename_i h3; exact absurd e h3
 rename_i h3
 split at e
 ·rename_i h4; exact absurd e h4
 rename_i h4
 split at e
 case isFalse=>cases e
 rename_i h5
 have h1:=Classical.not_not.1 h1
 have h2:=Classical.not_not.1 h2
 have h3:=Classical.not_not.1 h3
 have h4:=Classical.not_not.1 h4
 obtain ⟨hv,hh⟩:=UR hf h2
 have hm:=(V3 h3).2
 unfold K8 at h1
 split at h1
 ·rename_i h6; exact absurd h1 h6
 rename_i h6
 split at h1
 ·rename_i h7; exact absurd h1 h7
 rename_i h7
 have hq:=VR hv (.inl (Classical.not_not.1 h6))
 have h7:=Classical.not_not.1 h7
 have hw:ZJ c=true:=by
  unfold MD at h7
  split at h7
  ·cases h7
  ·rename_i h8; simpa using h8
 suffices hs:(m.Vars.length:Int)=p.Vars∧MG m.Vars from ⟨hv,hh,Yx hv _ c p (Nat.le_refl _) hc hw h1,hq,hm,hs.1,hs.2⟩
 have hs:∀ s∈p.Slots,IZ p.Vars h m.Morphism s:=fun s hs=>Mn (GB hv) hq hh hm hs
 unfold Jy at h4 h5
 split at h4
 ·rename_i h8; exact absurd h4 h8
 rename_i h8
 rw [if_neg h8] at h5
 split at h4
 ·rename_i h9; exact absurd h4 h9
 rename_i h9
 rw [if_neg h9] at h5
 have:=Ws hq hs h4
 rw [h5] at this
 exact this
end Go.Sf.Sc
namespace Go.Sf.Sc
open Go Go.Sf
def Mg:Nat->AB->Bool
 | 0,_=>true
 | N+1,c=>if anyR (fun i=>!Mg N (AA c.Kids i)) 0 c.Kids.length=true then false else decide (A3 ((c.Pattern.Graph.Nodes.length:Int)+c.Pattern.Graph.Edges.length)<=6)
theorem Ru:∀ (N:Nat) (c:AB),SizeOf.sizeOf c<=N->∀ n,N<=n->GE n c=some (Mg N c)
 | 0,c,h,_,_=>by have:=GG c; omega
 | N+1,c,h,n,hn=>by
  obtain ⟨n,rfl⟩:∃ k,n=k+1:=⟨n - 1,by omega⟩
  rw [GE,Mg,B8 (fun i=>!Mg N (AA c.Kids i)) false]
  ·cases anyR (fun i=>!Mg N (AA c.Kids i)) 0 c.Kids.length <;> rfl
  ·intro i i0 i1 _
   have:=G6 (AT (l:=c.Kids) i0 i1)
   rw [AG i0 i1,bs,Ru N _ (by omega) n (by omega),bs,Iz]
theorem X6 (c:AB):M3 c=some (Mg (SizeOf.sizeOf c) c):=F4 (SizeOf.sizeOf c) fun n hn=>Ru _ c (Nat.le_refl _) n hn
def PO (a:Int):Nat->Int->Int
 | 0,s=>s
 | k+1,s=>A3 (PO a k s*a)
theorem Y5 {a b k s:Int} (hk:0<=k) (hk2:k<=1000) (hb:b<=1000):IT (ρ:=Bool) (fun (s0:Int × Int)=>
  if (decide (s0.2<b))=true then
  some (.next (A3 (s0.1*a),A3 (s0.2+1)))
  else
  some (.brk (s0.1,s0.2))) (s,k)=some (.inl (PO a (max k b - k).toNat s,max k b)):=by
 refine Tg (fun i=>PO a (i - k).toNat s) (by omega) (by rw [show (k - k).toNat=0 by omega]; rfl) (fun i i0 i1=>?_) ?_
 ·rw [if_pos (by simp; omega),show (i+1 - k).toNat=(i - k).toNat+1 by omega,PO]
  dsimp only
  rw [BF (n:=i+1) (by omega) (by omega)]
 ·rw [if_neg (by simp; omega)]
def Ms (a b:Int):Nat->Pattern->AB->Bool
 | 0,_,_=>true
 | N+1,p,c=>
  let q:=if c.Kind=5 then c.Pattern else p
  if anyR (fun i=>!Ms a b N q (AA c.Kids i)) 0 c.Kids.length=true then false else
  decide (PO b (max (p.Graph.Edges.length:Int) q.Graph.Edges.length - p.Graph.Edges.length).toNat (PO a (max (p.Graph.Nodes.length:Int) q.Graph.Nodes.length - p.Graph.Nodes.length).toNat 1)<=5000)
theorem TI (a b:Int):∀ (N:Nat) (c:AB) (p:Pattern),SizeOf.sizeOf c<=N->EL c->PB p->∀ n,N<=n->EO n p c a b=some (Ms a b N p c)
 | 0,c,_,h,_,_,_,_=>by have:=GG c; omega
 | N+1,c,p,h,hc,hp,n,hn=>by
  obtain ⟨n,rfl⟩:∃ k,n=k+1:=⟨n - 1,by omega⟩
  have q1:=hc.q.nodes
  have q2:=hc.q.edges
  have p1:=hp.nodes
  have p2:=hp.edges
  have main:∀ q:Pattern,PB q->(thenR (IT (ρ:=Bool) (fun (s0:Int × Int)=>
    if (decide (s0.2<(q.Graph.Nodes.length:Int)))=true then
    some (.next (A3 (s0.1*a),A3 (s0.2+1)))
    else
    some (.brk (s0.1,s0.2))) (1,(p.Graph.Nodes.length:Int))) (fun s0=>
    thenR (IT (ρ:=Bool) (fun (s2:Int × Int)=>
    if (decide (s2.2<(q.Graph.Edges.length:Int)))=true then
    some (.next (A3 (s2.1*b),A3 (s2.2+1)))
    else
    some (.brk (s2.1,s2.2))) (s0.1,(p.Graph.Edges.length:Int))) (fun s2=>
    thenR (forR (ρ:=Bool) (fun (i4:Int) (_:Unit)=>
    (AH c.Kids i4).bind fun x61=>
    (EO n q x61 a b).bind fun x65=>
    if (!x65)=true then
    some (.ret false)
    else
    some (.next ())) 0 (c.Kids.length:Int) ()) (fun _=>
    some (decide (s2.1<=5000))) (fun v4=>some v4)) (fun v2=>some v2)) (fun v0=>some v0)) =
    some (if anyR (fun i=>!Ms a b N q (AA c.Kids i)) 0 c.Kids.length=true then false else
     decide (PO b (max (p.Graph.Edges.length:Int) q.Graph.Edges.length - p.Graph.Edges.length).toNat (PO a (max (p.Graph.Nodes.length:Int) q.Graph.Nodes.length - p.Graph.Nodes.length).toNat 1)<=5000)):=by
   intro q hq
   have k1:=hq.nodes
   have k2:=hq.edges
   rw [Y5 (by omega) (by omega) (by omega),DQ]
   dsimp only
   rw [Y5 (by omega) (by omega) (by omega),DQ,B8 (fun i=>!Ms a b N q (AA c.Kids i)) false]
   ·cases anyR (fun i=>!Ms a b N q (AA c.Kids i)) 0 c.Kids.length <;> rfl
   ·intro i i0 i1 _
    have:=G6 (AT (l:=c.Kids) i0 i1)
    rw [AG i0 i1,bs,TI a b N _ q (by omega) (hc.k _ (AT i0 i1)) hq n (by omega),bs,Iz]
  rw [EO,Ms]
  by_cases h5:c.Kind=5
  ·rw [if_pos (by simpa using h5),if_pos h5,bs,main _ hc.q]
  ·rw [if_neg (by simpa using h5),if_neg h5,bs,main _ hp]
theorem WY (a b:Int) {c:AB} {p:Pattern} (hc:EL c) (hp:PB p):MQ p c a b=some (Ms a b (SizeOf.sizeOf c) p c):=F4 (SizeOf.sizeOf c) fun n hn=>TI a b _ c p (Nat.le_refl _) hc hp n hn
theorem Xg (h:AZ):∃ b,Kv h=some b:=by
 unfold Kv It
 rw [bs]
 split
 ·exact ⟨_,rfl⟩
 ·rw [B8 (fun i=>decide (12<((AA h.Values i).length:Int))) false]
  ·cases anyR (fun i=>decide (12<((AA h.Values i).length:Int))) 0 h.Values.length
   ·exact ⟨true,rfl⟩
   ·exact ⟨false,rfl⟩
  ·intro i i0 i1 _
   rw [AG i0 i1,bs,Iz]
theorem Wc {t:AD} (hf:BU t) (st:(AP t).Sm) (p g:Graph):∃ b,KK t p g=some b:=by
 obtain ⟨b,e,_⟩:=RU st
 unfold KK It
 rw [e,bs,QI hf]
 simp only [bs]
 cases b <;> simp only [Bool.false_eq_true,if_false,if_true,bs]
 ·exact ⟨_,rfl⟩
 ·split <;> (rw [bs]; split <;> exact ⟨_,rfl⟩)
theorem Wd {t:AD} (hf:BU t) (st:(AP t).Sm) (p:Pattern) {c:AB} (sc:(AJ c).Sm) (h:AZ):∃ b,KO t p c h=some b∧(b=true->EL c∧He c<=40∧PB p):=by
 obtain ⟨b1,e1,f1⟩:=V6 sc
 obtain ⟨b2,e2,f2⟩:=UN p
 obtain ⟨b3,e3⟩:=Xg h
 unfold KO
 rw [e1,bs]
 cases b1
 ·exact ⟨false,rfl,fun h=>by cases h⟩
 rw [e2]
 cases b2
 ·exact ⟨false,rfl,fun h=>by cases h⟩
 rw [e3]
 cases b3
 ·exact ⟨false,rfl,fun h=>by cases h⟩
 have hc:=f1 rfl
 have hp:=f2 rfl
 simp only [bs,Bool.not_true,Bool.false_eq_true,if_false]
 rw [WZ hf p hc.1,bs]
 have hall:∀ o:Option Bool,(∃ b,o=some b)->∃ b,o=some b∧(b=true->EL c∧He c<=40∧PB p):=fun o ⟨b,e⟩=>⟨b,e,fun _=>⟨hc.1,hc.2,hp⟩⟩
 refine hall _ ?_
 split
 ·exact ⟨true,rfl⟩
 ·obtain ⟨b4,e4⟩:=Wc hf st p.Graph h.Graph
  unfold Lx
  rw [e2,e3,e4,X6,WY 14 18 hc.1 hp]
  simp only [bs,if_true]
  cases b4 <;> simp only [Bool.false_eq_true,if_false,if_true,bs,Bool.false_and]
  ·exact ⟨_,rfl⟩
  ·split
   ·exact ⟨_,rfl⟩
   ·exact ⟨_,rfl⟩
theorem Zz {x:GT} (sx:(GQ x).Sm):(AJ x.C).Sm:=by
 obtain ⟨p,c⟩:=x
 cases c
 have sx':TV.Sms [_,_,_,_,_,_,_,_,_,_,_,_,_,_]:=sx
 obtain ⟨_,_,_,_,_,h⟩:=sx'
 exact h
theorem X5 {t:AD} {x:GT} (y:Kf) (st:(AP t).Sm) (sx:(GQ x).Sm):∃ b,KE t x y=some b∧(b=true->BU t∧EL x.C∧He x.C<=40):=by
 obtain ⟨b1,e1,f1⟩:=RU st
 unfold KE
 rw [e1,bs]
 cases b1
 ·exact ⟨_,rfl,fun h=>by simp at h⟩
 obtain ⟨b2,e2,f2⟩:=Wd (f1 rfl) st x.P (Zz sx) y.H
 rw [if_pos rfl,e2]
 refine ⟨_,rfl,fun h=>?_⟩
 rw [Bool.and_eq_true] at h
 have:=f2 h.1
 exact ⟨f1 rfl,this.1,this.2.1⟩
noncomputable def wS (t:AD) (p:Pattern) (c:AB) (h:AZ) (m:AK) (inj:Bool):AS × Int:=
 if O1 t p c h m inj≠0 then (zP,O1 t p c h m inj) else DD t h inj (SizeOf.sizeOf c) c m
theorem WW {t:AD} (hf:BU t) (p:Pattern) {c:AB} (hc:EL c) (hk:He c<=40) (h:AZ) (m:AK) (inj:Bool):DR t p c h m inj=some (wS t p c h m inj):=by
 unfold DR wS
 rw [Xx hf p hc,bs]
 refine Je fun h0=>?_
 obtain ⟨hv,hh,hcv,ha⟩:=Yv hf hk h0
 rw [show DM (AR.mk t h inj) c m=some (DD t h inj (SizeOf.sizeOf c) c m) from F4 (2*SizeOf.sizeOf c) fun n hn=>Qy (s:=⟨t,h,inj⟩) hf hv hh _ c p m (Nat.le_refl _) hcv ha n hn]
 rfl
noncomputable def Vb (t:AD) (p:Pattern) (c:AB) (h:AZ) (m:AK) (inj:Bool):Bool × Int:=
 if (wS t p c h m inj).2=10 then (false,0) else (decide ((wS t p c h m inj).2=0),(wS t p c h m inj).2)
theorem T1 {t:AD} (hf:BU t) (p:Pattern) {c:AB} (hc:EL c) (hk:He c<=40) (h:AZ) (m:AK) (inj:Bool):C8 t p c h m inj=some (Vb t p c h m inj):=by
 unfold C8 Vb
 rw [WW hf p hc hk,bs]
 by_cases e:(wS t p c h m inj).2=10
 ·rw [if_pos (by simpa using e),if_pos e]
 ·rw [if_neg (by simpa using e),if_neg e]
theorem X4 {t:AD} (hf:BU t) {h:AZ} {inj:Bool} {p:Pattern} {c:AB} {m:AK} (hv:(BA t).2=0) (hh:J8 t h) (hcv:CV t p c) (ha:RJ t p h m):N2 t c h m inj=some (DC t h inj (SizeOf.sizeOf c) c m):=F4 (SizeOf.sizeOf c) fun n hn=>OG hf hv hh _ c p m (Nat.le_refl _) hcv ha n hn
theorem T4 {t:AD} (hf:BU t) (p:Pattern) {c:AB} (hc:EL c) (hk:He c<=40) (h:AZ) (m:AK) (inj:Bool):IE t p c h m inj=some (Vb t p c h m inj):=by
 unfold IE Vb
 rw [X2 hf p hc,bs]
 have hn:=Xe t p c h m inj
 by_cases h0:O1 t p c h m inj=0
 ·have hw:(wS t p c h m inj).2=(DC t h inj (SizeOf.sizeOf c) c m).2:=by unfold wS; rw [if_neg (by simp [h0]),Uv,WL]
  rw [if_neg (by simp [h0]),hw]
  obtain ⟨hv,hh,hcv,ha⟩:=Yv hf hk h0
  unfold Ly
  rw [X4 hf hv hh hcv ha,bs]
  by_cases e:(DC t h inj (SizeOf.sizeOf c) c m).2=10
  ·rw [if_pos (by simpa using e),if_pos e]; rfl
  ·rw [if_neg (by simpa using e),if_neg e]; rfl
 ·have hw:(wS t p c h m inj).2=O1 t p c h m inj:=by unfold wS; rw [if_pos h0]
  rw [if_pos (by simp [h0]),hw,if_neg hn]
  simp [h0]
theorem NC (t:AD) (x:GT) (y:Kf) (st:(AP t).Sm) (sx:(GQ x).Sm) (sy:(Km y).Sm):F3 t x y=some true:=by
 obtain ⟨b,e,f⟩:=X5 y st sx
 unfold F3
 rw [XU,bs,if_neg (by decide),e]
 cases b
 ·rfl
 obtain ⟨hf,hc,hk⟩:=f rfl
 simp only [bs,Bool.not_true,Bool.false_eq_true,if_false]
 rw [T1 hf x.P hc hk,T4 hf x.P hc hk]
 simp
end Go.Sf.Sc
