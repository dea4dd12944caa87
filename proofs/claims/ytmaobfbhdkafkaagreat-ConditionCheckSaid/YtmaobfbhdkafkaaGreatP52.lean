/- Plain lemmas: what the functions of the program and of the reference compute. -/
import Derived.Test.YtmaobfbhdkafkaaGreatP46
import Derived.Test.YtmaobfbhdkafkaaGreatP25
set_option maxRecDepth 100000
namespace Go.Sf.Sc
open Go Go.Sf
inductive CV (t:AD):Pattern->AB->Prop where
 | mk (p:Pattern) (c:AB) (few:c.Kids.length<=40) (rng:1<=c.Kind∧c.Kind<=5) (one:c.Kind=2∨c.Kind=5->c.Kids.length=1) (ins:c.Kind=5->Vu t p c) (kids:∀ k∈c.Kids,CV t (if c.Kind=5 then c.Pattern else p) k):CV t p c
theorem CV.few {t:AD} {p:Pattern} {c:AB} (h:CV t p c):c.Kids.length<=40:=by cases h; assumption
theorem CV.rng {t:AD} {p:Pattern} {c:AB} (h:CV t p c):1<=c.Kind∧c.Kind<=5:=by cases h; assumption
theorem CV.one {t:AD} {p:Pattern} {c:AB} (h:CV t p c):c.Kind=2∨c.Kind=5->c.Kids.length=1:=by cases h; assumption
theorem CV.ins {t:AD} {p:Pattern} {c:AB} (h:CV t p c):c.Kind=5->Vu t p c:=by cases h; assumption
theorem CV.kids {t:AD} {p:Pattern} {c:AB} (h:CV t p c):∀ k∈c.Kids,CV t (if c.Kind=5 then c.Pattern else p) k:=by cases h; assumption
theorem CV.kid {t:AD} {p:Pattern} {c:AB} (h:CV t p c) (h5:¬ c.Kind=5):∀ k∈c.Kids,CV t p k:=fun k hk=>by have:=h.kids k hk; rwa [if_neg h5] at this
theorem CV.kid5 {t:AD} {p:Pattern} {c:AB} (h:CV t p c) (h5:c.Kind=5):∀ k∈c.Kids,CV t c.Pattern k:=fun k hk=>by have:=h.kids k hk; rwa [if_pos h5] at this
theorem Rb:∀ l:List AB,l.length<=MO l
 | []=>by simp
 | c::l=>by
  have:=Rb l
  have h1:MO (c::l)=H3 c+MO l:=by simp [MO]
  have h2:=St c
  simp only [List.length_cons]
  omega
theorem ij {t:AD} {q:Pattern} {v:Int} (hv:(BC t).2=0) (h:Na t q v=0):Ob t q:=by
 unfold Na at h
 split at h
 ·exact VR hv (.inl h)
 ·rename_i h9; exact VR hv (.inr (Classical.not_not.1 h9))
theorem Yz {t:AD} (hv:(BC t).2=0):∀ (N:Nat) (c:AB) (p:Pattern),SizeOf.sizeOf c<=N->H3 c<=40->Nv N c=true->Jc N t p c=0->CV t p c
 | 0,c,_,h,_,_,_=>by have:=E6 c; omega
 | N+1,c,p,h,hc,hw,ho=>by
  have hk0:=St c
  have hk1:=Rb c.Kids
  rw [Nv,Bool.and_eq_true] at hw
  obtain ⟨hw1,hw2⟩:=hw
  have hone:c.Kind=2∨c.Kind=5->c.Kids.length=1:=by
   intro hk
   unfold OD at hw1
   rcases hk with hk | hk
   ·rw [if_neg (by omega),if_pos hk,Bool.and_eq_true,decide_eq_true_eq] at hw1; exact hw1.1
   ·rw [if_neg (by omega),if_neg (by omega),if_neg (by omega),if_pos hk,decide_eq_true_eq] at hw1; exact hw1
  have hrng:1<=c.Kind∧c.Kind<=5:=by
   unfold OD at hw1
   split at hw1
   ·omega
   split at hw1
   ·omega
   split at hw1
   ·omega
   split at hw1
   ·omega
   ·cases hw1
  have hkid:∀ q,(fst (fun i=>nz (Jc N t q (AA c.Kids i))) 0 c.Kids.length).getD 0=0->∀ k∈c.Kids,CV t q k:=by
   intro q hq k hk
   have h1:=S6 hq
   have h2:=Ss hk
   have h3:=GC hk
   rw [List.all_eq_true] at hw2
   obtain ⟨i,i0,i1,e⟩:=FF hk
   have h4:=h1 i i0 i1
   rw [e] at h4
   exact Yz hv N k q (by omega) (by omega) (hw2 k hk) h4
  rw [Jc] at ho
  by_cases h5:c.Kind=5
  ·rw [if_pos h5] at ho
   split at ho
   ·cases ho
   rename_i h6
   split at ho
   ·rename_i h7; exact absurd ho h7
   rename_i h7
   split at ho
   ·rename_i h8; exact absurd ho h8
   rename_i h8
   split at ho
   ·cases ho
   rename_i h9
   refine CV.mk p c (by omega) hrng hone (fun _=>⟨ij hv (Classical.not_not.1 h7),by omega,Y2 (Classical.not_not.1 h8),by simpa using h9⟩) ?_
   rw [if_pos h5]
   exact hkid _ ho
  ·rw [if_neg h5] at ho
   refine CV.mk p c (by omega) hrng hone (fun e=>absurd e h5) ?_
   rw [if_neg h5]
   exact hkid _ ho
section
variable {α σ ρ:Type}
theorem Oe [Inhabited α] {l:List α} {f:Int->σ->Option (CH σ ρ)} (step:α->σ->CH σ ρ) (I:Int->σ->Prop) (h:∀ (i:Int) s,0<=i->i<l.length->I i s->f i s=some (step (AA l i) s)∧∀ s',step (AA l i) s=.next s'->I (i+1) s') :
  ∀ (n:Nat) (a:Int) (s:σ),0<=a->a+n=l.length->I a s->forGo f n a s=some (EO step (l.drop a.toNat) s)
 | 0,a,s,h0,h1,_=>by
  rw [List.drop_eq_nil_of_le (by omega)]; rfl
 | n+1,a,s,h0,h1,hs=>by
  obtain ⟨h2,h3⟩:=h a s h0 (by omega) hs
  have hd:l.drop a.toNat=AA l a::l.drop (a+1).toNat:=by
   rw [show (a+1).toNat=a.toNat+1 by omega,List.drop_eq_getElem_cons (by omega)]
   congr 1
   unfold AA
   rw [List.getD_eq_getElem?_getD,List.getElem?_eq_getElem (by omega)]; rfl
  rw [GV,h2,hd,EO]
  cases hc:step (AA l a) s with
  | next s'=>
   simp only
   exact Oe step I h n (a+1) s' (by omega) (by omega) (h3 s' hc)
  | brk s'=>rfl
  | ret r=>rfl
theorem Qu [Inhabited α] {l:List α} {f:Int->σ->Option (CH σ ρ)} (step:α->σ->CH σ ρ) (I:Int->σ->Prop) {s:σ} (hs:I 0 s) (h:∀ (i:Int) s,0<=i->i<l.length->I i s->f i s=some (step (AA l i) s)∧∀ s',step (AA l i) s=.next s'->I (i+1) s') :
  forR f 0 l.length s=some (EO step l s):=by
 have:=Oe step I h l.length 0 s (by omega) (by omega) hs
 unfold forR
 rw [show ((l.length:Int) - 0).toNat=l.length by omega]
 exact this
theorem RG {s1 s2:α->σ->CH σ ρ}:∀ {l:List α} {s:σ},(∀ a∈l,s1 a=s2 a)->EO s1 l s=EO s2 l s
 | [],_,_=>rfl
 | a::l,s,h=>by
  rw [EO,EO,h a (by simp)]
  split
  ·exact RG fun b hb=>h b (by simp [hb])
  ·rfl
  ·rfl
end
abbrev zM:AH:=⟨⟨[],[]⟩,[]⟩
abbrev zP:AM:=⟨0,zM,[]⟩
def LA (w:AB->AM × Int) (k:AB) (s:AM × AM):CH (AM × AM) (AM × Int):=
 if (w k).2≠0 then .ret (zP,(w k).2) else .next (s.1,⟨s.2.Choice,s.2.Match,s.2.Kids++[(w k).1]⟩)
def Ox (w:AB->AM × Int) (l:List AB):AM × Int:=
 match EO (LA w) l (zP,zP) with
 | .inl s=>(s.2,0)
 | .inr r=>r
def C0 (t:AD) (h:AY) (inj:Bool):Nat->AB->AH->AM × Int
 | 0,_,_=>(zP,0)
 | N+1,c,m=>
  if c.Kind=2 then (if (C0 t h inj N (AA c.Kids 0) m).2=0 then (zP,10) else if (C0 t h inj N (AA c.Kids 0) m).2=10 then (zP,0) else (zP,(C0 t h inj N (AA c.Kids 0) m).2)) else
  if c.Kind=3 then Ox (fun k=>C0 t h inj N k m) c.Kids else
  if c.Kind=4 then (fst (fun i=>if (C0 t h inj N (AA c.Kids i) m).2=0 then some (⟨i,zM,[(C0 t h inj N (AA c.Kids i) m).1]⟩,0) else if (C0 t h inj N (AA c.Kids i) m).2≠10 then some (zP,(C0 t h inj N (AA c.Kids i) m).2) else none) 0 c.Kids.length).getD (zP,10) else
  if c.Kind=5 then
   (if (C2 t c h m inj).2≠0 then (zP,(C2 t c h m inj).2) else
   (fst (fun i=>if (C0 t h inj N (AA c.Kids 0) (AA (C2 t c h m inj).1 i)).2=0 then some (⟨0,AA (C2 t c h m inj).1 i,[(C0 t h inj N (AA c.Kids 0) (AA (C2 t c h m inj).1 i)).1]⟩,0) else
    if (C0 t h inj N (AA c.Kids 0) (AA (C2 t c h m inj).1 i)).2≠10 then some (zP,(C0 t h inj N (AA c.Kids 0) (AA (C2 t c h m inj).1 i)).2) else none) 0 (C2 t c h m inj).1.length).getD (zP,10)) else
  (zP,0)
def DK (t:AD) (h:AY) (inj:Bool):Nat->AB->AH->AM × Int
 | 0,_,_=>(zP,0)
 | N+1,c,m=>
  if c.Kind=2 then (if (DK t h inj N (AA c.Kids 0) m).2=0 then (zP,10) else if (DK t h inj N (AA c.Kids 0) m).2=10 then (zP,0) else (zP,(DK t h inj N (AA c.Kids 0) m).2)) else
  if c.Kind=3 then Ox (fun k=>DK t h inj N k m) c.Kids else
  if c.Kind=4 then (fst (fun i=>if (DK t h inj N (AA c.Kids i) m).2≠10 then some (⟨i,zM,[(DK t h inj N (AA c.Kids i) m).1]⟩,(DK t h inj N (AA c.Kids i) m).2) else none) 0 c.Kids.length).getD (zP,10) else
  if c.Kind=5 then
   (if (C2 t c h m inj).2≠0 then (zP,(C2 t c h m inj).2) else
   (fst (fun i=>if (DK t h inj N (AA c.Kids 0) (AA (C2 t c h m inj).1 i)).2≠10 then some (⟨0,AA (C2 t c h m inj).1 i,[(DK t h inj N (AA c.Kids 0) (AA (C2 t c h m inj).1 i)).1]⟩,(DK t h inj N (AA c.Kids 0) (AA (C2 t c h m inj).1 i)).2) else none) 0 (C2 t c h m inj).1.length).getD (zP,10)) else
  (zP,0)
def Kr (x:AM × Int):AM × Int:=if x.2=0 then x else (zP,x.2)
theorem WG (x:AM × Int):(Kr x).2=x.2:=by unfold Kr; split <;> rfl
theorem WE {x:AM × Int} (h:x.2=0):(Kr x).1=x.1:=by unfold Kr; rw [if_pos h]
theorem XR (w:AB->AM × Int) (l:List AB):Kr (Ox w l)=Ox w l:=by
 unfold Ox
 have:∀ (l:List AB) (s:AM × AM) (r:AM × Int),EO (LA w) l s=.inr r->Kr r=r:=by
  intro l
  induction l with
  | nil=>intro s r h; cases h
  | cons a l ih=>
   intro s r h
   rw [EO] at h
   split at h
   ·exact ih _ _ h
   ·cases h
   ·rename_i r' h'
    cases h
    unfold LA at h'
    split at h'
    ·rename_i hne
     cases h'
     unfold Kr
     rw [if_neg hne]
    ·cases h'
 cases hr:EO (LA w) l (zP,zP) with
 | inl s=>rfl
 | inr r=>exact this _ _ _ hr
theorem Rr (o:Option (AM × Int)):Kr (o.getD (zP,10))=(o.map Kr).getD (zP,10):=by cases o <;> rfl
theorem Uz (t:AD) (h:AY) (inj:Bool):∀ (N:Nat) (c:AB) (m:AH),C0 t h inj N c m=Kr (DK t h inj N c m)
 | 0,_,_=>rfl
 | N+1,c,m=>by
  have ih:=Uz t h inj N
  have key:∀ (c:AB) (m:AH),(C0 t h inj N c m).2=(DK t h inj N c m).2:=fun c m=>by rw [ih,WG]
  have pick:∀ (k:AB) (m x:AH) (i:Int),(if (C0 t h inj N k m).2=0 then some ((⟨i,x,[(C0 t h inj N k m).1]⟩:AM),(0:Int)) else if (C0 t h inj N k m).2≠10 then some (zP,(C0 t h inj N k m).2) else none)=(if (DK t h inj N k m).2≠10 then some ((⟨i,x,[(DK t h inj N k m).1]⟩:AM),(DK t h inj N k m).2) else none).map Kr:=by
   intro k m x i
   rw [key]
   by_cases h0:(DK t h inj N k m).2=0
   ·rw [if_pos h0,if_pos (by omega),ih,WE h0]
    simp [Kr,h0]
   ·rw [if_neg h0]
    by_cases h1:(DK t h inj N k m).2≠10
    ·rw [if_pos h1,if_pos h1]
     simp [Kr,h0]
    ·rw [if_neg h1,if_neg h1]; rfl
  rw [C0,DK]
  by_cases h2:c.Kind=2
  ·rw [if_pos h2,if_pos h2,key]
   by_cases h0:(DK t h inj N (AA c.Kids 0) m).2=0
   ·rw [if_pos h0]; rfl
   ·rw [if_neg h0]
    by_cases h1:(DK t h inj N (AA c.Kids 0) m).2=10
    ·rw [if_pos h1]; rfl
    ·rw [if_neg h1]; unfold Kr; rw [if_neg h0]
  rw [if_neg h2,if_neg h2]
  by_cases h3:c.Kind=3
  ·rw [if_pos h3,if_pos h3,XR]
   unfold Ox
   rw [RG (s2:=LA fun k=>DK t h inj N k m)]
   intro k _
   funext s
   unfold LA
   simp only [key]
   by_cases h0:(DK t h inj N k m).2=0
   ·rw [if_neg (by simp [h0]),if_neg (by simp [h0]),ih,WE h0]
   ·rw [if_pos h0,if_pos h0]
  rw [if_neg h3,if_neg h3]
  by_cases h4:c.Kind=4
  ·rw [if_pos h4,if_pos h4,Rr,←Mk]
   congr 1
   exact congrArg (fun F=>fst F 0 (c.Kids.length:Int)) (funext fun i=>pick _ _ _ _)
  rw [if_neg h4,if_neg h4]
  by_cases h5:c.Kind=5
  ·rw [if_pos h5,if_pos h5]
   by_cases h6:(C2 t c h m inj).2≠0
   ·rw [if_pos h6,if_pos h6]; unfold Kr; rw [if_neg h6]
   ·rw [if_neg h6,if_neg h6,Rr,←Mk]
    congr 1
    exact congrArg (fun F=>fst F 0 ((C2 t c h m inj).1.length:Int)) (funext fun i=>pick _ _ _ _)
  rw [if_neg h5,if_neg h5]; rfl
end Go.Sf.Sc
namespace Go.Sf.Sc
open Go Go.Sf
def NI (i:Int) (s:AM × AM):Prop:=(s.2.Kids.length:Int)=i
theorem Q8 {s:AS} (hf:BV s.t) (hv:(BC s.t).2=0) (hh:Jg s.t s.h):∀ (N:Nat) (c:AB) (p:Pattern) (m:AH),SizeOf.sizeOf c<=N->CV s.t p c->Qa s.t p s.h m->∀ n,2*N<=n->AZ n s c m=some (C0 s.t s.h s.injective N c m)
 | 0,c,_,_,h,_,_,_,_=>by have:=E6 c; omega
 | N+1,c,p,m,h,hc,ha,n,hn=>by
  obtain ⟨n,rfl⟩:∃ k,n=k+2:=⟨n - 2,by omega⟩
  have kid:∀ (i:Int),0<=i->i<c.Kids.length->SizeOf.sizeOf (AA c.Kids i)<=N:=fun i i0 i1=>by
   have:=GC (AO (l:=c.Kids) i0 i1); omega
  rw [AZ,C0]
  by_cases h2:c.Kind=2
  ·have h1:=hc.one (.inl h2)
   rw [if_pos (by simpa using h2),if_pos h2,AF (by omega) (by omega),bs,Q8 hf hv hh N _ p m (kid 0 (by omega) (by omega)) (hc.kid (by omega) _ (AO (by omega) (by omega))) ha (n+1) (by omega),bs]
   generalize C0 s.t s.h s.injective N (AA c.Kids 0) m=x
   by_cases e0:x.2=0
   ·rw [if_pos (by simpa using e0),if_pos e0]; try rfl
   ·rw [if_neg (by simpa using e0),if_neg e0]
    by_cases e1:x.2=10
    ·rw [if_pos (by simpa using e1),if_pos e1]; try rfl
    ·rw [if_neg (by simpa using e1),if_neg e1]; try rfl
  rw [if_neg (by simpa using h2),if_neg h2]
  by_cases h3:c.Kind=3
  ·rw [if_pos (by simpa using h3),if_pos h3]
   have hfew:=hc.few
   rw [Qu (LA fun k=>C0 s.t s.h s.injective N k m) NI (show NI 0 (zP,zP) from rfl)]
   ·unfold Ox
    show thenR (some (EO (LA fun k=>C0 s.t s.h s.injective N k m) c.Kids (zP,zP))) _ _=_
    cases EO (LA fun k=>C0 s.t s.h s.injective N k m) c.Kids (zP,zP) <;> rfl
   ·intro i st i0 i1 hi
    unfold NI at hi
    rw [AF i0 i1,bs,Q8 hf hv hh N _ p m (kid i i0 i1) (hc.kid (by omega) _ (AO i0 i1)) ha (n+1) (by omega),bs]
    dsimp only [LA]
    by_cases e0:(C0 s.t s.h s.injective N (AA c.Kids i) m).2=0
    ·rw [if_neg (by simp [e0]),if_neg (by simp [e0]),DI (by simp; unfold B0; omega),bs]
     refine ⟨rfl,fun s' e=>?_⟩
     cases e
     unfold NI
     simp; omega
    ·rw [if_pos (by simp [e0]),if_pos e0]
     exact ⟨rfl,fun s' e=>by cases e⟩
  rw [if_neg (by simpa using h3),if_neg h3]
  by_cases h4:c.Kind=4
  ·rw [if_pos (by simpa using h4),if_pos h4]
   rw [Nk (fun _=>zP) (fun i=>if (C0 s.t s.h s.injective N (AA c.Kids i) m).2=0 then some (⟨i,zM,[(C0 s.t s.h s.injective N (AA c.Kids i) m).1]⟩,0) else if (C0 s.t s.h s.injective N (AA c.Kids i) m).2≠10 then some (zP,(C0 s.t s.h s.injective N (AA c.Kids i) m).2) else none) (by omega) rfl]
   ·cases fst (fun i=>if (C0 s.t s.h s.injective N (AA c.Kids i) m).2=0 then some ((⟨i,zM,[(C0 s.t s.h s.injective N (AA c.Kids i) m).1]⟩:AM),(0:Int)) else if (C0 s.t s.h s.injective N (AA c.Kids i) m).2≠10 then some (zP,(C0 s.t s.h s.injective N (AA c.Kids i) m).2) else none) 0 c.Kids.length <;> rfl
   ·intro i i0 i1 _
    rw [AF i0 i1,bs,Q8 hf hv hh N _ p m (kid i i0 i1) (hc.kid (by omega) _ (AO i0 i1)) ha (n+1) (by omega),bs]
    generalize C0 s.t s.h s.injective N (AA c.Kids i) m=x
    by_cases e0:x.2=0
    ·rw [if_pos (by simpa using e0),if_pos e0]; try rfl
    ·rw [if_neg (by simpa using e0),if_neg e0]
     by_cases e1:x.2=10
     ·rw [if_neg (by simp [e1]),if_neg (by simp [e1])]; try rfl
     ·rw [if_pos (by simp [e1]),if_pos e1]; try rfl
  rw [if_neg (by simpa using h4),if_neg h4]
  by_cases h5:c.Kind=5
  ·rw [if_pos (by simpa using h5),if_pos h5]
   have hi:=hc.ins h5
   have h1:=hc.one (.inr h5)
   rw [BJ,WI hf hv hh ha hi,bs]
   by_cases h6:(C2 s.t c s.h m s.injective).2=0
   ·obtain ⟨e1,e2⟩:=Pq hv hh ha hi h6
    rw [if_neg (by simp [h6]),if_neg (by simp [h6])]
    generalize (C2 s.t c s.h m s.injective).1=l at e1 e2
    rw [Nk (fun _=>zP) (fun i=>if (C0 s.t s.h s.injective N (AA c.Kids 0) (AA l i)).2=0 then some (⟨0,AA l i,[(C0 s.t s.h s.injective N (AA c.Kids 0) (AA l i)).1]⟩,0) else if (C0 s.t s.h s.injective N (AA c.Kids 0) (AA l i)).2≠10 then some (zP,(C0 s.t s.h s.injective N (AA c.Kids 0) (AA l i)).2) else none) (by omega) rfl]
    ·cases fst (fun i=>if (C0 s.t s.h s.injective N (AA c.Kids 0) (AA l i)).2=0 then some ((⟨0,AA l i,[(C0 s.t s.h s.injective N (AA c.Kids 0) (AA l i)).1]⟩:AM),(0:Int)) else if (C0 s.t s.h s.injective N (AA c.Kids 0) (AA l i)).2≠10 then some (zP,(C0 s.t s.h s.injective N (AA c.Kids 0) (AA l i)).2) else none) 0 l.length <;> rfl
    ·intro i i0 i1 _
     rw [AF i0 i1,bs,AF (by omega) (by omega),bs,Q8 hf hv hh N _ c.Pattern _ (kid 0 (by omega) (by omega)) (hc.kid5 h5 _ (AO (by omega) (by omega))) (e2 _ (AO i0 i1)) n (by omega),bs]
     generalize C0 s.t s.h s.injective N (AA c.Kids 0) (AA l i)=x
     by_cases e0:x.2=0
     ·rw [if_pos (by simpa using e0),if_pos e0]; try rfl
     ·rw [if_neg (by simpa using e0),if_neg e0]
      by_cases e1:x.2=10
      ·rw [if_neg (by simp [e1]),if_neg (by simp [e1])]; try rfl
      ·rw [if_pos (by simp [e1]),if_pos e1]; try rfl
   ·rw [if_pos (by simp [h6]),if_pos h6]; try rfl
  rw [if_neg (by simpa using h5),if_neg h5]; try rfl
theorem Np {t:AD} {hst:AY} {inj:Bool} (hf:BV t) (hv:(BC t).2=0) (hh:Jg t hst):∀ (N:Nat) (c:AB) (p:Pattern) (m:AH),SizeOf.sizeOf c<=N->CV t p c->Qa t p hst m->∀ n,N<=n->EJ n t c hst m inj=some (DK t hst inj N c m)
 | 0,c,_,_,h,_,_,_,_=>by have:=E6 c; omega
 | N+1,c,p,m,h,hc,ha,n,hn=>by
  obtain ⟨n,rfl⟩:∃ k,n=k+1:=⟨n - 1,by omega⟩
  have kid:∀ (i:Int),0<=i->i<c.Kids.length->SizeOf.sizeOf (AA c.Kids i)<=N:=fun i i0 i1=>by
   have:=GC (AO (l:=c.Kids) i0 i1); omega
  rw [EJ,DK]
  by_cases h2:c.Kind=2
  ·have h1:=hc.one (.inl h2)
   rw [if_pos (by simpa using h2),if_pos h2,AF (by omega) (by omega),bs,Np hf hv hh N _ p m (kid 0 (by omega) (by omega)) (hc.kid (by omega) _ (AO (by omega) (by omega))) ha n (by omega),bs]
   generalize DK t hst inj N (AA c.Kids 0) m=x
   by_cases e0:x.2=0
   ·rw [if_pos (by simpa using e0),if_pos e0]; try rfl
   ·rw [if_neg (by simpa using e0),if_neg e0]
    by_cases e1:x.2=10
    ·rw [if_pos (by simpa using e1),if_pos e1]; try rfl
    ·rw [if_neg (by simpa using e1),if_neg e1]; try rfl
  rw [if_neg (by simpa using h2),if_neg h2]
  by_cases h3:c.Kind=3
  ·rw [if_pos (by simpa using h3),if_pos h3]
   have hfew:=hc.few
   rw [Qu (LA fun k=>DK t hst inj N k m) NI (show NI 0 (zP,zP) from rfl)]
   ·unfold Ox
    show thenR (some (EO (LA fun k=>DK t hst inj N k m) c.Kids (zP,zP))) _ _=_
    cases EO (LA fun k=>DK t hst inj N k m) c.Kids (zP,zP) <;> rfl
   ·intro i st i0 i1 hi
    unfold NI at hi
    rw [AF i0 i1,bs,Np hf hv hh N _ p m (kid i i0 i1) (hc.kid (by omega) _ (AO i0 i1)) ha n (by omega),bs]
    dsimp only [LA]
    by_cases e0:(DK t hst inj N (AA c.Kids i) m).2=0
    ·rw [if_neg (by simp [e0]),if_neg (by simp [e0]),DI (by simp; unfold B0; omega),bs]
     refine ⟨rfl,fun s' e=>?_⟩
     cases e
     unfold NI
     simp; omega
    ·rw [if_pos (by simp [e0]),if_pos e0]
     exact ⟨rfl,fun s' e=>by cases e⟩
  rw [if_neg (by simpa using h3),if_neg h3]
  by_cases h4:c.Kind=4
  ·rw [if_pos (by simpa using h4),if_pos h4]
   rw [Nk (fun _=>zP) (fun i=>if (DK t hst inj N (AA c.Kids i) m).2≠10 then some (⟨i,zM,[(DK t hst inj N (AA c.Kids i) m).1]⟩,(DK t hst inj N (AA c.Kids i) m).2) else none) (by omega) rfl]
   ·cases fst (fun i=>if (DK t hst inj N (AA c.Kids i) m).2≠10 then some ((⟨i,zM,[(DK t hst inj N (AA c.Kids i) m).1]⟩:AM),(DK t hst inj N (AA c.Kids i) m).2) else none) 0 c.Kids.length <;> rfl
   ·intro i i0 i1 _
    rw [AF i0 i1,bs,Np hf hv hh N _ p m (kid i i0 i1) (hc.kid (by omega) _ (AO i0 i1)) ha n (by omega),bs]
    generalize DK t hst inj N (AA c.Kids i) m=x
    by_cases e1:x.2=10
    ·rw [if_neg (by simp [e1]),if_neg (by simp [e1])]; try rfl
    ·rw [if_pos (by simp [e1]),if_pos e1]; try rfl
  rw [if_neg (by simpa using h4),if_neg h4]
  by_cases h5:c.Kind=5
  ·rw [if_pos (by simpa using h5),if_pos h5]
   have hi:=hc.ins h5
   have h1:=hc.one (.inr h5)
   rw [WX hf hv hh ha hi,bs]
   by_cases h6:(C2 t c hst m inj).2=0
   ·obtain ⟨e1,e2⟩:=Pq hv hh ha hi h6
    rw [if_neg (by simp [h6]),if_neg (by simp [h6])]
    generalize (C2 t c hst m inj).1=l at e1 e2
    rw [Nk (fun _=>zP) (fun i=>if (DK t hst inj N (AA c.Kids 0) (AA l i)).2≠10 then some (⟨0,AA l i,[(DK t hst inj N (AA c.Kids 0) (AA l i)).1]⟩,(DK t hst inj N (AA c.Kids 0) (AA l i)).2) else none) (by omega) rfl]
    ·cases fst (fun i=>if (DK t hst inj N (AA c.Kids 0) (AA l i)).2≠10 then some ((⟨0,AA l i,[(DK t hst inj N (AA c.Kids 0) (AA l i)).1]⟩:AM),(DK t hst inj N (AA c.Kids 0) (AA l i)).2) else none) 0 l.length <;> rfl
    ·intro i i0 i1 _
     rw [AF (by omega) (by omega),bs,AF i0 i1,bs,Np hf hv hh N _ c.Pattern _ (kid 0 (by omega) (by omega)) (hc.kid5 h5 _ (AO (by omega) (by omega))) (e2 _ (AO i0 i1)) n (by omega),bs]
     generalize DK t hst inj N (AA c.Kids 0) (AA l i)=x
     by_cases e1:x.2=10
     ·rw [if_neg (by simp [e1]),if_neg (by simp [e1])]; try rfl
     ·rw [if_pos (by simp [e1]),if_pos e1]; try rfl
   ·rw [if_pos (by simp [h6]),if_pos h6]; try rfl
  rw [if_neg (by simpa using h5),if_neg h5]; try rfl
end Go.Sf.Sc
namespace Go.Sf.Sc
open Go Go.Sf
noncomputable def Qm (t:AD) (p:Pattern) (c:AB) (h:AY) (m:AH) (inj:Bool):Int:=
 if MZ t p c≠0 then MZ t p c else if (Mc t h).2≠0 then (Mc t h).2 else if Mz t p.Graph h.Graph m.Morphism inj≠0 then Mz t p.Graph h.Graph m.Morphism inj else
 if (LU t p h m.Morphism).2≠0 then (LU t p h m.Morphism).2 else if (LU t p h m.Morphism).1=m.Vars then 0 else 11
theorem Xx {t:AD} (hf:BV t) (p:Pattern) {c:AB} (hc:EW c) (h:AY) (m:AH) (inj:Bool):EA t p c h m inj=some (Qm t p c h m inj):=by
 unfold EA Qm
 rw [Z6 hf p hc,bs]
 refine HM fun _=>?_
 rw [WK hf,bs]
 refine HM fun _=>?_
 rw [Ue hf,bs]
 refine HM fun _=>?_
 rw [Z4 hf,bs]
 refine HM fun _=>?_
 rw [Sa,bs]
 by_cases e:(LU t p h m.Morphism).1=m.Vars
 ·rw [if_neg (by simp [e]),if_pos e]
 ·rw [if_pos (by simp [e]),if_neg e]
theorem X5 {t:AD} (hf:BV t) (p:Pattern) {c:AB} (hc:EW c) (h:AY) (m:AH) (inj:Bool):Kd t p c h m inj=some (Qm t p c h m inj):=by
 unfold Kd Qm
 rw [WW hf p hc,bs]
 refine HM fun _=>?_
 rw [WZ hf,bs]
 refine HM fun _=>?_
 unfold L5
 rw [Uj hf,bs]
 have e:∀ o:Option Int,(o.bind fun x37=>some x37)=o:=fun o=>by cases o <;> rfl
 rw [e]
 refine HM fun _=>?_
 rw [aG hf,bs,aE]
 by_cases h0:(LU t p h m.Morphism).2=0
 ·rw [if_pos (by simpa using h0),if_neg (by simp [h0])]
  by_cases e:(LU t p h m.Morphism).1=m.Vars
  ·rw [if_pos e]; simp [e,h0]
  ·rw [if_neg e]; simp [e]
 ·rw [if_neg (by simpa using h0),if_pos h0]; rfl
theorem Yx {t:AD} (hf:BV t) {p:Pattern} {c:AB} (hc:H3 c<=40) {h:AY} {m:AH} {inj:Bool} (e:Qm t p c h m inj=0):(BC t).2=0∧Jg t h∧CV t p c∧Qa t p h m:=by
 unfold Qm at e
 split at e
 ·rename_i h1; exact absurd e h1
 rename_i h1
 split at e
 ·rename_i h2; exact absurd e h2
 rename_i h2
 split at e
 ·rename_i h3; exact absurd e h3
 rename_i h3
 split at e
 ·rename_i h4; exact absurd e h4
 rename_i h4
 split at e
 case isFalse=>cases e
 rename_i h5
 have h1:=Classical.not_not.1 h1
 have h2:=Classical.not_not.1 h2
 have h3:=Classical.not_not.1 h3
 have h4:=Classical.not_not.1 h4
 obtain ⟨hv,hh⟩:=UV hf h2
 have hm:=(V0 h3).2
 unfold MZ at h1
 split at h1
 ·rename_i h6; exact absurd h1 h6
 rename_i h6
 split at h1
 ·rename_i h7; exact absurd h1 h7
 rename_i h7
 have hq:=VR hv (.inl (Classical.not_not.1 h6))
 have h7:=Classical.not_not.1 h7
 have hw:ZL c=true:=by
  unfold M9 at h7
  split at h7
  ·cases h7
  ·rename_i h8; simpa using h8
 suffices hs:(m.Vars.length:Int)=p.Vars∧ML m.Vars from ⟨hv,hh,Yz hv _ c p (Nat.le_refl _) hc hw h1,hq,hm,hs.1,hs.2⟩
 have hs:∀ s∈p.Slots,Ih p.Vars h m.Morphism s:=fun s hs=>Mt (GG hv) hq hh hm hs
 unfold LU at h4 h5
 split at h4
 ·rename_i h8; exact absurd h4 h8
 rename_i h8
 rw [if_neg h8] at h5
 split at h4
 ·rename_i h9; exact absurd h4 h9
 rename_i h9
 rw [if_neg h9] at h5
 have:=Wr hq hs h4
 rw [h5] at this
 exact this
end Go.Sf.Sc
namespace Go.Sf.Sc
open Go Go.Sf
def Mm:Nat->AB->Bool
 | 0,_=>true
 | N+1,c=>if anyR (fun i=>!Mm N (AA c.Kids i)) 0 c.Kids.length=true then false else decide (A0 ((c.Pattern.Graph.Nodes.length:Int)+c.Pattern.Graph.Edges.length)<=6)
theorem R6:∀ (N:Nat) (c:AB),SizeOf.sizeOf c<=N->∀ n,N<=n->GJ n c=some (Mm N c)
 | 0,c,h,_,_=>by have:=E6 c; omega
 | N+1,c,h,n,hn=>by
  obtain ⟨n,rfl⟩:∃ k,n=k+1:=⟨n - 1,by omega⟩
  rw [GJ,Mm,B3 (fun i=>!Mm N (AA c.Kids i)) false]
  ·cases anyR (fun i=>!Mm N (AA c.Kids i)) 0 c.Kids.length <;> rfl
  ·intro i i0 i1 _
   have:=GC (AO (l:=c.Kids) i0 i1)
   rw [AF i0 i1,bs,R6 N _ (by omega) n (by omega),bs,IT]
theorem X9 (c:AB):M7 c=some (Mm (SizeOf.sizeOf c) c):=ET (SizeOf.sizeOf c) fun n hn=>R6 _ c (Nat.le_refl _) n hn
def PY (a:Int):Nat->Int->Int
 | 0,s=>s
 | k+1,s=>A0 (PY a k s*a)
theorem Y7 {a b k s:Int} (hk:0<=k) (hk2:k<=1000) (hb:b<=1000):IR (ρ:=Bool) (fun (s0:Int × Int)=>
  if (decide (s0.2<b))=true then
  some (.next (A0 (s0.1*a),A0 (s0.2+1)))
  else
  some (.brk (s0.1,s0.2))) (s,k)=some (.inl (PY a (max k b - k).toNat s,max k b)):=by
 refine Tv (fun i=>PY a (i - k).toNat s) (by omega) (by rw [show (k - k).toNat=0 by omega]; rfl) (fun i i0 i1=>?_) ?_
 ·rw [if_pos (by simp; omega),show (i+1 - k).toNat=(i - k).toNat+1 by omega,PY]
  dsimp only
  rw [BI (n:=i+1) (by omega) (by omega)]
 ·rw [if_neg (by simp; omega)]
def Mx (a b:Int):Nat->Pattern->AB->Bool
 | 0,_,_=>true
 | N+1,p,c=>
  let q:=if c.Kind=5 then c.Pattern else p
  if anyR (fun i=>!Mx a b N q (AA c.Kids i)) 0 c.Kids.length=true then false else
  decide (PY b (max (p.Graph.Edges.length:Int) q.Graph.Edges.length - p.Graph.Edges.length).toNat (PY a (max (p.Graph.Nodes.length:Int) q.Graph.Nodes.length - p.Graph.Nodes.length).toNat 1)<=5000)
theorem TX (a b:Int):∀ (N:Nat) (c:AB) (p:Pattern),SizeOf.sizeOf c<=N->EW c->Ov p->∀ n,N<=n->EN n p c a b=some (Mx a b N p c)
 | 0,c,_,h,_,_,_,_=>by have:=E6 c; omega
 | N+1,c,p,h,hc,hp,n,hn=>by
  obtain ⟨n,rfl⟩:∃ k,n=k+1:=⟨n - 1,by omega⟩
  have q1:=hc.q.nodes
  have q2:=hc.q.edges
  have p1:=hp.nodes
  have p2:=hp.edges
  have main:∀ q:Pattern,Ov q->(thenR (IR (ρ:=Bool) (fun (s0:Int × Int)=>
    if (decide (s0.2<(q.Graph.Nodes.length:Int)))=true then
    some (.next (A0 (s0.1*a),A0 (s0.2+1)))
    else
    some (.brk (s0.1,s0.2))) (1,(p.Graph.Nodes.length:Int))) (fun s0=>
    thenR (IR (ρ:=Bool) (fun (s2:Int × Int)=>
    if (decide (s2.2<(q.Graph.Edges.length:Int)))=true then
    some (.next (A0 (s2.1*b),A0 (s2.2+1)))
    else
    some (.brk (s2.1,s2.2))) (s0.1,(p.Graph.Edges.length:Int))) (fun s2=>
    thenR (forR (ρ:=Bool) (fun (i4:Int) (_:Unit)=>
    (AI c.Kids i4).bind fun x61=>
    (EN n q x61 a b).bind fun x65=>
    if (!x65)=true then
    some (.ret false)
    else
    some (.next ())) 0 (c.Kids.length:Int) ()) (fun _=>
    some (decide (s2.1<=5000))) (fun v4=>some v4)) (fun v2=>some v2)) (fun v0=>some v0)) =
    some (if anyR (fun i=>!Mx a b N q (AA c.Kids i)) 0 c.Kids.length=true then false else
     decide (PY b (max (p.Graph.Edges.length:Int) q.Graph.Edges.length - p.Graph.Edges.length).toNat (PY a (max (p.Graph.Nodes.length:Int) q.Graph.Nodes.length - p.Graph.Nodes.length).toNat 1)<=5000)):=by
   intro q hq
   have k1:=hq.nodes
   have k2:=hq.edges
   rw [Y7 (by omega) (by omega) (by omega),DT]
   dsimp only
   rw [Y7 (by omega) (by omega) (by omega),DT,B3 (fun i=>!Mx a b N q (AA c.Kids i)) false]
   ·cases anyR (fun i=>!Mx a b N q (AA c.Kids i)) 0 c.Kids.length <;> rfl
   ·intro i i0 i1 _
    have:=GC (AO (l:=c.Kids) i0 i1)
    rw [AF i0 i1,bs,TX a b N _ q (by omega) (hc.k _ (AO i0 i1)) hq n (by omega),bs,IT]
  rw [EN,Mx]
  by_cases h5:c.Kind=5
  ·rw [if_pos (by simpa using h5),if_pos h5,bs,main _ hc.q]
  ·rw [if_neg (by simpa using h5),if_neg h5,bs,main _ hp]
theorem WV (a b:Int) {c:AB} {p:Pattern} (hc:EW c) (hp:Ov p):MS p c a b=some (Mx a b (SizeOf.sizeOf c) p c):=ET (SizeOf.sizeOf c) fun n hn=>TX a b _ c p (Nat.le_refl _) hc hp n hn
theorem Xg (h:AY):∃ b,K4 h=some b:=by
 unfold K4 Iz
 rw [bs]
 split
 ·exact ⟨_,rfl⟩
 ·rw [B3 (fun i=>decide (12<((AA h.Values i).length:Int))) false]
  ·cases anyR (fun i=>decide (12<((AA h.Values i).length:Int))) 0 h.Values.length
   ·exact ⟨true,rfl⟩
   ·exact ⟨false,rfl⟩
  ·intro i i0 i1 _
   rw [AF i0 i1,bs,IT]
theorem Wa {t:AD} (hf:BV t) (st:(AP t).Sm) (p g:Graph):∃ b,KW t p g=some b:=by
 obtain ⟨b,e,_⟩:=Rh st
 unfold KW Iz
 rw [e,bs,QU hf]
 simp only [bs]
 cases b <;> simp only [Bool.false_eq_true,if_false,if_true,bs]
 ·exact ⟨_,rfl⟩
 ·split <;> (rw [bs]; split <;> exact ⟨_,rfl⟩)
theorem Wb {t:AD} (hf:BV t) (st:(AP t).Sm) (p:Pattern) {c:AB} (sc:(AJ c).Sm) (h:AY):∃ b,Kb t p c h=some b∧(b=true->EW c∧H3 c<=40∧Ov p):=by
 obtain ⟨b1,e1,f1⟩:=V3 sc
 obtain ⟨b2,e2,f2⟩:=UR p
 obtain ⟨b3,e3⟩:=Xg h
 unfold Kb
 rw [e1,bs]
 cases b1
 ·exact ⟨false,rfl,fun h=>by cases h⟩
 rw [e2]
 cases b2
 ·exact ⟨false,rfl,fun h=>by cases h⟩
 rw [e3]
 cases b3
 ·exact ⟨false,rfl,fun h=>by cases h⟩
 have hc:=f1 rfl
 have hp:=f2 rfl
 simp only [bs,Bool.not_true,Bool.false_eq_true,if_false]
 rw [WW hf p hc.1,bs]
 have hall:∀ o:Option Bool,(∃ b,o=some b)->∃ b,o=some b∧(b=true->EW c∧H3 c<=40∧Ov p):=fun o ⟨b,e⟩=>⟨b,e,fun _=>⟨hc.1,hc.2,hp⟩⟩
 refine hall _ ?_
 split
 ·exact ⟨true,rfl⟩
 ·obtain ⟨b4,e4⟩:=Wa hf st p.Graph h.Graph
  unfold L4
  rw [e2,e3,e4,X9,WV 14 18 hc.1 hp]
  simp only [bs,if_true]
  cases b4 <;> simp only [Bool.false_eq_true,if_false,if_true,bs,Bool.false_and]
  ·exact ⟨_,rfl⟩
  ·split
   ·exact ⟨_,rfl⟩
   ·exact ⟨_,rfl⟩
theorem Z1 {x:GW} (sx:(GU x).Sm):(AJ x.C).Sm:=by
 obtain ⟨p,c⟩:=x
 cases c
 have sx':TV.Sms [_,_,_,_,_,_,_,_,_,_,_,_,_,_]:=sx
 obtain ⟨_,_,_,_,_,h⟩:=sx'
 exact h
theorem X8 {t:AD} {x:GW} (y:M2) (st:(AP t).Sm) (sx:(GU x).Sm):∃ b,KN t x y=some b∧(b=true->BV t∧EW x.C∧H3 x.C<=40):=by
 obtain ⟨b1,e1,f1⟩:=Rh st
 unfold KN
 rw [e1,bs]
 cases b1
 ·exact ⟨_,rfl,fun h=>by simp at h⟩
 obtain ⟨b2,e2,f2⟩:=Wb (f1 rfl) st x.P (Z1 sx) y.H
 rw [if_pos rfl,e2]
 refine ⟨_,rfl,fun h=>?_⟩
 rw [Bool.and_eq_true] at h
 have:=f2 h.1
 exact ⟨f1 rfl,this.1,this.2.1⟩
end Go.Sf.Sc
namespace Go.Sf.Sc
open Go Go.Sf
def R1 (m:AH):Bool:=decide ((A0 ((A0 ((m.Morphism.Nodes.length:Int)+(m.Morphism.Edges.length:Int)))+(m.Vars.length:Int)))=0)
theorem aF (a b:AH):HD a b=some (decide (a=b)):=by
 unfold HD
 rw [RT,RT,RT]
 obtain ⟨⟨a1,a2⟩,a3⟩:=a
 obtain ⟨⟨b1,b2⟩,b3⟩:=b
 simp only [bs,AH.mk.injEq,Morphism.mk.injEq]
 by_cases h1:a1=b1 <;> by_cases h2:a2=b2 <;> by_cases h3:a3=b3 <;> simp [h1,h2,h3]
theorem X4 (a b:AH):FA a b=some (decide (a=b)):=by
 unfold FA
 rw [aA,Sa]
 obtain ⟨a1,a3⟩:=a
 obtain ⟨b1,b3⟩:=b
 simp only [bs,AH.mk.injEq]
 by_cases h1:a1=b1 <;> by_cases h3:a3=b3 <;> simp [h1,h3]
theorem Xd {l:List AH} {f:AH->Option Bool} {p:AH->Bool} (h:∀ x∈l,f x=some (p x)):C4 l f=some (l.any p):=FD h
def Hw (t:AD) (h:AY) (inj:Bool):Nat->AB->AH->AM->Bool
 | 0,_,_,_=>false
 | N+1,c,m,w=>
  if c.Kind=1 then decide (w.Kids.length=0)&&decide (w.Choice=0)&&R1 w.Match else
  if c.Kind=2 then decide (w.Kids.length=0)&&decide (w.Choice=0)&&R1 w.Match&&decide ((C0 t h inj N (AA c.Kids 0) m).2=10) else
  if c.Kind=3 then decide (w.Kids.length=c.Kids.length)&&decide (w.Choice=0)&&R1 w.Match&&!anyR (fun i=>!Hw t h inj N (AA c.Kids i) m (AA w.Kids i)) 0 c.Kids.length else
  if c.Kind=4 then decide (w.Kids.length=1)&&decide (0<=w.Choice)&&decide (w.Choice<c.Kids.length)&&R1 w.Match&&Hw t h inj N (AA c.Kids w.Choice) m (AA w.Kids 0) else
  decide (w.Kids.length=1)&&decide (w.Choice=0)&&decide ((C2 t c h m inj).2=0)&&(C2 t c h m inj).1.any (fun x=>decide (x=w.Match))&&Hw t h inj N (AA c.Kids 0) w.Match (AA w.Kids 0)
theorem Sn {o:Bool}:(thenR (some (if o=true then (Sum.inr false:Unit ⊕ Bool) else Sum.inl ())) (fun _=>some true) fun v1=>some v1)=some (!o):=by cases o <;> rfl
theorem OO {s:AS} (hf:BV s.t) (hv:(BC s.t).2=0) (hh:Jg s.t s.h):∀ (N:Nat) (c:AB) (p:Pattern) (m:AH) (w:AM),SizeOf.sizeOf c<=N->CV s.t p c->Qa s.t p s.h m->∀ n,N<=n->BD n s c m w=some (Hw s.t s.h s.injective N c m w)
 | 0,c,_,_,_,h,_,_,_,_=>by have:=E6 c; omega
 | N+1,c,p,m,w,h,hc,ha,n,hn=>by
  obtain ⟨n,rfl⟩:∃ k,n=k+1:=⟨n - 1,by omega⟩
  have kid:∀ (i:Int),0<=i->i<c.Kids.length->SizeOf.sizeOf (AA c.Kids i)<=N:=fun i i0 i1=>by
   have:=GC (AO (l:=c.Kids) i0 i1); omega
  have hm:D7 w.Match=some (R1 w.Match):=rfl
  rw [BD,Hw,hm]
  generalize R1 w.Match=b
  by_cases h1:c.Kind=1
  ·rw [if_pos (by simpa using h1),if_pos h1]
   by_cases e1:w.Kids.length=0 <;> by_cases e2:w.Choice=0 <;> simp [e1,e2]
  rw [if_neg (by simpa using h1),if_neg h1]
  by_cases h2:c.Kind=2
  ·have hone:=hc.one (.inl h2)
   have hw:DQ s (AA c.Kids 0) m=some (C0 s.t s.h s.injective N (AA c.Kids 0) m):=ET (2*N) fun n hn=>Q8 hf hv hh N _ p m (kid 0 (by omega) (by omega)) (hc.kid (by omega) _ (AO (by omega) (by omega))) ha n hn
   rw [if_pos (by simpa using h2),if_pos h2,AF (by omega) (by omega),bs,hw,bs]
   by_cases e1:w.Kids.length=0 <;> by_cases e2:w.Choice=0 <;> simp [e1,e2]
  rw [if_neg (by simpa using h2),if_neg h2]
  by_cases h3:c.Kind=3
  ·rw [if_pos (by simpa using h3),if_pos h3]
   by_cases e1:w.Kids.length=c.Kids.length
   ·by_cases e2:w.Choice=0
    ·rw [if_neg (by simp [e1,e2])]
     cases b
     ·simp
     ·simp only [bs,Bool.not_true,Bool.false_eq_true,if_false]
      rw [B3 (fun i=>!Hw s.t s.h s.injective N (AA c.Kids i) m (AA w.Kids i)) false,Sn]
      ·simp [e1,e2]
      ·intro i i0 i1 _
       rw [AF i0 i1,bs,AF i0 (by omega),bs,OO hf hv hh N _ p m _ (kid i i0 i1) (hc.kid (by omega) _ (AO i0 i1)) ha n (by omega),bs,IT]
    ·rw [if_pos (by simp [e2])]; simp [e2]
   ·rw [if_pos (by simp [e1]; omega)]; simp [e1]
  rw [if_neg (by simpa using h3),if_neg h3]
  by_cases h4:c.Kind=4
  ·rw [if_pos (by simpa using h4),if_pos h4]
   by_cases e:w.Kids.length=1∧0<=w.Choice∧w.Choice<c.Kids.length
   ·obtain ⟨e1,e2,e3⟩:=e
    rw [if_pos (by simp [e1,e2,e3])]
    cases b
    ·simp
    ·simp only [bs,if_true]
     rw [AF e2 e3,bs,AF (by omega) (by omega),bs,OO hf hv hh N _ p m _ (kid _ e2 e3) (hc.kid (by omega) _ (AO e2 e3)) ha n (by omega)]
     simp [e1,e2,e3]
   ·rw [if_neg (by simp; omega)]
    have:(decide (w.Kids.length=1)&&decide (0<=w.Choice)&&decide (w.Choice<(c.Kids.length:Int)))=false:=by
     rw [Bool.eq_false_iff]; simp; omega
    rw [this]; simp
  rw [if_neg (by simpa using h4),if_neg h4]
  have h5:c.Kind=5:=by have:=hc.rng; omega
  have hi:=hc.ins h5
  have hone:=hc.one (.inr h5)
  by_cases e1:w.Kids.length=1
  case neg=>rw [if_pos (by simp [e1]; omega)]; simp [e1]
  by_cases e2:w.Choice=0
  case neg=>rw [if_pos (by simp [e2])]; simp [e2]
  rw [if_neg (by simp [e1,e2]),WI hf hv hh ha hi,bs]
  by_cases e3:(C2 s.t c s.h m s.injective).2=0
  case neg=>rw [if_pos (by simp [e3])]; simp [e3]
  obtain ⟨x1,x2⟩:=Pq hv hh ha hi e3
  rw [if_neg (by simp [e3]),Xd (p:=fun x=>decide (x=w.Match)) (fun x _=>by show (FA x w.Match).bind _=_; rw [X4]; rfl),bs]
  by_cases e4:(C2 s.t c s.h m s.injective).1.any (fun x=>decide (x=w.Match))=true
  ·rw [e4]
   simp only [bs,Bool.not_true,Bool.false_eq_true,if_false]
   rw [List.any_eq_true] at e4
   obtain ⟨x,hx,e⟩:=e4
   rw [decide_eq_true_eq] at e
   subst e
   rw [AF (by omega) (by omega),bs,AF (by omega) (by omega),bs,OO hf hv hh N _ c.Pattern _ _ (kid 0 (by omega) (by omega)) (hc.kid5 h5 _ (AO (by omega) (by omega))) (x2 _ hx) n (by omega)]
   simp [e1,e2,e3]
  ·rw [Bool.not_eq_true] at e4
   rw [e4]; simp
theorem OR {t:AD} {hst:AY} {inj:Bool} (hf:BV t) (hv:(BC t).2=0) (hh:Jg t hst):∀ (N:Nat) (c:AB) (p:Pattern) (m:AH) (w:AM),SizeOf.sizeOf c<=N->CV t p c->Qa t p hst m->∀ n,N<=n->DU n t c hst m inj w=some (Hw t hst inj N c m w)
 | 0,c,_,_,_,h,_,_,_,_=>by have:=E6 c; omega
 | N+1,c,p,m,w,h,hc,ha,n,hn=>by
  obtain ⟨n,rfl⟩:∃ k,n=k+1:=⟨n - 1,by omega⟩
  have kid:∀ (i:Int),0<=i->i<c.Kids.length->SizeOf.sizeOf (AA c.Kids i)<=N:=fun i i0 i1=>by
   have:=GC (AO (l:=c.Kids) i0 i1); omega
  have hm:Km w.Match=some (R1 w.Match):=rfl
  rw [DU,Hw,hm]
  generalize R1 w.Match=b
  by_cases h1:c.Kind=1
  ·simp only [h1]
   by_cases e1:w.Kids.length=0 <;> by_cases e2:w.Choice=0 <;> cases b <;> simp [e1,e2]
  by_cases h2:c.Kind=2
  ·have hone:=hc.one (.inl h2)
   have hw:Nc t (AA c.Kids 0) hst m inj=some (DK t hst inj N (AA c.Kids 0) m):=ET N fun n hn=>Np hf hv hh N _ p m (kid 0 (by omega) (by omega)) (hc.kid (by omega) _ (AO (by omega) (by omega))) ha n hn
   have hH:Ka t (AA c.Kids 0) hst m inj=some (if (C0 t hst inj N (AA c.Kids 0) m).2=10 then (false,0) else (decide ((C0 t hst inj N (AA c.Kids 0) m).2=0),(C0 t hst inj N (AA c.Kids 0) m).2)):=by
    unfold Ka
    rw [hw,bs,Uz,WG]
    by_cases e:(DK t hst inj N (AA c.Kids 0) m).2=10
    ·rw [if_pos (by simpa using e),if_pos e]
    ·rw [if_neg (by simpa using e),if_neg e]
   simp only [h2]
   rw [AF (by omega) (by omega)]
   simp only [bs,hH]
   generalize (C0 t hst inj N (AA c.Kids 0) m).2=e
   by_cases e0:e=10
   ·subst e0
    by_cases e1:w.Kids.length=0 <;> by_cases e2:w.Choice=0 <;> cases b <;> simp [e1,e2]
   ·by_cases e3:e=0
    ·subst e3
     by_cases e1:w.Kids.length=0 <;> by_cases e2:w.Choice=0 <;> cases b <;> simp [e1,e2]
    ·by_cases e1:w.Kids.length=0 <;> by_cases e2:w.Choice=0 <;> cases b <;> simp [e0,e1,e2,e3]
  by_cases h3:c.Kind=3
  ·have hloop:w.Kids.length=c.Kids.length->thenR (forR (ρ:=Bool) (fun (i1:Int) (_:Unit)=>
     (AI c.Kids i1).bind fun x92=>
     (AI w.Kids i1).bind fun x100=>
     (DU n t x92 hst m inj x100).bind fun x102=>
     if (!x102)=true then
     some (.ret false)
     else
     some (.next ())) 0 (c.Kids.length:Int) ()) (fun _=>
     some true) (fun v1=>some v1)=some (!anyR (fun i=>!Hw t hst inj N (AA c.Kids i) m (AA w.Kids i)) 0 c.Kids.length):=by
    intro e1
    rw [B3 (fun i=>!Hw t hst inj N (AA c.Kids i) m (AA w.Kids i)) false,Sn]
    intro i i0 i1 _
    rw [AF i0 i1,bs,AF i0 (by omega),bs,OR hf hv hh N _ p m _ (kid i i0 i1) (hc.kid (by omega) _ (AO i0 i1)) ha n (by omega),bs,IT]
   simp only [h3]
   by_cases e1:w.Kids.length=c.Kids.length
   ·rw [hloop e1]
    by_cases e2:w.Choice=0 <;> cases b <;> simp [e1,e2]
   ·have e1':¬ (w.Kids.length:Int)=c.Kids.length:=by omega
    by_cases e2:w.Choice=0 <;> cases b <;> simp [e1,e1',e2]
  by_cases h4:c.Kind=4
  ·simp only [h4]
   by_cases e:w.Kids.length=1∧0<=w.Choice∧w.Choice<c.Kids.length
   ·obtain ⟨e1,e2,e3⟩:=e
    rw [AF (l:=w.Kids) (i:=0) (by omega) (by omega),AF e2 e3]
    simp only [bs]
    rw [OR hf hv hh N _ p m _ (kid _ e2 e3) (hc.kid (by omega) _ (AO e2 e3)) ha n (by omega)]
    cases b <;> simp [e1,e2,e3]
   ·have e':((decide ((w.Kids.length:Int)=1)&&decide (0<=w.Choice))&&decide (w.Choice<(c.Kids.length:Int)))=false:=by
     rw [Bool.eq_false_iff]; simp; omega
    have e'':((decide (w.Kids.length=1)&&decide (0<=w.Choice))&&decide (w.Choice<(c.Kids.length:Int)))=false:=by
     rw [Bool.eq_false_iff]; simp; omega
    rw [e',e'']
    cases b <;> simp
  have h5:c.Kind=5:=by have:=hc.rng; omega
  have hi:=hc.ins h5
  have hone:=hc.one (.inr h5)
  rw [WX hf hv hh ha hi]
  simp only [h5]
  by_cases e2:w.Choice=0
  case neg=>simp [e2]
  by_cases e1:w.Kids.length=1
  case neg=>
   have e1':¬ (w.Kids.length:Int)=1:=by omega
   simp [e1,e1',e2]
  have e1':(w.Kids.length:Int)=1:=by omega
  by_cases e3:(C2 t c hst m inj).2=0
  case neg=>simp [e1,e2,e3]
  obtain ⟨x1,x2⟩:=Pq hv hh ha hi e3
  have hloop:thenR (forR (ρ:=Bool) (fun (i3:Int) (_:Unit)=>
     (AI (C2 t c hst m inj).1 i3).bind fun x165=>
     (HD x165 w.Match).bind fun x169=>
     if x169=true then
     (AI c.Kids 0).bind fun x173=>
     (AI (C2 t c hst m inj).1 i3).bind fun x178=>
     (AI w.Kids 0).bind fun x183=>
     (DU n t x173 hst x178 inj x183).bind fun x185=>
     some (.ret x185)
     else
     some (.next ())) 0 ((C2 t c hst m inj).1.length:Int) ()) (fun _=>
     some false) (fun v3=>some v3)=some ((C2 t c hst m inj).1.any (fun x=>decide (x=w.Match))&&Hw t hst inj N (AA c.Kids 0) w.Match (AA w.Kids 0)):=by
   generalize (C2 t c hst m inj).1=l at x1 x2
   rw [CF (fun i=>if decide (AA l i=w.Match)=true then some (Hw t hst inj N (AA c.Kids 0) w.Match (AA w.Kids 0)) else none),MC,Jj]
   ·cases anyR (fun i=>decide (AA l i=w.Match)) 0 l.length <;> rfl
   ·intro i i0 i1 _
    rw [AF i0 i1,bs,aF,bs]
    by_cases e:AA l i=w.Match
    ·rw [if_pos (by simpa using e),if_pos (by simpa using e),AF (by omega) (by omega),bs,bs,AF (by omega) (by omega),bs,OR hf hv hh N _ c.Pattern _ _ (kid 0 (by omega) (by omega)) (hc.kid5 h5 _ (AO (by omega) (by omega))) (x2 _ (AO i0 i1)) n (by omega),e]; rfl
    ·rw [if_neg (by simpa using e),if_neg (by simpa using e)]; rfl
  simp only [bs]
  rw [hloop]
  simp [e1,e2,e3]
end Go.Sf.Sc
namespace Go.Sf.Sc
open Go Go.Sf
theorem WS {c k:AM} (h:k∈c.Kids):SizeOf.sizeOf k<SizeOf.sizeOf c:=by
 have:=List.sizeOf_lt_of_mem h
 cases c
 simp only [AM.mk.sizeOf_spec] at *
 omega
theorem WT (c:AM):0<SizeOf.sizeOf c:=by
 cases c
 simp only [AM.mk.sizeOf_spec]
 omega
noncomputable def VB (t:AD) (p:Pattern) (c:AB) (h:AY) (m:AH) (inj:Bool) (w:AM):Bool:=decide (Qm t p c h m inj=0)&&Hw t h inj (SizeOf.sizeOf c) c m w
theorem Xy {t:AD} (hf:BV t) (p:Pattern) {c:AB} (hc:EW c) (hk:H3 c<=40) (h:AY) (m:AH) (inj:Bool) (w:AM):CP t p c h m inj w=some (VB t p c h m inj w):=by
 unfold CP VB
 rw [Xx hf p hc,bs]
 by_cases h0:Qm t p c h m inj=0
 ·obtain ⟨hv,hh,hcv,ha⟩:=Yx hf hk h0
  rw [if_pos (by simpa using h0),show ER (AS.mk t h inj) c m w=some (Hw t h inj (SizeOf.sizeOf c) c m w) from ET (SizeOf.sizeOf c) fun n hn=>OO (s:=⟨t,h,inj⟩) hf hv hh _ c p m w (Nat.le_refl _) hcv ha n hn]
  simp [h0]
 ·rw [if_neg (by simpa using h0)]; simp [h0]
theorem X6 {t:AD} (hf:BV t) (p:Pattern) {c:AB} (hc:EW c) (hk:H3 c<=40) (h:AY) (m:AH) (inj:Bool) (w:AM):G4 t p c h m inj w=some (VB t p c h m inj w):=by
 unfold G4 VB
 rw [X5 hf p hc,bs]
 by_cases h0:Qm t p c h m inj=0
 ·obtain ⟨hv,hh,hcv,ha⟩:=Yx hf hk h0
  rw [if_pos (by simpa using h0),show M8 t c h m inj w=some (Hw t h inj (SizeOf.sizeOf c) c m w) from ET (SizeOf.sizeOf c) fun n hn=>OR hf hv hh _ c p m w (Nat.le_refl _) hcv ha n hn]
  simp [h0]
 ·rw [if_neg (by simpa using h0)]; simp [h0]
theorem X3 {c:AM} (h:(BZ c).Sm):(c.Kids.length:Int)<=140737488351232∧∀ k∈c.Kids,(BZ k).Sm:=by
 have h':TV.Sms [_,_,_,_,_]:=h
 obtain ⟨_,_,_,_,h2,_⟩:=h'
 rw [NX] at h2
 exact Lj h2
theorem SD {l:List AM} (hl:(l.length:Int)<=140737488351232) {N:Nat} {g:Nat->AM->Option Int} (hg:∀ i:Int,0<=i->i<l.length->∃ v,∀ n,N<=n->g n (AA l i)=some v) :
  ∀ (k:Nat) (a i:Int),0<=i->i+k=l.length->∃ s:Int × Int,∀ n,N<=n->K9 (ρ:=Int) (fun (s0:Int × Int)=>
   if ((decide (s0.2<(l.length:Int)))&&(decide (s0.1<100)))=true then
   (AI l s0.2).bind fun x20=>
   (g n x20).bind fun x22=>
   some (.next (A0 (s0.1+x22),A0 (s0.2+1)))
   else
   some (.brk (s0.1,s0.2))) (a,i) (.inl s)
 | 0,a,i,h0,h1=>⟨(a,i),fun n hn=>.brk (by rw [if_neg (by simp; omega)])⟩
 | k+1,a,i,h0,h1=>by
  by_cases ha:a<100
  ·obtain ⟨v,hv⟩:=hg i h0 (by omega)
   obtain ⟨s,hs⟩:=SD hl hg k (A0 (a+v)) (i+1) (by omega) (by omega)
   refine ⟨s,fun n hn=>.next (s':=(A0 (a+v),i+1)) ?_ (hs n hn)⟩
   rw [if_pos (by simp; omega),AF h0 (by omega),bs,hv n hn,bs,BI (n:=i+1) (by omega) (by omega)]
  ·exact ⟨(a,i),fun n hn=>.brk (by rw [if_neg (by simp; omega)])⟩
theorem Wf:∀ (N:Nat) (w:AM),SizeOf.sizeOf w<=N->(BZ w).Sm->∃ v,∀ n,N<=n->GX n w=some v
 | 0,w,h,_=>by have:=WT w; omega
 | N+1,w,h,hs=>by
  obtain ⟨h1,h2⟩:=X3 hs
  obtain ⟨s,hs⟩:=SD (N:=N) (g:=GX) h1 (fun i i0 i1=>by
   have hm:=AO (l:=w.Kids) i0 i1
   have:=WS hm
   exact Wf N _ (by omega) (h2 _ hm)) w.Kids.length 1 0 (by omega) (by omega)
  refine ⟨s.1,fun n hn=>?_⟩
  obtain ⟨n,rfl⟩:∃ k,n=k+1:=⟨n - 1,by omega⟩
  rw [GX,(hs n (by omega)).eq]; rfl
theorem Xe {y:KM} (h:(Im y).Sm):(BZ y.W).Sm:=by
 obtain ⟨a,w⟩:=y
 cases w
 have h':TV.Sms [_,_,_,_,_,_,_,_,_,_,_,_]:=h
 obtain ⟨_,_,_,_,_,_,_,h⟩:=h'
 exact h
theorem Ot (t:AD) (x:GW) (y:KM) (st:(AP t).Sm) (sx:(GU x).Sm) (sy:(Im y).Sm):Ha t x y=some true:=by
 obtain ⟨b,e,f⟩:=X8 y.At st sx
 obtain ⟨v,hv⟩:=Wf _ y.W (Nat.le_refl _) (Xe sy)
 have hsz:OE y.W=some v:=ET (SizeOf.sizeOf y.W) fun n hn=>hv n hn
 unfold Ha
 rw [XT,bs,if_neg (by decide),e,hsz]
 cases b
 ·rfl
 obtain ⟨hf,hc,hk⟩:=f rfl
 simp only [bs,Bool.not_true,Bool.false_eq_true,if_false]
 split
 ·rfl
 ·rw [Xy hf x.P hc hk,X6 hf x.P hc hk]
  simp
end Go.Sf.Sc
