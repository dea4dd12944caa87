/- Plain lemmas: what the functions of the program and of the reference compute. -/
import Derived.Test.YtmaobfbhdkafkaaGreatP46
import Derived.Test.YtmaobfbhdkafkaaGreatP25
set_option maxRecDepth 100000
namespace Go.Sf.Sc
open Go Go.Sf
inductive CV (t:AD):Pattern->AB->Prop where
 | mk (p:Pattern) (c:AB) (few:c.Kids.length<=40) (rng:1<=c.Kind∧c.Kind<=5) (one:c.Kind=2∨c.Kind=5->c.Kids.length=1) (ins:c.Kind=5->Vq t p c) (kids:∀ k∈c.Kids,CV t (if c.Kind=5 then c.Pattern else p) k):CV t p c
theorem CV.few {t:AD} {p:Pattern} {c:AB} (h:CV t p c):c.Kids.length<=40:=by cases h; assumption
theorem CV.rng {t:AD} {p:Pattern} {c:AB} (h:CV t p c):1<=c.Kind∧c.Kind<=5:=by cases h; assumption
theorem CV.one {t:AD} {p:Pattern} {c:AB} (h:CV t p c):c.Kind=2∨c.Kind=5->c.Kids.length=1:=by cases h; assumption
theorem CV.ins {t:AD} {p:Pattern} {c:AB} (h:CV t p c):c.Kind=5->Vq t p c:=by cases h; assumption
theorem CV.kids {t:AD} {p:Pattern} {c:AB} (h:CV t p c):∀ k∈c.Kids,CV t (if c.Kind=5 then c.Pattern else p) k:=by cases h; assumption
theorem CV.kid {t:AD} {p:Pattern} {c:AB} (h:CV t p c) (h5:¬ c.Kind=5):∀ k∈c.Kids,CV t p k:=fun k hk=>by have:=h.kids k hk; rwa [if_neg h5] at this
theorem CV.kid5 {t:AD} {p:Pattern} {c:AB} (h:CV t p c) (h5:c.Kind=5):∀ k∈c.Kids,CV t c.Pattern k:=fun k hk=>by have:=h.kids k hk; rwa [if_pos h5] at this
theorem RR:∀ l:List AB,l.length<=MG l
 | []=>by simp
 | c::l=>by
  have:=RR l
  have h1:MG (c::l)=HQ c+MG l:=by simp [MG]
  have h2:=Se c
  simp only [List.length_cons]
  omega
theorem ia {t:AD} {q:Pattern} {v:Int} (hv:(BA t).2=0) (h:NV t q v=0):O2 t q:=by
 unfold NV at h
 split at h
 ·exact VN hv (.inl h)
 ·rename_i h9; exact VN hv (.inr (Classical.not_not.1 h9))
theorem Ys {t:AD} (hv:(BA t).2=0):∀ (N:Nat) (c:AB) (p:Pattern),SizeOf.sizeOf c<=N->HQ c<=40->Ny N c=true->JZ N t p c=0->CV t p c
 | 0,c,_,h,_,_,_=>by have:=E6 c; omega
 | N+1,c,p,h,hc,hw,ho=>by
  have hk0:=Se c
  have hk1:=RR c.Kids
  rw [Ny,Bool.and_eq_true] at hw
  obtain ⟨hw1,hw2⟩:=hw
  have hone:c.Kind=2∨c.Kind=5->c.Kids.length=1:=by
   intro hk
   unfold Od at hw1
   rcases hk with hk | hk
   ·rw [if_neg (by omega),if_pos hk,Bool.and_eq_true,decide_eq_true_eq] at hw1; exact hw1.1
   ·rw [if_neg (by omega),if_neg (by omega),if_neg (by omega),if_pos hk,decide_eq_true_eq] at hw1; exact hw1
  have hrng:1<=c.Kind∧c.Kind<=5:=by
   unfold Od at hw1
   split at hw1
   ·omega
   split at hw1
   ·omega
   split at hw1
   ·omega
   split at hw1
   ·omega
   ·cases hw1
  have hkid:∀ q,(fst (fun i=>nz (JZ N t q (AA c.Kids i))) 0 c.Kids.length).getD 0=0->∀ k∈c.Kids,CV t q k:=by
   intro q hq k hk
   have h1:=Sv hq
   have h2:=Sd hk
   have h3:=GB hk
   rw [List.all_eq_true] at hw2
   obtain ⟨i,i0,i1,e⟩:=FE hk
   have h4:=h1 i i0 i1
   rw [e] at h4
   exact Ys hv N k q (by omega) (by omega) (hw2 k hk) h4
  rw [JZ] at ho
  by_cases h5:c.Kind=5
  ·rw [if_pos h5] at ho
   split at ho
   ·cases ho
   rename_i h6
   split at ho
   ·rename_i h7; exact absurd ho h7
   rename_i h7
   split at ho
   ·rename_i h8; exact absurd ho h8
   rename_i h8
   split at ho
   ·cases ho
   rename_i h9
   refine CV.mk p c (by omega) hrng hone (fun _=>⟨ia hv (Classical.not_not.1 h7),by omega,Yv (Classical.not_not.1 h8),by simpa using h9⟩) ?_
   rw [if_pos h5]
   exact hkid _ ho
  ·rw [if_neg h5] at ho
   refine CV.mk p c (by omega) hrng hone (fun e=>absurd e h5) ?_
   rw [if_neg h5]
   exact hkid _ ho
section
variable {α σ ρ:Type}
theorem O5 [Inhabited α] {l:List α} {f:Int->σ->Option (CE σ ρ)} (step:α->σ->CE σ ρ) (I:Int->σ->Prop) (h:∀ (i:Int) s,0<=i->i<l.length->I i s->f i s=some (step (AA l i) s)∧∀ s',step (AA l i) s=.next s'->I (i+1) s') :
  ∀ (n:Nat) (a:Int) (s:σ),0<=a->a+n=l.length->I a s->forGo f n a s=some (D1 step (l.drop a.toNat) s)
 | 0,a,s,h0,h1,_=>by
  rw [List.drop_eq_nil_of_le (by omega)]; rfl
 | n+1,a,s,h0,h1,hs=>by
  obtain ⟨h2,h3⟩:=h a s h0 (by omega) hs
  have hd:l.drop a.toNat=AA l a::l.drop (a+1).toNat:=by
   rw [show (a+1).toNat=a.toNat+1 by omega,List.drop_eq_getElem_cons (by omega)]
   congr 1
   unfold AA
   rw [List.getD_eq_getElem?_getD,List.getElem?_eq_getElem (by omega)]; rfl
  rw [GR,h2,hd,D1]
  cases hc:step (AA l a) s with
  | next s'=>
   simp only
   exact O5 step I h n (a+1) s' (by omega) (by omega) (h3 s' hc)
  | brk s'=>rfl
  | ret r=>rfl
theorem Ql [Inhabited α] {l:List α} {f:Int->σ->Option (CE σ ρ)} (step:α->σ->CE σ ρ) (I:Int->σ->Prop) {s:σ} (hs:I 0 s) (h:∀ (i:Int) s,0<=i->i<l.length->I i s->f i s=some (step (AA l i) s)∧∀ s',step (AA l i) s=.next s'->I (i+1) s') :
  forR f 0 l.length s=some (D1 step l s):=by
 have:=O5 step I h l.length 0 s (by omega) (by omega) hs
 unfold forR
 rw [show ((l.length:Int) - 0).toNat=l.length by omega]
 exact this
theorem Q7 {s1 s2:α->σ->CE σ ρ}:∀ {l:List α} {s:σ},(∀ a∈l,s1 a=s2 a)->D1 s1 l s=D1 s2 l s
 | [],_,_=>rfl
 | a::l,s,h=>by
  rw [D1,D1,h a (by simp)]
  split
  ·exact Q7 fun b hb=>h b (by simp [hb])
  ·rfl
  ·rfl
end
abbrev zM:AH:=⟨⟨[],[]⟩,[]⟩
abbrev zP:AL:=⟨0,zM,[]⟩
def Iu (w:AB->AL × Int) (k:AB) (s:AL × AL):CE (AL × AL) (AL × Int):=
 if (w k).2≠0 then .ret (zP,(w k).2) else .next (s.1,⟨s.2.Choice,s.2.Match,s.2.Kids++[(w k).1]⟩)
def N1 (w:AB->AL × Int) (l:List AB):AL × Int:=
 match D1 (Iu w) l (zP,zP) with
 | .inl s=>(s.2,0)
 | .inr r=>r
def BV (t:AD) (h:AZ) (inj:Bool):Nat->AB->AH->AL × Int
 | 0,_,_=>(zP,0)
 | N+1,c,m=>
  if c.Kind=2 then (if (BV t h inj N (AA c.Kids 0) m).2=0 then (zP,10) else if (BV t h inj N (AA c.Kids 0) m).2=10 then (zP,0) else (zP,(BV t h inj N (AA c.Kids 0) m).2)) else
  if c.Kind=3 then N1 (fun k=>BV t h inj N k m) c.Kids else
  if c.Kind=4 then (fst (fun i=>if (BV t h inj N (AA c.Kids i) m).2=0 then some (⟨i,zM,[(BV t h inj N (AA c.Kids i) m).1]⟩,0) else if (BV t h inj N (AA c.Kids i) m).2≠10 then some (zP,(BV t h inj N (AA c.Kids i) m).2) else none) 0 c.Kids.length).getD (zP,10) else
  if c.Kind=5 then
   (if (DK t c h m inj).2≠0 then (zP,(DK t c h m inj).2) else
   (fst (fun i=>if (BV t h inj N (AA c.Kids 0) (AA (DK t c h m inj).1 i)).2=0 then some (⟨0,AA (DK t c h m inj).1 i,[(BV t h inj N (AA c.Kids 0) (AA (DK t c h m inj).1 i)).1]⟩,0) else
    if (BV t h inj N (AA c.Kids 0) (AA (DK t c h m inj).1 i)).2≠10 then some (zP,(BV t h inj N (AA c.Kids 0) (AA (DK t c h m inj).1 i)).2) else none) 0 (DK t c h m inj).1.length).getD (zP,10)) else
  (zP,0)
def DH (t:AD) (h:AZ) (inj:Bool):Nat->AB->AH->AL × Int
 | 0,_,_=>(zP,0)
 | N+1,c,m=>
  if c.Kind=2 then (if (DH t h inj N (AA c.Kids 0) m).2=0 then (zP,10) else if (DH t h inj N (AA c.Kids 0) m).2=10 then (zP,0) else (zP,(DH t h inj N (AA c.Kids 0) m).2)) else
  if c.Kind=3 then N1 (fun k=>DH t h inj N k m) c.Kids else
  if c.Kind=4 then (fst (fun i=>if (DH t h inj N (AA c.Kids i) m).2≠10 then some (⟨i,zM,[(DH t h inj N (AA c.Kids i) m).1]⟩,(DH t h inj N (AA c.Kids i) m).2) else none) 0 c.Kids.length).getD (zP,10) else
  if c.Kind=5 then
   (if (DK t c h m inj).2≠0 then (zP,(DK t c h m inj).2) else
   (fst (fun i=>if (DH t h inj N (AA c.Kids 0) (AA (DK t c h m inj).1 i)).2≠10 then some (⟨0,AA (DK t c h m inj).1 i,[(DH t h inj N (AA c.Kids 0) (AA (DK t c h m inj).1 i)).1]⟩,(DH t h inj N (AA c.Kids 0) (AA (DK t c h m inj).1 i)).2) else none) 0 (DK t c h m inj).1.length).getD (zP,10)) else
  (zP,0)
def Jj (x:AL × Int):AL × Int:=if x.2=0 then x else (zP,x.2)
theorem b9 (x:AL × Int):(Jj x).2=x.2:=by unfold Jj; split <;> rfl
theorem WA {x:AL × Int} (h:x.2=0):(Jj x).1=x.1:=by unfold Jj; rw [if_pos h]
theorem XM (w:AB->AL × Int) (l:List AB):Jj (N1 w l)=N1 w l:=by
 unfold N1
 have:∀ (l:List AB) (s:AL × AL) (r:AL × Int),D1 (Iu w) l s=.inr r->Jj r=r:=by
  intro l
  induction l with
  | nil=>intro s r h; cases h
  | cons a l ih=>
   intro s r h
   rw [D1] at h
   split at h
   ·exact ih _ _ h
   ·cases h
   ·rename_i r' h'
    cases h
    unfold Iu at h'
    split at h'
    ·rename_i hne
     cases h'
     unfold Jj
     rw [if_neg hne]
    ·cases h'
 cases hr:D1 (Iu w) l (zP,zP) with
 | inl s=>rfl
 | inr r=>exact this _ _ _ hr
theorem Rf (o:Option (AL × Int)):Jj (o.getD (zP,10))=(o.map Jj).getD (zP,10):=by cases o <;> rfl
theorem Uv (t:AD) (h:AZ) (inj:Bool):∀ (N:Nat) (c:AB) (m:AH),BV t h inj N c m=Jj (DH t h inj N c m)
 | 0,_,_=>rfl
 | N+1,c,m=>by
  have ih:=Uv t h inj N
  have key:∀ (c:AB) (m:AH),(BV t h inj N c m).2=(DH t h inj N c m).2:=fun c m=>by rw [ih,b9]
  have pick:∀ (k:AB) (m x:AH) (i:Int),(if (BV t h inj N k m).2=0 then some ((⟨i,x,[(BV t h inj N k m).1]⟩:AL),(0:Int)) else if (BV t h inj N k m).2≠10 then some (zP,(BV t h inj N k m).2) else none)=(if (DH t h inj N k m).2≠10 then some ((⟨i,x,[(DH t h inj N k m).1]⟩:AL),(DH t h inj N k m).2) else none).map Jj:=by
   intro k m x i
   rw [key]
   by_cases h0:(DH t h inj N k m).2=0
   ·rw [if_pos h0,if_pos (by omega),ih,WA h0]
    simp [Jj,h0]
   ·rw [if_neg h0]
    by_cases h1:(DH t h inj N k m).2≠10
    ·rw [if_pos h1,if_pos h1]
     simp [Jj,h0]
    ·rw [if_neg h1,if_neg h1]; rfl
  rw [BV,DH]
  by_cases h2:c.Kind=2
  ·rw [if_pos h2,if_pos h2,key]
   by_cases h0:(DH t h inj N (AA c.Kids 0) m).2=0
   ·rw [if_pos h0]; rfl
   ·rw [if_neg h0]
    by_cases h1:(DH t h inj N (AA c.Kids 0) m).2=10
    ·rw [if_pos h1]; rfl
    ·rw [if_neg h1]; unfold Jj; rw [if_neg h0]
  rw [if_neg h2,if_neg h2]
  by_cases h3:c.Kind=3
  ·rw [if_pos h3,if_pos h3,XM]
   unfold N1
   rw [Q7 (s2:=Iu fun k=>DH t h inj N k m)]
   intro k _
   funext s
   unfold Iu
   simp only [key]
   by_cases h0:(DH t h inj N k m).2=0
   ·rw [if_neg (by simp [h0]),if_neg (by simp [h0]),ih,WA h0]
   ·rw [if_pos h0,if_pos h0]
  rw [if_neg h3,if_neg h3]
  by_cases h4:c.Kind=4
  ·rw [if_pos h4,if_pos h4,Rf,←Mc]
   congr 1
   exact congrArg (fun F=>fst F 0 (c.Kids.length:Int)) (funext fun i=>pick _ _ _ _)
  rw [if_neg h4,if_neg h4]
  by_cases h5:c.Kind=5
  ·rw [if_pos h5,if_pos h5]
   by_cases h6:(DK t c h m inj).2≠0
   ·rw [if_pos h6,if_pos h6]; unfold Jj; rw [if_neg h6]
   ·rw [if_neg h6,if_neg h6,Rf,←Mc]
    congr 1
    exact congrArg (fun F=>fst F 0 ((DK t c h m inj).1.length:Int)) (funext fun i=>pick _ _ _ _)
  rw [if_neg h5,if_neg h5]; rfl
end Go.Sf.Sc
namespace Go.Sf.Sc
open Go Go.Sf
def NA (i:Int) (s:AL × AL):Prop:=(s.2.Kids.length:Int)=i
theorem Pq {s:AP} (hf:BT s.t) (hv:(BA s.t).2=0) (hh:I8 s.t s.h):∀ (N:Nat) (c:AB) (p:Pattern) (m:AH),SizeOf.sizeOf c<=N->CV s.t p c->Py s.t p s.h m->∀ n,2*N<=n->AY n s c m=some (BV s.t s.h s.injective N c m)
 | 0,c,_,_,h,_,_,_,_=>by have:=E6 c; omega
 | N+1,c,p,m,h,hc,ha,n,hn=>by
  obtain ⟨n,rfl⟩:∃ k,n=k+2:=⟨n - 2,by omega⟩
  have kid:∀ (i:Int),0<=i->i<c.Kids.length->SizeOf.sizeOf (AA c.Kids i)<=N:=fun i i0 i1=>by
   have:=GB (AO (l:=c.Kids) i0 i1); omega
  rw [AY,BV]
  by_cases h2:c.Kind=2
  ·have h1:=hc.one (.inl h2)
   rw [if_pos (by simpa using h2),if_pos h2,AG (by omega) (by omega),bs,Pq hf hv hh N _ p m (kid 0 (by omega) (by omega)) (hc.kid (by omega) _ (AO (by omega) (by omega))) ha (n+1) (by omega),bs]
   generalize BV s.t s.h s.injective N (AA c.Kids 0) m=x
   by_cases e0:x.2=0
   ·rw [if_pos (by simpa using e0),if_pos e0]; try rfl
   ·rw [if_neg (by simpa using e0),if_neg e0]
    by_cases e1:x.2=10
    ·rw [if_pos (by simpa using e1),if_pos e1]; try rfl
    ·rw [if_neg (by simpa using e1),if_neg e1]; try rfl
  rw [if_neg (by simpa using h2),if_neg h2]
  by_cases h3:c.Kind=3
  ·rw [if_pos (by simpa using h3),if_pos h3]
   have hfew:=hc.few
   rw [Ql (Iu fun k=>BV s.t s.h s.injective N k m) NA (show NA 0 (zP,zP) from rfl)]
   ·unfold N1
    show thenR (some (D1 (Iu fun k=>BV s.t s.h s.injective N k m) c.Kids (zP,zP))) _ _=_
    cases D1 (Iu fun k=>BV s.t s.h s.injective N k m) c.Kids (zP,zP) <;> rfl
   ·intro i st i0 i1 hi
    unfold NA at hi
    rw [AG i0 i1,bs,Pq hf hv hh N _ p m (kid i i0 i1) (hc.kid (by omega) _ (AO i0 i1)) ha (n+1) (by omega),bs]
    dsimp only [Iu]
    by_cases e0:(BV s.t s.h s.injective N (AA c.Kids i) m).2=0
    ·rw [if_neg (by simp [e0]),if_neg (by simp [e0]),DG (by simp; unfold BZ; omega),bs]
     refine ⟨rfl,fun s' e=>?_⟩
     cases e
     unfold NA
     simp; omega
    ·rw [if_pos (by simp [e0]),if_pos e0]
     exact ⟨rfl,fun s' e=>by cases e⟩
  rw [if_neg (by simpa using h3),if_neg h3]
  by_cases h4:c.Kind=4
  ·rw [if_pos (by simpa using h4),if_pos h4]
   rw [Nn (fun _=>zP) (fun i=>if (BV s.t s.h s.injective N (AA c.Kids i) m).2=0 then some (⟨i,zM,[(BV s.t s.h s.injective N (AA c.Kids i) m).1]⟩,0) else if (BV s.t s.h s.injective N (AA c.Kids i) m).2≠10 then some (zP,(BV s.t s.h s.injective N (AA c.Kids i) m).2) else none) (by omega) rfl]
   ·cases fst (fun i=>if (BV s.t s.h s.injective N (AA c.Kids i) m).2=0 then some ((⟨i,zM,[(BV s.t s.h s.injective N (AA c.Kids i) m).1]⟩:AL),(0:Int)) else if (BV s.t s.h s.injective N (AA c.Kids i) m).2≠10 then some (zP,(BV s.t s.h s.injective N (AA c.Kids i) m).2) else none) 0 c.Kids.length <;> rfl
   ·intro i i0 i1 _
    rw [AG i0 i1,bs,Pq hf hv hh N _ p m (kid i i0 i1) (hc.kid (by omega) _ (AO i0 i1)) ha (n+1) (by omega),bs]
    generalize BV s.t s.h s.injective N (AA c.Kids i) m=x
    by_cases e0:x.2=0
    ·rw [if_pos (by simpa using e0),if_pos e0]; try rfl
    ·rw [if_neg (by simpa using e0),if_neg e0]
     by_cases e1:x.2=10
     ·rw [if_neg (by simp [e1]),if_neg (by simp [e1])]; try rfl
     ·rw [if_pos (by simp [e1]),if_pos e1]; try rfl
  rw [if_neg (by simpa using h4),if_neg h4]
  by_cases h5:c.Kind=5
  ·rw [if_pos (by simpa using h5),if_pos h5]
   have hi:=hc.ins h5
   have h1:=hc.one (.inr h5)
   rw [BF,WC hf hv hh ha hi,bs]
   by_cases h6:(DK s.t c s.h m s.injective).2=0
   ·obtain ⟨e1,e2⟩:=Pk hv hh ha hi h6
    rw [if_neg (by simp [h6]),if_neg (by simp [h6])]
    generalize (DK s.t c s.h m s.injective).1=l at e1 e2
    rw [Nn (fun _=>zP) (fun i=>if (BV s.t s.h s.injective N (AA c.Kids 0) (AA l i)).2=0 then some (⟨0,AA l i,[(BV s.t s.h s.injective N (AA c.Kids 0) (AA l i)).1]⟩,0) else if (BV s.t s.h s.injective N (AA c.Kids 0) (AA l i)).2≠10 then some (zP,(BV s.t s.h s.injective N (AA c.Kids 0) (AA l i)).2) else none) (by omega) rfl]
    ·cases fst (fun i=>if (BV s.t s.h s.injective N (AA c.Kids 0) (AA l i)).2=0 then some ((⟨0,AA l i,[(BV s.t s.h s.injective N (AA c.Kids 0) (AA l i)).1]⟩:AL),(0:Int)) else if (BV s.t s.h s.injective N (AA c.Kids 0) (AA l i)).2≠10 then some (zP,(BV s.t s.h s.injective N (AA c.Kids 0) (AA l i)).2) else none) 0 l.length <;> rfl
    ·intro i i0 i1 _
     rw [AG i0 i1,bs,AG (by omega) (by omega),bs,Pq hf hv hh N _ c.Pattern _ (kid 0 (by omega) (by omega)) (hc.kid5 h5 _ (AO (by omega) (by omega))) (e2 _ (AO i0 i1)) n (by omega),bs]
     generalize BV s.t s.h s.injective N (AA c.Kids 0) (AA l i)=x
     by_cases e0:x.2=0
     ·rw [if_pos (by simpa using e0),if_pos e0]; try rfl
     ·rw [if_neg (by simpa using e0),if_neg e0]
      by_cases e1:x.2=10
      ·rw [if_neg (by simp [e1]),if_neg (by simp [e1])]; try rfl
      ·rw [if_pos (by simp [e1]),if_pos e1]; try rfl
   ·rw [if_pos (by simp [h6]),if_pos h6]; try rfl
  rw [if_neg (by simpa using h5),if_neg h5]; try rfl
theorem Ns {t:AD} {hst:AZ} {inj:Bool} (hf:BT t) (hv:(BA t).2=0) (hh:I8 t hst):∀ (N:Nat) (c:AB) (p:Pattern) (m:AH),SizeOf.sizeOf c<=N->CV t p c->Py t p hst m->∀ n,N<=n->EN n t c hst m inj=some (DH t hst inj N c m)
 | 0,c,_,_,h,_,_,_,_=>by have:=E6 c; omega
 | N+1,c,p,m,h,hc,ha,n,hn=>by
  obtain ⟨n,rfl⟩:∃ k,n=k+1:=⟨n - 1,by omega⟩
  have kid:∀ (i:Int),0<=i->i<c.Kids.length->SizeOf.sizeOf (AA c.Kids i)<=N:=fun i i0 i1=>by
   have:=GB (AO (l:=c.Kids) i0 i1); omega
  rw [EN,DH]
  by_cases h2:c.Kind=2
  ·have h1:=hc.one (.inl h2)
   rw [if_pos (by simpa using h2),if_pos h2,AG (by omega) (by omega),bs,Ns hf hv hh N _ p m (kid 0 (by omega) (by omega)) (hc.kid (by omega) _ (AO (by omega) (by omega))) ha n (by omega),bs]
   generalize DH t hst inj N (AA c.Kids 0) m=x
   by_cases e0:x.2=0
   ·rw [if_pos (by simpa using e0),if_pos e0]; try rfl
   ·rw [if_neg (by simpa using e0),if_neg e0]
    by_cases e1:x.2=10
    ·rw [if_pos (by simpa using e1),if_pos e1]; try rfl
    ·rw [if_neg (by simpa using e1),if_neg e1]; try rfl
  rw [if_neg (by simpa using h2),if_neg h2]
  by_cases h3:c.Kind=3
  ·rw [if_pos (by simpa using h3),if_pos h3]
   have hfew:=hc.few
   rw [Ql (Iu fun k=>DH t hst inj N k m) NA (show NA 0 (zP,zP) from rfl)]
   ·unfold N1
    show thenR (some (D1 (Iu fun k=>DH t hst inj N k m) c.Kids (zP,zP))) _ _=_
    cases D1 (Iu fun k=>DH t hst inj N k m) c.Kids (zP,zP) <;> rfl
   ·intro i st i0 i1 hi
    unfold NA at hi
    rw [AG i0 i1,bs,Ns hf hv hh N _ p m (kid i i0 i1) (hc.kid (by omega) _ (AO i0 i1)) ha n (by omega),bs]
    dsimp only [Iu]
    by_cases e0:(DH t hst inj N (AA c.Kids i) m).2=0
    ·rw [if_neg (by simp [e0]),if_neg (by simp [e0]),DG (by simp; unfold BZ; omega),bs]
     refine ⟨rfl,fun s' e=>?_⟩
     cases e
     unfold NA
     simp; omega
    ·rw [if_pos (by simp [e0]),if_pos e0]
     exact ⟨rfl,fun s' e=>by cases e⟩
  rw [if_neg (by simpa using h3),if_neg h3]
  by_cases h4:c.Kind=4
  ·rw [if_pos (by simpa using h4),if_pos h4]
   rw [Nn (fun _=>zP) (fun i=>if (DH t hst inj N (AA c.Kids i) m).2≠10 then some (⟨i,zM,[(DH t hst inj N (AA c.Kids i) m).1]⟩,(DH t hst inj N (AA c.Kids i) m).2) else none) (by omega) rfl]
   ·cases fst (fun i=>if (DH t hst inj N (AA c.Kids i) m).2≠10 then some ((⟨i,zM,[(DH t hst inj N (AA c.Kids i) m).1]⟩:AL),(DH t hst inj N (AA c.Kids i) m).2) else none) 0 c.Kids.length <;> rfl
   ·intro i i0 i1 _
    rw [AG i0 i1,bs,Ns hf hv hh N _ p m (kid i i0 i1) (hc.kid (by omega) _ (AO i0 i1)) ha n (by omega),bs]
    generalize DH t hst inj N (AA c.Kids i) m=x
    by_cases e1:x.2=10
    ·rw [if_neg (by simp [e1]),if_neg (by simp [e1])]; try rfl
    ·rw [if_pos (by simp [e1]),if_pos e1]; try rfl
  rw [if_neg (by simpa using h4),if_neg h4]
  by_cases h5:c.Kind=5
  ·rw [if_pos (by simpa using h5),if_pos h5]
   have hi:=hc.ins h5
   have h1:=hc.one (.inr h5)
   rw [cU hf hv hh ha hi,bs]
   by_cases h6:(DK t c hst m inj).2=0
   ·obtain ⟨e1,e2⟩:=Pk hv hh ha hi h6
    rw [if_neg (by simp [h6]),if_neg (by simp [h6])]
    generalize (DK t c hst m inj).1=l at e1 e2
    rw [Nn (fun _=>zP) (fun i=>if (DH t hst inj N (AA c.Kids 0) (AA l i)).2≠10 then some (⟨0,AA l i,[(DH t hst inj N (AA c.Kids 0) (AA l i)).1]⟩,(DH t hst inj N (AA c.Kids 0) (AA l i)).2) else none) (by omega) rfl]
    ·cases fst (fun i=>if (DH t hst inj N (AA c.Kids 0) (AA l i)).2≠10 then some ((⟨0,AA l i,[(DH t hst inj N (AA c.Kids 0) (AA l i)).1]⟩:AL),(DH t hst inj N (AA c.Kids 0) (AA l i)).2) else none) 0 l.length <;> rfl
    ·intro i i0 i1 _
     rw [AG (by omega) (by omega),bs,AG i0 i1,bs,Ns hf hv hh N _ c.Pattern _ (kid 0 (by omega) (by omega)) (hc.kid5 h5 _ (AO (by omega) (by omega))) (e2 _ (AO i0 i1)) n (by omega),bs]
     generalize DH t hst inj N (AA c.Kids 0) (AA l i)=x
     by_cases e1:x.2=10
     ·rw [if_neg (by simp [e1]),if_neg (by simp [e1])]; try rfl
     ·rw [if_pos (by simp [e1]),if_pos e1]; try rfl
   ·rw [if_pos (by simp [h6]),if_pos h6]; try rfl
  rw [if_neg (by simpa using h5),if_neg h5]; try rfl
end Go.Sf.Sc
namespace Go.Sf.Sc
open Go Go.Sf
noncomputable def Nb (t:AD) (p:Pattern) (c:AB) (h:AZ) (m:AH) (inj:Bool):Int:=
 if MR t p c≠0 then MR t p c else if (MU t h).2≠0 then (MU t h).2 else if Ms t p.Graph h.Graph m.Morphism inj≠0 then Ms t p.Graph h.Graph m.Morphism inj else
 if (LN t p h m.Morphism).2≠0 then (LN t p h m.Morphism).2 else if (LN t p h m.Morphism).1=m.Vars then 0 else 11
theorem TE {t:AD} (hf:BT t) (p:Pattern) {c:AB} (hc:EI c) (h:AZ) (m:AH) (inj:Bool):EC t p c h m inj=some (Nb t p c h m inj):=by
 unfold EC Nb
 rw [Zz hf p hc,bs]
 refine HC fun _=>?_
 rw [WE hf,bs]
 refine HC fun _=>?_
 rw [UY hf,bs]
 refine HC fun _=>?_
 rw [Zx hf,bs]
 refine HC fun _=>?_
 rw [SQ,bs]
 by_cases e:(LN t p h m.Morphism).1=m.Vars
 ·rw [if_neg (by simp [e]),if_pos e]
 ·rw [if_pos (by simp [e]),if_neg e]
theorem Xx {t:AD} (hf:BT t) (p:Pattern) {c:AB} (hc:EI c) (h:AZ) (m:AH) (inj:Bool):KW t p c h m inj=some (Nb t p c h m inj):=by
 unfold KW Nb
 rw [WR hf p hc,bs]
 refine HC fun _=>?_
 rw [WT hf,bs]
 refine HC fun _=>?_
 unfold Lw
 rw [Ud hf,bs]
 have e:∀ o:Option Int,(o.bind fun x37=>some x37)=o:=fun o=>by cases o <;> rfl
 rw [e]
 refine HC fun _=>?_
 rw [Z9 hf,bs,Z7]
 by_cases h0:(LN t p h m.Morphism).2=0
 ·rw [if_pos (by simpa using h0),if_neg (by simp [h0])]
  by_cases e:(LN t p h m.Morphism).1=m.Vars
  ·rw [if_pos e]; simp [e,h0]
  ·rw [if_neg e]; simp [e]
 ·rw [if_neg (by simpa using h0),if_pos h0]; rfl
theorem SH {t:AD} (hf:BT t) {p:Pattern} {c:AB} (hc:HQ c<=40) {h:AZ} {m:AH} {inj:Bool} (e:Nb t p c h m inj=0):(BA t).2=0∧I8 t h∧CV t p c∧Py t p h m:=by
 unfold Nb at e
 split at e
 ·rename_i h1; exact absurd e h1
 rename_i h1
 split at e
 ·rename_i h2; exact absurd e h2
 rename_i h2
 split at e
 ·rename_i h3; exact absurd e h3
 rename_i h3
 split at e
 ·rename_i h4; exact absurd e h4
 rename_i h4
 split at e
 case isFalse=>cases e
 rename_i h5
 have h1:=Classical.not_not.1 h1
 have h2:=Classical.not_not.1 h2
 have h3:=Classical.not_not.1 h3
 have h4:=Classical.not_not.1 h4
 obtain ⟨hv,hh⟩:=UP hf h2
 have hm:=(Vw h3).2
 unfold MR at h1
 split at h1
 ·rename_i h6; exact absurd h1 h6
 rename_i h6
 split at h1
 ·rename_i h7; exact absurd h1 h7
 rename_i h7
 have hq:=VN hv (.inl (Classical.not_not.1 h6))
 have h7:=Classical.not_not.1 h7
 have hw:ZD c=true:=by
  unfold M0 at h7
  split at h7
  ·cases h7
  ·rename_i h8; simpa using h8
 suffices hs:(m.Vars.length:Int)=p.Vars∧MD m.Vars from ⟨hv,hh,Ys hv _ c p (Nat.le_refl _) hc hw h1,hq,hm,hs.1,hs.2⟩
 have hs:∀ s∈p.Slots,IZ p.Vars h m.Morphism s:=fun s hs=>Mk (GF hv) hq hh hm hs
 unfold LN at h4 h5
 split at h4
 ·rename_i h8; exact absurd h4 h8
 rename_i h8
 rw [if_neg h8] at h5
 split at h4
 ·rename_i h9; exact absurd h4 h9
 rename_i h9
 rw [if_neg h9] at h5
 have:=Wm hq hs h4
 rw [h5] at this
 exact this
end Go.Sf.Sc
namespace Go.Sf.Sc
open Go Go.Sf
def Me:Nat->AB->Bool
 | 0,_=>true
 | N+1,c=>if anyR (fun i=>!Me N (AA c.Kids i)) 0 c.Kids.length=true then false else decide (A1 ((c.Pattern.Graph.Nodes.length:Int)+c.Pattern.Graph.Edges.length)<=6)
theorem Rw:∀ (N:Nat) (c:AB),SizeOf.sizeOf c<=N->∀ n,N<=n->GI n c=some (Me N c)
 | 0,c,h,_,_=>by have:=E6 c; omega
 | N+1,c,h,n,hn=>by
  obtain ⟨n,rfl⟩:∃ k,n=k+1:=⟨n - 1,by omega⟩
  rw [GI,Me,B2 (fun i=>!Me N (AA c.Kids i)) false]
  ·cases anyR (fun i=>!Me N (AA c.Kids i)) 0 c.Kids.length <;> rfl
  ·intro i i0 i1 _
   have:=GB (AO (l:=c.Kids) i0 i1)
   rw [AG i0 i1,bs,Rw N _ (by omega) n (by omega),bs,Ig]
theorem X2 (c:AB):Mz c=some (Me (SizeOf.sizeOf c) c):=EX (SizeOf.sizeOf c) fun n hn=>Rw _ c (Nat.le_refl _) n hn
def PS (a:Int):Nat->Int->Int
 | 0,s=>s
 | k+1,s=>A1 (PS a k s*a)
theorem Y0 {a b k s:Int} (hk:0<=k) (hk2:k<=1000) (hb:b<=1000):IT (ρ:=Bool) (fun (s0:Int × Int)=>
  if (decide (s0.2<b))=true then
  some (.next (A1 (s0.1*a),A1 (s0.2+1)))
  else
  some (.brk (s0.1,s0.2))) (s,k)=some (.inl (PS a (max k b - k).toNat s,max k b)):=by
 refine Tl (fun i=>PS a (i - k).toNat s) (by omega) (by rw [show (k - k).toNat=0 by omega]; rfl) (fun i i0 i1=>?_) ?_
 ·rw [if_pos (by simp; omega),show (i+1 - k).toNat=(i - k).toNat+1 by omega,PS]
  dsimp only
  rw [BG (n:=i+1) (by omega) (by omega)]
 ·rw [if_neg (by simp; omega)]
def Mq (a b:Int):Nat->Pattern->AB->Bool
 | 0,_,_=>true
 | N+1,p,c=>
  let q:=if c.Kind=5 then c.Pattern else p
  if anyR (fun i=>!Mq a b N q (AA c.Kids i)) 0 c.Kids.length=true then false else
  decide (PS b (max (p.Graph.Edges.length:Int) q.Graph.Edges.length - p.Graph.Edges.length).toNat (PS a (max (p.Graph.Nodes.length:Int) q.Graph.Nodes.length - p.Graph.Nodes.length).toNat 1)<=5000)
theorem TN (a b:Int):∀ (N:Nat) (c:AB) (p:Pattern),SizeOf.sizeOf c<=N->EI c->PG p->∀ n,N<=n->ER n p c a b=some (Mq a b N p c)
 | 0,c,_,h,_,_,_,_=>by have:=E6 c; omega
 | N+1,c,p,h,hc,hp,n,hn=>by
  obtain ⟨n,rfl⟩:∃ k,n=k+1:=⟨n - 1,by omega⟩
  have q1:=hc.q.nodes
  have q2:=hc.q.edges
  have p1:=hp.nodes
  have p2:=hp.edges
  have main:∀ q:Pattern,PG q->(thenR (IT (ρ:=Bool) (fun (s0:Int × Int)=>
    if (decide (s0.2<(q.Graph.Nodes.length:Int)))=true then
    some (.next (A1 (s0.1*a),A1 (s0.2+1)))
    else
    some (.brk (s0.1,s0.2))) (1,(p.Graph.Nodes.length:Int))) (fun s0=>
    thenR (IT (ρ:=Bool) (fun (s2:Int × Int)=>
    if (decide (s2.2<(q.Graph.Edges.length:Int)))=true then
    some (.next (A1 (s2.1*b),A1 (s2.2+1)))
    else
    some (.brk (s2.1,s2.2))) (s0.1,(p.Graph.Edges.length:Int))) (fun s2=>
    thenR (forR (ρ:=Bool) (fun (i4:Int) (_:Unit)=>
    (AI c.Kids i4).bind fun x61=>
    (ER n q x61 a b).bind fun x65=>
    if (!x65)=true then
    some (.ret false)
    else
    some (.next ())) 0 (c.Kids.length:Int) ()) (fun _=>
    some (decide (s2.1<=5000))) (fun v4=>some v4)) (fun v2=>some v2)) (fun v0=>some v0)) =
    some (if anyR (fun i=>!Mq a b N q (AA c.Kids i)) 0 c.Kids.length=true then false else
     decide (PS b (max (p.Graph.Edges.length:Int) q.Graph.Edges.length - p.Graph.Edges.length).toNat (PS a (max (p.Graph.Nodes.length:Int) q.Graph.Nodes.length - p.Graph.Nodes.length).toNat 1)<=5000)):=by
   intro q hq
   have k1:=hq.nodes
   have k2:=hq.edges
   rw [Y0 (by omega) (by omega) (by omega),DT]
   dsimp only
   rw [Y0 (by omega) (by omega) (by omega),DT,B2 (fun i=>!Mq a b N q (AA c.Kids i)) false]
   ·cases anyR (fun i=>!Mq a b N q (AA c.Kids i)) 0 c.Kids.length <;> rfl
   ·intro i i0 i1 _
    have:=GB (AO (l:=c.Kids) i0 i1)
    rw [AG i0 i1,bs,TN a b N _ q (by omega) (hc.k _ (AO i0 i1)) hq n (by omega),bs,Ig]
  rw [ER,Mq]
  by_cases h5:c.Kind=5
  ·rw [if_pos (by simpa using h5),if_pos h5,bs,main _ hc.q]
  ·rw [if_neg (by simpa using h5),if_neg h5,bs,main _ hp]
theorem WQ (a b:Int) {c:AB} {p:Pattern} (hc:EI c) (hp:PG p):MK p c a b=some (Mq a b (SizeOf.sizeOf c) p c):=EX (SizeOf.sizeOf c) fun n hn=>TN a b _ c p (Nat.le_refl _) hc hp n hn
theorem Xc (h:AZ):∃ b,Kx h=some b:=by
 unfold Kx Ir
 rw [bs]
 split
 ·exact ⟨_,rfl⟩
 ·rw [B2 (fun i=>decide (12<((AA h.Values i).length:Int))) false]
  ·cases anyR (fun i=>decide (12<((AA h.Values i).length:Int))) 0 h.Values.length
   ·exact ⟨true,rfl⟩
   ·exact ⟨false,rfl⟩
  ·intro i i0 i1 _
   rw [AG i0 i1,bs,Ig]
theorem WU {t:AD} (hf:BT t) (st:(AS t).Sm) (p g:Graph):∃ b,KP t p g=some b:=by
 obtain ⟨b,e,_⟩:=RW st
 unfold KP Ir
 rw [e,bs,QM hf]
 simp only [bs]
 cases b <;> simp only [Bool.false_eq_true,if_false,if_true,bs]
 ·exact ⟨_,rfl⟩
 ·split <;> (rw [bs]; split <;> exact ⟨_,rfl⟩)
theorem WV {t:AD} (hf:BT t) (st:(AS t).Sm) (p:Pattern) {c:AB} (sc:(AK c).Sm) (h:AZ):∃ b,KU t p c h=some b∧(b=true->EI c∧HQ c<=40∧PG p):=by
 obtain ⟨b1,e1,f1⟩:=Vz sc
 obtain ⟨b2,e2,f2⟩:=UL p
 obtain ⟨b3,e3⟩:=Xc h
 unfold KU
 rw [e1,bs]
 cases b1
 ·exact ⟨false,rfl,fun h=>by cases h⟩
 rw [e2]
 cases b2
 ·exact ⟨false,rfl,fun h=>by cases h⟩
 rw [e3]
 cases b3
 ·exact ⟨false,rfl,fun h=>by cases h⟩
 have hc:=f1 rfl
 have hp:=f2 rfl
 simp only [bs,Bool.not_true,Bool.false_eq_true,if_false]
 rw [WR hf p hc.1,bs]
 have hall:∀ o:Option Bool,(∃ b,o=some b)->∃ b,o=some b∧(b=true->EI c∧HQ c<=40∧PG p):=fun o ⟨b,e⟩=>⟨b,e,fun _=>⟨hc.1,hc.2,hp⟩⟩
 refine hall _ ?_
 split
 ·exact ⟨true,rfl⟩
 ·obtain ⟨b4,e4⟩:=WU hf st p.Graph h.Graph
  unfold Lv
  rw [e2,e3,e4,X2,WQ 14 18 hc.1 hp]
  simp only [bs,if_true]
  cases b4 <;> simp only [Bool.false_eq_true,if_false,if_true,bs,Bool.false_and]
  ·exact ⟨_,rfl⟩
  ·split
   ·exact ⟨_,rfl⟩
   ·exact ⟨_,rfl⟩
theorem Zu {x:GU} (sx:(GQ x).Sm):(AK x.C).Sm:=by
 obtain ⟨p,c⟩:=x
 cases c
 have sx':TV.Sms [_,_,_,_,_,_,_,_,_,_,_,_,_,_]:=sx
 obtain ⟨_,_,_,_,_,h⟩:=sx'
 exact h
theorem X0 {t:AD} {x:GU} (y:Ki) (st:(AS t).Sm) (sx:(GQ x).Sm):∃ b,KI t x y=some b∧(b=true->BT t∧EI x.C∧HQ x.C<=40):=by
 obtain ⟨b1,e1,f1⟩:=RW st
 unfold KI
 rw [e1,bs]
 cases b1
 ·exact ⟨_,rfl,fun h=>by simp at h⟩
 obtain ⟨b2,e2,f2⟩:=WV (f1 rfl) st x.P (Zu sx) y.H
 rw [if_pos rfl,e2]
 refine ⟨_,rfl,fun h=>?_⟩
 rw [Bool.and_eq_true] at h
 have:=f2 h.1
 exact ⟨f1 rfl,this.1,this.2.1⟩
noncomputable def wS (t:AD) (p:Pattern) (c:AB) (h:AZ) (m:AH) (inj:Bool):AL × Int:=
 if Nb t p c h m inj≠0 then (zP,Nb t p c h m inj) else BV t h inj (SizeOf.sizeOf c) c m
theorem Rs {t:AD} (hf:BT t) (p:Pattern) {c:AB} (hc:EI c) (hk:HQ c<=40) (h:AZ) (m:AH) (inj:Bool):DI t p c h m inj=some (wS t p c h m inj):=by
 unfold DI wS
 rw [TE hf p hc,bs]
 refine JW fun h0=>?_
 obtain ⟨hv,hh,hcv,ha⟩:=SH hf hk h0
 rw [show C1 (AP.mk t h inj) c m=some (BV t h inj (SizeOf.sizeOf c) c m) from EX (2*SizeOf.sizeOf c) fun n hn=>Pq (s:=⟨t,h,inj⟩) hf hv hh _ c p m (Nat.le_refl _) hcv ha n hn]
 rfl
noncomputable def YD (t:AD) (p:Pattern) (c:AB) (h:AZ) (m:AH) (inj:Bool):Bool × Int:=
 if (wS t p c h m inj).2=10 then (false,0) else (decide ((wS t p c h m inj).2=0),(wS t p c h m inj).2)
theorem T2 {t:AD} (hf:BT t) (p:Pattern) {c:AB} (hc:EI c) (hk:HQ c<=40) (h:AZ) (m:AH) (inj:Bool):DD t p c h m inj=some (YD t p c h m inj):=by
 unfold DD YD
 rw [Rs hf p hc hk,bs]
 by_cases e:(wS t p c h m inj).2=10
 ·rw [if_pos (by simpa using e),if_pos e]
 ·rw [if_neg (by simpa using e),if_neg e]
theorem Xz {t:AD} (hf:BT t) {h:AZ} {inj:Bool} {p:Pattern} {c:AB} {m:AH} (hv:(BA t).2=0) (hh:I8 t h) (hcv:CV t p c) (ha:Py t p h m):NX t c h m inj=some (DH t h inj (SizeOf.sizeOf c) c m):=EX (SizeOf.sizeOf c) fun n hn=>Ns hf hv hh _ c p m (Nat.le_refl _) hcv ha n hn
end Go.Sf.Sc
namespace Go.Sf.Sc
open Go Go.Sf
def Qu (m:AH):Bool:=decide ((A1 ((A1 ((m.Morphism.Nodes.length:Int)+(m.Morphism.Edges.length:Int)))+(m.Vars.length:Int)))=0)
theorem Z8 (a b:AH):IE a b=some (decide (a=b)):=by
 unfold IE
 rw [RK,RK,RK]
 obtain ⟨⟨a1,a2⟩,a3⟩:=a
 obtain ⟨⟨b1,b2⟩,b3⟩:=b
 simp only [bs,AH.mk.injEq,Morphism.mk.injEq]
 by_cases h1:a1=b1 <;> by_cases h2:a2=b2 <;> by_cases h3:a3=b3 <;> simp [h1,h2,h3]
theorem Xw (a b:AH):E9 a b=some (decide (a=b)):=by
 unfold E9
 rw [Z3,SQ]
 obtain ⟨a1,a3⟩:=a
 obtain ⟨b1,b3⟩:=b
 simp only [bs,AH.mk.injEq]
 by_cases h1:a1=b1 <;> by_cases h3:a3=b3 <;> simp [h1,h3]
theorem XZ {l:List AH} {f:AH->Option Bool} {p:AH->Bool} (h:∀ x∈l,f x=some (p x)):C3 l f=some (l.any p):=FC h
def IF (t:AD) (h:AZ) (inj:Bool):Nat->AB->AH->AL->Bool
 | 0,_,_,_=>false
 | N+1,c,m,w=>
  if c.Kind=1 then decide (w.Kids.length=0)&&decide (w.Choice=0)&&Qu w.Match else
  if c.Kind=2 then decide (w.Kids.length=0)&&decide (w.Choice=0)&&Qu w.Match&&decide ((BV t h inj N (AA c.Kids 0) m).2=10) else
  if c.Kind=3 then decide (w.Kids.length=c.Kids.length)&&decide (w.Choice=0)&&Qu w.Match&&!anyR (fun i=>!IF t h inj N (AA c.Kids i) m (AA w.Kids i)) 0 c.Kids.length else
  if c.Kind=4 then decide (w.Kids.length=1)&&decide (0<=w.Choice)&&decide (w.Choice<c.Kids.length)&&Qu w.Match&&IF t h inj N (AA c.Kids w.Choice) m (AA w.Kids 0) else
  decide (w.Kids.length=1)&&decide (w.Choice=0)&&decide ((DK t c h m inj).2=0)&&(DK t c h m inj).1.any (fun x=>decide (x=w.Match))&&IF t h inj N (AA c.Kids 0) w.Match (AA w.Kids 0)
theorem XN {o:Bool}:(thenR (some (if o=true then (Sum.inr false:Unit ⊕ Bool) else Sum.inl ())) (fun _=>some true) fun v1=>some v1)=some (!o):=by cases o <;> rfl
theorem On {s:AP} (hf:BT s.t) (hv:(BA s.t).2=0) (hh:I8 s.t s.h):∀ (N:Nat) (c:AB) (p:Pattern) (m:AH) (w:AL),SizeOf.sizeOf c<=N->CV s.t p c->Py s.t p s.h m->∀ n,N<=n->BB n s c m w=some (IF s.t s.h s.injective N c m w)
 | 0,c,_,_,_,h,_,_,_,_=>by have:=E6 c; omega
 | N+1,c,p,m,w,h,hc,ha,n,hn=>by
  obtain ⟨n,rfl⟩:∃ k,n=k+1:=⟨n - 1,by omega⟩
  have kid:∀ (i:Int),0<=i->i<c.Kids.length->SizeOf.sizeOf (AA c.Kids i)<=N:=fun i i0 i1=>by
   have:=GB (AO (l:=c.Kids) i0 i1); omega
  have hm:D7 w.Match=some (Qu w.Match):=rfl
  rw [BB,IF,hm]
  generalize Qu w.Match=b
  by_cases h1:c.Kind=1
  ·rw [if_pos (by simpa using h1),if_pos h1]
   by_cases e1:w.Kids.length=0 <;> by_cases e2:w.Choice=0 <;> simp [e1,e2]
  rw [if_neg (by simpa using h1),if_neg h1]
  by_cases h2:c.Kind=2
  ·have hone:=hc.one (.inl h2)
   have hw:C1 s (AA c.Kids 0) m=some (BV s.t s.h s.injective N (AA c.Kids 0) m):=EX (2*N) fun n hn=>Pq hf hv hh N _ p m (kid 0 (by omega) (by omega)) (hc.kid (by omega) _ (AO (by omega) (by omega))) ha n hn
   rw [if_pos (by simpa using h2),if_pos h2,AG (by omega) (by omega),bs,hw,bs]
   by_cases e1:w.Kids.length=0 <;> by_cases e2:w.Choice=0 <;> simp [e1,e2]
  rw [if_neg (by simpa using h2),if_neg h2]
  by_cases h3:c.Kind=3
  ·rw [if_pos (by simpa using h3),if_pos h3]
   by_cases e1:w.Kids.length=c.Kids.length
   ·by_cases e2:w.Choice=0
    ·rw [if_neg (by simp [e1,e2])]
     cases b
     ·simp
     ·simp only [bs,Bool.not_true,Bool.false_eq_true,if_false]
      rw [B2 (fun i=>!IF s.t s.h s.injective N (AA c.Kids i) m (AA w.Kids i)) false,XN]
      ·simp [e1,e2]
      ·intro i i0 i1 _
       rw [AG i0 i1,bs,AG i0 (by omega),bs,On hf hv hh N _ p m _ (kid i i0 i1) (hc.kid (by omega) _ (AO i0 i1)) ha n (by omega),bs,Ig]
    ·rw [if_pos (by simp [e2])]; simp [e2]
   ·rw [if_pos (by simp [e1]; omega)]; simp [e1]
  rw [if_neg (by simpa using h3),if_neg h3]
  by_cases h4:c.Kind=4
  ·rw [if_pos (by simpa using h4),if_pos h4]
   by_cases e:w.Kids.length=1∧0<=w.Choice∧w.Choice<c.Kids.length
   ·obtain ⟨e1,e2,e3⟩:=e
    rw [if_pos (by simp [e1,e2,e3])]
    cases b
    ·simp
    ·simp only [bs,if_true]
     rw [AG e2 e3,bs,AG (by omega) (by omega),bs,On hf hv hh N _ p m _ (kid _ e2 e3) (hc.kid (by omega) _ (AO e2 e3)) ha n (by omega)]
     simp [e1,e2,e3]
   ·rw [if_neg (by simp; omega)]
    have:(decide (w.Kids.length=1)&&decide (0<=w.Choice)&&decide (w.Choice<(c.Kids.length:Int)))=false:=by
     rw [Bool.eq_false_iff]; simp; omega
    rw [this]; simp
  rw [if_neg (by simpa using h4),if_neg h4]
  have h5:c.Kind=5:=by have:=hc.rng; omega
  have hi:=hc.ins h5
  have hone:=hc.one (.inr h5)
  by_cases e1:w.Kids.length=1
  case neg=>rw [if_pos (by simp [e1]; omega)]; simp [e1]
  by_cases e2:w.Choice=0
  case neg=>rw [if_pos (by simp [e2])]; simp [e2]
  rw [if_neg (by simp [e1,e2]),WC hf hv hh ha hi,bs]
  by_cases e3:(DK s.t c s.h m s.injective).2=0
  case neg=>rw [if_pos (by simp [e3])]; simp [e3]
  obtain ⟨x1,x2⟩:=Pk hv hh ha hi e3
  rw [if_neg (by simp [e3]),XZ (p:=fun x=>decide (x=w.Match)) (fun x _=>by show (E9 x w.Match).bind _=_; rw [Xw]; rfl),bs]
  by_cases e4:(DK s.t c s.h m s.injective).1.any (fun x=>decide (x=w.Match))=true
  ·rw [e4]
   simp only [bs,Bool.not_true,Bool.false_eq_true,if_false]
   rw [List.any_eq_true] at e4
   obtain ⟨x,hx,e⟩:=e4
   rw [decide_eq_true_eq] at e
   subst e
   rw [AG (by omega) (by omega),bs,AG (by omega) (by omega),bs,On hf hv hh N _ c.Pattern _ _ (kid 0 (by omega) (by omega)) (hc.kid5 h5 _ (AO (by omega) (by omega))) (x2 _ hx) n (by omega)]
   simp [e1,e2,e3]
  ·rw [Bool.not_eq_true] at e4
   rw [e4]; simp
end Go.Sf.Sc
namespace Go.Sf.Sc
open Go Go.Sf
theorem Wf (W:AB->AL × Int):∀ (l:List AB) (s s':AL × AL),D1 (Iu W) l s=.inl s'->s'.2=⟨s.2.Choice,s.2.Match,s.2.Kids++l.map fun k=>(W k).1⟩∧∀ k∈l,(W k).2=0
 | [],s,s',h=>by
  cases h
  obtain ⟨s1,s2⟩:=s
  cases s2
  exact ⟨by simp,fun k hk=>by cases hk⟩
 | a::l,s,s',h=>by
  rw [D1] at h
  unfold Iu at h
  by_cases e:(W a).2=0
  ·rw [if_neg (by simp [e])] at h
   obtain ⟨h1,h2⟩:=Wf W l _ s' h
   refine ⟨by rw [h1]; simp,fun k hk=>?_⟩
   rcases List.mem_cons.1 hk with rfl | hk
   ·exact e
   ·exact h2 k hk
  ·rw [if_pos e] at h; cases h
theorem Uh (W:AB->AL × Int):∀ (l:List AB) (s:AL × AL) (r:AL × Int),D1 (Iu W) l s=.inr r->r.2≠0
 | [],s,r,h=>by cases h
 | a::l,s,r,h=>by
  rw [D1] at h
  unfold Iu at h
  by_cases e:(W a).2=0
  ·rw [if_neg (by simp [e])] at h
   exact Uh W l _ r h
  ·rw [if_pos e] at h; cases h; exact e
theorem VD:Qu zM=true:=by decide
theorem NN {t:AD} {h:AZ} {inj:Bool} (hv:(BA t).2=0) (hh:I8 t h):∀ (N:Nat) (c:AB) (p:Pattern) (m:AH),SizeOf.sizeOf c<=N->CV t p c->Py t p h m->(BV t h inj N c m).2=0->IF t h inj N c m (BV t h inj N c m).1=true
 | 0,c,_,_,hs,_,_,_=>by have:=E6 c; omega
 | N+1,c,p,m,hs,hc,ha,hw=>by
  have kid:∀ (i:Int),0<=i->i<c.Kids.length->SizeOf.sizeOf (AA c.Kids i)<=N:=fun i i0 i1=>by
   have:=GB (AO (l:=c.Kids) i0 i1); omega
  have hr:=hc.rng
  rw [BV] at hw ⊢
  rw [IF]
  by_cases h1:c.Kind=1
  ·rw [if_pos h1,if_neg (show ¬ c.Kind=2 by omega),if_neg (show ¬ c.Kind=3 by omega),if_neg (show ¬ c.Kind=4 by omega),if_neg (show ¬ c.Kind=5 by omega)]
   exact VD
  rw [if_neg h1]
  by_cases h2:c.Kind=2
  ·rw [if_pos h2] at hw ⊢
   rw [if_pos h2]
   by_cases e0:(BV t h inj N (AA c.Kids 0) m).2=0
   ·rw [if_pos e0] at hw; cases hw
   rw [if_neg e0] at hw ⊢
   by_cases e1:(BV t h inj N (AA c.Kids 0) m).2=10
   ·rw [if_pos e1,e1]; rfl
   ·rw [if_neg e1] at hw; exact absurd hw e0
  rw [if_neg h2] at hw ⊢
  rw [if_neg h2]
  by_cases h3:c.Kind=3
  ·rw [if_pos h3] at hw ⊢
   rw [if_pos h3]
   unfold N1 at hw ⊢
   cases hl:D1 (Iu fun k=>BV t h inj N k m) c.Kids (zP,zP) with
   | inr r=>
    rw [hl] at hw
    exact absurd hw (Uh _ _ _ _ hl)
   | inl s=>
    obtain ⟨k1,k2⟩:=Wf _ _ _ _ hl
    obtain ⟨s1,s2⟩:=s
    dsimp only at k1
    subst k1
    have e1:(([]:List AL)++c.Kids.map fun k=>(BV t h inj N k m).1).length=c.Kids.length:=by simp
    have e2:anyR (fun i=>!IF t h inj N (AA c.Kids i) m (AA (([]:List AL)++c.Kids.map fun k=>(BV t h inj N k m).1) i)) 0 c.Kids.length=false:=by
     rw [EB]
     intro i i0 i1
     rw [List.nil_append,bY (g:=fun k=>(BV t h inj N k m).1) i0 i1,NN hv hh N _ p m (kid i i0 i1) (hc.kid (by omega) _ (AO i0 i1)) ha (k2 _ (AO i0 i1))]; rfl
    show (decide ((([]:List AL)++c.Kids.map fun k=>(BV t h inj N k m).1).length=c.Kids.length)&&decide ((0:Int)=0)&&Qu zM&&!anyR (fun i=>!IF t h inj N (AA c.Kids i) m (AA (([]:List AL)++c.Kids.map fun k=>(BV t h inj N k m).1) i)) 0 c.Kids.length)=true
    rw [e2,VD]
    simp
  rw [if_neg h3] at hw ⊢
  rw [if_neg h3]
  by_cases h4:c.Kind=4
  ·rw [if_pos h4] at hw ⊢
   rw [if_pos h4]
   cases hl:fst (fun i=>if (BV t h inj N (AA c.Kids i) m).2=0 then some ((⟨i,zM,[(BV t h inj N (AA c.Kids i) m).1]⟩:AL),(0:Int)) else if (BV t h inj N (AA c.Kids i) m).2≠10 then some (zP,(BV t h inj N (AA c.Kids i) m).2) else none) 0 c.Kids.length with
   | none=>rw [hl] at hw; cases hw
   | some r=>
    rw [hl] at hw
    obtain ⟨i,i0,i1,k,_⟩:=D8 hl
    simp only [Option.getD_some] at hw ⊢
    by_cases e:(BV t h inj N (AA c.Kids i) m).2=0
    ·rw [if_pos e] at k
     cases k
     have:=NN hv hh N _ p m (kid i i0 i1) (hc.kid (by omega) _ (AO i0 i1)) ha e
     show (decide (1=1)&&decide (0<=i)&&decide (i<(c.Kids.length:Int))&&Qu zM&&IF t h inj N (AA c.Kids i) m (BV t h inj N (AA c.Kids i) m).1)=true
     rw [this,VD]
     simp [i0,i1]
    ·rw [if_neg e] at k
     split at k
     ·cases k; exact absurd hw e
     ·cases k
  rw [if_neg h4] at hw ⊢
  rw [if_neg h4]
  have h5:c.Kind=5:=by omega
  have hi:=hc.ins h5
  have hone:=hc.one (.inr h5)
  rw [if_pos h5] at hw ⊢
  by_cases e3:(DK t c h m inj).2=0
  case neg=>rw [if_pos e3] at hw; exact absurd hw e3
  obtain ⟨x1,x2⟩:=Pk hv hh ha hi e3
  rw [if_neg (by simp [e3])] at hw ⊢
  generalize hle:(DK t c h m inj).1=l at hw x1 x2 ⊢
  cases hl:fst (fun i=>if (BV t h inj N (AA c.Kids 0) (AA l i)).2=0 then some ((⟨0,AA l i,[(BV t h inj N (AA c.Kids 0) (AA l i)).1]⟩:AL),(0:Int)) else if (BV t h inj N (AA c.Kids 0) (AA l i)).2≠10 then some (zP,(BV t h inj N (AA c.Kids 0) (AA l i)).2) else none) 0 l.length with
  | none=>rw [hl] at hw; cases hw
  | some r=>
   rw [hl] at hw
   obtain ⟨i,i0,i1,k,_⟩:=D8 hl
   simp only [Option.getD_some] at hw ⊢
   by_cases e:(BV t h inj N (AA c.Kids 0) (AA l i)).2=0
   ·rw [if_pos e] at k
    cases k
    have hm:=AO (l:=l) i0 i1
    have:=NN hv hh N _ c.Pattern _ (kid 0 (by omega) (by omega)) (hc.kid5 h5 _ (AO (by omega) (by omega))) (x2 _ hm) e
    show (decide (1=1)&&decide ((0:Int)=0)&&decide ((DK t c h m inj).2=0)&&l.any (fun x=>decide (x=AA l i))&&IF t h inj N (AA c.Kids 0) (AA l i) (BV t h inj N (AA c.Kids 0) (AA l i)).1)=true
    rw [this,e3,List.any_eq_true.2 ⟨_,hm,by simp⟩]
    simp
   ·rw [if_neg e] at k
    split at k
    ·cases k; exact absurd hw e
    ·cases k
theorem WL {c k:AL} (h:k∈c.Kids):SizeOf.sizeOf k<SizeOf.sizeOf c:=by
 have:=List.sizeOf_lt_of_mem h
 cases c
 simp only [AL.mk.sizeOf_spec] at *
 omega
theorem WM (c:AL):0<SizeOf.sizeOf c:=by
 cases c
 simp only [AL.mk.sizeOf_spec]
 omega
theorem Ug:∀ (N:Nat) (a:AL),SizeOf.sizeOf a<=N->∀ n,N<=n->EM n a a=some true
 | 0,a,h,_,_=>by have:=WM a; omega
 | N+1,a,h,n,hn=>by
  obtain ⟨n,rfl⟩:∃ k,n=k+1:=⟨n - 1,by omega⟩
  rw [EM,if_neg (by simp),Z8,bs,bs,if_neg (by simp),B2 (fun _=>false) false]
  ·have:anyR (fun _=>false) 0 (a.Kids.length:Int)=false:=EB.2 fun _ _ _=>rfl
   rw [this]; rfl
  ·intro i i0 i1 _
   have:=WL (AO (l:=a.Kids) i0 i1)
   rw [AG i0 i1,bs,bs,Ug N _ (by omega) n (by omega),bs]; rfl
theorem T5 (a:AL):LK a a=some true:=EX (SizeOf.sizeOf a) fun n hn=>Ug _ a (Nat.le_refl _) n hn
noncomputable def Xa (t:AD) (p:Pattern) (c:AB) (h:AZ) (m:AH) (inj:Bool) (w:AL):Bool:=decide (Nb t p c h m inj=0)&&IF t h inj (SizeOf.sizeOf c) c m w
theorem Xs {t:AD} (hf:BT t) (p:Pattern) {c:AB} (hc:EI c) (hk:HQ c<=40) (h:AZ) (m:AH) (inj:Bool) (w:AL):CM t p c h m inj w=some (Xa t p c h m inj w):=by
 unfold CM Xa
 rw [TE hf p hc,bs]
 by_cases h0:Nb t p c h m inj=0
 ·obtain ⟨hv,hh,hcv,ha⟩:=SH hf hk h0
  rw [if_pos (by simpa using h0),show EU (AP.mk t h inj) c m w=some (IF t h inj (SizeOf.sizeOf c) c m w) from EX (SizeOf.sizeOf c) fun n hn=>On (s:=⟨t,h,inj⟩) hf hv hh _ c p m w (Nat.le_refl _) hcv ha n hn]
  simp [h0]
 ·rw [if_neg (by simpa using h0)]; simp [h0]
theorem ak (t:AD) (p:Pattern) (c:AB) (h:AZ) (m:AH) (inj:Bool):wS t p c h m inj=if Nb t p c h m inj≠0 then (zP,Nb t p c h m inj) else Jj (DH t h inj (SizeOf.sizeOf c) c m):=by
 unfold wS; rw [Uv]
theorem Wa {t:AD} (hf:BT t) (p:Pattern) {c:AB} (hc:EI c) (hk:HQ c<=40) (h:AZ) (m:AH) (inj:Bool):JG t p c h m inj=some (wS t p c h m inj):=by
 unfold JG
 rw [ak,Xx hf p hc,bs]
 refine JW fun h0=>?_
 obtain ⟨hv,hh,hcv,ha⟩:=SH hf hk h0
 rw [Xz hf hv hh hcv ha,bs]
 unfold Jj
 by_cases e:(DH t h inj (SizeOf.sizeOf c) c m).2=0
 ·rw [if_neg (by simp [e]),if_pos e]
  congr 1
  exact Prod.ext rfl e.symm
 ·rw [if_pos (by simp [e]),if_neg e]
theorem Nr (t:AD) (x:GU) (y:Ki) (st:(AS t).Sm) (sx:(GQ x).Sm) (sy:(Ko y).Sm):GT t x y=some true:=by
 obtain ⟨b,e,f⟩:=X0 y st sx
 unfold GT
 rw [XP,bs,if_neg (by decide),e]
 cases b
 ·rfl
 obtain ⟨hf,hc,hk⟩:=f rfl
 simp only [bs,Bool.not_true,Bool.false_eq_true,if_false]
 rw [Rs hf x.P hc hk,Wa hf x.P hc hk,T2 hf x.P hc hk]
 simp only [bs,decide_true,Bool.not_true,Bool.false_eq_true,if_false,T5]
 rw [Xs hf x.P hc hk]
 unfold YD
 by_cases h0:(wS t x.P x.C y.H y.M y.Injective).2=0
 ·rw [if_neg (show ¬ (!decide ((wS t x.P x.C y.H y.M y.Injective).2=0))=true by simp [h0]),if_neg (show ¬ (wS t x.P x.C y.H y.M y.Injective).2=10 by omega)]
  simp only [h0,decide_true,Bool.and_self,if_true,bs,Option.some.injEq]
  unfold Xa
  unfold wS at h0 ⊢
  by_cases hg:Nb t x.P x.C y.H y.M y.Injective=0
  ·rw [if_neg (by simp [hg])] at h0 ⊢
   obtain ⟨hv,hh,hcv,ha⟩:=SH hf hk hg
   rw [NN hv hh _ x.C x.P y.M (Nat.le_refl _) hcv ha h0]
   simp [hg]
  ·rw [if_pos hg] at h0; exact absurd h0 hg
 ·rw [if_pos (by simp [h0])]
  by_cases h1:(wS t x.P x.C y.H y.M y.Injective).2=10
  ·rw [if_pos h1]; rfl
  ·rw [if_neg h1]; simp [h0]
end Go.Sf.Sc
