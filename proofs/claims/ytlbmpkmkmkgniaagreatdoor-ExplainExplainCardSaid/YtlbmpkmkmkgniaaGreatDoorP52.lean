/- Plain lemmas: what the functions of the program and of the reference compute. -/
import Derived.Test.YtlbmpkmkmkgniaaGreatDoorP28
import Derived.Test.YtlbmpkmkmkgniaaGreatDoorP46
import Derived.Test.YtlbmpkmkmkgniaaGreatDoorP25
set_option linter.all false
set_option maxRecDepth 100000
namespace Go.Sf.Sc
open Go Go.Sf
inductive CV (t:AC):Pattern->AA->Prop where
 | mk (p:Pattern) (c:AA) (few:c.Kids.length<=40) (rng:1<=c.Kind∧c.Kind<=5) (one:c.Kind=2∨c.Kind=5->c.Kids.length=1) (ins:c.Kind=5->Vs t p c) (kids:∀ k∈c.Kids,CV t (if c.Kind=5 then c.Pattern else p) k):CV t p c
variable {p:Pattern} {c:AA}
theorem CV.few {t:AC} (h:CV t p c):c.Kids.length<=40:=by cases h; assumption
theorem CV.rng {t:AC} (h:CV t p c):1<=c.Kind∧c.Kind<=5:=by cases h; assumption
theorem CV.one {t:AC} (h:CV t p c):c.Kind=2∨c.Kind=5->c.Kids.length=1:=by cases h; assumption
theorem CV.ins {t:AC} (h:CV t p c):c.Kind=5->Vs t p c:=by cases h; assumption
theorem CV.kids {t:AC} (h:CV t p c):∀ k∈c.Kids,CV t (if c.Kind=5 then c.Pattern else p) k:=by cases h; assumption
theorem CV.kid {t:AC} (h:CV t p c) (d:¬ c.Kind=5):∀ k∈c.Kids,CV t p k:=fun k g=>by have:=h.kids k g; rwa [d2 d] at this
theorem CV.kid5 {t:AC} (h:CV t p c) (d:c.Kind=5):∀ k∈c.Kids,CV t c.Pattern k:=fun k g=>by have:=h.kids k g; rwa [d1 d] at this
theorem RT:∀ l:List AA,l.length<=HF l
 | []=>by simp
 | c::l=>by
  have:=RT l;have d:HF (c::l)=cnt c+HF l:=by simp [HF]
  have g:=Jy c;simp only [d6];omega
variable {q:Pattern} {v:Int}
theorem pi {t:AC} (hv:(BE t).2=0) (h:MM t q v=0):Pq t q:=by
 unfold MM at h;split at h
 ·exact ZR hv (.inl h)
 ·rename_i d; exact ZR hv (.inr (Classical.not_not.1 d))
theorem eA {t:AC} (hv:(BE t).2=0):∀ (N:Nat) (c:AA) (p:Pattern),SizeOf.sizeOf c<=N->cnt c<=40->Pd N c=true->HE N t p c=0->CV t p c
 | 0,c,_,h,_,_,_=>by have:=DP c; omega
 | N+1,c,p,h,M,A,ho=>by
  have E:=Jy c;have F:=RT c.Kids;rw [Pd,zzZ] at A;obtain ⟨d,w⟩:=A;have j:c.Kind=2∨c.Kind=5->c.Kids.length=1:=by
   intro g;unfold QV at d;rcases g with g | g
   ·rw [d2 (by omega),d1 g,zzZ,zzX] at d; exact d.1
   ·rw [d2 (by omega),d2 (by omega),d2 (by omega),d1 g,zzX] at d; exact d
  have o:1<=c.Kind∧c.Kind<=5:=by
   unfold QV at d;split at d
   ·omega
   split at d
   ·omega
   split at d
   ·omega
   split at d
   ·omega
   ·cases d
  have r:∀ q,(fst (fun i=>nz (HE N t q (AB c.Kids i))) 0 c.Kids.length).getD 0=0->∀ k∈c.Kids,CV t q k:=by
   intro q C k g;have G:=Tn C;have K:=K9 g;have L:=D9 g;rw [List.all_eq_true] at w;obtain ⟨i,H,I,e⟩:=ED g;have z:=G i H I;rw [e] at z;exact eA hv N k q (by omega) (by omega) (w k g) z
  rw [HE] at ho;by_cases u:c.Kind=5
  ·rw [d1 u] at ho;split at ho
   ·cases ho
   rename_i J;split at ho
   ·rename_i x; exact absurd ho x
   rename_i x;split at ho
   ·rename_i y; exact absurd ho y
   rename_i y;split at ho
   ·cases ho
   rename_i D;refine CV.mk p c (by omega) o j (fun _=>⟨pi hv (Classical.not_not.1 x),by omega,eF (Classical.not_not.1 y),by simpa using D⟩) ?_;rw [d1 u];exact r _ ho
  ·rw [d2 u] at ho;refine CV.mk p c (by omega) o j (fun e=>absurd e u) ?_;rw [d2 u];exact r _ ho
section
variable {α σ ρ:Type}
variable {l:List α} {f:Int->σ->Option (CZ σ ρ)}
theorem Q4 [Inhabited α] (step:α->σ->CZ σ ρ) (I:Int->σ->Prop) (h:∀ (i:Int) s,0<=i->i<l.length->I i s->f i s=some (step (AB l i) s)∧∀ s',step (AB l i) s=.next s'->I (i+1) s') :
  ∀ (n:Nat) (a:Int) (s:σ),0<=a->a+n=l.length->I a s->forGo f n a s=some (EW step (l.drop a.toNat) s)
 | 0,a,s,d,u,_=>by
  rw [List.drop_eq_nil_of_le (by omega)]; rfl
 | n+1,a,s,d,u,w=>by
  obtain ⟨k,o⟩:=h a s d (by omega) w;have g:l.drop a.toNat=AB l a::l.drop (a+1).toNat:=by
   rw [show (a+1).toNat=a.toNat+1 by omega,List.drop_eq_getElem_cons (by omega)];congr 1;unfold AB;rw [List.getD_eq_getElem?_getD,List.getElem?_eq_getElem (by omega)]; rfl
  rw [H6,k,g,EW];cases j:step (AB l a) s with
  | next s'=>
   simp only;exact Q4 step I h n (a+1) s' (by omega) (by omega) (o s' j)
  | brk s'=>rfl
  | ret r=>rfl
theorem Tk [Inhabited α] (step:α->σ->CZ σ ρ) (I:Int->σ->Prop) {s:σ} (d:I 0 s) (h:∀ (i:Int) s,0<=i->i<l.length->I i s->f i s=some (step (AB l i) s)∧∀ s',step (AB l i) s=.next s'->I (i+1) s') :
  forR f 0 l.length s=some (EW step l s):=by
 have:=Q4 step I h l.length 0 s (by omega) (by omega) d;unfold forR;rw [show ((l.length:Int) - 0).toNat=l.length by omega];exact this
theorem UI {d s2:α->σ->CZ σ ρ}:∀ {l:List α} {s:σ},(∀ a∈l,d a=s2 a)->EW d l s=EW s2 l s
 | [],_,_=>rfl
 | a::l,s,h=>by
  rw [EW,EW,h a (by simp)];split
  ·exact UI fun b g=>h b (by simp [g])
  ·rfl
  ·rfl
end
abbrev zM:AF:=⟨⟨[],[]⟩,[]⟩
abbrev zP:A1:=⟨0,zM,[]⟩
def Lk (w:AA->A1 × Int) (k:AA) (s:A1 × A1):CZ (A1 × A1) (A1 × Int):=
 if (w k).2≠0 then .ret (zP,(w k).2) else .next (s.1,⟨s.2.Choice,s.2.Match,s.2.Kids++[(w k).1]⟩)
def RH (w:AA->A1 × Int) (l:List AA):A1 × Int:=
 match EW (Lk w) l (zP,zP) with
 | .inl s=>(s.2,0)
 | .inr r=>r
def DS (t:AC) (h:AT) (inj:Bool):Nat->AA->AF->A1 × Int
 | 0,_,_=>(zP,0)
 | N+1,c,m=>
  if c.Kind=2 then (if (DS t h inj N (AB c.Kids 0) m).2=0 then (zP,10) else if (DS t h inj N (AB c.Kids 0) m).2=10 then (zP,0) else (zP,(DS t h inj N (AB c.Kids 0) m).2)) else
  if c.Kind=3 then RH (fun k=>DS t h inj N k m) c.Kids else
  if c.Kind=4 then (fst (fun i=>if (DS t h inj N (AB c.Kids i) m).2=0 then some (⟨i,zM,[(DS t h inj N (AB c.Kids i) m).1]⟩,0) else if (DS t h inj N (AB c.Kids i) m).2≠10 then some (zP,(DS t h inj N (AB c.Kids i) m).2) else none) 0 c.Kids.length).getD (zP,10) else
  if c.Kind=5 then
   (if (BV t c h m inj).2≠0 then (zP,(BV t c h m inj).2) else
   (fst (fun i=>if (DS t h inj N (AB c.Kids 0) (AB (BV t c h m inj).1 i)).2=0 then some (⟨0,AB (BV t c h m inj).1 i,[(DS t h inj N (AB c.Kids 0) (AB (BV t c h m inj).1 i)).1]⟩,0) else
    if (DS t h inj N (AB c.Kids 0) (AB (BV t c h m inj).1 i)).2≠10 then some (zP,(DS t h inj N (AB c.Kids 0) (AB (BV t c h m inj).1 i)).2) else none) 0 (BV t c h m inj).1.length).getD (zP,10)) else
  (zP,0)
def D6 (t:AC) (h:AT) (inj:Bool):Nat->AA->AF->A1 × Int
 | 0,_,_=>(zP,0)
 | N+1,c,m=>
  if c.Kind=2 then (if (D6 t h inj N (AB c.Kids 0) m).2=0 then (zP,10) else if (D6 t h inj N (AB c.Kids 0) m).2=10 then (zP,0) else (zP,(D6 t h inj N (AB c.Kids 0) m).2)) else
  if c.Kind=3 then RH (fun k=>D6 t h inj N k m) c.Kids else
  if c.Kind=4 then (fst (fun i=>if (D6 t h inj N (AB c.Kids i) m).2≠10 then some (⟨i,zM,[(D6 t h inj N (AB c.Kids i) m).1]⟩,(D6 t h inj N (AB c.Kids i) m).2) else none) 0 c.Kids.length).getD (zP,10) else
  if c.Kind=5 then
   (if (BV t c h m inj).2≠0 then (zP,(BV t c h m inj).2) else
   (fst (fun i=>if (D6 t h inj N (AB c.Kids 0) (AB (BV t c h m inj).1 i)).2≠10 then some (⟨0,AB (BV t c h m inj).1 i,[(D6 t h inj N (AB c.Kids 0) (AB (BV t c h m inj).1 i)).1]⟩,(D6 t h inj N (AB c.Kids 0) (AB (BV t c h m inj).1 i)).2) else none) 0 (BV t c h m inj).1.length).getD (zP,10)) else
  (zP,0)
def MP (x:A1 × Int):A1 × Int:=if x.2=0 then x else (zP,x.2)
theorem Wh (x:A1 × Int):(MP x).2=x.2:=by unfold MP; split <;> rfl
theorem aT {x:A1 × Int} (h:x.2=0):(MP x).1=x.1:=by unfold MP; rw [d1 h]
theorem b7 (w:AA->A1 × Int) (l:List AA):MP (RH w l)=RH w l:=by
 unfold RH;have:∀ (l:List AA) (s:A1 × A1) (r:A1 × Int),EW (Lk w) l s=.inr r->MP r=r:=by
  intro l
  induction l with
  | nil=>intro s r h; cases h
  | cons a l k=>
   intro s r h;rw [EW] at h;split at h
   ·exact k _ _ h
   ·cases h
   ·rename_i o d;cases h;unfold Lk at d;split at d
    ·rename_i g;cases d;unfold MP;rw [d2 g]
    ·cases d
 cases j:EW (Lk w) l (zP,zP) with
 | inl s=>rfl
 | inr r=>exact this _ _ _ j
theorem U4 (o:Option (A1 × Int)):MP (o.getD (zP,10))=(o.map MP).getD (zP,10):=by cases o <;> rfl
theorem Uh (t:AC) (h:AT) (inj:Bool):∀ (N:Nat) (c:AA) (m:AF),DS t h inj N c m=MP (D6 t h inj N c m)
 | 0,_,_=>rfl
 | N+1,c,m=>by
  have y:=Uh t h inj N;have key:∀ (c:AA) (m:AF),(DS t h inj N c m).2=(D6 t h inj N c m).2:=fun c m=>by rw [y,Wh]
  have pick:∀ (k:AA) (m x:AF) (i:Int),(if (DS t h inj N k m).2=0 then some ((⟨i,x,[(DS t h inj N k m).1]⟩:A1),(0:Int)) else if (DS t h inj N k m).2≠10 then some (zP,(DS t h inj N k m).2) else none)=(if (D6 t h inj N k m).2≠10 then some ((⟨i,x,[(D6 t h inj N k m).1]⟩:A1),(D6 t h inj N k m).2) else none).map MP:=by
   intro k m x i;rw [key];by_cases d:(D6 t h inj N k m).2=0
   ·rw [d1 d,d1 (by omega),y,aT d];simp [MP,d]
   ·rw [d2 d];by_cases g:(D6 t h inj N k m).2≠10
    ·rw [d1 g,d1 g];simp [MP,d]
    ·rw [d2 g,d2 g]; rfl
  rw [DS,D6];by_cases o:c.Kind=2
  ·rw [d1 o,d1 o,key];by_cases d:(D6 t h inj N (AB c.Kids 0) m).2=0
   ·rw [d1 d]; rfl
   ·rw [d2 d];by_cases g:(D6 t h inj N (AB c.Kids 0) m).2=10
    ·rw [d1 g]; rfl
    ·rw [d2 g]; unfold MP; rw [d2 d]
  rw [d2 o,d2 o];by_cases r:c.Kind=3
  ·rw [d1 r,d1 r,b7];unfold RH;rw [UI (s2:=Lk fun k=>D6 t h inj N k m)];intro k _;funext s;unfold Lk;simp only [key];by_cases d:(D6 t h inj N k m).2=0
   ·rw [d2 (by simp [d]),d2 (by simp [d]),y,aT d]
   ·rw [d1 d,d1 d]
  rw [d2 r,d2 r];by_cases u:c.Kind=4
  ·rw [d1 u,d1 u,U4,←NY];congr 1;exact congrArg (fun F=>fst F 0 (c.Kids.length:Int)) (funext fun i=>pick _ _ _ _)
  rw [d2 u,d2 u];by_cases w:c.Kind=5
  ·rw [d1 w,d1 w];by_cases j:(BV t c h m inj).2≠0
   ·rw [d1 j,d1 j]; unfold MP; rw [d2 j]
   ·rw [d2 j,d2 j,U4,←NY];congr 1;exact congrArg (fun F=>fst F 0 ((BV t c h m inj).1.length:Int)) (funext fun i=>pick _ _ _ _)
  rw [d2 w,d2 w]; rfl
end Go.Sf.Sc
namespace Go.Sf.Sc
open Go Go.Sf
def PN (i:Int) (s:A1 × A1):Prop:=(s.2.Kids.length:Int)=i
theorem T7 {s:A8} (y:BY s.t) (hv:(BE s.t).2=0) (w:GF s.t s.h):∀ (N:Nat) (c:AA) (p:Pattern) (m:AF),SizeOf.sizeOf c<=N->CV s.t p c->Mh s.t p s.h m->∀ n,2*N<=n->A5 n s c m=some (DS s.t s.h s.injective N c m)
 | 0,c,_,_,h,_,_,_,_=>by have:=DP c; omega
 | N+1,c,p,m,h,r,C,n,I=>by
  obtain ⟨n,rfl⟩:∃ k,n=k+2:=⟨n - 2,by omega⟩;have kid:∀ (i:Int),0<=i->i<c.Kids.length->SizeOf.sizeOf (AB c.Kids i)<=N:=fun i j o=>by
   have:=D9 (AP (l:=c.Kids) j o); omega
  rw [A5,DS];by_cases z:c.Kind=2
  ·have H:=r.one (.inl z);rw [d1 (by simpa using z),d1 z,AI (by omega) (by omega),bs,T7 y hv w N _ p m (kid 0 (by omega) (by omega)) (r.kid (by omega) _ (AP (by omega) (by omega))) C (n+1) (by omega),bs];generalize DS s.t s.h s.injective N (AB c.Kids 0) m=x;by_cases d:x.2=0
   ·rw [d1 (by simpa using d),d1 d]; try rfl
   ·rw [d2 (by simpa using d),d2 d];by_cases g:x.2=10
    ·rw [d1 (by simpa using g),d1 g]; try rfl
    ·rw [d2 (by simpa using g),d2 g]; try rfl
  rw [d2 (by simpa using z),d2 z];by_cases D:c.Kind=3
  ·rw [d1 (by simpa using D),d1 D];have F:=r.few;rw [Tk (Lk fun k=>DS s.t s.h s.injective N k m) PN (show PN 0 (zP,zP) from rfl)]
   ·unfold RH;show thenR (some (EW (Lk fun k=>DS s.t s.h s.injective N k m) c.Kids (zP,zP))) _ _=_;cases EW (Lk fun k=>DS s.t s.h s.injective N k m) c.Kids (zP,zP) <;> rfl
   ·intro i st j o hi;unfold PN at hi;rw [AI j o,bs,T7 y hv w N _ p m (kid i j o) (r.kid (by omega) _ (AP j o)) C (n+1) (by omega),bs];dsimp only [Lk];by_cases d:(DS s.t s.h s.injective N (AB c.Kids i) m).2=0
    ·rw [d2 (by simp [d]),d2 (by simp [d]),B7 (by simp; unfold BM; omega),bs];refine ⟨rfl,fun s' e=>?_⟩;cases e;unfold PN;simp; omega
    ·rw [d1 (by simp [d]),d1 d];exact ⟨rfl,fun s' e=>by cases e⟩
  rw [d2 (by simpa using D),d2 D];by_cases E:c.Kind=4
  ·rw [d1 (by simpa using E),d1 E];rw [Kj (fun _=>zP) (fun i=>if (DS s.t s.h s.injective N (AB c.Kids i) m).2=0 then some (⟨i,zM,[(DS s.t s.h s.injective N (AB c.Kids i) m).1]⟩,0) else if (DS s.t s.h s.injective N (AB c.Kids i) m).2≠10 then some (zP,(DS s.t s.h s.injective N (AB c.Kids i) m).2) else none) (by omega) rfl]
   ·cases fst (fun i=>if (DS s.t s.h s.injective N (AB c.Kids i) m).2=0 then some ((⟨i,zM,[(DS s.t s.h s.injective N (AB c.Kids i) m).1]⟩:A1),(0:Int)) else if (DS s.t s.h s.injective N (AB c.Kids i) m).2≠10 then some (zP,(DS s.t s.h s.injective N (AB c.Kids i) m).2) else none) 0 c.Kids.length <;> rfl
   ·intro i j o _;rw [AI j o,bs,T7 y hv w N _ p m (kid i j o) (r.kid (by omega) _ (AP j o)) C (n+1) (by omega),bs];generalize DS s.t s.h s.injective N (AB c.Kids i) m=x;by_cases d:x.2=0
    ·rw [d1 (by simpa using d),d1 d]; try rfl
    ·rw [d2 (by simpa using d),d2 d];by_cases g:x.2=10
     ·rw [d2 (by simp [g]),d2 (by simp [g])]; try rfl
     ·rw [d1 (by simp [g]),d1 g]; try rfl
  rw [d2 (by simpa using E),d2 E];by_cases u:c.Kind=5
  ·rw [d1 (by simpa using u),d1 u];have hi:=r.ins u;have H:=r.one (.inr u);rw [B4,jI y hv w C hi,bs];by_cases A:(BV s.t c s.h m s.injective).2=0
   ·obtain ⟨g,G⟩:=NW hv w C hi A;rw [d2 (by simp [A]),d2 (by simp [A])];generalize (BV s.t c s.h m s.injective).1=l at g G;rw [Kj (fun _=>zP) (fun i=>if (DS s.t s.h s.injective N (AB c.Kids 0) (AB l i)).2=0 then some (⟨0,AB l i,[(DS s.t s.h s.injective N (AB c.Kids 0) (AB l i)).1]⟩,0) else if (DS s.t s.h s.injective N (AB c.Kids 0) (AB l i)).2≠10 then some (zP,(DS s.t s.h s.injective N (AB c.Kids 0) (AB l i)).2) else none) (by omega) rfl]
    ·cases fst (fun i=>if (DS s.t s.h s.injective N (AB c.Kids 0) (AB l i)).2=0 then some ((⟨0,AB l i,[(DS s.t s.h s.injective N (AB c.Kids 0) (AB l i)).1]⟩:A1),(0:Int)) else if (DS s.t s.h s.injective N (AB c.Kids 0) (AB l i)).2≠10 then some (zP,(DS s.t s.h s.injective N (AB c.Kids 0) (AB l i)).2) else none) 0 l.length <;> rfl
    ·intro i j o _;rw [AI j o,bs,AI (by omega) (by omega),bs,T7 y hv w N _ c.Pattern _ (kid 0 (by omega) (by omega)) (r.kid5 u _ (AP (by omega) (by omega))) (G _ (AP j o)) n (by omega),bs];generalize DS s.t s.h s.injective N (AB c.Kids 0) (AB l i)=x;by_cases d:x.2=0
     ·rw [d1 (by simpa using d),d1 d]; try rfl
     ·rw [d2 (by simpa using d),d2 d];by_cases g:x.2=10
      ·rw [d2 (by simp [g]),d2 (by simp [g])]; try rfl
      ·rw [d1 (by simp [g]),d1 g]; try rfl
   ·rw [d1 (by simp [A]),d1 A]; try rfl
  rw [d2 (by simpa using u),d2 u]; try rfl
theorem Pz {t:AC} {d:AT} {inj:Bool} (z:BY t) (hv:(BE t).2=0) (y:GF t d):∀ (N:Nat) (c:AA) (p:Pattern) (m:AF),SizeOf.sizeOf c<=N->CV t p c->Mh t p d m->∀ n,N<=n->FM n t c d m inj=some (D6 t d inj N c m)
 | 0,c,_,_,h,_,_,_,_=>by have:=DP c; omega
 | N+1,c,p,m,h,u,D,n,J=>by
  obtain ⟨n,rfl⟩:∃ k,n=k+1:=⟨n - 1,by omega⟩;have kid:∀ (i:Int),0<=i->i<c.Kids.length->SizeOf.sizeOf (AB c.Kids i)<=N:=fun i j o=>by
   have:=D9 (AP (l:=c.Kids) j o); omega
  rw [FM,D6];by_cases A:c.Kind=2
  ·have I:=u.one (.inl A);rw [d1 (by simpa using A),d1 A,AI (by omega) (by omega),bs,Pz z hv y N _ p m (kid 0 (by omega) (by omega)) (u.kid (by omega) _ (AP (by omega) (by omega))) D n (by omega),bs];generalize D6 t d inj N (AB c.Kids 0) m=x;by_cases r:x.2=0
   ·rw [d1 (by simpa using r),d1 r]; try rfl
   ·rw [d2 (by simpa using r),d2 r];by_cases g:x.2=10
    ·rw [d1 (by simpa using g),d1 g]; try rfl
    ·rw [d2 (by simpa using g),d2 g]; try rfl
  rw [d2 (by simpa using A),d2 A];by_cases E:c.Kind=3
  ·rw [d1 (by simpa using E),d1 E];have G:=u.few;rw [Tk (Lk fun k=>D6 t d inj N k m) PN (show PN 0 (zP,zP) from rfl)]
   ·unfold RH;show thenR (some (EW (Lk fun k=>D6 t d inj N k m) c.Kids (zP,zP))) _ _=_;cases EW (Lk fun k=>D6 t d inj N k m) c.Kids (zP,zP) <;> rfl
   ·intro i st j o hi;unfold PN at hi;rw [AI j o,bs,Pz z hv y N _ p m (kid i j o) (u.kid (by omega) _ (AP j o)) D n (by omega),bs];dsimp only [Lk];by_cases r:(D6 t d inj N (AB c.Kids i) m).2=0
    ·rw [d2 (by simp [r]),d2 (by simp [r]),B7 (by simp; unfold BM; omega),bs];refine ⟨rfl,fun s' e=>?_⟩;cases e;unfold PN;simp; omega
    ·rw [d1 (by simp [r]),d1 r];exact ⟨rfl,fun s' e=>by cases e⟩
  rw [d2 (by simpa using E),d2 E];by_cases F:c.Kind=4
  ·rw [d1 (by simpa using F),d1 F];rw [Kj (fun _=>zP) (fun i=>if (D6 t d inj N (AB c.Kids i) m).2≠10 then some (⟨i,zM,[(D6 t d inj N (AB c.Kids i) m).1]⟩,(D6 t d inj N (AB c.Kids i) m).2) else none) (by omega) rfl]
   ·cases fst (fun i=>if (D6 t d inj N (AB c.Kids i) m).2≠10 then some ((⟨i,zM,[(D6 t d inj N (AB c.Kids i) m).1]⟩:A1),(D6 t d inj N (AB c.Kids i) m).2) else none) 0 c.Kids.length <;> rfl
   ·intro i j o _;rw [AI j o,bs,Pz z hv y N _ p m (kid i j o) (u.kid (by omega) _ (AP j o)) D n (by omega),bs];generalize D6 t d inj N (AB c.Kids i) m=x;by_cases g:x.2=10
    ·rw [d2 (by simp [g]),d2 (by simp [g])]; try rfl
    ·rw [d1 (by simp [g]),d1 g]; try rfl
  rw [d2 (by simpa using F),d2 F];by_cases w:c.Kind=5
  ·rw [d1 (by simpa using w),d1 w];have hi:=u.ins w;have I:=u.one (.inr w);rw [ak z hv y D hi,bs];by_cases C:(BV t c d m inj).2=0
   ·obtain ⟨g,H⟩:=NW hv y D hi C;rw [d2 (by simp [C]),d2 (by simp [C])];generalize (BV t c d m inj).1=l at g H;rw [Kj (fun _=>zP) (fun i=>if (D6 t d inj N (AB c.Kids 0) (AB l i)).2≠10 then some (⟨0,AB l i,[(D6 t d inj N (AB c.Kids 0) (AB l i)).1]⟩,(D6 t d inj N (AB c.Kids 0) (AB l i)).2) else none) (by omega) rfl]
    ·cases fst (fun i=>if (D6 t d inj N (AB c.Kids 0) (AB l i)).2≠10 then some ((⟨0,AB l i,[(D6 t d inj N (AB c.Kids 0) (AB l i)).1]⟩:A1),(D6 t d inj N (AB c.Kids 0) (AB l i)).2) else none) 0 l.length <;> rfl
    ·intro i j o _;rw [AI (by omega) (by omega),bs,AI j o,bs,Pz z hv y N _ c.Pattern _ (kid 0 (by omega) (by omega)) (u.kid5 w _ (AP (by omega) (by omega))) (H _ (AP j o)) n (by omega),bs];generalize D6 t d inj N (AB c.Kids 0) (AB l i)=x;by_cases g:x.2=10
     ·rw [d2 (by simp [g]),d2 (by simp [g])]; try rfl
     ·rw [d1 (by simp [g]),d1 g]; try rfl
   ·rw [d1 (by simp [C]),d1 C]; try rfl
  rw [d2 (by simpa using w),d2 w]; try rfl
end Go.Sf.Sc
namespace Go.Sf.Sc
open Go Go.Sf
variable {a b:Int}
theorem Pw {c:Int->dD} {v w:Int} (d:w≠v) (h:∀ i,c i≠some v):(fst c a b).getD w≠v:=by
 cases g:fst c a b with
 | none=>exact d
 | some r=>
  obtain ⟨i,_,_,k,_⟩:=C1 g;simp only [Option.getD_some];exact fun e=>h i (by rw [k,e])
variable {e v:Int}
theorem ZH (h:e≠v):nz e≠some v:=by
 unfold nz;split
 ·simp
 ·simpa using h
theorem Kk (g:Graph):DK g≠10:=by
 unfold DK;split
 ·decide
 ·split
  ·decide
  ·split <;> decide
theorem Xp (l:List ByteArray):J4 l≠10:=by
 unfold J4;split
 ·decide
 ·refine Pw (by decide) (fun i=>?_);split
  ·decide
  ·split <;> decide
theorem Yx (l:List Attr) (k:Int):MC l k≠10:=by
 have:=Xp (AB l k).Names;unfold MC;dsimp only;split
 ·decide
 split
 ·decide
 split
 ·split <;> decide
 split
 ·exact this
 split <;> decide
theorem ZG (t:AC) (i:Int):I9 t i≠10:=by
 unfold I9;dsimp only;split
 ·decide
 split
 ·decide
 split
 ·decide
 split
 ·decide
 exact Pw (by decide) (fun i=>ZH (Yx _ _))
theorem Y5 (t:AC) (i:Int):Jp t i≠10:=by
 unfold Jp;dsimp only;split
 ·decide
 split
 ·decide
 split <;> decide
theorem T2 {α:Type} {x r:α} (h:(nz e).map (fun e=>(x,e))=some (r,(10:Int))):e=10:=by
 unfold nz at h;split at h
 ·cases h
 ·simp only [Option.map_some,zzY,Prod.mk.injEq] at h; exact h.2
theorem Qx (t:AC):(BE t).2≠10:=by
 unfold BE;split
 ·decide
 split
 ·decide
 split
 ·rename_i r d;obtain ⟨i,_,_,k,_⟩:=C1 d;intro e;obtain ⟨g,j⟩:=r;simp only at e;subst e;exact ZG t i (T2 k)
 ·cases d:fst (fun i=>(nz (Jp t i)).map fun e=>((AB t.Edges i).Name,e)) 0 t.Edges.length with
  | none=>decide
  | some r=>
   obtain ⟨i,_,_,k,_⟩:=C1 d;intro e;obtain ⟨g,j⟩:=r;simp only [Option.getD_some] at e;subst e;exact Y5 t i (T2 k)
theorem Zr (n:Int) (x:Test):MJ n x≠10:=by
 unfold MJ;split
 ·decide
 ·split <;> decide
theorem Xz (n:Int) (l:List Test):JX n l≠10:=by
 unfold JX;split
 ·decide
 split
 ·decide
 exact Pw (by decide) (fun i=>ZH (Zr _ _))
theorem SD (t:AC) (p:Pattern):J5 t p≠10:=by
 have d:=Qx t;have g:=Kk p.Graph;have j:=Xz p.Vars p.Tests;unfold J5;split
 ·exact d
 split
 ·exact g
 split
 ·decide
 split
 ·decide
 split
 ·decide
 split
 ·decide
 split
 ·exact j
 split <;> decide
theorem aJ (t:AC) (q:Pattern) (v:Int):MM t q v≠10:=by
 have:=SD t q;unfold MM;split
 ·exact this
 ·split <;> decide
theorem Xo (a b:Graph) (m:Morphism) (i:Int):Kd a b m i≠some 10:=by
 unfold Kd;split
 ·decide
 ·split <;> decide
theorem So (a b:Graph) (m:Morphism) (i:Int):Hz a b m i≠some 10:=by
 unfold Hz;split
 ·decide
 ·split
  ·decide
  ·split <;> decide
theorem Xe (t:AC) (a b:Graph) (m:Morphism) (i:Int):Jx t a b m i≠some 10:=by
 unfold Jx;split
 ·decide
 ·split <;> decide
theorem Wc {c:Int->dD} {d:Int} (h:∀ i,c i≠some 10) (g:d≠10):(match fst c a b with | some e=>e | none=>d)≠10:=by
 cases j:fst c a b with
 | none=>exact g
 | some r=>
  obtain ⟨i,_,_,k,_⟩:=C1 j;exact fun e=>h i (by rw [k]; exact congrArg some e)
theorem aP (a b:Graph) (m:Morphism):MN a b m≠10:=by
 have d:=Kk a;have g:=Kk b;unfold MN;split
 ·exact d
 split
 ·exact g
 split
 ·decide
 exact Wc (Xo a b m) (Pw (by decide) (So a b m))
theorem T6 (t:AC):∀ (N:Nat) (p:Pattern) (c:AA),HE N t p c≠10
 | 0,_,_=>by rw [HE]; decide
 | N+1,p,c=>by
  have d:∀ q,(fst (fun i=>nz (HE N t q (AB c.Kids i))) 0 c.Kids.length).getD 0≠10:=fun q=>Pw (by decide) (fun i=>ZH (T6 t N q _));have g:=aJ t c.Pattern p.Vars;have j:=aP p.Graph c.Pattern.Graph c.Map;rw [HE];split
  ·split
   ·decide
   split
   ·exact g
   split
   ·exact j
   split
   ·decide
   exact d _
  ·exact d _
theorem Y3 (t:AC) (p:Pattern) (c:AA):H3 t p c≠10:=by
 have d:=SD t p;have g:=T6 t (SizeOf.sizeOf c) p c;unfold H3;split
 ·exact d
 split
 ·unfold LO;split
  ·decide
  ·split <;> decide
 ·exact g
theorem Tr (t:AC) (h:AT):(My t h).2≠10:=by
 have g:=Qx t;have j:=Kk h.Graph;have o:∀ i,JP t (AB h.Graph.Nodes i) (AB h.Values i)≠10:=by
  intro i;unfold JP;split
  ·decide
  split
  ·decide
  split
  ·decide
  split <;> decide
 have u:∀ i,J2 t h.Graph i≠10:=by
  intro i;unfold J2;split
  ·decide
  split <;> decide
 unfold My;split
 ·exact g
 split
 ·exact j
 split
 ·decide
 split
 ·rename_i r d;obtain ⟨i,_,_,k,_⟩:=C1 d;intro e;obtain ⟨w,x⟩:=r;simp only at e;subst e;exact o i (T2 k)
 ·cases d:fst (fun i=>(nz (J2 t h.Graph i)).map fun e=>(i,e)) 0 h.Graph.Edges.length with
  | none=>decide
  | some r=>
   obtain ⟨i,_,_,k,_⟩:=C1 d;intro e;obtain ⟨w,x⟩:=r;simp only [Option.getD_some] at e;subst e;exact u i (T2 k)
theorem Xm (t:AC) (p g:Graph):HU t p g≠10:=by
 have d:=Qx t;have j:=Kk p;have k:=Kk g;unfold HU;split
 ·exact d
 split
 ·exact j
 split
 ·exact k
 split <;> decide
theorem Uq (t:AC) (p g:Graph) (m:Morphism) (inj:Bool):Mq t p g m inj≠10:=by
 have d:=Xm t p g;have j:NC t p g m≠10:=by
  unfold NC;split
  ·decide
  exact Wc (Xe t p g m) (Pw (by decide) (So p g m))
 unfold Mq;split
 ·exact d
 split
 ·exact j
 split <;> decide
theorem cz {ρ:Type} {v:ρ} {h:AT} {m:Morphism}:∀ (l:List EI) (st:Ne × d0) (r:ρ),EW (EX v h m) l st=.inr r->r=v:=by
 intro l
 induction l with
 | nil=>intro st r h; cases h
 | cons a l g=>
  intro st r h;rw [EW] at h;split at h
  ·exact g _ _ h
  ·cases h
  ·rename_i j d;cases h;unfold EX at d;split at d
   ·cases d
   ·cases d; rfl
theorem Zh (t:AC) (p:Pattern) (h:AT) (m:Morphism):(Ld t p h m).2≠10:=by
 have g:=SD t p;have j:=Tr t h;have k:=Uq t p.Graph h.Graph m false;have o:M3 t p h≠10:=by
  unfold M3;split
  ·exact g
  ·exact j
 unfold Ld;split
 ·exact o
 split
 ·exact k
 unfold LP;split
 ·rename_i r d;rw [cz _ _ _ d]; decide
 ·split
  ·decide
  ·show (0:Int)≠10;decide
noncomputable def NL (t:AC) (p:Pattern) (c:AA) (h:AT) (m:AF) (inj:Bool):Int:=
 if H3 t p c≠0 then H3 t p c else if (My t h).2≠0 then (My t h).2 else if Mq t p.Graph h.Graph m.Morphism inj≠0 then Mq t p.Graph h.Graph m.Morphism inj else
 if (Ld t p h m.Morphism).2≠0 then (Ld t p h m.Morphism).2 else if (Ld t p h m.Morphism).1=m.Vars then 0 else 11
theorem V6 (t:AC) (p:Pattern) (c:AA) (h:AT) (m:AF) (inj:Bool):NL t p c h m inj≠10:=by
 have d:=Y3 t p c;have g:=Tr t h;have j:=Uq t p.Graph h.Graph m.Morphism inj;have k:=Zh t p h m.Morphism;unfold NL;split
 ·exact d
 split
 ·exact g
 split
 ·exact j
 split
 ·exact k
 split <;> decide
variable {c:AA}
theorem cm {t:AC} (d:BY t) (p:Pattern) (g:EE c) (h:AT) (m:AF) (inj:Bool):F6 t p c h m inj=some (NL t p c h m inj):=by
 unfold F6 NL;rw [fm d p g,bs];refine Ib fun _=>?_;rw [aZ d,bs];refine Ib fun _=>?_;rw [YT d,bs];refine Ib fun _=>?_;rw [fk d,bs];refine Ib fun _=>?_;rw [eJ,bs];by_cases e:(Ld t p h m.Morphism).1=m.Vars
 ·rw [d2 (by simp [e]),d1 e]
 ·rw [d1 (by simp [e]),d2 e]
theorem cq {t:AC} (g:BY t) (p:Pattern) (k:EE c) (h:AT) (m:AF) (inj:Bool):L9 t p c h m inj=some (NL t p c h m inj):=by
 unfold L9 NL;rw [Wv g p k,bs];refine Ib fun _=>?_;rw [am g,bs];refine Ib fun _=>?_;unfold Nv;rw [YZ g,bs];have e:∀ o:dD,(o.bind fun j=>some j)=o:=fun o=>by cases o <;> rfl
 rw [e];refine Ib fun _=>?_;rw [gA g,bs,f0];by_cases d:(Ld t p h m.Morphism).2=0
 ·rw [d1 (by simpa using d),d2 (by simp [d])];by_cases e:(Ld t p h m.Morphism).1=m.Vars
  ·rw [d1 e]; simp [e,d]
  ·rw [d2 e]; simp [e]
 ·rw [d2 (by simpa using d),d1 d]; rfl
variable {p:Pattern}
theorem Y1 {t:AC} (D:BY t) (E:cnt c<=40) {h:AT} {m:AF} {inj:Bool} (e:NL t p c h m inj=0):(BE t).2=0∧GF t h∧CV t p c∧Mh t p h m:=by
 unfold NL at e;split at e
 ·rename_i d; exact absurd e d
 rename_i d;split at e
 ·rename_i o; exact absurd e o
 rename_i o;split at e
 ·rename_i r; exact absurd e r
 rename_i r;split at e
 ·rename_i g; exact absurd e g
 rename_i g;split at e
 case isFalse=>cases e
 rename_i w;have d:=Classical.not_not.1 d;have o:=Classical.not_not.1 o;have r:=Classical.not_not.1 r;have g:=Classical.not_not.1 g;obtain ⟨hv,C⟩:=YI D o;have A:=(aD r).2;unfold H3 at d;split at d
 ·rename_i x; exact absurd d x
 rename_i x;split at d
 ·rename_i j; exact absurd d j
 rename_i j;have z:=ZR hv (.inl (Classical.not_not.1 x));have j:=Classical.not_not.1 j;have F:bh c=true:=by
  unfold LO at j;split at j
  ·cases j
  ·rename_i u; simpa using u
 suffices k:(m.Vars.length:Int)=p.Vars∧NQ m.Vars from ⟨hv,C,eA hv _ c p (d3 _) E F d,z,A,k.1,k.2⟩
 have k:∀ s∈p.Slots,Iw p.Vars h m.Morphism s:=fun s k=>Nh (HC hv) z C A k;unfold Ld at g w;split at g
 ·rename_i u; exact absurd g u
 rename_i u;rw [d2 u] at w;split at g
 ·rename_i y; exact absurd g y
 rename_i y;rw [d2 y] at w;have:=bN z k g;rw [w] at this;exact this
end Go.Sf.Sc
namespace Go.Sf.Sc
open Go Go.Sf
def LZ:Nat->AA->Bool
 | 0,_=>true
 | N+1,c=>if anyR (fun i=>!LZ N (AB c.Kids i)) 0 c.Kids.length=true then false else decide (A4 ((c.Pattern.Graph.Nodes.length:Int)+c.Pattern.Graph.Edges.length)<=6)
theorem VN:∀ (N:Nat) (c:AA),SizeOf.sizeOf c<=N->∀ n,N<=n->Hx n c=some (LZ N c)
 | 0,c,h,_,_=>by have:=DP c; omega
 | N+1,c,h,n,j=>by
  obtain ⟨n,rfl⟩:∃ k,n=k+1:=⟨n - 1,by omega⟩;rw [Hx,LZ,CR (fun i=>!LZ N (AB c.Kids i)) false]
  ·cases anyR (fun i=>!LZ N (AB c.Kids i)) 0 c.Kids.length <;> rfl
  ·intro i d g _;have:=D9 (AP (l:=c.Kids) d g);rw [AI d g,bs,VN N _ (by omega) n (by omega),bs,J3]
theorem Wz (c:AA):O2 c=some (LZ (SizeOf.sizeOf c) c):=E9 (SizeOf.sizeOf c) fun n d=>VN _ c (d3 _) n d
def MO (a:Int):Nat->Int->Int
 | 0,s=>s
 | k+1,s=>A4 (MO a k s*a)
theorem eO {a b k s:Int} (j:0<=k) (g:k<=1000) (o:b<=1000):I7 (ρ:=Bool) (fun (d:Int × Int)=>
  if (decide (d.2<b))=true then
  some (.next (A4 (d.1*a),A4 (d.2+1)))
  else
  some (.brk (d.1,d.2))) (s,k)=some (.inl (MO a (max k b - k).toNat s,max k b)):=by
 refine UN (fun i=>MO a (i - k).toNat s) (by omega) (by rw [show (k - k).toNat=0 by omega]; rfl) (fun i r u=>?_) ?_
 ·rw [d1 (by simp; omega),show (i+1 - k).toNat=(i - k).toNat+1 by omega,MO];dsimp only;rw [BI (n:=i+1) (by omega) (by omega)]
 ·rw [d2 (by simp; omega)]
def Ls (a b:Int):Nat->Pattern->AA->Bool
 | 0,_,_=>true
 | N+1,p,c=>
  let q:=if c.Kind=5 then c.Pattern else p
  if anyR (fun i=>!Ls a b N q (AB c.Kids i)) 0 c.Kids.length=true then false else
  decide (MO b (max (p.Graph.Edges.length:Int) q.Graph.Edges.length - p.Graph.Edges.length).toNat (MO a (max (p.Graph.Nodes.length:Int) q.Graph.Nodes.length - p.Graph.Nodes.length).toNat 1)<=5000)
theorem Wu (a b:Int):∀ (N:Nat) (c:AA) (p:Pattern),SizeOf.sizeOf c<=N->EE c->P9 p->∀ n,N<=n->FU n p c a b=some (Ls a b N p c)
 | 0,c,_,h,_,_,_,_=>by have:=DP c; omega
 | N+1,c,p,h,o,z,n,L=>by
  obtain ⟨n,rfl⟩:∃ k,n=k+1:=⟨n - 1,by omega⟩;have F:=o.q.nodes;have G:=o.q.edges;have H:=z.nodes;have I:=z.edges;have d:∀ q:Pattern,P9 q->(thenR (I7 (ρ:=Bool) (fun (g:Int × Int)=>
    if (decide (g.2<(q.Graph.Nodes.length:Int)))=true then
    some (.next (A4 (g.1*a),A4 (g.2+1)))
    else
    some (.brk (g.1,g.2))) (1,(p.Graph.Nodes.length:Int))) (fun g=>
    thenR (I7 (ρ:=Bool) (fun (s2:Int × Int)=>
    if (decide (s2.2<(q.Graph.Edges.length:Int)))=true then
    some (.next (A4 (s2.1*b),A4 (s2.2+1)))
    else
    some (.brk (s2.1,s2.2))) (g.1,(p.Graph.Edges.length:Int))) (fun s2=>
    thenR (forR (ρ:=Bool) (fun (A:Int) (_:Unit)=>
    (AM c.Kids A).bind fun r=>
    (FU n q r a b).bind fun u=>
    if (!u)=true then
    some (.ret false)
    else
    some (.next ())) 0 (c.Kids.length:Int) ()) (fun _=>
    some (decide (s2.1<=5000))) (fun C=>some C)) (fun D=>some D)) (fun E=>some E)) =
    some (if anyR (fun i=>!Ls a b N q (AB c.Kids i)) 0 c.Kids.length=true then false else
     decide (MO b (max (p.Graph.Edges.length:Int) q.Graph.Edges.length - p.Graph.Edges.length).toNat (MO a (max (p.Graph.Nodes.length:Int) q.Graph.Nodes.length - p.Graph.Nodes.length).toNat 1)<=5000)):=by
   intro q w;have J:=w.nodes;have K:=w.edges;rw [eO (by omega) (by omega) (by omega),DX];dsimp only;rw [eO (by omega) (by omega) (by omega),DX,CR (fun i=>!Ls a b N q (AB c.Kids i)) false]
   ·cases anyR (fun i=>!Ls a b N q (AB c.Kids i)) 0 c.Kids.length <;> rfl
   ·intro i x y _;have:=D9 (AP (l:=c.Kids) x y);rw [AI x y,bs,Wu a b N _ q (by omega) (o.k _ (AP x y)) w n (by omega),bs,J3]
  rw [FU,Ls];by_cases j:c.Kind=5
  ·rw [d1 (by simpa using j),d1 j,bs,d _ o.q]
  ·rw [d2 (by simpa using j),d2 j,bs,d _ z]
variable {c:AA} {p:Pattern}
theorem VK (a b:Int) (d:EE c) (g:P9 p):OM p c a b=some (Ls a b (SizeOf.sizeOf c) p c):=E9 (SizeOf.sizeOf c) fun n j=>Wu a b _ c p (d3 _) d g n j
theorem WH (h:AT):∃ b,Mc h=some b:=by
 unfold Mc KI;rw [bs];split
 ·exact ⟨_,rfl⟩
 ·rw [CR (fun i=>decide (12<((AB h.Values i).length:Int))) false]
  ·cases anyR (fun i=>decide (12<((AB h.Values i).length:Int))) 0 h.Values.length
   ·exact ⟨true,rfl⟩
   ·exact ⟨false,rfl⟩
  ·intro i d g _;rw [AI d g,bs,J3]
theorem VM {t:AC} (d:BY t) (st:(AV t).Sm) (p g:Graph):∃ b,L3 t p g=some b:=by
 obtain ⟨b,e,_⟩:=Uw st;unfold L3 KI;rw [e,bs,TH d];simp only [bs];cases b <;> simp only [Bool.false_eq_true,if_false,if_true,bs]
 ·exact ⟨_,rfl⟩
 ·split <;> (rw [bs]; split <;> exact ⟨_,rfl⟩)
theorem ap {t:AC} (j:BY t) (st:(AV t).Sm) (p:Pattern) (w:(AE c).Sm) (h:AT):∃ b,E0 t p c h=some b∧(b=true->EE c∧cnt c<=40∧P9 p):=by
 obtain ⟨x,y,z⟩:=Uu w;obtain ⟨A,r,C⟩:=UV p;obtain ⟨D,u⟩:=WH h;unfold E0;rw [y,bs];cases x
 ·exact ⟨false,rfl,fun h=>by cases h⟩
 rw [r];cases A
 ·exact ⟨false,rfl,fun h=>by cases h⟩
 rw [u];cases D
 ·exact ⟨false,rfl,fun h=>by cases h⟩
 have g:=z rfl;have k:=C rfl;simp only [bs,Bool.not_true,Bool.false_eq_true,if_false];rw [Wv j p g.1,bs];have d:∀ o:ca,(∃ b,o=some b)->∃ b,o=some b∧(b=true->EE c∧cnt c<=40∧P9 p):=fun o ⟨b,e⟩=>⟨b,e,fun _=>⟨g.1,g.2,k⟩⟩;refine d _ ?_;split
 ·exact ⟨true,rfl⟩
 ·obtain ⟨E,F⟩:=VM j st p.Graph h.Graph;unfold L5;rw [r,u,F,Wz,VK 14 18 g.1 k];simp only [bs,if_true];cases E <;> simp only [Bool.false_eq_true,if_false,if_true,bs,Bool.false_and]
  ·exact ⟨_,rfl⟩
  ·split
   ·exact ⟨_,rfl⟩
   ·exact ⟨_,rfl⟩
noncomputable def wS (t:AC) (p:Pattern) (c:AA) (h:AT) (m:AF) (inj:Bool):A1 × Int:=
 if NL t p c h m inj≠0 then (zP,NL t p c h m inj) else DS t h inj (SizeOf.sizeOf c) c m
theorem ah {t:AC} (d:BY t) (p:Pattern) (j:EE c) (k:cnt c<=40) (h:AT) (m:AF) (inj:Bool):E2 t p c h m inj=some (wS t p c h m inj):=by
 unfold E2 wS;rw [cm d p j,bs];refine K8 fun o=>?_;obtain ⟨hv,u,g,w⟩:=Y1 d k o;rw [show E7 (A8.mk t h inj) c m=some (DS t h inj (SizeOf.sizeOf c) c m) from E9 (2*SizeOf.sizeOf c) fun n r=>T7 (s:=⟨t,h,inj⟩) d hv u _ c p m (d3 _) g w n r];rfl
noncomputable def Ij (t:AC) (p:Pattern) (c:AA) (h:AT) (m:AF) (inj:Bool):Bool × Int:=
 if (wS t p c h m inj).2=10 then (false,0) else (decide ((wS t p c h m inj).2=0),(wS t p c h m inj).2)
theorem Sr {t:AC} (d:BY t) (p:Pattern) (g:EE c) (j:cnt c<=40) (h:AT) (m:AF) (inj:Bool):C7 t p c h m inj=some (Ij t p c h m inj):=by
 unfold C7 Ij;rw [ah d p g j,bs];by_cases e:(wS t p c h m inj).2=10
 ·rw [d1 (by simpa using e),d1 e]
 ·rw [d2 (by simpa using e),d2 e]
theorem Ww {t:AC} (g:BY t) {h:AT} {inj:Bool} {m:AF} (hv:(BE t).2=0) (j:GF t h) (d:CV t p c) (k:Mh t p h m):Pm t c h m inj=some (D6 t h inj (SizeOf.sizeOf c) c m):=E9 (SizeOf.sizeOf c) fun n o=>Pz g hv j _ c p m (d3 _) d k n o
theorem Xv {t:AC} (g:BY t) (p:Pattern) (o:EE c) (r:cnt c<=40) (h:AT) (m:AF) (inj:Bool):JV t p c h m inj=some (Ij t p c h m inj):=by
 unfold JV Ij;rw [cq g p o,bs];have u:=V6 t p c h m inj;by_cases d:NL t p c h m inj=0
 ·have j:(wS t p c h m inj).2=(D6 t h inj (SizeOf.sizeOf c) c m).2:=by unfold wS; rw [d2 (by simp [d]),Uh,Wh]
  rw [d2 (by simp [d]),j];obtain ⟨hv,w,k,x⟩:=Y1 g r d;unfold Kt;rw [Ww g hv w k x,bs];by_cases e:(D6 t h inj (SizeOf.sizeOf c) c m).2=10
  ·rw [d1 (by simpa using e),d1 e]; rfl
  ·rw [d2 (by simpa using e),d2 e]; rfl
 ·have j:(wS t p c h m inj).2=NL t p c h m inj:=by unfold wS; rw [d1 d]
  rw [d1 (by simp [d]),j,d2 u];simp [d]
end Go.Sf.Sc
namespace Go.Sf.Sc
open Go Go.Sf
end Go.Sf.Sc
namespace Go.Sf.Sc
open Go Go.Sf
end Go.Sf.Sc
namespace Go.Sf.Sc
open Go Go.Sf
def FZ:Ne->Nat
 | []=>0
 | x::l=>(if x<0 then 1 else 0)+FZ l
variable {B:Nat}
theorem NX {α β:Type} {F:α->List β}:∀ {l:List α},(∀ k∈l,(F k).length<=B)->(l.flatMap F).length<=l.length*B
 | [],_=>by simp
 | a::l,h=>by
  have:=NX (F:=F) (l:=l) fun k d=>h k (by simp [d]);have:=h a (by simp);rw [List.flatMap_cons,d4,d6,Nat.succ_mul];omega
theorem Ti {α β:Type} {F:α->List β}:∀ {l:List α},(∀ k∈l,F k=[])->l.flatMap F=[]
 | [],_=>rfl
 | a::l,h=>by rw [List.flatMap_cons,h a (by simp),Ti fun k d=>h k (by simp [d])]; rfl
theorem R1 {α β:Type} {F:α->List β} {a:α}:∀ {l:List α},l.Nodup->(∀ k∈l,k≠a->F k=[])->(F a).length<=B->(l.flatMap F).length<=B
 | [],_,_,_=>by simp
 | b::l,g,h,j=>by
  rw [List.nodup_cons] at g;rw [List.flatMap_cons,d4];by_cases e:b=a
  ·subst e;rw [Ti fun k d=>h k (by simp [d]) fun e=>g.1 (e ▸ d)];simpa using j
  ·rw [h b (by simp) e];have:=R1 g.2 (fun k d=>h k (by simp [d])) j;simpa using this
theorem UL (n:Nat):(BJ n).Nodup:=by
 induction n with
 | zero=>simp [BJ]
 | succ n j=>
  rw [LS,List.nodup_append];refine ⟨j,by simp,fun a d b g e=>?_⟩;rw [List.mem_singleton] at g;have:=Hu.1 d;omega
theorem WC {l:Ne} {k:Nat} (h:k<l.length):l.drop k=AB l k::l.drop (k+1):=by
 rw [List.drop_eq_getElem_cons h];congr 1;unfold AB;rw [List.getD_eq_getElem?_getD,List.getElem?_eq_getElem (by omega)]; rfl
theorem ia:∀ (n:Nat) (f:AN),f.edges.length+n=f.partial_.Edges.length->(FB n f).length<=f.g.Edges.length ^ FZ (f.partial_.Edges.drop f.edges.length)
 | 0,f,h=>by
  rw [List.drop_of_length_le (by omega)];simp [FB,FZ]
 | n+1,f,h=>by
  have u:=WC (l:=f.partial_.Edges) (k:=f.edges.length) (by omega);have o:∀ k,(if PU f k=true then FB n { f with edges:=f.edges++[k] } else []).length<=f.g.Edges.length ^ FZ (f.partial_.Edges.drop (f.edges.length+1)):=by
   intro k;split
   ·have:=ia n { f with edges:=f.edges++[k] } (by show (f.edges++[k]).length+n=f.partial_.Edges.length; rw [d4,List.length_singleton]; omega);have e:(f.edges++[k]).length=f.edges.length+1:=by rw [d4,List.length_singleton]
    dsimp only at this
    rwa [e] at this
   ·simp
  rw [FB,u,FZ];by_cases j:AB f.partial_.Edges (f.edges.length:Int)<0
  ·rw [d1 j,Nat.pow_add,Nat.pow_one];have:=NX (l:=BJ f.g.Edges.length) (B:=f.g.Edges.length ^ FZ (f.partial_.Edges.drop (f.edges.length+1))) (fun k _=>o k)
   rwa [DN] at this
  ·rw [d2 j,Nat.zero_add];refine R1 (a:=AB f.partial_.Edges (f.edges.length:Int)) (UL _) (fun k _ r=>?_) (o _);rw [d2];intro d;unfold PU at d;rw [zzZ,Qr,zzZ,Bool.or_eq_true,zzX,zzX] at d;rcases d.1.1 with h | h
   ·exact j h
   ·exact r h.symm
theorem ib:∀ (n:Nat) (f:AN),f.edges=[]->f.p.Edges.length=f.partial_.Edges.length->f.nodes.length+n=f.partial_.Nodes.length->(HO n f).length<=f.g.Nodes.length ^ FZ (f.partial_.Nodes.drop f.nodes.length)*f.g.Edges.length ^ FZ f.partial_.Edges
 | 0,f,j,r,h=>by
  rw [List.drop_of_length_le (by omega)];have:=ia f.p.Edges.length f (by rw [j,r]; simp);rw [j] at this;simpa [HO,FZ] using this
 | n+1,f,j,r,h=>by
  have x:=WC (l:=f.partial_.Nodes) (k:=f.nodes.length) (by omega);have u:∀ k,(if PV f k=true then HO n { f with nodes:=f.nodes++[k] } else []).length<=f.g.Nodes.length ^ FZ (f.partial_.Nodes.drop (f.nodes.length+1))*f.g.Edges.length ^ FZ f.partial_.Edges:=by
   intro k;split
   ·have:=ib n { f with nodes:=f.nodes++[k] } j r (by show (f.nodes++[k]).length+n=f.partial_.Nodes.length; rw [d4,List.length_singleton]; omega);have e:(f.nodes++[k]).length=f.nodes.length+1:=by rw [d4,List.length_singleton]
    dsimp only at this
    rwa [e] at this
   ·simp
  rw [HO,x,FZ];by_cases o:AB f.partial_.Nodes (f.nodes.length:Int)<0
  ·rw [d1 o,Nat.pow_add,Nat.pow_one,Nat.mul_assoc];have:=NX (l:=BJ f.g.Nodes.length) (B:=f.g.Nodes.length ^ FZ (f.partial_.Nodes.drop (f.nodes.length+1))*f.g.Edges.length ^ FZ f.partial_.Edges) (fun k _=>u k)
   rwa [DN] at this
  ·rw [d2 o,Nat.zero_add];refine R1 (a:=AB f.partial_.Nodes (f.nodes.length:Int)) (UL _) (fun k _ w=>?_) (u _);rw [d2];intro d;unfold PV at d;rw [zzZ,zzZ,Bool.or_eq_true,zzX,zzX] at d;rcases d.1.1 with h | h
   ·exact o h
   ·exact w h.symm
theorem Xl {t:AC} {p g:Graph} {d:Morphism} {inj:Bool} (k:d.Nodes.length=p.Nodes.length) (j:d.Edges.length=p.Edges.length):(Lt t p g d inj).length<=g.Nodes.length ^ FZ d.Nodes*g.Edges.length ^ FZ d.Edges:=by
 have:=ib p.Nodes.length (FF t p g d inj) rfl j.symm (by show 0+p.Nodes.length=d.Nodes.length; omega);unfold Lt;rw [d5];exact Nat.le_trans (Nat.min_le_right _ _) this
theorem We:∀ (l:Ne) (k:Nat) (v:Int),k<l.length->l.getD k default<0->0<=v->FZ (l.set k v)+1=FZ l
 | [],k,v,h,_,_=>by simp at h
 | x::l,0,v,_,d,g=>by
  simp at d;rw [List.set_cons_zero,FZ,FZ,d2 (by omega),d1 d]; omega
 | x::l,k+1,v,j,d,g=>by
  have:=We l k v (by simpa using j) (by simpa using d) g;rw [List.set_cons_succ,FZ,FZ];omega
theorem cf (n:Nat):FZ (List.replicate n (-1))=n:=by
 induction n with
 | zero=>rfl
 | succ n d=>rw [List.replicate_succ,FZ,d]; simp; omega
theorem fE {α:Type} [Inhabited α] {l:List α} {i j:Int} (v:α) (d:0<=i) (g:0<=j) (h:j≠i):AB (B1 l i v) j=AB l j:=by
 unfold AB B1;rw [List.getD_eq_getElem?_getD,List.getD_eq_getElem?_getD,List.getElem?_set];rw [d2 (by omega)]
theorem VF {by' images:Ne}:∀ (d l:Ne),(d.map (AB by')).Nodup->(∀ k∈d,(0<=AB by' k∧AB by' k<l.length)∧AB l (AB by' k)<0∧0<=AB images k)->FZ (d.foldl (fun l i=>B1 l (AB by' i) (AB images i)) l)+d.length=FZ l
 | [],l,_,_=>by simp
 | k::d,l,g,h=>by
  obtain ⟨u,w,x⟩:=h k (by simp);rw [List.map_cons,List.nodup_cons] at g;have e:=We l (AB by' k).toNat (AB images k) (by omega) w x;have A:=VF (by':=by') (images:=images) d (B1 l (AB by' k) (AB images k)) g.2 (fun j o=>by
   obtain ⟨r,y,z⟩:=h j (by simp [o]);refine ⟨by rw [O3]; exact r,?_,z⟩;rw [fE _ u.1 r.1]
   ·exact y
   ·intro e;exact g.1 (List.mem_map.2 ⟨j,o,e⟩))
  rw [List.foldl_cons,d6];have C:FZ (B1 l (AB by' k) (AB images k))+1=FZ l:=e;omega
theorem XS (l:Ne):(BJ l.length).map (AB l)=l:=by
 refine Z8 (by rw [d7,DN]) (fun i g d=>?_);rw [d7,DN] at d;exact Mg _ g d
variable {n:Nat}
theorem Ty {by' images:Ne} (j:by'.Nodup) (o:∀ x∈by',0<=x∧x<n) (hi:∀ k:Int,0<=k->k<by'.length->0<=AB images k):FZ (I1 n by' images)+by'.length=n:=by
 have:=VF (by':=by') (images:=images) (BJ by'.length) (List.replicate n (-1)) (by rw [XS]; exact j) (fun k d=>by
  have d:=Hu.1 d;have g:=o _ (AP d.1 d.2);refine ⟨by simpa using g,?_,hi k d.1 d.2⟩;have:AB (List.replicate n (-1:Int)) (AB by' k)∈List.replicate n (-1:Int):=AP g.1 (by simpa using g.2);rw [List.mem_replicate] at this;omega)
 rw [cf,DN] at this;exact this
def dt (p:Pattern) (c:AA):Prop:=14 ^ (c.Pattern.Graph.Nodes.length - p.Graph.Nodes.length)*18 ^ (c.Pattern.Graph.Edges.length - p.Graph.Edges.length)<=5000
variable {p:Pattern} {c:AA}
theorem N0 {t:AC} {h:AT} {inj:Bool} {m:AF} (hv:(BE t).2=0) (C:GF t h) (r:Mh t p h m) (hi:Vs t p c) (D:dt p c) (E:h.Graph.Nodes.length<=14) (F:h.Graph.Edges.length<=18):(BV t c h m inj).2=0:=by
 have d:=hi.inj;unfold Na at d;rw [zzZ,QG,QG] at d;have m1:=hi.map.nlen;have N:=hi.map.elen;have O:=r.m.nlen;have P:=r.m.elen;have Q:=Ty (n:=c.Pattern.Graph.Nodes.length) (images:=m.Morphism.Nodes) d.1 (fun x j=>by obtain ⟨i,y,z,rfl⟩:=ED j; exact (hi.map.node i y z).1) (fun k u w=>(r.m.node k u (by omega)).1.1);have R:=Ty (n:=c.Pattern.Graph.Edges.length) (images:=m.Morphism.Edges) d.2 (fun x j=>by obtain ⟨i,y,z,rfl⟩:=ED j; exact (hi.map.edge i y z).1) (fun k u w=>(r.m.edge k u (by omega)).1);have K:∀ o:Morphism,o.Nodes.length=c.Pattern.Graph.Nodes.length->o.Edges.length=c.Pattern.Graph.Edges.length->(∀ x∈o.Nodes,-1<=x∧x<h.Graph.Nodes.length)->(∀ x∈o.Edges,-1<=x∧x<h.Graph.Edges.length)->FZ o.Nodes=c.Pattern.Graph.Nodes.length - p.Graph.Nodes.length->FZ o.Edges=c.Pattern.Graph.Edges.length - p.Graph.Edges.length->(Ov t c.Pattern.Graph h.Graph o inj).2=0:=by
  intro o l1 l2 G H I J;unfold Ov;rw [d2,d2 (by omega),d2,d2,d2]
  ·have:=Xl (t:=t) (g:=h.Graph) (inj:=inj) l1 l2;rw [I,J] at this;have w:h.Graph.Nodes.length ^ (c.Pattern.Graph.Nodes.length - p.Graph.Nodes.length)<=14 ^ (c.Pattern.Graph.Nodes.length - p.Graph.Nodes.length):=Nat.pow_le_pow_left E _;have L:h.Graph.Edges.length ^ (c.Pattern.Graph.Edges.length - p.Graph.Edges.length)<=18 ^ (c.Pattern.Graph.Edges.length - p.Graph.Edges.length):=Nat.pow_le_pow_left F _;have S:=Nat.mul_le_mul w L;unfold dt at D;omega
  ·unfold Np;rw [d2]
   ·simp
   ·rw [List.any_eq_true];rintro ⟨x,j,e⟩;have:=H x j;unfold Oq at e;rw [Bool.or_eq_true,zzX,zzX] at e;omega
  ·unfold Np;rw [d2]
   ·simp
   ·rw [List.any_eq_true];rintro ⟨x,j,e⟩;have:=G x j;unfold Oq at e;rw [Bool.or_eq_true,zzX,zzX] at e;omega
  ·unfold HU;rw [d2 (by simp [hv]),d2 (by simp [hi.q.ge]),d2 (by simp [C.ge]),d1 (by rw [hi.q.ty,C.ty]; rfl)];simp
 have M:=K ⟨I1 c.Pattern.Graph.Nodes.length c.Map.Nodes m.Morphism.Nodes,I1 c.Pattern.Graph.Edges.length c.Map.Edges m.Morphism.Edges⟩ (T8 _ _ _) (T8 _ _ _) (fun x j=>by
  rcases T9 j with e | ⟨k,A,e⟩
  ·omega
  ·have:=(r.m.node k A.1 (by omega)).1; omega) (fun x j=>by
  rcases T9 j with e | ⟨k,A,e⟩
  ·omega
  ·have:=r.m.edge k A.1 (by omega); omega) (by show FZ (I1 _ _ _)=_; omega) (by show FZ (I1 _ _ _)=_; omega)
 unfold BV;dsimp only;rw [d2 (by rw [M]; simp)]
end Go.Sf.Sc
namespace Go.Sf.Sc
open Go Go.Sf
def QW (t:AC) (p:Pattern) (c:AA):Int:=
 if c.Pattern.Vars<p.Vars then 20 else if MM t c.Pattern p.Vars≠0 then MM t c.Pattern p.Vars else
 if MN p.Graph c.Pattern.Graph c.Map≠0 then MN p.Graph c.Pattern.Graph c.Map else if Na c.Map=false then 1 else 0
inductive CG (t:AC):Pattern->AA->Prop where
 | mk (p:Pattern) (c:AA) (ex:c.Kind=5->QW t p c=0∧dt p c) (kids:∀ k∈c.Kids,CG t (if c.Kind=5 then c.Pattern else p) k):CG t p c
variable {p:Pattern} {c:AA}
theorem CG.ex {t:AC} (h:CG t p c):c.Kind=5->QW t p c=0∧dt p c:=by cases h; assumption
theorem CG.kids {t:AC} (h:CG t p c):∀ k∈c.Kids,CG t (if c.Kind=5 then c.Pattern else p) k:=by cases h; assumption
theorem CG.kid {t:AC} (h:CG t p c) (d:¬ c.Kind=5):∀ k∈c.Kids,CG t p k:=fun k g=>by have:=h.kids k g; rwa [d2 d] at this
theorem CG.kid5 {t:AC} (h:CG t p c) (d:c.Kind=5):∀ k∈c.Kids,CG t c.Pattern k:=fun k g=>by have:=h.kids k g; rwa [d1 d] at this
theorem fh (t:AC) (p:Pattern) (c:AA) (N:Nat):HE (N+1) t p c=if c.Kind=5∧QW t p c≠0 then QW t p c else (fst (fun i=>nz (HE N t (if c.Kind=5 then c.Pattern else p) (AB c.Kids i))) 0 c.Kids.length).getD 0:=by
 rw [HE];by_cases d:c.Kind=5
 ·rw [d1 d,d1 d];unfold QW;by_cases k:c.Pattern.Vars<p.Vars
  ·rw [d1 k,d1 k,d1 ⟨d,by decide⟩]
  rw [d2 k,d2 k];by_cases g:MM t c.Pattern p.Vars≠0
  ·rw [d1 g,d1 g,d1 ⟨d,g⟩]
  rw [d2 g,d2 g];by_cases j:MN p.Graph c.Pattern.Graph c.Map≠0
  ·rw [d1 j,d1 j,d1 ⟨d,j⟩]
  rw [d2 j,d2 j];by_cases o:Na c.Map=false
  ·rw [d1 o,d1 o,d1 ⟨d,by decide⟩]
  rw [d2 o,d2 o,d2 (by simp)]
 ·rw [d2 d,d2 d,d2 (by simp [d])]
theorem UX {a:Nat} (d:a<=18) (g:1<=a) {s:Nat}:∀ k:Nat,(∀ j,j<=k->a ^ j*s<=18 ^ 6)->MO a k s=((a ^ k*s:Nat):Int)
 | 0,_=>by simp [MO]
 | k+1,h=>by
  have e:=UX d g (s:=s) k fun j r=>h j (by omega);have b:=h (k+1) (d3 _);rw [MO,e];have o:((a ^ k*s:Nat):Int)*(a:Int)=((a ^ (k+1)*s:Nat):Int):=by
   rw [Nat.pow_succ]; push_cast; rw [Int.mul_right_comm]
  rw [o,BI (by omega) (by
   have:((18:Nat) ^ 6)=34012224:=by decide
   omega)]
variable {q:Pattern}
theorem iV (h:MO 18 (max (p.Graph.Edges.length:Int) q.Graph.Edges.length - p.Graph.Edges.length).toNat (MO 14 (max (p.Graph.Nodes.length:Int) q.Graph.Nodes.length - p.Graph.Nodes.length).toNat 1)<=5000) (z:q.Graph.Nodes.length+q.Graph.Edges.length<=6) :
  14 ^ (q.Graph.Nodes.length - p.Graph.Nodes.length)*18 ^ (q.Graph.Edges.length - p.Graph.Edges.length)<=5000:=by
 have o:(max (p.Graph.Edges.length:Int) q.Graph.Edges.length - p.Graph.Edges.length).toNat=q.Graph.Edges.length - p.Graph.Edges.length:=by omega
 have r:(max (p.Graph.Nodes.length:Int) q.Graph.Nodes.length - p.Graph.Nodes.length).toNat=q.Graph.Nodes.length - p.Graph.Nodes.length:=by omega
 rw [o,r] at h;generalize A:q.Graph.Edges.length - p.Graph.Edges.length=j at *;generalize C:q.Graph.Nodes.length - p.Graph.Nodes.length=k at *;have u:k+j<=6:=by omega
 have w:∀ i,i<=k->14 ^ i*1<=18 ^ 6:=fun i hi=>by
  rw [Nat.mul_one];exact Nat.le_trans (Nat.pow_le_pow_left (by omega) i) (Nat.pow_le_pow_right (by omega) (by omega))
 have x:∀ i,i<=j->18 ^ i*(14 ^ k*1)<=18 ^ 6:=fun i hi=>by
  rw [Nat.mul_one];refine Nat.le_trans (Nat.mul_le_mul_left _ (Nat.pow_le_pow_left (by omega:14<=18) k)) ?_;rw [←Nat.pow_add];exact Nat.pow_le_pow_right (by omega) (by omega)
 have m1:=UX (a:=14) (by omega) (by omega) (s:=1) k w;have y:=UX (a:=18) (by omega) (by omega) (s:=14 ^ k*1) j x;have d:MO 14 k 1=((14 ^ k*1:Nat):Int):=m1;have g:MO 18 j ((14 ^ k*1:Nat):Int)=((18 ^ j*(14 ^ k*1):Nat):Int):=y;rw [d,g,Nat.mul_one,Nat.mul_comm] at h;omega
theorem d8 {t:AC}:∀ (N:Nat) {p:Pattern} {c:AA},SizeOf.sizeOf c<=N->(∀ M,M=N->HE M t p c=0)->Ls 14 18 N p c=true->LZ N c=true->EE c->CG t p c
 | 0,_,c,h,_,_,_,_=>by have:=DP c; omega
 | N+1,p,c,h,ho,d,u,A=>by
  have ho:=ho _ rfl;rw [fh] at ho;rw [Ls] at d;rw [LZ] at u;generalize x:(if c.Kind=5 then c.Pattern else p)=q at d
  try dsimp only at d
  split at d
  ·cases d
  rename_i j;split at u
  ·cases u
  rename_i o;rw [zzX] at d u;rw [Bool.not_eq_true,ET] at j o;have E:=A.q.nodes;have F:=A.q.edges;rw [BI (by omega) (by omega)] at u;have r:(fst (fun i=>nz (HE N t (if c.Kind=5 then c.Pattern else p) (AB c.Kids i))) 0 c.Kids.length).getD 0=0:=by
   by_cases g:c.Kind=5∧QW t p c≠0
   ·rw [d1 g] at ho; exact absurd ho g.2
   ·rwa [d2 g] at ho
  refine .mk p c (fun C=>⟨?_,?_⟩) (fun k w=>?_)
  ·by_cases g:QW t p c≠0
   ·rw [d1 ⟨C,g⟩] at ho; exact ho
   ·exact Classical.not_not.1 g
  ·rw [d1 C] at x;subst x;exact iV d (by omega)
  ·have G:=D9 w;obtain ⟨i,y,z,rfl⟩:=ED w;refine d8 N (by omega) (fun M D=>by subst D; exact Tn r i y z) ?_ ?_ (A.k _ w)
   ·have:=j i y z;rw [x];simpa using this
   ·have:=o i y z;simpa using this
mutual
def EY (t:AC) (h:AT) (inj:Bool):AA->AF->Bool
 | ⟨k,kids,mp,p⟩,m=>
  if k=2 then !((S4 t h inj kids).headD fun _=>true) m else
  if k=3 then (S4 t h inj kids).all fun f=>f m else
  if k=4 then (S4 t h inj kids).any fun f=>f m else
  if k=5 then (BV t ⟨k,kids,mp,p⟩ h m inj).1.any ((S4 t h inj kids).headD fun _=>true) else true
def S4 (t:AC) (h:AT) (inj:Bool):List AA->List (AF->Bool)
 | []=>[]
 | c::l=>EY t h inj c::S4 t h inj l
end
theorem V9 (t:AC) (h:AT) (inj:Bool):∀ l,S4 t h inj l=l.map (EY t h inj)
 | []=>rfl
 | c::l=>by rw [S4,V9 t h inj l]; rfl
theorem WA (t:AC) (h:AT) (inj:Bool) (c:AA) (m:AF):EY t h inj c m =
  if c.Kind=2 then !((c.Kids.map (EY t h inj)).headD fun _=>true) m else
  if c.Kind=3 then c.Kids.all fun k=>EY t h inj k m else
  if c.Kind=4 then c.Kids.any fun k=>EY t h inj k m else
  if c.Kind=5 then (BV t c h m inj).1.any ((c.Kids.map (EY t h inj)).headD fun _=>true) else true:=by
 cases c;rw [EY,V9,List.all_map,List.any_map];rfl
variable {β:Type}
theorem NZ {α:Type} [Inhabited α] {l:List α} {f:α->β} {d:β} (h:l.length=1):(l.map f).headD d=f (AB l 0):=by
 obtain ⟨x,rfl⟩:=List.length_eq_one_iff.1 h;rfl
theorem YH {w:Int->A1 × Int} {d:Int->Bool} {F:Int->Option (A1 × Int)} {n:Int} (x:∀ i,0<=i->i<n->(w i).2=if d i=true then 0 else 10)
  (y:∀ i,0<=i->i<n->((F i).map (·.2))=if (w i).2=0 then some 0 else if (w i).2≠10 then some (w i).2 else none):((fst F 0 n).getD (zP,10)).2=if anyR d 0 n=true then 0 else 10:=by
 cases z:fst F 0 n with
 | none=>
  have A:=DA.1 z;rw [d2]
  ·rfl
  ·rw [Bool.not_eq_true,ET];intro i j o;have g:=y i j o;rw [A i j o,x i j o] at g;cases u:d i
   ·rfl
   ·rw [u] at g; simp at g
 | some r=>
  obtain ⟨i,j,o,k,_⟩:=C1 z;have g:=y i j o;rw [k,x i j o] at g;cases u:d i
  ·rw [u] at g; simp at g
  ·rw [u] at g;rw [d1 (by rw [IW]; exact ⟨i,j,o,u⟩)];simpa using g
theorem Vz {w:AA->A1 × Int} {d:AA->Bool}:∀ (l:List AA) (s:A1 × A1),(∀ k∈l,(w k).2=if d k=true then 0 else 10)->(match EW (Lk w) l s with | .inl s=>(s.2,(0:Int)) | .inr r=>r).2=if l.all d=true then 0 else 10
 | [],s,_=>rfl
 | k::l,s,h=>by
  have g:=h k (by simp);rw [EW];unfold Lk;rw [List.all_cons];cases j:d k
  ·rw [j] at g;rw [d1 (by rw [g]; decide)];simpa using g
  ·rw [j] at g;rw [d2 (by rw [g]; decide),Bool.true_and];exact Vz l _ fun k g=>h k (by simp [g])
theorem Ug {t:AC} {h:AT} {inj:Bool} (hv:(BE t).2=0) (D:GF t h) (F:h.Graph.Nodes.length<=14) (G:h.Graph.Edges.length<=18):∀ (N:Nat) (c:AA) (p:Pattern) (m:AF),SizeOf.sizeOf c<=N->CV t p c->CG t p c->Mh t p h m->(DS t h inj N c m).2=if EY t h inj c m=true then 0 else 10
 | 0,c,_,_,h,_,_,_=>by have:=DP c; omega
 | N+1,c,p,m,L,j,x,y=>by
  have kid:∀ k∈c.Kids,SizeOf.sizeOf k<=N:=fun k d=>by have:=D9 d; omega
  have z:=Ug hv D F G (inj:=inj) N;rw [DS,WA];by_cases u:c.Kind=2
  ·have E:=j.one (.inl u);rw [d1 u,d1 u,NZ E];have d:=AP (l:=c.Kids) (i:=0) (by omega) (by omega);have e:=z _ p m (kid _ d) (j.kid (by omega) _ d) (x.kid (by omega) _ d) y;cases H:EY t h inj (AB c.Kids 0) m
   ·rw [H] at e;rw [d2 (by rw [e]; decide),d1 (by rw [e]; rfl)]; rfl
   ·rw [H] at e;rw [d1 (by rw [e]; rfl)]; rfl
  rw [d2 u,d2 u];by_cases A:c.Kind=3
  ·rw [d1 A,d1 A];exact Vz c.Kids (zP,zP) fun k d=>z k p m (kid k d) (j.kid (by omega) k d) (x.kid (by omega) k d) y
  rw [d2 A,d2 A];by_cases C:c.Kind=4
  ·rw [d1 C,d1 C,Kb];refine YH (w:=fun i=>DS t h inj N (AB c.Kids i) m) (fun i o r=>?_) (fun i o r=>?_)
   ·have d:=AP o r;exact z _ p m (kid _ d) (j.kid (by omega) _ d) (x.kid (by omega) _ d) y
   ·try dsimp only
    split
    ·rfl
    ·split <;> rfl
  rw [d2 C,d2 C];by_cases g:c.Kind=5
  ·rw [d1 g,d1 g];have hi:=j.ins g;have E:=j.one (.inr g);have I:=N0 (inj:=inj) hv D y hi (x.ex g).2 F G;obtain ⟨K,J⟩:=NW hv D y hi I;have d:=AP (l:=c.Kids) (i:=0) (by omega) (by omega);rw [d2 (by simp [I]),NZ E,Kb];refine YH (w:=fun i=>DS t h inj N (AB c.Kids 0) (AB (BV t c h m inj).1 i)) (fun i o r=>?_) (fun i o r=>?_)
   ·exact z _ c.Pattern _ (kid _ d) (j.kid5 g _ d) (x.kid5 g _ d) (J _ (AP o r))
   ·try dsimp only
    split
    ·rfl
    ·split <;> rfl
  rw [d2 g,d2 g]; rfl
end Go.Sf.Sc
namespace Go.Sf.Sc
open Go Go.Sf
section
variable (t:AC) (h:AT) (inj:Bool) (m:AF)
end
end Go.Sf.Sc
namespace Go.Sf.Sc
open Go Go.Sf
def U8 (x:Int):Prop:=0<=x∧x<256
theorem U8.w {x:Int} (h:U8 x):A4 x=x:=BI (by have:=h.1; omega) (by have:=h.2; omega)
structure Yt (n:CX) (i:Int):Prop where
 name:n.Name.size<=40
 par:-1<=n.Parent∧n.Parent<i
 attrs:n.Attrs.length<=1
 each:∀ a∈n.Attrs,RG a
structure Vj (t:AC) (i:Int):Prop where
 len:(t.Nodes.length:Int)=i
 node:∀ k:Int,0<=k->k<i->Yt (AB t.Nodes k) k
variable {i:Int}
theorem Vj.app {t:AC} (h:Vj t i) {n:CX} (g:Yt n i):Vj ⟨t.Nodes++[n],t.Edges⟩ (i+1):=by
 refine ⟨by simp [←h.len],fun k d j=>?_⟩;have o:=h.len;by_cases e:k=i
 ·subst e;rw [show AB (t.Nodes++[n]) k=n from UQ _ _ (by omega)];exact g
 ·rw [show AB (t.Nodes++[n]) k=AB t.Nodes k from RJ _ _ d (by omega)];exact h.node k d (by omega)
structure SQ (t:AC):Prop where
 n:Vj t t.Nodes.length
 pos:0<t.Nodes.length
 nodes:t.Nodes.length<=6
 edges:t.Edges.length<=5
 edge:∀ e∈t.Edges,e.Name.size<=40∧(0<=e.From∧e.From<t.Nodes.length)∧0<=e.To∧e.To<t.Nodes.length
theorem SQ.few {t:AC} (h:SQ t):BY t:=by
 have d:∀ n∈t.Nodes,∃ i,Yt n i:=fun n d=>by
  obtain ⟨i,o,r,rfl⟩:=ED d;exact ⟨i,h.n.node i o r⟩
 refine ⟨by have:=h.nodes; omega,by have:=h.edges; omega,fun n g=>?_,fun n g=>?_,fun n g=>?_,fun e j=>?_⟩
 ·obtain ⟨i,k⟩:=d n g; have:=k.name; omega
 ·obtain ⟨i,k⟩:=d n g; have:=k.attrs; omega
 ·obtain ⟨i,k⟩:=d n g; exact k.each
 ·have:=(h.edge e j).1; omega
theorem SQ.par {t:AC} (h:SQ t):HD t t.Nodes.length:=fun i d g=>(h.n.node i d g).par
variable {a b:Int}
theorem SQ.below {t:AC} (h:SQ t) (j:0<=a) (d:a<t.Nodes.length) (g:0<=b):∃ r,II t a b=some r:=
 ⟨_,E9 (a+2).toNat fun n k=>TG h.par g n (a+1).toNat a (by omega) d (by omega) (by omega)⟩
end Go.Sf.Sc
namespace Go.Sf.Sc
open Go Go.Sf
structure uM (t:AC) (g:Graph):Prop where
 nodes:g.Nodes.length<=8
 edges:g.Edges.length<=10
 kind:∀ n∈g.Nodes,0<=n∧n<t.Nodes.length
structure kR (p:Pattern):Prop where
 nodes:p.Graph.Nodes.length<=8
 edges:p.Graph.Edges.length<=10
 slots:p.Slots.length<=4
 tests:p.Tests.length<=3
 vars:0<=p.Vars∧p.Vars<=3
end Go.Sf.Sc
namespace Go.Sf.Sc
open Go Go.Sf
structure Ok (t:AC) (p:Pattern) (h:AT) (inj:Bool) (m:AF):Prop where
 chk:Mq t p.Graph h.Graph m.Morphism inj=0
 solve:LP p h m.Morphism=(m.Vars,0)
end Go.Sf.Sc
namespace Go.Sf.Sc
open Go Go.Sf
structure uO (p q:Pattern):Prop where
 nodes:q.Graph.Nodes.length<=p.Graph.Nodes.length+1
 edges:q.Graph.Edges.length<=p.Graph.Edges.length+1
 slots:q.Slots.length<=1
 tests:q.Tests.length<=1
 vars:0<=q.Vars∧q.Vars<=20
end Go.Sf.Sc
namespace Go.Sf.Sc
open Go Go.Sf
structure xy (p:Pattern) (depth:Int):Prop where
 d:0<=depth∧depth<=2
 nodes:(p.Graph.Nodes.length:Int)+depth<=20
 edges:(p.Graph.Edges.length:Int)+depth<=20
 vars:0<=p.Vars∧p.Vars<=20
end Go.Sf.Sc
namespace Go.Sf.Sc
open Go Go.Sf
variable {n:Nat}
theorem Lc {α:Type} {e:α->TV} {l:List α} (h:l.length<=1000) (d:∀ x∈l,(e x).Sm):TV.Sm (eL n e l):=by
 show TV.Sm (.list n (l.map e));simp only [TV.Sm,d7];refine ⟨by unfold reachBytes; omega,P2.2 fun t g=>?_⟩;obtain ⟨x,j,rfl⟩:=List.mem_map.1 g;exact d x j
theorem Uf {l:Ne} (h:l.length<=1000):TV.Sm (eL 1 eI l):=Lc h fun _ _=>trivial
theorem UJ {s:ByteArray} (h:(s.size:Int)<=1000):TV.Sm (eS s):=by
 show TV.Sm (.str s);simp only [TV.Sm];unfold reachBytes; omega
theorem dI {t:AC} (h:BY t):(AV t).Sm:=by
 have o:=h.nodes;have r:=h.edges;refine ⟨Lc (by omega) fun n g=>?_,Lc (by omega) fun e j=>?_,trivial⟩
 ·have:=h.name n g;have:=h.attrs n g;refine ⟨UJ (by omega),trivial,trivial,Lc (by omega) fun a d=>?_,trivial⟩;have d:=h.each n g a d;have:=d.name;have:=d.names;exact ⟨UJ (by omega),trivial,trivial,Lc (by omega) fun x k=>UJ (by have:=d.each x k; omega),trivial⟩
 ·have:=h.ename e j;exact ⟨UJ (by omega),trivial,trivial,trivial,trivial,trivial,trivial,trivial⟩
theorem Yd:∀ (N:Nat) (c:AA),SizeOf.sizeOf c<=N->EE c->cnt c<=1000->(AE c).Sm
 | 0,c,h,_,_=>by have:=DP c; omega
 | N+1,c,h,d,z=>by
  have j:=d.q.nodes;have o:=d.q.edges;have r:=d.q.slots;have u:=d.q.tests;have m1:=d.m.nodes;have w:=d.m.edges;have x:=Jy c;have y:=RT c.Kids;refine ⟨trivial,?_,Uf (by omega),Uf (by omega),Uf (by omega),Lc (by omega) fun _ _=>⟨trivial,trivial,trivial,trivial⟩,Lc (by omega) fun _ _=>⟨trivial,trivial,trivial,trivial,trivial⟩,trivial,Lc (by omega) fun _ _=>⟨trivial,trivial,trivial,trivial,trivial,trivial⟩,trivial⟩;rw [K0];refine Lc (n:=9) (by omega) fun k g=>?_;have:=D9 g;have:=K9 g;exact Yd N k (by omega) (d.k k g) (by omega)
structure TO (p:Pattern) (c:AA) (h:AT):Prop where
 few:EE c
 cnt:cnt c<=40
 q:P9 p
 bound:Ls 14 18 (SizeOf.sizeOf c) p c=true
 narrow:LZ (SizeOf.sizeOf c) c=true
 nodes:h.Graph.Nodes.length<=6
 edges:h.Graph.Edges.length<=8
variable {p:Pattern} {c:AA}
theorem cd {t:AC} (j:BY t) (g:EE c) (w:cnt c<=1000) (x:H3 t p c=0) (h:AT):∃ b,E0 t p c h=some b∧(b=true->TO p c h):=by
 obtain ⟨z,A,C⟩:=Uu (Yd _ c (d3 _) g w);obtain ⟨D,r,E⟩:=UV p;obtain ⟨F,u⟩:=WH h;unfold E0;rw [A,bs];cases z
 ·exact ⟨false,rfl,fun h=>by cases h⟩
 rw [r];cases D
 ·exact ⟨false,rfl,fun h=>by cases h⟩
 rw [u];cases F
 ·exact ⟨false,rfl,fun h=>by cases h⟩
 have k:=C rfl;have o:=E rfl;simp only [bs,Bool.not_true,Bool.false_eq_true,if_false];rw [Wv j p g,bs,d2 (by simp [x])];obtain ⟨G,H⟩:=VM j (dI j) p.Graph h.Graph;unfold L5;rw [r,u,H,Wz,VK 14 18 g o];simp only [bs,if_true];cases G
 ·simp only [Bool.false_eq_true,if_false,bs,Bool.false_and];exact ⟨_,rfl,fun h=>by cases h⟩
 simp only [if_true,bs];split
 ·rename_i d;rw [bs,bs];refine ⟨_,rfl,fun y=>?_⟩;rw [zzZ,zzZ,zzX,zzX] at d;exact ⟨g,k.2,o,y,d.1.1,by omega,by omega⟩
 ·exact ⟨_,rfl,fun h=>by cases h⟩
end Go.Sf.Sc
namespace Go.Sf.Sc
open Go Go.Sf
structure uN (t:AC) (p:Pattern) (c:AA) (h:AT) (l:List AF) (inj:Bool):Prop where
 few:BY t
 hv:(BE t).2=0
 pat:kR p
 cond:H3 t p c=0
 ph:M3 t p h=0
 each:∀ m∈l,Ok t p h inj m
 len:l.length<=30
 light:TO p c h
variable {p:Pattern} {c:AA}
theorem RU {t:AC} (h:H3 t p c=0):J5 t p=0∧LO c=0∧HE (SizeOf.sizeOf c) t p c=0:=by
 unfold H3 at h;split at h
 ·rename_i k; exact absurd h k
 rename_i d;split at h
 ·rename_i k; exact absurd h k
 rename_i g;exact ⟨Classical.not_not.1 d,Classical.not_not.1 g,h⟩
theorem cc {t:AC} {h:AT} (d:TO p c h) (g:H3 t p c=0):CG t p c:=
 d8 _ (d3 _) (fun M j=>by rw [j]; exact (RU g).2.2) d.bound d.narrow d.few
end Go.Sf.Sc
namespace Go.Sf.Sc
open Go Go.Sf
end Go.Sf.Sc
namespace Go.Sf.Sc
open Go Go.Sf
def zL (kd:Int) (a b:AA):AA:=⟨kd,[a,b],⟨[],[]⟩,⟨⟨[],[]⟩,[],0,[]⟩⟩
end Go.Sf.Sc
namespace Go.Sf.Sc
open Go Go.Sf
variable {n:Nat}
theorem fz {by' images:Ne} (u:∀ x∈by',0<=x∧x<n) (w:by'.length<=images.length) (l:Ne):forA (fun (d:Int) (j:Morphism)=>
  (AM by' d).bind fun g=>
  (AM images d).bind fun k=>
  (AM j.Nodes g).bind fun _=>
  some (Morphism.mk (B1 j.Nodes g k) j.Edges)) 0 (by'.length:Int) ⟨List.replicate n (-1),l⟩=some ⟨I1 n by' images,l⟩:=by
 rw [EF (a:=0) (b:=by'.length) (s:=⟨List.replicate n (-1),l⟩) (fun i=>(⟨(BJ i.toNat).foldl (fun l i=>B1 l (AB by' i) (AB images i)) (List.replicate n (-1)),l⟩:Morphism)) (by omega) rfl,Int.toNat_natCast]
 ·rfl
 intro i d o;have r:=u _ (AP d o);rw [AI d o,bs,AI d (by omega),bs,AI r.1 (by rw [N2]; simpa using r.2),bs,Jc d,List.foldl_append]; rfl
theorem fy {by' images:Ne} (u:∀ x∈by',0<=x∧x<n) (w:by'.length<=images.length) (l:Ne):forA (fun (d:Int) (j:Morphism)=>
  (AM by' d).bind fun g=>
  (AM images d).bind fun k=>
  (AM j.Edges g).bind fun _=>
  some (Morphism.mk j.Nodes (B1 j.Edges g k))) 0 (by'.length:Int) ⟨l,List.replicate n (-1)⟩=some ⟨l,I1 n by' images⟩:=by
 rw [EF (a:=0) (b:=by'.length) (s:=⟨l,List.replicate n (-1)⟩) (fun i=>(⟨l,(BJ i.toNat).foldl (fun l i=>B1 l (AB by' i) (AB images i)) (List.replicate n (-1))⟩:Morphism)) (by omega) rfl,Int.toNat_natCast]
 ·rfl
 intro i d o;have r:=u _ (AP d o);rw [AI d o,bs,AI d (by omega),bs,AI r.1 (by rw [N2]; simpa using r.2),bs,Jc d,List.foldl_append]; rfl
end Go.Sf.Sc
namespace Go.Sf.Sc
open Go Go.Sf
variable {i:Int}
theorem V0 {α:Type} [Inhabited α] {l:List α} (v:α) (d:0<=i) (g:i<l.length):AB (B1 l i v) i=v:=by
 unfold AB B1;rw [List.getD_eq_getElem?_getD,List.getElem?_set_self (by omega)]; rfl
theorem dH {ρ:Type} {r:ρ} {n:Int} {h:AT} {m:Morphism} {s:EI} (o:Iw n h m s) {st:Ne × d0} (hi:VI n st) :
  (if (decide (s.Term.Var<0))=true then
  if (!decide ((A4 (IF h m s - s.Term.Add))=0))=true then
  some (CZ.ret r)
  else
  some (.next (st.1,st.2))
  else
  (AM st.2 s.Term.Var).bind fun u=>
  if (!u)=true then
  (AM st.1 s.Term.Var).bind fun _=>
  (AM st.2 s.Term.Var).bind fun _=>
  some (.next (B1 st.1 s.Term.Var (A4 (IF h m s - s.Term.Add)),B1 st.2 s.Term.Var true))
  else
  (AM st.1 s.Term.Var).bind fun w=>
  if (!decide (w=(A4 (IF h m s - s.Term.Add))))=true then
  some (.ret r)
  else
  some (.next (st.1,st.2)))=some (EX r h m s st):=by
 have y:=o.term.high;have l1:=hi.l1;have l2:=hi.l2;have hv:=o.has;have z:=o.term.add;have x:A4 (IF h m s - s.Term.Add)=IF h m s - s.Term.Add:=BI (by omega) (by omega);unfold EX;by_cases d:s.Term.Var<0
 ·have g:Jr h m s st=st:=by unfold Jr; rw [d2 (fun e=>by omega)]
  have j:D5 s.Term st.1=s.Term.Add:=by unfold D5; rw [d1 d]
  rw [d1 (by simpa using d),g,j,x];by_cases e:IF h m s - s.Term.Add=0
  ·rw [d2 (by simp [e]),d1 (by omega)]
  ·rw [d1 (by simp [e]),d2 (by omega)]
 ·rw [d2 (by simpa using d),AI (by omega) (by omega),bs];by_cases k:AB st.2 s.Term.Var=false
  ·have g:Jr h m s st=(B1 st.1 s.Term.Var (A4 (IF h m s - s.Term.Add)),B1 st.2 s.Term.Var true):=by unfold Jr; rw [d1 ⟨by omega,k⟩]
   have j:D5 s.Term (B1 st.1 s.Term.Var (A4 (IF h m s - s.Term.Add)))=IF h m s:=by
    unfold D5;rw [d2 d,V0 _ (by omega) (by omega),x,BI (by omega) (by omega)]; omega
   rw [d1 (by simp [k]),AI (by omega) (by omega),bs,bs,g,d1 j]
  ·have A:=hi.small _ (AP (l:=st.1) (i:=s.Term.Var) (by omega) (by omega));have g:Jr h m s st=st:=by unfold Jr; rw [d2 (fun e=>k e.2)]
   have j:D5 s.Term st.1=AB st.1 s.Term.Var+s.Term.Add:=by unfold D5; rw [d2 d,BI (by omega) (by omega)]
   rw [d2 (by simpa using k),AI (by omega) (by omega),bs,g,j,x];by_cases e:AB st.1 s.Term.Var=IF h m s - s.Term.Add
   ·rw [d2 (by simp [e]),d1 (by omega)]
   ·rw [d1 (by simp [e]),d2 (by omega)]
variable {s:AG} {q:Pattern}
theorem ii {m:Morphism} {t:AC} {d:Ne} (C:Pq t q) (D:∀ x∈q.Slots,Iw q.Vars s.h m x) (G:d.length<=q.Vars) (hv:NQ d):GG s q m d=some (KX q s.h m d):=by
 have H:=C.vars;unfold GG KX;have I:Jn q.Vars false=some (List.replicate q.Vars.toNat false):=by
  unfold Jn;rw [d1 (by omega)]
 have J:Jn q.Vars (0:Int)=some (List.replicate q.Vars.toNat 0):=by
  unfold Jn;rw [d1 (by omega)]
 rw [J,bs,I,bs];have K:forA (fun (g:Int) (k:Ne × d0)=>
   (AM d g).bind fun w=>
   (AM k.1 g).bind fun z=>
   (AM k.2 g).bind fun A=>
   some (B1 k.1 g w,B1 k.2 g true)) 0 (d.length:Int) (List.replicate q.Vars.toNat 0,List.replicate q.Vars.toNat false)=some (d++List.replicate (q.Vars - d.length).toNat 0,G7 q.Vars.toNat d.length):=by
  have L:=EF (f:=fun (g:Int) (k:Ne × d0)=>
   (AM d g).bind fun w=>
   (AM k.1 g).bind fun z=>
   (AM k.2 g).bind fun A=>
   some (B1 k.1 g w,B1 k.2 g true)) (a:=0) (b:=d.length) (s:=(List.replicate q.Vars.toNat 0,List.replicate q.Vars.toNat false)) (fun i=>(d.take i.toNat++List.replicate (q.Vars - i).toNat 0,G7 q.Vars.toNat i)) (by omega) ?_ (fun i g o=>?_)
  ·rw [L,Int.toNat_natCast,List.take_length]
  ·simp only [Int.toNat_zero,List.take_zero,List.nil_append,Int.sub_zero,Prod.mk.injEq,true_and];exact QX _
  ·have E:(d.take i.toNat).length=i.toNat:=by rw [d5]; omega
   rw [AI g o,bs,AI g (by simp only [d4,E,List.length_replicate]; omega),bs,AI g (by rw [R7]; omega),bs];congr 2
   ·unfold B1;rw [List.set_append_right _ _ (by omega),E,Nat.sub_self,show (q.Vars - i).toNat=(q.Vars - (i+1)).toNat+1 by omega,List.replicate_succ,List.set_cons_zero,Hs g o,ea];rfl
   ·unfold G7;rw [SK _ g];refine NJ (fun j N O=>?_);by_cases e:j=i
    ·rw [d1 e,e]; simp; omega
    ·rw [d2 e,decide_eq_decide]; omega
 rw [K,bs];have y:=Qz H.1 G hv;dsimp only;rw [N3 (EX (([],false):Ne × Bool) s.h m) (VI q.Vars) y]
 ·cases M:EW (EX (([],false):Ne × Bool) s.h m) q.Slots (d++List.replicate (q.Vars - d.length).toNat 0,G7 q.Vars.toNat d.length) with
  | inr r=>rfl
  | inl st=>
   have hi:=MQ D y M;rw [DX,CR (fun i=>!IR (AB q.Tests i) st.1) ([],false)]
   ·dsimp only;cases anyR (fun i=>!IR (AB q.Tests i) st.1) 0 q.Tests.length <;> rfl
   ·intro i g o _;have F:=C.test _ (AP g o);rw [AI g o,bs,p_holds F.2.1 F.2.2 hi.small (by have:=hi.l1; omega),bs];cases IR (AB q.Tests i) st.1 <;> rfl
 ·intro i st g o hi;have u:=D _ (AP g o);refine ⟨?_,fun s' e=>Me u hi e⟩;rw [AI g o,bs,AI u.node.1 u.node.2,bs,AI u.val.1 u.val.2,bs,AI u.attr.1 u.attr.2,bs];exact dH u hi
end Go.Sf.Sc
namespace Go.Sf.Sc
open Go Go.Sf
theorem aB {l:List AF} {f:AF->ca} {p:AF->Bool} (h:∀ x∈l,f x=some (p x)):DU l f=some (l.any p):=GH h
variable {n:Nat}
theorem bC (d:n<=1000):EL [-1] (n:Int)=some (List.replicate n (-1)):=by
 unfold EL;rw [d1 ⟨rfl,by omega,by omega⟩];show some (List.replicate (n:Int).toNat (-1))=_;rw [Int.toNat_natCast]
variable {s:AG} {p:Pattern} {c:AA}
theorem WD {m:AF} (A:BY s.t) (hv:(BE s.t).2=0) (C:GF s.t s.h) (d:Mh s.t p s.h m) (hi:Vs s.t p c) (e:(BV s.t c s.h m s.injective).2=0):CM s c m=some (BV s.t c s.h m s.injective).1:=by
 have K:=hi.q.g.nodes;have ge:=hi.q.g.edges;have m1:=hi.map.nlen;have L:=hi.map.elen;have M:=d.m.nlen;have N:=d.m.elen;unfold CM;rw [bC (by omega),bs,bC (by omega),bs,
  fz (fun y o=>by obtain ⟨j,r,u,rfl⟩:=ED o; exact (hi.map.node j r u).1) (by omega),bs,
  fy (fun y o=>by obtain ⟨j,r,u,rfl⟩:=ED o; exact (hi.map.edge j r u).1) (by omega),bs,Wn A,bs]
 unfold BV at e ⊢;dsimp only at e ⊢;split at e
 ·rename_i k; exact absurd e k
 rename_i k;obtain ⟨H,I⟩:=Tf (Classical.not_not.1 k);rw [d2 k,Pk (F:=fun y=>KX c.Pattern s.h y m.Vars) H]
 ·rfl
 ·intro i st w z J;have E:=I _ (AP w z);have G:(m.Vars.length:Int)<=c.Pattern.Vars:=by have:=d.len; have:=hi.vars; omega
  rw [AI w z,bs,ii hi.q (fun x D=>Nh (HC hv) hi.q C E D) G d.small,bs,←J3];split
  ·rw [B7 (by simp; unfold BM; omega)]; rfl
  ·rfl
theorem Ou (u:BY s.t) (hv:(BE s.t).2=0) (j:GF s.t s.h) (w:s.h.Graph.Nodes.length<=14) (y:s.h.Graph.Edges.length<=18):∀ (N:Nat) (c:AA) (p:Pattern) (m:AF),SizeOf.sizeOf c<=N->CV s.t p c->CG s.t p c->Mh s.t p s.h m->∀ n,2*N<=n->BR n s c m=some (EY s.t s.h s.injective c m)
 | 0,c,_,_,h,_,_,_,_,_=>by have:=DP c; omega
 | N+1,c,p,m,h,o,A,r,n,J=>by
  obtain ⟨n,rfl⟩:∃ k,n=k+2:=⟨n - 2,by omega⟩;have kid:∀ k∈c.Kids,SizeOf.sizeOf k<=N:=fun k d=>by have:=D9 d; omega
  rw [BR,WA];by_cases z:c.Kind=2
  ·have E:=o.one (.inl z);have d:=AP (l:=c.Kids) (i:=0) (by omega) (by omega);rw [d1 (by simpa using z),d1 z,NZ E,AI (by omega) (by omega),bs,BH,Ou u hv j w y N _ p m (kid _ d) (o.kid (by omega) _ d) (A.kid (by omega) _ d) r n (by omega)];rfl
  rw [d2 (by simpa using z),d2 z];by_cases C:c.Kind=3
  ·rw [d1 (by simpa using C),d1 C,Ot (p:=fun k=>!EY s.t s.h s.injective k m) (fun k d=>by
    rw [D8,BH,Ou u hv j w y N _ p m (kid _ d) (o.kid (by omega) _ d) (A.kid (by omega) _ d) r n (by omega)]; rfl),bs,List.all_eq_not_any_not]
  rw [d2 (by simpa using C),d2 C];by_cases D:c.Kind=4
  ·rw [d1 (by simpa using D),d1 D,Ot (p:=fun k=>EY s.t s.h s.injective k m) (fun k d=>by
    rw [BH,Ou u hv j w y N _ p m (kid _ d) (o.kid (by omega) _ d) (A.kid (by omega) _ d) r n (by omega)]; rfl),bs]
  rw [d2 (by simpa using D),d2 D];by_cases g:c.Kind=5
  ·have hi:=o.ins g;have E:=o.one (.inr g);have F:=N0 (inj:=s.injective) hv j r hi (A.ex g).2 w y;obtain ⟨I,H⟩:=NW hv j r hi F;have d:=AP (l:=c.Kids) (i:=0) (by omega) (by omega);rw [d1 (by simpa using g),d1 g,NZ E,WD u hv j r hi F,bs,aB (p:=fun x=>EY s.t s.h s.injective (AB c.Kids 0) x) (fun x G=>by
    rw [CA,AI (by omega) (by omega),bs,Ou u hv j w y N _ c.Pattern x (kid _ d) (o.kid5 g _ d) (A.kid5 g _ d) (H _ G) n (by omega)]; rfl),bs]
  rw [d2 (by simpa using g),d2 g]
theorem e_holds (d:BY s.t) (hv:(BE s.t).2=0) (g:GF s.t s.h) (j:s.h.Graph.Nodes.length<=14) (k:s.h.Graph.Edges.length<=18) {m:AF} (o:CV s.t p c) (r:CG s.t p c) (u:Mh s.t p s.h m):_explain_scene__holds s c m=some (EY s.t s.h s.injective c m):=
 E9 (2*SizeOf.sizeOf c) fun n w=>Ou d hv g j k _ c p m (d3 _) o r u n w
end Go.Sf.Sc
