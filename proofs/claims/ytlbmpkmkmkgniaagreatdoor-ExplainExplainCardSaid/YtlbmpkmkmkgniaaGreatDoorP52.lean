/- Plain lemmas: what the functions of the program and of the reference compute. -/
import Derived.Test.YtlbmpkmkmkgniaaGreatDoorP28
import Derived.Test.YtlbmpkmkmkgniaaGreatDoorP46
import Derived.Test.YtlbmpkmkmkgniaaGreatDoorP25
set_option linter.all false
set_option maxRecDepth 100000
namespace Go.Sf.Sc
open Go Go.Sf
inductive CV (t:AC):Pattern->AA->Prop where
 | mk (p:Pattern) (c:AA) (few:c.Kids.length<=40) (rng:1<=c.Kind∧c.Kind<=5) (one:c.Kind=2∨c.Kind=5->c.Kids.length=1) (ins:c.Kind=5->Vr t p c) (kids:∀ k∈c.Kids,CV t (if c.Kind=5 then c.Pattern else p) k):CV t p c
variable {p:Pattern} {c:AA}
theorem CV.few {t:AC} (h:CV t p c):c.Kids.length<=40:=by cases h; assumption
theorem CV.rng {t:AC} (h:CV t p c):1<=c.Kind∧c.Kind<=5:=by cases h; assumption
theorem CV.one {t:AC} (h:CV t p c):c.Kind=2∨c.Kind=5->c.Kids.length=1:=by cases h; assumption
theorem CV.ins {t:AC} (h:CV t p c):c.Kind=5->Vr t p c:=by cases h; assumption
theorem CV.kids {t:AC} (h:CV t p c):∀ k∈c.Kids,CV t (if c.Kind=5 then c.Pattern else p) k:=by cases h; assumption
theorem CV.kid {t:AC} (h:CV t p c) (d:¬ c.Kind=5):∀ k∈c.Kids,CV t p k:=fun k g=>by have:=h.kids k g; rwa [ci d] at this
theorem CV.kid5 {t:AC} (h:CV t p c) (d:c.Kind=5):∀ k∈c.Kids,CV t c.Pattern k:=fun k g=>by have:=h.kids k g; rwa [ca d] at this
theorem RS:∀ l:List AA,l.length<=HF l
 | []=>by simp
 | c::l=>by
  have:=RS l;have d:HF (c::l)=cnt c+HF l:=by simp [HF]
  have g:=Jx c;simp only [d2];omega
variable {q:Pattern} {v:Int}
theorem pf {t:AC} (hv:(BE t).2=0) (h:ML t q v=0):Pp t q:=by
 unfold ML at h;split at h
 ·exact ZQ hv (.inl h)
 ·rename_i d; exact ZQ hv (.inr (Classical.not_not.1 d))
theorem d9 {t:AC} (hv:(BE t).2=0):∀ (N:Nat) (c:AA) (p:Pattern),SizeOf.sizeOf c<=N->cnt c<=40->Pc N c=true->HE N t p c=0->CV t p c
 | 0,c,_,h,_,_,_=>by have:=DP c; omega
 | N+1,c,p,h,M,A,ho=>by
  have E:=Jx c;have F:=RS c.Kids;rw [Pc,zzZ] at A;obtain ⟨d,w⟩:=A;have j:c.Kind=2∨c.Kind=5->c.Kids.length=1:=by
   intro g;unfold QU at d;rcases g with g | g
   ·rw [ci (by omega),ca g,zzZ,zzX] at d; exact d.1
   ·rw [ci (by omega),ci (by omega),ci (by omega),ca g,zzX] at d; exact d
  have o:1<=c.Kind∧c.Kind<=5:=by
   unfold QU at d;split at d
   ·omega
   split at d
   ·omega
   split at d
   ·omega
   split at d
   ·omega
   ·cases d
  have r:∀ q,(fst (fun i=>nz (HE N t q (AB c.Kids i))) 0 c.Kids.length).getD 0=0->∀ k∈c.Kids,CV t q k:=by
   intro q C k g;have G:=Tm C;have K:=K8 g;have L:=D9 g;rw [List.all_eq_true] at w;obtain ⟨i,H,I,e⟩:=ED g;have z:=G i H I;rw [e] at z;exact d9 hv N k q (by omega) (by omega) (w k g) z
  rw [HE] at ho;by_cases u:c.Kind=5
  ·rw [ca u] at ho;split at ho
   ·cases ho
   rename_i J;split at ho
   ·rename_i x; exact absurd ho x
   rename_i x;split at ho
   ·rename_i y; exact absurd ho y
   rename_i y;split at ho
   ·cases ho
   rename_i D;refine CV.mk p c (by omega) o j (fun _=>⟨pf hv (Classical.not_not.1 x),by omega,eE (Classical.not_not.1 y),by simpa using D⟩) ?_;rw [ca u];exact r _ ho
  ·rw [ci u] at ho;refine CV.mk p c (by omega) o j (fun e=>absurd e u) ?_;rw [ci u];exact r _ ho
section
variable {α σ ρ:Type}
variable {l:List α} {f:Int->σ->Option (CZ σ ρ)}
theorem Q3 [Inhabited α] (step:α->σ->CZ σ ρ) (I:Int->σ->Prop) (h:∀ (i:Int) s,0<=i->i<l.length->I i s->f i s=some (step (AB l i) s)∧∀ s',step (AB l i) s=.next s'->I (i+1) s') :
  ∀ (n:Nat) (a:Int) (s:σ),0<=a->a+n=l.length->I a s->forGo f n a s=some (EW step (l.drop a.toNat) s)
 | 0,a,s,d,u,_=>by
  rw [List.drop_eq_nil_of_le (by omega)]; rfl
 | n+1,a,s,d,u,w=>by
  obtain ⟨k,o⟩:=h a s d (by omega) w;have g:l.drop a.toNat=AB l a::l.drop (a+1).toNat:=by
   rw [show (a+1).toNat=a.toNat+1 by omega,List.drop_eq_getElem_cons (by omega)];congr 1;unfold AB;rw [List.getD_eq_getElem?_getD,List.getElem?_eq_getElem (by omega)]; rfl
  rw [H6,k,g,EW];cases j:step (AB l a) s with
  | next s'=>
   simp only;exact Q3 step I h n (a+1) s' (by omega) (by omega) (o s' j)
  | brk s'=>rfl
  | ret r=>rfl
theorem Tj [Inhabited α] (step:α->σ->CZ σ ρ) (I:Int->σ->Prop) {s:σ} (d:I 0 s) (h:∀ (i:Int) s,0<=i->i<l.length->I i s->f i s=some (step (AB l i) s)∧∀ s',step (AB l i) s=.next s'->I (i+1) s') :
  forR f 0 l.length s=some (EW step l s):=by
 have:=Q3 step I h l.length 0 s (by omega) (by omega) d;unfold forR;rw [show ((l.length:Int) - 0).toNat=l.length by omega];exact this
theorem UH {d s2:α->σ->CZ σ ρ}:∀ {l:List α} {s:σ},(∀ a∈l,d a=s2 a)->EW d l s=EW s2 l s
 | [],_,_=>rfl
 | a::l,s,h=>by
  rw [EW,EW,h a (by simp)];split
  ·exact UH fun b g=>h b (by simp [g])
  ·rfl
  ·rfl
end
abbrev zM:AF:=⟨⟨[],[]⟩,[]⟩
abbrev zP:A1:=⟨0,zM,[]⟩
def Lj (w:AA->A1 × Int) (k:AA) (s:A1 × A1):CZ (A1 × A1) (A1 × Int):=
 if (w k).2≠0 then .ret (zP,(w k).2) else .next (s.1,⟨s.2.Choice,s.2.Match,s.2.Kids++[(w k).1]⟩)
def RG (w:AA->A1 × Int) (l:List AA):A1 × Int:=
 match EW (Lj w) l (zP,zP) with
 | .inl s=>(s.2,0)
 | .inr r=>r
def DS (t:AC) (h:AT) (inj:Bool):Nat->AA->AF->A1 × Int
 | 0,_,_=>(zP,0)
 | N+1,c,m=>
  if c.Kind=2 then (if (DS t h inj N (AB c.Kids 0) m).2=0 then (zP,10) else if (DS t h inj N (AB c.Kids 0) m).2=10 then (zP,0) else (zP,(DS t h inj N (AB c.Kids 0) m).2)) else
  if c.Kind=3 then RG (fun k=>DS t h inj N k m) c.Kids else
  if c.Kind=4 then (fst (fun i=>if (DS t h inj N (AB c.Kids i) m).2=0 then some (⟨i,zM,[(DS t h inj N (AB c.Kids i) m).1]⟩,0) else if (DS t h inj N (AB c.Kids i) m).2≠10 then some (zP,(DS t h inj N (AB c.Kids i) m).2) else none) 0 c.Kids.length).getD (zP,10) else
  if c.Kind=5 then
   (if (BV t c h m inj).2≠0 then (zP,(BV t c h m inj).2) else
   (fst (fun i=>if (DS t h inj N (AB c.Kids 0) (AB (BV t c h m inj).1 i)).2=0 then some (⟨0,AB (BV t c h m inj).1 i,[(DS t h inj N (AB c.Kids 0) (AB (BV t c h m inj).1 i)).1]⟩,0) else
    if (DS t h inj N (AB c.Kids 0) (AB (BV t c h m inj).1 i)).2≠10 then some (zP,(DS t h inj N (AB c.Kids 0) (AB (BV t c h m inj).1 i)).2) else none) 0 (BV t c h m inj).1.length).getD (zP,10)) else
  (zP,0)
def D6 (t:AC) (h:AT) (inj:Bool):Nat->AA->AF->A1 × Int
 | 0,_,_=>(zP,0)
 | N+1,c,m=>
  if c.Kind=2 then (if (D6 t h inj N (AB c.Kids 0) m).2=0 then (zP,10) else if (D6 t h inj N (AB c.Kids 0) m).2=10 then (zP,0) else (zP,(D6 t h inj N (AB c.Kids 0) m).2)) else
  if c.Kind=3 then RG (fun k=>D6 t h inj N k m) c.Kids else
  if c.Kind=4 then (fst (fun i=>if (D6 t h inj N (AB c.Kids i) m).2≠10 then some (⟨i,zM,[(D6 t h inj N (AB c.Kids i) m).1]⟩,(D6 t h inj N (AB c.Kids i) m).2) else none) 0 c.Kids.length).getD (zP,10) else
  if c.Kind=5 then
   (if (BV t c h m inj).2≠0 then (zP,(BV t c h m inj).2) else
   (fst (fun i=>if (D6 t h inj N (AB c.Kids 0) (AB (BV t c h m inj).1 i)).2≠10 then some (⟨0,AB (BV t c h m inj).1 i,[(D6 t h inj N (AB c.Kids 0) (AB (BV t c h m inj).1 i)).1]⟩,(D6 t h inj N (AB c.Kids 0) (AB (BV t c h m inj).1 i)).2) else none) 0 (BV t c h m inj).1.length).getD (zP,10)) else
  (zP,0)
def MO (x:A1 × Int):A1 × Int:=if x.2=0 then x else (zP,x.2)
theorem Wg (x:A1 × Int):(MO x).2=x.2:=by unfold MO; split <;> rfl
theorem aS {x:A1 × Int} (h:x.2=0):(MO x).1=x.1:=by unfold MO; rw [ca h]
theorem b6 (w:AA->A1 × Int) (l:List AA):MO (RG w l)=RG w l:=by
 unfold RG;have:∀ (l:List AA) (s:A1 × A1) (r:A1 × Int),EW (Lj w) l s=.inr r->MO r=r:=by
  intro l
  induction l with
  | nil=>intro s r h; cases h
  | cons a l k=>
   intro s r h;rw [EW] at h;split at h
   ·exact k _ _ h
   ·cases h
   ·rename_i o d;cases h;unfold Lj at d;split at d
    ·rename_i g;cases d;unfold MO;rw [ci g]
    ·cases d
 cases j:EW (Lj w) l (zP,zP) with
 | inl s=>rfl
 | inr r=>exact this _ _ _ j
theorem U3 (o:Option (A1 × Int)):MO (o.getD (zP,10))=(o.map MO).getD (zP,10):=by cases o <;> rfl
theorem Ug (t:AC) (h:AT) (inj:Bool):∀ (N:Nat) (c:AA) (m:AF),DS t h inj N c m=MO (D6 t h inj N c m)
 | 0,_,_=>rfl
 | N+1,c,m=>by
  have y:=Ug t h inj N;have key:∀ (c:AA) (m:AF),(DS t h inj N c m).2=(D6 t h inj N c m).2:=fun c m=>by rw [y,Wg]
  have pick:∀ (k:AA) (m x:AF) (i:Int),(if (DS t h inj N k m).2=0 then some ((⟨i,x,[(DS t h inj N k m).1]⟩:A1),(0:Int)) else if (DS t h inj N k m).2≠10 then some (zP,(DS t h inj N k m).2) else none)=(if (D6 t h inj N k m).2≠10 then some ((⟨i,x,[(D6 t h inj N k m).1]⟩:A1),(D6 t h inj N k m).2) else none).map MO:=by
   intro k m x i;rw [key];by_cases d:(D6 t h inj N k m).2=0
   ·rw [ca d,ca (by omega),y,aS d];simp [MO,d]
   ·rw [ci d];by_cases g:(D6 t h inj N k m).2≠10
    ·rw [ca g,ca g];simp [MO,d]
    ·rw [ci g,ci g]; rfl
  rw [DS,D6];by_cases o:c.Kind=2
  ·rw [ca o,ca o,key];by_cases d:(D6 t h inj N (AB c.Kids 0) m).2=0
   ·rw [ca d]; rfl
   ·rw [ci d];by_cases g:(D6 t h inj N (AB c.Kids 0) m).2=10
    ·rw [ca g]; rfl
    ·rw [ci g]; unfold MO; rw [ci d]
  rw [ci o,ci o];by_cases r:c.Kind=3
  ·rw [ca r,ca r,b6];unfold RG;rw [UH (s2:=Lj fun k=>D6 t h inj N k m)];intro k _;funext s;unfold Lj;simp only [key];by_cases d:(D6 t h inj N k m).2=0
   ·rw [ci (by simp [d]),ci (by simp [d]),y,aS d]
   ·rw [ca d,ca d]
  rw [ci r,ci r];by_cases u:c.Kind=4
  ·rw [ca u,ca u,U3,←NX];congr 1;exact congrArg (fun F=>fst F 0 (c.Kids.length:Int)) (funext fun i=>pick _ _ _ _)
  rw [ci u,ci u];by_cases w:c.Kind=5
  ·rw [ca w,ca w];by_cases j:(BV t c h m inj).2≠0
   ·rw [ca j,ca j]; unfold MO; rw [ci j]
   ·rw [ci j,ci j,U3,←NX];congr 1;exact congrArg (fun F=>fst F 0 ((BV t c h m inj).1.length:Int)) (funext fun i=>pick _ _ _ _)
  rw [ci w,ci w]; rfl
end Go.Sf.Sc
namespace Go.Sf.Sc
open Go Go.Sf
def PM (i:Int) (s:A1 × A1):Prop:=(s.2.Kids.length:Int)=i
theorem T6 {s:A8} (y:BY s.t) (hv:(BE s.t).2=0) (w:GF s.t s.h):∀ (N:Nat) (c:AA) (p:Pattern) (m:AF),SizeOf.sizeOf c<=N->CV s.t p c->Mg s.t p s.h m->∀ n,2*N<=n->A5 n s c m=some (DS s.t s.h s.injective N c m)
 | 0,c,_,_,h,_,_,_,_=>by have:=DP c; omega
 | N+1,c,p,m,h,r,C,n,I=>by
  obtain ⟨n,rfl⟩:∃ k,n=k+2:=⟨n - 2,by omega⟩;have kid:∀ (i:Int),0<=i->i<c.Kids.length->SizeOf.sizeOf (AB c.Kids i)<=N:=fun i j o=>by
   have:=D9 (AP (l:=c.Kids) j o); omega
  rw [A5,DS];by_cases z:c.Kind=2
  ·have H:=r.one (.inl z);rw [ca (by simpa using z),ca z,AI (by omega) (by omega),bs,T6 y hv w N _ p m (kid 0 (by omega) (by omega)) (r.kid (by omega) _ (AP (by omega) (by omega))) C (n+1) (by omega),bs];generalize DS s.t s.h s.injective N (AB c.Kids 0) m=x;by_cases d:x.2=0
   ·rw [ca (by simpa using d),ca d]; try rfl
   ·rw [ci (by simpa using d),ci d];by_cases g:x.2=10
    ·rw [ca (by simpa using g),ca g]; try rfl
    ·rw [ci (by simpa using g),ci g]; try rfl
  rw [ci (by simpa using z),ci z];by_cases D:c.Kind=3
  ·rw [ca (by simpa using D),ca D];have F:=r.few;rw [Tj (Lj fun k=>DS s.t s.h s.injective N k m) PM (show PM 0 (zP,zP) from rfl)]
   ·unfold RG;show thenR (some (EW (Lj fun k=>DS s.t s.h s.injective N k m) c.Kids (zP,zP))) _ _=_;cases EW (Lj fun k=>DS s.t s.h s.injective N k m) c.Kids (zP,zP) <;> rfl
   ·intro i st j o hi;unfold PM at hi;rw [AI j o,bs,T6 y hv w N _ p m (kid i j o) (r.kid (by omega) _ (AP j o)) C (n+1) (by omega),bs];dsimp only [Lj];by_cases d:(DS s.t s.h s.injective N (AB c.Kids i) m).2=0
    ·rw [ci (by simp [d]),ci (by simp [d]),B7 (by simp; unfold BM; omega),bs];refine ⟨rfl,fun s' e=>?_⟩;cases e;unfold PM;simp; omega
    ·rw [ca (by simp [d]),ca d];exact ⟨rfl,fun s' e=>by cases e⟩
  rw [ci (by simpa using D),ci D];by_cases E:c.Kind=4
  ·rw [ca (by simpa using E),ca E];rw [Ki (fun _=>zP) (fun i=>if (DS s.t s.h s.injective N (AB c.Kids i) m).2=0 then some (⟨i,zM,[(DS s.t s.h s.injective N (AB c.Kids i) m).1]⟩,0) else if (DS s.t s.h s.injective N (AB c.Kids i) m).2≠10 then some (zP,(DS s.t s.h s.injective N (AB c.Kids i) m).2) else none) (by omega) rfl]
   ·cases fst (fun i=>if (DS s.t s.h s.injective N (AB c.Kids i) m).2=0 then some ((⟨i,zM,[(DS s.t s.h s.injective N (AB c.Kids i) m).1]⟩:A1),(0:Int)) else if (DS s.t s.h s.injective N (AB c.Kids i) m).2≠10 then some (zP,(DS s.t s.h s.injective N (AB c.Kids i) m).2) else none) 0 c.Kids.length <;> rfl
   ·intro i j o _;rw [AI j o,bs,T6 y hv w N _ p m (kid i j o) (r.kid (by omega) _ (AP j o)) C (n+1) (by omega),bs];generalize DS s.t s.h s.injective N (AB c.Kids i) m=x;by_cases d:x.2=0
    ·rw [ca (by simpa using d),ca d]; try rfl
    ·rw [ci (by simpa using d),ci d];by_cases g:x.2=10
     ·rw [ci (by simp [g]),ci (by simp [g])]; try rfl
     ·rw [ca (by simp [g]),ca g]; try rfl
  rw [ci (by simpa using E),ci E];by_cases u:c.Kind=5
  ·rw [ca (by simpa using u),ca u];have hi:=r.ins u;have H:=r.one (.inr u);rw [B4,jH y hv w C hi,bs];by_cases A:(BV s.t c s.h m s.injective).2=0
   ·obtain ⟨g,G⟩:=NV hv w C hi A;rw [ci (by simp [A]),ci (by simp [A])];generalize (BV s.t c s.h m s.injective).1=l at g G;rw [Ki (fun _=>zP) (fun i=>if (DS s.t s.h s.injective N (AB c.Kids 0) (AB l i)).2=0 then some (⟨0,AB l i,[(DS s.t s.h s.injective N (AB c.Kids 0) (AB l i)).1]⟩,0) else if (DS s.t s.h s.injective N (AB c.Kids 0) (AB l i)).2≠10 then some (zP,(DS s.t s.h s.injective N (AB c.Kids 0) (AB l i)).2) else none) (by omega) rfl]
    ·cases fst (fun i=>if (DS s.t s.h s.injective N (AB c.Kids 0) (AB l i)).2=0 then some ((⟨0,AB l i,[(DS s.t s.h s.injective N (AB c.Kids 0) (AB l i)).1]⟩:A1),(0:Int)) else if (DS s.t s.h s.injective N (AB c.Kids 0) (AB l i)).2≠10 then some (zP,(DS s.t s.h s.injective N (AB c.Kids 0) (AB l i)).2) else none) 0 l.length <;> rfl
    ·intro i j o _;rw [AI j o,bs,AI (by omega) (by omega),bs,T6 y hv w N _ c.Pattern _ (kid 0 (by omega) (by omega)) (r.kid5 u _ (AP (by omega) (by omega))) (G _ (AP j o)) n (by omega),bs];generalize DS s.t s.h s.injective N (AB c.Kids 0) (AB l i)=x;by_cases d:x.2=0
     ·rw [ca (by simpa using d),ca d]; try rfl
     ·rw [ci (by simpa using d),ci d];by_cases g:x.2=10
      ·rw [ci (by simp [g]),ci (by simp [g])]; try rfl
      ·rw [ca (by simp [g]),ca g]; try rfl
   ·rw [ca (by simp [A]),ca A]; try rfl
  rw [ci (by simpa using u),ci u]; try rfl
theorem Py {t:AC} {d:AT} {inj:Bool} (z:BY t) (hv:(BE t).2=0) (y:GF t d):∀ (N:Nat) (c:AA) (p:Pattern) (m:AF),SizeOf.sizeOf c<=N->CV t p c->Mg t p d m->∀ n,N<=n->FM n t c d m inj=some (D6 t d inj N c m)
 | 0,c,_,_,h,_,_,_,_=>by have:=DP c; omega
 | N+1,c,p,m,h,u,D,n,J=>by
  obtain ⟨n,rfl⟩:∃ k,n=k+1:=⟨n - 1,by omega⟩;have kid:∀ (i:Int),0<=i->i<c.Kids.length->SizeOf.sizeOf (AB c.Kids i)<=N:=fun i j o=>by
   have:=D9 (AP (l:=c.Kids) j o); omega
  rw [FM,D6];by_cases A:c.Kind=2
  ·have I:=u.one (.inl A);rw [ca (by simpa using A),ca A,AI (by omega) (by omega),bs,Py z hv y N _ p m (kid 0 (by omega) (by omega)) (u.kid (by omega) _ (AP (by omega) (by omega))) D n (by omega),bs];generalize D6 t d inj N (AB c.Kids 0) m=x;by_cases r:x.2=0
   ·rw [ca (by simpa using r),ca r]; try rfl
   ·rw [ci (by simpa using r),ci r];by_cases g:x.2=10
    ·rw [ca (by simpa using g),ca g]; try rfl
    ·rw [ci (by simpa using g),ci g]; try rfl
  rw [ci (by simpa using A),ci A];by_cases E:c.Kind=3
  ·rw [ca (by simpa using E),ca E];have G:=u.few;rw [Tj (Lj fun k=>D6 t d inj N k m) PM (show PM 0 (zP,zP) from rfl)]
   ·unfold RG;show thenR (some (EW (Lj fun k=>D6 t d inj N k m) c.Kids (zP,zP))) _ _=_;cases EW (Lj fun k=>D6 t d inj N k m) c.Kids (zP,zP) <;> rfl
   ·intro i st j o hi;unfold PM at hi;rw [AI j o,bs,Py z hv y N _ p m (kid i j o) (u.kid (by omega) _ (AP j o)) D n (by omega),bs];dsimp only [Lj];by_cases r:(D6 t d inj N (AB c.Kids i) m).2=0
    ·rw [ci (by simp [r]),ci (by simp [r]),B7 (by simp; unfold BM; omega),bs];refine ⟨rfl,fun s' e=>?_⟩;cases e;unfold PM;simp; omega
    ·rw [ca (by simp [r]),ca r];exact ⟨rfl,fun s' e=>by cases e⟩
  rw [ci (by simpa using E),ci E];by_cases F:c.Kind=4
  ·rw [ca (by simpa using F),ca F];rw [Ki (fun _=>zP) (fun i=>if (D6 t d inj N (AB c.Kids i) m).2≠10 then some (⟨i,zM,[(D6 t d inj N (AB c.Kids i) m).1]⟩,(D6 t d inj N (AB c.Kids i) m).2) else none) (by omega) rfl]
   ·cases fst (fun i=>if (D6 t d inj N (AB c.Kids i) m).2≠10 then some ((⟨i,zM,[(D6 t d inj N (AB c.Kids i) m).1]⟩:A1),(D6 t d inj N (AB c.Kids i) m).2) else none) 0 c.Kids.length <;> rfl
   ·intro i j o _;rw [AI j o,bs,Py z hv y N _ p m (kid i j o) (u.kid (by omega) _ (AP j o)) D n (by omega),bs];generalize D6 t d inj N (AB c.Kids i) m=x;by_cases g:x.2=10
    ·rw [ci (by simp [g]),ci (by simp [g])]; try rfl
    ·rw [ca (by simp [g]),ca g]; try rfl
  rw [ci (by simpa using F),ci F];by_cases w:c.Kind=5
  ·rw [ca (by simpa using w),ca w];have hi:=u.ins w;have I:=u.one (.inr w);rw [aj z hv y D hi,bs];by_cases C:(BV t c d m inj).2=0
   ·obtain ⟨g,H⟩:=NV hv y D hi C;rw [ci (by simp [C]),ci (by simp [C])];generalize (BV t c d m inj).1=l at g H;rw [Ki (fun _=>zP) (fun i=>if (D6 t d inj N (AB c.Kids 0) (AB l i)).2≠10 then some (⟨0,AB l i,[(D6 t d inj N (AB c.Kids 0) (AB l i)).1]⟩,(D6 t d inj N (AB c.Kids 0) (AB l i)).2) else none) (by omega) rfl]
    ·cases fst (fun i=>if (D6 t d inj N (AB c.Kids 0) (AB l i)).2≠10 then some ((⟨0,AB l i,[(D6 t d inj N (AB c.Kids 0) (AB l i)).1]⟩:A1),(D6 t d inj N (AB c.Kids 0) (AB l i)).2) else none) 0 l.length <;> rfl
    ·intro i j o _;rw [AI (by omega) (by omega),bs,AI j o,bs,Py z hv y N _ c.Pattern _ (kid 0 (by omega) (by omega)) (u.kid5 w _ (AP (by omega) (by omega))) (H _ (AP j o)) n (by omega),bs];generalize D6 t d inj N (AB c.Kids 0) (AB l i)=x;by_cases g:x.2=10
     ·rw [ci (by simp [g]),ci (by simp [g])]; try rfl
     ·rw [ca (by simp [g]),ca g]; try rfl
   ·rw [ca (by simp [C]),ca C]; try rfl
  rw [ci (by simpa using w),ci w]; try rfl
end Go.Sf.Sc
namespace Go.Sf.Sc
open Go Go.Sf
variable {a b:Int}
theorem Pv {c:Int->Pi} {v w:Int} (d:w≠v) (h:∀ i,c i≠some v):(fst c a b).getD w≠v:=by
 cases g:fst c a b with
 | none=>exact d
 | some r=>
  obtain ⟨i,_,_,k,_⟩:=C1 g;simp only [Option.getD_some];exact fun e=>h i (by rw [k,e])
variable {e v:Int}
theorem ZG (h:e≠v):nz e≠some v:=by
 unfold nz;split
 ·simp
 ·simpa using h
theorem Kj (g:Graph):DK g≠10:=by
 unfold DK;split
 ·decide
 ·split
  ·decide
  ·split <;> decide
theorem Xo (l:List ByteArray):J3 l≠10:=by
 unfold J3;split
 ·decide
 ·refine Pv (by decide) (fun i=>?_);split
  ·decide
  ·split <;> decide
theorem Yw (l:List Attr) (k:Int):MB l k≠10:=by
 have:=Xo (AB l k).Names;unfold MB;dsimp only;split
 ·decide
 split
 ·decide
 split
 ·split <;> decide
 split
 ·exact this
 split <;> decide
theorem ZE (t:AC) (i:Int):I9 t i≠10:=by
 unfold I9;dsimp only;split
 ·decide
 split
 ·decide
 split
 ·decide
 split
 ·decide
 exact Pv (by decide) (fun i=>ZG (Yw _ _))
theorem Y4 (t:AC) (i:Int):Jo t i≠10:=by
 unfold Jo;dsimp only;split
 ·decide
 split
 ·decide
 split <;> decide
theorem T1 {α:Type} {x r:α} (h:(nz e).map (fun e=>(x,e))=some (r,(10:Int))):e=10:=by
 unfold nz at h;split at h
 ·cases h
 ·simp only [Option.map_some,zzY,Prod.mk.injEq] at h; exact h.2
theorem Qw (t:AC):(BE t).2≠10:=by
 unfold BE;split
 ·decide
 split
 ·decide
 split
 ·rename_i r d;obtain ⟨i,_,_,k,_⟩:=C1 d;intro e;obtain ⟨g,j⟩:=r;simp only at e;subst e;exact ZE t i (T1 k)
 ·cases d:fst (fun i=>(nz (Jo t i)).map fun e=>((AB t.Edges i).Name,e)) 0 t.Edges.length with
  | none=>decide
  | some r=>
   obtain ⟨i,_,_,k,_⟩:=C1 d;intro e;obtain ⟨g,j⟩:=r;simp only [Option.getD_some] at e;subst e;exact Y4 t i (T1 k)
theorem Zq (n:Int) (x:Test):MI n x≠10:=by
 unfold MI;split
 ·decide
 ·split <;> decide
theorem Xy (n:Int) (l:List Test):JW n l≠10:=by
 unfold JW;split
 ·decide
 split
 ·decide
 exact Pv (by decide) (fun i=>ZG (Zq _ _))
theorem SC (t:AC) (p:Pattern):J4 t p≠10:=by
 have d:=Qw t;have g:=Kj p.Graph;have j:=Xy p.Vars p.Tests;unfold J4;split
 ·exact d
 split
 ·exact g
 split
 ·decide
 split
 ·decide
 split
 ·decide
 split
 ·decide
 split
 ·exact j
 split <;> decide
theorem aI (t:AC) (q:Pattern) (v:Int):ML t q v≠10:=by
 have:=SC t q;unfold ML;split
 ·exact this
 ·split <;> decide
theorem Xn (a b:Graph) (m:Morphism) (i:Int):Kc a b m i≠some 10:=by
 unfold Kc;split
 ·decide
 ·split <;> decide
theorem Sn (a b:Graph) (m:Morphism) (i:Int):Hz a b m i≠some 10:=by
 unfold Hz;split
 ·decide
 ·split
  ·decide
  ·split <;> decide
theorem Xd (t:AC) (a b:Graph) (m:Morphism) (i:Int):Jw t a b m i≠some 10:=by
 unfold Jw;split
 ·decide
 ·split <;> decide
theorem Wb {c:Int->Pi} {d:Int} (h:∀ i,c i≠some 10) (g:d≠10):(match fst c a b with | some e=>e | none=>d)≠10:=by
 cases j:fst c a b with
 | none=>exact g
 | some r=>
  obtain ⟨i,_,_,k,_⟩:=C1 j;exact fun e=>h i (by rw [k]; exact congrArg some e)
theorem aO (a b:Graph) (m:Morphism):MM a b m≠10:=by
 have d:=Kj a;have g:=Kj b;unfold MM;split
 ·exact d
 split
 ·exact g
 split
 ·decide
 exact Wb (Xn a b m) (Pv (by decide) (Sn a b m))
theorem T5 (t:AC):∀ (N:Nat) (p:Pattern) (c:AA),HE N t p c≠10
 | 0,_,_=>by rw [HE]; decide
 | N+1,p,c=>by
  have d:∀ q,(fst (fun i=>nz (HE N t q (AB c.Kids i))) 0 c.Kids.length).getD 0≠10:=fun q=>Pv (by decide) (fun i=>ZG (T5 t N q _));have g:=aI t c.Pattern p.Vars;have j:=aO p.Graph c.Pattern.Graph c.Map;rw [HE];split
  ·split
   ·decide
   split
   ·exact g
   split
   ·exact j
   split
   ·decide
   exact d _
  ·exact d _
theorem Y2 (t:AC) (p:Pattern) (c:AA):H3 t p c≠10:=by
 have d:=SC t p;have g:=T5 t (SizeOf.sizeOf c) p c;unfold H3;split
 ·exact d
 split
 ·unfold LN;split
  ·decide
  ·split <;> decide
 ·exact g
theorem Tq (t:AC) (h:AT):(Mx t h).2≠10:=by
 have g:=Qw t;have j:=Kj h.Graph;have o:∀ i,JO t (AB h.Graph.Nodes i) (AB h.Values i)≠10:=by
  intro i;unfold JO;split
  ·decide
  split
  ·decide
  split
  ·decide
  split <;> decide
 have u:∀ i,J1 t h.Graph i≠10:=by
  intro i;unfold J1;split
  ·decide
  split <;> decide
 unfold Mx;split
 ·exact g
 split
 ·exact j
 split
 ·decide
 split
 ·rename_i r d;obtain ⟨i,_,_,k,_⟩:=C1 d;intro e;obtain ⟨w,x⟩:=r;simp only at e;subst e;exact o i (T1 k)
 ·cases d:fst (fun i=>(nz (J1 t h.Graph i)).map fun e=>(i,e)) 0 h.Graph.Edges.length with
  | none=>decide
  | some r=>
   obtain ⟨i,_,_,k,_⟩:=C1 d;intro e;obtain ⟨w,x⟩:=r;simp only [Option.getD_some] at e;subst e;exact u i (T1 k)
theorem Xl (t:AC) (p g:Graph):HU t p g≠10:=by
 have d:=Qw t;have j:=Kj p;have k:=Kj g;unfold HU;split
 ·exact d
 split
 ·exact j
 split
 ·exact k
 split <;> decide
theorem Up (t:AC) (p g:Graph) (m:Morphism) (inj:Bool):Mp t p g m inj≠10:=by
 have d:=Xl t p g;have j:NB t p g m≠10:=by
  unfold NB;split
  ·decide
  exact Wb (Xd t p g m) (Pv (by decide) (Sn p g m))
 unfold Mp;split
 ·exact d
 split
 ·exact j
 split <;> decide
theorem cy {ρ:Type} {v:ρ} {h:AT} {m:Morphism}:∀ (l:List EI) (st:IO × QQ) (r:ρ),EW (EX v h m) l st=.inr r->r=v:=by
 intro l
 induction l with
 | nil=>intro st r h; cases h
 | cons a l g=>
  intro st r h;rw [EW] at h;split at h
  ·exact g _ _ h
  ·cases h
  ·rename_i j d;cases h;unfold EX at d;split at d
   ·cases d
   ·cases d; rfl
theorem Zg (t:AC) (p:Pattern) (h:AT) (m:Morphism):(Lc t p h m).2≠10:=by
 have g:=SC t p;have j:=Tq t h;have k:=Up t p.Graph h.Graph m false;have o:M2 t p h≠10:=by
  unfold M2;split
  ·exact g
  ·exact j
 unfold Lc;split
 ·exact o
 split
 ·exact k
 unfold LO;split
 ·rename_i r d;rw [cy _ _ _ d]; decide
 ·split
  ·decide
  ·show (0:Int)≠10;decide
noncomputable def NK (t:AC) (p:Pattern) (c:AA) (h:AT) (m:AF) (inj:Bool):Int:=
 if H3 t p c≠0 then H3 t p c else if (Mx t h).2≠0 then (Mx t h).2 else if Mp t p.Graph h.Graph m.Morphism inj≠0 then Mp t p.Graph h.Graph m.Morphism inj else
 if (Lc t p h m.Morphism).2≠0 then (Lc t p h m.Morphism).2 else if (Lc t p h m.Morphism).1=m.Vars then 0 else 11
theorem V5 (t:AC) (p:Pattern) (c:AA) (h:AT) (m:AF) (inj:Bool):NK t p c h m inj≠10:=by
 have d:=Y2 t p c;have g:=Tq t h;have j:=Up t p.Graph h.Graph m.Morphism inj;have k:=Zg t p h m.Morphism;unfold NK;split
 ·exact d
 split
 ·exact g
 split
 ·exact j
 split
 ·exact k
 split <;> decide
variable {c:AA}
theorem cl {t:AC} (d:BY t) (p:Pattern) (g:EE c) (h:AT) (m:AF) (inj:Bool):F6 t p c h m inj=some (NK t p c h m inj):=by
 unfold F6 NK;rw [fl d p g,bs];refine Ib fun _=>?_;rw [aY d,bs];refine Ib fun _=>?_;rw [YS d,bs];refine Ib fun _=>?_;rw [fj d,bs];refine Ib fun _=>?_;rw [eH,bs];by_cases e:(Lc t p h m.Morphism).1=m.Vars
 ·rw [ci (by simp [e]),ca e]
 ·rw [ca (by simp [e]),ci e]
theorem cp {t:AC} (g:BY t) (p:Pattern) (k:EE c) (h:AT) (m:AF) (inj:Bool):L8 t p c h m inj=some (NK t p c h m inj):=by
 unfold L8 NK;rw [Wu g p k,bs];refine Ib fun _=>?_;rw [al g,bs];refine Ib fun _=>?_;unfold Nu;rw [YY g,bs];have e:∀ o:Pi,(o.bind fun j=>some j)=o:=fun o=>by cases o <;> rfl
 rw [e];refine Ib fun _=>?_;rw [f0 g,bs,fz];by_cases d:(Lc t p h m.Morphism).2=0
 ·rw [ca (by simpa using d),ci (by simp [d])];by_cases e:(Lc t p h m.Morphism).1=m.Vars
  ·rw [ca e]; simp [e,d]
  ·rw [ci e]; simp [e]
 ·rw [ci (by simpa using d),ca d]; rfl
variable {p:Pattern}
theorem Y0 {t:AC} (D:BY t) (E:cnt c<=40) {h:AT} {m:AF} {inj:Bool} (e:NK t p c h m inj=0):(BE t).2=0∧GF t h∧CV t p c∧Mg t p h m:=by
 unfold NK at e;split at e
 ·rename_i d; exact absurd e d
 rename_i d;split at e
 ·rename_i o; exact absurd e o
 rename_i o;split at e
 ·rename_i r; exact absurd e r
 rename_i r;split at e
 ·rename_i g; exact absurd e g
 rename_i g;split at e
 case isFalse=>cases e
 rename_i w;have d:=Classical.not_not.1 d;have o:=Classical.not_not.1 o;have r:=Classical.not_not.1 r;have g:=Classical.not_not.1 g;obtain ⟨hv,C⟩:=YH D o;have A:=(aC r).2;unfold H3 at d;split at d
 ·rename_i x; exact absurd d x
 rename_i x;split at d
 ·rename_i j; exact absurd d j
 rename_i j;have z:=ZQ hv (.inl (Classical.not_not.1 x));have j:=Classical.not_not.1 j;have F:bg c=true:=by
  unfold LN at j;split at j
  ·cases j
  ·rename_i u; simpa using u
 suffices k:(m.Vars.length:Int)=p.Vars∧NP m.Vars from ⟨hv,C,d9 hv _ c p (dD _) E F d,z,A,k.1,k.2⟩
 have k:∀ s∈p.Slots,Iw p.Vars h m.Morphism s:=fun s k=>Ng (HC hv) z C A k;unfold Lc at g w;split at g
 ·rename_i u; exact absurd g u
 rename_i u;rw [ci u] at w;split at g
 ·rename_i y; exact absurd g y
 rename_i y;rw [ci y] at w;have:=bM z k g;rw [w] at this;exact this
end Go.Sf.Sc
namespace Go.Sf.Sc
open Go Go.Sf
def LY:Nat->AA->Bool
 | 0,_=>true
 | N+1,c=>if anyR (fun i=>!LY N (AB c.Kids i)) 0 c.Kids.length=true then false else decide (A4 ((c.Pattern.Graph.Nodes.length:Int)+c.Pattern.Graph.Edges.length)<=6)
theorem VM:∀ (N:Nat) (c:AA),SizeOf.sizeOf c<=N->∀ n,N<=n->Hx n c=some (LY N c)
 | 0,c,h,_,_=>by have:=DP c; omega
 | N+1,c,h,n,j=>by
  obtain ⟨n,rfl⟩:∃ k,n=k+1:=⟨n - 1,by omega⟩;rw [Hx,LY,CR (fun i=>!LY N (AB c.Kids i)) false]
  ·cases anyR (fun i=>!LY N (AB c.Kids i)) 0 c.Kids.length <;> rfl
  ·intro i d g _;have:=D9 (AP (l:=c.Kids) d g);rw [AI d g,bs,VM N _ (by omega) n (by omega),bs,J2]
theorem Wy (c:AA):O1 c=some (LY (SizeOf.sizeOf c) c):=E9 (SizeOf.sizeOf c) fun n d=>VM _ c (dD _) n d
def MN (a:Int):Nat->Int->Int
 | 0,s=>s
 | k+1,s=>A4 (MN a k s*a)
theorem eM {a b k s:Int} (j:0<=k) (g:k<=1000) (o:b<=1000):I7 (ρ:=Bool) (fun (d:Int × Int)=>
  if (decide (d.2<b))=true then
  some (.next (A4 (d.1*a),A4 (d.2+1)))
  else
  some (.brk (d.1,d.2))) (s,k)=some (.inl (MN a (max k b - k).toNat s,max k b)):=by
 refine UM (fun i=>MN a (i - k).toNat s) (by omega) (by rw [show (k - k).toNat=0 by omega]; rfl) (fun i r u=>?_) ?_
 ·rw [ca (by simp; omega),show (i+1 - k).toNat=(i - k).toNat+1 by omega,MN];dsimp only;rw [BI (n:=i+1) (by omega) (by omega)]
 ·rw [ci (by simp; omega)]
def Lr (a b:Int):Nat->Pattern->AA->Bool
 | 0,_,_=>true
 | N+1,p,c=>
  let q:=if c.Kind=5 then c.Pattern else p
  if anyR (fun i=>!Lr a b N q (AB c.Kids i)) 0 c.Kids.length=true then false else
  decide (MN b (max (p.Graph.Edges.length:Int) q.Graph.Edges.length - p.Graph.Edges.length).toNat (MN a (max (p.Graph.Nodes.length:Int) q.Graph.Nodes.length - p.Graph.Nodes.length).toNat 1)<=5000)
theorem Wt (a b:Int):∀ (N:Nat) (c:AA) (p:Pattern),SizeOf.sizeOf c<=N->EE c->P8 p->∀ n,N<=n->FU n p c a b=some (Lr a b N p c)
 | 0,c,_,h,_,_,_,_=>by have:=DP c; omega
 | N+1,c,p,h,o,z,n,L=>by
  obtain ⟨n,rfl⟩:∃ k,n=k+1:=⟨n - 1,by omega⟩;have F:=o.q.nodes;have G:=o.q.edges;have H:=z.nodes;have I:=z.edges;have d:∀ q:Pattern,P8 q->(thenR (I7 (ρ:=Bool) (fun (g:Int × Int)=>
    if (decide (g.2<(q.Graph.Nodes.length:Int)))=true then
    some (.next (A4 (g.1*a),A4 (g.2+1)))
    else
    some (.brk (g.1,g.2))) (1,(p.Graph.Nodes.length:Int))) (fun g=>
    thenR (I7 (ρ:=Bool) (fun (s2:Int × Int)=>
    if (decide (s2.2<(q.Graph.Edges.length:Int)))=true then
    some (.next (A4 (s2.1*b),A4 (s2.2+1)))
    else
    some (.brk (s2.1,s2.2))) (g.1,(p.Graph.Edges.length:Int))) (fun s2=>
    thenR (forR (ρ:=Bool) (fun (A:Int) (_:Unit)=>
    (AM c.Kids A).bind fun r=>
    (FU n q r a b).bind fun u=>
    if (!u)=true then
    some (.ret false)
    else
    some (.next ())) 0 (c.Kids.length:Int) ()) (fun _=>
    some (decide (s2.1<=5000))) (fun C=>some C)) (fun D=>some D)) (fun E=>some E)) =
    some (if anyR (fun i=>!Lr a b N q (AB c.Kids i)) 0 c.Kids.length=true then false else
     decide (MN b (max (p.Graph.Edges.length:Int) q.Graph.Edges.length - p.Graph.Edges.length).toNat (MN a (max (p.Graph.Nodes.length:Int) q.Graph.Nodes.length - p.Graph.Nodes.length).toNat 1)<=5000)):=by
   intro q w;have J:=w.nodes;have K:=w.edges;rw [eM (by omega) (by omega) (by omega),DX];dsimp only;rw [eM (by omega) (by omega) (by omega),DX,CR (fun i=>!Lr a b N q (AB c.Kids i)) false]
   ·cases anyR (fun i=>!Lr a b N q (AB c.Kids i)) 0 c.Kids.length <;> rfl
   ·intro i x y _;have:=D9 (AP (l:=c.Kids) x y);rw [AI x y,bs,Wt a b N _ q (by omega) (o.k _ (AP x y)) w n (by omega),bs,J2]
  rw [FU,Lr];by_cases j:c.Kind=5
  ·rw [ca (by simpa using j),ca j,bs,d _ o.q]
  ·rw [ci (by simpa using j),ci j,bs,d _ z]
variable {c:AA} {p:Pattern}
theorem VJ (a b:Int) (d:EE c) (g:P8 p):OL p c a b=some (Lr a b (SizeOf.sizeOf c) p c):=E9 (SizeOf.sizeOf c) fun n j=>Wt a b _ c p (dD _) d g n j
theorem WG (h:AT):∃ b,Mb h=some b:=by
 unfold Mb KH;rw [bs];split
 ·exact ⟨_,rfl⟩
 ·rw [CR (fun i=>decide (12<((AB h.Values i).length:Int))) false]
  ·cases anyR (fun i=>decide (12<((AB h.Values i).length:Int))) 0 h.Values.length
   ·exact ⟨true,rfl⟩
   ·exact ⟨false,rfl⟩
  ·intro i d g _;rw [AI d g,bs,J2]
theorem VL {t:AC} (d:BY t) (st:(AV t).Sm) (p g:Graph):∃ b,L0 t p g=some b:=by
 obtain ⟨b,e,_⟩:=Uv st;unfold L0 KH;rw [e,bs,TG d];simp only [bs];cases b <;> simp only [Bool.false_eq_true,if_false,if_true,bs]
 ·exact ⟨_,rfl⟩
 ·split <;> (rw [bs]; split <;> exact ⟨_,rfl⟩)
theorem am {t:AC} (j:BY t) (st:(AV t).Sm) (p:Pattern) (w:(AE c).Sm) (h:AT):∃ b,E0 t p c h=some b∧(b=true->EE c∧cnt c<=40∧P8 p):=by
 obtain ⟨x,y,z⟩:=Ut w;obtain ⟨A,r,C⟩:=UU p;obtain ⟨D,u⟩:=WG h;unfold E0;rw [y,bs];cases x
 ·exact ⟨false,rfl,fun h=>by cases h⟩
 rw [r];cases A
 ·exact ⟨false,rfl,fun h=>by cases h⟩
 rw [u];cases D
 ·exact ⟨false,rfl,fun h=>by cases h⟩
 have g:=z rfl;have k:=C rfl;simp only [bs,Bool.not_true,Bool.false_eq_true,if_false];rw [Wu j p g.1,bs];have d:∀ o:Ne,(∃ b,o=some b)->∃ b,o=some b∧(b=true->EE c∧cnt c<=40∧P8 p):=fun o ⟨b,e⟩=>⟨b,e,fun _=>⟨g.1,g.2,k⟩⟩;refine d _ ?_;split
 ·exact ⟨true,rfl⟩
 ·obtain ⟨E,F⟩:=VL j st p.Graph h.Graph;unfold L4;rw [r,u,F,Wy,VJ 14 18 g.1 k];simp only [bs,if_true];cases E <;> simp only [Bool.false_eq_true,if_false,if_true,bs,Bool.false_and]
  ·exact ⟨_,rfl⟩
  ·split
   ·exact ⟨_,rfl⟩
   ·exact ⟨_,rfl⟩
noncomputable def wS (t:AC) (p:Pattern) (c:AA) (h:AT) (m:AF) (inj:Bool):A1 × Int:=
 if NK t p c h m inj≠0 then (zP,NK t p c h m inj) else DS t h inj (SizeOf.sizeOf c) c m
theorem ag {t:AC} (d:BY t) (p:Pattern) (j:EE c) (k:cnt c<=40) (h:AT) (m:AF) (inj:Bool):E2 t p c h m inj=some (wS t p c h m inj):=by
 unfold E2 wS;rw [cl d p j,bs];refine K7 fun o=>?_;obtain ⟨hv,u,g,w⟩:=Y0 d k o;rw [show E7 (A8.mk t h inj) c m=some (DS t h inj (SizeOf.sizeOf c) c m) from E9 (2*SizeOf.sizeOf c) fun n r=>T6 (s:=⟨t,h,inj⟩) d hv u _ c p m (dD _) g w n r];rfl
noncomputable def Ij (t:AC) (p:Pattern) (c:AA) (h:AT) (m:AF) (inj:Bool):Bool × Int:=
 if (wS t p c h m inj).2=10 then (false,0) else (decide ((wS t p c h m inj).2=0),(wS t p c h m inj).2)
theorem Sp {t:AC} (d:BY t) (p:Pattern) (g:EE c) (j:cnt c<=40) (h:AT) (m:AF) (inj:Bool):C7 t p c h m inj=some (Ij t p c h m inj):=by
 unfold C7 Ij;rw [ag d p g j,bs];by_cases e:(wS t p c h m inj).2=10
 ·rw [ca (by simpa using e),ca e]
 ·rw [ci (by simpa using e),ci e]
theorem Wv {t:AC} (g:BY t) {h:AT} {inj:Bool} {m:AF} (hv:(BE t).2=0) (j:GF t h) (d:CV t p c) (k:Mg t p h m):Pl t c h m inj=some (D6 t h inj (SizeOf.sizeOf c) c m):=E9 (SizeOf.sizeOf c) fun n o=>Py g hv j _ c p m (dD _) d k n o
theorem Xu {t:AC} (g:BY t) (p:Pattern) (o:EE c) (r:cnt c<=40) (h:AT) (m:AF) (inj:Bool):JU t p c h m inj=some (Ij t p c h m inj):=by
 unfold JU Ij;rw [cp g p o,bs];have u:=V5 t p c h m inj;by_cases d:NK t p c h m inj=0
 ·have j:(wS t p c h m inj).2=(D6 t h inj (SizeOf.sizeOf c) c m).2:=by unfold wS; rw [ci (by simp [d]),Ug,Wg]
  rw [ci (by simp [d]),j];obtain ⟨hv,w,k,x⟩:=Y0 g r d;unfold Ks;rw [Wv g hv w k x,bs];by_cases e:(D6 t h inj (SizeOf.sizeOf c) c m).2=10
  ·rw [ca (by simpa using e),ca e]; rfl
  ·rw [ci (by simpa using e),ci e]; rfl
 ·have j:(wS t p c h m inj).2=NK t p c h m inj:=by unfold wS; rw [ca d]
  rw [ca (by simp [d]),j,ci u];simp [d]
end Go.Sf.Sc
namespace Go.Sf.Sc
open Go Go.Sf
end Go.Sf.Sc
namespace Go.Sf.Sc
open Go Go.Sf
end Go.Sf.Sc
namespace Go.Sf.Sc
open Go Go.Sf
def FZ:IO->Nat
 | []=>0
 | x::l=>(if x<0 then 1 else 0)+FZ l
variable {B:Nat}
theorem NW {α β:Type} {F:α->List β}:∀ {l:List α},(∀ k∈l,(F k).length<=B)->(l.flatMap F).length<=l.length*B
 | [],_=>by simp
 | a::l,h=>by
  have:=NW (F:=F) (l:=l) fun k d=>h k (by simp [d]);have:=h a (by simp);rw [List.flatMap_cons,d0,d2,Nat.succ_mul];omega
theorem Th {α β:Type} {F:α->List β}:∀ {l:List α},(∀ k∈l,F k=[])->l.flatMap F=[]
 | [],_=>rfl
 | a::l,h=>by rw [List.flatMap_cons,h a (by simp),Th fun k d=>h k (by simp [d])]; rfl
theorem R0 {α β:Type} {F:α->List β} {a:α}:∀ {l:List α},l.Nodup->(∀ k∈l,k≠a->F k=[])->(F a).length<=B->(l.flatMap F).length<=B
 | [],_,_,_=>by simp
 | b::l,g,h,j=>by
  rw [List.nodup_cons] at g;rw [List.flatMap_cons,d0];by_cases e:b=a
  ·subst e;rw [Th fun k d=>h k (by simp [d]) fun e=>g.1 (e ▸ d)];simpa using j
  ·rw [h b (by simp) e];have:=R0 g.2 (fun k d=>h k (by simp [d])) j;simpa using this
theorem UK (n:Nat):(BJ n).Nodup:=by
 induction n with
 | zero=>simp [BJ]
 | succ n j=>
  rw [LR,List.nodup_append];refine ⟨j,by simp,fun a d b g e=>?_⟩;rw [List.mem_singleton] at g;have:=Hu.1 d;omega
theorem WB {l:IO} {k:Nat} (h:k<l.length):l.drop k=AB l k::l.drop (k+1):=by
 rw [List.drop_eq_getElem_cons h];congr 1;unfold AB;rw [List.getD_eq_getElem?_getD,List.getElem?_eq_getElem (by omega)]; rfl
theorem iZ:∀ (n:Nat) (f:AN),f.edges.length+n=f.partial_.Edges.length->(FB n f).length<=f.g.Edges.length ^ FZ (f.partial_.Edges.drop f.edges.length)
 | 0,f,h=>by
  rw [List.drop_of_length_le (by omega)];simp [FB,FZ]
 | n+1,f,h=>by
  have u:=WB (l:=f.partial_.Edges) (k:=f.edges.length) (by omega);have o:∀ k,(if PT f k=true then FB n { f with edges:=f.edges++[k] } else []).length<=f.g.Edges.length ^ FZ (f.partial_.Edges.drop (f.edges.length+1)):=by
   intro k;split
   ·have:=iZ n { f with edges:=f.edges++[k] } (by show (f.edges++[k]).length+n=f.partial_.Edges.length; rw [d0,List.length_singleton]; omega);have e:(f.edges++[k]).length=f.edges.length+1:=by rw [d0,List.length_singleton]
    dsimp only at this
    rwa [e] at this
   ·simp
  rw [FB,u,FZ];by_cases j:AB f.partial_.Edges (f.edges.length:Int)<0
  ·rw [ca j,Nat.pow_add,Nat.pow_one];have:=NW (l:=BJ f.g.Edges.length) (B:=f.g.Edges.length ^ FZ (f.partial_.Edges.drop (f.edges.length+1))) (fun k _=>o k)
   rwa [DN] at this
  ·rw [ci j,Nat.zero_add];refine R0 (a:=AB f.partial_.Edges (f.edges.length:Int)) (UK _) (fun k _ r=>?_) (o _);rw [ci];intro d;unfold PT at d;rw [zzZ,Qq,zzZ,Bool.or_eq_true,zzX,zzX] at d;rcases d.1.1 with h | h
   ·exact j h
   ·exact r h.symm
theorem ia:∀ (n:Nat) (f:AN),f.edges=[]->f.p.Edges.length=f.partial_.Edges.length->f.nodes.length+n=f.partial_.Nodes.length->(HO n f).length<=f.g.Nodes.length ^ FZ (f.partial_.Nodes.drop f.nodes.length)*f.g.Edges.length ^ FZ f.partial_.Edges
 | 0,f,j,r,h=>by
  rw [List.drop_of_length_le (by omega)];have:=iZ f.p.Edges.length f (by rw [j,r]; simp);rw [j] at this;simpa [HO,FZ] using this
 | n+1,f,j,r,h=>by
  have x:=WB (l:=f.partial_.Nodes) (k:=f.nodes.length) (by omega);have u:∀ k,(if PU f k=true then HO n { f with nodes:=f.nodes++[k] } else []).length<=f.g.Nodes.length ^ FZ (f.partial_.Nodes.drop (f.nodes.length+1))*f.g.Edges.length ^ FZ f.partial_.Edges:=by
   intro k;split
   ·have:=ia n { f with nodes:=f.nodes++[k] } j r (by show (f.nodes++[k]).length+n=f.partial_.Nodes.length; rw [d0,List.length_singleton]; omega);have e:(f.nodes++[k]).length=f.nodes.length+1:=by rw [d0,List.length_singleton]
    dsimp only at this
    rwa [e] at this
   ·simp
  rw [HO,x,FZ];by_cases o:AB f.partial_.Nodes (f.nodes.length:Int)<0
  ·rw [ca o,Nat.pow_add,Nat.pow_one,Nat.mul_assoc];have:=NW (l:=BJ f.g.Nodes.length) (B:=f.g.Nodes.length ^ FZ (f.partial_.Nodes.drop (f.nodes.length+1))*f.g.Edges.length ^ FZ f.partial_.Edges) (fun k _=>u k)
   rwa [DN] at this
  ·rw [ci o,Nat.zero_add];refine R0 (a:=AB f.partial_.Nodes (f.nodes.length:Int)) (UK _) (fun k _ w=>?_) (u _);rw [ci];intro d;unfold PU at d;rw [zzZ,zzZ,Bool.or_eq_true,zzX,zzX] at d;rcases d.1.1 with h | h
   ·exact o h
   ·exact w h.symm
theorem Xk {t:AC} {p g:Graph} {d:Morphism} {inj:Bool} (k:d.Nodes.length=p.Nodes.length) (j:d.Edges.length=p.Edges.length):(Ls t p g d inj).length<=g.Nodes.length ^ FZ d.Nodes*g.Edges.length ^ FZ d.Edges:=by
 have:=ia p.Nodes.length (FF t p g d inj) rfl j.symm (by show 0+p.Nodes.length=d.Nodes.length; omega);unfold Ls;rw [d1];exact Nat.le_trans (Nat.min_le_right _ _) this
theorem Wd:∀ (l:IO) (k:Nat) (v:Int),k<l.length->l.getD k default<0->0<=v->FZ (l.set k v)+1=FZ l
 | [],k,v,h,_,_=>by simp at h
 | x::l,0,v,_,d,g=>by
  simp at d;rw [List.set_cons_zero,FZ,FZ,ci (by omega),ca d]; omega
 | x::l,k+1,v,j,d,g=>by
  have:=Wd l k v (by simpa using j) (by simpa using d) g;rw [List.set_cons_succ,FZ,FZ];omega
theorem ce (n:Nat):FZ (List.replicate n (-1))=n:=by
 induction n with
 | zero=>rfl
 | succ n d=>rw [List.replicate_succ,FZ,d]; simp; omega
theorem fD {α:Type} [Inhabited α] {l:List α} {i j:Int} (v:α) (d:0<=i) (g:0<=j) (h:j≠i):AB (B1 l i v) j=AB l j:=by
 unfold AB B1;rw [List.getD_eq_getElem?_getD,List.getD_eq_getElem?_getD,List.getElem?_set];rw [ci (by omega)]
variable {by' images:IO}
theorem VE:∀ (d l:IO),(d.map (AB by')).Nodup->(∀ k∈d,(0<=AB by' k∧AB by' k<l.length)∧AB l (AB by' k)<0∧0<=AB images k)->FZ (d.foldl (fun l i=>B1 l (AB by' i) (AB images i)) l)+d.length=FZ l
 | [],l,_,_=>by simp
 | k::d,l,g,h=>by
  obtain ⟨u,w,x⟩:=h k (by simp);rw [List.map_cons,List.nodup_cons] at g;have e:=Wd l (AB by' k).toNat (AB images k) (by omega) w x;have A:=VE d (B1 l (AB by' k) (AB images k)) g.2 (fun j o=>by
   obtain ⟨r,y,z⟩:=h j (by simp [o]);refine ⟨by rw [O2]; exact r,?_,z⟩;rw [fD _ u.1 r.1]
   ·exact y
   ·intro e;exact g.1 (List.mem_map.2 ⟨j,o,e⟩))
  rw [List.foldl_cons,d2];have C:FZ (B1 l (AB by' k) (AB images k))+1=FZ l:=e;omega
theorem XR (l:IO):(BJ l.length).map (AB l)=l:=by
 refine Z7 (by rw [d3,DN]) (fun i g d=>?_);rw [d3,DN] at d;exact Mf _ g d
variable {n:Nat}
theorem Tx (j:by'.Nodup) (o:∀ x∈by',0<=x∧x<n) (hi:∀ k:Int,0<=k->k<by'.length->0<=AB images k):FZ (I1 n by' images)+by'.length=n:=by
 have:=VE (by':=by') (images:=images) (BJ by'.length) (List.replicate n (-1)) (by rw [XR]; exact j) (fun k d=>by
  have d:=Hu.1 d;have g:=o _ (AP d.1 d.2);refine ⟨by simpa using g,?_,hi k d.1 d.2⟩;have:AB (List.replicate n (-1:Int)) (AB by' k)∈List.replicate n (-1:Int):=AP g.1 (by simpa using g.2);rw [List.mem_replicate] at this;omega)
 rw [ce,DN] at this;exact this
def dr (p:Pattern) (c:AA):Prop:=14 ^ (c.Pattern.Graph.Nodes.length - p.Graph.Nodes.length)*18 ^ (c.Pattern.Graph.Edges.length - p.Graph.Edges.length)<=5000
variable {p:Pattern} {c:AA}
theorem Nz {t:AC} {h:AT} {inj:Bool} {m:AF} (hv:(BE t).2=0) (C:GF t h) (r:Mg t p h m) (hi:Vr t p c) (D:dr p c) (E:h.Graph.Nodes.length<=14) (F:h.Graph.Edges.length<=18):(BV t c h m inj).2=0:=by
 have d:=hi.inj;unfold NZ at d;rw [zzZ,QF,QF] at d;have m1:=hi.map.nlen;have N:=hi.map.elen;have O:=r.m.nlen;have P:=r.m.elen;have Q:=Tx (n:=c.Pattern.Graph.Nodes.length) (images:=m.Morphism.Nodes) d.1 (fun x j=>by obtain ⟨i,y,z,rfl⟩:=ED j; exact (hi.map.node i y z).1) (fun k u w=>(r.m.node k u (by omega)).1.1);have R:=Tx (n:=c.Pattern.Graph.Edges.length) (images:=m.Morphism.Edges) d.2 (fun x j=>by obtain ⟨i,y,z,rfl⟩:=ED j; exact (hi.map.edge i y z).1) (fun k u w=>(r.m.edge k u (by omega)).1);have K:∀ o:Morphism,o.Nodes.length=c.Pattern.Graph.Nodes.length->o.Edges.length=c.Pattern.Graph.Edges.length->(∀ x∈o.Nodes,-1<=x∧x<h.Graph.Nodes.length)->(∀ x∈o.Edges,-1<=x∧x<h.Graph.Edges.length)->FZ o.Nodes=c.Pattern.Graph.Nodes.length - p.Graph.Nodes.length->FZ o.Edges=c.Pattern.Graph.Edges.length - p.Graph.Edges.length->(Ou t c.Pattern.Graph h.Graph o inj).2=0:=by
  intro o l1 l2 G H I J;unfold Ou;rw [ci,ci (by omega),ci,ci,ci]
  ·have:=Xk (t:=t) (g:=h.Graph) (inj:=inj) l1 l2;rw [I,J] at this;have w:h.Graph.Nodes.length ^ (c.Pattern.Graph.Nodes.length - p.Graph.Nodes.length)<=14 ^ (c.Pattern.Graph.Nodes.length - p.Graph.Nodes.length):=Nat.pow_le_pow_left E _;have L:h.Graph.Edges.length ^ (c.Pattern.Graph.Edges.length - p.Graph.Edges.length)<=18 ^ (c.Pattern.Graph.Edges.length - p.Graph.Edges.length):=Nat.pow_le_pow_left F _;have S:=Nat.mul_le_mul w L;unfold dr at D;omega
  ·unfold Nn;rw [ci]
   ·simp
   ·rw [List.any_eq_true];rintro ⟨x,j,e⟩;have:=H x j;unfold Oo at e;rw [Bool.or_eq_true,zzX,zzX] at e;omega
  ·unfold Nn;rw [ci]
   ·simp
   ·rw [List.any_eq_true];rintro ⟨x,j,e⟩;have:=G x j;unfold Oo at e;rw [Bool.or_eq_true,zzX,zzX] at e;omega
  ·unfold HU;rw [ci (by simp [hv]),ci (by simp [hi.q.ge]),ci (by simp [C.ge]),ca (by rw [hi.q.ty,C.ty]; rfl)];simp
 have M:=K ⟨I1 c.Pattern.Graph.Nodes.length c.Map.Nodes m.Morphism.Nodes,I1 c.Pattern.Graph.Edges.length c.Map.Edges m.Morphism.Edges⟩ (T7 _ _ _) (T7 _ _ _) (fun x j=>by
  rcases T8 j with e | ⟨k,A,e⟩
  ·omega
  ·have:=(r.m.node k A.1 (by omega)).1; omega) (fun x j=>by
  rcases T8 j with e | ⟨k,A,e⟩
  ·omega
  ·have:=r.m.edge k A.1 (by omega); omega) (by show FZ (I1 _ _ _)=_; omega) (by show FZ (I1 _ _ _)=_; omega)
 unfold BV;dsimp only;rw [ci (by rw [M]; simp)]
end Go.Sf.Sc
namespace Go.Sf.Sc
open Go Go.Sf
def QV (t:AC) (p:Pattern) (c:AA):Int:=
 if c.Pattern.Vars<p.Vars then 20 else if ML t c.Pattern p.Vars≠0 then ML t c.Pattern p.Vars else
 if MM p.Graph c.Pattern.Graph c.Map≠0 then MM p.Graph c.Pattern.Graph c.Map else if NZ c.Map=false then 1 else 0
inductive CG (t:AC):Pattern->AA->Prop where
 | mk (p:Pattern) (c:AA) (ex:c.Kind=5->QV t p c=0∧dr p c) (kids:∀ k∈c.Kids,CG t (if c.Kind=5 then c.Pattern else p) k):CG t p c
variable {p:Pattern} {c:AA}
theorem CG.ex {t:AC} (h:CG t p c):c.Kind=5->QV t p c=0∧dr p c:=by cases h; assumption
theorem CG.kids {t:AC} (h:CG t p c):∀ k∈c.Kids,CG t (if c.Kind=5 then c.Pattern else p) k:=by cases h; assumption
theorem CG.kid {t:AC} (h:CG t p c) (d:¬ c.Kind=5):∀ k∈c.Kids,CG t p k:=fun k g=>by have:=h.kids k g; rwa [ci d] at this
theorem CG.kid5 {t:AC} (h:CG t p c) (d:c.Kind=5):∀ k∈c.Kids,CG t c.Pattern k:=fun k g=>by have:=h.kids k g; rwa [ca d] at this
theorem fg (t:AC) (p:Pattern) (c:AA) (N:Nat):HE (N+1) t p c=if c.Kind=5∧QV t p c≠0 then QV t p c else (fst (fun i=>nz (HE N t (if c.Kind=5 then c.Pattern else p) (AB c.Kids i))) 0 c.Kids.length).getD 0:=by
 rw [HE];by_cases d:c.Kind=5
 ·rw [ca d,ca d];unfold QV;by_cases k:c.Pattern.Vars<p.Vars
  ·rw [ca k,ca k,ca ⟨d,by decide⟩]
  rw [ci k,ci k];by_cases g:ML t c.Pattern p.Vars≠0
  ·rw [ca g,ca g,ca ⟨d,g⟩]
  rw [ci g,ci g];by_cases j:MM p.Graph c.Pattern.Graph c.Map≠0
  ·rw [ca j,ca j,ca ⟨d,j⟩]
  rw [ci j,ci j];by_cases o:NZ c.Map=false
  ·rw [ca o,ca o,ca ⟨d,by decide⟩]
  rw [ci o,ci o,ci (by simp)]
 ·rw [ci d,ci d,ci (by simp [d])]
theorem UW {a:Nat} (d:a<=18) (g:1<=a) {s:Nat}:∀ k:Nat,(∀ j,j<=k->a ^ j*s<=18 ^ 6)->MN a k s=((a ^ k*s:Nat):Int)
 | 0,_=>by simp [MN]
 | k+1,h=>by
  have e:=UW d g (s:=s) k fun j r=>h j (by omega);have b:=h (k+1) (dD _);rw [MN,e];have o:((a ^ k*s:Nat):Int)*(a:Int)=((a ^ (k+1)*s:Nat):Int):=by
   rw [Nat.pow_succ]; push_cast; rw [Int.mul_right_comm]
  rw [o,BI (by omega) (by
   have:((18:Nat) ^ 6)=34012224:=by decide
   omega)]
variable {q:Pattern}
theorem iU (h:MN 18 (max (p.Graph.Edges.length:Int) q.Graph.Edges.length - p.Graph.Edges.length).toNat (MN 14 (max (p.Graph.Nodes.length:Int) q.Graph.Nodes.length - p.Graph.Nodes.length).toNat 1)<=5000) (z:q.Graph.Nodes.length+q.Graph.Edges.length<=6) :
  14 ^ (q.Graph.Nodes.length - p.Graph.Nodes.length)*18 ^ (q.Graph.Edges.length - p.Graph.Edges.length)<=5000:=by
 have o:(max (p.Graph.Edges.length:Int) q.Graph.Edges.length - p.Graph.Edges.length).toNat=q.Graph.Edges.length - p.Graph.Edges.length:=by omega
 have r:(max (p.Graph.Nodes.length:Int) q.Graph.Nodes.length - p.Graph.Nodes.length).toNat=q.Graph.Nodes.length - p.Graph.Nodes.length:=by omega
 rw [o,r] at h;generalize A:q.Graph.Edges.length - p.Graph.Edges.length=j at *;generalize C:q.Graph.Nodes.length - p.Graph.Nodes.length=k at *;have u:k+j<=6:=by omega
 have w:∀ i,i<=k->14 ^ i*1<=18 ^ 6:=fun i hi=>by
  rw [Nat.mul_one];exact Nat.le_trans (Nat.pow_le_pow_left (by omega) i) (Nat.pow_le_pow_right (by omega) (by omega))
 have x:∀ i,i<=j->18 ^ i*(14 ^ k*1)<=18 ^ 6:=fun i hi=>by
  rw [Nat.mul_one];refine Nat.le_trans (Nat.mul_le_mul_left _ (Nat.pow_le_pow_left (by omega:14<=18) k)) ?_;rw [←Nat.pow_add];exact Nat.pow_le_pow_right (by omega) (by omega)
 have m1:=UW (a:=14) (by omega) (by omega) (s:=1) k w;have y:=UW (a:=18) (by omega) (by omega) (s:=14 ^ k*1) j x;have d:MN 14 k 1=((14 ^ k*1:Nat):Int):=m1;have g:MN 18 j ((14 ^ k*1:Nat):Int)=((18 ^ j*(14 ^ k*1):Nat):Int):=y;rw [d,g,Nat.mul_one,Nat.mul_comm] at h;omega
theorem dz {t:AC}:∀ (N:Nat) {p:Pattern} {c:AA},SizeOf.sizeOf c<=N->(∀ M,M=N->HE M t p c=0)->Lr 14 18 N p c=true->LY N c=true->EE c->CG t p c
 | 0,_,c,h,_,_,_,_=>by have:=DP c; omega
 | N+1,p,c,h,ho,d,u,A=>by
  have ho:=ho _ rfl;rw [fg] at ho;rw [Lr] at d;rw [LY] at u;generalize x:(if c.Kind=5 then c.Pattern else p)=q at d
  try dsimp only at d
  split at d
  ·cases d
  rename_i j;split at u
  ·cases u
  rename_i o;rw [zzX] at d u;rw [Bool.not_eq_true,ET] at j o;have E:=A.q.nodes;have F:=A.q.edges;rw [BI (by omega) (by omega)] at u;have r:(fst (fun i=>nz (HE N t (if c.Kind=5 then c.Pattern else p) (AB c.Kids i))) 0 c.Kids.length).getD 0=0:=by
   by_cases g:c.Kind=5∧QV t p c≠0
   ·rw [ca g] at ho; exact absurd ho g.2
   ·rwa [ci g] at ho
  refine .mk p c (fun C=>⟨?_,?_⟩) (fun k w=>?_)
  ·by_cases g:QV t p c≠0
   ·rw [ca ⟨C,g⟩] at ho; exact ho
   ·exact Classical.not_not.1 g
  ·rw [ca C] at x;subst x;exact iU d (by omega)
  ·have G:=D9 w;obtain ⟨i,y,z,rfl⟩:=ED w;refine dz N (by omega) (fun M D=>by subst D; exact Tm r i y z) ?_ ?_ (A.k _ w)
   ·have:=j i y z;rw [x];simpa using this
   ·have:=o i y z;simpa using this
mutual
def EY (t:AC) (h:AT) (inj:Bool):AA->AF->Bool
 | ⟨k,kids,mp,p⟩,m=>
  if k=2 then !((S3 t h inj kids).headD fun _=>true) m else
  if k=3 then (S3 t h inj kids).all fun f=>f m else
  if k=4 then (S3 t h inj kids).any fun f=>f m else
  if k=5 then (BV t ⟨k,kids,mp,p⟩ h m inj).1.any ((S3 t h inj kids).headD fun _=>true) else true
def S3 (t:AC) (h:AT) (inj:Bool):List AA->List (AF->Bool)
 | []=>[]
 | c::l=>EY t h inj c::S3 t h inj l
end
theorem V8 (t:AC) (h:AT) (inj:Bool):∀ l,S3 t h inj l=l.map (EY t h inj)
 | []=>rfl
 | c::l=>by rw [S3,V8 t h inj l]; rfl
theorem V9 (t:AC) (h:AT) (inj:Bool) (c:AA) (m:AF):EY t h inj c m =
  if c.Kind=2 then !((c.Kids.map (EY t h inj)).headD fun _=>true) m else
  if c.Kind=3 then c.Kids.all fun k=>EY t h inj k m else
  if c.Kind=4 then c.Kids.any fun k=>EY t h inj k m else
  if c.Kind=5 then (BV t c h m inj).1.any ((c.Kids.map (EY t h inj)).headD fun _=>true) else true:=by
 cases c;rw [EY,V8,List.all_map,List.any_map];rfl
variable {β:Type}
theorem NY {α:Type} [Inhabited α] {l:List α} {f:α->β} {d:β} (h:l.length=1):(l.map f).headD d=f (AB l 0):=by
 obtain ⟨x,rfl⟩:=List.length_eq_one_iff.1 h;rfl
theorem YG {w:Int->A1 × Int} {d:Int->Bool} {F:Int->Option (A1 × Int)} {n:Int} (x:∀ i,0<=i->i<n->(w i).2=if d i=true then 0 else 10)
  (y:∀ i,0<=i->i<n->((F i).map (·.2))=if (w i).2=0 then some 0 else if (w i).2≠10 then some (w i).2 else none):((fst F 0 n).getD (zP,10)).2=if anyR d 0 n=true then 0 else 10:=by
 cases z:fst F 0 n with
 | none=>
  have A:=DA.1 z;rw [ci]
  ·rfl
  ·rw [Bool.not_eq_true,ET];intro i j o;have g:=y i j o;rw [A i j o,x i j o] at g;cases u:d i
   ·rfl
   ·rw [u] at g; simp at g
 | some r=>
  obtain ⟨i,j,o,k,_⟩:=C1 z;have g:=y i j o;rw [k,x i j o] at g;cases u:d i
  ·rw [u] at g; simp at g
  ·rw [u] at g;rw [ca (by rw [IW]; exact ⟨i,j,o,u⟩)];simpa using g
theorem Vy {w:AA->A1 × Int} {d:AA->Bool}:∀ (l:List AA) (s:A1 × A1),(∀ k∈l,(w k).2=if d k=true then 0 else 10)->(match EW (Lj w) l s with | .inl s=>(s.2,(0:Int)) | .inr r=>r).2=if l.all d=true then 0 else 10
 | [],s,_=>rfl
 | k::l,s,h=>by
  have g:=h k (by simp);rw [EW];unfold Lj;rw [List.all_cons];cases j:d k
  ·rw [j] at g;rw [ca (by rw [g]; decide)];simpa using g
  ·rw [j] at g;rw [ci (by rw [g]; decide),Bool.true_and];exact Vy l _ fun k g=>h k (by simp [g])
theorem Uf {t:AC} {h:AT} {inj:Bool} (hv:(BE t).2=0) (D:GF t h) (F:h.Graph.Nodes.length<=14) (G:h.Graph.Edges.length<=18):∀ (N:Nat) (c:AA) (p:Pattern) (m:AF),SizeOf.sizeOf c<=N->CV t p c->CG t p c->Mg t p h m->(DS t h inj N c m).2=if EY t h inj c m=true then 0 else 10
 | 0,c,_,_,h,_,_,_=>by have:=DP c; omega
 | N+1,c,p,m,L,j,x,y=>by
  have kid:∀ k∈c.Kids,SizeOf.sizeOf k<=N:=fun k d=>by have:=D9 d; omega
  have z:=Uf hv D F G (inj:=inj) N;rw [DS,V9];by_cases u:c.Kind=2
  ·have E:=j.one (.inl u);rw [ca u,ca u,NY E];have d:=AP (l:=c.Kids) (i:=0) (by omega) (by omega);have e:=z _ p m (kid _ d) (j.kid (by omega) _ d) (x.kid (by omega) _ d) y;cases H:EY t h inj (AB c.Kids 0) m
   ·rw [H] at e;rw [ci (by rw [e]; decide),ca (by rw [e]; rfl)]; rfl
   ·rw [H] at e;rw [ca (by rw [e]; rfl)]; rfl
  rw [ci u,ci u];by_cases A:c.Kind=3
  ·rw [ca A,ca A];exact Vy c.Kids (zP,zP) fun k d=>z k p m (kid k d) (j.kid (by omega) k d) (x.kid (by omega) k d) y
  rw [ci A,ci A];by_cases C:c.Kind=4
  ·rw [ca C,ca C,Ka];refine YG (w:=fun i=>DS t h inj N (AB c.Kids i) m) (fun i o r=>?_) (fun i o r=>?_)
   ·have d:=AP o r;exact z _ p m (kid _ d) (j.kid (by omega) _ d) (x.kid (by omega) _ d) y
   ·try dsimp only
    split
    ·rfl
    ·split <;> rfl
  rw [ci C,ci C];by_cases g:c.Kind=5
  ·rw [ca g,ca g];have hi:=j.ins g;have E:=j.one (.inr g);have I:=Nz (inj:=inj) hv D y hi (x.ex g).2 F G;obtain ⟨K,J⟩:=NV hv D y hi I;have d:=AP (l:=c.Kids) (i:=0) (by omega) (by omega);rw [ci (by simp [I]),NY E,Ka];refine YG (w:=fun i=>DS t h inj N (AB c.Kids 0) (AB (BV t c h m inj).1 i)) (fun i o r=>?_) (fun i o r=>?_)
   ·exact z _ c.Pattern _ (kid _ d) (j.kid5 g _ d) (x.kid5 g _ d) (J _ (AP o r))
   ·try dsimp only
    split
    ·rfl
    ·split <;> rfl
  rw [ci g,ci g]; rfl
end Go.Sf.Sc
namespace Go.Sf.Sc
open Go Go.Sf
section
variable (t:AC) (h:AT) (inj:Bool) (m:AF)
end
end Go.Sf.Sc
namespace Go.Sf.Sc
open Go Go.Sf
def U8 (x:Int):Prop:=0<=x∧x<256
theorem U8.w {x:Int} (h:U8 x):A4 x=x:=BI (by have:=h.1; omega) (by have:=h.2; omega)
structure Ys (n:CX) (i:Int):Prop where
 name:n.Name.size<=40
 par:-1<=n.Parent∧n.Parent<i
 attrs:n.Attrs.length<=1
 each:∀ a∈n.Attrs,RF a
structure Vi (t:AC) (i:Int):Prop where
 len:(t.Nodes.length:Int)=i
 node:∀ k:Int,0<=k->k<i->Ys (AB t.Nodes k) k
variable {i:Int}
theorem Vi.app {t:AC} (h:Vi t i) {n:CX} (g:Ys n i):Vi ⟨t.Nodes++[n],t.Edges⟩ (i+1):=by
 refine ⟨by simp [←h.len],fun k d j=>?_⟩;have o:=h.len;by_cases e:k=i
 ·subst e;rw [show AB (t.Nodes++[n]) k=n from UP _ _ (by omega)];exact g
 ·rw [show AB (t.Nodes++[n]) k=AB t.Nodes k from RI _ _ d (by omega)];exact h.node k d (by omega)
structure SP (t:AC):Prop where
 n:Vi t t.Nodes.length
 pos:0<t.Nodes.length
 nodes:t.Nodes.length<=6
 edges:t.Edges.length<=5
 edge:∀ e∈t.Edges,e.Name.size<=40∧(0<=e.From∧e.From<t.Nodes.length)∧0<=e.To∧e.To<t.Nodes.length
theorem SP.few {t:AC} (h:SP t):BY t:=by
 have d:∀ n∈t.Nodes,∃ i,Ys n i:=fun n d=>by
  obtain ⟨i,o,r,rfl⟩:=ED d;exact ⟨i,h.n.node i o r⟩
 refine ⟨by have:=h.nodes; omega,by have:=h.edges; omega,fun n g=>?_,fun n g=>?_,fun n g=>?_,fun e j=>?_⟩
 ·obtain ⟨i,k⟩:=d n g; have:=k.name; omega
 ·obtain ⟨i,k⟩:=d n g; have:=k.attrs; omega
 ·obtain ⟨i,k⟩:=d n g; exact k.each
 ·have:=(h.edge e j).1; omega
theorem SP.par {t:AC} (h:SP t):HD t t.Nodes.length:=fun i d g=>(h.n.node i d g).par
variable {a b:Int}
theorem SP.below {t:AC} (h:SP t) (j:0<=a) (d:a<t.Nodes.length) (g:0<=b):∃ r,II t a b=some r:=
 ⟨_,E9 (a+2).toNat fun n k=>TF h.par g n (a+1).toNat a (by omega) d (by omega) (by omega)⟩
end Go.Sf.Sc
namespace Go.Sf.Sc
open Go Go.Sf
structure uL (t:AC) (g:Graph):Prop where
 nodes:g.Nodes.length<=8
 edges:g.Edges.length<=10
 kind:∀ n∈g.Nodes,0<=n∧n<t.Nodes.length
structure kQ (p:Pattern):Prop where
 nodes:p.Graph.Nodes.length<=8
 edges:p.Graph.Edges.length<=10
 slots:p.Slots.length<=4
 tests:p.Tests.length<=3
 vars:0<=p.Vars∧p.Vars<=3
end Go.Sf.Sc
namespace Go.Sf.Sc
open Go Go.Sf
structure Oj (t:AC) (p:Pattern) (h:AT) (inj:Bool) (m:AF):Prop where
 chk:Mp t p.Graph h.Graph m.Morphism inj=0
 solve:LO p h m.Morphism=(m.Vars,0)
end Go.Sf.Sc
namespace Go.Sf.Sc
open Go Go.Sf
structure uN (p q:Pattern):Prop where
 nodes:q.Graph.Nodes.length<=p.Graph.Nodes.length+1
 edges:q.Graph.Edges.length<=p.Graph.Edges.length+1
 slots:q.Slots.length<=1
 tests:q.Tests.length<=1
 vars:0<=q.Vars∧q.Vars<=20
end Go.Sf.Sc
namespace Go.Sf.Sc
open Go Go.Sf
structure xx (p:Pattern) (depth:Int):Prop where
 d:0<=depth∧depth<=2
 nodes:(p.Graph.Nodes.length:Int)+depth<=20
 edges:(p.Graph.Edges.length:Int)+depth<=20
 vars:0<=p.Vars∧p.Vars<=20
end Go.Sf.Sc
namespace Go.Sf.Sc
open Go Go.Sf
variable {n:Nat}
theorem Lb {α:Type} {e:α->TV} {l:List α} (h:l.length<=1000) (d:∀ x∈l,(e x).Sm):TV.Sm (eL n e l):=by
 show TV.Sm (.list n (l.map e));simp only [TV.Sm,d3];refine ⟨by unfold reachBytes; omega,P1.2 fun t g=>?_⟩;obtain ⟨x,j,rfl⟩:=List.mem_map.1 g;exact d x j
theorem Ue {l:IO} (h:l.length<=1000):TV.Sm (eL 1 eI l):=Lb h fun _ _=>trivial
theorem UI {s:ByteArray} (h:(s.size:Int)<=1000):TV.Sm (eS s):=by
 show TV.Sm (.str s);simp only [TV.Sm];unfold reachBytes; omega
theorem dH {t:AC} (h:BY t):(AV t).Sm:=by
 have o:=h.nodes;have r:=h.edges;refine ⟨Lb (by omega) fun n g=>?_,Lb (by omega) fun e j=>?_,trivial⟩
 ·have:=h.name n g;have:=h.attrs n g;refine ⟨UI (by omega),trivial,trivial,Lb (by omega) fun a d=>?_,trivial⟩;have d:=h.each n g a d;have:=d.name;have:=d.names;exact ⟨UI (by omega),trivial,trivial,Lb (by omega) fun x k=>UI (by have:=d.each x k; omega),trivial⟩
 ·have:=h.ename e j;exact ⟨UI (by omega),trivial,trivial,trivial,trivial,trivial,trivial,trivial⟩
theorem Yc:∀ (N:Nat) (c:AA),SizeOf.sizeOf c<=N->EE c->cnt c<=1000->(AE c).Sm
 | 0,c,h,_,_=>by have:=DP c; omega
 | N+1,c,h,d,z=>by
  have j:=d.q.nodes;have o:=d.q.edges;have r:=d.q.slots;have u:=d.q.tests;have m1:=d.m.nodes;have w:=d.m.edges;have x:=Jx c;have y:=RS c.Kids;refine ⟨trivial,?_,Ue (by omega),Ue (by omega),Ue (by omega),Lb (by omega) fun _ _=>⟨trivial,trivial,trivial,trivial⟩,Lb (by omega) fun _ _=>⟨trivial,trivial,trivial,trivial,trivial⟩,trivial,Lb (by omega) fun _ _=>⟨trivial,trivial,trivial,trivial,trivial,trivial⟩,trivial⟩;rw [Kz];refine Lb (n:=9) (by omega) fun k g=>?_;have:=D9 g;have:=K8 g;exact Yc N k (by omega) (d.k k g) (by omega)
structure TN (p:Pattern) (c:AA) (h:AT):Prop where
 few:EE c
 cnt:cnt c<=40
 q:P8 p
 bound:Lr 14 18 (SizeOf.sizeOf c) p c=true
 narrow:LY (SizeOf.sizeOf c) c=true
 nodes:h.Graph.Nodes.length<=6
 edges:h.Graph.Edges.length<=8
variable {p:Pattern} {c:AA}
theorem cc {t:AC} (j:BY t) (g:EE c) (w:cnt c<=1000) (x:H3 t p c=0) (h:AT):∃ b,E0 t p c h=some b∧(b=true->TN p c h):=by
 obtain ⟨z,A,C⟩:=Ut (Yc _ c (dD _) g w);obtain ⟨D,r,E⟩:=UU p;obtain ⟨F,u⟩:=WG h;unfold E0;rw [A,bs];cases z
 ·exact ⟨false,rfl,fun h=>by cases h⟩
 rw [r];cases D
 ·exact ⟨false,rfl,fun h=>by cases h⟩
 rw [u];cases F
 ·exact ⟨false,rfl,fun h=>by cases h⟩
 have k:=C rfl;have o:=E rfl;simp only [bs,Bool.not_true,Bool.false_eq_true,if_false];rw [Wu j p g,bs,ci (by simp [x])];obtain ⟨G,H⟩:=VL j (dH j) p.Graph h.Graph;unfold L4;rw [r,u,H,Wy,VJ 14 18 g o];simp only [bs,if_true];cases G
 ·simp only [Bool.false_eq_true,if_false,bs,Bool.false_and];exact ⟨_,rfl,fun h=>by cases h⟩
 simp only [if_true,bs];split
 ·rename_i d;rw [bs,bs];refine ⟨_,rfl,fun y=>?_⟩;rw [zzZ,zzZ,zzX,zzX] at d;exact ⟨g,k.2,o,y,d.1.1,by omega,by omega⟩
 ·exact ⟨_,rfl,fun h=>by cases h⟩
end Go.Sf.Sc
namespace Go.Sf.Sc
open Go Go.Sf
structure uM (t:AC) (p:Pattern) (c:AA) (h:AT) (l:List AF) (inj:Bool):Prop where
 few:BY t
 hv:(BE t).2=0
 pat:kQ p
 cond:H3 t p c=0
 ph:M2 t p h=0
 each:∀ m∈l,Oj t p h inj m
 len:l.length<=30
 light:TN p c h
variable {p:Pattern} {c:AA}
theorem RT {t:AC} (h:H3 t p c=0):J4 t p=0∧LN c=0∧HE (SizeOf.sizeOf c) t p c=0:=by
 unfold H3 at h;split at h
 ·rename_i k; exact absurd h k
 rename_i d;split at h
 ·rename_i k; exact absurd h k
 rename_i g;exact ⟨Classical.not_not.1 d,Classical.not_not.1 g,h⟩
theorem cb {t:AC} {h:AT} (d:TN p c h) (g:H3 t p c=0):CG t p c:=
 dz _ (dD _) (fun M j=>by rw [j]; exact (RT g).2.2) d.bound d.narrow d.few
end Go.Sf.Sc
namespace Go.Sf.Sc
open Go Go.Sf
end Go.Sf.Sc
namespace Go.Sf.Sc
open Go Go.Sf
def zK (kd:Int) (a b:AA):AA:=⟨kd,[a,b],⟨[],[]⟩,⟨⟨[],[]⟩,[],0,[]⟩⟩
end Go.Sf.Sc
namespace Go.Sf.Sc
open Go Go.Sf
variable {n:Nat} {by' images:IO}
theorem fy (u:∀ x∈by',0<=x∧x<n) (w:by'.length<=images.length) (l:IO):forA (fun (d:Int) (j:Morphism)=>
  (AM by' d).bind fun g=>
  (AM images d).bind fun k=>
  (AM j.Nodes g).bind fun _=>
  some (Morphism.mk (B1 j.Nodes g k) j.Edges)) 0 (by'.length:Int) ⟨List.replicate n (-1),l⟩=some ⟨I1 n by' images,l⟩:=by
 rw [EF (a:=0) (b:=by'.length) (s:=⟨List.replicate n (-1),l⟩) (fun i=>(⟨(BJ i.toNat).foldl (fun l i=>B1 l (AB by' i) (AB images i)) (List.replicate n (-1)),l⟩:Morphism)) (by omega) rfl,Int.toNat_natCast]
 ·rfl
 intro i d o;have r:=u _ (AP d o);rw [AI d o,bs,AI d (by omega),bs,AI r.1 (by rw [N1]; simpa using r.2),bs,Jb d,List.foldl_append]; rfl
theorem fx (u:∀ x∈by',0<=x∧x<n) (w:by'.length<=images.length) (l:IO):forA (fun (d:Int) (j:Morphism)=>
  (AM by' d).bind fun g=>
  (AM images d).bind fun k=>
  (AM j.Edges g).bind fun _=>
  some (Morphism.mk j.Nodes (B1 j.Edges g k))) 0 (by'.length:Int) ⟨l,List.replicate n (-1)⟩=some ⟨l,I1 n by' images⟩:=by
 rw [EF (a:=0) (b:=by'.length) (s:=⟨l,List.replicate n (-1)⟩) (fun i=>(⟨l,(BJ i.toNat).foldl (fun l i=>B1 l (AB by' i) (AB images i)) (List.replicate n (-1))⟩:Morphism)) (by omega) rfl,Int.toNat_natCast]
 ·rfl
 intro i d o;have r:=u _ (AP d o);rw [AI d o,bs,AI d (by omega),bs,AI r.1 (by rw [N1]; simpa using r.2),bs,Jb d,List.foldl_append]; rfl
end Go.Sf.Sc
namespace Go.Sf.Sc
open Go Go.Sf
variable {i:Int}
theorem Vz {α:Type} [Inhabited α] {l:List α} (v:α) (d:0<=i) (g:i<l.length):AB (B1 l i v) i=v:=by
 unfold AB B1;rw [List.getD_eq_getElem?_getD,List.getElem?_set_self (by omega)]; rfl
theorem dG {ρ:Type} {r:ρ} {n:Int} {h:AT} {m:Morphism} {s:EI} (o:Iw n h m s) {st:IO × QQ} (hi:VI n st) :
  (if (decide (s.Term.Var<0))=true then
  if (!decide ((A4 (IF h m s - s.Term.Add))=0))=true then
  some (CZ.ret r)
  else
  some (.next (st.1,st.2))
  else
  (AM st.2 s.Term.Var).bind fun u=>
  if (!u)=true then
  (AM st.1 s.Term.Var).bind fun _=>
  (AM st.2 s.Term.Var).bind fun _=>
  some (.next (B1 st.1 s.Term.Var (A4 (IF h m s - s.Term.Add)),B1 st.2 s.Term.Var true))
  else
  (AM st.1 s.Term.Var).bind fun w=>
  if (!decide (w=(A4 (IF h m s - s.Term.Add))))=true then
  some (.ret r)
  else
  some (.next (st.1,st.2)))=some (EX r h m s st):=by
 have y:=o.term.high;have l1:=hi.l1;have l2:=hi.l2;have hv:=o.has;have z:=o.term.add;have x:A4 (IF h m s - s.Term.Add)=IF h m s - s.Term.Add:=BI (by omega) (by omega);unfold EX;by_cases d:s.Term.Var<0
 ·have g:Jq h m s st=st:=by unfold Jq; rw [ci (fun e=>by omega)]
  have j:D5 s.Term st.1=s.Term.Add:=by unfold D5; rw [ca d]
  rw [ca (by simpa using d),g,j,x];by_cases e:IF h m s - s.Term.Add=0
  ·rw [ci (by simp [e]),ca (by omega)]
  ·rw [ca (by simp [e]),ci (by omega)]
 ·rw [ci (by simpa using d),AI (by omega) (by omega),bs];by_cases k:AB st.2 s.Term.Var=false
  ·have g:Jq h m s st=(B1 st.1 s.Term.Var (A4 (IF h m s - s.Term.Add)),B1 st.2 s.Term.Var true):=by unfold Jq; rw [ca ⟨by omega,k⟩]
   have j:D5 s.Term (B1 st.1 s.Term.Var (A4 (IF h m s - s.Term.Add)))=IF h m s:=by
    unfold D5;rw [ci d,Vz _ (by omega) (by omega),x,BI (by omega) (by omega)]; omega
   rw [ca (by simp [k]),AI (by omega) (by omega),bs,bs,g,ca j]
  ·have A:=hi.small _ (AP (l:=st.1) (i:=s.Term.Var) (by omega) (by omega));have g:Jq h m s st=st:=by unfold Jq; rw [ci (fun e=>k e.2)]
   have j:D5 s.Term st.1=AB st.1 s.Term.Var+s.Term.Add:=by unfold D5; rw [ci d,BI (by omega) (by omega)]
   rw [ci (by simpa using k),AI (by omega) (by omega),bs,g,j,x];by_cases e:AB st.1 s.Term.Var=IF h m s - s.Term.Add
   ·rw [ci (by simp [e]),ca (by omega)]
   ·rw [ca (by simp [e]),ci (by omega)]
variable {s:AG} {q:Pattern}
theorem ig {m:Morphism} {t:AC} {d:IO} (C:Pp t q) (D:∀ x∈q.Slots,Iw q.Vars s.h m x) (G:d.length<=q.Vars) (hv:NP d):GG s q m d=some (KW q s.h m d):=by
 have H:=C.vars;unfold GG KW;have I:Jm q.Vars false=some (List.replicate q.Vars.toNat false):=by
  unfold Jm;rw [ca (by omega)]
 have J:Jm q.Vars (0:Int)=some (List.replicate q.Vars.toNat 0):=by
  unfold Jm;rw [ca (by omega)]
 rw [J,bs,I,bs];have K:forA (fun (g:Int) (k:IO × QQ)=>
   (AM d g).bind fun w=>
   (AM k.1 g).bind fun z=>
   (AM k.2 g).bind fun A=>
   some (B1 k.1 g w,B1 k.2 g true)) 0 (d.length:Int) (List.replicate q.Vars.toNat 0,List.replicate q.Vars.toNat false)=some (d++List.replicate (q.Vars - d.length).toNat 0,G7 q.Vars.toNat d.length):=by
  have L:=EF (f:=fun (g:Int) (k:IO × QQ)=>
   (AM d g).bind fun w=>
   (AM k.1 g).bind fun z=>
   (AM k.2 g).bind fun A=>
   some (B1 k.1 g w,B1 k.2 g true)) (a:=0) (b:=d.length) (s:=(List.replicate q.Vars.toNat 0,List.replicate q.Vars.toNat false)) (fun i=>(d.take i.toNat++List.replicate (q.Vars - i).toNat 0,G7 q.Vars.toNat i)) (by omega) ?_ (fun i g o=>?_)
  ·rw [L,Int.toNat_natCast,List.take_length]
  ·simp only [Int.toNat_zero,List.take_zero,List.nil_append,Int.sub_zero,Prod.mk.injEq,true_and];exact QW _
  ·have E:(d.take i.toNat).length=i.toNat:=by rw [d1]; omega
   rw [AI g o,bs,AI g (by simp only [d0,E,List.length_replicate]; omega),bs,AI g (by rw [R6]; omega),bs];congr 2
   ·unfold B1;rw [List.set_append_right _ _ (by omega),E,Nat.sub_self,show (q.Vars - i).toNat=(q.Vars - (i+1)).toNat+1 by omega,List.replicate_succ,List.set_cons_zero,Hs g o,d4];rfl
   ·unfold G7;rw [SJ _ g];refine NI (fun j N O=>?_);by_cases e:j=i
    ·rw [ca e,e]; simp; omega
    ·rw [ci e,decide_eq_decide]; omega
 rw [K,bs];have y:=Qy H.1 G hv;dsimp only;rw [N2 (EX (([],false):IO × Bool) s.h m) (VI q.Vars) y]
 ·cases M:EW (EX (([],false):IO × Bool) s.h m) q.Slots (d++List.replicate (q.Vars - d.length).toNat 0,G7 q.Vars.toNat d.length) with
  | inr r=>rfl
  | inl st=>
   have hi:=MP D y M;rw [DX,CR (fun i=>!IR (AB q.Tests i) st.1) ([],false)]
   ·dsimp only;cases anyR (fun i=>!IR (AB q.Tests i) st.1) 0 q.Tests.length <;> rfl
   ·intro i g o _;have F:=C.test _ (AP g o);rw [AI g o,bs,p_holds F.2.1 F.2.2 hi.small (by have:=hi.l1; omega),bs];cases IR (AB q.Tests i) st.1 <;> rfl
 ·intro i st g o hi;have u:=D _ (AP g o);refine ⟨?_,fun s' e=>Md u hi e⟩;rw [AI g o,bs,AI u.node.1 u.node.2,bs,AI u.val.1 u.val.2,bs,AI u.attr.1 u.attr.2,bs];exact dG u hi
end Go.Sf.Sc
namespace Go.Sf.Sc
open Go Go.Sf
theorem aA {l:List AF} {f:AF->Ne} {p:AF->Bool} (h:∀ x∈l,f x=some (p x)):DU l f=some (l.any p):=GH h
variable {n:Nat}
theorem bB (d:n<=1000):EL [-1] (n:Int)=some (List.replicate n (-1)):=by
 unfold EL;rw [ca ⟨rfl,by omega,by omega⟩];show some (List.replicate (n:Int).toNat (-1))=_;rw [Int.toNat_natCast]
variable {s:AG} {p:Pattern} {c:AA}
theorem WC {m:AF} (A:BY s.t) (hv:(BE s.t).2=0) (C:GF s.t s.h) (d:Mg s.t p s.h m) (hi:Vr s.t p c) (e:(BV s.t c s.h m s.injective).2=0):CM s c m=some (BV s.t c s.h m s.injective).1:=by
 have K:=hi.q.g.nodes;have ge:=hi.q.g.edges;have m1:=hi.map.nlen;have L:=hi.map.elen;have M:=d.m.nlen;have N:=d.m.elen;unfold CM;rw [bB (by omega),bs,bB (by omega),bs,
  fy (fun y o=>by obtain ⟨j,r,u,rfl⟩:=ED o; exact (hi.map.node j r u).1) (by omega),bs,
  fx (fun y o=>by obtain ⟨j,r,u,rfl⟩:=ED o; exact (hi.map.edge j r u).1) (by omega),bs,Wm A,bs]
 unfold BV at e ⊢;dsimp only at e ⊢;split at e
 ·rename_i k; exact absurd e k
 rename_i k;obtain ⟨H,I⟩:=Te (Classical.not_not.1 k);rw [ci k,Pj (F:=fun y=>KW c.Pattern s.h y m.Vars) H]
 ·rfl
 ·intro i st w z J;have E:=I _ (AP w z);have G:(m.Vars.length:Int)<=c.Pattern.Vars:=by have:=d.len; have:=hi.vars; omega
  rw [AI w z,bs,ig hi.q (fun x D=>Ng (HC hv) hi.q C E D) G d.small,bs,←J2];split
  ·rw [B7 (by simp; unfold BM; omega)]; rfl
  ·rfl
theorem Ot (u:BY s.t) (hv:(BE s.t).2=0) (j:GF s.t s.h) (w:s.h.Graph.Nodes.length<=14) (y:s.h.Graph.Edges.length<=18):∀ (N:Nat) (c:AA) (p:Pattern) (m:AF),SizeOf.sizeOf c<=N->CV s.t p c->CG s.t p c->Mg s.t p s.h m->∀ n,2*N<=n->BR n s c m=some (EY s.t s.h s.injective c m)
 | 0,c,_,_,h,_,_,_,_,_=>by have:=DP c; omega
 | N+1,c,p,m,h,o,A,r,n,J=>by
  obtain ⟨n,rfl⟩:∃ k,n=k+2:=⟨n - 2,by omega⟩;have kid:∀ k∈c.Kids,SizeOf.sizeOf k<=N:=fun k d=>by have:=D9 d; omega
  rw [BR,V9];by_cases z:c.Kind=2
  ·have E:=o.one (.inl z);have d:=AP (l:=c.Kids) (i:=0) (by omega) (by omega);rw [ca (by simpa using z),ca z,NY E,AI (by omega) (by omega),bs,BH,Ot u hv j w y N _ p m (kid _ d) (o.kid (by omega) _ d) (A.kid (by omega) _ d) r n (by omega)];rfl
  rw [ci (by simpa using z),ci z];by_cases C:c.Kind=3
  ·rw [ca (by simpa using C),ca C,Oq (p:=fun k=>!EY s.t s.h s.injective k m) (fun k d=>by
    rw [D8,BH,Ot u hv j w y N _ p m (kid _ d) (o.kid (by omega) _ d) (A.kid (by omega) _ d) r n (by omega)]; rfl),bs,List.all_eq_not_any_not]
  rw [ci (by simpa using C),ci C];by_cases D:c.Kind=4
  ·rw [ca (by simpa using D),ca D,Oq (p:=fun k=>EY s.t s.h s.injective k m) (fun k d=>by
    rw [BH,Ot u hv j w y N _ p m (kid _ d) (o.kid (by omega) _ d) (A.kid (by omega) _ d) r n (by omega)]; rfl),bs]
  rw [ci (by simpa using D),ci D];by_cases g:c.Kind=5
  ·have hi:=o.ins g;have E:=o.one (.inr g);have F:=Nz (inj:=s.injective) hv j r hi (A.ex g).2 w y;obtain ⟨I,H⟩:=NV hv j r hi F;have d:=AP (l:=c.Kids) (i:=0) (by omega) (by omega);rw [ca (by simpa using g),ca g,NY E,WC u hv j r hi F,bs,aA (p:=fun x=>EY s.t s.h s.injective (AB c.Kids 0) x) (fun x G=>by
    rw [CA,AI (by omega) (by omega),bs,Ot u hv j w y N _ c.Pattern x (kid _ d) (o.kid5 g _ d) (A.kid5 g _ d) (H _ G) n (by omega)]; rfl),bs]
  rw [ci (by simpa using g),ci g]
theorem e_holds (d:BY s.t) (hv:(BE s.t).2=0) (g:GF s.t s.h) (j:s.h.Graph.Nodes.length<=14) (k:s.h.Graph.Edges.length<=18) {m:AF} (o:CV s.t p c) (r:CG s.t p c) (u:Mg s.t p s.h m):_explain_scene__holds s c m=some (EY s.t s.h s.injective c m):=
 E9 (2*SizeOf.sizeOf c) fun n w=>Ot d hv g j k _ c p m (dD _) o r u n w
end Go.Sf.Sc
