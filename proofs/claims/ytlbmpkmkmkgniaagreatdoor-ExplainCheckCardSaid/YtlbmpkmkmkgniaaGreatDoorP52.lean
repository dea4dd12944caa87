/- Plain lemmas: what the functions of the program and of the reference compute. -/
import Derived.Test.YtlbmpkmkmkgniaaGreatDoorP28
import Derived.Test.YtlbmpkmkmkgniaaGreatDoorP46
import Derived.Test.YtlbmpkmkmkgniaaGreatDoorP25
set_option linter.all false
set_option maxRecDepth 100000
namespace Go.Sf.Sc
open Go Go.Sf
inductive CV (t:AC):Pattern->AA->Prop where
 | mk (p:Pattern) (c:AA) (few:c.Kids.length<=40) (rng:1<=c.Kind∧c.Kind<=5) (one:c.Kind=2∨c.Kind=5->c.Kids.length=1) (ins:c.Kind=5->V4 t p c) (kids:∀ k∈c.Kids,CV t (if c.Kind=5 then c.Pattern else p) k):CV t p c
theorem CV.few {t:AC} {p:Pattern} {c:AA} (h:CV t p c):c.Kids.length<=40:=by cases h; assumption
theorem CV.rng {t:AC} {p:Pattern} {c:AA} (h:CV t p c):1<=c.Kind∧c.Kind<=5:=by cases h; assumption
theorem CV.one {t:AC} {p:Pattern} {c:AA} (h:CV t p c):c.Kind=2∨c.Kind=5->c.Kids.length=1:=by cases h; assumption
theorem CV.ins {t:AC} {p:Pattern} {c:AA} (h:CV t p c):c.Kind=5->V4 t p c:=by cases h; assumption
theorem CV.kids {t:AC} {p:Pattern} {c:AA} (h:CV t p c):∀ k∈c.Kids,CV t (if c.Kind=5 then c.Pattern else p) k:=by cases h; assumption
theorem CV.kid {t:AC} {p:Pattern} {c:AA} (h:CV t p c) (a:¬ c.Kind=5):∀ k∈c.Kids,CV t p k:=fun k b=>by have:=h.kids k b; rwa [d2 a] at this
theorem CV.kid5 {t:AC} {p:Pattern} {c:AA} (h:CV t p c) (a:c.Kind=5):∀ k∈c.Kids,CV t c.Pattern k:=fun k b=>by have:=h.kids k b; rwa [d1 a] at this
theorem RO:∀ l:List AA,l.length<=KP l
 | []=>by simp
 | c::l=>by
  have:=RO l;have a:KP (c::l)=cnt c+KP l:=by simp [KP]
  have b:=Mw c;simp only [d6];omega
theorem px {t:AC} {q:Pattern} {v:Int} (hv:(BF t).2=0) (h:MO t q v=0):P1 t q:=by
 unfold MO at h;split at h
 ·exact ZW hv (.inl h)
 ·rename_i a; exact ZW hv (.inr (Classical.not_not.1 a))
theorem eH {t:AC} (hv:(BF t).2=0):∀ (N:Nat) (c:AA) (p:Pattern),SizeOf.sizeOf c<=N->cnt c<=40->QI N c=true->HD N t p c=0->CV t p c
 | 0,c,_,h,_,_,_=>by have:=D5 c; omega
 | N+1,c,p,h,E,s,ho=>by
  have w:=Mw c;have x:=RO c.Kids;rw [QI,zzZ] at s;obtain ⟨a,l⟩:=s;have d:c.Kind=2∨c.Kind=5->c.Kids.length=1:=by
   intro b;unfold Qc at a;rcases b with b | b
   ·rw [d2 (by omega),d1 b,zzZ,zzX] at a; exact a.1
   ·rw [d2 (by omega),d2 (by omega),d2 (by omega),d1 b,zzX] at a; exact a
  have f:1<=c.Kind∧c.Kind<=5:=by
   unfold Qc at a;split at a
   ·omega
   split at a
   ·omega
   split at a
   ·omega
   split at a
   ·omega
   ·cases a
  have g:∀ q,(fst (fun i=>nz (HD N t q (AB c.Kids i))) 0 c.Kids.length).getD 0=0->∀ k∈c.Kids,CV t q k:=by
   intro q u k b;have y:=Tx u;have C:=Oy b;have D:=EP b;rw [List.all_eq_true] at l;obtain ⟨i,z,A,e⟩:=EH b;have r:=y i z A;rw [e] at r;exact eH hv N k q (by omega) (by omega) (l k b) r
  rw [HD] at ho;by_cases j:c.Kind=5
  ·rw [d1 j] at ho;split at ho
   ·cases ho
   rename_i B;split at ho
   ·rename_i n; exact absurd ho n
   rename_i n;split at ho
   ·rename_i o; exact absurd ho o
   rename_i o;split at ho
   ·cases ho
   rename_i v;refine CV.mk p c (by omega) f d (fun _=>⟨px hv (Classical.not_not.1 n),by omega,eO (Classical.not_not.1 o),by simpa using v⟩) ?_;rw [d1 j];exact g _ ho
  ·rw [d2 j] at ho;refine CV.mk p c (by omega) f d (fun e=>absurd e j) ?_;rw [d2 j];exact g _ ho
section
variable {α σ ρ:Type}
theorem Q9 [Inhabited α] {l:List α} {f:Int->σ->Option (CY σ ρ)} (step:α->σ->CY σ ρ) (I:Int->σ->Prop) (h:∀ (i:Int) s,0<=i->i<l.length->I i s->f i s=some (step (AB l i) s)∧∀ s',step (AB l i) s=.next s'->I (i+1) s') :
  ∀ (n:Nat) (a:Int) (s:σ),0<=a->a+n=l.length->I a s->forGo f n a s=some (EX step (l.drop a.toNat) s)
 | 0,a,s,b,j,_=>by
  rw [List.drop_eq_nil_of_le (by omega)]; rfl
 | n+1,a,s,b,j,k=>by
  obtain ⟨e,g⟩:=h a s b (by omega) k;have c:l.drop a.toNat=AB l a::l.drop (a+1).toNat:=by
   rw [show (a+1).toNat=a.toNat+1 by omega,List.drop_eq_getElem_cons (by omega)];congr 1;unfold AB;rw [List.getD_eq_getElem?_getD,List.getElem?_eq_getElem (by omega)]; rfl
  rw [H4,e,c,EX];cases d:step (AB l a) s with
  | next s'=>
   simp only;exact Q9 step I h n (a+1) s' (by omega) (by omega) (g s' d)
  | brk s'=>rfl
  | ret r=>rfl
theorem Tu [Inhabited α] {l:List α} {f:Int->σ->Option (CY σ ρ)} (step:α->σ->CY σ ρ) (I:Int->σ->Prop) {s:σ} (a:I 0 s) (h:∀ (i:Int) s,0<=i->i<l.length->I i s->f i s=some (step (AB l i) s)∧∀ s',step (AB l i) s=.next s'->I (i+1) s') :
  forR f 0 l.length s=some (EX step l s):=by
 have:=Q9 step I h l.length 0 s (by omega) (by omega) a;unfold forR;rw [show ((l.length:Int) - 0).toNat=l.length by omega];exact this
theorem US {c s2:α->σ->CY σ ρ}:∀ {l:List α} {s:σ},(∀ a∈l,c a=s2 a)->EX c l s=EX s2 l s
 | [],_,_=>rfl
 | a::l,s,h=>by
  rw [EX,EX,h a (by simp)];split
  ·exact US fun b d=>h b (by simp [d])
  ·rfl
  ·rfl
end
abbrev zM:AF:=⟨⟨[],[]⟩,[]⟩
abbrev zP:A2:=⟨0,zM,[]⟩
def Lk (w:AA->A2 × Int) (k:AA) (s:A2 × A2):CY (A2 × A2) (A2 × Int):=
 if (w k).2≠0 then .ret (zP,(w k).2) else .next (s.1,⟨s.2.Choice,s.2.Match,s.2.Kids++[(w k).1]⟩)
def RE (w:AA->A2 × Int) (l:List AA):A2 × Int:=
 match EX (Lk w) l (zP,zP) with
 | .inl s=>(s.2,0)
 | .inr r=>r
def DN (t:AC) (h:AU) (inj:Bool):Nat->AA->AF->A2 × Int
 | 0,_,_=>(zP,0)
 | N+1,c,m=>
  if c.Kind=2 then (if (DN t h inj N (AB c.Kids 0) m).2=0 then (zP,10) else if (DN t h inj N (AB c.Kids 0) m).2=10 then (zP,0) else (zP,(DN t h inj N (AB c.Kids 0) m).2)) else
  if c.Kind=3 then RE (fun k=>DN t h inj N k m) c.Kids else
  if c.Kind=4 then (fst (fun i=>if (DN t h inj N (AB c.Kids i) m).2=0 then some (⟨i,zM,[(DN t h inj N (AB c.Kids i) m).1]⟩,0) else if (DN t h inj N (AB c.Kids i) m).2≠10 then some (zP,(DN t h inj N (AB c.Kids i) m).2) else none) 0 c.Kids.length).getD (zP,10) else
  if c.Kind=5 then
   (if (B5 t c h m inj).2≠0 then (zP,(B5 t c h m inj).2) else
   (fst (fun i=>if (DN t h inj N (AB c.Kids 0) (AB (B5 t c h m inj).1 i)).2=0 then some (⟨0,AB (B5 t c h m inj).1 i,[(DN t h inj N (AB c.Kids 0) (AB (B5 t c h m inj).1 i)).1]⟩,0) else
    if (DN t h inj N (AB c.Kids 0) (AB (B5 t c h m inj).1 i)).2≠10 then some (zP,(DN t h inj N (AB c.Kids 0) (AB (B5 t c h m inj).1 i)).2) else none) 0 (B5 t c h m inj).1.length).getD (zP,10)) else
  (zP,0)
def D6 (t:AC) (h:AU) (inj:Bool):Nat->AA->AF->A2 × Int
 | 0,_,_=>(zP,0)
 | N+1,c,m=>
  if c.Kind=2 then (if (D6 t h inj N (AB c.Kids 0) m).2=0 then (zP,10) else if (D6 t h inj N (AB c.Kids 0) m).2=10 then (zP,0) else (zP,(D6 t h inj N (AB c.Kids 0) m).2)) else
  if c.Kind=3 then RE (fun k=>D6 t h inj N k m) c.Kids else
  if c.Kind=4 then (fst (fun i=>if (D6 t h inj N (AB c.Kids i) m).2≠10 then some (⟨i,zM,[(D6 t h inj N (AB c.Kids i) m).1]⟩,(D6 t h inj N (AB c.Kids i) m).2) else none) 0 c.Kids.length).getD (zP,10) else
  if c.Kind=5 then
   (if (B5 t c h m inj).2≠0 then (zP,(B5 t c h m inj).2) else
   (fst (fun i=>if (D6 t h inj N (AB c.Kids 0) (AB (B5 t c h m inj).1 i)).2≠10 then some (⟨0,AB (B5 t c h m inj).1 i,[(D6 t h inj N (AB c.Kids 0) (AB (B5 t c h m inj).1 i)).1]⟩,(D6 t h inj N (AB c.Kids 0) (AB (B5 t c h m inj).1 i)).2) else none) 0 (B5 t c h m inj).1.length).getD (zP,10)) else
  (zP,0)
def MS (x:A2 × Int):A2 × Int:=if x.2=0 then x else (zP,x.2)
theorem Wo (x:A2 × Int):(MS x).2=x.2:=by unfold MS; split <;> rfl
theorem aa {x:A2 × Int} (h:x.2=0):(MS x).1=x.1:=by unfold MS; rw [d1 h]
theorem cD (w:AA->A2 × Int) (l:List AA):MS (RE w l)=RE w l:=by
 unfold RE;have:∀ (l:List AA) (s:A2 × A2) (r:A2 × Int),EX (Lk w) l s=.inr r->MS r=r:=by
  intro l
  induction l with
  | nil=>intro s r h; cases h
  | cons a l e=>
   intro s r h;rw [EX] at h;split at h
   ·exact e _ _ h
   ·cases h
   ·rename_i f b;cases h;unfold Lk at b;split at b
    ·rename_i c;cases b;unfold MS;rw [d2 c]
    ·cases b
 cases d:EX (Lk w) l (zP,zP) with
 | inl s=>rfl
 | inr r=>exact this _ _ _ d
theorem VH (o:Option (A2 × Int)):MS (o.getD (zP,10))=(o.map MS).getD (zP,10):=by cases o <;> rfl
theorem Uq (t:AC) (h:AU) (inj:Bool):∀ (N:Nat) (c:AA) (m:AF),DN t h inj N c m=MS (D6 t h inj N c m)
 | 0,_,_=>rfl
 | N+1,c,m=>by
  have l:=Uq t h inj N;have key:∀ (c:AA) (m:AF),(DN t h inj N c m).2=(D6 t h inj N c m).2:=fun c m=>by rw [l,Wo]
  have pick:∀ (k:AA) (m x:AF) (i:Int),(if (DN t h inj N k m).2=0 then some ((⟨i,x,[(DN t h inj N k m).1]⟩:A2),(0:Int)) else if (DN t h inj N k m).2≠10 then some (zP,(DN t h inj N k m).2) else none)=(if (D6 t h inj N k m).2≠10 then some ((⟨i,x,[(D6 t h inj N k m).1]⟩:A2),(D6 t h inj N k m).2) else none).map MS:=by
   intro k m x i;rw [key];by_cases a:(D6 t h inj N k m).2=0
   ·rw [d1 a,d1 (by omega),l,aa a];simp [MS,a]
   ·rw [d2 a];by_cases b:(D6 t h inj N k m).2≠10
    ·rw [d1 b,d1 b];simp [MS,a]
    ·rw [d2 b,d2 b]; rfl
  rw [DN,D6];by_cases e:c.Kind=2
  ·rw [d1 e,d1 e,key];by_cases a:(D6 t h inj N (AB c.Kids 0) m).2=0
   ·rw [d1 a]; rfl
   ·rw [d2 a];by_cases b:(D6 t h inj N (AB c.Kids 0) m).2=10
    ·rw [d1 b]; rfl
    ·rw [d2 b]; unfold MS; rw [d2 a]
  rw [d2 e,d2 e];by_cases f:c.Kind=3
  ·rw [d1 f,d1 f,cD];unfold RE;rw [US (s2:=Lk fun k=>D6 t h inj N k m)];intro k _;funext s;unfold Lk;simp only [key];by_cases a:(D6 t h inj N k m).2=0
   ·rw [d2 (by simp [a]),d2 (by simp [a]),l,aa a]
   ·rw [d1 a,d1 a]
  rw [d2 f,d2 f];by_cases g:c.Kind=4
  ·rw [d1 g,d1 g,VH,←Oe];congr 1;exact congrArg (fun F=>fst F 0 (c.Kids.length:Int)) (funext fun i=>pick _ _ _ _)
  rw [d2 g,d2 g];by_cases j:c.Kind=5
  ·rw [d1 j,d1 j];by_cases d:(B5 t c h m inj).2≠0
   ·rw [d1 d,d1 d]; unfold MS; rw [d2 d]
   ·rw [d2 d,d2 d,VH,←Oe];congr 1;exact congrArg (fun F=>fst F 0 ((B5 t c h m inj).1.length:Int)) (funext fun i=>pick _ _ _ _)
  rw [d2 j,d2 j]; rfl
end Go.Sf.Sc
namespace Go.Sf.Sc
open Go Go.Sf
def PW (i:Int) (s:A2 × A2):Prop:=(s.2.Kids.length:Int)=i
theorem UG {s:A8} (q:BX s.t) (hv:(BF s.t).2=0) (o:GY s.t s.h):∀ (N:Nat) (c:AA) (p:Pattern) (m:AF),SizeOf.sizeOf c<=N->CV s.t p c->NP s.t p s.h m->∀ n,2*N<=n->A5 n s c m=some (DN s.t s.h s.injective N c m)
 | 0,c,_,_,h,_,_,_,_=>by have:=D5 c; omega
 | N+1,c,p,m,h,g,v,n,C=>by
  obtain ⟨n,rfl⟩:∃ k,n=k+2:=⟨n - 2,by omega⟩;have kid:∀ (i:Int),0<=i->i<c.Kids.length->SizeOf.sizeOf (AB c.Kids i)<=N:=fun i d f=>by
   have:=EP (AQ (l:=c.Kids) d f); omega
  rw [A5,DN];by_cases r:c.Kind=2
  ·have B:=g.one (.inl r);rw [d1 (by simpa using r),d1 r,AI (by omega) (by omega),bs,UG q hv o N _ p m (kid 0 (by omega) (by omega)) (g.kid (by omega) _ (AQ (by omega) (by omega))) v (n+1) (by omega),bs];generalize DN s.t s.h s.injective N (AB c.Kids 0) m=x;by_cases a:x.2=0
   ·rw [d1 (by simpa using a),d1 a]; try rfl
   ·rw [d2 (by simpa using a),d2 a];by_cases b:x.2=10
    ·rw [d1 (by simpa using b),d1 b]; try rfl
    ·rw [d2 (by simpa using b),d2 b]; try rfl
  rw [d2 (by simpa using r),d2 r];by_cases w:c.Kind=3
  ·rw [d1 (by simpa using w),d1 w];have z:=g.few;rw [Tu (Lk fun k=>DN s.t s.h s.injective N k m) PW (show PW 0 (zP,zP) from rfl)]
   ·unfold RE;show thenR (some (EX (Lk fun k=>DN s.t s.h s.injective N k m) c.Kids (zP,zP))) _ _=_;cases EX (Lk fun k=>DN s.t s.h s.injective N k m) c.Kids (zP,zP) <;> rfl
   ·intro i st d f hi;unfold PW at hi;rw [AI d f,bs,UG q hv o N _ p m (kid i d f) (g.kid (by omega) _ (AQ d f)) v (n+1) (by omega),bs];dsimp only [Lk];by_cases a:(DN s.t s.h s.injective N (AB c.Kids i) m).2=0
    ·rw [d2 (by simp [a]),d2 (by simp [a]),CF (by simp; unfold BN; omega),bs];refine ⟨rfl,fun s' e=>?_⟩;cases e;unfold PW;simp; omega
    ·rw [d1 (by simp [a]),d1 a];exact ⟨rfl,fun s' e=>by cases e⟩
  rw [d2 (by simpa using w),d2 w];by_cases y:c.Kind=4
  ·rw [d1 (by simpa using y),d1 y];rw [P5 (fun _=>zP) (fun i=>if (DN s.t s.h s.injective N (AB c.Kids i) m).2=0 then some (⟨i,zM,[(DN s.t s.h s.injective N (AB c.Kids i) m).1]⟩,0) else if (DN s.t s.h s.injective N (AB c.Kids i) m).2≠10 then some (zP,(DN s.t s.h s.injective N (AB c.Kids i) m).2) else none) (by omega) rfl]
   ·cases fst (fun i=>if (DN s.t s.h s.injective N (AB c.Kids i) m).2=0 then some ((⟨i,zM,[(DN s.t s.h s.injective N (AB c.Kids i) m).1]⟩:A2),(0:Int)) else if (DN s.t s.h s.injective N (AB c.Kids i) m).2≠10 then some (zP,(DN s.t s.h s.injective N (AB c.Kids i) m).2) else none) 0 c.Kids.length <;> rfl
   ·intro i d f _;rw [AI d f,bs,UG q hv o N _ p m (kid i d f) (g.kid (by omega) _ (AQ d f)) v (n+1) (by omega),bs];generalize DN s.t s.h s.injective N (AB c.Kids i) m=x;by_cases a:x.2=0
    ·rw [d1 (by simpa using a),d1 a]; try rfl
    ·rw [d2 (by simpa using a),d2 a];by_cases b:x.2=10
     ·rw [d2 (by simp [b]),d2 (by simp [b])]; try rfl
     ·rw [d1 (by simp [b]),d1 b]; try rfl
  rw [d2 (by simpa using y),d2 y];by_cases j:c.Kind=5
  ·rw [d1 (by simpa using j),d1 j];have hi:=g.ins j;have B:=g.one (.inr j);rw [B3,jP q hv o v hi,bs];by_cases u:(B5 s.t c s.h m s.injective).2=0
   ·obtain ⟨b,A⟩:=Od hv o v hi u;rw [d2 (by simp [u]),d2 (by simp [u])];generalize (B5 s.t c s.h m s.injective).1=l at b A;rw [P5 (fun _=>zP) (fun i=>if (DN s.t s.h s.injective N (AB c.Kids 0) (AB l i)).2=0 then some (⟨0,AB l i,[(DN s.t s.h s.injective N (AB c.Kids 0) (AB l i)).1]⟩,0) else if (DN s.t s.h s.injective N (AB c.Kids 0) (AB l i)).2≠10 then some (zP,(DN s.t s.h s.injective N (AB c.Kids 0) (AB l i)).2) else none) (by omega) rfl]
    ·cases fst (fun i=>if (DN s.t s.h s.injective N (AB c.Kids 0) (AB l i)).2=0 then some ((⟨0,AB l i,[(DN s.t s.h s.injective N (AB c.Kids 0) (AB l i)).1]⟩:A2),(0:Int)) else if (DN s.t s.h s.injective N (AB c.Kids 0) (AB l i)).2≠10 then some (zP,(DN s.t s.h s.injective N (AB c.Kids 0) (AB l i)).2) else none) 0 l.length <;> rfl
    ·intro i d f _;rw [AI d f,bs,AI (by omega) (by omega),bs,UG q hv o N _ c.Pattern _ (kid 0 (by omega) (by omega)) (g.kid5 j _ (AQ (by omega) (by omega))) (A _ (AQ d f)) n (by omega),bs];generalize DN s.t s.h s.injective N (AB c.Kids 0) (AB l i)=x;by_cases a:x.2=0
     ·rw [d1 (by simpa using a),d1 a]; try rfl
     ·rw [d2 (by simpa using a),d2 a];by_cases b:x.2=10
      ·rw [d2 (by simp [b]),d2 (by simp [b])]; try rfl
      ·rw [d1 (by simp [b]),d1 b]; try rfl
   ·rw [d1 (by simp [u]),d1 u]; try rfl
  rw [d2 (by simpa using j),d2 j]; try rfl
theorem QA {t:AC} {a:AU} {inj:Bool} (r:BX t) (hv:(BF t).2=0) (q:GY t a):∀ (N:Nat) (c:AA) (p:Pattern) (m:AF),SizeOf.sizeOf c<=N->CV t p c->NP t p a m->∀ n,N<=n->FK n t c a m inj=some (D6 t a inj N c m)
 | 0,c,_,_,h,_,_,_,_=>by have:=D5 c; omega
 | N+1,c,p,m,h,j,v,n,C=>by
  obtain ⟨n,rfl⟩:∃ k,n=k+1:=⟨n - 1,by omega⟩;have kid:∀ (i:Int),0<=i->i<c.Kids.length->SizeOf.sizeOf (AB c.Kids i)<=N:=fun i d f=>by
   have:=EP (AQ (l:=c.Kids) d f); omega
  rw [FK,D6];by_cases s:c.Kind=2
  ·have B:=j.one (.inl s);rw [d1 (by simpa using s),d1 s,AI (by omega) (by omega),bs,QA r hv q N _ p m (kid 0 (by omega) (by omega)) (j.kid (by omega) _ (AQ (by omega) (by omega))) v n (by omega),bs];generalize D6 t a inj N (AB c.Kids 0) m=x;by_cases g:x.2=0
   ·rw [d1 (by simpa using g),d1 g]; try rfl
   ·rw [d2 (by simpa using g),d2 g];by_cases b:x.2=10
    ·rw [d1 (by simpa using b),d1 b]; try rfl
    ·rw [d2 (by simpa using b),d2 b]; try rfl
  rw [d2 (by simpa using s),d2 s];by_cases w:c.Kind=3
  ·rw [d1 (by simpa using w),d1 w];have z:=j.few;rw [Tu (Lk fun k=>D6 t a inj N k m) PW (show PW 0 (zP,zP) from rfl)]
   ·unfold RE;show thenR (some (EX (Lk fun k=>D6 t a inj N k m) c.Kids (zP,zP))) _ _=_;cases EX (Lk fun k=>D6 t a inj N k m) c.Kids (zP,zP) <;> rfl
   ·intro i st d f hi;unfold PW at hi;rw [AI d f,bs,QA r hv q N _ p m (kid i d f) (j.kid (by omega) _ (AQ d f)) v n (by omega),bs];dsimp only [Lk];by_cases g:(D6 t a inj N (AB c.Kids i) m).2=0
    ·rw [d2 (by simp [g]),d2 (by simp [g]),CF (by simp; unfold BN; omega),bs];refine ⟨rfl,fun s' e=>?_⟩;cases e;unfold PW;simp; omega
    ·rw [d1 (by simp [g]),d1 g];exact ⟨rfl,fun s' e=>by cases e⟩
  rw [d2 (by simpa using w),d2 w];by_cases y:c.Kind=4
  ·rw [d1 (by simpa using y),d1 y];rw [P5 (fun _=>zP) (fun i=>if (D6 t a inj N (AB c.Kids i) m).2≠10 then some (⟨i,zM,[(D6 t a inj N (AB c.Kids i) m).1]⟩,(D6 t a inj N (AB c.Kids i) m).2) else none) (by omega) rfl]
   ·cases fst (fun i=>if (D6 t a inj N (AB c.Kids i) m).2≠10 then some ((⟨i,zM,[(D6 t a inj N (AB c.Kids i) m).1]⟩:A2),(D6 t a inj N (AB c.Kids i) m).2) else none) 0 c.Kids.length <;> rfl
   ·intro i d f _;rw [AI d f,bs,QA r hv q N _ p m (kid i d f) (j.kid (by omega) _ (AQ d f)) v n (by omega),bs];generalize D6 t a inj N (AB c.Kids i) m=x;by_cases b:x.2=10
    ·rw [d2 (by simp [b]),d2 (by simp [b])]; try rfl
    ·rw [d1 (by simp [b]),d1 b]; try rfl
  rw [d2 (by simpa using y),d2 y];by_cases o:c.Kind=5
  ·rw [d1 (by simpa using o),d1 o];have hi:=j.ins o;have B:=j.one (.inr o);rw [av r hv q v hi,bs];by_cases u:(B5 t c a m inj).2=0
   ·obtain ⟨b,A⟩:=Od hv q v hi u;rw [d2 (by simp [u]),d2 (by simp [u])];generalize (B5 t c a m inj).1=l at b A;rw [P5 (fun _=>zP) (fun i=>if (D6 t a inj N (AB c.Kids 0) (AB l i)).2≠10 then some (⟨0,AB l i,[(D6 t a inj N (AB c.Kids 0) (AB l i)).1]⟩,(D6 t a inj N (AB c.Kids 0) (AB l i)).2) else none) (by omega) rfl]
    ·cases fst (fun i=>if (D6 t a inj N (AB c.Kids 0) (AB l i)).2≠10 then some ((⟨0,AB l i,[(D6 t a inj N (AB c.Kids 0) (AB l i)).1]⟩:A2),(D6 t a inj N (AB c.Kids 0) (AB l i)).2) else none) 0 l.length <;> rfl
    ·intro i d f _;rw [AI (by omega) (by omega),bs,AI d f,bs,QA r hv q N _ c.Pattern _ (kid 0 (by omega) (by omega)) (j.kid5 o _ (AQ (by omega) (by omega))) (A _ (AQ d f)) n (by omega),bs];generalize D6 t a inj N (AB c.Kids 0) (AB l i)=x;by_cases b:x.2=10
     ·rw [d2 (by simp [b]),d2 (by simp [b])]; try rfl
     ·rw [d1 (by simp [b]),d1 b]; try rfl
   ·rw [d1 (by simp [u]),d1 u]; try rfl
  rw [d2 (by simpa using o),d2 o]; try rfl
end Go.Sf.Sc
namespace Go.Sf.Sc
open Go Go.Sf
theorem P7 {c:Int->dD} {a b:Int} {v w:Int} (d:w≠v) (h:∀ i,c i≠some v):(fst c a b).getD w≠v:=by
 cases f:fst c a b with
 | none=>exact d
 | some r=>
  obtain ⟨i,_,_,k,_⟩:=DZ f;simp only [Option.getD_some];exact fun e=>h i (by rw [k,e])
theorem ZM {e v:Int} (h:e≠v):nz e≠some v:=by
 unfold nz;split
 ·simp
 ·simpa using h
theorem Kk (g:Graph):DJ g≠10:=by
 unfold DJ;split
 ·decide
 ·split
  ·decide
  ·split <;> decide
theorem Xq (l:List ByteArray):J6 l≠10:=by
 unfold J6;split
 ·decide
 ·refine P7 (by decide) (fun i=>?_);split
  ·decide
  ·split <;> decide
theorem Y0 (l:List Attr) (k:Int):MD l k≠10:=by
 have:=Xq (AB l k).Names;unfold MD;dsimp only;split
 ·decide
 split
 ·decide
 split
 ·split <;> decide
 split
 ·exact this
 split <;> decide
theorem ZL (t:AC) (i:Int):JC t i≠10:=by
 unfold JC;dsimp only;split
 ·decide
 split
 ·decide
 split
 ·decide
 split
 ·decide
 exact P7 (by decide) (fun i=>ZM (Y0 _ _))
theorem Y8 (t:AC) (i:Int):Js t i≠10:=by
 unfold Js;dsimp only;split
 ·decide
 split
 ·decide
 split <;> decide
theorem UB {α:Type} {e:Int} {x r:α} (h:(nz e).map (fun e=>(x,e))=some (r,(10:Int))):e=10:=by
 unfold nz at h;split at h
 ·cases h
 ·simp only [Option.map_some,zzY,Prod.mk.injEq] at h; exact h.2
theorem Q3 (t:AC):(BF t).2≠10:=by
 unfold BF;split
 ·decide
 split
 ·decide
 split
 ·rename_i r a;obtain ⟨i,_,_,k,_⟩:=DZ a;intro e;obtain ⟨b,c⟩:=r;simp only at e;subst e;exact ZL t i (UB k)
 ·cases a:fst (fun i=>(nz (Js t i)).map fun e=>((AB t.Edges i).Name,e)) 0 t.Edges.length with
  | none=>decide
  | some r=>
   obtain ⟨i,_,_,k,_⟩:=DZ a;intro e;obtain ⟨b,c⟩:=r;simp only [Option.getD_some] at e;subst e;exact Y8 t i (UB k)
theorem Zw (n:Int) (x:Test):ML n x≠10:=by
 unfold ML;split
 ·decide
 ·split <;> decide
theorem X0 (n:Int) (l:List Test):Jb n l≠10:=by
 unfold Jb;split
 ·decide
 split
 ·decide
 exact P7 (by decide) (fun i=>ZM (Zw _ _))
theorem Rr (t:AC) (p:Pattern):J7 t p≠10:=by
 have a:=Q3 t;have b:=Kk p.Graph;have c:=X0 p.Vars p.Tests;unfold J7;split
 ·exact a
 split
 ·exact b
 split
 ·decide
 split
 ·decide
 split
 ·decide
 split
 ·decide
 split
 ·exact c
 split <;> decide
theorem aP (t:AC) (q:Pattern) (v:Int):MO t q v≠10:=by
 have:=Rr t q;unfold MO;split
 ·exact this
 ·split <;> decide
theorem Xp (a b:Graph) (m:Morphism) (i:Int):Kf a b m i≠some 10:=by
 unfold Kf;split
 ·decide
 ·split <;> decide
theorem SR (a b:Graph) (m:Morphism) (i:Int):Hy a b m i≠some 10:=by
 unfold Hy;split
 ·decide
 ·split
  ·decide
  ·split <;> decide
theorem Xf (t:AC) (a b:Graph) (m:Morphism) (i:Int):J0 t a b m i≠some 10:=by
 unfold J0;split
 ·decide
 ·split <;> decide
theorem Wk {c:Int->dD} {d:Int} {a b:Int} (h:∀ i,c i≠some 10) (f:d≠10):(match fst c a b with | some e=>e | none=>d)≠10:=by
 cases g:fst c a b with
 | none=>exact f
 | some r=>
  obtain ⟨i,_,_,k,_⟩:=DZ g;exact fun e=>h i (by rw [k]; exact congrArg some e)
theorem aV (a b:Graph) (m:Morphism):MQ a b m≠10:=by
 have c:=Kk a;have d:=Kk b;unfold MQ;split
 ·exact c
 split
 ·exact d
 split
 ·decide
 exact Wk (Xp a b m) (P7 (by decide) (SR a b m))
theorem UF (t:AC):∀ (N:Nat) (p:Pattern) (c:AA),HD N t p c≠10
 | 0,_,_=>by rw [HD]; decide
 | N+1,p,c=>by
  have a:∀ q,(fst (fun i=>nz (HD N t q (AB c.Kids i))) 0 c.Kids.length).getD 0≠10:=fun q=>P7 (by decide) (fun i=>ZM (UF t N q _));have b:=aP t c.Pattern p.Vars;have d:=aV p.Graph c.Pattern.Graph c.Map;rw [HD];split
  ·split
   ·decide
   split
   ·exact b
   split
   ·exact d
   split
   ·decide
   exact a _
  ·exact a _
theorem Y6 (t:AC) (p:Pattern) (c:AA):Ih t p c≠10:=by
 have a:=Rr t p;have b:=UF t (SizeOf.sizeOf c) p c;unfold Ih;split
 ·exact a
 split
 ·unfold LO;split
  ·decide
  ·split <;> decide
 ·exact b
theorem T1 (t:AC) (h:AU):(M3 t h).2≠10:=by
 have b:=Q3 t;have c:=Kk h.Graph;have d:∀ i,JS t (AB h.Graph.Nodes i) (AB h.Values i)≠10:=by
  intro i;unfold JS;split
  ·decide
  split
  ·decide
  split
  ·decide
  split <;> decide
 have f:∀ i,J4 t h.Graph i≠10:=by
  intro i;unfold J4;split
  ·decide
  split <;> decide
 unfold M3;split
 ·exact b
 split
 ·exact c
 split
 ·decide
 split
 ·rename_i r a;obtain ⟨i,_,_,k,_⟩:=DZ a;intro e;obtain ⟨g,j⟩:=r;simp only at e;subst e;exact d i (UB k)
 ·cases a:fst (fun i=>(nz (J4 t h.Graph i)).map fun e=>(i,e)) 0 h.Graph.Edges.length with
  | none=>decide
  | some r=>
   obtain ⟨i,_,_,k,_⟩:=DZ a;intro e;obtain ⟨g,j⟩:=r;simp only [Option.getD_some] at e;subst e;exact f i (UB k)
theorem Xn (t:AC) (p g:Graph):HP t p g≠10:=by
 have a:=Q3 t;have b:=Kk p;have c:=Kk g;unfold HP;split
 ·exact a
 split
 ·exact b
 split
 ·exact c
 split <;> decide
theorem U0 (t:AC) (p g:Graph) (m:Morphism) (inj:Bool):Mu t p g m inj≠10:=by
 have a:=Xn t p g;have b:NH t p g m≠10:=by
  unfold NH;split
  ·decide
  exact Wk (Xf t p g m) (P7 (by decide) (SR p g m))
 unfold Mu;split
 ·exact a
 split
 ·exact b
 split <;> decide
theorem dC {ρ:Type} {v:ρ} {h:AU} {m:Morphism}:∀ (l:List EJ) (st:Ne × d0) (r:ρ),EX (EY v h m) l st=.inr r->r=v:=by
 intro l
 induction l with
 | nil=>intro st r h; cases h
 | cons a l c=>
  intro st r h;rw [EX] at h;split at h
  ·exact c _ _ h
  ·cases h
  ·rename_i d b;cases h;unfold EY at b;split at b
   ·cases b
   ·cases b; rfl
theorem Zm (t:AC) (p:Pattern) (h:AU) (m:Morphism):(Lc t p h m).2≠10:=by
 have b:=Rr t p;have c:=T1 t h;have d:=U0 t p.Graph h.Graph m false;have e:M8 t p h≠10:=by
  unfold M8;split
  ·exact b
  ·exact c
 unfold Lc;split
 ·exact e
 split
 ·exact d
 unfold LP;split
 ·rename_i r a;rw [dC _ _ _ a]; decide
 ·split
  ·decide
  ·show (0:Int)≠10;decide
noncomputable def NQ (t:AC) (p:Pattern) (c:AA) (h:AU) (m:AF) (inj:Bool):Int:=
 if Ih t p c≠0 then Ih t p c else if (M3 t h).2≠0 then (M3 t h).2 else if Mu t p.Graph h.Graph m.Morphism inj≠0 then Mu t p.Graph h.Graph m.Morphism inj else
 if (Lc t p h m.Morphism).2≠0 then (Lc t p h m.Morphism).2 else if (Lc t p h m.Morphism).1=m.Vars then 0 else 11
theorem WI (t:AC) (p:Pattern) (c:AA) (h:AU) (m:AF) (inj:Bool):NQ t p c h m inj≠10:=by
 have a:=Y6 t p c;have b:=T1 t h;have d:=U0 t p.Graph h.Graph m.Morphism inj;have e:=Zm t p h m.Morphism;unfold NQ;split
 ·exact a
 split
 ·exact b
 split
 ·exact d
 split
 ·exact e
 split <;> decide
theorem cr {t:AC} (a:BX t) (p:Pattern) {c:AA} (b:EI c) (h:AU) (m:AF) (inj:Bool):F2 t p c h m inj=some (NQ t p c h m inj):=by
 unfold F2 NQ;rw [fx a p b,bs];refine Ie fun _=>?_;rw [ah a,bs];refine Ie fun _=>?_;rw [YU a,bs];refine Ie fun _=>?_;rw [fv a,bs];refine Ie fun _=>?_;rw [eR,bs];by_cases e:(Lc t p h m.Morphism).1=m.Vars
 ·rw [d2 (by simp [e]),d1 e]
 ·rw [d1 (by simp [e]),d2 e]
theorem cw {t:AC} (b:BX t) (p:Pattern) {c:AA} (f:EI c) (h:AU) (m:AF) (inj:Bool):L9 t p c h m inj=some (NQ t p c h m inj):=by
 unfold L9 NQ;rw [W6 b p f,bs];refine Ie fun _=>?_;rw [ax b,bs];refine Ie fun _=>?_;unfold Ny;rw [Ya b,bs];have e:∀ o:dD,(o.bind fun d=>some d)=o:=fun o=>by cases o <;> rfl
 rw [e];refine Ie fun _=>?_;rw [gG b,bs,gF];by_cases a:(Lc t p h m.Morphism).2=0
 ·rw [d1 (by simpa using a),d2 (by simp [a])];by_cases e:(Lc t p h m.Morphism).1=m.Vars
  ·rw [d1 e]; simp [e,a]
  ·rw [d2 e]; simp [e]
 ·rw [d2 (by simpa using a),d1 a]; rfl
theorem Y3 {t:AC} (u:BX t) {p:Pattern} {c:AA} (v:cnt c<=40) {h:AU} {m:AF} {inj:Bool} (e:NQ t p c h m inj=0):(BF t).2=0∧GY t h∧CV t p c∧NP t p h m:=by
 unfold NQ at e;split at e
 ·rename_i a; exact absurd e a
 rename_i a;split at e
 ·rename_i g; exact absurd e g
 rename_i g;split at e
 ·rename_i i; exact absurd e i
 rename_i i;split at e
 ·rename_i b; exact absurd e b
 rename_i b;split at e
 case isFalse=>cases e
 rename_i k;have a:=Classical.not_not.1 a;have g:=Classical.not_not.1 g;have i:=Classical.not_not.1 i;have b:=Classical.not_not.1 b;obtain ⟨hv,r⟩:=YJ u g;have q:=(aH i).2;unfold Ih at a;split at a
 ·rename_i l; exact absurd a l
 rename_i l;split at a
 ·rename_i d; exact absurd a d
 rename_i d;have o:=ZW hv (.inl (Classical.not_not.1 l));have d:=Classical.not_not.1 d;have w:bm c=true:=by
  unfold LO at d;split at d
  ·cases d
  ·rename_i j; simpa using j
 suffices f:(m.Vars.length:Int)=p.Vars∧NU m.Vars from ⟨hv,r,eH hv _ c p (d3 _) v w a,o,q,f.1,f.2⟩
 have f:∀ s∈p.Slots,Iz p.Vars h m.Morphism s:=fun s f=>Nj (G8 hv) o r q f;unfold Lc at b k;split at b
 ·rename_i j; exact absurd b j
 rename_i j;rw [d2 j] at k;split at b
 ·rename_i n; exact absurd b n
 rename_i n;rw [d2 n] at k;have:=bR o f b;rw [k] at this;exact this
end Go.Sf.Sc
namespace Go.Sf.Sc
open Go Go.Sf
def LY:Nat->AA->Bool
 | 0,_=>true
 | N+1,c=>if anyR (fun i=>!LY N (AB c.Kids i)) 0 c.Kids.length=true then false else decide (A4 ((c.Pattern.Graph.Nodes.length:Int)+c.Pattern.Graph.Edges.length)<=6)
theorem VZ:∀ (N:Nat) (c:AA),SizeOf.sizeOf c<=N->∀ n,N<=n->Hw n c=some (LY N c)
 | 0,c,h,_,_=>by have:=D5 c; omega
 | N+1,c,h,n,d=>by
  obtain ⟨n,rfl⟩:∃ k,n=k+1:=⟨n - 1,by omega⟩;rw [Hw,LY,CR (fun i=>!LY N (AB c.Kids i)) false]
  ·cases anyR (fun i=>!LY N (AB c.Kids i)) 0 c.Kids.length <;> rfl
  ·intro i a b _;have:=EP (AQ (l:=c.Kids) a b);rw [AI a b,bs,VZ N _ (by omega) n (by omega),bs,J5]
theorem XA (c:AA):O7 c=some (LY (SizeOf.sizeOf c) c):=FJ (SizeOf.sizeOf c) fun n a=>VZ _ c (d3 _) n a
def MR (a:Int):Nat->Int->Int
 | 0,s=>s
 | k+1,s=>A4 (MR a k s*a)
theorem eV {a b k s:Int} (e:0<=k) (d:k<=1000) (f:b<=1000):It (ρ:=Bool) (fun (c:Int × Int)=>
  if (decide (c.2<b))=true then
  some (.next (A4 (c.1*a),A4 (c.2+1)))
  else
  some (.brk (c.1,c.2))) (s,k)=some (.inl (MR a (max k b - k).toNat s,max k b)):=by
 refine UX (fun i=>MR a (i - k).toNat s) (by omega) (by rw [show (k - k).toNat=0 by omega]; rfl) (fun i g j=>?_) ?_
 ·rw [d1 (by simp; omega),show (i+1 - k).toNat=(i - k).toNat+1 by omega,MR];dsimp only;rw [BG (n:=i+1) (by omega) (by omega)]
 ·rw [d2 (by simp; omega)]
def Lr (a b:Int):Nat->Pattern->AA->Bool
 | 0,_,_=>true
 | N+1,p,c=>
  let q:=if c.Kind=5 then c.Pattern else p
  if anyR (fun i=>!Lr a b N q (AB c.Kids i)) 0 c.Kids.length=true then false else
  decide (MR b (max (p.Graph.Edges.length:Int) q.Graph.Edges.length - p.Graph.Edges.length).toNat (MR a (max (p.Graph.Nodes.length:Int) q.Graph.Nodes.length - p.Graph.Nodes.length).toNat 1)<=5000)
theorem W5 (a b:Int):∀ (N:Nat) (c:AA) (p:Pattern),SizeOf.sizeOf c<=N->EI c->QK p->∀ n,N<=n->FP n p c a b=some (Lr a b N p c)
 | 0,c,_,h,_,_,_,_=>by have:=D5 c; omega
 | N+1,c,p,h,g,v,n,G=>by
  obtain ⟨n,rfl⟩:∃ k,n=k+1:=⟨n - 1,by omega⟩;have A:=g.q.nodes;have B:=g.q.edges;have C:=v.nodes;have D:=v.edges;have d:∀ q:Pattern,QK q->(thenR (It (ρ:=Bool) (fun (e:Int × Int)=>
    if (decide (e.2<(q.Graph.Nodes.length:Int)))=true then
    some (.next (A4 (e.1*a),A4 (e.2+1)))
    else
    some (.brk (e.1,e.2))) (1,(p.Graph.Nodes.length:Int))) (fun e=>
    thenR (It (ρ:=Bool) (fun (s2:Int × Int)=>
    if (decide (s2.2<(q.Graph.Edges.length:Int)))=true then
    some (.next (A4 (s2.1*b),A4 (s2.2+1)))
    else
    some (.brk (s2.1,s2.2))) (e.1,(p.Graph.Edges.length:Int))) (fun s2=>
    thenR (forR (ρ:=Bool) (fun (w:Int) (_:Unit)=>
    (AM c.Kids w).bind fun j=>
    (FP n q j a b).bind fun o=>
    if (!o)=true then
    some (.ret false)
    else
    some (.next ())) 0 (c.Kids.length:Int) ()) (fun _=>
    some (decide (s2.1<=5000))) (fun x=>some x)) (fun y=>some y)) (fun z=>some z)) =
    some (if anyR (fun i=>!Lr a b N q (AB c.Kids i)) 0 c.Kids.length=true then false else
     decide (MR b (max (p.Graph.Edges.length:Int) q.Graph.Edges.length - p.Graph.Edges.length).toNat (MR a (max (p.Graph.Nodes.length:Int) q.Graph.Nodes.length - p.Graph.Nodes.length).toNat 1)<=5000)):=by
   intro q r;have E:=r.nodes;have F:=r.edges;rw [eV (by omega) (by omega) (by omega),DT];dsimp only;rw [eV (by omega) (by omega) (by omega),DT,CR (fun i=>!Lr a b N q (AB c.Kids i)) false]
   ·cases anyR (fun i=>!Lr a b N q (AB c.Kids i)) 0 c.Kids.length <;> rfl
   ·intro i s u _;have:=EP (AQ (l:=c.Kids) s u);rw [AI s u,bs,W5 a b N _ q (by omega) (g.k _ (AQ s u)) r n (by omega),bs,J5]
  rw [FP,Lr];by_cases f:c.Kind=5
  ·rw [d1 (by simpa using f),d1 f,bs,d _ g.q]
  ·rw [d2 (by simpa using f),d2 f,bs,d _ v]
theorem VW (a b:Int) {c:AA} {p:Pattern} (d:EI c) (e:QK p):ON p c a b=some (Lr a b (SizeOf.sizeOf c) p c):=FJ (SizeOf.sizeOf c) fun n f=>W5 a b _ c p (d3 _) d e n f
theorem WT (h:AU):∃ b,Me h=some b:=by
 unfold Me KK;rw [bs];split
 ·exact ⟨_,rfl⟩
 ·rw [CR (fun i=>decide (12<((AB h.Values i).length:Int))) false]
  ·cases anyR (fun i=>decide (12<((AB h.Values i).length:Int))) 0 h.Values.length
   ·exact ⟨true,rfl⟩
   ·exact ⟨false,rfl⟩
  ·intro i a c _;rw [AI a c,bs,J5]
theorem VY {t:AC} (a:BX t) (st:(AV t).Sm) (p g:Graph):∃ b,L3 t p g=some b:=by
 obtain ⟨b,e,_⟩:=U9 st;unfold L3 KK;rw [e,bs,TN a];simp only [bs];cases b <;> simp only [Bool.false_eq_true,if_false,if_true,bs]
 ·exact ⟨_,rfl⟩
 ·split <;> (rw [bs]; split <;> exact ⟨_,rfl⟩)
theorem ay {t:AC} (f:BX t) (st:(AV t).Sm) (p:Pattern) {c:AA} (k:(AE c).Sm) (h:AU):∃ b,FM t p c h=some b∧(b=true->EI c∧cnt c<=40∧QK p):=by
 obtain ⟨l,n,q⟩:=U6 k;obtain ⟨r,i,s⟩:=Uf p;obtain ⟨u,j⟩:=WT h;unfold FM;rw [n,bs];cases l
 ·exact ⟨false,rfl,fun h=>by cases h⟩
 rw [i];cases r
 ·exact ⟨false,rfl,fun h=>by cases h⟩
 rw [j];cases u
 ·exact ⟨false,rfl,fun h=>by cases h⟩
 have d:=q rfl;have g:=s rfl;simp only [bs,Bool.not_true,Bool.false_eq_true,if_false];rw [W6 f p d.1,bs];have a:∀ o:ca,(∃ b,o=some b)->∃ b,o=some b∧(b=true->EI c∧cnt c<=40∧QK p):=fun o ⟨b,e⟩=>⟨b,e,fun _=>⟨d.1,d.2,g⟩⟩;refine a _ ?_;split
 ·exact ⟨true,rfl⟩
 ·obtain ⟨v,w⟩:=VY f st p.Graph h.Graph;unfold L5;rw [i,j,w,XA,VW 14 18 d.1 g];simp only [bs,if_true];cases v <;> simp only [Bool.false_eq_true,if_false,if_true,bs,Bool.false_and]
  ·exact ⟨_,rfl⟩
  ·split
   ·exact ⟨_,rfl⟩
   ·exact ⟨_,rfl⟩
noncomputable def wS (t:AC) (p:Pattern) (c:AA) (h:AU) (m:AF) (inj:Bool):A2 × Int:=
 if NQ t p c h m inj≠0 then (zP,NQ t p c h m inj) else DN t h inj (SizeOf.sizeOf c) c m
theorem ap {t:AC} (a:BX t) (p:Pattern) {c:AA} (d:EI c) (e:cnt c<=40) (h:AU) (m:AF) (inj:Bool):E1 t p c h m inj=some (wS t p c h m inj):=by
 unfold E1 wS;rw [cr a p d,bs];refine K8 fun f=>?_;obtain ⟨hv,i,b,j⟩:=Y3 a e f;rw [show E5 (A8.mk t h inj) c m=some (DN t h inj (SizeOf.sizeOf c) c m) from FJ (2*SizeOf.sizeOf c) fun n g=>UG (s:=⟨t,h,inj⟩) a hv i _ c p m (d3 _) b j n g];rfl
noncomputable def LN (t:AC) (p:Pattern) (c:AA) (h:AU) (m:AF) (inj:Bool):Bool × Int:=
 if (wS t p c h m inj).2=10 then (false,0) else (decide ((wS t p c h m inj).2=0),(wS t p c h m inj).2)
theorem Xu {t:AC} (a:BX t) (p:Pattern) {c:AA} (b:EI c) (d:cnt c<=40) (h:AU) (m:AF) (inj:Bool):C4 t p c h m inj=some (LN t p c h m inj):=by
 unfold C4 LN;rw [ap a p b d,bs];by_cases e:(wS t p c h m inj).2=10
 ·rw [d1 (by simpa using e),d1 e]
 ·rw [d2 (by simpa using e),d2 e]
theorem W7 {t:AC} (b:BX t) {h:AU} {inj:Bool} {p:Pattern} {c:AA} {m:AF} (hv:(BF t).2=0) (d:GY t h) (a:CV t p c) (e:NP t p h m):Px t c h m inj=some (D6 t h inj (SizeOf.sizeOf c) c m):=FJ (SizeOf.sizeOf c) fun n f=>QA b hv d _ c p m (d3 _) a e n f
theorem Xw {t:AC} (b:BX t) (p:Pattern) {c:AA} (g:EI c) (i:cnt c<=40) (h:AU) (m:AF) (inj:Bool):JY t p c h m inj=some (LN t p c h m inj):=by
 unfold JY LN;rw [cw b p g,bs];have j:=WI t p c h m inj;by_cases a:NQ t p c h m inj=0
 ·have d:(wS t p c h m inj).2=(D6 t h inj (SizeOf.sizeOf c) c m).2:=by unfold wS; rw [d2 (by simp [a]),Uq,Wo]
  rw [d2 (by simp [a]),d];obtain ⟨hv,k,f,l⟩:=Y3 b i a;unfold Kt;rw [W7 b hv k f l,bs];by_cases e:(D6 t h inj (SizeOf.sizeOf c) c m).2=10
  ·rw [d1 (by simpa using e),d1 e]; rfl
  ·rw [d2 (by simpa using e),d2 e]; rfl
 ·have d:(wS t p c h m inj).2=NQ t p c h m inj:=by unfold wS; rw [d1 a]
  rw [d1 (by simp [a]),d,d2 j];simp [a]
end Go.Sf.Sc
namespace Go.Sf.Sc
open Go Go.Sf
end Go.Sf.Sc
namespace Go.Sf.Sc
open Go Go.Sf
end Go.Sf.Sc
namespace Go.Sf.Sc
open Go Go.Sf
def FV:Ne->Nat
 | []=>0
 | x::l=>(if x<0 then 1 else 0)+FV l
theorem QX {α β:Type} {F:α->List β} {B:Nat}:∀ {l:List α},(∀ k∈l,(F k).length<=B)->(l.flatMap F).length<=l.length*B
 | [],_=>by simp
 | a::l,h=>by
  have:=QX (F:=F) (l:=l) fun k b=>h k (by simp [b]);have:=h a (by simp);rw [List.flatMap_cons,d4,d6,Nat.succ_mul];omega
theorem Ts {α β:Type} {F:α->List β}:∀ {l:List α},(∀ k∈l,F k=[])->l.flatMap F=[]
 | [],_=>rfl
 | a::l,h=>by rw [List.flatMap_cons,h a (by simp),Ts fun k b=>h k (by simp [b])]; rfl
theorem Rb {α β:Type} {F:α->List β} {B:Nat} {a:α}:∀ {l:List α},l.Nodup->(∀ k∈l,k≠a->F k=[])->(F a).length<=B->(l.flatMap F).length<=B
 | [],_,_,_=>by simp
 | b::l,d,h,f=>by
  rw [List.nodup_cons] at d;rw [List.flatMap_cons,d4];by_cases e:b=a
  ·subst e;rw [Ts fun k c=>h k (by simp [c]) fun e=>d.1 (e ▸ c)];simpa using f
  ·rw [h b (by simp) e];have:=Rb d.2 (fun k c=>h k (by simp [c])) f;simpa using this
theorem UV (n:Nat):(BW n).Nodup:=by
 induction n with
 | zero=>simp [BW]
 | succ n f=>
  rw [Po,List.nodup_append];refine ⟨f,by simp,fun a c b d e=>?_⟩;rw [List.mem_singleton] at d;have:=Hr.1 c;omega
theorem WN {l:Ne} {k:Nat} (h:k<l.length):l.drop k=AB l k::l.drop (k+1):=by
 rw [List.drop_eq_getElem_cons h];congr 1;unfold AB;rw [List.getD_eq_getElem?_getD,List.getElem?_eq_getElem (by omega)]; rfl
theorem im:∀ (n:Nat) (f:AN),f.edges.length+n=f.partial_.Edges.length->(E8 n f).length<=f.g.Edges.length ^ FV (f.partial_.Edges.drop f.edges.length)
 | 0,f,h=>by
  rw [List.drop_of_length_le (by omega)];simp [E8,FV]
 | n+1,f,h=>by
  have j:=WN (l:=f.partial_.Edges) (k:=f.edges.length) (by omega);have d:∀ k,(if Pf f k=true then E8 n { f with edges:=f.edges++[k] } else []).length<=f.g.Edges.length ^ FV (f.partial_.Edges.drop (f.edges.length+1)):=by
   intro k;split
   ·have:=im n { f with edges:=f.edges++[k] } (by show (f.edges++[k]).length+n=f.partial_.Edges.length; rw [d4,List.length_singleton]; omega);have e:(f.edges++[k]).length=f.edges.length+1:=by rw [d4,List.length_singleton]
    dsimp only at this
    rwa [e] at this
   ·simp
  rw [E8,j,FV];by_cases c:AB f.partial_.Edges (f.edges.length:Int)<0
  ·rw [d1 c,Nat.pow_add,Nat.pow_one];have:=QX (l:=BW f.g.Edges.length) (B:=f.g.Edges.length ^ FV (f.partial_.Edges.drop (f.edges.length+1))) (fun k _=>d k)
   rwa [D2] at this
  ·rw [d2 c,Nat.zero_add];refine Rb (a:=AB f.partial_.Edges (f.edges.length:Int)) (UV _) (fun k _ i=>?_) (d _);rw [d2];intro b;unfold Pf at b;rw [zzZ,Qy,zzZ,Bool.or_eq_true,zzX,zzX] at b;rcases b.1.1 with h | h
   ·exact c h
   ·exact i h.symm
theorem io:∀ (n:Nat) (f:AN),f.edges=[]->f.p.Edges.length=f.partial_.Edges.length->f.nodes.length+n=f.partial_.Nodes.length->(HL n f).length<=f.g.Nodes.length ^ FV (f.partial_.Nodes.drop f.nodes.length)*f.g.Edges.length ^ FV f.partial_.Edges
 | 0,f,c,i,h=>by
  rw [List.drop_of_length_le (by omega)];have:=im f.p.Edges.length f (by rw [c,i]; simp);rw [c] at this;simpa [HL,FV] using this
 | n+1,f,c,i,h=>by
  have q:=WN (l:=f.partial_.Nodes) (k:=f.nodes.length) (by omega);have j:∀ k,(if Pg f k=true then HL n { f with nodes:=f.nodes++[k] } else []).length<=f.g.Nodes.length ^ FV (f.partial_.Nodes.drop (f.nodes.length+1))*f.g.Edges.length ^ FV f.partial_.Edges:=by
   intro k;split
   ·have:=io n { f with nodes:=f.nodes++[k] } c i (by show (f.nodes++[k]).length+n=f.partial_.Nodes.length; rw [d4,List.length_singleton]; omega);have e:(f.nodes++[k]).length=f.nodes.length+1:=by rw [d4,List.length_singleton]
    dsimp only at this
    rwa [e] at this
   ·simp
  rw [HL,q,FV];by_cases d:AB f.partial_.Nodes (f.nodes.length:Int)<0
  ·rw [d1 d,Nat.pow_add,Nat.pow_one,Nat.mul_assoc];have:=QX (l:=BW f.g.Nodes.length) (B:=f.g.Nodes.length ^ FV (f.partial_.Nodes.drop (f.nodes.length+1))*f.g.Edges.length ^ FV f.partial_.Edges) (fun k _=>j k)
   rwa [D2] at this
  ·rw [d2 d,Nat.zero_add];refine Rb (a:=AB f.partial_.Nodes (f.nodes.length:Int)) (UV _) (fun k _ o=>?_) (j _);rw [d2];intro b;unfold Pg at b;rw [zzZ,zzZ,Bool.or_eq_true,zzX,zzX] at b;rcases b.1.1 with h | h
   ·exact d h
   ·exact o h.symm
theorem Xm {t:AC} {p g:Graph} {a:Morphism} {inj:Bool} (c:a.Nodes.length=p.Nodes.length) (b:a.Edges.length=p.Edges.length):(Ls t p g a inj).length<=g.Nodes.length ^ FV a.Nodes*g.Edges.length ^ FV a.Edges:=by
 have:=io p.Nodes.length (FF t p g a inj) rfl b.symm (by show 0+p.Nodes.length=a.Nodes.length; omega);unfold Ls;rw [d5];exact Nat.le_trans (Nat.min_le_right _ _) this
theorem Wl:∀ (l:Ne) (k:Nat) (v:Int),k<l.length->l.getD k default<0->0<=v->FV (l.set k v)+1=FV l
 | [],k,v,h,_,_=>by simp at h
 | x::l,0,v,_,a,b=>by
  simp at a;rw [List.set_cons_zero,FV,FV,d2 (by omega),d1 a]; omega
 | x::l,k+1,v,c,a,b=>by
  have:=Wl l k v (by simpa using c) (by simpa using a) b;rw [List.set_cons_succ,FV,FV];omega
theorem cn (n:Nat):FV (List.replicate n (-1))=n:=by
 induction n with
 | zero=>rfl
 | succ n a=>rw [List.replicate_succ,FV,a]; simp; omega
theorem fK {α:Type} [Inhabited α] {l:List α} {i j:Int} (v:α) (a:0<=i) (b:0<=j) (h:j≠i):AB (BZ l i v) j=AB l j:=by
 unfold AB BZ;rw [List.getD_eq_getElem?_getD,List.getD_eq_getElem?_getD,List.getElem?_set];rw [d2 (by omega)]
theorem VR {by' images:Ne}:∀ (a l:Ne),(a.map (AB by')).Nodup->(∀ k∈a,(0<=AB by' k∧AB by' k<l.length)∧AB l (AB by' k)<0∧0<=AB images k)->FV (a.foldl (fun l i=>BZ l (AB by' i) (AB images i)) l)+a.length=FV l
 | [],l,_,_=>by simp
 | k::a,l,b,h=>by
  obtain ⟨f,g,n⟩:=h k (by simp);rw [List.map_cons,List.nodup_cons] at b;have e:=Wl l (AB by' k).toNat (AB images k) (by omega) g n;have q:=VR (by':=by') (images:=images) a (BZ l (AB by' k) (AB images k)) b.2 (fun j c=>by
   obtain ⟨d,o,p⟩:=h j (by simp [c]);refine ⟨by rw [O8]; exact d,?_,p⟩;rw [fK _ f.1 d.1]
   ·exact o
   ·intro e;exact b.1 (List.mem_map.2 ⟨j,c,e⟩))
  rw [List.foldl_cons,d6];have r:FV (BZ l (AB by' k) (AB images k))+1=FV l:=e;omega
theorem XX (l:Ne):(BW l.length).map (AB l)=l:=by
 refine aC (by rw [d7,D2]) (fun i b a=>?_);rw [d7,D2] at a;exact Mk _ b a
theorem T8 {n:Nat} {by' images:Ne} (c:by'.Nodup) (d:∀ x∈by',0<=x∧x<n) (hi:∀ k:Int,0<=k->k<by'.length->0<=AB images k):FV (I4 n by' images)+by'.length=n:=by
 have:=VR (by':=by') (images:=images) (BW by'.length) (List.replicate n (-1)) (by rw [XX]; exact c) (fun k a=>by
  have a:=Hr.1 a;have b:=d _ (AQ a.1 a.2);refine ⟨by simpa using b,?_,hi k a.1 a.2⟩;have:AB (List.replicate n (-1:Int)) (AB by' k)∈List.replicate n (-1:Int):=AQ b.1 (by simpa using b.2);rw [List.mem_replicate] at this;omega)
 rw [cn,D2] at this;exact this
def d8 (p:Pattern) (c:AA):Prop:=14 ^ (c.Pattern.Graph.Nodes.length - p.Graph.Nodes.length)*18 ^ (c.Pattern.Graph.Edges.length - p.Graph.Edges.length)<=5000
theorem PS {t:AC} {h:AU} {inj:Bool} {p:Pattern} {c:AA} {m:AF} (hv:(BF t).2=0) (u:GY t h) (f:NP t p h m) (hi:V4 t p c) (v:d8 p c) (w:h.Graph.Nodes.length<=14) (y:h.Graph.Edges.length<=18):(B5 t c h m inj).2=0:=by
 have a:=hi.inj;unfold Nc at a;rw [zzZ,QS,QS] at a;have m1:=hi.map.nlen;have G:=hi.map.elen;have H:=f.m.nlen;have I:=f.m.elen;have J:=T8 (n:=c.Pattern.Graph.Nodes.length) (images:=m.Morphism.Nodes) a.1 (fun x b=>by obtain ⟨i,o,r,rfl⟩:=EH b; exact (hi.map.node i o r).1) (fun k j l=>(f.m.node k j (by omega)).1.1);have K:=T8 (n:=c.Pattern.Graph.Edges.length) (images:=m.Morphism.Edges) a.2 (fun x b=>by obtain ⟨i,o,r,rfl⟩:=EH b; exact (hi.map.edge i o r).1) (fun k j l=>(f.m.edge k j (by omega)).1);have D:∀ d:Morphism,d.Nodes.length=c.Pattern.Graph.Nodes.length->d.Edges.length=c.Pattern.Graph.Edges.length->(∀ x∈d.Nodes,-1<=x∧x<h.Graph.Nodes.length)->(∀ x∈d.Edges,-1<=x∧x<h.Graph.Edges.length)->FV d.Nodes=c.Pattern.Graph.Nodes.length - p.Graph.Nodes.length->FV d.Edges=c.Pattern.Graph.Edges.length - p.Graph.Edges.length->(O0 t c.Pattern.Graph h.Graph d inj).2=0:=by
  intro d l1 l2 z A B C;unfold O0;rw [d2,d2 (by omega),d2,d2,d2]
  ·have:=Xm (t:=t) (g:=h.Graph) (inj:=inj) l1 l2;rw [B,C] at this;have l:h.Graph.Nodes.length ^ (c.Pattern.Graph.Nodes.length - p.Graph.Nodes.length)<=14 ^ (c.Pattern.Graph.Nodes.length - p.Graph.Nodes.length):=Nat.pow_le_pow_left w _;have E:h.Graph.Edges.length ^ (c.Pattern.Graph.Edges.length - p.Graph.Edges.length)<=18 ^ (c.Pattern.Graph.Edges.length - p.Graph.Edges.length):=Nat.pow_le_pow_left y _;have L:=Nat.mul_le_mul l E;unfold d8 at v;omega
  ·unfold Ns;rw [d2]
   ·simp
   ·rw [List.any_eq_true];rintro ⟨x,b,e⟩;have:=A x b;unfold Ov at e;rw [Bool.or_eq_true,zzX,zzX] at e;omega
  ·unfold Ns;rw [d2]
   ·simp
   ·rw [List.any_eq_true];rintro ⟨x,b,e⟩;have:=z x b;unfold Ov at e;rw [Bool.or_eq_true,zzX,zzX] at e;omega
  ·unfold HP;rw [d2 (by simp [hv]),d2 (by simp [hi.q.ge]),d2 (by simp [u.ge]),d1 (by rw [hi.q.ty,u.ty]; rfl)];simp
 have F:=D ⟨I4 c.Pattern.Graph.Nodes.length c.Map.Nodes m.Morphism.Nodes,I4 c.Pattern.Graph.Edges.length c.Map.Edges m.Morphism.Edges⟩ (UH _ _ _) (UH _ _ _) (fun x b=>by
  rcases UI b with e | ⟨k,s,e⟩
  ·omega
  ·have:=(f.m.node k s.1 (by omega)).1; omega) (fun x b=>by
  rcases UI b with e | ⟨k,s,e⟩
  ·omega
  ·have:=f.m.edge k s.1 (by omega); omega) (by show FV (I4 _ _ _)=_; omega) (by show FV (I4 _ _ _)=_; omega)
 unfold B5;dsimp only;rw [d2 (by rw [F]; simp)]
end Go.Sf.Sc
namespace Go.Sf.Sc
open Go Go.Sf
def Qd (t:AC) (p:Pattern) (c:AA):Int:=
 if c.Pattern.Vars<p.Vars then 20 else if MO t c.Pattern p.Vars≠0 then MO t c.Pattern p.Vars else
 if MQ p.Graph c.Pattern.Graph c.Map≠0 then MQ p.Graph c.Pattern.Graph c.Map else if Nc c.Map=false then 1 else 0
inductive CG (t:AC):Pattern->AA->Prop where
 | mk (p:Pattern) (c:AA) (ex:c.Kind=5->Qd t p c=0∧d8 p c) (kids:∀ k∈c.Kids,CG t (if c.Kind=5 then c.Pattern else p) k):CG t p c
theorem CG.ex {t:AC} {p:Pattern} {c:AA} (h:CG t p c):c.Kind=5->Qd t p c=0∧d8 p c:=by cases h; assumption
theorem CG.kids {t:AC} {p:Pattern} {c:AA} (h:CG t p c):∀ k∈c.Kids,CG t (if c.Kind=5 then c.Pattern else p) k:=by cases h; assumption
theorem CG.kid {t:AC} {p:Pattern} {c:AA} (h:CG t p c) (a:¬ c.Kind=5):∀ k∈c.Kids,CG t p k:=fun k b=>by have:=h.kids k b; rwa [d2 a] at this
theorem CG.kid5 {t:AC} {p:Pattern} {c:AA} (h:CG t p c) (a:c.Kind=5):∀ k∈c.Kids,CG t c.Pattern k:=fun k b=>by have:=h.kids k b; rwa [d1 a] at this
theorem fo (t:AC) (p:Pattern) (c:AA) (N:Nat):HD (N+1) t p c=if c.Kind=5∧Qd t p c≠0 then Qd t p c else (fst (fun i=>nz (HD N t (if c.Kind=5 then c.Pattern else p) (AB c.Kids i))) 0 c.Kids.length).getD 0:=by
 rw [HD];by_cases a:c.Kind=5
 ·rw [d1 a,d1 a];unfold Qd;by_cases e:c.Pattern.Vars<p.Vars
  ·rw [d1 e,d1 e,d1 ⟨a,by decide⟩]
  rw [d2 e,d2 e];by_cases b:MO t c.Pattern p.Vars≠0
  ·rw [d1 b,d1 b,d1 ⟨a,b⟩]
  rw [d2 b,d2 b];by_cases d:MQ p.Graph c.Pattern.Graph c.Map≠0
  ·rw [d1 d,d1 d,d1 ⟨a,d⟩]
  rw [d2 d,d2 d];by_cases f:Nc c.Map=false
  ·rw [d1 f,d1 f,d1 ⟨a,by decide⟩]
  rw [d2 f,d2 f,d2 (by simp)]
 ·rw [d2 a,d2 a,d2 (by simp [a])]
theorem Uh {a:Nat} (c:a<=18) (d:1<=a) {s:Nat}:∀ k:Nat,(∀ j,j<=k->a ^ j*s<=18 ^ 6)->MR a k s=((a ^ k*s:Nat):Int)
 | 0,_=>by simp [MR]
 | k+1,h=>by
  have e:=Uh c d (s:=s) k fun j g=>h j (by omega);have b:=h (k+1) (d3 _);rw [MR,e];have f:((a ^ k*s:Nat):Int)*(a:Int)=((a ^ (k+1)*s:Nat):Int):=by
   rw [Nat.pow_succ]; push_cast; rw [Int.mul_right_comm]
  rw [f,BG (by omega) (by
   have:((18:Nat) ^ 6)=34012224:=by decide
   omega)]
theorem ib {p q:Pattern} (h:MR 18 (max (p.Graph.Edges.length:Int) q.Graph.Edges.length - p.Graph.Edges.length).toNat (MR 14 (max (p.Graph.Nodes.length:Int) q.Graph.Nodes.length - p.Graph.Nodes.length).toNat 1)<=5000) (o:q.Graph.Nodes.length+q.Graph.Edges.length<=6) :
  14 ^ (q.Graph.Nodes.length - p.Graph.Nodes.length)*18 ^ (q.Graph.Edges.length - p.Graph.Edges.length)<=5000:=by
 have d:(max (p.Graph.Edges.length:Int) q.Graph.Edges.length - p.Graph.Edges.length).toNat=q.Graph.Edges.length - p.Graph.Edges.length:=by omega
 have e:(max (p.Graph.Nodes.length:Int) q.Graph.Nodes.length - p.Graph.Nodes.length).toNat=q.Graph.Nodes.length - p.Graph.Nodes.length:=by omega
 rw [d,e] at h;generalize r:q.Graph.Edges.length - p.Graph.Edges.length=j at *;generalize u:q.Graph.Nodes.length - p.Graph.Nodes.length=k at *;have f:k+j<=6:=by omega
 have g:∀ i,i<=k->14 ^ i*1<=18 ^ 6:=fun i hi=>by
  rw [Nat.mul_one];exact Nat.le_trans (Nat.pow_le_pow_left (by omega) i) (Nat.pow_le_pow_right (by omega) (by omega))
 have l:∀ i,i<=j->18 ^ i*(14 ^ k*1)<=18 ^ 6:=fun i hi=>by
  rw [Nat.mul_one];refine Nat.le_trans (Nat.mul_le_mul_left _ (Nat.pow_le_pow_left (by omega:14<=18) k)) ?_;rw [←Nat.pow_add];exact Nat.pow_le_pow_right (by omega) (by omega)
 have m1:=Uh (a:=14) (by omega) (by omega) (s:=1) k g;have n:=Uh (a:=18) (by omega) (by omega) (s:=14 ^ k*1) j l;have b:MR 14 k 1=((14 ^ k*1:Nat):Int):=m1;have c:MR 18 j ((14 ^ k*1:Nat):Int)=((18 ^ j*(14 ^ k*1):Nat):Int):=n;rw [b,c,Nat.mul_one,Nat.mul_comm] at h;omega
theorem eF {t:AC}:∀ (N:Nat) {p:Pattern} {c:AA},SizeOf.sizeOf c<=N->(∀ M,M=N->HD M t p c=0)->Lr 14 18 N p c=true->LY N c=true->EI c->CG t p c
 | 0,_,c,h,_,_,_,_=>by have:=D5 c; omega
 | N+1,p,c,h,ho,a,g,r=>by
  have ho:=ho _ rfl;rw [fo] at ho;rw [Lr] at a;rw [LY] at g;generalize l:(if c.Kind=5 then c.Pattern else p)=q at a
  try dsimp only at a
  split at a
  ·cases a
  rename_i d;split at g
  ·cases g
  rename_i e;rw [zzX] at a g;rw [Bool.not_eq_true,E6] at d e;have v:=r.q.nodes;have w:=r.q.edges;rw [BG (by omega) (by omega)] at g;have f:(fst (fun i=>nz (HD N t (if c.Kind=5 then c.Pattern else p) (AB c.Kids i))) 0 c.Kids.length).getD 0=0:=by
   by_cases b:c.Kind=5∧Qd t p c≠0
   ·rw [d1 b] at ho; exact absurd ho b.2
   ·rwa [d2 b] at ho
  refine .mk p c (fun s=>⟨?_,?_⟩) (fun k j=>?_)
  ·by_cases b:Qd t p c≠0
   ·rw [d1 ⟨s,b⟩] at ho; exact ho
   ·exact Classical.not_not.1 b
  ·rw [d1 s] at l;subst l;exact ib a (by omega)
  ·have x:=EP j;obtain ⟨i,n,o,rfl⟩:=EH j;refine eF N (by omega) (fun M u=>by subst u; exact Tx f i n o) ?_ ?_ (r.k _ j)
   ·have:=d i n o;rw [l];simpa using this
   ·have:=e i n o;simpa using this
mutual
def HE (t:AC) (h:AU) (inj:Bool):AA->AF->Bool
 | ⟨k,kids,mp,p⟩,m=>
  if k=2 then !((Sg t h inj kids).headD fun _=>true) m else
  if k=3 then (Sg t h inj kids).all fun f=>f m else
  if k=4 then (Sg t h inj kids).any fun f=>f m else
  if k=5 then (B5 t ⟨k,kids,mp,p⟩ h m inj).1.any ((Sg t h inj kids).headD fun _=>true) else true
def Sg (t:AC) (h:AU) (inj:Bool):List AA->List (AF->Bool)
 | []=>[]
 | c::l=>HE t h inj c::Sg t h inj l
end
theorem WL (t:AC) (h:AU) (inj:Bool):∀ l,Sg t h inj l=l.map (HE t h inj)
 | []=>rfl
 | c::l=>by rw [Sg,WL t h inj l]; rfl
theorem RP (t:AC) (h:AU) (inj:Bool) (c:AA) (m:AF):HE t h inj c m =
  if c.Kind=2 then !((c.Kids.map (HE t h inj)).headD fun _=>true) m else
  if c.Kind=3 then c.Kids.all fun k=>HE t h inj k m else
  if c.Kind=4 then c.Kids.any fun k=>HE t h inj k m else
  if c.Kind=5 then (B5 t c h m inj).1.any ((c.Kids.map (HE t h inj)).headD fun _=>true) else true:=by
 cases c;rw [HE,WL,List.all_map,List.any_map];rfl
theorem Nb {α:Type} [Inhabited α] {β:Type} {l:List α} {f:α->β} {d:β} (h:l.length=1):(l.map f).headD d=f (AB l 0):=by
 obtain ⟨x,rfl⟩:=List.length_eq_one_iff.1 h;rfl
theorem YI {w:Int->A2 × Int} {d:Int->Bool} {F:Int->Option (A2 × Int)} {n:Int} (f:∀ i,0<=i->i<n->(w i).2=if d i=true then 0 else 10)
  (g:∀ i,0<=i->i<n->((F i).map (·.2))=if (w i).2=0 then some 0 else if (w i).2≠10 then some (w i).2 else none):((fst F 0 n).getD (zP,10)).2=if anyR d 0 n=true then 0 else 10:=by
 cases j:fst F 0 n with
 | none=>
  have l:=D9.1 j;rw [d2]
  ·rfl
  ·rw [Bool.not_eq_true,E6];intro i b c;have a:=g i b c;rw [l i b c,f i b c] at a;cases e:d i
   ·rfl
   ·rw [e] at a; simp at a
 | some r=>
  obtain ⟨i,b,c,k,_⟩:=DZ j;have a:=g i b c;rw [k,f i b c] at a;cases e:d i
  ·rw [e] at a; simp at a
  ·rw [e] at a;rw [d1 (by rw [IY]; exact ⟨i,b,c,e⟩)];simpa using a
theorem WB {w:AA->A2 × Int} {d:AA->Bool}:∀ (l:List AA) (s:A2 × A2),(∀ k∈l,(w k).2=if d k=true then 0 else 10)->(match EX (Lk w) l s with | .inl s=>(s.2,(0:Int)) | .inr r=>r).2=if l.all d=true then 0 else 10
 | [],s,_=>rfl
 | k::l,s,h=>by
  have a:=h k (by simp);rw [EX];unfold Lk;rw [List.all_cons];cases b:d k
  ·rw [b] at a;rw [d1 (by rw [a]; decide)];simpa using a
  ·rw [b] at a;rw [d2 (by rw [a]; decide),Bool.true_and];exact WB l _ fun k a=>h k (by simp [a])
theorem Up {t:AC} {h:AU} {inj:Bool} (hv:(BF t).2=0) (u:GY t h) (x:h.Graph.Nodes.length<=14) (y:h.Graph.Edges.length<=18):∀ (N:Nat) (c:AA) (p:Pattern) (m:AF),SizeOf.sizeOf c<=N->CV t p c->CG t p c->NP t p h m->(DN t h inj N c m).2=if HE t h inj c m=true then 0 else 10
 | 0,c,_,_,h,_,_,_=>by have:=D5 c; omega
 | N+1,c,p,m,D,d,n,o=>by
  have kid:∀ k∈c.Kids,SizeOf.sizeOf k<=N:=fun k a=>by have:=EP a; omega
  have q:=Up hv u x y (inj:=inj) N;rw [DN,RP];by_cases j:c.Kind=2
  ·have v:=d.one (.inl j);rw [d1 j,d1 j,Nb v];have a:=AQ (l:=c.Kids) (i:=0) (by omega) (by omega);have e:=q _ p m (kid _ a) (d.kid (by omega) _ a) (n.kid (by omega) _ a) o;cases z:HE t h inj (AB c.Kids 0) m
   ·rw [z] at e;rw [d2 (by rw [e]; decide),d1 (by rw [e]; rfl)]; rfl
   ·rw [z] at e;rw [d1 (by rw [e]; rfl)]; rfl
  rw [d2 j,d2 j];by_cases r:c.Kind=3
  ·rw [d1 r,d1 r];exact WB c.Kids (zP,zP) fun k a=>q k p m (kid k a) (d.kid (by omega) k a) (n.kid (by omega) k a) o
  rw [d2 r,d2 r];by_cases s:c.Kind=4
  ·rw [d1 s,d1 s,Kd];refine YI (w:=fun i=>DN t h inj N (AB c.Kids i) m) (fun i f g=>?_) (fun i f g=>?_)
   ·have a:=AQ f g;exact q _ p m (kid _ a) (d.kid (by omega) _ a) (n.kid (by omega) _ a) o
   ·try dsimp only
    split
    ·rfl
    ·split <;> rfl
  rw [d2 s,d2 s];by_cases b:c.Kind=5
  ·rw [d1 b,d1 b];have hi:=d.ins b;have v:=d.one (.inr b);have A:=PS (inj:=inj) hv u o hi (n.ex b).2 x y;obtain ⟨C,B⟩:=Od hv u o hi A;have a:=AQ (l:=c.Kids) (i:=0) (by omega) (by omega);rw [d2 (by simp [A]),Nb v,Kd];refine YI (w:=fun i=>DN t h inj N (AB c.Kids 0) (AB (B5 t c h m inj).1 i)) (fun i f g=>?_) (fun i f g=>?_)
   ·exact q _ c.Pattern _ (kid _ a) (d.kid5 b _ a) (n.kid5 b _ a) (B _ (AQ f g))
   ·try dsimp only
    split
    ·rfl
    ·split <;> rfl
  rw [d2 b,d2 b]; rfl
end Go.Sf.Sc
namespace Go.Sf.Sc
open Go Go.Sf
section
variable (t:AC) (h:AU) (inj:Bool) (m:AF)
end
end Go.Sf.Sc
namespace Go.Sf.Sc
open Go Go.Sf
def U8 (x:Int):Prop:=0<=x∧x<256
theorem U8.w {x:Int} (h:U8 x):A4 x=x:=BG (by have:=h.1; omega) (by have:=h.2; omega)
structure Yw (n:CW) (i:Int):Prop where
 name:n.Name.size<=40
 par:-1<=n.Parent∧n.Parent<i
 attrs:n.Attrs.length<=1
 each:∀ a∈n.Attrs,RD a
structure Vv (t:AC) (i:Int):Prop where
 len:(t.Nodes.length:Int)=i
 node:∀ k:Int,0<=k->k<i->Yw (AB t.Nodes k) k
theorem Vv.app {t:AC} {i:Int} (h:Vv t i) {n:CW} (b:Yw n i):Vv ⟨t.Nodes++[n],t.Edges⟩ (i+1):=by
 refine ⟨by simp [←h.len],fun k a c=>?_⟩;have d:=h.len;by_cases e:k=i
 ·subst e;rw [show AB (t.Nodes++[n]) k=n from Ua _ _ (by omega)];exact b
 ·rw [show AB (t.Nodes++[n]) k=AB t.Nodes k from RF _ _ a (by omega)];exact h.node k a (by omega)
structure R2 (t:AC):Prop where
 n:Vv t t.Nodes.length
 pos:0<t.Nodes.length
 nodes:t.Nodes.length<=6
 edges:t.Edges.length<=5
 edge:∀ e∈t.Edges,e.Name.size<=40∧(0<=e.From∧e.From<t.Nodes.length)∧0<=e.To∧e.To<t.Nodes.length
theorem R2.few {t:AC} (h:R2 t):BX t:=by
 have a:∀ n∈t.Nodes,∃ i,Yw n i:=fun n a=>by
  obtain ⟨i,d,f,rfl⟩:=EH a;exact ⟨i,h.n.node i d f⟩
 refine ⟨by have:=h.nodes; omega,by have:=h.edges; omega,fun n b=>?_,fun n b=>?_,fun n b=>?_,fun e c=>?_⟩
 ·obtain ⟨i,k⟩:=a n b; have:=k.name; omega
 ·obtain ⟨i,k⟩:=a n b; have:=k.attrs; omega
 ·obtain ⟨i,k⟩:=a n b; exact k.each
 ·have:=(h.edge e c).1; omega
theorem R2.par {t:AC} (h:R2 t):G9 t t.Nodes.length:=fun i a b=>(h.n.node i a b).par
theorem R2.below {t:AC} (h:R2 t) {a b:Int} (e:0<=a) (c:a<t.Nodes.length) (d:0<=b):∃ r,IG t a b=some r:=
 ⟨_,FJ (a+2).toNat fun n f=>TM h.par d n (a+1).toNat a (by omega) c (by omega) (by omega)⟩
end Go.Sf.Sc
namespace Go.Sf.Sc
open Go Go.Sf
structure uT (t:AC) (g:Graph):Prop where
 nodes:g.Nodes.length<=8
 edges:g.Edges.length<=10
 kind:∀ n∈g.Nodes,0<=n∧n<t.Nodes.length
structure kY (p:Pattern):Prop where
 nodes:p.Graph.Nodes.length<=8
 edges:p.Graph.Edges.length<=10
 slots:p.Slots.length<=4
 tests:p.Tests.length<=3
 vars:0<=p.Vars∧p.Vars<=3
end Go.Sf.Sc
namespace Go.Sf.Sc
open Go Go.Sf
structure On (t:AC) (p:Pattern) (h:AU) (inj:Bool) (m:AF):Prop where
 chk:Mu t p.Graph h.Graph m.Morphism inj=0
 solve:LP p h m.Morphism=(m.Vars,0)
end Go.Sf.Sc
namespace Go.Sf.Sc
open Go Go.Sf
structure uV (p q:Pattern):Prop where
 nodes:q.Graph.Nodes.length<=p.Graph.Nodes.length+1
 edges:q.Graph.Edges.length<=p.Graph.Edges.length+1
 slots:q.Slots.length<=1
 tests:q.Tests.length<=1
 vars:0<=q.Vars∧q.Vars<=20
end Go.Sf.Sc
namespace Go.Sf.Sc
open Go Go.Sf
structure yF (p:Pattern) (depth:Int):Prop where
 d:0<=depth∧depth<=2
 nodes:(p.Graph.Nodes.length:Int)+depth<=20
 edges:(p.Graph.Edges.length:Int)+depth<=20
 vars:0<=p.Vars∧p.Vars<=20
end Go.Sf.Sc
namespace Go.Sf.Sc
open Go Go.Sf
theorem Lb {α:Type} {e:α->TV} {n:Nat} {l:List α} (h:l.length<=1000) (a:∀ x∈l,(e x).Sm):TV.Sm (eL n e l):=by
 show TV.Sm (.list n (l.map e));simp only [TV.Sm,d7];refine ⟨by unfold reachBytes; omega,QD.2 fun t b=>?_⟩;obtain ⟨x,c,rfl⟩:=List.mem_map.1 b;exact a x c
theorem Uo {l:Ne} (h:l.length<=1000):TV.Sm (eL 1 eI l):=Lb h fun _ _=>trivial
theorem UT {s:ByteArray} (h:(s.size:Int)<=1000):TV.Sm (eS s):=by
 show TV.Sm (.str s);simp only [TV.Sm];unfold reachBytes; omega
theorem dO {t:AC} (h:BX t):(AV t).Sm:=by
 have g:=h.nodes;have i:=h.edges;refine ⟨Lb (by omega) fun n c=>?_,Lb (by omega) fun e d=>?_,trivial⟩
 ·have:=h.name n c;have:=h.attrs n c;refine ⟨UT (by omega),trivial,trivial,Lb (by omega) fun a b=>?_,trivial⟩;have b:=h.each n c a b;have:=b.name;have:=b.names;exact ⟨UT (by omega),trivial,trivial,Lb (by omega) fun x f=>UT (by have:=b.each x f; omega),trivial⟩
 ·have:=h.ename e d;exact ⟨UT (by omega),trivial,trivial,trivial,trivial,trivial,trivial,trivial⟩
theorem Yg:∀ (N:Nat) (c:AA),SizeOf.sizeOf c<=N->EI c->cnt c<=1000->(AE c).Sm
 | 0,c,h,_,_=>by have:=D5 c; omega
 | N+1,c,h,a,o=>by
  have d:=a.q.nodes;have e:=a.q.edges;have f:=a.q.slots;have g:=a.q.tests;have m1:=a.m.nodes;have i:=a.m.edges;have j:=Mw c;have l:=RO c.Kids;refine ⟨trivial,?_,Uo (by omega),Uo (by omega),Uo (by omega),Lb (by omega) fun _ _=>⟨trivial,trivial,trivial,trivial⟩,Lb (by omega) fun _ _=>⟨trivial,trivial,trivial,trivial,trivial⟩,trivial,Lb (by omega) fun _ _=>⟨trivial,trivial,trivial,trivial,trivial,trivial⟩,trivial⟩;rw [Kz];refine Lb (n:=9) (by omega) fun k b=>?_;have:=EP b;have:=Oy b;exact Yg N k (by omega) (a.k k b) (by omega)
structure TX (p:Pattern) (c:AA) (h:AU):Prop where
 few:EI c
 cnt:cnt c<=40
 q:QK p
 bound:Lr 14 18 (SizeOf.sizeOf c) p c=true
 narrow:LY (SizeOf.sizeOf c) c=true
 nodes:h.Graph.Nodes.length<=6
 edges:h.Graph.Edges.length<=8
theorem cj {t:AC} (e:BX t) {p:Pattern} {c:AA} (d:EI c) (k:cnt c<=1000) (l:Ih t p c=0) (h:AU):∃ b,FM t p c h=some b∧(b=true->TX p c h):=by
 obtain ⟨o,q,r⟩:=U6 (Yg _ c (d3 _) d k);obtain ⟨s,i,u⟩:=Uf p;obtain ⟨v,j⟩:=WT h;unfold FM;rw [q,bs];cases o
 ·exact ⟨false,rfl,fun h=>by cases h⟩
 rw [i];cases s
 ·exact ⟨false,rfl,fun h=>by cases h⟩
 rw [j];cases v
 ·exact ⟨false,rfl,fun h=>by cases h⟩
 have f:=r rfl;have g:=u rfl;simp only [bs,Bool.not_true,Bool.false_eq_true,if_false];rw [W6 e p d,bs,d2 (by simp [l])];obtain ⟨w,x⟩:=VY e (dO e) p.Graph h.Graph;unfold L5;rw [i,j,x,XA,VW 14 18 d g];simp only [bs,if_true];cases w
 ·simp only [Bool.false_eq_true,if_false,bs,Bool.false_and];exact ⟨_,rfl,fun h=>by cases h⟩
 simp only [if_true,bs];split
 ·rename_i a;rw [bs,bs];refine ⟨_,rfl,fun n=>?_⟩;rw [zzZ,zzZ,zzX,zzX] at a;exact ⟨d,f.2,g,n,a.1.1,by omega,by omega⟩
 ·exact ⟨_,rfl,fun h=>by cases h⟩
end Go.Sf.Sc
namespace Go.Sf.Sc
open Go Go.Sf
structure uU (t:AC) (p:Pattern) (c:AA) (h:AU) (l:List AF) (inj:Bool):Prop where
 few:BX t
 hv:(BF t).2=0
 pat:kY p
 cond:Ih t p c=0
 ph:M8 t p h=0
 each:∀ m∈l,On t p h inj m
 len:l.length<=30
 light:TX p c h
theorem U1 {t:AC} {p:Pattern} {c:AA} (h:Ih t p c=0):J7 t p=0∧LO c=0∧HD (SizeOf.sizeOf c) t p c=0:=by
 unfold Ih at h;split at h
 ·rename_i k; exact absurd h k
 rename_i a;split at h
 ·rename_i k; exact absurd h k
 rename_i b;exact ⟨Classical.not_not.1 a,Classical.not_not.1 b,h⟩
theorem cg {t:AC} {p:Pattern} {c:AA} {h:AU} (a:TX p c h) (b:Ih t p c=0):CG t p c:=
 eF _ (d3 _) (fun M d=>by rw [d]; exact (U1 b).2.2) a.bound a.narrow a.few
end Go.Sf.Sc
namespace Go.Sf.Sc
open Go Go.Sf
end Go.Sf.Sc
namespace Go.Sf.Sc
open Go Go.Sf
def zV (kd:Int) (a b:AA):AA:=⟨kd,[a,b],⟨[],[]⟩,⟨⟨[],[]⟩,[],0,[]⟩⟩
end Go.Sf.Sc
namespace Go.Sf.Sc
open Go Go.Sf
theorem gE {n:Nat} {by' images:Ne} (k:∀ x∈by',0<=x∧x<n) (o:by'.length<=images.length) (l:Ne):forA (fun (c:Int) (e:Morphism)=>
  (AM by' c).bind fun d=>
  (AM images c).bind fun f=>
  (AM e.Nodes d).bind fun _=>
  some (Morphism.mk (BZ e.Nodes d f) e.Edges)) 0 (by'.length:Int) ⟨List.replicate n (-1),l⟩=some ⟨I4 n by' images,l⟩:=by
 rw [DO (a:=0) (b:=by'.length) (s:=⟨List.replicate n (-1),l⟩) (fun i=>(⟨(BW i.toNat).foldl (fun l i=>BZ l (AB by' i) (AB images i)) (List.replicate n (-1)),l⟩:Morphism)) (by omega) rfl,Int.toNat_natCast]
 ·rfl
 intro i c g;have j:=k _ (AQ c g);rw [AI c g,bs,AI c (by omega),bs,AI j.1 (by rw [N3]; simpa using j.2),bs,Jg c,List.foldl_append]; rfl
theorem gD {n:Nat} {by' images:Ne} (k:∀ x∈by',0<=x∧x<n) (o:by'.length<=images.length) (l:Ne):forA (fun (c:Int) (e:Morphism)=>
  (AM by' c).bind fun d=>
  (AM images c).bind fun f=>
  (AM e.Edges d).bind fun _=>
  some (Morphism.mk e.Nodes (BZ e.Edges d f))) 0 (by'.length:Int) ⟨l,List.replicate n (-1)⟩=some ⟨l,I4 n by' images⟩:=by
 rw [DO (a:=0) (b:=by'.length) (s:=⟨l,List.replicate n (-1)⟩) (fun i=>(⟨l,(BW i.toNat).foldl (fun l i=>BZ l (AB by' i) (AB images i)) (List.replicate n (-1))⟩:Morphism)) (by omega) rfl,Int.toNat_natCast]
 ·rfl
 intro i c g;have j:=k _ (AQ c g);rw [AI c g,bs,AI c (by omega),bs,AI j.1 (by rw [N3]; simpa using j.2),bs,Jg c,List.foldl_append]; rfl
end Go.Sf.Sc
namespace Go.Sf.Sc
open Go Go.Sf
theorem WC {α:Type} [Inhabited α] {l:List α} {i:Int} (v:α) (a:0<=i) (b:i<l.length):AB (BZ l i v) i=v:=by
 unfold AB BZ;rw [List.getD_eq_getElem?_getD,List.getElem?_set_self (by omega)]; rfl
theorem dN {ρ:Type} {r:ρ} {n:Int} {h:AU} {m:Morphism} {s:EJ} (f:Iz n h m s) {st:Ne × d0} (hi:VI n st) :
  (if (decide (s.Term.Var<0))=true then
  if (!decide ((A4 (ID h m s - s.Term.Add))=0))=true then
  some (CY.ret r)
  else
  some (.next (st.1,st.2))
  else
  (AM st.2 s.Term.Var).bind fun g=>
  if (!g)=true then
  (AM st.1 s.Term.Var).bind fun _=>
  (AM st.2 s.Term.Var).bind fun _=>
  some (.next (BZ st.1 s.Term.Var (A4 (ID h m s - s.Term.Add)),BZ st.2 s.Term.Var true))
  else
  (AM st.1 s.Term.Var).bind fun j=>
  if (!decide (j=(A4 (ID h m s - s.Term.Add))))=true then
  some (.ret r)
  else
  some (.next (st.1,st.2)))=some (EY r h m s st):=by
 have o:=f.term.high;have l1:=hi.l1;have l2:=hi.l2;have hv:=f.has;have p:=f.term.add;have k:A4 (ID h m s - s.Term.Add)=ID h m s - s.Term.Add:=BG (by omega) (by omega);unfold EY;by_cases a:s.Term.Var<0
 ·have b:Ju h m s st=st:=by unfold Ju; rw [d2 (fun e=>by omega)]
  have c:D4 s.Term st.1=s.Term.Add:=by unfold D4; rw [d1 a]
  rw [d1 (by simpa using a),b,c,k];by_cases e:ID h m s - s.Term.Add=0
  ·rw [d2 (by simp [e]),d1 (by omega)]
  ·rw [d1 (by simp [e]),d2 (by omega)]
 ·rw [d2 (by simpa using a),AI (by omega) (by omega),bs];by_cases d:AB st.2 s.Term.Var=false
  ·have b:Ju h m s st=(BZ st.1 s.Term.Var (A4 (ID h m s - s.Term.Add)),BZ st.2 s.Term.Var true):=by unfold Ju; rw [d1 ⟨by omega,d⟩]
   have c:D4 s.Term (BZ st.1 s.Term.Var (A4 (ID h m s - s.Term.Add)))=ID h m s:=by
    unfold D4;rw [d2 a,WC _ (by omega) (by omega),k,BG (by omega) (by omega)]; omega
   rw [d1 (by simp [d]),AI (by omega) (by omega),bs,bs,b,d1 c]
  ·have q:=hi.small _ (AQ (l:=st.1) (i:=s.Term.Var) (by omega) (by omega));have b:Ju h m s st=st:=by unfold Ju; rw [d2 (fun e=>d e.2)]
   have c:D4 s.Term st.1=AB st.1 s.Term.Var+s.Term.Add:=by unfold D4; rw [d2 a,BG (by omega) (by omega)]
   rw [d2 (by simpa using d),AI (by omega) (by omega),bs,b,c,k];by_cases e:AB st.1 s.Term.Var=ID h m s - s.Term.Add
   ·rw [d2 (by simp [e]),d1 (by omega)]
   ·rw [d1 (by simp [e]),d2 (by omega)]
theorem ir {s:AG} {q:Pattern} {m:Morphism} {t:AC} {c:Ne} (v:P1 t q) (w:∀ x∈q.Slots,Iz q.Vars s.h m x) (A:c.length<=q.Vars) (hv:NU c):GB s q m c=some (KZ q s.h m c):=by
 have B:=v.vars;unfold GB KZ;have C:Jq q.Vars false=some (List.replicate q.Vars.toNat false):=by
  unfold Jq;rw [d1 (by omega)]
 have D:Jq q.Vars (0:Int)=some (List.replicate q.Vars.toNat 0):=by
  unfold Jq;rw [d1 (by omega)]
 rw [D,bs,C,bs];have E:forA (fun (d:Int) (g:Ne × d0)=>
   (AM c d).bind fun n=>
   (AM g.1 d).bind fun p=>
   (AM g.2 d).bind fun u=>
   some (BZ g.1 d n,BZ g.2 d true)) 0 (c.length:Int) (List.replicate q.Vars.toNat 0,List.replicate q.Vars.toNat false)=some (c++List.replicate (q.Vars - c.length).toNat 0,G5 q.Vars.toNat c.length):=by
  have F:=DO (f:=fun (d:Int) (g:Ne × d0)=>
   (AM c d).bind fun n=>
   (AM g.1 d).bind fun p=>
   (AM g.2 d).bind fun u=>
   some (BZ g.1 d n,BZ g.2 d true)) (a:=0) (b:=c.length) (s:=(List.replicate q.Vars.toNat 0,List.replicate q.Vars.toNat false)) (fun i=>(c.take i.toNat++List.replicate (q.Vars - i).toNat 0,G5 q.Vars.toNat i)) (by omega) ?_ (fun i d k=>?_)
  ·rw [F,Int.toNat_natCast,List.take_length]
  ·simp only [Int.toNat_zero,List.take_zero,List.nil_append,Int.sub_zero,Prod.mk.injEq,true_and];exact Qe _
  ·have y:(c.take i.toNat).length=i.toNat:=by rw [d5]; omega
   rw [AI d k,bs,AI d (by simp only [d4,y,List.length_replicate]; omega),bs,AI d (by rw [Rj]; omega),bs];congr 2
   ·unfold BZ;rw [List.set_append_right _ _ (by omega),y,Nat.sub_self,show (q.Vars - i).toNat=(q.Vars - (i+1)).toNat+1 by omega,List.replicate_succ,List.set_cons_zero,GJ d k,ea];rfl
   ·unfold G5;rw [Rw _ d];refine NN (fun j H I=>?_);by_cases e:j=i
    ·rw [d1 e,e]; simp; omega
    ·rw [d2 e,decide_eq_decide]; omega
 rw [E,bs];have o:=Q5 B.1 A hv;dsimp only;rw [N4 (EY (([],false):Ne × Bool) s.h m) (VI q.Vars) o]
 ·cases G:EX (EY (([],false):Ne × Bool) s.h m) q.Slots (c++List.replicate (q.Vars - c.length).toNat 0,G5 q.Vars.toNat c.length) with
  | inr r=>rfl
  | inl st=>
   have hi:=MT w o G;rw [DT,CR (fun i=>!IS (AB q.Tests i) st.1) ([],false)]
   ·dsimp only;cases anyR (fun i=>!IS (AB q.Tests i) st.1) 0 q.Tests.length <;> rfl
   ·intro i d k _;have z:=v.test _ (AQ d k);rw [AI d k,bs,p_holds z.2.1 z.2.2 hi.small (by have:=hi.l1; omega),bs];cases IS (AB q.Tests i) st.1 <;> rfl
 ·intro i st d k hi;have l:=w _ (AQ d k);refine ⟨?_,fun s' e=>Mi l hi e⟩;rw [AI d k,bs,AI l.node.1 l.node.2,bs,AI l.val.1 l.val.2,bs,AI l.attr.1 l.attr.2,bs];exact dN l hi
end Go.Sf.Sc
namespace Go.Sf.Sc
open Go Go.Sf
theorem aF {l:List AF} {f:AF->ca} {p:AF->Bool} (h:∀ x∈l,f x=some (p x)):DQ l f=some (l.any p):=GD h
theorem bH {n:Nat} (a:n<=1000):EL [-1] (n:Int)=some (List.replicate n (-1)):=by
 unfold EL;rw [d1 ⟨rfl,by omega,by omega⟩];show some (List.replicate (n:Int).toNat (-1))=_;rw [Int.toNat_natCast]
theorem aK {s:AG} {p:Pattern} {c:AA} {m:AF} (o:BX s.t) (hv:(BF s.t).2=0) (r:GY s.t s.h) (a:NP s.t p s.h m) (hi:V4 s.t p c) (e:(B5 s.t c s.h m s.injective).2=0):CJ s c m=some (B5 s.t c s.h m s.injective).1:=by
 have C:=hi.q.g.nodes;have ge:=hi.q.g.edges;have m1:=hi.map.nlen;have D:=hi.map.elen;have E:=a.m.nlen;have G:=a.m.elen;unfold CJ;rw [bH (by omega),bs,bH (by omega),bs,
  gE (fun y d=>by obtain ⟨j,f,k,rfl⟩:=EH d; exact (hi.map.node j f k).1) (by omega),bs,
  gD (fun y d=>by obtain ⟨j,f,k,rfl⟩:=EH d; exact (hi.map.edge j f k).1) (by omega),bs,Wu o,bs]
 unfold B5 at e ⊢;dsimp only at e ⊢;split at e
 ·rename_i b; exact absurd e b
 rename_i b;obtain ⟨z,A⟩:=Tp (Classical.not_not.1 b);rw [d2 b,Pu (F:=fun y=>KZ c.Pattern s.h y m.Vars) z]
 ·rfl
 ·intro i st l n B;have v:=A _ (AQ l n);have w:(m.Vars.length:Int)<=c.Pattern.Vars:=by have:=a.len; have:=hi.vars; omega
  rw [AI l n,bs,ir hi.q (fun x u=>Nj (G8 hv) hi.q r v u) w a.small,bs,←J5];split
  ·rw [CF (by simp; unfold BN; omega)]; rfl
  ·rfl
theorem Oz {s:AG} (g:BX s.t) (hv:(BF s.t).2=0) (d:GY s.t s.h) (j:s.h.Graph.Nodes.length<=14) (o:s.h.Graph.Edges.length<=18):∀ (N:Nat) (c:AA) (p:Pattern) (m:AF),SizeOf.sizeOf c<=N->CV s.t p c->CG s.t p c->NP s.t p s.h m->∀ n,2*N<=n->BO n s c m=some (HE s.t s.h s.injective c m)
 | 0,c,_,_,h,_,_,_,_,_=>by have:=D5 c; omega
 | N+1,c,p,m,h,e,r,f,n,C=>by
  obtain ⟨n,rfl⟩:∃ k,n=k+2:=⟨n - 2,by omega⟩;have kid:∀ k∈c.Kids,SizeOf.sizeOf k<=N:=fun k a=>by have:=EP a; omega
  rw [BO,RP];by_cases q:c.Kind=2
  ·have w:=e.one (.inl q);have a:=AQ (l:=c.Kids) (i:=0) (by omega) (by omega);rw [d1 (by simpa using q),d1 q,Nb w,AI (by omega) (by omega),bs,BH,Oz g hv d j o N _ p m (kid _ a) (e.kid (by omega) _ a) (r.kid (by omega) _ a) f n (by omega)];rfl
  rw [d2 (by simpa using q),d2 q];by_cases u:c.Kind=3
  ·rw [d1 (by simpa using u),d1 u,Ox (p:=fun k=>!HE s.t s.h s.injective k m) (fun k a=>by
    rw [D8,BH,Oz g hv d j o N _ p m (kid _ a) (e.kid (by omega) _ a) (r.kid (by omega) _ a) f n (by omega)]; rfl),bs,List.all_eq_not_any_not]
  rw [d2 (by simpa using u),d2 u];by_cases v:c.Kind=4
  ·rw [d1 (by simpa using v),d1 v,Ox (p:=fun k=>HE s.t s.h s.injective k m) (fun k a=>by
    rw [BH,Oz g hv d j o N _ p m (kid _ a) (e.kid (by omega) _ a) (r.kid (by omega) _ a) f n (by omega)]; rfl),bs]
  rw [d2 (by simpa using v),d2 v];by_cases b:c.Kind=5
  ·have hi:=e.ins b;have w:=e.one (.inr b);have y:=PS (inj:=s.injective) hv d f hi (r.ex b).2 j o;obtain ⟨B,A⟩:=Od hv d f hi y;have a:=AQ (l:=c.Kids) (i:=0) (by omega) (by omega);rw [d1 (by simpa using b),d1 b,Nb w,aK g hv d f hi y,bs,aF (p:=fun x=>HE s.t s.h s.injective (AB c.Kids 0) x) (fun x z=>by
    rw [B9,AI (by omega) (by omega),bs,Oz g hv d j o N _ c.Pattern x (kid _ a) (e.kid5 b _ a) (r.kid5 b _ a) (A _ z) n (by omega)]; rfl),bs]
  rw [d2 (by simpa using b),d2 b]
theorem e_holds {s:AG} (a:BX s.t) (hv:(BF s.t).2=0) (b:GY s.t s.h) (d:s.h.Graph.Nodes.length<=14) (e:s.h.Graph.Edges.length<=18) {c:AA} {p:Pattern} {m:AF} (f:CV s.t p c) (g:CG s.t p c) (i:NP s.t p s.h m):_explain_scene__holds s c m=some (HE s.t s.h s.injective c m):=
 FJ (2*SizeOf.sizeOf c) fun n j=>Oz a hv b d e _ c p m (d3 _) f g i n j
end Go.Sf.Sc
