/- Plain lemmas: what the functions of the program and of the reference compute. -/
import Derived.Test.YtlbmpkmkmkgniaaGreatDoorP28
import Derived.Test.YtlbmpkmkmkgniaaGreatDoorP46
import Derived.Test.YtlbmpkmkmkgniaaGreatDoorP25
set_option linter.all false
set_option maxRecDepth 100000
namespace Go.Sf.Sc
open Go Go.Sf
inductive CV (t:AC):Pattern->AA->Prop where
 | mk (p:Pattern) (c:AA) (few:c.Kids.length<=40) (rng:1<=c.Kind∧c.Kind<=5) (one:c.Kind=2∨c.Kind=5->c.Kids.length=1) (ins:c.Kind=5->Xe t p c) (kids:∀ k∈c.Kids,CV t (if c.Kind=5 then c.Pattern else p) k):CV t p c
theorem CV.few {t:AC} {p:Pattern} {c:AA} (h:CV t p c):c.Kids.length<=40:=by cases h; assumption
theorem CV.rng {t:AC} {p:Pattern} {c:AA} (h:CV t p c):1<=c.Kind∧c.Kind<=5:=by cases h; assumption
theorem CV.one {t:AC} {p:Pattern} {c:AA} (h:CV t p c):c.Kind=2∨c.Kind=5->c.Kids.length=1:=by cases h; assumption
theorem CV.ins {t:AC} {p:Pattern} {c:AA} (h:CV t p c):c.Kind=5->Xe t p c:=by cases h; assumption
theorem CV.kids {t:AC} {p:Pattern} {c:AA} (h:CV t p c):∀ k∈c.Kids,CV t (if c.Kind=5 then c.Pattern else p) k:=by cases h; assumption
theorem CV.kid {t:AC} {p:Pattern} {c:AA} (h:CV t p c) (a:¬ c.Kind=5):∀ k∈c.Kids,CV t p k:=fun k b=>by have:=h.kids k b; rwa [d2 a] at this
theorem CV.kid5 {t:AC} {p:Pattern} {c:AA} (h:CV t p c) (a:c.Kind=5):∀ k∈c.Kids,CV t c.Pattern k:=fun k b=>by have:=h.kids k b; rwa [d1 a] at this
theorem Qy:∀ l:List AA,l.length<=KE l
 | []=>by simp
 | c::l=>by
  have:=Qy l;have a:KE (c::l)=cnt c+KE l:=by simp [KE]
  have b:=OZ c;simp only [d6];omega
theorem pV {t:AC} {q:Pattern} {v:Int} (hv:(BF t).2=0) (h:MO t q v=0):Qa t q:=by
 unfold MO at h;split at h
 ·exact Y3 hv (.inl h)
 ·rename_i a; exact Y3 hv (.inr (Classical.not_not.1 a))
theorem dm {t:AC} (hv:(BF t).2=0):∀ (N:Nat) (c:AA) (p:Pattern),SizeOf.sizeOf c<=N->cnt c<=40->Pr N c=true->G2 N t p c=0->CV t p c
 | 0,c,_,h,_,_,_=>by have:=EO c; omega
 | N+1,c,p,h,E,s,ho=>by
  have w:=OZ c;have x:=Qy c.Kids;rw [Pr,zzZ] at s;obtain ⟨a,l⟩:=s;have d:c.Kind=2∨c.Kind=5->c.Kids.length=1:=by
   intro b;unfold P8 at a;rcases b with b | b
   ·rw [d2 (by omega),d1 b,zzZ,zzX] at a; exact a.1
   ·rw [d2 (by omega),d2 (by omega),d2 (by omega),d1 b,zzX] at a; exact a
  have f:1<=c.Kind∧c.Kind<=5:=by
   unfold P8 at a;split at a
   ·omega
   split at a
   ·omega
   split at a
   ·omega
   split at a
   ·omega
   ·cases a
  have g:∀ q,(fst (fun i=>nz (G2 N t q (AB c.Kids i))) 0 c.Kids.length).getD 0=0->∀ k∈c.Kids,CV t q k:=by
   intro q u k b;have y:=TO u;have C:=SX b;have D:=FJ b;rw [List.all_eq_true] at l;obtain ⟨i,z,A,e⟩:=EH b;have r:=y i z A;rw [e] at r;exact dm hv N k q (by omega) (by omega) (l k b) r
  rw [G2] at ho;by_cases j:c.Kind=5
  ·rw [d1 j] at ho;split at ho
   ·cases ho
   rename_i B;split at ho
   ·rename_i n; exact absurd ho n
   rename_i n;split at ho
   ·rename_i o; exact absurd ho o
   rename_i o;split at ho
   ·cases ho
   rename_i v;refine CV.mk p c (by omega) f d (fun _=>⟨pV hv (Classical.not_not.1 n),by omega,du (Classical.not_not.1 o),by simpa using v⟩) ?_;rw [d1 j];exact g _ ho
  ·rw [d2 j] at ho;refine CV.mk p c (by omega) f d (fun e=>absurd e j) ?_;rw [d2 j];exact g _ ho
section
variable {α σ ρ:Type}
theorem Qd [Inhabited α] {l:List α} {f:Int->σ->Option (C2 σ ρ)} (step:α->σ->C2 σ ρ) (I:Int->σ->Prop) (h:∀ (i:Int) s,0<=i->i<l.length->I i s->f i s=some (step (AB l i) s)∧∀ s',step (AB l i) s=.next s'->I (i+1) s') :
  ∀ (n:Nat) (a:Int) (s:σ),0<=a->a+n=l.length->I a s->forGo f n a s=some (ET step (l.drop a.toNat) s)
 | 0,a,s,b,j,_=>by
  rw [List.drop_eq_nil_of_le (by omega)]; rfl
 | n+1,a,s,b,j,k=>by
  obtain ⟨e,g⟩:=h a s b (by omega) k;have c:l.drop a.toNat=AB l a::l.drop (a+1).toNat:=by
   rw [show (a+1).toNat=a.toNat+1 by omega,List.drop_eq_getElem_cons (by omega)];congr 1;unfold AB;rw [List.getD_eq_getElem?_getD,List.getElem?_eq_getElem (by omega)]; rfl
  rw [Hr,e,c,ET];cases d:step (AB l a) s with
  | next s'=>
   simp only;exact Qd step I h n (a+1) s' (by omega) (by omega) (g s' d)
  | brk s'=>rfl
  | ret r=>rfl
theorem TL [Inhabited α] {l:List α} {f:Int->σ->Option (C2 σ ρ)} (step:α->σ->C2 σ ρ) (I:Int->σ->Prop) {s:σ} (a:I 0 s) (h:∀ (i:Int) s,0<=i->i<l.length->I i s->f i s=some (step (AB l i) s)∧∀ s',step (AB l i) s=.next s'->I (i+1) s') :
  forR f 0 l.length s=some (ET step l s):=by
 have:=Qd step I h l.length 0 s (by omega) (by omega) a;unfold forR;rw [show ((l.length:Int) - 0).toNat=l.length by omega];exact this
theorem Tw {c s2:α->σ->C2 σ ρ}:∀ {l:List α} {s:σ},(∀ a∈l,c a=s2 a)->ET c l s=ET s2 l s
 | [],_,_=>rfl
 | a::l,s,h=>by
  rw [ET,ET,h a (by simp)];split
  ·exact Tw fun b d=>h b (by simp [d])
  ·rfl
  ·rfl
end
abbrev zM:AE:=⟨⟨[],[]⟩,[]⟩
abbrev zP:A0:=⟨0,zM,[]⟩
def Lj (w:AA->A0 × Int) (k:AA) (s:A0 × A0):C2 (A0 × A0) (A0 × Int):=
 if (w k).2≠0 then .ret (zP,(w k).2) else .next (s.1,⟨s.2.Choice,s.2.Match,s.2.Kids++[(w k).1]⟩)
def Qo (w:AA->A0 × Int) (l:List AA):A0 × Int:=
 match ET (Lj w) l (zP,zP) with
 | .inl s=>(s.2,0)
 | .inr r=>r
def DQ (t:AC) (h:AQ) (inj:Bool):Nat->AA->AE->A0 × Int
 | 0,_,_=>(zP,0)
 | N+1,c,m=>
  if c.Kind=2 then (if (DQ t h inj N (AB c.Kids 0) m).2=0 then (zP,10) else if (DQ t h inj N (AB c.Kids 0) m).2=10 then (zP,0) else (zP,(DQ t h inj N (AB c.Kids 0) m).2)) else
  if c.Kind=3 then Qo (fun k=>DQ t h inj N k m) c.Kids else
  if c.Kind=4 then (fst (fun i=>if (DQ t h inj N (AB c.Kids i) m).2=0 then some (⟨i,zM,[(DQ t h inj N (AB c.Kids i) m).1]⟩,0) else if (DQ t h inj N (AB c.Kids i) m).2≠10 then some (zP,(DQ t h inj N (AB c.Kids i) m).2) else none) 0 c.Kids.length).getD (zP,10) else
  if c.Kind=5 then
   (if (D7 t c h m inj).2≠0 then (zP,(D7 t c h m inj).2) else
   (fst (fun i=>if (DQ t h inj N (AB c.Kids 0) (AB (D7 t c h m inj).1 i)).2=0 then some (⟨0,AB (D7 t c h m inj).1 i,[(DQ t h inj N (AB c.Kids 0) (AB (D7 t c h m inj).1 i)).1]⟩,0) else
    if (DQ t h inj N (AB c.Kids 0) (AB (D7 t c h m inj).1 i)).2≠10 then some (zP,(DQ t h inj N (AB c.Kids 0) (AB (D7 t c h m inj).1 i)).2) else none) 0 (D7 t c h m inj).1.length).getD (zP,10)) else
  (zP,0)
def DZ (t:AC) (h:AQ) (inj:Bool):Nat->AA->AE->A0 × Int
 | 0,_,_=>(zP,0)
 | N+1,c,m=>
  if c.Kind=2 then (if (DZ t h inj N (AB c.Kids 0) m).2=0 then (zP,10) else if (DZ t h inj N (AB c.Kids 0) m).2=10 then (zP,0) else (zP,(DZ t h inj N (AB c.Kids 0) m).2)) else
  if c.Kind=3 then Qo (fun k=>DZ t h inj N k m) c.Kids else
  if c.Kind=4 then (fst (fun i=>if (DZ t h inj N (AB c.Kids i) m).2≠10 then some (⟨i,zM,[(DZ t h inj N (AB c.Kids i) m).1]⟩,(DZ t h inj N (AB c.Kids i) m).2) else none) 0 c.Kids.length).getD (zP,10) else
  if c.Kind=5 then
   (if (D7 t c h m inj).2≠0 then (zP,(D7 t c h m inj).2) else
   (fst (fun i=>if (DZ t h inj N (AB c.Kids 0) (AB (D7 t c h m inj).1 i)).2≠10 then some (⟨0,AB (D7 t c h m inj).1 i,[(DZ t h inj N (AB c.Kids 0) (AB (D7 t c h m inj).1 i)).1]⟩,(DZ t h inj N (AB c.Kids 0) (AB (D7 t c h m inj).1 i)).2) else none) 0 (D7 t c h m inj).1.length).getD (zP,10)) else
  (zP,0)
def MR (x:A0 × Int):A0 × Int:=if x.2=0 then x else (zP,x.2)
theorem WQ (x:A0 × Int):(MR x).2=x.2:=by unfold MR; split <;> rfl
theorem aD {x:A0 × Int} (h:x.2=0):(MR x).1=x.1:=by unfold MR; rw [d1 h]
theorem bd (w:AA->A0 × Int) (l:List AA):MR (Qo w l)=Qo w l:=by
 unfold Qo;have:∀ (l:List AA) (s:A0 × A0) (r:A0 × Int),ET (Lj w) l s=.inr r->MR r=r:=by
  intro l
  induction l with
  | nil=>intro s r h; cases h
  | cons a l e=>
   intro s r h;rw [ET] at h;split at h
   ·exact e _ _ h
   ·cases h
   ·rename_i f b;cases h;unfold Lj at b;split at b
    ·rename_i c;cases b;unfold MR;rw [d2 c]
    ·cases b
 cases d:ET (Lj w) l (zP,zP) with
 | inl s=>rfl
 | inr r=>exact this _ _ _ d
theorem Uk (o:Option (A0 × Int)):MR (o.getD (zP,10))=(o.map MR).getD (zP,10):=by cases o <;> rfl
theorem UM (t:AC) (h:AQ) (inj:Bool):∀ (N:Nat) (c:AA) (m:AE),DQ t h inj N c m=MR (DZ t h inj N c m)
 | 0,_,_=>rfl
 | N+1,c,m=>by
  have l:=UM t h inj N;have key:∀ (c:AA) (m:AE),(DQ t h inj N c m).2=(DZ t h inj N c m).2:=fun c m=>by rw [l,WQ]
  have pick:∀ (k:AA) (m x:AE) (i:Int),(if (DQ t h inj N k m).2=0 then some ((⟨i,x,[(DQ t h inj N k m).1]⟩:A0),(0:Int)) else if (DQ t h inj N k m).2≠10 then some (zP,(DQ t h inj N k m).2) else none)=(if (DZ t h inj N k m).2≠10 then some ((⟨i,x,[(DZ t h inj N k m).1]⟩:A0),(DZ t h inj N k m).2) else none).map MR:=by
   intro k m x i;rw [key];by_cases a:(DZ t h inj N k m).2=0
   ·rw [d1 a,d1 (by omega),l,aD a];simp [MR,a]
   ·rw [d2 a];by_cases b:(DZ t h inj N k m).2≠10
    ·rw [d1 b,d1 b];simp [MR,a]
    ·rw [d2 b,d2 b]; rfl
  rw [DQ,DZ];by_cases e:c.Kind=2
  ·rw [d1 e,d1 e,key];by_cases a:(DZ t h inj N (AB c.Kids 0) m).2=0
   ·rw [d1 a]; rfl
   ·rw [d2 a];by_cases b:(DZ t h inj N (AB c.Kids 0) m).2=10
    ·rw [d1 b]; rfl
    ·rw [d2 b]; unfold MR; rw [d2 a]
  rw [d2 e,d2 e];by_cases f:c.Kind=3
  ·rw [d1 f,d1 f,bd];unfold Qo;rw [Tw (s2:=Lj fun k=>DZ t h inj N k m)];intro k _;funext s;unfold Lj;simp only [key];by_cases a:(DZ t h inj N k m).2=0
   ·rw [d2 (by simp [a]),d2 (by simp [a]),l,aD a]
   ·rw [d1 a,d1 a]
  rw [d2 f,d2 f];by_cases g:c.Kind=4
  ·rw [d1 g,d1 g,Uk,←MX];congr 1;exact congrArg (fun F=>fst F 0 (c.Kids.length:Int)) (funext fun i=>pick _ _ _ _)
  rw [d2 g,d2 g];by_cases j:c.Kind=5
  ·rw [d1 j,d1 j];by_cases d:(D7 t c h m inj).2≠0
   ·rw [d1 d,d1 d]; unfold MR; rw [d2 d]
   ·rw [d2 d,d2 d,Uk,←MX];congr 1;exact congrArg (fun F=>fst F 0 ((D7 t c h m inj).1.length:Int)) (funext fun i=>pick _ _ _ _)
  rw [d2 j,d2 j]; rfl
end Go.Sf.Sc
namespace Go.Sf.Sc
open Go Go.Sf
def O9 (i:Int) (s:A0 × A0):Prop:=(s.2.Kids.length:Int)=i
theorem Tj {s:A7} (q:BX s.t) (hv:(BF s.t).2=0) (o:IN s.t s.h):∀ (N:Nat) (c:AA) (p:Pattern) (m:AE),SizeOf.sizeOf c<=N->CV s.t p c->Ou s.t p s.h m->∀ n,2*N<=n->A4 n s c m=some (DQ s.t s.h s.injective N c m)
 | 0,c,_,_,h,_,_,_,_=>by have:=EO c; omega
 | N+1,c,p,m,h,g,v,n,C=>by
  obtain ⟨n,rfl⟩:∃ k,n=k+2:=⟨n - 2,by omega⟩;have kid:∀ (i:Int),0<=i->i<c.Kids.length->SizeOf.sizeOf (AB c.Kids i)<=N:=fun i d f=>by
   have:=FJ (AS (l:=c.Kids) d f); omega
  rw [A4,DQ];by_cases r:c.Kind=2
  ·have B:=g.one (.inl r);rw [d1 (by simpa using r),d1 r,AK (by omega) (by omega),bs,Tj q hv o N _ p m (kid 0 (by omega) (by omega)) (g.kid (by omega) _ (AS (by omega) (by omega))) v (n+1) (by omega),bs];generalize DQ s.t s.h s.injective N (AB c.Kids 0) m=x;by_cases a:x.2=0
   ·rw [d1 (by simpa using a),d1 a]; try rfl
   ·rw [d2 (by simpa using a),d2 a];by_cases b:x.2=10
    ·rw [d1 (by simpa using b),d1 b]; try rfl
    ·rw [d2 (by simpa using b),d2 b]; try rfl
  rw [d2 (by simpa using r),d2 r];by_cases w:c.Kind=3
  ·rw [d1 (by simpa using w),d1 w];have z:=g.few;rw [TL (Lj fun k=>DQ s.t s.h s.injective N k m) O9 (show O9 0 (zP,zP) from rfl)]
   ·unfold Qo;show thenR (some (ET (Lj fun k=>DQ s.t s.h s.injective N k m) c.Kids (zP,zP))) _ _=_;cases ET (Lj fun k=>DQ s.t s.h s.injective N k m) c.Kids (zP,zP) <;> rfl
   ·intro i st d f hi;unfold O9 at hi;rw [AK d f,bs,Tj q hv o N _ p m (kid i d f) (g.kid (by omega) _ (AS d f)) v (n+1) (by omega),bs];dsimp only [Lj];by_cases a:(DQ s.t s.h s.injective N (AB c.Kids i) m).2=0
    ·rw [d2 (by simp [a]),d2 (by simp [a]),CC (by simp; unfold BS; omega),bs];refine ⟨rfl,fun s' e=>?_⟩;cases e;unfold O9;simp; omega
    ·rw [d1 (by simp [a]),d1 a];exact ⟨rfl,fun s' e=>by cases e⟩
  rw [d2 (by simpa using w),d2 w];by_cases y:c.Kind=4
  ·rw [d1 (by simpa using y),d1 y];rw [OK (fun _=>zP) (fun i=>if (DQ s.t s.h s.injective N (AB c.Kids i) m).2=0 then some (⟨i,zM,[(DQ s.t s.h s.injective N (AB c.Kids i) m).1]⟩,0) else if (DQ s.t s.h s.injective N (AB c.Kids i) m).2≠10 then some (zP,(DQ s.t s.h s.injective N (AB c.Kids i) m).2) else none) (by omega) rfl]
   ·cases fst (fun i=>if (DQ s.t s.h s.injective N (AB c.Kids i) m).2=0 then some ((⟨i,zM,[(DQ s.t s.h s.injective N (AB c.Kids i) m).1]⟩:A0),(0:Int)) else if (DQ s.t s.h s.injective N (AB c.Kids i) m).2≠10 then some (zP,(DQ s.t s.h s.injective N (AB c.Kids i) m).2) else none) 0 c.Kids.length <;> rfl
   ·intro i d f _;rw [AK d f,bs,Tj q hv o N _ p m (kid i d f) (g.kid (by omega) _ (AS d f)) v (n+1) (by omega),bs];generalize DQ s.t s.h s.injective N (AB c.Kids i) m=x;by_cases a:x.2=0
    ·rw [d1 (by simpa using a),d1 a]; try rfl
    ·rw [d2 (by simpa using a),d2 a];by_cases b:x.2=10
     ·rw [d2 (by simp [b]),d2 (by simp [b])]; try rfl
     ·rw [d1 (by simp [b]),d1 b]; try rfl
  rw [d2 (by simpa using y),d2 y];by_cases j:c.Kind=5
  ·rw [d1 (by simpa using j),d1 j];have hi:=g.ins j;have B:=g.one (.inr j);rw [BZ,jA q hv o v hi,bs];by_cases u:(D7 s.t c s.h m s.injective).2=0
   ·obtain ⟨b,A⟩:=T9 hv o v hi u;rw [d2 (by simp [u]),d2 (by simp [u])];generalize (D7 s.t c s.h m s.injective).1=l at b A;rw [OK (fun _=>zP) (fun i=>if (DQ s.t s.h s.injective N (AB c.Kids 0) (AB l i)).2=0 then some (⟨0,AB l i,[(DQ s.t s.h s.injective N (AB c.Kids 0) (AB l i)).1]⟩,0) else if (DQ s.t s.h s.injective N (AB c.Kids 0) (AB l i)).2≠10 then some (zP,(DQ s.t s.h s.injective N (AB c.Kids 0) (AB l i)).2) else none) (by omega) rfl]
    ·cases fst (fun i=>if (DQ s.t s.h s.injective N (AB c.Kids 0) (AB l i)).2=0 then some ((⟨0,AB l i,[(DQ s.t s.h s.injective N (AB c.Kids 0) (AB l i)).1]⟩:A0),(0:Int)) else if (DQ s.t s.h s.injective N (AB c.Kids 0) (AB l i)).2≠10 then some (zP,(DQ s.t s.h s.injective N (AB c.Kids 0) (AB l i)).2) else none) 0 l.length <;> rfl
    ·intro i d f _;rw [AK d f,bs,AK (by omega) (by omega),bs,Tj q hv o N _ c.Pattern _ (kid 0 (by omega) (by omega)) (g.kid5 j _ (AS (by omega) (by omega))) (A _ (AS d f)) n (by omega),bs];generalize DQ s.t s.h s.injective N (AB c.Kids 0) (AB l i)=x;by_cases a:x.2=0
     ·rw [d1 (by simpa using a),d1 a]; try rfl
     ·rw [d2 (by simpa using a),d2 a];by_cases b:x.2=10
      ·rw [d2 (by simp [b]),d2 (by simp [b])]; try rfl
      ·rw [d1 (by simp [b]),d1 b]; try rfl
   ·rw [d1 (by simp [u]),d1 u]; try rfl
  rw [d2 (by simpa using j),d2 j]; try rfl
theorem Pj {t:AC} {a:AQ} {inj:Bool} (r:BX t) (hv:(BF t).2=0) (q:IN t a):∀ (N:Nat) (c:AA) (p:Pattern) (m:AE),SizeOf.sizeOf c<=N->CV t p c->Ou t p a m->∀ n,N<=n->FI n t c a m inj=some (DZ t a inj N c m)
 | 0,c,_,_,h,_,_,_,_=>by have:=EO c; omega
 | N+1,c,p,m,h,j,v,n,C=>by
  obtain ⟨n,rfl⟩:∃ k,n=k+1:=⟨n - 1,by omega⟩;have kid:∀ (i:Int),0<=i->i<c.Kids.length->SizeOf.sizeOf (AB c.Kids i)<=N:=fun i d f=>by
   have:=FJ (AS (l:=c.Kids) d f); omega
  rw [FI,DZ];by_cases s:c.Kind=2
  ·have B:=j.one (.inl s);rw [d1 (by simpa using s),d1 s,AK (by omega) (by omega),bs,Pj r hv q N _ p m (kid 0 (by omega) (by omega)) (j.kid (by omega) _ (AS (by omega) (by omega))) v n (by omega),bs];generalize DZ t a inj N (AB c.Kids 0) m=x;by_cases g:x.2=0
   ·rw [d1 (by simpa using g),d1 g]; try rfl
   ·rw [d2 (by simpa using g),d2 g];by_cases b:x.2=10
    ·rw [d1 (by simpa using b),d1 b]; try rfl
    ·rw [d2 (by simpa using b),d2 b]; try rfl
  rw [d2 (by simpa using s),d2 s];by_cases w:c.Kind=3
  ·rw [d1 (by simpa using w),d1 w];have z:=j.few;rw [TL (Lj fun k=>DZ t a inj N k m) O9 (show O9 0 (zP,zP) from rfl)]
   ·unfold Qo;show thenR (some (ET (Lj fun k=>DZ t a inj N k m) c.Kids (zP,zP))) _ _=_;cases ET (Lj fun k=>DZ t a inj N k m) c.Kids (zP,zP) <;> rfl
   ·intro i st d f hi;unfold O9 at hi;rw [AK d f,bs,Pj r hv q N _ p m (kid i d f) (j.kid (by omega) _ (AS d f)) v n (by omega),bs];dsimp only [Lj];by_cases g:(DZ t a inj N (AB c.Kids i) m).2=0
    ·rw [d2 (by simp [g]),d2 (by simp [g]),CC (by simp; unfold BS; omega),bs];refine ⟨rfl,fun s' e=>?_⟩;cases e;unfold O9;simp; omega
    ·rw [d1 (by simp [g]),d1 g];exact ⟨rfl,fun s' e=>by cases e⟩
  rw [d2 (by simpa using w),d2 w];by_cases y:c.Kind=4
  ·rw [d1 (by simpa using y),d1 y];rw [OK (fun _=>zP) (fun i=>if (DZ t a inj N (AB c.Kids i) m).2≠10 then some (⟨i,zM,[(DZ t a inj N (AB c.Kids i) m).1]⟩,(DZ t a inj N (AB c.Kids i) m).2) else none) (by omega) rfl]
   ·cases fst (fun i=>if (DZ t a inj N (AB c.Kids i) m).2≠10 then some ((⟨i,zM,[(DZ t a inj N (AB c.Kids i) m).1]⟩:A0),(DZ t a inj N (AB c.Kids i) m).2) else none) 0 c.Kids.length <;> rfl
   ·intro i d f _;rw [AK d f,bs,Pj r hv q N _ p m (kid i d f) (j.kid (by omega) _ (AS d f)) v n (by omega),bs];generalize DZ t a inj N (AB c.Kids i) m=x;by_cases b:x.2=10
    ·rw [d2 (by simp [b]),d2 (by simp [b])]; try rfl
    ·rw [d1 (by simp [b]),d1 b]; try rfl
  rw [d2 (by simpa using y),d2 y];by_cases o:c.Kind=5
  ·rw [d1 (by simpa using o),d1 o];have hi:=j.ins o;have B:=j.one (.inr o);rw [jN r hv q v hi,bs];by_cases u:(D7 t c a m inj).2=0
   ·obtain ⟨b,A⟩:=T9 hv q v hi u;rw [d2 (by simp [u]),d2 (by simp [u])];generalize (D7 t c a m inj).1=l at b A;rw [OK (fun _=>zP) (fun i=>if (DZ t a inj N (AB c.Kids 0) (AB l i)).2≠10 then some (⟨0,AB l i,[(DZ t a inj N (AB c.Kids 0) (AB l i)).1]⟩,(DZ t a inj N (AB c.Kids 0) (AB l i)).2) else none) (by omega) rfl]
    ·cases fst (fun i=>if (DZ t a inj N (AB c.Kids 0) (AB l i)).2≠10 then some ((⟨0,AB l i,[(DZ t a inj N (AB c.Kids 0) (AB l i)).1]⟩:A0),(DZ t a inj N (AB c.Kids 0) (AB l i)).2) else none) 0 l.length <;> rfl
    ·intro i d f _;rw [AK (by omega) (by omega),bs,AK d f,bs,Pj r hv q N _ c.Pattern _ (kid 0 (by omega) (by omega)) (j.kid5 o _ (AS (by omega) (by omega))) (A _ (AS d f)) n (by omega),bs];generalize DZ t a inj N (AB c.Kids 0) (AB l i)=x;by_cases b:x.2=10
     ·rw [d2 (by simp [b]),d2 (by simp [b])]; try rfl
     ·rw [d1 (by simp [b]),d1 b]; try rfl
   ·rw [d1 (by simp [u]),d1 u]; try rfl
  rw [d2 (by simpa using o),d2 o]; try rfl
end Go.Sf.Sc
namespace Go.Sf.Sc
open Go Go.Sf
theorem Pf {c:Int->dD} {a b:Int} {v w:Int} (d:w≠v) (h:∀ i,c i≠some v):(fst c a b).getD w≠v:=by
 cases f:fst c a b with
 | none=>exact d
 | some r=>
  obtain ⟨i,_,_,k,_⟩:=C8 f;simp only [Option.getD_some];exact fun e=>h i (by rw [k,e])
theorem Yt {e v:Int} (h:e≠v):nz e≠some v:=by
 unfold nz;split
 ·simp
 ·simpa using h
theorem Ka (g:Graph):CZ g≠10:=by
 unfold CZ;split
 ·decide
 ·split
  ·decide
  ·split <;> decide
theorem XR (l:List ByteArray):Ju l≠10:=by
 unfold Ju;split
 ·decide
 ·refine Pf (by decide) (fun i=>?_);split
  ·decide
  ·split <;> decide
theorem Yb (l:List Attr) (k:Int):MD l k≠10:=by
 have:=XR (AB l k).Names;unfold MD;dsimp only;split
 ·decide
 split
 ·decide
 split
 ·split <;> decide
 split
 ·exact this
 split <;> decide
theorem Ys (t:AC) (i:Int):I1 t i≠10:=by
 unfold I1;dsimp only;split
 ·decide
 split
 ·decide
 split
 ·decide
 split
 ·decide
 exact Pf (by decide) (fun i=>Yt (Yb _ _))
theorem Yh (t:AC) (i:Int):Jg t i≠10:=by
 unfold Jg;dsimp only;split
 ·decide
 split
 ·decide
 split <;> decide
theorem Te {α:Type} {e:Int} {x r:α} (h:(nz e).map (fun e=>(x,e))=some (r,(10:Int))):e=10:=by
 unfold nz at h;split at h
 ·cases h
 ·simp only [Option.map_some,zzY,Prod.mk.injEq] at h; exact h.2
theorem QY (t:AC):(BF t).2≠10:=by
 unfold BF;split
 ·decide
 split
 ·decide
 split
 ·rename_i r a;obtain ⟨i,_,_,k,_⟩:=C8 a;intro e;obtain ⟨b,c⟩:=r;simp only at e;subst e;exact Ys t i (Te k)
 ·cases a:fst (fun i=>(nz (Jg t i)).map fun e=>((AB t.Edges i).Name,e)) 0 t.Edges.length with
  | none=>decide
  | some r=>
   obtain ⟨i,_,_,k,_⟩:=C8 a;intro e;obtain ⟨b,c⟩:=r;simp only [Option.getD_some] at e;subst e;exact Yh t i (Te k)
theorem ZV (n:Int) (x:Test):MK n x≠10:=by
 unfold MK;split
 ·decide
 ·split <;> decide
theorem Xb (n:Int) (l:List Test):JR n l≠10:=by
 unfold JR;split
 ·decide
 split
 ·decide
 exact Pf (by decide) (fun i=>Yt (ZV _ _))
theorem RM (t:AC) (p:Pattern):Jv t p≠10:=by
 have a:=QY t;have b:=Ka p.Graph;have c:=Xb p.Vars p.Tests;unfold Jv;split
 ·exact a
 split
 ·exact b
 split
 ·decide
 split
 ·decide
 split
 ·decide
 split
 ·decide
 split
 ·exact c
 split <;> decide
theorem Z1 (t:AC) (q:Pattern) (v:Int):MO t q v≠10:=by
 have:=RM t q;unfold MO;split
 ·exact this
 ·split <;> decide
theorem XQ (a b:Graph) (m:Morphism) (i:Int):KV a b m i≠some 10:=by
 unfold KV;split
 ·decide
 ·split <;> decide
theorem SK (a b:Graph) (m:Morphism) (i:Int):E2 a b m i≠some 10:=by
 unfold E2;split
 ·decide
 ·split
  ·decide
  ·split <;> decide
theorem XG (t:AC) (a b:Graph) (m:Morphism) (i:Int):HT t a b m i≠some 10:=by
 unfold HT;split
 ·decide
 ·split <;> decide
theorem WK {c:Int->dD} {d:Int} {a b:Int} (h:∀ i,c i≠some 10) (f:d≠10):(match fst c a b with | some e=>e | none=>d)≠10:=by
 cases g:fst c a b with
 | none=>exact f
 | some r=>
  obtain ⟨i,_,_,k,_⟩:=C8 g;exact fun e=>h i (by rw [k]; exact congrArg some e)
theorem Z9 (a b:Graph) (m:Morphism):MP a b m≠10:=by
 have c:=Ka a;have d:=Ka b;unfold MP;split
 ·exact c
 split
 ·exact d
 split
 ·decide
 exact WK (XQ a b m) (Pf (by decide) (SK a b m))
theorem Ti (t:AC):∀ (N:Nat) (p:Pattern) (c:AA),G2 N t p c≠10
 | 0,_,_=>by rw [G2]; decide
 | N+1,p,c=>by
  have a:∀ q,(fst (fun i=>nz (G2 N t q (AB c.Kids i))) 0 c.Kids.length).getD 0≠10:=fun q=>Pf (by decide) (fun i=>Yt (Ti t N q _));have b:=Z1 t c.Pattern p.Vars;have d:=Z9 p.Graph c.Pattern.Graph c.Map;rw [G2];split
  ·split
   ·decide
   split
   ·exact b
   split
   ·exact d
   split
   ·decide
   exact a _
  ·exact a _
theorem Yf (t:AC) (p:Pattern) (c:AA):HZ t p c≠10:=by
 have a:=RM t p;have b:=Ti t (SizeOf.sizeOf c) p c;unfold HZ;split
 ·exact a
 split
 ·unfold LN;split
  ·decide
  ·split <;> decide
 ·exact b
theorem TR (t:AC) (h:AQ):(Iz t h).2≠10:=by
 have b:=QY t;have c:=Ka h.Graph;have d:∀ i,H1 t (AB h.Graph.Nodes i) (AB h.Values i)≠10:=by
  intro i;unfold H1;split
  ·decide
  split
  ·decide
  split
  ·decide
  split <;> decide
 have f:∀ i,H0 t h.Graph i≠10:=by
  intro i;unfold H0;split
  ·decide
  split <;> decide
 unfold Iz;split
 ·exact b
 split
 ·exact c
 split
 ·decide
 split
 ·rename_i r a;obtain ⟨i,_,_,k,_⟩:=C8 a;intro e;obtain ⟨g,j⟩:=r;simp only at e;subst e;exact d i (Te k)
 ·cases a:fst (fun i=>(nz (H0 t h.Graph i)).map fun e=>(i,e)) 0 h.Graph.Edges.length with
  | none=>decide
  | some r=>
   obtain ⟨i,_,_,k,_⟩:=C8 a;intro e;obtain ⟨g,j⟩:=r;simp only [Option.getD_some] at e;subst e;exact f i (Te k)
theorem XO (t:AC) (p g:Graph):GE t p g≠10:=by
 have a:=QY t;have b:=Ka p;have c:=Ka g;unfold GE;split
 ·exact a
 split
 ·exact b
 split
 ·exact c
 split <;> decide
theorem UT (t:AC) (p g:Graph) (m:Morphism) (inj:Bool):Jp t p g m inj≠10:=by
 have a:=XO t p g;have b:KM t p g m≠10:=by
  unfold KM;split
  ·decide
  exact WK (XG t p g m) (Pf (by decide) (SK p g m))
 unfold Jp;split
 ·exact a
 split
 ·exact b
 split <;> decide
theorem cj {ρ:Type} {v:ρ} {h:AQ} {m:Morphism}:∀ (l:List EG) (st:Ne × d0) (r:ρ),ET (FU v h m) l st=.inr r->r=v:=by
 intro l
 induction l with
 | nil=>intro st r h; cases h
 | cons a l c=>
  intro st r h;rw [ET] at h;split at h
  ·exact c _ _ h
  ·cases h
  ·rename_i d b;cases h;unfold FU at b;split at b
   ·cases b
   ·cases b; rfl
theorem ZL (t:AC) (p:Pattern) (h:AQ) (m:Morphism):(IX t p h m).2≠10:=by
 have b:=RM t p;have c:=TR t h;have d:=UT t p.Graph h.Graph m false;have e:LX t p h≠10:=by
  unfold LX;split
  ·exact b
  ·exact c
 unfold IX;split
 ·exact e
 split
 ·exact d
 unfold LO;split
 ·rename_i r a;rw [cj _ _ _ a]; decide
 ·split
  ·decide
  ·show (0:Int)≠10;decide
noncomputable def Lh (t:AC) (p:Pattern) (c:AA) (h:AQ) (m:AE) (inj:Bool):Int:=
 if HZ t p c≠0 then HZ t p c else if (Iz t h).2≠0 then (Iz t h).2 else if Jp t p.Graph h.Graph m.Morphism inj≠0 then Jp t p.Graph h.Graph m.Morphism inj else
 if (IX t p h m.Morphism).2≠0 then (IX t p h m.Morphism).2 else if (IX t p h m.Morphism).1=m.Vars then 0 else 11
theorem Vo (t:AC) (p:Pattern) (c:AA) (h:AQ) (m:AE) (inj:Bool):Lh t p c h m inj≠10:=by
 have a:=Yf t p c;have b:=TR t h;have d:=UT t p.Graph h.Graph m.Morphism inj;have e:=ZL t p h m.Morphism;unfold Lh;split
 ·exact a
 split
 ·exact b
 split
 ·exact d
 split
 ·exact e
 split <;> decide
theorem cP {t:AC} (a:BX t) (p:Pattern) {c:AA} (b:D6 c) (h:AQ) (m:AE) (inj:Bool):F5 t p c h m inj=some (Lh t p c h m inj):=by
 unfold F5 Lh;rw [ff a p b,bs];refine IR fun _=>?_;rw [aH a,bs];refine IR fun _=>?_;rw [X5 a,bs];refine IR fun _=>?_;rw [fc a,bs];refine IR fun _=>?_;rw [dy,bs];by_cases e:(IX t p h m.Morphism).1=m.Vars
 ·rw [d2 (by simp [e]),d1 e]
 ·rw [d1 (by simp [e]),d2 e]
theorem cV {t:AC} (b:BX t) (p:Pattern) {c:AA} (f:D6 c) (h:AQ) (m:AE) (inj:Bool):MA t p c h m inj=some (Lh t p c h m inj):=by
 unfold MA Lh;rw [Wd b p f,bs];refine IR fun _=>?_;rw [aS b,bs];refine IR fun _=>?_;unfold Nd;rw [YC b,bs];have e:∀ o:dD,(o.bind fun d=>some d)=o:=fun o=>by cases o <;> rfl
 rw [e];refine IR fun _=>?_;rw [fo b,bs,fm];by_cases a:(IX t p h m.Morphism).2=0
 ·rw [d1 (by simpa using a),d2 (by simp [a])];by_cases e:(IX t p h m.Morphism).1=m.Vars
  ·rw [d1 e]; simp [e,a]
  ·rw [d2 e]; simp [e]
 ·rw [d2 (by simpa using a),d1 a]; rfl
theorem TA {t:AC} (u:BX t) {p:Pattern} {c:AA} (v:cnt c<=40) {h:AQ} {m:AE} {inj:Bool} (e:Lh t p c h m inj=0):(BF t).2=0∧IN t h∧CV t p c∧Ou t p h m:=by
 unfold Lh at e;split at e
 ·rename_i a; exact absurd e a
 rename_i a;split at e
 ·rename_i g; exact absurd e g
 rename_i g;split at e
 ·rename_i i; exact absurd e i
 rename_i i;split at e
 ·rename_i b; exact absurd e b
 rename_i b;split at e
 case isFalse=>cases e
 rename_i k;have a:=Classical.not_not.1 a;have g:=Classical.not_not.1 g;have i:=Classical.not_not.1 i;have b:=Classical.not_not.1 b;obtain ⟨hv,r⟩:=Xu u g;have q:=(Vp i).2;unfold HZ at a;split at a
 ·rename_i l; exact absurd a l
 rename_i l;split at a
 ·rename_i d; exact absurd a d
 rename_i d;have o:=Y3 hv (.inl (Classical.not_not.1 l));have d:=Classical.not_not.1 d;have w:bQ c=true:=by
  unfold LN at d;split at d
  ·cases d
  ·rename_i j; simpa using j
 suffices f:(m.Vars.length:Int)=p.Vars∧Nv m.Vars from ⟨hv,r,dm hv _ c p (d3 _) v w a,o,q,f.1,f.2⟩
 have f:∀ s∈p.Slots,Jl p.Vars h m.Morphism s:=fun s f=>OP (HN hv) o r q f;unfold IX at b k;split at b
 ·rename_i j; exact absurd b j
 rename_i j;rw [d2 j] at k;split at b
 ·rename_i n; exact absurd b n
 rename_i n;rw [d2 n] at k;have:=aq o f b;rw [k] at this;exact this
end Go.Sf.Sc
namespace Go.Sf.Sc
open Go Go.Sf
def LV:Nat->AA->Bool
 | 0,_=>true
 | N+1,c=>if anyR (fun i=>!LV N (AB c.Kids i)) 0 c.Kids.length=true then false else decide (A3 ((c.Pattern.Graph.Nodes.length:Int)+c.Pattern.Graph.Edges.length)<=6)
theorem U3:∀ (N:Nat) (c:AA),SizeOf.sizeOf c<=N->∀ n,N<=n->HP n c=some (LV N c)
 | 0,c,h,_,_=>by have:=EO c; omega
 | N+1,c,h,n,d=>by
  obtain ⟨n,rfl⟩:∃ k,n=k+1:=⟨n - 1,by omega⟩;rw [HP,LV,CP (fun i=>!LV N (AB c.Kids i)) false]
  ·cases anyR (fun i=>!LV N (AB c.Kids i)) 0 c.Kids.length <;> rfl
  ·intro i a b _;have:=FJ (AS (l:=c.Kids) a b);rw [AK a b,bs,U3 N _ (by omega) n (by omega),bs,Jt]
theorem Wh (c:AA):Oi c=some (LV (SizeOf.sizeOf c) c):=FV (SizeOf.sizeOf c) fun n a=>U3 _ c (d3 _) n a
def MQ (a:Int):Nat->Int->Int
 | 0,s=>s
 | k+1,s=>A3 (MQ a k s*a)
theorem d9 {a b k s:Int} (e:0<=k) (d:k<=1000) (f:b<=1000):Iw (ρ:=Bool) (fun (c:Int × Int)=>
  if (decide (c.2<b))=true then
  some (.next (A3 (c.1*a),A3 (c.2+1)))
  else
  some (.brk (c.1,c.2))) (s,k)=some (.inl (MQ a (max k b - k).toNat s,max k b)):=by
 refine T2 (fun i=>MQ a (i - k).toNat s) (by omega) (by rw [show (k - k).toNat=0 by omega]; rfl) (fun i g j=>?_) ?_
 ·rw [d1 (by simp; omega),show (i+1 - k).toNat=(i - k).toNat+1 by omega,MQ];dsimp only;rw [BC (n:=i+1) (by omega) (by omega)]
 ·rw [d2 (by simp; omega)]
def Lt (a b:Int):Nat->Pattern->AA->Bool
 | 0,_,_=>true
 | N+1,p,c=>
  let q:=if c.Kind=5 then c.Pattern else p
  if anyR (fun i=>!Lt a b N q (AB c.Kids i)) 0 c.Kids.length=true then false else
  decide (MQ b (max (p.Graph.Edges.length:Int) q.Graph.Edges.length - p.Graph.Edges.length).toNat (MQ a (max (p.Graph.Nodes.length:Int) q.Graph.Nodes.length - p.Graph.Nodes.length).toNat 1)<=5000)
theorem Wc (a b:Int):∀ (N:Nat) (c:AA) (p:Pattern),SizeOf.sizeOf c<=N->D6 c->Ps p->∀ n,N<=n->FP n p c a b=some (Lt a b N p c)
 | 0,c,_,h,_,_,_,_=>by have:=EO c; omega
 | N+1,c,p,h,g,v,n,G=>by
  obtain ⟨n,rfl⟩:∃ k,n=k+1:=⟨n - 1,by omega⟩;have A:=g.q.nodes;have B:=g.q.edges;have C:=v.nodes;have D:=v.edges;have d:∀ q:Pattern,Ps q->(thenR (Iw (ρ:=Bool) (fun (e:Int × Int)=>
    if (decide (e.2<(q.Graph.Nodes.length:Int)))=true then
    some (.next (A3 (e.1*a),A3 (e.2+1)))
    else
    some (.brk (e.1,e.2))) (1,(p.Graph.Nodes.length:Int))) (fun e=>
    thenR (Iw (ρ:=Bool) (fun (s2:Int × Int)=>
    if (decide (s2.2<(q.Graph.Edges.length:Int)))=true then
    some (.next (A3 (s2.1*b),A3 (s2.2+1)))
    else
    some (.brk (s2.1,s2.2))) (e.1,(p.Graph.Edges.length:Int))) (fun s2=>
    thenR (forR (ρ:=Bool) (fun (w:Int) (_:Unit)=>
    (AL c.Kids w).bind fun j=>
    (FP n q j a b).bind fun o=>
    if (!o)=true then
    some (.ret false)
    else
    some (.next ())) 0 (c.Kids.length:Int) ()) (fun _=>
    some (decide (s2.1<=5000))) (fun x=>some x)) (fun y=>some y)) (fun z=>some z)) =
    some (if anyR (fun i=>!Lt a b N q (AB c.Kids i)) 0 c.Kids.length=true then false else
     decide (MQ b (max (p.Graph.Edges.length:Int) q.Graph.Edges.length - p.Graph.Edges.length).toNat (MQ a (max (p.Graph.Nodes.length:Int) q.Graph.Nodes.length - p.Graph.Nodes.length).toNat 1)<=5000)):=by
   intro q r;have E:=r.nodes;have F:=r.edges;rw [d9 (by omega) (by omega) (by omega),D5];dsimp only;rw [d9 (by omega) (by omega) (by omega),D5,CP (fun i=>!Lt a b N q (AB c.Kids i)) false]
   ·cases anyR (fun i=>!Lt a b N q (AB c.Kids i)) 0 c.Kids.length <;> rfl
   ·intro i s u _;have:=FJ (AS (l:=c.Kids) s u);rw [AK s u,bs,Wc a b N _ q (by omega) (g.k _ (AS s u)) r n (by omega),bs,Jt]
  rw [FP,Lt];by_cases f:c.Kind=5
  ·rw [d1 (by simpa using f),d1 f,bs,d _ g.q]
  ·rw [d2 (by simpa using f),d2 f,bs,d _ v]
theorem U1 (a b:Int) {c:AA} {p:Pattern} (d:D6 c) (e:Ps p):N6 p c a b=some (Lt a b (SizeOf.sizeOf c) p c):=FV (SizeOf.sizeOf c) fun n f=>Wc a b _ c p (d3 _) d e n f
theorem Vy (h:AQ):∃ b,Mf h=some b:=by
 unfold Mf J9;rw [bs];split
 ·exact ⟨_,rfl⟩
 ·rw [CP (fun i=>decide (12<((AB h.Values i).length:Int))) false]
  ·cases anyR (fun i=>decide (12<((AB h.Values i).length:Int))) 0 h.Values.length
   ·exact ⟨true,rfl⟩
   ·exact ⟨false,rfl⟩
  ·intro i a c _;rw [AK a c,bs,Jt]
theorem U2 {t:AC} (a:BX t) (st:(AU t).Sm) (p g:Graph):∃ b,L4 t p g=some b:=by
 obtain ⟨b,e,_⟩:=Ub st;unfold L4 J9;rw [e,bs,Ss a];simp only [bs];cases b <;> simp only [Bool.false_eq_true,if_false,if_true,bs]
 ·exact ⟨_,rfl⟩
 ·split <;> (rw [bs]; split <;> exact ⟨_,rfl⟩)
theorem aT {t:AC} (f:BX t) (st:(AU t).Sm) (p:Pattern) {c:AA} (k:(AF c).Sm) (h:AQ):∃ b,EW t p c h=some b∧(b=true->D6 c∧cnt c<=40∧Ps p):=by
 obtain ⟨l,n,q⟩:=UZ k;obtain ⟨r,i,s⟩:=UA p;obtain ⟨u,j⟩:=Vy h;unfold EW;rw [n,bs];cases l
 ·exact ⟨false,rfl,fun h=>by cases h⟩
 rw [i];cases r
 ·exact ⟨false,rfl,fun h=>by cases h⟩
 rw [j];cases u
 ·exact ⟨false,rfl,fun h=>by cases h⟩
 have d:=q rfl;have g:=s rfl;simp only [bs,Bool.not_true,Bool.false_eq_true,if_false];rw [Wd f p d.1,bs];have a:∀ o:ca,(∃ b,o=some b)->∃ b,o=some b∧(b=true->D6 c∧cnt c<=40∧Ps p):=fun o ⟨b,e⟩=>⟨b,e,fun _=>⟨d.1,d.2,g⟩⟩;refine a _ ?_;split
 ·exact ⟨true,rfl⟩
 ·obtain ⟨v,w⟩:=U2 f st p.Graph h.Graph;unfold L6;rw [i,j,w,Wh,U1 14 18 d.1 g];simp only [bs,if_true];cases v <;> simp only [Bool.false_eq_true,if_false,if_true,bs,Bool.false_and]
  ·exact ⟨_,rfl⟩
  ·split
   ·exact ⟨_,rfl⟩
   ·exact ⟨_,rfl⟩
noncomputable def wS (t:AC) (p:Pattern) (c:AA) (h:AQ) (m:AE) (inj:Bool):A0 × Int:=
 if Lh t p c h m inj≠0 then (zP,Lh t p c h m inj) else DQ t h inj (SizeOf.sizeOf c) c m
theorem aO {t:AC} (a:BX t) (p:Pattern) {c:AA} (d:D6 c) (e:cnt c<=40) (h:AQ) (m:AE) (inj:Bool):EY t p c h m inj=some (wS t p c h m inj):=by
 unfold EY wS;rw [cP a p d,bs];refine K1 fun f=>?_;obtain ⟨hv,i,b,j⟩:=TA a e f;rw [show E1 (A7.mk t h inj) c m=some (DQ t h inj (SizeOf.sizeOf c) c m) from FV (2*SizeOf.sizeOf c) fun n g=>Tj (s:=⟨t,h,inj⟩) a hv i _ c p m (d3 _) b j n g];rfl
noncomputable def Kq (t:AC) (p:Pattern) (c:AA) (h:AQ) (m:AE) (inj:Bool):Bool × Int:=
 if (wS t p c h m inj).2=10 then (false,0) else (decide ((wS t p c h m inj).2=0),(wS t p c h m inj).2)
theorem PW {t:AC} (a:BX t) (p:Pattern) {c:AA} (b:D6 c) (d:cnt c<=40) (h:AQ) (m:AE) (inj:Bool):CX t p c h m inj=some (Kq t p c h m inj):=by
 unfold CX Kq;rw [aO a p b d,bs];by_cases e:(wS t p c h m inj).2=10
 ·rw [d1 (by simpa using e),d1 e]
 ·rw [d2 (by simpa using e),d2 e]
theorem We {t:AC} (b:BX t) {h:AQ} {inj:Bool} {p:Pattern} {c:AA} {m:AE} (hv:(BF t).2=0) (d:IN t h) (a:CV t p c) (e:Ou t p h m):PX t c h m inj=some (DZ t h inj (SizeOf.sizeOf c) c m):=FV (SizeOf.sizeOf c) fun n f=>Pj b hv d _ c p m (d3 _) a e n f
theorem XX {t:AC} (b:BX t) (p:Pattern) {c:AA} (g:D6 c) (i:cnt c<=40) (h:AQ) (m:AE) (inj:Bool):JP t p c h m inj=some (Kq t p c h m inj):=by
 unfold JP Kq;rw [cV b p g,bs];have j:=Vo t p c h m inj;by_cases a:Lh t p c h m inj=0
 ·have d:(wS t p c h m inj).2=(DZ t h inj (SizeOf.sizeOf c) c m).2:=by unfold wS; rw [d2 (by simp [a]),UM,WQ]
  rw [d2 (by simp [a]),d];obtain ⟨hv,k,f,l⟩:=TA b i a;unfold Ki;rw [We b hv k f l,bs];by_cases e:(DZ t h inj (SizeOf.sizeOf c) c m).2=10
  ·rw [d1 (by simpa using e),d1 e]; rfl
  ·rw [d2 (by simpa using e),d2 e]; rfl
 ·have d:(wS t p c h m inj).2=Lh t p c h m inj:=by unfold wS; rw [d1 a]
  rw [d1 (by simp [a]),d,d2 j];simp [a]
end Go.Sf.Sc
namespace Go.Sf.Sc
open Go Go.Sf
end Go.Sf.Sc
namespace Go.Sf.Sc
open Go Go.Sf
end Go.Sf.Sc
namespace Go.Sf.Sc
open Go Go.Sf
def FX:Ne->Nat
 | []=>0
 | x::l=>(if x<0 then 1 else 0)+FX l
theorem Sg {α β:Type} {F:α->List β} {B:Nat}:∀ {l:List α},(∀ k∈l,(F k).length<=B)->(l.flatMap F).length<=l.length*B
 | [],_=>by simp
 | a::l,h=>by
  have:=Sg (F:=F) (l:=l) fun k b=>h k (by simp [b]);have:=h a (by simp);rw [List.flatMap_cons,d4,d6,Nat.succ_mul];omega
theorem TI {α β:Type} {F:α->List β}:∀ {l:List α},(∀ k∈l,F k=[])->l.flatMap F=[]
 | [],_=>rfl
 | a::l,h=>by rw [List.flatMap_cons,h a (by simp),TI fun k b=>h k (by simp [b])]; rfl
theorem Q9 {α β:Type} {F:α->List β} {B:Nat} {a:α}:∀ {l:List α},l.Nodup->(∀ k∈l,k≠a->F k=[])->(F a).length<=B->(l.flatMap F).length<=B
 | [],_,_,_=>by simp
 | b::l,d,h,f=>by
  rw [List.nodup_cons] at d;rw [List.flatMap_cons,d4];by_cases e:b=a
  ·subst e;rw [TI fun k c=>h k (by simp [c]) fun e=>d.1 (e ▸ c)];simpa using f
  ·rw [h b (by simp) e];have:=Q9 d.2 (fun k c=>h k (by simp [c])) f;simpa using this
theorem Tz (n:Nat):(A6 n).Nodup:=by
 induction n with
 | zero=>simp [A6]
 | succ n f=>
  rw [LR,List.nodup_append];refine ⟨f,by simp,fun a c b d e=>?_⟩;rw [List.mem_singleton] at d;have:=FL.1 c;omega
theorem Vu {l:Ne} {k:Nat} (h:k<l.length):l.drop k=AB l k::l.drop (k+1):=by
 rw [List.drop_eq_getElem_cons h];congr 1;unfold AB;rw [List.getD_eq_getElem?_getD,List.getElem?_eq_getElem (by omega)]; rfl
theorem iT:∀ (n:Nat) (f:AM),f.edges.length+n=f.partial_.Edges.length->(E6 n f).length<=f.g.Edges.length ^ FX (f.partial_.Edges.drop f.edges.length)
 | 0,f,h=>by
  rw [List.drop_of_length_le (by omega)];simp [E6,FX]
 | n+1,f,h=>by
  have j:=Vu (l:=f.partial_.Edges) (k:=f.edges.length) (by omega);have d:∀ k,(if PH f k=true then E6 n { f with edges:=f.edges++[k] } else []).length<=f.g.Edges.length ^ FX (f.partial_.Edges.drop (f.edges.length+1)):=by
   intro k;split
   ·have:=iT n { f with edges:=f.edges++[k] } (by show (f.edges++[k]).length+n=f.partial_.Edges.length; rw [d4,List.length_singleton]; omega);have e:(f.edges++[k]).length=f.edges.length+1:=by rw [d4,List.length_singleton]
    dsimp only at this
    rwa [e] at this
   ·simp
  rw [E6,j,FX];by_cases c:AB f.partial_.Edges (f.edges.length:Int)<0
  ·rw [d1 c,Nat.pow_add,Nat.pow_one];have:=Sg (l:=A6 f.g.Edges.length) (B:=f.g.Edges.length ^ FX (f.partial_.Edges.drop (f.edges.length+1))) (fun k _=>d k)
   rwa [CI] at this
  ·rw [d2 c,Nat.zero_add];refine Q9 (a:=AB f.partial_.Edges (f.edges.length:Int)) (Tz _) (fun k _ i=>?_) (d _);rw [d2];intro b;unfold PH at b;rw [zzZ,QT,zzZ,Bool.or_eq_true,zzX,zzX] at b;rcases b.1.1 with h | h
   ·exact c h
   ·exact i h.symm
theorem iU:∀ (n:Nat) (f:AM),f.edges=[]->f.p.Edges.length=f.partial_.Edges.length->f.nodes.length+n=f.partial_.Nodes.length->(G8 n f).length<=f.g.Nodes.length ^ FX (f.partial_.Nodes.drop f.nodes.length)*f.g.Edges.length ^ FX f.partial_.Edges
 | 0,f,c,i,h=>by
  rw [List.drop_of_length_le (by omega)];have:=iT f.p.Edges.length f (by rw [c,i]; simp);rw [c] at this;simpa [G8,FX] using this
 | n+1,f,c,i,h=>by
  have q:=Vu (l:=f.partial_.Nodes) (k:=f.nodes.length) (by omega);have j:∀ k,(if PI f k=true then G8 n { f with nodes:=f.nodes++[k] } else []).length<=f.g.Nodes.length ^ FX (f.partial_.Nodes.drop (f.nodes.length+1))*f.g.Edges.length ^ FX f.partial_.Edges:=by
   intro k;split
   ·have:=iU n { f with nodes:=f.nodes++[k] } c i (by show (f.nodes++[k]).length+n=f.partial_.Nodes.length; rw [d4,List.length_singleton]; omega);have e:(f.nodes++[k]).length=f.nodes.length+1:=by rw [d4,List.length_singleton]
    dsimp only at this
    rwa [e] at this
   ·simp
  rw [G8,q,FX];by_cases d:AB f.partial_.Nodes (f.nodes.length:Int)<0
  ·rw [d1 d,Nat.pow_add,Nat.pow_one,Nat.mul_assoc];have:=Sg (l:=A6 f.g.Nodes.length) (B:=f.g.Nodes.length ^ FX (f.partial_.Nodes.drop (f.nodes.length+1))*f.g.Edges.length ^ FX f.partial_.Edges) (fun k _=>j k)
   rwa [CI] at this
  ·rw [d2 d,Nat.zero_add];refine Q9 (a:=AB f.partial_.Nodes (f.nodes.length:Int)) (Tz _) (fun k _ o=>?_) (j _);rw [d2];intro b;unfold PI at b;rw [zzZ,zzZ,Bool.or_eq_true,zzX,zzX] at b;rcases b.1.1 with h | h
   ·exact d h
   ·exact o h.symm
theorem XN {t:AC} {p g:Graph} {a:Morphism} {inj:Bool} (c:a.Nodes.length=p.Nodes.length) (b:a.Edges.length=p.Edges.length):(Lu t p g a inj).length<=g.Nodes.length ^ FX a.Nodes*g.Edges.length ^ FX a.Edges:=by
 have:=iU p.Nodes.length (FF t p g a inj) rfl b.symm (by show 0+p.Nodes.length=a.Nodes.length; omega);unfold Lu;rw [d5];exact Nat.le_trans (Nat.min_le_right _ _) this
theorem WL:∀ (l:Ne) (k:Nat) (v:Int),k<l.length->l.getD k default<0->0<=v->FX (l.set k v)+1=FX l
 | [],k,v,h,_,_=>by simp at h
 | x::l,0,v,_,a,b=>by
  simp at a;rw [List.set_cons_zero,FX,FX,d2 (by omega),d1 a]; omega
 | x::l,k+1,v,c,a,b=>by
  have:=WL l k v (by simpa using c) (by simpa using a) b;rw [List.set_cons_succ,FX,FX];omega
theorem cK (n:Nat):FX (List.replicate n (-1))=n:=by
 induction n with
 | zero=>rfl
 | succ n a=>rw [List.replicate_succ,FX,a]; simp; omega
theorem et {α:Type} [Inhabited α] {l:List α} {i j:Int} (v:α) (a:0<=i) (b:0<=j) (h:j≠i):AB (CJ l i v) j=AB l j:=by
 unfold AB CJ;rw [List.getD_eq_getElem?_getD,List.getD_eq_getElem?_getD,List.getElem?_set];rw [d2 (by omega)]
theorem Ux {by' images:Ne}:∀ (a l:Ne),(a.map (AB by')).Nodup->(∀ k∈a,(0<=AB by' k∧AB by' k<l.length)∧AB l (AB by' k)<0∧0<=AB images k)->FX (a.foldl (fun l i=>CJ l (AB by' i) (AB images i)) l)+a.length=FX l
 | [],l,_,_=>by simp
 | k::a,l,b,h=>by
  obtain ⟨f,g,n⟩:=h k (by simp);rw [List.map_cons,List.nodup_cons] at b;have e:=WL l (AB by' k).toNat (AB images k) (by omega) g n;have q:=Ux (by':=by') (images:=images) a (CJ l (AB by' k) (AB images k)) b.2 (fun j c=>by
   obtain ⟨d,o,p⟩:=h j (by simp [c]);refine ⟨by rw [Ok]; exact d,?_,p⟩;rw [et _ f.1 d.1]
   ·exact o
   ·intro e;exact b.1 (List.mem_map.2 ⟨j,c,e⟩))
  rw [List.foldl_cons,d6];have r:FX (CJ l (AB by' k) (AB images k))+1=FX l:=e;omega
theorem W6 (l:Ne):(A6 l.length).map (AB l)=l:=by
 refine Zm (by rw [d7,CI]) (fun i b a=>?_);rw [d7,CI] at a;exact I9 _ b a
theorem Tb {n:Nat} {by' images:Ne} (c:by'.Nodup) (d:∀ x∈by',0<=x∧x<n) (hi:∀ k:Int,0<=k->k<by'.length->0<=AB images k):FX (Jw n by' images)+by'.length=n:=by
 have:=Ux (by':=by') (images:=images) (A6 by'.length) (List.replicate n (-1)) (by rw [W6]; exact c) (fun k a=>by
  have a:=FL.1 a;have b:=d _ (AS a.1 a.2);refine ⟨by simpa using b,?_,hi k a.1 a.2⟩;have:AB (List.replicate n (-1:Int)) (AB by' k)∈List.replicate n (-1:Int):=AS b.1 (by simpa using b.2);rw [List.mem_replicate] at this;omega)
 rw [cK,CI] at this;exact this
def de (p:Pattern) (c:AA):Prop:=14 ^ (c.Pattern.Graph.Nodes.length - p.Graph.Nodes.length)*18 ^ (c.Pattern.Graph.Edges.length - p.Graph.Edges.length)<=5000
theorem Zv {t:AC} {h:AQ} {inj:Bool} {p:Pattern} {c:AA} {m:AE} (hv:(BF t).2=0) (u:IN t h) (f:Ou t p h m) (hi:Xe t p c) (v:de p c) (n1:h.Graph.Nodes.length<=14) (n2:h.Graph.Edges.length<=18):(D7 t c h m inj).2=0:=by
 have a:=hi.inj;unfold K7 at a;rw [zzZ,NH,NH] at a;have m1:=hi.map.nlen;have E:=hi.map.elen;have F:=f.m.nlen;have G:=f.m.elen;have H:=Tb (n:=c.Pattern.Graph.Nodes.length) (images:=m.Morphism.Nodes) a.1 (fun x b=>by obtain ⟨i,o,r,rfl⟩:=EH b; exact (hi.map.node i o r).1) (fun k j l=>(f.m.node k j (by omega)).1.1);have I:=Tb (n:=c.Pattern.Graph.Edges.length) (images:=m.Morphism.Edges) a.2 (fun x b=>by obtain ⟨i,o,r,rfl⟩:=EH b; exact (hi.map.edge i o r).1) (fun k j l=>(f.m.edge k j (by omega)).1);have B:∀ d:Morphism,d.Nodes.length=c.Pattern.Graph.Nodes.length->d.Edges.length=c.Pattern.Graph.Edges.length->(∀ x∈d.Nodes,-1<=x∧x<h.Graph.Nodes.length)->(∀ x∈d.Edges,-1<=x∧x<h.Graph.Edges.length)->FX d.Nodes=c.Pattern.Graph.Nodes.length - p.Graph.Nodes.length->FX d.Edges=c.Pattern.Graph.Edges.length - p.Graph.Edges.length->(Ob t c.Pattern.Graph h.Graph d inj).2=0:=by
  intro d l1 l2 w y z A;unfold Ob;rw [d2,d2 (by omega),d2,d2,d2]
  ·have:=XN (t:=t) (g:=h.Graph) (inj:=inj) l1 l2;rw [z,A] at this;have l:h.Graph.Nodes.length ^ (c.Pattern.Graph.Nodes.length - p.Graph.Nodes.length)<=14 ^ (c.Pattern.Graph.Nodes.length - p.Graph.Nodes.length):=Nat.pow_le_pow_left n1 _;have C:h.Graph.Edges.length ^ (c.Pattern.Graph.Edges.length - p.Graph.Edges.length)<=18 ^ (c.Pattern.Graph.Edges.length - p.Graph.Edges.length):=Nat.pow_le_pow_left n2 _;have J:=Nat.mul_le_mul l C;unfold de at v;omega
  ·unfold NX;rw [d2]
   ·simp
   ·rw [List.any_eq_true];rintro ⟨x,b,e⟩;have:=y x b;unfold OY at e;rw [Bool.or_eq_true,zzX,zzX] at e;omega
  ·unfold NX;rw [d2]
   ·simp
   ·rw [List.any_eq_true];rintro ⟨x,b,e⟩;have:=w x b;unfold OY at e;rw [Bool.or_eq_true,zzX,zzX] at e;omega
  ·unfold GE;rw [d2 (by simp [hv]),d2 (by simp [hi.q.ge]),d2 (by simp [u.ge]),d1 (by rw [hi.q.ty,u.ty]; rfl)];simp
 have D:=B ⟨Jw c.Pattern.Graph.Nodes.length c.Map.Nodes m.Morphism.Nodes,Jw c.Pattern.Graph.Edges.length c.Map.Edges m.Morphism.Edges⟩ (Tl _ _ _) (Tl _ _ _) (fun x b=>by
  rcases Tm b with e | ⟨k,s,e⟩
  ·omega
  ·have:=(f.m.node k s.1 (by omega)).1; omega) (fun x b=>by
  rcases Tm b with e | ⟨k,s,e⟩
  ·omega
  ·have:=f.m.edge k s.1 (by omega); omega) (by show FX (Jw _ _ _)=_; omega) (by show FX (Jw _ _ _)=_; omega)
 unfold D7;dsimp only;rw [d2 (by rw [D]; simp)]
end Go.Sf.Sc
namespace Go.Sf.Sc
open Go Go.Sf
def P9 (t:AC) (p:Pattern) (c:AA):Int:=
 if c.Pattern.Vars<p.Vars then 20 else if MO t c.Pattern p.Vars≠0 then MO t c.Pattern p.Vars else
 if MP p.Graph c.Pattern.Graph c.Map≠0 then MP p.Graph c.Pattern.Graph c.Map else if K7 c.Map=false then 1 else 0
inductive CG (t:AC):Pattern->AA->Prop where
 | mk (p:Pattern) (c:AA) (ex:c.Kind=5->P9 t p c=0∧de p c) (kids:∀ k∈c.Kids,CG t (if c.Kind=5 then c.Pattern else p) k):CG t p c
theorem CG.ex {t:AC} {p:Pattern} {c:AA} (h:CG t p c):c.Kind=5->P9 t p c=0∧de p c:=by cases h; assumption
theorem CG.kids {t:AC} {p:Pattern} {c:AA} (h:CG t p c):∀ k∈c.Kids,CG t (if c.Kind=5 then c.Pattern else p) k:=by cases h; assumption
theorem CG.kid {t:AC} {p:Pattern} {c:AA} (h:CG t p c) (a:¬ c.Kind=5):∀ k∈c.Kids,CG t p k:=fun k b=>by have:=h.kids k b; rwa [d2 a] at this
theorem CG.kid5 {t:AC} {p:Pattern} {c:AA} (h:CG t p c) (a:c.Kind=5):∀ k∈c.Kids,CG t c.Pattern k:=fun k b=>by have:=h.kids k b; rwa [d1 a] at this
theorem fZ (t:AC) (p:Pattern) (c:AA) (N:Nat):G2 (N+1) t p c=if c.Kind=5∧P9 t p c≠0 then P9 t p c else (fst (fun i=>nz (G2 N t (if c.Kind=5 then c.Pattern else p) (AB c.Kids i))) 0 c.Kids.length).getD 0:=by
 rw [G2];by_cases a:c.Kind=5
 ·rw [d1 a,d1 a];unfold P9;by_cases e:c.Pattern.Vars<p.Vars
  ·rw [d1 e,d1 e,d1 ⟨a,by decide⟩]
  rw [d2 e,d2 e];by_cases b:MO t c.Pattern p.Vars≠0
  ·rw [d1 b,d1 b,d1 ⟨a,b⟩]
  rw [d2 b,d2 b];by_cases d:MP p.Graph c.Pattern.Graph c.Map≠0
  ·rw [d1 d,d1 d,d1 ⟨a,d⟩]
  rw [d2 d,d2 d];by_cases f:K7 c.Map=false
  ·rw [d1 f,d1 f,d1 ⟨a,by decide⟩]
  rw [d2 f,d2 f,d2 (by simp)]
 ·rw [d2 a,d2 a,d2 (by simp [a])]
theorem UD {a:Nat} (c:a<=18) (d:1<=a) {s:Nat}:∀ k:Nat,(∀ j,j<=k->a ^ j*s<=18 ^ 6)->MQ a k s=((a ^ k*s:Nat):Int)
 | 0,_=>by simp [MQ]
 | k+1,h=>by
  have e:=UD c d (s:=s) k fun j g=>h j (by omega);have b:=h (k+1) (d3 _);rw [MQ,e];have f:((a ^ k*s:Nat):Int)*(a:Int)=((a ^ (k+1)*s:Nat):Int):=by
   rw [Nat.pow_succ]; push_cast; rw [Int.mul_right_comm]
  rw [f,BC (by omega) (by
   have:((18:Nat) ^ 6)=34012224:=by decide
   omega)]
theorem iO {p q:Pattern} (h:MQ 18 (max (p.Graph.Edges.length:Int) q.Graph.Edges.length - p.Graph.Edges.length).toNat (MQ 14 (max (p.Graph.Nodes.length:Int) q.Graph.Nodes.length - p.Graph.Nodes.length).toNat 1)<=5000) (o:q.Graph.Nodes.length+q.Graph.Edges.length<=6) :
  14 ^ (q.Graph.Nodes.length - p.Graph.Nodes.length)*18 ^ (q.Graph.Edges.length - p.Graph.Edges.length)<=5000:=by
 have d:(max (p.Graph.Edges.length:Int) q.Graph.Edges.length - p.Graph.Edges.length).toNat=q.Graph.Edges.length - p.Graph.Edges.length:=by omega
 have e:(max (p.Graph.Nodes.length:Int) q.Graph.Nodes.length - p.Graph.Nodes.length).toNat=q.Graph.Nodes.length - p.Graph.Nodes.length:=by omega
 rw [d,e] at h;generalize r:q.Graph.Edges.length - p.Graph.Edges.length=j at *;generalize u:q.Graph.Nodes.length - p.Graph.Nodes.length=k at *;have f:k+j<=6:=by omega
 have g:∀ i,i<=k->14 ^ i*1<=18 ^ 6:=fun i hi=>by
  rw [Nat.mul_one];exact Nat.le_trans (Nat.pow_le_pow_left (by omega) i) (Nat.pow_le_pow_right (by omega) (by omega))
 have l:∀ i,i<=j->18 ^ i*(14 ^ k*1)<=18 ^ 6:=fun i hi=>by
  rw [Nat.mul_one];refine Nat.le_trans (Nat.mul_le_mul_left _ (Nat.pow_le_pow_left (by omega:14<=18) k)) ?_;rw [←Nat.pow_add];exact Nat.pow_le_pow_right (by omega) (by omega)
 have m1:=UD (a:=14) (by omega) (by omega) (s:=1) k g;have n:=UD (a:=18) (by omega) (by omega) (s:=14 ^ k*1) j l;have b:MQ 14 k 1=((14 ^ k*1:Nat):Int):=m1;have c:MQ 18 j ((14 ^ k*1:Nat):Int)=((18 ^ j*(14 ^ k*1):Nat):Int):=n;rw [b,c,Nat.mul_one,Nat.mul_comm] at h;omega
theorem dk {t:AC}:∀ (N:Nat) {p:Pattern} {c:AA},SizeOf.sizeOf c<=N->(∀ M,M=N->G2 M t p c=0)->Lt 14 18 N p c=true->LV N c=true->D6 c->CG t p c
 | 0,_,c,h,_,_,_,_=>by have:=EO c; omega
 | N+1,p,c,h,ho,a,g,r=>by
  have ho:=ho _ rfl;rw [fZ] at ho;rw [Lt] at a;rw [LV] at g;generalize l:(if c.Kind=5 then c.Pattern else p)=q at a
  try dsimp only at a
  split at a
  ·cases a
  rename_i d;split at g
  ·cases g
  rename_i e;rw [zzX] at a g;rw [Bool.not_eq_true,EQ] at d e;have v:=r.q.nodes;have w:=r.q.edges;rw [BC (by omega) (by omega)] at g;have f:(fst (fun i=>nz (G2 N t (if c.Kind=5 then c.Pattern else p) (AB c.Kids i))) 0 c.Kids.length).getD 0=0:=by
   by_cases b:c.Kind=5∧P9 t p c≠0
   ·rw [d1 b] at ho; exact absurd ho b.2
   ·rwa [d2 b] at ho
  refine .mk p c (fun s=>⟨?_,?_⟩) (fun k j=>?_)
  ·by_cases b:P9 t p c≠0
   ·rw [d1 ⟨s,b⟩] at ho; exact ho
   ·exact Classical.not_not.1 b
  ·rw [d1 s] at l;subst l;exact iO a (by omega)
  ·have x:=FJ j;obtain ⟨i,n,o,rfl⟩:=EH j;refine dk N (by omega) (fun M u=>by subst u; exact TO f i n o) ?_ ?_ (r.k _ j)
   ·have:=d i n o;rw [l];simpa using this
   ·have:=e i n o;simpa using this
mutual
def Oa (t:AC) (h:AQ) (inj:Bool):AA->AE->Bool
 | ⟨k,kids,mp,p⟩,m=>
  if k=2 then !((SY t h inj kids).headD fun _=>true) m else
  if k=3 then (SY t h inj kids).all fun f=>f m else
  if k=4 then (SY t h inj kids).any fun f=>f m else
  if k=5 then (D7 t ⟨k,kids,mp,p⟩ h m inj).1.any ((SY t h inj kids).headD fun _=>true) else true
def SY (t:AC) (h:AQ) (inj:Bool):List AA->List (AE->Bool)
 | []=>[]
 | c::l=>Oa t h inj c::SY t h inj l
end
theorem Vs (t:AC) (h:AQ) (inj:Bool):∀ l,SY t h inj l=l.map (Oa t h inj)
 | []=>rfl
 | c::l=>by rw [SY,Vs t h inj l]; rfl
theorem iW (t:AC) (h:AQ) (inj:Bool) (c:AA) (m:AE):Oa t h inj c m =
  if c.Kind=2 then !((c.Kids.map (Oa t h inj)).headD fun _=>true) m else
  if c.Kind=3 then c.Kids.all fun k=>Oa t h inj k m else
  if c.Kind=4 then c.Kids.any fun k=>Oa t h inj k m else
  if c.Kind=5 then (D7 t c h m inj).1.any ((c.Kids.map (Oa t h inj)).headD fun _=>true) else true:=by
 cases c;rw [Oa,Vs,List.all_map,List.any_map];rfl
theorem V7 {α:Type} [Inhabited α] {β:Type} {l:List α} {f:α->β} {d:β} (h:l.length=1):(l.map f).headD d=f (AB l 0):=by
 obtain ⟨x,rfl⟩:=List.length_eq_one_iff.1 h;rfl
theorem Xt {w:Int->A0 × Int} {d:Int->Bool} {F:Int->Option (A0 × Int)} {n:Int} (f:∀ i,0<=i->i<n->(w i).2=if d i=true then 0 else 10)
  (g:∀ i,0<=i->i<n->((F i).map (·.2))=if (w i).2=0 then some 0 else if (w i).2≠10 then some (w i).2 else none):((fst F 0 n).getD (zP,10)).2=if anyR d 0 n=true then 0 else 10:=by
 cases j:fst F 0 n with
 | none=>
  have l:=C0.1 j;rw [d2]
  ·rfl
  ·rw [Bool.not_eq_true,EQ];intro i b c;have a:=g i b c;rw [l i b c,f i b c] at a;cases e:d i
   ·rfl
   ·rw [e] at a; simp at a
 | some r=>
  obtain ⟨i,b,c,k,_⟩:=C8 j;have a:=g i b c;rw [k,f i b c] at a;cases e:d i
  ·rw [e] at a; simp at a
  ·rw [e] at a;rw [d1 (by rw [II]; exact ⟨i,b,c,e⟩)];simpa using a
theorem Vi {w:AA->A0 × Int} {d:AA->Bool}:∀ (l:List AA) (s:A0 × A0),(∀ k∈l,(w k).2=if d k=true then 0 else 10)->(match ET (Lj w) l s with | .inl s=>(s.2,(0:Int)) | .inr r=>r).2=if l.all d=true then 0 else 10
 | [],s,_=>rfl
 | k::l,s,h=>by
  have a:=h k (by simp);rw [ET];unfold Lj;rw [List.all_cons];cases b:d k
  ·rw [b] at a;rw [d1 (by rw [a]; decide)];simpa using a
  ·rw [b] at a;rw [d2 (by rw [a]; decide),Bool.true_and];exact Vi l _ fun k a=>h k (by simp [a])
theorem UL {t:AC} {h:AQ} {inj:Bool} (hv:(BF t).2=0) (u:IN t h) (n1:h.Graph.Nodes.length<=14) (n2:h.Graph.Edges.length<=18):∀ (N:Nat) (c:AA) (p:Pattern) (m:AE),SizeOf.sizeOf c<=N->CV t p c->CG t p c->Ou t p h m->(DQ t h inj N c m).2=if Oa t h inj c m=true then 0 else 10
 | 0,c,_,_,h,_,_,_=>by have:=EO c; omega
 | N+1,c,p,m,B,d,n,o=>by
  have kid:∀ k∈c.Kids,SizeOf.sizeOf k<=N:=fun k a=>by have:=FJ a; omega
  have q:=UL hv u n1 n2 (inj:=inj) N;rw [DQ,iW];by_cases j:c.Kind=2
  ·have v:=d.one (.inl j);rw [d1 j,d1 j,V7 v];have a:=AS (l:=c.Kids) (i:=0) (by omega) (by omega);have e:=q _ p m (kid _ a) (d.kid (by omega) _ a) (n.kid (by omega) _ a) o;cases x:Oa t h inj (AB c.Kids 0) m
   ·rw [x] at e;rw [d2 (by rw [e]; decide),d1 (by rw [e]; rfl)]; rfl
   ·rw [x] at e;rw [d1 (by rw [e]; rfl)]; rfl
  rw [d2 j,d2 j];by_cases r:c.Kind=3
  ·rw [d1 r,d1 r];exact Vi c.Kids (zP,zP) fun k a=>q k p m (kid k a) (d.kid (by omega) k a) (n.kid (by omega) k a) o
  rw [d2 r,d2 r];by_cases s:c.Kind=4
  ·rw [d1 s,d1 s,Jo];refine Xt (w:=fun i=>DQ t h inj N (AB c.Kids i) m) (fun i f g=>?_) (fun i f g=>?_)
   ·have a:=AS f g;exact q _ p m (kid _ a) (d.kid (by omega) _ a) (n.kid (by omega) _ a) o
   ·try dsimp only
    split
    ·rfl
    ·split <;> rfl
  rw [d2 s,d2 s];by_cases b:c.Kind=5
  ·rw [d1 b,d1 b];have hi:=d.ins b;have v:=d.one (.inr b);have y:=Zv (inj:=inj) hv u o hi (n.ex b).2 n1 n2;obtain ⟨A,z⟩:=T9 hv u o hi y;have a:=AS (l:=c.Kids) (i:=0) (by omega) (by omega);rw [d2 (by simp [y]),V7 v,Jo];refine Xt (w:=fun i=>DQ t h inj N (AB c.Kids 0) (AB (D7 t c h m inj).1 i)) (fun i f g=>?_) (fun i f g=>?_)
   ·exact q _ c.Pattern _ (kid _ a) (d.kid5 b _ a) (n.kid5 b _ a) (z _ (AS f g))
   ·try dsimp only
    split
    ·rfl
    ·split <;> rfl
  rw [d2 b,d2 b]; rfl
end Go.Sf.Sc
namespace Go.Sf.Sc
open Go Go.Sf
section
variable (t:AC) (h:AQ) (inj:Bool) (m:AE)
end
end Go.Sf.Sc
namespace Go.Sf.Sc
open Go Go.Sf
def U8 (x:Int):Prop:=0<=x∧x<256
theorem U8.w {x:Int} (h:U8 x):A3 x=x:=BC (by have:=h.1; omega) (by have:=h.2; omega)
structure YX (n:CU) (i:Int):Prop where
 name:n.Name.size<=40
 par:-1<=n.Parent∧n.Parent<i
 attrs:n.Attrs.length<=1
 each:∀ a∈n.Attrs,Qm a
structure VT (t:AC) (i:Int):Prop where
 len:(t.Nodes.length:Int)=i
 node:∀ k:Int,0<=k->k<i->YX (AB t.Nodes k) k
theorem VT.app {t:AC} {i:Int} (h:VT t i) {n:CU} (b:YX n i):VT ⟨t.Nodes++[n],t.Edges⟩ (i+1):=by
 refine ⟨by simp [←h.len],fun k a c=>?_⟩;have d:=h.len;by_cases e:k=i
 ·subst e;rw [show AB (t.Nodes++[n]) k=n from T5 _ _ (by omega)];exact b
 ·rw [show AB (t.Nodes++[n]) k=AB t.Nodes k from Qp _ _ a (by omega)];exact h.node k a (by omega)
structure RZ (t:AC):Prop where
 n:VT t t.Nodes.length
 pos:0<t.Nodes.length
 nodes:t.Nodes.length<=6
 edges:t.Edges.length<=5
 edge:∀ e∈t.Edges,e.Name.size<=40∧(0<=e.From∧e.From<t.Nodes.length)∧0<=e.To∧e.To<t.Nodes.length
theorem RZ.few {t:AC} (h:RZ t):BX t:=by
 have a:∀ n∈t.Nodes,∃ i,YX n i:=fun n a=>by
  obtain ⟨i,d,f,rfl⟩:=EH a;exact ⟨i,h.n.node i d f⟩
 refine ⟨by have:=h.nodes; omega,by have:=h.edges; omega,fun n b=>?_,fun n b=>?_,fun n b=>?_,fun e c=>?_⟩
 ·obtain ⟨i,k⟩:=a n b; have:=k.name; omega
 ·obtain ⟨i,k⟩:=a n b; have:=k.attrs; omega
 ·obtain ⟨i,k⟩:=a n b; exact k.each
 ·have:=(h.edge e c).1; omega
theorem RZ.par {t:AC} (h:RZ t):G1 t t.Nodes.length:=fun i a b=>(h.n.node i a b).par
theorem RZ.below {t:AC} (h:RZ t) {a b:Int} (e:0<=a) (c:a<t.Nodes.length) (d:0<=b):∃ r,H4 t a b=some r:=
 ⟨_,FV (a+2).toNat fun n f=>Sr h.par d n (a+1).toNat a (by omega) c (by omega) (by omega)⟩
end Go.Sf.Sc
namespace Go.Sf.Sc
open Go Go.Sf
structure uB (t:AC) (g:Graph):Prop where
 nodes:g.Nodes.length<=8
 edges:g.Edges.length<=10
 kind:∀ n∈g.Nodes,0<=n∧n<t.Nodes.length
structure kM (p:Pattern):Prop where
 nodes:p.Graph.Nodes.length<=8
 edges:p.Graph.Edges.length<=10
 slots:p.Slots.length<=4
 tests:p.Tests.length<=3
 vars:0<=p.Vars∧p.Vars<=3
end Go.Sf.Sc
namespace Go.Sf.Sc
open Go Go.Sf
structure OS (t:AC) (p:Pattern) (h:AQ) (inj:Bool) (m:AE):Prop where
 chk:Jp t p.Graph h.Graph m.Morphism inj=0
 solve:LO p h m.Morphism=(m.Vars,0)
end Go.Sf.Sc
namespace Go.Sf.Sc
open Go Go.Sf
structure uD (p q:Pattern):Prop where
 nodes:q.Graph.Nodes.length<=p.Graph.Nodes.length+1
 edges:q.Graph.Edges.length<=p.Graph.Edges.length+1
 slots:q.Slots.length<=1
 tests:q.Tests.length<=1
 vars:0<=q.Vars∧q.Vars<=20
end Go.Sf.Sc
namespace Go.Sf.Sc
open Go Go.Sf
structure xp (p:Pattern) (depth:Int):Prop where
 d:0<=depth∧depth<=2
 nodes:(p.Graph.Nodes.length:Int)+depth<=20
 edges:(p.Graph.Edges.length:Int)+depth<=20
 vars:0<=p.Vars∧p.Vars<=20
end Go.Sf.Sc
namespace Go.Sf.Sc
open Go Go.Sf
theorem La {α:Type} {e:α->TV} {n:Nat} {l:List α} (h:l.length<=1000) (a:∀ x∈l,(e x).Sm):TV.Sm (eL n e l):=by
 show TV.Sm (.list n (l.map e));simp only [TV.Sm,d7];refine ⟨by unfold reachBytes; omega,Pm.2 fun t b=>?_⟩;obtain ⟨x,c,rfl⟩:=List.mem_map.1 b;exact a x c
theorem UK {l:Ne} (h:l.length<=1000):TV.Sm (eL 1 eI l):=La h fun _ _=>trivial
theorem Tx {s:ByteArray} (h:(s.size:Int)<=1000):TV.Sm (eS s):=by
 show TV.Sm (.str s);simp only [TV.Sm];unfold reachBytes; omega
theorem cx {t:AC} (h:BX t):(AU t).Sm:=by
 have g:=h.nodes;have i:=h.edges;refine ⟨La (by omega) fun n c=>?_,La (by omega) fun e d=>?_,trivial⟩
 ·have:=h.name n c;have:=h.attrs n c;refine ⟨Tx (by omega),trivial,trivial,La (by omega) fun a b=>?_,trivial⟩;have b:=h.each n c a b;have:=b.name;have:=b.names;exact ⟨Tx (by omega),trivial,trivial,La (by omega) fun x f=>Tx (by have:=b.each x f; omega),trivial⟩
 ·have:=h.ename e d;exact ⟨Tx (by omega),trivial,trivial,trivial,trivial,trivial,trivial,trivial⟩
theorem YH:∀ (N:Nat) (c:AA),SizeOf.sizeOf c<=N->D6 c->cnt c<=1000->(AF c).Sm
 | 0,c,h,_,_=>by have:=EO c; omega
 | N+1,c,h,a,o=>by
  have d:=a.q.nodes;have e:=a.q.edges;have f:=a.q.slots;have g:=a.q.tests;have m1:=a.m.nodes;have i:=a.m.edges;have j:=OZ c;have l:=Qy c.Kids;refine ⟨trivial,?_,UK (by omega),UK (by omega),UK (by omega),La (by omega) fun _ _=>⟨trivial,trivial,trivial,trivial⟩,La (by omega) fun _ _=>⟨trivial,trivial,trivial,trivial,trivial⟩,trivial,La (by omega) fun _ _=>⟨trivial,trivial,trivial,trivial,trivial,trivial⟩,trivial⟩;rw [Kr];refine La (n:=9) (by omega) fun k b=>?_;have:=FJ b;have:=SX b;exact YH N k (by omega) (a.k k b) (by omega)
structure S1 (p:Pattern) (c:AA) (h:AQ):Prop where
 few:D6 c
 cnt:cnt c<=40
 q:Ps p
 bound:Lt 14 18 (SizeOf.sizeOf c) p c=true
 narrow:LV (SizeOf.sizeOf c) c=true
 nodes:h.Graph.Nodes.length<=6
 edges:h.Graph.Edges.length<=8
theorem cH {t:AC} (e:BX t) {p:Pattern} {c:AA} (d:D6 c) (k:cnt c<=1000) (l:HZ t p c=0) (h:AQ):∃ b,EW t p c h=some b∧(b=true->S1 p c h):=by
 obtain ⟨o,q,r⟩:=UZ (YH _ c (d3 _) d k);obtain ⟨s,i,u⟩:=UA p;obtain ⟨v,j⟩:=Vy h;unfold EW;rw [q,bs];cases o
 ·exact ⟨false,rfl,fun h=>by cases h⟩
 rw [i];cases s
 ·exact ⟨false,rfl,fun h=>by cases h⟩
 rw [j];cases v
 ·exact ⟨false,rfl,fun h=>by cases h⟩
 have f:=r rfl;have g:=u rfl;simp only [bs,Bool.not_true,Bool.false_eq_true,if_false];rw [Wd e p d,bs,d2 (by simp [l])];obtain ⟨w,x⟩:=U2 e (cx e) p.Graph h.Graph;unfold L6;rw [i,j,x,Wh,U1 14 18 d g];simp only [bs,if_true];cases w
 ·simp only [Bool.false_eq_true,if_false,bs,Bool.false_and];exact ⟨_,rfl,fun h=>by cases h⟩
 simp only [if_true,bs];split
 ·rename_i a;rw [bs,bs];refine ⟨_,rfl,fun n=>?_⟩;rw [zzZ,zzZ,zzX,zzX] at a;exact ⟨d,f.2,g,n,a.1.1,by omega,by omega⟩
 ·exact ⟨_,rfl,fun h=>by cases h⟩
end Go.Sf.Sc
namespace Go.Sf.Sc
open Go Go.Sf
structure uC (t:AC) (p:Pattern) (c:AA) (h:AQ) (l:List AE) (inj:Bool):Prop where
 few:BX t
 hv:(BF t).2=0
 pat:kM p
 cond:HZ t p c=0
 ph:LX t p h=0
 each:∀ m∈l,OS t p h inj m
 len:l.length<=30
 light:S1 p c h
theorem UU {t:AC} {p:Pattern} {c:AA} (h:HZ t p c=0):Jv t p=0∧LN c=0∧G2 (SizeOf.sizeOf c) t p c=0:=by
 unfold HZ at h;split at h
 ·rename_i k; exact absurd h k
 rename_i a;split at h
 ·rename_i k; exact absurd h k
 rename_i b;exact ⟨Classical.not_not.1 a,Classical.not_not.1 b,h⟩
theorem cG {t:AC} {p:Pattern} {c:AA} {h:AQ} (a:S1 p c h) (b:HZ t p c=0):CG t p c:=
 dk _ (d3 _) (fun M d=>by rw [d]; exact (UU b).2.2) a.bound a.narrow a.few
end Go.Sf.Sc
namespace Go.Sf.Sc
open Go Go.Sf
end Go.Sf.Sc
namespace Go.Sf.Sc
open Go Go.Sf
def zC (kd:Int) (a b:AA):AA:=⟨kd,[a,b],⟨[],[]⟩,⟨⟨[],[]⟩,[],0,[]⟩⟩
end Go.Sf.Sc
namespace Go.Sf.Sc
open Go Go.Sf
end Go.Sf.Sc
namespace Go.Sf.Sc
open Go Go.Sf
end Go.Sf.Sc
namespace Go.Sf.Sc
open Go Go.Sf
end Go.Sf.Sc
