/- Plain lemmas: what the functions of the program and of the reference compute. -/
import Derived.Test.YtlbmpkmkmkgniaaGreatDoorP28
import Derived.Test.YtlbmpkmkmkgniaaGreatDoorP46
import Derived.Test.YtlbmpkmkmkgniaaGreatDoorP25
set_option linter.all false
set_option maxRecDepth 100000
namespace Go.Sf.Sc
open Go Go.Sf
inductive CV (t:AD):Pattern->AA->Prop where
 | mk (p:Pattern) (c:AA) (few:c.Kids.length<=40) (rng:1<=c.Kind∧c.Kind<=5) (one:c.Kind=2∨c.Kind=5->c.Kids.length=1) (ins:c.Kind=5->YW t p c) (kids:∀ k∈c.Kids,CV t (if c.Kind=5 then c.Pattern else p) k):CV t p c
theorem CV.few {t:AD} {p:Pattern} {c:AA} (h:CV t p c):c.Kids.length<=40:=by cases h; assumption
theorem CV.rng {t:AD} {p:Pattern} {c:AA} (h:CV t p c):1<=c.Kind∧c.Kind<=5:=by cases h; assumption
theorem CV.one {t:AD} {p:Pattern} {c:AA} (h:CV t p c):c.Kind=2∨c.Kind=5->c.Kids.length=1:=by cases h; assumption
theorem CV.ins {t:AD} {p:Pattern} {c:AA} (h:CV t p c):c.Kind=5->YW t p c:=by cases h; assumption
theorem CV.kids {t:AD} {p:Pattern} {c:AA} (h:CV t p c):∀ k∈c.Kids,CV t (if c.Kind=5 then c.Pattern else p) k:=by cases h; assumption
theorem CV.kid {t:AD} {p:Pattern} {c:AA} (h:CV t p c) (a:¬ c.Kind=5):∀ k∈c.Kids,CV t p k:=fun k b=>by have:=h.kids k b; rwa [d2 a] at this
theorem CV.kid5 {t:AD} {p:Pattern} {c:AA} (h:CV t p c) (a:c.Kind=5):∀ k∈c.Kids,CV t c.Pattern k:=fun k b=>by have:=h.kids k b; rwa [d1 a] at this
theorem Qi:∀ l:List AA,l.length<=Jp l
 | []=>by simp
 | c::l=>by
  have:=Qi l;have a:Jp (c::l)=cnt c+Jp l:=by simp [Jp]
  have b:=Nv c;simp only [d6];omega
theorem nc {t:AD} {q:Pattern} {v:Int} (hv:(BM t).2=0) (h:Ld t q v=0):RQ t q:=by
 unfold Ld at h;split at h
 ·exact Xz hv (.inl h)
 ·rename_i a; exact Xz hv (.inr (Classical.not_not.1 a))
theorem cN {t:AD} (hv:(BM t).2=0):∀ (N:Nat) (c:AA) (p:Pattern),SizeOf.sizeOf c<=N->cnt c<=40->O6 N c=true->GO N t p c=0->CV t p c
 | 0,c,_,h,_,_,_=>by have:=EQ c; omega
 | N+1,c,p,h,E,s,ho=>by
  have w:=Nv c;have x:=Qi c.Kids;rw [O6,zzZ] at s;obtain ⟨a,l⟩:=s;have d:c.Kind=2∨c.Kind=5->c.Kids.length=1:=by
   intro b;unfold PW at a;rcases b with b | b
   ·rw [d2 (by omega),d1 b,zzZ,zzX] at a; exact a.1
   ·rw [d2 (by omega),d2 (by omega),d2 (by omega),d1 b,zzX] at a; exact a
  have f:1<=c.Kind∧c.Kind<=5:=by
   unfold PW at a;split at a
   ·omega
   split at a
   ·omega
   split at a
   ·omega
   split at a
   ·omega
   ·cases a
  have g:∀ q,(fst (fun i=>nz (GO N t q (AB c.Kids i))) 0 c.Kids.length).getD 0=0->∀ k∈c.Kids,CV t q k:=by
   intro q u k b;have y:=SR u;have C:=Rj b;have D:=FL b;rw [List.all_eq_true] at l;obtain ⟨i,z,A,e⟩:=EB b;have r:=y i z A;rw [e] at r;exact cN hv N k q (by omega) (by omega) (l k b) r
  rw [GO] at ho;by_cases j:c.Kind=5
  ·rw [d1 j] at ho;split at ho
   ·cases ho
   rename_i B;split at ho
   ·rename_i n; exact absurd ho n
   rename_i n;split at ho
   ·rename_i o; exact absurd ho o
   rename_i o;split at ho
   ·cases ho
   rename_i v;refine CV.mk p c (by omega) f d (fun _=>⟨nc hv (Classical.not_not.1 n),by omega,cR (Classical.not_not.1 o),by simpa using v⟩) ?_;rw [d1 j];exact g _ ho
  ·rw [d2 j] at ho;refine CV.mk p c (by omega) f d (fun e=>absurd e j) ?_;rw [d2 j];exact g _ ho
section
variable {α σ ρ:Type}
theorem P3 [Inhabited α] {l:List α} {f:Int->σ->Option (C7 σ ρ)} (step:α->σ->C7 σ ρ) (I:Int->σ->Prop) (h:∀ (i:Int) s,0<=i->i<l.length->I i s->f i s=some (step (AB l i) s)∧∀ s',step (AB l i) s=.next s'->I (i+1) s') :
  ∀ (n:Nat) (a:Int) (s:σ),0<=a->a+n=l.length->I a s->forGo f n a s=some (HI step (l.drop a.toNat) s)
 | 0,a,s,b,j,_=>by
  rw [List.drop_eq_nil_of_le (by omega)]; rfl
 | n+1,a,s,b,j,k=>by
  obtain ⟨e,g⟩:=h a s b (by omega) k;have c:l.drop a.toNat=AB l a::l.drop (a+1).toNat:=by
   rw [show (a+1).toNat=a.toNat+1 by omega,List.drop_eq_getElem_cons (by omega)];congr 1;unfold AB;rw [List.getD_eq_getElem?_getD,List.getElem?_eq_getElem (by omega)]; rfl
  rw [HN,e,c,HI];cases d:step (AB l a) s with
  | next s'=>
   simp only;exact P3 step I h n (a+1) s' (by omega) (by omega) (g s' d)
  | brk s'=>rfl
  | ret r=>rfl
theorem Xd [Inhabited α] {l:List α} {f:Int->σ->Option (C7 σ ρ)} (step:α->σ->C7 σ ρ) (I:Int->σ->Prop) {s:σ} (a:I 0 s) (h:∀ (i:Int) s,0<=i->i<l.length->I i s->f i s=some (step (AB l i) s)∧∀ s',step (AB l i) s=.next s'->I (i+1) s') :
  forR f 0 l.length s=some (HI step l s):=by
 have:=P3 step I h l.length 0 s (by omega) (by omega) a;unfold forR;rw [show ((l.length:Int) - 0).toNat=l.length by omega];exact this
end
abbrev zM:AG:=⟨⟨[],[]⟩,[]⟩
abbrev zP:BQ:=⟨0,zM,[]⟩
def Rd (w:AA->BQ × Int) (k:AA) (s:BQ × BQ):C7 (BQ × BQ) (BQ × Int):=
 if (w k).2≠0 then .ret (zP,(w k).2) else .next (s.1,⟨s.2.Choice,s.2.Match,s.2.Kids++[(w k).1]⟩)
def fu (w:AA->BQ × Int) (l:List AA):BQ × Int:=
 match HI (Rd w) l (zP,zP) with
 | .inl s=>(s.2,0)
 | .inr r=>r
def D1 (t:AD) (h:A0) (inj:Bool):Nat->AA->AG->BQ × Int
 | 0,_,_=>(zP,0)
 | N+1,c,m=>
  if c.Kind=2 then (if (D1 t h inj N (AB c.Kids 0) m).2=0 then (zP,10) else if (D1 t h inj N (AB c.Kids 0) m).2=10 then (zP,0) else (zP,(D1 t h inj N (AB c.Kids 0) m).2)) else
  if c.Kind=3 then fu (fun k=>D1 t h inj N k m) c.Kids else
  if c.Kind=4 then (fst (fun i=>if (D1 t h inj N (AB c.Kids i) m).2=0 then some (⟨i,zM,[(D1 t h inj N (AB c.Kids i) m).1]⟩,0) else if (D1 t h inj N (AB c.Kids i) m).2≠10 then some (zP,(D1 t h inj N (AB c.Kids i) m).2) else none) 0 c.Kids.length).getD (zP,10) else
  if c.Kind=5 then
   (if (G0 t c h m inj).2≠0 then (zP,(G0 t c h m inj).2) else
   (fst (fun i=>if (D1 t h inj N (AB c.Kids 0) (AB (G0 t c h m inj).1 i)).2=0 then some (⟨0,AB (G0 t c h m inj).1 i,[(D1 t h inj N (AB c.Kids 0) (AB (G0 t c h m inj).1 i)).1]⟩,0) else
    if (D1 t h inj N (AB c.Kids 0) (AB (G0 t c h m inj).1 i)).2≠10 then some (zP,(D1 t h inj N (AB c.Kids 0) (AB (G0 t c h m inj).1 i)).2) else none) 0 (G0 t c h m inj).1.length).getD (zP,10)) else
  (zP,0)
end Go.Sf.Sc
namespace Go.Sf.Sc
open Go Go.Sf
def Ua (i:Int) (s:BQ × BQ):Prop:=(s.2.Kids.length:Int)=i
theorem So {s:A4} (q:CC s.t) (hv:(BM s.t).2=0) (o:J2 s.t s.h):∀ (N:Nat) (c:AA) (p:Pattern) (m:AG),SizeOf.sizeOf c<=N->CV s.t p c->RP s.t p s.h m->∀ n,2*N<=n->A2 n s c m=some (D1 s.t s.h s.injective N c m)
 | 0,c,_,_,h,_,_,_,_=>by have:=EQ c; omega
 | N+1,c,p,m,h,g,v,n,C=>by
  obtain ⟨n,rfl⟩:∃ k,n=k+2:=⟨n - 2,by omega⟩;have kid:∀ (i:Int),0<=i->i<c.Kids.length->SizeOf.sizeOf (AB c.Kids i)<=N:=fun i d f=>by
   have:=FL (AW (l:=c.Kids) d f); omega
  rw [A2,D1];by_cases r:c.Kind=2
  ·have B:=g.one (.inl r);rw [d1 (by simpa using r),d1 r,AL (by omega) (by omega),bs,So q hv o N _ p m (kid 0 (by omega) (by omega)) (g.kid (by omega) _ (AW (by omega) (by omega))) v (n+1) (by omega),bs];generalize D1 s.t s.h s.injective N (AB c.Kids 0) m=x;by_cases a:x.2=0
   ·rw [d1 (by simpa using a),d1 a]; try rfl
   ·rw [d2 (by simpa using a),d2 a];by_cases b:x.2=10
    ·rw [d1 (by simpa using b),d1 b]; try rfl
    ·rw [d2 (by simpa using b),d2 b]; try rfl
  rw [d2 (by simpa using r),d2 r];by_cases w:c.Kind=3
  ·rw [d1 (by simpa using w),d1 w];have z:=g.few;rw [Xd (Rd fun k=>D1 s.t s.h s.injective N k m) Ua (show Ua 0 (zP,zP) from rfl)]
   ·unfold fu;show thenR (some (HI (Rd fun k=>D1 s.t s.h s.injective N k m) c.Kids (zP,zP))) _ _=_;cases HI (Rd fun k=>D1 s.t s.h s.injective N k m) c.Kids (zP,zP) <;> rfl
   ·intro i st d f hi;unfold Ua at hi;rw [AL d f,bs,So q hv o N _ p m (kid i d f) (g.kid (by omega) _ (AW d f)) v (n+1) (by omega),bs];dsimp only [Rd];by_cases a:(D1 s.t s.h s.injective N (AB c.Kids i) m).2=0
    ·rw [d2 (by simp [a]),d2 (by simp [a]),CS (by simp; unfold BY; omega),bs];refine ⟨rfl,fun s' e=>?_⟩;cases e;unfold Ua;simp; omega
    ·rw [d1 (by simp [a]),d1 a];exact ⟨rfl,fun s' e=>by cases e⟩
  rw [d2 (by simpa using w),d2 w];by_cases y:c.Kind=4
  ·rw [d1 (by simpa using y),d1 y];rw [RE (fun _=>zP) (fun i=>if (D1 s.t s.h s.injective N (AB c.Kids i) m).2=0 then some (⟨i,zM,[(D1 s.t s.h s.injective N (AB c.Kids i) m).1]⟩,0) else if (D1 s.t s.h s.injective N (AB c.Kids i) m).2≠10 then some (zP,(D1 s.t s.h s.injective N (AB c.Kids i) m).2) else none) (by omega) rfl]
   ·cases fst (fun i=>if (D1 s.t s.h s.injective N (AB c.Kids i) m).2=0 then some ((⟨i,zM,[(D1 s.t s.h s.injective N (AB c.Kids i) m).1]⟩:BQ),(0:Int)) else if (D1 s.t s.h s.injective N (AB c.Kids i) m).2≠10 then some (zP,(D1 s.t s.h s.injective N (AB c.Kids i) m).2) else none) 0 c.Kids.length <;> rfl
   ·intro i d f _;rw [AL d f,bs,So q hv o N _ p m (kid i d f) (g.kid (by omega) _ (AW d f)) v (n+1) (by omega),bs];generalize D1 s.t s.h s.injective N (AB c.Kids i) m=x;by_cases a:x.2=0
    ·rw [d1 (by simpa using a),d1 a]; try rfl
    ·rw [d2 (by simpa using a),d2 a];by_cases b:x.2=10
     ·rw [d2 (by simp [b]),d2 (by simp [b])]; try rfl
     ·rw [d1 (by simp [b]),d1 b]; try rfl
  rw [d2 (by simpa using y),d2 y];by_cases j:c.Kind=5
  ·rw [d1 (by simpa using j),d1 j];have hi:=g.ins j;have B:=g.one (.inr j);rw [BV,gc q hv o v hi,bs];by_cases u:(G0 s.t c s.h m s.injective).2=0
   ·obtain ⟨b,A⟩:=Wi hv o v hi u;rw [d2 (by simp [u]),d2 (by simp [u])];generalize (G0 s.t c s.h m s.injective).1=l at b A;rw [RE (fun _=>zP) (fun i=>if (D1 s.t s.h s.injective N (AB c.Kids 0) (AB l i)).2=0 then some (⟨0,AB l i,[(D1 s.t s.h s.injective N (AB c.Kids 0) (AB l i)).1]⟩,0) else if (D1 s.t s.h s.injective N (AB c.Kids 0) (AB l i)).2≠10 then some (zP,(D1 s.t s.h s.injective N (AB c.Kids 0) (AB l i)).2) else none) (by omega) rfl]
    ·cases fst (fun i=>if (D1 s.t s.h s.injective N (AB c.Kids 0) (AB l i)).2=0 then some ((⟨0,AB l i,[(D1 s.t s.h s.injective N (AB c.Kids 0) (AB l i)).1]⟩:BQ),(0:Int)) else if (D1 s.t s.h s.injective N (AB c.Kids 0) (AB l i)).2≠10 then some (zP,(D1 s.t s.h s.injective N (AB c.Kids 0) (AB l i)).2) else none) 0 l.length <;> rfl
    ·intro i d f _;rw [AL d f,bs,AL (by omega) (by omega),bs,So q hv o N _ c.Pattern _ (kid 0 (by omega) (by omega)) (g.kid5 j _ (AW (by omega) (by omega))) (A _ (AW d f)) n (by omega),bs];generalize D1 s.t s.h s.injective N (AB c.Kids 0) (AB l i)=x;by_cases a:x.2=0
     ·rw [d1 (by simpa using a),d1 a]; try rfl
     ·rw [d2 (by simpa using a),d2 a];by_cases b:x.2=10
      ·rw [d2 (by simp [b]),d2 (by simp [b])]; try rfl
      ·rw [d1 (by simp [b]),d1 b]; try rfl
   ·rw [d1 (by simp [u]),d1 u]; try rfl
  rw [d2 (by simpa using j),d2 j]; try rfl
end Go.Sf.Sc
namespace Go.Sf.Sc
open Go Go.Sf
theorem Ox {c:Int->dD} {a b:Int} {v w:Int} (d:w≠v) (h:∀ i,c i≠some v):(fst c a b).getD w≠v:=by
 cases f:fst c a b with
 | none=>exact d
 | some r=>
  obtain ⟨i,_,_,k,_⟩:=DJ f;simp only [Option.getD_some];exact fun e=>h i (by rw [k,e])
theorem Xo {e v:Int} (h:e≠v):nz e≠some v:=by
 unfold nz;split
 ·simp
 ·simpa using h
theorem KC (g:Graph):CR g≠10:=by
 unfold CR;split
 ·decide
 ·split
  ·decide
  ·split <;> decide
theorem WM (l:List ByteArray):JZ l≠10:=by
 unfold JZ;split
 ·decide
 ·refine Ox (by decide) (fun i=>?_);split
  ·decide
  ·split <;> decide
theorem XW (l:List Attr) (k:Int):LR l k≠10:=by
 have:=WM (AB l k).Names;unfold LR;dsimp only;split
 ·decide
 split
 ·decide
 split
 ·split <;> decide
 split
 ·exact this
 split <;> decide
theorem Xn (t:AD) (i:Int):Ic t i≠10:=by
 unfold Ic;dsimp only;split
 ·decide
 split
 ·decide
 split
 ·decide
 split
 ·decide
 exact Ox (by decide) (fun i=>Xo (XW _ _))
theorem Xb (t:AD) (i:Int):JN t i≠10:=by
 unfold JN;dsimp only;split
 ·decide
 split
 ·decide
 split <;> decide
theorem Sh {α:Type} {e:Int} {x r:α} (h:(nz e).map (fun e=>(x,e))=some (r,(10:Int))):e=10:=by
 unfold nz at h;split at h
 ·cases h
 ·simp only [Option.map_some,zzY,Prod.mk.injEq] at h; exact h.2
theorem Py (t:AD):(BM t).2≠10:=by
 unfold BM;split
 ·decide
 split
 ·decide
 split
 ·rename_i r a;obtain ⟨i,_,_,k,_⟩:=DJ a;intro e;obtain ⟨b,c⟩:=r;simp only at e;subst e;exact Xn t i (Sh k)
 ·cases a:fst (fun i=>(nz (JN t i)).map fun e=>((AB t.Edges i).Name,e)) 0 t.Edges.length with
  | none=>decide
  | some r=>
   obtain ⟨i,_,_,k,_⟩:=DJ a;intro e;obtain ⟨b,c⟩:=r;simp only [Option.getD_some] at e;subst e;exact Xb t i (Sh k)
theorem YO (n:Int) (x:Test):LZ n x≠10:=by
 unfold LZ;split
 ·decide
 ·split <;> decide
theorem WW (n:Int) (l:List Test):I5 n l≠10:=by
 unfold I5;split
 ·decide
 split
 ·decide
 exact Ox (by decide) (fun i=>Xo (YO _ _))
theorem Q0 (t:AD) (p:Pattern):Ja t p≠10:=by
 have a:=Py t;have b:=KC p.Graph;have c:=WW p.Vars p.Tests;unfold Ja;split
 ·exact a
 split
 ·exact b
 split
 ·decide
 split
 ·decide
 split
 ·decide
 split
 ·decide
 split
 ·exact c
 split <;> decide
theorem Yv (t:AD) (q:Pattern) (v:Int):Ld t q v≠10:=by
 have:=Q0 t q;unfold Ld;split
 ·exact this
 ·split <;> decide
theorem WL (a b:Graph) (m:Morphism) (i:Int):J7 a b m i≠some 10:=by
 unfold J7;split
 ·decide
 ·split <;> decide
theorem RU (a b:Graph) (m:Morphism) (i:Int):GK a b m i≠some 10:=by
 unfold GK;split
 ·decide
 ·split
  ·decide
  ·split <;> decide
theorem V9 (t:AD) (a b:Graph) (m:Morphism) (i:Int):Ir t a b m i≠some 10:=by
 unfold Ir;split
 ·decide
 ·split <;> decide
theorem VN {c:Int->dD} {d:Int} {a b:Int} (h:∀ i,c i≠some 10) (f:d≠10):(match fst c a b with | some e=>e | none=>d)≠10:=by
 cases g:fst c a b with
 | none=>exact f
 | some r=>
  obtain ⟨i,_,_,k,_⟩:=DJ g;exact fun e=>h i (by rw [k]; exact congrArg some e)
theorem Y2 (a b:Graph) (m:Morphism):Lf a b m≠10:=by
 have c:=KC a;have d:=KC b;unfold Lf;split
 ·exact c
 split
 ·exact d
 split
 ·decide
 exact VN (WL a b m) (Ox (by decide) (RU a b m))
theorem Sn (t:AD):∀ (N:Nat) (p:Pattern) (c:AA),GO N t p c≠10
 | 0,_,_=>by rw [GO]; decide
 | N+1,p,c=>by
  have a:∀ q,(fst (fun i=>nz (GO N t q (AB c.Kids i))) 0 c.Kids.length).getD 0≠10:=fun q=>Ox (by decide) (fun i=>Xo (Sn t N q _));have b:=Yv t c.Pattern p.Vars;have d:=Y2 p.Graph c.Pattern.Graph c.Map;rw [GO];split
  ·split
   ·decide
   split
   ·exact b
   split
   ·exact d
   split
   ·decide
   exact a _
  ·exact a _
theorem XZ (t:AD) (p:Pattern) (c:AA):HK t p c≠10:=by
 have a:=Q0 t p;have b:=Sn t (SizeOf.sizeOf c) p c;unfold HK;split
 ·exact a
 split
 ·unfold Ko;split
  ·decide
  ·split <;> decide
 ·exact b
theorem SU (t:AD) (h:A0):(JO t h).2≠10:=by
 have b:=Py t;have c:=KC h.Graph;have d:∀ i,JY t (AB h.Graph.Nodes i) (AB h.Values i)≠10:=by
  intro i;unfold JY;split
  ·decide
  split
  ·decide
  split
  ·decide
  split <;> decide
 have f:∀ i,Ix t h.Graph i≠10:=by
  intro i;unfold Ix;split
  ·decide
  split <;> decide
 unfold JO;split
 ·exact b
 split
 ·exact c
 split
 ·decide
 split
 ·rename_i r a;obtain ⟨i,_,_,k,_⟩:=DJ a;intro e;obtain ⟨g,j⟩:=r;simp only at e;subst e;exact d i (Sh k)
 ·cases a:fst (fun i=>(nz (Ix t h.Graph i)).map fun e=>(i,e)) 0 h.Graph.Edges.length with
  | none=>decide
  | some r=>
   obtain ⟨i,_,_,k,_⟩:=DJ a;intro e;obtain ⟨g,j⟩:=r;simp only [Option.getD_some] at e;subst e;exact f i (Sh k)
theorem WJ (t:AD) (p g:Graph):GI t p g≠10:=by
 have a:=Py t;have b:=KC p;have c:=KC g;unfold GI;split
 ·exact a
 split
 ·exact b
 split
 ·exact c
 split <;> decide
theorem TZ (t:AD) (p g:Graph) (m:Morphism) (inj:Bool):KK t p g m inj≠10:=by
 have a:=WJ t p g;have b:LY t p g m≠10:=by
  unfold LY;split
  ·decide
  exact VN (V9 t p g m) (Ox (by decide) (RU p g m))
 unfold KK;split
 ·exact a
 split
 ·exact b
 split <;> decide
theorem bH {ρ:Type} {v:ρ} {h:A0} {m:Morphism}:∀ (l:List EG) (st:Ne × d0) (r:ρ),HI (HE v h m) l st=.inr r->r=v:=by
 intro l
 induction l with
 | nil=>intro st r h; cases h
 | cons a l c=>
  intro st r h;rw [HI] at h;split at h
  ·exact c _ _ h
  ·cases h
  ·rename_i d b;cases h;unfold HE at b;split at b
   ·cases b
   ·cases b; rfl
theorem YE (t:AD) (p:Pattern) (h:A0) (m:Morphism):(Jx t p h m).2≠10:=by
 have b:=Q0 t p;have c:=SU t h;have d:=TZ t p.Graph h.Graph m false;have e:MH t p h≠10:=by
  unfold MH;split
  ·exact b
  ·exact c
 unfold Jx;split
 ·exact e
 split
 ·exact d
 unfold MP;split
 ·rename_i r a;rw [bH _ _ _ a]; decide
 ·split
  ·decide
  ·show (0:Int)≠10;decide
noncomputable def MX (t:AD) (p:Pattern) (c:AA) (h:A0) (m:AG) (inj:Bool):Int:=
 if HK t p c≠0 then HK t p c else if (JO t h).2≠0 then (JO t h).2 else if KK t p.Graph h.Graph m.Morphism inj≠0 then KK t p.Graph h.Graph m.Morphism inj else
 if (Jx t p h m.Morphism).2≠0 then (Jx t p h m.Morphism).2 else if (Jx t p h m.Morphism).1=m.Vars then 0 else 11
theorem aJ (t:AD) (p:Pattern) (c:AA) (h:A0) (m:AG) (inj:Bool):MX t p c h m inj≠10:=by
 have a:=XZ t p c;have b:=SU t h;have d:=TZ t p.Graph h.Graph m.Morphism inj;have e:=YE t p h m.Morphism;unfold MX;split
 ·exact a
 split
 ·exact b
 split
 ·exact d
 split
 ·exact e
 split <;> decide
theorem ap {t:AD} (a:CC t) (p:Pattern) {c:AA} (b:EF c) (h:A0) (m:AG) (inj:Bool):FR t p c h m inj=some (MX t p c h m inj):=by
 unfold FR MX;rw [d9 a p b,bs];refine JJ fun _=>?_;rw [Y9 a,bs];refine JJ fun _=>?_;rw [Wx a,bs];refine JJ fun _=>?_;rw [dz a,bs];refine JJ fun _=>?_;rw [oG,bs];by_cases e:(Jx t p h m.Morphism).1=m.Vars
 ·rw [d2 (by simp [e]),d1 e]
 ·rw [d1 (by simp [e]),d2 e]
theorem UZ {t:AD} (u:CC t) {p:Pattern} {c:AA} (v:cnt c<=40) {h:A0} {m:AG} {inj:Bool} (e:MX t p c h m inj=0):(BM t).2=0∧J2 t h∧CV t p c∧RP t p h m:=by
 unfold MX at e;split at e
 ·rename_i a; exact absurd e a
 rename_i a;split at e
 ·rename_i g; exact absurd e g
 rename_i g;split at e
 ·rename_i i; exact absurd e i
 rename_i i;split at e
 ·rename_i b; exact absurd e b
 rename_i b;split at e
 case isFalse=>cases e
 rename_i k;have a:=Classical.not_not.1 a;have g:=Classical.not_not.1 g;have i:=Classical.not_not.1 i;have b:=Classical.not_not.1 b;obtain ⟨hv,r⟩:=Wo u g;have q:=(Uu i).2;unfold HK at a;split at a
 ·rename_i l; exact absurd a l
 rename_i l;split at a
 ·rename_i d; exact absurd a d
 rename_i d;have o:=Xz hv (.inl (Classical.not_not.1 l));have d:=Classical.not_not.1 d;have w:Z2 c=true:=by
  unfold Ko at d;split at d
  ·cases d
  ·rename_i j; simpa using j
 suffices f:(m.Vars.length:Int)=p.Vars∧Nq m.Vars from ⟨hv,r,cN hv _ c p (d3 _) v w a,o,q,f.1,f.2⟩
 have f:∀ s∈p.Slots,K7 p.Vars h m.Morphism s:=fun s f=>RM (Ik hv) o r q f;unfold Jx at b k;split at b
 ·rename_i j; exact absurd b j
 rename_i j;rw [d2 j] at k;split at b
 ·rename_i n; exact absurd b n
 rename_i n;rw [d2 n] at k;have:=Zd o f b;rw [k] at this;exact this
end Go.Sf.Sc
namespace Go.Sf.Sc
open Go Go.Sf
def Kw:Nat->AA->Bool
 | 0,_=>true
 | N+1,c=>if anyR (fun i=>!Kw N (AB c.Kids i)) 0 c.Kids.length=true then false else decide (A6 ((c.Pattern.Graph.Nodes.length:Int)+c.Pattern.Graph.Edges.length)<=6)
theorem UC:∀ (N:Nat) (c:AA),SizeOf.sizeOf c<=N->∀ n,N<=n->HC n c=some (Kw N c)
 | 0,c,h,_,_=>by have:=EQ c; omega
 | N+1,c,h,n,d=>by
  obtain ⟨n,rfl⟩:∃ k,n=k+1:=⟨n - 1,by omega⟩;rw [HC,Kw,C4 (fun i=>!Kw N (AB c.Kids i)) false]
  ·cases anyR (fun i=>!Kw N (AB c.Kids i)) 0 c.Kids.length <;> rfl
  ·intro i a b _;have:=FL (AW (l:=c.Kids) a b);rw [AL a b,bs,UC N _ (by omega) n (by omega),bs,Kc]
theorem Ve (c:AA):N3 c=some (Kw (SizeOf.sizeOf c) c):=GJ (SizeOf.sizeOf c) fun n a=>UC _ c (d3 _) n a
def Lg (a:Int):Nat->Int->Int
 | 0,s=>s
 | k+1,s=>A6 (Lg a k s*a)
theorem cY {a b k s:Int} (e:0<=k) (d:k<=1000) (f:b<=1000):If (ρ:=Bool) (fun (c:Int × Int)=>
  if (decide (c.2<b))=true then
  some (.next (A6 (c.1*a),A6 (c.2+1)))
  else
  some (.brk (c.1,c.2))) (s,k)=some (.inl (Lg a (max k b - k).toNat s,max k b)):=by
 refine S6 (fun i=>Lg a (i - k).toNat s) (by omega) (by rw [show (k - k).toNat=0 by omega]; rfl) (fun i g j=>?_) ?_
 ·rw [d1 (by simp; omega),show (i+1 - k).toNat=(i - k).toNat+1 by omega,Lg];dsimp only;rw [BD (n:=i+1) (by omega) (by omega)]
 ·rw [d2 (by simp; omega)]
def LA (a b:Int):Nat->Pattern->AA->Bool
 | 0,_,_=>true
 | N+1,p,c=>
  let q:=if c.Kind=5 then c.Pattern else p
  if anyR (fun i=>!LA a b N q (AB c.Kids i)) 0 c.Kids.length=true then false else
  decide (Lg b (max (p.Graph.Edges.length:Int) q.Graph.Edges.length - p.Graph.Edges.length).toNat (Lg a (max (p.Graph.Nodes.length:Int) q.Graph.Nodes.length - p.Graph.Nodes.length).toNat 1)<=5000)
theorem Vc (a b:Int):∀ (N:Nat) (c:AA) (p:Pattern),SizeOf.sizeOf c<=N->EF c->O8 p->∀ n,N<=n->FD n p c a b=some (LA a b N p c)
 | 0,c,_,h,_,_,_,_=>by have:=EQ c; omega
 | N+1,c,p,h,j,w,n,H=>by
  obtain ⟨n,rfl⟩:∃ k,n=k+1:=⟨n - 1,by omega⟩;have B:=j.q.nodes;have C:=j.q.edges;have D:=w.nodes;have E:=w.edges;have d:∀ q:Pattern,O8 q->(thenR (If (ρ:=Bool) (fun (e:Int × Int)=>
    if (decide (e.2<(q.Graph.Nodes.length:Int)))=true then
    some (.next (A6 (e.1*a),A6 (e.2+1)))
    else
    some (.brk (e.1,e.2))) (1,(p.Graph.Nodes.length:Int))) (fun e=>
    thenR (If (ρ:=Bool) (fun (f:Int × Int)=>
    if (decide (f.2<(q.Graph.Edges.length:Int)))=true then
    some (.next (A6 (f.1*b),A6 (f.2+1)))
    else
    some (.brk (f.1,f.2))) (e.1,(p.Graph.Edges.length:Int))) (fun f=>
    thenR (forR (ρ:=Bool) (fun (x:Int) (_:Unit)=>
    (AK c.Kids x).bind fun o=>
    (FD n q o a b).bind fun r=>
    if (!r)=true then
    some (.ret false)
    else
    some (.next ())) 0 (c.Kids.length:Int) ()) (fun _=>
    some (decide (f.1<=5000))) (fun y=>some y)) (fun z=>some z)) (fun A=>some A)) =
    some (if anyR (fun i=>!LA a b N q (AB c.Kids i)) 0 c.Kids.length=true then false else
     decide (Lg b (max (p.Graph.Edges.length:Int) q.Graph.Edges.length - p.Graph.Edges.length).toNat (Lg a (max (p.Graph.Nodes.length:Int) q.Graph.Nodes.length - p.Graph.Nodes.length).toNat 1)<=5000)):=by
   intro q s;have F:=s.nodes;have G:=s.edges;rw [cY (by omega) (by omega) (by omega),EI];dsimp only;rw [cY (by omega) (by omega) (by omega),EI,C4 (fun i=>!LA a b N q (AB c.Kids i)) false]
   ·cases anyR (fun i=>!LA a b N q (AB c.Kids i)) 0 c.Kids.length <;> rfl
   ·intro i u v _;have:=FL (AW (l:=c.Kids) u v);rw [AL u v,bs,Vc a b N _ q (by omega) (j.k _ (AW u v)) s n (by omega),bs,Kc]
  rw [FD,LA];by_cases g:c.Kind=5
  ·rw [d1 (by simpa using g),d1 g,bs,d _ j.q]
  ·rw [d2 (by simpa using g),d2 g,bs,d _ w]
theorem UA (a b:Int) {c:AA} {p:Pattern} (d:EF c) (e:O8 p):NS p c a b=some (LA a b (SizeOf.sizeOf c) p c):=GJ (SizeOf.sizeOf c) fun n f=>Vc a b _ c p (d3 _) d e n f
theorem U2 (h:A0):∃ b,Lx h=some b:=by
 unfold Lx Jk;rw [bs];split
 ·exact ⟨_,rfl⟩
 ·rw [C4 (fun i=>decide (12<((AB h.Values i).length:Int))) false]
  ·cases anyR (fun i=>decide (12<((AB h.Values i).length:Int))) 0 h.Values.length
   ·exact ⟨true,rfl⟩
   ·exact ⟨false,rfl⟩
  ·intro i a c _;rw [AL a c,bs,Kc]
theorem UB {t:AD} (a:CC t) (st:(At t).Sm) (p g:Graph):∃ b,LK t p g=some b:=by
 obtain ⟨b,e,_⟩:=Th st;unfold LK Jk;rw [e,bs,Vh a];simp only [bs];cases b <;> simp only [Bool.false_eq_true,if_false,if_true,bs]
 ·exact ⟨_,rfl⟩
 ·split <;> (rw [bs]; split <;> exact ⟨_,rfl⟩)
theorem ZK {t:AD} (f:CC t) (st:(At t).Sm) (p:Pattern) {c:AA} (k:(AF c).Sm) (h:A0):∃ b,E8 t p c h=some b∧(b=true->EF c∧cnt c<=40∧O8 p):=by
 obtain ⟨l,n,q⟩:=Tf k;obtain ⟨r,i,s⟩:=TD p;obtain ⟨u,j⟩:=U2 h;unfold E8;rw [n,bs];cases l
 ·exact ⟨false,rfl,fun h=>by cases h⟩
 rw [i];cases r
 ·exact ⟨false,rfl,fun h=>by cases h⟩
 rw [j];cases u
 ·exact ⟨false,rfl,fun h=>by cases h⟩
 have d:=q rfl;have g:=s rfl;simp only [bs,Bool.not_true,Bool.false_eq_true,if_false];rw [ZJ f p d.1,bs];have a:∀ o:ca,(∃ b,o=some b)->∃ b,o=some b∧(b=true->EF c∧cnt c<=40∧O8 p):=fun o ⟨b,e⟩=>⟨b,e,fun _=>⟨d.1,d.2,g⟩⟩;refine a _ ?_;split
 ·exact ⟨true,rfl⟩
 ·obtain ⟨v,w⟩:=UB f st p.Graph h.Graph;unfold LM;rw [i,j,w,Ve,UA 14 18 d.1 g];simp only [bs,if_true];cases v <;> simp only [Bool.false_eq_true,if_false,if_true,bs,Bool.false_and]
  ·exact ⟨_,rfl⟩
  ·split
   ·exact ⟨_,rfl⟩
   ·exact ⟨_,rfl⟩
noncomputable def wS (t:AD) (p:Pattern) (c:AA) (h:A0) (m:AG) (inj:Bool):BQ × Int:=
 if MX t p c h m inj≠0 then (zP,MX t p c h m inj) else D1 t h inj (SizeOf.sizeOf c) c m
theorem ZH {t:AD} (a:CC t) (p:Pattern) {c:AA} (d:EF c) (e:cnt c<=40) (h:A0) (m:AG) (inj:Bool):EO t p c h m inj=some (wS t p c h m inj):=by
 unfold EO wS;rw [ap a p d,bs];refine NK fun f=>?_;obtain ⟨hv,i,b,j⟩:=UZ a e f;rw [show ER (A4.mk t h inj) c m=some (D1 t h inj (SizeOf.sizeOf c) c m) from GJ (2*SizeOf.sizeOf c) fun n g=>So (s:=⟨t,h,inj⟩) a hv i _ c p m (d3 _) b j n g];rfl
noncomputable def MO (t:AD) (p:Pattern) (c:AA) (h:A0) (m:AG) (inj:Bool):Bool × Int:=
 if (wS t p c h m inj).2=10 then (false,0) else (decide ((wS t p c h m inj).2=0),(wS t p c h m inj).2)
theorem RX {t:AD} (a:CC t) (p:Pattern) {c:AA} (b:EF c) (d:cnt c<=40) (h:A0) (m:AG) (inj:Bool):C1 t p c h m inj=some (MO t p c h m inj):=by
 unfold C1 MO;rw [ZH a p b d,bs];by_cases e:(wS t p c h m inj).2=10
 ·rw [d1 (by simpa using e),d1 e]
 ·rw [d2 (by simpa using e),d2 e]
end Go.Sf.Sc
namespace Go.Sf.Sc
open Go Go.Sf
end Go.Sf.Sc
namespace Go.Sf.Sc
open Go Go.Sf
end Go.Sf.Sc
namespace Go.Sf.Sc
open Go Go.Sf
def FJ:Ne->Nat
 | []=>0
 | x::l=>(if x<0 then 1 else 0)+FJ l
theorem Rp {α β:Type} {F:α->List β} {B:Nat}:∀ {l:List α},(∀ k∈l,(F k).length<=B)->(l.flatMap F).length<=l.length*B
 | [],_=>by simp
 | a::l,h=>by
  have:=Rp (F:=F) (l:=l) fun k b=>h k (by simp [b]);have:=h a (by simp);rw [List.flatMap_cons,d4,d6,Nat.succ_mul];omega
theorem SM {α β:Type} {F:α->List β}:∀ {l:List α},(∀ k∈l,F k=[])->l.flatMap F=[]
 | [],_=>rfl
 | a::l,h=>by rw [List.flatMap_cons,h a (by simp),SM fun k b=>h k (by simp [b])]; rfl
theorem Qq {α β:Type} {F:α->List β} {B:Nat} {a:α}:∀ {l:List α},l.Nodup->(∀ k∈l,k≠a->F k=[])->(F a).length<=B->(l.flatMap F).length<=B
 | [],_,_,_=>by simp
 | b::l,d,h,f=>by
  rw [List.nodup_cons] at d;rw [List.flatMap_cons,d4];by_cases e:b=a
  ·subst e;rw [SM fun k c=>h k (by simp [c]) fun e=>d.1 (e ▸ c)];simpa using f
  ·rw [h b (by simp) e];have:=Qq d.2 (fun k c=>h k (by simp [c])) f;simpa using this
theorem S4 (n:Nat):(A9 n).Nodup:=by
 induction n with
 | zero=>simp [A9]
 | succ n f=>
  rw [Ks,List.nodup_append];refine ⟨f,by simp,fun a c b d e=>?_⟩;rw [List.mem_singleton] at d;have:=E7.1 c;omega
theorem Uz {l:Ne} {k:Nat} (h:k<l.length):l.drop k=AB l k::l.drop (k+1):=by
 rw [List.drop_eq_getElem_cons h];congr 1;unfold AB;rw [List.getD_eq_getElem?_getD,List.getElem?_eq_getElem (by omega)]; rfl
theorem gB:∀ (n:Nat) (f:AM),f.edges.length+n=f.partial_.Edges.length->(EW n f).length<=f.g.Edges.length ^ FJ (f.partial_.Edges.drop f.edges.length)
 | 0,f,h=>by
  rw [List.drop_of_length_le (by omega)];simp [EW,FJ]
 | n+1,f,h=>by
  have j:=Uz (l:=f.partial_.Edges) (k:=f.edges.length) (by omega);have d:∀ k,(if OU f k=true then EW n { f with edges:=f.edges++[k] } else []).length<=f.g.Edges.length ^ FJ (f.partial_.Edges.drop (f.edges.length+1)):=by
   intro k;split
   ·have:=gB n { f with edges:=f.edges++[k] } (by show (f.edges++[k]).length+n=f.partial_.Edges.length; rw [d4,List.length_singleton]; omega);have e:(f.edges++[k]).length=f.edges.length+1:=by rw [d4,List.length_singleton]
    dsimp only at this
    rwa [e] at this
   ·simp
  rw [EW,j,FJ];by_cases c:AB f.partial_.Edges (f.edges.length:Int)<0
  ·rw [d1 c,Nat.pow_add,Nat.pow_one];have:=Rp (l:=A9 f.g.Edges.length) (B:=f.g.Edges.length ^ FJ (f.partial_.Edges.drop (f.edges.length+1))) (fun k _=>d k)
   rwa [CI] at this
  ·rw [d2 c,Nat.zero_add];refine Qq (a:=AB f.partial_.Edges (f.edges.length:Int)) (S4 _) (fun k _ i=>?_) (d _);rw [d2];intro b;unfold OU at b;rw [zzZ,Pt,zzZ,Bool.or_eq_true,zzX,zzX] at b;rcases b.1.1 with h | h
   ·exact c h
   ·exact i h.symm
theorem gC:∀ (n:Nat) (f:AM),f.edges=[]->f.p.Edges.length=f.partial_.Edges.length->f.nodes.length+n=f.partial_.Nodes.length->(GW n f).length<=f.g.Nodes.length ^ FJ (f.partial_.Nodes.drop f.nodes.length)*f.g.Edges.length ^ FJ f.partial_.Edges
 | 0,f,c,i,h=>by
  rw [List.drop_of_length_le (by omega)];have:=gB f.p.Edges.length f (by rw [c,i]; simp);rw [c] at this;simpa [GW,FJ] using this
 | n+1,f,c,i,h=>by
  have q:=Uz (l:=f.partial_.Nodes) (k:=f.nodes.length) (by omega);have j:∀ k,(if OV f k=true then GW n { f with nodes:=f.nodes++[k] } else []).length<=f.g.Nodes.length ^ FJ (f.partial_.Nodes.drop (f.nodes.length+1))*f.g.Edges.length ^ FJ f.partial_.Edges:=by
   intro k;split
   ·have:=gC n { f with nodes:=f.nodes++[k] } c i (by show (f.nodes++[k]).length+n=f.partial_.Nodes.length; rw [d4,List.length_singleton]; omega);have e:(f.nodes++[k]).length=f.nodes.length+1:=by rw [d4,List.length_singleton]
    dsimp only at this
    rwa [e] at this
   ·simp
  rw [GW,q,FJ];by_cases d:AB f.partial_.Nodes (f.nodes.length:Int)<0
  ·rw [d1 d,Nat.pow_add,Nat.pow_one,Nat.mul_assoc];have:=Rp (l:=A9 f.g.Nodes.length) (B:=f.g.Nodes.length ^ FJ (f.partial_.Nodes.drop (f.nodes.length+1))*f.g.Edges.length ^ FJ f.partial_.Edges) (fun k _=>j k)
   rwa [CI] at this
  ·rw [d2 d,Nat.zero_add];refine Qq (a:=AB f.partial_.Nodes (f.nodes.length:Int)) (S4 _) (fun k _ o=>?_) (j _);rw [d2];intro b;unfold OV at b;rw [zzZ,zzZ,Bool.or_eq_true,zzX,zzX] at b;rcases b.1.1 with h | h
   ·exact d h
   ·exact o h.symm
theorem WI {t:AD} {p g:Graph} {a:Morphism} {inj:Bool} (c:a.Nodes.length=p.Nodes.length) (b:a.Edges.length=p.Edges.length):(LB t p g a inj).length<=g.Nodes.length ^ FJ a.Nodes*g.Edges.length ^ FJ a.Edges:=by
 have:=gC p.Nodes.length (FF t p g a inj) rfl b.symm (by show 0+p.Nodes.length=a.Nodes.length; omega);unfold LB;rw [d5];exact Nat.le_trans (Nat.min_le_right _ _) this
theorem VO:∀ (l:Ne) (k:Nat) (v:Int),k<l.length->l.getD k default<0->0<=v->FJ (l.set k v)+1=FJ l
 | [],k,v,h,_,_=>by simp at h
 | x::l,0,v,_,a,b=>by
  simp at a;rw [List.set_cons_zero,FJ,FJ,d2 (by omega),d1 a]; omega
 | x::l,k+1,v,c,a,b=>by
  have:=VO l k v (by simpa using c) (by simpa using a) b;rw [List.set_cons_succ,FJ,FJ];omega
theorem ai (n:Nat):FJ (List.replicate n (-1))=n:=by
 induction n with
 | zero=>rfl
 | succ n a=>rw [List.replicate_succ,FJ,a]; simp; omega
theorem dL {α:Type} [Inhabited α] {l:List α} {i j:Int} (v:α) (a:0<=i) (b:0<=j) (h:j≠i):AB (CU l i v) j=AB l j:=by
 unfold AB CU;rw [List.getD_eq_getElem?_getD,List.getD_eq_getElem?_getD,List.getElem?_set];rw [d2 (by omega)]
theorem T5 {by' images:Ne}:∀ (a l:Ne),(a.map (AB by')).Nodup->(∀ k∈a,(0<=AB by' k∧AB by' k<l.length)∧AB l (AB by' k)<0∧0<=AB images k)->FJ (a.foldl (fun l i=>CU l (AB by' i) (AB images i)) l)+a.length=FJ l
 | [],l,_,_=>by simp
 | k::a,l,b,h=>by
  obtain ⟨f,g,n⟩:=h k (by simp);rw [List.map_cons,List.nodup_cons] at b;have e:=VO l (AB by' k).toNat (AB images k) (by omega) g n;have q:=T5 (by':=by') (images:=images) a (CU l (AB by' k) (AB images k)) b.2 (fun j c=>by
   obtain ⟨d,o,p⟩:=h j (by simp [c]);refine ⟨by rw [N4]; exact d,?_,p⟩;rw [dL _ f.1 d.1]
   ·exact o
   ·intro e;exact b.1 (List.mem_map.2 ⟨j,c,e⟩))
  rw [List.foldl_cons,d6];have r:FJ (CU l (AB by' k) (AB images k))+1=FJ l:=e;omega
theorem V0 (l:Ne):(A9 l.length).map (AB l)=l:=by
 refine Yg (by rw [d7,CI]) (fun i b a=>?_);rw [d7,CI] at a;exact Il _ b a
theorem Sd {n:Nat} {by' images:Ne} (c:by'.Nodup) (d:∀ x∈by',0<=x∧x<n) (hi:∀ k:Int,0<=k->k<by'.length->0<=AB images k):FJ (I1 n by' images)+by'.length=n:=by
 have:=T5 (by':=by') (images:=images) (A9 by'.length) (List.replicate n (-1)) (by rw [V0]; exact c) (fun k a=>by
  have a:=E7.1 a;have b:=d _ (AW a.1 a.2);refine ⟨by simpa using b,?_,hi k a.1 a.2⟩;have:AB (List.replicate n (-1:Int)) (AB by' k)∈List.replicate n (-1:Int):=AW b.1 (by simpa using b.2);rw [List.mem_replicate] at this;omega)
 rw [ai,CI] at this;exact this
def cF (p:Pattern) (c:AA):Prop:=14 ^ (c.Pattern.Graph.Nodes.length - p.Graph.Nodes.length)*18 ^ (c.Pattern.Graph.Edges.length - p.Graph.Edges.length)<=5000
theorem Yp {t:AD} {h:A0} {inj:Bool} {p:Pattern} {c:AA} {m:AG} (hv:(BM t).2=0) (u:J2 t h) (f:RP t p h m) (hi:YW t p c) (v:cF p c) (n1:h.Graph.Nodes.length<=14) (n2:h.Graph.Edges.length<=18):(G0 t c h m inj).2=0:=by
 have a:=hi.inj;unfold Lc at a;rw [zzZ,Mf,Mf] at a;have m1:=hi.map.nlen;have E:=hi.map.elen;have F:=f.m.nlen;have G:=f.m.elen;have H:=Sd (n:=c.Pattern.Graph.Nodes.length) (images:=m.Morphism.Nodes) a.1 (fun x b=>by obtain ⟨i,o,r,rfl⟩:=EB b; exact (hi.map.node i o r).1) (fun k j l=>(f.m.node k j (by omega)).1.1);have I:=Sd (n:=c.Pattern.Graph.Edges.length) (images:=m.Morphism.Edges) a.2 (fun x b=>by obtain ⟨i,o,r,rfl⟩:=EB b; exact (hi.map.edge i o r).1) (fun k j l=>(f.m.edge k j (by omega)).1);have B:∀ d:Morphism,d.Nodes.length=c.Pattern.Graph.Nodes.length->d.Edges.length=c.Pattern.Graph.Edges.length->(∀ x∈d.Nodes,-1<=x∧x<h.Graph.Nodes.length)->(∀ x∈d.Edges,-1<=x∧x<h.Graph.Edges.length)->FJ d.Nodes=c.Pattern.Graph.Nodes.length - p.Graph.Nodes.length->FJ d.Edges=c.Pattern.Graph.Edges.length - p.Graph.Edges.length->(NL t c.Pattern.Graph h.Graph d inj).2=0:=by
  intro d l1 l2 w y z A;unfold NL;rw [d2,d2 (by omega),d2,d2,d2]
  ·have:=WI (t:=t) (g:=h.Graph) (inj:=inj) l1 l2;rw [z,A] at this;have l:h.Graph.Nodes.length ^ (c.Pattern.Graph.Nodes.length - p.Graph.Nodes.length)<=14 ^ (c.Pattern.Graph.Nodes.length - p.Graph.Nodes.length):=Nat.pow_le_pow_left n1 _;have C:h.Graph.Edges.length ^ (c.Pattern.Graph.Edges.length - p.Graph.Edges.length)<=18 ^ (c.Pattern.Graph.Edges.length - p.Graph.Edges.length):=Nat.pow_le_pow_left n2 _;have J:=Nat.mul_le_mul l C;unfold cF at v;omega
  ·unfold Mv;rw [d2]
   ·simp
   ·rw [List.any_eq_true];rintro ⟨x,b,e⟩;have:=y x b;unfold Nu at e;rw [Bool.or_eq_true,zzX,zzX] at e;omega
  ·unfold Mv;rw [d2]
   ·simp
   ·rw [List.any_eq_true];rintro ⟨x,b,e⟩;have:=w x b;unfold Nu at e;rw [Bool.or_eq_true,zzX,zzX] at e;omega
  ·unfold GI;rw [d2 (by simp [hv]),d2 (by simp [hi.q.ge]),d2 (by simp [u.ge]),d1 (by rw [hi.q.ty,u.ty]; rfl)];simp
 have D:=B ⟨I1 c.Pattern.Graph.Nodes.length c.Map.Nodes m.Morphism.Nodes,I1 c.Pattern.Graph.Edges.length c.Map.Edges m.Morphism.Edges⟩ (Sr _ _ _) (Sr _ _ _) (fun x b=>by
  rcases Ss b with e | ⟨k,s,e⟩
  ·omega
  ·have:=(f.m.node k s.1 (by omega)).1; omega) (fun x b=>by
  rcases Ss b with e | ⟨k,s,e⟩
  ·omega
  ·have:=f.m.edge k s.1 (by omega); omega) (by show FJ (I1 _ _ _)=_; omega) (by show FJ (I1 _ _ _)=_; omega)
 unfold G0;dsimp only;rw [d2 (by rw [D]; simp)]
end Go.Sf.Sc
namespace Go.Sf.Sc
open Go Go.Sf
def PY (t:AD) (p:Pattern) (c:AA):Int:=
 if c.Pattern.Vars<p.Vars then 20 else if Ld t c.Pattern p.Vars≠0 then Ld t c.Pattern p.Vars else
 if Lf p.Graph c.Pattern.Graph c.Map≠0 then Lf p.Graph c.Pattern.Graph c.Map else if Lc c.Map=false then 1 else 0
inductive CG (t:AD):Pattern->AA->Prop where
 | mk (p:Pattern) (c:AA) (ex:c.Kind=5->PY t p c=0∧cF p c) (kids:∀ k∈c.Kids,CG t (if c.Kind=5 then c.Pattern else p) k):CG t p c
theorem CG.ex {t:AD} {p:Pattern} {c:AA} (h:CG t p c):c.Kind=5->PY t p c=0∧cF p c:=by cases h; assumption
theorem CG.kids {t:AD} {p:Pattern} {c:AA} (h:CG t p c):∀ k∈c.Kids,CG t (if c.Kind=5 then c.Pattern else p) k:=by cases h; assumption
theorem CG.kid {t:AD} {p:Pattern} {c:AA} (h:CG t p c) (a:¬ c.Kind=5):∀ k∈c.Kids,CG t p k:=fun k b=>by have:=h.kids k b; rwa [d2 a] at this
theorem CG.kid5 {t:AD} {p:Pattern} {c:AA} (h:CG t p c) (a:c.Kind=5):∀ k∈c.Kids,CG t c.Pattern k:=fun k b=>by have:=h.kids k b; rwa [d1 a] at this
theorem dw (t:AD) (p:Pattern) (c:AA) (N:Nat):GO (N+1) t p c=if c.Kind=5∧PY t p c≠0 then PY t p c else (fst (fun i=>nz (GO N t (if c.Kind=5 then c.Pattern else p) (AB c.Kids i))) 0 c.Kids.length).getD 0:=by
 rw [GO];by_cases a:c.Kind=5
 ·rw [d1 a,d1 a];unfold PY;by_cases e:c.Pattern.Vars<p.Vars
  ·rw [d1 e,d1 e,d1 ⟨a,by decide⟩]
  rw [d2 e,d2 e];by_cases b:Ld t c.Pattern p.Vars≠0
  ·rw [d1 b,d1 b,d1 ⟨a,b⟩]
  rw [d2 b,d2 b];by_cases d:Lf p.Graph c.Pattern.Graph c.Map≠0
  ·rw [d1 d,d1 d,d1 ⟨a,d⟩]
  rw [d2 d,d2 d];by_cases f:Lc c.Map=false
  ·rw [d1 f,d1 f,d1 ⟨a,by decide⟩]
  rw [d2 f,d2 f,d2 (by simp)]
 ·rw [d2 a,d2 a,d2 (by simp [a])]
theorem TG {a:Nat} (c:a<=18) (d:1<=a) {s:Nat}:∀ k:Nat,(∀ j,j<=k->a ^ j*s<=18 ^ 6)->Lg a k s=((a ^ k*s:Nat):Int)
 | 0,_=>by simp [Lg]
 | k+1,h=>by
  have e:=TG c d (s:=s) k fun j g=>h j (by omega);have b:=h (k+1) (d3 _);rw [Lg,e];have f:((a ^ k*s:Nat):Int)*(a:Int)=((a ^ (k+1)*s:Nat):Int):=by
   rw [Nat.pow_succ]; push_cast; rw [Int.mul_right_comm]
  rw [f,BD (by omega) (by
   have:((18:Nat) ^ 6)=34012224:=by decide
   omega)]
theorem fw {p q:Pattern} (h:Lg 18 (max (p.Graph.Edges.length:Int) q.Graph.Edges.length - p.Graph.Edges.length).toNat (Lg 14 (max (p.Graph.Nodes.length:Int) q.Graph.Nodes.length - p.Graph.Nodes.length).toNat 1)<=5000) (o:q.Graph.Nodes.length+q.Graph.Edges.length<=6) :
  14 ^ (q.Graph.Nodes.length - p.Graph.Nodes.length)*18 ^ (q.Graph.Edges.length - p.Graph.Edges.length)<=5000:=by
 have d:(max (p.Graph.Edges.length:Int) q.Graph.Edges.length - p.Graph.Edges.length).toNat=q.Graph.Edges.length - p.Graph.Edges.length:=by omega
 have e:(max (p.Graph.Nodes.length:Int) q.Graph.Nodes.length - p.Graph.Nodes.length).toNat=q.Graph.Nodes.length - p.Graph.Nodes.length:=by omega
 rw [d,e] at h;generalize r:q.Graph.Edges.length - p.Graph.Edges.length=j at *;generalize u:q.Graph.Nodes.length - p.Graph.Nodes.length=k at *;have f:k+j<=6:=by omega
 have g:∀ i,i<=k->14 ^ i*1<=18 ^ 6:=fun i hi=>by
  rw [Nat.mul_one];exact Nat.le_trans (Nat.pow_le_pow_left (by omega) i) (Nat.pow_le_pow_right (by omega) (by omega))
 have l:∀ i,i<=j->18 ^ i*(14 ^ k*1)<=18 ^ 6:=fun i hi=>by
  rw [Nat.mul_one];refine Nat.le_trans (Nat.mul_le_mul_left _ (Nat.pow_le_pow_left (by omega:14<=18) k)) ?_;rw [←Nat.pow_add];exact Nat.pow_le_pow_right (by omega) (by omega)
 have m1:=TG (a:=14) (by omega) (by omega) (s:=1) k g;have n:=TG (a:=18) (by omega) (by omega) (s:=14 ^ k*1) j l;have b:Lg 14 k 1=((14 ^ k*1:Nat):Int):=m1;have c:Lg 18 j ((14 ^ k*1:Nat):Int)=((18 ^ j*(14 ^ k*1):Nat):Int):=n;rw [b,c,Nat.mul_one,Nat.mul_comm] at h;omega
theorem cL {t:AD}:∀ (N:Nat) {p:Pattern} {c:AA},SizeOf.sizeOf c<=N->(∀ M,M=N->GO M t p c=0)->LA 14 18 N p c=true->Kw N c=true->EF c->CG t p c
 | 0,_,c,h,_,_,_,_=>by have:=EQ c; omega
 | N+1,p,c,h,ho,a,g,r=>by
  have ho:=ho _ rfl;rw [dw] at ho;rw [LA] at a;rw [Kw] at g;generalize l:(if c.Kind=5 then c.Pattern else p)=q at a
  try dsimp only at a
  split at a
  ·cases a
  rename_i d;split at g
  ·cases g
  rename_i e;rw [zzX] at a g;rw [Bool.not_eq_true,EK] at d e;have v:=r.q.nodes;have w:=r.q.edges;rw [BD (by omega) (by omega)] at g;have f:(fst (fun i=>nz (GO N t (if c.Kind=5 then c.Pattern else p) (AB c.Kids i))) 0 c.Kids.length).getD 0=0:=by
   by_cases b:c.Kind=5∧PY t p c≠0
   ·rw [d1 b] at ho; exact absurd ho b.2
   ·rwa [d2 b] at ho
  refine .mk p c (fun s=>⟨?_,?_⟩) (fun k j=>?_)
  ·by_cases b:PY t p c≠0
   ·rw [d1 ⟨s,b⟩] at ho; exact ho
   ·exact Classical.not_not.1 b
  ·rw [d1 s] at l;subst l;exact fw a (by omega)
  ·have x:=FL j;obtain ⟨i,n,o,rfl⟩:=EB j;refine cL N (by omega) (fun M u=>by subst u; exact SR f i n o) ?_ ?_ (r.k _ j)
   ·have:=d i n o;rw [l];simpa using this
   ·have:=e i n o;simpa using this
mutual
def OH (t:AD) (h:A0) (inj:Bool):AA->AG->Bool
 | ⟨k,kids,mp,p⟩,m=>
  if k=2 then !((Rk t h inj kids).headD fun _=>true) m else
  if k=3 then (Rk t h inj kids).all fun f=>f m else
  if k=4 then (Rk t h inj kids).any fun f=>f m else
  if k=5 then (G0 t ⟨k,kids,mp,p⟩ h m inj).1.any ((Rk t h inj kids).headD fun _=>true) else true
def Rk (t:AD) (h:A0) (inj:Bool):List AA->List (AG->Bool)
 | []=>[]
 | c::l=>OH t h inj c::Rk t h inj l
end
theorem Ux (t:AD) (h:A0) (inj:Bool):∀ l,Rk t h inj l=l.map (OH t h inj)
 | []=>rfl
 | c::l=>by rw [Rk,Ux t h inj l]; rfl
theorem SF (t:AD) (h:A0) (inj:Bool) (c:AA) (m:AG):OH t h inj c m =
  if c.Kind=2 then !((c.Kids.map (OH t h inj)).headD fun _=>true) m else
  if c.Kind=3 then c.Kids.all fun k=>OH t h inj k m else
  if c.Kind=4 then c.Kids.any fun k=>OH t h inj k m else
  if c.Kind=5 then (G0 t c h m inj).1.any ((c.Kids.map (OH t h inj)).headD fun _=>true) else true:=by
 cases c;rw [OH,Ux,List.all_map,List.any_map];rfl
theorem PX {α:Type} [Inhabited α] {β:Type} {l:List α} {f:α->β} {d:β} (h:l.length=1):(l.map f).headD d=f (AB l 0):=by
 obtain ⟨x,rfl⟩:=List.length_eq_one_iff.1 h;rfl
theorem Wn {w:Int->BQ × Int} {d:Int->Bool} {F:Int->Option (BQ × Int)} {n:Int} (f:∀ i,0<=i->i<n->(w i).2=if d i=true then 0 else 10)
  (g:∀ i,0<=i->i<n->((F i).map (·.2))=if (w i).2=0 then some 0 else if (w i).2≠10 then some (w i).2 else none):((fst F 0 n).getD (zP,10)).2=if anyR d 0 n=true then 0 else 10:=by
 cases j:fst F 0 n with
 | none=>
  have l:=CZ.1 j;rw [d2]
  ·rfl
  ·rw [Bool.not_eq_true,EK];intro i b c;have a:=g i b c;rw [l i b c,f i b c] at a;cases e:d i
   ·rfl
   ·rw [e] at a; simp at a
 | some r=>
  obtain ⟨i,b,c,k,_⟩:=DJ j;have a:=g i b c;rw [k,f i b c] at a;cases e:d i
  ·rw [e] at a; simp at a
  ·rw [e] at a;rw [d1 (by rw [H6]; exact ⟨i,b,c,e⟩)];simpa using a
theorem Uo {w:AA->BQ × Int} {d:AA->Bool}:∀ (l:List AA) (s:BQ × BQ),(∀ k∈l,(w k).2=if d k=true then 0 else 10)->(match HI (Rd w) l s with | .inl s=>(s.2,(0:Int)) | .inr r=>r).2=if l.all d=true then 0 else 10
 | [],s,_=>rfl
 | k::l,s,h=>by
  have a:=h k (by simp);rw [HI];unfold Rd;rw [List.all_cons];cases b:d k
  ·rw [b] at a;rw [d1 (by rw [a]; decide)];simpa using a
  ·rw [b] at a;rw [d2 (by rw [a]; decide),Bool.true_and];exact Uo l _ fun k a=>h k (by simp [a])
theorem XN {t:AD} {h:A0} {inj:Bool} (hv:(BM t).2=0) (u:J2 t h) (n1:h.Graph.Nodes.length<=14) (n2:h.Graph.Edges.length<=18):∀ (N:Nat) (c:AA) (p:Pattern) (m:AG),SizeOf.sizeOf c<=N->CV t p c->CG t p c->RP t p h m->(D1 t h inj N c m).2=if OH t h inj c m=true then 0 else 10
 | 0,c,_,_,h,_,_,_=>by have:=EQ c; omega
 | N+1,c,p,m,B,d,n,o=>by
  have kid:∀ k∈c.Kids,SizeOf.sizeOf k<=N:=fun k a=>by have:=FL a; omega
  have q:=XN hv u n1 n2 (inj:=inj) N;rw [D1,SF];by_cases j:c.Kind=2
  ·have v:=d.one (.inl j);rw [d1 j,d1 j,PX v];have a:=AW (l:=c.Kids) (i:=0) (by omega) (by omega);have e:=q _ p m (kid _ a) (d.kid (by omega) _ a) (n.kid (by omega) _ a) o;cases x:OH t h inj (AB c.Kids 0) m
   ·rw [x] at e;rw [d2 (by rw [e]; decide),d1 (by rw [e]; rfl)]; rfl
   ·rw [x] at e;rw [d1 (by rw [e]; rfl)]; rfl
  rw [d2 j,d2 j];by_cases r:c.Kind=3
  ·rw [d1 r,d1 r];exact Uo c.Kids (zP,zP) fun k a=>q k p m (kid k a) (d.kid (by omega) k a) (n.kid (by omega) k a) o
  rw [d2 r,d2 r];by_cases s:c.Kind=4
  ·rw [d1 s,d1 s,J4];refine Wn (w:=fun i=>D1 t h inj N (AB c.Kids i) m) (fun i f g=>?_) (fun i f g=>?_)
   ·have a:=AW f g;exact q _ p m (kid _ a) (d.kid (by omega) _ a) (n.kid (by omega) _ a) o
   ·try dsimp only
    split
    ·rfl
    ·split <;> rfl
  rw [d2 s,d2 s];by_cases b:c.Kind=5
  ·rw [d1 b,d1 b];have hi:=d.ins b;have v:=d.one (.inr b);have y:=Yp (inj:=inj) hv u o hi (n.ex b).2 n1 n2;obtain ⟨A,z⟩:=Wi hv u o hi y;have a:=AW (l:=c.Kids) (i:=0) (by omega) (by omega);rw [d2 (by simp [y]),PX v,J4];refine Wn (w:=fun i=>D1 t h inj N (AB c.Kids 0) (AB (G0 t c h m inj).1 i)) (fun i f g=>?_) (fun i f g=>?_)
   ·exact q _ c.Pattern _ (kid _ a) (d.kid5 b _ a) (n.kid5 b _ a) (z _ (AW f g))
   ·try dsimp only
    split
    ·rfl
    ·split <;> rfl
  rw [d2 b,d2 b]; rfl
end Go.Sf.Sc
namespace Go.Sf.Sc
open Go Go.Sf
section
variable (t:AD) (h:A0) (inj:Bool) (m:AG)
end
end Go.Sf.Sc
namespace Go.Sf.Sc
open Go Go.Sf
def U8 (x:Int):Prop:=0<=x∧x<256
theorem U8.w {x:Int} (h:U8 x):A6 x=x:=BD (by have:=h.1; omega) (by have:=h.2; omega)
structure XR (n:CP) (i:Int):Prop where
 name:n.Name.size<=40
 par:-1<=n.Parent∧n.Parent<i
 attrs:n.Attrs.length<=1
 each:∀ a∈n.Attrs,QY a
structure UX (t:AD) (i:Int):Prop where
 len:(t.Nodes.length:Int)=i
 node:∀ k:Int,0<=k->k<i->XR (AB t.Nodes k) k
theorem UX.app {t:AD} {i:Int} (h:UX t i) {n:CP} (b:XR n i):UX ⟨t.Nodes++[n],t.Edges⟩ (i+1):=by
 refine ⟨by simp [←h.len],fun k a c=>?_⟩;have d:=h.len;by_cases e:k=i
 ·subst e;rw [show AB (t.Nodes++[n]) k=n from S9 _ _ (by omega)];exact b
 ·rw [show AB (t.Nodes++[n]) k=AB t.Nodes k from Qa _ _ a (by omega)];exact h.node k a (by omega)
structure RB (t:AD):Prop where
 n:UX t t.Nodes.length
 pos:0<t.Nodes.length
 nodes:t.Nodes.length<=6
 edges:t.Edges.length<=5
 edge:∀ e∈t.Edges,e.Name.size<=40∧(0<=e.From∧e.From<t.Nodes.length)∧0<=e.To∧e.To<t.Nodes.length
theorem RB.few {t:AD} (h:RB t):CC t:=by
 have a:∀ n∈t.Nodes,∃ i,XR n i:=fun n a=>by
  obtain ⟨i,d,f,rfl⟩:=EB a;exact ⟨i,h.n.node i d f⟩
 refine ⟨by have:=h.nodes; omega,by have:=h.edges; omega,fun n b=>?_,fun n b=>?_,fun n b=>?_,fun e c=>?_⟩
 ·obtain ⟨i,k⟩:=a n b; have:=k.name; omega
 ·obtain ⟨i,k⟩:=a n b; have:=k.attrs; omega
 ·obtain ⟨i,k⟩:=a n b; exact k.each
 ·have:=(h.edge e c).1; omega
theorem RB.par {t:AD} (h:RB t):GN t t.Nodes.length:=fun i a b=>(h.n.node i a b).par
theorem RB.below {t:AD} (h:RB t) {a b:Int} (e:0<=a) (c:a<t.Nodes.length) (d:0<=b):∃ r,Kk t a b=some r:=
 ⟨_,GJ (a+2).toNat fun n f=>Rx h.par d n (a+1).toNat a (by omega) c (by omega) (by omega)⟩
end Go.Sf.Sc
namespace Go.Sf.Sc
open Go Go.Sf
structure ru (t:AD) (g:Graph):Prop where
 nodes:g.Nodes.length<=8
 edges:g.Edges.length<=10
 kind:∀ n∈g.Nodes,0<=n∧n<t.Nodes.length
structure iv (p:Pattern):Prop where
 nodes:p.Graph.Nodes.length<=8
 edges:p.Graph.Edges.length<=10
 slots:p.Slots.length<=4
 tests:p.Tests.length<=3
 vars:0<=p.Vars∧p.Vars<=3
end Go.Sf.Sc
namespace Go.Sf.Sc
open Go Go.Sf
structure Nn (t:AD) (p:Pattern) (h:A0) (inj:Bool) (m:AG):Prop where
 chk:KK t p.Graph h.Graph m.Morphism inj=0
 solve:MP p h m.Morphism=(m.Vars,0)
end Go.Sf.Sc
namespace Go.Sf.Sc
open Go Go.Sf
structure ry (p q:Pattern):Prop where
 nodes:q.Graph.Nodes.length<=p.Graph.Nodes.length+1
 edges:q.Graph.Edges.length<=p.Graph.Edges.length+1
 slots:q.Slots.length<=1
 tests:q.Tests.length<=1
 vars:0<=q.Vars∧q.Vars<=20
end Go.Sf.Sc
namespace Go.Sf.Sc
open Go Go.Sf
structure vQ (p:Pattern) (depth:Int):Prop where
 d:0<=depth∧depth<=2
 nodes:(p.Graph.Nodes.length:Int)+depth<=20
 edges:(p.Graph.Edges.length:Int)+depth<=20
 vars:0<=p.Vars∧p.Vars<=20
end Go.Sf.Sc
namespace Go.Sf.Sc
open Go Go.Sf
theorem Ky {α:Type} {e:α->TV} {n:Nat} {l:List α} (h:l.length<=1000) (a:∀ x∈l,(e x).Sm):TV.Sm (eL n e l):=by
 show TV.Sm (.list n (l.map e));simp only [TV.Sm,d7];refine ⟨by unfold reachBytes; omega,O2.2 fun t b=>?_⟩;obtain ⟨x,c,rfl⟩:=List.mem_map.1 b;exact a x c
theorem TP {l:Ne} (h:l.length<=1000):TV.Sm (eL 1 eI l):=Ky h fun _ _=>trivial
theorem S2 {s:ByteArray} (h:(s.size:Int)<=1000):TV.Sm (eS s):=by
 show TV.Sm (.str s);simp only [TV.Sm];unfold reachBytes; omega
theorem bS {t:AD} (h:CC t):(At t).Sm:=by
 have g:=h.nodes;have i:=h.edges;refine ⟨Ky (by omega) fun n c=>?_,Ky (by omega) fun e d=>?_,trivial⟩
 ·have:=h.name n c;have:=h.attrs n c;refine ⟨S2 (by omega),trivial,trivial,Ky (by omega) fun a b=>?_,trivial⟩;have b:=h.each n c a b;have:=b.name;have:=b.names;exact ⟨S2 (by omega),trivial,trivial,Ky (by omega) fun x f=>S2 (by have:=b.each x f; omega),trivial⟩
 ·have:=h.ename e d;exact ⟨S2 (by omega),trivial,trivial,trivial,trivial,trivial,trivial,trivial⟩
theorem XA:∀ (N:Nat) (c:AA),SizeOf.sizeOf c<=N->EF c->cnt c<=1000->(AF c).Sm
 | 0,c,h,_,_=>by have:=EQ c; omega
 | N+1,c,h,a,o=>by
  have d:=a.q.nodes;have e:=a.q.edges;have f:=a.q.slots;have g:=a.q.tests;have m1:=a.m.nodes;have i:=a.m.edges;have j:=Nv c;have l:=Qi c.Kids;refine ⟨trivial,?_,TP (by omega),TP (by omega),TP (by omega),Ky (by omega) fun _ _=>⟨trivial,trivial,trivial,trivial⟩,Ky (by omega) fun _ _=>⟨trivial,trivial,trivial,trivial,trivial⟩,trivial,Ky (by omega) fun _ _=>⟨trivial,trivial,trivial,trivial,trivial,trivial⟩,trivial⟩;rw [KN];refine Ky (n:=9) (by omega) fun k b=>?_;have:=FL b;have:=Rj b;exact XA N k (by omega) (a.k k b) (by omega)
structure R4 (p:Pattern) (c:AA) (h:A0):Prop where
 few:EF c
 cnt:cnt c<=40
 q:O8 p
 bound:LA 14 18 (SizeOf.sizeOf c) p c=true
 narrow:Kw (SizeOf.sizeOf c) c=true
 nodes:h.Graph.Nodes.length<=6
 edges:h.Graph.Edges.length<=8
theorem af {t:AD} (e:CC t) {p:Pattern} {c:AA} (d:EF c) (k:cnt c<=1000) (l:HK t p c=0) (h:A0):∃ b,E8 t p c h=some b∧(b=true->R4 p c h):=by
 obtain ⟨o,q,r⟩:=Tf (XA _ c (d3 _) d k);obtain ⟨s,i,u⟩:=TD p;obtain ⟨v,j⟩:=U2 h;unfold E8;rw [q,bs];cases o
 ·exact ⟨false,rfl,fun h=>by cases h⟩
 rw [i];cases s
 ·exact ⟨false,rfl,fun h=>by cases h⟩
 rw [j];cases v
 ·exact ⟨false,rfl,fun h=>by cases h⟩
 have f:=r rfl;have g:=u rfl;simp only [bs,Bool.not_true,Bool.false_eq_true,if_false];rw [ZJ e p d,bs,d2 (by simp [l])];obtain ⟨w,x⟩:=UB e (bS e) p.Graph h.Graph;unfold LM;rw [i,j,x,Ve,UA 14 18 d g];simp only [bs,if_true];cases w
 ·simp only [Bool.false_eq_true,if_false,bs,Bool.false_and];exact ⟨_,rfl,fun h=>by cases h⟩
 simp only [if_true,bs];split
 ·rename_i a;rw [bs,bs];refine ⟨_,rfl,fun n=>?_⟩;rw [zzZ,zzZ,zzX,zzX] at a;exact ⟨d,f.2,g,n,a.1.1,by omega,by omega⟩
 ·exact ⟨_,rfl,fun h=>by cases h⟩
end Go.Sf.Sc
namespace Go.Sf.Sc
open Go Go.Sf
structure rx (t:AD) (p:Pattern) (c:AA) (h:A0) (l:List AG) (inj:Bool):Prop where
 few:CC t
 hv:(BM t).2=0
 pat:iv p
 cond:HK t p c=0
 ph:MH t p h=0
 each:∀ m∈l,Nn t p h inj m
 len:l.length<=30
 light:R4 p c h
theorem Ta {t:AD} {p:Pattern} {c:AA} (h:HK t p c=0):Ja t p=0∧Ko c=0∧GO (SizeOf.sizeOf c) t p c=0:=by
 unfold HK at h;split at h
 ·rename_i k; exact absurd h k
 rename_i a;split at h
 ·rename_i k; exact absurd h k
 rename_i b;exact ⟨Classical.not_not.1 a,Classical.not_not.1 b,h⟩
theorem ae {t:AD} {p:Pattern} {c:AA} {h:A0} (a:R4 p c h) (b:HK t p c=0):CG t p c:=
 cL _ (d3 _) (fun M d=>by rw [d]; exact (Ta b).2.2) a.bound a.narrow a.few
end Go.Sf.Sc
namespace Go.Sf.Sc
open Go Go.Sf
end Go.Sf.Sc
namespace Go.Sf.Sc
open Go Go.Sf
def wj (kd:Int) (a b:AA):AA:=⟨kd,[a,b],⟨[],[]⟩,⟨⟨[],[]⟩,[],0,[]⟩⟩
end Go.Sf.Sc
namespace Go.Sf.Sc
open Go Go.Sf
theorem eJ {n:Nat} {by' images:Ne} (k:∀ x∈by',0<=x∧x<n) (o:by'.length<=images.length) (l:Ne):forA (fun (c:Int) (e:Morphism)=>
  (AK by' c).bind fun d=>
  (AK images c).bind fun f=>
  (AK e.Nodes d).bind fun _=>
  some (Morphism.mk (CU e.Nodes d f) e.Edges)) 0 (by'.length:Int) ⟨List.replicate n (-1),l⟩=some ⟨I1 n by' images,l⟩:=by
 rw [EY (a:=0) (b:=by'.length) (s:=⟨List.replicate n (-1),l⟩) (fun i=>(⟨(A9 i.toNat).foldl (fun l i=>CU l (AB by' i) (AB images i)) (List.replicate n (-1)),l⟩:Morphism)) (by omega) rfl,Int.toNat_natCast]
 ·rfl
 intro i c g;have j:=k _ (AW c g);rw [AL c g,bs,AL c (by omega),bs,AL j.1 (by rw [M5]; simpa using j.2),bs,ID c,List.foldl_append]; rfl
theorem eH {n:Nat} {by' images:Ne} (k:∀ x∈by',0<=x∧x<n) (o:by'.length<=images.length) (l:Ne):forA (fun (c:Int) (e:Morphism)=>
  (AK by' c).bind fun d=>
  (AK images c).bind fun f=>
  (AK e.Edges d).bind fun _=>
  some (Morphism.mk e.Nodes (CU e.Edges d f))) 0 (by'.length:Int) ⟨l,List.replicate n (-1)⟩=some ⟨l,I1 n by' images⟩:=by
 rw [EY (a:=0) (b:=by'.length) (s:=⟨l,List.replicate n (-1)⟩) (fun i=>(⟨l,(A9 i.toNat).foldl (fun l i=>CU l (AB by' i) (AB images i)) (List.replicate n (-1))⟩:Morphism)) (by omega) rfl,Int.toNat_natCast]
 ·rfl
 intro i c g;have j:=k _ (AW c g);rw [AL c g,bs,AL c (by omega),bs,AL j.1 (by rw [M5]; simpa using j.2),bs,ID c,List.foldl_append]; rfl
end Go.Sf.Sc
namespace Go.Sf.Sc
open Go Go.Sf
end Go.Sf.Sc
namespace Go.Sf.Sc
open Go Go.Sf
theorem ZS {n:Nat} (a:n<=1000):DN [-1] (n:Int)=some (List.replicate n (-1)):=by
 unfold DN;rw [d1 ⟨rfl,by omega,by omega⟩];show some (List.replicate (n:Int).toNat (-1))=_;rw [Int.toNat_natCast]
end Go.Sf.Sc
