/- Steps of the pure language with typed values: one rule an operation, one a piece of code, one a kind of loop. -/
import Derived.Test.YtlbmpkmkmkgniaaGreatDoorSfSem
namespace Go.Sf
abbrev A8 (n:Int):Int:=IntKind.i64.wrap n
def AL {α:Type} (l:List α) (j:Int):Option α:=if 0<=j then l[j.toNat]? else none
def slc {α:Type} (l:List α) (a b:Int):Option (List α):=if (0<=a∧a<=b)∧b<=l.length then some ((l.take b.toNat).drop a.toNat) else none
def sslc (s:ByteArray) (a b:Int):Option ByteArray:=if 0<=a∧a<=b∧b<=s.size then some (s.extract a.toNat b.toNat) else none
def sidx (s:ByteArray) (j:Int):Option Int:=if 0<=j then (s[j.toNat]?).map (fun b=>(b.toNat:Int)) else none
def CX {α:Type} (l m:List α):Option (List α):=if l.length+m.length<=B9 then some (l++m) else none
def quo (a b:Int):Option Int:=if b=0 then none else some (a.tdiv b)
def aw (a b:Int):Option Int:=if b=0 then none else some (a.tmod b)
inductive CY (σ ρ:Type) where
 | next (s:σ)
 | brk (s:σ)
 | ret (r:ρ)
section loops
variable {σ ρ:Type}
def forGo (f:Int->σ->Option (CY σ ρ)):Nat->Int->σ->Option (σ ⊕ ρ)
 | 0,_,s=>some (.inl s)
 | n+1,i,s=>match f i s with
  | none=>none
  | some (.next s')=>forGo f n (i+1) s'
  | some (.brk s')=>some (.inl s')
  | some (.ret r)=>some (.inr r)
def forR (f:Int->σ->Option (CY σ ρ)) (a b:Int) (s:σ):Option (σ ⊕ ρ):=forGo f (b - a).toNat a s
def forAGo (f:Int->σ->Option σ):Nat->Int->σ->Option σ
 | 0,_,s=>some s
 | n+1,i,s=>match f i s with
  | none=>none
  | some s'=>forAGo f n (i+1) s'
def forA (f:Int->σ->Option σ) (a b:Int) (s:σ):Option σ:=forAGo f (b - a).toNat a s
def N4 (f:σ->Option (CY σ ρ)):Nat->σ->Option (σ ⊕ ρ)
 | 0,_=>none
 | n+1,s=>match f s with
  | none=>none
  | some (.next s')=>N4 f n s'
  | some (.brk s')=>some (.inl s')
  | some (.ret r)=>some (.inr r)
end loops
class Ev where
 fuel:Option Nat
instance BX:Ev:=⟨none⟩
open Classical in
noncomputable def UQ {α:Type} (g:Nat->Option α):Option α:=if h:∃ v N,∀ n,N<=n->g n=some v then some h.choose else none
noncomputable def Hn [e:Ev] {α:Type} (g:Nat->Option α):Option α:=match e.fuel with
 | none=>UQ g
 | some n=>g n
theorem CO {α:Type} {g:Nat->Option α} {v:α} (h:Hn g=some v):∃ N,∀ n,N<=n->g n=some v:=by
 change UQ g=some v at h
 unfold UQ at h
 split at h
 ·rename_i hx
  cases h
  exact hx.choose_spec
 ·cases h
theorem GY {α:Type} {g:Nat->Option α} {v:α} (N:Nat) (h:∀ n,N<=n->g n=some v):Hn g=some v:=by
 have hx:∃ v N,∀ n,N<=n->g n=some v:=⟨v,N,h⟩
 show UQ g=some v
 unfold UQ
 rw [dif_pos hx]
 obtain ⟨M,hM⟩:=hx.choose_spec
 have h1:=h (max N M) (Nat.le_max_left _ _)
 have h2:=hM (max N M) (Nat.le_max_right _ _)
 rw [h1] at h2
 exact h2.symm
noncomputable def JB [Ev] {σ ρ:Type} (f:σ->Option (CY σ ρ)) (s:σ):Option (σ ⊕ ρ):=Hn fun n=>N4 f n s
def thenR {σ ρ β:Type} (o:Option (σ ⊕ ρ)) (k:σ->Option β) (kr:ρ->Option β):Option β:=
 match o with
 | none=>none
 | some (.inl s)=>k s
 | some (.inr v)=>kr v
theorem R7 {σ ρ β:Type} {o:Option (σ ⊕ ρ)} {k:σ->Option β} {kr:ρ->Option β} {b:β} (h:thenR o k kr=some b):∃ x,o=some x∧thenR (some x) k kr=some b:=by
 cases o with
 | none=>cases h
 | some x=>exact ⟨x,rfl,h⟩
theorem WD {σ ρ β:Type} {x:σ ⊕ ρ} {k:σ->Option β} {kr:ρ->Option β} {b:β} {s:σ} (h:thenR (some x) k kr=some b) (hx:x=.inl s):k s=some b:=by subst hx; exact h
theorem WE {σ ρ β:Type} {x:σ ⊕ ρ} {k:σ->Option β} {kr:ρ->Option β} {b:β} {v:ρ} (h:thenR (some x) k kr=some b) (hx:x=.inr v):kr v=some b:=by subst hx; exact h
def CB {α:Type} (l:List α) (j:Int) (a:α):List α:=l.set j.toNat a
def KN {α:Type} (j:Int) (a:α):Option (List α):=if 0<=j∧j<=4096 then some (List.replicate j.toNat a) else none
def Lb (a b:ByteArray):Option ByteArray:=if a.size+b.size<=B9 then some (a++b) else none
theorem bind_some {α β:Type} {x:Option α} {f:α->Option β} {b:β} (h:x.bind f=some b):∃ a,x=some a∧f a=some b:=Option.bind_eq_some_iff.1 h
theorem Ti {α:Type} {c:Bool} {a b:α} {r:α} (hc:c=true) (h:(if c=true then a else b)=r):a=r:=by rw [if_pos hc] at h; exact h
theorem Th {α:Type} {c:Bool} {a b:α} {r:α} (hc:c=false) (h:(if c=true then a else b)=r):b=r:=by rw [if_neg (by simp [hc])] at h; exact h
theorem nf {c:Bool} (hc:c=false):(!c)=true:=by rw [hc]; rfl
structure WO (S:FuncId->List TV->CH->Prop) (K:AC->Prop) (os:List PR) (env:AC):Prop where
 of::out:wpOps S K os env
structure WP (S:FuncId->List TV->CH->Prop) (c:PC) (q:Q) (env:AC):Prop where
 of::out:c.wp S q env
section
variable {S:FuncId->List TV->CH->Prop} {K:AC->Prop} {os:List PR} {env:AC} {d:Nat}
theorem PO {x:AJ} {t:TV} (h:x.val env=some t):x.ev env=.tv t∨x.ev env=.ow t:=by
 unfold AJ.val EV.val at h
 split at h <;> simp_all
theorem pM {x:AJ} {t:TV} (h:x.val env=some t) (k:WO S K os ((d,.tv t)::env)):WO S K (⟨some d,.mv x,none⟩::os) env:=by
 replace k:=k.out
 refine ⟨?_⟩
 simp only [wpOps,PR.wp,AH.wp]
 rcases PO h with h | h <;> rw [h] <;> exact k
theorem pO {s:Nat} {t:TV} (h:env.get s=.ow t) (k:WO S K os ((d,.ow t)::(s,.tv t)::env)):WO S K (⟨some d,.tk s,none⟩::os) env:=by
 replace k:=k.out
 refine ⟨?_⟩
 simp only [wpOps,PR.wp,AH.wp,h]; exact k
theorem nC {s:Nat} {t:TV} (h:env.get s=.tv t) (k:WO S K os ((d,.tv t)::env)):WO S K (⟨some d,.tk s,none⟩::os) env:=by
 replace k:=k.out
 refine ⟨?_⟩
 simp only [wpOps,PR.wp,AH.wp,h]; exact k
theorem fU {n:Nat} (k:WO S K os ((d,.ow (.list n []))::env)):WO S K (⟨some d,.nilo n,none⟩::os) env:=by
 replace k:=k.out
 refine ⟨?_⟩
 simp only [wpOps,PR.wp,AH.wp]; exact k
theorem mb {x:AJ} {j:Nat} {row:List TV} (h:x.ev env=.tv (.pt row)) (k:WO S K os ((d,.tv (.pt (row.drop j)))::env)):WO S K (⟨some d,.fad x j,none⟩::os) env:=by
 replace k:=k.out
 refine ⟨?_⟩
 simp only [wpOps,PR.wp,AH.wp,h]; exact k
theorem fQ {x:AJ} {j s off:Nat} {cs:List AU} (h:x.ev env=.bp s off) (h2:env.get s=.bx cs) (k:WO S K os ((d,.bp s (off+j))::env)):WO S K (⟨some d,.fad x j,none⟩::os) env:=by
 replace k:=k.out
 refine ⟨?_⟩
 simp only [wpOps,PR.wp,AH.wp,h,h2]; exact k
theorem fI {s j:Nat} {cs:List AU} (h:env.get s=.bx cs) (k:WO S K os ((d,.bp s j)::env)):WO S K (⟨some d,.bad s j,none⟩::os) env:=by
 replace k:=k.out
 refine ⟨?_⟩
 simp only [wpOps,PR.wp,AH.wp,h]; exact k
theorem mS {s j:Nat} {row:List TV} (h:env.get s=.tv (.pt row)) (k:WO S K os ((d,.tv (.pt (row.drop j)))::env)):WO S K (⟨some d,.bad s j,none⟩::os) env:=by
 replace k:=k.out
 refine ⟨?_⟩
 simp only [wpOps,PR.wp,AH.wp,h]; exact k
theorem mf {α:Type} {n:Nat} {x i:AJ} {es row:List TV} {e:α->TV} {l:List α} {ik:IntKind} {j:Int} {a:α} (hl:x.val env=some (.list n es)) (hi:i.val env=some (.int ik j)) (he:es=l.map e) (hx:AL l j=some a) (hr:(e a).cells=row)
  (k:WO S K os ((d,.tv (.pt row))::env)):WO S K (⟨some d,.iad x i n,none⟩::os) env:=by
 replace k:=k.out
 refine ⟨?_⟩
 subst he hr
 simp only [wpOps,PR.wp,AH.wp,hl,hi]
 unfold AL at hx
 split at hx
 ·rename_i h0
  exact ⟨trivial,h0,e a,by rw [List.getElem?_map,hx]; rfl,k⟩
 ·cases hx
theorem mP {x i:AJ} {n m j':Nat} {row:List TV} {ik:IntKind} {j:Int} (hl:x.ev env=.tv (.pt row)) (hi:i.val env=some (.int ik j)) (h0:0<=j) (h1:j<m) (h2:m*n<=row.length) (hj:j.toNat*n=j')
  (k:WO S K os ((d,.tv (.pt (row.drop j')))::env)):WO S K (⟨some d,.aad x i n m,none⟩::os) env:=by
 replace k:=k.out
 refine ⟨?_⟩
 subst hj
 simp only [wpOps,PR.wp,AH.wp,hl,hi]
 exact ⟨h0,h1,h2,k⟩
theorem fF {x:AJ} {n m:Nat} {row r2:List TV} {ik:IntKind} {j:Int} (hl:x.ev env=.tv (.pt row)) (h0:(decide (0<=j)&&decide (j<m)&&Nat.ble (m*n) row.length)=true) (hr:row.drop (j.toNat*n)=r2)
  (k:WO S K os ((d,.tv (.pt r2))::env)):WO S K (⟨some d,.aad x (.c (.int ik j)) n m,none⟩::os) env:=by
 simp only [zzZ,zzX] at h0
 subst hr
 exact mP hl rfl h0.1.1 h0.1.2 (Nat.le_of_ble_eq_true h0.2) rfl k
theorem pL {x:AJ} {t:TV} {r:List TV} (h:BO env (x.ev env)=some (t::r)) (hx:t.isXl=false) (k:WO S K os ((d,.tv t)::env)):WO S K (⟨some d,.ld x,none⟩::os) env:=by
 replace k:=k.out
 refine ⟨?_⟩
 simp only [wpOps,PR.wp,AH.wp,h,A6,HM]; exact ⟨hx,k⟩
theorem XB {x:AJ} {n:Nat} {t:TV} {cs:List TV} (h:BO env (x.ev env)=some cs) (hn:Nat.ble n cs.length=true) (ht:TV.agg (cs.take n)=t) (k:WO S K os ((d,.tv t)::env)):WO S K (⟨some d,.lda x n,none⟩::os) env:=by
 replace k:=k.out
 refine ⟨?_⟩
 subst ht
 simp only [wpOps,PR.wp,AH.wp,h,A6]; exact ⟨Nat.le_of_ble_eq_true hn,k⟩
theorem a8 {s n:Nat} {t:TV} {cs:List AU} (h:env.get s=.bx cs) (hn:Nat.ble n (cs.map (·.t)).length=true) (ht:TV.agg ((cs.map (·.t)).take n)=t) (k:WO S K os ((d,.tv t)::env)):WO S K (⟨some d,.ldb s n,none⟩::os) env:=by
 replace k:=k.out
 refine ⟨?_⟩
 subst ht
 simp only [wpOps,PR.wp,AH.wp,h]; exact ⟨Nat.le_of_ble_eq_true hn,k⟩
theorem mh {x:AJ} {s off:Nat} {cs:List AU} {t:TV} {n:Nat} {es:List TV} (h:x.place env=some (s,off)) (h2:env.get s=.bx cs) (h3:cs[off]?=some ⟨true,t⟩) {cs':List AU} (h4:cs.set off ⟨false,t⟩=cs') (ht:t=.list n es)
  (k:WO S K os ((d,.ow t)::(s,.bx cs')::env)):WO S K (⟨some d,.ldt x,none⟩::os) env:=by
 replace k:=k.out
 refine ⟨?_⟩
 subst h4 ht
 simp only [wpOps,PR.wp,AH.wp,h,h2,h3]; exact k
section bins
variable {x y:AJ} {ik:IntKind} {a b:Int}
theorem Hl {bk:BK} {op:BinOp} {u v t:TV} (hx:x.val env=some u) (hy:y.val env=some v) (ht:FD bk op u v=some t) (k:WO S K os ((d,.tv t)::env)):WO S K (⟨some d,.bin bk op x y,none⟩::os) env:=by
 replace k:=k.out
 refine ⟨?_⟩
 simp only [wpOps,PR.wp,AH.wp,hx,hy,ht,A6]; exact k
theorem mZ (hx:x.val env=some (.int ik a)) (hy:y.val env=some (.int ik b)) (k:WO S K os ((d,.tv (.bool (decide (a=b))))::env)):WO S K (⟨some d,.bin .i .eql x y,none⟩::os) env:=
 Hl hx hy (by simp [FD,intCmp]) k
theorem my (hx:x.val env=some (.int ik a)) (hy:y.val env=some (.int ik b)) (k:WO S K os ((d,.tv (.bool (!decide (a=b))))::env)):WO S K (⟨some d,.bin .i .neq x y,none⟩::os) env:=
 Hl hx hy (by simp [FD,intCmp]) k
theorem ml (hx:x.val env=some (.int ik a)) (hy:y.val env=some (.int ik b)) (k:WO S K os ((d,.tv (.bool (decide (a<b))))::env)):WO S K (⟨some d,.bin .i .lss x y,none⟩::os) env:=
 Hl hx hy (by simp [FD,intCmp]) k
theorem mj (hx:x.val env=some (.int ik a)) (hy:y.val env=some (.int ik b)) (k:WO S K os ((d,.tv (.bool (decide (a<=b))))::env)):WO S K (⟨some d,.bin .i .leq x y,none⟩::os) env:=
 Hl hx hy (by simp [FD,intCmp]) k
theorem me (hx:x.val env=some (.int ik a)) (hy:y.val env=some (.int ik b)) (k:WO S K os ((d,.tv (.bool (decide (b<a))))::env)):WO S K (⟨some d,.bin .i .gtr x y,none⟩::os) env:=
 Hl hx hy (by simp [FD,intCmp]) k
theorem md (hx:x.val env=some (.int ik a)) (hy:y.val env=some (.int ik b)) (k:WO S K os ((d,.tv (.bool (decide (b<=a))))::env)):WO S K (⟨some d,.bin .i .geq x y,none⟩::os) env:=
 Hl hx hy (by simp [FD,intCmp]) k
theorem mQ (hx:x.val env=some (.int ik a)) (hy:y.val env=some (.int ik b)) (k:WO S K os ((d,.tv (.int ik (ik.wrap (a+b))))::env)):WO S K (⟨some d,.bin .i .add x y,none⟩::os) env:=
 Hl hx hy (by simp [FD,intCmp,intArith]) k
theorem nB (hx:x.val env=some (.int ik a)) (hy:y.val env=some (.int ik b)) (k:WO S K os ((d,.tv (.int ik (ik.wrap (a - b))))::env)):WO S K (⟨some d,.bin .i .sub x y,none⟩::os) env:=
 Hl hx hy (by simp [FD,intCmp,intArith]) k
theorem mt (hx:x.val env=some (.int ik a)) (hy:y.val env=some (.int ik b)) (k:WO S K os ((d,.tv (.int ik (ik.wrap (a*b))))::env)):WO S K (⟨some d,.bin .i .mul x y,none⟩::os) env:=
 Hl hx hy (by simp [FD,intCmp,intArith]) k
theorem m5 {q:Int} (hx:x.val env=some (.int ik a)) (hy:y.val env=some (.int ik b)) (hq:quo a b=some q) (k:WO S K os ((d,.tv (.int ik (ik.wrap q)))::env)):WO S K (⟨some d,.bin .i .quo x y,none⟩::os) env:=by
 refine Hl hx hy ?_ k
 unfold quo at hq
 simp only [FD,if_true,intCmp,intArith]
 split at hq
 ·cases hq
 ·rename_i h; rw [if_neg h,←Option.some.inj hq]
theorem m7 {q:Int} (hx:x.val env=some (.int ik a)) (hy:y.val env=some (.int ik b)) (hq:aw a b=some q) (k:WO S K os ((d,.tv (.int ik q))::env)):WO S K (⟨some d,.bin .i .rem x y,none⟩::os) env:=by
 refine Hl hx hy ?_ k
 unfold aw at hq
 simp only [FD,if_true,intCmp,intArith]
 split at hq
 ·cases hq
 ·rename_i h; rw [if_pos ⟨trivial,h⟩,←Option.some.inj hq]
theorem mT {op:BinOp} {ik':IntKind} {r:Int} (hx:x.val env=some (.int ik a)) (hy:y.val env=some (.int ik' b)) (hk:ik=ik'∨op=.shl∨op=.shr) (hr:KW ik op a b=some r) (k:WO S K os ((d,.tv (.int ik r))::env)):WO S K (⟨some d,.bin .w op x y,none⟩::os) env:=
 Hl hx hy (by simp only [FD]; rw [if_pos hk,hr]) k
theorem fX {u v:ByteArray} (hx:x.val env=some (.str u)) (hy:y.val env=some (.str v)) (k:WO S K os ((d,.tv (.bool (u==v)))::env)):WO S K (⟨some d,.bin .s .eql x y,none⟩::os) env:=
 Hl hx hy (by simp [FD]) k
theorem fa {u v:ByteArray} (hx:x.val env=some (.str u)) (hy:y.val env=some (.str v)) (k:WO S K os ((d,.tv (.bool (!(u==v))))::env)):WO S K (⟨some d,.bin .s .neq x y,none⟩::os) env:=
 Hl hx hy (by simp [FD]) k
theorem fW {u v t:ByteArray} (hx:x.val env=some (.str u)) (hy:y.val env=some (.str v)) (h:Lb u v=some t) (k:WO S K os ((d,.tv (.str t))::env)):WO S K (⟨some d,.bin .s .add x y,none⟩::os) env:=by
 refine Hl hx hy ?_ k
 unfold Lb at h
 simp only [FD]
 split at h
 ·rename_i hc; rw [if_pos hc,←Option.some.inj h]
 ·cases h
theorem fJ {u v:Bool} (hx:x.val env=some (.bool u)) (hy:y.val env=some (.bool v)) (k:WO S K os ((d,.tv (.bool (u==v)))::env)):WO S K (⟨some d,.bin .b .eql x y,none⟩::os) env:=
 Hl hx hy (by simp [FD]) k
theorem fM {u v:Bool} (hx:x.val env=some (.bool u)) (hy:y.val env=some (.bool v)) (k:WO S K os ((d,.tv (.bool (!(u==v))))::env)):WO S K (⟨some d,.bin .b .neq x y,none⟩::os) env:=
 Hl hx hy (by simp [FD]) k
theorem YR {n:List Nat} {cs ds:List TV} {r:Bool} (hx:x.val env=some (.agg cs)) (hy:y.val env=some (.agg ds)) (hn:cs.map TV.kd=n) (h:CN cs ds=some r) (k:WO S K os ((d,.tv (.bool r))::env)):WO S K (⟨some d,.bin (.a n) .eql x y,none⟩::os) env:=
 Hl hx hy (by simp [FD,hn,h]) k
theorem YS {n:List Nat} {cs ds:List TV} {r:Bool} (hx:x.val env=some (.agg cs)) (hy:y.val env=some (.agg ds)) (hn:cs.map TV.kd=n) (h:CN cs ds=some r) (k:WO S K os ((d,.tv (.bool (!r)))::env)):WO S K (⟨some d,.bin (.a n) .neq x y,none⟩::os) env:=
 Hl hx hy (by simp [FD,hn,h]) k
end bins
theorem mz {x:AJ} {b:Bool} (h:x.val env=some (.bool b)) (k:WO S K os ((d,.tv (.bool (!b)))::env)):WO S K (⟨some d,.not x,none⟩::os) env:=by
 replace k:=k.out
 refine ⟨?_⟩
 simp only [wpOps,PR.wp,AH.wp,h]; exact k
theorem mw {x:AJ} {ik:IntKind} {n:Int} (h:x.val env=some (.int ik n)) (k:WO S K os ((d,.tv (.int ik (ik.wrap (-n))))::env)):WO S K (⟨some d,.neg x,none⟩::os) env:=by
 replace k:=k.out
 refine ⟨?_⟩
 simp only [wpOps,PR.wp,AH.wp,h]; exact k
theorem c8 {c a b:AJ} {q:Bool} {t:TV} (hc:c.val env=some (.bool q)) (hq:q=true) (h:a.val env=some t) (k:WO S K os ((d,.tv t)::env)):WO S K (⟨some d,.pick c a b,none⟩::os) env:=by
 replace k:=k.out
 refine ⟨?_⟩
 subst hq
 simp only [wpOps,PR.wp,AH.wp,hc,if_true]
 rcases PO h with h | h <;> rw [h] <;> exact k
theorem c7 {c a b:AJ} {q:Bool} {t:TV} (hc:c.val env=some (.bool q)) (hq:q=false) (h:b.val env=some t) (k:WO S K os ((d,.tv t)::env)):WO S K (⟨some d,.pick c a b,none⟩::os) env:=by
 replace k:=k.out
 refine ⟨?_⟩
 subst hq
 simp only [wpOps,PR.wp,AH.wp,hc,Bool.false_eq_true,if_false]
 rcases PO h with h | h <;> rw [h] <;> exact k
theorem mi {α:Type} {x:AJ} {n:Nat} {es:List TV} {e:α->TV} {l:List α} (h:x.val env=some (.list n es)) (he:es=l.map e) (k:WO S K os ((d,.tv (.int .i64 l.length))::env)):WO S K (⟨some d,.len x,none⟩::os) env:=by
 replace k:=k.out
 refine ⟨?_⟩
 subst he
 simp only [wpOps,PR.wp,AH.wp,h,List.length_map]; exact k
theorem fZ {x:AJ} {s:ByteArray} (h:x.val env=some (.str s)) (k:WO S K os ((d,.tv (.int .i64 s.size))::env)):WO S K (⟨some d,.slen x,none⟩::os) env:=by
 replace k:=k.out
 refine ⟨?_⟩
 simp only [wpOps,PR.wp,AH.wp,h]; exact k
theorem Ux {α:Type} {l m:List α} {a b:Int} (h:slc l a b=some m):((0<=a∧a<=b)∧b<=l.length)∧m=(l.take b.toNat).drop a.toNat:=by
 unfold slc at h
 split at h
 ·rename_i hc; exact ⟨hc,(Option.some.inj h).symm⟩
 ·cases h
theorem m8 {α:Type} {n:Nat} {x:AJ} {lo hi:Option AJ} {es:List TV} {e:α->TV} {l m:List α} {ka kb:IntKind} {a b:Int} (h:x.val env=some (.list n es)) (he:es=l.map e) (hlo:GH env 0 lo=some (.int ka a)) (hhi:GH env l.length hi=some (.int kb b)) (hs:slc l a b=some m)
  (k:WO S K os ((d,.tv (.list n (m.map e)))::env)):WO S K (⟨some d,.slc n x lo hi,none⟩::os) env:=by
 replace k:=k.out
 refine ⟨?_⟩
 subst he
 obtain ⟨⟨h1,h2⟩,h3⟩:=Ux hs
 subst h3
 simp only [wpOps,PR.wp,AH.wp,h,List.length_map,hlo,hhi]
 refine ⟨⟨trivial,h1.1,h1.2⟩,h2,?_⟩
 rw [List.map_drop,List.map_take] at k
 exact k
theorem fb {x:AJ} {lo hi:Option AJ} {s t:ByteArray} {ka kb:IntKind} {a b:Int} (h:x.val env=some (.str s)) (hlo:GH env 0 lo=some (.int ka a)) (hhi:GH env s.size hi=some (.int kb b)) (hs:sslc s a b=some t)
  (k:WO S K os ((d,.tv (.str t))::env)):WO S K (⟨some d,.sslc x lo hi,none⟩::os) env:=by
 replace k:=k.out
 refine ⟨?_⟩
 unfold sslc at hs
 split at hs
 ·rename_i hc
  cases hs
  simp only [wpOps,PR.wp,AH.wp,h,hlo,hhi]
  exact ⟨hc.1,hc.2.1,hc.2.2,k⟩
 ·cases hs
theorem XA {zero:List TV} {parts:List (Nat × Nat × AJ)} {ts:List (Nat × Nat × TV)} {cs:List TV} {t:TV} (h1:Hy env parts=some ts) (h2:HL zero ts=some cs) (ht:TV.agg cs=t) (k:WO S K os ((d,.tv t)::env)):WO S K (⟨some d,.bld zero parts,none⟩::os) env:=by
 replace k:=k.out
 refine ⟨?_⟩
 subst ht
 simp only [wpOps,PR.wp,AH.wp,h1,A6,h2]; exact k
def XC:Nat->List (Nat × Nat × TV)->Bool
 | _,[]=>true
 | k,(i,n,t)::r=>Nat.beq i k&&Nat.beq t.cells.length n&&XC (k+n) r
def Nb:List (Nat × Nat × TV)->List TV
 | []=>[]
 | (_,_,t)::r=>t.cells++Nb r
theorem TH:∀ (ds done mid rest:List TV),mid.length=ds.length->MC (done++(mid++rest)) done.length ds=done++(ds++rest)
 | [],done,mid,rest,h=>by
  have:mid=[]:=List.eq_nil_of_length_eq_zero (by simpa using h)
  subst this; rfl
 | d::ds,done,[],rest,h=>by simp at h
 | d::ds,done,m::mid,rest,h=>by
  simp only [MC]
  rw [List.cons_append,List.set_append_right _ _ (Nat.le_refl _),Nat.sub_self,List.set_cons_zero]
  have:=TH ds (done++[d]) mid rest (by simpa using h)
  simpa using this
theorem Sv:∀ (ts:List (Nat × Nat × TV)) (done rest:List TV),XC done.length ts=true->(Nb ts).length=rest.length->HL (done++rest) ts=some (done++Nb ts)
 | [],done,rest,_,h=>by
  have:rest=[]:=List.eq_nil_of_length_eq_zero (by simpa [Nb] using h.symm)
  subst this; rfl
 | (i,n,t)::r,done,rest,hs,h=>by
  simp only [XC,zzZ,Nat.beq_eq] at hs
  obtain ⟨⟨rfl,hn⟩,hr⟩:=hs
  simp only [Nb,List.length_append] at h
  have hle:n<=rest.length:=by omega
  simp only [HL]
  rw [if_pos ⟨hn,by rw [List.length_append]; omega⟩]
  have h1:rest=rest.take n++rest.drop n:=(List.take_append_drop n rest).symm
  rw [h1,TH t.cells done (rest.take n) (rest.drop n) (by rw [List.length_take]; omega),←List.append_assoc]
  rw [Sv r (done++t.cells) (rest.drop n) (by rw [List.length_append,hn]; exact hr) (by rw [List.length_drop]; omega)]
  simp [Nb]
theorem fK {zero:List TV} {parts:List (Nat × Nat × AJ)} {ts:List (Nat × Nat × TV)} {t:TV} (h1:Hy env parts=some ts) (h2:XC 0 ts=true) (h3:Nat.beq (Nb ts).length zero.length=true) (ht:TV.agg (Nb ts)=t) (k:WO S K os ((d,.tv t)::env)):WO S K (⟨some d,.bld zero parts,none⟩::os) env:=
 XA h1 (by have:=Sv ts [] zero h2 (Nat.eq_of_beq_eq_true h3); simpa using this) ht k
theorem bA {α:Type} {n:Nat} {parts:List AJ} {ts:List TV} {e:α->TV} {l:List α} (h:vals env parts=some ts) (he:ts=l.map e) (hn:∀ a,(e a).cells.length=n) (k:WO S K os ((d,.ow (.list n (l.map e)))::env)):WO S K (⟨some d,.lst n parts,none⟩::os) env:=by
 replace k:=k.out
 refine ⟨?_⟩
 subst he
 simp only [wpOps,PR.wp,AH.wp,h,A6]
 refine ⟨fun t ht=>?_,k⟩
 obtain ⟨a,_,rfl⟩:=List.mem_map.1 ht
 exact hn a
theorem ax {α:Type} {n s:Nat} {y:AJ} {es fs rs:List TV} {e:α->TV} {l m r:List α} (hx:env.get s=.ow (.list n es)) (hy:y.val env=some (.list n fs)) (he:es=l.map e) (hf:fs=m.map e) (h:CX l m=some r) (hr:rs=r.map e)
  (k:WO S K os ((d,.ow (.list n rs))::(s,.tv (.list n es))::env)):WO S K (⟨some d,.app n (.s s) y,none⟩::os) env:=by
 replace k:=k.out
 refine ⟨?_⟩
 subst hf hr
 unfold CX at h
 split at h
 ·rename_i hc
  cases h
  simp only [wpOps,PR.wp,AH.wp,AJ.ev,hx,hy,he,List.length_map]
  rw [he] at k
  refine ⟨by simp,by simp,hc,?_⟩
  rw [List.map_append] at k
  exact k
 ·cases h
theorem YT {f:FuncId} {args:List AJ} {ts:List TV} {t:TV} (ha:vals env args=some ts) (hS:S f ts (.sh t)) (k:WO S K os ((d,.tv t)::env)):WO S K (⟨some d,.call f args,none⟩::os) env:=by
 replace k:=k.out
 refine ⟨?_⟩
 simp only [wpOps,PR.wp,AH.wp,ha,A6]; exact ⟨_,⟨hS,rfl⟩,fun _=>k⟩
theorem cu {f:FuncId} {args:List AJ} {ts:List TV} {t:TV} (ha:vals env args=some ts) (hS:S f ts (.own t)) (k:WO S K os ((d,.ow t)::env)):WO S K (⟨some d,.call f args,none⟩::os) env:=by
 replace k:=k.out
 refine ⟨?_⟩
 simp only [wpOps,PR.wp,AH.wp,ha,A6]; exact ⟨_,⟨hS,rfl⟩,fun _=>k⟩
theorem cx {f:FuncId} {args:List AJ} {ts es:List TV} {n:Nat} (ha:vals env args=some ts) (hS:S f ts (.xown n es)) (k:WO S K os ((d,.ow (.list n es))::env)):WO S K (⟨some d,.call f args,none⟩::os) env:=by
 replace k:=k.out
 refine ⟨?_⟩
 simp only [wpOps,PR.wp,AH.wp,ha,A6]; exact ⟨_,⟨hS,rfl⟩,fun _=>k⟩
theorem cv {f:FuncId} {args:List AJ} {ts t:List TV} (ha:vals env args=some ts) (hS:S f ts (.tp t)) (k:WO S K os ((d,.tp t)::env)):WO S K (⟨some d,.call f args,none⟩::os) env:=by
 replace k:=k.out
 refine ⟨?_⟩
 simp only [wpOps,PR.wp,AH.wp,ha,A6]; exact ⟨_,⟨hS,rfl⟩,fun _=>k⟩
theorem cw {f:FuncId} {x:AJ} {caps:List TV} {args:List AJ} {ts:List TV} {t:TV} (hx:x.val env=some (.clo f caps)) (ha:vals env args=some ts) (hS:S f (ts++caps) (.sh t)) (k:WO S K os ((d,.tv t)::env)):WO S K (⟨some d,.callv x args,none⟩::os) env:=by
 replace k:=k.out
 refine ⟨?_⟩
 simp only [wpOps,PR.wp,AH.wp,hx,ha]; exact ⟨_,⟨hS,rfl⟩,fun _=>k⟩
theorem Zq {f:FuncId} {x:AJ} {caps:List TV} {args:List AJ} {ts:List TV} {t:TV} (hx:x.val env=some (.clo f caps)) (ha:vals env args=some ts) (hS:S f (ts++caps) (.own t)) (k:WO S K os ((d,.ow t)::env)):WO S K (⟨some d,.callv x args,none⟩::os) env:=by
 replace k:=k.out
 refine ⟨?_⟩
 simp only [wpOps,PR.wp,AH.wp,hx,ha]; exact ⟨_,⟨hS,rfl⟩,fun _=>k⟩
theorem Zr {f:FuncId} {x:AJ} {caps:List TV} {args:List AJ} {ts t:List TV} (hx:x.val env=some (.clo f caps)) (ha:vals env args=some ts) (hS:S f (ts++caps) (.tp t)) (k:WO S K os ((d,.tp t)::env)):WO S K (⟨some d,.callv x args,none⟩::os) env:=by
 replace k:=k.out
 refine ⟨?_⟩
 simp only [wpOps,PR.wp,AH.wp,hx,ha]; exact ⟨_,⟨hS,rfl⟩,fun _=>k⟩
theorem mU {f:FuncId} {caps:List AJ} {ts:List TV} (h:vals env caps=some ts) (k:WO S K os ((d,.tv (.clo f ts))::env)):WO S K (⟨some d,.clo f caps,none⟩::os) env:=by
 replace k:=k.out
 refine ⟨?_⟩
 simp only [wpOps,PR.wp,AH.wp,h,A6]; exact k
theorem ma {x:AJ} {i:Nat} {ts:List TV} {t:TV} (h:x.ev env=.tp ts) (hi:ts[i]?=some t) (k:WO S K os ((d,.tv t)::env)):WO S K (⟨some d,.ext x i,none⟩::os) env:=by
 replace k:=k.out
 refine ⟨?_⟩
 simp only [wpOps,PR.wp,AH.wp,h,hi,A6]; exact k
theorem mu {x:AJ} {ts:List TV} (h:x.ev env=.tp ts) (k:WO S K os ((d,.tp ts)::env)):WO S K (⟨some d,.mv x,none⟩::os) env:=by
 replace k:=k.out
 refine ⟨?_⟩
 simp only [wpOps,PR.wp,AH.wp,h]; exact k
theorem mY {ik ik':IntKind} {x:AJ} {n:Int} (h:x.val env=some (.int ik' n)) (k:WO S K os ((d,.tv (.int ik (ik.wrap n)))::env)):WO S K (⟨some d,.cvt ik x,none⟩::os) env:=by
 replace k:=k.out
 refine ⟨?_⟩
 simp only [wpOps,PR.wp,AH.wp,h]; exact k
theorem fY {x i:AJ} {s:ByteArray} {ik:IntKind} {j b:Int} (h:x.val env=some (.str s)) (hi:i.val env=some (.int ik j)) (hx:sidx s j=some b) (k:WO S K os ((d,.tv (.int .u8 b))::env)):WO S K (⟨some d,.sidx x i,none⟩::os) env:=by
 replace k:=k.out
 refine ⟨?_⟩
 unfold sidx at hx
 split at hx
 ·rename_i h0
  rw [Option.map_eq_some_iff] at hx
  obtain ⟨c,hc,rfl⟩:=hx
  simp only [wpOps,PR.wp,AH.wp,h,hi]
  exact ⟨h0,c,hc,k⟩
 ·cases hx
theorem fP {x:AJ} {t:TV} {row:List TV} (h:x.val env=some t) (hr:t.cells=row) (k:WO S K os ((d,.tv (.pt row))::env)):WO S K (⟨some d,.boxs x,none⟩::os) env:=by
 replace k:=k.out
 refine ⟨?_⟩
 subst hr
 simp only [wpOps,PR.wp,AH.wp,h]; exact k
theorem fN {x:AJ} {t:TV} {row:List TV} {cs:List AU} (h:x.val env=some t) (hn:env.noRef d=true) (hr:t.cells=row) (hc:row.map (⟨false,·⟩)=cs) (k:WO S K os ((d,.bx cs)::env)):WO S K (⟨some d,.boxo x,none⟩::os) env:=by
 replace k:=k.out
 refine ⟨?_⟩
 subst hr hc
 simp only [wpOps,PR.wp,AH.wp,h]; exact ⟨hn,k⟩
theorem fT {mx:Bool} {x y:AJ} {ik:IntKind} {a b:Int} (hx:x.val env=some (.int ik a)) (hy:y.val env=some (.int ik b)) (k:WO S K os ((d,.tv (.int ik (if mx then max a b else min a b)))::env)):WO S K (⟨some d,.mm mx x y,none⟩::os) env:=by
 replace k:=k.out
 refine ⟨?_⟩
 simp only [wpOps,PR.wp,AH.wp,hx,hy]; exact ⟨trivial,k⟩
theorem mq {x y:AJ} {ik:IntKind} {a b:Int} (hx:x.val env=some (.int ik a)) (hy:y.val env=some (.int ik b)) (k:WO S K os ((d,.tv (.int ik (max a b)))::env)):WO S K (⟨some d,.mm true x y,none⟩::os) env:=fT hx hy k
theorem mr {x y:AJ} {ik:IntKind} {a b:Int} (hx:x.val env=some (.int ik a)) (hy:y.val env=some (.int ik b)) (k:WO S K os ((d,.tv (.int ik (min a b)))::env)):WO S K (⟨some d,.mm false x y,none⟩::os) env:=fT hx hy k
theorem mR {cs:List AU} (hn:env.noRef d=true) (k:WO S K os ((d,.bx cs)::env)):WO S K (⟨some d,.alc cs,none⟩::os) env:=by
 replace k:=k.out
 refine ⟨?_⟩
 simp only [wpOps,PR.wp,AH.wp]; exact ⟨hn,k⟩
theorem pN {n s off:Nat} {x v:AJ} {cs cs':List AU} {t:TV} (hp:x.place env=some (s,off)) (hs:env.get s=.bx cs) (hv:v.ev env=.tv t) (hl:t.cells.length=n) (hb:Nat.ble (off+n) cs.length=true) (hc:cs.take off++t.cells.map (⟨false,·⟩)++cs.drop (off+n)=cs')
  (k:WO S K os ((s,.bx cs')::env)):WO S K (⟨none,.st n x v,none⟩::os) env:=by
 replace k:=k.out
 refine ⟨?_⟩
 subst hc
 simp only [wpOps,PR.wp,AH.wp,hp,hs,hv]; exact ⟨hl,Nat.le_of_ble_eq_true hb,k⟩
theorem m9 {s off q:Nat} {x:AJ} {cs cs':List AU} {t:TV} (hp:x.place env=some (s,off)) (hs:env.get s=.bx cs) (hv:env.get q=.ow t) (hq:q≠s) (hb:Nat.blt off cs.length=true) (hc:cs.set off ⟨true,t⟩=cs')
  (k:WO S K os ((s,.bx cs')::(q,.tv t)::env)):WO S K (⟨none,.st 1 x (.s q),none⟩::os) env:=by
 replace k:=k.out
 refine ⟨?_⟩
 subst hc
 simp only [wpOps,PR.wp,AH.wp,hp,hs,AJ.ev,hv]; exact ⟨hq,trivial,Nat.le_of_ble_eq_true hb,k⟩
theorem bB {n s:Nat} {v:AJ} {cs cs':List AU} {t:TV} (hs:env.get s=.bx cs) (hv:v.ev env=.tv t) (hl:t.cells.length=n) (hb:Nat.ble (0+n) cs.length=true) (hc:cs.take 0++t.cells.map (⟨false,·⟩)++cs.drop (0+n)=cs')
  (k:WO S K os ((s,.bx cs')::env)):WO S K (⟨none,.stb n s v,none⟩::os) env:=by
 replace k:=k.out
 refine ⟨?_⟩
 subst hc
 simp only [wpOps,PR.wp,AH.wp,hs,hv]; exact ⟨hl,Nat.le_of_ble_eq_true hb,k⟩
theorem fc {s q:Nat} {cs cs':List AU} {t:TV} (hs:env.get s=.bx cs) (hv:env.get q=.ow t) (hq:q≠s) (hb:Nat.blt 0 cs.length=true) (hc:cs.set 0 ⟨true,t⟩=cs')
  (k:WO S K os ((s,.bx cs')::(q,.tv t)::env)):WO S K (⟨none,.stb 1 s (.s q),none⟩::os) env:=by
 replace k:=k.out
 refine ⟨?_⟩
 subst hc
 simp only [wpOps,PR.wp,AH.wp,hs,AJ.ev,hv]; exact ⟨hq,trivial,Nat.le_of_ble_eq_true hb,k⟩
theorem mc {s:Nat} {cs:List AU} {row:List TV} (hs:env.get s=.bx cs) (hr:cs.map (·.t)=row) (k:WO S K os ((s,.tv (.pt row))::env)):WO S K (⟨none,.frz s,none⟩::os) env:=by
 replace k:=k.out
 refine ⟨?_⟩
 subst hr
 simp only [wpOps,PR.wp,AH.wp,hs]; exact k
theorem fL {gs:List GC} {cs:List AU} {env':AC} (hn:(gs.filterMap GC.src).Nodup) (hd:d ∉ gs.filterMap GC.slot) (h:IQ env gs=some cs) (he:MZ env (gs.filterMap GC.slot) env=env') (k:WO S K os ((d,.oag cs)::env')):WO S K (⟨some d,.bldg gs,none⟩::os) env:=by
 replace k:=k.out
 refine ⟨?_⟩
 subst he
 simp only [wpOps,PR.wp,AH.wp,h]; exact ⟨⟨hn,hd⟩,k⟩
theorem nA {n s q:Nat} {cs ds cs':List AU} (hs:env.get s=.bx cs) (hq:env.get q=.oag ds) (hqs:q≠s) (hl:ds.length=n) (hb:Nat.ble (0+n) cs.length=true) (hx:((ds.all fun c=>!c.t.isXl)||env.noX s none)=true) (hc:cs.take 0++ds++cs.drop (0+n)=cs')
  (k:WO S K os ((s,.bx cs')::(q,.undef)::env)):WO S K (⟨none,.stx n s q,none⟩::os) env:=by
 replace k:=k.out
 refine ⟨?_⟩
 subst hc
 simp only [wpOps,PR.wp,AH.wp,hs,hq]; exact ⟨hqs,⟨hl,hx⟩,Nat.le_of_ble_eq_true hb,k⟩
theorem cp {f:FuncId} {args:List AJ} {ts:List TV} {cs:List AU} (ha:vals env args=some ts) (hS:S f ts (.oag cs)) (k:WO S K os ((d,.oag cs)::env)):WO S K (⟨some d,.callg f args,none⟩::os) env:=by
 replace k:=k.out
 refine ⟨?_⟩
 simp only [wpOps,PR.wp,AH.wp,ha,A6]; exact ⟨cs,hS,fun _=>k⟩
theorem cq {f:FuncId} {args:List AJ} {ts:List TV} {cs:List AU} {t:TV} (ha:vals env args=some ts) (hS:S f ts (.oag cs)) (hc:TV.agg (cs.map (·.t))=t) (k:WO S K os ((d,.tv t)::env)):WO S K (⟨some d,.call f args,none⟩::os) env:=by
 replace k:=k.out
 refine ⟨?_⟩
 subst hc
 simp only [wpOps,PR.wp,AH.wp,ha,A6]; exact ⟨_,⟨hS,rfl⟩,fun _=>k⟩
theorem ay {α:Type} {x:AJ} {n:Nat} {es:List TV} {e:α->TV} {l:List α} (h:x.val env=some (.list n es)) (he:es=l.map e) (k:∀ b:Bool,(b=true->l=[])->WO S K os ((d,.tv (.bool b))::env)):WO S K (⟨some d,.isn x,none⟩::os) env:=by
 replace k:=fun b hb=>(k b hb).out
 refine ⟨?_⟩
 simp only [wpOps,PR.wp,AH.wp,h]
 intro b hb
 refine k b fun ht=>?_
 have:=hb ht
 rw [he] at this
 simpa using this
theorem bh {α:Type} {l r:List α} (h:CX [] l=some r) (b:Bool) (hb:b=true->l=[]):(if b=true then some [] else (CX [] l).bind fun x=>some x)=some r:=by
 cases b
 ·simpa using h
 ·have:=hb rfl
  subst this
  simpa [CX] using h
theorem UJ {α:Type} {l:List α} {j:Int} {a:α} (h:AL l j=some a):0<=j∧j<l.length∧l[j.toNat]?=some a:=by
 unfold AL at h
 split at h
 ·rename_i h0
  have:=(List.getElem?_eq_some_iff.1 h).1
  exact ⟨h0,by omega,h⟩
 ·cases h
theorem Vp {α:Type} {n:Nat} {e:α->TV} (hl:∀ a,(e a).cells.length=n):∀ (l:List α) (j k:Nat) (a:α),l[j]?=some a->k<n->((l.map e).flatMap TV.cells)[j*n+k]?=(e a).cells[k]?
 | [],j,k,a,h,_=>by simp at h
 | b::l,0,k,a,h,hk=>by
  simp only [List.getElem?_cons_zero,zzY] at h
  subst h
  rw [List.map_cons,List.flatMap_cons,List.getElem?_append_left (by rw [hl]; omega),Nat.zero_mul,Nat.zero_add]
 | b::l,j+1,k,a,h,hk=>by
  rw [List.getElem?_cons_succ] at h
  rw [List.map_cons,List.flatMap_cons,List.getElem?_append_right (by rw [hl,Nat.add_mul]; omega),hl,show (j+1)*n+k - n=j*n+k from by rw [Nat.add_mul]; omega]
  exact Vp hl l j k a h hk
theorem UC {α:Type} {n:Nat} {e:α->TV} (hl:∀ a,(e a).cells.length=n) (t:TV):∀ (l:List α) (j k:Nat) (a b:α),l[j]?=some a->k<n->(e b).cells=(e a).cells.set k t->((l.set j b).map e).flatMap TV.cells=((l.map e).flatMap TV.cells).set (j*n+k) t
 | [],j,k,a,b,h,_,_=>by simp at h
 | c::l,0,k,a,b,h,hk,hb=>by
  simp only [List.getElem?_cons_zero,zzY] at h
  subst h
  rw [List.set_cons_zero,List.map_cons,List.map_cons,List.flatMap_cons,List.flatMap_cons,Nat.zero_mul,Nat.zero_add,List.set_append_left _ _ (by rw [hl]; omega),hb]
 | c::l,j+1,k,a,b,h,hk,hb=>by
  rw [List.getElem?_cons_succ] at h
  rw [List.set_cons_succ,List.map_cons,List.map_cons,List.flatMap_cons,List.flatMap_cons,List.set_append_right _ _ (by rw [hl,Nat.add_mul]; omega),hl,show (j+1)*n+k - n=j*n+k from by rw [Nat.add_mul]; omega,UC hl t l j k a b h hk hb]
theorem PV {α:Type} {e:α->TV} (h:∀ a,(e a).flat=true):∀ (l:List α),TV.flats (l.map e)=true
 | []=>rfl
 | a::l=>by simp only [List.map_cons,TV.flats,h a,PV h l,Bool.and_self]
theorem cz {x:AJ} {k n:Nat} {cs:List TV} {t:TV} (h:x.val env=some (.agg cs)) (hb:Nat.ble (k+n) cs.length=true) (ht:TV.agg ((cs.drop k).take n)=t) (kk:WO S K os ((d,.tv t)::env)):WO S K (⟨some d,.fldv x k n true,none⟩::os) env:=by
 replace kk:=kk.out
 refine ⟨?_⟩
 subst ht
 simp only [wpOps,PR.wp,AH.wp,h,if_true]; exact ⟨Nat.le_of_ble_eq_true hb,kk⟩
theorem fR {x:AJ} {k n:Nat} {cs r:List TV} {t:TV} (h:x.val env=some (.agg cs)) (hb:Nat.ble (k+n) cs.length=true) (ht:cs.drop k=t::r) (kk:WO S K os ((d,.tv t)::env)):WO S K (⟨some d,.fldv x k n false,none⟩::os) env:=by
 replace kk:=kk.out
 refine ⟨?_⟩
 simp only [wpOps,PR.wp,AH.wp,h,Bool.false_eq_true,if_false,ht,HM,A6]; exact ⟨Nat.le_of_ble_eq_true hb,kk⟩
theorem nE {s n:Nat} {es:List TV} (h:env.get s=.xo n es) (k:WO S K os ((d,.la s none)::env)):WO S K (⟨some d,.xal s,none⟩::os) env:=by
 replace k:=k.out
 refine ⟨?_⟩
 simp only [wpOps,PR.wp,AH.wp,h]; exact k
theorem fe {α:Type} {x:AJ} {q:Nat × Option Nat} {n:Nat} {es:List TV} {e:α->TV} {l:List α} (h:x.xlist env=some (q,n,es)) (he:es=l.map e) (k:WO S K os ((d,.tv (.int .i64 l.length))::env)):WO S K (⟨some d,.xlen x,none⟩::os) env:=by
 replace k:=k.out
 refine ⟨?_⟩
 subst he
 simp only [wpOps,PR.wp,AH.wp,h,A6,List.length_map]; exact k
theorem nG {α:Type} {x i:AJ} {q n:Nat} {qi:Option Nat} {es:List TV} {e:α->TV} {l:List α} {ik:IntKind} {j:Int} {a:α} (h:x.xlist env=some ((q,qi),n,es)) (hi:i.val env=some (.int ik j)) (he:es=l.map e) (ha:AL l j=some a) (hr:(x.ev env).ref=some q)
  (k:WO S K os ((d,.lp q qi (j.toNat*n))::env)):WO S K (⟨some d,.xia x i n,none⟩::os) env:=by
 replace k:=k.out
 refine ⟨?_⟩
 subst he
 obtain ⟨h0,h1,_⟩:=UJ ha
 simp only [wpOps,PR.wp,AH.wp,h,hi,A6,List.length_map]; exact ⟨⟨hr,trivial⟩,h0,h1,k⟩
theorem nF {x:AJ} {j q c:Nat} {qi:Option Nat} {p:Nat × List TV} (h:x.ev env=.lp q qi c) (hq:env.xat q qi=some p) (k:WO S K os ((d,.lp q qi (c+j))::env)):WO S K (⟨some d,.xfa x j,none⟩::os) env:=by
 replace k:=k.out
 refine ⟨?_⟩
 simp only [wpOps,PR.wp,AH.wp,h,hq]; exact k
theorem bC {α:Type} {x:AJ} {q c n i:Nat} {qi:Option Nat} {es row:List TV} {e:α->TV} {l:List α} {j:Int} {a:α} {t:TV} (h:x.ev env=.lp q qi c) (hq:env.xat q qi=some (n,es)) (he:es=l.map e) (hl:∀ a,(e a).cells.length=n) (ha:AL l j=some a) (hc:c=j.toNat*n+i) (hi:Nat.blt i n=true) (hr:(e a).cells=row) (ht:row[i]?=some t)
  (k:WO S K os ((d,.tv t)::env)):WO S K (⟨some d,.xld x,none⟩::os) env:=by
 replace k:=k.out
 refine ⟨?_⟩
 subst he hc hr
 have hf:=Vp hl l j.toNat i a (UJ ha).2.2 (Nat.le_of_ble_eq_true hi)
 simp only [wpOps,PR.wp,AH.wp,h,hq,hf,ht,A6]; exact k
theorem bE {α:Type} {x v:AJ} {q c n i:Nat} {qi:Option Nat} {env':AC} {es rs:List TV} {e:α->TV} {l:List α} {j:Int} {a b:α} {t:TV} (h:x.ev env=.lp q qi c) (hq:env.xat q qi=some (n,es)) (hv:v.ev env=.tv t) (he:es=l.map e) (hl:∀ a,(e a).cells.length=n) (ha:AL l j=some a) (hc:c=j.toNat*n+i) (hi:Nat.blt i n=true) (ht:t.cells=[t])
  (hb:(e b).cells=(e a).cells.set i t) (hr:rs=(CB l j b).map e) (hv':env.xput q qi n rs=env') (k:WO S K os env'):WO S K (⟨none,.xst x v,none⟩::os) env:=by
 replace k:=k.out
 refine ⟨?_⟩
 subst he hc hr hv'
 obtain ⟨h0,h1,h2⟩:=UJ ha
 have hi':i<n:=Nat.le_of_ble_eq_true hi
 have hlt:j.toNat<l.length:=(List.getElem?_eq_some_iff.1 h2).1
 simp only [wpOps,PR.wp,AH.wp,h,hq,hv]
 refine ⟨ht,?_,_,UC hl t l j.toNat i a b h2 hi' hb,by simp,fun u hu=>?_,k⟩
 ·rw [List.length_map]
  calc j.toNat*n+i<j.toNat*n+n:=by omega
   _=(j.toNat+1)*n:=by rw [Nat.add_mul]; omega
   _<=l.length*n:=Nat.mul_le_mul_right _ hlt
 ·obtain ⟨u',_,rfl⟩:=List.mem_map.1 hu
  exact hl u'
theorem m6 {s n:Nat} {es:List TV} (h:env.get s=.xo n es) (hd:d≠s) (k:WO S K os ((d,.ow (.list n es))::(s,.undef)::env)):WO S K (⟨some d,.rel s,none⟩::os) env:=by
 replace k:=k.out
 refine ⟨?_⟩
 simp only [wpOps,PR.wp,AH.wp,h]; exact ⟨hd,k⟩
theorem fV {n:Nat} (hn:env.noRef d=true) (k:WO S K os ((d,.xo n [])::env)):WO S K (⟨some d,.nilx n,none⟩::os) env:=by
 replace k:=k.out
 refine ⟨?_⟩
 simp only [wpOps,PR.wp,AH.wp]; exact ⟨hn,k⟩
theorem fS {n:Nat} (hn:env.noRef d=true) (k:WO S K os ((d,.xo n [])::env)):WO S K (⟨some d,.lstz n,none⟩::os) env:=by
 replace k:=k.out
 refine ⟨?_⟩
 simp only [wpOps,PR.wp,AH.wp]; exact ⟨hn,k⟩
theorem nD {s n:Nat} {es:List TV} (h:env.get s=.xo n es) (hn:env.noRef d=true) (hd:d≠s) (k:WO S K os ((d,.xo n es)::(s,.undef)::env)):WO S K (⟨some d,.tkx s,none⟩::os) env:=by
 replace k:=k.out
 refine ⟨?_⟩
 simp only [wpOps,PR.wp,AH.wp,h]; exact ⟨hn,hd,k⟩
theorem fG {α:Type} {n s:Nat} {y:AJ} {es fs rs:List TV} {e:α->TV} {l m r:List α} (hx:env.get s=.xo n es) (hy:y.val env=some (.list n fs)) (he:es=l.map e) (hf:fs=m.map e) (h:CX l m=some r) (hr:rs=r.map e) (hn:env.noRef d=true) (hd:d≠s)
  (k:WO S K os ((d,.xo n rs)::(s,.undef)::env)):WO S K (⟨some d,.appx n s y,none⟩::os) env:=by
 replace k:=k.out
 refine ⟨?_⟩
 subst he hf hr
 unfold CX at h
 split at h
 ·rename_i hc
  cases h
  simp only [wpOps,PR.wp,AH.wp,hx,hy,List.length_map]
  rw [List.map_append] at k
  exact ⟨trivial,trivial,hc,hn,hd,k⟩
 ·cases h
theorem cy {f:FuncId} {args:List AJ} {ts es:List TV} {n:Nat} (hn:env.noRef d=true) (ha:vals env args=some ts) (hS:S f ts (.xown n es)) (k:WO S K os ((d,.xo n es)::env)):WO S K (⟨some d,.callx f args,none⟩::os) env:=by
 replace k:=k.out
 refine ⟨?_⟩
 simp only [wpOps,PR.wp,AH.wp,ha,A6]; exact ⟨hn,n,es,.inl hS,fun _=>k⟩
theorem Zs {α:Type} {f:FuncId} {args:List AJ} {ts es:List TV} {n:Nat} {e:α->TV} {l:List α} (hn:env.noRef d=true) (ha:vals env args=some ts) (hS:S f ts (.own (.list n es))) (he:es=l.map e) (hf:∀ a,(e a).flat=true) (k:WO S K os ((d,.xo n es)::env)):WO S K (⟨some d,.callx f args,none⟩::os) env:=by
 replace k:=k.out
 refine ⟨?_⟩
 simp only [wpOps,PR.wp,AH.wp,ha,A6]; exact ⟨hn,n,es,.inr ⟨hS,by rw [he]; exact PV hf l⟩,fun _=>k⟩
theorem ms {α:Type} {n:Nat} {zero:List TV} {x:AJ} {ik:IntKind} {j:Int} {rs:List TV} {e:α->TV} {z:α} {r:List α} (hn:env.noRef d=true) (hx:x.val env=some (.int ik j)) (hz:(match zero with | [t]=>t | ts=>.agg ts)=e z) (h:KN j z=some r) (hr:rs=r.map e)
  (k:WO S K os ((d,.xo n rs)::env)):WO S K (⟨some d,.mkx n zero x,none⟩::os) env:=by
 replace k:=k.out
 refine ⟨?_⟩
 subst hr
 unfold KN at h
 split at h
 ·rename_i hc
  cases h
  rw [List.map_replicate,←hz] at k
  simp only [wpOps,PR.wp,AH.wp,hx]; exact ⟨hn,hc.1,hc.2,k⟩
 ·cases h
theorem ct {f:FuncId} {x:AJ} {q:Nat} {qi:Option Nat} {env':AC} {es rs:List TV} {e:Int->TV} {l r:List Int} (h:x.xlist env=some ((q,qi),1,es)) (he:es=l.map e) (hei:e=TV.int .i64) (hS:S f [.list 1 (l.map (TV.int .i64))] (.turn r)) (hr:rs=r.map e) (hv':env.xput q qi 1 rs=env') (k:WO S K os ((d,.tp [])::env')):WO S K (⟨some d,.callm f x,none⟩::os) env:=by
 replace k:=k.out
 refine ⟨?_⟩
 subst he hr hei hv'
 simp only [wpOps,PR.wp,AH.wp,h,A6]; exact ⟨trivial,l,r,rfl,hS,fun _=>k⟩
theorem cn {f:FuncId} {x:AJ} {q:Nat} {es rs:List TV} {e:Int->TV} {l r:List Int} (h:x.xlist env=some ((q,none),1,es)) (he:es=l.map e) (hei:e=TV.int .i64) (hqd:q≠d) (hn:env.noRef d=true) (hS:S f [.list 1 (l.map (TV.int .i64))] (.cut r)) (hr:rs=r.map e) (k:WO S K os ((d,.xo 1 rs)::(q,.undef)::env)):WO S K (⟨some d,.callc f x,none⟩::os) env:=by
 replace k:=k.out
 refine ⟨?_⟩
 subst he hr hei
 simp only [wpOps,PR.wp,AH.wp,h,A6]; exact ⟨⟨hqd,trivial⟩,trivial,hn,l,r,rfl,hS,fun _=>k⟩
theorem mg {x:AJ} {s off:Nat} {p:Nat × List TV} (h:x.ev env=.bp s off) (hx:env.xat s (some off)=some p) (k:WO S K os ((d,.la s (some off))::env)):WO S K (⟨some d,.lac x,none⟩::os) env:=by
 replace k:=k.out
 refine ⟨?_⟩
 simp only [wpOps,PR.wp,AH.wp,h,hx]; exact k
theorem mW {x:AJ} {s off n:Nat} {cs cs':List AU} {es:List TV} (hp:x.place env=some (s,off)) (hs:env.get s=.bx cs) (hc:cs[off]?=some ⟨true,.xl n es⟩) (hn:env.noRef d=true) (hc':cs.set off ⟨false,.undef⟩=cs') (k:WO S K os ((d,.xo n es)::(s,.bx cs')::env)):WO S K (⟨some d,.ctk x,none⟩::os) env:=by
 replace k:=k.out
 refine ⟨?_⟩
 subst hc'
 simp only [wpOps,PR.wp,AH.wp,hp,hs,hc]; exact ⟨hn,k⟩
theorem mV {x:AJ} {q s off n:Nat} {cs cs':List AU} {es:List TV} (hp:x.place env=some (s,off)) (hq:env.get q=.xo n es) (hs:env.get s=.bx cs) (hn:env.noX s (some off)=true) (hb:Nat.blt off cs.length=true) (hc':cs.set off ⟨true,.xl n es⟩=cs') (k:WO S K os ((s,.bx cs')::(q,.undef)::env)):WO S K (⟨none,.cpt x q,none⟩::os) env:=by
 replace k:=k.out
 refine ⟨?_⟩
 subst hc'
 simp only [wpOps,PR.wp,AH.wp,hp,hq,hs]; exact ⟨hn,Nat.le_of_ble_eq_true hb,k⟩
theorem mX {α:Type} {n s:Nat} {hi:AJ} {es rs:List TV} {e:α->TV} {l r:List α} {ik:IntKind} {j:Int} (hs:env.get s=.xo n es) (hj:hi.val env=some (.int ik j)) (he:es=l.map e) (h:slc l 0 j=some r) (hr:rs=r.map e) (hn:env.noRef d=true) (hd:d≠s) (k:WO S K os ((d,.xo n rs)::(s,.undef)::env)):WO S K (⟨some d,.cut n s hi,none⟩::os) env:=by
 replace k:=k.out
 refine ⟨?_⟩
 subst he hr
 obtain ⟨⟨h1,h2⟩,h3⟩:=Ux h
 subst h3
 simp only [wpOps,PR.wp,AH.wp,hs,hj]
 refine ⟨⟨trivial,hn,hd⟩,h1.2,by rw [List.length_map]; exact h2,?_⟩
 have h3:((l.take j.toNat).drop (0:Int).toNat).map e=(l.map e).take j.toNat:=by simp
 rw [h3] at k
 exact k
theorem cr {f:FuncId} {args:List AJ} {ts:List TV} {t:TV} (ha:lvals env args=some ts) (hS:S f ts (.sh t)) (hl:t.flat=true) (k:WO S K os ((d,.tv t)::env)):WO S K (⟨some d,.calll f args,none⟩::os) env:=by
 replace k:=k.out
 refine ⟨?_⟩
 simp only [wpOps,PR.wp,AH.wp,ha,A6]; exact ⟨_,⟨hS,hl⟩,fun _=>k⟩
theorem Zp {f:FuncId} {args:List AJ} {ts t:List TV} (ha:lvals env args=some ts) (hS:S f ts (.tp t)) (hl:TV.flats t=true) (k:WO S K os ((d,.tp t)::env)):WO S K (⟨some d,.calll f args,none⟩::os) env:=by
 replace k:=k.out
 refine ⟨?_⟩
 simp only [wpOps,PR.wp,AH.wp,ha,A6]; exact ⟨_,⟨hS,hl⟩,fun _=>k⟩
theorem Zo {α:Type} {f:FuncId} {args:List AJ} {ts es:List TV} {t:TV} {n:Nat} {e:α->TV} {l:List α} (ha:lvals env args=some ts) (hS:S f ts (.own t)) (ht:t=.list n es) (he:es=l.map e) (hf:∀ a,(e a).flat=true) (k:WO S K os ((d,.ow t)::env)):WO S K (⟨some d,.calll f args,none⟩::os) env:=by
 replace k:=k.out
 refine ⟨?_⟩
 subst ht he
 simp only [wpOps,PR.wp,AH.wp,ha,A6]; exact ⟨_,⟨hS,PV hf l⟩,fun _=>k⟩
def QM {α:Type} (l:List α) (j:Int) (z:α):Option (List α):=if (0<=j∧j<=4096)∧l.length+j.toNat<=B9 then some (l++List.replicate j.toNat z) else none
theorem fH {α:Type} {n s:Nat} {zt:TV} {x:AJ} {es rs:List TV} {e:α->TV} {z:α} {l r:List α} {ik:IntKind} {j:Int} (hs:env.get s=.xo n es) (hj:x.val env=some (.int ik j)) (he:es=l.map e) (hz:zt=e z) (h:QM l j z=some r) (hr:rs=r.map e) (hn:env.noRef d=true) (hd:d≠s) (hn1:n=1) (hc:zt.cells=[zt]) (k:WO S K os ((d,.xo n rs)::(s,.undef)::env)):WO S K (⟨some d,.appz n s zt x,none⟩::os) env:=by
 replace k:=k.out
 refine ⟨?_⟩
 subst he hr
 unfold QM at h
 split at h
 ·rename_i hb
  cases h
  simp only [wpOps,PR.wp,AH.wp,hs,hj]
  refine ⟨⟨⟨trivial,hn1⟩,hc⟩,hb.1,⟨by rw [List.length_map]; exact hb.2,hn,hd⟩,?_⟩
  rw [List.map_append,List.map_replicate,←hz] at k
  exact k
 ·cases h
theorem co {f:FuncId} {args:List AJ} {ts t:List TV} (ha:vals env args=some ts) (hS:S f ts (.ext t)) (k:WO S K os ((d,.tp t)::env)):WO S K (⟨some d,.callf f args,none⟩::os) env:=by
 replace k:=k.out
 refine ⟨?_⟩
 simp only [wpOps,PR.wp,AH.wp,ha,A6]; exact ⟨_,hS,k⟩
theorem fO {ps:List (Option AU)} {x:AJ} {t:TV} {cs:List AU} (h:x.val env=some t) (hc:GI ps t.cells=some cs) (hn:env.noRef d=true) (k:WO S K os ((d,.bx cs)::env)):WO S K (⟨some d,.boxp ps x,none⟩::os) env:=by
 replace k:=k.out
 refine ⟨?_⟩
 simp only [wpOps,PR.wp,AH.wp,h,hc,A6]; exact ⟨hn,k⟩
theorem cm {f:FuncId} {args:List AJ} {i s:Nat} {ts us:List TV} {cs cs':List AU} {e:EV} (hp:(args[i]?).bind (·.place env)=some (s,0)) (hs:env.get s=.bx cs) (hn:env.noX s none=true) (hd:d≠s) (ha:Mj env i args=some ts) (hS:S f ts (.bo cs cs' i us)) (he:EV.ofs us=e) (k:WO S K os ((d,e)::(s,.bx cs')::env)):WO S K (⟨some d,.callb f args i,none⟩::os) env:=by
 replace k:=k.out
 refine ⟨?_⟩
 subst he
 simp only [wpOps,PR.wp,AH.wp,hp,hs,ha,A6]; exact ⟨⟨hn,hd⟩,cs',us,hS,fun _=>k⟩
def UU {α:Type} (l:List α):Option Unit:=if l.isEmpty then none else some ()
theorem Xx {α:Type} {l:List α} {u:Unit} {b:Bool} (h:UU l=some u) (hb:b=true->l=[]):b=false:=by
 cases b with
 | false=>rfl
 | true=>rw [hb rfl] at h; cases h
theorem o3 {dd:Option Nat} {op:AH} {g:Nat} {b q:Bool} (hg:env.get g=.tv (.bool q)) (hq:q=b) (k:WO S K (⟨dd,op,none⟩::os) env):WO S K (⟨dd,op,some (g,b)⟩::os) env:=by
 replace k:=k.out
 refine ⟨?_⟩
 subst hq
 simp only [wpOps,PR.wp,hg] at k ⊢
 exact ⟨fun _=>k,fun h=>by cases q <;> simp at h⟩
theorem lb {d:Nat} {op:AH} {g:Nat} {b q:Bool} (hg:env.get g=.tv (.bool q)) (hq:q=!b) (k:WO S K os ((d,.sk)::env)):WO S K (⟨some d,op,some (g,b)⟩::os) env:=by
 replace k:=k.out
 refine ⟨?_⟩
 subst hq
 simp only [wpOps,PR.wp,hg]
 exact ⟨fun h=>by cases b <;> simp at h,fun _=>k⟩
theorem o4 {d:Nat} {op:AH} {g:Nat} {b:Bool} (hg:env.get g=.sk) (k:WO S K os ((d,.sk)::env)):WO S K (⟨some d,op,some (g,b)⟩::os) env:=by
 replace k:=k.out
 refine ⟨?_⟩
 simp only [wpOps,PR.wp,hg]
 exact k
theorem VD (xs ys:List PR) (env:AC):wpOps S K (xs++ys) env=wpOps S (wpOps S K ys) xs env:=by
 induction xs generalizing env with
 | nil=>rfl
 | cons x xs ih=>
  simp only [List.cons_append,wpOps]
  congr 1
  funext e
  exact ih e
theorem lZ {ops:List PR} (n:Nat) (M:AC->AC->Prop) (h1:WO S (M env) (ops.take n) env) (h2:∀ e,M env e->WO S K (ops.drop n) e):WO S K ops env:=by
 refine ⟨?_⟩
 rw [←List.take_append_drop n ops,VD]
 exact Mu S (fun e he=>(h2 e he).out) _ env h1.out
variable {q:Q} {a b:PC}
theorem iC (h:WP S a ⟨fun e=>(∀ s,(e.get s).WF)->WP S b q e,q.exit,q.ret⟩ env):WP S (.seq a b) q env:=⟨PC.wp_mono S a _ env h.out _ (fun _ he hw=>(he hw).out) (fun _ _ h=>h) (fun _ h=>h)⟩
theorem dz {live:List Nat} {env':AC} (hk:env.keep live=env') (h:q.normal env'):WP S (.skip live) q env:=by subst hk; exact ⟨h⟩
theorem dy {i:Nat} {live:List Nat} {env':AC} (hk:env.keep live=env') (h:q.exit i env'):WP S (.exit i live) q env:=by subst hk; exact ⟨h⟩
theorem Qx {x:AJ} {c:Bool} (hc:x.val env=some (.bool c)) (ht:c=true->WP S a q env) (hf:c=false->WP S b q env):WP S (.cond x a b) q env:=by
 refine ⟨?_⟩
 simp only [PC.wp,hc]; exact ⟨fun h=>(ht h).out,fun h=>(hf h).out⟩
theorem Vg {x:AJ} {c:Bool} (hc:x.val env=some (.bool c)) (h:c=true) (ht:WP S a q env):WP S (.cond x a b) q env:=
 Qx hc (fun _=>ht) (fun h'=>by rw [h] at h'; cases h')
theorem Vf {x:AJ} {c:Bool} (hc:x.val env=some (.bool c)) (h:c=false) (ht:WP S b q env):WP S (.cond x a b) q env:=
 Qx hc (fun h'=>by rw [h] at h'; cases h') (fun _=>ht)
theorem SG {i:Nat} (h:WP S a ⟨q.normal,fun j e=>if j=i then q.normal e else q.exit j e,q.ret⟩ env):WP S (.block i a) q env:=⟨h.out⟩
theorem T8 {i:Nat} {x y:Prop} (h:x):if i=i then x else y:=by rw [if_pos rfl]; exact h
theorem bq {i j:Nat} {x y:Prop} (hn:i≠j) (h:y):if i=j then x else y:=by rw [if_neg hn]; exact h
theorem iB (M:AC->Prop) (h1:WP S a ⟨M,q.exit,q.ret⟩ env) (h2:∀ e,M e->q.normal e):WP S a q env:=⟨PC.wp_mono S a _ env h1.out q h2 (fun _ _ h=>h) (fun _ h=>h)⟩
section loops
variable {σ ρ:Type} {live:List Nat} {c:PC} {i0:Nat}
theorem aR {f:Int->σ->Option (CY σ ρ)} {b:Int} (I:Int->σ->AC) (J:σ->AC) (R:ρ->AC->Prop)
  (hstep:∀ i s r,i<b->f i s=some r->(∀ k,((I i s).get k).WF)->c.wp S ⟨fun e=>∃ s',r=.next s'∧e.keep live=I (i+1) s',fun j e=>j=i0∧∃ s',r=.brk s'∧e=J s',fun e=>∃ v,r=.ret v∧R v e⟩ (I i s))
  (hlast:∀ i s,¬ i<b->c.wp S ⟨fun _=>False,fun j e=>j=i0∧e=J s,fun _=>False⟩ (I i s))
  {X:AC->Prop} (hX:∀ e,((∀ s,(e.get s).WF)->c.wp S { q with normal:=fun e'=>X (e'.keep live) } e)->X e) (hE:∀ s,q.exit i0 (J s)∨True) :
  ∀ (n:Nat) (i:Int) (s:σ),n=(b - i).toNat->∀ o,forGo f n i s=some o->(∀ s',o=.inl s'->q.exit i0 (J s'))->(∀ v e,o=.inr v->R v e->q.ret e)->X (I i s):=by
 intro n
 induction n with
 | zero=>
  intro i s hn o ho hj hr
  refine hX _ fun hw=>?_
  refine PC.wp_mono S c _ _ (hlast i s (by omega)) _ (fun _ h=>h.elim) (fun j e he=>?_) (fun _ h=>h.elim)
  obtain ⟨rfl,rfl⟩:=he
  simp only [forGo,zzY] at ho
  exact hj s ho.symm
 | succ n ih=>
  intro i s hn o ho hj hr
  simp only [forGo] at ho
  refine hX _ fun hw=>?_
  cases hf:f i s with
  | none=>rw [hf] at ho; cases ho
  | some r=>
   rw [hf] at ho
   refine PC.wp_mono S c _ _ (hstep i s r (by omega) hf hw) _ (fun e he=>?_) (fun j e he=>?_) (fun e he=>?_)
   ·obtain ⟨s',rfl,he⟩:=he
    show X (e.keep live)
    rw [he]
    exact ih (i+1) s' (by omega) o ho hj hr
   ·obtain ⟨rfl,s',rfl,rfl⟩:=he
    simp only [zzY] at ho
    exact hj s' ho.symm
   ·obtain ⟨v,rfl,he⟩:=he
    simp only [zzY] at ho
    exact hr v e ho.symm he
theorem WQ {f:Int->σ->Option (CY σ ρ)} {lo b:Int} {s0:σ} {o:σ ⊕ ρ} (ho:forR f lo b s0=some o) (I:Int->σ->AC) (J:σ->AC) (R:ρ->AC->Prop) (h0:env.keep live=I lo s0)
  (hstep:∀ i s r,i<b->f i s=some r->(∀ k,((I i s).get k).WF)->WP S c ⟨fun e=>∃ s',r=.next s'∧e.keep live=I (i+1) s',fun j e=>j=i0∧∃ s',r=.brk s'∧e=J s',fun e=>∃ v,r=.ret v∧R v e⟩ (I i s))
  (hlast:∀ i s,¬ i<b->WP S c ⟨fun _=>False,fun j e=>j=i0∧e=J s,fun _=>False⟩ (I i s))
  (hj:∀ s',o=.inl s'->q.normal (J s')) (hr:∀ v e,o=.inr v->R v e->q.ret e):WP S (.block i0 (.loop live c)) q env:=by
 refine SG ⟨?_⟩
 intro X hX
 rw [h0]
 refine aR (q:=⟨q.normal,fun j e=>if j=i0 then q.normal e else q.exit j e,q.ret⟩) I J R (fun i s r h1 h2 h3=>(hstep i s r h1 h2 h3).out) (fun i s h=>(hlast i s h).out) hX (fun _=>.inr trivial) _ lo s0 rfl o ho ?_ hr
 intro s' hs
 exact T8 (hj s' hs)
theorem Vq {f:Int->σ->Option σ}:∀ (n:Nat) (i:Int) (s o:σ),forAGo f n i s=some o->forGo (fun i s=>(f i s).map (CY.next (ρ:=Empty))) n i s=some (.inl o)
 | 0,_,_,_,h=>by simp only [forAGo,zzY] at h; subst h; rfl
 | n+1,i,s,o,h=>by
  simp only [forAGo] at h
  simp only [forGo]
  cases hf:f i s with
  | none=>rw [hf] at h; cases h
  | some s'=>rw [hf] at h; simp only [Option.map]; exact Vq n (i+1) s' o h
theorem dK {f:Int->σ->Option σ} {lo b:Int} {s0 o:σ} (ho:forA f lo b s0=some o) (I:Int->σ->AC) (J:σ->AC) (h0:env.keep live=I lo s0)
  (hstep:∀ i s r,i<b->f i s=some r->(∀ k,((I i s).get k).WF)->WP S c ⟨fun e=>e.keep live=I (i+1) r,fun _ _=>False,fun _=>False⟩ (I i s))
  (hlast:∀ i s,¬ i<b->WP S c ⟨fun _=>False,fun j e=>j=i0∧e=J s,fun _=>False⟩ (I i s))
  (hj:q.normal (J o)):WP S (.block i0 (.loop live c)) q env:=by
 refine WQ (f:=fun i s=>(f i s).map (CY.next (ρ:=Empty))) (o:=.inl o) (Vq _ _ _ _ ho) I J (fun _ _=>False) h0 ?_ hlast ?_ ?_
 ·intro i s r hi hf hw
  simp only [Option.map_eq_some_iff] at hf
  obtain ⟨s',hf,rfl⟩:=hf
  exact ⟨PC.wp_mono S c _ _ (hstep i s s' hi hf hw).out _ (fun e he=>⟨s',rfl,he⟩) (fun _ _ h=>h.elim) (fun _ h=>h.elim)⟩
 ·intro s' h; cases h; exact hj
 ·intro v; cases v
theorem dL {f:σ->Option (CY σ ρ)} (I:σ->AC) (J:σ->AC) (R:ρ->AC->Prop)
  (hstep:∀ s r,f s=some r->(∀ k,((I s).get k).WF)->c.wp S ⟨fun e=>∃ s',r=.next s'∧e.keep live=I s',fun j e=>j=i0∧∃ s',r=.brk s'∧e=J s',fun e=>∃ v,r=.ret v∧R v e⟩ (I s))
  {X:AC->Prop} (hX:∀ e,((∀ s,(e.get s).WF)->c.wp S { q with normal:=fun e'=>X (e'.keep live) } e)->X e) :
  ∀ (n:Nat) (s:σ) (o:σ ⊕ ρ),N4 f n s=some o->(∀ s',o=.inl s'->q.exit i0 (J s'))->(∀ v e,o=.inr v->R v e->q.ret e)->X (I s):=by
 intro n
 induction n with
 | zero=>intro s o ho; cases ho
 | succ n ih=>
  intro s o ho hj hr
  simp only [N4] at ho
  refine hX _ fun hw=>?_
  cases hf:f s with
  | none=>rw [hf] at ho; cases ho
  | some r=>
   rw [hf] at ho
   refine PC.wp_mono S c _ _ (hstep s r hf hw) _ (fun e he=>?_) (fun j e he=>?_) (fun e he=>?_)
   ·obtain ⟨s',rfl,he⟩:=he
    show X (e.keep live)
    rw [he]
    exact ih s' o ho hj hr
   ·obtain ⟨rfl,s',rfl,rfl⟩:=he
    simp only [zzY] at ho
    exact hj s' ho.symm
   ·obtain ⟨v,rfl,he⟩:=he
    simp only [zzY] at ho
    exact hr v e ho.symm he
theorem fx {f:σ->Option (CY σ ρ)} {s0:σ} {o:σ ⊕ ρ} (ho:JB f s0=some o) (I:σ->AC) (J:σ->AC) (R:ρ->AC->Prop) (h0:env.keep live=I s0)
  (hstep:∀ s r,f s=some r->(∀ k,((I s).get k).WF)->WP S c ⟨fun e=>∃ s',r=.next s'∧e.keep live=I s',fun j e=>j=i0∧∃ s',r=.brk s'∧e=J s',fun e=>∃ v,r=.ret v∧R v e⟩ (I s))
  (hj:∀ s',o=.inl s'->q.normal (J s')) (hr:∀ v e,o=.inr v->R v e->q.ret e):WP S (.block i0 (.loop live c)) q env:=by
 obtain ⟨N,hN⟩:=CO ho
 refine SG ⟨?_⟩
 intro X hX
 rw [h0]
 refine dL (q:=⟨q.normal,fun j e=>if j=i0 then q.normal e else q.exit j e,q.ret⟩) I J R (fun s r h1 h2=>(hstep s r h1 h2).out) hX N s0 o (hN N (Nat.le_refl _)) ?_ hr
 intro s' hs
 exact T8 (hj s' hs)
end loops
end
theorem pZ {a b:Int} (h:a<b):decide (a<b)=true:=decide_eq_true h
theorem oz {a b:Int} (h:¬ a<b):decide (a<b)=false:=decide_eq_false h
theorem Tm {t:TV} (h:EV.WF (.tv t)):t.WF:=h
theorem nI {t:TV} (h:EV.WF (.ow t)):t.WF:=h
theorem nJ {n:Nat} {es:List TV} (h:EV.WF (.xo n es)):TV.WF (.list n es):=h
theorem bH {row:List TV} (h:EV.WF (.tv (.pt row))):TV.WFs row:=h
theorem WK {ts:List TV} {i:Nat} {t:TV} (h:TV.WFs ts) (hi:ts[i]?=some t):t.WF:=by
 induction ts generalizing i with
 | nil=>simp at hi
 | cons x xs ih=>
  cases i with
  | zero=>simp at hi; subst hi; exact h.1
  | succ i=>exact ih h.2 (by simpa using hi)
theorem fv {α:Type} {n:Nat} {e:α->TV} {l:List α} (h:TV.WF (.list n (l.map e))):(l.length:Int)<=9223372036854775807:=by
 have:=h.1
 rw [List.length_map] at this
 unfold H5 at this
 omega
theorem P4 {n:Nat} {es:List TV} {α:Type} {e:α->TV} {l:List α} (h:TV.WF (.list n es)) (he:es=l.map e):(l.length:Int)<=9223372036854775807:=by subst he; exact fv h
theorem dJ {s:ByteArray} (h:TV.WF (.str s)):(s.size:Int)<=9223372036854775807:=by
 have:s.size<=H5:=h
 unfold H5 at this
 omega
theorem Yt {n:Int} (h:TV.WF (.int .i64 n)):n<=9223372036854775807:=h.2
theorem Ys (n:Int):A8 n=if 9223372036854775808<=n % 18446744073709551616 then n % 18446744073709551616 - 18446744073709551616 else n % 18446744073709551616:=by
 have e1:(2:Int) ^ 64=18446744073709551616:=by decide
 have e2:(2:Int) ^ (64 - 1)=9223372036854775808:=by decide
 simp only [A8,IntKind.wrap,IntKind.bits,IntKind.signed,Bool.true_and,zzX,e1,e2,ge_iff_le]
theorem ft (n:Int):A8 n<=9223372036854775807:=by
 rw [Ys]; split <;> omega
theorem BN {n:Int} (h1:-9223372036854775808<=n) (h2:n<=9223372036854775807):A8 n=n:=by
 rw [Ys]; split <;> omega
theorem nK {i b:Int} (hi:TV.WF (.int .i64 i)) (h:i<b) (hb:b<=9223372036854775807):IntKind.i64.wrap (i+1)=i+1:=by
 have h1:(-9223372036854775808:Int)<=i:=hi.1
 exact BN (by omega) (by omega)
end Go.Sf
