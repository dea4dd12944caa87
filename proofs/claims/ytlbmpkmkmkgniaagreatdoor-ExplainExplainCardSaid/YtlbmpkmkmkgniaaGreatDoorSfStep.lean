/- Steps of the pure language with typed values: one rule an operation, one a piece of code, one a kind of loop. -/
import Derived.Test.YtlbmpkmkmkgniaaGreatDoorSfSem
set_option linter.all false
namespace Go.Sf
abbrev A4 (n:Int):Int:=IntKind.i64.wrap n
def AM {α:Type} (l:List α) (j:Int):Option α:=if 0<=j then l[j.toNat]? else none
def slc {α:Type} (l:List α) (a b:Int):Option (List α):=if (0<=a∧a<=b)∧b<=l.length then some ((l.take b.toNat).drop a.toNat) else none
def sslc (s:ByteArray) (a b:Int):Option ByteArray:=if 0<=a∧a<=b∧b<=s.size then some (s.extract a.toNat b.toNat) else none
def sidx (s:ByteArray) (j:Int):dD:=if 0<=j then (s[j.toNat]?).map (fun b=>(b.toNat:Int)) else none
def B0 {α:Type} (l m:List α):Option (List α):=if l.length+m.length<=BM then some (l++m) else none
def quo (a b:Int):dD:=if b=0 then none else some (a.tdiv b)
def eR (a b:Int):dD:=if b=0 then none else some (a.tmod b)
inductive CZ (σ ρ:Type) where
 | next (s:σ)
 | brk (s:σ)
 | ret (r:ρ)
section loops
variable {σ ρ:Type}
def forGo (f:Int->σ->Option (CZ σ ρ)):Nat->Int->σ->Option (σ ⊕ ρ)
 | 0,_,s=>some (.inl s)
 | n+1,i,s=>match f i s with
  | none=>none
  | some (.next s')=>forGo f n (i+1) s'
  | some (.brk s')=>some (.inl s')
  | some (.ret r)=>some (.inr r)
def forR (f:Int->σ->Option (CZ σ ρ)) (a b:Int) (s:σ):Option (σ ⊕ ρ):=forGo f (b - a).toNat a s
def forAGo (f:Int->σ->Option σ):Nat->Int->σ->Option σ
 | 0,_,s=>some s
 | n+1,i,s=>match f i s with
  | none=>none
  | some s'=>forAGo f n (i+1) s'
def forA (f:Int->σ->Option σ) (a b:Int) (s:σ):Option σ:=forAGo f (b - a).toNat a s
def Po (f:σ->Option (CZ σ ρ)):Nat->σ->Option (σ ⊕ ρ)
 | 0,_=>none
 | n+1,s=>match f s with
  | none=>none
  | some (.next s')=>Po f n s'
  | some (.brk s')=>some (.inl s')
  | some (.ret r)=>some (.inr r)
end loops
class Ev where
 fuel:Option Nat
instance B9:Ev:=⟨none⟩
open Classical in
noncomputable def Wb {α:Type} (g:Nat->Option α):Option α:=if h:∃ v N,∀ n,N<=n->g n=some v then some h.choose else none
noncomputable def HH [e:Ev] {α:Type} (g:Nat->Option α):Option α:=match e.fuel with
 | none=>Wb g
 | some n=>g n
variable {α:Type}
theorem CE {g:Nat->Option α} {v:α} (h:HH g=some v):∃ N,∀ n,N<=n->g n=some v:=by
 change Wb g=some v at h;unfold Wb at h;split at h
 ·rename_i k;cases h;exact k.choose_spec
 ·cases h
theorem E9 {g:Nat->Option α} {v:α} (N:Nat) (h:∀ n,N<=n->g n=some v):HH g=some v:=by
 have k:∃ v N,∀ n,N<=n->g n=some v:=⟨v,N,h⟩;show Wb g=some v;unfold Wb;rw [dif_pos k];obtain ⟨M,B⟩:=k.choose_spec;have A:=h (max N M) (Nat.le_max_left _ _);have w:=B (max N M) (Nat.le_max_right _ _);rw [A] at w;exact w.symm
noncomputable def I7 [Ev] {σ ρ:Type} (f:σ->Option (CZ σ ρ)) (s:σ):Option (σ ⊕ ρ):=HH fun n=>Po f n s
def thenR {σ ρ β:Type} (o:Option (σ ⊕ ρ)) (k:σ->Option β) (kr:ρ->Option β):Option β:=
 match o with
 | none=>none
 | some (.inl s)=>k s
 | some (.inr v)=>kr v
theorem UK {σ ρ β:Type} {o:Option (σ ⊕ ρ)} {k:σ->Option β} {w:ρ->Option β} {b:β} (h:thenR o k w=some b):∃ x,o=some x∧thenR (some x) k w=some b:=by
 cases o with
 | none=>cases h
 | some x=>exact ⟨x,rfl,h⟩
theorem Yi {σ ρ β:Type} {x:σ ⊕ ρ} {k:σ->Option β} {w:ρ->Option β} {b:β} {s:σ} (h:thenR (some x) k w=some b) (A:x=.inl s):k s=some b:=by subst A; exact h
theorem Yj {σ ρ β:Type} {x:σ ⊕ ρ} {k:σ->Option β} {w:ρ->Option β} {b:β} {v:ρ} (h:thenR (some x) k w=some b) (A:x=.inr v):w v=some b:=by subst A; exact h
def B1 {α:Type} (l:List α) (j:Int) (a:α):List α:=l.set j.toNat a
def Jn {α:Type} (j:Int) (a:α):Option (List α):=if 0<=j∧j<=4096 then some (List.replicate j.toNat a) else none
def NB (a b:ByteArray):Option ByteArray:=if a.size+b.size<=BM then some (a++b) else none
variable {β:Type}
theorem bind_some {x:Option α} {f:α->Option β} {b:β} (h:x.bind f=some b):∃ a,x=some a∧f a=some b:=Option.bind_eq_some_iff.1 h
theorem Vm {c:Bool} {a b:α} {r:α} (k:c=true) (h:(if c=true then a else b)=r):a=r:=by rw [d1 k] at h; exact h
theorem Vl {c:Bool} {a b:α} {r:α} (k:c=false) (h:(if c=true then a else b)=r):b=r:=by rw [d2 (by simp [k])] at h; exact h
theorem nf {c:Bool} (h:c=false):(!c)=true:=by rw [h]; rfl
structure WO (S:FuncId->QQ->CS->Prop) (K:AD->Prop) (os:List PR) (O:AD):Prop where
 of::out:wpOps S K os O
structure WP (S:FuncId->QQ->CS->Prop) (c:PC) (q:Q) (O:AD):Prop where
 of::out:c.wp S q O
section
variable {S:FuncId->QQ->CS->Prop} {K:AD->Prop} {os:List PR} {O:AD} {d:Nat}
variable {t:TV}
theorem RW {x:AL} (h:x.val O=some t):x.ev O=.tv t∨x.ev O=.ow t:=by
 unfold AL.val EV.val at h;split at h <;> simp_all
theorem uA {x:AL} (h:x.val O=some t) (k:WO S K os ((d,.tv t)::O)):WO S K (⟨some d,.mv x,none⟩::os) O:=by
 replace k:=k.out;refine ⟨?_⟩;simp only [wpOps,PR.wp,AJ.wp];rcases RW h with h | h <;> rw [h] <;> exact k
variable {s:Nat}
theorem uC (h:O.get s=.ow t) (k:WO S K os ((d,.ow t)::(s,.tv t)::O)):WO S K (⟨some d,.tk s,none⟩::os) O:=by
 replace k:=k.out;refine ⟨?_⟩;simp only [wpOps,PR.wp,AJ.wp,h]; exact k
theorem rJ (h:O.get s=.tv t) (k:WO S K os ((d,.tv t)::O)):WO S K (⟨some d,.tk s,none⟩::os) O:=by
 replace k:=k.out;refine ⟨?_⟩;simp only [wpOps,PR.wp,AJ.wp,h]; exact k
variable {n:Nat}
theorem jy (k:WO S K os ((d,.ow (.list n []))::O)):WO S K (⟨some d,.nilo n,none⟩::os) O:=by
 replace k:=k.out;refine ⟨?_⟩;simp only [wpOps,PR.wp,AJ.wp]; exact k
theorem qp {x:AL} {j:Nat} {row:QQ} (h:x.ev O=.tv (.pt row)) (k:WO S K os ((d,.tv (.pt (row.drop j)))::O)):WO S K (⟨some d,.fad x j,none⟩::os) O:=by
 replace k:=k.out;refine ⟨?_⟩;simp only [wpOps,PR.wp,AJ.wp,h]; exact k
theorem ju {x:AL} {j s off:Nat} {cs:List At} (h:x.ev O=.bp s off) (w:O.get s=.bx cs) (k:WO S K os ((d,.bp s (off+j))::O)):WO S K (⟨some d,.fad x j,none⟩::os) O:=by
 replace k:=k.out;refine ⟨?_⟩;simp only [wpOps,PR.wp,AJ.wp,h,w]; exact k
theorem jk {s j:Nat} {cs:List At} (h:O.get s=.bx cs) (k:WO S K os ((d,.bp s j)::O)):WO S K (⟨some d,.bad s j,none⟩::os) O:=by
 replace k:=k.out;refine ⟨?_⟩;simp only [wpOps,PR.wp,AJ.wp,h]; exact k
theorem qa {s j:Nat} {row:QQ} (h:O.get s=.tv (.pt row)) (k:WO S K os ((d,.tv (.pt (row.drop j)))::O)):WO S K (⟨some d,.bad s j,none⟩::os) O:=by
 replace k:=k.out;refine ⟨?_⟩;simp only [wpOps,PR.wp,AJ.wp,h]; exact k
variable {α:Type} {e:α->TV} {l:List α} {j:Int}
theorem qu {x i:AL} {es row:QQ} {ik:IntKind} {a:α} (w:x.val O=some (.list n es)) (hi:i.val O=some (.int ik j)) (A:es=l.map e) (h:AM l j=some a) (B:(e a).cells=row)
  (k:WO S K os ((d,.tv (.pt row))::O)):WO S K (⟨some d,.iad x i n,none⟩::os) O:=by
 replace k:=k.out;refine ⟨?_⟩;subst A B;simp only [wpOps,PR.wp,AJ.wp,w,hi];unfold AM at h;split at h
 ·rename_i C;exact ⟨trivial,C,e a,by rw [List.getElem?_map,h]; rfl,k⟩
 ·cases h
theorem qX {x i:AL} {n m h:Nat} {row:QQ} {ik:IntKind} (w:x.ev O=.tv (.pt row)) (hi:i.val O=some (.int ik j)) (A:0<=j) (B:j<m) (C:m*n<=row.length) (D:j.toNat*n=h)
  (k:WO S K os ((d,.tv (.pt (row.drop h)))::O)):WO S K (⟨some d,.aad x i n m,none⟩::os) O:=by
 replace k:=k.out;refine ⟨?_⟩;subst D;simp only [wpOps,PR.wp,AJ.wp,w,hi];exact ⟨A,B,C,k⟩
theorem jg {x:AL} {n m:Nat} {row w:QQ} {ik:IntKind} (A:x.ev O=.tv (.pt row)) (h:(decide (0<=j)&&decide (j<m)&&Nat.ble (m*n) row.length)=true) (B:row.drop (j.toNat*n)=w)
  (k:WO S K os ((d,.tv (.pt w))::O)):WO S K (⟨some d,.aad x (.c (.int ik j)) n m,none⟩::os) O:=by
 simp only [zzZ,zzX] at h;subst B;exact qX A rfl h.1.1 h.1.2 (Nat.le_of_ble_eq_true h.2) rfl k
theorem t8 {x:AL} {r:QQ} (h:BZ O (x.ev O)=some (t::r)) (w:t.isXl=false) (k:WO S K os ((d,.tv t)::O)):WO S K (⟨some d,.ld x,none⟩::os) O:=by
 replace k:=k.out;refine ⟨?_⟩;simp only [wpOps,PR.wp,AJ.wp,h,BB,IG]; exact ⟨w,k⟩
theorem Zc {x:AL} {cs:QQ} (h:BZ O (x.ev O)=some cs) (w:Nat.ble n cs.length=true) (A:TV.agg (cs.take n)=t) (k:WO S K os ((d,.tv t)::O)):WO S K (⟨some d,.lda x n,none⟩::os) O:=by
 replace k:=k.out;refine ⟨?_⟩;subst A;simp only [wpOps,PR.wp,AJ.wp,h,BB]; exact ⟨Nat.le_of_ble_eq_true w,k⟩
theorem eV {cs:List At} (h:O.get s=.bx cs) (w:Nat.ble n (cs.map (·.t)).length=true) (A:TV.agg ((cs.map (·.t)).take n)=t) (k:WO S K os ((d,.tv t)::O)):WO S K (⟨some d,.ldb s n,none⟩::os) O:=by
 replace k:=k.out;refine ⟨?_⟩;subst A;simp only [wpOps,PR.wp,AJ.wp,h]; exact ⟨Nat.le_of_ble_eq_true w,k⟩
variable {off:Nat}
theorem qw {x:AL} {cs:List At} {es:QQ} (h:x.place O=some (s,off)) (w:O.get s=.bx cs) (A:cs[off]?=some ⟨true,t⟩) {cs':List At} (B:cs.set off ⟨false,t⟩=cs') (C:t=.list n es)
  (k:WO S K os ((d,.ow t)::(s,.bx cs')::O)):WO S K (⟨some d,.ldt x,none⟩::os) O:=by
 replace k:=k.out;refine ⟨?_⟩;subst B C;simp only [wpOps,PR.wp,AJ.wp,h,w,A]; exact k
section bins
variable {x y:AL} {ik:IntKind} {a b:Int}
theorem Ii {h:BK} {op:BinOp} {u v t:TV} (w:x.val O=some u) (A:y.val O=some v) (B:F5 h op u v=some t) (k:WO S K os ((d,.tv t)::O)):WO S K (⟨some d,.bin h op x y,none⟩::os) O:=by
 replace k:=k.out;refine ⟨?_⟩;simp only [wpOps,PR.wp,AJ.wp,w,A,B,BB]; exact k
theorem ql (h:x.val O=some (.int ik a)) (w:y.val O=some (.int ik b)) (k:WO S K os ((d,.tv (.bool (decide (a=b))))::O)):WO S K (⟨some d,.bin .i .eql x y,none⟩::os) O:=
 Ii h w (by simp [F5,intCmp]) k
theorem rA (h:x.val O=some (.int ik a)) (w:y.val O=some (.int ik b)) (k:WO S K os ((d,.tv (.bool (!decide (a=b))))::O)):WO S K (⟨some d,.bin .i .neq x y,none⟩::os) O:=
 Ii h w (by simp [F5,intCmp]) k
theorem qz (h:x.val O=some (.int ik a)) (w:y.val O=some (.int ik b)) (k:WO S K os ((d,.tv (.bool (decide (a<b))))::O)):WO S K (⟨some d,.bin .i .lss x y,none⟩::os) O:=
 Ii h w (by simp [F5,intCmp]) k
theorem qy (h:x.val O=some (.int ik a)) (w:y.val O=some (.int ik b)) (k:WO S K os ((d,.tv (.bool (decide (a<=b))))::O)):WO S K (⟨some d,.bin .i .leq x y,none⟩::os) O:=
 Ii h w (by simp [F5,intCmp]) k
theorem qt (h:x.val O=some (.int ik a)) (w:y.val O=some (.int ik b)) (k:WO S K os ((d,.tv (.bool (decide (b<a))))::O)):WO S K (⟨some d,.bin .i .gtr x y,none⟩::os) O:=
 Ii h w (by simp [F5,intCmp]) k
theorem qr (h:x.val O=some (.int ik a)) (w:y.val O=some (.int ik b)) (k:WO S K os ((d,.tv (.bool (decide (b<=a))))::O)):WO S K (⟨some d,.bin .i .geq x y,none⟩::os) O:=
 Ii h w (by simp [F5,intCmp]) k
theorem qY (h:x.val O=some (.int ik a)) (w:y.val O=some (.int ik b)) (k:WO S K os ((d,.tv (.int ik (ik.wrap (a+b))))::O)):WO S K (⟨some d,.bin .i .add x y,none⟩::os) O:=
 Ii h w (by simp [F5,intCmp,intArith]) k
theorem rI (h:x.val O=some (.int ik a)) (w:y.val O=some (.int ik b)) (k:WO S K os ((d,.tv (.int ik (ik.wrap (a - b))))::O)):WO S K (⟨some d,.bin .i .sub x y,none⟩::os) O:=
 Ii h w (by simp [F5,intCmp,intArith]) k
theorem q7 (h:x.val O=some (.int ik a)) (w:y.val O=some (.int ik b)) (k:WO S K os ((d,.tv (.int ik (ik.wrap (a*b))))::O)):WO S K (⟨some d,.bin .i .mul x y,none⟩::os) O:=
 Ii h w (by simp [F5,intCmp,intArith]) k
theorem rC {q:Int} (A:x.val O=some (.int ik a)) (B:y.val O=some (.int ik b)) (w:quo a b=some q) (k:WO S K os ((d,.tv (.int ik (ik.wrap q)))::O)):WO S K (⟨some d,.bin .i .quo x y,none⟩::os) O:=by
 refine Ii A B ?_ k;unfold quo at w;simp only [F5,if_true,intCmp,intArith];split at w
 ·cases w
 ·rename_i h; rw [d2 h,←Option.some.inj w]
theorem rE {q:Int} (A:x.val O=some (.int ik a)) (B:y.val O=some (.int ik b)) (w:eR a b=some q) (k:WO S K os ((d,.tv (.int ik q))::O)):WO S K (⟨some d,.bin .i .rem x y,none⟩::os) O:=by
 refine Ii A B ?_ k;unfold eR at w;simp only [F5,if_true,intCmp,intArith];split at w
 ·cases w
 ·rename_i h; rw [d1 ⟨trivial,h⟩,←Option.some.inj w]
variable {ik':IntKind}
theorem qc {op:BinOp} {r:Int} (h:x.val O=some (.int ik a)) (A:y.val O=some (.int ik' b)) (B:ik=ik'∨op=.shl∨op=.shr) (C:Lu ik op a b=some r) (k:WO S K os ((d,.tv (.int ik r))::O)):WO S K (⟨some d,.bin .w op x y,none⟩::os) O:=
 Ii h A (by simp only [F5]; rw [d1 B,C]) k
variable {u v:ByteArray}
theorem j6 (h:x.val O=some (.str u)) (w:y.val O=some (.str v)) (k:WO S K os ((d,.tv (.bool (u==v)))::O)):WO S K (⟨some d,.bin .s .eql x y,none⟩::os) O:=
 Ii h w (by simp [F5]) k
theorem j9 (h:x.val O=some (.str u)) (w:y.val O=some (.str v)) (k:WO S K os ((d,.tv (.bool (!(u==v))))::O)):WO S K (⟨some d,.bin .s .neq x y,none⟩::os) O:=
 Ii h w (by simp [F5]) k
theorem j5 {u v t:ByteArray} (w:x.val O=some (.str u)) (A:y.val O=some (.str v)) (h:NB u v=some t) (k:WO S K os ((d,.tv (.str t))::O)):WO S K (⟨some d,.bin .s .add x y,none⟩::os) O:=by
 refine Ii w A ?_ k;unfold NB at h;simp only [F5];split at h
 ·rename_i B; rw [d1 B,←Option.some.inj h]
 ·cases h
theorem jm {u v:Bool} (h:x.val O=some (.bool u)) (w:y.val O=some (.bool v)) (k:WO S K os ((d,.tv (.bool (u==v)))::O)):WO S K (⟨some d,.bin .b .eql x y,none⟩::os) O:=
 Ii h w (by simp [F5]) k
theorem jp {u v:Bool} (h:x.val O=some (.bool u)) (w:y.val O=some (.bool v)) (k:WO S K os ((d,.tv (.bool (!(u==v))))::O)):WO S K (⟨some d,.bin .b .neq x y,none⟩::os) O:=
 Ii h w (by simp [F5]) k
theorem bH {n:ci} {cs w:QQ} {r:Bool} (A:x.val O=some (.agg cs)) (B:y.val O=some (.agg w)) (C:cs.map TV.kd=n) (h:CY cs w=some r) (k:WO S K os ((d,.tv (.bool r))::O)):WO S K (⟨some d,.bin (.a n) .eql x y,none⟩::os) O:=
 Ii A B (by simp [F5,C,h]) k
theorem bI {n:ci} {cs w:QQ} {r:Bool} (A:x.val O=some (.agg cs)) (B:y.val O=some (.agg w)) (C:cs.map TV.kd=n) (h:CY cs w=some r) (k:WO S K os ((d,.tv (.bool (!r)))::O)):WO S K (⟨some d,.bin (.a n) .neq x y,none⟩::os) O:=
 Ii A B (by simp [F5,C,h]) k
end bins
theorem rB {x:AL} {b:Bool} (h:x.val O=some (.bool b)) (k:WO S K os ((d,.tv (.bool (!b)))::O)):WO S K (⟨some d,.not x,none⟩::os) O:=by
 replace k:=k.out;refine ⟨?_⟩;simp only [wpOps,PR.wp,AJ.wp,h]; exact k
theorem q9 {x:AL} {ik:IntKind} {n:Int} (h:x.val O=some (.int ik n)) (k:WO S K os ((d,.tv (.int ik (ik.wrap (-n))))::O)):WO S K (⟨some d,.neg x,none⟩::os) O:=by
 replace k:=k.out;refine ⟨?_⟩;simp only [wpOps,PR.wp,AJ.wp,h]; exact k
variable {t:TV}
theorem gf {c a b:AL} {q:Bool} (w:c.val O=some (.bool q)) (A:q=true) (h:a.val O=some t) (k:WO S K os ((d,.tv t)::O)):WO S K (⟨some d,.pick c a b,none⟩::os) O:=by
 replace k:=k.out;refine ⟨?_⟩;subst A;simp only [wpOps,PR.wp,AJ.wp,w,if_true];rcases RW h with h | h <;> rw [h] <;> exact k
theorem gc {c a b:AL} {q:Bool} (w:c.val O=some (.bool q)) (A:q=false) (h:b.val O=some t) (k:WO S K os ((d,.tv t)::O)):WO S K (⟨some d,.pick c a b,none⟩::os) O:=by
 replace k:=k.out;refine ⟨?_⟩;subst A;simp only [wpOps,PR.wp,AJ.wp,w,Bool.false_eq_true,if_false];rcases RW h with h | h <;> rw [h] <;> exact k
variable {α:Type} {n:Nat} {e:α->TV} {l:List α}
theorem qx {x:AL} {es:QQ} (h:x.val O=some (.list n es)) (w:es=l.map e) (k:WO S K os ((d,.tv (.int .i64 l.length))::O)):WO S K (⟨some d,.len x,none⟩::os) O:=by
 replace k:=k.out;refine ⟨?_⟩;subst w;simp only [wpOps,PR.wp,AJ.wp,h,d7]; exact k
theorem j8 {x:AL} {s:ByteArray} (h:x.val O=some (.str s)) (k:WO S K os ((d,.tv (.int .i64 s.size))::O)):WO S K (⟨some d,.slen x,none⟩::os) O:=by
 replace k:=k.out;refine ⟨?_⟩;simp only [wpOps,PR.wp,AJ.wp,h]; exact k
variable {m:List α}
theorem XI {a b:Int} (h:slc l a b=some m):((0<=a∧a<=b)∧b<=l.length)∧m=(l.take b.toNat).drop a.toNat:=by
 unfold slc at h;split at h
 ·rename_i k; exact ⟨k,(Option.some.inj h).symm⟩
 ·cases h
variable {ka kb:IntKind}
theorem rF {x:AL} {lo hi:Option AL} {es:QQ} {a b:Int} (h:x.val O=some (.list n es)) (C:es=l.map e) (w:HP O 0 lo=some (.int ka a)) (A:HP O l.length hi=some (.int kb b)) (D:slc l a b=some m)
  (k:WO S K os ((d,.tv (.list n (m.map e)))::O)):WO S K (⟨some d,.slc n x lo hi,none⟩::os) O:=by
 replace k:=k.out;refine ⟨?_⟩;subst C;obtain ⟨⟨B,E⟩,F⟩:=XI D;subst F;simp only [wpOps,PR.wp,AJ.wp,h,d7,w,A];refine ⟨⟨trivial,B.1,B.2⟩,E,?_⟩;rw [List.map_drop,List.map_take] at k;exact k
theorem kA {x:AL} {lo hi:Option AL} {s t:ByteArray} {a b:Int} (h:x.val O=some (.str s)) (A:HP O 0 lo=some (.int ka a)) (B:HP O s.size hi=some (.int kb b)) (w:sslc s a b=some t)
  (k:WO S K os ((d,.tv (.str t))::O)):WO S K (⟨some d,.sslc x lo hi,none⟩::os) O:=by
 replace k:=k.out;refine ⟨?_⟩;unfold sslc at w;split at w
 ·rename_i C;cases w;simp only [wpOps,PR.wp,AJ.wp,h,A,B];exact ⟨C.1,C.2.1,C.2.2,k⟩
 ·cases w
variable {zero:QQ} {parts:List (Nat × Nat × AL)}
theorem Zb {ts:List (Nat × Nat × TV)} {cs:QQ} (h:It O parts=some ts) (w:IE zero ts=some cs) (A:TV.agg cs=t) (k:WO S K os ((d,.tv t)::O)):WO S K (⟨some d,.bld zero parts,none⟩::os) O:=by
 replace k:=k.out;refine ⟨?_⟩;subst A;simp only [wpOps,PR.wp,AJ.wp,h,BB,w]; exact k
def Zd:Nat->List (Nat × Nat × TV)->Bool
 | _,[]=>true
 | k,(i,n,t)::r=>Nat.beq i k&&Nat.beq t.cells.length n&&Zd (k+n) r
def PK:List (Nat × Nat × TV)->QQ
 | []=>[]
 | (_,_,t)::r=>t.cells++PK r
theorem VJ:∀ (w done k rest:QQ),k.length=w.length->Nq (done++(k++rest)) done.length w=done++(w++rest)
 | [],done,k,rest,h=>by
  have:k=[]:=List.eq_nil_of_length_eq_zero (by simpa using h);subst this; rfl
 | d::w,done,[],rest,h=>by simp at h
 | d::w,done,m::k,rest,h=>by
  simp only [Nq];rw [List.cons_append,List.set_append_right _ _ (d3 _),Nat.sub_self,List.set_cons_zero];have:=VJ w (done++[d]) k rest (by simpa using h);simpa using this
theorem Uy:∀ (ts:List (Nat × Nat × TV)) (done rest:QQ),Zd done.length ts=true->(PK ts).length=rest.length->IE (done++rest) ts=some (done++PK ts)
 | [],done,rest,_,h=>by
  have:rest=[]:=List.eq_nil_of_length_eq_zero (by simpa [PK] using h.symm);subst this; rfl
 | (i,n,t)::r,done,rest,w,h=>by
  simp only [Zd,zzZ,Nat.beq_eq] at w;obtain ⟨⟨rfl,k⟩,C⟩:=w;simp only [PK,d4] at h;have A:n<=rest.length:=by omega
  simp only [IE];rw [d1 ⟨k,by rw [d4]; omega⟩];have B:rest=rest.take n++rest.drop n:=(List.take_append_drop n rest).symm;rw [B,VJ t.cells done (rest.take n) (rest.drop n) (by rw [d5]; omega),←ea];rw [Uy r (done++t.cells) (rest.drop n) (by rw [d4,k]; exact C) (by rw [List.length_drop]; omega)];simp [PK]
theorem jn {ts:List (Nat × Nat × TV)} (h:It O parts=some ts) (w:Zd 0 ts=true) (A:Nat.beq (PK ts).length zero.length=true) (B:TV.agg (PK ts)=t) (k:WO S K os ((d,.tv t)::O)):WO S K (⟨some d,.bld zero parts,none⟩::os) O:=
 Zb h (by have:=Uy ts [] zero w (Nat.eq_of_beq_eq_true A); simpa using this) B k
variable {ts:QQ}
theorem eW {parts:List AL} (h:vals O parts=some ts) (w:ts=l.map e) (A:∀ a,(e a).cells.length=n) (k:WO S K os ((d,.ow (.list n (l.map e)))::O)):WO S K (⟨some d,.lst n parts,none⟩::os) O:=by
 replace k:=k.out;refine ⟨?_⟩;subst w;simp only [wpOps,PR.wp,AJ.wp,h,BB];refine ⟨fun t B=>?_,k⟩;obtain ⟨a,_,rfl⟩:=List.mem_map.1 B;exact A a
variable {s:Nat} {r:List α}
theorem eT {y:AL} {es w rs:QQ} (B:O.get s=.ow (.list n es)) (C:y.val O=some (.list n w)) (A:es=l.map e) (D:w=m.map e) (h:B0 l m=some r) (E:rs=r.map e)
  (k:WO S K os ((d,.ow (.list n rs))::(s,.tv (.list n es))::O)):WO S K (⟨some d,.app n (.s s) y,none⟩::os) O:=by
 replace k:=k.out;refine ⟨?_⟩;subst D E;unfold B0 at h;split at h
 ·rename_i F;cases h;simp only [wpOps,PR.wp,AJ.wp,AL.ev,B,C,A,d7];rw [A] at k;refine ⟨by simp,by simp,F,?_⟩;rw [List.map_append] at k;exact k
 ·cases h
variable {f:FuncId}
theorem bJ {args:List AL} (h:vals O args=some ts) (w:S f ts (.sh t)) (k:WO S K os ((d,.tv t)::O)):WO S K (⟨some d,.call f args,none⟩::os) O:=by
 replace k:=k.out;refine ⟨?_⟩;simp only [wpOps,PR.wp,AJ.wp,h,BB]; exact ⟨_,⟨w,rfl⟩,fun _=>k⟩
theorem gU {args:List AL} (h:vals O args=some ts) (w:S f ts (.own t)) (k:WO S K os ((d,.ow t)::O)):WO S K (⟨some d,.call f args,none⟩::os) O:=by
 replace k:=k.out;refine ⟨?_⟩;simp only [wpOps,PR.wp,AJ.wp,h,BB]; exact ⟨_,⟨w,rfl⟩,fun _=>k⟩
theorem gX {args:List AL} {ts es:QQ} (h:vals O args=some ts) (w:S f ts (.xown n es)) (k:WO S K os ((d,.ow (.list n es))::O)):WO S K (⟨some d,.call f args,none⟩::os) O:=by
 replace k:=k.out;refine ⟨?_⟩;simp only [wpOps,PR.wp,AJ.wp,h,BB]; exact ⟨_,⟨w,rfl⟩,fun _=>k⟩
theorem gV {args:List AL} {ts t:QQ} (h:vals O args=some ts) (w:S f ts (.tp t)) (k:WO S K os ((d,.tp t)::O)):WO S K (⟨some d,.call f args,none⟩::os) O:=by
 replace k:=k.out;refine ⟨?_⟩;simp only [wpOps,PR.wp,AJ.wp,h,BB]; exact ⟨_,⟨w,rfl⟩,fun _=>k⟩
variable {caps:QQ}
theorem gW {x:AL} {args:List AL} (h:x.val O=some (.clo f caps)) (w:vals O args=some ts) (A:S f (ts++caps) (.sh t)) (k:WO S K os ((d,.tv t)::O)):WO S K (⟨some d,.callv x args,none⟩::os) O:=by
 replace k:=k.out;refine ⟨?_⟩;simp only [wpOps,PR.wp,AJ.wp,h,w]; exact ⟨_,⟨A,rfl⟩,fun _=>k⟩
theorem dB {x:AL} {args:List AL} (h:x.val O=some (.clo f caps)) (w:vals O args=some ts) (A:S f (ts++caps) (.own t)) (k:WO S K os ((d,.ow t)::O)):WO S K (⟨some d,.callv x args,none⟩::os) O:=by
 replace k:=k.out;refine ⟨?_⟩;simp only [wpOps,PR.wp,AJ.wp,h,w]; exact ⟨_,⟨A,rfl⟩,fun _=>k⟩
theorem dC {x:AL} {args:List AL} {ts t:QQ} (h:x.val O=some (.clo f caps)) (w:vals O args=some ts) (A:S f (ts++caps) (.tp t)) (k:WO S K os ((d,.tp t)::O)):WO S K (⟨some d,.callv x args,none⟩::os) O:=by
 replace k:=k.out;refine ⟨?_⟩;simp only [wpOps,PR.wp,AJ.wp,h,w]; exact ⟨_,⟨A,rfl⟩,fun _=>k⟩
theorem qe {caps:List AL} (h:vals O caps=some ts) (k:WO S K os ((d,.tv (.clo f ts))::O)):WO S K (⟨some d,.clo f caps,none⟩::os) O:=by
 replace k:=k.out;refine ⟨?_⟩;simp only [wpOps,PR.wp,AJ.wp,h,BB]; exact k
variable {i:Nat}
theorem qo {x:AL} (h:x.ev O=.tp ts) (hi:ts[i]?=some t) (k:WO S K os ((d,.tv t)::O)):WO S K (⟨some d,.ext x i,none⟩::os) O:=by
 replace k:=k.out;refine ⟨?_⟩;simp only [wpOps,PR.wp,AJ.wp,h,hi,BB]; exact k
theorem q8 {x:AL} (h:x.ev O=.tp ts) (k:WO S K os ((d,.tp ts)::O)):WO S K (⟨some d,.mv x,none⟩::os) O:=by
 replace k:=k.out;refine ⟨?_⟩;simp only [wpOps,PR.wp,AJ.wp,h]; exact k
theorem qk {ik ik':IntKind} {x:AL} {n:Int} (h:x.val O=some (.int ik' n)) (k:WO S K os ((d,.tv (.int ik (ik.wrap n)))::O)):WO S K (⟨some d,.cvt ik x,none⟩::os) O:=by
 replace k:=k.out;refine ⟨?_⟩;simp only [wpOps,PR.wp,AJ.wp,h]; exact k
theorem j7 {x i:AL} {s:ByteArray} {ik:IntKind} {j b:Int} (h:x.val O=some (.str s)) (hi:i.val O=some (.int ik j)) (w:sidx s j=some b) (k:WO S K os ((d,.tv (.int .u8 b))::O)):WO S K (⟨some d,.sidx x i,none⟩::os) O:=by
 replace k:=k.out;refine ⟨?_⟩;unfold sidx at w;split at w
 ·rename_i A;rw [Option.map_eq_some_iff] at w;obtain ⟨c,B,rfl⟩:=w;simp only [wpOps,PR.wp,AJ.wp,h,hi];exact ⟨A,c,B,k⟩
 ·cases w
theorem jt {x:AL} {row:QQ} (h:x.val O=some t) (w:t.cells=row) (k:WO S K os ((d,.tv (.pt row))::O)):WO S K (⟨some d,.boxs x,none⟩::os) O:=by
 replace k:=k.out;refine ⟨?_⟩;subst w;simp only [wpOps,PR.wp,AJ.wp,h]; exact k
theorem jq {x:AL} {row:QQ} {cs:List At} (h:x.val O=some t) (w:O.noRef d=true) (A:t.cells=row) (B:row.map (⟨false,·⟩)=cs) (k:WO S K os ((d,.bx cs)::O)):WO S K (⟨some d,.boxo x,none⟩::os) O:=by
 replace k:=k.out;refine ⟨?_⟩;subst A B;simp only [wpOps,PR.wp,AJ.wp,h]; exact ⟨w,k⟩
theorem jx {mx:Bool} {x y:AL} {ik:IntKind} {a b:Int} (h:x.val O=some (.int ik a)) (w:y.val O=some (.int ik b)) (k:WO S K os ((d,.tv (.int ik (if mx then max a b else min a b)))::O)):WO S K (⟨some d,.mm mx x y,none⟩::os) O:=by
 replace k:=k.out;refine ⟨?_⟩;simp only [wpOps,PR.wp,AJ.wp,h,w]; exact ⟨trivial,k⟩
theorem q0 {x y:AL} {ik:IntKind} {a b:Int} (h:x.val O=some (.int ik a)) (w:y.val O=some (.int ik b)) (k:WO S K os ((d,.tv (.int ik (max a b)))::O)):WO S K (⟨some d,.mm true x y,none⟩::os) O:=jx h w k
theorem q5 {x y:AL} {ik:IntKind} {a b:Int} (h:x.val O=some (.int ik a)) (w:y.val O=some (.int ik b)) (k:WO S K os ((d,.tv (.int ik (min a b)))::O)):WO S K (⟨some d,.mm false x y,none⟩::os) O:=jx h w k
theorem qZ {cs:List At} (h:O.noRef d=true) (k:WO S K os ((d,.bx cs)::O)):WO S K (⟨some d,.alc cs,none⟩::os) O:=by
 replace k:=k.out;refine ⟨?_⟩;simp only [wpOps,PR.wp,AJ.wp]; exact ⟨h,k⟩
variable {off:Nat}
theorem uB {x v:AL} {cs cs':List At} (h:x.place O=some (s,off)) (w:O.get s=.bx cs) (hv:v.ev O=.tv t) (A:t.cells.length=n) (B:Nat.ble (off+n) cs.length=true) (C:cs.take off++t.cells.map (⟨false,·⟩)++cs.drop (off+n)=cs')
  (k:WO S K os ((s,.bx cs')::O)):WO S K (⟨none,.st n x v,none⟩::os) O:=by
 replace k:=k.out;refine ⟨?_⟩;subst C;simp only [wpOps,PR.wp,AJ.wp,h,w,hv]; exact ⟨A,Nat.le_of_ble_eq_true B,k⟩
theorem rG {s off q:Nat} {x:AL} {cs cs':List At} (h:x.place O=some (s,off)) (w:O.get s=.bx cs) (hv:O.get q=.ow t) (A:q≠s) (B:Nat.blt off cs.length=true) (C:cs.set off ⟨true,t⟩=cs')
  (k:WO S K os ((s,.bx cs')::(q,.tv t)::O)):WO S K (⟨none,.st 1 x (.s q),none⟩::os) O:=by
 replace k:=k.out;refine ⟨?_⟩;subst C;simp only [wpOps,PR.wp,AJ.wp,h,w,AL.ev,hv]; exact ⟨A,trivial,Nat.le_of_ble_eq_true B,k⟩
theorem eX {v:AL} {cs cs':List At} (h:O.get s=.bx cs) (hv:v.ev O=.tv t) (w:t.cells.length=n) (A:Nat.ble (0+n) cs.length=true) (B:cs.take 0++t.cells.map (⟨false,·⟩)++cs.drop (0+n)=cs')
  (k:WO S K os ((s,.bx cs')::O)):WO S K (⟨none,.stb n s v,none⟩::os) O:=by
 replace k:=k.out;refine ⟨?_⟩;subst B;simp only [wpOps,PR.wp,AJ.wp,h,hv]; exact ⟨w,Nat.le_of_ble_eq_true A,k⟩
theorem kB {s q:Nat} {cs cs':List At} (h:O.get s=.bx cs) (hv:O.get q=.ow t) (w:q≠s) (A:Nat.blt 0 cs.length=true) (B:cs.set 0 ⟨true,t⟩=cs')
  (k:WO S K os ((s,.bx cs')::(q,.tv t)::O)):WO S K (⟨none,.stb 1 s (.s q),none⟩::os) O:=by
 replace k:=k.out;refine ⟨?_⟩;subst B;simp only [wpOps,PR.wp,AJ.wp,h,AL.ev,hv]; exact ⟨w,trivial,Nat.le_of_ble_eq_true A,k⟩
theorem qq {cs:List At} {row:QQ} (h:O.get s=.bx cs) (w:cs.map (·.t)=row) (k:WO S K os ((s,.tv (.pt row))::O)):WO S K (⟨none,.frz s,none⟩::os) O:=by
 replace k:=k.out;refine ⟨?_⟩;subst w;simp only [wpOps,PR.wp,AJ.wp,h]; exact k
theorem jo {w:List GC} {cs:List At} {env':AD} (A:(w.filterMap GC.src).Nodup) (B:d ∉ w.filterMap GC.slot) (h:JO O w=some cs) (C:OI O (w.filterMap GC.slot) O=env') (k:WO S K os ((d,.oag cs)::env')):WO S K (⟨some d,.bldg w,none⟩::os) O:=by
 replace k:=k.out;refine ⟨?_⟩;subst C;simp only [wpOps,PR.wp,AJ.wp,h]; exact ⟨⟨A,B⟩,k⟩
theorem rH {n s q:Nat} {cs h cs':List At} (A:O.get s=.bx cs) (B:O.get q=.oag h) (w:q≠s) (C:h.length=n) (D:Nat.ble (0+n) cs.length=true) (E:((h.all fun c=>!c.t.isXl)||O.noX s none)=true) (F:cs.take 0++h++cs.drop (0+n)=cs')
  (k:WO S K os ((s,.bx cs')::(q,.undef)::O)):WO S K (⟨none,.stx n s q,none⟩::os) O:=by
 replace k:=k.out;refine ⟨?_⟩;subst F;simp only [wpOps,PR.wp,AJ.wp,A,B]; exact ⟨w,⟨C,E⟩,Nat.le_of_ble_eq_true D,k⟩
theorem gQ {args:List AL} {cs:List At} (h:vals O args=some ts) (w:S f ts (.oag cs)) (k:WO S K os ((d,.oag cs)::O)):WO S K (⟨some d,.callg f args,none⟩::os) O:=by
 replace k:=k.out;refine ⟨?_⟩;simp only [wpOps,PR.wp,AJ.wp,h,BB]; exact ⟨cs,w,fun _=>k⟩
theorem gR {args:List AL} {cs:List At} (h:vals O args=some ts) (w:S f ts (.oag cs)) (A:TV.agg (cs.map (·.t))=t) (k:WO S K os ((d,.tv t)::O)):WO S K (⟨some d,.call f args,none⟩::os) O:=by
 replace k:=k.out;refine ⟨?_⟩;subst A;simp only [wpOps,PR.wp,AJ.wp,h,BB]; exact ⟨_,⟨w,rfl⟩,fun _=>k⟩
theorem eU {x:AL} {es:QQ} (h:x.val O=some (.list n es)) (A:es=l.map e) (k:∀ b:Bool,(b=true->l=[])->WO S K os ((d,.tv (.bool b))::O)):WO S K (⟨some d,.isn x,none⟩::os) O:=by
 replace k:=fun b w=>(k b w).out;refine ⟨?_⟩;simp only [wpOps,PR.wp,AJ.wp,h];intro b w;refine k b fun B=>?_;have:=w B;rw [A] at this;simpa using this
theorem fK (h:B0 [] l=some r) (b:Bool) (k:b=true->l=[]):(if b=true then some [] else (B0 [] l).bind fun x=>some x)=some r:=by
 cases b
 ·simpa using h
 ·have:=k rfl;subst this;simpa [B0] using h
variable {j:Int}
theorem WT {a:α} (h:AM l j=some a):0<=j∧j<l.length∧l[j.toNat]?=some a:=by
 unfold AM at h;split at h
 ·rename_i k;have:=(List.getElem?_eq_some_iff.1 h).1;exact ⟨k,by omega,h⟩
 ·cases h
theorem YF (w:∀ a,(e a).cells.length=n):∀ (l:List α) (j k:Nat) (a:α),l[j]?=some a->k<n->((l.map e).flatMap TV.cells)[j*n+k]?=(e a).cells[k]?
 | [],j,k,a,h,_=>by simp at h
 | b::l,0,k,a,h,A=>by
  simp only [List.getElem?_cons_zero,zzY] at h;subst h;rw [List.map_cons,List.flatMap_cons,List.getElem?_append_left (by rw [w]; omega),Nat.zero_mul,Nat.zero_add]
 | b::l,j+1,k,a,h,A=>by
  rw [List.getElem?_cons_succ] at h;rw [List.map_cons,List.flatMap_cons,List.getElem?_append_right (by rw [w,Nat.add_mul]; omega),w,show (j+1)*n+k - n=j*n+k from by rw [Nat.add_mul]; omega];exact YF w l j k a h A
theorem WJ (w:∀ a,(e a).cells.length=n) (t:TV):∀ (l:List α) (j k:Nat) (a b:α),l[j]?=some a->k<n->(e b).cells=(e a).cells.set k t->((l.set j b).map e).flatMap TV.cells=((l.map e).flatMap TV.cells).set (j*n+k) t
 | [],j,k,a,b,h,_,_=>by simp at h
 | c::l,0,k,a,b,h,B,A=>by
  simp only [List.getElem?_cons_zero,zzY] at h;subst h;rw [List.set_cons_zero,List.map_cons,List.map_cons,List.flatMap_cons,List.flatMap_cons,Nat.zero_mul,Nat.zero_add,List.set_append_left _ _ (by rw [w]; omega),A]
 | c::l,j+1,k,a,b,h,B,A=>by
  rw [List.getElem?_cons_succ] at h;rw [List.set_cons_succ,List.map_cons,List.map_cons,List.flatMap_cons,List.flatMap_cons,List.set_append_right _ _ (by rw [w,Nat.add_mul]; omega),w,show (j+1)*n+k - n=j*n+k from by rw [Nat.add_mul]; omega,WJ w t l j k a b h B A]
theorem R3 (h:∀ a,(e a).flat=true):∀ (l:List α),TV.flats (l.map e)=true
 | []=>rfl
 | a::l=>by simp only [List.map_cons,TV.flats,h a,R3 h l,Bool.and_self]
theorem gZ {x:AL} {k n:Nat} {cs:QQ} (h:x.val O=some (.agg cs)) (A:Nat.ble (k+n) cs.length=true) (B:TV.agg ((cs.drop k).take n)=t) (w:WO S K os ((d,.tv t)::O)):WO S K (⟨some d,.fldv x k n true,none⟩::os) O:=by
 replace w:=w.out;refine ⟨?_⟩;subst B;simp only [wpOps,PR.wp,AJ.wp,h,if_true]; exact ⟨Nat.le_of_ble_eq_true A,w⟩
theorem jv {x:AL} {k n:Nat} {cs r:QQ} (h:x.val O=some (.agg cs)) (A:Nat.ble (k+n) cs.length=true) (B:cs.drop k=t::r) (w:WO S K os ((d,.tv t)::O)):WO S K (⟨some d,.fldv x k n false,none⟩::os) O:=by
 replace w:=w.out;refine ⟨?_⟩;simp only [wpOps,PR.wp,AJ.wp,h,Bool.false_eq_true,if_false,B,IG,BB]; exact ⟨Nat.le_of_ble_eq_true A,w⟩
theorem rL {es:QQ} (h:O.get s=.xo n es) (k:WO S K os ((d,.la s none)::O)):WO S K (⟨some d,.xal s,none⟩::os) O:=by
 replace k:=k.out;refine ⟨?_⟩;simp only [wpOps,PR.wp,AJ.wp,h]; exact k
theorem kC {x:AL} {q:Nat × Option Nat} {es:QQ} (h:x.xlist O=some (q,n,es)) (w:es=l.map e) (k:WO S K os ((d,.tv (.int .i64 l.length))::O)):WO S K (⟨some d,.xlen x,none⟩::os) O:=by
 replace k:=k.out;refine ⟨?_⟩;subst w;simp only [wpOps,PR.wp,AJ.wp,h,BB,d7]; exact k
variable {qi:Option Nat}
theorem rN {x i:AL} {q n:Nat} {es:QQ} {ik:IntKind} {a:α} (h:x.xlist O=some ((q,qi),n,es)) (hi:i.val O=some (.int ik j)) (w:es=l.map e) (A:AM l j=some a) (B:(x.ev O).ref=some q)
  (k:WO S K os ((d,.lp q qi (j.toNat*n))::O)):WO S K (⟨some d,.xia x i n,none⟩::os) O:=by
 replace k:=k.out;refine ⟨?_⟩;subst w;obtain ⟨C,D,_⟩:=WT A;simp only [wpOps,PR.wp,AJ.wp,h,hi,BB,d7]; exact ⟨⟨B,trivial⟩,C,D,k⟩
variable {p:Nat × QQ}
theorem rM {x:AL} {j q c:Nat} (h:x.ev O=.lp q qi c) (w:O.xat q qi=some p) (k:WO S K os ((d,.lp q qi (c+j))::O)):WO S K (⟨some d,.xfa x j,none⟩::os) O:=by
 replace k:=k.out;refine ⟨?_⟩;simp only [wpOps,PR.wp,AJ.wp,h,w]; exact k
theorem eY {x:AL} {q c n i:Nat} {es row:QQ} {a:α} (h:x.ev O=.lp q qi c) (w:O.xat q qi=some (n,es)) (A:es=l.map e) (B:∀ a,(e a).cells.length=n) (C:AM l j=some a) (D:c=j.toNat*n+i) (hi:Nat.blt i n=true) (E:(e a).cells=row) (F:row[i]?=some t)
  (k:WO S K os ((d,.tv t)::O)):WO S K (⟨some d,.xld x,none⟩::os) O:=by
 replace k:=k.out;refine ⟨?_⟩;subst A D E;have G:=YF B l j.toNat i a (WT C).2.2 (Nat.le_of_ble_eq_true hi);simp only [wpOps,PR.wp,AJ.wp,h,w,G,F,BB]; exact k
theorem eZ {x v:AL} {q c n i:Nat} {env':AD} {es rs:QQ} {a b:α} (h:x.ev O=.lp q qi c) (E:O.xat q qi=some (n,es)) (hv:v.ev O=.tv t) (F:es=l.map e) (C:∀ a,(e a).cells.length=n) (G:AM l j=some a) (H:c=j.toNat*n+i) (hi:Nat.blt i n=true) (I:t.cells=[t])
  (J:(e b).cells=(e a).cells.set i t) (L:rs=(B1 l j b).map e) (w:O.xput q qi n rs=env') (k:WO S K os env'):WO S K (⟨none,.xst x v,none⟩::os) O:=by
 replace k:=k.out;refine ⟨?_⟩;subst F H L w;obtain ⟨P,Q,D⟩:=WT G;have A:i<n:=Nat.le_of_ble_eq_true hi;have B:j.toNat<l.length:=(List.getElem?_eq_some_iff.1 D).1;simp only [wpOps,PR.wp,AJ.wp,h,E,hv];refine ⟨I,?_,_,WJ C t l j.toNat i a b D A J,by simp,fun u M=>?_,k⟩
 ·rw [d7]
  calc j.toNat*n+i<j.toNat*n+n:=by omega
   _=(j.toNat+1)*n:=by rw [Nat.add_mul]; omega
   _<=l.length*n:=Nat.mul_le_mul_right _ B
 ·obtain ⟨N,_,rfl⟩:=List.mem_map.1 M;exact C N
theorem rD {es:QQ} (h:O.get s=.xo n es) (w:d≠s) (k:WO S K os ((d,.ow (.list n es))::(s,.undef)::O)):WO S K (⟨some d,.rel s,none⟩::os) O:=by
 replace k:=k.out;refine ⟨?_⟩;simp only [wpOps,PR.wp,AJ.wp,h]; exact ⟨w,k⟩
theorem jz (h:O.noRef d=true) (k:WO S K os ((d,.xo n [])::O)):WO S K (⟨some d,.nilx n,none⟩::os) O:=by
 replace k:=k.out;refine ⟨?_⟩;simp only [wpOps,PR.wp,AJ.wp]; exact ⟨h,k⟩
theorem jw (h:O.noRef d=true) (k:WO S K os ((d,.xo n [])::O)):WO S K (⟨some d,.lstz n,none⟩::os) O:=by
 replace k:=k.out;refine ⟨?_⟩;simp only [wpOps,PR.wp,AJ.wp]; exact ⟨h,k⟩
theorem rK {es:QQ} (h:O.get s=.xo n es) (w:O.noRef d=true) (A:d≠s) (k:WO S K os ((d,.xo n es)::(s,.undef)::O)):WO S K (⟨some d,.tkx s,none⟩::os) O:=by
 replace k:=k.out;refine ⟨?_⟩;simp only [wpOps,PR.wp,AJ.wp,h]; exact ⟨w,A,k⟩
theorem jh {y:AL} {es w rs:QQ} (A:O.get s=.xo n es) (B:y.val O=some (.list n w)) (C:es=l.map e) (D:w=m.map e) (h:B0 l m=some r) (E:rs=r.map e) (F:O.noRef d=true) (G:d≠s)
  (k:WO S K os ((d,.xo n rs)::(s,.undef)::O)):WO S K (⟨some d,.appx n s y,none⟩::os) O:=by
 replace k:=k.out;refine ⟨?_⟩;subst C D E;unfold B0 at h;split at h
 ·rename_i H;cases h;simp only [wpOps,PR.wp,AJ.wp,A,B,d7];rw [List.map_append] at k;exact ⟨trivial,trivial,H,F,G,k⟩
 ·cases h
theorem gY {args:List AL} {ts es:QQ} (h:O.noRef d=true) (w:vals O args=some ts) (A:S f ts (.xown n es)) (k:WO S K os ((d,.xo n es)::O)):WO S K (⟨some d,.callx f args,none⟩::os) O:=by
 replace k:=k.out;refine ⟨?_⟩;simp only [wpOps,PR.wp,AJ.wp,w,BB]; exact ⟨h,n,es,.inl A,fun _=>k⟩
theorem dE {args:List AL} {ts es:QQ} (h:O.noRef d=true) (w:vals O args=some ts) (A:S f ts (.own (.list n es))) (B:es=l.map e) (C:∀ a,(e a).flat=true) (k:WO S K os ((d,.xo n es)::O)):WO S K (⟨some d,.callx f args,none⟩::os) O:=by
 replace k:=k.out;refine ⟨?_⟩;simp only [wpOps,PR.wp,AJ.wp,w,BB]; exact ⟨h,n,es,.inr ⟨A,by rw [B]; exact R3 C l⟩,fun _=>k⟩
variable {rs:QQ} {z:α}
theorem q6 {x:AL} {ik:IntKind} (A:O.noRef d=true) (B:x.val O=some (.int ik j)) (C:(match zero with | [t]=>t | ts=>.agg ts)=e z) (h:Jn j z=some r) (D:rs=r.map e)
  (k:WO S K os ((d,.xo n rs)::O)):WO S K (⟨some d,.mkx n zero x,none⟩::os) O:=by
 replace k:=k.out;refine ⟨?_⟩;subst D;unfold Jn at h;split at h
 ·rename_i w;cases h;rw [List.map_replicate,←C] at k;simp only [wpOps,PR.wp,AJ.wp,B]; exact ⟨A,w.1,w.2,k⟩
 ·cases h
theorem gT {x:AL} {q:Nat} {env':AD} {es rs:QQ} {e:Int->TV} {l r:Ne} (h:x.xlist O=some ((q,qi),1,es)) (B:es=l.map e) (w:e=TV.int .i64) (C:S f [.list 1 (l.map (TV.int .i64))] (.turn r)) (D:rs=r.map e) (A:O.xput q qi 1 rs=env') (k:WO S K os ((d,.tp [])::env')):WO S K (⟨some d,.callm f x,none⟩::os) O:=by
 replace k:=k.out;refine ⟨?_⟩;subst B D w A;simp only [wpOps,PR.wp,AJ.wp,h,BB]; exact ⟨trivial,l,r,rfl,C,fun _=>k⟩
theorem gO {x:AL} {q:Nat} {es rs:QQ} {e:Int->TV} {l r:Ne} (h:x.xlist O=some ((q,none),1,es)) (B:es=l.map e) (w:e=TV.int .i64) (A:q≠d) (C:O.noRef d=true) (D:S f [.list 1 (l.map (TV.int .i64))] (.cut r)) (E:rs=r.map e) (k:WO S K os ((d,.xo 1 rs)::(q,.undef)::O)):WO S K (⟨some d,.callc f x,none⟩::os) O:=by
 replace k:=k.out;refine ⟨?_⟩;subst B E w;simp only [wpOps,PR.wp,AJ.wp,h,BB]; exact ⟨⟨A,trivial⟩,trivial,C,l,r,rfl,D,fun _=>k⟩
theorem qv {x:AL} (h:x.ev O=.bp s off) (w:O.xat s (some off)=some p) (k:WO S K os ((d,.la s (some off))::O)):WO S K (⟨some d,.lac x,none⟩::os) O:=by
 replace k:=k.out;refine ⟨?_⟩;simp only [wpOps,PR.wp,AJ.wp,h,w]; exact k
theorem qh {x:AL} {cs cs':List At} {es:QQ} (w:x.place O=some (s,off)) (A:O.get s=.bx cs) (B:cs[off]?=some ⟨true,.xl n es⟩) (C:O.noRef d=true) (h:cs.set off ⟨false,.undef⟩=cs') (k:WO S K os ((d,.xo n es)::(s,.bx cs')::O)):WO S K (⟨some d,.ctk x,none⟩::os) O:=by
 replace k:=k.out;refine ⟨?_⟩;subst h;simp only [wpOps,PR.wp,AJ.wp,w,A,B]; exact ⟨C,k⟩
theorem qf {x:AL} {q s off n:Nat} {cs cs':List At} {es:QQ} (w:x.place O=some (s,off)) (A:O.get q=.xo n es) (B:O.get s=.bx cs) (C:O.noX s (some off)=true) (D:Nat.blt off cs.length=true) (h:cs.set off ⟨true,.xl n es⟩=cs') (k:WO S K os ((s,.bx cs')::(q,.undef)::O)):WO S K (⟨none,.cpt x q,none⟩::os) O:=by
 replace k:=k.out;refine ⟨?_⟩;subst h;simp only [wpOps,PR.wp,AJ.wp,w,A,B]; exact ⟨C,Nat.le_of_ble_eq_true D,k⟩
theorem qj {hi:AL} {es rs:QQ} {ik:IntKind} (A:O.get s=.xo n es) (B:hi.val O=some (.int ik j)) (C:es=l.map e) (h:slc l 0 j=some r) (D:rs=r.map e) (E:O.noRef d=true) (F:d≠s) (k:WO S K os ((d,.xo n rs)::(s,.undef)::O)):WO S K (⟨some d,.cut n s hi,none⟩::os) O:=by
 replace k:=k.out;refine ⟨?_⟩;subst C D;obtain ⟨⟨G,H⟩,w⟩:=XI h;subst w;simp only [wpOps,PR.wp,AJ.wp,A,B];refine ⟨⟨trivial,E,F⟩,G.2,by rw [d7]; exact H,?_⟩;have w:((l.take j.toNat).drop (0:Int).toNat).map e=(l.map e).take j.toNat:=by simp
 rw [w] at k;exact k
theorem gS {args:List AL} (h:lvals O args=some ts) (w:S f ts (.sh t)) (A:t.flat=true) (k:WO S K os ((d,.tv t)::O)):WO S K (⟨some d,.calll f args,none⟩::os) O:=by
 replace k:=k.out;refine ⟨?_⟩;simp only [wpOps,PR.wp,AJ.wp,h,BB]; exact ⟨_,⟨w,A⟩,fun _=>k⟩
theorem dA {args:List AL} {ts t:QQ} (h:lvals O args=some ts) (w:S f ts (.tp t)) (A:TV.flats t=true) (k:WO S K os ((d,.tp t)::O)):WO S K (⟨some d,.calll f args,none⟩::os) O:=by
 replace k:=k.out;refine ⟨?_⟩;simp only [wpOps,PR.wp,AJ.wp,h,BB]; exact ⟨_,⟨w,A⟩,fun _=>k⟩
theorem c8 {args:List AL} {ts es:QQ} (h:lvals O args=some ts) (w:S f ts (.own t)) (A:t=.list n es) (B:es=l.map e) (C:∀ a,(e a).flat=true) (k:WO S K os ((d,.ow t)::O)):WO S K (⟨some d,.calll f args,none⟩::os) O:=by
 replace k:=k.out;refine ⟨?_⟩;subst A B;simp only [wpOps,PR.wp,AJ.wp,h,BB]; exact ⟨_,⟨w,R3 C l⟩,fun _=>k⟩
def Sx {α:Type} (l:List α) (j:Int) (z:α):Option (List α):=if (0<=j∧j<=4096)∧l.length+j.toNat<=BM then some (l++List.replicate j.toNat z) else none
theorem ji {w:TV} {x:AL} {es rs:QQ} {ik:IntKind} (C:O.get s=.xo n es) (D:x.val O=some (.int ik j)) (E:es=l.map e) (F:w=e z) (h:Sx l j z=some r) (G:rs=r.map e) (H:O.noRef d=true) (I:d≠s) (A:n=1) (J:w.cells=[w]) (k:WO S K os ((d,.xo n rs)::(s,.undef)::O)):WO S K (⟨some d,.appz n s w x,none⟩::os) O:=by
 replace k:=k.out;refine ⟨?_⟩;subst E G;unfold Sx at h;split at h
 ·rename_i B;cases h;simp only [wpOps,PR.wp,AJ.wp,C,D];refine ⟨⟨⟨trivial,A⟩,J⟩,B.1,⟨by rw [d7]; exact B.2,H,I⟩,?_⟩;rw [List.map_append,List.map_replicate,←F] at k;exact k
 ·cases h
theorem gP {args:List AL} {ts t:QQ} (h:vals O args=some ts) (w:S f ts (.ext t)) (k:WO S K os ((d,.tp t)::O)):WO S K (⟨some d,.callf f args,none⟩::os) O:=by
 replace k:=k.out;refine ⟨?_⟩;simp only [wpOps,PR.wp,AJ.wp,h,BB]; exact ⟨_,w,k⟩
theorem jr {w:List (Option At)} {x:AL} {cs:List At} (h:x.val O=some t) (A:HQ w t.cells=some cs) (B:O.noRef d=true) (k:WO S K os ((d,.bx cs)::O)):WO S K (⟨some d,.boxp w x,none⟩::os) O:=by
 replace k:=k.out;refine ⟨?_⟩;simp only [wpOps,PR.wp,AJ.wp,h,A,BB]; exact ⟨B,k⟩
theorem gN {args:List AL} {ts h:QQ} {cs cs':List At} {e:EV} (w:(args[i]?).bind (·.place O)=some (s,0)) (A:O.get s=.bx cs) (B:O.noX s none=true) (C:d≠s) (D:OU O i args=some ts) (E:S f ts (.bo cs cs' i h)) (F:EV.ofs h=e) (k:WO S K os ((d,e)::(s,.bx cs')::O)):WO S K (⟨some d,.callb f args i,none⟩::os) O:=by
 replace k:=k.out;refine ⟨?_⟩;subst F;simp only [wpOps,PR.wp,AJ.wp,w,A,D,BB]; exact ⟨⟨B,C⟩,cs',h,E,fun _=>k⟩
def Wg {α:Type} (l:List α):Option Unit:=if l.isEmpty then none else some ()
theorem aN {u:Unit} {b:Bool} (h:Wg l=some u) (k:b=true->l=[]):b=false:=by
 cases b with
 | false=>rfl
 | true=>rw [k rfl] at h; cases h
variable {g:Nat}
theorem tZ {w:Option Nat} {op:AJ} {b q:Bool} (A:O.get g=.tv (.bool q)) (B:q=b) (k:WO S K (⟨w,op,none⟩::os) O):WO S K (⟨w,op,some (g,b)⟩::os) O:=by
 replace k:=k.out;refine ⟨?_⟩;subst B;simp only [wpOps,PR.wp,A] at k ⊢;exact ⟨fun _=>k,fun h=>by cases q <;> simp at h⟩
theorem pZ {d:Nat} {op:AJ} {b q:Bool} (w:O.get g=.tv (.bool q)) (A:q=!b) (k:WO S K os ((d,.sk)::O)):WO S K (⟨some d,op,some (g,b)⟩::os) O:=by
 replace k:=k.out;refine ⟨?_⟩;subst A;simp only [wpOps,PR.wp,w];exact ⟨fun h=>by cases b <;> simp at h,fun _=>k⟩
theorem ta {d:Nat} {op:AJ} {b:Bool} (h:O.get g=.sk) (k:WO S K os ((d,.sk)::O)):WO S K (⟨some d,op,some (g,b)⟩::os) O:=by
 replace k:=k.out;refine ⟨?_⟩;simp only [wpOps,PR.wp,h];exact k
theorem Xb (xs h:List PR) (O:AD):wpOps S K (xs++h) O=wpOps S (wpOps S K h) xs O:=by
 induction xs generalizing O with
 | nil=>rfl
 | cons x xs k=>
  simp only [List.cons_append,wpOps];congr 1;funext e;exact k e
theorem pY {ops:List PR} (n:Nat) (M:AD->AD->Prop) (h:WO S (M O) (ops.take n) O) (k:∀ e,M O e->WO S K (ops.drop n) e):WO S K ops O:=by
 refine ⟨?_⟩;rw [←List.take_append_drop n ops,Xb];exact Ob S (fun e w=>(k e w).out) _ O h.out
variable {q:Q} {a b:PC}
theorem ly (h:WP S a ⟨fun e=>(∀ s,(e.get s).WF)->WP S b q e,q.exit,q.ret⟩ O):WP S (.seq a b) q O:=⟨PC.wp_mono S a _ O h.out _ (fun _ k w=>(k w).out) (fun _ _ h=>h) (fun _ h=>h)⟩
theorem iY {live:ci} {env':AD} (k:O.keep live=env') (h:q.normal env'):WP S (.skip live) q O:=by subst k; exact ⟨h⟩
theorem iX {live:ci} {env':AD} (k:O.keep live=env') (h:q.exit i env'):WP S (.exit i live) q O:=by subst k; exact ⟨h⟩
theorem TW {x:AL} {c:Bool} (k:x.val O=some (.bool c)) (w:c=true->WP S a q O) (A:c=false->WP S b q O):WP S (.cond x a b) q O:=by
 refine ⟨?_⟩;simp only [PC.wp,k]; exact ⟨fun h=>(w h).out,fun h=>(A h).out⟩
theorem X5 {x:AL} {c:Bool} (w:x.val O=some (.bool c)) (h:c=true) (A:WP S a q O):WP S (.cond x a b) q O:=
 TW w (fun _=>A) (fun k=>by rw [h] at k; cases k)
theorem X4 {x:AL} {c:Bool} (w:x.val O=some (.bool c)) (h:c=false) (A:WP S b q O):WP S (.cond x a b) q O:=
 TW w (fun k=>by rw [h] at k; cases k) (fun _=>A)
theorem US (h:WP S a ⟨q.normal,fun j e=>if j=i then q.normal e else q.exit j e,q.ret⟩ O):WP S (.block i a) q O:=⟨h.out⟩
theorem WE {x y:Prop} (h:x):if i=i then x else y:=by rw [d1 rfl]; exact h
theorem fP {i j:Nat} {x y:Prop} (k:i≠j) (h:y):if i=j then x else y:=by rw [d2 k]; exact h
theorem lw (M:AD->Prop) (k:WP S a ⟨M,q.exit,q.ret⟩ O) (w:∀ e,M e->q.normal e):WP S a q O:=⟨PC.wp_mono S a _ O k.out q w (fun _ _ h=>h) (fun _ h=>h)⟩
section loops
variable {σ ρ:Type} {live:ci} {c:PC} {i0:Nat}
variable {X:AD->Prop}
theorem dr {f:Int->σ->Option (CZ σ ρ)} {b:Int} (I:Int->σ->AD) (J:σ->AD) (R:ρ->AD->Prop)
  (A:∀ i s r,i<b->f i s=some r->(∀ k,((I i s).get k).WF)->c.wp S ⟨fun e=>∃ s',r=.next s'∧e.keep live=I (i+1) s',fun j e=>j=i0∧∃ s',r=.brk s'∧e=J s',fun e=>∃ v,r=.ret v∧R v e⟩ (I i s))
  (B:∀ i s,¬ i<b->c.wp S ⟨fun _=>False,fun j e=>j=i0∧e=J s,fun _=>False⟩ (I i s))
  (F:∀ e,((∀ s,(e.get s).WF)->c.wp S { q with normal:=fun H=>X (H.keep live) } e)->X e) (N:∀ s,q.exit i0 (J s)∨True) :
  ∀ (n:Nat) (i:Int) (s:σ),n=(b - i).toNat->∀ o,forGo f n i s=some o->(∀ s',o=.inl s'->q.exit i0 (J s'))->(∀ v e,o=.inr v->R v e->q.ret e)->X (I i s):=by
 intro n
 induction n with
 | zero=>
  intro i s L o ho C D;refine F _ fun G=>?_;refine PC.wp_mono S c _ _ (B i s (by omega)) _ (fun _ h=>h.elim) (fun j e w=>?_) (fun _ h=>h.elim);obtain ⟨rfl,rfl⟩:=w;simp only [forGo,zzY] at ho;exact C s ho.symm
 | succ n M=>
  intro i s L o ho C D;simp only [forGo] at ho;refine F _ fun G=>?_;cases E:f i s with
  | none=>rw [E] at ho; cases ho
  | some r=>
   rw [E] at ho;refine PC.wp_mono S c _ _ (A i s r (by omega) E G) _ (fun e w=>?_) (fun j e w=>?_) (fun e w=>?_)
   ·obtain ⟨s',rfl,w⟩:=w;show X (e.keep live);rw [w];exact M (i+1) s' (by omega) o ho C D
   ·obtain ⟨rfl,s',rfl,rfl⟩:=w;simp only [zzY] at ho;exact C s' ho.symm
   ·obtain ⟨v,rfl,w⟩:=w;simp only [zzY] at ho;exact D v e ho.symm w
variable {s0:σ} {o:σ ⊕ ρ}
theorem Yq {f:Int->σ->Option (CZ σ ρ)} {lo b:Int} (ho:forR f lo b s0=some o) (I:Int->σ->AD) (J:σ->AD) (R:ρ->AD->Prop) (B:O.keep live=I lo s0)
  (w:∀ i s r,i<b->f i s=some r->(∀ k,((I i s).get k).WF)->WP S c ⟨fun e=>∃ s',r=.next s'∧e.keep live=I (i+1) s',fun j e=>j=i0∧∃ s',r=.brk s'∧e=J s',fun e=>∃ v,r=.ret v∧R v e⟩ (I i s))
  (A:∀ i s,¬ i<b->WP S c ⟨fun _=>False,fun j e=>j=i0∧e=J s,fun _=>False⟩ (I i s))
  (C:∀ s',o=.inl s'->q.normal (J s')) (D:∀ v e,o=.inr v->R v e->q.ret e):WP S (.block i0 (.loop live c)) q O:=by
 refine US ⟨?_⟩;intro X H;rw [B];refine dr (q:=⟨q.normal,fun j e=>if j=i0 then q.normal e else q.exit j e,q.ret⟩) I J R (fun i s r E F G=>(w i s r E F G).out) (fun i s h=>(A i s h).out) H (fun _=>.inr trivial) _ lo s0 rfl o ho ?_ D;intro s' L;exact WE (C s' L)
theorem YG {f:Int->σ->Option σ}:∀ (n:Nat) (i:Int) (s o:σ),forAGo f n i s=some o->forGo (fun i s=>(f i s).map (CZ.next (ρ:=Empty))) n i s=some (.inl o)
 | 0,_,_,_,h=>by simp only [forAGo,zzY] at h; subst h; rfl
 | n+1,i,s,o,h=>by
  simp only [forAGo] at h;simp only [forGo];cases k:f i s with
  | none=>rw [k] at h; cases h
  | some s'=>rw [k] at h; simp only [Option.map]; exact YG n (i+1) s' o h
theorem gw {f:Int->σ->Option σ} {lo b:Int} {s0 o:σ} (ho:forA f lo b s0=some o) (I:Int->σ->AD) (J:σ->AD) (C:O.keep live=I lo s0)
  (w:∀ i s r,i<b->f i s=some r->(∀ k,((I i s).get k).WF)->WP S c ⟨fun e=>e.keep live=I (i+1) r,fun _ _=>False,fun _=>False⟩ (I i s))
  (A:∀ i s,¬ i<b->WP S c ⟨fun _=>False,fun j e=>j=i0∧e=J s,fun _=>False⟩ (I i s))
  (D:q.normal (J o)):WP S (.block i0 (.loop live c)) q O:=by
 refine Yq (f:=fun i s=>(f i s).map (CZ.next (ρ:=Empty))) (o:=.inl o) (YG _ _ _ _ ho) I J (fun _ _=>False) C ?_ A ?_ ?_
 ·intro i s r hi B F;simp only [Option.map_eq_some_iff] at B;obtain ⟨s',B,rfl⟩:=B;exact ⟨PC.wp_mono S c _ _ (w i s s' hi B F).out _ (fun e E=>⟨s',rfl,E⟩) (fun _ _ h=>h.elim) (fun _ h=>h.elim)⟩
 ·intro s' h; cases h; exact D
 ·intro v; cases v
theorem gx {f:σ->Option (CZ σ ρ)} (I:σ->AD) (J:σ->AD) (R:ρ->AD->Prop)
  (w:∀ s r,f s=some r->(∀ k,((I s).get k).WF)->c.wp S ⟨fun e=>∃ s',r=.next s'∧e.keep live=I s',fun j e=>j=i0∧∃ s',r=.brk s'∧e=J s',fun e=>∃ v,r=.ret v∧R v e⟩ (I s))
  (D:∀ e,((∀ s,(e.get s).WF)->c.wp S { q with normal:=fun E=>X (E.keep live) } e)->X e) :
  ∀ (n:Nat) (s:σ) (o:σ ⊕ ρ),Po f n s=some o->(∀ s',o=.inl s'->q.exit i0 (J s'))->(∀ v e,o=.inr v->R v e->q.ret e)->X (I s):=by
 intro n
 induction n with
 | zero=>intro s o ho; cases ho
 | succ n G=>
  intro s o ho B C;simp only [Po] at ho;refine D _ fun F=>?_;cases A:f s with
  | none=>rw [A] at ho; cases ho
  | some r=>
   rw [A] at ho;refine PC.wp_mono S c _ _ (w s r A F) _ (fun e h=>?_) (fun j e h=>?_) (fun e h=>?_)
   ·obtain ⟨s',rfl,h⟩:=h;show X (e.keep live);rw [h];exact G s' o ho B C
   ·obtain ⟨rfl,s',rfl,rfl⟩:=h;simp only [zzY] at ho;exact B s' ho.symm
   ·obtain ⟨v,rfl,h⟩:=h;simp only [zzY] at ho;exact C v e ho.symm h
theorem kQ {f:σ->Option (CZ σ ρ)} (ho:I7 f s0=some o) (I:σ->AD) (J:σ->AD) (R:ρ->AD->Prop) (w:O.keep live=I s0)
  (h:∀ s r,f s=some r->(∀ k,((I s).get k).WF)->WP S c ⟨fun e=>∃ s',r=.next s'∧e.keep live=I s',fun j e=>j=i0∧∃ s',r=.brk s'∧e=J s',fun e=>∃ v,r=.ret v∧R v e⟩ (I s))
  (A:∀ s',o=.inl s'->q.normal (J s')) (B:∀ v e,o=.inr v->R v e->q.ret e):WP S (.block i0 (.loop live c)) q O:=by
 obtain ⟨N,G⟩:=CE ho;refine US ⟨?_⟩;intro X E;rw [w];refine gx (q:=⟨q.normal,fun j e=>if j=i0 then q.normal e else q.exit j e,q.ret⟩) I J R (fun s r C D=>(h s r C D).out) E N s0 o (G N (d3 _)) ?_ B;intro s' F;exact WE (A s' F)
end loops
end
theorem uL {a b:Int} (h:a<b):decide (a<b)=true:=decide_eq_true h
theorem tX {a b:Int} (h:¬ a<b):decide (a<b)=false:=decide_eq_false h
variable {t:TV}
theorem Vr (h:EV.WF (.tv t)):t.WF:=h
theorem rO (h:EV.WF (.ow t)):t.WF:=h
variable {n:Nat}
theorem rP {es:QQ} (h:EV.WF (.xo n es)):TV.WF (.list n es):=h
theorem ee {row:QQ} (h:EV.WF (.tv (.pt row))):TV.WFs row:=h
variable {ts:QQ} {i:Nat}
theorem Yo (h:TV.WFs ts) (hi:ts[i]?=some t):t.WF:=by
 induction ts generalizing i with
 | nil=>simp at hi
 | cons x xs k=>
  cases i with
  | zero=>simp at hi; subst hi; exact h.1
  | succ i=>exact k h.2 (by simpa using hi)
variable {α:Type} {e:α->TV} {l:List α}
theorem kP (h:TV.WF (.list n (l.map e))):(l.length:Int)<=9223372036854775807:=by
 have:=h.1;rw [d7] at this;unfold I0 at this;omega
theorem Sb {es:QQ} (h:TV.WF (.list n es)) (k:es=l.map e):(l.length:Int)<=9223372036854775807:=by subst k; exact kP h
theorem gu {s:ByteArray} (h:TV.WF (.str s)):(s.size:Int)<=9223372036854775807:=by
 have:s.size<=I0:=h;unfold I0 at this;omega
theorem bi {n:Int} (h:TV.WF (.int .i64 n)):n<=9223372036854775807:=h.2
theorem bg (n:Int):A4 n=if 9223372036854775808<=n % 18446744073709551616 then n % 18446744073709551616 - 18446744073709551616 else n % 18446744073709551616:=by
 have h:(2:Int) ^ 64=18446744073709551616:=by decide
 have k:(2:Int) ^ (64 - 1)=9223372036854775808:=by decide
 simp only [A4,IntKind.wrap,IntKind.bits,IntKind.signed,Bool.true_and,zzX,h,k,ge_iff_le]
theorem kN (n:Int):A4 n<=9223372036854775807:=by
 rw [bg]; split <;> omega
theorem BI {n:Int} (h:-9223372036854775808<=n) (k:n<=9223372036854775807):A4 n=n:=by
 rw [bg]; split <;> omega
theorem rQ {i b:Int} (hi:TV.WF (.int .i64 i)) (h:i<b) (k:b<=9223372036854775807):IntKind.i64.wrap (i+1)=i+1:=by
 have w:(-9223372036854775808:Int)<=i:=hi.1;exact BI (by omega) (by omega)
end Go.Sf
