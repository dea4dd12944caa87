/- Steps of the pure language with typed values: one rule an operation, one a piece of code, one a kind of loop. -/
import Derived.Test.YtlbmpkmkmkgniaaGreatDoorSfSem
set_option linter.all false
namespace Go.Sf
abbrev A4 (n:Int):Int:=IntKind.i64.wrap n
def AM {α:Type} (l:List α) (j:Int):Option α:=if 0<=j then l[j.toNat]? else none
def slc {α:Type} (l:List α) (a b:Int):Option (List α):=if (0<=a∧a<=b)∧b<=l.length then some ((l.take b.toNat).drop a.toNat) else none
def sslc (s:ByteArray) (a b:Int):Option ByteArray:=if 0<=a∧a<=b∧b<=s.size then some (s.extract a.toNat b.toNat) else none
def sidx (s:ByteArray) (j:Int):dD:=if 0<=j then (s[j.toNat]?).map (fun b=>(b.toNat:Int)) else none
def BV {α:Type} (l m:List α):Option (List α):=if l.length+m.length<=BN then some (l++m) else none
def quo (a b:Int):dD:=if b=0 then none else some (a.tdiv b)
def eY (a b:Int):dD:=if b=0 then none else some (a.tmod b)
inductive CY (σ ρ:Type) where
 | next (s:σ)
 | brk (s:σ)
 | ret (r:ρ)
section loops
variable {σ ρ:Type}
def forGo (f:Int->σ->Option (CY σ ρ)):Nat->Int->σ->Option (σ ⊕ ρ)
 | 0,_,s=>some (.inl s)
 | n+1,i,s=>match f i s with
  | none=>none
  | some (.next s')=>forGo f n (i+1) s'
  | some (.brk s')=>some (.inl s')
  | some (.ret r)=>some (.inr r)
def forR (f:Int->σ->Option (CY σ ρ)) (a b:Int) (s:σ):Option (σ ⊕ ρ):=forGo f (b - a).toNat a s
def forAGo (f:Int->σ->Option σ):Nat->Int->σ->Option σ
 | 0,_,s=>some s
 | n+1,i,s=>match f i s with
  | none=>none
  | some s'=>forAGo f n (i+1) s'
def forA (f:Int->σ->Option σ) (a b:Int) (s:σ):Option σ:=forAGo f (b - a).toNat a s
def Pz (f:σ->Option (CY σ ρ)):Nat->σ->Option (σ ⊕ ρ)
 | 0,_=>none
 | n+1,s=>match f s with
  | none=>none
  | some (.next s')=>Pz f n s'
  | some (.brk s')=>some (.inl s')
  | some (.ret r)=>some (.inr r)
end loops
class Ev where
 fuel:Option Nat
instance B8:Ev:=⟨none⟩
open Classical in
noncomputable def Wj {α:Type} (g:Nat->Option α):Option α:=if h:∃ v N,∀ n,N<=n->g n=some v then some h.choose else none
noncomputable def Hu [e:Ev] {α:Type} (g:Nat->Option α):Option α:=match e.fuel with
 | none=>Wj g
 | some n=>g n
theorem CH {α:Type} {g:Nat->Option α} {v:α} (h:Hu g=some v):∃ N,∀ n,N<=n->g n=some v:=by
 change Wj g=some v at h;unfold Wj at h;split at h
 ·rename_i e;cases h;exact e.choose_spec
 ·cases h
theorem FJ {α:Type} {g:Nat->Option α} {v:α} (N:Nat) (h:∀ n,N<=n->g n=some v):Hu g=some v:=by
 have e:∃ v N,∀ n,N<=n->g n=some v:=⟨v,N,h⟩;show Wj g=some v;unfold Wj;rw [dif_pos e];obtain ⟨M,j⟩:=e.choose_spec;have i:=h (max N M) (Nat.le_max_left _ _);have f:=j (max N M) (Nat.le_max_right _ _);rw [i] at f;exact f.symm
noncomputable def It [Ev] {σ ρ:Type} (f:σ->Option (CY σ ρ)) (s:σ):Option (σ ⊕ ρ):=Hu fun n=>Pz f n s
def thenR {σ ρ β:Type} (o:Option (σ ⊕ ρ)) (k:σ->Option β) (kr:ρ->Option β):Option β:=
 match o with
 | none=>none
 | some (.inl s)=>k s
 | some (.inr v)=>kr v
theorem UU {σ ρ β:Type} {o:Option (σ ⊕ ρ)} {k:σ->Option β} {e:ρ->Option β} {b:β} (h:thenR o k e=some b):∃ x,o=some x∧thenR (some x) k e=some b:=by
 cases o with
 | none=>cases h
 | some x=>exact ⟨x,rfl,h⟩
theorem Yl {σ ρ β:Type} {x:σ ⊕ ρ} {k:σ->Option β} {e:ρ->Option β} {b:β} {s:σ} (h:thenR (some x) k e=some b) (f:x=.inl s):k s=some b:=by subst f; exact h
theorem Ym {σ ρ β:Type} {x:σ ⊕ ρ} {k:σ->Option β} {e:ρ->Option β} {b:β} {v:ρ} (h:thenR (some x) k e=some b) (f:x=.inr v):e v=some b:=by subst f; exact h
def BZ {α:Type} (l:List α) (j:Int) (a:α):List α:=l.set j.toNat a
def Jq {α:Type} (j:Int) (a:α):Option (List α):=if 0<=j∧j<=4096 then some (List.replicate j.toNat a) else none
def NG (a b:ByteArray):Option ByteArray:=if a.size+b.size<=BN then some (a++b) else none
theorem bind_some {α β:Type} {x:Option α} {f:α->Option β} {b:β} (h:x.bind f=some b):∃ a,x=some a∧f a=some b:=Option.bind_eq_some_iff.1 h
theorem Vy {α:Type} {c:Bool} {a b:α} {r:α} (e:c=true) (h:(if c=true then a else b)=r):a=r:=by rw [d1 e] at h; exact h
theorem Vx {α:Type} {c:Bool} {a b:α} {r:α} (e:c=false) (h:(if c=true then a else b)=r):b=r:=by rw [d2 (by simp [e])] at h; exact h
theorem nf {c:Bool} (e:c=false):(!c)=true:=by rw [e]; rfl
structure WO (S:FuncId->QQ->CS->Prop) (K:AD->Prop) (os:List PR) (O:AD):Prop where
 of::out:wpOps S K os O
structure WP (S:FuncId->QQ->CS->Prop) (c:PC) (q:Q) (O:AD):Prop where
 of::out:c.wp S q O
section
variable {S:FuncId->QQ->CS->Prop} {K:AD->Prop} {os:List PR} {O:AD} {d:Nat}
theorem RT {x:AL} {t:TV} (h:x.val O=some t):x.ev O=.tv t∨x.ev O=.ow t:=by
 unfold AL.val EV.val at h;split at h <;> simp_all
theorem uH {x:AL} {t:TV} (h:x.val O=some t) (k:WO S K os ((d,.tv t)::O)):WO S K (⟨some d,.mv x,none⟩::os) O:=by
 replace k:=k.out;refine ⟨?_⟩;simp only [wpOps,PR.wp,AJ.wp];rcases RT h with h | h <;> rw [h] <;> exact k
theorem uJ {s:Nat} {t:TV} (h:O.get s=.ow t) (k:WO S K os ((d,.ow t)::(s,.tv t)::O)):WO S K (⟨some d,.tk s,none⟩::os) O:=by
 replace k:=k.out;refine ⟨?_⟩;simp only [wpOps,PR.wp,AJ.wp,h]; exact k
theorem rP {s:Nat} {t:TV} (h:O.get s=.tv t) (k:WO S K os ((d,.tv t)::O)):WO S K (⟨some d,.tk s,none⟩::os) O:=by
 replace k:=k.out;refine ⟨?_⟩;simp only [wpOps,PR.wp,AJ.wp,h]; exact k
theorem kA {n:Nat} (k:WO S K os ((d,.ow (.list n []))::O)):WO S K (⟨some d,.nilo n,none⟩::os) O:=by
 replace k:=k.out;refine ⟨?_⟩;simp only [wpOps,PR.wp,AJ.wp]; exact k
theorem qw {x:AL} {j:Nat} {row:QQ} (h:x.ev O=.tv (.pt row)) (k:WO S K os ((d,.tv (.pt (row.drop j)))::O)):WO S K (⟨some d,.fad x j,none⟩::os) O:=by
 replace k:=k.out;refine ⟨?_⟩;simp only [wpOps,PR.wp,AJ.wp,h]; exact k
theorem j6 {x:AL} {j s e:Nat} {cs:List A1} (h:x.ev O=.bp s e) (f:O.get s=.bx cs) (k:WO S K os ((d,.bp s (e+j))::O)):WO S K (⟨some d,.fad x j,none⟩::os) O:=by
 replace k:=k.out;refine ⟨?_⟩;simp only [wpOps,PR.wp,AJ.wp,h,f]; exact k
theorem jt {s j:Nat} {cs:List A1} (h:O.get s=.bx cs) (k:WO S K os ((d,.bp s j)::O)):WO S K (⟨some d,.bad s j,none⟩::os) O:=by
 replace k:=k.out;refine ⟨?_⟩;simp only [wpOps,PR.wp,AJ.wp,h]; exact k
theorem qk {s j:Nat} {row:QQ} (h:O.get s=.tv (.pt row)) (k:WO S K os ((d,.tv (.pt (row.drop j)))::O)):WO S K (⟨some d,.bad s j,none⟩::os) O:=by
 replace k:=k.out;refine ⟨?_⟩;simp only [wpOps,PR.wp,AJ.wp,h]; exact k
theorem q0 {α:Type} {n:Nat} {x i:AL} {es row:QQ} {e:α->TV} {l:List α} {ik:IntKind} {j:Int} {a:α} (g:x.val O=some (.list n es)) (hi:i.val O=some (.int ik j)) (h:es=l.map e) (f:AM l j=some a) (m:(e a).cells=row)
  (k:WO S K os ((d,.tv (.pt row))::O)):WO S K (⟨some d,.iad x i n,none⟩::os) O:=by
 replace k:=k.out;refine ⟨?_⟩;subst h m;simp only [wpOps,PR.wp,AJ.wp,g,hi];unfold AM at f;split at f
 ·rename_i o;exact ⟨trivial,o,e a,by rw [List.getElem?_map,f]; rfl,k⟩
 ·cases f
theorem qf {x i:AL} {n m e:Nat} {row:QQ} {ik:IntKind} {j:Int} (f:x.ev O=.tv (.pt row)) (hi:i.val O=some (.int ik j)) (g:0<=j) (h:j<m) (l:m*n<=row.length) (o:j.toNat*n=e)
  (k:WO S K os ((d,.tv (.pt (row.drop e)))::O)):WO S K (⟨some d,.aad x i n m,none⟩::os) O:=by
 replace k:=k.out;refine ⟨?_⟩;subst o;simp only [wpOps,PR.wp,AJ.wp,f,hi];exact ⟨g,h,l,k⟩
theorem jp {x:AL} {n m:Nat} {row f:QQ} {ik:IntKind} {j:Int} (g:x.ev O=.tv (.pt row)) (e:(decide (0<=j)&&decide (j<m)&&Nat.ble (m*n) row.length)=true) (h:row.drop (j.toNat*n)=f)
  (k:WO S K os ((d,.tv (.pt f))::O)):WO S K (⟨some d,.aad x (.c (.int ik j)) n m,none⟩::os) O:=by
 simp only [zzZ,zzX] at e;subst h;exact qf g rfl e.1.1 e.1.2 (Nat.le_of_ble_eq_true e.2) rfl k
theorem uG {x:AL} {t:TV} {r:QQ} (h:BY O (x.ev O)=some (t::r)) (e:t.isXl=false) (k:WO S K os ((d,.tv t)::O)):WO S K (⟨some d,.ld x,none⟩::os) O:=by
 replace k:=k.out;refine ⟨?_⟩;simp only [wpOps,PR.wp,AJ.wp,h,BA,IE]; exact ⟨e,k⟩
theorem Zh {x:AL} {n:Nat} {t:TV} {cs:QQ} (h:BY O (x.ev O)=some cs) (e:Nat.ble n cs.length=true) (f:TV.agg (cs.take n)=t) (k:WO S K os ((d,.tv t)::O)):WO S K (⟨some d,.lda x n,none⟩::os) O:=by
 replace k:=k.out;refine ⟨?_⟩;subst f;simp only [wpOps,PR.wp,AJ.wp,h,BA]; exact ⟨Nat.le_of_ble_eq_true e,k⟩
theorem ec {s n:Nat} {t:TV} {cs:List A1} (h:O.get s=.bx cs) (e:Nat.ble n (cs.map (·.t)).length=true) (f:TV.agg ((cs.map (·.t)).take n)=t) (k:WO S K os ((d,.tv t)::O)):WO S K (⟨some d,.ldb s n,none⟩::os) O:=by
 replace k:=k.out;refine ⟨?_⟩;subst f;simp only [wpOps,PR.wp,AJ.wp,h]; exact ⟨Nat.le_of_ble_eq_true e,k⟩
theorem q6 {x:AL} {s e:Nat} {cs:List A1} {t:TV} {n:Nat} {es:QQ} (h:x.place O=some (s,e)) (f:O.get s=.bx cs) (g:cs[e]?=some ⟨true,t⟩) {cs':List A1} (i:cs.set e ⟨false,t⟩=cs') (j:t=.list n es)
  (k:WO S K os ((d,.ow t)::(s,.bx cs')::O)):WO S K (⟨some d,.ldt x,none⟩::os) O:=by
 replace k:=k.out;refine ⟨?_⟩;subst i j;simp only [wpOps,PR.wp,AJ.wp,h,f,g]; exact k
section bins
variable {x y:AL} {ik:IntKind} {a b:Int}
theorem Ik {e:BK} {op:BinOp} {u v t:TV} (f:x.val O=some u) (g:y.val O=some v) (h:F1 e op u v=some t) (k:WO S K os ((d,.tv t)::O)):WO S K (⟨some d,.bin e op x y,none⟩::os) O:=by
 replace k:=k.out;refine ⟨?_⟩;simp only [wpOps,PR.wp,AJ.wp,f,g,h,BA]; exact k
theorem qu (e:x.val O=some (.int ik a)) (f:y.val O=some (.int ik b)) (k:WO S K os ((d,.tv (.bool (decide (a=b))))::O)):WO S K (⟨some d,.bin .i .eql x y,none⟩::os) O:=
 Ik e f (by simp [F1,intCmp]) k
theorem rG (e:x.val O=some (.int ik a)) (f:y.val O=some (.int ik b)) (k:WO S K os ((d,.tv (.bool (!decide (a=b))))::O)):WO S K (⟨some d,.bin .i .neq x y,none⟩::os) O:=
 Ik e f (by simp [F1,intCmp]) k
theorem q9 (e:x.val O=some (.int ik a)) (f:y.val O=some (.int ik b)) (k:WO S K os ((d,.tv (.bool (decide (a<b))))::O)):WO S K (⟨some d,.bin .i .lss x y,none⟩::os) O:=
 Ik e f (by simp [F1,intCmp]) k
theorem q8 (e:x.val O=some (.int ik a)) (f:y.val O=some (.int ik b)) (k:WO S K os ((d,.tv (.bool (decide (a<=b))))::O)):WO S K (⟨some d,.bin .i .leq x y,none⟩::os) O:=
 Ik e f (by simp [F1,intCmp]) k
theorem qz (e:x.val O=some (.int ik a)) (f:y.val O=some (.int ik b)) (k:WO S K os ((d,.tv (.bool (decide (b<a))))::O)):WO S K (⟨some d,.bin .i .gtr x y,none⟩::os) O:=
 Ik e f (by simp [F1,intCmp]) k
theorem qy (e:x.val O=some (.int ik a)) (f:y.val O=some (.int ik b)) (k:WO S K os ((d,.tv (.bool (decide (b<=a))))::O)):WO S K (⟨some d,.bin .i .geq x y,none⟩::os) O:=
 Ik e f (by simp [F1,intCmp]) k
theorem qh (e:x.val O=some (.int ik a)) (f:y.val O=some (.int ik b)) (k:WO S K os ((d,.tv (.int ik (ik.wrap (a+b))))::O)):WO S K (⟨some d,.bin .i .add x y,none⟩::os) O:=
 Ik e f (by simp [F1,intCmp,intArith]) k
theorem rO (e:x.val O=some (.int ik a)) (f:y.val O=some (.int ik b)) (k:WO S K os ((d,.tv (.int ik (ik.wrap (a - b))))::O)):WO S K (⟨some d,.bin .i .sub x y,none⟩::os) O:=
 Ik e f (by simp [F1,intCmp,intArith]) k
theorem rD (e:x.val O=some (.int ik a)) (f:y.val O=some (.int ik b)) (k:WO S K os ((d,.tv (.int ik (ik.wrap (a*b))))::O)):WO S K (⟨some d,.bin .i .mul x y,none⟩::os) O:=
 Ik e f (by simp [F1,intCmp,intArith]) k
theorem rI {q:Int} (f:x.val O=some (.int ik a)) (g:y.val O=some (.int ik b)) (e:quo a b=some q) (k:WO S K os ((d,.tv (.int ik (ik.wrap q)))::O)):WO S K (⟨some d,.bin .i .quo x y,none⟩::os) O:=by
 refine Ik f g ?_ k;unfold quo at e;simp only [F1,if_true,intCmp,intArith];split at e
 ·cases e
 ·rename_i h; rw [d2 h,←Option.some.inj e]
theorem rK {q:Int} (f:x.val O=some (.int ik a)) (g:y.val O=some (.int ik b)) (e:eY a b=some q) (k:WO S K os ((d,.tv (.int ik q))::O)):WO S K (⟨some d,.bin .i .rem x y,none⟩::os) O:=by
 refine Ik f g ?_ k;unfold eY at e;simp only [F1,if_true,intCmp,intArith];split at e
 ·cases e
 ·rename_i h; rw [d1 ⟨trivial,h⟩,←Option.some.inj e]
theorem ql {op:BinOp} {e:IntKind} {r:Int} (f:x.val O=some (.int ik a)) (g:y.val O=some (.int e b)) (h:ik=e∨op=.shl∨op=.shr) (i:Lt ik op a b=some r) (k:WO S K os ((d,.tv (.int ik r))::O)):WO S K (⟨some d,.bin .w op x y,none⟩::os) O:=
 Ik f g (by simp only [F1]; rw [d1 h,i]) k
theorem kD {u v:ByteArray} (e:x.val O=some (.str u)) (f:y.val O=some (.str v)) (k:WO S K os ((d,.tv (.bool (u==v)))::O)):WO S K (⟨some d,.bin .s .eql x y,none⟩::os) O:=
 Ik e f (by simp [F1]) k
theorem kG {u v:ByteArray} (e:x.val O=some (.str u)) (f:y.val O=some (.str v)) (k:WO S K os ((d,.tv (.bool (!(u==v))))::O)):WO S K (⟨some d,.bin .s .neq x y,none⟩::os) O:=
 Ik e f (by simp [F1]) k
theorem kC {u v t:ByteArray} (e:x.val O=some (.str u)) (f:y.val O=some (.str v)) (h:NG u v=some t) (k:WO S K os ((d,.tv (.str t))::O)):WO S K (⟨some d,.bin .s .add x y,none⟩::os) O:=by
 refine Ik e f ?_ k;unfold NG at h;simp only [F1];split at h
 ·rename_i g; rw [d1 g,←Option.some.inj h]
 ·cases h
theorem ju {u v:Bool} (e:x.val O=some (.bool u)) (f:y.val O=some (.bool v)) (k:WO S K os ((d,.tv (.bool (u==v)))::O)):WO S K (⟨some d,.bin .b .eql x y,none⟩::os) O:=
 Ik e f (by simp [F1]) k
theorem jx {u v:Bool} (e:x.val O=some (.bool u)) (f:y.val O=some (.bool v)) (k:WO S K os ((d,.tv (.bool (!(u==v))))::O)):WO S K (⟨some d,.bin .b .neq x y,none⟩::os) O:=
 Ik e f (by simp [F1]) k
theorem bL {n:ci} {cs e:QQ} {r:Bool} (f:x.val O=some (.agg cs)) (g:y.val O=some (.agg e)) (i:cs.map TV.kd=n) (h:CX cs e=some r) (k:WO S K os ((d,.tv (.bool r))::O)):WO S K (⟨some d,.bin (.a n) .eql x y,none⟩::os) O:=
 Ik f g (by simp [F1,i,h]) k
theorem bM {n:ci} {cs e:QQ} {r:Bool} (f:x.val O=some (.agg cs)) (g:y.val O=some (.agg e)) (i:cs.map TV.kd=n) (h:CX cs e=some r) (k:WO S K os ((d,.tv (.bool (!r)))::O)):WO S K (⟨some d,.bin (.a n) .neq x y,none⟩::os) O:=
 Ik f g (by simp [F1,i,h]) k
end bins
theorem rH {x:AL} {b:Bool} (h:x.val O=some (.bool b)) (k:WO S K os ((d,.tv (.bool (!b)))::O)):WO S K (⟨some d,.not x,none⟩::os) O:=by
 replace k:=k.out;refine ⟨?_⟩;simp only [wpOps,PR.wp,AJ.wp,h]; exact k
theorem rF {x:AL} {ik:IntKind} {n:Int} (h:x.val O=some (.int ik n)) (k:WO S K os ((d,.tv (.int ik (ik.wrap (-n))))::O)):WO S K (⟨some d,.neg x,none⟩::os) O:=by
 replace k:=k.out;refine ⟨?_⟩;simp only [wpOps,PR.wp,AJ.wp,h]; exact k
theorem gq {c a b:AL} {q:Bool} {t:TV} (e:c.val O=some (.bool q)) (f:q=true) (h:a.val O=some t) (k:WO S K os ((d,.tv t)::O)):WO S K (⟨some d,.pick c a b,none⟩::os) O:=by
 replace k:=k.out;refine ⟨?_⟩;subst f;simp only [wpOps,PR.wp,AJ.wp,e,if_true];rcases RT h with h | h <;> rw [h] <;> exact k
theorem gm {c a b:AL} {q:Bool} {t:TV} (e:c.val O=some (.bool q)) (f:q=false) (h:b.val O=some t) (k:WO S K os ((d,.tv t)::O)):WO S K (⟨some d,.pick c a b,none⟩::os) O:=by
 replace k:=k.out;refine ⟨?_⟩;subst f;simp only [wpOps,PR.wp,AJ.wp,e,Bool.false_eq_true,if_false];rcases RT h with h | h <;> rw [h] <;> exact k
theorem q7 {α:Type} {x:AL} {n:Nat} {es:QQ} {e:α->TV} {l:List α} (h:x.val O=some (.list n es)) (f:es=l.map e) (k:WO S K os ((d,.tv (.int .i64 l.length))::O)):WO S K (⟨some d,.len x,none⟩::os) O:=by
 replace k:=k.out;refine ⟨?_⟩;subst f;simp only [wpOps,PR.wp,AJ.wp,h,d7]; exact k
theorem kF {x:AL} {s:ByteArray} (h:x.val O=some (.str s)) (k:WO S K os ((d,.tv (.int .i64 s.size))::O)):WO S K (⟨some d,.slen x,none⟩::os) O:=by
 replace k:=k.out;refine ⟨?_⟩;simp only [wpOps,PR.wp,AJ.wp,h]; exact k
theorem XN {α:Type} {l m:List α} {a b:Int} (h:slc l a b=some m):((0<=a∧a<=b)∧b<=l.length)∧m=(l.take b.toNat).drop a.toNat:=by
 unfold slc at h;split at h
 ·rename_i e; exact ⟨e,(Option.some.inj h).symm⟩
 ·cases h
theorem rL {α:Type} {n:Nat} {x:AL} {lo hi:Option AL} {es:QQ} {e:α->TV} {l m:List α} {j o:IntKind} {a b:Int} (h:x.val O=some (.list n es)) (p:es=l.map e) (f:HM O 0 lo=some (.int j a)) (g:HM O l.length hi=some (.int o b)) (r:slc l a b=some m)
  (k:WO S K os ((d,.tv (.list n (m.map e)))::O)):WO S K (⟨some d,.slc n x lo hi,none⟩::os) O:=by
 replace k:=k.out;refine ⟨?_⟩;subst p;obtain ⟨⟨i,s⟩,t⟩:=XN r;subst t;simp only [wpOps,PR.wp,AJ.wp,h,d7,f,g];refine ⟨⟨trivial,i.1,i.2⟩,s,?_⟩;rw [List.map_drop,List.map_take] at k;exact k
theorem kH {x:AL} {lo hi:Option AL} {s t:ByteArray} {j l:IntKind} {a b:Int} (h:x.val O=some (.str s)) (f:HM O 0 lo=some (.int j a)) (g:HM O s.size hi=some (.int l b)) (e:sslc s a b=some t)
  (k:WO S K os ((d,.tv (.str t))::O)):WO S K (⟨some d,.sslc x lo hi,none⟩::os) O:=by
 replace k:=k.out;refine ⟨?_⟩;unfold sslc at e;split at e
 ·rename_i i;cases e;simp only [wpOps,PR.wp,AJ.wp,h,f,g];exact ⟨i.1,i.2.1,i.2.2,k⟩
 ·cases e
theorem Zg {zero:QQ} {parts:List (Nat × Nat × AL)} {e:List (Nat × Nat × TV)} {cs:QQ} {t:TV} (f:Iw O parts=some e) (g:IC zero e=some cs) (h:TV.agg cs=t) (k:WO S K os ((d,.tv t)::O)):WO S K (⟨some d,.bld zero parts,none⟩::os) O:=by
 replace k:=k.out;refine ⟨?_⟩;subst h;simp only [wpOps,PR.wp,AJ.wp,f,BA,g]; exact k
def Zi:Nat->List (Nat × Nat × TV)->Bool
 | _,[]=>true
 | k,(i,n,t)::r=>Nat.beq i k&&Nat.beq t.cells.length n&&Zi (k+n) r
def PT:List (Nat × Nat × TV)->QQ
 | []=>[]
 | (_,_,t)::r=>t.cells++PT r
theorem VV:∀ (f done e rest:QQ),e.length=f.length->Nt (done++(e++rest)) done.length f=done++(f++rest)
 | [],done,e,rest,h=>by
  have:e=[]:=List.eq_nil_of_length_eq_zero (by simpa using h);subst this; rfl
 | d::f,done,[],rest,h=>by simp at h
 | d::f,done,m::e,rest,h=>by
  simp only [Nt];rw [List.cons_append,List.set_append_right _ _ (d3 _),Nat.sub_self,List.set_cons_zero];have:=VV f (done++[d]) e rest (by simpa using h);simpa using this
theorem VB:∀ (e:List (Nat × Nat × TV)) (done rest:QQ),Zi done.length e=true->(PT e).length=rest.length->IC (done++rest) e=some (done++PT e)
 | [],done,rest,_,h=>by
  have:rest=[]:=List.eq_nil_of_length_eq_zero (by simpa [PT] using h.symm);subst this; rfl
 | (i,n,t)::r,done,rest,g,h=>by
  simp only [Zi,zzZ,Nat.beq_eq] at g;obtain ⟨⟨rfl,f⟩,l⟩:=g;simp only [PT,d4] at h;have j:n<=rest.length:=by omega
  simp only [IC];rw [d1 ⟨f,by rw [d4]; omega⟩];have k:rest=rest.take n++rest.drop n:=(List.take_append_drop n rest).symm;rw [k,VV t.cells done (rest.take n) (rest.drop n) (by rw [d5]; omega),←ea];rw [VB r (done++t.cells) (rest.drop n) (by rw [d4,f]; exact l) (by rw [List.length_drop]; omega)];simp [PT]
theorem jv {zero:QQ} {parts:List (Nat × Nat × AL)} {e:List (Nat × Nat × TV)} {t:TV} (f:Iw O parts=some e) (g:Zi 0 e=true) (h:Nat.beq (PT e).length zero.length=true) (i:TV.agg (PT e)=t) (k:WO S K os ((d,.tv t)::O)):WO S K (⟨some d,.bld zero parts,none⟩::os) O:=
 Zg f (by have:=VB e [] zero g (Nat.eq_of_beq_eq_true h); simpa using this) i k
theorem ed {α:Type} {n:Nat} {parts:List AL} {f:QQ} {e:α->TV} {l:List α} (h:vals O parts=some f) (g:f=l.map e) (i:∀ a,(e a).cells.length=n) (k:WO S K os ((d,.ow (.list n (l.map e)))::O)):WO S K (⟨some d,.lst n parts,none⟩::os) O:=by
 replace k:=k.out;refine ⟨?_⟩;subst g;simp only [wpOps,PR.wp,AJ.wp,h,BA];refine ⟨fun t j=>?_,k⟩;obtain ⟨a,_,rfl⟩:=List.mem_map.1 j;exact i a
theorem eZ {α:Type} {n s:Nat} {y:AL} {es f g:QQ} {e:α->TV} {l m r:List α} (j:O.get s=.ow (.list n es)) (o:y.val O=some (.list n f)) (i:es=l.map e) (p:f=m.map e) (h:BV l m=some r) (t:g=r.map e)
  (k:WO S K os ((d,.ow (.list n g))::(s,.tv (.list n es))::O)):WO S K (⟨some d,.app n (.s s) y,none⟩::os) O:=by
 replace k:=k.out;refine ⟨?_⟩;subst p t;unfold BV at h;split at h
 ·rename_i u;cases h;simp only [wpOps,PR.wp,AJ.wp,AL.ev,j,o,i,d7];rw [i] at k;refine ⟨by simp,by simp,u,?_⟩;rw [List.map_append] at k;exact k
 ·cases h
theorem bN {f:FuncId} {args:List AL} {e:QQ} {t:TV} (g:vals O args=some e) (h:S f e (.sh t)) (k:WO S K os ((d,.tv t)::O)):WO S K (⟨some d,.call f args,none⟩::os) O:=by
 replace k:=k.out;refine ⟨?_⟩;simp only [wpOps,PR.wp,AJ.wp,g,BA]; exact ⟨_,⟨h,rfl⟩,fun _=>k⟩
theorem gf {f:FuncId} {args:List AL} {e:QQ} {t:TV} (g:vals O args=some e) (h:S f e (.own t)) (k:WO S K os ((d,.ow t)::O)):WO S K (⟨some d,.call f args,none⟩::os) O:=by
 replace k:=k.out;refine ⟨?_⟩;simp only [wpOps,PR.wp,AJ.wp,g,BA]; exact ⟨_,⟨h,rfl⟩,fun _=>k⟩
theorem gj {f:FuncId} {args:List AL} {e es:QQ} {n:Nat} (g:vals O args=some e) (h:S f e (.xown n es)) (k:WO S K os ((d,.ow (.list n es))::O)):WO S K (⟨some d,.call f args,none⟩::os) O:=by
 replace k:=k.out;refine ⟨?_⟩;simp only [wpOps,PR.wp,AJ.wp,g,BA]; exact ⟨_,⟨h,rfl⟩,fun _=>k⟩
theorem gh {f:FuncId} {args:List AL} {e t:QQ} (g:vals O args=some e) (h:S f e (.tp t)) (k:WO S K os ((d,.tp t)::O)):WO S K (⟨some d,.call f args,none⟩::os) O:=by
 replace k:=k.out;refine ⟨?_⟩;simp only [wpOps,PR.wp,AJ.wp,g,BA]; exact ⟨_,⟨h,rfl⟩,fun _=>k⟩
theorem gi {f:FuncId} {x:AL} {e:QQ} {args:List AL} {g:QQ} {t:TV} (h:x.val O=some (.clo f e)) (i:vals O args=some g) (j:S f (g++e) (.sh t)) (k:WO S K os ((d,.tv t)::O)):WO S K (⟨some d,.callv x args,none⟩::os) O:=by
 replace k:=k.out;refine ⟨?_⟩;simp only [wpOps,PR.wp,AJ.wp,h,i]; exact ⟨_,⟨j,rfl⟩,fun _=>k⟩
theorem dH {f:FuncId} {x:AL} {e:QQ} {args:List AL} {g:QQ} {t:TV} (h:x.val O=some (.clo f e)) (i:vals O args=some g) (j:S f (g++e) (.own t)) (k:WO S K os ((d,.ow t)::O)):WO S K (⟨some d,.callv x args,none⟩::os) O:=by
 replace k:=k.out;refine ⟨?_⟩;simp only [wpOps,PR.wp,AJ.wp,h,i]; exact ⟨_,⟨j,rfl⟩,fun _=>k⟩
theorem dI {f:FuncId} {x:AL} {e:QQ} {args:List AL} {g t:QQ} (h:x.val O=some (.clo f e)) (i:vals O args=some g) (j:S f (g++e) (.tp t)) (k:WO S K os ((d,.tp t)::O)):WO S K (⟨some d,.callv x args,none⟩::os) O:=by
 replace k:=k.out;refine ⟨?_⟩;simp only [wpOps,PR.wp,AJ.wp,h,i]; exact ⟨_,⟨j,rfl⟩,fun _=>k⟩
theorem qo {f:FuncId} {e:List AL} {g:QQ} (h:vals O e=some g) (k:WO S K os ((d,.tv (.clo f g))::O)):WO S K (⟨some d,.clo f e,none⟩::os) O:=by
 replace k:=k.out;refine ⟨?_⟩;simp only [wpOps,PR.wp,AJ.wp,h,BA]; exact k
theorem qv {x:AL} {i:Nat} {e:QQ} {t:TV} (h:x.ev O=.tp e) (hi:e[i]?=some t) (k:WO S K os ((d,.tv t)::O)):WO S K (⟨some d,.ext x i,none⟩::os) O:=by
 replace k:=k.out;refine ⟨?_⟩;simp only [wpOps,PR.wp,AJ.wp,h,hi,BA]; exact k
theorem rE {x:AL} {e:QQ} (h:x.ev O=.tp e) (k:WO S K os ((d,.tp e)::O)):WO S K (⟨some d,.mv x,none⟩::os) O:=by
 replace k:=k.out;refine ⟨?_⟩;simp only [wpOps,PR.wp,AJ.wp,h]; exact k
theorem qt {ik e:IntKind} {x:AL} {n:Int} (h:x.val O=some (.int e n)) (k:WO S K os ((d,.tv (.int ik (ik.wrap n)))::O)):WO S K (⟨some d,.cvt ik x,none⟩::os) O:=by
 replace k:=k.out;refine ⟨?_⟩;simp only [wpOps,PR.wp,AJ.wp,h]; exact k
theorem kE {x i:AL} {s:ByteArray} {ik:IntKind} {j b:Int} (h:x.val O=some (.str s)) (hi:i.val O=some (.int ik j)) (e:sidx s j=some b) (k:WO S K os ((d,.tv (.int .u8 b))::O)):WO S K (⟨some d,.sidx x i,none⟩::os) O:=by
 replace k:=k.out;refine ⟨?_⟩;unfold sidx at e;split at e
 ·rename_i f;rw [Option.map_eq_some_iff] at e;obtain ⟨c,g,rfl⟩:=e;simp only [wpOps,PR.wp,AJ.wp,h,hi];exact ⟨f,c,g,k⟩
 ·cases e
theorem j5 {x:AL} {t:TV} {row:QQ} (h:x.val O=some t) (e:t.cells=row) (k:WO S K os ((d,.tv (.pt row))::O)):WO S K (⟨some d,.boxs x,none⟩::os) O:=by
 replace k:=k.out;refine ⟨?_⟩;subst e;simp only [wpOps,PR.wp,AJ.wp,h]; exact k
theorem jy {x:AL} {t:TV} {row:QQ} {cs:List A1} (h:x.val O=some t) (e:O.noRef d=true) (f:t.cells=row) (g:row.map (⟨false,·⟩)=cs) (k:WO S K os ((d,.bx cs)::O)):WO S K (⟨some d,.boxo x,none⟩::os) O:=by
 replace k:=k.out;refine ⟨?_⟩;subst f g;simp only [wpOps,PR.wp,AJ.wp,h]; exact ⟨e,k⟩
theorem j9 {mx:Bool} {x y:AL} {ik:IntKind} {a b:Int} (e:x.val O=some (.int ik a)) (f:y.val O=some (.int ik b)) (k:WO S K os ((d,.tv (.int ik (if mx then max a b else min a b)))::O)):WO S K (⟨some d,.mm mx x y,none⟩::os) O:=by
 replace k:=k.out;refine ⟨?_⟩;simp only [wpOps,PR.wp,AJ.wp,e,f]; exact ⟨trivial,k⟩
theorem rA {x y:AL} {ik:IntKind} {a b:Int} (e:x.val O=some (.int ik a)) (f:y.val O=some (.int ik b)) (k:WO S K os ((d,.tv (.int ik (max a b)))::O)):WO S K (⟨some d,.mm true x y,none⟩::os) O:=j9 e f k
theorem rB {x y:AL} {ik:IntKind} {a b:Int} (e:x.val O=some (.int ik a)) (f:y.val O=some (.int ik b)) (k:WO S K os ((d,.tv (.int ik (min a b)))::O)):WO S K (⟨some d,.mm false x y,none⟩::os) O:=j9 e f k
theorem qj {cs:List A1} (e:O.noRef d=true) (k:WO S K os ((d,.bx cs)::O)):WO S K (⟨some d,.alc cs,none⟩::os) O:=by
 replace k:=k.out;refine ⟨?_⟩;simp only [wpOps,PR.wp,AJ.wp]; exact ⟨e,k⟩
theorem uI {n s e:Nat} {x v:AL} {cs cs':List A1} {t:TV} (f:x.place O=some (s,e)) (g:O.get s=.bx cs) (hv:v.ev O=.tv t) (h:t.cells.length=n) (i:Nat.ble (e+n) cs.length=true) (j:cs.take e++t.cells.map (⟨false,·⟩)++cs.drop (e+n)=cs')
  (k:WO S K os ((s,.bx cs')::O)):WO S K (⟨none,.st n x v,none⟩::os) O:=by
 replace k:=k.out;refine ⟨?_⟩;subst j;simp only [wpOps,PR.wp,AJ.wp,f,g,hv]; exact ⟨h,Nat.le_of_ble_eq_true i,k⟩
theorem rM {s e q:Nat} {x:AL} {cs cs':List A1} {t:TV} (f:x.place O=some (s,e)) (g:O.get s=.bx cs) (hv:O.get q=.ow t) (h:q≠s) (i:Nat.blt e cs.length=true) (j:cs.set e ⟨true,t⟩=cs')
  (k:WO S K os ((s,.bx cs')::(q,.tv t)::O)):WO S K (⟨none,.st 1 x (.s q),none⟩::os) O:=by
 replace k:=k.out;refine ⟨?_⟩;subst j;simp only [wpOps,PR.wp,AJ.wp,f,g,AL.ev,hv]; exact ⟨h,trivial,Nat.le_of_ble_eq_true i,k⟩
theorem ee {n s:Nat} {v:AL} {cs cs':List A1} {t:TV} (e:O.get s=.bx cs) (hv:v.ev O=.tv t) (f:t.cells.length=n) (g:Nat.ble (0+n) cs.length=true) (h:cs.take 0++t.cells.map (⟨false,·⟩)++cs.drop (0+n)=cs')
  (k:WO S K os ((s,.bx cs')::O)):WO S K (⟨none,.stb n s v,none⟩::os) O:=by
 replace k:=k.out;refine ⟨?_⟩;subst h;simp only [wpOps,PR.wp,AJ.wp,e,hv]; exact ⟨f,Nat.le_of_ble_eq_true g,k⟩
theorem kI {s q:Nat} {cs cs':List A1} {t:TV} (e:O.get s=.bx cs) (hv:O.get q=.ow t) (f:q≠s) (g:Nat.blt 0 cs.length=true) (h:cs.set 0 ⟨true,t⟩=cs')
  (k:WO S K os ((s,.bx cs')::(q,.tv t)::O)):WO S K (⟨none,.stb 1 s (.s q),none⟩::os) O:=by
 replace k:=k.out;refine ⟨?_⟩;subst h;simp only [wpOps,PR.wp,AJ.wp,e,AL.ev,hv]; exact ⟨f,trivial,Nat.le_of_ble_eq_true g,k⟩
theorem qx {s:Nat} {cs:List A1} {row:QQ} (e:O.get s=.bx cs) (f:cs.map (·.t)=row) (k:WO S K os ((s,.tv (.pt row))::O)):WO S K (⟨none,.frz s,none⟩::os) O:=by
 replace k:=k.out;refine ⟨?_⟩;subst f;simp only [wpOps,PR.wp,AJ.wp,e]; exact k
theorem jw {e:List GC} {cs:List A1} {env':AD} (f:(e.filterMap GC.src).Nodup) (g:d ∉ e.filterMap GC.slot) (h:JR O e=some cs) (i:OJ O (e.filterMap GC.slot) O=env') (k:WO S K os ((d,.oag cs)::env')):WO S K (⟨some d,.bldg e,none⟩::os) O:=by
 replace k:=k.out;refine ⟨?_⟩;subst i;simp only [wpOps,PR.wp,AJ.wp,h]; exact ⟨⟨f,g⟩,k⟩
theorem rN {n s q:Nat} {cs e cs':List A1} (g:O.get s=.bx cs) (h:O.get q=.oag e) (f:q≠s) (i:e.length=n) (j:Nat.ble (0+n) cs.length=true) (l:((e.all fun c=>!c.t.isXl)||O.noX s none)=true) (m:cs.take 0++e++cs.drop (0+n)=cs')
  (k:WO S K os ((s,.bx cs')::(q,.undef)::O)):WO S K (⟨none,.stx n s q,none⟩::os) O:=by
 replace k:=k.out;refine ⟨?_⟩;subst m;simp only [wpOps,PR.wp,AJ.wp,g,h]; exact ⟨f,⟨i,l⟩,Nat.le_of_ble_eq_true j,k⟩
theorem gX {f:FuncId} {args:List AL} {e:QQ} {cs:List A1} (g:vals O args=some e) (h:S f e (.oag cs)) (k:WO S K os ((d,.oag cs)::O)):WO S K (⟨some d,.callg f args,none⟩::os) O:=by
 replace k:=k.out;refine ⟨?_⟩;simp only [wpOps,PR.wp,AJ.wp,g,BA]; exact ⟨cs,h,fun _=>k⟩
theorem gY {f:FuncId} {args:List AL} {e:QQ} {cs:List A1} {t:TV} (g:vals O args=some e) (h:S f e (.oag cs)) (i:TV.agg (cs.map (·.t))=t) (k:WO S K os ((d,.tv t)::O)):WO S K (⟨some d,.call f args,none⟩::os) O:=by
 replace k:=k.out;refine ⟨?_⟩;subst i;simp only [wpOps,PR.wp,AJ.wp,g,BA]; exact ⟨_,⟨h,rfl⟩,fun _=>k⟩
theorem eb {α:Type} {x:AL} {n:Nat} {es:QQ} {e:α->TV} {l:List α} (h:x.val O=some (.list n es)) (g:es=l.map e) (k:∀ b:Bool,(b=true->l=[])->WO S K os ((d,.tv (.bool b))::O)):WO S K (⟨some d,.isn x,none⟩::os) O:=by
 replace k:=fun b f=>(k b f).out;refine ⟨?_⟩;simp only [wpOps,PR.wp,AJ.wp,h];intro b f;refine k b fun i=>?_;have:=f i;rw [g] at this;simpa using this
theorem fQ {α:Type} {l r:List α} (h:BV [] l=some r) (b:Bool) (e:b=true->l=[]):(if b=true then some [] else (BV [] l).bind fun x=>some x)=some r:=by
 cases b
 ·simpa using h
 ·have:=e rfl;subst this;simpa [BV] using h
theorem Wb {α:Type} {l:List α} {j:Int} {a:α} (h:AM l j=some a):0<=j∧j<l.length∧l[j.toNat]?=some a:=by
 unfold AM at h;split at h
 ·rename_i e;have:=(List.getElem?_eq_some_iff.1 h).1;exact ⟨e,by omega,h⟩
 ·cases h
theorem YG {α:Type} {n:Nat} {e:α->TV} (f:∀ a,(e a).cells.length=n):∀ (l:List α) (j k:Nat) (a:α),l[j]?=some a->k<n->((l.map e).flatMap TV.cells)[j*n+k]?=(e a).cells[k]?
 | [],j,k,a,h,_=>by simp at h
 | b::l,0,k,a,h,g=>by
  simp only [List.getElem?_cons_zero,zzY] at h;subst h;rw [List.map_cons,List.flatMap_cons,List.getElem?_append_left (by rw [f]; omega),Nat.zero_mul,Nat.zero_add]
 | b::l,j+1,k,a,h,g=>by
  rw [List.getElem?_cons_succ] at h;rw [List.map_cons,List.flatMap_cons,List.getElem?_append_right (by rw [f,Nat.add_mul]; omega),f,show (j+1)*n+k - n=j*n+k from by rw [Nat.add_mul]; omega];exact YG f l j k a h g
theorem WV {α:Type} {n:Nat} {e:α->TV} (f:∀ a,(e a).cells.length=n) (t:TV):∀ (l:List α) (j k:Nat) (a b:α),l[j]?=some a->k<n->(e b).cells=(e a).cells.set k t->((l.set j b).map e).flatMap TV.cells=((l.map e).flatMap TV.cells).set (j*n+k) t
 | [],j,k,a,b,h,_,_=>by simp at h
 | c::l,0,k,a,b,h,i,g=>by
  simp only [List.getElem?_cons_zero,zzY] at h;subst h;rw [List.set_cons_zero,List.map_cons,List.map_cons,List.flatMap_cons,List.flatMap_cons,Nat.zero_mul,Nat.zero_add,List.set_append_left _ _ (by rw [f]; omega),g]
 | c::l,j+1,k,a,b,h,i,g=>by
  rw [List.getElem?_cons_succ] at h;rw [List.set_cons_succ,List.map_cons,List.map_cons,List.flatMap_cons,List.flatMap_cons,List.set_append_right _ _ (by rw [f,Nat.add_mul]; omega),f,show (j+1)*n+k - n=j*n+k from by rw [Nat.add_mul]; omega,WV f t l j k a b h i g]
theorem Rd {α:Type} {e:α->TV} (h:∀ a,(e a).flat=true):∀ (l:List α),TV.flats (l.map e)=true
 | []=>rfl
 | a::l=>by simp only [List.map_cons,TV.flats,h a,Rd h l,Bool.and_self]
theorem gl {x:AL} {k n:Nat} {cs:QQ} {t:TV} (h:x.val O=some (.agg cs)) (f:Nat.ble (k+n) cs.length=true) (g:TV.agg ((cs.drop k).take n)=t) (e:WO S K os ((d,.tv t)::O)):WO S K (⟨some d,.fldv x k n true,none⟩::os) O:=by
 replace e:=e.out;refine ⟨?_⟩;subst g;simp only [wpOps,PR.wp,AJ.wp,h,if_true]; exact ⟨Nat.le_of_ble_eq_true f,e⟩
theorem j7 {x:AL} {k n:Nat} {cs r:QQ} {t:TV} (h:x.val O=some (.agg cs)) (f:Nat.ble (k+n) cs.length=true) (g:cs.drop k=t::r) (e:WO S K os ((d,.tv t)::O)):WO S K (⟨some d,.fldv x k n false,none⟩::os) O:=by
 replace e:=e.out;refine ⟨?_⟩;simp only [wpOps,PR.wp,AJ.wp,h,Bool.false_eq_true,if_false,g,IE,BA]; exact ⟨Nat.le_of_ble_eq_true f,e⟩
theorem rR {s n:Nat} {es:QQ} (h:O.get s=.xo n es) (k:WO S K os ((d,.la s none)::O)):WO S K (⟨some d,.xal s,none⟩::os) O:=by
 replace k:=k.out;refine ⟨?_⟩;simp only [wpOps,PR.wp,AJ.wp,h]; exact k
theorem kJ {α:Type} {x:AL} {q:Nat × Option Nat} {n:Nat} {es:QQ} {e:α->TV} {l:List α} (h:x.xlist O=some (q,n,es)) (f:es=l.map e) (k:WO S K os ((d,.tv (.int .i64 l.length))::O)):WO S K (⟨some d,.xlen x,none⟩::os) O:=by
 replace k:=k.out;refine ⟨?_⟩;subst f;simp only [wpOps,PR.wp,AJ.wp,h,BA,d7]; exact k
theorem rT {α:Type} {x i:AL} {q n:Nat} {f:Option Nat} {es:QQ} {e:α->TV} {l:List α} {ik:IntKind} {j:Int} {a:α} (h:x.xlist O=some ((q,f),n,es)) (hi:i.val O=some (.int ik j)) (g:es=l.map e) (m:AM l j=some a) (o:(x.ev O).ref=some q)
  (k:WO S K os ((d,.lp q f (j.toNat*n))::O)):WO S K (⟨some d,.xia x i n,none⟩::os) O:=by
 replace k:=k.out;refine ⟨?_⟩;subst g;obtain ⟨p,r,_⟩:=Wb m;simp only [wpOps,PR.wp,AJ.wp,h,hi,BA,d7]; exact ⟨⟨o,trivial⟩,p,r,k⟩
theorem rS {x:AL} {j q c:Nat} {e:Option Nat} {p:Nat × QQ} (h:x.ev O=.lp q e c) (f:O.xat q e=some p) (k:WO S K os ((d,.lp q e (c+j))::O)):WO S K (⟨some d,.xfa x j,none⟩::os) O:=by
 replace k:=k.out;refine ⟨?_⟩;simp only [wpOps,PR.wp,AJ.wp,h,f]; exact k
theorem ef {α:Type} {x:AL} {q c n i:Nat} {f:Option Nat} {es row:QQ} {e:α->TV} {l:List α} {j:Int} {a:α} {t:TV} (h:x.ev O=.lp q f c) (g:O.xat q f=some (n,es)) (m:es=l.map e) (o:∀ a,(e a).cells.length=n) (p:AM l j=some a) (r:c=j.toNat*n+i) (hi:Nat.blt i n=true) (s:(e a).cells=row) (u:row[i]?=some t)
  (k:WO S K os ((d,.tv t)::O)):WO S K (⟨some d,.xld x,none⟩::os) O:=by
 replace k:=k.out;refine ⟨?_⟩;subst m r s;have v:=YG o l j.toNat i a (Wb p).2.2 (Nat.le_of_ble_eq_true hi);simp only [wpOps,PR.wp,AJ.wp,h,g,v,u,BA]; exact k
theorem eg {α:Type} {x v:AL} {q c n i:Nat} {f:Option Nat} {env':AD} {es p:QQ} {e:α->TV} {l:List α} {j:Int} {a b:α} {t:TV} (h:x.ev O=.lp q f c) (w:O.xat q f=some (n,es)) (hv:v.ev O=.tv t) (z:es=l.map e) (r:∀ a,(e a).cells.length=n) (A:AM l j=some a) (B:c=j.toNat*n+i) (hi:Nat.blt i n=true) (C:t.cells=[t])
  (D:(e b).cells=(e a).cells.set i t) (E:p=(BZ l j b).map e) (g:O.xput q f n p=env') (k:WO S K os env'):WO S K (⟨none,.xst x v,none⟩::os) O:=by
 replace k:=k.out;refine ⟨?_⟩;subst z B E g;obtain ⟨H,I,s⟩:=Wb A;have m:i<n:=Nat.le_of_ble_eq_true hi;have o:j.toNat<l.length:=(List.getElem?_eq_some_iff.1 s).1;simp only [wpOps,PR.wp,AJ.wp,h,w,hv];refine ⟨C,?_,_,WV r t l j.toNat i a b s m D,by simp,fun u F=>?_,k⟩
 ·rw [d7]
  calc j.toNat*n+i<j.toNat*n+n:=by omega
   _=(j.toNat+1)*n:=by rw [Nat.add_mul]; omega
   _<=l.length*n:=Nat.mul_le_mul_right _ o
 ·obtain ⟨G,_,rfl⟩:=List.mem_map.1 F;exact r G
theorem rJ {s n:Nat} {es:QQ} (h:O.get s=.xo n es) (e:d≠s) (k:WO S K os ((d,.ow (.list n es))::(s,.undef)::O)):WO S K (⟨some d,.rel s,none⟩::os) O:=by
 replace k:=k.out;refine ⟨?_⟩;simp only [wpOps,PR.wp,AJ.wp,h]; exact ⟨e,k⟩
theorem kB {n:Nat} (e:O.noRef d=true) (k:WO S K os ((d,.xo n [])::O)):WO S K (⟨some d,.nilx n,none⟩::os) O:=by
 replace k:=k.out;refine ⟨?_⟩;simp only [wpOps,PR.wp,AJ.wp]; exact ⟨e,k⟩
theorem j8 {n:Nat} (e:O.noRef d=true) (k:WO S K os ((d,.xo n [])::O)):WO S K (⟨some d,.lstz n,none⟩::os) O:=by
 replace k:=k.out;refine ⟨?_⟩;simp only [wpOps,PR.wp,AJ.wp]; exact ⟨e,k⟩
theorem rQ {s n:Nat} {es:QQ} (h:O.get s=.xo n es) (e:O.noRef d=true) (f:d≠s) (k:WO S K os ((d,.xo n es)::(s,.undef)::O)):WO S K (⟨some d,.tkx s,none⟩::os) O:=by
 replace k:=k.out;refine ⟨?_⟩;simp only [wpOps,PR.wp,AJ.wp,h]; exact ⟨e,f,k⟩
theorem jq {α:Type} {n s:Nat} {y:AL} {es f g:QQ} {e:α->TV} {l m r:List α} (i:O.get s=.xo n es) (j:y.val O=some (.list n f)) (o:es=l.map e) (p:f=m.map e) (h:BV l m=some r) (t:g=r.map e) (u:O.noRef d=true) (v:d≠s)
  (k:WO S K os ((d,.xo n g)::(s,.undef)::O)):WO S K (⟨some d,.appx n s y,none⟩::os) O:=by
 replace k:=k.out;refine ⟨?_⟩;subst o p t;unfold BV at h;split at h
 ·rename_i w;cases h;simp only [wpOps,PR.wp,AJ.wp,i,j,d7];rw [List.map_append] at k;exact ⟨trivial,trivial,w,u,v,k⟩
 ·cases h
theorem gk {f:FuncId} {args:List AL} {e es:QQ} {n:Nat} (g:O.noRef d=true) (h:vals O args=some e) (i:S f e (.xown n es)) (k:WO S K os ((d,.xo n es)::O)):WO S K (⟨some d,.callx f args,none⟩::os) O:=by
 replace k:=k.out;refine ⟨?_⟩;simp only [wpOps,PR.wp,AJ.wp,h,BA]; exact ⟨g,n,es,.inl i,fun _=>k⟩
theorem dJ {α:Type} {f:FuncId} {args:List AL} {g es:QQ} {n:Nat} {e:α->TV} {l:List α} (h:O.noRef d=true) (i:vals O args=some g) (j:S f g (.own (.list n es))) (m:es=l.map e) (o:∀ a,(e a).flat=true) (k:WO S K os ((d,.xo n es)::O)):WO S K (⟨some d,.callx f args,none⟩::os) O:=by
 replace k:=k.out;refine ⟨?_⟩;simp only [wpOps,PR.wp,AJ.wp,i,BA]; exact ⟨h,n,es,.inr ⟨j,by rw [m]; exact Rd o l⟩,fun _=>k⟩
theorem rC {α:Type} {n:Nat} {zero:QQ} {x:AL} {ik:IntKind} {j:Int} {f:QQ} {e:α->TV} {z:α} {r:List α} (i:O.noRef d=true) (l:x.val O=some (.int ik j)) (m:(match zero with | [t]=>t | ts=>.agg ts)=e z) (h:Jq j z=some r) (o:f=r.map e)
  (k:WO S K os ((d,.xo n f)::O)):WO S K (⟨some d,.mkx n zero x,none⟩::os) O:=by
 replace k:=k.out;refine ⟨?_⟩;subst o;unfold Jq at h;split at h
 ·rename_i g;cases h;rw [List.map_replicate,←m] at k;simp only [wpOps,PR.wp,AJ.wp,l]; exact ⟨i,g.1,g.2,k⟩
 ·cases h
theorem gc {f:FuncId} {x:AL} {q:Nat} {j:Option Nat} {env':AD} {es m:QQ} {e:Int->TV} {l r:Ne} (h:x.xlist O=some ((q,j),1,es)) (n:es=l.map e) (g:e=TV.int .i64) (o:S f [.list 1 (l.map (TV.int .i64))] (.turn r)) (p:m=r.map e) (i:O.xput q j 1 m=env') (k:WO S K os ((d,.tp [])::env')):WO S K (⟨some d,.callm f x,none⟩::os) O:=by
 replace k:=k.out;refine ⟨?_⟩;subst n p g i;simp only [wpOps,PR.wp,AJ.wp,h,BA]; exact ⟨trivial,l,r,rfl,o,fun _=>k⟩
theorem gV {f:FuncId} {x:AL} {q:Nat} {es j:QQ} {e:Int->TV} {l r:Ne} (h:x.xlist O=some ((q,none),1,es)) (m:es=l.map e) (g:e=TV.int .i64) (i:q≠d) (n:O.noRef d=true) (o:S f [.list 1 (l.map (TV.int .i64))] (.cut r)) (p:j=r.map e) (k:WO S K os ((d,.xo 1 j)::(q,.undef)::O)):WO S K (⟨some d,.callc f x,none⟩::os) O:=by
 replace k:=k.out;refine ⟨?_⟩;subst m p g;simp only [wpOps,PR.wp,AJ.wp,h,BA]; exact ⟨⟨i,trivial⟩,trivial,n,l,r,rfl,o,fun _=>k⟩
theorem q5 {x:AL} {s e:Nat} {p:Nat × QQ} (h:x.ev O=.bp s e) (f:O.xat s (some e)=some p) (k:WO S K os ((d,.la s (some e))::O)):WO S K (⟨some d,.lac x,none⟩::os) O:=by
 replace k:=k.out;refine ⟨?_⟩;simp only [wpOps,PR.wp,AJ.wp,h,f]; exact k
theorem qq {x:AL} {s e n:Nat} {cs cs':List A1} {es:QQ} (g:x.place O=some (s,e)) (h:O.get s=.bx cs) (i:cs[e]?=some ⟨true,.xl n es⟩) (j:O.noRef d=true) (f:cs.set e ⟨false,.undef⟩=cs') (k:WO S K os ((d,.xo n es)::(s,.bx cs')::O)):WO S K (⟨some d,.ctk x,none⟩::os) O:=by
 replace k:=k.out;refine ⟨?_⟩;subst f;simp only [wpOps,PR.wp,AJ.wp,g,h,i]; exact ⟨j,k⟩
theorem qp {x:AL} {q s e n:Nat} {cs cs':List A1} {es:QQ} (g:x.place O=some (s,e)) (h:O.get q=.xo n es) (i:O.get s=.bx cs) (j:O.noX s (some e)=true) (l:Nat.blt e cs.length=true) (f:cs.set e ⟨true,.xl n es⟩=cs') (k:WO S K os ((s,.bx cs')::(q,.undef)::O)):WO S K (⟨none,.cpt x q,none⟩::os) O:=by
 replace k:=k.out;refine ⟨?_⟩;subst f;simp only [wpOps,PR.wp,AJ.wp,g,h,i]; exact ⟨j,Nat.le_of_ble_eq_true l,k⟩
theorem qr {α:Type} {n s:Nat} {hi:AL} {es g:QQ} {e:α->TV} {l r:List α} {ik:IntKind} {j:Int} (i:O.get s=.xo n es) (m:hi.val O=some (.int ik j)) (o:es=l.map e) (h:slc l 0 j=some r) (p:g=r.map e) (t:O.noRef d=true) (u:d≠s) (k:WO S K os ((d,.xo n g)::(s,.undef)::O)):WO S K (⟨some d,.cut n s hi,none⟩::os) O:=by
 replace k:=k.out;refine ⟨?_⟩;subst o p;obtain ⟨⟨v,w⟩,f⟩:=XN h;subst f;simp only [wpOps,PR.wp,AJ.wp,i,m];refine ⟨⟨trivial,t,u⟩,v.2,by rw [d7]; exact w,?_⟩;have f:((l.take j.toNat).drop (0:Int).toNat).map e=(l.map e).take j.toNat:=by simp
 rw [f] at k;exact k
theorem gZ {f:FuncId} {args:List AL} {e:QQ} {t:TV} (g:lvals O args=some e) (h:S f e (.sh t)) (i:t.flat=true) (k:WO S K os ((d,.tv t)::O)):WO S K (⟨some d,.calll f args,none⟩::os) O:=by
 replace k:=k.out;refine ⟨?_⟩;simp only [wpOps,PR.wp,AJ.wp,g,BA]; exact ⟨_,⟨h,i⟩,fun _=>k⟩
theorem dG {f:FuncId} {args:List AL} {e t:QQ} (g:lvals O args=some e) (h:S f e (.tp t)) (i:TV.flats t=true) (k:WO S K os ((d,.tp t)::O)):WO S K (⟨some d,.calll f args,none⟩::os) O:=by
 replace k:=k.out;refine ⟨?_⟩;simp only [wpOps,PR.wp,AJ.wp,g,BA]; exact ⟨_,⟨h,i⟩,fun _=>k⟩
theorem dF {α:Type} {f:FuncId} {args:List AL} {g es:QQ} {t:TV} {n:Nat} {e:α->TV} {l:List α} (h:lvals O args=some g) (i:S f g (.own t)) (j:t=.list n es) (m:es=l.map e) (o:∀ a,(e a).flat=true) (k:WO S K os ((d,.ow t)::O)):WO S K (⟨some d,.calll f args,none⟩::os) O:=by
 replace k:=k.out;refine ⟨?_⟩;subst j m;simp only [wpOps,PR.wp,AJ.wp,h,BA]; exact ⟨_,⟨i,Rd o l⟩,fun _=>k⟩
def SZ {α:Type} (l:List α) (j:Int) (z:α):Option (List α):=if (0<=j∧j<=4096)∧l.length+j.toNat<=BN then some (l++List.replicate j.toNat z) else none
theorem jr {α:Type} {n s:Nat} {f:TV} {x:AL} {es i:QQ} {e:α->TV} {z:α} {l r:List α} {ik:IntKind} {j:Int} (o:O.get s=.xo n es) (p:x.val O=some (.int ik j)) (t:es=l.map e) (u:f=e z) (h:SZ l j z=some r) (v:i=r.map e) (w:O.noRef d=true) (A:d≠s) (g:n=1) (B:f.cells=[f]) (k:WO S K os ((d,.xo n i)::(s,.undef)::O)):WO S K (⟨some d,.appz n s f x,none⟩::os) O:=by
 replace k:=k.out;refine ⟨?_⟩;subst t v;unfold SZ at h;split at h
 ·rename_i m;cases h;simp only [wpOps,PR.wp,AJ.wp,o,p];refine ⟨⟨⟨trivial,g⟩,B⟩,m.1,⟨by rw [d7]; exact m.2,w,A⟩,?_⟩;rw [List.map_append,List.map_replicate,←u] at k;exact k
 ·cases h
theorem gW {f:FuncId} {args:List AL} {e t:QQ} (g:vals O args=some e) (h:S f e (.ext t)) (k:WO S K os ((d,.tp t)::O)):WO S K (⟨some d,.callf f args,none⟩::os) O:=by
 replace k:=k.out;refine ⟨?_⟩;simp only [wpOps,PR.wp,AJ.wp,g,BA]; exact ⟨_,h,k⟩
theorem jz {e:List (Option A1)} {x:AL} {t:TV} {cs:List A1} (h:x.val O=some t) (f:HN e t.cells=some cs) (g:O.noRef d=true) (k:WO S K os ((d,.bx cs)::O)):WO S K (⟨some d,.boxp e x,none⟩::os) O:=by
 replace k:=k.out;refine ⟨?_⟩;simp only [wpOps,PR.wp,AJ.wp,h,f,BA]; exact ⟨g,k⟩
theorem gU {f:FuncId} {args:List AL} {i s:Nat} {h g:QQ} {cs cs':List A1} {e:EV} (j:(args[i]?).bind (·.place O)=some (s,0)) (l:O.get s=.bx cs) (m:O.noX s none=true) (n:d≠s) (o:OV O i args=some h) (p:S f h (.bo cs cs' i g)) (r:EV.ofs g=e) (k:WO S K os ((d,e)::(s,.bx cs')::O)):WO S K (⟨some d,.callb f args i,none⟩::os) O:=by
 replace k:=k.out;refine ⟨?_⟩;subst r;simp only [wpOps,PR.wp,AJ.wp,j,l,o,BA]; exact ⟨⟨m,n⟩,cs',g,p,fun _=>k⟩
def Wn {α:Type} (l:List α):Option Unit:=if l.isEmpty then none else some ()
theorem aT {α:Type} {l:List α} {u:Unit} {b:Bool} (h:Wn l=some u) (e:b=true->l=[]):b=false:=by
 cases b with
 | false=>rfl
 | true=>rw [e rfl] at h; cases h
theorem te {e:Option Nat} {op:AJ} {g:Nat} {b q:Bool} (f:O.get g=.tv (.bool q)) (i:q=b) (k:WO S K (⟨e,op,none⟩::os) O):WO S K (⟨e,op,some (g,b)⟩::os) O:=by
 replace k:=k.out;refine ⟨?_⟩;subst i;simp only [wpOps,PR.wp,f] at k ⊢;exact ⟨fun _=>k,fun h=>by cases q <;> simp at h⟩
theorem pv {d:Nat} {op:AJ} {g:Nat} {b q:Bool} (e:O.get g=.tv (.bool q)) (f:q=!b) (k:WO S K os ((d,.sk)::O)):WO S K (⟨some d,op,some (g,b)⟩::os) O:=by
 replace k:=k.out;refine ⟨?_⟩;subst f;simp only [wpOps,PR.wp,e];exact ⟨fun h=>by cases b <;> simp at h,fun _=>k⟩
theorem tf {d:Nat} {op:AJ} {g:Nat} {b:Bool} (e:O.get g=.sk) (k:WO S K os ((d,.sk)::O)):WO S K (⟨some d,op,some (g,b)⟩::os) O:=by
 replace k:=k.out;refine ⟨?_⟩;simp only [wpOps,PR.wp,e];exact k
theorem Xc (xs f:List PR) (O:AD):wpOps S K (xs++f) O=wpOps S (wpOps S K f) xs O:=by
 induction xs generalizing O with
 | nil=>rfl
 | cons x xs g=>
  simp only [List.cons_append,wpOps];congr 1;funext e;exact g e
theorem pu {ops:List PR} (n:Nat) (M:AD->AD->Prop) (f:WO S (M O) (ops.take n) O) (g:∀ e,M O e->WO S K (ops.drop n) e):WO S K ops O:=by
 refine ⟨?_⟩;rw [←List.take_append_drop n ops,Xc];exact Oc S (fun e h=>(g e h).out) _ O f.out
variable {q:Q} {a b:PC}
theorem l8 (h:WP S a ⟨fun e=>(∀ s,(e.get s).WF)->WP S b q e,q.exit,q.ret⟩ O):WP S (.seq a b) q O:=⟨PC.wp_mono S a _ O h.out _ (fun _ f g=>(f g).out) (fun _ _ h=>h) (fun _ h=>h)⟩
theorem ij {live:ci} {env':AD} (e:O.keep live=env') (h:q.normal env'):WP S (.skip live) q O:=by subst e; exact ⟨h⟩
theorem ii {i:Nat} {live:ci} {env':AD} (e:O.keep live=env') (h:q.exit i env'):WP S (.exit i live) q O:=by subst e; exact ⟨h⟩
theorem Te {x:AL} {c:Bool} (e:x.val O=some (.bool c)) (f:c=true->WP S a q O) (g:c=false->WP S b q O):WP S (.cond x a b) q O:=by
 refine ⟨?_⟩;simp only [PC.wp,e]; exact ⟨fun h=>(f h).out,fun h=>(g h).out⟩
theorem X6 {x:AL} {c:Bool} (f:x.val O=some (.bool c)) (h:c=true) (g:WP S a q O):WP S (.cond x a b) q O:=
 Te f (fun _=>g) (fun e=>by rw [h] at e; cases e)
theorem X5 {x:AL} {c:Bool} (f:x.val O=some (.bool c)) (h:c=false) (g:WP S b q O):WP S (.cond x a b) q O:=
 Te f (fun e=>by rw [h] at e; cases e) (fun _=>g)
theorem Uc {i:Nat} (h:WP S a ⟨q.normal,fun j e=>if j=i then q.normal e else q.exit j e,q.ret⟩ O):WP S (.block i a) q O:=⟨h.out⟩
theorem WR {i:Nat} {x y:Prop} (h:x):if i=i then x else y:=by rw [d1 rfl]; exact h
theorem fV {i j:Nat} {x y:Prop} (e:i≠j) (h:y):if i=j then x else y:=by rw [d2 e]; exact h
theorem l7 (M:AD->Prop) (f:WP S a ⟨M,q.exit,q.ret⟩ O) (g:∀ e,M e->q.normal e):WP S a q O:=⟨PC.wp_mono S a _ O f.out q g (fun _ _ h=>h) (fun _ h=>h)⟩
section loops
variable {σ ρ:Type} {live:ci} {c:PC} {i0:Nat}
theorem dz {f:Int->σ->Option (CY σ ρ)} {b:Int} (I:Int->σ->AD) (J:σ->AD) (R:ρ->AD->Prop)
  (l:∀ i s r,i<b->f i s=some r->(∀ k,((I i s).get k).WF)->c.wp S ⟨fun e=>∃ s',r=.next s'∧e.keep live=I (i+1) s',fun j e=>j=i0∧∃ s',r=.brk s'∧e=J s',fun e=>∃ v,r=.ret v∧R v e⟩ (I i s))
  (m:∀ i s,¬ i<b->c.wp S ⟨fun _=>False,fun j e=>j=i0∧e=J s,fun _=>False⟩ (I i s))
  {X:AD->Prop} (w:∀ e,((∀ s,(e.get s).WF)->c.wp S { q with normal:=fun A=>X (A.keep live) } e)->X e) (D:∀ s,q.exit i0 (J s)∨True) :
  ∀ (n:Nat) (i:Int) (s:σ),n=(b - i).toNat->∀ o,forGo f n i s=some o->(∀ s',o=.inl s'->q.exit i0 (J s'))->(∀ v e,o=.inr v->R v e->q.ret e)->X (I i s):=by
 intro n
 induction n with
 | zero=>
  intro i s B o ho p t;refine w _ fun z=>?_;refine PC.wp_mono S c _ _ (m i s (by omega)) _ (fun _ h=>h.elim) (fun j e g=>?_) (fun _ h=>h.elim);obtain ⟨rfl,rfl⟩:=g;simp only [forGo,zzY] at ho;exact p s ho.symm
 | succ n C=>
  intro i s B o ho p t;simp only [forGo] at ho;refine w _ fun z=>?_;cases u:f i s with
  | none=>rw [u] at ho; cases ho
  | some r=>
   rw [u] at ho;refine PC.wp_mono S c _ _ (l i s r (by omega) u z) _ (fun e g=>?_) (fun j e g=>?_) (fun e g=>?_)
   ·obtain ⟨s',rfl,g⟩:=g;show X (e.keep live);rw [g];exact C (i+1) s' (by omega) o ho p t
   ·obtain ⟨rfl,s',rfl,rfl⟩:=g;simp only [zzY] at ho;exact p s' ho.symm
   ·obtain ⟨v,rfl,g⟩:=g;simp only [zzY] at ho;exact t v e ho.symm g
theorem Yt {f:Int->σ->Option (CY σ ρ)} {lo b:Int} {m:σ} {o:σ ⊕ ρ} (ho:forR f lo b m=some o) (I:Int->σ->AD) (J:σ->AD) (R:ρ->AD->Prop) (n:O.keep live=I lo m)
  (g:∀ i s r,i<b->f i s=some r->(∀ k,((I i s).get k).WF)->WP S c ⟨fun e=>∃ s',r=.next s'∧e.keep live=I (i+1) s',fun j e=>j=i0∧∃ s',r=.brk s'∧e=J s',fun e=>∃ v,r=.ret v∧R v e⟩ (I i s))
  (l:∀ i s,¬ i<b->WP S c ⟨fun _=>False,fun j e=>j=i0∧e=J s,fun _=>False⟩ (I i s))
  (p:∀ s',o=.inl s'->q.normal (J s')) (t:∀ v e,o=.inr v->R v e->q.ret e):WP S (.block i0 (.loop live c)) q O:=by
 refine Uc ⟨?_⟩;intro X A;rw [n];refine dz (q:=⟨q.normal,fun j e=>if j=i0 then q.normal e else q.exit j e,q.ret⟩) I J R (fun i s r u w z=>(g i s r u w z).out) (fun i s h=>(l i s h).out) A (fun _=>.inr trivial) _ lo m rfl o ho ?_ t;intro s' B;exact WR (p s' B)
theorem YH {f:Int->σ->Option σ}:∀ (n:Nat) (i:Int) (s o:σ),forAGo f n i s=some o->forGo (fun i s=>(f i s).map (CY.next (ρ:=Empty))) n i s=some (.inl o)
 | 0,_,_,_,h=>by simp only [forAGo,zzY] at h; subst h; rfl
 | n+1,i,s,o,h=>by
  simp only [forAGo] at h;simp only [forGo];cases e:f i s with
  | none=>rw [e] at h; cases h
  | some s'=>rw [e] at h; simp only [Option.map]; exact YH n (i+1) s' o h
theorem g7 {f:Int->σ->Option σ} {lo b:Int} {n o:σ} (ho:forA f lo b n=some o) (I:Int->σ->AD) (J:σ->AD) (p:O.keep live=I lo n)
  (g:∀ i s r,i<b->f i s=some r->(∀ k,((I i s).get k).WF)->WP S c ⟨fun e=>e.keep live=I (i+1) r,fun _ _=>False,fun _=>False⟩ (I i s))
  (l:∀ i s,¬ i<b->WP S c ⟨fun _=>False,fun j e=>j=i0∧e=J s,fun _=>False⟩ (I i s))
  (t:q.normal (J o)):WP S (.block i0 (.loop live c)) q O:=by
 refine Yt (f:=fun i s=>(f i s).map (CY.next (ρ:=Empty))) (o:=.inl o) (YH _ _ _ _ ho) I J (fun _ _=>False) p ?_ l ?_ ?_
 ·intro i s r hi m w;simp only [Option.map_eq_some_iff] at m;obtain ⟨s',m,rfl⟩:=m;exact ⟨PC.wp_mono S c _ _ (g i s s' hi m w).out _ (fun e u=>⟨s',rfl,u⟩) (fun _ _ h=>h.elim) (fun _ h=>h.elim)⟩
 ·intro s' h; cases h; exact t
 ·intro v; cases v
theorem g8 {f:σ->Option (CY σ ρ)} (I:σ->AD) (J:σ->AD) (R:ρ->AD->Prop)
  (h:∀ s r,f s=some r->(∀ k,((I s).get k).WF)->c.wp S ⟨fun e=>∃ s',r=.next s'∧e.keep live=I s',fun j e=>j=i0∧∃ s',r=.brk s'∧e=J s',fun e=>∃ v,r=.ret v∧R v e⟩ (I s))
  {X:AD->Prop} (p:∀ e,((∀ s,(e.get s).WF)->c.wp S { q with normal:=fun t=>X (t.keep live) } e)->X e) :
  ∀ (n:Nat) (s:σ) (o:σ ⊕ ρ),Pz f n s=some o->(∀ s',o=.inl s'->q.exit i0 (J s'))->(∀ v e,o=.inr v->R v e->q.ret e)->X (I s):=by
 intro n
 induction n with
 | zero=>intro s o ho; cases ho
 | succ n w=>
  intro s o ho l m;simp only [Pz] at ho;refine p _ fun u=>?_;cases i:f s with
  | none=>rw [i] at ho; cases ho
  | some r=>
   rw [i] at ho;refine PC.wp_mono S c _ _ (h s r i u) _ (fun e g=>?_) (fun j e g=>?_) (fun e g=>?_)
   ·obtain ⟨s',rfl,g⟩:=g;show X (e.keep live);rw [g];exact w s' o ho l m
   ·obtain ⟨rfl,s',rfl,rfl⟩:=g;simp only [zzY] at ho;exact l s' ho.symm
   ·obtain ⟨v,rfl,g⟩:=g;simp only [zzY] at ho;exact m v e ho.symm g
theorem kX {f:σ->Option (CY σ ρ)} {h:σ} {o:σ ⊕ ρ} (ho:It f h=some o) (I:σ->AD) (J:σ->AD) (R:ρ->AD->Prop) (i:O.keep live=I h)
  (g:∀ s r,f s=some r->(∀ k,((I s).get k).WF)->WP S c ⟨fun e=>∃ s',r=.next s'∧e.keep live=I s',fun j e=>j=i0∧∃ s',r=.brk s'∧e=J s',fun e=>∃ v,r=.ret v∧R v e⟩ (I s))
  (l:∀ s',o=.inl s'->q.normal (J s')) (m:∀ v e,o=.inr v->R v e->q.ret e):WP S (.block i0 (.loop live c)) q O:=by
 obtain ⟨N,w⟩:=CH ho;refine Uc ⟨?_⟩;intro X t;rw [i];refine g8 (q:=⟨q.normal,fun j e=>if j=i0 then q.normal e else q.exit j e,q.ret⟩) I J R (fun s r n p=>(g s r n p).out) t N h o (w N (d3 _)) ?_ m;intro s' u;exact WR (l s' u)
end loops
end
theorem uS {a b:Int} (h:a<b):decide (a<b)=true:=decide_eq_true h
theorem tc {a b:Int} (h:¬ a<b):decide (a<b)=false:=decide_eq_false h
theorem V3 {t:TV} (h:EV.WF (.tv t)):t.WF:=h
theorem rU {t:TV} (h:EV.WF (.ow t)):t.WF:=h
theorem rV {n:Nat} {es:QQ} (h:EV.WF (.xo n es)):TV.WF (.list n es):=h
theorem ej {row:QQ} (h:EV.WF (.tv (.pt row))):TV.WFs row:=h
theorem Yr {e:QQ} {i:Nat} {t:TV} (h:TV.WFs e) (hi:e[i]?=some t):t.WF:=by
 induction e generalizing i with
 | nil=>simp at hi
 | cons x xs f=>
  cases i with
  | zero=>simp at hi; subst hi; exact h.1
  | succ i=>exact f h.2 (by simpa using hi)
theorem kW {α:Type} {n:Nat} {e:α->TV} {l:List α} (h:TV.WF (.list n (l.map e))):(l.length:Int)<=9223372036854775807:=by
 have:=h.1;rw [d7] at this;unfold I3 at this;omega
theorem SD {n:Nat} {es:QQ} {α:Type} {e:α->TV} {l:List α} (h:TV.WF (.list n es)) (f:es=l.map e):(l.length:Int)<=9223372036854775807:=by subst f; exact kW h
theorem g6 {s:ByteArray} (h:TV.WF (.str s)):(s.size:Int)<=9223372036854775807:=by
 have:s.size<=I3:=h;unfold I3 at this;omega
theorem bn {n:Int} (h:TV.WF (.int .i64 n)):n<=9223372036854775807:=h.2
theorem bl (n:Int):A4 n=if 9223372036854775808<=n % 18446744073709551616 then n % 18446744073709551616 - 18446744073709551616 else n % 18446744073709551616:=by
 have e:(2:Int) ^ 64=18446744073709551616:=by decide
 have f:(2:Int) ^ (64 - 1)=9223372036854775808:=by decide
 simp only [A4,IntKind.wrap,IntKind.bits,IntKind.signed,Bool.true_and,zzX,e,f,ge_iff_le]
theorem kU (n:Int):A4 n<=9223372036854775807:=by
 rw [bl]; split <;> omega
theorem BG {n:Int} (e:-9223372036854775808<=n) (f:n<=9223372036854775807):A4 n=n:=by
 rw [bl]; split <;> omega
theorem rW {i b:Int} (hi:TV.WF (.int .i64 i)) (h:i<b) (e:b<=9223372036854775807):IntKind.i64.wrap (i+1)=i+1:=by
 have f:(-9223372036854775808:Int)<=i:=hi.1;exact BG (by omega) (by omega)
end Go.Sf
