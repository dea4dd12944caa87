/- Steps of the pure language with typed values: one rule an operation, one a piece of code, one a kind of loop. -/
import Derived.Test.YtmaobfbhdkafkaaGreatSfRules
namespace Go.Sf
abbrev w64 (n:Int):Int:=IntKind.i64.wrap n
def idx {α:Type} (l:List α) (j:Int):Option α:=if 0<=j then l[j.toNat]? else none
def slc {α:Type} (l:List α) (a b:Int):Option (List α):=if (0<=a∧a<=b)∧b<=l.length then some ((l.take b.toNat).drop a.toNat) else none
def sslc (s:ByteArray) (a b:Int):Option ByteArray:=if 0<=a∧a<=b∧b<=s.size then some (s.extract a.toNat b.toNat) else none
def sidx (s:ByteArray) (j:Int):Option Int:=if 0<=j then (s[j.toNat]?).map (fun b=>(b.toNat:Int)) else none
def appC {α:Type} (l m:List α):Option (List α):=if l.length+m.length<=nmax then some (l++m) else none
def quo (a b:Int):Option Int:=if b=0 then none else some (a.tdiv b)
inductive Ctl (σ ρ:Type) where
 | next (s:σ)
 | brk (s:σ)
 | ret (r:ρ)
section loops
variable {σ ρ:Type}
def forGo (f:Int->σ->Option (Ctl σ ρ)):Nat->Int->σ->Option (σ ⊕ ρ)
 | 0,_,s=>some (.inl s)
 | n+1,i,s=>match f i s with
  | none=>none
  | some (.next s')=>forGo f n (i+1) s'
  | some (.brk s')=>some (.inl s')
  | some (.ret r)=>some (.inr r)
def forR (f:Int->σ->Option (Ctl σ ρ)) (a b:Int) (s:σ):Option (σ ⊕ ρ):=forGo f (b - a).toNat a s
def forAGo (f:Int->σ->Option σ):Nat->Int->σ->Option σ
 | 0,_,s=>some s
 | n+1,i,s=>match f i s with
  | none=>none
  | some s'=>forAGo f n (i+1) s'
def forA (f:Int->σ->Option σ) (a b:Int) (s:σ):Option σ:=forAGo f (b - a).toNat a s
def whGo (f:σ->Option (Ctl σ ρ)):Nat->σ->Option (σ ⊕ ρ)
 | 0,_=>none
 | n+1,s=>match f s with
  | none=>none
  | some (.next s')=>whGo f n s'
  | some (.brk s')=>some (.inl s')
  | some (.ret r)=>some (.inr r)
end loops
open Classical in
noncomputable def lim {α:Type} (g:Nat->Option α):Option α:=if h:∃ v N,∀ n,N<=n->g n=some v then some h.choose else none
theorem lim_some {α:Type} {g:Nat->Option α} {v:α} (h:lim g=some v):∃ N,∀ n,N<=n->g n=some v:=by
 unfold lim at h
 split at h
 ·rename_i hx
  cases h
  exact hx.choose_spec
 ·cases h
theorem lim_eq {α:Type} {g:Nat->Option α} {v:α} (N:Nat) (h:∀ n,N<=n->g n=some v):lim g=some v:=by
 have hx:∃ v N,∀ n,N<=n->g n=some v:=⟨v,N,h⟩
 unfold lim
 rw [dif_pos hx]
 obtain ⟨M,hM⟩:=hx.choose_spec
 have h1:=h (max N M) (Nat.le_max_left _ _)
 have h2:=hM (max N M) (Nat.le_max_right _ _)
 rw [h1] at h2
 exact h2.symm
noncomputable def whR {σ ρ:Type} (f:σ->Option (Ctl σ ρ)) (s:σ):Option (σ ⊕ ρ):=lim fun n=>whGo f n s
def thenR {σ ρ β:Type} (o:Option (σ ⊕ ρ)) (k:σ->Option β) (kr:ρ->Option β):Option β:=
 match o with
 | none=>none
 | some (.inl s)=>k s
 | some (.inr v)=>kr v
theorem thenR_some {σ ρ β:Type} {o:Option (σ ⊕ ρ)} {k:σ->Option β} {kr:ρ->Option β} {b:β} (h:thenR o k kr=some b):∃ x,o=some x∧thenR (some x) k kr=some b:=by
 cases o with
 | none=>cases h
 | some x=>exact ⟨x,rfl,h⟩
theorem thenR_l {σ ρ β:Type} {x:σ ⊕ ρ} {k:σ->Option β} {kr:ρ->Option β} {b:β} {s:σ} (h:thenR (some x) k kr=some b) (hx:x=.inl s):k s=some b:=by subst hx; exact h
theorem thenR_r {σ ρ β:Type} {x:σ ⊕ ρ} {k:σ->Option β} {kr:ρ->Option β} {b:β} {v:ρ} (h:thenR (some x) k kr=some b) (hx:x=.inr v):kr v=some b:=by subst hx; exact h
def setE {α:Type} (l:List α) (j:Int) (a:α):List α:=l.set j.toNat a
def mkz {α:Type} (j:Int) (a:α):Option (List α):=if 0<=j∧j<=4096 then some (List.replicate j.toNat a) else none
def sapp (a b:ByteArray):Option ByteArray:=if a.size+b.size<=nmax then some (a++b) else none
theorem bind_some {α β:Type} {x:Option α} {f:α->Option β} {b:β} (h:x.bind f=some b):∃ a,x=some a∧f a=some b:=Option.bind_eq_some_iff.1 h
theorem ite_t {α:Type} {c:Bool} {a b:α} {r:α} (hc:c=true) (h:(if c=true then a else b)=r):a=r:=by rw [if_pos hc] at h; exact h
theorem ite_f {α:Type} {c:Bool} {a b:α} {r:α} (hc:c=false) (h:(if c=true then a else b)=r):b=r:=by rw [if_neg (by simp [hc])] at h; exact h
theorem and_t {c e:Bool} (hc:c=true):(c&&e)=e:=by rw [hc]; rfl
theorem and_f {c e:Bool} (hc:c=false):(c&&e)=false:=by rw [hc]; rfl
theorem or_f {c e:Bool} (hc:c=false):(c||e)=e:=by rw [hc]; rfl
theorem nf {c:Bool} (hc:c=false):(!c)=true:=by rw [hc]; rfl
theorem keep_nil (env:Env):env.keep []=[]:=rfl
theorem keep_tv {env:Env} {s:Nat} {ss:List Nat} {t:TV} {r:Env} (h:env.get s=.tv t) (k:env.keep ss=r):env.keep (s::ss)=(s,.tv t)::r:=by simp only [Env.keep,List.map_cons,h] at k ⊢; rw [k]
theorem keep_ow {env:Env} {s:Nat} {ss:List Nat} {t:TV} {r:Env} (h:env.get s=.ow t) (k:env.keep ss=r):env.keep (s::ss)=(s,.ow t)::r:=by simp only [Env.keep,List.map_cons,h] at k ⊢; rw [k]
theorem keep_bx {env:Env} {s:Nat} {ss:List Nat} {t:List Cell} {r:Env} (h:env.get s=.bx t) (k:env.keep ss=r):env.keep (s::ss)=(s,.bx t)::r:=by simp only [Env.keep,List.map_cons,h] at k ⊢; rw [k]
theorem keep_bp {env:Env} {s:Nat} {ss:List Nat} {q o:Nat} {r:Env} (h:env.get s=.bp q o) (k:env.keep ss=r):env.keep (s::ss)=(s,.bp q o)::r:=by simp only [Env.keep,List.map_cons,h] at k ⊢; rw [k]
theorem keep_tp {env:Env} {s:Nat} {ss:List Nat} {t:List TV} {r:Env} (h:env.get s=.tp t) (k:env.keep ss=r):env.keep (s::ss)=(s,.tp t)::r:=by simp only [Env.keep,List.map_cons,h] at k ⊢; rw [k]
structure WO (S:FuncId->List TV->Res->Prop) (K:Env->Prop) (os:List PR) (env:Env):Prop where
 of::out:wpOps S K os env
structure WP (S:FuncId->List TV->Res->Prop) (c:PC) (q:Q) (env:Env):Prop where
 of::out:c.wp S q env
section
variable {S:FuncId->List TV->Res->Prop} {K:Env->Prop} {os:List PR} {env:Env} {d:Nat}
theorem ev_of_val {x:Opd} {t:TV} (h:x.val env=some t):x.ev env=.tv t∨x.ev env=.ow t:=by
 unfold Opd.val EV.val at h
 split at h <;> simp_all
theorem s_end {q:Env->Prop} {live:List Nat} {env':Env} (hk:env.keep live=env') (h:q env'):WO S (fun e=>q (e.keep live)) [] env:=by
 subst hk; exact ⟨h⟩
theorem s_mv {x:Opd} {t:TV} (h:x.val env=some t) (k:WO S K os ((d,.tv t)::env)):WO S K (⟨some d,.mv x,none⟩::os) env:=by
 replace k:=k.out
 refine ⟨?_⟩
 simp only [wpOps,PR.wp,POp.wp]
 rcases ev_of_val h with h | h <;> rw [h] <;> exact k
theorem s_tk {s:Nat} {t:TV} (h:env.get s=.ow t) (k:WO S K os ((d,.ow t)::(s,.tv t)::env)):WO S K (⟨some d,.tk s,none⟩::os) env:=by
 replace k:=k.out
 refine ⟨?_⟩
 simp only [wpOps,PR.wp,POp.wp,h]; exact k
theorem s_tkt {s:Nat} {t:TV} (h:env.get s=.tv t) (k:WO S K os ((d,.tv t)::env)):WO S K (⟨some d,.tk s,none⟩::os) env:=by
 replace k:=k.out
 refine ⟨?_⟩
 simp only [wpOps,PR.wp,POp.wp,h]; exact k
theorem s_nilo {n:Nat} (k:WO S K os ((d,.ow (.list n []))::env)):WO S K (⟨some d,.nilo n,none⟩::os) env:=by
 replace k:=k.out
 refine ⟨?_⟩
 simp only [wpOps,PR.wp,POp.wp]; exact k
theorem s_fad {x:Opd} {j:Nat} {row:List TV} (h:x.ev env=.tv (.pt row)) (k:WO S K os ((d,.tv (.pt (row.drop j)))::env)):WO S K (⟨some d,.fad x j,none⟩::os) env:=by
 replace k:=k.out
 refine ⟨?_⟩
 simp only [wpOps,PR.wp,POp.wp,h]; exact k
theorem s_fadb {x:Opd} {j s off:Nat} {cs:List Cell} (h:x.ev env=.bp s off) (h2:env.get s=.bx cs) (k:WO S K os ((d,.bp s (off+j))::env)):WO S K (⟨some d,.fad x j,none⟩::os) env:=by
 replace k:=k.out
 refine ⟨?_⟩
 simp only [wpOps,PR.wp,POp.wp,h,h2]; exact k
theorem s_badb {s j:Nat} {cs:List Cell} (h:env.get s=.bx cs) (k:WO S K os ((d,.bp s j)::env)):WO S K (⟨some d,.bad s j,none⟩::os) env:=by
 replace k:=k.out
 refine ⟨?_⟩
 simp only [wpOps,PR.wp,POp.wp,h]; exact k
theorem s_bad {s j:Nat} {row:List TV} (h:env.get s=.tv (.pt row)) (k:WO S K os ((d,.tv (.pt (row.drop j)))::env)):WO S K (⟨some d,.bad s j,none⟩::os) env:=by
 replace k:=k.out
 refine ⟨?_⟩
 simp only [wpOps,PR.wp,POp.wp,h]; exact k
theorem s_iad {α:Type} {n:Nat} {x i:Opd} {es row:List TV} {e:α->TV} {l:List α} {ik:IntKind} {j:Int} {a:α} (hl:x.val env=some (.list n es)) (hi:i.val env=some (.int ik j)) (he:es=l.map e) (hx:idx l j=some a) (hr:(e a).cells=row)
  (k:WO S K os ((d,.tv (.pt row))::env)):WO S K (⟨some d,.iad x i n,none⟩::os) env:=by
 replace k:=k.out
 refine ⟨?_⟩
 subst he hr
 simp only [wpOps,PR.wp,POp.wp,hl,hi]
 unfold idx at hx
 split at hx
 ·rename_i h0
  exact ⟨trivial,h0,e a,by rw [List.getElem?_map,hx]; rfl,k⟩
 ·cases hx
theorem s_ld {x:Opd} {t:TV} {r:List TV} (h:addrCells env (x.ev env)=some (t::r)) (k:WO S K os ((d,.tv t)::env)):WO S K (⟨some d,.ld x,none⟩::os) env:=by
 replace k:=k.out
 refine ⟨?_⟩
 simp only [wpOps,PR.wp,POp.wp,h,optK,leafOf]; exact k
theorem s_lda {x:Opd} {n:Nat} {t:TV} {cs:List TV} (h:addrCells env (x.ev env)=some cs) (hn:Nat.ble n cs.length=true) (ht:TV.agg (cs.take n)=t) (k:WO S K os ((d,.tv t)::env)):WO S K (⟨some d,.lda x n,none⟩::os) env:=by
 replace k:=k.out
 refine ⟨?_⟩
 subst ht
 simp only [wpOps,PR.wp,POp.wp,h,optK]; exact ⟨Nat.le_of_ble_eq_true hn,k⟩
theorem s_ldt {x:Opd} {s off:Nat} {cs:List Cell} {t:TV} {n:Nat} {es:List TV} (h:x.place env=some (s,off)) (h2:env.get s=.bx cs) (h3:cs[off]?=some ⟨true,t⟩) {cs':List Cell} (h4:cs.set off ⟨false,t⟩=cs') (ht:t=.list n es)
  (k:WO S K os ((d,.ow t)::(s,.bx cs')::env)):WO S K (⟨some d,.ldt x,none⟩::os) env:=by
 replace k:=k.out
 refine ⟨?_⟩
 subst h4 ht
 simp only [wpOps,PR.wp,POp.wp,h,h2,h3]; exact k
section bins
variable {x y:Opd} {ik:IntKind} {a b:Int}
theorem s_bin {bk:BK} {op:BinOp} {u v t:TV} (hx:x.val env=some u) (hy:y.val env=some v) (ht:binTV bk op u v=some t) (k:WO S K os ((d,.tv t)::env)):WO S K (⟨some d,.bin bk op x y,none⟩::os) env:=by
 replace k:=k.out
 refine ⟨?_⟩
 simp only [wpOps,PR.wp,POp.wp,hx,hy,ht,optK]; exact k
theorem s_eql (hx:x.val env=some (.int ik a)) (hy:y.val env=some (.int ik b)) (k:WO S K os ((d,.tv (.bool (decide (a=b))))::env)):WO S K (⟨some d,.bin .i .eql x y,none⟩::os) env:=
 s_bin hx hy (by simp [binTV,intCmp]) k
theorem s_neq (hx:x.val env=some (.int ik a)) (hy:y.val env=some (.int ik b)) (k:WO S K os ((d,.tv (.bool (!decide (a=b))))::env)):WO S K (⟨some d,.bin .i .neq x y,none⟩::os) env:=
 s_bin hx hy (by simp [binTV,intCmp]) k
theorem s_lss (hx:x.val env=some (.int ik a)) (hy:y.val env=some (.int ik b)) (k:WO S K os ((d,.tv (.bool (decide (a<b))))::env)):WO S K (⟨some d,.bin .i .lss x y,none⟩::os) env:=
 s_bin hx hy (by simp [binTV,intCmp]) k
theorem s_leq (hx:x.val env=some (.int ik a)) (hy:y.val env=some (.int ik b)) (k:WO S K os ((d,.tv (.bool (decide (a<=b))))::env)):WO S K (⟨some d,.bin .i .leq x y,none⟩::os) env:=
 s_bin hx hy (by simp [binTV,intCmp]) k
theorem s_gtr (hx:x.val env=some (.int ik a)) (hy:y.val env=some (.int ik b)) (k:WO S K os ((d,.tv (.bool (decide (b<a))))::env)):WO S K (⟨some d,.bin .i .gtr x y,none⟩::os) env:=
 s_bin hx hy (by simp [binTV,intCmp]) k
theorem s_geq (hx:x.val env=some (.int ik a)) (hy:y.val env=some (.int ik b)) (k:WO S K os ((d,.tv (.bool (decide (b<=a))))::env)):WO S K (⟨some d,.bin .i .geq x y,none⟩::os) env:=
 s_bin hx hy (by simp [binTV,intCmp]) k
theorem s_add (hx:x.val env=some (.int ik a)) (hy:y.val env=some (.int ik b)) (k:WO S K os ((d,.tv (.int ik (ik.wrap (a+b))))::env)):WO S K (⟨some d,.bin .i .add x y,none⟩::os) env:=
 s_bin hx hy (by simp [binTV,intCmp,intArith]) k
theorem s_sub (hx:x.val env=some (.int ik a)) (hy:y.val env=some (.int ik b)) (k:WO S K os ((d,.tv (.int ik (ik.wrap (a - b))))::env)):WO S K (⟨some d,.bin .i .sub x y,none⟩::os) env:=
 s_bin hx hy (by simp [binTV,intCmp,intArith]) k
theorem s_bit {op:BinOp} {ik':IntKind} {r:Int} (hx:x.val env=some (.int ik a)) (hy:y.val env=some (.int ik' b)) (hk:ik=ik'∨op=.shl∨op=.shr) (hr:intBit ik op a b=some r) (k:WO S K os ((d,.tv (.int ik r))::env)):WO S K (⟨some d,.bin .w op x y,none⟩::os) env:=
 s_bin hx hy (by simp only [binTV]; rw [if_pos hk,hr]) k
theorem s_seql {u v:ByteArray} (hx:x.val env=some (.str u)) (hy:y.val env=some (.str v)) (k:WO S K os ((d,.tv (.bool (u==v)))::env)):WO S K (⟨some d,.bin .s .eql x y,none⟩::os) env:=
 s_bin hx hy (by simp [binTV]) k
theorem s_sadd {u v t:ByteArray} (hx:x.val env=some (.str u)) (hy:y.val env=some (.str v)) (h:sapp u v=some t) (k:WO S K os ((d,.tv (.str t))::env)):WO S K (⟨some d,.bin .s .add x y,none⟩::os) env:=by
 refine s_bin hx hy ?_ k
 unfold sapp at h
 simp only [binTV]
 split at h
 ·rename_i hc; rw [if_pos hc,←Option.some.inj h]
 ·cases h
theorem s_beql {u v:Bool} (hx:x.val env=some (.bool u)) (hy:y.val env=some (.bool v)) (k:WO S K os ((d,.tv (.bool (u==v)))::env)):WO S K (⟨some d,.bin .b .eql x y,none⟩::os) env:=
 s_bin hx hy (by simp [binTV]) k
theorem s_bneq {u v:Bool} (hx:x.val env=some (.bool u)) (hy:y.val env=some (.bool v)) (k:WO S K os ((d,.tv (.bool (!(u==v))))::env)):WO S K (⟨some d,.bin .b .neq x y,none⟩::os) env:=
 s_bin hx hy (by simp [binTV]) k
theorem s_aeql {n:List Nat} {cs ds:List TV} {r:Bool} (hx:x.val env=some (.agg cs)) (hy:y.val env=some (.agg ds)) (hn:cs.map TV.kd=n) (h:eqInts cs ds=some r) (k:WO S K os ((d,.tv (.bool r))::env)):WO S K (⟨some d,.bin (.a n) .eql x y,none⟩::os) env:=
 s_bin hx hy (by simp [binTV,hn,h]) k
theorem s_aneq {n:List Nat} {cs ds:List TV} {r:Bool} (hx:x.val env=some (.agg cs)) (hy:y.val env=some (.agg ds)) (hn:cs.map TV.kd=n) (h:eqInts cs ds=some r) (k:WO S K os ((d,.tv (.bool (!r)))::env)):WO S K (⟨some d,.bin (.a n) .neq x y,none⟩::os) env:=
 s_bin hx hy (by simp [binTV,hn,h]) k
end bins
theorem s_not {x:Opd} {b:Bool} (h:x.val env=some (.bool b)) (k:WO S K os ((d,.tv (.bool (!b)))::env)):WO S K (⟨some d,.not x,none⟩::os) env:=by
 replace k:=k.out
 refine ⟨?_⟩
 simp only [wpOps,PR.wp,POp.wp,h]; exact k
theorem s_pickt {c a b:Opd} {q:Bool} {t:TV} (hc:c.val env=some (.bool q)) (hq:q=true) (h:a.val env=some t) (k:WO S K os ((d,.tv t)::env)):WO S K (⟨some d,.pick c a b,none⟩::os) env:=by
 replace k:=k.out
 refine ⟨?_⟩
 subst hq
 simp only [wpOps,PR.wp,POp.wp,hc,if_true]
 rcases ev_of_val h with h | h <;> rw [h] <;> exact k
theorem s_pickf {c a b:Opd} {q:Bool} {t:TV} (hc:c.val env=some (.bool q)) (hq:q=false) (h:b.val env=some t) (k:WO S K os ((d,.tv t)::env)):WO S K (⟨some d,.pick c a b,none⟩::os) env:=by
 replace k:=k.out
 refine ⟨?_⟩
 subst hq
 simp only [wpOps,PR.wp,POp.wp,hc,Bool.false_eq_true,if_false]
 rcases ev_of_val h with h | h <;> rw [h] <;> exact k
theorem s_len {α:Type} {x:Opd} {n:Nat} {es:List TV} {e:α->TV} {l:List α} (h:x.val env=some (.list n es)) (he:es=l.map e) (k:WO S K os ((d,.tv (.int .i64 l.length))::env)):WO S K (⟨some d,.len x,none⟩::os) env:=by
 replace k:=k.out
 refine ⟨?_⟩
 subst he
 simp only [wpOps,PR.wp,POp.wp,h,List.length_map]; exact k
theorem s_slen {x:Opd} {s:ByteArray} (h:x.val env=some (.str s)) (k:WO S K os ((d,.tv (.int .i64 s.size))::env)):WO S K (⟨some d,.slen x,none⟩::os) env:=by
 replace k:=k.out
 refine ⟨?_⟩
 simp only [wpOps,PR.wp,POp.wp,h]; exact k
theorem slc_spec {α:Type} {l m:List α} {a b:Int} (h:slc l a b=some m):((0<=a∧a<=b)∧b<=l.length)∧m=(l.take b.toNat).drop a.toNat:=by
 unfold slc at h
 split at h
 ·rename_i hc; exact ⟨hc,(Option.some.inj h).symm⟩
 ·cases h
theorem s_slc {α:Type} {n:Nat} {x:Opd} {lo hi:Option Opd} {es:List TV} {e:α->TV} {l m:List α} {ka kb:IntKind} {a b:Int} (h:x.val env=some (.list n es)) (he:es=l.map e) (hlo:bndTV env 0 lo=some (.int ka a)) (hhi:bndTV env l.length hi=some (.int kb b)) (hs:slc l a b=some m)
  (k:WO S K os ((d,.tv (.list n (m.map e)))::env)):WO S K (⟨some d,.slc n x lo hi,none⟩::os) env:=by
 replace k:=k.out
 refine ⟨?_⟩
 subst he
 obtain ⟨⟨h1,h2⟩,h3⟩:=slc_spec hs
 subst h3
 simp only [wpOps,PR.wp,POp.wp,h,List.length_map,hlo,hhi]
 refine ⟨⟨trivial,h1.1,h1.2⟩,h2,?_⟩
 rw [List.map_drop,List.map_take] at k
 exact k
theorem s_sslc {x:Opd} {lo hi:Option Opd} {s t:ByteArray} {ka kb:IntKind} {a b:Int} (h:x.val env=some (.str s)) (hlo:bndTV env 0 lo=some (.int ka a)) (hhi:bndTV env s.size hi=some (.int kb b)) (hs:sslc s a b=some t)
  (k:WO S K os ((d,.tv (.str t))::env)):WO S K (⟨some d,.sslc x lo hi,none⟩::os) env:=by
 replace k:=k.out
 refine ⟨?_⟩
 unfold sslc at hs
 split at hs
 ·rename_i hc
  cases hs
  simp only [wpOps,PR.wp,POp.wp,h,hlo,hhi]
  exact ⟨hc.1,hc.2.1,hc.2.2,k⟩
 ·cases hs
theorem s_bld {zero:List TV} {parts:List (Nat × Nat × Opd)} {ts:List (Nat × Nat × TV)} {cs:List TV} {t:TV} (h1:partsTV env parts=some ts) (h2:fillTV zero ts=some cs) (ht:TV.agg cs=t) (k:WO S K os ((d,.tv t)::env)):WO S K (⟨some d,.bld zero parts,none⟩::os) env:=by
 replace k:=k.out
 refine ⟨?_⟩
 subst ht
 simp only [wpOps,PR.wp,POp.wp,h1,optK,h2]; exact k
def seqT:Nat->List (Nat × Nat × TV)->Bool
 | _,[]=>true
 | k,(i,n,t)::r=>Nat.beq i k&&Nat.beq t.cells.length n&&seqT (k+n) r
def flatT:List (Nat × Nat × TV)->List TV
 | []=>[]
 | (_,_,t)::r=>t.cells++flatT r
theorem putAt_seq:∀ (ds done mid rest:List TV),mid.length=ds.length->putAt (done++(mid++rest)) done.length ds=done++(ds++rest)
 | [],done,mid,rest,h=>by
  have:mid=[]:=List.eq_nil_of_length_eq_zero (by simpa using h)
  subst this; rfl
 | d::ds,done,[],rest,h=>by simp at h
 | d::ds,done,m::mid,rest,h=>by
  simp only [putAt]
  rw [List.cons_append,List.set_append_right _ _ (Nat.le_refl _),Nat.sub_self,List.set_cons_zero]
  have:=putAt_seq ds (done++[d]) mid rest (by simpa using h)
  simpa using this
theorem fill_seqT:∀ (ts:List (Nat × Nat × TV)) (done rest:List TV),seqT done.length ts=true->(flatT ts).length=rest.length->fillTV (done++rest) ts=some (done++flatT ts)
 | [],done,rest,_,h=>by
  have:rest=[]:=List.eq_nil_of_length_eq_zero (by simpa [flatT] using h.symm)
  subst this; rfl
 | (i,n,t)::r,done,rest,hs,h=>by
  simp only [seqT,Bool.and_eq_true,Nat.beq_eq] at hs
  obtain ⟨⟨rfl,hn⟩,hr⟩:=hs
  simp only [flatT,List.length_append] at h
  have hle:n<=rest.length:=by omega
  simp only [fillTV]
  rw [if_pos ⟨hn,by rw [List.length_append]; omega⟩]
  have h1:rest=rest.take n++rest.drop n:=(List.take_append_drop n rest).symm
  rw [h1,putAt_seq t.cells done (rest.take n) (rest.drop n) (by rw [List.length_take]; omega),←List.append_assoc]
  rw [fill_seqT r (done++t.cells) (rest.drop n) (by rw [List.length_append,hn]; exact hr) (by rw [List.length_drop]; omega)]
  simp [flatT]
theorem s_bldf {zero:List TV} {parts:List (Nat × Nat × Opd)} {ts:List (Nat × Nat × TV)} {t:TV} (h1:partsTV env parts=some ts) (h2:seqT 0 ts=true) (h3:Nat.beq (flatT ts).length zero.length=true) (ht:TV.agg (flatT ts)=t) (k:WO S K os ((d,.tv t)::env)):WO S K (⟨some d,.bld zero parts,none⟩::os) env:=
 s_bld h1 (by have:=fill_seqT ts [] zero h2 (Nat.eq_of_beq_eq_true h3); simpa using this) ht k
theorem s_lst {α:Type} {n:Nat} {parts:List Opd} {ts:List TV} {e:α->TV} {l:List α} (h:vals env parts=some ts) (he:ts=l.map e) (hn:∀ a,(e a).cells.length=n) (k:WO S K os ((d,.ow (.list n (l.map e)))::env)):WO S K (⟨some d,.lst n parts,none⟩::os) env:=by
 replace k:=k.out
 refine ⟨?_⟩
 subst he
 simp only [wpOps,PR.wp,POp.wp,h,optK]
 refine ⟨fun t ht=>?_,k⟩
 obtain ⟨a,_,rfl⟩:=List.mem_map.1 ht
 exact hn a
theorem s_lsto {α:Type} {n:Nat} {parts:List Opd} {ts:List TV} {e:α->TV} {l:List α} {t:TV} (h:vals env parts=some ts) (he:ts=l.map e) (hn:∀ a,(e a).cells.length=n) (ht:t=.list n (l.map e)) (k:WO S K os ((d,.ow t)::env)):WO S K (⟨some d,.lst n parts,none⟩::os) env:=by
 subst ht
 exact s_lst h he hn k
theorem s_app {α:Type} {n s:Nat} {y:Opd} {es fs rs:List TV} {e:α->TV} {l m r:List α} (hx:env.get s=.ow (.list n es)) (hy:y.val env=some (.list n fs)) (he:es=l.map e) (hf:fs=m.map e) (h:appC l m=some r) (hr:rs=r.map e)
  (k:WO S K os ((d,.ow (.list n rs))::(s,.tv (.list n es))::env)):WO S K (⟨some d,.app n (.s s) y,none⟩::os) env:=by
 replace k:=k.out
 refine ⟨?_⟩
 subst hf hr
 unfold appC at h
 split at h
 ·rename_i hc
  cases h
  simp only [wpOps,PR.wp,POp.wp,Opd.ev,hx,hy,he,List.length_map]
  rw [he] at k
  refine ⟨by simp,by simp,hc,?_⟩
  rw [List.map_append] at k
  exact k
 ·cases h
theorem s_call {f:FuncId} {args:List Opd} {ts:List TV} {t:TV} (ha:vals env args=some ts) (hS:S f ts (.sh t)) (k:WO S K os ((d,.tv t)::env)):WO S K (⟨some d,.call f args,none⟩::os) env:=by
 replace k:=k.out
 refine ⟨?_⟩
 simp only [wpOps,PR.wp,POp.wp,ha,optK]; exact ⟨_,⟨hS,rfl⟩,fun _=>k⟩
theorem s_callo {f:FuncId} {args:List Opd} {ts:List TV} {t:TV} (ha:vals env args=some ts) (hS:S f ts (.own t)) (k:WO S K os ((d,.ow t)::env)):WO S K (⟨some d,.call f args,none⟩::os) env:=by
 replace k:=k.out
 refine ⟨?_⟩
 simp only [wpOps,PR.wp,POp.wp,ha,optK]; exact ⟨_,⟨hS,rfl⟩,fun _=>k⟩
theorem s_callw {f:FuncId} {args:List Opd} {ts es:List TV} {n:Nat} (ha:vals env args=some ts) (hS:S f ts (.xown n es)) (k:WO S K os ((d,.ow (.list n es))::env)):WO S K (⟨some d,.call f args,none⟩::os) env:=by
 replace k:=k.out
 refine ⟨?_⟩
 simp only [wpOps,PR.wp,POp.wp,ha,optK]; exact ⟨_,⟨hS,rfl⟩,fun _=>k⟩
theorem s_callp {f:FuncId} {args:List Opd} {ts t:List TV} (ha:vals env args=some ts) (hS:S f ts (.tp t)) (k:WO S K os ((d,.tp t)::env)):WO S K (⟨some d,.call f args,none⟩::os) env:=by
 replace k:=k.out
 refine ⟨?_⟩
 simp only [wpOps,PR.wp,POp.wp,ha,optK]; exact ⟨_,⟨hS,rfl⟩,fun _=>k⟩
theorem s_callv {f:FuncId} {x:Opd} {caps:List TV} {args:List Opd} {ts:List TV} {t:TV} (hx:x.val env=some (.clo f caps)) (ha:vals env args=some ts) (hS:S f (ts++caps) (.sh t)) (k:WO S K os ((d,.tv t)::env)):WO S K (⟨some d,.callv x args,none⟩::os) env:=by
 replace k:=k.out
 refine ⟨?_⟩
 simp only [wpOps,PR.wp,POp.wp,hx,ha]; exact ⟨_,⟨hS,rfl⟩,fun _=>k⟩
theorem s_callvp {f:FuncId} {x:Opd} {caps:List TV} {args:List Opd} {ts t:List TV} (hx:x.val env=some (.clo f caps)) (ha:vals env args=some ts) (hS:S f (ts++caps) (.tp t)) (k:WO S K os ((d,.tp t)::env)):WO S K (⟨some d,.callv x args,none⟩::os) env:=by
 replace k:=k.out
 refine ⟨?_⟩
 simp only [wpOps,PR.wp,POp.wp,hx,ha]; exact ⟨_,⟨hS,rfl⟩,fun _=>k⟩
theorem s_clo {f:FuncId} {caps:List Opd} {ts:List TV} (h:vals env caps=some ts) (k:WO S K os ((d,.tv (.clo f ts))::env)):WO S K (⟨some d,.clo f caps,none⟩::os) env:=by
 replace k:=k.out
 refine ⟨?_⟩
 simp only [wpOps,PR.wp,POp.wp,h,optK]; exact k
theorem s_ext {x:Opd} {i:Nat} {ts:List TV} {t:TV} (h:x.ev env=.tp ts) (hi:ts[i]?=some t) (k:WO S K os ((d,.tv t)::env)):WO S K (⟨some d,.ext x i,none⟩::os) env:=by
 replace k:=k.out
 refine ⟨?_⟩
 simp only [wpOps,PR.wp,POp.wp,h,hi,optK]; exact k
theorem s_mvp {x:Opd} {ts:List TV} (h:x.ev env=.tp ts) (k:WO S K os ((d,.tp ts)::env)):WO S K (⟨some d,.mv x,none⟩::os) env:=by
 replace k:=k.out
 refine ⟨?_⟩
 simp only [wpOps,PR.wp,POp.wp,h]; exact k
theorem s_cvt {ik ik':IntKind} {x:Opd} {n:Int} (h:x.val env=some (.int ik' n)) (k:WO S K os ((d,.tv (.int ik (ik.wrap n)))::env)):WO S K (⟨some d,.cvt ik x,none⟩::os) env:=by
 replace k:=k.out
 refine ⟨?_⟩
 simp only [wpOps,PR.wp,POp.wp,h]; exact k
theorem s_sidx {x i:Opd} {s:ByteArray} {ik:IntKind} {j b:Int} (h:x.val env=some (.str s)) (hi:i.val env=some (.int ik j)) (hx:sidx s j=some b) (k:WO S K os ((d,.tv (.int .u8 b))::env)):WO S K (⟨some d,.sidx x i,none⟩::os) env:=by
 replace k:=k.out
 refine ⟨?_⟩
 unfold sidx at hx
 split at hx
 ·rename_i h0
  rw [Option.map_eq_some_iff] at hx
  obtain ⟨c,hc,rfl⟩:=hx
  simp only [wpOps,PR.wp,POp.wp,h,hi]
  exact ⟨h0,c,hc,k⟩
 ·cases hx
theorem s_boxs {x:Opd} {t:TV} {row:List TV} (h:x.val env=some t) (hr:t.cells=row) (k:WO S K os ((d,.tv (.pt row))::env)):WO S K (⟨some d,.boxs x,none⟩::os) env:=by
 replace k:=k.out
 refine ⟨?_⟩
 subst hr
 simp only [wpOps,PR.wp,POp.wp,h]; exact k
theorem s_boxo {x:Opd} {t:TV} {row:List TV} {cs:List Cell} (h:x.val env=some t) (hn:env.noRef d=true) (hr:t.cells=row) (hc:row.map (⟨false,·⟩)=cs) (k:WO S K os ((d,.bx cs)::env)):WO S K (⟨some d,.boxo x,none⟩::os) env:=by
 replace k:=k.out
 refine ⟨?_⟩
 subst hr hc
 simp only [wpOps,PR.wp,POp.wp,h]; exact ⟨hn,k⟩
theorem s_mm {mx:Bool} {x y:Opd} {ik:IntKind} {a b:Int} (hx:x.val env=some (.int ik a)) (hy:y.val env=some (.int ik b)) (k:WO S K os ((d,.tv (.int ik (if mx then max a b else min a b)))::env)):WO S K (⟨some d,.mm mx x y,none⟩::os) env:=by
 replace k:=k.out
 refine ⟨?_⟩
 simp only [wpOps,PR.wp,POp.wp,hx,hy]; exact ⟨trivial,k⟩
theorem s_max {x y:Opd} {ik:IntKind} {a b:Int} (hx:x.val env=some (.int ik a)) (hy:y.val env=some (.int ik b)) (k:WO S K os ((d,.tv (.int ik (max a b)))::env)):WO S K (⟨some d,.mm true x y,none⟩::os) env:=s_mm hx hy k
theorem s_alc {cs:List Cell} (hn:env.noRef d=true) (k:WO S K os ((d,.bx cs)::env)):WO S K (⟨some d,.alc cs,none⟩::os) env:=by
 replace k:=k.out
 refine ⟨?_⟩
 simp only [wpOps,PR.wp,POp.wp]; exact ⟨hn,k⟩
theorem s_st {n s off:Nat} {x v:Opd} {cs cs':List Cell} {t:TV} (hp:x.place env=some (s,off)) (hs:env.get s=.bx cs) (hv:v.ev env=.tv t) (hl:t.cells.length=n) (hb:Nat.ble (off+n) cs.length=true) (hc:cs.take off++t.cells.map (⟨false,·⟩)++cs.drop (off+n)=cs')
  (k:WO S K os ((s,.bx cs')::env)):WO S K (⟨none,.st n x v,none⟩::os) env:=by
 replace k:=k.out
 refine ⟨?_⟩
 subst hc
 simp only [wpOps,PR.wp,POp.wp,hp,hs,hv]; exact ⟨hl,Nat.le_of_ble_eq_true hb,k⟩
theorem s_sto {s off q:Nat} {x:Opd} {cs cs':List Cell} {t:TV} (hp:x.place env=some (s,off)) (hs:env.get s=.bx cs) (hv:env.get q=.ow t) (hq:q≠s) (hb:Nat.blt off cs.length=true) (hc:cs.set off ⟨true,t⟩=cs')
  (k:WO S K os ((s,.bx cs')::(q,.tv t)::env)):WO S K (⟨none,.st 1 x (.s q),none⟩::os) env:=by
 replace k:=k.out
 refine ⟨?_⟩
 subst hc
 simp only [wpOps,PR.wp,POp.wp,hp,hs,Opd.ev,hv]; exact ⟨hq,trivial,Nat.le_of_ble_eq_true hb,k⟩
theorem s_stb {n s:Nat} {v:Opd} {cs cs':List Cell} {t:TV} (hs:env.get s=.bx cs) (hv:v.ev env=.tv t) (hl:t.cells.length=n) (hb:Nat.ble (0+n) cs.length=true) (hc:cs.take 0++t.cells.map (⟨false,·⟩)++cs.drop (0+n)=cs')
  (k:WO S K os ((s,.bx cs')::env)):WO S K (⟨none,.stb n s v,none⟩::os) env:=by
 replace k:=k.out
 refine ⟨?_⟩
 subst hc
 simp only [wpOps,PR.wp,POp.wp,hs,hv]; exact ⟨hl,Nat.le_of_ble_eq_true hb,k⟩
theorem s_frz {s:Nat} {cs:List Cell} {row:List TV} (hs:env.get s=.bx cs) (hr:cs.map (·.t)=row) (k:WO S K os ((s,.tv (.pt row))::env)):WO S K (⟨none,.frz s,none⟩::os) env:=by
 replace k:=k.out
 refine ⟨?_⟩
 subst hr
 simp only [wpOps,PR.wp,POp.wp,hs]; exact k
theorem s_bldo {qs:List Nat} {ts:List TV} {cs:List Cell} {env':Env} (hn:qs.Nodup) (hd:d ∉ qs) (h:owVals env qs=some ts) (hc:ts.map (⟨true,·⟩)=cs) (he:giveAway env qs ts=env') (k:WO S K os ((d,.oag cs)::env')):WO S K (⟨some d,.bldo qs,none⟩::os) env:=by
 replace k:=k.out
 refine ⟨?_⟩
 subst hc; subst he
 simp only [wpOps,PR.wp,POp.wp,h]; exact ⟨hn,hd,k⟩
theorem s_stx {n s q:Nat} {cs ds cs':List Cell} (hs:env.get s=.bx cs) (hq:env.get q=.oag ds) (hqs:q≠s) (hl:ds.length=n) (hb:Nat.ble (0+n) cs.length=true) (hx:(ds.all fun c=>!c.t.isXl)=true) (hc:cs.take 0++ds++cs.drop (0+n)=cs')
  (k:WO S K os ((s,.bx cs')::(q,.undef)::env)):WO S K (⟨none,.stx n s q,none⟩::os) env:=by
 replace k:=k.out
 refine ⟨?_⟩
 subst hc
 simp only [wpOps,PR.wp,POp.wp,hs,hq]; exact ⟨hqs,⟨hl,hx⟩,Nat.le_of_ble_eq_true hb,k⟩
theorem s_callh {f:FuncId} {args:List Opd} {ts:List TV} {cs:List Cell} {t:TV} (ha:vals env args=some ts) (hS:S f ts (.oag cs)) (hc:TV.agg (cs.map (·.t))=t) (k:WO S K os ((d,.tv t)::env)):WO S K (⟨some d,.call f args,none⟩::os) env:=by
 replace k:=k.out
 refine ⟨?_⟩
 subst hc
 simp only [wpOps,PR.wp,POp.wp,ha,optK]; exact ⟨_,⟨hS,rfl⟩,fun _=>k⟩
theorem s_isn {α:Type} {x:Opd} {n:Nat} {es:List TV} {e:α->TV} {l:List α} (h:x.val env=some (.list n es)) (he:es=l.map e) (k:∀ b:Bool,(b=true->l=[])->WO S K os ((d,.tv (.bool b))::env)):WO S K (⟨some d,.isn x,none⟩::os) env:=by
 replace k:=fun b hb=>(k b hb).out
 refine ⟨?_⟩
 simp only [wpOps,PR.wp,POp.wp,h]
 intro b hb
 refine k b fun ht=>?_
 have:=hb ht
 rw [he] at this
 simpa using this
theorem clone_h {α:Type} {l r:List α} (h:appC [] l=some r) (b:Bool) (hb:b=true->l=[]):(if b=true then some [] else (appC [] l).bind fun x=>some x)=some r:=by
 cases b
 ·simpa using h
 ·have:=hb rfl
  subst this
  simpa [appC] using h
theorem idx_lt {α:Type} {l:List α} {j:Int} {a:α} (h:idx l j=some a):0<=j∧j<l.length∧l[j.toNat]?=some a:=by
 unfold idx at h
 split at h
 ·rename_i h0
  have:=(List.getElem?_eq_some_iff.1 h).1
  exact ⟨h0,by omega,h⟩
 ·cases h
theorem flat_at {α:Type} {n:Nat} {e:α->TV} (hl:∀ a,(e a).cells.length=n):∀ (l:List α) (j k:Nat) (a:α),l[j]?=some a->k<n->((l.map e).flatMap TV.cells)[j*n+k]?=(e a).cells[k]?
 | [],j,k,a,h,_=>by simp at h
 | b::l,0,k,a,h,hk=>by
  simp only [List.getElem?_cons_zero,Option.some.injEq] at h
  subst h
  rw [List.map_cons,List.flatMap_cons,List.getElem?_append_left (by rw [hl]; omega),Nat.zero_mul,Nat.zero_add]
 | b::l,j+1,k,a,h,hk=>by
  rw [List.getElem?_cons_succ] at h
  rw [List.map_cons,List.flatMap_cons,List.getElem?_append_right (by rw [hl,Nat.add_mul]; omega),hl,show (j+1)*n+k - n=j*n+k from by rw [Nat.add_mul]; omega]
  exact flat_at hl l j k a h hk
theorem flat_set {α:Type} {n:Nat} {e:α->TV} (hl:∀ a,(e a).cells.length=n) (t:TV):∀ (l:List α) (j k:Nat) (a b:α),l[j]?=some a->k<n->(e b).cells=(e a).cells.set k t->((l.set j b).map e).flatMap TV.cells=((l.map e).flatMap TV.cells).set (j*n+k) t
 | [],j,k,a,b,h,_,_=>by simp at h
 | c::l,0,k,a,b,h,hk,hb=>by
  simp only [List.getElem?_cons_zero,Option.some.injEq] at h
  subst h
  rw [List.set_cons_zero,List.map_cons,List.map_cons,List.flatMap_cons,List.flatMap_cons,Nat.zero_mul,Nat.zero_add,List.set_append_left _ _ (by rw [hl]; omega),hb]
 | c::l,j+1,k,a,b,h,hk,hb=>by
  rw [List.getElem?_cons_succ] at h
  rw [List.set_cons_succ,List.map_cons,List.map_cons,List.flatMap_cons,List.flatMap_cons,List.set_append_right _ _ (by rw [hl,Nat.add_mul]; omega),hl,show (j+1)*n+k - n=j*n+k from by rw [Nat.add_mul]; omega,flat_set hl t l j k a b h hk hb]
theorem flats_map {α:Type} {e:α->TV} (h:∀ a,(e a).flat=true):∀ (l:List α),TV.flats (l.map e)=true
 | []=>rfl
 | a::l=>by simp only [List.map_cons,TV.flats,h a,flats_map h l,Bool.and_self]
theorem s_xal {s n:Nat} {es:List TV} (h:env.get s=.xo n es) (k:WO S K os ((d,.la s none)::env)):WO S K (⟨some d,.xal s,none⟩::os) env:=by
 replace k:=k.out
 refine ⟨?_⟩
 simp only [wpOps,PR.wp,POp.wp,h]; exact k
theorem s_xlen {α:Type} {x:Opd} {q:Nat × Option Nat} {n:Nat} {es:List TV} {e:α->TV} {l:List α} (h:x.xlist env=some (q,n,es)) (he:es=l.map e) (k:WO S K os ((d,.tv (.int .i64 l.length))::env)):WO S K (⟨some d,.xlen x,none⟩::os) env:=by
 replace k:=k.out
 refine ⟨?_⟩
 subst he
 simp only [wpOps,PR.wp,POp.wp,h,optK,List.length_map]; exact k
theorem s_xia {α:Type} {x i:Opd} {q n:Nat} {qi:Option Nat} {es:List TV} {e:α->TV} {l:List α} {ik:IntKind} {j:Int} {a:α} (h:x.xlist env=some ((q,qi),n,es)) (hi:i.val env=some (.int ik j)) (he:es=l.map e) (ha:idx l j=some a)
  (k:WO S K os ((d,.lp q qi (j.toNat*n))::env)):WO S K (⟨some d,.xia x i n,none⟩::os) env:=by
 replace k:=k.out
 refine ⟨?_⟩
 subst he
 obtain ⟨h0,h1,_⟩:=idx_lt ha
 simp only [wpOps,PR.wp,POp.wp,h,hi,optK,List.length_map]; exact ⟨trivial,h0,h1,k⟩
theorem s_xfa {x:Opd} {j q c:Nat} {qi:Option Nat} {p:Nat × List TV} (h:x.ev env=.lp q qi c) (hq:env.xat q qi=some p) (k:WO S K os ((d,.lp q qi (c+j))::env)):WO S K (⟨some d,.xfa x j,none⟩::os) env:=by
 replace k:=k.out
 refine ⟨?_⟩
 simp only [wpOps,PR.wp,POp.wp,h,hq]; exact k
theorem s_xld {α:Type} {x:Opd} {q c n i:Nat} {qi:Option Nat} {es row:List TV} {e:α->TV} {l:List α} {j:Int} {a:α} {t:TV} (h:x.ev env=.lp q qi c) (hq:env.xat q qi=some (n,es)) (he:es=l.map e) (hl:∀ a,(e a).cells.length=n) (ha:idx l j=some a) (hc:c=j.toNat*n+i) (hi:Nat.blt i n=true) (hr:(e a).cells=row) (ht:row[i]?=some t)
  (k:WO S K os ((d,.tv t)::env)):WO S K (⟨some d,.xld x,none⟩::os) env:=by
 replace k:=k.out
 refine ⟨?_⟩
 subst he hc hr
 have hf:=flat_at hl l j.toNat i a (idx_lt ha).2.2 (Nat.le_of_ble_eq_true hi)
 simp only [wpOps,PR.wp,POp.wp,h,hq,hf,ht,optK]; exact k
theorem s_xst {α:Type} {x v:Opd} {q c n i:Nat} {qi:Option Nat} {env':Env} {es rs:List TV} {e:α->TV} {l:List α} {j:Int} {a b:α} {t:TV} (h:x.ev env=.lp q qi c) (hq:env.xat q qi=some (n,es)) (hv:v.ev env=.tv t) (he:es=l.map e) (hl:∀ a,(e a).cells.length=n) (ha:idx l j=some a) (hc:c=j.toNat*n+i) (hi:Nat.blt i n=true) (ht:t.cells=[t])
  (hb:(e b).cells=(e a).cells.set i t) (hr:rs=(setE l j b).map e) (hv':env.xput q qi n rs=env') (k:WO S K os env'):WO S K (⟨none,.xst x v,none⟩::os) env:=by
 replace k:=k.out
 refine ⟨?_⟩
 subst he hc hr hv'
 obtain ⟨h0,h1,h2⟩:=idx_lt ha
 have hi':i<n:=Nat.le_of_ble_eq_true hi
 have hlt:j.toNat<l.length:=(List.getElem?_eq_some_iff.1 h2).1
 simp only [wpOps,PR.wp,POp.wp,h,hq,hv]
 refine ⟨ht,?_,_,flat_set hl t l j.toNat i a b h2 hi' hb,by simp,fun u hu=>?_,k⟩
 ·rw [List.length_map]
  calc j.toNat*n+i<j.toNat*n+n:=by omega
   _=(j.toNat+1)*n:=by rw [Nat.add_mul]; omega
   _<=l.length*n:=Nat.mul_le_mul_right _ hlt
 ·obtain ⟨u',_,rfl⟩:=List.mem_map.1 hu
  exact hl u'
theorem s_rel {s n:Nat} {es:List TV} (h:env.get s=.xo n es) (hd:d≠s) (k:WO S K os ((d,.ow (.list n es))::(s,.undef)::env)):WO S K (⟨some d,.rel s,none⟩::os) env:=by
 replace k:=k.out
 refine ⟨?_⟩
 simp only [wpOps,PR.wp,POp.wp,h]; exact ⟨hd,k⟩
theorem s_nilx {n:Nat} (hn:env.noRef d=true) (k:WO S K os ((d,.xo n [])::env)):WO S K (⟨some d,.nilx n,none⟩::os) env:=by
 replace k:=k.out
 refine ⟨?_⟩
 simp only [wpOps,PR.wp,POp.wp]; exact ⟨hn,k⟩
theorem s_tkx {s n:Nat} {es:List TV} (h:env.get s=.xo n es) (hn:env.noRef d=true) (hd:d≠s) (k:WO S K os ((d,.xo n es)::(s,.undef)::env)):WO S K (⟨some d,.tkx s,none⟩::os) env:=by
 replace k:=k.out
 refine ⟨?_⟩
 simp only [wpOps,PR.wp,POp.wp,h]; exact ⟨hn,hd,k⟩
theorem s_appx {α:Type} {n s:Nat} {y:Opd} {es fs rs:List TV} {e:α->TV} {l m r:List α} (hx:env.get s=.xo n es) (hy:y.val env=some (.list n fs)) (he:es=l.map e) (hf:fs=m.map e) (h:appC l m=some r) (hr:rs=r.map e) (hn:env.noRef d=true) (hd:d≠s)
  (k:WO S K os ((d,.xo n rs)::(s,.undef)::env)):WO S K (⟨some d,.appx n s y,none⟩::os) env:=by
 replace k:=k.out
 refine ⟨?_⟩
 subst he hf hr
 unfold appC at h
 split at h
 ·rename_i hc
  cases h
  simp only [wpOps,PR.wp,POp.wp,hx,hy,List.length_map]
  rw [List.map_append] at k
  exact ⟨trivial,trivial,hc,hn,hd,k⟩
 ·cases h
theorem s_callx {f:FuncId} {args:List Opd} {ts es:List TV} {n:Nat} (hn:env.noRef d=true) (ha:vals env args=some ts) (hS:S f ts (.xown n es)) (k:WO S K os ((d,.xo n es)::env)):WO S K (⟨some d,.callx f args,none⟩::os) env:=by
 replace k:=k.out
 refine ⟨?_⟩
 simp only [wpOps,PR.wp,POp.wp,ha,optK]; exact ⟨hn,n,es,.inl hS,fun _=>k⟩
theorem s_callxf {α:Type} {f:FuncId} {args:List Opd} {ts es:List TV} {n:Nat} {e:α->TV} {l:List α} (hn:env.noRef d=true) (ha:vals env args=some ts) (hS:S f ts (.own (.list n es))) (he:es=l.map e) (hf:∀ a,(e a).flat=true) (k:WO S K os ((d,.xo n es)::env)):WO S K (⟨some d,.callx f args,none⟩::os) env:=by
 replace k:=k.out
 refine ⟨?_⟩
 simp only [wpOps,PR.wp,POp.wp,ha,optK]; exact ⟨hn,n,es,.inr ⟨hS,by rw [he]; exact flats_map hf l⟩,fun _=>k⟩
theorem s_mkx {α:Type} {n:Nat} {zero:List TV} {x:Opd} {ik:IntKind} {j:Int} {rs:List TV} {e:α->TV} {z:α} {r:List α} (hn:env.noRef d=true) (hx:x.val env=some (.int ik j)) (hz:(match zero with | [t]=>t | ts=>.agg ts)=e z) (h:mkz j z=some r) (hr:rs=r.map e)
  (k:WO S K os ((d,.xo n rs)::env)):WO S K (⟨some d,.mkx n zero x,none⟩::os) env:=by
 replace k:=k.out
 refine ⟨?_⟩
 subst hr
 unfold mkz at h
 split at h
 ·rename_i hc
  cases h
  rw [List.map_replicate,←hz] at k
  simp only [wpOps,PR.wp,POp.wp,hx]; exact ⟨hn,hc.1,hc.2,k⟩
 ·cases h
theorem s_callm {f:FuncId} {x:Opd} {q:Nat} {qi:Option Nat} {env':Env} {es rs:List TV} {e:Int->TV} {l r:List Int} (h:x.xlist env=some ((q,qi),1,es)) (he:es=l.map e) (hei:e=TV.int .i64) (hS:S f [.list 1 (l.map (TV.int .i64))] (.turn r)) (hr:rs=r.map e) (hv':env.xput q qi 1 rs=env') (k:WO S K os ((d,.tp [])::env')):WO S K (⟨some d,.callm f x,none⟩::os) env:=by
 replace k:=k.out
 refine ⟨?_⟩
 subst he hr hei hv'
 simp only [wpOps,PR.wp,POp.wp,h,optK]; exact ⟨trivial,l,r,rfl,hS,fun _=>k⟩
theorem s_callc {f:FuncId} {x:Opd} {q:Nat} {es rs:List TV} {e:Int->TV} {l r:List Int} (h:x.xlist env=some ((q,none),1,es)) (he:es=l.map e) (hei:e=TV.int .i64) (hqd:q≠d) (hn:env.noRef d=true) (hS:S f [.list 1 (l.map (TV.int .i64))] (.cut r)) (hr:rs=r.map e) (k:WO S K os ((d,.xo 1 rs)::(q,.undef)::env)):WO S K (⟨some d,.callc f x,none⟩::os) env:=by
 replace k:=k.out
 refine ⟨?_⟩
 subst he hr hei
 simp only [wpOps,PR.wp,POp.wp,h,optK]; exact ⟨⟨hqd,trivial⟩,trivial,hn,l,r,rfl,hS,fun _=>k⟩
theorem keep_xo {env:Env} {s:Nat} {ss:List Nat} {n:Nat} {t:List TV} {r:Env} (h:env.get s=.xo n t) (k:env.keep ss=r):env.keep (s::ss)=(s,.xo n t)::r:=by simp only [Env.keep,List.map_cons,h] at k ⊢; rw [k]
theorem keep_la {env:Env} {s:Nat} {ss:List Nat} {q:Nat} {i:Option Nat} {r:Env} (h:env.get s=.la q i) (k:env.keep ss=r):env.keep (s::ss)=(s,.la q i)::r:=by simp only [Env.keep,List.map_cons,h] at k ⊢; rw [k]
theorem s_lac {x:Opd} {s off:Nat} {p:Nat × List TV} (h:x.ev env=.bp s off) (hx:env.xat s (some off)=some p) (k:WO S K os ((d,.la s (some off))::env)):WO S K (⟨some d,.lac x,none⟩::os) env:=by
 replace k:=k.out
 refine ⟨?_⟩
 simp only [wpOps,PR.wp,POp.wp,h,hx]; exact k
theorem s_ctk {x:Opd} {s off n:Nat} {cs cs':List Cell} {es:List TV} (hp:x.place env=some (s,off)) (hs:env.get s=.bx cs) (hc:cs[off]?=some ⟨true,.xl n es⟩) (hn:env.noRef d=true) (hc':cs.set off ⟨false,.undef⟩=cs') (k:WO S K os ((d,.xo n es)::(s,.bx cs')::env)):WO S K (⟨some d,.ctk x,none⟩::os) env:=by
 replace k:=k.out
 refine ⟨?_⟩
 subst hc'
 simp only [wpOps,PR.wp,POp.wp,hp,hs,hc]; exact ⟨hn,k⟩
theorem s_cpt {x:Opd} {q s off n:Nat} {cs cs':List Cell} {es:List TV} (hp:x.place env=some (s,off)) (hq:env.get q=.xo n es) (hs:env.get s=.bx cs) (hn:env.noX s (some off)=true) (hb:Nat.blt off cs.length=true) (hc':cs.set off ⟨true,.xl n es⟩=cs') (k:WO S K os ((s,.bx cs')::(q,.undef)::env)):WO S K (⟨none,.cpt x q,none⟩::os) env:=by
 replace k:=k.out
 refine ⟨?_⟩
 subst hc'
 simp only [wpOps,PR.wp,POp.wp,hp,hq,hs]; exact ⟨hn,Nat.le_of_ble_eq_true hb,k⟩
theorem s_cut {α:Type} {n s:Nat} {hi:Opd} {es rs:List TV} {e:α->TV} {l r:List α} {ik:IntKind} {j:Int} (hs:env.get s=.xo n es) (hj:hi.val env=some (.int ik j)) (he:es=l.map e) (h:slc l 0 j=some r) (hr:rs=r.map e) (hn:env.noRef d=true) (hd:d≠s) (k:WO S K os ((d,.xo n rs)::(s,.undef)::env)):WO S K (⟨some d,.cut n s hi,none⟩::os) env:=by
 replace k:=k.out
 refine ⟨?_⟩
 subst he hr
 obtain ⟨⟨h1,h2⟩,h3⟩:=slc_spec h
 subst h3
 simp only [wpOps,PR.wp,POp.wp,hs,hj]
 refine ⟨⟨trivial,hn,hd⟩,h1.2,by rw [List.length_map]; exact h2,?_⟩
 have h3:((l.take j.toNat).drop (0:Int).toNat).map e=(l.map e).take j.toNat:=by simp
 rw [h3] at k
 exact k
theorem s_calll {f:FuncId} {args:List Opd} {ts:List TV} {t:TV} (ha:lvals env args=some ts) (hS:S f ts (.sh t)) (hl:t.flat=true) (k:WO S K os ((d,.tv t)::env)):WO S K (⟨some d,.calll f args,none⟩::os) env:=by
 replace k:=k.out
 refine ⟨?_⟩
 simp only [wpOps,PR.wp,POp.wp,ha,optK]; exact ⟨_,⟨hS,hl⟩,fun _=>k⟩
theorem s_calllp {f:FuncId} {args:List Opd} {ts t:List TV} (ha:lvals env args=some ts) (hS:S f ts (.tp t)) (hl:TV.flats t=true) (k:WO S K os ((d,.tp t)::env)):WO S K (⟨some d,.calll f args,none⟩::os) env:=by
 replace k:=k.out
 refine ⟨?_⟩
 simp only [wpOps,PR.wp,POp.wp,ha,optK]; exact ⟨_,⟨hS,hl⟩,fun _=>k⟩
theorem s_calllo {α:Type} {f:FuncId} {args:List Opd} {ts es:List TV} {t:TV} {n:Nat} {e:α->TV} {l:List α} (ha:lvals env args=some ts) (hS:S f ts (.own t)) (ht:t=.list n es) (he:es=l.map e) (hf:∀ a,(e a).flat=true) (k:WO S K os ((d,.ow t)::env)):WO S K (⟨some d,.calll f args,none⟩::os) env:=by
 replace k:=k.out
 refine ⟨?_⟩
 subst ht he
 simp only [wpOps,PR.wp,POp.wp,ha,optK]; exact ⟨_,⟨hS,flats_map hf l⟩,fun _=>k⟩
def appZ {α:Type} (l:List α) (j:Int) (z:α):Option (List α):=if (0<=j∧j<=4096)∧l.length+j.toNat<=nmax then some (l++List.replicate j.toNat z) else none
theorem s_appz {α:Type} {n s:Nat} {zt:TV} {x:Opd} {es rs:List TV} {e:α->TV} {z:α} {l r:List α} {ik:IntKind} {j:Int} (hs:env.get s=.xo n es) (hj:x.val env=some (.int ik j)) (he:es=l.map e) (hz:zt=e z) (h:appZ l j z=some r) (hr:rs=r.map e) (hn:env.noRef d=true) (hd:d≠s) (hn1:n=1) (hc:zt.cells=[zt]) (k:WO S K os ((d,.xo n rs)::(s,.undef)::env)):WO S K (⟨some d,.appz n s zt x,none⟩::os) env:=by
 replace k:=k.out
 refine ⟨?_⟩
 subst he hr
 unfold appZ at h
 split at h
 ·rename_i hb
  cases h
  simp only [wpOps,PR.wp,POp.wp,hs,hj]
  refine ⟨⟨⟨trivial,hn1⟩,hc⟩,hb.1,⟨by rw [List.length_map]; exact hb.2,hn,hd⟩,?_⟩
  rw [List.map_append,List.map_replicate,←hz] at k
  exact k
 ·cases h
theorem s_callf {f:FuncId} {args:List Opd} {ts t:List TV} (ha:vals env args=some ts) (hS:S f ts (.ext t)) (k:WO S K os ((d,.tp t)::env)):WO S K (⟨some d,.callf f args,none⟩::os) env:=by
 replace k:=k.out
 refine ⟨?_⟩
 simp only [wpOps,PR.wp,POp.wp,ha,optK]; exact ⟨_,hS,k⟩
theorem s_boxp {ps:List (Option Cell)} {x:Opd} {t:TV} {cs:List Cell} (h:x.val env=some t) (hc:boxCells ps t.cells=some cs) (hn:env.noRef d=true) (k:WO S K os ((d,.bx cs)::env)):WO S K (⟨some d,.boxp ps x,none⟩::os) env:=by
 replace k:=k.out
 refine ⟨?_⟩
 simp only [wpOps,PR.wp,POp.wp,h,hc,optK]; exact ⟨hn,k⟩
theorem s_callb {f:FuncId} {args:List Opd} {i s:Nat} {ts us:List TV} {cs cs':List Cell} {e:EV} (hp:(args[i]?).bind (·.place env)=some (s,0)) (hs:env.get s=.bx cs) (hn:env.noX s none=true) (hd:d≠s) (ha:bvals env i args=some ts) (hS:S f ts (.bo cs cs' i us)) (he:EV.ofs us=e) (k:WO S K os ((d,e)::(s,.bx cs')::env)):WO S K (⟨some d,.callb f args i,none⟩::os) env:=by
 replace k:=k.out
 refine ⟨?_⟩
 subst he
 simp only [wpOps,PR.wp,POp.wp,hp,hs,ha,optK]; exact ⟨⟨hn,hd⟩,cs',us,hS,fun _=>k⟩
def nonE {α:Type} (l:List α):Option Unit:=if l.isEmpty then none else some ()
theorem isn_false {α:Type} {l:List α} {u:Unit} {b:Bool} (h:nonE l=some u) (hb:b=true->l=[]):b=false:=by
 cases b with
 | false=>rfl
 | true=>rw [hb rfl] at h; cases h
theorem g_on {dd:Option Nat} {op:POp} {g:Nat} {b q:Bool} (hg:env.get g=.tv (.bool q)) (hq:q=b) (k:WO S K (⟨dd,op,none⟩::os) env):WO S K (⟨dd,op,some (g,b)⟩::os) env:=by
 replace k:=k.out
 refine ⟨?_⟩
 subst hq
 simp only [wpOps,PR.wp,hg] at k ⊢
 exact ⟨fun _=>k,fun h=>by cases q <;> simp at h⟩
theorem g_off {d:Nat} {op:POp} {g:Nat} {b q:Bool} (hg:env.get g=.tv (.bool q)) (hq:q=!b) (k:WO S K os ((d,.sk)::env)):WO S K (⟨some d,op,some (g,b)⟩::os) env:=by
 replace k:=k.out
 refine ⟨?_⟩
 subst hq
 simp only [wpOps,PR.wp,hg]
 exact ⟨fun h=>by cases b <;> simp at h,fun _=>k⟩
theorem g_sk {d:Nat} {op:POp} {g:Nat} {b:Bool} (hg:env.get g=.sk) (k:WO S K os ((d,.sk)::env)):WO S K (⟨some d,op,some (g,b)⟩::os) env:=by
 replace k:=k.out
 refine ⟨?_⟩
 simp only [wpOps,PR.wp,hg]
 exact k
theorem wpOps_append (xs ys:List PR) (env:Env):wpOps S K (xs++ys) env=wpOps S (wpOps S K ys) xs env:=by
 induction xs generalizing env with
 | nil=>rfl
 | cons x xs ih=>
  simp only [List.cons_append,wpOps]
  congr 1
  funext e
  exact ih e
theorem g_cut {ops:List PR} (n:Nat) (M:Env->Env->Prop) (h1:WO S (M env) (ops.take n) env) (h2:∀ e,M env e->WO S K (ops.drop n) e):WO S K ops env:=by
 refine ⟨?_⟩
 rw [←List.take_append_drop n ops,wpOps_append]
 exact wpOps_mono S (fun e he=>(h2 e he).out) _ env h1.out
variable {q:Q} {a b:PC}
theorem c_seq (h:WP S a ⟨fun e=>(∀ s,(e.get s).WF)->WP S b q e,q.exit,q.ret⟩ env):WP S (.seq a b) q env:=⟨PC.wp_mono S a _ env h.out _ (fun _ he hw=>(he hw).out) (fun _ _ h=>h) (fun _ h=>h)⟩
theorem c_reg {ops:List PR} {live:List Nat} (h:WO S (fun e=>q.normal (e.keep live)) ops env):WP S (.region ops live) q env:=⟨h.out⟩
theorem c_draw {D:List Nat} {ops:List PR} {live:List Nat} (hd:drawOk env D=true) (h:WO S (fun e=>q.normal (e.keep live)) ops env):WP S (.draw D ops live) q env:=⟨hd,h.out⟩
theorem c_skip {live:List Nat} {env':Env} (hk:env.keep live=env') (h:q.normal env'):WP S (.skip live) q env:=by subst hk; exact ⟨h⟩
theorem c_ret (h:q.ret env):WP S .ret q env:=⟨h⟩
theorem c_exit {i:Nat} {live:List Nat} {env':Env} (hk:env.keep live=env') (h:q.exit i env'):WP S (.exit i live) q env:=by subst hk; exact ⟨h⟩
theorem c_cond {x:Opd} {c:Bool} (hc:x.val env=some (.bool c)) (ht:c=true->WP S a q env) (hf:c=false->WP S b q env):WP S (.cond x a b) q env:=by
 refine ⟨?_⟩
 simp only [PC.wp,hc]; exact ⟨fun h=>(ht h).out,fun h=>(hf h).out⟩
theorem c_condt {x:Opd} {c:Bool} (hc:x.val env=some (.bool c)) (h:c=true) (ht:WP S a q env):WP S (.cond x a b) q env:=
 c_cond hc (fun _=>ht) (fun h'=>by rw [h] at h'; cases h')
theorem c_condf {x:Opd} {c:Bool} (hc:x.val env=some (.bool c)) (h:c=false) (ht:WP S b q env):WP S (.cond x a b) q env:=
 c_cond hc (fun h'=>by rw [h] at h'; cases h') (fun _=>ht)
theorem c_block {i:Nat} (h:WP S a ⟨q.normal,fun j e=>if j=i then q.normal e else q.exit j e,q.ret⟩ env):WP S (.block i a) q env:=⟨h.out⟩
theorem ex_hit {i:Nat} {x y:Prop} (h:x):if i=i then x else y:=by rw [if_pos rfl]; exact h
theorem ex_miss {i j:Nat} {x y:Prop} (hn:i≠j) (h:y):if i=j then x else y:=by rw [if_neg hn]; exact h
theorem c_cut (M:Env->Prop) (h1:WP S a ⟨M,q.exit,q.ret⟩ env) (h2:∀ e,M e->q.normal e):WP S a q env:=⟨PC.wp_mono S a _ env h1.out q h2 (fun _ _ h=>h) (fun _ h=>h)⟩
section loops
variable {σ ρ:Type} {live:List Nat} {c:PC} {i0:Nat}
theorem wp_forGo {f:Int->σ->Option (Ctl σ ρ)} {b:Int} (I:Int->σ->Env) (J:σ->Env) (R:ρ->Env->Prop)
  (hstep:∀ i s r,i<b->f i s=some r->(∀ k,((I i s).get k).WF)->c.wp S ⟨fun e=>∃ s',r=.next s'∧e.keep live=I (i+1) s',fun j e=>j=i0∧∃ s',r=.brk s'∧e=J s',fun e=>∃ v,r=.ret v∧R v e⟩ (I i s))
  (hlast:∀ i s,¬ i<b->c.wp S ⟨fun _=>False,fun j e=>j=i0∧e=J s,fun _=>False⟩ (I i s))
  {X:Env->Prop} (hX:∀ e,((∀ s,(e.get s).WF)->c.wp S { q with normal:=fun e'=>X (e'.keep live) } e)->X e) (hE:∀ s,q.exit i0 (J s)∨True) :
  ∀ (n:Nat) (i:Int) (s:σ),n=(b - i).toNat->∀ o,forGo f n i s=some o->(∀ s',o=.inl s'->q.exit i0 (J s'))->(∀ v e,o=.inr v->R v e->q.ret e)->X (I i s):=by
 intro n
 induction n with
 | zero=>
  intro i s hn o ho hj hr
  refine hX _ fun hw=>?_
  refine PC.wp_mono S c _ _ (hlast i s (by omega)) _ (fun _ h=>h.elim) (fun j e he=>?_) (fun _ h=>h.elim)
  obtain ⟨rfl,rfl⟩:=he
  simp only [forGo,Option.some.injEq] at ho
  exact hj s ho.symm
 | succ n ih=>
  intro i s hn o ho hj hr
  simp only [forGo] at ho
  refine hX _ fun hw=>?_
  cases hf:f i s with
  | none=>rw [hf] at ho; cases ho
  | some r=>
   rw [hf] at ho
   refine PC.wp_mono S c _ _ (hstep i s r (by omega) hf hw) _ (fun e he=>?_) (fun j e he=>?_) (fun e he=>?_)
   ·obtain ⟨s',rfl,he⟩:=he
    show X (e.keep live)
    rw [he]
    exact ih (i+1) s' (by omega) o ho hj hr
   ·obtain ⟨rfl,s',rfl,rfl⟩:=he
    simp only [Option.some.injEq] at ho
    exact hj s' ho.symm
   ·obtain ⟨v,rfl,he⟩:=he
    simp only [Option.some.injEq] at ho
    exact hr v e ho.symm he
theorem wp_forR {f:Int->σ->Option (Ctl σ ρ)} {lo b:Int} {s0:σ} {o:σ ⊕ ρ} (ho:forR f lo b s0=some o) (I:Int->σ->Env) (J:σ->Env) (R:ρ->Env->Prop) (h0:env.keep live=I lo s0)
  (hstep:∀ i s r,i<b->f i s=some r->(∀ k,((I i s).get k).WF)->WP S c ⟨fun e=>∃ s',r=.next s'∧e.keep live=I (i+1) s',fun j e=>j=i0∧∃ s',r=.brk s'∧e=J s',fun e=>∃ v,r=.ret v∧R v e⟩ (I i s))
  (hlast:∀ i s,¬ i<b->WP S c ⟨fun _=>False,fun j e=>j=i0∧e=J s,fun _=>False⟩ (I i s))
  (hj:∀ s',o=.inl s'->q.normal (J s')) (hr:∀ v e,o=.inr v->R v e->q.ret e):WP S (.block i0 (.loop live c)) q env:=by
 refine c_block ⟨?_⟩
 intro X hX
 rw [h0]
 refine wp_forGo (q:=⟨q.normal,fun j e=>if j=i0 then q.normal e else q.exit j e,q.ret⟩) I J R (fun i s r h1 h2 h3=>(hstep i s r h1 h2 h3).out) (fun i s h=>(hlast i s h).out) hX (fun _=>.inr trivial) _ lo s0 rfl o ho ?_ hr
 intro s' hs
 exact ex_hit (hj s' hs)
theorem forA_go {f:Int->σ->Option σ}:∀ (n:Nat) (i:Int) (s o:σ),forAGo f n i s=some o->forGo (fun i s=>(f i s).map (Ctl.next (ρ:=Empty))) n i s=some (.inl o)
 | 0,_,_,_,h=>by simp only [forAGo,Option.some.injEq] at h; subst h; rfl
 | n+1,i,s,o,h=>by
  simp only [forAGo] at h
  simp only [forGo]
  cases hf:f i s with
  | none=>rw [hf] at h; cases h
  | some s'=>rw [hf] at h; simp only [Option.map]; exact forA_go n (i+1) s' o h
theorem wp_forA {f:Int->σ->Option σ} {lo b:Int} {s0 o:σ} (ho:forA f lo b s0=some o) (I:Int->σ->Env) (J:σ->Env) (h0:env.keep live=I lo s0)
  (hstep:∀ i s r,i<b->f i s=some r->(∀ k,((I i s).get k).WF)->WP S c ⟨fun e=>e.keep live=I (i+1) r,fun _ _=>False,fun _=>False⟩ (I i s))
  (hlast:∀ i s,¬ i<b->WP S c ⟨fun _=>False,fun j e=>j=i0∧e=J s,fun _=>False⟩ (I i s))
  (hj:q.normal (J o)):WP S (.block i0 (.loop live c)) q env:=by
 refine wp_forR (f:=fun i s=>(f i s).map (Ctl.next (ρ:=Empty))) (o:=.inl o) (forA_go _ _ _ _ ho) I J (fun _ _=>False) h0 ?_ hlast ?_ ?_
 ·intro i s r hi hf hw
  simp only [Option.map_eq_some_iff] at hf
  obtain ⟨s',hf,rfl⟩:=hf
  exact ⟨PC.wp_mono S c _ _ (hstep i s s' hi hf hw).out _ (fun e he=>⟨s',rfl,he⟩) (fun _ _ h=>h.elim) (fun _ h=>h.elim)⟩
 ·intro s' h; cases h; exact hj
 ·intro v; cases v
theorem wp_whGo {f:σ->Option (Ctl σ ρ)} (I:σ->Env) (J:σ->Env) (R:ρ->Env->Prop)
  (hstep:∀ s r,f s=some r->(∀ k,((I s).get k).WF)->c.wp S ⟨fun e=>∃ s',r=.next s'∧e.keep live=I s',fun j e=>j=i0∧∃ s',r=.brk s'∧e=J s',fun e=>∃ v,r=.ret v∧R v e⟩ (I s))
  {X:Env->Prop} (hX:∀ e,((∀ s,(e.get s).WF)->c.wp S { q with normal:=fun e'=>X (e'.keep live) } e)->X e) :
  ∀ (n:Nat) (s:σ) (o:σ ⊕ ρ),whGo f n s=some o->(∀ s',o=.inl s'->q.exit i0 (J s'))->(∀ v e,o=.inr v->R v e->q.ret e)->X (I s):=by
 intro n
 induction n with
 | zero=>intro s o ho; cases ho
 | succ n ih=>
  intro s o ho hj hr
  simp only [whGo] at ho
  refine hX _ fun hw=>?_
  cases hf:f s with
  | none=>rw [hf] at ho; cases ho
  | some r=>
   rw [hf] at ho
   refine PC.wp_mono S c _ _ (hstep s r hf hw) _ (fun e he=>?_) (fun j e he=>?_) (fun e he=>?_)
   ·obtain ⟨s',rfl,he⟩:=he
    show X (e.keep live)
    rw [he]
    exact ih s' o ho hj hr
   ·obtain ⟨rfl,s',rfl,rfl⟩:=he
    simp only [Option.some.injEq] at ho
    exact hj s' ho.symm
   ·obtain ⟨v,rfl,he⟩:=he
    simp only [Option.some.injEq] at ho
    exact hr v e ho.symm he
theorem wp_whR {f:σ->Option (Ctl σ ρ)} {s0:σ} {o:σ ⊕ ρ} (ho:whR f s0=some o) (I:σ->Env) (J:σ->Env) (R:ρ->Env->Prop) (h0:env.keep live=I s0)
  (hstep:∀ s r,f s=some r->(∀ k,((I s).get k).WF)->WP S c ⟨fun e=>∃ s',r=.next s'∧e.keep live=I s',fun j e=>j=i0∧∃ s',r=.brk s'∧e=J s',fun e=>∃ v,r=.ret v∧R v e⟩ (I s))
  (hj:∀ s',o=.inl s'->q.normal (J s')) (hr:∀ v e,o=.inr v->R v e->q.ret e):WP S (.block i0 (.loop live c)) q env:=by
 obtain ⟨N,hN⟩:=lim_some ho
 refine c_block ⟨?_⟩
 intro X hX
 rw [h0]
 refine wp_whGo (q:=⟨q.normal,fun j e=>if j=i0 then q.normal e else q.exit j e,q.ret⟩) I J R (fun s r h1 h2=>(hstep s r h1 h2).out) hX N s0 o (hN N (Nat.le_refl _)) ?_ hr
 intro s' hs
 exact ex_hit (hj s' hs)
end loops
end
theorem dlt {a b:Int} (h:a<b):decide (a<b)=true:=decide_eq_true h
theorem dnlt {a b:Int} (h:¬ a<b):decide (a<b)=false:=decide_eq_false h
theorem wf_tv {t:TV} (h:EV.WF (.tv t)):t.WF:=h
theorem wf_ow {t:TV} (h:EV.WF (.ow t)):t.WF:=h
theorem wf_pt {row:List TV} (h:EV.WF (.tv (.pt row))):TV.WFs row:=h
theorem wfs_get {ts:List TV} {i:Nat} {t:TV} (h:TV.WFs ts) (hi:ts[i]?=some t):t.WF:=by
 induction ts generalizing i with
 | nil=>simp at hi
 | cons x xs ih=>
  cases i with
  | zero=>simp at hi; subst hi; exact h.1
  | succ i=>exact ih h.2 (by simpa using hi)
theorem wf_len {α:Type} {n:Nat} {e:α->TV} {l:List α} (h:TV.WF (.list n (l.map e))):(l.length:Int)<=9223372036854775807:=by
 have:=h.1
 rw [List.length_map] at this
 unfold lmax at this
 omega
theorem wf_lenE {n:Nat} {es:List TV} {α:Type} {e:α->TV} {l:List α} (h:TV.WF (.list n es)) (he:es=l.map e):(l.length:Int)<=9223372036854775807:=by subst he; exact wf_len h
theorem wf_int {n:Int} (h:TV.WF (.int .i64 n)):n<=9223372036854775807:=h.2
theorem w64_eq (n:Int):w64 n=if 9223372036854775808<=n % 18446744073709551616 then n % 18446744073709551616 - 18446744073709551616 else n % 18446744073709551616:=by
 have e1:(2:Int) ^ 64=18446744073709551616:=by decide
 have e2:(2:Int) ^ (64 - 1)=9223372036854775808:=by decide
 simp only [w64,IntKind.wrap,IntKind.bits,IntKind.signed,Bool.true_and,decide_eq_true_eq,e1,e2,ge_iff_le]
theorem w64_id {n:Int} (h1:-9223372036854775808<=n) (h2:n<=9223372036854775807):w64 n=n:=by
 rw [w64_eq]; split <;> omega
theorem wsucc {i b:Int} (hi:TV.WF (.int .i64 i)) (h:i<b) (hb:b<=9223372036854775807):IntKind.i64.wrap (i+1)=i+1:=by
 have h1:(-9223372036854775808:Int)<=i:=hi.1
 exact w64_id (by omega) (by omega)
end Go.Sf
