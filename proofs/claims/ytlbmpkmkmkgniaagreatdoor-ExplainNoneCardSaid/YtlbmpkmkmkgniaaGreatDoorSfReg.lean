/- Regions: one operation with its guard, and all in the text's order. -/
import Derived.Test.YtlbmpkmkmkgniaaGreatDoorSfRegion
import Derived.Orders
namespace Go.Sf
open Go.RowKit (Below)
def Py (ops:Array Oper) (o:Oper) (r:PR):Bool:=
 match r.guard,o.guard with
 | none,none=>true
 | some (g,b),some (j,b')=>b==b'&&((ops[j]?).bind (·.dst))==some g
 | _,_=>false
def L3 (P:Program) (N:Nat) (ops:Array Oper) (o:Oper) (r:PR):Bool:=
 Py ops o r&&(match o.dst,r.dst with
 | some d,some d'=>d==d'&&decide (d<N)&&!K4 r.op&&Oj P o.op r.op
 | none,none=>K4 r.op&&Oj P o.op r.op
 | _,_=>false)
section
variable {P:Program} {F0:Nat->Nat->Prop} {w0:W0} {env:AC} {a:Act} {w:World} {ops:Array Oper} {o:Oper} {r:PR} {N:Nat} {p:Option (Nat × Value)} {K:AC->Prop} {next:Act->World->Prop} {Q:Exit->Act->World->Prop}
theorem C2.skip (hI:C2 F0 w0 env a w) {d:Nat} (hd:d<a.tmps.size):C2 F0 w0 ((d,.sk)::env) (a.put (some d) undef) w:=by
 obtain ⟨G,h⟩:=hI
 exact ⟨_,h.quiet (Below.refl _ _) d hd .sk undef (fun _=>none) (by simp) (by simp) (by simp) rfl trivial⟩
theorem OF {o:Oper} {x v:Operand} {t:TypeId} (hop:o.op=.store t x v) (hdst:o.dst=none) {K:EV->AC->Prop} (h:Lr P F0 w0 a w o K) (hn:∀ env' w',K .undef env'->C2 F0 w0 env' a w'->next a w'):o.wp P a w next Q:=by
 obtain ⟨w',hrun,env',hK,hI⟩:=h
 unfold Oper.wp
 rw [hrun,Oper.upon_skip,hdst]
 exact hn _ _ hK hI
theorem fg {S:FuncId->List TV->CH->Prop} {n s:Nat} {v:AJ} {d:Option Nat} {env:AC} {K:EV->AC->Prop} (h:(AH.stb n s v).wp S env d K):(AH.st n (.s s) v).wp S env d K:=by
 simp only [AH.wp] at h ⊢
 split at h
 ·rename_i cs hs
  simp only [AJ.place,hs]
  exact h
 ·exact h.elim
theorem Qj (hI:C2 F0 w0 env a w) (hN:K0 N p a) (hpd:∀ i v,p=some (i,v)->r.dst≠some i) (hok:L3 P N ops o r=true) (h:r.wp (AR P) env K)
  (hn:∀ env' a' w',K env'->K0 N p a'->C2 F0 w0 env' a' w'->next a' w') :
  if Region.wanted o (yielded ops a.tmps) then o.wp P a w next Q else next (a.put o.dst undef) w:=by
 simp only [L3,zzZ] at hok
 obtain ⟨hg,hd⟩:=hok
 have run:r.op.wp (AR P) env r.dst (fun e env'=>K (env'.put r.dst e))->o.wp P a w next Q:=by
  intro hw
  obtain ⟨G,hI⟩:=hI
  cases ho:o.dst with
  | some d=>
   cases hr:r.dst with
   | none=>rw [ho,hr] at hd; cases hd
   | some d'=>
    rw [ho,hr] at hd
    simp only [zzZ,beq_iff_eq,zzX,Bool.not_eq_true'] at hd
    obtain ⟨⟨⟨rfl,h1⟩,h2⟩,h3⟩:=hd
    rw [hr] at hw
    exact Zb hI (hN.size ▸ h1) ho h3 h2 hw fun e env' a' w' k1 k2 k3=>hn _ a' w' k1 (hN.put (fun i v hp=>by rw [←hr]; exact hpd i v hp) k2) k3
  | none=>
   cases hr:r.dst with
   | some d'=>rw [ho,hr] at hd; cases hd
   | none=>
    rw [ho,hr] at hd
    rw [hr] at hw
    simp only [zzZ] at hd
    obtain ⟨h2,h3⟩:=hd
    generalize hp:r.op=p at hw h2 h3
    cases p <;> simp only [K4] at h2 <;> first | cases h2 | skip
    ·rename_i n x v
     simp only [Oj] at h3
     split at h3
     ·rename_i t y u e
      simp only [zzZ,beq_iff_eq] at h3
      exact OF e ho (WB hI e h3.1.1 h3.1.2 h3.2 hw) fun env' w' k1 k2=>hn env' a w' k1 hN k2
     ·cases h3
    ·rename_i n s v
     simp only [Oj] at h3
     split at h3
     ·rename_i t y u e
      simp only [zzZ,beq_iff_eq] at h3
      rw [Operand.isTmp_eq h3.1.1] at e
      exact OF e ho (WB hI e (x':=.s s) (by simp [AP]) h3.1.2 h3.2 (fg hw)) fun env' w' k1 k2=>hn env' a w' k1 hN k2
     ·cases h3
    ·rename_i x v
     simp only [Oj] at h3
     split at h3
     ·rename_i t y u e
      simp only [zzZ,beq_iff_eq] at h3
      exact OF e ho (aM hI e h3.1.1 h3.1.2 h3.2 hw) fun env' w' k1 k2=>hn env' a w' k1 hN k2
     ·cases h3
    ·rename_i n x q
     simp only [Oj] at h3
     split at h3
     ·rename_i t y u e
      simp only [zzZ,beq_iff_eq] at h3
      exact OF e ho (aI hI e h3.1.1 h3.1.2 h3.2 hw) fun env' w' k1 k2=>hn env' a w' k1 hN k2
     ·cases h3
    ·rename_i x q
     simp only [Oj] at h3
     split at h3
     ·rename_i t y u e
      simp only [zzZ,beq_iff_eq] at h3
      exact OF e ho (Z3 hI e h3.1.1 h3.1.2 h3.2 hw) fun env' w' k1 k2=>hn env' a w' k1 hN k2
     ·cases h3
 have skp:K (env.put r.dst .sk)->next (a.put o.dst undef) w:=by
  intro hk
  cases ho:o.dst with
  | some d=>
   cases hr:r.dst with
   | none=>rw [ho,hr] at hd; cases hd
   | some d'=>
    rw [ho,hr] at hd
    simp only [zzZ,beq_iff_eq,zzX,Bool.not_eq_true'] at hd
    obtain ⟨⟨⟨rfl,h1⟩,h2⟩,h3⟩:=hd
    rw [hr] at hk
    exact hn _ _ _ hk (hN.put (fun i v hp=>by rw [←hr]; exact hpd i v hp) ⟨_,rfl⟩) (hI.skip (hN.size ▸ h1))
  | none=>
   cases hr:r.dst with
   | some d'=>rw [ho,hr] at hd; cases hd
   | none=>rw [hr] at hk; exact hn _ _ _ hk hN hI
 unfold PR.wp at h
 cases hrg:r.guard with
 | none=>
  rw [hrg] at h
  cases hog:o.guard with
  | none=>rw [if_pos (by simp [Region.wanted,hog])]; exact run h
  | some g=>rw [Py,hrg,hog] at hg; cases hg
 | some gb=>
  obtain ⟨g,b⟩:=gb
  rw [hrg] at h
  cases hog:o.guard with
  | none=>rw [Py,hrg,hog] at hg; cases hg
  | some jb=>
   obtain ⟨j,b'⟩:=jb
   rw [Py,hrg,hog] at hg
   simp only [zzZ,beq_iff_eq] at hg
   obtain ⟨rfl,hj⟩:=hg
   simp only at h
   split at h
   ·rename_i q hq
    have hv:slot a g=.bool q:=by
     obtain ⟨G,hI⟩:=hI
     have:=A4 hI hq (by simp)
     simpa only [AS,A1] using this
    have hlt:g<a.tmps.size:=by
     obtain ⟨G,hI⟩:=hI
     exact GA hI hq (by simp)
    have hy:yielded ops a.tmps j=some q:=by
     have h1:a.tmps[g]?=some (.bool q):=by
      rw [slot,Array.getD_eq_getD_getElem?,Array.getElem?_eq_getElem hlt] at hv
      rw [Array.getElem?_eq_getElem hlt]
      simpa using hv
     simp [yielded,hj,h1]
    have hw:Region.wanted o (yielded ops a.tmps)=(q==b):=by
     simp only [Region.wanted,hog,hy]
     cases q <;> cases b <;> rfl
    rw [hw]
    by_cases hqb:q=b
    ·subst hqb
     rw [if_pos (by simp)]
     exact run (h.1 rfl)
    ·have hqb':q=!b:=by cases q <;> cases b <;> simp_all
     rw [if_neg (by simpa using hqb)]
     exact skp (h.2 hqb')
   ·rename_i hq
    have hv:slot a g=undef:=by
     obtain ⟨G,hI⟩:=hI
     have:=A4 hI hq (by simp)
     simpa only [AS] using this
    have hlt:g<a.tmps.size:=by
     obtain ⟨G,hI⟩:=hI
     exact GA hI hq (by simp)
    have hy:yielded ops a.tmps j=none:=by
     have h1:a.tmps[g]?=some undef:=by
      rw [slot,Array.getD_eq_getD_getElem?,Array.getElem?_eq_getElem hlt] at hv
      rw [Array.getElem?_eq_getElem hlt]
      simpa using hv
     simp [yielded,hj,h1,undef]
    have hw:Region.wanted o (yielded ops a.tmps)=false:=by
     simp only [Region.wanted,hog,hy]
     cases b <;> rfl
    rw [hw]
    exact skp h
   ·exact h.elim
def Og:List PR->Bool
 | []=>true
 | r::rs=>(match r.op,r.dst,r.guard with | .frz _,none,none=>true | _,_,_=>false)&&Og rs
theorem bv {rs:List PR}:∀ {env:AC},Og rs=true->wpOps (AR P) K rs env->C2 F0 w0 env a w->∃ env',K env'∧C2 F0 w0 env' a w:=by
 induction rs with
 | nil=>intro env _ h hI; exact ⟨env,h,hI⟩
 | cons r rs ih=>
  intro env hok h hI
  simp only [Og,zzZ] at hok
  obtain ⟨h1,h2⟩:=hok
  split at h1
  ·rename_i s e1 e2 e3
   simp only [wpOps,PR.wp,e1,e2,e3,AH.wp] at h
   split at h
   ·rename_i cs hs
    obtain ⟨G,hI⟩:=hI
    exact ih h2 h (hI.frz hs)
   ·exact h.elim
  ·cases h1
def KZ (P:Program) (N:Nat) (ops:Array Oper):List Oper->List PR->Bool
 | [],rs=>Og rs
 | o::os,r::rs=>L3 P N ops o r&&KZ P N ops os rs
 | _::_,[]=>false
theorem Rk (hQ:∀ env a w,K env->K0 N p a->C2 F0 w0 env a w->Q .normal a w):∀ (os:List Oper) (rs:List PR) (k:Nat),ops.toList.drop k=os->KZ P N ops os rs=true->(∀ i v,p=some (i,v)->∀ r∈rs,r.dst≠some i)->∀ (env:AC) (a:Act) (w:World),K0 N p a->C2 F0 w0 env a w ->
  wpOps (AR P) K rs env->Go.wpOps P ops Q (List.range' k os.length) a w
 | [],rs,k,_,hok,_,env,a,w,hN,hI,h=>by
  obtain ⟨env',h1,h2⟩:=bv hok h hI
  exact hQ env' a w h1 hN h2
 | o::os,[],k,_,hok,_,_,_,_,_,_,_=>by simp [KZ] at hok
 | o::os,r::rs,k,hd,hok,hpd,env,a,w,hN,hI,h=>by
  simp only [KZ,zzZ] at hok
  have hk:ops[k]?=some o:=by
   rw [←Array.getElem?_toList]
   have:=congrArg (fun l=>l[0]?) hd
   simpa [List.getElem?_drop] using this
  have hd':ops.toList.drop (k+1)=os:=by
   have:=congrArg List.tail hd
   simpa [List.tail_drop] using this
  simp only [List.length_cons,List.range'_succ]
  rw [Go.wpOps_cons]
  unfold Go.wpOp
  rw [hk]
  simp only []
  have:=Qj (Q:=Q) (next:=Go.wpOps P ops Q (List.range' (k+1) os.length)) hI hN (fun i v hp=>hpd i v hp r (by simp)) hok.1 h fun env' a' w' k1 k2 k3=>Rk hQ os rs (k+1) hd' hok.2 (fun i v hp r hr=>hpd i v hp r (by simp [hr])) env' a' w' k2 k3 k1
  split
  ·rename_i hw; rw [if_pos hw] at this; exact .inl this
  ·rename_i hw; rw [if_neg hw] at this; exact this
theorem Un {id:Nat} {rs:List PR} (hok:KZ P N ops ops.toList rs=true) (hpd:∀ i v,p=some (i,v)->∀ r∈rs,r.dst≠some i) (hN:K0 N p a) (hI:C2 F0 w0 env a w) (h:wpOps (AR P) K rs env)
  (hQ:∀ env a w,K env->K0 N p a->C2 F0 w0 env a w->Q .normal a w):(Code.region id ops false).wp P Q a w:=by
 refine Go.wp_region ?_
 rw [List.range_eq_range',←Array.length_toList]
 exact Rk hQ ops.toList rs 0 rfl hok hpd env a w hN hI h
end
end Go.Sf
