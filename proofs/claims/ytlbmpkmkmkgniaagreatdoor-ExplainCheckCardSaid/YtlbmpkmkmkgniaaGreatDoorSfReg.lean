/- Regions: one operation with its guard, and all in the text's order. -/
import Derived.Test.YtlbmpkmkmkgniaaGreatDoorSfRegion
import Derived.Orders
set_option linter.all false
namespace Go.Sf
open Go.RowKit (Below)
def R6 (ops:Array Oper) (o:Oper) (r:PR):Bool:=
 match r.guard,o.guard with
 | none,none=>true
 | some (g,b),some (j,b')=>b==b'&&((ops[j]?).bind (·.dst))==some g
 | _,_=>false
def Ng (P:Program) (N:Nat) (ops:Array Oper) (o:Oper) (r:PR):Bool:=
 R6 ops o r&&(match o.dst,r.dst with
 | some d,some d'=>d==d'&&decide (d<N)&&!Mb r.op&&Ql P o.op r.op
 | none,none=>Mb r.op&&Ql P o.op r.op
 | _,_=>false)
section
variable {P:Program} {F0:Nat->Nat->Prop} {w0:W0} {O:AD} {a:Act} {w:World} {ops:Array Oper} {o:Oper} {r:PR} {N:Nat} {p:Option (Nat × Value)} {K:AD->Prop} {next:Act->World->Prop} {Q:Exit->Act->World->Prop}
theorem DI.skip (b:DI F0 w0 O a w) {d:Nat} (c:d<a.tmps.size):DI F0 w0 ((d,.sk)::O) (a.put (some d) undef) w:=by
 obtain ⟨G,h⟩:=b;exact ⟨_,h.quiet (Below.refl _ _) d c .sk undef (fun _=>none) (by simp) (by simp) (by simp) rfl trivial⟩
theorem QC {o:Oper} {x v:Operand} {t:TypeId} (d:o.op=.store t x v) (b:o.dst=none) {K:EV->AD->Prop} (h:NT P F0 w0 a w o K) (e:∀ env' w',K .undef env'->DI F0 w0 env' a w'->next a w'):o.wp P a w next Q:=by
 obtain ⟨w',c,env',f,g⟩:=h;unfold Oper.wp;rw [c,Oper.upon_skip,b];exact e _ _ f g
theorem kM {S:FuncId->QQ->CS->Prop} {n s:Nat} {v:AL} {d:Option Nat} {O:AD} {K:EV->AD->Prop} (h:(AJ.stb n s v).wp S O d K):(AJ.st n (.s s) v).wp S O d K:=by
 simp only [AJ.wp] at h ⊢;split at h
 ·rename_i cs b;simp only [AL.place,b];exact h
 ·exact h.elim
theorem TJ (f:DI F0 w0 O a w) (E:MX N p a) (L:∀ i v,p=some (i,v)->r.dst≠some i) (M:Ng P N ops o r=true) (h:r.wp (AT P) O K)
  (F:∀ env' R w',K env'->MX N p R->DI F0 w0 env' R w'->next R w') :
  if Region.wanted o (yielded ops a.tmps) then o.wp P a w next Q else next (a.put o.dst undef) w:=by
 simp only [Ng,zzZ] at M;obtain ⟨I,k⟩:=M;have T:r.op.wp (AT P) O r.dst (fun e env'=>K (env'.put r.dst e))->o.wp P a w next Q:=by
  intro z;obtain ⟨G,f⟩:=f;cases ho:o.dst with
  | some d=>
   cases l:r.dst with
   | none=>rw [ho,l] at k; cases k
   | some d'=>
    rw [ho,l] at k;simp only [zzZ,beq_iff_eq,zzX,Bool.not_eq_true'] at k;obtain ⟨⟨⟨rfl,H⟩,J⟩,c⟩:=k;rw [l] at z;exact cp f (E.size ▸ H) ho c J z fun e env' R w' A B k3=>F _ R w' A (E.put (fun i v X=>by rw [←l]; exact L i v X) B) k3
  | none=>
   cases l:r.dst with
   | some d'=>rw [ho,l] at k; cases k
   | none=>
    rw [ho,l] at k;rw [l] at z;simp only [zzZ] at k;obtain ⟨J,c⟩:=k;generalize X:r.op=p at z J c;cases p <;> simp only [Mb] at J <;> first | cases J | skip
    ·rename_i n x v;simp only [Ql] at c;split at c
     ·rename_i t y u e;simp only [zzZ,beq_iff_eq] at c;exact QC e ho (Yj f e c.1.1 c.1.2 c.2 z) fun env' w' A B=>F env' a w' A E B
     ·cases c
    ·rename_i n s v;simp only [Ql] at c;split at c
     ·rename_i t y u e;simp only [zzZ,beq_iff_eq] at c;rw [Operand.isTmp_eq c.1.1] at e;exact QC e ho (Yj f e (x':=.s s) (by simp [AP]) c.1.2 c.2 (kM z)) fun env' w' A B=>F env' a w' A E B
     ·cases c
    ·rename_i x v;simp only [Ql] at c;split at c
     ·rename_i t y u e;simp only [zzZ,beq_iff_eq] at c;exact QC e ho (dt f e c.1.1 c.1.2 c.2 z) fun env' w' A B=>F env' a w' A E B
     ·cases c
    ·rename_i n x q;simp only [Ql] at c;split at c
     ·rename_i t y u e;simp only [zzZ,beq_iff_eq] at c;exact QC e ho (dl f e c.1.1 c.1.2 c.2 z) fun env' w' A B=>F env' a w' A E B
     ·cases c
    ·rename_i x q;simp only [Ql] at c;split at c
     ·rename_i t y u e;simp only [zzZ,beq_iff_eq] at c;exact QC e ho (dV f e c.1.1 c.1.2 c.2 z) fun env' w' A B=>F env' a w' A E B
     ·cases c
 have U:K (O.put r.dst .sk)->next (a.put o.dst undef) w:=by
  intro Y;cases ho:o.dst with
  | some d=>
   cases l:r.dst with
   | none=>rw [ho,l] at k; cases k
   | some d'=>
    rw [ho,l] at k;simp only [zzZ,beq_iff_eq,zzX,Bool.not_eq_true'] at k;obtain ⟨⟨⟨rfl,H⟩,J⟩,c⟩:=k;rw [l] at Y;exact F _ _ _ Y (E.put (fun i v X=>by rw [←l]; exact L i v X) ⟨_,rfl⟩) (f.skip (E.size ▸ H))
  | none=>
   cases l:r.dst with
   | some d'=>rw [ho,l] at k; cases k
   | none=>rw [l] at Y; exact F _ _ _ Y E f
 unfold PR.wp at h;cases C:r.guard with
 | none=>
  rw [C] at h;cases m:o.guard with
  | none=>rw [d1 (by simp [Region.wanted,m])]; exact T h
  | some g=>rw [R6,C,m] at I; cases I
 | some gb=>
  obtain ⟨g,b⟩:=gb;rw [C] at h;cases m:o.guard with
  | none=>rw [R6,C,m] at I; cases I
  | some jb=>
   obtain ⟨j,b'⟩:=jb;rw [R6,C,m] at I;simp only [zzZ,beq_iff_eq] at I;obtain ⟨rfl,hj⟩:=I;simp only at h;split at h
   ·rename_i q S;have hv:slot a g=.bool q:=by
     obtain ⟨G,f⟩:=f;have:=A9 f S (by simp);simpa only [AY,A7] using this
    have D:g<a.tmps.size:=by
     obtain ⟨G,f⟩:=f;exact G7 f S (by simp)
    have Z:yielded ops a.tmps j=some q:=by
     have H:a.tmps[g]?=some (.bool q):=by
      rw [slot,Array.getD_eq_getD_getElem?,Array.getElem?_eq_getElem D] at hv;rw [Array.getElem?_eq_getElem D];simpa using hv
     simp [yielded,hj,H]
    have z:Region.wanted o (yielded ops a.tmps)=(q==b):=by
     simp only [Region.wanted,m,Z];cases q <;> cases b <;> rfl
    rw [z];by_cases V:q=b
    ·subst V;rw [d1 (by simp)];exact T (h.1 rfl)
    ·have W:q=!b:=by cases q <;> cases b <;> simp_all
     rw [d2 (by simpa using V)];exact U (h.2 W)
   ·rename_i S;have hv:slot a g=undef:=by
     obtain ⟨G,f⟩:=f;have:=A9 f S (by simp);simpa only [AY] using this
    have D:g<a.tmps.size:=by
     obtain ⟨G,f⟩:=f;exact G7 f S (by simp)
    have Z:yielded ops a.tmps j=none:=by
     have H:a.tmps[g]?=some undef:=by
      rw [slot,Array.getD_eq_getD_getElem?,Array.getElem?_eq_getElem D] at hv;rw [Array.getElem?_eq_getElem D];simpa using hv
     simp [yielded,hj,H,undef]
    have z:Region.wanted o (yielded ops a.tmps)=false:=by
     simp only [Region.wanted,m,Z];cases b <;> rfl
    rw [z];exact U h
   ·exact h.elim
def Qi:List PR->Bool
 | []=>true
 | r::rs=>(match r.op,r.dst,r.guard with | .frz _,none,none=>true | _,_,_=>false)&&Qi rs
theorem fY {d:List PR}:∀ {O:AD},Qi d=true->wpOps (AT P) K d O->DI F0 w0 O a w->∃ env',K env'∧DI F0 w0 env' a w:=by
 induction d with
 | nil=>intro O _ h b; exact ⟨O,h,b⟩
 | cons r d l=>
  intro O c h b;simp only [Qi,zzZ] at c;obtain ⟨e,k⟩:=c;split at e
  ·rename_i s f g i;simp only [wpOps,PR.wp,f,g,i,AJ.wp] at h;split at h
   ·rename_i cs j;obtain ⟨G,b⟩:=b;exact l k h (b.frz j)
   ·exact h.elim
  ·cases e
def Lw (P:Program) (N:Nat) (ops:Array Oper):List Oper->List PR->Bool
 | [],rs=>Qi rs
 | o::os,r::rs=>Ng P N ops o r&&Lw P N ops os rs
 | _::_,[]=>false
theorem T6 (n:∀ O a w,K O->MX N p a->DI F0 w0 O a w->Q .normal a w):∀ (os:List Oper) (c:List PR) (k:Nat),ops.toList.drop k=os->Lw P N ops os c=true->(∀ i v,p=some (i,v)->∀ r∈c,r.dst≠some i)->∀ (O:AD) (a:Act) (w:World),MX N p a->DI F0 w0 O a w ->
  wpOps (AT P) K c O->Go.wpOps P ops Q (List.range' k os.length) a w
 | [],c,k,_,b,_,O,a,w,j,m,h=>by
  obtain ⟨env',A,B⟩:=fY b h m;exact n env' a w A j B
 | o::os,[],k,_,b,_,_,_,_,_,_,_=>by simp [Lw] at b
 | o::os,r::c,k,q,b,d,O,a,w,j,m,h=>by
  simp only [Lw,zzZ] at b;have z:ops[k]?=some o:=by
   rw [←Array.getElem?_toList];have:=congrArg (fun l=>l[0]?) q;simpa [List.getElem?_drop] using this
  have g:ops.toList.drop (k+1)=os:=by
   have:=congrArg List.tail q;simpa [List.tail_drop] using this
  simp only [d6,List.range'_succ];rw [Go.wpOps_cons];unfold Go.wpOp;rw [z];simp only [];have:=TJ (Q:=Q) (next:=Go.wpOps P ops Q (List.range' (k+1) os.length)) m j (fun i v e=>d i v e r (by simp)) b.1 h fun env' s w' t u x=>T6 n os c (k+1) g b.2 (fun i v e r y=>d i v e r (by simp [y])) env' s w' u x t;split
  ·rename_i f; rw [d1 f] at this; exact .inl this
  ·rename_i f; rw [d2 f] at this; exact this
theorem XE {id:Nat} {b:List PR} (c:Lw P N ops ops.toList b=true) (d:∀ i v,p=some (i,v)->∀ r∈b,r.dst≠some i) (e:MX N p a) (f:DI F0 w0 O a w) (h:wpOps (AT P) K b O)
  (g:∀ O a w,K O->MX N p a->DI F0 w0 O a w->Q .normal a w):(Code.region id ops false).wp P Q a w:=by
 refine Go.wp_region ?_;rw [List.range_eq_range',←Array.length_toList];exact T6 g ops.toList b 0 rfl c d O a w e f h
end
end Go.Sf
