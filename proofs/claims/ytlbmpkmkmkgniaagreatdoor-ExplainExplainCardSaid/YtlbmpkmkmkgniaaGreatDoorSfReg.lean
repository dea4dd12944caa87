/- Regions: one operation with its guard, and all in the text's order. -/
import Derived.Test.YtlbmpkmkmkgniaaGreatDoorSfRegion
import Derived.Orders
set_option linter.all false
namespace Go.Sf
open Go.RowKit (Below)
def SU (ops:Array Oper) (o:Oper) (r:PR):Bool:=
 match r.guard,o.guard with
 | none,none=>true
 | some (g,b),some (j,b')=>b==b'&&((ops[j]?).bind (·.dst))==some g
 | _,_=>false
def Nd (P:Program) (N:Nat) (ops:Array Oper) (o:Oper) (r:PR):Bool:=
 SU ops o r&&(match o.dst,r.dst with
 | some d,some d'=>d==d'&&decide (d<N)&&!MY r.op&&Qe P o.op r.op
 | none,none=>MY r.op&&Qe P o.op r.op
 | _,_=>false)
section
variable {P:Program} {F0:Nat->Nat->Prop} {w0:W0} {O:AD} {a:Act} {w:World} {ops:Array Oper} {o:Oper} {r:PR} {N:Nat} {p:Option (Nat × Value)} {K:AD->Prop} {next:Act->World->Prop} {Q:Exit->Act->World->Prop}
theorem DJ.skip (b:DJ F0 w0 O a w) {d:Nat} (c:d<a.tmps.size):DJ F0 w0 ((d,.sk)::O) (a.put (some d) undef) w:=by
 obtain ⟨G,h⟩:=b;exact ⟨_,h.quiet (Below.refl _ _) d c .sk undef (fun _=>none) (by simp) (by simp) (by simp) rfl trivial⟩
theorem P1 {o:Oper} {x v:Operand} {t:TypeId} (d:o.op=.store t x v) (b:o.dst=none) {K:EV->AD->Prop} (h:NP P F0 w0 a w o K) (e:∀ env' w',K .undef env'->DJ F0 w0 env' a w'->next a w'):o.wp P a w next Q:=by
 obtain ⟨w',c,env',f,g⟩:=h;unfold Oper.wp;rw [c,Oper.upon_skip,b];exact e _ _ f g
theorem kF {S:FuncId->QQ->CS->Prop} {n s:Nat} {v:AL} {d:Option Nat} {O:AD} {K:EV->AD->Prop} (h:(AJ.stb n s v).wp S O d K):(AJ.st n (.s s) v).wp S O d K:=by
 simp only [AJ.wp] at h ⊢;split at h
 ·rename_i cs b;simp only [AL.place,b];exact h
 ·exact h.elim
theorem TD (f:DJ F0 w0 O a w) (E:MU N p a) (L:∀ i v,p=some (i,v)->r.dst≠some i) (M:Nd P N ops o r=true) (h:r.wp (AU P) O K)
  (F:∀ env' R w',K env'->MU N p R->DJ F0 w0 env' R w'->next R w') :
  if Region.wanted o (yielded ops a.tmps) then o.wp P a w next Q else next (a.put o.dst undef) w:=by
 simp only [Nd,zzZ] at M;obtain ⟨I,k⟩:=M;have T:r.op.wp (AU P) O r.dst (fun e env'=>K (env'.put r.dst e))->o.wp P a w next Q:=by
  intro z;obtain ⟨G,f⟩:=f;cases ho:o.dst with
  | some d=>
   cases l:r.dst with
   | none=>rw [ho,l] at k; cases k
   | some d'=>
    rw [ho,l] at k;simp only [zzZ,beq_iff_eq,zzX,Bool.not_eq_true'] at k;obtain ⟨⟨⟨rfl,H⟩,J⟩,c⟩:=k;rw [l] at z;exact cj f (E.size ▸ H) ho c J z fun e env' R w' A B k3=>F _ R w' A (E.put (fun i v X=>by rw [←l]; exact L i v X) B) k3
  | none=>
   cases l:r.dst with
   | some d'=>rw [ho,l] at k; cases k
   | none=>
    rw [ho,l] at k;rw [l] at z;simp only [zzZ] at k;obtain ⟨J,c⟩:=k;generalize X:r.op=p at z J c;cases p <;> simp only [MY] at J <;> first | cases J | skip
    ·rename_i n x v;simp only [Qe] at c;split at c
     ·rename_i t y u e;simp only [zzZ,beq_iff_eq] at c;exact P1 e ho (Yg f e c.1.1 c.1.2 c.2 z) fun env' w' A B=>F env' a w' A E B
     ·cases c
    ·rename_i n s v;simp only [Qe] at c;split at c
     ·rename_i t y u e;simp only [zzZ,beq_iff_eq] at c;rw [Operand.isTmp_eq c.1.1] at e;exact P1 e ho (Yg f e (x':=.s s) (by simp [AR]) c.1.2 c.2 (kF z)) fun env' w' A B=>F env' a w' A E B
     ·cases c
    ·rename_i x v;simp only [Qe] at c;split at c
     ·rename_i t y u e;simp only [zzZ,beq_iff_eq] at c;exact P1 e ho (dj f e c.1.1 c.1.2 c.2 z) fun env' w' A B=>F env' a w' A E B
     ·cases c
    ·rename_i n x q;simp only [Qe] at c;split at c
     ·rename_i t y u e;simp only [zzZ,beq_iff_eq] at c;exact P1 e ho (df f e c.1.1 c.1.2 c.2 z) fun env' w' A B=>F env' a w' A E B
     ·cases c
    ·rename_i x q;simp only [Qe] at c;split at c
     ·rename_i t y u e;simp only [zzZ,beq_iff_eq] at c;exact P1 e ho (dP f e c.1.1 c.1.2 c.2 z) fun env' w' A B=>F env' a w' A E B
     ·cases c
 have U:K (O.put r.dst .sk)->next (a.put o.dst undef) w:=by
  intro Y;cases ho:o.dst with
  | some d=>
   cases l:r.dst with
   | none=>rw [ho,l] at k; cases k
   | some d'=>
    rw [ho,l] at k;simp only [zzZ,beq_iff_eq,zzX,Bool.not_eq_true'] at k;obtain ⟨⟨⟨rfl,H⟩,J⟩,c⟩:=k;rw [l] at Y;exact F _ _ _ Y (E.put (fun i v X=>by rw [←l]; exact L i v X) ⟨_,rfl⟩) (f.skip (E.size ▸ H))
  | none=>
   cases l:r.dst with
   | some d'=>rw [ho,l] at k; cases k
   | none=>rw [l] at Y; exact F _ _ _ Y E f
 unfold PR.wp at h;cases C:r.guard with
 | none=>
  rw [C] at h;cases m:o.guard with
  | none=>rw [d1 (by simp [Region.wanted,m])]; exact T h
  | some g=>rw [SU,C,m] at I; cases I
 | some gb=>
  obtain ⟨g,b⟩:=gb;rw [C] at h;cases m:o.guard with
  | none=>rw [SU,C,m] at I; cases I
  | some jb=>
   obtain ⟨j,b'⟩:=jb;rw [SU,C,m] at I;simp only [zzZ,beq_iff_eq] at I;obtain ⟨rfl,hj⟩:=I;simp only at h;split at h
   ·rename_i q S;have hv:slot a g=.bool q:=by
     obtain ⟨G,f⟩:=f;have:=A9 f S (by simp);simpa only [AX,A7] using this
    have D:g<a.tmps.size:=by
     obtain ⟨G,f⟩:=f;exact G9 f S (by simp)
    have Z:yielded ops a.tmps j=some q:=by
     have H:a.tmps[g]?=some (.bool q):=by
      rw [slot,Array.getD_eq_getD_getElem?,Array.getElem?_eq_getElem D] at hv;rw [Array.getElem?_eq_getElem D];simpa using hv
     simp [yielded,hj,H]
    have z:Region.wanted o (yielded ops a.tmps)=(q==b):=by
     simp only [Region.wanted,m,Z];cases q <;> cases b <;> rfl
    rw [z];by_cases V:q=b
    ·subst V;rw [d1 (by simp)];exact T (h.1 rfl)
    ·have W:q=!b:=by cases q <;> cases b <;> simp_all
     rw [d2 (by simpa using V)];exact U (h.2 W)
   ·rename_i S;have hv:slot a g=undef:=by
     obtain ⟨G,f⟩:=f;have:=A9 f S (by simp);simpa only [AX] using this
    have D:g<a.tmps.size:=by
     obtain ⟨G,f⟩:=f;exact G9 f S (by simp)
    have Z:yielded ops a.tmps j=none:=by
     have H:a.tmps[g]?=some undef:=by
      rw [slot,Array.getD_eq_getD_getElem?,Array.getElem?_eq_getElem D] at hv;rw [Array.getElem?_eq_getElem D];simpa using hv
     simp [yielded,hj,H,undef]
    have z:Region.wanted o (yielded ops a.tmps)=false:=by
     simp only [Region.wanted,m,Z];cases b <;> rfl
    rw [z];exact U h
   ·exact h.elim
def Qb:List PR->Bool
 | []=>true
 | r::rs=>(match r.op,r.dst,r.guard with | .frz _,none,none=>true | _,_,_=>false)&&Qb rs
variable {rs:List PR}
theorem fS:∀ {O:AD},Qb rs=true->wpOps (AU P) K rs O->DJ F0 w0 O a w->∃ env',K env'∧DJ F0 w0 env' a w:=by
 induction rs with
 | nil=>intro O _ h b; exact ⟨O,h,b⟩
 | cons r rs k=>
  intro O c h b;simp only [Qb,zzZ] at c;obtain ⟨d,j⟩:=c;split at d
  ·rename_i s e f g;simp only [wpOps,PR.wp,e,f,g,AJ.wp] at h;split at h
   ·rename_i cs i;obtain ⟨G,b⟩:=b;exact k j h (b.frz i)
   ·exact h.elim
  ·cases d
def Lx (P:Program) (N:Nat) (ops:Array Oper):List Oper->List PR->Bool
 | [],rs=>Qb rs
 | o::os,r::rs=>Nd P N ops o r&&Lx P N ops os rs
 | _::_,[]=>false
theorem Tw (m:∀ O a w,K O->MU N p a->DJ F0 w0 O a w->Q .normal a w):∀ (os:List Oper) (rs:List PR) (k:Nat),ops.toList.drop k=os->Lx P N ops os rs=true->(∀ i v,p=some (i,v)->∀ r∈rs,r.dst≠some i)->∀ (O:AD) (a:Act) (w:World),MU N p a->DJ F0 w0 O a w ->
  wpOps (AU P) K rs O->Go.wpOps P ops Q (List.range' k os.length) a w
 | [],rs,k,_,b,_,O,a,w,g,j,h=>by
  obtain ⟨env',z,A⟩:=fS b h j;exact m env' a w z g A
 | o::os,[],k,_,b,_,_,_,_,_,_,_=>by simp [Lx] at b
 | o::os,r::rs,k,n,b,c,O,a,w,g,j,h=>by
  simp only [Lx,zzZ] at b;have y:ops[k]?=some o:=by
   rw [←Array.getElem?_toList];have:=congrArg (fun l=>l[0]?) n;simpa [List.getElem?_drop] using this
  have f:ops.toList.drop (k+1)=os:=by
   have:=congrArg List.tail n;simpa [List.tail_drop] using this
  simp only [d6,List.range'_succ];rw [Go.wpOps_cons];unfold Go.wpOp;rw [y];simp only [];have:=TD (Q:=Q) (next:=Go.wpOps P ops Q (List.range' (k+1) os.length)) j g (fun i v d=>c i v d r (by simp)) b.1 h fun env' q w' s t u=>Tw m os rs (k+1) f b.2 (fun i v d r x=>c i v d r (by simp [x])) env' q w' t u s;split
  ·rename_i e; rw [d1 e] at this; exact .inl this
  ·rename_i e; rw [d2 e] at this; exact this
theorem W8 {id:Nat} (b:Lx P N ops ops.toList rs=true) (c:∀ i v,p=some (i,v)->∀ r∈rs,r.dst≠some i) (d:MU N p a) (e:DJ F0 w0 O a w) (h:wpOps (AU P) K rs O)
  (f:∀ O a w,K O->MU N p a->DJ F0 w0 O a w->Q .normal a w):(Code.region id ops false).wp P Q a w:=by
 refine Go.wp_region ?_;rw [List.range_eq_range',←Array.length_toList];exact Tw f ops.toList rs 0 rfl b c O a w d e h
end
end Go.Sf
