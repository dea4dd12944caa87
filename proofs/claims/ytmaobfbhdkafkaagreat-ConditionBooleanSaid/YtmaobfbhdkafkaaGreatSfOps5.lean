/- Steps: slices of slices and strings, aggregates, new blocks. -/
import Derived.Test.YtmaobfbhdkafkaaGreatSfOps4
namespace Go.Sf
open Go.RowKit (Below)
def Lu:Option Operand->Option AE->Bool
 | none,none=>true
 | some x,some y=>AK x y
 | _,_=>false
section
variable {P:Program} {S:FuncId->List TV->B5->Prop} {F0:Nat->Nat->Prop} {w0:W0} {env:AC} {a:Act} {w:World} {G:C0} {d:Nat} {o:Oper} {K:EV->AC->Prop}
theorem Qw (hI:AQ F0 w0 env a w G) {x:Option Operand} {y:Option AE} (hok:Lu x y=true) {k:IntKind} {q l:Int} (hv:F1 env q y=some (.int k l)) :
  (x=none∧l=q)∨∃ v k',x=some v∧a.eval v=.int k' l:=by
 cases y with
 | none=>
  cases x <;> simp [Lu] at hok
  simp [F1] at hv
  exact .inl ⟨rfl,hv.2.symm⟩
 | some y=>
  cases x <;> simp [Lu] at hok
  rename_i v
  have:=(A9 hI hok (t:=.int k l) hv).1
  simp only [A1] at this
  exact .inr ⟨v,k,rfl,this⟩
theorem Py {isS:Bool} {len cap:Nat} {lo hi:Option Value} {l h:Int} (h0:0<=l) (h1:l<=h) (h2:h<=len) (hc:len<=cap)
  (hlo:(lo=none∧l=0)∨∃ k,lo=some (.int k l)) (hhi:(hi=none∧h=len)∨∃ k,hi=some (.int k h)) :
  (Instr.sliceBounds isS len cap lo hi none).run P w=.ok (l.toNat,h.toNat,cap) w:=by
 rcases hlo with ⟨rfl,rfl⟩ | ⟨k,rfl⟩ <;> rcases hhi with ⟨rfl,rfl⟩ | ⟨k',rfl⟩
 ·simp [Instr.sliceBounds]
 ·simp [Instr.sliceBounds,run_sliceBound (P:=P) w k' h cap _ (by omega) (by omega)]
 ·simp [Instr.sliceBounds,run_sliceBound (P:=P) w k l len _ (by omega) (by omega)]
 ·simp [Instr.sliceBounds,run_sliceBound (P:=P) w k' h cap _ (by omega) (by omega),run_sliceBound (P:=P) w k l h.toNat _ (by omega) (by omega)]
theorem ap (hI:AQ F0 w0 env a w G) (hd:d<a.tmps.size) {x:Operand} {y:AE} {lo hi:Option Operand} {lo' hi':Option AE} {t:TypeId} {n:Nat} (hop:o.op=.slice t x lo hi none) (hok:AK x y=true) (hl:Lu lo lo'=true) (hh:Lu hi hi'=true)
  (ht:KV P t=some n) (h:(AD.slc n y lo' hi').wp S env (some d) K):BG P F0 w0 a w o d K:=by
 simp only [AD.wp] at h
 split at h
 ·rename_i m es hv
  split at h
  ·rename_i k1 l k2 hb e1 e2
   obtain ⟨⟨hm,h0,h1⟩,h2,hK⟩:=h
   subst hm
   have h3:=A9 hI hok hv
   simp only [A1] at h3
   obtain ⟨⟨ad,cap,h4,h5,h6,h7⟩,h8⟩:=h3
   have b1:=Qw hI hl e1
   have b2:=Qw hI hh e2
   unfold KV at ht
   split at ht
   ·rename_i e hu
    have hrun:=Py (P:=P) (w:=w) (isS:=true) (lo:=lo.map a.eval) (hi:=hi.map a.eval) h0 h1 h2 h5
     (by rcases b1 with ⟨rfl,rfl⟩ | ⟨v,k',rfl,hv⟩ <;> simp [*]) (by rcases b2 with ⟨rfl,rfl⟩ | ⟨v,k',rfl,hv⟩ <;> simp [*])
    refine C6 hI hd (v:=.slice (if cap=l.toNat then ad else ad.map (·.add (l.toNat*m))) (hb.toNat - l.toNat) (cap - l.toNat)) (t:=.list m ((es.take hb.toNat).drop l.toNat)) ?_ ?_ ?_ hK
    ·simp [execOp,hop,Instr.sliceAt,Instr.slice,run_underlying hu,h4,hrun,DD ht]
    ·simp only [A1]
     refine ⟨if cap=l.toNat then ad else ad.map (·.add (l.toNat*m)),cap - l.toNat,by simp; omega,by simp; omega,fun ha=>?_,fun ad' had=>?_⟩
     ·have hes:es=[]∨l.toNat=hb.toNat:=by
       split at ha
       ·exact .inl (h6 ha)
       ·cases ad with
        | none=>exact .inl (h6 rfl)
        | some ad=>simp at ha
      rcases hes with rfl | hes
      ·simp
      ·apply List.eq_nil_of_length_eq_zero; simp; omega
     ·by_cases hc:cap=l.toNat
      ·have hnil:(es.take hb.toNat).drop l.toNat=[]:=by apply List.eq_nil_of_length_eq_zero; simp; omega
       rw [if_pos hc] at had
       rw [hnil]
       exact ⟨.inl rfl,trivial⟩
      ·rw [if_neg hc] at had
       cases ad with
       | none=>simp at had
       | some ad=>
        simp only [Option.map_some,zzY] at had
        subst had
        obtain ⟨h9,h10⟩:=h7 ad rfl
        obtain ⟨b,off,sp⟩:=ad
        simp only at h9 h10
        by_cases hes:es=[]
        ·have hnil:(es.take hb.toNat).drop l.toNat=[]:=by rw [hes]; simp
         rw [hnil]
         exact ⟨.inl rfl,trivial⟩
        have h9:sp=none:=h9.resolve_left hes
        subst h9
        rw [Addr.add_lit]
        refine ⟨.inr rfl,?_⟩
        rw [OH] at h10 ⊢
        intro i e' he
        rw [List.getElem?_drop,List.getElem?_take] at he
        split at he
        ·have:=h10 (l.toNat+i) e' he
         rwa [show off+l.toNat*m+i*m=off+(l.toNat+i)*m from by rw [Nat.add_mul]; omega]
        ·cases he
    ·simp only [TV.WF] at h8 ⊢
     refine ⟨by simp; omega,?_⟩
     have h9:=B4.1 h8.2
     exact B4.2 fun t ht=>h9 t (List.mem_of_mem_take (List.mem_of_mem_drop ht))
   ·cases ht
  ·exact h.elim
 ·exact h.elim
theorem ZD (hI:AQ F0 w0 env a w G) (hd:d<a.tmps.size) {x:Operand} {y:AE} {lo hi:Option Operand} {lo' hi':Option AE} {t:TypeId} (hop:o.op=.slice t x lo hi none) (hok:AK x y=true) (hl:Lu lo lo'=true) (hh:Lu hi hi'=true)
  (ht:P.underlying t=some .string) (h:(AD.sslc y lo' hi').wp S env (some d) K):BG P F0 w0 a w o d K:=by
 simp only [AD.wp] at h
 split at h
 ·rename_i s hv
  split at h
  ·rename_i k1 l k2 hb e1 e2
   obtain ⟨h0,h1,h2,hK⟩:=h
   have h3:=A9 hI hok hv
   simp only [A1] at h3
   have b1:=Qw hI hl e1
   have b2:=Qw hI hh e2
   have hrun:=Py (P:=P) (w:=w) (isS:=false) (lo:=lo.map a.eval) (hi:=hi.map a.eval) h0 h1 h2 (Nat.le_refl _)
     (by rcases b1 with ⟨rfl,rfl⟩ | ⟨v,k',rfl,hv⟩ <;> simp [*]) (by rcases b2 with ⟨rfl,rfl⟩ | ⟨v,k',rfl,hv⟩ <;> simp [*])
   refine C6 hI hd (v:=.string (s.extract l.toNat hb.toNat)) (t:=.str (s.extract l.toNat hb.toNat)) ?_ rfl ?_ hK
   ·simp [execOp,hop,Instr.sliceAt,Instr.slice,run_underlying ht,h3.1,hrun]
   ·have:=h3.2
    simp only [TV.WF,ByteArray.size_extract] at this ⊢
    omega
  ·exact h.elim
 ·exact h.elim
theorem WZ (hI:AQ F0 w0 env a w G) (hd:d<a.tmps.size) {x x':Operand} {y y':AE} {mx:Bool} {ts:Array TypeId}
  (hop:o.op=.call { callee:=.builtin (match mx with | true=>.max | false=>.min),args:=#[x,x'],argTypes:=ts })
  (h1:AK x y=true) (h2:AK x' y'=true) (h:(AD.mm mx y y').wp S env (some d) K):BG P F0 w0 a w o d K:=by
 simp only [AD.wp] at h
 split at h
 ·rename_i k p k' q hx hy
  obtain ⟨rfl,hK⟩:=h
  have v1:=A9 hI h1 hx
  have v2:=A9 hI h2 hy
  simp only [A1,TV.WF] at v1 v2
  refine C6 hI hd (v:=.int k (if mx then max p q else min p q)) (t:=.int k (if mx then max p q else min p q)) ?_ rfl ?_ hK
  ·cases mx
   ·simp [execOp,hop,resolve,invoke,builtin,v1.1,v2.1,Builtin.min_,Builtin.min2]
    rw [Int.min_def]; split <;> split <;> omega
   ·simp [execOp,hop,resolve,invoke,builtin,v1.1,v2.1,Builtin.max_,Builtin.max2]
    rw [Int.max_def]; split <;> split <;> omega
  ·simp only [TV.WF]
   split <;> omega
 ·exact h.elim
theorem Y6 (hI:AQ F0 w0 env a w G) (hd:d<a.tmps.size) {x:Operand} {y:AE} {t:TypeId} (hop:o.op=.box t x) (hok:AK x y=true) (h:(AD.boxs y).wp S env (some d) K):BG P F0 w0 a w o d K:=by
 simp only [AD.wp] at h
 split at h
 ·rename_i u hv
  have h1:=A9 hI hok hv
  have hb:Below w.heap.size w (w.alloc (.cells (a.eval x).cells t)):=(Below.refl _ _).alloc (Nat.le_refl _) _
  refine ⟨.pointer (some ⟨w.heap.size,0,none⟩),w.alloc (.cells (a.eval x).cells t),by simp [execOp,hop,Instr.box,newVar,newRow],_,_,h,hI.tv hb d hd (.pt u.cells) _ ?_ ?_⟩
  ·simp only [A1]
   refine ⟨_,_,rfl,?_⟩
   have hag:=Ks (F0:=F0) (w0:=w0) (G:=G) hb d (fun _=>none) (by simp)
   ·have h2:=Ic h1.1
    refine OI (A8 hag _ _ h2.1) h2.2 fun i v hi=>?_
    have hc:(w.alloc (.cells (a.eval x).cells t)).cell? ⟨w.heap.size,0+i,none⟩=some v:=by
     rw [World.cell?_alloc_new,Nat.zero_add]
     simpa using hi
    refine ⟨hc,?_⟩
    rintro (⟨h3,_⟩ | ⟨s,j,lo,h3,_⟩)
    ·have:=hI.below.size; omega
    ·by_cases hs:s=d
     ·subst hs; rw [BN] at h3; cases h3
     ·rw [BD _ _ _ _ hs] at h3
      have:=(hI.lt _ _ _ _ h3).1; omega
  ·simp only [TV.WF]; exact JZ h1.2
 ·exact h.elim
end
end Go.Sf
