/- Steps of operations that leave memory as it is, or only lay new blocks. -/
import Derived.Test.YtmaobfbhdkafkaaGreatSfOps2
namespace Go.Sf
open Go.RowKit (Below)
def BG (P:Program) (F0:Nat->Nat->Prop) (w0:W0) (a:Act) (w:World) (o:Oper) (d:Nat) (K:EV->AC->Prop):Prop:=
 ∃ v w',(execOp a.eval o).run P w=.ok (.value v) w'∧∃ e env',K e env'∧CU F0 w0 ((d,e)::env') (a.put (some d) v) w'
theorem B4:∀ {l:List TV},TV.WFs l↔∀ t∈l,t.WF
 | []=>by simp [TV.WFs]
 | t::l=>by simp [TV.WFs,B4 (l:=l)]
theorem JZ {t:TV} (h:t.WF):TV.WFs t.cells:=by
 cases t with
 | agg cs=>exact h
 | _=>exact ⟨h,trivial⟩
section
variable {P:Program} {S:FuncId->List TV->B5->Prop} {F0:Nat->Nat->Prop} {w0:W0} {env:AC} {a:Act} {w:World} {G:C0} {d:Nat} {o:Oper} {K:EV->AC->Prop}
theorem C6 (hI:AQ F0 w0 env a w G) (hd:d<a.tmps.size) {v:Value} {t:TV} (hrun:(execOp a.eval o).run P w=.ok (.value v) w)
  (hr:A1 w (AV w0.heap.size F0 G) t v) (hw:t.WF) (hK:K (.tv t) env):BG P F0 w0 a w o d K:=
 ⟨v,w,hrun,_,_,hK,hI.tv_same d hd t v hr hw⟩
theorem Wa (hI:AQ F0 w0 env a w G) (hd:d<a.tmps.size) {x:Operand} {y:AE} (hop:o.op=.move x∨o.op=.assign x) (hok:AK x y=true) (h:(AD.mv y).wp S env (some d) K):BG P F0 w0 a w o d K:=by
 simp only [AD.wp] at h
 have hv:(∃ t,y.val env=some t∧K (.tv t) env)∨∃ ts,y.ev env=.tp ts∧K (.tp ts) env:=by
  unfold AE.val
  split at h <;> first | exact h.elim | (rename_i t he; exact .inl ⟨t,by rw [he]; rfl,h⟩) | (rename_i t he; exact .inr ⟨t,he,h⟩)
 have hrun:(execOp a.eval o).run P w=.ok (.value (a.eval x)) w:=by rcases hop with hop | hop <;> simp [execOp,hop]
 rcases hv with ⟨t,hv,hK⟩ | ⟨ts,hv,hK⟩
 ·have:=A9 hI hok hv
  exact C6 hI hd (v:=a.eval x) hrun this.1 this.2 hK
 ·cases y with
  | c t=>simp [AE.ev] at hv
  | s n=>
   have hx:x=.tmp n:=by
    cases x <;> simp [AK] at hok
    rw [hok]
   subst hx
   simp only [AE.ev] at hv
   have hr:=At hI hv (by simp)
   have hw:=hI.wf n
   rw [hv] at hw
   refine ⟨_,w,hrun,_,_,hK,⟨_,hI.quiet (Below.refl _ _) d hd (.tp ts) _ (fun _=>none) (by simp) (by simp) (by simp) ?_ hw⟩⟩
   simp only [AP] at hr ⊢
   obtain ⟨vs,h1,h2⟩:=hr
   refine ⟨vs,h1,A8 (fun b o u hc hf=>⟨hc,fun hf'=>hf ?_⟩) _ _ h2⟩
   rcases hf' with h3 | ⟨s,i,lo,h3,h4⟩
   ·exact .inl h3
   ·by_cases hs:s=d
    ·subst hs; rw [BN] at h3; cases h3
    ·rw [BD _ _ _ _ hs] at h3; exact .inr ⟨s,i,lo,h3,h4⟩
theorem ZA (hI:AQ F0 w0 env a w G) (hd:d<a.tmps.size) {c x x':Operand} {c' y y':AE} (hop:o.op=.pick c x x') (h0:AK c c'=true) (h1:AK x y=true) (h2:AK x' y'=true)
  (h:(AD.pick c' y y').wp S env (some d) K):BG P F0 w0 a w o d K:=by
 simp only [AD.wp] at h
 split at h
 ·rename_i q hc
  have hcv:=(A9 hI h0 hc).1
  simp only [A1] at hcv
  have hok:AK (if q then x else x') (if q then y else y')=true:=by cases q <;> assumption
  have hv:∃ t,(if q then y else y').val env=some t∧K (.tv t) env:=by
   unfold AE.val
   split at h <;> first | exact h.elim | (rename_i t he; exact ⟨t,by rw [he]; rfl,h⟩)
  obtain ⟨t,hv,hK⟩:=hv
  have:=A9 hI hok hv
  refine C6 hI hd (v:=a.eval (if q then x else x')) ?_ this.1 this.2 hK
  cases q <;> simp [execOp,hop,hcv,asBool]
 ·exact h.elim
theorem am (hI:AQ F0 w0 env a w G) (hd:d<a.tmps.size) {x:Operand} {y:AE} {t:TypeId} (hop:o.op=.unOp .not t x) (hok:AK x y=true) (h:(AD.not y).wp S env (some d) K):BG P F0 w0 a w o d K:=by
 simp only [AD.wp] at h
 split at h
 ·rename_i b hv
  have:=(A9 hI hok hv).1
  simp only [A1] at this
  exact C6 hI hd (v:=.bool !b) (t:=.bool !b) (by simp [execOp,hop,this,Op.unary]) rfl trivial h
 ·exact h.elim
theorem al (hI:AQ F0 w0 env a w G) (hd:d<a.tmps.size) {x:Operand} {y:AE} {t:TypeId} (hop:o.op=.unOp .neg t x) (hok:AK x y=true) (h:(AD.neg y).wp S env (some d) K):BG P F0 w0 a w o d K:=by
 simp only [AD.wp] at h
 split at h
 ·rename_i k n hv
  have:=(A9 hI hok hv).1
  simp only [A1] at this
  exact C6 hI hd (v:=.int k (k.wrap (-n))) (t:=.int k (k.wrap (-n))) (by simp [execOp,hop,this,Op.unary,Op.intArith]) rfl (Kk k _) h
 ·exact h.elim
theorem aZ (hI:AQ F0 w0 env a w G) (hd:d<a.tmps.size) {x:Operand} {y:AE} {s t:TypeId} {k k':IntKind} (hop:o.op=.convert s t x) (hs:P.underlying s=some (.int k')) (ht:P.underlying t=some (.int k)) (hok:AK x y=true) (h:(AD.cvt k y).wp S env (some d) K):BG P F0 w0 a w o d K:=by
 simp only [AD.wp] at h
 split at h
 ·rename_i k2 n hv
  have:=(A9 hI hok hv).1
  simp only [A1] at this
  refine C6 hI hd (v:=.int k (k.wrap n)) (t:=.int k (k.wrap n)) ?_ rfl (Kk k _) h
  simp [execOp,hop,this,convert,run_underlying hs,run_underlying ht,Conv.intToInt]
 ·exact h.elim
theorem aV (hI:AQ F0 w0 env a w G) (hd:d<a.tmps.size) {f:FuncId} {xs:Array Operand} {ys:List AE} (hop:o.op=.makeFunc (.func f) #[] xs) (hok:CW xs.toList ys=true) (h:(AD.clo f ys).wp S env (some d) K):BG P F0 w0 a w o d K:=by
 simp only [AD.wp] at h
 cases hv:vals env ys with
 | none=>rw [hv] at h; exact h.elim
 | some ts=>
  rw [hv] at h
  have:=JH hI hok hv
  refine C6 hI hd (v:=.func (.func f) #[] (xs.map a.eval)) (by simp [execOp,hop,Instr.makeFunc]) ?_ (by simpa [TV.WF] using this.2) h
  simp only [A1]
  exact ⟨_,rfl,by simpa using this.1⟩
theorem aa (hI:AQ F0 w0 env a w G) (hd:d<a.tmps.size) {s i:Nat} (hop:o.op=.extract (.tmp s) i) (h:(AD.ext (.s s) i).wp S env (some d) K):BG P F0 w0 a w o d K:=by
 simp only [AD.wp,AE.ev] at h
 split at h
 ·rename_i ts hv
  cases ht:ts[i]? with
  | none=>rw [ht] at h; exact h.elim
  | some t=>
   rw [ht] at h
   have hr:=At hI hv (by simp)
   have hw:=hI.wf s
   rw [hv] at hw
   simp only [AP] at hr
   obtain ⟨vs,h1,h2⟩:=hr
   rw [B1] at h2
   have hlt:i<ts.length:=by
    rcases Nat.lt_or_ge i ts.length with h | h
    ·exact h
    ·rw [List.getElem?_eq_none h] at ht; cases ht
   have hx:vs.toList[i]?=some (vs.toList[i]'(by omega)):=List.getElem?_eq_getElem (by omega)
   have hx':vs[i]?=some (vs.toList[i]'(by omega)):=by simp
   refine C6 hI hd (v:=vs.toList[i]'(by omega)) ?_ (h2.2 i t _ ht hx) ?_ h
   ·simp [execOp,hop,show a.eval (.tmp s)=slot a s from rfl,h1,Instr.extract,hx']
   ·exact B4.1 hw t (List.mem_of_getElem? ht)
 ·exact h.elim
theorem ai (hI:AQ F0 w0 env a w G) (hd:d<a.tmps.size) {x:Operand} {y:AE} {t e:TypeId} (hop:o.op=.call { callee:=.builtin .len,args:=#[x],argTypes:=#[t] }) (hok:AK x y=true)
  (he:P.underlying t=some (.slice e)) (h:(AD.len y).wp S env (some d) K):BG P F0 w0 a w o d K:=by
 simp only [AD.wp] at h
 split at h
 ·rename_i n es hv
  have:=A9 hI hok hv
  simp only [A1,TV.WF,J4] at this
  obtain ⟨⟨ad,cap,h1,_⟩,h3⟩:=this
  refine C6 hI hd (v:=.int .i64 es.length) (t:=.int .i64 es.length) ?_ rfl ⟨by simp only [IntKind.min,IntKind.signed,IntKind.bits,if_true]; omega,by simp only [IntKind.max_i64]; omega⟩ h
  simp [execOp,hop,resolve,invoke,builtin,Builtin.len_,run_underlying he,h1,goInt]
 ·exact h.elim
theorem ZC (hI:AQ F0 w0 env a w G) (hd:d<a.tmps.size) {x:Operand} {y:AE} {t:TypeId} (hop:o.op=.call { callee:=.builtin .len,args:=#[x],argTypes:=#[t] }) (hok:AK x y=true)
  (he:P.underlying t=some .string) (h:(AD.slen y).wp S env (some d) K):BG P F0 w0 a w o d K:=by
 simp only [AD.wp] at h
 split at h
 ·rename_i s hv
  have:=A9 hI hok hv
  simp only [A1,TV.WF,J4] at this
  refine C6 hI hd (v:=.int .i64 s.size) (t:=.int .i64 s.size) ?_ rfl ⟨by simp only [IntKind.min,IntKind.signed,IntKind.bits,if_true]; omega,by simp only [IntKind.max_i64]; omega⟩ h
  simp [execOp,hop,resolve,invoke,builtin,Builtin.len_,run_underlying he,this.1,goInt]
 ·exact h.elim
end
end Go.Sf
