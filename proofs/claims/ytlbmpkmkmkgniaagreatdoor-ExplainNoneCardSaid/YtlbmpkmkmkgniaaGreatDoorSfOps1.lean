/- The checker's operands, and the operations that only compute or read. -/
import Derived.Test.YtlbmpkmkmkgniaaGreatDoorSfQuiet
import Derived.Laws.StructEq
import Derived.Laws.Tables
import Derived.Great.BuildSlice
namespace Go.Sf
open Go.RowKit (Below)
def KX:Value->Bool
 | .slice none 0 0=>true
 | _=>false
theorem J0 {v:Value} (h:KX v=true):v=.slice none 0 0:=by
 unfold KX at h
 split at h
 ·rfl
 ·cases h
def ZK (f:FuncId):Value->Bool
 | .func (.func g) first caps=>f==g&&first.size==0&&caps.size==0
 | _=>false
theorem b9 {f:FuncId} {v:Value} (h:ZK f v=true):v=.func (.func f) #[] #[]:=by
 unfold ZK at h
 split at h
 ·simp at h
  obtain ⟨⟨rfl,h1⟩,h2⟩:=h
  subst h1; subst h2
  rfl
 ·cases h
def Wg (k:IntKind) (n:Int):Value->Bool
 | .int k' m=>k==k'&&n==m
 | _=>false
theorem ZL {k:IntKind} {n:Int} {v:Value} (h:Wg k n v=true):v=.int k n:=by
 unfold Wg at h
 split at h
 ·simp at h; rw [h.1,h.2]
 ·cases h
def UL (b:Bool):Value->Bool
 | .bool c=>b==c
 | _=>false
theorem Xv {b:Bool} {v:Value} (h:UL b v=true):v=.bool b:=by
 unfold UL at h
 split at h
 ·simp at h; rw [h]
 ·cases h
def Wh (s:ByteArray):Value->Bool
 | .string r=>s.data==r.data
 | _=>false
theorem ZN {s:ByteArray} {v:Value} (h:Wh s v=true):v=.string s:=by
 unfold Wh at h
 split at h
 ·simp at h; congr 1; exact (ByteArray.ext h).symm
 ·cases h
def WT:Value->Option (List Value)
 | .agg vs=>some vs.toList
 | _=>none
theorem Y4 {v:Value} {l:List Value} (h:WT v=some l):v=.agg l.toArray:=by
 unfold WT at h
 split at h
 ·simp at h; subst h; simp
 ·cases h
mutual
def E2:TV->Value->Bool
 | .int k n,v=>Wg k n v&&decide (k.min<=n∧n<=k.max)
 | .bool b,v=>UL b v
 | .str s,v=>Wh s v&&decide (s.size<=H5)
 | .list _ es,v=>es.isEmpty&&KX v
 | .agg ts,v=>match WT v with | some vs=>JN ts vs&&vs.all Value.oneCell' | none=>false
 | .clo f cs,v=>cs.isEmpty&&ZK f v
 | .nil,v=>KX v
 | .undef,v=>v.oneCell'
 | _,_=>false
def JN:List TV->List Value->Bool
 | [],vs=>vs.isEmpty
 | t::ts,vs=>match vs with | v::vs=>E2 t v&&JN ts vs | []=>false
end
mutual
theorem Ho (w:World) (F:Nat->Nat->Prop):∀ (t:TV) (v:Value),E2 t v=true->A1 w F t v∧t.WF
 | .undef,v,h=>by
  simp only [E2] at h
  exact ⟨by simpa [A1] using h,trivial⟩
 | .xl _ _,v,h=>by simp [E2] at h
 | .nil,v,h=>by
  simp only [E2] at h
  exact ⟨J0 h,trivial⟩
 | .pt _,v,h=>by simp [E2] at h
 | .int k n,v,h=>by
  simp only [E2,zzZ,zzX] at h
  exact ⟨ZL h.1,h.2⟩
 | .bool b,v,h=>by
  simp only [E2] at h
  exact ⟨Xv h,trivial⟩
 | .str s,v,h=>by
  simp only [E2,zzZ,zzX] at h
  exact ⟨ZN h.1,h.2⟩
 | .list n es,v,h=>by
  simp only [E2,zzZ,List.isEmpty_iff] at h
  obtain ⟨rfl,h⟩:=h
  refine ⟨?_,by simp [TV.WF,TV.WFs]⟩
  simp only [A1]
  exact ⟨none,0,J0 h,by simp⟩
 | .agg ts,v,h=>by
  simp only [E2] at h
  split at h
  ·rename_i vs hv
   rw [zzZ] at h
   have:=NH w F ts vs h.1
   refine ⟨?_,by simpa [TV.WF] using this.2⟩
   simp only [A1]
   exact ⟨_,Y4 hv,by simpa using this.1,by simpa using h.2⟩
  ·cases h
 | .clo f cs,v,h=>by
  simp only [E2,zzZ,List.isEmpty_iff] at h
  obtain ⟨rfl,h⟩:=h
  refine ⟨?_,by simp [TV.WF,TV.WFs]⟩
  simp only [A1]
  exact ⟨#[],b9 h,rfl⟩
theorem NH (w:World) (F:Nat->Nat->Prop):∀ (ts:List TV) (vs:List Value),JN ts vs=true->AQ w F ts vs∧TV.WFs ts
 | [],vs,h=>by simp [JN] at h; subst h; exact ⟨rfl,trivial⟩
 | t::ts,vs,h=>by
  cases vs with
  | nil=>simp [JN] at h
  | cons v vs=>
   simp only [JN,zzZ] at h
   have h1:=Ho w F t v h.1
   have h2:=NH w F ts vs h.2
   exact ⟨⟨v,vs,rfl,h1.1,h2.1⟩,h1.2,h2.2⟩
end
def AP (x:Operand):AJ->Bool
 | .s m=>match x with | .tmp n=>n==m | _=>false
 | .c t=>match x with | .const v=>E2 t v | .func f=>E2 t (.func (.func f) #[] #[]) | _=>false
section
variable {F0:Nat->Nat->Prop} {w0:W0} {env:AC} {a:Act} {w:World} {G:DE}
theorem NJ (h:AT F0 w0 env a w G) {s:Nat} {i:Option Nat}:∀ b lo o,G s i=some (b,lo)->o<lo->¬ AY w0.heap.size F0 G b o:=by
 intro b lo o hz ho hf
 rcases hf with ⟨hlt,hF0⟩ | ⟨s',i',lo',h1,h2⟩
 ·exact (h.lt _ _ _ _ hz).2.elim (fun e=>by omega) (fun e=>h.below.free _ _ _ (e _ (Nat.le_refl _)) hF0)
 ·obtain ⟨rfl,rfl⟩:=h.uniq _ _ _ _ _ _ _ h1 hz
  rw [h1] at hz
  simp only [zzY,Prod.mk.injEq,true_and] at hz
  omega
theorem GA (h:AT F0 w0 env a w G) {n:Nat} {e:EV} (he:env.get n=e) (hne:e≠.undef):n<a.tmps.size:=by
 rcases Nat.lt_or_ge n a.tmps.size with hlt | hge
 ·exact hlt
 ·exact absurd ((h.dom n hge).symm.trans he).symm hne
theorem A4 (h:AT F0 w0 env a w G) {n:Nat} {e:EV} (he:env.get n=e) (hne:e≠.undef):AS a w (AY w0.heap.size F0 G) G env n e (slot a n):=by
 have:=h.slots n (GA h he hne)
 rwa [he] at this
theorem BL (h:AT F0 w0 env a w G) {x:Operand} {y:AJ} (hok:AP x y=true) {t:TV} (hv:y.val env=some t):A1 w (AY w0.heap.size F0 G) t (a.eval x)∧t.WF:=by
 cases y with
 | s m=>
  cases x <;> simp [AP] at hok
  subst hok
  rename_i n
  simp only [AJ.val,AJ.ev] at hv
  have hw:=h.wf n
  cases he:env.get n with
  | tv t'=>
   rw [he] at hv hw
   simp only [EV.val,zzY] at hv
   subst hv
   exact ⟨A4 h he (by simp),hw⟩
  | ow t'=>
   rw [he] at hv hw
   simp only [EV.val,zzY] at hv
   subst hv
   exact ⟨CQ.rep (A4 h he (by simp)) (fun b lo o hz ho=>NJ h b lo o hz ho),hw⟩
  | undef=>rw [he] at hv; simp [EV.val] at hv
  | sk=>rw [he] at hv; simp [EV.val] at hv
  | xo n es=>rw [he] at hv; simp [EV.val] at hv
  | la q i=>rw [he] at hv; simp [EV.val] at hv
  | oag cs=>rw [he] at hv; simp [EV.val] at hv
  | lp q i c=>rw [he] at hv; simp [EV.val] at hv
  | bx cs=>rw [he] at hv; simp [EV.val] at hv
  | bp q off=>rw [he] at hv; simp [EV.val] at hv
  | tp ts=>rw [he] at hv; simp [EV.val] at hv
 | c t'=>
  simp only [AJ.val,AJ.ev,EV.val,zzY] at hv
  subst hv
  cases x with
  | const v=>exact Ho w _ _ _ hok
  | func f=>exact Ho w _ _ _ hok
  | tmp n=>simp [AP] at hok
  | global g=>simp [AP] at hok
theorem Rt (h:AT F0 w0 env a w G) {x:Operand} {y:AJ} (hok:AP x y=true) {t:TV} (hv:y.ev env=.tv t):A1 w (AY w0.heap.size F0 G) t (a.eval x)∧t.WF:=
 BL h hok (by simp [AJ.val,hv,EV.val])
def C5:List Operand->List AJ->Bool
 | [],[]=>true
 | x::xs,y::ys=>AP x y&&C5 xs ys
 | _,_=>false
theorem I9 (h:AT F0 w0 env a w G):∀ {xs:List Operand} {ys:List AJ},C5 xs ys=true->∀ {ts:List TV},vals env ys=some ts->AQ w (AY w0.heap.size F0 G) ts (xs.map a.eval)∧TV.WFs ts
 | [],[],_,ts,hv=>by simp [vals] at hv; subst hv; exact ⟨rfl,trivial⟩
 | [],_::_,hok,_,_=>by simp [C5] at hok
 | _::_,[],hok,_,_=>by simp [C5] at hok
 | x::xs,y::ys,hok,ts,hv=>by
  simp only [C5,zzZ] at hok
  simp only [vals] at hv
  split at hv
  ·rename_i t ts' ht hts
   simp only [zzY] at hv
   subst hv
   have h1:=BL h hok.1 ht
   have h2:=I9 h hok.2 hts
   exact ⟨⟨_,_,rfl,h1.1,h2.1⟩,h1.2,h2.2⟩
  ·cases hv
end
theorem KL (k:IntKind) (n:Int):k.min<=k.wrap n∧k.wrap n<=k.max:=by
 cases k <;> simp only [IntKind.min,IntKind.max,IntKind.wrap,IntKind.signed,IntKind.bits,Bool.true_and,Bool.false_and] <;> simp <;> (try split) <;> omega
end Go.Sf
namespace Go.Sf
open Go.RowKit (Below)
def EU (P:Program) (t:TypeId):Option Nat:=(P.info? t).map (·.size)
def DH (P:Program) (t:TypeId):Option Bool:=
 match P.underlying t with
 | some (.struct _) | some (.array _ _)=>some true
 | some _=>some false
 | none=>none
def KB (P:Program) (t:TypeId):Option Nat:=
 match P.underlying t with
 | some (.slice e)=>EU P e
 | _=>none
def ND (P:Program) (t:TypeId) (f:Nat):Option Nat:=
 match P.underlying t with
 | some (.struct fs)=>match fs[f]? with
  | some x=>match EU P x.type with
   | some 0=>none
   | some _=>some x.offset
   | none=>none
  | none=>none
 | _=>none
section
variable {P:Program} {w:World}
theorem DT {t:TypeId} {n:Nat} (h:EU P t=some n):(sizeOf t).run P w=.ok n w:=by
 simp only [EU,Option.map_eq_some_iff] at h
 obtain ⟨i,hi,rfl⟩:=h
 simp [sizeOf,typeInfo,hi]
theorem E4 {t:TypeId} {b:Bool} (h:DH P t=some b):(isAgg t).run P w=.ok b w:=by
 unfold DH at h
 unfold isAgg underlying
 simp only [Sem.run_bind,run_program,Result.andThen_ok]
 cases hu:P.underlying t with
 | none=>rw [hu] at h; simp at h
 | some d=>
  rw [hu] at h
  cases d <;> simp_all
theorem Pl {t:TypeId} {f k b o:Nat} (h:ND P t f=some k) :
  (Instr.fieldAt t (.pointer (some ⟨b,o,none⟩)) f).run P w=.ok (.pointer (some ⟨b,o+k,none⟩)) w:=by
 unfold ND at h
 split at h
 ·rename_i fs hu
  split at h
  ·rename_i x hx
   split at h
   ·cases h
   ·rename_i n hn hc
    simp only [zzY] at h
    subst h
    have hne:¬ (n=0):=fun e=>hn (by rw [e])
    simp [Instr.fieldAt,run_underlying hu,hx,Instr.sureAddr,fieldPlace,DT hc,hne,Addr.add_lit]
   ·cases h
  ·cases h
 ·cases h
theorem Ot {F:Nat->Nat->Prop} {ts:List TV} {b o:Nat} (h:D7 w F ts b o):∃ vs:List Value,AQ w F ts vs∧(∀ x∈vs,x.oneCell'=true)∧∀ (j:Nat) (v:Value),vs[j]?=some v->w.cell? ((⟨b,o,none⟩:Addr).add j)=some v:=by
 induction ts generalizing o with
 | nil=>exact ⟨[],rfl,by simp,by simp⟩
 | cons t ts ih=>
  simp only [D7] at h
  obtain ⟨⟨v,h1,h2,h0,h3⟩,h4⟩:=h
  obtain ⟨vs,h5,h7,h6⟩:=ih h4
  refine ⟨v::vs,⟨v,vs,rfl,h3,h5⟩,by simp only [List.mem_cons,forall_eq_or_imp]; exact ⟨h0,h7⟩,fun j u hu=>?_⟩
  rw [Addr.add_lit]
  cases j with
  | zero=>simp at hu; subst hu; exact h1
  | succ j=>
   have:=h6 j u (by simpa using hu)
   rw [Addr.add_lit] at this
   rwa [show o+(j+1)=o+1+j from by omega]
theorem CC {F:Nat->Nat->Prop} {ts:List TV} {vs:List Value} (h:AQ w F ts vs):vs.length=ts.length:=((CD ts vs).1 h).1
theorem W9 {F:Nat->Nat->Prop} {t:TypeId} {n:Nat} {es:List TV} {v:Value} {k:IntKind} {j:Int} (ht:KB P t=some n) (h:A1 w F (.list n es) v) (h0:0<=j) {e:TV} (he:es[j.toNat]?=some e) :
  ∃ p,(Instr.indexAt t v (.int k j)).run P w=.ok p w∧A1 w F (.pt e.cells) p:=by
 simp only [A1] at h
 obtain ⟨a,cap,rfl,_,h1,h2⟩:=h
 have hlt:j.toNat<es.length:=by
  rcases Nat.lt_or_ge j.toNat es.length with h | h
  ·exact h
  ·rw [List.getElem?_eq_none h] at he; cases he
 cases a with
 | none=>have:=h1 rfl; subst this; simp at hlt
 | some ad=>
  obtain ⟨h3,h4⟩:=h2 ad rfl
  obtain ⟨b,o,sp⟩:=ad
  simp only at h3 h4
  have h3:sp=none:=h3.resolve_left (fun e=>by subst e; simp at hlt)
  subst h3
  unfold KB at ht
  split at ht
  ·rename_i el hu
   rw [Ns] at h4
   have h5:=h4 j.toNat e he
   have hj:0<=j∧j<(es.length:Int):=by omega
   refine ⟨.pointer (some ⟨b,o+j.toNat*n,none⟩),?_,?_⟩
   ·simp [Instr.indexAt,asIntOf,run_underlying hu,hj,DT ht,Addr.add_lit]
   ·simp only [A1]
    exact ⟨b,_,rfl,h5.1⟩
  ·cases ht
end
end Go.Sf
namespace Go.Sf
open Go.RowKit (Below)
def BS (P:Program) (F0:Nat->Nat->Prop) (w0:W0) (a:Act) (w:World) (o:Oper) (d:Nat) (K:EV->AC->Prop):Prop:=
 ∃ v w',(execOp a.eval o).run P w=.ok (.value v) w'∧∃ e env',K e env'∧C2 F0 w0 ((d,e)::env') (a.put (some d) v) w'
theorem CJ:∀ {l:List TV},TV.WFs l↔∀ t∈l,t.WF
 | []=>by simp [TV.WFs]
 | t::l=>by simp [TV.WFs,CJ (l:=l)]
theorem JS {t:TV} (h:t.WF):TV.WFs t.cells:=by
 cases t with
 | agg cs=>exact h
 | _=>exact ⟨h,trivial⟩
section
variable {P:Program} {S:FuncId->List TV->CH->Prop} {F0:Nat->Nat->Prop} {w0:W0} {env:AC} {a:Act} {w:World} {G:DE} {d:Nat} {o:Oper} {K:EV->AC->Prop}
theorem DJ (hI:AT F0 w0 env a w G) (hd:d<a.tmps.size) {v:Value} {t:TV} (hrun:(execOp a.eval o).run P w=.ok (.value v) w)
  (hr:A1 w (AY w0.heap.size F0 G) t v) (hw:t.WF) (hK:K (.tv t) env):BS P F0 w0 a w o d K:=
 ⟨v,w,hrun,_,_,hK,hI.tv_same d hd t v hr hw⟩
theorem WA (hI:AT F0 w0 env a w G) (hd:d<a.tmps.size) {x:Operand} {y:AJ} (hop:o.op=.move x∨o.op=.assign x) (hok:AP x y=true) (h:(AH.mv y).wp S env (some d) K):BS P F0 w0 a w o d K:=by
 simp only [AH.wp] at h
 have hv:(∃ t,y.val env=some t∧K (.tv t) env)∨∃ ts,y.ev env=.tp ts∧K (.tp ts) env:=by
  unfold AJ.val
  split at h <;> first | exact h.elim | (rename_i t he; exact .inl ⟨t,by rw [he]; rfl,h⟩) | (rename_i t he; exact .inr ⟨t,he,h⟩)
 have hrun:(execOp a.eval o).run P w=.ok (.value (a.eval x)) w:=by rcases hop with hop | hop <;> simp [execOp,hop]
 rcases hv with ⟨t,hv,hK⟩ | ⟨ts,hv,hK⟩
 ·have:=BL hI hok hv
  exact DJ hI hd (v:=a.eval x) hrun this.1 this.2 hK
 ·cases y with
  | c t=>simp [AJ.ev] at hv
  | s n=>
   have hx:x=.tmp n:=by
    cases x <;> simp [AP] at hok
    rw [hok]
   subst hx
   simp only [AJ.ev] at hv
   have hr:=A4 hI hv (by simp)
   have hw:=hI.wf n
   rw [hv] at hw
   refine ⟨_,w,hrun,_,_,hK,⟨_,hI.quiet (Below.refl _ _) d hd (.tp ts) _ (fun _=>none) (by simp) (by simp) (by simp) ?_ hw⟩⟩
   simp only [AS] at hr ⊢
   obtain ⟨vs,h1,h2⟩:=hr
   refine ⟨vs,h1,BI (fun b o u hc hf=>⟨hc,fun hf'=>hf ?_⟩) _ _ h2⟩
   rcases hf' with h3 | ⟨s,i,lo,h3,h4⟩
   ·exact .inl h3
   ·by_cases hs:s=d
    ·subst hs; rw [B0] at h3; cases h3
    ·rw [BR _ _ _ _ hs] at h3; exact .inr ⟨s,i,lo,h3,h4⟩
theorem Yj (hI:AT F0 w0 env a w G) (hd:d<a.tmps.size) {c x x':Operand} {c' y y':AJ} (hop:o.op=.pick c x x') (h0:AP c c'=true) (h1:AP x y=true) (h2:AP x' y'=true)
  (h:(AH.pick c' y y').wp S env (some d) K):BS P F0 w0 a w o d K:=by
 simp only [AH.wp] at h
 split at h
 ·rename_i q hc
  have hcv:=(BL hI h0 hc).1
  simp only [A1] at hcv
  have hok:AP (if q then x else x') (if q then y else y')=true:=by cases q <;> assumption
  have hv:∃ t,(if q then y else y').val env=some t∧K (.tv t) env:=by
   unfold AJ.val
   split at h <;> first | exact h.elim | (rename_i t he; exact ⟨t,by rw [he]; rfl,h⟩)
  obtain ⟨t,hv,hK⟩:=hv
  have:=BL hI hok hv
  refine DJ hI hd (v:=a.eval (if q then x else x')) ?_ this.1 this.2 hK
  cases q <;> simp [execOp,hop,hcv,asBool]
 ·exact h.elim
theorem aG (hI:AT F0 w0 env a w G) (hd:d<a.tmps.size) {x:Operand} {y:AJ} {t:TypeId} (hop:o.op=.unOp .not t x) (hok:AP x y=true) (h:(AH.not y).wp S env (some d) K):BS P F0 w0 a w o d K:=by
 simp only [AH.wp] at h
 split at h
 ·rename_i b hv
  have:=(BL hI hok hv).1
  simp only [A1] at this
  exact DJ hI hd (v:=.bool !b) (t:=.bool !b) (by simp [execOp,hop,this,Op.unary]) rfl trivial h
 ·exact h.elim
theorem aF (hI:AT F0 w0 env a w G) (hd:d<a.tmps.size) {x:Operand} {y:AJ} {t:TypeId} (hop:o.op=.unOp .neg t x) (hok:AP x y=true) (h:(AH.neg y).wp S env (some d) K):BS P F0 w0 a w o d K:=by
 simp only [AH.wp] at h
 split at h
 ·rename_i k n hv
  have:=(BL hI hok hv).1
  simp only [A1] at this
  exact DJ hI hd (v:=.int k (k.wrap (-n))) (t:=.int k (k.wrap (-n))) (by simp [execOp,hop,this,Op.unary,Op.intArith]) rfl (KL k _) h
 ·exact h.elim
theorem Z6 (hI:AT F0 w0 env a w G) (hd:d<a.tmps.size) {x:Operand} {y:AJ} {s t:TypeId} {k k':IntKind} (hop:o.op=.convert s t x) (hs:P.underlying s=some (.int k')) (ht:P.underlying t=some (.int k)) (hok:AP x y=true) (h:(AH.cvt k y).wp S env (some d) K):BS P F0 w0 a w o d K:=by
 simp only [AH.wp] at h
 split at h
 ·rename_i k2 n hv
  have:=(BL hI hok hv).1
  simp only [A1] at this
  refine DJ hI hd (v:=.int k (k.wrap n)) (t:=.int k (k.wrap n)) ?_ rfl (KL k _) h
  simp [execOp,hop,this,convert,run_underlying hs,run_underlying ht,Conv.intToInt]
 ·exact h.elim
theorem Z2 (hI:AT F0 w0 env a w G) (hd:d<a.tmps.size) {f:FuncId} {xs:Array Operand} {ys:List AJ} (hop:o.op=.makeFunc (.func f) #[] xs) (hok:C5 xs.toList ys=true) (h:(AH.clo f ys).wp S env (some d) K):BS P F0 w0 a w o d K:=by
 simp only [AH.wp] at h
 cases hv:vals env ys with
 | none=>rw [hv] at h; exact h.elim
 | some ts=>
  rw [hv] at h
  have:=I9 hI hok hv
  refine DJ hI hd (v:=.func (.func f) #[] (xs.map a.eval)) (by simp [execOp,hop,Instr.makeFunc]) ?_ (by simpa [TV.WF] using this.2) h
  simp only [A1]
  exact ⟨_,rfl,by simpa using this.1⟩
theorem Z7 (hI:AT F0 w0 env a w G) (hd:d<a.tmps.size) {s i:Nat} (hop:o.op=.extract (.tmp s) i) (h:(AH.ext (.s s) i).wp S env (some d) K):BS P F0 w0 a w o d K:=by
 simp only [AH.wp,AJ.ev] at h
 split at h
 ·rename_i ts hv
  cases ht:ts[i]? with
  | none=>rw [ht] at h; exact h.elim
  | some t=>
   rw [ht] at h
   have hr:=A4 hI hv (by simp)
   have hw:=hI.wf s
   rw [hv] at hw
   simp only [AS] at hr
   obtain ⟨vs,h1,h2⟩:=hr
   rw [CD] at h2
   have hlt:i<ts.length:=by
    rcases Nat.lt_or_ge i ts.length with h | h
    ·exact h
    ·rw [List.getElem?_eq_none h] at ht; cases ht
   have hx:vs.toList[i]?=some (vs.toList[i]'(by omega)):=List.getElem?_eq_getElem (by omega)
   have hx':vs[i]?=some (vs.toList[i]'(by omega)):=by simp
   refine DJ hI hd (v:=vs.toList[i]'(by omega)) ?_ (h2.2 i t _ ht hx) ?_ h
   ·simp [execOp,hop,show a.eval (.tmp s)=slot a s from rfl,h1,Instr.extract,hx']
   ·exact CJ.1 hw t (List.mem_of_getElem? ht)
 ·exact h.elim
theorem aC (hI:AT F0 w0 env a w G) (hd:d<a.tmps.size) {x:Operand} {y:AJ} {t e:TypeId} (hop:o.op=.call { callee:=.builtin .len,args:=#[x],argTypes:=#[t] }) (hok:AP x y=true)
  (he:P.underlying t=some (.slice e)) (h:(AH.len y).wp S env (some d) K):BS P F0 w0 a w o d K:=by
 simp only [AH.wp] at h
 split at h
 ·rename_i n es hv
  have:=BL hI hok hv
  simp only [A1,TV.WF,H5] at this
  obtain ⟨⟨ad,cap,h1,_⟩,h3⟩:=this
  refine DJ hI hd (v:=.int .i64 es.length) (t:=.int .i64 es.length) ?_ rfl ⟨by simp only [IntKind.min,IntKind.signed,IntKind.bits,if_true]; omega,by simp only [IntKind.max_i64]; omega⟩ h
  simp [execOp,hop,resolve,invoke,builtin,Builtin.len_,run_underlying he,h1,goInt]
 ·exact h.elim
theorem Yl (hI:AT F0 w0 env a w G) (hd:d<a.tmps.size) {x:Operand} {y:AJ} {t:TypeId} (hop:o.op=.call { callee:=.builtin .len,args:=#[x],argTypes:=#[t] }) (hok:AP x y=true)
  (he:P.underlying t=some .string) (h:(AH.slen y).wp S env (some d) K):BS P F0 w0 a w o d K:=by
 simp only [AH.wp] at h
 split at h
 ·rename_i s hv
  have:=BL hI hok hv
  simp only [A1,TV.WF,H5] at this
  refine DJ hI hd (v:=.int .i64 s.size) (t:=.int .i64 s.size) ?_ rfl ⟨by simp only [IntKind.min,IntKind.signed,IntKind.bits,if_true]; omega,by simp only [IntKind.max_i64]; omega⟩ h
  simp [execOp,hop,resolve,invoke,builtin,Builtin.len_,run_underlying he,this.1,goInt]
 ·exact h.elim
end
end Go.Sf
namespace Go.Sf
open Go.RowKit (Below)
section
variable {P:Program} {S:FuncId->List TV->CH->Prop} {F0:Nat->Nat->Prop} {w0:W0} {env:AC} {a:Act} {w:World} {G:DE} {d:Nat} {o:Oper} {K:EV->AC->Prop}
theorem QR (hI:AT F0 w0 env a w G) {s:Nat} {i:Option Nat} {c:AU} {x:Value} (h:CS w (AY w0.heap.size F0 G) (G s i) c x):A1 w (AY w0.heap.size F0 G) c.t x:=by
 obtain ⟨_ | _,t⟩:=c
 ·exact h.1
 ·exact IE.rep h (fun b lo o hz ho=>NJ hI b lo o hz ho)
theorem P1 {F:Nat->Nat->Prop} {z:Option (Nat × Nat)} {t:TV} {x:Value} (h:CQ w F z t x):x.oneCell'=true:=by
 cases t <;> simp only [CQ] at h
 obtain ⟨xs,h1,_⟩:=h
 rcases h1.2 with ⟨rfl,_⟩ | ⟨g,cap,cur,e,rfl,_⟩ <;> rfl
theorem Qf {F:Nat->Nat->Prop} {z:Option (Nat × Nat)} {t:TV} {x:Value} (h:IE w F z t x):x.oneCell'=true:=by
 by_cases hx:∃ n es,t=.xl n es
 ·obtain ⟨n,es,rfl⟩:=hx
  simp only [IE,Jr] at h
  obtain ⟨xs,⟨z0,h1,_⟩,_⟩:=h
  rcases h1.2 with ⟨rfl,_⟩ | ⟨g,cap,cur,e,rfl,_⟩ <;> rfl
 ·refine P1 (w:=w) (F:=F) (z:=z) (t:=t) ?_
  cases t <;> first | exact h | exact absurd ⟨_,_,rfl⟩ hx
theorem Kv {F:Nat->Nat->Prop} {z:Option (Nat × Nat)} {c:AU} {x:Value} (h:CS w F z c x):x.oneCell'=true:=by
 obtain ⟨_ | _,t⟩:=c
 ·exact h.2
 ·exact Qf h
theorem NV (hI:AT F0 w0 env a w G) {x:Operand} {y:AJ} (hok:AP x y=true) {cs:List TV} (hc:BO env (y.ev env)=some cs) :
  ∃ b o vs,a.eval x=.pointer (some ⟨b,o,none⟩)∧AQ w (AY w0.heap.size F0 G) cs vs∧TV.WFs cs∧(∀ x∈vs,x.oneCell'=true)∧∀ (j:Nat) (v:Value),vs[j]?=some v->w.cell? ((⟨b,o,none⟩:Addr).add j)=some v:=by
 have box:∀ (s off:Nat) (ds:List AU),env.get s=.bx ds->∃ b vs,slot a s=.pointer (some ⟨b,0,none⟩)∧AQ w (AY w0.heap.size F0 G) ((ds.drop off).map (·.t)) vs∧TV.WFs ((ds.drop off).map (·.t))∧(∀ x∈vs,x.oneCell'=true)∧∀ (j:Nat) (v:Value),vs[j]?=some v->w.cell? ((⟨b,off,none⟩:Addr).add j)=some v:=by
  intro s off ds hs
  have hr:=A4 hI hs (by simp)
  have hw:=hI.wf s
  rw [hs] at hw
  simp only [AS] at hr
  obtain ⟨b,c,T,h1,h2,h3,h4,h5⟩:=hr
  refine ⟨b,c.toList.drop off,h1,?_,?_,?_,?_⟩
  ·rw [CD]
   refine ⟨by simp [h3],fun i t v ht hv=>?_⟩
   simp only [List.getElem?_map,List.getElem?_drop,Option.map_eq_some_iff] at ht hv
   obtain ⟨cell,hcell,rfl⟩:=ht
   obtain ⟨x,hx,hr⟩:=h5 (off+i) cell hcell
   have:x=v:=by
    have:c.toList[off+i]?=some x:=by simpa using hx
    rw [this] at hv; simpa using hv
   subst this
   exact QR hI hr
  ·rw [CJ]
   intro t ht
   simp only [List.mem_map] at ht
   obtain ⟨cell,hcell,rfl⟩:=ht
   exact hw cell (List.mem_of_mem_drop hcell)
  ·intro x hx
   obtain ⟨i,hi,rfl⟩:=List.getElem_of_mem hx
   rw [List.getElem_drop]
   have hlt:off+i<c.size:=by simp at hi; omega
   have hds:ds[off+i]?=some (ds[off+i]'(by omega)):=List.getElem?_eq_getElem (by omega)
   obtain ⟨x,hx,hr⟩:=h5 (off+i) _ hds
   have:c.toList[off+i]'(by simpa using hlt)=x:=by
    have:c[off+i]?=some c[off+i]:=Array.getElem?_eq_getElem hlt
    rw [this] at hx
    simpa using hx
   rw [this]
   exact Kv hr
  ·intro j v hv
   rw [List.getElem?_drop] at hv
   rw [Addr.add_lit,cell_of_row w b (off+j) c T (0,0) h2]
   simpa using hv
 cases y with
 | c t=>
  simp only [AJ.ev] at hc
  cases t <;> simp [BO] at hc
  subst hc
  have:=BL hI hok (t:=.pt _) rfl
  simp only [A1,TV.WF] at this
  obtain ⟨⟨b,o,h1,h2⟩,h3⟩:=this
  obtain ⟨vs,h4,h6,h5⟩:=Ot h2
  exact ⟨b,o,vs,h1,h4,h3,h6,h5⟩
 | s n=>
  cases x <;> simp [AP] at hok
  subst hok
  rename_i n
  simp only [AJ.ev] at hc
  cases he:env.get n with
  | tv t=>
   rw [he] at hc
   cases t <;> simp [BO] at hc
   subst hc
   have hr:=A4 hI he (by simp)
   have hw:=hI.wf n
   rw [he] at hw
   simp only [AS,A1] at hr
   obtain ⟨b,o,h1,h2⟩:=hr
   obtain ⟨vs,h4,h6,h5⟩:=Ot h2
   exact ⟨b,o,vs,h1,h4,by simpa [EV.WF,TV.WF] using hw,h6,h5⟩
  | bx ds=>
   rw [he] at hc
   simp only [BO,zzY] at hc
   subst hc
   obtain ⟨b,vs,h1,h2,h3,h7,h4⟩:=box n 0 ds he
   exact ⟨b,0,vs,h1,by simpa using h2,by simpa using h3,h7,h4⟩
  | bp q off=>
   rw [he] at hc
   simp only [BO] at hc
   split at hc
   ·rename_i ds hq
    simp only [zzY] at hc
    subst hc
    obtain ⟨b,vs,h1,h2,h3,h7,h4⟩:=box q off ds hq
    have hr:=A4 hI he (by simp)
    simp only [AS] at hr
    obtain ⟨b',h5,h6⟩:=hr ⟨ds,hq⟩
    rw [h1] at h5
    simp only [Value.pointer.injEq,zzY,Addr.mk.injEq,and_true,and_self] at h5
    subst h5
    exact ⟨b,off,vs,h6,h2,h3,h7,h4⟩
   ·cases hc
  | undef=>rw [he] at hc; simp [BO] at hc
  | sk=>rw [he] at hc; simp [BO] at hc
  | xo n es=>rw [he] at hc; simp [BO] at hc
  | la q i=>rw [he] at hc; simp [BO] at hc
  | oag cs=>rw [he] at hc; simp [BO] at hc
  | lp q i c=>rw [he] at hc; simp [BO] at hc
  | ow t=>rw [he] at hc; simp [BO] at hc
  | tp ts=>rw [he] at hc; simp [BO] at hc
theorem dE (hI:AT F0 w0 env a w G) (hd:d<a.tmps.size) {x:Operand} {y:AJ} {t:TypeId} (hop:o.op=.load t x) (hok:AP x y=true) (ht:DH P t=some false) (h:(AH.ld y).wp S env (some d) K):BS P F0 w0 a w o d K:=by
 simp only [AH.wp] at h
 cases hc:BO env (y.ev env) with
 | none=>rw [hc] at h; exact h.elim
 | some cs=>
  rw [hc] at h
  simp only [A6] at h
  obtain ⟨b,off,vs,h1,h2,h3,_,h4⟩:=NV hI hok hc
  cases cs with
  | nil=>simp [HM] at h
  | cons u r=>
   simp only [HM] at h
   replace h:=h.2
   simp only [AQ] at h2
   obtain ⟨v,r',rfl,h5,h6⟩:=h2
   have h7:=h4 0 v rfl
   rw [Addr.add_zero'] at h7
   refine DJ hI hd (v:=v) ?_ h5 h3.1 h
   simp [execOp,hop,h1,Instr.loadAt,Instr.sureAddr,loadVar,E4 ht,h7]
theorem Uy (hI:AT F0 w0 env a w G) (hd:d<a.tmps.size) {x:Operand} {y:AJ} {t:TypeId} {n:Nat} (hop:o.op=.load t x) (hok:AP x y=true) (ht:DH P t=some true) (hn:EU P t=some n) (h:(AH.lda y n).wp S env (some d) K):BS P F0 w0 a w o d K:=by
 simp only [AH.wp] at h
 cases hc:BO env (y.ev env) with
 | none=>rw [hc] at h; exact h.elim
 | some cs=>
  rw [hc] at h
  simp only [A6] at h
  obtain ⟨b,off,vs,h1,h2,h3,h1c,h4⟩:=NV hI hok hc
  have hl:=CC h2
  have hrun:=run_loadCells_list (P:=P) w ⟨b,off,none⟩ (vs.take n) (fun j v hv=>h4 j v (by rw [List.getElem?_take] at hv; split at hv <;> simp_all))
  rw [List.length_take,Nat.min_eq_left (by omega)] at hrun
  refine DJ hI hd (v:=.agg (vs.take n).toArray) (t:=.agg (cs.take n)) ?_ ?_ ?_ h.2
  ·simp [execOp,hop,h1,Instr.loadAt,Instr.sureAddr,loadVar,E4 ht,DT hn,hrun]
  ·simp only [A1]
   refine ⟨_,rfl,?_,by rw [List.all_eq_true]; exact fun x hx=>h1c x (List.mem_of_mem_take hx)⟩
   rw [CD] at h2 ⊢
   refine ⟨by simp [hl],fun i t v hi hv=>?_⟩
   simp only [List.getElem?_take] at hi hv
   split at hi
   ·rename_i hlt
    rw [if_pos hlt] at hv
    exact h2.2 i t v hi hv
   ·cases hi
  ·simp only [TV.WF]
   rw [CJ] at h3 ⊢
   exact fun t ht=>h3 t (List.mem_of_mem_take ht)
theorem Z8 (hI:AT F0 w0 env a w G) (hd:d<a.tmps.size) {x i:Operand} {y j:AJ} {t:TypeId} {n:Nat} (hop:o.op=.indexAddr t x i) (hok:AP x y=true) (hok':AP i j=true) (ht:KB P t=some n) (h:(AH.iad y j n).wp S env (some d) K):BS P F0 w0 a w o d K:=by
 simp only [AH.wp] at h
 split at h
 ·rename_i m es k jj hx hj
  obtain ⟨rfl,h0,e,he,hK⟩:=h
  have h1:=BL hI hok hx
  have h2:=BL hI hok' hj
  simp only [A1] at h2
  obtain ⟨p,hr,hp⟩:=W9 (P:=P) (k:=k) ht h1.1 h0 he
  refine DJ hI hd (v:=p) (by simp [execOp,hop,h2.1,hr]) hp ?_ hK
  simp only [TV.WF] at h1 ⊢
  have:=CJ.1 h1.2.2 e (List.mem_of_getElem? he)
  exact JS this
 ·exact h.elim
theorem Yk (hI:AT F0 w0 env a w G) (hd:d<a.tmps.size) {x i:Operand} {y j:AJ} {t:TypeId} (hop:o.op=.index t x i) (hok:AP x y=true) (hok':AP i j=true) (ht:P.underlying t=some .string) (h:(AH.sidx y j).wp S env (some d) K):BS P F0 w0 a w o d K:=by
 simp only [AH.wp] at h
 split at h
 ·rename_i s k jj hx hj
  obtain ⟨h0,b,hb,hK⟩:=h
  have h1:=BL hI hok hx
  have h2:=BL hI hok' hj
  simp only [A1] at h1 h2
  refine DJ hI hd (v:=.int .u8 b.toNat) (t:=.int .u8 b.toNat) ?_ rfl ⟨by simp [IntKind.min,IntKind.signed],?_⟩ hK
  ·simp [execOp,hop,h1.1,h2.1,Instr.index,asIntOf,run_underlying ht,h0,hb]
  ·have:=b.toNat_lt
   simp [IntKind.max,IntKind.signed,IntKind.bits]; omega
 ·exact h.elim
theorem Vo {x:Operand} {t:TypeId} {f k:Nat} (hop:o.op=.fieldAddr t x f) (ht:ND P t f=some k):∀ b off,a.eval x=.pointer (some ⟨b,off,none⟩)->(execOp a.eval o).run P w=.ok (.value (.pointer (some ⟨b,off+k,none⟩))) w:=by
 intro b off h
 simp [execOp,hop,h,Pl ht]
theorem Mz {x:Operand} (hop:o.op=.move x∨o.op=.assign x∨o.op=.nilCheck x):∀ b off,a.eval x=.pointer (some ⟨b,off,none⟩)->(execOp a.eval o).run P w=.ok (.value (.pointer (some ⟨b,off+0,none⟩))) w:=by
 intro b off h
 rcases hop with hop | hop | hop <;> simp [execOp,hop,h]
theorem Ov (hI:AT F0 w0 env a w G) (hd:d<a.tmps.size) {x:Operand} {y:AJ} {k:Nat} (hrun:∀ b off,a.eval x=.pointer (some ⟨b,off,none⟩)->(execOp a.eval o).run P w=.ok (.value (.pointer (some ⟨b,off+k,none⟩))) w) (hok:AP x y=true) (h:(AH.fad y k).wp S env (some d) K):BS P F0 w0 a w o d K:=by
 simp only [AH.wp] at h
 split at h
 ·rename_i row he
  have h1:=Rt hI hok he
  simp only [A1,TV.WF] at h1
  obtain ⟨⟨b,off,h2,h3⟩,h4⟩:=h1
  refine DJ hI hd (v:=.pointer (some ⟨b,off+k,none⟩)) (t:=.pt (row.drop k)) (hrun _ _ h2) ?_ ?_ h
  ·simp only [A1]
   exact ⟨b,_,rfl,MH h3 k⟩
  ·simp only [TV.WF]
   rw [CJ] at h4 ⊢
   exact fun t ht=>h4 t (List.mem_of_mem_drop ht)
 ·rename_i q off he
  cases y with
  | c t=>simp [AJ.ev] at he
  | s n=>
   cases x <;> simp [AP] at hok
   subst hok
   rename_i n
   simp only [AJ.ev] at he
   have hr:=A4 hI he (by simp)
   simp only [AS] at hr
   split at h
   ·rename_i cs0 hq
    obtain ⟨b,h5,h6⟩:=hr ⟨cs0,hq⟩
    refine ⟨.pointer (some ⟨b,off+k,none⟩),w,hrun _ _ h6,_,_,h,_,hI.quiet (Below.refl _ _) d hd (.bp q (off+k)) _ (fun _=>none) (by simp) (by simp) (by simp) ?_ trivial⟩
    simp only [AS]
    rintro ⟨cs,hcs⟩
    rw [AC.get_cons] at hcs
    by_cases hdq:d=q
    ·rw [if_pos hdq] at hcs; cases hcs
    ·exact ⟨b,by rw [BD _ _ _ _ hdq]; exact h5,rfl⟩
   ·exact h.elim
 ·exact h.elim
theorem NO (hI:AT F0 w0 env a w G) (hd:d<a.tmps.size) {s:Nat} {k:Nat} (hrun:∀ b off,a.eval (.tmp s)=.pointer (some ⟨b,off,none⟩)->(execOp a.eval o).run P w=.ok (.value (.pointer (some ⟨b,off+k,none⟩))) w) (h:(AH.bad s k).wp S env (some d) K):BS P F0 w0 a w o d K:=by
 simp only [AH.wp] at h
 split at h
 ·rename_i cs he
  have hr:=A4 hI he (by simp)
  simp only [AS] at hr
  obtain ⟨b,c,T,h1,_⟩:=hr
  refine ⟨.pointer (some ⟨b,0+k,none⟩),w,hrun _ _ h1,_,_,h,_,hI.quiet (Below.refl _ _) d hd (.bp s k) _ (fun _=>none) (by simp) (by simp) (by simp) ?_ trivial⟩
  simp only [AS]
  rintro ⟨cs',hcs⟩
  rw [AC.get_cons] at hcs
  by_cases hdq:d=s
  ·rw [if_pos hdq] at hcs; cases hcs
  ·exact ⟨b,by rw [BD _ _ _ _ hdq]; exact h1,by simp⟩
 ·rename_i row he
  have h1:=Rt hI (x:=.tmp s) (y:=.s s) (by simp [AP]) he
  simp only [A1,TV.WF] at h1
  obtain ⟨⟨b,off,h2,h3⟩,h4⟩:=h1
  refine DJ hI hd (v:=.pointer (some ⟨b,off+k,none⟩)) (t:=.pt (row.drop k)) (hrun _ _ h2) ?_ ?_ h
  ·simp only [A1]
   exact ⟨b,_,rfl,MH h3 k⟩
  ·simp only [TV.WF]
   rw [CJ] at h4 ⊢
   exact fun t ht=>h4 t (List.mem_of_mem_drop ht)
 ·exact h.elim
theorem Zx (hI:AT F0 w0 env a w G) (hd:d<a.tmps.size) {x i:Operand} {y j:AJ} {t e:TypeId} {n k:Nat} (hop:o.op=.indexAddr t x i) (hok:AP x y=true) (hok':AP i j=true) (ht:P.underlying t=some (.array k e)) (hn:EU P e=some n)
  (h:(AH.aad y j n k).wp S env (some d) K):BS P F0 w0 a w o d K:=by
 simp only [AH.wp] at h
 split at h
 ·rename_i row kk jj hx hj
  obtain ⟨h0,h1,h2,hK⟩:=h
  have h3:=(BL hI hok' hj).1
  simp only [A1] at h3
  have hp:∃ b off,a.eval x=.pointer (some ⟨b,off,none⟩)∧D7 w (AY w0.heap.size F0 G) row b off∧TV.WFs row:=by
   have:=Rt hI hok hx
   simp only [A1,TV.WF] at this
   obtain ⟨⟨b,o,h1,h2⟩,h3⟩:=this
   exact ⟨b,o,h1,h2,h3⟩
  obtain ⟨b,off,h4,h5,h6⟩:=hp
  have hj:0<=jj∧jj<(k:Int):=⟨h0,h1⟩
  refine DJ hI hd (v:=.pointer (some ⟨b,off+jj.toNat*n,none⟩)) (t:=.pt (row.drop (jj.toNat*n))) ?_ ?_ ?_ hK
  ·simp [execOp,hop,h3,h4,Instr.indexAt,asIntOf,run_underlying ht,hj,Instr.sureAddr,DT hn,Addr.add_lit]
  ·simp only [A1]
   exact ⟨b,_,rfl,MH h5 _⟩
  ·simp only [TV.WF]
   rw [CJ] at h6 ⊢
   exact fun t ht=>h6 t (List.mem_of_mem_drop ht)
 ·exact h.elim
def Wp (P:Program) (t:TypeId) (j:Operand) (k:Nat):Bool:=
 match j,P.underlying t with
 | .const (.int _ i),some (.array m e)=>decide (0<=i)&&decide (i<(m:Int))&&(match EU P e with
  | some n=>i.toNat*n==k
  | none=>false)
 | _,_=>false
theorem bX {P:Program} {o:Oper} {a:Act} {w:World} {t:TypeId} {s:Nat} {j:Operand} {k:Nat} (hop:o.op=.indexAddr t (.tmp s) j) (hok:Wp P t j k=true) (b off:Nat) (h:a.eval (.tmp s)=.pointer (some ⟨b,off,none⟩)):(execOp a.eval o).run P w=.ok (.value (.pointer (some ⟨b,off+k,none⟩))) w:=by
 unfold Wp at hok
 split at hok
 ·rename_i kk i m e ht
  simp only [zzZ,zzX] at hok
  obtain ⟨⟨h0,h1⟩,h2⟩:=hok
  split at h2
  ·rename_i n hn
   simp only [beq_iff_eq] at h2
   subst h2
   have hj:0<=i∧i<(m:Int):=⟨h0,h1⟩
   have hc:a.eval (.const (.int kk i))=.int kk i:=rfl
   simp [execOp,hop,h,hc,Instr.indexAt,asIntOf,run_underlying ht,hj,Instr.sureAddr,DT hn,Addr.add_lit]
  ·cases h2
 ·cases hok
def PQ (g:TypeId->Option (List Nat)) (P:Program):List Field->Nat->Option (List Nat)
 | [],_=>some []
 | f::fs,off=>match g f.type with
  | some ks => if (f.name ≠ "_" ∧ f.offset = off) ∧ EU P f.type = some ks.length then (match PQ g P fs (off + ks.length) with | some r => some (ks ++ r) | none => none) else none
  | none=>none
def Mm (P:Program):Nat->TypeId->Option (List Nat)
 | 0,_=>none
 | k+1,t=>match P.underlying t with
  | some (.int _)=>some [0]
  | some .string=>some [1]
  | some .bool=>some [2]
  | some (.struct fs)=>if P.stoodInHeld t then none else PQ (Mm P k) P fs.toList 0
  | _=>none
def Of (P:Program):BK->TypeId->Bool
 | .i,_=>true
 | .s,_=>true
 | .w,_=>true
 | .b,t=>match P.underlying t with | some .bool=>true | _=>false
 | .a n,t=>DH P t==some true&&!P.eqGuardType P.depth t&&Mm P 8 t==some n
def TV.leafV:TV->Value
 | .int k n=>.int k n
 | .str s=>.string s
 | .bool b=>.bool b
 | _=>Go.undef
def TV.leafB:TV->Bool
 | .int _ _=>true
 | .str _=>true
 | .bool _=>true
 | _=>false
theorem N1:∀ {cs ds:List TV} {r:Bool},CN cs ds=some r->cs.length=ds.length∧(∀ t∈cs,t.leafB=true)∧(∀ t∈ds,t.leafB=true)
 | [],[],_,_=>by simp
 | [],_::_,_,h=>by simp [CN] at h
 | c::cs,[],_,h=>by cases c <;> simp [CN] at h
 | c::cs,d::ds,r,h=>by
  have key:∀ r',CN cs ds=some r'->c.leafB=true->d.leafB=true->(c::cs).length=(d::ds).length∧(∀ t∈c::cs,t.leafB=true)∧(∀ t∈d::ds,t.leafB=true):=by
   intro r' hq h1 h2
   obtain ⟨e1,e2,e3⟩:=N1 hq
   refine ⟨by simp [e1],?_,?_⟩
   ·intro t ht
    rcases List.mem_cons.1 ht with rfl | ht
    ·exact h1
    ·exact e2 t ht
   ·intro t ht
    rcases List.mem_cons.1 ht with rfl | ht
    ·exact h2
    ·exact e3 t ht
  cases c <;> cases d <;> simp only [CN,reduceCtorEq] at h
  ·split at h
   ·split at h
    ·rename_i q hq; exact key q hq rfl rfl
    ·cases h
   ·cases h
  ·split at h
   ·rename_i q hq; exact key q hq rfl rfl
   ·cases h
  ·split at h
   ·rename_i q hq; exact key q hq rfl rfl
   ·cases h
theorem Zk {F:Nat->Nat->Prop} {t:TV} {v:Value} (hl:t.leafB=true) (h:A1 w F t v):v=t.leafV:=by
 cases t <;> simp only [TV.leafB,reduceCtorEq] at hl <;> exact h
theorem N3 {F:Nat->Nat->Prop}:∀ {cs:List TV} {xs:List Value},(∀ t∈cs,t.leafB=true)->AQ w F cs xs->xs=cs.map TV.leafV
 | [],_,_,h=>h
 | c::cs,xs,hl,h=>by
  simp only [AQ] at h
  obtain ⟨v,r,rfl,h1,h2⟩:=h
  rw [Zk (hl c (by simp)) h1,N3 (fun t ht=>hl t (by simp [ht])) h2]
  rfl
theorem LN:∀ (m:Nat) {cs ds:List TV} {r:Bool},CN cs ds=some r->∃ r1 r2,CN (cs.take m) (ds.take m)=some r1∧CN (cs.drop m) (ds.drop m)=some r2∧r=(r1&&r2)
 | 0,cs,ds,r,h=>⟨true,r,by simp [CN],by simpa using h,by simp⟩
 | m+1,[],[],r,h=>by
  simp only [CN,zzY] at h
  subst h
  exact ⟨true,true,by simp [CN],by simp [CN],rfl⟩
 | m+1,[],_::_,_,h=>by simp [CN] at h
 | m+1,c::cs,[],_,h=>by cases c <;> simp [CN] at h
 | m+1,c::cs,d::ds,r,h=>by
  cases c <;> cases d <;> simp only [CN,reduceCtorEq] at h
  ·split at h
   ·rename_i hk
    split at h
    ·rename_i q hq
     obtain ⟨r1,r2,e1,e2,e3⟩:=LN m hq
     simp only [zzY] at h
     refine ⟨_,r2,by simp only [List.take_succ_cons,CN,if_pos hk,e1]; rfl,by simpa using e2,by rw [←h,e3,Bool.and_assoc]⟩
    ·cases h
   ·cases h
  ·split at h
   ·rename_i q hq
    obtain ⟨r1,r2,e1,e2,e3⟩:=LN m hq
    simp only [zzY] at h
    refine ⟨_,r2,by simp only [List.take_succ_cons,CN,e1]; rfl,by simpa using e2,by rw [←h,e3,Bool.and_assoc]⟩
   ·cases h
  ·split at h
   ·rename_i q hq
    obtain ⟨r1,r2,e1,e2,e3⟩:=LN m hq
    simp only [zzY] at h
    refine ⟨_,r2,by simp only [List.take_succ_cons,CN,e1]; rfl,by simpa using e2,by rw [←h,e3,Bool.and_assoc]⟩
   ·cases h
def KK (P:Program) (t:TypeId) (vs:List Value):Value:=if DH P t=some true then .agg vs.toArray else vs.headD Go.undef
theorem NZ:∀ {cs ds:List TV} {r:Bool},CN cs ds=some r->ds.map TV.kd=cs.map TV.kd
 | [],[],_,_=>rfl
 | [],_::_,_,h=>by simp [CN] at h
 | c::cs,[],_,h=>by cases c <;> simp [CN] at h
 | c::cs,d::ds,r,h=>by
  cases c <;> cases d <;> simp only [CN,reduceCtorEq] at h
  ·split at h
   ·split at h
    ·rename_i q hq; simp only [List.map_cons,NZ hq,TV.kd]
    ·cases h
   ·cases h
  ·split at h
   ·rename_i q hq; simp only [List.map_cons,NZ hq,TV.kd]
   ·cases h
  ·split at h
   ·rename_i q hq; simp only [List.map_cons,NZ hq,TV.kd]
   ·cases h
theorem Sp (k:Nat) (ih:∀ (t:TypeId) (n:List Nat),Mm P k t=some n->∀ d,k<=d->∀ (cs ds:List TV) (r:Bool),cs.map TV.kd=n->CN cs ds=some r->(Op.equalIn d t (KK P t (cs.map TV.leafV)) (KK P t (ds.map TV.leafV))).run P w=.ok r w) :
  ∀ (fs:List Field) (off:Nat) (n:List Nat),PQ (Mm P k) P fs off=some n->∀ d,k<=d->∀ (pre pre':List Value) (cs ds:List TV) (r:Bool),pre.length=off->pre'.length=off->cs.map TV.kd=n->CN cs ds=some r ->
   (Op.eqFields d (pre++cs.map TV.leafV).toArray (pre'++ds.map TV.leafV).toArray fs).run P w=.ok r w
 | [],off,n,hf,d,hd,pre,pre',cs,ds,r,h1,h2,h3,h=>by
  simp only [PQ,zzY] at hf
  subst hf
  have:cs=[]:=List.map_eq_nil_iff.1 h3
  subst this
  cases ds <;> simp [CN] at h
  subst h
  simp [Op.eqFields]
 | f::fs,off,n,hf,d,hd,pre,pre',cs,ds,r,h1,h2,h3,h=>by
  simp only [PQ] at hf
  split at hf
  ·rename_i ks hm
   split at hf
   ·rename_i hc
    split at hf
    ·rename_i rest hrest
     simp only [zzY] at hf
     subst hf
     obtain ⟨⟨hn,ho⟩,hsz⟩:=hc
     have hcl:cs.length=ks.length+rest.length:=by
      have:=congrArg List.length h3
      simpa using this
     obtain ⟨r1,r2,e1,e2,rfl⟩:=LN ks.length h
     have hlen:=(N1 h).1
     have hdl:ds.length=ks.length+rest.length:=by omega
     have hk1:(cs.take ks.length).map TV.kd=ks:=by rw [List.map_take,h3,List.take_left']; rfl
     have hk2:(cs.drop ks.length).map TV.kd=rest:=by rw [List.map_drop,h3,List.drop_left']; rfl
     have hi:=ih f.type ks hm d hd (cs.take ks.length) (ds.take ks.length) r1 hk1 e1
     have hrec:=Sp k ih fs (off+ks.length) rest hrest d hd (pre++(cs.take ks.length).map TV.leafV) (pre'++(ds.take ks.length).map TV.leafV) (cs.drop ks.length) (ds.drop ks.length) r2 (by simp; omega) (by simp; omega) hk2 e2
     have hjoin:∀ (pre:List Value) (cs:List TV),pre++(cs.take ks.length).map TV.leafV++(cs.drop ks.length).map TV.leafV=pre++cs.map TV.leafV:=by
      intro pre cs
      rw [List.append_assoc,←List.map_append,List.take_append_drop]
     rw [hjoin,hjoin] at hrec
     have hpart:∀ (pre:List Value) (cs:List TV),pre.length=off->ks.length<=cs.length->(0<ks.length∨DH P f.type=some true)->(∃ b,DH P f.type=some b)->(part f.type (pre++cs.map TV.leafV).toArray f.offset).run P w=.ok (KK P f.type ((cs.take ks.length).map TV.leafV)) w:=by
      intro pre cs hp hmc hor hb
      obtain ⟨b,hb⟩:=hb
      cases b with
      | true=>
       simp only [part,Sem.run_bind,E4 hb,Result.andThen_ok,if_true,DT hsz,Sem.run_pure,KK,hb]
       congr 2
       rw [List.extract_toArray,List.extract_eq_take_drop,ho,←hp,List.drop_left,Nat.add_sub_cancel_left,←List.map_take]
      | false=>
       have h0:0<ks.length:=by
        rcases hor with h | h
        ·exact h
        ·rw [hb] at h; cases h
       cases cs with
       | nil=>exact absurd (Nat.lt_of_lt_of_le h0 hmc) (by simp)
       | cons c cs=>
        obtain ⟨m',hm'⟩:∃ m',ks.length=m'+1:=⟨ks.length - 1,by omega⟩
        have:((pre++(c::cs).map TV.leafV).toArray)[f.offset]?=some c.leafV:=by
         rw [List.getElem?_toArray,ho,←hp,List.getElem?_append_right (Nat.le_refl _),Nat.sub_self]; rfl
        simp only [part,Sem.run_bind,E4 hb,Result.andThen_ok,Bool.false_eq_true,if_false,this,Sem.run_pure,KK,hb,hm']
        simp
     have hb:(∃ b,DH P f.type=some b)∧(0<ks.length∨DH P f.type=some true):=by
      cases k with
      | zero=>simp [Mm] at hm
      | succ k=>
       simp only [Mm] at hm
       unfold DH
       split at hm <;> rename_i hu
       ·simp only [zzY] at hm; subst hm; rw [hu]; exact ⟨⟨_,rfl⟩,.inl (by simp)⟩
       ·simp only [zzY] at hm; subst hm; rw [hu]; exact ⟨⟨_,rfl⟩,.inl (by simp)⟩
       ·simp only [zzY] at hm; subst hm; rw [hu]; exact ⟨⟨_,rfl⟩,.inl (by simp)⟩
       ·rw [hu]; exact ⟨⟨_,rfl⟩,.inr rfl⟩
       ·cases hm
     have p1:=hpart pre cs h1 (by omega) hb.2 hb.1
     have p2:=hpart pre' ds h2 (by omega) hb.2 hb.1
     simp only [Op.eqFields,Sem.run_bind,Sem.run_ite,if_pos hn,p1,p2,hi,Result.andThen_ok]
     cases r1 with
     | true=>simpa using hrec
     | false=>simp
    ·cases hf
   ·cases hf
  ·cases hf
theorem Xi (a b:ByteArray):(a.toList==b.toList)=decide (a=b):=by
 rw [Bool.eq_iff_iff,beq_iff_eq,zzX]
 refine ⟨fun h=>?_,fun h=>by rw [h]⟩
 rw [ByteArray.toList_eq,ByteArray.toList_eq] at h
 cases a; cases b
 simpa using h
theorem Vn:∀ (k:Nat) (t:TypeId) (n:List Nat),Mm P k t=some n->∀ d,k<=d->∀ (cs ds:List TV) (r:Bool),cs.map TV.kd=n->CN cs ds=some r->(Op.equalIn d t (KK P t (cs.map TV.leafV)) (KK P t (ds.map TV.leafV))).run P w=.ok r w
 | 0,_,_,h,_,_,_,_,_,_,_=>by simp [Mm] at h
 | k+1,t,n,hf,d,hd,cs,ds,r,hl,h=>by
  obtain ⟨d,rfl⟩:∃ d',d=d'+1:=⟨d - 1,by omega⟩
  have hkd:=NZ h
  simp only [Mm] at hf
  have one:∀ x,n=[x]->DH P t=some false->∃ c e,cs=[c]∧ds=[e]∧c.kd=x∧e.kd=x∧KK P t (cs.map TV.leafV)=c.leafV∧KK P t (ds.map TV.leafV)=e.leafV:=by
   intro x h1 h2
   rw [h1] at hl
   match cs,ds,hl,hkd with
   | [c],[e],h3,h4=>
    simp only [List.map_cons,List.map_nil,List.cons.injEq,and_true] at h3 h4
    exact ⟨c,e,rfl,rfl,h3,by rw [h4,h3],by simp [KK,h2],by simp [KK,h2]⟩
   | [],_,h3,_=>simp at h3
   | [c],[],_,h4=>simp at h4
   | [c],_::_::_,_,h4=>simp at h4
   | _::_::_,_,h3,_=>simp at h3
  split at hf <;> rename_i hu
  ·simp only [zzY] at hf
   obtain ⟨c,e,rfl,rfl,k1,k2,e1,e2⟩:=one 0 hf.symm (by simp [DH,hu])
   rw [e1,e2]
   cases c <;> first | (simp [TV.kd] at k1; done) | skip
   cases e <;> first | (simp [TV.kd] at k2; done) | skip
   simp only [CN] at h
   split at h
   ·rename_i hk
    subst hk
    simp only [zzY,Bool.and_true] at h
    simp only [TV.leafV]
    rw [run_equalIn_int (P:=P) w d t _ _ _ _ hu,←h]
    congr 1
   ·cases h
  ·simp only [zzY] at hf
   obtain ⟨c,e,rfl,rfl,k1,k2,e1,e2⟩:=one 1 hf.symm (by simp [DH,hu])
   rw [e1,e2]
   cases c <;> first | (simp [TV.kd] at k1; done) | skip
   cases e <;> first | (simp [TV.kd] at k2; done) | skip
   simp only [CN,zzY,Bool.and_true] at h
   simp only [TV.leafV]
   rw [run_equalIn_string (P:=P) w d t _ _ hu,←h]
   congr 1
   exact Xi _ _
  ·simp only [zzY] at hf
   obtain ⟨c,e,rfl,rfl,k1,k2,e1,e2⟩:=one 2 hf.symm (by simp [DH,hu])
   rw [e1,e2]
   cases c <;> first | (simp [TV.kd] at k1; done) | skip
   cases e <;> first | (simp [TV.kd] at k2; done) | skip
   simp only [CN,zzY,Bool.and_true] at h
   simp only [TV.leafV]
   rw [run_equalIn_bool' (P:=P) w d t _ _ hu,←h]
   congr 1
  ·split at hf
   ·cases hf
   ·rename_i fs hs
    have hag:DH P t=some true:=by simp [DH,hu]
    have hfs:P.fieldsOf t=fs:=by simp [Program.fieldsOf,hu]
    simp only [KK,hag,if_true]
    rw [run_equalIn_struct w d t _ _ (by rw [hfs]; exact hu) (by simpa using hs),hfs]
    exact Sp k (Vn k) fs.toList 0 n hf d (by omega) [] [] cs ds r rfl rfl hl h
  ·cases hf
theorem Ut {op:BinOp} {t:TypeId} {x y:Operand} {vx vy:Value} {cs ds:List TV} {q:Bool} {n:List Nat} (hn:cs.map TV.kd=n) {F:Nat->Nat->Prop} (hk:Of P (.a n) t=true) (hx:A1 w F (.agg cs) vx) (hy:A1 w F (.agg ds) vy) (hq:CN cs ds=some q) :
  ∃ xs ys,vx=.agg xs∧vy=.agg ys∧(eqGuard op t x y (.agg xs) (.agg ys)).run P w=.ok () w∧(Op.equalIn 10000 t (.agg xs) (.agg ys)).run P w=.ok q w:=by
 simp only [A1] at hx hy
 obtain ⟨xs,rfl,hx,_⟩:=hx
 obtain ⟨ys,rfl,hy,_⟩:=hy
 simp only [Of,zzZ,Bool.not_eq_true'] at hk
 obtain ⟨⟨h1,h2⟩,h3⟩:=hk
 obtain ⟨hl,hci,hdi⟩:=N1 hq
 refine ⟨xs,ys,rfl,rfl,run_eqGuard_agg w op t x y xs ys h2,?_⟩
 simp only [beq_iff_eq] at h1 h3
 have hxx:=N3 hci hx
 have hyy:=N3 hdi hy
 have:=Vn (P:=P) (w:=w) 8 t n h3 10000 (by omega) cs ds q hn hq
 simp only [KK,h1,if_true,←hxx,←hyy] at this
 simpa using this
theorem cl {op:BinOp} {t:TypeId} {x y:Operand} {k k':IntKind} {a b r:Int} {F:Nat->Nat->Prop} (hk:k=k'∨op=.shl∨op=.shr) (hb:KW k op a b=some r) :
  ∃ v,(do eqGuard op t x y (.int k a) (.int k' b); binOp op t (.int k a) (.int k' b):Sem Value).run P w=.ok v w∧A1 w F (.int k r) v∧(TV.int k r).WF:=by
 have bits:∀ (op:BinOp) (q:Value),k=k'->(op=.and∨op=.or∨op=.xor∨op=.andNot)->(Op.intBits op k a b).run P w=.ok q w->(do eqGuard op t x y (.int k a) (.int k' b); binOp op t (.int k a) (.int k' b):Sem Value).run P w=.ok q w:=by
  intro op q e ho h
  subst e
  rcases ho with rfl | rfl | rfl | rfl <;> simpa [eqGuard,binOp] using h
 cases op <;> simp only [KW] at hb <;> try (cases hb; done)
 case and=>cases hb; exact ⟨_,bits _ _ (by simpa using hk) (by simp) rfl,rfl,KL _ _⟩
 case or=>cases hb; exact ⟨_,bits _ _ (by simpa using hk) (by simp) rfl,rfl,KL _ _⟩
 case xor=>cases hb; exact ⟨_,bits _ _ (by simpa using hk) (by simp) rfl,rfl,KL _ _⟩
 case andNot=>cases hb; exact ⟨_,bits _ _ (by simpa using hk) (by simp) rfl,rfl,KL _ _⟩
 case shl=>
  split at hb
  ·rename_i h0
   cases hb
   exact ⟨_,by simp [eqGuard,binOp,Op.shift,Int.not_lt.2 h0],rfl,KL _ _⟩
  ·cases hb
 case shr=>
  split at hb
  ·rename_i h0
   cases hb
   exact ⟨_,by simp [eqGuard,binOp,Op.shift,Int.not_lt.2 h0.1],rfl,h0.2⟩
  ·cases hb
theorem cj {k:BK} {op:BinOp} {t:TypeId} {x y:Operand} {vx vy:Value} {tx ty r:TV} {F:Nat->Nat->Prop} (hk:Of P k t=true) (hb:FD k op tx ty=some r) (hx:A1 w F tx vx) (hy:A1 w F ty vy) (hwx:tx.WF) (hwy:ty.WF) :
  ∃ v,(do eqGuard op t x y vx vy; binOp op t vx vy:Sem Value).run P w=.ok v w∧A1 w F r v∧r.WF:=by
 unfold FD at hb
 split at hb
 ·rename_i k a k' b
  simp only [A1] at hx hy
  subst hx; subst hy
  split at hb
  ·rename_i hkk
   subst hkk
   rw [Sem.run_bind,eqGuard_at_int,Sem.run_pure,Result.andThen_ok]
   have hdiv:op=.quo∨op=.rem∨(op≠.quo∧op≠.rem):=by cases op <;> simp
   rcases hdiv with rfl | rfl | ⟨hq,hr⟩
   ·by_cases h0:b=0
    ·simp [intCmp,intArith,h0] at hb
    ·simp [intCmp,intArith,h0] at hb
     subst hb
     exact ⟨_,by simp [binOp,Op.intDiv,h0],rfl,KL _ _⟩
   ·by_cases h0:b=0
    ·simp [intCmp,intArith,h0] at hb
    ·simp [intCmp,intArith,h0] at hb
     subst hb
     refine ⟨_,by simp [binOp,Op.intDiv,h0],rfl,?_⟩
     simp only [TV.WF] at hwx ⊢
     have h1:a.tmod b<=max a 0∧min a 0<=a.tmod b:=by
      have h2:=Int.natAbs_tmod a b
      have h3:=Nat.mod_le a.natAbs b.natAbs
      rcases Int.le_total 0 a with h | h
      ·have h6:=Int.tmod_nonneg (a:=a) b h; omega
      ·have h6:=Int.tmod_nonneg (a:=-a) b (by omega)
       rw [Int.neg_tmod] at h6; omega
     have h4:k.min<=0:=by cases k <;> decide
     have h5:0<=k.max:=by cases k <;> decide
     omega
   ·cases op <;> simp [intCmp,intArith] at hb hq hr <;> subst hb <;> (refine ⟨_,?_,rfl,?_⟩) <;> first | (simp [binOp,Op.intCmp,Op.intArith]; done) | exact trivial | exact KL _ _ | skip
    all_goals (simp [binOp,Op.intCmp]; rw [Bool.eq_iff_iff]; simp)
  ·cases hb
 ·rename_i op k a k' b
  simp only [A1] at hx hy
  subst hx; subst hy
  split at hb
  ·rename_i hkk
   split at hb
   ·rename_i r' hq
    simp only [zzY] at hb
    subst hb
    exact cl hkk hq
   ·cases hb
  ·cases hb
 ·simp only [A1] at hx hy
  subst hx; subst hy
  simp only [zzY] at hb
  subst hb
  exact ⟨_,by simp [eqGuard,binOp,Op.stringOp,beq_toListBytes],rfl,trivial⟩
 ·simp only [A1] at hx hy
  subst hx; subst hy
  simp only [zzY] at hb
  subst hb
  exact ⟨_,by simp [eqGuard,binOp,Op.stringOp,beq_toListBytes],rfl,trivial⟩
 ·simp only [A1] at hx hy
  subst hx; subst hy
  rename_i u1 u2
  split at hb
  ·rename_i hsz
   simp only [zzY] at hb
   subst hb
   have hmx:¬ (((u1.size+u2.size:Nat):Int) > IntKind.i64.max):=by
    have hm:IntKind.i64.max=9223372036854775807:=by decide
    rw [hm]
    have:=hsz
    unfold B9 at this
    omega
   refine ⟨_,by simp only [eqGuard,binOp,Op.stringOp]; rw [if_neg hmx]; simp,rfl,by simp only [TV.WF,ByteArray.size_append]; exact Rl hsz⟩
  ·cases hb
 ·simp only [A1] at hx hy
  subst hx; subst hy
  simp only [zzY] at hb
  subst hb
  have ht:P.underlying t=some .bool:=by
   simp only [Of] at hk
   split at hk
   ·assumption
   ·cases hk
  exact ⟨_,by simp [eqGuard_at_bool,binOp,Op.equal,Op.maxDepth,run_equalIn_bool' (P:=P) w _ t _ _ ht],rfl,trivial⟩
 ·simp only [A1] at hx hy
  subst hx; subst hy
  simp only [zzY] at hb
  subst hb
  have ht:P.underlying t=some .bool:=by
   simp only [Of] at hk
   split at hk
   ·assumption
   ·cases hk
  exact ⟨_,by simp [eqGuard_at_bool,binOp,Op.equal,Op.maxDepth,run_equalIn_bool' (P:=P) w _ t _ _ ht],rfl,trivial⟩
 ·rename_i cs ds
  split at hb
  ·rename_i hn
   split at hb
   ·rename_i q hq
    simp only [zzY] at hb
    subst hb
    obtain ⟨xs,ys,rfl,rfl,h1,h2⟩:=Ut (op:=.eql) (x:=x) (y:=y) hn hk hx hy hq
    exact ⟨_,by simp only [Sem.run_bind,h1,Result.andThen_ok,run_eql_struct,h2],rfl,trivial⟩
   ·cases hb
  ·cases hb
 ·rename_i cs ds
  split at hb
  ·rename_i hn
   split at hb
   ·rename_i q hq
    simp only [zzY] at hb
    subst hb
    obtain ⟨xs,ys,rfl,rfl,h1,h2⟩:=Ut (op:=.neq) (x:=x) (y:=y) hn hk hx hy hq
    exact ⟨_,by simp only [Sem.run_bind,h1,Result.andThen_ok,run_neq_struct,h2],rfl,trivial⟩
   ·cases hb
  ·cases hb
 ·cases hb
theorem Z0 {S:FuncId->List TV->CH->Prop} {F0:Nat->Nat->Prop} {w0:W0} {env:AC} {a:Act} {G:DE} {d:Nat} {o:Oper} {K:EV->AC->Prop} (hI:AT F0 w0 env a w G) (hd:d<a.tmps.size) {x x':Operand} {y y':AJ} {k:BK} {op:BinOp} {t t':TypeId}
  (hop:o.op=.binOp op t x x' t') (hk:Of P k t=true) (h1:AP x y=true) (h2:AP x' y'=true) (h:(AH.bin k op y y').wp S env (some d) K):BS P F0 w0 a w o d K:=by
 simp only [AH.wp] at h
 split at h
 ·rename_i tx ty hx hy
  cases hb:FD k op tx ty with
  | none=>rw [hb] at h; exact h.elim
  | some r=>
   rw [hb] at h
   have v1:=BL hI h1 hx
   have v2:=BL hI h2 hy
   obtain ⟨v,hr,h3,h4⟩:=cj (x:=x) (y:=x') hk hb v1.1 v2.1 v1.2 v2.2
   refine DJ hI hd (v:=v) ?_ h3 h4 h
   simp only [execOp,hop,Sem.run_bind] at hr ⊢
   rw [hr]
   rfl
 ·exact h.elim
end
end Go.Sf
namespace Go.Sf
open Go.RowKit (Below)
def LU:Option Operand->Option AJ->Bool
 | none,none=>true
 | some x,some y=>AP x y
 | _,_=>false
section
variable {P:Program} {S:FuncId->List TV->CH->Prop} {F0:Nat->Nat->Prop} {w0:W0} {env:AC} {a:Act} {w:World} {G:DE} {d:Nat} {o:Oper} {K:EV->AC->Prop}
theorem Pr (hI:AT F0 w0 env a w G) {x:Option Operand} {y:Option AJ} (hok:LU x y=true) {k:IntKind} {q l:Int} (hv:GH env q y=some (.int k l)) :
  (x=none∧l=q)∨∃ v k',x=some v∧a.eval v=.int k' l:=by
 cases y with
 | none=>
  cases x <;> simp [LU] at hok
  simp [GH] at hv
  exact .inl ⟨rfl,hv.2.symm⟩
 | some y=>
  cases x <;> simp [LU] at hok
  rename_i v
  have:=(BL hI hok (t:=.int k l) hv).1
  simp only [A1] at this
  exact .inr ⟨v,k,rfl,this⟩
theorem Ou {isS:Bool} {len cap:Nat} {lo hi:Option Value} {l h:Int} (h0:0<=l) (h1:l<=h) (h2:h<=len) (hc:len<=cap)
  (hlo:(lo=none∧l=0)∨∃ k,lo=some (.int k l)) (hhi:(hi=none∧h=len)∨∃ k,hi=some (.int k h)) :
  (Instr.sliceBounds isS len cap lo hi none).run P w=.ok (l.toNat,h.toNat,cap) w:=by
 rcases hlo with ⟨rfl,rfl⟩ | ⟨k,rfl⟩ <;> rcases hhi with ⟨rfl,rfl⟩ | ⟨k',rfl⟩
 ·simp [Instr.sliceBounds]
 ·simp [Instr.sliceBounds,run_sliceBound (P:=P) w k' h cap _ (by omega) (by omega)]
 ·simp [Instr.sliceBounds,run_sliceBound (P:=P) w k l len _ (by omega) (by omega)]
 ·simp [Instr.sliceBounds,run_sliceBound (P:=P) w k' h cap _ (by omega) (by omega),run_sliceBound (P:=P) w k l h.toNat _ (by omega) (by omega)]
theorem aH (hI:AT F0 w0 env a w G) (hd:d<a.tmps.size) {x:Operand} {y:AJ} {lo hi:Option Operand} {lo' hi':Option AJ} {t:TypeId} {n:Nat} (hop:o.op=.slice t x lo hi none) (hok:AP x y=true) (hl:LU lo lo'=true) (hh:LU hi hi'=true)
  (ht:KB P t=some n) (h:(AH.slc n y lo' hi').wp S env (some d) K):BS P F0 w0 a w o d K:=by
 simp only [AH.wp] at h
 split at h
 ·rename_i m es hv
  split at h
  ·rename_i k1 l k2 hb e1 e2
   obtain ⟨⟨hm,h0,h1⟩,h2,hK⟩:=h
   subst hm
   have h3:=BL hI hok hv
   simp only [A1] at h3
   obtain ⟨⟨ad,cap,h4,h5,h6,h7⟩,h8⟩:=h3
   have b1:=Pr hI hl e1
   have b2:=Pr hI hh e2
   unfold KB at ht
   split at ht
   ·rename_i e hu
    have hrun:=Ou (P:=P) (w:=w) (isS:=true) (lo:=lo.map a.eval) (hi:=hi.map a.eval) h0 h1 h2 h5
     (by rcases b1 with ⟨rfl,rfl⟩ | ⟨v,k',rfl,hv⟩ <;> simp [*]) (by rcases b2 with ⟨rfl,rfl⟩ | ⟨v,k',rfl,hv⟩ <;> simp [*])
    refine DJ hI hd (v:=.slice (if cap=l.toNat then ad else ad.map (·.add (l.toNat*m))) (hb.toNat - l.toNat) (cap - l.toNat)) (t:=.list m ((es.take hb.toNat).drop l.toNat)) ?_ ?_ ?_ hK
    ·simp [execOp,hop,Instr.sliceAt,Instr.slice,run_underlying hu,h4,hrun,DT ht]
    ·simp only [A1]
     refine ⟨if cap=l.toNat then ad else ad.map (·.add (l.toNat*m)),cap - l.toNat,by simp; omega,by simp; omega,fun ha=>?_,fun ad' had=>?_⟩
     ·have hes:es=[]∨l.toNat=hb.toNat:=by
       split at ha
       ·exact .inl (h6 ha)
       ·cases ad with
        | none=>exact .inl (h6 rfl)
        | some ad=>simp at ha
      rcases hes with rfl | hes
      ·simp
      ·apply List.eq_nil_of_length_eq_zero; simp; omega
     ·by_cases hc:cap=l.toNat
      ·have hnil:(es.take hb.toNat).drop l.toNat=[]:=by apply List.eq_nil_of_length_eq_zero; simp; omega
       rw [if_pos hc] at had
       rw [hnil]
       exact ⟨.inl rfl,trivial⟩
      ·rw [if_neg hc] at had
       cases ad with
       | none=>simp at had
       | some ad=>
        simp only [Option.map_some,zzY] at had
        subst had
        obtain ⟨h9,h10⟩:=h7 ad rfl
        obtain ⟨b,off,sp⟩:=ad
        simp only at h9 h10
        by_cases hes:es=[]
        ·have hnil:(es.take hb.toNat).drop l.toNat=[]:=by rw [hes]; simp
         rw [hnil]
         exact ⟨.inl rfl,trivial⟩
        have h9:sp=none:=h9.resolve_left hes
        subst h9
        rw [Addr.add_lit]
        refine ⟨.inr rfl,?_⟩
        rw [Ns] at h10 ⊢
        intro i e' he
        rw [List.getElem?_drop,List.getElem?_take] at he
        split at he
        ·have:=h10 (l.toNat+i) e' he
         rwa [show off+l.toNat*m+i*m=off+(l.toNat+i)*m from by rw [Nat.add_mul]; omega]
        ·cases he
    ·simp only [TV.WF] at h8 ⊢
     refine ⟨by simp; omega,?_⟩
     have h9:=CJ.1 h8.2
     exact CJ.2 fun t ht=>h9 t (List.mem_of_mem_take (List.mem_of_mem_drop ht))
   ·cases ht
  ·exact h.elim
 ·exact h.elim
theorem Ym (hI:AT F0 w0 env a w G) (hd:d<a.tmps.size) {x:Operand} {y:AJ} {lo hi:Option Operand} {lo' hi':Option AJ} {t:TypeId} (hop:o.op=.slice t x lo hi none) (hok:AP x y=true) (hl:LU lo lo'=true) (hh:LU hi hi'=true)
  (ht:P.underlying t=some .string) (h:(AH.sslc y lo' hi').wp S env (some d) K):BS P F0 w0 a w o d K:=by
 simp only [AH.wp] at h
 split at h
 ·rename_i s hv
  split at h
  ·rename_i k1 l k2 hb e1 e2
   obtain ⟨h0,h1,h2,hK⟩:=h
   have h3:=BL hI hok hv
   simp only [A1] at h3
   have b1:=Pr hI hl e1
   have b2:=Pr hI hh e2
   have hrun:=Ou (P:=P) (w:=w) (isS:=false) (lo:=lo.map a.eval) (hi:=hi.map a.eval) h0 h1 h2 (Nat.le_refl _)
     (by rcases b1 with ⟨rfl,rfl⟩ | ⟨v,k',rfl,hv⟩ <;> simp [*]) (by rcases b2 with ⟨rfl,rfl⟩ | ⟨v,k',rfl,hv⟩ <;> simp [*])
   refine DJ hI hd (v:=.string (s.extract l.toNat hb.toNat)) (t:=.str (s.extract l.toNat hb.toNat)) ?_ rfl ?_ hK
   ·simp [execOp,hop,Instr.sliceAt,Instr.slice,run_underlying ht,h3.1,hrun]
   ·have:=h3.2
    simp only [TV.WF,ByteArray.size_extract] at this ⊢
    omega
  ·exact h.elim
 ·exact h.elim
theorem V9 (hI:AT F0 w0 env a w G) (hd:d<a.tmps.size) {x x':Operand} {y y':AJ} {mx:Bool} {ts:Array TypeId}
  (hop:o.op=.call { callee:=.builtin (match mx with | true=>.max | false=>.min),args:=#[x,x'],argTypes:=ts })
  (h1:AP x y=true) (h2:AP x' y'=true) (h:(AH.mm mx y y').wp S env (some d) K):BS P F0 w0 a w o d K:=by
 simp only [AH.wp] at h
 split at h
 ·rename_i k p k' q hx hy
  obtain ⟨rfl,hK⟩:=h
  have v1:=BL hI h1 hx
  have v2:=BL hI h2 hy
  simp only [A1,TV.WF] at v1 v2
  refine DJ hI hd (v:=.int k (if mx then max p q else min p q)) (t:=.int k (if mx then max p q else min p q)) ?_ rfl ?_ hK
  ·cases mx
   ·simp [execOp,hop,resolve,invoke,builtin,v1.1,v2.1,Builtin.min_,Builtin.min2]
    rw [Int.min_def]; split <;> split <;> omega
   ·simp [execOp,hop,resolve,invoke,builtin,v1.1,v2.1,Builtin.max_,Builtin.max2]
    rw [Int.max_def]; split <;> split <;> omega
  ·simp only [TV.WF]
   split <;> omega
 ·exact h.elim
theorem Yf (hI:AT F0 w0 env a w G) (hd:d<a.tmps.size) {x:Operand} {y:AJ} {t:TypeId} (hop:o.op=.box t x) (hok:AP x y=true) (h:(AH.boxs y).wp S env (some d) K):BS P F0 w0 a w o d K:=by
 simp only [AH.wp] at h
 split at h
 ·rename_i u hv
  have h1:=BL hI hok hv
  have hb:Below w.heap.size w (w.alloc (.cells (a.eval x).cells t)):=(Below.refl _ _).alloc (Nat.le_refl _) _
  refine ⟨.pointer (some ⟨w.heap.size,0,none⟩),w.alloc (.cells (a.eval x).cells t),by simp [execOp,hop,Instr.box,newVar,newRow],_,_,h,hI.tv hb d hd (.pt u.cells) _ ?_ ?_⟩
  ·simp only [A1]
   refine ⟨_,_,rfl,?_⟩
   have hag:=KS (F0:=F0) (w0:=w0) (G:=G) hb d (fun _=>none) (by simp)
   ·have h2:=IY h1.1
    refine Nt (BI hag _ _ h2.1) h2.2 fun i v hi=>?_
    have hc:(w.alloc (.cells (a.eval x).cells t)).cell? ⟨w.heap.size,0+i,none⟩=some v:=by
     rw [World.cell?_alloc_new,Nat.zero_add]
     simpa using hi
    refine ⟨hc,?_⟩
    rintro (⟨h3,_⟩ | ⟨s,j,lo,h3,_⟩)
    ·have:=hI.below.size; omega
    ·by_cases hs:s=d
     ·subst hs; rw [B0] at h3; cases h3
     ·rw [BR _ _ _ _ hs] at h3
      have:=(hI.lt _ _ _ _ h3).1; omega
  ·simp only [TV.WF]; exact JS h1.2
 ·exact h.elim
end
end Go.Sf
namespace Go.Sf
open Go.RowKit (Below)
def Qk:List Value->Nat->List Value->List Value
 | cs,_,[]=>cs
 | cs,i,d::ds=>Qk (cs.set i d) (i+1) ds
theorem Nc (off:Nat):∀ (l:List Value) (k:Nat) (cells:Array Value),((l.zipIdx k).foldl (fun cs (x:Value × Nat)=>cs.setIfInBounds (off+x.2) x.1) cells).toList=Qk cells.toList (off+k) l
 | [],_,_=>rfl
 | v::l,k,cells=>by
  simp only [List.zipIdx_cons,List.foldl_cons,Qk]
  rw [Nc off l (k+1)]
  simp [Array.toList_setIfInBounds,Nat.add_assoc]
section
variable {w:World} {F:Nat->Nat->Prop}
theorem W5 {cs:List TV} {xs:List Value} (h:AQ w F cs xs) (i:Nat) {t:TV} {v:Value} (ht:A1 w F t v):AQ w F (cs.set i t) (xs.set i v):=by
 rw [CD] at h ⊢
 refine ⟨by simp [h.1],fun j u x hu hx=>?_⟩
 rw [List.getElem?_set] at hu hx
 split at hu
 ·rename_i hij
  subst hij
  simp only [if_true] at hx
  split at hu
  ·split at hx
   ·simp only [zzY] at hu hx; subst hu; subst hx; exact ht
   ·cases hx
  ·cases hu
 ·rename_i hij
  rw [if_neg hij] at hx
  exact h.2 j u x hu hx
theorem R2:∀ {ds:List TV} {ys:List Value} {cs:List TV} {xs:List Value} (i:Nat),AQ w F cs xs->AQ w F ds ys->AQ w F (MC cs i ds) (Qk xs i ys)
 | [],ys,cs,xs,i,h,hd=>by simp only [AQ] at hd; subst hd; exact h
 | d::ds,ys,cs,xs,i,h,hd=>by
  simp only [AQ] at hd
  obtain ⟨v,r,rfl,h1,h2⟩:=hd
  exact R2 (i+1) (W5 h i h1) h2
theorem Vy:∀ (ys xs:List Value) (i:Nat),(∀ x∈xs,x.oneCell'=true)->(∀ y∈ys,y.oneCell'=true)->∀ x∈Qk xs i ys,x.oneCell'=true
 | [],_,_,h,_=>h
 | y::ys,xs,i,h,hy=>by
  refine Vy ys (xs.set i y) (i+1) (fun x hx=>?_) (fun z hz=>hy z (by simp [hz]))
  rcases List.mem_or_eq_of_mem_set hx with hx | rfl
  ·exact h x hx
  ·exact hy _ (by simp)
theorem Qb {place:Nat->Option (Nat × Nat)}:∀ {ps:List (Nat × Value)} {ts:List (Nat × Nat × TV)} {cs cs':List TV} {xs:Array Value},AQ w F cs xs.toList->ps.length=ts.length ->
  (∀ (j:Nat) (p:Nat × Value) (t:Nat × Nat × TV),ps[j]?=some p->ts[j]?=some t->place p.1=some (t.1,t.2.1)∧A1 w F t.2.2 p.2)->HL cs ts=some cs'->(∀ x∈xs.toList,x.oneCell'=true) ->
  ∃ xs',Instr.fill place xs ps=some xs'∧AQ w F cs' xs'.toList∧∀ x∈xs'.toList,x.oneCell'=true
 | [],ts,cs,cs',xs,h,hl,hp,hf,ho=>by
  have:ts=[]:=List.eq_nil_of_length_eq_zero hl.symm
  subst this
  simp only [HL,zzY] at hf
  subst hf
  exact ⟨xs,rfl,h,ho⟩
 | (i,v)::ps,[],_,_,_,_,hl,_,_,_=>by simp at hl
 | (i,v)::ps,(off,n,t)::ts,cs,cs',xs,h,hl,hp,hf,ho=>by
  simp only [HL] at hf
  split at hf
  ·rename_i hc
   obtain ⟨h1,h2⟩:=hp 0 _ _ rfl rfl
   simp only at h1 h2
   have h3:=(IY h2).1
   have h10:=(IY h2).2
   have h4:v.cells.size=n:=by have:=CC h3; rw [Array.length_toList] at this; omega
   have h5:=CC h
   rw [Array.length_toList] at h5
   have h6:AQ w F (MC cs off t.cells) ((v.cells.zipIdx.foldl (fun cs (x:Value × Nat)=>cs.setIfInBounds (off+x.2) x.1) xs)).toList:=by
    have h7:=R2 off h h3
    rw [←Array.foldl_toList,Array.toList_zipIdx,Nc,Nat.add_zero]
    exact h7
   obtain ⟨xs',h8,h9⟩:=Qb h6 (by simpa using hl) (fun j p t hpj htj=>hp (j+1) p t (by simpa using hpj) (by simpa using htj)) hf (by
    rw [←Array.foldl_toList,Array.toList_zipIdx,Nc,Nat.add_zero]
    exact Vy _ _ _ ho h10)
   refine ⟨xs',?_,h9⟩
   simp only [Instr.fill,h1]
   rw [if_neg (by simp; omega)]
   exact h8
  ·cases hf
end
def K5 (place:Nat->Option (Nat × Nat)):List (Nat × Operand)->List (Nat × Nat × AJ)->Bool
 | [],[]=>true
 | (i,x)::ps,(off,n,y)::qs=>place i==some (off,n)&&AP x y&&K5 place ps qs
 | _,_=>false
def Wq (P:Program) (t:TypeId) (zero:List TV) (ps:List (Nat × Operand)) (qs:List (Nat × Nat × AJ)):Bool:=
 match P.info? t,P.underlying t with
 | some it,some (.array _ e)=>
  match it.zero,P.info? e with
  | some z,some ie=>JN zero z.cells.toList&&z.cells.toList.all Value.oneCell'&&K5 (fun i=>some (i*ie.size,ie.size)) ps qs
  | _,_=>false
 | some it,some (.struct fields)=>
  match it.zero,fields.toList.mapM (fun f=>(P.info? f.type).map fun i=>(f.offset,i.size)) with
  | some z,some places=>JN zero z.cells.toList&&z.cells.toList.all Value.oneCell'&&K5 (places.toArray[·]?) ps qs
  | _,_=>false
 | _,_=>false
section
variable {P:Program} {S:FuncId->List TV->CH->Prop} {F0:Nat->Nat->Prop} {w0:W0} {env:AC} {a:Act} {w:World} {G:DE} {d:Nat} {o:Oper} {K:EV->AC->Prop}
theorem TF (hI:AT F0 w0 env a w G) {place:Nat->Option (Nat × Nat)}:∀ {ps:List (Nat × Operand)} {qs:List (Nat × Nat × AJ)} {ts:List (Nat × Nat × TV)},K5 place ps qs=true->Hy env qs=some ts ->
  ps.length=ts.length∧(∀ (j:Nat) (p:Nat × Value) (t:Nat × Nat × TV),(ps.map fun (i,x)=>(i,a.eval x))[j]?=some p->ts[j]?=some t->place p.1=some (t.1,t.2.1)∧A1 w (AY w0.heap.size F0 G) t.2.2 p.2)∧∀ t∈ts,t.2.2.WF
 | [],[],ts,_,h=>by simp [Hy] at h; subst h; simp
 | [],_::_,_,h,_=>by simp [K5] at h
 | _::_,[],_,h,_=>by simp [K5] at h
 | (i,x)::ps,(off,n,y)::qs,ts,hok,h=>by
  simp only [K5,zzZ,beq_iff_eq] at hok
  simp only [Hy] at h
  split at h
  ·rename_i t ts' ht hts
   simp only [zzY] at h
   subst h
   obtain ⟨h1,h2,h3⟩:=TF hI hok.2 hts
   have h4:=BL hI hok.1.2 ht
   refine ⟨by simp [h1],fun j p u hp hu=>?_,fun u hu=>?_⟩
   ·cases j with
    | zero=>simp at hp hu; subst hp; subst hu; exact ⟨hok.1.1,h4.1⟩
    | succ j=>exact h2 j p u (by simpa using hp) (by simpa using hu)
   ·rcases List.mem_cons.1 hu with rfl | hu
    ·exact h4.2
    ·exact h3 u hu
  ·cases h
theorem WL:∀ {ds cs:List TV} (i:Nat),TV.WFs cs->TV.WFs ds->TV.WFs (MC cs i ds)
 | [],_,_,h,_=>h
 | d::ds,cs,i,h,hd=>by
  refine WL (i+1) ?_ hd.2
  rw [CJ] at h ⊢
  intro t ht
  rcases List.mem_or_eq_of_mem_set ht with ht | rfl
  ·exact h t ht
  ·exact hd.1
theorem VA:∀ {ts:List (Nat × Nat × TV)} {cs cs':List TV},TV.WFs cs->(∀ t∈ts,t.2.2.WF)->HL cs ts=some cs'->TV.WFs cs'
 | [],cs,cs',h,_,hf=>by simp [HL] at hf; subst hf; exact h
 | (i,n,t)::ts,cs,cs',h,ht,hf=>by
  simp only [HL] at hf
  split at hf
  ·exact VA (WL i h (JS (ht (i,n,t) (by simp)))) (fun u hu=>ht u (by simp [hu])) hf
  ·cases hf
theorem Z1 (hI:AT F0 w0 env a w G) (hd:d<a.tmps.size) {t:TypeId} {zero:List TV} {ps:Array (Nat × Operand)} {qs:List (Nat × Nat × AJ)} (hop:o.op=.build t ps) (hok:Wq P t zero ps.toList qs=true) (h:(AH.bld zero qs).wp S env (some d) K):BS P F0 w0 a w o d K:=by
 simp only [AH.wp] at h
 cases hts:Hy env qs with
 | none=>rw [hts] at h; exact h.elim
 | some ts=>
  rw [hts] at h
  simp only [A6] at h
  cases hcs:HL zero ts with
  | none=>rw [hcs] at h; exact h.elim
  | some cs=>
   rw [hcs] at h
   simp only at h
   have key:∀ (place:Nat->Option (Nat × Nat)) (z:Array Value),JN zero z.toList=true->z.toList.all Value.oneCell'=true->K5 place ps.toList qs=true->∃ xs',Instr.fill place z (ps.map fun (i,x)=>(i,a.eval x)).toList=some xs'∧AQ w (AY w0.heap.size F0 G) cs xs'.toList∧TV.WFs cs∧xs'.toList.all Value.oneCell'=true:=by
    intro place z hz hzo hp
    obtain ⟨h1,h2,h3⟩:=TF hI hp hts
    have h4:=NH w (AY w0.heap.size F0 G) zero z.toList hz
    have h5:(ps.map fun (i,x)=>(i,a.eval x)).toList=ps.toList.map fun (i,x)=>(i,a.eval x):=by simp
    rw [h5]
    obtain ⟨xs',h6,h7,h8⟩:=Qb h4.1 (by simpa using h1) h2 hcs (fun x hx=>List.all_eq_true.1 hzo x hx)
    exact ⟨xs',h6,h7,VA h4.2 h3 hcs,List.all_eq_true.2 h8⟩
   have built:∃ xs',P.built t (ps.map fun (i,x)=>(i,a.eval x)).toList=some xs'∧AQ w (AY w0.heap.size F0 G) cs xs'.toList∧TV.WFs cs∧xs'.toList.all Value.oneCell'=true:=by
    unfold Wq at hok
    unfold Program.built
    split at hok
    ·rename_i it n e h1 h2
     simp only [h1,h2]
     split at hok
     ·rename_i z ie h3 h4
      simp only [h3,h4]
      simp only [zzZ] at hok
      exact key _ _ hok.1.1 hok.1.2 hok.2
     ·cases hok
    ·rename_i it fields h1 h2
     simp only [h1,h2]
     split at hok
     ·rename_i z places h3 h4
      simp only [h3,h4]
      simp only [zzZ] at hok
      exact key _ _ hok.1.1 hok.1.2 hok.2
     ·cases hok
    ·cases hok
   obtain ⟨xs',h1,h2,h3,h4⟩:=built
   refine DJ hI hd (v:=.agg xs') (t:=.agg cs) ?_ ?_ (by simpa [TV.WF] using h3) h
   ·simp [execOp,hop,run_build w t _ xs' h1]
   ·simp only [A1]; exact ⟨xs',rfl,h2,h4⟩
theorem TP (hI:AT F0 w0 env a w G) (hd:d<a.tmps.size) {x:Operand} {n:Nat} (hop:o.op=.move x∨o.op=.assign x) (hx:∃ v,x=.const v∧KX v=true) (h:(AH.nilo n).wp S env (some d) K):BS P F0 w0 a w o d K:=by
 simp only [AH.wp] at h
 obtain ⟨v,rfl,hv⟩:=hx
 refine ⟨.slice none 0 0,w,?_,_,_,h,hI.ow (Below.refl _ _) d hd (.list n []) _ none (by simp) ?_ ⟨by simp,trivial⟩⟩
 ·rcases hop with hop | hop <;> simp [execOp,hop,Act.eval,J0 hv]
 ·simp only [CQ]
  exact ⟨[],⟨by simp,.inl ⟨rfl,rfl,rfl⟩⟩,rfl,by simp,by simp⟩
end
end Go.Sf
namespace Go.Sf
open Go.RowKit (Below)
theorem XD (pre:List TV) (x t:TV) (r:List TV):(pre++x::r).set pre.length t=pre++t::r:=by
 induction pre with
 | nil=>rfl
 | cons p pre ih=>simp
theorem Pg:∀ (ds pre rest:List TV),ds.length<=rest.length->MC (pre++rest) pre.length ds=pre++ds++rest.drop ds.length
 | [],pre,rest,_=>by simp [MC]
 | d::ds,pre,[],h=>by simp at h
 | d::ds,pre,x::rest,h=>by
  simp only [MC,XD]
  have:=Pg ds (pre++[d]) rest (by simpa using h)
  simp only [List.length_append,List.length_singleton,List.append_assoc,List.singleton_append] at this
  simpa using this
def JL (n:Nat):Nat->List TV->List (Nat × Nat × TV)
 | _,[]=>[]
 | k,t::ts=>(k*n,n,t)::JL n (k+1) ts
theorem Su (n:Nat):∀ (ts pre:List TV) (k:Nat),(∀ t∈ts,t.cells.length=n)->pre.length=k*n ->
  HL (pre++List.replicate (ts.length*n) .undef) (JL n k ts)=some (pre++ts.flatMap TV.cells)
 | [],pre,k,_,_=>by simp [JL,HL]
 | t::ts,pre,k,hn,hp=>by
  have ht:t.cells.length=n:=hn t (by simp)
  simp only [JL,HL]
  rw [if_pos ⟨ht,by simp only [List.length_append,List.length_replicate,List.length_cons,Nat.add_mul]; omega⟩]
  rw [←hp,Pg t.cells pre _ (by simp only [List.length_replicate,List.length_cons,Nat.add_mul]; omega)]
  have hr:(List.replicate ((t::ts).length*n) TV.undef).drop t.cells.length=List.replicate (ts.length*n) TV.undef:=by
   rw [List.drop_replicate]; congr 1; simp only [List.length_cons,Nat.add_mul]; omega
  rw [hr]
  have:=Su n ts (pre++t.cells) (k+1) (fun x hx=>hn x (by simp [hx])) (by simp only [List.length_append,Nat.add_mul]; omega)
  rw [this]
  simp [List.flatMap_cons]
def Oi:Nat->List (Nat × Operand)->List AJ->Bool
 | _,[],[]=>true
 | k,(i,x)::ps,y::ys=>i==k&&AP x y&&Oi (k+1) ps ys
 | _,_,_=>false
section
variable {P:Program} {S:FuncId->List TV->CH->Prop} {F0:Nat->Nat->Prop} {w0:W0} {env:AC} {a:Act} {w:World} {G:DE} {d:Nat} {o:Oper} {K:EV->AC->Prop}
theorem Vw (hI:AT F0 w0 env a w G) (n:Nat):∀ {k:Nat} {ps:List (Nat × Operand)} {ys:List AJ} {ts:List TV},Oi k ps ys=true->vals env ys=some ts ->
  ps.length=ts.length∧(∀ (j:Nat) (p:Nat × Value) (t:Nat × Nat × TV),(ps.map fun (i,x)=>(i,a.eval x))[j]?=some p->(JL n k ts)[j]?=some t->(some (p.1*n,n):Option (Nat × Nat))=some (t.1,t.2.1)∧A1 w (AY w0.heap.size F0 G) t.2.2 p.2)∧TV.WFs ts
 | _,[],[],ts,_,h=>by simp [vals] at h; subst h; simp [TV.WFs]
 | _,[],_::_,_,h,_=>by simp [Oi] at h
 | _,_::_,[],_,h,_=>by simp [Oi] at h
 | k,(i,x)::ps,y::ys,ts,hok,h=>by
  simp only [Oi,zzZ,beq_iff_eq] at hok
  simp only [vals] at h
  split at h
  ·rename_i t ts' ht hts
   simp only [zzY] at h
   subst h
   obtain ⟨h1,h2,h3⟩:=Vw hI n hok.2 hts
   have h4:=BL hI hok.1.2 ht
   refine ⟨by simp [h1],fun j p u hp hu=>?_,h4.2,h3⟩
   cases j with
   | zero=>simp [JL] at hp hu; subst hp; subst hu; exact ⟨by rw [hok.1.1],h4.1⟩
   | succ j=>exact h2 j p u (by simpa using hp) (by simpa [JL] using hu)
  ·cases h
theorem Nj (n:Nat):∀ (k:Nat) (ts:List TV),(JL n k ts).length=ts.length
 | _,[]=>rfl
 | k,t::ts=>by simp [JL,Nj n (k+1) ts]
theorem cJ {F:Nat->Nat->Prop} {n:Nat} {ts:List TV} {cells:Array Value} {e:TypeId} (h:AQ (w.alloc (.cells cells e)) F (ts.flatMap TV.cells) cells.toList) (ho:∀ x∈cells.toList,x.oneCell'=true) (hn:∀ t∈ts,t.cells.length=n) (hl:ts.length<=maxLen) :
  CQ (w.alloc (.cells cells e)) F (some (w.heap.size,ts.length*n)) (.list n ts) (.slice (some ⟨w.heap.size,0,none⟩) ts.length ts.length):=by
 have hlen:=CC h
 rw [MB n ts hn] at hlen
 simp only [CQ]
 refine ⟨cells.toList,⟨hlen,.inr ⟨w.heap.size,ts.length,cells,e,rfl,heap_alloc_new w _,Nat.le_refl _,hl,by simpa using hlen,?_,rfl⟩⟩,h,hn,ho⟩
 rw [←hlen,List.take_length]
theorem aD (hI:AT F0 w0 env a w G) (hd:d<a.tmps.size) {t e:TypeId} {ie:TypeInfo} {z:Value} {len n:Nat} {ps:Array (Nat × Operand)} {ys:List AJ} (hop:o.op=.buildSlice t len ps) (hu:P.underlying t=some (.slice e)) (hie:P.info? e=some ie) (hz:ie.zero=some z)
  (hn:ie.size=n) (hn0:0<n) (hone:z.cells.toList.all Value.oneCell'=true) (hzs:0<z.cells.size) (hlen:len=ps.size) (hsm:len*n<=2 ^ 24) (hok:Oi 0 ps.toList ys=true) (h:(AH.lst n ys).wp S env (some d) K):BS P F0 w0 a w o d K:=by
 simp only [AH.wp] at h
 cases hts:vals env ys with
 | none=>rw [hts] at h; exact h.elim
 | some ts=>
  rw [hts] at h
  simp only [A6] at h
  obtain ⟨hc,hK⟩:=h
  obtain ⟨h1,h2,h3⟩:=Vw hI n hok hts
  have hlt:len=ts.length:=by rw [hlen,←h1]; simp
  have hwf:(TV.list n ts).WF:=⟨by simp only [H5]; have:len*1<=len*n:=Nat.mul_le_mul_left _ hn0; omega,h3⟩
  have hml:ts.length<=maxLen:=by simp only [maxLen]; have:len*1<=len*n:=Nat.mul_le_mul_left _ hn0; omega
  have hcells:∃ cells:Array Value,(Instr.buildSlice t len (ps.map fun (i,x)=>(i,a.eval x))).run P w=.ok (.slice (some ⟨w.heap.size,0,none⟩) len len) (w.alloc (.cells cells e))∧AQ w (AY w0.heap.size F0 G) (ts.flatMap TV.cells) cells.toList∧∀ x∈cells.toList,x.oneCell'=true:=by
   by_cases h0:len=0
   ·have hps:ps=#[]:=by apply Array.eq_empty_of_size_eq_zero; omega
    have hts0:ts=[]:=by apply List.eq_nil_of_length_eq_zero; omega
    subst hps; subst hts0; subst h0
    refine ⟨#[],?_,rfl,by simp⟩
    simp [Instr.buildSlice,run_underlying hu,sizeOf,typeInfo,hie,Instr.fill,newRow]
    rw [Array.range_zero']; simp
   ·have hrep0:AQ w (AY w0.heap.size F0 G) (List.replicate (ts.length*n) .undef) ((Array.range (len*ie.size)).map (z.cells[· % z.cells.size]!)).toList:=by
     rw [CD]
     refine ⟨by simp [hn,hlt],fun i u v hu hv=>?_⟩
     rw [List.getElem?_replicate] at hu
     split at hu
     ·simp only [zzY] at hu
      subst hu
      simp only [A1]
      rw [Array.getElem?_toList,Array.getElem?_map] at hv
      simp only [Option.map_eq_some_iff] at hv
      obtain ⟨q,_,rfl⟩:=hv
      have hlt':=Nat.mod_lt q hzs
      rw [getElem!_pos z.cells _ hlt']
      exact List.all_eq_true.1 hone _ (by simp)
     ·cases hu
    have hfl:=Su n ts [] 0 hc (by simp)
    simp only [List.nil_append] at hfl
    have hone0:∀ x∈((Array.range (len*ie.size)).map (z.cells[· % z.cells.size]!)).toList,x.oneCell'=true:=by
     intro x hx
     rw [Array.mem_toList_iff,Array.mem_map] at hx
     obtain ⟨q,_,rfl⟩:=hx
     have hlt':=Nat.mod_lt q hzs
     rw [getElem!_pos z.cells _ hlt']
     exact List.all_eq_true.1 hone _ (by simp)
    obtain ⟨xs',h6,h7,h8⟩:=Qb (place:=fun i=>some (i*n,n)) hrep0 (by rw [Nj]; simpa using h1) h2 hfl hone0
    refine ⟨xs',run_buildSlice w t e len _ xs' ie z hu hie hz (by rw [hn]; omega) ?_ ?_,h7,h8⟩
    ·rw [hn]; intro h; rcases Nat.mul_eq_zero.1 h with h | h <;> omega
    ·rw [hn] at h6 ⊢
     simpa using h6
  obtain ⟨cells,hrun,hrep,hones⟩:=hcells
  have hb:Below w.heap.size w (w.alloc (.cells cells e)):=(Below.refl _ _).alloc (Nat.le_refl _) _
  refine ⟨.slice (some ⟨w.heap.size,0,none⟩) len len,_,by simp only [execOp,hop,Sem.run_bind,hrun,Result.andThen_ok,Sem.run_pure],_,_,hK,hI.ow hb d hd (.list n ts) _ (some (w.heap.size,ts.length*n)) (fun b lo hbl=>?_) ?_ hwf⟩
  ·simp only [zzY,Prod.mk.injEq] at hbl
   obtain ⟨rfl,_⟩:=hbl
   exact ⟨Nat.le_refl _,by simp⟩
  ·rw [hlt]
   exact cJ (BI (KS hb d _ (fun i b lo h=>by
    split at h
    ·simp only [zzY,Prod.mk.injEq] at h; omega
    ·cases h)) _ _ hrep) hones hc hml
theorem AT.strip (h:AT F0 w0 env a w G) (s:Nat):AT F0 w0 (strip env s) a w G:=by
 refine ⟨h.uniq,h.lt,h.below,h.defers,fun q hq=>?_,fun q hq=>?_,fun q=>?_⟩
 ·simp only [Go.Sf.strip,AC.get_cons]
  split
  ·rfl
  ·exact h.dom q hq
 ·have:=h.slots q hq
  simp only [Go.Sf.strip,AC.get_cons]
  split
  ·trivial
  ·refine AS.kept (ON _ _) (fun _=>rfl) (fun _ _ _ _=>rfl) (fun r off hr ⟨cs,hcs⟩=>?_) (fun r i hr ⟨p,hp⟩=>⟨⟨p,(AC.xat_drop (by simp) (by simp) hp).2⟩,fun _ hv=>hv⟩) this
   ·rw [AC.get_cons] at hcs
    split at hcs
    ·cases hcs
    ·exact ⟨⟨cs,hcs⟩,rfl⟩
 ·simp only [Go.Sf.strip,AC.get_cons]
  split
  ·trivial
  ·exact h.wf q
theorem AT.move (h:AT F0 w0 env a w G) {s:Nat} {t:TV} (hs:env.get s=.ow t) (hd:d<a.tmps.size) :
  ∃ G',AT F0 w0 ((d,.ow t)::Go.Sf.strip env s) (a.put (some d) (slot a s)) w G'∧DK w w (AY w0.heap.size F0 G) (AY w0.heap.size F0 G'):=by
 have hown:=A4 h hs (by simp)
 simp only [AS] at hown
 have hwf:=h.wf s
 rw [hs] at hwf
 let zs:Option (Nat × Nat):=G s none
 let G':DE:=F3 (F3 G s (fun _=>none)) d (fun i=>if i=none then zs else none)
 have hG':∀ q i b lo,G' q i=some (b,lo)->(q=d∧i=none∧G s none=some (b,lo))∨(q≠d∧q≠s∧G q i=some (b,lo)):=by
  intro q i b lo hq
  by_cases hqd:q=d
  ·subst hqd
   simp only [G',B0] at hq
   split at hq
   ·rename_i hi; exact .inl ⟨rfl,hi,hq⟩
   ·cases hq
  ·simp only [G',BR _ _ _ _ hqd] at hq
   by_cases hqs:q=s
   ·subst hqs; rw [B0] at hq; cases hq
   ·rw [BR _ _ _ _ hqs] at hq
    exact .inr ⟨hqd,hqs,hq⟩
 have hback:∀ q i b lo,G' q i=some (b,lo)->∃ q' i' lo',G q' i'=some (b,lo')∧lo'<=lo:=by
  intro q i b lo hq
  rcases hG' q i b lo hq with ⟨_,_,h1⟩ | ⟨_,_,h1⟩
  ·exact ⟨s,none,lo,h1,Nat.le_refl _⟩
  ·exact ⟨q,i,lo,h1,Nat.le_refl _⟩
 have hag:DK w w (AY w0.heap.size F0 G) (AY w0.heap.size F0 G'):=fun b o v hc hf=>⟨hc,fun hf'=>hf (AY.mono hback hf')⟩
 refine ⟨G',⟨?_,?_,h.below,by rw [KA]; exact h.defers,?_,?_,?_⟩,hag⟩
 ·intro q i q' i' b lo lo' h1 h2
  rcases hG' _ _ _ _ h1 with ⟨rfl,rfl,e1⟩ | ⟨n1,n2,e1⟩ <;> rcases hG' _ _ _ _ h2 with ⟨rfl,rfl,e2⟩ | ⟨m1,m2,e2⟩
  ·exact ⟨rfl,rfl⟩
  ·exact absurd (h.uniq _ _ _ _ _ _ _ e1 e2).1.symm m2
  ·exact absurd (h.uniq _ _ _ _ _ _ _ e1 e2).1 n2
  ·exact h.uniq _ _ _ _ _ _ _ e1 e2
 ·intro q i b lo h1
  rcases hG' _ _ _ _ h1 with ⟨_,_,e1⟩ | ⟨_,_,e1⟩ <;> exact h.lt _ _ _ _ e1
 ·intro q hq
  rw [E9] at hq
  rw [AC.get_cons,if_neg (by omega)]
  exact (h.strip s).dom q hq
 ·intro q hq
  rw [E9] at hq
  rw [AC.get_cons]
  by_cases hqd:d=q
  ·subst hqd
   rw [if_pos rfl,Hf _ _ _ hd]
   simp only [AS,G',B0,if_true]
   exact hown.kept hag (fun _ _ _=>rfl)
  ·rw [if_neg hqd,BD _ _ _ _ hqd]
   simp only [Go.Sf.strip,AC.get_cons]
   split
   ·trivial
   ·rename_i hsq
    refine AS.kept hag (fun i=>?_) (fun _ _ _ _=>rfl) (fun r off hr ⟨cs,hcs⟩=>?_) (fun r i hr ⟨p,hp⟩=>?_) (h.slots q hq)
    ·simp only [G']
     rw [BR _ _ _ _ (fun e=>hqd e.symm),BR _ _ _ _ (fun e=>hsq e.symm)]
    ·rw [AC.get_cons] at hcs
     by_cases hdr:d=r
     ·rw [if_pos hdr] at hcs; cases hcs
     ·rw [if_neg hdr] at hcs
      simp only [AC.get_cons] at hcs
      split at hcs
      ·cases hcs
      ·exact ⟨⟨cs,hcs⟩,BD _ _ _ _ hdr⟩
    ·have h1:=AC.xat_drop (by simp) (by simp) hp
     have h2:=AC.xat_drop (by simp) (by simp) h1.2
     exact ⟨⟨p,h2.2⟩,h.xv ⟨p,h2.2⟩ (BD _ _ _ _ h1.1) (fun _ _=>rfl)⟩
 ·intro q
  rw [AC.get_cons]
  split
  ·exact hwf
  ·exact (h.strip s).wf q
theorem Zu (a:Act) (d s:Nat) (v:Value) (h:d<a.tmps.size):slot (a.put (some d) v) s=if d=s then v else slot a s:=by
 split
 ·rename_i e; subst e; exact Hf _ _ _ h
 ·rename_i e; exact BD _ _ _ _ e
theorem AT.move' (h:AT F0 w0 env a w G) {s:Nat} {t:TV} (hs:env.get s=.ow t) (hd:d<a.tmps.size) :
  C2 F0 w0 ((d,.ow t)::(s,.tv t)::env) (a.put (some d) (slot a s)) w:=by
 obtain ⟨G',h',hag⟩:=h.move hs hd
 have hv:=BL h (x:=.tmp s) (y:=.s s) (by simp [AP]) (t:=t) (by simp [AJ.val,AJ.ev,hs,EV.val])
 have hsz:=GA h hs (by simp)
 refine ⟨G',h'.rem s (t:=t) (by rw [E9]; exact hsz) ?_ hv.2 fun n=>?_⟩
 ·have:slot (a.put (some d) (slot a s)) s=slot a s:=by rw [Zu _ _ _ _ hd]; split <;> rfl
  rw [this]
  exact C1 hag _ _ hv.1
 ·simp only [Go.Sf.strip,AC.get_cons]
  split
  ·exact .inl rfl
  ·split
   ·rename_i e; exact .inr ⟨e.symm,rfl⟩
   ·exact .inl rfl
theorem WC (hI:AT F0 w0 env a w G) (hd:d<a.tmps.size) {s:Nat} (hop:o.op=.move (.tmp s)∨o.op=.assign (.tmp s)) (h:(AH.tk s).wp S env (some d) K):BS P F0 w0 a w o d K:=by
 simp only [AH.wp] at h
 have hrun:(execOp a.eval o).run P w=.ok (.value (slot a s)) w:=by
  rcases hop with hop | hop <;> simp [execOp,hop] <;> rfl
 split at h
 ·rename_i t hs
  exact ⟨_,_,hrun,_,_,h,hI.move' hs hd⟩
 ·rename_i t hs
  have:=BL hI (x:=.tmp s) (y:=.s s) (by simp [AP]) (t:=t) (by simp [AJ.val,AJ.ev,hs,EV.val])
  exact DJ hI hd hrun this.1 this.2 h
 ·exact h.elim
end
end Go.Sf
