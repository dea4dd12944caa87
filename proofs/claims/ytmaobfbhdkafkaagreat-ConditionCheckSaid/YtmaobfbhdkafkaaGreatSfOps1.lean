/- The checker's operands, and the operations that only compute or read. -/
import Derived.Test.YtmaobfbhdkafkaaGreatSfQuiet
namespace Go.Sf
open Go.RowKit (Below)
def KL:Value->Bool
 | .slice none 0 0=>true
 | _=>false
theorem Jm {v:Value} (h:KL v=true):v=.slice none 0 0:=by
 unfold KL at h
 split at h
 ·rfl
 ·cases h
def Xn (f:FuncId):Value->Bool
 | .func (.func g) first caps=>f==g&&first.size==0&&caps.size==0
 | _=>false
theorem Zw {f:FuncId} {v:Value} (h:Xn f v=true):v=.func (.func f) #[] #[]:=by
 unfold Xn at h
 split at h
 ·simp at h
  obtain ⟨⟨rfl,h1⟩,h2⟩:=h
  subst h1; subst h2
  rfl
 ·cases h
def VF (k:IntKind) (n:Int):Value->Bool
 | .int k' m=>k==k'&&n==m
 | _=>false
theorem Xo {k:IntKind} {n:Int} {v:Value} (h:VF k n v=true):v=.int k n:=by
 unfold VF at h
 split at h
 ·simp at h; rw [h.1,h.2]
 ·cases h
def TA (b:Bool):Value->Bool
 | .bool c=>b==c
 | _=>false
theorem V8 {b:Bool} {v:Value} (h:TA b v=true):v=.bool b:=by
 unfold TA at h
 split at h
 ·simp at h; rw [h]
 ·cases h
def VG (s:ByteArray):Value->Bool
 | .string r=>s.data==r.data
 | _=>false
theorem Xq {s:ByteArray} {v:Value} (h:VG s v=true):v=.string s:=by
 unfold VG at h
 split at h
 ·simp at h; congr 1; exact (ByteArray.ext h).symm
 ·cases h
def U3:Value->Option (List Value)
 | .agg vs=>some vs.toList
 | _=>none
theorem XQ {v:Value} {l:List Value} (h:U3 v=some l):v=.agg l.toArray:=by
 unfold U3 at h
 split at h
 ·simp at h; subst h; simp
 ·cases h
mutual
def EM:TV->Value->Bool
 | .int k n,v=>VF k n v&&decide (k.min<=n∧n<=k.max)
 | .bool b,v=>TA b v
 | .str s,v=>VG s v&&decide (s.size<=I5)
 | .list _ es,v=>es.isEmpty&&KL v
 | .agg ts,v=>match U3 v with | some vs=>I7 ts vs&&vs.all Value.oneCell' | none=>false
 | .clo f cs,v=>cs.isEmpty&&Xn f v
 | .nil,v=>KL v
 | _,_=>false
def I7:List TV->List Value->Bool
 | [],vs=>vs.isEmpty
 | t::ts,vs=>match vs with | v::vs=>EM t v&&I7 ts vs | []=>false
end
mutual
theorem Hd (w:World) (F:Nat->Nat->Prop):∀ (t:TV) (v:Value),EM t v=true->A1 w F t v∧t.WF
 | .undef,v,h=>by simp [EM] at h
 | .xl _ _,v,h=>by simp [EM] at h
 | .nil,v,h=>by
  simp only [EM] at h
  exact ⟨Jm h,trivial⟩
 | .pt _,v,h=>by simp [EM] at h
 | .int k n,v,h=>by
  simp only [EM,Bool.and_eq_true,decide_eq_true_eq] at h
  exact ⟨Xo h.1,h.2⟩
 | .bool b,v,h=>by
  simp only [EM] at h
  exact ⟨V8 h,trivial⟩
 | .str s,v,h=>by
  simp only [EM,Bool.and_eq_true,decide_eq_true_eq] at h
  exact ⟨Xq h.1,h.2⟩
 | .list n es,v,h=>by
  simp only [EM,Bool.and_eq_true,List.isEmpty_iff] at h
  obtain ⟨rfl,h⟩:=h
  refine ⟨?_,by simp [TV.WF,TV.WFs]⟩
  simp only [A1]
  exact ⟨none,0,Jm h,by simp⟩
 | .agg ts,v,h=>by
  simp only [EM] at h
  split at h
  ·rename_i vs hv
   rw [Bool.and_eq_true] at h
   have:=M3 w F ts vs h.1
   refine ⟨?_,by simpa [TV.WF] using this.2⟩
   simp only [A1]
   exact ⟨_,XQ hv,by simpa using this.1,by simpa using h.2⟩
  ·cases h
 | .clo f cs,v,h=>by
  simp only [EM,Bool.and_eq_true,List.isEmpty_iff] at h
  obtain ⟨rfl,h⟩:=h
  refine ⟨?_,by simp [TV.WF,TV.WFs]⟩
  simp only [A1]
  exact ⟨#[],Zw h,rfl⟩
theorem M3 (w:World) (F:Nat->Nat->Prop):∀ (ts:List TV) (vs:List Value),I7 ts vs=true->AN w F ts vs∧TV.WFs ts
 | [],vs,h=>by simp [I7] at h; subst h; exact ⟨rfl,trivial⟩
 | t::ts,vs,h=>by
  cases vs with
  | nil=>simp [I7] at h
  | cons v vs=>
   simp only [I7,Bool.and_eq_true] at h
   have h1:=Hd w F t v h.1
   have h2:=M3 w F ts vs h.2
   exact ⟨⟨v,vs,rfl,h1.1,h2.1⟩,h1.2,h2.2⟩
end
def AL (x:Operand):AG->Bool
 | .s m=>match x with | .tmp n=>n==m | _=>false
 | .c t=>match x with | .const v=>EM t v | .func f=>EM t (.func (.func f) #[] #[]) | _=>false
section
variable {F0:Nat->Nat->Prop} {w0:W0} {env:AC} {a:Act} {w:World} {G:C1}
theorem M5 (h:AT F0 w0 env a w G) {s:Nat} {i:Option Nat}:∀ b lo o,G s i=some (b,lo)->o<lo->¬ AX w0.heap.size F0 G b o:=by
 intro b lo o hz ho hf
 rcases hf with ⟨hlt,hF0⟩ | ⟨s',i',lo',h1,h2⟩
 ·exact (h.lt _ _ _ _ hz).2.elim (fun e=>by omega) (fun e=>h.below.free _ _ _ (e _ (Nat.le_refl _)) hF0)
 ·obtain ⟨rfl,rfl⟩:=h.uniq _ _ _ _ _ _ _ h1 hz
  rw [h1] at hz
  simp only [Option.some.injEq,Prod.mk.injEq,true_and] at hz
  omega
theorem GR (h:AT F0 w0 env a w G) {n:Nat} {e:EV} (he:env.get n=e) (hne:e≠.undef):n<a.tmps.size:=by
 rcases Nat.lt_or_ge n a.tmps.size with hlt | hge
 ·exact hlt
 ·exact absurd ((h.dom n hge).symm.trans he).symm hne
theorem A4 (h:AT F0 w0 env a w G) {n:Nat} {e:EV} (he:env.get n=e) (hne:e≠.undef):AU a w (AX w0.heap.size F0 G) G env n e (slot a n):=by
 have:=h.slots n (GR h he hne)
 rwa [he] at this
theorem BA (h:AT F0 w0 env a w G) {x:Operand} {y:AG} (hok:AL x y=true) {t:TV} (hv:y.val env=some t):A1 w (AX w0.heap.size F0 G) t (a.eval x)∧t.WF:=by
 cases y with
 | s m=>
  cases x <;> simp [AL] at hok
  subst hok
  rename_i n
  simp only [AG.val,AG.ev] at hv
  have hw:=h.wf n
  cases he:env.get n with
  | tv t'=>
   rw [he] at hv hw
   simp only [EV.val,Option.some.injEq] at hv
   subst hv
   exact ⟨A4 h he (by simp),hw⟩
  | ow t'=>
   rw [he] at hv hw
   simp only [EV.val,Option.some.injEq] at hv
   subst hv
   exact ⟨B8.rep (A4 h he (by simp)) (fun b lo o hz ho=>M5 h b lo o hz ho),hw⟩
  | undef=>rw [he] at hv; simp [EV.val] at hv
  | sk=>rw [he] at hv; simp [EV.val] at hv
  | xo n es=>rw [he] at hv; simp [EV.val] at hv
  | la q i=>rw [he] at hv; simp [EV.val] at hv
  | oag cs=>rw [he] at hv; simp [EV.val] at hv
  | lp q i c=>rw [he] at hv; simp [EV.val] at hv
  | bx cs=>rw [he] at hv; simp [EV.val] at hv
  | bp q off=>rw [he] at hv; simp [EV.val] at hv
  | tp ts=>rw [he] at hv; simp [EV.val] at hv
 | c t'=>
  simp only [AG.val,AG.ev,EV.val,Option.some.injEq] at hv
  subst hv
  cases x with
  | const v=>exact Hd w _ _ _ hok
  | func f=>exact Hd w _ _ _ hok
  | tmp n=>simp [AL] at hok
  | global g=>simp [AL] at hok
theorem Q6 (h:AT F0 w0 env a w G) {x:Operand} {y:AG} (hok:AL x y=true) {t:TV} (hv:y.ev env=.tv t):A1 w (AX w0.heap.size F0 G) t (a.eval x)∧t.WF:=
 BA h hok (by simp [AG.val,hv,EV.val])
def CB:List Operand->List AG->Bool
 | [],[]=>true
 | x::xs,y::ys=>AL x y&&CB xs ys
 | _,_=>false
theorem Iy (h:AT F0 w0 env a w G):∀ {xs:List Operand} {ys:List AG},CB xs ys=true->∀ {ts:List TV},vals env ys=some ts->AN w (AX w0.heap.size F0 G) ts (xs.map a.eval)∧TV.WFs ts
 | [],[],_,ts,hv=>by simp [vals] at hv; subst hv; exact ⟨rfl,trivial⟩
 | [],_::_,hok,_,_=>by simp [CB] at hok
 | _::_,[],hok,_,_=>by simp [CB] at hok
 | x::xs,y::ys,hok,ts,hv=>by
  simp only [CB,Bool.and_eq_true] at hok
  simp only [vals] at hv
  split at hv
  ·rename_i t ts' ht hts
   simp only [Option.some.injEq] at hv
   subst hv
   have h1:=BA h hok.1 ht
   have h2:=Iy h hok.2 hts
   exact ⟨⟨_,_,rfl,h1.1,h2.1⟩,h1.2,h2.2⟩
  ·cases hv
end
theorem KB (k:IntKind) (n:Int):k.min<=k.wrap n∧k.wrap n<=k.max:=by
 cases k <;> simp only [IntKind.min,IntKind.max,IntKind.wrap,IntKind.signed,IntKind.bits,Bool.true_and,Bool.false_and] <;> simp <;> (try split) <;> omega
end Go.Sf
