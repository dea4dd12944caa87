/- The checker's operands, and the operations that only compute or read. -/
import Derived.Test.YtmaobfbhdkafkaaGreatSfQuiet
namespace Go.Sf
open Go.RowKit (Below)
def KH:Value->Bool
 | .slice none 0 0=>true
 | _=>false
theorem Jh {v:Value} (h:KH v=true):v=.slice none 0 0:=by
 unfold KH at h
 split at h
 ·rfl
 ·cases h
def Xi (f:FuncId):Value->Bool
 | .func (.func g) first caps=>f==g&&first.size==0&&caps.size==0
 | _=>false
theorem Zp {f:FuncId} {v:Value} (h:Xi f v=true):v=.func (.func f) #[] #[]:=by
 unfold Xi at h
 split at h
 ·simp at h
  obtain ⟨⟨rfl,h1⟩,h2⟩:=h
  subst h1; subst h2
  rfl
 ·cases h
def VA (k:IntKind) (n:Int):Value->Bool
 | .int k' m=>k==k'&&n==m
 | _=>false
theorem Xj {k:IntKind} {n:Int} {v:Value} (h:VA k n v=true):v=.int k n:=by
 unfold VA at h
 split at h
 ·simp at h; rw [h.1,h.2]
 ·cases h
def S0 (b:Bool):Value->Bool
 | .bool c=>b==c
 | _=>false
theorem V4 {b:Bool} {v:Value} (h:S0 b v=true):v=.bool b:=by
 unfold S0 at h
 split at h
 ·simp at h; rw [h]
 ·cases h
def VB (s:ByteArray):Value->Bool
 | .string r=>s.data==r.data
 | _=>false
theorem Xl {s:ByteArray} {v:Value} (h:VB s v=true):v=.string s:=by
 unfold VB at h
 split at h
 ·simp at h; congr 1; exact (ByteArray.ext h).symm
 ·cases h
def Uz:Value->Option (List Value)
 | .agg vs=>some vs.toList
 | _=>none
theorem XL {v:Value} {l:List Value} (h:Uz v=some l):v=.agg l.toArray:=by
 unfold Uz at h
 split at h
 ·simp at h; subst h; simp
 ·cases h
mutual
def EQ:TV->Value->Bool
 | .int k n,v=>VA k n v&&decide (k.min<=n∧n<=k.max)
 | .bool b,v=>S0 b v
 | .str s,v=>VB s v&&decide (s.size<=Iy)
 | .list _ es,v=>es.isEmpty&&KH v
 | .agg ts,v=>match Uz v with | some vs=>I0 ts vs&&vs.all Value.oneCell' | none=>false
 | .clo f cs,v=>cs.isEmpty&&Xi f v
 | .nil,v=>KH v
 | _,_=>false
def I0:List TV->List Value->Bool
 | [],vs=>vs.isEmpty
 | t::ts,vs=>match vs with | v::vs=>EQ t v&&I0 ts vs | []=>false
end
mutual
theorem HT (w:World) (F:Nat->Nat->Prop):∀ (t:TV) (v:Value),EQ t v=true->At w F t v∧t.WF
 | .undef,v,h=>by simp [EQ] at h
 | .xl _ _,v,h=>by simp [EQ] at h
 | .nil,v,h=>by
  simp only [EQ] at h
  exact ⟨Jh h,trivial⟩
 | .pt _,v,h=>by simp [EQ] at h
 | .int k n,v,h=>by
  simp only [EQ,Bool.and_eq_true,decide_eq_true_eq] at h
  exact ⟨Xj h.1,h.2⟩
 | .bool b,v,h=>by
  simp only [EQ] at h
  exact ⟨V4 h,trivial⟩
 | .str s,v,h=>by
  simp only [EQ,Bool.and_eq_true,decide_eq_true_eq] at h
  exact ⟨Xl h.1,h.2⟩
 | .list n es,v,h=>by
  simp only [EQ,Bool.and_eq_true,List.isEmpty_iff] at h
  obtain ⟨rfl,h⟩:=h
  refine ⟨?_,by simp [TV.WF,TV.WFs]⟩
  simp only [At]
  exact ⟨none,0,Jh h,by simp⟩
 | .agg ts,v,h=>by
  simp only [EQ] at h
  split at h
  ·rename_i vs hv
   rw [Bool.and_eq_true] at h
   have:=Mv w F ts vs h.1
   refine ⟨?_,by simpa [TV.WF] using this.2⟩
   simp only [At]
   exact ⟨_,XL hv,by simpa using this.1,by simpa using h.2⟩
  ·cases h
 | .clo f cs,v,h=>by
  simp only [EQ,Bool.and_eq_true,List.isEmpty_iff] at h
  obtain ⟨rfl,h⟩:=h
  refine ⟨?_,by simp [TV.WF,TV.WFs]⟩
  simp only [At]
  exact ⟨#[],Zp h,rfl⟩
theorem Mv (w:World) (F:Nat->Nat->Prop):∀ (ts:List TV) (vs:List Value),I0 ts vs=true->AN w F ts vs∧TV.WFs ts
 | [],vs,h=>by simp [I0] at h; subst h; exact ⟨rfl,trivial⟩
 | t::ts,vs,h=>by
  cases vs with
  | nil=>simp [I0] at h
  | cons v vs=>
   simp only [I0,Bool.and_eq_true] at h
   have h1:=HT w F t v h.1
   have h2:=Mv w F ts vs h.2
   exact ⟨⟨v,vs,rfl,h1.1,h2.1⟩,h1.2,h2.2⟩
end
def AM (x:Operand):AF->Bool
 | .s m=>match x with | .tmp n=>n==m | _=>false
 | .c t=>match x with | .const v=>EQ t v | .func f=>EQ t (.func (.func f) #[] #[]) | _=>false
section
variable {F0:Nat->Nat->Prop} {w0:W0} {env:AC} {a:Act} {w:World} {G:C0}
theorem Mx (h:AR F0 w0 env a w G) {s:Nat} {i:Option Nat}:∀ b lo o,G s i=some (b,lo)->o<lo->¬ AX w0.heap.size F0 G b o:=by
 intro b lo o hz ho hf
 rcases hf with ⟨hlt,hF0⟩ | ⟨s',i',lo',h1,h2⟩
 ·exact (h.lt _ _ _ _ hz).2.elim (fun e=>by omega) (fun e=>h.below.free _ _ _ (e _ (Nat.le_refl _)) hF0)
 ·obtain ⟨rfl,rfl⟩:=h.uniq _ _ _ _ _ _ _ h1 hz
  rw [h1] at hz
  simp only [Option.some.injEq,Prod.mk.injEq,true_and] at hz
  omega
theorem GO (h:AR F0 w0 env a w G) {n:Nat} {e:EV} (he:env.get n=e) (hne:e≠.undef):n<a.tmps.size:=by
 rcases Nat.lt_or_ge n a.tmps.size with hlt | hge
 ·exact hlt
 ·exact absurd ((h.dom n hge).symm.trans he).symm hne
theorem A3 (h:AR F0 w0 env a w G) {n:Nat} {e:EV} (he:env.get n=e) (hne:e≠.undef):AT a w (AX w0.heap.size F0 G) G env n e (slot a n):=by
 have:=h.slots n (GO h he hne)
 rwa [he] at this
theorem A9 (h:AR F0 w0 env a w G) {x:Operand} {y:AF} (hok:AM x y=true) {t:TV} (hv:y.val env=some t):At w (AX w0.heap.size F0 G) t (a.eval x)∧t.WF:=by
 cases y with
 | s m=>
  cases x <;> simp [AM] at hok
  subst hok
  rename_i n
  simp only [AF.val,AF.ev] at hv
  have hw:=h.wf n
  cases he:env.get n with
  | tv t'=>
   rw [he] at hv hw
   simp only [EV.val,Option.some.injEq] at hv
   subst hv
   exact ⟨A3 h he (by simp),hw⟩
  | ow t'=>
   rw [he] at hv hw
   simp only [EV.val,Option.some.injEq] at hv
   subst hv
   exact ⟨B7.rep (A3 h he (by simp)) (fun b lo o hz ho=>Mx h b lo o hz ho),hw⟩
  | undef=>rw [he] at hv; simp [EV.val] at hv
  | sk=>rw [he] at hv; simp [EV.val] at hv
  | xo n es=>rw [he] at hv; simp [EV.val] at hv
  | la q i=>rw [he] at hv; simp [EV.val] at hv
  | oag cs=>rw [he] at hv; simp [EV.val] at hv
  | lp q i c=>rw [he] at hv; simp [EV.val] at hv
  | bx cs=>rw [he] at hv; simp [EV.val] at hv
  | bp q off=>rw [he] at hv; simp [EV.val] at hv
  | tp ts=>rw [he] at hv; simp [EV.val] at hv
 | c t'=>
  simp only [AF.val,AF.ev,EV.val,Option.some.injEq] at hv
  subst hv
  cases x with
  | const v=>exact HT w _ _ _ hok
  | func f=>exact HT w _ _ _ hok
  | tmp n=>simp [AM] at hok
  | global g=>simp [AM] at hok
theorem Qy (h:AR F0 w0 env a w G) {x:Operand} {y:AF} (hok:AM x y=true) {t:TV} (hv:y.ev env=.tv t):At w (AX w0.heap.size F0 G) t (a.eval x)∧t.WF:=
 A9 h hok (by simp [AF.val,hv,EV.val])
def CA:List Operand->List AF->Bool
 | [],[]=>true
 | x::xs,y::ys=>AM x y&&CA xs ys
 | _,_=>false
theorem Iq (h:AR F0 w0 env a w G):∀ {xs:List Operand} {ys:List AF},CA xs ys=true->∀ {ts:List TV},vals env ys=some ts->AN w (AX w0.heap.size F0 G) ts (xs.map a.eval)∧TV.WFs ts
 | [],[],_,ts,hv=>by simp [vals] at hv; subst hv; exact ⟨rfl,trivial⟩
 | [],_::_,hok,_,_=>by simp [CA] at hok
 | _::_,[],hok,_,_=>by simp [CA] at hok
 | x::xs,y::ys,hok,ts,hv=>by
  simp only [CA,Bool.and_eq_true] at hok
  simp only [vals] at hv
  split at hv
  ·rename_i t ts' ht hts
   simp only [Option.some.injEq] at hv
   subst hv
   have h1:=A9 h hok.1 ht
   have h2:=Iq h hok.2 hts
   exact ⟨⟨_,_,rfl,h1.1,h2.1⟩,h1.2,h2.2⟩
  ·cases hv
end
theorem J7 (k:IntKind) (n:Int):k.min<=k.wrap n∧k.wrap n<=k.max:=by
 cases k <;> simp only [IntKind.min,IntKind.max,IntKind.wrap,IntKind.signed,IntKind.bits,Bool.true_and,Bool.false_and] <;> simp <;> (try split) <;> omega
end Go.Sf
