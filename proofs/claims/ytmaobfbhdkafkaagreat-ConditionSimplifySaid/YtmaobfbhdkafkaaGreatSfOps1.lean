/- The checker's operands, and the operations that only compute or read. -/
import Derived.Test.YtmaobfbhdkafkaaGreatSfQuiet
namespace Go.Sf
open Go.RowKit (Below)
def isNilS:Value->Bool
 | .slice none 0 0=>true
 | _=>false
theorem isNilS_eq {v:Value} (h:isNilS v=true):v=.slice none 0 0:=by
 unfold isNilS at h
 split at h
 ·rfl
 ·cases h
def isFn (f:FuncId):Value->Bool
 | .func (.func g) first caps=>f==g&&first.size==0&&caps.size==0
 | _=>false
theorem isFn_eq {f:FuncId} {v:Value} (h:isFn f v=true):v=.func (.func f) #[] #[]:=by
 unfold isFn at h
 split at h
 ·simp at h
  obtain ⟨⟨rfl,h1⟩,h2⟩:=h
  subst h1; subst h2
  rfl
 ·cases h
def isInt (k:IntKind) (n:Int):Value->Bool
 | .int k' m=>k==k'&&n==m
 | _=>false
theorem isInt_eq {k:IntKind} {n:Int} {v:Value} (h:isInt k n v=true):v=.int k n:=by
 unfold isInt at h
 split at h
 ·simp at h; rw [h.1,h.2]
 ·cases h
def isBool (b:Bool):Value->Bool
 | .bool c=>b==c
 | _=>false
theorem isBool_eq {b:Bool} {v:Value} (h:isBool b v=true):v=.bool b:=by
 unfold isBool at h
 split at h
 ·simp at h; rw [h]
 ·cases h
def isStr (s:ByteArray):Value->Bool
 | .string r=>s.data==r.data
 | _=>false
theorem isStr_eq {s:ByteArray} {v:Value} (h:isStr s v=true):v=.string s:=by
 unfold isStr at h
 split at h
 ·simp at h; congr 1; exact (ByteArray.ext h).symm
 ·cases h
def aggOf:Value->Option (List Value)
 | .agg vs=>some vs.toList
 | _=>none
theorem aggOf_eq {v:Value} {l:List Value} (h:aggOf v=some l):v=.agg l.toArray:=by
 unfold aggOf at h
 split at h
 ·simp at h; subst h; simp
 ·cases h
mutual
def okConst:TV->Value->Bool
 | .int k n,v=>isInt k n v&&decide (k.min<=n∧n<=k.max)
 | .bool b,v=>isBool b v
 | .str s,v=>isStr s v&&decide (s.size<=lmax)
 | .list _ es,v=>es.isEmpty&&isNilS v
 | .agg ts,v=>match aggOf v with | some vs=>okConsts ts vs&&vs.all Value.oneCell' | none=>false
 | .clo f cs,v=>cs.isEmpty&&isFn f v
 | .nil,v=>isNilS v
 | _,_=>false
def okConsts:List TV->List Value->Bool
 | [],vs=>vs.isEmpty
 | t::ts,vs=>match vs with | v::vs=>okConst t v&&okConsts ts vs | []=>false
end
mutual
theorem okConst_rep (w:World) (F:Nat->Nat->Prop):∀ (t:TV) (v:Value),okConst t v=true->Rep w F t v∧t.WF
 | .undef,v,h=>by simp [okConst] at h
 | .xl _ _,v,h=>by simp [okConst] at h
 | .nil,v,h=>by
  simp only [okConst] at h
  exact ⟨isNilS_eq h,trivial⟩
 | .pt _,v,h=>by simp [okConst] at h
 | .int k n,v,h=>by
  simp only [okConst,Bool.and_eq_true,decide_eq_true_eq] at h
  exact ⟨isInt_eq h.1,h.2⟩
 | .bool b,v,h=>by
  simp only [okConst] at h
  exact ⟨isBool_eq h,trivial⟩
 | .str s,v,h=>by
  simp only [okConst,Bool.and_eq_true,decide_eq_true_eq] at h
  exact ⟨isStr_eq h.1,h.2⟩
 | .list n es,v,h=>by
  simp only [okConst,Bool.and_eq_true,List.isEmpty_iff] at h
  obtain ⟨rfl,h⟩:=h
  refine ⟨?_,by simp [TV.WF,TV.WFs]⟩
  simp only [Rep]
  exact ⟨none,0,isNilS_eq h,by simp⟩
 | .agg ts,v,h=>by
  simp only [okConst] at h
  split at h
  ·rename_i vs hv
   rw [Bool.and_eq_true] at h
   have:=okConsts_rep w F ts vs h.1
   refine ⟨?_,by simpa [TV.WF] using this.2⟩
   simp only [Rep]
   exact ⟨_,aggOf_eq hv,by simpa using this.1,by simpa using h.2⟩
  ·cases h
 | .clo f cs,v,h=>by
  simp only [okConst,Bool.and_eq_true,List.isEmpty_iff] at h
  obtain ⟨rfl,h⟩:=h
  refine ⟨?_,by simp [TV.WF,TV.WFs]⟩
  simp only [Rep]
  exact ⟨#[],isFn_eq h,rfl⟩
theorem okConsts_rep (w:World) (F:Nat->Nat->Prop):∀ (ts:List TV) (vs:List Value),okConsts ts vs=true->RepAll w F ts vs∧TV.WFs ts
 | [],vs,h=>by simp [okConsts] at h; subst h; exact ⟨rfl,trivial⟩
 | t::ts,vs,h=>by
  cases vs with
  | nil=>simp [okConsts] at h
  | cons v vs=>
   simp only [okConsts,Bool.and_eq_true] at h
   have h1:=okConst_rep w F t v h.1
   have h2:=okConsts_rep w F ts vs h.2
   exact ⟨⟨v,vs,rfl,h1.1,h2.1⟩,h1.2,h2.2⟩
end
def okOpd (x:Operand):Opd->Bool
 | .s m=>match x with | .tmp n=>n==m | _=>false
 | .c t=>match x with | .const v=>okConst t v | .func f=>okConst t (.func (.func f) #[] #[]) | _=>false
section
variable {F0:Nat->Nat->Prop} {w0:W0} {env:Env} {a:Act} {w:World} {G:Zones}
theorem own_free (h:InvG F0 w0 env a w G) {s:Nat} {i:Option Nat}:∀ b lo o,G s i=some (b,lo)->o<lo->¬ Forb w0.heap.size F0 G b o:=by
 intro b lo o hz ho hf
 rcases hf with ⟨hlt,hF0⟩ | ⟨s',i',lo',h1,h2⟩
 ·exact (h.lt _ _ _ _ hz).2.elim (fun e=>by omega) (fun e=>h.below.free _ _ _ (e _ (Nat.le_refl _)) hF0)
 ·obtain ⟨rfl,rfl⟩:=h.uniq _ _ _ _ _ _ _ h1 hz
  rw [h1] at hz
  simp only [Option.some.injEq,Prod.mk.injEq,true_and] at hz
  omega
theorem slot_in (h:InvG F0 w0 env a w G) {n:Nat} {e:EV} (he:env.get n=e) (hne:e≠.undef):n<a.tmps.size:=by
 rcases Nat.lt_or_ge n a.tmps.size with hlt | hge
 ·exact hlt
 ·exact absurd ((h.dom n hge).symm.trans he).symm hne
theorem slot_rep (h:InvG F0 w0 env a w G) {n:Nat} {e:EV} (he:env.get n=e) (hne:e≠.undef):EvRep a w (Forb w0.heap.size F0 G) G env n e (slot a n):=by
 have:=h.slots n (slot_in h he hne)
 rwa [he] at this
theorem opd_val (h:InvG F0 w0 env a w G) {x:Operand} {y:Opd} (hok:okOpd x y=true) {t:TV} (hv:y.val env=some t):Rep w (Forb w0.heap.size F0 G) t (a.eval x)∧t.WF:=by
 cases y with
 | s m=>
  cases x <;> simp [okOpd] at hok
  subst hok
  rename_i n
  simp only [Opd.val,Opd.ev] at hv
  have hw:=h.wf n
  cases he:env.get n with
  | tv t'=>
   rw [he] at hv hw
   simp only [EV.val,Option.some.injEq] at hv
   subst hv
   exact ⟨slot_rep h he (by simp),hw⟩
  | ow t'=>
   rw [he] at hv hw
   simp only [EV.val,Option.some.injEq] at hv
   subst hv
   exact ⟨OwnRep.rep (slot_rep h he (by simp)) (fun b lo o hz ho=>own_free h b lo o hz ho),hw⟩
  | undef=>rw [he] at hv; simp [EV.val] at hv
  | sk=>rw [he] at hv; simp [EV.val] at hv
  | xo n es=>rw [he] at hv; simp [EV.val] at hv
  | la q i=>rw [he] at hv; simp [EV.val] at hv
  | oag cs=>rw [he] at hv; simp [EV.val] at hv
  | lp q i c=>rw [he] at hv; simp [EV.val] at hv
  | bx cs=>rw [he] at hv; simp [EV.val] at hv
  | bp q off=>rw [he] at hv; simp [EV.val] at hv
  | tp ts=>rw [he] at hv; simp [EV.val] at hv
 | c t'=>
  simp only [Opd.val,Opd.ev,EV.val,Option.some.injEq] at hv
  subst hv
  cases x with
  | const v=>exact okConst_rep w _ _ _ hok
  | func f=>exact okConst_rep w _ _ _ hok
  | tmp n=>simp [okOpd] at hok
  | global g=>simp [okOpd] at hok
theorem opd_tv (h:InvG F0 w0 env a w G) {x:Operand} {y:Opd} (hok:okOpd x y=true) {t:TV} (hv:y.ev env=.tv t):Rep w (Forb w0.heap.size F0 G) t (a.eval x)∧t.WF:=
 opd_val h hok (by simp [Opd.val,hv,EV.val])
def okOpds:List Operand->List Opd->Bool
 | [],[]=>true
 | x::xs,y::ys=>okOpd x y&&okOpds xs ys
 | _,_=>false
theorem opds_vals (h:InvG F0 w0 env a w G):∀ {xs:List Operand} {ys:List Opd},okOpds xs ys=true->∀ {ts:List TV},vals env ys=some ts->RepAll w (Forb w0.heap.size F0 G) ts (xs.map a.eval)∧TV.WFs ts
 | [],[],_,ts,hv=>by simp [vals] at hv; subst hv; exact ⟨rfl,trivial⟩
 | [],_::_,hok,_,_=>by simp [okOpds] at hok
 | _::_,[],hok,_,_=>by simp [okOpds] at hok
 | x::xs,y::ys,hok,ts,hv=>by
  simp only [okOpds,Bool.and_eq_true] at hok
  simp only [vals] at hv
  split at hv
  ·rename_i t ts' ht hts
   simp only [Option.some.injEq] at hv
   subst hv
   have h1:=opd_val h hok.1 ht
   have h2:=opds_vals h hok.2 hts
   exact ⟨⟨_,_,rfl,h1.1,h2.1⟩,h1.2,h2.2⟩
  ·cases hv
end
theorem wrap_wf (k:IntKind) (n:Int):k.min<=k.wrap n∧k.wrap n<=k.max:=by
 cases k <;> simp only [IntKind.min,IntKind.max,IntKind.wrap,IntKind.signed,IntKind.bits,Bool.true_and,Bool.false_and] <;> simp <;> (try split) <;> omega
end Go.Sf
