/- The checker's operands, and the operations that only compute or read. -/
import Derived.Test.YtmaobfbhdkafkaaGreatSfQuiet
namespace Go.Sf
open Go.RowKit (Below)
def LT:Value->Bool
 | .slice none 0 0=>true
 | _=>false
theorem Kr {v:Value} (h:LT v=true):v=.slice none 0 0:=by
 unfold LT at h
 split at h
 ·rfl
 ·cases h
def a8 (f:FuncId):Value->Bool
 | .func (.func g) first caps=>f==g&&first.size==0&&caps.size==0
 | _=>false
theorem eT {f:FuncId} {v:Value} (h:a8 f v=true):v=.func (.func f) #[] #[]:=by
 unfold a8 at h
 split at h
 ·simp at h
  obtain ⟨⟨rfl,h1⟩,h2⟩:=h
  subst h1; subst h2
  rfl
 ·cases h
def X5 (k:IntKind) (n:Int):Value->Bool
 | .int k' m=>k==k'&&n==m
 | _=>false
theorem bA {k:IntKind} {n:Int} {v:Value} (h:X5 k n v=true):v=.int k n:=by
 unfold X5 at h
 split at h
 ·simp at h; rw [h.1,h.2]
 ·cases h
def VV (b:Bool):Value->Bool
 | .bool c=>b==c
 | _=>false
theorem ZT {b:Bool} {v:Value} (h:VV b v=true):v=.bool b:=by
 unfold VV at h
 split at h
 ·simp at h; rw [h]
 ·cases h
def X6 (s:ByteArray):Value->Bool
 | .string r=>s.data==r.data
 | _=>false
theorem bC {s:ByteArray} {v:Value} (h:X6 s v=true):v=.string s:=by
 unfold X6 at h
 split at h
 ·simp at h; congr 1; exact (ByteArray.ext h).symm
 ·cases h
def Xv:Value->Option (List Value)
 | .agg vs=>some vs.toList
 | _=>none
theorem af {v:Value} {l:List Value} (h:Xv v=some l):v=.agg l.toArray:=by
 unfold Xv at h
 split at h
 ·simp at h; subst h; simp
 ·cases h
mutual
def EU:TV->Value->Bool
 | .int k n,v=>X5 k n v&&decide (k.min<=n∧n<=k.max)
 | .bool b,v=>VV b v
 | .str s,v=>X6 s v&&decide (s.size<=Ka)
 | .list _ es,v=>es.isEmpty&&LT v
 | .agg ts,v=>match Xv v with | some vs=>Ju ts vs&&vs.all Value.oneCell' | none=>false
 | .clo f cs,v=>cs.isEmpty&&a8 f v
 | .nil,v=>LT v
 | _,_=>false
def Ju:List TV->List Value->Bool
 | [],vs=>vs.isEmpty
 | t::ts,vs=>match vs with | v::vs=>EU t v&&Ju ts vs | []=>false
end
mutual
theorem H9 (w:World) (F:Nat->Nat->Prop):∀ (t:TV) (v:Value),EU t v=true->A2 w F t v∧t.WF
 | .undef,v,h=>by simp [EU] at h
 | .xl _ _,v,h=>by simp [EU] at h
 | .nil,v,h=>by
  simp only [EU] at h
  exact ⟨Kr h,trivial⟩
 | .pt _,v,h=>by simp [EU] at h
 | .int k n,v,h=>by
  simp only [EU,zzZ,zzX] at h
  exact ⟨bA h.1,h.2⟩
 | .bool b,v,h=>by
  simp only [EU] at h
  exact ⟨ZT h,trivial⟩
 | .str s,v,h=>by
  simp only [EU,zzZ,zzX] at h
  exact ⟨bC h.1,h.2⟩
 | .list n es,v,h=>by
  simp only [EU,zzZ,List.isEmpty_iff] at h
  obtain ⟨rfl,h⟩:=h
  refine ⟨?_,by simp [TV.WF,TV.WFs]⟩
  simp only [A2]
  exact ⟨none,0,Kr h,by simp⟩
 | .agg ts,v,h=>by
  simp only [EU] at h
  split at h
  ·rename_i vs hv
   rw [zzZ] at h
   have:=OU w F ts vs h.1
   refine ⟨?_,by simpa [TV.WF] using this.2⟩
   simp only [A2]
   exact ⟨_,af hv,by simpa using this.1,by simpa using h.2⟩
  ·cases h
 | .clo f cs,v,h=>by
  simp only [EU,zzZ,List.isEmpty_iff] at h
  obtain ⟨rfl,h⟩:=h
  refine ⟨?_,by simp [TV.WF,TV.WFs]⟩
  simp only [A2]
  exact ⟨#[],eT h,rfl⟩
theorem OU (w:World) (F:Nat->Nat->Prop):∀ (ts:List TV) (vs:List Value),Ju ts vs=true->AM w F ts vs∧TV.WFs ts
 | [],vs,h=>by simp [Ju] at h; subst h; exact ⟨rfl,trivial⟩
 | t::ts,vs,h=>by
  cases vs with
  | nil=>simp [Ju] at h
  | cons v vs=>
   simp only [Ju,zzZ] at h
   have h1:=H9 w F t v h.1
   have h2:=OU w F ts vs h.2
   exact ⟨⟨v,vs,rfl,h1.1,h2.1⟩,h1.2,h2.2⟩
end
def AK (x:Operand):AE->Bool
 | .s m=>match x with | .tmp n=>n==m | _=>false
 | .c t=>match x with | .const v=>EU t v | .func f=>EU t (.func (.func f) #[] #[]) | _=>false
section
variable {F0:Nat->Nat->Prop} {w0:W0} {env:AC} {a:Act} {w:World} {G:C3}
theorem OW (h:AQ F0 w0 env a w G) {s:Nat} {i:Option Nat}:∀ b lo o,G s i=some (b,lo)->o<lo->¬ AV w0.heap.size F0 G b o:=by
 intro b lo o hz ho hf
 rcases hf with ⟨hlt,hF0⟩ | ⟨s',i',lo',h1,h2⟩
 ·exact (h.lt _ _ _ _ hz).2.elim (fun e=>by omega) (fun e=>h.below.free _ _ _ (e _ (Nat.le_refl _)) hF0)
 ·obtain ⟨rfl,rfl⟩:=h.uniq _ _ _ _ _ _ _ h1 hz
  rw [h1] at hz
  simp only [zzY,Prod.mk.injEq,true_and] at hz
  omega
theorem FZ (h:AQ F0 w0 env a w G) {n:Nat} {e:EV} (he:env.get n=e) (hne:e≠.undef):n<a.tmps.size:=by
 rcases Nat.lt_or_ge n a.tmps.size with hlt | hge
 ·exact hlt
 ·exact absurd ((h.dom n hge).symm.trans he).symm hne
theorem At (h:AQ F0 w0 env a w G) {n:Nat} {e:EV} (he:env.get n=e) (hne:e≠.undef):AP a w (AV w0.heap.size F0 G) G env n e (slot a n):=by
 have:=h.slots n (FZ h he hne)
 rwa [he] at this
theorem BB (h:AQ F0 w0 env a w G) {x:Operand} {y:AE} (hok:AK x y=true) {t:TV} (hv:y.val env=some t):A2 w (AV w0.heap.size F0 G) t (a.eval x)∧t.WF:=by
 cases y with
 | s m=>
  cases x <;> simp [AK] at hok
  subst hok
  rename_i n
  simp only [AE.val,AE.ev] at hv
  have hw:=h.wf n
  cases he:env.get n with
  | tv t'=>
   rw [he] at hv hw
   simp only [EV.val,zzY] at hv
   subst hv
   exact ⟨At h he (by simp),hw⟩
  | ow t'=>
   rw [he] at hv hw
   simp only [EV.val,zzY] at hv
   subst hv
   exact ⟨CF.rep (At h he (by simp)) (fun b lo o hz ho=>OW h b lo o hz ho),hw⟩
  | undef=>rw [he] at hv; simp [EV.val] at hv
  | sk=>rw [he] at hv; simp [EV.val] at hv
  | xo n es=>rw [he] at hv; simp [EV.val] at hv
  | la q i=>rw [he] at hv; simp [EV.val] at hv
  | oag cs=>rw [he] at hv; simp [EV.val] at hv
  | lp q i c=>rw [he] at hv; simp [EV.val] at hv
  | bx cs=>rw [he] at hv; simp [EV.val] at hv
  | bp q off=>rw [he] at hv; simp [EV.val] at hv
  | tp ts=>rw [he] at hv; simp [EV.val] at hv
 | c t'=>
  simp only [AE.val,AE.ev,EV.val,zzY] at hv
  subst hv
  cases x with
  | const v=>exact H9 w _ _ _ hok
  | func f=>exact H9 w _ _ _ hok
  | tmp n=>simp [AK] at hok
  | global g=>simp [AK] at hok
theorem S6 (h:AQ F0 w0 env a w G) {x:Operand} {y:AE} (hok:AK x y=true) {t:TV} (hv:y.ev env=.tv t):A2 w (AV w0.heap.size F0 G) t (a.eval x)∧t.WF:=
 BB h hok (by simp [AE.val,hv,EV.val])
def CZ:List Operand->List AE->Bool
 | [],[]=>true
 | x::xs,y::ys=>AK x y&&CZ xs ys
 | _,_=>false
theorem Jh (h:AQ F0 w0 env a w G):∀ {xs:List Operand} {ys:List AE},CZ xs ys=true->∀ {ts:List TV},vals env ys=some ts->AM w (AV w0.heap.size F0 G) ts (xs.map a.eval)∧TV.WFs ts
 | [],[],_,ts,hv=>by simp [vals] at hv; subst hv; exact ⟨rfl,trivial⟩
 | [],_::_,hok,_,_=>by simp [CZ] at hok
 | _::_,[],hok,_,_=>by simp [CZ] at hok
 | x::xs,y::ys,hok,ts,hv=>by
  simp only [CZ,zzZ] at hok
  simp only [vals] at hv
  split at hv
  ·rename_i t ts' ht hts
   simp only [zzY] at hv
   subst hv
   have h1:=BB h hok.1 ht
   have h2:=Jh h hok.2 hts
   exact ⟨⟨_,_,rfl,h1.1,h2.1⟩,h1.2,h2.2⟩
  ·cases hv
end
theorem LH (k:IntKind) (n:Int):k.min<=k.wrap n∧k.wrap n<=k.max:=by
 cases k <;> simp only [IntKind.min,IntKind.max,IntKind.wrap,IntKind.signed,IntKind.bits,Bool.true_and,Bool.false_and] <;> simp <;> (try split) <;> omega
end Go.Sf
