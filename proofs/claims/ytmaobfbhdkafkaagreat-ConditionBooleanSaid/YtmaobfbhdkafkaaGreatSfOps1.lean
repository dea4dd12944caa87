/- The checker's operands, and the operations that only compute or read. -/
import Derived.Test.YtmaobfbhdkafkaaGreatSfQuiet
namespace Go.Sf
open Go.RowKit (Below)
def Kx:Value->Bool
 | .slice none 0 0=>true
 | _=>false
theorem KJ {v:Value} (h:Kx v=true):v=.slice none 0 0:=by
 unfold Kx at h
 split at h
 ·rfl
 ·cases h
def Zj (f:FuncId):Value->Bool
 | .func (.func g) first caps=>f==g&&first.size==0&&caps.size==0
 | _=>false
theorem cf {f:FuncId} {v:Value} (h:Zj f v=true):v=.func (.func f) #[] #[]:=by
 unfold Zj at h
 split at h
 ·simp at h
  obtain ⟨⟨rfl,h1⟩,h2⟩:=h
  subst h1; subst h2
  rfl
 ·cases h
def W4 (k:IntKind) (n:Int):Value->Bool
 | .int k' m=>k==k'&&n==m
 | _=>false
theorem Zk {k:IntKind} {n:Int} {v:Value} (h:W4 k n v=true):v=.int k n:=by
 unfold W4 at h
 split at h
 ·simp at h; rw [h.1,h.2]
 ·cases h
def UZ (b:Bool):Value->Bool
 | .bool c=>b==c
 | _=>false
theorem YO {b:Bool} {v:Value} (h:UZ b v=true):v=.bool b:=by
 unfold UZ at h
 split at h
 ·simp at h; rw [h]
 ·cases h
def W5 (s:ByteArray):Value->Bool
 | .string r=>s.data==r.data
 | _=>false
theorem Zm {s:ByteArray} {v:Value} (h:W5 s v=true):v=.string s:=by
 unfold W5 at h
 split at h
 ·simp at h; congr 1; exact (ByteArray.ext h).symm
 ·cases h
def Ws:Value->Option (List Value)
 | .agg vs=>some vs.toList
 | _=>none
theorem ZV {v:Value} {l:List Value} (h:Ws v=some l):v=.agg l.toArray:=by
 unfold Ws at h
 split at h
 ·simp at h; subst h; simp
 ·cases h
mutual
def EI:TV->Value->Bool
 | .int k n,v=>W4 k n v&&decide (k.min<=n∧n<=k.max)
 | .bool b,v=>UZ b v
 | .str s,v=>W5 s v&&decide (s.size<=J4)
 | .list _ es,v=>es.isEmpty&&Kx v
 | .agg ts,v=>match Ws v with | some vs=>JT ts vs&&vs.all Value.oneCell' | none=>false
 | .clo f cs,v=>cs.isEmpty&&Zj f v
 | .nil,v=>Kx v
 | _,_=>false
def JT:List TV->List Value->Bool
 | [],vs=>vs.isEmpty
 | t::ts,vs=>match vs with | v::vs=>EI t v&&JT ts vs | []=>false
end
mutual
theorem Hr (w:World) (F:Nat->Nat->Prop):∀ (t:TV) (v:Value),EI t v=true->A1 w F t v∧t.WF
 | .undef,v,h=>by simp [EI] at h
 | .xl _ _,v,h=>by simp [EI] at h
 | .nil,v,h=>by
  simp only [EI] at h
  exact ⟨KJ h,trivial⟩
 | .pt _,v,h=>by simp [EI] at h
 | .int k n,v,h=>by
  simp only [EI,zzZ,zzX] at h
  exact ⟨Zk h.1,h.2⟩
 | .bool b,v,h=>by
  simp only [EI] at h
  exact ⟨YO h,trivial⟩
 | .str s,v,h=>by
  simp only [EI,zzZ,zzX] at h
  exact ⟨Zm h.1,h.2⟩
 | .list n es,v,h=>by
  simp only [EI,zzZ,List.isEmpty_iff] at h
  obtain ⟨rfl,h⟩:=h
  refine ⟨?_,by simp [TV.WF,TV.WFs]⟩
  simp only [A1]
  exact ⟨none,0,KJ h,by simp⟩
 | .agg ts,v,h=>by
  simp only [EI] at h
  split at h
  ·rename_i vs hv
   rw [zzZ] at h
   have:=Nk w F ts vs h.1
   refine ⟨?_,by simpa [TV.WF] using this.2⟩
   simp only [A1]
   exact ⟨_,ZV hv,by simpa using this.1,by simpa using h.2⟩
  ·cases h
 | .clo f cs,v,h=>by
  simp only [EI,zzZ,List.isEmpty_iff] at h
  obtain ⟨rfl,h⟩:=h
  refine ⟨?_,by simp [TV.WF,TV.WFs]⟩
  simp only [A1]
  exact ⟨#[],cf h,rfl⟩
theorem Nk (w:World) (F:Nat->Nat->Prop):∀ (ts:List TV) (vs:List Value),JT ts vs=true->AM w F ts vs∧TV.WFs ts
 | [],vs,h=>by simp [JT] at h; subst h; exact ⟨rfl,trivial⟩
 | t::ts,vs,h=>by
  cases vs with
  | nil=>simp [JT] at h
  | cons v vs=>
   simp only [JT,zzZ] at h
   have h1:=Hr w F t v h.1
   have h2:=Nk w F ts vs h.2
   exact ⟨⟨v,vs,rfl,h1.1,h2.1⟩,h1.2,h2.2⟩
end
def AK (x:Operand):AE->Bool
 | .s m=>match x with | .tmp n=>n==m | _=>false
 | .c t=>match x with | .const v=>EI t v | .func f=>EI t (.func (.func f) #[] #[]) | _=>false
section
variable {F0:Nat->Nat->Prop} {w0:W0} {env:AC} {a:Act} {w:World} {G:C0}
theorem Nn (h:AQ F0 w0 env a w G) {s:Nat} {i:Option Nat}:∀ b lo o,G s i=some (b,lo)->o<lo->¬ AV w0.heap.size F0 G b o:=by
 intro b lo o hz ho hf
 rcases hf with ⟨hlt,hF0⟩ | ⟨s',i',lo',h1,h2⟩
 ·exact (h.lt _ _ _ _ hz).2.elim (fun e=>by omega) (fun e=>h.below.free _ _ _ (e _ (Nat.le_refl _)) hF0)
 ·obtain ⟨rfl,rfl⟩:=h.uniq _ _ _ _ _ _ _ h1 hz
  rw [h1] at hz
  simp only [zzY,Prod.mk.injEq,true_and] at hz
  omega
theorem FM (h:AQ F0 w0 env a w G) {n:Nat} {e:EV} (he:env.get n=e) (hne:e≠.undef):n<a.tmps.size:=by
 rcases Nat.lt_or_ge n a.tmps.size with hlt | hge
 ·exact hlt
 ·exact absurd ((h.dom n hge).symm.trans he).symm hne
theorem At (h:AQ F0 w0 env a w G) {n:Nat} {e:EV} (he:env.get n=e) (hne:e≠.undef):AP a w (AV w0.heap.size F0 G) G env n e (slot a n):=by
 have:=h.slots n (FM h he hne)
 rwa [he] at this
theorem A9 (h:AQ F0 w0 env a w G) {x:Operand} {y:AE} (hok:AK x y=true) {t:TV} (hv:y.val env=some t):A1 w (AV w0.heap.size F0 G) t (a.eval x)∧t.WF:=by
 cases y with
 | s m=>
  cases x <;> simp [AK] at hok
  subst hok
  rename_i n
  simp only [AE.val,AE.ev] at hv
  have hw:=h.wf n
  cases he:env.get n with
  | tv t'=>
   rw [he] at hv hw
   simp only [EV.val,zzY] at hv
   subst hv
   exact ⟨At h he (by simp),hw⟩
  | ow t'=>
   rw [he] at hv hw
   simp only [EV.val,zzY] at hv
   subst hv
   exact ⟨CC.rep (At h he (by simp)) (fun b lo o hz ho=>Nn h b lo o hz ho),hw⟩
  | undef=>rw [he] at hv; simp [EV.val] at hv
  | sk=>rw [he] at hv; simp [EV.val] at hv
  | xo n es=>rw [he] at hv; simp [EV.val] at hv
  | la q i=>rw [he] at hv; simp [EV.val] at hv
  | oag cs=>rw [he] at hv; simp [EV.val] at hv
  | lp q i c=>rw [he] at hv; simp [EV.val] at hv
  | bx cs=>rw [he] at hv; simp [EV.val] at hv
  | bp q off=>rw [he] at hv; simp [EV.val] at hv
  | tp ts=>rw [he] at hv; simp [EV.val] at hv
 | c t'=>
  simp only [AE.val,AE.ev,EV.val,zzY] at hv
  subst hv
  cases x with
  | const v=>exact Hr w _ _ _ hok
  | func f=>exact Hr w _ _ _ hok
  | tmp n=>simp [AK] at hok
  | global g=>simp [AK] at hok
theorem SH (h:AQ F0 w0 env a w G) {x:Operand} {y:AE} (hok:AK x y=true) {t:TV} (hv:y.ev env=.tv t):A1 w (AV w0.heap.size F0 G) t (a.eval x)∧t.WF:=
 A9 h hok (by simp [AE.val,hv,EV.val])
def CW:List Operand->List AE->Bool
 | [],[]=>true
 | x::xs,y::ys=>AK x y&&CW xs ys
 | _,_=>false
theorem JH (h:AQ F0 w0 env a w G):∀ {xs:List Operand} {ys:List AE},CW xs ys=true->∀ {ts:List TV},vals env ys=some ts->AM w (AV w0.heap.size F0 G) ts (xs.map a.eval)∧TV.WFs ts
 | [],[],_,ts,hv=>by simp [vals] at hv; subst hv; exact ⟨rfl,trivial⟩
 | [],_::_,hok,_,_=>by simp [CW] at hok
 | _::_,[],hok,_,_=>by simp [CW] at hok
 | x::xs,y::ys,hok,ts,hv=>by
  simp only [CW,zzZ] at hok
  simp only [vals] at hv
  split at hv
  ·rename_i t ts' ht hts
   simp only [zzY] at hv
   subst hv
   have h1:=A9 h hok.1 ht
   have h2:=JH h hok.2 hts
   exact ⟨⟨_,_,rfl,h1.1,h2.1⟩,h1.2,h2.2⟩
  ·cases hv
end
theorem Kk (k:IntKind) (n:Int):k.min<=k.wrap n∧k.wrap n<=k.max:=by
 cases k <;> simp only [IntKind.min,IntKind.max,IntKind.wrap,IntKind.signed,IntKind.bits,Bool.true_and,Bool.false_and] <;> simp <;> (try split) <;> omega
end Go.Sf
