/- The checker's operands, and the operations that only compute or read. -/
import Derived.Test.YtlbmpkmkmkgniaaGreatDoorSfQuiet
import Derived.Laws.StructEq
import Derived.Laws.Tables
import Derived.Great.BuildSlice
set_option linter.all false
namespace Go.Sf
open Go.RowKit (Below)
def Lu:Value->Bool
 | .slice none 0 0=>true
 | _=>false
theorem LC {v:Value} (h:Lu v=true):v=.slice none 0 0:=by
 unfold Lu at h;split at h
 ·rfl
 ·cases h
def cX (f:FuncId):Value->Bool
 | .func (.func g) first caps=>f==g&&first.size==0&&caps.size==0
 | _=>false
theorem ff {f:FuncId} {v:Value} (h:cX f v=true):v=.func (.func f) #[] #[]:=by
 unfold cX at h;split at h
 ·simp at h;obtain ⟨⟨rfl,b⟩,c⟩:=h;subst b; subst c;rfl
 ·cases h
def ZC (k:IntKind) (n:Int):Value->Bool
 | .int k' m=>k==k'&&n==m
 | _=>false
theorem cY {k:IntKind} {n:Int} {v:Value} (h:ZC k n v=true):v=.int k n:=by
 unfold ZC at h;split at h
 ·simp at h; rw [h.1,h.2]
 ·cases h
def Wd (b:Bool):Value->Bool
 | .bool c=>b==c
 | _=>false
theorem aR {b:Bool} {v:Value} (h:Wd b v=true):v=.bool b:=by
 unfold Wd at h;split at h
 ·simp at h; rw [h]
 ·cases h
def ZD (s:ByteArray):Value->Bool
 | .string r=>s.data==r.data
 | _=>false
theorem cb {s:ByteArray} {v:Value} (h:ZD s v=true):v=.string s:=by
 unfold ZD at h;split at h
 ·simp at h; congr 1; exact (ByteArray.ext h).symm
 ·cases h
def Yx:Value->Option (List Value)
 | .agg vs=>some vs.toList
 | _=>none
theorem cA {v:Value} {l:List Value} (h:Yx v=some l):v=.agg l.toArray:=by
 unfold Yx at h;split at h
 ·simp at h; subst h; simp
 ·cases h
mutual
def FO:TV->Value->Bool
 | .int k n,v=>ZC k n v&&decide (k.min<=n∧n<=k.max)
 | .bool b,v=>Wd b v
 | .str s,v=>ZD s v&&decide (s.size<=I3)
 | .list _ es,v=>es.isEmpty&&Lu v
 | .agg ts,v=>match Yx v with | some vs=>KU ts vs&&vs.all Value.oneCell' | none=>false
 | .clo f cs,v=>cs.isEmpty&&cX f v
 | .nil,v=>Lu v
 | .undef,v=>v.oneCell'
 | _,_=>false
def KU:QQ->List Value->Bool
 | [],vs=>vs.isEmpty
 | t::ts,vs=>match vs with | v::vs=>FO t v&&KU ts vs | []=>false
end
mutual
theorem Il (w:World) (F:Nat->Nat->Prop):∀ (t:TV) (v:Value),FO t v=true->A7 w F t v∧t.WF
 | .undef,v,h=>by
  simp only [FO] at h;exact ⟨by simpa [A7] using h,trivial⟩
 | .xl _ _,v,h=>by simp [FO] at h
 | .nil,v,h=>by
  simp only [FO] at h;exact ⟨LC h,trivial⟩
 | .pt _,v,h=>by simp [FO] at h
 | .int k n,v,h=>by
  simp only [FO,zzZ,zzX] at h;exact ⟨cY h.1,h.2⟩
 | .bool b,v,h=>by
  simp only [FO] at h;exact ⟨aR h,trivial⟩
 | .str s,v,h=>by
  simp only [FO,zzZ,zzX] at h;exact ⟨cb h.1,h.2⟩
 | .list n es,v,h=>by
  simp only [FO,zzZ,List.isEmpty_iff] at h;obtain ⟨rfl,h⟩:=h;refine ⟨?_,by simp [TV.WF,TV.WFs]⟩;simp only [A7];exact ⟨none,0,LC h,by simp⟩
 | .agg c,v,h=>by
  simp only [FO] at h;split at h
  ·rename_i vs hv;rw [zzZ] at h;have:=O2 w F c vs h.1;refine ⟨?_,by simpa [TV.WF] using this.2⟩;simp only [A7];exact ⟨_,cA hv,by simpa using this.1,by simpa using h.2⟩
  ·cases h
 | .clo f cs,v,h=>by
  simp only [FO,zzZ,List.isEmpty_iff] at h;obtain ⟨rfl,h⟩:=h;refine ⟨?_,by simp [TV.WF,TV.WFs]⟩;simp only [A7];exact ⟨#[],ff h,rfl⟩
theorem O2 (w:World) (F:Nat->Nat->Prop):∀ (b:QQ) (vs:List Value),KU b vs=true->AS w F b vs∧TV.WFs b
 | [],vs,h=>by simp [KU] at h; subst h; exact ⟨rfl,trivial⟩
 | t::b,vs,h=>by
  cases vs with
  | nil=>simp [KU] at h
  | cons v vs=>
   simp only [KU,zzZ] at h;have c:=Il w F t v h.1;have e:=O2 w F b vs h.2;exact ⟨⟨v,vs,rfl,c.1,e.1⟩,c.2,e.2⟩
end
def AP (x:Operand):AL->Bool
 | .s m=>match x with | .tmp n=>n==m | _=>false
 | .c t=>match x with | .const v=>FO t v | .func f=>FO t (.func (.func f) #[] #[]) | _=>false
section
variable {F0:Nat->Nat->Prop} {w0:W0} {O:AD} {a:Act} {w:World} {G:DP}
theorem O5 (h:AZ F0 w0 O a w G) {s:Nat} {i:Option Nat}:∀ b lo o,G s i=some (b,lo)->o<lo->¬ A3 w0.heap.size F0 G b o:=by
 intro b lo o c ho j;rcases j with ⟨k,f⟩ | ⟨s',m,l,g,n⟩
 ·exact (h.lt _ _ _ _ c).2.elim (fun e=>by omega) (fun e=>h.below.free _ _ _ (e _ (d3 _)) f)
 ·obtain ⟨rfl,rfl⟩:=h.uniq _ _ _ _ _ _ _ g c;rw [g] at c;simp only [zzY,Prod.mk.injEq,true_and] at c;omega
theorem G7 (h:AZ F0 w0 O a w G) {n:Nat} {e:EV} (g:O.get n=e) (b:e≠.undef):n<a.tmps.size:=by
 rcases Nat.lt_or_ge n a.tmps.size with c | f
 ·exact c
 ·exact absurd ((h.dom n f).symm.trans g).symm b
theorem A9 (h:AZ F0 w0 O a w G) {n:Nat} {e:EV} (c:O.get n=e) (b:e≠.undef):AY a w (A3 w0.heap.size F0 G) G O n e (slot a n):=by
 have:=h.slots n (G7 h c b)
 rwa [c] at this
theorem BR (h:AZ F0 w0 O a w G) {x:Operand} {y:AL} (e:AP x y=true) {t:TV} (hv:y.val O=some t):A7 w (A3 w0.heap.size F0 G) t (a.eval x)∧t.WF:=by
 cases y with
 | s m=>
  cases x <;> simp [AP] at e;subst e;rename_i n;simp only [AL.val,AL.ev] at hv;have k:=h.wf n;cases j:O.get n with
  | tv l=>
   rw [j] at hv k;simp only [EV.val,zzY] at hv;subst hv;exact ⟨A9 h j (by simp),k⟩
  | ow l=>
   rw [j] at hv k;simp only [EV.val,zzY] at hv;subst hv;exact ⟨C1.rep (A9 h j (by simp)) (fun b lo o p ho=>O5 h b lo o p ho),k⟩
  | undef=>rw [j] at hv; simp [EV.val] at hv
  | sk=>rw [j] at hv; simp [EV.val] at hv
  | xo n es=>rw [j] at hv; simp [EV.val] at hv
  | la q i=>rw [j] at hv; simp [EV.val] at hv
  | oag cs=>rw [j] at hv; simp [EV.val] at hv
  | lp q i c=>rw [j] at hv; simp [EV.val] at hv
  | bx cs=>rw [j] at hv; simp [EV.val] at hv
  | bp q r=>rw [j] at hv; simp [EV.val] at hv
  | tp u=>rw [j] at hv; simp [EV.val] at hv
 | c l=>
  simp only [AL.val,AL.ev,EV.val,zzY] at hv;subst hv;cases x with
  | const v=>exact Il w _ _ _ e
  | func f=>exact Il w _ _ _ e
  | tmp n=>simp [AP] at e
  | global g=>simp [AP] at e
theorem UD (h:AZ F0 w0 O a w G) {x:Operand} {y:AL} (b:AP x y=true) {t:TV} (hv:y.ev O=.tv t):A7 w (A3 w0.heap.size F0 G) t (a.eval x)∧t.WF:=
 BR h b (by simp [AL.val,hv,EV.val])
def DK:List Operand->List AL->Bool
 | [],[]=>true
 | x::xs,y::ys=>AP x y&&DK xs ys
 | _,_=>false
theorem KJ (h:AZ F0 w0 O a w G):∀ {xs:List Operand} {e:List AL},DK xs e=true->∀ {c:QQ},vals O e=some c->AS w (A3 w0.heap.size F0 G) c (xs.map a.eval)∧TV.WFs c
 | [],[],_,c,hv=>by simp [vals] at hv; subst hv; exact ⟨rfl,trivial⟩
 | [],_::_,b,_,_=>by simp [DK] at b
 | _::_,[],b,_,_=>by simp [DK] at b
 | x::xs,y::e,b,c,hv=>by
  simp only [DK,zzZ] at b;simp only [vals] at hv;split at hv
  ·rename_i t j k f;simp only [zzY] at hv;subst hv;have g:=BR h b.1 k;have i:=KJ h b.2 f;exact ⟨⟨_,_,rfl,g.1,i.1⟩,g.2,i.2⟩
  ·cases hv
end
theorem Lh (k:IntKind) (n:Int):k.min<=k.wrap n∧k.wrap n<=k.max:=by
 cases k <;> simp only [IntKind.min,IntKind.max,IntKind.wrap,IntKind.signed,IntKind.bits,Bool.true_and,Bool.false_and] <;> simp <;> (try split) <;> omega
end Go.Sf
namespace Go.Sf
open Go.RowKit (Below)
def FH (P:Program) (t:TypeId):Option Nat:=(P.info? t).map (·.size)
def DR (P:Program) (t:TypeId):ca:=
 match P.underlying t with
 | some (.struct _) | some (.array _ _)=>some true
 | some _=>some false
 | none=>none
def LT (P:Program) (t:TypeId):Option Nat:=
 match P.underlying t with
 | some (.slice e)=>FH P e
 | _=>none
def O1 (P:Program) (t:TypeId) (f:Nat):Option Nat:=
 match P.underlying t with
 | some (.struct fs)=>match fs[f]? with
  | some x=>match FH P x.type with
   | some 0=>none
   | some _=>some x.offset
   | none=>none
  | none=>none
 | _=>none
section
variable {P:Program} {w:World}
theorem D7 {t:TypeId} {n:Nat} (h:FH P t=some n):(sizeOf t).run P w=.ok n w:=by
 simp only [FH,Option.map_eq_some_iff] at h;obtain ⟨i,hi,rfl⟩:=h;simp [sizeOf,typeInfo,hi]
theorem FQ {t:TypeId} {b:Bool} (h:DR P t=some b):(isAgg t).run P w=.ok b w:=by
 unfold DR at h;unfold isAgg underlying;simp only [Sem.run_bind,run_program,Result.andThen_ok];cases c:P.underlying t with
 | none=>rw [c] at h; simp at h
 | some d=>
  rw [c] at h;cases d <;> simp_all
theorem Rv {t:TypeId} {f k b o:Nat} (h:O1 P t f=some k) :
  (Instr.fieldAt t (.pointer (some ⟨b,o,none⟩)) f).run P w=.ok (.pointer (some ⟨b,o+k,none⟩)) w:=by
 unfold O1 at h;split at h
 ·rename_i m g;split at h
  ·rename_i x i;split at h
   ·cases h
   ·rename_i n j l;simp only [zzY] at h;subst h;have c:¬ (n=0):=fun e=>j (by rw [e]);simp [Instr.fieldAt,run_underlying g,i,Instr.sureAddr,fieldPlace,D7 l,c,Addr.add_lit]
   ·cases h
  ·cases h
 ·cases h
theorem Qw {F:Nat->Nat->Prop} {c:QQ} {b o:Nat} (h:EN w F c b o):∃ vs:List Value,AS w F c vs∧(∀ x∈vs,x.oneCell'=true)∧∀ (j:Nat) (v:Value),vs[j]?=some v->w.cell? ((⟨b,o,none⟩:Addr).add j)=some v:=by
 induction c generalizing o with
 | nil=>exact ⟨[],rfl,by simp,by simp⟩
 | cons t c p=>
  simp only [EN] at h;obtain ⟨⟨v,f,q,g,i⟩,k⟩:=h;obtain ⟨vs,l,m,n⟩:=p k;refine ⟨v::vs,⟨v,vs,rfl,i,l⟩,by simp only [List.mem_cons,forall_eq_or_imp]; exact ⟨g,m⟩,fun j u e=>?_⟩;rw [Addr.add_lit];cases j with
  | zero=>simp at e; subst e; exact f
  | succ j=>
   have:=n j u (by simpa using e);rw [Addr.add_lit] at this
   rwa [show o+(j+1)=o+1+j from by omega]
theorem CN {F:Nat->Nat->Prop} {b:QQ} {vs:List Value} (h:AS w F b vs):vs.length=b.length:=((CP b vs).1 h).1
theorem Zf {F:Nat->Nat->Prop} {t:TypeId} {n:Nat} {es:QQ} {v:Value} {k:IntKind} {j:Int} (f:LT P t=some n) (h:A7 w F (.list n es) v) (z:0<=j) {e:TV} (i:es[j.toNat]?=some e) :
  ∃ p,(Instr.indexAt t v (.int k j)).run P w=.ok p w∧A7 w F (.pt e.cells) p:=by
 simp only [A7] at h;obtain ⟨a,cap,rfl,_,u,x⟩:=h;have c:j.toNat<es.length:=by
  rcases Nat.lt_or_ge j.toNat es.length with h | h
  ·exact h
  ·rw [List.getElem?_eq_none h] at i; cases i
 cases a with
 | none=>have:=u rfl; subst this; simp at c
 | some m=>
  obtain ⟨g,l⟩:=x m rfl;obtain ⟨b,o,y⟩:=m;simp only at g l;have g:y=none:=g.resolve_left (fun e=>by subst e; simp at c);subst g;unfold LT at f;split at f
  ·rename_i el q;rw [Pl] at l;have r:=l j.toNat e i;have s:0<=j∧j<(es.length:Int):=by omega
   refine ⟨.pointer (some ⟨b,o+j.toNat*n,none⟩),?_,?_⟩
   ·simp [Instr.indexAt,asIntOf,run_underlying q,s,D7 f,Addr.add_lit]
   ·simp only [A7];exact ⟨b,_,rfl,r.1⟩
  ·cases f
end
end Go.Sf
namespace Go.Sf
open Go.RowKit (Below)
def B2 (P:Program) (F0:Nat->Nat->Prop) (w0:W0) (a:Act) (w:World) (o:Oper) (d:Nat) (K:EV->AD->Prop):Prop:=
 ∃ v w',(execOp a.eval o).run P w=.ok (.value v) w'∧∃ e env',K e env'∧DI F0 w0 ((d,e)::env') (a.put (some d) v) w'
theorem CU:∀ {l:QQ},TV.WFs l↔∀ t∈l,t.WF
 | []=>by simp [TV.WFs]
 | t::l=>by simp [TV.WFs,CU (l:=l)]
theorem Ka {t:TV} (h:t.WF):TV.WFs t.cells:=by
 cases t with
 | agg cs=>exact h
 | _=>exact ⟨h,trivial⟩
section
variable {P:Program} {S:FuncId->QQ->CS->Prop} {F0:Nat->Nat->Prop} {w0:W0} {O:AD} {a:Act} {w:World} {G:DP} {d:Nat} {o:Oper} {K:EV->AD->Prop}
theorem DV (c:AZ F0 w0 O a w G) (e:d<a.tmps.size) {v:Value} {t:TV} (b:(execOp a.eval o).run P w=.ok (.value v) w)
  (f:A7 w (A3 w0.heap.size F0 G) t v) (g:t.WF) (h:K (.tv t) O):B2 P F0 w0 a w o d K:=
 ⟨v,w,b,_,_,h,c.tv_same d e t v f g⟩
theorem Yi (k:AZ F0 w0 O a w G) (r:d<a.tmps.size) {x:Operand} {y:AL} (e:o.op=.move x∨o.op=.assign x) (g:AP x y=true) (h:(AJ.mv y).wp S O (some d) K):B2 P F0 w0 a w o d K:=by
 simp only [AJ.wp] at h;have hv:(∃ t,y.val O=some t∧K (.tv t) O)∨∃ l,y.ev O=.tp l∧K (.tp l) O:=by
  unfold AL.val;split at h <;> first | exact h.elim | (rename_i t p; exact .inl ⟨t,by rw [p]; rfl,h⟩) | (rename_i t p; exact .inr ⟨t,p,h⟩)
 have f:(execOp a.eval o).run P w=.ok (.value (a.eval x)) w:=by rcases e with e | e <;> simp [execOp,e]
 rcases hv with ⟨t,hv,q⟩ | ⟨l,hv,q⟩
 ·have:=BR k g hv;exact DV k r (v:=a.eval x) f this.1 this.2 q
 ·cases y with
  | c t=>simp [AL.ev] at hv
  | s n=>
   have E:x=.tmp n:=by
    cases x <;> simp [AP] at g;rw [g]
   subst E;simp only [AL.ev] at hv;have z:=A9 k hv (by simp);have A:=k.wf n;rw [hv] at A;refine ⟨_,w,f,_,_,q,⟨_,k.quiet (Below.refl _ _) d r (.tp l) _ (fun _=>none) (by simp) (by simp) (by simp) ?_ A⟩⟩;simp only [AY] at z ⊢;obtain ⟨vs,H,I⟩:=z;refine ⟨vs,H,BP (fun b o u C D=>⟨C,fun m=>D ?_⟩) _ _ I⟩;rcases m with j | ⟨s,i,lo,j,J⟩
   ·exact .inl j
   ·by_cases B:s=d
    ·subst B; rw [CB] at j; cases j
    ·rw [B1 _ _ _ _ B] at j; exact .inr ⟨s,i,lo,j,J⟩
theorem bc (f:AZ F0 w0 O a w G) (j:d<a.tmps.size) {c x x':Operand} {c' y e:AL} (g:o.op=.pick c x x') (k:AP c c'=true) (p:AP x y=true) (r:AP x' e=true)
  (h:(AJ.pick c' y e).wp S O (some d) K):B2 P F0 w0 a w o d K:=by
 simp only [AJ.wp] at h;split at h
 ·rename_i q l;have b:=(BR f k l).1;simp only [A7] at b;have i:AP (if q then x else x') (if q then y else e)=true:=by cases q <;> assumption
  have hv:∃ t,(if q then y else e).val O=some t∧K (.tv t) O:=by
   unfold AL.val;split at h <;> first | exact h.elim | (rename_i t m; exact ⟨t,by rw [m]; rfl,h⟩)
  obtain ⟨t,hv,n⟩:=hv;have:=BR f i hv;refine DV f j (v:=a.eval (if q then x else x')) ?_ this.1 this.2 n;cases q <;> simp [execOp,g,b,asBool]
 ·exact h.elim
theorem dj (f:AZ F0 w0 O a w G) (g:d<a.tmps.size) {x:Operand} {y:AL} {t:TypeId} (c:o.op=.unOp .not t x) (e:AP x y=true) (h:(AJ.not y).wp S O (some d) K):B2 P F0 w0 a w o d K:=by
 simp only [AJ.wp] at h;split at h
 ·rename_i b hv;have:=(BR f e hv).1;simp only [A7] at this;exact DV f g (v:=.bool !b) (t:=.bool !b) (by simp [execOp,c,this,Op.unary]) rfl trivial h
 ·exact h.elim
theorem di (e:AZ F0 w0 O a w G) (f:d<a.tmps.size) {x:Operand} {y:AL} {t:TypeId} (b:o.op=.unOp .neg t x) (c:AP x y=true) (h:(AJ.neg y).wp S O (some d) K):B2 P F0 w0 a w o d K:=by
 simp only [AJ.wp] at h;split at h
 ·rename_i k n hv;have:=(BR e c hv).1;simp only [A7] at this;exact DV e f (v:=.int k (k.wrap (-n))) (t:=.int k (k.wrap (-n))) (by simp [execOp,b,this,Op.unary,Op.intArith]) rfl (Lh k _) h
 ·exact h.elim
theorem dY (e:AZ F0 w0 O a w G) (f:d<a.tmps.size) {x:Operand} {y:AL} {s t:TypeId} {k g:IntKind} (b:o.op=.convert s t x) (i:P.underlying s=some (.int g)) (j:P.underlying t=some (.int k)) (c:AP x y=true) (h:(AJ.cvt k y).wp S O (some d) K):B2 P F0 w0 a w o d K:=by
 simp only [AJ.wp] at h;split at h
 ·rename_i l n hv;have:=(BR e c hv).1;simp only [A7] at this;refine DV e f (v:=.int k (k.wrap n)) (t:=.int k (k.wrap n)) ?_ rfl (Lh k _) h;simp [execOp,b,this,convert,run_underlying i,run_underlying j,Conv.intToInt]
 ·exact h.elim
theorem dU (g:AZ F0 w0 O a w G) (i:d<a.tmps.size) {f:FuncId} {xs:Array Operand} {b:List AL} (c:o.op=.makeFunc (.func f) #[] xs) (e:DK xs.toList b=true) (h:(AJ.clo f b).wp S O (some d) K):B2 P F0 w0 a w o d K:=by
 simp only [AJ.wp] at h;cases hv:vals O b with
 | none=>rw [hv] at h; exact h.elim
 | some j=>
  rw [hv] at h;have:=KJ g e hv;refine DV g i (v:=.func (.func f) #[] (xs.map a.eval)) (by simp [execOp,c,Instr.makeFunc]) ?_ (by simpa [TV.WF] using this.2) h;simp only [A7];exact ⟨_,rfl,by simpa using this.1⟩
theorem dZ (c:AZ F0 w0 O a w G) (m:d<a.tmps.size) {s i:Nat} (e:o.op=.extract (.tmp s) i) (h:(AJ.ext (.s s) i).wp S O (some d) K):B2 P F0 w0 a w o d K:=by
 simp only [AJ.wp,AL.ev] at h;split at h
 ·rename_i f hv;cases b:f[i]? with
  | none=>rw [b] at h; exact h.elim
  | some t=>
   rw [b] at h;have j:=A9 c hv (by simp);have k:=c.wf s;rw [hv] at k;simp only [AY] at j;obtain ⟨vs,q,l⟩:=j;rw [CP] at l;have n:i<f.length:=by
    rcases Nat.lt_or_ge i f.length with h | h
    ·exact h
    ·rw [List.getElem?_eq_none h] at b; cases b
   have p:vs.toList[i]?=some (vs.toList[i]'(by omega)):=List.getElem?_eq_getElem (by omega);have g:vs[i]?=some (vs.toList[i]'(by omega)):=by simp
   refine DV c m (v:=vs.toList[i]'(by omega)) ?_ (l.2 i t _ b p) ?_ h
   ·simp [execOp,e,show a.eval (.tmp s)=slot a s from rfl,q,Instr.extract,g]
   ·exact CU.1 k t (List.mem_of_getElem? b)
 ·exact h.elim
theorem df (f:AZ F0 w0 O a w G) (g:d<a.tmps.size) {x:Operand} {y:AL} {t e:TypeId} (b:o.op=.call { callee:=.builtin .len,args:=#[x],argTypes:=#[t] }) (c:AP x y=true)
  (i:P.underlying t=some (.slice e)) (h:(AJ.len y).wp S O (some d) K):B2 P F0 w0 a w o d K:=by
 simp only [AJ.wp] at h;split at h
 ·rename_i n es hv;have:=BR f c hv;simp only [A7,TV.WF,I3] at this;obtain ⟨⟨k,cap,j,_⟩,l⟩:=this;refine DV f g (v:=.int .i64 es.length) (t:=.int .i64 es.length) ?_ rfl ⟨by simp only [IntKind.min,IntKind.signed,IntKind.bits,if_true]; omega,by simp only [IntKind.max_i64]; omega⟩ h;simp [execOp,b,resolve,invoke,builtin,Builtin.len_,run_underlying i,j,goInt]
 ·exact h.elim
theorem be (e:AZ F0 w0 O a w G) (f:d<a.tmps.size) {x:Operand} {y:AL} {t:TypeId} (b:o.op=.call { callee:=.builtin .len,args:=#[x],argTypes:=#[t] }) (c:AP x y=true)
  (g:P.underlying t=some .string) (h:(AJ.slen y).wp S O (some d) K):B2 P F0 w0 a w o d K:=by
 simp only [AJ.wp] at h;split at h
 ·rename_i s hv;have:=BR e c hv;simp only [A7,TV.WF,I3] at this;refine DV e f (v:=.int .i64 s.size) (t:=.int .i64 s.size) ?_ rfl ⟨by simp only [IntKind.min,IntKind.signed,IntKind.bits,if_true]; omega,by simp only [IntKind.max_i64]; omega⟩ h;simp [execOp,b,resolve,invoke,builtin,Builtin.len_,run_underlying g,this.1,goInt]
 ·exact h.elim
end
end Go.Sf
namespace Go.Sf
open Go.RowKit (Below)
section
variable {P:Program} {S:FuncId->QQ->CS->Prop} {F0:Nat->Nat->Prop} {w0:W0} {O:AD} {a:Act} {w:World} {G:DP} {d:Nat} {o:Oper} {K:EV->AD->Prop}
theorem Se (e:AZ F0 w0 O a w G) {s:Nat} {i:Option Nat} {c:A1} {x:Value} (h:C3 w (A3 w0.heap.size F0 G) (G s i) c x):A7 w (A3 w0.heap.size F0 G) c.t x:=by
 obtain ⟨_ | _,t⟩:=c
 ·exact h.1
 ·exact JI.rep h (fun b lo o f ho=>O5 e b lo o f ho)
theorem R8 {F:Nat->Nat->Prop} {z:Option (Nat × Nat)} {t:TV} {x:Value} (h:C1 w F z t x):x.oneCell'=true:=by
 cases t <;> simp only [C1] at h;obtain ⟨xs,b,_⟩:=h;rcases b.2 with ⟨rfl,_⟩ | ⟨g,cap,c,e,rfl,_⟩ <;> rfl
theorem TH {F:Nat->Nat->Prop} {z:Option (Nat × Nat)} {t:TV} {x:Value} (h:JI w F z t x):x.oneCell'=true:=by
 by_cases b:∃ n es,t=.xl n es
 ·obtain ⟨n,es,rfl⟩:=b;simp only [JI,K5] at h;obtain ⟨xs,⟨i,c,_⟩,_⟩:=h;rcases c.2 with ⟨rfl,_⟩ | ⟨g,cap,f,e,rfl,_⟩ <;> rfl
 ·refine R8 (w:=w) (F:=F) (z:=z) (t:=t) ?_;cases t <;> first | exact h | exact absurd ⟨_,_,rfl⟩ b
theorem MN {F:Nat->Nat->Prop} {z:Option (Nat × Nat)} {c:A1} {x:Value} (h:C3 w F z c x):x.oneCell'=true:=by
 obtain ⟨_ | _,t⟩:=c
 ·exact h.2
 ·exact TH h
theorem PI (z:AZ F0 w0 O a w G) {x:Operand} {y:AL} (A:AP x y=true) {cs:QQ} (f:BY O (y.ev O)=some cs) :
  ∃ b o vs,a.eval x=.pointer (some ⟨b,o,none⟩)∧AS w (A3 w0.heap.size F0 G) cs vs∧TV.WFs cs∧(∀ x∈vs,x.oneCell'=true)∧∀ (j:Nat) (v:Value),vs[j]?=some v->w.cell? ((⟨b,o,none⟩:Addr).add j)=some v:=by
 have box:∀ (s e:Nat) (l:List A1),O.get s=.bx l->∃ b vs,slot a s=.pointer (some ⟨b,0,none⟩)∧AS w (A3 w0.heap.size F0 G) ((l.drop e).map (·.t)) vs∧TV.WFs ((l.drop e).map (·.t))∧(∀ x∈vs,x.oneCell'=true)∧∀ (j:Nat) (v:Value),vs[j]?=some v->w.cell? ((⟨b,e,none⟩:Addr).add j)=some v:=by
  intro s e l M;have k:=A9 z M (by simp);have E:=z.wf s;rw [M] at E;simp only [AY] at k;obtain ⟨b,c,T,p,r,B,u,m⟩:=k;refine ⟨b,c.toList.drop e,p,?_,?_,?_,?_⟩
  ·rw [CP];refine ⟨by simp [B],fun i t v D hv=>?_⟩;simp only [List.getElem?_map,List.getElem?_drop,Option.map_eq_some_iff] at D hv;obtain ⟨cell,h,rfl⟩:=D;obtain ⟨x,C,k⟩:=m (e+i) cell h;have:x=v:=by
    have:c.toList[e+i]?=some x:=by simpa using C
    rw [this] at hv; simpa using hv
   subst this;exact Se z k
  ·rw [CU];intro t D;simp only [List.mem_map] at D;obtain ⟨cell,h,rfl⟩:=D;exact E cell (List.mem_of_mem_drop h)
  ·intro x C;obtain ⟨i,hi,rfl⟩:=List.getElem_of_mem C;rw [List.getElem_drop];have H:e+i<c.size:=by simp at hi; omega
   have J:l[e+i]?=some (l[e+i]'(by omega)):=List.getElem?_eq_getElem (by omega);obtain ⟨x,C,k⟩:=m (e+i) _ J;have:c.toList[e+i]'(by simpa using H)=x:=by
    have:c[e+i]?=some c[e+i]:=Array.getElem?_eq_getElem H;rw [this] at C;simpa using C
   rw [this];exact MN k
  ·intro j v hv;rw [List.getElem?_drop] at hv;rw [Addr.add_lit,cell_of_row w b (e+j) c T (0,0) r];simpa using hv
 cases y with
 | c t=>
  simp only [AL.ev] at f;cases t <;> simp [BY] at f;subst f;have:=BR z A (t:=.pt _) rfl;simp only [A7,TV.WF] at this;obtain ⟨⟨b,o,p,r⟩,B⟩:=this;obtain ⟨vs,u,I,m⟩:=Qw r;exact ⟨b,o,vs,p,u,B,I,m⟩
 | s n=>
  cases x <;> simp [AP] at A;subst A;rename_i n;simp only [AL.ev] at f;cases g:O.get n with
  | tv t=>
   rw [g] at f;cases t <;> simp [BY] at f;subst f;have k:=A9 z g (by simp);have E:=z.wf n;rw [g] at E;simp only [AY,A7] at k;obtain ⟨b,o,p,r⟩:=k;obtain ⟨vs,u,I,m⟩:=Qw r;exact ⟨b,o,vs,p,u,by simpa [EV.WF,TV.WF] using E,I,m⟩
  | bx l=>
   rw [g] at f;simp only [BY,zzY] at f;subst f;obtain ⟨b,vs,p,r,B,L,u⟩:=box n 0 l g;exact ⟨b,0,vs,p,by simpa using r,by simpa using B,L,u⟩
  | bp q e=>
   rw [g] at f;simp only [BY] at f;split at f
   ·rename_i l N;simp only [zzY] at f;subst f;obtain ⟨b,vs,p,r,B,L,u⟩:=box q e l N;have k:=A9 z g (by simp);simp only [AY] at k;obtain ⟨Q,m,I⟩:=k ⟨l,N⟩;rw [p] at m;simp only [Value.pointer.injEq,zzY,Addr.mk.injEq,and_true,and_self] at m;subst m;exact ⟨b,e,vs,I,r,B,L,u⟩
   ·cases f
  | undef=>rw [g] at f; simp [BY] at f
  | sk=>rw [g] at f; simp [BY] at f
  | xo n es=>rw [g] at f; simp [BY] at f
  | la q i=>rw [g] at f; simp [BY] at f
  | oag cs=>rw [g] at f; simp [BY] at f
  | lp q i c=>rw [g] at f; simp [BY] at f
  | ow t=>rw [g] at f; simp [BY] at f
  | tp R=>rw [g] at f; simp [BY] at f
theorem gw (g:AZ F0 w0 O a w G) (k:d<a.tmps.size) {x:Operand} {y:AL} {t:TypeId} (c:o.op=.load t x) (e:AP x y=true) (l:DR P t=some false) (h:(AJ.ld y).wp S O (some d) K):B2 P F0 w0 a w o d K:=by
 simp only [AJ.wp] at h;cases f:BY O (y.ev O) with
 | none=>rw [f] at h; exact h.elim
 | some cs=>
  rw [f] at h;simp only [BA] at h;obtain ⟨b,m,vs,n,j,p,_,q⟩:=PI g e f;cases cs with
  | nil=>simp [IE] at h
  | cons u r=>
   simp only [IE] at h;replace h:=h.2;simp only [AS] at j;obtain ⟨v,z,rfl,s,A⟩:=j;have i:=q 0 v rfl;rw [Addr.add_zero'] at i;refine DV g k (v:=v) ?_ s p.1 h;simp [execOp,c,n,Instr.loadAt,Instr.sureAddr,loadVar,FQ l,i]
theorem XO (r:AZ F0 w0 O a w G) (u:d<a.tmps.size) {x:Operand} {y:AL} {t:TypeId} {n:Nat} (e:o.op=.load t x) (f:AP x y=true) (g:DR P t=some true) (z:FH P t=some n) (h:(AJ.lda y n).wp S O (some d) K):B2 P F0 w0 a w o d K:=by
 simp only [AJ.wp] at h;cases l:BY O (y.ev O) with
 | none=>rw [l] at h; exact h.elim
 | some cs=>
  rw [l] at h;simp only [BA] at h;obtain ⟨b,m,vs,C,p,s,q,D⟩:=PI r f l;have B:=CN p;have c:=run_loadCells_list (P:=P) w ⟨b,m,none⟩ (vs.take n) (fun j v hv=>D j v (by rw [List.getElem?_take] at hv; split at hv <;> simp_all));rw [d5,Nat.min_eq_left (by omega)] at c;refine DV r u (v:=.agg (vs.take n).toArray) (t:=.agg (cs.take n)) ?_ ?_ ?_ h.2
  ·simp [execOp,e,C,Instr.loadAt,Instr.sureAddr,loadVar,FQ g,D7 z,c]
  ·simp only [A7];refine ⟨_,rfl,?_,by rw [List.all_eq_true]; exact fun x A=>q x (List.mem_of_mem_take A)⟩;rw [CP] at p ⊢;refine ⟨by simp [B],fun i t v hi hv=>?_⟩;simp only [List.getElem?_take] at hi hv;split at hi
   ·rename_i k;rw [d1 k] at hv;exact p.2 i t v hi hv
   ·cases hi
  ·simp only [TV.WF];rw [CU] at s ⊢;exact fun t g=>s t (List.mem_of_mem_take g)
theorem da (c:AZ F0 w0 O a w G) (s:d<a.tmps.size) {x i:Operand} {y j:AL} {t:TypeId} {n:Nat} (f:o.op=.indexAddr t x i) (g:AP x y=true) (b:AP i j=true) (u:LT P t=some n) (h:(AJ.iad y j n).wp S O (some d) K):B2 P F0 w0 a w o d K:=by
 simp only [AJ.wp] at h;split at h
 ·rename_i m es k H z A;obtain ⟨rfl,B,e,r,C⟩:=h;have l:=BR c g z;have q:=BR c b A;simp only [A7] at q;obtain ⟨p,D,E⟩:=Zf (P:=P) (k:=k) u l.1 B r;refine DV c s (v:=p) (by simp [execOp,f,q.1,D]) E ?_ C;simp only [TV.WF] at l ⊢;have:=CU.1 l.2.2 e (List.mem_of_getElem? r);exact Ka this
 ·exact h.elim
theorem bd (e:AZ F0 w0 O a w G) (n:d<a.tmps.size) {x i:Operand} {y j:AL} {t:TypeId} (f:o.op=.index t x i) (g:AP x y=true) (c:AP i j=true) (p:P.underlying t=some .string) (h:(AJ.sidx y j).wp S O (some d) K):B2 P F0 w0 a w o d K:=by
 simp only [AJ.wp] at h;split at h
 ·rename_i s k B q r;obtain ⟨u,b,z,A⟩:=h;have l:=BR e g q;have m:=BR e c r;simp only [A7] at l m;refine DV e n (v:=.int .u8 b.toNat) (t:=.int .u8 b.toNat) ?_ rfl ⟨by simp [IntKind.min,IntKind.signed],?_⟩ A
  ·simp [execOp,f,l.1,m.1,Instr.index,asIntOf,run_underlying p,u,z]
  ·have:=b.toNat_lt;simp [IntKind.max,IntKind.signed,IntKind.bits]; omega
 ·exact h.elim
theorem YF {x:Operand} {t:TypeId} {f k:Nat} (e:o.op=.fieldAddr t x f) (g:O1 P t f=some k):∀ b c,a.eval x=.pointer (some ⟨b,c,none⟩)->(execOp a.eval o).run P w=.ok (.value (.pointer (some ⟨b,c+k,none⟩))) w:=by
 intro b c h;simp [execOp,e,h,Rv g]
theorem Oj {x:Operand} (c:o.op=.move x∨o.op=.assign x∨o.op=.nilCheck x):∀ b e,a.eval x=.pointer (some ⟨b,e,none⟩)->(execOp a.eval o).run P w=.ok (.value (.pointer (some ⟨b,e+0,none⟩))) w:=by
 intro b e h;rcases c with c | c | c <;> simp [execOp,c,h]
theorem Qz (m:AZ F0 w0 O a w G) (r:d<a.tmps.size) {x:Operand} {y:AL} {k:Nat} (f:∀ b e,a.eval x=.pointer (some ⟨b,e,none⟩)->(execOp a.eval o).run P w=.ok (.value (.pointer (some ⟨b,e+k,none⟩))) w) (g:AP x y=true) (h:(AJ.fad y k).wp S O (some d) K):B2 P F0 w0 a w o d K:=by
 simp only [AJ.wp] at h;split at h
 ·rename_i row j;have u:=UD m g j;simp only [A7,TV.WF] at u;obtain ⟨⟨b,e,D,E⟩,A⟩:=u;refine DV m r (v:=.pointer (some ⟨b,e+k,none⟩)) (t:=.pt (row.drop k)) (f _ _ D) ?_ ?_ h
  ·simp only [A7];exact ⟨b,_,rfl,Nz E k⟩
  ·simp only [TV.WF];rw [CU] at A ⊢;exact fun t B=>A t (List.mem_of_mem_drop B)
 ·rename_i q e j;cases y with
  | c t=>simp [AL.ev] at j
  | s n=>
   cases x <;> simp [AP] at g;subst g;rename_i n;simp only [AL.ev] at j;have z:=A9 m j (by simp);simp only [AY] at z;split at h
   ·rename_i p C;obtain ⟨b,H,I⟩:=z ⟨p,C⟩;refine ⟨.pointer (some ⟨b,e+k,none⟩),w,f _ _ I,_,_,h,_,m.quiet (Below.refl _ _) d r (.bp q (e+k)) _ (fun _=>none) (by simp) (by simp) (by simp) ?_ trivial⟩;simp only [AY];rintro ⟨cs,i⟩;rw [AD.get_cons] at i;by_cases l:d=q
    ·rw [d1 l] at i; cases i
    ·exact ⟨b,by rw [BJ _ _ _ _ l]; exact H,rfl⟩
   ·exact h.elim
 ·exact h.elim
theorem PA (l:AZ F0 w0 O a w G) (n:d<a.tmps.size) {s:Nat} {k:Nat} (f:∀ b e,a.eval (.tmp s)=.pointer (some ⟨b,e,none⟩)->(execOp a.eval o).run P w=.ok (.value (.pointer (some ⟨b,e+k,none⟩))) w) (h:(AJ.bad s k).wp S O (some d) K):B2 P F0 w0 a w o d K:=by
 simp only [AJ.wp] at h;split at h
 ·rename_i cs m;have p:=A9 l m (by simp);simp only [AY] at p;obtain ⟨b,c,T,j,_⟩:=p;refine ⟨.pointer (some ⟨b,0+k,none⟩),w,f _ _ j,_,_,h,_,l.quiet (Below.refl _ _) d n (.bp s k) _ (fun _=>none) (by simp) (by simp) (by simp) ?_ trivial⟩;simp only [AY];rintro ⟨cs',g⟩;rw [AD.get_cons] at g;by_cases i:d=s
  ·rw [d1 i] at g; cases g
  ·exact ⟨b,by rw [BJ _ _ _ _ i]; exact j,by simp⟩
 ·rename_i row m;have j:=UD l (x:=.tmp s) (y:=.s s) (by simp [AP]) m;simp only [A7,TV.WF] at j;obtain ⟨⟨b,e,u,z⟩,q⟩:=j;refine DV l n (v:=.pointer (some ⟨b,e+k,none⟩)) (t:=.pt (row.drop k)) (f _ _ u) ?_ ?_ h
  ·simp only [A7];exact ⟨b,_,rfl,Nz z k⟩
  ·simp only [TV.WF];rw [CU] at q ⊢;exact fun t r=>q t (List.mem_of_mem_drop r)
 ·exact h.elim
theorem dP (m:AZ F0 w0 O a w G) (B:d<a.tmps.size) {x i:Operand} {y j:AL} {t e:TypeId} {n k:Nat} (p:o.op=.indexAddr t x i) (q:AP x y=true) (f:AP i j=true) (r:P.underlying t=some (.array k e)) (C:FH P e=some n)
  (h:(AJ.aad y j n k).wp S O (some d) K):B2 P F0 w0 a w o d K:=by
 simp only [AJ.wp] at h;split at h
 ·rename_i row M g D s;obtain ⟨H,u,z,I⟩:=h;have l:=(BR m f s).1;simp only [A7] at l;have E:∃ b c,a.eval x=.pointer (some ⟨b,c,none⟩)∧EN w (A3 w0.heap.size F0 G) row b c∧TV.WFs row:=by
   have:=UD m q D;simp only [A7,TV.WF] at this;obtain ⟨⟨b,o,u,z⟩,l⟩:=this;exact ⟨b,o,u,z,l⟩
  obtain ⟨b,c,J,L,A⟩:=E;have s:0<=g∧g<(k:Int):=⟨H,u⟩;refine DV m B (v:=.pointer (some ⟨b,c+g.toNat*n,none⟩)) (t:=.pt (row.drop (g.toNat*n))) ?_ ?_ ?_ I
  ·simp [execOp,p,l,J,Instr.indexAt,asIntOf,run_underlying r,s,Instr.sureAddr,D7 C,Addr.add_lit]
  ·simp only [A7];exact ⟨b,_,rfl,Nz L _⟩
  ·simp only [TV.WF];rw [CU] at A ⊢;exact fun t r=>A t (List.mem_of_mem_drop r)
 ·exact h.elim
def ZN (P:Program) (t:TypeId) (j:Operand) (k:Nat):Bool:=
 match j,P.underlying t with
 | .const (.int _ i),some (.array m e)=>decide (0<=i)&&decide (i<(m:Int))&&(match FH P e with
  | some n=>i.toNat*n==k
  | none=>false)
 | _,_=>false
theorem fH {P:Program} {o:Oper} {a:Act} {w:World} {t:TypeId} {s:Nat} {j:Operand} {k:Nat} (l:o.op=.indexAddr t (.tmp s) j) (c:ZN P t j k=true) (b f:Nat) (h:a.eval (.tmp s)=.pointer (some ⟨b,f,none⟩)):(execOp a.eval o).run P w=.ok (.value (.pointer (some ⟨b,f+k,none⟩))) w:=by
 unfold ZN at c;split at c
 ·rename_i p i m e q;simp only [zzZ,zzX] at c;obtain ⟨⟨x,y⟩,g⟩:=c;split at g
  ·rename_i n r;simp only [beq_iff_eq] at g;subst g;have u:0<=i∧i<(m:Int):=⟨x,y⟩;have v:a.eval (.const (.int p i))=.int p i:=rfl;simp [execOp,l,h,v,Instr.indexAt,asIntOf,run_underlying q,u,Instr.sureAddr,D7 r,Addr.add_lit]
  ·cases g
 ·cases c
def Ra (g:TypeId->Option ci) (P:Program):List Field->Nat->Option ci
 | [],_=>some []
 | f::fs,off=>match g f.type with
  | some ks => if (f.name ≠ "_" ∧ f.offset = off) ∧ FH P f.type = some ks.length then (match Ra g P fs (off + ks.length) with | some r => some (ks ++ r) | none => none) else none
  | none=>none
def OX (P:Program):Nat->TypeId->Option ci
 | 0,_=>none
 | k+1,t=>match P.underlying t with
  | some (.int _)=>some [0]
  | some .string=>some [1]
  | some .bool=>some [2]
  | some (.struct fs)=>if P.stoodInHeld t then none else Ra (OX P k) P fs.toList 0
  | _=>none
def Qh (P:Program):BK->TypeId->Bool
 | .i,_=>true
 | .s,_=>true
 | .w,_=>true
 | .b,t=>match P.underlying t with | some .bool=>true | _=>false
 | .a n,t=>DR P t==some true&&!P.eqGuardType P.depth t&&OX P 8 t==some n
def TV.leafV:TV->Value
 | .int k n=>.int k n
 | .str s=>.string s
 | .bool b=>.bool b
 | _=>Go.undef
def TV.leafB:TV->Bool
 | .int _ _=>true
 | .str _=>true
 | .bool _=>true
 | _=>false
theorem Pt:∀ {cs b:QQ} {r:Bool},CX cs b=some r->cs.length=b.length∧(∀ t∈cs,t.leafB=true)∧(∀ t∈b,t.leafB=true)
 | [],[],_,_=>by simp
 | [],_::_,_,h=>by simp [CX] at h
 | c::cs,[],_,h=>by cases c <;> simp [CX] at h
 | c::cs,d::b,r,h=>by
  have key:∀ g,CX cs b=some g->c.leafB=true->d.leafB=true->(c::cs).length=(d::b).length∧(∀ t∈c::cs,t.leafB=true)∧(∀ t∈d::b,t.leafB=true):=by
   intro g e i j;obtain ⟨k,l,m⟩:=Pt e;refine ⟨by simp [k],?_,?_⟩
   ·intro t f;rcases List.mem_cons.1 f with rfl | f
    ·exact i
    ·exact l t f
   ·intro t f;rcases List.mem_cons.1 f with rfl | f
    ·exact j
    ·exact m t f
  cases c <;> cases d <;> simp only [CX,reduceCtorEq] at h
  ·split at h
   ·split at h
    ·rename_i q e; exact key q e rfl rfl
    ·cases h
   ·cases h
  ·split at h
   ·rename_i q e; exact key q e rfl rfl
   ·cases h
  ·split at h
   ·rename_i q e; exact key q e rfl rfl
   ·cases h
theorem dA {F:Nat->Nat->Prop} {t:TV} {v:Value} (b:t.leafB=true) (h:A7 w F t v):v=t.leafV:=by
 cases t <;> simp only [TV.leafB,reduceCtorEq] at b <;> exact h
theorem Py {F:Nat->Nat->Prop}:∀ {cs:QQ} {xs:List Value},(∀ t∈cs,t.leafB=true)->AS w F cs xs->xs=cs.map TV.leafV
 | [],_,_,h=>h
 | c::cs,xs,b,h=>by
  simp only [AS] at h;obtain ⟨v,r,rfl,f,g⟩:=h;rw [dA (b c (by simp)) f,Py (fun t e=>b t (by simp [e])) g];rfl
theorem My:∀ (m:Nat) {cs e:QQ} {r:Bool},CX cs e=some r->∃ f b,CX (cs.take m) (e.take m)=some f∧CX (cs.drop m) (e.drop m)=some b∧r=(f&&b)
 | 0,cs,e,r,h=>⟨true,r,by simp [CX],by simpa using h,by simp⟩
 | m+1,[],[],r,h=>by
  simp only [CX,zzY] at h;subst h;exact ⟨true,true,by simp [CX],by simp [CX],rfl⟩
 | m+1,[],_::_,_,h=>by simp [CX] at h
 | m+1,c::cs,[],_,h=>by cases c <;> simp [CX] at h
 | m+1,c::cs,d::e,r,h=>by
  cases c <;> cases d <;> simp only [CX,reduceCtorEq] at h
  ·split at h
   ·rename_i l;split at h
    ·rename_i q g;obtain ⟨f,b,i,j,k⟩:=My m g;simp only [zzY] at h;refine ⟨_,b,by simp only [List.take_succ_cons,CX,d1 l,i]; rfl,by simpa using j,by rw [←h,k,Bool.and_assoc]⟩
    ·cases h
   ·cases h
  ·split at h
   ·rename_i q g;obtain ⟨f,b,i,j,k⟩:=My m g;simp only [zzY] at h;refine ⟨_,b,by simp only [List.take_succ_cons,CX,i]; rfl,by simpa using j,by rw [←h,k,Bool.and_assoc]⟩
   ·cases h
  ·split at h
   ·rename_i q g;obtain ⟨f,b,i,j,k⟩:=My m g;simp only [zzY] at h;refine ⟨_,b,by simp only [List.take_succ_cons,CX,i]; rfl,by simpa using j,by rw [←h,k,Bool.and_assoc]⟩
   ·cases h
def Lg (P:Program) (t:TypeId) (vs:List Value):Value:=if DR P t=some true then .agg vs.toArray else vs.headD Go.undef
theorem PP:∀ {cs e:QQ} {r:Bool},CX cs e=some r->e.map TV.kd=cs.map TV.kd
 | [],[],_,_=>rfl
 | [],_::_,_,h=>by simp [CX] at h
 | c::cs,[],_,h=>by cases c <;> simp [CX] at h
 | c::cs,d::e,r,h=>by
  cases c <;> cases d <;> simp only [CX,reduceCtorEq] at h
  ·split at h
   ·split at h
    ·rename_i q b; simp only [List.map_cons,PP b,TV.kd]
    ·cases h
   ·cases h
  ·split at h
   ·rename_i q b; simp only [List.map_cons,PP b,TV.kd]
   ·cases h
  ·split at h
   ·rename_i q b; simp only [List.map_cons,PP b,TV.kd]
   ·cases h
theorem U5 (k:Nat) (L:∀ (t:TypeId) (n:ci),OX P k t=some n->∀ d,k<=d->∀ (cs l:QQ) (r:Bool),cs.map TV.kd=n->CX cs l=some r->(Op.equalIn d t (Lg P t (cs.map TV.leafV)) (Lg P t (l.map TV.leafV))).run P w=.ok r w) :
  ∀ (z:List Field) (j:Nat) (n:ci),Ra (OX P k) P z j=some n->∀ d,k<=d->∀ (e i:List Value) (cs l:QQ) (r:Bool),e.length=j->i.length=j->cs.map TV.kd=n->CX cs l=some r ->
   (Op.eqFields d (e++cs.map TV.leafV).toArray (i++l.map TV.leafV).toArray z).run P w=.ok r w
 | [],j,n,p,d,J,e,i,cs,l,r,T,U,y,h=>by
  simp only [Ra,zzY] at p;subst p;have:cs=[]:=List.map_eq_nil_iff.1 y;subst this;cases l <;> simp [CX] at h;subst h;simp [Op.eqFields]
 | f::z,j,n,p,d,J,e,i,cs,l,r,T,U,y,h=>by
  simp only [Ra] at p;split at p
  ·rename_i g q;split at p
   ·rename_i V;split at p
    ·rename_i rest x;simp only [zzY] at p;subst p;obtain ⟨⟨hn,ho⟩,H⟩:=V;have W:cs.length=g.length+rest.length:=by
      have:=congrArg List.length y;simpa using this
     obtain ⟨R,r2,e1,e2,rfl⟩:=My g.length h;have Q:=(Pt h).1;have X:l.length=g.length+rest.length:=by omega
     have D:(cs.take g.length).map TV.kd=g:=by rw [List.map_take,y,List.take_left']; rfl
     have E:(cs.drop g.length).map TV.kd=rest:=by rw [List.map_drop,y,List.drop_left']; rfl
     have hi:=L f.type g q d J (cs.take g.length) (l.take g.length) R D e1;have v:=U5 k L z (j+g.length) rest x d J (e++(cs.take g.length).map TV.leafV) (i++(l.take g.length).map TV.leafV) (cs.drop g.length) (l.drop g.length) r2 (by simp; omega) (by simp; omega) E e2;have s:∀ (e:List Value) (cs:QQ),e++(cs.take g.length).map TV.leafV++(cs.drop g.length).map TV.leafV=e++cs.map TV.leafV:=by
      intro e cs;rw [ea,←List.map_append,List.take_append_drop]
     rw [s,s] at v;have u:∀ (e:List Value) (cs:QQ),e.length=j->g.length<=cs.length->(0<g.length∨DR P f.type=some true)->(∃ b,DR P f.type=some b)->(part f.type (e++cs.map TV.leafV).toArray f.offset).run P w=.ok (Lg P f.type ((cs.take g.length).map TV.leafV)) w:=by
      intro e cs N B C m;obtain ⟨b,m⟩:=m;cases b with
      | true=>
       simp only [part,Sem.run_bind,FQ m,Result.andThen_ok,if_true,D7 H,Sem.run_pure,Lg,m];congr 2;rw [List.extract_toArray,List.extract_eq_take_drop,ho,←N,List.drop_left,Nat.add_sub_cancel_left,←List.map_take]
      | false=>
       have Y:0<g.length:=by
        rcases C with h | h
        ·exact h
        ·rw [m] at h; cases h
       cases cs with
       | nil=>exact absurd (Nat.lt_of_lt_of_le Y B) (by simp)
       | cons c cs=>
        obtain ⟨M,I⟩:∃ M,g.length=M+1:=⟨g.length - 1,by omega⟩;have:((e++(c::cs).map TV.leafV).toArray)[f.offset]?=some c.leafV:=by
         rw [List.getElem?_toArray,ho,←N,List.getElem?_append_right (d3 _),Nat.sub_self]; rfl
        simp only [part,Sem.run_bind,FQ m,Result.andThen_ok,Bool.false_eq_true,if_false,this,Sem.run_pure,Lg,m,I];simp
     have m:(∃ b,DR P f.type=some b)∧(0<g.length∨DR P f.type=some true):=by
      cases k with
      | zero=>simp [OX] at q
      | succ k=>
       simp only [OX] at q;unfold DR;split at q <;> rename_i A
       ·simp only [zzY] at q; subst q; rw [A]; exact ⟨⟨_,rfl⟩,.inl (by simp)⟩
       ·simp only [zzY] at q; subst q; rw [A]; exact ⟨⟨_,rfl⟩,.inl (by simp)⟩
       ·simp only [zzY] at q; subst q; rw [A]; exact ⟨⟨_,rfl⟩,.inl (by simp)⟩
       ·rw [A]; exact ⟨⟨_,rfl⟩,.inr rfl⟩
       ·cases q
     have Z:=u e cs T (by omega) m.2 m.1;have p2:=u i l U (by omega) m.2 m.1;simp only [Op.eqFields,Sem.run_bind,Sem.run_ite,d1 hn,Z,p2,hi,Result.andThen_ok];cases R with
     | true=>simpa using v
     | false=>simp
    ·cases p
   ·cases p
  ·cases p
theorem aD (a b:ByteArray):(a.toList==b.toList)=decide (a=b):=by
 rw [Bool.eq_iff_iff,beq_iff_eq,zzX];refine ⟨fun h=>?_,fun h=>by rw [h]⟩;rw [ByteArray.toList_eq,ByteArray.toList_eq] at h;cases a; cases b;simpa using h
theorem YE:∀ (k:Nat) (t:TypeId) (n:ci),OX P k t=some n->∀ d,k<=d->∀ (cs g:QQ) (r:Bool),cs.map TV.kd=n->CX cs g=some r->(Op.equalIn d t (Lg P t (cs.map TV.leafV)) (Lg P t (g.map TV.leafV))).run P w=.ok r w
 | 0,_,_,h,_,_,_,_,_,_,_=>by simp [OX] at h
 | k+1,t,n,b,d,H,cs,g,r,y,h=>by
  obtain ⟨d,rfl⟩:∃ B,d=B+1:=⟨d - 1,by omega⟩;have u:=PP h;simp only [OX] at b;have one:∀ x,n=[x]->DR P t=some false->∃ c e,cs=[c]∧g=[e]∧c.kd=x∧e.kd=x∧Lg P t (cs.map TV.leafV)=c.leafV∧Lg P t (g.map TV.leafV)=e.leafV:=by
   intro x C z;rw [C] at y
   match cs,g,y,u with
   | [c],[e],i,j=>
    simp only [List.map_cons,List.map_nil,List.cons.injEq,and_true] at i j;exact ⟨c,e,rfl,rfl,i,by rw [j,i],by simp [Lg,z],by simp [Lg,z]⟩
   | [],_,i,_=>simp at i
   | [c],[],_,j=>simp at j
   | [c],_::_::_,_,j=>simp at j
   | _::_::_,_,i,_=>simp at i
  split at b <;> rename_i f
  ·simp only [zzY] at b;obtain ⟨c,e,rfl,rfl,m,p,q,s⟩:=one 0 b.symm (by simp [DR,f]);rw [q,s];cases c <;> first | (simp [TV.kd] at m; done) | skip
   cases e <;> first | (simp [TV.kd] at p; done) | skip
   simp only [CX] at h;split at h
   ·rename_i D;subst D;simp only [zzY,Bool.and_true] at h;simp only [TV.leafV];rw [run_equalIn_int (P:=P) w d t _ _ _ _ f,←h];congr 1
   ·cases h
  ·simp only [zzY] at b;obtain ⟨c,e,rfl,rfl,m,p,q,s⟩:=one 1 b.symm (by simp [DR,f]);rw [q,s];cases c <;> first | (simp [TV.kd] at m; done) | skip
   cases e <;> first | (simp [TV.kd] at p; done) | skip
   simp only [CX,zzY,Bool.and_true] at h;simp only [TV.leafV];rw [run_equalIn_string (P:=P) w d t _ _ f,←h];congr 1;exact aD _ _
  ·simp only [zzY] at b;obtain ⟨c,e,rfl,rfl,m,p,q,s⟩:=one 2 b.symm (by simp [DR,f]);rw [q,s];cases c <;> first | (simp [TV.kd] at m; done) | skip
   cases e <;> first | (simp [TV.kd] at p; done) | skip
   simp only [CX,zzY,Bool.and_true] at h;simp only [TV.leafV];rw [run_equalIn_bool' (P:=P) w d t _ _ f,←h];congr 1
  ·split at b
   ·cases b
   ·rename_i A E;have v:DR P t=some true:=by simp [DR,f]
    have l:P.fieldsOf t=A:=by simp [Program.fieldsOf,f]
    simp only [Lg,v,if_true];rw [run_equalIn_struct w d t _ _ (by rw [l]; exact f) (by simpa using E),l];exact U5 k (YE k) A.toList 0 n b d (by omega) [] [] cs g r rfl rfl y h
  ·cases b
theorem XK {op:BinOp} {t:TypeId} {x y:Operand} {k l:Value} {cs f:QQ} {q:Bool} {n:ci} (u:cs.map TV.kd=n) {F:Nat->Nat->Prop} (m:Qh P (.a n) t=true) (c:A7 w F (.agg cs) k) (e:A7 w F (.agg f) l) (p:CX cs f=some q) :
  ∃ xs b,k=.agg xs∧l=.agg b∧(eqGuard op t x y (.agg xs) (.agg b)).run P w=.ok () w∧(Op.equalIn 10000 t (.agg xs) (.agg b)).run P w=.ok q w:=by
 simp only [A7] at c e;obtain ⟨xs,rfl,c,_⟩:=c;obtain ⟨b,rfl,e,_⟩:=e;simp only [Qh,zzZ,Bool.not_eq_true'] at m;obtain ⟨⟨r,v⟩,s⟩:=m;obtain ⟨z,i,j⟩:=Pt p;refine ⟨xs,b,rfl,rfl,run_eqGuard_agg w op t x y xs b v,?_⟩;simp only [beq_iff_eq] at r s;have g:=Py i c;have h:=Py j e;have:=YE (P:=P) (w:=w) 8 t n s 10000 (by omega) cs f q u p;simp only [Lg,r,if_true,←g,←h] at this;simpa using this
theorem gT {op:BinOp} {t:TypeId} {x y:Operand} {k g:IntKind} {a b r:Int} {F:Nat->Nat->Prop} (i:k=g∨op=.shl∨op=.shr) (f:Lt k op a b=some r) :
  ∃ v,(do eqGuard op t x y (.int k a) (.int g b); binOp op t (.int k a) (.int g b):Sem Value).run P w=.ok v w∧A7 w F (.int k r) v∧(TV.int k r).WF:=by
 have c:∀ (op:BinOp) (q:Value),k=g->(op=.and∨op=.or∨op=.xor∨op=.andNot)->(Op.intBits op k a b).run P w=.ok q w->(do eqGuard op t x y (.int k a) (.int g b); binOp op t (.int k a) (.int g b):Sem Value).run P w=.ok q w:=by
  intro op q e ho h;subst e;rcases ho with rfl | rfl | rfl | rfl <;> simpa [eqGuard,binOp] using h
 cases op <;> simp only [Lt] at f <;> try (cases f; done)
 case and=>cases f; exact ⟨_,c _ _ (by simpa using i) (by simp) rfl,rfl,Lh _ _⟩
 case or=>cases f; exact ⟨_,c _ _ (by simpa using i) (by simp) rfl,rfl,Lh _ _⟩
 case xor=>cases f; exact ⟨_,c _ _ (by simpa using i) (by simp) rfl,rfl,Lh _ _⟩
 case andNot=>cases f; exact ⟨_,c _ _ (by simpa using i) (by simp) rfl,rfl,Lh _ _⟩
 case shl=>
  split at f
  ·rename_i j;cases f;exact ⟨_,by simp [eqGuard,binOp,Op.shift,Int.not_lt.2 j],rfl,Lh _ _⟩
  ·cases f
 case shr=>
  split at f
  ·rename_i j;cases f;exact ⟨_,by simp [eqGuard,binOp,Op.shift,Int.not_lt.2 j.1],rfl,j.2⟩
  ·cases f
theorem gS {k:BK} {op:BinOp} {t:TypeId} {x y:Operand} {u z:Value} {A ty r:TV} {F:Nat->Nat->Prop} (g:Qh P k t=true) (c:F1 k op A ty=some r) (e:A7 w F A u) (f:A7 w F ty z) (B:A.WF) (I:ty.WF) :
  ∃ v,(do eqGuard op t x y u z; binOp op t u z:Sem Value).run P w=.ok v w∧A7 w F r v∧r.WF:=by
 unfold F1 at c;split at c
 ·rename_i k a J b;simp only [A7] at e f;subst e; subst f;split at c
  ·rename_i i;subst i;rw [Sem.run_bind,eqGuard_at_int,Sem.run_pure,Result.andThen_ok];have n:op=.quo∨op=.rem∨(op≠.quo∧op≠.rem):=by cases op <;> simp
   rcases n with rfl | rfl | ⟨j,T⟩
   ·by_cases l:b=0
    ·simp [intCmp,intArith,l] at c
    ·simp [intCmp,intArith,l] at c;subst c;exact ⟨_,by simp [binOp,Op.intDiv,l],rfl,Lh _ _⟩
   ·by_cases l:b=0
    ·simp [intCmp,intArith,l] at c
    ·simp [intCmp,intArith,l] at c;subst c;refine ⟨_,by simp [binOp,Op.intDiv,l],rfl,?_⟩;simp only [TV.WF] at B ⊢;have p:a.tmod b<=max a 0∧min a 0<=a.tmod b:=by
      have s:=Int.natAbs_tmod a b;have V:=Nat.mod_le a.natAbs b.natAbs;rcases Int.le_total 0 a with h | h
      ·have H:=Int.tmod_nonneg (a:=a) b h; omega
      ·have H:=Int.tmod_nonneg (a:=-a) b (by omega);rw [Int.neg_tmod] at H; omega
     have W:k.min<=0:=by cases k <;> decide
     have X:0<=k.max:=by cases k <;> decide
     omega
   ·cases op <;> simp [intCmp,intArith] at c j T <;> subst c <;> (refine ⟨_,?_,rfl,?_⟩) <;> first | (simp [binOp,Op.intCmp,Op.intArith]; done) | exact trivial | exact Lh _ _ | skip
    all_goals (simp [binOp,Op.intCmp]; rw [Bool.eq_iff_iff]; simp)
  ·cases c
 ·rename_i op k a J b;simp only [A7] at e f;subst e; subst f;split at c
  ·rename_i i;split at c
   ·rename_i U j;simp only [zzY] at c;subst c;exact gT i j
   ·cases c
  ·cases c
 ·simp only [A7] at e f;subst e; subst f;simp only [zzY] at c;subst c;exact ⟨_,by simp [eqGuard,binOp,Op.stringOp,beq_toListBytes],rfl,trivial⟩
 ·simp only [A7] at e f;subst e; subst f;simp only [zzY] at c;subst c;exact ⟨_,by simp [eqGuard,binOp,Op.stringOp,beq_toListBytes],rfl,trivial⟩
 ·simp only [A7] at e f;subst e; subst f;rename_i L M;split at c
  ·rename_i m;simp only [zzY] at c;subst c;have D:¬ (((L.size+M.size:Nat):Int) > IntKind.i64.max):=by
    have Q:IntKind.i64.max=9223372036854775807:=by decide
    rw [Q];have:=m;unfold BN at this;omega
   refine ⟨_,by simp only [eqGuard,binOp,Op.stringOp]; rw [d2 D]; simp,rfl,by simp only [TV.WF,ByteArray.size_append]; exact T7 m⟩
  ·cases c
 ·simp only [A7] at e f;subst e; subst f;simp only [zzY] at c;subst c;have E:P.underlying t=some .bool:=by
   simp only [Qh] at g;split at g
   ·assumption
   ·cases g
  exact ⟨_,by simp [eqGuard_at_bool,binOp,Op.equal,Op.maxDepth,run_equalIn_bool' (P:=P) w _ t _ _ E],rfl,trivial⟩
 ·simp only [A7] at e f;subst e; subst f;simp only [zzY] at c;subst c;have E:P.underlying t=some .bool:=by
   simp only [Qh] at g;split at g
   ·assumption
   ·cases g
  exact ⟨_,by simp [eqGuard_at_bool,binOp,Op.equal,Op.maxDepth,run_equalIn_bool' (P:=P) w _ t _ _ E],rfl,trivial⟩
 ·rename_i cs N;split at c
  ·rename_i C;split at c
   ·rename_i q j;simp only [zzY] at c;subst c;obtain ⟨xs,R,rfl,rfl,p,s⟩:=XK (op:=.eql) (x:=x) (y:=y) C g e f j;exact ⟨_,by simp only [Sem.run_bind,p,Result.andThen_ok,run_eql_struct,s],rfl,trivial⟩
   ·cases c
  ·cases c
 ·rename_i cs N;split at c
  ·rename_i C;split at c
   ·rename_i q j;simp only [zzY] at c;subst c;obtain ⟨xs,R,rfl,rfl,p,s⟩:=XK (op:=.neq) (x:=x) (y:=y) C g e f j;exact ⟨_,by simp only [Sem.run_bind,p,Result.andThen_ok,run_neq_struct,s],rfl,trivial⟩
   ·cases c
  ·cases c
 ·cases c
theorem dS {S:FuncId->QQ->CS->Prop} {F0:Nat->Nat->Prop} {w0:W0} {O:AD} {a:Act} {G:DP} {d:Nat} {o:Oper} {K:EV->AD->Prop} (b:AZ F0 w0 O a w G) (l:d<a.tmps.size) {x x':Operand} {y f:AL} {k:BK} {op:BinOp} {t m:TypeId}
  (c:o.op=.binOp op t x x' m) (n:Qh P k t=true) (p:AP x y=true) (q:AP x' f=true) (h:(AJ.bin k op y f).wp S O (some d) K):B2 P F0 w0 a w o d K:=by
 simp only [AJ.wp] at h;split at h
 ·rename_i s ty u z;cases e:F1 k op s ty with
  | none=>rw [e] at h; exact h.elim
  | some r=>
   rw [e] at h;have g:=BR b p u;have i:=BR b q z;obtain ⟨v,j,A,B⟩:=gS (x:=x) (y:=x') n e g.1 i.1 g.2 i.2;refine DV b l (v:=v) ?_ A B h;simp only [execOp,c,Sem.run_bind] at j ⊢;rw [j];rfl
 ·exact h.elim
end
end Go.Sf
namespace Go.Sf
open Go.RowKit (Below)
def M7:Option Operand->Option AL->Bool
 | none,none=>true
 | some x,some y=>AP x y
 | _,_=>false
section
variable {P:Program} {S:FuncId->QQ->CS->Prop} {F0:Nat->Nat->Prop} {w0:W0} {O:AD} {a:Act} {w:World} {G:DP} {d:Nat} {o:Oper} {K:EV->AD->Prop}
theorem R3 (c:AZ F0 w0 O a w G) {x:Option Operand} {y:Option AL} (b:M7 x y=true) {k:IntKind} {q l:Int} (hv:HM O q y=some (.int k l)) :
  (x=none∧l=q)∨∃ v e,x=some v∧a.eval v=.int e l:=by
 cases y with
 | none=>
  cases x <;> simp [M7] at b;simp [HM] at hv;exact .inl ⟨rfl,hv.2.symm⟩
 | some y=>
  cases x <;> simp [M7] at b;rename_i v;have:=(BR c b (t:=.int k l) hv).1;simp only [A7] at this;exact .inr ⟨v,k,rfl,this⟩
theorem Qx {isS:Bool} {len cap:Nat} {lo hi:Option Value} {l h:Int} (f:0<=l) (g:l<=h) (i:h<=len) (j:len<=cap)
  (b:(lo=none∧l=0)∨∃ k,lo=some (.int k l)) (c:(hi=none∧h=len)∨∃ k,hi=some (.int k h)) :
  (Instr.sliceBounds isS len cap lo hi none).run P w=.ok (l.toNat,h.toNat,cap) w:=by
 rcases b with ⟨rfl,rfl⟩ | ⟨k,rfl⟩ <;> rcases c with ⟨rfl,rfl⟩ | ⟨e,rfl⟩
 ·simp [Instr.sliceBounds]
 ·simp [Instr.sliceBounds,run_sliceBound (P:=P) w e h cap _ (by omega) (by omega)]
 ·simp [Instr.sliceBounds,run_sliceBound (P:=P) w k l len _ (by omega) (by omega)]
 ·simp [Instr.sliceBounds,run_sliceBound (P:=P) w e h cap _ (by omega) (by omega),run_sliceBound (P:=P) w k l h.toNat _ (by omega) (by omega)]
theorem dk (B:AZ F0 w0 O a w G) (N:d<a.tmps.size) {x:Operand} {y:AL} {lo hi:Option Operand} {r s:Option AL} {t:TypeId} {n:Nat} (D:o.op=.slice t x lo hi none) (E:AP x y=true) (Q:M7 lo r=true) (R:M7 hi s=true)
  (p:LT P t=some n) (h:(AJ.slc n y r s).wp S O (some d) K):B2 P F0 w0 a w o d K:=by
 simp only [AJ.wp] at h;split at h
 ·rename_i m es hv;split at h
  ·rename_i k1 l k2 u U V;obtain ⟨⟨hm,h0,h1⟩,h2,hK⟩:=h;subst hm;have I:=BR B E hv;simp only [A7] at I;obtain ⟨⟨j,cap,h4,h5,L,h7⟩,M⟩:=I;have Y:=R3 B Q U;have Z:=R3 B R V;unfold LT at p;split at p
   ·rename_i e W;have z:=Qx (P:=P) (w:=w) (isS:=true) (lo:=lo.map a.eval) (hi:=hi.map a.eval) h0 h1 h2 h5
     (by rcases Y with ⟨rfl,rfl⟩ | ⟨v,k',rfl,hv⟩ <;> simp [*]) (by rcases Z with ⟨rfl,rfl⟩ | ⟨v,k',rfl,hv⟩ <;> simp [*])
    refine DV B N (v:=.slice (if cap=l.toNat then j else j.map (·.add (l.toNat*m))) (u.toNat - l.toNat) (cap - l.toNat)) (t:=.list m ((es.take u.toNat).drop l.toNat)) ?_ ?_ ?_ hK
    ·simp [execOp,D,Instr.sliceAt,Instr.slice,run_underlying W,h4,z,D7 p]
    ·simp only [A7];refine ⟨if cap=l.toNat then j else j.map (·.add (l.toNat*m)),cap - l.toNat,by simp; omega,by simp; omega,fun H=>?_,fun T c=>?_⟩
     ·have f:es=[]∨l.toNat=u.toNat:=by
       split at H
       ·exact .inl (L H)
       ·cases j with
        | none=>exact .inl (L rfl)
        | some j=>simp at H
      rcases f with rfl | f
      ·simp
      ·apply List.eq_nil_of_length_eq_zero; simp; omega
     ·by_cases J:cap=l.toNat
      ·have g:(es.take u.toNat).drop l.toNat=[]:=by apply List.eq_nil_of_length_eq_zero; simp; omega
       rw [d1 J] at c;rw [g];exact ⟨.inl rfl,trivial⟩
      ·rw [d2 J] at c;cases j with
       | none=>simp at c
       | some j=>
        simp only [Option.map_some,zzY] at c;subst c;obtain ⟨q,k⟩:=h7 j rfl;obtain ⟨b,A,sp⟩:=j;simp only at q k;by_cases f:es=[]
        ·have g:(es.take u.toNat).drop l.toNat=[]:=by rw [f]; simp
         rw [g];exact ⟨.inl rfl,trivial⟩
        have q:sp=none:=q.resolve_left f;subst q;rw [Addr.add_lit];refine ⟨.inr rfl,?_⟩;rw [Pl] at k ⊢;intro i X C;rw [List.getElem?_drop,List.getElem?_take] at C;split at C
        ·have:=k (l.toNat+i) X C
         rwa [show A+l.toNat*m+i*m=A+(l.toNat+i)*m from by rw [Nat.add_mul]; omega]
        ·cases C
    ·simp only [TV.WF] at M ⊢;refine ⟨by simp; omega,?_⟩;have q:=CU.1 M.2;exact CU.2 fun t p=>q t (List.mem_of_mem_take (List.mem_of_mem_drop p))
   ·cases p
  ·exact h.elim
 ·exact h.elim
theorem bf (f:AZ F0 w0 O a w G) (m:d<a.tmps.size) {x:Operand} {y:AL} {lo hi:Option Operand} {b c:Option AL} {t:TypeId} (g:o.op=.slice t x lo hi none) (i:AP x y=true) (n:M7 lo b=true) (p:M7 hi c=true)
  (q:P.underlying t=some .string) (h:(AJ.sslc y b c).wp S O (some d) K):B2 P F0 w0 a w o d K:=by
 simp only [AJ.wp] at h;split at h
 ·rename_i s hv;split at h
  ·rename_i I l J k r u;obtain ⟨B,C,D,E⟩:=h;have j:=BR f i hv;simp only [A7] at j;have z:=R3 f n r;have A:=R3 f p u;have e:=Qx (P:=P) (w:=w) (isS:=false) (lo:=lo.map a.eval) (hi:=hi.map a.eval) B C D (d3 _)
     (by rcases z with ⟨rfl,rfl⟩ | ⟨v,H,rfl,hv⟩ <;> simp [*]) (by rcases A with ⟨rfl,rfl⟩ | ⟨v,H,rfl,hv⟩ <;> simp [*])
   refine DV f m (v:=.string (s.extract l.toNat k.toNat)) (t:=.str (s.extract l.toNat k.toNat)) ?_ rfl ?_ E
   ·simp [execOp,g,Instr.sliceAt,Instr.slice,run_underlying q,j.1,e]
   ·have:=j.2;simp only [TV.WF,ByteArray.size_extract] at this ⊢;omega
  ·exact h.elim
 ·exact h.elim
theorem Yh (c:AZ F0 w0 O a w G) (i:d<a.tmps.size) {x x':Operand} {y g:AL} {mx:Bool} {j:Array TypeId}
  (b:o.op=.call { callee:=.builtin (match mx with | true=>.max | false=>.min),args:=#[x,x'],argTypes:=j })
  (l:AP x y=true) (m:AP x' g=true) (h:(AJ.mm mx y g).wp S O (some d) K):B2 P F0 w0 a w o d K:=by
 simp only [AJ.wp] at h;split at h
 ·rename_i k p u q n r;obtain ⟨rfl,s⟩:=h;have e:=BR c l n;have f:=BR c m r;simp only [A7,TV.WF] at e f;refine DV c i (v:=.int k (if mx then max p q else min p q)) (t:=.int k (if mx then max p q else min p q)) ?_ rfl ?_ s
  ·cases mx
   ·simp [execOp,b,resolve,invoke,builtin,e.1,f.1,Builtin.min_,Builtin.min2];rw [Int.min_def]; split <;> split <;> omega
   ·simp [execOp,b,resolve,invoke,builtin,e.1,f.1,Builtin.max_,Builtin.max2];rw [Int.max_def]; split <;> split <;> omega
  ·simp only [TV.WF];split <;> omega
 ·exact h.elim
theorem bX (c:AZ F0 w0 O a w G) (p:d<a.tmps.size) {x:Operand} {y:AL} {t:TypeId} (e:o.op=.box t x) (f:AP x y=true) (h:(AJ.boxs y).wp S O (some d) K):B2 P F0 w0 a w o d K:=by
 simp only [AJ.wp] at h;split at h
 ·rename_i u hv;have k:=BR c f hv;have l:Below w.heap.size w (w.alloc (.cells (a.eval x).cells t)):=(Below.refl _ _).alloc (d3 _) _;refine ⟨.pointer (some ⟨w.heap.size,0,none⟩),w.alloc (.cells (a.eval x).cells t),by simp [execOp,e,Instr.box,newVar,newRow],_,_,h,c.tv l d p (.pt u.cells) _ ?_ ?_⟩
  ·simp only [A7];refine ⟨_,_,rfl,?_⟩;have g:=Lq (F0:=F0) (w0:=w0) (G:=G) l d (fun _=>none) (by simp)
   ·have m:=Ja k.1;refine Pm (BP g _ _ m.1) m.2 fun i v hi=>?_;have q:(w.alloc (.cells (a.eval x).cells t)).cell? ⟨w.heap.size,0+i,none⟩=some v:=by
     rw [World.cell?_alloc_new,Nat.zero_add];simpa using hi
    refine ⟨q,?_⟩;rintro (⟨b,_⟩ | ⟨s,j,lo,b,_⟩)
    ·have:=c.below.size; omega
    ·by_cases n:s=d
     ·subst n; rw [CB] at b; cases b
     ·rw [B1 _ _ _ _ n] at b;have:=(c.lt _ _ _ _ b).1; omega
  ·simp only [TV.WF]; exact Ka k.2
 ·exact h.elim
end
end Go.Sf
namespace Go.Sf
open Go.RowKit (Below)
def TK:List Value->Nat->List Value->List Value
 | cs,_,[]=>cs
 | cs,i,d::ds=>TK (cs.set i d) (i+1) ds
theorem PU (b:Nat):∀ (l:List Value) (k:Nat) (cells:Array Value),((l.zipIdx k).foldl (fun cs (x:Value × Nat)=>cs.setIfInBounds (b+x.2) x.1) cells).toList=TK cells.toList (b+k) l
 | [],_,_=>rfl
 | v::l,k,cells=>by
  simp only [List.zipIdx_cons,List.foldl_cons,TK];rw [PU b l (k+1)];simp [Array.toList_setIfInBounds,Nat.add_assoc]
section
variable {w:World} {F:Nat->Nat->Prop}
theorem Zb {cs:QQ} {xs:List Value} (h:AS w F cs xs) (i:Nat) {t:TV} {v:Value} (f:A7 w F t v):AS w F (cs.set i t) (xs.set i v):=by
 rw [CP] at h ⊢;refine ⟨by simp [h.1],fun j u x c b=>?_⟩;rw [List.getElem?_set] at c b;split at c
 ·rename_i e;subst e;simp only [if_true] at b;split at c
  ·split at b
   ·simp only [zzY] at c b; subst c; subst b; exact f
   ·cases b
  ·cases c
 ·rename_i e;rw [d2 e] at b;exact h.2 j u x c b
theorem UN:∀ {e:QQ} {c:List Value} {cs:QQ} {xs:List Value} (i:Nat),AS w F cs xs->AS w F e c->AS w F (Nt cs i e) (TK xs i c)
 | [],c,cs,xs,i,h,b=>by simp only [AS] at b; subst b; exact h
 | d::e,c,cs,xs,i,h,b=>by
  simp only [AS] at b;obtain ⟨v,r,rfl,f,g⟩:=b;exact UN (i+1) (Zb h i f) g
theorem YQ:∀ (b xs:List Value) (i:Nat),(∀ x∈xs,x.oneCell'=true)->(∀ y∈b,y.oneCell'=true)->∀ x∈TK xs i b,x.oneCell'=true
 | [],_,_,h,_=>h
 | y::b,xs,i,h,e=>by
  refine YQ b (xs.set i y) (i+1) (fun x c=>?_) (fun z f=>e z (by simp [f]));rcases List.mem_or_eq_of_mem_set c with c | rfl
  ·exact h x c
  ·exact e _ (by simp)
theorem TD {place:Nat->Option (Nat × Nat)}:∀ {f:List (Nat × Value)} {e:List (Nat × Nat × TV)} {cs cs':QQ} {xs:Array Value},AS w F cs xs.toList->f.length=e.length ->
  (∀ (j:Nat) (p:Nat × Value) (t:Nat × Nat × TV),f[j]?=some p->e[j]?=some t->place p.1=some (t.1,t.2.1)∧A7 w F t.2.2 p.2)->IC cs e=some cs'->(∀ x∈xs.toList,x.oneCell'=true) ->
  ∃ xs',Instr.fill place xs f=some xs'∧AS w F cs' xs'.toList∧∀ x∈xs'.toList,x.oneCell'=true
 | [],e,cs,cs',xs,h,g,r,b,ho=>by
  have:e=[]:=List.eq_nil_of_length_eq_zero g.symm;subst this;simp only [IC,zzY] at b;subst b;exact ⟨xs,rfl,h,ho⟩
 | (i,v)::f,[],_,_,_,_,g,_,_,_=>by simp at g
 | (i,v)::f,(c,n,t)::e,cs,cs',xs,h,g,r,b,ho=>by
  simp only [IC] at b;split at b
  ·rename_i D;obtain ⟨u,q⟩:=r 0 _ _ rfl rfl;simp only at u q;have s:=(Ja q).1;have m:=(Ja q).2;have E:v.cells.size=n:=by have:=CN s; rw [Array.length_toList] at this; omega
   have y:=CN h;rw [Array.length_toList] at y;have z:AS w F (Nt cs c t.cells) ((v.cells.zipIdx.foldl (fun cs (x:Value × Nat)=>cs.setIfInBounds (c+x.2) x.1) xs)).toList:=by
    have A:=UN c h s;rw [←Array.foldl_toList,Array.toList_zipIdx,PU,Nat.add_zero];exact A
   obtain ⟨xs',B,C⟩:=TD z (by simpa using g) (fun j p t k l=>r (j+1) p t (by simpa using k) (by simpa using l)) b (by
    rw [←Array.foldl_toList,Array.toList_zipIdx,PU,Nat.add_zero];exact YQ _ _ _ ho m)
   refine ⟨xs',?_,C⟩;simp only [Instr.fill,u];rw [d2 (by simp; omega)];exact B
  ·cases b
end
def Mc (place:Nat->Option (Nat × Nat)):List (Nat × Operand)->List (Nat × Nat × AL)->Bool
 | [],[]=>true
 | (i,x)::ps,(off,n,y)::qs=>place i==some (off,n)&&AP x y&&Mc place ps qs
 | _,_=>false
def ZO (P:Program) (t:TypeId) (zero:QQ) (ps:List (Nat × Operand)) (qs:List (Nat × Nat × AL)):Bool:=
 match P.info? t,P.underlying t with
 | some it,some (.array _ e)=>
  match it.zero,P.info? e with
  | some z,some ie=>KU zero z.cells.toList&&z.cells.toList.all Value.oneCell'&&Mc (fun i=>some (i*ie.size,ie.size)) ps qs
  | _,_=>false
 | some it,some (.struct fields)=>
  match it.zero,fields.toList.mapM (fun f=>(P.info? f.type).map fun i=>(f.offset,i.size)) with
  | some z,some places=>KU zero z.cells.toList&&z.cells.toList.all Value.oneCell'&&Mc (places.toArray[·]?) ps qs
  | _,_=>false
 | _,_=>false
section
variable {P:Program} {S:FuncId->QQ->CS->Prop} {F0:Nat->Nat->Prop} {w0:W0} {O:AD} {a:Act} {w:World} {G:DP} {d:Nat} {o:Oper} {K:EV->AD->Prop}
theorem VT (m:AZ F0 w0 O a w G) {place:Nat->Option (Nat × Nat)}:∀ {f:List (Nat × Operand)} {g:List (Nat × Nat × AL)} {e:List (Nat × Nat × TV)},Mc place f g=true->Iw O g=some e ->
  f.length=e.length∧(∀ (j:Nat) (p:Nat × Value) (t:Nat × Nat × TV),(f.map fun (i,x)=>(i,a.eval x))[j]?=some p->e[j]?=some t->place p.1=some (t.1,t.2.1)∧A7 w (A3 w0.heap.size F0 G) t.2.2 p.2)∧∀ t∈e,t.2.2.WF
 | [],[],e,_,h=>by simp [Iw] at h; subst h; simp
 | [],_::_,_,h,_=>by simp [Mc] at h
 | _::_,[],_,h,_=>by simp [Mc] at h
 | (i,x)::f,(B,n,y)::g,e,b,h=>by
  simp only [Mc,zzZ,beq_iff_eq] at b;simp only [Iw] at h;split at h
  ·rename_i t r s l;simp only [zzY] at h;subst h;obtain ⟨v,z,A⟩:=VT m b.2 l;have q:=BR m b.1.2 s;refine ⟨by simp [v],fun j p u k c=>?_,fun u c=>?_⟩
   ·cases j with
    | zero=>simp at k c; subst k; subst c; exact ⟨b.1.1,q.1⟩
    | succ j=>exact z j p u (by simpa using k) (by simpa using c)
   ·rcases List.mem_cons.1 c with rfl | c
    ·exact q.2
    ·exact A u c
  ·cases h
theorem Ys:∀ {b cs:QQ} (i:Nat),TV.WFs cs->TV.WFs b->TV.WFs (Nt cs i b)
 | [],_,_,h,_=>h
 | d::b,cs,i,h,e=>by
  refine Ys (i+1) ?_ e.2;rw [CU] at h ⊢;intro t c;rcases List.mem_or_eq_of_mem_set c with c | rfl
  ·exact h t c
  ·exact e.1
theorem XZ:∀ {c:List (Nat × Nat × TV)} {cs cs':QQ},TV.WFs cs->(∀ t∈c,t.2.2.WF)->IC cs c=some cs'->TV.WFs cs'
 | [],cs,cs',h,_,b=>by simp [IC] at b; subst b; exact h
 | (i,n,t)::c,cs,cs',h,e,b=>by
  simp only [IC] at b;split at b
  ·exact XZ (Ys i h (Ka (e (i,n,t) (by simp)))) (fun u f=>e u (by simp [f])) b
  ·cases b
theorem dT (y:AZ F0 w0 O a w G) (A:d<a.tmps.size) {t:TypeId} {zero:QQ} {g:Array (Nat × Operand)} {p:List (Nat × Nat × AL)} (s:o.op=.build t g) (b:ZO P t zero g.toList p=true) (h:(AJ.bld zero p).wp S O (some d) K):B2 P F0 w0 a w o d K:=by
 simp only [AJ.wp] at h;cases m:Iw O p with
 | none=>rw [m] at h; exact h.elim
 | some M=>
  rw [m] at h;simp only [BA] at h;cases c:IC zero M with
  | none=>rw [c] at h; exact h.elim
  | some cs=>
   rw [c] at h;simp only at h;have key:∀ (place:Nat->Option (Nat × Nat)) (z:Array Value),KU zero z.toList=true->z.toList.all Value.oneCell'=true->Mc place g.toList p=true->∃ xs',Instr.fill place z (g.map fun (i,x)=>(i,a.eval x)).toList=some xs'∧AS w (A3 w0.heap.size F0 G) cs xs'.toList∧TV.WFs cs∧xs'.toList.all Value.oneCell'=true:=by
    intro place z C u D;obtain ⟨j,k,l⟩:=VT y D m;have f:=O2 w (A3 w0.heap.size F0 G) zero z.toList C;have H:(g.map fun (i,x)=>(i,a.eval x)).toList=g.toList.map fun (i,x)=>(i,a.eval x):=by simp
    rw [H];obtain ⟨xs',I,J,L⟩:=TD f.1 (by simpa using j) k c (fun x B=>List.all_eq_true.1 u x B);exact ⟨xs',I,J,XZ f.2 l c,List.all_eq_true.2 L⟩
   have built:∃ xs',P.built t (g.map fun (i,x)=>(i,a.eval x)).toList=some xs'∧AS w (A3 w0.heap.size F0 G) cs xs'.toList∧TV.WFs cs∧xs'.toList.all Value.oneCell'=true:=by
    unfold ZO at b;unfold Program.built;split at b
    ·rename_i E n e j k;simp only [j,k];split at b
     ·rename_i z N l f;simp only [l,f];simp only [zzZ] at b;exact key _ _ b.1.1 b.1.2 b.2
     ·cases b
    ·rename_i E q j k;simp only [j,k];split at b
     ·rename_i z r l f;simp only [l,f];simp only [zzZ] at b;exact key _ _ b.1.1 b.1.2 b.2
     ·cases b
    ·cases b
   obtain ⟨xs',j,k,l,f⟩:=built;refine DV y A (v:=.agg xs') (t:=.agg cs) ?_ ?_ (by simpa [TV.WF] using l) h
   ·simp [execOp,s,run_build w t _ xs' j]
   ·simp only [A7]; exact ⟨xs',rfl,k,f⟩
theorem Vi (c:AZ F0 w0 O a w G) (e:d<a.tmps.size) {x:Operand} {n:Nat} (b:o.op=.move x∨o.op=.assign x) (f:∃ v,x=.const v∧Lu v=true) (h:(AJ.nilo n).wp S O (some d) K):B2 P F0 w0 a w o d K:=by
 simp only [AJ.wp] at h;obtain ⟨v,rfl,hv⟩:=f;refine ⟨.slice none 0 0,w,?_,_,_,h,c.ow (Below.refl _ _) d e (.list n []) _ none (by simp) ?_ ⟨by simp,trivial⟩⟩
 ·rcases b with b | b <;> simp [execOp,b,Act.eval,LC hv]
 ·simp only [C1];exact ⟨[],⟨by simp,.inl ⟨rfl,rfl,rfl⟩⟩,rfl,by simp,by simp⟩
end
end Go.Sf
namespace Go.Sf
open Go.RowKit (Below)
theorem Zj (b:QQ) (x t:TV) (r:QQ):(b++x::r).set b.length t=b++t::r:=by
 induction b with
 | nil=>rfl
 | cons p b c=>simp
theorem Rs:∀ (c b rest:QQ),c.length<=rest.length->Nt (b++rest) b.length c=b++c++rest.drop c.length
 | [],b,rest,_=>by simp [Nt]
 | d::c,b,[],h=>by simp at h
 | d::c,b,x::rest,h=>by
  simp only [Nt,Zj];have:=Rs c (b++[d]) rest (by simpa using h);simp only [d4,List.length_singleton,ea,List.singleton_append] at this;simpa using this
def KS (n:Nat):Nat->QQ->List (Nat × Nat × TV)
 | _,[]=>[]
 | k,t::ts=>(k*n,n,t)::KS n (k+1) ts
theorem VA (n:Nat):∀ (c b:QQ) (k:Nat),(∀ t∈c,t.cells.length=n)->b.length=k*n ->
  IC (b++List.replicate (c.length*n) .undef) (KS n k c)=some (b++c.flatMap TV.cells)
 | [],b,k,_,_=>by simp [KS,IC]
 | t::c,b,k,e,i=>by
  have g:t.cells.length=n:=e t (by simp);simp only [KS,IC];rw [d1 ⟨g,by simp only [d4,List.length_replicate,d6,Nat.add_mul]; omega⟩];rw [←i,Rs t.cells b _ (by simp only [List.length_replicate,d6,Nat.add_mul]; omega)];have h:(List.replicate ((t::c).length*n) TV.undef).drop t.cells.length=List.replicate (c.length*n) TV.undef:=by
   rw [List.drop_replicate]; congr 1; simp only [d6,Nat.add_mul]; omega
  rw [h];have:=VA n c (b++t.cells) (k+1) (fun x f=>e x (by simp [f])) (by simp only [d4,Nat.add_mul]; omega);rw [this];simp [List.flatMap_cons]
def Qk:Nat->List (Nat × Operand)->List AL->Bool
 | _,[],[]=>true
 | k,(i,x)::ps,y::ys=>i==k&&AP x y&&Qk (k+1) ps ys
 | _,_,_=>false
section
variable {P:Program} {S:FuncId->QQ->CS->Prop} {F0:Nat->Nat->Prop} {w0:W0} {O:AD} {a:Act} {w:World} {G:DP} {d:Nat} {o:Oper} {K:EV->AD->Prop}
theorem YO (q:AZ F0 w0 O a w G) (n:Nat):∀ {k:Nat} {e:List (Nat × Operand)} {f:List AL} {c:QQ},Qk k e f=true->vals O f=some c ->
  e.length=c.length∧(∀ (j:Nat) (p:Nat × Value) (t:Nat × Nat × TV),(e.map fun (i,x)=>(i,a.eval x))[j]?=some p->(KS n k c)[j]?=some t->(some (p.1*n,n):Option (Nat × Nat))=some (t.1,t.2.1)∧A7 w (A3 w0.heap.size F0 G) t.2.2 p.2)∧TV.WFs c
 | _,[],[],c,_,h=>by simp [vals] at h; subst h; simp [TV.WFs]
 | _,[],_::_,_,h,_=>by simp [Qk] at h
 | _,_::_,[],_,h,_=>by simp [Qk] at h
 | k,(i,x)::e,y::f,c,b,h=>by
  simp only [Qk,zzZ,beq_iff_eq] at b;simp only [vals] at h;split at h
  ·rename_i t s v m;simp only [zzY] at h;subst h;obtain ⟨z,A,B⟩:=YO q n b.2 m;have r:=BR q b.1.2 v;refine ⟨by simp [z],fun j p u g l=>?_,r.2,B⟩;cases j with
   | zero=>simp [KS] at g l; subst g; subst l; exact ⟨by rw [b.1.1],r.1⟩
   | succ j=>exact A j p u (by simpa using g) (by simpa [KS] using l)
  ·cases h
theorem Pa (n:Nat):∀ (k:Nat) (b:QQ),(KS n k b).length=b.length
 | _,[]=>rfl
 | k,t::b=>by simp [KS,Pa n (k+1) b]
theorem ft {F:Nat->Nat->Prop} {n:Nat} {c:QQ} {cells:Array Value} {e:TypeId} (h:AS (w.alloc (.cells cells e)) F (c.flatMap TV.cells) cells.toList) (ho:∀ x∈cells.toList,x.oneCell'=true) (f:∀ t∈c,t.cells.length=n) (g:c.length<=maxLen) :
  C1 (w.alloc (.cells cells e)) F (some (w.heap.size,c.length*n)) (.list n c) (.slice (some ⟨w.heap.size,0,none⟩) c.length c.length):=by
 have b:=CN h;rw [Nr n c f] at b;simp only [C1];refine ⟨cells.toList,⟨b,.inr ⟨w.heap.size,c.length,cells,e,rfl,heap_alloc_new w _,d3 _,g,by simpa using b,?_,rfl⟩⟩,h,f,ho⟩;rw [←b,List.take_length]
theorem dg (X:AZ F0 w0 O a w G) (hd:d<a.tmps.size) {t e:TypeId} {s:TypeInfo} {z:Value} {len n:Nat} {y:Array (Nat × Operand)} {Q:List AL} (R:o.op=.buildSlice t len y) (j:P.underlying t=some (.slice e)) (A:P.info? e=some s) (hz:s.zero=some z)
  (N:s.size=n) (B:0<n) (k:z.cells.toList.all Value.oneCell'=true) (C:0<z.cells.size) (D:len=y.size) (hsm:len*n<=2 ^ 24) (T:Qk 0 y.toList Q=true) (h:(AJ.lst n Q).wp S O (some d) K):B2 P F0 w0 a w o d K:=by
 simp only [AJ.wp] at h;cases l:vals O Q with
 | none=>rw [l] at h; exact h.elim
 | some g=>
  rw [l] at h;simp only [BA] at h;obtain ⟨hc,hK⟩:=h;obtain ⟨h1,h2,h3⟩:=YO X n T l;have H:len=g.length:=by rw [D,←h1]; simp
  have U:(TV.list n g).WF:=⟨by simp only [I3]; have:len*1<=len*n:=Nat.mul_le_mul_left _ B; omega,h3⟩;have V:g.length<=maxLen:=by simp only [maxLen]; have:len*1<=len*n:=Nat.mul_le_mul_left _ B; omega
  have f:∃ cells:Array Value,(Instr.buildSlice t len (y.map fun (i,x)=>(i,a.eval x))).run P w=.ok (.slice (some ⟨w.heap.size,0,none⟩) len len) (w.alloc (.cells cells e))∧AS w (A3 w0.heap.size F0 G) (g.flatMap TV.cells) cells.toList∧∀ x∈cells.toList,x.oneCell'=true:=by
   by_cases h0:len=0
   ·have W:y=#[]:=by apply Array.eq_empty_of_size_eq_zero; omega
    have I:g=[]:=by apply List.eq_nil_of_length_eq_zero; omega
    subst W; subst I; subst h0;refine ⟨#[],?_,rfl,by simp⟩;simp [Instr.buildSlice,run_underlying j,sizeOf,typeInfo,A,Instr.fill,newRow];rw [Array.range_zero']; simp
   ·have m:AS w (A3 w0.heap.size F0 G) (List.replicate (g.length*n) .undef) ((Array.range (len*s.size)).map (z.cells[· % z.cells.size]!)).toList:=by
     rw [CP];refine ⟨by simp [N,H],fun i u v j hv=>?_⟩;rw [List.getElem?_replicate] at j;split at j
     ·simp only [zzY] at j;subst j;simp only [A7];rw [Array.getElem?_toList,Array.getElem?_map] at hv;simp only [Option.map_eq_some_iff] at hv;obtain ⟨q,_,rfl⟩:=hv;have c:=Nat.mod_lt q C;rw [getElem!_pos z.cells _ c];exact List.all_eq_true.1 k _ (by simp)
     ·cases j
    have J:=VA n g [] 0 hc (by simp);simp only [List.nil_append] at J;have p:∀ x∈((Array.range (len*s.size)).map (z.cells[· % z.cells.size]!)).toList,x.oneCell'=true:=by
     intro x Y;rw [Array.mem_toList_iff,Array.mem_map] at Y;obtain ⟨q,_,rfl⟩:=Y;have c:=Nat.mod_lt q C;rw [getElem!_pos z.cells _ c];exact List.all_eq_true.1 k _ (by simp)
    obtain ⟨xs',h6,h7,h8⟩:=TD (place:=fun i=>some (i*n,n)) m (by rw [Pa]; simpa using h1) h2 J p;refine ⟨xs',run_buildSlice w t e len _ xs' s z j A hz (by rw [N]; omega) ?_ ?_,h7,h8⟩
    ·rw [N]; intro h; rcases Nat.mul_eq_zero.1 h with h | h <;> omega
    ·rw [N] at h6 ⊢;simpa using h6
  obtain ⟨cells,L,M,r⟩:=f;have Z:Below w.heap.size w (w.alloc (.cells cells e)):=(Below.refl _ _).alloc (d3 _) _;refine ⟨.slice (some ⟨w.heap.size,0,none⟩) len len,_,by simp only [execOp,R,Sem.run_bind,L,Result.andThen_ok,Sem.run_pure],_,_,hK,X.ow Z d hd (.list n g) _ (some (w.heap.size,g.length*n)) (fun b lo E=>?_) ?_ U⟩
  ·simp only [zzY,Prod.mk.injEq] at E;obtain ⟨rfl,_⟩:=E;exact ⟨d3 _,by simp⟩
  ·rw [H];exact ft (BP (Lq Z d _ (fun i b lo h=>by
    split at h
    ·simp only [zzY,Prod.mk.injEq] at h; omega
    ·cases h)) _ _ M) r hc V
theorem AZ.strip (h:AZ F0 w0 O a w G) (s:Nat):AZ F0 w0 (strip O s) a w G:=by
 refine ⟨h.uniq,h.lt,h.below,h.defers,fun q c=>?_,fun q c=>?_,fun q=>?_⟩
 ·simp only [Go.Sf.strip,AD.get_cons];split
  ·rfl
  ·exact h.dom q c
 ·have:=h.slots q c;simp only [Go.Sf.strip,AD.get_cons];split
  ·trivial
  ·refine AY.kept (QL _ _) (fun _=>rfl) (fun _ _ _ _=>rfl) (fun r e f ⟨cs,b⟩=>?_) (fun r i f ⟨p,g⟩=>⟨⟨p,(AD.xat_drop (by simp) (by simp) g).2⟩,fun _ hv=>hv⟩) this
   ·rw [AD.get_cons] at b;split at b
    ·cases b
    ·exact ⟨⟨cs,b⟩,rfl⟩
 ·simp only [Go.Sf.strip,AD.get_cons];split
  ·trivial
  ·exact h.wf q
theorem AZ.move (h:AZ F0 w0 O a w G) {s:Nat} {t:TV} (I:O.get s=.ow t) (M:d<a.tmps.size) :
  ∃ j,AZ F0 w0 ((d,.ow t)::Go.Sf.strip O s) (a.put (some d) (slot a s)) w j∧DW w w (A3 w0.heap.size F0 G) (A3 w0.heap.size F0 j):=by
 have m:=A9 h I (by simp);simp only [AY] at m;have B:=h.wf s;rw [I] at B
 let zs:Option (Nat × Nat):=G s none
 let j:DP:=GX (GX G s (fun _=>none)) d (fun i=>if i=none then zs else none)
 have l:∀ q i b lo,j q i=some (b,lo)->(q=d∧i=none∧G s none=some (b,lo))∨(q≠d∧q≠s∧G q i=some (b,lo)):=by
  intro q i b lo f;by_cases g:q=d
  ·subst g;simp only [j,CB] at f;split at f
   ·rename_i hi; exact .inl ⟨rfl,hi,f⟩
   ·cases f
  ·simp only [j,B1 _ _ _ _ g] at f;by_cases u:q=s
   ·subst u; rw [CB] at f; cases f
   ·rw [B1 _ _ _ _ u] at f;exact .inr ⟨g,u,f⟩
 have x:∀ q i b lo,j q i=some (b,lo)->∃ J L n,G J L=some (b,n)∧n<=lo:=by
  intro q i b lo f;rcases l q i b lo f with ⟨_,_,k⟩ | ⟨_,_,k⟩
  ·exact ⟨s,none,lo,k,d3 _⟩
  ·exact ⟨q,i,lo,k,d3 _⟩
 have y:DW w w (A3 w0.heap.size F0 G) (A3 w0.heap.size F0 j):=fun b o v N Q=>⟨N,fun E=>Q (A3.mono x E)⟩;refine ⟨j,⟨?_,?_,h.below,by rw [LS]; exact h.defers,?_,?_,?_⟩,y⟩
 ·intro q i J L b lo n k C;rcases l _ _ _ _ k with ⟨rfl,rfl,A⟩ | ⟨X,V,A⟩ <;> rcases l _ _ _ _ C with ⟨rfl,rfl,D⟩ | ⟨m1,W,D⟩
  ·exact ⟨rfl,rfl⟩
  ·exact absurd (h.uniq _ _ _ _ _ _ _ A D).1.symm W
  ·exact absurd (h.uniq _ _ _ _ _ _ _ A D).1 V
  ·exact h.uniq _ _ _ _ _ _ _ A D
 ·intro q i b lo k;rcases l _ _ _ _ k with ⟨_,_,A⟩ | ⟨_,_,A⟩ <;> exact h.lt _ _ _ _ A
 ·intro q f;rw [FW] at f;rw [AD.get_cons,d2 (by omega)];exact (h.strip s).dom q f
 ·intro q f;rw [FW] at f;rw [AD.get_cons];by_cases g:d=q
  ·subst g;rw [d1 rfl,Ia _ _ _ M];simp only [AY,j,CB,if_true];exact m.kept y (fun _ _ _=>rfl)
  ·rw [d2 g,BJ _ _ _ _ g];simp only [Go.Sf.strip,AD.get_cons];split
   ·trivial
   ·rename_i H;refine AY.kept y (fun i=>?_) (fun _ _ _ _=>rfl) (fun r R T ⟨cs,c⟩=>?_) (fun r i T ⟨p,U⟩=>?_) (h.slots q f)
    ·simp only [j];rw [B1 _ _ _ _ (fun e=>g e.symm),B1 _ _ _ _ (fun e=>H e.symm)]
    ·rw [AD.get_cons] at c;by_cases z:d=r
     ·rw [d1 z] at c; cases c
     ·rw [d2 z] at c;simp only [AD.get_cons] at c;split at c
      ·cases c
      ·exact ⟨⟨cs,c⟩,BJ _ _ _ _ z⟩
    ·have k:=AD.xat_drop (by simp) (by simp) U;have C:=AD.xat_drop (by simp) (by simp) k.2;exact ⟨⟨p,C.2⟩,h.xv ⟨p,C.2⟩ (BJ _ _ _ _ k.1) (fun _ _=>rfl)⟩
 ·intro q;rw [AD.get_cons];split
  ·exact B
  ·exact (h.strip s).wf q
theorem dM (a:Act) (d s:Nat) (v:Value) (h:d<a.tmps.size):slot (a.put (some d) v) s=if d=s then v else slot a s:=by
 split
 ·rename_i e; subst e; exact Ia _ _ _ h
 ·rename_i e; exact BJ _ _ _ _ e
theorem AZ.move' (h:AZ F0 w0 O a w G) {s:Nat} {t:TV} (b:O.get s=.ow t) (g:d<a.tmps.size) :
  DI F0 w0 ((d,.ow t)::(s,.tv t)::O) (a.put (some d) (slot a s)) w:=by
 obtain ⟨i,j,f⟩:=h.move b g;have hv:=BR h (x:=.tmp s) (y:=.s s) (by simp [AP]) (t:=t) (by simp [AL.val,AL.ev,b,EV.val]);have c:=G7 h b (by simp);refine ⟨i,j.rem s (t:=t) (by rw [FW]; exact c) ?_ hv.2 fun n=>?_⟩
 ·have:slot (a.put (some d) (slot a s)) s=slot a s:=by rw [dM _ _ _ _ g]; split <;> rfl
  rw [this];exact DG f _ _ hv.1
 ·simp only [Go.Sf.strip,AD.get_cons];split
  ·exact .inl rfl
  ·split
   ·rename_i e; exact .inr ⟨e.symm,rfl⟩
   ·exact .inl rfl
theorem Yk (e:AZ F0 w0 O a w G) (g:d<a.tmps.size) {s:Nat} (b:o.op=.move (.tmp s)∨o.op=.assign (.tmp s)) (h:(AJ.tk s).wp S O (some d) K):B2 P F0 w0 a w o d K:=by
 simp only [AJ.wp] at h;have c:(execOp a.eval o).run P w=.ok (.value (slot a s)) w:=by
  rcases b with b | b <;> simp [execOp,b] <;> rfl
 split at h
 ·rename_i t f;exact ⟨_,_,c,_,_,h,e.move' f g⟩
 ·rename_i t f;have:=BR e (x:=.tmp s) (y:=.s s) (by simp [AP]) (t:=t) (by simp [AL.val,AL.ev,f,EV.val]);exact DV e g c this.1 this.2 h
 ·exact h.elim
end
end Go.Sf
