/- The checker's operands, and the operations that only compute or read. -/
import Derived.Test.YtlbmpkmkmkgniaaGreatDoorSfQuiet
import Derived.Laws.StructEq
import Derived.Laws.Tables
import Derived.Great.BuildSlice
set_option linter.all false
namespace Go.Sf
open Go.RowKit (Below)
def LD:Value->Bool
 | .slice none 0 0=>true
 | _=>false
theorem Kd {v:Value} (h:LD v=true):v=.slice none 0 0:=by
 unfold LD at h;split at h
 ·rfl
 ·cases h
def aU (f:FuncId):Value->Bool
 | .func (.func g) first caps=>f==g&&first.size==0&&caps.size==0
 | _=>false
theorem di {f:FuncId} {v:Value} (h:aU f v=true):v=.func (.func f) #[] #[]:=by
 unfold aU at h;split at h
 ·simp at h;obtain ⟨⟨rfl,b⟩,c⟩:=h;subst b; subst c;rfl
 ·cases h
def Xg (k:IntKind) (n:Int):Value->Bool
 | .int k' m=>k==k'&&n==m
 | _=>false
theorem aV {k:IntKind} {n:Int} {v:Value} (h:Xg k n v=true):v=.int k n:=by
 unfold Xg at h;split at h
 ·simp at h; rw [h.1,h.2]
 ·cases h
def VF (b:Bool):Value->Bool
 | .bool c=>b==c
 | _=>false
theorem Yx {b:Bool} {v:Value} (h:VF b v=true):v=.bool b:=by
 unfold VF at h;split at h
 ·simp at h; rw [h]
 ·cases h
def Xh (s:ByteArray):Value->Bool
 | .string r=>s.data==r.data
 | _=>false
theorem aX {s:ByteArray} {v:Value} (h:Xh s v=true):v=.string s:=by
 unfold Xh at h;split at h
 ·simp at h; congr 1; exact (ByteArray.ext h).symm
 ·cases h
def XS:Value->Option (List Value)
 | .agg vs=>some vs.toList
 | _=>none
theorem aE {v:Value} {l:List Value} (h:XS v=some l):v=.agg l.toArray:=by
 unfold XS at h;split at h
 ·simp at h; subst h; simp
 ·cases h
mutual
def FC:TV->Value->Bool
 | .int k n,v=>Xg k n v&&decide (k.min<=n∧n<=k.max)
 | .bool b,v=>VF b v
 | .str s,v=>Xh s v&&decide (s.size<=IV)
 | .list _ es,v=>es.isEmpty&&LD v
 | .agg ts,v=>match XS v with | some vs=>Ju ts vs&&vs.all Value.oneCell' | none=>false
 | .clo f cs,v=>cs.isEmpty&&aU f v
 | .nil,v=>LD v
 | .undef,v=>v.oneCell'
 | _,_=>false
def Ju:QQ->List Value->Bool
 | [],vs=>vs.isEmpty
 | t::ts,vs=>match vs with | v::vs=>FC t v&&Ju ts vs | []=>false
end
mutual
theorem IE (w:World) (F:Nat->Nat->Prop):∀ (t:TV) (v:Value),FC t v=true->A3 w F t v∧t.WF
 | .undef,v,h=>by
  simp only [FC] at h;exact ⟨by simpa [A3] using h,trivial⟩
 | .xl _ _,v,h=>by simp [FC] at h
 | .nil,v,h=>by
  simp only [FC] at h;exact ⟨Kd h,trivial⟩
 | .pt _,v,h=>by simp [FC] at h
 | .int k n,v,h=>by
  simp only [FC,zzZ,zzX] at h;exact ⟨aV h.1,h.2⟩
 | .bool b,v,h=>by
  simp only [FC] at h;exact ⟨Yx h,trivial⟩
 | .str s,v,h=>by
  simp only [FC,zzZ,zzX] at h;exact ⟨aX h.1,h.2⟩
 | .list n es,v,h=>by
  simp only [FC,zzZ,List.isEmpty_iff] at h;obtain ⟨rfl,h⟩:=h;refine ⟨?_,by simp [TV.WF,TV.WFs]⟩;simp only [A3];exact ⟨none,0,Kd h,by simp⟩
 | .agg c,v,h=>by
  simp only [FC] at h;split at h
  ·rename_i vs hv;rw [zzZ] at h;have:=Nz w F c vs h.1;refine ⟨?_,by simpa [TV.WF] using this.2⟩;simp only [A3];exact ⟨_,aE hv,by simpa using this.1,by simpa using h.2⟩
  ·cases h
 | .clo f cs,v,h=>by
  simp only [FC,zzZ,List.isEmpty_iff] at h;obtain ⟨rfl,h⟩:=h;refine ⟨?_,by simp [TV.WF,TV.WFs]⟩;simp only [A3];exact ⟨#[],di h,rfl⟩
theorem Nz (w:World) (F:Nat->Nat->Prop):∀ (b:QQ) (vs:List Value),Ju b vs=true->AQ w F b vs∧TV.WFs b
 | [],vs,h=>by simp [Ju] at h; subst h; exact ⟨rfl,trivial⟩
 | t::b,vs,h=>by
  cases vs with
  | nil=>simp [Ju] at h
  | cons v vs=>
   simp only [Ju,zzZ] at h;have c:=IE w F t v h.1;have e:=Nz w F b vs h.2;exact ⟨⟨v,vs,rfl,c.1,e.1⟩,c.2,e.2⟩
end
def AP (x:Operand):AJ->Bool
 | .s m=>match x with | .tmp n=>n==m | _=>false
 | .c t=>match x with | .const v=>FC t v | .func f=>FC t (.func (.func f) #[] #[]) | _=>false
section
variable {F0:Nat->Nat->Prop} {w0:W0} {O:AC} {a:Act} {w:World} {G:DP}
theorem N1 (h:AU F0 w0 O a w G) {s:Nat} {i:Option Nat}:∀ b lo o,G s i=some (b,lo)->o<lo->¬ AZ w0.heap.size F0 G b o:=by
 intro b lo o c ho j;rcases j with ⟨k,f⟩ | ⟨s',m,l,g,n⟩
 ·exact (h.lt _ _ _ _ c).2.elim (fun e=>by omega) (fun e=>h.below.free _ _ _ (e _ (d3 _)) f)
 ·obtain ⟨rfl,rfl⟩:=h.uniq _ _ _ _ _ _ _ g c;rw [g] at c;simp only [zzY,Prod.mk.injEq,true_and] at c;omega
theorem GM (h:AU F0 w0 O a w G) {n:Nat} {e:EV} (g:O.get n=e) (b:e≠.undef):n<a.tmps.size:=by
 rcases Nat.lt_or_ge n a.tmps.size with c | f
 ·exact c
 ·exact absurd ((h.dom n f).symm.trans g).symm b
theorem A5 (h:AU F0 w0 O a w G) {n:Nat} {e:EV} (c:O.get n=e) (b:e≠.undef):AT a w (AZ w0.heap.size F0 G) G O n e (slot a n):=by
 have:=h.slots n (GM h c b)
 rwa [c] at this
theorem BJ (h:AU F0 w0 O a w G) {x:Operand} {y:AJ} (e:AP x y=true) {t:TV} (hv:y.val O=some t):A3 w (AZ w0.heap.size F0 G) t (a.eval x)∧t.WF:=by
 cases y with
 | s m=>
  cases x <;> simp [AP] at e;subst e;rename_i n;simp only [AJ.val,AJ.ev] at hv;have k:=h.wf n;cases j:O.get n with
  | tv l=>
   rw [j] at hv k;simp only [EV.val,zzY] at hv;subst hv;exact ⟨A5 h j (by simp),k⟩
  | ow l=>
   rw [j] at hv k;simp only [EV.val,zzY] at hv;subst hv;exact ⟨CW.rep (A5 h j (by simp)) (fun b lo o p ho=>N1 h b lo o p ho),k⟩
  | undef=>rw [j] at hv; simp [EV.val] at hv
  | sk=>rw [j] at hv; simp [EV.val] at hv
  | xo n es=>rw [j] at hv; simp [EV.val] at hv
  | la q i=>rw [j] at hv; simp [EV.val] at hv
  | oag cs=>rw [j] at hv; simp [EV.val] at hv
  | lp q i c=>rw [j] at hv; simp [EV.val] at hv
  | bx cs=>rw [j] at hv; simp [EV.val] at hv
  | bp q r=>rw [j] at hv; simp [EV.val] at hv
  | tp u=>rw [j] at hv; simp [EV.val] at hv
 | c l=>
  simp only [AJ.val,AJ.ev,EV.val,zzY] at hv;subst hv;cases x with
  | const v=>exact IE w _ _ _ e
  | func f=>exact IE w _ _ _ e
  | tmp n=>simp [AP] at e
  | global g=>simp [AP] at e
theorem Sj (h:AU F0 w0 O a w G) {x:Operand} {y:AJ} (b:AP x y=true) {t:TV} (hv:y.ev O=.tv t):A3 w (AZ w0.heap.size F0 G) t (a.eval x)∧t.WF:=
 BJ h b (by simp [AJ.val,hv,EV.val])
def DF:List Operand->List AJ->Bool
 | [],[]=>true
 | x::xs,y::ys=>AP x y&&DF xs ys
 | _,_=>false
theorem Jj (h:AU F0 w0 O a w G):∀ {xs:List Operand} {e:List AJ},DF xs e=true->∀ {c:QQ},vals O e=some c->AQ w (AZ w0.heap.size F0 G) c (xs.map a.eval)∧TV.WFs c
 | [],[],_,c,hv=>by simp [vals] at hv; subst hv; exact ⟨rfl,trivial⟩
 | [],_::_,b,_,_=>by simp [DF] at b
 | _::_,[],b,_,_=>by simp [DF] at b
 | x::xs,y::e,b,c,hv=>by
  simp only [DF,zzZ] at b;simp only [vals] at hv;split at hv
  ·rename_i t j k f;simp only [zzY] at hv;subst hv;have g:=BJ h b.1 k;have i:=Jj h b.2 f;exact ⟨⟨_,_,rfl,g.1,i.1⟩,g.2,i.2⟩
  ·cases hv
end
theorem K3 (k:IntKind) (n:Int):k.min<=k.wrap n∧k.wrap n<=k.max:=by
 cases k <;> simp only [IntKind.min,IntKind.max,IntKind.wrap,IntKind.signed,IntKind.bits,Bool.true_and,Bool.false_and] <;> simp <;> (try split) <;> omega
end Go.Sf
namespace Go.Sf
open Go.RowKit (Below)
def E4 (P:Program) (t:TypeId):Option Nat:=(P.info? t).map (·.size)
def DQ (P:Program) (t:TypeId):ca:=
 match P.underlying t with
 | some (.struct _) | some (.array _ _)=>some true
 | some _=>some false
 | none=>none
def Ku (P:Program) (t:TypeId):Option Nat:=
 match P.underlying t with
 | some (.slice e)=>E4 P e
 | _=>none
def Nw (P:Program) (t:TypeId) (f:Nat):Option Nat:=
 match P.underlying t with
 | some (.struct fs)=>match fs[f]? with
  | some x=>match E4 P x.type with
   | some 0=>none
   | some _=>some x.offset
   | none=>none
  | none=>none
 | _=>none
section
variable {P:Program} {w:World}
theorem DX {t:TypeId} {n:Nat} (h:E4 P t=some n):(sizeOf t).run P w=.ok n w:=by
 simp only [E4,Option.map_eq_some_iff] at h;obtain ⟨i,hi,rfl⟩:=h;simp [sizeOf,typeInfo,hi]
theorem FE {t:TypeId} {b:Bool} (h:DQ P t=some b):(isAgg t).run P w=.ok b w:=by
 unfold DQ at h;unfold isAgg underlying;simp only [Sem.run_bind,run_program,Result.andThen_ok];cases c:P.underlying t with
 | none=>rw [c] at h; simp at h
 | some d=>
  rw [c] at h;cases d <;> simp_all
theorem Q4 {t:TypeId} {f k b o:Nat} (h:Nw P t f=some k) :
  (Instr.fieldAt t (.pointer (some ⟨b,o,none⟩)) f).run P w=.ok (.pointer (some ⟨b,o+k,none⟩)) w:=by
 unfold Nw at h;split at h
 ·rename_i m g;split at h
  ·rename_i x i;split at h
   ·cases h
   ·rename_i n j l;simp only [zzY] at h;subst h;have c:¬ (n=0):=fun e=>j (by rw [e]);simp [Instr.fieldAt,run_underlying g,i,Instr.sureAddr,fieldPlace,DX l,c,Addr.add_lit]
   ·cases h
  ·cases h
 ·cases h
theorem Pq {F:Nat->Nat->Prop} {c:QQ} {b o:Nat} (h:EA w F c b o):∃ vs:List Value,AQ w F c vs∧(∀ x∈vs,x.oneCell'=true)∧∀ (j:Nat) (v:Value),vs[j]?=some v->w.cell? ((⟨b,o,none⟩:Addr).add j)=some v:=by
 induction c generalizing o with
 | nil=>exact ⟨[],rfl,by simp,by simp⟩
 | cons t c p=>
  simp only [EA] at h;obtain ⟨⟨v,f,q,g,i⟩,k⟩:=h;obtain ⟨vs,l,m,n⟩:=p k;refine ⟨v::vs,⟨v,vs,rfl,i,l⟩,by simp only [List.mem_cons,forall_eq_or_imp]; exact ⟨g,m⟩,fun j u e=>?_⟩;rw [Addr.add_lit];cases j with
  | zero=>simp at e; subst e; exact f
  | succ j=>
   have:=n j u (by simpa using e);rw [Addr.add_lit] at this
   rwa [show o+(j+1)=o+1+j from by omega]
theorem CB {F:Nat->Nat->Prop} {b:QQ} {vs:List Value} (h:AQ w F b vs):vs.length=b.length:=((CJ b vs).1 h).1
theorem X7 {F:Nat->Nat->Prop} {t:TypeId} {n:Nat} {es:QQ} {v:Value} {k:IntKind} {j:Int} (f:Ku P t=some n) (h:A3 w F (.list n es) v) (z:0<=j) {e:TV} (i:es[j.toNat]?=some e) :
  ∃ p,(Instr.indexAt t v (.int k j)).run P w=.ok p w∧A3 w F (.pt e.cells) p:=by
 simp only [A3] at h;obtain ⟨a,cap,rfl,_,u,x⟩:=h;have c:j.toNat<es.length:=by
  rcases Nat.lt_or_ge j.toNat es.length with h | h
  ·exact h
  ·rw [List.getElem?_eq_none h] at i; cases i
 cases a with
 | none=>have:=u rfl; subst this; simp at c
 | some m=>
  obtain ⟨g,l⟩:=x m rfl;obtain ⟨b,o,y⟩:=m;simp only at g l;have g:y=none:=g.resolve_left (fun e=>by subst e; simp at c);subst g;unfold Ku at f;split at f
  ·rename_i el q;rw [OZ] at l;have r:=l j.toNat e i;have s:0<=j∧j<(es.length:Int):=by omega
   refine ⟨.pointer (some ⟨b,o+j.toNat*n,none⟩),?_,?_⟩
   ·simp [Instr.indexAt,asIntOf,run_underlying q,s,DX f,Addr.add_lit]
   ·simp only [A3];exact ⟨b,_,rfl,r.1⟩
  ·cases f
end
end Go.Sf
namespace Go.Sf
open Go.RowKit (Below)
def BU (P:Program) (F0:Nat->Nat->Prop) (w0:W0) (a:Act) (w:World) (o:Oper) (d:Nat) (K:EV->AC->Prop):Prop:=
 ∃ v w',(execOp a.eval o).run P w=.ok (.value v) w'∧∃ e env',K e env'∧DE F0 w0 ((d,e)::env') (a.put (some d) v) w'
theorem CO:∀ {l:QQ},TV.WFs l↔∀ t∈l,t.WF
 | []=>by simp [TV.WFs]
 | t::l=>by simp [TV.WFs,CO (l:=l)]
theorem J0 {t:TV} (h:t.WF):TV.WFs t.cells:=by
 cases t with
 | agg cs=>exact h
 | _=>exact ⟨h,trivial⟩
section
variable {P:Program} {S:FuncId->QQ->CM->Prop} {F0:Nat->Nat->Prop} {w0:W0} {O:AC} {a:Act} {w:World} {G:DP} {d:Nat} {o:Oper} {K:EV->AC->Prop}
theorem DS (c:AU F0 w0 O a w G) (e:d<a.tmps.size) {v:Value} {t:TV} (b:(execOp a.eval o).run P w=.ok (.value v) w)
  (f:A3 w (AZ w0.heap.size F0 G) t v) (g:t.WF) (h:K (.tv t) O):BU P F0 w0 a w o d K:=
 ⟨v,w,b,_,_,h,c.tv_same d e t v f g⟩
theorem XC (k:AU F0 w0 O a w G) (r:d<a.tmps.size) {x:Operand} {y:AJ} (e:o.op=.move x∨o.op=.assign x) (g:AP x y=true) (h:(AH.mv y).wp S O (some d) K):BU P F0 w0 a w o d K:=by
 simp only [AH.wp] at h;have hv:(∃ t,y.val O=some t∧K (.tv t) O)∨∃ l,y.ev O=.tp l∧K (.tp l) O:=by
  unfold AJ.val;split at h <;> first | exact h.elim | (rename_i t p; exact .inl ⟨t,by rw [p]; rfl,h⟩) | (rename_i t p; exact .inr ⟨t,p,h⟩)
 have f:(execOp a.eval o).run P w=.ok (.value (a.eval x)) w:=by rcases e with e | e <;> simp [execOp,e]
 rcases hv with ⟨t,hv,q⟩ | ⟨l,hv,q⟩
 ·have:=BJ k g hv;exact DS k r (v:=a.eval x) f this.1 this.2 q
 ·cases y with
  | c t=>simp [AJ.ev] at hv
  | s n=>
   have E:x=.tmp n:=by
    cases x <;> simp [AP] at g;rw [g]
   subst E;simp only [AJ.ev] at hv;have z:=A5 k hv (by simp);have A:=k.wf n;rw [hv] at A;refine ⟨_,w,f,_,_,q,⟨_,k.quiet (Below.refl _ _) d r (.tp l) _ (fun _=>none) (by simp) (by simp) (by simp) ?_ A⟩⟩;simp only [AT] at z ⊢;obtain ⟨vs,H,I⟩:=z;refine ⟨vs,H,BI (fun b o u C D=>⟨C,fun m=>D ?_⟩) _ _ I⟩;rcases m with j | ⟨s,i,lo,j,J⟩
   ·exact .inl j
   ·by_cases B:s=d
    ·subst B; rw [B1] at j; cases j
    ·rw [BT _ _ _ _ B] at j; exact .inr ⟨s,i,lo,j,J⟩
theorem Zo (f:AU F0 w0 O a w G) (j:d<a.tmps.size) {c x x':Operand} {c' y e:AJ} (g:o.op=.pick c x x') (k:AP c c'=true) (p:AP x y=true) (r:AP x' e=true)
  (h:(AH.pick c' y e).wp S O (some d) K):BU P F0 w0 a w o d K:=by
 simp only [AH.wp] at h;split at h
 ·rename_i q l;have b:=(BJ f k l).1;simp only [A3] at b;have i:AP (if q then x else x') (if q then y else e)=true:=by cases q <;> assumption
  have hv:∃ t,(if q then y else e).val O=some t∧K (.tv t) O:=by
   unfold AJ.val;split at h <;> first | exact h.elim | (rename_i t m; exact ⟨t,by rw [m]; rfl,h⟩)
  obtain ⟨t,hv,n⟩:=hv;have:=BJ f i hv;refine DS f j (v:=a.eval (if q then x else x')) ?_ this.1 this.2 n;cases q <;> simp [execOp,g,b,asBool]
 ·exact h.elim
theorem bq (f:AU F0 w0 O a w G) (g:d<a.tmps.size) {x:Operand} {y:AJ} {t:TypeId} (c:o.op=.unOp .not t x) (e:AP x y=true) (h:(AH.not y).wp S O (some d) K):BU P F0 w0 a w o d K:=by
 simp only [AH.wp] at h;split at h
 ·rename_i b hv;have:=(BJ f e hv).1;simp only [A3] at this;exact DS f g (v:=.bool !b) (t:=.bool !b) (by simp [execOp,c,this,Op.unary]) rfl trivial h
 ·exact h.elim
theorem bn (e:AU F0 w0 O a w G) (f:d<a.tmps.size) {x:Operand} {y:AJ} {t:TypeId} (b:o.op=.unOp .neg t x) (c:AP x y=true) (h:(AH.neg y).wp S O (some d) K):BU P F0 w0 a w o d K:=by
 simp only [AH.wp] at h;split at h
 ·rename_i k n hv;have:=(BJ e c hv).1;simp only [A3] at this;exact DS e f (v:=.int k (k.wrap (-n))) (t:=.int k (k.wrap (-n))) (by simp [execOp,b,this,Op.unary,Op.intArith]) rfl (K3 k _) h
 ·exact h.elim
theorem bd (e:AU F0 w0 O a w G) (f:d<a.tmps.size) {x:Operand} {y:AJ} {s t:TypeId} {k g:IntKind} (b:o.op=.convert s t x) (i:P.underlying s=some (.int g)) (j:P.underlying t=some (.int k)) (c:AP x y=true) (h:(AH.cvt k y).wp S O (some d) K):BU P F0 w0 a w o d K:=by
 simp only [AH.wp] at h;split at h
 ·rename_i l n hv;have:=(BJ e c hv).1;simp only [A3] at this;refine DS e f (v:=.int k (k.wrap n)) (t:=.int k (k.wrap n)) ?_ rfl (K3 k _) h;simp [execOp,b,this,convert,run_underlying i,run_underlying j,Conv.intToInt]
 ·exact h.elim
theorem bY (g:AU F0 w0 O a w G) (i:d<a.tmps.size) {f:FuncId} {xs:Array Operand} {b:List AJ} (c:o.op=.makeFunc (.func f) #[] xs) (e:DF xs.toList b=true) (h:(AH.clo f b).wp S O (some d) K):BU P F0 w0 a w o d K:=by
 simp only [AH.wp] at h;cases hv:vals O b with
 | none=>rw [hv] at h; exact h.elim
 | some j=>
  rw [hv] at h;have:=Jj g e hv;refine DS g i (v:=.func (.func f) #[] (xs.map a.eval)) (by simp [execOp,c,Instr.makeFunc]) ?_ (by simpa [TV.WF] using this.2) h;simp only [A3];exact ⟨_,rfl,by simpa using this.1⟩
theorem be (c:AU F0 w0 O a w G) (m:d<a.tmps.size) {s i:Nat} (e:o.op=.extract (.tmp s) i) (h:(AH.ext (.s s) i).wp S O (some d) K):BU P F0 w0 a w o d K:=by
 simp only [AH.wp,AJ.ev] at h;split at h
 ·rename_i f hv;cases b:f[i]? with
  | none=>rw [b] at h; exact h.elim
  | some t=>
   rw [b] at h;have j:=A5 c hv (by simp);have k:=c.wf s;rw [hv] at k;simp only [AT] at j;obtain ⟨vs,q,l⟩:=j;rw [CJ] at l;have n:i<f.length:=by
    rcases Nat.lt_or_ge i f.length with h | h
    ·exact h
    ·rw [List.getElem?_eq_none h] at b; cases b
   have p:vs.toList[i]?=some (vs.toList[i]'(by omega)):=List.getElem?_eq_getElem (by omega);have g:vs[i]?=some (vs.toList[i]'(by omega)):=by simp
   refine DS c m (v:=vs.toList[i]'(by omega)) ?_ (l.2 i t _ b p) ?_ h
   ·simp [execOp,e,show a.eval (.tmp s)=slot a s from rfl,q,Instr.extract,g]
   ·exact CO.1 k t (List.mem_of_getElem? b)
 ·exact h.elim
theorem bj (f:AU F0 w0 O a w G) (g:d<a.tmps.size) {x:Operand} {y:AJ} {t e:TypeId} (b:o.op=.call { callee:=.builtin .len,args:=#[x],argTypes:=#[t] }) (c:AP x y=true)
  (i:P.underlying t=some (.slice e)) (h:(AH.len y).wp S O (some d) K):BU P F0 w0 a w o d K:=by
 simp only [AH.wp] at h;split at h
 ·rename_i n es hv;have:=BJ f c hv;simp only [A3,TV.WF,IV] at this;obtain ⟨⟨k,cap,j,_⟩,l⟩:=this;refine DS f g (v:=.int .i64 es.length) (t:=.int .i64 es.length) ?_ rfl ⟨by simp only [IntKind.min,IntKind.signed,IntKind.bits,if_true]; omega,by simp only [IntKind.max_i64]; omega⟩ h;simp [execOp,b,resolve,invoke,builtin,Builtin.len_,run_underlying i,j,goInt]
 ·exact h.elim
theorem Zq (e:AU F0 w0 O a w G) (f:d<a.tmps.size) {x:Operand} {y:AJ} {t:TypeId} (b:o.op=.call { callee:=.builtin .len,args:=#[x],argTypes:=#[t] }) (c:AP x y=true)
  (g:P.underlying t=some .string) (h:(AH.slen y).wp S O (some d) K):BU P F0 w0 a w o d K:=by
 simp only [AH.wp] at h;split at h
 ·rename_i s hv;have:=BJ e c hv;simp only [A3,TV.WF,IV] at this;refine DS e f (v:=.int .i64 s.size) (t:=.int .i64 s.size) ?_ rfl ⟨by simp only [IntKind.min,IntKind.signed,IntKind.bits,if_true]; omega,by simp only [IntKind.max_i64]; omega⟩ h;simp [execOp,b,resolve,invoke,builtin,Builtin.len_,run_underlying g,this.1,goInt]
 ·exact h.elim
end
end Go.Sf
namespace Go.Sf
open Go.RowKit (Below)
section
variable {P:Program} {S:FuncId->QQ->CM->Prop} {F0:Nat->Nat->Prop} {w0:W0} {O:AC} {a:Act} {w:World} {G:DP} {d:Nat} {o:Oper} {K:EV->AC->Prop}
theorem Ri (e:AU F0 w0 O a w G) {s:Nat} {i:Option Nat} {c:AV} {x:Value} (h:C0 w (AZ w0.heap.size F0 G) (G s i) c x):A3 w (AZ w0.heap.size F0 G) c.t x:=by
 obtain ⟨_ | _,t⟩:=c
 ·exact h.1
 ·exact Ig.rep h (fun b lo o f ho=>N1 e b lo o f ho)
theorem RJ {F:Nat->Nat->Prop} {z:Option (Nat × Nat)} {t:TV} {x:Value} (h:CW w F z t x):x.oneCell'=true:=by
 cases t <;> simp only [CW] at h;obtain ⟨xs,b,_⟩:=h;rcases b.2 with ⟨rfl,_⟩ | ⟨g,cap,c,e,rfl,_⟩ <;> rfl
theorem Rt {F:Nat->Nat->Prop} {z:Option (Nat × Nat)} {t:TV} {x:Value} (h:Ig w F z t x):x.oneCell'=true:=by
 by_cases b:∃ n es,t=.xl n es
 ·obtain ⟨n,es,rfl⟩:=b;simp only [Ig,KV] at h;obtain ⟨xs,⟨i,c,_⟩,_⟩:=h;rcases c.2 with ⟨rfl,_⟩ | ⟨g,cap,f,e,rfl,_⟩ <;> rfl
 ·refine RJ (w:=w) (F:=F) (z:=z) (t:=t) ?_;cases t <;> first | exact h | exact absurd ⟨_,_,rfl⟩ b
theorem Lb {F:Nat->Nat->Prop} {z:Option (Nat × Nat)} {c:AV} {x:Value} (h:C0 w F z c x):x.oneCell'=true:=by
 obtain ⟨_ | _,t⟩:=c
 ·exact h.2
 ·exact Rt h
theorem OD (z:AU F0 w0 O a w G) {x:Operand} {y:AJ} (A:AP x y=true) {cs:QQ} (f:BP O (y.ev O)=some cs) :
  ∃ b o vs,a.eval x=.pointer (some ⟨b,o,none⟩)∧AQ w (AZ w0.heap.size F0 G) cs vs∧TV.WFs cs∧(∀ x∈vs,x.oneCell'=true)∧∀ (j:Nat) (v:Value),vs[j]?=some v->w.cell? ((⟨b,o,none⟩:Addr).add j)=some v:=by
 have box:∀ (s e:Nat) (l:List AV),O.get s=.bx l->∃ b vs,slot a s=.pointer (some ⟨b,0,none⟩)∧AQ w (AZ w0.heap.size F0 G) ((l.drop e).map (·.t)) vs∧TV.WFs ((l.drop e).map (·.t))∧(∀ x∈vs,x.oneCell'=true)∧∀ (j:Nat) (v:Value),vs[j]?=some v->w.cell? ((⟨b,e,none⟩:Addr).add j)=some v:=by
  intro s e l M;have k:=A5 z M (by simp);have E:=z.wf s;rw [M] at E;simp only [AT] at k;obtain ⟨b,c,T,p,r,B,u,m⟩:=k;refine ⟨b,c.toList.drop e,p,?_,?_,?_,?_⟩
  ·rw [CJ];refine ⟨by simp [B],fun i t v D hv=>?_⟩;simp only [List.getElem?_map,List.getElem?_drop,Option.map_eq_some_iff] at D hv;obtain ⟨cell,h,rfl⟩:=D;obtain ⟨x,C,k⟩:=m (e+i) cell h;have:x=v:=by
    have:c.toList[e+i]?=some x:=by simpa using C
    rw [this] at hv; simpa using hv
   subst this;exact Ri z k
  ·rw [CO];intro t D;simp only [List.mem_map] at D;obtain ⟨cell,h,rfl⟩:=D;exact E cell (List.mem_of_mem_drop h)
  ·intro x C;obtain ⟨i,hi,rfl⟩:=List.getElem_of_mem C;rw [List.getElem_drop];have H:e+i<c.size:=by simp at hi; omega
   have J:l[e+i]?=some (l[e+i]'(by omega)):=List.getElem?_eq_getElem (by omega);obtain ⟨x,C,k⟩:=m (e+i) _ J;have:c.toList[e+i]'(by simpa using H)=x:=by
    have:c[e+i]?=some c[e+i]:=Array.getElem?_eq_getElem H;rw [this] at C;simpa using C
   rw [this];exact Lb k
  ·intro j v hv;rw [List.getElem?_drop] at hv;rw [Addr.add_lit,cell_of_row w b (e+j) c T (0,0) r];simpa using hv
 cases y with
 | c t=>
  simp only [AJ.ev] at f;cases t <;> simp [BP] at f;subst f;have:=BJ z A (t:=.pt _) rfl;simp only [A3,TV.WF] at this;obtain ⟨⟨b,o,p,r⟩,B⟩:=this;obtain ⟨vs,u,I,m⟩:=Pq r;exact ⟨b,o,vs,p,u,B,I,m⟩
 | s n=>
  cases x <;> simp [AP] at A;subst A;rename_i n;simp only [AJ.ev] at f;cases g:O.get n with
  | tv t=>
   rw [g] at f;cases t <;> simp [BP] at f;subst f;have k:=A5 z g (by simp);have E:=z.wf n;rw [g] at E;simp only [AT,A3] at k;obtain ⟨b,o,p,r⟩:=k;obtain ⟨vs,u,I,m⟩:=Pq r;exact ⟨b,o,vs,p,u,by simpa [EV.WF,TV.WF] using E,I,m⟩
  | bx l=>
   rw [g] at f;simp only [BP,zzY] at f;subst f;obtain ⟨b,vs,p,r,B,L,u⟩:=box n 0 l g;exact ⟨b,0,vs,p,by simpa using r,by simpa using B,L,u⟩
  | bp q e=>
   rw [g] at f;simp only [BP] at f;split at f
   ·rename_i l N;simp only [zzY] at f;subst f;obtain ⟨b,vs,p,r,B,L,u⟩:=box q e l N;have k:=A5 z g (by simp);simp only [AT] at k;obtain ⟨Q,m,I⟩:=k ⟨l,N⟩;rw [p] at m;simp only [Value.pointer.injEq,zzY,Addr.mk.injEq,and_true,and_self] at m;subst m;exact ⟨b,e,vs,I,r,B,L,u⟩
   ·cases f
  | undef=>rw [g] at f; simp [BP] at f
  | sk=>rw [g] at f; simp [BP] at f
  | xo n es=>rw [g] at f; simp [BP] at f
  | la q i=>rw [g] at f; simp [BP] at f
  | oag cs=>rw [g] at f; simp [BP] at f
  | lp q i c=>rw [g] at f; simp [BP] at f
  | ow t=>rw [g] at f; simp [BP] at f
  | tp R=>rw [g] at f; simp [BP] at f
theorem fB (g:AU F0 w0 O a w G) (k:d<a.tmps.size) {x:Operand} {y:AJ} {t:TypeId} (c:o.op=.load t x) (e:AP x y=true) (l:DQ P t=some false) (h:(AH.ld y).wp S O (some d) K):BU P F0 w0 a w o d K:=by
 simp only [AH.wp] at h;cases f:BP O (y.ev O) with
 | none=>rw [f] at h; exact h.elim
 | some cs=>
  rw [f] at h;simp only [A7] at h;obtain ⟨b,m,vs,n,j,p,_,q⟩:=OD g e f;cases cs with
  | nil=>simp [Hp] at h
  | cons u r=>
   simp only [Hp] at h;replace h:=h.2;simp only [AQ] at j;obtain ⟨v,z,rfl,s,A⟩:=j;have i:=q 0 v rfl;rw [Addr.add_zero'] at i;refine DS g k (v:=v) ?_ s p.1 h;simp [execOp,c,n,Instr.loadAt,Instr.sureAddr,loadVar,FE l,i]
theorem Vu (r:AU F0 w0 O a w G) (u:d<a.tmps.size) {x:Operand} {y:AJ} {t:TypeId} {n:Nat} (e:o.op=.load t x) (f:AP x y=true) (g:DQ P t=some true) (z:E4 P t=some n) (h:(AH.lda y n).wp S O (some d) K):BU P F0 w0 a w o d K:=by
 simp only [AH.wp] at h;cases l:BP O (y.ev O) with
 | none=>rw [l] at h; exact h.elim
 | some cs=>
  rw [l] at h;simp only [A7] at h;obtain ⟨b,m,vs,C,p,s,q,D⟩:=OD r f l;have B:=CB p;have c:=run_loadCells_list (P:=P) w ⟨b,m,none⟩ (vs.take n) (fun j v hv=>D j v (by rw [List.getElem?_take] at hv; split at hv <;> simp_all));rw [d5,Nat.min_eq_left (by omega)] at c;refine DS r u (v:=.agg (vs.take n).toArray) (t:=.agg (cs.take n)) ?_ ?_ ?_ h.2
  ·simp [execOp,e,C,Instr.loadAt,Instr.sureAddr,loadVar,FE g,DX z,c]
  ·simp only [A3];refine ⟨_,rfl,?_,by rw [List.all_eq_true]; exact fun x A=>q x (List.mem_of_mem_take A)⟩;rw [CJ] at p ⊢;refine ⟨by simp [B],fun i t v hi hv=>?_⟩;simp only [List.getElem?_take] at hi hv;split at hi
   ·rename_i k;rw [d1 k] at hv;exact p.2 i t v hi hv
   ·cases hi
  ·simp only [TV.WF];rw [CO] at s ⊢;exact fun t g=>s t (List.mem_of_mem_take g)
theorem bf (c:AU F0 w0 O a w G) (s:d<a.tmps.size) {x i:Operand} {y j:AJ} {t:TypeId} {n:Nat} (f:o.op=.indexAddr t x i) (g:AP x y=true) (b:AP i j=true) (u:Ku P t=some n) (h:(AH.iad y j n).wp S O (some d) K):BU P F0 w0 a w o d K:=by
 simp only [AH.wp] at h;split at h
 ·rename_i m es k H z A;obtain ⟨rfl,B,e,r,C⟩:=h;have l:=BJ c g z;have q:=BJ c b A;simp only [A3] at q;obtain ⟨p,D,E⟩:=X7 (P:=P) (k:=k) u l.1 B r;refine DS c s (v:=p) (by simp [execOp,f,q.1,D]) E ?_ C;simp only [TV.WF] at l ⊢;have:=CO.1 l.2.2 e (List.mem_of_getElem? r);exact J0 this
 ·exact h.elim
theorem Zp (e:AU F0 w0 O a w G) (n:d<a.tmps.size) {x i:Operand} {y j:AJ} {t:TypeId} (f:o.op=.index t x i) (g:AP x y=true) (c:AP i j=true) (p:P.underlying t=some .string) (h:(AH.sidx y j).wp S O (some d) K):BU P F0 w0 a w o d K:=by
 simp only [AH.wp] at h;split at h
 ·rename_i s k B q r;obtain ⟨u,b,z,A⟩:=h;have l:=BJ e g q;have m:=BJ e c r;simp only [A3] at l m;refine DS e n (v:=.int .u8 b.toNat) (t:=.int .u8 b.toNat) ?_ rfl ⟨by simp [IntKind.min,IntKind.signed],?_⟩ A
  ·simp [execOp,f,l.1,m.1,Instr.index,asIntOf,run_underlying p,u,z]
  ·have:=b.toNat_lt;simp [IntKind.max,IntKind.signed,IntKind.bits]; omega
 ·exact h.elim
theorem Wj {x:Operand} {t:TypeId} {f k:Nat} (e:o.op=.fieldAddr t x f) (g:Nw P t f=some k):∀ b c,a.eval x=.pointer (some ⟨b,c,none⟩)->(execOp a.eval o).run P w=.ok (.value (.pointer (some ⟨b,c+k,none⟩))) w:=by
 intro b c h;simp [execOp,e,h,Q4 g]
theorem Ni {x:Operand} (c:o.op=.move x∨o.op=.assign x∨o.op=.nilCheck x):∀ b e,a.eval x=.pointer (some ⟨b,e,none⟩)->(execOp a.eval o).run P w=.ok (.value (.pointer (some ⟨b,e+0,none⟩))) w:=by
 intro b e h;rcases c with c | c | c <;> simp [execOp,c,h]
theorem Pu (m:AU F0 w0 O a w G) (r:d<a.tmps.size) {x:Operand} {y:AJ} {k:Nat} (f:∀ b e,a.eval x=.pointer (some ⟨b,e,none⟩)->(execOp a.eval o).run P w=.ok (.value (.pointer (some ⟨b,e+k,none⟩))) w) (g:AP x y=true) (h:(AH.fad y k).wp S O (some d) K):BU P F0 w0 a w o d K:=by
 simp only [AH.wp] at h;split at h
 ·rename_i row j;have u:=Sj m g j;simp only [A3,TV.WF] at u;obtain ⟨⟨b,e,D,E⟩,A⟩:=u;refine DS m r (v:=.pointer (some ⟨b,e+k,none⟩)) (t:=.pt (row.drop k)) (f _ _ D) ?_ ?_ h
  ·simp only [A3];exact ⟨b,_,rfl,M1 E k⟩
  ·simp only [TV.WF];rw [CO] at A ⊢;exact fun t B=>A t (List.mem_of_mem_drop B)
 ·rename_i q e j;cases y with
  | c t=>simp [AJ.ev] at j
  | s n=>
   cases x <;> simp [AP] at g;subst g;rename_i n;simp only [AJ.ev] at j;have z:=A5 m j (by simp);simp only [AT] at z;split at h
   ·rename_i p C;obtain ⟨b,H,I⟩:=z ⟨p,C⟩;refine ⟨.pointer (some ⟨b,e+k,none⟩),w,f _ _ I,_,_,h,_,m.quiet (Below.refl _ _) d r (.bp q (e+k)) _ (fun _=>none) (by simp) (by simp) (by simp) ?_ trivial⟩;simp only [AT];rintro ⟨cs,i⟩;rw [AC.get_cons] at i;by_cases l:d=q
    ·rw [d1 l] at i; cases i
    ·exact ⟨b,by rw [BE _ _ _ _ l]; exact H,rfl⟩
   ·exact h.elim
 ·exact h.elim
theorem N6 (l:AU F0 w0 O a w G) (n:d<a.tmps.size) {s:Nat} {k:Nat} (f:∀ b e,a.eval (.tmp s)=.pointer (some ⟨b,e,none⟩)->(execOp a.eval o).run P w=.ok (.value (.pointer (some ⟨b,e+k,none⟩))) w) (h:(AH.bad s k).wp S O (some d) K):BU P F0 w0 a w o d K:=by
 simp only [AH.wp] at h;split at h
 ·rename_i cs m;have p:=A5 l m (by simp);simp only [AT] at p;obtain ⟨b,c,T,j,_⟩:=p;refine ⟨.pointer (some ⟨b,0+k,none⟩),w,f _ _ j,_,_,h,_,l.quiet (Below.refl _ _) d n (.bp s k) _ (fun _=>none) (by simp) (by simp) (by simp) ?_ trivial⟩;simp only [AT];rintro ⟨cs',g⟩;rw [AC.get_cons] at g;by_cases i:d=s
  ·rw [d1 i] at g; cases g
  ·exact ⟨b,by rw [BE _ _ _ _ i]; exact j,by simp⟩
 ·rename_i row m;have j:=Sj l (x:=.tmp s) (y:=.s s) (by simp [AP]) m;simp only [A3,TV.WF] at j;obtain ⟨⟨b,e,u,z⟩,q⟩:=j;refine DS l n (v:=.pointer (some ⟨b,e+k,none⟩)) (t:=.pt (row.drop k)) (f _ _ u) ?_ ?_ h
  ·simp only [A3];exact ⟨b,_,rfl,M1 z k⟩
  ·simp only [TV.WF];rw [CO] at q ⊢;exact fun t r=>q t (List.mem_of_mem_drop r)
 ·exact h.elim
theorem bT (m:AU F0 w0 O a w G) (B:d<a.tmps.size) {x i:Operand} {y j:AJ} {t e:TypeId} {n k:Nat} (p:o.op=.indexAddr t x i) (q:AP x y=true) (f:AP i j=true) (r:P.underlying t=some (.array k e)) (C:E4 P e=some n)
  (h:(AH.aad y j n k).wp S O (some d) K):BU P F0 w0 a w o d K:=by
 simp only [AH.wp] at h;split at h
 ·rename_i row M g D s;obtain ⟨H,u,z,I⟩:=h;have l:=(BJ m f s).1;simp only [A3] at l;have E:∃ b c,a.eval x=.pointer (some ⟨b,c,none⟩)∧EA w (AZ w0.heap.size F0 G) row b c∧TV.WFs row:=by
   have:=Sj m q D;simp only [A3,TV.WF] at this;obtain ⟨⟨b,o,u,z⟩,l⟩:=this;exact ⟨b,o,u,z,l⟩
  obtain ⟨b,c,J,L,A⟩:=E;have s:0<=g∧g<(k:Int):=⟨H,u⟩;refine DS m B (v:=.pointer (some ⟨b,c+g.toNat*n,none⟩)) (t:=.pt (row.drop (g.toNat*n))) ?_ ?_ ?_ I
  ·simp [execOp,p,l,J,Instr.indexAt,asIntOf,run_underlying r,s,Instr.sureAddr,DX C,Addr.add_lit]
  ·simp only [A3];exact ⟨b,_,rfl,M1 L _⟩
  ·simp only [TV.WF];rw [CO] at A ⊢;exact fun t r=>A t (List.mem_of_mem_drop r)
 ·exact h.elim
def Xp (P:Program) (t:TypeId) (j:Operand) (k:Nat):Bool:=
 match j,P.underlying t with
 | .const (.int _ i),some (.array m e)=>decide (0<=i)&&decide (i<(m:Int))&&(match E4 P e with
  | some n=>i.toNat*n==k
  | none=>false)
 | _,_=>false
theorem dJ {P:Program} {o:Oper} {a:Act} {w:World} {t:TypeId} {s:Nat} {j:Operand} {k:Nat} (l:o.op=.indexAddr t (.tmp s) j) (c:Xp P t j k=true) (b f:Nat) (h:a.eval (.tmp s)=.pointer (some ⟨b,f,none⟩)):(execOp a.eval o).run P w=.ok (.value (.pointer (some ⟨b,f+k,none⟩))) w:=by
 unfold Xp at c;split at c
 ·rename_i p i m e q;simp only [zzZ,zzX] at c;obtain ⟨⟨x,y⟩,g⟩:=c;split at g
  ·rename_i n r;simp only [beq_iff_eq] at g;subst g;have u:0<=i∧i<(m:Int):=⟨x,y⟩;have v:a.eval (.const (.int p i))=.int p i:=rfl;simp [execOp,l,h,v,Instr.indexAt,asIntOf,run_underlying q,u,Instr.sureAddr,DX r,Addr.add_lit]
  ·cases g
 ·cases c
def Qp (g:TypeId->Option ci) (P:Program):List Field->Nat->Option ci
 | [],_=>some []
 | f::fs,off=>match g f.type with
  | some ks => if (f.name ≠ "_" ∧ f.offset = off) ∧ E4 P f.type = some ks.length then (match Qp g P fs (off + ks.length) with | some r => some (ks ++ r) | none => none) else none
  | none=>none
def NZ (P:Program):Nat->TypeId->Option ci
 | 0,_=>none
 | k+1,t=>match P.underlying t with
  | some (.int _)=>some [0]
  | some .string=>some [1]
  | some .bool=>some [2]
  | some (.struct fs)=>if P.stoodInHeld t then none else Qp (NZ P k) P fs.toList 0
  | _=>none
def Pc (P:Program):BK->TypeId->Bool
 | .i,_=>true
 | .s,_=>true
 | .w,_=>true
 | .b,t=>match P.underlying t with | some .bool=>true | _=>false
 | .a n,t=>DQ P t==some true&&!P.eqGuardType P.depth t&&NZ P 8 t==some n
def TV.leafV:TV->Value
 | .int k n=>.int k n
 | .str s=>.string s
 | .bool b=>.bool b
 | _=>Go.undef
def TV.leafB:TV->Bool
 | .int _ _=>true
 | .str _=>true
 | .bool _=>true
 | _=>false
theorem Og:∀ {cs b:QQ} {r:Bool},CQ cs b=some r->cs.length=b.length∧(∀ t∈cs,t.leafB=true)∧(∀ t∈b,t.leafB=true)
 | [],[],_,_=>by simp
 | [],_::_,_,h=>by simp [CQ] at h
 | c::cs,[],_,h=>by cases c <;> simp [CQ] at h
 | c::cs,d::b,r,h=>by
  have key:∀ g,CQ cs b=some g->c.leafB=true->d.leafB=true->(c::cs).length=(d::b).length∧(∀ t∈c::cs,t.leafB=true)∧(∀ t∈d::b,t.leafB=true):=by
   intro g e i j;obtain ⟨k,l,m⟩:=Og e;refine ⟨by simp [k],?_,?_⟩
   ·intro t f;rcases List.mem_cons.1 f with rfl | f
    ·exact i
    ·exact l t f
   ·intro t f;rcases List.mem_cons.1 f with rfl | f
    ·exact j
    ·exact m t f
  cases c <;> cases d <;> simp only [CQ,reduceCtorEq] at h
  ·split at h
   ·split at h
    ·rename_i q e; exact key q e rfl rfl
    ·cases h
   ·cases h
  ·split at h
   ·rename_i q e; exact key q e rfl rfl
   ·cases h
  ·split at h
   ·rename_i q e; exact key q e rfl rfl
   ·cases h
theorem bF {F:Nat->Nat->Prop} {t:TV} {v:Value} (b:t.leafB=true) (h:A3 w F t v):v=t.leafV:=by
 cases t <;> simp only [TV.leafB,reduceCtorEq] at b <;> exact h
theorem Oh {F:Nat->Nat->Prop}:∀ {cs:QQ} {xs:List Value},(∀ t∈cs,t.leafB=true)->AQ w F cs xs->xs=cs.map TV.leafV
 | [],_,_,h=>h
 | c::cs,xs,b,h=>by
  simp only [AQ] at h;obtain ⟨v,r,rfl,f,g⟩:=h;rw [bF (b c (by simp)) f,Oh (fun t e=>b t (by simp [e])) g];rfl
theorem MA:∀ (m:Nat) {cs e:QQ} {r:Bool},CQ cs e=some r->∃ f b,CQ (cs.take m) (e.take m)=some f∧CQ (cs.drop m) (e.drop m)=some b∧r=(f&&b)
 | 0,cs,e,r,h=>⟨true,r,by simp [CQ],by simpa using h,by simp⟩
 | m+1,[],[],r,h=>by
  simp only [CQ,zzY] at h;subst h;exact ⟨true,true,by simp [CQ],by simp [CQ],rfl⟩
 | m+1,[],_::_,_,h=>by simp [CQ] at h
 | m+1,c::cs,[],_,h=>by cases c <;> simp [CQ] at h
 | m+1,c::cs,d::e,r,h=>by
  cases c <;> cases d <;> simp only [CQ,reduceCtorEq] at h
  ·split at h
   ·rename_i l;split at h
    ·rename_i q g;obtain ⟨f,b,i,j,k⟩:=MA m g;simp only [zzY] at h;refine ⟨_,b,by simp only [List.take_succ_cons,CQ,d1 l,i]; rfl,by simpa using j,by rw [←h,k,Bool.and_assoc]⟩
    ·cases h
   ·cases h
  ·split at h
   ·rename_i q g;obtain ⟨f,b,i,j,k⟩:=MA m g;simp only [zzY] at h;refine ⟨_,b,by simp only [List.take_succ_cons,CQ,i]; rfl,by simpa using j,by rw [←h,k,Bool.and_assoc]⟩
   ·cases h
  ·split at h
   ·rename_i q g;obtain ⟨f,b,i,j,k⟩:=MA m g;simp only [zzY] at h;refine ⟨_,b,by simp only [List.take_succ_cons,CQ,i]; rfl,by simpa using j,by rw [←h,k,Bool.and_assoc]⟩
   ·cases h
def K1 (P:Program) (t:TypeId) (vs:List Value):Value:=if DQ P t=some true then .agg vs.toArray else vs.headD Go.undef
theorem OI:∀ {cs e:QQ} {r:Bool},CQ cs e=some r->e.map TV.kd=cs.map TV.kd
 | [],[],_,_=>rfl
 | [],_::_,_,h=>by simp [CQ] at h
 | c::cs,[],_,h=>by cases c <;> simp [CQ] at h
 | c::cs,d::e,r,h=>by
  cases c <;> cases d <;> simp only [CQ,reduceCtorEq] at h
  ·split at h
   ·split at h
    ·rename_i q b; simp only [List.map_cons,OI b,TV.kd]
    ·cases h
   ·cases h
  ·split at h
   ·rename_i q b; simp only [List.map_cons,OI b,TV.kd]
   ·cases h
  ·split at h
   ·rename_i q b; simp only [List.map_cons,OI b,TV.kd]
   ·cases h
theorem Te (k:Nat) (L:∀ (t:TypeId) (n:ci),NZ P k t=some n->∀ d,k<=d->∀ (cs l:QQ) (r:Bool),cs.map TV.kd=n->CQ cs l=some r->(Op.equalIn d t (K1 P t (cs.map TV.leafV)) (K1 P t (l.map TV.leafV))).run P w=.ok r w) :
  ∀ (z:List Field) (j:Nat) (n:ci),Qp (NZ P k) P z j=some n->∀ d,k<=d->∀ (e i:List Value) (cs l:QQ) (r:Bool),e.length=j->i.length=j->cs.map TV.kd=n->CQ cs l=some r ->
   (Op.eqFields d (e++cs.map TV.leafV).toArray (i++l.map TV.leafV).toArray z).run P w=.ok r w
 | [],j,n,p,d,J,e,i,cs,l,r,T,U,y,h=>by
  simp only [Qp,zzY] at p;subst p;have:cs=[]:=List.map_eq_nil_iff.1 y;subst this;cases l <;> simp [CQ] at h;subst h;simp [Op.eqFields]
 | f::z,j,n,p,d,J,e,i,cs,l,r,T,U,y,h=>by
  simp only [Qp] at p;split at p
  ·rename_i g q;split at p
   ·rename_i V;split at p
    ·rename_i rest x;simp only [zzY] at p;subst p;obtain ⟨⟨hn,ho⟩,H⟩:=V;have W:cs.length=g.length+rest.length:=by
      have:=congrArg List.length y;simpa using this
     obtain ⟨R,r2,e1,e2,rfl⟩:=MA g.length h;have Q:=(Og h).1;have X:l.length=g.length+rest.length:=by omega
     have D:(cs.take g.length).map TV.kd=g:=by rw [List.map_take,y,List.take_left']; rfl
     have E:(cs.drop g.length).map TV.kd=rest:=by rw [List.map_drop,y,List.drop_left']; rfl
     have hi:=L f.type g q d J (cs.take g.length) (l.take g.length) R D e1;have v:=Te k L z (j+g.length) rest x d J (e++(cs.take g.length).map TV.leafV) (i++(l.take g.length).map TV.leafV) (cs.drop g.length) (l.drop g.length) r2 (by simp; omega) (by simp; omega) E e2;have s:∀ (e:List Value) (cs:QQ),e++(cs.take g.length).map TV.leafV++(cs.drop g.length).map TV.leafV=e++cs.map TV.leafV:=by
      intro e cs;rw [ea,←List.map_append,List.take_append_drop]
     rw [s,s] at v;have u:∀ (e:List Value) (cs:QQ),e.length=j->g.length<=cs.length->(0<g.length∨DQ P f.type=some true)->(∃ b,DQ P f.type=some b)->(part f.type (e++cs.map TV.leafV).toArray f.offset).run P w=.ok (K1 P f.type ((cs.take g.length).map TV.leafV)) w:=by
      intro e cs N B C m;obtain ⟨b,m⟩:=m;cases b with
      | true=>
       simp only [part,Sem.run_bind,FE m,Result.andThen_ok,if_true,DX H,Sem.run_pure,K1,m];congr 2;rw [List.extract_toArray,List.extract_eq_take_drop,ho,←N,List.drop_left,Nat.add_sub_cancel_left,←List.map_take]
      | false=>
       have Y:0<g.length:=by
        rcases C with h | h
        ·exact h
        ·rw [m] at h; cases h
       cases cs with
       | nil=>exact absurd (Nat.lt_of_lt_of_le Y B) (by simp)
       | cons c cs=>
        obtain ⟨M,I⟩:∃ M,g.length=M+1:=⟨g.length - 1,by omega⟩;have:((e++(c::cs).map TV.leafV).toArray)[f.offset]?=some c.leafV:=by
         rw [List.getElem?_toArray,ho,←N,List.getElem?_append_right (d3 _),Nat.sub_self]; rfl
        simp only [part,Sem.run_bind,FE m,Result.andThen_ok,Bool.false_eq_true,if_false,this,Sem.run_pure,K1,m,I];simp
     have m:(∃ b,DQ P f.type=some b)∧(0<g.length∨DQ P f.type=some true):=by
      cases k with
      | zero=>simp [NZ] at q
      | succ k=>
       simp only [NZ] at q;unfold DQ;split at q <;> rename_i A
       ·simp only [zzY] at q; subst q; rw [A]; exact ⟨⟨_,rfl⟩,.inl (by simp)⟩
       ·simp only [zzY] at q; subst q; rw [A]; exact ⟨⟨_,rfl⟩,.inl (by simp)⟩
       ·simp only [zzY] at q; subst q; rw [A]; exact ⟨⟨_,rfl⟩,.inl (by simp)⟩
       ·rw [A]; exact ⟨⟨_,rfl⟩,.inr rfl⟩
       ·cases q
     have Z:=u e cs T (by omega) m.2 m.1;have p2:=u i l U (by omega) m.2 m.1;simp only [Op.eqFields,Sem.run_bind,Sem.run_ite,d1 hn,Z,p2,hi,Result.andThen_ok];cases R with
     | true=>simpa using v
     | false=>simp
    ·cases p
   ·cases p
  ·cases p
theorem Yi (a b:ByteArray):(a.toList==b.toList)=decide (a=b):=by
 rw [Bool.eq_iff_iff,beq_iff_eq,zzX];refine ⟨fun h=>?_,fun h=>by rw [h]⟩;rw [ByteArray.toList_eq,ByteArray.toList_eq] at h;cases a; cases b;simpa using h
theorem Wh:∀ (k:Nat) (t:TypeId) (n:ci),NZ P k t=some n->∀ d,k<=d->∀ (cs g:QQ) (r:Bool),cs.map TV.kd=n->CQ cs g=some r->(Op.equalIn d t (K1 P t (cs.map TV.leafV)) (K1 P t (g.map TV.leafV))).run P w=.ok r w
 | 0,_,_,h,_,_,_,_,_,_,_=>by simp [NZ] at h
 | k+1,t,n,b,d,H,cs,g,r,y,h=>by
  obtain ⟨d,rfl⟩:∃ B,d=B+1:=⟨d - 1,by omega⟩;have u:=OI h;simp only [NZ] at b;have one:∀ x,n=[x]->DQ P t=some false->∃ c e,cs=[c]∧g=[e]∧c.kd=x∧e.kd=x∧K1 P t (cs.map TV.leafV)=c.leafV∧K1 P t (g.map TV.leafV)=e.leafV:=by
   intro x C z;rw [C] at y
   match cs,g,y,u with
   | [c],[e],i,j=>
    simp only [List.map_cons,List.map_nil,List.cons.injEq,and_true] at i j;exact ⟨c,e,rfl,rfl,i,by rw [j,i],by simp [K1,z],by simp [K1,z]⟩
   | [],_,i,_=>simp at i
   | [c],[],_,j=>simp at j
   | [c],_::_::_,_,j=>simp at j
   | _::_::_,_,i,_=>simp at i
  split at b <;> rename_i f
  ·simp only [zzY] at b;obtain ⟨c,e,rfl,rfl,m,p,q,s⟩:=one 0 b.symm (by simp [DQ,f]);rw [q,s];cases c <;> first | (simp [TV.kd] at m; done) | skip
   cases e <;> first | (simp [TV.kd] at p; done) | skip
   simp only [CQ] at h;split at h
   ·rename_i D;subst D;simp only [zzY,Bool.and_true] at h;simp only [TV.leafV];rw [run_equalIn_int (P:=P) w d t _ _ _ _ f,←h];congr 1
   ·cases h
  ·simp only [zzY] at b;obtain ⟨c,e,rfl,rfl,m,p,q,s⟩:=one 1 b.symm (by simp [DQ,f]);rw [q,s];cases c <;> first | (simp [TV.kd] at m; done) | skip
   cases e <;> first | (simp [TV.kd] at p; done) | skip
   simp only [CQ,zzY,Bool.and_true] at h;simp only [TV.leafV];rw [run_equalIn_string (P:=P) w d t _ _ f,←h];congr 1;exact Yi _ _
  ·simp only [zzY] at b;obtain ⟨c,e,rfl,rfl,m,p,q,s⟩:=one 2 b.symm (by simp [DQ,f]);rw [q,s];cases c <;> first | (simp [TV.kd] at m; done) | skip
   cases e <;> first | (simp [TV.kd] at p; done) | skip
   simp only [CQ,zzY,Bool.and_true] at h;simp only [TV.leafV];rw [run_equalIn_bool' (P:=P) w d t _ _ f,←h];congr 1
  ·split at b
   ·cases b
   ·rename_i A E;have v:DQ P t=some true:=by simp [DQ,f]
    have l:P.fieldsOf t=A:=by simp [Program.fieldsOf,f]
    simp only [K1,v,if_true];rw [run_equalIn_struct w d t _ _ (by rw [l]; exact f) (by simpa using E),l];exact Te k (Wh k) A.toList 0 n b d (by omega) [] [] cs g r rfl rfl y h
  ·cases b
theorem Vq {op:BinOp} {t:TypeId} {x y:Operand} {k l:Value} {cs f:QQ} {q:Bool} {n:ci} (u:cs.map TV.kd=n) {F:Nat->Nat->Prop} (m:Pc P (.a n) t=true) (c:A3 w F (.agg cs) k) (e:A3 w F (.agg f) l) (p:CQ cs f=some q) :
  ∃ xs b,k=.agg xs∧l=.agg b∧(eqGuard op t x y (.agg xs) (.agg b)).run P w=.ok () w∧(Op.equalIn 10000 t (.agg xs) (.agg b)).run P w=.ok q w:=by
 simp only [A3] at c e;obtain ⟨xs,rfl,c,_⟩:=c;obtain ⟨b,rfl,e,_⟩:=e;simp only [Pc,zzZ,Bool.not_eq_true'] at m;obtain ⟨⟨r,v⟩,s⟩:=m;obtain ⟨z,i,j⟩:=Og p;refine ⟨xs,b,rfl,rfl,run_eqGuard_agg w op t x y xs b v,?_⟩;simp only [beq_iff_eq] at r s;have g:=Oh i c;have h:=Oh j e;have:=Wh (P:=P) (w:=w) 8 t n s 10000 (by omega) cs f q u p;simp only [K1,r,if_true,←g,←h] at this;simpa using this
theorem eY {op:BinOp} {t:TypeId} {x y:Operand} {k g:IntKind} {a b r:Int} {F:Nat->Nat->Prop} (i:k=g∨op=.shl∨op=.shr) (f:LC k op a b=some r) :
  ∃ v,(do eqGuard op t x y (.int k a) (.int g b); binOp op t (.int k a) (.int g b):Sem Value).run P w=.ok v w∧A3 w F (.int k r) v∧(TV.int k r).WF:=by
 have c:∀ (op:BinOp) (q:Value),k=g->(op=.and∨op=.or∨op=.xor∨op=.andNot)->(Op.intBits op k a b).run P w=.ok q w->(do eqGuard op t x y (.int k a) (.int g b); binOp op t (.int k a) (.int g b):Sem Value).run P w=.ok q w:=by
  intro op q e ho h;subst e;rcases ho with rfl | rfl | rfl | rfl <;> simpa [eqGuard,binOp] using h
 cases op <;> simp only [LC] at f <;> try (cases f; done)
 case and=>cases f; exact ⟨_,c _ _ (by simpa using i) (by simp) rfl,rfl,K3 _ _⟩
 case or=>cases f; exact ⟨_,c _ _ (by simpa using i) (by simp) rfl,rfl,K3 _ _⟩
 case xor=>cases f; exact ⟨_,c _ _ (by simpa using i) (by simp) rfl,rfl,K3 _ _⟩
 case andNot=>cases f; exact ⟨_,c _ _ (by simpa using i) (by simp) rfl,rfl,K3 _ _⟩
 case shl=>
  split at f
  ·rename_i j;cases f;exact ⟨_,by simp [eqGuard,binOp,Op.shift,Int.not_lt.2 j],rfl,K3 _ _⟩
  ·cases f
 case shr=>
  split at f
  ·rename_i j;cases f;exact ⟨_,by simp [eqGuard,binOp,Op.shift,Int.not_lt.2 j.1],rfl,j.2⟩
  ·cases f
theorem eX {k:BK} {op:BinOp} {t:TypeId} {x y:Operand} {u z:Value} {A ty r:TV} {F:Nat->Nat->Prop} (g:Pc P k t=true) (c:FQ k op A ty=some r) (e:A3 w F A u) (f:A3 w F ty z) (B:A.WF) (I:ty.WF) :
  ∃ v,(do eqGuard op t x y u z; binOp op t u z:Sem Value).run P w=.ok v w∧A3 w F r v∧r.WF:=by
 unfold FQ at c;split at c
 ·rename_i k a J b;simp only [A3] at e f;subst e; subst f;split at c
  ·rename_i i;subst i;rw [Sem.run_bind,eqGuard_at_int,Sem.run_pure,Result.andThen_ok];have n:op=.quo∨op=.rem∨(op≠.quo∧op≠.rem):=by cases op <;> simp
   rcases n with rfl | rfl | ⟨j,T⟩
   ·by_cases l:b=0
    ·simp [intCmp,intArith,l] at c
    ·simp [intCmp,intArith,l] at c;subst c;exact ⟨_,by simp [binOp,Op.intDiv,l],rfl,K3 _ _⟩
   ·by_cases l:b=0
    ·simp [intCmp,intArith,l] at c
    ·simp [intCmp,intArith,l] at c;subst c;refine ⟨_,by simp [binOp,Op.intDiv,l],rfl,?_⟩;simp only [TV.WF] at B ⊢;have p:a.tmod b<=max a 0∧min a 0<=a.tmod b:=by
      have s:=Int.natAbs_tmod a b;have V:=Nat.mod_le a.natAbs b.natAbs;rcases Int.le_total 0 a with h | h
      ·have H:=Int.tmod_nonneg (a:=a) b h; omega
      ·have H:=Int.tmod_nonneg (a:=-a) b (by omega);rw [Int.neg_tmod] at H; omega
     have W:k.min<=0:=by cases k <;> decide
     have X:0<=k.max:=by cases k <;> decide
     omega
   ·cases op <;> simp [intCmp,intArith] at c j T <;> subst c <;> (refine ⟨_,?_,rfl,?_⟩) <;> first | (simp [binOp,Op.intCmp,Op.intArith]; done) | exact trivial | exact K3 _ _ | skip
    all_goals (simp [binOp,Op.intCmp]; rw [Bool.eq_iff_iff]; simp)
  ·cases c
 ·rename_i op k a J b;simp only [A3] at e f;subst e; subst f;split at c
  ·rename_i i;split at c
   ·rename_i U j;simp only [zzY] at c;subst c;exact eY i j
   ·cases c
  ·cases c
 ·simp only [A3] at e f;subst e; subst f;simp only [zzY] at c;subst c;exact ⟨_,by simp [eqGuard,binOp,Op.stringOp,beq_toListBytes],rfl,trivial⟩
 ·simp only [A3] at e f;subst e; subst f;simp only [zzY] at c;subst c;exact ⟨_,by simp [eqGuard,binOp,Op.stringOp,beq_toListBytes],rfl,trivial⟩
 ·simp only [A3] at e f;subst e; subst f;rename_i L M;split at c
  ·rename_i m;simp only [zzY] at c;subst c;have D:¬ (((L.size+M.size:Nat):Int) > IntKind.i64.max):=by
    have Q:IntKind.i64.max=9223372036854775807:=by decide
    rw [Q];have:=m;unfold BY at this;omega
   refine ⟨_,by simp only [eqGuard,binOp,Op.stringOp]; rw [d2 D]; simp,rfl,by simp only [TV.WF,ByteArray.size_append]; exact Sb m⟩
  ·cases c
 ·simp only [A3] at e f;subst e; subst f;simp only [zzY] at c;subst c;have E:P.underlying t=some .bool:=by
   simp only [Pc] at g;split at g
   ·assumption
   ·cases g
  exact ⟨_,by simp [eqGuard_at_bool,binOp,Op.equal,Op.maxDepth,run_equalIn_bool' (P:=P) w _ t _ _ E],rfl,trivial⟩
 ·simp only [A3] at e f;subst e; subst f;simp only [zzY] at c;subst c;have E:P.underlying t=some .bool:=by
   simp only [Pc] at g;split at g
   ·assumption
   ·cases g
  exact ⟨_,by simp [eqGuard_at_bool,binOp,Op.equal,Op.maxDepth,run_equalIn_bool' (P:=P) w _ t _ _ E],rfl,trivial⟩
 ·rename_i cs N;split at c
  ·rename_i C;split at c
   ·rename_i q j;simp only [zzY] at c;subst c;obtain ⟨xs,R,rfl,rfl,p,s⟩:=Vq (op:=.eql) (x:=x) (y:=y) C g e f j;exact ⟨_,by simp only [Sem.run_bind,p,Result.andThen_ok,run_eql_struct,s],rfl,trivial⟩
   ·cases c
  ·cases c
 ·rename_i cs N;split at c
  ·rename_i C;split at c
   ·rename_i q j;simp only [zzY] at c;subst c;obtain ⟨xs,R,rfl,rfl,p,s⟩:=Vq (op:=.neq) (x:=x) (y:=y) C g e f j;exact ⟨_,by simp only [Sem.run_bind,p,Result.andThen_ok,run_neq_struct,s],rfl,trivial⟩
   ·cases c
  ·cases c
 ·cases c
theorem bW {S:FuncId->QQ->CM->Prop} {F0:Nat->Nat->Prop} {w0:W0} {O:AC} {a:Act} {G:DP} {d:Nat} {o:Oper} {K:EV->AC->Prop} (b:AU F0 w0 O a w G) (l:d<a.tmps.size) {x x':Operand} {y f:AJ} {k:BK} {op:BinOp} {t m:TypeId}
  (c:o.op=.binOp op t x x' m) (n:Pc P k t=true) (p:AP x y=true) (q:AP x' f=true) (h:(AH.bin k op y f).wp S O (some d) K):BU P F0 w0 a w o d K:=by
 simp only [AH.wp] at h;split at h
 ·rename_i s ty u z;cases e:FQ k op s ty with
  | none=>rw [e] at h; exact h.elim
  | some r=>
   rw [e] at h;have g:=BJ b p u;have i:=BJ b q z;obtain ⟨v,j,A,B⟩:=eX (x:=x) (y:=x') n e g.1 i.1 g.2 i.2;refine DS b l (v:=v) ?_ A B h;simp only [execOp,c,Sem.run_bind] at j ⊢;rw [j];rfl
 ·exact h.elim
end
end Go.Sf
namespace Go.Sf
open Go.RowKit (Below)
def MG:Option Operand->Option AJ->Bool
 | none,none=>true
 | some x,some y=>AP x y
 | _,_=>false
section
variable {P:Program} {S:FuncId->QQ->CM->Prop} {F0:Nat->Nat->Prop} {w0:W0} {O:AC} {a:Act} {w:World} {G:DP} {d:Nat} {o:Oper} {K:EV->AC->Prop}
theorem RC (c:AU F0 w0 O a w G) {x:Option Operand} {y:Option AJ} (b:MG x y=true) {k:IntKind} {q l:Int} (hv:GX O q y=some (.int k l)) :
  (x=none∧l=q)∨∃ v e,x=some v∧a.eval v=.int e l:=by
 cases y with
 | none=>
  cases x <;> simp [MG] at b;simp [GX] at hv;exact .inl ⟨rfl,hv.2.symm⟩
 | some y=>
  cases x <;> simp [MG] at b;rename_i v;have:=(BJ c b (t:=.int k l) hv).1;simp only [A3] at this;exact .inr ⟨v,k,rfl,this⟩
theorem Ps {isS:Bool} {len cap:Nat} {lo hi:Option Value} {l h:Int} (f:0<=l) (g:l<=h) (i:h<=len) (j:len<=cap)
  (b:(lo=none∧l=0)∨∃ k,lo=some (.int k l)) (c:(hi=none∧h=len)∨∃ k,hi=some (.int k h)) :
  (Instr.sliceBounds isS len cap lo hi none).run P w=.ok (l.toNat,h.toNat,cap) w:=by
 rcases b with ⟨rfl,rfl⟩ | ⟨k,rfl⟩ <;> rcases c with ⟨rfl,rfl⟩ | ⟨e,rfl⟩
 ·simp [Instr.sliceBounds]
 ·simp [Instr.sliceBounds,run_sliceBound (P:=P) w e h cap _ (by omega) (by omega)]
 ·simp [Instr.sliceBounds,run_sliceBound (P:=P) w k l len _ (by omega) (by omega)]
 ·simp [Instr.sliceBounds,run_sliceBound (P:=P) w e h cap _ (by omega) (by omega),run_sliceBound (P:=P) w k l h.toNat _ (by omega) (by omega)]
theorem br (B:AU F0 w0 O a w G) (N:d<a.tmps.size) {x:Operand} {y:AJ} {lo hi:Option Operand} {r s:Option AJ} {t:TypeId} {n:Nat} (D:o.op=.slice t x lo hi none) (E:AP x y=true) (Q:MG lo r=true) (R:MG hi s=true)
  (p:Ku P t=some n) (h:(AH.slc n y r s).wp S O (some d) K):BU P F0 w0 a w o d K:=by
 simp only [AH.wp] at h;split at h
 ·rename_i m es hv;split at h
  ·rename_i k1 l k2 u U V;obtain ⟨⟨hm,h0,h1⟩,h2,hK⟩:=h;subst hm;have I:=BJ B E hv;simp only [A3] at I;obtain ⟨⟨j,cap,h4,h5,L,h7⟩,M⟩:=I;have Y:=RC B Q U;have Z:=RC B R V;unfold Ku at p;split at p
   ·rename_i e W;have z:=Ps (P:=P) (w:=w) (isS:=true) (lo:=lo.map a.eval) (hi:=hi.map a.eval) h0 h1 h2 h5
     (by rcases Y with ⟨rfl,rfl⟩ | ⟨v,k',rfl,hv⟩ <;> simp [*]) (by rcases Z with ⟨rfl,rfl⟩ | ⟨v,k',rfl,hv⟩ <;> simp [*])
    refine DS B N (v:=.slice (if cap=l.toNat then j else j.map (·.add (l.toNat*m))) (u.toNat - l.toNat) (cap - l.toNat)) (t:=.list m ((es.take u.toNat).drop l.toNat)) ?_ ?_ ?_ hK
    ·simp [execOp,D,Instr.sliceAt,Instr.slice,run_underlying W,h4,z,DX p]
    ·simp only [A3];refine ⟨if cap=l.toNat then j else j.map (·.add (l.toNat*m)),cap - l.toNat,by simp; omega,by simp; omega,fun H=>?_,fun T c=>?_⟩
     ·have f:es=[]∨l.toNat=u.toNat:=by
       split at H
       ·exact .inl (L H)
       ·cases j with
        | none=>exact .inl (L rfl)
        | some j=>simp at H
      rcases f with rfl | f
      ·simp
      ·apply List.eq_nil_of_length_eq_zero; simp; omega
     ·by_cases J:cap=l.toNat
      ·have g:(es.take u.toNat).drop l.toNat=[]:=by apply List.eq_nil_of_length_eq_zero; simp; omega
       rw [d1 J] at c;rw [g];exact ⟨.inl rfl,trivial⟩
      ·rw [d2 J] at c;cases j with
       | none=>simp at c
       | some j=>
        simp only [Option.map_some,zzY] at c;subst c;obtain ⟨q,k⟩:=h7 j rfl;obtain ⟨b,A,sp⟩:=j;simp only at q k;by_cases f:es=[]
        ·have g:(es.take u.toNat).drop l.toNat=[]:=by rw [f]; simp
         rw [g];exact ⟨.inl rfl,trivial⟩
        have q:sp=none:=q.resolve_left f;subst q;rw [Addr.add_lit];refine ⟨.inr rfl,?_⟩;rw [OZ] at k ⊢;intro i X C;rw [List.getElem?_drop,List.getElem?_take] at C;split at C
        ·have:=k (l.toNat+i) X C
         rwa [show A+l.toNat*m+i*m=A+(l.toNat+i)*m from by rw [Nat.add_mul]; omega]
        ·cases C
    ·simp only [TV.WF] at M ⊢;refine ⟨by simp; omega,?_⟩;have q:=CO.1 M.2;exact CO.2 fun t p=>q t (List.mem_of_mem_take (List.mem_of_mem_drop p))
   ·cases p
  ·exact h.elim
 ·exact h.elim
theorem Zr (f:AU F0 w0 O a w G) (m:d<a.tmps.size) {x:Operand} {y:AJ} {lo hi:Option Operand} {b c:Option AJ} {t:TypeId} (g:o.op=.slice t x lo hi none) (i:AP x y=true) (n:MG lo b=true) (p:MG hi c=true)
  (q:P.underlying t=some .string) (h:(AH.sslc y b c).wp S O (some d) K):BU P F0 w0 a w o d K:=by
 simp only [AH.wp] at h;split at h
 ·rename_i s hv;split at h
  ·rename_i I l J k r u;obtain ⟨B,C,D,E⟩:=h;have j:=BJ f i hv;simp only [A3] at j;have z:=RC f n r;have A:=RC f p u;have e:=Ps (P:=P) (w:=w) (isS:=false) (lo:=lo.map a.eval) (hi:=hi.map a.eval) B C D (d3 _)
     (by rcases z with ⟨rfl,rfl⟩ | ⟨v,H,rfl,hv⟩ <;> simp [*]) (by rcases A with ⟨rfl,rfl⟩ | ⟨v,H,rfl,hv⟩ <;> simp [*])
   refine DS f m (v:=.string (s.extract l.toNat k.toNat)) (t:=.str (s.extract l.toNat k.toNat)) ?_ rfl ?_ E
   ·simp [execOp,g,Instr.sliceAt,Instr.slice,run_underlying q,j.1,e]
   ·have:=j.2;simp only [TV.WF,ByteArray.size_extract] at this ⊢;omega
  ·exact h.elim
 ·exact h.elim
theorem XB (c:AU F0 w0 O a w G) (i:d<a.tmps.size) {x x':Operand} {y g:AJ} {mx:Bool} {j:Array TypeId}
  (b:o.op=.call { callee:=.builtin (match mx with | true=>.max | false=>.min),args:=#[x,x'],argTypes:=j })
  (l:AP x y=true) (m:AP x' g=true) (h:(AH.mm mx y g).wp S O (some d) K):BU P F0 w0 a w o d K:=by
 simp only [AH.wp] at h;split at h
 ·rename_i k p u q n r;obtain ⟨rfl,s⟩:=h;have e:=BJ c l n;have f:=BJ c m r;simp only [A3,TV.WF] at e f;refine DS c i (v:=.int k (if mx then max p q else min p q)) (t:=.int k (if mx then max p q else min p q)) ?_ rfl ?_ s
  ·cases mx
   ·simp [execOp,b,resolve,invoke,builtin,e.1,f.1,Builtin.min_,Builtin.min2];rw [Int.min_def]; split <;> split <;> omega
   ·simp [execOp,b,resolve,invoke,builtin,e.1,f.1,Builtin.max_,Builtin.max2];rw [Int.max_def]; split <;> split <;> omega
  ·simp only [TV.WF];split <;> omega
 ·exact h.elim
theorem Zk (c:AU F0 w0 O a w G) (p:d<a.tmps.size) {x:Operand} {y:AJ} {t:TypeId} (e:o.op=.box t x) (f:AP x y=true) (h:(AH.boxs y).wp S O (some d) K):BU P F0 w0 a w o d K:=by
 simp only [AH.wp] at h;split at h
 ·rename_i u hv;have k:=BJ c f hv;have l:Below w.heap.size w (w.alloc (.cells (a.eval x).cells t)):=(Below.refl _ _).alloc (d3 _) _;refine ⟨.pointer (some ⟨w.heap.size,0,none⟩),w.alloc (.cells (a.eval x).cells t),by simp [execOp,e,Instr.box,newVar,newRow],_,_,h,c.tv l d p (.pt u.cells) _ ?_ ?_⟩
  ·simp only [A3];refine ⟨_,_,rfl,?_⟩;have g:=K9 (F0:=F0) (w0:=w0) (G:=G) l d (fun _=>none) (by simp)
   ·have m:=I4 k.1;refine Oa (BI g _ _ m.1) m.2 fun i v hi=>?_;have q:(w.alloc (.cells (a.eval x).cells t)).cell? ⟨w.heap.size,0+i,none⟩=some v:=by
     rw [World.cell?_alloc_new,Nat.zero_add];simpa using hi
    refine ⟨q,?_⟩;rintro (⟨b,_⟩ | ⟨s,j,lo,b,_⟩)
    ·have:=c.below.size; omega
    ·by_cases n:s=d
     ·subst n; rw [B1] at b; cases b
     ·rw [BT _ _ _ _ n] at b;have:=(c.lt _ _ _ _ b).1; omega
  ·simp only [TV.WF]; exact J0 k.2
 ·exact h.elim
end
end Go.Sf
namespace Go.Sf
open Go.RowKit (Below)
def Rw:List Value->Nat->List Value->List Value
 | cs,_,[]=>cs
 | cs,i,d::ds=>Rw (cs.set i d) (i+1) ds
theorem OM (b:Nat):∀ (l:List Value) (k:Nat) (cells:Array Value),((l.zipIdx k).foldl (fun cs (x:Value × Nat)=>cs.setIfInBounds (b+x.2) x.1) cells).toList=Rw cells.toList (b+k) l
 | [],_,_=>rfl
 | v::l,k,cells=>by
  simp only [List.zipIdx_cons,List.foldl_cons,Rw];rw [OM b l (k+1)];simp [Array.toList_setIfInBounds,Nat.add_assoc]
section
variable {w:World} {F:Nat->Nat->Prop}
theorem X3 {cs:QQ} {xs:List Value} (h:AQ w F cs xs) (i:Nat) {t:TV} {v:Value} (f:A3 w F t v):AQ w F (cs.set i t) (xs.set i v):=by
 rw [CJ] at h ⊢;refine ⟨by simp [h.1],fun j u x c b=>?_⟩;rw [List.getElem?_set] at c b;split at c
 ·rename_i e;subst e;simp only [if_true] at b;split at c
  ·split at b
   ·simp only [zzY] at c b; subst c; subst b; exact f
   ·cases b
  ·cases c
 ·rename_i e;rw [d2 e] at b;exact h.2 j u x c b
theorem Sv:∀ {e:QQ} {c:List Value} {cs:QQ} {xs:List Value} (i:Nat),AQ w F cs xs->AQ w F e c->AQ w F (Mw cs i e) (Rw xs i c)
 | [],c,cs,xs,i,h,b=>by simp only [AQ] at b; subst b; exact h
 | d::e,c,cs,xs,i,h,b=>by
  simp only [AQ] at b;obtain ⟨v,r,rfl,f,g⟩:=b;exact Sv (i+1) (X3 h i f) g
theorem Wu:∀ (b xs:List Value) (i:Nat),(∀ x∈xs,x.oneCell'=true)->(∀ y∈b,y.oneCell'=true)->∀ x∈Rw xs i b,x.oneCell'=true
 | [],_,_,h,_=>h
 | y::b,xs,i,h,e=>by
  refine Wu b (xs.set i y) (i+1) (fun x c=>?_) (fun z f=>e z (by simp [f]));rcases List.mem_or_eq_of_mem_set c with c | rfl
  ·exact h x c
  ·exact e _ (by simp)
theorem Ro {place:Nat->Option (Nat × Nat)}:∀ {f:List (Nat × Value)} {e:List (Nat × Nat × TV)} {cs cs':QQ} {xs:Array Value},AQ w F cs xs.toList->f.length=e.length ->
  (∀ (j:Nat) (p:Nat × Value) (t:Nat × Nat × TV),f[j]?=some p->e[j]?=some t->place p.1=some (t.1,t.2.1)∧A3 w F t.2.2 p.2)->Ho cs e=some cs'->(∀ x∈xs.toList,x.oneCell'=true) ->
  ∃ xs',Instr.fill place xs f=some xs'∧AQ w F cs' xs'.toList∧∀ x∈xs'.toList,x.oneCell'=true
 | [],e,cs,cs',xs,h,g,r,b,ho=>by
  have:e=[]:=List.eq_nil_of_length_eq_zero g.symm;subst this;simp only [Ho,zzY] at b;subst b;exact ⟨xs,rfl,h,ho⟩
 | (i,v)::f,[],_,_,_,_,g,_,_,_=>by simp at g
 | (i,v)::f,(c,n,t)::e,cs,cs',xs,h,g,r,b,ho=>by
  simp only [Ho] at b;split at b
  ·rename_i D;obtain ⟨u,q⟩:=r 0 _ _ rfl rfl;simp only at u q;have s:=(I4 q).1;have m:=(I4 q).2;have E:v.cells.size=n:=by have:=CB s; rw [Array.length_toList] at this; omega
   have y:=CB h;rw [Array.length_toList] at y;have z:AQ w F (Mw cs c t.cells) ((v.cells.zipIdx.foldl (fun cs (x:Value × Nat)=>cs.setIfInBounds (c+x.2) x.1) xs)).toList:=by
    have A:=Sv c h s;rw [←Array.foldl_toList,Array.toList_zipIdx,OM,Nat.add_zero];exact A
   obtain ⟨xs',B,C⟩:=Ro z (by simpa using g) (fun j p t k l=>r (j+1) p t (by simpa using k) (by simpa using l)) b (by
    rw [←Array.foldl_toList,Array.toList_zipIdx,OM,Nat.add_zero];exact Wu _ _ _ ho m)
   refine ⟨xs',?_,C⟩;simp only [Instr.fill,u];rw [d2 (by simp; omega)];exact B
  ·cases b
end
def Lu (place:Nat->Option (Nat × Nat)):List (Nat × Operand)->List (Nat × Nat × AJ)->Bool
 | [],[]=>true
 | (i,x)::ps,(off,n,y)::qs=>place i==some (off,n)&&AP x y&&Lu place ps qs
 | _,_=>false
def Xq (P:Program) (t:TypeId) (zero:QQ) (ps:List (Nat × Operand)) (qs:List (Nat × Nat × AJ)):Bool:=
 match P.info? t,P.underlying t with
 | some it,some (.array _ e)=>
  match it.zero,P.info? e with
  | some z,some ie=>Ju zero z.cells.toList&&z.cells.toList.all Value.oneCell'&&Lu (fun i=>some (i*ie.size,ie.size)) ps qs
  | _,_=>false
 | some it,some (.struct fields)=>
  match it.zero,fields.toList.mapM (fun f=>(P.info? f.type).map fun i=>(f.offset,i.size)) with
  | some z,some places=>Ju zero z.cells.toList&&z.cells.toList.all Value.oneCell'&&Lu (places.toArray[·]?) ps qs
  | _,_=>false
 | _,_=>false
section
variable {P:Program} {S:FuncId->QQ->CM->Prop} {F0:Nat->Nat->Prop} {w0:W0} {O:AC} {a:Act} {w:World} {G:DP} {d:Nat} {o:Oper} {K:EV->AC->Prop}
theorem T7 (m:AU F0 w0 O a w G) {place:Nat->Option (Nat × Nat)}:∀ {f:List (Nat × Operand)} {g:List (Nat × Nat × AJ)} {e:List (Nat × Nat × TV)},Lu place f g=true->IP O g=some e ->
  f.length=e.length∧(∀ (j:Nat) (p:Nat × Value) (t:Nat × Nat × TV),(f.map fun (i,x)=>(i,a.eval x))[j]?=some p->e[j]?=some t->place p.1=some (t.1,t.2.1)∧A3 w (AZ w0.heap.size F0 G) t.2.2 p.2)∧∀ t∈e,t.2.2.WF
 | [],[],e,_,h=>by simp [IP] at h; subst h; simp
 | [],_::_,_,h,_=>by simp [Lu] at h
 | _::_,[],_,h,_=>by simp [Lu] at h
 | (i,x)::f,(B,n,y)::g,e,b,h=>by
  simp only [Lu,zzZ,beq_iff_eq] at b;simp only [IP] at h;split at h
  ·rename_i t r s l;simp only [zzY] at h;subst h;obtain ⟨v,z,A⟩:=T7 m b.2 l;have q:=BJ m b.1.2 s;refine ⟨by simp [v],fun j p u k c=>?_,fun u c=>?_⟩
   ·cases j with
    | zero=>simp at k c; subst k; subst c; exact ⟨b.1.1,q.1⟩
    | succ j=>exact z j p u (by simpa using k) (by simpa using c)
   ·rcases List.mem_cons.1 c with rfl | c
    ·exact q.2
    ·exact A u c
  ·cases h
theorem XM:∀ {b cs:QQ} (i:Nat),TV.WFs cs->TV.WFs b->TV.WFs (Mw cs i b)
 | [],_,_,h,_=>h
 | d::b,cs,i,h,e=>by
  refine XM (i+1) ?_ e.2;rw [CO] at h ⊢;intro t c;rcases List.mem_or_eq_of_mem_set c with c | rfl
  ·exact h t c
  ·exact e.1
theorem V3:∀ {c:List (Nat × Nat × TV)} {cs cs':QQ},TV.WFs cs->(∀ t∈c,t.2.2.WF)->Ho cs c=some cs'->TV.WFs cs'
 | [],cs,cs',h,_,b=>by simp [Ho] at b; subst b; exact h
 | (i,n,t)::c,cs,cs',h,e,b=>by
  simp only [Ho] at b;split at b
  ·exact V3 (XM i h (J0 (e (i,n,t) (by simp)))) (fun u f=>e u (by simp [f])) b
  ·cases b
theorem bX (y:AU F0 w0 O a w G) (A:d<a.tmps.size) {t:TypeId} {zero:QQ} {g:Array (Nat × Operand)} {p:List (Nat × Nat × AJ)} (s:o.op=.build t g) (b:Xq P t zero g.toList p=true) (h:(AH.bld zero p).wp S O (some d) K):BU P F0 w0 a w o d K:=by
 simp only [AH.wp] at h;cases m:IP O p with
 | none=>rw [m] at h; exact h.elim
 | some M=>
  rw [m] at h;simp only [A7] at h;cases c:Ho zero M with
  | none=>rw [c] at h; exact h.elim
  | some cs=>
   rw [c] at h;simp only at h;have key:∀ (place:Nat->Option (Nat × Nat)) (z:Array Value),Ju zero z.toList=true->z.toList.all Value.oneCell'=true->Lu place g.toList p=true->∃ xs',Instr.fill place z (g.map fun (i,x)=>(i,a.eval x)).toList=some xs'∧AQ w (AZ w0.heap.size F0 G) cs xs'.toList∧TV.WFs cs∧xs'.toList.all Value.oneCell'=true:=by
    intro place z C u D;obtain ⟨j,k,l⟩:=T7 y D m;have f:=Nz w (AZ w0.heap.size F0 G) zero z.toList C;have H:(g.map fun (i,x)=>(i,a.eval x)).toList=g.toList.map fun (i,x)=>(i,a.eval x):=by simp
    rw [H];obtain ⟨xs',I,J,L⟩:=Ro f.1 (by simpa using j) k c (fun x B=>List.all_eq_true.1 u x B);exact ⟨xs',I,J,V3 f.2 l c,List.all_eq_true.2 L⟩
   have built:∃ xs',P.built t (g.map fun (i,x)=>(i,a.eval x)).toList=some xs'∧AQ w (AZ w0.heap.size F0 G) cs xs'.toList∧TV.WFs cs∧xs'.toList.all Value.oneCell'=true:=by
    unfold Xq at b;unfold Program.built;split at b
    ·rename_i E n e j k;simp only [j,k];split at b
     ·rename_i z N l f;simp only [l,f];simp only [zzZ] at b;exact key _ _ b.1.1 b.1.2 b.2
     ·cases b
    ·rename_i E q j k;simp only [j,k];split at b
     ·rename_i z r l f;simp only [l,f];simp only [zzZ] at b;exact key _ _ b.1.1 b.1.2 b.2
     ·cases b
    ·cases b
   obtain ⟨xs',j,k,l,f⟩:=built;refine DS y A (v:=.agg xs') (t:=.agg cs) ?_ ?_ (by simpa [TV.WF] using l) h
   ·simp [execOp,s,run_build w t _ xs' j]
   ·simp only [A3]; exact ⟨xs',rfl,k,f⟩
theorem UJ (c:AU F0 w0 O a w G) (e:d<a.tmps.size) {x:Operand} {n:Nat} (b:o.op=.move x∨o.op=.assign x) (f:∃ v,x=.const v∧LD v=true) (h:(AH.nilo n).wp S O (some d) K):BU P F0 w0 a w o d K:=by
 simp only [AH.wp] at h;obtain ⟨v,rfl,hv⟩:=f;refine ⟨.slice none 0 0,w,?_,_,_,h,c.ow (Below.refl _ _) d e (.list n []) _ none (by simp) ?_ ⟨by simp,trivial⟩⟩
 ·rcases b with b | b <;> simp [execOp,b,Act.eval,Kd hv]
 ·simp only [CW];exact ⟨[],⟨by simp,.inl ⟨rfl,rfl,rfl⟩⟩,rfl,by simp,by simp⟩
end
end Go.Sf
namespace Go.Sf
open Go.RowKit (Below)
theorem YB (b:QQ) (x t:TV) (r:QQ):(b++x::r).set b.length t=b++t::r:=by
 induction b with
 | nil=>rfl
 | cons p b c=>simp
theorem Q1:∀ (c b rest:QQ),c.length<=rest.length->Mw (b++rest) b.length c=b++c++rest.drop c.length
 | [],b,rest,_=>by simp [Mw]
 | d::c,b,[],h=>by simp at h
 | d::c,b,x::rest,h=>by
  simp only [Mw,YB];have:=Q1 c (b++[d]) rest (by simpa using h);simp only [d4,List.length_singleton,ea,List.singleton_append] at this;simpa using this
def Js (n:Nat):Nat->QQ->List (Nat × Nat × TV)
 | _,[]=>[]
 | k,t::ts=>(k*n,n,t)::Js n (k+1) ts
theorem Ti (n:Nat):∀ (c b:QQ) (k:Nat),(∀ t∈c,t.cells.length=n)->b.length=k*n ->
  Ho (b++List.replicate (c.length*n) .undef) (Js n k c)=some (b++c.flatMap TV.cells)
 | [],b,k,_,_=>by simp [Js,Ho]
 | t::c,b,k,e,i=>by
  have g:t.cells.length=n:=e t (by simp);simp only [Js,Ho];rw [d1 ⟨g,by simp only [d4,List.length_replicate,d6,Nat.add_mul]; omega⟩];rw [←i,Q1 t.cells b _ (by simp only [List.length_replicate,d6,Nat.add_mul]; omega)];have h:(List.replicate ((t::c).length*n) TV.undef).drop t.cells.length=List.replicate (c.length*n) TV.undef:=by
   rw [List.drop_replicate]; congr 1; simp only [d6,Nat.add_mul]; omega
  rw [h];have:=Ti n c (b++t.cells) (k+1) (fun x f=>e x (by simp [f])) (by simp only [d4,Nat.add_mul]; omega);rw [this];simp [List.flatMap_cons]
def Pf:Nat->List (Nat × Operand)->List AJ->Bool
 | _,[],[]=>true
 | k,(i,x)::ps,y::ys=>i==k&&AP x y&&Pf (k+1) ps ys
 | _,_,_=>false
section
variable {P:Program} {S:FuncId->QQ->CM->Prop} {F0:Nat->Nat->Prop} {w0:W0} {O:AC} {a:Act} {w:World} {G:DP} {d:Nat} {o:Oper} {K:EV->AC->Prop}
theorem Ws (q:AU F0 w0 O a w G) (n:Nat):∀ {k:Nat} {e:List (Nat × Operand)} {f:List AJ} {c:QQ},Pf k e f=true->vals O f=some c ->
  e.length=c.length∧(∀ (j:Nat) (p:Nat × Value) (t:Nat × Nat × TV),(e.map fun (i,x)=>(i,a.eval x))[j]?=some p->(Js n k c)[j]?=some t->(some (p.1*n,n):Option (Nat × Nat))=some (t.1,t.2.1)∧A3 w (AZ w0.heap.size F0 G) t.2.2 p.2)∧TV.WFs c
 | _,[],[],c,_,h=>by simp [vals] at h; subst h; simp [TV.WFs]
 | _,[],_::_,_,h,_=>by simp [Pf] at h
 | _,_::_,[],_,h,_=>by simp [Pf] at h
 | k,(i,x)::e,y::f,c,b,h=>by
  simp only [Pf,zzZ,beq_iff_eq] at b;simp only [vals] at h;split at h
  ·rename_i t s v m;simp only [zzY] at h;subst h;obtain ⟨z,A,B⟩:=Ws q n b.2 m;have r:=BJ q b.1.2 v;refine ⟨by simp [z],fun j p u g l=>?_,r.2,B⟩;cases j with
   | zero=>simp [Js] at g l; subst g; subst l; exact ⟨by rw [b.1.1],r.1⟩
   | succ j=>exact A j p u (by simpa using g) (by simpa [Js] using l)
  ·cases h
theorem OR (n:Nat):∀ (k:Nat) (b:QQ),(Js n k b).length=b.length
 | _,[]=>rfl
 | k,t::b=>by simp [Js,OR n (k+1) b]
theorem dx {F:Nat->Nat->Prop} {n:Nat} {c:QQ} {cells:Array Value} {e:TypeId} (h:AQ (w.alloc (.cells cells e)) F (c.flatMap TV.cells) cells.toList) (ho:∀ x∈cells.toList,x.oneCell'=true) (f:∀ t∈c,t.cells.length=n) (g:c.length<=maxLen) :
  CW (w.alloc (.cells cells e)) F (some (w.heap.size,c.length*n)) (.list n c) (.slice (some ⟨w.heap.size,0,none⟩) c.length c.length):=by
 have b:=CB h;rw [Mu n c f] at b;simp only [CW];refine ⟨cells.toList,⟨b,.inr ⟨w.heap.size,c.length,cells,e,rfl,heap_alloc_new w _,d3 _,g,by simpa using b,?_,rfl⟩⟩,h,f,ho⟩;rw [←b,List.take_length]
theorem bl (X:AU F0 w0 O a w G) (hd:d<a.tmps.size) {t e:TypeId} {s:TypeInfo} {z:Value} {len n:Nat} {y:Array (Nat × Operand)} {Q:List AJ} (R:o.op=.buildSlice t len y) (j:P.underlying t=some (.slice e)) (A:P.info? e=some s) (hz:s.zero=some z)
  (N:s.size=n) (B:0<n) (k:z.cells.toList.all Value.oneCell'=true) (C:0<z.cells.size) (D:len=y.size) (hsm:len*n<=2 ^ 24) (T:Pf 0 y.toList Q=true) (h:(AH.lst n Q).wp S O (some d) K):BU P F0 w0 a w o d K:=by
 simp only [AH.wp] at h;cases l:vals O Q with
 | none=>rw [l] at h; exact h.elim
 | some g=>
  rw [l] at h;simp only [A7] at h;obtain ⟨hc,hK⟩:=h;obtain ⟨h1,h2,h3⟩:=Ws X n T l;have H:len=g.length:=by rw [D,←h1]; simp
  have U:(TV.list n g).WF:=⟨by simp only [IV]; have:len*1<=len*n:=Nat.mul_le_mul_left _ B; omega,h3⟩;have V:g.length<=maxLen:=by simp only [maxLen]; have:len*1<=len*n:=Nat.mul_le_mul_left _ B; omega
  have f:∃ cells:Array Value,(Instr.buildSlice t len (y.map fun (i,x)=>(i,a.eval x))).run P w=.ok (.slice (some ⟨w.heap.size,0,none⟩) len len) (w.alloc (.cells cells e))∧AQ w (AZ w0.heap.size F0 G) (g.flatMap TV.cells) cells.toList∧∀ x∈cells.toList,x.oneCell'=true:=by
   by_cases h0:len=0
   ·have W:y=#[]:=by apply Array.eq_empty_of_size_eq_zero; omega
    have I:g=[]:=by apply List.eq_nil_of_length_eq_zero; omega
    subst W; subst I; subst h0;refine ⟨#[],?_,rfl,by simp⟩;simp [Instr.buildSlice,run_underlying j,sizeOf,typeInfo,A,Instr.fill,newRow];rw [Array.range_zero']; simp
   ·have m:AQ w (AZ w0.heap.size F0 G) (List.replicate (g.length*n) .undef) ((Array.range (len*s.size)).map (z.cells[· % z.cells.size]!)).toList:=by
     rw [CJ];refine ⟨by simp [N,H],fun i u v j hv=>?_⟩;rw [List.getElem?_replicate] at j;split at j
     ·simp only [zzY] at j;subst j;simp only [A3];rw [Array.getElem?_toList,Array.getElem?_map] at hv;simp only [Option.map_eq_some_iff] at hv;obtain ⟨q,_,rfl⟩:=hv;have c:=Nat.mod_lt q C;rw [getElem!_pos z.cells _ c];exact List.all_eq_true.1 k _ (by simp)
     ·cases j
    have J:=Ti n g [] 0 hc (by simp);simp only [List.nil_append] at J;have p:∀ x∈((Array.range (len*s.size)).map (z.cells[· % z.cells.size]!)).toList,x.oneCell'=true:=by
     intro x Y;rw [Array.mem_toList_iff,Array.mem_map] at Y;obtain ⟨q,_,rfl⟩:=Y;have c:=Nat.mod_lt q C;rw [getElem!_pos z.cells _ c];exact List.all_eq_true.1 k _ (by simp)
    obtain ⟨xs',h6,h7,h8⟩:=Ro (place:=fun i=>some (i*n,n)) m (by rw [OR]; simpa using h1) h2 J p;refine ⟨xs',run_buildSlice w t e len _ xs' s z j A hz (by rw [N]; omega) ?_ ?_,h7,h8⟩
    ·rw [N]; intro h; rcases Nat.mul_eq_zero.1 h with h | h <;> omega
    ·rw [N] at h6 ⊢;simpa using h6
  obtain ⟨cells,L,M,r⟩:=f;have Z:Below w.heap.size w (w.alloc (.cells cells e)):=(Below.refl _ _).alloc (d3 _) _;refine ⟨.slice (some ⟨w.heap.size,0,none⟩) len len,_,by simp only [execOp,R,Sem.run_bind,L,Result.andThen_ok,Sem.run_pure],_,_,hK,X.ow Z d hd (.list n g) _ (some (w.heap.size,g.length*n)) (fun b lo E=>?_) ?_ U⟩
  ·simp only [zzY,Prod.mk.injEq] at E;obtain ⟨rfl,_⟩:=E;exact ⟨d3 _,by simp⟩
  ·rw [H];exact dx (BI (K9 Z d _ (fun i b lo h=>by
    split at h
    ·simp only [zzY,Prod.mk.injEq] at h; omega
    ·cases h)) _ _ M) r hc V
theorem AU.strip (h:AU F0 w0 O a w G) (s:Nat):AU F0 w0 (strip O s) a w G:=by
 refine ⟨h.uniq,h.lt,h.below,h.defers,fun q c=>?_,fun q c=>?_,fun q=>?_⟩
 ·simp only [Go.Sf.strip,AC.get_cons];split
  ·rfl
  ·exact h.dom q c
 ·have:=h.slots q c;simp only [Go.Sf.strip,AC.get_cons];split
  ·trivial
  ·refine AT.kept (O9 _ _) (fun _=>rfl) (fun _ _ _ _=>rfl) (fun r e f ⟨cs,b⟩=>?_) (fun r i f ⟨p,g⟩=>⟨⟨p,(AC.xat_drop (by simp) (by simp) g).2⟩,fun _ hv=>hv⟩) this
   ·rw [AC.get_cons] at b;split at b
    ·cases b
    ·exact ⟨⟨cs,b⟩,rfl⟩
 ·simp only [Go.Sf.strip,AC.get_cons];split
  ·trivial
  ·exact h.wf q
theorem AU.move (h:AU F0 w0 O a w G) {s:Nat} {t:TV} (I:O.get s=.ow t) (M:d<a.tmps.size) :
  ∃ j,AU F0 w0 ((d,.ow t)::Go.Sf.strip O s) (a.put (some d) (slot a s)) w j∧DT w w (AZ w0.heap.size F0 G) (AZ w0.heap.size F0 j):=by
 have m:=A5 h I (by simp);simp only [AT] at m;have B:=h.wf s;rw [I] at B
 let zs:Option (Nat × Nat):=G s none
 let j:DP:=GB (GB G s (fun _=>none)) d (fun i=>if i=none then zs else none)
 have l:∀ q i b lo,j q i=some (b,lo)->(q=d∧i=none∧G s none=some (b,lo))∨(q≠d∧q≠s∧G q i=some (b,lo)):=by
  intro q i b lo f;by_cases g:q=d
  ·subst g;simp only [j,B1] at f;split at f
   ·rename_i hi; exact .inl ⟨rfl,hi,f⟩
   ·cases f
  ·simp only [j,BT _ _ _ _ g] at f;by_cases u:q=s
   ·subst u; rw [B1] at f; cases f
   ·rw [BT _ _ _ _ u] at f;exact .inr ⟨g,u,f⟩
 have x:∀ q i b lo,j q i=some (b,lo)->∃ J L n,G J L=some (b,n)∧n<=lo:=by
  intro q i b lo f;rcases l q i b lo f with ⟨_,_,k⟩ | ⟨_,_,k⟩
  ·exact ⟨s,none,lo,k,d3 _⟩
  ·exact ⟨q,i,lo,k,d3 _⟩
 have y:DT w w (AZ w0.heap.size F0 G) (AZ w0.heap.size F0 j):=fun b o v N Q=>⟨N,fun E=>Q (AZ.mono x E)⟩;refine ⟨j,⟨?_,?_,h.below,by rw [Kt]; exact h.defers,?_,?_,?_⟩,y⟩
 ·intro q i J L b lo n k C;rcases l _ _ _ _ k with ⟨rfl,rfl,A⟩ | ⟨n1,n2,A⟩ <;> rcases l _ _ _ _ C with ⟨rfl,rfl,D⟩ | ⟨m1,V,D⟩
  ·exact ⟨rfl,rfl⟩
  ·exact absurd (h.uniq _ _ _ _ _ _ _ A D).1.symm V
  ·exact absurd (h.uniq _ _ _ _ _ _ _ A D).1 n2
  ·exact h.uniq _ _ _ _ _ _ _ A D
 ·intro q i b lo k;rcases l _ _ _ _ k with ⟨_,_,A⟩ | ⟨_,_,A⟩ <;> exact h.lt _ _ _ _ A
 ·intro q f;rw [FM] at f;rw [AC.get_cons,d2 (by omega)];exact (h.strip s).dom q f
 ·intro q f;rw [FM] at f;rw [AC.get_cons];by_cases g:d=q
  ·subst g;rw [d1 rfl,H7 _ _ _ M];simp only [AT,j,B1,if_true];exact m.kept y (fun _ _ _=>rfl)
  ·rw [d2 g,BE _ _ _ _ g];simp only [Go.Sf.strip,AC.get_cons];split
   ·trivial
   ·rename_i H;refine AT.kept y (fun i=>?_) (fun _ _ _ _=>rfl) (fun r R T ⟨cs,c⟩=>?_) (fun r i T ⟨p,U⟩=>?_) (h.slots q f)
    ·simp only [j];rw [BT _ _ _ _ (fun e=>g e.symm),BT _ _ _ _ (fun e=>H e.symm)]
    ·rw [AC.get_cons] at c;by_cases z:d=r
     ·rw [d1 z] at c; cases c
     ·rw [d2 z] at c;simp only [AC.get_cons] at c;split at c
      ·cases c
      ·exact ⟨⟨cs,c⟩,BE _ _ _ _ z⟩
    ·have k:=AC.xat_drop (by simp) (by simp) U;have C:=AC.xat_drop (by simp) (by simp) k.2;exact ⟨⟨p,C.2⟩,h.xv ⟨p,C.2⟩ (BE _ _ _ _ k.1) (fun _ _=>rfl)⟩
 ·intro q;rw [AC.get_cons];split
  ·exact B
  ·exact (h.strip s).wf q
theorem bR (a:Act) (d s:Nat) (v:Value) (h:d<a.tmps.size):slot (a.put (some d) v) s=if d=s then v else slot a s:=by
 split
 ·rename_i e; subst e; exact H7 _ _ _ h
 ·rename_i e; exact BE _ _ _ _ e
theorem AU.move' (h:AU F0 w0 O a w G) {s:Nat} {t:TV} (b:O.get s=.ow t) (g:d<a.tmps.size) :
  DE F0 w0 ((d,.ow t)::(s,.tv t)::O) (a.put (some d) (slot a s)) w:=by
 obtain ⟨i,j,f⟩:=h.move b g;have hv:=BJ h (x:=.tmp s) (y:=.s s) (by simp [AP]) (t:=t) (by simp [AJ.val,AJ.ev,b,EV.val]);have c:=GM h b (by simp);refine ⟨i,j.rem s (t:=t) (by rw [FM]; exact c) ?_ hv.2 fun n=>?_⟩
 ·have:slot (a.put (some d) (slot a s)) s=slot a s:=by rw [bR _ _ _ _ g]; split <;> rfl
  rw [this];exact DC f _ _ hv.1
 ·simp only [Go.Sf.strip,AC.get_cons];split
  ·exact .inl rfl
  ·split
   ·rename_i e; exact .inr ⟨e.symm,rfl⟩
   ·exact .inl rfl
theorem XE (e:AU F0 w0 O a w G) (g:d<a.tmps.size) {s:Nat} (b:o.op=.move (.tmp s)∨o.op=.assign (.tmp s)) (h:(AH.tk s).wp S O (some d) K):BU P F0 w0 a w o d K:=by
 simp only [AH.wp] at h;have c:(execOp a.eval o).run P w=.ok (.value (slot a s)) w:=by
  rcases b with b | b <;> simp [execOp,b] <;> rfl
 split at h
 ·rename_i t f;exact ⟨_,_,c,_,_,h,e.move' f g⟩
 ·rename_i t f;have:=BJ e (x:=.tmp s) (y:=.s s) (by simp [AP]) (t:=t) (by simp [AJ.val,AJ.ev,f,EV.val]);exact DS e g c this.1 this.2 h
 ·exact h.elim
end
end Go.Sf
