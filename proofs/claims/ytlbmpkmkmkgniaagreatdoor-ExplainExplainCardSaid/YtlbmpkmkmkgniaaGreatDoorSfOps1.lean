/- The checker's operands, and the operations that only compute or read. -/
import Derived.Test.YtlbmpkmkmkgniaaGreatDoorSfQuiet
import Derived.Laws.StructEq
import Derived.Laws.Tables
import Derived.Great.BuildSlice
set_option linter.all false
namespace Go.Sf
open Go.RowKit (Below)
def Lv:Value->Bool
 | .slice none 0 0=>true
 | _=>false
variable {v:Value}
theorem LD (h:Lv v=true):v=.slice none 0 0:=by
 unfold Lv at h;split at h
 ·rfl
 ·cases h
def cT (f:FuncId):Value->Bool
 | .func (.func g) first caps=>f==g&&first.size==0&&caps.size==0
 | _=>false
variable {f:FuncId}
theorem fY (h:cT f v=true):v=.func (.func f) #[] #[]:=by
 unfold cT at h;split at h
 ·simp at h;obtain ⟨⟨rfl,g⟩,l⟩:=h;subst g; subst l;rfl
 ·cases h
def Y8 (k:IntKind) (n:Int):Value->Bool
 | .int k' m=>k==k'&&n==m
 | _=>false
theorem cU {k:IntKind} {n:Int} (h:Y8 k n v=true):v=.int k n:=by
 unfold Y8 at h;split at h
 ·simp at h; rw [h.1,h.2]
 ·cases h
def WV (b:Bool):Value->Bool
 | .bool c=>b==c
 | _=>false
variable {b:Bool}
theorem aL (h:WV b v=true):v=.bool b:=by
 unfold WV at h;split at h
 ·simp at h; rw [h]
 ·cases h
def Y9 (s:ByteArray):Value->Bool
 | .string r=>s.data==r.data
 | _=>false
theorem cW {s:ByteArray} (h:Y9 s v=true):v=.string s:=by
 unfold Y9 at h;split at h
 ·simp at h; congr 1; exact (ByteArray.ext h).symm
 ·cases h
def Yu:Value->Option (List Value)
 | .agg vs=>some vs.toList
 | _=>none
theorem b6 {l:List Value} (h:Yu v=some l):v=.agg l.toArray:=by
 unfold Yu at h;split at h
 ·simp at h; subst h; simp
 ·cases h
mutual
def FT:TV->Value->Bool
 | .int k n,v=>Y8 k n v&&decide (k.min<=n∧n<=k.max)
 | .bool b,v=>WV b v
 | .str s,v=>Y9 s v&&decide (s.size<=I0)
 | .list _ es,v=>es.isEmpty&&Lv v
 | .agg ts,v=>match Yu v with | some vs=>KS ts vs&&vs.all Value.oneCell' | none=>false
 | .clo f cs,v=>cs.isEmpty&&cT f v
 | .nil,v=>Lv v
 | .undef,v=>v.oneCell'
 | _,_=>false
def KS:QQ->List Value->Bool
 | [],vs=>vs.isEmpty
 | t::ts,vs=>match vs with | v::vs=>FT t v&&KS ts vs | []=>false
end
mutual
theorem Ik (w:World) (F:Nat->Nat->Prop):∀ (t:TV) (v:Value),FT t v=true->A7 w F t v∧t.WF
 | .undef,v,h=>by
  simp only [FT] at h;exact ⟨by simpa [A7] using h,trivial⟩
 | .xl _ _,v,h=>by simp [FT] at h
 | .nil,v,h=>by
  simp only [FT] at h;exact ⟨LD h,trivial⟩
 | .pt _,v,h=>by simp [FT] at h
 | .int k n,v,h=>by
  simp only [FT,zzZ,zzX] at h;exact ⟨cU h.1,h.2⟩
 | .bool b,v,h=>by
  simp only [FT] at h;exact ⟨aL h,trivial⟩
 | .str s,v,h=>by
  simp only [FT,zzZ,zzX] at h;exact ⟨cW h.1,h.2⟩
 | .list n es,v,h=>by
  simp only [FT,zzZ,List.isEmpty_iff] at h;obtain ⟨rfl,h⟩:=h;refine ⟨?_,by simp [TV.WF,TV.WFs]⟩;simp only [A7];exact ⟨none,0,LD h,by simp⟩
 | .agg ts,v,h=>by
  simp only [FT] at h;split at h
  ·rename_i vs hv;rw [zzZ] at h;have:=Ox w F ts vs h.1;refine ⟨?_,by simpa [TV.WF] using this.2⟩;simp only [A7];exact ⟨_,b6 hv,by simpa using this.1,by simpa using h.2⟩
  ·cases h
 | .clo f cs,v,h=>by
  simp only [FT,zzZ,List.isEmpty_iff] at h;obtain ⟨rfl,h⟩:=h;refine ⟨?_,by simp [TV.WF,TV.WFs]⟩;simp only [A7];exact ⟨#[],fY h,rfl⟩
theorem Ox (w:World) (F:Nat->Nat->Prop):∀ (ts:QQ) (vs:List Value),KS ts vs=true->AS w F ts vs∧TV.WFs ts
 | [],vs,h=>by simp [KS] at h; subst h; exact ⟨rfl,trivial⟩
 | t::ts,vs,h=>by
  cases vs with
  | nil=>simp [KS] at h
  | cons v vs=>
   simp only [KS,zzZ] at h;have g:=Ik w F t v h.1;have l:=Ox w F ts vs h.2;exact ⟨⟨v,vs,rfl,g.1,l.1⟩,g.2,l.2⟩
end
def AR (x:Operand):AL->Bool
 | .s m=>match x with | .tmp n=>n==m | _=>false
 | .c t=>match x with | .const v=>FT t v | .func f=>FT t (.func (.func f) #[] #[]) | _=>false
section
variable {F0:Nat->Nat->Prop} {w0:W0} {O:AD} {a:Act} {w:World} {G:DT}
variable {s:Nat}
theorem O0 (h:AY F0 w0 O a w G) {i:Option Nat}:∀ b lo o,G s i=some (b,lo)->o<lo->¬ A2 w0.heap.size F0 G b o:=by
 intro b lo o g ho p;rcases p with ⟨q,l⟩ | ⟨s',r,lo',m,u⟩
 ·exact (h.lt _ _ _ _ g).2.elim (fun e=>by omega) (fun e=>h.below.free _ _ _ (e _ (d3 _)) l)
 ·obtain ⟨rfl,rfl⟩:=h.uniq _ _ _ _ _ _ _ m g;rw [m] at g;simp only [zzY,Prod.mk.injEq,true_and] at g;omega
variable {n:Nat}
theorem G9 (h:AY F0 w0 O a w G) {e:EV} (p:O.get n=e) (g:e≠.undef):n<a.tmps.size:=by
 rcases Nat.lt_or_ge n a.tmps.size with l | m
 ·exact l
 ·exact absurd ((h.dom n m).symm.trans p).symm g
theorem A9 (h:AY F0 w0 O a w G) {e:EV} (l:O.get n=e) (g:e≠.undef):AX a w (A2 w0.heap.size F0 G) G O n e (slot a n):=by
 have:=h.slots n (G9 h l g)
 rwa [l] at this
variable {x:Operand} {y:AL}
theorem BU (h:AY F0 w0 O a w G) (l:AR x y=true) {t:TV} (hv:y.val O=some t):A7 w (A2 w0.heap.size F0 G) t (a.eval x)∧t.WF:=by
 cases y with
 | s m=>
  cases x <;> simp [AR] at l;subst l;rename_i n;simp only [AL.val,AL.ev] at hv;have r:=h.wf n;cases p:O.get n with
  | tv u=>
   rw [p] at hv r;simp only [EV.val,zzY] at hv;subst hv;exact ⟨A9 h p (by simp),r⟩
  | ow u=>
   rw [p] at hv r;simp only [EV.val,zzY] at hv;subst hv;exact ⟨C3.rep (A9 h p (by simp)) (fun b lo o A ho=>O0 h b lo o A ho),r⟩
  | undef=>rw [p] at hv; simp [EV.val] at hv
  | sk=>rw [p] at hv; simp [EV.val] at hv
  | xo n es=>rw [p] at hv; simp [EV.val] at hv
  | la q i=>rw [p] at hv; simp [EV.val] at hv
  | oag cs=>rw [p] at hv; simp [EV.val] at hv
  | lp q i c=>rw [p] at hv; simp [EV.val] at hv
  | bx cs=>rw [p] at hv; simp [EV.val] at hv
  | bp q B=>rw [p] at hv; simp [EV.val] at hv
  | tp ts=>rw [p] at hv; simp [EV.val] at hv
 | c u=>
  simp only [AL.val,AL.ev,EV.val,zzY] at hv;subst hv;cases x with
  | const v=>exact Ik w _ _ _ l
  | func f=>exact Ik w _ _ _ l
  | tmp n=>simp [AR] at l
  | global g=>simp [AR] at l
theorem T4 (h:AY F0 w0 O a w G) (g:AR x y=true) {t:TV} (hv:y.ev O=.tv t):A7 w (A2 w0.heap.size F0 G) t (a.eval x)∧t.WF:=
 BU h g (by simp [AL.val,hv,EV.val])
def DL:List Operand->List AL->Bool
 | [],[]=>true
 | x::xs,y::ys=>AR x y&&DL xs ys
 | _,_=>false
theorem KH (h:AY F0 w0 O a w G):∀ {xs:List Operand} {ys:List AL},DL xs ys=true->∀ {ts:QQ},vals O ys=some ts->AS w (A2 w0.heap.size F0 G) ts (xs.map a.eval)∧TV.WFs ts
 | [],[],_,ts,hv=>by simp [vals] at hv; subst hv; exact ⟨rfl,trivial⟩
 | [],_::_,g,_,_=>by simp [DL] at g
 | _::_,[],g,_,_=>by simp [DL] at g
 | x::xs,y::ys,g,ts,hv=>by
  simp only [DL,zzZ] at g;simp only [vals] at hv;split at hv
  ·rename_i t q r l;simp only [zzY] at hv;subst hv;have m:=BU h g.1 r;have p:=KH h g.2 l;exact ⟨⟨_,_,rfl,m.1,p.1⟩,m.2,p.2⟩
  ·cases hv
end
theorem Li (k:IntKind) (n:Int):k.min<=k.wrap n∧k.wrap n<=k.max:=by
 cases k <;> simp only [IntKind.min,IntKind.max,IntKind.wrap,IntKind.signed,IntKind.bits,Bool.true_and,Bool.false_and] <;> simp <;> (try split) <;> omega
end Go.Sf
namespace Go.Sf
open Go.RowKit (Below)
def FK (P:Program) (t:TypeId):Option Nat:=(P.info? t).map (·.size)
def DV (P:Program) (t:TypeId):ca:=
 match P.underlying t with
 | some (.struct _) | some (.array _ _)=>some true
 | some _=>some false
 | none=>none
def LU (P:Program) (t:TypeId):Option Nat:=
 match P.underlying t with
 | some (.slice e)=>FK P e
 | _=>none
def Ow (P:Program) (t:TypeId) (f:Nat):Option Nat:=
 match P.underlying t with
 | some (.struct fs)=>match fs[f]? with
  | some x=>match FK P x.type with
   | some 0=>none
   | some _=>some x.offset
   | none=>none
  | none=>none
 | _=>none
section
variable {P:Program} {w:World}
variable {t:TypeId} {n:Nat}
theorem D7 (h:FK P t=some n):(sizeOf t).run P w=.ok n w:=by
 simp only [FK,Option.map_eq_some_iff] at h;obtain ⟨i,hi,rfl⟩:=h;simp [sizeOf,typeInfo,hi]
variable {b:Bool}
theorem FV (h:DV P t=some b):(isAgg t).run P w=.ok b w:=by
 unfold DV at h;unfold isAgg underlying;simp only [Sem.run_bind,run_program,Result.andThen_ok];cases g:P.underlying t with
 | none=>rw [g] at h; simp at h
 | some d=>
  rw [g] at h;cases d <;> simp_all
theorem SJ {f k b o:Nat} (h:Ow P t f=some k) :
  (Instr.fieldAt t (.pointer (some ⟨b,o,none⟩)) f).run P w=.ok (.pointer (some ⟨b,o+k,none⟩)) w:=by
 unfold Ow at h;split at h
 ·rename_i r l;split at h
  ·rename_i x m;split at h
   ·cases h
   ·rename_i n p q;simp only [zzY] at h;subst h;have g:¬ (n=0):=fun e=>p (by rw [e]);simp [Instr.fieldAt,run_underlying l,m,Instr.sureAddr,fieldPlace,D7 q,g,Addr.add_lit]
   ·cases h
  ·cases h
 ·cases h
variable {ts:QQ}
theorem Qp {F:Nat->Nat->Prop} {b o:Nat} (h:EN w F ts b o):∃ vs:List Value,AS w F ts vs∧(∀ x∈vs,x.oneCell'=true)∧∀ (j:Nat) (v:Value),vs[j]?=some v->w.cell? ((⟨b,o,none⟩:Addr).add j)=some v:=by
 induction ts generalizing o with
 | nil=>exact ⟨[],rfl,by simp,by simp⟩
 | cons t ts C=>
  simp only [EN] at h;obtain ⟨⟨v,l,D,m,p⟩,q⟩:=h;obtain ⟨vs,r,A,B⟩:=C q;refine ⟨v::vs,⟨v,vs,rfl,p,r⟩,by simp only [List.mem_cons,forall_eq_or_imp]; exact ⟨m,A⟩,fun j u g=>?_⟩;rw [Addr.add_lit];cases j with
  | zero=>simp at g; subst g; exact l
  | succ j=>
   have:=B j u (by simpa using g);rw [Addr.add_lit] at this
   rwa [show o+(j+1)=o+1+j from by omega]
theorem CN {F:Nat->Nat->Prop} {vs:List Value} (h:AS w F ts vs):vs.length=ts.length:=((CP ts vs).1 h).1
variable {v:Value}
theorem Za {F:Nat->Nat->Prop} {es:QQ} {k:IntKind} {j:Int} (l:LU P t=some n) (h:A7 w F (.list n es) v) (I:0<=j) {e:TV} (q:es[j.toNat]?=some e) :
  ∃ p,(Instr.indexAt t v (.int k j)).run P w=.ok p w∧A7 w F (.pt e.cells) p:=by
 simp only [A7] at h;obtain ⟨a,cap,rfl,_,D,E⟩:=h;have g:j.toNat<es.length:=by
  rcases Nat.lt_or_ge j.toNat es.length with h | h
  ·exact h
  ·rw [List.getElem?_eq_none h] at q; cases q
 cases a with
 | none=>have:=D rfl; subst this; simp at g
 | some u=>
  obtain ⟨m,r⟩:=E u rfl;obtain ⟨b,o,H⟩:=u;simp only at m r;have m:H=none:=m.resolve_left (fun e=>by subst e; simp at g);subst m;unfold LU at l;split at l
  ·rename_i el A;rw [PZ] at r;have B:=r j.toNat e q;have C:0<=j∧j<(es.length:Int):=by omega
   refine ⟨.pointer (some ⟨b,o+j.toNat*n,none⟩),?_,?_⟩
   ·simp [Instr.indexAt,asIntOf,run_underlying A,C,D7 l,Addr.add_lit]
   ·simp only [A7];exact ⟨b,_,rfl,B.1⟩
  ·cases l
end
end Go.Sf
namespace Go.Sf
open Go.RowKit (Below)
def B3 (P:Program) (F0:Nat->Nat->Prop) (w0:W0) (a:Act) (w:World) (o:Oper) (d:Nat) (K:EV->AD->Prop):Prop:=
 ∃ v w',(execOp a.eval o).run P w=.ok (.value v) w'∧∃ e env',K e env'∧DJ F0 w0 ((d,e)::env') (a.put (some d) v) w'
theorem CW:∀ {l:QQ},TV.WFs l↔∀ t∈l,t.WF
 | []=>by simp [TV.WFs]
 | t::l=>by simp [TV.WFs,CW (l:=l)]
theorem KY {t:TV} (h:t.WF):TV.WFs t.cells:=by
 cases t with
 | agg cs=>exact h
 | _=>exact ⟨h,trivial⟩
section
variable {P:Program} {S:FuncId->QQ->CS->Prop} {F0:Nat->Nat->Prop} {w0:W0} {O:AD} {a:Act} {w:World} {G:DT} {d:Nat} {o:Oper} {K:EV->AD->Prop}
variable {v:Value}
theorem DZ (h:AY F0 w0 O a w G) (l:d<a.tmps.size) {t:TV} (g:(execOp a.eval o).run P w=.ok (.value v) w)
  (m:A7 w (A2 w0.heap.size F0 G) t v) (p:t.WF) (q:K (.tv t) O):B3 P F0 w0 a w o d K:=
 ⟨v,w,g,_,_,q,h.tv_same d l t v m p⟩
variable {x:Operand} {y:AL}
theorem Yf (q:AY F0 w0 O a w G) (C:d<a.tmps.size) (g:o.op=.move x∨o.op=.assign x) (m:AR x y=true) (h:(AJ.mv y).wp S O (some d) K):B3 P F0 w0 a w o d K:=by
 simp only [AJ.wp] at h;have hv:(∃ t,y.val O=some t∧K (.tv t) O)∨∃ ts,y.ev O=.tp ts∧K (.tp ts) O:=by
  unfold AL.val;split at h <;> first | exact h.elim | (rename_i t A; exact .inl ⟨t,by rw [A]; rfl,h⟩) | (rename_i t A; exact .inr ⟨t,A,h⟩)
 have l:(execOp a.eval o).run P w=.ok (.value (a.eval x)) w:=by rcases g with g | g <;> simp [execOp,g]
 rcases hv with ⟨t,hv,B⟩ | ⟨ts,hv,B⟩
 ·have:=BU q m hv;exact DZ q C (v:=a.eval x) l this.1 this.2 B
 ·cases y with
  | c t=>simp [AL.ev] at hv
  | s n=>
   have L:x=.tmp n:=by
    cases x <;> simp [AR] at m;rw [m]
   subst L;simp only [AL.ev] at hv;have D:=A9 q hv (by simp);have E:=q.wf n;rw [hv] at E;refine ⟨_,w,l,_,_,B,⟨_,q.quiet (Below.refl _ _) d C (.tp ts) _ (fun _=>none) (by simp) (by simp) (by simp) ?_ E⟩⟩;simp only [AX] at D ⊢;obtain ⟨vs,M,N⟩:=D;refine ⟨vs,M,BS (fun b o u I J=>⟨I,fun r=>J ?_⟩) _ _ N⟩;rcases r with p | ⟨s,i,lo,p,Q⟩
   ·exact .inl p
   ·by_cases H:s=d
    ·subst H; rw [CD] at p; cases p
    ·rw [B2 _ _ _ _ H] at p; exact .inr ⟨s,i,lo,p,Q⟩
theorem bX (l:AY F0 w0 O a w G) (r:d<a.tmps.size) {c x x':Operand} {c' y y':AL} (m:o.op=.pick c x x') (u:AR c c'=true) (D:AR x y=true) (E:AR x' y'=true)
  (h:(AJ.pick c' y y').wp S O (some d) K):B3 P F0 w0 a w o d K:=by
 simp only [AJ.wp] at h;split at h
 ·rename_i q A;have g:=(BU l u A).1;simp only [A7] at g;have p:AR (if q then x else x') (if q then y else y')=true:=by cases q <;> assumption
  have hv:∃ t,(if q then y else y').val O=some t∧K (.tv t) O:=by
   unfold AL.val;split at h <;> first | exact h.elim | (rename_i t B; exact ⟨t,by rw [B]; rfl,h⟩)
  obtain ⟨t,hv,C⟩:=hv;have:=BU l p hv;refine DZ l r (v:=a.eval (if q then x else x')) ?_ this.1 this.2 C;cases q <;> simp [execOp,m,g,asBool]
 ·exact h.elim
variable {t:TypeId}
theorem dc (m:AY F0 w0 O a w G) (p:d<a.tmps.size) (g:o.op=.unOp .not t x) (l:AR x y=true) (h:(AJ.not y).wp S O (some d) K):B3 P F0 w0 a w o d K:=by
 simp only [AJ.wp] at h;split at h
 ·rename_i b hv;have:=(BU m l hv).1;simp only [A7] at this;exact DZ m p (v:=.bool !b) (t:=.bool !b) (by simp [execOp,g,this,Op.unary]) rfl trivial h
 ·exact h.elim
theorem db (m:AY F0 w0 O a w G) (p:d<a.tmps.size) (g:o.op=.unOp .neg t x) (l:AR x y=true) (h:(AJ.neg y).wp S O (some d) K):B3 P F0 w0 a w o d K:=by
 simp only [AJ.wp] at h;split at h
 ·rename_i k n hv;have:=(BU m l hv).1;simp only [A7] at this;exact DZ m p (v:=.int k (k.wrap (-n))) (t:=.int k (k.wrap (-n))) (by simp [execOp,g,this,Op.unary,Op.intArith]) rfl (Li k _) h
 ·exact h.elim
theorem dS (m:AY F0 w0 O a w G) (p:d<a.tmps.size) {s t:TypeId} {k q:IntKind} (g:o.op=.convert s t x) (r:P.underlying s=some (.int q)) (u:P.underlying t=some (.int k)) (l:AR x y=true) (h:(AJ.cvt k y).wp S O (some d) K):B3 P F0 w0 a w o d K:=by
 simp only [AJ.wp] at h;split at h
 ·rename_i A n hv;have:=(BU m l hv).1;simp only [A7] at this;refine DZ m p (v:=.int k (k.wrap n)) (t:=.int k (k.wrap n)) ?_ rfl (Li k _) h;simp [execOp,g,this,convert,run_underlying r,run_underlying u,Conv.intToInt]
 ·exact h.elim
variable {f:FuncId} {ys:List AL}
theorem dO (m:AY F0 w0 O a w G) (p:d<a.tmps.size) {xs:Array Operand} (g:o.op=.makeFunc (.func f) #[] xs) (l:DL xs.toList ys=true) (h:(AJ.clo f ys).wp S O (some d) K):B3 P F0 w0 a w o d K:=by
 simp only [AJ.wp] at h;cases hv:vals O ys with
 | none=>rw [hv] at h; exact h.elim
 | some ts=>
  rw [hv] at h;have:=KH m l hv;refine DZ m p (v:=.func (.func f) #[] (xs.map a.eval)) (by simp [execOp,g,Instr.makeFunc]) ?_ (by simpa [TV.WF] using this.2) h;simp only [A7];exact ⟨_,rfl,by simpa using this.1⟩
theorem dT (l:AY F0 w0 O a w G) (A:d<a.tmps.size) {s i:Nat} (m:o.op=.extract (.tmp s) i) (h:(AJ.ext (.s s) i).wp S O (some d) K):B3 P F0 w0 a w o d K:=by
 simp only [AJ.wp,AL.ev] at h;split at h
 ·rename_i ts hv;cases g:ts[i]? with
  | none=>rw [g] at h; exact h.elim
  | some t=>
   rw [g] at h;have q:=A9 l hv (by simp);have r:=l.wf s;rw [hv] at r;simp only [AX] at q;obtain ⟨vs,D,u⟩:=q;rw [CP] at u;have B:i<ts.length:=by
    rcases Nat.lt_or_ge i ts.length with h | h
    ·exact h
    ·rw [List.getElem?_eq_none h] at g; cases g
   have C:vs.toList[i]?=some (vs.toList[i]'(by omega)):=List.getElem?_eq_getElem (by omega);have p:vs[i]?=some (vs.toList[i]'(by omega)):=by simp
   refine DZ l A (v:=vs.toList[i]'(by omega)) ?_ (u.2 i t _ g C) ?_ h
   ·simp [execOp,m,show a.eval (.tmp s)=slot a s from rfl,D,Instr.extract,p]
   ·exact CW.1 r t (List.mem_of_getElem? g)
 ·exact h.elim
variable {e:TypeId}
theorem dY (m:AY F0 w0 O a w G) (p:d<a.tmps.size) (g:o.op=.call { callee:=.builtin .len,args:=#[x],argTypes:=#[t] }) (l:AR x y=true)
  (q:P.underlying t=some (.slice e)) (h:(AJ.len y).wp S O (some d) K):B3 P F0 w0 a w o d K:=by
 simp only [AJ.wp] at h;split at h
 ·rename_i n es hv;have:=BU m l hv;simp only [A7,TV.WF,I0] at this;obtain ⟨⟨u,cap,r,_⟩,A⟩:=this;refine DZ m p (v:=.int .i64 es.length) (t:=.int .i64 es.length) ?_ rfl ⟨by simp only [IntKind.min,IntKind.signed,IntKind.bits,if_true]; omega,by simp only [IntKind.max_i64]; omega⟩ h;simp [execOp,g,resolve,invoke,builtin,Builtin.len_,run_underlying q,r,goInt]
 ·exact h.elim
theorem bZ (m:AY F0 w0 O a w G) (p:d<a.tmps.size) (g:o.op=.call { callee:=.builtin .len,args:=#[x],argTypes:=#[t] }) (l:AR x y=true)
  (q:P.underlying t=some .string) (h:(AJ.slen y).wp S O (some d) K):B3 P F0 w0 a w o d K:=by
 simp only [AJ.wp] at h;split at h
 ·rename_i s hv;have:=BU m l hv;simp only [A7,TV.WF,I0] at this;refine DZ m p (v:=.int .i64 s.size) (t:=.int .i64 s.size) ?_ rfl ⟨by simp only [IntKind.min,IntKind.signed,IntKind.bits,if_true]; omega,by simp only [IntKind.max_i64]; omega⟩ h;simp [execOp,g,resolve,invoke,builtin,Builtin.len_,run_underlying q,this.1,goInt]
 ·exact h.elim
end
end Go.Sf
namespace Go.Sf
open Go.RowKit (Below)
section
variable {P:Program} {S:FuncId->QQ->CS->Prop} {F0:Nat->Nat->Prop} {w0:W0} {O:AD} {a:Act} {w:World} {G:DT} {d:Nat} {o:Oper} {K:EV->AD->Prop}
variable {s:Nat} {c:At}
theorem S3 (g:AY F0 w0 O a w G) {i:Option Nat} {x:Value} (h:C6 w (A2 w0.heap.size F0 G) (G s i) c x):A7 w (A2 w0.heap.size F0 G) c.t x:=by
 obtain ⟨_ | _,t⟩:=c
 ·exact h.1
 ·exact JE.rep h (fun b lo o l ho=>O0 g b lo o l ho)
variable {z:Option (Nat × Nat)}
theorem SW {F:Nat->Nat->Prop} {t:TV} {x:Value} (h:C3 w F z t x):x.oneCell'=true:=by
 cases t <;> simp only [C3] at h;obtain ⟨xs,l,_⟩:=h;rcases l.2 with ⟨rfl,_⟩ | ⟨g,cap,m,e,rfl,_⟩ <;> rfl
theorem TB {F:Nat->Nat->Prop} {t:TV} {x:Value} (h:JE w F z t x):x.oneCell'=true:=by
 by_cases l:∃ n es,t=.xl n es
 ·obtain ⟨n,es,rfl⟩:=l;simp only [JE,K5] at h;obtain ⟨xs,⟨q,m,_⟩,_⟩:=h;rcases m.2 with ⟨rfl,_⟩ | ⟨g,cap,p,e,rfl,_⟩ <;> rfl
 ·refine SW (w:=w) (F:=F) (z:=z) (t:=t) ?_;cases t <;> first | exact h | exact absurd ⟨_,_,rfl⟩ l
theorem ML {F:Nat->Nat->Prop} {x:Value} (h:C6 w F z c x):x.oneCell'=true:=by
 obtain ⟨_ | _,t⟩:=c
 ·exact h.2
 ·exact TB h
variable {x:Operand} {y:AL}
theorem PB (D:AY F0 w0 O a w G) (E:AR x y=true) {cs:QQ} (h:BZ O (y.ev O)=some cs) :
  ∃ b o vs,a.eval x=.pointer (some ⟨b,o,none⟩)∧AS w (A2 w0.heap.size F0 G) cs vs∧TV.WFs cs∧(∀ x∈vs,x.oneCell'=true)∧∀ (j:Nat) (v:Value),vs[j]?=some v->w.cell? ((⟨b,o,none⟩:Addr).add j)=some v:=by
 have box:∀ (s g:Nat) (r:List At),O.get s=.bx r->∃ b vs,slot a s=.pointer (some ⟨b,0,none⟩)∧AS w (A2 w0.heap.size F0 G) ((r.drop g).map (·.t)) vs∧TV.WFs ((r.drop g).map (·.t))∧(∀ x∈vs,x.oneCell'=true)∧∀ (j:Nat) (v:Value),vs[j]?=some v->w.cell? ((⟨b,g,none⟩:Addr).add j)=some v:=by
  intro s g r U;have p:=A9 D U (by simp);have L:=D.wf s;rw [U] at L;simp only [AX] at p;obtain ⟨b,c,T,A,B,H,C,u⟩:=p;refine ⟨b,c.toList.drop g,A,?_,?_,?_,?_⟩
  ·rw [CP];refine ⟨by simp [H],fun i t v J hv=>?_⟩;simp only [List.getElem?_map,List.getElem?_drop,Option.map_eq_some_iff] at J hv;obtain ⟨cell,m,rfl⟩:=J;obtain ⟨x,I,p⟩:=u (g+i) cell m;have:x=v:=by
    have:c.toList[g+i]?=some x:=by simpa using I
    rw [this] at hv; simpa using hv
   subst this;exact S3 D p
  ·rw [CW];intro t J;simp only [List.mem_map] at J;obtain ⟨cell,m,rfl⟩:=J;exact L cell (List.mem_of_mem_drop m)
  ·intro x I;obtain ⟨i,hi,rfl⟩:=List.getElem_of_mem I;rw [List.getElem_drop];have M:g+i<c.size:=by simp at hi; omega
   have Q:r[g+i]?=some (r[g+i]'(by omega)):=List.getElem?_eq_getElem (by omega);obtain ⟨x,I,p⟩:=u (g+i) _ Q;have:c.toList[g+i]'(by simpa using M)=x:=by
    have:c[g+i]?=some c[g+i]:=Array.getElem?_eq_getElem M;rw [this] at I;simpa using I
   rw [this];exact ML p
  ·intro j v hv;rw [List.getElem?_drop] at hv;rw [Addr.add_lit,cell_of_row w b (g+j) c T (0,0) B];simpa using hv
 cases y with
 | c t=>
  simp only [AL.ev] at h;cases t <;> simp [BZ] at h;subst h;have:=BU D E (t:=.pt _) rfl;simp only [A7,TV.WF] at this;obtain ⟨⟨b,o,A,B⟩,H⟩:=this;obtain ⟨vs,C,N,u⟩:=Qp B;exact ⟨b,o,vs,A,C,H,N,u⟩
 | s n=>
  cases x <;> simp [AR] at E;subst E;rename_i n;simp only [AL.ev] at h;cases l:O.get n with
  | tv t=>
   rw [l] at h;cases t <;> simp [BZ] at h;subst h;have p:=A9 D l (by simp);have L:=D.wf n;rw [l] at L;simp only [AX,A7] at p;obtain ⟨b,o,A,B⟩:=p;obtain ⟨vs,C,N,u⟩:=Qp B;exact ⟨b,o,vs,A,C,by simpa [EV.WF,TV.WF] using L,N,u⟩
  | bx r=>
   rw [l] at h;simp only [BZ,zzY] at h;subst h;obtain ⟨b,vs,A,B,H,R,C⟩:=box n 0 r l;exact ⟨b,0,vs,A,by simpa using B,by simpa using H,R,C⟩
  | bp q g=>
   rw [l] at h;simp only [BZ] at h;split at h
   ·rename_i r V;simp only [zzY] at h;subst h;obtain ⟨b,vs,A,B,H,R,C⟩:=box q g r V;have p:=A9 D l (by simp);simp only [AX] at p;obtain ⟨W,u,N⟩:=p ⟨r,V⟩;rw [A] at u;simp only [Value.pointer.injEq,zzY,Addr.mk.injEq,and_true,and_self] at u;subst u;exact ⟨b,g,vs,N,B,H,R,C⟩
   ·cases h
  | undef=>rw [l] at h; simp [BZ] at h
  | sk=>rw [l] at h; simp [BZ] at h
  | xo n es=>rw [l] at h; simp [BZ] at h
  | la q i=>rw [l] at h; simp [BZ] at h
  | oag cs=>rw [l] at h; simp [BZ] at h
  | lp q i c=>rw [l] at h; simp [BZ] at h
  | ow t=>rw [l] at h; simp [BZ] at h
  | tp ts=>rw [l] at h; simp [BZ] at h
variable {t:TypeId}
theorem gk (p:AY F0 w0 O a w G) (B:d<a.tmps.size) (g:o.op=.load t x) (l:AR x y=true) (C:DV P t=some false) (h:(AJ.ld y).wp S O (some d) K):B3 P F0 w0 a w o d K:=by
 simp only [AJ.wp] at h;cases m:BZ O (y.ev O) with
 | none=>rw [m] at h; exact h.elim
 | some cs=>
  rw [m] at h;simp only [BB] at h;obtain ⟨b,D,vs,E,A,H,_,I⟩:=PB p l m;cases cs with
  | nil=>simp [IG] at h
  | cons u r=>
   simp only [IG] at h;replace h:=h.2;simp only [AS] at A;obtain ⟨v,L,rfl,J,M⟩:=A;have q:=I 0 v rfl;rw [Addr.add_zero'] at q;refine DZ p B (v:=v) ?_ J H.1 h;simp [execOp,g,E,Instr.loadAt,Instr.sureAddr,loadVar,FV C,q]
variable {n:Nat}
theorem XJ (C:AY F0 w0 O a w G) (E:d<a.tmps.size) (l:o.op=.load t x) (m:AR x y=true) (p:DV P t=some true) (H:FK P t=some n) (h:(AJ.lda y n).wp S O (some d) K):B3 P F0 w0 a w o d K:=by
 simp only [AJ.wp] at h;cases r:BZ O (y.ev O) with
 | none=>rw [r] at h; exact h.elim
 | some cs=>
  rw [r] at h;simp only [BB] at h;obtain ⟨b,u,vs,L,A,D,B,M⟩:=PB C m r;have J:=CN A;have g:=run_loadCells_list (P:=P) w ⟨b,u,none⟩ (vs.take n) (fun j v hv=>M j v (by rw [List.getElem?_take] at hv; split at hv <;> simp_all));rw [d5,Nat.min_eq_left (by omega)] at g;refine DZ C E (v:=.agg (vs.take n).toArray) (t:=.agg (cs.take n)) ?_ ?_ ?_ h.2
  ·simp [execOp,l,L,Instr.loadAt,Instr.sureAddr,loadVar,FV p,D7 H,g]
  ·simp only [A7];refine ⟨_,rfl,?_,by rw [List.all_eq_true]; exact fun x I=>B x (List.mem_of_mem_take I)⟩;rw [CP] at A ⊢;refine ⟨by simp [J],fun i t v hi hv=>?_⟩;simp only [List.getElem?_take] at hi hv;split at hi
   ·rename_i q;rw [d1 q] at hv;exact A.2 i t v hi hv
   ·cases hi
  ·simp only [TV.WF];rw [CW] at D ⊢;exact fun t p=>D t (List.mem_of_mem_take p)
variable {i:Operand} {j:AL}
theorem dU (l:AY F0 w0 O a w G) (C:d<a.tmps.size) (q:o.op=.indexAddr t x i) (r:AR x y=true) (g:AR i j=true) (D:LU P t=some n) (h:(AJ.iad y j n).wp S O (some d) K):B3 P F0 w0 a w o d K:=by
 simp only [AJ.wp] at h;split at h
 ·rename_i m es k N E H;obtain ⟨rfl,I,e,B,J⟩:=h;have u:=BU l r E;have A:=BU l g H;simp only [A7] at A;obtain ⟨p,L,M⟩:=Za (P:=P) (k:=k) D u.1 I B;refine DZ l C (v:=p) (by simp [execOp,q,A.1,L]) M ?_ J;simp only [TV.WF] at u ⊢;have:=CW.1 u.2.2 e (List.mem_of_getElem? B);exact KY this
 ·exact h.elim
theorem bY (l:AY F0 w0 O a w G) (u:d<a.tmps.size) (m:o.op=.index t x i) (p:AR x y=true) (g:AR i j=true) (A:P.underlying t=some .string) (h:(AJ.sidx y j).wp S O (some d) K):B3 P F0 w0 a w o d K:=by
 simp only [AJ.wp] at h;split at h
 ·rename_i s k I B C;obtain ⟨D,b,E,H⟩:=h;have q:=BU l p B;have r:=BU l g C;simp only [A7] at q r;refine DZ l u (v:=.int .u8 b.toNat) (t:=.int .u8 b.toNat) ?_ rfl ⟨by simp [IntKind.min,IntKind.signed],?_⟩ H
  ·simp [execOp,m,q.1,r.1,Instr.index,asIntOf,run_underlying A,D,E]
  ·have:=b.toNat_lt;simp [IntKind.max,IntKind.signed,IntKind.bits]; omega
 ·exact h.elim
theorem YE {f k:Nat} (l:o.op=.fieldAddr t x f) (m:Ow P t f=some k):∀ b g,a.eval x=.pointer (some ⟨b,g,none⟩)->(execOp a.eval o).run P w=.ok (.value (.pointer (some ⟨b,g+k,none⟩))) w:=by
 intro b g h;simp [execOp,l,h,SJ m]
theorem Of (g:o.op=.move x∨o.op=.assign x∨o.op=.nilCheck x):∀ b l,a.eval x=.pointer (some ⟨b,l,none⟩)->(execOp a.eval o).run P w=.ok (.value (.pointer (some ⟨b,l+0,none⟩))) w:=by
 intro b l h;rcases g with g | g | g <;> simp [execOp,g,h]
variable {k:Nat}
theorem Qt (A:AY F0 w0 O a w G) (C:d<a.tmps.size) (l:∀ b g,a.eval x=.pointer (some ⟨b,g,none⟩)->(execOp a.eval o).run P w=.ok (.value (.pointer (some ⟨b,g+k,none⟩))) w) (m:AR x y=true) (h:(AJ.fad y k).wp S O (some d) K):B3 P F0 w0 a w o d K:=by
 simp only [AJ.wp] at h;split at h
 ·rename_i row r;have D:=T4 A m r;simp only [A7,TV.WF] at D;obtain ⟨⟨b,g,L,M⟩,H⟩:=D;refine DZ A C (v:=.pointer (some ⟨b,g+k,none⟩)) (t:=.pt (row.drop k)) (l _ _ L) ?_ ?_ h
  ·simp only [A7];exact ⟨b,_,rfl,Nw M k⟩
  ·simp only [TV.WF];rw [CW] at H ⊢;exact fun t I=>H t (List.mem_of_mem_drop I)
 ·rename_i q g r;cases y with
  | c t=>simp [AL.ev] at r
  | s n=>
   cases x <;> simp [AR] at m;subst m;rename_i n;simp only [AL.ev] at r;have E:=A9 A r (by simp);simp only [AX] at E;split at h
   ·rename_i B J;obtain ⟨b,N,Q⟩:=E ⟨B,J⟩;refine ⟨.pointer (some ⟨b,g+k,none⟩),w,l _ _ Q,_,_,h,_,A.quiet (Below.refl _ _) d C (.bp q (g+k)) _ (fun _=>none) (by simp) (by simp) (by simp) ?_ trivial⟩;simp only [AX];rintro ⟨cs,p⟩;rw [AD.get_cons] at p;by_cases u:d=q
    ·rw [d1 u] at p; cases p
    ·exact ⟨b,by rw [BN _ _ _ _ u]; exact N,rfl⟩
   ·exact h.elim
 ·exact h.elim
theorem O4 (r:AY F0 w0 O a w G) (A:d<a.tmps.size) (l:∀ b g,a.eval (.tmp s)=.pointer (some ⟨b,g,none⟩)->(execOp a.eval o).run P w=.ok (.value (.pointer (some ⟨b,g+k,none⟩))) w) (h:(AJ.bad s k).wp S O (some d) K):B3 P F0 w0 a w o d K:=by
 simp only [AJ.wp] at h;split at h
 ·rename_i cs u;have B:=A9 r u (by simp);simp only [AX] at B;obtain ⟨b,c,T,q,_⟩:=B;refine ⟨.pointer (some ⟨b,0+k,none⟩),w,l _ _ q,_,_,h,_,r.quiet (Below.refl _ _) d A (.bp s k) _ (fun _=>none) (by simp) (by simp) (by simp) ?_ trivial⟩;simp only [AX];rintro ⟨cs',m⟩;rw [AD.get_cons] at m;by_cases p:d=s
  ·rw [d1 p] at m; cases m
  ·exact ⟨b,by rw [BN _ _ _ _ p]; exact q,by simp⟩
 ·rename_i row u;have q:=T4 r (x:=.tmp s) (y:=.s s) (by simp [AR]) u;simp only [A7,TV.WF] at q;obtain ⟨⟨b,g,E,H⟩,C⟩:=q;refine DZ r A (v:=.pointer (some ⟨b,g+k,none⟩)) (t:=.pt (row.drop k)) (l _ _ E) ?_ ?_ h
  ·simp only [A7];exact ⟨b,_,rfl,Nw H k⟩
  ·simp only [TV.WF];rw [CW] at C ⊢;exact fun t D=>C t (List.mem_of_mem_drop D)
 ·exact h.elim
variable {e:TypeId}
theorem dJ (q:AY F0 w0 O a w G) (H:d<a.tmps.size) (r:o.op=.indexAddr t x i) (u:AR x y=true) (l:AR i j=true) (A:P.underlying t=some (.array k e)) (I:FK P e=some n)
  (h:(AJ.aad y j n k).wp S O (some d) K):B3 P F0 w0 a w o d K:=by
 simp only [AJ.wp] at h;split at h
 ·rename_i row T m J B;obtain ⟨M,C,D,N⟩:=h;have p:=(BU q l B).1;simp only [A7] at p;have L:∃ b g,a.eval x=.pointer (some ⟨b,g,none⟩)∧EN w (A2 w0.heap.size F0 G) row b g∧TV.WFs row:=by
   have:=T4 q u J;simp only [A7,TV.WF] at this;obtain ⟨⟨b,o,C,D⟩,p⟩:=this;exact ⟨b,o,C,D,p⟩
  obtain ⟨b,g,Q,R,E⟩:=L;have B:0<=m∧m<(k:Int):=⟨M,C⟩;refine DZ q H (v:=.pointer (some ⟨b,g+m.toNat*n,none⟩)) (t:=.pt (row.drop (m.toNat*n))) ?_ ?_ ?_ N
  ·simp [execOp,r,p,Q,Instr.indexAt,asIntOf,run_underlying A,B,Instr.sureAddr,D7 I,Addr.add_lit]
  ·simp only [A7];exact ⟨b,_,rfl,Nw R _⟩
  ·simp only [TV.WF];rw [CW] at E ⊢;exact fun t A=>E t (List.mem_of_mem_drop A)
 ·exact h.elim
def ZI (P:Program) (t:TypeId) (j:Operand) (k:Nat):Bool:=
 match j,P.underlying t with
 | .const (.int _ i),some (.array m e)=>decide (0<=i)&&decide (i<(m:Int))&&(match FK P e with
  | some n=>i.toNat*n==k
  | none=>false)
 | _,_=>false
theorem fC {P:Program} {o:Oper} {a:Act} {w:World} {j:Operand} (q:o.op=.indexAddr t (.tmp s) j) (g:ZI P t j k=true) (b l:Nat) (h:a.eval (.tmp s)=.pointer (some ⟨b,l,none⟩)):(execOp a.eval o).run P w=.ok (.value (.pointer (some ⟨b,l+k,none⟩))) w:=by
 unfold ZI at g;split at g
 ·rename_i r i m e u;simp only [zzZ,zzX] at g;obtain ⟨⟨D,E⟩,p⟩:=g;split at p
  ·rename_i n A;simp only [beq_iff_eq] at p;subst p;have B:0<=i∧i<(m:Int):=⟨D,E⟩;have C:a.eval (.const (.int r i))=.int r i:=rfl;simp [execOp,q,h,C,Instr.indexAt,asIntOf,run_underlying u,B,Instr.sureAddr,D7 A,Addr.add_lit]
  ·cases p
 ·cases g
def R0 (g:TypeId->Option ci) (P:Program):List Field->Nat->Option ci
 | [],_=>some []
 | f::fs,off=>match g f.type with
  | some ks => if (f.name ≠ "_" ∧ f.offset = off) ∧ FK P f.type = some ks.length then (match R0 g P fs (off + ks.length) with | some r => some (ks ++ r) | none => none) else none
  | none=>none
def OW (P:Program):Nat->TypeId->Option ci
 | 0,_=>none
 | k+1,t=>match P.underlying t with
  | some (.int _)=>some [0]
  | some .string=>some [1]
  | some .bool=>some [2]
  | some (.struct fs)=>if P.stoodInHeld t then none else R0 (OW P k) P fs.toList 0
  | _=>none
def Qa (P:Program):BK->TypeId->Bool
 | .i,_=>true
 | .s,_=>true
 | .w,_=>true
 | .b,t=>match P.underlying t with | some .bool=>true | _=>false
 | .a n,t=>DV P t==some true&&!P.eqGuardType P.depth t&&OW P 8 t==some n
def TV.leafV:TV->Value
 | .int k n=>.int k n
 | .str s=>.string s
 | .bool b=>.bool b
 | _=>Go.undef
def TV.leafB:TV->Bool
 | .int _ _=>true
 | .str _=>true
 | .bool _=>true
 | _=>false
theorem Pj:∀ {cs g:QQ} {r:Bool},CY cs g=some r->cs.length=g.length∧(∀ t∈cs,t.leafB=true)∧(∀ t∈g,t.leafB=true)
 | [],[],_,_=>by simp
 | [],_::_,_,h=>by simp [CY] at h
 | c::cs,[],_,h=>by cases c <;> simp [CY] at h
 | c::cs,d::g,r,h=>by
  have key:∀ p,CY cs g=some p->c.leafB=true->d.leafB=true->(c::cs).length=(d::g).length∧(∀ t∈c::cs,t.leafB=true)∧(∀ t∈d::g,t.leafB=true):=by
   intro p l u A;obtain ⟨B,C,D⟩:=Pj l;refine ⟨by simp [B],?_,?_⟩
   ·intro t m;rcases List.mem_cons.1 m with rfl | m
    ·exact u
    ·exact C t m
   ·intro t m;rcases List.mem_cons.1 m with rfl | m
    ·exact A
    ·exact D t m
  cases c <;> cases d <;> simp only [CY,reduceCtorEq] at h
  ·split at h
   ·split at h
    ·rename_i q l; exact key q l rfl rfl
    ·cases h
   ·cases h
  ·split at h
   ·rename_i q l; exact key q l rfl rfl
   ·cases h
  ·split at h
   ·rename_i q l; exact key q l rfl rfl
   ·cases h
variable {v:Value}
theorem cx {F:Nat->Nat->Prop} {t:TV} (g:t.leafB=true) (h:A7 w F t v):v=t.leafV:=by
 cases t <;> simp only [TV.leafB,reduceCtorEq] at g <;> exact h
theorem Pn {F:Nat->Nat->Prop}:∀ {cs:QQ} {xs:List Value},(∀ t∈cs,t.leafB=true)->AS w F cs xs->xs=cs.map TV.leafV
 | [],_,_,h=>h
 | c::cs,xs,g,h=>by
  simp only [AS] at h;obtain ⟨v,r,rfl,m,p⟩:=h;rw [cx (g c (by simp)) m,Pn (fun t l=>g t (by simp [l])) p];rfl
theorem Mt:∀ (m:Nat) {cs l:QQ} {r:Bool},CY cs l=some r->∃ p g,CY (cs.take m) (l.take m)=some p∧CY (cs.drop m) (l.drop m)=some g∧r=(p&&g)
 | 0,cs,l,r,h=>⟨true,r,by simp [CY],by simpa using h,by simp⟩
 | m+1,[],[],r,h=>by
  simp only [CY,zzY] at h;subst h;exact ⟨true,true,by simp [CY],by simp [CY],rfl⟩
 | m+1,[],_::_,_,h=>by simp [CY] at h
 | m+1,c::cs,[],_,h=>by cases c <;> simp [CY] at h
 | m+1,c::cs,d::l,r,h=>by
  cases c <;> cases d <;> simp only [CY,reduceCtorEq] at h
  ·split at h
   ·rename_i D;split at h
    ·rename_i q u;obtain ⟨p,g,A,B,C⟩:=Mt m u;simp only [zzY] at h;refine ⟨_,g,by simp only [List.take_succ_cons,CY,d1 D,A]; rfl,by simpa using B,by rw [←h,C,Bool.and_assoc]⟩
    ·cases h
   ·cases h
  ·split at h
   ·rename_i q u;obtain ⟨p,g,A,B,C⟩:=Mt m u;simp only [zzY] at h;refine ⟨_,g,by simp only [List.take_succ_cons,CY,A]; rfl,by simpa using B,by rw [←h,C,Bool.and_assoc]⟩
   ·cases h
  ·split at h
   ·rename_i q u;obtain ⟨p,g,A,B,C⟩:=Mt m u;simp only [zzY] at h;refine ⟨_,g,by simp only [List.take_succ_cons,CY,A]; rfl,by simpa using B,by rw [←h,C,Bool.and_assoc]⟩
   ·cases h
def Lh (P:Program) (t:TypeId) (vs:List Value):Value:=if DV P t=some true then .agg vs.toArray else vs.headD Go.undef
theorem PH:∀ {cs l:QQ} {r:Bool},CY cs l=some r->l.map TV.kd=cs.map TV.kd
 | [],[],_,_=>rfl
 | [],_::_,_,h=>by simp [CY] at h
 | c::cs,[],_,h=>by cases c <;> simp [CY] at h
 | c::cs,d::l,r,h=>by
  cases c <;> cases d <;> simp only [CY,reduceCtorEq] at h
  ·split at h
   ·split at h
    ·rename_i q g; simp only [List.map_cons,PH g,TV.kd]
    ·cases h
   ·cases h
  ·split at h
   ·rename_i q g; simp only [List.map_cons,PH g,TV.kd]
   ·cases h
  ·split at h
   ·rename_i q g; simp only [List.map_cons,PH g,TV.kd]
   ·cases h
theorem Ut (k:Nat) (W:∀ (t:TypeId) (n:ci),OW P k t=some n->∀ d,k<=d->∀ (cs q:QQ) (r:Bool),cs.map TV.kd=n->CY cs q=some r->(Op.equalIn d t (Lh P t (cs.map TV.leafV)) (Lh P t (q.map TV.leafV))).run P w=.ok r w) :
  ∀ (J:List Field) (p:Nat) (n:ci),R0 (OW P k) P J p=some n->∀ d,k<=d->∀ (g m:List Value) (cs q:QQ) (r:Bool),g.length=p->m.length=p->cs.map TV.kd=n->CY cs q=some r ->
   (Op.eqFields d (g++cs.map TV.leafV).toArray (m++q.map TV.leafV).toArray J).run P w=.ok r w
 | [],p,n,A,d,V,g,m,cs,q,r,h1,h2,I,h=>by
  simp only [R0,zzY] at A;subst A;have:cs=[]:=List.map_eq_nil_iff.1 I;subst this;cases q <;> simp [CY] at h;subst h;simp [Op.eqFields]
 | f::J,p,n,A,d,V,g,m,cs,q,r,h1,h2,I,h=>by
  simp only [R0] at A;split at A
  ·rename_i l B;split at A
   ·rename_i hc;split at A
    ·rename_i rest H;simp only [zzY] at A;subst A;obtain ⟨⟨hn,ho⟩,T⟩:=hc;have hcl:cs.length=l.length+rest.length:=by
      have:=congrArg List.length I;simpa using this
     obtain ⟨r1,r2,e1,e2,rfl⟩:=Mt l.length h;have Z:=(Pj h).1;have hdl:q.length=l.length+rest.length:=by omega
     have Q:(cs.take l.length).map TV.kd=l:=by rw [List.map_take,I,List.take_left']; rfl
     have R:(cs.drop l.length).map TV.kd=rest:=by rw [List.map_drop,I,List.drop_left']; rfl
     have hi:=W f.type l B d V (cs.take l.length) (q.take l.length) r1 Q e1;have E:=Ut k W J (p+l.length) rest H d V (g++(cs.take l.length).map TV.leafV) (m++(q.take l.length).map TV.leafV) (cs.drop l.length) (q.drop l.length) r2 (by simp; omega) (by simp; omega) R e2;have C:∀ (g:List Value) (cs:QQ),g++(cs.take l.length).map TV.leafV++(cs.drop l.length).map TV.leafV=g++cs.map TV.leafV:=by
      intro g cs;rw [ea,←List.map_append,List.take_append_drop]
     rw [C,C] at E;have D:∀ (g:List Value) (cs:QQ),g.length=p->l.length<=cs.length->(0<l.length∨DV P f.type=some true)->(∃ b,DV P f.type=some b)->(part f.type (g++cs.map TV.leafV).toArray f.offset).run P w=.ok (Lh P f.type ((cs.take l.length).map TV.leafV)) w:=by
      intro g cs Y M N u;obtain ⟨b,u⟩:=u;cases b with
      | true=>
       simp only [part,Sem.run_bind,FV u,Result.andThen_ok,if_true,D7 T,Sem.run_pure,Lh,u];congr 2;rw [List.extract_toArray,List.extract_eq_take_drop,ho,←Y,List.drop_left,Nat.add_sub_cancel_left,←List.map_take]
      | false=>
       have h0:0<l.length:=by
        rcases N with h | h
        ·exact h
        ·rw [u] at h; cases h
       cases cs with
       | nil=>exact absurd (Nat.lt_of_lt_of_le h0 M) (by simp)
       | cons c cs=>
        obtain ⟨X,U⟩:∃ X,l.length=X+1:=⟨l.length - 1,by omega⟩;have:((g++(c::cs).map TV.leafV).toArray)[f.offset]?=some c.leafV:=by
         rw [List.getElem?_toArray,ho,←Y,List.getElem?_append_right (d3 _),Nat.sub_self]; rfl
        simp only [part,Sem.run_bind,FV u,Result.andThen_ok,Bool.false_eq_true,if_false,this,Sem.run_pure,Lh,u,U];simp
     have u:(∃ b,DV P f.type=some b)∧(0<l.length∨DV P f.type=some true):=by
      cases k with
      | zero=>simp [OW] at B
      | succ k=>
       simp only [OW] at B;unfold DV;split at B <;> rename_i L
       ·simp only [zzY] at B; subst B; rw [L]; exact ⟨⟨_,rfl⟩,.inl (by simp)⟩
       ·simp only [zzY] at B; subst B; rw [L]; exact ⟨⟨_,rfl⟩,.inl (by simp)⟩
       ·simp only [zzY] at B; subst B; rw [L]; exact ⟨⟨_,rfl⟩,.inl (by simp)⟩
       ·rw [L]; exact ⟨⟨_,rfl⟩,.inr rfl⟩
       ·cases B
     have p1:=D g cs h1 (by omega) u.2 u.1;have p2:=D m q h2 (by omega) u.2 u.1;simp only [Op.eqFields,Sem.run_bind,Sem.run_ite,d1 hn,p1,p2,hi,Result.andThen_ok];cases r1 with
     | true=>simpa using E
     | false=>simp
    ·cases A
   ·cases A
  ·cases A
theorem Z9 (a b:ByteArray):(a.toList==b.toList)=decide (a=b):=by
 rw [Bool.eq_iff_iff,beq_iff_eq,zzX];refine ⟨fun h=>?_,fun h=>by rw [h]⟩;rw [ByteArray.toList_eq,ByteArray.toList_eq] at h;cases a; cases b;simpa using h
theorem YD:∀ (k:Nat) (t:TypeId) (n:ci),OW P k t=some n->∀ d,k<=d->∀ (cs m:QQ) (r:Bool),cs.map TV.kd=n->CY cs m=some r->(Op.equalIn d t (Lh P t (cs.map TV.leafV)) (Lh P t (m.map TV.leafV))).run P w=.ok r w
 | 0,_,_,h,_,_,_,_,_,_,_=>by simp [OW] at h
 | k+1,t,n,g,d,T,cs,m,r,I,h=>by
  obtain ⟨d,rfl⟩:∃ M,d=M+1:=⟨d - 1,by omega⟩;have E:=PH h;simp only [OW] at g;have one:∀ x,n=[x]->DV P t=some false->∃ c e,cs=[c]∧m=[e]∧c.kd=x∧e.kd=x∧Lh P t (cs.map TV.leafV)=c.leafV∧Lh P t (m.map TV.leafV)=e.leafV:=by
   intro x N J;rw [N] at I
   match cs,m,I,E with
   | [c],[e],p,q=>
    simp only [List.map_cons,List.map_nil,List.cons.injEq,and_true] at p q;exact ⟨c,e,rfl,rfl,p,by rw [q,p],by simp [Lh,J],by simp [Lh,J]⟩
   | [],_,p,_=>simp at p
   | [c],[],_,q=>simp at q
   | [c],_::_::_,_,q=>simp at q
   | _::_::_,_,p,_=>simp at p
  split at g <;> rename_i l
  ·simp only [zzY] at g;obtain ⟨c,e,rfl,rfl,A,B,C,D⟩:=one 0 g.symm (by simp [DV,l]);rw [C,D];cases c <;> first | (simp [TV.kd] at A; done) | skip
   cases e <;> first | (simp [TV.kd] at B; done) | skip
   simp only [CY] at h;split at h
   ·rename_i Q;subst Q;simp only [zzY,Bool.and_true] at h;simp only [TV.leafV];rw [run_equalIn_int (P:=P) w d t _ _ _ _ l,←h];congr 1
   ·cases h
  ·simp only [zzY] at g;obtain ⟨c,e,rfl,rfl,A,B,C,D⟩:=one 1 g.symm (by simp [DV,l]);rw [C,D];cases c <;> first | (simp [TV.kd] at A; done) | skip
   cases e <;> first | (simp [TV.kd] at B; done) | skip
   simp only [CY,zzY,Bool.and_true] at h;simp only [TV.leafV];rw [run_equalIn_string (P:=P) w d t _ _ l,←h];congr 1;exact Z9 _ _
  ·simp only [zzY] at g;obtain ⟨c,e,rfl,rfl,A,B,C,D⟩:=one 2 g.symm (by simp [DV,l]);rw [C,D];cases c <;> first | (simp [TV.kd] at A; done) | skip
   cases e <;> first | (simp [TV.kd] at B; done) | skip
   simp only [CY,zzY,Bool.and_true] at h;simp only [TV.leafV];rw [run_equalIn_bool' (P:=P) w d t _ _ l,←h];congr 1
  ·split at g
   ·cases g
   ·rename_i L R;have H:DV P t=some true:=by simp [DV,l]
    have u:P.fieldsOf t=L:=by simp [Program.fieldsOf,l]
    simp only [Lh,H,if_true];rw [run_equalIn_struct w d t _ _ (by rw [u]; exact l) (by simpa using R),u];exact Ut k (YD k) L.toList 0 n g d (by omega) [] [] cs m r rfl rfl I h
  ·cases g
variable {vx vy:Value}
theorem XE {op:BinOp} {x y:Operand} {cs l:QQ} {q:Bool} {n:ci} (E:cs.map TV.kd=n) {F:Nat->Nat->Prop} (A:Qa P (.a n) t=true) (g:A7 w F (.agg cs) vx) (h:A7 w F (.agg l) vy) (B:CY cs l=some q) :
  ∃ xs ys,vx=.agg xs∧vy=.agg ys∧(eqGuard op t x y (.agg xs) (.agg ys)).run P w=.ok () w∧(Op.equalIn 10000 t (.agg xs) (.agg ys)).run P w=.ok q w:=by
 simp only [A7] at g h;obtain ⟨xs,rfl,g,_⟩:=g;obtain ⟨ys,rfl,h,_⟩:=h;simp only [Qa,zzZ,Bool.not_eq_true'] at A;obtain ⟨⟨C,H⟩,D⟩:=A;obtain ⟨I,r,u⟩:=Pj B;refine ⟨xs,ys,rfl,rfl,run_eqGuard_agg w op t x y xs ys H,?_⟩;simp only [beq_iff_eq] at C D;have m:=Pn r g;have p:=Pn u h;have:=YD (P:=P) (w:=w) 8 t n D 10000 (by omega) cs l q E B;simp only [Lh,C,if_true,←m,←p] at this;simpa using this
theorem gM {op:BinOp} {x y:Operand} {k m:IntKind} {a b r:Int} {F:Nat->Nat->Prop} (p:k=m∨op=.shl∨op=.shr) (l:Lu k op a b=some r) :
  ∃ v,(do eqGuard op t x y (.int k a) (.int m b); binOp op t (.int k a) (.int m b):Sem Value).run P w=.ok v w∧A7 w F (.int k r) v∧(TV.int k r).WF:=by
 have g:∀ (op:BinOp) (q:Value),k=m->(op=.and∨op=.or∨op=.xor∨op=.andNot)->(Op.intBits op k a b).run P w=.ok q w->(do eqGuard op t x y (.int k a) (.int m b); binOp op t (.int k a) (.int m b):Sem Value).run P w=.ok q w:=by
  intro op q e ho h;subst e;rcases ho with rfl | rfl | rfl | rfl <;> simpa [eqGuard,binOp] using h
 cases op <;> simp only [Lu] at l <;> try (cases l; done)
 case and=>cases l; exact ⟨_,g _ _ (by simpa using p) (by simp) rfl,rfl,Li _ _⟩
 case or=>cases l; exact ⟨_,g _ _ (by simpa using p) (by simp) rfl,rfl,Li _ _⟩
 case xor=>cases l; exact ⟨_,g _ _ (by simpa using p) (by simp) rfl,rfl,Li _ _⟩
 case andNot=>cases l; exact ⟨_,g _ _ (by simpa using p) (by simp) rfl,rfl,Li _ _⟩
 case shl=>
  split at l
  ·rename_i u;cases l;exact ⟨_,by simp [eqGuard,binOp,Op.shift,Int.not_lt.2 u],rfl,Li _ _⟩
  ·cases l
 case shr=>
  split at l
  ·rename_i u;cases l;exact ⟨_,by simp [eqGuard,binOp,Op.shift,Int.not_lt.2 u.1],rfl,u.2⟩
  ·cases l
theorem gL {k:BK} {op:BinOp} {x y:Operand} {I ty r:TV} {F:Nat->Nat->Prop} (p:Qa P k t=true) (g:F5 k op I ty=some r) (l:A7 w F I vx) (m:A7 w F ty vy) (J:I.WF) (R:ty.WF) :
  ∃ v,(do eqGuard op t x y vx vy; binOp op t vx vy:Sem Value).run P w=.ok v w∧A7 w F r v∧r.WF:=by
 unfold F5 at g;split at g
 ·rename_i k a T b;simp only [A7] at l m;subst l; subst m;split at g
  ·rename_i u;subst u;rw [Sem.run_bind,eqGuard_at_int,Sem.run_pure,Result.andThen_ok];have D:op=.quo∨op=.rem∨(op≠.quo∧op≠.rem):=by cases op <;> simp
   rcases D with rfl | rfl | ⟨A,Y⟩
   ·by_cases B:b=0
    ·simp [intCmp,intArith,B] at g
    ·simp [intCmp,intArith,B] at g;subst g;exact ⟨_,by simp [binOp,Op.intDiv,B],rfl,Li _ _⟩
   ·by_cases B:b=0
    ·simp [intCmp,intArith,B] at g
    ·simp [intCmp,intArith,B] at g;subst g;refine ⟨_,by simp [binOp,Op.intDiv,B],rfl,?_⟩;simp only [TV.WF] at J ⊢;have E:a.tmod b<=max a 0∧min a 0<=a.tmod b:=by
      have H:=Int.natAbs_tmod a b;have h3:=Nat.mod_le a.natAbs b.natAbs;rcases Int.le_total 0 a with h | h
      ·have Q:=Int.tmod_nonneg (a:=a) b h; omega
      ·have Q:=Int.tmod_nonneg (a:=-a) b (by omega);rw [Int.neg_tmod] at Q; omega
     have h4:k.min<=0:=by cases k <;> decide
     have h5:0<=k.max:=by cases k <;> decide
     omega
   ·cases op <;> simp [intCmp,intArith] at g A Y <;> subst g <;> (refine ⟨_,?_,rfl,?_⟩) <;> first | (simp [binOp,Op.intCmp,Op.intArith]; done) | exact trivial | exact Li _ _ | skip
    all_goals (simp [binOp,Op.intCmp]; rw [Bool.eq_iff_iff]; simp)
  ·cases g
 ·rename_i op k a T b;simp only [A7] at l m;subst l; subst m;split at g
  ·rename_i u;split at g
   ·rename_i Z A;simp only [zzY] at g;subst g;exact gM u A
   ·cases g
  ·cases g
 ·simp only [A7] at l m;subst l; subst m;simp only [zzY] at g;subst g;exact ⟨_,by simp [eqGuard,binOp,Op.stringOp,beq_toListBytes],rfl,trivial⟩
 ·simp only [A7] at l m;subst l; subst m;simp only [zzY] at g;subst g;exact ⟨_,by simp [eqGuard,binOp,Op.stringOp,beq_toListBytes],rfl,trivial⟩
 ·simp only [A7] at l m;subst l; subst m;rename_i U V;split at g
  ·rename_i C;simp only [zzY] at g;subst g;have M:¬ (((U.size+V.size:Nat):Int) > IntKind.i64.max):=by
    have X:IntKind.i64.max=9223372036854775807:=by decide
    rw [X];have:=C;unfold BM at this;omega
   refine ⟨_,by simp only [eqGuard,binOp,Op.stringOp]; rw [d2 M]; simp,rfl,by simp only [TV.WF,ByteArray.size_append]; exact Tx C⟩
  ·cases g
 ·simp only [A7] at l m;subst l; subst m;simp only [zzY] at g;subst g;have N:P.underlying t=some .bool:=by
   simp only [Qa] at p;split at p
   ·assumption
   ·cases p
  exact ⟨_,by simp [eqGuard_at_bool,binOp,Op.equal,Op.maxDepth,run_equalIn_bool' (P:=P) w _ t _ _ N],rfl,trivial⟩
 ·simp only [A7] at l m;subst l; subst m;simp only [zzY] at g;subst g;have N:P.underlying t=some .bool:=by
   simp only [Qa] at p;split at p
   ·assumption
   ·cases p
  exact ⟨_,by simp [eqGuard_at_bool,binOp,Op.equal,Op.maxDepth,run_equalIn_bool' (P:=P) w _ t _ _ N],rfl,trivial⟩
 ·rename_i cs W;split at g
  ·rename_i L;split at g
   ·rename_i q A;simp only [zzY] at g;subst g;obtain ⟨xs,ys,rfl,rfl,E,H⟩:=XE (op:=.eql) (x:=x) (y:=y) L p l m A;exact ⟨_,by simp only [Sem.run_bind,E,Result.andThen_ok,run_eql_struct,H],rfl,trivial⟩
   ·cases g
  ·cases g
 ·rename_i cs W;split at g
  ·rename_i L;split at g
   ·rename_i q A;simp only [zzY] at g;subst g;obtain ⟨xs,ys,rfl,rfl,E,H⟩:=XE (op:=.neq) (x:=x) (y:=y) L p l m A;exact ⟨_,by simp only [Sem.run_bind,E,Result.andThen_ok,run_neq_struct,H],rfl,trivial⟩
   ·cases g
  ·cases g
 ·cases g
variable {y':AL}
theorem dM {S:FuncId->QQ->CS->Prop} {F0:Nat->Nat->Prop} {w0:W0} {O:AD} {a:Act} {G:DT} {d:Nat} {o:Oper} {K:EV->AD->Prop} (g:AY F0 w0 O a w G) (A:d<a.tmps.size) {x x':Operand} {k:BK} {op:BinOp} {t B:TypeId}
  (l:o.op=.binOp op t x x' B) (C:Qa P k t=true) (D:AR x y=true) (E:AR x' y'=true) (h:(AJ.bin k op y y').wp S O (some d) K):B3 P F0 w0 a w o d K:=by
 simp only [AJ.wp] at h;split at h
 ·rename_i H ty I J;cases m:F5 k op H ty with
  | none=>rw [m] at h; exact h.elim
  | some r=>
   rw [m] at h;have p:=BU g D I;have q:=BU g E J;obtain ⟨v,u,L,M⟩:=gL (x:=x) (y:=x') C m p.1 q.1 p.2 q.2;refine DZ g A (v:=v) ?_ L M h;simp only [execOp,l,Sem.run_bind] at u ⊢;rw [u];rfl
 ·exact h.elim
end
end Go.Sf
namespace Go.Sf
open Go.RowKit (Below)
def M2:Option Operand->Option AL->Bool
 | none,none=>true
 | some x,some y=>AR x y
 | _,_=>false
section
variable {P:Program} {S:FuncId->QQ->CS->Prop} {F0:Nat->Nat->Prop} {w0:W0} {O:AD} {a:Act} {w:World} {G:DT} {d:Nat} {o:Oper} {K:EV->AD->Prop}
theorem SR (h:AY F0 w0 O a w G) {x:Option Operand} {y:Option AL} (g:M2 x y=true) {k:IntKind} {q l:Int} (hv:HP O q y=some (.int k l)) :
  (x=none∧l=q)∨∃ v m,x=some v∧a.eval v=.int m l:=by
 cases y with
 | none=>
  cases x <;> simp [M2] at g;simp [HP] at hv;exact .inl ⟨rfl,hv.2.symm⟩
 | some y=>
  cases x <;> simp [M2] at g;rename_i v;have:=(BU h g (t:=.int k l) hv).1;simp only [A7] at this;exact .inr ⟨v,k,rfl,this⟩
theorem Qq {isS:Bool} {len cap:Nat} {lo hi:Option Value} {l h:Int} (q:0<=l) (r:l<=h) (u:h<=len) (A:len<=cap)
  (g:(lo=none∧l=0)∨∃ k,lo=some (.int k l)) (m:(hi=none∧h=len)∨∃ k,hi=some (.int k h)) :
  (Instr.sliceBounds isS len cap lo hi none).run P w=.ok (l.toNat,h.toNat,cap) w:=by
 rcases g with ⟨rfl,rfl⟩ | ⟨k,rfl⟩ <;> rcases m with ⟨rfl,rfl⟩ | ⟨p,rfl⟩
 ·simp [Instr.sliceBounds]
 ·simp [Instr.sliceBounds,run_sliceBound (P:=P) w p h cap _ (by omega) (by omega)]
 ·simp [Instr.sliceBounds,run_sliceBound (P:=P) w k l len _ (by omega) (by omega)]
 ·simp [Instr.sliceBounds,run_sliceBound (P:=P) w p h cap _ (by omega) (by omega),run_sliceBound (P:=P) w k l h.toNat _ (by omega) (by omega)]
variable {x:Operand} {y:AL} {lo' hi':Option AL} {t:TypeId} {n:Nat}
theorem de (H:AY F0 w0 O a w G) (U:d<a.tmps.size) {lo hi:Option Operand} (J:o.op=.slice t x lo hi none) (L:AR x y=true) (V:M2 lo lo'=true) (W:M2 hi hi'=true)
  (A:LU P t=some n) (h:(AJ.slc n y lo' hi').wp S O (some d) K):B3 P F0 w0 a w o d K:=by
 simp only [AJ.wp] at h;split at h
 ·rename_i m es hv;split at h
  ·rename_i k1 l k2 C Y Z;obtain ⟨⟨hm,h0,h1⟩,h2,hK⟩:=h;subst hm;have N:=BU H L hv;simp only [A7] at N;obtain ⟨⟨r,cap,h4,h5,R,h7⟩,T⟩:=N;have b1:=SR H V Y;have b2:=SR H W Z;unfold LU at A;split at A
   ·rename_i e hu;have D:=Qq (P:=P) (w:=w) (isS:=true) (lo:=lo.map a.eval) (hi:=hi.map a.eval) h0 h1 h2 h5
     (by rcases b1 with ⟨rfl,rfl⟩ | ⟨v,k',rfl,hv⟩ <;> simp [*]) (by rcases b2 with ⟨rfl,rfl⟩ | ⟨v,k',rfl,hv⟩ <;> simp [*])
    refine DZ H U (v:=.slice (if cap=l.toNat then r else r.map (·.add (l.toNat*m))) (C.toNat - l.toNat) (cap - l.toNat)) (t:=.list m ((es.take C.toNat).drop l.toNat)) ?_ ?_ ?_ hK
    ·simp [execOp,J,Instr.sliceAt,Instr.slice,run_underlying hu,h4,D,D7 A]
    ·simp only [A7];refine ⟨if cap=l.toNat then r else r.map (·.add (l.toNat*m)),cap - l.toNat,by simp; omega,by simp; omega,fun M=>?_,fun X g=>?_⟩
     ·have p:es=[]∨l.toNat=C.toNat:=by
       split at M
       ·exact .inl (R M)
       ·cases r with
        | none=>exact .inl (R rfl)
        | some r=>simp at M
      rcases p with rfl | p
      ·simp
      ·apply List.eq_nil_of_length_eq_zero; simp; omega
     ·by_cases Q:cap=l.toNat
      ·have q:(es.take C.toNat).drop l.toNat=[]:=by apply List.eq_nil_of_length_eq_zero; simp; omega
       rw [d1 Q] at g;rw [q];exact ⟨.inl rfl,trivial⟩
      ·rw [d2 Q] at g;cases r with
       | none=>simp at g
       | some r=>
        simp only [Option.map_some,zzY] at g;subst g;obtain ⟨B,u⟩:=h7 r rfl;obtain ⟨b,E,sp⟩:=r;simp only at B u;by_cases p:es=[]
        ·have q:(es.take C.toNat).drop l.toNat=[]:=by rw [p]; simp
         rw [q];exact ⟨.inl rfl,trivial⟩
        have B:sp=none:=B.resolve_left p;subst B;rw [Addr.add_lit];refine ⟨.inr rfl,?_⟩;rw [PZ] at u ⊢;intro i e' I;rw [List.getElem?_drop,List.getElem?_take] at I;split at I
        ·have:=u (l.toNat+i) e' I
         rwa [show E+l.toNat*m+i*m=E+(l.toNat+i)*m from by rw [Nat.add_mul]; omega]
        ·cases I
    ·simp only [TV.WF] at T ⊢;refine ⟨by simp; omega,?_⟩;have B:=CW.1 T.2;exact CW.2 fun t A=>B t (List.mem_of_mem_take (List.mem_of_mem_drop A))
   ·cases A
  ·exact h.elim
 ·exact h.elim
theorem ba (m:AY F0 w0 O a w G) (A:d<a.tmps.size) {lo hi:Option Operand} (p:o.op=.slice t x lo hi none) (q:AR x y=true) (B:M2 lo lo'=true) (C:M2 hi hi'=true)
  (D:P.underlying t=some .string) (h:(AJ.sslc y lo' hi').wp S O (some d) K):B3 P F0 w0 a w o d K:=by
 simp only [AJ.wp] at h;split at h
 ·rename_i s hv;split at h
  ·rename_i T l U u E H;obtain ⟨L,M,N,Q⟩:=h;have r:=BU m q hv;simp only [A7] at r;have I:=SR m B E;have J:=SR m C H;have g:=Qq (P:=P) (w:=w) (isS:=false) (lo:=lo.map a.eval) (hi:=hi.map a.eval) L M N (d3 _)
     (by rcases I with ⟨rfl,rfl⟩ | ⟨v,R,rfl,hv⟩ <;> simp [*]) (by rcases J with ⟨rfl,rfl⟩ | ⟨v,R,rfl,hv⟩ <;> simp [*])
   refine DZ m A (v:=.string (s.extract l.toNat u.toNat)) (t:=.str (s.extract l.toNat u.toNat)) ?_ rfl ?_ Q
   ·simp [execOp,p,Instr.sliceAt,Instr.slice,run_underlying D,r.1,g]
   ·have:=r.2;simp only [TV.WF,ByteArray.size_extract] at this ⊢;omega
  ·exact h.elim
 ·exact h.elim
variable {y':AL}
theorem Ye (l:AY F0 w0 O a w G) (u:d<a.tmps.size) {x x':Operand} {mx:Bool} {ts:Array TypeId}
  (g:o.op=.call { callee:=.builtin (match mx with | true=>.max | false=>.min),args:=#[x,x'],argTypes:=ts })
  (A:AR x y=true) (B:AR x' y'=true) (h:(AJ.mm mx y y').wp S O (some d) K):B3 P F0 w0 a w o d K:=by
 simp only [AJ.wp] at h;split at h
 ·rename_i k p H q C D;obtain ⟨rfl,E⟩:=h;have m:=BU l A C;have r:=BU l B D;simp only [A7,TV.WF] at m r;refine DZ l u (v:=.int k (if mx then max p q else min p q)) (t:=.int k (if mx then max p q else min p q)) ?_ rfl ?_ E
  ·cases mx
   ·simp [execOp,g,resolve,invoke,builtin,m.1,r.1,Builtin.min_,Builtin.min2];rw [Int.min_def]; split <;> split <;> omega
   ·simp [execOp,g,resolve,invoke,builtin,m.1,r.1,Builtin.max_,Builtin.max2];rw [Int.max_def]; split <;> split <;> omega
  ·simp only [TV.WF];split <;> omega
 ·exact h.elim
theorem bT (l:AY F0 w0 O a w G) (D:d<a.tmps.size) (m:o.op=.box t x) (p:AR x y=true) (h:(AJ.boxs y).wp S O (some d) K):B3 P F0 w0 a w o d K:=by
 simp only [AJ.wp] at h;split at h
 ·rename_i u hv;have r:=BU l p hv;have A:Below w.heap.size w (w.alloc (.cells (a.eval x).cells t)):=(Below.refl _ _).alloc (d3 _) _;refine ⟨.pointer (some ⟨w.heap.size,0,none⟩),w.alloc (.cells (a.eval x).cells t),by simp [execOp,m,Instr.box,newVar,newRow],_,_,h,l.tv A d D (.pt u.cells) _ ?_ ?_⟩
  ·simp only [A7];refine ⟨_,_,rfl,?_⟩;have q:=Lr (F0:=F0) (w0:=w0) (G:=G) A d (fun _=>none) (by simp)
   ·have B:=JW r.1;refine Pa (BS q _ _ B.1) B.2 fun i v hi=>?_;have E:(w.alloc (.cells (a.eval x).cells t)).cell? ⟨w.heap.size,0+i,none⟩=some v:=by
     rw [World.cell?_alloc_new,Nat.zero_add];simpa using hi
    refine ⟨E,?_⟩;rintro (⟨g,_⟩ | ⟨s,j,lo,g,_⟩)
    ·have:=l.below.size; omega
    ·by_cases C:s=d
     ·subst C; rw [CD] at g; cases g
     ·rw [B2 _ _ _ _ C] at g;have:=(l.lt _ _ _ _ g).1; omega
  ·simp only [TV.WF]; exact KY r.2
 ·exact h.elim
end
end Go.Sf
namespace Go.Sf
open Go.RowKit (Below)
def TE:List Value->Nat->List Value->List Value
 | cs,_,[]=>cs
 | cs,i,d::ds=>TE (cs.set i d) (i+1) ds
theorem PL (g:Nat):∀ (l:List Value) (k:Nat) (cells:Array Value),((l.zipIdx k).foldl (fun cs (x:Value × Nat)=>cs.setIfInBounds (g+x.2) x.1) cells).toList=TE cells.toList (g+k) l
 | [],_,_=>rfl
 | v::l,k,cells=>by
  simp only [List.zipIdx_cons,List.foldl_cons,TE];rw [PL g l (k+1)];simp [Array.toList_setIfInBounds,Nat.add_assoc]
section
variable {w:World} {F:Nat->Nat->Prop}
variable {v:Value}
theorem ZW {cs:QQ} {xs:List Value} (h:AS w F cs xs) (i:Nat) {t:TV} (p:A7 w F t v):AS w F (cs.set i t) (xs.set i v):=by
 rw [CP] at h ⊢;refine ⟨by simp [h.1],fun j u x l g=>?_⟩;rw [List.getElem?_set] at l g;split at l
 ·rename_i m;subst m;simp only [if_true] at g;split at l
  ·split at g
   ·simp only [zzY] at l g; subst l; subst g; exact p
   ·cases g
  ·cases l
 ·rename_i m;rw [d2 m] at g;exact h.2 j u x l g
theorem UD:∀ {l:QQ} {ys:List Value} {cs:QQ} {xs:List Value} (i:Nat),AS w F cs xs->AS w F l ys->AS w F (Nq cs i l) (TE xs i ys)
 | [],ys,cs,xs,i,h,g=>by simp only [AS] at g; subst g; exact h
 | d::l,ys,cs,xs,i,h,g=>by
  simp only [AS] at g;obtain ⟨v,r,rfl,m,p⟩:=g;exact UD (i+1) (ZW h i m) p
theorem YP:∀ (ys xs:List Value) (i:Nat),(∀ x∈xs,x.oneCell'=true)->(∀ y∈ys,y.oneCell'=true)->∀ x∈TE xs i ys,x.oneCell'=true
 | [],_,_,h,_=>h
 | y::ys,xs,i,h,l=>by
  refine YP ys (xs.set i y) (i+1) (fun x g=>?_) (fun z m=>l z (by simp [m]));rcases List.mem_or_eq_of_mem_set g with g | rfl
  ·exact h x g
  ·exact l _ (by simp)
theorem S7 {place:Nat->Option (Nat × Nat)}:∀ {ps:List (Nat × Value)} {ts:List (Nat × Nat × TV)} {cs cs':QQ} {xs:Array Value},AS w F cs xs.toList->ps.length=ts.length ->
  (∀ (j:Nat) (p:Nat × Value) (t:Nat × Nat × TV),ps[j]?=some p->ts[j]?=some t->place p.1=some (t.1,t.2.1)∧A7 w F t.2.2 p.2)->IE cs ts=some cs'->(∀ x∈xs.toList,x.oneCell'=true) ->
  ∃ xs',Instr.fill place xs ps=some xs'∧AS w F cs' xs'.toList∧∀ x∈xs'.toList,x.oneCell'=true
 | [],ts,cs,cs',xs,h,m,B,g,ho=>by
  have:ts=[]:=List.eq_nil_of_length_eq_zero m.symm;subst this;simp only [IE,zzY] at g;subst g;exact ⟨xs,rfl,h,ho⟩
 | (i,v)::ps,[],_,_,_,_,m,_,_,_=>by simp at m
 | (i,v)::ps,(l,n,t)::ts,cs,cs',xs,h,m,B,g,ho=>by
  simp only [IE] at g;split at g
  ·rename_i M;obtain ⟨D,A⟩:=B 0 _ _ rfl rfl;simp only at D A;have C:=(JW A).1;have u:=(JW A).2;have N:v.cells.size=n:=by have:=CN C; rw [Array.length_toList] at this; omega
   have E:=CN h;rw [Array.length_toList] at E;have H:AS w F (Nq cs l t.cells) ((v.cells.zipIdx.foldl (fun cs (x:Value × Nat)=>cs.setIfInBounds (l+x.2) x.1) xs)).toList:=by
    have I:=UD l h C;rw [←Array.foldl_toList,Array.toList_zipIdx,PL,Nat.add_zero];exact I
   obtain ⟨xs',J,L⟩:=S7 H (by simpa using m) (fun j p t q r=>B (j+1) p t (by simpa using q) (by simpa using r)) g (by
    rw [←Array.foldl_toList,Array.toList_zipIdx,PL,Nat.add_zero];exact YP _ _ _ ho u)
   refine ⟨xs',?_,L⟩;simp only [Instr.fill,D];rw [d2 (by simp; omega)];exact J
  ·cases g
end
def MZ (place:Nat->Option (Nat × Nat)):List (Nat × Operand)->List (Nat × Nat × AL)->Bool
 | [],[]=>true
 | (i,x)::ps,(off,n,y)::qs=>place i==some (off,n)&&AR x y&&MZ place ps qs
 | _,_=>false
def ZJ (P:Program) (t:TypeId) (zero:QQ) (ps:List (Nat × Operand)) (qs:List (Nat × Nat × AL)):Bool:=
 match P.info? t,P.underlying t with
 | some it,some (.array _ e)=>
  match it.zero,P.info? e with
  | some z,some ie=>KS zero z.cells.toList&&z.cells.toList.all Value.oneCell'&&MZ (fun i=>some (i*ie.size,ie.size)) ps qs
  | _,_=>false
 | some it,some (.struct fields)=>
  match it.zero,fields.toList.mapM (fun f=>(P.info? f.type).map fun i=>(f.offset,i.size)) with
  | some z,some places=>KS zero z.cells.toList&&z.cells.toList.all Value.oneCell'&&MZ (places.toArray[·]?) ps qs
  | _,_=>false
 | _,_=>false
section
variable {P:Program} {S:FuncId->QQ->CS->Prop} {F0:Nat->Nat->Prop} {w0:W0} {O:AD} {a:Act} {w:World} {G:DT} {d:Nat} {o:Oper} {K:EV->AD->Prop}
theorem VG (A:AY F0 w0 O a w G) {place:Nat->Option (Nat × Nat)}:∀ {ps:List (Nat × Operand)} {m:List (Nat × Nat × AL)} {ts:List (Nat × Nat × TV)},MZ place ps m=true->It O m=some ts ->
  ps.length=ts.length∧(∀ (j:Nat) (p:Nat × Value) (t:Nat × Nat × TV),(ps.map fun (i,x)=>(i,a.eval x))[j]?=some p->ts[j]?=some t->place p.1=some (t.1,t.2.1)∧A7 w (A2 w0.heap.size F0 G) t.2.2 p.2)∧∀ t∈ts,t.2.2.WF
 | [],[],ts,_,h=>by simp [It] at h; subst h; simp
 | [],_::_,_,h,_=>by simp [MZ] at h
 | _::_,[],_,h,_=>by simp [MZ] at h
 | (i,x)::ps,(J,n,y)::m,ts,g,h=>by
  simp only [MZ,zzZ,beq_iff_eq] at g;simp only [It] at h;split at h
  ·rename_i t C D r;simp only [zzY] at h;subst h;obtain ⟨E,H,I⟩:=VG A g.2 r;have B:=BU A g.1.2 D;refine ⟨by simp [E],fun j p u q l=>?_,fun u l=>?_⟩
   ·cases j with
    | zero=>simp at q l; subst q; subst l; exact ⟨g.1.1,B.1⟩
    | succ j=>exact H j p u (by simpa using q) (by simpa using l)
   ·rcases List.mem_cons.1 l with rfl | l
    ·exact B.2
    ·exact I u l
  ·cases h
theorem Yp:∀ {g cs:QQ} (i:Nat),TV.WFs cs->TV.WFs g->TV.WFs (Nq cs i g)
 | [],_,_,h,_=>h
 | d::g,cs,i,h,m=>by
  refine Yp (i+1) ?_ m.2;rw [CW] at h ⊢;intro t l;rcases List.mem_or_eq_of_mem_set l with l | rfl
  ·exact h t l
  ·exact m.1
theorem XU:∀ {ts:List (Nat × Nat × TV)} {cs cs':QQ},TV.WFs cs->(∀ t∈ts,t.2.2.WF)->IE cs ts=some cs'->TV.WFs cs'
 | [],cs,cs',h,_,g=>by simp [IE] at g; subst g; exact h
 | (i,n,t)::ts,cs,cs',h,l,g=>by
  simp only [IE] at g;split at g
  ·exact XU (Yp i h (KY (l (i,n,t) (by simp)))) (fun u m=>l u (by simp [m])) g
  ·cases g
variable {t:TypeId} {ps:Array (Nat × Operand)}
theorem dN (H:AY F0 w0 O a w G) (I:d<a.tmps.size) {zero:QQ} {A:List (Nat × Nat × AL)} (D:o.op=.build t ps) (g:ZJ P t zero ps.toList A=true) (h:(AJ.bld zero A).wp S O (some d) K):B3 P F0 w0 a w o d K:=by
 simp only [AJ.wp] at h;cases u:It O A with
 | none=>rw [u] at h; exact h.elim
 | some ts=>
  rw [u] at h;simp only [BB] at h;cases l:IE zero ts with
  | none=>rw [l] at h; exact h.elim
  | some cs=>
   rw [l] at h;simp only at h;have key:∀ (place:Nat->Option (Nat × Nat)) (z:Array Value),KS zero z.toList=true->z.toList.all Value.oneCell'=true->MZ place ps.toList A=true->∃ xs',Instr.fill place z (ps.map fun (i,x)=>(i,a.eval x)).toList=some xs'∧AS w (A2 w0.heap.size F0 G) cs xs'.toList∧TV.WFs cs∧xs'.toList.all Value.oneCell'=true:=by
    intro place z L E M;obtain ⟨p,q,r⟩:=VG H M u;have m:=Ox w (A2 w0.heap.size F0 G) zero z.toList L;have Q:(ps.map fun (i,x)=>(i,a.eval x)).toList=ps.toList.map fun (i,x)=>(i,a.eval x):=by simp
    rw [Q];obtain ⟨xs',R,T,U⟩:=S7 m.1 (by simpa using p) q l (fun x J=>List.all_eq_true.1 E x J);exact ⟨xs',R,T,XU m.2 r l,List.all_eq_true.2 U⟩
   have built:∃ xs',P.built t (ps.map fun (i,x)=>(i,a.eval x)).toList=some xs'∧AS w (A2 w0.heap.size F0 G) cs xs'.toList∧TV.WFs cs∧xs'.toList.all Value.oneCell'=true:=by
    unfold ZJ at g;unfold Program.built;split at g
    ·rename_i N n e p q;simp only [p,q];split at g
     ·rename_i z V r m;simp only [r,m];simp only [zzZ] at g;exact key _ _ g.1.1 g.1.2 g.2
     ·cases g
    ·rename_i N B p q;simp only [p,q];split at g
     ·rename_i z C r m;simp only [r,m];simp only [zzZ] at g;exact key _ _ g.1.1 g.1.2 g.2
     ·cases g
    ·cases g
   obtain ⟨xs',p,q,r,m⟩:=built;refine DZ H I (v:=.agg xs') (t:=.agg cs) ?_ ?_ (by simpa [TV.WF] using r) h
   ·simp [execOp,D,run_build w t _ xs' p]
   ·simp only [A7]; exact ⟨xs',rfl,q,m⟩
variable {x:Operand} {n:Nat}
theorem VV (l:AY F0 w0 O a w G) (m:d<a.tmps.size) (g:o.op=.move x∨o.op=.assign x) (p:∃ v,x=.const v∧Lv v=true) (h:(AJ.nilo n).wp S O (some d) K):B3 P F0 w0 a w o d K:=by
 simp only [AJ.wp] at h;obtain ⟨v,rfl,hv⟩:=p;refine ⟨.slice none 0 0,w,?_,_,_,h,l.ow (Below.refl _ _) d m (.list n []) _ none (by simp) ?_ ⟨by simp,trivial⟩⟩
 ·rcases g with g | g <;> simp [execOp,g,Act.eval,LD hv]
 ·simp only [C3];exact ⟨[],⟨by simp,.inl ⟨rfl,rfl,rfl⟩⟩,rfl,by simp,by simp⟩
end
end Go.Sf
namespace Go.Sf
open Go.RowKit (Below)
theorem Ze (g:QQ) (x t:TV) (r:QQ):(g++x::r).set g.length t=g++t::r:=by
 induction g with
 | nil=>rfl
 | cons p g h=>simp
theorem SF:∀ (l g rest:QQ),l.length<=rest.length->Nq (g++rest) g.length l=g++l++rest.drop l.length
 | [],g,rest,_=>by simp [Nq]
 | d::l,g,[],h=>by simp at h
 | d::l,g,x::rest,h=>by
  simp only [Nq,Ze];have:=SF l (g++[d]) rest (by simpa using h);simp only [d4,List.length_singleton,ea,List.singleton_append] at this;simpa using this
def KP (n:Nat):Nat->QQ->List (Nat × Nat × TV)
 | _,[]=>[]
 | k,t::ts=>(k*n,n,t)::KP n (k+1) ts
theorem Ux (n:Nat):∀ (ts g:QQ) (k:Nat),(∀ t∈ts,t.cells.length=n)->g.length=k*n ->
  IE (g++List.replicate (ts.length*n) .undef) (KP n k ts)=some (g++ts.flatMap TV.cells)
 | [],g,k,_,_=>by simp [KP,IE]
 | t::ts,g,k,h,q=>by
  have m:t.cells.length=n:=h t (by simp);simp only [KP,IE];rw [d1 ⟨m,by simp only [d4,List.length_replicate,d6,Nat.add_mul]; omega⟩];rw [←q,SF t.cells g _ (by simp only [List.length_replicate,d6,Nat.add_mul]; omega)];have p:(List.replicate ((t::ts).length*n) TV.undef).drop t.cells.length=List.replicate (ts.length*n) TV.undef:=by
   rw [List.drop_replicate]; congr 1; simp only [d6,Nat.add_mul]; omega
  rw [p];have:=Ux n ts (g++t.cells) (k+1) (fun x l=>h x (by simp [l])) (by simp only [d4,Nat.add_mul]; omega);rw [this];simp [List.flatMap_cons]
def Qd:Nat->List (Nat × Operand)->List AL->Bool
 | _,[],[]=>true
 | k,(i,x)::ps,y::ys=>i==k&&AR x y&&Qd (k+1) ps ys
 | _,_,_=>false
section
variable {P:Program} {S:FuncId->QQ->CS->Prop} {F0:Nat->Nat->Prop} {w0:W0} {O:AD} {a:Act} {w:World} {G:DT} {d:Nat} {o:Oper} {K:EV->AD->Prop}
theorem YN (r:AY F0 w0 O a w G) (n:Nat):∀ {k:Nat} {ps:List (Nat × Operand)} {ys:List AL} {ts:QQ},Qd k ps ys=true->vals O ys=some ts ->
  ps.length=ts.length∧(∀ (j:Nat) (p:Nat × Value) (t:Nat × Nat × TV),(ps.map fun (i,x)=>(i,a.eval x))[j]?=some p->(KP n k ts)[j]?=some t->(some (p.1*n,n):Option (Nat × Nat))=some (t.1,t.2.1)∧A7 w (A2 w0.heap.size F0 G) t.2.2 p.2)∧TV.WFs ts
 | _,[],[],ts,_,h=>by simp [vals] at h; subst h; simp [TV.WFs]
 | _,[],_::_,_,h,_=>by simp [Qd] at h
 | _,_::_,[],_,h,_=>by simp [Qd] at h
 | k,(i,x)::ps,y::ys,ts,g,h=>by
  simp only [Qd,zzZ,beq_iff_eq] at g;simp only [vals] at h;split at h
  ·rename_i t B C q;simp only [zzY] at h;subst h;obtain ⟨D,E,H⟩:=YN r n g.2 q;have A:=BU r g.1.2 C;refine ⟨by simp [D],fun j p u l m=>?_,A.2,H⟩;cases j with
   | zero=>simp [KP] at l m; subst l; subst m; exact ⟨by rw [g.1.1],A.1⟩
   | succ j=>exact E j p u (by simpa using l) (by simpa [KP] using m)
  ·cases h
theorem PQ (n:Nat):∀ (k:Nat) (ts:QQ),(KP n k ts).length=ts.length
 | _,[]=>rfl
 | k,t::ts=>by simp [KP,PQ n (k+1) ts]
variable {n:Nat} {ts:QQ} {e:TypeId}
theorem fi {F:Nat->Nat->Prop} {cells:Array Value} (h:AS (w.alloc (.cells cells e)) F (ts.flatMap TV.cells) cells.toList) (ho:∀ x∈cells.toList,x.oneCell'=true) (l:∀ t∈ts,t.cells.length=n) (m:ts.length<=maxLen) :
  C3 (w.alloc (.cells cells e)) F (some (w.heap.size,ts.length*n)) (.list n ts) (.slice (some ⟨w.heap.size,0,none⟩) ts.length ts.length):=by
 have g:=CN h;rw [Nn n ts l] at g;simp only [C3];refine ⟨cells.toList,⟨g,.inr ⟨w.heap.size,ts.length,cells,e,rfl,heap_alloc_new w _,d3 _,m,by simpa using g,?_,rfl⟩⟩,h,l,ho⟩;rw [←g,List.take_length]
variable {t:TypeId} {ps:Array (Nat × Operand)} {ys:List AL}
theorem dZ (hI:AY F0 w0 O a w G) (hd:d<a.tmps.size) {D:TypeInfo} {z:Value} {len n:Nat} (V:o.op=.buildSlice t len ps) (m:P.underlying t=some (.slice e)) (E:P.info? e=some D) (hz:D.zero=some z)
  (U:D.size=n) (H:0<n) (p:z.cells.toList.all Value.oneCell'=true) (I:0<z.cells.size) (J:len=ps.size) (hsm:len*n<=2 ^ 24) (W:Qd 0 ps.toList ys=true) (h:(AJ.lst n ys).wp S O (some d) K):B3 P F0 w0 a w o d K:=by
 simp only [AJ.wp] at h;cases r:vals O ys with
 | none=>rw [r] at h; exact h.elim
 | some ts=>
  rw [r] at h;simp only [BB] at h;obtain ⟨hc,hK⟩:=h;obtain ⟨h1,h2,h3⟩:=YN hI n W r;have M:len=ts.length:=by rw [J,←h1]; simp
  have X:(TV.list n ts).WF:=⟨by simp only [I0]; have:len*1<=len*n:=Nat.mul_le_mul_left _ H; omega,h3⟩;have Y:ts.length<=maxLen:=by simp only [maxLen]; have:len*1<=len*n:=Nat.mul_le_mul_left _ H; omega
  have l:∃ cells:Array Value,(Instr.buildSlice t len (ps.map fun (i,x)=>(i,a.eval x))).run P w=.ok (.slice (some ⟨w.heap.size,0,none⟩) len len) (w.alloc (.cells cells e))∧AS w (A2 w0.heap.size F0 G) (ts.flatMap TV.cells) cells.toList∧∀ x∈cells.toList,x.oneCell'=true:=by
   by_cases h0:len=0
   ·have Z:ps=#[]:=by apply Array.eq_empty_of_size_eq_zero; omega
    have N:ts=[]:=by apply List.eq_nil_of_length_eq_zero; omega
    subst Z; subst N; subst h0;refine ⟨#[],?_,rfl,by simp⟩;simp [Instr.buildSlice,run_underlying m,sizeOf,typeInfo,E,Instr.fill,newRow];rw [Array.range_zero']; simp
   ·have A:AS w (A2 w0.heap.size F0 G) (List.replicate (ts.length*n) .undef) ((Array.range (len*D.size)).map (z.cells[· % z.cells.size]!)).toList:=by
     rw [CP];refine ⟨by simp [U,M],fun i u v m hv=>?_⟩;rw [List.getElem?_replicate] at m;split at m
     ·simp only [zzY] at m;subst m;simp only [A7];rw [Array.getElem?_toList,Array.getElem?_map] at hv;simp only [Option.map_eq_some_iff] at hv;obtain ⟨q,_,rfl⟩:=hv;have g:=Nat.mod_lt q I;rw [getElem!_pos z.cells _ g];exact List.all_eq_true.1 p _ (by simp)
     ·cases m
    have Q:=Ux n ts [] 0 hc (by simp);simp only [List.nil_append] at Q;have B:∀ x∈((Array.range (len*D.size)).map (z.cells[· % z.cells.size]!)).toList,x.oneCell'=true:=by
     intro x hx;rw [Array.mem_toList_iff,Array.mem_map] at hx;obtain ⟨q,_,rfl⟩:=hx;have g:=Nat.mod_lt q I;rw [getElem!_pos z.cells _ g];exact List.all_eq_true.1 p _ (by simp)
    obtain ⟨xs',h6,h7,h8⟩:=S7 (place:=fun i=>some (i*n,n)) A (by rw [PQ]; simpa using h1) h2 Q B;refine ⟨xs',run_buildSlice w t e len _ xs' D z m E hz (by rw [U]; omega) ?_ ?_,h7,h8⟩
    ·rw [U]; intro h; rcases Nat.mul_eq_zero.1 h with h | h <;> omega
    ·rw [U] at h6 ⊢;simpa using h6
  obtain ⟨cells,R,T,C⟩:=l;have hb:Below w.heap.size w (w.alloc (.cells cells e)):=(Below.refl _ _).alloc (d3 _) _;refine ⟨.slice (some ⟨w.heap.size,0,none⟩) len len,_,by simp only [execOp,V,Sem.run_bind,R,Result.andThen_ok,Sem.run_pure],_,_,hK,hI.ow hb d hd (.list n ts) _ (some (w.heap.size,ts.length*n)) (fun b lo L=>?_) ?_ X⟩
  ·simp only [zzY,Prod.mk.injEq] at L;obtain ⟨rfl,_⟩:=L;exact ⟨d3 _,by simp⟩
  ·rw [M];exact fi (BS (Lr hb d _ (fun i b lo h=>by
    split at h
    ·simp only [zzY,Prod.mk.injEq] at h; omega
    ·cases h)) _ _ T) C hc Y
theorem AY.strip (h:AY F0 w0 O a w G) (s:Nat):AY F0 w0 (strip O s) a w G:=by
 refine ⟨h.uniq,h.lt,h.below,h.defers,fun q l=>?_,fun q l=>?_,fun q=>?_⟩
 ·simp only [Go.Sf.strip,AD.get_cons];split
  ·rfl
  ·exact h.dom q l
 ·have:=h.slots q l;simp only [Go.Sf.strip,AD.get_cons];split
  ·trivial
  ·refine AX.kept (QA _ _) (fun _=>rfl) (fun _ _ _ _=>rfl) (fun r m u ⟨cs,g⟩=>?_) (fun r i u ⟨p,A⟩=>⟨⟨p,(AD.xat_drop (by simp) (by simp) A).2⟩,fun _ hv=>hv⟩) this
   ·rw [AD.get_cons] at g;split at g
    ·cases g
    ·exact ⟨⟨cs,g⟩,rfl⟩
 ·simp only [Go.Sf.strip,AD.get_cons];split
  ·trivial
  ·exact h.wf q
variable {s:Nat}
theorem AY.move (h:AY F0 w0 O a w G) {t:TV} (T:O.get s=.ow t) (W:d<a.tmps.size) :
  ∃ u,AY F0 w0 ((d,.ow t)::Go.Sf.strip O s) (a.put (some d) (slot a s)) w u∧D0 w w (A2 w0.heap.size F0 G) (A2 w0.heap.size F0 u):=by
 have C:=A9 h T (by simp);simp only [AX] at C;have L:=h.wf s;rw [T] at L
 let zs:Option (Nat × Nat):=G s none
 let u:DT:=G0 (G0 G s (fun _=>none)) d (fun i=>if i=none then zs else none)
 have B:∀ q i b lo,u q i=some (b,lo)->(q=d∧i=none∧G s none=some (b,lo))∨(q≠d∧q≠s∧G q i=some (b,lo)):=by
  intro q i b lo l;by_cases m:q=d
  ·subst m;simp only [u,CD] at l;split at l
   ·rename_i hi; exact .inl ⟨rfl,hi,l⟩
   ·cases l
  ·simp only [u,B2 _ _ _ _ m] at l;by_cases D:q=s
   ·subst D; rw [CD] at l; cases l
   ·rw [B2 _ _ _ _ D] at l;exact .inr ⟨m,D,l⟩
 have E:∀ q i b lo,u q i=some (b,lo)->∃ U V lo',G U V=some (b,lo')∧lo'<=lo:=by
  intro q i b lo l;rcases B q i b lo l with ⟨_,_,A⟩ | ⟨_,_,A⟩
  ·exact ⟨s,none,lo,A,d3 _⟩
  ·exact ⟨q,i,lo,A,d3 _⟩
 have H:D0 w w (A2 w0.heap.size F0 G) (A2 w0.heap.size F0 u):=fun b o v X Y=>⟨X,fun Q=>Y (A2.mono E Q)⟩;refine ⟨u,⟨?_,?_,h.below,by rw [LT]; exact h.defers,?_,?_,?_⟩,H⟩
 ·intro q i U V b lo lo' A M;rcases B _ _ _ _ A with ⟨rfl,rfl,J⟩ | ⟨n1,n2,J⟩ <;> rcases B _ _ _ _ M with ⟨rfl,rfl,N⟩ | ⟨m1,m2,N⟩
  ·exact ⟨rfl,rfl⟩
  ·exact absurd (h.uniq _ _ _ _ _ _ _ J N).1.symm m2
  ·exact absurd (h.uniq _ _ _ _ _ _ _ J N).1 n2
  ·exact h.uniq _ _ _ _ _ _ _ J N
 ·intro q i b lo A;rcases B _ _ _ _ A with ⟨_,_,J⟩ | ⟨_,_,J⟩ <;> exact h.lt _ _ _ _ J
 ·intro q l;rw [F1] at l;rw [AD.get_cons,d2 (by omega)];exact (h.strip s).dom q l
 ·intro q l;rw [F1] at l;rw [AD.get_cons];by_cases m:d=q
  ·subst m;rw [d1 rfl,IY _ _ _ W];simp only [AX,u,CD,if_true];exact C.kept H (fun _ _ _=>rfl)
  ·rw [d2 m,BN _ _ _ _ m];simp only [Go.Sf.strip,AD.get_cons];split
   ·trivial
   ·rename_i R;refine AX.kept H (fun i=>?_) (fun _ _ _ _=>rfl) (fun r Z hr ⟨cs,g⟩=>?_) (fun r i hr ⟨p,hp⟩=>?_) (h.slots q l)
    ·simp only [u];rw [B2 _ _ _ _ (fun e=>m e.symm),B2 _ _ _ _ (fun e=>R e.symm)]
    ·rw [AD.get_cons] at g;by_cases I:d=r
     ·rw [d1 I] at g; cases g
     ·rw [d2 I] at g;simp only [AD.get_cons] at g;split at g
      ·cases g
      ·exact ⟨⟨cs,g⟩,BN _ _ _ _ I⟩
    ·have A:=AD.xat_drop (by simp) (by simp) hp;have M:=AD.xat_drop (by simp) (by simp) A.2;exact ⟨⟨p,M.2⟩,h.xv ⟨p,M.2⟩ (BN _ _ _ _ A.1) (fun _ _=>rfl)⟩
 ·intro q;rw [AD.get_cons];split
  ·exact L
  ·exact (h.strip s).wf q
theorem dG (a:Act) (d s:Nat) (v:Value) (h:d<a.tmps.size):slot (a.put (some d) v) s=if d=s then v else slot a s:=by
 split
 ·rename_i e; subst e; exact IY _ _ _ h
 ·rename_i e; exact BN _ _ _ _ e
theorem AY.move' (h:AY F0 w0 O a w G) {t:TV} (g:O.get s=.ow t) (p:d<a.tmps.size) :
  DJ F0 w0 ((d,.ow t)::(s,.tv t)::O) (a.put (some d) (slot a s)) w:=by
 obtain ⟨q,r,m⟩:=h.move g p;have hv:=BU h (x:=.tmp s) (y:=.s s) (by simp [AR]) (t:=t) (by simp [AL.val,AL.ev,g,EV.val]);have l:=G9 h g (by simp);refine ⟨q,r.rem s (t:=t) (by rw [F1]; exact l) ?_ hv.2 fun n=>?_⟩
 ·have:slot (a.put (some d) (slot a s)) s=slot a s:=by rw [dG _ _ _ _ p]; split <;> rfl
  rw [this];exact DH m _ _ hv.1
 ·simp only [Go.Sf.strip,AD.get_cons];split
  ·exact .inl rfl
  ·split
   ·rename_i e; exact .inr ⟨e.symm,rfl⟩
   ·exact .inl rfl
theorem Yh (m:AY F0 w0 O a w G) (q:d<a.tmps.size) (g:o.op=.move (.tmp s)∨o.op=.assign (.tmp s)) (h:(AJ.tk s).wp S O (some d) K):B3 P F0 w0 a w o d K:=by
 simp only [AJ.wp] at h;have l:(execOp a.eval o).run P w=.ok (.value (slot a s)) w:=by
  rcases g with g | g <;> simp [execOp,g] <;> rfl
 split at h
 ·rename_i t p;exact ⟨_,_,l,_,_,h,m.move' p q⟩
 ·rename_i t p;have:=BU m (x:=.tmp s) (y:=.s s) (by simp [AR]) (t:=t) (by simp [AL.val,AL.ev,p,EV.val]);exact DZ m q l this.1 this.2 h
 ·exact h.elim
end
end Go.Sf
