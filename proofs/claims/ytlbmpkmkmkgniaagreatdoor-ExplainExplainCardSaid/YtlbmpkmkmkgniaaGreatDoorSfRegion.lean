/- One operation against the checker, and regions in the text's order. -/
import Derived.Test.YtlbmpkmkmkgniaaGreatDoorSfZ
set_option linter.all false
namespace Go.Sf
open Go.RowKit (Below)
def Operand.isTmp (n:Nat):Operand->Bool
 | .tmp m=>m==n
 | _=>false
variable {x:Operand}
theorem Operand.isTmp_eq {n:Nat} (h:Operand.isTmp n x=true):x=.tmp n:=by
 cases x <;> simp [Operand.isTmp] at h;rw [h]
def Tt:Operand->Bool
 | .const v=>Lv v
 | _=>false
theorem PO (h:Tt x=true):∃ v,x=.const v∧Lv v=true:=by
 cases x <;> simp [Tt] at h;exact ⟨_,rfl,h⟩
def SV (P:Program) (str:Bool) (c:Call) (x:AL):Bool:=
 match c.callee,c.args.toList,c.argTypes.toList with
 | .builtin .len,[y],[t]=>AR y x&&(match P.underlying t with | some (.slice _)=>!str | some .string=>str | _=>false)
 | _,_,_=>false
def Vn (P:Program) (n:Nat) (c:Call) (x y:AL):Bool:=
 match c.callee,c.args.toList,c.argTypes.toList,x with
 | .builtin .append,[p,q],[t,t'],.s s=>Operand.isTmp s p&&AR q y&&t==t'&&(match P.underlying t with
  | some (.slice e)=>(match P.info? e with
   | some i=>(match i.zero with | some z=>i.size==n&&decide (i.bytes<=4096)&&z.cells.size==n&&decide (0<n) | none=>false)
   | none=>false)
  | _=>false)
 | _,_,_,_=>false
def jC (mx:Bool) (c:Call) (x y:AL):Bool:=
 match c.callee,c.args.toList with
 | .builtin .max,[p,q]=>mx&&AR p x&&AR q y
 | .builtin .min,[p,q]=>!mx&&AR p x&&AR q y
 | _,_=>false
def Qe (P:Program) (o:Op):AJ->Bool
 | .mv x=>match o with | .move y | .assign y=>AR y x | _=>false
 | .tk s=>match o with | .move y | .assign y=>Operand.isTmp s y | _=>false
 | .nilo _=>match o with | .move y | .assign y=>Tt y | _=>false
 | .fad x k=>match o with | .fieldAddr t y f=>AR y x&&Ow P t f==some k | .move y | .assign y | .nilCheck y=>k==0&&AR y x | _=>false
 | .bad s k=>match o with | .indexAddr t y j=>Operand.isTmp s y&&ZI P t j k | .fieldAddr t y f=>Operand.isTmp s y&&Ow P t f==some k | .move y | .assign y | .nilCheck y=>k==0&&Operand.isTmp s y | _=>false
 | .iad x i n=>match o with | .indexAddr t y j=>AR y x&&AR j i&&LU P t==some n | _=>false
 | .aad x i n k=>match o with | .indexAddr t y j=>AR y x&&AR j i&&(match P.underlying t with | some (.array k' e)=>k'==k&&FK P e==some n | _=>false) | _=>false
 | .ld x=>match o with | .load t y=>AR y x&&DV P t==some false | _=>false
 | .lda x n=>match o with | .load t y=>AR y x&&DV P t==some true&&FK P t==some n | _=>false
 | .ldb s n=>match o with | .load t y=>AR y (.s s)&&DV P t==some true&&FK P t==some n | _=>false
 | .ldt x=>match o with | .load t y=>AR y x&&DV P t==some false | _=>false
 | .bin k op x y=>match o with | .binOp op' t p q _=>op'==op&&Qa P k t&&AR p x&&AR q y | _=>false
 | .not x=>match o with | .unOp op _ y=>op==.not&&AR y x | _=>false
 | .neg x=>match o with | .unOp op _ y=>op==.neg&&AR y x | _=>false
 | .pick c x y=>match o with | .pick c' p q=>AR c' c&&AR p x&&AR q y | _=>false
 | .len x=>match o with | .call c=>SV P false c x | _=>false
 | .slen x=>match o with | .call c=>SV P true c x | _=>false
 | .slc n x lo hi=>match o with | .slice t y l h mx=>mx.isNone&&AR y x&&M2 l lo&&M2 h hi&&LU P t==some n | _=>false
 | .sslc x lo hi=>match o with | .slice t y l h mx=>mx.isNone&&AR y x&&M2 l lo&&M2 h hi&&(match P.underlying t with | some .string=>true | _=>false) | _=>false
 | .bld z ps=>match o with | .build t qs=>ZJ P t z qs.toList ps | _=>false
 | .lst n ys=>match o with
  | .buildSlice t len ps=>(match P.underlying t with
   | some (.slice e)=>(match P.info? e with
    | some i=>(match i.zero with
     | some z=>i.size==n&&decide (0<n)&&z.cells.toList.all Value.oneCell'&&decide (0<z.cells.size)&&len==ps.size&&decide (len*n<=2 ^ 24)&&Qd 0 ps.toList ys
     | none=>false)
    | none=>false)
   | _=>false)
  | _=>false
 | .app n x y=>match o with | .call c=>Vn P n c x y | _=>false
 | .call f ys=>match o with | .call c=>(match c.callee with | .value (.func g)=>g==f&&DL c.args.toList ys | _=>false) | _=>false
 | .callv x ys=>match o with | .call c=>(match c.callee with | .value g=>AR g x&&DL c.args.toList ys | _=>false) | _=>false
 | .clo f cs=>match o with | .makeFunc (.func g) first xs=>g==f&&first.size==0&&DL xs.toList cs | _=>false
 | .ext x i=>match o,x with | .extract y j,.s s=>Operand.isTmp s y&&j==i | _,_=>false
 | .cvt k x=>match o with | .convert s t y=>AR y x&&(match P.underlying s,P.underlying t with | some (.int _),some (.int k')=>k'==k | _,_=>false) | _=>false
 | .sidx x i=>match o with | .index t y j=>AR y x&&AR j i&&(match P.underlying t with | some .string=>true | _=>false) | _=>false
 | .boxs x=>match o with | .box _ y=>AR y x | _=>false
 | .boxo x=>match o with | .box _ y=>AR y x | _=>false
 | .mm mx x y=>match o with | .call c=>jC mx c x y | _=>false
 | .alc cs=>match o with | .alloc t=>(match P.info? t with | some i=>(match i.zero with | some z=>Nc cs z.cells.toList | none=>false) | none=>false) | _=>false
 | .st n x v=>match o with | .store t y u=>AR y x&&AR u v&&FK P t==some n | _=>false
 | .stb n s v=>match o with | .store t y u=>Operand.isTmp s y&&AR u v&&FK P t==some n | _=>false
 | .frz _=>false
 | .fldv x k n agg=>match o with | .field t y f=>AR y x&&ZK P t f k n agg | _=>false
 | .xal s=>match o with | .move y | .assign y=>Operand.isTmp s y | _=>false
 | .xlen x=>match o with | .call c=>SV P false c x | _=>false
 | .xia x i n=>match o with | .indexAddr t y j=>AR y x&&AR j i&&LU P t==some n | _=>false
 | .xfa x k=>match o with | .fieldAddr t y f=>AR y x&&Ow P t f==some k | _=>false
 | .xld x=>match o with | .load t y=>AR y x&&DV P t==some false | _=>false
 | .xst x v=>match o with | .store t y u=>AR y x&&AR u v&&FK P t==some 1 | _=>false
 | .rel s=>match o with | .move y | .assign y=>Operand.isTmp s y | _=>false
 | .nilx _=>match o with | .move y | .assign y=>Tt y | _=>false
 | .tkx s=>match o with | .move y | .assign y=>Operand.isTmp s y | _=>false
 | .appx n s y=>match o with | .call c=>Vn P n c (.s s) y | _=>false
 | .callx f ys=>match o with | .call c=>(match c.callee with | .value (.func g)=>g==f&&DL c.args.toList ys | _=>false) | _=>false
 | .mkx n zero x=>match o with | .makeSlice t y z=>AR y x&&AR z x&&cg P t n zero | _=>false
 | .callm f x=>match o with | .call c=>(match c.callee,c.args.toList with | .value (.func g),[y]=>g==f&&AR y x | _,_=>false) | _=>false
 | .callc f x=>match o with | .call c=>(match c.callee,c.args.toList with | .value (.func g),[y]=>g==f&&AR y x | _,_=>false) | _=>false
 | .lstz n=>match o with | .buildSlice t len ps=>len==0&&ps.isEmpty&&Wk P t n | _=>false
 | .bldg gs=>match o with | .build t ps=>Wj P t ps.toList gs | _=>false
 | .stx n s q=>match o with | .store t y u=>AR y (.s s)&&AR u (.s q)&&FK P t==some n | _=>false
 | .callg f ys=>match o with | .call c=>(match c.callee with | .value (.func g)=>g==f&&DL c.args.toList ys | _=>false) | _=>false
 | .isn x=>match o with | .binOp op t y z _=>op==.eql&&AR y x&&SS z&&ZL P t | _=>false
 | .lac x=>match o with | .load t y=>AR y x&&DV P t==some false | _=>false
 | .ctk x=>match o with | .load t y=>AR y x&&DV P t==some false | _=>false
 | .cpt x q=>match o with | .store t y u=>AR y x&&AR u (.s q)&&FK P t==some 1 | _=>false
 | .cut n s hi=>match o with | .slice t y l (some h) mx=>mx.isNone&&l.isNone&&Operand.isTmp s y&&AR h hi&&LU P t==some n | _=>false
 | .calll f ys=>match o with | .call c=>(match c.callee with | .value (.func g)=>g==f&&DL c.args.toList ys | _=>false) | _=>false
 | .boxp _ x=>match o with | .box _ y=>AR y x | _=>false
 | .callf f ys=>match o with | .call c=>(match c.callee with | .value (.func g)=>g==f&&DL c.args.toList ys | _=>false) | _=>false
 | .appz n s z x=>match o with | .call c=>aU P n s z x c | _=>false
 | .callb f ys _=>match o with | .call c=>(match c.callee with | .value (.func g)=>g==f&&DL c.args.toList ys | _=>false) | _=>false
def MY:AJ->Bool
 | .st ..=>true
 | .stb ..=>true
 | .xst ..=>true
 | .stx ..=>true
 | .cpt ..=>true
 | _=>false
section
variable {P:Program} {F0:Nat->Nat->Prop} {w0:W0} {O:AD} {a:Act} {w:World} {G:DT} {d:Nat} {o:Oper} {K:EV->AD->Prop}
variable {Q:Exit->Act->World->Prop}
theorem B3.wp (h:B3 P F0 w0 a w o d K) (b:o.dst=some d) {next:Act->World->Prop} (g:∀ e env' f w',K e env'->Q1 a d f->DJ F0 w0 ((d,e)::env') f w'->next f w'):o.wp P a w next Q:=by
 obtain ⟨v,w',c,e,env',i,j⟩:=h;unfold Oper.wp;rw [c,Oper.upon_value,b];exact g e env' _ w' i ⟨_,rfl⟩ j
variable {α:Type}
theorem IB {a:Array α} {x:α} (h:a.toList=[x]):a=#[x]:=by
 cases a; simp_all
theorem Im {a:Array α} {x y:α} (h:a.toList=[x,y]):a=#[x,y]:=by
 cases a; simp_all
theorem FJ {c:Call} {b:Callee} {e:Array Operand} {f:Array TypeId} (g:c.callee=b) (h:c.args=e) (i:c.argTypes=f):c={ callee:=b,args:=e,argTypes:=f }:=by
 cases c; simp_all
theorem cj (r:AY F0 w0 O a w G) (u:d<a.tmps.size) (m:o.dst=some d) {p:AJ} (b:Qe P o.op p=true) (L:MY p=false) (h:p.wp (AU P) O (some d) K)
  {next:Act->World->Prop} (A:∀ e env' X w',K e env'->Q1 a d X->DJ F0 w0 ((d,e)::env') X w'->next X w'):o.wp P a w next Q:=by
 cases p <;> simp only [Qe] at b
 case mv x=>
  split at b
  ·rename_i y e; exact (Yf r u (.inl e) b h).wp m A
  ·rename_i y e; exact (Yf r u (.inr e) b h).wp m A
  ·cases b
 case tk s=>
  split at b
  ·rename_i y e; rw [Operand.isTmp_eq b] at e; exact (Yh r u (.inl e) h).wp m A
  ·rename_i y e; rw [Operand.isTmp_eq b] at e; exact (Yh r u (.inr e) h).wp m A
  ·cases b
 case nilo n=>
  split at b
  ·rename_i y e; exact (VV r u (.inl e) (PO b) h).wp m A
  ·rename_i y e; exact (VV r u (.inr e) (PO b) h).wp m A
  ·cases b
 case fad x k=>
  split at b
  ·rename_i t y f e;simp only [zzZ,beq_iff_eq] at b;exact (Qt r u (YE e b.2) b.1 h).wp m A
  ·rename_i y e;simp only [zzZ,beq_iff_eq] at b;obtain ⟨rfl,b⟩:=b;exact (Qt r u (Of (.inl e)) b h).wp m A
  ·rename_i y e;simp only [zzZ,beq_iff_eq] at b;obtain ⟨rfl,b⟩:=b;exact (Qt r u (Of (.inr (.inl e))) b h).wp m A
  ·rename_i y e;simp only [zzZ,beq_iff_eq] at b;obtain ⟨rfl,b⟩:=b;exact (Qt r u (Of (.inr (.inr e))) b h).wp m A
  ·cases b
 case bad s k=>
  split at b
  ·rename_i t y j e;simp only [zzZ] at b;rw [Operand.isTmp_eq b.1] at e;exact (O4 r u (fC e b.2) h).wp m A
  ·rename_i t y f e;simp only [zzZ,beq_iff_eq] at b;rw [Operand.isTmp_eq b.1] at e;exact (O4 r u (YE e b.2) h).wp m A
  ·rename_i y e;simp only [zzZ,beq_iff_eq] at b;obtain ⟨rfl,b⟩:=b;rw [Operand.isTmp_eq b] at e;exact (O4 r u (Of (.inl e)) h).wp m A
  ·rename_i y e;simp only [zzZ,beq_iff_eq] at b;obtain ⟨rfl,b⟩:=b;rw [Operand.isTmp_eq b] at e;exact (O4 r u (Of (.inr (.inl e))) h).wp m A
  ·rename_i y e;simp only [zzZ,beq_iff_eq] at b;obtain ⟨rfl,b⟩:=b;rw [Operand.isTmp_eq b] at e;exact (O4 r u (Of (.inr (.inr e))) h).wp m A
  ·cases b
 case iad x i n=>
  split at b
  ·rename_i t y j e;simp only [zzZ,beq_iff_eq] at b;exact (dU r u e b.1.1 b.1.2 b.2 h).wp m A
  ·cases b
 case aad x i n k=>
  split at b
  ·rename_i t y j e;simp only [zzZ] at b;obtain ⟨⟨B,C⟩,D⟩:=b;split at D
   ·rename_i k' el H;simp only [zzZ,beq_iff_eq] at D;obtain ⟨rfl,F⟩:=D;exact (dJ r u e B C H F h).wp m A
   ·cases D
  ·cases b
 case ld x=>
  split at b
  ·rename_i t y e;simp only [zzZ,beq_iff_eq] at b;exact (gk r u e b.1 b.2 h).wp m A
  ·cases b
 case lda x n=>
  split at b
  ·rename_i t y e;simp only [zzZ,beq_iff_eq] at b;exact (XJ r u e b.1.1 b.1.2 b.2 h).wp m A
  ·cases b
 case ldb s n=>
  split at b
  ·rename_i t y e;simp only [zzZ,beq_iff_eq] at b;refine (XJ (S:=AU P) r u e b.1.1 b.1.2 b.2 (y:=.s s) ?_).wp m A;simp only [AJ.wp] at h ⊢;split at h
   ·rename_i cs I;simp only [AL.ev,I,BZ,BB];exact h
   ·exact h.elim
  ·cases b
 case ldt x=>
  split at b
  ·rename_i t y e;simp only [zzZ,beq_iff_eq] at b;exact (dX r u e b.1 b.2 h).wp m A
  ·cases b
 case bin k op x y=>
  split at b
  ·rename_i op' t p q V e;simp only [zzZ,beq_iff_eq] at b;obtain ⟨⟨⟨rfl,B⟩,C⟩,D⟩:=b;exact (dM r u e B C D h).wp m A
  ·cases b
 case not x=>
  split at b
  ·rename_i op t y e;simp only [zzZ,beq_iff_eq] at b;obtain ⟨rfl,B⟩:=b;exact (dc r u e B h).wp m A
  ·cases b
 case neg x=>
  split at b
  ·rename_i op t y e;simp only [zzZ,beq_iff_eq] at b;obtain ⟨rfl,B⟩:=b;exact (db r u e B h).wp m A
  ·cases b
 case pick c x y=>
  split at b
  ·rename_i c' p q e;simp only [zzZ] at b;exact (bX r u e b.1.1 b.1.2 b.2 h).wp m A
  ·cases b
 case len x=>
  split at b
  ·rename_i c e;unfold SV at b;split at b
   ·rename_i y t B C D;simp only [zzZ] at b;obtain ⟨F,J⟩:=b;split at J
    ·rename_i el H;rw [FJ B (IB C) (IB D)] at e;exact (dY r u e F H h).wp m A
    ·cases J
    ·cases J
   ·cases b
  ·cases b
 case slen x=>
  split at b
  ·rename_i c e;unfold SV at b;split at b
   ·rename_i y t B C D;simp only [zzZ] at b;obtain ⟨F,J⟩:=b;split at J
    ·cases J
    ·rename_i H;rw [FJ B (IB C) (IB D)] at e;exact (bZ r u e F H h).wp m A
    ·cases J
   ·cases b
  ·cases b
 case slc n x lo hi=>
  split at b
  ·rename_i t y l hh mx e;simp only [zzZ,beq_iff_eq,Option.isNone_iff_eq_none] at b;obtain ⟨⟨⟨⟨rfl,B⟩,C⟩,D⟩,F⟩:=b;exact (de r u e B C D F h).wp m A
  ·cases b
 case sslc x lo hi=>
  split at b
  ·rename_i t y l hh mx e;simp only [zzZ,Option.isNone_iff_eq_none] at b;obtain ⟨⟨⟨⟨rfl,B⟩,C⟩,D⟩,F⟩:=b;split at F
   ·rename_i H; exact (ba r u e B C D H h).wp m A
   ·cases F
  ·cases b
 case bld z W=>
  split at b
  ·rename_i t qs e; exact (dN r u e b h).wp m A
  ·cases b
 case lst n ys=>
  split at b
  ·rename_i t len W e;split at b
   ·rename_i el H;split at b
    ·rename_i i hi;split at b
     ·rename_i z N;simp only [zzZ,beq_iff_eq,zzX] at b;obtain ⟨⟨⟨⟨⟨⟨B,C⟩,D⟩,F⟩,J⟩,E⟩,R⟩:=b;exact (dZ r u e H hi N B C D F J E R h).wp m A
     ·cases b
    ·cases b
   ·cases b
  ·cases b
 case app n x y=>
  split at b
  ·rename_i c e;unfold Vn at b;split at b
   ·rename_i p q t V s B C D;simp only [zzZ,beq_iff_eq] at b;obtain ⟨⟨⟨F,J⟩,rfl⟩,E⟩:=b;split at E
    ·rename_i el H;split at E
     ·rename_i i hi;split at E
      ·rename_i z N;simp only [zzZ,beq_iff_eq,zzX] at E;obtain ⟨⟨⟨R,T⟩,U⟩,M⟩:=E;rw [FJ B (Im C) (Im D),Operand.isTmp_eq F] at e;exact (dL r u e H hi N R T U M J h).wp m A
      ·cases E
     ·cases E
    ·cases E
   ·cases b
  ·cases b
 case call f ys=>
  split at b
  ·rename_i c e;split at b
   ·rename_i g I;simp only [zzZ,beq_iff_eq] at b;obtain ⟨rfl,B⟩:=b;rw [FJ I rfl rfl] at e;exact bU r u m e B h A
   ·cases b
  ·cases b
 case callv x ys=>
  split at b
  ·rename_i c e;split at b
   ·rename_i g I;simp only [zzZ] at b;rw [FJ I rfl rfl] at e;exact Zp r u m e b.1 b.2 h A
   ·cases b
  ·cases b
 case clo f cs=>
  split at b
  ·rename_i g first xs e
   simp only [zzZ,beq_iff_eq] at b;obtain ⟨⟨rfl,B⟩,C⟩:=b;rw [Array.eq_empty_of_size_eq_zero B] at e;exact (dO r u e C h).wp m A
  ·cases b
 case ext x i=>
  split at b
  ·rename_i y j s e;simp only [zzZ,beq_iff_eq] at b;obtain ⟨B,rfl⟩:=b;rw [Operand.isTmp_eq B] at e;exact (dT r u e h).wp m A
  ·cases b
 case cvt k x=>
  split at b
  ·rename_i s t y e;simp only [zzZ] at b;obtain ⟨B,C⟩:=b;split at C
   ·rename_i k1 k2 hs ht;simp only [beq_iff_eq] at C;subst C;exact (dS r u e hs ht B h).wp m A
   ·cases C
  ·cases b
 case sidx x i=>
  split at b
  ·rename_i t y j e;simp only [zzZ] at b;obtain ⟨⟨B,C⟩,D⟩:=b;split at D
   ·rename_i H; exact (bY r u e B C H h).wp m A
   ·cases D
  ·cases b
 case boxs x=>
  split at b
  ·rename_i t y e; exact (bT r u e b h).wp m A
  ·cases b
 case boxo x=>
  split at b
  ·rename_i t y e; exact (bR r u e b h).wp m A
  ·cases b
 case mm mx x y=>
  split at b
  ·rename_i c e;unfold jC at b;split at b
   ·rename_i p q B C;simp only [zzZ] at b;obtain ⟨⟨rfl,D⟩,F⟩:=b;rw [FJ B (Im C) rfl] at e;exact (Ye (mx:=true) r u e D F h).wp m A
   ·rename_i p q B C;simp only [zzZ,Bool.not_eq_true'] at b;obtain ⟨⟨rfl,D⟩,F⟩:=b;rw [FJ B (Im C) rfl] at e;exact (Ye (mx:=false) r u e D F h).wp m A
   ·cases b
  ·cases b
 case alc cs=>
  split at b
  ·rename_i t e;split at b
   ·rename_i i hi;split at b
    ·rename_i z N; exact (dK r u e hi N b h).wp m A
    ·cases b
   ·cases b
  ·cases b
 case st n x v=>cases L
 case stb n s v=>cases L
 case frz s=>cases b
 case fldv x k n agg=>
  split at b
  ·rename_i t y f e;simp only [zzZ] at b;exact (bV r u e b.1 b.2 h).wp m A
  ·cases b
 case xal s=>
  split at b
  ·rename_i y e; rw [Operand.isTmp_eq b] at e; exact (XM r u (.inl e) h).wp m A
  ·rename_i y e; rw [Operand.isTmp_eq b] at e; exact (XM r u (.inr e) h).wp m A
  ·cases b
 case rel s=>
  split at b
  ·rename_i y e; rw [Operand.isTmp_eq b] at e; exact (XK r u (.inl e) h).wp m A
  ·rename_i y e; rw [Operand.isTmp_eq b] at e; exact (XK r u (.inr e) h).wp m A
  ·cases b
 case tkx s=>
  split at b
  ·rename_i y e; rw [Operand.isTmp_eq b] at e; exact (XL r u (.inl e) h).wp m A
  ·rename_i y e; rw [Operand.isTmp_eq b] at e; exact (XL r u (.inr e) h).wp m A
  ·cases b
 case nilx n=>
  split at b
  ·rename_i y e; exact (VW r u (.inl e) (PO b) h).wp m A
  ·rename_i y e; exact (VW r u (.inr e) (PO b) h).wp m A
  ·cases b
 case xlen x=>
  split at b
  ·rename_i c e;unfold SV at b;split at b
   ·rename_i y t B C D;simp only [zzZ] at b;obtain ⟨F,J⟩:=b;split at J
    ·rename_i el H;rw [FJ B (IB C) (IB D)] at e;exact (bc r u e F H h).wp m A
    ·cases J
    ·cases J
   ·cases b
  ·cases b
 case xia x i n=>
  split at b
  ·rename_i t y j e;simp only [zzZ,beq_iff_eq] at b;exact (dh r u e b.1.1 b.1.2 b.2 h).wp m A
  ·cases b
 case xfa x k=>
  split at b
  ·rename_i t y f e;simp only [zzZ,beq_iff_eq] at b;exact (dg r u e b.1 b.2 h).wp m A
  ·cases b
 case xld x=>
  split at b
  ·rename_i t y e;simp only [zzZ,beq_iff_eq] at b;exact (di r u e b.1 b.2 h).wp m A
  ·cases b
 case xst x v=>cases L
 case appx n s y=>
  split at b
  ·rename_i c e;unfold Vn at b;split at b
   ·rename_i p q t V s' B C D h0;simp only [AL.s.injEq] at h0;subst h0;simp only [zzZ,beq_iff_eq] at b;obtain ⟨⟨⟨F,J⟩,rfl⟩,E⟩:=b;split at E
    ·rename_i el H;split at E
     ·rename_i i hi;split at E
      ·rename_i z N;simp only [zzZ,beq_iff_eq,zzX] at E;obtain ⟨⟨⟨R,T⟩,U⟩,M⟩:=E;rw [FJ B (Im C) (Im D),Operand.isTmp_eq F] at e;exact (bO r u e H hi N R T U M J h).wp m A
      ·cases E
     ·cases E
    ·cases E
   ·cases b
  ·cases b
 case callx f ys=>
  split at b
  ·rename_i c e;split at b
   ·rename_i g I;simp only [zzZ,beq_iff_eq] at b;obtain ⟨rfl,B⟩:=b;rw [FJ I rfl rfl] at e;exact Zq r u m e B h A
   ·cases b
  ·cases b
 case mkx n zero x=>
  split at b
  ·rename_i t y z e;simp only [zzZ] at b;exact (gl r u e b.1.1 b.1.2 b.2 h).wp m A
  ·cases b
 case callm f x=>
  split at b
  ·rename_i c e;split at b
   ·rename_i g y I Y;simp only [zzZ,beq_iff_eq] at b;obtain ⟨rfl,B⟩:=b;rw [FJ I (IB Y) rfl] at e;exact Zo r u m e B h A
   ·cases b
  ·cases b
 case callc f x=>
  split at b
  ·rename_i c e;split at b
   ·rename_i g y I Y;simp only [zzZ,beq_iff_eq] at b;obtain ⟨rfl,B⟩:=b;rw [FJ I (IB Y) rfl] at e;exact Zk r u m e B h A
   ·cases b
  ·cases b
 case lstz n=>
  split at b
  ·rename_i t len W e;simp only [zzZ,beq_iff_eq,Array.isEmpty_iff] at b;obtain ⟨⟨rfl,rfl⟩,B⟩:=b;exact (bW r u e B h).wp m A
  ·cases b
 case bldg gs=>
  split at b
  ·rename_i t W e; exact (bQ r u e b h).wp m A
  ·cases b
 case stx n s q=>cases L
 case cpt x q=>cases L
 case lac x=>
  split at b
  ·rename_i t y e;simp only [zzZ,beq_iff_eq] at b;exact (dW r u e b.1 b.2 h).wp m A
  ·cases b
 case ctk x=>
  split at b
  ·rename_i t y e;simp only [zzZ,beq_iff_eq] at b;exact (dQ r u e b.1 b.2 h).wp m A
  ·cases b
 case cut n s hi=>
  split at b
  ·rename_i t y l hh mx e;simp only [zzZ,beq_iff_eq,Option.isNone_iff_eq_none] at b;obtain ⟨⟨⟨⟨rfl,rfl⟩,B⟩,C⟩,D⟩:=b;rw [Operand.isTmp_eq B] at e;exact (dR r u e C D h).wp m A
  ·cases b
 case calll f ys=>
  split at b
  ·rename_i c e;split at b
   ·rename_i g I;simp only [zzZ,beq_iff_eq] at b;obtain ⟨rfl,B⟩:=b;rw [FJ I rfl rfl] at e;exact Zn r u m e B h A
   ·cases b
  ·cases b
 case callb f ys i=>
  split at b
  ·rename_i c e;split at b
   ·rename_i g I;simp only [zzZ,beq_iff_eq] at b;obtain ⟨rfl,B⟩:=b;rw [FJ I rfl rfl] at e;exact Zj r u m e B h A
   ·cases b
  ·cases b
 case callf f ys=>
  split at b
  ·rename_i c e;split at b
   ·rename_i g I;simp only [zzZ,beq_iff_eq] at b;obtain ⟨rfl,B⟩:=b;rw [FJ I rfl rfl] at e;exact (Zl r u e B h).wp m A
   ·cases b
  ·cases b
 case appz n s z x=>
  split at b
  ·rename_i c e;unfold aU at b;split at b
   ·rename_i p q t V B C D;simp only [zzZ] at b;obtain ⟨⟨F,J⟩,E⟩:=b;split at E
    ·rename_i el kn H Z;split at E
     ·rename_i i hi;split at E
      ·rename_i zz N;split at E
       ·rename_i z0 hz0;simp only [zzZ,beq_iff_eq,zzX] at E;obtain ⟨⟨⟨⟨rfl,R⟩,T⟩,U⟩,M⟩:=E;rw [FJ B (Im C) (Im D),Operand.isTmp_eq' F] at e;exact (bP r u e H Z hi N R T (IB hz0) U M J h).wp m A
       ·cases E
      ·cases E
     ·cases E
    ·cases E
   ·cases b
  ·cases b
 case boxp W x=>
  split at b
  ·rename_i t y e; exact (bS r u e b h).wp m A
  ·cases b
 case callg f ys=>
  split at b
  ·rename_i c e;split at b
   ·rename_i g I;simp only [zzZ,beq_iff_eq] at b;obtain ⟨rfl,B⟩:=b;rw [FJ I rfl rfl] at e;exact Zm r u m e B h A
   ·cases b
  ·cases b
 case isn x=>
  split at b
  ·rename_i op t y z V e;simp only [zzZ,beq_iff_eq] at b;obtain ⟨⟨⟨rfl,B⟩,C⟩,D⟩:=b;exact (dV r u e B C D h).wp m A
  ·cases b
end
end Go.Sf
