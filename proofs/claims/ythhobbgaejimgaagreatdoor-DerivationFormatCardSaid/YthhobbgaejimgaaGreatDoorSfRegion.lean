/- One operation against the checker, and regions in the text's order. -/
import Derived.Test.YthhobbgaejimgaaGreatDoorSfN
import Derived.Orders
set_option linter.all false
namespace Go.Sf
open Go.RowKit (Below)
def Operand.sC(n:Nat):Operand->Bool
 |.tmp m=>m==n|_=>false
variable{n:Nat}{x:Operand}
theorem Operand.rl(h:Operand.sC n x=true):x=.tmp n:=by
 cases x<;>simp[Operand.sC]at h;rw[h]
def Pq:Operand->Bool
 |.const v=>Ht v|_=>false
theorem Ky(h:Pq x=true):∃v,x=.const v/\Ht v=true:=by
 cases x<;>simp[Pq]at h;exact⟨_,rfl,h⟩
def OV(P:Program)(str:Bool)(c:Call)(x:AD):Bool:=
 match c.callee,c.args.toList,c.argTypes.toList with
 |.builtin .len,[y],[t]=>AF y x&&(match P.underlying t with|some (.slice _)=>!str|some .string=>str|_=>false)
 |_,_,_=>false
def OT(P:Program)(n:Nat)(c:Call)(x y:AD):Bool:=
 match c.callee,c.args.toList,c.argTypes.toList,x with
 |.builtin .append,[p,q],[t,t'],.s s=>Operand.sC s p&&AF q y&&t==t'&&(match P.underlying t with
  |some (.slice e)=>(match P.info? e with
   |some i=>(match i.zero with|some z=>i.size==n&&decide (i.bytes<=4096)&&z.cells.size==n&&decide (0<n)|none=>false)
   |none=>false)
  |_=>false)
 |_,_,_,_=>false
def dr(mx:Bool)(c:Call)(x y:AD):Bool:=
 match c.callee,c.args.toList with
 |.builtin .max,[p,q]=>mx&&AF p x&&AF q y|.builtin .min,[p,q]=>!mx&&AF p x&&AF q y|_,_=>false
def Jp(P:Program)(o:Op):AC->Bool
 |.mv x=>match o with|.move y|.assign y=>AF y x|_=>false
 |.tk s=>match o with|.move y|.assign y=>Operand.sC s y|_=>false
 |.tW _=>match o with|.move y|.assign y=>Pq y|_=>false
 |.sG x k=>match o with|.fieldAddr t y f=>AF y x&&Ja P t f==some k|.move y|.assign y|.nilCheck y=>k==0&&AF y x|_=>false
 |.bad s k=>match o with|.indexAddr t y j=>Operand.sC s y&&VA P t j k|.fieldAddr t y f=>Operand.sC s y&&Ja P t f==some k|.move y|.assign y|.nilCheck y=>k==0&&Operand.sC s y|_=>false
 |.tY x i n=>match o with|.indexAddr t y j=>AF y x&&AF j i&&Fe P t==some n|_=>false
 |.aad x i n k=>match o with|.indexAddr t y j=>AF y x&&AF j i&&(match P.underlying t with|some (.array k' e)=>k'==k&&Bz P e==some n|_=>false)|_=>false
 |.ld x=>match o with|.load t y=>AF y x&&BM P t==some false|_=>false
 |.va x k=>match o with|.fieldAddr t y f=>AF y x&&Ja P t f==some k|_=>false
 |.vd x n=>match o with|.load t y=>AF y x&&BM P t==some true&&Bz P t==some n|_=>false
 |.tX x n=>match o with|.load t y=>AF y x&&BM P t==some true&&Bz P t==some n|_=>false
 |.vn s n=>match o with|.load t y=>AF y (.s s)&&BM P t==some true&&Bz P t==some n|_=>false
 |.ldt x=>match o with|.load t y=>AF y x&&BM P t==some false|_=>false
 |.bin k op x y=>match o with|.binOp op' t p q _=>op'==op&&Ie P k t&&AF p x&&AF q y|_=>false
 |.not x=>match o with|.unOp op _ y=>op==.not&&AF y x|_=>false
 |.neg x=>match o with|.unOp op _ y=>op==.neg&&AF y x|_=>false
 |.pick c x y=>match o with|.pick c' p q=>AF c' c&&AF p x&&AF q y|_=>false
 |.len x=>match o with|.call c=>OV P false c x|_=>false
 |.uj x=>match o with|.call c=>OV P true c x|_=>false
 |.tw n x lo hi=>match o with|.slice t y l h mx=>mx.isNone&&AF y x&&Ig l lo&&Ig h hi&&Fe P t==some n|_=>false
 |.rR x lo hi=>match o with|.slice t y l h mx=>mx.isNone&&AF y x&&Ig l lo&&Ig h hi&&(match P.underlying t with|some .string=>true|_=>false)|_=>false
 |.tQ z ps=>match o with|.build t qs=>VB P t z qs.toList ps|_=>false
 |.uc n ys=>match o with
  |.buildSlice t len ps=>(match P.underlying t with
   |some (.slice e)=>(match P.info? e with
    |some i=>(match i.zero with
     |some z=>i.size==n&&decide (0<n)&&z.cells.toList.all Value.oneCell'&&decide (0<z.cells.size)&&len==ps.size&&decide (len*n<=2^ 24)&&Mw 0 ps.toList ys|none=>false)
    |none=>false)
   |_=>false)
  |_=>false
 |.app n x y=>match o with|.call c=>OT P n c x y|_=>false
 |.call f ys=>match o with|.call c=>(match c.callee with|.value (.func g)=>g==f&&A8 c.args.toList ys|_=>false)|_=>false
 |.sJ x ys=>match o with|.call c=>(match c.callee with|.value g=>AF g x&&A8 c.args.toList ys|_=>false)|_=>false
 |.sE f cs=>match o with|.makeFunc (.func g) first xs=>g==f&&first.size==0&&A8 xs.toList cs|_=>false
 |.ext x i=>match o,x with|.extract y j,.s s=>Operand.sC s y&&j==i|_,_=>false
 |.uF k x=>match o with|.convert s t y=>AF y x&&(match P.underlying s,P.underlying t with|some (.int _),some (.int k')=>k'==k|_,_=>false)|_=>false
 |.rP x i=>match o with|.index t y j=>AF y x&&AF j i&&(match P.underlying t with|some .string=>true|_=>false)|_=>false
 |.tS x=>match o with|.box _ y=>AF y x|_=>false
 |.tZ x=>match o with|.box _ y=>AF y x|_=>false
 |.mm mx x y=>match o with|.call c=>dr mx c x y|_=>false
 |.uv cs=>match o with|.alloc t=>(match P.info? t with|some i=>(match i.zero with|some z=>I5 cs z.cells.toList|none=>false)|none=>false)|_=>false
 |.st n x v=>match o with|.store t y u=>AF y x&&AF u v&&Bz P t==some n|_=>false
 |.tV n s v=>match o with|.store t y u=>Operand.sC s y&&AF u v&&Bz P t==some n|_=>false
 |.uP _=>false|.uh x k n agg=>match o with|.field t y f=>AF y x&&VC P t f k n agg|_=>false
 |.uZ s=>match o with|.move y|.assign y=>Operand.sC s y|_=>false
 |.ue x=>match o with|.call c=>OV P false c x|_=>false
 |.uX x i n=>match o with|.indexAddr t y j=>AF y x&&AF j i&&Fe P t==some n|_=>false
 |.xfa x k=>match o with|.fieldAddr t y f=>AF y x&&Ja P t f==some k|_=>false
 |.vc x=>match o with|.load t y=>AF y x&&BM P t==some false|_=>false
 |.t6 x v k=>match o with|.store t y u=>AF y x&&AF u v&&Bz P t==some k|_=>false
 |.rel s=>match o with|.move y|.assign y=>Operand.sC s y|_=>false
 |.tF _=>match o with|.move y|.assign y=>Pq y|_=>false
 |.uq s=>match o with|.move y|.assign y=>Operand.sC s y|_=>false
 |.tB n s y=>match o with|.call c=>OT P n c (.s s) y|_=>false
 |.sI f ys=>match o with|.call c=>(match c.callee with|.value (.func g)=>g==f&&A8 c.args.toList ys|_=>false)|_=>false
 |.ui n zero x=>match o with|.makeSlice t y z=>AF y x&&AF z x&&YF P t n zero|_=>false
 |.sS f x=>match o with|.call c=>(match c.callee,c.args.toList with|.value (.func g),[y]=>g==f&&AF y x|_,_=>false)|_=>false
 |.sR f x=>match o with|.call c=>(match c.callee,c.args.toList with|.value (.func g),[y]=>g==f&&AF y x|_,_=>false)|_=>false
 |.tE n=>match o with|.buildSlice t len ps=>len==0&&ps.isEmpty&&SZ P t n|_=>false
 |.sF gs=>match o with|.build t ps=>SX P t ps.toList gs|_=>false
 |.stx n s q=>match o with|.store t y u=>AF y (.s s)&&AF u (.s q)&&Bz P t==some n|_=>false
 |.s9 f ys=>match o with|.call c=>(match c.callee with|.value (.func g)=>g==f&&A8 c.args.toList ys|_=>false)|_=>false
 |.sP f ys=>match o with|.call c=>(match c.callee with|.value (.func g)=>g==f&&A8 c.args.toList ys|_=>false)|_=>false
 |.uM x=>match o with|.binOp op t y z _=>op==.eql&&AF y x&&Lr z&&RX P t|_=>false
 |.lac x=>match o with|.load t y=>AF y x&&BM P t==some false|_=>false
 |.vf x=>match o with|.load t y=>AF y x&&BM P t==some false|_=>false
 |.uJ x q=>match o with|.store t y u=>AF y x&&AF u (.s q)&&Bz P t==some 1|_=>false
 |.cut n s hi=>match o with|.slice t y l (some h) mx=>mx.isNone&&l.isNone&&Operand.sC s y&&AF h hi&&Fe P t==some n|_=>false
 |.r9 f ys=>match o with|.call c=>(match c.callee with|.value (.func g)=>g==f&&A8 c.args.toList ys|_=>false)|_=>false
 |.tD _ x=>match o with|.box _ y=>AF y x|_=>false
 |.ta f ys=>match o with|.call c=>(match c.callee with|.value (.func g)=>g==f&&A8 c.args.toList ys|_=>false)|_=>false
 |.tG n s z x=>match o with|.call c=>WX P n s z x c|_=>false
 |.r7 f ys _=>match o with|.call c=>(match c.callee with|.value (.func g)=>g==f&&A8 c.args.toList ys|_=>false)|_=>false
 |.tO q=>match o with|.buildSlice t len ps=>(match len,ps.toList with|1,[(0,x)]=>SY P t&&AF x (.s q)|_,_=>false)|_=>false
 |.s5 s q=>match o with|.call c=>OT P 1 c (.s s) (.s q)|_=>false
 |.uO x=>match o with|.load t y=>AF y x&&BM P t==some false|_=>false
 |.uo x i=>match o with|.indexAddr t y j=>AF y x&&AF j i&&Fe P t==some 1|_=>false
 |.uQ x=>match o with|.load t y=>AF y x&&BM P t==some false|_=>false
 |.up x v=>match o with|.store t y u=>AF y x&&AF u v&&Bz P t==some 1|_=>false
 |.ub q=>match o with|.box _ y=>AF y (.s q)|_=>false
 |.sW f ys _=>match o with|.call c=>(match c.callee with|.value (.func g)=>g==f&&A8 c.args.toList ys|_=>false)|_=>false
 |.ve s n=>match o with|.load t y=>Operand.sC s y&&BM P t==some true&&Bz P t==some n|_=>false
 |.uL n _ x v=>match o with|.store t y u=>AF y x&&AF u v&&Bz P t==some n|_=>false
 |.ur=>match o with|.makeMap _ r=>r.isNone|_=>false
 |.uH s=>match o with|.move y|.assign y=>Operand.sC s y|_=>false
 |.sV f ys=>match o with|.call c=>(match c.callee with|.value (.func g)=>g==f&&A8 c.args.toList ys|_=>false)|_=>false
 |.vb _ m x=>match o with|.lookup t y z c=>c&&Jf P t&&AF y m&&AF z x|_=>false
 |.uK _ m x v=>match o with|.mapUpdate t y z u=>Jf P t&&AF y m&&AF z x&&AF u v|_=>false
 |.rK _ m=>match o with|.range t y=>AF y m&&(match P.underlying t with|some (.map _ _)=>true|_=>false)|_=>false
 |.u9 s=>match o with|.next y c=>!c&&Operand.sC s y|_=>false
 |.uR s=>match o with|.entry y=>Operand.sC s y|_=>false
def IG:AC->Bool
 |.st ..=>true|.tV ..=>true|.t6 ..=>true|.stx ..=>true|.uJ ..=>true|.up ..=>true|.uK ..=>true|.uL ..=>true|_=>false
section
variable{P:Program}{F0:Nat->Nat->Prop}{w0:W0}{O:AA}{a:Act}{w:World}{G:Ay}{d:Nat}{o:Oper}{K:EV->AA->Prop}
theorem Aj.wp(h:Aj P F0 w0 a w o d K)(b:o.dst=some d){next:Act->World->Prop}{Q:Exit->Act->World->Prop}(f:∀e env' a' w',K e env'->KN a d a'->BG F0 w0 ((d,e)::env') a' w'->next a' w'):o.wp P a w next Q:=by
 obtain ⟨v,w',c,e,env',g,i⟩:=h;unfold Oper.wp;rw[c,Oper.upon_value,b];exact f e env' _ w' g ⟨_,rfl⟩ i
variable{α:Type}
theorem DN{a:Array α}{x:α}(h:a.toList=[x]):a=#[x]:=by
 cases a;simp_all
theorem DO{a:Array α}{x y:α}(h:a.toList=[x,y]):a=#[x,y]:=by
 cases a;simp_all
theorem CA{c:Call}{b:Callee}{e:Array Operand}{f:Array TypeId}(g:c.callee=b)(h:c.args=e)(i:c.argTypes=f):c={callee:=b,args:=e,argTypes:=f}:=by
 cases c;simp_all
theorem YG(A:AK F0 w0 O a w G)(hd:d<a.tmps.size)(u:o.dst=some d){p:AC}(b:Jp P o.op p=true)(M:IG p=false)(h:p.wp (AH P) O (some d) K)
  {next:Act->World->Prop}{Q:Exit->Act->World->Prop}(B:∀e env' a' w',K e env'->KN a d a'->BG F0 w0 ((d,e)::env') a' w'->next a' w'):o.wp P a w next Q:=by
 cases p<;>simp only[Jp]at b<;>try(exact absurd b Bool.false_ne_true)
 case mv x=>
  split at b
  .rename_i y e;exact(UM A hd (.inl e) b h).wp u B
  .rename_i y e;exact(UM A hd (.inr e) b h).wp u B
  .cases b
 case tk s=>
  split at b
  .rename_i y e;rw[Operand.rl b]at e;exact(UO A hd (.inl e) h).wp u B
  .rename_i y e;rw[Operand.rl b]at e;exact(UO A hd (.inr e) h).wp u B
  .cases b
 case tW n=>
  split at b
  .rename_i y e;exact(RB A hd (.inl e) (Ky b) h).wp u B
  .rename_i y e;exact(RB A hd (.inr e) (Ky b) h).wp u B
  .cases b
 case sG x k=>
  split at b
  .rename_i t y f e;simp only[rt,beq_iff_eq]at b;exact(Kg A hd (QP e b.2) b.1 h).wp u B
  .rename_i y e;simp only[rt,beq_iff_eq]at b;obtain⟨rfl,b⟩:=b;exact(Kg A hd (KK (.inl e)) b h).wp u B
  .rename_i y e;simp only[rt,beq_iff_eq]at b;obtain⟨rfl,b⟩:=b;exact(Kg A hd (KK (.inr (.inl e))) b h).wp u B
  .rename_i y e;simp only[rt,beq_iff_eq]at b;obtain⟨rfl,b⟩:=b;exact(Kg A hd (KK (.inr (.inr e))) b h).wp u B
  .cases b
 case bad s k=>
  split at b
  .rename_i t y j e;simp only[rt]at b;rw[Operand.rl b.1]at e;exact(Kf A hd (aL e b.2) h).wp u B
  .rename_i t y f e;simp only[rt,beq_iff_eq]at b;rw[Operand.rl b.1]at e;exact(Kf A hd (QP e b.2) h).wp u B
  .rename_i y e;simp only[rt,beq_iff_eq]at b;obtain⟨rfl,b⟩:=b;rw[Operand.rl b]at e;exact(Kf A hd (KK (.inl e)) h).wp u B
  .rename_i y e;simp only[rt,beq_iff_eq]at b;obtain⟨rfl,b⟩:=b;rw[Operand.rl b]at e;exact(Kf A hd (KK (.inr (.inl e))) h).wp u B
  .rename_i y e;simp only[rt,beq_iff_eq]at b;obtain⟨rfl,b⟩:=b;rw[Operand.rl b]at e;exact(Kf A hd (KK (.inr (.inr e))) h).wp u B
  .cases b
 case tY x i n=>
  split at b
  .rename_i t y j e;simp only[rt,beq_iff_eq]at b;exact(Yt A hd e b.1.1 b.1.2 b.2 h).wp u B
  .cases b
 case aad x i n k=>
  split at b
  .rename_i t y j e;simp only[rt]at b;obtain⟨⟨C,D⟩,E⟩:=b;split at E
   .rename_i k' el J;simp only[rt,beq_iff_eq]at E;obtain⟨rfl,H⟩:=E;exact(Yi A hd e C D J H h).wp u B
   .cases E
  .cases b
 case ld x=>
  split at b
  .rename_i t y e;simp only[rt,beq_iff_eq]at b;exact(bj A hd e b.1 b.2 h).wp u B
  .cases b
 case va x k=>
  split at b
  .rename_i t y f e;simp only[rt,beq_iff_eq]at b;refine(Kg (S:=AH P) A hd (QP e b.2) b.1 ?_).wp u B;simp only[AC.wp]at h|-;split at h
   .rename_i row Z;rw[XS A Z];exact h
   .exact h.elim
  .cases b
 case vd x n=>
  split at b
  .rename_i t y e;simp only[rt,beq_iff_eq]at b;refine(PF (S:=AH P) A hd e b.1.1 b.1.2 b.2 ?_).wp u B;simp only[AC.wp]at h|-;split at h
   .rename_i row Z;rw[XS A Z];exact h
   .exact h.elim
  .cases b
 case tX x n=>
  split at b
  .rename_i t y e;simp only[rt,beq_iff_eq]at b;exact(PF A hd e b.1.1 b.1.2 b.2 h).wp u B
  .cases b
 case vn s n=>
  split at b
  .rename_i t y e;simp only[rt,beq_iff_eq]at b;refine(PF (S:=AH P) A hd e b.1.1 b.1.2 b.2 (y:=.s s) ?_).wp u B;simp only[AC.wp]at h|-;split at h
   .rename_i cs I;simp only[AD.ev,I,Ap,AQ];exact h
   .exact h.elim
  .cases b
 case ldt x=>
  split at b
  .rename_i t y e;simp only[rt,beq_iff_eq]at b;exact(Yy A hd e b.1 b.2 h).wp u B
  .cases b
 case bin k op x y=>
  split at b
  .rename_i op' t p q Y e;simp only[rt,beq_iff_eq]at b;obtain⟨⟨⟨rfl,C⟩,D⟩,E⟩:=b;exact(Yl A hd e C D E h).wp u B
  .cases b
 case not x=>
  split at b
  .rename_i op t y e;simp only[rt,beq_iff_eq]at b;obtain⟨rfl,C⟩:=b;exact(ZB A hd e C h).wp u B
  .cases b
 case neg x=>
  split at b
  .rename_i op t y e;simp only[rt,beq_iff_eq]at b;obtain⟨rfl,C⟩:=b;exact(Y8 A hd e C h).wp u B
  .cases b
 case pick c x y=>
  split at b
  .rename_i c' p q e;simp only[rt]at b;exact(XI A hd e b.1.1 b.1.2 b.2 h).wp u B
  .cases b
 case len x=>
  split at b
  .rename_i c e;unfold OV at b;split at b
   .rename_i y t C D E;simp only[rt]at b;obtain⟨H,L⟩:=b;split at L
    .rename_i el J;rw[CA C (DN D) (DN E)]at e;exact(Yz A hd e H J h).wp u B
    .cases L
    .cases L
   .cases b
  .cases b
 case uj x=>
  split at b
  .rename_i c e;unfold OV at b;split at b
   .rename_i y t C D E;simp only[rt]at b;obtain⟨H,L⟩:=b;split at L
    .cases L
    .rename_i J;rw[CA C (DN D) (DN E)]at e;exact(XK A hd e H J h).wp u B
    .cases L
   .cases b
  .cases b
 case tw n x lo hi=>
  split at b
  .rename_i t y l hh mx e;simp only[rt,beq_iff_eq,Option.isNone_iff_eq_none]at b;obtain⟨⟨⟨⟨rfl,C⟩,D⟩,E⟩,H⟩:=b;exact(ZD A hd e C D E H h).wp u B
  .cases b
 case rR x lo hi=>
  split at b
  .rename_i t y l hh mx e;simp only[rt,Option.isNone_iff_eq_none]at b;obtain⟨⟨⟨⟨rfl,C⟩,D⟩,E⟩,H⟩:=b;split at H
   .rename_i J;exact(XL A hd e C D E J h).wp u B
   .cases H
  .cases b
 case tQ z X=>
  split at b
  .rename_i t qs e;exact(Ym A hd e b h).wp u B
  .cases b
 case uc n ys=>
  split at b
  .rename_i t len X e;split at b
   .rename_i el J;split at b
    .rename_i i hi;split at b
     .rename_i z T;simp only[rt,beq_iff_eq,sN]at b;obtain⟨⟨⟨⟨⟨⟨C,D⟩,E⟩,H⟩,L⟩,F⟩,U⟩:=b;exact(Y0 A hd e J hi T C D E H L F U h).wp u B
     .cases b
    .cases b
   .cases b
  .cases b
 case app n x y=>
  split at b
  .rename_i c e;unfold OT at b;split at b
   .rename_i p q t Y s C D E;simp only[rt,beq_iff_eq]at b;obtain⟨⟨⟨H,L⟩,rfl⟩,F⟩:=b;split at F
    .rename_i el J;split at F
     .rename_i i hi;split at F
      .rename_i z T;simp only[rt,beq_iff_eq,sN]at F;obtain⟨⟨⟨U,V⟩,W⟩,R⟩:=F;rw[CA C (DO D) (DO E),Operand.rl H]at e;exact(Yk A hd e J hi T U V W R L h).wp u B
      .cases F
     .cases F
    .cases F
   .cases b
  .cases b
 case call f ys=>
  split at b
  .rename_i c e;split at b
   .rename_i g I;simp only[rt,beq_iff_eq]at b;obtain⟨rfl,C⟩:=b;rw[CA I rfl rfl]at e;exact XE A hd u e C h B
   .cases b
  .cases b
 case sJ x ys=>
  split at b
  .rename_i c e;split at b
   .rename_i g I;simp only[rt]at b;rw[CA I rfl rfl]at e;exact Vl A hd u e b.1 b.2 h B
   .cases b
  .cases b
 case sE f cs=>
  split at b
  .rename_i g first xs e
   simp only[rt,beq_iff_eq]at b;obtain⟨⟨rfl,C⟩,D⟩:=b;rw[Array.eq_empty_of_size_eq_zero C]at e;exact(Yn A hd e D h).wp u B
  .cases b
 case ext x i=>
  split at b
  .rename_i y j s e;simp only[rt,beq_iff_eq]at b;obtain⟨C,rfl⟩:=b;rw[Operand.rl C]at e;exact(Ys A hd e h).wp u B
  .cases b
 case uF k x=>
  split at b
  .rename_i s t y e;simp only[rt]at b;obtain⟨C,D⟩:=b;split at D
   .rename_i k1 k2 hs ht;simp only[beq_iff_eq]at D;subst D;exact(Yr A hd e hs ht C h).wp u B
   .cases D
  .cases b
 case rP x i=>
  split at b
  .rename_i t y j e;simp only[rt]at b;obtain⟨⟨C,D⟩,E⟩:=b;split at E
   .rename_i J;exact(XJ A hd e C D J h).wp u B
   .cases E
  .cases b
 case tS x=>
  split at b
  .rename_i t y e;exact(XD A hd e b h).wp u B
  .cases b
 case tZ x=>
  split at b
  .rename_i t y e;exact(XB A hd e b h).wp u B
  .cases b
 case mm mx x y=>
  split at b
  .rename_i c e;unfold dr at b;split at b
   .rename_i p q C D;simp only[rt]at b;obtain⟨⟨rfl,E⟩,H⟩:=b;rw[CA C (DO D) rfl]at e;exact(UL (mx:=true) A hd e E H h).wp u B
   .rename_i p q C D;simp only[rt,Bool.not_eq_true']at b;obtain⟨⟨rfl,E⟩,H⟩:=b;rw[CA C (DO D) rfl]at e;exact(UL (mx:=false) A hd e E H h).wp u B
   .cases b
  .cases b
 case uv cs=>
  split at b
  .rename_i t e;split at b
   .rename_i i hi;split at b
    .rename_i z T;exact(Yj A hd e hi T b h).wp u B
    .cases b
   .cases b
  .cases b
 case st n x v=>cases M
 case tV n s v=>cases M
 case uh x k n agg=>
  split at b
  .rename_i t y f e;simp only[rt]at b;exact(XF A hd e b.1 b.2 h).wp u B
  .cases b
 case uZ s=>
  split at b
  .rename_i y e;rw[Operand.rl b]at e;exact(S6 A hd (.inl e) h).wp u B
  .rename_i y e;rw[Operand.rl b]at e;exact(S6 A hd (.inr e) h).wp u B
  .cases b
 case rel s=>
  split at b
  .rename_i y e;rw[Operand.rl b]at e;exact(S4 A hd (.inl e) h).wp u B
  .rename_i y e;rw[Operand.rl b]at e;exact(S4 A hd (.inr e) h).wp u B
  .cases b
 case uq s=>
  split at b
  .rename_i y e;rw[Operand.rl b]at e;exact(S5 A hd (.inl e) h).wp u B
  .rename_i y e;rw[Operand.rl b]at e;exact(S5 A hd (.inr e) h).wp u B
  .cases b
 case tF n=>
  split at b
  .rename_i y e;exact(RC A hd (.inl e) (Ky b) h).wp u B
  .rename_i y e;exact(RC A hd (.inr e) (Ky b) h).wp u B
  .cases b
 case ue x=>
  split at b
  .rename_i c e;unfold OV at b;split at b
   .rename_i y t C D E;simp only[rt]at b;obtain⟨H,L⟩:=b;split at L
    .rename_i el J;rw[CA C (DN D) (DN E)]at e;exact(XM A hd e H J h).wp u B
    .cases L
    .cases L
   .cases b
  .cases b
 case uX x i n=>
  split at b
  .rename_i t y j e;simp only[rt,beq_iff_eq]at b;exact(ZI A hd e b.1.1 b.1.2 b.2 h).wp u B
  .cases b
 case xfa x k=>
  split at b
  .rename_i t y f e;simp only[rt,beq_iff_eq]at b;exact(ZH A hd e b.1 b.2 h).wp u B
  .cases b
 case vc x=>
  split at b
  .rename_i t y e;simp only[rt,beq_iff_eq]at b;exact(ZJ A hd e b.1 b.2 h).wp u B
  .cases b
 case t6 x v k=>cases M
 case tB n s y=>
  split at b
  .rename_i c e;unfold OT at b;split at b
   .rename_i p q t Y s' C D E h0;simp only[AD.s.injEq]at h0;subst h0;simp only[rt,beq_iff_eq]at b;obtain⟨⟨⟨H,L⟩,rfl⟩,F⟩:=b;split at F
    .rename_i el J;split at F
     .rename_i i hi;split at F
      .rename_i z T;simp only[rt,beq_iff_eq,sN]at F;obtain⟨⟨⟨U,V⟩,W⟩,R⟩:=F;rw[CA C (DO D) (DO E),Operand.rl H]at e;exact(W7 A hd e J hi T U V W R L h).wp u B
      .cases F
     .cases F
    .cases F
   .cases b
  .cases b
 case sI f ys=>
  split at b
  .rename_i c e;split at b
   .rename_i g I;simp only[rt,beq_iff_eq]at b;obtain⟨rfl,C⟩:=b;rw[CA I rfl rfl]at e;exact Vm A hd u e C h B
   .cases b
  .cases b
 case ui n zero x=>
  split at b
  .rename_i t y z e;simp only[rt]at b;exact(bl A hd e b.1.1 b.1.2 b.2 h).wp u B
  .cases b
 case sS f x=>
  split at b
  .rename_i c e;split at b
   .rename_i g y I ha;simp only[rt,beq_iff_eq]at b;obtain⟨rfl,C⟩:=b;rw[CA I (DN ha) rfl]at e;exact Vj A hd u e C h B
   .cases b
  .cases b
 case sR f x=>
  split at b
  .rename_i c e;split at b
   .rename_i g y I ha;simp only[rt,beq_iff_eq]at b;obtain⟨rfl,C⟩:=b;rw[CA I (DN ha) rfl]at e;exact Vf A hd u e C h B
   .cases b
  .cases b
 case tE n=>
  split at b
  .rename_i t len X e;simp only[rt,beq_iff_eq,Array.isEmpty_iff]at b;obtain⟨⟨rfl,rfl⟩,C⟩:=b;exact(XH A hd e C h).wp u B
  .cases b
 case sF gs=>
  split at b
  .rename_i t X e;exact(W9 A hd e b h).wp u B
  .cases b
 case stx n s q=>cases M
 case uJ x q=>cases M
 case lac x=>
  split at b
  .rename_i t y e;simp only[rt,beq_iff_eq]at b;exact(Yv A hd e b.1 b.2 h).wp u B
  .cases b
 case vf x=>
  split at b
  .rename_i t y e;simp only[rt,beq_iff_eq]at b;exact(Yp A hd e b.1 b.2 h).wp u B
  .cases b
 case cut n s hi=>
  split at b
  .rename_i t y l hh mx e;simp only[rt,beq_iff_eq,Option.isNone_iff_eq_none]at b;obtain⟨⟨⟨⟨rfl,rfl⟩,C⟩,D⟩,E⟩:=b;rw[Operand.rl C]at e;exact(Yq A hd e D E h).wp u B
  .cases b
 case r9 f ys=>
  split at b
  .rename_i c e;split at b
   .rename_i g I;simp only[rt,beq_iff_eq]at b;obtain⟨rfl,C⟩:=b;rw[CA I rfl rfl]at e;exact Vi A hd u e C h B
   .cases b
  .cases b
 case r7 f ys i=>
  split at b
  .rename_i c e;split at b
   .rename_i g I;simp only[rt,beq_iff_eq]at b;obtain⟨rfl,C⟩:=b;rw[CA I rfl rfl]at e;exact Ve A hd u e C h B
   .cases b
  .cases b
 case ta f ys=>
  split at b
  .rename_i c e;split at b
   .rename_i g I;simp only[rt,beq_iff_eq]at b;obtain⟨rfl,C⟩:=b;rw[CA I rfl rfl]at e;exact(Vg A hd e C h).wp u B
   .cases b
  .cases b
 case tG n s z x=>
  split at b
  .rename_i c e;unfold WX at b;split at b
   .rename_i p q t Y C D E;simp only[rt]at b;obtain⟨⟨H,L⟩,F⟩:=b;split at F
    .rename_i el kn J hu';split at F
     .rename_i i hi;split at F
      .rename_i zz T;split at F
       .rename_i z0 hz0;simp only[rt,beq_iff_eq,sN]at F;obtain⟨⟨⟨⟨rfl,U⟩,V⟩,W⟩,R⟩:=F;rw[CA C (DO D) (DO E),Operand.isTmp_eq' H]at e;exact(W8 A hd e J hu' hi T U V (DN hz0) W R L h).wp u B
       .cases F
      .cases F
     .cases F
    .cases F
   .cases b
  .cases b
 case tD X x=>
  split at b
  .rename_i t y e;exact(XC A hd e b h).wp u B
  .cases b
 case s9 f ys=>
  split at b
  .rename_i c e;split at b
   .rename_i g I;simp only[rt,beq_iff_eq]at b;obtain⟨rfl,C⟩:=b;rw[CA I rfl rfl]at e;exact Vh A hd u e C h B
   .cases b
  .cases b
 case sP f ys=>
  split at b
  .rename_i c e;split at b
   .rename_i g I;simp only[rt,beq_iff_eq]at b;obtain⟨rfl,C⟩:=b;rw[CA I rfl rfl]at e;exact Td A hd u e C h B
   .cases b
  .cases b
 case uM x=>
  split at b
  .rename_i op t y z Y e;simp only[rt,beq_iff_eq]at b;obtain⟨⟨⟨rfl,C⟩,D⟩,E⟩:=b;exact(Yu A hd e C D E h).wp u B
  .cases b
 case tO q=>
  split at b
  .rename_i t len X e;split at b
   .rename_i x hps;simp only[rt]at b;rw[DN hps]at e;exact(XG A hd e b.1 b.2 h).wp u B
   .cases b
  .cases b
 case s5 s q=>
  split at b
  .rename_i c e;unfold OT at b;split at b
   .rename_i p q' t Y s' C D E H;simp only[AD.s.injEq]at H;subst H;simp only[rt,beq_iff_eq]at b;obtain⟨⟨⟨H,L⟩,rfl⟩,F⟩:=b;split at F
    .rename_i el J;split at F
     .rename_i i hi;split at F
      .rename_i z T;simp only[rt,beq_iff_eq,sN]at F;obtain⟨⟨⟨U,V⟩,W⟩,R⟩:=F;have hq:q'=.tmp q:=by
        cases q'<;>simp[AF]at L;rw[L]
       rw [CA C (DO D) (DO E),Operand.rl H,hq]at e;exact(W6 A hd e J hi T U V W h).wp u B
      .cases F
     .cases F
    .cases F
   .cases b
  .cases b
 case uO x=>
  split at b
  .rename_i t y e;simp only[rt,beq_iff_eq]at b;exact(Yw A hd e b.1 b.2 h).wp u B
  .cases b
 case uo x i=>
  split at b
  .rename_i t y j e;simp only[rt,beq_iff_eq]at b;exact(Y9 A hd e b.1.1 b.1.2 b.2 h).wp u B
  .cases b
 case uQ x=>
  split at b
  .rename_i t y e;simp only[rt,beq_iff_eq]at b;exact(ZA A hd e b.1 b.2 h).wp u B
  .cases b
 case up x v=>cases M
 case ub q=>
  split at b
  .rename_i t y e;exact(XA A hd e b h).wp u B
  .cases b
 case sW f ys i=>
  split at b
  .rename_i c e;split at b
   .rename_i g I;simp only[rt,beq_iff_eq]at b;obtain⟨rfl,C⟩:=b;rw[CA I rfl rfl]at e;exact Vd A hd u e C h B
   .cases b
  .cases b
 case ur=>
  split at b
  .rename_i t r e;cases r with
   |none=>exact(Y2 A hd e h).wp u B|some r=>cases b
  .cases b
 case uH s=>
  split at b
  .rename_i y e;rw[Operand.rl b]at e;exact(S3 A hd (.inl e) h).wp u B
  .rename_i y e;rw[Operand.rl b]at e;exact(S3 A hd (.inr e) h).wp u B
  .cases b
 case sV f ys=>
  split at b
  .rename_i c e;split at b
   .rename_i g I;simp only[rt,beq_iff_eq]at b;obtain⟨rfl,C⟩:=b;rw[CA I rfl rfl]at e;exact Vk A hd u e C h B
   .cases b
  .cases b
 case vb s m x=>
  split at b
  .rename_i t y z c e;simp only[rt]at b;obtain⟨⟨⟨rfl,C⟩,D⟩,E⟩:=b;exact(Y4 A hd e C D E h).wp u B
  .cases b
 case uK s m x v=>cases M
 case uL n X x v=>cases M
 case ve s n=>
  split at b
  .rename_i t y e;simp only[rt,beq_iff_eq]at b;rw[Operand.rl b.1.1]at e;exact(Yx A hd e b.1.2 b.2 h).wp u B
  .cases b
 case rK s m=>
  split at b
  .rename_i t y e;simp only[rt]at b;obtain⟨C,D⟩:=b;split at D
   .rename_i k el J;exact(Y6 A hd e C J h).wp u B
   .cases D
  .cases b
 case u9 s=>
  split at b
  .rename_i y c e;simp only[rt,Bool.not_eq_true']at b;obtain⟨rfl,C⟩:=b;rw[Operand.rl C]at e;exact(Y5 A hd e h).wp u B
  .cases b
 case uR s=>
  split at b
  .rename_i y e;rw[Operand.rl b]at e;exact(Y1 A hd e h).wp u B
  .cases b
end
end Go.Sf
namespace Go.Sf
open Go.RowKit (Below)
def OU(ops:Array Oper)(o:Oper)(r:PR):Bool:=
 match r.guard,o.guard with
 |none,none=>true|some (g,b),some (j,b')=>b==b'&&((ops[j]?).bind (·.dst))==some g|_,_=>false
def Hq(P:Program)(N:Nat)(ops:Array Oper)(o:Oper)(r:PR):Bool:=
 OU ops o r&&(match o.dst,r.dst with
 |some d,some d'=>d==d'&&decide (d<N)&&!IG r.op&&Jp P o.op r.op|none,none=>IG r.op&&Jp P o.op r.op|_,_=>false)
section
variable{P:Program}{F0:Nat->Nat->Prop}{w0:W0}{O:AA}{a:Act}{w:World}{ops:Array Oper}{o:Oper}{r:PR}{N:Nat}{p:Option (Nat×Value)}{K:AA->Prop}{next:Act->World->Prop}{Q:Exit->Act->World->Prop}
theorem BG.skip(b:BG F0 w0 O a w){d:Nat}(hd:d<a.tmps.size):BG F0 w0 ((d,.sk)::O) (a.put (some d) undef) w:=by
 obtain ⟨G,h⟩:=b;exact⟨_,h.quiet (Below.refl _ _) d hd .sk undef (fun _=>none) (by simp) (by simp) (by simp) rfl trivial⟩
theorem IQ{o:Oper}(b:o.dst=none){K:EV->AA->Prop}(h:Eu P F0 w0 a w o K)(e:∀env' w',K .undef env'->BG F0 w0 env' a w'->next a w'):o.wp P a w next Q:=by
 obtain ⟨w',c,env',f,g⟩:=h;unfold Oper.wp;rw[c,Oper.upon_skip,b];exact e _ _ f g
theorem ek{S:FuncId->Fq->Af->Prop}{n s:Nat}{v:AD}{d:Option Nat}{O:AA}{K:EV->AA->Prop}(h:(AC.tV n s v).wp S O d K):(AC.st n (.s s) v).wp S O d K:=by
 simp [AC.wp]at h|-
 grind [AD.place]
theorem O5(f:BG F0 w0 O a w)(D:Hj N p a)(M:∀i v,p=some (i,v)->r.dst≠some i)(R:Hq P N ops o r=true)(h:r.wp (AH P) O K)
  (E:∀env' a' w',K env'->Hj N p a'->BG F0 w0 env' a' w'->next a' w'):
  if Region.wanted o (yielded ops a.tmps)then o.wp P a w next Q else next (a.put o.dst undef) w:=by
 simp [Hq]at R;obtain⟨J,hd⟩:=R;have T:r.op.wp (AH P) O r.dst (fun e env'=>K (env'.put r.dst e))->o.wp P a w next Q:=by
  intro A;obtain⟨G,f⟩:=f;cases ho:o.dst with
  |some d=>
   cases B:r.dst with
   |none=>rw[ho,B]at hd;cases hd
   |some d'=>
    rw [ho,B]at hd;simp[sN,Bool.not_eq_true']at hd;obtain⟨⟨⟨rfl,I⟩,L⟩,c⟩:=hd;rw[B]at A;exact YG f (D.size▸I) ho c L A fun e env' a' w' k l k3=>E _ a' w' k (D.put (fun i v X=>by rw[<-B];exact M i v X) l) k3
  |none=>
   cases B:r.dst with
   |some d'=>rw[ho,B]at hd;cases hd
   |none=>
    rw [ho,B]at hd;rw[B]at A;simp at hd;obtain⟨L,c⟩:=hd;generalize X:r.op=p at A L c;cases p<;>simp[IG]at L<;>first|cases L|skip
    .rename_i n x v;simp[Jp]at c;split at c
     .rename_i t y u e;simp at c;exact IQ ho (UN f e c.1.1 c.1.2 c.2 A) fun env' w' k l=>E env' a w' k D l
     .cases c
    .rename_i n s v;simp[Jp]at c;split at c
     .rename_i t y u e;simp at c;rw[Operand.rl c.1.1]at e;exact IQ ho (UN f e (x':=.s s) (by simp[AF]) c.1.2 c.2 (ek A)) fun env' w' k l=>E env' a w' k D l
     .cases c
    .rename_i x v;simp[Jp]at c;split at c
     .rename_i t y u e;simp at c;exact IQ ho (ZK f e c.1.1 c.1.2 c.2 A) fun env' w' k l=>E env' a w' k D l
     .cases c
    .rename_i n x q;simp[Jp]at c;split at c
     .rename_i t y u e;simp at c;exact IQ ho (ZG f e c.1.1 c.1.2 c.2 A) fun env' w' k l=>E env' a w' k D l
     .cases c
    .rename_i x q;simp[Jp]at c;split at c
     .rename_i t y u e;simp at c;exact IQ ho (Yo f e c.1.1 c.1.2 c.2 A) fun env' w' k l=>E env' a w' k D l
     .cases c
    .rename_i x v;simp[Jp]at c;split at c
     .rename_i t y u e;simp at c;exact IQ ho (ZC f e c.1.1 c.1.2 c.2 A) fun env' w' k l=>E env' a w' k D l
     .cases c
    .rename_i n ps x v;simp[Jp]at c;split at c
     .rename_i t y u e;simp at c;exact IQ ho (ZE f e c.1.1 c.1.2 c.2 A) fun env' w' k l=>E env' a w' k D l
     .cases c
    .rename_i s m x v;simp[Jp]at c;split at c
     .rename_i t y z u e;simp at c;exact IQ ho (Y7 f e c.1.1.1 c.1.1.2 c.1.2 c.2 A) fun env' w' k l=>E env' a w' k D l
     .cases c
 have U:K (O.put r.dst .sk)->next (a.put o.dst undef) w:=by
  intro Y;cases ho:o.dst with
  |some d=>
   cases B:r.dst with
   |none=>rw[ho,B]at hd;cases hd
   |some d'=>
    rw [ho,B]at hd;simp[sN,Bool.not_eq_true']at hd;obtain⟨⟨⟨rfl,I⟩,L⟩,c⟩:=hd;rw[B]at Y;exact E _ _ _ Y (D.put (fun i v X=>by rw[<-B];exact M i v X) ⟨_,rfl⟩) (f.skip (D.size▸I))
  |none=>
   cases B:r.dst with
   |some d'=>rw[ho,B]at hd;cases hd
   |none=>rw[B]at Y;exact E _ _ _ Y D f
 unfold PR.wp at h;cases F:r.guard with
 |none=>
  rw [F]at h;cases C:o.guard with
  |none=>rw[az (by simp[Region.wanted,C])];exact T h|some g=>rw[OU,F,C]at J;cases J
 |some gb=>
  obtain ⟨g,b⟩:=gb;rw[F]at h;cases C:o.guard with
  |none=>rw[OU,F,C]at J;cases J
  |some jb=>
   obtain ⟨j,b'⟩:=jb;rw[OU,F,C]at J;simp at J;obtain⟨rfl,hj⟩:=J;simp only at h;split at h
   .rename_i q S;have hv:slot a g=.bool q:=by
     obtain ⟨G,f⟩:=f;have:=AR f S (by simp);simpa only[AG,AS]using this
    have H:g<a.tmps.size:=by
     obtain ⟨G,f⟩:=f;exact A5 f S (by simp)
    have Z:yielded ops a.tmps j=some q:=by
     have I:a.tmps[g]?=some (.bool q):=by
      rw [slot,Array.getD_eq_getD_getElem?,Array.getElem?_eq_getElem H]at hv;rw[Array.getElem?_eq_getElem H];simpa using hv
     simp [yielded,hj,I]
    have A:Region.wanted o (yielded ops a.tmps)=(q==b):=by
     simp only[Region.wanted,C,Z];cases q<;>cases b<;>rfl
    rw [A];by_cases V:q=b
    .subst V;rw[az (by simp)];exact T (h.1 rfl)
    .have W:q=!b:=by cases q<;>cases b<;>simp_all
     rw [bk (by simpa using V)];exact U (h.2 W)
   .rename_i S;have hv:slot a g=undef:=by
     obtain ⟨G,f⟩:=f;have:=AR f S (by simp);simpa only[AG]using this
    have H:g<a.tmps.size:=by
     obtain ⟨G,f⟩:=f;exact A5 f S (by simp)
    have Z:yielded ops a.tmps j=none:=by
     have I:a.tmps[g]?=some undef:=by
      rw [slot,Array.getD_eq_getD_getElem?,Array.getElem?_eq_getElem H]at hv;rw[Array.getElem?_eq_getElem H];simpa using hv
     simp [yielded,hj,I,undef]
    have A:Region.wanted o (yielded ops a.tmps)=false:=by
     simp only[Region.wanted,C,Z];cases b<;>rfl
    rw [A];exact U h
   .exact h.elim
def Mu:List PR->Bool
 |[]=>true|r::rs=>(match r.op,r.dst,r.guard with|.uP _,none,none=>true|_,_,_=>false)&&Mu rs
variable{rs:List PR}
theorem aa:∀{O:AA},Mu rs=true->wpOps (AH P) K rs O->BG F0 w0 O a w->∃env',K env'/\BG F0 w0 env' a w:=by
 induction rs with
 |nil=>intro O _ h b;exact⟨O,h,b⟩|cons r rs l=>
  intro O c h b;simp[Mu]at c;obtain⟨e,k⟩:=c;split at e
  .rename_i s f g i;simp[wpOps,PR.wp,f,g,i,AC.wp]at h;split at h
   .rename_i cs j;obtain⟨G,b⟩:=b;exact l k h (b.uP j)
   .exact h.elim
  .cases e
def Hw(P:Program)(N:Nat)(ops:Array Oper):List Oper->List PR->Bool
 |[],rs=>Mu rs|o::os,r::rs=>Hq P N ops o r&&Hw P N ops os rs|_::_,[]=>false
theorem Pw(m:∀O a w,K O->Hj N p a->BG F0 w0 O a w->Q .normal a w):∀(os:List Oper)(rs:List PR)(k:Nat),ops.toList.drop k=os->Hw P N ops os rs=true->(∀i v,p=some (i,v)->∀r∈rs,r.dst≠some i)->∀(O:AA)(a:Act)(w:World),Hj N p a->BG F0 w0 O a w ->
  wpOps (AH P) K rs O->Go.wpOps P ops Q (List.range' k os.length) a w
 |[],rs,k,_,b,_,O,a,w,g,j,h=>by
  obtain ⟨env',y,z⟩:=aa b h j;exact m env' a w y g z
 |o::os,[],k,_,b,_,_,_,_,_,_,_=>by simp[Hw]at b|o::os,r::rs,k,hd,b,c,O,a,w,g,j,h=>by
  simp [Hw]at b;have u:ops[k]?=some o:=by
   rw [<-Array.getElem?_toList];have:=congrArg (fun l=>l[0]?) hd
   grind
  have f:ops.toList.drop (k+1)=os:=by
   grind [List.tail,List.tail_drop]
  simp [List.range'_succ];rw[Go.wpOps_cons];unfold Go.wpOp;rw[u];simp;have:=O5 (Q:=Q) (next:=Go.wpOps P ops Q (List.range' (k+1) os.length)) j g (fun i v e=>c i v e r (by simp)) b.1 h fun env' a' w' q s k3=>Pw m os rs (k+1) f b.2 (fun i v e r t=>c i v e r (by simp[t])) env' a' w' s k3 q
  grind
theorem So{id:Nat}(b:Hw P N ops ops.toList rs=true)(c:∀i v,p=some (i,v)->∀r∈rs,r.dst≠some i)(e:Hj N p a)(f:BG F0 w0 O a w)(h:wpOps (AH P) K rs O)
  (g:∀O a w,K O->Hj N p a->BG F0 w0 O a w->Q .normal a w):(Code.region id ops false).wp P Q a w:=by
 refine Go.wp_region ?_;rw[List.range_eq_range',<-Array.length_toList];exact Pw g ops.toList rs 0 rfl b c O a w e f h
end
end Go.Sf
