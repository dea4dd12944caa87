/- One operation against the checker, and regions in the text's order. -/
import Derived.Test.YtagcclhejecceaaGreatSfN
import Derived.Orders
set_option linter.all false
namespace Go.Sf
open Go.RowKit (Below)
def Operand.wX(n:Nat):Operand->Bool
 |.tmp m=>m==n|_=>false
variable{n:Nat}{x:Operand}
theorem Operand.q0(h:Operand.wX n x=true):x=.tmp n:=by
 cases x<;>simp[Operand.wX]at h;rw[h]
def V3:Operand->Bool
 |.const v=>LQ v|_=>false
theorem P4(h:V3 x=true):∃v,x=.const v/\LQ v=true:=by
 cases x<;>simp[V3]at h;exact⟨_,rfl,h⟩
def UJ(P:Program)(str:Bool)(c:Call)(x:AF):Bool:=
 match c.callee,c.args.toList,c.argTypes.toList with
 |.builtin .len,[y],[t]=>AI y x&&(match P.underlying t with|some (.slice _)=>!str|some .string=>str|_=>false)
 |_,_,_=>false
def UH(P:Program)(n:Nat)(c:Call)(x y:AF):Bool:=
 match c.callee,c.args.toList,c.argTypes.toList,x with
 |.builtin .append,[p,q],[t,t'],.s s=>Operand.wX s p&&AI q y&&t==t'&&(match P.underlying t with
  |some (.slice e)=>(match P.info? e with
   |some i=>(match i.zero with|some z=>i.size==n&&decide (i.bytes<=4096)&&z.cells.size==n&&decide (0<n)|none=>false)
   |none=>false)
  |_=>false)
 |_,_,_,_=>false
def o5(mx:Bool)(c:Call)(x y:AF):Bool:=
 match c.callee,c.args.toList with
 |.builtin .max,[p,q]=>mx&&AI p x&&AI q y|.builtin .min,[p,q]=>!mx&&AI p x&&AI q y|_,_=>false
def Om(P:Program)(o:Op):AE->Bool
 |.mv x=>match o with|.move y|.assign y=>AI y x|_=>false
 |.tk s=>match o with|.move y|.assign y=>Operand.wX s y|_=>false
 |.yw _=>match o with|.move y|.assign y=>V3 y|_=>false
 |.w3 x k=>match o with|.fieldAddr t y f=>AI y x&&OR P t f==some k|.move y|.assign y|.nilCheck y=>k==0&&AI y x|_=>false
 |.bad s k=>match o with|.indexAddr t y j=>Operand.wX s y&&dM P t j k|.fieldAddr t y f=>Operand.wX s y&&OR P t f==some k|.move y|.assign y|.nilCheck y=>k==0&&Operand.wX s y|_=>false
 |.yb x i n=>match o with|.indexAddr t y j=>AI y x&&AI j i&&H4 P t==some n|_=>false
 |.y4 x i n k=>match o with|.indexAddr t y j=>AI y x&&AI j i&&(match P.underlying t with|some (.array k' e)=>k'==k&&Cn P e==some n|_=>false)|_=>false
 |.ld x=>match o with|.load t y=>AI y x&&Bv P t==some false|_=>false
 |.zJ x k=>match o with|.fieldAddr t y f=>AI y x&&OR P t f==some k|_=>false
 |.zN x n=>match o with|.load t y=>AI y x&&Bv P t==some true&&Cn P t==some n|_=>false
 |.yt x n=>match o with|.load t y=>AI y x&&Bv P t==some true&&Cn P t==some n|_=>false
 |.zO s n=>match o with|.load t y=>AI y (.s s)&&Bv P t==some true&&Cn P t==some n|_=>false
 |.zL x=>match o with|.load t y=>AI y x&&Bv P t==some false|_=>false
 |.bin k op x y=>match o with|.binOp op' t p q _=>op'==op&&Mx P k t&&AI p x&&AI q y|_=>false
 |.not x=>match o with|.unOp op _ y=>op==.not&&AI y x|_=>false
 |.neg x=>match o with|.unOp op _ y=>op==.neg&&AI y x|_=>false
 |.pick c x y=>match o with|.pick c' p q=>AI c' c&&AI p x&&AI q y|_=>false
 |.len x=>match o with|.call c=>UJ P false c x|_=>false
 |.yX x=>match o with|.call c=>UJ P true c x|_=>false
 |.xu n x lo hi=>match o with|.slice t y l h mx=>mx.isNone&&AI y x&&Mz l lo&&Mz h hi&&H4 P t==some n|_=>false
 |.xi x lo hi=>match o with|.slice t y l h mx=>mx.isNone&&AI y x&&Mz l lo&&Mz h hi&&(match P.underlying t with|some .string=>true|_=>false)|_=>false
 |.yq z ps=>match o with|.build t qs=>dN P t z qs.toList ps|_=>false
 |.yI n ys=>match o with
  |.buildSlice t len ps=>(match P.underlying t with
   |some (.slice e)=>(match P.info? e with
    |some i=>(match i.zero with
     |some z=>i.size==n&&decide (0<n)&&z.cells.toList.all Value.oneCell'&&decide (0<z.cells.size)&&len==ps.size&&decide (len*n<=2^ 24)&&RS 0 ps.toList ys|none=>false)
    |none=>false)
   |_=>false)
  |_=>false
 |.app n x y=>match o with|.call c=>UH P n c x y|_=>false
 |.call f ys=>match o with|.call c=>(match c.callee with|.value (.func g)=>g==f&&BX c.args.toList ys|_=>false)|_=>false
 |.ye x ys=>match o with|.call c=>(match c.callee with|.value g=>AI g x&&BX c.args.toList ys|_=>false)|_=>false
 |.w8 f cs=>match o with|.makeFunc (.func g) first xs=>g==f&&first.size==0&&BX xs.toList cs|_=>false
 |.ext x i=>match o,x with|.extract y j,.s s=>Operand.wX s y&&j==i|_,_=>false
 |.yA k x=>match o with|.convert s t y=>AI y x&&(match P.underlying s,P.underlying t with|some (.int _),some (.int k')=>k'==k|_,_=>false)|_=>false
 |.xc x i=>match o with|.index t y j=>AI y x&&AI j i&&(match P.underlying t with|some .string=>true|_=>false)|_=>false
 |.yr x=>match o with|.box _ y=>AI y x|_=>false
 |.yK x=>match o with|.box _ y=>AI y x|_=>false
 |.mm mx x y=>match o with|.call c=>o5 mx c x y|_=>false
 |.yY cs=>match o with|.alloc t=>(match P.info? t with|some i=>(match i.zero with|some z=>Nk cs z.cells.toList|none=>false)|none=>false)|_=>false
 |.st n x v=>match o with|.store t y u=>AI y x&&AI u v&&Cn P t==some n|_=>false
 |.yy n s v=>match o with|.store t y u=>Operand.wX s y&&AI u v&&Cn P t==some n|_=>false
 |.ze _=>false|.yG x k n agg=>match o with|.field t y f=>AI y x&&dO P t f k n agg|_=>false
 |.zg s=>match o with|.move y|.assign y=>Operand.wX s y|_=>false
 |.yD x=>match o with|.call c=>UJ P false c x|_=>false
 |.zy x i n=>match o with|.indexAddr t y j=>AI y x&&AI j i&&H4 P t==some n|_=>false
 |.zv x i n=>match o with|.indexAddr t y j=>AI y x&&AI j i&&H4 P t==some n|_=>false
 |.y8 x=>match o with|.load t y=>AI y x&&Bv P t==some false|_=>false
 |.xfa x k=>match o with|.fieldAddr t y f=>AI y x&&OR P t f==some k|_=>false
 |.zD x=>match o with|.load t y=>AI y x&&Bv P t==some false|_=>false
 |.yx x v k=>match o with|.store t y u=>AI y x&&AI u v&&Cn P t==some k|_=>false
 |.rel s=>match o with|.move y|.assign y=>Operand.wX s y|_=>false
 |.yd _=>match o with|.move y|.assign y=>V3 y|_=>false
 |.yW s=>match o with|.move y|.assign y=>Operand.wX s y|_=>false
 |.x4 n s y=>match o with|.call c=>UH P n c (.s s) y|_=>false
 |.xz f ys=>match o with|.call c=>(match c.callee with|.value (.func g)=>g==f&&BX c.args.toList ys|_=>false)|_=>false
 |.yR n zero x=>match o with|.makeSlice t y z=>AI y x&&AI z x&&Zf P t n zero|_=>false
 |.yg n zero x=>match o with|.makeSlice t y z=>AI y x&&AI z x&&Zf P t n zero|_=>false
 |.xk f x ys=>match o with|.call c=>(match c.callee,c.args.toList with|.value (.func g),y::zs=>g==f&&(AI y x&&BX zs ys)|_,_=>false)|_=>false
 |.xP f x=>match o with|.call c=>(match c.callee,c.args.toList with|.value (.func g),[y]=>g==f&&AI y x|_,_=>false)|_=>false
 |.ym n=>match o with|.buildSlice t len ps=>len==0&&ps.isEmpty&&Ze P t n|_=>false
 |.wP gs=>match o with|.build t ps=>Zc P t ps.toList gs|_=>false
 |.stx n s q=>match o with|.store t y u=>AI y (.s s)&&AI u (.s q)&&Cn P t==some n|_=>false
 |.xY f ys=>match o with|.call c=>(match c.callee with|.value (.func g)=>g==f&&BX c.args.toList ys|_=>false)|_=>false
 |.xj f ys=>match o with|.call c=>(match c.callee with|.value (.func g)=>g==f&&BX c.args.toList ys|_=>false)|_=>false
 |.y9 x=>match o with|.binOp op t y z _=>op==.eql&&AI y x&&Qh z&&YW P t|_=>false
 |.zT x=>match o with|.load t y=>AI y x&&Bv P t==some false|_=>false
 |.zb x=>match o with|.load t y=>AI y x&&Bv P t==some false|_=>false
 |.zp x q=>match o with|.store t y u=>AI y x&&AI u (.s q)&&Cn P t==some 1|_=>false
 |.cut n s hi=>match o with|.slice t y l (some h) mx=>mx.isNone&&l.isNone&&Operand.wX s y&&AI h hi&&H4 P t==some n|_=>false
 |.xD f ys=>match o with|.call c=>(match c.callee with|.value (.func g)=>g==f&&BX c.args.toList ys|_=>false)|_=>false
 |.yn _ x=>match o with|.box _ y=>AI y x|_=>false
 |.xZ f ys=>match o with|.call c=>(match c.callee with|.value (.func g)=>g==f&&BX c.args.toList ys|_=>false)|_=>false
 |.yj n s z x=>match o with|.call c=>fO P n s z x c|_=>false
 |.w6 f ys _=>match o with|.call c=>(match c.callee with|.value (.func g)=>g==f&&BX c.args.toList ys|_=>false)|_=>false
 |.yv q=>match o with|.buildSlice t len ps=>(match len,ps.toList with|1,[(0,x)]=>Zd P t&&AI x (.s q)|_,_=>false)|_=>false
 |.xC s q=>match o with|.call c=>UH P 1 c (.s s) (.s q)|_=>false
 |.zu x=>match o with|.load t y=>AI y x&&Bv P t==some false|_=>false
 |.yO x i=>match o with|.indexAddr t y j=>AI y x&&AI j i&&H4 P t==some 1|_=>false
 |.zj x=>match o with|.load t y=>AI y x&&Bv P t==some false|_=>false
 |.yP x v=>match o with|.store t y u=>AI y x&&AI u v&&Cn P t==some 1|_=>false
 |.yH q=>match o with|.box _ y=>AI y (.s q)|_=>false
 |.xF f ys _=>match o with|.call c=>(match c.callee with|.value (.func g)=>g==f&&BX c.args.toList ys|_=>false)|_=>false
 |.ldg s n=>match o with|.load t y=>Operand.wX s y&&Bv P t==some true&&Cn P t==some n|_=>false
 |.zh n _ x v=>match o with|.store t y u=>AI y x&&AI u v&&Cn P t==some n|_=>false
 |.yQ=>match o with|.makeMap _ r=>r.isNone|_=>false
 |.zI s=>match o with|.move y|.assign y=>Operand.wX s y|_=>false
 |.xw f ys=>match o with|.call c=>(match c.callee with|.value (.func g)=>g==f&&BX c.args.toList ys|_=>false)|_=>false
 |.zK _ m x=>match o with|.lookup t y z c=>c&&OW P t&&AI y m&&AI z x|_=>false
 |.zi _ m x v=>match o with|.mapUpdate t y z u=>OW P t&&AI y m&&AI z x&&AI u v|_=>false
 |.wi _ m=>match o with|.range t y=>AI y m&&(match P.underlying t with|some (.map _ _)=>true|_=>false)|_=>false
 |.zm s=>match o with|.next y c=>!c&&Operand.wX s y|_=>false
 |.zr s=>match o with|.entry y=>Operand.wX s y|_=>false
def MK:AE->Bool
 |.st ..=>true|.yy ..=>true|.yx ..=>true|.stx ..=>true|.zp ..=>true|.yP ..=>true|.zi ..=>true|.zh ..=>true|_=>false
section
variable{P:Program}{F0:Nat->Nat->Prop}{w0:W0}{U:AB}{a:Act}{w:World}{G:BP}{d:Nat}{o:Oper}{K:EV->AB->Prop}
theorem Ax.wp(h:Ax P F0 w0 a w o d K)(b:o.dst=some d){next:Act->World->Prop}{Q:Exit->Act->World->Prop}(f:∀e env' a' w',K e env'->PU a d a'->Bm F0 w0 ((d,e)::env') a' w'->next a' w'):o.wp P a w next Q:=by
 obtain ⟨v,w',c,e,env',g,i⟩:=h;unfold Oper.wp;rw[c,Oper.upon_value,b];exact f e env' _ w' g ⟨_,rfl⟩ i
variable{α:Type}
theorem Fx{a:Array α}{x:α}(h:a.toList=[x]):a=#[x]:=by
 cases a;simp_all
theorem E0{a:Array α}{x y:α}(h:a.toList=[x,y]):a=#[x,y]:=by
 cases a;simp_all
theorem Cy{c:Call}{b:Callee}{e:Array Operand}{f:Array TypeId}(g:c.callee=b)(h:c.args=e)(i:c.argTypes=f):c={callee:=b,args:=e,argTypes:=f}:=by
 cases c;simp_all
theorem ic(A:AO F0 w0 U a w G)(hd:d<a.tmps.size)(u:o.dst=some d){p:AE}(b:Om P o.op p=true)(M:MK p=false)(h:p.wp (AR P) U (some d) K)
  {next:Act->World->Prop}{Q:Exit->Act->World->Prop}(B:∀e env' a' w',K e env'->PU a d a'->Bm F0 w0 ((d,e)::env') a' w'->next a' w'):o.wp P a w next Q:=by
 cases p<;>simp only[Om]at b<;>try(exact absurd b Bool.false_ne_true)
 case mv x=>
  split at b
  .rename_i y e;exact(cH A hd (.inl e) b h).wp u B
  .rename_i y e;exact(cH A hd (.inr e) b h).wp u B
  .cases b
 case tk s=>
  split at b
  .rename_i y e;rw[Operand.q0 b]at e;exact(cJ A hd (.inl e) h).wp u B
  .rename_i y e;rw[Operand.q0 b]at e;exact(cJ A hd (.inr e) h).wp u B
  .cases b
 case yw n=>
  split at b
  .rename_i y e;exact(X8 A hd (.inl e) (P4 b) h).wp u B
  .rename_i y e;exact(X8 A hd (.inr e) (P4 b) h).wp u B
  .cases b
 case w3 x k=>
  split at b
  .rename_i t y f e;simp only[pr,beq_iff_eq]at b;exact(Pp A hd (Wq e b.2) b.1 h).wp u B
  .rename_i y e;simp only[pr,beq_iff_eq]at b;obtain⟨rfl,b⟩:=b;exact(Pp A hd (PN (.inl e)) b h).wp u B
  .rename_i y e;simp only[pr,beq_iff_eq]at b;obtain⟨rfl,b⟩:=b;exact(Pp A hd (PN (.inr (.inl e))) b h).wp u B
  .rename_i y e;simp only[pr,beq_iff_eq]at b;obtain⟨rfl,b⟩:=b;exact(Pp A hd (PN (.inr (.inr e))) b h).wp u B
  .cases b
 case bad s k=>
  split at b
  .rename_i t y j e;simp only[pr]at b;rw[Operand.q0 b.1]at e;exact(Po A hd (ln e b.2) h).wp u B
  .rename_i t y f e;simp only[pr,beq_iff_eq]at b;rw[Operand.q0 b.1]at e;exact(Po A hd (Wq e b.2) h).wp u B
  .rename_i y e;simp only[pr,beq_iff_eq]at b;obtain⟨rfl,b⟩:=b;rw[Operand.q0 b]at e;exact(Po A hd (PN (.inl e)) h).wp u B
  .rename_i y e;simp only[pr,beq_iff_eq]at b;obtain⟨rfl,b⟩:=b;rw[Operand.q0 b]at e;exact(Po A hd (PN (.inr (.inl e))) h).wp u B
  .rename_i y e;simp only[pr,beq_iff_eq]at b;obtain⟨rfl,b⟩:=b;rw[Operand.q0 b]at e;exact(Po A hd (PN (.inr (.inr e))) h).wp u B
  .cases b
 case yb x i n=>
  split at b
  .rename_i t y j e;simp only[pr,beq_iff_eq]at b;exact(jw A hd e b.1.1 b.1.2 b.2 h).wp u B
  .cases b
 case y4 x i n k=>
  split at b
  .rename_i t y j e;simp only[pr]at b;obtain⟨⟨C,D⟩,E⟩:=b;split at E
   .rename_i k' el J;simp only[pr,beq_iff_eq]at E;obtain⟨rfl,H⟩:=E;exact(ji A hd e C D J H h).wp u B
   .cases E
  .cases b
 case ld x=>
  split at b
  .rename_i t y e;simp only[pr,beq_iff_eq]at b;exact(nG A hd e b.1 b.2 h).wp u B
  .cases b
 case zJ x k=>
  split at b
  .rename_i t y f e;simp only[pr,beq_iff_eq]at b;refine(Pp (S:=AR P) A hd (Wq e b.2) b.1 ?_).wp u B;simp only[AE.wp]at h|-;split at h
   .rename_i row Z;rw[gi A Z];exact h
   .exact h.elim
  .cases b
 case zN x n=>
  split at b
  .rename_i t y e;simp only[pr,beq_iff_eq]at b;refine(VT (S:=AR P) A hd e b.1.1 b.1.2 b.2 ?_).wp u B;simp only[AE.wp]at h|-;split at h
   .rename_i row Z;rw[gi A Z];exact h
   .exact h.elim
  .cases b
 case yt x n=>
  split at b
  .rename_i t y e;simp only[pr,beq_iff_eq]at b;exact(VT A hd e b.1.1 b.1.2 b.2 h).wp u B
  .cases b
 case zO s n=>
  split at b
  .rename_i t y e;simp only[pr,beq_iff_eq]at b;refine(VT (S:=AR P) A hd e b.1.1 b.1.2 b.2 (y:=.s s) ?_).wp u B;simp only[AE.wp]at h|-;split at h
   .rename_i cs I;simp only[AF.ev,I,A1,AX];exact h
   .exact h.elim
  .cases b
 case zL x=>
  split at b
  .rename_i t y e;simp only[pr,beq_iff_eq]at b;exact(j6 A hd e b.1 b.2 h).wp u B
  .cases b
 case bin k op x y=>
  split at b
  .rename_i op' t p q Y e;simp only[pr,beq_iff_eq]at b;obtain⟨⟨⟨rfl,C⟩,D⟩,E⟩:=b;exact(jn A hd e C D E h).wp u B
  .cases b
 case not x=>
  split at b
  .rename_i op t y e;simp only[pr,beq_iff_eq]at b;obtain⟨rfl,C⟩:=b;exact(kK A hd e C h).wp u B
  .cases b
 case neg x=>
  split at b
  .rename_i op t y e;simp only[pr,beq_iff_eq]at b;obtain⟨rfl,C⟩:=b;exact(kH A hd e C h).wp u B
  .cases b
 case pick c x y=>
  split at b
  .rename_i c' p q e;simp only[pr]at b;exact(gV A hd e b.1.1 b.1.2 b.2 h).wp u B
  .cases b
 case len x=>
  split at b
  .rename_i c e;unfold UJ at b;split at b
   .rename_i y t C D E;simp only[pr]at b;obtain⟨H,L⟩:=b;split at L
    .rename_i el J;rw[Cy C (Fx D) (Fx E)]at e;exact(j7 A hd e H J h).wp u B
    .cases L
    .cases L
   .cases b
  .cases b
 case yX x=>
  split at b
  .rename_i c e;unfold UJ at b;split at b
   .rename_i y t C D E;simp only[pr]at b;obtain⟨H,L⟩:=b;split at L
    .cases L
    .rename_i J;rw[Cy C (Fx D) (Fx E)]at e;exact(gX A hd e H J h).wp u B
    .cases L
   .cases b
  .cases b
 case xu n x lo hi=>
  split at b
  .rename_i t y l hh mx e;simp only[pr,beq_iff_eq,Option.isNone_iff_eq_none]at b;obtain⟨⟨⟨⟨rfl,C⟩,D⟩,E⟩,H⟩:=b;exact(kM A hd e C D E H h).wp u B
  .cases b
 case xi x lo hi=>
  split at b
  .rename_i t y l hh mx e;simp only[pr,Option.isNone_iff_eq_none]at b;obtain⟨⟨⟨⟨rfl,C⟩,D⟩,E⟩,H⟩:=b;split at H
   .rename_i J;exact(gY A hd e C D E J h).wp u B
   .cases H
  .cases b
 case yq z X=>
  split at b
  .rename_i t qs e;exact(jo A hd e b h).wp u B
  .cases b
 case yI n ys=>
  split at b
  .rename_i t len X e;split at b
   .rename_i el J;split at b
    .rename_i i hi;split at b
     .rename_i z R;simp only[pr,beq_iff_eq,wq]at b;obtain⟨⟨⟨⟨⟨⟨C,D⟩,E⟩,H⟩,L⟩,F⟩,T⟩:=b;exact(j8 A hd e J hi R C D E H L F T h).wp u B
     .cases b
    .cases b
   .cases b
  .cases b
 case app n x y=>
  split at b
  .rename_i c e;unfold UH at b;split at b
   .rename_i p q t Y s C D E;simp only[pr,beq_iff_eq]at b;obtain⟨⟨⟨H,L⟩,rfl⟩,F⟩:=b;split at F
    .rename_i el J;split at F
     .rename_i i hi;split at F
      .rename_i z R;simp only[pr,beq_iff_eq,wq]at F;obtain⟨⟨⟨T,V⟩,W⟩,O⟩:=F;rw[Cy C (E0 D) (E0 E),Operand.q0 H]at e;exact(jm A hd e J hi R T V W O L h).wp u B
      .cases F
     .cases F
    .cases F
   .cases b
  .cases b
 case call f ys=>
  split at b
  .rename_i c e;split at b
   .rename_i g I;simp only[pr,beq_iff_eq]at b;obtain⟨rfl,C⟩:=b;rw[Cy I rfl rfl]at e;exact gR A hd u e C h B
   .cases b
  .cases b
 case ye x ys=>
  split at b
  .rename_i c e;split at b
   .rename_i g I;simp only[pr]at b;rw[Cy I rfl rfl]at e;exact eG A hd u e b.1 b.2 h B
   .cases b
  .cases b
 case w8 f cs=>
  split at b
  .rename_i g first xs e
   simp only[pr,beq_iff_eq]at b;obtain⟨⟨rfl,C⟩,D⟩:=b;rw[Array.eq_empty_of_size_eq_zero C]at e;exact(jp A hd e D h).wp u B
  .cases b
 case ext x i=>
  split at b
  .rename_i y j s e;simp only[pr,beq_iff_eq]at b;obtain⟨C,rfl⟩:=b;rw[Operand.q0 C]at e;exact(jv A hd e h).wp u B
  .cases b
 case yA k x=>
  split at b
  .rename_i s t y e;simp only[pr]at b;obtain⟨C,D⟩:=b;split at D
   .rename_i k1 k2 hs ht;simp only[beq_iff_eq]at D;subst D;exact(ju A hd e hs ht C h).wp u B
   .cases D
  .cases b
 case xc x i=>
  split at b
  .rename_i t y j e;simp only[pr]at b;obtain⟨⟨C,D⟩,E⟩:=b;split at E
   .rename_i J;exact(gW A hd e C D J h).wp u B
   .cases E
  .cases b
 case yr x=>
  split at b
  .rename_i t y e;exact(gQ A hd e b h).wp u B
  .cases b
 case yK x=>
  split at b
  .rename_i t y e;exact(gO A hd e b h).wp u B
  .cases b
 case mm mx x y=>
  split at b
  .rename_i c e;unfold o5 at b;split at b
   .rename_i p q C D;simp only[pr]at b;obtain⟨⟨rfl,E⟩,H⟩:=b;rw[Cy C (E0 D) rfl]at e;exact(cG (mx:=true) A hd e E H h).wp u B
   .rename_i p q C D;simp only[pr,Bool.not_eq_true']at b;obtain⟨⟨rfl,E⟩,H⟩:=b;rw[Cy C (E0 D) rfl]at e;exact(cG (mx:=false) A hd e E H h).wp u B
   .cases b
  .cases b
 case yY cs=>
  split at b
  .rename_i t e;split at b
   .rename_i i hi;split at b
    .rename_i z R;exact(jk A hd e hi R b h).wp u B
    .cases b
   .cases b
  .cases b
 case st n x v=>cases M
 case yy n s v=>cases M
 case yG x k n agg=>
  split at b
  .rename_i t y f e;simp only[pr]at b;exact(gS A hd e b.1 b.2 h).wp u B
  .cases b
 case zg s=>
  split at b
  .rename_i y e;rw[Operand.q0 b]at e;exact(aF A hd (.inl e) h).wp u B
  .rename_i y e;rw[Operand.q0 b]at e;exact(aF A hd (.inr e) h).wp u B
  .cases b
 case rel s=>
  split at b
  .rename_i y e;rw[Operand.q0 b]at e;exact(aD A hd (.inl e) h).wp u B
  .rename_i y e;rw[Operand.q0 b]at e;exact(aD A hd (.inr e) h).wp u B
  .cases b
 case yW s=>
  split at b
  .rename_i y e;rw[Operand.q0 b]at e;exact(aE A hd (.inl e) h).wp u B
  .rename_i y e;rw[Operand.q0 b]at e;exact(aE A hd (.inr e) h).wp u B
  .cases b
 case yd n=>
  split at b
  .rename_i y e;exact(X9 A hd (.inl e) (P4 b) h).wp u B
  .rename_i y e;exact(X9 A hd (.inr e) (P4 b) h).wp u B
  .cases b
 case yD x=>
  split at b
  .rename_i c e;unfold UJ at b;split at b
   .rename_i y t C D E;simp only[pr]at b;obtain⟨H,L⟩:=b;split at L
    .rename_i el J;rw[Cy C (Fx D) (Fx E)]at e;exact(gZ A hd e H J h).wp u B
    .cases L
    .cases L
   .cases b
  .cases b
 case zy x i n=>
  split at b
  .rename_i t y j e;simp only[pr,beq_iff_eq]at b;exact(aG A hd e b.1.1 b.1.2 b.2 h).wp u B
  .cases b
 case xfa x k=>
  split at b
  .rename_i t y f e;simp only[pr,beq_iff_eq]at b;exact(kP A hd e b.1 b.2 h).wp u B
  .cases b
 case zv x i n=>
  split at b
  .rename_i t y j e;simp only[pr,beq_iff_eq]at b;exact(aG A hd e b.1.1 b.1.2 b.2 (nQ h)).wp u B
  .cases b
 case y8 x=>
  split at b
  .rename_i t y e;simp only[pr,beq_iff_eq]at b;exact(aH A hd e b.1 b.2 (nR h)).wp u B
  .cases b
 case zD x=>
  split at b
  .rename_i t y e;simp only[pr,beq_iff_eq]at b;exact(aH A hd e b.1 b.2 h).wp u B
  .cases b
 case yx x v k=>cases M
 case x4 n s y=>
  split at b
  .rename_i c e;unfold UH at b;split at b
   .rename_i p q t Y s' C D E h0;simp only[AF.s.injEq]at h0;subst h0;simp only[pr,beq_iff_eq]at b;obtain⟨⟨⟨H,L⟩,rfl⟩,F⟩:=b;split at F
    .rename_i el J;split at F
     .rename_i i hi;split at F
      .rename_i z R;simp only[pr,beq_iff_eq,wq]at F;obtain⟨⟨⟨T,V⟩,W⟩,O⟩:=F;rw[Cy C (E0 D) (E0 E),Operand.q0 H]at e;exact(gK A hd e J hi R T V W O L h).wp u B
      .cases F
     .cases F
    .cases F
   .cases b
  .cases b
 case xz f ys=>
  split at b
  .rename_i c e;split at b
   .rename_i g I;simp only[pr,beq_iff_eq]at b;obtain⟨rfl,C⟩:=b;rw[Cy I rfl rfl]at e;exact eH A hd u e C h B
   .cases b
  .cases b
 case yR n zero x=>
  split at b
  .rename_i t y z e;simp only[pr]at b;exact(kB A hd e b.1.1 b.1.2 b.2 h).wp u B
  .cases b
 case yg n zero x=>
  split at b
  .rename_i t y z e;simp only[pr]at b;exact(cF A hd e b.1.1 b.1.2 b.2 h).wp u B
  .cases b
 case xk f x ys=>
  split at b
  .rename_i c e;split at b
   .rename_i g y zs I ha;simp only[pr,beq_iff_eq]at b;obtain⟨rfl,C,D⟩:=b;rw[Cy I (show c.args=(y::zs).toArray by rw[<-ha]) rfl]at e;exact eE A hd u e C D h B
   .cases b
  .cases b
 case xP f x=>
  split at b
  .rename_i c e;split at b
   .rename_i g y I ha;simp only[pr,beq_iff_eq]at b;obtain⟨rfl,C⟩:=b;rw[Cy I (Fx ha) rfl]at e;exact d9 A hd u e C h B
   .cases b
  .cases b
 case ym n=>
  split at b
  .rename_i t len X e;simp only[pr,beq_iff_eq,Array.isEmpty_iff]at b;obtain⟨⟨rfl,rfl⟩,C⟩:=b;exact(gU A hd e C h).wp u B
  .cases b
 case wP gs=>
  split at b
  .rename_i t X e;exact(gM A hd e b h).wp u B
  .cases b
 case stx n s q=>cases M
 case zp x q=>cases M
 case zT x=>
  split at b
  .rename_i t y e;simp only[pr,beq_iff_eq]at b;exact(jy A hd e b.1 b.2 h).wp u B
  .cases b
 case zb x=>
  split at b
  .rename_i t y e;simp only[pr,beq_iff_eq]at b;exact(jr A hd e b.1 b.2 h).wp u B
  .cases b
 case cut n s hi=>
  split at b
  .rename_i t y l hh mx e;simp only[pr,beq_iff_eq,Option.isNone_iff_eq_none]at b;obtain⟨⟨⟨⟨rfl,rfl⟩,C⟩,D⟩,E⟩:=b;rw[Operand.q0 C]at e;exact(jt A hd e D E h).wp u B
  .cases b
 case xD f ys=>
  split at b
  .rename_i c e;split at b
   .rename_i g I;simp only[pr,beq_iff_eq]at b;obtain⟨rfl,C⟩:=b;rw[Cy I rfl rfl]at e;exact eD A hd u e C h B
   .cases b
  .cases b
 case w6 f ys i=>
  split at b
  .rename_i c e;split at b
   .rename_i g I;simp only[pr,beq_iff_eq]at b;obtain⟨rfl,C⟩:=b;rw[Cy I rfl rfl]at e;exact d8 A hd u e C h B
   .cases b
  .cases b
 case xZ f ys=>
  split at b
  .rename_i c e;split at b
   .rename_i g I;simp only[pr,beq_iff_eq]at b;obtain⟨rfl,C⟩:=b;rw[Cy I rfl rfl]at e;exact(eA A hd e C h).wp u B
   .cases b
  .cases b
 case yj n s z x=>
  split at b
  .rename_i c e;unfold fO at b;split at b
   .rename_i p q t Y C D E;simp only[pr]at b;obtain⟨⟨H,L⟩,F⟩:=b;split at F
    .rename_i el kn J hu';split at F
     .rename_i i hi;split at F
      .rename_i zz R;split at F
       .rename_i z0 hz0;simp only[pr,beq_iff_eq,wq]at F;obtain⟨⟨⟨⟨rfl,T⟩,V⟩,W⟩,O⟩:=F;rw[Cy C (E0 D) (E0 E),Operand.isTmp_eq' H]at e;exact(gL A hd e J hu' hi R T V (Fx hz0) W O L h).wp u B
       .cases F
      .cases F
     .cases F
    .cases F
   .cases b
  .cases b
 case yn X x=>
  split at b
  .rename_i t y e;exact(gP A hd e b h).wp u B
  .cases b
 case xY f ys=>
  split at b
  .rename_i c e;split at b
   .rename_i g I;simp only[pr,beq_iff_eq]at b;obtain⟨rfl,C⟩:=b;rw[Cy I rfl rfl]at e;exact eC A hd u e C h B
   .cases b
  .cases b
 case xj f ys=>
  split at b
  .rename_i c e;split at b
   .rename_i g I;simp only[pr,beq_iff_eq]at b;obtain⟨rfl,C⟩:=b;rw[Cy I rfl rfl]at e;exact aw A hd u e C h B
   .cases b
  .cases b
 case y9 x=>
  split at b
  .rename_i op t y z Y e;simp only[pr,beq_iff_eq]at b;obtain⟨⟨⟨rfl,C⟩,D⟩,E⟩:=b;exact(jx A hd e C D E h).wp u B
  .cases b
 case yv q=>
  split at b
  .rename_i t len X e;split at b
   .rename_i x hps;simp only[pr]at b;rw[Fx hps]at e;exact(gT A hd e b.1 b.2 h).wp u B
   .cases b
  .cases b
 case xC s q=>
  split at b
  .rename_i c e;unfold UH at b;split at b
   .rename_i p q' t Y s' C D E H;simp only[AF.s.injEq]at H;subst H;simp only[pr,beq_iff_eq]at b;obtain⟨⟨⟨H,L⟩,rfl⟩,F⟩:=b;split at F
    .rename_i el J;split at F
     .rename_i i hi;split at F
      .rename_i z R;simp only[pr,beq_iff_eq,wq]at F;obtain⟨⟨⟨T,V⟩,W⟩,O⟩:=F;have hq:q'=.tmp q:=by
        cases q'<;>simp[AI]at L;rw[L]
       rw [Cy C (E0 D) (E0 E),Operand.q0 H,hq]at e;exact(gJ A hd e J hi R T V W h).wp u B
      .cases F
     .cases F
    .cases F
   .cases b
  .cases b
 case zu x=>
  split at b
  .rename_i t y e;simp only[pr,beq_iff_eq]at b;exact(jz A hd e b.1 b.2 h).wp u B
  .cases b
 case yO x i=>
  split at b
  .rename_i t y j e;simp only[pr,beq_iff_eq]at b;exact(kI A hd e b.1.1 b.1.2 b.2 h).wp u B
  .cases b
 case zj x=>
  split at b
  .rename_i t y e;simp only[pr,beq_iff_eq]at b;exact(kJ A hd e b.1 b.2 h).wp u B
  .cases b
 case yP x v=>cases M
 case yH q=>
  split at b
  .rename_i t y e;exact(gN A hd e b h).wp u B
  .cases b
 case xF f ys i=>
  split at b
  .rename_i c e;split at b
   .rename_i g I;simp only[pr,beq_iff_eq]at b;obtain⟨rfl,C⟩:=b;rw[Cy I rfl rfl]at e;exact dz A hd u e C h B
   .cases b
  .cases b
 case yQ=>
  split at b
  .rename_i t r e;cases r with
   |none=>exact(kA A hd e h).wp u B|some r=>cases b
  .cases b
 case zI s=>
  split at b
  .rename_i y e;rw[Operand.q0 b]at e;exact(aC A hd (.inl e) h).wp u B
  .rename_i y e;rw[Operand.q0 b]at e;exact(aC A hd (.inr e) h).wp u B
  .cases b
 case xw f ys=>
  split at b
  .rename_i c e;split at b
   .rename_i g I;simp only[pr,beq_iff_eq]at b;obtain⟨rfl,C⟩:=b;rw[Cy I rfl rfl]at e;exact eF A hd u e C h B
   .cases b
  .cases b
 case zK s m x=>
  split at b
  .rename_i t y z c e;simp only[pr]at b;obtain⟨⟨⟨rfl,C⟩,D⟩,E⟩:=b;exact(kD A hd e C D E h).wp u B
  .cases b
 case zi s m x v=>cases M
 case zh n X x v=>cases M
 case ldg s n=>
  split at b
  .rename_i t y e;simp only[pr,beq_iff_eq]at b;rw[Operand.q0 b.1.1]at e;exact(j5 A hd e b.1.2 b.2 h).wp u B
  .cases b
 case wi s m=>
  split at b
  .rename_i t y e;simp only[pr]at b;obtain⟨C,D⟩:=b;split at D
   .rename_i k el J;exact(kF A hd e C J h).wp u B
   .cases D
  .cases b
 case zm s=>
  split at b
  .rename_i y c e;simp only[pr,Bool.not_eq_true']at b;obtain⟨rfl,C⟩:=b;rw[Operand.q0 C]at e;exact(kE A hd e h).wp u B
  .cases b
 case zr s=>
  split at b
  .rename_i y e;rw[Operand.q0 b]at e;exact(j9 A hd e h).wp u B
  .cases b
end
end Go.Sf
namespace Go.Sf
open Go.RowKit (Below)
def UI(ops:Array Oper)(o:Oper)(r:PR):Bool:=
 match r.guard,o.guard with
 |none,none=>true|some (g,b),some (j,b')=>b==b'&&((ops[j]?).bind (·.dst))==some g|_,_=>false
def LK(P:Program)(N:Nat)(ops:Array Oper)(o:Oper)(r:PR):Bool:=
 UI ops o r&&(match o.dst,r.dst with
 |some d,some d'=>d==d'&&decide (d<N)&&!MK r.op&&Om P o.op r.op|none,none=>MK r.op&&Om P o.op r.op|_,_=>false)
section
variable{P:Program}{F0:Nat->Nat->Prop}{w0:W0}{U:AB}{a:Act}{w:World}{ops:Array Oper}{o:Oper}{r:PR}{N:Nat}{p:Option (Nat×Value)}{K:AB->Prop}{next:Act->World->Prop}{Q:Exit->Act->World->Prop}
theorem Bm.skip(b:Bm F0 w0 U a w){d:Nat}(hd:d<a.tmps.size):Bm F0 w0 ((d,.sk)::U) (a.put (some d) undef) w:=by
 obtain ⟨G,h⟩:=b;exact⟨_,h.quiet (Below.refl _ _) d hd .sk undef (fun _=>none) (by simp) (by simp) (by simp) rfl trivial⟩
theorem MU{o:Oper}(b:o.dst=none){K:EV->AB->Prop}(h:G7 P F0 w0 a w o K)(e:∀env' w',K .undef env'->Bm F0 w0 env' a w'->next a w'):o.wp P a w next Q:=by
 obtain ⟨w',c,env',f,g⟩:=h;unfold Oper.wp;rw[c,Oper.upon_skip,b];exact e _ _ f g
theorem qM{S:FuncId->Fq->Am->Prop}{n s:Nat}{v:AF}{d:Option Nat}{U:AB}{K:EV->AB->Prop}(h:(AE.yy n s v).wp S U d K):(AE.st n (.s s) v).wp S U d K:=by
 simp [AE.wp]at h|-
 grind [AF.place]
theorem VF(f:Bm F0 w0 U a w)(D:KH N p a)(M:∀i v,p=some (i,v)->r.dst≠some i)(O:LK P N ops o r=true)(h:r.wp (AR P) U K)
  (E:∀env' a' w',K env'->KH N p a'->Bm F0 w0 env' a' w'->next a' w'):
  if Region.wanted o (yielded ops a.tmps)then o.wp P a w next Q else next (a.put o.dst undef) w:=by
 simp [LK]at O;obtain⟨J,hd⟩:=O;have S:r.op.wp (AR P) U r.dst (fun e env'=>K (env'.put r.dst e))->o.wp P a w next Q:=by
  intro A;obtain⟨G,f⟩:=f;cases ho:o.dst with
  |some d=>
   cases B:r.dst with
   |none=>rw[ho,B]at hd;cases hd
   |some d'=>
    rw [ho,B]at hd;simp[wq,Bool.not_eq_true']at hd;obtain⟨⟨⟨rfl,I⟩,L⟩,c⟩:=hd;rw[B]at A;exact ic f (D.size▸I) ho c L A fun e env' a' w' k l k3=>E _ a' w' k (D.put (fun i v X=>by rw[<-B];exact M i v X) l) k3
  |none=>
   cases B:r.dst with
   |some d'=>rw[ho,B]at hd;cases hd
   |none=>
    rw [ho,B]at hd;rw[B]at A;simp at hd;obtain⟨L,c⟩:=hd;generalize X:r.op=p at A L c;cases p<;>simp[MK]at L<;>first|cases L|skip
    .rename_i n x v;simp[Om]at c;split at c
     .rename_i t y u e;simp at c;exact MU ho (cI f e c.1.1 c.1.2 c.2 A) fun env' w' k l=>E env' a w' k D l
     .cases c
    .rename_i n s v;simp[Om]at c;split at c
     .rename_i t y u e;simp at c;rw[Operand.q0 c.1.1]at e;exact MU ho (cI f e (x':=.s s) (by simp[AI]) c.1.2 c.2 (qM A)) fun env' w' k l=>E env' a w' k D l
     .cases c
    .rename_i x v;simp[Om]at c;split at c
     .rename_i t y u e;simp at c;exact MU ho (kQ f e c.1.1 c.1.2 c.2 A) fun env' w' k l=>E env' a w' k D l
     .cases c
    .rename_i n x q;simp[Om]at c;split at c
     .rename_i t y u e;simp at c;exact MU ho (kO f e c.1.1 c.1.2 c.2 A) fun env' w' k l=>E env' a w' k D l
     .cases c
    .rename_i x q;simp[Om]at c;split at c
     .rename_i t y u e;simp at c;exact MU ho (jq f e c.1.1 c.1.2 c.2 A) fun env' w' k l=>E env' a w' k D l
     .cases c
    .rename_i x v;simp[Om]at c;split at c
     .rename_i t y u e;simp at c;exact MU ho (kL f e c.1.1 c.1.2 c.2 A) fun env' w' k l=>E env' a w' k D l
     .cases c
    .rename_i n ps x v;simp[Om]at c;split at c
     .rename_i t y u e;simp at c;exact MU ho (kN f e c.1.1 c.1.2 c.2 A) fun env' w' k l=>E env' a w' k D l
     .cases c
    .rename_i s m x v;simp[Om]at c;split at c
     .rename_i t y z u e;simp at c;exact MU ho (kG f e c.1.1.1 c.1.1.2 c.1.2 c.2 A) fun env' w' k l=>E env' a w' k D l
     .cases c
 have T:K (U.put r.dst .sk)->next (a.put o.dst undef) w:=by
  intro Y;cases ho:o.dst with
  |some d=>
   cases B:r.dst with
   |none=>rw[ho,B]at hd;cases hd
   |some d'=>
    rw [ho,B]at hd;simp[wq,Bool.not_eq_true']at hd;obtain⟨⟨⟨rfl,I⟩,L⟩,c⟩:=hd;rw[B]at Y;exact E _ _ _ Y (D.put (fun i v X=>by rw[<-B];exact M i v X) ⟨_,rfl⟩) (f.skip (D.size▸I))
  |none=>
   cases B:r.dst with
   |some d'=>rw[ho,B]at hd;cases hd
   |none=>rw[B]at Y;exact E _ _ _ Y D f
 unfold PR.wp at h;cases F:r.guard with
 |none=>
  rw [F]at h;cases C:o.guard with
  |none=>rw[a6 (by simp[Region.wanted,C])];exact S h|some g=>rw[UI,F,C]at J;cases J
 |some gb=>
  obtain ⟨g,b⟩:=gb;rw[F]at h;cases C:o.guard with
  |none=>rw[UI,F,C]at J;cases J
  |some jb=>
   obtain ⟨j,b'⟩:=jb;rw[UI,F,C]at J;simp at J;obtain⟨rfl,hj⟩:=J;simp only at h;split at h
   .rename_i q R;have hv:slot a g=.bool q:=by
     obtain ⟨G,f⟩:=f;have:=AW f R (by simp);simpa only[AK,Ah]using this
    have H:g<a.tmps.size:=by
     obtain ⟨G,f⟩:=f;exact Ba f R (by simp)
    have Z:yielded ops a.tmps j=some q:=by
     have I:a.tmps[g]?=some (.bool q):=by
      rw [slot,Array.getD_eq_getD_getElem?,Array.getElem?_eq_getElem H]at hv;rw[Array.getElem?_eq_getElem H];simpa using hv
     simp [yielded,hj,I]
    have A:Region.wanted o (yielded ops a.tmps)=(q==b):=by
     simp only[Region.wanted,C,Z];cases q<;>cases b<;>rfl
    rw [A];by_cases V:q=b
    .subst V;rw[a6 (by simp)];exact S (h.1 rfl)
    .have W:q=!b:=by cases q<;>cases b<;>simp_all
     rw [ae (by simpa using V)];exact T (h.2 W)
   .rename_i R;have hv:slot a g=undef:=by
     obtain ⟨G,f⟩:=f;have:=AW f R (by simp);simpa only[AK]using this
    have H:g<a.tmps.size:=by
     obtain ⟨G,f⟩:=f;exact Ba f R (by simp)
    have Z:yielded ops a.tmps j=none:=by
     have I:a.tmps[g]?=some undef:=by
      rw [slot,Array.getD_eq_getD_getElem?,Array.getElem?_eq_getElem H]at hv;rw[Array.getElem?_eq_getElem H];simpa using hv
     simp [yielded,hj,I,undef]
    have A:Region.wanted o (yielded ops a.tmps)=false:=by
     simp only[Region.wanted,C,Z];cases b<;>rfl
    rw [A];exact T h
   .exact h.elim
def RQ:List PR->Bool
 |[]=>true|r::rs=>(match r.op,r.dst,r.guard with|.ze _,none,none=>true|_,_,_=>false)&&RQ rs
variable{rs:List PR}
theorem l6:∀{U:AB},RQ rs=true->wpOps (AR P) K rs U->Bm F0 w0 U a w->∃env',K env'/\Bm F0 w0 env' a w:=by
 induction rs with
 |nil=>intro U _ h b;exact⟨U,h,b⟩|cons r rs l=>
  intro U c h b;simp[RQ]at c;obtain⟨e,k⟩:=c;split at e
  .rename_i s f g i;simp[wpOps,PR.wp,f,g,i,AE.wp]at h;split at h
   .rename_i cs j;obtain⟨G,b⟩:=b;exact l k h (b.ze j)
   .exact h.elim
  .cases e
def LS(P:Program)(N:Nat)(ops:Array Oper):List Oper->List PR->Bool
 |[],rs=>RQ rs|o::os,r::rs=>LK P N ops o r&&LS P N ops os rs|_::_,[]=>false
theorem V7(m:∀U a w,K U->KH N p a->Bm F0 w0 U a w->Q .normal a w):∀(os:List Oper)(rs:List PR)(k:Nat),ops.toList.drop k=os->LS P N ops os rs=true->(∀i v,p=some (i,v)->∀r∈rs,r.dst≠some i)->∀(U:AB)(a:Act)(w:World),KH N p a->Bm F0 w0 U a w ->
  wpOps (AR P) K rs U->Go.wpOps P ops Q (List.range' k os.length) a w
 |[],rs,k,_,b,_,U,a,w,g,j,h=>by
  obtain ⟨env',z,A⟩:=l6 b h j;exact m env' a w z g A
 |o::os,[],k,_,b,_,_,_,_,_,_,_=>by simp[LS]at b|o::os,r::rs,k,hd,b,c,U,a,w,g,j,h=>by
  simp [LS]at b;have y:ops[k]?=some o:=by
   rw [<-Array.getElem?_toList];have:=congrArg (fun l=>l[0]?) hd
   grind
  have f:ops.toList.drop (k+1)=os:=by
   grind [List.tail,List.tail_drop]
  simp [List.range'_succ];rw[Go.wpOps_cons];unfold Go.wpOp;rw[y];simp;have:=VF (Q:=Q) (next:=Go.wpOps P ops Q (List.range' (k+1) os.length)) j g (fun i v e=>c i v e r (by simp)) b.1 h fun env' a' w' q s t=>V7 m os rs (k+1) f b.2 (fun i v e r u=>c i v e r (by simp[u])) env' a' w' s t q
  grind
theorem Z1{id:Nat}(b:LS P N ops ops.toList rs=true)(c:∀i v,p=some (i,v)->∀r∈rs,r.dst≠some i)(e:KH N p a)(f:Bm F0 w0 U a w)(h:wpOps (AR P) K rs U)
  (g:∀U a w,K U->KH N p a->Bm F0 w0 U a w->Q .normal a w):(Code.region id ops false).wp P Q a w:=by
 refine Go.wp_region ?_;rw[List.range_eq_range',<-Array.length_toList];exact V7 g ops.toList rs 0 rfl b c U a w e f h
end
end Go.Sf
