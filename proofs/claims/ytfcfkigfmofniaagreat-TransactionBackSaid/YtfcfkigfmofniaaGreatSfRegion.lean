/- One operation against the checker, and regions in the text's order. -/
import Derived.Test.YtfcfkigfmofniaaGreatSfN
import Derived.Orders
set_option linter.all false
open Option renaming some->Y
open Bool renaming true->X,false->T
open Option renaming isNone_iff_eq_none->u!
open Bool renaming not_eq_true'->u?
open Array renaming getD_eq_getD_getElem?->v1,getElem?_eq_getElem->v5
namespace Go.Sf
open Go.RowKit (Below)
def Operand.ze(n:Nat):Operand->Bool
 |.tmp m=>m==n|_=>T
variable{n:Nat}{x:Operand}
theorem Operand.pr(h:Operand.ze n x=X):x=.tmp n:=by
 cases x<;>simp[Operand.ze]at h;rw[h]
def Wh:Operand->Bool
 |.const v=>L8 v|_=>T
theorem RC(h:Wh x=X):∃v,x=.const v/\L8 v=X:=by
 cases x<;>simp[Wh]at h;exact⟨_,rfl,h⟩
def U7(P:Program)(str:Bool)(c:Call)(x:AE):Bool:=
 match c.callee,c.args.toList,c.argTypes.toList with
 |.builtin .len,[y],[t]=>AK y x&&(match P.underlying t with|some (.slice _)=>!str|some .string=>str|_=>T)
 |_,_,_=>T
def U5(P:Program)(n:Nat)(c:Call)(x y:AE):Bool:=
 match c.callee,c.args.toList,c.argTypes.toList,x with
 |.builtin .append,[p,q],[t,t'],.s s=>Operand.ze s p&&AK q y&&t==t'&&(match P.underlying t with
  |some (.slice e)=>(match P.info? e with
   |some i=>(match i.zero with|some z=>i.size==n&&decide (i.bytes<=4096)&&z.cells.size==n&&decide (0<n)|none=>T)
   |none=>T)
  |_=>T)
 |_,_,_,_=>T
def rt(mx:Bool)(c:Call)(x y:AE):Bool:=
 match c.callee,c.args.toList with
 |.builtin .max,[p,q]=>mx&&AK p x&&AK q y|.builtin .min,[p,q]=>!mx&&AK p x&&AK q y|_,_=>T
def Pt(P:Program)(o:Op):AD->Bool
 |.mv x=>match o with|.move y|.assign y=>AK y x|_=>T
 |.tk s=>match o with|.move y|.assign y=>Operand.ze s y|_=>T
 |.AaG _=>match o with|.move y|.assign y=>Wh y|_=>T
 |.zj x k=>match o with|.fieldAddr t y f=>AK y x&&PQ P t f==Y k|.move y|.assign y|.nilCheck y=>k==0&&AK y x|_=>T
 |.bad s k=>match o with|.indexAddr t y j=>Operand.ze s y&&fL P t j k|.fieldAddr t y f=>Operand.ze s y&&PQ P t f==Y k|.move y|.assign y|.nilCheck y=>k==0&&Operand.ze s y|_=>T
 |.iad x i n=>match o with|.indexAddr t y j=>AK y x&&AK j i&&Iy P t==Y n|_=>T
 |.zJ x i n k=>match o with|.indexAddr t y j=>AK y x&&AK j i&&(match P.underlying t with|some (.array k' e)=>k'==k&&Ce P e==Y n|_=>T)|_=>T
 |.ld x=>match o with|.load t y=>AK y x&&Bs P t==Y T|_=>T
 |.fdv x k=>match o with|.fieldAddr t y f=>AK y x&&PQ P t f==Y k|_=>T
 |.ldv x n=>match o with|.load t y=>AK y x&&Bs P t==Y X&&Ce P t==Y n|_=>T
 |.lda x n=>match o with|.load t y=>AK y x&&Bs P t==Y X&&Ce P t==Y n|_=>T
 |.ldb s n=>match o with|.load t y=>AK y (.s s)&&Bs P t==Y X&&Ce P t==Y n|_=>T
 |.ldt x=>match o with|.load t y=>AK y x&&Bs P t==Y T|_=>T
 |.bin k op x y=>match o with|.binOp op' t p q _=>op'==op&&Nr P k t&&AK p x&&AK q y|_=>T
 |.not x=>match o with|.unOp op _ y=>op==.not&&AK y x|_=>T
 |.neg x=>match o with|.unOp op _ y=>op==.neg&&AK y x|_=>T
 |.pick c x y=>match o with|.pick c' p q=>AK c' c&&AK p x&&AK q y|_=>T
 |.len x=>match o with|.call c=>U7 P T c x|_=>T
 |.AaO x=>match o with|.call c=>U7 P X c x|_=>T
 |.zq n x lo hi=>match o with|.slice t y l h mx=>mx.isNone&&AK y x&&Nt l lo&&Nt h hi&&Iy P t==Y n|_=>T
 |.y6 x lo hi=>match o with|.slice t y l h mx=>mx.isNone&&AK y x&&Nt l lo&&Nt h hi&&(match P.underlying t with|some .string=>X|_=>T)|_=>T
 |.bld z ps=>match o with|.build t qs=>fM P t z qs.toList ps|_=>T
 |.lst n ys=>match o with
  |.buildSlice t len ps=>(match P.underlying t with
   |some (.slice e)=>(match P.info? e with
    |some i=>(match i.zero with
     |some z=>i.size==n&&decide (0<n)&&z.cells.toList.all Value.oneCell'&&decide (0<z.cells.size)&&len==ps.size&&decide (len*n<=2^ 24)&&Sk 0 ps.toList ys|none=>T)
    |none=>T)
   |_=>T)
  |_=>T
 |.app n x y=>match o with|.call c=>U5 P n c x y|_=>T
 |.call f ys=>match o with|.call c=>(match c.callee with|.value (.func g)=>g==f&&BO c.args.toList ys|_=>T)|_=>T
 |.Aas x ys=>match o with|.call c=>(match c.callee with|.value g=>AK g x&&BO c.args.toList ys|_=>T)|_=>T
 |.zv f cs=>match o with|.makeFunc (.func g) first xs=>g==f&&first.size==0&&BO xs.toList cs|_=>T
 |.ext x i=>match o,x with|.extract y j,.s s=>Operand.ze s y&&j==i|_,_=>T
 |.zp k x=>match o with|.convert s t y=>AK y x&&(match P.underlying s,P.underlying t with|some (.int _),Y (.int k')=>k'==k|_,_=>T)|_=>T
 |.zr x i=>match o with|.index t y j=>AK y x&&AK j i&&(match P.underlying t with|some .string=>X|_=>T)|_=>T
 |.Aaz x=>match o with|.box _ y=>AK y x|_=>T
 |.AaF x=>match o with|.box _ y=>AK y x|_=>T
 |.mm mx x y=>match o with|.call c=>rt mx c x y|_=>T
 |.alc cs=>match o with|.alloc t=>(match P.info? t with|some i=>(match i.zero with|some z=>Oc cs z.cells.toList|none=>T)|none=>T)|_=>T
 |.st n x v=>match o with|.store t y u=>AK y x&&AK u v&&Ce P t==Y n|_=>T
 |.stb n s v=>match o with|.store t y u=>Operand.ze s y&&AK u v&&Ce P t==Y n|_=>T
 |.frz _=>T|.AaN x k n agg=>match o with|.field t y f=>AK y x&&fN P t f k n agg|_=>T
 |.xal s=>match o with|.move y|.assign y=>Operand.ze s y|_=>T
 |.AaH x=>match o with|.call c=>U7 P T c x|_=>T
 |.xia x i n=>match o with|.indexAddr t y j=>AK y x&&AK j i&&Iy P t==Y n|_=>T
 |.xfa x k=>match o with|.fieldAddr t y f=>AK y x&&PQ P t f==Y k|_=>T
 |.xld x=>match o with|.load t y=>AK y x&&Bs P t==Y T|_=>T
 |.xst x v k=>match o with|.store t y u=>AK y x&&AK u v&&Ce P t==Y k|_=>T
 |.rel s=>match o with|.move y|.assign y=>Operand.ze s y|_=>T
 |.Aau _=>match o with|.move y|.assign y=>Wh y|_=>T
 |.tkx s=>match o with|.move y|.assign y=>Operand.ze s y|_=>T
 |.Aah n s y=>match o with|.call c=>U5 P n c (.s s) y|_=>T
 |.zH f ys=>match o with|.call c=>(match c.callee with|.value (.func g)=>g==f&&BO c.args.toList ys|_=>T)|_=>T
 |.mkx n zero x=>match o with|.makeSlice t y z=>AK y x&&AK z x&&lM P t n zero|_=>T
 |.zC f x ys=>match o with|.call c=>(match c.callee,c.args.toList with|.value (.func g),y::zs=>g==f&&(AK y x&&BO zs ys)|_,_=>T)|_=>T
 |.z8 f x=>match o with|.call c=>(match c.callee,c.args.toList with|.value (.func g),[y]=>g==f&&AK y x|_,_=>T)|_=>T
 |.Aav n=>match o with|.buildSlice t len ps=>len==0&&ps.isEmpty&&aa P t n|_=>T
 |.yz gs=>match o with|.build t ps=>aY P t ps.toList gs|_=>T
 |.stx n s q=>match o with|.store t y u=>AK y (.s s)&&AK u (.s q)&&Ce P t==Y n|_=>T
 |.Aag f ys=>match o with|.call c=>(match c.callee with|.value (.func g)=>g==f&&BO c.args.toList ys|_=>T)|_=>T
 |.zy f ys=>match o with|.call c=>(match c.callee with|.value (.func g)=>g==f&&BO c.args.toList ys|_=>T)|_=>T
 |.isn x=>match o with|.binOp op t y z _=>op==.eql&&AK y x&&Ry z&&ZR P t|_=>T
 |.lac x=>match o with|.load t y=>AK y x&&Bs P t==Y T|_=>T
 |.ctk x=>match o with|.load t y=>AK y x&&Bs P t==Y T|_=>T
 |.cpt x q=>match o with|.store t y u=>AK y x&&AK u (.s q)&&Ce P t==Y 1|_=>T
 |.cut n s hi=>match o with|.slice t y l (Y h) mx=>mx.isNone&&l.isNone&&Operand.ze s y&&AK h hi&&Iy P t==Y n|_=>T
 |.zR f ys=>match o with|.call c=>(match c.callee with|.value (.func g)=>g==f&&BO c.args.toList ys|_=>T)|_=>T
 |.Aay _ x=>match o with|.box _ y=>AK y x|_=>T
 |.Aaf f ys=>match o with|.call c=>(match c.callee with|.value (.func g)=>g==f&&BO c.args.toList ys|_=>T)|_=>T
 |.Aat n s z x=>match o with|.call c=>ia P n s z x c|_=>T
 |.zi f ys _=>match o with|.call c=>(match c.callee with|.value (.func g)=>g==f&&BO c.args.toList ys|_=>T)|_=>T
 |.AaA q=>match o with|.buildSlice t len ps=>(match len,ps.toList with|1,[(0,x)]=>aZ P t&&AK x (.s q)|_,_=>T)|_=>T
 |.zL s q=>match o with|.call c=>U5 P 1 c (.s s) (.s q)|_=>T
 |.lan x=>match o with|.load t y=>AK y x&&Bs P t==Y T|_=>T
 |.nia x i=>match o with|.indexAddr t y j=>AK y x&&AK j i&&Iy P t==Y 1|_=>T
 |.nld x=>match o with|.load t y=>AK y x&&Bs P t==Y T|_=>T
 |.nst x v=>match o with|.store t y u=>AK y x&&AK u v&&Ce P t==Y 1|_=>T
 |.AaI q=>match o with|.box _ y=>AK y (.s q)|_=>T
 |.zT f ys _=>match o with|.call c=>(match c.callee with|.value (.func g)=>g==f&&BO c.args.toList ys|_=>T)|_=>T
 |.ldg s n=>match o with|.load t y=>Operand.ze s y&&Bs P t==Y X&&Ce P t==Y n|_=>T
 |.stq n _ x v=>match o with|.store t y u=>AK y x&&AK u v&&Ce P t==Y n|_=>T
 |.mkm=>match o with|.makeMap _ r=>r.isNone|_=>T
 |.mvm s=>match o with|.move y|.assign y=>Operand.ze s y|_=>T
 |.zE f ys=>match o with|.call c=>(match c.callee with|.value (.func g)=>g==f&&BO c.args.toList ys|_=>T)|_=>T
 |.mlk _ m x=>match o with|.lookup t y z c=>c&&PX P t&&AK y m&&AK z x|_=>T
 |.mup _ m x v=>match o with|.mapUpdate t y z u=>PX P t&&AK y m&&AK z x&&AK u v|_=>T
 |.x7 _ m=>match o with|.range t y=>AK y m&&(match P.underlying t with|some (.map _ _)=>X|_=>T)|_=>T
 |.mnx s=>match o with|.next y c=>!c&&Operand.ze s y|_=>T
 |.men s=>match o with|.entry y=>Operand.ze s y|_=>T
def NB:AD->Bool
 |.st ..=>X|.stb ..=>X|.xst ..=>X|.stx ..=>X|.cpt ..=>X|.nst ..=>X|.mup ..=>X|.stq ..=>X|_=>T
section
variable{P:Program}{F0:Nat->Nat->Prop}{w0:W0}{O:AB}{a:Act}{w:World}{G:BH}{d:Nat}{o:Oper}{K:EV->AB->Prop}
theorem At.wp(h:At P F0 w0 a w o d K)(b:o.dst=Y d){next:Act->World->Prop}{Q:Exit->Act->World->Prop}(f:∀e env' a' w',K e env'->Qa a d a'->Bj F0 w0 ((d,e)::env') a' w'->next a' w'):o.wp P a w next Q:=by
 obtain ⟨v,w',c,e,env',g,i⟩:=h;unfold Oper.wp;rw[c,Oper.upon_value,b];exact f e env' _ w' g ⟨_,rfl⟩ i
variable{α:Type}
theorem GA{a:Array α}{x:α}(h:a.toList=[x]):a=#[x]:=by
 cases a;simp_all
theorem E3{a:Array α}{x y:α}(h:a.toList=[x,y]):a=#[x,y]:=by
 cases a;simp_all
theorem Co{c:Call}{b:Callee}{e:Array Operand}{f:Array TypeId}(g:c.callee=b)(h:c.args=e)(i:c.argTypes=f):c={callee:=b,args:=e,argTypes:=f}:=by
 cases c;simp_all
theorem lP(A:AN F0 w0 O a w G)(hd:d<a.tmps.size)(u:o.dst=Y d){p:AD}(b:Pt P o.op p=X)(M:NB p=T)(h:p.wp (AX P) O (Y d) K)
  {next:Act->World->Prop}{Q:Exit->Act->World->Prop}(B:∀e env' a' w',K e env'->Qa a d a'->Bj F0 w0 ((d,e)::env') a' w'->next a' w'):o.wp P a w next Q:=by
 cases p<;>simp only[Pt]at b<;>try(exact absurd b Bool.false_ne_true)
 case mv x=>
  split at b
  next y e=>exact(dr A hd (.inl e) b h).wp u B
  next y e=>exact(dr A hd (.inr e) b h).wp u B
  .cases b
 case tk s=>
  split at b
  next y e=>rw[Operand.pr b]at e;exact(du A hd (.inl e) h).wp u B
  next y e=>rw[Operand.pr b]at e;exact(du A hd (.inr e) h).wp u B
  .cases b
 case AaG n=>
  split at b
  next y e=>exact(Y6 A hd (.inl e) (RC b) h).wp u B
  next y e=>exact(Y6 A hd (.inr e) (RC b) h).wp u B
  .cases b
 case zj x k=>
  split at b
  next t y f e=>simp only[sx,beq_iff_eq]at b;exact(Qy A hd (Xe e b.2) b.1 h).wp u B
  next y e=>simp only[sx,beq_iff_eq]at b;obtain⟨rfl,b⟩:=b;exact(Qy A hd (QV (.inl e)) b h).wp u B
  next y e=>simp only[sx,beq_iff_eq]at b;obtain⟨rfl,b⟩:=b;exact(Qy A hd (QV (.inr (.inl e))) b h).wp u B
  next y e=>simp only[sx,beq_iff_eq]at b;obtain⟨rfl,b⟩:=b;exact(Qy A hd (QV (.inr (.inr e))) b h).wp u B
  .cases b
 case bad s k=>
  split at b
  next t y j e=>simp only[sx]at b;rw[Operand.pr b.1]at e;exact(Qx A hd (oM e b.2) h).wp u B
  next t y f e=>simp only[sx,beq_iff_eq]at b;rw[Operand.pr b.1]at e;exact(Qx A hd (Xe e b.2) h).wp u B
  next y e=>simp only[sx,beq_iff_eq]at b;obtain⟨rfl,b⟩:=b;rw[Operand.pr b]at e;exact(Qx A hd (QV (.inl e)) h).wp u B
  next y e=>simp only[sx,beq_iff_eq]at b;obtain⟨rfl,b⟩:=b;rw[Operand.pr b]at e;exact(Qx A hd (QV (.inr (.inl e))) h).wp u B
  next y e=>simp only[sx,beq_iff_eq]at b;obtain⟨rfl,b⟩:=b;rw[Operand.pr b]at e;exact(Qx A hd (QV (.inr (.inr e))) h).wp u B
  .cases b
 case iad x i n=>
  split at b
  next t y j e=>simp only[sx,beq_iff_eq]at b;exact(mY A hd e b.1.1 b.1.2 b.2 h).wp u B
  .cases b
 case zJ x i n k=>
  split at b
  .rename_i t y j e;simp only[sx]at b;obtain⟨⟨C,D⟩,E⟩:=b;split at E
   next k' el J=>simp only[sx,beq_iff_eq]at E;obtain⟨rfl,H⟩:=E;exact(mN A hd e C D J H h).wp u B
   .cases E
  .cases b
 case ld x=>
  split at b
  next t y e=>simp only[sx,beq_iff_eq]at b;exact(qC A hd e b.1 b.2 h).wp u B
  .cases b
 case fdv x k=>
  split at b
  .rename_i t y f e;simp only[sx,beq_iff_eq]at b;refine(Qy (S:=AX P) A hd (Xe e b.2) b.1 ?_).wp u B;simp only[AD.wp]at h|-;split at h
   next row Z=>rw[kG A Z];exact h
   .exact h.elim
  .cases b
 case ldv x n=>
  split at b
  .rename_i t y e;simp only[sx,beq_iff_eq]at b;refine(V1 (S:=AX P) A hd e b.1.1 b.1.2 b.2 ?_).wp u B;simp only[AD.wp]at h|-;split at h
   next row Z=>rw[kG A Z];exact h
   .exact h.elim
  .cases b
 case lda x n=>
  split at b
  next t y e=>simp only[sx,beq_iff_eq]at b;exact(V1 A hd e b.1.1 b.1.2 b.2 h).wp u B
  .cases b
 case ldb s n=>
  split at b
  .rename_i t y e;simp only[sx,beq_iff_eq]at b;refine(V1 (S:=AX P) A hd e b.1.1 b.1.2 b.2 (y:=.s s) ?_).wp u B;simp only[AD.wp]at h|-;split at h
   next cs I=>simp only[AE.ev,I,A4,Ad];exact h
   .exact h.elim
  .cases b
 case ldt x=>
  split at b
  next t y e=>simp only[sx,beq_iff_eq]at b;exact(md A hd e b.1 b.2 h).wp u B
  .cases b
 case bin k op x y=>
  split at b
  next op' t p q δ e=>simp only[sx,beq_iff_eq]at b;obtain⟨⟨⟨rfl,C⟩,D⟩,E⟩:=b;exact(mQ A hd e C D E h).wp u B
  .cases b
 case not x=>
  split at b
  next op t y e=>simp only[sx,beq_iff_eq]at b;obtain⟨rfl,C⟩:=b;exact(m8 A hd e C h).wp u B
  .cases b
 case neg x=>
  split at b
  next op t y e=>simp only[sx,beq_iff_eq]at b;obtain⟨rfl,C⟩:=b;exact(my A hd e C h).wp u B
  .cases b
 case pick c x y=>
  split at b
  next c' p q e=>simp only[sx]at b;exact(j7 A hd e b.1.1 b.1.2 b.2 h).wp u B
  .cases b
 case len x=>
  split at b
  .rename_i c e;unfold U7 at b;split at b
   .rename_i y t C D E;simp only[sx]at b;obtain⟨H,L⟩:=b;split at L
    next el J=>rw[Co C (GA D) (GA E)]at e;exact(me A hd e H J h).wp u B
    .cases L
    .cases L
   .cases b
  .cases b
 case AaO x=>
  split at b
  .rename_i c e;unfold U7 at b;split at b
   .rename_i y t C D E;simp only[sx]at b;obtain⟨H,L⟩:=b;split at L
    .cases L
    next J=>rw[Co C (GA D) (GA E)]at e;exact(j9 A hd e H J h).wp u B
    .cases L
   .cases b
  .cases b
 case zq n x lo hi=>
  split at b
  next t y l hh mx e=>simp only[sx,beq_iff_eq,u!]at b;obtain⟨⟨⟨⟨rfl,C⟩,D⟩,E⟩,H⟩:=b;exact(nA A hd e C D E H h).wp u B
  .cases b
 case y6 x lo hi=>
  split at b
  .rename_i t y l hh mx e;simp only[sx,u!]at b;obtain⟨⟨⟨⟨rfl,C⟩,D⟩,E⟩,H⟩:=b;split at H
   next J=>exact(kA A hd e C D E J h).wp u B
   .cases H
  .cases b
 case bld z ζ=>
  split at b
  next t qs e=>exact(mR A hd e b h).wp u B
  .cases b
 case lst n ys=>
  split at b
  .rename_i t len ζ e;split at b
   .rename_i el J;split at b
    .rename_i i hi;split at b
     next z θ=>simp only[sx,beq_iff_eq,yk]at b;obtain⟨⟨⟨⟨⟨⟨C,D⟩,E⟩,H⟩,L⟩,F⟩,ε⟩:=b;exact(mf A hd e J hi θ C D E H L F ε h).wp u B
     .cases b
    .cases b
   .cases b
  .cases b
 case app n x y=>
  split at b
  .rename_i c e;unfold U5 at b;split at b
   .rename_i p q t δ s C D E;simp only[sx,beq_iff_eq]at b;obtain⟨⟨⟨H,L⟩,rfl⟩,F⟩:=b;split at F
    .rename_i el J;split at F
     .rename_i i hi;split at F
      next z θ=>simp only[sx,beq_iff_eq,yk]at F;obtain⟨⟨⟨ε,κ⟩,η⟩,R⟩:=F;rw[Co C (E3 D) (E3 E),Operand.pr H]at e;exact(mP A hd e J hi θ ε κ η R L h).wp u B
      .cases F
     .cases F
    .cases F
   .cases b
  .cases b
 case call f ys=>
  split at b
  .rename_i c e;split at b
   next g I=>simp only[sx,beq_iff_eq]at b;obtain⟨rfl,C⟩:=b;rw[Co I rfl rfl]at e;exact jy A hd u e C h B
   .cases b
  .cases b
 case Aas x ys=>
  split at b
  .rename_i c e;split at b
   next g I=>simp only[sx]at b;rw[Co I rfl rfl]at e;exact gJ A hd u e b.1 b.2 h B
   .cases b
  .cases b
 case zv f cs=>
  split at b
  .rename_i g first xs e
   simp only[sx,beq_iff_eq]at b;obtain⟨⟨rfl,C⟩,D⟩:=b;rw[Array.eq_empty_of_size_eq_zero C]at e;exact(mS A hd e D h).wp u B
  .cases b
 case ext x i=>
  split at b
  next y j s e=>simp only[sx,beq_iff_eq]at b;obtain⟨C,rfl⟩:=b;rw[Operand.pr C]at e;exact(mX A hd e h).wp u B
  .cases b
 case zp k x=>
  split at b
  .rename_i s t y e;simp only[sx]at b;obtain⟨C,D⟩:=b;split at D
   next k1 k2 hs ht=>simp only[beq_iff_eq]at D;subst D;exact(mW A hd e hs ht C h).wp u B
   .cases D
  .cases b
 case zr x i=>
  split at b
  .rename_i t y j e;simp only[sx]at b;obtain⟨⟨C,D⟩,E⟩:=b;split at E
   next J=>exact(j8 A hd e C D J h).wp u B
   .cases E
  .cases b
 case Aaz x=>
  split at b
  next t y e=>exact(jx A hd e b h).wp u B
  .cases b
 case AaF x=>
  split at b
  next t y e=>exact(jv A hd e b h).wp u B
  .cases b
 case mm mx x y=>
  split at b
  .rename_i c e;unfold rt at b;split at b
   next p q C D=>simp only[sx]at b;obtain⟨⟨rfl,E⟩,H⟩:=b;rw[Co C (E3 D) rfl]at e;exact(dn (mx:=X) A hd e E H h).wp u B
   next p q C D=>simp only[sx,u?]at b;obtain⟨⟨rfl,E⟩,H⟩:=b;rw[Co C (E3 D) rfl]at e;exact(dn (mx:=T) A hd e E H h).wp u B
   .cases b
  .cases b
 case alc cs=>
  split at b
  .rename_i t e;split at b
   .rename_i i hi;split at b
    next z θ=>exact(mO A hd e hi θ b h).wp u B
    .cases b
   .cases b
  .cases b
 case st n x v=>cases M
 case stb n s v=>cases M
 case AaN x k n agg=>
  split at b
  next t y f e=>simp only[sx]at b;exact(jz A hd e b.1 b.2 h).wp u B
  .cases b
 case xal s=>
  split at b
  next y e=>rw[Operand.pr b]at e;exact(bj A hd (.inl e) h).wp u B
  next y e=>rw[Operand.pr b]at e;exact(bj A hd (.inr e) h).wp u B
  .cases b
 case rel s=>
  split at b
  next y e=>rw[Operand.pr b]at e;exact(bh A hd (.inl e) h).wp u B
  next y e=>rw[Operand.pr b]at e;exact(bh A hd (.inr e) h).wp u B
  .cases b
 case tkx s=>
  split at b
  next y e=>rw[Operand.pr b]at e;exact(bi A hd (.inl e) h).wp u B
  next y e=>rw[Operand.pr b]at e;exact(bi A hd (.inr e) h).wp u B
  .cases b
 case Aau n=>
  split at b
  next y e=>exact(Y7 A hd (.inl e) (RC b) h).wp u B
  next y e=>exact(Y7 A hd (.inr e) (RC b) h).wp u B
  .cases b
 case AaH x=>
  split at b
  .rename_i c e;unfold U7 at b;split at b
   .rename_i y t C D E;simp only[sx]at b;obtain⟨H,L⟩:=b;split at L
    next el J=>rw[Co C (GA D) (GA E)]at e;exact(kB A hd e H J h).wp u B
    .cases L
    .cases L
   .cases b
  .cases b
 case xia x i n=>
  split at b
  next t y j e=>simp only[sx,beq_iff_eq]at b;exact(nE A hd e b.1.1 b.1.2 b.2 h).wp u B
  .cases b
 case xfa x k=>
  split at b
  next t y f e=>simp only[sx,beq_iff_eq]at b;exact(nD A hd e b.1 b.2 h).wp u B
  .cases b
 case xld x=>
  split at b
  next t y e=>simp only[sx,beq_iff_eq]at b;exact(nF A hd e b.1 b.2 h).wp u B
  .cases b
 case xst x v k=>cases M
 case Aah n s y=>
  split at b
  .rename_i c e;unfold U5 at b;split at b
   .rename_i p q t δ s' C D E h0;simp only[AE.s.injEq]at h0;subst h0;simp only[sx,beq_iff_eq]at b;obtain⟨⟨⟨H,L⟩,rfl⟩,F⟩:=b;split at F
    .rename_i el J;split at F
     .rename_i i hi;split at F
      next z θ=>simp only[sx,beq_iff_eq,yk]at F;obtain⟨⟨⟨ε,κ⟩,η⟩,R⟩:=F;rw[Co C (E3 D) (E3 E),Operand.pr H]at e;exact(jq A hd e J hi θ ε κ η R L h).wp u B
      .cases F
     .cases F
    .cases F
   .cases b
  .cases b
 case zH f ys=>
  split at b
  .rename_i c e;split at b
   next g I=>simp only[sx,beq_iff_eq]at b;obtain⟨rfl,C⟩:=b;rw[Co I rfl rfl]at e;exact gK A hd u e C h B
   .cases b
  .cases b
 case mkx n zero x=>
  split at b
  next t y z e=>simp only[sx]at b;exact(qE A hd e b.1.1 b.1.2 b.2 h).wp u B
  .cases b
 case zC f x ys=>
  split at b
  .rename_i c e;split at b
   next g y zs I ha=>simp only[sx,beq_iff_eq]at b;obtain⟨rfl,C,D⟩:=b;rw[Co I (show c.args=(y::zs).toArray by rw[<-ha]) rfl]at e;exact gH A hd u e C D h B
   .cases b
  .cases b
 case z8 f x=>
  split at b
  .rename_i c e;split at b
   next g y I ha=>simp only[sx,beq_iff_eq]at b;obtain⟨rfl,C⟩:=b;rw[Co I (GA ha) rfl]at e;exact gD A hd u e C h B
   .cases b
  .cases b
 case Aav n=>
  split at b
  next t len ζ e=>simp only[sx,beq_iff_eq,Array.isEmpty_iff]at b;obtain⟨⟨rfl,rfl⟩,C⟩:=b;exact(j6 A hd e C h).wp u B
  .cases b
 case yz gs=>
  split at b
  next t ζ e=>exact(jt A hd e b h).wp u B
  .cases b
 case stx n s q=>cases M
 case cpt x q=>cases M
 case lac x=>
  split at b
  next t y e=>simp only[sx,beq_iff_eq]at b;exact(ma A hd e b.1 b.2 h).wp u B
  .cases b
 case ctk x=>
  split at b
  next t y e=>simp only[sx,beq_iff_eq]at b;exact(mU A hd e b.1 b.2 h).wp u B
  .cases b
 case cut n s hi=>
  split at b
  next t y l hh mx e=>simp only[sx,beq_iff_eq,u!]at b;obtain⟨⟨⟨⟨rfl,rfl⟩,C⟩,D⟩,E⟩:=b;rw[Operand.pr C]at e;exact(mV A hd e D E h).wp u B
  .cases b
 case zR f ys=>
  split at b
  .rename_i c e;split at b
   next g I=>simp only[sx,beq_iff_eq]at b;obtain⟨rfl,C⟩:=b;rw[Co I rfl rfl]at e;exact gG A hd u e C h B
   .cases b
  .cases b
 case zi f ys i=>
  split at b
  .rename_i c e;split at b
   next g I=>simp only[sx,beq_iff_eq]at b;obtain⟨rfl,C⟩:=b;rw[Co I rfl rfl]at e;exact gC A hd u e C h B
   .cases b
  .cases b
 case Aaf f ys=>
  split at b
  .rename_i c e;split at b
   next g I=>simp only[sx,beq_iff_eq]at b;obtain⟨rfl,C⟩:=b;rw[Co I rfl rfl]at e;exact(gE A hd e C h).wp u B
   .cases b
  .cases b
 case Aat n s z x=>
  split at b
  .rename_i c e;unfold ia at b;split at b
   .rename_i p q t δ C D E;simp only[sx]at b;obtain⟨⟨H,L⟩,F⟩:=b;split at F
    .rename_i el kn J hu';split at F
     .rename_i i hi;split at F
      .rename_i zz θ;split at F
       next z0 hz0=>simp only[sx,beq_iff_eq,yk]at F;obtain⟨⟨⟨⟨rfl,ε⟩,κ⟩,η⟩,R⟩:=F;rw[Co C (E3 D) (E3 E),Operand.isTmp_eq' H]at e;exact(jr A hd e J hu' hi θ ε κ (GA hz0) η R L h).wp u B
       .cases F
      .cases F
     .cases F
    .cases F
   .cases b
  .cases b
 case Aay ζ x=>
  split at b
  next t y e=>exact(jw A hd e b h).wp u B
  .cases b
 case Aag f ys=>
  split at b
  .rename_i c e;split at b
   next g I=>simp only[sx,beq_iff_eq]at b;obtain⟨rfl,C⟩:=b;rw[Co I rfl rfl]at e;exact gF A hd u e C h B
   .cases b
  .cases b
 case zy f ys=>
  split at b
  .rename_i c e;split at b
   next g I=>simp only[sx,beq_iff_eq]at b;obtain⟨rfl,C⟩:=b;rw[Co I rfl rfl]at e;exact cY A hd u e C h B
   .cases b
  .cases b
 case isn x=>
  split at b
  next op t y z δ e=>simp only[sx,beq_iff_eq]at b;obtain⟨⟨⟨rfl,C⟩,D⟩,E⟩:=b;exact(mZ A hd e C D E h).wp u B
  .cases b
 case AaA q=>
  split at b
  .rename_i t len ζ e;split at b
   next x hps=>simp only[sx]at b;rw[GA hps]at e;exact(j5 A hd e b.1 b.2 h).wp u B
   .cases b
  .cases b
 case zL s q=>
  split at b
  .rename_i c e;unfold U5 at b;split at b
   .rename_i p q' t δ s' C D E H;simp only[AE.s.injEq]at H;subst H;simp only[sx,beq_iff_eq]at b;obtain⟨⟨⟨H,L⟩,rfl⟩,F⟩:=b;split at F
    .rename_i el J;split at F
     .rename_i i hi;split at F
      .rename_i z θ;simp only[sx,beq_iff_eq,yk]at F;obtain⟨⟨⟨ε,κ⟩,η⟩,R⟩:=F;have hq:q'=.tmp q:=by
        cases q'<;>simp[AK]at L;rw[L]
       rw [Co C (E3 D) (E3 E),Operand.pr H,hq]at e;exact(jp A hd e J hi θ ε κ η h).wp u B
      .cases F
     .cases F
    .cases F
   .cases b
  .cases b
 case lan x=>
  split at b
  next t y e=>simp only[sx,beq_iff_eq]at b;exact(mb A hd e b.1 b.2 h).wp u B
  .cases b
 case nia x i=>
  split at b
  next t y j e=>simp only[sx,beq_iff_eq]at b;exact(mz A hd e b.1.1 b.1.2 b.2 h).wp u B
  .cases b
 case nld x=>
  split at b
  next t y e=>simp only[sx,beq_iff_eq]at b;exact(m7 A hd e b.1 b.2 h).wp u B
  .cases b
 case nst x v=>cases M
 case AaI q=>
  split at b
  next t y e=>exact(ju A hd e b h).wp u B
  .cases b
 case zT f ys i=>
  split at b
  .rename_i c e;split at b
   next g I=>simp only[sx,beq_iff_eq]at b;obtain⟨rfl,C⟩:=b;rw[Co I rfl rfl]at e;exact gB A hd u e C h B
   .cases b
  .cases b
 case mkm=>
  split at b
  .rename_i t r e;cases r with
   |none=>exact(mj A hd e h).wp u B|some r=>cases b
  .cases b
 case mvm s=>
  split at b
  next y e=>rw[Operand.pr b]at e;exact(bg A hd (.inl e) h).wp u B
  next y e=>rw[Operand.pr b]at e;exact(bg A hd (.inr e) h).wp u B
  .cases b
 case zE f ys=>
  split at b
  .rename_i c e;split at b
   next g I=>simp only[sx,beq_iff_eq]at b;obtain⟨rfl,C⟩:=b;rw[Co I rfl rfl]at e;exact gI A hd u e C h B
   .cases b
  .cases b
 case mlk s m x=>
  split at b
  next t y z c e=>simp only[sx]at b;obtain⟨⟨⟨rfl,C⟩,D⟩,E⟩:=b;exact(mn A hd e C D E h).wp u B
  .cases b
 case mup s m x v=>cases M
 case stq n ζ x v=>cases M
 case ldg s n=>
  split at b
  next t y e=>simp only[sx,beq_iff_eq]at b;rw[Operand.pr b.1.1]at e;exact(mc A hd e b.1.2 b.2 h).wp u B
  .cases b
 case x7 s m=>
  split at b
  .rename_i t y e;simp only[sx]at b;obtain⟨C,D⟩:=b;split at D
   next k el J=>exact(mu A hd e C J h).wp u B
   .cases D
  .cases b
 case mnx s=>
  split at b
  next y c e=>simp only[sx,u?]at b;obtain⟨rfl,C⟩:=b;rw[Operand.pr C]at e;exact(mq A hd e h).wp u B
  .cases b
 case men s=>
  split at b
  next y e=>rw[Operand.pr b]at e;exact(mg A hd e h).wp u B
  .cases b
end
end Go.Sf
namespace Go.Sf
open Go.RowKit (Below)
def U6(ops:Array Oper)(o:Oper)(r:PR):Bool:=
 match r.guard,o.guard with
 |none,none=>X|some (g,b),Y (j,b')=>b==b'&&((ops[j]?).bind (·.dst))==Y g|_,_=>T
def L4(P:Program)(N:Nat)(ops:Array Oper)(o:Oper)(r:PR):Bool:=
 U6 ops o r&&(match o.dst,r.dst with
 |some d,Y d'=>d==d'&&decide (d<N)&&!NB r.op&&Pt P o.op r.op|none,none=>NB r.op&&Pt P o.op r.op|_,_=>T)
section
variable{P:Program}{F0:Nat->Nat->Prop}{w0:W0}{O:AB}{a:Act}{w:World}{ops:Array Oper}{o:Oper}{r:PR}{N:Nat}{p:Option (Nat×Value)}{K:AB->Prop}{next:Act->World->Prop}{Q:Exit->Act->World->Prop}
theorem Bj.skip(b:Bj F0 w0 O a w){d:Nat}(hd:d<a.tmps.size):Bj F0 w0 ((d,.sk)::O) (a.put (Y d) undef) w:=by
 obtain ⟨G,h⟩:=b;exact⟨_,h.quiet (Below.refl _ _) d hd .sk undef (λ_=>none) V V V rfl trivial⟩
theorem NM{o:Oper}(b:o.dst=none){K:EV->AB->Prop}(h:HD P F0 w0 a w o K)(e:∀env' w',K .undef env'->Bj F0 w0 env' a w'->next a w'):o.wp P a w next Q:=by
 obtain ⟨w',c,env',f,g⟩:=h;unfold Oper.wp;rw[c,Oper.upon_skip,b];exact e _ _ f g
theorem tI{S:FuncId->Fq->Al->Prop}{n s:Nat}{v:AE}{d:Option Nat}{O:AB}{K:EV->AB->Prop}(h:(AD.stb n s v).wp S O d K):(AD.st n (.s s) v).wp S O d K:=by
 simp [AD.wp]at h|-
 grind [AE.place]
theorem Vp(f:Bj F0 w0 O a w)(D:Kr N p a)(M:∀i v,p=Y (i,v)->r.dst≠Y i)(R:L4 P N ops o r=X)(h:r.wp (AX P) O K)
  (E:∀env' a' w',K env'->Kr N p a'->Bj F0 w0 env' a' w'->next a' w'):
  if Region.wanted o (yielded ops a.tmps)then o.wp P a w next Q else next (a.put o.dst undef) w:=by
 simp [L4]at R;obtain⟨J,hd⟩:=R;have θ:r.op.wp (AX P) O r.dst (λe env'=>K (env'.put r.dst e))->o.wp P a w next Q:=by
  intro A;obtain⟨G,f⟩:=f;cases ho:o.dst with
  |some d=>
   cases B:r.dst with
   |none=>rw[ho,B]at hd;cases hd
   |some d'=>
    rw [ho,B]at hd;simp[yk,u?]at hd;obtain⟨⟨⟨rfl,I⟩,L⟩,c⟩:=hd;rw[B]at A;exact lP f (D.size▸I) ho c L A λe env' a' w' k l k3=>E _ a' w' k (D.put (λi v ζ=>by rw[<-B];exact M i v ζ) l) k3
  |none=>
   cases B:r.dst with
   |some d'=>rw[ho,B]at hd;cases hd
   |none=>
    rw [ho,B]at hd;rw[B]at A;simp at hd;obtain⟨L,c⟩:=hd;generalize ζ:r.op=p at A L c;cases p<;>simp[NB]at L<;>first|cases L|skip
    .rename_i n x v;simp[Pt]at c;split at c
     next t y u e=>simp at c;exact NM ho (dt f e c.1.1 c.1.2 c.2 A) λenv' w' k l=>E env' a w' k D l
     .cases c
    .rename_i n s v;simp[Pt]at c;split at c
     next t y u e=>simp at c;rw[Operand.pr c.1.1]at e;exact NM ho (dt f e (x':=.s s) o2 c.1.2 c.2 (tI A)) λenv' w' k l=>E env' a w' k D l
     .cases c
    .rename_i x v;simp[Pt]at c;split at c
     next t y u e=>simp at c;exact NM ho (nG f e c.1.1 c.1.2 c.2 A) λenv' w' k l=>E env' a w' k D l
     .cases c
    .rename_i n x q;simp[Pt]at c;split at c
     next t y u e=>simp at c;exact NM ho (nC f e c.1.1 c.1.2 c.2 A) λenv' w' k l=>E env' a w' k D l
     .cases c
    .rename_i x q;simp[Pt]at c;split at c
     next t y u e=>simp at c;exact NM ho (mT f e c.1.1 c.1.2 c.2 A) λenv' w' k l=>E env' a w' k D l
     .cases c
    .rename_i x v;simp[Pt]at c;split at c
     next t y u e=>simp at c;exact NM ho (m9 f e c.1.1 c.1.2 c.2 A) λenv' w' k l=>E env' a w' k D l
     .cases c
    .rename_i n ps x v;simp[Pt]at c;split at c
     next t y u e=>simp at c;exact NM ho (nB f e c.1.1 c.1.2 c.2 A) λenv' w' k l=>E env' a w' k D l
     .cases c
    .rename_i s m x v;simp[Pt]at c;split at c
     next t y z u e=>simp at c;exact NM ho (mw f e c.1.1.1 c.1.1.2 c.1.2 c.2 A) λenv' w' k l=>E env' a w' k D l
     .cases c
 have ε:K (O.put r.dst .sk)->next (a.put o.dst undef) w:=by
  intro δ;cases ho:o.dst with
  |some d=>
   cases B:r.dst with
   |none=>rw[ho,B]at hd;cases hd
   |some d'=>
    rw [ho,B]at hd;simp[yk,u?]at hd;obtain⟨⟨⟨rfl,I⟩,L⟩,c⟩:=hd;rw[B]at δ;exact E _ _ _ δ (D.put (λi v ζ=>by rw[<-B];exact M i v ζ) ⟨_,rfl⟩) (f.skip (D.size▸I))
  |none=>
   cases B:r.dst with
   |some d'=>rw[ho,B]at hd;cases hd
   |none=>rw[B]at δ;exact E _ _ _ δ D f
 unfold PR.wp at h;cases F:r.guard with
 |none=>
  rw [F]at h;cases C:o.guard with
  |none=>rw[ae (by simp[Region.wanted,C])];exact θ h|some g=>rw[U6,F,C]at J;cases J
 |some gb=>
  obtain ⟨g,b⟩:=gb;rw[F]at h;cases C:o.guard with
  |none=>rw[U6,F,C]at J;cases J
  |some jb=>
   obtain ⟨j,b'⟩:=jb;rw[U6,F,C]at J;simp at J;obtain⟨rfl,hj⟩:=J;simp only at h;split at h
   .rename_i q S;have hv:slot a g=.bool q:=by
     obtain ⟨G,f⟩:=f;have:=AZ f S V;simpa only[AL,Af]using this
    have H:g<a.tmps.size:=by
     obtain ⟨G,f⟩:=f;exact BV f S V
    have Z:yielded ops a.tmps j=Y q:=by
     have I:a.tmps[g]?=Y (.bool q):=by
      rw [slot,v1,v5 H]at hv;rw[v5 H];simpa using hv
     simp [yielded,hj,I]
    have A:Region.wanted o (yielded ops a.tmps)=(q==b):=by
     simp only[Region.wanted,C,Z];cases q<;>cases b<;>rfl
    rw [A];by_cases κ:q=b
    .subst κ;rw[ae V];exact θ (h.1 rfl)
    .have η:q=!b:=by cases q<;>cases b<;>simp_all
     rw [az (by simpa using κ)];exact ε (h.2 η)
   .rename_i S;have hv:slot a g=undef:=by
     obtain ⟨G,f⟩:=f;have:=AZ f S V;simpa only[AL]using this
    have H:g<a.tmps.size:=by
     obtain ⟨G,f⟩:=f;exact BV f S V
    have Z:yielded ops a.tmps j=none:=by
     have I:a.tmps[g]?=Y undef:=by
      rw [slot,v1,v5 H]at hv;rw[v5 H];simpa using hv
     simp [yielded,hj,I,undef]
    have A:Region.wanted o (yielded ops a.tmps)=T:=by
     simp only[Region.wanted,C,Z];cases b<;>rfl
    rw [A];exact ε h
   .exact h.elim
def Si:List PR->Bool
 |[]=>X|r::rs=>(match r.op,r.dst,r.guard with|.frz _,none,none=>X|_,_,_=>T)&&Si rs
variable{rs:List PR}
theorem oa:∀{O:AB},Si rs=X->wpOps (AX P) K rs O->Bj F0 w0 O a w->∃env',K env'/\Bj F0 w0 env' a w:=by
 induction rs with
 |nil=>intro O _ h b;exact⟨O,h,b⟩|cons r rs l=>
  intro O c h b;simp[Si]at c;obtain⟨e,k⟩:=c;split at e
  .rename_i s f g i;simp[wpOps,PR.wp,f,g,i,AD.wp]at h;split at h
   next cs j=>obtain⟨G,b⟩:=b;exact l k h (b.frz j)
   .exact h.elim
  .cases e
def MA(P:Program)(N:Nat)(ops:Array Oper):List Oper->List PR->Bool
 |[],rs=>Si rs|o::os,r::rs=>L4 P N ops o r&&MA P N ops os rs|_::_,[]=>T
theorem Wn(m:∀O a w,K O->Kr N p a->Bj F0 w0 O a w->Q .normal a w):∀(os:List Oper)(rs:List PR)(k:Nat),ops.toList.drop k=os->MA P N ops os rs=X->(∀i v,p=Y (i,v)->∀r∈rs,r.dst≠Y i)->∀(O:AB)(a:Act)(w:World),Kr N p a->Bj F0 w0 O a w ->
  wpOps (AX P) K rs O->Go.wpOps P ops Q (List.range' k os.length) a w
 |[],rs,k,_,b,_,O,a,w,g,j,h=>by
  obtain ⟨env',z,A⟩:=oa b h j;exact m env' a w z g A
 |o::os,[],k,_,b,_,_,_,_,_,_,_=>by simp[MA]at b|o::os,r::rs,k,hd,b,c,O,a,w,g,j,h=>by
  simp [MA]at b;have y:ops[k]?=Y o:=by
   rw [<-Array.getElem?_toList];have:=congrArg (λl=>l[0]?) hd
   grind
  have f:ops.toList.drop (k+1)=os:=by
   grind [List.tail,List.tail_drop]
  simp [List.range'_succ];rw[Go.wpOps_cons];unfold Go.wpOp;rw[y];simp;have:=Vp (Q:=Q) (next:=Go.wpOps P ops Q (List.range' (k+1) os.length)) j g (λi v e=>c i v e r V) b.1 h λenv' a' w' q s t=>Wn m os rs (k+1) f b.2 (λi v e r u=>c i v e r t_) env' a' w' s t q
  grind
theorem bP{id:Nat}(b:MA P N ops ops.toList rs=X)(c:∀i v,p=Y (i,v)->∀r∈rs,r.dst≠Y i)(e:Kr N p a)(f:Bj F0 w0 O a w)(h:wpOps (AX P) K rs O)
  (g:∀O a w,K O->Kr N p a->Bj F0 w0 O a w->Q .normal a w):(Code.region id ops T).wp P Q a w:=by
 refine Go.wp_region ?_;rw[List.range_eq_range',<-Array.length_toList];exact Wn g ops.toList rs 0 rfl b c O a w e f h
end
end Go.Sf
