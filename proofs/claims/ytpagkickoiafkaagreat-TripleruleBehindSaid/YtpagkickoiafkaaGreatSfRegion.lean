/- One operation against the checker, and regions in the text's order. -/
import Derived.Test.YtpagkickoiafkaaGreatSfN
import Derived.Orders
set_option linter.all false
open Option renaming some->Y
open Bool renaming true->X,false->T
open Option renaming isNone_iff_eq_none->v?
open Bool renaming not_eq_true'->w_
open Array renaming getD_eq_getD_getElem?->w!,getElem?_eq_getElem->w?
namespace Go.Sf
open Go.RowKit (Below)
def Operand.x7(n:Nat):Operand->Bool
 |.tmp m=>m==n|_=>T
variable{n:Nat}{x:Operand}
theorem Operand.jj(h:Operand.x7 n x=X):x=.tmp n:=by
 cases x<;>simp[Operand.x7]at h;rw[h]
def Xh:Operand->Bool
 |.const v=>MO v|_=>T
theorem Ru(h:Xh x=X):∃v,x=.const v/\MO v=X:=by
 cases x<;>simp[Xh]at h;exact⟨_,rfl,h⟩
def Vs(P:Program)(str:Bool)(c:Call)(x:AF):Bool:=
 match c.callee,c.args.toList,c.argTypes.toList with
 |.builtin .len,[y],[t]=>AJ y x&&(match P.underlying t with|some (.slice _)=>!str|some .string=>str|_=>T)
 |_,_,_=>T
def Vq(P:Program)(n:Nat)(c:Call)(x y:AF):Bool:=
 match c.callee,c.args.toList,c.argTypes.toList,x with
 |.builtin .append,[p,q],[t,t'],.s s=>Operand.x7 s p&&AJ q y&&t==t'&&(match P.underlying t with
  |some (.slice e)=>(match P.info? e with
   |some i=>(match i.zero with|some z=>i.size==n&&decide (i.bytes<=4096)&&z.cells.size==n&&decide (0<n)|none=>T)
   |none=>T)
  |_=>T)
 |_,_,_,_=>T
def va(mx:Bool)(c:Call)(x y:AF):Bool:=
 match c.callee,c.args.toList with
 |.builtin .max,[p,q]=>mx&&AJ p x&&AJ q y|.builtin .min,[p,q]=>!mx&&AJ p x&&AJ q y|_,_=>T
def QC(P:Program)(o:Op):AE->Bool
 |.mv x=>match o with|.move y|.assign y=>AJ y x|_=>T
 |.tk s=>match o with|.move y|.assign y=>Operand.x7 s y|_=>T
 |.Aa8 _=>match o with|.move y|.assign y=>Xh y|_=>T
 |.zt x k=>match o with|.fieldAddr t y f=>AJ y x&&Pf P t f==Y k|.move y|.assign y|.nilCheck y=>k==0&&AJ y x|_=>T
 |.bad s k=>match o with|.indexAddr t y j=>Operand.x7 s y&&jN P t j k|.fieldAddr t y f=>Operand.x7 s y&&Pf P t f==Y k|.move y|.assign y|.nilCheck y=>k==0&&Operand.x7 s y|_=>T
 |.iad x i n=>match o with|.indexAddr t y j=>AJ y x&&AJ j i&&IZ P t==Y n|_=>T
 |.aad x i n k=>match o with|.indexAddr t y j=>AJ y x&&AJ j i&&(match P.underlying t with|some (.array k' e)=>k'==k&&Cx P e==Y n|_=>T)|_=>T
 |.ld x=>match o with|.load t y=>AJ y x&&B2 P t==Y T|_=>T
 |.fdv x k=>match o with|.fieldAddr t y f=>AJ y x&&Pf P t f==Y k|_=>T
 |.ldv x n=>match o with|.load t y=>AJ y x&&B2 P t==Y X&&Cx P t==Y n|_=>T
 |.lda x n=>match o with|.load t y=>AJ y x&&B2 P t==Y X&&Cx P t==Y n|_=>T
 |.ldb s n=>match o with|.load t y=>AJ y (.s s)&&B2 P t==Y X&&Cx P t==Y n|_=>T
 |.ldt x=>match o with|.load t y=>AJ y x&&B2 P t==Y T|_=>T
 |.bin k op x y=>match o with|.binOp op' t p q _=>op'==op&&Ny P k t&&AJ p x&&AJ q y|_=>T
 |.not x=>match o with|.unOp op _ y=>op==.not&&AJ y x|_=>T
 |.neg x=>match o with|.unOp op _ y=>op==.neg&&AJ y x|_=>T
 |.pick c x y=>match o with|.pick c' p q=>AJ c' c&&AJ p x&&AJ q y|_=>T
 |.len x=>match o with|.call c=>Vs P T c x|_=>T
 |.Abk x=>match o with|.call c=>Vs P X c x|_=>T
 |.slc n x lo hi=>match o with|.slice t y l h mx=>mx.isNone&&AJ y x&&N0 l lo&&N0 h hi&&IZ P t==Y n|_=>T
 |.Aag x lo hi=>match o with|.slice t y l h mx=>mx.isNone&&AJ y x&&N0 l lo&&N0 h hi&&(match P.underlying t with|some .string=>X|_=>T)|_=>T
 |.bld z ps=>match o with|.build t qs=>jO P t z qs.toList ps|_=>T
 |.lst n ys=>match o with
  |.buildSlice t len ps=>(match P.underlying t with
   |some (.slice e)=>(match P.info? e with
    |some i=>(match i.zero with
     |some z=>i.size==n&&decide (0<n)&&z.cells.toList.all Value.oneCell'&&decide (0<z.cells.size)&&len==ps.size&&decide (len*n<=2^ 24)&&Td 0 ps.toList ys|none=>T)
    |none=>T)
   |_=>T)
  |_=>T
 |.app n x y=>match o with|.call c=>Vq P n c x y|_=>T
 |.call f ys=>match o with|.call c=>(match c.callee with|.value (.func g)=>g==f&&Bc c.args.toList ys|_=>T)|_=>T
 |.AaZ x ys=>match o with|.call c=>(match c.callee with|.value g=>AJ g x&&Bc c.args.toList ys|_=>T)|_=>T
 |.z5 f cs=>match o with|.makeFunc (.func g) first xs=>g==f&&first.size==0&&Bc xs.toList cs|_=>T
 |.ext x i=>match o,x with|.extract y j,.s s=>Operand.x7 s y&&j==i|_,_=>T
 |.cvt k x=>match o with|.convert s t y=>AJ y x&&(match P.underlying s,P.underlying t with|some (.int _),Y (.int k')=>k'==k|_,_=>T)|_=>T
 |.Aac x i=>match o with|.index t y j=>AJ y x&&AJ j i&&(match P.underlying t with|some .string=>X|_=>T)|_=>T
 |.Aa3 x=>match o with|.box _ y=>AJ y x|_=>T
 |.Abd x=>match o with|.box _ y=>AJ y x|_=>T
 |.mm mx x y=>match o with|.call c=>va mx c x y|_=>T
 |.alc cs=>match o with|.alloc t=>(match P.info? t with|some i=>(match i.zero with|some z=>Oq cs z.cells.toList|none=>T)|none=>T)|_=>T
 |.st n x v=>match o with|.store t y u=>AJ y x&&AJ u v&&Cx P t==Y n|_=>T
 |.stb n s v=>match o with|.store t y u=>Operand.x7 s y&&AJ u v&&Cx P t==Y n|_=>T
 |.frz _=>T|.Abe x k n agg=>match o with|.field t y f=>AJ y x&&jP P t f k n agg|_=>T
 |.xal s=>match o with|.move y|.assign y=>Operand.x7 s y|_=>T
 |.Abc x=>match o with|.call c=>Vs P T c x|_=>T
 |.xia x i n=>match o with|.indexAddr t y j=>AJ y x&&AJ j i&&IZ P t==Y n|_=>T
 |.xin x i n=>match o with|.indexAddr t y j=>AJ y x&&AJ j i&&IZ P t==Y n|_=>T
 |.xln x=>match o with|.load t y=>AJ y x&&B2 P t==Y T|_=>T
 |.xfa x k=>match o with|.fieldAddr t y f=>AJ y x&&Pf P t f==Y k|_=>T
 |.xld x=>match o with|.load t y=>AJ y x&&B2 P t==Y T|_=>T
 |.xst x v k=>match o with|.store t y u=>AJ y x&&AJ u v&&Cx P t==Y k|_=>T
 |.rel s=>match o with|.move y|.assign y=>Operand.x7 s y|_=>T
 |.AaY _=>match o with|.move y|.assign y=>Xh y|_=>T
 |.tkx s=>match o with|.move y|.assign y=>Operand.x7 s y|_=>T
 |.AaN n s y=>match o with|.call c=>Vq P n c (.s s) y|_=>T
 |.Aal f ys=>match o with|.call c=>(match c.callee with|.value (.func g)=>g==f&&Bc c.args.toList ys|_=>T)|_=>T
 |.mko n zero x=>match o with|.makeSlice t y z=>AJ y x&&AJ z x&&cZ P t n zero|_=>T
 |.mkx n zero x=>match o with|.makeSlice t y z=>AJ y x&&AJ z x&&cZ P t n zero|_=>T
 |.Aaj f x ys=>match o with|.call c=>(match c.callee,c.args.toList with|.value (.func g),y::zs=>g==f&&(AJ y x&&Bc zs ys)|_,_=>T)|_=>T
 |.AaE f x=>match o with|.call c=>(match c.callee,c.args.toList with|.value (.func g),[y]=>g==f&&AJ y x|_,_=>T)|_=>T
 |.AaV n=>match o with|.buildSlice t len ps=>len==0&&ps.isEmpty&&cY P t n|_=>T
 |.tl gs=>match o with|.build t ps=>cW P t ps.toList gs|_=>T
 |.stx n s q=>match o with|.store t y u=>AJ y (.s s)&&AJ u (.s q)&&Cx P t==Y n|_=>T
 |.AaM f ys=>match o with|.call c=>(match c.callee with|.value (.func g)=>g==f&&Bc c.args.toList ys|_=>T)|_=>T
 |.Aae f ys=>match o with|.call c=>(match c.callee with|.value (.func g)=>g==f&&Bc c.args.toList ys|_=>T)|_=>T
 |.isn x=>match o with|.binOp op t y z _=>op==.eql&&AJ y x&&Sd z&&aq P t|_=>T
 |.lac x=>match o with|.load t y=>AJ y x&&B2 P t==Y T|_=>T
 |.ctk x=>match o with|.load t y=>AJ y x&&B2 P t==Y T|_=>T
 |.cpt x q=>match o with|.store t y u=>AJ y x&&AJ u (.s q)&&Cx P t==Y 1|_=>T
 |.cut n s hi=>match o with|.slice t y l (Y h) mx=>mx.isNone&&l.isNone&&Operand.x7 s y&&AJ h hi&&IZ P t==Y n|_=>T
 |.Aat f ys=>match o with|.call c=>(match c.callee with|.value (.func g)=>g==f&&Bc c.args.toList ys|_=>T)|_=>T
 |.Aa7 _ x=>match o with|.box _ y=>AJ y x|_=>T
 |.AaL f ys=>match o with|.call c=>(match c.callee with|.value (.func g)=>g==f&&Bc c.args.toList ys|_=>T)|_=>T
 |.AaX n s z x=>match o with|.call c=>lZ P n s z x c|_=>T
 |.wi f ys _=>match o with|.call c=>(match c.callee with|.value (.func g)=>g==f&&Bc c.args.toList ys|_=>T)|_=>T
 |.Aa4 q=>match o with|.buildSlice t len ps=>(match len,ps.toList with|1,[(0,x)]=>cX P t&&AJ x (.s q)|_,_=>T)|_=>T
 |.Aar s q=>match o with|.call c=>Vq P 1 c (.s s) (.s q)|_=>T
 |.lan x=>match o with|.load t y=>AJ y x&&B2 P t==Y T|_=>T
 |.nia x i=>match o with|.indexAddr t y j=>AJ y x&&AJ j i&&IZ P t==Y 1|_=>T
 |.nld x=>match o with|.load t y=>AJ y x&&B2 P t==Y T|_=>T
 |.nst x v=>match o with|.store t y u=>AJ y x&&AJ u v&&Cx P t==Y 1|_=>T
 |.Abi q=>match o with|.box _ y=>AJ y (.s q)|_=>T
 |.Aas f ys _=>match o with|.call c=>(match c.callee with|.value (.func g)=>g==f&&Bc c.args.toList ys|_=>T)|_=>T
 |.ldg s n=>match o with|.load t y=>Operand.x7 s y&&B2 P t==Y X&&Cx P t==Y n|_=>T
 |.stq n _ x v=>match o with|.store t y u=>AJ y x&&AJ u v&&Cx P t==Y n|_=>T
 |.mkm=>match o with|.makeMap _ r=>r.isNone|_=>T
 |.mvm s=>match o with|.move y|.assign y=>Operand.x7 s y|_=>T
 |.Aan f ys=>match o with|.call c=>(match c.callee with|.value (.func g)=>g==f&&Bc c.args.toList ys|_=>T)|_=>T
 |.mlk _ m x=>match o with|.lookup t y z c=>c&&Pp P t&&AJ y m&&AJ z x|_=>T
 |.mup _ m x v=>match o with|.mapUpdate t y z u=>Pp P t&&AJ y m&&AJ z x&&AJ u v|_=>T
 |.pc _ m=>match o with|.range t y=>AJ y m&&(match P.underlying t with|some (.map _ _)=>X|_=>T)|_=>T
 |.mnx s=>match o with|.next y c=>!c&&Operand.x7 s y|_=>T
 |.men s=>match o with|.entry y=>Operand.x7 s y|_=>T
def NF:AE->Bool
 |.st ..=>X|.stb ..=>X|.xst ..=>X|.stx ..=>X|.cpt ..=>X|.nst ..=>X|.mup ..=>X|.stq ..=>X|_=>T
section
variable{P:Program}{F0:Nat->Nat->Prop}{w0:W0}{O:AB}{a:Act}{w:World}{G:BV}{d:Nat}{o:Oper}{K:EV->AB->Prop}
theorem A2.wp(h:A2 P F0 w0 a w o d K)(b:o.dst=Y d){next:Act->World->Prop}{Q:Exit->Act->World->Prop}(hn:∀e env' a' w',K e env'->Q4 a d a'->Bs F0 w0 ((d,e)::env') a' w'->next a' w'):o.wp P a w next Q:=by
 obtain ⟨v,w',c,e,env',f,g⟩:=h;unfold Oper.wp;rw[c,Oper.upon_value,b];exact hn e env' _ w' f ⟨_,rfl⟩ g
variable{α:Type}
theorem GP{a:Array α}{x:α}(h:a.toList=[x]):a=#[x]:=by
 cases a;simp_all
theorem FM{a:Array α}{x y:α}(h:a.toList=[x,y]):a=#[x,y]:=by
 cases a;simp_all
theorem C4{c:Call}{b:Callee}{e:Array Operand}{f:Array TypeId}(g:c.callee=b)(h:c.args=e)(i:c.argTypes=f):c={callee:=b,args:=e,argTypes:=f}:=by
 cases c;simp_all
theorem oZ(A:AR F0 w0 O a w G)(hd:d<a.tmps.size)(u:o.dst=Y d){p:AE}(b:QC P o.op p=X)(L:NF p=T)(h:p.wp (AV P) O (Y d) K)
  {next:Act->World->Prop}{Q:Exit->Act->World->Prop}(hn:∀e env' a' w',K e env'->Q4 a d a'->Bs F0 w0 ((d,e)::env') a' w'->next a' w'):o.wp P a w next Q:=by
 cases p<;>simp only[QC]at b<;>try(exact absurd b Bool.false_ne_true)
 case mv x=>
  split at b
  next y e=>exact(g9 A hd (.inl e) b h).wp u hn
  next y e=>exact(g9 A hd (.inr e) b h).wp u hn
  .cases b
 case tk s=>
  split at b
  next y e=>rw[Operand.jj b]at e;exact(iA A hd (.inl e) h).wp u hn
  next y e=>rw[Operand.jj b]at e;exact(iA A hd (.inr e) h).wp u hn
  .cases b
 case Aa8 n=>
  split at b
  next y e=>exact(aM A hd (.inl e) (Ru b) h).wp u hn
  next y e=>exact(aM A hd (.inr e) (Ru b) h).wp u hn
  .cases b
 case zt x k=>
  split at b
  next t y f e=>simp only[gN,beq_iff_eq]at b;exact(RU A hd (Yc e b.2) b.1 h).wp u hn
  next y e=>simp only[gN,beq_iff_eq]at b;obtain⟨rfl,b⟩:=b;exact(RU A hd (Qx (.inl e)) b h).wp u hn
  next y e=>simp only[gN,beq_iff_eq]at b;obtain⟨rfl,b⟩:=b;exact(RU A hd (Qx (.inr (.inl e))) b h).wp u hn
  next y e=>simp only[gN,beq_iff_eq]at b;obtain⟨rfl,b⟩:=b;exact(RU A hd (Qx (.inr (.inr e))) b h).wp u hn
  .cases b
 case bad s k=>
  split at b
  next t y j e=>simp only[gN]at b;rw[Operand.jj b.1]at e;exact(RT A hd (rf e b.2) h).wp u hn
  next t y f e=>simp only[gN,beq_iff_eq]at b;rw[Operand.jj b.1]at e;exact(RT A hd (Yc e b.2) h).wp u hn
  next y e=>simp only[gN,beq_iff_eq]at b;obtain⟨rfl,b⟩:=b;rw[Operand.jj b]at e;exact(RT A hd (Qx (.inl e)) h).wp u hn
  next y e=>simp only[gN,beq_iff_eq]at b;obtain⟨rfl,b⟩:=b;rw[Operand.jj b]at e;exact(RT A hd (Qx (.inr (.inl e))) h).wp u hn
  next y e=>simp only[gN,beq_iff_eq]at b;obtain⟨rfl,b⟩:=b;rw[Operand.jj b]at e;exact(RT A hd (Qx (.inr (.inr e))) h).wp u hn
  .cases b
 case iad x i n=>
  split at b
  next t y j e=>simp only[gN,beq_iff_eq]at b;exact(p0 A hd e b.1.1 b.1.2 b.2 h).wp u hn
  .cases b
 case aad x i n k=>
  split at b
  .rename_i t y j e;simp only[gN]at b;obtain⟨⟨B,C⟩,D⟩:=b;split at D
   next k' el I=>simp only[gN,beq_iff_eq]at D;obtain⟨rfl,F⟩:=D;exact(pZ A hd e B C I F h).wp u hn
   .cases D
  .cases b
 case ld x=>
  split at b
  next t y e=>simp only[gN,beq_iff_eq]at b;exact(ti A hd e b.1 b.2 h).wp u hn
  .cases b
 case fdv x k=>
  split at b
  .rename_i t y f e;simp only[gN,beq_iff_eq]at b;refine(RU (S:=AV P) A hd (Yc e b.2) b.1 ?_).wp u hn;simp only[AE.wp]at h|-;split at h
   next row δ=>rw[nO A δ];exact h
   .exact h.elim
  .cases b
 case ldv x n=>
  split at b
  .rename_i t y e;simp only[gN,beq_iff_eq]at b;refine(Wx (S:=AV P) A hd e b.1.1 b.1.2 b.2 ?_).wp u hn;simp only[AE.wp]at h|-;split at h
   next row δ=>rw[nO A δ];exact h
   .exact h.elim
  .cases b
 case lda x n=>
  split at b
  next t y e=>simp only[gN,beq_iff_eq]at b;exact(Wx A hd e b.1.1 b.1.2 b.2 h).wp u hn
  .cases b
 case ldb s n=>
  split at b
  .rename_i t y e;simp only[gN,beq_iff_eq]at b;refine(Wx (S:=AV P) A hd e b.1.1 b.1.2 b.2 (y:=.s s) ?_).wp u hn;simp only[AE.wp]at h|-;split at h
   next cs H=>simp only[AF.ev,H,A7,Ai];exact h
   .exact h.elim
  .cases b
 case ldt x=>
  split at b
  next t y e=>simp only[gN,beq_iff_eq]at b;exact(p9 A hd e b.1 b.2 h).wp u hn
  .cases b
 case bin k op x y=>
  split at b
  next op' t p q ζ e=>simp only[gN,beq_iff_eq]at b;obtain⟨⟨⟨rfl,B⟩,C⟩,D⟩:=b;exact(pj A hd e B C D h).wp u hn
  .cases b
 case not x=>
  split at b
  next op t y e=>simp only[gN,beq_iff_eq]at b;obtain⟨rfl,B⟩:=b;exact(qO A hd e B h).wp u hn
  .cases b
 case neg x=>
  split at b
  next op t y e=>simp only[gN,beq_iff_eq]at b;obtain⟨rfl,B⟩:=b;exact(qL A hd e B h).wp u hn
  .cases b
 case pick c x y=>
  split at b
  next c' p q e=>simp only[gN]at b;exact(nE A hd e b.1.1 b.1.2 b.2 h).wp u hn
  .cases b
 case len x=>
  split at b
  .rename_i c e;unfold Vs at b;split at b
   .rename_i y t B C D;simp only[gN]at b;obtain⟨F,J⟩:=b;split at J
    next el I=>rw[C4 B (GP C) (GP D)]at e;exact(qA A hd e F I h).wp u hn
    .cases J
    .cases J
   .cases b
  .cases b
 case Abk x=>
  split at b
  .rename_i c e;unfold Vs at b;split at b
   .rename_i y t B C D;simp only[gN]at b;obtain⟨F,J⟩:=b;split at J
    .cases J
    next I=>rw[C4 B (GP C) (GP D)]at e;exact(nG A hd e F I h).wp u hn
    .cases J
   .cases b
  .cases b
 case slc n x lo hi=>
  split at b
  next t y l hh mx e=>simp only[gN,beq_iff_eq,v?]at b;obtain⟨⟨⟨⟨rfl,B⟩,C⟩,D⟩,F⟩:=b;exact(qQ A hd e B C D F h).wp u hn
  .cases b
 case Aag x lo hi=>
  split at b
  .rename_i t y l hh mx e;simp only[gN,v?]at b;obtain⟨⟨⟨⟨rfl,B⟩,C⟩,D⟩,F⟩:=b;split at F
   next I=>exact(nH A hd e B C D I h).wp u hn
   .cases F
  .cases b
 case bld z η=>
  split at b
  next t qs e=>exact(pk A hd e b h).wp u hn
  .cases b
 case lst n ys=>
  split at b
  .rename_i t len η e;split at b
   .rename_i el I;split at b
    .rename_i i hi;split at b
     next z R=>simp only[gN,beq_iff_eq,ml]at b;obtain⟨⟨⟨⟨⟨⟨B,C⟩,D⟩,F⟩,J⟩,E⟩,θ⟩:=b;exact(qB A hd e I hi R B C D F J E θ h).wp u hn
     .cases b
    .cases b
   .cases b
  .cases b
 case app n x y=>
  split at b
  .rename_i c e;unfold Vq at b;split at b
   .rename_i p q t ζ s B C D;simp only[gN,beq_iff_eq]at b;obtain⟨⟨⟨F,J⟩,rfl⟩,E⟩:=b;split at E
    .rename_i el I;split at E
     .rename_i i hi;split at E
      next z R=>simp only[gN,beq_iff_eq,ml]at E;obtain⟨⟨⟨θ,ε⟩,κ⟩,M⟩:=E;rw[C4 B (FM C) (FM D),Operand.jj F]at e;exact(pi A hd e I hi R θ ε κ M J h).wp u hn
      .cases E
     .cases E
    .cases E
   .cases b
  .cases b
 case call f ys=>
  split at b
  .rename_i c e;split at b
   next g H=>simp only[gN,beq_iff_eq]at b;obtain⟨rfl,B⟩:=b;rw[C4 H rfl rfl]at e;exact m7 A hd u e B h hn
   .cases b
  .cases b
 case AaZ x ys=>
  split at b
  .rename_i c e;split at b
   next g H=>simp only[gN]at b;rw[C4 H rfl rfl]at e;exact kB A hd u e b.1 b.2 h hn
   .cases b
  .cases b
 case z5 f cs=>
  split at b
  .rename_i g first xs e
   simp only[gN,beq_iff_eq]at b;obtain⟨⟨rfl,B⟩,C⟩:=b;rw[Array.eq_empty_of_size_eq_zero B]at e;exact(pu A hd e C h).wp u hn
  .cases b
 case ext x i=>
  split at b
  next y j s e=>simp only[gN,beq_iff_eq]at b;obtain⟨B,rfl⟩:=b;rw[Operand.jj B]at e;exact(pz A hd e h).wp u hn
  .cases b
 case cvt k x=>
  split at b
  .rename_i s t y e;simp only[gN]at b;obtain⟨B,C⟩:=b;split at C
   next k1 k2 hs ht=>simp only[beq_iff_eq]at C;subst C;exact(py A hd e hs ht B h).wp u hn
   .cases C
  .cases b
 case Aac x i=>
  split at b
  .rename_i t y j e;simp only[gN]at b;obtain⟨⟨B,C⟩,D⟩:=b;split at D
   next I=>exact(nF A hd e B C I h).wp u hn
   .cases D
  .cases b
 case Aa3 x=>
  split at b
  next t y e=>exact(mz A hd e b h).wp u hn
  .cases b
 case Abd x=>
  split at b
  next t y e=>exact(mw A hd e b h).wp u hn
  .cases b
 case mm mx x y=>
  split at b
  .rename_i c e;unfold va at b;split at b
   next p q B C=>simp only[gN]at b;obtain⟨⟨rfl,D⟩,F⟩:=b;rw[C4 B (FM C) rfl]at e;exact(g8 (mx:=X) A hd e D F h).wp u hn
   next p q B C=>simp only[gN,w_]at b;obtain⟨⟨rfl,D⟩,F⟩:=b;rw[C4 B (FM C) rfl]at e;exact(g8 (mx:=T) A hd e D F h).wp u hn
   .cases b
  .cases b
 case alc cs=>
  split at b
  .rename_i t e;split at b
   .rename_i i hi;split at b
    next z R=>exact(ph A hd e hi R b h).wp u hn
    .cases b
   .cases b
  .cases b
 case st n x v=>cases L
 case stb n s v=>cases L
 case Abe x k n agg=>
  split at b
  next t y f e=>simp only[gN]at b;exact(nA A hd e b.1 b.2 h).wp u hn
  .cases b
 case xal s=>
  split at b
  next y e=>rw[Operand.jj b]at e;exact(dj A hd (.inl e) h).wp u hn
  next y e=>rw[Operand.jj b]at e;exact(dj A hd (.inr e) h).wp u hn
  .cases b
 case rel s=>
  split at b
  next y e=>rw[Operand.jj b]at e;exact(dh A hd (.inl e) h).wp u hn
  next y e=>rw[Operand.jj b]at e;exact(dh A hd (.inr e) h).wp u hn
  .cases b
 case tkx s=>
  split at b
  next y e=>rw[Operand.jj b]at e;exact(di A hd (.inl e) h).wp u hn
  next y e=>rw[Operand.jj b]at e;exact(di A hd (.inr e) h).wp u hn
  .cases b
 case AaY n=>
  split at b
  next y e=>exact(aO A hd (.inl e) (Ru b) h).wp u hn
  next y e=>exact(aO A hd (.inr e) (Ru b) h).wp u hn
  .cases b
 case Abc x=>
  split at b
  .rename_i c e;unfold Vs at b;split at b
   .rename_i y t B C D;simp only[gN]at b;obtain⟨F,J⟩:=b;split at J
    next el I=>rw[C4 B (GP C) (GP D)]at e;exact(nI A hd e F I h).wp u hn
    .cases J
    .cases J
   .cases b
  .cases b
 case xia x i n=>
  split at b
  next t y j e=>simp only[gN,beq_iff_eq]at b;exact(dk A hd e b.1.1 b.1.2 b.2 h).wp u hn
  .cases b
 case xfa x k=>
  split at b
  next t y f e=>simp only[gN,beq_iff_eq]at b;exact(qT A hd e b.1 b.2 h).wp u hn
  .cases b
 case xin x i n=>
  split at b
  next t y j e=>simp only[gN,beq_iff_eq]at b;exact(dk A hd e b.1.1 b.1.2 b.2 (uC h)).wp u hn
  .cases b
 case xln x=>
  split at b
  next t y e=>simp only[gN,beq_iff_eq]at b;exact(dl A hd e b.1 b.2 (uD h)).wp u hn
  .cases b
 case xld x=>
  split at b
  next t y e=>simp only[gN,beq_iff_eq]at b;exact(dl A hd e b.1 b.2 h).wp u hn
  .cases b
 case xst x v k=>cases L
 case AaN n s y=>
  split at b
  .rename_i c e;unfold Vq at b;split at b
   .rename_i p q t ζ s' B C D h0;simp only[AF.s.injEq]at h0;subst h0;simp only[gN,beq_iff_eq]at b;obtain⟨⟨⟨F,J⟩,rfl⟩,E⟩:=b;split at E
    .rename_i el I;split at E
     .rename_i i hi;split at E
      next z R=>simp only[gN,beq_iff_eq,ml]at E;obtain⟨⟨⟨θ,ε⟩,κ⟩,M⟩:=E;rw[C4 B (FM C) (FM D),Operand.jj F]at e;exact(mr A hd e I hi R θ ε κ M J h).wp u hn
      .cases E
     .cases E
    .cases E
   .cases b
  .cases b
 case Aal f ys=>
  split at b
  .rename_i c e;split at b
   next g H=>simp only[gN,beq_iff_eq]at b;obtain⟨rfl,B⟩:=b;rw[C4 H rfl rfl]at e;exact kC A hd u e B h hn
   .cases b
  .cases b
 case mko n zero x=>
  split at b
  next t y z e=>simp only[gN]at b;exact(qF A hd e b.1.1 b.1.2 b.2 h).wp u hn
  .cases b
 case mkx n zero x=>
  split at b
  next t y z e=>simp only[gN]at b;exact(g7 A hd e b.1.1 b.1.2 b.2 h).wp u hn
  .cases b
 case Aaj f x ys=>
  split at b
  .rename_i c e;split at b
   next g y zs H Z=>simp only[gN,beq_iff_eq]at b;obtain⟨rfl,B,C⟩:=b;rw[C4 H (show c.args=(y::zs).toArray by rw[<-Z]) rfl]at e;exact j9 A hd u e B C h hn
   .cases b
  .cases b
 case AaE f x=>
  split at b
  .rename_i c e;split at b
   next g y H Z=>simp only[gN,beq_iff_eq]at b;obtain⟨rfl,B⟩:=b;rw[C4 H (GP Z) rfl]at e;exact jz A hd u e B h hn
   .cases b
  .cases b
 case AaV n=>
  split at b
  next t len η e=>simp only[gN,beq_iff_eq,Array.isEmpty_iff]at b;obtain⟨⟨rfl,rfl⟩,B⟩:=b;exact(nC A hd e B h).wp u hn
  .cases b
 case tl gs=>
  split at b
  next t η e=>exact(mt A hd e b h).wp u hn
  .cases b
 case stx n s q=>cases L
 case cpt x q=>cases L
 case lac x=>
  split at b
  next t y e=>simp only[gN,beq_iff_eq]at b;exact(p6 A hd e b.1 b.2 h).wp u hn
  .cases b
 case ctk x=>
  split at b
  next t y e=>simp only[gN,beq_iff_eq]at b;exact(pw A hd e b.1 b.2 h).wp u hn
  .cases b
 case cut n s hi=>
  split at b
  next t y l hh mx e=>simp only[gN,beq_iff_eq,v?]at b;obtain⟨⟨⟨⟨rfl,rfl⟩,B⟩,C⟩,D⟩:=b;rw[Operand.jj B]at e;exact(px A hd e C D h).wp u hn
  .cases b
 case Aat f ys=>
  split at b
  .rename_i c e;split at b
   next g H=>simp only[gN,beq_iff_eq]at b;obtain⟨rfl,B⟩:=b;rw[C4 H rfl rfl]at e;exact j8 A hd u e B h hn
   .cases b
  .cases b
 case wi f ys i=>
  split at b
  .rename_i c e;split at b
   next g H=>simp only[gN,beq_iff_eq]at b;obtain⟨rfl,B⟩:=b;rw[C4 H rfl rfl]at e;exact jy A hd u e B h hn
   .cases b
  .cases b
 case AaL f ys=>
  split at b
  .rename_i c e;split at b
   next g H=>simp only[gN,beq_iff_eq]at b;obtain⟨rfl,B⟩:=b;rw[C4 H rfl rfl]at e;exact(j6 A hd e B h).wp u hn
   .cases b
  .cases b
 case AaX n s z x=>
  split at b
  .rename_i c e;unfold lZ at b;split at b
   .rename_i p q t ζ B C D;simp only[gN]at b;obtain⟨⟨F,J⟩,E⟩:=b;split at E
    .rename_i el kn I hu';split at E
     .rename_i i hi;split at E
      .rename_i zz R;split at E
       next z0 hz0=>simp only[gN,beq_iff_eq,ml]at E;obtain⟨⟨⟨⟨rfl,θ⟩,ε⟩,κ⟩,M⟩:=E;rw[C4 B (FM C) (FM D),Operand.isTmp_eq' F]at e;exact(ms A hd e I hu' hi R θ ε (GP hz0) κ M J h).wp u hn
       .cases E
      .cases E
     .cases E
    .cases E
   .cases b
  .cases b
 case Aa7 η x=>
  split at b
  next t y e=>exact(my A hd e b h).wp u hn
  .cases b
 case AaM f ys=>
  split at b
  .rename_i c e;split at b
   next g H=>simp only[gN,beq_iff_eq]at b;obtain⟨rfl,B⟩:=b;rw[C4 H rfl rfl]at e;exact j7 A hd u e B h hn
   .cases b
  .cases b
 case Aae f ys=>
  split at b
  .rename_i c e;split at b
   next g H=>simp only[gN,beq_iff_eq]at b;obtain⟨rfl,B⟩:=b;rw[C4 H rfl rfl]at e;exact e8 A hd u e B h hn
   .cases b
  .cases b
 case isn x=>
  split at b
  next op t y z ζ e=>simp only[gN,beq_iff_eq]at b;obtain⟨⟨⟨rfl,B⟩,C⟩,D⟩:=b;exact(p5 A hd e B C D h).wp u hn
  .cases b
 case Aa4 q=>
  split at b
  .rename_i t len η e;split at b
   next x hps=>simp only[gN]at b;rw[GP hps]at e;exact(nB A hd e b.1 b.2 h).wp u hn
   .cases b
  .cases b
 case Aar s q=>
  split at b
  .rename_i c e;unfold Vq at b;split at b
   .rename_i p q' t ζ s' B C D F;simp only[AF.s.injEq]at F;subst F;simp only[gN,beq_iff_eq]at b;obtain⟨⟨⟨F,J⟩,rfl⟩,E⟩:=b;split at E
    .rename_i el I;split at E
     .rename_i i hi;split at E
      .rename_i z R;simp only[gN,beq_iff_eq,ml]at E;obtain⟨⟨⟨θ,ε⟩,κ⟩,M⟩:=E;have hq:q'=.tmp q:=by
        cases q'<;>simp[AJ]at J;rw[J]
       rw [C4 B (FM C) (FM D),Operand.jj F,hq]at e;exact(mq A hd e I hi R θ ε κ h).wp u hn
      .cases E
     .cases E
    .cases E
   .cases b
  .cases b
 case lan x=>
  split at b
  next t y e=>simp only[gN,beq_iff_eq]at b;exact(p7 A hd e b.1 b.2 h).wp u hn
  .cases b
 case nia x i=>
  split at b
  next t y j e=>simp only[gN,beq_iff_eq]at b;exact(qM A hd e b.1.1 b.1.2 b.2 h).wp u hn
  .cases b
 case nld x=>
  split at b
  next t y e=>simp only[gN,beq_iff_eq]at b;exact(qN A hd e b.1 b.2 h).wp u hn
  .cases b
 case nst x v=>cases L
 case Abi q=>
  split at b
  next t y e=>exact(mu A hd e b h).wp u hn
  .cases b
 case Aas f ys i=>
  split at b
  .rename_i c e;split at b
   next g H=>simp only[gN,beq_iff_eq]at b;obtain⟨rfl,B⟩:=b;rw[C4 H rfl rfl]at e;exact jx A hd u e B h hn
   .cases b
  .cases b
 case mkm=>
  split at b
  .rename_i t r e;cases r with
   |none=>exact(qE A hd e h).wp u hn|some r=>cases b
  .cases b
 case mvm s=>
  split at b
  next y e=>rw[Operand.jj b]at e;exact(dg A hd (.inl e) h).wp u hn
  next y e=>rw[Operand.jj b]at e;exact(dg A hd (.inr e) h).wp u hn
  .cases b
 case Aan f ys=>
  split at b
  .rename_i c e;split at b
   next g H=>simp only[gN,beq_iff_eq]at b;obtain⟨rfl,B⟩:=b;rw[C4 H rfl rfl]at e;exact kA A hd u e B h hn
   .cases b
  .cases b
 case mlk s m x=>
  split at b
  next t y z c e=>simp only[gN]at b;obtain⟨⟨⟨rfl,B⟩,C⟩,D⟩:=b;exact(qH A hd e B C D h).wp u hn
  .cases b
 case mup s m x v=>cases L
 case stq n η x v=>cases L
 case ldg s n=>
  split at b
  next t y e=>simp only[gN,beq_iff_eq]at b;rw[Operand.jj b.1.1]at e;exact(p8 A hd e b.1.2 b.2 h).wp u hn
  .cases b
 case pc s m=>
  split at b
  .rename_i t y e;simp only[gN]at b;obtain⟨B,C⟩:=b;split at C
   next k el I=>exact(qJ A hd e B I h).wp u hn
   .cases C
  .cases b
 case mnx s=>
  split at b
  next y c e=>simp only[gN,w_]at b;obtain⟨rfl,B⟩:=b;rw[Operand.jj B]at e;exact(qI A hd e h).wp u hn
  .cases b
 case men s=>
  split at b
  next y e=>rw[Operand.jj b]at e;exact(qC A hd e h).wp u hn
  .cases b
end
end Go.Sf
namespace Go.Sf
open Go.RowKit (Below)
def Vr(ops:Array Oper)(o:Oper)(r:PR):Bool:=
 match r.guard,o.guard with
 |none,none=>X|some (g,b),Y (j,b')=>b==b'&&((ops[j]?).bind (·.dst))==Y g|_,_=>T
def LL(P:Program)(N:Nat)(ops:Array Oper)(o:Oper)(r:PR):Bool:=
 Vr ops o r&&(match o.dst,r.dst with
 |some d,Y d'=>d==d'&&decide (d<N)&&!NF r.op&&QC P o.op r.op|none,none=>NF r.op&&QC P o.op r.op|_,_=>T)
section
variable{P:Program}{F0:Nat->Nat->Prop}{w0:W0}{O:AB}{a:Act}{w:World}{ops:Array Oper}{o:Oper}{r:PR}{N:Nat}{p:Option (Nat×Value)}{K:AB->Prop}{next:Act->World->Prop}{Q:Exit->Act->World->Prop}
theorem Bs.skip(b:Bs F0 w0 O a w){d:Nat}(hd:d<a.tmps.size):Bs F0 w0 ((d,.sk)::O) (a.put (Y d) undef) w:=by
 obtain ⟨G,h⟩:=b;exact⟨_,h.quiet (Below.refl _ _) d hd .sk undef (λ_=>none) V V V rfl trivial⟩
theorem NV{o:Oper}(b:o.dst=none){K:EV->AB->Prop}(h:Hd P F0 w0 a w o K)(hn:∀env' w',K .undef env'->Bs F0 w0 env' a w'->next a w'):o.wp P a w next Q:=by
 obtain ⟨w',c,env',e,f⟩:=h;unfold Oper.wp;rw[c,Oper.upon_skip,b];exact hn _ _ e f
theorem wq{S:FuncId->Fq->At->Prop}{n s:Nat}{v:AF}{d:Option Nat}{O:AB}{K:EV->AB->Prop}(h:(AE.stb n s v).wp S O d K):(AE.st n (.s s) v).wp S O d K:=by
 simp [AE.wp]at h|-
 grind [AF.place]
theorem Wm(f:Bs F0 w0 O a w)(D:K9 N p a)(L:∀i v,p=Y (i,v)->r.dst≠Y i)(M:LL P N ops o r=X)(h:r.wp (AV P) O K)
  (hn:∀env' a' w',K env'->K9 N p a'->Bs F0 w0 env' a' w'->next a' w'):
  if Region.wanted o (yielded ops a.tmps)then o.wp P a w next Q else next (a.put o.dst undef) w:=by
 simp [LL]at M;obtain⟨I,hd⟩:=M;have S:r.op.wp (AV P) O r.dst (λe env'=>K (env'.put r.dst e))->o.wp P a w next Q:=by
  intro A;obtain⟨G,f⟩:=f;cases ho:o.dst with
  |some d=>
   cases B:r.dst with
   |none=>rw[ho,B]at hd;cases hd
   |some Z=>
    rw [ho,B]at hd;simp[ml,w_]at hd;obtain⟨⟨⟨rfl,H⟩,J⟩,c⟩:=hd;rw[B]at A;exact oZ f (D.size▸H) ho c J A λe env' a' w' k l k3=>hn _ a' w' k (D.put (λi v η=>by rw[<-B];exact L i v η) l) k3
  |none=>
   cases B:r.dst with
   |some Z=>rw[ho,B]at hd;cases hd
   |none=>
    rw [ho,B]at hd;rw[B]at A;simp at hd;obtain⟨J,c⟩:=hd;generalize η:r.op=p at A J c;cases p<;>simp[NF]at J<;>first|cases J|skip
    .rename_i n x v;simp[QC]at c;split at c
     next t y u e=>simp at c;exact NV ho (hU f e c.1.1 c.1.2 c.2 A) λenv' w' k l=>hn env' a w' k D l
     .cases c
    .rename_i n s v;simp[QC]at c;split at c
     next t y u e=>simp at c;rw[Operand.jj c.1.1]at e;exact NV ho (hU f e (x':=.s s) p? c.1.2 c.2 (wq A)) λenv' w' k l=>hn env' a w' k D l
     .cases c
    .rename_i x v;simp[QC]at c;split at c
     next t y u e=>simp at c;exact NV ho (qU f e c.1.1 c.1.2 c.2 A) λenv' w' k l=>hn env' a w' k D l
     .cases c
    .rename_i n x q;simp[QC]at c;split at c
     next t y u e=>simp at c;exact NV ho (qS f e c.1.1 c.1.2 c.2 A) λenv' w' k l=>hn env' a w' k D l
     .cases c
    .rename_i x q;simp[QC]at c;split at c
     next t y u e=>simp at c;exact NV ho (pv f e c.1.1 c.1.2 c.2 A) λenv' w' k l=>hn env' a w' k D l
     .cases c
    .rename_i x v;simp[QC]at c;split at c
     next t y u e=>simp at c;exact NV ho (qP f e c.1.1 c.1.2 c.2 A) λenv' w' k l=>hn env' a w' k D l
     .cases c
    .rename_i n ps x v;simp[QC]at c;split at c
     next t y u e=>simp at c;exact NV ho (qR f e c.1.1 c.1.2 c.2 A) λenv' w' k l=>hn env' a w' k D l
     .cases c
    .rename_i s m x v;simp[QC]at c;split at c
     next t y z u e=>simp at c;exact NV ho (qK f e c.1.1.1 c.1.1.2 c.1.2 c.2 A) λenv' w' k l=>hn env' a w' k D l
     .cases c
 have θ:K (O.put r.dst .sk)->next (a.put o.dst undef) w:=by
  intro ζ;cases ho:o.dst with
  |some d=>
   cases B:r.dst with
   |none=>rw[ho,B]at hd;cases hd
   |some Z=>
    rw [ho,B]at hd;simp[ml,w_]at hd;obtain⟨⟨⟨rfl,H⟩,J⟩,c⟩:=hd;rw[B]at ζ;exact hn _ _ _ ζ (D.put (λi v η=>by rw[<-B];exact L i v η) ⟨_,rfl⟩) (f.skip (D.size▸H))
  |none=>
   cases B:r.dst with
   |some Z=>rw[ho,B]at hd;cases hd
   |none=>rw[B]at ζ;exact hn _ _ _ ζ D f
 unfold PR.wp at h;cases E:r.guard with
 |none=>
  rw [E]at h;cases C:o.guard with
  |none=>rw[QQ (by simp[Region.wanted,C])];exact S h|some g=>rw[Vr,E,C]at I;cases I
 |some gb=>
  obtain ⟨g,b⟩:=gb;rw[E]at h;cases C:o.guard with
  |none=>rw[Vr,E,C]at I;cases I
  |some jb=>
   obtain ⟨j,b'⟩:=jb;rw[Vr,E,C]at I;simp at I;obtain⟨rfl,hj⟩:=I;simp only at h;split at h
   .rename_i q R;have hv:slot a g=.bool q:=by
     obtain ⟨G,f⟩:=f;have:=Ah f R V;simpa only[AK,Ap]using this
    have F:g<a.tmps.size:=by
     obtain ⟨G,f⟩:=f;exact Bg f R V
    have δ:yielded ops a.tmps j=Y q:=by
     have H:a.tmps[g]?=Y (.bool q):=by
      rw [slot,w!,w? F]at hv;rw[w? F];simpa using hv
     simp [yielded,hj,H]
    have A:Region.wanted o (yielded ops a.tmps)=(q==b):=by
     simp only[Region.wanted,C,δ];cases q<;>cases b<;>rfl
    rw [A];by_cases ε:q=b
    .subst ε;rw[QQ V];exact S (h.1 rfl)
    .have κ:q=!b:=by cases q<;>cases b<;>simp_all
     rw [aE (by simpa using ε)];exact θ (h.2 κ)
   .rename_i R;have hv:slot a g=undef:=by
     obtain ⟨G,f⟩:=f;have:=Ah f R V;simpa only[AK]using this
    have F:g<a.tmps.size:=by
     obtain ⟨G,f⟩:=f;exact Bg f R V
    have δ:yielded ops a.tmps j=none:=by
     have H:a.tmps[g]?=Y undef:=by
      rw [slot,w!,w? F]at hv;rw[w? F];simpa using hv
     simp [yielded,hj,H,undef]
    have A:Region.wanted o (yielded ops a.tmps)=T:=by
     simp only[Region.wanted,C,δ];cases b<;>rfl
    rw [A];exact θ h
   .exact h.elim
def Tb:List PR->Bool
 |[]=>X|r::rs=>(match r.op,r.dst,r.guard with|.frz _,none,none=>X|_,_,_=>T)&&Tb rs
variable{rs:List PR}
theorem r8:∀{O:AB},Tb rs=X->wpOps (AV P) K rs O->Bs F0 w0 O a w->∃env',K env'/\Bs F0 w0 env' a w:=by
 induction rs with
 |nil=>intro O _ h b;exact⟨O,h,b⟩|cons r rs l=>
  intro O c h b;simp[Tb]at c;obtain⟨e,k⟩:=c;split at e
  .rename_i s f g i;simp[wpOps,PR.wp,f,g,i,AE.wp]at h;split at h
   next cs j=>obtain⟨G,b⟩:=b;exact l k h (b.frz j)
   .exact h.elim
  .cases e
def MP(P:Program)(N:Nat)(ops:Array Oper):List Oper->List PR->Bool
 |[],rs=>Tb rs|o::os,r::rs=>LL P N ops o r&&MP P N ops os rs|_::_,[]=>T
theorem Xm(m:∀O a w,K O->K9 N p a->Bs F0 w0 O a w->Q .normal a w):∀(os:List Oper)(rs:List PR)(k:Nat),ops.toList.drop k=os->MP P N ops os rs=X->(∀i v,p=Y (i,v)->∀r∈rs,r.dst≠Y i)->∀(O:AB)(a:Act)(w:World),K9 N p a->Bs F0 w0 O a w ->
  wpOps (AV P) K rs O->Go.wpOps P ops Q (List.range' k os.length) a w
 |[],rs,k,_,b,_,O,a,w,g,j,h=>by
  obtain ⟨env',z,A⟩:=r8 b h j;exact m env' a w z g A
 |o::os,[],k,_,b,_,_,_,_,_,_,_=>by simp[MP]at b|o::os,r::rs,k,hd,b,c,O,a,w,g,j,h=>by
  simp [MP]at b;have y:ops[k]?=Y o:=by
   rw [<-Array.getElem?_toList];have:=congrArg (λl=>l[0]?) hd
   grind
  have f:ops.toList.drop (k+1)=os:=by
   grind [List.tail,List.tail_drop]
  simp [List.range'_succ];rw[Go.wpOps_cons];unfold Go.wpOp;rw[y];simp;have:=Wm (Q:=Q) (next:=Go.wpOps P ops Q (List.range' (k+1) os.length)) j g (λi v e=>c i v e r V) b.1 h λenv' a' w' q s t=>Xm m os rs (k+1) f b.2 (λi v e r u=>c i v e r o?) env' a' w' s t q
  grind
theorem dO{id:Nat}(b:MP P N ops ops.toList rs=X)(c:∀i v,p=Y (i,v)->∀r∈rs,r.dst≠Y i)(e:K9 N p a)(f:Bs F0 w0 O a w)(h:wpOps (AV P) K rs O)
  (g:∀O a w,K O->K9 N p a->Bs F0 w0 O a w->Q .normal a w):(Code.region id ops T).wp P Q a w:=by
 refine Go.wp_region ?_;rw[List.range_eq_range',<-Array.length_toList];exact Xm g ops.toList rs 0 rfl b c O a w e f h
end
end Go.Sf
