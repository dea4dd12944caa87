/- One operation against the checker, and regions in the text's order. -/
import Derived.Test.YtbmgmpeimdomoaaGreatSfN
import Derived.Orders
set_option linter.all false
open Option renaming some->Y
open Bool renaming true->X,false->T
open Option renaming isNone_iff_eq_none->w!
open Bool renaming not_eq_true'->w?
open Array renaming getD_eq_getD_getElem?->x_,getElem?_eq_getElem->x!
namespace Go.Sf
open Go.RowKit (Below)
def Operand.Aak(n:Nat):Operand->Bool
 |.tmp m=>m==n|_=>T
variable{n:Nat}{x:Operand}
theorem Operand.kl(h:Operand.Aak n x=X):x=.tmp n:=by
 cases x<;>simp[Operand.Aak]at h;rw[h]
def Xs:Operand->Bool
 |.const v=>Mw v|_=>T
theorem Rr(h:Xs x=X):∃v,x=.const v/\Mw v=X:=by
 cases x<;>simp[Xs]at h;exact⟨_,rfl,h⟩
def Vo(P:Program)(str:Bool)(c:Call)(x:AF):Bool:=
 match c.callee,c.args.toList,c.argTypes.toList with
 |.builtin .len,[y],[t]=>AK y x&&(match P.underlying t with|some (.slice _)=>!str|some .string=>str|_=>T)
 |_,_,_=>T
def Vm(P:Program)(n:Nat)(c:Call)(x y:AF):Bool:=
 match c.callee,c.args.toList,c.argTypes.toList,x with
 |.builtin .append,[p,q],[t,t'],.s s=>Operand.Aak s p&&AK q y&&t==t'&&(match P.underlying t with
  |some (.slice e)=>(match P.info? e with
   |some i=>(match i.zero with|some z=>i.size==n&&decide (i.bytes<=4096)&&z.cells.size==n&&decide (0<n)|none=>T)
   |none=>T)
  |_=>T)
 |_,_,_,_=>T
def uy(mx:Bool)(c:Call)(x y:AF):Bool:=
 match c.callee,c.args.toList with
 |.builtin .max,[p,q]=>mx&&AK p x&&AK q y|.builtin .min,[p,q]=>!mx&&AK p x&&AK q y|_,_=>T
def QW(P:Program)(o:Op):AE->Bool
 |.mv x=>match o with|.move y|.assign y=>AK y x|_=>T
 |.tk s=>match o with|.move y|.assign y=>Operand.Aak s y|_=>T
 |.Abo _=>match o with|.move y|.assign y=>Xs y|_=>T
 |.fad x k=>match o with|.fieldAddr t y f=>AK y x&&P1 P t f==Y k|.move y|.assign y|.nilCheck y=>k==0&&AK y x|_=>T
 |.bad s k=>match o with|.indexAddr t y j=>Operand.Aak s y&&jA P t j k|.fieldAddr t y f=>Operand.Aak s y&&P1 P t f==Y k|.move y|.assign y|.nilCheck y=>k==0&&Operand.Aak s y|_=>T
 |.iad x i n=>match o with|.indexAddr t y j=>AK y x&&AK j i&&I3 P t==Y n|_=>T
 |.aad x i n k=>match o with|.indexAddr t y j=>AK y x&&AK j i&&(match P.underlying t with|some (.array k' e)=>k'==k&&C7 P e==Y n|_=>T)|_=>T
 |.ld x=>match o with|.load t y=>AK y x&&B9 P t==Y T|_=>T
 |.fdv x k=>match o with|.fieldAddr t y f=>AK y x&&P1 P t f==Y k|_=>T
 |.ldv x n=>match o with|.load t y=>AK y x&&B9 P t==Y X&&C7 P t==Y n|_=>T
 |.lda x n=>match o with|.load t y=>AK y x&&B9 P t==Y X&&C7 P t==Y n|_=>T
 |.ldb s n=>match o with|.load t y=>AK y (.s s)&&B9 P t==Y X&&C7 P t==Y n|_=>T
 |.ldt x=>match o with|.load t y=>AK y x&&B9 P t==Y T|_=>T
 |.bin k op x y=>match o with|.binOp op' t p q _=>op'==op&&OW P k t&&AK p x&&AK q y|_=>T
 |.not x=>match o with|.unOp op _ y=>op==.not&&AK y x|_=>T
 |.neg x=>match o with|.unOp op _ y=>op==.neg&&AK y x|_=>T
 |.pick c x y=>match o with|.pick c' p q=>AK c' c&&AK p x&&AK q y|_=>T
 |.len x=>match o with|.call c=>Vo P T c x|_=>T
 |.AbB x=>match o with|.call c=>Vo P X c x|_=>T
 |.slc n x lo hi=>match o with|.slice t y l h mx=>mx.isNone&&AK y x&&OY l lo&&OY h hi&&I3 P t==Y n|_=>T
 |.Aau x lo hi=>match o with|.slice t y l h mx=>mx.isNone&&AK y x&&OY l lo&&OY h hi&&(match P.underlying t with|some .string=>X|_=>T)|_=>T
 |.bld z ps=>match o with|.build t qs=>jB P t z qs.toList ps|_=>T
 |.lst n ys=>match o with
  |.buildSlice t len ps=>(match P.underlying t with
   |some (.slice e)=>(match P.info? e with
    |some i=>(match i.zero with
     |some z=>i.size==n&&decide (0<n)&&z.cells.toList.all Value.oneCell'&&decide (0<z.cells.size)&&len==ps.size&&decide (len*n<=2^ 24)&&TW 0 ps.toList ys|none=>T)
    |none=>T)
   |_=>T)
  |_=>T
 |.app n x y=>match o with|.call c=>Vm P n c x y|_=>T
 |.call f ys=>match o with|.call c=>(match c.callee with|.value (.func g)=>g==f&&Be c.args.toList ys|_=>T)|_=>T
 |.Abi x ys=>match o with|.call c=>(match c.callee with|.value g=>AK g x&&Be c.args.toList ys|_=>T)|_=>T
 |.clo f cs=>match o with|.makeFunc (.func g) first xs=>g==f&&first.size==0&&Be xs.toList cs|_=>T
 |.ext x i=>match o,x with|.extract y j,.s s=>Operand.Aak s y&&j==i|_,_=>T
 |.cvt k x=>match o with|.convert s t y=>AK y x&&(match P.underlying s,P.underlying t with|some (.int _),Y (.int k')=>k'==k|_,_=>T)|_=>T
 |.Aas x i=>match o with|.index t y j=>AK y x&&AK j i&&(match P.underlying t with|some .string=>X|_=>T)|_=>T
 |.Abp x=>match o with|.box _ y=>AK y x|_=>T
 |.Abv x=>match o with|.box _ y=>AK y x|_=>T
 |.mm mx x y=>match o with|.call c=>uy mx c x y|_=>T
 |.alc cs=>match o with|.alloc t=>(match P.info? t with|some i=>(match i.zero with|some z=>PJ cs z.cells.toList|none=>T)|none=>T)|_=>T
 |.st n x v=>match o with|.store t y u=>AK y x&&AK u v&&C7 P t==Y n|_=>T
 |.stb n s v=>match o with|.store t y u=>Operand.Aak s y&&AK u v&&C7 P t==Y n|_=>T
 |.frz _=>T|.AbA x k n agg=>match o with|.field t y f=>AK y x&&jC P t f k n agg|_=>T
 |.xal s=>match o with|.move y|.assign y=>Operand.Aak s y|_=>T
 |.Abu x=>match o with|.call c=>Vo P T c x|_=>T
 |.xia x i n=>match o with|.indexAddr t y j=>AK y x&&AK j i&&I3 P t==Y n|_=>T
 |.xin x i n=>match o with|.indexAddr t y j=>AK y x&&AK j i&&I3 P t==Y n|_=>T
 |.xln x=>match o with|.load t y=>AK y x&&B9 P t==Y T|_=>T
 |.xfa x k=>match o with|.fieldAddr t y f=>AK y x&&P1 P t f==Y k|_=>T
 |.xld x=>match o with|.load t y=>AK y x&&B9 P t==Y T|_=>T
 |.xst x v k=>match o with|.store t y u=>AK y x&&AK u v&&C7 P t==Y k|_=>T
 |.rel s=>match o with|.move y|.assign y=>Operand.Aak s y|_=>T
 |.Abd _=>match o with|.move y|.assign y=>Xs y|_=>T
 |.tkx s=>match o with|.move y|.assign y=>Operand.Aak s y|_=>T
 |.Aa7 n s y=>match o with|.call c=>Vm P n c (.s s) y|_=>T
 |.AaB f ys=>match o with|.call c=>(match c.callee with|.value (.func g)=>g==f&&Be c.args.toList ys|_=>T)|_=>T
 |.mko n zero x=>match o with|.makeSlice t y z=>AK y x&&AK z x&&cY P t n zero|_=>T
 |.mkx n zero x=>match o with|.makeSlice t y z=>AK y x&&AK z x&&cY P t n zero|_=>T
 |.Aay f x ys=>match o with|.call c=>(match c.callee,c.args.toList with|.value (.func g),y::zs=>g==f&&(AK y x&&Be zs ys)|_,_=>T)|_=>T
 |.AaR f x=>match o with|.call c=>(match c.callee,c.args.toList with|.value (.func g),[y]=>g==f&&AK y x|_,_=>T)|_=>T
 |.Abg n=>match o with|.buildSlice t len ps=>len==0&&ps.isEmpty&&cX P t n|_=>T
 |.x9 gs=>match o with|.build t ps=>cU P t ps.toList gs|_=>T
 |.stx n s q=>match o with|.store t y u=>AK y (.s s)&&AK u (.s q)&&C7 P t==Y n|_=>T
 |.Aa3 f ys=>match o with|.call c=>(match c.callee with|.value (.func g)=>g==f&&Be c.args.toList ys|_=>T)|_=>T
 |.Aax f ys=>match o with|.call c=>(match c.callee with|.value (.func g)=>g==f&&Be c.args.toList ys|_=>T)|_=>T
 |.isn x=>match o with|.binOp op t y z _=>op==.eql&&AK y x&&Sl z&&aX P t|_=>T
 |.lac x=>match o with|.load t y=>AK y x&&B9 P t==Y T|_=>T
 |.ctk x=>match o with|.load t y=>AK y x&&B9 P t==Y T|_=>T
 |.cpt x q=>match o with|.store t y u=>AK y x&&AK u (.s q)&&C7 P t==Y 1|_=>T
 |.cut n s hi=>match o with|.slice t y l (Y h) mx=>mx.isNone&&l.isNone&&Operand.Aak s y&&AK h hi&&I3 P t==Y n|_=>T
 |.AaH f ys=>match o with|.call c=>(match c.callee with|.value (.func g)=>g==f&&Be c.args.toList ys|_=>T)|_=>T
 |.Abj _ x=>match o with|.box _ y=>AK y x|_=>T
 |.Aa2 f ys=>match o with|.call c=>(match c.callee with|.value (.func g)=>g==f&&Be c.args.toList ys|_=>T)|_=>T
 |.Abe n s z x=>match o with|.call c=>lO P n s z x c|_=>T
 |.Aad f ys _=>match o with|.call c=>(match c.callee with|.value (.func g)=>g==f&&Be c.args.toList ys|_=>T)|_=>T
 |.Abn q=>match o with|.buildSlice t len ps=>(match len,ps.toList with|1,[(0,x)]=>cW P t&&AK x (.s q)|_,_=>T)|_=>T
 |.AaG s q=>match o with|.call c=>Vm P 1 c (.s s) (.s q)|_=>T
 |.lan x=>match o with|.load t y=>AK y x&&B9 P t==Y T|_=>T
 |.nia x i=>match o with|.indexAddr t y j=>AK y x&&AK j i&&I3 P t==Y 1|_=>T
 |.nld x=>match o with|.load t y=>AK y x&&B9 P t==Y T|_=>T
 |.nst x v=>match o with|.store t y u=>AK y x&&AK u v&&C7 P t==Y 1|_=>T
 |.Abx q=>match o with|.box _ y=>AK y (.s q)|_=>T
 |.AaI f ys _=>match o with|.call c=>(match c.callee with|.value (.func g)=>g==f&&Be c.args.toList ys|_=>T)|_=>T
 |.ldg s n=>match o with|.load t y=>Operand.Aak s y&&B9 P t==Y X&&C7 P t==Y n|_=>T
 |.stq n _ x v=>match o with|.store t y u=>AK y x&&AK u v&&C7 P t==Y n|_=>T
 |.mkm=>match o with|.makeMap _ r=>r.isNone|_=>T
 |.mvm s=>match o with|.move y|.assign y=>Operand.Aak s y|_=>T
 |.AaA f ys=>match o with|.call c=>(match c.callee with|.value (.func g)=>g==f&&Be c.args.toList ys|_=>T)|_=>T
 |.mlk _ m x=>match o with|.lookup t y z c=>c&&P9 P t&&AK y m&&AK z x|_=>T
 |.mup _ m x v=>match o with|.mapUpdate t y z u=>P9 P t&&AK y m&&AK z x&&AK u v|_=>T
 |.r0 _ m=>match o with|.range t y=>AK y m&&(match P.underlying t with|some (.map _ _)=>X|_=>T)|_=>T
 |.mnx s=>match o with|.next y c=>!c&&Operand.Aak s y|_=>T
 |.men s=>match o with|.entry y=>Operand.Aak s y|_=>T
def Nr:AE->Bool
 |.st ..=>X|.stb ..=>X|.xst ..=>X|.stx ..=>X|.cpt ..=>X|.nst ..=>X|.mup ..=>X|.stq ..=>X|_=>T
section
variable{P:Program}{F0:Nat->Nat->Prop}{w0:W0}{ε:AB}{a:Act}{w:World}{G:BR}{d:Nat}{o:Oper}{K:EV->AB->Prop}
theorem A1.wp(h:A1 P F0 w0 a w o d K)(b:o.dst=Y d){next:Act->World->Prop}{Q:Exit->Act->World->Prop}(f:∀e env' a' w',K e env'->Q7 a d a'->Bt F0 w0 ((d,e)::env') a' w'->next a' w'):o.wp P a w next Q:=by
 obtain ⟨v,w',c,e,env',g,i⟩:=h;unfold Oper.wp;rw[c,Oper.upon_value,b];exact f e env' _ w' g ⟨_,rfl⟩ i
variable{α:Type}
theorem Gu{a:Array α}{x:α}(h:a.toList=[x]):a=#[x]:=by
 cases a;simp_all
theorem Fu{a:Array α}{x y:α}(h:a.toList=[x,y]):a=#[x,y]:=by
 cases a;simp_all
theorem DF{c:Call}{b:Callee}{e:Array Operand}{f:Array TypeId}(g:c.callee=b)(h:c.args=e)(i:c.argTypes=f):c={callee:=b,args:=e,argTypes:=f}:=by
 cases c;simp_all
theorem oL(A:AP F0 w0 ε a w G)(hd:d<a.tmps.size)(u:o.dst=Y d){p:AE}(b:QW P o.op p=X)(M:Nr p=T)(h:p.wp (AS P) ε (Y d) K)
  {next:Act->World->Prop}{Q:Exit->Act->World->Prop}(B:∀e env' a' w',K e env'->Q7 a d a'->Bt F0 w0 ((d,e)::env') a' w'->next a' w'):o.wp P a w next Q:=by
 cases p<;>simp only[QW]at b<;>try(exact absurd b Bool.false_ne_true)
 case mv x=>
  split at b
  next y e=>exact(gc A hd (.inl e) b h).wp u B
  next y e=>exact(gc A hd (.inr e) b h).wp u B
  .cases b
 case tk s=>
  split at b
  next y e=>rw[Operand.kl b]at e;exact(gj A hd (.inl e) h).wp u B
  next y e=>rw[Operand.kl b]at e;exact(gj A hd (.inr e) h).wp u B
  .cases b
 case Abo n=>
  split at b
  next y e=>exact(aA A hd (.inl e) (Rr b) h).wp u B
  next y e=>exact(aA A hd (.inr e) (Rr b) h).wp u B
  .cases b
 case fad x k=>
  split at b
  next t y f e=>simp only[gN,beq_iff_eq]at b;exact(RW A hd (Yj e b.2) b.1 h).wp u B
  next y e=>simp only[gN,beq_iff_eq]at b;obtain⟨rfl,b⟩:=b;exact(RW A hd (Qz (.inl e)) b h).wp u B
  next y e=>simp only[gN,beq_iff_eq]at b;obtain⟨rfl,b⟩:=b;exact(RW A hd (Qz (.inr (.inl e))) b h).wp u B
  next y e=>simp only[gN,beq_iff_eq]at b;obtain⟨rfl,b⟩:=b;exact(RW A hd (Qz (.inr (.inr e))) b h).wp u B
  .cases b
 case bad s k=>
  split at b
  next t y j e=>simp only[gN]at b;rw[Operand.kl b.1]at e;exact(RU A hd (rK e b.2) h).wp u B
  next t y f e=>simp only[gN,beq_iff_eq]at b;rw[Operand.kl b.1]at e;exact(RU A hd (Yj e b.2) h).wp u B
  next y e=>simp only[gN,beq_iff_eq]at b;obtain⟨rfl,b⟩:=b;rw[Operand.kl b]at e;exact(RU A hd (Qz (.inl e)) h).wp u B
  next y e=>simp only[gN,beq_iff_eq]at b;obtain⟨rfl,b⟩:=b;rw[Operand.kl b]at e;exact(RU A hd (Qz (.inr (.inl e))) h).wp u B
  next y e=>simp only[gN,beq_iff_eq]at b;obtain⟨rfl,b⟩:=b;rw[Operand.kl b]at e;exact(RU A hd (Qz (.inr (.inr e))) h).wp u B
  .cases b
 case iad x i n=>
  split at b
  next t y j e=>simp only[gN,beq_iff_eq]at b;exact(pT A hd e b.1.1 b.1.2 b.2 h).wp u B
  .cases b
 case aad x i n k=>
  split at b
  .rename_i t y j e;simp only[gN]at b;obtain⟨⟨C,D⟩,E⟩:=b;split at E
   next k' el J=>simp only[gN,beq_iff_eq]at E;obtain⟨rfl,H⟩:=E;exact(pH A hd e C D J H h).wp u B
   .cases E
  .cases b
 case ld x=>
  split at b
  next t y e=>simp only[gN,beq_iff_eq]at b;exact(tI A hd e b.1 b.2 h).wp u B
  .cases b
 case fdv x k=>
  split at b
  .rename_i t y f e;simp only[gN,beq_iff_eq]at b;refine(RW (S:=AS P) A hd (Yj e b.2) b.1 ?_).wp u B;simp only[AE.wp]at h|-;split at h
   next row Z=>rw[nA A Z];exact h
   .exact h.elim
  .cases b
 case ldv x n=>
  split at b
  .rename_i t y e;simp only[gN,beq_iff_eq]at b;refine(XE (S:=AS P) A hd e b.1.1 b.1.2 b.2 ?_).wp u B;simp only[AE.wp]at h|-;split at h
   next row Z=>rw[nA A Z];exact h
   .exact h.elim
  .cases b
 case lda x n=>
  split at b
  next t y e=>simp only[gN,beq_iff_eq]at b;exact(XE A hd e b.1.1 b.1.2 b.2 h).wp u B
  .cases b
 case ldb s n=>
  split at b
  .rename_i t y e;simp only[gN,beq_iff_eq]at b;refine(XE (S:=AS P) A hd e b.1.1 b.1.2 b.2 (y:=.s s) ?_).wp u B;simp only[AE.wp]at h|-;split at h
   next cs I=>simp only[AF.ev,I,A7,Ai];exact h
   .exact h.elim
  .cases b
 case ldt x=>
  split at b
  next t y e=>simp only[gN,beq_iff_eq]at b;exact(pY A hd e b.1 b.2 h).wp u B
  .cases b
 case bin k op x y=>
  split at b
  next op' t p q δ e=>simp only[gN,beq_iff_eq]at b;obtain⟨⟨⟨rfl,C⟩,D⟩,E⟩:=b;exact(pK A hd e C D E h).wp u B
  .cases b
 case not x=>
  split at b
  next op t y e=>simp only[gN,beq_iff_eq]at b;obtain⟨rfl,C⟩:=b;exact(p6 A hd e C h).wp u B
  .cases b
 case neg x=>
  split at b
  next op t y e=>simp only[gN,beq_iff_eq]at b;obtain⟨rfl,C⟩:=b;exact(py A hd e C h).wp u B
  .cases b
 case pick c x y=>
  split at b
  next c' p q e=>simp only[gN]at b;exact(mn A hd e b.1.1 b.1.2 b.2 h).wp u B
  .cases b
 case len x=>
  split at b
  .rename_i c e;unfold Vo at b;split at b
   .rename_i y t C D E;simp only[gN]at b;obtain⟨H,L⟩:=b;split at L
    next el J=>rw[DF C (Gu D) (Gu E)]at e;exact(pZ A hd e H J h).wp u B
    .cases L
    .cases L
   .cases b
  .cases b
 case AbB x=>
  split at b
  .rename_i c e;unfold Vo at b;split at b
   .rename_i y t C D E;simp only[gN]at b;obtain⟨H,L⟩:=b;split at L
    .cases L
    next J=>rw[DF C (Gu D) (Gu E)]at e;exact(mr A hd e H J h).wp u B
    .cases L
   .cases b
  .cases b
 case slc n x lo hi=>
  split at b
  next t y l hh mx e=>simp only[gN,beq_iff_eq,w!]at b;obtain⟨⟨⟨⟨rfl,C⟩,D⟩,E⟩,H⟩:=b;exact(p8 A hd e C D E H h).wp u B
  .cases b
 case Aau x lo hi=>
  split at b
  .rename_i t y l hh mx e;simp only[gN,w!]at b;obtain⟨⟨⟨⟨rfl,C⟩,D⟩,E⟩,H⟩:=b;split at H
   next J=>exact(mt A hd e C D E J h).wp u B
   .cases H
  .cases b
 case bld z ζ=>
  split at b
  next t qs e=>exact(pL A hd e b h).wp u B
  .cases b
 case lst n ys=>
  split at b
  .rename_i t len ζ e;split at b
   .rename_i el J;split at b
    .rename_i i hi;split at b
     next z R=>simp only[gN,beq_iff_eq,pE]at b;obtain⟨⟨⟨⟨⟨⟨C,D⟩,E⟩,H⟩,L⟩,F⟩,θ⟩:=b;exact(pf A hd e J hi R C D E H L F θ h).wp u B
     .cases b
    .cases b
   .cases b
  .cases b
 case app n x y=>
  split at b
  .rename_i c e;unfold Vm at b;split at b
   .rename_i p q t δ s C D E;simp only[gN,beq_iff_eq]at b;obtain⟨⟨⟨H,L⟩,rfl⟩,F⟩:=b;split at F
    .rename_i el J;split at F
     .rename_i i hi;split at F
      next z R=>simp only[gN,beq_iff_eq,pE]at F;obtain⟨⟨⟨θ,κ⟩,η⟩,O⟩:=F;rw[DF C (Fu D) (Fu E),Operand.kl H]at e;exact(pJ A hd e J hi R θ κ η O L h).wp u B
      .cases F
     .cases F
    .cases F
   .cases b
  .cases b
 case call f ys=>
  split at b
  .rename_i c e;split at b
   next g I=>simp only[gN,beq_iff_eq]at b;obtain⟨rfl,C⟩:=b;rw[DF I rfl rfl]at e;exact mf A hd u e C h B
   .cases b
  .cases b
 case Abi x ys=>
  split at b
  .rename_i c e;split at b
   next g I=>simp only[gN]at b;rw[DF I rfl rfl]at e;exact jv A hd u e b.1 b.2 h B
   .cases b
  .cases b
 case clo f cs=>
  split at b
  .rename_i g first xs e
   simp only[gN,beq_iff_eq]at b;obtain⟨⟨rfl,C⟩,D⟩:=b;rw[Array.eq_empty_of_size_eq_zero C]at e;exact(pM A hd e D h).wp u B
  .cases b
 case ext x i=>
  split at b
  next y j s e=>simp only[gN,beq_iff_eq]at b;obtain⟨C,rfl⟩:=b;rw[Operand.kl C]at e;exact(pS A hd e h).wp u B
  .cases b
 case cvt k x=>
  split at b
  .rename_i s t y e;simp only[gN]at b;obtain⟨C,D⟩:=b;split at D
   next k1 k2 hs ht=>simp only[beq_iff_eq]at D;subst D;exact(pR A hd e hs ht C h).wp u B
   .cases D
  .cases b
 case Aas x i=>
  split at b
  .rename_i t y j e;simp only[gN]at b;obtain⟨⟨C,D⟩,E⟩:=b;split at E
   next J=>exact(mq A hd e C D J h).wp u B
   .cases E
  .cases b
 case Abp x=>
  split at b
  next t y e=>exact(md A hd e b h).wp u B
  .cases b
 case Abv x=>
  split at b
  next t y e=>exact(mb A hd e b h).wp u B
  .cases b
 case mm mx x y=>
  split at b
  .rename_i c e;unfold uy at b;split at b
   next p q C D=>simp only[gN]at b;obtain⟨⟨rfl,E⟩,H⟩:=b;rw[DF C (Fu D) rfl]at e;exact(gZ (mx:=X) A hd e E H h).wp u B
   next p q C D=>simp only[gN,w?]at b;obtain⟨⟨rfl,E⟩,H⟩:=b;rw[DF C (Fu D) rfl]at e;exact(gZ (mx:=T) A hd e E H h).wp u B
   .cases b
  .cases b
 case alc cs=>
  split at b
  .rename_i t e;split at b
   .rename_i i hi;split at b
    next z R=>exact(pI A hd e hi R b h).wp u B
    .cases b
   .cases b
  .cases b
 case st n x v=>cases M
 case stb n s v=>cases M
 case AbA x k n agg=>
  split at b
  next t y f e=>simp only[gN]at b;exact(mg A hd e b.1 b.2 h).wp u B
  .cases b
 case xal s=>
  split at b
  next y e=>rw[Operand.kl b]at e;exact(dg A hd (.inl e) h).wp u B
  next y e=>rw[Operand.kl b]at e;exact(dg A hd (.inr e) h).wp u B
  .cases b
 case rel s=>
  split at b
  next y e=>rw[Operand.kl b]at e;exact(Tm A hd (.inl e) h).wp u B
  next y e=>rw[Operand.kl b]at e;exact(Tm A hd (.inr e) h).wp u B
  .cases b
 case tkx s=>
  split at b
  next y e=>rw[Operand.kl b]at e;exact(df A hd (.inl e) h).wp u B
  next y e=>rw[Operand.kl b]at e;exact(df A hd (.inr e) h).wp u B
  .cases b
 case Abd n=>
  split at b
  next y e=>exact(aB A hd (.inl e) (Rr b) h).wp u B
  next y e=>exact(aB A hd (.inr e) (Rr b) h).wp u B
  .cases b
 case Abu x=>
  split at b
  .rename_i c e;unfold Vo at b;split at b
   .rename_i y t C D E;simp only[gN]at b;obtain⟨H,L⟩:=b;split at L
    next el J=>rw[DF C (Gu D) (Gu E)]at e;exact(mu A hd e H J h).wp u B
    .cases L
    .cases L
   .cases b
  .cases b
 case xia x i n=>
  split at b
  next t y j e=>simp only[gN,beq_iff_eq]at b;exact(dh A hd e b.1.1 b.1.2 b.2 h).wp u B
  .cases b
 case xfa x k=>
  split at b
  next t y f e=>simp only[gN,beq_iff_eq]at b;exact(qB A hd e b.1 b.2 h).wp u B
  .cases b
 case xin x i n=>
  split at b
  next t y j e=>simp only[gN,beq_iff_eq]at b;exact(dh A hd e b.1.1 b.1.2 b.2 (tT h)).wp u B
  .cases b
 case xln x=>
  split at b
  next t y e=>simp only[gN,beq_iff_eq]at b;exact(di A hd e b.1 b.2 (tU h)).wp u B
  .cases b
 case xld x=>
  split at b
  next t y e=>simp only[gN,beq_iff_eq]at b;exact(di A hd e b.1 b.2 h).wp u B
  .cases b
 case xst x v k=>cases M
 case Aa7 n s y=>
  split at b
  .rename_i c e;unfold Vm at b;split at b
   .rename_i p q t δ s' C D E h0;simp only[AF.s.injEq]at h0;subst h0;simp only[gN,beq_iff_eq]at b;obtain⟨⟨⟨H,L⟩,rfl⟩,F⟩:=b;split at F
    .rename_i el J;split at F
     .rename_i i hi;split at F
      next z R=>simp only[gN,beq_iff_eq,pE]at F;obtain⟨⟨⟨θ,κ⟩,η⟩,O⟩:=F;rw[DF C (Fu D) (Fu E),Operand.kl H]at e;exact(mX A hd e J hi R θ κ η O L h).wp u B
      .cases F
     .cases F
    .cases F
   .cases b
  .cases b
 case AaB f ys=>
  split at b
  .rename_i c e;split at b
   next g I=>simp only[gN,beq_iff_eq]at b;obtain⟨rfl,C⟩:=b;rw[DF I rfl rfl]at e;exact jw A hd u e C h B
   .cases b
  .cases b
 case mko n zero x=>
  split at b
  next t y z e=>simp only[gN]at b;exact(pj A hd e b.1.1 b.1.2 b.2 h).wp u B
  .cases b
 case mkx n zero x=>
  split at b
  next t y z e=>simp only[gN]at b;exact(gY A hd e b.1.1 b.1.2 b.2 h).wp u B
  .cases b
 case Aay f x ys=>
  split at b
  .rename_i c e;split at b
   next g y zs I ha=>simp only[gN,beq_iff_eq]at b;obtain⟨rfl,C,D⟩:=b;rw[DF I (show c.args=(y::zs).toArray by rw[<-ha]) rfl]at e;exact jr A hd u e C D h B
   .cases b
  .cases b
 case AaR f x=>
  split at b
  .rename_i c e;split at b
   next g y I ha=>simp only[gN,beq_iff_eq]at b;obtain⟨rfl,C⟩:=b;rw[DF I (Gu ha) rfl]at e;exact jn A hd u e C h B
   .cases b
  .cases b
 case Abg n=>
  split at b
  next t len ζ e=>simp only[gN,beq_iff_eq,Array.isEmpty_iff]at b;obtain⟨⟨rfl,rfl⟩,C⟩:=b;exact(mj A hd e C h).wp u B
  .cases b
 case x9 gs=>
  split at b
  next t ζ e=>exact(mZ A hd e b h).wp u B
  .cases b
 case stx n s q=>cases M
 case cpt x q=>cases M
 case lac x=>
  split at b
  next t y e=>simp only[gN,beq_iff_eq]at b;exact(pV A hd e b.1 b.2 h).wp u B
  .cases b
 case ctk x=>
  split at b
  next t y e=>simp only[gN,beq_iff_eq]at b;exact(pP A hd e b.1 b.2 h).wp u B
  .cases b
 case cut n s hi=>
  split at b
  next t y l hh mx e=>simp only[gN,beq_iff_eq,w!]at b;obtain⟨⟨⟨⟨rfl,rfl⟩,C⟩,D⟩,E⟩:=b;rw[Operand.kl C]at e;exact(pQ A hd e D E h).wp u B
  .cases b
 case AaH f ys=>
  split at b
  .rename_i c e;split at b
   next g I=>simp only[gN,beq_iff_eq]at b;obtain⟨rfl,C⟩:=b;rw[DF I rfl rfl]at e;exact jq A hd u e C h B
   .cases b
  .cases b
 case Aad f ys i=>
  split at b
  .rename_i c e;split at b
   next g I=>simp only[gN,beq_iff_eq]at b;obtain⟨rfl,C⟩:=b;rw[DF I rfl rfl]at e;exact jm A hd u e C h B
   .cases b
  .cases b
 case Aa2 f ys=>
  split at b
  .rename_i c e;split at b
   next g I=>simp only[gN,beq_iff_eq]at b;obtain⟨rfl,C⟩:=b;rw[DF I rfl rfl]at e;exact(jo A hd e C h).wp u B
   .cases b
  .cases b
 case Abe n s z x=>
  split at b
  .rename_i c e;unfold lO at b;split at b
   .rename_i p q t δ C D E;simp only[gN]at b;obtain⟨⟨H,L⟩,F⟩:=b;split at F
    .rename_i el kn J hu';split at F
     .rename_i i hi;split at F
      .rename_i zz R;split at F
       next z0 hz0=>simp only[gN,beq_iff_eq,pE]at F;obtain⟨⟨⟨⟨rfl,θ⟩,κ⟩,η⟩,O⟩:=F;rw[DF C (Fu D) (Fu E),Operand.isTmp_eq' H]at e;exact(mY A hd e J hu' hi R θ κ (Gu hz0) η O L h).wp u B
       .cases F
      .cases F
     .cases F
    .cases F
   .cases b
  .cases b
 case Abj ζ x=>
  split at b
  next t y e=>exact(mc A hd e b h).wp u B
  .cases b
 case Aa3 f ys=>
  split at b
  .rename_i c e;split at b
   next g I=>simp only[gN,beq_iff_eq]at b;obtain⟨rfl,C⟩:=b;rw[DF I rfl rfl]at e;exact jp A hd u e C h B
   .cases b
  .cases b
 case Aax f ys=>
  split at b
  .rename_i c e;split at b
   next g I=>simp only[gN,beq_iff_eq]at b;obtain⟨rfl,C⟩:=b;rw[DF I rfl rfl]at e;exact eh A hd u e C h B
   .cases b
  .cases b
 case isn x=>
  split at b
  next op t y z δ e=>simp only[gN,beq_iff_eq]at b;obtain⟨⟨⟨rfl,C⟩,D⟩,E⟩:=b;exact(pU A hd e C D E h).wp u B
  .cases b
 case Abn q=>
  split at b
  .rename_i t len ζ e;split at b
   next x hps=>simp only[gN]at b;rw[Gu hps]at e;exact(mh A hd e b.1 b.2 h).wp u B
   .cases b
  .cases b
 case AaG s q=>
  split at b
  .rename_i c e;unfold Vm at b;split at b
   .rename_i p q' t δ s' C D E H;simp only[AF.s.injEq]at H;subst H;simp only[gN,beq_iff_eq]at b;obtain⟨⟨⟨H,L⟩,rfl⟩,F⟩:=b;split at F
    .rename_i el J;split at F
     .rename_i i hi;split at F
      .rename_i z R;simp only[gN,beq_iff_eq,pE]at F;obtain⟨⟨⟨θ,κ⟩,η⟩,O⟩:=F;have hq:q'=.tmp q:=by
        cases q'<;>simp[AK]at L;rw[L]
       rw [DF C (Fu D) (Fu E),Operand.kl H,hq]at e;exact(mW A hd e J hi R θ κ η h).wp u B
      .cases F
     .cases F
    .cases F
   .cases b
  .cases b
 case lan x=>
  split at b
  next t y e=>simp only[gN,beq_iff_eq]at b;exact(pW A hd e b.1 b.2 h).wp u B
  .cases b
 case nia x i=>
  split at b
  next t y j e=>simp only[gN,beq_iff_eq]at b;exact(pz A hd e b.1.1 b.1.2 b.2 h).wp u B
  .cases b
 case nld x=>
  split at b
  next t y e=>simp only[gN,beq_iff_eq]at b;exact(p5 A hd e b.1 b.2 h).wp u B
  .cases b
 case nst x v=>cases M
 case Abx q=>
  split at b
  next t y e=>exact(ma A hd e b h).wp u B
  .cases b
 case AaI f ys i=>
  split at b
  .rename_i c e;split at b
   next g I=>simp only[gN,beq_iff_eq]at b;obtain⟨rfl,C⟩:=b;rw[DF I rfl rfl]at e;exact jk A hd u e C h B
   .cases b
  .cases b
 case mkm=>
  split at b
  .rename_i t r e;cases r with
   |none=>exact(pi A hd e h).wp u B|some r=>cases b
  .cases b
 case mvm s=>
  split at b
  next y e=>rw[Operand.kl b]at e;exact(de A hd (.inl e) h).wp u B
  next y e=>rw[Operand.kl b]at e;exact(de A hd (.inr e) h).wp u B
  .cases b
 case AaA f ys=>
  split at b
  .rename_i c e;split at b
   next g I=>simp only[gN,beq_iff_eq]at b;obtain⟨rfl,C⟩:=b;rw[DF I rfl rfl]at e;exact ju A hd u e C h B
   .cases b
  .cases b
 case mlk s m x=>
  split at b
  next t y z c e=>simp only[gN]at b;obtain⟨⟨⟨rfl,C⟩,D⟩,E⟩:=b;exact(pu A hd e C D E h).wp u B
  .cases b
 case mup s m x v=>cases M
 case stq n ζ x v=>cases M
 case ldg s n=>
  split at b
  next t y e=>simp only[gN,beq_iff_eq]at b;rw[Operand.kl b.1.1]at e;exact(pX A hd e b.1.2 b.2 h).wp u B
  .cases b
 case r0 s m=>
  split at b
  .rename_i t y e;simp only[gN]at b;obtain⟨C,D⟩:=b;split at D
   next k el J=>exact(pw A hd e C J h).wp u B
   .cases D
  .cases b
 case mnx s=>
  split at b
  next y c e=>simp only[gN,w?]at b;obtain⟨rfl,C⟩:=b;rw[Operand.kl C]at e;exact(pv A hd e h).wp u B
  .cases b
 case men s=>
  split at b
  next y e=>rw[Operand.kl b]at e;exact(ph A hd e h).wp u B
  .cases b
end
end Go.Sf
namespace Go.Sf
open Go.RowKit (Below)
def Vn(ops:Array Oper)(o:Oper)(r:PR):Bool:=
 match r.guard,o.guard with
 |none,none=>X|some (g,b),Y (j,b')=>b==b'&&((ops[j]?).bind (·.dst))==Y g|_,_=>T
def Ll(P:Program)(N:Nat)(ops:Array Oper)(o:Oper)(r:PR):Bool:=
 Vn ops o r&&(match o.dst,r.dst with
 |some d,Y d'=>d==d'&&decide (d<N)&&!Nr r.op&&QW P o.op r.op|none,none=>Nr r.op&&QW P o.op r.op|_,_=>T)
section
variable{P:Program}{F0:Nat->Nat->Prop}{w0:W0}{ε:AB}{a:Act}{w:World}{ops:Array Oper}{o:Oper}{r:PR}{N:Nat}{p:Option (Nat×Value)}{K:AB->Prop}{next:Act->World->Prop}{Q:Exit->Act->World->Prop}
theorem Bt.skip(b:Bt F0 w0 ε a w){d:Nat}(hd:d<a.tmps.size):Bt F0 w0 ((d,.sk)::ε) (a.put (Y d) undef) w:=by
 obtain ⟨G,h⟩:=b;exact⟨_,h.quiet (Below.refl _ _) d hd .sk undef (λ_=>none) V V V rfl trivial⟩
theorem N2{o:Oper}(b:o.dst=none){K:EV->AB->Prop}(h:IB P F0 w0 a w o K)(e:∀env' w',K .undef env'->Bt F0 w0 env' a w'->next a w'):o.wp P a w next Q:=by
 obtain ⟨w',c,env',f,g⟩:=h;unfold Oper.wp;rw[c,Oper.upon_skip,b];exact e _ _ f g
theorem wM{S:FuncId->Fq->As->Prop}{n s:Nat}{v:AF}{d:Option Nat}{ε:AB}{K:EV->AB->Prop}(h:(AE.stb n s v).wp S ε d K):(AE.st n (.s s) v).wp S ε d K:=by
 simp [AE.wp]at h|-
 grind [AF.place]
theorem Wv(f:Bt F0 w0 ε a w)(D:LT N p a)(M:∀i v,p=Y (i,v)->r.dst≠Y i)(O:Ll P N ops o r=X)(h:r.wp (AS P) ε K)
  (E:∀env' a' w',K env'->LT N p a'->Bt F0 w0 env' a' w'->next a' w'):
  if Region.wanted o (yielded ops a.tmps)then o.wp P a w next Q else next (a.put o.dst undef) w:=by
 simp [Ll]at O;obtain⟨J,hd⟩:=O;have S:r.op.wp (AS P) ε r.dst (λe env'=>K (env'.put r.dst e))->o.wp P a w next Q:=by
  intro A;obtain⟨G,f⟩:=f;cases ho:o.dst with
  |some d=>
   cases B:r.dst with
   |none=>rw[ho,B]at hd;cases hd
   |some d'=>
    rw [ho,B]at hd;simp[pE,w?]at hd;obtain⟨⟨⟨rfl,I⟩,L⟩,c⟩:=hd;rw[B]at A;exact oL f (D.size▸I) ho c L A λe env' a' w' k l k3=>E _ a' w' k (D.put (λi v ζ=>by rw[<-B];exact M i v ζ) l) k3
  |none=>
   cases B:r.dst with
   |some d'=>rw[ho,B]at hd;cases hd
   |none=>
    rw [ho,B]at hd;rw[B]at A;simp at hd;obtain⟨L,c⟩:=hd;generalize ζ:r.op=p at A L c;cases p<;>simp[Nr]at L<;>first|cases L|skip
    .rename_i n x v;simp[QW]at c;split at c
     next t y u e=>simp at c;exact N2 ho (gf f e c.1.1 c.1.2 c.2 A) λenv' w' k l=>E env' a w' k D l
     .cases c
    .rename_i n s v;simp[QW]at c;split at c
     next t y u e=>simp at c;rw[Operand.kl c.1.1]at e;exact N2 ho (gf f e (x':=.s s) r! c.1.2 c.2 (wM A)) λenv' w' k l=>E env' a w' k D l
     .cases c
    .rename_i x v;simp[QW]at c;split at c
     next t y u e=>simp at c;exact N2 ho (qC f e c.1.1 c.1.2 c.2 A) λenv' w' k l=>E env' a w' k D l
     .cases c
    .rename_i n x q;simp[QW]at c;split at c
     next t y u e=>simp at c;exact N2 ho (qA f e c.1.1 c.1.2 c.2 A) λenv' w' k l=>E env' a w' k D l
     .cases c
    .rename_i x q;simp[QW]at c;split at c
     next t y u e=>simp at c;exact N2 ho (pO f e c.1.1 c.1.2 c.2 A) λenv' w' k l=>E env' a w' k D l
     .cases c
    .rename_i x v;simp[QW]at c;split at c
     next t y u e=>simp at c;exact N2 ho (p7 f e c.1.1 c.1.2 c.2 A) λenv' w' k l=>E env' a w' k D l
     .cases c
    .rename_i n ps x v;simp[QW]at c;split at c
     next t y u e=>simp at c;exact N2 ho (p9 f e c.1.1 c.1.2 c.2 A) λenv' w' k l=>E env' a w' k D l
     .cases c
    .rename_i s m x v;simp[QW]at c;split at c
     next t y z u e=>simp at c;exact N2 ho (px f e c.1.1.1 c.1.1.2 c.1.2 c.2 A) λenv' w' k l=>E env' a w' k D l
     .cases c
 have θ:K (ε.put r.dst .sk)->next (a.put o.dst undef) w:=by
  intro δ;cases ho:o.dst with
  |some d=>
   cases B:r.dst with
   |none=>rw[ho,B]at hd;cases hd
   |some d'=>
    rw [ho,B]at hd;simp[pE,w?]at hd;obtain⟨⟨⟨rfl,I⟩,L⟩,c⟩:=hd;rw[B]at δ;exact E _ _ _ δ (D.put (λi v ζ=>by rw[<-B];exact M i v ζ) ⟨_,rfl⟩) (f.skip (D.size▸I))
  |none=>
   cases B:r.dst with
   |some d'=>rw[ho,B]at hd;cases hd
   |none=>rw[B]at δ;exact E _ _ _ δ D f
 unfold PR.wp at h;cases F:r.guard with
 |none=>
  rw [F]at h;cases C:o.guard with
  |none=>rw[Ne (by simp[Region.wanted,C])];exact S h|some g=>rw[Vn,F,C]at J;cases J
 |some gb=>
  obtain ⟨g,b⟩:=gb;rw[F]at h;cases C:o.guard with
  |none=>rw[Vn,F,C]at J;cases J
  |some jb=>
   obtain ⟨j,b'⟩:=jb;rw[Vn,F,C]at J;simp at J;obtain⟨rfl,hj⟩:=J;simp only at h;split at h
   .rename_i q R;have hv:slot a g=.bool q:=by
     obtain ⟨G,f⟩:=f;have:=Ag f R V;simpa only[AM,Aq]using this
    have H:g<a.tmps.size:=by
     obtain ⟨G,f⟩:=f;exact Bi f R V
    have Z:yielded ops a.tmps j=Y q:=by
     have I:a.tmps[g]?=Y (.bool q):=by
      rw [slot,x_,x! H]at hv;rw[x! H];simpa using hv
     simp [yielded,hj,I]
    have A:Region.wanted o (yielded ops a.tmps)=(q==b):=by
     simp only[Region.wanted,C,Z];cases q<;>cases b<;>rfl
    rw [A];by_cases κ:q=b
    .subst κ;rw[Ne V];exact S (h.1 rfl)
    .have η:q=!b:=by cases q<;>cases b<;>simp_all
     rw [QQ (by simpa using κ)];exact θ (h.2 η)
   .rename_i R;have hv:slot a g=undef:=by
     obtain ⟨G,f⟩:=f;have:=Ag f R V;simpa only[AM]using this
    have H:g<a.tmps.size:=by
     obtain ⟨G,f⟩:=f;exact Bi f R V
    have Z:yielded ops a.tmps j=none:=by
     have I:a.tmps[g]?=Y undef:=by
      rw [slot,x_,x! H]at hv;rw[x! H];simpa using hv
     simp [yielded,hj,I,undef]
    have A:Region.wanted o (yielded ops a.tmps)=T:=by
     simp only[Region.wanted,C,Z];cases b<;>rfl
    rw [A];exact θ h
   .exact h.elim
def TT:List PR->Bool
 |[]=>X|r::rs=>(match r.op,r.dst,r.guard with|.frz _,none,none=>X|_,_,_=>T)&&TT rs
variable{rs:List PR}
theorem rf:∀{ε:AB},TT rs=X->wpOps (AS P) K rs ε->Bt F0 w0 ε a w->∃env',K env'/\Bt F0 w0 env' a w:=by
 induction rs with
 |nil=>intro ε _ h b;exact⟨ε,h,b⟩|cons r rs l=>
  intro ε c h b;simp[TT]at c;obtain⟨e,k⟩:=c;split at e
  .rename_i s f g i;simp[wpOps,PR.wp,f,g,i,AE.wp]at h;split at h
   next cs j=>obtain⟨G,b⟩:=b;exact l k h (b.frz j)
   .exact h.elim
  .cases e
def Mx(P:Program)(N:Nat)(ops:Array Oper):List Oper->List PR->Bool
 |[],rs=>TT rs|o::os,r::rs=>Ll P N ops o r&&Mx P N ops os rs|_::_,[]=>T
theorem Xx(m:∀ε a w,K ε->LT N p a->Bt F0 w0 ε a w->Q .normal a w):∀(os:List Oper)(rs:List PR)(k:Nat),ops.toList.drop k=os->Mx P N ops os rs=X->(∀i v,p=Y (i,v)->∀r∈rs,r.dst≠Y i)->∀(ε:AB)(a:Act)(w:World),LT N p a->Bt F0 w0 ε a w ->
  wpOps (AS P) K rs ε->Go.wpOps P ops Q (List.range' k os.length) a w
 |[],rs,k,_,b,_,ε,a,w,g,j,h=>by
  obtain ⟨env',z,A⟩:=rf b h j;exact m env' a w z g A
 |o::os,[],k,_,b,_,_,_,_,_,_,_=>by simp[Mx]at b|o::os,r::rs,k,hd,b,c,ε,a,w,g,j,h=>by
  simp [Mx]at b;have y:ops[k]?=Y o:=by
   rw [<-Array.getElem?_toList];have:=congrArg (λl=>l[0]?) hd
   grind
  have f:ops.toList.drop (k+1)=os:=by
   grind [List.tail,List.tail_drop]
  simp [List.range'_succ];rw[Go.wpOps_cons];unfold Go.wpOp;rw[y];simp;have:=Wv (Q:=Q) (next:=Go.wpOps P ops Q (List.range' (k+1) os.length)) j g (λi v e=>c i v e r V) b.1 h λenv' a' w' q s t=>Xx m os rs (k+1) f b.2 (λi v e r u=>c i v e r g!) env' a' w' s t q
  grind
theorem dM{id:Nat}(b:Mx P N ops ops.toList rs=X)(c:∀i v,p=Y (i,v)->∀r∈rs,r.dst≠Y i)(e:LT N p a)(f:Bt F0 w0 ε a w)(h:wpOps (AS P) K rs ε)
  (g:∀ε a w,K ε->LT N p a->Bt F0 w0 ε a w->Q .normal a w):(Code.region id ops T).wp P Q a w:=by
 refine Go.wp_region ?_;rw[List.range_eq_range',<-Array.length_toList];exact Xx g ops.toList rs 0 rfl b c ε a w e f h
end
end Go.Sf
