/- One operation against the checker, and regions in the text's order. -/
import Derived.Test.YtbmgmpeimdomoaaGreatSfN
import Derived.Orders
set_option linter.all false
open Option renaming some->Y
open Bool renaming true->X,false->T
open Option renaming isNone_iff_eq_none->w_
open Bool renaming not_eq_true'->w!
open Array renaming getD_eq_getD_getElem?->w?,getElem?_eq_getElem->x_
namespace Go.Sf
open Go.RowKit (Below)
def Operand.Aak(n:Nat):Operand->Bool
 |.tmp m=>m==n|_=>T
variable{n:Nat}{x:Operand}
theorem Operand.k7(h:Operand.Aak n x=X):x=.tmp n:=by
 cases x<;>simp[Operand.Aak]at h;rw[h]
def Ys:Operand->Bool
 |.const v=>NF v|_=>T
theorem R7(h:Ys x=X):∃v,x=.const v/\NF v=X:=by
 cases x<;>simp[Ys]at h;exact⟨_,rfl,h⟩
def Wr(P:Program)(str:Bool)(c:Call)(x:AF):Bool:=
 match c.callee,c.args.toList,c.argTypes.toList with
 |.builtin .len,[y],[t]=>AK y x&&(match P.underlying t with|some (.slice _)=>!str|some .string=>str|_=>T)
 |_,_,_=>T
def Wp(P:Program)(n:Nat)(c:Call)(x y:AF):Bool:=
 match c.callee,c.args.toList,c.argTypes.toList,x with
 |.builtin .append,[p,q],[t,t'],.s s=>Operand.Aak s p&&AK q y&&t==t'&&(match P.underlying t with
  |some (.slice e)=>(match P.info? e with
   |some i=>(match i.zero with|some z=>i.size==n&&decide (i.bytes<=4096)&&z.cells.size==n&&decide (0<n)|none=>T)
   |none=>T)
  |_=>T)
 |_,_,_,_=>T
def wW(mx:Bool)(c:Call)(x y:AF):Bool:=
 match c.callee,c.args.toList with
 |.builtin .max,[p,q]=>mx&&AK p x&&AK q y|.builtin .min,[p,q]=>!mx&&AK p x&&AK q y|_,_=>T
def Qj(P:Program)(o:Op):AE->Bool
 |.mv x=>match o with|.move y|.assign y=>AK y x|_=>T
 |.tk s=>match o with|.move y|.assign y=>Operand.Aak s y|_=>T
 |.Abn _=>match o with|.move y|.assign y=>Ys y|_=>T
 |.fad x k=>match o with|.fieldAddr t y f=>AK y x&&QD P t f==Y k|.move y|.assign y|.nilCheck y=>k==0&&AK y x|_=>T
 |.bad s k=>match o with|.indexAddr t y j=>Operand.Aak s y&&kN P t j k|.fieldAddr t y f=>Operand.Aak s y&&QD P t f==Y k|.move y|.assign y|.nilCheck y=>k==0&&Operand.Aak s y|_=>T
 |.iad x i n=>match o with|.indexAddr t y j=>AK y x&&AK j i&&JN P t==Y n|_=>T
 |.aad x i n k=>match o with|.indexAddr t y j=>AK y x&&AK j i&&(match P.underlying t with|some (.array k' e)=>k'==k&&DF P e==Y n|_=>T)|_=>T
 |.ld x=>match o with|.load t y=>AK y x&&CF P t==Y T|_=>T
 |.fdv x k=>match o with|.fieldAddr t y f=>AK y x&&QD P t f==Y k|_=>T
 |.ldv x n=>match o with|.load t y=>AK y x&&CF P t==Y X&&DF P t==Y n|_=>T
 |.lda x n=>match o with|.load t y=>AK y x&&CF P t==Y X&&DF P t==Y n|_=>T
 |.ldb s n=>match o with|.load t y=>AK y (.s s)&&CF P t==Y X&&DF P t==Y n|_=>T
 |.ldt x=>match o with|.load t y=>AK y x&&CF P t==Y T|_=>T
 |.bin k op x y=>match o with|.binOp op' t p q _=>op'==op&&On P k t&&AK p x&&AK q y|_=>T
 |.not x=>match o with|.unOp op _ y=>op==.not&&AK y x|_=>T
 |.neg x=>match o with|.unOp op _ y=>op==.neg&&AK y x|_=>T
 |.pick c x y=>match o with|.pick c' p q=>AK c' c&&AK p x&&AK q y|_=>T
 |.len x=>match o with|.call c=>Wr P T c x|_=>T
 |.AbG x=>match o with|.call c=>Wr P X c x|_=>T
 |.slc n x lo hi=>match o with|.slice t y l h mx=>mx.isNone&&AK y x&&Oq l lo&&Oq h hi&&JN P t==Y n|_=>T
 |.Aaw x lo hi=>match o with|.slice t y l h mx=>mx.isNone&&AK y x&&Oq l lo&&Oq h hi&&(match P.underlying t with|some .string=>X|_=>T)|_=>T
 |.bld z ps=>match o with|.build t qs=>kO P t z qs.toList ps|_=>T
 |.lst n ys=>match o with
  |.buildSlice t len ps=>(match P.underlying t with
   |some (.slice e)=>(match P.info? e with
    |some i=>(match i.zero with
     |some z=>i.size==n&&decide (0<n)&&z.cells.toList.all Value.oneCell'&&decide (0<z.cells.size)&&len==ps.size&&decide (len*n<=2^ 24)&&Tt 0 ps.toList ys|none=>T)
    |none=>T)
   |_=>T)
  |_=>T
 |.app n x y=>match o with|.call c=>Wp P n c x y|_=>T
 |.call f ys=>match o with|.call c=>(match c.callee with|.value (.func g)=>g==f&&Bj c.args.toList ys|_=>T)|_=>T
 |.Abi x ys=>match o with|.call c=>(match c.callee with|.value g=>AK g x&&Bj c.args.toList ys|_=>T)|_=>T
 |.clo f cs=>match o with|.makeFunc (.func g) first xs=>g==f&&first.size==0&&Bj xs.toList cs|_=>T
 |.ext x i=>match o,x with|.extract y j,.s s=>Operand.Aak s y&&j==i|_,_=>T
 |.cvt k x=>match o with|.convert s t y=>AK y x&&(match P.underlying s,P.underlying t with|some (.int _),Y (.int k')=>k'==k|_,_=>T)|_=>T
 |.Aau x i=>match o with|.index t y j=>AK y x&&AK j i&&(match P.underlying t with|some .string=>X|_=>T)|_=>T
 |.Abp x=>match o with|.box _ y=>AK y x|_=>T
 |.Abz x=>match o with|.box _ y=>AK y x|_=>T
 |.mm mx x y=>match o with|.call c=>wW mx c x y|_=>T
 |.alc cs=>match o with|.alloc t=>(match P.info? t with|some i=>(match i.zero with|some z=>PY cs z.cells.toList|none=>T)|none=>T)|_=>T
 |.st n x v=>match o with|.store t y u=>AK y x&&AK u v&&DF P t==Y n|_=>T
 |.stb n s v=>match o with|.store t y u=>Operand.Aak s y&&AK u v&&DF P t==Y n|_=>T
 |.frz _=>T|.Abv x k n agg=>match o with|.field t y f=>AK y x&&kP P t f k n agg|_=>T
 |.xal s=>match o with|.move y|.assign y=>Operand.Aak s y|_=>T
 |.Abs x=>match o with|.call c=>Wr P T c x|_=>T
 |.xia x i n=>match o with|.indexAddr t y j=>AK y x&&AK j i&&JN P t==Y n|_=>T
 |.xin x i n=>match o with|.indexAddr t y j=>AK y x&&AK j i&&JN P t==Y n|_=>T
 |.xln x=>match o with|.load t y=>AK y x&&CF P t==Y T|_=>T
 |.xfa x k=>match o with|.fieldAddr t y f=>AK y x&&QD P t f==Y k|_=>T
 |.xld x=>match o with|.load t y=>AK y x&&CF P t==Y T|_=>T
 |.xst x v k=>match o with|.store t y u=>AK y x&&AK u v&&DF P t==Y k|_=>T
 |.rel s=>match o with|.move y|.assign y=>Operand.Aak s y|_=>T
 |.Abg _=>match o with|.move y|.assign y=>Ys y|_=>T
 |.tkx s=>match o with|.move y|.assign y=>Operand.Aak s y|_=>T
 |.Aa5 n s y=>match o with|.call c=>Wp P n c (.s s) y|_=>T
 |.AaD f ys=>match o with|.call c=>(match c.callee with|.value (.func g)=>g==f&&Bj c.args.toList ys|_=>T)|_=>T
 |.mko n zero x=>match o with|.makeSlice t y z=>AK y x&&AK z x&&d9 P t n zero|_=>T
 |.mkx n zero x=>match o with|.makeSlice t y z=>AK y x&&AK z x&&d9 P t n zero|_=>T
 |.AaB f x ys=>match o with|.call c=>(match c.callee,c.args.toList with|.value (.func g),y::zs=>g==f&&(AK y x&&Bj zs ys)|_,_=>T)|_=>T
 |.AaV f x=>match o with|.call c=>(match c.callee,c.args.toList with|.value (.func g),[y]=>g==f&&AK y x|_,_=>T)|_=>T
 |.Abd n=>match o with|.buildSlice t len ps=>len==0&&ps.isEmpty&&d8 P t n|_=>T
 |.x8 gs=>match o with|.build t ps=>dy P t ps.toList gs|_=>T
 |.stx n s q=>match o with|.store t y u=>AK y (.s s)&&AK u (.s q)&&DF P t==Y n|_=>T
 |.Aa4 f ys=>match o with|.call c=>(match c.callee with|.value (.func g)=>g==f&&Bj c.args.toList ys|_=>T)|_=>T
 |.Aaz f ys=>match o with|.call c=>(match c.callee with|.value (.func g)=>g==f&&Bj c.args.toList ys|_=>T)|_=>T
 |.isn x=>match o with|.binOp op t y z _=>op==.eql&&AK y x&&S6 z&&cJ P t|_=>T
 |.lac x=>match o with|.load t y=>AK y x&&CF P t==Y T|_=>T
 |.ctk x=>match o with|.load t y=>AK y x&&CF P t==Y T|_=>T
 |.cpt x q=>match o with|.store t y u=>AK y x&&AK u (.s q)&&DF P t==Y 1|_=>T
 |.cut n s hi=>match o with|.slice t y l (Y h) mx=>mx.isNone&&l.isNone&&Operand.Aak s y&&AK h hi&&JN P t==Y n|_=>T
 |.AaJ f ys=>match o with|.call c=>(match c.callee with|.value (.func g)=>g==f&&Bj c.args.toList ys|_=>T)|_=>T
 |.Abl _ x=>match o with|.box _ y=>AK y x|_=>T
 |.Aa3 f ys=>match o with|.call c=>(match c.callee with|.value (.func g)=>g==f&&Bj c.args.toList ys|_=>T)|_=>T
 |.Abf n s z x=>match o with|.call c=>my P n s z x c|_=>T
 |.Aad f ys _=>match o with|.call c=>(match c.callee with|.value (.func g)=>g==f&&Bj c.args.toList ys|_=>T)|_=>T
 |.Abo q=>match o with|.buildSlice t len ps=>(match len,ps.toList with|1,[(0,x)]=>dz P t&&AK x (.s q)|_,_=>T)|_=>T
 |.AaH s q=>match o with|.call c=>Wp P 1 c (.s s) (.s q)|_=>T
 |.lan x=>match o with|.load t y=>AK y x&&CF P t==Y T|_=>T
 |.nia x i=>match o with|.indexAddr t y j=>AK y x&&AK j i&&JN P t==Y 1|_=>T
 |.nld x=>match o with|.load t y=>AK y x&&CF P t==Y T|_=>T
 |.nst x v=>match o with|.store t y u=>AK y x&&AK u v&&DF P t==Y 1|_=>T
 |.AbA q=>match o with|.box _ y=>AK y (.s q)|_=>T
 |.AaI f ys _=>match o with|.call c=>(match c.callee with|.value (.func g)=>g==f&&Bj c.args.toList ys|_=>T)|_=>T
 |.ldg s n=>match o with|.load t y=>Operand.Aak s y&&CF P t==Y X&&DF P t==Y n|_=>T
 |.stq n _ x v=>match o with|.store t y u=>AK y x&&AK u v&&DF P t==Y n|_=>T
 |.mkm=>match o with|.makeMap _ r=>r.isNone|_=>T
 |.mvm s=>match o with|.move y|.assign y=>Operand.Aak s y|_=>T
 |.AaC f ys=>match o with|.call c=>(match c.callee with|.value (.func g)=>g==f&&Bj c.args.toList ys|_=>T)|_=>T
 |.mlk _ m x=>match o with|.lookup t y z c=>c&&QL P t&&AK y m&&AK z x|_=>T
 |.mup _ m x v=>match o with|.mapUpdate t y z u=>QL P t&&AK y m&&AK z x&&AK u v|_=>T
 |.pr _ m=>match o with|.range t y=>AK y m&&(match P.underlying t with|some (.map _ _)=>X|_=>T)|_=>T
 |.mnx s=>match o with|.next y c=>!c&&Operand.Aak s y|_=>T
 |.men s=>match o with|.entry y=>Operand.Aak s y|_=>T
def OB:AE->Bool
 |.st ..=>X|.stb ..=>X|.xst ..=>X|.stx ..=>X|.cpt ..=>X|.nst ..=>X|.mup ..=>X|.stq ..=>X|_=>T
section
variable{P:Program}{F0:Nat->Nat->Prop}{w0:W0}{ε:AB}{a:Act}{w:World}{G:BX}{d:Nat}{o:Oper}{K:EV->AB->Prop}
theorem A3.wp(h:A3 P F0 w0 a w o d K)(b:o.dst=Y d){next:Act->World->Prop}{Q:Exit->Act->World->Prop}(f:∀e env' a' w',K e env'->RK a d a'->Bw F0 w0 ((d,e)::env') a' w'->next a' w'):o.wp P a w next Q:=by
 obtain ⟨v,w',c,e,env',g,i⟩:=h;unfold Oper.wp;rw[c,Oper.upon_value,b];exact f e env' _ w' g ⟨_,rfl⟩ i
variable{α:Type}
theorem HF{a:Array α}{x:α}(h:a.toList=[x]):a=#[x]:=by
 cases a;simp_all
theorem GA{a:Array α}{x y:α}(h:a.toList=[x,y]):a=#[x,y]:=by
 cases a;simp_all
theorem DO{c:Call}{b:Callee}{e:Array Operand}{f:Array TypeId}(g:c.callee=b)(h:c.args=e)(i:c.argTypes=f):c={callee:=b,args:=e,argTypes:=f}:=by
 cases c;simp_all
theorem pw(A:AP F0 w0 ε a w G)(hd:d<a.tmps.size)(u:o.dst=Y d){p:AE}(b:Qj P o.op p=X)(M:OB p=T)(h:p.wp (AT P) ε (Y d) K)
  {next:Act->World->Prop}{Q:Exit->Act->World->Prop}(B:∀e env' a' w',K e env'->RK a d a'->Bw F0 w0 ((d,e)::env') a' w'->next a' w'):o.wp P a w next Q:=by
 cases p<;>simp only[Qj]at b<;>try(exact absurd b Bool.false_ne_true)
 case mv x=>
  split at b
  next y e=>exact(jK A hd (.inl e) b h).wp u B
  next y e=>exact(jK A hd (.inr e) b h).wp u B
  .cases b
 case tk s=>
  split at b
  next y e=>rw[Operand.k7 b]at e;exact(jM A hd (.inl e) h).wp u B
  next y e=>rw[Operand.k7 b]at e;exact(jM A hd (.inr e) h).wp u B
  .cases b
 case Abn n=>
  split at b
  next y e=>exact(bf A hd (.inl e) (R7 b) h).wp u B
  next y e=>exact(bf A hd (.inr e) (R7 b) h).wp u B
  .cases b
 case fad x k=>
  split at b
  next t y f e=>simp only[gR,beq_iff_eq]at b;exact(Rk A hd (Zj e b.2) b.1 h).wp u B
  next y e=>simp only[gR,beq_iff_eq]at b;obtain⟨rfl,b⟩:=b;exact(Rk A hd (RC (.inl e)) b h).wp u B
  next y e=>simp only[gR,beq_iff_eq]at b;obtain⟨rfl,b⟩:=b;exact(Rk A hd (RC (.inr (.inl e))) b h).wp u B
  next y e=>simp only[gR,beq_iff_eq]at b;obtain⟨rfl,b⟩:=b;exact(Rk A hd (RC (.inr (.inr e))) b h).wp u B
  .cases b
 case bad s k=>
  split at b
  next t y j e=>simp only[gR]at b;rw[Operand.k7 b.1]at e;exact(Rj A hd (tA e b.2) h).wp u B
  next t y f e=>simp only[gR,beq_iff_eq]at b;rw[Operand.k7 b.1]at e;exact(Rj A hd (Zj e b.2) h).wp u B
  next y e=>simp only[gR,beq_iff_eq]at b;obtain⟨rfl,b⟩:=b;rw[Operand.k7 b]at e;exact(Rj A hd (RC (.inl e)) h).wp u B
  next y e=>simp only[gR,beq_iff_eq]at b;obtain⟨rfl,b⟩:=b;rw[Operand.k7 b]at e;exact(Rj A hd (RC (.inr (.inl e))) h).wp u B
  next y e=>simp only[gR,beq_iff_eq]at b;obtain⟨rfl,b⟩:=b;rw[Operand.k7 b]at e;exact(Rj A hd (RC (.inr (.inr e))) h).wp u B
  .cases b
 case iad x i n=>
  split at b
  next t y j e=>simp only[gR,beq_iff_eq]at b;exact(rH A hd e b.1.1 b.1.2 b.2 h).wp u B
  .cases b
 case aad x i n k=>
  split at b
  .rename_i t y j e;simp only[gR]at b;obtain⟨⟨C,D⟩,E⟩:=b;split at E
   next k' el J=>simp only[gR,beq_iff_eq]at E;obtain⟨rfl,H⟩:=E;exact(qx A hd e C D J H h).wp u B
   .cases E
  .cases b
 case ld x=>
  split at b
  next t y e=>simp only[gR,beq_iff_eq]at b;exact(uv A hd e b.1 b.2 h).wp u B
  .cases b
 case fdv x k=>
  split at b
  .rename_i t y f e;simp only[gR,beq_iff_eq]at b;refine(Rk (S:=AT P) A hd (Zj e b.2) b.1 ?_).wp u B;simp only[AE.wp]at h|-;split at h
   next row Z=>rw[oY A Z];exact h
   .exact h.elim
  .cases b
 case ldv x n=>
  split at b
  .rename_i t y e;simp only[gR,beq_iff_eq]at b;refine(YG (S:=AT P) A hd e b.1.1 b.1.2 b.2 ?_).wp u B;simp only[AE.wp]at h|-;split at h
   next row Z=>rw[oY A Z];exact h
   .exact h.elim
  .cases b
 case lda x n=>
  split at b
  next t y e=>simp only[gR,beq_iff_eq]at b;exact(YG A hd e b.1.1 b.1.2 b.2 h).wp u B
  .cases b
 case ldb s n=>
  split at b
  .rename_i t y e;simp only[gR,beq_iff_eq]at b;refine(YG (S:=AT P) A hd e b.1.1 b.1.2 b.2 (y:=.s s) ?_).wp u B;simp only[AE.wp]at h|-;split at h
   next cs I=>simp only[AF.ev,I,A9,Aj];exact h
   .exact h.elim
  .cases b
 case ldt x=>
  split at b
  next t y e=>simp only[gR,beq_iff_eq]at b;exact(rN A hd e b.1 b.2 h).wp u B
  .cases b
 case bin k op x y=>
  split at b
  next op' t p q δ e=>simp only[gR,beq_iff_eq]at b;obtain⟨⟨⟨rfl,C⟩,D⟩,E⟩:=b;exact(q8 A hd e C D E h).wp u B
  .cases b
 case not x=>
  split at b
  next op t y e=>simp only[gR,beq_iff_eq]at b;obtain⟨rfl,C⟩:=b;exact(rf A hd e C h).wp u B
  .cases b
 case neg x=>
  split at b
  next op t y e=>simp only[gR,beq_iff_eq]at b;obtain⟨rfl,C⟩:=b;exact(rb A hd e C h).wp u B
  .cases b
 case pick c x y=>
  split at b
  next c' p q e=>simp only[gR]at b;exact(oL A hd e b.1.1 b.1.2 b.2 h).wp u B
  .cases b
 case len x=>
  split at b
  .rename_i c e;unfold Wr at b;split at b
   .rename_i y t C D E;simp only[gR]at b;obtain⟨H,L⟩:=b;split at L
    next el J=>rw[DO C (HF D) (HF E)]at e;exact(rP A hd e H J h).wp u B
    .cases L
    .cases L
   .cases b
  .cases b
 case AbG x=>
  split at b
  .rename_i c e;unfold Wr at b;split at b
   .rename_i y t C D E;simp only[gR]at b;obtain⟨H,L⟩:=b;split at L
    .cases L
    next J=>rw[DO C (HF D) (HF E)]at e;exact(oN A hd e H J h).wp u B
    .cases L
   .cases b
  .cases b
 case slc n x lo hi=>
  split at b
  next t y l hh mx e=>simp only[gR,beq_iff_eq,w_]at b;obtain⟨⟨⟨⟨rfl,C⟩,D⟩,E⟩,H⟩:=b;exact(rh A hd e C D E H h).wp u B
  .cases b
 case Aaw x lo hi=>
  split at b
  .rename_i t y l hh mx e;simp only[gR,w_]at b;obtain⟨⟨⟨⟨rfl,C⟩,D⟩,E⟩,H⟩:=b;split at H
   next J=>exact(oQ A hd e C D E J h).wp u B
   .cases H
  .cases b
 case bld z ζ=>
  split at b
  next t qs e=>exact(q9 A hd e b h).wp u B
  .cases b
 case lst n ys=>
  split at b
  .rename_i t len ζ e;split at b
   .rename_i el J;split at b
    .rename_i i hi;split at b
     next z R=>simp only[gR,beq_iff_eq,o4]at b;obtain⟨⟨⟨⟨⟨⟨C,D⟩,E⟩,H⟩,L⟩,F⟩,θ⟩:=b;exact(rQ A hd e J hi R C D E H L F θ h).wp u B
     .cases b
    .cases b
   .cases b
  .cases b
 case app n x y=>
  split at b
  .rename_i c e;unfold Wp at b;split at b
   .rename_i p q t δ s C D E;simp only[gR,beq_iff_eq]at b;obtain⟨⟨⟨H,L⟩,rfl⟩,F⟩:=b;split at F
    .rename_i el J;split at F
     .rename_i i hi;split at F
      next z R=>simp only[gR,beq_iff_eq,o4]at F;obtain⟨⟨⟨θ,κ⟩,η⟩,O⟩:=F;rw[DO C (GA D) (GA E),Operand.k7 H]at e;exact(qz A hd e J hi R θ κ η O L h).wp u B
      .cases F
     .cases F
    .cases F
   .cases b
  .cases b
 case call f ys=>
  split at b
  .rename_i c e;split at b
   next g I=>simp only[gR,beq_iff_eq]at b;obtain⟨rfl,C⟩:=b;rw[DO I rfl rfl]at e;exact oH A hd u e C h B
   .cases b
  .cases b
 case Abi x ys=>
  split at b
  .rename_i c e;split at b
   next g I=>simp only[gR]at b;rw[DO I rfl rfl]at e;exact lW A hd u e b.1 b.2 h B
   .cases b
  .cases b
 case clo f cs=>
  split at b
  .rename_i g first xs e
   simp only[gR,beq_iff_eq]at b;obtain⟨⟨rfl,C⟩,D⟩:=b;rw[Array.eq_empty_of_size_eq_zero C]at e;exact(rA A hd e D h).wp u B
  .cases b
 case ext x i=>
  split at b
  next y j s e=>simp only[gR,beq_iff_eq]at b;obtain⟨C,rfl⟩:=b;rw[Operand.k7 C]at e;exact(rG A hd e h).wp u B
  .cases b
 case cvt k x=>
  split at b
  .rename_i s t y e;simp only[gR]at b;obtain⟨C,D⟩:=b;split at D
   next k1 k2 hs ht=>simp only[beq_iff_eq]at D;subst D;exact(rF A hd e hs ht C h).wp u B
   .cases D
  .cases b
 case Aau x i=>
  split at b
  .rename_i t y j e;simp only[gR]at b;obtain⟨⟨C,D⟩,E⟩:=b;split at E
   next J=>exact(oM A hd e C D J h).wp u B
   .cases E
  .cases b
 case Abp x=>
  split at b
  next t y e=>exact(oG A hd e b h).wp u B
  .cases b
 case Abz x=>
  split at b
  next t y e=>exact(oE A hd e b h).wp u B
  .cases b
 case mm mx x y=>
  split at b
  .rename_i c e;unfold wW at b;split at b
   next p q C D=>simp only[gR]at b;obtain⟨⟨rfl,E⟩,H⟩:=b;rw[DO C (GA D) rfl]at e;exact(jJ (mx:=X) A hd e E H h).wp u B
   next p q C D=>simp only[gR,w!]at b;obtain⟨⟨rfl,E⟩,H⟩:=b;rw[DO C (GA D) rfl]at e;exact(jJ (mx:=T) A hd e E H h).wp u B
   .cases b
  .cases b
 case alc cs=>
  split at b
  .rename_i t e;split at b
   .rename_i i hi;split at b
    next z R=>exact(qy A hd e hi R b h).wp u B
    .cases b
   .cases b
  .cases b
 case st n x v=>cases M
 case stb n s v=>cases M
 case Abv x k n agg=>
  split at b
  next t y f e=>simp only[gR]at b;exact(oI A hd e b.1 b.2 h).wp u B
  .cases b
 case xal s=>
  split at b
  next y e=>rw[Operand.k7 b]at e;exact(fX A hd (.inl e) h).wp u B
  next y e=>rw[Operand.k7 b]at e;exact(fX A hd (.inr e) h).wp u B
  .cases b
 case rel s=>
  split at b
  next y e=>rw[Operand.k7 b]at e;exact(UC A hd (.inl e) h).wp u B
  next y e=>rw[Operand.k7 b]at e;exact(UC A hd (.inr e) h).wp u B
  .cases b
 case tkx s=>
  split at b
  next y e=>rw[Operand.k7 b]at e;exact(fW A hd (.inl e) h).wp u B
  next y e=>rw[Operand.k7 b]at e;exact(fW A hd (.inr e) h).wp u B
  .cases b
 case Abg n=>
  split at b
  next y e=>exact(bg A hd (.inl e) (R7 b) h).wp u B
  next y e=>exact(bg A hd (.inr e) (R7 b) h).wp u B
  .cases b
 case Abs x=>
  split at b
  .rename_i c e;unfold Wr at b;split at b
   .rename_i y t C D E;simp only[gR]at b;obtain⟨H,L⟩:=b;split at L
    next el J=>rw[DO C (HF D) (HF E)]at e;exact(oR A hd e H J h).wp u B
    .cases L
    .cases L
   .cases b
  .cases b
 case xia x i n=>
  split at b
  next t y j e=>simp only[gR,beq_iff_eq]at b;exact(fY A hd e b.1.1 b.1.2 b.2 h).wp u B
  .cases b
 case xfa x k=>
  split at b
  next t y f e=>simp only[gR,beq_iff_eq]at b;exact(rk A hd e b.1 b.2 h).wp u B
  .cases b
 case xin x i n=>
  split at b
  next t y j e=>simp only[gR,beq_iff_eq]at b;exact(fY A hd e b.1.1 b.1.2 b.2 (vB h)).wp u B
  .cases b
 case xln x=>
  split at b
  next t y e=>simp only[gR,beq_iff_eq]at b;exact(fZ A hd e b.1 b.2 (vC h)).wp u B
  .cases b
 case xld x=>
  split at b
  next t y e=>simp only[gR,beq_iff_eq]at b;exact(fZ A hd e b.1 b.2 h).wp u B
  .cases b
 case xst x v k=>cases M
 case Aa5 n s y=>
  split at b
  .rename_i c e;unfold Wp at b;split at b
   .rename_i p q t δ s' C D E h0;simp only[AF.s.injEq]at h0;subst h0;simp only[gR,beq_iff_eq]at b;obtain⟨⟨⟨H,L⟩,rfl⟩,F⟩:=b;split at F
    .rename_i el J;split at F
     .rename_i i hi;split at F
      next z R=>simp only[gR,beq_iff_eq,o4]at F;obtain⟨⟨⟨θ,κ⟩,η⟩,O⟩:=F;rw[DO C (GA D) (GA E),Operand.k7 H]at e;exact(oA A hd e J hi R θ κ η O L h).wp u B
      .cases F
     .cases F
    .cases F
   .cases b
  .cases b
 case AaD f ys=>
  split at b
  .rename_i c e;split at b
   next g I=>simp only[gR,beq_iff_eq]at b;obtain⟨rfl,C⟩:=b;rw[DO I rfl rfl]at e;exact lY A hd u e C h B
   .cases b
  .cases b
 case mko n zero x=>
  split at b
  next t y z e=>simp only[gR]at b;exact(rV A hd e b.1.1 b.1.2 b.2 h).wp u B
  .cases b
 case mkx n zero x=>
  split at b
  next t y z e=>simp only[gR]at b;exact(jI A hd e b.1.1 b.1.2 b.2 h).wp u B
  .cases b
 case AaB f x ys=>
  split at b
  .rename_i c e;split at b
   next g y zs I ha=>simp only[gR,beq_iff_eq]at b;obtain⟨rfl,C,D⟩:=b;rw[DO I (show c.args=(y::zs).toArray by rw[<-ha]) rfl]at e;exact lU A hd u e C D h B
   .cases b
  .cases b
 case AaV f x=>
  split at b
  .rename_i c e;split at b
   next g y I ha=>simp only[gR,beq_iff_eq]at b;obtain⟨rfl,C⟩:=b;rw[DO I (HF ha) rfl]at e;exact lO A hd u e C h B
   .cases b
  .cases b
 case Abd n=>
  split at b
  next t len ζ e=>simp only[gR,beq_iff_eq,Array.isEmpty_iff]at b;obtain⟨⟨rfl,rfl⟩,C⟩:=b;exact(oK A hd e C h).wp u B
  .cases b
 case x8 gs=>
  split at b
  next t ζ e=>exact(oC A hd e b h).wp u B
  .cases b
 case stx n s q=>cases M
 case cpt x q=>cases M
 case lac x=>
  split at b
  next t y e=>simp only[gR,beq_iff_eq]at b;exact(rK A hd e b.1 b.2 h).wp u B
  .cases b
 case ctk x=>
  split at b
  next t y e=>simp only[gR,beq_iff_eq]at b;exact(rD A hd e b.1 b.2 h).wp u B
  .cases b
 case cut n s hi=>
  split at b
  next t y l hh mx e=>simp only[gR,beq_iff_eq,w_]at b;obtain⟨⟨⟨⟨rfl,rfl⟩,C⟩,D⟩,E⟩:=b;rw[Operand.k7 C]at e;exact(rE A hd e D E h).wp u B
  .cases b
 case AaJ f ys=>
  split at b
  .rename_i c e;split at b
   next g I=>simp only[gR,beq_iff_eq]at b;obtain⟨rfl,C⟩:=b;rw[DO I rfl rfl]at e;exact lR A hd u e C h B
   .cases b
  .cases b
 case Aad f ys i=>
  split at b
  .rename_i c e;split at b
   next g I=>simp only[gR,beq_iff_eq]at b;obtain⟨rfl,C⟩:=b;rw[DO I rfl rfl]at e;exact lM A hd u e C h B
   .cases b
  .cases b
 case Aa3 f ys=>
  split at b
  .rename_i c e;split at b
   next g I=>simp only[gR,beq_iff_eq]at b;obtain⟨rfl,C⟩:=b;rw[DO I rfl rfl]at e;exact(lP A hd e C h).wp u B
   .cases b
  .cases b
 case Abf n s z x=>
  split at b
  .rename_i c e;unfold my at b;split at b
   .rename_i p q t δ C D E;simp only[gR]at b;obtain⟨⟨H,L⟩,F⟩:=b;split at F
    .rename_i el kn J hu';split at F
     .rename_i i hi;split at F
      .rename_i zz R;split at F
       next z0 hz0=>simp only[gR,beq_iff_eq,o4]at F;obtain⟨⟨⟨⟨rfl,θ⟩,κ⟩,η⟩,O⟩:=F;rw[DO C (GA D) (GA E),Operand.isTmp_eq' H]at e;exact(oB A hd e J hu' hi R θ κ (HF hz0) η O L h).wp u B
       .cases F
      .cases F
     .cases F
    .cases F
   .cases b
  .cases b
 case Abl ζ x=>
  split at b
  next t y e=>exact(oF A hd e b h).wp u B
  .cases b
 case Aa4 f ys=>
  split at b
  .rename_i c e;split at b
   next g I=>simp only[gR,beq_iff_eq]at b;obtain⟨rfl,C⟩:=b;rw[DO I rfl rfl]at e;exact lQ A hd u e C h B
   .cases b
  .cases b
 case Aaz f ys=>
  split at b
  .rename_i c e;split at b
   next g I=>simp only[gR,beq_iff_eq]at b;obtain⟨rfl,C⟩:=b;rw[DO I rfl rfl]at e;exact gX A hd u e C h B
   .cases b
  .cases b
 case isn x=>
  split at b
  next op t y z δ e=>simp only[gR,beq_iff_eq]at b;obtain⟨⟨⟨rfl,C⟩,D⟩,E⟩:=b;exact(rJ A hd e C D E h).wp u B
  .cases b
 case Abo q=>
  split at b
  .rename_i t len ζ e;split at b
   next x hps=>simp only[gR]at b;rw[HF hps]at e;exact(oJ A hd e b.1 b.2 h).wp u B
   .cases b
  .cases b
 case AaH s q=>
  split at b
  .rename_i c e;unfold Wp at b;split at b
   .rename_i p q' t δ s' C D E H;simp only[AF.s.injEq]at H;subst H;simp only[gR,beq_iff_eq]at b;obtain⟨⟨⟨H,L⟩,rfl⟩,F⟩:=b;split at F
    .rename_i el J;split at F
     .rename_i i hi;split at F
      .rename_i z R;simp only[gR,beq_iff_eq,o4]at F;obtain⟨⟨⟨θ,κ⟩,η⟩,O⟩:=F;have hq:q'=.tmp q:=by
        cases q'<;>simp[AK]at L;rw[L]
       rw [DO C (GA D) (GA E),Operand.k7 H,hq]at e;exact(n9 A hd e J hi R θ κ η h).wp u B
      .cases F
     .cases F
    .cases F
   .cases b
  .cases b
 case lan x=>
  split at b
  next t y e=>simp only[gR,beq_iff_eq]at b;exact(rL A hd e b.1 b.2 h).wp u B
  .cases b
 case nia x i=>
  split at b
  next t y j e=>simp only[gR,beq_iff_eq]at b;exact(rc A hd e b.1.1 b.1.2 b.2 h).wp u B
  .cases b
 case nld x=>
  split at b
  next t y e=>simp only[gR,beq_iff_eq]at b;exact(rd A hd e b.1 b.2 h).wp u B
  .cases b
 case nst x v=>cases M
 case AbA q=>
  split at b
  next t y e=>exact(oD A hd e b h).wp u B
  .cases b
 case AaI f ys i=>
  split at b
  .rename_i c e;split at b
   next g I=>simp only[gR,beq_iff_eq]at b;obtain⟨rfl,C⟩:=b;rw[DO I rfl rfl]at e;exact lL A hd u e C h B
   .cases b
  .cases b
 case mkm=>
  split at b
  .rename_i t r e;cases r with
   |none=>exact(rU A hd e h).wp u B|some r=>cases b
  .cases b
 case mvm s=>
  split at b
  next y e=>rw[Operand.k7 b]at e;exact(fV A hd (.inl e) h).wp u B
  next y e=>rw[Operand.k7 b]at e;exact(fV A hd (.inr e) h).wp u B
  .cases b
 case AaC f ys=>
  split at b
  .rename_i c e;split at b
   next g I=>simp only[gR,beq_iff_eq]at b;obtain⟨rfl,C⟩:=b;rw[DO I rfl rfl]at e;exact lV A hd u e C h B
   .cases b
  .cases b
 case mlk s m x=>
  split at b
  next t y z c e=>simp only[gR]at b;obtain⟨⟨⟨rfl,C⟩,D⟩,E⟩:=b;exact(rX A hd e C D E h).wp u B
  .cases b
 case mup s m x v=>cases M
 case stq n ζ x v=>cases M
 case ldg s n=>
  split at b
  next t y e=>simp only[gR,beq_iff_eq]at b;rw[Operand.k7 b.1.1]at e;exact(rM A hd e b.1.2 b.2 h).wp u B
  .cases b
 case pr s m=>
  split at b
  .rename_i t y e;simp only[gR]at b;obtain⟨C,D⟩:=b;split at D
   next k el J=>exact(rZ A hd e C J h).wp u B
   .cases D
  .cases b
 case mnx s=>
  split at b
  next y c e=>simp only[gR,w!]at b;obtain⟨rfl,C⟩:=b;rw[Operand.k7 C]at e;exact(rY A hd e h).wp u B
  .cases b
 case men s=>
  split at b
  next y e=>rw[Operand.k7 b]at e;exact(rR A hd e h).wp u B
  .cases b
end
end Go.Sf
namespace Go.Sf
open Go.RowKit (Below)
def Wq(ops:Array Oper)(o:Oper)(r:PR):Bool:=
 match r.guard,o.guard with
 |none,none=>X|some (g,b),Y (j,b')=>b==b'&&((ops[j]?).bind (·.dst))==Y g|_,_=>T
def L8(P:Program)(N:Nat)(ops:Array Oper)(o:Oper)(r:PR):Bool:=
 Wq ops o r&&(match o.dst,r.dst with
 |some d,Y d'=>d==d'&&decide (d<N)&&!OB r.op&&Qj P o.op r.op|none,none=>OB r.op&&Qj P o.op r.op|_,_=>T)
section
variable{P:Program}{F0:Nat->Nat->Prop}{w0:W0}{ε:AB}{a:Act}{w:World}{ops:Array Oper}{o:Oper}{r:PR}{N:Nat}{p:Option (Nat×Value)}{K:AB->Prop}{next:Act->World->Prop}{Q:Exit->Act->World->Prop}
theorem Bw.skip(b:Bw F0 w0 ε a w){d:Nat}(hd:d<a.tmps.size):Bw F0 w0 ((d,.sk)::ε) (a.put (Y d) undef) w:=by
 obtain ⟨G,h⟩:=b;exact⟨_,h.quiet (Below.refl _ _) d hd .sk undef (λ_=>none) V V V rfl trivial⟩
theorem OM{o:Oper}(b:o.dst=none){K:EV->AB->Prop}(h:IW P F0 w0 a w o K)(e:∀env' w',K .undef env'->Bw F0 w0 env' a w'->next a w'):o.wp P a w next Q:=by
 obtain ⟨w',c,env',f,g⟩:=h;unfold Oper.wp;rw[c,Oper.upon_skip,b];exact e _ _ f g
theorem xc{S:FuncId->Fq->As->Prop}{n s:Nat}{v:AF}{d:Option Nat}{ε:AB}{K:EV->AB->Prop}(h:(AE.stb n s v).wp S ε d K):(AE.st n (.s s) v).wp S ε d K:=by
 simp [AE.wp]at h|-
 grind [AF.place]
theorem X2(f:Bw F0 w0 ε a w)(D:Lq N p a)(M:∀i v,p=Y (i,v)->r.dst≠Y i)(O:L8 P N ops o r=X)(h:r.wp (AT P) ε K)
  (E:∀env' a' w',K env'->Lq N p a'->Bw F0 w0 env' a' w'->next a' w'):
  if Region.wanted o (yielded ops a.tmps)then o.wp P a w next Q else next (a.put o.dst undef) w:=by
 simp [L8]at O;obtain⟨J,hd⟩:=O;have S:r.op.wp (AT P) ε r.dst (λe env'=>K (env'.put r.dst e))->o.wp P a w next Q:=by
  intro A;obtain⟨G,f⟩:=f;cases ho:o.dst with
  |some d=>
   cases B:r.dst with
   |none=>rw[ho,B]at hd;cases hd
   |some d'=>
    rw [ho,B]at hd;simp[o4,w!]at hd;obtain⟨⟨⟨rfl,I⟩,L⟩,c⟩:=hd;rw[B]at A;exact pw f (D.size▸I) ho c L A λe env' a' w' k l k3=>E _ a' w' k (D.put (λi v ζ=>by rw[<-B];exact M i v ζ) l) k3
  |none=>
   cases B:r.dst with
   |some d'=>rw[ho,B]at hd;cases hd
   |none=>
    rw [ho,B]at hd;rw[B]at A;simp at hd;obtain⟨L,c⟩:=hd;generalize ζ:r.op=p at A L c;cases p<;>simp[OB]at L<;>first|cases L|skip
    .rename_i n x v;simp[Qj]at c;split at c
     next t y u e=>simp at c;exact OM ho (jL f e c.1.1 c.1.2 c.2 A) λenv' w' k l=>E env' a w' k D l
     .cases c
    .rename_i n s v;simp[Qj]at c;split at c
     next t y u e=>simp at c;rw[Operand.k7 c.1.1]at e;exact OM ho (jL f e (x':=.s s) so c.1.2 c.2 (xc A)) λenv' w' k l=>E env' a w' k D l
     .cases c
    .rename_i x v;simp[Qj]at c;split at c
     next t y u e=>simp at c;exact OM ho (rm f e c.1.1 c.1.2 c.2 A) λenv' w' k l=>E env' a w' k D l
     .cases c
    .rename_i n x q;simp[Qj]at c;split at c
     next t y u e=>simp at c;exact OM ho (rj f e c.1.1 c.1.2 c.2 A) λenv' w' k l=>E env' a w' k D l
     .cases c
    .rename_i x q;simp[Qj]at c;split at c
     next t y u e=>simp at c;exact OM ho (rC f e c.1.1 c.1.2 c.2 A) λenv' w' k l=>E env' a w' k D l
     .cases c
    .rename_i x v;simp[Qj]at c;split at c
     next t y u e=>simp at c;exact OM ho (rg f e c.1.1 c.1.2 c.2 A) λenv' w' k l=>E env' a w' k D l
     .cases c
    .rename_i n ps x v;simp[Qj]at c;split at c
     next t y u e=>simp at c;exact OM ho (ri f e c.1.1 c.1.2 c.2 A) λenv' w' k l=>E env' a w' k D l
     .cases c
    .rename_i s m x v;simp[Qj]at c;split at c
     next t y z u e=>simp at c;exact OM ho (ra f e c.1.1.1 c.1.1.2 c.1.2 c.2 A) λenv' w' k l=>E env' a w' k D l
     .cases c
 have θ:K (ε.put r.dst .sk)->next (a.put o.dst undef) w:=by
  intro δ;cases ho:o.dst with
  |some d=>
   cases B:r.dst with
   |none=>rw[ho,B]at hd;cases hd
   |some d'=>
    rw [ho,B]at hd;simp[o4,w!]at hd;obtain⟨⟨⟨rfl,I⟩,L⟩,c⟩:=hd;rw[B]at δ;exact E _ _ _ δ (D.put (λi v ζ=>by rw[<-B];exact M i v ζ) ⟨_,rfl⟩) (f.skip (D.size▸I))
  |none=>
   cases B:r.dst with
   |some d'=>rw[ho,B]at hd;cases hd
   |none=>rw[B]at δ;exact E _ _ _ δ D f
 unfold PR.wp at h;cases F:r.guard with
 |none=>
  rw [F]at h;cases C:o.guard with
  |none=>rw[Ne (by simp[Region.wanted,C])];exact S h|some g=>rw[Wq,F,C]at J;cases J
 |some gb=>
  obtain ⟨g,b⟩:=gb;rw[F]at h;cases C:o.guard with
  |none=>rw[Wq,F,C]at J;cases J
  |some jb=>
   obtain ⟨j,b'⟩:=jb;rw[Wq,F,C]at J;simp at J;obtain⟨rfl,hj⟩:=J;simp only at h;split at h
   .rename_i q R;have hv:slot a g=.bool q:=by
     obtain ⟨G,f⟩:=f;have:=Ah f R V;simpa only[AM,Aq]using this
    have H:g<a.tmps.size:=by
     obtain ⟨G,f⟩:=f;exact Bn f R V
    have Z:yielded ops a.tmps j=Y q:=by
     have I:a.tmps[g]?=Y (.bool q):=by
      rw [slot,w?,x_ H]at hv;rw[x_ H];simpa using hv
     simp [yielded,hj,I]
    have A:Region.wanted o (yielded ops a.tmps)=(q==b):=by
     simp only[Region.wanted,C,Z];cases q<;>cases b<;>rfl
    rw [A];by_cases κ:q=b
    .subst κ;rw[Ne V];exact S (h.1 rfl)
    .have η:q=!b:=by cases q<;>cases b<;>simp_all
     rw [QQ (by simpa using κ)];exact θ (h.2 η)
   .rename_i R;have hv:slot a g=undef:=by
     obtain ⟨G,f⟩:=f;have:=Ah f R V;simpa only[AM]using this
    have H:g<a.tmps.size:=by
     obtain ⟨G,f⟩:=f;exact Bn f R V
    have Z:yielded ops a.tmps j=none:=by
     have I:a.tmps[g]?=Y undef:=by
      rw [slot,w?,x_ H]at hv;rw[x_ H];simpa using hv
     simp [yielded,hj,I,undef]
    have A:Region.wanted o (yielded ops a.tmps)=T:=by
     simp only[Region.wanted,C,Z];cases b<;>rfl
    rw [A];exact θ h
   .exact h.elim
def Tr:List PR->Bool
 |[]=>X|r::rs=>(match r.op,r.dst,r.guard with|.frz _,none,none=>X|_,_,_=>T)&&Tr rs
variable{rs:List PR}
theorem tU:∀{ε:AB},Tr rs=X->wpOps (AT P) K rs ε->Bw F0 w0 ε a w->∃env',K env'/\Bw F0 w0 env' a w:=by
 induction rs with
 |nil=>intro ε _ h b;exact⟨ε,h,b⟩|cons r rs l=>
  intro ε c h b;simp[Tr]at c;obtain⟨e,k⟩:=c;split at e
  .rename_i s f g i;simp[wpOps,PR.wp,f,g,i,AE.wp]at h;split at h
   next cs j=>obtain⟨G,b⟩:=b;exact l k h (b.frz j)
   .exact h.elim
  .cases e
def NG(P:Program)(N:Nat)(ops:Array Oper):List Oper->List PR->Bool
 |[],rs=>Tr rs|o::os,r::rs=>L8 P N ops o r&&NG P N ops os rs|_::_,[]=>T
theorem Yx(m:∀ε a w,K ε->Lq N p a->Bw F0 w0 ε a w->Q .normal a w):∀(os:List Oper)(rs:List PR)(k:Nat),ops.toList.drop k=os->NG P N ops os rs=X->(∀i v,p=Y (i,v)->∀r∈rs,r.dst≠Y i)->∀(ε:AB)(a:Act)(w:World),Lq N p a->Bw F0 w0 ε a w ->
  wpOps (AT P) K rs ε->Go.wpOps P ops Q (List.range' k os.length) a w
 |[],rs,k,_,b,_,ε,a,w,g,j,h=>by
  obtain ⟨env',z,A⟩:=tU b h j;exact m env' a w z g A
 |o::os,[],k,_,b,_,_,_,_,_,_,_=>by simp[NG]at b|o::os,r::rs,k,hd,b,c,ε,a,w,g,j,h=>by
  simp [NG]at b;have y:ops[k]?=Y o:=by
   rw [<-Array.getElem?_toList];have:=congrArg (λl=>l[0]?) hd
   grind
  have f:ops.toList.drop (k+1)=os:=by
   grind [List.tail,List.tail_drop]
  simp [List.range'_succ];rw[Go.wpOps_cons];unfold Go.wpOp;rw[y];simp;have:=X2 (Q:=Q) (next:=Go.wpOps P ops Q (List.range' (k+1) os.length)) j g (λi v e=>c i v e r V) b.1 h λenv' a' w' q s t=>Yx m os rs (k+1) f b.2 (λi v e r u=>c i v e r g!) env' a' w' s t q
  grind
theorem fF{id:Nat}(b:NG P N ops ops.toList rs=X)(c:∀i v,p=Y (i,v)->∀r∈rs,r.dst≠Y i)(e:Lq N p a)(f:Bw F0 w0 ε a w)(h:wpOps (AT P) K rs ε)
  (g:∀ε a w,K ε->Lq N p a->Bw F0 w0 ε a w->Q .normal a w):(Code.region id ops T).wp P Q a w:=by
 refine Go.wp_region ?_;rw[List.range_eq_range',<-Array.length_toList];exact Yx g ops.toList rs 0 rfl b c ε a w e f h
end
end Go.Sf
