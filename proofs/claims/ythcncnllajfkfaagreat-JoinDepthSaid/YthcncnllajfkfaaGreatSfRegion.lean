/- One operation against the checker, and regions in the text's order. -/
import Derived.Test.YthcncnllajfkfaaGreatSfN
import Derived.Orders
set_option linter.all false
open Option renaming some->Y
open Bool renaming true->X,false->T
open Option renaming isNone_iff_eq_none->w_
open Bool renaming not_eq_true'->w!
open Array renaming getD_eq_getD_getElem?->w?,getElem?_eq_getElem->x_
namespace Go.Sf
open Go.RowKit (Below)
def Operand.Aav(n:Nat):Operand->Bool
 |.tmp m=>m==n|_=>T
variable{n:Nat}{x:Operand}
theorem Operand.r0(h:Operand.Aav n x=X):x=.tmp n:=by
 cases x<;>simp[Operand.Aav]at h;rw[h]
def YU:Operand->Bool
 |.const v=>Nz v|_=>T
theorem S2(h:YU x=X):∃v,x=.const v/\Nz v=X:=by
 cases x<;>simp[YU]at h;exact⟨_,rfl,h⟩
def WY(P:Program)(str:Bool)(c:Call)(x:AH):Bool:=
 match c.callee,c.args.toList,c.argTypes.toList with
 |.builtin .len,[y],[t]=>AK y x&&(match P.underlying t with|some (.slice _)=>!str|some .string=>str|_=>T)
 |_,_,_=>T
def WW(P:Program)(n:Nat)(c:Call)(x y:AH):Bool:=
 match c.callee,c.args.toList,c.argTypes.toList,x with
 |.builtin .append,[p,q],[t,t'],.s s=>Operand.Aav s p&&AK q y&&t==t'&&(match P.underlying t with
  |some (.slice e)=>(match P.info? e with
   |some i=>(match i.zero with|some z=>i.size==n&&decide (i.bytes<=4096)&&z.cells.size==n&&decide (0<n)|none=>T)
   |none=>T)
  |_=>T)
 |_,_,_,_=>T
def xR(mx:Bool)(c:Call)(x y:AH):Bool:=
 match c.callee,c.args.toList with
 |.builtin .max,[p,q]=>mx&&AK p x&&AK q y|.builtin .min,[p,q]=>!mx&&AK p x&&AK q y|_,_=>T
def RL(P:Program)(o:Op):AE->Bool
 |.mv x=>match o with|.move y|.assign y=>AK y x|_=>T
 |.tk s=>match o with|.move y|.assign y=>Operand.Aav s y|_=>T
 |.Abz _=>match o with|.move y|.assign y=>YU y|_=>T
 |.fad x k=>match o with|.fieldAddr t y f=>AK y x&&Q5 P t f==Y k|.move y|.assign y|.nilCheck y=>k==0&&AK y x|_=>T
 |.bad s k=>match o with|.indexAddr t y j=>Operand.Aav s y&&k9 P t j k|.fieldAddr t y f=>Operand.Aav s y&&Q5 P t f==Y k|.move y|.assign y|.nilCheck y=>k==0&&Operand.Aav s y|_=>T
 |.iad x i n=>match o with|.indexAddr t y j=>AK y x&&AK j i&&KI P t==Y n|_=>T
 |.aad x i n k=>match o with|.indexAddr t y j=>AK y x&&AK j i&&(match P.underlying t with|some (.array k' e)=>k'==k&&DB P e==Y n|_=>T)|_=>T
 |.ld x=>match o with|.load t y=>AK y x&&CL P t==Y T|_=>T
 |.fdv x k=>match o with|.fieldAddr t y f=>AK y x&&Q5 P t f==Y k|_=>T
 |.ldv x n=>match o with|.load t y=>AK y x&&CL P t==Y X&&DB P t==Y n|_=>T
 |.lda x n=>match o with|.load t y=>AK y x&&CL P t==Y X&&DB P t==Y n|_=>T
 |.ldb s n=>match o with|.load t y=>AK y (.s s)&&CL P t==Y X&&DB P t==Y n|_=>T
 |.ldt x=>match o with|.load t y=>AK y x&&CL P t==Y T|_=>T
 |.bin k op x y=>match o with|.binOp op' t p q _=>op'==op&&PZ P k t&&AK p x&&AK q y|_=>T
 |.not x=>match o with|.unOp op _ y=>op==.not&&AK y x|_=>T
 |.neg x=>match o with|.unOp op _ y=>op==.neg&&AK y x|_=>T
 |.pick c x y=>match o with|.pick c' p q=>AK c' c&&AK p x&&AK q y|_=>T
 |.len x=>match o with|.call c=>WY P T c x|_=>T
 |.AbL x=>match o with|.call c=>WY P X c x|_=>T
 |.slc n x lo hi=>match o with|.slice t y l h mx=>mx.isNone&&AK y x&&Pb l lo&&Pb h hi&&KI P t==Y n|_=>T
 |.Aam x lo hi=>match o with|.slice t y l h mx=>mx.isNone&&AK y x&&Pb l lo&&Pb h hi&&(match P.underlying t with|some .string=>X|_=>T)|_=>T
 |.bld z ps=>match o with|.build t qs=>lC P t z qs.toList ps|_=>T
 |.lst n ys=>match o with
  |.buildSlice t len ps=>(match P.underlying t with
   |some (.slice e)=>(match P.info? e with
    |some i=>(match i.zero with
     |some z=>i.size==n&&decide (0<n)&&z.cells.toList.all Value.oneCell'&&decide (0<z.cells.size)&&len==ps.size&&decide (len*n<=2^ 24)&&Ub 0 ps.toList ys|none=>T)
    |none=>T)
   |_=>T)
  |_=>T
 |.app n x y=>match o with|.call c=>WW P n c x y|_=>T
 |.call f ys=>match o with|.call c=>(match c.callee with|.value (.func g)=>g==f&&Bq c.args.toList ys|_=>T)|_=>T
 |.Abm x ys=>match o with|.call c=>(match c.callee with|.value g=>AK g x&&Bq c.args.toList ys|_=>T)|_=>T
 |.clo f cs=>match o with|.makeFunc (.func g) first xs=>g==f&&first.size==0&&Bq xs.toList cs|_=>T
 |.ext x i=>match o,x with|.extract y j,.s s=>Operand.Aav s y&&j==i|_,_=>T
 |.cvt k x=>match o with|.convert s t y=>AK y x&&(match P.underlying s,P.underlying t with|some (.int _),Y (.int k')=>k'==k|_,_=>T)|_=>T
 |.AaB x i=>match o with|.index t y j=>AK y x&&AK j i&&(match P.underlying t with|some .string=>X|_=>T)|_=>T
 |.Abr x=>match o with|.box _ y=>AK y x|_=>T
 |.AbB x=>match o with|.box _ y=>AK y x|_=>T
 |.mm mx x y=>match o with|.call c=>xR mx c x y|_=>T
 |.alc cs=>match o with|.alloc t=>(match P.info? t with|some i=>(match i.zero with|some z=>QL cs z.cells.toList|none=>T)|none=>T)|_=>T
 |.st n x v=>match o with|.store t y u=>AK y x&&AK u v&&DB P t==Y n|_=>T
 |.stb n s v=>match o with|.store t y u=>Operand.Aav s y&&AK u v&&DB P t==Y n|_=>T
 |.frz _=>T|.AbA x k n agg=>match o with|.field t y f=>AK y x&&lD P t f k n agg|_=>T
 |.xal s=>match o with|.move y|.assign y=>Operand.Aav s y|_=>T
 |.Abx x=>match o with|.call c=>WY P T c x|_=>T
 |.xia x i n=>match o with|.indexAddr t y j=>AK y x&&AK j i&&KI P t==Y n|_=>T
 |.xfa x k=>match o with|.fieldAddr t y f=>AK y x&&Q5 P t f==Y k|_=>T
 |.xld x=>match o with|.load t y=>AK y x&&CL P t==Y T|_=>T
 |.xst x v k=>match o with|.store t y u=>AK y x&&AK u v&&DB P t==Y k|_=>T
 |.rel s=>match o with|.move y|.assign y=>Operand.Aav s y|_=>T
 |.Abk _=>match o with|.move y|.assign y=>YU y|_=>T
 |.tkx s=>match o with|.move y|.assign y=>Operand.Aav s y|_=>T
 |.Aba n s y=>match o with|.call c=>WW P n c (.s s) y|_=>T
 |.AaL f ys=>match o with|.call c=>(match c.callee with|.value (.func g)=>g==f&&Bq c.args.toList ys|_=>T)|_=>T
 |.mkx n zero x=>match o with|.makeSlice t y z=>AK y x&&AK z x&&qY P t n zero|_=>T
 |.AaG f x ys=>match o with|.call c=>(match c.callee,c.args.toList with|.value (.func g),y::zs=>g==f&&(AK y x&&Bq zs ys)|_,_=>T)|_=>T
 |.Aa2 f x=>match o with|.call c=>(match c.callee,c.args.toList with|.value (.func g),[y]=>g==f&&AK y x|_,_=>T)|_=>T
 |.Abl n=>match o with|.buildSlice t len ps=>len==0&&ps.isEmpty&&fB P t n|_=>T
 |.Aao gs=>match o with|.build t ps=>ez P t ps.toList gs|_=>T
 |.stx n s q=>match o with|.store t y u=>AK y (.s s)&&AK u (.s q)&&DB P t==Y n|_=>T
 |.Aa7 f ys=>match o with|.call c=>(match c.callee with|.value (.func g)=>g==f&&Bq c.args.toList ys|_=>T)|_=>T
 |.AaE f ys=>match o with|.call c=>(match c.callee with|.value (.func g)=>g==f&&Bq c.args.toList ys|_=>T)|_=>T
 |.isn x=>match o with|.binOp op t y z _=>op==.eql&&AK y x&&Tm z&&cj P t|_=>T
 |.lac x=>match o with|.load t y=>AK y x&&CL P t==Y T|_=>T
 |.ctk x=>match o with|.load t y=>AK y x&&CL P t==Y T|_=>T
 |.cpt x q=>match o with|.store t y u=>AK y x&&AK u (.s q)&&DB P t==Y 1|_=>T
 |.cut n s hi=>match o with|.slice t y l (Y h) mx=>mx.isNone&&l.isNone&&Operand.Aav s y&&AK h hi&&KI P t==Y n|_=>T
 |.AaQ f ys=>match o with|.call c=>(match c.callee with|.value (.func g)=>g==f&&Bq c.args.toList ys|_=>T)|_=>T
 |.Abh _ x=>match o with|.box _ y=>AK y x|_=>T
 |.Aa8 f ys=>match o with|.call c=>(match c.callee with|.value (.func g)=>g==f&&Bq c.args.toList ys|_=>T)|_=>T
 |.Abo n s z x=>match o with|.call c=>nc P n s z x c|_=>T
 |.AaA f ys _=>match o with|.call c=>(match c.callee with|.value (.func g)=>g==f&&Bq c.args.toList ys|_=>T)|_=>T
 |.Abs q=>match o with|.buildSlice t len ps=>(match len,ps.toList with|1,[(0,x)]=>fA P t&&AK x (.s q)|_,_=>T)|_=>T
 |.AaO s q=>match o with|.call c=>WW P 1 c (.s s) (.s q)|_=>T
 |.lan x=>match o with|.load t y=>AK y x&&CL P t==Y T|_=>T
 |.nia x i=>match o with|.indexAddr t y j=>AK y x&&AK j i&&KI P t==Y 1|_=>T
 |.nld x=>match o with|.load t y=>AK y x&&CL P t==Y T|_=>T
 |.nst x v=>match o with|.store t y u=>AK y x&&AK u v&&DB P t==Y 1|_=>T
 |.AbG q=>match o with|.box _ y=>AK y (.s q)|_=>T
 |.AaP f ys _=>match o with|.call c=>(match c.callee with|.value (.func g)=>g==f&&Bq c.args.toList ys|_=>T)|_=>T
 |.ldg s n=>match o with|.load t y=>Operand.Aav s y&&CL P t==Y X&&DB P t==Y n|_=>T
 |.stq n _ x v=>match o with|.store t y u=>AK y x&&AK u v&&DB P t==Y n|_=>T
 |.mkm=>match o with|.makeMap _ r=>r.isNone|_=>T
 |.mvm s=>match o with|.move y|.assign y=>Operand.Aav s y|_=>T
 |.AaI f ys=>match o with|.call c=>(match c.callee with|.value (.func g)=>g==f&&Bq c.args.toList ys|_=>T)|_=>T
 |.mlk _ m x=>match o with|.lookup t y z c=>c&&RA P t&&AK y m&&AK z x|_=>T
 |.mup _ m x v=>match o with|.mapUpdate t y z u=>RA P t&&AK y m&&AK z x&&AK u v|_=>T
 |.x6 _ m=>match o with|.range t y=>AK y m&&(match P.underlying t with|some (.map _ _)=>X|_=>T)|_=>T
 |.mnx s=>match o with|.next y c=>!c&&Operand.Aav s y|_=>T
 |.men s=>match o with|.entry y=>Operand.Aav s y|_=>T
def Ov:AE->Bool
 |.st ..=>X|.stb ..=>X|.xst ..=>X|.stx ..=>X|.cpt ..=>X|.nst ..=>X|.mup ..=>X|.stq ..=>X|_=>T
section
variable{P:Program}{F0:Nat->Nat->Prop}{w0:W0}{O:AB}{a:Act}{w:World}{G:Bi}{d:Nat}{o:Oper}{K:EV->AB->Prop}
theorem BI.wp(h:BI P F0 w0 a w o d K)(b:o.dst=Y d){next:Act->World->Prop}{Q:Exit->Act->World->Prop}(f:∀e env' a' w',K e env'->SC a d a'->B9 F0 w0 ((d,e)::env') a' w'->next a' w'):o.wp P a w next Q:=by
 obtain ⟨v,w',c,e,env',g,i⟩:=h;unfold Oper.wp;rw[c,Oper.upon_value,b];exact f e env' _ w' g ⟨_,rfl⟩ i
variable{α:Type}
theorem HI{a:Array α}{x:α}(h:a.toList=[x]):a=#[x]:=by
 cases a;simp_all
theorem F6{a:Array α}{x y:α}(h:a.toList=[x,y]):a=#[x,y]:=by
 cases a;simp_all
theorem DM{c:Call}{ca:Callee}{b:Array Operand}{e:Array TypeId}(f:c.callee=ca)(g:c.args=b)(h:c.argTypes=e):c={callee:=ca,args:=b,argTypes:=e}:=by
 cases c;simp_all
theorem qa(A:AO F0 w0 O a w G)(hd:d<a.tmps.size)(u:o.dst=Y d){p:AE}(b:RL P o.op p=X)(M:Ov p=T)(h:p.wp (AV P) O (Y d) K)
  {next:Act->World->Prop}{Q:Exit->Act->World->Prop}(B:∀e env' a' w',K e env'->SC a d a'->B9 F0 w0 ((d,e)::env') a' w'->next a' w'):o.wp P a w next Q:=by
 cases p<;>simp only[RL]at b<;>try(exact absurd b Bool.false_ne_true)
 case mv x=>
  split at b
  next y e=>exact(jt A hd (.inl e) b h).wp u B
  next y e=>exact(jt A hd (.inr e) b h).wp u B
  .cases b
 case tk s=>
  split at b
  next y e=>rw[Operand.r0 b]at e;exact(jv A hd (.inl e) h).wp u B
  next y e=>rw[Operand.r0 b]at e;exact(jv A hd (.inr e) h).wp u B
  .cases b
 case Abz n=>
  split at b
  next y e=>exact(bW A hd (.inl e) (S2 b) h).wp u B
  next y e=>exact(bW A hd (.inr e) (S2 b) h).wp u B
  .cases b
 case fad x k=>
  split at b
  next t y f e=>simp only[pq,beq_iff_eq]at b;exact(Sh A hd (ZP e b.2) b.1 h).wp u B
  next y e=>simp only[pq,beq_iff_eq]at b;obtain⟨rfl,b⟩:=b;exact(Sh A hd (R6 (.inl e)) b h).wp u B
  next y e=>simp only[pq,beq_iff_eq]at b;obtain⟨rfl,b⟩:=b;exact(Sh A hd (R6 (.inr (.inl e))) b h).wp u B
  next y e=>simp only[pq,beq_iff_eq]at b;obtain⟨rfl,b⟩:=b;exact(Sh A hd (R6 (.inr (.inr e))) b h).wp u B
  .cases b
 case bad s k=>
  split at b
  next t y j e=>simp only[pq]at b;rw[Operand.r0 b.1]at e;exact(Sg A hd (tf e b.2) h).wp u B
  next t y f e=>simp only[pq,beq_iff_eq]at b;rw[Operand.r0 b.1]at e;exact(Sg A hd (ZP e b.2) h).wp u B
  next y e=>simp only[pq,beq_iff_eq]at b;obtain⟨rfl,b⟩:=b;rw[Operand.r0 b]at e;exact(Sg A hd (R6 (.inl e)) h).wp u B
  next y e=>simp only[pq,beq_iff_eq]at b;obtain⟨rfl,b⟩:=b;rw[Operand.r0 b]at e;exact(Sg A hd (R6 (.inr (.inl e))) h).wp u B
  next y e=>simp only[pq,beq_iff_eq]at b;obtain⟨rfl,b⟩:=b;rw[Operand.r0 b]at e;exact(Sg A hd (R6 (.inr (.inr e))) h).wp u B
  .cases b
 case iad x i n=>
  split at b
  next t y j e=>simp only[pq,beq_iff_eq]at b;exact(ru A hd e b.1.1 b.1.2 b.2 h).wp u B
  .cases b
 case aad x i n k=>
  split at b
  .rename_i t y j e;simp only[pq]at b;obtain⟨⟨C,D⟩,E⟩:=b;split at E
   next k' el J=>simp only[pq,beq_iff_eq]at E;obtain⟨rfl,H⟩:=E;exact(rg A hd e C D J H h).wp u B
   .cases E
  .cases b
 case ld x=>
  split at b
  next t y e=>simp only[pq,beq_iff_eq]at b;exact(vc A hd e b.1 b.2 h).wp u B
  .cases b
 case fdv x k=>
  split at b
  .rename_i t y f e;simp only[pq,beq_iff_eq]at b;refine(Sh (S:=AV P) A hd (ZP e b.2) b.1 ?_).wp u B;simp only[AE.wp]at h|-;split at h
   next row Z=>rw[pO A Z];exact h
   .exact h.elim
  .cases b
 case ldv x n=>
  split at b
  .rename_i t y e;simp only[pq,beq_iff_eq]at b;refine(Xq (S:=AV P) A hd e b.1.1 b.1.2 b.2 ?_).wp u B;simp only[AE.wp]at h|-;split at h
   next row Z=>rw[pO A Z];exact h
   .exact h.elim
  .cases b
 case lda x n=>
  split at b
  next t y e=>simp only[pq,beq_iff_eq]at b;exact(Xq A hd e b.1.1 b.1.2 b.2 h).wp u B
  .cases b
 case ldb s n=>
  split at b
  .rename_i t y e;simp only[pq,beq_iff_eq]at b;refine(Xq (S:=AV P) A hd e b.1.1 b.1.2 b.2 (y:=.s s) ?_).wp u B;simp only[AE.wp]at h|-;split at h
   next cs I=>simp only[AH.ev,I,BS,Ay];exact h
   .exact h.elim
  .cases b
 case ldt x=>
  split at b
  next t y e=>simp only[pq,beq_iff_eq]at b;exact(r8 A hd e b.1 b.2 h).wp u B
  .cases b
 case bin k op x y=>
  split at b
  next op' t p q δ e=>simp only[pq,beq_iff_eq]at b;obtain⟨⟨⟨rfl,C⟩,D⟩,E⟩:=b;exact(rj A hd e C D E h).wp u B
  .cases b
 case not x=>
  split at b
  next op t y e=>simp only[pq,beq_iff_eq]at b;obtain⟨rfl,C⟩:=b;exact(sM A hd e C h).wp u B
  .cases b
 case neg x=>
  split at b
  next op t y e=>simp only[pq,beq_iff_eq]at b;obtain⟨rfl,C⟩:=b;exact(sJ A hd e C h).wp u B
  .cases b
 case pick c x y=>
  split at b
  next c' p q e=>simp only[pq]at b;exact(pF A hd e b.1.1 b.1.2 b.2 h).wp u B
  .cases b
 case len x=>
  split at b
  .rename_i c e;unfold WY at b;split at b
   .rename_i y t C D E;simp only[pq]at b;obtain⟨H,L⟩:=b;split at L
    next el J=>rw[DM C (HI D) (HI E)]at e;exact(r9 A hd e H J h).wp u B
    .cases L
    .cases L
   .cases b
  .cases b
 case AbL x=>
  split at b
  .rename_i c e;unfold WY at b;split at b
   .rename_i y t C D E;simp only[pq]at b;obtain⟨H,L⟩:=b;split at L
    .cases L
    next J=>rw[DM C (HI D) (HI E)]at e;exact(pH A hd e H J h).wp u B
    .cases L
   .cases b
  .cases b
 case slc n x lo hi=>
  split at b
  next t y l hh mx e=>simp only[pq,beq_iff_eq,w_]at b;obtain⟨⟨⟨⟨rfl,C⟩,D⟩,E⟩,H⟩:=b;exact(sO A hd e C D E H h).wp u B
  .cases b
 case Aam x lo hi=>
  split at b
  .rename_i t y l hh mx e;simp only[pq,w_]at b;obtain⟨⟨⟨⟨rfl,C⟩,D⟩,E⟩,H⟩:=b;split at H
   next J=>exact(pI A hd e C D E J h).wp u B
   .cases H
  .cases b
 case bld z ζ=>
  split at b
  next t qs e=>exact(rk A hd e b h).wp u B
  .cases b
 case lst n ys=>
  split at b
  .rename_i t len ζ e;split at b
   .rename_i el J;split at b
    .rename_i i hi;split at b
     next z θ=>simp only[pq,beq_iff_eq,tn]at b;obtain⟨⟨⟨⟨⟨⟨C,D⟩,E⟩,H⟩,L⟩,F⟩,ε⟩:=b;exact(sA A hd e J hi θ C D E H L F ε h).wp u B
     .cases b
    .cases b
   .cases b
  .cases b
 case app n x y=>
  split at b
  .rename_i c e;unfold WW at b;split at b
   .rename_i p q t δ s C D E;simp only[pq,beq_iff_eq]at b;obtain⟨⟨⟨H,L⟩,rfl⟩,F⟩:=b;split at F
    .rename_i el J;split at F
     .rename_i i hi;split at F
      next z θ=>simp only[pq,beq_iff_eq,tn]at F;obtain⟨⟨⟨ε,κ⟩,η⟩,R⟩:=F;rw[DM C (F6 D) (F6 E),Operand.r0 H]at e;exact(ri A hd e J hi θ ε κ η R L h).wp u B
      .cases F
     .cases F
    .cases F
   .cases b
  .cases b
 case call f ys=>
  split at b
  .rename_i c e;split at b
   next g I=>simp only[pq,beq_iff_eq]at b;obtain⟨rfl,C⟩:=b;rw[DM I rfl rfl]at e;exact pA A hd u e C h B
   .cases b
  .cases b
 case Abm x ys=>
  split at b
  .rename_i c e;split at b
   next g I=>simp only[pq]at b;rw[DM I rfl rfl]at e;exact l8 A hd u e b.1 b.2 h B
   .cases b
  .cases b
 case clo f cs=>
  split at b
  .rename_i g first xs e
   simp only[pq,beq_iff_eq]at b;obtain⟨⟨rfl,C⟩,D⟩:=b;rw[Array.eq_empty_of_size_eq_zero C]at e;exact(rl A hd e D h).wp u B
  .cases b
 case ext x i=>
  split at b
  next y j s e=>simp only[pq,beq_iff_eq]at b;obtain⟨C,rfl⟩:=b;rw[Operand.r0 C]at e;exact(rt A hd e h).wp u B
  .cases b
 case cvt k x=>
  split at b
  .rename_i s t y e;simp only[pq]at b;obtain⟨C,D⟩:=b;split at D
   next k1 k2 hs ht=>simp only[beq_iff_eq]at D;subst D;exact(rr A hd e hs ht C h).wp u B
   .cases D
  .cases b
 case AaB x i=>
  split at b
  .rename_i t y j e;simp only[pq]at b;obtain⟨⟨C,D⟩,E⟩:=b;split at E
   next J=>exact(pG A hd e C D J h).wp u B
   .cases E
  .cases b
 case Abr x=>
  split at b
  next t y e=>exact(o9 A hd e b h).wp u B
  .cases b
 case AbB x=>
  split at b
  next t y e=>exact(o7 A hd e b h).wp u B
  .cases b
 case mm mx x y=>
  split at b
  .rename_i c e;unfold xR at b;split at b
   next p q C D=>simp only[pq]at b;obtain⟨⟨rfl,E⟩,H⟩:=b;rw[DM C (F6 D) rfl]at e;exact(jr (mx:=X) A hd e E H h).wp u B
   next p q C D=>simp only[pq,w!]at b;obtain⟨⟨rfl,E⟩,H⟩:=b;rw[DM C (F6 D) rfl]at e;exact(jr (mx:=T) A hd e E H h).wp u B
   .cases b
  .cases b
 case alc cs=>
  split at b
  .rename_i t e;split at b
   .rename_i i hi;split at b
    next z θ=>exact(rh A hd e hi θ b h).wp u B
    .cases b
   .cases b
  .cases b
 case st n x v=>cases M
 case stb n s v=>cases M
 case AbA x k n agg=>
  split at b
  next t y f e=>simp only[pq]at b;exact(pB A hd e b.1 b.2 h).wp u B
  .cases b
 case xal s=>
  split at b
  next y e=>rw[Operand.r0 b]at e;exact(gR A hd (.inl e) h).wp u B
  next y e=>rw[Operand.r0 b]at e;exact(gR A hd (.inr e) h).wp u B
  .cases b
 case rel s=>
  split at b
  next y e=>rw[Operand.r0 b]at e;exact(gP A hd (.inl e) h).wp u B
  next y e=>rw[Operand.r0 b]at e;exact(gP A hd (.inr e) h).wp u B
  .cases b
 case tkx s=>
  split at b
  next y e=>rw[Operand.r0 b]at e;exact(gQ A hd (.inl e) h).wp u B
  next y e=>rw[Operand.r0 b]at e;exact(gQ A hd (.inr e) h).wp u B
  .cases b
 case Abk n=>
  split at b
  next y e=>exact(bX A hd (.inl e) (S2 b) h).wp u B
  next y e=>exact(bX A hd (.inr e) (S2 b) h).wp u B
  .cases b
 case Abx x=>
  split at b
  .rename_i c e;unfold WY at b;split at b
   .rename_i y t C D E;simp only[pq]at b;obtain⟨H,L⟩:=b;split at L
    next el J=>rw[DM C (HI D) (HI E)]at e;exact(pJ A hd e H J h).wp u B
    .cases L
    .cases L
   .cases b
  .cases b
 case xia x i n=>
  split at b
  next t y j e=>simp only[pq,beq_iff_eq]at b;exact(sS A hd e b.1.1 b.1.2 b.2 h).wp u B
  .cases b
 case xfa x k=>
  split at b
  next t y f e=>simp only[pq,beq_iff_eq]at b;exact(sR A hd e b.1 b.2 h).wp u B
  .cases b
 case xld x=>
  split at b
  next t y e=>simp only[pq,beq_iff_eq]at b;exact(sT A hd e b.1 b.2 h).wp u B
  .cases b
 case xst x v k=>cases M
 case Aba n s y=>
  split at b
  .rename_i c e;unfold WW at b;split at b
   .rename_i p q t δ s' C D E h0;simp only[AH.s.injEq]at h0;subst h0;simp only[pq,beq_iff_eq]at b;obtain⟨⟨⟨H,L⟩,rfl⟩,F⟩:=b;split at F
    .rename_i el J;split at F
     .rename_i i hi;split at F
      next z θ=>simp only[pq,beq_iff_eq,tn]at F;obtain⟨⟨⟨ε,κ⟩,η⟩,R⟩:=F;rw[DM C (F6 D) (F6 E),Operand.r0 H]at e;exact(oz A hd e J hi θ ε κ η R L h).wp u B
      .cases F
     .cases F
    .cases F
   .cases b
  .cases b
 case AaL f ys=>
  split at b
  .rename_i c e;split at b
   next g I=>simp only[pq,beq_iff_eq]at b;obtain⟨rfl,C⟩:=b;rw[DM I rfl rfl]at e;exact l9 A hd u e C h B
   .cases b
  .cases b
 case mkx n zero x=>
  split at b
  next t y z e=>simp only[pq]at b;exact(vd A hd e b.1.1 b.1.2 b.2 h).wp u B
  .cases b
 case AaG f x ys=>
  split at b
  .rename_i c e;split at b
   next g y zs I ha=>simp only[pq,beq_iff_eq]at b;obtain⟨rfl,C,D⟩:=b;rw[DM I (show c.args=(y::zs).toArray by rw[<-ha]) rfl]at e;exact l6 A hd u e C D h B
   .cases b
  .cases b
 case Aa2 f x=>
  split at b
  .rename_i c e;split at b
   next g y I ha=>simp only[pq,beq_iff_eq]at b;obtain⟨rfl,C⟩:=b;rw[DM I (HI ha) rfl]at e;exact lv A hd u e C h B
   .cases b
  .cases b
 case Abl n=>
  split at b
  next t len ζ e=>simp only[pq,beq_iff_eq,Array.isEmpty_iff]at b;obtain⟨⟨rfl,rfl⟩,C⟩:=b;exact(pE A hd e C h).wp u B
  .cases b
 case Aao gs=>
  split at b
  next t ζ e=>exact(o5 A hd e b h).wp u B
  .cases b
 case stx n s q=>cases M
 case cpt x q=>cases M
 case lac x=>
  split at b
  next t y e=>simp only[pq,beq_iff_eq]at b;exact(ry A hd e b.1 b.2 h).wp u B
  .cases b
 case ctk x=>
  split at b
  next t y e=>simp only[pq,beq_iff_eq]at b;exact(rn A hd e b.1 b.2 h).wp u B
  .cases b
 case cut n s hi=>
  split at b
  next t y l hh mx e=>simp only[pq,beq_iff_eq,w_]at b;obtain⟨⟨⟨⟨rfl,rfl⟩,C⟩,D⟩,E⟩:=b;rw[Operand.r0 C]at e;exact(rq A hd e D E h).wp u B
  .cases b
 case AaQ f ys=>
  split at b
  .rename_i c e;split at b
   next g I=>simp only[pq,beq_iff_eq]at b;obtain⟨rfl,C⟩:=b;rw[DM I rfl rfl]at e;exact l5 A hd u e C h B
   .cases b
  .cases b
 case AaA f ys i=>
  split at b
  .rename_i c e;split at b
   next g I=>simp only[pq,beq_iff_eq]at b;obtain⟨rfl,C⟩:=b;rw[DM I rfl rfl]at e;exact lu A hd u e C h B
   .cases b
  .cases b
 case Aa8 f ys=>
  split at b
  .rename_i c e;split at b
   next g I=>simp only[pq,beq_iff_eq]at b;obtain⟨rfl,C⟩:=b;rw[DM I rfl rfl]at e;exact(lw A hd e C h).wp u B
   .cases b
  .cases b
 case Abo n s z x=>
  split at b
  .rename_i c e;unfold nc at b;split at b
   .rename_i p q t δ C D E;simp only[pq]at b;obtain⟨⟨H,L⟩,F⟩:=b;split at F
    .rename_i el kn J hu';split at F
     .rename_i i hi;split at F
      .rename_i zz θ;split at F
       next z0 hz0=>simp only[pq,beq_iff_eq,tn]at F;obtain⟨⟨⟨⟨rfl,ε⟩,κ⟩,η⟩,R⟩:=F;rw[DM C (F6 D) (F6 E),Operand.isTmp_eq' H]at e;exact(o0 A hd e J hu' hi θ ε κ (HI hz0) η R L h).wp u B
       .cases F
      .cases F
     .cases F
    .cases F
   .cases b
  .cases b
 case Abh ζ x=>
  split at b
  next t y e=>exact(o8 A hd e b h).wp u B
  .cases b
 case Aa7 f ys=>
  split at b
  .rename_i c e;split at b
   next g I=>simp only[pq,beq_iff_eq]at b;obtain⟨rfl,C⟩:=b;rw[DM I rfl rfl]at e;exact lz A hd u e C h B
   .cases b
  .cases b
 case AaE f ys=>
  split at b
  .rename_i c e;split at b
   next g I=>simp only[pq,beq_iff_eq]at b;obtain⟨rfl,C⟩:=b;rw[DM I rfl rfl]at e;exact iN A hd u e C h B
   .cases b
  .cases b
 case isn x=>
  split at b
  next op t y z δ e=>simp only[pq,beq_iff_eq]at b;obtain⟨⟨⟨rfl,C⟩,D⟩,E⟩:=b;exact(rx A hd e C D E h).wp u B
  .cases b
 case Abs q=>
  split at b
  .rename_i t len ζ e;split at b
   next x hps=>simp only[pq]at b;rw[HI hps]at e;exact(pC A hd e b.1 b.2 h).wp u B
   .cases b
  .cases b
 case AaO s q=>
  split at b
  .rename_i c e;unfold WW at b;split at b
   .rename_i p q' t δ s' C D E H;simp only[AH.s.injEq]at H;subst H;simp only[pq,beq_iff_eq]at b;obtain⟨⟨⟨H,L⟩,rfl⟩,F⟩:=b;split at F
    .rename_i el J;split at F
     .rename_i i hi;split at F
      .rename_i z θ;simp only[pq,beq_iff_eq,tn]at F;obtain⟨⟨⟨ε,κ⟩,η⟩,R⟩:=F;have hq:q'=.tmp q:=by
        cases q'<;>simp[AK]at L;rw[L]
       rw [DM C (F6 D) (F6 E),Operand.r0 H,hq]at e;exact(oy A hd e J hi θ ε κ η h).wp u B
      .cases F
     .cases F
    .cases F
   .cases b
  .cases b
 case lan x=>
  split at b
  next t y e=>simp only[pq,beq_iff_eq]at b;exact(r6 A hd e b.1 b.2 h).wp u B
  .cases b
 case nia x i=>
  split at b
  next t y j e=>simp only[pq,beq_iff_eq]at b;exact(sK A hd e b.1.1 b.1.2 b.2 h).wp u B
  .cases b
 case nld x=>
  split at b
  next t y e=>simp only[pq,beq_iff_eq]at b;exact(sL A hd e b.1 b.2 h).wp u B
  .cases b
 case nst x v=>cases M
 case AbG q=>
  split at b
  next t y e=>exact(o6 A hd e b h).wp u B
  .cases b
 case AaP f ys i=>
  split at b
  .rename_i c e;split at b
   next g I=>simp only[pq,beq_iff_eq]at b;obtain⟨rfl,C⟩:=b;rw[DM I rfl rfl]at e;exact ls A hd u e C h B
   .cases b
  .cases b
 case mkm=>
  split at b
  .rename_i t r e;cases r with
   |none=>exact(sC A hd e h).wp u B|some r=>cases b
  .cases b
 case mvm s=>
  split at b
  next y e=>rw[Operand.r0 b]at e;exact(gO A hd (.inl e) h).wp u B
  next y e=>rw[Operand.r0 b]at e;exact(gO A hd (.inr e) h).wp u B
  .cases b
 case AaI f ys=>
  split at b
  .rename_i c e;split at b
   next g I=>simp only[pq,beq_iff_eq]at b;obtain⟨rfl,C⟩:=b;rw[DM I rfl rfl]at e;exact l7 A hd u e C h B
   .cases b
  .cases b
 case mlk s m x=>
  split at b
  next t y z c e=>simp only[pq]at b;obtain⟨⟨⟨rfl,C⟩,D⟩,E⟩:=b;exact(sF A hd e C D E h).wp u B
  .cases b
 case mup s m x v=>cases M
 case stq n ζ x v=>cases M
 case ldg s n=>
  split at b
  next t y e=>simp only[pq,beq_iff_eq]at b;rw[Operand.r0 b.1.1]at e;exact(r7 A hd e b.1.2 b.2 h).wp u B
  .cases b
 case x6 s m=>
  split at b
  .rename_i t y e;simp only[pq]at b;obtain⟨C,D⟩:=b;split at D
   next k el J=>exact(sH A hd e C J h).wp u B
   .cases D
  .cases b
 case mnx s=>
  split at b
  next y c e=>simp only[pq,w!]at b;obtain⟨rfl,C⟩:=b;rw[Operand.r0 C]at e;exact(sG A hd e h).wp u B
  .cases b
 case men s=>
  split at b
  next y e=>rw[Operand.r0 b]at e;exact(sB A hd e h).wp u B
  .cases b
end
end Go.Sf
namespace Go.Sf
open Go.RowKit (Below)
def WX(ops:Array Oper)(o:Oper)(r:PR):Bool:=
 match r.guard,o.guard with
 |none,none=>X|some (g,b),Y (j,b')=>b==b'&&((ops[j]?).bind (·.dst))==Y g|_,_=>T
def Nw(P:Program)(N:Nat)(ops:Array Oper)(o:Oper)(r:PR):Bool:=
 WX ops o r&&(match o.dst,r.dst with
 |some d,Y d'=>d==d'&&decide (d<N)&&!Ov r.op&&RL P o.op r.op|none,none=>Ov r.op&&RL P o.op r.op|_,_=>T)
section
variable{P:Program}{F0:Nat->Nat->Prop}{w0:W0}{O:AB}{a:Act}{w:World}{ops:Array Oper}{o:Oper}{r:PR}{N:Nat}{p:Option (Nat×Value)}{K:AB->Prop}{next:Act->World->Prop}{Q:Exit->Act->World->Prop}
theorem B9.skip(b:B9 F0 w0 O a w){d:Nat}(hd:d<a.tmps.size):B9 F0 w0 ((d,.sk)::O) (a.put (Y d) undef) w:=by
 obtain ⟨G,h⟩:=b;exact⟨_,h.quiet (Below.refl _ _) d hd .sk undef (λ_=>none) V V V rfl trivial⟩
theorem O3{o:Oper}(b:o.dst=none){K:EV->AB->Prop}(h:If P F0 w0 a w o K)(e:∀env' w',K .undef env'->B9 F0 w0 env' a w'->next a w'):o.wp P a w next Q:=by
 obtain ⟨w',c,env',f,g⟩:=h;unfold Oper.wp;rw[c,Oper.upon_skip,b];exact e _ _ f g
theorem yd{S:FuncId->Fq->A9->Prop}{n s:Nat}{v:AH}{d:Option Nat}{O:AB}{K:EV->AB->Prop}(h:(AE.stb n s v).wp S O d K):(AE.st n (.s s) v).wp S O d K:=by
 simp [AE.wp]at h|-
 grind [AH.place]
theorem Xe(f:B9 F0 w0 O a w)(C:MT N p a)(L:∀i v,p=Y (i,v)->r.dst≠Y i)(M:Nw P N ops o r=X)(h:r.wp (AV P) O K)
  (D:∀env' a' w',K env'->MT N p a'->B9 F0 w0 env' a' w'->next a' w'):
  if Region.wanted o (yielded ops a.tmps)then o.wp P a w next Q else next (a.put o.dst undef) w:=by
 simp [Nw]at M;obtain⟨I,hd⟩:=M;have S:r.op.wp (AV P) O r.dst (λe env'=>K (env'.put r.dst e))->o.wp P a w next Q:=by
  intro A;obtain⟨G,f⟩:=f;cases ho:o.dst with
  |some d=>
   cases hr:r.dst with
   |none=>rw[ho,hr]at hd;cases hd
   |some Z=>
    rw [ho,hr]at hd;simp[tn,w!]at hd;obtain⟨⟨⟨rfl,H⟩,J⟩,c⟩:=hd;rw[hr]at A;exact qa f (C.size▸H) ho c J A λe env' a' w' k l k3=>D _ a' w' k (C.put (λi v η=>by rw[<-hr];exact L i v η) l) k3
  |none=>
   cases hr:r.dst with
   |some Z=>rw[ho,hr]at hd;cases hd
   |none=>
    rw [ho,hr]at hd;rw[hr]at A;simp at hd;obtain⟨J,c⟩:=hd;generalize η:r.op=p at A J c;cases p<;>simp[Ov]at J<;>first|cases J|skip
    .rename_i n x v;simp[RL]at c;split at c
     next t y u e=>simp at c;exact O3 ho (ju f e c.1.1 c.1.2 c.2 A) λenv' w' k l=>D env' a w' k C l
     .cases c
    .rename_i n s v;simp[RL]at c;split at c
     next t y u e=>simp at c;rw[Operand.r0 c.1.1]at e;exact O3 ho (ju f e (x':=.s s) q_ c.1.2 c.2 (yd A)) λenv' w' k l=>D env' a w' k C l
     .cases c
    .rename_i x v;simp[RL]at c;split at c
     next t y u e=>simp at c;exact O3 ho (sU f e c.1.1 c.1.2 c.2 A) λenv' w' k l=>D env' a w' k C l
     .cases c
    .rename_i n x q;simp[RL]at c;split at c
     next t y u e=>simp at c;exact O3 ho (sQ f e c.1.1 c.1.2 c.2 A) λenv' w' k l=>D env' a w' k C l
     .cases c
    .rename_i x q;simp[RL]at c;split at c
     next t y u e=>simp at c;exact O3 ho (rm f e c.1.1 c.1.2 c.2 A) λenv' w' k l=>D env' a w' k C l
     .cases c
    .rename_i x v;simp[RL]at c;split at c
     next t y u e=>simp at c;exact O3 ho (sN f e c.1.1 c.1.2 c.2 A) λenv' w' k l=>D env' a w' k C l
     .cases c
    .rename_i n ps x v;simp[RL]at c;split at c
     next t y u e=>simp at c;exact O3 ho (sP f e c.1.1 c.1.2 c.2 A) λenv' w' k l=>D env' a w' k C l
     .cases c
    .rename_i s m x v;simp[RL]at c;split at c
     next t y z u e=>simp at c;exact O3 ho (sI f e c.1.1.1 c.1.1.2 c.1.2 c.2 A) λenv' w' k l=>D env' a w' k C l
     .cases c
 have θ:K (O.put r.dst .sk)->next (a.put o.dst undef) w:=by
  intro ζ;cases ho:o.dst with
  |some d=>
   cases hr:r.dst with
   |none=>rw[ho,hr]at hd;cases hd
   |some Z=>
    rw [ho,hr]at hd;simp[tn,w!]at hd;obtain⟨⟨⟨rfl,H⟩,J⟩,c⟩:=hd;rw[hr]at ζ;exact D _ _ _ ζ (C.put (λi v η=>by rw[<-hr];exact L i v η) ⟨_,rfl⟩) (f.skip (C.size▸H))
  |none=>
   cases hr:r.dst with
   |some Z=>rw[ho,hr]at hd;cases hd
   |none=>rw[hr]at ζ;exact D _ _ _ ζ C f
 unfold PR.wp at h;cases E:r.guard with
 |none=>
  rw [E]at h;cases B:o.guard with
  |none=>rw[ac (by simp[Region.wanted,B])];exact S h|some g=>rw[WX,E,B]at I;cases I
 |some gb=>
  obtain ⟨g,b⟩:=gb;rw[E]at h;cases B:o.guard with
  |none=>rw[WX,E,B]at I;cases I
  |some jb=>
   obtain ⟨j,b'⟩:=jb;rw[WX,E,B]at I;simp at I;obtain⟨rfl,hj⟩:=I;simp only at h;split at h
   .rename_i q R;have hv:slot a g=.bool q:=by
     obtain ⟨G,f⟩:=f;have:=At f R V;simpa only[AN,A1]using this
    have F:g<a.tmps.size:=by
     obtain ⟨G,f⟩:=f;exact Bw f R V
    have δ:yielded ops a.tmps j=Y q:=by
     have H:a.tmps[g]?=Y (.bool q):=by
      rw [slot,w?,x_ F]at hv;rw[x_ F];simpa using hv
     simp [yielded,hj,H]
    have A:Region.wanted o (yielded ops a.tmps)=(q==b):=by
     simp only[Region.wanted,B,δ];cases q<;>cases b<;>rfl
    rw [A];by_cases ε:q=b
    .subst ε;rw[ac V];exact S (h.1 rfl)
    .have κ:q=!b:=by cases q<;>cases b<;>simp_all
     rw [ae t_];exact θ (h.2 κ)
   .rename_i R;have hv:slot a g=undef:=by
     obtain ⟨G,f⟩:=f;have:=At f R V;simpa only[AN]using this
    have F:g<a.tmps.size:=by
     obtain ⟨G,f⟩:=f;exact Bw f R V
    have δ:yielded ops a.tmps j=none:=by
     have H:a.tmps[g]?=Y undef:=by
      rw [slot,w?,x_ F]at hv;rw[x_ F];simpa using hv
     simp [yielded,hj,H,undef]
    have A:Region.wanted o (yielded ops a.tmps)=T:=by
     simp only[Region.wanted,B,δ];cases b<;>rfl
    rw [A];exact θ h
   .exact h.elim
def UZ:List PR->Bool
 |[]=>X|r::rs=>(match r.op,r.dst,r.guard with|.frz _,none,none=>X|_,_,_=>T)&&UZ rs
variable{rs:List PR}
theorem uH:∀{O:AB},UZ rs=X->wpOps (AV P) K rs O->B9 F0 w0 O a w->∃env',K env'/\B9 F0 w0 env' a w:=by
 induction rs with
 |nil=>intro O _ h b;exact⟨O,h,b⟩|cons r rs l=>
  intro O c h b;simp[UZ]at c;obtain⟨e,k⟩:=c;split at e
  .rename_i s f g i;simp[wpOps,PR.wp,f,g,i,AE.wp]at h;split at h
   next cs j=>obtain⟨G,b⟩:=b;exact l k h (b.frz j)
   .exact h.elim
  .cases e
def N3(P:Program)(N:Nat)(ops:Array Oper):List Oper->List PR->Bool
 |[],rs=>UZ rs|o::os,r::rs=>Nw P N ops o r&&N3 P N ops os rs|_::_,[]=>T
theorem Yc(m:∀O a w,K O->MT N p a->B9 F0 w0 O a w->Q .normal a w):∀(os:List Oper)(rs:List PR)(k:Nat),ops.toList.drop k=os->N3 P N ops os rs=X->(∀i v,p=Y (i,v)->∀r∈rs,r.dst≠Y i)->∀(O:AB)(a:Act)(w:World),MT N p a->B9 F0 w0 O a w ->
  wpOps (AV P) K rs O->Go.wpOps P ops Q (List.range' k os.length) a w
 |[],rs,k,_,b,_,O,a,w,g,j,h=>by
  obtain ⟨env',y,z⟩:=uH b h j;exact m env' a w y g z
 |o::os,[],k,_,b,_,_,_,_,_,_,_=>by simp[N3]at b|o::os,r::rs,k,hd,b,c,O,a,w,g,j,h=>by
  simp [N3]at b;have u:ops[k]?=Y o:=by
   rw [<-Array.getElem?_toList];have:=congrArg (λl=>l[0]?) hd
   grind
  have f:ops.toList.drop (k+1)=os:=by
   grind [List.tail,List.tail_drop]
  simp [List.range'_succ];rw[Go.wpOps_cons];unfold Go.wpOp;rw[u];simp;have:=Xe (Q:=Q) (next:=Go.wpOps P ops Q (List.range' (k+1) os.length)) j g (λi v e=>c i v e r V) b.1 h λenv' a' w' q s t=>Yc m os rs (k+1) f b.2 (λi v e r hr=>c i v e r (by simp[hr])) env' a' w' s t q
  grind
theorem fw{id:Nat}(b:N3 P N ops ops.toList rs=X)(c:∀i v,p=Y (i,v)->∀r∈rs,r.dst≠Y i)(e:MT N p a)(f:B9 F0 w0 O a w)(h:wpOps (AV P) K rs O)
  (g:∀O a w,K O->MT N p a->B9 F0 w0 O a w->Q .normal a w):(Code.region id ops T).wp P Q a w:=by
 refine Go.wp_region ?_;rw[List.range_eq_range',<-Array.length_toList];exact Yc g ops.toList rs 0 rfl b c O a w e f h
end
end Go.Sf
