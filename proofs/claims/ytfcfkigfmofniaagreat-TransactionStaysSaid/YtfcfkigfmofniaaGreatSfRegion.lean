/- One operation against the checker, and regions in the text's order. -/
import Derived.Test.YtfcfkigfmofniaaGreatSfN
import Derived.Orders
set_option linter.all false
namespace Go.Sf
open Go.RowKit (Below)
def Operand.yU(n:Nat):Operand->Bool
 |.tmp m=>m==n|_=>false
variable{n:Nat}{x:Operand}
theorem Operand.pq(h:Operand.yU n x=true):x=.tmp n:=by
 cases x<;>simp[Operand.yU]at h;rw[h]
def WW:Operand->Bool
 |.const v=>L8 v|_=>false
theorem Q3(h:WW x=true):∃v,x=.const v/\L8 v=true:=by
 cases x<;>simp[WW]at h;exact⟨_,rfl,h⟩
def Uw(P:Program)(str:Bool)(c:Call)(x:AE):Bool:=
 match c.callee,c.args.toList,c.argTypes.toList with
 |.builtin .len,[y],[t]=>AK y x&&(match P.underlying t with|some (.slice _)=>!str|some .string=>str|_=>false)
 |_,_,_=>false
def Uu(P:Program)(n:Nat)(c:Call)(x y:AE):Bool:=
 match c.callee,c.args.toList,c.argTypes.toList,x with
 |.builtin .append,[p,q],[t,t'],.s s=>Operand.yU s p&&AK q y&&t==t'&&(match P.underlying t with
  |some (.slice e)=>(match P.info? e with
   |some i=>(match i.zero with|some z=>i.size==n&&decide (i.bytes<=4096)&&z.cells.size==n&&decide (0<n)|none=>false)
   |none=>false)
  |_=>false)
 |_,_,_,_=>false
def rc(mx:Bool)(c:Call)(x y:AE):Bool:=
 match c.callee,c.args.toList with
 |.builtin .max,[p,q]=>mx&&AK p x&&AK q y|.builtin .min,[p,q]=>!mx&&AK p x&&AK q y|_,_=>false
def Po(P:Program)(o:Op):AD->Bool
 |.mv x=>match o with|.move y|.assign y=>AK y x|_=>false
 |.tk s=>match o with|.move y|.assign y=>Operand.yU s y|_=>false
 |.Aat _=>match o with|.move y|.assign y=>WW y|_=>false
 |.y5 x k=>match o with|.fieldAddr t y f=>AK y x&&PN P t f==some k|.move y|.assign y|.nilCheck y=>k==0&&AK y x|_=>false
 |.bad s k=>match o with|.indexAddr t y j=>Operand.yU s y&&ee P t j k|.fieldAddr t y f=>Operand.yU s y&&PN P t f==some k|.move y|.assign y|.nilCheck y=>k==0&&Operand.yU s y|_=>false
 |.iad x i n=>match o with|.indexAddr t y j=>AK y x&&AK j i&&It P t==some n|_=>false
 |.zr x i n k=>match o with|.indexAddr t y j=>AK y x&&AK j i&&(match P.underlying t with|some (.array k' e)=>k'==k&&Ce P e==some n|_=>false)|_=>false
 |.ld x=>match o with|.load t y=>AK y x&&Br P t==some false|_=>false
 |.fdv x k=>match o with|.fieldAddr t y f=>AK y x&&PN P t f==some k|_=>false
 |.ldv x n=>match o with|.load t y=>AK y x&&Br P t==some true&&Ce P t==some n|_=>false
 |.lda x n=>match o with|.load t y=>AK y x&&Br P t==some true&&Ce P t==some n|_=>false
 |.ldb s n=>match o with|.load t y=>AK y (.s s)&&Br P t==some true&&Ce P t==some n|_=>false
 |.ldt x=>match o with|.load t y=>AK y x&&Br P t==some false|_=>false
 |.bin k op x y=>match o with|.binOp op' t p q _=>op'==op&&Np P k t&&AK p x&&AK q y|_=>false
 |.not x=>match o with|.unOp op _ y=>op==.not&&AK y x|_=>false
 |.neg x=>match o with|.unOp op _ y=>op==.neg&&AK y x|_=>false
 |.pick c x y=>match o with|.pick c' p q=>AK c' c&&AK p x&&AK q y|_=>false
 |.len x=>match o with|.call c=>Uw P false c x|_=>false
 |.AaA x=>match o with|.call c=>Uw P true c x|_=>false
 |.y9 n x lo hi=>match o with|.slice t y l h mx=>mx.isNone&&AK y x&&Nr l lo&&Nr h hi&&It P t==some n|_=>false
 |.yu x lo hi=>match o with|.slice t y l h mx=>mx.isNone&&AK y x&&Nr l lo&&Nr h hi&&(match P.underlying t with|some .string=>true|_=>false)|_=>false
 |.z7 z ps=>match o with|.build t qs=>ef P t z qs.toList ps|_=>false
 |.lst n ys=>match o with
  |.buildSlice t len ps=>(match P.underlying t with
   |some (.slice e)=>(match P.info? e with
    |some i=>(match i.zero with
     |some z=>i.size==n&&decide (0<n)&&z.cells.toList.all Value.oneCell'&&decide (0<z.cells.size)&&len==ps.size&&decide (len*n<=2^ 24)&&Sj 0 ps.toList ys|none=>false)
    |none=>false)
   |_=>false)
  |_=>false
 |.app n x y=>match o with|.call c=>Uu P n c x y|_=>false
 |.call f ys=>match o with|.call c=>(match c.callee with|.value (.func g)=>g==f&&BO c.args.toList ys|_=>false)|_=>false
 |.Aaj x ys=>match o with|.call c=>(match c.callee with|.value g=>AK g x&&BO c.args.toList ys|_=>false)|_=>false
 |.zc f cs=>match o with|.makeFunc (.func g) first xs=>g==f&&first.size==0&&BO xs.toList cs|_=>false
 |.ext x i=>match o,x with|.extract y j,.s s=>Operand.yU s y&&j==i|_,_=>false
 |.y8 k x=>match o with|.convert s t y=>AK y x&&(match P.underlying s,P.underlying t with|some (.int _),some (.int k')=>k'==k|_,_=>false)|_=>false
 |.za x i=>match o with|.index t y j=>AK y x&&AK j i&&(match P.underlying t with|some .string=>true|_=>false)|_=>false
 |.Aak x=>match o with|.box _ y=>AK y x|_=>false
 |.Aau x=>match o with|.box _ y=>AK y x|_=>false
 |.mm mx x y=>match o with|.call c=>rc mx c x y|_=>false
 |.alc cs=>match o with|.alloc t=>(match P.info? t with|some i=>(match i.zero with|some z=>OZ cs z.cells.toList|none=>false)|none=>false)|_=>false
 |.st n x v=>match o with|.store t y u=>AK y x&&AK u v&&Ce P t==some n|_=>false
 |.stb n s v=>match o with|.store t y u=>Operand.yU s y&&AK u v&&Ce P t==some n|_=>false
 |.frz _=>false|.AaE x k n agg=>match o with|.field t y f=>AK y x&&eh P t f k n agg|_=>false
 |.xal s=>match o with|.move y|.assign y=>Operand.yU s y|_=>false
 |.Aas x=>match o with|.call c=>Uw P false c x|_=>false
 |.xia x i n=>match o with|.indexAddr t y j=>AK y x&&AK j i&&It P t==some n|_=>false
 |.xfa x k=>match o with|.fieldAddr t y f=>AK y x&&PN P t f==some k|_=>false
 |.xld x=>match o with|.load t y=>AK y x&&Br P t==some false|_=>false
 |.xst x v k=>match o with|.store t y u=>AK y x&&AK u v&&Ce P t==some k|_=>false
 |.rel s=>match o with|.move y|.assign y=>Operand.yU s y|_=>false
 |.Aaf _=>match o with|.move y|.assign y=>WW y|_=>false
 |.tkx s=>match o with|.move y|.assign y=>Operand.yU s y|_=>false
 |.zY n s y=>match o with|.call c=>Uu P n c (.s s) y|_=>false
 |.zl f ys=>match o with|.call c=>(match c.callee with|.value (.func g)=>g==f&&BO c.args.toList ys|_=>false)|_=>false
 |.z8 n zero x=>match o with|.makeSlice t y z=>AK y x&&AK z x&&ky P t n zero|_=>false
 |.zj f x ys=>match o with|.call c=>(match c.callee,c.args.toList with|.value (.func g),y::zs=>g==f&&(AK y x&&BO zs ys)|_,_=>false)|_=>false
 |.zO f x=>match o with|.call c=>(match c.callee,c.args.toList with|.value (.func g),[y]=>g==f&&AK y x|_,_=>false)|_=>false
 |.Aac n=>match o with|.buildSlice t len ps=>len==0&&ps.isEmpty&&aM P t n|_=>false
 |.yt gs=>match o with|.build t ps=>aK P t ps.toList gs|_=>false
 |.stx n s q=>match o with|.store t y u=>AK y (.s s)&&AK u (.s q)&&Ce P t==some n|_=>false
 |.zV f ys=>match o with|.call c=>(match c.callee with|.value (.func g)=>g==f&&BO c.args.toList ys|_=>false)|_=>false
 |.zi f ys=>match o with|.call c=>(match c.callee with|.value (.func g)=>g==f&&BO c.args.toList ys|_=>false)|_=>false
 |.isn x=>match o with|.binOp op t y z _=>op==.eql&&AK y x&&Rs z&&ZC P t|_=>false
 |.lac x=>match o with|.load t y=>AK y x&&Br P t==some false|_=>false
 |.ctk x=>match o with|.load t y=>AK y x&&Br P t==some false|_=>false
 |.cpt x q=>match o with|.store t y u=>AK y x&&AK u (.s q)&&Ce P t==some 1|_=>false
 |.cut n s hi=>match o with|.slice t y l (some h) mx=>mx.isNone&&l.isNone&&Operand.yU s y&&AK h hi&&It P t==some n|_=>false
 |.zx f ys=>match o with|.call c=>(match c.callee with|.value (.func g)=>g==f&&BO c.args.toList ys|_=>false)|_=>false
 |.Aal _ x=>match o with|.box _ y=>AK y x|_=>false
 |.zW f ys=>match o with|.call c=>(match c.callee with|.value (.func g)=>g==f&&BO c.args.toList ys|_=>false)|_=>false
 |.Aae n s z x=>match o with|.call c=>iK P n s z x c|_=>false
 |.y6 f ys _=>match o with|.call c=>(match c.callee with|.value (.func g)=>g==f&&BO c.args.toList ys|_=>false)|_=>false
 |.Aan q=>match o with|.buildSlice t len ps=>(match len,ps.toList with|1,[(0,x)]=>aL P t&&AK x (.s q)|_,_=>false)|_=>false
 |.zu s q=>match o with|.call c=>Uu P 1 c (.s s) (.s q)|_=>false
 |.lan x=>match o with|.load t y=>AK y x&&Br P t==some false|_=>false
 |.nia x i=>match o with|.indexAddr t y j=>AK y x&&AK j i&&It P t==some 1|_=>false
 |.nld x=>match o with|.load t y=>AK y x&&Br P t==some false|_=>false
 |.nst x v=>match o with|.store t y u=>AK y x&&AK u v&&Ce P t==some 1|_=>false
 |.Aay q=>match o with|.box _ y=>AK y (.s q)|_=>false
 |.zv f ys _=>match o with|.call c=>(match c.callee with|.value (.func g)=>g==f&&BO c.args.toList ys|_=>false)|_=>false
 |.ldg s n=>match o with|.load t y=>Operand.yU s y&&Br P t==some true&&Ce P t==some n|_=>false
 |.stq n _ x v=>match o with|.store t y u=>AK y x&&AK u v&&Ce P t==some n|_=>false
 |.mkm=>match o with|.makeMap _ r=>r.isNone|_=>false
 |.mvm s=>match o with|.move y|.assign y=>Operand.yU s y|_=>false
 |.zm f ys=>match o with|.call c=>(match c.callee with|.value (.func g)=>g==f&&BO c.args.toList ys|_=>false)|_=>false
 |.mlk _ m x=>match o with|.lookup t y z c=>c&&PU P t&&AK y m&&AK z x|_=>false
 |.mup _ m x v=>match o with|.mapUpdate t y z u=>PU P t&&AK y m&&AK z x&&AK u v|_=>false
 |.x7 _ m=>match o with|.range t y=>AK y m&&(match P.underlying t with|some (.map _ _)=>true|_=>false)|_=>false
 |.mnx s=>match o with|.next y c=>!c&&Operand.yU s y|_=>false
 |.men s=>match o with|.entry y=>Operand.yU s y|_=>false
def NA:AD->Bool
 |.st ..=>true|.stb ..=>true|.xst ..=>true|.stx ..=>true|.cpt ..=>true|.nst ..=>true|.mup ..=>true|.stq ..=>true|_=>false
section
variable{P:Program}{F0:Nat->Nat->Prop}{w0:W0}{O:AB}{a:Act}{w:World}{G:BH}{d:Nat}{o:Oper}{K:EV->AB->Prop}
theorem At.wp(h:At P F0 w0 a w o d K)(b:o.dst=some d){next:Act->World->Prop}{Q:Exit->Act->World->Prop}(f:∀e env' a' w',K e env'->QS a d a'->Bg F0 w0 ((d,e)::env') a' w'->next a' w'):o.wp P a w next Q:=by
 obtain ⟨v,w',c,e,env',g,i⟩:=h;unfold Oper.wp;rw[c,Oper.upon_value,b];exact f e env' _ w' g ⟨_,rfl⟩ i
variable{α:Type}
theorem F7{a:Array α}{x:α}(h:a.toList=[x]):a=#[x]:=by
 cases a;simp_all
theorem Ex{a:Array α}{x y:α}(h:a.toList=[x,y]):a=#[x,y]:=by
 cases a;simp_all
theorem Cn{c:Call}{b:Callee}{e:Array Operand}{f:Array TypeId}(g:c.callee=b)(h:c.args=e)(i:c.argTypes=f):c={callee:=b,args:=e,argTypes:=f}:=by
 cases c;simp_all
theorem k7(A:AN F0 w0 O a w G)(hd:d<a.tmps.size)(u:o.dst=some d){p:AD}(b:Po P o.op p=true)(M:NA p=false)(h:p.wp (AX P) O (some d) K)
  {next:Act->World->Prop}{Q:Exit->Act->World->Prop}(B:∀e env' a' w',K e env'->QS a d a'->Bg F0 w0 ((d,e)::env') a' w'->next a' w'):o.wp P a w next Q:=by
 cases p<;>simp only[Po]at b<;>try(exact absurd b Bool.false_ne_true)
 case mv x=>
  split at b
  .rename_i y e;exact(dW A hd (.inl e) b h).wp u B
  .rename_i y e;exact(dW A hd (.inr e) b h).wp u B
  .cases b
 case tk s=>
  split at b
  .rename_i y e;rw[Operand.pq b]at e;exact(dY A hd (.inl e) h).wp u B
  .rename_i y e;rw[Operand.pq b]at e;exact(dY A hd (.inr e) h).wp u B
  .cases b
 case Aat n=>
  split at b
  .rename_i y e;exact(Ys A hd (.inl e) (Q3 b) h).wp u B
  .rename_i y e;exact(Ys A hd (.inr e) (Q3 b) h).wp u B
  .cases b
 case y5 x k=>
  split at b
  .rename_i t y f e;simp only[sr,beq_iff_eq]at b;exact(Qn A hd (XT e b.2) b.1 h).wp u B
  .rename_i y e;simp only[sr,beq_iff_eq]at b;obtain⟨rfl,b⟩:=b;exact(Qn A hd (QM (.inl e)) b h).wp u B
  .rename_i y e;simp only[sr,beq_iff_eq]at b;obtain⟨rfl,b⟩:=b;exact(Qn A hd (QM (.inr (.inl e))) b h).wp u B
  .rename_i y e;simp only[sr,beq_iff_eq]at b;obtain⟨rfl,b⟩:=b;exact(Qn A hd (QM (.inr (.inr e))) b h).wp u B
  .cases b
 case bad s k=>
  split at b
  .rename_i t y j e;simp only[sr]at b;rw[Operand.pq b.1]at e;exact(Qm A hd (oA e b.2) h).wp u B
  .rename_i t y f e;simp only[sr,beq_iff_eq]at b;rw[Operand.pq b.1]at e;exact(Qm A hd (XT e b.2) h).wp u B
  .rename_i y e;simp only[sr,beq_iff_eq]at b;obtain⟨rfl,b⟩:=b;rw[Operand.pq b]at e;exact(Qm A hd (QM (.inl e)) h).wp u B
  .rename_i y e;simp only[sr,beq_iff_eq]at b;obtain⟨rfl,b⟩:=b;rw[Operand.pq b]at e;exact(Qm A hd (QM (.inr (.inl e))) h).wp u B
  .rename_i y e;simp only[sr,beq_iff_eq]at b;obtain⟨rfl,b⟩:=b;rw[Operand.pq b]at e;exact(Qm A hd (QM (.inr (.inr e))) h).wp u B
  .cases b
 case iad x i n=>
  split at b
  .rename_i t y j e;simp only[sr,beq_iff_eq]at b;exact(mM A hd e b.1.1 b.1.2 b.2 h).wp u B
  .cases b
 case zr x i n k=>
  split at b
  .rename_i t y j e;simp only[sr]at b;obtain⟨⟨C,D⟩,E⟩:=b;split at E
   .rename_i k' el J;simp only[sr,beq_iff_eq]at E;obtain⟨rfl,H⟩:=E;exact(mA A hd e C D J H h).wp u B
   .cases E
  .cases b
 case ld x=>
  split at b
  .rename_i t y e;simp only[sr,beq_iff_eq]at b;exact(pu A hd e b.1 b.2 h).wp u B
  .cases b
 case fdv x k=>
  split at b
  .rename_i t y f e;simp only[sr,beq_iff_eq]at b;refine(Qn (S:=AX P) A hd (XT e b.2) b.1 ?_).wp u B;simp only[AD.wp]at h|-;split at h
   .rename_i row Z;rw[jw A Z];exact h
   .exact h.elim
  .cases b
 case ldv x n=>
  split at b
  .rename_i t y e;simp only[sr,beq_iff_eq]at b;refine(Vr (S:=AX P) A hd e b.1.1 b.1.2 b.2 ?_).wp u B;simp only[AD.wp]at h|-;split at h
   .rename_i row Z;rw[jw A Z];exact h
   .exact h.elim
  .cases b
 case lda x n=>
  split at b
  .rename_i t y e;simp only[sr,beq_iff_eq]at b;exact(Vr A hd e b.1.1 b.1.2 b.2 h).wp u B
  .cases b
 case ldb s n=>
  split at b
  .rename_i t y e;simp only[sr,beq_iff_eq]at b;refine(Vr (S:=AX P) A hd e b.1.1 b.1.2 b.2 (y:=.s s) ?_).wp u B;simp only[AD.wp]at h|-;split at h
   .rename_i cs I;simp only[AE.ev,I,A3,Ad];exact h
   .exact h.elim
  .cases b
 case ldt x=>
  split at b
  .rename_i t y e;simp only[sr,beq_iff_eq]at b;exact(mR A hd e b.1 b.2 h).wp u B
  .cases b
 case bin k op x y=>
  split at b
  .rename_i op' t p q Y e;simp only[sr,beq_iff_eq]at b;obtain⟨⟨⟨rfl,C⟩,D⟩,E⟩:=b;exact(mE A hd e C D E h).wp u B
  .cases b
 case not x=>
  split at b
  .rename_i op t y e;simp only[sr,beq_iff_eq]at b;obtain⟨rfl,C⟩:=b;exact(me A hd e C h).wp u B
  .cases b
 case neg x=>
  split at b
  .rename_i op t y e;simp only[sr,beq_iff_eq]at b;obtain⟨rfl,C⟩:=b;exact(mb A hd e C h).wp u B
  .cases b
 case pick c x y=>
  split at b
  .rename_i c' p q e;simp only[sr]at b;exact(jm A hd e b.1.1 b.1.2 b.2 h).wp u B
  .cases b
 case len x=>
  split at b
  .rename_i c e;unfold Uw at b;split at b
   .rename_i y t C D E;simp only[sr]at b;obtain⟨H,L⟩:=b;split at L
    .rename_i el J;rw[Cn C (F7 D) (F7 E)]at e;exact(mS A hd e H J h).wp u B
    .cases L
    .cases L
   .cases b
  .cases b
 case AaA x=>
  split at b
  .rename_i c e;unfold Uw at b;split at b
   .rename_i y t C D E;simp only[sr]at b;obtain⟨H,L⟩:=b;split at L
    .cases L
    .rename_i J;rw[Cn C (F7 D) (F7 E)]at e;exact(jo A hd e H J h).wp u B
    .cases L
   .cases b
  .cases b
 case y9 n x lo hi=>
  split at b
  .rename_i t y l hh mx e;simp only[sr,beq_iff_eq,Option.isNone_iff_eq_none]at b;obtain⟨⟨⟨⟨rfl,C⟩,D⟩,E⟩,H⟩:=b;exact(mg A hd e C D E H h).wp u B
  .cases b
 case yu x lo hi=>
  split at b
  .rename_i t y l hh mx e;simp only[sr,Option.isNone_iff_eq_none]at b;obtain⟨⟨⟨⟨rfl,C⟩,D⟩,E⟩,H⟩:=b;split at H
   .rename_i J;exact(jp A hd e C D E J h).wp u B
   .cases H
  .cases b
 case z7 z X=>
  split at b
  .rename_i t qs e;exact(mF A hd e b h).wp u B
  .cases b
 case lst n ys=>
  split at b
  .rename_i t len X e;split at b
   .rename_i el J;split at b
    .rename_i i hi;split at b
     .rename_i z T;simp only[sr,beq_iff_eq,yf]at b;obtain⟨⟨⟨⟨⟨⟨C,D⟩,E⟩,H⟩,L⟩,F⟩,U⟩:=b;exact(mT A hd e J hi T C D E H L F U h).wp u B
     .cases b
    .cases b
   .cases b
  .cases b
 case app n x y=>
  split at b
  .rename_i c e;unfold Uu at b;split at b
   .rename_i p q t Y s C D E;simp only[sr,beq_iff_eq]at b;obtain⟨⟨⟨H,L⟩,rfl⟩,F⟩:=b;split at F
    .rename_i el J;split at F
     .rename_i i hi;split at F
      .rename_i z T;simp only[sr,beq_iff_eq,yf]at F;obtain⟨⟨⟨U,V⟩,W⟩,R⟩:=F;rw[Cn C (Ex D) (Ex E),Operand.pq H]at e;exact(mC A hd e J hi T U V W R L h).wp u B
      .cases F
     .cases F
    .cases F
   .cases b
  .cases b
 case call f ys=>
  split at b
  .rename_i c e;split at b
   .rename_i g I;simp only[sr,beq_iff_eq]at b;obtain⟨rfl,C⟩:=b;rw[Cn I rfl rfl]at e;exact jg A hd u e C h B
   .cases b
  .cases b
 case Aaj x ys=>
  split at b
  .rename_i c e;split at b
   .rename_i g I;simp only[sr]at b;rw[Cn I rfl rfl]at e;exact fj A hd u e b.1 b.2 h B
   .cases b
  .cases b
 case zc f cs=>
  split at b
  .rename_i g first xs e
   simp only[sr,beq_iff_eq]at b;obtain⟨⟨rfl,C⟩,D⟩:=b;rw[Array.eq_empty_of_size_eq_zero C]at e;exact(mG A hd e D h).wp u B
  .cases b
 case ext x i=>
  split at b
  .rename_i y j s e;simp only[sr,beq_iff_eq]at b;obtain⟨C,rfl⟩:=b;rw[Operand.pq C]at e;exact(mL A hd e h).wp u B
  .cases b
 case y8 k x=>
  split at b
  .rename_i s t y e;simp only[sr]at b;obtain⟨C,D⟩:=b;split at D
   .rename_i k1 k2 hs ht;simp only[beq_iff_eq]at D;subst D;exact(mK A hd e hs ht C h).wp u B
   .cases D
  .cases b
 case za x i=>
  split at b
  .rename_i t y j e;simp only[sr]at b;obtain⟨⟨C,D⟩,E⟩:=b;split at E
   .rename_i J;exact(jn A hd e C D J h).wp u B
   .cases E
  .cases b
 case Aak x=>
  split at b
  .rename_i t y e;exact(jf A hd e b h).wp u B
  .cases b
 case Aau x=>
  split at b
  .rename_i t y e;exact(jc A hd e b h).wp u B
  .cases b
 case mm mx x y=>
  split at b
  .rename_i c e;unfold rc at b;split at b
   .rename_i p q C D;simp only[sr]at b;obtain⟨⟨rfl,E⟩,H⟩:=b;rw[Cn C (Ex D) rfl]at e;exact(dV (mx:=true) A hd e E H h).wp u B
   .rename_i p q C D;simp only[sr,Bool.not_eq_true']at b;obtain⟨⟨rfl,E⟩,H⟩:=b;rw[Cn C (Ex D) rfl]at e;exact(dV (mx:=false) A hd e E H h).wp u B
   .cases b
  .cases b
 case alc cs=>
  split at b
  .rename_i t e;split at b
   .rename_i i hi;split at b
    .rename_i z T;exact(mB A hd e hi T b h).wp u B
    .cases b
   .cases b
  .cases b
 case st n x v=>cases M
 case stb n s v=>cases M
 case AaE x k n agg=>
  split at b
  .rename_i t y f e;simp only[sr]at b;exact(jh A hd e b.1 b.2 h).wp u B
  .cases b
 case xal s=>
  split at b
  .rename_i y e;rw[Operand.pq b]at e;exact(bS A hd (.inl e) h).wp u B
  .rename_i y e;rw[Operand.pq b]at e;exact(bS A hd (.inr e) h).wp u B
  .cases b
 case rel s=>
  split at b
  .rename_i y e;rw[Operand.pq b]at e;exact(bQ A hd (.inl e) h).wp u B
  .rename_i y e;rw[Operand.pq b]at e;exact(bQ A hd (.inr e) h).wp u B
  .cases b
 case tkx s=>
  split at b
  .rename_i y e;rw[Operand.pq b]at e;exact(bR A hd (.inl e) h).wp u B
  .rename_i y e;rw[Operand.pq b]at e;exact(bR A hd (.inr e) h).wp u B
  .cases b
 case Aaf n=>
  split at b
  .rename_i y e;exact(Yt A hd (.inl e) (Q3 b) h).wp u B
  .rename_i y e;exact(Yt A hd (.inr e) (Q3 b) h).wp u B
  .cases b
 case Aas x=>
  split at b
  .rename_i c e;unfold Uw at b;split at b
   .rename_i y t C D E;simp only[sr]at b;obtain⟨H,L⟩:=b;split at L
    .rename_i el J;rw[Cn C (F7 D) (F7 E)]at e;exact(jq A hd e H J h).wp u B
    .cases L
    .cases L
   .cases b
  .cases b
 case xia x i n=>
  split at b
  .rename_i t y j e;simp only[sr,beq_iff_eq]at b;exact(mq A hd e b.1.1 b.1.2 b.2 h).wp u B
  .cases b
 case xfa x k=>
  split at b
  .rename_i t y f e;simp only[sr,beq_iff_eq]at b;exact(mn A hd e b.1 b.2 h).wp u B
  .cases b
 case xld x=>
  split at b
  .rename_i t y e;simp only[sr,beq_iff_eq]at b;exact(mu A hd e b.1 b.2 h).wp u B
  .cases b
 case xst x v k=>cases M
 case zY n s y=>
  split at b
  .rename_i c e;unfold Uu at b;split at b
   .rename_i p q t Y s' C D E h0;simp only[AE.s.injEq]at h0;subst h0;simp only[sr,beq_iff_eq]at b;obtain⟨⟨⟨H,L⟩,rfl⟩,F⟩:=b;split at F
    .rename_i el J;split at F
     .rename_i i hi;split at F
      .rename_i z T;simp only[sr,beq_iff_eq,yf]at F;obtain⟨⟨⟨U,V⟩,W⟩,R⟩:=F;rw[Cn C (Ex D) (Ex E),Operand.pq H]at e;exact(jX A hd e J hi T U V W R L h).wp u B
      .cases F
     .cases F
    .cases F
   .cases b
  .cases b
 case zl f ys=>
  split at b
  .rename_i c e;split at b
   .rename_i g I;simp only[sr,beq_iff_eq]at b;obtain⟨rfl,C⟩:=b;rw[Cn I rfl rfl]at e;exact fk A hd u e C h B
   .cases b
  .cases b
 case z8 n zero x=>
  split at b
  .rename_i t y z e;simp only[sr]at b;exact(pv A hd e b.1.1 b.1.2 b.2 h).wp u B
  .cases b
 case zj f x ys=>
  split at b
  .rename_i c e;split at b
   .rename_i g y zs I ha;simp only[sr,beq_iff_eq]at b;obtain⟨rfl,C,D⟩:=b;rw[Cn I (show c.args=(y::zs).toArray by rw[<-ha]) rfl]at e;exact fh A hd u e C D h B
   .cases b
  .cases b
 case zO f x=>
  split at b
  .rename_i c e;split at b
   .rename_i g y I ha;simp only[sr,beq_iff_eq]at b;obtain⟨rfl,C⟩:=b;rw[Cn I (F7 ha) rfl]at e;exact fb A hd u e C h B
   .cases b
  .cases b
 case Aac n=>
  split at b
  .rename_i t len X e;simp only[sr,beq_iff_eq,Array.isEmpty_iff]at b;obtain⟨⟨rfl,rfl⟩,C⟩:=b;exact(jk A hd e C h).wp u B
  .cases b
 case yt gs=>
  split at b
  .rename_i t X e;exact(jZ A hd e b h).wp u B
  .cases b
 case stx n s q=>cases M
 case cpt x q=>cases M
 case lac x=>
  split at b
  .rename_i t y e;simp only[sr,beq_iff_eq]at b;exact(mO A hd e b.1 b.2 h).wp u B
  .cases b
 case ctk x=>
  split at b
  .rename_i t y e;simp only[sr,beq_iff_eq]at b;exact(mI A hd e b.1 b.2 h).wp u B
  .cases b
 case cut n s hi=>
  split at b
  .rename_i t y l hh mx e;simp only[sr,beq_iff_eq,Option.isNone_iff_eq_none]at b;obtain⟨⟨⟨⟨rfl,rfl⟩,C⟩,D⟩,E⟩:=b;rw[Operand.pq C]at e;exact(mJ A hd e D E h).wp u B
  .cases b
 case zx f ys=>
  split at b
  .rename_i c e;split at b
   .rename_i g I;simp only[sr,beq_iff_eq]at b;obtain⟨rfl,C⟩:=b;rw[Cn I rfl rfl]at e;exact fg A hd u e C h B
   .cases b
  .cases b
 case y6 f ys i=>
  split at b
  .rename_i c e;split at b
   .rename_i g I;simp only[sr,beq_iff_eq]at b;obtain⟨rfl,C⟩:=b;rw[Cn I rfl rfl]at e;exact fa A hd u e C h B
   .cases b
  .cases b
 case zW f ys=>
  split at b
  .rename_i c e;split at b
   .rename_i g I;simp only[sr,beq_iff_eq]at b;obtain⟨rfl,C⟩:=b;rw[Cn I rfl rfl]at e;exact(fc A hd e C h).wp u B
   .cases b
  .cases b
 case Aae n s z x=>
  split at b
  .rename_i c e;unfold iK at b;split at b
   .rename_i p q t Y C D E;simp only[sr]at b;obtain⟨⟨H,L⟩,F⟩:=b;split at F
    .rename_i el kn J hu';split at F
     .rename_i i hi;split at F
      .rename_i zz T;split at F
       .rename_i z0 hz0;simp only[sr,beq_iff_eq,yf]at F;obtain⟨⟨⟨⟨rfl,U⟩,V⟩,W⟩,R⟩:=F;rw[Cn C (Ex D) (Ex E),Operand.isTmp_eq' H]at e;exact(jY A hd e J hu' hi T U V (F7 hz0) W R L h).wp u B
       .cases F
      .cases F
     .cases F
    .cases F
   .cases b
  .cases b
 case Aal X x=>
  split at b
  .rename_i t y e;exact(je A hd e b h).wp u B
  .cases b
 case zV f ys=>
  split at b
  .rename_i c e;split at b
   .rename_i g I;simp only[sr,beq_iff_eq]at b;obtain⟨rfl,C⟩:=b;rw[Cn I rfl rfl]at e;exact fe A hd u e C h B
   .cases b
  .cases b
 case zi f ys=>
  split at b
  .rename_i c e;split at b
   .rename_i g I;simp only[sr,beq_iff_eq]at b;obtain⟨rfl,C⟩:=b;rw[Cn I rfl rfl]at e;exact cH A hd u e C h B
   .cases b
  .cases b
 case isn x=>
  split at b
  .rename_i op t y z Y e;simp only[sr,beq_iff_eq]at b;obtain⟨⟨⟨rfl,C⟩,D⟩,E⟩:=b;exact(mN A hd e C D E h).wp u B
  .cases b
 case Aan q=>
  split at b
  .rename_i t len X e;split at b
   .rename_i x hps;simp only[sr]at b;rw[F7 hps]at e;exact(ji A hd e b.1 b.2 h).wp u B
   .cases b
  .cases b
 case zu s q=>
  split at b
  .rename_i c e;unfold Uu at b;split at b
   .rename_i p q' t Y s' C D E H;simp only[AE.s.injEq]at H;subst H;simp only[sr,beq_iff_eq]at b;obtain⟨⟨⟨H,L⟩,rfl⟩,F⟩:=b;split at F
    .rename_i el J;split at F
     .rename_i i hi;split at F
      .rename_i z T;simp only[sr,beq_iff_eq,yf]at F;obtain⟨⟨⟨U,V⟩,W⟩,R⟩:=F;have hq:q'=.tmp q:=by
        cases q'<;>simp[AK]at L;rw[L]
       rw [Cn C (Ex D) (Ex E),Operand.pq H,hq]at e;exact(jW A hd e J hi T U V W h).wp u B
      .cases F
     .cases F
    .cases F
   .cases b
  .cases b
 case lan x=>
  split at b
  .rename_i t y e;simp only[sr,beq_iff_eq]at b;exact(mP A hd e b.1 b.2 h).wp u B
  .cases b
 case nia x i=>
  split at b
  .rename_i t y j e;simp only[sr,beq_iff_eq]at b;exact(mc A hd e b.1.1 b.1.2 b.2 h).wp u B
  .cases b
 case nld x=>
  split at b
  .rename_i t y e;simp only[sr,beq_iff_eq]at b;exact(md A hd e b.1 b.2 h).wp u B
  .cases b
 case nst x v=>cases M
 case Aay q=>
  split at b
  .rename_i t y e;exact(ja A hd e b h).wp u B
  .cases b
 case zv f ys i=>
  split at b
  .rename_i c e;split at b
   .rename_i g I;simp only[sr,beq_iff_eq]at b;obtain⟨rfl,C⟩:=b;rw[Cn I rfl rfl]at e;exact fZ A hd u e C h B
   .cases b
  .cases b
 case mkm=>
  split at b
  .rename_i t r e;cases r with
   |none=>exact(mV A hd e h).wp u B|some r=>cases b
  .cases b
 case mvm s=>
  split at b
  .rename_i y e;rw[Operand.pq b]at e;exact(bP A hd (.inl e) h).wp u B
  .rename_i y e;rw[Operand.pq b]at e;exact(bP A hd (.inr e) h).wp u B
  .cases b
 case zm f ys=>
  split at b
  .rename_i c e;split at b
   .rename_i g I;simp only[sr,beq_iff_eq]at b;obtain⟨rfl,C⟩:=b;rw[Cn I rfl rfl]at e;exact fi A hd u e C h B
   .cases b
  .cases b
 case mlk s m x=>
  split at b
  .rename_i t y z c e;simp only[sr]at b;obtain⟨⟨⟨rfl,C⟩,D⟩,E⟩:=b;exact(mX A hd e C D E h).wp u B
  .cases b
 case mup s m x v=>cases M
 case stq n X x v=>cases M
 case ldg s n=>
  split at b
  .rename_i t y e;simp only[sr,beq_iff_eq]at b;rw[Operand.pq b.1.1]at e;exact(mQ A hd e b.1.2 b.2 h).wp u B
  .cases b
 case x7 s m=>
  split at b
  .rename_i t y e;simp only[sr]at b;obtain⟨C,D⟩:=b;split at D
   .rename_i k el J;exact(mZ A hd e C J h).wp u B
   .cases D
  .cases b
 case mnx s=>
  split at b
  .rename_i y c e;simp only[sr,Bool.not_eq_true']at b;obtain⟨rfl,C⟩:=b;rw[Operand.pq C]at e;exact(mY A hd e h).wp u B
  .cases b
 case men s=>
  split at b
  .rename_i y e;rw[Operand.pq b]at e;exact(mU A hd e h).wp u B
  .cases b
end
end Go.Sf
namespace Go.Sf
open Go.RowKit (Below)
def Uv(ops:Array Oper)(o:Oper)(r:PR):Bool:=
 match r.guard,o.guard with
 |none,none=>true|some (g,b),some (j,b')=>b==b'&&((ops[j]?).bind (·.dst))==some g|_,_=>false
def L5(P:Program)(N:Nat)(ops:Array Oper)(o:Oper)(r:PR):Bool:=
 Uv ops o r&&(match o.dst,r.dst with
 |some d,some d'=>d==d'&&decide (d<N)&&!NA r.op&&Po P o.op r.op|none,none=>NA r.op&&Po P o.op r.op|_,_=>false)
section
variable{P:Program}{F0:Nat->Nat->Prop}{w0:W0}{O:AB}{a:Act}{w:World}{ops:Array Oper}{o:Oper}{r:PR}{N:Nat}{p:Option (Nat×Value)}{K:AB->Prop}{next:Act->World->Prop}{Q:Exit->Act->World->Prop}
theorem Bg.skip(b:Bg F0 w0 O a w){d:Nat}(hd:d<a.tmps.size):Bg F0 w0 ((d,.sk)::O) (a.put (some d) undef) w:=by
 obtain ⟨G,h⟩:=b;exact⟨_,h.quiet (Below.refl _ _) d hd .sk undef (fun _=>none) (by simp) (by simp) (by simp) rfl trivial⟩
theorem NJ{o:Oper}(b:o.dst=none){K:EV->AB->Prop}(h:G7 P F0 w0 a w o K)(e:∀env' w',K .undef env'->Bg F0 w0 env' a w'->next a w'):o.wp P a w next Q:=by
 obtain ⟨w',c,env',f,g⟩:=h;unfold Oper.wp;rw[c,Oper.upon_skip,b];exact e _ _ f g
theorem sz{S:FuncId->Fq->Al->Prop}{n s:Nat}{v:AE}{d:Option Nat}{O:AB}{K:EV->AB->Prop}(h:(AD.stb n s v).wp S O d K):(AD.st n (.s s) v).wp S O d K:=by
 simp [AD.wp]at h|-
 grind [AE.place]
theorem Vf(f:Bg F0 w0 O a w)(D:Km N p a)(M:∀i v,p=some (i,v)->r.dst≠some i)(R:L5 P N ops o r=true)(h:r.wp (AX P) O K)
  (E:∀env' a' w',K env'->Km N p a'->Bg F0 w0 env' a' w'->next a' w'):
  if Region.wanted o (yielded ops a.tmps)then o.wp P a w next Q else next (a.put o.dst undef) w:=by
 simp [L5]at R;obtain⟨J,hd⟩:=R;have T:r.op.wp (AX P) O r.dst (fun e env'=>K (env'.put r.dst e))->o.wp P a w next Q:=by
  intro A;obtain⟨G,f⟩:=f;cases ho:o.dst with
  |some d=>
   cases B:r.dst with
   |none=>rw[ho,B]at hd;cases hd
   |some d'=>
    rw [ho,B]at hd;simp[yf,Bool.not_eq_true']at hd;obtain⟨⟨⟨rfl,I⟩,L⟩,c⟩:=hd;rw[B]at A;exact k7 f (D.size▸I) ho c L A fun e env' a' w' k l k3=>E _ a' w' k (D.put (fun i v X=>by rw[<-B];exact M i v X) l) k3
  |none=>
   cases B:r.dst with
   |some d'=>rw[ho,B]at hd;cases hd
   |none=>
    rw [ho,B]at hd;rw[B]at A;simp at hd;obtain⟨L,c⟩:=hd;generalize X:r.op=p at A L c;cases p<;>simp[NA]at L<;>first|cases L|skip
    .rename_i n x v;simp[Po]at c;split at c
     .rename_i t y u e;simp at c;exact NJ ho (dX f e c.1.1 c.1.2 c.2 A) fun env' w' k l=>E env' a w' k D l
     .cases c
    .rename_i n s v;simp[Po]at c;split at c
     .rename_i t y u e;simp at c;rw[Operand.pq c.1.1]at e;exact NJ ho (dX f e (x':=.s s) (by simp[AK]) c.1.2 c.2 (sz A)) fun env' w' k l=>E env' a w' k D l
     .cases c
    .rename_i x v;simp[Po]at c;split at c
     .rename_i t y u e;simp at c;exact NJ ho (mw f e c.1.1 c.1.2 c.2 A) fun env' w' k l=>E env' a w' k D l
     .cases c
    .rename_i n x q;simp[Po]at c;split at c
     .rename_i t y u e;simp at c;exact NJ ho (ml f e c.1.1 c.1.2 c.2 A) fun env' w' k l=>E env' a w' k D l
     .cases c
    .rename_i x q;simp[Po]at c;split at c
     .rename_i t y u e;simp at c;exact NJ ho (mH f e c.1.1 c.1.2 c.2 A) fun env' w' k l=>E env' a w' k D l
     .cases c
    .rename_i x v;simp[Po]at c;split at c
     .rename_i t y u e;simp at c;exact NJ ho (mf f e c.1.1 c.1.2 c.2 A) fun env' w' k l=>E env' a w' k D l
     .cases c
    .rename_i n ps x v;simp[Po]at c;split at c
     .rename_i t y u e;simp at c;exact NJ ho (mj f e c.1.1 c.1.2 c.2 A) fun env' w' k l=>E env' a w' k D l
     .cases c
    .rename_i s m x v;simp[Po]at c;split at c
     .rename_i t y z u e;simp at c;exact NJ ho (ma f e c.1.1.1 c.1.1.2 c.1.2 c.2 A) fun env' w' k l=>E env' a w' k D l
     .cases c
 have U:K (O.put r.dst .sk)->next (a.put o.dst undef) w:=by
  intro Y;cases ho:o.dst with
  |some d=>
   cases B:r.dst with
   |none=>rw[ho,B]at hd;cases hd
   |some d'=>
    rw [ho,B]at hd;simp[yf,Bool.not_eq_true']at hd;obtain⟨⟨⟨rfl,I⟩,L⟩,c⟩:=hd;rw[B]at Y;exact E _ _ _ Y (D.put (fun i v X=>by rw[<-B];exact M i v X) ⟨_,rfl⟩) (f.skip (D.size▸I))
  |none=>
   cases B:r.dst with
   |some d'=>rw[ho,B]at hd;cases hd
   |none=>rw[B]at Y;exact E _ _ _ Y D f
 unfold PR.wp at h;cases F:r.guard with
 |none=>
  rw [F]at h;cases C:o.guard with
  |none=>rw[ae (by simp[Region.wanted,C])];exact T h|some g=>rw[Uv,F,C]at J;cases J
 |some gb=>
  obtain ⟨g,b⟩:=gb;rw[F]at h;cases C:o.guard with
  |none=>rw[Uv,F,C]at J;cases J
  |some jb=>
   obtain ⟨j,b'⟩:=jb;rw[Uv,F,C]at J;simp at J;obtain⟨rfl,hj⟩:=J;simp only at h;split at h
   .rename_i q S;have hv:slot a g=.bool q:=by
     obtain ⟨G,f⟩:=f;have:=AZ f S (by simp);simpa only[AL,Af]using this
    have H:g<a.tmps.size:=by
     obtain ⟨G,f⟩:=f;exact BU f S (by simp)
    have Z:yielded ops a.tmps j=some q:=by
     have I:a.tmps[g]?=some (.bool q):=by
      rw [slot,Array.getD_eq_getD_getElem?,Array.getElem?_eq_getElem H]at hv;rw[Array.getElem?_eq_getElem H];simpa using hv
     simp [yielded,hj,I]
    have A:Region.wanted o (yielded ops a.tmps)=(q==b):=by
     simp only[Region.wanted,C,Z];cases q<;>cases b<;>rfl
    rw [A];by_cases V:q=b
    .subst V;rw[ae (by simp)];exact T (h.1 rfl)
    .have W:q=!b:=by cases q<;>cases b<;>simp_all
     rw [az (by simpa using V)];exact U (h.2 W)
   .rename_i S;have hv:slot a g=undef:=by
     obtain ⟨G,f⟩:=f;have:=AZ f S (by simp);simpa only[AL]using this
    have H:g<a.tmps.size:=by
     obtain ⟨G,f⟩:=f;exact BU f S (by simp)
    have Z:yielded ops a.tmps j=none:=by
     have I:a.tmps[g]?=some undef:=by
      rw [slot,Array.getD_eq_getD_getElem?,Array.getElem?_eq_getElem H]at hv;rw[Array.getElem?_eq_getElem H];simpa using hv
     simp [yielded,hj,I,undef]
    have A:Region.wanted o (yielded ops a.tmps)=false:=by
     simp only[Region.wanted,C,Z];cases b<;>rfl
    rw [A];exact U h
   .exact h.elim
def Sh:List PR->Bool
 |[]=>true|r::rs=>(match r.op,r.dst,r.guard with|.frz _,none,none=>true|_,_,_=>false)&&Sh rs
variable{rs:List PR}
theorem oM:∀{O:AB},Sh rs=true->wpOps (AX P) K rs O->Bg F0 w0 O a w->∃env',K env'/\Bg F0 w0 env' a w:=by
 induction rs with
 |nil=>intro O _ h b;exact⟨O,h,b⟩|cons r rs l=>
  intro O c h b;simp[Sh]at c;obtain⟨e,k⟩:=c;split at e
  .rename_i s f g i;simp[wpOps,PR.wp,f,g,i,AD.wp]at h;split at h
   .rename_i cs j;obtain⟨G,b⟩:=b;exact l k h (b.frz j)
   .exact h.elim
  .cases e
def MA(P:Program)(N:Nat)(ops:Array Oper):List Oper->List PR->Bool
 |[],rs=>Sh rs|o::os,r::rs=>L5 P N ops o r&&MA P N ops os rs|_::_,[]=>false
theorem Wb(m:∀O a w,K O->Km N p a->Bg F0 w0 O a w->Q .normal a w):∀(os:List Oper)(rs:List PR)(k:Nat),ops.toList.drop k=os->MA P N ops os rs=true->(∀i v,p=some (i,v)->∀r∈rs,r.dst≠some i)->∀(O:AB)(a:Act)(w:World),Km N p a->Bg F0 w0 O a w ->
  wpOps (AX P) K rs O->Go.wpOps P ops Q (List.range' k os.length) a w
 |[],rs,k,_,b,_,O,a,w,g,j,h=>by
  obtain ⟨env',z,A⟩:=oM b h j;exact m env' a w z g A
 |o::os,[],k,_,b,_,_,_,_,_,_,_=>by simp[MA]at b|o::os,r::rs,k,hd,b,c,O,a,w,g,j,h=>by
  simp [MA]at b;have y:ops[k]?=some o:=by
   rw [<-Array.getElem?_toList];have:=congrArg (fun l=>l[0]?) hd
   grind
  have f:ops.toList.drop (k+1)=os:=by
   grind [List.tail,List.tail_drop]
  simp [List.range'_succ];rw[Go.wpOps_cons];unfold Go.wpOp;rw[y];simp;have:=Vf (Q:=Q) (next:=Go.wpOps P ops Q (List.range' (k+1) os.length)) j g (fun i v e=>c i v e r (by simp)) b.1 h fun env' a' w' q s t=>Wb m os rs (k+1) f b.2 (fun i v e r u=>c i v e r (by simp[u])) env' a' w' s t q
  grind
theorem a8{id:Nat}(b:MA P N ops ops.toList rs=true)(c:∀i v,p=some (i,v)->∀r∈rs,r.dst≠some i)(e:Km N p a)(f:Bg F0 w0 O a w)(h:wpOps (AX P) K rs O)
  (g:∀O a w,K O->Km N p a->Bg F0 w0 O a w->Q .normal a w):(Code.region id ops false).wp P Q a w:=by
 refine Go.wp_region ?_;rw[List.range_eq_range',<-Array.length_toList];exact Wb g ops.toList rs 0 rfl b c O a w e f h
end
end Go.Sf
