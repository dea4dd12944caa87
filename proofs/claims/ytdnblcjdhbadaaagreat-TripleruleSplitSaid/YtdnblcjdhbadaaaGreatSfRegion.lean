/- One operation against the checker, and regions in the text's order. -/
import Derived.Test.YtdnblcjdhbadaaaGreatSfN
import Derived.Orders
set_option linter.all false
namespace Go.Sf
open Go.RowKit (Below)
def Operand.Aan(n:Nat):Operand->Bool
 |.tmp m=>m==n|_=>false
variable{n:Nat}{x:Operand}
theorem Operand.sc(h:Operand.Aan n x=true):x=.tmp n:=by
 cases x<;>simp[Operand.Aan]at h;rw[h]
def VP:Operand->Bool
 |.const v=>K3 v|_=>false
theorem QB(h:VP x=true):∃v,x=.const v/\K3 v=true:=by
 cases x<;>simp[VP]at h;exact⟨_,rfl,h⟩
def Tz(P:Program)(str:Bool)(c:Call)(x:AF):Bool:=
 match c.callee,c.args.toList,c.argTypes.toList with
 |.builtin .len,[y],[t]=>AK y x&&(match P.underlying t with|some (.slice _)=>!str|some .string=>str|_=>false)
 |_,_,_=>false
def Tx(P:Program)(n:Nat)(c:Call)(x y:AF):Bool:=
 match c.callee,c.args.toList,c.argTypes.toList,x with
 |.builtin .append,[p,q],[t,t'],.s s=>Operand.Aan s p&&AK q y&&t==t'&&(match P.underlying t with
  |some (.slice e)=>(match P.info? e with
   |some i=>(match i.zero with|some z=>i.size==n&&decide (i.bytes<=4096)&&z.cells.size==n&&decide (0<n)|none=>false)
   |none=>false)
  |_=>false)
 |_,_,_,_=>false
def pG(mx:Bool)(c:Call)(x y:AF):Bool:=
 match c.callee,c.args.toList with
 |.builtin .max,[p,q]=>mx&&AK p x&&AK q y|.builtin .min,[p,q]=>!mx&&AK p x&&AK q y|_,_=>false
def Oa(P:Program)(o:Op):AE->Bool
 |.mv x=>match o with|.move y|.assign y=>AK y x|_=>false
 |.tk s=>match o with|.move y|.assign y=>Operand.Aan s y|_=>false
 |.Abk _=>match o with|.move y|.assign y=>VP y|_=>false
 |.fad x k=>match o with|.fieldAddr t y f=>AK y x&&Pb P t f==some k|.move y|.assign y|.nilCheck y=>k==0&&AK y x|_=>false
 |.bad s k=>match o with|.indexAddr t y j=>Operand.Aan s y&&cp P t j k|.fieldAddr t y f=>Operand.Aan s y&&Pb P t f==some k|.move y|.assign y|.nilCheck y=>k==0&&Operand.Aan s y|_=>false
 |.iad x i n=>match o with|.indexAddr t y j=>AK y x&&AK j i&&H8 P t==some n|_=>false
 |.aad x i n k=>match o with|.indexAddr t y j=>AK y x&&AK j i&&(match P.underlying t with|some (.array k' e)=>k'==k&&Ch P e==some n|_=>false)|_=>false
 |.ld x=>match o with|.load t y=>AK y x&&Bs P t==some false|_=>false
 |.lda x n=>match o with|.load t y=>AK y x&&Bs P t==some true&&Ch P t==some n|_=>false
 |.ldb s n=>match o with|.load t y=>AK y (.s s)&&Bs P t==some true&&Ch P t==some n|_=>false
 |.ldt x=>match o with|.load t y=>AK y x&&Bs P t==some false|_=>false
 |.bin k op x y=>match o with|.binOp op' t p q _=>op'==op&&Mc P k t&&AK p x&&AK q y|_=>false
 |.not x=>match o with|.unOp op _ y=>op==.not&&AK y x|_=>false
 |.neg x=>match o with|.unOp op _ y=>op==.neg&&AK y x|_=>false
 |.pick c x y=>match o with|.pick c' p q=>AK c' c&&AK p x&&AK q y|_=>false
 |.len x=>match o with|.call c=>Tz P false c x|_=>false
 |.AbA x=>match o with|.call c=>Tz P true c x|_=>false
 |.slc n x lo hi=>match o with|.slice t y l h mx=>mx.isNone&&AK y x&&Me l lo&&Me h hi&&H8 P t==some n|_=>false
 |.Aax x lo hi=>match o with|.slice t y l h mx=>mx.isNone&&AK y x&&Me l lo&&Me h hi&&(match P.underlying t with|some .string=>true|_=>false)|_=>false
 |.bld z ps=>match o with|.build t qs=>cq P t z qs.toList ps|_=>false
 |.lst n ys=>match o with
  |.buildSlice t len ps=>(match P.underlying t with
   |some (.slice e)=>(match P.info? e with
    |some i=>(match i.zero with
     |some z=>i.size==n&&decide (0<n)&&z.cells.toList.all Value.oneCell'&&decide (0<z.cells.size)&&len==ps.size&&decide (len*n<=2^ 24)&&RY 0 ps.toList ys|none=>false)
    |none=>false)
   |_=>false)
  |_=>false
 |.app n x y=>match o with|.call c=>Tx P n c x y|_=>false
 |.call f ys=>match o with|.call c=>(match c.callee with|.value (.func g)=>g==f&&Ba c.args.toList ys|_=>false)|_=>false
 |.AaC x ys=>match o with|.call c=>(match c.callee with|.value g=>AK g x&&Ba c.args.toList ys|_=>false)|_=>false
 |.clo f cs=>match o with|.makeFunc (.func g) first xs=>g==f&&first.size==0&&Ba xs.toList cs|_=>false
 |.ext x i=>match o,x with|.extract y j,.s s=>Operand.Aan s y&&j==i|_,_=>false
 |.cvt k x=>match o with|.convert s t y=>AK y x&&(match P.underlying s,P.underlying t with|some (.int _),some (.int k')=>k'==k|_,_=>false)|_=>false
 |.Aat x i=>match o with|.index t y j=>AK y x&&AK j i&&(match P.underlying t with|some .string=>true|_=>false)|_=>false
 |.Abh x=>match o with|.box _ y=>AK y x|_=>false
 |.Abt x=>match o with|.box _ y=>AK y x|_=>false
 |.mm mx x y=>match o with|.call c=>pG mx c x y|_=>false
 |.alc cs=>match o with|.alloc t=>(match P.info? t with|some i=>(match i.zero with|some z=>NR cs z.cells.toList|none=>false)|none=>false)|_=>false
 |.st n x v=>match o with|.store t y u=>AK y x&&AK u v&&Ch P t==some n|_=>false
 |.stb n s v=>match o with|.store t y u=>Operand.Aan s y&&AK u v&&Ch P t==some n|_=>false
 |.frz _=>false|.Abr x k n agg=>match o with|.field t y f=>AK y x&&cr P t f k n agg|_=>false
 |.xal s=>match o with|.move y|.assign y=>Operand.Aan s y|_=>false
 |.Abq x=>match o with|.call c=>Tz P false c x|_=>false
 |.xia x i n=>match o with|.indexAddr t y j=>AK y x&&AK j i&&H8 P t==some n|_=>false
 |.xfa x k=>match o with|.fieldAddr t y f=>AK y x&&Pb P t f==some k|_=>false
 |.xld x=>match o with|.load t y=>AK y x&&Bs P t==some false|_=>false
 |.xst x v k=>match o with|.store t y u=>AK y x&&AK u v&&Ch P t==some k|_=>false
 |.rel s=>match o with|.move y|.assign y=>Operand.Aan s y|_=>false
 |.Aa8 _=>match o with|.move y|.assign y=>VP y|_=>false
 |.tkx s=>match o with|.move y|.assign y=>Operand.Aan s y|_=>false
 |.Aa6 n s y=>match o with|.call c=>Tx P n c (.s s) y|_=>false
 |.AaB f ys=>match o with|.call c=>(match c.callee with|.value (.func g)=>g==f&&Ba c.args.toList ys|_=>false)|_=>false
 |.mkx n zero x=>match o with|.makeSlice t y z=>AK y x&&AK z x&&ib P t n zero|_=>false
 |.AaL f x=>match o with|.call c=>(match c.callee,c.args.toList with|.value (.func g),[y]=>g==f&&AK y x|_,_=>false)|_=>false
 |.AaK f x=>match o with|.call c=>(match c.callee,c.args.toList with|.value (.func g),[y]=>g==f&&AK y x|_,_=>false)|_=>false
 |.Aa9 n=>match o with|.buildSlice t len ps=>len==0&&ps.isEmpty&&Yy P t n|_=>false
 |.Aaj gs=>match o with|.build t ps=>Yw P t ps.toList gs|_=>false
 |.stx n s q=>match o with|.store t y u=>AK y (.s s)&&AK u (.s q)&&Ch P t==some n|_=>false
 |.AaS f ys=>match o with|.call c=>(match c.callee with|.value (.func g)=>g==f&&Ba c.args.toList ys|_=>false)|_=>false
 |.AaG f ys=>match o with|.call c=>(match c.callee with|.value (.func g)=>g==f&&Ba c.args.toList ys|_=>false)|_=>false
 |.isn x=>match o with|.binOp op t y z _=>op==.eql&&AK y x&&Tt z&&ct P t|_=>false
 |.lac x=>match o with|.load t y=>AK y x&&Bs P t==some false|_=>false
 |.ctk x=>match o with|.load t y=>AK y x&&Bs P t==some false|_=>false
 |.cpt x q=>match o with|.store t y u=>AK y x&&AK u (.s q)&&Ch P t==some 1|_=>false
 |.cut n s hi=>match o with|.slice t y l (some h) mx=>mx.isNone&&l.isNone&&Operand.Aan s y&&AK h hi&&H8 P t==some n|_=>false
 |.Aay f ys=>match o with|.call c=>(match c.callee with|.value (.func g)=>g==f&&Ba c.args.toList ys|_=>false)|_=>false
 |.Abg _ x=>match o with|.box _ y=>AK y x|_=>false
 |.AaT f ys=>match o with|.call c=>(match c.callee with|.value (.func g)=>g==f&&Ba c.args.toList ys|_=>false)|_=>false
 |.Aba n s z x=>match o with|.call c=>eu P n s z x c|_=>false
 |.Aaw f ys _=>match o with|.call c=>(match c.callee with|.value (.func g)=>g==f&&Ba c.args.toList ys|_=>false)|_=>false
 |.Abi q=>match o with|.buildSlice t len ps=>(match len,ps.toList with|1,[(0,x)]=>Yx P t&&AK x (.s q)|_,_=>false)|_=>false
 |.AaQ s q=>match o with|.call c=>Tx P 1 c (.s s) (.s q)|_=>false
 |.lan x=>match o with|.load t y=>AK y x&&Bs P t==some false|_=>false
 |.nia x i=>match o with|.indexAddr t y j=>AK y x&&AK j i&&H8 P t==some 1|_=>false
 |.nld x=>match o with|.load t y=>AK y x&&Bs P t==some false|_=>false
 |.nst x v=>match o with|.store t y u=>AK y x&&AK u v&&Ch P t==some 1|_=>false
 |.Abu q=>match o with|.box _ y=>AK y (.s q)|_=>false
 |.AaJ f ys _=>match o with|.call c=>(match c.callee with|.value (.func g)=>g==f&&Ba c.args.toList ys|_=>false)|_=>false
 |.ldg s n=>match o with|.load t y=>Operand.Aan s y&&Bs P t==some true&&Ch P t==some n|_=>false
 |.stq n _ x v=>match o with|.store t y u=>AK y x&&AK u v&&Ch P t==some n|_=>false
 |.mkm=>match o with|.makeMap _ r=>r.isNone|_=>false
 |.mvm s=>match o with|.move y|.assign y=>Operand.Aan s y|_=>false
 |.AaN f ys=>match o with|.call c=>(match c.callee with|.value (.func g)=>g==f&&Ba c.args.toList ys|_=>false)|_=>false
 |.mlk _ m x=>match o with|.lookup t y z c=>c&&OG P t&&AK y m&&AK z x|_=>false
 |.mup _ m x v=>match o with|.mapUpdate t y z u=>OG P t&&AK y m&&AK z x&&AK u v|_=>false
 |.ws _ m=>match o with|.range t y=>AK y m&&(match P.underlying t with|some (.map _ _)=>true|_=>false)|_=>false
 |.mnx s=>match o with|.next y c=>!c&&Operand.Aan s y|_=>false
 |.men s=>match o with|.entry y=>Operand.Aan s y|_=>false
def L0:AE->Bool
 |.st ..=>true|.stb ..=>true|.xst ..=>true|.stx ..=>true|.cpt ..=>true|.nst ..=>true|.mup ..=>true|.stq ..=>true|_=>false
section
variable{P:Program}{F0:Nat->Nat->Prop}{w0:W0}{O:AB}{a:Act}{w:World}{G:BQ}{d:Nat}{o:Oper}{K:EV->AB->Prop}
theorem Aw.wp(h:Aw P F0 w0 a w o d K)(b:o.dst=some d){next:Act->World->Prop}{Q:Exit->Act->World->Prop}(f:∀e env' a' w',K e env'->PS a d a'->Be F0 w0 ((d,e)::env') a' w'->next a' w'):o.wp P a w next Q:=by
 obtain ⟨v,w',c,e,env',g,i⟩:=h;unfold Oper.wp;rw[c,Oper.upon_value,b];exact f e env' _ w' g ⟨_,rfl⟩ i
variable{α:Type}
theorem EY{a:Array α}{x:α}(h:a.toList=[x]):a=#[x]:=by
 cases a;simp_all
theorem EZ{a:Array α}{x y:α}(h:a.toList=[x,y]):a=#[x,y]:=by
 cases a;simp_all
theorem Ck{c:Call}{b:Callee}{e:Array Operand}{f:Array TypeId}(g:c.callee=b)(h:c.args=e)(i:c.argTypes=f):c={callee:=b,args:=e,argTypes:=f}:=by
 cases c;simp_all
theorem ic(A:AR F0 w0 O a w G)(hd:d<a.tmps.size)(u:o.dst=some d){p:AE}(b:Oa P o.op p=true)(M:L0 p=false)(h:p.wp (AQ P) O (some d) K)
  {next:Act->World->Prop}{Q:Exit->Act->World->Prop}(B:∀e env' a' w',K e env'->PS a d a'->Be F0 w0 ((d,e)::env') a' w'->next a' w'):o.wp P a w next Q:=by
 cases p<;>simp only[Oa]at b<;>try(exact absurd b Bool.false_ne_true)
 case mv x=>
  split at b
  .rename_i y e;exact(bi A hd (.inl e) b h).wp u B
  .rename_i y e;exact(bi A hd (.inr e) b h).wp u B
  .cases b
 case tk s=>
  split at b
  .rename_i y e;rw[Operand.sc b]at e;exact(bl A hd (.inl e) h).wp u B
  .rename_i y e;rw[Operand.sc b]at e;exact(bl A hd (.inr e) h).wp u B
  .cases b
 case Abk n=>
  split at b
  .rename_i y e;exact(XX A hd (.inl e) (QB b) h).wp u B
  .rename_i y e;exact(XX A hd (.inr e) (QB b) h).wp u B
  .cases b
 case fad x k=>
  split at b
  .rename_i t y f e;simp only[pc,beq_iff_eq]at b;exact(Rp A hd (aq e b.2) b.1 h).wp u B
  .rename_i y e;simp only[pc,beq_iff_eq]at b;obtain⟨rfl,b⟩:=b;exact(Rp A hd (PK (.inl e)) b h).wp u B
  .rename_i y e;simp only[pc,beq_iff_eq]at b;obtain⟨rfl,b⟩:=b;exact(Rp A hd (PK (.inr (.inl e))) b h).wp u B
  .rename_i y e;simp only[pc,beq_iff_eq]at b;obtain⟨rfl,b⟩:=b;exact(Rp A hd (PK (.inr (.inr e))) b h).wp u B
  .cases b
 case bad s k=>
  split at b
  .rename_i t y j e;simp only[pc]at b;rw[Operand.sc b.1]at e;exact(Ps A hd (ln e b.2) h).wp u B
  .rename_i t y f e;simp only[pc,beq_iff_eq]at b;rw[Operand.sc b.1]at e;exact(Ps A hd (aq e b.2) h).wp u B
  .rename_i y e;simp only[pc,beq_iff_eq]at b;obtain⟨rfl,b⟩:=b;rw[Operand.sc b]at e;exact(Ps A hd (PK (.inl e)) h).wp u B
  .rename_i y e;simp only[pc,beq_iff_eq]at b;obtain⟨rfl,b⟩:=b;rw[Operand.sc b]at e;exact(Ps A hd (PK (.inr (.inl e))) h).wp u B
  .rename_i y e;simp only[pc,beq_iff_eq]at b;obtain⟨rfl,b⟩:=b;rw[Operand.sc b]at e;exact(Ps A hd (PK (.inr (.inr e))) h).wp u B
  .cases b
 case iad x i n=>
  split at b
  .rename_i t y j e;simp only[pc,beq_iff_eq]at b;exact(jn A hd e b.1.1 b.1.2 b.2 h).wp u B
  .cases b
 case aad x i n k=>
  split at b
  .rename_i t y j e;simp only[pc]at b;obtain⟨⟨C,D⟩,E⟩:=b;split at E
   .rename_i k' el J;simp only[pc,beq_iff_eq]at E;obtain⟨rfl,H⟩:=E;exact(jY A hd e C D J H h).wp u B
   .cases E
  .cases b
 case ld x=>
  split at b
  .rename_i t y e;simp only[pc,beq_iff_eq]at b;exact(nX A hd e b.1 b.2 h).wp u B
  .cases b
 case lda x n=>
  split at b
  .rename_i t y e;simp only[pc,beq_iff_eq]at b;exact(Zk A hd e b.1.1 b.1.2 b.2 h).wp u B
  .cases b
 case ldb s n=>
  split at b
  .rename_i t y e;simp only[pc,beq_iff_eq]at b;refine(Zk (S:=AQ P) A hd e b.1.1 b.1.2 b.2 (y:=.s s) ?_).wp u B;simp only[AE.wp]at h|-;split at h
   .rename_i cs I;simp only[AF.ev,I,A4,AY];exact h
   .exact h.elim
  .cases b
 case ldt x=>
  split at b
  .rename_i t y e;simp only[pc,beq_iff_eq]at b;exact(jt A hd e b.1 b.2 h).wp u B
  .cases b
 case bin k op x y=>
  split at b
  .rename_i op' t p q Y e;simp only[pc,beq_iff_eq]at b;obtain⟨⟨⟨rfl,C⟩,D⟩,E⟩:=b;exact(jc A hd e C D E h).wp u B
  .cases b
 case not x=>
  split at b
  .rename_i op t y e;simp only[pc,beq_iff_eq]at b;obtain⟨rfl,C⟩:=b;exact(kB A hd e C h).wp u B
  .cases b
 case neg x=>
  split at b
  .rename_i op t y e;simp only[pc,beq_iff_eq]at b;obtain⟨rfl,C⟩:=b;exact(j8 A hd e C h).wp u B
  .cases b
 case pick c x y=>
  split at b
  .rename_i c' p q e;simp only[pc]at b;exact(gW A hd e b.1.1 b.1.2 b.2 h).wp u B
  .cases b
 case len x=>
  split at b
  .rename_i c e;unfold Tz at b;split at b
   .rename_i y t C D E;simp only[pc]at b;obtain⟨H,L⟩:=b;split at L
    .rename_i el J;rw[Ck C (EY D) (EY E)]at e;exact(ju A hd e H J h).wp u B
    .cases L
    .cases L
   .cases b
  .cases b
 case AbA x=>
  split at b
  .rename_i c e;unfold Tz at b;split at b
   .rename_i y t C D E;simp only[pc]at b;obtain⟨H,L⟩:=b;split at L
    .cases L
    .rename_i J;rw[Ck C (EY D) (EY E)]at e;exact(gY A hd e H J h).wp u B
    .cases L
   .cases b
  .cases b
 case slc n x lo hi=>
  split at b
  .rename_i t y l hh mx e;simp only[pc,beq_iff_eq,Option.isNone_iff_eq_none]at b;obtain⟨⟨⟨⟨rfl,C⟩,D⟩,E⟩,H⟩:=b;exact(kD A hd e C D E H h).wp u B
  .cases b
 case Aax x lo hi=>
  split at b
  .rename_i t y l hh mx e;simp only[pc,Option.isNone_iff_eq_none]at b;obtain⟨⟨⟨⟨rfl,C⟩,D⟩,E⟩,H⟩:=b;split at H
   .rename_i J;exact(gZ A hd e C D E J h).wp u B
   .cases H
  .cases b
 case bld z X=>
  split at b
  .rename_i t qs e;exact(je A hd e b h).wp u B
  .cases b
 case lst n ys=>
  split at b
  .rename_i t len X e;split at b
   .rename_i el J;split at b
    .rename_i i hi;split at b
     .rename_i z T;simp only[pc,beq_iff_eq,x7]at b;obtain⟨⟨⟨⟨⟨⟨C,D⟩,E⟩,H⟩,L⟩,F⟩,U⟩:=b;exact(jv A hd e J hi T C D E H L F U h).wp u B
     .cases b
    .cases b
   .cases b
  .cases b
 case app n x y=>
  split at b
  .rename_i c e;unfold Tx at b;split at b
   .rename_i p q t Y s C D E;simp only[pc,beq_iff_eq]at b;obtain⟨⟨⟨H,L⟩,rfl⟩,F⟩:=b;split at F
    .rename_i el J;split at F
     .rename_i i hi;split at F
      .rename_i z T;simp only[pc,beq_iff_eq,x7]at F;obtain⟨⟨⟨U,V⟩,W⟩,R⟩:=F;rw[Ck C (EZ D) (EZ E),Operand.sc H]at e;exact(ja A hd e J hi T U V W R L h).wp u B
      .cases F
     .cases F
    .cases F
   .cases b
  .cases b
 case call f ys=>
  split at b
  .rename_i c e;split at b
   .rename_i g I;simp only[pc,beq_iff_eq]at b;obtain⟨rfl,C⟩:=b;rw[Ck I rfl rfl]at e;exact gS A hd u e C h B
   .cases b
  .cases b
 case AaC x ys=>
  split at b
  .rename_i c e;split at b
   .rename_i g I;simp only[pc]at b;rw[Ck I rfl rfl]at e;exact df A hd u e b.1 b.2 h B
   .cases b
  .cases b
 case clo f cs=>
  split at b
  .rename_i g first xs e
   simp only[pc,beq_iff_eq]at b;obtain⟨⟨rfl,C⟩,D⟩:=b;rw[Array.eq_empty_of_size_eq_zero C]at e;exact(jf A hd e D h).wp u B
  .cases b
 case ext x i=>
  split at b
  .rename_i y j s e;simp only[pc,beq_iff_eq]at b;obtain⟨C,rfl⟩:=b;rw[Operand.sc C]at e;exact(jm A hd e h).wp u B
  .cases b
 case cvt k x=>
  split at b
  .rename_i s t y e;simp only[pc]at b;obtain⟨C,D⟩:=b;split at D
   .rename_i k1 k2 hs ht;simp only[beq_iff_eq]at D;subst D;exact(jk A hd e hs ht C h).wp u B
   .cases D
  .cases b
 case Aat x i=>
  split at b
  .rename_i t y j e;simp only[pc]at b;obtain⟨⟨C,D⟩,E⟩:=b;split at E
   .rename_i J;exact(gX A hd e C D J h).wp u B
   .cases E
  .cases b
 case Abh x=>
  split at b
  .rename_i t y e;exact(gR A hd e b h).wp u B
  .cases b
 case Abt x=>
  split at b
  .rename_i t y e;exact(gP A hd e b h).wp u B
  .cases b
 case mm mx x y=>
  split at b
  .rename_i c e;unfold pG at b;split at b
   .rename_i p q C D;simp only[pc]at b;obtain⟨⟨rfl,E⟩,H⟩:=b;rw[Ck C (EZ D) rfl]at e;exact(bh (mx:=true) A hd e E H h).wp u B
   .rename_i p q C D;simp only[pc,Bool.not_eq_true']at b;obtain⟨⟨rfl,E⟩,H⟩:=b;rw[Ck C (EZ D) rfl]at e;exact(bh (mx:=false) A hd e E H h).wp u B
   .cases b
  .cases b
 case alc cs=>
  split at b
  .rename_i t e;split at b
   .rename_i i hi;split at b
    .rename_i z T;exact(jZ A hd e hi T b h).wp u B
    .cases b
   .cases b
  .cases b
 case st n x v=>cases M
 case stb n s v=>cases M
 case Abr x k n agg=>
  split at b
  .rename_i t y f e;simp only[pc]at b;exact(gT A hd e b.1 b.2 h).wp u B
  .cases b
 case xal s=>
  split at b
  .rename_i y e;rw[Operand.sc b]at e;exact(Zo A hd (.inl e) h).wp u B
  .rename_i y e;rw[Operand.sc b]at e;exact(Zo A hd (.inr e) h).wp u B
  .cases b
 case rel s=>
  split at b
  .rename_i y e;rw[Operand.sc b]at e;exact(Zm A hd (.inl e) h).wp u B
  .rename_i y e;rw[Operand.sc b]at e;exact(Zm A hd (.inr e) h).wp u B
  .cases b
 case tkx s=>
  split at b
  .rename_i y e;rw[Operand.sc b]at e;exact(Zn A hd (.inl e) h).wp u B
  .rename_i y e;rw[Operand.sc b]at e;exact(Zn A hd (.inr e) h).wp u B
  .cases b
 case Aa8 n=>
  split at b
  .rename_i y e;exact(XY A hd (.inl e) (QB b) h).wp u B
  .rename_i y e;exact(XY A hd (.inr e) (QB b) h).wp u B
  .cases b
 case Abq x=>
  split at b
  .rename_i c e;unfold Tz at b;split at b
   .rename_i y t C D E;simp only[pc]at b;obtain⟨H,L⟩:=b;split at L
    .rename_i el J;rw[Ck C (EY D) (EY E)]at e;exact(gc A hd e H J h).wp u B
    .cases L
    .cases L
   .cases b
  .cases b
 case xia x i n=>
  split at b
  .rename_i t y j e;simp only[pc,beq_iff_eq]at b;exact(kH A hd e b.1.1 b.1.2 b.2 h).wp u B
  .cases b
 case xfa x k=>
  split at b
  .rename_i t y f e;simp only[pc,beq_iff_eq]at b;exact(kG A hd e b.1 b.2 h).wp u B
  .cases b
 case xld x=>
  split at b
  .rename_i t y e;simp only[pc,beq_iff_eq]at b;exact(kI A hd e b.1 b.2 h).wp u B
  .cases b
 case xst x v k=>cases M
 case Aa6 n s y=>
  split at b
  .rename_i c e;unfold Tx at b;split at b
   .rename_i p q t Y s' C D E h0;simp only[AF.s.injEq]at h0;subst h0;simp only[pc,beq_iff_eq]at b;obtain⟨⟨⟨H,L⟩,rfl⟩,F⟩:=b;split at F
    .rename_i el J;split at F
     .rename_i i hi;split at F
      .rename_i z T;simp only[pc,beq_iff_eq,x7]at F;obtain⟨⟨⟨U,V⟩,W⟩,R⟩:=F;rw[Ck C (EZ D) (EZ E),Operand.sc H]at e;exact(gL A hd e J hi T U V W R L h).wp u B
      .cases F
     .cases F
    .cases F
   .cases b
  .cases b
 case AaB f ys=>
  split at b
  .rename_i c e;split at b
   .rename_i g I;simp only[pc,beq_iff_eq]at b;obtain⟨rfl,C⟩:=b;rw[Ck I rfl rfl]at e;exact dg A hd u e C h B
   .cases b
  .cases b
 case mkx n zero x=>
  split at b
  .rename_i t y z e;simp only[pc]at b;exact(nY A hd e b.1.1 b.1.2 b.2 h).wp u B
  .cases b
 case AaL f x=>
  split at b
  .rename_i c e;split at b
   .rename_i g y I Z;simp only[pc,beq_iff_eq]at b;obtain⟨rfl,C⟩:=b;rw[Ck I (EY Z) rfl]at e;exact dc A hd u e C h B
   .cases b
  .cases b
 case AaK f x=>
  split at b
  .rename_i c e;split at b
   .rename_i g y I Z;simp only[pc,beq_iff_eq]at b;obtain⟨rfl,C⟩:=b;rw[Ck I (EY Z) rfl]at e;exact dY A hd u e C h B
   .cases b
  .cases b
 case Aa9 n=>
  split at b
  .rename_i t len X e;simp only[pc,beq_iff_eq,Array.isEmpty_iff]at b;obtain⟨⟨rfl,rfl⟩,C⟩:=b;exact(gV A hd e C h).wp u B
  .cases b
 case Aaj gs=>
  split at b
  .rename_i t X e;exact(gN A hd e b h).wp u B
  .cases b
 case stx n s q=>cases M
 case cpt x q=>cases M
 case lac x=>
  split at b
  .rename_i t y e;simp only[pc,beq_iff_eq]at b;exact(jp A hd e b.1 b.2 h).wp u B
  .cases b
 case ctk x=>
  split at b
  .rename_i t y e;simp only[pc,beq_iff_eq]at b;exact(jh A hd e b.1 b.2 h).wp u B
  .cases b
 case cut n s hi=>
  split at b
  .rename_i t y l hh mx e;simp only[pc,beq_iff_eq,Option.isNone_iff_eq_none]at b;obtain⟨⟨⟨⟨rfl,rfl⟩,C⟩,D⟩,E⟩:=b;rw[Operand.sc C]at e;exact(ji A hd e D E h).wp u B
  .cases b
 case Aay f ys=>
  split at b
  .rename_i c e;split at b
   .rename_i g I;simp only[pc,beq_iff_eq]at b;obtain⟨rfl,C⟩:=b;rw[Ck I rfl rfl]at e;exact db A hd u e C h B
   .cases b
  .cases b
 case Aaw f ys i=>
  split at b
  .rename_i c e;split at b
   .rename_i g I;simp only[pc,beq_iff_eq]at b;obtain⟨rfl,C⟩:=b;rw[Ck I rfl rfl]at e;exact dX A hd u e C h B
   .cases b
  .cases b
 case AaT f ys=>
  split at b
  .rename_i c e;split at b
   .rename_i g I;simp only[pc,beq_iff_eq]at b;obtain⟨rfl,C⟩:=b;rw[Ck I rfl rfl]at e;exact(dZ A hd e C h).wp u B
   .cases b
  .cases b
 case Aba n s z x=>
  split at b
  .rename_i c e;unfold eu at b;split at b
   .rename_i p q t Y C D E;simp only[pc]at b;obtain⟨⟨H,L⟩,F⟩:=b;split at F
    .rename_i el kn J hu';split at F
     .rename_i i hi;split at F
      .rename_i zz T;split at F
       .rename_i z0 hz0;simp only[pc,beq_iff_eq,x7]at F;obtain⟨⟨⟨⟨rfl,U⟩,V⟩,W⟩,R⟩:=F;rw[Ck C (EZ D) (EZ E),Operand.isTmp_eq' H]at e;exact(gM A hd e J hu' hi T U V (EY hz0) W R L h).wp u B
       .cases F
      .cases F
     .cases F
    .cases F
   .cases b
  .cases b
 case Abg X x=>
  split at b
  .rename_i t y e;exact(gQ A hd e b h).wp u B
  .cases b
 case AaS f ys=>
  split at b
  .rename_i c e;split at b
   .rename_i g I;simp only[pc,beq_iff_eq]at b;obtain⟨rfl,C⟩:=b;rw[Ck I rfl rfl]at e;exact da A hd u e C h B
   .cases b
  .cases b
 case AaG f ys=>
  split at b
  .rename_i c e;split at b
   .rename_i g I;simp only[pc,beq_iff_eq]at b;obtain⟨rfl,C⟩:=b;rw[Ck I rfl rfl]at e;exact aH A hd u e C h B
   .cases b
  .cases b
 case isn x=>
  split at b
  .rename_i op t y z Y e;simp only[pc,beq_iff_eq]at b;obtain⟨⟨⟨rfl,C⟩,D⟩,E⟩:=b;exact(jo A hd e C D E h).wp u B
  .cases b
 case Abi q=>
  split at b
  .rename_i t len X e;split at b
   .rename_i x hps;simp only[pc]at b;rw[EY hps]at e;exact(gU A hd e b.1 b.2 h).wp u B
   .cases b
  .cases b
 case AaQ s q=>
  split at b
  .rename_i c e;unfold Tx at b;split at b
   .rename_i p q' t Y s' C D E H;simp only[AF.s.injEq]at H;subst H;simp only[pc,beq_iff_eq]at b;obtain⟨⟨⟨H,L⟩,rfl⟩,F⟩:=b;split at F
    .rename_i el J;split at F
     .rename_i i hi;split at F
      .rename_i z T;simp only[pc,beq_iff_eq,x7]at F;obtain⟨⟨⟨U,V⟩,W⟩,R⟩:=F;have hq:q'=.tmp q:=by
        cases q'<;>simp[AK]at L;rw[L]
       rw [Ck C (EZ D) (EZ E),Operand.sc H,hq]at e;exact(gK A hd e J hi T U V W h).wp u B
      .cases F
     .cases F
    .cases F
   .cases b
  .cases b
 case lan x=>
  split at b
  .rename_i t y e;simp only[pc,beq_iff_eq]at b;exact(jq A hd e b.1 b.2 h).wp u B
  .cases b
 case nia x i=>
  split at b
  .rename_i t y j e;simp only[pc,beq_iff_eq]at b;exact(j9 A hd e b.1.1 b.1.2 b.2 h).wp u B
  .cases b
 case nld x=>
  split at b
  .rename_i t y e;simp only[pc,beq_iff_eq]at b;exact(kA A hd e b.1 b.2 h).wp u B
  .cases b
 case nst x v=>cases M
 case Abu q=>
  split at b
  .rename_i t y e;exact(gO A hd e b h).wp u B
  .cases b
 case AaJ f ys i=>
  split at b
  .rename_i c e;split at b
   .rename_i g I;simp only[pc,beq_iff_eq]at b;obtain⟨rfl,C⟩:=b;rw[Ck I rfl rfl]at e;exact dW A hd u e C h B
   .cases b
  .cases b
 case mkm=>
  split at b
  .rename_i t r e;cases r with
   |none=>exact(jx A hd e h).wp u B|some r=>cases b
  .cases b
 case mvm s=>
  split at b
  .rename_i y e;rw[Operand.sc b]at e;exact(Zl A hd (.inl e) h).wp u B
  .rename_i y e;rw[Operand.sc b]at e;exact(Zl A hd (.inr e) h).wp u B
  .cases b
 case AaN f ys=>
  split at b
  .rename_i c e;split at b
   .rename_i g I;simp only[pc,beq_iff_eq]at b;obtain⟨rfl,C⟩:=b;rw[Ck I rfl rfl]at e;exact de A hd u e C h B
   .cases b
  .cases b
 case mlk s m x=>
  split at b
  .rename_i t y z c e;simp only[pc]at b;obtain⟨⟨⟨rfl,C⟩,D⟩,E⟩:=b;exact(jz A hd e C D E h).wp u B
  .cases b
 case mup s m x v=>cases M
 case stq n X x v=>cases M
 case ldg s n=>
  split at b
  .rename_i t y e;simp only[pc,beq_iff_eq]at b;rw[Operand.sc b.1.1]at e;exact(jr A hd e b.1.2 b.2 h).wp u B
  .cases b
 case ws s m=>
  split at b
  .rename_i t y e;simp only[pc]at b;obtain⟨C,D⟩:=b;split at D
   .rename_i k el J;exact(j6 A hd e C J h).wp u B
   .cases D
  .cases b
 case mnx s=>
  split at b
  .rename_i y c e;simp only[pc,Bool.not_eq_true']at b;obtain⟨rfl,C⟩:=b;rw[Operand.sc C]at e;exact(j5 A hd e h).wp u B
  .cases b
 case men s=>
  split at b
  .rename_i y e;rw[Operand.sc b]at e;exact(jw A hd e h).wp u B
  .cases b
end
end Go.Sf
namespace Go.Sf
open Go.RowKit (Below)
def Ty(ops:Array Oper)(o:Oper)(r:PR):Bool:=
 match r.guard,o.guard with
 |none,none=>true|some (g,b),some (j,b')=>b==b'&&((ops[j]?).bind (·.dst))==some g|_,_=>false
def Kx(P:Program)(N:Nat)(ops:Array Oper)(o:Oper)(r:PR):Bool:=
 Ty ops o r&&(match o.dst,r.dst with
 |some d,some d'=>d==d'&&decide (d<N)&&!L0 r.op&&Oa P o.op r.op|none,none=>L0 r.op&&Oa P o.op r.op|_,_=>false)
section
variable{P:Program}{F0:Nat->Nat->Prop}{w0:W0}{O:AB}{a:Act}{w:World}{ops:Array Oper}{o:Oper}{r:PR}{N:Nat}{p:Option (Nat×Value)}{K:AB->Prop}{next:Act->World->Prop}{Q:Exit->Act->World->Prop}
theorem Be.skip(b:Be F0 w0 O a w){d:Nat}(hd:d<a.tmps.size):Be F0 w0 ((d,.sk)::O) (a.put (some d) undef) w:=by
 obtain ⟨G,h⟩:=b;exact⟨_,h.quiet (Below.refl _ _) d hd .sk undef (fun _=>none) (by simp) (by simp) (by simp) rfl trivial⟩
theorem MC{o:Oper}(b:o.dst=none){K:EV->AB->Prop}(h:GW P F0 w0 a w o K)(e:∀env' w',K .undef env'->Be F0 w0 env' a w'->next a w'):o.wp P a w next Q:=by
 obtain ⟨w',c,env',f,g⟩:=h;unfold Oper.wp;rw[c,Oper.upon_skip,b];exact e _ _ f g
theorem qe{S:FuncId->Fq->At->Prop}{n s:Nat}{v:AF}{d:Option Nat}{O:AB}{K:EV->AB->Prop}(h:(AE.stb n s v).wp S O d K):(AE.st n (.s s) v).wp S O d K:=by
 simp only[AE.wp]at h|-
 grind [AF.place]
theorem Uf(f:Be F0 w0 O a w)(D:Jx N p a)(M:∀i v,p=some (i,v)->r.dst≠some i)(R:Kx P N ops o r=true)(h:r.wp (AQ P) O K)
  (E:∀env' a' w',K env'->Jx N p a'->Be F0 w0 env' a' w'->next a' w'):
  if Region.wanted o (yielded ops a.tmps)then o.wp P a w next Q else next (a.put o.dst undef) w:=by
 simp only[Kx,pc]at R;obtain⟨J,hd⟩:=R;have T:r.op.wp (AQ P) O r.dst (fun e env'=>K (env'.put r.dst e))->o.wp P a w next Q:=by
  intro A;obtain⟨G,f⟩:=f;cases ho:o.dst with
  |some d=>
   cases B:r.dst with
   |none=>rw[ho,B]at hd;cases hd
   |some d'=>
    rw [ho,B]at hd;simp only[pc,beq_iff_eq,x7,Bool.not_eq_true']at hd;obtain⟨⟨⟨rfl,I⟩,L⟩,c⟩:=hd;rw[B]at A;exact ic f (D.size▸I) ho c L A fun e env' a' w' k l k3=>E _ a' w' k (D.put (fun i v X=>by rw[<-B];exact M i v X) l) k3
  |none=>
   cases B:r.dst with
   |some d'=>rw[ho,B]at hd;cases hd
   |none=>
    rw [ho,B]at hd;rw[B]at A;simp only[pc]at hd;obtain⟨L,c⟩:=hd;generalize X:r.op=p at A L c;cases p<;>simp only[L0]at L<;>first|cases L|skip
    .rename_i n x v;simp only[Oa]at c;split at c
     .rename_i t y u e;simp only[pc,beq_iff_eq]at c;exact MC ho (bj f e c.1.1 c.1.2 c.2 A) fun env' w' k l=>E env' a w' k D l
     .cases c
    .rename_i n s v;simp only[Oa]at c;split at c
     .rename_i t y u e;simp only[pc,beq_iff_eq]at c;rw[Operand.sc c.1.1]at e;exact MC ho (bj f e (x':=.s s) (by simp[AK]) c.1.2 c.2 (qe A)) fun env' w' k l=>E env' a w' k D l
     .cases c
    .rename_i x v;simp only[Oa]at c;split at c
     .rename_i t y u e;simp only[pc,beq_iff_eq]at c;exact MC ho (kJ f e c.1.1 c.1.2 c.2 A) fun env' w' k l=>E env' a w' k D l
     .cases c
    .rename_i n x q;simp only[Oa]at c;split at c
     .rename_i t y u e;simp only[pc,beq_iff_eq]at c;exact MC ho (kF f e c.1.1 c.1.2 c.2 A) fun env' w' k l=>E env' a w' k D l
     .cases c
    .rename_i x q;simp only[Oa]at c;split at c
     .rename_i t y u e;simp only[pc,beq_iff_eq]at c;exact MC ho (jg f e c.1.1 c.1.2 c.2 A) fun env' w' k l=>E env' a w' k D l
     .cases c
    .rename_i x v;simp only[Oa]at c;split at c
     .rename_i t y u e;simp only[pc,beq_iff_eq]at c;exact MC ho (kC f e c.1.1 c.1.2 c.2 A) fun env' w' k l=>E env' a w' k D l
     .cases c
    .rename_i n ps x v;simp only[Oa]at c;split at c
     .rename_i t y u e;simp only[pc,beq_iff_eq]at c;exact MC ho (kE f e c.1.1 c.1.2 c.2 A) fun env' w' k l=>E env' a w' k D l
     .cases c
    .rename_i s m x v;simp only[Oa]at c;split at c
     .rename_i t y z u e;simp only[pc]at c;exact MC ho (j7 f e c.1.1.1 c.1.1.2 c.1.2 c.2 A) fun env' w' k l=>E env' a w' k D l
     .cases c
 have U:K (O.put r.dst .sk)->next (a.put o.dst undef) w:=by
  intro Y;cases ho:o.dst with
  |some d=>
   cases B:r.dst with
   |none=>rw[ho,B]at hd;cases hd
   |some d'=>
    rw [ho,B]at hd;simp only[pc,beq_iff_eq,x7,Bool.not_eq_true']at hd;obtain⟨⟨⟨rfl,I⟩,L⟩,c⟩:=hd;rw[B]at Y;exact E _ _ _ Y (D.put (fun i v X=>by rw[<-B];exact M i v X) ⟨_,rfl⟩) (f.skip (D.size▸I))
  |none=>
   cases B:r.dst with
   |some d'=>rw[ho,B]at hd;cases hd
   |none=>rw[B]at Y;exact E _ _ _ Y D f
 unfold PR.wp at h;cases F:r.guard with
 |none=>
  rw [F]at h;cases C:o.guard with
  |none=>rw[a6 (by simp[Region.wanted,C])];exact T h|some g=>rw[Ty,F,C]at J;cases J
 |some gb=>
  obtain ⟨g,b⟩:=gb;rw[F]at h;cases C:o.guard with
  |none=>rw[Ty,F,C]at J;cases J
  |some jb=>
   obtain ⟨j,b'⟩:=jb;rw[Ty,F,C]at J;simp only[pc,beq_iff_eq]at J;obtain⟨rfl,hj⟩:=J;simp only at h;split at h
   .rename_i q S;have hv:slot a g=.bool q:=by
     obtain ⟨G,f⟩:=f;have:=AZ f S (by simp);simpa only[AN,An]using this
    have H:g<a.tmps.size:=by
     obtain ⟨G,f⟩:=f;exact BX f S (by simp)
    have Z:yielded ops a.tmps j=some q:=by
     have I:a.tmps[g]?=some (.bool q):=by
      rw [slot,Array.getD_eq_getD_getElem?,Array.getElem?_eq_getElem H]at hv;rw[Array.getElem?_eq_getElem H];simpa using hv
     simp [yielded,hj,I]
    have A:Region.wanted o (yielded ops a.tmps)=(q==b):=by
     simp only[Region.wanted,C,Z];cases q<;>cases b<;>rfl
    rw [A];by_cases V:q=b
    .subst V;rw[a6 (by simp)];exact T (h.1 rfl)
    .have W:q=!b:=by cases q<;>cases b<;>simp_all
     rw [ae (by simpa using V)];exact U (h.2 W)
   .rename_i S;have hv:slot a g=undef:=by
     obtain ⟨G,f⟩:=f;have:=AZ f S (by simp);simpa only[AN]using this
    have H:g<a.tmps.size:=by
     obtain ⟨G,f⟩:=f;exact BX f S (by simp)
    have Z:yielded ops a.tmps j=none:=by
     have I:a.tmps[g]?=some undef:=by
      rw [slot,Array.getD_eq_getD_getElem?,Array.getElem?_eq_getElem H]at hv;rw[Array.getElem?_eq_getElem H];simpa using hv
     simp [yielded,hj,I,undef]
    have A:Region.wanted o (yielded ops a.tmps)=false:=by
     simp only[Region.wanted,C,Z];cases b<;>rfl
    rw [A];exact U h
   .exact h.elim
def RW:List PR->Bool
 |[]=>true|r::rs=>(match r.op,r.dst,r.guard with|.frz _,none,none=>true|_,_,_=>false)&&RW rs
variable{rs:List PR}
theorem ly:∀{O:AB},RW rs=true->wpOps (AQ P) K rs O->Be F0 w0 O a w->∃env',K env'/\Be F0 w0 env' a w:=by
 induction rs with
 |nil=>intro O _ h b;exact⟨O,h,b⟩|cons r rs l=>
  intro O c h b;simp only[RW,pc]at c;obtain⟨e,k⟩:=c;split at e
  .rename_i s f g i;simp only[wpOps,PR.wp,f,g,i,AE.wp]at h;split at h
   .rename_i cs j;obtain⟨G,b⟩:=b;exact l k h (b.frz j)
   .exact h.elim
  .cases e
def K5(P:Program)(N:Nat)(ops:Array Oper):List Oper->List PR->Bool
 |[],rs=>RW rs|o::os,r::rs=>Kx P N ops o r&&K5 P N ops os rs|_::_,[]=>false
theorem VU(m:∀O a w,K O->Jx N p a->Be F0 w0 O a w->Q .normal a w):∀(os:List Oper)(rs:List PR)(k:Nat),ops.toList.drop k=os->K5 P N ops os rs=true->(∀i v,p=some (i,v)->∀r∈rs,r.dst≠some i)->∀(O:AB)(a:Act)(w:World),Jx N p a->Be F0 w0 O a w ->
  wpOps (AQ P) K rs O->Go.wpOps P ops Q (List.range' k os.length) a w
 |[],rs,k,_,b,_,O,a,w,g,j,h=>by
  obtain ⟨env',z,A⟩:=ly b h j;exact m env' a w z g A
 |o::os,[],k,_,b,_,_,_,_,_,_,_=>by simp[K5]at b|o::os,r::rs,k,hd,b,c,O,a,w,g,j,h=>by
  simp only[K5,pc]at b;have y:ops[k]?=some o:=by
   rw [<-Array.getElem?_toList];have:=congrArg (fun l=>l[0]?) hd
   grind
  have f:ops.toList.drop (k+1)=os:=by
   grind [List.tail,List.tail_drop]
  simp only[ca,List.range'_succ];rw[Go.wpOps_cons];unfold Go.wpOp;rw[y];simp only[];have:=Uf (Q:=Q) (next:=Go.wpOps P ops Q (List.range' (k+1) os.length)) j g (fun i v e=>c i v e r (by simp)) b.1 h fun env' a' w' q s t=>VU m os rs (k+1) f b.2 (fun i v e r u=>c i v e r (by simp[u])) env' a' w' s t q
  grind
theorem ZX{id:Nat}(b:K5 P N ops ops.toList rs=true)(c:∀i v,p=some (i,v)->∀r∈rs,r.dst≠some i)(e:Jx N p a)(f:Be F0 w0 O a w)(h:wpOps (AQ P) K rs O)
  (g:∀O a w,K O->Jx N p a->Be F0 w0 O a w->Q .normal a w):(Code.region id ops false).wp P Q a w:=by
 refine Go.wp_region ?_;rw[List.range_eq_range',<-Array.length_toList];exact VU g ops.toList rs 0 rfl b c O a w e f h
end
end Go.Sf
