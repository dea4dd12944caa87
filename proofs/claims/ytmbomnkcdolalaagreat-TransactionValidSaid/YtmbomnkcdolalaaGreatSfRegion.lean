/- One operation against the checker, and regions in the text's order. -/
import Derived.Test.YtmbomnkcdolalaaGreatSfN
import Derived.Orders
set_option linter.all false
namespace Go.Sf
open Go.RowKit (Below)
def Operand.Aaz(n:Nat):Operand->Bool
 |.tmp m=>m==n|_=>false
variable{n:Nat}{x:Operand}
theorem Operand.tg(h:Operand.Aaz n x=true):x=.tmp n:=by
 cases x<;>simp[Operand.Aaz]at h;rw[h]
def UC:Operand->Bool
 |.const v=>Kd v|_=>false
theorem PB(h:UC x=true):∃v,x=.const v/\Kd v=true:=by
 cases x<;>simp[UC]at h;exact⟨_,rfl,h⟩
def Sd(P:Program)(str:Bool)(c:Call)(x:AF):Bool:=
 match c.callee,c.args.toList,c.argTypes.toList with
 |.builtin .len,[y],[t]=>AI y x&&(match P.underlying t with|some (.slice _)=>!str|some .string=>str|_=>false)
 |_,_,_=>false
def Sa(P:Program)(n:Nat)(c:Call)(x y:AF):Bool:=
 match c.callee,c.args.toList,c.argTypes.toList,x with
 |.builtin .append,[p,q],[t,t'],.s s=>Operand.Aaz s p&&AI q y&&t==t'&&(match P.underlying t with
  |some (.slice e)=>(match P.info? e with
   |some i=>(match i.zero with|some z=>i.size==n&&decide (i.bytes<=4096)&&z.cells.size==n&&decide (0<n)|none=>false)
   |none=>false)
  |_=>false)
 |_,_,_,_=>false
def mG(mx:Bool)(c:Call)(x y:AF):Bool:=
 match c.callee,c.args.toList with
 |.builtin .max,[p,q]=>mx&&AI p x&&AI q y|.builtin .min,[p,q]=>!mx&&AI p x&&AI q y|_,_=>false
def Nw(P:Program)(o:Op):AE->Bool
 |.mv x=>match o with|.move y|.assign y=>AI y x|_=>false
 |.tk s=>match o with|.move y|.assign y=>Operand.Aaz s y|_=>false
 |.Abx _=>match o with|.move y|.assign y=>UC y|_=>false
 |.fad x k=>match o with|.fieldAddr t y f=>AI y x&&Oi P t f==some k|.move y|.assign y|.nilCheck y=>k==0&&AI y x|_=>false
 |.bad s k=>match o with|.indexAddr t y j=>Operand.Aaz s y&&Z7 P t j k|.fieldAddr t y f=>Operand.Aaz s y&&Oi P t f==some k|.move y|.assign y|.nilCheck y=>k==0&&Operand.Aaz s y|_=>false
 |.iad x i n=>match o with|.indexAddr t y j=>AI y x&&AI j i&&H4 P t==some n|_=>false
 |.aad x i n k=>match o with|.indexAddr t y j=>AI y x&&AI j i&&(match P.underlying t with|some (.array k' e)=>k'==k&&Ce P e==some n|_=>false)|_=>false
 |.ld x=>match o with|.load t y=>AI y x&&Bp P t==some false|_=>false
 |.lda x n=>match o with|.load t y=>AI y x&&Bp P t==some true&&Ce P t==some n|_=>false
 |.ldb s n=>match o with|.load t y=>AI y (.s s)&&Bp P t==some true&&Ce P t==some n|_=>false
 |.ldt x=>match o with|.load t y=>AI y x&&Bp P t==some false|_=>false
 |.bin k op x y=>match o with|.binOp op' t p q _=>op'==op&&L9 P k t&&AI p x&&AI q y|_=>false
 |.not x=>match o with|.unOp op _ y=>op==.not&&AI y x|_=>false
 |.neg x=>match o with|.unOp op _ y=>op==.neg&&AI y x|_=>false
 |.pick c x y=>match o with|.pick c' p q=>AI c' c&&AI p x&&AI q y|_=>false
 |.len x=>match o with|.call c=>Sd P false c x|_=>false
 |.AbJ x=>match o with|.call c=>Sd P true c x|_=>false
 |.slc n x lo hi=>match o with|.slice t y l h mx=>mx.isNone&&AI y x&&MB l lo&&MB h hi&&H4 P t==some n|_=>false
 |.AaH x lo hi=>match o with|.slice t y l h mx=>mx.isNone&&AI y x&&MB l lo&&MB h hi&&(match P.underlying t with|some .string=>true|_=>false)|_=>false
 |.bld z ps=>match o with|.build t qs=>Z8 P t z qs.toList ps|_=>false
 |.lst n ys=>match o with
  |.buildSlice t len ps=>(match P.underlying t with
   |some (.slice e)=>(match P.info? e with
    |some i=>(match i.zero with
     |some z=>i.size==n&&decide (0<n)&&z.cells.toList.all Value.oneCell'&&decide (0<z.cells.size)&&len==ps.size&&decide (len*n<=2^ 24)&&Qb 0 ps.toList ys|none=>false)
    |none=>false)
   |_=>false)
  |_=>false
 |.app n x y=>match o with|.call c=>Sa P n c x y|_=>false
 |.call f ys=>match o with|.call c=>(match c.callee with|.value (.func g)=>g==f&&BU c.args.toList ys|_=>false)|_=>false
 |.AaM x ys=>match o with|.call c=>(match c.callee with|.value g=>AI g x&&BU c.args.toList ys|_=>false)|_=>false
 |.clo f cs=>match o with|.makeFunc (.func g) first xs=>g==f&&first.size==0&&BU xs.toList cs|_=>false
 |.ext x i=>match o,x with|.extract y j,.s s=>Operand.Aaz s y&&j==i|_,_=>false
 |.cvt k x=>match o with|.convert s t y=>AI y x&&(match P.underlying s,P.underlying t with|some (.int _),some (.int k')=>k'==k|_,_=>false)|_=>false
 |.AaC x i=>match o with|.index t y j=>AI y x&&AI j i&&(match P.underlying t with|some .string=>true|_=>false)|_=>false
 |.Abt x=>match o with|.box _ y=>AI y x|_=>false
 |.AbC x=>match o with|.box _ y=>AI y x|_=>false
 |.mm mx x y=>match o with|.call c=>mG mx c x y|_=>false
 |.alc cs=>match o with|.alloc t=>(match P.info? t with|some i=>(match i.zero with|some z=>Mp cs z.cells.toList|none=>false)|none=>false)|_=>false
 |.st n x v=>match o with|.store t y u=>AI y x&&AI u v&&Ce P t==some n|_=>false
 |.stb n s v=>match o with|.store t y u=>Operand.Aaz s y&&AI u v&&Ce P t==some n|_=>false
 |.frz _=>false|.AbF x k n agg=>match o with|.field t y f=>AI y x&&Z9 P t f k n agg|_=>false
 |.xal s=>match o with|.move y|.assign y=>Operand.Aaz s y|_=>false
 |.AbE x=>match o with|.call c=>Sd P false c x|_=>false
 |.xia x i n=>match o with|.indexAddr t y j=>AI y x&&AI j i&&H4 P t==some n|_=>false
 |.xfa x k=>match o with|.fieldAddr t y f=>AI y x&&Oi P t f==some k|_=>false
 |.xld x=>match o with|.load t y=>AI y x&&Bp P t==some false|_=>false
 |.xst x v k=>match o with|.store t y u=>AI y x&&AI u v&&Ce P t==some k|_=>false
 |.rel s=>match o with|.move y|.assign y=>Operand.Aaz s y|_=>false
 |.Abl _=>match o with|.move y|.assign y=>UC y|_=>false
 |.tkx s=>match o with|.move y|.assign y=>Operand.Aaz s y|_=>false
 |.Abe n s y=>match o with|.call c=>Sa P n c (.s s) y|_=>false
 |.AaL f ys=>match o with|.call c=>(match c.callee with|.value (.func g)=>g==f&&BU c.args.toList ys|_=>false)|_=>false
 |.mkx n zero x=>match o with|.makeSlice t y z=>AI y x&&AI z x&&eb P t n zero|_=>false
 |.AaU f x=>match o with|.call c=>(match c.callee,c.args.toList with|.value (.func g),[y]=>g==f&&AI y x|_,_=>false)|_=>false
 |.AaV f x=>match o with|.call c=>(match c.callee,c.args.toList with|.value (.func g),[y]=>g==f&&AI y x|_,_=>false)|_=>false
 |.Abj n=>match o with|.buildSlice t len ps=>len==0&&ps.isEmpty&&XQ P t n|_=>false
 |.Aay gs=>match o with|.build t ps=>XO P t ps.toList gs|_=>false
 |.stx n s q=>match o with|.store t y u=>AI y (.s s)&&AI u (.s q)&&Ce P t==some n|_=>false
 |.Aa2 f ys=>match o with|.call c=>(match c.callee with|.value (.func g)=>g==f&&BU c.args.toList ys|_=>false)|_=>false
 |.AaN f ys=>match o with|.call c=>(match c.callee with|.value (.func g)=>g==f&&BU c.args.toList ys|_=>false)|_=>false
 |.isn x=>match o with|.binOp op t y z _=>op==.eql&&AI y x&&SV z&&aA P t|_=>false
 |.lac x=>match o with|.load t y=>AI y x&&Bp P t==some false|_=>false
 |.ctk x=>match o with|.load t y=>AI y x&&Bp P t==some false|_=>false
 |.cpt x q=>match o with|.store t y u=>AI y x&&AI u (.s q)&&Ce P t==some 1|_=>false
 |.cut n s hi=>match o with|.slice t y l (some h) mx=>mx.isNone&&l.isNone&&Operand.Aaz s y&&AI h hi&&H4 P t==some n|_=>false
 |.AaI f ys=>match o with|.call c=>(match c.callee with|.value (.func g)=>g==f&&BU c.args.toList ys|_=>false)|_=>false
 |.Abu _ x=>match o with|.box _ y=>AI y x|_=>false
 |.Aa3 f ys=>match o with|.call c=>(match c.callee with|.value (.func g)=>g==f&&BU c.args.toList ys|_=>false)|_=>false
 |.Abk n s z x=>match o with|.call c=>bv P n s z x c|_=>false
 |.AaF f ys _=>match o with|.call c=>(match c.callee with|.value (.func g)=>g==f&&BU c.args.toList ys|_=>false)|_=>false
 |.Abv q=>match o with|.buildSlice t len ps=>(match len,ps.toList with|1,[(0,x)]=>XP P t&&AI x (.s q)|_,_=>false)|_=>false
 |.AaZ s q=>match o with|.call c=>Sa P 1 c (.s s) (.s q)|_=>false
 |.lan x=>match o with|.load t y=>AI y x&&Bp P t==some false|_=>false
 |.nia x i=>match o with|.indexAddr t y j=>AI y x&&AI j i&&H4 P t==some 1|_=>false
 |.nld x=>match o with|.load t y=>AI y x&&Bp P t==some false|_=>false
 |.nst x v=>match o with|.store t y u=>AI y x&&AI u v&&Ce P t==some 1|_=>false
 |.AbD q=>match o with|.box _ y=>AI y (.s q)|_=>false
 |.AaT f ys _=>match o with|.call c=>(match c.callee with|.value (.func g)=>g==f&&BU c.args.toList ys|_=>false)|_=>false
 |.ldg s n=>match o with|.load t y=>Operand.Aaz s y&&Bp P t==some true&&Ce P t==some n|_=>false
 |.stq n _ x v=>match o with|.store t y u=>AI y x&&AI u v&&Ce P t==some n|_=>false
 |.mkm=>match o with|.makeMap _ r=>r.isNone|_=>false
 |.mvm s=>match o with|.move y|.assign y=>Operand.Aaz s y|_=>false
 |.AaQ f ys=>match o with|.call c=>(match c.callee with|.value (.func g)=>g==f&&BU c.args.toList ys|_=>false)|_=>false
 |.mlk _ m x=>match o with|.lookup t y z c=>c&&Nc P t&&AI y m&&AI z x|_=>false
 |.mup _ m x v=>match o with|.mapUpdate t y z u=>Nc P t&&AI y m&&AI z x&&AI u v|_=>false
 |.z5 _ m=>match o with|.range t y=>AI y m&&(match P.underlying t with|some (.map _ _)=>true|_=>false)|_=>false
 |.mnx s=>match o with|.next y c=>!c&&Operand.Aaz s y|_=>false
 |.men s=>match o with|.entry y=>Operand.Aaz s y|_=>false
def LV:AE->Bool
 |.st ..=>true|.stb ..=>true|.xst ..=>true|.stx ..=>true|.cpt ..=>true|.nst ..=>true|.mup ..=>true|.stq ..=>true|_=>false
section
variable{P:Program}{F0:Nat->Nat->Prop}{w0:W0}{O:AB}{a:Act}{w:World}{G:BJ}{d:Nat}{o:Oper}{K:EV->AB->Prop}
theorem Au.wp(h:Au P F0 w0 a w o d K)(b:o.dst=some d){next:Act->World->Prop}{Q:Exit->Act->World->Prop}(f:∀e env' a' w',K e env'->OX a d a'->BZ F0 w0 ((d,e)::env') a' w'->next a' w'):o.wp P a w next Q:=by
 obtain ⟨v,w',c,e,env',g,i⟩:=h;unfold Oper.wp;rw[c,Oper.upon_value,b];exact f e env' _ w' g ⟨_,rfl⟩ i
variable{α:Type}
theorem Ej{a:Array α}{x:α}(h:a.toList=[x]):a=#[x]:=by
 cases a;simp_all
theorem Ek{a:Array α}{x y:α}(h:a.toList=[x,y]):a=#[x,y]:=by
 cases a;simp_all
theorem Cj{c:Call}{b:Callee}{e:Array Operand}{f:Array TypeId}(g:c.callee=b)(h:c.args=e)(i:c.argTypes=f):c={callee:=b,args:=e,argTypes:=f}:=by
 cases c;simp_all
theorem ed(A:AP F0 w0 O a w G)(hd:d<a.tmps.size)(u:o.dst=some d){p:AE}(b:Nw P o.op p=true)(M:LV p=false)(h:p.wp (AQ P) O (some d) K)
  {next:Act->World->Prop}{Q:Exit->Act->World->Prop}(B:∀e env' a' w',K e env'->OX a d a'->BZ F0 w0 ((d,e)::env') a' w'->next a' w'):o.wp P a w next Q:=by
 cases p<;>simp only[Nw]at b<;>try(exact absurd b Bool.false_ne_true)
 case mv x=>
  split at b
  .rename_i y e;exact(ZQ A hd (.inl e) b h).wp u B
  .rename_i y e;exact(ZQ A hd (.inr e) b h).wp u B
  .cases b
 case tk s=>
  split at b
  .rename_i y e;rw[Operand.tg b]at e;exact(ZS A hd (.inl e) h).wp u B
  .rename_i y e;rw[Operand.tg b]at e;exact(ZS A hd (.inr e) h).wp u B
  .cases b
 case Abx n=>
  split at b
  .rename_i y e;exact(Vz A hd (.inl e) (PB b) h).wp u B
  .rename_i y e;exact(Vz A hd (.inr e) (PB b) h).wp u B
  .cases b
 case fad x k=>
  split at b
  .rename_i t y f e;simp only[pc,beq_iff_eq]at b;exact(Qm A hd (Yv e b.2) b.1 h).wp u B
  .rename_i y e;simp only[pc,beq_iff_eq]at b;obtain⟨rfl,b⟩:=b;exact(Qm A hd (OT (.inl e)) b h).wp u B
  .rename_i y e;simp only[pc,beq_iff_eq]at b;obtain⟨rfl,b⟩:=b;exact(Qm A hd (OT (.inr (.inl e))) b h).wp u B
  .rename_i y e;simp only[pc,beq_iff_eq]at b;obtain⟨rfl,b⟩:=b;exact(Qm A hd (OT (.inr (.inr e))) b h).wp u B
  .cases b
 case bad s k=>
  split at b
  .rename_i t y j e;simp only[pc]at b;rw[Operand.tg b.1]at e;exact(Ov A hd (ig e b.2) h).wp u B
  .rename_i t y f e;simp only[pc,beq_iff_eq]at b;rw[Operand.tg b.1]at e;exact(Ov A hd (Yv e b.2) h).wp u B
  .rename_i y e;simp only[pc,beq_iff_eq]at b;obtain⟨rfl,b⟩:=b;rw[Operand.tg b]at e;exact(Ov A hd (OT (.inl e)) h).wp u B
  .rename_i y e;simp only[pc,beq_iff_eq]at b;obtain⟨rfl,b⟩:=b;rw[Operand.tg b]at e;exact(Ov A hd (OT (.inr (.inl e))) h).wp u B
  .rename_i y e;simp only[pc,beq_iff_eq]at b;obtain⟨rfl,b⟩:=b;rw[Operand.tg b]at e;exact(Ov A hd (OT (.inr (.inr e))) h).wp u B
  .cases b
 case iad x i n=>
  split at b
  .rename_i t y j e;simp only[pc,beq_iff_eq]at b;exact(fh A hd e b.1.1 b.1.2 b.2 h).wp u B
  .cases b
 case aad x i n k=>
  split at b
  .rename_i t y j e;simp only[pc]at b;obtain⟨⟨C,D⟩,E⟩:=b;split at E
   .rename_i k' el J;simp only[pc,beq_iff_eq]at E;obtain⟨rfl,H⟩:=E;exact(fU A hd e C D J H h).wp u B
   .cases E
  .cases b
 case ld x=>
  split at b
  .rename_i t y e;simp only[pc,beq_iff_eq]at b;exact(kP A hd e b.1 b.2 h).wp u B
  .cases b
 case lda x n=>
  split at b
  .rename_i t y e;simp only[pc,beq_iff_eq]at b;exact(X4 A hd e b.1.1 b.1.2 b.2 h).wp u B
  .cases b
 case ldb s n=>
  split at b
  .rename_i t y e;simp only[pc,beq_iff_eq]at b;refine(X4 (S:=AQ P) A hd e b.1.1 b.1.2 b.2 (y:=.s s) ?_).wp u B;simp only[AE.wp]at h|-;split at h
   .rename_i cs I;simp only[AF.ev,I,A3,AX];exact h
   .exact h.elim
  .cases b
 case ldt x=>
  split at b
  .rename_i t y e;simp only[pc,beq_iff_eq]at b;exact(fm A hd e b.1 b.2 h).wp u B
  .cases b
 case bin k op x y=>
  split at b
  .rename_i op' t p q Y e;simp only[pc,beq_iff_eq]at b;obtain⟨⟨⟨rfl,C⟩,D⟩,E⟩:=b;exact(fX A hd e C D E h).wp u B
  .cases b
 case not x=>
  split at b
  .rename_i op t y e;simp only[pc,beq_iff_eq]at b;obtain⟨rfl,C⟩:=b;exact(gE A hd e C h).wp u B
  .cases b
 case neg x=>
  split at b
  .rename_i op t y e;simp only[pc,beq_iff_eq]at b;obtain⟨rfl,C⟩:=b;exact(gB A hd e C h).wp u B
  .cases b
 case pick c x y=>
  split at b
  .rename_i c' p q e;simp only[pc]at b;exact(dU A hd e b.1.1 b.1.2 b.2 h).wp u B
  .cases b
 case len x=>
  split at b
  .rename_i c e;unfold Sd at b;split at b
   .rename_i y t C D E;simp only[pc]at b;obtain⟨H,L⟩:=b;split at L
    .rename_i el J;rw[Cj C (Ej D) (Ej E)]at e;exact(fo A hd e H J h).wp u B
    .cases L
    .cases L
   .cases b
  .cases b
 case AbJ x=>
  split at b
  .rename_i c e;unfold Sd at b;split at b
   .rename_i y t C D E;simp only[pc]at b;obtain⟨H,L⟩:=b;split at L
    .cases L
    .rename_i J;rw[Cj C (Ej D) (Ej E)]at e;exact(dW A hd e H J h).wp u B
    .cases L
   .cases b
  .cases b
 case slc n x lo hi=>
  split at b
  .rename_i t y l hh mx e;simp only[pc,beq_iff_eq,Option.isNone_iff_eq_none]at b;obtain⟨⟨⟨⟨rfl,C⟩,D⟩,E⟩,H⟩:=b;exact(gG A hd e C D E H h).wp u B
  .cases b
 case AaH x lo hi=>
  split at b
  .rename_i t y l hh mx e;simp only[pc,Option.isNone_iff_eq_none]at b;obtain⟨⟨⟨⟨rfl,C⟩,D⟩,E⟩,H⟩:=b;split at H
   .rename_i J;exact(dX A hd e C D E J h).wp u B
   .cases H
  .cases b
 case bld z X=>
  split at b
  .rename_i t qs e;exact(fY A hd e b h).wp u B
  .cases b
 case lst n ys=>
  split at b
  .rename_i t len X e;split at b
   .rename_i el J;split at b
    .rename_i i hi;split at b
     .rename_i z T;simp only[pc,beq_iff_eq,zzX]at b;obtain⟨⟨⟨⟨⟨⟨C,D⟩,E⟩,H⟩,L⟩,F⟩,U⟩:=b;exact(ft A hd e J hi T C D E H L F U h).wp u B
     .cases b
    .cases b
   .cases b
  .cases b
 case app n x y=>
  split at b
  .rename_i c e;unfold Sa at b;split at b
   .rename_i p q t Y s C D E;simp only[pc,beq_iff_eq]at b;obtain⟨⟨⟨H,L⟩,rfl⟩,F⟩:=b;split at F
    .rename_i el J;split at F
     .rename_i i hi;split at F
      .rename_i z T;simp only[pc,beq_iff_eq,zzX]at F;obtain⟨⟨⟨U,V⟩,W⟩,R⟩:=F;rw[Cj C (Ek D) (Ek E),Operand.tg H]at e;exact(fW A hd e J hi T U V W R L h).wp u B
      .cases F
     .cases F
    .cases F
   .cases b
  .cases b
 case call f ys=>
  split at b
  .rename_i c e;split at b
   .rename_i g I;simp only[pc,beq_iff_eq]at b;obtain⟨rfl,C⟩:=b;rw[Cj I rfl rfl]at e;exact dP A hd u e C h B
   .cases b
  .cases b
 case AaM x ys=>
  split at b
  .rename_i c e;split at b
   .rename_i g I;simp only[pc]at b;rw[Cj I rfl rfl]at e;exact ap A hd u e b.1 b.2 h B
   .cases b
  .cases b
 case clo f cs=>
  split at b
  .rename_i g first xs e
   simp only[pc,beq_iff_eq]at b;obtain⟨⟨rfl,C⟩,D⟩:=b;rw[Array.eq_empty_of_size_eq_zero C]at e;exact(fZ A hd e D h).wp u B
  .cases b
 case ext x i=>
  split at b
  .rename_i y j s e;simp only[pc,beq_iff_eq]at b;obtain⟨C,rfl⟩:=b;rw[Operand.tg C]at e;exact(fg A hd e h).wp u B
  .cases b
 case cvt k x=>
  split at b
  .rename_i s t y e;simp only[pc]at b;obtain⟨C,D⟩:=b;split at D
   .rename_i k1 k2 hs ht;simp only[beq_iff_eq]at D;subst D;exact(fe A hd e hs ht C h).wp u B
   .cases D
  .cases b
 case AaC x i=>
  split at b
  .rename_i t y j e;simp only[pc]at b;obtain⟨⟨C,D⟩,E⟩:=b;split at E
   .rename_i J;exact(dV A hd e C D J h).wp u B
   .cases E
  .cases b
 case Abt x=>
  split at b
  .rename_i t y e;exact(dO A hd e b h).wp u B
  .cases b
 case AbC x=>
  split at b
  .rename_i t y e;exact(dM A hd e b h).wp u B
  .cases b
 case mm mx x y=>
  split at b
  .rename_i c e;unfold mG at b;split at b
   .rename_i p q C D;simp only[pc]at b;obtain⟨⟨rfl,E⟩,H⟩:=b;rw[Cj C (Ek D) rfl]at e;exact(ZP (mx:=true) A hd e E H h).wp u B
   .rename_i p q C D;simp only[pc,Bool.not_eq_true']at b;obtain⟨⟨rfl,E⟩,H⟩:=b;rw[Cj C (Ek D) rfl]at e;exact(ZP (mx:=false) A hd e E H h).wp u B
   .cases b
  .cases b
 case alc cs=>
  split at b
  .rename_i t e;split at b
   .rename_i i hi;split at b
    .rename_i z T;exact(fV A hd e hi T b h).wp u B
    .cases b
   .cases b
  .cases b
 case st n x v=>cases M
 case stb n s v=>cases M
 case AbF x k n agg=>
  split at b
  .rename_i t y f e;simp only[pc]at b;exact(dQ A hd e b.1 b.2 h).wp u B
  .cases b
 case xal s=>
  split at b
  .rename_i y e;rw[Operand.tg b]at e;exact(X8 A hd (.inl e) h).wp u B
  .rename_i y e;rw[Operand.tg b]at e;exact(X8 A hd (.inr e) h).wp u B
  .cases b
 case rel s=>
  split at b
  .rename_i y e;rw[Operand.tg b]at e;exact(X6 A hd (.inl e) h).wp u B
  .rename_i y e;rw[Operand.tg b]at e;exact(X6 A hd (.inr e) h).wp u B
  .cases b
 case tkx s=>
  split at b
  .rename_i y e;rw[Operand.tg b]at e;exact(X7 A hd (.inl e) h).wp u B
  .rename_i y e;rw[Operand.tg b]at e;exact(X7 A hd (.inr e) h).wp u B
  .cases b
 case Abl n=>
  split at b
  .rename_i y e;exact(V0 A hd (.inl e) (PB b) h).wp u B
  .rename_i y e;exact(V0 A hd (.inr e) (PB b) h).wp u B
  .cases b
 case AbE x=>
  split at b
  .rename_i c e;unfold Sd at b;split at b
   .rename_i y t C D E;simp only[pc]at b;obtain⟨H,L⟩:=b;split at L
    .rename_i el J;rw[Cj C (Ej D) (Ej E)]at e;exact(dY A hd e H J h).wp u B
    .cases L
    .cases L
   .cases b
  .cases b
 case xia x i n=>
  split at b
  .rename_i t y j e;simp only[pc,beq_iff_eq]at b;exact(gK A hd e b.1.1 b.1.2 b.2 h).wp u B
  .cases b
 case xfa x k=>
  split at b
  .rename_i t y f e;simp only[pc,beq_iff_eq]at b;exact(gJ A hd e b.1 b.2 h).wp u B
  .cases b
 case xld x=>
  split at b
  .rename_i t y e;simp only[pc,beq_iff_eq]at b;exact(gL A hd e b.1 b.2 h).wp u B
  .cases b
 case xst x v k=>cases M
 case Abe n s y=>
  split at b
  .rename_i c e;unfold Sa at b;split at b
   .rename_i p q t Y s' C D E h0;simp only[AF.s.injEq]at h0;subst h0;simp only[pc,beq_iff_eq]at b;obtain⟨⟨⟨H,L⟩,rfl⟩,F⟩:=b;split at F
    .rename_i el J;split at F
     .rename_i i hi;split at F
      .rename_i z T;simp only[pc,beq_iff_eq,zzX]at F;obtain⟨⟨⟨U,V⟩,W⟩,R⟩:=F;rw[Cj C (Ek D) (Ek E),Operand.tg H]at e;exact(dI A hd e J hi T U V W R L h).wp u B
      .cases F
     .cases F
    .cases F
   .cases b
  .cases b
 case AaL f ys=>
  split at b
  .rename_i c e;split at b
   .rename_i g I;simp only[pc,beq_iff_eq]at b;obtain⟨rfl,C⟩:=b;rw[Cj I rfl rfl]at e;exact aq A hd u e C h B
   .cases b
  .cases b
 case mkx n zero x=>
  split at b
  .rename_i t y z e;simp only[pc]at b;exact(kQ A hd e b.1.1 b.1.2 b.2 h).wp u B
  .cases b
 case AaU f x=>
  split at b
  .rename_i c e;split at b
   .rename_i g y I Z;simp only[pc,beq_iff_eq]at b;obtain⟨rfl,C⟩:=b;rw[Cj I (Ej Z) rfl]at e;exact al A hd u e C h B
   .cases b
  .cases b
 case AaV f x=>
  split at b
  .rename_i c e;split at b
   .rename_i g y I Z;simp only[pc,beq_iff_eq]at b;obtain⟨rfl,C⟩:=b;rw[Cj I (Ej Z) rfl]at e;exact ah A hd u e C h B
   .cases b
  .cases b
 case Abj n=>
  split at b
  .rename_i t len X e;simp only[pc,beq_iff_eq,Array.isEmpty_iff]at b;obtain⟨⟨rfl,rfl⟩,C⟩:=b;exact(dT A hd e C h).wp u B
  .cases b
 case Aay gs=>
  split at b
  .rename_i t X e;exact(dK A hd e b h).wp u B
  .cases b
 case stx n s q=>cases M
 case cpt x q=>cases M
 case lac x=>
  split at b
  .rename_i t y e;simp only[pc,beq_iff_eq]at b;exact(fj A hd e b.1 b.2 h).wp u B
  .cases b
 case ctk x=>
  split at b
  .rename_i t y e;simp only[pc,beq_iff_eq]at b;exact(fb A hd e b.1 b.2 h).wp u B
  .cases b
 case cut n s hi=>
  split at b
  .rename_i t y l hh mx e;simp only[pc,beq_iff_eq,Option.isNone_iff_eq_none]at b;obtain⟨⟨⟨⟨rfl,rfl⟩,C⟩,D⟩,E⟩:=b;rw[Operand.tg C]at e;exact(fc A hd e D E h).wp u B
  .cases b
 case AaI f ys=>
  split at b
  .rename_i c e;split at b
   .rename_i g I;simp only[pc,beq_iff_eq]at b;obtain⟨rfl,C⟩:=b;rw[Cj I rfl rfl]at e;exact ak A hd u e C h B
   .cases b
  .cases b
 case AaF f ys i=>
  split at b
  .rename_i c e;split at b
   .rename_i g I;simp only[pc,beq_iff_eq]at b;obtain⟨rfl,C⟩:=b;rw[Cj I rfl rfl]at e;exact af A hd u e C h B
   .cases b
  .cases b
 case Aa3 f ys=>
  split at b
  .rename_i c e;split at b
   .rename_i g I;simp only[pc,beq_iff_eq]at b;obtain⟨rfl,C⟩:=b;rw[Cj I rfl rfl]at e;exact(ai A hd e C h).wp u B
   .cases b
  .cases b
 case Abk n s z x=>
  split at b
  .rename_i c e;unfold bv at b;split at b
   .rename_i p q t Y C D E;simp only[pc]at b;obtain⟨⟨H,L⟩,F⟩:=b;split at F
    .rename_i el kn J hu';split at F
     .rename_i i hi;split at F
      .rename_i zz T;split at F
       .rename_i z0 hz0;simp only[pc,beq_iff_eq,zzX]at F;obtain⟨⟨⟨⟨rfl,U⟩,V⟩,W⟩,R⟩:=F;rw[Cj C (Ek D) (Ek E),Operand.isTmp_eq' H]at e;exact(dJ A hd e J hu' hi T U V (Ej hz0) W R L h).wp u B
       .cases F
      .cases F
     .cases F
    .cases F
   .cases b
  .cases b
 case Abu X x=>
  split at b
  .rename_i t y e;exact(dN A hd e b h).wp u B
  .cases b
 case Aa2 f ys=>
  split at b
  .rename_i c e;split at b
   .rename_i g I;simp only[pc,beq_iff_eq]at b;obtain⟨rfl,C⟩:=b;rw[Cj I rfl rfl]at e;exact aj A hd u e C h B
   .cases b
  .cases b
 case AaN f ys=>
  split at b
  .rename_i c e;split at b
   .rename_i g I;simp only[pc,beq_iff_eq]at b;obtain⟨rfl,C⟩:=b;rw[Cj I rfl rfl]at e;exact Yc A hd u e C h B
   .cases b
  .cases b
 case isn x=>
  split at b
  .rename_i op t y z Y e;simp only[pc,beq_iff_eq]at b;obtain⟨⟨⟨rfl,C⟩,D⟩,E⟩:=b;exact(fi A hd e C D E h).wp u B
  .cases b
 case Abv q=>
  split at b
  .rename_i t len X e;split at b
   .rename_i x hps;simp only[pc]at b;rw[Ej hps]at e;exact(dR A hd e b.1 b.2 h).wp u B
   .cases b
  .cases b
 case AaZ s q=>
  split at b
  .rename_i c e;unfold Sa at b;split at b
   .rename_i p q' t Y s' C D E H;simp only[AF.s.injEq]at H;subst H;simp only[pc,beq_iff_eq]at b;obtain⟨⟨⟨H,L⟩,rfl⟩,F⟩:=b;split at F
    .rename_i el J;split at F
     .rename_i i hi;split at F
      .rename_i z T;simp only[pc,beq_iff_eq,zzX]at F;obtain⟨⟨⟨U,V⟩,W⟩,R⟩:=F;have hq:q'=.tmp q:=by
        cases q'<;>simp[AI]at L;rw[L]
       rw [Cj C (Ek D) (Ek E),Operand.tg H,hq]at e;exact(dH A hd e J hi T U V W h).wp u B
      .cases F
     .cases F
    .cases F
   .cases b
  .cases b
 case lan x=>
  split at b
  .rename_i t y e;simp only[pc,beq_iff_eq]at b;exact(fk A hd e b.1 b.2 h).wp u B
  .cases b
 case nia x i=>
  split at b
  .rename_i t y j e;simp only[pc,beq_iff_eq]at b;exact(gC A hd e b.1.1 b.1.2 b.2 h).wp u B
  .cases b
 case nld x=>
  split at b
  .rename_i t y e;simp only[pc,beq_iff_eq]at b;exact(gD A hd e b.1 b.2 h).wp u B
  .cases b
 case nst x v=>cases M
 case AbD q=>
  split at b
  .rename_i t y e;exact(dL A hd e b h).wp u B
  .cases b
 case AaT f ys i=>
  split at b
  .rename_i c e;split at b
   .rename_i g I;simp only[pc,beq_iff_eq]at b;obtain⟨rfl,C⟩:=b;rw[Cj I rfl rfl]at e;exact ac A hd u e C h B
   .cases b
  .cases b
 case mkm=>
  split at b
  .rename_i t r e;cases r with
   |none=>exact(fv A hd e h).wp u B|some r=>cases b
  .cases b
 case mvm s=>
  split at b
  .rename_i y e;rw[Operand.tg b]at e;exact(X5 A hd (.inl e) h).wp u B
  .rename_i y e;rw[Operand.tg b]at e;exact(X5 A hd (.inr e) h).wp u B
  .cases b
 case AaQ f ys=>
  split at b
  .rename_i c e;split at b
   .rename_i g I;simp only[pc,beq_iff_eq]at b;obtain⟨rfl,C⟩:=b;rw[Cj I rfl rfl]at e;exact am A hd u e C h B
   .cases b
  .cases b
 case mlk s m x=>
  split at b
  .rename_i t y z c e;simp only[pc]at b;obtain⟨⟨⟨rfl,C⟩,D⟩,E⟩:=b;exact(fx A hd e C D E h).wp u B
  .cases b
 case mup s m x v=>cases M
 case stq n X x v=>cases M
 case ldg s n=>
  split at b
  .rename_i t y e;simp only[pc,beq_iff_eq]at b;rw[Operand.tg b.1.1]at e;exact(fl A hd e b.1.2 b.2 h).wp u B
  .cases b
 case z5 s m=>
  split at b
  .rename_i t y e;simp only[pc]at b;obtain⟨C,D⟩:=b;split at D
   .rename_i k el J;exact(fz A hd e C J h).wp u B
   .cases D
  .cases b
 case mnx s=>
  split at b
  .rename_i y c e;simp only[pc,Bool.not_eq_true']at b;obtain⟨rfl,C⟩:=b;rw[Operand.tg C]at e;exact(fy A hd e h).wp u B
  .cases b
 case men s=>
  split at b
  .rename_i y e;rw[Operand.tg b]at e;exact(fu A hd e h).wp u B
  .cases b
end
end Go.Sf
namespace Go.Sf
open Go.RowKit (Below)
def Sb(ops:Array Oper)(o:Oper)(r:PR):Bool:=
 match r.guard,o.guard with
 |none,none=>true|some (g,b),some (j,b')=>b==b'&&((ops[j]?).bind (·.dst))==some g|_,_=>false
def KX(P:Program)(N:Nat)(ops:Array Oper)(o:Oper)(r:PR):Bool:=
 Sb ops o r&&(match o.dst,r.dst with
 |some d,some d'=>d==d'&&decide (d<N)&&!LV r.op&&Nw P o.op r.op|none,none=>LV r.op&&Nw P o.op r.op|_,_=>false)
section
variable{P:Program}{F0:Nat->Nat->Prop}{w0:W0}{O:AB}{a:Act}{w:World}{ops:Array Oper}{o:Oper}{r:PR}{N:Nat}{p:Option (Nat×Value)}{K:AB->Prop}{next:Act->World->Prop}{Q:Exit->Act->World->Prop}
theorem BZ.skip(b:BZ F0 w0 O a w){d:Nat}(hd:d<a.tmps.size):BZ F0 w0 ((d,.sk)::O) (a.put (some d) undef) w:=by
 obtain ⟨G,h⟩:=b;exact⟨_,h.quiet (Below.refl _ _) d hd .sk undef (fun _=>none) (by simp) (by simp) (by simp) rfl trivial⟩
theorem Lc{o:Oper}(b:o.dst=none){K:EV->AB->Prop}(h:Ge P F0 w0 a w o K)(e:∀env' w',K .undef env'->BZ F0 w0 env' a w'->next a w'):o.wp P a w next Q:=by
 obtain ⟨w',c,env',f,g⟩:=h;unfold Oper.wp;rw[c,Oper.upon_skip,b];exact e _ _ f g
theorem np{S:FuncId->Fq->Am->Prop}{n s:Nat}{v:AF}{d:Option Nat}{O:AB}{K:EV->AB->Prop}(h:(AE.stb n s v).wp S O d K):(AE.st n (.s s) v).wp S O d K:=by
 simp only[AE.wp]at h|-
 grind [AF.place]
theorem TM(f:BZ F0 w0 O a w)(D:Jk N p a)(M:∀i v,p=some (i,v)->r.dst≠some i)(R:KX P N ops o r=true)(h:r.wp (AQ P) O K)
  (E:∀env' a' w',K env'->Jk N p a'->BZ F0 w0 env' a' w'->next a' w'):
  if Region.wanted o (yielded ops a.tmps)then o.wp P a w next Q else next (a.put o.dst undef) w:=by
 simp only[KX,pc]at R;obtain⟨J,hd⟩:=R;have T:r.op.wp (AQ P) O r.dst (fun e env'=>K (env'.put r.dst e))->o.wp P a w next Q:=by
  intro A;obtain⟨G,f⟩:=f;cases ho:o.dst with
  |some d=>
   cases B:r.dst with
   |none=>rw[ho,B]at hd;cases hd
   |some d'=>
    rw [ho,B]at hd;simp only[pc,beq_iff_eq,zzX,Bool.not_eq_true']at hd;obtain⟨⟨⟨rfl,I⟩,L⟩,c⟩:=hd;rw[B]at A;exact ed f (D.size▸I) ho c L A fun e env' a' w' k l k3=>E _ a' w' k (D.put (fun i v X=>by rw[<-B];exact M i v X) l) k3
  |none=>
   cases B:r.dst with
   |some d'=>rw[ho,B]at hd;cases hd
   |none=>
    rw [ho,B]at hd;rw[B]at A;simp only[pc]at hd;obtain⟨L,c⟩:=hd;generalize X:r.op=p at A L c;cases p<;>simp only[LV]at L<;>first|cases L|skip
    .rename_i n x v;simp only[Nw]at c;split at c
     .rename_i t y u e;simp only[pc,beq_iff_eq]at c;exact Lc ho (ZR f e c.1.1 c.1.2 c.2 A) fun env' w' k l=>E env' a w' k D l
     .cases c
    .rename_i n s v;simp only[Nw]at c;split at c
     .rename_i t y u e;simp only[pc,beq_iff_eq]at c;rw[Operand.tg c.1.1]at e;exact Lc ho (ZR f e (x':=.s s) (by simp[AI]) c.1.2 c.2 (np A)) fun env' w' k l=>E env' a w' k D l
     .cases c
    .rename_i x v;simp only[Nw]at c;split at c
     .rename_i t y u e;simp only[pc,beq_iff_eq]at c;exact Lc ho (gM f e c.1.1 c.1.2 c.2 A) fun env' w' k l=>E env' a w' k D l
     .cases c
    .rename_i n x q;simp only[Nw]at c;split at c
     .rename_i t y u e;simp only[pc,beq_iff_eq]at c;exact Lc ho (gI f e c.1.1 c.1.2 c.2 A) fun env' w' k l=>E env' a w' k D l
     .cases c
    .rename_i x q;simp only[Nw]at c;split at c
     .rename_i t y u e;simp only[pc,beq_iff_eq]at c;exact Lc ho (fa f e c.1.1 c.1.2 c.2 A) fun env' w' k l=>E env' a w' k D l
     .cases c
    .rename_i x v;simp only[Nw]at c;split at c
     .rename_i t y u e;simp only[pc,beq_iff_eq]at c;exact Lc ho (gF f e c.1.1 c.1.2 c.2 A) fun env' w' k l=>E env' a w' k D l
     .cases c
    .rename_i n ps x v;simp only[Nw]at c;split at c
     .rename_i t y u e;simp only[pc,beq_iff_eq]at c;exact Lc ho (gH f e c.1.1 c.1.2 c.2 A) fun env' w' k l=>E env' a w' k D l
     .cases c
    .rename_i s m x v;simp only[Nw]at c;split at c
     .rename_i t y z u e;simp only[pc]at c;exact Lc ho (gA f e c.1.1.1 c.1.1.2 c.1.2 c.2 A) fun env' w' k l=>E env' a w' k D l
     .cases c
 have U:K (O.put r.dst .sk)->next (a.put o.dst undef) w:=by
  intro Y;cases ho:o.dst with
  |some d=>
   cases B:r.dst with
   |none=>rw[ho,B]at hd;cases hd
   |some d'=>
    rw [ho,B]at hd;simp only[pc,beq_iff_eq,zzX,Bool.not_eq_true']at hd;obtain⟨⟨⟨rfl,I⟩,L⟩,c⟩:=hd;rw[B]at Y;exact E _ _ _ Y (D.put (fun i v X=>by rw[<-B];exact M i v X) ⟨_,rfl⟩) (f.skip (D.size▸I))
  |none=>
   cases B:r.dst with
   |some d'=>rw[ho,B]at hd;cases hd
   |none=>rw[B]at Y;exact E _ _ _ Y D f
 unfold PR.wp at h;cases F:r.guard with
 |none=>
  rw [F]at h;cases C:o.guard with
  |none=>rw[a6 (by simp[Region.wanted,C])];exact T h|some g=>rw[Sb,F,C]at J;cases J
 |some gb=>
  obtain ⟨g,b⟩:=gb;rw[F]at h;cases C:o.guard with
  |none=>rw[Sb,F,C]at J;cases J
  |some jb=>
   obtain ⟨j,b'⟩:=jb;rw[Sb,F,C]at J;simp only[pc,beq_iff_eq]at J;obtain⟨rfl,hj⟩:=J;simp only at h;split at h
   .rename_i q S;have hv:slot a g=.bool q:=by
     obtain ⟨G,f⟩:=f;have:=AY f S (by simp);simpa only[AM,Ae]using this
    have H:g<a.tmps.size:=by
     obtain ⟨G,f⟩:=f;exact BT f S (by simp)
    have Z:yielded ops a.tmps j=some q:=by
     have I:a.tmps[g]?=some (.bool q):=by
      rw [slot,Array.getD_eq_getD_getElem?,Array.getElem?_eq_getElem H]at hv;rw[Array.getElem?_eq_getElem H];simpa using hv
     simp [yielded,hj,I]
    have A:Region.wanted o (yielded ops a.tmps)=(q==b):=by
     simp only[Region.wanted,C,Z];cases q<;>cases b<;>rfl
    rw [A];by_cases V:q=b
    .subst V;rw[a6 (by simp)];exact T (h.1 rfl)
    .have W:q=!b:=by cases q<;>cases b<;>simp_all
     rw [ae (by simpa using V)];exact U (h.2 W)
   .rename_i S;have hv:slot a g=undef:=by
     obtain ⟨G,f⟩:=f;have:=AY f S (by simp);simpa only[AM]using this
    have H:g<a.tmps.size:=by
     obtain ⟨G,f⟩:=f;exact BT f S (by simp)
    have Z:yielded ops a.tmps j=none:=by
     have I:a.tmps[g]?=some undef:=by
      rw [slot,Array.getD_eq_getD_getElem?,Array.getElem?_eq_getElem H]at hv;rw[Array.getElem?_eq_getElem H];simpa using hv
     simp [yielded,hj,I,undef]
    have A:Region.wanted o (yielded ops a.tmps)=false:=by
     simp only[Region.wanted,C,Z];cases b<;>rfl
    rw [A];exact U h
   .exact h.elim
def QZ:List PR->Bool
 |[]=>true|r::rs=>(match r.op,r.dst,r.guard with|.frz _,none,none=>true|_,_,_=>false)&&QZ rs
variable{rs:List PR}
theorem iw:∀{O:AB},QZ rs=true->wpOps (AQ P) K rs O->BZ F0 w0 O a w->∃env',K env'/\BZ F0 w0 env' a w:=by
 induction rs with
 |nil=>intro O _ h b;exact⟨O,h,b⟩|cons r rs l=>
  intro O c h b;simp only[QZ,pc]at c;obtain⟨e,k⟩:=c;split at e
  .rename_i s f g i;simp only[wpOps,PR.wp,f,g,i,AE.wp]at h;split at h
   .rename_i cs j;obtain⟨G,b⟩:=b;exact l k h (b.frz j)
   .exact h.elim
  .cases e
def Kg(P:Program)(N:Nat)(ops:Array Oper):List Oper->List PR->Bool
 |[],rs=>QZ rs|o::os,r::rs=>KX P N ops o r&&Kg P N ops os rs|_::_,[]=>false
theorem UH(m:∀O a w,K O->Jk N p a->BZ F0 w0 O a w->Q .normal a w):∀(os:List Oper)(rs:List PR)(k:Nat),ops.toList.drop k=os->Kg P N ops os rs=true->(∀i v,p=some (i,v)->∀r∈rs,r.dst≠some i)->∀(O:AB)(a:Act)(w:World),Jk N p a->BZ F0 w0 O a w ->
  wpOps (AQ P) K rs O->Go.wpOps P ops Q (List.range' k os.length) a w
 |[],rs,k,_,b,_,O,a,w,g,j,h=>by
  obtain ⟨env',z,A⟩:=iw b h j;exact m env' a w z g A
 |o::os,[],k,_,b,_,_,_,_,_,_,_=>by simp[Kg]at b|o::os,r::rs,k,hd,b,c,O,a,w,g,j,h=>by
  simp only[Kg,pc]at b;have y:ops[k]?=some o:=by
   rw [<-Array.getElem?_toList];have:=congrArg (fun l=>l[0]?) hd
   grind
  have f:ops.toList.drop (k+1)=os:=by
   grind [List.tail,List.tail_drop]
  simp only[c7,List.range'_succ];rw[Go.wpOps_cons];unfold Go.wpOp;rw[y];simp only[];have:=TM (Q:=Q) (next:=Go.wpOps P ops Q (List.range' (k+1) os.length)) j g (fun i v e=>c i v e r (by simp)) b.1 h fun env' a' w' q s t=>UH m os rs (k+1) f b.2 (fun i v e r u=>c i v e r (by simp[u])) env' a' w' s t q
  grind
theorem Xp{id:Nat}(b:Kg P N ops ops.toList rs=true)(c:∀i v,p=some (i,v)->∀r∈rs,r.dst≠some i)(e:Jk N p a)(f:BZ F0 w0 O a w)(h:wpOps (AQ P) K rs O)
  (g:∀O a w,K O->Jk N p a->BZ F0 w0 O a w->Q .normal a w):(Code.region id ops false).wp P Q a w:=by
 refine Go.wp_region ?_;rw[List.range_eq_range',<-Array.length_toList];exact UH g ops.toList rs 0 rfl b c O a w e f h
end
end Go.Sf
