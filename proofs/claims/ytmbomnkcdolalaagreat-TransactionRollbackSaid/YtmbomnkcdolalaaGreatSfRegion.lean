/- One operation against the checker, and regions in the text's order. -/
import Derived.Test.YtmbomnkcdolalaaGreatSfN
import Derived.Orders
set_option linter.all false
namespace Go.Sf
open Go.RowKit (Below)
def Operand.AaA(n:Nat):Operand->Bool
 |.tmp m=>m==n|_=>false
variable{n:Nat}{x:Operand}
theorem Operand.tn(h:Operand.AaA n x=true):x=.tmp n:=by
 cases x<;>simp[Operand.AaA]at h;rw[h]
def Wa:Operand->Bool
 |.const v=>LD v|_=>false
theorem QY(h:Wa x=true):∃v,x=.const v/\LD v=true:=by
 cases x<;>simp[Wa]at h;exact⟨_,rfl,h⟩
def UY(P:Program)(str:Bool)(c:Call)(x:AG):Bool:=
 match c.callee,c.args.toList,c.argTypes.toList with
 |.builtin .len,[y],[t]=>AN y x&&(match P.underlying t with|some (.slice _)=>!str|some .string=>str|_=>false)
 |_,_,_=>false
def UW(P:Program)(n:Nat)(c:Call)(x y:AG):Bool:=
 match c.callee,c.args.toList,c.argTypes.toList,x with
 |.builtin .append,[p,q],[t,t'],.s s=>Operand.AaA s p&&AN q y&&t==t'&&(match P.underlying t with
  |some (.slice e)=>(match P.info? e with
   |some i=>(match i.zero with|some z=>i.size==n&&decide (i.bytes<=4096)&&z.cells.size==n&&decide (0<n)|none=>false)
   |none=>false)
  |_=>false)
 |_,_,_,_=>false
def qk(mx:Bool)(c:Call)(x y:AG):Bool:=
 match c.callee,c.args.toList with
 |.builtin .max,[p,q]=>mx&&AN p x&&AN q y|.builtin .min,[p,q]=>!mx&&AN p x&&AN q y|_,_=>false
def OZ(P:Program)(o:Op):AF->Bool
 |.mv x=>match o with|.move y|.assign y=>AN y x|_=>false
 |.tk s=>match o with|.move y|.assign y=>Operand.AaA s y|_=>false
 |.Abx _=>match o with|.move y|.assign y=>Wa y|_=>false
 |.fad x k=>match o with|.fieldAddr t y f=>AN y x&&PT P t f==some k|.move y|.assign y|.nilCheck y=>k==0&&AN y x|_=>false
 |.bad s k=>match o with|.indexAddr t y j=>Operand.AaA s y&&ee P t j k|.fieldAddr t y f=>Operand.AaA s y&&PT P t f==some k|.move y|.assign y|.nilCheck y=>k==0&&Operand.AaA s y|_=>false
 |.iad x i n=>match o with|.indexAddr t y j=>AN y x&&AN j i&&IZ P t==some n|_=>false
 |.aad x i n k=>match o with|.indexAddr t y j=>AN y x&&AN j i&&(match P.underlying t with|some (.array k' e)=>k'==k&&Cs P e==some n|_=>false)|_=>false
 |.ld x=>match o with|.load t y=>AN y x&&B0 P t==some false|_=>false
 |.lda x n=>match o with|.load t y=>AN y x&&B0 P t==some true&&Cs P t==some n|_=>false
 |.ldb s n=>match o with|.load t y=>AN y (.s s)&&B0 P t==some true&&Cs P t==some n|_=>false
 |.ldt x=>match o with|.load t y=>AN y x&&B0 P t==some false|_=>false
 |.bin k op x y=>match o with|.binOp op' t p q _=>op'==op&&Mi P k t&&AN p x&&AN q y|_=>false
 |.not x=>match o with|.unOp op _ y=>op==.not&&AN y x|_=>false
 |.neg x=>match o with|.unOp op _ y=>op==.neg&&AN y x|_=>false
 |.pick c x y=>match o with|.pick c' p q=>AN c' c&&AN p x&&AN q y|_=>false
 |.len x=>match o with|.call c=>UY P false c x|_=>false
 |.AbH x=>match o with|.call c=>UY P true c x|_=>false
 |.slc n x lo hi=>match o with|.slice t y l h mx=>mx.isNone&&AN y x&&Mk l lo&&Mk h hi&&IZ P t==some n|_=>false
 |.AaJ x lo hi=>match o with|.slice t y l h mx=>mx.isNone&&AN y x&&Mk l lo&&Mk h hi&&(match P.underlying t with|some .string=>true|_=>false)|_=>false
 |.bld z ps=>match o with|.build t qs=>ef P t z qs.toList ps|_=>false
 |.lst n ys=>match o with
  |.buildSlice t len ps=>(match P.underlying t with
   |some (.slice e)=>(match P.info? e with
    |some i=>(match i.zero with
     |some z=>i.size==n&&decide (0<n)&&z.cells.toList.all Value.oneCell'&&decide (0<z.cells.size)&&len==ps.size&&decide (len*n<=2^ 24)&&R2 0 ps.toList ys|none=>false)
    |none=>false)
   |_=>false)
  |_=>false
 |.app n x y=>match o with|.call c=>UW P n c x y|_=>false
 |.call f ys=>match o with|.call c=>(match c.callee with|.value (.func g)=>g==f&&Ba c.args.toList ys|_=>false)|_=>false
 |.AaO x ys=>match o with|.call c=>(match c.callee with|.value g=>AN g x&&Ba c.args.toList ys|_=>false)|_=>false
 |.clo f cs=>match o with|.makeFunc (.func g) first xs=>g==f&&first.size==0&&Ba xs.toList cs|_=>false
 |.ext x i=>match o,x with|.extract y j,.s s=>Operand.AaA s y&&j==i|_,_=>false
 |.cvt k x=>match o with|.convert s t y=>AN y x&&(match P.underlying s,P.underlying t with|some (.int _),some (.int k')=>k'==k|_,_=>false)|_=>false
 |.AaC x i=>match o with|.index t y j=>AN y x&&AN j i&&(match P.underlying t with|some .string=>true|_=>false)|_=>false
 |.Abt x=>match o with|.box _ y=>AN y x|_=>false
 |.Abz x=>match o with|.box _ y=>AN y x|_=>false
 |.mm mx x y=>match o with|.call c=>qk mx c x y|_=>false
 |.alc cs=>match o with|.alloc t=>(match P.info? t with|some i=>(match i.zero with|some z=>NR cs z.cells.toList|none=>false)|none=>false)|_=>false
 |.st n x v=>match o with|.store t y u=>AN y x&&AN u v&&Cs P t==some n|_=>false
 |.stb n s v=>match o with|.store t y u=>Operand.AaA s y&&AN u v&&Cs P t==some n|_=>false
 |.frz _=>false|.AbD x k n agg=>match o with|.field t y f=>AN y x&&eg P t f k n agg|_=>false
 |.xal s=>match o with|.move y|.assign y=>Operand.AaA s y|_=>false
 |.AbE x=>match o with|.call c=>UY P false c x|_=>false
 |.xia x i n=>match o with|.indexAddr t y j=>AN y x&&AN j i&&IZ P t==some n|_=>false
 |.xfa x k=>match o with|.fieldAddr t y f=>AN y x&&PT P t f==some k|_=>false
 |.xld x=>match o with|.load t y=>AN y x&&B0 P t==some false|_=>false
 |.xst x v k=>match o with|.store t y u=>AN y x&&AN u v&&Cs P t==some k|_=>false
 |.rel s=>match o with|.move y|.assign y=>Operand.AaA s y|_=>false
 |.Abl _=>match o with|.move y|.assign y=>Wa y|_=>false
 |.tkx s=>match o with|.move y|.assign y=>Operand.AaA s y|_=>false
 |.Abi n s y=>match o with|.call c=>UW P n c (.s s) y|_=>false
 |.AaN f ys=>match o with|.call c=>(match c.callee with|.value (.func g)=>g==f&&Ba c.args.toList ys|_=>false)|_=>false
 |.mkx n zero x=>match o with|.makeSlice t y z=>AN y x&&AN z x&&kK P t n zero|_=>false
 |.AaW f x=>match o with|.call c=>(match c.callee,c.args.toList with|.value (.func g),[y]=>g==f&&AN y x|_,_=>false)|_=>false
 |.AaV f x=>match o with|.call c=>(match c.callee,c.args.toList with|.value (.func g),[y]=>g==f&&AN y x|_,_=>false)|_=>false
 |.Abk n=>match o with|.buildSlice t len ps=>len==0&&ps.isEmpty&&aG P t n|_=>false
 |.Aau gs=>match o with|.build t ps=>aE P t ps.toList gs|_=>false
 |.stx n s q=>match o with|.store t y u=>AN y (.s s)&&AN u (.s q)&&Cs P t==some n|_=>false
 |.Aa3 f ys=>match o with|.call c=>(match c.callee with|.value (.func g)=>g==f&&Ba c.args.toList ys|_=>false)|_=>false
 |.AaR f ys=>match o with|.call c=>(match c.callee with|.value (.func g)=>g==f&&Ba c.args.toList ys|_=>false)|_=>false
 |.isn x=>match o with|.binOp op t y z _=>op==.eql&&AN y x&&RG z&&ZA P t|_=>false
 |.lac x=>match o with|.load t y=>AN y x&&B0 P t==some false|_=>false
 |.ctk x=>match o with|.load t y=>AN y x&&B0 P t==some false|_=>false
 |.cpt x q=>match o with|.store t y u=>AN y x&&AN u (.s q)&&Cs P t==some 1|_=>false
 |.cut n s hi=>match o with|.slice t y l (some h) mx=>mx.isNone&&l.isNone&&Operand.AaA s y&&AN h hi&&IZ P t==some n|_=>false
 |.AaK f ys=>match o with|.call c=>(match c.callee with|.value (.func g)=>g==f&&Ba c.args.toList ys|_=>false)|_=>false
 |.Abw _ x=>match o with|.box _ y=>AN y x|_=>false
 |.Aa4 f ys=>match o with|.call c=>(match c.callee with|.value (.func g)=>g==f&&Ba c.args.toList ys|_=>false)|_=>false
 |.Abm n s z x=>match o with|.call c=>gu P n s z x c|_=>false
 |.AaG f ys _=>match o with|.call c=>(match c.callee with|.value (.func g)=>g==f&&Ba c.args.toList ys|_=>false)|_=>false
 |.Abu q=>match o with|.buildSlice t len ps=>(match len,ps.toList with|1,[(0,x)]=>aF P t&&AN x (.s q)|_,_=>false)|_=>false
 |.Aa1 s q=>match o with|.call c=>UW P 1 c (.s s) (.s q)|_=>false
 |.lan x=>match o with|.load t y=>AN y x&&B0 P t==some false|_=>false
 |.nia x i=>match o with|.indexAddr t y j=>AN y x&&AN j i&&IZ P t==some 1|_=>false
 |.nld x=>match o with|.load t y=>AN y x&&B0 P t==some false|_=>false
 |.nst x v=>match o with|.store t y u=>AN y x&&AN u v&&Cs P t==some 1|_=>false
 |.AbF q=>match o with|.box _ y=>AN y (.s q)|_=>false
 |.AaY f ys _=>match o with|.call c=>(match c.callee with|.value (.func g)=>g==f&&Ba c.args.toList ys|_=>false)|_=>false
 |.ldg s n=>match o with|.load t y=>Operand.AaA s y&&B0 P t==some true&&Cs P t==some n|_=>false
 |.stq n _ x v=>match o with|.store t y u=>AN y x&&AN u v&&Cs P t==some n|_=>false
 |.mkm=>match o with|.makeMap _ r=>r.isNone|_=>false
 |.mvm s=>match o with|.move y|.assign y=>Operand.AaA s y|_=>false
 |.AaX f ys=>match o with|.call c=>(match c.callee with|.value (.func g)=>g==f&&Ba c.args.toList ys|_=>false)|_=>false
 |.mlk _ m x=>match o with|.lookup t y z c=>c&&OG P t&&AN y m&&AN z x|_=>false
 |.mup _ m x v=>match o with|.mapUpdate t y z u=>OG P t&&AN y m&&AN z x&&AN u v|_=>false
 |.mrg _ m=>match o with|.range t y=>AN y m&&(match P.underlying t with|some (.map _ _)=>true|_=>false)|_=>false
 |.mnx s=>match o with|.next y c=>!c&&Operand.AaA s y|_=>false
 |.men s=>match o with|.entry y=>Operand.AaA s y|_=>false
def L9:AF->Bool
 |.st ..=>true|.stb ..=>true|.xst ..=>true|.stx ..=>true|.cpt ..=>true|.nst ..=>true|.mup ..=>true|.stq ..=>true|_=>false
section
variable{P:Program}{F0:Nat->Nat->Prop}{w0:W0}{O:AB}{a:Act}{w:World}{G:BQ}{d:Nat}{o:Oper}{K:EV->AB->Prop}
theorem Ay.wp(h:Ay P F0 w0 a w o d K)(b:o.dst=some d){next:Act->World->Prop}{Q:Exit->Act->World->Prop}(f:∀e env' a' w',K e env'->PK a d a'->Bi F0 w0 ((d,e)::env') a' w'->next a' w'):o.wp P a w next Q:=by
 obtain ⟨v,w',c,e,env',g,i⟩:=h;unfold Oper.wp;rw[c,Oper.upon_value,b];exact f e env' _ w' g ⟨_,rfl⟩ i
variable{α:Type}
theorem E9{a:Array α}{x:α}(h:a.toList=[x]):a=#[x]:=by
 cases a;simp_all
theorem FA{a:Array α}{x y:α}(h:a.toList=[x,y]):a=#[x,y]:=by
 cases a;simp_all
theorem Cx{c:Call}{b:Callee}{e:Array Operand}{f:Array TypeId}(g:c.callee=b)(h:c.args=e)(i:c.argTypes=f):c={callee:=b,args:=e,argTypes:=f}:=by
 cases c;simp_all
theorem kL(A:AU F0 w0 O a w G)(hd:d<a.tmps.size)(u:o.dst=some d){p:AF}(b:OZ P o.op p=true)(M:L9 p=false)(h:p.wp (AV P) O (some d) K)
  {next:Act->World->Prop}{Q:Exit->Act->World->Prop}(B:∀e env' a' w',K e env'->PK a d a'->Bi F0 w0 ((d,e)::env') a' w'->next a' w'):o.wp P a w next Q:=by
 cases p<;>simp only[OZ]at b<;>try(exact absurd b Bool.false_ne_true)
 case mv x=>
  split at b
  .rename_i y e;exact(da A hd (.inl e) b h).wp u B
  .rename_i y e;exact(da A hd (.inr e) b h).wp u B
  .cases b
 case tk s=>
  split at b
  .rename_i y e;rw[Operand.tn b]at e;exact(dc A hd (.inl e) h).wp u B
  .rename_i y e;rw[Operand.tn b]at e;exact(dc A hd (.inr e) h).wp u B
  .cases b
 case Abx n=>
  split at b
  .rename_i y e;exact(Yo A hd (.inl e) (QY b) h).wp u B
  .rename_i y e;exact(Yo A hd (.inr e) (QY b) h).wp u B
  .cases b
 case fad x k=>
  split at b
  .rename_i t y f e;simp only[pq,beq_iff_eq]at b;exact(SG A hd (cj e b.2) b.1 h).wp u B
  .rename_i y e;simp only[pq,beq_iff_eq]at b;obtain⟨rfl,b⟩:=b;exact(SG A hd (PE (.inl e)) b h).wp u B
  .rename_i y e;simp only[pq,beq_iff_eq]at b;obtain⟨rfl,b⟩:=b;exact(SG A hd (PE (.inr (.inl e))) b h).wp u B
  .rename_i y e;simp only[pq,beq_iff_eq]at b;obtain⟨rfl,b⟩:=b;exact(SG A hd (PE (.inr (.inr e))) b h).wp u B
  .cases b
 case bad s k=>
  split at b
  .rename_i t y j e;simp only[pq]at b;rw[Operand.tn b.1]at e;exact(Pn A hd (nM e b.2) h).wp u B
  .rename_i t y f e;simp only[pq,beq_iff_eq]at b;rw[Operand.tn b.1]at e;exact(Pn A hd (cj e b.2) h).wp u B
  .rename_i y e;simp only[pq,beq_iff_eq]at b;obtain⟨rfl,b⟩:=b;rw[Operand.tn b]at e;exact(Pn A hd (PE (.inl e)) h).wp u B
  .rename_i y e;simp only[pq,beq_iff_eq]at b;obtain⟨rfl,b⟩:=b;rw[Operand.tn b]at e;exact(Pn A hd (PE (.inr (.inl e))) h).wp u B
  .rename_i y e;simp only[pq,beq_iff_eq]at b;obtain⟨rfl,b⟩:=b;rw[Operand.tn b]at e;exact(Pn A hd (PE (.inr (.inr e))) h).wp u B
  .cases b
 case iad x i n=>
  split at b
  .rename_i t y j e;simp only[pq,beq_iff_eq]at b;exact(lV A hd e b.1.1 b.1.2 b.2 h).wp u B
  .cases b
 case aad x i n k=>
  split at b
  .rename_i t y j e;simp only[pq]at b;obtain⟨⟨C,D⟩,E⟩:=b;split at E
   .rename_i k' el J;simp only[pq,beq_iff_eq]at E;obtain⟨rfl,H⟩:=E;exact(lG A hd e C D J H h).wp u B
   .cases E
  .cases b
 case ld x=>
  split at b
  .rename_i t y e;simp only[pq,beq_iff_eq]at b;exact(pA A hd e b.1 b.2 h).wp u B
  .cases b
 case lda x n=>
  split at b
  .rename_i t y e;simp only[pq,beq_iff_eq]at b;exact(bX A hd e b.1.1 b.1.2 b.2 h).wp u B
  .cases b
 case ldb s n=>
  split at b
  .rename_i t y e;simp only[pq,beq_iff_eq]at b;refine(bX (S:=AV P) A hd e b.1.1 b.1.2 b.2 (y:=.s s) ?_).wp u B;simp only[AF.wp]at h|-;split at h
   .rename_i cs I;simp only[AG.ev,I,A8,AZ];exact h
   .exact h.elim
  .cases b
 case ldt x=>
  split at b
  .rename_i t y e;simp only[pq,beq_iff_eq]at b;exact(lc A hd e b.1 b.2 h).wp u B
  .cases b
 case bin k op x y=>
  split at b
  .rename_i op' t p q Y e;simp only[pq,beq_iff_eq]at b;obtain⟨⟨⟨rfl,C⟩,D⟩,E⟩:=b;exact(lK A hd e C D E h).wp u B
  .cases b
 case not x=>
  split at b
  .rename_i op t y e;simp only[pq,beq_iff_eq]at b;obtain⟨rfl,C⟩:=b;exact(lv A hd e C h).wp u B
  .cases b
 case neg x=>
  split at b
  .rename_i op t y e;simp only[pq,beq_iff_eq]at b;obtain⟨rfl,C⟩:=b;exact(lr A hd e C h).wp u B
  .cases b
 case pick c x y=>
  split at b
  .rename_i c' p q e;simp only[pq]at b;exact(jP A hd e b.1.1 b.1.2 b.2 h).wp u B
  .cases b
 case len x=>
  split at b
  .rename_i c e;unfold UY at b;split at b
   .rename_i y t C D E;simp only[pq]at b;obtain⟨H,L⟩:=b;split at L
    .rename_i el J;rw[Cx C (E9 D) (E9 E)]at e;exact(lf A hd e H J h).wp u B
    .cases L
    .cases L
   .cases b
  .cases b
 case AbH x=>
  split at b
  .rename_i c e;unfold UY at b;split at b
   .rename_i y t C D E;simp only[pq]at b;obtain⟨H,L⟩:=b;split at L
    .cases L
    .rename_i J;rw[Cx C (E9 D) (E9 E)]at e;exact(jR A hd e H J h).wp u B
    .cases L
   .cases b
  .cases b
 case slc n x lo hi=>
  split at b
  .rename_i t y l hh mx e;simp only[pq,beq_iff_eq,Option.isNone_iff_eq_none]at b;obtain⟨⟨⟨⟨rfl,C⟩,D⟩,E⟩,H⟩:=b;exact(ly A hd e C D E H h).wp u B
  .cases b
 case AaJ x lo hi=>
  split at b
  .rename_i t y l hh mx e;simp only[pq,Option.isNone_iff_eq_none]at b;obtain⟨⟨⟨⟨rfl,C⟩,D⟩,E⟩,H⟩:=b;split at H
   .rename_i J;exact(jS A hd e C D E J h).wp u B
   .cases H
  .cases b
 case bld z X=>
  split at b
  .rename_i t qs e;exact(lL A hd e b h).wp u B
  .cases b
 case lst n ys=>
  split at b
  .rename_i t len X e;split at b
   .rename_i el J;split at b
    .rename_i i hi;split at b
     .rename_i z T;simp only[pq,beq_iff_eq,zzX]at b;obtain⟨⟨⟨⟨⟨⟨C,D⟩,E⟩,H⟩,L⟩,F⟩,U⟩:=b;exact(lg A hd e J hi T C D E H L F U h).wp u B
     .cases b
    .cases b
   .cases b
  .cases b
 case app n x y=>
  split at b
  .rename_i c e;unfold UW at b;split at b
   .rename_i p q t Y s C D E;simp only[pq,beq_iff_eq]at b;obtain⟨⟨⟨H,L⟩,rfl⟩,F⟩:=b;split at F
    .rename_i el J;split at F
     .rename_i i hi;split at F
      .rename_i z T;simp only[pq,beq_iff_eq,zzX]at F;obtain⟨⟨⟨U,V⟩,W⟩,R⟩:=F;rw[Cx C (FA D) (FA E),Operand.tn H]at e;exact(lJ A hd e J hi T U V W R L h).wp u B
      .cases F
     .cases F
    .cases F
   .cases b
  .cases b
 case call f ys=>
  split at b
  .rename_i c e;split at b
   .rename_i g I;simp only[pq,beq_iff_eq]at b;obtain⟨rfl,C⟩:=b;rw[Cx I rfl rfl]at e;exact jL A hd u e C h B
   .cases b
  .cases b
 case AaO x ys=>
  split at b
  .rename_i c e;split at b
   .rename_i g I;simp only[pq]at b;rw[Cx I rfl rfl]at e;exact fZ A hd u e b.1 b.2 h B
   .cases b
  .cases b
 case clo f cs=>
  split at b
  .rename_i g first xs e
   simp only[pq,beq_iff_eq]at b;obtain⟨⟨rfl,C⟩,D⟩:=b;rw[Array.eq_empty_of_size_eq_zero C]at e;exact(lM A hd e D h).wp u B
  .cases b
 case ext x i=>
  split at b
  .rename_i y j s e;simp only[pq,beq_iff_eq]at b;obtain⟨C,rfl⟩:=b;rw[Operand.tn C]at e;exact(lU A hd e h).wp u B
  .cases b
 case cvt k x=>
  split at b
  .rename_i s t y e;simp only[pq]at b;obtain⟨C,D⟩:=b;split at D
   .rename_i k1 k2 hs ht;simp only[beq_iff_eq]at D;subst D;exact(lR A hd e hs ht C h).wp u B
   .cases D
  .cases b
 case AaC x i=>
  split at b
  .rename_i t y j e;simp only[pq]at b;obtain⟨⟨C,D⟩,E⟩:=b;split at E
   .rename_i J;exact(jQ A hd e C D J h).wp u B
   .cases E
  .cases b
 case Abt x=>
  split at b
  .rename_i t y e;exact(jK A hd e b h).wp u B
  .cases b
 case Abz x=>
  split at b
  .rename_i t y e;exact(jI A hd e b h).wp u B
  .cases b
 case mm mx x y=>
  split at b
  .rename_i c e;unfold qk at b;split at b
   .rename_i p q C D;simp only[pq]at b;obtain⟨⟨rfl,E⟩,H⟩:=b;rw[Cx C (FA D) rfl]at e;exact(dZ (mx:=true) A hd e E H h).wp u B
   .rename_i p q C D;simp only[pq,Bool.not_eq_true']at b;obtain⟨⟨rfl,E⟩,H⟩:=b;rw[Cx C (FA D) rfl]at e;exact(dZ (mx:=false) A hd e E H h).wp u B
   .cases b
  .cases b
 case alc cs=>
  split at b
  .rename_i t e;split at b
   .rename_i i hi;split at b
    .rename_i z T;exact(lH A hd e hi T b h).wp u B
    .cases b
   .cases b
  .cases b
 case st n x v=>cases M
 case stb n s v=>cases M
 case AbD x k n agg=>
  split at b
  .rename_i t y f e;simp only[pq]at b;exact(jM A hd e b.1 b.2 h).wp u B
  .cases b
 case xal s=>
  split at b
  .rename_i y e;rw[Operand.tn b]at e;exact(bc A hd (.inl e) h).wp u B
  .rename_i y e;rw[Operand.tn b]at e;exact(bc A hd (.inr e) h).wp u B
  .cases b
 case rel s=>
  split at b
  .rename_i y e;rw[Operand.tn b]at e;exact(bZ A hd (.inl e) h).wp u B
  .rename_i y e;rw[Operand.tn b]at e;exact(bZ A hd (.inr e) h).wp u B
  .cases b
 case tkx s=>
  split at b
  .rename_i y e;rw[Operand.tn b]at e;exact(ba A hd (.inl e) h).wp u B
  .rename_i y e;rw[Operand.tn b]at e;exact(ba A hd (.inr e) h).wp u B
  .cases b
 case Abl n=>
  split at b
  .rename_i y e;exact(Yp A hd (.inl e) (QY b) h).wp u B
  .rename_i y e;exact(Yp A hd (.inr e) (QY b) h).wp u B
  .cases b
 case AbE x=>
  split at b
  .rename_i c e;unfold UY at b;split at b
   .rename_i y t C D E;simp only[pq]at b;obtain⟨H,L⟩:=b;split at L
    .rename_i el J;rw[Cx C (E9 D) (E9 E)]at e;exact(jT A hd e H J h).wp u B
    .cases L
    .cases L
   .cases b
  .cases b
 case xia x i n=>
  split at b
  .rename_i t y j e;simp only[pq,beq_iff_eq]at b;exact(l5 A hd e b.1.1 b.1.2 b.2 h).wp u B
  .cases b
 case xfa x k=>
  split at b
  .rename_i t y f e;simp only[pq,beq_iff_eq]at b;exact(l4 A hd e b.1 b.2 h).wp u B
  .cases b
 case xld x=>
  split at b
  .rename_i t y e;simp only[pq,beq_iff_eq]at b;exact(l6 A hd e b.1 b.2 h).wp u B
  .cases b
 case xst x v k=>cases M
 case Abi n s y=>
  split at b
  .rename_i c e;unfold UW at b;split at b
   .rename_i p q t Y s' C D E h0;simp only[AG.s.injEq]at h0;subst h0;simp only[pq,beq_iff_eq]at b;obtain⟨⟨⟨H,L⟩,rfl⟩,F⟩:=b;split at F
    .rename_i el J;split at F
     .rename_i i hi;split at F
      .rename_i z T;simp only[pq,beq_iff_eq,zzX]at F;obtain⟨⟨⟨U,V⟩,W⟩,R⟩:=F;rw[Cx C (FA D) (FA E),Operand.tn H]at e;exact(jE A hd e J hi T U V W R L h).wp u B
      .cases F
     .cases F
    .cases F
   .cases b
  .cases b
 case AaN f ys=>
  split at b
  .rename_i c e;split at b
   .rename_i g I;simp only[pq,beq_iff_eq]at b;obtain⟨rfl,C⟩:=b;rw[Cx I rfl rfl]at e;exact fa A hd u e C h B
   .cases b
  .cases b
 case mkx n zero x=>
  split at b
  .rename_i t y z e;simp only[pq]at b;exact(pB A hd e b.1.1 b.1.2 b.2 h).wp u B
  .cases b
 case AaW f x=>
  split at b
  .rename_i c e;split at b
   .rename_i g y I Z;simp only[pq,beq_iff_eq]at b;obtain⟨rfl,C⟩:=b;rw[Cx I (E9 Z) rfl]at e;exact fX A hd u e C h B
   .cases b
  .cases b
 case AaV f x=>
  split at b
  .rename_i c e;split at b
   .rename_i g y I Z;simp only[pq,beq_iff_eq]at b;obtain⟨rfl,C⟩:=b;rw[Cx I (E9 Z) rfl]at e;exact fT A hd u e C h B
   .cases b
  .cases b
 case Abk n=>
  split at b
  .rename_i t len X e;simp only[pq,beq_iff_eq,Array.isEmpty_iff]at b;obtain⟨⟨rfl,rfl⟩,C⟩:=b;exact(jO A hd e C h).wp u B
  .cases b
 case Aau gs=>
  split at b
  .rename_i t X e;exact(jG A hd e b h).wp u B
  .cases b
 case stx n s q=>cases M
 case cpt x q=>cases M
 case lac x=>
  split at b
  .rename_i t y e;simp only[pq,beq_iff_eq]at b;exact(lY A hd e b.1 b.2 h).wp u B
  .cases b
 case ctk x=>
  split at b
  .rename_i t y e;simp only[pq,beq_iff_eq]at b;exact(lP A hd e b.1 b.2 h).wp u B
  .cases b
 case cut n s hi=>
  split at b
  .rename_i t y l hh mx e;simp only[pq,beq_iff_eq,Option.isNone_iff_eq_none]at b;obtain⟨⟨⟨⟨rfl,rfl⟩,C⟩,D⟩,E⟩:=b;rw[Operand.tn C]at e;exact(lQ A hd e D E h).wp u B
  .cases b
 case AaK f ys=>
  split at b
  .rename_i c e;split at b
   .rename_i g I;simp only[pq,beq_iff_eq]at b;obtain⟨rfl,C⟩:=b;rw[Cx I rfl rfl]at e;exact fW A hd u e C h B
   .cases b
  .cases b
 case AaG f ys i=>
  split at b
  .rename_i c e;split at b
   .rename_i g I;simp only[pq,beq_iff_eq]at b;obtain⟨rfl,C⟩:=b;rw[Cx I rfl rfl]at e;exact fS A hd u e C h B
   .cases b
  .cases b
 case Aa4 f ys=>
  split at b
  .rename_i c e;split at b
   .rename_i g I;simp only[pq,beq_iff_eq]at b;obtain⟨rfl,C⟩:=b;rw[Cx I rfl rfl]at e;exact(fU A hd e C h).wp u B
   .cases b
  .cases b
 case Abm n s z x=>
  split at b
  .rename_i c e;unfold gu at b;split at b
   .rename_i p q t Y C D E;simp only[pq]at b;obtain⟨⟨H,L⟩,F⟩:=b;split at F
    .rename_i el kn J hu';split at F
     .rename_i i hi;split at F
      .rename_i zz T;split at F
       .rename_i z0 hz0;simp only[pq,beq_iff_eq,zzX]at F;obtain⟨⟨⟨⟨rfl,U⟩,V⟩,W⟩,R⟩:=F;rw[Cx C (FA D) (FA E),Operand.isTmp_eq' H]at e;exact(jF A hd e J hu' hi T U V (E9 hz0) W R L h).wp u B
       .cases F
      .cases F
     .cases F
    .cases F
   .cases b
  .cases b
 case Abw X x=>
  split at b
  .rename_i t y e;exact(jJ A hd e b h).wp u B
  .cases b
 case Aa3 f ys=>
  split at b
  .rename_i c e;split at b
   .rename_i g I;simp only[pq,beq_iff_eq]at b;obtain⟨rfl,C⟩:=b;rw[Cx I rfl rfl]at e;exact fV A hd u e C h B
   .cases b
  .cases b
 case AaR f ys=>
  split at b
  .rename_i c e;split at b
   .rename_i g I;simp only[pq,beq_iff_eq]at b;obtain⟨rfl,C⟩:=b;rw[Cx I rfl rfl]at e;exact cM A hd u e C h B
   .cases b
  .cases b
 case isn x=>
  split at b
  .rename_i op t y z Y e;simp only[pq,beq_iff_eq]at b;obtain⟨⟨⟨rfl,C⟩,D⟩,E⟩:=b;exact(lW A hd e C D E h).wp u B
  .cases b
 case Abu q=>
  split at b
  .rename_i t len X e;split at b
   .rename_i x hps;simp only[pq]at b;rw[E9 hps]at e;exact(jN A hd e b.1 b.2 h).wp u B
   .cases b
  .cases b
 case Aa1 s q=>
  split at b
  .rename_i c e;unfold UW at b;split at b
   .rename_i p q' t Y s' C D E H;simp only[AG.s.injEq]at H;subst H;simp only[pq,beq_iff_eq]at b;obtain⟨⟨⟨H,L⟩,rfl⟩,F⟩:=b;split at F
    .rename_i el J;split at F
     .rename_i i hi;split at F
      .rename_i z T;simp only[pq,beq_iff_eq,zzX]at F;obtain⟨⟨⟨U,V⟩,W⟩,R⟩:=F;have hq:q'=.tmp q:=by
        cases q'<;>simp[AN]at L;rw[L]
       rw [Cx C (FA D) (FA E),Operand.tn H,hq]at e;exact(jD A hd e J hi T U V W h).wp u B
      .cases F
     .cases F
    .cases F
   .cases b
  .cases b
 case lan x=>
  split at b
  .rename_i t y e;simp only[pq,beq_iff_eq]at b;exact(lZ A hd e b.1 b.2 h).wp u B
  .cases b
 case nia x i=>
  split at b
  .rename_i t y j e;simp only[pq,beq_iff_eq]at b;exact(ls A hd e b.1.1 b.1.2 b.2 h).wp u B
  .cases b
 case nld x=>
  split at b
  .rename_i t y e;simp only[pq,beq_iff_eq]at b;exact(lu A hd e b.1 b.2 h).wp u B
  .cases b
 case nst x v=>cases M
 case AbF q=>
  split at b
  .rename_i t y e;exact(jH A hd e b h).wp u B
  .cases b
 case AaY f ys i=>
  split at b
  .rename_i c e;split at b
   .rename_i g I;simp only[pq,beq_iff_eq]at b;obtain⟨rfl,C⟩:=b;rw[Cx I rfl rfl]at e;exact fR A hd u e C h B
   .cases b
  .cases b
 case mkm=>
  split at b
  .rename_i t r e;cases r with
   |none=>exact(li A hd e h).wp u B|some r=>cases b
  .cases b
 case mvm s=>
  split at b
  .rename_i y e;rw[Operand.tn b]at e;exact(bY A hd (.inl e) h).wp u B
  .rename_i y e;rw[Operand.tn b]at e;exact(bY A hd (.inr e) h).wp u B
  .cases b
 case AaX f ys=>
  split at b
  .rename_i c e;split at b
   .rename_i g I;simp only[pq,beq_iff_eq]at b;obtain⟨rfl,C⟩:=b;rw[Cx I rfl rfl]at e;exact fY A hd u e C h B
   .cases b
  .cases b
 case mlk s m x=>
  split at b
  .rename_i t y z c e;simp only[pq]at b;obtain⟨⟨⟨rfl,C⟩,D⟩,E⟩:=b;exact(ll A hd e C D E h).wp u B
  .cases b
 case mup s m x v=>cases M
 case stq n X x v=>cases M
 case ldg s n=>
  split at b
  .rename_i t y e;simp only[pq,beq_iff_eq]at b;rw[Operand.tn b.1.1]at e;exact(lb A hd e b.1.2 b.2 h).wp u B
  .cases b
 case mrg s m=>
  split at b
  .rename_i t y e;simp only[pq]at b;obtain⟨C,D⟩:=b;split at D
   .rename_i k el J;exact(ln A hd e C J h).wp u B
   .cases D
  .cases b
 case mnx s=>
  split at b
  .rename_i y c e;simp only[pq,Bool.not_eq_true']at b;obtain⟨rfl,C⟩:=b;rw[Operand.tn C]at e;exact(lm A hd e h).wp u B
  .cases b
 case men s=>
  split at b
  .rename_i y e;rw[Operand.tn b]at e;exact(lh A hd e h).wp u B
  .cases b
end
end Go.Sf
namespace Go.Sf
open Go.RowKit (Below)
def UX(ops:Array Oper)(o:Oper)(r:PR):Bool:=
 match r.guard,o.guard with
 |none,none=>true|some (g,b),some (j,b')=>b==b'&&((ops[j]?).bind (·.dst))==some g|_,_=>false
def K9(P:Program)(N:Nat)(ops:Array Oper)(o:Oper)(r:PR):Bool:=
 UX ops o r&&(match o.dst,r.dst with
 |some d,some d'=>d==d'&&decide (d<N)&&!L9 r.op&&OZ P o.op r.op|none,none=>L9 r.op&&OZ P o.op r.op|_,_=>false)
section
variable{P:Program}{F0:Nat->Nat->Prop}{w0:W0}{O:AB}{a:Act}{w:World}{ops:Array Oper}{o:Oper}{r:PR}{N:Nat}{p:Option (Nat×Value)}{K:AB->Prop}{next:Act->World->Prop}{Q:Exit->Act->World->Prop}
theorem Bi.skip(b:Bi F0 w0 O a w){d:Nat}(hd:d<a.tmps.size):Bi F0 w0 ((d,.sk)::O) (a.put (some d) undef) w:=by
 obtain ⟨G,h⟩:=b;exact⟨_,h.quiet (Below.refl _ _) d hd .sk undef (fun _=>none) (by simp) (by simp) (by simp) rfl trivial⟩
theorem ME{o:Oper}(b:o.dst=none){K:EV->AB->Prop}(h:G3 P F0 w0 a w o K)(e:∀env' w',K .undef env'->Bi F0 w0 env' a w'->next a w'):o.wp P a w next Q:=by
 obtain ⟨w',c,env',f,g⟩:=h;unfold Oper.wp;rw[c,Oper.upon_skip,b];exact e _ _ f g
theorem sJ{S:FuncId->Fq->Au->Prop}{n s:Nat}{v:AG}{d:Option Nat}{O:AB}{K:EV->AB->Prop}(h:(AF.stb n s v).wp S O d K):(AF.st n (.s s) v).wp S O d K:=by
 simp only[AF.wp]at h|-
 grind [AG.place]
theorem Vg(f:Bi F0 w0 O a w)(D:KI N p a)(M:∀i v,p=some (i,v)->r.dst≠some i)(R:K9 P N ops o r=true)(h:r.wp (AV P) O K)
  (E:∀env' a' w',K env'->KI N p a'->Bi F0 w0 env' a' w'->next a' w'):
  if Region.wanted o (yielded ops a.tmps)then o.wp P a w next Q else next (a.put o.dst undef) w:=by
 simp only[K9,pq]at R;obtain⟨J,hd⟩:=R;have T:r.op.wp (AV P) O r.dst (fun e env'=>K (env'.put r.dst e))->o.wp P a w next Q:=by
  intro A;obtain⟨G,f⟩:=f;cases ho:o.dst with
  |some d=>
   cases B:r.dst with
   |none=>rw[ho,B]at hd;cases hd
   |some d'=>
    rw [ho,B]at hd;simp only[pq,beq_iff_eq,zzX,Bool.not_eq_true']at hd;obtain⟨⟨⟨rfl,I⟩,L⟩,c⟩:=hd;rw[B]at A;exact kL f (D.size▸I) ho c L A fun e env' a' w' k l k3=>E _ a' w' k (D.put (fun i v X=>by rw[<-B];exact M i v X) l) k3
  |none=>
   cases B:r.dst with
   |some d'=>rw[ho,B]at hd;cases hd
   |none=>
    rw [ho,B]at hd;rw[B]at A;simp only[pq]at hd;obtain⟨L,c⟩:=hd;generalize X:r.op=p at A L c;cases p<;>simp only[L9]at L<;>first|cases L|skip
    .rename_i n x v;simp only[OZ]at c;split at c
     .rename_i t y u e;simp only[pq,beq_iff_eq]at c;exact ME ho (db f e c.1.1 c.1.2 c.2 A) fun env' w' k l=>E env' a w' k D l
     .cases c
    .rename_i n s v;simp only[OZ]at c;split at c
     .rename_i t y u e;simp only[pq,beq_iff_eq]at c;rw[Operand.tn c.1.1]at e;exact ME ho (db f e (x':=.s s) (by simp[AN]) c.1.2 c.2 (sJ A)) fun env' w' k l=>E env' a w' k D l
     .cases c
    .rename_i x v;simp only[OZ]at c;split at c
     .rename_i t y u e;simp only[pq,beq_iff_eq]at c;exact ME ho (l7 f e c.1.1 c.1.2 c.2 A) fun env' w' k l=>E env' a w' k D l
     .cases c
    .rename_i n x q;simp only[OZ]at c;split at c
     .rename_i t y u e;simp only[pq,beq_iff_eq]at c;exact ME ho (l3 f e c.1.1 c.1.2 c.2 A) fun env' w' k l=>E env' a w' k D l
     .cases c
    .rename_i x q;simp only[OZ]at c;split at c
     .rename_i t y u e;simp only[pq,beq_iff_eq]at c;exact ME ho (lO f e c.1.1 c.1.2 c.2 A) fun env' w' k l=>E env' a w' k D l
     .cases c
    .rename_i x v;simp only[OZ]at c;split at c
     .rename_i t y u e;simp only[pq,beq_iff_eq]at c;exact ME ho (lw f e c.1.1 c.1.2 c.2 A) fun env' w' k l=>E env' a w' k D l
     .cases c
    .rename_i n ps x v;simp only[OZ]at c;split at c
     .rename_i t y u e;simp only[pq,beq_iff_eq]at c;exact ME ho (lz f e c.1.1 c.1.2 c.2 A) fun env' w' k l=>E env' a w' k D l
     .cases c
    .rename_i s m x v;simp only[OZ]at c;split at c
     .rename_i t y z u e;simp only[pq]at c;exact ME ho (lq f e c.1.1.1 c.1.1.2 c.1.2 c.2 A) fun env' w' k l=>E env' a w' k D l
     .cases c
 have U:K (O.put r.dst .sk)->next (a.put o.dst undef) w:=by
  intro Y;cases ho:o.dst with
  |some d=>
   cases B:r.dst with
   |none=>rw[ho,B]at hd;cases hd
   |some d'=>
    rw [ho,B]at hd;simp only[pq,beq_iff_eq,zzX,Bool.not_eq_true']at hd;obtain⟨⟨⟨rfl,I⟩,L⟩,c⟩:=hd;rw[B]at Y;exact E _ _ _ Y (D.put (fun i v X=>by rw[<-B];exact M i v X) ⟨_,rfl⟩) (f.skip (D.size▸I))
  |none=>
   cases B:r.dst with
   |some d'=>rw[ho,B]at hd;cases hd
   |none=>rw[B]at Y;exact E _ _ _ Y D f
 unfold PR.wp at h;cases F:r.guard with
 |none=>
  rw [F]at h;cases C:o.guard with
  |none=>rw[a6 (by simp[Region.wanted,C])];exact T h|some g=>rw[UX,F,C]at J;cases J
 |some gb=>
  obtain ⟨g,b⟩:=gb;rw[F]at h;cases C:o.guard with
  |none=>rw[UX,F,C]at J;cases J
  |some jb=>
   obtain ⟨j,b'⟩:=jb;rw[UX,F,C]at J;simp only[pq,beq_iff_eq]at J;obtain⟨rfl,hj⟩:=J;simp only at h;split at h
   .rename_i q S;have hv:slot a g=.bool q:=by
     obtain ⟨G,f⟩:=f;have:=Ad f S (by simp);simpa only[AP,Al]using this
    have H:g<a.tmps.size:=by
     obtain ⟨G,f⟩:=f;exact BZ f S (by simp)
    have Z:yielded ops a.tmps j=some q:=by
     have I:a.tmps[g]?=some (.bool q):=by
      rw [slot,Array.getD_eq_getD_getElem?,Array.getElem?_eq_getElem H]at hv;rw[Array.getElem?_eq_getElem H];simpa using hv
     simp [yielded,hj,I]
    have A:Region.wanted o (yielded ops a.tmps)=(q==b):=by
     simp only[Region.wanted,C,Z];cases q<;>cases b<;>rfl
    rw [A];by_cases V:q=b
    .subst V;rw[a6 (by simp)];exact T (h.1 rfl)
    .have W:q=!b:=by cases q<;>cases b<;>simp_all
     rw [ae (by simpa using V)];exact U (h.2 W)
   .rename_i S;have hv:slot a g=undef:=by
     obtain ⟨G,f⟩:=f;have:=Ad f S (by simp);simpa only[AP]using this
    have H:g<a.tmps.size:=by
     obtain ⟨G,f⟩:=f;exact BZ f S (by simp)
    have Z:yielded ops a.tmps j=none:=by
     have I:a.tmps[g]?=some undef:=by
      rw [slot,Array.getD_eq_getD_getElem?,Array.getElem?_eq_getElem H]at hv;rw[Array.getElem?_eq_getElem H];simpa using hv
     simp [yielded,hj,I,undef]
    have A:Region.wanted o (yielded ops a.tmps)=false:=by
     simp only[Region.wanted,C,Z];cases b<;>rfl
    rw [A];exact U h
   .exact h.elim
def R0:List PR->Bool
 |[]=>true|r::rs=>(match r.op,r.dst,r.guard with|.frz _,none,none=>true|_,_,_=>false)&&R0 rs
variable{rs:List PR}
theorem nY:∀{O:AB},R0 rs=true->wpOps (AV P) K rs O->Bi F0 w0 O a w->∃env',K env'/\Bi F0 w0 env' a w:=by
 induction rs with
 |nil=>intro O _ h b;exact⟨O,h,b⟩|cons r rs l=>
  intro O c h b;simp only[R0,pq]at c;obtain⟨e,k⟩:=c;split at e
  .rename_i s f g i;simp only[wpOps,PR.wp,f,g,i,AF.wp]at h;split at h
   .rename_i cs j;obtain⟨G,b⟩:=b;exact l k h (b.frz j)
   .exact h.elim
  .cases e
def LG(P:Program)(N:Nat)(ops:Array Oper):List Oper->List PR->Bool
 |[],rs=>R0 rs|o::os,r::rs=>K9 P N ops o r&&LG P N ops os rs|_::_,[]=>false
theorem Wf(m:∀O a w,K O->KI N p a->Bi F0 w0 O a w->Q .normal a w):∀(os:List Oper)(rs:List PR)(k:Nat),ops.toList.drop k=os->LG P N ops os rs=true->(∀i v,p=some (i,v)->∀r∈rs,r.dst≠some i)->∀(O:AB)(a:Act)(w:World),KI N p a->Bi F0 w0 O a w ->
  wpOps (AV P) K rs O->Go.wpOps P ops Q (List.range' k os.length) a w
 |[],rs,k,_,b,_,O,a,w,g,j,h=>by
  obtain ⟨env',z,A⟩:=nY b h j;exact m env' a w z g A
 |o::os,[],k,_,b,_,_,_,_,_,_,_=>by simp[LG]at b|o::os,r::rs,k,hd,b,c,O,a,w,g,j,h=>by
  simp only[LG,pq]at b;have y:ops[k]?=some o:=by
   rw [<-Array.getElem?_toList];have:=congrArg (fun l=>l[0]?) hd
   grind
  have f:ops.toList.drop (k+1)=os:=by
   grind [List.tail,List.tail_drop]
  simp only[c7,List.range'_succ];rw[Go.wpOps_cons];unfold Go.wpOp;rw[y];simp only[];have:=Vg (Q:=Q) (next:=Go.wpOps P ops Q (List.range' (k+1) os.length)) j g (fun i v e=>c i v e r (by simp)) b.1 h fun env' a' w' q s t=>Wf m os rs (k+1) f b.2 (fun i v e r u=>c i v e r (by simp[u])) env' a' w' s t q
  grind
theorem bJ{id:Nat}(b:LG P N ops ops.toList rs=true)(c:∀i v,p=some (i,v)->∀r∈rs,r.dst≠some i)(e:KI N p a)(f:Bi F0 w0 O a w)(h:wpOps (AV P) K rs O)
  (g:∀O a w,K O->KI N p a->Bi F0 w0 O a w->Q .normal a w):(Code.region id ops false).wp P Q a w:=by
 refine Go.wp_region ?_;rw[List.range_eq_range',<-Array.length_toList];exact Wf g ops.toList rs 0 rfl b c O a w e f h
end
end Go.Sf
