/- One operation against the checker, and regions in the text's order. -/
import Derived.Test.YtbmogdodchhhlaaGreatSfN
import Derived.Orders
set_option linter.all false
namespace Go.Sf
open Go.RowKit (Below)
def Operand.s9(n:Nat):Operand->Bool
 |.tmp m=>m==n|_=>false
variable{n:Nat}{x:Operand}
theorem Operand.r0(h:Operand.s9 n x=true):x=.tmp n:=by
 cases x<;>simp[Operand.s9]at h;rw[h]
def Pz:Operand->Bool
 |.const v=>Ii v|_=>false
theorem MA(h:Pz x=true):∃v,x=.const v/\Ii v=true:=by
 cases x<;>simp[Pz]at h;exact⟨_,rfl,h⟩
def Od(P:Program)(str:Bool)(c:Call)(x:AD):Bool:=
 match c.callee,c.args.toList,c.argTypes.toList with
 |.builtin .len,[y],[t]=>AG y x&&(match P.underlying t with|some (.slice _)=>!str|some .string=>str|_=>false)
 |_,_,_=>false
def Ob(P:Program)(n:Nat)(c:Call)(x y:AD):Bool:=
 match c.callee,c.args.toList,c.argTypes.toList,x with
 |.builtin .append,[p,q],[t,t'],.s s=>Operand.s9 s p&&AG q y&&t==t'&&(match P.underlying t with
  |some (.slice e)=>(match P.info? e with
   |some i=>(match i.zero with|some z=>i.size==n&&decide (i.bytes<=4096)&&z.cells.size==n&&decide (0<n)|none=>false)
   |none=>false)
  |_=>false)
 |_,_,_,_=>false
def cQ(mx:Bool)(c:Call)(x y:AD):Bool:=
 match c.callee,c.args.toList with
 |.builtin .max,[p,q]=>mx&&AG p x&&AG q y|.builtin .min,[p,q]=>!mx&&AG p x&&AG q y|_,_=>false
def Kq(P:Program)(o:Op):AC->Bool
 |.mv x=>match o with|.move y|.assign y=>AG y x|_=>false
 |.tk s=>match o with|.move y|.assign y=>Operand.s9 s y|_=>false
 |.uq _=>match o with|.move y|.assign y=>Pz y|_=>false
 |.td x k=>match o with|.fieldAddr t y f=>AG y x&&Kc P t f==some k|.move y|.assign y|.nilCheck y=>k==0&&AG y x|_=>false
 |.bad s k=>match o with|.indexAddr t y j=>Operand.s9 s y&&Ux P t j k|.fieldAddr t y f=>Operand.s9 s y&&Kc P t f==some k|.move y|.assign y|.nilCheck y=>k==0&&Operand.s9 s y|_=>false
 |.ur x i n=>match o with|.indexAddr t y j=>AG y x&&AG j i&&Fx P t==some n|_=>false
 |.aad x i n k=>match o with|.indexAddr t y j=>AG y x&&AG j i&&(match P.underlying t with|some (.array k' e)=>k'==k&&B5 P e==some n|_=>false)|_=>false
 |.ld x=>match o with|.load t y=>AG y x&&BV P t==some false|_=>false
 |.vK x k=>match o with|.fieldAddr t y f=>AG y x&&Kc P t f==some k|_=>false
 |.vJ x n=>match o with|.load t y=>AG y x&&BV P t==some true&&B5 P t==some n|_=>false
 |.uC x n=>match o with|.load t y=>AG y x&&BV P t==some true&&B5 P t==some n|_=>false
 |.vR s n=>match o with|.load t y=>AG y (.s s)&&BV P t==some true&&B5 P t==some n|_=>false
 |.ldt x=>match o with|.load t y=>AG y x&&BV P t==some false|_=>false
 |.bin k op x y=>match o with|.binOp op' t p q _=>op'==op&&Jb P k t&&AG p x&&AG q y|_=>false
 |.not x=>match o with|.unOp op _ y=>op==.not&&AG y x|_=>false
 |.neg x=>match o with|.unOp op _ y=>op==.neg&&AG y x|_=>false
 |.pick c x y=>match o with|.pick c' p q=>AG c' c&&AG p x&&AG q y|_=>false
 |.len x=>match o with|.call c=>Od P false c x|_=>false
 |.uN x=>match o with|.call c=>Od P true c x|_=>false
 |.tR n x lo hi=>match o with|.slice t y l h mx=>mx.isNone&&AG y x&&Jd l lo&&Jd h hi&&Fx P t==some n|_=>false
 |.tz x lo hi=>match o with|.slice t y l h mx=>mx.isNone&&AG y x&&Jd l lo&&Jd h hi&&(match P.underlying t with|some .string=>true|_=>false)|_=>false
 |.uy z ps=>match o with|.build t qs=>Uy P t z qs.toList ps|_=>false
 |.uS n ys=>match o with
  |.buildSlice t len ps=>(match P.underlying t with
   |some (.slice e)=>(match P.info? e with
    |some i=>(match i.zero with
     |some z=>i.size==n&&decide (0<n)&&z.cells.toList.all Value.oneCell'&&decide (0<z.cells.size)&&len==ps.size&&decide (len*n<=2^ 24)&&NN 0 ps.toList ys|none=>false)
    |none=>false)
   |_=>false)
  |_=>false
 |.app n x y=>match o with|.call c=>Ob P n c x y|_=>false
 |.call f ys=>match o with|.call c=>(match c.callee with|.value (.func g)=>g==f&&BF c.args.toList ys|_=>false)|_=>false
 |.tq x ys=>match o with|.call c=>(match c.callee with|.value g=>AG g x&&BF c.args.toList ys|_=>false)|_=>false
 |.sR f cs=>match o with|.makeFunc (.func g) first xs=>g==f&&first.size==0&&BF xs.toList cs|_=>false
 |.ext x i=>match o,x with|.extract y j,.s s=>Operand.s9 s y&&j==i|_,_=>false
 |.vp k x=>match o with|.convert s t y=>AG y x&&(match P.underlying s,P.underlying t with|some (.int _),some (.int k')=>k'==k|_,_=>false)|_=>false
 |.th x i=>match o with|.index t y j=>AG y x&&AG j i&&(match P.underlying t with|some .string=>true|_=>false)|_=>false
 |.uw x=>match o with|.box _ y=>AG y x|_=>false
 |.uJ x=>match o with|.box _ y=>AG y x|_=>false
 |.mm mx x y=>match o with|.call c=>cQ mx c x y|_=>false
 |.uV cs=>match o with|.alloc t=>(match P.info? t with|some i=>(match i.zero with|some z=>J7 cs z.cells.toList|none=>false)|none=>false)|_=>false
 |.st n x v=>match o with|.store t y u=>AG y x&&AG u v&&B5 P t==some n|_=>false
 |.uz n s v=>match o with|.store t y u=>Operand.s9 s y&&AG u v&&B5 P t==some n|_=>false
 |.vo _=>false|.ux x k n agg=>match o with|.field t y f=>AG y x&&Uz P t f k n agg|_=>false
 |.vG s=>match o with|.move y|.assign y=>Operand.s9 s y|_=>false
 |.uK x=>match o with|.call c=>Od P false c x|_=>false
 |.vC x i n=>match o with|.indexAddr t y j=>AG y x&&AG j i&&Fx P t==some n|_=>false
 |.xfa x k=>match o with|.fieldAddr t y f=>AG y x&&Kc P t f==some k|_=>false
 |.vL x=>match o with|.load t y=>AG y x&&BV P t==some false|_=>false
 |.uB x v k=>match o with|.store t y u=>AG y x&&AG u v&&B5 P t==some k|_=>false
 |.rel s=>match o with|.move y|.assign y=>Operand.s9 s y|_=>false
 |.ud _=>match o with|.move y|.assign y=>Pz y|_=>false
 |.uR s=>match o with|.move y|.assign y=>Operand.s9 s y|_=>false
 |.t6 n s y=>match o with|.call c=>Ob P n c (.s s) y|_=>false
 |.tj f ys=>match o with|.call c=>(match c.callee with|.value (.func g)=>g==f&&BF c.args.toList ys|_=>false)|_=>false
 |.uv n zero x=>match o with|.makeSlice t y z=>AG y x&&AG z x&&Xf P t n zero|_=>false
 |.tD f x=>match o with|.call c=>(match c.callee,c.args.toList with|.value (.func g),[y]=>g==f&&AG y x|_,_=>false)|_=>false
 |.tF f x=>match o with|.call c=>(match c.callee,c.args.toList with|.value (.func g),[y]=>g==f&&AG y x|_,_=>false)|_=>false
 |.ub n=>match o with|.buildSlice t len ps=>len==0&&ps.isEmpty&&Sv P t n|_=>false
 |.sZ gs=>match o with|.build t ps=>St P t ps.toList gs|_=>false
 |.stx n s q=>match o with|.store t y u=>AG y (.s s)&&AG u (.s q)&&B5 P t==some n|_=>false
 |.tN f ys=>match o with|.call c=>(match c.callee with|.value (.func g)=>g==f&&BF c.args.toList ys|_=>false)|_=>false
 |.tw f ys=>match o with|.call c=>(match c.callee with|.value (.func g)=>g==f&&BF c.args.toList ys|_=>false)|_=>false
 |.vn x=>match o with|.binOp op t y z _=>op==.eql&&AG y x&&Mk z&&R2 P t|_=>false
 |.lac x=>match o with|.load t y=>AG y x&&BV P t==some false|_=>false
 |.vQ x=>match o with|.load t y=>AG y x&&BV P t==some false|_=>false
 |.vk x q=>match o with|.store t y u=>AG y x&&AG u (.s q)&&B5 P t==some 1|_=>false
 |.cut n s hi=>match o with|.slice t y l (some h) mx=>mx.isNone&&l.isNone&&Operand.s9 s y&&AG h hi&&Fx P t==some n|_=>false
 |.ti f ys=>match o with|.call c=>(match c.callee with|.value (.func g)=>g==f&&BF c.args.toList ys|_=>false)|_=>false
 |.uc _ x=>match o with|.box _ y=>AG y x|_=>false
 |.tM f ys=>match o with|.call c=>(match c.callee with|.value (.func g)=>g==f&&BF c.args.toList ys|_=>false)|_=>false
 |.ue n s z x=>match o with|.call c=>V6 P n s z x c|_=>false
 |.tg f ys _=>match o with|.call c=>(match c.callee with|.value (.func g)=>g==f&&BF c.args.toList ys|_=>false)|_=>false
 |.ut q=>match o with|.buildSlice t len ps=>(match len,ps.toList with|1,[(0,x)]=>Su P t&&AG x (.s q)|_,_=>false)|_=>false
 |.tK s q=>match o with|.call c=>Ob P 1 c (.s s) (.s q)|_=>false
 |.vq x=>match o with|.load t y=>AG y x&&BV P t==some false|_=>false
 |.uQ x i=>match o with|.indexAddr t y j=>AG y x&&AG j i&&Fx P t==some 1|_=>false
 |.vw x=>match o with|.load t y=>AG y x&&BV P t==some false|_=>false
 |.uU x v=>match o with|.store t y u=>AG y x&&AG u v&&B5 P t==some 1|_=>false
 |.uL q=>match o with|.box _ y=>AG y (.s q)|_=>false
 |.tG f ys _=>match o with|.call c=>(match c.callee with|.value (.func g)=>g==f&&BF c.args.toList ys|_=>false)|_=>false
 |.vO s n=>match o with|.load t y=>Operand.s9 s y&&BV P t==some true&&B5 P t==some n|_=>false
 |.vj n _ x v=>match o with|.store t y u=>AG y x&&AG u v&&B5 P t==some n|_=>false
 |.uT=>match o with|.makeMap _ r=>r.isNone|_=>false
 |.vh s=>match o with|.move y|.assign y=>Operand.s9 s y|_=>false
 |.tB f ys=>match o with|.call c=>(match c.callee with|.value (.func g)=>g==f&&BF c.args.toList ys|_=>false)|_=>false
 |.vI _ m x=>match o with|.lookup t y z c=>c&&Kh P t&&AG y m&&AG z x|_=>false
 |.vf _ m x v=>match o with|.mapUpdate t y z u=>Kh P t&&AG y m&&AG z x&&AG u v|_=>false
 |.su _ m=>match o with|.range t y=>AG y m&&(match P.underlying t with|some (.map _ _)=>true|_=>false)|_=>false
 |.vB s=>match o with|.next y c=>!c&&Operand.s9 s y|_=>false
 |.vu s=>match o with|.entry y=>Operand.s9 s y|_=>false
def I8:AC->Bool
 |.st ..=>true|.uz ..=>true|.uB ..=>true|.stx ..=>true|.vk ..=>true|.uU ..=>true|.vf ..=>true|.vj ..=>true|_=>false
section
variable{P:Program}{F0:Nat->Nat->Prop}{w0:W0}{O:AA}{a:Act}{w:World}{G:A7}{d:Nat}{o:Oper}{K:EV->AA->Prop}
theorem As.wp(h:As P F0 w0 a w o d K)(b:o.dst=some d){next:Act->World->Prop}{Q:Exit->Act->World->Prop}(f:∀e env' a' w',K e env'->LT a d a'->BM F0 w0 ((d,e)::env') a' w'->next a' w'):o.wp P a w next Q:=by
 obtain ⟨v,w',c,e,env',g,i⟩:=h;unfold Oper.wp;rw[c,Oper.upon_value,b];exact f e env' _ w' g ⟨_,rfl⟩ i
variable{α:Type}
theorem DX{a:Array α}{x:α}(h:a.toList=[x]):a=#[x]:=by
 cases a;simp_all
theorem DY{a:Array α}{x y:α}(h:a.toList=[x,y]):a=#[x,y]:=by
 cases a;simp_all
theorem CF{c:Call}{b:Callee}{e:Array Operand}{f:Array TypeId}(g:c.callee=b)(h:c.args=e)(i:c.argTypes=f):c={callee:=b,args:=e,argTypes:=f}:=by
 cases c;simp_all
theorem Xg(A:AK F0 w0 O a w G)(hd:d<a.tmps.size)(u:o.dst=some d){p:AC}(b:Kq P o.op p=true)(M:I8 p=false)(h:p.wp (AJ P) O (some d) K)
  {next:Act->World->Prop}{Q:Exit->Act->World->Prop}(B:∀e env' a' w',K e env'->LT a d a'->BM F0 w0 ((d,e)::env') a' w'->next a' w'):o.wp P a w next Q:=by
 cases p<;>simp only[Kq]at b<;>try(exact absurd b Bool.false_ne_true)
 case mv x=>
  split at b
  .rename_i y e;exact(UA A hd (.inl e) b h).wp u B
  .rename_i y e;exact(UA A hd (.inr e) b h).wp u B
  .cases b
 case tk s=>
  split at b
  .rename_i y e;rw[Operand.r0 b]at e;exact(UC A hd (.inl e) h).wp u B
  .rename_i y e;rw[Operand.r0 b]at e;exact(UC A hd (.inr e) h).wp u B
  .cases b
 case uq n=>
  split at b
  .rename_i y e;exact(Rg A hd (.inl e) (MA b) h).wp u B
  .rename_i y e;exact(Rg A hd (.inr e) (MA b) h).wp u B
  .cases b
 case td x k=>
  split at b
  .rename_i t y f e;simp only[sc,beq_iff_eq]at b;exact(Ls A hd (Qb e b.2) b.1 h).wp u B
  .rename_i y e;simp only[sc,beq_iff_eq]at b;obtain⟨rfl,b⟩:=b;exact(Ls A hd (LR (.inl e)) b h).wp u B
  .rename_i y e;simp only[sc,beq_iff_eq]at b;obtain⟨rfl,b⟩:=b;exact(Ls A hd (LR (.inr (.inl e))) b h).wp u B
  .rename_i y e;simp only[sc,beq_iff_eq]at b;obtain⟨rfl,b⟩:=b;exact(Ls A hd (LR (.inr (.inr e))) b h).wp u B
  .cases b
 case bad s k=>
  split at b
  .rename_i t y j e;simp only[sc]at b;rw[Operand.r0 b.1]at e;exact(Lr A hd (Zh e b.2) h).wp u B
  .rename_i t y f e;simp only[sc,beq_iff_eq]at b;rw[Operand.r0 b.1]at e;exact(Lr A hd (Qb e b.2) h).wp u B
  .rename_i y e;simp only[sc,beq_iff_eq]at b;obtain⟨rfl,b⟩:=b;rw[Operand.r0 b]at e;exact(Lr A hd (LR (.inl e)) h).wp u B
  .rename_i y e;simp only[sc,beq_iff_eq]at b;obtain⟨rfl,b⟩:=b;rw[Operand.r0 b]at e;exact(Lr A hd (LR (.inr (.inl e))) h).wp u B
  .rename_i y e;simp only[sc,beq_iff_eq]at b;obtain⟨rfl,b⟩:=b;rw[Operand.r0 b]at e;exact(Lr A hd (LR (.inr (.inr e))) h).wp u B
  .cases b
 case ur x i n=>
  split at b
  .rename_i t y j e;simp only[sc,beq_iff_eq]at b;exact(YJ A hd e b.1.1 b.1.2 b.2 h).wp u B
  .cases b
 case aad x i n k=>
  split at b
  .rename_i t y j e;simp only[sc]at b;obtain⟨⟨C,D⟩,E⟩:=b;split at E
   .rename_i k' el J;simp only[sc,beq_iff_eq]at E;obtain⟨rfl,H⟩:=E;exact(X8 A hd e C D J H h).wp u B
   .cases E
  .cases b
 case ld x=>
  split at b
  .rename_i t y e;simp only[sc,beq_iff_eq]at b;exact(aU A hd e b.1 b.2 h).wp u B
  .cases b
 case vK x k=>
  split at b
  .rename_i t y f e;simp only[sc,beq_iff_eq]at b;refine(Ls (S:=AJ P) A hd (Qb e b.2) b.1 ?_).wp u B;simp only[AC.wp]at h|-;split at h
   .rename_i row Z;rw[Wt A Z];exact h
   .exact h.elim
  .cases b
 case vJ x n=>
  split at b
  .rename_i t y e;simp only[sc,beq_iff_eq]at b;refine(PT (S:=AJ P) A hd e b.1.1 b.1.2 b.2 ?_).wp u B;simp only[AC.wp]at h|-;split at h
   .rename_i row Z;rw[Wt A Z];exact h
   .exact h.elim
  .cases b
 case uC x n=>
  split at b
  .rename_i t y e;simp only[sc,beq_iff_eq]at b;exact(PT A hd e b.1.1 b.1.2 b.2 h).wp u B
  .cases b
 case vR s n=>
  split at b
  .rename_i t y e;simp only[sc,beq_iff_eq]at b;refine(PT (S:=AJ P) A hd e b.1.1 b.1.2 b.2 (y:=.s s) ?_).wp u B;simp only[AC.wp]at h|-;split at h
   .rename_i cs I;simp only[AD.ev,I,Ay,AR];exact h
   .exact h.elim
  .cases b
 case ldt x=>
  split at b
  .rename_i t y e;simp only[sc,beq_iff_eq]at b;exact(YO A hd e b.1 b.2 h).wp u B
  .cases b
 case bin k op x y=>
  split at b
  .rename_i op' t p q Y e;simp only[sc,beq_iff_eq]at b;obtain⟨⟨⟨rfl,C⟩,D⟩,E⟩:=b;exact(YB A hd e C D E h).wp u B
  .cases b
 case not x=>
  split at b
  .rename_i op t y e;simp only[sc,beq_iff_eq]at b;obtain⟨rfl,C⟩:=b;exact(Yb A hd e C h).wp u B
  .cases b
 case neg x=>
  split at b
  .rename_i op t y e;simp only[sc,beq_iff_eq]at b;obtain⟨rfl,C⟩:=b;exact(YY A hd e C h).wp u B
  .cases b
 case pick c x y=>
  split at b
  .rename_i c' p q e;simp only[sc]at b;exact(Wl A hd e b.1.1 b.1.2 b.2 h).wp u B
  .cases b
 case len x=>
  split at b
  .rename_i c e;unfold Od at b;split at b
   .rename_i y t C D E;simp only[sc]at b;obtain⟨H,L⟩:=b;split at L
    .rename_i el J;rw[CF C (DX D) (DX E)]at e;exact(YP A hd e H J h).wp u B
    .cases L
    .cases L
   .cases b
  .cases b
 case uN x=>
  split at b
  .rename_i c e;unfold Od at b;split at b
   .rename_i y t C D E;simp only[sc]at b;obtain⟨H,L⟩:=b;split at L
    .cases L
    .rename_i J;rw[CF C (DX D) (DX E)]at e;exact(Wn A hd e H J h).wp u B
    .cases L
   .cases b
  .cases b
 case tR n x lo hi=>
  split at b
  .rename_i t y l hh mx e;simp only[sc,beq_iff_eq,Option.isNone_iff_eq_none]at b;obtain⟨⟨⟨⟨rfl,C⟩,D⟩,E⟩,H⟩:=b;exact(Yd A hd e C D E H h).wp u B
  .cases b
 case tz x lo hi=>
  split at b
  .rename_i t y l hh mx e;simp only[sc,Option.isNone_iff_eq_none]at b;obtain⟨⟨⟨⟨rfl,C⟩,D⟩,E⟩,H⟩:=b;split at H
   .rename_i J;exact(Wo A hd e C D E J h).wp u B
   .cases H
  .cases b
 case uy z X=>
  split at b
  .rename_i t qs e;exact(YC A hd e b h).wp u B
  .cases b
 case uS n ys=>
  split at b
  .rename_i t len X e;split at b
   .rename_i el J;split at b
    .rename_i i hi;split at b
     .rename_i z T;simp only[sc,beq_iff_eq,tI]at b;obtain⟨⟨⟨⟨⟨⟨C,D⟩,E⟩,H⟩,L⟩,F⟩,U⟩:=b;exact(YQ A hd e J hi T C D E H L F U h).wp u B
     .cases b
    .cases b
   .cases b
  .cases b
 case app n x y=>
  split at b
  .rename_i c e;unfold Ob at b;split at b
   .rename_i p q t Y s C D E;simp only[sc,beq_iff_eq]at b;obtain⟨⟨⟨H,L⟩,rfl⟩,F⟩:=b;split at F
    .rename_i el J;split at F
     .rename_i i hi;split at F
      .rename_i z T;simp only[sc,beq_iff_eq,tI]at F;obtain⟨⟨⟨U,V⟩,W⟩,R⟩:=F;rw[CF C (DY D) (DY E),Operand.r0 H]at e;exact(YA A hd e J hi T U V W R L h).wp u B
      .cases F
     .cases F
    .cases F
   .cases b
  .cases b
 case call f ys=>
  split at b
  .rename_i c e;split at b
   .rename_i g I;simp only[sc,beq_iff_eq]at b;obtain⟨rfl,C⟩:=b;rw[CF I rfl rfl]at e;exact Wg A hd u e C h B
   .cases b
  .cases b
 case tq x ys=>
  split at b
  .rename_i c e;split at b
   .rename_i g I;simp only[sc]at b;rw[CF I rfl rfl]at e;exact VS A hd u e b.1 b.2 h B
   .cases b
  .cases b
 case sR f cs=>
  split at b
  .rename_i g first xs e
   simp only[sc,beq_iff_eq]at b;obtain⟨⟨rfl,C⟩,D⟩:=b;rw[Array.eq_empty_of_size_eq_zero C]at e;exact(YD A hd e D h).wp u B
  .cases b
 case ext x i=>
  split at b
  .rename_i y j s e;simp only[sc,beq_iff_eq]at b;obtain⟨C,rfl⟩:=b;rw[Operand.r0 C]at e;exact(YI A hd e h).wp u B
  .cases b
 case vp k x=>
  split at b
  .rename_i s t y e;simp only[sc]at b;obtain⟨C,D⟩:=b;split at D
   .rename_i k1 k2 hs ht;simp only[beq_iff_eq]at D;subst D;exact(YH A hd e hs ht C h).wp u B
   .cases D
  .cases b
 case th x i=>
  split at b
  .rename_i t y j e;simp only[sc]at b;obtain⟨⟨C,D⟩,E⟩:=b;split at E
   .rename_i J;exact(Wm A hd e C D J h).wp u B
   .cases E
  .cases b
 case uw x=>
  split at b
  .rename_i t y e;exact(Wf A hd e b h).wp u B
  .cases b
 case uJ x=>
  split at b
  .rename_i t y e;exact(Wd A hd e b h).wp u B
  .cases b
 case mm mx x y=>
  split at b
  .rename_i c e;unfold cQ at b;split at b
   .rename_i p q C D;simp only[sc]at b;obtain⟨⟨rfl,E⟩,H⟩:=b;rw[CF C (DY D) rfl]at e;exact(T9 (mx:=true) A hd e E H h).wp u B
   .rename_i p q C D;simp only[sc,Bool.not_eq_true']at b;obtain⟨⟨rfl,E⟩,H⟩:=b;rw[CF C (DY D) rfl]at e;exact(T9 (mx:=false) A hd e E H h).wp u B
   .cases b
  .cases b
 case uV cs=>
  split at b
  .rename_i t e;split at b
   .rename_i i hi;split at b
    .rename_i z T;exact(X9 A hd e hi T b h).wp u B
    .cases b
   .cases b
  .cases b
 case st n x v=>cases M
 case uz n s v=>cases M
 case ux x k n agg=>
  split at b
  .rename_i t y f e;simp only[sc]at b;exact(Wh A hd e b.1 b.2 h).wp u B
  .cases b
 case vG s=>
  split at b
  .rename_i y e;rw[Operand.r0 b]at e;exact(TE A hd (.inl e) h).wp u B
  .rename_i y e;rw[Operand.r0 b]at e;exact(TE A hd (.inr e) h).wp u B
  .cases b
 case rel s=>
  split at b
  .rename_i y e;rw[Operand.r0 b]at e;exact(TC A hd (.inl e) h).wp u B
  .rename_i y e;rw[Operand.r0 b]at e;exact(TC A hd (.inr e) h).wp u B
  .cases b
 case uR s=>
  split at b
  .rename_i y e;rw[Operand.r0 b]at e;exact(TD A hd (.inl e) h).wp u B
  .rename_i y e;rw[Operand.r0 b]at e;exact(TD A hd (.inr e) h).wp u B
  .cases b
 case ud n=>
  split at b
  .rename_i y e;exact(Rh A hd (.inl e) (MA b) h).wp u B
  .rename_i y e;exact(Rh A hd (.inr e) (MA b) h).wp u B
  .cases b
 case uK x=>
  split at b
  .rename_i c e;unfold Od at b;split at b
   .rename_i y t C D E;simp only[sc]at b;obtain⟨H,L⟩:=b;split at L
    .rename_i el J;rw[CF C (DX D) (DX E)]at e;exact(Wp A hd e H J h).wp u B
    .cases L
    .cases L
   .cases b
  .cases b
 case vC x i n=>
  split at b
  .rename_i t y j e;simp only[sc,beq_iff_eq]at b;exact(Yh A hd e b.1.1 b.1.2 b.2 h).wp u B
  .cases b
 case xfa x k=>
  split at b
  .rename_i t y f e;simp only[sc,beq_iff_eq]at b;exact(Yg A hd e b.1 b.2 h).wp u B
  .cases b
 case vL x=>
  split at b
  .rename_i t y e;simp only[sc,beq_iff_eq]at b;exact(Yi A hd e b.1 b.2 h).wp u B
  .cases b
 case uB x v k=>cases M
 case t6 n s y=>
  split at b
  .rename_i c e;unfold Ob at b;split at b
   .rename_i p q t Y s' C D E h0;simp only[AD.s.injEq]at h0;subst h0;simp only[sc,beq_iff_eq]at b;obtain⟨⟨⟨H,L⟩,rfl⟩,F⟩:=b;split at F
    .rename_i el J;split at F
     .rename_i i hi;split at F
      .rename_i z T;simp only[sc,beq_iff_eq,tI]at F;obtain⟨⟨⟨U,V⟩,W⟩,R⟩:=F;rw[CF C (DY D) (DY E),Operand.r0 H]at e;exact(WZ A hd e J hi T U V W R L h).wp u B
      .cases F
     .cases F
    .cases F
   .cases b
  .cases b
 case tj f ys=>
  split at b
  .rename_i c e;split at b
   .rename_i g I;simp only[sc,beq_iff_eq]at b;obtain⟨rfl,C⟩:=b;rw[CF I rfl rfl]at e;exact VT A hd u e C h B
   .cases b
  .cases b
 case uv n zero x=>
  split at b
  .rename_i t y z e;simp only[sc]at b;exact(aV A hd e b.1.1 b.1.2 b.2 h).wp u B
  .cases b
 case tD f x=>
  split at b
  .rename_i c e;split at b
   .rename_i g y I ha;simp only[sc,beq_iff_eq]at b;obtain⟨rfl,C⟩:=b;rw[CF I (DX ha) rfl]at e;exact VQ A hd u e C h B
   .cases b
  .cases b
 case tF f x=>
  split at b
  .rename_i c e;split at b
   .rename_i g y I ha;simp only[sc,beq_iff_eq]at b;obtain⟨rfl,C⟩:=b;rw[CF I (DX ha) rfl]at e;exact VM A hd u e C h B
   .cases b
  .cases b
 case ub n=>
  split at b
  .rename_i t len X e;simp only[sc,beq_iff_eq,Array.isEmpty_iff]at b;obtain⟨⟨rfl,rfl⟩,C⟩:=b;exact(Wj A hd e C h).wp u B
  .cases b
 case sZ gs=>
  split at b
  .rename_i t X e;exact(Wb A hd e b h).wp u B
  .cases b
 case stx n s q=>cases M
 case vk x q=>cases M
 case lac x=>
  split at b
  .rename_i t y e;simp only[sc,beq_iff_eq]at b;exact(YL A hd e b.1 b.2 h).wp u B
  .cases b
 case vQ x=>
  split at b
  .rename_i t y e;simp only[sc,beq_iff_eq]at b;exact(YF A hd e b.1 b.2 h).wp u B
  .cases b
 case cut n s hi=>
  split at b
  .rename_i t y l hh mx e;simp only[sc,beq_iff_eq,Option.isNone_iff_eq_none]at b;obtain⟨⟨⟨⟨rfl,rfl⟩,C⟩,D⟩,E⟩:=b;rw[Operand.r0 C]at e;exact(YG A hd e D E h).wp u B
  .cases b
 case ti f ys=>
  split at b
  .rename_i c e;split at b
   .rename_i g I;simp only[sc,beq_iff_eq]at b;obtain⟨rfl,C⟩:=b;rw[CF I rfl rfl]at e;exact VP A hd u e C h B
   .cases b
  .cases b
 case tg f ys i=>
  split at b
  .rename_i c e;split at b
   .rename_i g I;simp only[sc,beq_iff_eq]at b;obtain⟨rfl,C⟩:=b;rw[CF I rfl rfl]at e;exact VL A hd u e C h B
   .cases b
  .cases b
 case tM f ys=>
  split at b
  .rename_i c e;split at b
   .rename_i g I;simp only[sc,beq_iff_eq]at b;obtain⟨rfl,C⟩:=b;rw[CF I rfl rfl]at e;exact(VN A hd e C h).wp u B
   .cases b
  .cases b
 case ue n s z x=>
  split at b
  .rename_i c e;unfold V6 at b;split at b
   .rename_i p q t Y C D E;simp only[sc]at b;obtain⟨⟨H,L⟩,F⟩:=b;split at F
    .rename_i el kn J hu';split at F
     .rename_i i hi;split at F
      .rename_i zz T;split at F
       .rename_i z0 hz0;simp only[sc,beq_iff_eq,tI]at F;obtain⟨⟨⟨⟨rfl,U⟩,V⟩,W⟩,R⟩:=F;rw[CF C (DY D) (DY E),Operand.isTmp_eq' H]at e;exact(Wa A hd e J hu' hi T U V (DX hz0) W R L h).wp u B
       .cases F
      .cases F
     .cases F
    .cases F
   .cases b
  .cases b
 case uc X x=>
  split at b
  .rename_i t y e;exact(We A hd e b h).wp u B
  .cases b
 case tN f ys=>
  split at b
  .rename_i c e;split at b
   .rename_i g I;simp only[sc,beq_iff_eq]at b;obtain⟨rfl,C⟩:=b;rw[CF I rfl rfl]at e;exact VO A hd u e C h B
   .cases b
  .cases b
 case tw f ys=>
  split at b
  .rename_i c e;split at b
   .rename_i g I;simp only[sc,beq_iff_eq]at b;obtain⟨rfl,C⟩:=b;rw[CF I rfl rfl]at e;exact Td A hd u e C h B
   .cases b
  .cases b
 case vn x=>
  split at b
  .rename_i op t y z Y e;simp only[sc,beq_iff_eq]at b;obtain⟨⟨⟨rfl,C⟩,D⟩,E⟩:=b;exact(YK A hd e C D E h).wp u B
  .cases b
 case ut q=>
  split at b
  .rename_i t len X e;split at b
   .rename_i x hps;simp only[sc]at b;rw[DX hps]at e;exact(Wi A hd e b.1 b.2 h).wp u B
   .cases b
  .cases b
 case tK s q=>
  split at b
  .rename_i c e;unfold Ob at b;split at b
   .rename_i p q' t Y s' C D E H;simp only[AD.s.injEq]at H;subst H;simp only[sc,beq_iff_eq]at b;obtain⟨⟨⟨H,L⟩,rfl⟩,F⟩:=b;split at F
    .rename_i el J;split at F
     .rename_i i hi;split at F
      .rename_i z T;simp only[sc,beq_iff_eq,tI]at F;obtain⟨⟨⟨U,V⟩,W⟩,R⟩:=F;have hq:q'=.tmp q:=by
        cases q'<;>simp[AG]at L;rw[L]
       rw [CF C (DY D) (DY E),Operand.r0 H,hq]at e;exact(WY A hd e J hi T U V W h).wp u B
      .cases F
     .cases F
    .cases F
   .cases b
  .cases b
 case vq x=>
  split at b
  .rename_i t y e;simp only[sc,beq_iff_eq]at b;exact(YM A hd e b.1 b.2 h).wp u B
  .cases b
 case uQ x i=>
  split at b
  .rename_i t y j e;simp only[sc,beq_iff_eq]at b;exact(YZ A hd e b.1.1 b.1.2 b.2 h).wp u B
  .cases b
 case vw x=>
  split at b
  .rename_i t y e;simp only[sc,beq_iff_eq]at b;exact(Ya A hd e b.1 b.2 h).wp u B
  .cases b
 case uU x v=>cases M
 case uL q=>
  split at b
  .rename_i t y e;exact(Wc A hd e b h).wp u B
  .cases b
 case tG f ys i=>
  split at b
  .rename_i c e;split at b
   .rename_i g I;simp only[sc,beq_iff_eq]at b;obtain⟨rfl,C⟩:=b;rw[CF I rfl rfl]at e;exact VK A hd u e C h B
   .cases b
  .cases b
 case uT=>
  split at b
  .rename_i t r e;cases r with
   |none=>exact(YS A hd e h).wp u B|some r=>cases b
  .cases b
 case vh s=>
  split at b
  .rename_i y e;rw[Operand.r0 b]at e;exact(TB A hd (.inl e) h).wp u B
  .rename_i y e;rw[Operand.r0 b]at e;exact(TB A hd (.inr e) h).wp u B
  .cases b
 case tB f ys=>
  split at b
  .rename_i c e;split at b
   .rename_i g I;simp only[sc,beq_iff_eq]at b;obtain⟨rfl,C⟩:=b;rw[CF I rfl rfl]at e;exact VR A hd u e C h B
   .cases b
  .cases b
 case vI s m x=>
  split at b
  .rename_i t y z c e;simp only[sc]at b;obtain⟨⟨⟨rfl,C⟩,D⟩,E⟩:=b;exact(YU A hd e C D E h).wp u B
  .cases b
 case vf s m x v=>cases M
 case vj n X x v=>cases M
 case vO s n=>
  split at b
  .rename_i t y e;simp only[sc,beq_iff_eq]at b;rw[Operand.r0 b.1.1]at e;exact(YN A hd e b.1.2 b.2 h).wp u B
  .cases b
 case su s m=>
  split at b
  .rename_i t y e;simp only[sc]at b;obtain⟨C,D⟩:=b;split at D
   .rename_i k el J;exact(YW A hd e C J h).wp u B
   .cases D
  .cases b
 case vB s=>
  split at b
  .rename_i y c e;simp only[sc,Bool.not_eq_true']at b;obtain⟨rfl,C⟩:=b;rw[Operand.r0 C]at e;exact(YV A hd e h).wp u B
  .cases b
 case vu s=>
  split at b
  .rename_i y e;rw[Operand.r0 b]at e;exact(YR A hd e h).wp u B
  .cases b
end
end Go.Sf
namespace Go.Sf
open Go.RowKit (Below)
def Oc(ops:Array Oper)(o:Oper)(r:PR):Bool:=
 match r.guard,o.guard with
 |none,none=>true|some (g,b),some (j,b')=>b==b'&&((ops[j]?).bind (·.dst))==some g|_,_=>false
def Ie(P:Program)(N:Nat)(ops:Array Oper)(o:Oper)(r:PR):Bool:=
 Oc ops o r&&(match o.dst,r.dst with
 |some d,some d'=>d==d'&&decide (d<N)&&!I8 r.op&&Kq P o.op r.op|none,none=>I8 r.op&&Kq P o.op r.op|_,_=>false)
section
variable{P:Program}{F0:Nat->Nat->Prop}{w0:W0}{O:AA}{a:Act}{w:World}{ops:Array Oper}{o:Oper}{r:PR}{N:Nat}{p:Option (Nat×Value)}{K:AA->Prop}{next:Act->World->Prop}{Q:Exit->Act->World->Prop}
theorem BM.skip(b:BM F0 w0 O a w){d:Nat}(hd:d<a.tmps.size):BM F0 w0 ((d,.sk)::O) (a.put (some d) undef) w:=by
 obtain ⟨G,h⟩:=b;exact⟨_,h.quiet (Below.refl _ _) d hd .sk undef (fun _=>none) (by simp) (by simp) (by simp) rfl trivial⟩
theorem JK{o:Oper}(b:o.dst=none){K:EV->AA->Prop}(h:E2 P F0 w0 a w o K)(e:∀env' w',K .undef env'->BM F0 w0 env' a w'->next a w'):o.wp P a w next Q:=by
 obtain ⟨w',c,env',f,g⟩:=h;unfold Oper.wp;rw[c,Oper.upon_skip,b];exact e _ _ f g
theorem dP{S:FuncId->Fq->Ap->Prop}{n s:Nat}{v:AD}{d:Option Nat}{O:AA}{K:EV->AA->Prop}(h:(AC.uz n s v).wp S O d K):(AC.st n (.s s) v).wp S O d K:=by
 simp [AC.wp]at h|-
 grind [AD.place]
theorem PH(f:BM F0 w0 O a w)(D:Hl N p a)(M:∀i v,p=some (i,v)->r.dst≠some i)(R:Ie P N ops o r=true)(h:r.wp (AJ P) O K)
  (E:∀env' a' w',K env'->Hl N p a'->BM F0 w0 env' a' w'->next a' w'):
  if Region.wanted o (yielded ops a.tmps)then o.wp P a w next Q else next (a.put o.dst undef) w:=by
 simp [Ie]at R;obtain⟨J,hd⟩:=R;have T:r.op.wp (AJ P) O r.dst (fun e env'=>K (env'.put r.dst e))->o.wp P a w next Q:=by
  intro A;obtain⟨G,f⟩:=f;cases ho:o.dst with
  |some d=>
   cases B:r.dst with
   |none=>rw[ho,B]at hd;cases hd
   |some d'=>
    rw [ho,B]at hd;simp[tI,Bool.not_eq_true']at hd;obtain⟨⟨⟨rfl,I⟩,L⟩,c⟩:=hd;rw[B]at A;exact Xg f (D.size▸I) ho c L A fun e env' a' w' k l k3=>E _ a' w' k (D.put (fun i v X=>by rw[<-B];exact M i v X) l) k3
  |none=>
   cases B:r.dst with
   |some d'=>rw[ho,B]at hd;cases hd
   |none=>
    rw [ho,B]at hd;rw[B]at A;simp at hd;obtain⟨L,c⟩:=hd;generalize X:r.op=p at A L c;cases p<;>simp[I8]at L<;>first|cases L|skip
    .rename_i n x v;simp[Kq]at c;split at c
     .rename_i t y u e;simp at c;exact JK ho (UB f e c.1.1 c.1.2 c.2 A) fun env' w' k l=>E env' a w' k D l
     .cases c
    .rename_i n s v;simp[Kq]at c;split at c
     .rename_i t y u e;simp at c;rw[Operand.r0 c.1.1]at e;exact JK ho (UB f e (x':=.s s) (by simp[AG]) c.1.2 c.2 (dP A)) fun env' w' k l=>E env' a w' k D l
     .cases c
    .rename_i x v;simp[Kq]at c;split at c
     .rename_i t y u e;simp at c;exact JK ho (Yj f e c.1.1 c.1.2 c.2 A) fun env' w' k l=>E env' a w' k D l
     .cases c
    .rename_i n x q;simp[Kq]at c;split at c
     .rename_i t y u e;simp at c;exact JK ho (Yf f e c.1.1 c.1.2 c.2 A) fun env' w' k l=>E env' a w' k D l
     .cases c
    .rename_i x q;simp[Kq]at c;split at c
     .rename_i t y u e;simp at c;exact JK ho (YE f e c.1.1 c.1.2 c.2 A) fun env' w' k l=>E env' a w' k D l
     .cases c
    .rename_i x v;simp[Kq]at c;split at c
     .rename_i t y u e;simp at c;exact JK ho (Yc f e c.1.1 c.1.2 c.2 A) fun env' w' k l=>E env' a w' k D l
     .cases c
    .rename_i n ps x v;simp[Kq]at c;split at c
     .rename_i t y u e;simp at c;exact JK ho (Ye f e c.1.1 c.1.2 c.2 A) fun env' w' k l=>E env' a w' k D l
     .cases c
    .rename_i s m x v;simp[Kq]at c;split at c
     .rename_i t y z u e;simp at c;exact JK ho (YX f e c.1.1.1 c.1.1.2 c.1.2 c.2 A) fun env' w' k l=>E env' a w' k D l
     .cases c
 have U:K (O.put r.dst .sk)->next (a.put o.dst undef) w:=by
  intro Y;cases ho:o.dst with
  |some d=>
   cases B:r.dst with
   |none=>rw[ho,B]at hd;cases hd
   |some d'=>
    rw [ho,B]at hd;simp[tI,Bool.not_eq_true']at hd;obtain⟨⟨⟨rfl,I⟩,L⟩,c⟩:=hd;rw[B]at Y;exact E _ _ _ Y (D.put (fun i v X=>by rw[<-B];exact M i v X) ⟨_,rfl⟩) (f.skip (D.size▸I))
  |none=>
   cases B:r.dst with
   |some d'=>rw[ho,B]at hd;cases hd
   |none=>rw[B]at Y;exact E _ _ _ Y D f
 unfold PR.wp at h;cases F:r.guard with
 |none=>
  rw [F]at h;cases C:o.guard with
  |none=>rw[ae (by simp[Region.wanted,C])];exact T h|some g=>rw[Oc,F,C]at J;cases J
 |some gb=>
  obtain ⟨g,b⟩:=gb;rw[F]at h;cases C:o.guard with
  |none=>rw[Oc,F,C]at J;cases J
  |some jb=>
   obtain ⟨j,b'⟩:=jb;rw[Oc,F,C]at J;simp at J;obtain⟨rfl,hj⟩:=J;simp only at h;split at h
   .rename_i q S;have hv:slot a g=.bool q:=by
     obtain ⟨G,f⟩:=f;have:=AS f S (by simp);simpa only[AH,AX]using this
    have H:g<a.tmps.size:=by
     obtain ⟨G,f⟩:=f;exact BD f S (by simp)
    have Z:yielded ops a.tmps j=some q:=by
     have I:a.tmps[g]?=some (.bool q):=by
      rw [slot,Array.getD_eq_getD_getElem?,Array.getElem?_eq_getElem H]at hv;rw[Array.getElem?_eq_getElem H];simpa using hv
     simp [yielded,hj,I]
    have A:Region.wanted o (yielded ops a.tmps)=(q==b):=by
     simp only[Region.wanted,C,Z];cases q<;>cases b<;>rfl
    rw [A];by_cases V:q=b
    .subst V;rw[ae (by simp)];exact T (h.1 rfl)
    .have W:q=!b:=by cases q<;>cases b<;>simp_all
     rw [az (by simpa using V)];exact U (h.2 W)
   .rename_i S;have hv:slot a g=undef:=by
     obtain ⟨G,f⟩:=f;have:=AS f S (by simp);simpa only[AH]using this
    have H:g<a.tmps.size:=by
     obtain ⟨G,f⟩:=f;exact BD f S (by simp)
    have Z:yielded ops a.tmps j=none:=by
     have I:a.tmps[g]?=some undef:=by
      rw [slot,Array.getD_eq_getD_getElem?,Array.getElem?_eq_getElem H]at hv;rw[Array.getElem?_eq_getElem H];simpa using hv
     simp [yielded,hj,I,undef]
    have A:Region.wanted o (yielded ops a.tmps)=false:=by
     simp only[Region.wanted,C,Z];cases b<;>rfl
    rw [A];exact U h
   .exact h.elim
def NJ:List PR->Bool
 |[]=>true|r::rs=>(match r.op,r.dst,r.guard with|.vo _,none,none=>true|_,_,_=>false)&&NJ rs
variable{rs:List PR}
theorem Zp:∀{O:AA},NJ rs=true->wpOps (AJ P) K rs O->BM F0 w0 O a w->∃env',K env'/\BM F0 w0 env' a w:=by
 induction rs with
 |nil=>intro O _ h b;exact⟨O,h,b⟩|cons r rs l=>
  intro O c h b;simp[NJ]at c;obtain⟨e,k⟩:=c;split at e
  .rename_i s f g i;simp[wpOps,PR.wp,f,g,i,AC.wp]at h;split at h
   .rename_i cs j;obtain⟨G,b⟩:=b;exact l k h (b.vo j)
   .exact h.elim
  .cases e
def Ik(P:Program)(N:Nat)(ops:Array Oper):List Oper->List PR->Bool
 |[],rs=>NJ rs|o::os,r::rs=>Ie P N ops o r&&Ik P N ops os rs|_::_,[]=>false
theorem QA(m:∀O a w,K O->Hl N p a->BM F0 w0 O a w->Q .normal a w):∀(os:List Oper)(rs:List PR)(k:Nat),ops.toList.drop k=os->Ik P N ops os rs=true->(∀i v,p=some (i,v)->∀r∈rs,r.dst≠some i)->∀(O:AA)(a:Act)(w:World),Hl N p a->BM F0 w0 O a w ->
  wpOps (AJ P) K rs O->Go.wpOps P ops Q (List.range' k os.length) a w
 |[],rs,k,_,b,_,O,a,w,g,j,h=>by
  obtain ⟨env',z,A⟩:=Zp b h j;exact m env' a w z g A
 |o::os,[],k,_,b,_,_,_,_,_,_,_=>by simp[Ik]at b|o::os,r::rs,k,hd,b,c,O,a,w,g,j,h=>by
  simp [Ik]at b;have y:ops[k]?=some o:=by
   rw [<-Array.getElem?_toList];have:=congrArg (fun l=>l[0]?) hd
   grind
  have f:ops.toList.drop (k+1)=os:=by
   grind [List.tail,List.tail_drop]
  simp [List.range'_succ];rw[Go.wpOps_cons];unfold Go.wpOp;rw[y];simp;have:=PH (Q:=Q) (next:=Go.wpOps P ops Q (List.range' (k+1) os.length)) j g (fun i v e=>c i v e r (by simp)) b.1 h fun env' a' w' q s t=>QA m os rs (k+1) f b.2 (fun i v e r u=>c i v e r (by simp[u])) env' a' w' s t q
  grind
theorem S1{id:Nat}(b:Ik P N ops ops.toList rs=true)(c:∀i v,p=some (i,v)->∀r∈rs,r.dst≠some i)(e:Hl N p a)(f:BM F0 w0 O a w)(h:wpOps (AJ P) K rs O)
  (g:∀O a w,K O->Hl N p a->BM F0 w0 O a w->Q .normal a w):(Code.region id ops false).wp P Q a w:=by
 refine Go.wp_region ?_;rw[List.range_eq_range',<-Array.length_toList];exact QA g ops.toList rs 0 rfl b c O a w e f h
end
end Go.Sf
