/- One operation against the checker, and regions in the text's order. -/
import Derived.Test.YthhobbgaejimgaaGreatDoorSfN
import Derived.Orders
set_option linter.all false
namespace Go.Sf
open Go.RowKit (Below)
def Operand.r0(n:Nat):Operand->Bool
 |.tmp m=>m==n|_=>false
variable{n:Nat}{x:Operand}
theorem Operand.qo(h:Operand.r0 n x=true):x=.tmp n:=by
 cases x<;>simp[Operand.r0]at h;rw[h]
def Pw:Operand->Bool
 |.const v=>H3 v|_=>false
theorem LF(h:Pw x=true):∃v,x=.const v/\H3 v=true:=by
 cases x<;>simp[Pw]at h;exact⟨_,rfl,h⟩
def OX(P:Program)(str:Bool)(c:Call)(x:AD):Bool:=
 match c.callee,c.args.toList,c.argTypes.toList with
 |.builtin .len,[y],[t]=>AF y x&&(match P.underlying t with|some (.slice _)=>!str|some .string=>str|_=>false)
 |_,_,_=>false
def OV(P:Program)(n:Nat)(c:Call)(x y:AD):Bool:=
 match c.callee,c.args.toList,c.argTypes.toList,x with
 |.builtin .append,[p,q],[t,t'],.s s=>Operand.r0 s p&&AF q y&&t==t'&&(match P.underlying t with
  |some (.slice e)=>(match P.info? e with
   |some i=>(match i.zero with|some z=>i.size==n&&decide (i.bytes<=4096)&&z.cells.size==n&&decide (0<n)|none=>false)
   |none=>false)
  |_=>false)
 |_,_,_,_=>false
def dQ(mx:Bool)(c:Call)(x y:AD):Bool:=
 match c.callee,c.args.toList with
 |.builtin .max,[p,q]=>mx&&AF p x&&AF q y|.builtin .min,[p,q]=>!mx&&AF p x&&AF q y|_,_=>false
def KD(P:Program)(o:Op):AC->Bool
 |.mv x=>match o with|.move y|.assign y=>AF y x|_=>false
 |.tk s=>match o with|.move y|.assign y=>Operand.r0 s y|_=>false
 |.tE _=>match o with|.move y|.assign y=>Pw y|_=>false
 |.r9 x k=>match o with|.fieldAddr t y f=>AF y x&&Jy P t f==some k|.move y|.assign y|.nilCheck y=>k==0&&AF y x|_=>false
 |.bad s k=>match o with|.indexAddr t y j=>Operand.r0 s y&&Uw P t j k|.fieldAddr t y f=>Operand.r0 s y&&Jy P t f==some k|.move y|.assign y|.nilCheck y=>k==0&&Operand.r0 s y|_=>false
 |.tH x i n=>match o with|.indexAddr t y j=>AF y x&&AF j i&&Fy P t==some n|_=>false
 |.aad x i n k=>match o with|.indexAddr t y j=>AF y x&&AF j i&&(match P.underlying t with|some (.array k' e)=>k'==k&&B6 P e==some n|_=>false)|_=>false
 |.ld x=>match o with|.load t y=>AF y x&&BQ P t==some false|_=>false
 |.uN x k=>match o with|.fieldAddr t y f=>AF y x&&Jy P t f==some k|_=>false
 |.uL x n=>match o with|.load t y=>AF y x&&BQ P t==some true&&B6 P t==some n|_=>false
 |.tD x n=>match o with|.load t y=>AF y x&&BQ P t==some true&&B6 P t==some n|_=>false
 |.uQ s n=>match o with|.load t y=>AF y (.s s)&&BQ P t==some true&&B6 P t==some n|_=>false
 |.ldt x=>match o with|.load t y=>AF y x&&BQ P t==some false|_=>false
 |.bin k op x y=>match o with|.binOp op' t p q _=>op'==op&&Ir P k t&&AF p x&&AF q y|_=>false
 |.not x=>match o with|.unOp op _ y=>op==.not&&AF y x|_=>false
 |.neg x=>match o with|.unOp op _ y=>op==.neg&&AF y x|_=>false
 |.pick c x y=>match o with|.pick c' p q=>AF c' c&&AF p x&&AF q y|_=>false
 |.len x=>match o with|.call c=>OX P false c x|_=>false
 |.tS x=>match o with|.call c=>OX P true c x|_=>false
 |.sM n x lo hi=>match o with|.slice t y l h mx=>mx.isNone&&AF y x&&It l lo&&It h hi&&Fy P t==some n|_=>false
 |.rB x lo hi=>match o with|.slice t y l h mx=>mx.isNone&&AF y x&&It l lo&&It h hi&&(match P.underlying t with|some .string=>true|_=>false)|_=>false
 |.tn z ps=>match o with|.build t qs=>Ux P t z qs.toList ps|_=>false
 |.uc n ys=>match o with
  |.buildSlice t len ps=>(match P.underlying t with
   |some (.slice e)=>(match P.info? e with
    |some i=>(match i.zero with
     |some z=>i.size==n&&decide (0<n)&&z.cells.toList.all Value.oneCell'&&decide (0<z.cells.size)&&len==ps.size&&decide (len*n<=2^ 24)&&MV 0 ps.toList ys|none=>false)
    |none=>false)
   |_=>false)
  |_=>false
 |.app n x y=>match o with|.call c=>OV P n c x y|_=>false
 |.call f ys=>match o with|.call c=>(match c.callee with|.value (.func g)=>g==f&&BA c.args.toList ys|_=>false)|_=>false
 |.sj x ys=>match o with|.call c=>(match c.callee with|.value g=>AF g x&&BA c.args.toList ys|_=>false)|_=>false
 |.r6 f cs=>match o with|.makeFunc (.func g) first xs=>g==f&&first.size==0&&BA xs.toList cs|_=>false
 |.ext x i=>match o,x with|.extract y j,.s s=>Operand.r0 s y&&j==i|_,_=>false
 |.uj k x=>match o with|.convert s t y=>AF y x&&(match P.underlying s,P.underlying t with|some (.int _),some (.int k')=>k'==k|_,_=>false)|_=>false
 |.rx x i=>match o with|.index t y j=>AF y x&&AF j i&&(match P.underlying t with|some .string=>true|_=>false)|_=>false
 |.tz x=>match o with|.box _ y=>AF y x|_=>false
 |.tI x=>match o with|.box _ y=>AF y x|_=>false
 |.mm mx x y=>match o with|.call c=>dQ mx c x y|_=>false
 |.ud cs=>match o with|.alloc t=>(match P.info? t with|some i=>(match i.zero with|some z=>JU cs z.cells.toList|none=>false)|none=>false)|_=>false
 |.st n x v=>match o with|.store t y u=>AF y x&&AF u v&&B6 P t==some n|_=>false
 |.tC n s v=>match o with|.store t y u=>Operand.r0 s y&&AF u v&&B6 P t==some n|_=>false
 |.uu _=>false|.tN x k n agg=>match o with|.field t y f=>AF y x&&Uy P t f k n agg|_=>false
 |.uD s=>match o with|.move y|.assign y=>Operand.r0 s y|_=>false
 |.tQ x=>match o with|.call c=>OX P false c x|_=>false
 |.uE x i n=>match o with|.indexAddr t y j=>AF y x&&AF j i&&Fy P t==some n|_=>false
 |.xfa x k=>match o with|.fieldAddr t y f=>AF y x&&Jy P t f==some k|_=>false
 |.uM x=>match o with|.load t y=>AF y x&&BQ P t==some false|_=>false
 |.tF x v k=>match o with|.store t y u=>AF y x&&AF u v&&B6 P t==some k|_=>false
 |.rel s=>match o with|.move y|.assign y=>Operand.r0 s y|_=>false
 |.tf _=>match o with|.move y|.assign y=>Pw y|_=>false
 |.tW s=>match o with|.move y|.assign y=>Operand.r0 s y|_=>false
 |.sW n s y=>match o with|.call c=>OV P n c (.s s) y|_=>false
 |.sf f ys=>match o with|.call c=>(match c.callee with|.value (.func g)=>g==f&&BA c.args.toList ys|_=>false)|_=>false
 |.tR n zero x=>match o with|.makeSlice t y z=>AF y x&&AF z x&&Xn P t n zero|_=>false
 |.sw f x=>match o with|.call c=>(match c.callee,c.args.toList with|.value (.func g),[y]=>g==f&&AF y x|_,_=>false)|_=>false
 |.sr f x=>match o with|.call c=>(match c.callee,c.args.toList with|.value (.func g),[y]=>g==f&&AF y x|_,_=>false)|_=>false
 |.tc n=>match o with|.buildSlice t len ps=>len==0&&ps.isEmpty&&SP P t n|_=>false
 |.r8 gs=>match o with|.build t ps=>SN P t ps.toList gs|_=>false
 |.stx n s q=>match o with|.store t y u=>AF y (.s s)&&AF u (.s q)&&B6 P t==some n|_=>false
 |.sI f ys=>match o with|.call c=>(match c.callee with|.value (.func g)=>g==f&&BA c.args.toList ys|_=>false)|_=>false
 |.sn f ys=>match o with|.call c=>(match c.callee with|.value (.func g)=>g==f&&BA c.args.toList ys|_=>false)|_=>false
 |.um x=>match o with|.binOp op t y z _=>op==.eql&&AF y x&&Lo z&&Ra P t|_=>false
 |.lac x=>match o with|.load t y=>AF y x&&BQ P t==some false|_=>false
 |.uT x=>match o with|.load t y=>AF y x&&BQ P t==some false|_=>false
 |.ur x q=>match o with|.store t y u=>AF y x&&AF u (.s q)&&B6 P t==some 1|_=>false
 |.cut n s hi=>match o with|.slice t y l (some h) mx=>mx.isNone&&l.isNone&&Operand.r0 s y&&AF h hi&&Fy P t==some n|_=>false
 |.rK f ys=>match o with|.call c=>(match c.callee with|.value (.func g)=>g==f&&BA c.args.toList ys|_=>false)|_=>false
 |.ta _ x=>match o with|.box _ y=>AF y x|_=>false
 |.sG f ys=>match o with|.call c=>(match c.callee with|.value (.func g)=>g==f&&BA c.args.toList ys|_=>false)|_=>false
 |.s9 n s z x=>match o with|.call c=>WB P n s z x c|_=>false
 |.rJ f ys _=>match o with|.call c=>(match c.callee with|.value (.func g)=>g==f&&BA c.args.toList ys|_=>false)|_=>false
 |.tA q=>match o with|.buildSlice t len ps=>(match len,ps.toList with|1,[(0,x)]=>SO P t&&AF x (.s q)|_,_=>false)|_=>false
 |.sE s q=>match o with|.call c=>OV P 1 c (.s s) (.s q)|_=>false
 |.ux x=>match o with|.load t y=>AF y x&&BQ P t==some false|_=>false
 |.tY x i=>match o with|.indexAddr t y j=>AF y x&&AF j i&&Fy P t==some 1|_=>false
 |.uw x=>match o with|.load t y=>AF y x&&BQ P t==some false|_=>false
 |.tX x v=>match o with|.store t y u=>AF y x&&AF u v&&B6 P t==some 1|_=>false
 |.tO q=>match o with|.box _ y=>AF y (.s q)|_=>false
 |.sx f ys _=>match o with|.call c=>(match c.callee with|.value (.func g)=>g==f&&BA c.args.toList ys|_=>false)|_=>false
 |.uO s n=>match o with|.load t y=>Operand.r0 s y&&BQ P t==some true&&B6 P t==some n|_=>false
 |.uq n _ x v=>match o with|.store t y u=>AF y x&&AF u v&&B6 P t==some n|_=>false
 |.tZ=>match o with|.makeMap _ r=>r.isNone|_=>false
 |.uo s=>match o with|.move y|.assign y=>Operand.r0 s y|_=>false
 |.sA f ys=>match o with|.call c=>(match c.callee with|.value (.func g)=>g==f&&BA c.args.toList ys|_=>false)|_=>false
 |.uK _ m x=>match o with|.lookup t y z c=>c&&J5 P t&&AF y m&&AF z x|_=>false
 |.ul _ m x v=>match o with|.mapUpdate t y z u=>J5 P t&&AF y m&&AF z x&&AF u v|_=>false
 |.rm _ m=>match o with|.range t y=>AF y m&&(match P.underlying t with|some (.map _ _)=>true|_=>false)|_=>false
 |.uA s=>match o with|.next y c=>!c&&Operand.r0 s y|_=>false
 |.ut s=>match o with|.entry y=>Operand.r0 s y|_=>false
def IS:AC->Bool
 |.st ..=>true|.tC ..=>true|.tF ..=>true|.stx ..=>true|.ur ..=>true|.tX ..=>true|.ul ..=>true|.uq ..=>true|_=>false
section
variable{P:Program}{F0:Nat->Nat->Prop}{w0:W0}{O:AA}{a:Act}{w:World}{G:A2}{d:Nat}{o:Oper}{K:EV->AA->Prop}
theorem Am.wp(h:Am P F0 w0 a w o d K)(b:o.dst=some d){next:Act->World->Prop}{Q:Exit->Act->World->Prop}(f:∀e env' a' w',K e env'->Kj a d a'->BN F0 w0 ((d,e)::env') a' w'->next a' w'):o.wp P a w next Q:=by
 obtain ⟨v,w',c,e,env',g,i⟩:=h;unfold Oper.wp;rw[c,Oper.upon_value,b];exact f e env' _ w' g ⟨_,rfl⟩ i
variable{α:Type}
theorem DV{a:Array α}{x:α}(h:a.toList=[x]):a=#[x]:=by
 cases a;simp_all
theorem DW{a:Array α}{x y:α}(h:a.toList=[x,y]):a=#[x,y]:=by
 cases a;simp_all
theorem CF{c:Call}{b:Callee}{e:Array Operand}{f:Array TypeId}(g:c.callee=b)(h:c.args=e)(i:c.argTypes=f):c={callee:=b,args:=e,argTypes:=f}:=by
 cases c;simp_all
theorem Xo(A:AK F0 w0 O a w G)(hd:d<a.tmps.size)(u:o.dst=some d){p:AC}(b:KD P o.op p=true)(M:IS p=false)(h:p.wp (AI P) O (some d) K)
  {next:Act->World->Prop}{Q:Exit->Act->World->Prop}(B:∀e env' a' w',K e env'->Kj a d a'->BN F0 w0 ((d,e)::env') a' w'->next a' w'):o.wp P a w next Q:=by
 cases p<;>simp only[KD]at b<;>try(exact absurd b Bool.false_ne_true)
 case mv x=>
  split at b
  .rename_i y e;exact(T4 A hd (.inl e) b h).wp u B
  .rename_i y e;exact(T4 A hd (.inr e) b h).wp u B
  .cases b
 case tk s=>
  split at b
  .rename_i y e;rw[Operand.qo b]at e;exact(T6 A hd (.inl e) h).wp u B
  .rename_i y e;rw[Operand.qo b]at e;exact(T6 A hd (.inr e) h).wp u B
  .cases b
 case tE n=>
  split at b
  .rename_i y e;exact(RG A hd (.inl e) (LF b) h).wp u B
  .rename_i y e;exact(RG A hd (.inr e) (LF b) h).wp u B
  .cases b
 case r9 x k=>
  split at b
  .rename_i t y f e;simp only[q8,beq_iff_eq]at b;exact(Ky A hd (QX e b.2) b.1 h).wp u B
  .rename_i y e;simp only[q8,beq_iff_eq]at b;obtain⟨rfl,b⟩:=b;exact(Ky A hd (Kf (.inl e)) b h).wp u B
  .rename_i y e;simp only[q8,beq_iff_eq]at b;obtain⟨rfl,b⟩:=b;exact(Ky A hd (Kf (.inr (.inl e))) b h).wp u B
  .rename_i y e;simp only[q8,beq_iff_eq]at b;obtain⟨rfl,b⟩:=b;exact(Ky A hd (Kf (.inr (.inr e))) b h).wp u B
  .cases b
 case bad s k=>
  split at b
  .rename_i t y j e;simp only[q8]at b;rw[Operand.qo b.1]at e;exact(Kx A hd (Zu e b.2) h).wp u B
  .rename_i t y f e;simp only[q8,beq_iff_eq]at b;rw[Operand.qo b.1]at e;exact(Kx A hd (QX e b.2) h).wp u B
  .rename_i y e;simp only[q8,beq_iff_eq]at b;obtain⟨rfl,b⟩:=b;rw[Operand.qo b]at e;exact(Kx A hd (Kf (.inl e)) h).wp u B
  .rename_i y e;simp only[q8,beq_iff_eq]at b;obtain⟨rfl,b⟩:=b;rw[Operand.qo b]at e;exact(Kx A hd (Kf (.inr (.inl e))) h).wp u B
  .rename_i y e;simp only[q8,beq_iff_eq]at b;obtain⟨rfl,b⟩:=b;rw[Operand.qo b]at e;exact(Kx A hd (Kf (.inr (.inr e))) h).wp u B
  .cases b
 case tH x i n=>
  split at b
  .rename_i t y j e;simp only[q8,beq_iff_eq]at b;exact(YP A hd e b.1.1 b.1.2 b.2 h).wp u B
  .cases b
 case aad x i n k=>
  split at b
  .rename_i t y j e;simp only[q8]at b;obtain⟨⟨C,D⟩,E⟩:=b;split at E
   .rename_i k' el J;simp only[q8,beq_iff_eq]at E;obtain⟨rfl,H⟩:=E;exact(YE A hd e C D J H h).wp u B
   .cases E
  .cases b
 case ld x=>
  split at b
  .rename_i t y e;simp only[q8,beq_iff_eq]at b;exact(bL A hd e b.1 b.2 h).wp u B
  .cases b
 case uN x k=>
  split at b
  .rename_i t y f e;simp only[q8,beq_iff_eq]at b;refine(Ky (S:=AI P) A hd (QX e b.2) b.1 ?_).wp u B;simp only[AC.wp]at h|-;split at h
   .rename_i row Z;rw[W6 A Z];exact h
   .exact h.elim
  .cases b
 case uL x n=>
  split at b
  .rename_i t y e;simp only[q8,beq_iff_eq]at b;refine(PN (S:=AI P) A hd e b.1.1 b.1.2 b.2 ?_).wp u B;simp only[AC.wp]at h|-;split at h
   .rename_i row Z;rw[W6 A Z];exact h
   .exact h.elim
  .cases b
 case tD x n=>
  split at b
  .rename_i t y e;simp only[q8,beq_iff_eq]at b;exact(PN A hd e b.1.1 b.1.2 b.2 h).wp u B
  .cases b
 case uQ s n=>
  split at b
  .rename_i t y e;simp only[q8,beq_iff_eq]at b;refine(PN (S:=AI P) A hd e b.1.1 b.1.2 b.2 (y:=.s s) ?_).wp u B;simp only[AC.wp]at h|-;split at h
   .rename_i cs I;simp only[AD.ev,I,At,AP];exact h
   .exact h.elim
  .cases b
 case ldt x=>
  split at b
  .rename_i t y e;simp only[q8,beq_iff_eq]at b;exact(YU A hd e b.1 b.2 h).wp u B
  .cases b
 case bin k op x y=>
  split at b
  .rename_i op' t p q Y e;simp only[q8,beq_iff_eq]at b;obtain⟨⟨⟨rfl,C⟩,D⟩,E⟩:=b;exact(YH A hd e C D E h).wp u B
  .cases b
 case not x=>
  split at b
  .rename_i op t y e;simp only[q8,beq_iff_eq]at b;obtain⟨rfl,C⟩:=b;exact(Yh A hd e C h).wp u B
  .cases b
 case neg x=>
  split at b
  .rename_i op t y e;simp only[q8,beq_iff_eq]at b;obtain⟨rfl,C⟩:=b;exact(Ye A hd e C h).wp u B
  .cases b
 case pick c x y=>
  split at b
  .rename_i c' p q e;simp only[q8]at b;exact(Ww A hd e b.1.1 b.1.2 b.2 h).wp u B
  .cases b
 case len x=>
  split at b
  .rename_i c e;unfold OX at b;split at b
   .rename_i y t C D E;simp only[q8]at b;obtain⟨H,L⟩:=b;split at L
    .rename_i el J;rw[CF C (DV D) (DV E)]at e;exact(YV A hd e H J h).wp u B
    .cases L
    .cases L
   .cases b
  .cases b
 case tS x=>
  split at b
  .rename_i c e;unfold OX at b;split at b
   .rename_i y t C D E;simp only[q8]at b;obtain⟨H,L⟩:=b;split at L
    .cases L
    .rename_i J;rw[CF C (DV D) (DV E)]at e;exact(Wy A hd e H J h).wp u B
    .cases L
   .cases b
  .cases b
 case sM n x lo hi=>
  split at b
  .rename_i t y l hh mx e;simp only[q8,beq_iff_eq,Option.isNone_iff_eq_none]at b;obtain⟨⟨⟨⟨rfl,C⟩,D⟩,E⟩,H⟩:=b;exact(Yj A hd e C D E H h).wp u B
  .cases b
 case rB x lo hi=>
  split at b
  .rename_i t y l hh mx e;simp only[q8,Option.isNone_iff_eq_none]at b;obtain⟨⟨⟨⟨rfl,C⟩,D⟩,E⟩,H⟩:=b;split at H
   .rename_i J;exact(Wz A hd e C D E J h).wp u B
   .cases H
  .cases b
 case tn z X=>
  split at b
  .rename_i t qs e;exact(YI A hd e b h).wp u B
  .cases b
 case uc n ys=>
  split at b
  .rename_i t len X e;split at b
   .rename_i el J;split at b
    .rename_i i hi;split at b
     .rename_i z T;simp only[q8,beq_iff_eq,sc]at b;obtain⟨⟨⟨⟨⟨⟨C,D⟩,E⟩,H⟩,L⟩,F⟩,U⟩:=b;exact(YW A hd e J hi T C D E H L F U h).wp u B
     .cases b
    .cases b
   .cases b
  .cases b
 case app n x y=>
  split at b
  .rename_i c e;unfold OV at b;split at b
   .rename_i p q t Y s C D E;simp only[q8,beq_iff_eq]at b;obtain⟨⟨⟨H,L⟩,rfl⟩,F⟩:=b;split at F
    .rename_i el J;split at F
     .rename_i i hi;split at F
      .rename_i z T;simp only[q8,beq_iff_eq,sc]at F;obtain⟨⟨⟨U,V⟩,W⟩,R⟩:=F;rw[CF C (DW D) (DW E),Operand.qo H]at e;exact(YG A hd e J hi T U V W R L h).wp u B
      .cases F
     .cases F
    .cases F
   .cases b
  .cases b
 case call f ys=>
  split at b
  .rename_i c e;split at b
   .rename_i g I;simp only[q8,beq_iff_eq]at b;obtain⟨rfl,C⟩:=b;rw[CF I rfl rfl]at e;exact Ws A hd u e C h B
   .cases b
  .cases b
 case sj x ys=>
  split at b
  .rename_i c e;split at b
   .rename_i g I;simp only[q8]at b;rw[CF I rfl rfl]at e;exact VX A hd u e b.1 b.2 h B
   .cases b
  .cases b
 case r6 f cs=>
  split at b
  .rename_i g first xs e
   simp only[q8,beq_iff_eq]at b;obtain⟨⟨rfl,C⟩,D⟩:=b;rw[Array.eq_empty_of_size_eq_zero C]at e;exact(YJ A hd e D h).wp u B
  .cases b
 case ext x i=>
  split at b
  .rename_i y j s e;simp only[q8,beq_iff_eq]at b;obtain⟨C,rfl⟩:=b;rw[Operand.qo C]at e;exact(YO A hd e h).wp u B
  .cases b
 case uj k x=>
  split at b
  .rename_i s t y e;simp only[q8]at b;obtain⟨C,D⟩:=b;split at D
   .rename_i k1 k2 hs ht;simp only[beq_iff_eq]at D;subst D;exact(YN A hd e hs ht C h).wp u B
   .cases D
  .cases b
 case rx x i=>
  split at b
  .rename_i t y j e;simp only[q8]at b;obtain⟨⟨C,D⟩,E⟩:=b;split at E
   .rename_i J;exact(Wx A hd e C D J h).wp u B
   .cases E
  .cases b
 case tz x=>
  split at b
  .rename_i t y e;exact(Wr A hd e b h).wp u B
  .cases b
 case tI x=>
  split at b
  .rename_i t y e;exact(Wp A hd e b h).wp u B
  .cases b
 case mm mx x y=>
  split at b
  .rename_i c e;unfold dQ at b;split at b
   .rename_i p q C D;simp only[q8]at b;obtain⟨⟨rfl,E⟩,H⟩:=b;rw[CF C (DW D) rfl]at e;exact(T3 (mx:=true) A hd e E H h).wp u B
   .rename_i p q C D;simp only[q8,Bool.not_eq_true']at b;obtain⟨⟨rfl,E⟩,H⟩:=b;rw[CF C (DW D) rfl]at e;exact(T3 (mx:=false) A hd e E H h).wp u B
   .cases b
  .cases b
 case ud cs=>
  split at b
  .rename_i t e;split at b
   .rename_i i hi;split at b
    .rename_i z T;exact(YF A hd e hi T b h).wp u B
    .cases b
   .cases b
  .cases b
 case st n x v=>cases M
 case tC n s v=>cases M
 case tN x k n agg=>
  split at b
  .rename_i t y f e;simp only[q8]at b;exact(Wt A hd e b.1 b.2 h).wp u B
  .cases b
 case uD s=>
  split at b
  .rename_i y e;rw[Operand.qo b]at e;exact(So A hd (.inl e) h).wp u B
  .rename_i y e;rw[Operand.qo b]at e;exact(So A hd (.inr e) h).wp u B
  .cases b
 case rel s=>
  split at b
  .rename_i y e;rw[Operand.qo b]at e;exact(Sl A hd (.inl e) h).wp u B
  .rename_i y e;rw[Operand.qo b]at e;exact(Sl A hd (.inr e) h).wp u B
  .cases b
 case tW s=>
  split at b
  .rename_i y e;rw[Operand.qo b]at e;exact(Sn A hd (.inl e) h).wp u B
  .rename_i y e;rw[Operand.qo b]at e;exact(Sn A hd (.inr e) h).wp u B
  .cases b
 case tf n=>
  split at b
  .rename_i y e;exact(RH A hd (.inl e) (LF b) h).wp u B
  .rename_i y e;exact(RH A hd (.inr e) (LF b) h).wp u B
  .cases b
 case tQ x=>
  split at b
  .rename_i c e;unfold OX at b;split at b
   .rename_i y t C D E;simp only[q8]at b;obtain⟨H,L⟩:=b;split at L
    .rename_i el J;rw[CF C (DV D) (DV E)]at e;exact(W5 A hd e H J h).wp u B
    .cases L
    .cases L
   .cases b
  .cases b
 case uE x i n=>
  split at b
  .rename_i t y j e;simp only[q8,beq_iff_eq]at b;exact(Yn A hd e b.1.1 b.1.2 b.2 h).wp u B
  .cases b
 case xfa x k=>
  split at b
  .rename_i t y f e;simp only[q8,beq_iff_eq]at b;exact(Ym A hd e b.1 b.2 h).wp u B
  .cases b
 case uM x=>
  split at b
  .rename_i t y e;simp only[q8,beq_iff_eq]at b;exact(Yo A hd e b.1 b.2 h).wp u B
  .cases b
 case tF x v k=>cases M
 case sW n s y=>
  split at b
  .rename_i c e;unfold OV at b;split at b
   .rename_i p q t Y s' C D E h0;simp only[AD.s.injEq]at h0;subst h0;simp only[q8,beq_iff_eq]at b;obtain⟨⟨⟨H,L⟩,rfl⟩,F⟩:=b;split at F
    .rename_i el J;split at F
     .rename_i i hi;split at F
      .rename_i z T;simp only[q8,beq_iff_eq,sc]at F;obtain⟨⟨⟨U,V⟩,W⟩,R⟩:=F;rw[CF C (DW D) (DW E),Operand.qo H]at e;exact(Wl A hd e J hi T U V W R L h).wp u B
      .cases F
     .cases F
    .cases F
   .cases b
  .cases b
 case sf f ys=>
  split at b
  .rename_i c e;split at b
   .rename_i g I;simp only[q8,beq_iff_eq]at b;obtain⟨rfl,C⟩:=b;rw[CF I rfl rfl]at e;exact VY A hd u e C h B
   .cases b
  .cases b
 case tR n zero x=>
  split at b
  .rename_i t y z e;simp only[q8]at b;exact(bM A hd e b.1.1 b.1.2 b.2 h).wp u B
  .cases b
 case sw f x=>
  split at b
  .rename_i c e;split at b
   .rename_i g y I ha;simp only[q8,beq_iff_eq]at b;obtain⟨rfl,C⟩:=b;rw[CF I (DV ha) rfl]at e;exact VV A hd u e C h B
   .cases b
  .cases b
 case sr f x=>
  split at b
  .rename_i c e;split at b
   .rename_i g y I ha;simp only[q8,beq_iff_eq]at b;obtain⟨rfl,C⟩:=b;rw[CF I (DV ha) rfl]at e;exact VR A hd u e C h B
   .cases b
  .cases b
 case tc n=>
  split at b
  .rename_i t len X e;simp only[q8,beq_iff_eq,Array.isEmpty_iff]at b;obtain⟨⟨rfl,rfl⟩,C⟩:=b;exact(Wv A hd e C h).wp u B
  .cases b
 case r8 gs=>
  split at b
  .rename_i t X e;exact(Wn A hd e b h).wp u B
  .cases b
 case stx n s q=>cases M
 case ur x q=>cases M
 case lac x=>
  split at b
  .rename_i t y e;simp only[q8,beq_iff_eq]at b;exact(YR A hd e b.1 b.2 h).wp u B
  .cases b
 case uT x=>
  split at b
  .rename_i t y e;simp only[q8,beq_iff_eq]at b;exact(YL A hd e b.1 b.2 h).wp u B
  .cases b
 case cut n s hi=>
  split at b
  .rename_i t y l hh mx e;simp only[q8,beq_iff_eq,Option.isNone_iff_eq_none]at b;obtain⟨⟨⟨⟨rfl,rfl⟩,C⟩,D⟩,E⟩:=b;rw[Operand.qo C]at e;exact(YM A hd e D E h).wp u B
  .cases b
 case rK f ys=>
  split at b
  .rename_i c e;split at b
   .rename_i g I;simp only[q8,beq_iff_eq]at b;obtain⟨rfl,C⟩:=b;rw[CF I rfl rfl]at e;exact VU A hd u e C h B
   .cases b
  .cases b
 case rJ f ys i=>
  split at b
  .rename_i c e;split at b
   .rename_i g I;simp only[q8,beq_iff_eq]at b;obtain⟨rfl,C⟩:=b;rw[CF I rfl rfl]at e;exact VQ A hd u e C h B
   .cases b
  .cases b
 case sG f ys=>
  split at b
  .rename_i c e;split at b
   .rename_i g I;simp only[q8,beq_iff_eq]at b;obtain⟨rfl,C⟩:=b;rw[CF I rfl rfl]at e;exact(VS A hd e C h).wp u B
   .cases b
  .cases b
 case s9 n s z x=>
  split at b
  .rename_i c e;unfold WB at b;split at b
   .rename_i p q t Y C D E;simp only[q8]at b;obtain⟨⟨H,L⟩,F⟩:=b;split at F
    .rename_i el kn J hu';split at F
     .rename_i i hi;split at F
      .rename_i zz T;split at F
       .rename_i z0 hz0;simp only[q8,beq_iff_eq,sc]at F;obtain⟨⟨⟨⟨rfl,U⟩,V⟩,W⟩,R⟩:=F;rw[CF C (DW D) (DW E),Operand.isTmp_eq' H]at e;exact(Wm A hd e J hu' hi T U V (DV hz0) W R L h).wp u B
       .cases F
      .cases F
     .cases F
    .cases F
   .cases b
  .cases b
 case ta X x=>
  split at b
  .rename_i t y e;exact(Wq A hd e b h).wp u B
  .cases b
 case sI f ys=>
  split at b
  .rename_i c e;split at b
   .rename_i g I;simp only[q8,beq_iff_eq]at b;obtain⟨rfl,C⟩:=b;rw[CF I rfl rfl]at e;exact VT A hd u e C h B
   .cases b
  .cases b
 case sn f ys=>
  split at b
  .rename_i c e;split at b
   .rename_i g I;simp only[q8,beq_iff_eq]at b;obtain⟨rfl,C⟩:=b;rw[CF I rfl rfl]at e;exact TO A hd u e C h B
   .cases b
  .cases b
 case um x=>
  split at b
  .rename_i op t y z Y e;simp only[q8,beq_iff_eq]at b;obtain⟨⟨⟨rfl,C⟩,D⟩,E⟩:=b;exact(YQ A hd e C D E h).wp u B
  .cases b
 case tA q=>
  split at b
  .rename_i t len X e;split at b
   .rename_i x hps;simp only[q8]at b;rw[DV hps]at e;exact(Wu A hd e b.1 b.2 h).wp u B
   .cases b
  .cases b
 case sE s q=>
  split at b
  .rename_i c e;unfold OV at b;split at b
   .rename_i p q' t Y s' C D E H;simp only[AD.s.injEq]at H;subst H;simp only[q8,beq_iff_eq]at b;obtain⟨⟨⟨H,L⟩,rfl⟩,F⟩:=b;split at F
    .rename_i el J;split at F
     .rename_i i hi;split at F
      .rename_i z T;simp only[q8,beq_iff_eq,sc]at F;obtain⟨⟨⟨U,V⟩,W⟩,R⟩:=F;have hq:q'=.tmp q:=by
        cases q'<;>simp[AF]at L;rw[L]
       rw [CF C (DW D) (DW E),Operand.qo H,hq]at e;exact(Wj A hd e J hi T U V W h).wp u B
      .cases F
     .cases F
    .cases F
   .cases b
  .cases b
 case ux x=>
  split at b
  .rename_i t y e;simp only[q8,beq_iff_eq]at b;exact(YS A hd e b.1 b.2 h).wp u B
  .cases b
 case tY x i=>
  split at b
  .rename_i t y j e;simp only[q8,beq_iff_eq]at b;exact(Yf A hd e b.1.1 b.1.2 b.2 h).wp u B
  .cases b
 case uw x=>
  split at b
  .rename_i t y e;simp only[q8,beq_iff_eq]at b;exact(Yg A hd e b.1 b.2 h).wp u B
  .cases b
 case tX x v=>cases M
 case tO q=>
  split at b
  .rename_i t y e;exact(Wo A hd e b h).wp u B
  .cases b
 case sx f ys i=>
  split at b
  .rename_i c e;split at b
   .rename_i g I;simp only[q8,beq_iff_eq]at b;obtain⟨rfl,C⟩:=b;rw[CF I rfl rfl]at e;exact VP A hd u e C h B
   .cases b
  .cases b
 case tZ=>
  split at b
  .rename_i t r e;cases r with
   |none=>exact(YY A hd e h).wp u B|some r=>cases b
  .cases b
 case uo s=>
  split at b
  .rename_i y e;rw[Operand.qo b]at e;exact(Sk A hd (.inl e) h).wp u B
  .rename_i y e;rw[Operand.qo b]at e;exact(Sk A hd (.inr e) h).wp u B
  .cases b
 case sA f ys=>
  split at b
  .rename_i c e;split at b
   .rename_i g I;simp only[q8,beq_iff_eq]at b;obtain⟨rfl,C⟩:=b;rw[CF I rfl rfl]at e;exact VW A hd u e C h B
   .cases b
  .cases b
 case uK s m x=>
  split at b
  .rename_i t y z c e;simp only[q8]at b;obtain⟨⟨⟨rfl,C⟩,D⟩,E⟩:=b;exact(Ya A hd e C D E h).wp u B
  .cases b
 case ul s m x v=>cases M
 case uq n X x v=>cases M
 case uO s n=>
  split at b
  .rename_i t y e;simp only[q8,beq_iff_eq]at b;rw[Operand.qo b.1.1]at e;exact(YT A hd e b.1.2 b.2 h).wp u B
  .cases b
 case rm s m=>
  split at b
  .rename_i t y e;simp only[q8]at b;obtain⟨C,D⟩:=b;split at D
   .rename_i k el J;exact(Yc A hd e C J h).wp u B
   .cases D
  .cases b
 case uA s=>
  split at b
  .rename_i y c e;simp only[q8,Bool.not_eq_true']at b;obtain⟨rfl,C⟩:=b;rw[Operand.qo C]at e;exact(Yb A hd e h).wp u B
  .cases b
 case ut s=>
  split at b
  .rename_i y e;rw[Operand.qo b]at e;exact(YX A hd e h).wp u B
  .cases b
end
end Go.Sf
namespace Go.Sf
open Go.RowKit (Below)
def OW(ops:Array Oper)(o:Oper)(r:PR):Bool:=
 match r.guard,o.guard with
 |none,none=>true|some (g,b),some (j,b')=>b==b'&&((ops[j]?).bind (·.dst))==some g|_,_=>false
def H0(P:Program)(N:Nat)(ops:Array Oper)(o:Oper)(r:PR):Bool:=
 OW ops o r&&(match o.dst,r.dst with
 |some d,some d'=>d==d'&&decide (d<N)&&!IS r.op&&KD P o.op r.op|none,none=>IS r.op&&KD P o.op r.op|_,_=>false)
section
variable{P:Program}{F0:Nat->Nat->Prop}{w0:W0}{O:AA}{a:Act}{w:World}{ops:Array Oper}{o:Oper}{r:PR}{N:Nat}{p:Option (Nat×Value)}{K:AA->Prop}{next:Act->World->Prop}{Q:Exit->Act->World->Prop}
theorem BN.skip(b:BN F0 w0 O a w){d:Nat}(hd:d<a.tmps.size):BN F0 w0 ((d,.sk)::O) (a.put (some d) undef) w:=by
 obtain ⟨G,h⟩:=b;exact⟨_,h.quiet (Below.refl _ _) d hd .sk undef (fun _=>none) (by simp) (by simp) (by simp) rfl trivial⟩
theorem IW{o:Oper}(b:o.dst=none){K:EV->AA->Prop}(h:Es P F0 w0 a w o K)(e:∀env' w',K .undef env'->BN F0 w0 env' a w'->next a w'):o.wp P a w next Q:=by
 obtain ⟨w',c,env',f,g⟩:=h;unfold Oper.wp;rw[c,Oper.upon_skip,b];exact e _ _ f g
theorem ef{S:FuncId->D2->Ah->Prop}{n s:Nat}{v:AD}{d:Option Nat}{O:AA}{K:EV->AA->Prop}(h:(AC.tC n s v).wp S O d K):(AC.st n (.s s) v).wp S O d K:=by
 simp [AC.wp]at h|-
 grind [AD.place]
theorem PD(f:BN F0 w0 O a w)(D:Ht N p a)(M:∀i v,p=some (i,v)->r.dst≠some i)(R:H0 P N ops o r=true)(h:r.wp (AI P) O K)
  (E:∀env' a' w',K env'->Ht N p a'->BN F0 w0 env' a' w'->next a' w'):
  if Region.wanted o (yielded ops a.tmps)then o.wp P a w next Q else next (a.put o.dst undef) w:=by
 simp [H0]at R;obtain⟨J,hd⟩:=R;have T:r.op.wp (AI P) O r.dst (fun e env'=>K (env'.put r.dst e))->o.wp P a w next Q:=by
  intro A;obtain⟨G,f⟩:=f;cases ho:o.dst with
  |some d=>
   cases B:r.dst with
   |none=>rw[ho,B]at hd;cases hd
   |some d'=>
    rw [ho,B]at hd;simp[sc,Bool.not_eq_true']at hd;obtain⟨⟨⟨rfl,I⟩,L⟩,c⟩:=hd;rw[B]at A;exact Xo f (D.size▸I) ho c L A fun e env' a' w' k l k3=>E _ a' w' k (D.put (fun i v X=>by rw[<-B];exact M i v X) l) k3
  |none=>
   cases B:r.dst with
   |some d'=>rw[ho,B]at hd;cases hd
   |none=>
    rw [ho,B]at hd;rw[B]at A;simp at hd;obtain⟨L,c⟩:=hd;generalize X:r.op=p at A L c;cases p<;>simp[IS]at L<;>first|cases L|skip
    .rename_i n x v;simp[KD]at c;split at c
     .rename_i t y u e;simp at c;exact IW ho (T5 f e c.1.1 c.1.2 c.2 A) fun env' w' k l=>E env' a w' k D l
     .cases c
    .rename_i n s v;simp[KD]at c;split at c
     .rename_i t y u e;simp at c;rw[Operand.qo c.1.1]at e;exact IW ho (T5 f e (x':=.s s) (by simp[AF]) c.1.2 c.2 (ef A)) fun env' w' k l=>E env' a w' k D l
     .cases c
    .rename_i x v;simp[KD]at c;split at c
     .rename_i t y u e;simp at c;exact IW ho (Yp f e c.1.1 c.1.2 c.2 A) fun env' w' k l=>E env' a w' k D l
     .cases c
    .rename_i n x q;simp[KD]at c;split at c
     .rename_i t y u e;simp at c;exact IW ho (Yl f e c.1.1 c.1.2 c.2 A) fun env' w' k l=>E env' a w' k D l
     .cases c
    .rename_i x q;simp[KD]at c;split at c
     .rename_i t y u e;simp at c;exact IW ho (YK f e c.1.1 c.1.2 c.2 A) fun env' w' k l=>E env' a w' k D l
     .cases c
    .rename_i x v;simp[KD]at c;split at c
     .rename_i t y u e;simp at c;exact IW ho (Yi f e c.1.1 c.1.2 c.2 A) fun env' w' k l=>E env' a w' k D l
     .cases c
    .rename_i n ps x v;simp[KD]at c;split at c
     .rename_i t y u e;simp at c;exact IW ho (Yk f e c.1.1 c.1.2 c.2 A) fun env' w' k l=>E env' a w' k D l
     .cases c
    .rename_i s m x v;simp[KD]at c;split at c
     .rename_i t y z u e;simp at c;exact IW ho (Yd f e c.1.1.1 c.1.1.2 c.1.2 c.2 A) fun env' w' k l=>E env' a w' k D l
     .cases c
 have U:K (O.put r.dst .sk)->next (a.put o.dst undef) w:=by
  intro Y;cases ho:o.dst with
  |some d=>
   cases B:r.dst with
   |none=>rw[ho,B]at hd;cases hd
   |some d'=>
    rw [ho,B]at hd;simp[sc,Bool.not_eq_true']at hd;obtain⟨⟨⟨rfl,I⟩,L⟩,c⟩:=hd;rw[B]at Y;exact E _ _ _ Y (D.put (fun i v X=>by rw[<-B];exact M i v X) ⟨_,rfl⟩) (f.skip (D.size▸I))
  |none=>
   cases B:r.dst with
   |some d'=>rw[ho,B]at hd;cases hd
   |none=>rw[B]at Y;exact E _ _ _ Y D f
 unfold PR.wp at h;cases F:r.guard with
 |none=>
  rw [F]at h;cases C:o.guard with
  |none=>rw[QQ (by simp[Region.wanted,C])];exact T h|some g=>rw[OW,F,C]at J;cases J
 |some gb=>
  obtain ⟨g,b⟩:=gb;rw[F]at h;cases C:o.guard with
  |none=>rw[OW,F,C]at J;cases J
  |some jb=>
   obtain ⟨j,b'⟩:=jb;rw[OW,F,C]at J;simp at J;obtain⟨rfl,hj⟩:=J;simp only at h;split at h
   .rename_i q S;have hv:slot a g=.bool q:=by
     obtain ⟨G,f⟩:=f;have:=AQ f S (by simp);simpa only[AG,AV]using this
    have H:g<a.tmps.size:=by
     obtain ⟨G,f⟩:=f;exact A8 f S (by simp)
    have Z:yielded ops a.tmps j=some q:=by
     have I:a.tmps[g]?=some (.bool q):=by
      rw [slot,Array.getD_eq_getD_getElem?,Array.getElem?_eq_getElem H]at hv;rw[Array.getElem?_eq_getElem H];simpa using hv
     simp [yielded,hj,I]
    have A:Region.wanted o (yielded ops a.tmps)=(q==b):=by
     simp only[Region.wanted,C,Z];cases q<;>cases b<;>rfl
    rw [A];by_cases V:q=b
    .subst V;rw[QQ (by simp)];exact T (h.1 rfl)
    .have W:q=!b:=by cases q<;>cases b<;>simp_all
     rw [a6 (by simpa using V)];exact U (h.2 W)
   .rename_i S;have hv:slot a g=undef:=by
     obtain ⟨G,f⟩:=f;have:=AQ f S (by simp);simpa only[AG]using this
    have H:g<a.tmps.size:=by
     obtain ⟨G,f⟩:=f;exact A8 f S (by simp)
    have Z:yielded ops a.tmps j=none:=by
     have I:a.tmps[g]?=some undef:=by
      rw [slot,Array.getD_eq_getD_getElem?,Array.getElem?_eq_getElem H]at hv;rw[Array.getElem?_eq_getElem H];simpa using hv
     simp [yielded,hj,I,undef]
    have A:Region.wanted o (yielded ops a.tmps)=false:=by
     simp only[Region.wanted,C,Z];cases b<;>rfl
    rw [A];exact U h
   .exact h.elim
def MT:List PR->Bool
 |[]=>true|r::rs=>(match r.op,r.dst,r.guard with|.uu _,none,none=>true|_,_,_=>false)&&MT rs
variable{rs:List PR}
theorem Z8:∀{O:AA},MT rs=true->wpOps (AI P) K rs O->BN F0 w0 O a w->∃env',K env'/\BN F0 w0 env' a w:=by
 induction rs with
 |nil=>intro O _ h b;exact⟨O,h,b⟩|cons r rs l=>
  intro O c h b;simp[MT]at c;obtain⟨e,k⟩:=c;split at e
  .rename_i s f g i;simp[wpOps,PR.wp,f,g,i,AC.wp]at h;split at h
   .rename_i cs j;obtain⟨G,b⟩:=b;exact l k h (b.uu j)
   .exact h.elim
  .cases e
def H5(P:Program)(N:Nat)(ops:Array Oper):List Oper->List PR->Bool
 |[],rs=>MT rs|o::os,r::rs=>H0 P N ops o r&&H5 P N ops os rs|_::_,[]=>false
theorem P2(m:∀O a w,K O->Ht N p a->BN F0 w0 O a w->Q .normal a w):∀(os:List Oper)(rs:List PR)(k:Nat),ops.toList.drop k=os->H5 P N ops os rs=true->(∀i v,p=some (i,v)->∀r∈rs,r.dst≠some i)->∀(O:AA)(a:Act)(w:World),Ht N p a->BN F0 w0 O a w ->
  wpOps (AI P) K rs O->Go.wpOps P ops Q (List.range' k os.length) a w
 |[],rs,k,_,b,_,O,a,w,g,j,h=>by
  obtain ⟨env',z,A⟩:=Z8 b h j;exact m env' a w z g A
 |o::os,[],k,_,b,_,_,_,_,_,_,_=>by simp[H5]at b|o::os,r::rs,k,hd,b,c,O,a,w,g,j,h=>by
  simp [H5]at b;have y:ops[k]?=some o:=by
   rw [<-Array.getElem?_toList];have:=congrArg (fun l=>l[0]?) hd
   grind
  have f:ops.toList.drop (k+1)=os:=by
   grind [List.tail,List.tail_drop]
  simp [List.range'_succ];rw[Go.wpOps_cons];unfold Go.wpOp;rw[y];simp;have:=PD (Q:=Q) (next:=Go.wpOps P ops Q (List.range' (k+1) os.length)) j g (fun i v e=>c i v e r (by simp)) b.1 h fun env' a' w' q s t=>P2 m os rs (k+1) f b.2 (fun i v e r u=>c i v e r (by simp[u])) env' a' w' s t q
  grind
theorem SY{id:Nat}(b:H5 P N ops ops.toList rs=true)(c:∀i v,p=some (i,v)->∀r∈rs,r.dst≠some i)(e:Ht N p a)(f:BN F0 w0 O a w)(h:wpOps (AI P) K rs O)
  (g:∀O a w,K O->Ht N p a->BN F0 w0 O a w->Q .normal a w):(Code.region id ops false).wp P Q a w:=by
 refine Go.wp_region ?_;rw[List.range_eq_range',<-Array.length_toList];exact P2 g ops.toList rs 0 rfl b c O a w e f h
end
end Go.Sf
