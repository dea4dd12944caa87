/- One operation against the checker, and regions in the text's order. -/
import Derived.Test.YtjgaphkmbjbdkaaGreatSfN
import Derived.Orders
set_option linter.all false
namespace Go.Sf
open Go.RowKit (Below)
def Operand.Aaf(n:Nat):Operand->Bool
 |.tmp m=>m==n|_=>false
variable{n:Nat}{x:Operand}
theorem Operand.pc(h:Operand.Aaf n x=true):x=.tmp n:=by
 cases x<;>simp[Operand.Aaf]at h;rw[h]
def Vw:Operand->Bool
 |.const v=>Ma v|_=>false
theorem RD(h:Vw x=true):∃v,x=.const v/\Ma v=true:=by
 cases x<;>simp[Vw]at h;exact⟨_,rfl,h⟩
def UI(P:Program)(str:Bool)(c:Call)(x:AG):Bool:=
 match c.callee,c.args.toList,c.argTypes.toList with
 |.builtin .len,[y],[t]=>AJ y x&&(match P.underlying t with|some (.slice _)=>!str|some .string=>str|_=>false)
 |_,_,_=>false
def UG(P:Program)(n:Nat)(c:Call)(x y:AG):Bool:=
 match c.callee,c.args.toList,c.argTypes.toList,x with
 |.builtin .append,[p,q],[t,t'],.s s=>Operand.Aaf s p&&AJ q y&&t==t'&&(match P.underlying t with
  |some (.slice e)=>(match P.info? e with
   |some i=>(match i.zero with|some z=>i.size==n&&decide (i.bytes<=4096)&&z.cells.size==n&&decide (0<n)|none=>false)
   |none=>false)
  |_=>false)
 |_,_,_,_=>false
def qx(mx:Bool)(c:Call)(x y:AG):Bool:=
 match c.callee,c.args.toList with
 |.builtin .max,[p,q]=>mx&&AJ p x&&AJ q y|.builtin .min,[p,q]=>!mx&&AJ p x&&AJ q y|_,_=>false
def Pj(P:Program)(o:Op):AE->Bool
 |.mv x=>match o with|.move y|.assign y=>AJ y x|_=>false
 |.tk s=>match o with|.move y|.assign y=>Operand.Aaf s y|_=>false
 |.Abd _=>match o with|.move y|.assign y=>Vw y|_=>false
 |.fad x k=>match o with|.fieldAddr t y f=>AJ y x&&PN P t f==some k|.move y|.assign y|.nilCheck y=>k==0&&AJ y x|_=>false
 |.bad s k=>match o with|.indexAddr t y j=>Operand.Aaf s y&&fG P t j k|.fieldAddr t y f=>Operand.Aaf s y&&PN P t f==some k|.move y|.assign y|.nilCheck y=>k==0&&Operand.Aaf s y|_=>false
 |.iad x i n=>match o with|.indexAddr t y j=>AJ y x&&AJ j i&&JK P t==some n|_=>false
 |.aad x i n k=>match o with|.indexAddr t y j=>AJ y x&&AJ j i&&(match P.underlying t with|some (.array k' e)=>k'==k&&C0 P e==some n|_=>false)|_=>false
 |.ld x=>match o with|.load t y=>AJ y x&&B9 P t==some false|_=>false
 |.fdv x k=>match o with|.fieldAddr t y f=>AJ y x&&PN P t f==some k|_=>false
 |.ldv x n=>match o with|.load t y=>AJ y x&&B9 P t==some true&&C0 P t==some n|_=>false
 |.lda x n=>match o with|.load t y=>AJ y x&&B9 P t==some true&&C0 P t==some n|_=>false
 |.ldb s n=>match o with|.load t y=>AJ y (.s s)&&B9 P t==some true&&C0 P t==some n|_=>false
 |.ldt x=>match o with|.load t y=>AJ y x&&B9 P t==some false|_=>false
 |.bin k op x y=>match o with|.binOp op' t p q _=>op'==op&&N5 P k t&&AJ p x&&AJ q y|_=>false
 |.not x=>match o with|.unOp op _ y=>op==.not&&AJ y x|_=>false
 |.neg x=>match o with|.unOp op _ y=>op==.neg&&AJ y x|_=>false
 |.pick c x y=>match o with|.pick c' p q=>AJ c' c&&AJ p x&&AJ q y|_=>false
 |.len x=>match o with|.call c=>UI P false c x|_=>false
 |.Abr x=>match o with|.call c=>UI P true c x|_=>false
 |.slc n x lo hi=>match o with|.slice t y l h mx=>mx.isNone&&AJ y x&&N7 l lo&&N7 h hi&&JK P t==some n|_=>false
 |.Aan x lo hi=>match o with|.slice t y l h mx=>mx.isNone&&AJ y x&&N7 l lo&&N7 h hi&&(match P.underlying t with|some .string=>true|_=>false)|_=>false
 |.bld z ps=>match o with|.build t qs=>fH P t z qs.toList ps|_=>false
 |.lst n ys=>match o with
  |.buildSlice t len ps=>(match P.underlying t with
   |some (.slice e)=>(match P.info? e with
    |some i=>(match i.zero with
     |some z=>i.size==n&&decide (0<n)&&z.cells.toList.all Value.oneCell'&&decide (0<z.cells.size)&&len==ps.size&&decide (len*n<=2^ 24)&&Sa 0 ps.toList ys|none=>false)
    |none=>false)
   |_=>false)
  |_=>false
 |.app n x y=>match o with|.call c=>UG P n c x y|_=>false
 |.call f ys=>match o with|.call c=>(match c.callee with|.value (.func g)=>g==f&&Bc c.args.toList ys|_=>false)|_=>false
 |.Abb x ys=>match o with|.call c=>(match c.callee with|.value g=>AJ g x&&Bc c.args.toList ys|_=>false)|_=>false
 |.clo f cs=>match o with|.makeFunc (.func g) first xs=>g==f&&first.size==0&&Bc xs.toList cs|_=>false
 |.ext x i=>match o,x with|.extract y j,.s s=>Operand.Aaf s y&&j==i|_,_=>false
 |.cvt k x=>match o with|.convert s t y=>AJ y x&&(match P.underlying s,P.underlying t with|some (.int _),some (.int k')=>k'==k|_,_=>false)|_=>false
 |.Aal x i=>match o with|.index t y j=>AJ y x&&AJ j i&&(match P.underlying t with|some .string=>true|_=>false)|_=>false
 |.Abe x=>match o with|.box _ y=>AJ y x|_=>false
 |.Abo x=>match o with|.box _ y=>AJ y x|_=>false
 |.mm mx x y=>match o with|.call c=>qx mx c x y|_=>false
 |.alc cs=>match o with|.alloc t=>(match P.info? t with|some i=>(match i.zero with|some z=>Oe cs z.cells.toList|none=>false)|none=>false)|_=>false
 |.st n x v=>match o with|.store t y u=>AJ y x&&AJ u v&&C0 P t==some n|_=>false
 |.stb n s v=>match o with|.store t y u=>Operand.Aaf s y&&AJ u v&&C0 P t==some n|_=>false
 |.frz _=>false|.Aa5 x k n agg=>match o with|.field t y f=>AJ y x&&fI P t f k n agg|_=>false
 |.xal s=>match o with|.move y|.assign y=>Operand.Aaf s y|_=>false
 |.Abj x=>match o with|.call c=>UI P false c x|_=>false
 |.xia x i n=>match o with|.indexAddr t y j=>AJ y x&&AJ j i&&JK P t==some n|_=>false
 |.xfa x k=>match o with|.fieldAddr t y f=>AJ y x&&PN P t f==some k|_=>false
 |.xld x=>match o with|.load t y=>AJ y x&&B9 P t==some false|_=>false
 |.xst x v k=>match o with|.store t y u=>AJ y x&&AJ u v&&C0 P t==some k|_=>false
 |.rel s=>match o with|.move y|.assign y=>Operand.Aaf s y|_=>false
 |.Aba _=>match o with|.move y|.assign y=>Vw y|_=>false
 |.tkx s=>match o with|.move y|.assign y=>Operand.Aaf s y|_=>false
 |.AaW n s y=>match o with|.call c=>UG P n c (.s s) y|_=>false
 |.Aas f ys=>match o with|.call c=>(match c.callee with|.value (.func g)=>g==f&&Bc c.args.toList ys|_=>false)|_=>false
 |.mkx n zero x=>match o with|.makeSlice t y z=>AJ y x&&AJ z x&&kz P t n zero|_=>false
 |.Aar f x ys=>match o with|.call c=>(match c.callee,c.args.toList with|.value (.func g),y::zs=>g==f&&(AJ y x&&Bc zs ys)|_,_=>false)|_=>false
 |.AaK f x=>match o with|.call c=>(match c.callee,c.args.toList with|.value (.func g),[y]=>g==f&&AJ y x|_,_=>false)|_=>false
 |.Aa6 n=>match o with|.buildSlice t len ps=>len==0&&ps.isEmpty&&aJ P t n|_=>false
 |.Aad gs=>match o with|.build t ps=>aH P t ps.toList gs|_=>false
 |.stx n s q=>match o with|.store t y u=>AJ y (.s s)&&AJ u (.s q)&&C0 P t==some n|_=>false
 |.AaU f ys=>match o with|.call c=>(match c.callee with|.value (.func g)=>g==f&&Bc c.args.toList ys|_=>false)|_=>false
 |.Aao f ys=>match o with|.call c=>(match c.callee with|.value (.func g)=>g==f&&Bc c.args.toList ys|_=>false)|_=>false
 |.isn x=>match o with|.binOp op t y z _=>op==.eql&&AJ y x&&Ro z&&ZC P t|_=>false
 |.lac x=>match o with|.load t y=>AJ y x&&B9 P t==some false|_=>false
 |.ctk x=>match o with|.load t y=>AJ y x&&B9 P t==some false|_=>false
 |.cpt x q=>match o with|.store t y u=>AJ y x&&AJ u (.s q)&&C0 P t==some 1|_=>false
 |.cut n s hi=>match o with|.slice t y l (some h) mx=>mx.isNone&&l.isNone&&Operand.Aaf s y&&AJ h hi&&JK P t==some n|_=>false
 |.AaC f ys=>match o with|.call c=>(match c.callee with|.value (.func g)=>g==f&&Bc c.args.toList ys|_=>false)|_=>false
 |.Aa3 _ x=>match o with|.box _ y=>AJ y x|_=>false
 |.AaT f ys=>match o with|.call c=>(match c.callee with|.value (.func g)=>g==f&&Bc c.args.toList ys|_=>false)|_=>false
 |.Aa8 n s z x=>match o with|.call c=>iK P n s z x c|_=>false
 |.Aaj f ys _=>match o with|.call c=>(match c.callee with|.value (.func g)=>g==f&&Bc c.args.toList ys|_=>false)|_=>false
 |.Abf q=>match o with|.buildSlice t len ps=>(match len,ps.toList with|1,[(0,x)]=>aI P t&&AJ x (.s q)|_,_=>false)|_=>false
 |.Aax s q=>match o with|.call c=>UG P 1 c (.s s) (.s q)|_=>false
 |.lan x=>match o with|.load t y=>AJ y x&&B9 P t==some false|_=>false
 |.nia x i=>match o with|.indexAddr t y j=>AJ y x&&AJ j i&&JK P t==some 1|_=>false
 |.nld x=>match o with|.load t y=>AJ y x&&B9 P t==some false|_=>false
 |.nst x v=>match o with|.store t y u=>AJ y x&&AJ u v&&C0 P t==some 1|_=>false
 |.Abn q=>match o with|.box _ y=>AJ y (.s q)|_=>false
 |.AaB f ys _=>match o with|.call c=>(match c.callee with|.value (.func g)=>g==f&&Bc c.args.toList ys|_=>false)|_=>false
 |.ldg s n=>match o with|.load t y=>Operand.Aaf s y&&B9 P t==some true&&C0 P t==some n|_=>false
 |.stq n _ x v=>match o with|.store t y u=>AJ y x&&AJ u v&&C0 P t==some n|_=>false
 |.mkm=>match o with|.makeMap _ r=>r.isNone|_=>false
 |.mvm s=>match o with|.move y|.assign y=>Operand.Aaf s y|_=>false
 |.Aau f ys=>match o with|.call c=>(match c.callee with|.value (.func g)=>g==f&&Bc c.args.toList ys|_=>false)|_=>false
 |.mlk _ m x=>match o with|.lookup t y z c=>c&&PU P t&&AJ y m&&AJ z x|_=>false
 |.mup _ m x v=>match o with|.mapUpdate t y z u=>PU P t&&AJ y m&&AJ z x&&AJ u v|_=>false
 |.ta _ m=>match o with|.range t y=>AJ y m&&(match P.underlying t with|some (.map _ _)=>true|_=>false)|_=>false
 |.mnx s=>match o with|.next y c=>!c&&Operand.Aaf s y|_=>false
 |.men s=>match o with|.entry y=>Operand.Aaf s y|_=>false
def NR:AE->Bool
 |.st ..=>true|.stb ..=>true|.xst ..=>true|.stx ..=>true|.cpt ..=>true|.nst ..=>true|.mup ..=>true|.stq ..=>true|_=>false
section
variable{P:Program}{F0:Nat->Nat->Prop}{w0:W0}{O:AB}{a:Act}{w:World}{G:BU}{d:Nat}{o:Oper}{K:EV->AB->Prop}
theorem A2.wp(h:A2 P F0 w0 a w o d K)(b:o.dst=some d){next:Act->World->Prop}{Q:Exit->Act->World->Prop}(f:∀e env' a' w',K e env'->QW a d a'->Bu F0 w0 ((d,e)::env') a' w'->next a' w'):o.wp P a w next Q:=by
 obtain ⟨v,w',c,e,env',g,i⟩:=h;unfold Oper.wp;rw[c,Oper.upon_value,b];exact f e env' _ w' g ⟨_,rfl⟩ i
variable{α:Type}
theorem GO{a:Array α}{x:α}(h:a.toList=[x]):a=#[x]:=by
 cases a;simp_all
theorem FM{a:Array α}{x y:α}(h:a.toList=[x,y]):a=#[x,y]:=by
 cases a;simp_all
theorem DA{c:Call}{b:Callee}{e:Array Operand}{f:Array TypeId}(g:c.callee=b)(h:c.args=e)(i:c.argTypes=f):c={callee:=b,args:=e,argTypes:=f}:=by
 cases c;simp_all
theorem k7(A:AO F0 w0 O a w G)(hd:d<a.tmps.size)(u:o.dst=some d){p:AE}(b:Pj P o.op p=true)(M:NR p=false)(h:p.wp (AU P) O (some d) K)
  {next:Act->World->Prop}{Q:Exit->Act->World->Prop}(B:∀e env' a' w',K e env'->QW a d a'->Bu F0 w0 ((d,e)::env') a' w'->next a' w'):o.wp P a w next Q:=by
 cases p<;>simp only[Pj]at b<;>try(exact absurd b Bool.false_ne_true)
 case mv x=>
  split at b
  .rename_i y e;exact(dn A hd (.inl e) b h).wp u B
  .rename_i y e;exact(dn A hd (.inr e) b h).wp u B
  .cases b
 case tk s=>
  split at b
  .rename_i y e;rw[Operand.pc b]at e;exact(du A hd (.inl e) h).wp u B
  .rename_i y e;rw[Operand.pc b]at e;exact(du A hd (.inr e) h).wp u B
  .cases b
 case Abd n=>
  split at b
  .rename_i y e;exact(YQ A hd (.inl e) (RD b) h).wp u B
  .rename_i y e;exact(YQ A hd (.inr e) (RD b) h).wp u B
  .cases b
 case fad x k=>
  split at b
  .rename_i t y f e;simp only[o4,beq_iff_eq]at b;exact(Qu A hd (Wo e b.2) b.1 h).wp u B
  .rename_i y e;simp only[o4,beq_iff_eq]at b;obtain⟨rfl,b⟩:=b;exact(Qu A hd (QL (.inl e)) b h).wp u B
  .rename_i y e;simp only[o4,beq_iff_eq]at b;obtain⟨rfl,b⟩:=b;exact(Qu A hd (QL (.inr (.inl e))) b h).wp u B
  .rename_i y e;simp only[o4,beq_iff_eq]at b;obtain⟨rfl,b⟩:=b;exact(Qu A hd (QL (.inr (.inr e))) b h).wp u B
  .cases b
 case bad s k=>
  split at b
  .rename_i t y j e;simp only[o4]at b;rw[Operand.pc b.1]at e;exact(Qt A hd (ng e b.2) h).wp u B
  .rename_i t y f e;simp only[o4,beq_iff_eq]at b;rw[Operand.pc b.1]at e;exact(Qt A hd (Wo e b.2) h).wp u B
  .rename_i y e;simp only[o4,beq_iff_eq]at b;obtain⟨rfl,b⟩:=b;rw[Operand.pc b]at e;exact(Qt A hd (QL (.inl e)) h).wp u B
  .rename_i y e;simp only[o4,beq_iff_eq]at b;obtain⟨rfl,b⟩:=b;rw[Operand.pc b]at e;exact(Qt A hd (QL (.inr (.inl e))) h).wp u B
  .rename_i y e;simp only[o4,beq_iff_eq]at b;obtain⟨rfl,b⟩:=b;rw[Operand.pc b]at e;exact(Qt A hd (QL (.inr (.inr e))) h).wp u B
  .cases b
 case iad x i n=>
  split at b
  .rename_i t y j e;simp only[o4,beq_iff_eq]at b;exact(mE A hd e b.1.1 b.1.2 b.2 h).wp u B
  .cases b
 case aad x i n k=>
  split at b
  .rename_i t y j e;simp only[o4]at b;obtain⟨⟨C,D⟩,E⟩:=b;split at E
   .rename_i k' el J;simp only[o4,beq_iff_eq]at E;obtain⟨rfl,H⟩:=E;exact(lv A hd e C D J H h).wp u B
   .cases E
  .cases b
 case ld x=>
  split at b
  .rename_i t y e;simp only[o4,beq_iff_eq]at b;exact(pO A hd e b.1 b.2 h).wp u B
  .cases b
 case fdv x k=>
  split at b
  .rename_i t y f e;simp only[o4,beq_iff_eq]at b;refine(Qu (S:=AU P) A hd (Wo e b.2) b.1 ?_).wp u B;simp only[AE.wp]at h|-;split at h
   .rename_i row Z;rw[j5 A Z];exact h
   .exact h.elim
  .cases b
 case ldv x n=>
  split at b
  .rename_i t y e;simp only[o4,beq_iff_eq]at b;refine(VK (S:=AU P) A hd e b.1.1 b.1.2 b.2 ?_).wp u B;simp only[AE.wp]at h|-;split at h
   .rename_i row Z;rw[j5 A Z];exact h
   .exact h.elim
  .cases b
 case lda x n=>
  split at b
  .rename_i t y e;simp only[o4,beq_iff_eq]at b;exact(VK A hd e b.1.1 b.1.2 b.2 h).wp u B
  .cases b
 case ldb s n=>
  split at b
  .rename_i t y e;simp only[o4,beq_iff_eq]at b;refine(VK (S:=AU P) A hd e b.1.1 b.1.2 b.2 (y:=.s s) ?_).wp u B;simp only[AE.wp]at h|-;split at h
   .rename_i cs I;simp only[AG.ev,I,BB,Al];exact h
   .exact h.elim
  .cases b
 case ldt x=>
  split at b
  .rename_i t y e;simp only[o4,beq_iff_eq]at b;exact(mJ A hd e b.1 b.2 h).wp u B
  .cases b
 case bin k op x y=>
  split at b
  .rename_i op' t p q Y e;simp only[o4,beq_iff_eq]at b;obtain⟨⟨⟨rfl,C⟩,D⟩,E⟩:=b;exact(l5 A hd e C D E h).wp u B
  .cases b
 case not x=>
  split at b
  .rename_i op t y e;simp only[o4,beq_iff_eq]at b;obtain⟨rfl,C⟩:=b;exact(mW A hd e C h).wp u B
  .cases b
 case neg x=>
  split at b
  .rename_i op t y e;simp only[o4,beq_iff_eq]at b;obtain⟨rfl,C⟩:=b;exact(mT A hd e C h).wp u B
  .cases b
 case pick c x y=>
  split at b
  .rename_i c' p q e;simp only[o4]at b;exact(jq A hd e b.1.1 b.1.2 b.2 h).wp u B
  .cases b
 case len x=>
  split at b
  .rename_i c e;unfold UI at b;split at b
   .rename_i y t C D E;simp only[o4]at b;obtain⟨H,L⟩:=b;split at L
    .rename_i el J;rw[DA C (GO D) (GO E)]at e;exact(mK A hd e H J h).wp u B
    .cases L
    .cases L
   .cases b
  .cases b
 case Abr x=>
  split at b
  .rename_i c e;unfold UI at b;split at b
   .rename_i y t C D E;simp only[o4]at b;obtain⟨H,L⟩:=b;split at L
    .cases L
    .rename_i J;rw[DA C (GO D) (GO E)]at e;exact(jt A hd e H J h).wp u B
    .cases L
   .cases b
  .cases b
 case slc n x lo hi=>
  split at b
  .rename_i t y l hh mx e;simp only[o4,beq_iff_eq,Option.isNone_iff_eq_none]at b;obtain⟨⟨⟨⟨rfl,C⟩,D⟩,E⟩,H⟩:=b;exact(mY A hd e C D E H h).wp u B
  .cases b
 case Aan x lo hi=>
  split at b
  .rename_i t y l hh mx e;simp only[o4,Option.isNone_iff_eq_none]at b;obtain⟨⟨⟨⟨rfl,C⟩,D⟩,E⟩,H⟩:=b;split at H
   .rename_i J;exact(ju A hd e C D E J h).wp u B
   .cases H
  .cases b
 case bld z X=>
  split at b
  .rename_i t qs e;exact(l6 A hd e b h).wp u B
  .cases b
 case lst n ys=>
  split at b
  .rename_i t len X e;split at b
   .rename_i el J;split at b
    .rename_i i hi;split at b
     .rename_i z T;simp only[o4,beq_iff_eq,t2]at b;obtain⟨⟨⟨⟨⟨⟨C,D⟩,E⟩,H⟩,L⟩,F⟩,U⟩:=b;exact(mL A hd e J hi T C D E H L F U h).wp u B
     .cases b
    .cases b
   .cases b
  .cases b
 case app n x y=>
  split at b
  .rename_i c e;unfold UG at b;split at b
   .rename_i p q t Y s C D E;simp only[o4,beq_iff_eq]at b;obtain⟨⟨⟨H,L⟩,rfl⟩,F⟩:=b;split at F
    .rename_i el J;split at F
     .rename_i i hi;split at F
      .rename_i z T;simp only[o4,beq_iff_eq,t2]at F;obtain⟨⟨⟨U,V⟩,W⟩,R⟩:=F;rw[DA C (FM D) (FM E),Operand.pc H]at e;exact(lz A hd e J hi T U V W R L h).wp u B
      .cases F
     .cases F
    .cases F
   .cases b
  .cases b
 case call f ys=>
  split at b
  .rename_i c e;split at b
   .rename_i g I;simp only[o4,beq_iff_eq]at b;obtain⟨rfl,C⟩:=b;rw[DA I rfl rfl]at e;exact jm A hd u e C h B
   .cases b
  .cases b
 case Abb x ys=>
  split at b
  .rename_i c e;split at b
   .rename_i g I;simp only[o4]at b;rw[DA I rfl rfl]at e;exact gA A hd u e b.1 b.2 h B
   .cases b
  .cases b
 case clo f cs=>
  split at b
  .rename_i g first xs e
   simp only[o4,beq_iff_eq]at b;obtain⟨⟨rfl,C⟩,D⟩:=b;rw[Array.eq_empty_of_size_eq_zero C]at e;exact(l7 A hd e D h).wp u B
  .cases b
 case ext x i=>
  split at b
  .rename_i y j s e;simp only[o4,beq_iff_eq]at b;obtain⟨C,rfl⟩:=b;rw[Operand.pc C]at e;exact(mC A hd e h).wp u B
  .cases b
 case cvt k x=>
  split at b
  .rename_i s t y e;simp only[o4]at b;obtain⟨C,D⟩:=b;split at D
   .rename_i k1 k2 hs ht;simp only[beq_iff_eq]at D;subst D;exact(mB A hd e hs ht C h).wp u B
   .cases D
  .cases b
 case Aal x i=>
  split at b
  .rename_i t y j e;simp only[o4]at b;obtain⟨⟨C,D⟩,E⟩:=b;split at E
   .rename_i J;exact(jr A hd e C D J h).wp u B
   .cases E
  .cases b
 case Abe x=>
  split at b
  .rename_i t y e;exact(jk A hd e b h).wp u B
  .cases b
 case Abo x=>
  split at b
  .rename_i t y e;exact(jh A hd e b h).wp u B
  .cases b
 case mm mx x y=>
  split at b
  .rename_i c e;unfold qx at b;split at b
   .rename_i p q C D;simp only[o4]at b;obtain⟨⟨rfl,E⟩,H⟩:=b;rw[DA C (FM D) rfl]at e;exact(dm (mx:=true) A hd e E H h).wp u B
   .rename_i p q C D;simp only[o4,Bool.not_eq_true']at b;obtain⟨⟨rfl,E⟩,H⟩:=b;rw[DA C (FM D) rfl]at e;exact(dm (mx:=false) A hd e E H h).wp u B
   .cases b
  .cases b
 case alc cs=>
  split at b
  .rename_i t e;split at b
   .rename_i i hi;split at b
    .rename_i z T;exact(lw A hd e hi T b h).wp u B
    .cases b
   .cases b
  .cases b
 case st n x v=>cases M
 case stb n s v=>cases M
 case Aa5 x k n agg=>
  split at b
  .rename_i t y f e;simp only[o4]at b;exact(jn A hd e b.1 b.2 h).wp u B
  .cases b
 case xal s=>
  split at b
  .rename_i y e;rw[Operand.pc b]at e;exact(bU A hd (.inl e) h).wp u B
  .rename_i y e;rw[Operand.pc b]at e;exact(bU A hd (.inr e) h).wp u B
  .cases b
 case rel s=>
  split at b
  .rename_i y e;rw[Operand.pc b]at e;exact(bR A hd (.inl e) h).wp u B
  .rename_i y e;rw[Operand.pc b]at e;exact(bR A hd (.inr e) h).wp u B
  .cases b
 case tkx s=>
  split at b
  .rename_i y e;rw[Operand.pc b]at e;exact(bS A hd (.inl e) h).wp u B
  .rename_i y e;rw[Operand.pc b]at e;exact(bS A hd (.inr e) h).wp u B
  .cases b
 case Aba n=>
  split at b
  .rename_i y e;exact(YR A hd (.inl e) (RD b) h).wp u B
  .rename_i y e;exact(YR A hd (.inr e) (RD b) h).wp u B
  .cases b
 case Abj x=>
  split at b
  .rename_i c e;unfold UI at b;split at b
   .rename_i y t C D E;simp only[o4]at b;obtain⟨H,L⟩:=b;split at L
    .rename_i el J;rw[DA C (GO D) (GO E)]at e;exact(jv A hd e H J h).wp u B
    .cases L
    .cases L
   .cases b
  .cases b
 case xia x i n=>
  split at b
  .rename_i t y j e;simp only[o4,beq_iff_eq]at b;exact(mc A hd e b.1.1 b.1.2 b.2 h).wp u B
  .cases b
 case xfa x k=>
  split at b
  .rename_i t y f e;simp only[o4,beq_iff_eq]at b;exact(mb A hd e b.1 b.2 h).wp u B
  .cases b
 case xld x=>
  split at b
  .rename_i t y e;simp only[o4,beq_iff_eq]at b;exact(md A hd e b.1 b.2 h).wp u B
  .cases b
 case xst x v k=>cases M
 case AaW n s y=>
  split at b
  .rename_i c e;unfold UG at b;split at b
   .rename_i p q t Y s' C D E h0;simp only[AG.s.injEq]at h0;subst h0;simp only[o4,beq_iff_eq]at b;obtain⟨⟨⟨H,L⟩,rfl⟩,F⟩:=b;split at F
    .rename_i el J;split at F
     .rename_i i hi;split at F
      .rename_i z T;simp only[o4,beq_iff_eq,t2]at F;obtain⟨⟨⟨U,V⟩,W⟩,R⟩:=F;rw[DA C (FM D) (FM E),Operand.pc H]at e;exact(jc A hd e J hi T U V W R L h).wp u B
      .cases F
     .cases F
    .cases F
   .cases b
  .cases b
 case Aas f ys=>
  split at b
  .rename_i c e;split at b
   .rename_i g I;simp only[o4,beq_iff_eq]at b;obtain⟨rfl,C⟩:=b;rw[DA I rfl rfl]at e;exact gB A hd u e C h B
   .cases b
  .cases b
 case mkx n zero x=>
  split at b
  .rename_i t y z e;simp only[o4]at b;exact(pP A hd e b.1.1 b.1.2 b.2 h).wp u B
  .cases b
 case Aar f x ys=>
  split at b
  .rename_i c e;split at b
   .rename_i g y zs I ha;simp only[o4,beq_iff_eq]at b;obtain⟨rfl,C,D⟩:=b;rw[DA I (show c.args=(y::zs).toArray by rw[<-ha]) rfl]at e;exact fw A hd u e C D h B
   .cases b
  .cases b
 case AaK f x=>
  split at b
  .rename_i c e;split at b
   .rename_i g y I ha;simp only[o4,beq_iff_eq]at b;obtain⟨rfl,C⟩:=b;rw[DA I (GO ha) rfl]at e;exact fo A hd u e C h B
   .cases b
  .cases b
 case Aa6 n=>
  split at b
  .rename_i t len X e;simp only[o4,beq_iff_eq,Array.isEmpty_iff]at b;obtain⟨⟨rfl,rfl⟩,C⟩:=b;exact(jp A hd e C h).wp u B
  .cases b
 case Aad gs=>
  split at b
  .rename_i t X e;exact(jf A hd e b h).wp u B
  .cases b
 case stx n s q=>cases M
 case cpt x q=>cases M
 case lac x=>
  split at b
  .rename_i t y e;simp only[o4,beq_iff_eq]at b;exact(mG A hd e b.1 b.2 h).wp u B
  .cases b
 case ctk x=>
  split at b
  .rename_i t y e;simp only[o4,beq_iff_eq]at b;exact(l9 A hd e b.1 b.2 h).wp u B
  .cases b
 case cut n s hi=>
  split at b
  .rename_i t y l hh mx e;simp only[o4,beq_iff_eq,Option.isNone_iff_eq_none]at b;obtain⟨⟨⟨⟨rfl,rfl⟩,C⟩,D⟩,E⟩:=b;rw[Operand.pc C]at e;exact(mA A hd e D E h).wp u B
  .cases b
 case AaC f ys=>
  split at b
  .rename_i c e;split at b
   .rename_i g I;simp only[o4,beq_iff_eq]at b;obtain⟨rfl,C⟩:=b;rw[DA I rfl rfl]at e;exact fv A hd u e C h B
   .cases b
  .cases b
 case Aaj f ys i=>
  split at b
  .rename_i c e;split at b
   .rename_i g I;simp only[o4,beq_iff_eq]at b;obtain⟨rfl,C⟩:=b;rw[DA I rfl rfl]at e;exact fm A hd u e C h B
   .cases b
  .cases b
 case AaT f ys=>
  split at b
  .rename_i c e;split at b
   .rename_i g I;simp only[o4,beq_iff_eq]at b;obtain⟨rfl,C⟩:=b;rw[DA I rfl rfl]at e;exact(ft A hd e C h).wp u B
   .cases b
  .cases b
 case Aa8 n s z x=>
  split at b
  .rename_i c e;unfold iK at b;split at b
   .rename_i p q t Y C D E;simp only[o4]at b;obtain⟨⟨H,L⟩,F⟩:=b;split at F
    .rename_i el kn J hu';split at F
     .rename_i i hi;split at F
      .rename_i zz T;split at F
       .rename_i z0 hz0;simp only[o4,beq_iff_eq,t2]at F;obtain⟨⟨⟨⟨rfl,U⟩,V⟩,W⟩,R⟩:=F;rw[DA C (FM D) (FM E),Operand.isTmp_eq' H]at e;exact(je A hd e J hu' hi T U V (GO hz0) W R L h).wp u B
       .cases F
      .cases F
     .cases F
    .cases F
   .cases b
  .cases b
 case Aa3 X x=>
  split at b
  .rename_i t y e;exact(ji A hd e b h).wp u B
  .cases b
 case AaU f ys=>
  split at b
  .rename_i c e;split at b
   .rename_i g I;simp only[o4,beq_iff_eq]at b;obtain⟨rfl,C⟩:=b;rw[DA I rfl rfl]at e;exact fu A hd u e C h B
   .cases b
  .cases b
 case Aao f ys=>
  split at b
  .rename_i c e;split at b
   .rename_i g I;simp only[o4,beq_iff_eq]at b;obtain⟨rfl,C⟩:=b;rw[DA I rfl rfl]at e;exact cM A hd u e C h B
   .cases b
  .cases b
 case isn x=>
  split at b
  .rename_i op t y z Y e;simp only[o4,beq_iff_eq]at b;obtain⟨⟨⟨rfl,C⟩,D⟩,E⟩:=b;exact(mF A hd e C D E h).wp u B
  .cases b
 case Abf q=>
  split at b
  .rename_i t len X e;split at b
   .rename_i x hps;simp only[o4]at b;rw[GO hps]at e;exact(jo A hd e b.1 b.2 h).wp u B
   .cases b
  .cases b
 case Aax s q=>
  split at b
  .rename_i c e;unfold UG at b;split at b
   .rename_i p q' t Y s' C D E H;simp only[AG.s.injEq]at H;subst H;simp only[o4,beq_iff_eq]at b;obtain⟨⟨⟨H,L⟩,rfl⟩,F⟩:=b;split at F
    .rename_i el J;split at F
     .rename_i i hi;split at F
      .rename_i z T;simp only[o4,beq_iff_eq,t2]at F;obtain⟨⟨⟨U,V⟩,W⟩,R⟩:=F;have hq:q'=.tmp q:=by
        cases q'<;>simp[AJ]at L;rw[L]
       rw [DA C (FM D) (FM E),Operand.pc H,hq]at e;exact(ja A hd e J hi T U V W h).wp u B
      .cases F
     .cases F
    .cases F
   .cases b
  .cases b
 case lan x=>
  split at b
  .rename_i t y e;simp only[o4,beq_iff_eq]at b;exact(mH A hd e b.1 b.2 h).wp u B
  .cases b
 case nia x i=>
  split at b
  .rename_i t y j e;simp only[o4,beq_iff_eq]at b;exact(mU A hd e b.1.1 b.1.2 b.2 h).wp u B
  .cases b
 case nld x=>
  split at b
  .rename_i t y e;simp only[o4,beq_iff_eq]at b;exact(mV A hd e b.1 b.2 h).wp u B
  .cases b
 case nst x v=>cases M
 case Abn q=>
  split at b
  .rename_i t y e;exact(jg A hd e b h).wp u B
  .cases b
 case AaB f ys i=>
  split at b
  .rename_i c e;split at b
   .rename_i g I;simp only[o4,beq_iff_eq]at b;obtain⟨rfl,C⟩:=b;rw[DA I rfl rfl]at e;exact fl A hd u e C h B
   .cases b
  .cases b
 case mkm=>
  split at b
  .rename_i t r e;cases r with
   |none=>exact(mN A hd e h).wp u B|some r=>cases b
  .cases b
 case mvm s=>
  split at b
  .rename_i y e;rw[Operand.pc b]at e;exact(bQ A hd (.inl e) h).wp u B
  .rename_i y e;rw[Operand.pc b]at e;exact(bQ A hd (.inr e) h).wp u B
  .cases b
 case Aau f ys=>
  split at b
  .rename_i c e;split at b
   .rename_i g I;simp only[o4,beq_iff_eq]at b;obtain⟨rfl,C⟩:=b;rw[DA I rfl rfl]at e;exact fz A hd u e C h B
   .cases b
  .cases b
 case mlk s m x=>
  split at b
  .rename_i t y z c e;simp only[o4]at b;obtain⟨⟨⟨rfl,C⟩,D⟩,E⟩:=b;exact(mP A hd e C D E h).wp u B
  .cases b
 case mup s m x v=>cases M
 case stq n X x v=>cases M
 case ldg s n=>
  split at b
  .rename_i t y e;simp only[o4,beq_iff_eq]at b;rw[Operand.pc b.1.1]at e;exact(mI A hd e b.1.2 b.2 h).wp u B
  .cases b
 case ta s m=>
  split at b
  .rename_i t y e;simp only[o4]at b;obtain⟨C,D⟩:=b;split at D
   .rename_i k el J;exact(mR A hd e C J h).wp u B
   .cases D
  .cases b
 case mnx s=>
  split at b
  .rename_i y c e;simp only[o4,Bool.not_eq_true']at b;obtain⟨rfl,C⟩:=b;rw[Operand.pc C]at e;exact(mQ A hd e h).wp u B
  .cases b
 case men s=>
  split at b
  .rename_i y e;rw[Operand.pc b]at e;exact(mM A hd e h).wp u B
  .cases b
end
end Go.Sf
namespace Go.Sf
open Go.RowKit (Below)
def UH(ops:Array Oper)(o:Oper)(r:PR):Bool:=
 match r.guard,o.guard with
 |none,none=>true|some (g,b),some (j,b')=>b==b'&&((ops[j]?).bind (·.dst))==some g|_,_=>false
def MV(P:Program)(N:Nat)(ops:Array Oper)(o:Oper)(r:PR):Bool:=
 UH ops o r&&(match o.dst,r.dst with
 |some d,some d'=>d==d'&&decide (d<N)&&!NR r.op&&Pj P o.op r.op|none,none=>NR r.op&&Pj P o.op r.op|_,_=>false)
section
variable{P:Program}{F0:Nat->Nat->Prop}{w0:W0}{O:AB}{a:Act}{w:World}{ops:Array Oper}{o:Oper}{r:PR}{N:Nat}{p:Option (Nat×Value)}{K:AB->Prop}{next:Act->World->Prop}{Q:Exit->Act->World->Prop}
theorem Bu.skip(b:Bu F0 w0 O a w){d:Nat}(hd:d<a.tmps.size):Bu F0 w0 ((d,.sk)::O) (a.put (some d) undef) w:=by
 obtain ⟨G,h⟩:=b;exact⟨_,h.quiet (Below.refl _ _) d hd .sk undef (fun _=>none) (by simp) (by simp) (by simp) rfl trivial⟩
theorem NY{o:Oper}(b:o.dst=none){K:EV->AB->Prop}(h:Hs P F0 w0 a w o K)(e:∀env' w',K .undef env'->Bu F0 w0 env' a w'->next a w'):o.wp P a w next Q:=by
 obtain ⟨w',c,env',f,g⟩:=h;unfold Oper.wp;rw[c,Oper.upon_skip,b];exact e _ _ f g
theorem sE{S:FuncId->Fq->Ax->Prop}{n s:Nat}{v:AG}{d:Option Nat}{O:AB}{K:EV->AB->Prop}(h:(AE.stb n s v).wp S O d K):(AE.st n (.s s) v).wp S O d K:=by
 simp [AE.wp]at h|-
 grind [AG.place]
theorem U6(f:Bu F0 w0 O a w)(D:LK N p a)(M:∀i v,p=some (i,v)->r.dst≠some i)(R:MV P N ops o r=true)(h:r.wp (AU P) O K)
  (E:∀env' a' w',K env'->LK N p a'->Bu F0 w0 env' a' w'->next a' w'):
  if Region.wanted o (yielded ops a.tmps)then o.wp P a w next Q else next (a.put o.dst undef) w:=by
 simp [MV]at R;obtain⟨J,hd⟩:=R;have T:r.op.wp (AU P) O r.dst (fun e env'=>K (env'.put r.dst e))->o.wp P a w next Q:=by
  intro A;obtain⟨G,f⟩:=f;cases ho:o.dst with
  |some d=>
   cases B:r.dst with
   |none=>rw[ho,B]at hd;cases hd
   |some d'=>
    rw [ho,B]at hd;simp[t2,Bool.not_eq_true']at hd;obtain⟨⟨⟨rfl,I⟩,L⟩,c⟩:=hd;rw[B]at A;exact k7 f (D.size▸I) ho c L A fun e env' a' w' k l k3=>E _ a' w' k (D.put (fun i v X=>by rw[<-B];exact M i v X) l) k3
  |none=>
   cases B:r.dst with
   |some d'=>rw[ho,B]at hd;cases hd
   |none=>
    rw [ho,B]at hd;rw[B]at A;simp at hd;obtain⟨L,c⟩:=hd;generalize X:r.op=p at A L c;cases p<;>simp[NR]at L<;>first|cases L|skip
    .rename_i n x v;simp[Pj]at c;split at c
     .rename_i t y u e;simp at c;exact NY ho (dt f e c.1.1 c.1.2 c.2 A) fun env' w' k l=>E env' a w' k D l
     .cases c
    .rename_i n s v;simp[Pj]at c;split at c
     .rename_i t y u e;simp at c;rw[Operand.pc c.1.1]at e;exact NY ho (dt f e (x':=.s s) (by simp[AJ]) c.1.2 c.2 (sE A)) fun env' w' k l=>E env' a w' k D l
     .cases c
    .rename_i x v;simp[Pj]at c;split at c
     .rename_i t y u e;simp at c;exact NY ho (mf f e c.1.1 c.1.2 c.2 A) fun env' w' k l=>E env' a w' k D l
     .cases c
    .rename_i n x q;simp[Pj]at c;split at c
     .rename_i t y u e;simp at c;exact NY ho (ma f e c.1.1 c.1.2 c.2 A) fun env' w' k l=>E env' a w' k D l
     .cases c
    .rename_i x q;simp[Pj]at c;split at c
     .rename_i t y u e;simp at c;exact NY ho (l8 f e c.1.1 c.1.2 c.2 A) fun env' w' k l=>E env' a w' k D l
     .cases c
    .rename_i x v;simp[Pj]at c;split at c
     .rename_i t y u e;simp at c;exact NY ho (mX f e c.1.1 c.1.2 c.2 A) fun env' w' k l=>E env' a w' k D l
     .cases c
    .rename_i n ps x v;simp[Pj]at c;split at c
     .rename_i t y u e;simp at c;exact NY ho (mZ f e c.1.1 c.1.2 c.2 A) fun env' w' k l=>E env' a w' k D l
     .cases c
    .rename_i s m x v;simp[Pj]at c;split at c
     .rename_i t y z u e;simp at c;exact NY ho (mS f e c.1.1.1 c.1.1.2 c.1.2 c.2 A) fun env' w' k l=>E env' a w' k D l
     .cases c
 have U:K (O.put r.dst .sk)->next (a.put o.dst undef) w:=by
  intro Y;cases ho:o.dst with
  |some d=>
   cases B:r.dst with
   |none=>rw[ho,B]at hd;cases hd
   |some d'=>
    rw [ho,B]at hd;simp[t2,Bool.not_eq_true']at hd;obtain⟨⟨⟨rfl,I⟩,L⟩,c⟩:=hd;rw[B]at Y;exact E _ _ _ Y (D.put (fun i v X=>by rw[<-B];exact M i v X) ⟨_,rfl⟩) (f.skip (D.size▸I))
  |none=>
   cases B:r.dst with
   |some d'=>rw[ho,B]at hd;cases hd
   |none=>rw[B]at Y;exact E _ _ _ Y D f
 unfold PR.wp at h;cases F:r.guard with
 |none=>
  rw [F]at h;cases C:o.guard with
  |none=>rw[a6 (by simp[Region.wanted,C])];exact T h|some g=>rw[UH,F,C]at J;cases J
 |some gb=>
  obtain ⟨g,b⟩:=gb;rw[F]at h;cases C:o.guard with
  |none=>rw[UH,F,C]at J;cases J
  |some jb=>
   obtain ⟨j,b'⟩:=jb;rw[UH,F,C]at J;simp at J;obtain⟨rfl,hj⟩:=J;simp only at h;split at h
   .rename_i q S;have hv:slot a g=.bool q:=by
     obtain ⟨G,f⟩:=f;have:=AW f S (by simp);simpa only[AN,An]using this
    have H:g<a.tmps.size:=by
     obtain ⟨G,f⟩:=f;exact Bi f S (by simp)
    have Z:yielded ops a.tmps j=some q:=by
     have I:a.tmps[g]?=some (.bool q):=by
      rw [slot,Array.getD_eq_getD_getElem?,Array.getElem?_eq_getElem H]at hv;rw[Array.getElem?_eq_getElem H];simpa using hv
     simp [yielded,hj,I]
    have A:Region.wanted o (yielded ops a.tmps)=(q==b):=by
     simp only[Region.wanted,C,Z];cases q<;>cases b<;>rfl
    rw [A];by_cases V:q=b
    .subst V;rw[a6 (by simp)];exact T (h.1 rfl)
    .have W:q=!b:=by cases q<;>cases b<;>simp_all
     rw [ae (by simpa using V)];exact U (h.2 W)
   .rename_i S;have hv:slot a g=undef:=by
     obtain ⟨G,f⟩:=f;have:=AW f S (by simp);simpa only[AN]using this
    have H:g<a.tmps.size:=by
     obtain ⟨G,f⟩:=f;exact Bi f S (by simp)
    have Z:yielded ops a.tmps j=none:=by
     have I:a.tmps[g]?=some undef:=by
      rw [slot,Array.getD_eq_getD_getElem?,Array.getElem?_eq_getElem H]at hv;rw[Array.getElem?_eq_getElem H];simpa using hv
     simp [yielded,hj,I,undef]
    have A:Region.wanted o (yielded ops a.tmps)=false:=by
     simp only[Region.wanted,C,Z];cases b<;>rfl
    rw [A];exact U h
   .exact h.elim
def SY:List PR->Bool
 |[]=>true|r::rs=>(match r.op,r.dst,r.guard with|.frz _,none,none=>true|_,_,_=>false)&&SY rs
variable{rs:List PR}
theorem n8:∀{O:AB},SY rs=true->wpOps (AU P) K rs O->Bu F0 w0 O a w->∃env',K env'/\Bu F0 w0 env' a w:=by
 induction rs with
 |nil=>intro O _ h b;exact⟨O,h,b⟩|cons r rs l=>
  intro O c h b;simp[SY]at c;obtain⟨e,k⟩:=c;split at e
  .rename_i s f g i;simp[wpOps,PR.wp,f,g,i,AE.wp]at h;split at h
   .rename_i cs j;obtain⟨G,b⟩:=b;exact l k h (b.frz j)
   .exact h.elim
  .cases e
def Mf(P:Program)(N:Nat)(ops:Array Oper):List Oper->List PR->Bool
 |[],rs=>SY rs|o::os,r::rs=>MV P N ops o r&&Mf P N ops os rs|_::_,[]=>false
theorem V4(m:∀O a w,K O->LK N p a->Bu F0 w0 O a w->Q .normal a w):∀(os:List Oper)(rs:List PR)(k:Nat),ops.toList.drop k=os->Mf P N ops os rs=true->(∀i v,p=some (i,v)->∀r∈rs,r.dst≠some i)->∀(O:AB)(a:Act)(w:World),LK N p a->Bu F0 w0 O a w ->
  wpOps (AU P) K rs O->Go.wpOps P ops Q (List.range' k os.length) a w
 |[],rs,k,_,b,_,O,a,w,g,j,h=>by
  obtain ⟨env',z,A⟩:=n8 b h j;exact m env' a w z g A
 |o::os,[],k,_,b,_,_,_,_,_,_,_=>by simp[Mf]at b|o::os,r::rs,k,hd,b,c,O,a,w,g,j,h=>by
  simp [Mf]at b;have y:ops[k]?=some o:=by
   rw [<-Array.getElem?_toList];have:=congrArg (fun l=>l[0]?) hd
   grind
  have f:ops.toList.drop (k+1)=os:=by
   grind [List.tail,List.tail_drop]
  simp [List.range'_succ];rw[Go.wpOps_cons];unfold Go.wpOp;rw[y];simp;have:=U6 (Q:=Q) (next:=Go.wpOps P ops Q (List.range' (k+1) os.length)) j g (fun i v e=>c i v e r (by simp)) b.1 h fun env' a' w' q s t=>V4 m os rs (k+1) f b.2 (fun i v e r u=>c i v e r (by simp[u])) env' a' w' s t q
  grind
theorem bA{id:Nat}(b:Mf P N ops ops.toList rs=true)(c:∀i v,p=some (i,v)->∀r∈rs,r.dst≠some i)(e:LK N p a)(f:Bu F0 w0 O a w)(h:wpOps (AU P) K rs O)
  (g:∀O a w,K O->LK N p a->Bu F0 w0 O a w->Q .normal a w):(Code.region id ops false).wp P Q a w:=by
 refine Go.wp_region ?_;rw[List.range_eq_range',<-Array.length_toList];exact V4 g ops.toList rs 0 rfl b c O a w e f h
end
end Go.Sf
