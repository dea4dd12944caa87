/- One operation against the checker, and regions in the text's order. -/
import Derived.Test.YtpagkickoiafkaaGreatSfN
import Derived.Orders
set_option linter.all false
open Option renaming some->Y
open Bool renaming true->X,false->T
open Option renaming isNone_iff_eq_none->l!
open Bool renaming not_eq_true'->l?
open Array renaming getD_eq_getD_getElem?->m_,getElem?_eq_getElem->m?
namespace Go.Sf
open Go.RowKit (Below)
def Operand.kH(n:Nat):Operand->Bool
 |.tmp m=>m==n|_=>T
variable{n:Nat}{x:Operand}
theorem Operand.jL(h:Operand.kH n x=X):x=.tmp n:=by
 cases x<;>simp[Operand.kH]at h;rw[h]
def QU:Operand->Bool
 |.const v=>Gy v|_=>T
theorem K8(h:QU x=X):∃v,x=.const v/\Gy v=X:=by
 cases x<;>simp[QU]at h;exact⟨_,rfl,h⟩
def PN(P:Program)(str:Bool)(c:Call)(x:AC):Bool:=
 match c.callee,c.args.toList,c.argTypes.toList with
 |.builtin .len,[y],[t]=>AF y x&&(match P.underlying t with|some (.slice _)=>!str|some .string=>str|_=>T)
 |_,_,_=>T
def PK(P:Program)(n:Nat)(c:Call)(x y:AC):Bool:=
 match c.callee,c.args.toList,c.argTypes.toList,x with
 |.builtin .append,[p,q],[t,t'],.s s=>Operand.kH s p&&AF q y&&t==t'&&(match P.underlying t with
  |some (.slice e)=>(match P.info? e with
   |some i=>(match i.zero with|some z=>i.size==n&&decide (i.bytes<=4096)&&z.cells.size==n&&decide (0<n)|none=>T)
   |none=>T)
  |_=>T)
 |_,_,_,_=>T
def ah(mx:Bool)(c:Call)(x y:AC):Bool:=
 match c.callee,c.args.toList with
 |.builtin .max,[p,q]=>mx&&AF p x&&AF q y|.builtin .min,[p,q]=>!mx&&AF p x&&AF q y|_,_=>T
def Jg(P:Program)(o:Op):AB->Bool
 |.mv x=>match o with|.move y|.assign y=>AF y x|_=>T
 |.tk s=>match o with|.move y|.assign y=>Operand.kH s y|_=>T
 |.mr _=>match o with|.move y|.assign y=>QU y|_=>T
 |.kK x k=>match o with|.fieldAddr t y f=>AF y x&&JQ P t f==Y k|.move y|.assign y|.nilCheck y=>k==0&&AF y x|_=>T
 |.bad s k=>match o with|.indexAddr t y j=>Operand.kH s y&&UZ P t j k|.fieldAddr t y f=>Operand.kH s y&&JQ P t f==Y k|.move y|.assign y|.nilCheck y=>k==0&&Operand.kH s y|_=>T
 |.l4 x i n=>match o with|.indexAddr t y j=>AF y x&&AF j i&&EH P t==Y n|_=>T
 |.mZ x i n k=>match o with|.indexAddr t y j=>AF y x&&AF j i&&(match P.underlying t with|some (.array k' e)=>k'==k&&Bm P e==Y n|_=>T)|_=>T
 |.ld x=>match o with|.load t y=>AF y x&&BM P t==Y T|_=>T
 |.nI x k=>match o with|.fieldAddr t y f=>AF y x&&JQ P t f==Y k|_=>T
 |.nP x n=>match o with|.load t y=>AF y x&&BM P t==Y X&&Bm P t==Y n|_=>T
 |.mn x n=>match o with|.load t y=>AF y x&&BM P t==Y X&&Bm P t==Y n|_=>T
 |.nM s n=>match o with|.load t y=>AF y (.s s)&&BM P t==Y X&&Bm P t==Y n|_=>T
 |.nK x=>match o with|.load t y=>AF y x&&BM P t==Y T|_=>T
 |.bin k op x y=>match o with|.binOp op' t p q _=>op'==op&&H6 P k t&&AF p x&&AF q y|_=>T
 |.not x=>match o with|.unOp op _ y=>op==.not&&AF y x|_=>T
 |.neg x=>match o with|.unOp op _ y=>op==.neg&&AF y x|_=>T
 |.pick c x y=>match o with|.pick c' p q=>AF c' c&&AF p x&&AF q y|_=>T
 |.len x=>match o with|.call c=>PN P T c x|_=>T
 |.mR x=>match o with|.call c=>PN P X c x|_=>T
 |.lx n x lo hi=>match o with|.slice t y l h mx=>mx.isNone&&AF y x&&H8 l lo&&H8 h hi&&EH P t==Y n|_=>T
 |.k8 x lo hi=>match o with|.slice t y l h mx=>mx.isNone&&AF y x&&H8 l lo&&H8 h hi&&(match P.underlying t with|some .string=>X|_=>T)|_=>T
 |.ma z ps=>match o with|.build t qs=>Ua P t z qs.toList ps|_=>T
 |.mE n ys=>match o with
  |.buildSlice t len ps=>(match P.underlying t with
   |some (.slice e)=>(match P.info? e with
    |some i=>(match i.zero with
     |some z=>i.size==n&&decide (0<n)&&z.cells.toList.all Value.oneCell'&&decide (0<z.cells.size)&&len==ps.size&&decide (len*n<=2^ 24)&&M2 0 ps.toList ys|none=>T)
    |none=>T)
   |_=>T)
  |_=>T
 |.app n x y=>match o with|.call c=>PK P n c x y|_=>T
 |.call f ys=>match o with|.call c=>(match c.callee with|.value (.func g)=>g==f&&A2 c.args.toList ys|_=>T)|_=>T
 |.l8 x ys=>match o with|.call c=>(match c.callee with|.value g=>AF g x&&A2 c.args.toList ys|_=>T)|_=>T
 |.kL f cs=>match o with|.makeFunc (.func g) first xs=>g==f&&first.size==0&&A2 xs.toList cs|_=>T
 |.ext x i=>match o,x with|.extract y j,.s s=>Operand.kH s y&&j==i|_,_=>T
 |.mt k x=>match o with|.convert s t y=>AF y x&&(match P.underlying s,P.underlying t with|some (.int _),Y (.int k')=>k'==k|_,_=>T)|_=>T
 |.kQ x i=>match o with|.index t y j=>AF y x&&AF j i&&(match P.underlying t with|some .string=>X|_=>T)|_=>T
 |.mq x=>match o with|.box _ y=>AF y x|_=>T
 |.mG x=>match o with|.box _ y=>AF y x|_=>T
 |.mm mx x y=>match o with|.call c=>ah mx c x y|_=>T
 |.mP cs=>match o with|.alloc t=>(match P.info? t with|some i=>(match i.zero with|some z=>Ik cs z.cells.toList|none=>T)|none=>T)|_=>T
 |.st n x v=>match o with|.store t y u=>AF y x&&AF u v&&Bm P t==Y n|_=>T
 |.mh n s v=>match o with|.store t y u=>Operand.kH s y&&AF u v&&Bm P t==Y n|_=>T
 |.nk _=>T|.mF x k n agg=>match o with|.field t y f=>AF y x&&Ub P t f k n agg|_=>T
 |.nm s=>match o with|.move y|.assign y=>Operand.kH s y|_=>T
 |.mz x=>match o with|.call c=>PN P T c x|_=>T
 |.nB x i n=>match o with|.indexAddr t y j=>AF y x&&AF j i&&EH P t==Y n|_=>T
 |.nJ x i n=>match o with|.indexAddr t y j=>AF y x&&AF j i&&EH P t==Y n|_=>T
 |.nu x=>match o with|.load t y=>AF y x&&BM P t==Y T|_=>T
 |.xfa x k=>match o with|.fieldAddr t y f=>AF y x&&JQ P t f==Y k|_=>T
 |.nv x=>match o with|.load t y=>AF y x&&BM P t==Y T|_=>T
 |.mf x v k=>match o with|.store t y u=>AF y x&&AF u v&&Bm P t==Y k|_=>T
 |.rel s=>match o with|.move y|.assign y=>Operand.kH s y|_=>T
 |.mc _=>match o with|.move y|.assign y=>QU y|_=>T
 |.mO s=>match o with|.move y|.assign y=>Operand.kH s y|_=>T
 |.lL n s y=>match o with|.call c=>PK P n c (.s s) y|_=>T
 |.kW f ys=>match o with|.call c=>(match c.callee with|.value (.func g)=>g==f&&A2 c.args.toList ys|_=>T)|_=>T
 |.nF n zero x=>match o with|.makeSlice t y z=>AF y x&&AF z x&&Si P t n zero|_=>T
 |.lY n zero x=>match o with|.makeSlice t y z=>AF y x&&AF z x&&Si P t n zero|_=>T
 |.kU f x ys=>match o with|.call c=>(match c.callee,c.args.toList with|.value (.func g),y::zs=>g==f&&(AF y x&&A2 zs ys)|_,_=>T)|_=>T
 |.lu f x=>match o with|.call c=>(match c.callee,c.args.toList with|.value (.func g),[y]=>g==f&&AF y x|_,_=>T)|_=>T
 |.l9 n=>match o with|.buildSlice t len ps=>len==0&&ps.isEmpty&&Sh P t n|_=>T
 |.ky gs=>match o with|.build t ps=>Se P t ps.toList gs|_=>T
 |.stx n s q=>match o with|.store t y u=>AF y (.s s)&&AF u (.s q)&&Bm P t==Y n|_=>T
 |.lH f ys=>match o with|.call c=>(match c.callee with|.value (.func g)=>g==f&&A2 c.args.toList ys|_=>T)|_=>T
 |.kS f ys=>match o with|.call c=>(match c.callee with|.value (.func g)=>g==f&&A2 c.args.toList ys|_=>T)|_=>T
 |.ni x=>match o with|.binOp op t y z _=>op==.eql&&AF y x&&MF z&&Rz P t|_=>T
 |.nH x=>match o with|.load t y=>AF y x&&BM P t==Y T|_=>T
 |.m8 x=>match o with|.load t y=>AF y x&&BM P t==Y T|_=>T
 |.nA x q=>match o with|.store t y u=>AF y x&&AF u (.s q)&&Bm P t==Y 1|_=>T
 |.cut n s hi=>match o with|.slice t y l (Y h) mx=>mx.isNone&&l.isNone&&Operand.kH s y&&AF h hi&&EH P t==Y n|_=>T
 |.k9 f ys=>match o with|.call c=>(match c.callee with|.value (.func g)=>g==f&&A2 c.args.toList ys|_=>T)|_=>T
 |.ml _ x=>match o with|.box _ y=>AF y x|_=>T
 |.lJ f ys=>match o with|.call c=>(match c.callee with|.value (.func g)=>g==f&&A2 c.args.toList ys|_=>T)|_=>T
 |.md n s z x=>match o with|.call c=>Vj P n s z x c|_=>T
 |.kD f ys _=>match o with|.call c=>(match c.callee with|.value (.func g)=>g==f&&A2 c.args.toList ys|_=>T)|_=>T
 |.mj q=>match o with|.buildSlice t len ps=>(match len,ps.toList with|1,[(0,x)]=>Sg P t&&AF x (.s q)|_,_=>T)|_=>T
 |.k7 s q=>match o with|.call c=>PK P 1 c (.s s) (.s q)|_=>T
 |.nD x=>match o with|.load t y=>AF y x&&BM P t==Y T|_=>T
 |.mL x i=>match o with|.indexAddr t y j=>AF y x&&AF j i&&EH P t==Y 1|_=>T
 |.ng x=>match o with|.load t y=>AF y x&&BM P t==Y T|_=>T
 |.mK x v=>match o with|.store t y u=>AF y x&&AF u v&&Bm P t==Y 1|_=>T
 |.mH q=>match o with|.box _ y=>AF y (.s q)|_=>T
 |.lc f ys _=>match o with|.call c=>(match c.callee with|.value (.func g)=>g==f&&A2 c.args.toList ys|_=>T)|_=>T
 |.ldg s n=>match o with|.load t y=>Operand.kH s y&&BM P t==Y X&&Bm P t==Y n|_=>T
 |.nj n _ x v=>match o with|.store t y u=>AF y x&&AF u v&&Bm P t==Y n|_=>T
 |.mJ=>match o with|.makeMap _ r=>r.isNone|_=>T
 |.nG s=>match o with|.move y|.assign y=>Operand.kH s y|_=>T
 |.kX f ys=>match o with|.call c=>(match c.callee with|.value (.func g)=>g==f&&A2 c.args.toList ys|_=>T)|_=>T
 |.nN _ m x=>match o with|.lookup t y z c=>c&&JW P t&&AF y m&&AF z x|_=>T
 |.nf _ m x v=>match o with|.mapUpdate t y z u=>JW P t&&AF y m&&AF z x&&AF u v|_=>T
 |.j7 _ m=>match o with|.range t y=>AF y m&&(match P.underlying t with|some (.map _ _)=>X|_=>T)|_=>T
 |.nC s=>match o with|.next y c=>!c&&Operand.kH s y|_=>T
 |.nE s=>match o with|.entry y=>Operand.kH s y|_=>T
def Hj:AB->Bool
 |.st ..=>X|.mh ..=>X|.mf ..=>X|.stx ..=>X|.nA ..=>X|.mK ..=>X|.nf ..=>X|.nj ..=>X|_=>T
section
variable{P:Program}{F0:Nat->Nat->Prop}{w0:W0}{O:AA}{a:Act}{w:World}{G:Ay}{d:Nat}{o:Oper}{K:EV->AA->Prop}
theorem Am.wp(h:Am P F0 w0 a w o d K)(b:o.dst=Y d){next:Act->World->Prop}{Q:Exit->Act->World->Prop}(f:∀e env' a' w',K e env'->KL a d a'->BF F0 w0 ((d,e)::env') a' w'->next a' w'):o.wp P a w next Q:=by
 obtain ⟨v,w',c,e,env',g,i⟩:=h;unfold Oper.wp;rw[c,Oper.upon_value,b];exact f e env' _ w' g ⟨_,rfl⟩ i
variable{α:Type}
theorem DE{a:Array α}{x:α}(h:a.toList=[x]):a=#[x]:=by
 cases a;simp_all
theorem Cl{a:Array α}{x y:α}(h:a.toList=[x,y]):a=#[x,y]:=by
 cases a;simp_all
theorem Bs{c:Call}{b:Callee}{e:Array Operand}{f:Array TypeId}(g:c.callee=b)(h:c.args=e)(i:c.argTypes=f):c={callee:=b,args:=e,argTypes:=f}:=by
 cases c;simp_all
theorem W6(A:AJ F0 w0 O a w G)(hd:d<a.tmps.size)(u:o.dst=Y d){p:AB}(b:Jg P o.op p=X)(M:Hj p=T)(h:p.wp (AO P) O (Y d) K)
  {next:Act->World->Prop}{Q:Exit->Act->World->Prop}(B:∀e env' a' w',K e env'->KL a d a'->BF F0 w0 ((d,e)::env') a' w'->next a' w'):o.wp P a w next Q:=by
 cases p<;>simp only[Jg]at b<;>try(exact absurd b Bool.false_ne_true)
 case mv x=>
  split at b
  next y e=>exact(Tt A hd (.inl e) b h).wp u B
  next y e=>exact(Tt A hd (.inr e) b h).wp u B
  .cases b
 case tk s=>
  split at b
  next y e=>rw[Operand.jL b]at e;exact(Tv A hd (.inl e) h).wp u B
  next y e=>rw[Operand.jL b]at e;exact(Tv A hd (.inr e) h).wp u B
  .cases b
 case mr n=>
  split at b
  next y e=>exact(Rd A hd (.inl e) (K8 b) h).wp u B
  next y e=>exact(Rd A hd (.inr e) (K8 b) h).wp u B
  .cases b
 case kK x k=>
  split at b
  next t y f e=>simp only[jP,beq_iff_eq]at b;exact(Km A hd (Q0 e b.2) b.1 h).wp u B
  next y e=>simp only[jP,beq_iff_eq]at b;obtain⟨rfl,b⟩:=b;exact(Km A hd (KI (.inl e)) b h).wp u B
  next y e=>simp only[jP,beq_iff_eq]at b;obtain⟨rfl,b⟩:=b;exact(Km A hd (KI (.inr (.inl e))) b h).wp u B
  next y e=>simp only[jP,beq_iff_eq]at b;obtain⟨rfl,b⟩:=b;exact(Km A hd (KI (.inr (.inr e))) b h).wp u B
  .cases b
 case bad s k=>
  split at b
  next t y j e=>simp only[jP]at b;rw[Operand.jL b.1]at e;exact(Kl A hd (Yl e b.2) h).wp u B
  next t y f e=>simp only[jP,beq_iff_eq]at b;rw[Operand.jL b.1]at e;exact(Kl A hd (Q0 e b.2) h).wp u B
  next y e=>simp only[jP,beq_iff_eq]at b;obtain⟨rfl,b⟩:=b;rw[Operand.jL b]at e;exact(Kl A hd (KI (.inl e)) h).wp u B
  next y e=>simp only[jP,beq_iff_eq]at b;obtain⟨rfl,b⟩:=b;rw[Operand.jL b]at e;exact(Kl A hd (KI (.inr (.inl e))) h).wp u B
  next y e=>simp only[jP,beq_iff_eq]at b;obtain⟨rfl,b⟩:=b;rw[Operand.jL b]at e;exact(Kl A hd (KI (.inr (.inr e))) h).wp u B
  .cases b
 case l4 x i n=>
  split at b
  next t y j e=>simp only[jP,beq_iff_eq]at b;exact(XZ A hd e b.1.1 b.1.2 b.2 h).wp u B
  .cases b
 case mZ x i n k=>
  split at b
  .rename_i t y j e;simp only[jP]at b;obtain⟨⟨C,D⟩,E⟩:=b;split at E
   next k' el J=>simp only[jP,beq_iff_eq]at E;obtain⟨rfl,H⟩:=E;exact(XN A hd e C D J H h).wp u B
   .cases E
  .cases b
 case ld x=>
  split at b
  next t y e=>simp only[jP,beq_iff_eq]at b;exact(ZG A hd e b.1 b.2 h).wp u B
  .cases b
 case nI x k=>
  split at b
  .rename_i t y f e;simp only[jP,beq_iff_eq]at b;refine(Km (S:=AO P) A hd (Q0 e b.2) b.1 ?_).wp u B;simp only[AB.wp]at h|-;split at h
   next row Z=>rw[WG A Z];exact h
   .exact h.elim
  .cases b
 case nP x n=>
  split at b
  .rename_i t y e;simp only[jP,beq_iff_eq]at b;refine(P7 (S:=AO P) A hd e b.1.1 b.1.2 b.2 ?_).wp u B;simp only[AB.wp]at h|-;split at h
   next row Z=>rw[WG A Z];exact h
   .exact h.elim
  .cases b
 case mn x n=>
  split at b
  next t y e=>simp only[jP,beq_iff_eq]at b;exact(P7 A hd e b.1.1 b.1.2 b.2 h).wp u B
  .cases b
 case nM s n=>
  split at b
  .rename_i t y e;simp only[jP,beq_iff_eq]at b;refine(P7 (S:=AO P) A hd e b.1.1 b.1.2 b.2 (y:=.s s) ?_).wp u B;simp only[AB.wp]at h|-;split at h
   next cs I=>simp only[AC.ev,I,Ao,AS];exact h
   .exact h.elim
  .cases b
 case nK x=>
  split at b
  next t y e=>simp only[jP,beq_iff_eq]at b;exact(Xe A hd e b.1 b.2 h).wp u B
  .cases b
 case bin k op x y=>
  split at b
  next op' t p q δ e=>simp only[jP,beq_iff_eq]at b;obtain⟨⟨⟨rfl,C⟩,D⟩,E⟩:=b;exact(XQ A hd e C D E h).wp u B
  .cases b
 case not x=>
  split at b
  next op t y e=>simp only[jP,beq_iff_eq]at b;obtain⟨rfl,C⟩:=b;exact(Xs A hd e C h).wp u B
  .cases b
 case neg x=>
  split at b
  next op t y e=>simp only[jP,beq_iff_eq]at b;obtain⟨rfl,C⟩:=b;exact(Xp A hd e C h).wp u B
  .cases b
 case pick c x y=>
  split at b
  next c' p q e=>simp only[jP]at b;exact(V8 A hd e b.1.1 b.1.2 b.2 h).wp u B
  .cases b
 case len x=>
  split at b
  .rename_i c e;unfold PN at b;split at b
   .rename_i y t C D E;simp only[jP]at b;obtain⟨H,L⟩:=b;split at L
    next el J=>rw[Bs C (DE D) (DE E)]at e;exact(Xf A hd e H J h).wp u B
    .cases L
    .cases L
   .cases b
  .cases b
 case mR x=>
  split at b
  .rename_i c e;unfold PN at b;split at b
   .rename_i y t C D E;simp only[jP]at b;obtain⟨H,L⟩:=b;split at L
    .cases L
    next J=>rw[Bs C (DE D) (DE E)]at e;exact(WA A hd e H J h).wp u B
    .cases L
   .cases b
  .cases b
 case lx n x lo hi=>
  split at b
  next t y l hh mx e=>simp only[jP,beq_iff_eq,l!]at b;obtain⟨⟨⟨⟨rfl,C⟩,D⟩,E⟩,H⟩:=b;exact(Xu A hd e C D E H h).wp u B
  .cases b
 case k8 x lo hi=>
  split at b
  .rename_i t y l hh mx e;simp only[jP,l!]at b;obtain⟨⟨⟨⟨rfl,C⟩,D⟩,E⟩,H⟩:=b;split at H
   next J=>exact(WB A hd e C D E J h).wp u B
   .cases H
  .cases b
 case ma z ζ=>
  split at b
  next t qs e=>exact(XR A hd e b h).wp u B
  .cases b
 case mE n ys=>
  split at b
  .rename_i t len ζ e;split at b
   .rename_i el J;split at b
    .rename_i i hi;split at b
     next z θ=>simp only[jP,beq_iff_eq,kY]at b;obtain⟨⟨⟨⟨⟨⟨C,D⟩,E⟩,H⟩,L⟩,F⟩,ε⟩:=b;exact(Xg A hd e J hi θ C D E H L F ε h).wp u B
     .cases b
    .cases b
   .cases b
  .cases b
 case app n x y=>
  split at b
  .rename_i c e;unfold PK at b;split at b
   .rename_i p q t δ s C D E;simp only[jP,beq_iff_eq]at b;obtain⟨⟨⟨H,L⟩,rfl⟩,F⟩:=b;split at F
    .rename_i el J;split at F
     .rename_i i hi;split at F
      next z θ=>simp only[jP,beq_iff_eq,kY]at F;obtain⟨⟨⟨ε,κ⟩,η⟩,R⟩:=F;rw[Bs C (Cl D) (Cl E),Operand.jL H]at e;exact(XP A hd e J hi θ ε κ η R L h).wp u B
      .cases F
     .cases F
    .cases F
   .cases b
  .cases b
 case call f ys=>
  split at b
  .rename_i c e;split at b
   next g I=>simp only[jP,beq_iff_eq]at b;obtain⟨rfl,C⟩:=b;rw[Bs I rfl rfl]at e;exact V4 A hd u e C h B
   .cases b
  .cases b
 case l8 x ys=>
  split at b
  .rename_i c e;split at b
   next g I=>simp only[jP]at b;rw[Bs I rfl rfl]at e;exact U4 A hd u e b.1 b.2 h B
   .cases b
  .cases b
 case kL f cs=>
  split at b
  .rename_i g first xs e
   simp only[jP,beq_iff_eq]at b;obtain⟨⟨rfl,C⟩,D⟩:=b;rw[Array.eq_empty_of_size_eq_zero C]at e;exact(XS A hd e D h).wp u B
  .cases b
 case ext x i=>
  split at b
  next y j s e=>simp only[jP,beq_iff_eq]at b;obtain⟨C,rfl⟩:=b;rw[Operand.jL C]at e;exact(XY A hd e h).wp u B
  .cases b
 case mt k x=>
  split at b
  .rename_i s t y e;simp only[jP]at b;obtain⟨C,D⟩:=b;split at D
   next k1 k2 hs ht=>simp only[beq_iff_eq]at D;subst D;exact(XX A hd e hs ht C h).wp u B
   .cases D
  .cases b
 case kQ x i=>
  split at b
  .rename_i t y j e;simp only[jP]at b;obtain⟨⟨C,D⟩,E⟩:=b;split at E
   next J=>exact(V9 A hd e C D J h).wp u B
   .cases E
  .cases b
 case mq x=>
  split at b
  next t y e=>exact(V3 A hd e b h).wp u B
  .cases b
 case mG x=>
  split at b
  next t y e=>exact(V1 A hd e b h).wp u B
  .cases b
 case mm mx x y=>
  split at b
  .rename_i c e;unfold ah at b;split at b
   next p q C D=>simp only[jP]at b;obtain⟨⟨rfl,E⟩,H⟩:=b;rw[Bs C (Cl D) rfl]at e;exact(Ts (mx:=X) A hd e E H h).wp u B
   next p q C D=>simp only[jP,l?]at b;obtain⟨⟨rfl,E⟩,H⟩:=b;rw[Bs C (Cl D) rfl]at e;exact(Ts (mx:=T) A hd e E H h).wp u B
   .cases b
  .cases b
 case mP cs=>
  split at b
  .rename_i t e;split at b
   .rename_i i hi;split at b
    next z θ=>exact(XO A hd e hi θ b h).wp u B
    .cases b
   .cases b
  .cases b
 case st n x v=>cases M
 case mh n s v=>cases M
 case mF x k n agg=>
  split at b
  next t y f e=>simp only[jP]at b;exact(V5 A hd e b.1 b.2 h).wp u B
  .cases b
 case nm s=>
  split at b
  next y e=>rw[Operand.jL b]at e;exact(S0 A hd (.inl e) h).wp u B
  next y e=>rw[Operand.jL b]at e;exact(S0 A hd (.inr e) h).wp u B
  .cases b
 case rel s=>
  split at b
  next y e=>rw[Operand.jL b]at e;exact(Sx A hd (.inl e) h).wp u B
  next y e=>rw[Operand.jL b]at e;exact(Sx A hd (.inr e) h).wp u B
  .cases b
 case mO s=>
  split at b
  next y e=>rw[Operand.jL b]at e;exact(Sz A hd (.inl e) h).wp u B
  next y e=>rw[Operand.jL b]at e;exact(Sz A hd (.inr e) h).wp u B
  .cases b
 case mc n=>
  split at b
  next y e=>exact(Rf A hd (.inl e) (K8 b) h).wp u B
  next y e=>exact(Rf A hd (.inr e) (K8 b) h).wp u B
  .cases b
 case mz x=>
  split at b
  .rename_i c e;unfold PN at b;split at b
   .rename_i y t C D E;simp only[jP]at b;obtain⟨H,L⟩:=b;split at L
    next el J=>rw[Bs C (DE D) (DE E)]at e;exact(WC A hd e H J h).wp u B
    .cases L
    .cases L
   .cases b
  .cases b
 case nB x i n=>
  split at b
  next t y j e=>simp only[jP,beq_iff_eq]at b;exact(S1 A hd e b.1.1 b.1.2 b.2 h).wp u B
  .cases b
 case xfa x k=>
  split at b
  next t y f e=>simp only[jP,beq_iff_eq]at b;exact(Xx A hd e b.1 b.2 h).wp u B
  .cases b
 case nJ x i n=>
  split at b
  next t y j e=>simp only[jP,beq_iff_eq]at b;exact(S1 A hd e b.1.1 b.1.2 b.2 (ZO h)).wp u B
  .cases b
 case nu x=>
  split at b
  next t y e=>simp only[jP,beq_iff_eq]at b;exact(S2 A hd e b.1 b.2 (ZP h)).wp u B
  .cases b
 case nv x=>
  split at b
  next t y e=>simp only[jP,beq_iff_eq]at b;exact(S2 A hd e b.1 b.2 h).wp u B
  .cases b
 case mf x v k=>cases M
 case lL n s y=>
  split at b
  .rename_i c e;unfold PK at b;split at b
   .rename_i p q t δ s' C D E h0;simp only[AC.s.injEq]at h0;subst h0;simp only[jP,beq_iff_eq]at b;obtain⟨⟨⟨H,L⟩,rfl⟩,F⟩:=b;split at F
    .rename_i el J;split at F
     .rename_i i hi;split at F
      next z θ=>simp only[jP,beq_iff_eq,kY]at F;obtain⟨⟨⟨ε,κ⟩,η⟩,R⟩:=F;rw[Bs C (Cl D) (Cl E),Operand.jL H]at e;exact(Vx A hd e J hi θ ε κ η R L h).wp u B
      .cases F
     .cases F
    .cases F
   .cases b
  .cases b
 case kW f ys=>
  split at b
  .rename_i c e;split at b
   next g I=>simp only[jP,beq_iff_eq]at b;obtain⟨rfl,C⟩:=b;rw[Bs I rfl rfl]at e;exact U5 A hd u e C h B
   .cases b
  .cases b
 case nF n zero x=>
  split at b
  next t y z e=>simp only[jP]at b;exact(Xj A hd e b.1.1 b.1.2 b.2 h).wp u B
  .cases b
 case lY n zero x=>
  split at b
  next t y z e=>simp only[jP]at b;exact(Tr A hd e b.1.1 b.1.2 b.2 h).wp u B
  .cases b
 case kU f x ys=>
  split at b
  .rename_i c e;split at b
   next g y zs I ha=>simp only[jP,beq_iff_eq]at b;obtain⟨rfl,C,D⟩:=b;rw[Bs I (show c.args=(y::zs).toArray by rw[<-ha]) rfl]at e;exact U2 A hd u e C D h B
   .cases b
  .cases b
 case lu f x=>
  split at b
  .rename_i c e;split at b
   next g y I ha=>simp only[jP,beq_iff_eq]at b;obtain⟨rfl,C⟩:=b;rw[Bs I (DE ha) rfl]at e;exact Uy A hd u e C h B
   .cases b
  .cases b
 case l9 n=>
  split at b
  next t len ζ e=>simp only[jP,beq_iff_eq,Array.isEmpty_iff]at b;obtain⟨⟨rfl,rfl⟩,C⟩:=b;exact(V7 A hd e C h).wp u B
  .cases b
 case ky gs=>
  split at b
  next t ζ e=>exact(Vz A hd e b h).wp u B
  .cases b
 case stx n s q=>cases M
 case nA x q=>cases M
 case nH x=>
  split at b
  next t y e=>simp only[jP,beq_iff_eq]at b;exact(Xb A hd e b.1 b.2 h).wp u B
  .cases b
 case m8 x=>
  split at b
  next t y e=>simp only[jP,beq_iff_eq]at b;exact(XU A hd e b.1 b.2 h).wp u B
  .cases b
 case cut n s hi=>
  split at b
  next t y l hh mx e=>simp only[jP,beq_iff_eq,l!]at b;obtain⟨⟨⟨⟨rfl,rfl⟩,C⟩,D⟩,E⟩:=b;rw[Operand.jL C]at e;exact(XW A hd e D E h).wp u B
  .cases b
 case k9 f ys=>
  split at b
  .rename_i c e;split at b
   next g I=>simp only[jP,beq_iff_eq]at b;obtain⟨rfl,C⟩:=b;rw[Bs I rfl rfl]at e;exact U1 A hd u e C h B
   .cases b
  .cases b
 case kD f ys i=>
  split at b
  .rename_i c e;split at b
   next g I=>simp only[jP,beq_iff_eq]at b;obtain⟨rfl,C⟩:=b;rw[Bs I rfl rfl]at e;exact Ux A hd u e C h B
   .cases b
  .cases b
 case lJ f ys=>
  split at b
  .rename_i c e;split at b
   next g I=>simp only[jP,beq_iff_eq]at b;obtain⟨rfl,C⟩:=b;rw[Bs I rfl rfl]at e;exact(Uz A hd e C h).wp u B
   .cases b
  .cases b
 case md n s z x=>
  split at b
  .rename_i c e;unfold Vj at b;split at b
   .rename_i p q t δ C D E;simp only[jP]at b;obtain⟨⟨H,L⟩,F⟩:=b;split at F
    .rename_i el kn J hu';split at F
     .rename_i i hi;split at F
      .rename_i zz θ;split at F
       next z0 hz0=>simp only[jP,beq_iff_eq,kY]at F;obtain⟨⟨⟨⟨rfl,ε⟩,κ⟩,η⟩,R⟩:=F;rw[Bs C (Cl D) (Cl E),Operand.isTmp_eq' H]at e;exact(Vy A hd e J hu' hi θ ε κ (DE hz0) η R L h).wp u B
       .cases F
      .cases F
     .cases F
    .cases F
   .cases b
  .cases b
 case ml ζ x=>
  split at b
  next t y e=>exact(V2 A hd e b h).wp u B
  .cases b
 case lH f ys=>
  split at b
  .rename_i c e;split at b
   next g I=>simp only[jP,beq_iff_eq]at b;obtain⟨rfl,C⟩:=b;rw[Bs I rfl rfl]at e;exact U0 A hd u e C h B
   .cases b
  .cases b
 case kS f ys=>
  split at b
  .rename_i c e;split at b
   next g I=>simp only[jP,beq_iff_eq]at b;obtain⟨rfl,C⟩:=b;rw[Bs I rfl rfl]at e;exact TP A hd u e C h B
   .cases b
  .cases b
 case ni x=>
  split at b
  next op t y z δ e=>simp only[jP,beq_iff_eq]at b;obtain⟨⟨⟨rfl,C⟩,D⟩,E⟩:=b;exact(Xa A hd e C D E h).wp u B
  .cases b
 case mj q=>
  split at b
  .rename_i t len ζ e;split at b
   next x hps=>simp only[jP]at b;rw[DE hps]at e;exact(V6 A hd e b.1 b.2 h).wp u B
   .cases b
  .cases b
 case k7 s q=>
  split at b
  .rename_i c e;unfold PK at b;split at b
   .rename_i p q' t δ s' C D E H;simp only[AC.s.injEq]at H;subst H;simp only[jP,beq_iff_eq]at b;obtain⟨⟨⟨H,L⟩,rfl⟩,F⟩:=b;split at F
    .rename_i el J;split at F
     .rename_i i hi;split at F
      .rename_i z θ;simp only[jP,beq_iff_eq,kY]at F;obtain⟨⟨⟨ε,κ⟩,η⟩,R⟩:=F;have hq:q'=.tmp q:=by
        cases q'<;>simp[AF]at L;rw[L]
       rw [Bs C (Cl D) (Cl E),Operand.jL H,hq]at e;exact(Vw A hd e J hi θ ε κ η h).wp u B
      .cases F
     .cases F
    .cases F
   .cases b
  .cases b
 case nD x=>
  split at b
  next t y e=>simp only[jP,beq_iff_eq]at b;exact(Xc A hd e b.1 b.2 h).wp u B
  .cases b
 case mL x i=>
  split at b
  next t y j e=>simp only[jP,beq_iff_eq]at b;exact(Xq A hd e b.1.1 b.1.2 b.2 h).wp u B
  .cases b
 case ng x=>
  split at b
  next t y e=>simp only[jP,beq_iff_eq]at b;exact(Xr A hd e b.1 b.2 h).wp u B
  .cases b
 case mK x v=>cases M
 case mH q=>
  split at b
  next t y e=>exact(V0 A hd e b h).wp u B
  .cases b
 case lc f ys i=>
  split at b
  .rename_i c e;split at b
   next g I=>simp only[jP,beq_iff_eq]at b;obtain⟨rfl,C⟩:=b;rw[Bs I rfl rfl]at e;exact Uw A hd u e C h B
   .cases b
  .cases b
 case mJ=>
  split at b
  .rename_i t r e;cases r with
   |none=>exact(Xi A hd e h).wp u B|some r=>cases b
  .cases b
 case nG s=>
  split at b
  next y e=>rw[Operand.jL b]at e;exact(Sw A hd (.inl e) h).wp u B
  next y e=>rw[Operand.jL b]at e;exact(Sw A hd (.inr e) h).wp u B
  .cases b
 case kX f ys=>
  split at b
  .rename_i c e;split at b
   next g I=>simp only[jP,beq_iff_eq]at b;obtain⟨rfl,C⟩:=b;rw[Bs I rfl rfl]at e;exact U3 A hd u e C h B
   .cases b
  .cases b
 case nN s m x=>
  split at b
  next t y z c e=>simp only[jP]at b;obtain⟨⟨⟨rfl,C⟩,D⟩,E⟩:=b;exact(Xl A hd e C D E h).wp u B
  .cases b
 case nf s m x v=>cases M
 case nj n ζ x v=>cases M
 case ldg s n=>
  split at b
  next t y e=>simp only[jP,beq_iff_eq]at b;rw[Operand.jL b.1.1]at e;exact(Xd A hd e b.1.2 b.2 h).wp u B
  .cases b
 case j7 s m=>
  split at b
  .rename_i t y e;simp only[jP]at b;obtain⟨C,D⟩:=b;split at D
   next k el J=>exact(Xn A hd e C J h).wp u B
   .cases D
  .cases b
 case nC s=>
  split at b
  next y c e=>simp only[jP,l?]at b;obtain⟨rfl,C⟩:=b;rw[Operand.jL C]at e;exact(Xm A hd e h).wp u B
  .cases b
 case nE s=>
  split at b
  next y e=>rw[Operand.jL b]at e;exact(Xh A hd e h).wp u B
  .cases b
end
end Go.Sf
namespace Go.Sf
open Go.RowKit (Below)
def PM(ops:Array Oper)(o:Oper)(r:PR):Bool:=
 match r.guard,o.guard with
 |none,none=>X|some (g,b),Y (j,b')=>b==b'&&((ops[j]?).bind (·.dst))==Y g|_,_=>T
def GN(P:Program)(N:Nat)(ops:Array Oper)(o:Oper)(r:PR):Bool:=
 PM ops o r&&(match o.dst,r.dst with
 |some d,Y d'=>d==d'&&decide (d<N)&&!Hj r.op&&Jg P o.op r.op|none,none=>Hj r.op&&Jg P o.op r.op|_,_=>T)
section
variable{P:Program}{F0:Nat->Nat->Prop}{w0:W0}{O:AA}{a:Act}{w:World}{ops:Array Oper}{o:Oper}{r:PR}{N:Nat}{p:Option (Nat×Value)}{K:AA->Prop}{next:Act->World->Prop}{Q:Exit->Act->World->Prop}
theorem BF.skip(b:BF F0 w0 O a w){d:Nat}(hd:d<a.tmps.size):BF F0 w0 ((d,.sk)::O) (a.put (Y d) undef) w:=by
 obtain ⟨G,h⟩:=b;exact⟨_,h.quiet (Below.refl _ _) d hd .sk undef (λ_=>none) V V V rfl trivial⟩
theorem Hn{o:Oper}(b:o.dst=none){K:EV->AA->Prop}(h:Dv P F0 w0 a w o K)(e:∀env' w',K .undef env'->BF F0 w0 env' a w'->next a w'):o.wp P a w next Q:=by
 obtain ⟨w',c,env',f,g⟩:=h;unfold Oper.wp;rw[c,Oper.upon_skip,b];exact e _ _ f g
theorem bG{S:FuncId->Fq->AZ->Prop}{n s:Nat}{v:AC}{d:Option Nat}{O:AA}{K:EV->AA->Prop}(h:(AB.mh n s v).wp S O d K):(AB.st n (.s s) v).wp S O d K:=by
 simp [AB.wp]at h|-
 grind [AC.place]
theorem Py(f:BF F0 w0 O a w)(D:GH N p a)(M:∀i v,p=Y (i,v)->r.dst≠Y i)(R:GN P N ops o r=X)(h:r.wp (AO P) O K)
  (E:∀env' a' w',K env'->GH N p a'->BF F0 w0 env' a' w'->next a' w'):
  if Region.wanted o (yielded ops a.tmps)then o.wp P a w next Q else next (a.put o.dst undef) w:=by
 simp [GN]at R;obtain⟨J,hd⟩:=R;have θ:r.op.wp (AO P) O r.dst (λe env'=>K (env'.put r.dst e))->o.wp P a w next Q:=by
  intro A;obtain⟨G,f⟩:=f;cases ho:o.dst with
  |some d=>
   cases B:r.dst with
   |none=>rw[ho,B]at hd;cases hd
   |some d'=>
    rw [ho,B]at hd;simp[kY,l?]at hd;obtain⟨⟨⟨rfl,I⟩,L⟩,c⟩:=hd;rw[B]at A;exact W6 f (D.size▸I) ho c L A λe env' a' w' k l k3=>E _ a' w' k (D.put (λi v ζ=>by rw[<-B];exact M i v ζ) l) k3
  |none=>
   cases B:r.dst with
   |some d'=>rw[ho,B]at hd;cases hd
   |none=>
    rw [ho,B]at hd;rw[B]at A;simp at hd;obtain⟨L,c⟩:=hd;generalize ζ:r.op=p at A L c;cases p<;>simp[Hj]at L<;>first|cases L|skip
    .rename_i n x v;simp[Jg]at c;split at c
     next t y u e=>simp at c;exact Hn ho (Tu f e c.1.1 c.1.2 c.2 A) λenv' w' k l=>E env' a w' k D l
     .cases c
    .rename_i n s v;simp[Jg]at c;split at c
     next t y u e=>simp at c;rw[Operand.jL c.1.1]at e;exact Hn ho (Tu f e (x':=.s s) i9 c.1.2 c.2 (bG A)) λenv' w' k l=>E env' a w' k D l
     .cases c
    .rename_i x v;simp[Jg]at c;split at c
     next t y u e=>simp at c;exact Hn ho (Xy f e c.1.1 c.1.2 c.2 A) λenv' w' k l=>E env' a w' k D l
     .cases c
    .rename_i n x q;simp[Jg]at c;split at c
     next t y u e=>simp at c;exact Hn ho (Xw f e c.1.1 c.1.2 c.2 A) λenv' w' k l=>E env' a w' k D l
     .cases c
    .rename_i x q;simp[Jg]at c;split at c
     next t y u e=>simp at c;exact Hn ho (XT f e c.1.1 c.1.2 c.2 A) λenv' w' k l=>E env' a w' k D l
     .cases c
    .rename_i x v;simp[Jg]at c;split at c
     next t y u e=>simp at c;exact Hn ho (Xt f e c.1.1 c.1.2 c.2 A) λenv' w' k l=>E env' a w' k D l
     .cases c
    .rename_i n ps x v;simp[Jg]at c;split at c
     next t y u e=>simp at c;exact Hn ho (Xv f e c.1.1 c.1.2 c.2 A) λenv' w' k l=>E env' a w' k D l
     .cases c
    .rename_i s m x v;simp[Jg]at c;split at c
     next t y z u e=>simp at c;exact Hn ho (Xo f e c.1.1.1 c.1.1.2 c.1.2 c.2 A) λenv' w' k l=>E env' a w' k D l
     .cases c
 have ε:K (O.put r.dst .sk)->next (a.put o.dst undef) w:=by
  intro δ;cases ho:o.dst with
  |some d=>
   cases B:r.dst with
   |none=>rw[ho,B]at hd;cases hd
   |some d'=>
    rw [ho,B]at hd;simp[kY,l?]at hd;obtain⟨⟨⟨rfl,I⟩,L⟩,c⟩:=hd;rw[B]at δ;exact E _ _ _ δ (D.put (λi v ζ=>by rw[<-B];exact M i v ζ) ⟨_,rfl⟩) (f.skip (D.size▸I))
  |none=>
   cases B:r.dst with
   |some d'=>rw[ho,B]at hd;cases hd
   |none=>rw[B]at δ;exact E _ _ _ δ D f
 unfold PR.wp at h;cases F:r.guard with
 |none=>
  rw [F]at h;cases C:o.guard with
  |none=>rw[ae (by simp[Region.wanted,C])];exact θ h|some g=>rw[PM,F,C]at J;cases J
 |some gb=>
  obtain ⟨g,b⟩:=gb;rw[F]at h;cases C:o.guard with
  |none=>rw[PM,F,C]at J;cases J
  |some jb=>
   obtain ⟨j,b'⟩:=jb;rw[PM,F,C]at J;simp at J;obtain⟨rfl,hj⟩:=J;simp only at h;split at h
   .rename_i q S;have hv:slot a g=.bool q:=by
     obtain ⟨G,f⟩:=f;have:=AR f S V;simpa only[AH,AV]using this
    have H:g<a.tmps.size:=by
     obtain ⟨G,f⟩:=f;exact A5 f S V
    have Z:yielded ops a.tmps j=Y q:=by
     have I:a.tmps[g]?=Y (.bool q):=by
      rw [slot,m_,m? H]at hv;rw[m? H];simpa using hv
     simp [yielded,hj,I]
    have A:Region.wanted o (yielded ops a.tmps)=(q==b):=by
     simp only[Region.wanted,C,Z];cases q<;>cases b<;>rfl
    rw [A];by_cases κ:q=b
    .subst κ;rw[ae V];exact θ (h.1 rfl)
    .have η:q=!b:=by cases q<;>cases b<;>simp_all
     rw [az (by simpa using κ)];exact ε (h.2 η)
   .rename_i S;have hv:slot a g=undef:=by
     obtain ⟨G,f⟩:=f;have:=AR f S V;simpa only[AH]using this
    have H:g<a.tmps.size:=by
     obtain ⟨G,f⟩:=f;exact A5 f S V
    have Z:yielded ops a.tmps j=none:=by
     have I:a.tmps[g]?=Y undef:=by
      rw [slot,m_,m? H]at hv;rw[m? H];simpa using hv
     simp [yielded,hj,I,undef]
    have A:Region.wanted o (yielded ops a.tmps)=T:=by
     simp only[Region.wanted,C,Z];cases b<;>rfl
    rw [A];exact ε h
   .exact h.elim
def M0:List PR->Bool
 |[]=>X|r::rs=>(match r.op,r.dst,r.guard with|.nk _,none,none=>X|_,_,_=>T)&&M0 rs
variable{rs:List PR}
theorem Yq:∀{O:AA},M0 rs=X->wpOps (AO P) K rs O->BF F0 w0 O a w->∃env',K env'/\BF F0 w0 env' a w:=by
 induction rs with
 |nil=>intro O _ h b;exact⟨O,h,b⟩|cons r rs l=>
  intro O c h b;simp[M0]at c;obtain⟨e,k⟩:=c;split at e
  .rename_i s f g i;simp[wpOps,PR.wp,f,g,i,AB.wp]at h;split at h
   next cs j=>obtain⟨G,b⟩:=b;exact l k h (b.nk j)
   .exact h.elim
  .cases e
def G0(P:Program)(N:Nat)(ops:Array Oper):List Oper->List PR->Bool
 |[],rs=>M0 rs|o::os,r::rs=>GN P N ops o r&&G0 P N ops os rs|_::_,[]=>T
theorem QY(m:∀O a w,K O->GH N p a->BF F0 w0 O a w->Q .normal a w):∀(os:List Oper)(rs:List PR)(k:Nat),ops.toList.drop k=os->G0 P N ops os rs=X->(∀i v,p=Y (i,v)->∀r∈rs,r.dst≠Y i)->∀(O:AA)(a:Act)(w:World),GH N p a->BF F0 w0 O a w ->
  wpOps (AO P) K rs O->Go.wpOps P ops Q (List.range' k os.length) a w
 |[],rs,k,_,b,_,O,a,w,g,j,h=>by
  obtain ⟨env',z,A⟩:=Yq b h j;exact m env' a w z g A
 |o::os,[],k,_,b,_,_,_,_,_,_,_=>by simp[G0]at b|o::os,r::rs,k,hd,b,c,O,a,w,g,j,h=>by
  simp [G0]at b;have y:ops[k]?=Y o:=by
   rw [<-Array.getElem?_toList];have:=congrArg (λl=>l[0]?) hd
   grind
  have f:ops.toList.drop (k+1)=os:=by
   grind [List.tail,List.tail_drop]
  simp [List.range'_succ];rw[Go.wpOps_cons];unfold Go.wpOp;rw[y];simp;have:=Py (Q:=Q) (next:=Go.wpOps P ops Q (List.range' (k+1) os.length)) j g (λi v e=>c i v e r V) b.1 h λenv' a' w' q s t=>QY m os rs (k+1) f b.2 (λi v e r u=>c i v e r (by simp[u])) env' a' w' s t q
  grind
theorem So{id:Nat}(b:G0 P N ops ops.toList rs=X)(c:∀i v,p=Y (i,v)->∀r∈rs,r.dst≠Y i)(e:GH N p a)(f:BF F0 w0 O a w)(h:wpOps (AO P) K rs O)
  (g:∀O a w,K O->GH N p a->BF F0 w0 O a w->Q .normal a w):(Code.region id ops T).wp P Q a w:=by
 refine Go.wp_region ?_;rw[List.range_eq_range',<-Array.length_toList];exact QY g ops.toList rs 0 rfl b c O a w e f h
end
end Go.Sf
