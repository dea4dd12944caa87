/- One operation against the checker, and regions in the text's order. -/
import Derived.Test.YthcncnllajfkfaaGreatSfN
import Derived.Orders
set_option linter.all false
open Option renaming some->Y
open Bool renaming true->X,false->T
open Option renaming isNone_iff_eq_none->v1
open Bool renaming not_eq_true'->v5
open Array renaming getD_eq_getD_getElem?->v6,getElem?_eq_getElem->v_
namespace Go.Sf
open Go.RowKit (Below)
def Operand.Aaf(n:Nat):Operand->Bool
 |.tmp m=>m==n|_=>T
variable{n:Nat}{x:Operand}
theorem Operand.og(h:Operand.Aaf n x=X):x=.tmp n:=by
 cases x<;>simp[Operand.Aaf]at h;rw[h]
def YQ:Operand->Bool
 |.const v=>Nz v|_=>T
theorem Sn(h:YQ x=X):∃v,x=.const v/\Nz v=X:=by
 cases x<;>simp[YQ]at h;exact⟨_,rfl,h⟩
def WD(P:Program)(str:Bool)(c:Call)(x:AG):Bool:=
 match c.callee,c.args.toList,c.argTypes.toList with
 |.builtin .len,[y],[t]=>AL y x&&(match P.underlying t with|some (.slice _)=>!str|some .string=>str|_=>T)
 |_,_,_=>T
def WB(P:Program)(n:Nat)(c:Call)(x y:AG):Bool:=
 match c.callee,c.args.toList,c.argTypes.toList,x with
 |.builtin .append,[p,q],[t,t'],.s s=>Operand.Aaf s p&&AL q y&&t==t'&&(match P.underlying t with
  |some (.slice e)=>(match P.info? e with
   |some i=>(match i.zero with|some z=>i.size==n&&decide (i.bytes<=4096)&&z.cells.size==n&&decide (0<n)|none=>T)
   |none=>T)
  |_=>T)
 |_,_,_,_=>T
def yB(mx:Bool)(c:Call)(x y:AG):Bool:=
 match c.callee,c.args.toList with
 |.builtin .max,[p,q]=>mx&&AL p x&&AL q y|.builtin .min,[p,q]=>!mx&&AL p x&&AL q y|_,_=>T
def RD(P:Program)(o:Op):AE->Bool
 |.mv x=>match o with|.move y|.assign y=>AL y x|_=>T
 |.tk s=>match o with|.move y|.assign y=>Operand.Aaf s y|_=>T
 |.Abe _=>match o with|.move y|.assign y=>YQ y|_=>T
 |.fad x k=>match o with|.fieldAddr t y f=>AL y x&&Qv P t f==Y k|.move y|.assign y|.nilCheck y=>k==0&&AL y x|_=>T
 |.bad s k=>match o with|.indexAddr t y j=>Operand.Aaf s y&&mB P t j k|.fieldAddr t y f=>Operand.Aaf s y&&Qv P t f==Y k|.move y|.assign y|.nilCheck y=>k==0&&Operand.Aaf s y|_=>T
 |.iad x i n=>match o with|.indexAddr t y j=>AL y x&&AL j i&&KZ P t==Y n|_=>T
 |.aad x i n k=>match o with|.indexAddr t y j=>AL y x&&AL j i&&(match P.underlying t with|some (.array k' e)=>k'==k&&DO P e==Y n|_=>T)|_=>T
 |.ld x=>match o with|.load t y=>AL y x&&CW P t==Y T|_=>T
 |.fdv x k=>match o with|.fieldAddr t y f=>AL y x&&Qv P t f==Y k|_=>T
 |.ldv x n=>match o with|.load t y=>AL y x&&CW P t==Y X&&DO P t==Y n|_=>T
 |.lda x n=>match o with|.load t y=>AL y x&&CW P t==Y X&&DO P t==Y n|_=>T
 |.ldb s n=>match o with|.load t y=>AL y (.s s)&&CW P t==Y X&&DO P t==Y n|_=>T
 |.ldt x=>match o with|.load t y=>AL y x&&CW P t==Y T|_=>T
 |.bin k op x y=>match o with|.binOp op' t p q _=>op'==op&&Pf P k t&&AL p x&&AL q y|_=>T
 |.not x=>match o with|.unOp op _ y=>op==.not&&AL y x|_=>T
 |.neg x=>match o with|.unOp op _ y=>op==.neg&&AL y x|_=>T
 |.pick c x y=>match o with|.pick c' p q=>AL c' c&&AL p x&&AL q y|_=>T
 |.len x=>match o with|.call c=>WD P T c x|_=>T
 |.Abr x=>match o with|.call c=>WD P X c x|_=>T
 |.slc n x lo hi=>match o with|.slice t y l h mx=>mx.isNone&&AL y x&&Ph l lo&&Ph h hi&&KZ P t==Y n|_=>T
 |.Aaq x lo hi=>match o with|.slice t y l h mx=>mx.isNone&&AL y x&&Ph l lo&&Ph h hi&&(match P.underlying t with|some .string=>X|_=>T)|_=>T
 |.bld z ps=>match o with|.build t qs=>mC P t z qs.toList ps|_=>T
 |.lst n ys=>match o with
  |.buildSlice t len ps=>(match P.underlying t with
   |some (.slice e)=>(match P.info? e with
    |some i=>(match i.zero with
     |some z=>i.size==n&&decide (0<n)&&z.cells.toList.all Value.oneCell'&&decide (0<z.cells.size)&&len==ps.size&&decide (len*n<=2^ 24)&&UN 0 ps.toList ys|none=>T)
    |none=>T)
   |_=>T)
  |_=>T
 |.app n x y=>match o with|.call c=>WB P n c x y|_=>T
 |.call f ys=>match o with|.call c=>(match c.callee with|.value (.func g)=>g==f&&Bv c.args.toList ys|_=>T)|_=>T
 |.Aa6 x ys=>match o with|.call c=>(match c.callee with|.value g=>AL g x&&Bv c.args.toList ys|_=>T)|_=>T
 |.clo f cs=>match o with|.makeFunc (.func g) first xs=>g==f&&first.size==0&&Bv xs.toList cs|_=>T
 |.ext x i=>match o,x with|.extract y j,.s s=>Operand.Aaf s y&&j==i|_,_=>T
 |.cvt k x=>match o with|.convert s t y=>AL y x&&(match P.underlying s,P.underlying t with|some (.int _),Y (.int k')=>k'==k|_,_=>T)|_=>T
 |.Aam x i=>match o with|.index t y j=>AL y x&&AL j i&&(match P.underlying t with|some .string=>X|_=>T)|_=>T
 |.Abd x=>match o with|.box _ y=>AL y x|_=>T
 |.Abp x=>match o with|.box _ y=>AL y x|_=>T
 |.mm mx x y=>match o with|.call c=>yB mx c x y|_=>T
 |.alc cs=>match o with|.alloc t=>(match P.info? t with|some i=>(match i.zero with|some z=>QF cs z.cells.toList|none=>T)|none=>T)|_=>T
 |.st n x v=>match o with|.store t y u=>AL y x&&AL u v&&DO P t==Y n|_=>T
 |.stb n s v=>match o with|.store t y u=>Operand.Aaf s y&&AL u v&&DO P t==Y n|_=>T
 |.frz _=>T|.Abi x k n agg=>match o with|.field t y f=>AL y x&&mE P t f k n agg|_=>T
 |.xal s=>match o with|.move y|.assign y=>Operand.Aaf s y|_=>T
 |.Abj x=>match o with|.call c=>WD P T c x|_=>T
 |.xia x i n=>match o with|.indexAddr t y j=>AL y x&&AL j i&&KZ P t==Y n|_=>T
 |.xfa x k=>match o with|.fieldAddr t y f=>AL y x&&Qv P t f==Y k|_=>T
 |.xld x=>match o with|.load t y=>AL y x&&CW P t==Y T|_=>T
 |.xst x v k=>match o with|.store t y u=>AL y x&&AL u v&&DO P t==Y k|_=>T
 |.rel s=>match o with|.move y|.assign y=>Operand.Aaf s y|_=>T
 |.Aa4 _=>match o with|.move y|.assign y=>YQ y|_=>T
 |.tkx s=>match o with|.move y|.assign y=>Operand.Aaf s y|_=>T
 |.AaY n s y=>match o with|.call c=>WB P n c (.s s) y|_=>T
 |.Aax f ys=>match o with|.call c=>(match c.callee with|.value (.func g)=>g==f&&Bv c.args.toList ys|_=>T)|_=>T
 |.mkx n zero x=>match o with|.makeSlice t y z=>AL y x&&AL z x&&rF P t n zero|_=>T
 |.Aas f x ys=>match o with|.call c=>(match c.callee,c.args.toList with|.value (.func g),y::zs=>g==f&&(AL y x&&Bv zs ys)|_,_=>T)|_=>T
 |.AaI f x=>match o with|.call c=>(match c.callee,c.args.toList with|.value (.func g),[y]=>g==f&&AL y x|_,_=>T)|_=>T
 |.Aba n=>match o with|.buildSlice t len ps=>len==0&&ps.isEmpty&&fg P t n|_=>T
 |.Aah gs=>match o with|.build t ps=>fc P t ps.toList gs|_=>T
 |.stx n s q=>match o with|.store t y u=>AL y (.s s)&&AL u (.s q)&&DO P t==Y n|_=>T
 |.AaU f ys=>match o with|.call c=>(match c.callee with|.value (.func g)=>g==f&&Bv c.args.toList ys|_=>T)|_=>T
 |.Aar f ys=>match o with|.call c=>(match c.callee with|.value (.func g)=>g==f&&Bv c.args.toList ys|_=>T)|_=>T
 |.isn x=>match o with|.binOp op t y z _=>op==.eql&&AL y x&&TQ z&&cr P t|_=>T
 |.lac x=>match o with|.load t y=>AL y x&&CW P t==Y T|_=>T
 |.ctk x=>match o with|.load t y=>AL y x&&CW P t==Y T|_=>T
 |.cpt x q=>match o with|.store t y u=>AL y x&&AL u (.s q)&&DO P t==Y 1|_=>T
 |.cut n s hi=>match o with|.slice t y l (Y h) mx=>mx.isNone&&l.isNone&&Operand.Aaf s y&&AL h hi&&KZ P t==Y n|_=>T
 |.AaE f ys=>match o with|.call c=>(match c.callee with|.value (.func g)=>g==f&&Bv c.args.toList ys|_=>T)|_=>T
 |.AaW _ x=>match o with|.box _ y=>AL y x|_=>T
 |.AaV f ys=>match o with|.call c=>(match c.callee with|.value (.func g)=>g==f&&Bv c.args.toList ys|_=>T)|_=>T
 |.Aa9 n s z x=>match o with|.call c=>oQ P n s z x c|_=>T
 |.zt f ys _=>match o with|.call c=>(match c.callee with|.value (.func g)=>g==f&&Bv c.args.toList ys|_=>T)|_=>T
 |.Abb q=>match o with|.buildSlice t len ps=>(match len,ps.toList with|1,[(0,x)]=>fe P t&&AL x (.s q)|_,_=>T)|_=>T
 |.AaA s q=>match o with|.call c=>WB P 1 c (.s s) (.s q)|_=>T
 |.lan x=>match o with|.load t y=>AL y x&&CW P t==Y T|_=>T
 |.nia x i=>match o with|.indexAddr t y j=>AL y x&&AL j i&&KZ P t==Y 1|_=>T
 |.nld x=>match o with|.load t y=>AL y x&&CW P t==Y T|_=>T
 |.nst x v=>match o with|.store t y u=>AL y x&&AL u v&&DO P t==Y 1|_=>T
 |.Abk q=>match o with|.box _ y=>AL y (.s q)|_=>T
 |.AaD f ys _=>match o with|.call c=>(match c.callee with|.value (.func g)=>g==f&&Bv c.args.toList ys|_=>T)|_=>T
 |.ldg s n=>match o with|.load t y=>Operand.Aaf s y&&CW P t==Y X&&DO P t==Y n|_=>T
 |.stq n _ x v=>match o with|.store t y u=>AL y x&&AL u v&&DO P t==Y n|_=>T
 |.mkm=>match o with|.makeMap _ r=>r.isNone|_=>T
 |.mvm s=>match o with|.move y|.assign y=>Operand.Aaf s y|_=>T
 |.Aaw f ys=>match o with|.call c=>(match c.callee with|.value (.func g)=>g==f&&Bv c.args.toList ys|_=>T)|_=>T
 |.mlk _ m x=>match o with|.lookup t y z c=>c&&Qz P t&&AL y m&&AL z x|_=>T
 |.mup _ m x v=>match o with|.mapUpdate t y z u=>Qz P t&&AL y m&&AL z x&&AL u v|_=>T
 |.sR _ m=>match o with|.range t y=>AL y m&&(match P.underlying t with|some (.map _ _)=>X|_=>T)|_=>T
 |.mnx s=>match o with|.next y c=>!c&&Operand.Aaf s y|_=>T
 |.men s=>match o with|.entry y=>Operand.Aaf s y|_=>T
def Ov:AE->Bool
 |.st ..=>X|.stb ..=>X|.xst ..=>X|.stx ..=>X|.cpt ..=>X|.nst ..=>X|.mup ..=>X|.stq ..=>X|_=>T
section
variable{P:Program}{F0:Nat->Nat->Prop}{w0:W0}{O:AB}{a:Act}{w:World}{G:Bp}{d:Nat}{o:Oper}{K:EV->AB->Prop}
theorem BG.wp(h:BG P F0 w0 a w o d K)(b:o.dst=Y d){next:Act->World->Prop}{Q:Exit->Act->World->Prop}(f:∀e env' a' w',K e env'->R3 a d a'->CI F0 w0 ((d,e)::env') a' w'->next a' w'):o.wp P a w next Q:=by
 obtain ⟨v,w',c,e,env',g,i⟩:=h;unfold Oper.wp;rw[c,Oper.upon_value,b];exact f e env' _ w' g ⟨_,rfl⟩ i
variable{α:Type}
theorem Hf{a:Array α}{x:α}(h:a.toList=[x]):a=#[x]:=by
 cases a;simp_all
theorem GQ{a:Array α}{x y:α}(h:a.toList=[x,y]):a=#[x,y]:=by
 cases a;simp_all
theorem Da{c:Call}{ca:Callee}{b:Array Operand}{e:Array TypeId}(f:c.callee=ca)(g:c.args=b)(h:c.argTypes=e):c={callee:=ca,args:=b,argTypes:=e}:=by
 cases c;simp_all
theorem rG(A:AO F0 w0 O a w G)(hd:d<a.tmps.size)(u:o.dst=Y d){p:AE}(b:RD P o.op p=X)(M:Ov p=T)(h:p.wp (AT P) O (Y d) K)
  {next:Act->World->Prop}{Q:Exit->Act->World->Prop}(B:∀e env' a' w',K e env'->R3 a d a'->CI F0 w0 ((d,e)::env') a' w'->next a' w'):o.wp P a w next Q:=by
 cases p<;>simp only[RD]at b<;>try(exact absurd b Bool.false_ne_true)
 case mv x=>
  split at b
  next y e=>exact(ko A hd (.inl e) b h).wp u B
  next y e=>exact(ko A hd (.inr e) b h).wp u B
  .cases b
 case tk s=>
  split at b
  next y e=>rw[Operand.og b]at e;exact(kv A hd (.inl e) h).wp u B
  next y e=>rw[Operand.og b]at e;exact(kv A hd (.inr e) h).wp u B
  .cases b
 case Abe n=>
  split at b
  next y e=>exact(bv A hd (.inl e) (Sn b) h).wp u B
  next y e=>exact(bv A hd (.inr e) (Sn b) h).wp u B
  .cases b
 case fad x k=>
  split at b
  next t y f e=>simp only[ne,beq_iff_eq]at b;exact(SV A hd (ZN e b.2) b.1 h).wp u B
  next y e=>simp only[ne,beq_iff_eq]at b;obtain⟨rfl,b⟩:=b;exact(SV A hd (Rz (.inl e)) b h).wp u B
  next y e=>simp only[ne,beq_iff_eq]at b;obtain⟨rfl,b⟩:=b;exact(SV A hd (Rz (.inr (.inl e))) b h).wp u B
  next y e=>simp only[ne,beq_iff_eq]at b;obtain⟨rfl,b⟩:=b;exact(SV A hd (Rz (.inr (.inr e))) b h).wp u B
  .cases b
 case bad s k=>
  split at b
  next t y j e=>simp only[ne]at b;rw[Operand.og b.1]at e;exact(SU A hd (uX e b.2) h).wp u B
  next t y f e=>simp only[ne,beq_iff_eq]at b;rw[Operand.og b.1]at e;exact(SU A hd (ZN e b.2) h).wp u B
  next y e=>simp only[ne,beq_iff_eq]at b;obtain⟨rfl,b⟩:=b;rw[Operand.og b]at e;exact(SU A hd (Rz (.inl e)) h).wp u B
  next y e=>simp only[ne,beq_iff_eq]at b;obtain⟨rfl,b⟩:=b;rw[Operand.og b]at e;exact(SU A hd (Rz (.inr (.inl e))) h).wp u B
  next y e=>simp only[ne,beq_iff_eq]at b;obtain⟨rfl,b⟩:=b;rw[Operand.og b]at e;exact(SU A hd (Rz (.inr (.inr e))) h).wp u B
  .cases b
 case iad x i n=>
  split at b
  next t y j e=>simp only[ne,beq_iff_eq]at b;exact(sZ A hd e b.1.1 b.1.2 b.2 h).wp u B
  .cases b
 case aad x i n k=>
  split at b
  .rename_i t y j e;simp only[ne]at b;obtain⟨⟨C,D⟩,E⟩:=b;split at E
   next k' el J=>simp only[ne,beq_iff_eq]at E;obtain⟨rfl,H⟩:=E;exact(sN A hd e C D J H h).wp u B
   .cases E
  .cases b
 case ld x=>
  split at b
  next t y e=>simp only[ne,beq_iff_eq]at b;exact(wL A hd e b.1 b.2 h).wp u B
  .cases b
 case fdv x k=>
  split at b
  .rename_i t y f e;simp only[ne,beq_iff_eq]at b;refine(SV (S:=AT P) A hd (ZN e b.2) b.1 ?_).wp u B;simp only[AE.wp]at h|-;split at h
   next row Z=>rw[qA A Z];exact h
   .exact h.elim
  .cases b
 case ldv x n=>
  split at b
  .rename_i t y e;simp only[ne,beq_iff_eq]at b;refine(Xf (S:=AT P) A hd e b.1.1 b.1.2 b.2 ?_).wp u B;simp only[AE.wp]at h|-;split at h
   next row Z=>rw[qA A Z];exact h
   .exact h.elim
  .cases b
 case lda x n=>
  split at b
  next t y e=>simp only[ne,beq_iff_eq]at b;exact(Xf A hd e b.1.1 b.1.2 b.2 h).wp u B
  .cases b
 case ldb s n=>
  split at b
  .rename_i t y e;simp only[ne,beq_iff_eq]at b;refine(Xf (S:=AT P) A hd e b.1.1 b.1.2 b.2 (y:=.s s) ?_).wp u B;simp only[AE.wp]at h|-;split at h
   next cs I=>simp only[AG.ev,I,BS,Ax];exact h
   .exact h.elim
  .cases b
 case ldt x=>
  split at b
  next t y e=>simp only[ne,beq_iff_eq]at b;exact(si A hd e b.1 b.2 h).wp u B
  .cases b
 case bin k op x y=>
  split at b
  next op' t p q δ e=>simp only[ne,beq_iff_eq]at b;obtain⟨⟨⟨rfl,C⟩,D⟩,E⟩:=b;exact(sQ A hd e C D E h).wp u B
  .cases b
 case not x=>
  split at b
  next op t y e=>simp only[ne,beq_iff_eq]at b;obtain⟨rfl,C⟩:=b;exact(tD A hd e C h).wp u B
  .cases b
 case neg x=>
  split at b
  next op t y e=>simp only[ne,beq_iff_eq]at b;obtain⟨rfl,C⟩:=b;exact(tA A hd e C h).wp u B
  .cases b
 case pick c x y=>
  split at b
  next c' p q e=>simp only[ne]at b;exact(pw A hd e b.1.1 b.1.2 b.2 h).wp u B
  .cases b
 case len x=>
  split at b
  .rename_i c e;unfold WD at b;split at b
   .rename_i y t C D E;simp only[ne]at b;obtain⟨H,L⟩:=b;split at L
    next el J=>rw[Da C (Hf D) (Hf E)]at e;exact(sj A hd e H J h).wp u B
    .cases L
    .cases L
   .cases b
  .cases b
 case Abr x=>
  split at b
  .rename_i c e;unfold WD at b;split at b
   .rename_i y t C D E;simp only[ne]at b;obtain⟨H,L⟩:=b;split at L
    .cases L
    next J=>rw[Da C (Hf D) (Hf E)]at e;exact(py A hd e H J h).wp u B
    .cases L
   .cases b
  .cases b
 case slc n x lo hi=>
  split at b
  next t y l hh mx e=>simp only[ne,beq_iff_eq,v1]at b;obtain⟨⟨⟨⟨rfl,C⟩,D⟩,E⟩,H⟩:=b;exact(tF A hd e C D E H h).wp u B
  .cases b
 case Aaq x lo hi=>
  split at b
  .rename_i t y l hh mx e;simp only[ne,v1]at b;obtain⟨⟨⟨⟨rfl,C⟩,D⟩,E⟩,H⟩:=b;split at H
   next J=>exact(pz A hd e C D E J h).wp u B
   .cases H
  .cases b
 case bld z ζ=>
  split at b
  next t qs e=>exact(sS A hd e b h).wp u B
  .cases b
 case lst n ys=>
  split at b
  .rename_i t len ζ e;split at b
   .rename_i el J;split at b
    .rename_i i hi;split at b
     next z θ=>simp only[ne,beq_iff_eq,sA]at b;obtain⟨⟨⟨⟨⟨⟨C,D⟩,E⟩,H⟩,L⟩,F⟩,ε⟩:=b;exact(sq A hd e J hi θ C D E H L F ε h).wp u B
     .cases b
    .cases b
   .cases b
  .cases b
 case app n x y=>
  split at b
  .rename_i c e;unfold WB at b;split at b
   .rename_i p q t δ s C D E;simp only[ne,beq_iff_eq]at b;obtain⟨⟨⟨H,L⟩,rfl⟩,F⟩:=b;split at F
    .rename_i el J;split at F
     .rename_i i hi;split at F
      next z θ=>simp only[ne,beq_iff_eq,sA]at F;obtain⟨⟨⟨ε,κ⟩,η⟩,R⟩:=F;rw[Da C (GQ D) (GQ E),Operand.og H]at e;exact(sP A hd e J hi θ ε κ η R L h).wp u B
      .cases F
     .cases F
    .cases F
   .cases b
  .cases b
 case call f ys=>
  split at b
  .rename_i c e;split at b
   next g I=>simp only[ne,beq_iff_eq]at b;obtain⟨rfl,C⟩:=b;rw[Da I rfl rfl]at e;exact pj A hd u e C h B
   .cases b
  .cases b
 case Aa6 x ys=>
  split at b
  .rename_i c e;split at b
   next g I=>simp only[ne]at b;rw[Da I rfl rfl]at e;exact nD A hd u e b.1 b.2 h B
   .cases b
  .cases b
 case clo f cs=>
  split at b
  .rename_i g first xs e
   simp only[ne,beq_iff_eq]at b;obtain⟨⟨rfl,C⟩,D⟩:=b;rw[Array.eq_empty_of_size_eq_zero C]at e;exact(sT A hd e D h).wp u B
  .cases b
 case ext x i=>
  split at b
  next y j s e=>simp only[ne,beq_iff_eq]at b;obtain⟨C,rfl⟩:=b;rw[Operand.og C]at e;exact(sY A hd e h).wp u B
  .cases b
 case cvt k x=>
  split at b
  .rename_i s t y e;simp only[ne]at b;obtain⟨C,D⟩:=b;split at D
   next k1 k2 hs ht=>simp only[beq_iff_eq]at D;subst D;exact(sX A hd e hs ht C h).wp u B
   .cases D
  .cases b
 case Aam x i=>
  split at b
  .rename_i t y j e;simp only[ne]at b;obtain⟨⟨C,D⟩,E⟩:=b;split at E
   next J=>exact(px A hd e C D J h).wp u B
   .cases E
  .cases b
 case Abd x=>
  split at b
  next t y e=>exact(pi A hd e b h).wp u B
  .cases b
 case Abp x=>
  split at b
  next t y e=>exact(pZ A hd e b h).wp u B
  .cases b
 case mm mx x y=>
  split at b
  .rename_i c e;unfold yB at b;split at b
   next p q C D=>simp only[ne]at b;obtain⟨⟨rfl,E⟩,H⟩:=b;rw[Da C (GQ D) rfl]at e;exact(km (mx:=X) A hd e E H h).wp u B
   next p q C D=>simp only[ne,v5]at b;obtain⟨⟨rfl,E⟩,H⟩:=b;rw[Da C (GQ D) rfl]at e;exact(km (mx:=T) A hd e E H h).wp u B
   .cases b
  .cases b
 case alc cs=>
  split at b
  .rename_i t e;split at b
   .rename_i i hi;split at b
    next z θ=>exact(sO A hd e hi θ b h).wp u B
    .cases b
   .cases b
  .cases b
 case st n x v=>cases M
 case stb n s v=>cases M
 case Abi x k n agg=>
  split at b
  next t y f e=>simp only[ne]at b;exact(pk A hd e b.1 b.2 h).wp u B
  .cases b
 case xal s=>
  split at b
  next y e=>rw[Operand.og b]at e;exact(iQ A hd (.inl e) h).wp u B
  next y e=>rw[Operand.og b]at e;exact(iQ A hd (.inr e) h).wp u B
  .cases b
 case rel s=>
  split at b
  next y e=>rw[Operand.og b]at e;exact(iO A hd (.inl e) h).wp u B
  next y e=>rw[Operand.og b]at e;exact(iO A hd (.inr e) h).wp u B
  .cases b
 case tkx s=>
  split at b
  next y e=>rw[Operand.og b]at e;exact(iP A hd (.inl e) h).wp u B
  next y e=>rw[Operand.og b]at e;exact(iP A hd (.inr e) h).wp u B
  .cases b
 case Aa4 n=>
  split at b
  next y e=>exact(bw A hd (.inl e) (Sn b) h).wp u B
  next y e=>exact(bw A hd (.inr e) (Sn b) h).wp u B
  .cases b
 case Abj x=>
  split at b
  .rename_i c e;unfold WD at b;split at b
   .rename_i y t C D E;simp only[ne]at b;obtain⟨H,L⟩:=b;split at L
    next el J=>rw[Da C (Hf D) (Hf E)]at e;exact(p5 A hd e H J h).wp u B
    .cases L
    .cases L
   .cases b
  .cases b
 case xia x i n=>
  split at b
  next t y j e=>simp only[ne,beq_iff_eq]at b;exact(tJ A hd e b.1.1 b.1.2 b.2 h).wp u B
  .cases b
 case xfa x k=>
  split at b
  next t y f e=>simp only[ne,beq_iff_eq]at b;exact(tI A hd e b.1 b.2 h).wp u B
  .cases b
 case xld x=>
  split at b
  next t y e=>simp only[ne,beq_iff_eq]at b;exact(tK A hd e b.1 b.2 h).wp u B
  .cases b
 case xst x v k=>cases M
 case AaY n s y=>
  split at b
  .rename_i c e;unfold WB at b;split at b
   .rename_i p q t δ s' C D E h0;simp only[AG.s.injEq]at h0;subst h0;simp only[ne,beq_iff_eq]at b;obtain⟨⟨⟨H,L⟩,rfl⟩,F⟩:=b;split at F
    .rename_i el J;split at F
     .rename_i i hi;split at F
      next z θ=>simp only[ne,beq_iff_eq,sA]at F;obtain⟨⟨⟨ε,κ⟩,η⟩,R⟩:=F;rw[Da C (GQ D) (GQ E),Operand.og H]at e;exact(pV A hd e J hi θ ε κ η R L h).wp u B
      .cases F
     .cases F
    .cases F
   .cases b
  .cases b
 case Aax f ys=>
  split at b
  .rename_i c e;split at b
   next g I=>simp only[ne,beq_iff_eq]at b;obtain⟨rfl,C⟩:=b;rw[Da I rfl rfl]at e;exact nE A hd u e C h B
   .cases b
  .cases b
 case mkx n zero x=>
  split at b
  next t y z e=>simp only[ne]at b;exact(wM A hd e b.1.1 b.1.2 b.2 h).wp u B
  .cases b
 case Aas f x ys=>
  split at b
  .rename_i c e;split at b
   next g y zs I ha=>simp only[ne,beq_iff_eq]at b;obtain⟨rfl,C,D⟩:=b;rw[Da I (show c.args=(y::zs).toArray by rw[<-ha]) rfl]at e;exact nB A hd u e C D h B
   .cases b
  .cases b
 case AaI f x=>
  split at b
  .rename_i c e;split at b
   next g y I ha=>simp only[ne,beq_iff_eq]at b;obtain⟨rfl,C⟩:=b;rw[Da I (Hf ha) rfl]at e;exact m7 A hd u e C h B
   .cases b
  .cases b
 case Aba n=>
  split at b
  next t len ζ e=>simp only[ne,beq_iff_eq,Array.isEmpty_iff]at b;obtain⟨⟨rfl,rfl⟩,C⟩:=b;exact(pv A hd e C h).wp u B
  .cases b
 case Aah gs=>
  split at b
  next t ζ e=>exact(pX A hd e b h).wp u B
  .cases b
 case stx n s q=>cases M
 case cpt x q=>cases M
 case lac x=>
  split at b
  next t y e=>simp only[ne,beq_iff_eq]at b;exact(se A hd e b.1 b.2 h).wp u B
  .cases b
 case ctk x=>
  split at b
  next t y e=>simp only[ne,beq_iff_eq]at b;exact(sV A hd e b.1 b.2 h).wp u B
  .cases b
 case cut n s hi=>
  split at b
  next t y l hh mx e=>simp only[ne,beq_iff_eq,v1]at b;obtain⟨⟨⟨⟨rfl,rfl⟩,C⟩,D⟩,E⟩:=b;rw[Operand.og C]at e;exact(sW A hd e D E h).wp u B
  .cases b
 case AaE f ys=>
  split at b
  .rename_i c e;split at b
   next g I=>simp only[ne,beq_iff_eq]at b;obtain⟨rfl,C⟩:=b;rw[Da I rfl rfl]at e;exact nA A hd u e C h B
   .cases b
  .cases b
 case zt f ys i=>
  split at b
  .rename_i c e;split at b
   next g I=>simp only[ne,beq_iff_eq]at b;obtain⟨rfl,C⟩:=b;rw[Da I rfl rfl]at e;exact mz A hd u e C h B
   .cases b
  .cases b
 case AaV f ys=>
  split at b
  .rename_i c e;split at b
   next g I=>simp only[ne,beq_iff_eq]at b;obtain⟨rfl,C⟩:=b;rw[Da I rfl rfl]at e;exact(m8 A hd e C h).wp u B
   .cases b
  .cases b
 case Aa9 n s z x=>
  split at b
  .rename_i c e;unfold oQ at b;split at b
   .rename_i p q t δ C D E;simp only[ne]at b;obtain⟨⟨H,L⟩,F⟩:=b;split at F
    .rename_i el kn J hu';split at F
     .rename_i i hi;split at F
      .rename_i zz θ;split at F
       next z0 hz0=>simp only[ne,beq_iff_eq,sA]at F;obtain⟨⟨⟨⟨rfl,ε⟩,κ⟩,η⟩,R⟩:=F;rw[Da C (GQ D) (GQ E),Operand.isTmp_eq' H]at e;exact(pW A hd e J hu' hi θ ε κ (Hf hz0) η R L h).wp u B
       .cases F
      .cases F
     .cases F
    .cases F
   .cases b
  .cases b
 case AaW ζ x=>
  split at b
  next t y e=>exact(ph A hd e b h).wp u B
  .cases b
 case AaU f ys=>
  split at b
  .rename_i c e;split at b
   next g I=>simp only[ne,beq_iff_eq]at b;obtain⟨rfl,C⟩:=b;rw[Da I rfl rfl]at e;exact m9 A hd u e C h B
   .cases b
  .cases b
 case Aar f ys=>
  split at b
  .rename_i c e;split at b
   next g I=>simp only[ne,beq_iff_eq]at b;obtain⟨rfl,C⟩:=b;rw[Da I rfl rfl]at e;exact jN A hd u e C h B
   .cases b
  .cases b
 case isn x=>
  split at b
  next op t y z δ e=>simp only[ne,beq_iff_eq]at b;obtain⟨⟨⟨rfl,C⟩,D⟩,E⟩:=b;exact(sd A hd e C D E h).wp u B
  .cases b
 case Abb q=>
  split at b
  .rename_i t len ζ e;split at b
   next x hps=>simp only[ne]at b;rw[Hf hps]at e;exact(pu A hd e b.1 b.2 h).wp u B
   .cases b
  .cases b
 case AaA s q=>
  split at b
  .rename_i c e;unfold WB at b;split at b
   .rename_i p q' t δ s' C D E H;simp only[AG.s.injEq]at H;subst H;simp only[ne,beq_iff_eq]at b;obtain⟨⟨⟨H,L⟩,rfl⟩,F⟩:=b;split at F
    .rename_i el J;split at F
     .rename_i i hi;split at F
      .rename_i z θ;simp only[ne,beq_iff_eq,sA]at F;obtain⟨⟨⟨ε,κ⟩,η⟩,R⟩:=F;have hq:q'=.tmp q:=by
        cases q'<;>simp[AL]at L;rw[L]
       rw [Da C (GQ D) (GQ E),Operand.og H,hq]at e;exact(pU A hd e J hi θ ε κ η h).wp u B
      .cases F
     .cases F
    .cases F
   .cases b
  .cases b
 case lan x=>
  split at b
  next t y e=>simp only[ne,beq_iff_eq]at b;exact(sf A hd e b.1 b.2 h).wp u B
  .cases b
 case nia x i=>
  split at b
  next t y j e=>simp only[ne,beq_iff_eq]at b;exact(tB A hd e b.1.1 b.1.2 b.2 h).wp u B
  .cases b
 case nld x=>
  split at b
  next t y e=>simp only[ne,beq_iff_eq]at b;exact(tC A hd e b.1 b.2 h).wp u B
  .cases b
 case nst x v=>cases M
 case Abk q=>
  split at b
  next t y e=>exact(pY A hd e b h).wp u B
  .cases b
 case AaD f ys i=>
  split at b
  .rename_i c e;split at b
   next g I=>simp only[ne,beq_iff_eq]at b;obtain⟨rfl,C⟩:=b;rw[Da I rfl rfl]at e;exact my A hd u e C h B
   .cases b
  .cases b
 case mkm=>
  split at b
  .rename_i t r e;cases r with
   |none=>exact(sv A hd e h).wp u B|some r=>cases b
  .cases b
 case mvm s=>
  split at b
  next y e=>rw[Operand.og b]at e;exact(iN A hd (.inl e) h).wp u B
  next y e=>rw[Operand.og b]at e;exact(iN A hd (.inr e) h).wp u B
  .cases b
 case Aaw f ys=>
  split at b
  .rename_i c e;split at b
   next g I=>simp only[ne,beq_iff_eq]at b;obtain⟨rfl,C⟩:=b;rw[Da I rfl rfl]at e;exact nC A hd u e C h B
   .cases b
  .cases b
 case mlk s m x=>
  split at b
  next t y z c e=>simp only[ne]at b;obtain⟨⟨⟨rfl,C⟩,D⟩,E⟩:=b;exact(sz A hd e C D E h).wp u B
  .cases b
 case mup s m x v=>cases M
 case stq n ζ x v=>cases M
 case ldg s n=>
  split at b
  next t y e=>simp only[ne,beq_iff_eq]at b;rw[Operand.og b.1.1]at e;exact(sg A hd e b.1.2 b.2 h).wp u B
  .cases b
 case sR s m=>
  split at b
  .rename_i t y e;simp only[ne]at b;obtain⟨C,D⟩:=b;split at D
   next k el J=>exact(s8 A hd e C J h).wp u B
   .cases D
  .cases b
 case mnx s=>
  split at b
  next y c e=>simp only[ne,v5]at b;obtain⟨rfl,C⟩:=b;rw[Operand.og C]at e;exact(s7 A hd e h).wp u B
  .cases b
 case men s=>
  split at b
  next y e=>rw[Operand.og b]at e;exact(su A hd e h).wp u B
  .cases b
end
end Go.Sf
namespace Go.Sf
open Go.RowKit (Below)
def WC(ops:Array Oper)(o:Oper)(r:PR):Bool:=
 match r.guard,o.guard with
 |none,none=>X|some (g,b),Y (j,b')=>b==b'&&((ops[j]?).bind (·.dst))==Y g|_,_=>T
def Nv(P:Program)(N:Nat)(ops:Array Oper)(o:Oper)(r:PR):Bool:=
 WC ops o r&&(match o.dst,r.dst with
 |some d,Y d'=>d==d'&&decide (d<N)&&!Ov r.op&&RD P o.op r.op|none,none=>Ov r.op&&RD P o.op r.op|_,_=>T)
section
variable{P:Program}{F0:Nat->Nat->Prop}{w0:W0}{O:AB}{a:Act}{w:World}{ops:Array Oper}{o:Oper}{r:PR}{N:Nat}{p:Option (Nat×Value)}{K:AB->Prop}{next:Act->World->Prop}{Q:Exit->Act->World->Prop}
theorem CI.skip(b:CI F0 w0 O a w){d:Nat}(hd:d<a.tmps.size):CI F0 w0 ((d,.sk)::O) (a.put (Y d) undef) w:=by
 obtain ⟨G,h⟩:=b;exact⟨_,h.quiet (Below.refl _ _) d hd .sk undef (λ_=>none) V V V rfl trivial⟩
theorem O1{o:Oper}(b:o.dst=none){K:EV->AB->Prop}(h:Iy P F0 w0 a w o K)(e:∀env' w',K .undef env'->CI F0 w0 env' a w'->next a w'):o.wp P a w next Q:=by
 obtain ⟨w',c,env',f,g⟩:=h;unfold Oper.wp;rw[c,Oper.upon_skip,b];exact e _ _ f g
theorem zB{S:FuncId->Fq->A9->Prop}{n s:Nat}{v:AG}{d:Option Nat}{O:AB}{K:EV->AB->Prop}(h:(AE.stb n s v).wp S O d K):(AE.st n (.s s) v).wp S O d K:=by
 simp [AE.wp]at h|-
 grind [AG.place]
theorem XP(f:CI F0 w0 O a w)(C:Me N p a)(L:∀i v,p=Y (i,v)->r.dst≠Y i)(M:Nv P N ops o r=X)(h:r.wp (AT P) O K)
  (D:∀env' a' w',K env'->Me N p a'->CI F0 w0 env' a' w'->next a' w'):
  if Region.wanted o (yielded ops a.tmps)then o.wp P a w next Q else next (a.put o.dst undef) w:=by
 simp [Nv]at M;obtain⟨I,hd⟩:=M;have S:r.op.wp (AT P) O r.dst (λe env'=>K (env'.put r.dst e))->o.wp P a w next Q:=by
  intro A;obtain⟨G,f⟩:=f;cases ho:o.dst with
  |some d=>
   cases hr:r.dst with
   |none=>rw[ho,hr]at hd;cases hd
   |some Z=>
    rw [ho,hr]at hd;simp[sA,v5]at hd;obtain⟨⟨⟨rfl,H⟩,J⟩,c⟩:=hd;rw[hr]at A;exact rG f (C.size▸H) ho c J A λe env' a' w' k l k3=>D _ a' w' k (C.put (λi v η=>by rw[<-hr];exact L i v η) l) k3
  |none=>
   cases hr:r.dst with
   |some Z=>rw[ho,hr]at hd;cases hd
   |none=>
    rw [ho,hr]at hd;rw[hr]at A;simp at hd;obtain⟨J,c⟩:=hd;generalize η:r.op=p at A J c;cases p<;>simp[Ov]at J<;>first|cases J|skip
    .rename_i n x v;simp[RD]at c;split at c
     next t y u e=>simp at c;exact O1 ho (ku f e c.1.1 c.1.2 c.2 A) λenv' w' k l=>D env' a w' k C l
     .cases c
    .rename_i n s v;simp[RD]at c;split at c
     next t y u e=>simp at c;rw[Operand.og c.1.1]at e;exact O1 ho (ku f e (x':=.s s) p! c.1.2 c.2 (zB A)) λenv' w' k l=>D env' a w' k C l
     .cases c
    .rename_i x v;simp[RD]at c;split at c
     next t y u e=>simp at c;exact O1 ho (tL f e c.1.1 c.1.2 c.2 A) λenv' w' k l=>D env' a w' k C l
     .cases c
    .rename_i n x q;simp[RD]at c;split at c
     next t y u e=>simp at c;exact O1 ho (tH f e c.1.1 c.1.2 c.2 A) λenv' w' k l=>D env' a w' k C l
     .cases c
    .rename_i x q;simp[RD]at c;split at c
     next t y u e=>simp at c;exact O1 ho (sU f e c.1.1 c.1.2 c.2 A) λenv' w' k l=>D env' a w' k C l
     .cases c
    .rename_i x v;simp[RD]at c;split at c
     next t y u e=>simp at c;exact O1 ho (tE f e c.1.1 c.1.2 c.2 A) λenv' w' k l=>D env' a w' k C l
     .cases c
    .rename_i n ps x v;simp[RD]at c;split at c
     next t y u e=>simp at c;exact O1 ho (tG f e c.1.1 c.1.2 c.2 A) λenv' w' k l=>D env' a w' k C l
     .cases c
    .rename_i s m x v;simp[RD]at c;split at c
     next t y z u e=>simp at c;exact O1 ho (s9 f e c.1.1.1 c.1.1.2 c.1.2 c.2 A) λenv' w' k l=>D env' a w' k C l
     .cases c
 have θ:K (O.put r.dst .sk)->next (a.put o.dst undef) w:=by
  intro ζ;cases ho:o.dst with
  |some d=>
   cases hr:r.dst with
   |none=>rw[ho,hr]at hd;cases hd
   |some Z=>
    rw [ho,hr]at hd;simp[sA,v5]at hd;obtain⟨⟨⟨rfl,H⟩,J⟩,c⟩:=hd;rw[hr]at ζ;exact D _ _ _ ζ (C.put (λi v η=>by rw[<-hr];exact L i v η) ⟨_,rfl⟩) (f.skip (C.size▸H))
  |none=>
   cases hr:r.dst with
   |some Z=>rw[ho,hr]at hd;cases hd
   |none=>rw[hr]at ζ;exact D _ _ _ ζ C f
 unfold PR.wp at h;cases E:r.guard with
 |none=>
  rw [E]at h;cases B:o.guard with
  |none=>rw[a6 (by simp[Region.wanted,B])];exact S h|some g=>rw[WC,E,B]at I;cases I
 |some gb=>
  obtain ⟨g,b⟩:=gb;rw[E]at h;cases B:o.guard with
  |none=>rw[WC,E,B]at I;cases I
  |some jb=>
   obtain ⟨j,b'⟩:=jb;rw[WC,E,B]at I;simp at I;obtain⟨rfl,hj⟩:=I;simp only at h;split at h
   .rename_i q R;have hv:slot a g=.bool q:=by
     obtain ⟨G,f⟩:=f;have:=AZ f R V;simpa only[AN,A2]using this
    have F:g<a.tmps.size:=by
     obtain ⟨G,f⟩:=f;exact B5 f R V
    have δ:yielded ops a.tmps j=Y q:=by
     have H:a.tmps[g]?=Y (.bool q):=by
      rw [slot,v6,v_ F]at hv;rw[v_ F];simpa using hv
     simp [yielded,hj,H]
    have A:Region.wanted o (yielded ops a.tmps)=(q==b):=by
     simp only[Region.wanted,B,δ];cases q<;>cases b<;>rfl
    rw [A];by_cases ε:q=b
    .subst ε;rw[a6 V];exact S (h.1 rfl)
    .have κ:q=!b:=by cases q<;>cases b<;>simp_all
     rw [ac s_];exact θ (h.2 κ)
   .rename_i R;have hv:slot a g=undef:=by
     obtain ⟨G,f⟩:=f;have:=AZ f R V;simpa only[AN]using this
    have F:g<a.tmps.size:=by
     obtain ⟨G,f⟩:=f;exact B5 f R V
    have δ:yielded ops a.tmps j=none:=by
     have H:a.tmps[g]?=Y undef:=by
      rw [slot,v6,v_ F]at hv;rw[v_ F];simpa using hv
     simp [yielded,hj,H,undef]
    have A:Region.wanted o (yielded ops a.tmps)=T:=by
     simp only[Region.wanted,B,δ];cases b<;>rfl
    rw [A];exact θ h
   .exact h.elim
def UL:List PR->Bool
 |[]=>X|r::rs=>(match r.op,r.dst,r.guard with|.frz _,none,none=>X|_,_,_=>T)&&UL rs
variable{rs:List PR}
theorem uo:∀{O:AB},UL rs=X->wpOps (AT P) K rs O->CI F0 w0 O a w->∃env',K env'/\CI F0 w0 env' a w:=by
 induction rs with
 |nil=>intro O _ h b;exact⟨O,h,b⟩|cons r rs l=>
  intro O c h b;simp[UL]at c;obtain⟨e,k⟩:=c;split at e
  .rename_i s f g i;simp[wpOps,PR.wp,f,g,i,AE.wp]at h;split at h
   next cs j=>obtain⟨G,b⟩:=b;exact l k h (b.frz j)
   .exact h.elim
  .cases e
def N3(P:Program)(N:Nat)(ops:Array Oper):List Oper->List PR->Bool
 |[],rs=>UL rs|o::os,r::rs=>Nv P N ops o r&&N3 P N ops os rs|_::_,[]=>T
theorem Ya(m:∀O a w,K O->Me N p a->CI F0 w0 O a w->Q .normal a w):∀(os:List Oper)(rs:List PR)(k:Nat),ops.toList.drop k=os->N3 P N ops os rs=X->(∀i v,p=Y (i,v)->∀r∈rs,r.dst≠Y i)->∀(O:AB)(a:Act)(w:World),Me N p a->CI F0 w0 O a w ->
  wpOps (AT P) K rs O->Go.wpOps P ops Q (List.range' k os.length) a w
 |[],rs,k,_,b,_,O,a,w,g,j,h=>by
  obtain ⟨env',y,z⟩:=uo b h j;exact m env' a w y g z
 |o::os,[],k,_,b,_,_,_,_,_,_,_=>by simp[N3]at b|o::os,r::rs,k,hd,b,c,O,a,w,g,j,h=>by
  simp [N3]at b;have u:ops[k]?=Y o:=by
   rw [<-Array.getElem?_toList];have:=congrArg (λl=>l[0]?) hd
   grind
  have f:ops.toList.drop (k+1)=os:=by
   grind [List.tail,List.tail_drop]
  simp [List.range'_succ];rw[Go.wpOps_cons];unfold Go.wpOp;rw[u];simp;have:=XP (Q:=Q) (next:=Go.wpOps P ops Q (List.range' (k+1) os.length)) j g (λi v e=>c i v e r V) b.1 h λenv' a' w' q s t=>Ya m os rs (k+1) f b.2 (λi v e r hr=>c i v e r (by simp[hr])) env' a' w' s t q
  grind
theorem g8{id:Nat}(b:N3 P N ops ops.toList rs=X)(c:∀i v,p=Y (i,v)->∀r∈rs,r.dst≠Y i)(e:Me N p a)(f:CI F0 w0 O a w)(h:wpOps (AT P) K rs O)
  (g:∀O a w,K O->Me N p a->CI F0 w0 O a w->Q .normal a w):(Code.region id ops T).wp P Q a w:=by
 refine Go.wp_region ?_;rw[List.range_eq_range',<-Array.length_toList];exact Ya g ops.toList rs 0 rfl b c O a w e f h
end
end Go.Sf
