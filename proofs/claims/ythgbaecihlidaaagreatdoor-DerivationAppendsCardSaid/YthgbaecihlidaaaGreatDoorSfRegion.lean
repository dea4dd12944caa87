/- One operation against the checker, and regions in the text's order. -/
import Derived.Test.YthgbaecihlidaaaGreatDoorSfN
import Derived.Orders
set_option linter.all false
namespace Go.Sf
open Go.RowKit (Below)
def Operand.Aay(n:Nat):Operand->Bool
 |.tmp m=>m==n|_=>false
variable{n:Nat}{x:Operand}
theorem Operand.sc(h:Operand.Aay n x=true):x=.tmp n:=by
 cases x<;>simp[Operand.Aay]at h;rw[h]
def Um:Operand->Bool
 |.const v=>Ku v|_=>false
theorem Pb(h:Um x=true):∃v,x=.const v/\Ku v=true:=by
 cases x<;>simp[Um]at h;exact⟨_,rfl,h⟩
def TE(P:Program)(str:Bool)(c:Call)(x:AE):Bool:=
 match c.callee,c.args.toList,c.argTypes.toList with
 |.builtin .len,[y],[t]=>AG y x&&(match P.underlying t with|some (.slice _)=>!str|some .string=>str|_=>false)
 |_,_,_=>false
def TC(P:Program)(n:Nat)(c:Call)(x y:AE):Bool:=
 match c.callee,c.args.toList,c.argTypes.toList,x with
 |.builtin .append,[p,q],[t,t'],.s s=>Operand.Aay s p&&AG q y&&t==t'&&(match P.underlying t with
  |some (.slice e)=>(match P.info? e with
   |some i=>(match i.zero with|some z=>i.size==n&&decide (i.bytes<=4096)&&z.cells.size==n&&decide (0<n)|none=>false)
   |none=>false)
  |_=>false)
 |_,_,_,_=>false
def pI(mx:Bool)(c:Call)(x y:AE):Bool:=
 match c.callee,c.args.toList with
 |.builtin .max,[p,q]=>mx&&AG p x&&AG q y|.builtin .min,[p,q]=>!mx&&AG p x&&AG q y|_,_=>false
def OE(P:Program)(o:Op):AD->Bool
 |.mv x=>match o with|.move y|.assign y=>AG y x|_=>false
 |.tk s=>match o with|.move y|.assign y=>Operand.Aay s y|_=>false
 |.Abz _=>match o with|.move y|.assign y=>Um y|_=>false
 |.fad x k=>match o with|.fieldAddr t y f=>AG y x&&Nv P t f==some k|.move y|.assign y|.nilCheck y=>k==0&&AG y x|_=>false
 |.bad s k=>match o with|.indexAddr t y j=>Operand.Aay s y&&bw P t j k|.fieldAddr t y f=>Operand.Aay s y&&Nv P t f==some k|.move y|.assign y|.nilCheck y=>k==0&&Operand.Aay s y|_=>false
 |.iad x i n=>match o with|.indexAddr t y j=>AG y x&&AG j i&&H7 P t==some n|_=>false
 |.aad x i n k=>match o with|.indexAddr t y j=>AG y x&&AG j i&&(match P.underlying t with|some (.array k' e)=>k'==k&&Ce P e==some n|_=>false)|_=>false
 |.ld x=>match o with|.load t y=>AG y x&&Bw P t==some false|_=>false
 |.fdv x k=>match o with|.fieldAddr t y f=>AG y x&&Nv P t f==some k|_=>false
 |.ldv x n=>match o with|.load t y=>AG y x&&Bw P t==some true&&Ce P t==some n|_=>false
 |.lda x n=>match o with|.load t y=>AG y x&&Bw P t==some true&&Ce P t==some n|_=>false
 |.ldb s n=>match o with|.load t y=>AG y (.s s)&&Bw P t==some true&&Ce P t==some n|_=>false
 |.ldt x=>match o with|.load t y=>AG y x&&Bw P t==some false|_=>false
 |.bin k op x y=>match o with|.binOp op' t p q _=>op'==op&&ML P k t&&AG p x&&AG q y|_=>false
 |.not x=>match o with|.unOp op _ y=>op==.not&&AG y x|_=>false
 |.neg x=>match o with|.unOp op _ y=>op==.neg&&AG y x|_=>false
 |.pick c x y=>match o with|.pick c' p q=>AG c' c&&AG p x&&AG q y|_=>false
 |.len x=>match o with|.call c=>TE P false c x|_=>false
 |.AbM x=>match o with|.call c=>TE P true c x|_=>false
 |.slc n x lo hi=>match o with|.slice t y l h mx=>mx.isNone&&AG y x&&MN l lo&&MN h hi&&H7 P t==some n|_=>false
 |.Aas x lo hi=>match o with|.slice t y l h mx=>mx.isNone&&AG y x&&MN l lo&&MN h hi&&(match P.underlying t with|some .string=>true|_=>false)|_=>false
 |.bld z ps=>match o with|.build t qs=>bz P t z qs.toList ps|_=>false
 |.lst n ys=>match o with
  |.buildSlice t len ps=>(match P.underlying t with
   |some (.slice e)=>(match P.info? e with
    |some i=>(match i.zero with
     |some z=>i.size==n&&decide (0<n)&&z.cells.toList.all Value.oneCell'&&decide (0<z.cells.size)&&len==ps.size&&decide (len*n<=2^ 24)&&RU 0 ps.toList ys|none=>false)
    |none=>false)
   |_=>false)
  |_=>false
 |.app n x y=>match o with|.call c=>TC P n c x y|_=>false
 |.call f ys=>match o with|.call c=>(match c.callee with|.value (.func g)=>g==f&&BU c.args.toList ys|_=>false)|_=>false
 |.Abm x ys=>match o with|.call c=>(match c.callee with|.value g=>AG g x&&BU c.args.toList ys|_=>false)|_=>false
 |.clo f cs=>match o with|.makeFunc (.func g) first xs=>g==f&&first.size==0&&BU xs.toList cs|_=>false
 |.ext x i=>match o,x with|.extract y j,.s s=>Operand.Aay s y&&j==i|_,_=>false
 |.cvt k x=>match o with|.convert s t y=>AG y x&&(match P.underlying s,P.underlying t with|some (.int _),some (.int k')=>k'==k|_,_=>false)|_=>false
 |.AaE x i=>match o with|.index t y j=>AG y x&&AG j i&&(match P.underlying t with|some .string=>true|_=>false)|_=>false
 |.Abx x=>match o with|.box _ y=>AG y x|_=>false
 |.AbF x=>match o with|.box _ y=>AG y x|_=>false
 |.mm mx x y=>match o with|.call c=>pI mx c x y|_=>false
 |.alc cs=>match o with|.alloc t=>(match P.info? t with|some i=>(match i.zero with|some z=>M8 cs z.cells.toList|none=>false)|none=>false)|_=>false
 |.st n x v=>match o with|.store t y u=>AG y x&&AG u v&&Ce P t==some n|_=>false
 |.stb n s v=>match o with|.store t y u=>Operand.Aay s y&&AG u v&&Ce P t==some n|_=>false
 |.frz _=>false|.AbP x k n agg=>match o with|.field t y f=>AG y x&&b7 P t f k n agg|_=>false
 |.xal s=>match o with|.move y|.assign y=>Operand.Aay s y|_=>false
 |.AbE x=>match o with|.call c=>TE P false c x|_=>false
 |.xia x i n=>match o with|.indexAddr t y j=>AG y x&&AG j i&&H7 P t==some n|_=>false
 |.xfa x k=>match o with|.fieldAddr t y f=>AG y x&&Nv P t f==some k|_=>false
 |.xld x=>match o with|.load t y=>AG y x&&Bw P t==some false|_=>false
 |.xst x v k=>match o with|.store t y u=>AG y x&&AG u v&&Ce P t==some k|_=>false
 |.rel s=>match o with|.move y|.assign y=>Operand.Aay s y|_=>false
 |.Abt _=>match o with|.move y|.assign y=>Um y|_=>false
 |.tkx s=>match o with|.move y|.assign y=>Operand.Aay s y|_=>false
 |.Abg n s y=>match o with|.call c=>TC P n c (.s s) y|_=>false
 |.AaQ f ys=>match o with|.call c=>(match c.callee with|.value (.func g)=>g==f&&BU c.args.toList ys|_=>false)|_=>false
 |.mkx n zero x=>match o with|.makeSlice t y z=>AG y x&&AG z x&&iY P t n zero|_=>false
 |.AaD f x ys=>match o with|.call c=>(match c.callee,c.args.toList with|.value (.func g),y::zs=>g==f&&(AG y x&&BU zs ys)|_,_=>false)|_=>false
 |.Aa2 f x=>match o with|.call c=>(match c.callee,c.args.toList with|.value (.func g),[y]=>g==f&&AG y x|_,_=>false)|_=>false
 |.Abr n=>match o with|.buildSlice t len ps=>len==0&&ps.isEmpty&&YO P t n|_=>false
 |.Aaz gs=>match o with|.build t ps=>YM P t ps.toList gs|_=>false
 |.stx n s q=>match o with|.store t y u=>AG y (.s s)&&AG u (.s q)&&Ce P t==some n|_=>false
 |.Abe f ys=>match o with|.call c=>(match c.callee with|.value (.func g)=>g==f&&BU c.args.toList ys|_=>false)|_=>false
 |.AaF f ys=>match o with|.call c=>(match c.callee with|.value (.func g)=>g==f&&BU c.args.toList ys|_=>false)|_=>false
 |.isn x=>match o with|.binOp op t y z _=>op==.eql&&AG y x&&Qn z&&XJ P t|_=>false
 |.lac x=>match o with|.load t y=>AG y x&&Bw P t==some false|_=>false
 |.ctk x=>match o with|.load t y=>AG y x&&Bw P t==some false|_=>false
 |.cpt x q=>match o with|.store t y u=>AG y x&&AG u (.s q)&&Ce P t==some 1|_=>false
 |.cut n s hi=>match o with|.slice t y l (some h) mx=>mx.isNone&&l.isNone&&Operand.Aay s y&&AG h hi&&H7 P t==some n|_=>false
 |.AaV f ys=>match o with|.call c=>(match c.callee with|.value (.func g)=>g==f&&BU c.args.toList ys|_=>false)|_=>false
 |.AbD _ x=>match o with|.box _ y=>AG y x|_=>false
 |.Abd f ys=>match o with|.call c=>(match c.callee with|.value (.func g)=>g==f&&BU c.args.toList ys|_=>false)|_=>false
 |.Abo n s z x=>match o with|.call c=>eW P n s z x c|_=>false
 |.AaJ f ys _=>match o with|.call c=>(match c.callee with|.value (.func g)=>g==f&&BU c.args.toList ys|_=>false)|_=>false
 |.Abw q=>match o with|.buildSlice t len ps=>(match len,ps.toList with|1,[(0,x)]=>YN P t&&AG x (.s q)|_,_=>false)|_=>false
 |.AaT s q=>match o with|.call c=>TC P 1 c (.s s) (.s q)|_=>false
 |.lan x=>match o with|.load t y=>AG y x&&Bw P t==some false|_=>false
 |.nia x i=>match o with|.indexAddr t y j=>AG y x&&AG j i&&H7 P t==some 1|_=>false
 |.nld x=>match o with|.load t y=>AG y x&&Bw P t==some false|_=>false
 |.nst x v=>match o with|.store t y u=>AG y x&&AG u v&&Ce P t==some 1|_=>false
 |.AbG q=>match o with|.box _ y=>AG y (.s q)|_=>false
 |.AaU f ys _=>match o with|.call c=>(match c.callee with|.value (.func g)=>g==f&&BU c.args.toList ys|_=>false)|_=>false
 |.ldg s n=>match o with|.load t y=>Operand.Aay s y&&Bw P t==some true&&Ce P t==some n|_=>false
 |.stq n _ x v=>match o with|.store t y u=>AG y x&&AG u v&&Ce P t==some n|_=>false
 |.mkm=>match o with|.makeMap _ r=>r.isNone|_=>false
 |.mvm s=>match o with|.move y|.assign y=>Operand.Aay s y|_=>false
 |.AaO f ys=>match o with|.call c=>(match c.callee with|.value (.func g)=>g==f&&BU c.args.toList ys|_=>false)|_=>false
 |.mlk _ m x=>match o with|.lookup t y z c=>c&&N1 P t&&AG y m&&AG z x|_=>false
 |.mup _ m x v=>match o with|.mapUpdate t y z u=>N1 P t&&AG y m&&AG z x&&AG u v|_=>false
 |.mrg _ m=>match o with|.range t y=>AG y m&&(match P.underlying t with|some (.map _ _)=>true|_=>false)|_=>false
 |.mnx s=>match o with|.next y c=>!c&&Operand.Aay s y|_=>false
 |.men s=>match o with|.entry y=>Operand.Aay s y|_=>false
def Lq:AD->Bool
 |.st ..=>true|.stb ..=>true|.xst ..=>true|.stx ..=>true|.cpt ..=>true|.nst ..=>true|.mup ..=>true|.stq ..=>true|_=>false
section
variable{P:Program}{F0:Nat->Nat->Prop}{w0:W0}{O:AB}{a:Act}{w:World}{G:BQ}{d:Nat}{o:Oper}{K:EV->AB->Prop}
theorem A2.wp(h:A2 P F0 w0 a w o d K)(b:o.dst=some d){next:Act->World->Prop}{Q:Exit->Act->World->Prop}(f:∀e env' a' w',K e env'->Oq a d a'->Bi F0 w0 ((d,e)::env') a' w'->next a' w'):o.wp P a w next Q:=by
 obtain ⟨v,w',c,e,env',g,i⟩:=h;unfold Oper.wp;rw[c,Oper.upon_value,b];exact f e env' _ w' g ⟨_,rfl⟩ i
variable{α:Type}
theorem Fy{a:Array α}{x:α}(h:a.toList=[x]):a=#[x]:=by
 cases a;simp_all
theorem Er{a:Array α}{x y:α}(h:a.toList=[x,y]):a=#[x,y]:=by
 cases a;simp_all
theorem Cl{c:Call}{b:Callee}{e:Array Operand}{ts:Array TypeId}(f:c.callee=b)(g:c.args=e)(h:c.argTypes=ts):c={callee:=b,args:=e,argTypes:=ts}:=by
 cases c;simp_all
theorem ia(A:AM F0 w0 O a w G)(hd:d<a.tmps.size)(u:o.dst=some d){p:AD}(b:OE P o.op p=true)(M:Lq p=false)(h:p.wp (AO P) O (some d) K)
  {next:Act->World->Prop}{Q:Exit->Act->World->Prop}(B:∀e env' a' w',K e env'->Oq a d a'->Bi F0 w0 ((d,e)::env') a' w'->next a' w'):o.wp P a w next Q:=by
 cases p<;>simp only[OE]at b<;>try(exact absurd b Bool.false_ne_true)
 case mv x=>
  split at b
  .rename_i y e;exact(am A hd (.inl e) b h).wp u B
  .rename_i y e;exact(am A hd (.inr e) b h).wp u B
  .cases b
 case tk s=>
  split at b
  .rename_i y e;rw[Operand.sc b]at e;exact(aq A hd (.inl e) h).wp u B
  .rename_i y e;rw[Operand.sc b]at e;exact(aq A hd (.inr e) h).wp u B
  .cases b
 case Abz n=>
  split at b
  .rename_i y e;exact(Wu A hd (.inl e) (Pb b) h).wp u B
  .rename_i y e;exact(Wu A hd (.inr e) (Pb b) h).wp u B
  .cases b
 case fad x k=>
  split at b
  .rename_i t y f e;simp only[tg,beq_iff_eq]at b;exact(PE A hd (VZ e b.2) b.1 h).wp u B
  .rename_i y e;simp only[tg,beq_iff_eq]at b;obtain⟨rfl,b⟩:=b;exact(PE A hd (Ol (.inl e)) b h).wp u B
  .rename_i y e;simp only[tg,beq_iff_eq]at b;obtain⟨rfl,b⟩:=b;exact(PE A hd (Ol (.inr (.inl e))) b h).wp u B
  .rename_i y e;simp only[tg,beq_iff_eq]at b;obtain⟨rfl,b⟩:=b;exact(PE A hd (Ol (.inr (.inr e))) b h).wp u B
  .cases b
 case bad s k=>
  split at b
  .rename_i t y j e;simp only[tg]at b;rw[Operand.sc b.1]at e;exact(PD A hd (lg e b.2) h).wp u B
  .rename_i t y f e;simp only[tg,beq_iff_eq]at b;rw[Operand.sc b.1]at e;exact(PD A hd (VZ e b.2) h).wp u B
  .rename_i y e;simp only[tg,beq_iff_eq]at b;obtain⟨rfl,b⟩:=b;rw[Operand.sc b]at e;exact(PD A hd (Ol (.inl e)) h).wp u B
  .rename_i y e;simp only[tg,beq_iff_eq]at b;obtain⟨rfl,b⟩:=b;rw[Operand.sc b]at e;exact(PD A hd (Ol (.inr (.inl e))) h).wp u B
  .rename_i y e;simp only[tg,beq_iff_eq]at b;obtain⟨rfl,b⟩:=b;rw[Operand.sc b]at e;exact(PD A hd (Ol (.inr (.inr e))) h).wp u B
  .cases b
 case iad x i n=>
  split at b
  .rename_i t y j e;simp only[tg,beq_iff_eq]at b;exact(jr A hd e b.1.1 b.1.2 b.2 h).wp u B
  .cases b
 case aad x i n k=>
  split at b
  .rename_i t y j e;simp only[tg]at b;obtain⟨⟨C,D⟩,E⟩:=b;split at E
   .rename_i k' el J;simp only[tg,beq_iff_eq]at E;obtain⟨rfl,H⟩:=E;exact(je A hd e C D J H h).wp u B
   .cases E
  .cases b
 case ld x=>
  split at b
  .rename_i t y e;simp only[tg,beq_iff_eq]at b;exact(nR A hd e b.1 b.2 h).wp u B
  .cases b
 case fdv x k=>
  split at b
  .rename_i t y f e;simp only[tg,beq_iff_eq]at b;refine(PE (S:=AO P) A hd (VZ e b.2) b.1 ?_).wp u B;simp only[AD.wp]at h|-;split at h
   .rename_i row Z;rw[gM A Z];exact h
   .exact h.elim
  .cases b
 case ldv x n=>
  split at b
  .rename_i t y e;simp only[tg,beq_iff_eq]at b;refine(UE (S:=AO P) A hd e b.1.1 b.1.2 b.2 ?_).wp u B;simp only[AD.wp]at h|-;split at h
   .rename_i row Z;rw[gM A Z];exact h
   .exact h.elim
  .cases b
 case lda x n=>
  split at b
  .rename_i t y e;simp only[tg,beq_iff_eq]at b;exact(UE A hd e b.1.1 b.1.2 b.2 h).wp u B
  .cases b
 case ldb s n=>
  split at b
  .rename_i t y e;simp only[tg,beq_iff_eq]at b;refine(UE (S:=AO P) A hd e b.1.1 b.1.2 b.2 (y:=.s s) ?_).wp u B;simp only[AD.wp]at h|-;split at h
   .rename_i cs I;simp only[AE.ev,I,BA,AW];exact h
   .exact h.elim
  .cases b
 case ldt x=>
  split at b
  .rename_i t y e;simp only[tg,beq_iff_eq]at b;exact(jx A hd e b.1 b.2 h).wp u B
  .cases b
 case bin k op x y=>
  split at b
  .rename_i op' t p q Y e;simp only[tg,beq_iff_eq]at b;obtain⟨⟨⟨rfl,C⟩,D⟩,E⟩:=b;exact(jh A hd e C D E h).wp u B
  .cases b
 case not x=>
  split at b
  .rename_i op t y e;simp only[tg,beq_iff_eq]at b;obtain⟨rfl,C⟩:=b;exact(kF A hd e C h).wp u B
  .cases b
 case neg x=>
  split at b
  .rename_i op t y e;simp only[tg,beq_iff_eq]at b;obtain⟨rfl,C⟩:=b;exact(kC A hd e C h).wp u B
  .cases b
 case pick c x y=>
  split at b
  .rename_i c' p q e;simp only[tg]at b;exact(gC A hd e b.1.1 b.1.2 b.2 h).wp u B
  .cases b
 case len x=>
  split at b
  .rename_i c e;unfold TE at b;split at b
   .rename_i y t C D E;simp only[tg]at b;obtain⟨H,L⟩:=b;split at L
    .rename_i el J;rw[Cl C (Fy D) (Fy E)]at e;exact(jy A hd e H J h).wp u B
    .cases L
    .cases L
   .cases b
  .cases b
 case AbM x=>
  split at b
  .rename_i c e;unfold TE at b;split at b
   .rename_i y t C D E;simp only[tg]at b;obtain⟨H,L⟩:=b;split at L
    .cases L
    .rename_i J;rw[Cl C (Fy D) (Fy E)]at e;exact(gE A hd e H J h).wp u B
    .cases L
   .cases b
  .cases b
 case slc n x lo hi=>
  split at b
  .rename_i t y l hh mx e;simp only[tg,beq_iff_eq,Option.isNone_iff_eq_none]at b;obtain⟨⟨⟨⟨rfl,C⟩,D⟩,E⟩,H⟩:=b;exact(kH A hd e C D E H h).wp u B
  .cases b
 case Aas x lo hi=>
  split at b
  .rename_i t y l hh mx e;simp only[tg,Option.isNone_iff_eq_none]at b;obtain⟨⟨⟨⟨rfl,C⟩,D⟩,E⟩,H⟩:=b;split at H
   .rename_i J;exact(gF A hd e C D E J h).wp u B
   .cases H
  .cases b
 case bld z X=>
  split at b
  .rename_i t qs e;exact(ji A hd e b h).wp u B
  .cases b
 case lst n ys=>
  split at b
  .rename_i t len X e;split at b
   .rename_i el J;split at b
    .rename_i i hi;split at b
     .rename_i z T;simp only[tg,beq_iff_eq,zzX]at b;obtain⟨⟨⟨⟨⟨⟨C,D⟩,E⟩,H⟩,L⟩,F⟩,U⟩:=b;exact(jz A hd e J hi T C D E H L F U h).wp u B
     .cases b
    .cases b
   .cases b
  .cases b
 case app n x y=>
  split at b
  .rename_i c e;unfold TC at b;split at b
   .rename_i p q t Y s C D E;simp only[tg,beq_iff_eq]at b;obtain⟨⟨⟨H,L⟩,rfl⟩,F⟩:=b;split at F
    .rename_i el J;split at F
     .rename_i i hi;split at F
      .rename_i z T;simp only[tg,beq_iff_eq,zzX]at F;obtain⟨⟨⟨U,V⟩,W⟩,R⟩:=F;rw[Cl C (Er D) (Er E),Operand.sc H]at e;exact(jg A hd e J hi T U V W R L h).wp u B
      .cases F
     .cases F
    .cases F
   .cases b
  .cases b
 case call f ys=>
  split at b
  .rename_i c e;split at b
   .rename_i g I;simp only[tg,beq_iff_eq]at b;obtain⟨rfl,C⟩:=b;rw[Cl I rfl rfl]at e;exact fy A hd u e C h B
   .cases b
  .cases b
 case Abm x ys=>
  split at b
  .rename_i c e;split at b
   .rename_i g I;simp only[tg]at b;rw[Cl I rfl rfl]at e;exact cx A hd u e b.1 b.2 h B
   .cases b
  .cases b
 case clo f cs=>
  split at b
  .rename_i g first xs e
   simp only[tg,beq_iff_eq]at b;obtain⟨⟨rfl,C⟩,D⟩:=b;rw[Array.eq_empty_of_size_eq_zero C]at e;exact(jk A hd e D h).wp u B
  .cases b
 case ext x i=>
  split at b
  .rename_i y j s e;simp only[tg,beq_iff_eq]at b;obtain⟨C,rfl⟩:=b;rw[Operand.sc C]at e;exact(jq A hd e h).wp u B
  .cases b
 case cvt k x=>
  split at b
  .rename_i s t y e;simp only[tg]at b;obtain⟨C,D⟩:=b;split at D
   .rename_i k1 k2 hs ht;simp only[beq_iff_eq]at D;subst D;exact(jp A hd e hs ht C h).wp u B
   .cases D
  .cases b
 case AaE x i=>
  split at b
  .rename_i t y j e;simp only[tg]at b;obtain⟨⟨C,D⟩,E⟩:=b;split at E
   .rename_i J;exact(gD A hd e C D J h).wp u B
   .cases E
  .cases b
 case Abx x=>
  split at b
  .rename_i t y e;exact(fx A hd e b h).wp u B
  .cases b
 case AbF x=>
  split at b
  .rename_i t y e;exact(fv A hd e b h).wp u B
  .cases b
 case mm mx x y=>
  split at b
  .rename_i c e;unfold pI at b;split at b
   .rename_i p q C D;simp only[tg]at b;obtain⟨⟨rfl,E⟩,H⟩:=b;rw[Cl C (Er D) rfl]at e;exact(al (mx:=true) A hd e E H h).wp u B
   .rename_i p q C D;simp only[tg,Bool.not_eq_true']at b;obtain⟨⟨rfl,E⟩,H⟩:=b;rw[Cl C (Er D) rfl]at e;exact(al (mx:=false) A hd e E H h).wp u B
   .cases b
  .cases b
 case alc cs=>
  split at b
  .rename_i t e;split at b
   .rename_i i hi;split at b
    .rename_i z T;exact(jf A hd e hi T b h).wp u B
    .cases b
   .cases b
  .cases b
 case st n x v=>cases M
 case stb n s v=>cases M
 case AbP x k n agg=>
  split at b
  .rename_i t y f e;simp only[tg]at b;exact(fz A hd e b.1 b.2 h).wp u B
  .cases b
 case xal s=>
  split at b
  .rename_i y e;rw[Operand.sc b]at e;exact(Y7 A hd (.inl e) h).wp u B
  .rename_i y e;rw[Operand.sc b]at e;exact(Y7 A hd (.inr e) h).wp u B
  .cases b
 case rel s=>
  split at b
  .rename_i y e;rw[Operand.sc b]at e;exact(Y5 A hd (.inl e) h).wp u B
  .rename_i y e;rw[Operand.sc b]at e;exact(Y5 A hd (.inr e) h).wp u B
  .cases b
 case tkx s=>
  split at b
  .rename_i y e;rw[Operand.sc b]at e;exact(Y6 A hd (.inl e) h).wp u B
  .rename_i y e;rw[Operand.sc b]at e;exact(Y6 A hd (.inr e) h).wp u B
  .cases b
 case Abt n=>
  split at b
  .rename_i y e;exact(Wv A hd (.inl e) (Pb b) h).wp u B
  .rename_i y e;exact(Wv A hd (.inr e) (Pb b) h).wp u B
  .cases b
 case AbE x=>
  split at b
  .rename_i c e;unfold TE at b;split at b
   .rename_i y t C D E;simp only[tg]at b;obtain⟨H,L⟩:=b;split at L
    .rename_i el J;rw[Cl C (Fy D) (Fy E)]at e;exact(gG A hd e H J h).wp u B
    .cases L
    .cases L
   .cases b
  .cases b
 case xia x i n=>
  split at b
  .rename_i t y j e;simp only[tg,beq_iff_eq]at b;exact(kL A hd e b.1.1 b.1.2 b.2 h).wp u B
  .cases b
 case xfa x k=>
  split at b
  .rename_i t y f e;simp only[tg,beq_iff_eq]at b;exact(kK A hd e b.1 b.2 h).wp u B
  .cases b
 case xld x=>
  split at b
  .rename_i t y e;simp only[tg,beq_iff_eq]at b;exact(kM A hd e b.1 b.2 h).wp u B
  .cases b
 case xst x v k=>cases M
 case Abg n s y=>
  split at b
  .rename_i c e;unfold TC at b;split at b
   .rename_i p q t Y s' C D E h0;simp only[AE.s.injEq]at h0;subst h0;simp only[tg,beq_iff_eq]at b;obtain⟨⟨⟨H,L⟩,rfl⟩,F⟩:=b;split at F
    .rename_i el J;split at F
     .rename_i i hi;split at F
      .rename_i z T;simp only[tg,beq_iff_eq,zzX]at F;obtain⟨⟨⟨U,V⟩,W⟩,R⟩:=F;rw[Cl C (Er D) (Er E),Operand.sc H]at e;exact(fk A hd e J hi T U V W R L h).wp u B
      .cases F
     .cases F
    .cases F
   .cases b
  .cases b
 case AaQ f ys=>
  split at b
  .rename_i c e;split at b
   .rename_i g I;simp only[tg,beq_iff_eq]at b;obtain⟨rfl,C⟩:=b;rw[Cl I rfl rfl]at e;exact cy A hd u e C h B
   .cases b
  .cases b
 case mkx n zero x=>
  split at b
  .rename_i t y z e;simp only[tg]at b;exact(nS A hd e b.1.1 b.1.2 b.2 h).wp u B
  .cases b
 case AaD f x ys=>
  split at b
  .rename_i c e;split at b
   .rename_i g y zs I ha;simp only[tg,beq_iff_eq]at b;obtain⟨rfl,C,D⟩:=b;rw[Cl I (show c.args=(y::zs).toArray by rw[<-ha]) rfl]at e;exact cv A hd u e C D h B
   .cases b
  .cases b
 case Aa2 f x=>
  split at b
  .rename_i c e;split at b
   .rename_i g y I ha;simp only[tg,beq_iff_eq]at b;obtain⟨rfl,C⟩:=b;rw[Cl I (Fy ha) rfl]at e;exact cq A hd u e C h B
   .cases b
  .cases b
 case Abr n=>
  split at b
  .rename_i t len X e;simp only[tg,beq_iff_eq,Array.isEmpty_iff]at b;obtain⟨⟨rfl,rfl⟩,C⟩:=b;exact(gB A hd e C h).wp u B
  .cases b
 case Aaz gs=>
  split at b
  .rename_i t X e;exact(fo A hd e b h).wp u B
  .cases b
 case stx n s q=>cases M
 case cpt x q=>cases M
 case lac x=>
  split at b
  .rename_i t y e;simp only[tg,beq_iff_eq]at b;exact(ju A hd e b.1 b.2 h).wp u B
  .cases b
 case ctk x=>
  split at b
  .rename_i t y e;simp only[tg,beq_iff_eq]at b;exact(jn A hd e b.1 b.2 h).wp u B
  .cases b
 case cut n s hi=>
  split at b
  .rename_i t y l hh mx e;simp only[tg,beq_iff_eq,Option.isNone_iff_eq_none]at b;obtain⟨⟨⟨⟨rfl,rfl⟩,C⟩,D⟩,E⟩:=b;rw[Operand.sc C]at e;exact(jo A hd e D E h).wp u B
  .cases b
 case AaV f ys=>
  split at b
  .rename_i c e;split at b
   .rename_i g I;simp only[tg,beq_iff_eq]at b;obtain⟨rfl,C⟩:=b;rw[Cl I rfl rfl]at e;exact cu A hd u e C h B
   .cases b
  .cases b
 case AaJ f ys i=>
  split at b
  .rename_i c e;split at b
   .rename_i g I;simp only[tg,beq_iff_eq]at b;obtain⟨rfl,C⟩:=b;rw[Cl I rfl rfl]at e;exact cp A hd u e C h B
   .cases b
  .cases b
 case Abd f ys=>
  split at b
  .rename_i c e;split at b
   .rename_i g I;simp only[tg,beq_iff_eq]at b;obtain⟨rfl,C⟩:=b;rw[Cl I rfl rfl]at e;exact(cr A hd e C h).wp u B
   .cases b
  .cases b
 case Abo n s z x=>
  split at b
  .rename_i c e;unfold eW at b;split at b
   .rename_i p q t Y C D E;simp only[tg]at b;obtain⟨⟨H,L⟩,F⟩:=b;split at F
    .rename_i el kn J hu';split at F
     .rename_i i hi;split at F
      .rename_i zz T;split at F
       .rename_i z0 hz0;simp only[tg,beq_iff_eq,zzX]at F;obtain⟨⟨⟨⟨rfl,U⟩,V⟩,W⟩,R⟩:=F;rw[Cl C (Er D) (Er E),Operand.isTmp_eq' H]at e;exact(fm A hd e J hu' hi T U V (Fy hz0) W R L h).wp u B
       .cases F
      .cases F
     .cases F
    .cases F
   .cases b
  .cases b
 case AbD X x=>
  split at b
  .rename_i t y e;exact(fw A hd e b h).wp u B
  .cases b
 case Abe f ys=>
  split at b
  .rename_i c e;split at b
   .rename_i g I;simp only[tg,beq_iff_eq]at b;obtain⟨rfl,C⟩:=b;rw[Cl I rfl rfl]at e;exact ct A hd u e C h B
   .cases b
  .cases b
 case AaF f ys=>
  split at b
  .rename_i c e;split at b
   .rename_i g I;simp only[tg,beq_iff_eq]at b;obtain⟨rfl,C⟩:=b;rw[Cl I rfl rfl]at e;exact Zk A hd u e C h B
   .cases b
  .cases b
 case isn x=>
  split at b
  .rename_i op t y z Y e;simp only[tg,beq_iff_eq]at b;obtain⟨⟨⟨rfl,C⟩,D⟩,E⟩:=b;exact(jt A hd e C D E h).wp u B
  .cases b
 case Abw q=>
  split at b
  .rename_i t len X e;split at b
   .rename_i x hps;simp only[tg]at b;rw[Fy hps]at e;exact(gA A hd e b.1 b.2 h).wp u B
   .cases b
  .cases b
 case AaT s q=>
  split at b
  .rename_i c e;unfold TC at b;split at b
   .rename_i p q' t Y s' C D E H;simp only[AE.s.injEq]at H;subst H;simp only[tg,beq_iff_eq]at b;obtain⟨⟨⟨H,L⟩,rfl⟩,F⟩:=b;split at F
    .rename_i el J;split at F
     .rename_i i hi;split at F
      .rename_i z T;simp only[tg,beq_iff_eq,zzX]at F;obtain⟨⟨⟨U,V⟩,W⟩,R⟩:=F;have hq:q'=.tmp q:=by
        cases q'<;>simp[AG]at L;rw[L]
       rw [Cl C (Er D) (Er E),Operand.sc H,hq]at e;exact(fj A hd e J hi T U V W h).wp u B
      .cases F
     .cases F
    .cases F
   .cases b
  .cases b
 case lan x=>
  split at b
  .rename_i t y e;simp only[tg,beq_iff_eq]at b;exact(jv A hd e b.1 b.2 h).wp u B
  .cases b
 case nia x i=>
  split at b
  .rename_i t y j e;simp only[tg,beq_iff_eq]at b;exact(kD A hd e b.1.1 b.1.2 b.2 h).wp u B
  .cases b
 case nld x=>
  split at b
  .rename_i t y e;simp only[tg,beq_iff_eq]at b;exact(kE A hd e b.1 b.2 h).wp u B
  .cases b
 case nst x v=>cases M
 case AbG q=>
  split at b
  .rename_i t y e;exact(ft A hd e b h).wp u B
  .cases b
 case AaU f ys i=>
  split at b
  .rename_i c e;split at b
   .rename_i g I;simp only[tg,beq_iff_eq]at b;obtain⟨rfl,C⟩:=b;rw[Cl I rfl rfl]at e;exact cm A hd u e C h B
   .cases b
  .cases b
 case mkm=>
  split at b
  .rename_i t r e;cases r with
   |none=>exact(j6 A hd e h).wp u B|some r=>cases b
  .cases b
 case mvm s=>
  split at b
  .rename_i y e;rw[Operand.sc b]at e;exact(Y4 A hd (.inl e) h).wp u B
  .rename_i y e;rw[Operand.sc b]at e;exact(Y4 A hd (.inr e) h).wp u B
  .cases b
 case AaO f ys=>
  split at b
  .rename_i c e;split at b
   .rename_i g I;simp only[tg,beq_iff_eq]at b;obtain⟨rfl,C⟩:=b;rw[Cl I rfl rfl]at e;exact cw A hd u e C h B
   .cases b
  .cases b
 case mlk s m x=>
  split at b
  .rename_i t y z c e;simp only[tg]at b;obtain⟨⟨⟨rfl,C⟩,D⟩,E⟩:=b;exact(j8 A hd e C D E h).wp u B
  .cases b
 case mup s m x v=>cases M
 case stq n X x v=>cases M
 case ldg s n=>
  split at b
  .rename_i t y e;simp only[tg,beq_iff_eq]at b;rw[Operand.sc b.1.1]at e;exact(jw A hd e b.1.2 b.2 h).wp u B
  .cases b
 case mrg s m=>
  split at b
  .rename_i t y e;simp only[tg]at b;obtain⟨C,D⟩:=b;split at D
   .rename_i k el J;exact(kA A hd e C J h).wp u B
   .cases D
  .cases b
 case mnx s=>
  split at b
  .rename_i y c e;simp only[tg,Bool.not_eq_true']at b;obtain⟨rfl,C⟩:=b;rw[Operand.sc C]at e;exact(j9 A hd e h).wp u B
  .cases b
 case men s=>
  split at b
  .rename_i y e;rw[Operand.sc b]at e;exact(j5 A hd e h).wp u B
  .cases b
end
end Go.Sf
namespace Go.Sf
open Go.RowKit (Below)
def TD(ops:Array Oper)(o:Oper)(r:PR):Bool:=
 match r.guard,o.guard with
 |none,none=>true|some (g,b),some (j,b')=>b==b'&&((ops[j]?).bind (·.dst))==some g|_,_=>false
def Km(P:Program)(N:Nat)(ops:Array Oper)(o:Oper)(r:PR):Bool:=
 TD ops o r&&(match o.dst,r.dst with
 |some d,some d'=>d==d'&&decide (d<N)&&!Lq r.op&&OE P o.op r.op|none,none=>Lq r.op&&OE P o.op r.op|_,_=>false)
section
variable{P:Program}{F0:Nat->Nat->Prop}{w0:W0}{O:AB}{a:Act}{w:World}{ops:Array Oper}{o:Oper}{r:PR}{N:Nat}{p:Option (Nat×Value)}{K:AB->Prop}{next:Act->World->Prop}{Q:Exit->Act->World->Prop}
theorem Bi.skip(b:Bi F0 w0 O a w){d:Nat}(hd:d<a.tmps.size):Bi F0 w0 ((d,.sk)::O) (a.put (some d) undef) w:=by
 obtain ⟨G,h⟩:=b;exact⟨_,h.quiet (Below.refl _ _) d hd .sk undef (fun _=>none) (by simp) (by simp) (by simp) rfl trivial⟩
theorem Lv{o:Oper}(b:o.dst=none){K:EV->AB->Prop}(h:Gn P F0 w0 a w o K)(e:∀env' w',K .undef env'->Bi F0 w0 env' a w'->next a w'):o.wp P a w next Q:=by
 obtain ⟨w',c,env',f,g⟩:=h;unfold Oper.wp;rw[c,Oper.upon_skip,b];exact e _ _ f g
theorem qN{S:FuncId->Fq->Az->Prop}{n s:Nat}{v:AE}{d:Option Nat}{O:AB}{K:EV->AB->Prop}(h:(AD.stb n s v).wp S O d K):(AD.st n (.s s) v).wp S O d K:=by
 simp [AD.wp]at h|-
 grind [AE.place]
theorem T4(f:Bi F0 w0 O a w)(D:Jn N p a)(M:∀i v,p=some (i,v)->r.dst≠some i)(R:Km P N ops o r=true)(h:r.wp (AO P) O K)
  (E:∀env' a' w',K env'->Jn N p a'->Bi F0 w0 env' a' w'->next a' w'):
  if Region.wanted o (yielded ops a.tmps)then o.wp P a w next Q else next (a.put o.dst undef) w:=by
 simp [Km]at R;obtain⟨J,hd⟩:=R;have T:r.op.wp (AO P) O r.dst (fun e env'=>K (env'.put r.dst e))->o.wp P a w next Q:=by
  intro A;obtain⟨G,f⟩:=f;cases ho:o.dst with
  |some d=>
   cases B:r.dst with
   |none=>rw[ho,B]at hd;cases hd
   |some d'=>
    rw [ho,B]at hd;simp[zzX,Bool.not_eq_true']at hd;obtain⟨⟨⟨rfl,I⟩,L⟩,c⟩:=hd;rw[B]at A;exact ia f (D.size▸I) ho c L A fun e env' a' w' k l k3=>E _ a' w' k (D.put (fun i v X=>by rw[<-B];exact M i v X) l) k3
  |none=>
   cases B:r.dst with
   |some d'=>rw[ho,B]at hd;cases hd
   |none=>
    rw [ho,B]at hd;rw[B]at A;simp at hd;obtain⟨L,c⟩:=hd;generalize X:r.op=p at A L c;cases p<;>simp[Lq]at L<;>first|cases L|skip
    .rename_i n x v;simp[OE]at c;split at c
     .rename_i t y u e;simp at c;exact Lv ho (ap f e c.1.1 c.1.2 c.2 A) fun env' w' k l=>E env' a w' k D l
     .cases c
    .rename_i n s v;simp[OE]at c;split at c
     .rename_i t y u e;simp at c;rw[Operand.sc c.1.1]at e;exact Lv ho (ap f e (x':=.s s) (by simp[AG]) c.1.2 c.2 (qN A)) fun env' w' k l=>E env' a w' k D l
     .cases c
    .rename_i x v;simp[OE]at c;split at c
     .rename_i t y u e;simp at c;exact Lv ho (kN f e c.1.1 c.1.2 c.2 A) fun env' w' k l=>E env' a w' k D l
     .cases c
    .rename_i n x q;simp[OE]at c;split at c
     .rename_i t y u e;simp at c;exact Lv ho (kJ f e c.1.1 c.1.2 c.2 A) fun env' w' k l=>E env' a w' k D l
     .cases c
    .rename_i x q;simp[OE]at c;split at c
     .rename_i t y u e;simp at c;exact Lv ho (jm f e c.1.1 c.1.2 c.2 A) fun env' w' k l=>E env' a w' k D l
     .cases c
    .rename_i x v;simp[OE]at c;split at c
     .rename_i t y u e;simp at c;exact Lv ho (kG f e c.1.1 c.1.2 c.2 A) fun env' w' k l=>E env' a w' k D l
     .cases c
    .rename_i n ps x v;simp[OE]at c;split at c
     .rename_i t y u e;simp at c;exact Lv ho (kI f e c.1.1 c.1.2 c.2 A) fun env' w' k l=>E env' a w' k D l
     .cases c
    .rename_i s m x v;simp[OE]at c;split at c
     .rename_i t y z u e;simp at c;exact Lv ho (kB f e c.1.1.1 c.1.1.2 c.1.2 c.2 A) fun env' w' k l=>E env' a w' k D l
     .cases c
 have U:K (O.put r.dst .sk)->next (a.put o.dst undef) w:=by
  intro Y;cases ho:o.dst with
  |some d=>
   cases B:r.dst with
   |none=>rw[ho,B]at hd;cases hd
   |some d'=>
    rw [ho,B]at hd;simp[zzX,Bool.not_eq_true']at hd;obtain⟨⟨⟨rfl,I⟩,L⟩,c⟩:=hd;rw[B]at Y;exact E _ _ _ Y (D.put (fun i v X=>by rw[<-B];exact M i v X) ⟨_,rfl⟩) (f.skip (D.size▸I))
  |none=>
   cases B:r.dst with
   |some d'=>rw[ho,B]at hd;cases hd
   |none=>rw[B]at Y;exact E _ _ _ Y D f
 unfold PR.wp at h;cases F:r.guard with
 |none=>
  rw [F]at h;cases C:o.guard with
  |none=>rw[az (by simp[Region.wanted,C])];exact T h|some g=>rw[TD,F,C]at J;cases J
 |some gb=>
  obtain ⟨g,b⟩:=gb;rw[F]at h;cases C:o.guard with
  |none=>rw[TD,F,C]at J;cases J
  |some jb=>
   obtain ⟨j,b'⟩:=jb;rw[TD,F,C]at J;simp at J;obtain⟨rfl,hj⟩:=J;simp only at h;split at h
   .rename_i q S;have hv:slot a g=.bool q:=by
     obtain ⟨G,f⟩:=f;have:=AU f S (by simp);simpa only[AJ,AX]using this
    have H:g<a.tmps.size:=by
     obtain ⟨G,f⟩:=f;exact BZ f S (by simp)
    have Z:yielded ops a.tmps j=some q:=by
     have I:a.tmps[g]?=some (.bool q):=by
      rw [slot,Array.getD_eq_getD_getElem?,Array.getElem?_eq_getElem H]at hv;rw[Array.getElem?_eq_getElem H];simpa using hv
     simp [yielded,hj,I]
    have A:Region.wanted o (yielded ops a.tmps)=(q==b):=by
     simp only[Region.wanted,C,Z];cases q<;>cases b<;>rfl
    rw [A];by_cases V:q=b
    .subst V;rw[az (by simp)];exact T (h.1 rfl)
    .have W:q=!b:=by cases q<;>cases b<;>simp_all
     rw [b6 (by simpa using V)];exact U (h.2 W)
   .rename_i S;have hv:slot a g=undef:=by
     obtain ⟨G,f⟩:=f;have:=AU f S (by simp);simpa only[AJ]using this
    have H:g<a.tmps.size:=by
     obtain ⟨G,f⟩:=f;exact BZ f S (by simp)
    have Z:yielded ops a.tmps j=none:=by
     have I:a.tmps[g]?=some undef:=by
      rw [slot,Array.getD_eq_getD_getElem?,Array.getElem?_eq_getElem H]at hv;rw[Array.getElem?_eq_getElem H];simpa using hv
     simp [yielded,hj,I,undef]
    have A:Region.wanted o (yielded ops a.tmps)=false:=by
     simp only[Region.wanted,C,Z];cases b<;>rfl
    rw [A];exact U h
   .exact h.elim
def RS:List PR->Bool
 |[]=>true|r::rs=>(match r.op,r.dst,r.guard with|.frz _,none,none=>true|_,_,_=>false)&&RS rs
variable{rs:List PR}
theorem l5:∀{O:AB},RS rs=true->wpOps (AO P) K rs O->Bi F0 w0 O a w->∃env',K env'/\Bi F0 w0 env' a w:=by
 induction rs with
 |nil=>intro O _ h b;exact⟨O,h,b⟩|cons r rs l=>
  intro O c h b;simp[RS]at c;obtain⟨e,k⟩:=c;split at e
  .rename_i s f g i;simp[wpOps,PR.wp,f,g,i,AD.wp]at h;split at h
   .rename_i cs j;obtain⟨G,b⟩:=b;exact l k h (b.frz j)
   .exact h.elim
  .cases e
def Kx(P:Program)(N:Nat)(ops:Array Oper):List Oper->List PR->Bool
 |[],rs=>RS rs|o::os,r::rs=>Km P N ops o r&&Kx P N ops os rs|_::_,[]=>false
theorem Ur(m:∀O a w,K O->Jn N p a->Bi F0 w0 O a w->Q .normal a w):∀(os:List Oper)(rs:List PR)(k:Nat),ops.toList.drop k=os->Kx P N ops os rs=true->(∀i v,p=some (i,v)->∀r∈rs,r.dst≠some i)->∀(O:AB)(a:Act)(w:World),Jn N p a->Bi F0 w0 O a w ->
  wpOps (AO P) K rs O->Go.wpOps P ops Q (List.range' k os.length) a w
 |[],rs,k,_,b,_,O,a,w,g,j,h=>by
  obtain ⟨env',z,A⟩:=l5 b h j;exact m env' a w z g A
 |o::os,[],k,_,b,_,_,_,_,_,_,_=>by simp[Kx]at b|o::os,r::rs,k,hd,b,c,O,a,w,g,j,h=>by
  simp [Kx]at b;have y:ops[k]?=some o:=by
   rw [<-Array.getElem?_toList];have:=congrArg (fun l=>l[0]?) hd
   grind
  have f:ops.toList.drop (k+1)=os:=by
   grind [List.tail,List.tail_drop]
  simp [List.range'_succ];rw[Go.wpOps_cons];unfold Go.wpOp;rw[y];simp;have:=T4 (Q:=Q) (next:=Go.wpOps P ops Q (List.range' (k+1) os.length)) j g (fun i v e=>c i v e r (by simp)) b.1 h fun env' a' w' q s t=>Ur m os rs (k+1) f b.2 (fun i v e r u=>c i v e r (by simp[u])) env' a' w' s t q
  grind
theorem Yr{id:Nat}(b:Kx P N ops ops.toList rs=true)(c:∀i v,p=some (i,v)->∀r∈rs,r.dst≠some i)(e:Jn N p a)(f:Bi F0 w0 O a w)(h:wpOps (AO P) K rs O)
  (g:∀O a w,K O->Jn N p a->Bi F0 w0 O a w->Q .normal a w):(Code.region id ops false).wp P Q a w:=by
 refine Go.wp_region ?_;rw[List.range_eq_range',<-Array.length_toList];exact Ur g ops.toList rs 0 rfl b c O a w e f h
end
end Go.Sf
