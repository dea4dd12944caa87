/- The checker's operands, and the operations that only compute or read. -/
import Derived.Test.YtpagkickoiafkaaGreatSfInv
import Derived.Laws.StructEq
import Derived.Laws.Tables
import Derived.Great.BuildSlice
set_option linter.all false
open Option renaming some->Y,none->W
open Bool renaming true->X,false->T
open List renaming getElem?_eq_getElem->l!,mem_of_getElem?->l?,getElem?_drop->m_,mem_of_mem_drop->m?,getElem?_take->nc,all_eq_true->nQ,mem_of_mem_take->nR,map_take->nS,eq_nil_of_length_eq_zero->nT,replicate->nU,length_replicate->nV
open Bool renaming and_assoc->nW,eq_iff_iff->nX
open Array renaming length_toList->nY,foldl_toList->nZ,toList_zipIdx->n7,range->n8
open Nat renaming add_zero->n9,add_mul->n_,mul_le_mul_left->n!
namespace Go.Sf
open Go.RowKit (Below)
def Gy:Value->Bool
 |.slice W 0 0=>X|_=>T
variable{v:Value}
theorem Ez(h:Gy v=X):v=.slice W 0 0:=by grind[Gy]
def Wq(f:FuncId):Value->Bool
 |.func (.func g) first caps=>f==g&&first.size==0&&caps.size==0
 |_=>T
variable{f:FuncId}
theorem Yw(h:Wq f v=X):v=.func (.func f) #[] #[]:=by
 unfold Wq at h
 grind
def UT(k:IntKind)(n:Int):Value->Bool
 |.int k' m=>k==k'&&n==m|_=>T
theorem Wr{k:IntKind}{n:Int}(h:UT k n v=X):v=.int k n:=by
 unfold UT at h
 grind
def SW(b:Bool):Value->Bool
 |.bool c=>b==c|_=>T
variable{b:Bool}
theorem Vb(h:SW b v=X):v=.bool b:=by
 unfold SW at h
 grind
def UU(s:ByteArray):Value->Bool
 |.string r=>s.data==r.data|_=>T
theorem Wt{s:ByteArray}(h:UU s v=X):v=.string s:=by
 unfold UU at h
 grind [ByteArray.ext]
def T9:Value->Option (List Value)
 |.agg vs=>Y vs.toList|_=>W
theorem WV{l:List Value}(h:T9 v=Y l):v=.agg l.toArray:=by
 unfold T9 at h;split at h
 .simp at h;subst h;simp
 .cases h
mutual
def CI:TV->Value->Bool
 |.int k n,v=>UT k n v&&decide (k.min<=n/\n<=k.max)|.bool b,v=>SW b v|.str s,v=>UU s v&&decide (s.size<=FE)|.list _ es,v=>es.isEmpty&&Gy v|.agg ts,v=>match T9 v with|some vs=>FG ts vs&&vs.all Value.oneCell'|none=>T
 |.kL f cs,v=>cs.isEmpty&&Wq f v|.nil,v=>Gy v|.undef,v=>v.oneCell'|_,_=>T
def FG:Fq->List Value->Bool
 |[],vs=>vs.isEmpty|t::ts,vs=>match vs with|v::vs=>CI t v&&FG ts vs|[]=>T
end
mutual
theorem Dk(w:World)(F:Nat->Nat->Prop):∀(t:TV)(v:Value),CI t v=X->AV w F t v/\t.WF
 |.undef,v,h=>by
  simp [CI]at h;exact⟨by simpa[AV]using h,trivial⟩
 |.xl _ _,v,h=>by simp[CI]at h|.nil,v,h=>by
  simp [CI]at h;exact⟨Ez h,trivial⟩
 |.pt _,v,h=>by simp[CI]at h|.int k n,v,h=>by
  simp [CI,kY]at h;exact⟨Wr h.1,h.2⟩
 |.bool b,v,h=>by
  simp [CI]at h;exact⟨Vb h,trivial⟩
 |.str s,v,h=>by
  simp [CI,kY]at h;exact⟨Wt h.1,h.2⟩
 |.list n es,v,h=>by
  simp [CI]at h
  grind [TV.WF,TV.jU,AV,Ez]
 |.agg ts,v,h=>by
  simp [CI]at h;split at h
  next vs hv=>rw[jP]at h;have:=KV w F ts vs h.1;refine⟨?_,by simpa[TV.WF]using this.2⟩;simp only[AV];exact⟨_,WV hv,j?,by simpa using h.2⟩
  .cases h
 |.kL f cs,v,h=>by
  simp [CI]at h;obtain⟨rfl,h⟩:=h;refine⟨?_,by simp[TV.WF,TV.jU]⟩;simp[AV];exact⟨#[],Yw h,rfl⟩
theorem KV(w:World)(F:Nat->Nat->Prop):∀(ts:Fq)(vs:List Value),FG ts vs=X->AM w F ts vs/\TV.jU ts
 |[],vs,h=>by simp[FG]at h;subst h;exact⟨rfl,trivial⟩|t::ts,vs,h=>by
  cases vs with
  |nil=>simp[FG]at h|cons v vs=>
   simp [FG]at h;have g:=Dk w F t v h.1;have l:=KV w F ts vs h.2;exact⟨⟨v,vs,rfl,g.1,l.1⟩,g.2,l.2⟩
end
def AF(x:Operand):AC->Bool
 |.s m=>match x with|.tmp n=>n==m|_=>T
 |.c t=>match x with|.const v=>CI t v|.func f=>CI t (.func (.func f) #[] #[])|_=>T
section
variable{F0:Nat->Nat->Prop}{w0:W0}{O:AA}{a:Act}{w:World}{G:Ay}
variable{s:Nat}
theorem Im(h:AJ F0 w0 O a w G){i:Option Nat}:∀b lo o,G s i=Y (b,lo)->o<lo->¬AP w0.heap.size F0 G b o:=by
 intro b lo o l ho hf;rcases hf with⟨m,g⟩|⟨q,r,lo',p,u⟩
 .exact(h.lt _ _ _ _ l).2.elim (λe=>U) (λe=>h.below.free _ _ _ (e _ (bk _)) g)
 .obtain⟨rfl,rfl⟩:=h.jp _ _ _ _ _ _ _ p l
  grind
variable{n:Nat}
theorem A5(h:AJ F0 w0 O a w G){e:EV}(he:O.get n=e)(g:e≠.undef):n<a.tmps.size:=by
 rcases Nat.lt_or_ge n a.tmps.size with l|m
 .exact l
 .exact absurd ((h.dom n m).symm.trans he).symm g
theorem AR(h:AJ F0 w0 O a w G){e:EV}(he:O.get n=e)(g:e≠.undef):AH a w (AP w0.heap.size F0 G) G O n e (slot a n):=by
 have:=h.slots n (A5 h he g)
 rwa [he]at this
theorem WG(g:AJ F0 w0 O a w G){x:AC}{row:Fq}(h:x.val O=Y (.pt row)):x.ev O=.tv (.pt row):=by
 cases x with
 |c t=>simpa[AC.val,AC.ev,EV.val]using h|s n=>
  simp [AC.val,AC.ev]at h|-;cases he:O.get n with
  |tv t=>rw[he]at h;simpa[EV.val]using h|ow t=>
   rw [he]at h;have m:t=.pt row:=by simpa[EV.val]using h
   subst m;by_cases l:n<a.tmps.size
   .have:=g.slots n l;rw[he]at this;simp[AH,BA]at this
   .rw[g.dom n (Nat.le_of_not_lt l)]at he;cases he
  |_=>rw[he]at h;simp[EV.val]at h
variable{x:Operand}{y:AC}
theorem Ak(h:AJ F0 w0 O a w G)(l:AF x y=X){t:TV}(hv:y.val O=Y t):AV w (AP w0.heap.size F0 G) t (a.eval x)/\t.WF:=by
 cases y with
 |s m=>
  cases x<;>simp[AF]at l;subst l;rename_i n;simp[AC.val,AC.ev]at hv;have p:=h.wf n;cases he:O.get n with
  |tv r=>
   rw [he]at hv p;simp[EV.val]at hv;subst hv;exact⟨AR h he V,p⟩
  |ow r=>
   rw [he]at hv p;simp[EV.val]at hv;subst hv;exact⟨BA.ns (AR h he V) (λb lo o u ho=>Im h b lo o u ho),p⟩
  |undef=>rw[he]at hv;simp[EV.val]at hv|sk=>rw[he]at hv;simp[EV.val]at hv|xo n es=>rw[he]at hv;simp[EV.val]at hv|la q i=>rw[he]at hv;simp[EV.val]at hv|kC cs=>rw[he]at hv;simp[EV.val]at hv|xn es=>rw[he]at hv;simp[EV.val]at hv|x1 n B=>rw[he]at hv;simp[EV.val]at hv|mx m=>rw[he]at hv;simp[EV.val]at hv|nh q i k=>rw[he]at hv;simp[EV.val]at hv|lp q i c=>rw[he]at hv;simp[EV.val]at hv|bx cs=>rw[he]at hv;simp[EV.val]at hv|bp q A=>rw[he]at hv;simp[EV.val]at hv|tp ts=>rw[he]at hv;simp[EV.val]at hv
 |c r=>
  simp [AC.val,AC.ev,EV.val]at hv;subst hv;cases x with
  |const v=>exact Dk w _ _ _ l|func f=>exact Dk w _ _ _ l|tmp n=>simp[AF]at l|global g=>simp[AF]at l
theorem Qg(h:AJ F0 w0 O a w G)(g:AF x y=X){t:TV}(hv:y.ev O=.tv t):AV w (AP w0.heap.size F0 G) t (a.eval x)/\t.WF:=by grind[Ak,AC.val,EV.val]
def A2:List Operand->List AC->Bool
 |[],[]=>X|x::xs,y::ys=>AF x y&&A2 xs ys|_,_=>T
theorem Cx(h:AJ F0 w0 O a w G):∀{xs:List Operand}{ys:List AC},A2 xs ys=X->∀{ts:Fq},vals O ys=Y ts->AM w (AP w0.heap.size F0 G) ts (xs.map a.eval)/\TV.jU ts
 |[],[],_,ts,hv=>by simp[vals]at hv;subst hv;exact⟨rfl,trivial⟩|[],_::_,g,_,_=>by simp[A2]at g|_::_,[],g,_,_=>by simp[A2]at g|x::xs,y::ys,g,ts,hv=>by
  simp [A2]at g;simp[vals]at hv;split at hv
  next t q r l=>simp at hv;subst hv;have m:=Ak h g.1 r;have p:=Cx h g.2 l;exact⟨⟨_,_,rfl,m.1,p.1⟩,m.2,p.2⟩
  .cases hv
end
theorem Gq(k:IntKind)(n:Int):k.min<=k.wrap n/\k.wrap n<=k.max:=by
 cases k<;>simp only[IntKind.min,IntKind.max,IntKind.wrap,IntKind.signed,IntKind.bits,Bool.true_and,Bool.false_and]<;>simp<;>(try split)<;>omega
end Go.Sf
namespace Go.Sf
open Go.RowKit (Below)
def Bm(P:Program)(t:TypeId):Option Nat:=(P.info? t).map (·.size)
def BM(P:Program)(t:TypeId):K1:=
 match P.underlying t with
 |some (.struct _)|some (.array _ _)=>Y X|some _=>Y T|none=>W
def EH(P:Program)(t:TypeId):Option Nat:=
 match P.underlying t with
 |some (.slice e)=>Bm P e|_=>W
def JQ(P:Program)(t:TypeId)(f:Nat):Option Nat:=
 match P.underlying t with
 |some (.struct fs)=>match fs[f]? with
  |some x=>match Bm P x.type with
   |some 0=>W|some _=>Y x.offset|none=>W
  |none=>W
 |_=>W
section
variable{P:Program}{w:World}
variable{t:TypeId}{n:Nat}
theorem BP(h:Bm P t=Y n):(sizeOf t).run P w=.ok n w:=by
 simp only[Bm,Option.map_eq_some_iff]at h;obtain⟨i,hi,rfl⟩:=h;simp[sizeOf,typeInfo,hi]
variable{b:Bool}
theorem Bf(h:BM P t=Y b):(isAgg t).run P w=.ok b w:=by
 unfold BM at h;unfold isAgg underlying;simp only[Sem.run_bind,run_program,Result.andThen_ok];cases g:P.underlying t with
 |none=>rw[g]at h;simp at h|some d=>
  rw [g]at h;cases d<;>simp_all
theorem O2{f k b o:Nat}(h:JQ P t f=Y k):
  (Instr.fieldAt t (.pointer (Y ⟨b,o,W⟩)) f).run P w=.ok (.pointer (Y ⟨b,o+k,W⟩)) w:=by
 unfold JQ at h;split at h
 .rename_i r l;split at h
  .rename_i x m;split at h
   .cases h
   next n p q=>simp only[jR]at h;subst h;have g:¬(n=0):=λe=>p (by rw[e]);simp[Instr.fieldAt,run_underlying l,m,Instr.sureAddr,fieldPlace,BP q,g,Addr.add_lit]
   .cases h
  .cases h
 .cases h
variable{ts:Fq}
theorem NN{F:Nat->Nat->Prop}{b o:Nat}(h:Bv w F ts b o):∃vs:List Value,AM w F ts vs/\(∀x∈vs,x.oneCell'=X)/\∀(j:Nat)(v:Value),vs[j]?=Y v->w.cell? ((⟨b,o,W⟩:Addr).add j)=Y v:=by
 induction ts generalizing o with
 |nil=>exact⟨[],rfl,V,V⟩|cons t ts C=>
  simp only[Bv]at h;obtain⟨⟨v,l,D,m,p⟩,q⟩:=h;obtain⟨vs,r,A,B⟩:=C q;refine⟨v::vs,⟨v,vs,rfl,p,r⟩,by simp only[List.mem_cons,forall_eq_or_imp];exact⟨m,A⟩,λj u g=>?_⟩;rw[Addr.add_lit];cases j with
  |zero=>simp at g;subst g;exact l|succ j=>
   have:=B j u (by simpa using g);rw[Addr.add_lit]at this
   grind
theorem Au{F:Nat->Nat->Prop}{vs:List Value}(h:AM w F ts vs):vs.length=ts.length:=((A4 ts vs).1 h).1
variable{v:Value}
theorem Uq{F:Nat->Nat->Prop}{es:Fq}{k:IntKind}{j:Int}(l:EH P t=Y n)(h:AV w F (.list n es) v)(H:0<=j){e:TV}(he:es[j.toNat]?=Y e):
  ∃p,(Instr.indexAt t v (.int k j)).run P w=.ok p w/\AV w F (.pt e.cells) p:=by
 simp only[AV]at h;obtain⟨a,cap,rfl,_,C,D⟩:=h;have g:j.toNat<es.length:=by
  grind
 cases a with
 |none=>have:=C rfl;subst this;simp at g|some r=>
  obtain ⟨m,q⟩:=D r rfl;obtain⟨b,o,E⟩:=r;simp only at m q;have m:E=W:=m.resolve_left (λe=>by subst e;simp at g);subst m;unfold EH at l;split at l
  .rename_i el u;rw[LJ]at q;have A:=q j.toNat e he;have B:0<=j/\j<(es.length:Int):=U
   refine ⟨.pointer (Y ⟨b,o+j.toNat*n,W⟩),?_,?_⟩
   .simp[Instr.indexAt,asIntOf,run_underlying u,B,BP l,Addr.add_lit]
   .simp only[AV];exact⟨b,_,rfl,A.1⟩
  .cases l
end
end Go.Sf
namespace Go.Sf
open Go.RowKit (Below)
def Am(P:Program)(F0:Nat->Nat->Prop)(w0:W0)(a:Act)(w:World)(o:Oper)(d:Nat)(K:EV->AA->Prop):Prop:=
 ∃v w',(execOp a.eval o).run P w=.ok (.value v) w'/\∃e env',K e env'/\BF F0 w0 ((d,e)::env') (a.put (Y d) v) w'
theorem BD:∀{l:Fq},TV.jU l↔∀t∈l,t.WF
 |[]=>by simp[TV.jU]|t::l=>by simp[TV.jU,BD (l:=l)]
theorem D2{t:TV}(h:t.WF):TV.jU t.cells:=by
 cases t with
 |agg cs=>exact h|_=>exact⟨h,trivial⟩
section
variable{P:Program}{S:FuncId->Fq->AZ->Prop}{F0:Nat->Nat->Prop}{w0:W0}{O:AA}{a:Act}{w:World}{G:Ay}{d:Nat}{o:Oper}{K:EV->AA->Prop}
variable{v:Value}
theorem Bc(h:AJ F0 w0 O a w G)(hd:d<a.tmps.size){t:TV}(g:(execOp a.eval o).run P w=.ok (.value v) w)
  (l:AV w (AP w0.heap.size F0 G) t v)(m:t.WF)(p:K (.tv t) O):Am P F0 w0 a w o d K:=
 ⟨v,w,g,_,_,p,h.tv_same d hd t v l m⟩
variable{x:Operand}{y:AC}
theorem Tt(p:AJ F0 w0 O a w G)(hd:d<a.tmps.size)(g:o.op=.move x\/o.op=.assign x)(l:AF x y=X)(h:(AB.mv y).wp S O (Y d) K):Am P F0 w0 a w o d K:=by
 simp [AB.wp]at h;have hv:(∃t,y.val O=Y t/\K (.tv t) O)\/∃ts,y.ev O=.tp ts/\K (.tp ts) O:=by
  unfold AC.val;split at h<;>first|exact h.elim|(rename_i t he;exact .inl ⟨t,by rw[he];rfl,h⟩)|(rename_i t he;exact .inr ⟨t,he,h⟩)
 have m:(execOp a.eval o).run P w=.ok (.value (a.eval x)) w:=by rcases g with g|g<;>simp[execOp,g]
 rcases hv with⟨t,hv,C⟩|⟨ts,hv,C⟩
 .have:=Ak p l hv
  grind [Bc]
 .cases y with
  |c t=>simp[AC.ev]at hv|s n=>
   have E:x=.tmp n:=by
    cases x<;>simp[AF]at l;rw[l]
   subst E;simp[AC.ev]at hv;have A:=AR p hv V;have B:=p.wf n;rw[hv]at B;refine⟨_,w,m,_,_,C,⟨_,p.quiet (Below.refl _ _) d hd (.tp ts) _ (λ_=>W) V V V ?_ B⟩⟩;simp[AH]at A|-;obtain⟨vs,I,J⟩:=A;refine⟨vs,I,AY (λb o u D hf=>⟨D,λr=>hf ?_⟩) _ _ J⟩;rcases r with q|⟨s,i,lo,q,L⟩
   .exact .inl q
   .by_cases H:s=d
    .grind[BH]
    .rw[Aq _ _ _ _ H]at q;exact .inr ⟨s,i,lo,q,L⟩
theorem V8(l:AJ F0 w0 O a w G)(hd:d<a.tmps.size){c x x':Operand}{c' y y':AC}(m:o.op=.pick c x x')(r:AF c c'=X)(B:AF x y=X)(C:AF x' y'=X)
  (h:(AB.pick c' y y').wp S O (Y d) K):Am P F0 w0 a w o d K:=by
 simp [AB.wp]at h;split at h
 .rename_i q u;have g:=(Ak l r u).1;simp[AV]at g;have p:AF (if q then x else x') (if q then y else y')=X:=by cases q<;>assumption
  have hv:∃t,(if q then y else y').val O=Y t/\K (.tv t) O:=by
   unfold AC.val;split at h<;>first|exact h.elim|(rename_i t he;exact⟨t,by rw[he];rfl,h⟩)
  obtain ⟨t,hv,A⟩:=hv;have:=Ak l p hv;refine Bc l hd (v:=a.eval (if q then x else x')) ?_ this.1 this.2 A;cases q<;>simp[execOp,m,g,asBool]
 .exact h.elim
variable{t:TypeId}
theorem Xs(m:AJ F0 w0 O a w G)(hd:d<a.tmps.size)(g:o.op=.unOp .not t x)(l:AF x y=X)(h:(AB.not y).wp S O (Y d) K):Am P F0 w0 a w o d K:=by
 simp [AB.wp]at h;split at h
 next b hv=>have:=(Ak m l hv).1;simp[AV]at this;exact Bc m hd (v:=.bool !b) (t:=.bool !b) (by simp[execOp,g,this,Op.unary]) rfl trivial h
 .exact h.elim
theorem Xp(m:AJ F0 w0 O a w G)(hd:d<a.tmps.size)(g:o.op=.unOp .neg t x)(l:AF x y=X)(h:(AB.neg y).wp S O (Y d) K):Am P F0 w0 a w o d K:=by
 simp [AB.wp]at h;split at h
 next k n hv=>have:=(Ak m l hv).1;simp[AV]at this;exact Bc m hd (v:=.int k (k.wrap (-n))) (t:=.int k (k.wrap (-n))) (by simp[execOp,g,this,Op.unary,Op.intArith]) rfl (Gq k _) h
 .exact h.elim
theorem XX(m:AJ F0 w0 O a w G)(hd:d<a.tmps.size){s t:TypeId}{k p:IntKind}(g:o.op=.convert s t x)(q:P.underlying s=Y (.int p))(r:P.underlying t=Y (.int k))(l:AF x y=X)(h:(AB.mt k y).wp S O (Y d) K):Am P F0 w0 a w o d K:=by
 simp [AB.wp]at h;split at h
 next u n hv=>have:=(Ak m l hv).1;simp[AV]at this;refine Bc m hd (v:=.int k (k.wrap n)) (t:=.int k (k.wrap n)) ?_ rfl (Gq k _) h;simp[execOp,g,this,convert,run_underlying q,run_underlying r,Conv.intToInt]
 .exact h.elim
variable{f:FuncId}{ys:List AC}
theorem XS(m:AJ F0 w0 O a w G)(hd:d<a.tmps.size){xs:Array Operand}(g:o.op=.makeFunc (.func f) #[] xs)(l:A2 xs.toList ys=X)(h:(AB.kL f ys).wp S O (Y d) K):Am P F0 w0 a w o d K:=by
 simp [AB.wp]at h;cases hv:vals O ys with
 |none=>rw[hv]at h;exact h.elim|some ts=>
  rw [hv]at h;have:=Cx m l hv;refine Bc m hd (v:=.func (.func f) #[] (xs.map a.eval)) (by simp[execOp,g,Instr.makeFunc]) ?_ (by simpa[TV.WF]using this.2) h;simp only[AV];exact⟨_,rfl,j?⟩
theorem XY(l:AJ F0 w0 O a w G)(hd:d<a.tmps.size){s i:Nat}(m:o.op=.extract (.tmp s) i)(h:(AB.ext (.s s) i).wp S O (Y d) K):Am P F0 w0 a w o d K:=by
 simp [AB.wp,AC.ev]at h;split at h
 .rename_i ts hv;cases g:ts[i]? with
  |none=>rw[g]at h;exact h.elim|some t=>
   rw [g]at h;have q:=AR l hv V;have r:=l.wf s;rw[hv]at r;simp[AH]at q;obtain⟨vs,C,u⟩:=q;rw[A4]at u;have A:i<ts.length:=by
    grind
   have B:vs.toList[i]?=Y (vs.toList[i]' U):=l! U;have p:vs[i]?=Y (vs.toList[i]' U):=V
   refine Bc l hd (v:=vs.toList[i]' U) ?_ (u.2 i t _ g B) ?_ h
   .simp[execOp,m,show a.eval (.tmp s)=slot a s from rfl,C,Instr.extract,p]
   .exact BD.1 r t (l? g)
 .exact h.elim
variable{e:TypeId}
theorem Xf(m:AJ F0 w0 O a w G)(hd:d<a.tmps.size)(g:o.op=.call {callee:=.builtin .len,args:=#[x],argTypes:=#[t]})(l:AF x y=X)
  (he:P.underlying t=Y (.slice e))(h:(AB.len y).wp S O (Y d) K):Am P F0 w0 a w o d K:=by
 simp only[AB.wp]at h;split at h
 next n es hv=>have:=Ak m l hv;simp only[AV,TV.WF,FE]at this;obtain⟨⟨q,cap,p,_⟩,r⟩:=this;refine Bc m hd (v:=.int .i64 es.length) (t:=.int .i64 es.length) ?_ rfl ⟨e!,i!⟩ h;simp[execOp,g,resolve,invoke,builtin,Builtin.len_,run_underlying he,p,goInt]
 .exact h.elim
theorem WA(m:AJ F0 w0 O a w G)(hd:d<a.tmps.size)(g:o.op=.call {callee:=.builtin .len,args:=#[x],argTypes:=#[t]})(l:AF x y=X)
  (he:P.underlying t=Y .string)(h:(AB.mR y).wp S O (Y d) K):Am P F0 w0 a w o d K:=by
 simp only[AB.wp]at h;split at h
 next s hv=>have:=Ak m l hv;simp only[AV,TV.WF,FE]at this;refine Bc m hd (v:=.int .i64 s.size) (t:=.int .i64 s.size) ?_ rfl ⟨e!,i!⟩ h;simp[execOp,g,resolve,invoke,builtin,Builtin.len_,run_underlying he,this.1,goInt]
 .exact h.elim
end
end Go.Sf
namespace Go.Sf
open Go.RowKit (Below)
section
variable{P:Program}{S:FuncId->Fq->AZ->Prop}{F0:Nat->Nat->Prop}{w0:W0}{O:AA}{a:Act}{w:World}{G:Ay}{d:Nat}{o:Oper}{K:EV->AA->Prop}
variable{s:Nat}{ρ:Du}{c:AI}
theorem Pp(g:AJ F0 w0 O a w G){i:Option Nat}{x:Value}(h:Ar w (AP w0.heap.size F0 G) ρ (G s i) c x):AV w (AP w0.heap.size F0 G) c.t x:=by
 obtain ⟨_|_,t⟩:=c
 .exact h.1
 .exact CH.ns h (λb lo o l ho=>Im g b lo o l ho)
variable{z:Option (Nat×Nat)}
theorem PP{F:Nat->Nat->Prop}{t:TV}{x:Value}(h:BA w F z t x):x.oneCell'=X:=by
 cases t<;>simp[BA]at h;obtain⟨xs,l,_⟩:=h;rcases l.2 with⟨rfl,_⟩|⟨g,cap,m,e,rfl,_⟩<;>rfl
theorem Wz{F:Nat->Nat->Prop}{es:Fq}{x:Value}(h:Cm w F ρ z es x):x.oneCell'=X:=by
 obtain ⟨xs,⟨p,l,_⟩,_⟩:=h;rcases l.2 with⟨rfl,_⟩|⟨g,cap,m,e,rfl,_⟩<;>rfl
theorem Il{F:Nat->Nat->Prop}{t:TV}{x:Value}(h:CH w F ρ z t x):x.oneCell'=X:=by
 by_cases l:∃es,t=.xn es
 .obtain⟨es,rfl⟩:=l;exact Wz h
 by_cases m:∃n es,t=.xl n es
 .obtain⟨n,es,rfl⟩:=m;simp[CH,E1]at h;obtain⟨xs,⟨r,p,_⟩,_⟩:=h;rcases p.2 with⟨rfl,_⟩|⟨g,cap,q,e,rfl,_⟩<;>rfl
 .refine PP (w:=w) (F:=F) (z:=z) (t:=t) ?_;cases t<;>first|exact h|exact absurd ⟨_,_,rfl⟩ m|exact absurd ⟨_,rfl⟩ l
theorem DO{F:Nat->Nat->Prop}{x:Value}(h:Ar w F ρ z c x):x.oneCell'=X:=by
 obtain ⟨_|_,t⟩:=c
 .exact h.2
 .exact Il h
variable{x:Operand}{y:AC}
theorem Kx(C:AJ F0 w0 O a w G)(D:AF x y=X){cs:Fq}(g:Ao O (y.ev O)=Y cs):
  ∃b o vs,a.eval x=.pointer (Y ⟨b,o,W⟩)/\AM w (AP w0.heap.size F0 G) cs vs/\TV.jU cs/\(∀x∈vs,x.oneCell'=X)/\∀(j:Nat)(v:Value),vs[j]?=Y v->w.cell? ((⟨b,o,W⟩:Addr).add j)=Y v:=by
 have box:∀(s h:Nat)(ds:List AI),O.get s=.bx ds->∃b vs,slot a s=.pointer (Y ⟨b,0,W⟩)/\AM w (AP w0.heap.size F0 G) ((ds.drop h).map (·.t)) vs/\TV.jU ((ds.drop h).map (·.t))/\(∀x∈vs,x.oneCell'=X)/\∀(j:Nat)(v:Value),vs[j]?=Y v->w.cell? ((⟨b,h,W⟩:Addr).add j)=Y v:=by
  intro s h ds M;have p:=AR C M V;have I:=C.wf s;rw[M]at I;simp only[AH]at p;obtain⟨b,c,θ,r,u,E,B,A⟩:=p;refine⟨b,c.toList.drop h,r,?_,?_,?_,?_⟩
  .rw[A4];refine⟨by simp[E],λi t v H hv=>?_⟩;simp[List.getElem?_map,m_]at H hv;obtain⟨cell,l,rfl⟩:=H;obtain⟨x,N,p⟩:=A (h+i) cell l;have:x=v:=by
    grind
   subst this;exact Pp C p
  .rw[BD];intro t H;simp only[List.mem_map]at H;obtain⟨cell,l,rfl⟩:=H;exact I cell (m? l)
  .intro x N;obtain⟨i,hi,rfl⟩:=List.getElem_of_mem N;rw[List.getElem_drop];have R:h+i<c.size:=by simp at hi;omega
   have ε:ds[h+i]?=Y (ds[h+i]' U):=l! U
   grind [Array.getElem?_eq_getElem,DO]
  .intro j v hv;rw[m_]at hv;rw[Addr.add_lit,cell_of_row w b (h+j) c θ (0,0) u];simpa using hv
 cases y with
 |c t=>
  simp [AC.ev]at g;cases t<;>simp[Ao]at g;subst g;have:=Ak C D (t:=.pt _) rfl;simp[AV,TV.WF]at this;obtain⟨⟨b,o,r,u⟩,E⟩:=this;obtain⟨vs,B,J,A⟩:=NN u;exact⟨b,o,vs,r,B,E,J,A⟩
 |s n=>
  cases x<;>simp[AF]at D;subst D;rename_i n;simp[AC.ev]at g;cases he:O.get n with
  |tv t=>
   rw [he]at g;cases t<;>simp[Ao]at g;subst g;have p:=AR C he V;have I:=C.wf n;rw[he]at I;simp[AH,AV]at p;obtain⟨b,o,r,u⟩:=p;obtain⟨vs,B,J,A⟩:=NN u;exact⟨b,o,vs,r,B,by simpa[EV.WF,TV.WF]using I,J,A⟩
  |bx ds=>
   rw [he]at g;simp[Ao]at g;subst g;obtain⟨b,vs,r,u,E,L,B⟩:=box n 0 ds he;exact⟨b,0,vs,r,k!,by simpa using E,L,B⟩
  |bp q h=>
   rw [he]at g;simp only[Ao]at g;split at g
   next ds Q=>simp only[jR]at g;subst g;obtain⟨b,vs,r,u,E,L,B⟩:=box q h ds Q;have p:=AR C he V;simp only[AH]at p;obtain⟨κ,A,J⟩:=p ⟨ds,Q⟩;rw[r]at A;simp at A;subst A;exact⟨b,h,vs,J,u,E,L,B⟩
   .cases g
  |undef=>rw[he]at g;simp[Ao]at g|sk=>rw[he]at g;simp[Ao]at g|xo n es=>rw[he]at g;simp[Ao]at g|la q i=>rw[he]at g;simp[Ao]at g|kC cs=>rw[he]at g;simp[Ao]at g|xn es=>rw[he]at g;simp[Ao]at g|x1 n η=>rw[he]at g;simp[Ao]at g|mx m=>rw[he]at g;simp[Ao]at g|nh q i k=>rw[he]at g;simp[Ao]at g|lp q i c=>rw[he]at g;simp[Ao]at g|ow t=>rw[he]at g;simp[Ao]at g|tp ts=>rw[he]at g;simp[Ao]at g
variable{t:TypeId}
theorem ZG(p:AJ F0 w0 O a w G)(hd:d<a.tmps.size)(g:o.op=.load t x)(l:AF x y=X)(B:BM P t=Y T)(h:(AB.ld y).wp S O (Y d) K):Am P F0 w0 a w o d K:=by
 simp [AB.wp]at h;cases m:Ao O (y.ev O)with
 |none=>rw[m]at h;exact h.elim|some cs=>
  rw [m]at h;simp[AS]at h;obtain⟨b,C,vs,D,A,E,_,H⟩:=Kx p l m;cases cs with
  |nil=>simp[Cd]at h|cons u r=>
   simp [Cd]at h;replace h:=h.2;simp[AM]at A;obtain⟨v,J,rfl,I,L⟩:=A;have q:=H 0 v rfl;rw[Addr.add_zero']at q;refine Bc p hd (v:=v) ?_ I E.1 h;simp[execOp,g,D,Instr.loadAt,Instr.sureAddr,loadVar,Bf B,q]
variable{n:Nat}
theorem P7(r:AJ F0 w0 O a w G)(hd:d<a.tmps.size)(l:o.op=.load t x)(m:AF x y=X)(u:BM P t=Y X)(A:Bm P t=Y n)(h:(AB.mn y n).wp S O (Y d) K):Am P F0 w0 a w o d K:=by
 simp [AB.wp]at h;cases p:Ao O (y.ev O)with
 |none=>rw[p]at h;exact h.elim|some cs=>
  rw [p]at h;simp[AS]at h;obtain⟨b,q,vs,B,C,I,D,E⟩:=Kx r m p;have H:=Au C;have g:=run_loadCells_list (P:=P) w ⟨b,q,W⟩ (vs.take n) (λj v hv=>E j v (by rw[nc]at hv;split at hv<;>simp_all));rw[ca,Nat.min_eq_left U]at g;refine Bc r hd (v:=.agg (vs.take n).toArray) (t:=.agg (cs.take n)) ?_ ?_ ?_ h.2
  .simp[execOp,l,B,Instr.loadAt,Instr.sureAddr,loadVar,Bf u,BP A,g]
  .grind[AV,nQ,nR,A4]
  grind [TV.WF,BD,nR]
variable{i:Operand}{j:AC}
theorem XZ(l:AJ F0 w0 O a w G)(hd:d<a.tmps.size)(q:o.op=.indexAddr t x i)(r:AF x y=X)(g:AF i j=X)(A:EH P t=Y n)(h:(AB.l4 y j n).wp S O (Y d) K):Am P F0 w0 a w o d K:=by
 simp [AB.wp]at h;split at h
 .rename_i m es k L B C;obtain⟨rfl,E,e,he,H⟩:=h;have D:=Ak l r B;have u:=Ak l g C;simp[AV]at u;obtain⟨p,I,J⟩:=Uq (P:=P) (k:=k) A D.1 E he;refine Bc l hd (v:=p) (by simp[execOp,q,u.1,I]) J ?_ H
  grind [TV.WF,BD,l?,D2]
 .exact h.elim
theorem V9(l:AJ F0 w0 O a w G)(hd:d<a.tmps.size)(m:o.op=.index t x i)(p:AF x y=X)(g:AF i j=X)(u:P.underlying t=Y .string)(h:(AB.kQ y j).wp S O (Y d) K):Am P F0 w0 a w o d K:=by
 simp [AB.wp]at h;split at h
 .rename_i s k H A B;obtain⟨C,b,D,E⟩:=h;have q:=Ak l p A;have r:=Ak l g B;simp[AV]at q r;refine Bc l hd (v:=.int .u8 b.toNat) (t:=.int .u8 b.toNat) ?_ rfl ⟨by simp[IntKind.min,IntKind.signed],?_⟩ E
  .simp[execOp,m,q.1,r.1,Instr.index,asIntOf,run_underlying u,C,D]
  .have:=b.toNat_lt;simp[IntKind.max,IntKind.signed,IntKind.bits];omega
 .exact h.elim
theorem Q0{f k:Nat}(l:o.op=.fieldAddr t x f)(m:JQ P t f=Y k):∀b g,a.eval x=.pointer (Y ⟨b,g,W⟩)->(execOp a.eval o).run P w=.ok (.value (.pointer (Y ⟨b,g+k,W⟩))) w:=by
 intro b g h;simp[execOp,l,h,O2 m]
theorem KI(g:o.op=.move x\/o.op=.assign x\/o.op=.nilCheck x):∀b l,a.eval x=.pointer (Y ⟨b,l,W⟩)->(execOp a.eval o).run P w=.ok (.value (.pointer (Y ⟨b,l+0,W⟩))) w:=by
 intro b l h;rcases g with g|g|g<;>simp[execOp,g,h]
variable{k:Nat}
theorem Km(p:AJ F0 w0 O a w G)(hd:d<a.tmps.size)(l:∀b g,a.eval x=.pointer (Y ⟨b,g,W⟩)->(execOp a.eval o).run P w=.ok (.value (.pointer (Y ⟨b,g+k,W⟩))) w)(m:AF x y=X)(h:(AB.kK y k).wp S O (Y d) K):Am P F0 w0 a w o d K:=by
 simp [AB.wp]at h;split at h
 .rename_i row he;have u:=Qg p m he;simp[AV,TV.WF]at u;obtain⟨⟨b,g,C,D⟩,H⟩:=u;refine Bc p hd (v:=.pointer (Y ⟨b,g+k,W⟩)) (t:=.pt (row.drop k)) (l _ _ C) ?_ ?_ h
  .simp only[AV];exact⟨b,_,rfl,JH D k⟩
  grind [TV.WF,BD,m?]
 .rename_i q g he;cases y with
  |c t=>simp[AC.ev]at he|s n=>
   cases x<;>simp[AF]at m;subst m;rename_i n;simp[AC.ev]at he;have A:=AR p he V;simp only[AH]at A;split at h
   .rename_i r B;obtain⟨b,I,E⟩:=A ⟨r,B⟩;refine⟨.pointer (Y ⟨b,g+k,W⟩),w,l _ _ E,_,_,h,_,p.quiet (Below.refl _ _) d hd (.bp q (g+k)) _ (λ_=>W) V V V ?_ trivial⟩
    grind [AH,AA.gp,AQ]
   .exact h.elim
 .exact h.elim
theorem Kl(m:AJ F0 w0 O a w G)(hd:d<a.tmps.size)(l:∀b g,a.eval (.tmp s)=.pointer (Y ⟨b,g,W⟩)->(execOp a.eval o).run P w=.ok (.value (.pointer (Y ⟨b,g+k,W⟩))) w)(h:(AB.bad s k).wp S O (Y d) K):Am P F0 w0 a w o d K:=by
 simp [AB.wp]at h;split at h
 .rename_i cs he;have q:=AR m he V;simp only[AH]at q;obtain⟨b,c,θ,p,_⟩:=q;refine⟨.pointer (Y ⟨b,0+k,W⟩),w,l _ _ p,_,_,h,_,m.quiet (Below.refl _ _) d hd (.bp s k) _ (λ_=>W) V V V ?_ trivial⟩
  grind [AH,AA.gp,AQ]
 .rename_i row he;have p:=Qg m (x:=.tmp s) (y:=.s s) i9 he;simp[AV,TV.WF]at p;obtain⟨⟨b,g,r,u⟩,A⟩:=p;refine Bc m hd (v:=.pointer (Y ⟨b,g+k,W⟩)) (t:=.pt (row.drop k)) (l _ _ r) ?_ ?_ h
  .simp only[AV];exact⟨b,_,rfl,JH u k⟩
  grind [TV.WF,BD,m?]
 .exact h.elim
variable{e:TypeId}
theorem XN(p:AJ F0 w0 O a w G)(hd:d<a.tmps.size)(q:o.op=.indexAddr t x i)(r:AF x y=X)(l:AF i j=X)(u:P.underlying t=Y (.array k e))(D:Bm P e=Y n)
  (h:(AB.mZ y j n k).wp S O (Y d) K):Am P F0 w0 a w o d K:=by
 simp [AB.wp]at h;split at h
 .rename_i row Q m E A;obtain⟨I,J,R,L⟩:=h;have B:=(Ak p l A).1;simp[AV]at B;have H:∃b g,a.eval x=.pointer (Y ⟨b,g,W⟩)/\Bv w (AP w0.heap.size F0 G) row b g/\TV.jU row:=by
   have:=Qg p r E
   grind [AV,TV.WF]
  obtain ⟨b,g,M,N,C⟩:=H;have A:0<=m/\m<(k:Int):=⟨I,J⟩;refine Bc p hd (v:=.pointer (Y ⟨b,g+m.toNat*n,W⟩)) (t:=.pt (row.drop (m.toNat*n))) ?_ ?_ ?_ L
  .simp[execOp,q,B,M,Instr.indexAt,asIntOf,run_underlying u,A,Instr.sureAddr,BP D,Addr.add_lit]
  .simp only[AV];exact⟨b,_,rfl,JH N _⟩
  .simp[TV.WF];rw[BD]at C|-;exact λt u=>C t (m? u)
 .exact h.elim
def UZ(P:Program)(t:TypeId)(j:Operand)(k:Nat):Bool:=
 match j,P.underlying t with
 |.const (.int _ i),Y (.array m e)=>decide (0<=i)&&decide (i<(m:Int))&&(match Bm P e with
  |some n=>i.toNat*n==k|none=>T)
 |_,_=>T
theorem Yl{P:Program}{o:Oper}{a:Act}{w:World}{j:Operand}(q:o.op=.indexAddr t (.tmp s) j)(g:UZ P t j k=X)(b l:Nat)(h:a.eval (.tmp s)=.pointer (Y ⟨b,l,W⟩)):(execOp a.eval o).run P w=.ok (.value (.pointer (Y ⟨b,l+k,W⟩))) w:=by
 unfold UZ at g;split at g
 .rename_i r i m e u;simp[kY]at g;obtain⟨⟨D,E⟩,p⟩:=g;split at p
  next n A=>simp at p;subst p;have B:0<=i/\i<(m:Int):=⟨D,E⟩;have C:a.eval (.const (.int r i))=.int r i:=rfl;simp[execOp,q,h,C,Instr.indexAt,asIntOf,run_underlying u,B,Instr.sureAddr,BP A,Addr.add_lit]
  .cases p
 .cases g
def OO(g:TypeId->Option Ne)(P:Program):List Field->Nat->Option Ne
 |[],_=>Y []|f::fs,off=>match g f.type with
  |some ks=>if(f.name≠ "_" /\f.offset=off)/\Bm P f.type=Y ks.length then(match OO g P fs (off+ks.length)with|some r=>Y (ks ++ r)|none=>W)else W
  |none=>W
def J0(P:Program):Nat->TypeId->Option Ne
 |0,_=>W|k+1,t=>match P.underlying t with
  |some (.int _)=>Y [0]|some .string=>Y [1]|some .bool=>Y [2]|some (.struct fs)=>if P.stoodInHeld t then W else OO (J0 P k) P fs.toList 0|_=>W
def H6(P:Program):BK->TypeId->Bool
 |.i,_=>X|.s,_=>X|.w,_=>X|.b,t=>match P.underlying t with|some .bool=>X|_=>T
 |.a n,t=>BM P t==Y X&&!P.eqGuardType P.depth t&&J0 P 8 t==Y n
def TV.kl:TV->Value
 |.int k n=>.int k n|.str s=>.string s|.bool b=>.bool b|_=>Go.undef
def TV.lb:TV->Bool
 |.int _ _=>X|.str _=>X|.bool _=>X|_=>T
theorem LP:∀{cs ds:Fq}{r:Bool},BL cs ds=Y r->cs.length=ds.length/\(∀t∈cs,t.lb=X)/\(∀t∈ds,t.lb=X)
 |[],[],_,_=>by simp|[],_::_,_,h=>by simp[BL]at h|c::cs,[],_,h=>by cases c<;>simp[BL]at h
 |c::cs,d::ds,r,h=>by
  have key:∀l,BL cs ds=Y l->c.lb=X->d.lb=X->(c::cs).length=(d::ds).length/\(∀t∈c::cs,t.lb=X)/\(∀t∈d::ds,t.lb=X):=by
   intro l g m p;obtain⟨u,A,B⟩:=LP g
   grind
  cases c<;>cases d<;>simp only[BL,reduceCtorEq]at h
  .split at h
   .split at h
    next q g=>exact key q g rfl rfl
    .cases h
   .cases h
  .split at h
   next q g=>exact key q g rfl rfl
   .cases h
  .split at h
   next q g=>exact key q g rfl rfl
   .cases h
variable{v:Value}
theorem XC{F:Nat->Nat->Prop}{t:TV}(g:t.lb=X)(h:AV w F t v):v=t.kl:=by
 cases t<;>simp[TV.lb]at g<;>exact h
theorem Ls{F:Nat->Nat->Prop}:∀{cs:Fq}{xs:List Value},(∀t∈cs,t.lb=X)->AM w F cs xs->xs=cs.map TV.kl
 |[],_,_,h=>h|c::cs,xs,g,h=>by
  simp [AM]at h;obtain⟨v,r,rfl,m,p⟩:=h;rw[XC (g c V) m,Ls (λt l=>g t (by simp[l])) p];rfl
theorem Hw:∀(m:Nat){cs ds:Fq}{r:Bool},BL cs ds=Y r->∃g l,BL (cs.take m) (ds.take m)=Y g/\BL (cs.drop m) (ds.drop m)=Y l/\r=(g&&l)
 |0,cs,ds,r,h=>⟨X,r,by simp[BL],f?,V⟩|m+1,[],[],r,h=>by
  grind
 |m+1,[],_::_,_,h=>by simp[BL]at h|m+1,c::cs,[],_,h=>by cases c<;>simp[BL]at h
 |m+1,c::cs,d::ds,r,h=>by
  cases c<;>cases d<;>simp only[BL,reduceCtorEq]at h
  .split at h
   .rename_i C;split at h
    .rename_i q p;obtain⟨g,l,u,A,B⟩:=Hw m p
     grind [jR,BL,nW]
    .cases h
   .cases h
  .split at h
   .rename_i q p;obtain⟨g,l,u,A,B⟩:=Hw m p
    grind [jR,BL,nW]
   .cases h
  .split at h
   .rename_i q p;obtain⟨g,l,u,A,B⟩:=Hw m p
    grind [jR,BL,nW]
   .cases h
def HO(P:Program)(t:TypeId)(vs:List Value):Value:=if BM P t=Y X then .agg vs.toArray else vs.headD Go.undef
theorem K0:∀{cs ds:Fq}{r:Bool},BL cs ds=Y r->ds.map TV.kd=cs.map TV.kd
 |[],[],_,_=>rfl|[],_::_,_,h=>by simp[BL]at h|c::cs,[],_,h=>by cases c<;>simp[BL]at h
 |c::cs,d::ds,r,h=>by
  cases c<;>cases d<;>simp only[BL,reduceCtorEq]at h
  .split at h
   .split at h
    next q g=>simp[K0 g,TV.kd]
    .cases h
   .cases h
  .split at h
   next q g=>simp[K0 g,TV.kd]
   .cases h
  .split at h
   next q g=>simp[K0 g,TV.kd]
   .cases h
theorem RG(k:Nat)(θ:∀(t:TypeId)(n:Ne),J0 P k t=Y n->∀d,k<=d->∀(cs ds:Fq)(r:Bool),cs.map TV.kd=n->BL cs ds=Y r->(Op.equalIn d t (HO P t (cs.map TV.kl)) (HO P t (ds.map TV.kl))).run P w=.ok r w):
  ∀(H:List Field)(p:Nat)(n:Ne),OO (J0 P k) P H p=Y n->∀d,k<=d->∀(g m:List Value)(cs ds:Fq)(r:Bool),g.length=p->m.length=p->cs.map TV.kd=n->BL cs ds=Y r ->
   (Op.eqFields d (g++cs.map TV.kl).toArray (m++ds.map TV.kl).toArray H).run P w=.ok r w
 |[],p,n,hf,d,hd,g,m,cs,ds,r,ζ,δ,E,h=>by
  simp [OO]at hf;subst hf;have:cs=[]:=List.map_eq_nil_iff.1 E;subst this;cases ds<;>simp[BL]at h;subst h;simp[Op.eqFields]
 |f::H,p,n,hf,d,hd,g,m,cs,ds,r,ζ,δ,E,h=>by
  simp [OO]at hf;split at hf
  .rename_i l u;split at hf
   .rename_i Z;split at hf
    .rename_i rest D;simp at hf;subst hf;obtain⟨⟨hn,ho⟩,Q⟩:=Z;have hcl:cs.length=l.length+rest.length:=by
      have:=congrArg List.length E;simpa using this
     obtain ⟨η,r2,e1,e2,rfl⟩:=Hw l.length h;have κ:=(LP h).1;have hdl:ds.length=l.length+rest.length:=U
     have M:(cs.take l.length).map TV.kd=l:=by rw[nS,E,List.take_left'];rfl
     have N:(cs.drop l.length).map TV.kd=rest:=by rw[List.map_drop,E,List.drop_left'];rfl
     have hi:=θ f.type l u d hd (cs.take l.length) (ds.take l.length) η M e1;have C:=RG k θ H (p+l.length) rest D d hd (g++(cs.take l.length).map TV.kl) (m++(ds.take l.length).map TV.kl) (cs.drop l.length) (ds.drop l.length) r2 an an N e2;have A:∀(g:List Value)(cs:Fq),g++(cs.take l.length).map TV.kl++(cs.drop l.length).map TV.kl=g++cs.map TV.kl:=by
      intro g cs;rw[eo,<-List.map_append,List.take_append_drop]
     rw [A,A]at C;have B:∀(g:List Value)(cs:Fq),g.length=p->l.length<=cs.length->(0<l.length\/BM P f.type=Y X)->(∃b,BM P f.type=Y b)->(part f.type (g++cs.map TV.kl).toArray f.offset).run P w=.ok (HO P f.type ((cs.take l.length).map TV.kl)) w:=by
      intro g cs ε J L q;obtain⟨b,q⟩:=q;cases b with
      |true=>
       simp only[part,Sem.run_bind,Bf q,Result.andThen_ok,if_true,BP Q,Sem.run_pure,HO,q];congr 2;rw[List.extract_toArray,List.extract_eq_take_drop,ho,<-ε,List.drop_left,Nat.add_sub_cancel_left,<-nS]
      |false=>
       have h0:0<l.length:=by
        rcases L with h|h
        .exact h
        .rw[q]at h;cases h
       cases cs with
       |nil=>exact absurd (Nat.lt_of_lt_of_le h0 J) V|cons c cs=>
        obtain ⟨m',R⟩:∃m',l.length=m'+1:=⟨l.length-1,U⟩;have:((g++(c::cs).map TV.kl).toArray)[f.offset]?=Y c.kl:=by
         rw [List.getElem?_toArray,ho,<-ε,List.getElem?_append_right (bk _),Nat.sub_self];rfl
        simp only[part,Sem.run_bind,Bf q,Result.andThen_ok,Bool.false_eq_true,if_false,this,Sem.run_pure,HO,q,R];simp
     have q:(∃b,BM P f.type=Y b)/\(0<l.length\/BM P f.type=Y X):=by
      cases k with
      |zero=>simp[J0]at u|succ k=>
       simp [J0]at u;unfold BM;split at u<;>rename_i I
       .simp at u;subst u;rw[I];exact⟨⟨_,rfl⟩,.inl V⟩
       .simp at u;subst u;rw[I];exact⟨⟨_,rfl⟩,.inl V⟩
       .simp at u;subst u;rw[I];exact⟨⟨_,rfl⟩,.inl V⟩
       .rw[I];exact⟨⟨_,rfl⟩,.inr rfl⟩
       .cases u
     have p1:=B g cs ζ U q.2 q.1;have p2:=B m ds δ U q.2 q.1;simp only[Op.eqFields,Sem.run_bind,Sem.run_ite,ae hn,p1,p2,hi,Result.andThen_ok];cases η with
     |true=>simpa using C|false=>simp
    .cases hf
   .cases hf
  .cases hf
theorem VK(a b:ByteArray):(a.toList==b.toList)=decide (a=b):=by
 rw [nX,beq_iff_eq,kY];refine⟨λh=>?_,λh=>by rw[h]⟩;rw[ByteArray.toList_eq,ByteArray.toList_eq]at h;cases a;cases b;simpa using h
theorem Ta:∀(k:Nat)(t:TypeId)(n:Ne),J0 P k t=Y n->∀d,k<=d->∀(cs ds:Fq)(r:Bool),cs.map TV.kd=n->BL cs ds=Y r->(Op.equalIn d t (HO P t (cs.map TV.kl)) (HO P t (ds.map TV.kl))).run P w=.ok r w
 |0,_,_,h,_,_,_,_,_,_,_=>by simp[J0]at h|k+1,t,n,hf,d,hd,cs,ds,r,E,h=>by
  obtain ⟨d,rfl⟩:∃I,d=I+1:=⟨d-1,U⟩;have C:=K0 h;simp[J0]at hf;have one:∀x,n=[x]->BM P t=Y T->∃c e,cs=[c]/\ds=[e]/\c.kd=x/\e.kd=x/\HO P t (cs.map TV.kl)=c.kl/\HO P t (ds.map TV.kl)=e.kl:=by
   intro x J N;rw[J]at E
   match cs,ds,E,C with
   |[c],[e],A,B=>
    grind [List.cons.injEq,HO]
   |[],_,A,_=>simp at A|[c],[],_,B=>simp at B|[c],_::_::_,_,B=>simp at B|_::_::_,_,A,_=>simp at A
  split at hf<;>rename_i g
  .simp at hf;obtain⟨c,e,rfl,rfl,m,p,q,u⟩:=one 0 hf.symm (by simp[BM,g]);rw[q,u];cases c<;>first|(simp[TV.kd]at m;done)|skip
   cases e<;>first|(simp[TV.kd]at p;done)|skip
   simp only[BL]at h;split at h
   next L=>subst L;simp at h;simp[TV.kl];rw[run_equalIn_int (P:=P) w d t _ _ _ _ g,<-h];congr 1
   .cases h
  .simp at hf;obtain⟨c,e,rfl,rfl,m,p,q,u⟩:=one 1 hf.symm (by simp[BM,g]);rw[q,u];cases c<;>first|(simp[TV.kd]at m;done)|skip
   cases e<;>first|(simp[TV.kd]at p;done)|skip
   simp [BL]at h;simp[TV.kl];rw[run_equalIn_string (P:=P) w d t _ _ g,<-h]
   grind [VK]
  .simp at hf;obtain⟨c,e,rfl,rfl,m,p,q,u⟩:=one 2 hf.symm (by simp[BM,g]);rw[q,u];cases c<;>first|(simp[TV.kd]at m;done)|skip
   cases e<;>first|(simp[TV.kd]at p;done)|skip
   simp [BL]at h;simp[TV.kl];rw[run_equalIn_bool' (P:=P) w d t _ _ g,<-h];congr 1
  .split at hf
   .cases hf
   .rename_i H M;have D:BM P t=Y X:=by simp[BM,g]
    have l:P.fieldsOf t=H:=by simp[Program.fieldsOf,g]
    simp [HO,D];rw[run_equalIn_struct w d t _ _ (by rw[l];exact g) (by simpa using M),l];exact RG k (Ta k) H.toList 0 n hf d U [] [] cs ds r rfl rfl E h
  .cases hf
variable{vx vy:Value}
theorem P4{op:BinOp}{x y:Operand}{cs ds:Fq}{q:Bool}{n:Ne}(D:cs.map TV.kd=n){F:Nat->Nat->Prop}(u:H6 P (.a n) t=X)(g:AV w F (.agg cs) vx)(h:AV w F (.agg ds) vy)(A:BL cs ds=Y q):
  ∃xs ys,vx=.agg xs/\vy=.agg ys/\(eqGuard op t x y (.agg xs) (.agg ys)).run P w=.ok () w/\(Op.equalIn 10000 t (.agg xs) (.agg ys)).run P w=.ok q w:=by
 simp [AV]at g h;obtain⟨xs,rfl,g,_⟩:=g;obtain⟨ys,rfl,h,_⟩:=h;simp only[H6,jP,Bool.not_eq_true']at u;obtain⟨⟨B,E⟩,C⟩:=u;obtain⟨H,p,r⟩:=LP A;refine⟨xs,ys,rfl,rfl,run_eqGuard_agg w op t x y xs ys E,?_⟩;simp at B C;have l:=Ls p g;have m:=Ls r h;have:=Ta (P:=P) (w:=w) 8 t n C 10000 U cs ds q D A;simp[HO,B,<-l,<-m]at this;simpa using this
theorem Y9{op:BinOp}{x y:Operand}{k m:IntKind}{a b r:Int}{F:Nat->Nat->Prop}(p:k=m\/op=.shl\/op=.shr)(l:JT k op a b=Y r):
  ∃v,(do eqGuard op t x y (.int k a) (.int m b);binOp op t (.int k a) (.int m b):Sem Value).run P w=.ok v w/\AV w F (.int k r) v/\(TV.int k r).WF:=by
 have g:∀(op:BinOp)(q:Value),k=m->(op=.and\/op=.or\/op=.xor\/op=.andNot)->(Op.intBits op k a b).run P w=.ok q w->(do eqGuard op t x y (.int k a) (.int m b);binOp op t (.int k a) (.int m b):Sem Value).run P w=.ok q w:=by
  intro op q e ho h;subst e;rcases ho with rfl|rfl|rfl|rfl<;>simpa[eqGuard,binOp]using h
 cases op<;>simp only[JT]at l<;>try(cases l;done)
 case and=>cases l;exact⟨_,g _ _ k_ V rfl,rfl,Gq _ _⟩
 case or=>cases l;exact⟨_,g _ _ k_ V rfl,rfl,Gq _ _⟩
 case xor=>cases l;exact⟨_,g _ _ k_ V rfl,rfl,Gq _ _⟩
 case andNot=>cases l;exact⟨_,g _ _ k_ V rfl,rfl,Gq _ _⟩
 case shl=>
  split at l
  next u=>cases l;exact⟨_,by simp[eqGuard,binOp,Op.shift,Int.not_lt.2 u],rfl,Gq _ _⟩
  .cases l
 case shr=>
  split at l
  next u=>cases l;exact⟨_,by simp[eqGuard,binOp,Op.shift,Int.not_lt.2 u.1],rfl,u.2⟩
  .cases l
theorem Y8{k:BK}{op:BinOp}{x y:Operand}{E ty r:TV}{F:Nat->Nat->Prop}(N:H6 P k t=X)(g:Gc k op E ty=Y r)(l:AV w F E vx)(m:AV w F ty vy)(H:E.WF)(Q:ty.WF):
  ∃v,(do eqGuard op t x y vx vy;binOp op t vx vy:Sem Value).run P w=.ok v w/\AV w F r v/\r.WF:=by
 unfold Gc at g;split at g
 .rename_i k a R b;simp[AV]at l m;subst l;subst m;split at g
  .rename_i p;subst p;rw[Sem.run_bind,eqGuard_at_int,Sem.run_pure,Result.andThen_ok];have B:op=.quo\/op=.rem\/(op≠.quo/\op≠.rem):=by cases op<;>simp
   rcases B with rfl|rfl|⟨u,κ⟩
   .by_cases A:b=0
    .simp[intCmp,intArith,A]at g
    .simp[intCmp,intArith,A]at g;subst g;exact⟨_,by simp[binOp,Op.intDiv,A],rfl,Gq _ _⟩
   .by_cases A:b=0
    .simp[intCmp,intArith,A]at g
    .simp[intCmp,intArith,A]at g;subst g;refine⟨_,by simp[binOp,Op.intDiv,A],rfl,?_⟩;simp[TV.WF]at H|-;have C:a.tmod b<=max a 0/\min a 0<=a.tmod b:=by
      have D:=Int.natAbs_tmod a b;have ζ:=Nat.mod_le a.natAbs b.natAbs;rcases Int.le_total 0 a with h|h
      .grind[Int.tmod_nonneg]
      .have δ:=Int.tmod_nonneg (a:=-a) b U
       grind [Int.neg_tmod]
     have Z:k.min<=0:=by cases k<;>decide
     have h5:0<=k.max:=by cases k<;>decide
     omega
   .cases op<;>simp[intCmp,intArith]at g u κ<;>subst g<;>(refine⟨_,?_,rfl,?_⟩)<;>first|(simp[binOp,Op.intCmp,Op.intArith];done)|exact trivial|exact Gq _ _|skip
    all_goals (simp[binOp,Op.intCmp];rw[nX];simp)
  .cases g
 .rename_i op k a R b;simp[AV]at l m;subst l;subst m;split at g
  .rename_i p;split at g
   next η u=>simp at g;subst g;exact Y9 p u
   .cases g
  .cases g
 .simp[AV]at l m;subst l;subst m;simp at g;subst g;exact⟨_,by simp[eqGuard,binOp,Op.stringOp,beq_toListBytes],rfl,trivial⟩
 .simp[AV]at l m;subst l;subst m;simp at g;subst g;exact⟨_,by simp[eqGuard,binOp,Op.stringOp,beq_toListBytes],rfl,trivial⟩
 .simp[AV]at l m;subst l;subst m;rename_i θ ε;split at g
  .rename_i I;simp at g;subst g;have L:¬(((θ.size+ε.size:Nat):Int)>IntKind.i64.max):=by
    have hm:IntKind.i64.max=9223372036854775807:=a?
    grind [CA]
   refine ⟨_,by simp only[eqGuard,binOp,Op.stringOp];rw[az L];simp,rfl,by simp[TV.WF];exact Ob I⟩
  .cases g
 .simp[AV]at l m;subst l;subst m;simp at g;subst g;have M:P.underlying t=Y .bool:=by
   grind [H6]
  exact ⟨_,by simp[eqGuard_at_bool,binOp,Op.equal,Op.maxDepth,run_equalIn_bool' (P:=P) w _ t _ _ M],rfl,trivial⟩
 .simp[AV]at l m;subst l;subst m;simp at g;subst g;have M:P.underlying t=Y .bool:=by
   grind [H6]
  exact ⟨_,by simp[eqGuard_at_bool,binOp,Op.equal,Op.maxDepth,run_equalIn_bool' (P:=P) w _ t _ _ M],rfl,trivial⟩
 .rename_i cs ds;split at g
  .rename_i J;split at g
   next q u=>simp at g;subst g;obtain⟨xs,ys,rfl,rfl,C,D⟩:=P4 (op:=.eql) (x:=x) (y:=y) J N l m u;exact⟨_,by simp[C,run_eql_struct,D],rfl,trivial⟩
   .cases g
  .cases g
 .rename_i cs ds;split at g
  .rename_i J;split at g
   next q u=>simp at g;subst g;obtain⟨xs,ys,rfl,rfl,C,D⟩:=P4 (op:=.neq) (x:=x) (y:=y) J N l m u;exact⟨_,by simp[C,run_neq_struct,D],rfl,trivial⟩
   .cases g
  .cases g
 .cases g
variable{y':AC}
theorem XQ{S:FuncId->Fq->AZ->Prop}{F0:Nat->Nat->Prop}{w0:W0}{O:AA}{a:Act}{G:Ay}{d:Nat}{o:Oper}{K:EV->AA->Prop}(g:AJ F0 w0 O a w G)(hd:d<a.tmps.size){x x':Operand}{k:BK}{op:BinOp}{t A:TypeId}
  (l:o.op=.binOp op t x x' A)(B:H6 P k t=X)(C:AF x y=X)(D:AF x' y'=X)(h:(AB.bin k op y y').wp S O (Y d) K):Am P F0 w0 a w o d K:=by
 simp [AB.wp]at h;split at h
 .rename_i E ty H I;cases m:Gc k op E ty with
  |none=>rw[m]at h;exact h.elim|some r=>
   rw [m]at h;have p:=Ak g C H;have q:=Ak g D I;obtain⟨v,u,J,L⟩:=Y8 (x:=x) (y:=x') B m p.1 q.1 p.2 q.2;refine Bc g hd (v:=v) ?_ J L h;simp only[execOp,l,Sem.run_bind]at u|-;rw[u];rfl
 .exact h.elim
end
end Go.Sf
namespace Go.Sf
open Go.RowKit (Below)
def H8:Option Operand->Option AC->Bool
 |none,W=>X|some x,Y y=>AF x y|_,_=>T
section
variable{P:Program}{S:FuncId->Fq->AZ->Prop}{F0:Nat->Nat->Prop}{w0:W0}{O:AA}{a:Act}{w:World}{G:Ay}{d:Nat}{o:Oper}{K:EV->AA->Prop}
theorem PF(h:AJ F0 w0 O a w G){x:Option Operand}{y:Option AC}(g:H8 x y=X){k:IntKind}{q l:Int}(hv:Dc O q y=Y (.int k l)):
  (x=W/\l=q)\/∃v m,x=Y v/\a.eval v=.int m l:=by
 cases y with
 |none=>
  cases x<;>simp[H8]at g;simp[Dc]at hv;exact .inl ⟨rfl,hv.2.symm⟩
 |some y=>
  cases x<;>simp[H8]at g;rename_i v;have:=(Ak h g (t:=.int k l) hv).1;simp[AV]at this;exact .inr ⟨v,k,rfl,this⟩
theorem NR{isS:Bool}{len cap:Nat}{lo hi:Option Value}{l h:Int}(q:0<=l)(r:l<=h)(u:h<=len)(A:len<=cap)
  (g:(lo=W/\l=0)\/∃k,lo=Y (.int k l))(m:(hi=W/\h=len)\/∃k,hi=Y (.int k h)):
  (Instr.sliceBounds isS len cap lo hi W).run P w=.ok (l.toNat,h.toNat,cap) w:=by
 rcases g with⟨rfl,rfl⟩|⟨k,rfl⟩<;>rcases m with⟨rfl,rfl⟩|⟨p,rfl⟩
 .simp[Instr.sliceBounds]
 .simp[Instr.sliceBounds,run_sliceBound (P:=P) w p h cap _ U U]
 .simp[Instr.sliceBounds,run_sliceBound (P:=P) w k l len _ U U]
 .simp[Instr.sliceBounds,run_sliceBound (P:=P) w p h cap _ U U,run_sliceBound (P:=P) w k l h.toNat _ U U]
variable{x:Operand}{y:AC}{lo' hi':Option AC}{t:TypeId}{n:Nat}
theorem Xu(H:AJ F0 w0 O a w G)(hd:d<a.tmps.size){lo hi:Option Operand}(I:o.op=.slice t x lo hi W)(J:AF x y=X)(θ:H8 lo lo'=X)(hh:H8 hi hi'=X)
  (A:EH P t=Y n)(h:(AB.lx n y lo' hi').wp S O (Y d) K):Am P F0 w0 a w o d K:=by
 simp [AB.wp]at h;split at h
 .rename_i m es hv;split at h
  .rename_i k1 l k2 C κ η;obtain⟨⟨hm,h0,h1⟩,h2,hK⟩:=h;subst hm;have M:=Ak H J hv;simp[AV]at M;obtain⟨⟨r,cap,h4,h5,Q,h7⟩,R⟩:=M;have Z:=PF H θ κ;have b2:=PF H hh η;unfold EH at A;split at A
   .rename_i e ζ;have D:=NR (P:=P) (w:=w) (isS:=X) (lo:=lo.map a.eval) (hi:=hi.map a.eval) h0 h1 h2 h5
     (by rcases Z with⟨rfl,rfl⟩|⟨v,k',rfl,hv⟩<;>simp[*]) (by rcases b2 with⟨rfl,rfl⟩|⟨v,k',rfl,hv⟩<;>simp[*])
    refine Bc H hd (v:=.slice (if cap=l.toNat then r else r.map (·.add (l.toNat*m))) (C.toNat-l.toNat) (cap-l.toNat)) (t:=.list m ((es.take C.toNat).drop l.toNat)) ?_ ?_ ?_ hK
    .simp[execOp,I,Instr.sliceAt,Instr.slice,run_underlying ζ,h4,D,BP A]
    .simp only[AV];refine⟨if cap=l.toNat then r else r.map (·.add (l.toNat*m)),cap-l.toNat,an,an,λL=>?_,λε g=>?_⟩
     .have p:es=[]\/l.toNat=C.toNat:=by
       split at L
       .exact .inl (Q L)
       .cases r with
        |none=>exact .inl (Q rfl)|some r=>simp at L
      rcases p with rfl|p
      .simp
      .apply nT;simp;omega
     .by_cases N:cap=l.toNat
      .have q:(es.take C.toNat).drop l.toNat=[]:=by apply nT;simp;omega
       rw [ae N]at g;rw[q];exact⟨.inl rfl,trivial⟩
      .rw[az N]at g;cases r with
       |none=>simp at g|some r=>
        simp at g;subst g;obtain⟨B,u⟩:=h7 r rfl;obtain⟨b,E,sp⟩:=r;simp only at B u;by_cases p:es=[]
        .have q:(es.take C.toNat).drop l.toNat=[]:=by rw[p];simp
         rw [q];exact⟨.inl rfl,trivial⟩
        have B:sp=W:=B.resolve_left p;subst B;rw[Addr.add_lit];refine⟨.inr rfl,?_⟩;rw[LJ]at u|-;intro i δ he;rw[m_,nc]at he;split at he
        .have:=u (l.toNat+i) δ he
         rwa [show E+l.toNat*m+i*m=E+(l.toNat+i)*m from e_]
        .cases he
    .simp only[TV.WF]at R|-;refine⟨an,?_⟩;have B:=BD.1 R.2;exact BD.2 λt A=>B t (nR (m? A))
   .cases A
  .exact h.elim
 .exact h.elim
theorem WB(m:AJ F0 w0 O a w G)(hd:d<a.tmps.size){lo hi:Option Operand}(p:o.op=.slice t x lo hi W)(q:AF x y=X)(A:H8 lo lo'=X)(hh:H8 hi hi'=X)
  (B:P.underlying t=Y .string)(h:(AB.k8 y lo' hi').wp S O (Y d) K):Am P F0 w0 a w o d K:=by
 simp [AB.wp]at h;split at h
 .rename_i s hv;split at h
  .rename_i Q l R u C D;obtain⟨I,J,L,M⟩:=h;have r:=Ak m q hv;simp[AV]at r;have E:=PF m A C;have H:=PF m hh D;have g:=NR (P:=P) (w:=w) (isS:=T) (lo:=lo.map a.eval) (hi:=hi.map a.eval) I J L (bk _)
     (by rcases E with⟨rfl,rfl⟩|⟨v,N,rfl,hv⟩<;>simp[*]) (by rcases H with⟨rfl,rfl⟩|⟨v,N,rfl,hv⟩<;>simp[*])
   refine Bc m hd (v:=.string (s.extract l.toNat u.toNat)) (t:=.str (s.extract l.toNat u.toNat)) ?_ rfl ?_ M
   .simp[execOp,p,Instr.sliceAt,Instr.slice,run_underlying B,r.1,g]
   .have:=r.2;simp[TV.WF]at this|-;omega
  .exact h.elim
 .exact h.elim
variable{y':AC}
theorem Ts(l:AJ F0 w0 O a w G)(hd:d<a.tmps.size){x x':Operand}{mx:Bool}{ts:Array TypeId}
  (g:o.op=.call {callee:=.builtin (match mx with|true=>.max|false=>.min),args:=#[x,x'],argTypes:=ts})
  (u:AF x y=X)(A:AF x' y'=X)(h:(AB.mm mx y y').wp S O (Y d) K):Am P F0 w0 a w o d K:=by
 simp [AB.wp]at h;split at h
 .rename_i k p E q B C;obtain⟨rfl,D⟩:=h;have m:=Ak l u B;have r:=Ak l A C;simp[AV,TV.WF]at m r;refine Bc l hd (v:=.int k (if mx then max p q else min p q)) (t:=.int k (if mx then max p q else min p q)) ?_ rfl ?_ D
  .cases mx
   .simp[execOp,g,resolve,invoke,builtin,m.1,r.1,Builtin.min_,Builtin.min2];rw[Int.min_def];split<;>split<;>omega
   .simp[execOp,g,resolve,invoke,builtin,m.1,r.1,Builtin.max_,Builtin.max2];rw[Int.max_def];split<;>split<;>omega
  .simp[TV.WF];split<;>omega
 .exact h.elim
theorem V3(g:AJ F0 w0 O a w G)(hd:d<a.tmps.size)(l:o.op=.box t x)(m:AF x y=X)(h:(AB.mq y).wp S O (Y d) K):Am P F0 w0 a w o d K:=by
 simp [AB.wp]at h;split at h
 .rename_i u hv;have B:=Ak g m hv;have r:Below w.heap.size w (w.alloc (.cells (a.eval x).cells t)):=(Below.refl _ _).alloc (bk _) _;refine⟨.pointer (Y ⟨w.heap.size,0,W⟩),w.alloc (.cells (a.eval x).cells t),by simp[execOp,l,Instr.box,newVar,newRow],_,_,h,g.tv r d hd (.pt u.cells) _ ?_ ?_⟩
  .simp only[AV];refine⟨_,_,rfl,?_⟩;have p:=FX (F0:=F0) (w0:=w0) (G:=G) r d (λ_=>W) V
   .have A:=DH B.1;refine LK (AY p _ _ A.1) A.2 λi v hi=>?_;have C:(w.alloc (.cells (a.eval x).cells t)).cell? ⟨w.heap.size,0+i,W⟩=Y v:=by
     rw [World.cell?_alloc_new,Nat.zero_add];simpa using hi
    refine ⟨C,?_⟩;rintro(⟨q,_⟩|⟨s,j,lo,q,_⟩)
    .have:=g.below.size;omega
    .by_cases D:s=d
     .grind[BH]
     .rw[Aq _ _ _ _ D]at q;have:=(g.lt _ _ _ _ q).1;omega
  grind [TV.WF,D2]
 .exact h.elim
end
end Go.Sf
namespace Go.Sf
open Go.RowKit (Below)
def Pz:List Value->Nat->List Value->List Value
 |cs,_,[]=>cs|cs,i,d::ds=>Pz (cs.set i d) (i+1) ds
theorem K5(g:Nat):∀(l:List Value)(k:Nat)(cells:Array Value),((l.zipIdx k).foldl (λcs(x:Value×Nat)=>cs.setIfInBounds (g+x.2) x.1) cells).toList=Pz cells.toList (g+k) l
 |[],_,_=>rfl|v::l,k,cells=>by
  simp [Pz];rw[K5 g l (k+1)]
  grind
section
variable{w:World}{F:Nat->Nat->Prop}
variable{v:Value}
theorem Uk{cs:Fq}{xs:List Value}(h:AM w F cs xs)(i:Nat){t:TV}(g:AV w F t v):AM w F (cs.set i t) (xs.set i v):=by
 rw [A4]at h|-
 grind
theorem Qo:∀{ds:Fq}{ys:List Value}{cs:Fq}{xs:List Value}(i:Nat),AM w F cs xs->AM w F ds ys->AM w F (I7 cs i ds) (Pz xs i ys)
 |[],ys,cs,xs,i,h,hd=>by simp[AM]at hd;subst hd;exact h|d::ds,ys,cs,xs,i,h,hd=>by
  simp [AM]at hd;obtain⟨v,r,rfl,g,l⟩:=hd;exact Qo (i+1) (Uk h i g) l
theorem Tn:∀(ys xs:List Value)(i:Nat),(∀x∈xs,x.oneCell'=X)->(∀y∈ys,y.oneCell'=X)->∀x∈Pz xs i ys,x.oneCell'=X
 |[],_,_,h,_=>h|y::ys,xs,i,h,l=>by
  refine Tn ys (xs.set i y) (i+1) (λx m=>?_) (λz g=>l z (by simp[g]))
  grind
theorem Ps{place:Nat->Option (Nat×Nat)}:∀{ps:List (Nat×Value)}{ts:List (Nat×Nat×TV)}{cs cs':Fq}{xs:Array Value},AM w F cs xs.toList->ps.length=ts.length ->
  (∀(j:Nat)(p:Nat×Value)(t:Nat×Nat×TV),ps[j]?=Y p->ts[j]?=Y t->place p.1=Y (t.1,t.2.1)/\AV w F t.2.2 p.2)->CX cs ts=Y cs'->(∀x∈xs.toList,x.oneCell'=X) ->
  ∃xs',Instr.fill place xs ps=Y xs'/\AM w F cs' xs'.toList/\∀x∈xs'.toList,x.oneCell'=X
 |[],ts,cs,cs',xs,h,l,u,hf,ho=>by
  have:ts=[]:=nT l.symm;subst this;simp[CX]at hf;subst hf;exact⟨xs,rfl,h,ho⟩
 |(i,v)::ps,[],_,_,_,_,l,_,_,_=>by simp at l|(i,v)::ps,(g,n,t)::ts,cs,cs',xs,h,l,u,hf,ho=>by
  simp only[CX]at hf;split at hf
  .rename_i J;obtain⟨B,r⟩:=u 0 _ _ rfl rfl;simp only at B r;have A:=(DH r).1;have C:=(DH r).2;have L:v.cells.size=n:=by have:=Au A;rw[nY]at this;omega
   have D:=Au h;rw[nY]at D;have E:AM w F (I7 cs g t.cells) ((v.cells.zipIdx.foldl (λcs(x:Value×Nat)=>cs.setIfInBounds (g+x.2) x.1) xs)).toList:=by
    have H:=Qo g h A;rw[<-nZ,n7,K5,n9];exact H
   obtain ⟨xs',M,I⟩:=Ps E (by simpa using l) (λj p t m q=>u (j+1) p t (by simpa using m) (by simpa using q)) hf (by
    rw [<-nZ,n7,K5,n9]
    grind [Tn])
   refine ⟨xs',?_,I⟩;simp[Instr.fill,B]
   grind
  .cases hf
end
def Hl(place:Nat->Option (Nat×Nat)):List (Nat×Operand)->List (Nat×Nat×AC)->Bool
 |[],[]=>X|(i,x)::ps,(off,n,y)::qs=>place i==Y (off,n)&&AF x y&&Hl place ps qs|_,_=>T
def Ua(P:Program)(t:TypeId)(zero:Fq)(ps:List (Nat×Operand))(qs:List (Nat×Nat×AC)):Bool:=
 match P.info? t,P.underlying t with
 |some it,Y (.array _ e)=>
  match it.zero,P.info? e with
  |some z,Y ie=>FG zero z.cells.toList&&z.cells.toList.all Value.oneCell'&&Hl (λi=>Y (i*ie.size,ie.size)) ps qs|_,_=>T
 |some it,Y (.struct fields)=>
  match it.zero,fields.toList.mapM (λf=>(P.info? f.type).map λi=>(f.offset,i.size))with
  |some z,Y places=>FG zero z.cells.toList&&z.cells.toList.all Value.oneCell'&&Hl (places.toArray[·]?) ps qs|_,_=>T
 |_,_=>T
section
variable{P:Program}{S:FuncId->Fq->AZ->Prop}{F0:Nat->Nat->Prop}{w0:W0}{O:AA}{a:Act}{w:World}{G:Ay}{d:Nat}{o:Oper}{K:EV->AA->Prop}
theorem RT(q:AJ F0 w0 O a w G){place:Nat->Option (Nat×Nat)}:∀{ps:List (Nat×Operand)}{l:List (Nat×Nat×AC)}{ts:List (Nat×Nat×TV)},Hl place ps l=X->CS O l=Y ts ->
  ps.length=ts.length/\(∀(j:Nat)(p:Nat×Value)(t:Nat×Nat×TV),(ps.map λ(i,x)=>(i,a.eval x))[j]?=Y p->ts[j]?=Y t->place p.1=Y (t.1,t.2.1)/\AV w (AP w0.heap.size F0 G) t.2.2 p.2)/\∀t∈ts,t.2.2.WF
 |[],[],ts,_,h=>by simp[CS]at h;subst h;simp|[],_::_,_,h,_=>by simp[Hl]at h|_::_,[],_,h,_=>by simp[Hl]at h|(i,x)::ps,(A,n,y)::l,ts,g,h=>by
  simp [Hl]at g;simp[CS]at h;split at h
  .rename_i t r u m;simp at h;subst h;obtain⟨C,D,E⟩:=RT q g.2 m;have B:=Ak q g.1.2 u
   grind
  .cases h
theorem T4:∀{ds cs:Fq}(i:Nat),TV.jU cs->TV.jU ds->TV.jU (I7 cs i ds)
 |[],_,_,h,_=>h|d::ds,cs,i,h,hd=>by
  refine T4 (i+1) ?_ hd.2
  grind [BD,List.mem_or_eq_of_mem_set]
theorem S7:∀{ts:List (Nat×Nat×TV)}{cs cs':Fq},TV.jU cs->(∀t∈ts,t.2.2.WF)->CX cs ts=Y cs'->TV.jU cs'
 |[],cs,cs',h,_,hf=>by simp[CX]at hf;subst hf;exact h|(i,n,t)::ts,cs,cs',h,g,hf=>by
  simp only[CX]at hf;split at hf
  .exact S7 (T4 i h (D2 (g (i,n,t) V))) (λu l=>g u (by simp[l])) hf
  .cases hf
variable{t:TypeId}{ps:Array (Nat×Operand)}
theorem XR(A:AJ F0 w0 O a w G)(hd:d<a.tmps.size){zero:Fq}{m:List (Nat×Nat×AC)}(p:o.op=.build t ps)(q:Ua P t zero ps.toList m=X)(h:(AB.ma zero m).wp S O (Y d) K):Am P F0 w0 a w o d K:=by
 simp [AB.wp]at h;cases g:CS O m with
 |none=>rw[g]at h;exact h.elim|some ts=>
  rw [g]at h;simp[AS]at h;cases l:CX zero ts with
  |none=>rw[l]at h;exact h.elim|some cs=>
   rw [l]at h;simp only at h;have key:∀(place:Nat->Option (Nat×Nat))(z:Array Value),FG zero z.toList=X->z.toList.all Value.oneCell'=X->Hl place ps.toList m=X->∃xs',Instr.fill place z (ps.map λ(i,x)=>(i,a.eval x)).toList=Y xs'/\AM w (AP w0.heap.size F0 G) cs xs'.toList/\TV.jU cs/\xs'.toList.all Value.oneCell'=X:=by
    intro place z H r I;obtain⟨u,C,D⟩:=RT A I g;have B:=KV w (AP w0.heap.size F0 G) zero z.toList H;have J:(ps.map λ(i,x)=>(i,a.eval x)).toList=ps.toList.map λ(i,x)=>(i,a.eval x):=V
    rw [J];obtain⟨xs',L,M,N⟩:=Ps B.1 k! C l (λx E=>nQ.1 r x E)
    grind [S7,nQ]
   have built:∃xs',P.built t (ps.map λ(i,x)=>(i,a.eval x)).toList=Y xs'/\AM w (AP w0.heap.size F0 G) cs xs'.toList/\TV.jU cs/\xs'.toList.all Value.oneCell'=X:=by
    unfold Ua at q;unfold Program.built
    grind
   obtain ⟨xs',u,C,D,B⟩:=built;refine Bc A hd (v:=.agg xs') (t:=.agg cs) ?_ ?_ (by simpa[TV.WF]using D) h
   .simp[execOp,p,run_build w t _ xs' u]
   grind [AV]
variable{x:Operand}{n:Nat}
theorem Rd(l:AJ F0 w0 O a w G)(hd:d<a.tmps.size)(g:o.op=.move x\/o.op=.assign x)(m:∃v,x=.const v/\Gy v=X)(h:(AB.mr n).wp S O (Y d) K):Am P F0 w0 a w o d K:=by
 simp [AB.wp]at h;obtain⟨v,rfl,hv⟩:=m;refine⟨.slice W 0 0,w,?_,_,_,h,l.ow (Below.refl _ _) d hd (.list n []) _ W V ?_ ⟨V,trivial⟩⟩
 .rcases g with g|g<;>simp[execOp,g,Act.eval,Ez hv]
 .simp only[BA];exact⟨[],⟨V,.inl ⟨rfl,rfl,rfl⟩⟩,rfl,V,V⟩
end
end Go.Sf
namespace Go.Sf
open Go.RowKit (Below)
theorem Us(g:Fq)(x t:TV)(r:Fq):(g++x::r).set g.length t=g++t::r:=by grind
theorem Og:∀(ds g rest:Fq),ds.length<=rest.length->I7 (g++rest) g.length ds=g++ds++rest.drop ds.length
 |[],g,rest,_=>by simp[I7]|d::ds,g,[],h=>by simp at h|d::ds,g,x::rest,h=>by
  simp [I7,Us];have:=Og ds (g++[d]) rest f?
  grind
def GM(n:Nat):Nat->Fq->List (Nat×Nat×TV)
 |_,[]=>[]|k,t::ts=>(k*n,n,t)::GM n (k+1) ts
theorem RJ(n:Nat):∀(ts g:Fq)(k:Nat),(∀t∈ts,t.cells.length=n)->g.length=k*n ->
  CX (g++nU (ts.length*n) .undef) (GM n k ts)=Y (g++ts.flatMap TV.cells)
 |[],g,k,_,_=>by simp[GM,CX]|t::ts,g,k,h,q=>by
  have m:t.cells.length=n:=h t V;simp only[GM,CX];rw[ae ⟨m,by simp[bq,nV,ci,n_];omega⟩];rw[<-q,Og t.cells g _ (by simp[nV,ci,n_];omega)];have p:(nU ((t::ts).length*n) TV.undef).drop t.cells.length=nU (ts.length*n) TV.undef:=by
   grind [ci,n_]
  rw [p];have:=RJ n ts (g++t.cells) (k+1) (λx l=>h x (by simp[l])) (by simp[bq,n_];omega)
  grind
def M2:Nat->List (Nat×Operand)->List AC->Bool
 |_,[],[]=>X|k,(i,x)::ps,y::ys=>i==k&&AF x y&&M2 (k+1) ps ys|_,_,_=>T
section
variable{P:Program}{S:FuncId->Fq->AZ->Prop}{F0:Nat->Nat->Prop}{w0:W0}{O:AA}{a:Act}{w:World}{G:Ay}{d:Nat}{o:Oper}{K:EV->AA->Prop}
theorem Tj(m:AJ F0 w0 O a w G)(n:Nat):∀{k:Nat}{ps:List (Nat×Operand)}{ys:List AC}{ts:Fq},M2 k ps ys=X->vals O ys=Y ts ->
  ps.length=ts.length/\(∀(j:Nat)(p:Nat×Value)(t:Nat×Nat×TV),(ps.map λ(i,x)=>(i,a.eval x))[j]?=Y p->(GM n k ts)[j]?=Y t->(Y (p.1*n,n):Option (Nat×Nat))=Y (t.1,t.2.1)/\AV w (AP w0.heap.size F0 G) t.2.2 p.2)/\TV.jU ts
 |_,[],[],ts,_,h=>by simp[vals]at h;subst h;simp[TV.jU]|_,[],_::_,_,h,_=>by simp[M2]at h|_,_::_,[],_,h,_=>by simp[M2]at h|k,(i,x)::ps,y::ys,ts,g,h=>by
  simp [M2]at g;simp[vals]at h;split at h
  .rename_i t q r l;simp at h;subst h;obtain⟨B,H,C⟩:=Tj m n g.2 l;have A:=Ak m g.1.2 r;refine⟨by simp[B],λj p u D E=>?_,A.2,C⟩
   grind [GM]
  .cases h
theorem LA(n:Nat):∀(k:Nat)(ts:Fq),(GM n k ts).length=ts.length
 |_,[]=>rfl|k,t::ts=>by simp[GM,LA n (k+1) ts]
variable{n:Nat}{ts:Fq}{e:TypeId}
theorem Y6{F:Nat->Nat->Prop}{cells:Array Value}(h:AM (w.alloc (.cells cells e)) F (ts.flatMap TV.cells) cells.toList)(ho:∀x∈cells.toList,x.oneCell'=X)(l:∀t∈ts,t.cells.length=n)(m:ts.length<=maxLen):
  BA (w.alloc (.cells cells e)) F (Y (w.heap.size,ts.length*n)) (.list n ts) (.slice (Y ⟨w.heap.size,0,W⟩) ts.length ts.length):=by
 have g:=Au h;rw[I5 n ts l]at g;simp[BA];refine⟨cells.toList,⟨g,.inr ⟨w.heap.size,ts.length,cells,e,rfl,heap_alloc_new w _,bk _,m,by simpa using g,?_,rfl⟩⟩,h,l,ho⟩;rw[<-g,List.take_length]
variable{t:TypeId}{ps:Array (Nat×Operand)}{ys:List AC}
theorem Xg(θ:AJ F0 w0 O a w G)(hd:d<a.tmps.size){r:TypeInfo}{z:Value}{len n:Nat}(J:o.op=.buildSlice t len ps)(ε:P.underlying t=Y (.slice e))(u:P.info? e=Y r)(hz:r.zero=Y z)
  (κ:r.size=n)(A:0<n)(η:z.cells.toList.all Value.oneCell'=X)(hzs:0<z.cells.size)(B:len=ps.size)(hsm:len*n<=2^ 24)(L:M2 0 ps.toList ys=X)(h:(AB.mE n ys).wp S O (Y d) K):Am P F0 w0 a w o d K:=by
 simp [AB.wp]at h;cases l:vals O ys with
 |none=>rw[l]at h;exact h.elim|some ts=>
  rw [l]at h;simp[AS]at h;obtain⟨δ,hK⟩:=h;obtain⟨Z,h2,h3⟩:=Tj θ n L l;have M:len=ts.length:=by rw[B,<-Z];simp
  have N:(TV.list n ts).WF:=⟨by simp[FE];have:len*1<=len*n:=n! _ A;omega,h3⟩;have Q:ts.length<=maxLen:=by simp[maxLen];have:len*1<=len*n:=n! _ A;omega
  have g:∃cells:Array Value,(Instr.buildSlice t len (ps.map λ(i,x)=>(i,a.eval x))).run P w=.ok (.slice (Y ⟨w.heap.size,0,W⟩) len len) (w.alloc (.cells cells e))/\AM w (AP w0.heap.size F0 G) (ts.flatMap TV.cells) cells.toList/\∀x∈cells.toList,x.oneCell'=X:=by
   by_cases h0:len=0
   .have R:ps=#[]:=by apply Array.eq_empty_of_size_eq_zero;omega
    have D:ts=[]:=by apply nT;omega
    subst R;subst D;subst h0;refine⟨#[],?_,rfl,V⟩;simp[Instr.buildSlice,run_underlying ε,sizeOf,typeInfo,u,Instr.fill,newRow]
    grind
   .have m:AM w (AP w0.heap.size F0 G) (nU (ts.length*n) .undef) ((n8 (len*r.size)).map (z.cells[· % z.cells.size]!)).toList:=by
     grind [A4,jR,AV,Option.map_eq_some_iff,Nat.mod_lt,nQ]
    have E:=RJ n ts [] 0 δ V;simp at E;have p:∀x∈((n8 (len*r.size)).map (z.cells[· % z.cells.size]!)).toList,x.oneCell'=X:=by
     grind [Nat.mod_lt,nQ]
    obtain ⟨xs',h6,h7,h8⟩:=Ps (place:=λi=>Y (i*n,n)) m (by rw[LA];simpa using Z) h2 E p;refine⟨xs',run_buildSlice w t e len _ xs' r z ε u hz (by rw[κ];omega) ?_ ?_,h7,h8⟩
    .grind[Nat.mul_eq_zero]
    .rw[κ]at h6|-;simpa using h6
  obtain ⟨cells,H,I,q⟩:=g;have ζ:Below w.heap.size w (w.alloc (.cells cells e)):=(Below.refl _ _).alloc (bk _) _;refine⟨.slice (Y ⟨w.heap.size,0,W⟩) len len,_,by simp[execOp,J,H],_,_,hK,θ.ow ζ d hd (.list n ts) _ (Y (w.heap.size,ts.length*n)) (λb lo C=>?_) ?_ N⟩
  .simp at C;obtain⟨rfl,_⟩:=C;exact⟨bk _,V⟩
  .rw[M];exact Y6 (AY (FX ζ d _ (λi b lo h=>by
    grind)) _ _ I) q δ Q
theorem AJ.strip(h:AJ F0 w0 O a w G)(s:Nat):AJ F0 w0 (strip O s) a w G:=by
 refine ⟨h.jp,h.lt,h.below,h.defers,λq l=>?_,λq l=>?_,λq=>?_⟩
 .simp only[Go.Sf.strip,AA.gp];split
  .rfl
  .exact h.dom q l
 .have:=h.slots q l;simp[Go.Sf.strip,AA.gp];split
  .trivial
  .refine AH.kept (Jx _ _) (λ_=>rfl) (λ_ _ _ _=>rfl) rfl At.rfl' (λr i k u⟨p,m⟩=>⟨⟨p,(AA.kf V m).2⟩,λ_ hv=>hv⟩) (λr A u⟨cs,g⟩=>?_) (λr i u⟨p,m⟩=>⟨⟨p,(AA.jW V V m).2⟩,λ_ hv=>hv⟩) this
   .rw[AA.gp]at g;split at g
    .cases g
    .exact⟨⟨cs,g⟩,rfl⟩
 .simp[Go.Sf.strip,AA.gp];split
  .trivial
  .exact h.wf q
variable{s:Nat}
theorem AJ.move(h:AJ F0 w0 O a w G){t:TV}(N:O.get s=.ow t)(hd:d<a.tmps.size):
  ∃m,AJ F0 w0 ((d,.ow t)::Go.Sf.strip O s) (a.put (Y d) (slot a s)) w m/\A3 w w (AP w0.heap.size F0 G) (AP w0.heap.size F0 m):=by
 have B:=AR h N V;simp[AH]at B;have L:=h.wf s;rw[N]at L
 let zs:Option (Nat×Nat):=G s W
 let m:Ay:=EZ (EZ G s (λ_=>W)) d (λi=>if i=W then zs else W)
 have D:∀q i b lo,m q i=Y (b,lo)->(q=d/\i=W/\G s W=Y (b,lo))\/(q≠d/\q≠s/\G q i=Y (b,lo)):=by
  intro q i b lo u;by_cases l:q=d
  .grind[BH]
  .simp[m,Aq _ _ _ _ l]at u;by_cases ε:q=s
   .grind[BH]
   .rw[Aq _ _ _ _ ε]at u
    grind
 have E:∀q i b lo,m q i=Y (b,lo)->∃κ η lo',G κ η=Y (b,lo')/\lo'<=lo:=by
  grind
 have H:A3 w w (AP w0.heap.size F0 G) (AP w0.heap.size F0 m):=λb o v δ hf=>⟨δ,λQ=>hf (AP.mono E Q)⟩;refine⟨m,⟨?_,?_,h.below,d!,?_,?_,?_⟩,H⟩
 .intro q i κ η b lo lo' A C;rcases D _ _ _ _ A with⟨rfl,rfl,J⟩|⟨n1,n2,J⟩<;>rcases D _ _ _ _ C with⟨rfl,rfl,M⟩|⟨m1,m2,M⟩
  .exact⟨rfl,rfl⟩
  .exact absurd (h.jp _ _ _ _ _ _ _ J M).1.symm m2
  .exact absurd (h.jp _ _ _ _ _ _ _ J M).1 n2
  .exact h.jp _ _ _ _ _ _ _ J M
 .intro q i b lo A;rcases D _ _ _ _ A with⟨_,_,J⟩|⟨_,_,J⟩<;>exact h.lt _ _ _ _ J
 .intro q u;rw[A6]at u;rw[AA.gp,az U];exact(h.strip s).dom q u
 .intro q u;rw[A6]at u;rw[AA.gp];by_cases l:d=q
  .subst l;rw[ae rfl,Bg _ _ _ hd];simp[AH,m,BH];exact B.kept H (λ_ _ _=>rfl)
  .rw[az l,AQ _ _ _ _ l];simp[Go.Sf.strip,AA.gp];split
   .trivial
   .rename_i θ;refine AH.kept H (λi=>?_) (λ_ _ _ _=>rfl) (GU (A6 _ _ _) (λq u=>by
     have hss:=A5 h N V
     grind [Aq])) At.rfl' (λr i k ζ⟨p,R⟩=>?_) (λr Z ζ⟨cs,g⟩=>?_) (λr i ζ⟨p,R⟩=>?_) (h.slots q u)
    .simp[m];rw[Aq _ _ _ _ (λe=>l e.symm),Aq _ _ _ _ (λe=>θ e.symm)]
    .have A:=AA.kf V R;have C:=AA.kf V A.2;exact⟨⟨p,C.2⟩,h.nh ⟨p,C.2⟩ (AQ _ _ _ _ A.1) (λ_ _ _ _=>rfl)⟩
    .rw[AA.gp]at g;by_cases I:d=r
     .rw[ae I]at g;cases g
     .rw[az I]at g;simp[AA.gp]at g;split at g
      .cases g
      .exact⟨⟨cs,g⟩,AQ _ _ _ _ I⟩
    .have A:=AA.jW V V R;have C:=AA.jW V V A.2;exact⟨⟨p,C.2⟩,h.xv ⟨p,C.2⟩ (AQ _ _ _ _ A.1) (λ_ _=>rfl)⟩
 .intro q;rw[AA.gp];split
  .exact L
  .exact(h.strip s).wf q
theorem XM(a:Act)(d s:Nat)(v:Value)(h:d<a.tmps.size):slot (a.put (Y d) v) s=if d=s then v else slot a s:=by grind[Bg,AQ]
theorem AJ.move'(h:AJ F0 w0 O a w G){t:TV}(g:O.get s=.ow t)(hd:d<a.tmps.size):
  BF F0 w0 ((d,.ow t)::(s,.tv t)::O) (a.put (Y d) (slot a s)) w:=by
 obtain ⟨p,q,m⟩:=h.move g hd;have hv:=Ak h (x:=.tmp s) (y:=.s s) i9 (t:=t) (by simp[AC.val,AC.ev,g,EV.val]);have l:=A5 h g V;refine⟨p,q.rem s (t:=t) (by rw[A6];exact l) ?_ hv.2 λn=>?_⟩
 .have:slot (a.put (Y d) (slot a s)) s=slot a s:=by rw[XM _ _ _ _ hd];split<;>rfl
  rw [this];exact BQ m _ _ hv.1
 .simp[Go.Sf.strip,AA.gp];split
  .exact .inl rfl
  .split
   next e=>exact .inr ⟨e.symm,rfl⟩
   .exact .inl rfl
theorem Tv(m:AJ F0 w0 O a w G)(hd:d<a.tmps.size)(g:o.op=.move (.tmp s)\/o.op=.assign (.tmp s))(h:(AB.tk s).wp S O (Y d) K):Am P F0 w0 a w o d K:=by
 simp [AB.wp]at h;have l:(execOp a.eval o).run P w=.ok (.value (slot a s)) w:=by
  rcases g with g|g<;>simp[execOp,g]<;>rfl
 split at h
 next t p=>exact⟨_,_,l,_,_,h,m.move' p hd⟩
 next t p=>have:=Ak m (x:=.tmp s) (y:=.s s) i9 (t:=t) (by simp[AC.val,AC.ev,p,EV.val]);exact Bc m hd l this.1 this.2 h
 .exact h.elim
end
end Go.Sf
