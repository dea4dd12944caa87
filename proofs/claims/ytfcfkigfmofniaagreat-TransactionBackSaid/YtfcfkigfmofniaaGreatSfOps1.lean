/- The checker's operands, and the operations that only compute or read. -/
import Derived.Test.YtfcfkigfmofniaaGreatSfInv
import Derived.Laws.StructEq
import Derived.Laws.Tables
import Derived.Great.BuildSlice
set_option linter.all false
open Option renaming some->Y,none->W
open Bool renaming true->X,false->T
open List renaming getElem?_eq_getElem->u!,mem_of_getElem?->u?,getElem?_drop->v1,mem_of_mem_drop->v5,getElem?_take->v6,all_eq_true->v9,mem_of_mem_take->v_,map_take->v!,eq_nil_of_length_eq_zero->v?,replicate->w_,length_replicate->w!
open Bool renaming and_assoc->w?,eq_iff_iff->x_
open Array renaming length_toList->x!,foldl_toList->x?,toList_zipIdx->y_,range->y!
open Nat renaming add_zero->y?,add_mul->z9,mul_le_mul_left->z_
namespace Go.Sf
open Go.RowKit (Below)
def L8:Value->Bool
 |.slice W 0 0=>X|_=>T
variable{v:Value}
theorem JV(h:L8 v=X):v=.slice W 0 0:=by grind[L8]
def k7(f:FuncId):Value->Bool
 |.func (.func g) first caps=>f==g&&first.size==0&&caps.size==0
 |_=>T
variable{f:FuncId}
theorem oh(h:k7 f v=X):v=.func (.func f) #[] #[]:=by
 unfold k7 at h
 grind
def fF(k:IntKind)(n:Int):Value->Bool
 |.int k' m=>k==k'&&n==m|_=>T
theorem k8{k:IntKind}{n:Int}(h:fF k n v=X):v=.int k n:=by
 unfold fF at h
 grind
def aO(b:Bool):Value->Bool
 |.bool c=>b==c|_=>T
variable{b:Bool}
theorem iL(h:aO b v=X):v=.bool b:=by
 unfold aO at h
 grind
def fG(s:ByteArray):Value->Bool
 |.string r=>s.data==r.data|_=>T
theorem lC{s:ByteArray}(h:fG s v=X):v=.string s:=by
 unfold fG at h
 grind [ByteArray.ext]
def eR:Value->Option (List Value)
 |.agg vs=>Y vs.toList|_=>W
theorem kS{l:List Value}(h:eR v=Y l):v=.agg l.toArray:=by
 unfold eR at h;split at h
 .simp at h;subst h;simp
 .cases h
mutual
def Dx:TV->Value->Bool
 |.int k n,v=>fF k n v&&decide (k.min<=n/\n<=k.max)|.bool b,v=>aO b v|.str s,v=>fG s v&&decide (s.size<=Jm)|.list _ es,v=>es.isEmpty&&L8 v|.agg ts,v=>match eR v with|some vs=>Jn ts vs&&vs.all Value.oneCell'|none=>T
 |.zv f cs,v=>cs.isEmpty&&k7 f v|.nil,v=>L8 v|.undef,v=>v.oneCell'|_,_=>T
def Jn:Fq->List Value->Bool
 |[],vs=>vs.isEmpty|t::ts,vs=>match vs with|v::vs=>Dx t v&&Jn ts vs|[]=>T
end
mutual
theorem Gr(w:World)(F:Nat->Nat->Prop):∀(t:TV)(v:Value),Dx t v=X->Af w F t v/\t.WF
 |.undef,v,h=>by
  simp [Dx]at h;exact⟨by simpa[Af]using h,trivial⟩
 |.xl _ _,v,h=>by simp[Dx]at h|.nil,v,h=>by
  simp [Dx]at h;exact⟨JV h,trivial⟩
 |.pt _,v,h=>by simp[Dx]at h|.int k n,v,h=>by
  simp [Dx,yk]at h;exact⟨k8 h.1,h.2⟩
 |.bool b,v,h=>by
  simp [Dx]at h;exact⟨iL h,trivial⟩
 |.str s,v,h=>by
  simp [Dx,yk]at h;exact⟨lC h.1,h.2⟩
 |.list n es,v,h=>by
  simp [Dx]at h
  grind [TV.WF,TV.tl,Af,JV]
 |.agg ts,v,h=>by
  simp [Dx]at h;split at h
  next vs hv=>rw[sx]at h;have:=Qn w F ts vs h.1;refine⟨?_,by simpa[TV.WF]using this.2⟩;simp only[Af];exact⟨_,kS hv,so,by simpa using h.2⟩
  .cases h
 |.zv f cs,v,h=>by
  simp [Dx]at h;obtain⟨rfl,h⟩:=h;refine⟨?_,by simp[TV.WF,TV.tl]⟩;simp[Af];exact⟨#[],oh h,rfl⟩
theorem Qn(w:World)(F:Nat->Nat->Prop):∀(ts:Fq)(vs:List Value),Jn ts vs=X->AP w F ts vs/\TV.tl ts
 |[],vs,h=>by simp[Jn]at h;subst h;exact⟨rfl,trivial⟩|t::ts,vs,h=>by
  cases vs with
  |nil=>simp[Jn]at h|cons v vs=>
   simp [Jn]at h;have g:=Gr w F t v h.1;have l:=Qn w F ts vs h.2;exact⟨⟨v,vs,rfl,g.1,l.1⟩,g.2,l.2⟩
end
def AK(x:Operand):AE->Bool
 |.s m=>match x with|.tmp n=>n==m|_=>T
 |.c t=>match x with|.const v=>Dx t v|.func f=>Dx t (.func (.func f) #[] #[])|_=>T
section
variable{F0:Nat->Nat->Prop}{w0:W0}{O:AB}{a:Act}{w:World}{G:BH}
variable{s:Nat}
theorem Oe(h:AN F0 w0 O a w G){i:Option Nat}:∀b lo o,G s i=Y (b,lo)->o<lo->¬AW w0.heap.size F0 G b o:=by
 intro b lo o l ho hf;rcases hf with⟨m,g⟩|⟨s',q,lo',p,r⟩
 .exact(h.lt _ _ _ _ l).2.elim (λe=>U) (λe=>h.below.free _ _ _ (e _ (b6 _)) g)
 .obtain⟨rfl,rfl⟩:=h.og _ _ _ _ _ _ _ p l
  grind
variable{n:Nat}
theorem BV(h:AN F0 w0 O a w G){e:EV}(he:O.get n=e)(g:e≠.undef):n<a.tmps.size:=by
 rcases Nat.lt_or_ge n a.tmps.size with l|m
 .exact l
 .exact absurd ((h.dom n m).symm.trans he).symm g
theorem AZ(h:AN F0 w0 O a w G){e:EV}(he:O.get n=e)(g:e≠.undef):AL a w (AW w0.heap.size F0 G) G O n e (slot a n):=by
 have:=h.slots n (BV h he g)
 rwa [he]at this
theorem kG(g:AN F0 w0 O a w G){x:AE}{row:Fq}(h:x.val O=Y (.pt row)):x.ev O=.tv (.pt row):=by
 cases x with
 |c t=>simpa[AE.val,AE.ev,EV.val]using h|s n=>
  simp [AE.val,AE.ev]at h|-;cases he:O.get n with
  |tv t=>rw[he]at h;simpa[EV.val]using h|ow t=>
   rw [he]at h;have m:t=.pt row:=by simpa[EV.val]using h
   subst m;by_cases l:n<a.tmps.size
   .have:=g.slots n l;rw[he]at this;simp[AL,Bm]at this
   .rw[g.dom n (Nat.le_of_not_lt l)]at he;cases he
  |_=>rw[he]at h;simp[EV.val]at h
variable{x:Operand}{y:AE}
theorem Ar(h:AN F0 w0 O a w G)(l:AK x y=X){t:TV}(hv:y.val O=Y t):Af w (AW w0.heap.size F0 G) t (a.eval x)/\t.WF:=by
 cases y with
 |s m=>
  cases x<;>simp[AK]at l;subst l;rename_i n;simp[AE.val,AE.ev]at hv;have p:=h.wf n;cases he:O.get n with
  |tv r=>
   rw [he]at hv p;simp[EV.val]at hv;subst hv;exact⟨AZ h he V,p⟩
  |ow r=>
   rw [he]at hv p;simp[EV.val]at hv;subst hv;exact⟨Bm.rep (AZ h he V) (λb lo o u ho=>Oe h b lo o u ho),p⟩
  |undef=>rw[he]at hv;simp[EV.val]at hv|sk=>rw[he]at hv;simp[EV.val]at hv|xo n es=>rw[he]at hv;simp[EV.val]at hv|la q i=>rw[he]at hv;simp[EV.val]at hv|yy cs=>rw[he]at hv;simp[EV.val]at hv|xn es=>rw[he]at hv;simp[EV.val]at hv|x1 n B=>rw[he]at hv;simp[EV.val]at hv|mx m=>rw[he]at hv;simp[EV.val]at hv|nh q i k=>rw[he]at hv;simp[EV.val]at hv|lp q i c=>rw[he]at hv;simp[EV.val]at hv|bx cs=>rw[he]at hv;simp[EV.val]at hv|bp q A=>rw[he]at hv;simp[EV.val]at hv|tp ts=>rw[he]at hv;simp[EV.val]at hv
 |c r=>
  simp [AE.val,AE.ev,EV.val]at hv;subst hv;cases x with
  |const v=>exact Gr w _ _ _ l|func f=>exact Gr w _ _ _ l|tmp n=>simp[AK]at l|global g=>simp[AK]at l
theorem Ww(h:AN F0 w0 O a w G)(g:AK x y=X){t:TV}(hv:y.ev O=.tv t):Af w (AW w0.heap.size F0 G) t (a.eval x)/\t.WF:=by grind[Ar,AE.val,EV.val]
def BO:List Operand->List AE->Bool
 |[],[]=>X|x::xs,y::ys=>AK x y&&BO xs ys|_,_=>T
theorem FT(h:AN F0 w0 O a w G):∀{xs:List Operand}{ys:List AE},BO xs ys=X->∀{ts:Fq},vals O ys=Y ts->AP w (AW w0.heap.size F0 G) ts (xs.map a.eval)/\TV.tl ts
 |[],[],_,ts,hv=>by simp[vals]at hv;subst hv;exact⟨rfl,trivial⟩|[],_::_,g,_,_=>by simp[BO]at g|_::_,[],g,_,_=>by simp[BO]at g|x::xs,y::ys,g,ts,hv=>by
  simp [BO]at g;simp[vals]at hv;split at hv
  next t q r l=>simp at hv;subst hv;have m:=Ar h g.1 r;have p:=FT h g.2 l;exact⟨⟨_,_,rfl,m.1,p.1⟩,m.2,p.2⟩
  .cases hv
end
theorem Ly(k:IntKind)(n:Int):k.min<=k.wrap n/\k.wrap n<=k.max:=by
 cases k<;>simp only[IntKind.min,IntKind.max,IntKind.wrap,IntKind.signed,IntKind.bits,Bool.true_and,Bool.false_and]<;>simp<;>(try split)<;>omega
end Go.Sf
namespace Go.Sf
open Go.RowKit (Below)
def Ce(P:Program)(t:TypeId):Option Nat:=(P.info? t).map (·.size)
def Bs(P:Program)(t:TypeId):K1:=
 match P.underlying t with
 |some (.struct _)|some (.array _ _)=>Y X|some _=>Y T|none=>W
def Iy(P:Program)(t:TypeId):Option Nat:=
 match P.underlying t with
 |some (.slice e)=>Ce P e|_=>W
def PQ(P:Program)(t:TypeId)(f:Nat):Option Nat:=
 match P.underlying t with
 |some (.struct fs)=>match fs[f]? with
  |some x=>match Ce P x.type with
   |some 0=>W|some _=>Y x.offset|none=>W
  |none=>W
 |_=>W
section
variable{P:Program}{w:World}
variable{t:TypeId}{n:Nat}
theorem Bv(h:Ce P t=Y n):(sizeOf t).run P w=.ok n w:=by
 simp only[Ce,Option.map_eq_some_iff]at h;obtain⟨i,hi,rfl⟩:=h;simp[sizeOf,typeInfo,hi]
variable{b:Bool}
theorem CO(h:Bs P t=Y b):(isAgg t).run P w=.ok b w:=by
 unfold Bs at h;unfold isAgg underlying;simp only[Sem.run_bind,run_program,Result.andThen_ok];cases g:P.underlying t with
 |none=>rw[g]at h;simp at h|some d=>
  rw [g]at h;cases d<;>simp_all
theorem Ue{f k b o:Nat}(h:PQ P t f=Y k):
  (Instr.fieldAt t (.pointer (Y ⟨b,o,W⟩)) f).run P w=.ok (.pointer (Y ⟨b,o+k,W⟩)) w:=by
 unfold PQ at h;split at h
 .rename_i r l;split at h
  .rename_i x m;split at h
   .cases h
   next n p q=>simp only[t5]at h;subst h;have g:¬(n=0):=λe=>p (by rw[e]);simp[Instr.fieldAt,run_underlying l,m,Instr.sureAddr,fieldPlace,Bv q,g,Addr.add_lit]
   .cases h
  .cases h
 .cases h
variable{ts:Fq}
theorem Sx{F:Nat->Nat->Prop}{b o:Nat}(h:C0 w F ts b o):∃vs:List Value,AP w F ts vs/\(∀x∈vs,x.oneCell'=X)/\∀(j:Nat)(v:Value),vs[j]?=Y v->w.cell? ((⟨b,o,W⟩:Addr).add j)=Y v:=by
 induction ts generalizing o with
 |nil=>exact⟨[],rfl,V,V⟩|cons t ts C=>
  simp only[C0]at h;obtain⟨⟨v,l,D,m,p⟩,q⟩:=h;obtain⟨vs,r,A,B⟩:=C q;refine⟨v::vs,⟨v,vs,rfl,p,r⟩,by simp only[List.mem_cons,forall_eq_or_imp];exact⟨m,A⟩,λj u g=>?_⟩;rw[Addr.add_lit];cases j with
  |zero=>simp at g;subst g;exact l|succ j=>
   have:=B j u t!;rw[Addr.add_lit]at this
   grind
theorem A9{F:Nat->Nat->Prop}{vs:List Value}(h:AP w F ts vs):vs.length=ts.length:=((BQ ts vs).1 h).1
variable{v:Value}
theorem fv{F:Nat->Nat->Prop}{es:Fq}{k:IntKind}{j:Int}(l:Iy P t=Y n)(h:Af w F (.list n es) v)(H:0<=j){e:TV}(he:es[j.toNat]?=Y e):
  ∃p,(Instr.indexAt t v (.int k j)).run P w=.ok p w/\Af w F (.pt e.cells) p:=by
 simp only[Af]at h;obtain⟨a,cap,rfl,_,C,D⟩:=h;have g:j.toNat<es.length:=by
  grind
 cases a with
 |none=>have:=C rfl;subst this;simp at g|some r=>
  obtain ⟨m,q⟩:=D r rfl;obtain⟨b,o,E⟩:=r;simp only at m q;have m:E=W:=m.resolve_left (λe=>by subst e;simp at g);subst m;unfold Iy at l;split at l
  .rename_i el u;rw[RM]at q;have A:=q j.toNat e he;have B:0<=j/\j<(es.length:Int):=U
   refine ⟨.pointer (Y ⟨b,o+j.toNat*n,W⟩),?_,?_⟩
   .simp[Instr.indexAt,asIntOf,run_underlying u,B,Bv l,Addr.add_lit]
   .simp only[Af];exact⟨b,_,rfl,A.1⟩
  .cases l
end
end Go.Sf
namespace Go.Sf
open Go.RowKit (Below)
def At(P:Program)(F0:Nat->Nat->Prop)(w0:W0)(a:Act)(w:World)(o:Oper)(d:Nat)(K:EV->AB->Prop):Prop:=
 ∃v w',(execOp a.eval o).run P w=.ok (.value v) w'/\∃e env',K e env'/\Bj F0 w0 ((d,e)::env') (a.put (Y d) v) w'
theorem Bg:∀{l:Fq},TV.tl l↔∀t∈l,t.WF
 |[]=>by simp[TV.tl]|t::l=>by simp[TV.tl,Bg (l:=l)]
theorem Hh{t:TV}(h:t.WF):TV.tl t.cells:=by
 cases t with
 |agg cs=>exact h|_=>exact⟨h,trivial⟩
section
variable{P:Program}{S:FuncId->Fq->Al->Prop}{F0:Nat->Nat->Prop}{w0:W0}{O:AB}{a:Act}{w:World}{G:BH}{d:Nat}{o:Oper}{K:EV->AB->Prop}
variable{v:Value}
theorem CM(h:AN F0 w0 O a w G)(hd:d<a.tmps.size){t:TV}(g:(execOp a.eval o).run P w=.ok (.value v) w)
  (l:Af w (AW w0.heap.size F0 G) t v)(m:t.WF)(p:K (.tv t) O):At P F0 w0 a w o d K:=
 ⟨v,w,g,_,_,p,h.tv_same d hd t v l m⟩
variable{x:Operand}{y:AE}
theorem dr(p:AN F0 w0 O a w G)(hd:d<a.tmps.size)(g:o.op=.move x\/o.op=.assign x)(l:AK x y=X)(h:(AD.mv y).wp S O (Y d) K):At P F0 w0 a w o d K:=by
 simp [AD.wp]at h;have hv:(∃t,y.val O=Y t/\K (.tv t) O)\/∃ts,y.ev O=.tp ts/\K (.tp ts) O:=by
  unfold AE.val;split at h<;>first|exact h.elim|(rename_i t he;exact .inl ⟨t,by rw[he];rfl,h⟩)|(rename_i t he;exact .inr ⟨t,he,h⟩)
 have m:(execOp a.eval o).run P w=.ok (.value (a.eval x)) w:=by rcases g with g|g<;>simp[execOp,g]
 rcases hv with⟨t,hv,C⟩|⟨ts,hv,C⟩
 .have:=Ar p l hv
  grind [CM]
 .cases y with
  |c t=>simp[AE.ev]at hv|s n=>
   have E:x=.tmp n:=by
    cases x<;>simp[AK]at l;rw[l]
   subst E;simp[AE.ev]at hv;have A:=AZ p hv V;have B:=p.wf n;rw[hv]at B;refine⟨_,w,m,_,_,C,⟨_,p.quiet (Below.refl _ _) d hd (.tp ts) _ (λ_=>W) V V V ?_ B⟩⟩;simp[AL]at A|-;obtain⟨vs,I,J⟩:=A;refine⟨vs,I,Aj (λb o u D hf=>⟨D,λr=>hf ?_⟩) _ _ J⟩;rcases r with q|⟨s,i,lo,q,L⟩
   .exact .inl q
   .by_cases H:s=d
    .grind[Bt]
    .rw[BC _ _ _ _ H]at q;exact .inr ⟨s,i,lo,q,L⟩
theorem j7(l:AN F0 w0 O a w G)(hd:d<a.tmps.size){c x x':Operand}{c' y y':AE}(m:o.op=.pick c x x')(r:AK c c'=X)(B:AK x y=X)(C:AK x' y'=X)
  (h:(AD.pick c' y y').wp S O (Y d) K):At P F0 w0 a w o d K:=by
 simp [AD.wp]at h;split at h
 .rename_i q u;have g:=(Ar l r u).1;simp[Af]at g;have p:AK (if q then x else x') (if q then y else y')=X:=by cases q<;>assumption
  have hv:∃t,(if q then y else y').val O=Y t/\K (.tv t) O:=by
   unfold AE.val;split at h<;>first|exact h.elim|(rename_i t he;exact⟨t,by rw[he];rfl,h⟩)
  obtain ⟨t,hv,A⟩:=hv;have:=Ar l p hv;refine CM l hd (v:=a.eval (if q then x else x')) ?_ this.1 this.2 A;cases q<;>simp[execOp,m,g,asBool]
 .exact h.elim
variable{t:TypeId}
theorem m8(m:AN F0 w0 O a w G)(hd:d<a.tmps.size)(g:o.op=.unOp .not t x)(l:AK x y=X)(h:(AD.not y).wp S O (Y d) K):At P F0 w0 a w o d K:=by
 simp [AD.wp]at h;split at h
 next b hv=>have:=(Ar m l hv).1;simp[Af]at this;exact CM m hd (v:=.bool !b) (t:=.bool !b) (by simp[execOp,g,this,Op.unary]) rfl trivial h
 .exact h.elim
theorem my(m:AN F0 w0 O a w G)(hd:d<a.tmps.size)(g:o.op=.unOp .neg t x)(l:AK x y=X)(h:(AD.neg y).wp S O (Y d) K):At P F0 w0 a w o d K:=by
 simp [AD.wp]at h;split at h
 next k n hv=>have:=(Ar m l hv).1;simp[Af]at this;exact CM m hd (v:=.int k (k.wrap (-n))) (t:=.int k (k.wrap (-n))) (by simp[execOp,g,this,Op.unary,Op.intArith]) rfl (Ly k _) h
 .exact h.elim
theorem mW(m:AN F0 w0 O a w G)(hd:d<a.tmps.size){s t:TypeId}{k p:IntKind}(g:o.op=.convert s t x)(q:P.underlying s=Y (.int p))(r:P.underlying t=Y (.int k))(l:AK x y=X)(h:(AD.zp k y).wp S O (Y d) K):At P F0 w0 a w o d K:=by
 simp [AD.wp]at h;split at h
 next u n hv=>have:=(Ar m l hv).1;simp[Af]at this;refine CM m hd (v:=.int k (k.wrap n)) (t:=.int k (k.wrap n)) ?_ rfl (Ly k _) h;simp[execOp,g,this,convert,run_underlying q,run_underlying r,Conv.intToInt]
 .exact h.elim
variable{f:FuncId}
theorem mS(m:AN F0 w0 O a w G)(hd:d<a.tmps.size){xs:Array Operand}{ys:List AE}(g:o.op=.makeFunc (.func f) #[] xs)(l:BO xs.toList ys=X)(h:(AD.zv f ys).wp S O (Y d) K):At P F0 w0 a w o d K:=by
 simp [AD.wp]at h;cases hv:vals O ys with
 |none=>rw[hv]at h;exact h.elim|some ts=>
  rw [hv]at h;have:=FT m l hv;refine CM m hd (v:=.func (.func f) #[] (xs.map a.eval)) (by simp[execOp,g,Instr.makeFunc]) ?_ (by simpa[TV.WF]using this.2) h;simp only[Af];exact⟨_,rfl,so⟩
theorem mX(l:AN F0 w0 O a w G)(hd:d<a.tmps.size){s i:Nat}(m:o.op=.extract (.tmp s) i)(h:(AD.ext (.s s) i).wp S O (Y d) K):At P F0 w0 a w o d K:=by
 simp [AD.wp,AE.ev]at h;split at h
 .rename_i ts hv;cases g:ts[i]? with
  |none=>rw[g]at h;exact h.elim|some t=>
   rw [g]at h;have q:=AZ l hv V;have r:=l.wf s;rw[hv]at r;simp[AL]at q;obtain⟨vs,C,u⟩:=q;rw[BQ]at u;have A:i<ts.length:=by
    grind
   have B:vs.toList[i]?=Y (vs.toList[i]' U):=u! U;have p:vs[i]?=Y (vs.toList[i]' U):=V
   refine CM l hd (v:=vs.toList[i]' U) ?_ (u.2 i t _ g B) ?_ h
   .simp[execOp,m,show a.eval (.tmp s)=slot a s from rfl,C,Instr.extract,p]
   .exact Bg.1 r t (u? g)
 .exact h.elim
variable{e:TypeId}
theorem me(m:AN F0 w0 O a w G)(hd:d<a.tmps.size)(g:o.op=.call {callee:=.builtin .len,args:=#[x],argTypes:=#[t]})(l:AK x y=X)
  (he:P.underlying t=Y (.slice e))(h:(AD.len y).wp S O (Y d) K):At P F0 w0 a w o d K:=by
 simp only[AD.wp]at h;split at h
 next n es hv=>have:=Ar m l hv;simp only[Af,TV.WF,Jm]at this;obtain⟨⟨q,cap,p,_⟩,r⟩:=this;refine CM m hd (v:=.int .i64 es.length) (t:=.int .i64 es.length) ?_ rfl ⟨i?,p?⟩ h;simp[execOp,g,resolve,invoke,builtin,Builtin.len_,run_underlying he,p,goInt]
 .exact h.elim
theorem j9(m:AN F0 w0 O a w G)(hd:d<a.tmps.size)(g:o.op=.call {callee:=.builtin .len,args:=#[x],argTypes:=#[t]})(l:AK x y=X)
  (he:P.underlying t=Y .string)(h:(AD.AaO y).wp S O (Y d) K):At P F0 w0 a w o d K:=by
 simp only[AD.wp]at h;split at h
 next s hv=>have:=Ar m l hv;simp only[Af,TV.WF,Jm]at this;refine CM m hd (v:=.int .i64 s.size) (t:=.int .i64 s.size) ?_ rfl ⟨i?,p?⟩ h;simp[execOp,g,resolve,invoke,builtin,Builtin.len_,run_underlying he,this.1,goInt]
 .exact h.elim
end
end Go.Sf
namespace Go.Sf
open Go.RowKit (Below)
section
variable{P:Program}{S:FuncId->Fq->Al->Prop}{F0:Nat->Nat->Prop}{w0:W0}{O:AB}{a:Act}{w:World}{G:BH}{d:Nat}{o:Oper}{K:EV->AB->Prop}
variable{s:Nat}{ρ:Hn}{c:AR}
theorem Vd(g:AN F0 w0 O a w G){i:Option Nat}{x:Value}(h:A8 w (AW w0.heap.size F0 G) ρ (G s i) c x):Af w (AW w0.heap.size F0 G) c.t x:=by
 obtain ⟨_|_,t⟩:=c
 .exact h.1
 .exact D7.rep h (λb lo o l ho=>Oe g b lo o l ho)
variable{z:Option (Nat×Nat)}
theorem U9{F:Nat->Nat->Prop}{t:TV}{x:Value}(h:Bm w F z t x):x.oneCell'=X:=by
 cases t<;>simp[Bm]at h;obtain⟨xs,l,_⟩:=h;rcases l.2 with⟨rfl,_⟩|⟨g,cap,m,e,rfl,_⟩<;>rfl
theorem lK{F:Nat->Nat->Prop}{es:Fq}{x:Value}(h:E4 w F ρ z es x):x.oneCell'=X:=by
 obtain ⟨xs,⟨p,l,_⟩,_⟩:=h;rcases l.2 with⟨rfl,_⟩|⟨g,cap,m,e,rfl,_⟩<;>rfl
theorem Od{F:Nat->Nat->Prop}{t:TV}{x:Value}(h:D7 w F ρ z t x):x.oneCell'=X:=by
 by_cases l:∃es,t=.xn es
 .obtain⟨es,rfl⟩:=l;exact lK h
 by_cases m:∃n es,t=.xl n es
 .obtain⟨n,es,rfl⟩:=m;simp[D7,Jc]at h;obtain⟨xs,⟨r,p,_⟩,_⟩:=h;rcases p.2 with⟨rfl,_⟩|⟨g,cap,q,e,rfl,_⟩<;>rfl
 .refine U9 (w:=w) (F:=F) (z:=z) (t:=t) ?_;cases t<;>first|exact h|exact absurd ⟨_,_,rfl⟩ m|exact absurd ⟨_,rfl⟩ l
theorem GW{F:Nat->Nat->Prop}{x:Value}(h:A8 w F ρ z c x):x.oneCell'=X:=by
 obtain ⟨_|_,t⟩:=c
 .exact h.2
 .exact Od h
variable{x:Operand}{y:AE}
theorem Q2(C:AN F0 w0 O a w G)(D:AK x y=X){cs:Fq}(g:A4 O (y.ev O)=Y cs):
  ∃b o vs,a.eval x=.pointer (Y ⟨b,o,W⟩)/\AP w (AW w0.heap.size F0 G) cs vs/\TV.tl cs/\(∀x∈vs,x.oneCell'=X)/\∀(j:Nat)(v:Value),vs[j]?=Y v->w.cell? ((⟨b,o,W⟩:Addr).add j)=Y v:=by
 have box:∀(s h:Nat)(ds:List AR),O.get s=.bx ds->∃b vs,slot a s=.pointer (Y ⟨b,0,W⟩)/\AP w (AW w0.heap.size F0 G) ((ds.drop h).map (·.t)) vs/\TV.tl ((ds.drop h).map (·.t))/\(∀x∈vs,x.oneCell'=X)/\∀(j:Nat)(v:Value),vs[j]?=Y v->w.cell? ((⟨b,h,W⟩:Addr).add j)=Y v:=by
  intro s h ds M;have p:=AZ C M V;have I:=C.wf s;rw[M]at I;simp only[AL]at p;obtain⟨b,c,θ,r,u,E,B,A⟩:=p;refine⟨b,c.toList.drop h,r,?_,?_,?_,?_⟩
  .rw[BQ];refine⟨by simp[E],λi t v H hv=>?_⟩;simp[List.getElem?_map,v1]at H hv;obtain⟨cell,l,rfl⟩:=H;obtain⟨x,N,p⟩:=A (h+i) cell l;have:x=v:=by
    grind
   subst this;exact Vd C p
  .rw[Bg];intro t H;simp only[List.mem_map]at H;obtain⟨cell,l,rfl⟩:=H;exact I cell (v5 l)
  .intro x N;obtain⟨i,hi,rfl⟩:=List.getElem_of_mem N;rw[List.getElem_drop];have R:h+i<c.size:=by simp at hi;omega
   have ε:ds[h+i]?=Y (ds[h+i]' U):=u! U
   grind [Array.getElem?_eq_getElem,GW]
  .intro j v hv;rw[v1]at hv;rw[Addr.add_lit,cell_of_row w b (h+j) c θ (0,0) u];simpa using hv
 cases y with
 |c t=>
  simp [AE.ev]at g;cases t<;>simp[A4]at g;subst g;have:=Ar C D (t:=.pt _) rfl;simp[Af,TV.WF]at this;obtain⟨⟨b,o,r,u⟩,E⟩:=this;obtain⟨vs,B,J,A⟩:=Sx u;exact⟨b,o,vs,r,B,E,J,A⟩
 |s n=>
  cases x<;>simp[AK]at D;subst D;rename_i n;simp[AE.ev]at g;cases he:O.get n with
  |tv t=>
   rw [he]at g;cases t<;>simp[A4]at g;subst g;have p:=AZ C he V;have I:=C.wf n;rw[he]at I;simp[AL,Af]at p;obtain⟨b,o,r,u⟩:=p;obtain⟨vs,B,J,A⟩:=Sx u;exact⟨b,o,vs,r,B,by simpa[EV.WF,TV.WF]using I,J,A⟩
  |bx ds=>
   rw [he]at g;simp[A4]at g;subst g;obtain⟨b,vs,r,u,E,L,B⟩:=box n 0 ds he;exact⟨b,0,vs,r,g!,by simpa using E,L,B⟩
  |bp q h=>
   rw [he]at g;simp only[A4]at g;split at g
   next ds Q=>simp only[t5]at g;subst g;obtain⟨b,vs,r,u,E,L,B⟩:=box q h ds Q;have p:=AZ C he V;simp only[AL]at p;obtain⟨κ,A,J⟩:=p ⟨ds,Q⟩;rw[r]at A;simp at A;subst A;exact⟨b,h,vs,J,u,E,L,B⟩
   .cases g
  |undef=>rw[he]at g;simp[A4]at g|sk=>rw[he]at g;simp[A4]at g|xo n es=>rw[he]at g;simp[A4]at g|la q i=>rw[he]at g;simp[A4]at g|yy cs=>rw[he]at g;simp[A4]at g|xn es=>rw[he]at g;simp[A4]at g|x1 n η=>rw[he]at g;simp[A4]at g|mx m=>rw[he]at g;simp[A4]at g|nh q i k=>rw[he]at g;simp[A4]at g|lp q i c=>rw[he]at g;simp[A4]at g|ow t=>rw[he]at g;simp[A4]at g|tp ts=>rw[he]at g;simp[A4]at g
variable{t:TypeId}
theorem qC(p:AN F0 w0 O a w G)(hd:d<a.tmps.size)(g:o.op=.load t x)(l:AK x y=X)(B:Bs P t=Y T)(h:(AD.ld y).wp S O (Y d) K):At P F0 w0 a w o d K:=by
 simp [AD.wp]at h;cases m:A4 O (y.ev O)with
 |none=>rw[m]at h;exact h.elim|some cs=>
  rw [m]at h;simp[Ad]at h;obtain⟨b,C,vs,D,A,E,_,H⟩:=Q2 p l m;cases cs with
  |nil=>simp[Gf]at h|cons u r=>
   simp [Gf]at h;replace h:=h.2;simp[AP]at A;obtain⟨v,J,rfl,I,L⟩:=A;have q:=H 0 v rfl;rw[Addr.add_zero']at q;refine CM p hd (v:=v) ?_ I E.1 h;simp[execOp,g,D,Instr.loadAt,Instr.sureAddr,loadVar,CO B,q]
variable{n:Nat}
theorem V1(r:AN F0 w0 O a w G)(hd:d<a.tmps.size)(l:o.op=.load t x)(m:AK x y=X)(u:Bs P t=Y X)(A:Ce P t=Y n)(h:(AD.lda y n).wp S O (Y d) K):At P F0 w0 a w o d K:=by
 simp [AD.wp]at h;cases p:A4 O (y.ev O)with
 |none=>rw[p]at h;exact h.elim|some cs=>
  rw [p]at h;simp[Ad]at h;obtain⟨b,q,vs,B,C,I,D,E⟩:=Q2 r m p;have H:=A9 C;have g:=run_loadCells_list (P:=P) w ⟨b,q,W⟩ (vs.take n) (λj v hv=>E j v (by rw[v6]at hv;split at hv<;>simp_all));rw[cE,Nat.min_eq_left U]at g;refine CM r hd (v:=.agg (vs.take n).toArray) (t:=.agg (cs.take n)) ?_ ?_ ?_ h.2
  .simp[execOp,l,B,Instr.loadAt,Instr.sureAddr,loadVar,CO u,Bv A,g]
  .grind[Af,v9,v_,BQ]
  grind [TV.WF,Bg,v_]
variable{i:Operand}{j:AE}
theorem mY(l:AN F0 w0 O a w G)(hd:d<a.tmps.size)(q:o.op=.indexAddr t x i)(r:AK x y=X)(g:AK i j=X)(A:Iy P t=Y n)(h:(AD.iad y j n).wp S O (Y d) K):At P F0 w0 a w o d K:=by
 simp [AD.wp]at h;split at h
 .rename_i m es k L B C;obtain⟨rfl,E,e,he,H⟩:=h;have D:=Ar l r B;have u:=Ar l g C;simp[Af]at u;obtain⟨p,I,J⟩:=fv (P:=P) (k:=k) A D.1 E he;refine CM l hd (v:=p) (by simp[execOp,q,u.1,I]) J ?_ H
  grind [TV.WF,Bg,u?,Hh]
 .exact h.elim
theorem j8(l:AN F0 w0 O a w G)(hd:d<a.tmps.size)(m:o.op=.index t x i)(p:AK x y=X)(g:AK i j=X)(u:P.underlying t=Y .string)(h:(AD.zr y j).wp S O (Y d) K):At P F0 w0 a w o d K:=by
 simp [AD.wp]at h;split at h
 .rename_i s k H A B;obtain⟨C,b,D,E⟩:=h;have q:=Ar l p A;have r:=Ar l g B;simp[Af]at q r;refine CM l hd (v:=.int .u8 b.toNat) (t:=.int .u8 b.toNat) ?_ rfl ⟨by simp[IntKind.min,IntKind.signed],?_⟩ E
  .simp[execOp,m,q.1,r.1,Instr.index,asIntOf,run_underlying u,C,D]
  .have:=b.toNat_lt;simp[IntKind.max,IntKind.signed,IntKind.bits];omega
 .exact h.elim
theorem Xe{f k:Nat}(l:o.op=.fieldAddr t x f)(m:PQ P t f=Y k):∀b g,a.eval x=.pointer (Y ⟨b,g,W⟩)->(execOp a.eval o).run P w=.ok (.value (.pointer (Y ⟨b,g+k,W⟩))) w:=by
 intro b g h;simp[execOp,l,h,Ue m]
theorem QV(g:o.op=.move x\/o.op=.assign x\/o.op=.nilCheck x):∀b l,a.eval x=.pointer (Y ⟨b,l,W⟩)->(execOp a.eval o).run P w=.ok (.value (.pointer (Y ⟨b,l+0,W⟩))) w:=by
 intro b l h;rcases g with g|g|g<;>simp[execOp,g,h]
variable{k:Nat}
theorem Qy(p:AN F0 w0 O a w G)(hd:d<a.tmps.size)(l:∀b g,a.eval x=.pointer (Y ⟨b,g,W⟩)->(execOp a.eval o).run P w=.ok (.value (.pointer (Y ⟨b,g+k,W⟩))) w)(m:AK x y=X)(h:(AD.zj y k).wp S O (Y d) K):At P F0 w0 a w o d K:=by
 simp [AD.wp]at h;split at h
 .rename_i row he;have u:=Ww p m he;simp[Af,TV.WF]at u;obtain⟨⟨b,g,C,D⟩,H⟩:=u;refine CM p hd (v:=.pointer (Y ⟨b,g+k,W⟩)) (t:=.pt (row.drop k)) (l _ _ C) ?_ ?_ h
  .simp only[Af];exact⟨b,_,rfl,PG D k⟩
  grind [TV.WF,Bg,v5]
 .rename_i q g he;cases y with
  |c t=>simp[AE.ev]at he|s n=>
   cases x<;>simp[AK]at m;subst m;rename_i n;simp[AE.ev]at he;have A:=AZ p he V;simp only[AL]at A;split at h
   .rename_i r B;obtain⟨b,I,E⟩:=A ⟨r,B⟩;refine⟨.pointer (Y ⟨b,g+k,W⟩),w,l _ _ E,_,_,h,_,p.quiet (Below.refl _ _) d hd (.bp q (g+k)) _ (λ_=>W) V V V ?_ trivial⟩
    grind [AL,AB.d6,AY]
   .exact h.elim
 .exact h.elim
theorem Qx(m:AN F0 w0 O a w G)(hd:d<a.tmps.size)(l:∀b g,a.eval (.tmp s)=.pointer (Y ⟨b,g,W⟩)->(execOp a.eval o).run P w=.ok (.value (.pointer (Y ⟨b,g+k,W⟩))) w)(h:(AD.bad s k).wp S O (Y d) K):At P F0 w0 a w o d K:=by
 simp [AD.wp]at h;split at h
 .rename_i cs he;have q:=AZ m he V;simp only[AL]at q;obtain⟨b,c,θ,p,_⟩:=q;refine⟨.pointer (Y ⟨b,0+k,W⟩),w,l _ _ p,_,_,h,_,m.quiet (Below.refl _ _) d hd (.bp s k) _ (λ_=>W) V V V ?_ trivial⟩
  grind [AL,AB.d6,AY]
 .rename_i row he;have p:=Ww m (x:=.tmp s) (y:=.s s) o2 he;simp[Af,TV.WF]at p;obtain⟨⟨b,g,r,u⟩,A⟩:=p;refine CM m hd (v:=.pointer (Y ⟨b,g+k,W⟩)) (t:=.pt (row.drop k)) (l _ _ r) ?_ ?_ h
  .simp only[Af];exact⟨b,_,rfl,PG u k⟩
  grind [TV.WF,Bg,v5]
 .exact h.elim
variable{e:TypeId}
theorem mN(p:AN F0 w0 O a w G)(hd:d<a.tmps.size)(q:o.op=.indexAddr t x i)(r:AK x y=X)(l:AK i j=X)(u:P.underlying t=Y (.array k e))(D:Ce P e=Y n)
  (h:(AD.zJ y j n k).wp S O (Y d) K):At P F0 w0 a w o d K:=by
 simp [AD.wp]at h;split at h
 .rename_i row Q m E A;obtain⟨I,J,R,L⟩:=h;have B:=(Ar p l A).1;simp[Af]at B;have H:∃b g,a.eval x=.pointer (Y ⟨b,g,W⟩)/\C0 w (AW w0.heap.size F0 G) row b g/\TV.tl row:=by
   have:=Ww p r E
   grind [Af,TV.WF]
  obtain ⟨b,g,M,N,C⟩:=H;have A:0<=m/\m<(k:Int):=⟨I,J⟩;refine CM p hd (v:=.pointer (Y ⟨b,g+m.toNat*n,W⟩)) (t:=.pt (row.drop (m.toNat*n))) ?_ ?_ ?_ L
  .simp[execOp,q,B,M,Instr.indexAt,asIntOf,run_underlying u,A,Instr.sureAddr,Bv D,Addr.add_lit]
  .simp only[Af];exact⟨b,_,rfl,PG N _⟩
  .simp[TV.WF];rw[Bg]at C|-;exact λt u=>C t (v5 u)
 .exact h.elim
def fL(P:Program)(t:TypeId)(j:Operand)(k:Nat):Bool:=
 match j,P.underlying t with
 |.const (.int _ i),Y (.array m e)=>decide (0<=i)&&decide (i<(m:Int))&&(match Ce P e with
  |some n=>i.toNat*n==k|none=>T)
 |_,_=>T
theorem oM{P:Program}{o:Oper}{a:Act}{w:World}{j:Operand}(q:o.op=.indexAddr t (.tmp s) j)(g:fL P t j k=X)(b l:Nat)(h:a.eval (.tmp s)=.pointer (Y ⟨b,l,W⟩)):(execOp a.eval o).run P w=.ok (.value (.pointer (Y ⟨b,l+k,W⟩))) w:=by
 unfold fL at g;split at g
 .rename_i r i m e u;simp[yk]at g;obtain⟨⟨D,E⟩,p⟩:=g;split at p
  next n A=>simp at p;subst p;have B:0<=i/\i<(m:Int):=⟨D,E⟩;have C:a.eval (.const (.int r i))=.int r i:=rfl;simp[execOp,q,h,C,Instr.indexAt,asIntOf,run_underlying u,B,Instr.sureAddr,Bv A,Addr.add_lit]
  .cases p
 .cases g
def T7(g:TypeId->Option QQ)(P:Program):List Field->Nat->Option QQ
 |[],_=>Y []|f::fs,off=>match g f.type with
  |some ks=>if(f.name≠ "_" /\f.offset=off)/\Ce P f.type=Y ks.length then(match T7 g P fs (off+ks.length)with|some r=>Y (ks ++ r)|none=>W)else W
  |none=>W
def QC(P:Program):Nat->TypeId->Option QQ
 |0,_=>W|k+1,t=>match P.underlying t with
  |some (.int _)=>Y [0]|some .string=>Y [1]|some .bool=>Y [2]|some (.struct fs)=>if P.stoodInHeld t then W else T7 (QC P k) P fs.toList 0|_=>W
def Nr(P:Program):BK->TypeId->Bool
 |.i,_=>X|.s,_=>X|.w,_=>X|.b,t=>match P.underlying t with|some .bool=>X|_=>T
 |.a n,t=>Bs P t==Y X&&!P.eqGuardType P.depth t&&QC P 8 t==Y n
def TV.yp:TV->Value
 |.int k n=>.int k n|.str s=>.string s|.bool b=>.bool b|_=>Go.undef
def TV.zO:TV->Bool
 |.int _ _=>X|.str _=>X|.bool _=>X|_=>T
theorem Ra:∀{cs ds:Fq}{r:Bool},B1 cs ds=Y r->cs.length=ds.length/\(∀t∈cs,t.zO=X)/\(∀t∈ds,t.zO=X)
 |[],[],_,_=>by simp|[],_::_,_,h=>by simp[B1]at h|c::cs,[],_,h=>by cases c<;>simp[B1]at h
 |c::cs,d::ds,r,h=>by
  have key:∀l,B1 cs ds=Y l->c.zO=X->d.zO=X->(c::cs).length=(d::ds).length/\(∀t∈c::cs,t.zO=X)/\(∀t∈d::ds,t.zO=X):=by
   intro l g m p;obtain⟨u,A,B⟩:=Ra g
   grind
  cases c<;>cases d<;>simp only[B1,reduceCtorEq]at h
  .split at h
   .split at h
    next q g=>exact key q g rfl rfl
    .cases h
   .cases h
  .split at h
   next q g=>exact key q g rfl rfl
   .cases h
  .split at h
   next q g=>exact key q g rfl rfl
   .cases h
variable{v:Value}
theorem mB{F:Nat->Nat->Prop}{t:TV}(g:t.zO=X)(h:Af w F t v):v=t.yp:=by
 cases t<;>simp[TV.zO]at g<;>exact h
theorem Rg{F:Nat->Nat->Prop}:∀{cs:Fq}{xs:List Value},(∀t∈cs,t.zO=X)->AP w F cs xs->xs=cs.map TV.yp
 |[],_,_,h=>h|c::cs,xs,g,h=>by
  simp [AP]at h;obtain⟨v,r,rfl,m,p⟩:=h;rw[mB (g c V) m,Rg (λt l=>g t (by simp[l])) p];rfl
theorem Nb:∀(m:Nat){cs ds:Fq}{r:Bool},B1 cs ds=Y r->∃g l,B1 (cs.take m) (ds.take m)=Y g/\B1 (cs.drop m) (ds.drop m)=Y l/\r=(g&&l)
 |0,cs,ds,r,h=>⟨X,r,by simp[B1],c_,V⟩|m+1,[],[],r,h=>by
  grind
 |m+1,[],_::_,_,h=>by simp[B1]at h|m+1,c::cs,[],_,h=>by cases c<;>simp[B1]at h
 |m+1,c::cs,d::ds,r,h=>by
  cases c<;>cases d<;>simp only[B1,reduceCtorEq]at h
  .split at h
   .rename_i C;split at h
    .rename_i q p;obtain⟨g,l,u,A,B⟩:=Nb m p
     grind [t5,B1,w?]
    .cases h
   .cases h
  .split at h
   .rename_i q p;obtain⟨g,l,u,A,B⟩:=Nb m p
    grind [t5,B1,w?]
   .cases h
  .split at h
   .rename_i q p;obtain⟨g,l,u,A,B⟩:=Nb m p
    grind [t5,B1,w?]
   .cases h
def Mu(P:Program)(t:TypeId)(vs:List Value):Value:=if Bs P t=Y X then .agg vs.toArray else vs.headD Go.undef
theorem Q8:∀{cs ds:Fq}{r:Bool},B1 cs ds=Y r->ds.map TV.kd=cs.map TV.kd
 |[],[],_,_=>rfl|[],_::_,_,h=>by simp[B1]at h|c::cs,[],_,h=>by cases c<;>simp[B1]at h
 |c::cs,d::ds,r,h=>by
  cases c<;>cases d<;>simp only[B1,reduceCtorEq]at h
  .split at h
   .split at h
    next q g=>simp[Q8 g,TV.kd]
    .cases h
   .cases h
  .split at h
   next q g=>simp[Q8 g,TV.kd]
   .cases h
  .split at h
   next q g=>simp[Q8 g,TV.kd]
   .cases h
theorem YC(k:Nat)(θ:∀(t:TypeId)(n:QQ),QC P k t=Y n->∀d,k<=d->∀(cs ds:Fq)(r:Bool),cs.map TV.kd=n->B1 cs ds=Y r->(Op.equalIn d t (Mu P t (cs.map TV.yp)) (Mu P t (ds.map TV.yp))).run P w=.ok r w):
  ∀(H:List Field)(p:Nat)(n:QQ),T7 (QC P k) P H p=Y n->∀d,k<=d->∀(g m:List Value)(cs ds:Fq)(r:Bool),g.length=p->m.length=p->cs.map TV.kd=n->B1 cs ds=Y r ->
   (Op.eqFields d (g++cs.map TV.yp).toArray (m++ds.map TV.yp).toArray H).run P w=.ok r w
 |[],p,n,hf,d,hd,g,m,cs,ds,r,ζ,δ,E,h=>by
  simp [T7]at hf;subst hf;have:cs=[]:=List.map_eq_nil_iff.1 E;subst this;cases ds<;>simp[B1]at h;subst h;simp[Op.eqFields]
 |f::H,p,n,hf,d,hd,g,m,cs,ds,r,ζ,δ,E,h=>by
  simp [T7]at hf;split at hf
  .rename_i l u;split at hf
   .rename_i Z;split at hf
    .rename_i rest D;simp at hf;subst hf;obtain⟨⟨hn,ho⟩,Q⟩:=Z;have hcl:cs.length=l.length+rest.length:=by
      have:=congrArg List.length E;simpa using this
     obtain ⟨η,r2,e1,e2,rfl⟩:=Nb l.length h;have κ:=(Ra h).1;have hdl:ds.length=l.length+rest.length:=U
     have M:(cs.take l.length).map TV.kd=l:=by rw[v!,E,List.take_left'];rfl
     have N:(cs.drop l.length).map TV.kd=rest:=by rw[List.map_drop,E,List.drop_left'];rfl
     have hi:=θ f.type l u d hd (cs.take l.length) (ds.take l.length) η M e1;have C:=YC k θ H (p+l.length) rest D d hd (g++(cs.take l.length).map TV.yp) (m++(ds.take l.length).map TV.yp) (cs.drop l.length) (ds.drop l.length) r2 an an N e2;have A:∀(g:List Value)(cs:Fq),g++(cs.take l.length).map TV.yp++(cs.drop l.length).map TV.yp=g++cs.map TV.yp:=by
      intro g cs;rw[c9,<-List.map_append,List.take_append_drop]
     rw [A,A]at C;have B:∀(g:List Value)(cs:Fq),g.length=p->l.length<=cs.length->(0<l.length\/Bs P f.type=Y X)->(∃b,Bs P f.type=Y b)->(part f.type (g++cs.map TV.yp).toArray f.offset).run P w=.ok (Mu P f.type ((cs.take l.length).map TV.yp)) w:=by
      intro g cs ε J L q;obtain⟨b,q⟩:=q;cases b with
      |true=>
       simp only[part,Sem.run_bind,CO q,Result.andThen_ok,if_true,Bv Q,Sem.run_pure,Mu,q];congr 2;rw[List.extract_toArray,List.extract_eq_take_drop,ho,<-ε,List.drop_left,Nat.add_sub_cancel_left,<-v!]
      |false=>
       have h0:0<l.length:=by
        rcases L with h|h
        .exact h
        .rw[q]at h;cases h
       cases cs with
       |nil=>exact absurd (Nat.lt_of_lt_of_le h0 J) V|cons c cs=>
        obtain ⟨m',R⟩:∃m',l.length=m'+1:=⟨l.length-1,U⟩;have:((g++(c::cs).map TV.yp).toArray)[f.offset]?=Y c.yp:=by
         rw [List.getElem?_toArray,ho,<-ε,List.getElem?_append_right (b6 _),Nat.sub_self];rfl
        simp only[part,Sem.run_bind,CO q,Result.andThen_ok,Bool.false_eq_true,if_false,this,Sem.run_pure,Mu,q,R];simp
     have q:(∃b,Bs P f.type=Y b)/\(0<l.length\/Bs P f.type=Y X):=by
      cases k with
      |zero=>simp[QC]at u|succ k=>
       simp [QC]at u;unfold Bs;split at u<;>rename_i I
       .simp at u;subst u;rw[I];exact⟨⟨_,rfl⟩,.inl V⟩
       .simp at u;subst u;rw[I];exact⟨⟨_,rfl⟩,.inl V⟩
       .simp at u;subst u;rw[I];exact⟨⟨_,rfl⟩,.inl V⟩
       .rw[I];exact⟨⟨_,rfl⟩,.inr rfl⟩
       .cases u
     have p1:=B g cs ζ U q.2 q.1;have p2:=B m ds δ U q.2 q.1;simp only[Op.eqFields,Sem.run_bind,Sem.run_ite,ae hn,p1,p2,hi,Result.andThen_ok];cases η with
     |true=>simpa using C|false=>simp
    .cases hf
   .cases hf
  .cases hf
theorem gu(a b:ByteArray):(a.toList==b.toList)=decide (a=b):=by
 rw [x_,beq_iff_eq,yk];refine⟨λh=>?_,λh=>by rw[h]⟩;rw[ByteArray.toList_eq,ByteArray.toList_eq]at h;cases a;cases b;simpa using h
theorem cw:∀(k:Nat)(t:TypeId)(n:QQ),QC P k t=Y n->∀d,k<=d->∀(cs ds:Fq)(r:Bool),cs.map TV.kd=n->B1 cs ds=Y r->(Op.equalIn d t (Mu P t (cs.map TV.yp)) (Mu P t (ds.map TV.yp))).run P w=.ok r w
 |0,_,_,h,_,_,_,_,_,_,_=>by simp[QC]at h|k+1,t,n,hf,d,hd,cs,ds,r,E,h=>by
  obtain ⟨d,rfl⟩:∃I,d=I+1:=⟨d-1,U⟩;have C:=Q8 h;simp[QC]at hf;have one:∀x,n=[x]->Bs P t=Y T->∃c e,cs=[c]/\ds=[e]/\c.kd=x/\e.kd=x/\Mu P t (cs.map TV.yp)=c.yp/\Mu P t (ds.map TV.yp)=e.yp:=by
   intro x J N;rw[J]at E
   match cs,ds,E,C with
   |[c],[e],A,B=>
    grind [List.cons.injEq,Mu]
   |[],_,A,_=>simp at A|[c],[],_,B=>simp at B|[c],_::_::_,_,B=>simp at B|_::_::_,_,A,_=>simp at A
  split at hf<;>rename_i g
  .simp at hf;obtain⟨c,e,rfl,rfl,m,p,q,u⟩:=one 0 hf.symm (by simp[Bs,g]);rw[q,u];cases c<;>first|(simp[TV.kd]at m;done)|skip
   cases e<;>first|(simp[TV.kd]at p;done)|skip
   simp only[B1]at h;split at h
   next L=>subst L;simp at h;simp[TV.yp];rw[run_equalIn_int (P:=P) w d t _ _ _ _ g,<-h];congr 1
   .cases h
  .simp at hf;obtain⟨c,e,rfl,rfl,m,p,q,u⟩:=one 1 hf.symm (by simp[Bs,g]);rw[q,u];cases c<;>first|(simp[TV.kd]at m;done)|skip
   cases e<;>first|(simp[TV.kd]at p;done)|skip
   simp [B1]at h;simp[TV.yp];rw[run_equalIn_string (P:=P) w d t _ _ g,<-h]
   grind [gu]
  .simp at hf;obtain⟨c,e,rfl,rfl,m,p,q,u⟩:=one 2 hf.symm (by simp[Bs,g]);rw[q,u];cases c<;>first|(simp[TV.kd]at m;done)|skip
   cases e<;>first|(simp[TV.kd]at p;done)|skip
   simp [B1]at h;simp[TV.yp];rw[run_equalIn_bool' (P:=P) w d t _ _ g,<-h];congr 1
  .split at hf
   .cases hf
   .rename_i H M;have D:Bs P t=Y X:=by simp[Bs,g]
    have l:P.fieldsOf t=H:=by simp[Program.fieldsOf,g]
    simp [Mu,D];rw[run_equalIn_struct w d t _ _ (by rw[l];exact g) (by simpa using M),l];exact YC k (cw k) H.toList 0 n hf d U [] [] cs ds r rfl rfl E h
  .cases hf
variable{vx vy:Value}
theorem Vw{op:BinOp}{x y:Operand}{cs ds:Fq}{q:Bool}{n:QQ}(D:cs.map TV.kd=n){F:Nat->Nat->Prop}(u:Nr P (.a n) t=X)(g:Af w F (.agg cs) vx)(h:Af w F (.agg ds) vy)(A:B1 cs ds=Y q):
  ∃xs ys,vx=.agg xs/\vy=.agg ys/\(eqGuard op t x y (.agg xs) (.agg ys)).run P w=.ok () w/\(Op.equalIn 10000 t (.agg xs) (.agg ys)).run P w=.ok q w:=by
 simp [Af]at g h;obtain⟨xs,rfl,g,_⟩:=g;obtain⟨ys,rfl,h,_⟩:=h;simp only[Nr,sx,Bool.not_eq_true']at u;obtain⟨⟨B,E⟩,C⟩:=u;obtain⟨H,p,r⟩:=Ra A;refine⟨xs,ys,rfl,rfl,run_eqGuard_agg w op t x y xs ys E,?_⟩;simp at B C;have l:=Rg p g;have m:=Rg r h;have:=cw (P:=P) (w:=w) 8 t n C 10000 U cs ds q D A;simp[Mu,B,<-l,<-m]at this;simpa using this
theorem p0{op:BinOp}{x y:Operand}{k m:IntKind}{a b r:Int}{F:Nat->Nat->Prop}(p:k=m\/op=.shl\/op=.shr)(l:Ff k op a b=Y r):
  ∃v,(do eqGuard op t x y (.int k a) (.int m b);binOp op t (.int k a) (.int m b):Sem Value).run P w=.ok v w/\Af w F (.int k r) v/\(TV.int k r).WF:=by
 have g:∀(op:BinOp)(q:Value),k=m->(op=.and\/op=.or\/op=.xor\/op=.andNot)->(Op.intBits op k a b).run P w=.ok q w->(do eqGuard op t x y (.int k a) (.int m b);binOp op t (.int k a) (.int m b):Sem Value).run P w=.ok q w:=by
  intro op q e ho h;subst e;rcases ho with rfl|rfl|rfl|rfl<;>simpa[eqGuard,binOp]using h
 cases op<;>simp only[Ff]at l<;>try(cases l;done)
 case and=>cases l;exact⟨_,g _ _ u_ V rfl,rfl,Ly _ _⟩
 case or=>cases l;exact⟨_,g _ _ u_ V rfl,rfl,Ly _ _⟩
 case xor=>cases l;exact⟨_,g _ _ u_ V rfl,rfl,Ly _ _⟩
 case andNot=>cases l;exact⟨_,g _ _ u_ V rfl,rfl,Ly _ _⟩
 case shl=>
  split at l
  next u=>cases l;exact⟨_,by simp[eqGuard,binOp,Op.shift,Int.not_lt.2 u],rfl,Ly _ _⟩
  .cases l
 case shr=>
  split at l
  next u=>cases l;exact⟨_,by simp[eqGuard,binOp,Op.shift,Int.not_lt.2 u.1],rfl,u.2⟩
  .cases l
theorem pz{k:BK}{op:BinOp}{x y:Operand}{E ty r:TV}{F:Nat->Nat->Prop}(N:Nr P k t=X)(g:LZ k op E ty=Y r)(l:Af w F E vx)(m:Af w F ty vy)(H:E.WF)(Q:ty.WF):
  ∃v,(do eqGuard op t x y vx vy;binOp op t vx vy:Sem Value).run P w=.ok v w/\Af w F r v/\r.WF:=by
 unfold LZ at g;split at g
 .rename_i k a R b;simp[Af]at l m;subst l;subst m;split at g
  .rename_i p;subst p;rw[Sem.run_bind,eqGuard_at_int,Sem.run_pure,Result.andThen_ok];have B:op=.quo\/op=.rem\/(op≠.quo/\op≠.rem):=by cases op<;>simp
   rcases B with rfl|rfl|⟨u,κ⟩
   .by_cases A:b=0
    .simp[intCmp,intArith,A]at g
    .simp[intCmp,intArith,A]at g;subst g;exact⟨_,by simp[binOp,Op.intDiv,A],rfl,Ly _ _⟩
   .by_cases A:b=0
    .simp[intCmp,intArith,A]at g
    .simp[intCmp,intArith,A]at g;subst g;refine⟨_,by simp[binOp,Op.intDiv,A],rfl,?_⟩;simp[TV.WF]at H|-;have C:a.tmod b<=max a 0/\min a 0<=a.tmod b:=by
      have D:=Int.natAbs_tmod a b;have ζ:=Nat.mod_le a.natAbs b.natAbs;rcases Int.le_total 0 a with h|h
      .grind[Int.tmod_nonneg]
      .have δ:=Int.tmod_nonneg (a:=-a) b U
       grind [Int.neg_tmod]
     have Z:k.min<=0:=by cases k<;>decide
     have h5:0<=k.max:=by cases k<;>decide
     omega
   .cases op<;>simp[intCmp,intArith]at g u κ<;>subst g<;>(refine⟨_,?_,rfl,?_⟩)<;>first|(simp[binOp,Op.intCmp,Op.intArith];done)|exact trivial|exact Ly _ _|skip
    all_goals (simp[binOp,Op.intCmp];rw[x_];simp)
  .cases g
 .rename_i op k a R b;simp[Af]at l m;subst l;subst m;split at g
  .rename_i p;split at g
   next η u=>simp at g;subst g;exact p0 p u
   .cases g
  .cases g
 .simp[Af]at l m;subst l;subst m;simp at g;subst g;exact⟨_,by simp[eqGuard,binOp,Op.stringOp,beq_toListBytes],rfl,trivial⟩
 .simp[Af]at l m;subst l;subst m;simp at g;subst g;exact⟨_,by simp[eqGuard,binOp,Op.stringOp,beq_toListBytes],rfl,trivial⟩
 .simp[Af]at l m;subst l;subst m;rename_i θ ε;split at g
  .rename_i I;simp at g;subst g;have L:¬(((θ.size+ε.size:Nat):Int)>IntKind.i64.max):=by
    have hm:IntKind.i64.max=9223372036854775807:=a?
    grind [AU]
   refine ⟨_,by simp only[eqGuard,binOp,Op.stringOp];rw[az L];simp,rfl,by simp[TV.WF];exact UK I⟩
  .cases g
 .simp[Af]at l m;subst l;subst m;simp at g;subst g;have M:P.underlying t=Y .bool:=by
   grind [Nr]
  exact ⟨_,by simp[eqGuard_at_bool,binOp,Op.equal,Op.maxDepth,run_equalIn_bool' (P:=P) w _ t _ _ M],rfl,trivial⟩
 .simp[Af]at l m;subst l;subst m;simp at g;subst g;have M:P.underlying t=Y .bool:=by
   grind [Nr]
  exact ⟨_,by simp[eqGuard_at_bool,binOp,Op.equal,Op.maxDepth,run_equalIn_bool' (P:=P) w _ t _ _ M],rfl,trivial⟩
 .rename_i cs ds;split at g
  .rename_i J;split at g
   next q u=>simp at g;subst g;obtain⟨xs,ys,rfl,rfl,C,D⟩:=Vw (op:=.eql) (x:=x) (y:=y) J N l m u;exact⟨_,by simp[C,run_eql_struct,D],rfl,trivial⟩
   .cases g
  .cases g
 .rename_i cs ds;split at g
  .rename_i J;split at g
   next q u=>simp at g;subst g;obtain⟨xs,ys,rfl,rfl,C,D⟩:=Vw (op:=.neq) (x:=x) (y:=y) J N l m u;exact⟨_,by simp[C,run_neq_struct,D],rfl,trivial⟩
   .cases g
  .cases g
 .cases g
variable{y':AE}
theorem mQ{S:FuncId->Fq->Al->Prop}{F0:Nat->Nat->Prop}{w0:W0}{O:AB}{a:Act}{G:BH}{d:Nat}{o:Oper}{K:EV->AB->Prop}(g:AN F0 w0 O a w G)(hd:d<a.tmps.size){x x':Operand}{k:BK}{op:BinOp}{t A:TypeId}
  (l:o.op=.binOp op t x x' A)(B:Nr P k t=X)(C:AK x y=X)(D:AK x' y'=X)(h:(AD.bin k op y y').wp S O (Y d) K):At P F0 w0 a w o d K:=by
 simp [AD.wp]at h;split at h
 .rename_i E ty H I;cases m:LZ k op E ty with
  |none=>rw[m]at h;exact h.elim|some r=>
   rw [m]at h;have p:=Ar g C H;have q:=Ar g D I;obtain⟨v,u,J,L⟩:=pz (x:=x) (y:=x') B m p.1 q.1 p.2 q.2;refine CM g hd (v:=v) ?_ J L h;simp only[execOp,l,Sem.run_bind]at u|-;rw[u];rfl
 .exact h.elim
end
end Go.Sf
namespace Go.Sf
open Go.RowKit (Below)
def Nt:Option Operand->Option AE->Bool
 |none,W=>X|some x,Y y=>AK x y|_,_=>T
section
variable{P:Program}{S:FuncId->Fq->Al->Prop}{F0:Nat->Nat->Prop}{w0:W0}{O:AB}{a:Act}{w:World}{G:BH}{d:Nat}{o:Oper}{K:EV->AB->Prop}
theorem Uw(h:AN F0 w0 O a w G){x:Option Operand}{y:Option AE}(g:Nt x y=X){k:IntKind}{q l:Int}(hv:Gk O q y=Y (.int k l)):
  (x=W/\l=q)\/∃v m,x=Y v/\a.eval v=.int m l:=by
 cases y with
 |none=>
  cases x<;>simp[Nt]at g;simp[Gk]at hv;exact .inl ⟨rfl,hv.2.symm⟩
 |some y=>
  cases x<;>simp[Nt]at g;rename_i v;have:=(Ar h g (t:=.int k l) hv).1;simp[Af]at this;exact .inr ⟨v,k,rfl,this⟩
theorem Sz{isS:Bool}{len cap:Nat}{lo hi:Option Value}{l h:Int}(q:0<=l)(r:l<=h)(u:h<=len)(A:len<=cap)
  (g:(lo=W/\l=0)\/∃k,lo=Y (.int k l))(m:(hi=W/\h=len)\/∃k,hi=Y (.int k h)):
  (Instr.sliceBounds isS len cap lo hi W).run P w=.ok (l.toNat,h.toNat,cap) w:=by
 rcases g with⟨rfl,rfl⟩|⟨k,rfl⟩<;>rcases m with⟨rfl,rfl⟩|⟨p,rfl⟩
 .simp[Instr.sliceBounds]
 .simp[Instr.sliceBounds,run_sliceBound (P:=P) w p h cap _ U U]
 .simp[Instr.sliceBounds,run_sliceBound (P:=P) w k l len _ U U]
 .simp[Instr.sliceBounds,run_sliceBound (P:=P) w p h cap _ U U,run_sliceBound (P:=P) w k l h.toNat _ U U]
variable{x:Operand}{y:AE}{lo' hi':Option AE}{t:TypeId}{n:Nat}
theorem nA(H:AN F0 w0 O a w G)(hd:d<a.tmps.size){lo hi:Option Operand}(I:o.op=.slice t x lo hi W)(J:AK x y=X)(θ:Nt lo lo'=X)(hh:Nt hi hi'=X)
  (A:Iy P t=Y n)(h:(AD.zq n y lo' hi').wp S O (Y d) K):At P F0 w0 a w o d K:=by
 simp [AD.wp]at h;split at h
 .rename_i m es hv;split at h
  .rename_i k1 l k2 C κ η;obtain⟨⟨hm,h0,h1⟩,h2,hK⟩:=h;subst hm;have M:=Ar H J hv;simp[Af]at M;obtain⟨⟨r,cap,h4,h5,Q,h7⟩,R⟩:=M;have Z:=Uw H θ κ;have b2:=Uw H hh η;unfold Iy at A;split at A
   .rename_i e ζ;have D:=Sz (P:=P) (w:=w) (isS:=X) (lo:=lo.map a.eval) (hi:=hi.map a.eval) h0 h1 h2 h5
     (by rcases Z with⟨rfl,rfl⟩|⟨v,k',rfl,hv⟩<;>simp[*]) (by rcases b2 with⟨rfl,rfl⟩|⟨v,k',rfl,hv⟩<;>simp[*])
    refine CM H hd (v:=.slice (if cap=l.toNat then r else r.map (·.add (l.toNat*m))) (C.toNat-l.toNat) (cap-l.toNat)) (t:=.list m ((es.take C.toNat).drop l.toNat)) ?_ ?_ ?_ hK
    .simp[execOp,I,Instr.sliceAt,Instr.slice,run_underlying ζ,h4,D,Bv A]
    .simp only[Af];refine⟨if cap=l.toNat then r else r.map (·.add (l.toNat*m)),cap-l.toNat,an,an,λL=>?_,λε g=>?_⟩
     .have p:es=[]\/l.toNat=C.toNat:=by
       split at L
       .exact .inl (Q L)
       .cases r with
        |none=>exact .inl (Q rfl)|some r=>simp at L
      rcases p with rfl|p
      .simp
      .apply v?;simp;omega
     .by_cases N:cap=l.toNat
      .have q:(es.take C.toNat).drop l.toNat=[]:=by apply v?;simp;omega
       rw [ae N]at g;rw[q];exact⟨.inl rfl,trivial⟩
      .rw[az N]at g;cases r with
       |none=>simp at g|some r=>
        simp at g;subst g;obtain⟨B,u⟩:=h7 r rfl;obtain⟨b,E,sp⟩:=r;simp only at B u;by_cases p:es=[]
        .have q:(es.take C.toNat).drop l.toNat=[]:=by rw[p];simp
         rw [q];exact⟨.inl rfl,trivial⟩
        have B:sp=W:=B.resolve_left p;subst B;rw[Addr.add_lit];refine⟨.inr rfl,?_⟩;rw[RM]at u|-;intro i δ he;rw[v1,v6]at he;split at he
        .have:=u (l.toNat+i) δ he
         rwa [show E+l.toNat*m+i*m=E+(l.toNat+i)*m from i!]
        .cases he
    .simp only[TV.WF]at R|-;refine⟨an,?_⟩;have B:=Bg.1 R.2;exact Bg.2 λt A=>B t (v_ (v5 A))
   .cases A
  .exact h.elim
 .exact h.elim
theorem kA(m:AN F0 w0 O a w G)(hd:d<a.tmps.size){lo hi:Option Operand}(p:o.op=.slice t x lo hi W)(q:AK x y=X)(A:Nt lo lo'=X)(hh:Nt hi hi'=X)
  (B:P.underlying t=Y .string)(h:(AD.y6 y lo' hi').wp S O (Y d) K):At P F0 w0 a w o d K:=by
 simp [AD.wp]at h;split at h
 .rename_i s hv;split at h
  .rename_i Q l R u C D;obtain⟨I,J,L,M⟩:=h;have r:=Ar m q hv;simp[Af]at r;have E:=Uw m A C;have H:=Uw m hh D;have g:=Sz (P:=P) (w:=w) (isS:=T) (lo:=lo.map a.eval) (hi:=hi.map a.eval) I J L (b6 _)
     (by rcases E with⟨rfl,rfl⟩|⟨v,N,rfl,hv⟩<;>simp[*]) (by rcases H with⟨rfl,rfl⟩|⟨v,N,rfl,hv⟩<;>simp[*])
   refine CM m hd (v:=.string (s.extract l.toNat u.toNat)) (t:=.str (s.extract l.toNat u.toNat)) ?_ rfl ?_ M
   .simp[execOp,p,Instr.sliceAt,Instr.slice,run_underlying B,r.1,g]
   .have:=r.2;simp[TV.WF]at this|-;omega
  .exact h.elim
 .exact h.elim
variable{y':AE}
theorem dn(l:AN F0 w0 O a w G)(hd:d<a.tmps.size){x x':Operand}{mx:Bool}{ts:Array TypeId}
  (g:o.op=.call {callee:=.builtin (match mx with|true=>.max|false=>.min),args:=#[x,x'],argTypes:=ts})
  (u:AK x y=X)(A:AK x' y'=X)(h:(AD.mm mx y y').wp S O (Y d) K):At P F0 w0 a w o d K:=by
 simp [AD.wp]at h;split at h
 .rename_i k p E q B C;obtain⟨rfl,D⟩:=h;have m:=Ar l u B;have r:=Ar l A C;simp[Af,TV.WF]at m r;refine CM l hd (v:=.int k (if mx then max p q else min p q)) (t:=.int k (if mx then max p q else min p q)) ?_ rfl ?_ D
  .cases mx
   .simp[execOp,g,resolve,invoke,builtin,m.1,r.1,Builtin.min_,Builtin.min2];rw[Int.min_def];split<;>split<;>omega
   .simp[execOp,g,resolve,invoke,builtin,m.1,r.1,Builtin.max_,Builtin.max2];rw[Int.max_def];split<;>split<;>omega
  .simp[TV.WF];split<;>omega
 .exact h.elim
theorem jx(g:AN F0 w0 O a w G)(hd:d<a.tmps.size)(l:o.op=.box t x)(m:AK x y=X)(h:(AD.Aaz y).wp S O (Y d) K):At P F0 w0 a w o d K:=by
 simp [AD.wp]at h;split at h
 .rename_i u hv;have B:=Ar g m hv;have r:Below w.heap.size w (w.alloc (.cells (a.eval x).cells t)):=(Below.refl _ _).alloc (b6 _) _;refine⟨.pointer (Y ⟨w.heap.size,0,W⟩),w.alloc (.cells (a.eval x).cells t),by simp[execOp,l,Instr.box,newVar,newRow],_,_,h,g.tv r d hd (.pt u.cells) _ ?_ ?_⟩
  .simp only[Af];refine⟨_,_,rfl,?_⟩;have p:=KH (F0:=F0) (w0:=w0) (G:=G) r d (λ_=>W) V
   .have A:=GG B.1;refine RN (Aj p _ _ A.1) A.2 λi v hi=>?_;have C:(w.alloc (.cells (a.eval x).cells t)).cell? ⟨w.heap.size,0+i,W⟩=Y v:=by
     rw [World.cell?_alloc_new,Nat.zero_add];simpa using hi
    refine ⟨C,?_⟩;rintro(⟨q,_⟩|⟨s,j,lo,q,_⟩)
    .have:=g.below.size;omega
    .by_cases D:s=d
     .grind[Bt]
     .rw[BC _ _ _ _ D]at q;have:=(g.lt _ _ _ _ q).1;omega
  grind [TV.WF,Hh]
 .exact h.elim
end
end Go.Sf
namespace Go.Sf
open Go.RowKit (Below)
def Vq:List Value->Nat->List Value->List Value
 |cs,_,[]=>cs|cs,i,d::ds=>Vq (cs.set i d) (i+1) ds
theorem Q9(g:Nat):∀(l:List Value)(k:Nat)(cells:Array Value),((l.zipIdx k).foldl (λcs(x:Value×Nat)=>cs.setIfInBounds (g+x.2) x.1) cells).toList=Vq cells.toList (g+k) l
 |[],_,_=>rfl|v::l,k,cells=>by
  simp [Vq];rw[Q9 g l (k+1)]
  grind
section
variable{w:World}{F:Nat->Nat->Prop}
variable{v:Value}
theorem fj{cs:Fq}{xs:List Value}(h:AP w F cs xs)(i:Nat){t:TV}(g:Af w F t v):AP w F (cs.set i t) (xs.set i v):=by
 rw [BQ]at h|-
 grind
theorem XE:∀{ds:Fq}{ys:List Value}{cs:Fq}{xs:List Value}(i:Nat),AP w F cs xs->AP w F ds ys->AP w F (O5 cs i ds) (Vq xs i ys)
 |[],ys,cs,xs,i,h,hd=>by simp[AP]at hd;subst hd;exact h|d::ds,ys,cs,xs,i,h,hd=>by
  simp [AP]at hd;obtain⟨v,r,rfl,g,l⟩:=hd;exact XE (i+1) (fj h i g) l
theorem dN:∀(ys xs:List Value)(i:Nat),(∀x∈xs,x.oneCell'=X)->(∀y∈ys,y.oneCell'=X)->∀x∈Vq xs i ys,x.oneCell'=X
 |[],_,_,h,_=>h|y::ys,xs,i,h,l=>by
  refine dN ys (xs.set i y) (i+1) (λx m=>?_) (λz g=>l z n!)
  grind
theorem Vi{place:Nat->Option (Nat×Nat)}:∀{ps:List (Nat×Value)}{ts:List (Nat×Nat×TV)}{cs cs':Fq}{xs:Array Value},AP w F cs xs.toList->ps.length=ts.length ->
  (∀(j:Nat)(p:Nat×Value)(t:Nat×Nat×TV),ps[j]?=Y p->ts[j]?=Y t->place p.1=Y (t.1,t.2.1)/\Af w F t.2.2 p.2)->Ek cs ts=Y cs'->(∀x∈xs.toList,x.oneCell'=X) ->
  ∃xs',Instr.fill place xs ps=Y xs'/\AP w F cs' xs'.toList/\∀x∈xs'.toList,x.oneCell'=X
 |[],ts,cs,cs',xs,h,l,u,hf,ho=>by
  have:ts=[]:=v? l.symm;subst this;simp[Ek]at hf;subst hf;exact⟨xs,rfl,h,ho⟩
 |(i,v)::ps,[],_,_,_,_,l,_,_,_=>by simp at l|(i,v)::ps,(g,n,t)::ts,cs,cs',xs,h,l,u,hf,ho=>by
  simp only[Ek]at hf;split at hf
  .rename_i J;obtain⟨B,r⟩:=u 0 _ _ rfl rfl;simp only at B r;have A:=(GG r).1;have C:=(GG r).2;have L:v.cells.size=n:=by have:=A9 A;rw[x!]at this;omega
   have D:=A9 h;rw[x!]at D;have E:AP w F (O5 cs g t.cells) ((v.cells.zipIdx.foldl (λcs(x:Value×Nat)=>cs.setIfInBounds (g+x.2) x.1) xs)).toList:=by
    have H:=XE g h A;rw[<-x?,y_,Q9,y?];exact H
   obtain ⟨xs',M,I⟩:=Vi E (by simpa using l) (λj p t m q=>u (j+1) p t (by simpa using m) j_) hf (by
    rw [<-x?,y_,Q9,y?]
    grind [dN])
   refine ⟨xs',?_,I⟩;simp[Instr.fill,B]
   grind
  .cases hf
end
def NE(place:Nat->Option (Nat×Nat)):List (Nat×Operand)->List (Nat×Nat×AE)->Bool
 |[],[]=>X|(i,x)::ps,(off,n,y)::qs=>place i==Y (off,n)&&AK x y&&NE place ps qs|_,_=>T
def fM(P:Program)(t:TypeId)(zero:Fq)(ps:List (Nat×Operand))(qs:List (Nat×Nat×AE)):Bool:=
 match P.info? t,P.underlying t with
 |some it,Y (.array _ e)=>
  match it.zero,P.info? e with
  |some z,Y ie=>Jn zero z.cells.toList&&z.cells.toList.all Value.oneCell'&&NE (λi=>Y (i*ie.size,ie.size)) ps qs|_,_=>T
 |some it,Y (.struct fields)=>
  match it.zero,fields.toList.mapM (λf=>(P.info? f.type).map λi=>(f.offset,i.size))with
  |some z,Y places=>Jn zero z.cells.toList&&z.cells.toList.all Value.oneCell'&&NE (places.toArray[·]?) ps qs|_,_=>T
 |_,_=>T
section
variable{P:Program}{S:FuncId->Fq->Al->Prop}{F0:Nat->Nat->Prop}{w0:W0}{O:AB}{a:Act}{w:World}{G:BH}{d:Nat}{o:Oper}{K:EV->AB->Prop}
theorem Yl(q:AN F0 w0 O a w G){place:Nat->Option (Nat×Nat)}:∀{ps:List (Nat×Operand)}{l:List (Nat×Nat×AE)}{ts:List (Nat×Nat×TV)},NE place ps l=X->GT O l=Y ts ->
  ps.length=ts.length/\(∀(j:Nat)(p:Nat×Value)(t:Nat×Nat×TV),(ps.map λ(i,x)=>(i,a.eval x))[j]?=Y p->ts[j]?=Y t->place p.1=Y (t.1,t.2.1)/\Af w (AW w0.heap.size F0 G) t.2.2 p.2)/\∀t∈ts,t.2.2.WF
 |[],[],ts,_,h=>by simp[GT]at h;subst h;simp|[],_::_,_,h,_=>by simp[NE]at h|_::_,[],_,h,_=>by simp[NE]at h|(i,x)::ps,(A,n,y)::l,ts,g,h=>by
  simp [NE]at g;simp[GT]at h;split at h
  .rename_i t r u m;simp at h;subst h;obtain⟨C,D,E⟩:=Yl q g.2 m;have B:=Ar q g.1.2 u
   grind
  .cases h
theorem eD:∀{ds cs:Fq}(i:Nat),TV.tl cs->TV.tl ds->TV.tl (O5 cs i ds)
 |[],_,_,h,_=>h|d::ds,cs,i,h,hd=>by
  refine eD (i+1) ?_ hd.2
  grind [Bg,List.mem_or_eq_of_mem_set]
theorem br:∀{ts:List (Nat×Nat×TV)}{cs cs':Fq},TV.tl cs->(∀t∈ts,t.2.2.WF)->Ek cs ts=Y cs'->TV.tl cs'
 |[],cs,cs',h,_,hf=>by simp[Ek]at hf;subst hf;exact h|(i,n,t)::ts,cs,cs',h,g,hf=>by
  simp only[Ek]at hf;split at hf
  .exact br (eD i h (Hh (g (i,n,t) V))) (λu l=>g u (by simp[l])) hf
  .cases hf
variable{t:TypeId}{ps:Array (Nat×Operand)}
theorem mR(A:AN F0 w0 O a w G)(hd:d<a.tmps.size){zero:Fq}{m:List (Nat×Nat×AE)}(p:o.op=.build t ps)(q:fM P t zero ps.toList m=X)(h:(AD.bld zero m).wp S O (Y d) K):At P F0 w0 a w o d K:=by
 simp [AD.wp]at h;cases g:GT O m with
 |none=>rw[g]at h;exact h.elim|some ts=>
  rw [g]at h;simp[Ad]at h;cases l:Ek zero ts with
  |none=>rw[l]at h;exact h.elim|some cs=>
   rw [l]at h;simp only at h;have key:∀(place:Nat->Option (Nat×Nat))(z:Array Value),Jn zero z.toList=X->z.toList.all Value.oneCell'=X->NE place ps.toList m=X->∃xs',Instr.fill place z (ps.map λ(i,x)=>(i,a.eval x)).toList=Y xs'/\AP w (AW w0.heap.size F0 G) cs xs'.toList/\TV.tl cs/\xs'.toList.all Value.oneCell'=X:=by
    intro place z H r I;obtain⟨u,C,D⟩:=Yl A I g;have B:=Qn w (AW w0.heap.size F0 G) zero z.toList H;have J:(ps.map λ(i,x)=>(i,a.eval x)).toList=ps.toList.map λ(i,x)=>(i,a.eval x):=V
    rw [J];obtain⟨xs',L,M,N⟩:=Vi B.1 g! C l (λx E=>v9.1 r x E)
    grind [br,v9]
   have built:∃xs',P.built t (ps.map λ(i,x)=>(i,a.eval x)).toList=Y xs'/\AP w (AW w0.heap.size F0 G) cs xs'.toList/\TV.tl cs/\xs'.toList.all Value.oneCell'=X:=by
    unfold fM at q;unfold Program.built
    grind
   obtain ⟨xs',u,C,D,B⟩:=built;refine CM A hd (v:=.agg xs') (t:=.agg cs) ?_ ?_ (by simpa[TV.WF]using D) h
   .simp[execOp,p,run_build w t _ xs' u]
   grind [Af]
variable{x:Operand}{n:Nat}
theorem Y6(l:AN F0 w0 O a w G)(hd:d<a.tmps.size)(g:o.op=.move x\/o.op=.assign x)(m:∃v,x=.const v/\L8 v=X)(h:(AD.AaG n).wp S O (Y d) K):At P F0 w0 a w o d K:=by
 simp [AD.wp]at h;obtain⟨v,rfl,hv⟩:=m;refine⟨.slice W 0 0,w,?_,_,_,h,l.ow (Below.refl _ _) d hd (.list n []) _ W V ?_ ⟨V,trivial⟩⟩
 .rcases g with g|g<;>simp[execOp,g,Act.eval,JV hv]
 .simp only[Bm];exact⟨[],⟨V,.inl ⟨rfl,rfl,rfl⟩⟩,rfl,V,V⟩
end
end Go.Sf
namespace Go.Sf
open Go.RowKit (Below)
theorem fw(g:Fq)(x t:TV)(r:Fq):(g++x::r).set g.length t=g++t::r:=l!
theorem US:∀(ds g rest:Fq),ds.length<=rest.length->O5 (g++rest) g.length ds=g++ds++rest.drop ds.length
 |[],g,rest,_=>by simp[O5]|d::ds,g,[],h=>by simp at h|d::ds,g,x::rest,h=>by
  simp [O5,fw];have:=US ds (g++[d]) rest c_
  grind
def K3(n:Nat):Nat->Fq->List (Nat×Nat×TV)
 |_,[]=>[]|k,t::ts=>(k*n,n,t)::K3 n (k+1) ts
theorem YH(n:Nat):∀(ts g:Fq)(k:Nat),(∀t∈ts,t.cells.length=n)->g.length=k*n ->
  Ek (g++w_ (ts.length*n) .undef) (K3 n k ts)=Y (g++ts.flatMap TV.cells)
 |[],g,k,_,_=>by simp[K3,Ek]|t::ts,g,k,h,q=>by
  have m:t.cells.length=n:=h t V;simp only[K3,Ek];rw[ae ⟨m,by simp[bk,w!,c7,z9];omega⟩];rw[<-q,US t.cells g _ (by simp[w!,c7,z9];omega)];have p:(w_ ((t::ts).length*n) TV.undef).drop t.cells.length=w_ (ts.length*n) TV.undef:=by
   grind [c7,z9]
  rw [p];have:=YH n ts (g++t.cells) (k+1) (λx l=>h x (by simp[l])) (by simp[bk,z9];omega)
  grind
def Sk:Nat->List (Nat×Operand)->List AE->Bool
 |_,[],[]=>X|k,(i,x)::ps,y::ys=>i==k&&AK x y&&Sk (k+1) ps ys|_,_,_=>T
section
variable{P:Program}{S:FuncId->Fq->Al->Prop}{F0:Nat->Nat->Prop}{w0:W0}{O:AB}{a:Act}{w:World}{G:BH}{d:Nat}{o:Oper}{K:EV->AB->Prop}
theorem dJ(m:AN F0 w0 O a w G)(n:Nat):∀{k:Nat}{ps:List (Nat×Operand)}{ys:List AE}{ts:Fq},Sk k ps ys=X->vals O ys=Y ts ->
  ps.length=ts.length/\(∀(j:Nat)(p:Nat×Value)(t:Nat×Nat×TV),(ps.map λ(i,x)=>(i,a.eval x))[j]?=Y p->(K3 n k ts)[j]?=Y t->(Y (p.1*n,n):Option (Nat×Nat))=Y (t.1,t.2.1)/\Af w (AW w0.heap.size F0 G) t.2.2 p.2)/\TV.tl ts
 |_,[],[],ts,_,h=>by simp[vals]at h;subst h;simp[TV.tl]|_,[],_::_,_,h,_=>by simp[Sk]at h|_,_::_,[],_,h,_=>by simp[Sk]at h|k,(i,x)::ps,y::ys,ts,g,h=>by
  simp [Sk]at g;simp[vals]at h;split at h
  .rename_i t q r l;simp at h;subst h;obtain⟨B,H,C⟩:=dJ m n g.2 l;have A:=Ar m g.1.2 r;refine⟨by simp[B],λj p u D E=>?_,A.2,C⟩
   grind [K3]
  .cases h
theorem RE(n:Nat):∀(k:Nat)(ts:Fq),(K3 n k ts).length=ts.length
 |_,[]=>rfl|k,t::ts=>by simp[K3,RE n (k+1) ts]
variable{n:Nat}{ts:Fq}{e:TypeId}
theorem o7{F:Nat->Nat->Prop}{cells:Array Value}(h:AP (w.alloc (.cells cells e)) F (ts.flatMap TV.cells) cells.toList)(ho:∀x∈cells.toList,x.oneCell'=X)(l:∀t∈ts,t.cells.length=n)(m:ts.length<=maxLen):
  Bm (w.alloc (.cells cells e)) F (Y (w.heap.size,ts.length*n)) (.list n ts) (.slice (Y ⟨w.heap.size,0,W⟩) ts.length ts.length):=by
 have g:=A9 h;rw[O2 n ts l]at g;simp[Bm];refine⟨cells.toList,⟨g,.inr ⟨w.heap.size,ts.length,cells,e,rfl,heap_alloc_new w _,b6 _,m,t!,?_,rfl⟩⟩,h,l,ho⟩;rw[<-g,List.take_length]
variable{t:TypeId}{ps:Array (Nat×Operand)}
theorem mf(θ:AN F0 w0 O a w G)(hd:d<a.tmps.size){r:TypeInfo}{z:Value}{len n:Nat}{ys:List AE}(J:o.op=.buildSlice t len ps)(ε:P.underlying t=Y (.slice e))(u:P.info? e=Y r)(hz:r.zero=Y z)
  (κ:r.size=n)(A:0<n)(η:z.cells.toList.all Value.oneCell'=X)(hzs:0<z.cells.size)(B:len=ps.size)(hsm:len*n<=2^ 24)(L:Sk 0 ps.toList ys=X)(h:(AD.lst n ys).wp S O (Y d) K):At P F0 w0 a w o d K:=by
 simp [AD.wp]at h;cases l:vals O ys with
 |none=>rw[l]at h;exact h.elim|some ts=>
  rw [l]at h;simp[Ad]at h;obtain⟨δ,hK⟩:=h;obtain⟨Z,h2,h3⟩:=dJ θ n L l;have M:len=ts.length:=by rw[B,<-Z];simp
  have N:(TV.list n ts).WF:=⟨by simp[Jm];have:len*1<=len*n:=z_ _ A;omega,h3⟩;have Q:ts.length<=maxLen:=by simp[maxLen];have:len*1<=len*n:=z_ _ A;omega
  have g:∃cells:Array Value,(Instr.buildSlice t len (ps.map λ(i,x)=>(i,a.eval x))).run P w=.ok (.slice (Y ⟨w.heap.size,0,W⟩) len len) (w.alloc (.cells cells e))/\AP w (AW w0.heap.size F0 G) (ts.flatMap TV.cells) cells.toList/\∀x∈cells.toList,x.oneCell'=X:=by
   by_cases h0:len=0
   .have R:ps=#[]:=by apply Array.eq_empty_of_size_eq_zero;omega
    have D:ts=[]:=by apply v?;omega
    subst R;subst D;subst h0;refine⟨#[],?_,rfl,V⟩;simp[Instr.buildSlice,run_underlying ε,sizeOf,typeInfo,u,Instr.fill,newRow]
    grind
   .have m:AP w (AW w0.heap.size F0 G) (w_ (ts.length*n) .undef) ((y! (len*r.size)).map (z.cells[· % z.cells.size]!)).toList:=by
     grind [BQ,t5,Af,Option.map_eq_some_iff,Nat.mod_lt,v9]
    have E:=YH n ts [] 0 δ V;simp at E;have p:∀x∈((y! (len*r.size)).map (z.cells[· % z.cells.size]!)).toList,x.oneCell'=X:=by
     grind [Nat.mod_lt,v9]
    obtain ⟨xs',h6,h7,h8⟩:=Vi (place:=λi=>Y (i*n,n)) m (by rw[RE];simpa using Z) h2 E p;refine⟨xs',run_buildSlice w t e len _ xs' r z ε u hz (by rw[κ];omega) ?_ ?_,h7,h8⟩
    .grind[Nat.mul_eq_zero]
    .rw[κ]at h6|-;simpa using h6
  obtain ⟨cells,H,I,q⟩:=g;have ζ:Below w.heap.size w (w.alloc (.cells cells e)):=(Below.refl _ _).alloc (b6 _) _;refine⟨.slice (Y ⟨w.heap.size,0,W⟩) len len,_,by simp[execOp,J,H],_,_,hK,θ.ow ζ d hd (.list n ts) _ (Y (w.heap.size,ts.length*n)) (λb lo C=>?_) ?_ N⟩
  .simp at C;obtain⟨rfl,_⟩:=C;exact⟨b6 _,V⟩
  .rw[M];exact o7 (Aj (KH ζ d _ (λi b lo h=>by
    grind)) _ _ I) q δ Q
theorem AN.strip(h:AN F0 w0 O a w G)(s:Nat):AN F0 w0 (strip O s) a w G:=by
 refine ⟨h.og,h.lt,h.below,h.defers,λq l=>?_,λq l=>?_,λq=>?_⟩
 .simp only[Go.Sf.strip,AB.d6];split
  .rfl
  .exact h.dom q l
 .have:=h.slots q l;simp[Go.Sf.strip,AB.d6];split
  .trivial
  .refine AL.kept (P7 _ _) (λ_=>rfl) (λ_ _ _ _=>rfl) rfl BA.rfl' (λr i k u⟨p,m⟩=>⟨⟨p,(AB.ym V m).2⟩,λ_ hv=>hv⟩) (λr A u⟨cs,g⟩=>?_) (λr i u⟨p,m⟩=>⟨⟨p,(AB.x4 V V m).2⟩,λ_ hv=>hv⟩) this
   .rw[AB.d6]at g;split at g
    .cases g
    .exact⟨⟨cs,g⟩,rfl⟩
 .simp[Go.Sf.strip,AB.d6];split
  .trivial
  .exact h.wf q
variable{s:Nat}
theorem AN.move(h:AN F0 w0 O a w G){t:TV}(N:O.get s=.ow t)(hd:d<a.tmps.size):
  ∃m,AN F0 w0 ((d,.ow t)::Go.Sf.strip O s) (a.put (Y d) (slot a s)) w m/\BS w w (AW w0.heap.size F0 G) (AW w0.heap.size F0 m):=by
 have B:=AZ h N V;simp[AL]at B;have L:=h.wf s;rw[N]at L
 let zs:Option (Nat×Nat):=G s W
 let m:BH:=JU (JU G s (λ_=>W)) d (λi=>if i=W then zs else W)
 have D:∀q i b lo,m q i=Y (b,lo)->(q=d/\i=W/\G s W=Y (b,lo))\/(q≠d/\q≠s/\G q i=Y (b,lo)):=by
  intro q i b lo u;by_cases l:q=d
  .grind[Bt]
  .simp[m,BC _ _ _ _ l]at u;by_cases ε:q=s
   .grind[Bt]
   .rw[BC _ _ _ _ ε]at u
    grind
 have E:∀q i b lo,m q i=Y (b,lo)->∃κ η lo',G κ η=Y (b,lo')/\lo'<=lo:=by
  grind
 have H:BS w w (AW w0.heap.size F0 G) (AW w0.heap.size F0 m):=λb o v δ hf=>⟨δ,λQ=>hf (AW.mono E Q)⟩;refine⟨m,⟨?_,?_,h.below,g_,?_,?_,?_⟩,H⟩
 .intro q i κ η b lo lo' A C;rcases D _ _ _ _ A with⟨rfl,rfl,J⟩|⟨n1,n2,J⟩<;>rcases D _ _ _ _ C with⟨rfl,rfl,M⟩|⟨m1,m2,M⟩
  .exact⟨rfl,rfl⟩
  .exact absurd (h.og _ _ _ _ _ _ _ J M).1.symm m2
  .exact absurd (h.og _ _ _ _ _ _ _ J M).1 n2
  .exact h.og _ _ _ _ _ _ _ J M
 .intro q i b lo A;rcases D _ _ _ _ A with⟨_,_,J⟩|⟨_,_,J⟩<;>exact h.lt _ _ _ _ J
 .intro q u;rw[BU]at u;rw[AB.d6,az U];exact(h.strip s).dom q u
 .intro q u;rw[BU]at u;rw[AB.d6];by_cases l:d=q
  .subst l;rw[ae rfl,CS _ _ _ hd];simp[AL,m,Bt];exact B.kept H (λ_ _ _=>rfl)
  .rw[az l,AY _ _ _ _ l];simp[Go.Sf.strip,AB.d6];split
   .trivial
   .rename_i θ;refine AL.kept H (λi=>?_) (λ_ _ _ _=>rfl) (MW (BU _ _ _) (λq u=>by
     have hss:=BV h N V
     grind [BC])) BA.rfl' (λr i k ζ⟨p,R⟩=>?_) (λr Z ζ⟨cs,g⟩=>?_) (λr i ζ⟨p,R⟩=>?_) (h.slots q u)
    .simp[m];rw[BC _ _ _ _ (λe=>l e.symm),BC _ _ _ _ (λe=>θ e.symm)]
    .have A:=AB.ym V R;have C:=AB.ym V A.2;exact⟨⟨p,C.2⟩,h.nh ⟨p,C.2⟩ (AY _ _ _ _ A.1) (λ_ _ _ _=>rfl)⟩
    .rw[AB.d6]at g;by_cases I:d=r
     .rw[ae I]at g;cases g
     .rw[az I]at g;simp[AB.d6]at g;split at g
      .cases g
      .exact⟨⟨cs,g⟩,AY _ _ _ _ I⟩
    .have A:=AB.x4 V V R;have C:=AB.x4 V V A.2;exact⟨⟨p,C.2⟩,h.xv ⟨p,C.2⟩ (AY _ _ _ _ A.1) (λ_ _=>rfl)⟩
 .intro q;rw[AB.d6];split
  .exact L
  .exact(h.strip s).wf q
theorem mM(a:Act)(d s:Nat)(v:Value)(h:d<a.tmps.size):slot (a.put (Y d) v) s=if d=s then v else slot a s:=by grind[CS,AY]
theorem AN.move'(h:AN F0 w0 O a w G){t:TV}(g:O.get s=.ow t)(hd:d<a.tmps.size):
  Bj F0 w0 ((d,.ow t)::(s,.tv t)::O) (a.put (Y d) (slot a s)) w:=by
 obtain ⟨p,q,m⟩:=h.move g hd;have hv:=Ar h (x:=.tmp s) (y:=.s s) o2 (t:=t) (by simp[AE.val,AE.ev,g,EV.val]);have l:=BV h g V;refine⟨p,q.rem s (t:=t) (by rw[BU];exact l) ?_ hv.2 λn=>?_⟩
 .have:slot (a.put (Y d) (slot a s)) s=slot a s:=by rw[mM _ _ _ _ hd];split<;>rfl
  rw [this];exact By m _ _ hv.1
 .simp[Go.Sf.strip,AB.d6];split
  .exact .inl rfl
  .split
   next e=>exact .inr ⟨e.symm,rfl⟩
   .exact .inl rfl
theorem du(m:AN F0 w0 O a w G)(hd:d<a.tmps.size)(g:o.op=.move (.tmp s)\/o.op=.assign (.tmp s))(h:(AD.tk s).wp S O (Y d) K):At P F0 w0 a w o d K:=by
 simp [AD.wp]at h;have l:(execOp a.eval o).run P w=.ok (.value (slot a s)) w:=by
  rcases g with g|g<;>simp[execOp,g]<;>rfl
 split at h
 next t p=>exact⟨_,_,l,_,_,h,m.move' p hd⟩
 next t p=>have:=Ar m (x:=.tmp s) (y:=.s s) o2 (t:=t) (by simp[AE.val,AE.ev,p,EV.val]);exact CM m hd l this.1 this.2 h
 .exact h.elim
end
end Go.Sf
