/- The checker's operands, and the operations that only compute or read. -/
import Derived.Test.YtbmgmpeimdomoaaGreatSfInv
import Derived.Laws.StructEq
import Derived.Laws.Tables
import Derived.Great.BuildSlice
set_option linter.all false
open Option renaming some->Y,none->W
open Bool renaming true->X,false->T
open List renaming getElem?_eq_getElem->w!,mem_of_getElem?->w?,getElem?_drop->x_,mem_of_mem_drop->x!,getElem?_take->x?,all_eq_true->y_,mem_of_mem_take->y!,map_take->y?,eq_nil_of_length_eq_zero->z_,replicate->z!,length_replicate->z?
open Bool renaming and_assoc->A_,eq_iff_iff->A'
open Array renaming length_toList->A!,foldl_toList->A?,toList_zipIdx->B_,range->B'
open Nat renaming add_zero->B!,add_mul->B?,mul_le_mul_left->C_
namespace Go.Sf
open Go.RowKit (Below)
def Mw:Value->Bool
 |.slice W 0 0=>X|_=>T
variable{v:Value}
theorem KB(h:Mw v=X):v=.slice W 0 0:=by grind[Mw]
def n8(f:FuncId):Value->Bool
 |.func (.func g) first caps=>f==g&&first.size==0&&caps.size==0
 |_=>T
variable{f:FuncId}
theorem rm(h:n8 f v=X):v=.func (.func f) #[] #[]:=by
 unfold n8 at h
 grind
def iu(k:IntKind)(n:Int):Value->Bool
 |.int k' m=>k==k'&&n==m|_=>T
theorem n9{k:IntKind}{n:Int}(h:iu k n v=X):v=.int k n:=by
 unfold iu at h
 grind
def cJ(b:Bool):Value->Bool
 |.bool c=>b==c|_=>T
variable{b:Bool}
theorem ki(h:cJ b v=X):v=.bool b:=by
 unfold cJ at h
 grind
def iv(s:ByteArray):Value->Bool
 |.string r=>s.data==r.data|_=>T
theorem oB{s:ByteArray}(h:iv s v=X):v=.string s:=by
 unfold iv at h
 grind [ByteArray.ext]
def iM:Value->Option (List Value)
 |.agg vs=>Y vs.toList|_=>W
theorem nJ{l:List Value}(h:iM v=Y l):v=.agg l.toArray:=by
 unfold iM at h;split at h
 .simp at h;subst h;simp
 .cases h
mutual
def EX:TV->Value->Bool
 |.int k n,v=>iu k n v&&decide (k.min<=n/\n<=k.max)|.bool b,v=>cJ b v|.str s,v=>iv s v&&decide (s.size<=KK)|.list _ es,v=>es.isEmpty&&Mw v|.agg ts,v=>match iM v with|some vs=>KM ts vs&&vs.all Value.oneCell'|none=>T
 |.clo f cs,v=>cs.isEmpty&&n8 f v|.nil,v=>Mw v|.undef,v=>v.oneCell'|_,_=>T
def KM:Fq->List Value->Bool
 |[],vs=>vs.isEmpty|t::ts,vs=>match vs with|v::vs=>EX t v&&KM ts vs|[]=>T
end
mutual
theorem Hs(w:World)(F:Nat->Nat->Prop):∀(t:TV)(v:Value),EX t v=X->Aq w F t v/\t.WF
 |.undef,v,h=>by
  simp [EX]at h;exact⟨by simpa[Aq]using h,trivial⟩
 |.xl _ _,v,h=>by simp[EX]at h|.nil,v,h=>by
  simp [EX]at h;exact⟨KB h,trivial⟩
 |.pt _,v,h=>by simp[EX]at h|.int k n,v,h=>by
  simp [EX,pE]at h;exact⟨n9 h.1,h.2⟩
 |.bool b,v,h=>by
  simp [EX]at h;exact⟨ki h,trivial⟩
 |.str s,v,h=>by
  simp [EX,pE]at h;exact⟨oB h.1,h.2⟩
 |.list n es,v,h=>by
  simp [EX]at h
  grind [TV.WF,TV.ns,Aq,KB]
 |.agg ts,v,h=>by
  simp [EX]at h;split at h
  next vs hv=>rw[gN]at h;have:=RI w F ts vs h.1;refine⟨?_,by simpa[TV.WF]using this.2⟩;simp only[Aq];exact⟨_,nJ hv,u!,by simpa using h.2⟩
  .cases h
 |.clo f cs,v,h=>by
  simp [EX]at h;obtain⟨rfl,h⟩:=h;refine⟨?_,by simp[TV.WF,TV.ns]⟩;simp[Aq];exact⟨#[],rm h,rfl⟩
theorem RI(w:World)(F:Nat->Nat->Prop):∀(ts:Fq)(vs:List Value),KM ts vs=X->AR w F ts vs/\TV.ns ts
 |[],vs,h=>by simp[KM]at h;subst h;exact⟨rfl,trivial⟩|t::ts,vs,h=>by
  cases vs with
  |nil=>simp[KM]at h|cons v vs=>
   simp [KM]at h;have g:=Hs w F t v h.1;have l:=RI w F ts vs h.2;exact⟨⟨v,vs,rfl,g.1,l.1⟩,g.2,l.2⟩
end
def AK(x:Operand):AF->Bool
 |.s m=>match x with|.tmp n=>n==m|_=>T
 |.c t=>match x with|.const v=>EX t v|.func f=>EX t (.func (.func f) #[] #[])|_=>T
section
variable{F0:Nat->Nat->Prop}{w0:W0}{ε:AB}{a:Act}{w:World}{G:BR}
variable{s:Nat}
theorem PM(h:AP F0 w0 ε a w G){i:Option Nat}:∀b lo o,G s i=Y (b,lo)->o<lo->¬AU w0.heap.size F0 G b o:=by
 intro b lo o l ho hf;rcases hf with⟨m,g⟩|⟨s',q,lo',p,r⟩
 .exact(h.lt _ _ _ _ l).2.elim (λe=>U) (λe=>h.below.free _ _ _ (e _ (R0 _)) g)
 .obtain⟨rfl,rfl⟩:=h.gi _ _ _ _ _ _ _ p l
  grind
variable{n:Nat}
theorem Bi(h:AP F0 w0 ε a w G){e:EV}(he:ε.get n=e)(g:e≠.undef):n<a.tmps.size:=by
 rcases Nat.lt_or_ge n a.tmps.size with l|m
 .exact l
 .exact absurd ((h.dom n m).symm.trans he).symm g
theorem Ag(h:AP F0 w0 ε a w G){e:EV}(he:ε.get n=e)(g:e≠.undef):AM a w (AU w0.heap.size F0 G) G ε n e (slot a n):=by
 have:=h.slots n (Bi h he g)
 rwa [he]at this
theorem nA(g:AP F0 w0 ε a w G){x:AF}{row:Fq}(h:x.val ε=Y (.pt row)):x.ev ε=.tv (.pt row):=by
 cases x with
 |c t=>simpa[AF.val,AF.ev,EV.val]using h|s n=>
  simp [AF.val,AF.ev]at h|-;cases he:ε.get n with
  |tv t=>rw[he]at h;simpa[EV.val]using h|ow t=>
   rw [he]at h;have m:t=.pt row:=by simpa[EV.val]using h
   subst m;by_cases l:n<a.tmps.size
   .have:=g.slots n l;rw[he]at this;simp[AM,Bq]at this
   .rw[g.dom n (Nat.le_of_not_lt l)]at he;cases he
  |_=>rw[he]at h;simp[EV.val]at h
variable{x:Operand}{y:AF}
theorem Ay(h:AP F0 w0 ε a w G)(l:AK x y=X){t:TV}(hv:y.val ε=Y t):Aq w (AU w0.heap.size F0 G) t (a.eval x)/\t.WF:=by
 cases y with
 |s m=>
  cases x<;>simp[AK]at l;subst l;rename_i n;simp[AF.val,AF.ev]at hv;have p:=h.wf n;cases he:ε.get n with
  |tv r=>
   rw [he]at hv p;simp[EV.val]at hv;subst hv;exact⟨Ag h he V,p⟩
  |ow r=>
   rw [he]at hv p;simp[EV.val]at hv;subst hv;exact⟨Bq.rep (Ag h he V) (λb lo o u ho=>PM h b lo o u ho),p⟩
  |undef=>rw[he]at hv;simp[EV.val]at hv|sk=>rw[he]at hv;simp[EV.val]at hv|xo n es=>rw[he]at hv;simp[EV.val]at hv|la q i=>rw[he]at hv;simp[EV.val]at hv|oag cs=>rw[he]at hv;simp[EV.val]at hv|xn es=>rw[he]at hv;simp[EV.val]at hv|x1 n B=>rw[he]at hv;simp[EV.val]at hv|mx m=>rw[he]at hv;simp[EV.val]at hv|nh q i k=>rw[he]at hv;simp[EV.val]at hv|lp q i c=>rw[he]at hv;simp[EV.val]at hv|bx cs=>rw[he]at hv;simp[EV.val]at hv|bp q A=>rw[he]at hv;simp[EV.val]at hv|tp ts=>rw[he]at hv;simp[EV.val]at hv
 |c r=>
  simp [AF.val,AF.ev,EV.val]at hv;subst hv;cases x with
  |const v=>exact Hs w _ _ _ l|func f=>exact Hs w _ _ _ l|tmp n=>simp[AK]at l|global g=>simp[AK]at l
theorem YA(h:AP F0 w0 ε a w G)(g:AK x y=X){t:TV}(hv:y.ev ε=.tv t):Aq w (AU w0.heap.size F0 G) t (a.eval x)/\t.WF:=by grind[Ay,AF.val,EV.val]
def Be:List Operand->List AF->Bool
 |[],[]=>X|x::xs,y::ys=>AK x y&&Be xs ys|_,_=>T
theorem GM(h:AP F0 w0 ε a w G):∀{xs:List Operand}{ys:List AF},Be xs ys=X->∀{ts:Fq},vals ε ys=Y ts->AR w (AU w0.heap.size F0 G) ts (xs.map a.eval)/\TV.ns ts
 |[],[],_,ts,hv=>by simp[vals]at hv;subst hv;exact⟨rfl,trivial⟩|[],_::_,g,_,_=>by simp[Be]at g|_::_,[],g,_,_=>by simp[Be]at g|x::xs,y::ys,g,ts,hv=>by
  simp [Be]at g;simp[vals]at hv;split at hv
  next t q r l=>simp at hv;subst hv;have m:=Ay h g.1 r;have p:=GM h g.2 l;exact⟨⟨_,_,rfl,m.1,p.1⟩,m.2,p.2⟩
  .cases hv
end
theorem Mk(k:IntKind)(n:Int):k.min<=k.wrap n/\k.wrap n<=k.max:=by
 cases k<;>simp only[IntKind.min,IntKind.max,IntKind.wrap,IntKind.signed,IntKind.bits,Bool.true_and,Bool.false_and]<;>simp<;>(try split)<;>omega
end Go.Sf
namespace Go.Sf
open Go.RowKit (Below)
def C7(P:Program)(t:TypeId):Option Nat:=(P.info? t).map (·.size)
def B9(P:Program)(t:TypeId):I1:=
 match P.underlying t with
 |some (.struct _)|some (.array _ _)=>Y X|some _=>Y T|none=>W
def I3(P:Program)(t:TypeId):Option Nat:=
 match P.underlying t with
 |some (.slice e)=>C7 P e|_=>W
def P1(P:Program)(t:TypeId)(f:Nat):Option Nat:=
 match P.underlying t with
 |some (.struct fs)=>match fs[f]? with
  |some x=>match C7 P x.type with
   |some 0=>W|some _=>Y x.offset|none=>W
  |none=>W
 |_=>W
section
variable{P:Program}{w:World}
variable{t:TypeId}{n:Nat}
theorem CG(h:C7 P t=Y n):(sizeOf t).run P w=.ok n w:=by
 simp only[C7,Option.map_eq_some_iff]at h;obtain⟨i,hi,rfl⟩:=h;simp[sizeOf,typeInfo,hi]
variable{b:Bool}
theorem Cs(h:B9 P t=Y b):(isAgg t).run P w=.ok b w:=by
 unfold B9 at h;unfold isAgg underlying;simp only[Sem.run_bind,run_program,Result.andThen_ok];cases g:P.underlying t with
 |none=>rw[g]at h;simp at h|some d=>
  rw [g]at h;cases d<;>simp_all
theorem U1{f k b o:Nat}(h:P1 P t f=Y k):
  (Instr.fieldAt t (.pointer (Y ⟨b,o,W⟩)) f).run P w=.ok (.pointer (Y ⟨b,o+k,W⟩)) w:=by
 unfold P1 at h;split at h
 .rename_i r l;split at h
  .rename_i x m;split at h
   .cases h
   next n p q=>simp only[nm]at h;subst h;have g:¬(n=0):=λe=>p (by rw[e]);simp[Instr.fieldAt,run_underlying l,m,Instr.sureAddr,fieldPlace,CG q,g,Addr.add_lit]
   .cases h
  .cases h
 .cases h
variable{ts:Fq}
theorem Th{F:Nat->Nat->Prop}{b o:Nat}(h:DR w F ts b o):∃vs:List Value,AR w F ts vs/\(∀x∈vs,x.oneCell'=X)/\∀(j:Nat)(v:Value),vs[j]?=Y v->w.cell? ((⟨b,o,W⟩:Addr).add j)=Y v:=by
 induction ts generalizing o with
 |nil=>exact⟨[],rfl,V,V⟩|cons t ts C=>
  simp only[DR]at h;obtain⟨⟨v,l,D,m,p⟩,q⟩:=h;obtain⟨vs,r,A,B⟩:=C q;refine⟨v::vs,⟨v,vs,rfl,p,r⟩,by simp only[List.mem_cons,forall_eq_or_imp];exact⟨m,A⟩,λj u g=>?_⟩;rw[Addr.add_lit];cases j with
  |zero=>simp at g;subst g;exact l|succ j=>
   have:=B j u o?;rw[Addr.add_lit]at this
   grind
theorem BL{F:Nat->Nat->Prop}{vs:List Value}(h:AR w F ts vs):vs.length=ts.length:=((Bh ts vs).1 h).1
variable{v:Value}
theorem jc{F:Nat->Nat->Prop}{es:Fq}{k:IntKind}{j:Int}(l:I3 P t=Y n)(h:Aq w F (.list n es) v)(H:0<=j){e:TV}(he:es[j.toNat]?=Y e):
  ∃p,(Instr.indexAt t v (.int k j)).run P w=.ok p w/\Aq w F (.pt e.cells) p:=by
 simp only[Aq]at h;obtain⟨a,cap,rfl,_,C,D⟩:=h;have g:j.toNat<es.length:=by
  grind
 cases a with
 |none=>have:=C rfl;subst this;simp at g|some r=>
  obtain ⟨m,q⟩:=D r rfl;obtain⟨b,o,E⟩:=r;simp only at m q;have m:E=W:=m.resolve_left (λe=>by subst e;simp at g);subst m;unfold I3 at l;split at l
  .rename_i el u;rw[R5]at q;have A:=q j.toNat e he;have B:0<=j/\j<(es.length:Int):=U
   refine ⟨.pointer (Y ⟨b,o+j.toNat*n,W⟩),?_,?_⟩
   .simp[Instr.indexAt,asIntOf,run_underlying u,B,CG l,Addr.add_lit]
   .simp only[Aq];exact⟨b,_,rfl,A.1⟩
  .cases l
end
end Go.Sf
namespace Go.Sf
open Go.RowKit (Below)
def A1(P:Program)(F0:Nat->Nat->Prop)(w0:W0)(a:Act)(w:World)(o:Oper)(d:Nat)(K:EV->AB->Prop):Prop:=
 ∃v w',(execOp a.eval o).run P w=.ok (.value v) w'/\∃e env',K e env'/\Bt F0 w0 ((d,e)::env') (a.put (Y d) v) w'
theorem Bp:∀{l:Fq},TV.ns l↔∀t∈l,t.WF
 |[]=>by simp[TV.ns]|t::l=>by simp[TV.ns,Bp (l:=l)]
theorem IV{t:TV}(h:t.WF):TV.ns t.cells:=by
 cases t with
 |agg cs=>exact h|_=>exact⟨h,trivial⟩
section
variable{P:Program}{S:FuncId->Fq->As->Prop}{F0:Nat->Nat->Prop}{w0:W0}{ε:AB}{a:Act}{w:World}{G:BR}{d:Nat}{o:Oper}{K:EV->AB->Prop}
variable{v:Value}
theorem Cp(h:AP F0 w0 ε a w G)(hd:d<a.tmps.size){t:TV}(g:(execOp a.eval o).run P w=.ok (.value v) w)
  (l:Aq w (AU w0.heap.size F0 G) t v)(m:t.WF)(p:K (.tv t) ε):A1 P F0 w0 a w o d K:=
 ⟨v,w,g,_,_,p,h.tv_same d hd t v l m⟩
variable{x:Operand}{y:AF}
theorem gc(p:AP F0 w0 ε a w G)(hd:d<a.tmps.size)(g:o.op=.move x\/o.op=.assign x)(l:AK x y=X)(h:(AE.mv y).wp S ε (Y d) K):A1 P F0 w0 a w o d K:=by
 simp [AE.wp]at h;have hv:(∃t,y.val ε=Y t/\K (.tv t) ε)\/∃ts,y.ev ε=.tp ts/\K (.tp ts) ε:=by
  unfold AF.val;split at h<;>first|exact h.elim|(rename_i t he;exact .inl ⟨t,by rw[he];rfl,h⟩)|(rename_i t he;exact .inr ⟨t,he,h⟩)
 have m:(execOp a.eval o).run P w=.ok (.value (a.eval x)) w:=by rcases g with g|g<;>simp[execOp,g]
 rcases hv with⟨t,hv,C⟩|⟨ts,hv,C⟩
 .have:=Ay p l hv
  grind [Cp]
 .cases y with
  |c t=>simp[AF.ev]at hv|s n=>
   have E:x=.tmp n:=by
    cases x<;>simp[AK]at l;rw[l]
   subst E;simp[AF.ev]at hv;have A:=Ag p hv V;have B:=p.wf n;rw[hv]at B;refine⟨_,w,m,_,_,C,⟨_,p.quiet (Below.refl _ _) d hd (.tp ts) _ (λ_=>W) V V V ?_ B⟩⟩;simp[AM]at A|-;obtain⟨vs,I,J⟩:=A;refine⟨vs,I,Ar (λb o u D hf=>⟨D,λr=>hf ?_⟩) _ _ J⟩;rcases r with q|⟨s,i,lo,q,L⟩
   .exact .inl q
   .by_cases H:s=d
    .grind[B1]
    .rw[BE _ _ _ _ H]at q;exact .inr ⟨s,i,lo,q,L⟩
theorem mn(l:AP F0 w0 ε a w G)(hd:d<a.tmps.size){c x x':Operand}{c' y y':AF}(m:o.op=.pick c x x')(r:AK c c'=X)(B:AK x y=X)(C:AK x' y'=X)
  (h:(AE.pick c' y y').wp S ε (Y d) K):A1 P F0 w0 a w o d K:=by
 simp [AE.wp]at h;split at h
 .rename_i q u;have g:=(Ay l r u).1;simp[Aq]at g;have p:AK (if q then x else x') (if q then y else y')=X:=by cases q<;>assumption
  have hv:∃t,(if q then y else y').val ε=Y t/\K (.tv t) ε:=by
   unfold AF.val;split at h<;>first|exact h.elim|(rename_i t he;exact⟨t,by rw[he];rfl,h⟩)
  obtain ⟨t,hv,A⟩:=hv;have:=Ay l p hv;refine Cp l hd (v:=a.eval (if q then x else x')) ?_ this.1 this.2 A;cases q<;>simp[execOp,m,g,asBool]
 .exact h.elim
variable{t:TypeId}
theorem p6(m:AP F0 w0 ε a w G)(hd:d<a.tmps.size)(g:o.op=.unOp .not t x)(l:AK x y=X)(h:(AE.not y).wp S ε (Y d) K):A1 P F0 w0 a w o d K:=by
 simp [AE.wp]at h;split at h
 next b hv=>have:=(Ay m l hv).1;simp[Aq]at this;exact Cp m hd (v:=.bool !b) (t:=.bool !b) (by simp[execOp,g,this,Op.unary]) rfl trivial h
 .exact h.elim
theorem py(m:AP F0 w0 ε a w G)(hd:d<a.tmps.size)(g:o.op=.unOp .neg t x)(l:AK x y=X)(h:(AE.neg y).wp S ε (Y d) K):A1 P F0 w0 a w o d K:=by
 simp [AE.wp]at h;split at h
 next k n hv=>have:=(Ay m l hv).1;simp[Aq]at this;exact Cp m hd (v:=.int k (k.wrap (-n))) (t:=.int k (k.wrap (-n))) (by simp[execOp,g,this,Op.unary,Op.intArith]) rfl (Mk k _) h
 .exact h.elim
theorem pR(m:AP F0 w0 ε a w G)(hd:d<a.tmps.size){s t:TypeId}{k p:IntKind}(g:o.op=.convert s t x)(q:P.underlying s=Y (.int p))(r:P.underlying t=Y (.int k))(l:AK x y=X)(h:(AE.cvt k y).wp S ε (Y d) K):A1 P F0 w0 a w o d K:=by
 simp [AE.wp]at h;split at h
 next u n hv=>have:=(Ay m l hv).1;simp[Aq]at this;refine Cp m hd (v:=.int k (k.wrap n)) (t:=.int k (k.wrap n)) ?_ rfl (Mk k _) h;simp[execOp,g,this,convert,run_underlying q,run_underlying r,Conv.intToInt]
 .exact h.elim
variable{f:FuncId}{ys:List AF}
theorem pM(m:AP F0 w0 ε a w G)(hd:d<a.tmps.size){xs:Array Operand}(g:o.op=.makeFunc (.func f) #[] xs)(l:Be xs.toList ys=X)(h:(AE.clo f ys).wp S ε (Y d) K):A1 P F0 w0 a w o d K:=by
 simp [AE.wp]at h;cases hv:vals ε ys with
 |none=>rw[hv]at h;exact h.elim|some ts=>
  rw [hv]at h;have:=GM m l hv;refine Cp m hd (v:=.func (.func f) #[] (xs.map a.eval)) (by simp[execOp,g,Instr.makeFunc]) ?_ (by simpa[TV.WF]using this.2) h;simp only[Aq];exact⟨_,rfl,u!⟩
theorem pS(l:AP F0 w0 ε a w G)(hd:d<a.tmps.size){s i:Nat}(m:o.op=.extract (.tmp s) i)(h:(AE.ext (.s s) i).wp S ε (Y d) K):A1 P F0 w0 a w o d K:=by
 simp [AE.wp,AF.ev]at h;split at h
 .rename_i ts hv;cases g:ts[i]? with
  |none=>rw[g]at h;exact h.elim|some t=>
   rw [g]at h;have q:=Ag l hv V;have r:=l.wf s;rw[hv]at r;simp[AM]at q;obtain⟨vs,C,u⟩:=q;rw[Bh]at u;have A:i<ts.length:=by
    grind
   have B:vs.toList[i]?=Y (vs.toList[i]' U):=w! U;have p:vs[i]?=Y (vs.toList[i]' U):=V
   refine Cp l hd (v:=vs.toList[i]' U) ?_ (u.2 i t _ g B) ?_ h
   .simp[execOp,m,show a.eval (.tmp s)=slot a s from rfl,C,Instr.extract,p]
   .exact Bp.1 r t (w? g)
 .exact h.elim
variable{e:TypeId}
theorem pZ(m:AP F0 w0 ε a w G)(hd:d<a.tmps.size)(g:o.op=.call {callee:=.builtin .len,args:=#[x],argTypes:=#[t]})(l:AK x y=X)
  (he:P.underlying t=Y (.slice e))(h:(AE.len y).wp S ε (Y d) K):A1 P F0 w0 a w o d K:=by
 simp only[AE.wp]at h;split at h
 next n es hv=>have:=Ay m l hv;simp only[Aq,TV.WF,KK]at this;obtain⟨⟨q,cap,p,_⟩,r⟩:=this;refine Cp m hd (v:=.int .i64 es.length) (t:=.int .i64 es.length) ?_ rfl ⟨l_,s_⟩ h;simp[execOp,g,resolve,invoke,builtin,Builtin.len_,run_underlying he,p,goInt]
 .exact h.elim
theorem mr(m:AP F0 w0 ε a w G)(hd:d<a.tmps.size)(g:o.op=.call {callee:=.builtin .len,args:=#[x],argTypes:=#[t]})(l:AK x y=X)
  (he:P.underlying t=Y .string)(h:(AE.AbB y).wp S ε (Y d) K):A1 P F0 w0 a w o d K:=by
 simp only[AE.wp]at h;split at h
 next s hv=>have:=Ay m l hv;simp only[Aq,TV.WF,KK]at this;refine Cp m hd (v:=.int .i64 s.size) (t:=.int .i64 s.size) ?_ rfl ⟨l_,s_⟩ h;simp[execOp,g,resolve,invoke,builtin,Builtin.len_,run_underlying he,this.1,goInt]
 .exact h.elim
end
end Go.Sf
namespace Go.Sf
open Go.RowKit (Below)
section
variable{P:Program}{S:FuncId->Fq->As->Prop}{F0:Nat->Nat->Prop}{w0:W0}{ε:AB}{a:Act}{w:World}{G:BR}{d:Nat}{o:Oper}{K:EV->AB->Prop}
variable{s:Nat}{ρ:IA}{c:AO}
theorem WY(g:AP F0 w0 ε a w G){i:Option Nat}{x:Value}(h:BF w (AU w0.heap.size F0 G) ρ (G s i) c x):Aq w (AU w0.heap.size F0 G) c.t x:=by
 obtain ⟨_|_,t⟩:=c
 .exact h.1
 .exact ER.rep h (λb lo o l ho=>PM g b lo o l ho)
variable{z:Option (Nat×Nat)}
theorem Vr{F:Nat->Nat->Prop}{t:TV}{x:Value}(h:Bq w F z t x):x.oneCell'=X:=by
 cases t<;>simp[Bq]at h;obtain⟨xs,l,_⟩:=h;rcases l.2 with⟨rfl,_⟩|⟨g,cap,m,e,rfl,_⟩<;>rfl
theorem oI{F:Nat->Nat->Prop}{es:Fq}{x:Value}(h:Fw w F ρ z es x):x.oneCell'=X:=by
 obtain ⟨xs,⟨p,l,_⟩,_⟩:=h;rcases l.2 with⟨rfl,_⟩|⟨g,cap,m,e,rfl,_⟩<;>rfl
theorem PK{F:Nat->Nat->Prop}{t:TV}{x:Value}(h:ER w F ρ z t x):x.oneCell'=X:=by
 by_cases l:∃es,t=.xn es
 .obtain⟨es,rfl⟩:=l;exact oI h
 by_cases m:∃n es,t=.xl n es
 .obtain⟨n,es,rfl⟩:=m;simp[ER,KD]at h;obtain⟨xs,⟨r,p,_⟩,_⟩:=h;rcases p.2 with⟨rfl,_⟩|⟨g,cap,q,e,rfl,_⟩<;>rfl
 .refine Vr (w:=w) (F:=F) (z:=z) (t:=t) ?_;cases t<;>first|exact h|exact absurd ⟨_,_,rfl⟩ m|exact absurd ⟨_,rfl⟩ l
theorem HK{F:Nat->Nat->Prop}{x:Value}(h:BF w F ρ z c x):x.oneCell'=X:=by
 obtain ⟨_|_,t⟩:=c
 .exact h.2
 .exact PK h
variable{x:Operand}{y:AF}
theorem Rc(C:AP F0 w0 ε a w G)(D:AK x y=X){cs:Fq}(g:A7 ε (y.ev ε)=Y cs):
  ∃b o vs,a.eval x=.pointer (Y ⟨b,o,W⟩)/\AR w (AU w0.heap.size F0 G) cs vs/\TV.ns cs/\(∀x∈vs,x.oneCell'=X)/\∀(j:Nat)(v:Value),vs[j]?=Y v->w.cell? ((⟨b,o,W⟩:Addr).add j)=Y v:=by
 have box:∀(s h:Nat)(ds:List AO),ε.get s=.bx ds->∃b vs,slot a s=.pointer (Y ⟨b,0,W⟩)/\AR w (AU w0.heap.size F0 G) ((ds.drop h).map (·.t)) vs/\TV.ns ((ds.drop h).map (·.t))/\(∀x∈vs,x.oneCell'=X)/\∀(j:Nat)(v:Value),vs[j]?=Y v->w.cell? ((⟨b,h,W⟩:Addr).add j)=Y v:=by
  intro s h ds M;have p:=Ag C M V;have I:=C.wf s;rw[M]at I;simp only[AM]at p;obtain⟨b,c,θ,r,u,E,B,A⟩:=p;refine⟨b,c.toList.drop h,r,?_,?_,?_,?_⟩
  .rw[Bh];refine⟨by simp[E],λi t v H hv=>?_⟩;simp[List.getElem?_map,x_]at H hv;obtain⟨cell,l,rfl⟩:=H;obtain⟨x,N,p⟩:=A (h+i) cell l;have:x=v:=by
    grind
   subst this;exact WY C p
  .rw[Bp];intro t H;simp only[List.mem_map]at H;obtain⟨cell,l,rfl⟩:=H;exact I cell (x! l)
  .intro x N;obtain⟨i,hi,rfl⟩:=List.getElem_of_mem N;rw[List.getElem_drop];have Q:h+i<c.size:=by simp at hi;omega
   have R:ds[h+i]?=Y (ds[h+i]' U):=w! U
   grind [Array.getElem?_eq_getElem,HK]
  .intro j v hv;rw[x_]at hv;rw[Addr.add_lit,cell_of_row w b (h+j) c θ (0,0) u];simpa using hv
 cases y with
 |c t=>
  simp [AF.ev]at g;cases t<;>simp[A7]at g;subst g;have:=Ay C D (t:=.pt _) rfl;simp[Aq,TV.WF]at this;obtain⟨⟨b,o,r,u⟩,E⟩:=this;obtain⟨vs,B,J,A⟩:=Th u;exact⟨b,o,vs,r,B,E,J,A⟩
 |s n=>
  cases x<;>simp[AK]at D;subst D;rename_i n;simp[AF.ev]at g;cases he:ε.get n with
  |tv t=>
   rw [he]at g;cases t<;>simp[A7]at g;subst g;have p:=Ag C he V;have I:=C.wf n;rw[he]at I;simp[AM,Aq]at p;obtain⟨b,o,r,u⟩:=p;obtain⟨vs,B,J,A⟩:=Th u;exact⟨b,o,vs,r,B,by simpa[EV.WF,TV.WF]using I,J,A⟩
  |bx ds=>
   rw [he]at g;simp[A7]at g;subst g;obtain⟨b,vs,r,u,E,L,B⟩:=box n 0 ds he;exact⟨b,0,vs,r,e_,by simpa using E,L,B⟩
  |bp q h=>
   rw [he]at g;simp only[A7]at g;split at g
   next ds O=>simp only[nm]at g;subst g;obtain⟨b,vs,r,u,E,L,B⟩:=box q h ds O;have p:=Ag C he V;simp only[AM]at p;obtain⟨κ,A,J⟩:=p ⟨ds,O⟩;rw[r]at A;simp at A;subst A;exact⟨b,h,vs,J,u,E,L,B⟩
   .cases g
  |undef=>rw[he]at g;simp[A7]at g|sk=>rw[he]at g;simp[A7]at g|xo n es=>rw[he]at g;simp[A7]at g|la q i=>rw[he]at g;simp[A7]at g|oag cs=>rw[he]at g;simp[A7]at g|xn es=>rw[he]at g;simp[A7]at g|x1 n η=>rw[he]at g;simp[A7]at g|mx m=>rw[he]at g;simp[A7]at g|nh q i k=>rw[he]at g;simp[A7]at g|lp q i c=>rw[he]at g;simp[A7]at g|ow t=>rw[he]at g;simp[A7]at g|tp ts=>rw[he]at g;simp[A7]at g
variable{t:TypeId}
theorem tI(p:AP F0 w0 ε a w G)(hd:d<a.tmps.size)(g:o.op=.load t x)(l:AK x y=X)(B:B9 P t=Y T)(h:(AE.ld y).wp S ε (Y d) K):A1 P F0 w0 a w o d K:=by
 simp [AE.wp]at h;cases m:A7 ε (y.ev ε)with
 |none=>rw[m]at h;exact h.elim|some cs=>
  rw [m]at h;simp[Ai]at h;obtain⟨b,C,vs,D,A,E,_,H⟩:=Rc p l m;cases cs with
  |nil=>simp[FW]at h|cons u r=>
   simp [FW]at h;replace h:=h.2;simp[AR]at A;obtain⟨v,J,rfl,I,L⟩:=A;have q:=H 0 v rfl;rw[Addr.add_zero']at q;refine Cp p hd (v:=v) ?_ I E.1 h;simp[execOp,g,D,Instr.loadAt,Instr.sureAddr,loadVar,Cs B,q]
variable{n:Nat}
theorem XE(r:AP F0 w0 ε a w G)(hd:d<a.tmps.size)(l:o.op=.load t x)(m:AK x y=X)(u:B9 P t=Y X)(A:C7 P t=Y n)(h:(AE.lda y n).wp S ε (Y d) K):A1 P F0 w0 a w o d K:=by
 simp [AE.wp]at h;cases p:A7 ε (y.ev ε)with
 |none=>rw[p]at h;exact h.elim|some cs=>
  rw [p]at h;simp[Ai]at h;obtain⟨b,q,vs,B,C,I,D,E⟩:=Rc r m p;have H:=BL C;have g:=run_loadCells_list (P:=P) w ⟨b,q,W⟩ (vs.take n) (λj v hv=>E j v (by rw[x?]at hv;split at hv<;>simp_all));rw[aN,Nat.min_eq_left U]at g;refine Cp r hd (v:=.agg (vs.take n).toArray) (t:=.agg (cs.take n)) ?_ ?_ ?_ h.2
  .simp[execOp,l,B,Instr.loadAt,Instr.sureAddr,loadVar,Cs u,CG A,g]
  .grind[Aq,y_,y!,Bh]
  grind [TV.WF,Bp,y!]
variable{i:Operand}{j:AF}
theorem pT(l:AP F0 w0 ε a w G)(hd:d<a.tmps.size)(q:o.op=.indexAddr t x i)(r:AK x y=X)(g:AK i j=X)(A:I3 P t=Y n)(h:(AE.iad y j n).wp S ε (Y d) K):A1 P F0 w0 a w o d K:=by
 simp [AE.wp]at h;split at h
 .rename_i m es k L B C;obtain⟨rfl,E,e,he,H⟩:=h;have D:=Ay l r B;have u:=Ay l g C;simp[Aq]at u;obtain⟨p,I,J⟩:=jc (P:=P) (k:=k) A D.1 E he;refine Cp l hd (v:=p) (by simp[execOp,q,u.1,I]) J ?_ H
  grind [TV.WF,Bp,w?,IV]
 .exact h.elim
theorem mq(l:AP F0 w0 ε a w G)(hd:d<a.tmps.size)(m:o.op=.index t x i)(p:AK x y=X)(g:AK i j=X)(u:P.underlying t=Y .string)(h:(AE.Aas y j).wp S ε (Y d) K):A1 P F0 w0 a w o d K:=by
 simp [AE.wp]at h;split at h
 .rename_i s k H A B;obtain⟨C,b,D,E⟩:=h;have q:=Ay l p A;have r:=Ay l g B;simp[Aq]at q r;refine Cp l hd (v:=.int .u8 b.toNat) (t:=.int .u8 b.toNat) ?_ rfl ⟨by simp[IntKind.min,IntKind.signed],?_⟩ E
  .simp[execOp,m,q.1,r.1,Instr.index,asIntOf,run_underlying u,C,D]
  .have:=b.toNat_lt;simp[IntKind.max,IntKind.signed,IntKind.bits];omega
 .exact h.elim
theorem Yj{f k:Nat}(l:o.op=.fieldAddr t x f)(m:P1 P t f=Y k):∀b g,a.eval x=.pointer (Y ⟨b,g,W⟩)->(execOp a.eval o).run P w=.ok (.value (.pointer (Y ⟨b,g+k,W⟩))) w:=by
 intro b g h;simp[execOp,l,h,U1 m]
theorem Qz(g:o.op=.move x\/o.op=.assign x\/o.op=.nilCheck x):∀b l,a.eval x=.pointer (Y ⟨b,l,W⟩)->(execOp a.eval o).run P w=.ok (.value (.pointer (Y ⟨b,l+0,W⟩))) w:=by
 intro b l h;rcases g with g|g|g<;>simp[execOp,g,h]
variable{k:Nat}
theorem RW(p:AP F0 w0 ε a w G)(hd:d<a.tmps.size)(l:∀b g,a.eval x=.pointer (Y ⟨b,g,W⟩)->(execOp a.eval o).run P w=.ok (.value (.pointer (Y ⟨b,g+k,W⟩))) w)(m:AK x y=X)(h:(AE.fad y k).wp S ε (Y d) K):A1 P F0 w0 a w o d K:=by
 simp [AE.wp]at h;split at h
 .rename_i row he;have u:=YA p m he;simp[Aq,TV.WF]at u;obtain⟨⟨b,g,C,D⟩,H⟩:=u;refine Cp p hd (v:=.pointer (Y ⟨b,g+k,W⟩)) (t:=.pt (row.drop k)) (l _ _ C) ?_ ?_ h
  .simp only[Aq];exact⟨b,_,rfl,Pp D k⟩
  grind [TV.WF,Bp,x!]
 .rename_i q g he;cases y with
  |c t=>simp[AF.ev]at he|s n=>
   cases x<;>simp[AK]at m;subst m;rename_i n;simp[AF.ev]at he;have A:=Ag p he V;simp only[AM]at A;split at h
   .rename_i r B;obtain⟨b,I,E⟩:=A ⟨r,B⟩;refine⟨.pointer (Y ⟨b,g+k,W⟩),w,l _ _ E,_,_,h,_,p.quiet (Below.refl _ _) d hd (.bp q (g+k)) _ (λ_=>W) V V V ?_ trivial⟩
    grind [AM,AB.bn,AY]
   .exact h.elim
 .exact h.elim
theorem RU(m:AP F0 w0 ε a w G)(hd:d<a.tmps.size)(l:∀b g,a.eval (.tmp s)=.pointer (Y ⟨b,g,W⟩)->(execOp a.eval o).run P w=.ok (.value (.pointer (Y ⟨b,g+k,W⟩))) w)(h:(AE.bad s k).wp S ε (Y d) K):A1 P F0 w0 a w o d K:=by
 simp [AE.wp]at h;split at h
 .rename_i cs he;have q:=Ag m he V;simp only[AM]at q;obtain⟨b,c,θ,p,_⟩:=q;refine⟨.pointer (Y ⟨b,0+k,W⟩),w,l _ _ p,_,_,h,_,m.quiet (Below.refl _ _) d hd (.bp s k) _ (λ_=>W) V V V ?_ trivial⟩
  grind [AM,AB.bn,AY]
 .rename_i row he;have p:=YA m (x:=.tmp s) (y:=.s s) r! he;simp[Aq,TV.WF]at p;obtain⟨⟨b,g,r,u⟩,A⟩:=p;refine Cp m hd (v:=.pointer (Y ⟨b,g+k,W⟩)) (t:=.pt (row.drop k)) (l _ _ r) ?_ ?_ h
  .simp only[Aq];exact⟨b,_,rfl,Pp u k⟩
  grind [TV.WF,Bp,x!]
 .exact h.elim
variable{e:TypeId}
theorem pH(p:AP F0 w0 ε a w G)(hd:d<a.tmps.size)(q:o.op=.indexAddr t x i)(r:AK x y=X)(l:AK i j=X)(u:P.underlying t=Y (.array k e))(D:C7 P e=Y n)
  (h:(AE.aad y j n k).wp S ε (Y d) K):A1 P F0 w0 a w o d K:=by
 simp [AE.wp]at h;split at h
 .rename_i row O m E A;obtain⟨I,J,Q,L⟩:=h;have B:=(Ay p l A).1;simp[Aq]at B;have H:∃b g,a.eval x=.pointer (Y ⟨b,g,W⟩)/\DR w (AU w0.heap.size F0 G) row b g/\TV.ns row:=by
   have:=YA p r E
   grind [Aq,TV.WF]
  obtain ⟨b,g,M,N,C⟩:=H;have A:0<=m/\m<(k:Int):=⟨I,J⟩;refine Cp p hd (v:=.pointer (Y ⟨b,g+m.toNat*n,W⟩)) (t:=.pt (row.drop (m.toNat*n))) ?_ ?_ ?_ L
  .simp[execOp,q,B,M,Instr.indexAt,asIntOf,run_underlying u,A,Instr.sureAddr,CG D,Addr.add_lit]
  .simp only[Aq];exact⟨b,_,rfl,Pp N _⟩
  .simp[TV.WF];rw[Bp]at C|-;exact λt u=>C t (x! u)
 .exact h.elim
def jA(P:Program)(t:TypeId)(j:Operand)(k:Nat):Bool:=
 match j,P.underlying t with
 |.const (.int _ i),Y (.array m e)=>decide (0<=i)&&decide (i<(m:Int))&&(match C7 P e with
  |some n=>i.toNat*n==k|none=>T)
 |_,_=>T
theorem rK{P:Program}{o:Oper}{a:Act}{w:World}{j:Operand}(q:o.op=.indexAddr t (.tmp s) j)(g:jA P t j k=X)(b l:Nat)(h:a.eval (.tmp s)=.pointer (Y ⟨b,l,W⟩)):(execOp a.eval o).run P w=.ok (.value (.pointer (Y ⟨b,l+k,W⟩))) w:=by
 unfold jA at g;split at g
 .rename_i r i m e u;simp[pE]at g;obtain⟨⟨D,E⟩,p⟩:=g;split at p
  next n A=>simp at p;subst p;have B:0<=i/\i<(m:Int):=⟨D,E⟩;have C:a.eval (.const (.int r i))=.int r i:=rfl;simp[execOp,q,h,C,Instr.indexAt,asIntOf,run_underlying u,B,Instr.sureAddr,CG A,Addr.add_lit]
  .cases p
 .cases g
def UU(g:TypeId->Option I2)(P:Program):List Field->Nat->Option I2
 |[],_=>Y []|f::fs,off=>match g f.type with
  |some ks=>if(f.name≠ "_" /\f.offset=off)/\C7 P f.type=Y ks.length then(match UU g P fs (off+ks.length)with|some r=>Y (ks ++ r)|none=>W)else W
  |none=>W
def Qh(P:Program):Nat->TypeId->Option I2
 |0,_=>W|k+1,t=>match P.underlying t with
  |some (.int _)=>Y [0]|some .string=>Y [1]|some .bool=>Y [2]|some (.struct fs)=>if P.stoodInHeld t then W else UU (Qh P k) P fs.toList 0|_=>W
def OW(P:Program):BK->TypeId->Bool
 |.i,_=>X|.s,_=>X|.w,_=>X|.b,t=>match P.underlying t with|some .bool=>X|_=>T
 |.a n,t=>B9 P t==Y X&&!P.eqGuardType P.depth t&&Qh P 8 t==Y n
def TV.wl:TV->Value
 |.int k n=>.int k n|.str s=>.string s|.bool b=>.bool b|_=>Go.undef
def TV.x5:TV->Bool
 |.int _ _=>X|.str _=>X|.bool _=>X|_=>T
theorem SH:∀{cs ds:Fq}{r:Bool},CJ cs ds=Y r->cs.length=ds.length/\(∀t∈cs,t.x5=X)/\(∀t∈ds,t.x5=X)
 |[],[],_,_=>by simp|[],_::_,_,h=>by simp[CJ]at h|c::cs,[],_,h=>by cases c<;>simp[CJ]at h
 |c::cs,d::ds,r,h=>by
  have key:∀l,CJ cs ds=Y l->c.x5=X->d.x5=X->(c::cs).length=(d::ds).length/\(∀t∈c::cs,t.x5=X)/\(∀t∈d::ds,t.x5=X):=by
   intro l g m p;obtain⟨u,A,B⟩:=SH g
   grind
  cases c<;>cases d<;>simp only[CJ,reduceCtorEq]at h
  .split at h
   .split at h
    next q g=>exact key q g rfl rfl
    .cases h
   .cases h
  .split at h
   next q g=>exact key q g rfl rfl
   .cases h
  .split at h
   next q g=>exact key q g rfl rfl
   .cases h
variable{v:Value}
theorem ov{F:Nat->Nat->Prop}{t:TV}(g:t.x5=X)(h:Aq w F t v):v=t.wl:=by
 cases t<;>simp[TV.x5]at g<;>exact h
theorem SO{F:Nat->Nat->Prop}:∀{cs:Fq}{xs:List Value},(∀t∈cs,t.x5=X)->AR w F cs xs->xs=cs.map TV.wl
 |[],_,_,h=>h|c::cs,xs,g,h=>by
  simp [AR]at h;obtain⟨v,r,rfl,m,p⟩:=h;rw[ov (g c V) m,SO (λt l=>g t (by simp[l])) p];rfl
theorem OJ:∀(m:Nat){cs ds:Fq}{r:Bool},CJ cs ds=Y r->∃g l,CJ (cs.take m) (ds.take m)=Y g/\CJ (cs.drop m) (ds.drop m)=Y l/\r=(g&&l)
 |0,cs,ds,r,h=>⟨X,r,by simp[CJ],c_,V⟩|m+1,[],[],r,h=>by
  grind
 |m+1,[],_::_,_,h=>by simp[CJ]at h|m+1,c::cs,[],_,h=>by cases c<;>simp[CJ]at h
 |m+1,c::cs,d::ds,r,h=>by
  cases c<;>cases d<;>simp only[CJ,reduceCtorEq]at h
  .split at h
   .rename_i C;split at h
    .rename_i q p;obtain⟨g,l,u,A,B⟩:=OJ m p
     grind [nm,CJ,A_]
    .cases h
   .cases h
  .split at h
   .rename_i q p;obtain⟨g,l,u,A,B⟩:=OJ m p
    grind [nm,CJ,A_]
   .cases h
  .split at h
   .rename_i q p;obtain⟨g,l,u,A,B⟩:=OJ m p
    grind [nm,CJ,A_]
   .cases h
def NX(P:Program)(t:TypeId)(vs:List Value):Value:=if B9 P t=Y X then .agg vs.toArray else vs.headD Go.undef
theorem Rj:∀{cs ds:Fq}{r:Bool},CJ cs ds=Y r->ds.map TV.kd=cs.map TV.kd
 |[],[],_,_=>rfl|[],_::_,_,h=>by simp[CJ]at h|c::cs,[],_,h=>by cases c<;>simp[CJ]at h
 |c::cs,d::ds,r,h=>by
  cases c<;>cases d<;>simp only[CJ,reduceCtorEq]at h
  .split at h
   .split at h
    next q g=>simp[Rj g,TV.kd]
    .cases h
   .cases h
  .split at h
   next q g=>simp[Rj g,TV.kd]
   .cases h
  .split at h
   next q g=>simp[Rj g,TV.kd]
   .cases h
theorem ZI(k:Nat)(Q:∀(t:TypeId)(n:I2),Qh P k t=Y n->∀d,k<=d->∀(cs ds:Fq)(r:Bool),cs.map TV.kd=n->CJ cs ds=Y r->(Op.equalIn d t (NX P t (cs.map TV.wl)) (NX P t (ds.map TV.wl))).run P w=.ok r w):
  ∀(E:List Field)(m:Nat)(n:I2),UU (Qh P k) P E m=Y n->∀d,k<=d->∀(pre l:List Value)(cs ds:Fq)(r:Bool),pre.length=m->l.length=m->cs.map TV.kd=n->CJ cs ds=Y r ->
   (Op.eqFields d (pre++cs.map TV.wl).toArray (l++ds.map TV.wl).toArray E).run P w=.ok r w
 |[],m,n,hf,d,hd,pre,l,cs,ds,r,η,ζ,D,h=>by
  simp [UU]at hf;subst hf;have:cs=[]:=List.map_eq_nil_iff.1 D;subst this;cases ds<;>simp[CJ]at h;subst h;simp[Op.eqFields]
 |f::E,m,n,hf,d,hd,pre,l,cs,ds,r,η,ζ,D,h=>by
  simp [UU]at hf;split at hf
  .rename_i g q;split at hf
   .rename_i δ;split at hf
    .rename_i rest C;simp at hf;subst hf;obtain⟨⟨hn,ho⟩,N⟩:=δ;have Z:cs.length=g.length+rest.length:=by
      have:=congrArg List.length D;simpa using this
     obtain ⟨κ,r2,e1,e2,rfl⟩:=OJ g.length h;have θ:=(SH h).1;have hdl:ds.length=g.length+rest.length:=U
     have L:(cs.take g.length).map TV.kd=g:=by rw[y?,D,List.take_left'];rfl
     have M:(cs.drop g.length).map TV.kd=rest:=by rw[List.map_drop,D,List.drop_left'];rfl
     have hi:=Q f.type g q d hd (cs.take g.length) (ds.take g.length) κ L e1;have B:=ZI k Q E (m+g.length) rest C d hd (pre++(cs.take g.length).map TV.wl) (l++(ds.take g.length).map TV.wl) (cs.drop g.length) (ds.drop g.length) r2 an an M e2;have u:∀(pre:List Value)(cs:Fq),pre++(cs.take g.length).map TV.wl++(cs.drop g.length).map TV.wl=pre++cs.map TV.wl:=by
      intro pre cs;rw[ae,<-List.map_append,List.take_append_drop]
     rw [u,u]at B;have A:∀(pre:List Value)(cs:Fq),pre.length=m->g.length<=cs.length->(0<g.length\/B9 P f.type=Y X)->(∃b,B9 P f.type=Y b)->(part f.type (pre++cs.map TV.wl).toArray f.offset).run P w=.ok (NX P f.type ((cs.take g.length).map TV.wl)) w:=by
      intro pre cs R I J p;obtain⟨b,p⟩:=p;cases b with
      |true=>
       simp only[part,Sem.run_bind,Cs p,Result.andThen_ok,if_true,CG N,Sem.run_pure,NX,p];congr 2;rw[List.extract_toArray,List.extract_eq_take_drop,ho,<-R,List.drop_left,Nat.add_sub_cancel_left,<-y?]
      |false=>
       have h0:0<g.length:=by
        rcases J with h|h
        .exact h
        .rw[p]at h;cases h
       cases cs with
       |nil=>exact absurd (Nat.lt_of_lt_of_le h0 I) V|cons c cs=>
        obtain ⟨m',O⟩:∃m',g.length=m'+1:=⟨g.length-1,U⟩;have:((pre++(c::cs).map TV.wl).toArray)[f.offset]?=Y c.wl:=by
         rw [List.getElem?_toArray,ho,<-R,List.getElem?_append_right (R0 _),Nat.sub_self];rfl
        simp only[part,Sem.run_bind,Cs p,Result.andThen_ok,Bool.false_eq_true,if_false,this,Sem.run_pure,NX,p,O];simp
     have p:(∃b,B9 P f.type=Y b)/\(0<g.length\/B9 P f.type=Y X):=by
      cases k with
      |zero=>simp[Qh]at q|succ k=>
       simp [Qh]at q;unfold B9;split at q<;>rename_i H
       .simp at q;subst q;rw[H];exact⟨⟨_,rfl⟩,.inl V⟩
       .simp at q;subst q;rw[H];exact⟨⟨_,rfl⟩,.inl V⟩
       .simp at q;subst q;rw[H];exact⟨⟨_,rfl⟩,.inl V⟩
       .rw[H];exact⟨⟨_,rfl⟩,.inr rfl⟩
       .cases q
     have p1:=A pre cs η U p.2 p.1;have p2:=A l ds ζ U p.2 p.1;simp only[Op.eqFields,Sem.run_bind,Sem.run_ite,Ne hn,p1,p2,hi,Result.andThen_ok];cases κ with
     |true=>simpa using B|false=>simp
    .cases hf
   .cases hf
  .cases hf
theorem kH(a b:ByteArray):(a.toList==b.toList)=decide (a=b):=by
 rw [A',beq_iff_eq,pE];refine⟨λh=>?_,λh=>by rw[h]⟩;rw[ByteArray.toList_eq,ByteArray.toList_eq]at h;cases a;cases b;simpa using h
theorem fP:∀(k:Nat)(t:TypeId)(n:I2),Qh P k t=Y n->∀d,k<=d->∀(cs ds:Fq)(r:Bool),cs.map TV.kd=n->CJ cs ds=Y r->(Op.equalIn d t (NX P t (cs.map TV.wl)) (NX P t (ds.map TV.wl))).run P w=.ok r w
 |0,_,_,h,_,_,_,_,_,_,_=>by simp[Qh]at h|k+1,t,n,hf,d,hd,cs,ds,r,E,h=>by
  obtain ⟨d,rfl⟩:∃I,d=I+1:=⟨d-1,U⟩;have C:=Rj h;simp[Qh]at hf;have one:∀x,n=[x]->B9 P t=Y T->∃c e,cs=[c]/\ds=[e]/\c.kd=x/\e.kd=x/\NX P t (cs.map TV.wl)=c.wl/\NX P t (ds.map TV.wl)=e.wl:=by
   intro x J N;rw[J]at E
   match cs,ds,E,C with
   |[c],[e],A,B=>
    grind [List.cons.injEq,NX]
   |[],_,A,_=>simp at A|[c],[],_,B=>simp at B|[c],_::_::_,_,B=>simp at B|_::_::_,_,A,_=>simp at A
  split at hf<;>rename_i g
  .simp at hf;obtain⟨c,e,rfl,rfl,m,p,q,u⟩:=one 0 hf.symm (by simp[B9,g]);rw[q,u];cases c<;>first|(simp[TV.kd]at m;done)|skip
   cases e<;>first|(simp[TV.kd]at p;done)|skip
   simp only[CJ]at h;split at h
   next L=>subst L;simp at h;simp[TV.wl];rw[run_equalIn_int (P:=P) w d t _ _ _ _ g,<-h];congr 1
   .cases h
  .simp at hf;obtain⟨c,e,rfl,rfl,m,p,q,u⟩:=one 1 hf.symm (by simp[B9,g]);rw[q,u];cases c<;>first|(simp[TV.kd]at m;done)|skip
   cases e<;>first|(simp[TV.kd]at p;done)|skip
   simp [CJ]at h;simp[TV.wl];rw[run_equalIn_string (P:=P) w d t _ _ g,<-h]
   grind [kH]
  .simp at hf;obtain⟨c,e,rfl,rfl,m,p,q,u⟩:=one 2 hf.symm (by simp[B9,g]);rw[q,u];cases c<;>first|(simp[TV.kd]at m;done)|skip
   cases e<;>first|(simp[TV.kd]at p;done)|skip
   simp [CJ]at h;simp[TV.wl];rw[run_equalIn_bool' (P:=P) w d t _ _ g,<-h];congr 1
  .split at hf
   .cases hf
   .rename_i H M;have D:B9 P t=Y X:=by simp[B9,g]
    have l:P.fieldsOf t=H:=by simp[Program.fieldsOf,g]
    simp [NX,D];rw[run_equalIn_struct w d t _ _ (by rw[l];exact g) (by simpa using M),l];exact ZI k (fP k) H.toList 0 n hf d U [] [] cs ds r rfl rfl E h
  .cases hf
variable{vx vy:Value}
theorem W8{op:BinOp}{x y:Operand}{cs ds:Fq}{q:Bool}{n:I2}(D:cs.map TV.kd=n){F:Nat->Nat->Prop}(u:OW P (.a n) t=X)(g:Aq w F (.agg cs) vx)(h:Aq w F (.agg ds) vy)(A:CJ cs ds=Y q):
  ∃xs ys,vx=.agg xs/\vy=.agg ys/\(eqGuard op t x y (.agg xs) (.agg ys)).run P w=.ok () w/\(Op.equalIn 10000 t (.agg xs) (.agg ys)).run P w=.ok q w:=by
 simp [Aq]at g h;obtain⟨xs,rfl,g,_⟩:=g;obtain⟨ys,rfl,h,_⟩:=h;simp only[OW,gN,Bool.not_eq_true']at u;obtain⟨⟨B,E⟩,C⟩:=u;obtain⟨H,p,r⟩:=SH A;refine⟨xs,ys,rfl,rfl,run_eqGuard_agg w op t x y xs ys E,?_⟩;simp at B C;have l:=SO p g;have m:=SO r h;have:=fP (P:=P) (w:=w) 8 t n C 10000 U cs ds q D A;simp[NX,B,<-l,<-m]at this;simpa using this
theorem tB{op:BinOp}{x y:Operand}{k m:IntKind}{a b r:Int}{F:Nat->Nat->Prop}(p:k=m\/op=.shl\/op=.shr)(l:Mv k op a b=Y r):
  ∃v,(do eqGuard op t x y (.int k a) (.int m b);binOp op t (.int k a) (.int m b):Sem Value).run P w=.ok v w/\Aq w F (.int k r) v/\(TV.int k r).WF:=by
 have g:∀(op:BinOp)(q:Value),k=m->(op=.and\/op=.or\/op=.xor\/op=.andNot)->(Op.intBits op k a b).run P w=.ok q w->(do eqGuard op t x y (.int k a) (.int m b);binOp op t (.int k a) (.int m b):Sem Value).run P w=.ok q w:=by
  intro op q e ho h;subst e;rcases ho with rfl|rfl|rfl|rfl<;>simpa[eqGuard,binOp]using h
 cases op<;>simp only[Mv]at l<;>try(cases l;done)
 case and=>cases l;exact⟨_,g _ _ v5 V rfl,rfl,Mk _ _⟩
 case or=>cases l;exact⟨_,g _ _ v5 V rfl,rfl,Mk _ _⟩
 case xor=>cases l;exact⟨_,g _ _ v5 V rfl,rfl,Mk _ _⟩
 case andNot=>cases l;exact⟨_,g _ _ v5 V rfl,rfl,Mk _ _⟩
 case shl=>
  split at l
  next u=>cases l;exact⟨_,by simp[eqGuard,binOp,Op.shift,Int.not_lt.2 u],rfl,Mk _ _⟩
  .cases l
 case shr=>
  split at l
  next u=>cases l;exact⟨_,by simp[eqGuard,binOp,Op.shift,Int.not_lt.2 u.1],rfl,u.2⟩
  .cases l
theorem tA{k:BK}{op:BinOp}{x y:Operand}{E ty r:TV}{F:Nat->Nat->Prop}(N:OW P k t=X)(g:ME k op E ty=Y r)(l:Aq w F E vx)(m:Aq w F ty vy)(H:E.WF)(O:ty.WF):
  ∃v,(do eqGuard op t x y vx vy;binOp op t vx vy:Sem Value).run P w=.ok v w/\Aq w F r v/\r.WF:=by
 unfold ME at g;split at g
 .rename_i k a Q b;simp[Aq]at l m;subst l;subst m;split at g
  .rename_i p;subst p;rw[Sem.run_bind,eqGuard_at_int,Sem.run_pure,Result.andThen_ok];have B:op=.quo\/op=.rem\/(op≠.quo/\op≠.rem):=by cases op<;>simp
   rcases B with rfl|rfl|⟨u,κ⟩
   .by_cases A:b=0
    .simp[intCmp,intArith,A]at g
    .simp[intCmp,intArith,A]at g;subst g;exact⟨_,by simp[binOp,Op.intDiv,A],rfl,Mk _ _⟩
   .by_cases A:b=0
    .simp[intCmp,intArith,A]at g
    .simp[intCmp,intArith,A]at g;subst g;refine⟨_,by simp[binOp,Op.intDiv,A],rfl,?_⟩;simp[TV.WF]at H|-;have C:a.tmod b<=max a 0/\min a 0<=a.tmod b:=by
      have D:=Int.natAbs_tmod a b;have ζ:=Nat.mod_le a.natAbs b.natAbs;rcases Int.le_total 0 a with h|h
      .grind[Int.tmod_nonneg]
      .have δ:=Int.tmod_nonneg (a:=-a) b U
       grind [Int.neg_tmod]
     have Z:k.min<=0:=by cases k<;>decide
     have h5:0<=k.max:=by cases k<;>decide
     omega
   .cases op<;>simp[intCmp,intArith]at g u κ<;>subst g<;>(refine⟨_,?_,rfl,?_⟩)<;>first|(simp[binOp,Op.intCmp,Op.intArith];done)|exact trivial|exact Mk _ _|skip
    all_goals (simp[binOp,Op.intCmp];rw[A'];simp)
  .cases g
 .rename_i op k a Q b;simp[Aq]at l m;subst l;subst m;split at g
  .rename_i p;split at g
   next η u=>simp at g;subst g;exact tB p u
   .cases g
  .cases g
 .simp[Aq]at l m;subst l;subst m;simp at g;subst g;exact⟨_,by simp[eqGuard,binOp,Op.stringOp,beq_toListBytes],rfl,trivial⟩
 .simp[Aq]at l m;subst l;subst m;simp at g;subst g;exact⟨_,by simp[eqGuard,binOp,Op.stringOp,beq_toListBytes],rfl,trivial⟩
 .simp[Aq]at l m;subst l;subst m;rename_i R θ;split at g
  .rename_i I;simp at g;subst g;have L:¬(((R.size+θ.size:Nat):Int)>IntKind.i64.max):=by
    have hm:IntKind.i64.max=9223372036854775807:=a_
    grind [AX]
   refine ⟨_,by simp only[eqGuard,binOp,Op.stringOp];rw[QQ L];simp,rfl,by simp[TV.WF];exact Uj I⟩
  .cases g
 .simp[Aq]at l m;subst l;subst m;simp at g;subst g;have M:P.underlying t=Y .bool:=by
   grind [OW]
  exact ⟨_,by simp[eqGuard_at_bool,binOp,Op.equal,Op.maxDepth,run_equalIn_bool' (P:=P) w _ t _ _ M],rfl,trivial⟩
 .simp[Aq]at l m;subst l;subst m;simp at g;subst g;have M:P.underlying t=Y .bool:=by
   grind [OW]
  exact ⟨_,by simp[eqGuard_at_bool,binOp,Op.equal,Op.maxDepth,run_equalIn_bool' (P:=P) w _ t _ _ M],rfl,trivial⟩
 .rename_i cs ds;split at g
  .rename_i J;split at g
   next q u=>simp at g;subst g;obtain⟨xs,ys,rfl,rfl,C,D⟩:=W8 (op:=.eql) (x:=x) (y:=y) J N l m u;exact⟨_,by simp[C,run_eql_struct,D],rfl,trivial⟩
   .cases g
  .cases g
 .rename_i cs ds;split at g
  .rename_i J;split at g
   next q u=>simp at g;subst g;obtain⟨xs,ys,rfl,rfl,C,D⟩:=W8 (op:=.neq) (x:=x) (y:=y) J N l m u;exact⟨_,by simp[C,run_neq_struct,D],rfl,trivial⟩
   .cases g
  .cases g
 .cases g
variable{y':AF}
theorem pK{S:FuncId->Fq->As->Prop}{F0:Nat->Nat->Prop}{w0:W0}{ε:AB}{a:Act}{G:BR}{d:Nat}{o:Oper}{K:EV->AB->Prop}(g:AP F0 w0 ε a w G)(hd:d<a.tmps.size){x x':Operand}{k:BK}{op:BinOp}{t A:TypeId}
  (l:o.op=.binOp op t x x' A)(B:OW P k t=X)(C:AK x y=X)(D:AK x' y'=X)(h:(AE.bin k op y y').wp S ε (Y d) K):A1 P F0 w0 a w o d K:=by
 simp [AE.wp]at h;split at h
 .rename_i E ty H I;cases m:ME k op E ty with
  |none=>rw[m]at h;exact h.elim|some r=>
   rw [m]at h;have p:=Ay g C H;have q:=Ay g D I;obtain⟨v,u,J,L⟩:=tA (x:=x) (y:=x') B m p.1 q.1 p.2 q.2;refine Cp g hd (v:=v) ?_ J L h;simp only[execOp,l,Sem.run_bind]at u|-;rw[u];rfl
 .exact h.elim
end
end Go.Sf
namespace Go.Sf
open Go.RowKit (Below)
def OY:Option Operand->Option AF->Bool
 |none,W=>X|some x,Y y=>AK x y|_,_=>T
section
variable{P:Program}{S:FuncId->Fq->As->Prop}{F0:Nat->Nat->Prop}{w0:W0}{ε:AB}{a:Act}{w:World}{G:BR}{d:Nat}{o:Oper}{K:EV->AB->Prop}
theorem Vd(h:AP F0 w0 ε a w G){x:Option Operand}{y:Option AF}(g:OY x y=X){k:IntKind}{q l:Int}(hv:Hf ε q y=Y (.int k l)):
  (x=W/\l=q)\/∃v m,x=Y v/\a.eval v=.int m l:=by
 cases y with
 |none=>
  cases x<;>simp[OY]at g;simp[Hf]at hv;exact .inl ⟨rfl,hv.2.symm⟩
 |some y=>
  cases x<;>simp[OY]at g;rename_i v;have:=(Ay h g (t:=.int k l) hv).1;simp[Aq]at this;exact .inr ⟨v,k,rfl,this⟩
theorem Ti{isS:Bool}{len cap:Nat}{lo hi:Option Value}{l h:Int}(q:0<=l)(r:l<=h)(u:h<=len)(A:len<=cap)
  (g:(lo=W/\l=0)\/∃k,lo=Y (.int k l))(m:(hi=W/\h=len)\/∃k,hi=Y (.int k h)):
  (Instr.sliceBounds isS len cap lo hi W).run P w=.ok (l.toNat,h.toNat,cap) w:=by
 rcases g with⟨rfl,rfl⟩|⟨k,rfl⟩<;>rcases m with⟨rfl,rfl⟩|⟨p,rfl⟩
 .simp[Instr.sliceBounds]
 .simp[Instr.sliceBounds,run_sliceBound (P:=P) w p h cap _ U U]
 .simp[Instr.sliceBounds,run_sliceBound (P:=P) w k l len _ U U]
 .simp[Instr.sliceBounds,run_sliceBound (P:=P) w p h cap _ U U,run_sliceBound (P:=P) w k l h.toNat _ U U]
variable{x:Operand}{y:AF}{lo' hi':Option AF}{t:TypeId}{n:Nat}
theorem p8(H:AP F0 w0 ε a w G)(hd:d<a.tmps.size){lo hi:Option Operand}(I:o.op=.slice t x lo hi W)(J:AK x y=X)(R:OY lo lo'=X)(hh:OY hi hi'=X)
  (A:I3 P t=Y n)(h:(AE.slc n y lo' hi').wp S ε (Y d) K):A1 P F0 w0 a w o d K:=by
 simp [AE.wp]at h;split at h
 .rename_i m es hv;split at h
  .rename_i k1 l k2 C κ η;obtain⟨⟨hm,h0,h1⟩,h2,hK⟩:=h;subst hm;have M:=Ay H J hv;simp[Aq]at M;obtain⟨⟨r,cap,h4,h5,O,h7⟩,Q⟩:=M;have Z:=Vd H R κ;have b2:=Vd H hh η;unfold I3 at A;split at A
   .rename_i e ζ;have D:=Ti (P:=P) (w:=w) (isS:=X) (lo:=lo.map a.eval) (hi:=hi.map a.eval) h0 h1 h2 h5
     (by rcases Z with⟨rfl,rfl⟩|⟨v,k',rfl,hv⟩<;>simp[*]) (by rcases b2 with⟨rfl,rfl⟩|⟨v,k',rfl,hv⟩<;>simp[*])
    refine Cp H hd (v:=.slice (if cap=l.toNat then r else r.map (·.add (l.toNat*m))) (C.toNat-l.toNat) (cap-l.toNat)) (t:=.list m ((es.take C.toNat).drop l.toNat)) ?_ ?_ ?_ hK
    .simp[execOp,I,Instr.sliceAt,Instr.slice,run_underlying ζ,h4,D,CG A]
    .simp only[Aq];refine⟨if cap=l.toNat then r else r.map (·.add (l.toNat*m)),cap-l.toNat,an,an,λL=>?_,λθ g=>?_⟩
     .have p:es=[]\/l.toNat=C.toNat:=by
       split at L
       .exact .inl (O L)
       .cases r with
        |none=>exact .inl (O rfl)|some r=>simp at L
      rcases p with rfl|p
      .simp
      .apply z_;simp;omega
     .by_cases N:cap=l.toNat
      .have q:(es.take C.toNat).drop l.toNat=[]:=by apply z_;simp;omega
       rw [Ne N]at g;rw[q];exact⟨.inl rfl,trivial⟩
      .rw[QQ N]at g;cases r with
       |none=>simp at g|some r=>
        simp at g;subst g;obtain⟨B,u⟩:=h7 r rfl;obtain⟨b,E,sp⟩:=r;simp only at B u;by_cases p:es=[]
        .have q:(es.take C.toNat).drop l.toNat=[]:=by rw[p];simp
         rw [q];exact⟨.inl rfl,trivial⟩
        have B:sp=W:=B.resolve_left p;subst B;rw[Addr.add_lit];refine⟨.inr rfl,?_⟩;rw[R5]at u|-;intro i δ he;rw[x_,x?]at he;split at he
        .have:=u (l.toNat+i) δ he
         rwa [show E+l.toNat*m+i*m=E+(l.toNat+i)*m from k?]
        .cases he
    .simp only[TV.WF]at Q|-;refine⟨an,?_⟩;have B:=Bp.1 Q.2;exact Bp.2 λt A=>B t (y! (x! A))
   .cases A
  .exact h.elim
 .exact h.elim
theorem mt(m:AP F0 w0 ε a w G)(hd:d<a.tmps.size){lo hi:Option Operand}(p:o.op=.slice t x lo hi W)(q:AK x y=X)(A:OY lo lo'=X)(hh:OY hi hi'=X)
  (B:P.underlying t=Y .string)(h:(AE.Aau y lo' hi').wp S ε (Y d) K):A1 P F0 w0 a w o d K:=by
 simp [AE.wp]at h;split at h
 .rename_i s hv;split at h
  .rename_i O l Q u C D;obtain⟨I,J,L,M⟩:=h;have r:=Ay m q hv;simp[Aq]at r;have E:=Vd m A C;have H:=Vd m hh D;have g:=Ti (P:=P) (w:=w) (isS:=T) (lo:=lo.map a.eval) (hi:=hi.map a.eval) I J L (R0 _)
     (by rcases E with⟨rfl,rfl⟩|⟨v,N,rfl,hv⟩<;>simp[*]) (by rcases H with⟨rfl,rfl⟩|⟨v,N,rfl,hv⟩<;>simp[*])
   refine Cp m hd (v:=.string (s.extract l.toNat u.toNat)) (t:=.str (s.extract l.toNat u.toNat)) ?_ rfl ?_ M
   .simp[execOp,p,Instr.sliceAt,Instr.slice,run_underlying B,r.1,g]
   .have:=r.2;simp[TV.WF]at this|-;omega
  .exact h.elim
 .exact h.elim
variable{y':AF}
theorem gZ(l:AP F0 w0 ε a w G)(hd:d<a.tmps.size){x x':Operand}{mx:Bool}{ts:Array TypeId}
  (g:o.op=.call {callee:=.builtin (match mx with|true=>.max|false=>.min),args:=#[x,x'],argTypes:=ts})
  (u:AK x y=X)(A:AK x' y'=X)(h:(AE.mm mx y y').wp S ε (Y d) K):A1 P F0 w0 a w o d K:=by
 simp [AE.wp]at h;split at h
 .rename_i k p E q B C;obtain⟨rfl,D⟩:=h;have m:=Ay l u B;have r:=Ay l A C;simp[Aq,TV.WF]at m r;refine Cp l hd (v:=.int k (if mx then max p q else min p q)) (t:=.int k (if mx then max p q else min p q)) ?_ rfl ?_ D
  .cases mx
   .simp[execOp,g,resolve,invoke,builtin,m.1,r.1,Builtin.min_,Builtin.min2];rw[Int.min_def];split<;>split<;>omega
   .simp[execOp,g,resolve,invoke,builtin,m.1,r.1,Builtin.max_,Builtin.max2];rw[Int.max_def];split<;>split<;>omega
  .simp[TV.WF];split<;>omega
 .exact h.elim
theorem md(g:AP F0 w0 ε a w G)(hd:d<a.tmps.size)(l:o.op=.box t x)(m:AK x y=X)(h:(AE.Abp y).wp S ε (Y d) K):A1 P F0 w0 a w o d K:=by
 simp [AE.wp]at h;split at h
 .rename_i u hv;have B:=Ay g m hv;have r:Below w.heap.size w (w.alloc (.cells (a.eval x).cells t)):=(Below.refl _ _).alloc (R0 _) _;refine⟨.pointer (Y ⟨w.heap.size,0,W⟩),w.alloc (.cells (a.eval x).cells t),by simp[execOp,l,Instr.box,newVar,newRow],_,_,h,g.tv r d hd (.pt u.cells) _ ?_ ?_⟩
  .simp only[Aq];refine⟨_,_,rfl,?_⟩;have p:=Kv (F0:=F0) (w0:=w0) (G:=G) r d (λ_=>W) V
   .have A:=G4 B.1;refine R6 (Ar p _ _ A.1) A.2 λi v hi=>?_;have C:(w.alloc (.cells (a.eval x).cells t)).cell? ⟨w.heap.size,0+i,W⟩=Y v:=by
     rw [World.cell?_alloc_new,Nat.zero_add];simpa using hi
    refine ⟨C,?_⟩;rintro(⟨q,_⟩|⟨s,j,lo,q,_⟩)
    .have:=g.below.size;omega
    .by_cases D:s=d
     .grind[B1]
     .rw[BE _ _ _ _ D]at q;have:=(g.lt _ _ _ _ q).1;omega
  grind [TV.WF,IV]
 .exact h.elim
end
end Go.Sf
namespace Go.Sf
open Go.RowKit (Below)
def Ww:List Value->Nat->List Value->List Value
 |cs,_,[]=>cs|cs,i,d::ds=>Ww (cs.set i d) (i+1) ds
theorem Rl(g:Nat):∀(l:List Value)(k:Nat)(cells:Array Value),((l.zipIdx k).foldl (λcs(x:Value×Nat)=>cs.setIfInBounds (g+x.2) x.1) cells).toList=Ww cells.toList (g+k) l
 |[],_,_=>rfl|v::l,k,cells=>by
  simp [Ww];rw[Rl g l (k+1)]
  grind
section
variable{w:World}{F:Nat->Nat->Prop}
variable{v:Value}
theorem jV{cs:Fq}{xs:List Value}(h:AR w F cs xs)(i:Nat){t:TV}(g:Aq w F t v):AR w F (cs.set i t) (xs.set i v):=by
 rw [Bh]at h|-
 grind
theorem YK:∀{ds:Fq}{ys:List Value}{cs:Fq}{xs:List Value}(i:Nat),AR w F cs xs->AR w F ds ys->AR w F (Pj cs i ds) (Ww xs i ys)
 |[],ys,cs,xs,i,h,hd=>by simp[AR]at hd;subst hd;exact h|d::ds,ys,cs,xs,i,h,hd=>by
  simp [AR]at hd;obtain⟨v,r,rfl,g,l⟩:=hd;exact YK (i+1) (jV h i g) l
theorem fw:∀(ys xs:List Value)(i:Nat),(∀x∈xs,x.oneCell'=X)->(∀y∈ys,y.oneCell'=X)->∀x∈Ww xs i ys,x.oneCell'=X
 |[],_,_,h,_=>h|y::ys,xs,i,h,l=>by
  refine fw ys (xs.set i y) (i+1) (λx m=>?_) (λz g=>l z q_)
  grind
theorem We{place:Nat->Option (Nat×Nat)}:∀{ps:List (Nat×Value)}{ts:List (Nat×Nat×TV)}{cs cs':Fq}{xs:Array Value},AR w F cs xs.toList->ps.length=ts.length ->
  (∀(j:Nat)(p:Nat×Value)(t:Nat×Nat×TV),ps[j]?=Y p->ts[j]?=Y t->place p.1=Y (t.1,t.2.1)/\Aq w F t.2.2 p.2)->E8 cs ts=Y cs'->(∀x∈xs.toList,x.oneCell'=X) ->
  ∃xs',Instr.fill place xs ps=Y xs'/\AR w F cs' xs'.toList/\∀x∈xs'.toList,x.oneCell'=X
 |[],ts,cs,cs',xs,h,l,u,hf,ho=>by
  have:ts=[]:=z_ l.symm;subst this;simp[E8]at hf;subst hf;exact⟨xs,rfl,h,ho⟩
 |(i,v)::ps,[],_,_,_,_,l,_,_,_=>by simp at l|(i,v)::ps,(g,n,t)::ts,cs,cs',xs,h,l,u,hf,ho=>by
  simp only[E8]at hf;split at hf
  .rename_i J;obtain⟨B,r⟩:=u 0 _ _ rfl rfl;simp only at B r;have A:=(G4 r).1;have C:=(G4 r).2;have L:v.cells.size=n:=by have:=BL A;rw[A!]at this;omega
   have D:=BL h;rw[A!]at D;have E:AR w F (Pj cs g t.cells) ((v.cells.zipIdx.foldl (λcs(x:Value×Nat)=>cs.setIfInBounds (g+x.2) x.1) xs)).toList:=by
    have H:=YK g h A;rw[<-A?,B_,Rl,B!];exact H
   obtain ⟨xs',M,I⟩:=We E (by simpa using l) (λj p t m q=>u (j+1) p t (by simpa using m) l!) hf (by
    rw [<-A?,B_,Rl,B!]
    grind [fw])
   refine ⟨xs',?_,I⟩;simp[Instr.fill,B]
   grind
  .cases hf
end
def Nu(place:Nat->Option (Nat×Nat)):List (Nat×Operand)->List (Nat×Nat×AF)->Bool
 |[],[]=>X|(i,x)::ps,(off,n,y)::qs=>place i==Y (off,n)&&AK x y&&Nu place ps qs|_,_=>T
def jB(P:Program)(t:TypeId)(zero:Fq)(ps:List (Nat×Operand))(qs:List (Nat×Nat×AF)):Bool:=
 match P.info? t,P.underlying t with
 |some it,Y (.array _ e)=>
  match it.zero,P.info? e with
  |some z,Y ie=>KM zero z.cells.toList&&z.cells.toList.all Value.oneCell'&&Nu (λi=>Y (i*ie.size,ie.size)) ps qs|_,_=>T
 |some it,Y (.struct fields)=>
  match it.zero,fields.toList.mapM (λf=>(P.info? f.type).map λi=>(f.offset,i.size))with
  |some z,Y places=>KM zero z.cells.toList&&z.cells.toList.all Value.oneCell'&&Nu (places.toArray[·]?) ps qs|_,_=>T
 |_,_=>T
section
variable{P:Program}{S:FuncId->Fq->As->Prop}{F0:Nat->Nat->Prop}{w0:W0}{ε:AB}{a:Act}{w:World}{G:BR}{d:Nat}{o:Oper}{K:EV->AB->Prop}
theorem Zq(q:AP F0 w0 ε a w G){place:Nat->Option (Nat×Nat)}:∀{ps:List (Nat×Operand)}{l:List (Nat×Nat×AF)}{ts:List (Nat×Nat×TV)},Nu place ps l=X->E4 ε l=Y ts ->
  ps.length=ts.length/\(∀(j:Nat)(p:Nat×Value)(t:Nat×Nat×TV),(ps.map λ(i,x)=>(i,a.eval x))[j]?=Y p->ts[j]?=Y t->place p.1=Y (t.1,t.2.1)/\Aq w (AU w0.heap.size F0 G) t.2.2 p.2)/\∀t∈ts,t.2.2.WF
 |[],[],ts,_,h=>by simp[E4]at h;subst h;simp|[],_::_,_,h,_=>by simp[Nu]at h|_::_,[],_,h,_=>by simp[Nu]at h|(i,x)::ps,(A,n,y)::l,ts,g,h=>by
  simp [Nu]at g;simp[E4]at h;split at h
  .rename_i t r u m;simp at h;subst h;obtain⟨C,D,E⟩:=Zq q g.2 m;have B:=Ay q g.1.2 u
   grind
  .cases h
theorem iB:∀{ds cs:Fq}(i:Nat),TV.ns cs->TV.ns ds->TV.ns (Pj cs i ds)
 |[],_,_,h,_=>h|d::ds,cs,i,h,hd=>by
  refine iB (i+1) ?_ hd.2
  grind [Bp,List.mem_or_eq_of_mem_set]
theorem dw:∀{ts:List (Nat×Nat×TV)}{cs cs':Fq},TV.ns cs->(∀t∈ts,t.2.2.WF)->E8 cs ts=Y cs'->TV.ns cs'
 |[],cs,cs',h,_,hf=>by simp[E8]at hf;subst hf;exact h|(i,n,t)::ts,cs,cs',h,g,hf=>by
  simp only[E8]at hf;split at hf
  .exact dw (iB i h (IV (g (i,n,t) V))) (λu l=>g u (by simp[l])) hf
  .cases hf
variable{t:TypeId}{ps:Array (Nat×Operand)}
theorem pL(A:AP F0 w0 ε a w G)(hd:d<a.tmps.size){zero:Fq}{m:List (Nat×Nat×AF)}(p:o.op=.build t ps)(q:jB P t zero ps.toList m=X)(h:(AE.bld zero m).wp S ε (Y d) K):A1 P F0 w0 a w o d K:=by
 simp [AE.wp]at h;cases g:E4 ε m with
 |none=>rw[g]at h;exact h.elim|some ts=>
  rw [g]at h;simp[Ai]at h;cases l:E8 zero ts with
  |none=>rw[l]at h;exact h.elim|some cs=>
   rw [l]at h;simp only at h;have key:∀(place:Nat->Option (Nat×Nat))(z:Array Value),KM zero z.toList=X->z.toList.all Value.oneCell'=X->Nu place ps.toList m=X->∃xs',Instr.fill place z (ps.map λ(i,x)=>(i,a.eval x)).toList=Y xs'/\AR w (AU w0.heap.size F0 G) cs xs'.toList/\TV.ns cs/\xs'.toList.all Value.oneCell'=X:=by
    intro place z H r I;obtain⟨u,C,D⟩:=Zq A I g;have B:=RI w (AU w0.heap.size F0 G) zero z.toList H;have J:(ps.map λ(i,x)=>(i,a.eval x)).toList=ps.toList.map λ(i,x)=>(i,a.eval x):=V
    rw [J];obtain⟨xs',L,M,N⟩:=We B.1 e_ C l (λx E=>y_.1 r x E)
    grind [dw,y_]
   have built:∃xs',P.built t (ps.map λ(i,x)=>(i,a.eval x)).toList=Y xs'/\AR w (AU w0.heap.size F0 G) cs xs'.toList/\TV.ns cs/\xs'.toList.all Value.oneCell'=X:=by
    unfold jB at q;unfold Program.built
    grind
   obtain ⟨xs',u,C,D,B⟩:=built;refine Cp A hd (v:=.agg xs') (t:=.agg cs) ?_ ?_ (by simpa[TV.WF]using D) h
   .simp[execOp,p,run_build w t _ xs' u]
   grind [Aq]
variable{x:Operand}{n:Nat}
theorem aA(l:AP F0 w0 ε a w G)(hd:d<a.tmps.size)(g:o.op=.move x\/o.op=.assign x)(m:∃v,x=.const v/\Mw v=X)(h:(AE.Abo n).wp S ε (Y d) K):A1 P F0 w0 a w o d K:=by
 simp [AE.wp]at h;obtain⟨v,rfl,hv⟩:=m;refine⟨.slice W 0 0,w,?_,_,_,h,l.ow (Below.refl _ _) d hd (.list n []) _ W V ?_ ⟨V,trivial⟩⟩
 .rcases g with g|g<;>simp[execOp,g,Act.eval,KB hv]
 .simp only[Bq];exact⟨[],⟨V,.inl ⟨rfl,rfl,rfl⟩⟩,rfl,V,V⟩
end
end Go.Sf
namespace Go.Sf
open Go.RowKit (Below)
theorem je(pre:Fq)(x t:TV)(r:Fq):(pre++x::r).set pre.length t=pre++t::r:=o2
theorem Uv:∀(ds pre rest:Fq),ds.length<=rest.length->Pj (pre++rest) pre.length ds=pre++ds++rest.drop ds.length
 |[],pre,rest,_=>by simp[Pj]|d::ds,pre,[],h=>by simp at h|d::ds,pre,x::rest,h=>by
  simp [Pj,je];have:=Uv ds (pre++[d]) rest c_
  grind
def Lf(n:Nat):Nat->Fq->List (Nat×Nat×TV)
 |_,[]=>[]|k,t::ts=>(k*n,n,t)::Lf n (k+1) ts
theorem ZM(n:Nat):∀(ts pre:Fq)(k:Nat),(∀t∈ts,t.cells.length=n)->pre.length=k*n ->
  E8 (pre++z! (ts.length*n) .undef) (Lf n k ts)=Y (pre++ts.flatMap TV.cells)
 |[],pre,k,_,_=>by simp[Lf,E8]|t::ts,pre,k,g,p=>by
  have l:t.cells.length=n:=g t V;simp only[Lf,E8];rw[Ne ⟨l,by simp[aE,z?,a5,B?];omega⟩];rw[<-p,Uv t.cells pre _ (by simp[z?,a5,B?];omega)];have m:(z! ((t::ts).length*n) TV.undef).drop t.cells.length=z! (ts.length*n) TV.undef:=by
   grind [a5,B?]
  rw [m];have:=ZM n ts (pre++t.cells) (k+1) (λx h=>g x to) (by simp[aE,B?];omega)
  grind
def TW:Nat->List (Nat×Operand)->List AF->Bool
 |_,[],[]=>X|k,(i,x)::ps,y::ys=>i==k&&AK x y&&TW (k+1) ps ys|_,_,_=>T
section
variable{P:Program}{S:FuncId->Fq->As->Prop}{F0:Nat->Nat->Prop}{w0:W0}{ε:AB}{a:Act}{w:World}{G:BR}{d:Nat}{o:Oper}{K:EV->AB->Prop}
theorem fk(m:AP F0 w0 ε a w G)(n:Nat):∀{k:Nat}{ps:List (Nat×Operand)}{ys:List AF}{ts:Fq},TW k ps ys=X->vals ε ys=Y ts ->
  ps.length=ts.length/\(∀(j:Nat)(p:Nat×Value)(t:Nat×Nat×TV),(ps.map λ(i,x)=>(i,a.eval x))[j]?=Y p->(Lf n k ts)[j]?=Y t->(Y (p.1*n,n):Option (Nat×Nat))=Y (t.1,t.2.1)/\Aq w (AU w0.heap.size F0 G) t.2.2 p.2)/\TV.ns ts
 |_,[],[],ts,_,h=>by simp[vals]at h;subst h;simp[TV.ns]|_,[],_::_,_,h,_=>by simp[TW]at h|_,_::_,[],_,h,_=>by simp[TW]at h|k,(i,x)::ps,y::ys,ts,g,h=>by
  simp [TW]at g;simp[vals]at h;split at h
  .rename_i t q r l;simp at h;subst h;obtain⟨B,H,C⟩:=fk m n g.2 l;have A:=Ay m g.1.2 r;refine⟨by simp[B],λj p u D E=>?_,A.2,C⟩
   grind [Lf]
  .cases h
theorem Rv(n:Nat):∀(k:Nat)(ts:Fq),(Lf n k ts).length=ts.length
 |_,[]=>rfl|k,t::ts=>by simp[Lf,Rv n (k+1) ts]
variable{n:Nat}{ts:Fq}{e:TypeId}
theorem sA{F:Nat->Nat->Prop}{cells:Array Value}(h:AR (w.alloc (.cells cells e)) F (ts.flatMap TV.cells) cells.toList)(ho:∀x∈cells.toList,x.oneCell'=X)(l:∀t∈ts,t.cells.length=n)(m:ts.length<=maxLen):
  Bq (w.alloc (.cells cells e)) F (Y (w.heap.size,ts.length*n)) (.list n ts) (.slice (Y ⟨w.heap.size,0,W⟩) ts.length ts.length):=by
 have g:=BL h;rw[Pg n ts l]at g;simp[Bq];refine⟨cells.toList,⟨g,.inr ⟨w.heap.size,ts.length,cells,e,rfl,heap_alloc_new w _,R0 _,m,o?,?_,rfl⟩⟩,h,l,ho⟩;rw[<-g,List.take_length]
variable{t:TypeId}{ps:Array (Nat×Operand)}{ys:List AF}
theorem pf(R:AP F0 w0 ε a w G)(hd:d<a.tmps.size){r:TypeInfo}{z:Value}{len n:Nat}(J:o.op=.buildSlice t len ps)(θ:P.underlying t=Y (.slice e))(u:P.info? e=Y r)(hz:r.zero=Y z)
  (κ:r.size=n)(A:0<n)(η:z.cells.toList.all Value.oneCell'=X)(hzs:0<z.cells.size)(B:len=ps.size)(hsm:len*n<=2^ 24)(L:TW 0 ps.toList ys=X)(h:(AE.lst n ys).wp S ε (Y d) K):A1 P F0 w0 a w o d K:=by
 simp [AE.wp]at h;cases l:vals ε ys with
 |none=>rw[l]at h;exact h.elim|some ts=>
  rw [l]at h;simp[Ai]at h;obtain⟨δ,hK⟩:=h;obtain⟨Z,h2,h3⟩:=fk R n L l;have M:len=ts.length:=by rw[B,<-Z];simp
  have N:(TV.list n ts).WF:=⟨by simp[KK];have:len*1<=len*n:=C_ _ A;omega,h3⟩;have O:ts.length<=maxLen:=by simp[maxLen];have:len*1<=len*n:=C_ _ A;omega
  have g:∃cells:Array Value,(Instr.buildSlice t len (ps.map λ(i,x)=>(i,a.eval x))).run P w=.ok (.slice (Y ⟨w.heap.size,0,W⟩) len len) (w.alloc (.cells cells e))/\AR w (AU w0.heap.size F0 G) (ts.flatMap TV.cells) cells.toList/\∀x∈cells.toList,x.oneCell'=X:=by
   by_cases h0:len=0
   .have Q:ps=#[]:=by apply Array.eq_empty_of_size_eq_zero;omega
    have D:ts=[]:=by apply z_;omega
    subst Q;subst D;subst h0;refine⟨#[],?_,rfl,V⟩;simp[Instr.buildSlice,run_underlying θ,sizeOf,typeInfo,u,Instr.fill,newRow]
    grind
   .have m:AR w (AU w0.heap.size F0 G) (z! (ts.length*n) .undef) ((B' (len*r.size)).map (z.cells[· % z.cells.size]!)).toList:=by
     grind [Bh,nm,Aq,Option.map_eq_some_iff,Nat.mod_lt,y_]
    have E:=ZM n ts [] 0 δ V;simp at E;have p:∀x∈((B' (len*r.size)).map (z.cells[· % z.cells.size]!)).toList,x.oneCell'=X:=by
     grind [Nat.mod_lt,y_]
    obtain ⟨xs',h6,h7,h8⟩:=We (place:=λi=>Y (i*n,n)) m (by rw[Rv];simpa using Z) h2 E p;refine⟨xs',run_buildSlice w t e len _ xs' r z θ u hz (by rw[κ];omega) ?_ ?_,h7,h8⟩
    .grind[Nat.mul_eq_zero]
    .rw[κ]at h6|-;simpa using h6
  obtain ⟨cells,H,I,q⟩:=g;have ζ:Below w.heap.size w (w.alloc (.cells cells e)):=(Below.refl _ _).alloc (R0 _) _;refine⟨.slice (Y ⟨w.heap.size,0,W⟩) len len,_,by simp[execOp,J,H],_,_,hK,R.ow ζ d hd (.list n ts) _ (Y (w.heap.size,ts.length*n)) (λb lo C=>?_) ?_ N⟩
  .simp at C;obtain⟨rfl,_⟩:=C;exact⟨R0 _,V⟩
  .rw[M];exact sA (Ar (Kv ζ d _ (λi b lo h=>by
    grind)) _ _ I) q δ O
theorem AP.strip(h:AP F0 w0 ε a w G)(s:Nat):AP F0 w0 (strip ε s) a w G:=by
 refine ⟨h.gi,h.lt,h.below,h.defers,λq l=>?_,λq l=>?_,λq=>?_⟩
 .simp only[Go.Sf.strip,AB.bn];split
  .rfl
  .exact h.dom q l
 .have:=h.slots q l;simp[Go.Sf.strip,AB.bn];split
  .trivial
  .refine AM.kept (Qe _ _) (λ_=>rfl) (λ_ _ _ _=>rfl) rfl BJ.rfl' (λr i k u⟨p,m⟩=>⟨⟨p,(AB.tn V m).2⟩,λ_ hv=>hv⟩) (λr A u⟨cs,g⟩=>?_) (λr i u⟨p,m⟩=>⟨⟨p,(AB.o4 V V m).2⟩,λ_ hv=>hv⟩) this
   .rw[AB.bn]at g;split at g
    .cases g
    .exact⟨⟨cs,g⟩,rfl⟩
 .simp[Go.Sf.strip,AB.bn];split
  .trivial
  .exact h.wf q
variable{s:Nat}
theorem AP.move(h:AP F0 w0 ε a w G){t:TV}(N:ε.get s=.ow t)(hd:d<a.tmps.size):
  ∃m,AP F0 w0 ((d,.ow t)::Go.Sf.strip ε s) (a.put (Y d) (slot a s)) w m/\Bf w w (AU w0.heap.size F0 G) (AU w0.heap.size F0 m):=by
 have B:=Ag h N V;simp[AM]at B;have L:=h.wf s;rw[N]at L
 let zs:Option (Nat×Nat):=G s W
 let m:BR:=Je (Je G s (λ_=>W)) d (λi=>if i=W then zs else W)
 have D:∀q i b lo,m q i=Y (b,lo)->(q=d/\i=W/\G s W=Y (b,lo))\/(q≠d/\q≠s/\G q i=Y (b,lo)):=by
  intro q i b lo u;by_cases l:q=d
  .grind[B1]
  .simp[m,BE _ _ _ _ l]at u;by_cases θ:q=s
   .grind[B1]
   .rw[BE _ _ _ _ θ]at u
    grind
 have E:∀q i b lo,m q i=Y (b,lo)->∃κ η lo',G κ η=Y (b,lo')/\lo'<=lo:=by
  grind
 have H:Bf w w (AU w0.heap.size F0 G) (AU w0.heap.size F0 m):=λb o v δ hf=>⟨δ,λO=>hf (AU.mono E O)⟩;refine⟨m,⟨?_,?_,h.below,i!,?_,?_,?_⟩,H⟩
 .intro q i κ η b lo lo' A C;rcases D _ _ _ _ A with⟨rfl,rfl,J⟩|⟨n1,n2,J⟩<;>rcases D _ _ _ _ C with⟨rfl,rfl,M⟩|⟨m1,m2,M⟩
  .exact⟨rfl,rfl⟩
  .exact absurd (h.gi _ _ _ _ _ _ _ J M).1.symm m2
  .exact absurd (h.gi _ _ _ _ _ _ _ J M).1 n2
  .exact h.gi _ _ _ _ _ _ _ J M
 .intro q i b lo A;rcases D _ _ _ _ A with⟨_,_,J⟩|⟨_,_,J⟩<;>exact h.lt _ _ _ _ J
 .intro q u;rw[Bj]at u;rw[AB.bn,QQ U];exact(h.strip s).dom q u
 .intro q u;rw[Bj]at u;rw[AB.bn];by_cases l:d=q
  .subst l;rw[Ne rfl,Cx _ _ _ hd];simp[AM,m,B1];exact B.kept H (λ_ _ _=>rfl)
  .rw[QQ l,AY _ _ _ _ l];simp[Go.Sf.strip,AB.bn];split
   .trivial
   .rename_i R;refine AM.kept H (λi=>?_) (λ_ _ _ _=>rfl) (Lz (Bj _ _ _) (λq u=>by
     have hss:=Bi h N V
     grind [BE])) BJ.rfl' (λr i k ζ⟨p,Q⟩=>?_) (λr Z ζ⟨cs,g⟩=>?_) (λr i ζ⟨p,Q⟩=>?_) (h.slots q u)
    .simp[m];rw[BE _ _ _ _ (λe=>l e.symm),BE _ _ _ _ (λe=>R e.symm)]
    .have A:=AB.tn V Q;have C:=AB.tn V A.2;exact⟨⟨p,C.2⟩,h.nh ⟨p,C.2⟩ (AY _ _ _ _ A.1) (λ_ _ _ _=>rfl)⟩
    .rw[AB.bn]at g;by_cases I:d=r
     .rw[Ne I]at g;cases g
     .rw[QQ I]at g;simp[AB.bn]at g;split at g
      .cases g
      .exact⟨⟨cs,g⟩,AY _ _ _ _ I⟩
    .have A:=AB.o4 V V Q;have C:=AB.o4 V V A.2;exact⟨⟨p,C.2⟩,h.xv ⟨p,C.2⟩ (AY _ _ _ _ A.1) (λ_ _=>rfl)⟩
 .intro q;rw[AB.bn];split
  .exact L
  .exact(h.strip s).wf q
theorem pA(a:Act)(d s:Nat)(v:Value)(h:d<a.tmps.size):slot (a.put (Y d) v) s=if d=s then v else slot a s:=by grind[Cx,AY]
theorem AP.move'(h:AP F0 w0 ε a w G){t:TV}(g:ε.get s=.ow t)(hd:d<a.tmps.size):
  Bt F0 w0 ((d,.ow t)::(s,.tv t)::ε) (a.put (Y d) (slot a s)) w:=by
 obtain ⟨p,q,m⟩:=h.move g hd;have hv:=Ay h (x:=.tmp s) (y:=.s s) r! (t:=t) (by simp[AF.val,AF.ev,g,EV.val]);have l:=Bi h g V;refine⟨p,q.rem s (t:=t) (by rw[Bj];exact l) ?_ hv.2 λn=>?_⟩
 .have:slot (a.put (Y d) (slot a s)) s=slot a s:=by rw[pA _ _ _ _ hd];split<;>rfl
  rw [this];exact CH m _ _ hv.1
 .simp[Go.Sf.strip,AB.bn];split
  .exact .inl rfl
  .split
   next e=>exact .inr ⟨e.symm,rfl⟩
   .exact .inl rfl
theorem gj(m:AP F0 w0 ε a w G)(hd:d<a.tmps.size)(g:o.op=.move (.tmp s)\/o.op=.assign (.tmp s))(h:(AE.tk s).wp S ε (Y d) K):A1 P F0 w0 a w o d K:=by
 simp [AE.wp]at h;have l:(execOp a.eval o).run P w=.ok (.value (slot a s)) w:=by
  rcases g with g|g<;>simp[execOp,g]<;>rfl
 split at h
 next t p=>exact⟨_,_,l,_,_,h,m.move' p hd⟩
 next t p=>have:=Ay m (x:=.tmp s) (y:=.s s) r! (t:=t) (by simp[AF.val,AF.ev,p,EV.val]);exact Cp m hd l this.1 this.2 h
 .exact h.elim
end
end Go.Sf
