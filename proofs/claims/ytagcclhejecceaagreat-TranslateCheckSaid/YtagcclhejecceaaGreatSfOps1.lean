/- The checker's operands, and the operations that only compute or read. -/
import Derived.Test.YtagcclhejecceaaGreatSfInv
import Derived.Laws.StructEq
import Derived.Laws.Tables
import Derived.Great.BuildSlice
set_option linter.all false
namespace Go.Sf
open Go.RowKit (Below)
def LQ:Value->Bool
 |.slice none 0 0=>true|_=>false
variable{v:Value}
theorem I2(h:LQ v=true):v=.slice none 0 0:=by grind[LQ]
def iS(f:FuncId):Value->Bool
 |.func (.func g) first caps=>f==g&&first.size==0&&caps.size==0
 |_=>false
variable{f:FuncId}
theorem mB(h:iS f v=true):v=.func (.func f) #[] #[]:=by
 unfold iS at h
 grind
def dF(k:IntKind)(n:Int):Value->Bool
 |.int k' m=>k==k'&&n==m|_=>false
theorem iT{k:IntKind}{n:Int}(h:dF k n v=true):v=.int k n:=by
 unfold dF at h
 grind
def ZR(b:Bool):Value->Bool
 |.bool c=>b==c|_=>false
variable{b:Bool}
theorem fD(h:ZR b v=true):v=.bool b:=by
 unfold ZR at h
 grind
def dG(s:ByteArray):Value->Bool
 |.string r=>s.data==r.data|_=>false
theorem iV{s:ByteArray}(h:dG s v=true):v=.string s:=by
 unfold dG at h
 grind [ByteArray.ext]
def cd:Value->Option (List Value)
 |.agg vs=>some vs.toList|_=>none
theorem g6{l:List Value}(h:cd v=some l):v=.agg l.toArray:=by
 unfold cd at h;split at h
 .simp at h;subst h;simp
 .cases h
mutual
def D2:TV->Value->Bool
 |.int k n,v=>dF k n v&&decide (k.min<=n/\n<=k.max)|.bool b,v=>ZR b v|.str s,v=>dG s v&&decide (s.size<=Im)|.list _ es,v=>es.isEmpty&&LQ v|.agg ts,v=>match cd v with|some vs=>JE ts vs&&vs.all Value.oneCell'|none=>false
 |.w8 f cs,v=>cs.isEmpty&&iS f v|.nil,v=>LQ v|.undef,v=>v.oneCell'|_,_=>false
def JE:Fq->List Value->Bool
 |[],vs=>vs.isEmpty|t::ts,vs=>match vs with|v::vs=>D2 t v&&JE ts vs|[]=>false
end
mutual
theorem Gs(w:World)(F:Nat->Nat->Prop):∀(t:TV)(v:Value),D2 t v=true->Ah w F t v/\t.WF
 |.undef,v,h=>by
  simp [D2]at h;exact⟨by simpa[Ah]using h,trivial⟩
 |.xl _ _,v,h=>by simp[D2]at h|.nil,v,h=>by
  simp [D2]at h;exact⟨I2 h,trivial⟩
 |.pt _,v,h=>by simp[D2]at h|.int k n,v,h=>by
  simp [D2,wq]at h;exact⟨iT h.1,h.2⟩
 |.bool b,v,h=>by
  simp [D2]at h;exact⟨fD h,trivial⟩
 |.str s,v,h=>by
  simp [D2,wq]at h;exact⟨iV h.1,h.2⟩
 |.list n es,v,h=>by
  simp [D2]at h
  grind [TV.WF,TV.tn,Ah,I2]
 |.agg ts,v,h=>by
  simp [D2]at h;split at h
  .rename_i vs hv;rw[pr]at h;have:=Pf w F ts vs h.1;refine⟨?_,by simpa[TV.WF]using this.2⟩;simp only[Ah];exact⟨_,g6 hv,by simpa using this.1,by simpa using h.2⟩
  .cases h
 |.w8 f cs,v,h=>by
  simp [D2]at h;obtain⟨rfl,h⟩:=h;refine⟨?_,by simp[TV.WF,TV.tn]⟩;simp[Ah];exact⟨#[],mB h,rfl⟩
theorem Pf(w:World)(F:Nat->Nat->Prop):∀(ts:Fq)(vs:List Value),JE ts vs=true->AQ w F ts vs/\TV.tn ts
 |[],vs,h=>by simp[JE]at h;subst h;exact⟨rfl,trivial⟩|t::ts,vs,h=>by
  cases vs with
  |nil=>simp[JE]at h|cons v vs=>
   simp [JE]at h;have g:=Gs w F t v h.1;have l:=Pf w F ts vs h.2;exact⟨⟨v,vs,rfl,g.1,l.1⟩,g.2,l.2⟩
end
def AI(x:Operand):AF->Bool
 |.s m=>match x with|.tmp n=>n==m|_=>false
 |.c t=>match x with|.const v=>D2 t v|.func f=>D2 t (.func (.func f) #[] #[])|_=>false
section
variable{F0:Nat->Nat->Prop}{w0:W0}{U:AB}{a:Act}{w:World}{G:BP}
variable{s:Nat}
theorem Nn(h:AO F0 w0 U a w G){i:Option Nat}:∀b lo o,G s i=some (b,lo)->o<lo->¬AS w0.heap.size F0 G b o:=by
 intro b lo o l ho hf;rcases hf with⟨m,g⟩|⟨s',q,lo',p,r⟩
 .exact(h.lt _ _ _ _ l).2.elim (fun e=>by omega) (fun e=>h.below.free _ _ _ (e _ (az _)) g)
 .obtain⟨rfl,rfl⟩:=h.ne _ _ _ _ _ _ _ p l
  grind
variable{n:Nat}
theorem Ba(h:AO F0 w0 U a w G){e:EV}(he:U.get n=e)(g:e≠.undef):n<a.tmps.size:=by
 rcases Nat.lt_or_ge n a.tmps.size with l|m
 .exact l
 .exact absurd ((h.dom n m).symm.trans he).symm g
theorem AW(h:AO F0 w0 U a w G){e:EV}(he:U.get n=e)(g:e≠.undef):AK a w (AS w0.heap.size F0 G) G U n e (slot a n):=by
 have:=h.slots n (Ba h he g)
 rwa [he]at this
theorem gi(g:AO F0 w0 U a w G){x:AF}{row:Fq}(h:x.val U=some (.pt row)):x.ev U=.tv (.pt row):=by
 cases x with
 |c t=>simpa[AF.val,AF.ev,EV.val]using h|s n=>
  simp [AF.val,AF.ev]at h|-;cases he:U.get n with
  |tv t=>rw[he]at h;simpa[EV.val]using h|ow t=>
   rw [he]at h;have m:t=.pt row:=by simpa[EV.val]using h
   subst m;by_cases l:n<a.tmps.size
   .have:=g.slots n l;rw[he]at this;simp[AK,Bi]at this
   .rw[g.dom n (Nat.le_of_not_lt l)]at he;cases he
  |_=>rw[he]at h;simp[EV.val]at h
variable{x:Operand}{y:AF}
theorem Au(h:AO F0 w0 U a w G)(l:AI x y=true){t:TV}(hv:y.val U=some t):Ah w (AS w0.heap.size F0 G) t (a.eval x)/\t.WF:=by
 cases y with
 |s m=>
  cases x<;>simp[AI]at l;subst l;rename_i n;simp[AF.val,AF.ev]at hv;have p:=h.wf n;cases he:U.get n with
  |tv r=>
   rw [he]at hv p;simp[EV.val]at hv;subst hv;exact⟨AW h he (by simp),p⟩
  |ow r=>
   rw [he]at hv p;simp[EV.val]at hv;subst hv;exact⟨Bi.zw (AW h he (by simp)) (fun b lo o u ho=>Nn h b lo o u ho),p⟩
  |undef=>rw[he]at hv;simp[EV.val]at hv|sk=>rw[he]at hv;simp[EV.val]at hv|xo n es=>rw[he]at hv;simp[EV.val]at hv|la q i=>rw[he]at hv;simp[EV.val]at hv|wQ cs=>rw[he]at hv;simp[EV.val]at hv|xn es=>rw[he]at hv;simp[EV.val]at hv|x1 n B=>rw[he]at hv;simp[EV.val]at hv|mx m=>rw[he]at hv;simp[EV.val]at hv|nh q i k=>rw[he]at hv;simp[EV.val]at hv|lp q i c=>rw[he]at hv;simp[EV.val]at hv|bx cs=>rw[he]at hv;simp[EV.val]at hv|bp q A=>rw[he]at hv;simp[EV.val]at hv|tp ts=>rw[he]at hv;simp[EV.val]at hv
 |c r=>
  simp [AF.val,AF.ev,EV.val]at hv;subst hv;cases x with
  |const v=>exact Gs w _ _ _ l|func f=>exact Gs w _ _ _ l|tmp n=>simp[AI]at l|global g=>simp[AI]at l
theorem WG(h:AO F0 w0 U a w G)(g:AI x y=true){t:TV}(hv:y.ev U=.tv t):Ah w (AS w0.heap.size F0 G) t (a.eval x)/\t.WF:=by grind[Au,AF.val,EV.val]
def BX:List Operand->List AF->Bool
 |[],[]=>true|x::xs,y::ys=>AI x y&&BX xs ys|_,_=>false
theorem FO(h:AO F0 w0 U a w G):∀{xs:List Operand}{ys:List AF},BX xs ys=true->∀{ts:Fq},vals U ys=some ts->AQ w (AS w0.heap.size F0 G) ts (xs.map a.eval)/\TV.tn ts
 |[],[],_,ts,hv=>by simp[vals]at hv;subst hv;exact⟨rfl,trivial⟩|[],_::_,g,_,_=>by simp[BX]at g|_::_,[],g,_,_=>by simp[BX]at g|x::xs,y::ys,g,ts,hv=>by
  simp [BX]at g;simp[vals]at hv;split at hv
  .rename_i t q r l;simp at hv;subst hv;have m:=Au h g.1 r;have p:=FO h g.2 l;exact⟨⟨_,_,rfl,m.1,p.1⟩,m.2,p.2⟩
  .cases hv
end
theorem LF(k:IntKind)(n:Int):k.min<=k.wrap n/\k.wrap n<=k.max:=by
 cases k<;>simp only[IntKind.min,IntKind.max,IntKind.wrap,IntKind.signed,IntKind.bits,Bool.true_and,Bool.false_and]<;>simp<;>(try split)<;>omega
end Go.Sf
namespace Go.Sf
open Go.RowKit (Below)
def Cn(P:Program)(t:TypeId):Option Nat:=(P.info? t).map (·.size)
def Bv(P:Program)(t:TypeId):K1:=
 match P.underlying t with
 |some (.struct _)|some (.array _ _)=>some true|some _=>some false|none=>none
def H4(P:Program)(t:TypeId):Option Nat:=
 match P.underlying t with
 |some (.slice e)=>Cn P e|_=>none
def OR(P:Program)(t:TypeId)(f:Nat):Option Nat:=
 match P.underlying t with
 |some (.struct fs)=>match fs[f]? with
  |some x=>match Cn P x.type with
   |some 0=>none|some _=>some x.offset|none=>none
  |none=>none
 |_=>none
section
variable{P:Program}{w:World}
variable{t:TypeId}{n:Nat}
theorem B2(h:Cn P t=some n):(sizeOf t).run P w=.ok n w:=by
 simp only[Cn,Option.map_eq_some_iff]at h;obtain⟨i,hi,rfl⟩:=h;simp[sizeOf,typeInfo,hi]
variable{b:Bool}
theorem Cc(h:Bv P t=some b):(isAgg t).run P w=.ok b w:=by
 unfold Bv at h;unfold isAgg underlying;simp only[Sem.run_bind,run_program,Result.andThen_ok];cases g:P.underlying t with
 |none=>rw[g]at h;simp at h|some d=>
  rw [g]at h;cases d<;>simp_all
theorem S5{f k b o:Nat}(h:OR P t f=some k):
  (Instr.fieldAt t (.pointer (some ⟨b,o,none⟩)) f).run P w=.ok (.pointer (some ⟨b,o+k,none⟩)) w:=by
 unfold OR at h;split at h
 .rename_i r l;split at h
  .rename_i x m;split at h
   .cases h
   .rename_i n p q;simp only[tg]at h;subst h;have g:¬(n=0):=fun e=>p (by rw[e]);simp[Instr.fieldAt,run_underlying l,m,Instr.sureAddr,fieldPlace,B2 q,g,Addr.add_lit]
   .cases h
  .cases h
 .cases h
variable{ts:Fq}
theorem Rf{F:Nat->Nat->Prop}{b o:Nat}(h:C8 w F ts b o):∃vs:List Value,AQ w F ts vs/\(∀x∈vs,x.oneCell'=true)/\∀(j:Nat)(v:Value),vs[j]?=some v->w.cell? ((⟨b,o,none⟩:Addr).add j)=some v:=by
 induction ts generalizing o with
 |nil=>exact⟨[],rfl,by simp,by simp⟩|cons t ts C=>
  simp only[C8]at h;obtain⟨⟨v,l,D,m,p⟩,q⟩:=h;obtain⟨vs,r,A,B⟩:=C q;refine⟨v::vs,⟨v,vs,rfl,p,r⟩,by simp only[List.mem_cons,forall_eq_or_imp];exact⟨m,A⟩,fun j u g=>?_⟩;rw[Addr.add_lit];cases j with
  |zero=>simp at g;subst g;exact l|succ j=>
   have:=B j u (by simpa using g);rw[Addr.add_lit]at this
   grind
theorem BE{F:Nat->Nat->Prop}{vs:List Value}(h:AQ w F ts vs):vs.length=ts.length:=((BZ ts vs).1 h).1
variable{v:Value}
theorem dt{F:Nat->Nat->Prop}{es:Fq}{k:IntKind}{j:Int}(l:H4 P t=some n)(h:Ah w F (.list n es) v)(H:0<=j){e:TV}(he:es[j.toNat]?=some e):
  ∃p,(Instr.indexAt t v (.int k j)).run P w=.ok p w/\Ah w F (.pt e.cells) p:=by
 simp only[Ah]at h;obtain⟨a,cap,rfl,_,C,D⟩:=h;have g:j.toNat<es.length:=by
  grind
 cases a with
 |none=>have:=C rfl;subst this;simp at g|some r=>
  obtain ⟨m,q⟩:=D r rfl;obtain⟨b,o,E⟩:=r;simp only at m q;have m:E=none:=m.resolve_left (fun e=>by subst e;simp at g);subst m;unfold H4 at l;split at l
  .rename_i el u;rw[QJ]at q;have A:=q j.toNat e he;have B:0<=j/\j<(es.length:Int):=by omega
   refine ⟨.pointer (some ⟨b,o+j.toNat*n,none⟩),?_,?_⟩
   .simp[Instr.indexAt,asIntOf,run_underlying u,B,B2 l,Addr.add_lit]
   .simp only[Ah];exact⟨b,_,rfl,A.1⟩
  .cases l
end
end Go.Sf
namespace Go.Sf
open Go.RowKit (Below)
def Ax(P:Program)(F0:Nat->Nat->Prop)(w0:W0)(a:Act)(w:World)(o:Oper)(d:Nat)(K:EV->AB->Prop):Prop:=
 ∃v w',(execOp a.eval o).run P w=.ok (.value v) w'/\∃e env',K e env'/\Bm F0 w0 ((d,e)::env') (a.put (some d) v) w'
theorem Bj:∀{l:Fq},TV.tn l↔∀t∈l,t.WF
 |[]=>by simp[TV.tn]|t::l=>by simp[TV.tn,Bj (l:=l)]
theorem Hc{t:TV}(h:t.WF):TV.tn t.cells:=by
 cases t with
 |agg cs=>exact h|_=>exact⟨h,trivial⟩
section
variable{P:Program}{S:FuncId->Fq->Am->Prop}{F0:Nat->Nat->Prop}{w0:W0}{U:AB}{a:Act}{w:World}{G:BP}{d:Nat}{o:Oper}{K:EV->AB->Prop}
variable{v:Value}
theorem CY(h:AO F0 w0 U a w G)(hd:d<a.tmps.size){t:TV}(g:(execOp a.eval o).run P w=.ok (.value v) w)
  (l:Ah w (AS w0.heap.size F0 G) t v)(m:t.WF)(p:K (.tv t) U):Ax P F0 w0 a w o d K:=
 ⟨v,w,g,_,_,p,h.tv_same d hd t v l m⟩
variable{x:Operand}{y:AF}
theorem cH(p:AO F0 w0 U a w G)(hd:d<a.tmps.size)(g:o.op=.move x\/o.op=.assign x)(l:AI x y=true)(h:(AE.mv y).wp S U (some d) K):Ax P F0 w0 a w o d K:=by
 simp [AE.wp]at h;have hv:(∃t,y.val U=some t/\K (.tv t) U)\/∃ts,y.ev U=.tp ts/\K (.tp ts) U:=by
  unfold AF.val;split at h<;>first|exact h.elim|(rename_i t he;exact .inl ⟨t,by rw[he];rfl,h⟩)|(rename_i t he;exact .inr ⟨t,he,h⟩)
 have m:(execOp a.eval o).run P w=.ok (.value (a.eval x)) w:=by rcases g with g|g<;>simp[execOp,g]
 rcases hv with⟨t,hv,C⟩|⟨ts,hv,C⟩
 .have:=Au p l hv
  grind [CY]
 .cases y with
  |c t=>simp[AF.ev]at hv|s n=>
   have E:x=.tmp n:=by
    cases x<;>simp[AI]at l;rw[l]
   subst E;simp[AF.ev]at hv;have A:=AW p hv (by simp);have B:=p.wf n;rw[hv]at B;refine⟨_,w,m,_,_,C,⟨_,p.quiet (Below.refl _ _) d hd (.tp ts) _ (fun _=>none) (by simp) (by simp) (by simp) ?_ B⟩⟩;simp[AK]at A|-;obtain⟨vs,I,J⟩:=A;refine⟨vs,I,Ak (fun b o u D hf=>⟨D,fun r=>hf ?_⟩) _ _ J⟩;rcases r with q|⟨s,i,lo,q,L⟩
   .exact .inl q
   .by_cases H:s=d
    .grind[Bq]
    .rw[A9 _ _ _ _ H]at q;exact .inr ⟨s,i,lo,q,L⟩
theorem gV(l:AO F0 w0 U a w G)(hd:d<a.tmps.size){c x x':Operand}{c' y y':AF}(m:o.op=.pick c x x')(r:AI c c'=true)(B:AI x y=true)(C:AI x' y'=true)
  (h:(AE.pick c' y y').wp S U (some d) K):Ax P F0 w0 a w o d K:=by
 simp [AE.wp]at h;split at h
 .rename_i q u;have g:=(Au l r u).1;simp[Ah]at g;have p:AI (if q then x else x') (if q then y else y')=true:=by cases q<;>assumption
  have hv:∃t,(if q then y else y').val U=some t/\K (.tv t) U:=by
   unfold AF.val;split at h<;>first|exact h.elim|(rename_i t he;exact⟨t,by rw[he];rfl,h⟩)
  obtain ⟨t,hv,A⟩:=hv;have:=Au l p hv;refine CY l hd (v:=a.eval (if q then x else x')) ?_ this.1 this.2 A;cases q<;>simp[execOp,m,g,asBool]
 .exact h.elim
variable{t:TypeId}
theorem kK(m:AO F0 w0 U a w G)(hd:d<a.tmps.size)(g:o.op=.unOp .not t x)(l:AI x y=true)(h:(AE.not y).wp S U (some d) K):Ax P F0 w0 a w o d K:=by
 simp [AE.wp]at h;split at h
 .rename_i b hv;have:=(Au m l hv).1;simp[Ah]at this;exact CY m hd (v:=.bool !b) (t:=.bool !b) (by simp[execOp,g,this,Op.unary]) rfl trivial h
 .exact h.elim
theorem kH(m:AO F0 w0 U a w G)(hd:d<a.tmps.size)(g:o.op=.unOp .neg t x)(l:AI x y=true)(h:(AE.neg y).wp S U (some d) K):Ax P F0 w0 a w o d K:=by
 simp [AE.wp]at h;split at h
 .rename_i k n hv;have:=(Au m l hv).1;simp[Ah]at this;exact CY m hd (v:=.int k (k.wrap (-n))) (t:=.int k (k.wrap (-n))) (by simp[execOp,g,this,Op.unary,Op.intArith]) rfl (LF k _) h
 .exact h.elim
theorem ju(m:AO F0 w0 U a w G)(hd:d<a.tmps.size){s t:TypeId}{k p:IntKind}(g:o.op=.convert s t x)(q:P.underlying s=some (.int p))(r:P.underlying t=some (.int k))(l:AI x y=true)(h:(AE.yA k y).wp S U (some d) K):Ax P F0 w0 a w o d K:=by
 simp [AE.wp]at h;split at h
 .rename_i u n hv;have:=(Au m l hv).1;simp[Ah]at this;refine CY m hd (v:=.int k (k.wrap n)) (t:=.int k (k.wrap n)) ?_ rfl (LF k _) h;simp[execOp,g,this,convert,run_underlying q,run_underlying r,Conv.intToInt]
 .exact h.elim
variable{f:FuncId}{ys:List AF}
theorem jp(m:AO F0 w0 U a w G)(hd:d<a.tmps.size){xs:Array Operand}(g:o.op=.makeFunc (.func f) #[] xs)(l:BX xs.toList ys=true)(h:(AE.w8 f ys).wp S U (some d) K):Ax P F0 w0 a w o d K:=by
 simp [AE.wp]at h;cases hv:vals U ys with
 |none=>rw[hv]at h;exact h.elim|some ts=>
  rw [hv]at h;have:=FO m l hv;refine CY m hd (v:=.func (.func f) #[] (xs.map a.eval)) (by simp[execOp,g,Instr.makeFunc]) ?_ (by simpa[TV.WF]using this.2) h;simp only[Ah];exact⟨_,rfl,by simpa using this.1⟩
theorem jv(l:AO F0 w0 U a w G)(hd:d<a.tmps.size){s i:Nat}(m:o.op=.extract (.tmp s) i)(h:(AE.ext (.s s) i).wp S U (some d) K):Ax P F0 w0 a w o d K:=by
 simp [AE.wp,AF.ev]at h;split at h
 .rename_i ts hv;cases g:ts[i]? with
  |none=>rw[g]at h;exact h.elim|some t=>
   rw [g]at h;have q:=AW l hv (by simp);have r:=l.wf s;rw[hv]at r;simp[AK]at q;obtain⟨vs,C,u⟩:=q;rw[BZ]at u;have A:i<ts.length:=by
    grind
   have B:vs.toList[i]?=some (vs.toList[i]'(by omega)):=List.getElem?_eq_getElem (by omega);have p:vs[i]?=some (vs.toList[i]'(by omega)):=by simp
   refine CY l hd (v:=vs.toList[i]'(by omega)) ?_ (u.2 i t _ g B) ?_ h
   .simp[execOp,m,show a.eval (.tmp s)=slot a s from rfl,C,Instr.extract,p]
   .exact Bj.1 r t (List.mem_of_getElem? g)
 .exact h.elim
variable{e:TypeId}
theorem j7(m:AO F0 w0 U a w G)(hd:d<a.tmps.size)(g:o.op=.call {callee:=.builtin .len,args:=#[x],argTypes:=#[t]})(l:AI x y=true)
  (he:P.underlying t=some (.slice e))(h:(AE.len y).wp S U (some d) K):Ax P F0 w0 a w o d K:=by
 simp only[AE.wp]at h;split at h
 .rename_i n es hv;have:=Au m l hv;simp only[Ah,TV.WF,Im]at this;obtain⟨⟨q,cap,p,_⟩,r⟩:=this;refine CY m hd (v:=.int .i64 es.length) (t:=.int .i64 es.length) ?_ rfl ⟨by simp only[IntKind.min,IntKind.signed,IntKind.bits,if_true];omega,by simp only[IntKind.max_i64];omega⟩ h;simp[execOp,g,resolve,invoke,builtin,Builtin.len_,run_underlying he,p,goInt]
 .exact h.elim
theorem gX(m:AO F0 w0 U a w G)(hd:d<a.tmps.size)(g:o.op=.call {callee:=.builtin .len,args:=#[x],argTypes:=#[t]})(l:AI x y=true)
  (he:P.underlying t=some .string)(h:(AE.yX y).wp S U (some d) K):Ax P F0 w0 a w o d K:=by
 simp only[AE.wp]at h;split at h
 .rename_i s hv;have:=Au m l hv;simp only[Ah,TV.WF,Im]at this;refine CY m hd (v:=.int .i64 s.size) (t:=.int .i64 s.size) ?_ rfl ⟨by simp only[IntKind.min,IntKind.signed,IntKind.bits,if_true];omega,by simp only[IntKind.max_i64];omega⟩ h;simp[execOp,g,resolve,invoke,builtin,Builtin.len_,run_underlying he,this.1,goInt]
 .exact h.elim
end
end Go.Sf
namespace Go.Sf
open Go.RowKit (Below)
section
variable{P:Program}{S:FuncId->Fq->Am->Prop}{F0:Nat->Nat->Prop}{w0:W0}{U:AB}{a:Act}{w:World}{G:BP}{d:Nat}{o:Oper}{K:EV->AB->Prop}
variable{s:Nat}{ρ:G6}{c:AN}
theorem Uz(g:AO F0 w0 U a w G){i:Option Nat}{x:Value}(h:BA w (AS w0.heap.size F0 G) ρ (G s i) c x):Ah w (AS w0.heap.size F0 G) c.t x:=by
 obtain ⟨_|_,t⟩:=c
 .exact h.1
 .exact D0.zw h (fun b lo o l ho=>Nn g b lo o l ho)
variable{z:Option (Nat×Nat)}
theorem UM{F:Nat->Nat->Prop}{t:TV}{x:Value}(h:Bi w F z t x):x.oneCell'=true:=by
 cases t<;>simp[Bi]at h;obtain⟨xs,l,_⟩:=h;rcases l.2 with⟨rfl,_⟩|⟨g,cap,m,e,rfl,_⟩<;>rfl
theorem ia{F:Nat->Nat->Prop}{es:Fq}{x:Value}(h:E1 w F ρ z es x):x.oneCell'=true:=by
 obtain ⟨xs,⟨p,l,_⟩,_⟩:=h;rcases l.2 with⟨rfl,_⟩|⟨g,cap,m,e,rfl,_⟩<;>rfl
theorem Nl{F:Nat->Nat->Prop}{t:TV}{x:Value}(h:D0 w F ρ z t x):x.oneCell'=true:=by
 by_cases l:∃es,t=.xn es
 .obtain⟨es,rfl⟩:=l;exact ia h
 by_cases m:∃n es,t=.xl n es
 .obtain⟨n,es,rfl⟩:=m;simp[D0,I6]at h;obtain⟨xs,⟨r,p,_⟩,_⟩:=h;rcases p.2 with⟨rfl,_⟩|⟨g,cap,q,e,rfl,_⟩<;>rfl
 .refine UM (w:=w) (F:=F) (z:=z) (t:=t) ?_;cases t<;>first|exact h|exact absurd ⟨_,_,rfl⟩ m|exact absurd ⟨_,rfl⟩ l
theorem GU{F:Nat->Nat->Prop}{x:Value}(h:BA w F ρ z c x):x.oneCell'=true:=by
 obtain ⟨_|_,t⟩:=c
 .exact h.2
 .exact Nl h
variable{x:Operand}{y:AF}
theorem Pt(C:AO F0 w0 U a w G)(D:AI x y=true){cs:Fq}(g:A1 U (y.ev U)=some cs):
  ∃b o vs,a.eval x=.pointer (some ⟨b,o,none⟩)/\AQ w (AS w0.heap.size F0 G) cs vs/\TV.tn cs/\(∀x∈vs,x.oneCell'=true)/\∀(j:Nat)(v:Value),vs[j]?=some v->w.cell? ((⟨b,o,none⟩:Addr).add j)=some v:=by
 have box:∀(s h:Nat)(ds:List AN),U.get s=.bx ds->∃b vs,slot a s=.pointer (some ⟨b,0,none⟩)/\AQ w (AS w0.heap.size F0 G) ((ds.drop h).map (·.t)) vs/\TV.tn ((ds.drop h).map (·.t))/\(∀x∈vs,x.oneCell'=true)/\∀(j:Nat)(v:Value),vs[j]?=some v->w.cell? ((⟨b,h,none⟩:Addr).add j)=some v:=by
  intro s h ds M;have p:=AW C M (by simp);have I:=C.wf s;rw[M]at I;simp only[AK]at p;obtain⟨b,c,T,r,u,E,B,A⟩:=p;refine⟨b,c.toList.drop h,r,?_,?_,?_,?_⟩
  .rw[BZ];refine⟨by simp[E],fun i t v H hv=>?_⟩;simp[List.getElem?_map,List.getElem?_drop]at H hv;obtain⟨cell,l,rfl⟩:=H;obtain⟨x,N,p⟩:=A (h+i) cell l;have:x=v:=by
    grind
   subst this;exact Uz C p
  .rw[Bj];intro t H;simp only[List.mem_map]at H;obtain⟨cell,l,rfl⟩:=H;exact I cell (List.mem_of_mem_drop l)
  .intro x N;obtain⟨i,hi,rfl⟩:=List.getElem_of_mem N;rw[List.getElem_drop];have Q:h+i<c.size:=by simp at hi;omega
   have R:ds[h+i]?=some (ds[h+i]'(by omega)):=List.getElem?_eq_getElem (by omega)
   grind [Array.getElem?_eq_getElem,GU]
  .intro j v hv;rw[List.getElem?_drop]at hv;rw[Addr.add_lit,cell_of_row w b (h+j) c T (0,0) u];simpa using hv
 cases y with
 |c t=>
  simp [AF.ev]at g;cases t<;>simp[A1]at g;subst g;have:=Au C D (t:=.pt _) rfl;simp[Ah,TV.WF]at this;obtain⟨⟨b,o,r,u⟩,E⟩:=this;obtain⟨vs,B,J,A⟩:=Rf u;exact⟨b,o,vs,r,B,E,J,A⟩
 |s n=>
  cases x<;>simp[AI]at D;subst D;rename_i n;simp[AF.ev]at g;cases he:U.get n with
  |tv t=>
   rw [he]at g;cases t<;>simp[A1]at g;subst g;have p:=AW C he (by simp);have I:=C.wf n;rw[he]at I;simp[AK,Ah]at p;obtain⟨b,o,r,u⟩:=p;obtain⟨vs,B,J,A⟩:=Rf u;exact⟨b,o,vs,r,B,by simpa[EV.WF,TV.WF]using I,J,A⟩
  |bx ds=>
   rw [he]at g;simp[A1]at g;subst g;obtain⟨b,vs,r,u,E,L,B⟩:=box n 0 ds he;exact⟨b,0,vs,r,by simpa using u,by simpa using E,L,B⟩
  |bp q h=>
   rw [he]at g;simp only[A1]at g;split at g
   .rename_i ds O;simp only[tg]at g;subst g;obtain⟨b,vs,r,u,E,L,B⟩:=box q h ds O;have p:=AW C he (by simp);simp only[AK]at p;obtain⟨V,A,J⟩:=p ⟨ds,O⟩;rw[r]at A;simp at A;subst A;exact⟨b,h,vs,J,u,E,L,B⟩
   .cases g
  |undef=>rw[he]at g;simp[A1]at g|sk=>rw[he]at g;simp[A1]at g|xo n es=>rw[he]at g;simp[A1]at g|la q i=>rw[he]at g;simp[A1]at g|wQ cs=>rw[he]at g;simp[A1]at g|xn es=>rw[he]at g;simp[A1]at g|x1 n W=>rw[he]at g;simp[A1]at g|mx m=>rw[he]at g;simp[A1]at g|nh q i k=>rw[he]at g;simp[A1]at g|lp q i c=>rw[he]at g;simp[A1]at g|ow t=>rw[he]at g;simp[A1]at g|tp ts=>rw[he]at g;simp[A1]at g
variable{t:TypeId}
theorem nG(p:AO F0 w0 U a w G)(hd:d<a.tmps.size)(g:o.op=.load t x)(l:AI x y=true)(B:Bv P t=some false)(h:(AE.ld y).wp S U (some d) K):Ax P F0 w0 a w o d K:=by
 simp [AE.wp]at h;cases m:A1 U (y.ev U)with
 |none=>rw[m]at h;exact h.elim|some cs=>
  rw [m]at h;simp[AX]at h;obtain⟨b,C,vs,D,A,E,_,H⟩:=Pt p l m;cases cs with
  |nil=>simp[Em]at h|cons u r=>
   simp [Em]at h;replace h:=h.2;simp[AQ]at A;obtain⟨v,J,rfl,I,L⟩:=A;have q:=H 0 v rfl;rw[Addr.add_zero']at q;refine CY p hd (v:=v) ?_ I E.1 h;simp[execOp,g,D,Instr.loadAt,Instr.sureAddr,loadVar,Cc B,q]
variable{n:Nat}
theorem VT(r:AO F0 w0 U a w G)(hd:d<a.tmps.size)(l:o.op=.load t x)(m:AI x y=true)(u:Bv P t=some true)(A:Cn P t=some n)(h:(AE.yt y n).wp S U (some d) K):Ax P F0 w0 a w o d K:=by
 simp [AE.wp]at h;cases p:A1 U (y.ev U)with
 |none=>rw[p]at h;exact h.elim|some cs=>
  rw [p]at h;simp[AX]at h;obtain⟨b,q,vs,B,C,I,D,E⟩:=Pt r m p;have H:=BE C;have g:=run_loadCells_list (P:=P) w ⟨b,q,none⟩ (vs.take n) (fun j v hv=>E j v (by rw[List.getElem?_take]at hv;split at hv<;>simp_all));rw[bq,Nat.min_eq_left (by omega)]at g;refine CY r hd (v:=.agg (vs.take n).toArray) (t:=.agg (cs.take n)) ?_ ?_ ?_ h.2
  .simp[execOp,l,B,Instr.loadAt,Instr.sureAddr,loadVar,Cc u,B2 A,g]
  .grind[Ah,List.all_eq_true,List.mem_of_mem_take,BZ]
  grind [TV.WF,Bj,List.mem_of_mem_take]
variable{i:Operand}{j:AF}
theorem jw(l:AO F0 w0 U a w G)(hd:d<a.tmps.size)(q:o.op=.indexAddr t x i)(r:AI x y=true)(g:AI i j=true)(A:H4 P t=some n)(h:(AE.yb y j n).wp S U (some d) K):Ax P F0 w0 a w o d K:=by
 simp [AE.wp]at h;split at h
 .rename_i m es k L B C;obtain⟨rfl,E,e,he,H⟩:=h;have D:=Au l r B;have u:=Au l g C;simp[Ah]at u;obtain⟨p,I,J⟩:=dt (P:=P) (k:=k) A D.1 E he;refine CY l hd (v:=p) (by simp[execOp,q,u.1,I]) J ?_ H
  grind [TV.WF,Bj,List.mem_of_getElem?,Hc]
 .exact h.elim
theorem gW(l:AO F0 w0 U a w G)(hd:d<a.tmps.size)(m:o.op=.index t x i)(p:AI x y=true)(g:AI i j=true)(u:P.underlying t=some .string)(h:(AE.xc y j).wp S U (some d) K):Ax P F0 w0 a w o d K:=by
 simp [AE.wp]at h;split at h
 .rename_i s k H A B;obtain⟨C,b,D,E⟩:=h;have q:=Au l p A;have r:=Au l g B;simp[Ah]at q r;refine CY l hd (v:=.int .u8 b.toNat) (t:=.int .u8 b.toNat) ?_ rfl ⟨by simp[IntKind.min,IntKind.signed],?_⟩ E
  .simp[execOp,m,q.1,r.1,Instr.index,asIntOf,run_underlying u,C,D]
  .have:=b.toNat_lt;simp[IntKind.max,IntKind.signed,IntKind.bits];omega
 .exact h.elim
theorem Wq{f k:Nat}(l:o.op=.fieldAddr t x f)(m:OR P t f=some k):∀b g,a.eval x=.pointer (some ⟨b,g,none⟩)->(execOp a.eval o).run P w=.ok (.value (.pointer (some ⟨b,g+k,none⟩))) w:=by
 intro b g h;simp[execOp,l,h,S5 m]
theorem PN(g:o.op=.move x\/o.op=.assign x\/o.op=.nilCheck x):∀b l,a.eval x=.pointer (some ⟨b,l,none⟩)->(execOp a.eval o).run P w=.ok (.value (.pointer (some ⟨b,l+0,none⟩))) w:=by
 intro b l h;rcases g with g|g|g<;>simp[execOp,g,h]
variable{k:Nat}
theorem Pp(p:AO F0 w0 U a w G)(hd:d<a.tmps.size)(l:∀b g,a.eval x=.pointer (some ⟨b,g,none⟩)->(execOp a.eval o).run P w=.ok (.value (.pointer (some ⟨b,g+k,none⟩))) w)(m:AI x y=true)(h:(AE.w3 y k).wp S U (some d) K):Ax P F0 w0 a w o d K:=by
 simp [AE.wp]at h;split at h
 .rename_i row he;have u:=WG p m he;simp[Ah,TV.WF]at u;obtain⟨⟨b,g,C,D⟩,H⟩:=u;refine CY p hd (v:=.pointer (some ⟨b,g+k,none⟩)) (t:=.pt (row.drop k)) (l _ _ C) ?_ ?_ h
  .simp only[Ah];exact⟨b,_,rfl,OF D k⟩
  grind [TV.WF,Bj,List.mem_of_mem_drop]
 .rename_i q g he;cases y with
  |c t=>simp[AF.ev]at he|s n=>
   cases x<;>simp[AI]at m;subst m;rename_i n;simp[AF.ev]at he;have A:=AW p he (by simp);simp only[AK]at A;split at h
   .rename_i r B;obtain⟨b,I,E⟩:=A ⟨r,B⟩;refine⟨.pointer (some ⟨b,g+k,none⟩),w,l _ _ E,_,_,h,_,p.quiet (Below.refl _ _) d hd (.bp q (g+k)) _ (fun _=>none) (by simp) (by simp) (by simp) ?_ trivial⟩
    grind [AK,AB.d4,AV]
   .exact h.elim
 .exact h.elim
theorem Po(m:AO F0 w0 U a w G)(hd:d<a.tmps.size)(l:∀b g,a.eval (.tmp s)=.pointer (some ⟨b,g,none⟩)->(execOp a.eval o).run P w=.ok (.value (.pointer (some ⟨b,g+k,none⟩))) w)(h:(AE.bad s k).wp S U (some d) K):Ax P F0 w0 a w o d K:=by
 simp [AE.wp]at h;split at h
 .rename_i cs he;have q:=AW m he (by simp);simp only[AK]at q;obtain⟨b,c,T,p,_⟩:=q;refine⟨.pointer (some ⟨b,0+k,none⟩),w,l _ _ p,_,_,h,_,m.quiet (Below.refl _ _) d hd (.bp s k) _ (fun _=>none) (by simp) (by simp) (by simp) ?_ trivial⟩
  grind [AK,AB.d4,AV]
 .rename_i row he;have p:=WG m (x:=.tmp s) (y:=.s s) (by simp[AI]) he;simp[Ah,TV.WF]at p;obtain⟨⟨b,g,r,u⟩,A⟩:=p;refine CY m hd (v:=.pointer (some ⟨b,g+k,none⟩)) (t:=.pt (row.drop k)) (l _ _ r) ?_ ?_ h
  .simp only[Ah];exact⟨b,_,rfl,OF u k⟩
  grind [TV.WF,Bj,List.mem_of_mem_drop]
 .exact h.elim
variable{e:TypeId}
theorem ji(p:AO F0 w0 U a w G)(hd:d<a.tmps.size)(q:o.op=.indexAddr t x i)(r:AI x y=true)(l:AI i j=true)(u:P.underlying t=some (.array k e))(D:Cn P e=some n)
  (h:(AE.y4 y j n k).wp S U (some d) K):Ax P F0 w0 a w o d K:=by
 simp [AE.wp]at h;split at h
 .rename_i row O m E A;obtain⟨I,J,Q,L⟩:=h;have B:=(Au p l A).1;simp[Ah]at B;have H:∃b g,a.eval x=.pointer (some ⟨b,g,none⟩)/\C8 w (AS w0.heap.size F0 G) row b g/\TV.tn row:=by
   have:=WG p r E
   grind [Ah,TV.WF]
  obtain ⟨b,g,M,N,C⟩:=H;have A:0<=m/\m<(k:Int):=⟨I,J⟩;refine CY p hd (v:=.pointer (some ⟨b,g+m.toNat*n,none⟩)) (t:=.pt (row.drop (m.toNat*n))) ?_ ?_ ?_ L
  .simp[execOp,q,B,M,Instr.indexAt,asIntOf,run_underlying u,A,Instr.sureAddr,B2 D,Addr.add_lit]
  .simp only[Ah];exact⟨b,_,rfl,OF N _⟩
  .simp[TV.WF];rw[Bj]at C|-;exact fun t u=>C t (List.mem_of_mem_drop u)
 .exact h.elim
def dM(P:Program)(t:TypeId)(j:Operand)(k:Nat):Bool:=
 match j,P.underlying t with
 |.const (.int _ i),some (.array m e)=>decide (0<=i)&&decide (i<(m:Int))&&(match Cn P e with
  |some n=>i.toNat*n==k|none=>false)
 |_,_=>false
theorem ln{P:Program}{o:Oper}{a:Act}{w:World}{j:Operand}(q:o.op=.indexAddr t (.tmp s) j)(g:dM P t j k=true)(b l:Nat)(h:a.eval (.tmp s)=.pointer (some ⟨b,l,none⟩)):(execOp a.eval o).run P w=.ok (.value (.pointer (some ⟨b,l+k,none⟩))) w:=by
 unfold dM at g;split at g
 .rename_i r i m e u;simp[wq]at g;obtain⟨⟨D,E⟩,p⟩:=g;split at p
  .rename_i n A;simp at p;subst p;have B:0<=i/\i<(m:Int):=⟨D,E⟩;have C:a.eval (.const (.int r i))=.int r i:=rfl;simp[execOp,q,h,C,Instr.indexAt,asIntOf,run_underlying u,B,Instr.sureAddr,B2 A,Addr.add_lit]
  .cases p
 .cases g
def SU(g:TypeId->Option Ne)(P:Program):List Field->Nat->Option Ne
 |[],_=>some []|f::fs,off=>match g f.type with
  |some ks=>if(f.name≠ "_" /\f.offset=off)/\Cn P f.type=some ks.length then(match SU g P fs (off+ks.length)with|some r=>some (ks ++ r)|none=>none)else none
  |none=>none
def O2(P:Program):Nat->TypeId->Option Ne
 |0,_=>none|k+1,t=>match P.underlying t with
  |some (.int _)=>some [0]|some .string=>some [1]|some .bool=>some [2]|some (.struct fs)=>if P.stoodInHeld t then none else SU (O2 P k) P fs.toList 0|_=>none
def Mx(P:Program):BK->TypeId->Bool
 |.i,_=>true|.s,_=>true|.w,_=>true|.b,t=>match P.underlying t with|some .bool=>true|_=>false
 |.a n,t=>Bv P t==some true&&!P.eqGuardType P.depth t&&O2 P 8 t==some n
def TV.wx:TV->Value
 |.int k n=>.int k n|.str s=>.string s|.bool b=>.bool b|_=>Go.undef
def TV.wZ:TV->Bool
 |.int _ _=>true|.str _=>true|.bool _=>true|_=>false
theorem QS:∀{cs ds:Fq}{r:Bool},CA cs ds=some r->cs.length=ds.length/\(∀t∈cs,t.wZ=true)/\(∀t∈ds,t.wZ=true)
 |[],[],_,_=>by simp|[],_::_,_,h=>by simp[CA]at h|c::cs,[],_,h=>by cases c<;>simp[CA]at h
 |c::cs,d::ds,r,h=>by
  have key:∀l,CA cs ds=some l->c.wZ=true->d.wZ=true->(c::cs).length=(d::ds).length/\(∀t∈c::cs,t.wZ=true)/\(∀t∈d::ds,t.wZ=true):=by
   intro l g m p;obtain⟨u,A,B⟩:=QS g
   grind
  cases c<;>cases d<;>simp only[CA,reduceCtorEq]at h
  .split at h
   .split at h
    .rename_i q g;exact key q g rfl rfl
    .cases h
   .cases h
  .split at h
   .rename_i q g;exact key q g rfl rfl
   .cases h
  .split at h
   .rename_i q g;exact key q g rfl rfl
   .cases h
variable{v:Value}
theorem jU{F:Nat->Nat->Prop}{t:TV}(g:t.wZ=true)(h:Ah w F t v):v=t.wx:=by
 cases t<;>simp[TV.wZ]at g<;>exact h
theorem QW{F:Nat->Nat->Prop}:∀{cs:Fq}{xs:List Value},(∀t∈cs,t.wZ=true)->AQ w F cs xs->xs=cs.map TV.wx
 |[],_,_,h=>h|c::cs,xs,g,h=>by
  simp [AQ]at h;obtain⟨v,r,rfl,m,p⟩:=h;rw[jU (g c (by simp)) m,QW (fun t l=>g t (by simp[l])) p];rfl
theorem Mk:∀(m:Nat){cs ds:Fq}{r:Bool},CA cs ds=some r->∃g l,CA (cs.take m) (ds.take m)=some g/\CA (cs.drop m) (ds.drop m)=some l/\r=(g&&l)
 |0,cs,ds,r,h=>⟨true,r,by simp[CA],by simpa using h,by simp⟩|m+1,[],[],r,h=>by
  grind
 |m+1,[],_::_,_,h=>by simp[CA]at h|m+1,c::cs,[],_,h=>by cases c<;>simp[CA]at h
 |m+1,c::cs,d::ds,r,h=>by
  cases c<;>cases d<;>simp only[CA,reduceCtorEq]at h
  .split at h
   .rename_i C;split at h
    .rename_i q p;obtain⟨g,l,u,A,B⟩:=Mk m p
     grind [tg,CA,Bool.and_assoc]
    .cases h
   .cases h
  .split at h
   .rename_i q p;obtain⟨g,l,u,A,B⟩:=Mk m p
    grind [tg,CA,Bool.and_assoc]
   .cases h
  .split at h
   .rename_i q p;obtain⟨g,l,u,A,B⟩:=Mk m p
    grind [tg,CA,Bool.and_assoc]
   .cases h
def L5(P:Program)(t:TypeId)(vs:List Value):Value:=if Bv P t=some true then .agg vs.toArray else vs.headD Go.undef
theorem Px:∀{cs ds:Fq}{r:Bool},CA cs ds=some r->ds.map TV.kd=cs.map TV.kd
 |[],[],_,_=>rfl|[],_::_,_,h=>by simp[CA]at h|c::cs,[],_,h=>by cases c<;>simp[CA]at h
 |c::cs,d::ds,r,h=>by
  cases c<;>cases d<;>simp only[CA,reduceCtorEq]at h
  .split at h
   .split at h
    .rename_i q g;simp[Px g,TV.kd]
    .cases h
   .cases h
  .split at h
   .rename_i q g;simp[Px g,TV.kd]
   .cases h
  .split at h
   .rename_i q g;simp[Px g,TV.kd]
   .cases h
theorem XL(k:Nat)(R:∀(t:TypeId)(n:Ne),O2 P k t=some n->∀d,k<=d->∀(cs ds:Fq)(r:Bool),cs.map TV.kd=n->CA cs ds=some r->(Op.equalIn d t (L5 P t (cs.map TV.wx)) (L5 P t (ds.map TV.wx))).run P w=.ok r w):
  ∀(H:List Field)(p:Nat)(n:Ne),SU (O2 P k) P H p=some n->∀d,k<=d->∀(g m:List Value)(cs ds:Fq)(r:Bool),g.length=p->m.length=p->cs.map TV.kd=n->CA cs ds=some r ->
   (Op.eqFields d (g++cs.map TV.wx).toArray (m++ds.map TV.wx).toArray H).run P w=.ok r w
 |[],p,n,hf,d,hd,g,m,cs,ds,r,X,Y,E,h=>by
  simp [SU]at hf;subst hf;have:cs=[]:=List.map_eq_nil_iff.1 E;subst this;cases ds<;>simp[CA]at h;subst h;simp[Op.eqFields]
 |f::H,p,n,hf,d,hd,g,m,cs,ds,r,X,Y,E,h=>by
  simp [SU]at hf;split at hf
  .rename_i l u;split at hf
   .rename_i Z;split at hf
    .rename_i rest D;simp at hf;subst hf;obtain⟨⟨hn,ho⟩,O⟩:=Z;have hcl:cs.length=l.length+rest.length:=by
      have:=congrArg List.length E;simpa using this
     obtain ⟨W,r2,e1,e2,rfl⟩:=Mk l.length h;have V:=(QS h).1;have hdl:ds.length=l.length+rest.length:=by omega
     have M:(cs.take l.length).map TV.kd=l:=by rw[List.map_take,E,List.take_left'];rfl
     have N:(cs.drop l.length).map TV.kd=rest:=by rw[List.map_drop,E,List.drop_left'];rfl
     have hi:=R f.type l u d hd (cs.take l.length) (ds.take l.length) W M e1;have C:=XL k R H (p+l.length) rest D d hd (g++(cs.take l.length).map TV.wx) (m++(ds.take l.length).map TV.wx) (cs.drop l.length) (ds.drop l.length) r2 (by simp;omega) (by simp;omega) N e2;have A:∀(g:List Value)(cs:Fq),g++(cs.take l.length).map TV.wx++(cs.drop l.length).map TV.wx=g++cs.map TV.wx:=by
      intro g cs;rw[c8,<-List.map_append,List.take_append_drop]
     rw [A,A]at C;have B:∀(g:List Value)(cs:Fq),g.length=p->l.length<=cs.length->(0<l.length\/Bv P f.type=some true)->(∃b,Bv P f.type=some b)->(part f.type (g++cs.map TV.wx).toArray f.offset).run P w=.ok (L5 P f.type ((cs.take l.length).map TV.wx)) w:=by
      intro g cs T J L q;obtain⟨b,q⟩:=q;cases b with
      |true=>
       simp only[part,Sem.run_bind,Cc q,Result.andThen_ok,if_true,B2 O,Sem.run_pure,L5,q];congr 2;rw[List.extract_toArray,List.extract_eq_take_drop,ho,<-T,List.drop_left,Nat.add_sub_cancel_left,<-List.map_take]
      |false=>
       have h0:0<l.length:=by
        rcases L with h|h
        .exact h
        .rw[q]at h;cases h
       cases cs with
       |nil=>exact absurd (Nat.lt_of_lt_of_le h0 J) (by simp)|cons c cs=>
        obtain ⟨m',Q⟩:∃m',l.length=m'+1:=⟨l.length-1,by omega⟩;have:((g++(c::cs).map TV.wx).toArray)[f.offset]?=some c.wx:=by
         rw [List.getElem?_toArray,ho,<-T,List.getElem?_append_right (az _),Nat.sub_self];rfl
        simp only[part,Sem.run_bind,Cc q,Result.andThen_ok,Bool.false_eq_true,if_false,this,Sem.run_pure,L5,q,Q];simp
     have q:(∃b,Bv P f.type=some b)/\(0<l.length\/Bv P f.type=some true):=by
      cases k with
      |zero=>simp[O2]at u|succ k=>
       simp [O2]at u;unfold Bv;split at u<;>rename_i I
       .simp at u;subst u;rw[I];exact⟨⟨_,rfl⟩,.inl (by simp)⟩
       .simp at u;subst u;rw[I];exact⟨⟨_,rfl⟩,.inl (by simp)⟩
       .simp at u;subst u;rw[I];exact⟨⟨_,rfl⟩,.inl (by simp)⟩
       .rw[I];exact⟨⟨_,rfl⟩,.inr rfl⟩
       .cases u
     have p1:=B g cs X (by omega) q.2 q.1;have p2:=B m ds Y (by omega) q.2 q.1;simp only[Op.eqFields,Sem.run_bind,Sem.run_ite,a6 hn,p1,p2,hi,Result.andThen_ok];cases W with
     |true=>simpa using C|false=>simp
    .cases hf
   .cases hf
  .cases hf
theorem ed(a b:ByteArray):(a.toList==b.toList)=decide (a=b):=by
 rw [Bool.eq_iff_iff,beq_iff_eq,wq];refine⟨fun h=>?_,fun h=>by rw[h]⟩;rw[ByteArray.toList_eq,ByteArray.toList_eq]at h;cases a;cases b;simpa using h
theorem bN:∀(k:Nat)(t:TypeId)(n:Ne),O2 P k t=some n->∀d,k<=d->∀(cs ds:Fq)(r:Bool),cs.map TV.kd=n->CA cs ds=some r->(Op.equalIn d t (L5 P t (cs.map TV.wx)) (L5 P t (ds.map TV.wx))).run P w=.ok r w
 |0,_,_,h,_,_,_,_,_,_,_=>by simp[O2]at h|k+1,t,n,hf,d,hd,cs,ds,r,E,h=>by
  obtain ⟨d,rfl⟩:∃I,d=I+1:=⟨d-1,by omega⟩;have C:=Px h;simp[O2]at hf;have one:∀x,n=[x]->Bv P t=some false->∃c e,cs=[c]/\ds=[e]/\c.kd=x/\e.kd=x/\L5 P t (cs.map TV.wx)=c.wx/\L5 P t (ds.map TV.wx)=e.wx:=by
   intro x J N;rw[J]at E
   match cs,ds,E,C with
   |[c],[e],A,B=>
    grind [List.cons.injEq,L5]
   |[],_,A,_=>simp at A|[c],[],_,B=>simp at B|[c],_::_::_,_,B=>simp at B|_::_::_,_,A,_=>simp at A
  split at hf<;>rename_i g
  .simp at hf;obtain⟨c,e,rfl,rfl,m,p,q,u⟩:=one 0 hf.symm (by simp[Bv,g]);rw[q,u];cases c<;>first|(simp[TV.kd]at m;done)|skip
   cases e<;>first|(simp[TV.kd]at p;done)|skip
   simp only[CA]at h;split at h
   .rename_i L;subst L;simp at h;simp[TV.wx];rw[run_equalIn_int (P:=P) w d t _ _ _ _ g,<-h];congr 1
   .cases h
  .simp at hf;obtain⟨c,e,rfl,rfl,m,p,q,u⟩:=one 1 hf.symm (by simp[Bv,g]);rw[q,u];cases c<;>first|(simp[TV.kd]at m;done)|skip
   cases e<;>first|(simp[TV.kd]at p;done)|skip
   simp [CA]at h;simp[TV.wx];rw[run_equalIn_string (P:=P) w d t _ _ g,<-h]
   grind [ed]
  .simp at hf;obtain⟨c,e,rfl,rfl,m,p,q,u⟩:=one 2 hf.symm (by simp[Bv,g]);rw[q,u];cases c<;>first|(simp[TV.kd]at m;done)|skip
   cases e<;>first|(simp[TV.kd]at p;done)|skip
   simp [CA]at h;simp[TV.wx];rw[run_equalIn_bool' (P:=P) w d t _ _ g,<-h];congr 1
  .split at hf
   .cases hf
   .rename_i H M;have D:Bv P t=some true:=by simp[Bv,g]
    have l:P.fieldsOf t=H:=by simp[Program.fieldsOf,g]
    simp [L5,D];rw[run_equalIn_struct w d t _ _ (by rw[l];exact g) (by simpa using M),l];exact XL k (bN k) H.toList 0 n hf d (by omega) [] [] cs ds r rfl rfl E h
  .cases hf
variable{vx vy:Value}
theorem VP{op:BinOp}{x y:Operand}{cs ds:Fq}{q:Bool}{n:Ne}(D:cs.map TV.kd=n){F:Nat->Nat->Prop}(u:Mx P (.a n) t=true)(g:Ah w F (.agg cs) vx)(h:Ah w F (.agg ds) vy)(A:CA cs ds=some q):
  ∃xs ys,vx=.agg xs/\vy=.agg ys/\(eqGuard op t x y (.agg xs) (.agg ys)).run P w=.ok () w/\(Op.equalIn 10000 t (.agg xs) (.agg ys)).run P w=.ok q w:=by
 simp [Ah]at g h;obtain⟨xs,rfl,g,_⟩:=g;obtain⟨ys,rfl,h,_⟩:=h;simp only[Mx,pr,Bool.not_eq_true']at u;obtain⟨⟨B,E⟩,C⟩:=u;obtain⟨H,p,r⟩:=QS A;refine⟨xs,ys,rfl,rfl,run_eqGuard_agg w op t x y xs ys E,?_⟩;simp at B C;have l:=QW p g;have m:=QW r h;have:=bN (P:=P) (w:=w) 8 t n C 10000 (by omega) cs ds q D A;simp[L5,B,<-l,<-m]at this;simpa using this
theorem m9{op:BinOp}{x y:Operand}{k m:IntKind}{a b r:Int}{F:Nat->Nat->Prop}(p:k=m\/op=.shl\/op=.shr)(l:LP k op a b=some r):
  ∃v,(do eqGuard op t x y (.int k a) (.int m b);binOp op t (.int k a) (.int m b):Sem Value).run P w=.ok v w/\Ah w F (.int k r) v/\(TV.int k r).WF:=by
 have g:∀(op:BinOp)(q:Value),k=m->(op=.and\/op=.or\/op=.xor\/op=.andNot)->(Op.intBits op k a b).run P w=.ok q w->(do eqGuard op t x y (.int k a) (.int m b);binOp op t (.int k a) (.int m b):Sem Value).run P w=.ok q w:=by
  intro op q e ho h;subst e;rcases ho with rfl|rfl|rfl|rfl<;>simpa[eqGuard,binOp]using h
 cases op<;>simp only[LP]at l<;>try(cases l;done)
 case and=>cases l;exact⟨_,g _ _ (by simpa using p) (by simp) rfl,rfl,LF _ _⟩
 case or=>cases l;exact⟨_,g _ _ (by simpa using p) (by simp) rfl,rfl,LF _ _⟩
 case xor=>cases l;exact⟨_,g _ _ (by simpa using p) (by simp) rfl,rfl,LF _ _⟩
 case andNot=>cases l;exact⟨_,g _ _ (by simpa using p) (by simp) rfl,rfl,LF _ _⟩
 case shl=>
  split at l
  .rename_i u;cases l;exact⟨_,by simp[eqGuard,binOp,Op.shift,Int.not_lt.2 u],rfl,LF _ _⟩
  .cases l
 case shr=>
  split at l
  .rename_i u;cases l;exact⟨_,by simp[eqGuard,binOp,Op.shift,Int.not_lt.2 u.1],rfl,u.2⟩
  .cases l
theorem m8{k:BK}{op:BinOp}{x y:Operand}{E ty r:TV}{F:Nat->Nat->Prop}(N:Mx P k t=true)(g:Kn k op E ty=some r)(l:Ah w F E vx)(m:Ah w F ty vy)(H:E.WF)(O:ty.WF):
  ∃v,(do eqGuard op t x y vx vy;binOp op t vx vy:Sem Value).run P w=.ok v w/\Ah w F r v/\r.WF:=by
 unfold Kn at g;split at g
 .rename_i k a Q b;simp[Ah]at l m;subst l;subst m;split at g
  .rename_i p;subst p;rw[Sem.run_bind,eqGuard_at_int,Sem.run_pure,Result.andThen_ok];have B:op=.quo\/op=.rem\/(op≠.quo/\op≠.rem):=by cases op<;>simp
   rcases B with rfl|rfl|⟨u,V⟩
   .by_cases A:b=0
    .simp[intCmp,intArith,A]at g
    .simp[intCmp,intArith,A]at g;subst g;exact⟨_,by simp[binOp,Op.intDiv,A],rfl,LF _ _⟩
   .by_cases A:b=0
    .simp[intCmp,intArith,A]at g
    .simp[intCmp,intArith,A]at g;subst g;refine⟨_,by simp[binOp,Op.intDiv,A],rfl,?_⟩;simp[TV.WF]at H|-;have C:a.tmod b<=max a 0/\min a 0<=a.tmod b:=by
      have D:=Int.natAbs_tmod a b;have X:=Nat.mod_le a.natAbs b.natAbs;rcases Int.le_total 0 a with h|h
      .grind[Int.tmod_nonneg]
      .have Y:=Int.tmod_nonneg (a:=-a) b (by omega)
       grind [Int.neg_tmod]
     have Z:k.min<=0:=by cases k<;>decide
     have h5:0<=k.max:=by cases k<;>decide
     omega
   .cases op<;>simp[intCmp,intArith]at g u V<;>subst g<;>(refine⟨_,?_,rfl,?_⟩)<;>first|(simp[binOp,Op.intCmp,Op.intArith];done)|exact trivial|exact LF _ _|skip
    all_goals (simp[binOp,Op.intCmp];rw[Bool.eq_iff_iff];simp)
  .cases g
 .rename_i op k a Q b;simp[Ah]at l m;subst l;subst m;split at g
  .rename_i p;split at g
   .rename_i W u;simp at g;subst g;exact m9 p u
   .cases g
  .cases g
 .simp[Ah]at l m;subst l;subst m;simp at g;subst g;exact⟨_,by simp[eqGuard,binOp,Op.stringOp,beq_toListBytes],rfl,trivial⟩
 .simp[Ah]at l m;subst l;subst m;simp at g;subst g;exact⟨_,by simp[eqGuard,binOp,Op.stringOp,beq_toListBytes],rfl,trivial⟩
 .simp[Ah]at l m;subst l;subst m;rename_i R T;split at g
  .rename_i I;simp at g;subst g;have L:¬(((R.size+T.size:Nat):Int)>IntKind.i64.max):=by
    have hm:IntKind.i64.max=9223372036854775807:=by decide
    grind [Aj]
   refine ⟨_,by simp only[eqGuard,binOp,Op.stringOp];rw[ae L];simp,rfl,by simp[TV.WF];exact Sj I⟩
  .cases g
 .simp[Ah]at l m;subst l;subst m;simp at g;subst g;have M:P.underlying t=some .bool:=by
   grind [Mx]
  exact ⟨_,by simp[eqGuard_at_bool,binOp,Op.equal,Op.maxDepth,run_equalIn_bool' (P:=P) w _ t _ _ M],rfl,trivial⟩
 .simp[Ah]at l m;subst l;subst m;simp at g;subst g;have M:P.underlying t=some .bool:=by
   grind [Mx]
  exact ⟨_,by simp[eqGuard_at_bool,binOp,Op.equal,Op.maxDepth,run_equalIn_bool' (P:=P) w _ t _ _ M],rfl,trivial⟩
 .rename_i cs ds;split at g
  .rename_i J;split at g
   .rename_i q u;simp at g;subst g;obtain⟨xs,ys,rfl,rfl,C,D⟩:=VP (op:=.eql) (x:=x) (y:=y) J N l m u;exact⟨_,by simp[C,run_eql_struct,D],rfl,trivial⟩
   .cases g
  .cases g
 .rename_i cs ds;split at g
  .rename_i J;split at g
   .rename_i q u;simp at g;subst g;obtain⟨xs,ys,rfl,rfl,C,D⟩:=VP (op:=.neq) (x:=x) (y:=y) J N l m u;exact⟨_,by simp[C,run_neq_struct,D],rfl,trivial⟩
   .cases g
  .cases g
 .cases g
variable{y':AF}
theorem jn{S:FuncId->Fq->Am->Prop}{F0:Nat->Nat->Prop}{w0:W0}{U:AB}{a:Act}{G:BP}{d:Nat}{o:Oper}{K:EV->AB->Prop}(g:AO F0 w0 U a w G)(hd:d<a.tmps.size){x x':Operand}{k:BK}{op:BinOp}{t A:TypeId}
  (l:o.op=.binOp op t x x' A)(B:Mx P k t=true)(C:AI x y=true)(D:AI x' y'=true)(h:(AE.bin k op y y').wp S U (some d) K):Ax P F0 w0 a w o d K:=by
 simp [AE.wp]at h;split at h
 .rename_i E ty H I;cases m:Kn k op E ty with
  |none=>rw[m]at h;exact h.elim|some r=>
   rw [m]at h;have p:=Au g C H;have q:=Au g D I;obtain⟨v,u,J,L⟩:=m8 (x:=x) (y:=x') B m p.1 q.1 p.2 q.2;refine CY g hd (v:=v) ?_ J L h;simp only[execOp,l,Sem.run_bind]at u|-;rw[u];rfl
 .exact h.elim
end
end Go.Sf
namespace Go.Sf
open Go.RowKit (Below)
def Mz:Option Operand->Option AF->Bool
 |none,none=>true|some x,some y=>AI x y|_,_=>false
section
variable{P:Program}{S:FuncId->Fq->Am->Prop}{F0:Nat->Nat->Prop}{w0:W0}{U:AB}{a:Act}{w:World}{G:BP}{d:Nat}{o:Oper}{K:EV->AB->Prop}
theorem UB(h:AO F0 w0 U a w G){x:Option Operand}{y:Option AF}(g:Mz x y=true){k:IntKind}{q l:Int}(hv:Gi U q y=some (.int k l)):
  (x=none/\l=q)\/∃v m,x=some v/\a.eval v=.int m l:=by
 cases y with
 |none=>
  cases x<;>simp[Mz]at g;simp[Gi]at hv;exact .inl ⟨rfl,hv.2.symm⟩
 |some y=>
  cases x<;>simp[Mz]at g;rename_i v;have:=(Au h g (t:=.int k l) hv).1;simp[Ah]at this;exact .inr ⟨v,k,rfl,this⟩
theorem Rh{isS:Bool}{len cap:Nat}{lo hi:Option Value}{l h:Int}(q:0<=l)(r:l<=h)(u:h<=len)(A:len<=cap)
  (g:(lo=none/\l=0)\/∃k,lo=some (.int k l))(m:(hi=none/\h=len)\/∃k,hi=some (.int k h)):
  (Instr.sliceBounds isS len cap lo hi none).run P w=.ok (l.toNat,h.toNat,cap) w:=by
 rcases g with⟨rfl,rfl⟩|⟨k,rfl⟩<;>rcases m with⟨rfl,rfl⟩|⟨p,rfl⟩
 .simp[Instr.sliceBounds]
 .simp[Instr.sliceBounds,run_sliceBound (P:=P) w p h cap _ (by omega) (by omega)]
 .simp[Instr.sliceBounds,run_sliceBound (P:=P) w k l len _ (by omega) (by omega)]
 .simp[Instr.sliceBounds,run_sliceBound (P:=P) w p h cap _ (by omega) (by omega),run_sliceBound (P:=P) w k l h.toNat _ (by omega) (by omega)]
variable{x:Operand}{y:AF}{lo' hi':Option AF}{t:TypeId}{n:Nat}
theorem kM(H:AO F0 w0 U a w G)(hd:d<a.tmps.size){lo hi:Option Operand}(I:o.op=.slice t x lo hi none)(J:AI x y=true)(R:Mz lo lo'=true)(hh:Mz hi hi'=true)
  (A:H4 P t=some n)(h:(AE.xu n y lo' hi').wp S U (some d) K):Ax P F0 w0 a w o d K:=by
 simp [AE.wp]at h;split at h
 .rename_i m es hv;split at h
  .rename_i k1 l k2 C V W;obtain⟨⟨hm,h0,h1⟩,h2,hK⟩:=h;subst hm;have M:=Au H J hv;simp[Ah]at M;obtain⟨⟨r,cap,h4,h5,O,h7⟩,Q⟩:=M;have Z:=UB H R V;have b2:=UB H hh W;unfold H4 at A;split at A
   .rename_i e X;have D:=Rh (P:=P) (w:=w) (isS:=true) (lo:=lo.map a.eval) (hi:=hi.map a.eval) h0 h1 h2 h5
     (by rcases Z with⟨rfl,rfl⟩|⟨v,k',rfl,hv⟩<;>simp[*]) (by rcases b2 with⟨rfl,rfl⟩|⟨v,k',rfl,hv⟩<;>simp[*])
    refine CY H hd (v:=.slice (if cap=l.toNat then r else r.map (·.add (l.toNat*m))) (C.toNat-l.toNat) (cap-l.toNat)) (t:=.list m ((es.take C.toNat).drop l.toNat)) ?_ ?_ ?_ hK
    .simp[execOp,I,Instr.sliceAt,Instr.slice,run_underlying X,h4,D,B2 A]
    .simp only[Ah];refine⟨if cap=l.toNat then r else r.map (·.add (l.toNat*m)),cap-l.toNat,by simp;omega,by simp;omega,fun L=>?_,fun T g=>?_⟩
     .have p:es=[]\/l.toNat=C.toNat:=by
       split at L
       .exact .inl (O L)
       .cases r with
        |none=>exact .inl (O rfl)|some r=>simp at L
      rcases p with rfl|p
      .simp
      .apply List.eq_nil_of_length_eq_zero;simp;omega
     .by_cases N:cap=l.toNat
      .have q:(es.take C.toNat).drop l.toNat=[]:=by apply List.eq_nil_of_length_eq_zero;simp;omega
       rw [a6 N]at g;rw[q];exact⟨.inl rfl,trivial⟩
      .rw[ae N]at g;cases r with
       |none=>simp at g|some r=>
        simp at g;subst g;obtain⟨B,u⟩:=h7 r rfl;obtain⟨b,E,sp⟩:=r;simp only at B u;by_cases p:es=[]
        .have q:(es.take C.toNat).drop l.toNat=[]:=by rw[p];simp
         rw [q];exact⟨.inl rfl,trivial⟩
        have B:sp=none:=B.resolve_left p;subst B;rw[Addr.add_lit];refine⟨.inr rfl,?_⟩;rw[QJ]at u|-;intro i Y he;rw[List.getElem?_drop,List.getElem?_take]at he;split at he
        .have:=u (l.toNat+i) Y he
         rwa [show E+l.toNat*m+i*m=E+(l.toNat+i)*m from by rw[Nat.add_mul];omega]
        .cases he
    .simp only[TV.WF]at Q|-;refine⟨by simp;omega,?_⟩;have B:=Bj.1 Q.2;exact Bj.2 fun t A=>B t (List.mem_of_mem_take (List.mem_of_mem_drop A))
   .cases A
  .exact h.elim
 .exact h.elim
theorem gY(m:AO F0 w0 U a w G)(hd:d<a.tmps.size){lo hi:Option Operand}(p:o.op=.slice t x lo hi none)(q:AI x y=true)(A:Mz lo lo'=true)(hh:Mz hi hi'=true)
  (B:P.underlying t=some .string)(h:(AE.xi y lo' hi').wp S U (some d) K):Ax P F0 w0 a w o d K:=by
 simp [AE.wp]at h;split at h
 .rename_i s hv;split at h
  .rename_i O l Q u C D;obtain⟨I,J,L,M⟩:=h;have r:=Au m q hv;simp[Ah]at r;have E:=UB m A C;have H:=UB m hh D;have g:=Rh (P:=P) (w:=w) (isS:=false) (lo:=lo.map a.eval) (hi:=hi.map a.eval) I J L (az _)
     (by rcases E with⟨rfl,rfl⟩|⟨v,N,rfl,hv⟩<;>simp[*]) (by rcases H with⟨rfl,rfl⟩|⟨v,N,rfl,hv⟩<;>simp[*])
   refine CY m hd (v:=.string (s.extract l.toNat u.toNat)) (t:=.str (s.extract l.toNat u.toNat)) ?_ rfl ?_ M
   .simp[execOp,p,Instr.sliceAt,Instr.slice,run_underlying B,r.1,g]
   .have:=r.2;simp[TV.WF]at this|-;omega
  .exact h.elim
 .exact h.elim
variable{y':AF}
theorem cG(l:AO F0 w0 U a w G)(hd:d<a.tmps.size){x x':Operand}{mx:Bool}{ts:Array TypeId}
  (g:o.op=.call {callee:=.builtin (match mx with|true=>.max|false=>.min),args:=#[x,x'],argTypes:=ts})
  (u:AI x y=true)(A:AI x' y'=true)(h:(AE.mm mx y y').wp S U (some d) K):Ax P F0 w0 a w o d K:=by
 simp [AE.wp]at h;split at h
 .rename_i k p E q B C;obtain⟨rfl,D⟩:=h;have m:=Au l u B;have r:=Au l A C;simp[Ah,TV.WF]at m r;refine CY l hd (v:=.int k (if mx then max p q else min p q)) (t:=.int k (if mx then max p q else min p q)) ?_ rfl ?_ D
  .cases mx
   .simp[execOp,g,resolve,invoke,builtin,m.1,r.1,Builtin.min_,Builtin.min2];rw[Int.min_def];split<;>split<;>omega
   .simp[execOp,g,resolve,invoke,builtin,m.1,r.1,Builtin.max_,Builtin.max2];rw[Int.max_def];split<;>split<;>omega
  .simp[TV.WF];split<;>omega
 .exact h.elim
theorem gQ(g:AO F0 w0 U a w G)(hd:d<a.tmps.size)(l:o.op=.box t x)(m:AI x y=true)(h:(AE.yr y).wp S U (some d) K):Ax P F0 w0 a w o d K:=by
 simp [AE.wp]at h;split at h
 .rename_i u hv;have B:=Au g m hv;have r:Below w.heap.size w (w.alloc (.cells (a.eval x).cells t)):=(Below.refl _ _).alloc (az _) _;refine⟨.pointer (some ⟨w.heap.size,0,none⟩),w.alloc (.cells (a.eval x).cells t),by simp[execOp,l,Instr.box,newVar,newRow],_,_,h,g.tv r d hd (.pt u.cells) _ ?_ ?_⟩
  .simp only[Ah];refine⟨_,_,rfl,?_⟩;have p:=Jk (F0:=F0) (w0:=w0) (G:=G) r d (fun _=>none) (by simp)
   .have A:=GA B.1;refine QK (Ak p _ _ A.1) A.2 fun i v hi=>?_;have C:(w.alloc (.cells (a.eval x).cells t)).cell? ⟨w.heap.size,0+i,none⟩=some v:=by
     rw [World.cell?_alloc_new,Nat.zero_add];simpa using hi
    refine ⟨C,?_⟩;rintro(⟨q,_⟩|⟨s,j,lo,q,_⟩)
    .have:=g.below.size;omega
    .by_cases D:s=d
     .grind[Bq]
     .rw[A9 _ _ _ _ D]at q;have:=(g.lt _ _ _ _ q).1;omega
  grind [TV.WF,Hc]
 .exact h.elim
end
end Go.Sf
namespace Go.Sf
open Go.RowKit (Below)
def VG:List Value->Nat->List Value->List Value
 |cs,_,[]=>cs|cs,i,d::ds=>VG (cs.set i d) (i+1) ds
theorem Pz(g:Nat):∀(l:List Value)(k:Nat)(cells:Array Value),((l.zipIdx k).foldl (fun cs(x:Value×Nat)=>cs.setIfInBounds (g+x.2) x.1) cells).toList=VG cells.toList (g+k) l
 |[],_,_=>rfl|v::l,k,cells=>by
  simp [VG];rw[Pz g l (k+1)]
  grind
section
variable{w:World}{F:Nat->Nat->Prop}
variable{v:Value}
theorem dl{cs:Fq}{xs:List Value}(h:AQ w F cs xs)(i:Nat){t:TV}(g:Ah w F t v):AQ w F (cs.set i t) (xs.set i v):=by
 rw [BZ]at h|-
 grind
theorem WV:∀{ds:Fq}{ys:List Value}{cs:Fq}{xs:List Value}(i:Nat),AQ w F cs xs->AQ w F ds ys->AQ w F (N8 cs i ds) (VG xs i ys)
 |[],ys,cs,xs,i,h,hd=>by simp[AQ]at hd;subst hd;exact h|d::ds,ys,cs,xs,i,h,hd=>by
  simp [AQ]at hd;obtain⟨v,r,rfl,g,l⟩:=hd;exact WV (i+1) (dl h i g) l
theorem bi:∀(ys xs:List Value)(i:Nat),(∀x∈xs,x.oneCell'=true)->(∀y∈ys,y.oneCell'=true)->∀x∈VG xs i ys,x.oneCell'=true
 |[],_,_,h,_=>h|y::ys,xs,i,h,l=>by
  refine bi ys (xs.set i y) (i+1) (fun x m=>?_) (fun z g=>l z (by simp[g]))
  grind
theorem U5{place:Nat->Option (Nat×Nat)}:∀{ps:List (Nat×Value)}{ts:List (Nat×Nat×TV)}{cs cs':Fq}{xs:Array Value},AQ w F cs xs.toList->ps.length=ts.length ->
  (∀(j:Nat)(p:Nat×Value)(t:Nat×Nat×TV),ps[j]?=some p->ts[j]?=some t->place p.1=some (t.1,t.2.1)/\Ah w F t.2.2 p.2)->EP cs ts=some cs'->(∀x∈xs.toList,x.oneCell'=true) ->
  ∃xs',Instr.fill place xs ps=some xs'/\AQ w F cs' xs'.toList/\∀x∈xs'.toList,x.oneCell'=true
 |[],ts,cs,cs',xs,h,l,u,hf,ho=>by
  have:ts=[]:=List.eq_nil_of_length_eq_zero l.symm;subst this;simp[EP]at hf;subst hf;exact⟨xs,rfl,h,ho⟩
 |(i,v)::ps,[],_,_,_,_,l,_,_,_=>by simp at l|(i,v)::ps,(g,n,t)::ts,cs,cs',xs,h,l,u,hf,ho=>by
  simp only[EP]at hf;split at hf
  .rename_i J;obtain⟨B,r⟩:=u 0 _ _ rfl rfl;simp only at B r;have A:=(GA r).1;have C:=(GA r).2;have L:v.cells.size=n:=by have:=BE A;rw[Array.length_toList]at this;omega
   have D:=BE h;rw[Array.length_toList]at D;have E:AQ w F (N8 cs g t.cells) ((v.cells.zipIdx.foldl (fun cs(x:Value×Nat)=>cs.setIfInBounds (g+x.2) x.1) xs)).toList:=by
    have H:=WV g h A;rw[<-Array.foldl_toList,Array.toList_zipIdx,Pz,Nat.add_zero];exact H
   obtain ⟨xs',M,I⟩:=U5 E (by simpa using l) (fun j p t m q=>u (j+1) p t (by simpa using m) (by simpa using q)) hf (by
    rw [<-Array.foldl_toList,Array.toList_zipIdx,Pz,Nat.add_zero]
    grind [bi])
   refine ⟨xs',?_,I⟩;simp[Instr.fill,B]
   grind
  .cases hf
end
def MN(place:Nat->Option (Nat×Nat)):List (Nat×Operand)->List (Nat×Nat×AF)->Bool
 |[],[]=>true|(i,x)::ps,(off,n,y)::qs=>place i==some (off,n)&&AI x y&&MN place ps qs|_,_=>false
def dN(P:Program)(t:TypeId)(zero:Fq)(ps:List (Nat×Operand))(qs:List (Nat×Nat×AF)):Bool:=
 match P.info? t,P.underlying t with
 |some it,some (.array _ e)=>
  match it.zero,P.info? e with
  |some z,some ie=>JE zero z.cells.toList&&z.cells.toList.all Value.oneCell'&&MN (fun i=>some (i*ie.size,ie.size)) ps qs|_,_=>false
 |some it,some (.struct fields)=>
  match it.zero,fields.toList.mapM (fun f=>(P.info? f.type).map fun i=>(f.offset,i.size))with
  |some z,some places=>JE zero z.cells.toList&&z.cells.toList.all Value.oneCell'&&MN (places.toArray[·]?) ps qs|_,_=>false
 |_,_=>false
section
variable{P:Program}{S:FuncId->Fq->Am->Prop}{F0:Nat->Nat->Prop}{w0:W0}{U:AB}{a:Act}{w:World}{G:BP}{d:Nat}{o:Oper}{K:EV->AB->Prop}
theorem Xq(q:AO F0 w0 U a w G){place:Nat->Option (Nat×Nat)}:∀{ps:List (Nat×Operand)}{l:List (Nat×Nat×AF)}{ts:List (Nat×Nat×TV)},MN place ps l=true->EL U l=some ts ->
  ps.length=ts.length/\(∀(j:Nat)(p:Nat×Value)(t:Nat×Nat×TV),(ps.map fun(i,x)=>(i,a.eval x))[j]?=some p->ts[j]?=some t->place p.1=some (t.1,t.2.1)/\Ah w (AS w0.heap.size F0 G) t.2.2 p.2)/\∀t∈ts,t.2.2.WF
 |[],[],ts,_,h=>by simp[EL]at h;subst h;simp|[],_::_,_,h,_=>by simp[MN]at h|_::_,[],_,h,_=>by simp[MN]at h|(i,x)::ps,(A,n,y)::l,ts,g,h=>by
  simp [MN]at g;simp[EL]at h;split at h
  .rename_i t r u m;simp at h;subst h;obtain⟨C,D,E⟩:=Xq q g.2 m;have B:=Au q g.1.2 u
   grind
  .cases h
theorem cT:∀{ds cs:Fq}(i:Nat),TV.tn cs->TV.tn ds->TV.tn (N8 cs i ds)
 |[],_,_,h,_=>h|d::ds,cs,i,h,hd=>by
  refine cT (i+1) ?_ hd.2
  grind [Bj,List.mem_or_eq_of_mem_set]
theorem aN:∀{ts:List (Nat×Nat×TV)}{cs cs':Fq},TV.tn cs->(∀t∈ts,t.2.2.WF)->EP cs ts=some cs'->TV.tn cs'
 |[],cs,cs',h,_,hf=>by simp[EP]at hf;subst hf;exact h|(i,n,t)::ts,cs,cs',h,g,hf=>by
  simp only[EP]at hf;split at hf
  .exact aN (cT i h (Hc (g (i,n,t) (by simp)))) (fun u l=>g u (by simp[l])) hf
  .cases hf
variable{t:TypeId}{ps:Array (Nat×Operand)}
theorem jo(A:AO F0 w0 U a w G)(hd:d<a.tmps.size){zero:Fq}{m:List (Nat×Nat×AF)}(p:o.op=.build t ps)(q:dN P t zero ps.toList m=true)(h:(AE.yq zero m).wp S U (some d) K):Ax P F0 w0 a w o d K:=by
 simp [AE.wp]at h;cases g:EL U m with
 |none=>rw[g]at h;exact h.elim|some ts=>
  rw [g]at h;simp[AX]at h;cases l:EP zero ts with
  |none=>rw[l]at h;exact h.elim|some cs=>
   rw [l]at h;simp only at h;have key:∀(place:Nat->Option (Nat×Nat))(z:Array Value),JE zero z.toList=true->z.toList.all Value.oneCell'=true->MN place ps.toList m=true->∃xs',Instr.fill place z (ps.map fun(i,x)=>(i,a.eval x)).toList=some xs'/\AQ w (AS w0.heap.size F0 G) cs xs'.toList/\TV.tn cs/\xs'.toList.all Value.oneCell'=true:=by
    intro place z H r I;obtain⟨u,C,D⟩:=Xq A I g;have B:=Pf w (AS w0.heap.size F0 G) zero z.toList H;have J:(ps.map fun(i,x)=>(i,a.eval x)).toList=ps.toList.map fun(i,x)=>(i,a.eval x):=by simp
    rw [J];obtain⟨xs',L,M,N⟩:=U5 B.1 (by simpa using u) C l (fun x E=>List.all_eq_true.1 r x E)
    grind [aN,List.all_eq_true]
   have built:∃xs',P.built t (ps.map fun(i,x)=>(i,a.eval x)).toList=some xs'/\AQ w (AS w0.heap.size F0 G) cs xs'.toList/\TV.tn cs/\xs'.toList.all Value.oneCell'=true:=by
    unfold dN at q;unfold Program.built
    grind
   obtain ⟨xs',u,C,D,B⟩:=built;refine CY A hd (v:=.agg xs') (t:=.agg cs) ?_ ?_ (by simpa[TV.WF]using D) h
   .simp[execOp,p,run_build w t _ xs' u]
   grind [Ah]
variable{x:Operand}{n:Nat}
theorem X8(l:AO F0 w0 U a w G)(hd:d<a.tmps.size)(g:o.op=.move x\/o.op=.assign x)(m:∃v,x=.const v/\LQ v=true)(h:(AE.yw n).wp S U (some d) K):Ax P F0 w0 a w o d K:=by
 simp [AE.wp]at h;obtain⟨v,rfl,hv⟩:=m;refine⟨.slice none 0 0,w,?_,_,_,h,l.ow (Below.refl _ _) d hd (.list n []) _ none (by simp) ?_ ⟨by simp,trivial⟩⟩
 .rcases g with g|g<;>simp[execOp,g,Act.eval,I2 hv]
 .simp only[Bi];exact⟨[],⟨by simp,.inl ⟨rfl,rfl,rfl⟩⟩,rfl,by simp,by simp⟩
end
end Go.Sf
namespace Go.Sf
open Go.RowKit (Below)
theorem du(g:Fq)(x t:TV)(r:Fq):(g++x::r).set g.length t=g++t::r:=by grind
theorem Su:∀(ds g rest:Fq),ds.length<=rest.length->N8 (g++rest) g.length ds=g++ds++rest.drop ds.length
 |[],g,rest,_=>by simp[N8]|d::ds,g,[],h=>by simp at h|d::ds,g,x::rest,h=>by
  simp [N8,du];have:=Su ds (g++[d]) rest (by simpa using h)
  grind
def KO(n:Nat):Nat->Fq->List (Nat×Nat×TV)
 |_,[]=>[]|k,t::ts=>(k*n,n,t)::KO n (k+1) ts
theorem XQ(n:Nat):∀(ts g:Fq)(k:Nat),(∀t∈ts,t.cells.length=n)->g.length=k*n ->
  EP (g++List.replicate (ts.length*n) .undef) (KO n k ts)=some (g++ts.flatMap TV.cells)
 |[],g,k,_,_=>by simp[KO,EP]|t::ts,g,k,h,q=>by
  have m:t.cells.length=n:=h t (by simp);simp only[KO,EP];rw[a6 ⟨m,by simp[bk,List.length_replicate,cE,Nat.add_mul];omega⟩];rw[<-q,Su t.cells g _ (by simp[List.length_replicate,cE,Nat.add_mul];omega)];have p:(List.replicate ((t::ts).length*n) TV.undef).drop t.cells.length=List.replicate (ts.length*n) TV.undef:=by
   grind [cE,Nat.add_mul]
  rw [p];have:=XQ n ts (g++t.cells) (k+1) (fun x l=>h x (by simp[l])) (by simp[bk,Nat.add_mul];omega)
  grind
def RS:Nat->List (Nat×Operand)->List AF->Bool
 |_,[],[]=>true|k,(i,x)::ps,y::ys=>i==k&&AI x y&&RS (k+1) ps ys|_,_,_=>false
section
variable{P:Program}{S:FuncId->Fq->Am->Prop}{F0:Nat->Nat->Prop}{w0:W0}{U:AB}{a:Act}{w:World}{G:BP}{d:Nat}{o:Oper}{K:EV->AB->Prop}
theorem be(m:AO F0 w0 U a w G)(n:Nat):∀{k:Nat}{ps:List (Nat×Operand)}{ys:List AF}{ts:Fq},RS k ps ys=true->vals U ys=some ts ->
  ps.length=ts.length/\(∀(j:Nat)(p:Nat×Value)(t:Nat×Nat×TV),(ps.map fun(i,x)=>(i,a.eval x))[j]?=some p->(KO n k ts)[j]?=some t->(some (p.1*n,n):Option (Nat×Nat))=some (t.1,t.2.1)/\Ah w (AS w0.heap.size F0 G) t.2.2 p.2)/\TV.tn ts
 |_,[],[],ts,_,h=>by simp[vals]at h;subst h;simp[TV.tn]|_,[],_::_,_,h,_=>by simp[RS]at h|_,_::_,[],_,h,_=>by simp[RS]at h|k,(i,x)::ps,y::ys,ts,g,h=>by
  simp [RS]at g;simp[vals]at h;split at h
  .rename_i t q r l;simp at h;subst h;obtain⟨B,H,C⟩:=be m n g.2 l;have A:=Au m g.1.2 r;refine⟨by simp[B],fun j p u D E=>?_,A.2,C⟩
   grind [KO]
  .cases h
theorem P8(n:Nat):∀(k:Nat)(ts:Fq),(KO n k ts).length=ts.length
 |_,[]=>rfl|k,t::ts=>by simp[KO,P8 n (k+1) ts]
variable{n:Nat}{ts:Fq}{e:TypeId}
theorem mN{F:Nat->Nat->Prop}{cells:Array Value}(h:AQ (w.alloc (.cells cells e)) F (ts.flatMap TV.cells) cells.toList)(ho:∀x∈cells.toList,x.oneCell'=true)(l:∀t∈ts,t.cells.length=n)(m:ts.length<=maxLen):
  Bi (w.alloc (.cells cells e)) F (some (w.heap.size,ts.length*n)) (.list n ts) (.slice (some ⟨w.heap.size,0,none⟩) ts.length ts.length):=by
 have g:=BE h;rw[N5 n ts l]at g;simp[Bi];refine⟨cells.toList,⟨g,.inr ⟨w.heap.size,ts.length,cells,e,rfl,heap_alloc_new w _,az _,m,by simpa using g,?_,rfl⟩⟩,h,l,ho⟩;rw[<-g,List.take_length]
variable{t:TypeId}{ps:Array (Nat×Operand)}{ys:List AF}
theorem j8(R:AO F0 w0 U a w G)(hd:d<a.tmps.size){r:TypeInfo}{z:Value}{len n:Nat}(J:o.op=.buildSlice t len ps)(T:P.underlying t=some (.slice e))(u:P.info? e=some r)(hz:r.zero=some z)
  (V:r.size=n)(A:0<n)(W:z.cells.toList.all Value.oneCell'=true)(hzs:0<z.cells.size)(B:len=ps.size)(hsm:len*n<=2^ 24)(L:RS 0 ps.toList ys=true)(h:(AE.yI n ys).wp S U (some d) K):Ax P F0 w0 a w o d K:=by
 simp [AE.wp]at h;cases l:vals U ys with
 |none=>rw[l]at h;exact h.elim|some ts=>
  rw [l]at h;simp[AX]at h;obtain⟨Y,hK⟩:=h;obtain⟨Z,h2,h3⟩:=be R n L l;have M:len=ts.length:=by rw[B,<-Z];simp
  have N:(TV.list n ts).WF:=⟨by simp[Im];have:len*1<=len*n:=Nat.mul_le_mul_left _ A;omega,h3⟩;have O:ts.length<=maxLen:=by simp[maxLen];have:len*1<=len*n:=Nat.mul_le_mul_left _ A;omega
  have g:∃cells:Array Value,(Instr.buildSlice t len (ps.map fun(i,x)=>(i,a.eval x))).run P w=.ok (.slice (some ⟨w.heap.size,0,none⟩) len len) (w.alloc (.cells cells e))/\AQ w (AS w0.heap.size F0 G) (ts.flatMap TV.cells) cells.toList/\∀x∈cells.toList,x.oneCell'=true:=by
   by_cases h0:len=0
   .have Q:ps=#[]:=by apply Array.eq_empty_of_size_eq_zero;omega
    have D:ts=[]:=by apply List.eq_nil_of_length_eq_zero;omega
    subst Q;subst D;subst h0;refine⟨#[],?_,rfl,by simp⟩;simp[Instr.buildSlice,run_underlying T,sizeOf,typeInfo,u,Instr.fill,newRow]
    grind
   .have m:AQ w (AS w0.heap.size F0 G) (List.replicate (ts.length*n) .undef) ((Array.range (len*r.size)).map (z.cells[· % z.cells.size]!)).toList:=by
     grind [BZ,tg,Ah,Option.map_eq_some_iff,Nat.mod_lt,List.all_eq_true]
    have E:=XQ n ts [] 0 Y (by simp);simp at E;have p:∀x∈((Array.range (len*r.size)).map (z.cells[· % z.cells.size]!)).toList,x.oneCell'=true:=by
     grind [Nat.mod_lt,List.all_eq_true]
    obtain ⟨xs',h6,h7,h8⟩:=U5 (place:=fun i=>some (i*n,n)) m (by rw[P8];simpa using Z) h2 E p;refine⟨xs',run_buildSlice w t e len _ xs' r z T u hz (by rw[V];omega) ?_ ?_,h7,h8⟩
    .grind[Nat.mul_eq_zero]
    .rw[V]at h6|-;simpa using h6
  obtain ⟨cells,H,I,q⟩:=g;have X:Below w.heap.size w (w.alloc (.cells cells e)):=(Below.refl _ _).alloc (az _) _;refine⟨.slice (some ⟨w.heap.size,0,none⟩) len len,_,by simp[execOp,J,H],_,_,hK,R.ow X d hd (.list n ts) _ (some (w.heap.size,ts.length*n)) (fun b lo C=>?_) ?_ N⟩
  .simp at C;obtain⟨rfl,_⟩:=C;exact⟨az _,by simp⟩
  .rw[M];exact mN (Ak (Jk X d _ (fun i b lo h=>by
    grind)) _ _ I) q Y O
theorem AO.strip(h:AO F0 w0 U a w G)(s:Nat):AO F0 w0 (strip U s) a w G:=by
 refine ⟨h.ne,h.lt,h.below,h.defers,fun q l=>?_,fun q l=>?_,fun q=>?_⟩
 .simp only[Go.Sf.strip,AB.d4];split
  .rfl
  .exact h.dom q l
 .have:=h.slots q l;simp[Go.Sf.strip,AB.d4];split
  .trivial
  .refine AK.kept (Oy _ _) (fun _=>rfl) (fun _ _ _ _=>rfl) rfl BD.rfl' (fun r i k u⟨p,m⟩=>⟨⟨p,(AB.ws (by simp) m).2⟩,fun _ hv=>hv⟩) (fun r A u⟨cs,g⟩=>?_) (fun r i u⟨p,m⟩=>⟨⟨p,(AB.t5 (by simp) (by simp) m).2⟩,fun _ hv=>hv⟩) this
   .rw[AB.d4]at g;split at g
    .cases g
    .exact⟨⟨cs,g⟩,rfl⟩
 .simp[Go.Sf.strip,AB.d4];split
  .trivial
  .exact h.wf q
variable{s:Nat}
theorem AO.move(h:AO F0 w0 U a w G){t:TV}(N:U.get s=.ow t)(hd:d<a.tmps.size):
  ∃m,AO F0 w0 ((d,.ow t)::Go.Sf.strip U s) (a.put (some d) (slot a s)) w m/\BY w w (AS w0.heap.size F0 G) (AS w0.heap.size F0 m):=by
 have B:=AW h N (by simp);simp[AK]at B;have L:=h.wf s;rw[N]at L
 let zs:Option (Nat×Nat):=G s none
 let m:BP:=IU (IU G s (fun _=>none)) d (fun i=>if i=none then zs else none)
 have D:∀q i b lo,m q i=some (b,lo)->(q=d/\i=none/\G s none=some (b,lo))\/(q≠d/\q≠s/\G q i=some (b,lo)):=by
  intro q i b lo u;by_cases l:q=d
  .grind[Bq]
  .simp[m,A9 _ _ _ _ l]at u;by_cases T:q=s
   .grind[Bq]
   .rw[A9 _ _ _ _ T]at u
    grind
 have E:∀q i b lo,m q i=some (b,lo)->∃V W lo',G V W=some (b,lo')/\lo'<=lo:=by
  grind
 have H:BY w w (AS w0.heap.size F0 G) (AS w0.heap.size F0 m):=fun b o v Y hf=>⟨Y,fun O=>hf (AS.mono E O)⟩;refine⟨m,⟨?_,?_,h.below,by rw[EY];exact h.defers,?_,?_,?_⟩,H⟩
 .intro q i V W b lo lo' A C;rcases D _ _ _ _ A with⟨rfl,rfl,J⟩|⟨n1,n2,J⟩<;>rcases D _ _ _ _ C with⟨rfl,rfl,M⟩|⟨m1,m2,M⟩
  .exact⟨rfl,rfl⟩
  .exact absurd (h.ne _ _ _ _ _ _ _ J M).1.symm m2
  .exact absurd (h.ne _ _ _ _ _ _ _ J M).1 n2
  .exact h.ne _ _ _ _ _ _ _ J M
 .intro q i b lo A;rcases D _ _ _ _ A with⟨_,_,J⟩|⟨_,_,J⟩<;>exact h.lt _ _ _ _ J
 .intro q u;rw[Bc]at u;rw[AB.d4,ae (by omega)];exact(h.strip s).dom q u
 .intro q u;rw[Bc]at u;rw[AB.d4];by_cases l:d=q
  .subst l;rw[a6 rfl,Ce _ _ _ hd];simp[AK,m,Bq];exact B.kept H (fun _ _ _=>rfl)
  .rw[ae l,AV _ _ _ _ l];simp[Go.Sf.strip,AB.d4];split
   .trivial
   .rename_i R;refine AK.kept H (fun i=>?_) (fun _ _ _ _=>rfl) (Kd (Bc _ _ _) (fun q u=>by
     have hss:=Ba h N (by simp)
     grind [A9])) BD.rfl' (fun r i k X⟨p,Q⟩=>?_) (fun r Z X⟨cs,g⟩=>?_) (fun r i X⟨p,Q⟩=>?_) (h.slots q u)
    .simp[m];rw[A9 _ _ _ _ (fun e=>l e.symm),A9 _ _ _ _ (fun e=>R e.symm)]
    .have A:=AB.ws (by simp) Q;have C:=AB.ws (by simp) A.2;exact⟨⟨p,C.2⟩,h.nh ⟨p,C.2⟩ (AV _ _ _ _ A.1) (fun _ _ _ _=>rfl)⟩
    .rw[AB.d4]at g;by_cases I:d=r
     .rw[a6 I]at g;cases g
     .rw[ae I]at g;simp[AB.d4]at g;split at g
      .cases g
      .exact⟨⟨cs,g⟩,AV _ _ _ _ I⟩
    .have A:=AB.t5 (by simp) (by simp) Q;have C:=AB.t5 (by simp) (by simp) A.2;exact⟨⟨p,C.2⟩,h.xv ⟨p,C.2⟩ (AV _ _ _ _ A.1) (fun _ _=>rfl)⟩
 .intro q;rw[AB.d4];split
  .exact L
  .exact(h.strip s).wf q
theorem jg(a:Act)(d s:Nat)(v:Value)(h:d<a.tmps.size):slot (a.put (some d) v) s=if d=s then v else slot a s:=by grind[Ce,AV]
theorem AO.move'(h:AO F0 w0 U a w G){t:TV}(g:U.get s=.ow t)(hd:d<a.tmps.size):
  Bm F0 w0 ((d,.ow t)::(s,.tv t)::U) (a.put (some d) (slot a s)) w:=by
 obtain ⟨p,q,m⟩:=h.move g hd;have hv:=Au h (x:=.tmp s) (y:=.s s) (by simp[AI]) (t:=t) (by simp[AF.val,AF.ev,g,EV.val]);have l:=Ba h g (by simp);refine⟨p,q.rem s (t:=t) (by rw[Bc];exact l) ?_ hv.2 fun n=>?_⟩
 .have:slot (a.put (some d) (slot a s)) s=slot a s:=by rw[jg _ _ _ _ hd];split<;>rfl
  rw [this];exact B5 m _ _ hv.1
 .simp[Go.Sf.strip,AB.d4];split
  .exact .inl rfl
  .split
   .rename_i e;exact .inr ⟨e.symm,rfl⟩
   .exact .inl rfl
theorem cJ(m:AO F0 w0 U a w G)(hd:d<a.tmps.size)(g:o.op=.move (.tmp s)\/o.op=.assign (.tmp s))(h:(AE.tk s).wp S U (some d) K):Ax P F0 w0 a w o d K:=by
 simp [AE.wp]at h;have l:(execOp a.eval o).run P w=.ok (.value (slot a s)) w:=by
  rcases g with g|g<;>simp[execOp,g]<;>rfl
 split at h
 .rename_i t p;exact⟨_,_,l,_,_,h,m.move' p hd⟩
 .rename_i t p;have:=Au m (x:=.tmp s) (y:=.s s) (by simp[AI]) (t:=t) (by simp[AF.val,AF.ev,p,EV.val]);exact CY m hd l this.1 this.2 h
 .exact h.elim
end
end Go.Sf
