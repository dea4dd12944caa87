/- The checker's operands, and the operations that only compute or read. -/
import Derived.Test.YtbmgmpeimdomoaaGreatSfInv
import Derived.Laws.StructEq
import Derived.Laws.Tables
import Derived.Great.BuildSlice
set_option linter.all false
open Option renaming some->Y,none->W
open Bool renaming true->X,false->T
open List renaming getElem?_eq_getElem->w_,mem_of_getElem?->w!,getElem?_drop->w?,mem_of_mem_drop->x_,getElem?_take->x!,all_eq_true->x?,mem_of_mem_take->y_,map_take->y!,eq_nil_of_length_eq_zero->y?,replicate->z_,length_replicate->z!
open Bool renaming and_assoc->z?,eq_iff_iff->A_
open Array renaming length_toList->A',foldl_toList->A!,toList_zipIdx->A?,range->B_
open Nat renaming add_zero->B',add_mul->B!,mul_le_mul_left->B?
namespace Go.Sf
open Go.RowKit (Below)
def NF:Value->Bool
 |.slice W 0 0=>X|_=>T
variable{v:Value}
theorem KX(h:NF v=X):v=.slice W 0 0:=by grind[NF]
def pU(f:FuncId):Value->Bool
 |.func (.func g) first caps=>f==g&&first.size==0&&caps.size==0
 |_=>T
variable{f:FuncId}
theorem ta(h:pU f v=X):v=.func (.func f) #[] #[]:=by
 unfold pU at h
 grind
def kH(k:IntKind)(n:Int):Value->Bool
 |.int k' m=>k==k'&&n==m|_=>T
theorem pV{k:IntKind}{n:Int}(h:kH k n v=X):v=.int k n:=by
 unfold kH at h
 grind
def dk(b:Bool):Value->Bool
 |.bool c=>b==c|_=>T
variable{b:Bool}
theorem mU(h:dk b v=X):v=.bool b:=by
 unfold dk at h
 grind
def kI(s:ByteArray):Value->Bool
 |.string r=>s.data==r.data|_=>T
theorem pX{s:ByteArray}(h:kI s v=X):v=.string s:=by
 unfold kI at h
 grind [ByteArray.ext]
def jn:Value->Option (List Value)
 |.agg vs=>Y vs.toList|_=>W
theorem oj{l:List Value}(h:jn v=Y l):v=.agg l.toArray:=by
 unfold jn at h;split at h
 .simp at h;subst h;simp
 .cases h
mutual
def El:TV->Value->Bool
 |.int k n,v=>kH k n v&&decide (k.min<=n/\n<=k.max)|.bool b,v=>dk b v|.str s,v=>kI s v&&decide (s.size<=Kg)|.list _ es,v=>es.isEmpty&&NF v|.agg ts,v=>match jn v with|some vs=>Ki ts vs&&vs.all Value.oneCell'|none=>T
 |.clo f cs,v=>cs.isEmpty&&pU f v|.nil,v=>NF v|.undef,v=>v.oneCell'|_,_=>T
def Ki:Fq->List Value->Bool
 |[],vs=>vs.isEmpty|t::ts,vs=>match vs with|v::vs=>El t v&&Ki ts vs|[]=>T
end
mutual
theorem IE(w:World)(F:Nat->Nat->Prop):∀(t:TV)(v:Value),El t v=X->Aq w F t v/\t.WF
 |.undef,v,h=>by
  simp [El]at h;exact⟨by simpa[Aq]using h,trivial⟩
 |.xl _ _,v,h=>by simp[El]at h|.nil,v,h=>by
  simp [El]at h;exact⟨KX h,trivial⟩
 |.pt _,v,h=>by simp[El]at h|.int k n,v,h=>by
  simp [El,o4]at h;exact⟨pV h.1,h.2⟩
 |.bool b,v,h=>by
  simp [El]at h;exact⟨mU h,trivial⟩
 |.str s,v,h=>by
  simp [El,o4]at h;exact⟨pX h.1,h.2⟩
 |.list n es,v,h=>by
  simp [El]at h
  grind [TV.WF,TV.nm,Aq,KX]
 |.agg ts,v,h=>by
  simp [El]at h;split at h
  next vs hv=>rw[gR]at h;have:=RU w F ts vs h.1;refine⟨?_,by simpa[TV.WF]using this.2⟩;simp only[Aq];exact⟨_,oj hv,u',by simpa using h.2⟩
  .cases h
 |.clo f cs,v,h=>by
  simp [El]at h;obtain⟨rfl,h⟩:=h;refine⟨?_,by simp[TV.WF,TV.nm]⟩;simp[Aq];exact⟨#[],ta h,rfl⟩
theorem RU(w:World)(F:Nat->Nat->Prop):∀(ts:Fq)(vs:List Value),Ki ts vs=X->AR w F ts vs/\TV.nm ts
 |[],vs,h=>by simp[Ki]at h;subst h;exact⟨rfl,trivial⟩|t::ts,vs,h=>by
  cases vs with
  |nil=>simp[Ki]at h|cons v vs=>
   simp [Ki]at h;have g:=IE w F t v h.1;have l:=RU w F ts vs h.2;exact⟨⟨v,vs,rfl,g.1,l.1⟩,g.2,l.2⟩
end
def AK(x:Operand):AF->Bool
 |.s m=>match x with|.tmp n=>n==m|_=>T
 |.c t=>match x with|.const v=>El t v|.func f=>El t (.func (.func f) #[] #[])|_=>T
section
variable{F0:Nat->Nat->Prop}{w0:W0}{ε:AB}{a:Act}{w:World}{G:BX}
variable{s:Nat}
theorem Pa(h:AP F0 w0 ε a w G){i:Option Nat}:∀b lo o,G s i=Y (b,lo)->o<lo->¬AV w0.heap.size F0 G b o:=by
 intro b lo o l ho hf;rcases hf with⟨m,g⟩|⟨s',q,lo',p,r⟩
 .exact(h.lt _ _ _ _ l).2.elim (λe=>U) (λe=>h.below.free _ _ _ (e _ (R0 _)) g)
 .obtain⟨rfl,rfl⟩:=h.gk _ _ _ _ _ _ _ p l
  grind
variable{n:Nat}
theorem Bn(h:AP F0 w0 ε a w G){e:EV}(he:ε.get n=e)(g:e≠.undef):n<a.tmps.size:=by
 rcases Nat.lt_or_ge n a.tmps.size with l|m
 .exact l
 .exact absurd ((h.dom n m).symm.trans he).symm g
theorem Ah(h:AP F0 w0 ε a w G){e:EV}(he:ε.get n=e)(g:e≠.undef):AM a w (AV w0.heap.size F0 G) G ε n e (slot a n):=by
 have:=h.slots n (Bn h he g)
 rwa [he]at this
theorem oY(g:AP F0 w0 ε a w G){x:AF}{row:Fq}(h:x.val ε=Y (.pt row)):x.ev ε=.tv (.pt row):=by
 cases x with
 |c t=>simpa[AF.val,AF.ev,EV.val]using h|s n=>
  simp [AF.val,AF.ev]at h|-;cases he:ε.get n with
  |tv t=>rw[he]at h;simpa[EV.val]using h|ow t=>
   rw [he]at h;have m:t=.pt row:=by simpa[EV.val]using h
   subst m;by_cases l:n<a.tmps.size
   .have:=g.slots n l;rw[he]at this;simp[AM,Bu]at this
   .rw[g.dom n (Nat.le_of_not_lt l)]at he;cases he
  |_=>rw[he]at h;simp[EV.val]at h
variable{x:Operand}{y:AF}
theorem Az(h:AP F0 w0 ε a w G)(l:AK x y=X){t:TV}(hv:y.val ε=Y t):Aq w (AV w0.heap.size F0 G) t (a.eval x)/\t.WF:=by
 cases y with
 |s m=>
  cases x<;>simp[AK]at l;subst l;rename_i n;simp[AF.val,AF.ev]at hv;have p:=h.wf n;cases he:ε.get n with
  |tv r=>
   rw [he]at hv p;simp[EV.val]at hv;subst hv;exact⟨Ah h he V,p⟩
  |ow r=>
   rw [he]at hv p;simp[EV.val]at hv;subst hv;exact⟨Bu.rep (Ah h he V) (λb lo o u ho=>Pa h b lo o u ho),p⟩
  |undef=>rw[he]at hv;simp[EV.val]at hv|sk=>rw[he]at hv;simp[EV.val]at hv|xo n es=>rw[he]at hv;simp[EV.val]at hv|la q i=>rw[he]at hv;simp[EV.val]at hv|oag cs=>rw[he]at hv;simp[EV.val]at hv|xn es=>rw[he]at hv;simp[EV.val]at hv|x1 n B=>rw[he]at hv;simp[EV.val]at hv|mx m=>rw[he]at hv;simp[EV.val]at hv|nh q i k=>rw[he]at hv;simp[EV.val]at hv|lp q i c=>rw[he]at hv;simp[EV.val]at hv|bx cs=>rw[he]at hv;simp[EV.val]at hv|bp q A=>rw[he]at hv;simp[EV.val]at hv|tp ts=>rw[he]at hv;simp[EV.val]at hv
 |c r=>
  simp [AF.val,AF.ev,EV.val]at hv;subst hv;cases x with
  |const v=>exact IE w _ _ _ l|func f=>exact IE w _ _ _ l|tmp n=>simp[AK]at l|global g=>simp[AK]at l
theorem Y9(h:AP F0 w0 ε a w G)(g:AK x y=X){t:TV}(hv:y.ev ε=.tv t):Aq w (AV w0.heap.size F0 G) t (a.eval x)/\t.WF:=by grind[Az,AF.val,EV.val]
def Bj:List Operand->List AF->Bool
 |[],[]=>X|x::xs,y::ys=>AK x y&&Bj xs ys|_,_=>T
theorem GZ(h:AP F0 w0 ε a w G):∀{xs:List Operand}{ys:List AF},Bj xs ys=X->∀{ts:Fq},vals ε ys=Y ts->AR w (AV w0.heap.size F0 G) ts (xs.map a.eval)/\TV.nm ts
 |[],[],_,ts,hv=>by simp[vals]at hv;subst hv;exact⟨rfl,trivial⟩|[],_::_,g,_,_=>by simp[Bj]at g|_::_,[],g,_,_=>by simp[Bj]at g|x::xs,y::ys,g,ts,hv=>by
  simp [Bj]at g;simp[vals]at hv;split at hv
  next t q r l=>simp at hv;subst hv;have m:=Az h g.1 r;have p:=GZ h g.2 l;exact⟨⟨_,_,rfl,m.1,p.1⟩,m.2,p.2⟩
  .cases hv
end
theorem M5(k:IntKind)(n:Int):k.min<=k.wrap n/\k.wrap n<=k.max:=by
 cases k<;>simp only[IntKind.min,IntKind.max,IntKind.wrap,IntKind.signed,IntKind.bits,Bool.true_and,Bool.false_and]<;>simp<;>(try split)<;>omega
end Go.Sf
namespace Go.Sf
open Go.RowKit (Below)
def DF(P:Program)(t:TypeId):Option Nat:=(P.info? t).map (·.size)
def CF(P:Program)(t:TypeId):I1:=
 match P.underlying t with
 |some (.struct _)|some (.array _ _)=>Y X|some _=>Y T|none=>W
def JN(P:Program)(t:TypeId):Option Nat:=
 match P.underlying t with
 |some (.slice e)=>DF P e|_=>W
def QD(P:Program)(t:TypeId)(f:Nat):Option Nat:=
 match P.underlying t with
 |some (.struct fs)=>match fs[f]? with
  |some x=>match DF P x.type with
   |some 0=>W|some _=>Y x.offset|none=>W
  |none=>W
 |_=>W
section
variable{P:Program}{w:World}
variable{t:TypeId}{n:Nat}
theorem CL(h:DF P t=Y n):(sizeOf t).run P w=.ok n w:=by
 simp only[DF,Option.map_eq_some_iff]at h;obtain⟨i,hi,rfl⟩:=h;simp[sizeOf,typeInfo,hi]
variable{b:Bool}
theorem C1(h:CF P t=Y b):(isAgg t).run P w=.ok b w:=by
 unfold CF at h;unfold isAgg underlying;simp only[Sem.run_bind,run_program,Result.andThen_ok];cases g:P.underlying t with
 |none=>rw[g]at h;simp at h|some d=>
  rw [g]at h;cases d<;>simp_all
theorem VZ{f k b o:Nat}(h:QD P t f=Y k):
  (Instr.fieldAt t (.pointer (Y ⟨b,o,W⟩)) f).run P w=.ok (.pointer (Y ⟨b,o+k,W⟩)) w:=by
 unfold QD at h;split at h
 .rename_i r l;split at h
  .rename_i x m;split at h
   .cases h
   next n p q=>simp only[mE]at h;subst h;have g:¬(n=0):=λe=>p (by rw[e]);simp[Instr.fieldAt,run_underlying l,m,Instr.sureAddr,fieldPlace,CL q,g,Addr.add_lit]
   .cases h
  .cases h
 .cases h
variable{ts:Fq}
theorem T7{F:Nat->Nat->Prop}{b o:Nat}(h:Db w F ts b o):∃vs:List Value,AR w F ts vs/\(∀x∈vs,x.oneCell'=X)/\∀(j:Nat)(v:Value),vs[j]?=Y v->w.cell? ((⟨b,o,W⟩:Addr).add j)=Y v:=by
 induction ts generalizing o with
 |nil=>exact⟨[],rfl,V,V⟩|cons t ts C=>
  simp only[Db]at h;obtain⟨⟨v,l,D,m,p⟩,q⟩:=h;obtain⟨vs,r,A,B⟩:=C q;refine⟨v::vs,⟨v,vs,rfl,p,r⟩,by simp only[List.mem_cons,forall_eq_or_imp];exact⟨m,A⟩,λj u g=>?_⟩;rw[Addr.add_lit];cases j with
  |zero=>simp at g;subst g;exact l|succ j=>
   have:=B j u p!;rw[Addr.add_lit]at this
   grind
theorem BM{F:Nat->Nat->Prop}{vs:List Value}(h:AR w F ts vs):vs.length=ts.length:=((Bm ts vs).1 h).1
variable{v:Value}
theorem lD{F:Nat->Nat->Prop}{es:Fq}{k:IntKind}{j:Int}(l:JN P t=Y n)(h:Aq w F (.list n es) v)(H:0<=j){e:TV}(he:es[j.toNat]?=Y e):
  ∃p,(Instr.indexAt t v (.int k j)).run P w=.ok p w/\Aq w F (.pt e.cells) p:=by
 simp only[Aq]at h;obtain⟨a,cap,rfl,_,C,D⟩:=h;have g:j.toNat<es.length:=by
  grind
 cases a with
 |none=>have:=C rfl;subst this;simp at g|some r=>
  obtain ⟨m,q⟩:=D r rfl;obtain⟨b,o,E⟩:=r;simp only at m q;have m:E=W:=m.resolve_left (λe=>by subst e;simp at g);subst m;unfold JN at l;split at l
  .rename_i el u;rw[SM]at q;have A:=q j.toNat e he;have B:0<=j/\j<(es.length:Int):=U
   refine ⟨.pointer (Y ⟨b,o+j.toNat*n,W⟩),?_,?_⟩
   .simp[Instr.indexAt,asIntOf,run_underlying u,B,CL l,Addr.add_lit]
   .simp only[Aq];exact⟨b,_,rfl,A.1⟩
  .cases l
end
end Go.Sf
namespace Go.Sf
open Go.RowKit (Below)
def A3(P:Program)(F0:Nat->Nat->Prop)(w0:W0)(a:Act)(w:World)(o:Oper)(d:Nat)(K:EV->AB->Prop):Prop:=
 ∃v w',(execOp a.eval o).run P w=.ok (.value v) w'/\∃e env',K e env'/\Bw F0 w0 ((d,e)::env') (a.put (Y d) v) w'
theorem Bt:∀{l:Fq},TV.nm l↔∀t∈l,t.WF
 |[]=>by simp[TV.nm]|t::l=>by simp[TV.nm,Bt (l:=l)]
theorem Is{t:TV}(h:t.WF):TV.nm t.cells:=by
 cases t with
 |agg cs=>exact h|_=>exact⟨h,trivial⟩
section
variable{P:Program}{S:FuncId->Fq->As->Prop}{F0:Nat->Nat->Prop}{w0:W0}{ε:AB}{a:Act}{w:World}{G:BX}{d:Nat}{o:Oper}{K:EV->AB->Prop}
variable{v:Value}
theorem Cx(h:AP F0 w0 ε a w G)(hd:d<a.tmps.size){t:TV}(g:(execOp a.eval o).run P w=.ok (.value v) w)
  (l:Aq w (AV w0.heap.size F0 G) t v)(m:t.WF)(p:K (.tv t) ε):A3 P F0 w0 a w o d K:=
 ⟨v,w,g,_,_,p,h.tv_same d hd t v l m⟩
variable{x:Operand}{y:AF}
theorem jK(p:AP F0 w0 ε a w G)(hd:d<a.tmps.size)(g:o.op=.move x\/o.op=.assign x)(l:AK x y=X)(h:(AE.mv y).wp S ε (Y d) K):A3 P F0 w0 a w o d K:=by
 simp [AE.wp]at h;have hv:(∃t,y.val ε=Y t/\K (.tv t) ε)\/∃ts,y.ev ε=.tp ts/\K (.tp ts) ε:=by
  unfold AF.val;split at h<;>first|exact h.elim|(rename_i t he;exact .inl ⟨t,by rw[he];rfl,h⟩)|(rename_i t he;exact .inr ⟨t,he,h⟩)
 have m:(execOp a.eval o).run P w=.ok (.value (a.eval x)) w:=by rcases g with g|g<;>simp[execOp,g]
 rcases hv with⟨t,hv,C⟩|⟨ts,hv,C⟩
 .have:=Az p l hv
  grind [Cx]
 .cases y with
  |c t=>simp[AF.ev]at hv|s n=>
   have E:x=.tmp n:=by
    cases x<;>simp[AK]at l;rw[l]
   subst E;simp[AF.ev]at hv;have A:=Ah p hv V;have B:=p.wf n;rw[hv]at B;refine⟨_,w,m,_,_,C,⟨_,p.quiet (Below.refl _ _) d hd (.tp ts) _ (λ_=>W) V V V ?_ B⟩⟩;simp[AM]at A|-;obtain⟨vs,I,J⟩:=A;refine⟨vs,I,Ar (λb o u D hf=>⟨D,λr=>hf ?_⟩) _ _ J⟩;rcases r with q|⟨s,i,lo,q,L⟩
   .exact .inl q
   .by_cases H:s=d
    .grind[B6]
    .rw[BE _ _ _ _ H]at q;exact .inr ⟨s,i,lo,q,L⟩
theorem oL(l:AP F0 w0 ε a w G)(hd:d<a.tmps.size){c x x':Operand}{c' y y':AF}(m:o.op=.pick c x x')(r:AK c c'=X)(B:AK x y=X)(C:AK x' y'=X)
  (h:(AE.pick c' y y').wp S ε (Y d) K):A3 P F0 w0 a w o d K:=by
 simp [AE.wp]at h;split at h
 .rename_i q u;have g:=(Az l r u).1;simp[Aq]at g;have p:AK (if q then x else x') (if q then y else y')=X:=by cases q<;>assumption
  have hv:∃t,(if q then y else y').val ε=Y t/\K (.tv t) ε:=by
   unfold AF.val;split at h<;>first|exact h.elim|(rename_i t he;exact⟨t,by rw[he];rfl,h⟩)
  obtain ⟨t,hv,A⟩:=hv;have:=Az l p hv;refine Cx l hd (v:=a.eval (if q then x else x')) ?_ this.1 this.2 A;cases q<;>simp[execOp,m,g,asBool]
 .exact h.elim
variable{t:TypeId}
theorem rf(m:AP F0 w0 ε a w G)(hd:d<a.tmps.size)(g:o.op=.unOp .not t x)(l:AK x y=X)(h:(AE.not y).wp S ε (Y d) K):A3 P F0 w0 a w o d K:=by
 simp [AE.wp]at h;split at h
 next b hv=>have:=(Az m l hv).1;simp[Aq]at this;exact Cx m hd (v:=.bool !b) (t:=.bool !b) (by simp[execOp,g,this,Op.unary]) rfl trivial h
 .exact h.elim
theorem rb(m:AP F0 w0 ε a w G)(hd:d<a.tmps.size)(g:o.op=.unOp .neg t x)(l:AK x y=X)(h:(AE.neg y).wp S ε (Y d) K):A3 P F0 w0 a w o d K:=by
 simp [AE.wp]at h;split at h
 next k n hv=>have:=(Az m l hv).1;simp[Aq]at this;exact Cx m hd (v:=.int k (k.wrap (-n))) (t:=.int k (k.wrap (-n))) (by simp[execOp,g,this,Op.unary,Op.intArith]) rfl (M5 k _) h
 .exact h.elim
theorem rF(m:AP F0 w0 ε a w G)(hd:d<a.tmps.size){s t:TypeId}{k p:IntKind}(g:o.op=.convert s t x)(q:P.underlying s=Y (.int p))(r:P.underlying t=Y (.int k))(l:AK x y=X)(h:(AE.cvt k y).wp S ε (Y d) K):A3 P F0 w0 a w o d K:=by
 simp [AE.wp]at h;split at h
 next u n hv=>have:=(Az m l hv).1;simp[Aq]at this;refine Cx m hd (v:=.int k (k.wrap n)) (t:=.int k (k.wrap n)) ?_ rfl (M5 k _) h;simp[execOp,g,this,convert,run_underlying q,run_underlying r,Conv.intToInt]
 .exact h.elim
variable{f:FuncId}{ys:List AF}
theorem rA(m:AP F0 w0 ε a w G)(hd:d<a.tmps.size){xs:Array Operand}(g:o.op=.makeFunc (.func f) #[] xs)(l:Bj xs.toList ys=X)(h:(AE.clo f ys).wp S ε (Y d) K):A3 P F0 w0 a w o d K:=by
 simp [AE.wp]at h;cases hv:vals ε ys with
 |none=>rw[hv]at h;exact h.elim|some ts=>
  rw [hv]at h;have:=GZ m l hv;refine Cx m hd (v:=.func (.func f) #[] (xs.map a.eval)) (by simp[execOp,g,Instr.makeFunc]) ?_ (by simpa[TV.WF]using this.2) h;simp only[Aq];exact⟨_,rfl,u'⟩
theorem rG(l:AP F0 w0 ε a w G)(hd:d<a.tmps.size){s i:Nat}(m:o.op=.extract (.tmp s) i)(h:(AE.ext (.s s) i).wp S ε (Y d) K):A3 P F0 w0 a w o d K:=by
 simp [AE.wp,AF.ev]at h;split at h
 .rename_i ts hv;cases g:ts[i]? with
  |none=>rw[g]at h;exact h.elim|some t=>
   rw [g]at h;have q:=Ah l hv V;have r:=l.wf s;rw[hv]at r;simp[AM]at q;obtain⟨vs,C,u⟩:=q;rw[Bm]at u;have A:i<ts.length:=by
    grind
   have B:vs.toList[i]?=Y (vs.toList[i]' U):=w_ U;have p:vs[i]?=Y (vs.toList[i]' U):=V
   refine Cx l hd (v:=vs.toList[i]' U) ?_ (u.2 i t _ g B) ?_ h
   .simp[execOp,m,show a.eval (.tmp s)=slot a s from rfl,C,Instr.extract,p]
   .exact Bt.1 r t (w! g)
 .exact h.elim
variable{e:TypeId}
theorem rP(m:AP F0 w0 ε a w G)(hd:d<a.tmps.size)(g:o.op=.call {callee:=.builtin .len,args:=#[x],argTypes:=#[t]})(l:AK x y=X)
  (he:P.underlying t=Y (.slice e))(h:(AE.len y).wp S ε (Y d) K):A3 P F0 w0 a w o d K:=by
 simp only[AE.wp]at h;split at h
 next n es hv=>have:=Az m l hv;simp only[Aq,TV.WF,Kg]at this;obtain⟨⟨q,cap,p,_⟩,r⟩:=this;refine Cx m hd (v:=.int .i64 es.length) (t:=.int .i64 es.length) ?_ rfl ⟨l',s?⟩ h;simp[execOp,g,resolve,invoke,builtin,Builtin.len_,run_underlying he,p,goInt]
 .exact h.elim
theorem oN(m:AP F0 w0 ε a w G)(hd:d<a.tmps.size)(g:o.op=.call {callee:=.builtin .len,args:=#[x],argTypes:=#[t]})(l:AK x y=X)
  (he:P.underlying t=Y .string)(h:(AE.AbG y).wp S ε (Y d) K):A3 P F0 w0 a w o d K:=by
 simp only[AE.wp]at h;split at h
 next s hv=>have:=Az m l hv;simp only[Aq,TV.WF,Kg]at this;refine Cx m hd (v:=.int .i64 s.size) (t:=.int .i64 s.size) ?_ rfl ⟨l',s?⟩ h;simp[execOp,g,resolve,invoke,builtin,Builtin.len_,run_underlying he,this.1,goInt]
 .exact h.elim
end
end Go.Sf
namespace Go.Sf
open Go.RowKit (Below)
section
variable{P:Program}{S:FuncId->Fq->As->Prop}{F0:Nat->Nat->Prop}{w0:W0}{ε:AB}{a:Act}{w:World}{G:BX}{d:Nat}{o:Oper}{K:EV->AB->Prop}
variable{s:Nat}{ρ:IV}{c:AO}
theorem Xe(g:AP F0 w0 ε a w G){i:Option Nat}{x:Value}(h:BF w (AV w0.heap.size F0 G) ρ (G s i) c x):Aq w (AV w0.heap.size F0 G) c.t x:=by
 obtain ⟨_|_,t⟩:=c
 .exact h.1
 .exact Ef.rep h (λb lo o l ho=>Pa g b lo o l ho)
variable{z:Option (Nat×Nat)}
theorem Wu{F:Nat->Nat->Prop}{t:TV}{x:Value}(h:Bu w F z t x):x.oneCell'=X:=by
 cases t<;>simp[Bu]at h;obtain⟨xs,l,_⟩:=h;rcases l.2 with⟨rfl,_⟩|⟨g,cap,m,e,rfl,_⟩<;>rfl
theorem pu{F:Nat->Nat->Prop}{es:Fq}{x:Value}(h:GD w F ρ z es x):x.oneCell'=X:=by
 obtain ⟨xs,⟨p,l,_⟩,_⟩:=h;rcases l.2 with⟨rfl,_⟩|⟨g,cap,m,e,rfl,_⟩<;>rfl
theorem PZ{F:Nat->Nat->Prop}{t:TV}{x:Value}(h:Ef w F ρ z t x):x.oneCell'=X:=by
 by_cases l:∃es,t=.xn es
 .obtain⟨es,rfl⟩:=l;exact pu h
 by_cases m:∃n es,t=.xl n es
 .obtain⟨n,es,rfl⟩:=m;simp[Ef,KZ]at h;obtain⟨xs,⟨r,p,_⟩,_⟩:=h;rcases p.2 with⟨rfl,_⟩|⟨g,cap,q,e,rfl,_⟩<;>rfl
 .refine Wu (w:=w) (F:=F) (z:=z) (t:=t) ?_;cases t<;>first|exact h|exact absurd ⟨_,_,rfl⟩ m|exact absurd ⟨_,rfl⟩ l
theorem Hj{F:Nat->Nat->Prop}{x:Value}(h:BF w F ρ z c x):x.oneCell'=X:=by
 obtain ⟨_|_,t⟩:=c
 .exact h.2
 .exact PZ h
variable{x:Operand}{y:AF}
theorem Rt(C:AP F0 w0 ε a w G)(D:AK x y=X){cs:Fq}(g:A9 ε (y.ev ε)=Y cs):
  ∃b o vs,a.eval x=.pointer (Y ⟨b,o,W⟩)/\AR w (AV w0.heap.size F0 G) cs vs/\TV.nm cs/\(∀x∈vs,x.oneCell'=X)/\∀(j:Nat)(v:Value),vs[j]?=Y v->w.cell? ((⟨b,o,W⟩:Addr).add j)=Y v:=by
 have box:∀(s h:Nat)(ds:List AO),ε.get s=.bx ds->∃b vs,slot a s=.pointer (Y ⟨b,0,W⟩)/\AR w (AV w0.heap.size F0 G) ((ds.drop h).map (·.t)) vs/\TV.nm ((ds.drop h).map (·.t))/\(∀x∈vs,x.oneCell'=X)/\∀(j:Nat)(v:Value),vs[j]?=Y v->w.cell? ((⟨b,h,W⟩:Addr).add j)=Y v:=by
  intro s h ds M;have p:=Ah C M V;have I:=C.wf s;rw[M]at I;simp only[AM]at p;obtain⟨b,c,θ,r,u,E,B,A⟩:=p;refine⟨b,c.toList.drop h,r,?_,?_,?_,?_⟩
  .rw[Bm];refine⟨by simp[E],λi t v H hv=>?_⟩;simp[List.getElem?_map,w?]at H hv;obtain⟨cell,l,rfl⟩:=H;obtain⟨x,N,p⟩:=A (h+i) cell l;have:x=v:=by
    grind
   subst this;exact Xe C p
  .rw[Bt];intro t H;simp only[List.mem_map]at H;obtain⟨cell,l,rfl⟩:=H;exact I cell (x_ l)
  .intro x N;obtain⟨i,hi,rfl⟩:=List.getElem_of_mem N;rw[List.getElem_drop];have Q:h+i<c.size:=by simp at hi;omega
   have R:ds[h+i]?=Y (ds[h+i]' U):=w_ U
   grind [Array.getElem?_eq_getElem,Hj]
  .intro j v hv;rw[w?]at hv;rw[Addr.add_lit,cell_of_row w b (h+j) c θ (0,0) u];simpa using hv
 cases y with
 |c t=>
  simp [AF.ev]at g;cases t<;>simp[A9]at g;subst g;have:=Az C D (t:=.pt _) rfl;simp[Aq,TV.WF]at this;obtain⟨⟨b,o,r,u⟩,E⟩:=this;obtain⟨vs,B,J,A⟩:=T7 u;exact⟨b,o,vs,r,B,E,J,A⟩
 |s n=>
  cases x<;>simp[AK]at D;subst D;rename_i n;simp[AF.ev]at g;cases he:ε.get n with
  |tv t=>
   rw [he]at g;cases t<;>simp[A9]at g;subst g;have p:=Ah C he V;have I:=C.wf n;rw[he]at I;simp[AM,Aq]at p;obtain⟨b,o,r,u⟩:=p;obtain⟨vs,B,J,A⟩:=T7 u;exact⟨b,o,vs,r,B,by simpa[EV.WF,TV.WF]using I,J,A⟩
  |bx ds=>
   rw [he]at g;simp[A9]at g;subst g;obtain⟨b,vs,r,u,E,L,B⟩:=box n 0 ds he;exact⟨b,0,vs,r,e_,by simpa using E,L,B⟩
  |bp q h=>
   rw [he]at g;simp only[A9]at g;split at g
   next ds O=>simp only[mE]at g;subst g;obtain⟨b,vs,r,u,E,L,B⟩:=box q h ds O;have p:=Ah C he V;simp only[AM]at p;obtain⟨κ,A,J⟩:=p ⟨ds,O⟩;rw[r]at A;simp at A;subst A;exact⟨b,h,vs,J,u,E,L,B⟩
   .cases g
  |undef=>rw[he]at g;simp[A9]at g|sk=>rw[he]at g;simp[A9]at g|xo n es=>rw[he]at g;simp[A9]at g|la q i=>rw[he]at g;simp[A9]at g|oag cs=>rw[he]at g;simp[A9]at g|xn es=>rw[he]at g;simp[A9]at g|x1 n η=>rw[he]at g;simp[A9]at g|mx m=>rw[he]at g;simp[A9]at g|nh q i k=>rw[he]at g;simp[A9]at g|lp q i c=>rw[he]at g;simp[A9]at g|ow t=>rw[he]at g;simp[A9]at g|tp ts=>rw[he]at g;simp[A9]at g
variable{t:TypeId}
theorem uv(p:AP F0 w0 ε a w G)(hd:d<a.tmps.size)(g:o.op=.load t x)(l:AK x y=X)(B:CF P t=Y T)(h:(AE.ld y).wp S ε (Y d) K):A3 P F0 w0 a w o d K:=by
 simp [AE.wp]at h;cases m:A9 ε (y.ev ε)with
 |none=>rw[m]at h;exact h.elim|some cs=>
  rw [m]at h;simp[Aj]at h;obtain⟨b,C,vs,D,A,E,_,H⟩:=Rt p l m;cases cs with
  |nil=>simp[Fo]at h|cons u r=>
   simp [Fo]at h;replace h:=h.2;simp[AR]at A;obtain⟨v,J,rfl,I,L⟩:=A;have q:=H 0 v rfl;rw[Addr.add_zero']at q;refine Cx p hd (v:=v) ?_ I E.1 h;simp[execOp,g,D,Instr.loadAt,Instr.sureAddr,loadVar,C1 B,q]
variable{n:Nat}
theorem YG(r:AP F0 w0 ε a w G)(hd:d<a.tmps.size)(l:o.op=.load t x)(m:AK x y=X)(u:CF P t=Y X)(A:DF P t=Y n)(h:(AE.lda y n).wp S ε (Y d) K):A3 P F0 w0 a w o d K:=by
 simp [AE.wp]at h;cases p:A9 ε (y.ev ε)with
 |none=>rw[p]at h;exact h.elim|some cs=>
  rw [p]at h;simp[Aj]at h;obtain⟨b,q,vs,B,C,I,D,E⟩:=Rt r m p;have H:=BM C;have g:=run_loadCells_list (P:=P) w ⟨b,q,W⟩ (vs.take n) (λj v hv=>E j v (by rw[x!]at hv;split at hv<;>simp_all));rw[aN,Nat.min_eq_left U]at g;refine Cx r hd (v:=.agg (vs.take n).toArray) (t:=.agg (cs.take n)) ?_ ?_ ?_ h.2
  .simp[execOp,l,B,Instr.loadAt,Instr.sureAddr,loadVar,C1 u,CL A,g]
  .grind[Aq,x?,y_,Bm]
  grind [TV.WF,Bt,y_]
variable{i:Operand}{j:AF}
theorem rH(l:AP F0 w0 ε a w G)(hd:d<a.tmps.size)(q:o.op=.indexAddr t x i)(r:AK x y=X)(g:AK i j=X)(A:JN P t=Y n)(h:(AE.iad y j n).wp S ε (Y d) K):A3 P F0 w0 a w o d K:=by
 simp [AE.wp]at h;split at h
 .rename_i m es k L B C;obtain⟨rfl,E,e,he,H⟩:=h;have D:=Az l r B;have u:=Az l g C;simp[Aq]at u;obtain⟨p,I,J⟩:=lD (P:=P) (k:=k) A D.1 E he;refine Cx l hd (v:=p) (by simp[execOp,q,u.1,I]) J ?_ H
  grind [TV.WF,Bt,w!,Is]
 .exact h.elim
theorem oM(l:AP F0 w0 ε a w G)(hd:d<a.tmps.size)(m:o.op=.index t x i)(p:AK x y=X)(g:AK i j=X)(u:P.underlying t=Y .string)(h:(AE.Aau y j).wp S ε (Y d) K):A3 P F0 w0 a w o d K:=by
 simp [AE.wp]at h;split at h
 .rename_i s k H A B;obtain⟨C,b,D,E⟩:=h;have q:=Az l p A;have r:=Az l g B;simp[Aq]at q r;refine Cx l hd (v:=.int .u8 b.toNat) (t:=.int .u8 b.toNat) ?_ rfl ⟨by simp[IntKind.min,IntKind.signed],?_⟩ E
  .simp[execOp,m,q.1,r.1,Instr.index,asIntOf,run_underlying u,C,D]
  .have:=b.toNat_lt;simp[IntKind.max,IntKind.signed,IntKind.bits];omega
 .exact h.elim
theorem Zj{f k:Nat}(l:o.op=.fieldAddr t x f)(m:QD P t f=Y k):∀b g,a.eval x=.pointer (Y ⟨b,g,W⟩)->(execOp a.eval o).run P w=.ok (.value (.pointer (Y ⟨b,g+k,W⟩))) w:=by
 intro b g h;simp[execOp,l,h,VZ m]
theorem RC(g:o.op=.move x\/o.op=.assign x\/o.op=.nilCheck x):∀b l,a.eval x=.pointer (Y ⟨b,l,W⟩)->(execOp a.eval o).run P w=.ok (.value (.pointer (Y ⟨b,l+0,W⟩))) w:=by
 intro b l h;rcases g with g|g|g<;>simp[execOp,g,h]
variable{k:Nat}
theorem Rk(p:AP F0 w0 ε a w G)(hd:d<a.tmps.size)(l:∀b g,a.eval x=.pointer (Y ⟨b,g,W⟩)->(execOp a.eval o).run P w=.ok (.value (.pointer (Y ⟨b,g+k,W⟩))) w)(m:AK x y=X)(h:(AE.fad y k).wp S ε (Y d) K):A3 P F0 w0 a w o d K:=by
 simp [AE.wp]at h;split at h
 .rename_i row he;have u:=Y9 p m he;simp[Aq,TV.WF]at u;obtain⟨⟨b,g,C,D⟩,H⟩:=u;refine Cx p hd (v:=.pointer (Y ⟨b,g+k,W⟩)) (t:=.pt (row.drop k)) (l _ _ C) ?_ ?_ h
  .simp only[Aq];exact⟨b,_,rfl,P1 D k⟩
  grind [TV.WF,Bt,x_]
 .rename_i q g he;cases y with
  |c t=>simp[AF.ev]at he|s n=>
   cases x<;>simp[AK]at m;subst m;rename_i n;simp[AF.ev]at he;have A:=Ah p he V;simp only[AM]at A;split at h
   .rename_i r B;obtain⟨b,I,E⟩:=A ⟨r,B⟩;refine⟨.pointer (Y ⟨b,g+k,W⟩),w,l _ _ E,_,_,h,_,p.quiet (Below.refl _ _) d hd (.bp q (g+k)) _ (λ_=>W) V V V ?_ trivial⟩
    grind [AM,AB.bq,AX]
   .exact h.elim
 .exact h.elim
theorem Rj(m:AP F0 w0 ε a w G)(hd:d<a.tmps.size)(l:∀b g,a.eval (.tmp s)=.pointer (Y ⟨b,g,W⟩)->(execOp a.eval o).run P w=.ok (.value (.pointer (Y ⟨b,g+k,W⟩))) w)(h:(AE.bad s k).wp S ε (Y d) K):A3 P F0 w0 a w o d K:=by
 simp [AE.wp]at h;split at h
 .rename_i cs he;have q:=Ah m he V;simp only[AM]at q;obtain⟨b,c,θ,p,_⟩:=q;refine⟨.pointer (Y ⟨b,0+k,W⟩),w,l _ _ p,_,_,h,_,m.quiet (Below.refl _ _) d hd (.bp s k) _ (λ_=>W) V V V ?_ trivial⟩
  grind [AM,AB.bq,AX]
 .rename_i row he;have p:=Y9 m (x:=.tmp s) (y:=.s s) so he;simp[Aq,TV.WF]at p;obtain⟨⟨b,g,r,u⟩,A⟩:=p;refine Cx m hd (v:=.pointer (Y ⟨b,g+k,W⟩)) (t:=.pt (row.drop k)) (l _ _ r) ?_ ?_ h
  .simp only[Aq];exact⟨b,_,rfl,P1 u k⟩
  grind [TV.WF,Bt,x_]
 .exact h.elim
variable{e:TypeId}
theorem qx(p:AP F0 w0 ε a w G)(hd:d<a.tmps.size)(q:o.op=.indexAddr t x i)(r:AK x y=X)(l:AK i j=X)(u:P.underlying t=Y (.array k e))(D:DF P e=Y n)
  (h:(AE.aad y j n k).wp S ε (Y d) K):A3 P F0 w0 a w o d K:=by
 simp [AE.wp]at h;split at h
 .rename_i row O m E A;obtain⟨I,J,Q,L⟩:=h;have B:=(Az p l A).1;simp[Aq]at B;have H:∃b g,a.eval x=.pointer (Y ⟨b,g,W⟩)/\Db w (AV w0.heap.size F0 G) row b g/\TV.nm row:=by
   have:=Y9 p r E
   grind [Aq,TV.WF]
  obtain ⟨b,g,M,N,C⟩:=H;have A:0<=m/\m<(k:Int):=⟨I,J⟩;refine Cx p hd (v:=.pointer (Y ⟨b,g+m.toNat*n,W⟩)) (t:=.pt (row.drop (m.toNat*n))) ?_ ?_ ?_ L
  .simp[execOp,q,B,M,Instr.indexAt,asIntOf,run_underlying u,A,Instr.sureAddr,CL D,Addr.add_lit]
  .simp only[Aq];exact⟨b,_,rfl,P1 N _⟩
  .simp[TV.WF];rw[Bt]at C|-;exact λt u=>C t (x_ u)
 .exact h.elim
def kN(P:Program)(t:TypeId)(j:Operand)(k:Nat):Bool:=
 match j,P.underlying t with
 |.const (.int _ i),Y (.array m e)=>decide (0<=i)&&decide (i<(m:Int))&&(match DF P e with
  |some n=>i.toNat*n==k|none=>T)
 |_,_=>T
theorem tA{P:Program}{o:Oper}{a:Act}{w:World}{j:Operand}(q:o.op=.indexAddr t (.tmp s) j)(g:kN P t j k=X)(b l:Nat)(h:a.eval (.tmp s)=.pointer (Y ⟨b,l,W⟩)):(execOp a.eval o).run P w=.ok (.value (.pointer (Y ⟨b,l+k,W⟩))) w:=by
 unfold kN at g;split at g
 .rename_i r i m e u;simp[o4]at g;obtain⟨⟨D,E⟩,p⟩:=g;split at p
  next n A=>simp at p;subst p;have B:0<=i/\i<(m:Int):=⟨D,E⟩;have C:a.eval (.const (.int r i))=.int r i:=rfl;simp[execOp,q,h,C,Instr.indexAt,asIntOf,run_underlying u,B,Instr.sureAddr,CL A,Addr.add_lit]
  .cases p
 .cases g
def Ux(g:TypeId->Option I2)(P:Program):List Field->Nat->Option I2
 |[],_=>Y []|f::fs,off=>match g f.type with
  |some ks=>if(f.name≠ "_" /\f.offset=off)/\DF P f.type=Y ks.length then(match Ux g P fs (off+ks.length)with|some r=>Y (ks ++ r)|none=>W)else W
  |none=>W
def Qt(P:Program):Nat->TypeId->Option I2
 |0,_=>W|k+1,t=>match P.underlying t with
  |some (.int _)=>Y [0]|some .string=>Y [1]|some .bool=>Y [2]|some (.struct fs)=>if P.stoodInHeld t then W else Ux (Qt P k) P fs.toList 0|_=>W
def On(P:Program):BK->TypeId->Bool
 |.i,_=>X|.s,_=>X|.w,_=>X|.b,t=>match P.underlying t with|some .bool=>X|_=>T
 |.a n,t=>CF P t==Y X&&!P.eqGuardType P.depth t&&Qt P 8 t==Y n
def TV.tn:TV->Value
 |.int k n=>.int k n|.str s=>.string s|.bool b=>.bool b|_=>Go.undef
def TV.x5:TV->Bool
 |.int _ _=>X|.str _=>X|.bool _=>X|_=>T
theorem SY:∀{cs ds:Fq}{r:Bool},CO cs ds=Y r->cs.length=ds.length/\(∀t∈cs,t.x5=X)/\(∀t∈ds,t.x5=X)
 |[],[],_,_=>by simp|[],_::_,_,h=>by simp[CO]at h|c::cs,[],_,h=>by cases c<;>simp[CO]at h
 |c::cs,d::ds,r,h=>by
  have key:∀l,CO cs ds=Y l->c.x5=X->d.x5=X->(c::cs).length=(d::ds).length/\(∀t∈c::cs,t.x5=X)/\(∀t∈d::ds,t.x5=X):=by
   intro l g m p;obtain⟨u,A,B⟩:=SY g
   grind
  cases c<;>cases d<;>simp only[CO,reduceCtorEq]at h
  .split at h
   .split at h
    next q g=>exact key q g rfl rfl
    .cases h
   .cases h
  .split at h
   next q g=>exact key q g rfl rfl
   .cases h
  .split at h
   next q g=>exact key q g rfl rfl
   .cases h
variable{v:Value}
theorem qZ{F:Nat->Nat->Prop}{t:TV}(g:t.x5=X)(h:Aq w F t v):v=t.tn:=by
 cases t<;>simp[TV.x5]at g<;>exact h
theorem Si{F:Nat->Nat->Prop}:∀{cs:Fq}{xs:List Value},(∀t∈cs,t.x5=X)->AR w F cs xs->xs=cs.map TV.tn
 |[],_,_,h=>h|c::cs,xs,g,h=>by
  simp [AR]at h;obtain⟨v,r,rfl,m,p⟩:=h;rw[qZ (g c V) m,Si (λt l=>g t (by simp[l])) p];rfl
theorem Oc:∀(m:Nat){cs ds:Fq}{r:Bool},CO cs ds=Y r->∃g l,CO (cs.take m) (ds.take m)=Y g/\CO (cs.drop m) (ds.drop m)=Y l/\r=(g&&l)
 |0,cs,ds,r,h=>⟨X,r,by simp[CO],c!,V⟩|m+1,[],[],r,h=>by
  grind
 |m+1,[],_::_,_,h=>by simp[CO]at h|m+1,c::cs,[],_,h=>by cases c<;>simp[CO]at h
 |m+1,c::cs,d::ds,r,h=>by
  cases c<;>cases d<;>simp only[CO,reduceCtorEq]at h
  .split at h
   .rename_i C;split at h
    .rename_i q p;obtain⟨g,l,u,A,B⟩:=Oc m p
     grind [mE,CO,z?]
    .cases h
   .cases h
  .split at h
   .rename_i q p;obtain⟨g,l,u,A,B⟩:=Oc m p
    grind [mE,CO,z?]
   .cases h
  .split at h
   .rename_i q p;obtain⟨g,l,u,A,B⟩:=Oc m p
    grind [mE,CO,z?]
   .cases h
def Nv(P:Program)(t:TypeId)(vs:List Value):Value:=if CF P t=Y X then .agg vs.toArray else vs.headD Go.undef
theorem R1:∀{cs ds:Fq}{r:Bool},CO cs ds=Y r->ds.map TV.kd=cs.map TV.kd
 |[],[],_,_=>rfl|[],_::_,_,h=>by simp[CO]at h|c::cs,[],_,h=>by cases c<;>simp[CO]at h
 |c::cs,d::ds,r,h=>by
  cases c<;>cases d<;>simp only[CO,reduceCtorEq]at h
  .split at h
   .split at h
    next q g=>simp[R1 g,TV.kd]
    .cases h
   .cases h
  .split at h
   next q g=>simp[R1 g,TV.kd]
   .cases h
  .split at h
   next q g=>simp[R1 g,TV.kd]
   .cases h
theorem aO(k:Nat)(Q:∀(t:TypeId)(n:I2),Qt P k t=Y n->∀d,k<=d->∀(cs ds:Fq)(r:Bool),cs.map TV.kd=n->CO cs ds=Y r->(Op.equalIn d t (Nv P t (cs.map TV.tn)) (Nv P t (ds.map TV.tn))).run P w=.ok r w):
  ∀(E:List Field)(m:Nat)(n:I2),Ux (Qt P k) P E m=Y n->∀d,k<=d->∀(pre l:List Value)(cs ds:Fq)(r:Bool),pre.length=m->l.length=m->cs.map TV.kd=n->CO cs ds=Y r ->
   (Op.eqFields d (pre++cs.map TV.tn).toArray (l++ds.map TV.tn).toArray E).run P w=.ok r w
 |[],m,n,hf,d,hd,pre,l,cs,ds,r,η,ζ,D,h=>by
  simp [Ux]at hf;subst hf;have:cs=[]:=List.map_eq_nil_iff.1 D;subst this;cases ds<;>simp[CO]at h;subst h;simp[Op.eqFields]
 |f::E,m,n,hf,d,hd,pre,l,cs,ds,r,η,ζ,D,h=>by
  simp [Ux]at hf;split at hf
  .rename_i g q;split at hf
   .rename_i δ;split at hf
    .rename_i rest C;simp at hf;subst hf;obtain⟨⟨hn,ho⟩,N⟩:=δ;have Z:cs.length=g.length+rest.length:=by
      have:=congrArg List.length D;simpa using this
     obtain ⟨κ,r2,e1,e2,rfl⟩:=Oc g.length h;have θ:=(SY h).1;have hdl:ds.length=g.length+rest.length:=U
     have L:(cs.take g.length).map TV.kd=g:=by rw[y!,D,List.take_left'];rfl
     have M:(cs.drop g.length).map TV.kd=rest:=by rw[List.map_drop,D,List.drop_left'];rfl
     have hi:=Q f.type g q d hd (cs.take g.length) (ds.take g.length) κ L e1;have B:=aO k Q E (m+g.length) rest C d hd (pre++(cs.take g.length).map TV.tn) (l++(ds.take g.length).map TV.tn) (cs.drop g.length) (ds.drop g.length) r2 an an M e2;have u:∀(pre:List Value)(cs:Fq),pre++(cs.take g.length).map TV.tn++(cs.drop g.length).map TV.tn=pre++cs.map TV.tn:=by
      intro pre cs;rw[ae,<-List.map_append,List.take_append_drop]
     rw [u,u]at B;have A:∀(pre:List Value)(cs:Fq),pre.length=m->g.length<=cs.length->(0<g.length\/CF P f.type=Y X)->(∃b,CF P f.type=Y b)->(part f.type (pre++cs.map TV.tn).toArray f.offset).run P w=.ok (Nv P f.type ((cs.take g.length).map TV.tn)) w:=by
      intro pre cs R I J p;obtain⟨b,p⟩:=p;cases b with
      |true=>
       simp only[part,Sem.run_bind,C1 p,Result.andThen_ok,if_true,CL N,Sem.run_pure,Nv,p];congr 2;rw[List.extract_toArray,List.extract_eq_take_drop,ho,<-R,List.drop_left,Nat.add_sub_cancel_left,<-y!]
      |false=>
       have h0:0<g.length:=by
        rcases J with h|h
        .exact h
        .rw[p]at h;cases h
       cases cs with
       |nil=>exact absurd (Nat.lt_of_lt_of_le h0 I) V|cons c cs=>
        obtain ⟨m',O⟩:∃m',g.length=m'+1:=⟨g.length-1,U⟩;have:((pre++(c::cs).map TV.tn).toArray)[f.offset]?=Y c.tn:=by
         rw [List.getElem?_toArray,ho,<-R,List.getElem?_append_right (R0 _),Nat.sub_self];rfl
        simp only[part,Sem.run_bind,C1 p,Result.andThen_ok,Bool.false_eq_true,if_false,this,Sem.run_pure,Nv,p,O];simp
     have p:(∃b,CF P f.type=Y b)/\(0<g.length\/CF P f.type=Y X):=by
      cases k with
      |zero=>simp[Qt]at q|succ k=>
       simp [Qt]at q;unfold CF;split at q<;>rename_i H
       .simp at q;subst q;rw[H];exact⟨⟨_,rfl⟩,.inl V⟩
       .simp at q;subst q;rw[H];exact⟨⟨_,rfl⟩,.inl V⟩
       .simp at q;subst q;rw[H];exact⟨⟨_,rfl⟩,.inl V⟩
       .rw[H];exact⟨⟨_,rfl⟩,.inr rfl⟩
       .cases q
     have p1:=A pre cs η U p.2 p.1;have p2:=A l ds ζ U p.2 p.1;simp only[Op.eqFields,Sem.run_bind,Sem.run_ite,Ne hn,p1,p2,hi,Result.andThen_ok];cases κ with
     |true=>simpa using B|false=>simp
    .cases hf
   .cases hf
  .cases hf
theorem l5(a b:ByteArray):(a.toList==b.toList)=decide (a=b):=by
 rw [A_,beq_iff_eq,o4];refine⟨λh=>?_,λh=>by rw[h]⟩;rw[ByteArray.toList_eq,ByteArray.toList_eq]at h;cases a;cases b;simpa using h
theorem iF:∀(k:Nat)(t:TypeId)(n:I2),Qt P k t=Y n->∀d,k<=d->∀(cs ds:Fq)(r:Bool),cs.map TV.kd=n->CO cs ds=Y r->(Op.equalIn d t (Nv P t (cs.map TV.tn)) (Nv P t (ds.map TV.tn))).run P w=.ok r w
 |0,_,_,h,_,_,_,_,_,_,_=>by simp[Qt]at h|k+1,t,n,hf,d,hd,cs,ds,r,E,h=>by
  obtain ⟨d,rfl⟩:∃I,d=I+1:=⟨d-1,U⟩;have C:=R1 h;simp[Qt]at hf;have one:∀x,n=[x]->CF P t=Y T->∃c e,cs=[c]/\ds=[e]/\c.kd=x/\e.kd=x/\Nv P t (cs.map TV.tn)=c.tn/\Nv P t (ds.map TV.tn)=e.tn:=by
   intro x J N;rw[J]at E
   match cs,ds,E,C with
   |[c],[e],A,B=>
    grind [List.cons.injEq,Nv]
   |[],_,A,_=>simp at A|[c],[],_,B=>simp at B|[c],_::_::_,_,B=>simp at B|_::_::_,_,A,_=>simp at A
  split at hf<;>rename_i g
  .simp at hf;obtain⟨c,e,rfl,rfl,m,p,q,u⟩:=one 0 hf.symm (by simp[CF,g]);rw[q,u];cases c<;>first|(simp[TV.kd]at m;done)|skip
   cases e<;>first|(simp[TV.kd]at p;done)|skip
   simp only[CO]at h;split at h
   next L=>subst L;simp at h;simp[TV.tn];rw[run_equalIn_int (P:=P) w d t _ _ _ _ g,<-h];congr 1
   .cases h
  .simp at hf;obtain⟨c,e,rfl,rfl,m,p,q,u⟩:=one 1 hf.symm (by simp[CF,g]);rw[q,u];cases c<;>first|(simp[TV.kd]at m;done)|skip
   cases e<;>first|(simp[TV.kd]at p;done)|skip
   simp [CO]at h;simp[TV.tn];rw[run_equalIn_string (P:=P) w d t _ _ g,<-h]
   grind [l5]
  .simp at hf;obtain⟨c,e,rfl,rfl,m,p,q,u⟩:=one 2 hf.symm (by simp[CF,g]);rw[q,u];cases c<;>first|(simp[TV.kd]at m;done)|skip
   cases e<;>first|(simp[TV.kd]at p;done)|skip
   simp [CO]at h;simp[TV.tn];rw[run_equalIn_bool' (P:=P) w d t _ _ g,<-h];congr 1
  .split at hf
   .cases hf
   .rename_i H M;have D:CF P t=Y X:=by simp[CF,g]
    have l:P.fieldsOf t=H:=by simp[Program.fieldsOf,g]
    simp [Nv,D];rw[run_equalIn_struct w d t _ _ (by rw[l];exact g) (by simpa using M),l];exact aO k (iF k) H.toList 0 n hf d U [] [] cs ds r rfl rfl E h
  .cases hf
variable{vx vy:Value}
theorem YC{op:BinOp}{x y:Operand}{cs ds:Fq}{q:Bool}{n:I2}(D:cs.map TV.kd=n){F:Nat->Nat->Prop}(u:On P (.a n) t=X)(g:Aq w F (.agg cs) vx)(h:Aq w F (.agg ds) vy)(A:CO cs ds=Y q):
  ∃xs ys,vx=.agg xs/\vy=.agg ys/\(eqGuard op t x y (.agg xs) (.agg ys)).run P w=.ok () w/\(Op.equalIn 10000 t (.agg xs) (.agg ys)).run P w=.ok q w:=by
 simp [Aq]at g h;obtain⟨xs,rfl,g,_⟩:=g;obtain⟨ys,rfl,h,_⟩:=h;simp only[On,gR,Bool.not_eq_true']at u;obtain⟨⟨B,E⟩,C⟩:=u;obtain⟨H,p,r⟩:=SY A;refine⟨xs,ys,rfl,rfl,run_eqGuard_agg w op t x y xs ys E,?_⟩;simp at B C;have l:=Si p g;have m:=Si r h;have:=iF (P:=P) (w:=w) 8 t n C 10000 U cs ds q D A;simp[Nv,B,<-l,<-m]at this;simpa using this
theorem uk{op:BinOp}{x y:Operand}{k m:IntKind}{a b r:Int}{F:Nat->Nat->Prop}(p:k=m\/op=.shl\/op=.shr)(l:NE k op a b=Y r):
  ∃v,(do eqGuard op t x y (.int k a) (.int m b);binOp op t (.int k a) (.int m b):Sem Value).run P w=.ok v w/\Aq w F (.int k r) v/\(TV.int k r).WF:=by
 have g:∀(op:BinOp)(q:Value),k=m->(op=.and\/op=.or\/op=.xor\/op=.andNot)->(Op.intBits op k a b).run P w=.ok q w->(do eqGuard op t x y (.int k a) (.int m b);binOp op t (.int k a) (.int m b):Sem Value).run P w=.ok q w:=by
  intro op q e ho h;subst e;rcases ho with rfl|rfl|rfl|rfl<;>simpa[eqGuard,binOp]using h
 cases op<;>simp only[NE]at l<;>try(cases l;done)
 case and=>cases l;exact⟨_,g _ _ v5 V rfl,rfl,M5 _ _⟩
 case or=>cases l;exact⟨_,g _ _ v5 V rfl,rfl,M5 _ _⟩
 case xor=>cases l;exact⟨_,g _ _ v5 V rfl,rfl,M5 _ _⟩
 case andNot=>cases l;exact⟨_,g _ _ v5 V rfl,rfl,M5 _ _⟩
 case shl=>
  split at l
  next u=>cases l;exact⟨_,by simp[eqGuard,binOp,Op.shift,Int.not_lt.2 u],rfl,M5 _ _⟩
  .cases l
 case shr=>
  split at l
  next u=>cases l;exact⟨_,by simp[eqGuard,binOp,Op.shift,Int.not_lt.2 u.1],rfl,u.2⟩
  .cases l
theorem uj{k:BK}{op:BinOp}{x y:Operand}{E ty r:TV}{F:Nat->Nat->Prop}(N:On P k t=X)(g:Mb k op E ty=Y r)(l:Aq w F E vx)(m:Aq w F ty vy)(H:E.WF)(O:ty.WF):
  ∃v,(do eqGuard op t x y vx vy;binOp op t vx vy:Sem Value).run P w=.ok v w/\Aq w F r v/\r.WF:=by
 unfold Mb at g;split at g
 .rename_i k a Q b;simp[Aq]at l m;subst l;subst m;split at g
  .rename_i p;subst p;rw[Sem.run_bind,eqGuard_at_int,Sem.run_pure,Result.andThen_ok];have B:op=.quo\/op=.rem\/(op≠.quo/\op≠.rem):=by cases op<;>simp
   rcases B with rfl|rfl|⟨u,κ⟩
   .by_cases A:b=0
    .simp[intCmp,intArith,A]at g
    .simp[intCmp,intArith,A]at g;subst g;exact⟨_,by simp[binOp,Op.intDiv,A],rfl,M5 _ _⟩
   .by_cases A:b=0
    .simp[intCmp,intArith,A]at g
    .simp[intCmp,intArith,A]at g;subst g;refine⟨_,by simp[binOp,Op.intDiv,A],rfl,?_⟩;simp[TV.WF]at H|-;have C:a.tmod b<=max a 0/\min a 0<=a.tmod b:=by
      have D:=Int.natAbs_tmod a b;have ζ:=Nat.mod_le a.natAbs b.natAbs;rcases Int.le_total 0 a with h|h
      .grind[Int.tmod_nonneg]
      .have δ:=Int.tmod_nonneg (a:=-a) b U
       grind [Int.neg_tmod]
     have Z:k.min<=0:=by cases k<;>decide
     have h5:0<=k.max:=by cases k<;>decide
     omega
   .cases op<;>simp[intCmp,intArith]at g u κ<;>subst g<;>(refine⟨_,?_,rfl,?_⟩)<;>first|(simp[binOp,Op.intCmp,Op.intArith];done)|exact trivial|exact M5 _ _|skip
    all_goals (simp[binOp,Op.intCmp];rw[A_];simp)
  .cases g
 .rename_i op k a Q b;simp[Aq]at l m;subst l;subst m;split at g
  .rename_i p;split at g
   next η u=>simp at g;subst g;exact uk p u
   .cases g
  .cases g
 .simp[Aq]at l m;subst l;subst m;simp at g;subst g;exact⟨_,by simp[eqGuard,binOp,Op.stringOp,beq_toListBytes],rfl,trivial⟩
 .simp[Aq]at l m;subst l;subst m;simp at g;subst g;exact⟨_,by simp[eqGuard,binOp,Op.stringOp,beq_toListBytes],rfl,trivial⟩
 .simp[Aq]at l m;subst l;subst m;rename_i R θ;split at g
  .rename_i I;simp at g;subst g;have L:¬(((R.size+θ.size:Nat):Int)>IntKind.i64.max):=by
    have hm:IntKind.i64.max=9223372036854775807:=a_
    grind [AW]
   refine ⟨_,by simp only[eqGuard,binOp,Op.stringOp];rw[QQ L];simp,rfl,by simp[TV.WF];exact VF I⟩
  .cases g
 .simp[Aq]at l m;subst l;subst m;simp at g;subst g;have M:P.underlying t=Y .bool:=by
   grind [On]
  exact ⟨_,by simp[eqGuard_at_bool,binOp,Op.equal,Op.maxDepth,run_equalIn_bool' (P:=P) w _ t _ _ M],rfl,trivial⟩
 .simp[Aq]at l m;subst l;subst m;simp at g;subst g;have M:P.underlying t=Y .bool:=by
   grind [On]
  exact ⟨_,by simp[eqGuard_at_bool,binOp,Op.equal,Op.maxDepth,run_equalIn_bool' (P:=P) w _ t _ _ M],rfl,trivial⟩
 .rename_i cs ds;split at g
  .rename_i J;split at g
   next q u=>simp at g;subst g;obtain⟨xs,ys,rfl,rfl,C,D⟩:=YC (op:=.eql) (x:=x) (y:=y) J N l m u;exact⟨_,by simp[C,run_eql_struct,D],rfl,trivial⟩
   .cases g
  .cases g
 .rename_i cs ds;split at g
  .rename_i J;split at g
   next q u=>simp at g;subst g;obtain⟨xs,ys,rfl,rfl,C,D⟩:=YC (op:=.neq) (x:=x) (y:=y) J N l m u;exact⟨_,by simp[C,run_neq_struct,D],rfl,trivial⟩
   .cases g
  .cases g
 .cases g
variable{y':AF}
theorem q8{S:FuncId->Fq->As->Prop}{F0:Nat->Nat->Prop}{w0:W0}{ε:AB}{a:Act}{G:BX}{d:Nat}{o:Oper}{K:EV->AB->Prop}(g:AP F0 w0 ε a w G)(hd:d<a.tmps.size){x x':Operand}{k:BK}{op:BinOp}{t A:TypeId}
  (l:o.op=.binOp op t x x' A)(B:On P k t=X)(C:AK x y=X)(D:AK x' y'=X)(h:(AE.bin k op y y').wp S ε (Y d) K):A3 P F0 w0 a w o d K:=by
 simp [AE.wp]at h;split at h
 .rename_i E ty H I;cases m:Mb k op E ty with
  |none=>rw[m]at h;exact h.elim|some r=>
   rw [m]at h;have p:=Az g C H;have q:=Az g D I;obtain⟨v,u,J,L⟩:=uj (x:=x) (y:=x') B m p.1 q.1 p.2 q.2;refine Cx g hd (v:=v) ?_ J L h;simp only[execOp,l,Sem.run_bind]at u|-;rw[u];rfl
 .exact h.elim
end
end Go.Sf
namespace Go.Sf
open Go.RowKit (Below)
def Oq:Option Operand->Option AF->Bool
 |none,W=>X|some x,Y y=>AK x y|_,_=>T
section
variable{P:Program}{S:FuncId->Fq->As->Prop}{F0:Nat->Nat->Prop}{w0:W0}{ε:AB}{a:Act}{w:World}{G:BX}{d:Nat}{o:Oper}{K:EV->AB->Prop}
theorem Wf(h:AP F0 w0 ε a w G){x:Option Operand}{y:Option AF}(g:Oq x y=X){k:IntKind}{q l:Int}(hv:Hz ε q y=Y (.int k l)):
  (x=W/\l=q)\/∃v m,x=Y v/\a.eval v=.int m l:=by
 cases y with
 |none=>
  cases x<;>simp[Oq]at g;simp[Hz]at hv;exact .inl ⟨rfl,hv.2.symm⟩
 |some y=>
  cases x<;>simp[Oq]at g;rename_i v;have:=(Az h g (t:=.int k l) hv).1;simp[Aq]at this;exact .inr ⟨v,k,rfl,this⟩
theorem T8{isS:Bool}{len cap:Nat}{lo hi:Option Value}{l h:Int}(q:0<=l)(r:l<=h)(u:h<=len)(A:len<=cap)
  (g:(lo=W/\l=0)\/∃k,lo=Y (.int k l))(m:(hi=W/\h=len)\/∃k,hi=Y (.int k h)):
  (Instr.sliceBounds isS len cap lo hi W).run P w=.ok (l.toNat,h.toNat,cap) w:=by
 rcases g with⟨rfl,rfl⟩|⟨k,rfl⟩<;>rcases m with⟨rfl,rfl⟩|⟨p,rfl⟩
 .simp[Instr.sliceBounds]
 .simp[Instr.sliceBounds,run_sliceBound (P:=P) w p h cap _ U U]
 .simp[Instr.sliceBounds,run_sliceBound (P:=P) w k l len _ U U]
 .simp[Instr.sliceBounds,run_sliceBound (P:=P) w p h cap _ U U,run_sliceBound (P:=P) w k l h.toNat _ U U]
variable{x:Operand}{y:AF}{lo' hi':Option AF}{t:TypeId}{n:Nat}
theorem rh(H:AP F0 w0 ε a w G)(hd:d<a.tmps.size){lo hi:Option Operand}(I:o.op=.slice t x lo hi W)(J:AK x y=X)(R:Oq lo lo'=X)(hh:Oq hi hi'=X)
  (A:JN P t=Y n)(h:(AE.slc n y lo' hi').wp S ε (Y d) K):A3 P F0 w0 a w o d K:=by
 simp [AE.wp]at h;split at h
 .rename_i m es hv;split at h
  .rename_i k1 l k2 C κ η;obtain⟨⟨hm,h0,h1⟩,h2,hK⟩:=h;subst hm;have M:=Az H J hv;simp[Aq]at M;obtain⟨⟨r,cap,h4,h5,O,h7⟩,Q⟩:=M;have Z:=Wf H R κ;have b2:=Wf H hh η;unfold JN at A;split at A
   .rename_i e ζ;have D:=T8 (P:=P) (w:=w) (isS:=X) (lo:=lo.map a.eval) (hi:=hi.map a.eval) h0 h1 h2 h5
     (by rcases Z with⟨rfl,rfl⟩|⟨v,k',rfl,hv⟩<;>simp[*]) (by rcases b2 with⟨rfl,rfl⟩|⟨v,k',rfl,hv⟩<;>simp[*])
    refine Cx H hd (v:=.slice (if cap=l.toNat then r else r.map (·.add (l.toNat*m))) (C.toNat-l.toNat) (cap-l.toNat)) (t:=.list m ((es.take C.toNat).drop l.toNat)) ?_ ?_ ?_ hK
    .simp[execOp,I,Instr.sliceAt,Instr.slice,run_underlying ζ,h4,D,CL A]
    .simp only[Aq];refine⟨if cap=l.toNat then r else r.map (·.add (l.toNat*m)),cap-l.toNat,an,an,λL=>?_,λθ g=>?_⟩
     .have p:es=[]\/l.toNat=C.toNat:=by
       split at L
       .exact .inl (O L)
       .cases r with
        |none=>exact .inl (O rfl)|some r=>simp at L
      rcases p with rfl|p
      .simp
      .apply y?;simp;omega
     .by_cases N:cap=l.toNat
      .have q:(es.take C.toNat).drop l.toNat=[]:=by apply y?;simp;omega
       rw [Ne N]at g;rw[q];exact⟨.inl rfl,trivial⟩
      .rw[QQ N]at g;cases r with
       |none=>simp at g|some r=>
        simp at g;subst g;obtain⟨B,u⟩:=h7 r rfl;obtain⟨b,E,sp⟩:=r;simp only at B u;by_cases p:es=[]
        .have q:(es.take C.toNat).drop l.toNat=[]:=by rw[p];simp
         rw [q];exact⟨.inl rfl,trivial⟩
        have B:sp=W:=B.resolve_left p;subst B;rw[Addr.add_lit];refine⟨.inr rfl,?_⟩;rw[SM]at u|-;intro i δ he;rw[w?,x!]at he;split at he
        .have:=u (l.toNat+i) δ he
         rwa [show E+l.toNat*m+i*m=E+(l.toNat+i)*m from l_]
        .cases he
    .simp only[TV.WF]at Q|-;refine⟨an,?_⟩;have B:=Bt.1 Q.2;exact Bt.2 λt A=>B t (y_ (x_ A))
   .cases A
  .exact h.elim
 .exact h.elim
theorem oQ(m:AP F0 w0 ε a w G)(hd:d<a.tmps.size){lo hi:Option Operand}(p:o.op=.slice t x lo hi W)(q:AK x y=X)(A:Oq lo lo'=X)(hh:Oq hi hi'=X)
  (B:P.underlying t=Y .string)(h:(AE.Aaw y lo' hi').wp S ε (Y d) K):A3 P F0 w0 a w o d K:=by
 simp [AE.wp]at h;split at h
 .rename_i s hv;split at h
  .rename_i O l Q u C D;obtain⟨I,J,L,M⟩:=h;have r:=Az m q hv;simp[Aq]at r;have E:=Wf m A C;have H:=Wf m hh D;have g:=T8 (P:=P) (w:=w) (isS:=T) (lo:=lo.map a.eval) (hi:=hi.map a.eval) I J L (R0 _)
     (by rcases E with⟨rfl,rfl⟩|⟨v,N,rfl,hv⟩<;>simp[*]) (by rcases H with⟨rfl,rfl⟩|⟨v,N,rfl,hv⟩<;>simp[*])
   refine Cx m hd (v:=.string (s.extract l.toNat u.toNat)) (t:=.str (s.extract l.toNat u.toNat)) ?_ rfl ?_ M
   .simp[execOp,p,Instr.sliceAt,Instr.slice,run_underlying B,r.1,g]
   .have:=r.2;simp[TV.WF]at this|-;omega
  .exact h.elim
 .exact h.elim
variable{y':AF}
theorem jJ(l:AP F0 w0 ε a w G)(hd:d<a.tmps.size){x x':Operand}{mx:Bool}{ts:Array TypeId}
  (g:o.op=.call {callee:=.builtin (match mx with|true=>.max|false=>.min),args:=#[x,x'],argTypes:=ts})
  (u:AK x y=X)(A:AK x' y'=X)(h:(AE.mm mx y y').wp S ε (Y d) K):A3 P F0 w0 a w o d K:=by
 simp [AE.wp]at h;split at h
 .rename_i k p E q B C;obtain⟨rfl,D⟩:=h;have m:=Az l u B;have r:=Az l A C;simp[Aq,TV.WF]at m r;refine Cx l hd (v:=.int k (if mx then max p q else min p q)) (t:=.int k (if mx then max p q else min p q)) ?_ rfl ?_ D
  .cases mx
   .simp[execOp,g,resolve,invoke,builtin,m.1,r.1,Builtin.min_,Builtin.min2];rw[Int.min_def];split<;>split<;>omega
   .simp[execOp,g,resolve,invoke,builtin,m.1,r.1,Builtin.max_,Builtin.max2];rw[Int.max_def];split<;>split<;>omega
  .simp[TV.WF];split<;>omega
 .exact h.elim
theorem oG(g:AP F0 w0 ε a w G)(hd:d<a.tmps.size)(l:o.op=.box t x)(m:AK x y=X)(h:(AE.Abp y).wp S ε (Y d) K):A3 P F0 w0 a w o d K:=by
 simp [AE.wp]at h;split at h
 .rename_i u hv;have B:=Az g m hv;have r:Below w.heap.size w (w.alloc (.cells (a.eval x).cells t)):=(Below.refl _ _).alloc (R0 _) _;refine⟨.pointer (Y ⟨w.heap.size,0,W⟩),w.alloc (.cells (a.eval x).cells t),by simp[execOp,l,Instr.box,newVar,newRow],_,_,h,g.tv r d hd (.pt u.cells) _ ?_ ?_⟩
  .simp only[Aq];refine⟨_,_,rfl,?_⟩;have p:=LF (F0:=F0) (w0:=w0) (G:=G) r d (λ_=>W) V
   .have A:=HT B.1;refine SN (Ar p _ _ A.1) A.2 λi v hi=>?_;have C:(w.alloc (.cells (a.eval x).cells t)).cell? ⟨w.heap.size,0+i,W⟩=Y v:=by
     rw [World.cell?_alloc_new,Nat.zero_add];simpa using hi
    refine ⟨C,?_⟩;rintro(⟨q,_⟩|⟨s,j,lo,q,_⟩)
    .have:=g.below.size;omega
    .by_cases D:s=d
     .grind[B6]
     .rw[BE _ _ _ _ D]at q;have:=(g.lt _ _ _ _ q).1;omega
  grind [TV.WF,Is]
 .exact h.elim
end
end Go.Sf
namespace Go.Sf
open Go.RowKit (Below)
def X4:List Value->Nat->List Value->List Value
 |cs,_,[]=>cs|cs,i,d::ds=>X4 (cs.set i d) (i+1) ds
theorem R3(g:Nat):∀(l:List Value)(k:Nat)(cells:Array Value),((l.zipIdx k).foldl (λcs(x:Value×Nat)=>cs.setIfInBounds (g+x.2) x.1) cells).toList=X4 cells.toList (g+k) l
 |[],_,_=>rfl|v::l,k,cells=>by
  simp [X4];rw[R3 g l (k+1)]
  grind
section
variable{w:World}{F:Nat->Nat->Prop}
variable{v:Value}
theorem kw{cs:Fq}{xs:List Value}(h:AR w F cs xs)(i:Nat){t:TV}(g:Aq w F t v):AR w F (cs.set i t) (xs.set i v):=by
 rw [Bm]at h|-
 grind
theorem ZL:∀{ds:Fq}{ys:List Value}{cs:Fq}{xs:List Value}(i:Nat),AR w F cs xs->AR w F ds ys->AR w F (Pv cs i ds) (X4 xs i ys)
 |[],ys,cs,xs,i,h,hd=>by simp[AR]at hd;subst hd;exact h|d::ds,ys,cs,xs,i,h,hd=>by
  simp [AR]at hd;obtain⟨v,r,rfl,g,l⟩:=hd;exact ZL (i+1) (kw h i g) l
theorem ib:∀(ys xs:List Value)(i:Nat),(∀x∈xs,x.oneCell'=X)->(∀y∈ys,y.oneCell'=X)->∀x∈X4 xs i ys,x.oneCell'=X
 |[],_,_,h,_=>h|y::ys,xs,i,h,l=>by
  refine ib ys (xs.set i y) (i+1) (λx m=>?_) (λz g=>l z q?)
  grind
theorem Xk{place:Nat->Option (Nat×Nat)}:∀{ps:List (Nat×Value)}{ts:List (Nat×Nat×TV)}{cs cs':Fq}{xs:Array Value},AR w F cs xs.toList->ps.length=ts.length ->
  (∀(j:Nat)(p:Nat×Value)(t:Nat×Nat×TV),ps[j]?=Y p->ts[j]?=Y t->place p.1=Y (t.1,t.2.1)/\Aq w F t.2.2 p.2)->FK cs ts=Y cs'->(∀x∈xs.toList,x.oneCell'=X) ->
  ∃xs',Instr.fill place xs ps=Y xs'/\AR w F cs' xs'.toList/\∀x∈xs'.toList,x.oneCell'=X
 |[],ts,cs,cs',xs,h,l,u,hf,ho=>by
  have:ts=[]:=y? l.symm;subst this;simp[FK]at hf;subst hf;exact⟨xs,rfl,h,ho⟩
 |(i,v)::ps,[],_,_,_,_,l,_,_,_=>by simp at l|(i,v)::ps,(g,n,t)::ts,cs,cs',xs,h,l,u,hf,ho=>by
  simp only[FK]at hf;split at hf
  .rename_i J;obtain⟨B,r⟩:=u 0 _ _ rfl rfl;simp only at B r;have A:=(HT r).1;have C:=(HT r).2;have L:v.cells.size=n:=by have:=BM A;rw[A']at this;omega
   have D:=BM h;rw[A']at D;have E:AR w F (Pv cs g t.cells) ((v.cells.zipIdx.foldl (λcs(x:Value×Nat)=>cs.setIfInBounds (g+x.2) x.1) xs)).toList:=by
    have H:=ZL g h A;rw[<-A!,A?,R3,B'];exact H
   obtain ⟨xs',M,I⟩:=Xk E (by simpa using l) (λj p t m q=>u (j+1) p t (by simpa using m) l?) hf (by
    rw [<-A!,A?,R3,B']
    grind [ib])
   refine ⟨xs',?_,I⟩;simp[Instr.fill,B]
   grind
  .cases hf
end
def OE(place:Nat->Option (Nat×Nat)):List (Nat×Operand)->List (Nat×Nat×AF)->Bool
 |[],[]=>X|(i,x)::ps,(off,n,y)::qs=>place i==Y (off,n)&&AK x y&&OE place ps qs|_,_=>T
def kO(P:Program)(t:TypeId)(zero:Fq)(ps:List (Nat×Operand))(qs:List (Nat×Nat×AF)):Bool:=
 match P.info? t,P.underlying t with
 |some it,Y (.array _ e)=>
  match it.zero,P.info? e with
  |some z,Y ie=>Ki zero z.cells.toList&&z.cells.toList.all Value.oneCell'&&OE (λi=>Y (i*ie.size,ie.size)) ps qs|_,_=>T
 |some it,Y (.struct fields)=>
  match it.zero,fields.toList.mapM (λf=>(P.info? f.type).map λi=>(f.offset,i.size))with
  |some z,Y places=>Ki zero z.cells.toList&&z.cells.toList.all Value.oneCell'&&OE (places.toArray[·]?) ps qs|_,_=>T
 |_,_=>T
section
variable{P:Program}{S:FuncId->Fq->As->Prop}{F0:Nat->Nat->Prop}{w0:W0}{ε:AB}{a:Act}{w:World}{G:BX}{d:Nat}{o:Oper}{K:EV->AB->Prop}
theorem bF(q:AP F0 w0 ε a w G){place:Nat->Option (Nat×Nat)}:∀{ps:List (Nat×Operand)}{l:List (Nat×Nat×AF)}{ts:List (Nat×Nat×TV)},OE place ps l=X->FG ε l=Y ts ->
  ps.length=ts.length/\(∀(j:Nat)(p:Nat×Value)(t:Nat×Nat×TV),(ps.map λ(i,x)=>(i,a.eval x))[j]?=Y p->ts[j]?=Y t->place p.1=Y (t.1,t.2.1)/\Aq w (AV w0.heap.size F0 G) t.2.2 p.2)/\∀t∈ts,t.2.2.WF
 |[],[],ts,_,h=>by simp[FG]at h;subst h;simp|[],_::_,_,h,_=>by simp[OE]at h|_::_,[],_,h,_=>by simp[OE]at h|(i,x)::ps,(A,n,y)::l,ts,g,h=>by
  simp [OE]at g;simp[FG]at h;split at h
  .rename_i t r u m;simp at h;subst h;obtain⟨C,D,E⟩:=bF q g.2 m;have B:=Az q g.1.2 u
   grind
  .cases h
theorem jY:∀{ds cs:Fq}(i:Nat),TV.nm cs->TV.nm ds->TV.nm (Pv cs i ds)
 |[],_,_,h,_=>h|d::ds,cs,i,h,hd=>by
  refine jY (i+1) ?_ hd.2
  grind [Bt,List.mem_or_eq_of_mem_set]
theorem fk:∀{ts:List (Nat×Nat×TV)}{cs cs':Fq},TV.nm cs->(∀t∈ts,t.2.2.WF)->FK cs ts=Y cs'->TV.nm cs'
 |[],cs,cs',h,_,hf=>by simp[FK]at hf;subst hf;exact h|(i,n,t)::ts,cs,cs',h,g,hf=>by
  simp only[FK]at hf;split at hf
  .exact fk (jY i h (Is (g (i,n,t) V))) (λu l=>g u (by simp[l])) hf
  .cases hf
variable{t:TypeId}{ps:Array (Nat×Operand)}
theorem q9(A:AP F0 w0 ε a w G)(hd:d<a.tmps.size){zero:Fq}{m:List (Nat×Nat×AF)}(p:o.op=.build t ps)(q:kO P t zero ps.toList m=X)(h:(AE.bld zero m).wp S ε (Y d) K):A3 P F0 w0 a w o d K:=by
 simp [AE.wp]at h;cases g:FG ε m with
 |none=>rw[g]at h;exact h.elim|some ts=>
  rw [g]at h;simp[Aj]at h;cases l:FK zero ts with
  |none=>rw[l]at h;exact h.elim|some cs=>
   rw [l]at h;simp only at h;have key:∀(place:Nat->Option (Nat×Nat))(z:Array Value),Ki zero z.toList=X->z.toList.all Value.oneCell'=X->OE place ps.toList m=X->∃xs',Instr.fill place z (ps.map λ(i,x)=>(i,a.eval x)).toList=Y xs'/\AR w (AV w0.heap.size F0 G) cs xs'.toList/\TV.nm cs/\xs'.toList.all Value.oneCell'=X:=by
    intro place z H r I;obtain⟨u,C,D⟩:=bF A I g;have B:=RU w (AV w0.heap.size F0 G) zero z.toList H;have J:(ps.map λ(i,x)=>(i,a.eval x)).toList=ps.toList.map λ(i,x)=>(i,a.eval x):=V
    rw [J];obtain⟨xs',L,M,N⟩:=Xk B.1 e_ C l (λx E=>x?.1 r x E)
    grind [fk,x?]
   have built:∃xs',P.built t (ps.map λ(i,x)=>(i,a.eval x)).toList=Y xs'/\AR w (AV w0.heap.size F0 G) cs xs'.toList/\TV.nm cs/\xs'.toList.all Value.oneCell'=X:=by
    unfold kO at q;unfold Program.built
    grind
   obtain ⟨xs',u,C,D,B⟩:=built;refine Cx A hd (v:=.agg xs') (t:=.agg cs) ?_ ?_ (by simpa[TV.WF]using D) h
   .simp[execOp,p,run_build w t _ xs' u]
   grind [Aq]
variable{x:Operand}{n:Nat}
theorem bf(l:AP F0 w0 ε a w G)(hd:d<a.tmps.size)(g:o.op=.move x\/o.op=.assign x)(m:∃v,x=.const v/\NF v=X)(h:(AE.Abn n).wp S ε (Y d) K):A3 P F0 w0 a w o d K:=by
 simp [AE.wp]at h;obtain⟨v,rfl,hv⟩:=m;refine⟨.slice W 0 0,w,?_,_,_,h,l.ow (Below.refl _ _) d hd (.list n []) _ W V ?_ ⟨V,trivial⟩⟩
 .rcases g with g|g<;>simp[execOp,g,Act.eval,KX hv]
 .simp only[Bu];exact⟨[],⟨V,.inl ⟨rfl,rfl,rfl⟩⟩,rfl,V,V⟩
end
end Go.Sf
namespace Go.Sf
open Go.RowKit (Below)
theorem lF(pre:Fq)(x t:TV)(r:Fq):(pre++x::r).set pre.length t=pre++t::r:=o!
theorem VR:∀(ds pre rest:Fq),ds.length<=rest.length->Pv (pre++rest) pre.length ds=pre++ds++rest.drop ds.length
 |[],pre,rest,_=>by simp[Pv]|d::ds,pre,[],h=>by simp at h|d::ds,pre,x::rest,h=>by
  simp [Pv,lF];have:=VR ds (pre++[d]) rest c!
  grind
def L3(n:Nat):Nat->Fq->List (Nat×Nat×TV)
 |_,[]=>[]|k,t::ts=>(k*n,n,t)::L3 n (k+1) ts
theorem aS(n:Nat):∀(ts pre:Fq)(k:Nat),(∀t∈ts,t.cells.length=n)->pre.length=k*n ->
  FK (pre++z_ (ts.length*n) .undef) (L3 n k ts)=Y (pre++ts.flatMap TV.cells)
 |[],pre,k,_,_=>by simp[L3,FK]|t::ts,pre,k,g,p=>by
  have l:t.cells.length=n:=g t V;simp only[L3,FK];rw[Ne ⟨l,by simp[aE,z!,a5,B!];omega⟩];rw[<-p,VR t.cells pre _ (by simp[z!,a5,B!];omega)];have m:(z_ ((t::ts).length*n) TV.undef).drop t.cells.length=z_ (ts.length*n) TV.undef:=by
   grind [a5,B!]
  rw [m];have:=aS n ts (pre++t.cells) (k+1) (λx h=>g x (by simp[h])) (by simp[aE,B!];omega)
  grind
def Tt:Nat->List (Nat×Operand)->List AF->Bool
 |_,[],[]=>X|k,(i,x)::ps,y::ys=>i==k&&AK x y&&Tt (k+1) ps ys|_,_,_=>T
section
variable{P:Program}{S:FuncId->Fq->As->Prop}{F0:Nat->Nat->Prop}{w0:W0}{ε:AB}{a:Act}{w:World}{G:BX}{d:Nat}{o:Oper}{K:EV->AB->Prop}
theorem iW(m:AP F0 w0 ε a w G)(n:Nat):∀{k:Nat}{ps:List (Nat×Operand)}{ys:List AF}{ts:Fq},Tt k ps ys=X->vals ε ys=Y ts ->
  ps.length=ts.length/\(∀(j:Nat)(p:Nat×Value)(t:Nat×Nat×TV),(ps.map λ(i,x)=>(i,a.eval x))[j]?=Y p->(L3 n k ts)[j]?=Y t->(Y (p.1*n,n):Option (Nat×Nat))=Y (t.1,t.2.1)/\Aq w (AV w0.heap.size F0 G) t.2.2 p.2)/\TV.nm ts
 |_,[],[],ts,_,h=>by simp[vals]at h;subst h;simp[TV.nm]|_,[],_::_,_,h,_=>by simp[Tt]at h|_,_::_,[],_,h,_=>by simp[Tt]at h|k,(i,x)::ps,y::ys,ts,g,h=>by
  simp [Tt]at g;simp[vals]at h;split at h
  .rename_i t q r l;simp at h;subst h;obtain⟨B,H,C⟩:=iW m n g.2 l;have A:=Az m g.1.2 r;refine⟨by simp[B],λj p u D E=>?_,A.2,C⟩
   grind [L3]
  .cases h
theorem SB(n:Nat):∀(k:Nat)(ts:Fq),(L3 n k ts).length=ts.length
 |_,[]=>rfl|k,t::ts=>by simp[L3,SB n (k+1) ts]
variable{n:Nat}{ts:Fq}{e:TypeId}
theorem t7{F:Nat->Nat->Prop}{cells:Array Value}(h:AR (w.alloc (.cells cells e)) F (ts.flatMap TV.cells) cells.toList)(ho:∀x∈cells.toList,x.oneCell'=X)(l:∀t∈ts,t.cells.length=n)(m:ts.length<=maxLen):
  Bu (w.alloc (.cells cells e)) F (Y (w.heap.size,ts.length*n)) (.list n ts) (.slice (Y ⟨w.heap.size,0,W⟩) ts.length ts.length):=by
 have g:=BM h;rw[Pt n ts l]at g;simp[Bu];refine⟨cells.toList,⟨g,.inr ⟨w.heap.size,ts.length,cells,e,rfl,heap_alloc_new w _,R0 _,m,p!,?_,rfl⟩⟩,h,l,ho⟩;rw[<-g,List.take_length]
variable{t:TypeId}{ps:Array (Nat×Operand)}{ys:List AF}
theorem rQ(R:AP F0 w0 ε a w G)(hd:d<a.tmps.size){r:TypeInfo}{z:Value}{len n:Nat}(J:o.op=.buildSlice t len ps)(θ:P.underlying t=Y (.slice e))(u:P.info? e=Y r)(hz:r.zero=Y z)
  (κ:r.size=n)(A:0<n)(η:z.cells.toList.all Value.oneCell'=X)(hzs:0<z.cells.size)(B:len=ps.size)(hsm:len*n<=2^ 24)(L:Tt 0 ps.toList ys=X)(h:(AE.lst n ys).wp S ε (Y d) K):A3 P F0 w0 a w o d K:=by
 simp [AE.wp]at h;cases l:vals ε ys with
 |none=>rw[l]at h;exact h.elim|some ts=>
  rw [l]at h;simp[Aj]at h;obtain⟨δ,hK⟩:=h;obtain⟨Z,h2,h3⟩:=iW R n L l;have M:len=ts.length:=by rw[B,<-Z];simp
  have N:(TV.list n ts).WF:=⟨by simp[Kg];have:len*1<=len*n:=B? _ A;omega,h3⟩;have O:ts.length<=maxLen:=by simp[maxLen];have:len*1<=len*n:=B? _ A;omega
  have g:∃cells:Array Value,(Instr.buildSlice t len (ps.map λ(i,x)=>(i,a.eval x))).run P w=.ok (.slice (Y ⟨w.heap.size,0,W⟩) len len) (w.alloc (.cells cells e))/\AR w (AV w0.heap.size F0 G) (ts.flatMap TV.cells) cells.toList/\∀x∈cells.toList,x.oneCell'=X:=by
   by_cases h0:len=0
   .have Q:ps=#[]:=by apply Array.eq_empty_of_size_eq_zero;omega
    have D:ts=[]:=by apply y?;omega
    subst Q;subst D;subst h0;refine⟨#[],?_,rfl,V⟩;simp[Instr.buildSlice,run_underlying θ,sizeOf,typeInfo,u,Instr.fill,newRow]
    grind
   .have m:AR w (AV w0.heap.size F0 G) (z_ (ts.length*n) .undef) ((B_ (len*r.size)).map (z.cells[· % z.cells.size]!)).toList:=by
     grind [Bm,mE,Aq,Option.map_eq_some_iff,Nat.mod_lt,x?]
    have E:=aS n ts [] 0 δ V;simp at E;have p:∀x∈((B_ (len*r.size)).map (z.cells[· % z.cells.size]!)).toList,x.oneCell'=X:=by
     grind [Nat.mod_lt,x?]
    obtain ⟨xs',h6,h7,h8⟩:=Xk (place:=λi=>Y (i*n,n)) m (by rw[SB];simpa using Z) h2 E p;refine⟨xs',run_buildSlice w t e len _ xs' r z θ u hz (by rw[κ];omega) ?_ ?_,h7,h8⟩
    .grind[Nat.mul_eq_zero]
    .rw[κ]at h6|-;simpa using h6
  obtain ⟨cells,H,I,q⟩:=g;have ζ:Below w.heap.size w (w.alloc (.cells cells e)):=(Below.refl _ _).alloc (R0 _) _;refine⟨.slice (Y ⟨w.heap.size,0,W⟩) len len,_,by simp[execOp,J,H],_,_,hK,R.ow ζ d hd (.list n ts) _ (Y (w.heap.size,ts.length*n)) (λb lo C=>?_) ?_ N⟩
  .simp at C;obtain⟨rfl,_⟩:=C;exact⟨R0 _,V⟩
  .rw[M];exact t7 (Ar (LF ζ d _ (λi b lo h=>by
    grind)) _ _ I) q δ O
theorem AP.strip(h:AP F0 w0 ε a w G)(s:Nat):AP F0 w0 (strip ε s) a w G:=by
 refine ⟨h.gk,h.lt,h.below,h.defers,λq l=>?_,λq l=>?_,λq=>?_⟩
 .simp only[Go.Sf.strip,AB.bq];split
  .rfl
  .exact h.dom q l
 .have:=h.slots q l;simp[Go.Sf.strip,AB.bq];split
  .trivial
  .refine AM.kept (Qq _ _) (λ_=>rfl) (λ_ _ _ _=>rfl) rfl BJ.rfl' (λr i k u⟨p,m⟩=>⟨⟨p,(AB.sx V m).2⟩,λ_ hv=>hv⟩) (λr A u⟨cs,g⟩=>?_) (λr i u⟨p,m⟩=>⟨⟨p,(AB.nN V V m).2⟩,λ_ hv=>hv⟩) this
   .rw[AB.bq]at g;split at g
    .cases g
    .exact⟨⟨cs,g⟩,rfl⟩
 .simp[Go.Sf.strip,AB.bq];split
  .trivial
  .exact h.wf q
variable{s:Nat}
theorem AP.move(h:AP F0 w0 ε a w G){t:TV}(N:ε.get s=.ow t)(hd:d<a.tmps.size):
  ∃m,AP F0 w0 ((d,.ow t)::Go.Sf.strip ε s) (a.put (Y d) (slot a s)) w m/\Bk w w (AV w0.heap.size F0 G) (AV w0.heap.size F0 m):=by
 have B:=Ah h N V;simp[AM]at B;have L:=h.wf s;rw[N]at L
 let zs:Option (Nat×Nat):=G s W
 let m:BX:=Jy (Jy G s (λ_=>W)) d (λi=>if i=W then zs else W)
 have D:∀q i b lo,m q i=Y (b,lo)->(q=d/\i=W/\G s W=Y (b,lo))\/(q≠d/\q≠s/\G q i=Y (b,lo)):=by
  intro q i b lo u;by_cases l:q=d
  .grind[B6]
  .simp[m,BE _ _ _ _ l]at u;by_cases θ:q=s
   .grind[B6]
   .rw[BE _ _ _ _ θ]at u
    grind
 have E:∀q i b lo,m q i=Y (b,lo)->∃κ η lo',G κ η=Y (b,lo')/\lo'<=lo:=by
  grind
 have H:Bk w w (AV w0.heap.size F0 G) (AV w0.heap.size F0 m):=λb o v δ hf=>⟨δ,λO=>hf (AV.mono E O)⟩;refine⟨m,⟨?_,?_,h.below,i?,?_,?_,?_⟩,H⟩
 .intro q i κ η b lo lo' A C;rcases D _ _ _ _ A with⟨rfl,rfl,J⟩|⟨n1,n2,J⟩<;>rcases D _ _ _ _ C with⟨rfl,rfl,M⟩|⟨m1,m2,M⟩
  .exact⟨rfl,rfl⟩
  .exact absurd (h.gk _ _ _ _ _ _ _ J M).1.symm m2
  .exact absurd (h.gk _ _ _ _ _ _ _ J M).1 n2
  .exact h.gk _ _ _ _ _ _ _ J M
 .intro q i b lo A;rcases D _ _ _ _ A with⟨_,_,J⟩|⟨_,_,J⟩<;>exact h.lt _ _ _ _ J
 .intro q u;rw[Bo]at u;rw[AB.bq,QQ U];exact(h.strip s).dom q u
 .intro q u;rw[Bo]at u;rw[AB.bq];by_cases l:d=q
  .subst l;rw[Ne rfl,C3 _ _ _ hd];simp[AM,m,B6];exact B.kept H (λ_ _ _=>rfl)
  .rw[QQ l,AX _ _ _ _ l];simp[Go.Sf.strip,AB.bq];split
   .trivial
   .rename_i R;refine AM.kept H (λi=>?_) (λ_ _ _ _=>rfl) (MM (Bo _ _ _) (λq u=>by
     have hss:=Bn h N V
     grind [BE])) BJ.rfl' (λr i k ζ⟨p,Q⟩=>?_) (λr Z ζ⟨cs,g⟩=>?_) (λr i ζ⟨p,Q⟩=>?_) (h.slots q u)
    .simp[m];rw[BE _ _ _ _ (λe=>l e.symm),BE _ _ _ _ (λe=>R e.symm)]
    .have A:=AB.sx V Q;have C:=AB.sx V A.2;exact⟨⟨p,C.2⟩,h.nh ⟨p,C.2⟩ (AX _ _ _ _ A.1) (λ_ _ _ _=>rfl)⟩
    .rw[AB.bq]at g;by_cases I:d=r
     .rw[Ne I]at g;cases g
     .rw[QQ I]at g;simp[AB.bq]at g;split at g
      .cases g
      .exact⟨⟨cs,g⟩,AX _ _ _ _ I⟩
    .have A:=AB.nN V V Q;have C:=AB.nN V V A.2;exact⟨⟨p,C.2⟩,h.xv ⟨p,C.2⟩ (AX _ _ _ _ A.1) (λ_ _=>rfl)⟩
 .intro q;rw[AB.bq];split
  .exact L
  .exact(h.strip s).wf q
theorem qr(a:Act)(d s:Nat)(v:Value)(h:d<a.tmps.size):slot (a.put (Y d) v) s=if d=s then v else slot a s:=by grind[C3,AX]
theorem AP.move'(h:AP F0 w0 ε a w G){t:TV}(g:ε.get s=.ow t)(hd:d<a.tmps.size):
  Bw F0 w0 ((d,.ow t)::(s,.tv t)::ε) (a.put (Y d) (slot a s)) w:=by
 obtain ⟨p,q,m⟩:=h.move g hd;have hv:=Az h (x:=.tmp s) (y:=.s s) so (t:=t) (by simp[AF.val,AF.ev,g,EV.val]);have l:=Bn h g V;refine⟨p,q.rem s (t:=t) (by rw[Bo];exact l) ?_ hv.2 λn=>?_⟩
 .have:slot (a.put (Y d) (slot a s)) s=slot a s:=by rw[qr _ _ _ _ hd];split<;>rfl
  rw [this];exact CM m _ _ hv.1
 .simp[Go.Sf.strip,AB.bq];split
  .exact .inl rfl
  .split
   next e=>exact .inr ⟨e.symm,rfl⟩
   .exact .inl rfl
theorem jM(m:AP F0 w0 ε a w G)(hd:d<a.tmps.size)(g:o.op=.move (.tmp s)\/o.op=.assign (.tmp s))(h:(AE.tk s).wp S ε (Y d) K):A3 P F0 w0 a w o d K:=by
 simp [AE.wp]at h;have l:(execOp a.eval o).run P w=.ok (.value (slot a s)) w:=by
  rcases g with g|g<;>simp[execOp,g]<;>rfl
 split at h
 next t p=>exact⟨_,_,l,_,_,h,m.move' p hd⟩
 next t p=>have:=Az m (x:=.tmp s) (y:=.s s) so (t:=t) (by simp[AF.val,AF.ev,p,EV.val]);exact Cx m hd l this.1 this.2 h
 .exact h.elim
end
end Go.Sf
