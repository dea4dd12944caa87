/- The checker's operands, and the operations that only compute or read. -/
import Derived.Test.YthcncnllajfkfaaGreatSfInv
import Derived.Laws.StructEq
import Derived.Laws.Tables
import Derived.Great.BuildSlice
set_option linter.all false
open Option renaming some->Y,none->W
open Bool renaming true->X,false->T
open List renaming getElem?_eq_getElem->w_,mem_of_getElem?->w!,getElem?_drop->w?,mem_of_mem_drop->x_,getElem?_take->x!,all_eq_true->x?,mem_of_mem_take->y_,map_take->y!,eq_nil_of_length_eq_zero->y?,replicate->z_,length_replicate->z!
open Bool renaming and_assoc->z?,eq_iff_iff->A_
open Array renaming length_toList->A',foldl_toList->A!,toList_zipIdx->A?,range->B_
open Nat renaming add_zero->B',add_mul->B!,mul_le_mul_left->B?
namespace Go.Sf
open Go.RowKit (Below)
def Nz:Value->Bool
 |.slice W 0 0=>X|_=>T
variable{v:Value}
theorem Ko(h:Nz v=X):v=.slice W 0 0:=by grind[Nz]
def qO(f:FuncId):Value->Bool
 |.func (.func g) first caps=>f==g&&first.size==0&&caps.size==0
 |_=>T
variable{f:FuncId}
theorem uN(h:qO f v=X):v=.func (.func f) #[] #[]:=by
 unfold qO at h
 grind
def kw(k:IntKind)(n:Int):Value->Bool
 |.int k' m=>k==k'&&n==m|_=>T
theorem qP{k:IntKind}{n:Int}(h:kw k n v=X):v=.int k n:=by
 unfold kw at h
 grind
def eP(b:Bool):Value->Bool
 |.bool c=>b==c|_=>T
variable{b:Bool}
theorem nL(h:eP b v=X):v=.bool b:=by
 unfold eP at h
 grind
def ky(s:ByteArray):Value->Bool
 |.string r=>s.data==r.data|_=>T
theorem qR{s:ByteArray}(h:ky s v=X):v=.string s:=by
 unfold ky at h
 grind [ByteArray.ext]
def kJ:Value->Option (List Value)
 |.agg vs=>Y vs.toList|_=>W
theorem ph{l:List Value}(h:kJ v=Y l):v=.agg l.toArray:=by
 unfold kJ at h;split at h
 .simp at h;subst h;simp
 .cases h
mutual
def Eh:TV->Value->Bool
 |.int k n,v=>kw k n v&&decide (k.min<=n/\n<=k.max)|.bool b,v=>eP b v|.str s,v=>ky s v&&decide (s.size<=LH)|.list _ es,v=>es.isEmpty&&Nz v|.agg ts,v=>match kJ v with|some vs=>LJ ts vs&&vs.all Value.oneCell'|none=>T
 |.clo f cs,v=>cs.isEmpty&&qO f v|.nil,v=>Nz v|.undef,v=>v.oneCell'|_,_=>T
def LJ:Fq->List Value->Bool
 |[],vs=>vs.isEmpty|t::ts,vs=>match vs with|v::vs=>Eh t v&&LJ ts vs|[]=>T
end
mutual
theorem IJ(w:World)(F:Nat->Nat->Prop):∀(t:TV)(v:Value),Eh t v=X->A1 w F t v/\t.WF
 |.undef,v,h=>by
  simp [Eh]at h;exact⟨by simpa[A1]using h,trivial⟩
 |.xl _ _,v,h=>by simp[Eh]at h|.nil,v,h=>by
  simp [Eh]at h;exact⟨Ko h,trivial⟩
 |.pt _,v,h=>by simp[Eh]at h|.int k n,v,h=>by
  simp [Eh,tn]at h;exact⟨qP h.1,h.2⟩
 |.bool b,v,h=>by
  simp [Eh]at h;exact⟨nL h,trivial⟩
 |.str s,v,h=>by
  simp [Eh,tn]at h;exact⟨qR h.1,h.2⟩
 |.list n es,v,h=>by
  simp [Eh]at h
  grind [TV.WF,TV.tc,A1,Ko]
 |.agg ts,v,h=>by
  simp [Eh]at h;split at h
  next vs hv=>rw[pq]at h;have:=ST w F ts vs h.1;refine⟨?_,by simpa[TV.WF]using this.2⟩;simp only[A1];exact⟨_,ph hv,u_,by simpa using h.2⟩
  .cases h
 |.clo f cs,v,h=>by
  simp [Eh]at h;obtain⟨rfl,h⟩:=h;refine⟨?_,by simp[TV.WF,TV.tc]⟩;simp[A1];exact⟨#[],uN h,rfl⟩
theorem ST(w:World)(F:Nat->Nat->Prop):∀(ts:Fq)(vs:List Value),LJ ts vs=X->AQ w F ts vs/\TV.tc ts
 |[],vs,h=>by simp[LJ]at h;subst h;exact⟨rfl,trivial⟩|t::ts,vs,h=>by
  cases vs with
  |nil=>simp[LJ]at h|cons v vs=>
   simp [LJ]at h;have g:=IJ w F t v h.1;have l:=ST w F ts vs h.2;exact⟨⟨v,vs,rfl,g.1,l.1⟩,g.2,l.2⟩
end
def AK(x:Operand):AH->Bool
 |.s m=>match x with|.tmp n=>n==m|_=>T
 |.c t=>match x with|.const v=>Eh t v|.func f=>Eh t (.func (.func f) #[] #[])|_=>T
section
variable{F0:Nat->Nat->Prop}{w0:W0}{O:AB}{a:Act}{w:World}{G:Bi}
variable{s:Nat}
theorem QN(h:AO F0 w0 O a w G){i:Option Nat}:∀b lo o,G s i=Y (b,lo)->o<lo->¬AW w0.heap.size F0 G b o:=by
 intro b lo o l ho hf;rcases hf with⟨m,g⟩|⟨s',q,lo',p,r⟩
 .exact(h.lt _ _ _ _ l).2.elim (λe=>U) (λe=>h.below.free _ _ _ (e _ (az _)) g)
 .obtain⟨rfl,rfl⟩:=h.o3 _ _ _ _ _ _ _ p l
  grind
variable{n:Nat}
theorem Bw(h:AO F0 w0 O a w G){e:EV}(he:O.get n=e)(g:e≠.undef):n<a.tmps.size:=by
 rcases Nat.lt_or_ge n a.tmps.size with l|m
 .exact l
 .exact absurd ((h.dom n m).symm.trans he).symm g
theorem At(h:AO F0 w0 O a w G){e:EV}(he:O.get n=e)(g:e≠.undef):AN a w (AW w0.heap.size F0 G) G O n e (slot a n):=by
 have:=h.slots n (Bw h he g)
 rwa [he]at this
theorem pO(g:AO F0 w0 O a w G){x:AH}{row:Fq}(h:x.val O=Y (.pt row)):x.ev O=.tv (.pt row):=by
 cases x with
 |c t=>simpa[AH.val,AH.ev,EV.val]using h|s n=>
  simp [AH.val,AH.ev]at h|-;cases he:O.get n with
  |tv t=>rw[he]at h;simpa[EV.val]using h|ow t=>
   rw [he]at h;have m:t=.pt row:=by simpa[EV.val]using h
   subst m;by_cases l:n<a.tmps.size
   .have:=g.slots n l;rw[he]at this;simp[AN,CD]at this
   .rw[g.dom n (Nat.le_of_not_lt l)]at he;cases he
  |_=>rw[he]at h;simp[EV.val]at h
variable{x:Operand}{y:AH}
theorem BD(h:AO F0 w0 O a w G)(l:AK x y=X){t:TV}(hv:y.val O=Y t):A1 w (AW w0.heap.size F0 G) t (a.eval x)/\t.WF:=by
 cases y with
 |s m=>
  cases x<;>simp[AK]at l;subst l;rename_i n;simp[AH.val,AH.ev]at hv;have p:=h.wf n;cases he:O.get n with
  |tv r=>
   rw [he]at hv p;simp[EV.val]at hv;subst hv;exact⟨At h he V,p⟩
  |ow r=>
   rw [he]at hv p;simp[EV.val]at hv;subst hv;exact⟨CD.rep (At h he V) (λb lo o u ho=>QN h b lo o u ho),p⟩
  |undef=>rw[he]at hv;simp[EV.val]at hv|sk=>rw[he]at hv;simp[EV.val]at hv|xo n es=>rw[he]at hv;simp[EV.val]at hv|la q i=>rw[he]at hv;simp[EV.val]at hv|oag cs=>rw[he]at hv;simp[EV.val]at hv|xn es=>rw[he]at hv;simp[EV.val]at hv|x1 n B=>rw[he]at hv;simp[EV.val]at hv|mx m=>rw[he]at hv;simp[EV.val]at hv|nh q i k=>rw[he]at hv;simp[EV.val]at hv|lp q i c=>rw[he]at hv;simp[EV.val]at hv|bx cs=>rw[he]at hv;simp[EV.val]at hv|bp q A=>rw[he]at hv;simp[EV.val]at hv|tp ts=>rw[he]at hv;simp[EV.val]at hv
 |c r=>
  simp [AH.val,AH.ev,EV.val]at hv;subst hv;cases x with
  |const v=>exact IJ w _ _ _ l|func f=>exact IJ w _ _ _ l|tmp n=>simp[AK]at l|global g=>simp[AK]at l
theorem Yl(h:AO F0 w0 O a w G)(g:AK x y=X){t:TV}(hv:y.ev O=.tv t):A1 w (AW w0.heap.size F0 G) t (a.eval x)/\t.WF:=by grind[BD,AH.val,EV.val]
def Bq:List Operand->List AH->Bool
 |[],[]=>X|x::xs,y::ys=>AK x y&&Bq xs ys|_,_=>T
theorem GT(h:AO F0 w0 O a w G):∀{xs:List Operand}{ys:List AH},Bq xs ys=X->∀{ts:Fq},vals O ys=Y ts->AQ w (AW w0.heap.size F0 G) ts (xs.map a.eval)/\TV.tc ts
 |[],[],_,ts,hv=>by simp[vals]at hv;subst hv;exact⟨rfl,trivial⟩|[],_::_,g,_,_=>by simp[Bq]at g|_::_,[],g,_,_=>by simp[Bq]at g|x::xs,y::ys,g,ts,hv=>by
  simp [Bq]at g;simp[vals]at hv;split at hv
  next t q r l=>simp at hv;subst hv;have m:=BD h g.1 r;have p:=GT h g.2 l;exact⟨⟨_,_,rfl,m.1,p.1⟩,m.2,p.2⟩
  .cases hv
end
theorem Nl(k:IntKind)(n:Int):k.min<=k.wrap n/\k.wrap n<=k.max:=by
 cases k<;>simp only[IntKind.min,IntKind.max,IntKind.wrap,IntKind.signed,IntKind.bits,Bool.true_and,Bool.false_and]<;>simp<;>(try split)<;>omega
end Go.Sf
namespace Go.Sf
open Go.RowKit (Below)
def DB(P:Program)(t:TypeId):Option Nat:=(P.info? t).map (·.size)
def CL(P:Program)(t:TypeId):K1:=
 match P.underlying t with
 |some (.struct _)|some (.array _ _)=>Y X|some _=>Y T|none=>W
def KI(P:Program)(t:TypeId):Option Nat:=
 match P.underlying t with
 |some (.slice e)=>DB P e|_=>W
def Q5(P:Program)(t:TypeId)(f:Nat):Option Nat:=
 match P.underlying t with
 |some (.struct fs)=>match fs[f]? with
  |some x=>match DB P x.type with
   |some 0=>W|some _=>Y x.offset|none=>W
  |none=>W
 |_=>W
section
variable{P:Program}{w:World}
variable{t:TypeId}{n:Nat}
theorem CQ(h:DB P t=Y n):(sizeOf t).run P w=.ok n w:=by
 simp only[DB,Option.map_eq_some_iff]at h;obtain⟨i,hi,rfl⟩:=h;simp[sizeOf,typeInfo,hi]
variable{b:Bool}
theorem Cz(h:CL P t=Y b):(isAgg t).run P w=.ok b w:=by
 unfold CL at h;unfold isAgg underlying;simp only[Sem.run_bind,run_program,Result.andThen_ok];cases g:P.underlying t with
 |none=>rw[g]at h;simp at h|some d=>
  rw [g]at h;cases d<;>simp_all
theorem V4{f k b o:Nat}(h:Q5 P t f=Y k):
  (Instr.fieldAt t (.pointer (Y ⟨b,o,W⟩)) f).run P w=.ok (.pointer (Y ⟨b,o+k,W⟩)) w:=by
 unfold Q5 at h;split at h
 .rename_i r l;split at h
  .rename_i x m;split at h
   .cases h
   next n p q=>simp only[tl]at h;subst h;have g:¬(n=0):=λe=>p (by rw[e]);simp[Instr.fieldAt,run_underlying l,m,Instr.sureAddr,fieldPlace,CQ q,g,Addr.add_lit]
   .cases h
  .cases h
 .cases h
variable{ts:Fq}
theorem Uo{F:Nat->Nat->Prop}{b o:Nat}(h:Df w F ts b o):∃vs:List Value,AQ w F ts vs/\(∀x∈vs,x.oneCell'=X)/\∀(j:Nat)(v:Value),vs[j]?=Y v->w.cell? ((⟨b,o,W⟩:Addr).add j)=Y v:=by
 induction ts generalizing o with
 |nil=>exact⟨[],rfl,V,V⟩|cons t ts C=>
  simp only[Df]at h;obtain⟨⟨v,l,D,m,p⟩,q⟩:=h;obtain⟨vs,r,A,B⟩:=C q;refine⟨v::vs,⟨v,vs,rfl,p,r⟩,by simp only[List.mem_cons,forall_eq_or_imp];exact⟨m,A⟩,λj u g=>?_⟩;rw[Addr.add_lit];cases j with
  |zero=>simp at g;subst g;exact l|succ j=>
   have:=B j u g?;rw[Addr.add_lit]at this
   grind
theorem BX{F:Nat->Nat->Prop}{vs:List Value}(h:AQ w F ts vs):vs.length=ts.length:=((Bs ts vs).1 h).1
variable{v:Value}
theorem li{F:Nat->Nat->Prop}{es:Fq}{k:IntKind}{j:Int}(l:KI P t=Y n)(h:A1 w F (.list n es) v)(H:0<=j){e:TV}(he:es[j.toNat]?=Y e):
  ∃p,(Instr.indexAt t v (.int k j)).run P w=.ok p w/\A1 w F (.pt e.cells) p:=by
 simp only[A1]at h;obtain⟨a,cap,rfl,_,C,D⟩:=h;have g:j.toNat<es.length:=by
  grind
 cases a with
 |none=>have:=C rfl;subst this;simp at g|some r=>
  obtain ⟨m,q⟩:=D r rfl;obtain⟨b,o,E⟩:=r;simp only at m q;have m:E=W:=m.resolve_left (λe=>by subst e;simp at g);subst m;unfold KI at l;split at l
  .rename_i el u;rw[TD]at q;have A:=q j.toNat e he;have B:0<=j/\j<(es.length:Int):=U
   refine ⟨.pointer (Y ⟨b,o+j.toNat*n,W⟩),?_,?_⟩
   .simp[Instr.indexAt,asIntOf,run_underlying u,B,CQ l,Addr.add_lit]
   .simp only[A1];exact⟨b,_,rfl,A.1⟩
  .cases l
end
end Go.Sf
namespace Go.Sf
open Go.RowKit (Below)
def BI(P:Program)(F0:Nat->Nat->Prop)(w0:W0)(a:Act)(w:World)(o:Oper)(d:Nat)(K:EV->AB->Prop):Prop:=
 ∃v w',(execOp a.eval o).run P w=.ok (.value v) w'/\∃e env',K e env'/\B9 F0 w0 ((d,e)::env') (a.put (Y d) v) w'
theorem B7:∀{l:Fq},TV.tc l↔∀t∈l,t.WF
 |[]=>by simp[TV.tc]|t::l=>by simp[TV.tc,B7 (l:=l)]
theorem Iy{t:TV}(h:t.WF):TV.tc t.cells:=by
 cases t with
 |agg cs=>exact h|_=>exact⟨h,trivial⟩
section
variable{P:Program}{S:FuncId->Fq->A9->Prop}{F0:Nat->Nat->Prop}{w0:W0}{O:AB}{a:Act}{w:World}{G:Bi}{d:Nat}{o:Oper}{K:EV->AB->Prop}
variable{v:Value}
theorem Cx(h:AO F0 w0 O a w G)(hd:d<a.tmps.size){t:TV}(g:(execOp a.eval o).run P w=.ok (.value v) w)
  (hr:A1 w (AW w0.heap.size F0 G) t v)(l:t.WF)(m:K (.tv t) O):BI P F0 w0 a w o d K:=
 ⟨v,w,g,_,_,m,h.tv_same d hd t v hr l⟩
variable{x:Operand}{y:AH}
theorem jt(p:AO F0 w0 O a w G)(hd:d<a.tmps.size)(g:o.op=.move x\/o.op=.assign x)(l:AK x y=X)(h:(AE.mv y).wp S O (Y d) K):BI P F0 w0 a w o d K:=by
 simp [AE.wp]at h;have hv:(∃t,y.val O=Y t/\K (.tv t) O)\/∃ts,y.ev O=.tp ts/\K (.tp ts) O:=by
  unfold AH.val;split at h<;>first|exact h.elim|(rename_i t he;exact .inl ⟨t,by rw[he];rfl,h⟩)|(rename_i t he;exact .inr ⟨t,he,h⟩)
 have m:(execOp a.eval o).run P w=.ok (.value (a.eval x)) w:=by rcases g with g|g<;>simp[execOp,g]
 rcases hv with⟨t,hv,B⟩|⟨ts,hv,B⟩
 .have:=BD p l hv
  grind [Cx]
 .cases y with
  |c t=>simp[AH.ev]at hv|s n=>
   have D:x=.tmp n:=by
    cases x<;>simp[AK]at l;rw[l]
   subst D;simp[AH.ev]at hv;have hr:=At p hv V;have A:=p.wf n;rw[hv]at A;refine⟨_,w,m,_,_,B,⟨_,p.quiet (Below.refl _ _) d hd (.tp ts) _ (λ_=>W) V V V ?_ A⟩⟩;simp[AN]at hr|-;obtain⟨vs,H,I⟩:=hr;refine⟨vs,H,A7 (λb o u C hf=>⟨C,λr=>hf ?_⟩) _ _ I⟩;rcases r with q|⟨s,i,lo,q,J⟩
   .exact .inl q
   .by_cases E:s=d
    .grind[CM]
    .rw[BZ _ _ _ _ E]at q;exact .inr ⟨s,i,lo,q,J⟩
theorem pF(l:AO F0 w0 O a w G)(hd:d<a.tmps.size){c x x':Operand}{c' y y':AH}(m:o.op=.pick c x x')(r:AK c c'=X)(B:AK x y=X)(C:AK x' y'=X)
  (h:(AE.pick c' y y').wp S O (Y d) K):BI P F0 w0 a w o d K:=by
 simp [AE.wp]at h;split at h
 .rename_i q u;have g:=(BD l r u).1;simp[A1]at g;have p:AK (if q then x else x') (if q then y else y')=X:=by cases q<;>assumption
  have hv:∃t,(if q then y else y').val O=Y t/\K (.tv t) O:=by
   unfold AH.val;split at h<;>first|exact h.elim|(rename_i t he;exact⟨t,by rw[he];rfl,h⟩)
  obtain ⟨t,hv,A⟩:=hv;have:=BD l p hv;refine Cx l hd (v:=a.eval (if q then x else x')) ?_ this.1 this.2 A;cases q<;>simp[execOp,m,g,asBool]
 .exact h.elim
variable{t:TypeId}
theorem sM(m:AO F0 w0 O a w G)(hd:d<a.tmps.size)(g:o.op=.unOp .not t x)(l:AK x y=X)(h:(AE.not y).wp S O (Y d) K):BI P F0 w0 a w o d K:=by
 simp [AE.wp]at h;split at h
 next b hv=>have:=(BD m l hv).1;simp[A1]at this;exact Cx m hd (v:=.bool !b) (t:=.bool !b) (by simp[execOp,g,this,Op.unary]) rfl trivial h
 .exact h.elim
theorem sJ(m:AO F0 w0 O a w G)(hd:d<a.tmps.size)(g:o.op=.unOp .neg t x)(l:AK x y=X)(h:(AE.neg y).wp S O (Y d) K):BI P F0 w0 a w o d K:=by
 simp [AE.wp]at h;split at h
 next k n hv=>have:=(BD m l hv).1;simp[A1]at this;exact Cx m hd (v:=.int k (k.wrap (-n))) (t:=.int k (k.wrap (-n))) (by simp[execOp,g,this,Op.unary,Op.intArith]) rfl (Nl k _) h
 .exact h.elim
theorem rr(m:AO F0 w0 O a w G)(hd:d<a.tmps.size){s t:TypeId}{k p:IntKind}(g:o.op=.convert s t x)(q:P.underlying s=Y (.int p))(r:P.underlying t=Y (.int k))(l:AK x y=X)(h:(AE.cvt k y).wp S O (Y d) K):BI P F0 w0 a w o d K:=by
 simp [AE.wp]at h;split at h
 next u n hv=>have:=(BD m l hv).1;simp[A1]at this;refine Cx m hd (v:=.int k (k.wrap n)) (t:=.int k (k.wrap n)) ?_ rfl (Nl k _) h;simp[execOp,g,this,convert,run_underlying q,run_underlying r,Conv.intToInt]
 .exact h.elim
variable{f:FuncId}
theorem rl(m:AO F0 w0 O a w G)(hd:d<a.tmps.size){xs:Array Operand}{ys:List AH}(g:o.op=.makeFunc (.func f) #[] xs)(l:Bq xs.toList ys=X)(h:(AE.clo f ys).wp S O (Y d) K):BI P F0 w0 a w o d K:=by
 simp [AE.wp]at h;cases hv:vals O ys with
 |none=>rw[hv]at h;exact h.elim|some ts=>
  rw [hv]at h;have:=GT m l hv;refine Cx m hd (v:=.func (.func f) #[] (xs.map a.eval)) (by simp[execOp,g,Instr.makeFunc]) ?_ (by simpa[TV.WF]using this.2) h;simp only[A1];exact⟨_,rfl,u_⟩
theorem rt(l:AO F0 w0 O a w G)(hd:d<a.tmps.size){s i:Nat}(m:o.op=.extract (.tmp s) i)(h:(AE.ext (.s s) i).wp S O (Y d) K):BI P F0 w0 a w o d K:=by
 simp [AE.wp,AH.ev]at h;split at h
 .rename_i ts hv;cases g:ts[i]? with
  |none=>rw[g]at h;exact h.elim|some t=>
   rw [g]at h;have hr:=At l hv V;have q:=l.wf s;rw[hv]at q;simp[AN]at hr;obtain⟨vs,B,r⟩:=hr;rw[Bs]at r;have u:i<ts.length:=by
    grind
   have A:vs.toList[i]?=Y (vs.toList[i]' U):=w_ U;have p:vs[i]?=Y (vs.toList[i]' U):=V
   refine Cx l hd (v:=vs.toList[i]' U) ?_ (r.2 i t _ g A) ?_ h
   .simp[execOp,m,show a.eval (.tmp s)=slot a s from rfl,B,Instr.extract,p]
   .exact B7.1 q t (w! g)
 .exact h.elim
variable{e:TypeId}
theorem r9(m:AO F0 w0 O a w G)(hd:d<a.tmps.size)(g:o.op=.call {callee:=.builtin .len,args:=#[x],argTypes:=#[t]})(l:AK x y=X)
  (he:P.underlying t=Y (.slice e))(h:(AE.len y).wp S O (Y d) K):BI P F0 w0 a w o d K:=by
 simp only[AE.wp]at h;split at h
 next n es hv=>have:=BD m l hv;simp only[A1,TV.WF,LH]at this;obtain⟨⟨q,cap,p,_⟩,r⟩:=this;refine Cx m hd (v:=.int .i64 es.length) (t:=.int .i64 es.length) ?_ rfl ⟨j?,r?⟩ h;simp[execOp,g,resolve,invoke,builtin,Builtin.len_,run_underlying he,p,goInt]
 .exact h.elim
theorem pH(m:AO F0 w0 O a w G)(hd:d<a.tmps.size)(g:o.op=.call {callee:=.builtin .len,args:=#[x],argTypes:=#[t]})(l:AK x y=X)
  (he:P.underlying t=Y .string)(h:(AE.AbL y).wp S O (Y d) K):BI P F0 w0 a w o d K:=by
 simp only[AE.wp]at h;split at h
 next s hv=>have:=BD m l hv;simp only[A1,TV.WF,LH]at this;refine Cx m hd (v:=.int .i64 s.size) (t:=.int .i64 s.size) ?_ rfl ⟨j?,r?⟩ h;simp[execOp,g,resolve,invoke,builtin,Builtin.len_,run_underlying he,this.1,goInt]
 .exact h.elim
end
end Go.Sf
namespace Go.Sf
open Go.RowKit (Below)
section
variable{P:Program}{S:FuncId->Fq->A9->Prop}{F0:Nat->Nat->Prop}{w0:W0}{O:AB}{a:Act}{w:World}{G:Bi}{d:Nat}{o:Oper}{K:EV->AB->Prop}
variable{s:Nat}{ρ:I5}{c:AR}
theorem XH(g:AO F0 w0 O a w G){i:Option Nat}{x:Value}(h:BW w (AW w0.heap.size F0 G) ρ (G s i) c x):A1 w (AW w0.heap.size F0 G) c.t x:=by
 obtain ⟨_|_,t⟩:=c
 .exact h.1
 .exact Et.rep h (λb lo o l ho=>QN g b lo o l ho)
variable{z:Option (Nat×Nat)}
theorem Wa{F:Nat->Nat->Prop}{t:TV}{x:Value}(h:CD w F z t x):x.oneCell'=X:=by
 cases t<;>simp[CD]at h;obtain⟨xs,l,_⟩:=h;rcases l.2 with⟨rfl,_⟩|⟨g,cap,m,e,rfl,_⟩<;>rfl
theorem qW{F:Nat->Nat->Prop}{es:Fq}{x:Value}(h:F8 w F ρ z es x):x.oneCell'=X:=by
 obtain ⟨xs,⟨p,l,_⟩,_⟩:=h;rcases l.2 with⟨rfl,_⟩|⟨g,cap,m,e,rfl,_⟩<;>rfl
theorem QM{F:Nat->Nat->Prop}{t:TV}{x:Value}(h:Et w F ρ z t x):x.oneCell'=X:=by
 by_cases l:∃es,t=.xn es
 .obtain⟨es,rfl⟩:=l;exact qW h
 by_cases m:∃n es,t=.xl n es
 .obtain⟨n,es,rfl⟩:=m;simp[Et,K3]at h;obtain⟨xs,⟨r,p,_⟩,_⟩:=h;rcases p.2 with⟨rfl,_⟩|⟨g,cap,q,e,rfl,_⟩<;>rfl
 .refine Wa (w:=w) (F:=F) (z:=z) (t:=t) ?_;cases t<;>first|exact h|exact absurd ⟨_,_,rfl⟩ m|exact absurd ⟨_,rfl⟩ l
theorem Hj{F:Nat->Nat->Prop}{x:Value}(h:BW w F ρ z c x):x.oneCell'=X:=by
 obtain ⟨_|_,t⟩:=c
 .exact h.2
 .exact QM h
variable{x:Operand}{y:AH}
theorem So(B:AO F0 w0 O a w G)(C:AK x y=X){cs:Fq}(g:BS O (y.ev O)=Y cs):
  ∃b o vs,a.eval x=.pointer (Y ⟨b,o,W⟩)/\AQ w (AW w0.heap.size F0 G) cs vs/\TV.tc cs/\(∀x∈vs,x.oneCell'=X)/\∀(j:Nat)(v:Value),vs[j]?=Y v->w.cell? ((⟨b,o,W⟩:Addr).add j)=Y v:=by
 have box:∀(s h:Nat)(ds:List AR),O.get s=.bx ds->∃b vs,slot a s=.pointer (Y ⟨b,0,W⟩)/\AQ w (AW w0.heap.size F0 G) ((ds.drop h).map (·.t)) vs/\TV.tc ((ds.drop h).map (·.t))/\(∀x∈vs,x.oneCell'=X)/\∀(j:Nat)(v:Value),vs[j]?=Y v->w.cell? ((⟨b,h,W⟩:Addr).add j)=Y v:=by
  intro s h ds L;have hr:=At B L V;have H:=B.wf s;rw[L]at H;simp only[AN]at hr;obtain⟨b,c,θ,p,r,D,A,u⟩:=hr;refine⟨b,c.toList.drop h,p,?_,?_,?_,?_⟩
  .rw[Bs];refine⟨by simp[D],λi t v E hv=>?_⟩;simp[List.getElem?_map,w?]at E hv;obtain⟨cell,l,rfl⟩:=E;obtain⟨x,M,hr⟩:=u (h+i) cell l;have:x=v:=by
    grind
   subst this;exact XH B hr
  .rw[B7];intro t E;simp only[List.mem_map]at E;obtain⟨cell,l,rfl⟩:=E;exact H cell (x_ l)
  .intro x M;obtain⟨i,hi,rfl⟩:=List.getElem_of_mem M;rw[List.getElem_drop];have Q:h+i<c.size:=by simp at hi;omega
   have R:ds[h+i]?=Y (ds[h+i]' U):=w_ U
   grind [Array.getElem?_eq_getElem,Hj]
  .intro j v hv;rw[w?]at hv;rw[Addr.add_lit,cell_of_row w b (h+j) c θ (0,0) r];simpa using hv
 cases y with
 |c t=>
  simp [AH.ev]at g;cases t<;>simp[BS]at g;subst g;have:=BD B C (t:=.pt _) rfl;simp[A1,TV.WF]at this;obtain⟨⟨b,o,p,r⟩,D⟩:=this;obtain⟨vs,A,I,u⟩:=Uo r;exact⟨b,o,vs,p,A,D,I,u⟩
 |s n=>
  cases x<;>simp[AK]at C;subst C;rename_i n;simp[AH.ev]at g;cases he:O.get n with
  |tv t=>
   rw [he]at g;cases t<;>simp[BS]at g;subst g;have hr:=At B he V;have H:=B.wf n;rw[he]at H;simp[AN,A1]at hr;obtain⟨b,o,p,r⟩:=hr;obtain⟨vs,A,I,u⟩:=Uo r;exact⟨b,o,vs,p,A,by simpa[EV.WF,TV.WF]using H,I,u⟩
  |bx ds=>
   rw [he]at g;simp[BS]at g;subst g;obtain⟨b,vs,p,r,D,J,A⟩:=box n 0 ds he;exact⟨b,0,vs,p,o2,by simpa using D,J,A⟩
  |bp q h=>
   rw [he]at g;simp only[BS]at g;split at g
   next ds N=>simp only[tl]at g;subst g;obtain⟨b,vs,p,r,D,J,A⟩:=box q h ds N;have hr:=At B he V;simp only[AN]at hr;obtain⟨ε,u,I⟩:=hr ⟨ds,N⟩;rw[p]at u;simp at u;subst u;exact⟨b,h,vs,I,r,D,J,A⟩
   .cases g
  |undef=>rw[he]at g;simp[BS]at g|sk=>rw[he]at g;simp[BS]at g|xo n es=>rw[he]at g;simp[BS]at g|la q i=>rw[he]at g;simp[BS]at g|oag cs=>rw[he]at g;simp[BS]at g|xn es=>rw[he]at g;simp[BS]at g|x1 n κ=>rw[he]at g;simp[BS]at g|mx m=>rw[he]at g;simp[BS]at g|nh q i k=>rw[he]at g;simp[BS]at g|lp q i c=>rw[he]at g;simp[BS]at g|ow t=>rw[he]at g;simp[BS]at g|tp ts=>rw[he]at g;simp[BS]at g
variable{t:TypeId}
theorem vc(p:AO F0 w0 O a w G)(hd:d<a.tmps.size)(g:o.op=.load t x)(l:AK x y=X)(B:CL P t=Y T)(h:(AE.ld y).wp S O (Y d) K):BI P F0 w0 a w o d K:=by
 simp [AE.wp]at h;cases m:BS O (y.ev O)with
 |none=>rw[m]at h;exact h.elim|some cs=>
  rw [m]at h;simp[Ay]at h;obtain⟨b,C,vs,D,A,E,_,H⟩:=So p l m;cases cs with
  |nil=>simp[Hy]at h|cons u r=>
   simp [Hy]at h;replace h:=h.2;simp[AQ]at A;obtain⟨v,J,rfl,I,L⟩:=A;have q:=H 0 v rfl;rw[Addr.add_zero']at q;refine Cx p hd (v:=v) ?_ I E.1 h;simp[execOp,g,D,Instr.loadAt,Instr.sureAddr,loadVar,Cz B,q]
variable{n:Nat}
theorem Xq(r:AO F0 w0 O a w G)(hd:d<a.tmps.size)(l:o.op=.load t x)(m:AK x y=X)(u:CL P t=Y X)(A:DB P t=Y n)(h:(AE.lda y n).wp S O (Y d) K):BI P F0 w0 a w o d K:=by
 simp [AE.wp]at h;cases p:BS O (y.ev O)with
 |none=>rw[p]at h;exact h.elim|some cs=>
  rw [p]at h;simp[Ay]at h;obtain⟨b,q,vs,B,C,I,D,E⟩:=So r m p;have H:=BX C;have g:=run_loadCells_list (P:=P) w ⟨b,q,W⟩ (vs.take n) (λj v hv=>E j v (by rw[x!]at hv;split at hv<;>simp_all));rw[bk,Nat.min_eq_left U]at g;refine Cx r hd (v:=.agg (vs.take n).toArray) (t:=.agg (cs.take n)) ?_ ?_ ?_ h.2
  .simp[execOp,l,B,Instr.loadAt,Instr.sureAddr,loadVar,Cz u,CQ A,g]
  .grind[A1,x?,y_,Bs]
  grind [TV.WF,B7,y_]
variable{i:Operand}{j:AH}
theorem ru(l:AO F0 w0 O a w G)(hd:d<a.tmps.size)(q:o.op=.indexAddr t x i)(r:AK x y=X)(g:AK i j=X)(A:KI P t=Y n)(h:(AE.iad y j n).wp S O (Y d) K):BI P F0 w0 a w o d K:=by
 simp [AE.wp]at h;split at h
 .rename_i m es k J B C;obtain⟨rfl,E,e,he,H⟩:=h;have D:=BD l r B;have u:=BD l g C;simp[A1]at u;obtain⟨p,hr,I⟩:=li (P:=P) (k:=k) A D.1 E he;refine Cx l hd (v:=p) (by simp[execOp,q,u.1,hr]) I ?_ H
  grind [TV.WF,B7,w!,Iy]
 .exact h.elim
theorem pG(l:AO F0 w0 O a w G)(hd:d<a.tmps.size)(m:o.op=.index t x i)(p:AK x y=X)(g:AK i j=X)(u:P.underlying t=Y .string)(h:(AE.AaB y j).wp S O (Y d) K):BI P F0 w0 a w o d K:=by
 simp [AE.wp]at h;split at h
 .rename_i s k E A B;obtain⟨C,b,hb,D⟩:=h;have q:=BD l p A;have r:=BD l g B;simp[A1]at q r;refine Cx l hd (v:=.int .u8 b.toNat) (t:=.int .u8 b.toNat) ?_ rfl ⟨by simp[IntKind.min,IntKind.signed],?_⟩ D
  .simp[execOp,m,q.1,r.1,Instr.index,asIntOf,run_underlying u,C,hb]
  .have:=b.toNat_lt;simp[IntKind.max,IntKind.signed,IntKind.bits];omega
 .exact h.elim
theorem ZP{f k:Nat}(l:o.op=.fieldAddr t x f)(m:Q5 P t f=Y k):∀b g,a.eval x=.pointer (Y ⟨b,g,W⟩)->(execOp a.eval o).run P w=.ok (.value (.pointer (Y ⟨b,g+k,W⟩))) w:=by
 intro b g h;simp[execOp,l,h,V4 m]
theorem R6(g:o.op=.move x\/o.op=.assign x\/o.op=.nilCheck x):∀b l,a.eval x=.pointer (Y ⟨b,l,W⟩)->(execOp a.eval o).run P w=.ok (.value (.pointer (Y ⟨b,l+0,W⟩))) w:=by
 intro b l h;rcases g with g|g|g<;>simp[execOp,g,h]
variable{k:Nat}
theorem Sh(p:AO F0 w0 O a w G)(hd:d<a.tmps.size)(l:∀b g,a.eval x=.pointer (Y ⟨b,g,W⟩)->(execOp a.eval o).run P w=.ok (.value (.pointer (Y ⟨b,g+k,W⟩))) w)(m:AK x y=X)(h:(AE.fad y k).wp S O (Y d) K):BI P F0 w0 a w o d K:=by
 simp [AE.wp]at h;split at h
 .rename_i row he;have u:=Yl p m he;simp[A1,TV.WF]at u;obtain⟨⟨b,g,B,C⟩,E⟩:=u;refine Cx p hd (v:=.pointer (Y ⟨b,g+k,W⟩)) (t:=.pt (row.drop k)) (l _ _ B) ?_ ?_ h
  .simp only[A1];exact⟨b,_,rfl,Qu C k⟩
  grind [TV.WF,B7,x_]
 .rename_i q g he;cases y with
  |c t=>simp[AH.ev]at he|s n=>
   cases x<;>simp[AK]at m;subst m;rename_i n;simp[AH.ev]at he;have hr:=At p he V;simp only[AN]at hr;split at h
   .rename_i r A;obtain⟨b,H,D⟩:=hr ⟨r,A⟩;refine⟨.pointer (Y ⟨b,g+k,W⟩),w,l _ _ D,_,_,h,_,p.quiet (Below.refl _ _) d hd (.bp q (g+k)) _ (λ_=>W) V V V ?_ trivial⟩
    grind [AN,AB.eb,AZ]
   .exact h.elim
 .exact h.elim
theorem Sg(m:AO F0 w0 O a w G)(hd:d<a.tmps.size)(l:∀b g,a.eval (.tmp s)=.pointer (Y ⟨b,g,W⟩)->(execOp a.eval o).run P w=.ok (.value (.pointer (Y ⟨b,g+k,W⟩))) w)(h:(AE.bad s k).wp S O (Y d) K):BI P F0 w0 a w o d K:=by
 simp [AE.wp]at h;split at h
 .rename_i cs he;have hr:=At m he V;simp only[AN]at hr;obtain⟨b,c,θ,p,_⟩:=hr;refine⟨.pointer (Y ⟨b,0+k,W⟩),w,l _ _ p,_,_,h,_,m.quiet (Below.refl _ _) d hd (.bp s k) _ (λ_=>W) V V V ?_ trivial⟩
  grind [AN,AB.eb,AZ]
 .rename_i row he;have p:=Yl m (x:=.tmp s) (y:=.s s) q_ he;simp[A1,TV.WF]at p;obtain⟨⟨b,g,q,r⟩,u⟩:=p;refine Cx m hd (v:=.pointer (Y ⟨b,g+k,W⟩)) (t:=.pt (row.drop k)) (l _ _ q) ?_ ?_ h
  .simp only[A1];exact⟨b,_,rfl,Qu r k⟩
  grind [TV.WF,B7,x_]
 .exact h.elim
variable{e:TypeId}
theorem rg(p:AO F0 w0 O a w G)(hd:d<a.tmps.size)(q:o.op=.indexAddr t x i)(r:AK x y=X)(l:AK i j=X)(u:P.underlying t=Y (.array k e))(D:DB P e=Y n)
  (h:(AE.aad y j n k).wp S O (Y d) K):BI P F0 w0 a w o d K:=by
 simp [AE.wp]at h;split at h
 .rename_i row Q m E A;obtain⟨I,J,R,L⟩:=h;have B:=(BD p l A).1;simp[A1]at B;have H:∃b g,a.eval x=.pointer (Y ⟨b,g,W⟩)/\Df w (AW w0.heap.size F0 G) row b g/\TV.tc row:=by
   have:=Yl p r E
   grind [A1,TV.WF]
  obtain ⟨b,g,M,N,C⟩:=H;have A:0<=m/\m<(k:Int):=⟨I,J⟩;refine Cx p hd (v:=.pointer (Y ⟨b,g+m.toNat*n,W⟩)) (t:=.pt (row.drop (m.toNat*n))) ?_ ?_ ?_ L
  .simp[execOp,q,B,M,Instr.indexAt,asIntOf,run_underlying u,A,Instr.sureAddr,CQ D,Addr.add_lit]
  .simp only[A1];exact⟨b,_,rfl,Qu N _⟩
  .simp[TV.WF];rw[B7]at C|-;exact λt u=>C t (x_ u)
 .exact h.elim
def k9(P:Program)(t:TypeId)(j:Operand)(k:Nat):Bool:=
 match j,P.underlying t with
 |.const (.int _ i),Y (.array m e)=>decide (0<=i)&&decide (i<(m:Int))&&(match DB P e with
  |some n=>i.toNat*n==k|none=>T)
 |_,_=>T
theorem tf{P:Program}{o:Oper}{a:Act}{w:World}{j:Operand}(q:o.op=.indexAddr t (.tmp s) j)(g:k9 P t j k=X)(b l:Nat)(h:a.eval (.tmp s)=.pointer (Y ⟨b,l,W⟩)):(execOp a.eval o).run P w=.ok (.value (.pointer (Y ⟨b,l+k,W⟩))) w:=by
 unfold k9 at g;split at g
 .rename_i r i m e u;simp[tn]at g;obtain⟨⟨D,E⟩,p⟩:=g;split at p
  next n A=>simp at p;subst p;have B:0<=i/\i<(m:Int):=⟨D,E⟩;have C:a.eval (.const (.int r i))=.int r i:=rfl;simp[execOp,q,h,C,Instr.indexAt,asIntOf,run_underlying u,B,Instr.sureAddr,CQ A,Addr.add_lit]
  .cases p
 .cases g
def VU(g:TypeId->Option QQ)(P:Program):List Field->Nat->Option QQ
 |[],_=>Y []|f::fs,off=>match g f.type with
  |some ks=>if(f.name≠ "_" /\f.offset=off)/\DB P f.type=Y ks.length then(match VU g P fs (off+ks.length)with|some r=>Y (ks ++ r)|none=>W)else W
  |none=>W
def Ri(P:Program):Nat->TypeId->Option QQ
 |0,_=>W|k+1,t=>match P.underlying t with
  |some (.int _)=>Y [0]|some .string=>Y [1]|some .bool=>Y [2]|some (.struct fs)=>if P.stoodInHeld t then W else VU (Ri P k) P fs.toList 0|_=>W
def PZ(P:Program):BK->TypeId->Bool
 |.i,_=>X|.s,_=>X|.w,_=>X|.b,t=>match P.underlying t with|some .bool=>X|_=>T
 |.a n,t=>CL P t==Y X&&!P.eqGuardType P.depth t&&Ri P 8 t==Y n
def TV.Aae:TV->Value
 |.int k n=>.int k n|.str s=>.string s|.bool b=>.bool b|_=>Go.undef
def TV.AaR:TV->Bool
 |.int _ _=>X|.str _=>X|.bool _=>X|_=>T
theorem TQ:∀{cs ds:Fq}{r:Bool},CJ cs ds=Y r->cs.length=ds.length/\(∀t∈cs,t.AaR=X)/\(∀t∈ds,t.AaR=X)
 |[],[],_,_=>by simp|[],_::_,_,h=>by simp[CJ]at h|c::cs,[],_,h=>by cases c<;>simp[CJ]at h
 |c::cs,d::ds,r,h=>by
  have key:∀l,CJ cs ds=Y l->c.AaR=X->d.AaR=X->(c::cs).length=(d::ds).length/\(∀t∈c::cs,t.AaR=X)/\(∀t∈d::ds,t.AaR=X):=by
   intro l g m p;obtain⟨u,A,B⟩:=TQ g
   grind
  cases c<;>cases d<;>simp only[CJ,reduceCtorEq]at h
  .split at h
   .split at h
    next q g=>exact key q g rfl rfl
    .cases h
   .cases h
  .split at h
   next q g=>exact key q g rfl rfl
   .cases h
  .split at h
   next q g=>exact key q g rfl rfl
   .cases h
variable{v:Value}
theorem rR{F:Nat->Nat->Prop}{t:TV}(g:t.AaR=X)(h:A1 w F t v):v=t.Aae:=by
 cases t<;>simp[TV.AaR]at g<;>exact h
theorem TY{F:Nat->Nat->Prop}:∀{cs:Fq}{xs:List Value},(∀t∈cs,t.AaR=X)->AQ w F cs xs->xs=cs.map TV.Aae
 |[],_,_,h=>h|c::cs,xs,g,h=>by
  simp [AQ]at h;obtain⟨v,r,rfl,m,p⟩:=h;rw[rR (g c V) m,TY (λt l=>g t (by simp[l])) p];rfl
theorem PK:∀(m:Nat){cs ds:Fq}{r:Bool},CJ cs ds=Y r->∃g l,CJ (cs.take m) (ds.take m)=Y g/\CJ (cs.drop m) (ds.drop m)=Y l/\r=(g&&l)
 |0,cs,ds,r,h=>⟨X,r,by simp[CJ],b?,V⟩|m+1,[],[],r,h=>by
  grind
 |m+1,[],_::_,_,h=>by simp[CJ]at h|m+1,c::cs,[],_,h=>by cases c<;>simp[CJ]at h
 |m+1,c::cs,d::ds,r,h=>by
  cases c<;>cases d<;>simp only[CJ,reduceCtorEq]at h
  .split at h
   .rename_i C;split at h
    .rename_i q p;obtain⟨g,l,u,A,B⟩:=PK m p
     grind [tl,CJ,z?]
    .cases h
   .cases h
  .split at h
   .rename_i q p;obtain⟨g,l,u,A,B⟩:=PK m p
    grind [tl,CJ,z?]
   .cases h
  .split at h
   .rename_i q p;obtain⟨g,l,u,A,B⟩:=PK m p
    grind [tl,CJ,z?]
   .cases h
def Of(P:Program)(t:TypeId)(vs:List Value):Value:=if CL P t=Y X then .agg vs.toArray else vs.headD Go.undef
theorem Sv:∀{cs ds:Fq}{r:Bool},CJ cs ds=Y r->ds.map TV.kd=cs.map TV.kd
 |[],[],_,_=>rfl|[],_::_,_,h=>by simp[CJ]at h|c::cs,[],_,h=>by cases c<;>simp[CJ]at h
 |c::cs,d::ds,r,h=>by
  cases c<;>cases d<;>simp only[CJ,reduceCtorEq]at h
  .split at h
   .split at h
    next q g=>simp[Sv g,TV.kd]
    .cases h
   .cases h
  .split at h
   next q g=>simp[Sv g,TV.kd]
   .cases h
  .split at h
   next q g=>simp[Sv g,TV.kd]
   .cases h
theorem aA(k:Nat)(R:∀(t:TypeId)(n:QQ),Ri P k t=Y n->∀d,k<=d->∀(cs ds:Fq)(r:Bool),cs.map TV.kd=n->CJ cs ds=Y r->(Op.equalIn d t (Of P t (cs.map TV.Aae)) (Of P t (ds.map TV.Aae))).run P w=.ok r w):
  ∀(E:List Field)(p:Nat)(n:QQ),VU (Ri P k) P E p=Y n->∀d,k<=d->∀(g m:List Value)(cs ds:Fq)(r:Bool),g.length=p->m.length=p->cs.map TV.kd=n->CJ cs ds=Y r ->
   (Op.eqFields d (g++cs.map TV.Aae).toArray (m++ds.map TV.Aae).toArray E).run P w=.ok r w
 |[],p,n,hf,d,hd,g,m,cs,ds,r,η,ζ,D,h=>by
  simp [VU]at hf;subst hf;have:cs=[]:=List.map_eq_nil_iff.1 D;subst this;cases ds<;>simp[CJ]at h;subst h;simp[Op.eqFields]
 |f::E,p,n,hf,d,hd,g,m,cs,ds,r,η,ζ,D,h=>by
  simp [VU]at hf;split at hf
  .rename_i l q;split at hf
   .rename_i δ;split at hf
    .rename_i rest C;simp at hf;subst hf;obtain⟨⟨hn,ho⟩,N⟩:=δ;have Z:cs.length=l.length+rest.length:=by
      have:=congrArg List.length D;simpa using this
     obtain ⟨κ,r2,e1,e2,rfl⟩:=PK l.length h;have ε:=(TQ h).1;have hdl:ds.length=l.length+rest.length:=U
     have L:(cs.take l.length).map TV.kd=l:=by rw[y!,D,List.take_left'];rfl
     have M:(cs.drop l.length).map TV.kd=rest:=by rw[List.map_drop,D,List.drop_left'];rfl
     have hi:=R f.type l q d hd (cs.take l.length) (ds.take l.length) κ L e1;have B:=aA k R E (p+l.length) rest C d hd (g++(cs.take l.length).map TV.Aae) (m++(ds.take l.length).map TV.Aae) (cs.drop l.length) (ds.drop l.length) r2 an an M e2;have u:∀(g:List Value)(cs:Fq),g++(cs.take l.length).map TV.Aae++(cs.drop l.length).map TV.Aae=g++cs.map TV.Aae:=by
      intro g cs;rw[ci,<-List.map_append,List.take_append_drop]
     rw [u,u]at B;have A:∀(g:List Value)(cs:Fq),g.length=p->l.length<=cs.length->(0<l.length\/CL P f.type=Y X)->(∃b,CL P f.type=Y b)->(part f.type (g++cs.map TV.Aae).toArray f.offset).run P w=.ok (Of P f.type ((cs.take l.length).map TV.Aae)) w:=by
      intro g cs θ I J hb;obtain⟨b,hb⟩:=hb;cases b with
      |true=>
       simp only[part,Sem.run_bind,Cz hb,Result.andThen_ok,if_true,CQ N,Sem.run_pure,Of,hb];congr 2;rw[List.extract_toArray,List.extract_eq_take_drop,ho,<-θ,List.drop_left,Nat.add_sub_cancel_left,<-y!]
      |false=>
       have h0:0<l.length:=by
        rcases J with h|h
        .exact h
        .rw[hb]at h;cases h
       cases cs with
       |nil=>exact absurd (Nat.lt_of_lt_of_le h0 I) V|cons c cs=>
        obtain ⟨m',Q⟩:∃m',l.length=m'+1:=⟨l.length-1,U⟩;have:((g++(c::cs).map TV.Aae).toArray)[f.offset]?=Y c.Aae:=by
         rw [List.getElem?_toArray,ho,<-θ,List.getElem?_append_right (az _),Nat.sub_self];rfl
        simp only[part,Sem.run_bind,Cz hb,Result.andThen_ok,Bool.false_eq_true,if_false,this,Sem.run_pure,Of,hb,Q];simp
     have hb:(∃b,CL P f.type=Y b)/\(0<l.length\/CL P f.type=Y X):=by
      cases k with
      |zero=>simp[Ri]at q|succ k=>
       simp [Ri]at q;unfold CL;split at q<;>rename_i H
       .simp at q;subst q;rw[H];exact⟨⟨_,rfl⟩,.inl V⟩
       .simp at q;subst q;rw[H];exact⟨⟨_,rfl⟩,.inl V⟩
       .simp at q;subst q;rw[H];exact⟨⟨_,rfl⟩,.inl V⟩
       .rw[H];exact⟨⟨_,rfl⟩,.inr rfl⟩
       .cases q
     have p1:=A g cs η U hb.2 hb.1;have p2:=A m ds ζ U hb.2 hb.1;simp only[Op.eqFields,Sem.run_bind,Sem.run_ite,ac hn,p1,p2,hi,Result.andThen_ok];cases κ with
     |true=>simpa using B|false=>simp
    .cases hf
   .cases hf
  .cases hf
theorem mY(a b:ByteArray):(a.toList==b.toList)=decide (a=b):=by
 rw [A_,beq_iff_eq,tn];refine⟨λh=>?_,λh=>by rw[h]⟩;rw[ByteArray.toList_eq,ByteArray.toList_eq]at h;cases a;cases b;simpa using h
theorem iu:∀(k:Nat)(t:TypeId)(n:QQ),Ri P k t=Y n->∀d,k<=d->∀(cs ds:Fq)(r:Bool),cs.map TV.kd=n->CJ cs ds=Y r->(Op.equalIn d t (Of P t (cs.map TV.Aae)) (Of P t (ds.map TV.Aae))).run P w=.ok r w
 |0,_,_,h,_,_,_,_,_,_,_=>by simp[Ri]at h|k+1,t,n,hf,d,hd,cs,ds,r,E,h=>by
  obtain ⟨d,rfl⟩:∃I,d=I+1:=⟨d-1,U⟩;have C:=Sv h;simp[Ri]at hf;have one:∀x,n=[x]->CL P t=Y T->∃c e,cs=[c]/\ds=[e]/\c.kd=x/\e.kd=x/\Of P t (cs.map TV.Aae)=c.Aae/\Of P t (ds.map TV.Aae)=e.Aae:=by
   intro x J N;rw[J]at E
   match cs,ds,E,C with
   |[c],[e],A,B=>
    grind [List.cons.injEq,Of]
   |[],_,A,_=>simp at A|[c],[],_,B=>simp at B|[c],_::_::_,_,B=>simp at B|_::_::_,_,A,_=>simp at A
  split at hf<;>rename_i g
  .simp at hf;obtain⟨c,e,rfl,rfl,m,p,q,u⟩:=one 0 hf.symm (by simp[CL,g]);rw[q,u];cases c<;>first|(simp[TV.kd]at m;done)|skip
   cases e<;>first|(simp[TV.kd]at p;done)|skip
   simp only[CJ]at h;split at h
   next L=>subst L;simp at h;simp[TV.Aae];rw[run_equalIn_int (P:=P) w d t _ _ _ _ g,<-h];congr 1
   .cases h
  .simp at hf;obtain⟨c,e,rfl,rfl,m,p,q,u⟩:=one 1 hf.symm (by simp[CL,g]);rw[q,u];cases c<;>first|(simp[TV.kd]at m;done)|skip
   cases e<;>first|(simp[TV.kd]at p;done)|skip
   simp [CJ]at h;simp[TV.Aae];rw[run_equalIn_string (P:=P) w d t _ _ g,<-h]
   grind [mY]
  .simp at hf;obtain⟨c,e,rfl,rfl,m,p,q,u⟩:=one 2 hf.symm (by simp[CL,g]);rw[q,u];cases c<;>first|(simp[TV.kd]at m;done)|skip
   cases e<;>first|(simp[TV.kd]at p;done)|skip
   simp [CJ]at h;simp[TV.Aae];rw[run_equalIn_bool' (P:=P) w d t _ _ g,<-h];congr 1
  .split at hf
   .cases hf
   .rename_i H M;have D:CL P t=Y X:=by simp[CL,g]
    have l:P.fieldsOf t=H:=by simp[Program.fieldsOf,g]
    simp [Of,D];rw[run_equalIn_struct w d t _ _ (by rw[l];exact g) (by simpa using M),l];exact aA k (iu k) H.toList 0 n hf d U [] [] cs ds r rfl rfl E h
  .cases hf
variable{vx vy:Value}
theorem Xl{op:BinOp}{x y:Operand}{cs ds:Fq}{q:Bool}{n:QQ}(D:cs.map TV.kd=n){F:Nat->Nat->Prop}(u:PZ P (.a n) t=X)(g:A1 w F (.agg cs) vx)(h:A1 w F (.agg ds) vy)(A:CJ cs ds=Y q):
  ∃xs ys,vx=.agg xs/\vy=.agg ys/\(eqGuard op t x y (.agg xs) (.agg ys)).run P w=.ok () w/\(Op.equalIn 10000 t (.agg xs) (.agg ys)).run P w=.ok q w:=by
 simp [A1]at g h;obtain⟨xs,rfl,g,_⟩:=g;obtain⟨ys,rfl,h,_⟩:=h;simp only[PZ,pq,Bool.not_eq_true']at u;obtain⟨⟨B,E⟩,C⟩:=u;obtain⟨H,p,r⟩:=TQ A;refine⟨xs,ys,rfl,rfl,run_eqGuard_agg w op t x y xs ys E,?_⟩;simp at B C;have l:=TY p g;have m:=TY r h;have:=iu (P:=P) (w:=w) 8 t n C 10000 U cs ds q D A;simp[Of,B,<-l,<-m]at this;simpa using this
theorem vT{op:BinOp}{x y:Operand}{k l:IntKind}{a b r:Int}{F:Nat->Nat->Prop}(m:k=l\/op=.shl\/op=.shr)(hb:Gk k op a b=Y r):
  ∃v,(do eqGuard op t x y (.int k a) (.int l b);binOp op t (.int k a) (.int l b):Sem Value).run P w=.ok v w/\A1 w F (.int k r) v/\(TV.int k r).WF:=by
 have g:∀(op:BinOp)(q:Value),k=l->(op=.and\/op=.or\/op=.xor\/op=.andNot)->(Op.intBits op k a b).run P w=.ok q w->(do eqGuard op t x y (.int k a) (.int l b);binOp op t (.int k a) (.int l b):Sem Value).run P w=.ok q w:=by
  intro op q e ho h;subst e;rcases ho with rfl|rfl|rfl|rfl<;>simpa[eqGuard,binOp]using h
 cases op<;>simp only[Gk]at hb<;>try(cases hb;done)
 case and=>cases hb;exact⟨_,g _ _ n? V rfl,rfl,Nl _ _⟩
 case or=>cases hb;exact⟨_,g _ _ n? V rfl,rfl,Nl _ _⟩
 case xor=>cases hb;exact⟨_,g _ _ n? V rfl,rfl,Nl _ _⟩
 case andNot=>cases hb;exact⟨_,g _ _ n? V rfl,rfl,Nl _ _⟩
 case shl=>
  split at hb
  next p=>cases hb;exact⟨_,by simp[eqGuard,binOp,Op.shift,Int.not_lt.2 p],rfl,Nl _ _⟩
  .cases hb
 case shr=>
  split at hb
  next p=>cases hb;exact⟨_,by simp[eqGuard,binOp,Op.shift,Int.not_lt.2 p.1],rfl,p.2⟩
  .cases hb
theorem vS{k:BK}{op:BinOp}{x y:Operand}{D ty r:TV}{F:Nat->Nat->Prop}(M:PZ P k t=X)(hb:NE k op D ty=Y r)(g:A1 w F D vx)(l:A1 w F ty vy)(E:D.WF)(N:ty.WF):
  ∃v,(do eqGuard op t x y vx vy;binOp op t vx vy:Sem Value).run P w=.ok v w/\A1 w F r v/\r.WF:=by
 unfold NE at hb;split at hb
 .rename_i k a Q b;simp[A1]at g l;subst g;subst l;split at hb
  .rename_i m;subst m;rw[Sem.run_bind,eqGuard_at_int,Sem.run_pure,Result.andThen_ok];have A:op=.quo\/op=.rem\/(op≠.quo/\op≠.rem):=by cases op<;>simp
   rcases A with rfl|rfl|⟨p,hr⟩
   .by_cases u:b=0
    .simp[intCmp,intArith,u]at hb
    .simp[intCmp,intArith,u]at hb;subst hb;exact⟨_,by simp[binOp,Op.intDiv,u],rfl,Nl _ _⟩
   .by_cases u:b=0
    .simp[intCmp,intArith,u]at hb
    .simp[intCmp,intArith,u]at hb;subst hb;refine⟨_,by simp[binOp,Op.intDiv,u],rfl,?_⟩;simp[TV.WF]at E|-;have B:a.tmod b<=max a 0/\min a 0<=a.tmod b:=by
      have C:=Int.natAbs_tmod a b;have κ:=Nat.mod_le a.natAbs b.natAbs;rcases Int.le_total 0 a with h|h
      .grind[Int.tmod_nonneg]
      .have η:=Int.tmod_nonneg (a:=-a) b U
       grind [Int.neg_tmod]
     have ζ:k.min<=0:=by cases k<;>decide
     have δ:0<=k.max:=by cases k<;>decide
     omega
   .cases op<;>simp[intCmp,intArith]at hb p hr<;>subst hb<;>(refine⟨_,?_,rfl,?_⟩)<;>first|(simp[binOp,Op.intCmp,Op.intArith];done)|exact trivial|exact Nl _ _|skip
    all_goals (simp[binOp,Op.intCmp];rw[A_];simp)
  .cases hb
 .rename_i op k a Q b;simp[A1]at g l;subst g;subst l;split at hb
  .rename_i m;split at hb
   next ε p=>simp at hb;subst hb;exact vT m p
   .cases hb
  .cases hb
 .simp[A1]at g l;subst g;subst l;simp at hb;subst hb;exact⟨_,by simp[eqGuard,binOp,Op.stringOp,beq_toListBytes],rfl,trivial⟩
 .simp[A1]at g l;subst g;subst l;simp at hb;subst hb;exact⟨_,by simp[eqGuard,binOp,Op.stringOp,beq_toListBytes],rfl,trivial⟩
 .simp[A1]at g l;subst g;subst l;rename_i R θ;split at hb
  .rename_i H;simp at hb;subst hb;have J:¬(((R.size+θ.size:Nat):Int)>IntKind.i64.max):=by
    have Z:IntKind.i64.max=9223372036854775807:=a!
    grind [AX]
   refine ⟨_,by simp only[eqGuard,binOp,Op.stringOp];rw[ae J];simp,rfl,by simp[TV.WF];exact Vk H⟩
  .cases hb
 .simp[A1]at g l;subst g;subst l;simp at hb;subst hb;have L:P.underlying t=Y .bool:=by
   grind [PZ]
  exact ⟨_,by simp[eqGuard_at_bool,binOp,Op.equal,Op.maxDepth,run_equalIn_bool' (P:=P) w _ t _ _ L],rfl,trivial⟩
 .simp[A1]at g l;subst g;subst l;simp at hb;subst hb;have L:P.underlying t=Y .bool:=by
   grind [PZ]
  exact ⟨_,by simp[eqGuard_at_bool,binOp,Op.equal,Op.maxDepth,run_equalIn_bool' (P:=P) w _ t _ _ L],rfl,trivial⟩
 .rename_i cs ds;split at hb
  .rename_i I;split at hb
   next q p=>simp at hb;subst hb;obtain⟨xs,ys,rfl,rfl,B,C⟩:=Xl (op:=.eql) (x:=x) (y:=y) I M g l p;exact⟨_,by simp[B,run_eql_struct,C],rfl,trivial⟩
   .cases hb
  .cases hb
 .rename_i cs ds;split at hb
  .rename_i I;split at hb
   next q p=>simp at hb;subst hb;obtain⟨xs,ys,rfl,rfl,B,C⟩:=Xl (op:=.neq) (x:=x) (y:=y) I M g l p;exact⟨_,by simp[B,run_neq_struct,C],rfl,trivial⟩
   .cases hb
  .cases hb
 .cases hb
variable{y':AH}
theorem rj{S:FuncId->Fq->A9->Prop}{F0:Nat->Nat->Prop}{w0:W0}{O:AB}{a:Act}{G:Bi}{d:Nat}{o:Oper}{K:EV->AB->Prop}(g:AO F0 w0 O a w G)(hd:d<a.tmps.size){x x':Operand}{k:BK}{op:BinOp}{t q:TypeId}
  (l:o.op=.binOp op t x x' q)(u:PZ P k t=X)(A:AK x y=X)(B:AK x' y'=X)(h:(AE.bin k op y y').wp S O (Y d) K):BI P F0 w0 a w o d K:=by
 simp [AE.wp]at h;split at h
 .rename_i C ty D E;cases hb:NE k op C ty with
  |none=>rw[hb]at h;exact h.elim|some r=>
   rw [hb]at h;have m:=BD g A D;have p:=BD g B E;obtain⟨v,hr,H,I⟩:=vS (x:=x) (y:=x') u hb m.1 p.1 m.2 p.2;refine Cx g hd (v:=v) ?_ H I h;simp only[execOp,l,Sem.run_bind]at hr|-;rw[hr];rfl
 .exact h.elim
end
end Go.Sf
namespace Go.Sf
open Go.RowKit (Below)
def Pb:Option Operand->Option AH->Bool
 |none,W=>X|some x,Y y=>AK x y|_,_=>T
section
variable{P:Program}{S:FuncId->Fq->A9->Prop}{F0:Nat->Nat->Prop}{w0:W0}{O:AB}{a:Act}{w:World}{G:Bi}{d:Nat}{o:Oper}{K:EV->AB->Prop}
theorem WI(h:AO F0 w0 O a w G){x:Option Operand}{y:Option AH}(g:Pb x y=X){k:IntKind}{q l:Int}(hv:H8 O q y=Y (.int k l)):
  (x=W/\l=q)\/∃v m,x=Y v/\a.eval v=.int m l:=by
 cases y with
 |none=>
  cases x<;>simp[Pb]at g;simp[H8]at hv;exact .inl ⟨rfl,hv.2.symm⟩
 |some y=>
  cases x<;>simp[Pb]at g;rename_i v;have:=(BD h g (t:=.int k l) hv).1;simp[A1]at this;exact .inr ⟨v,k,rfl,this⟩
theorem Ur{isS:Bool}{len cap:Nat}{lo hi:Option Value}{l h:Int}(q:0<=l)(r:l<=h)(u:h<=len)(A:len<=cap)
  (g:(lo=W/\l=0)\/∃k,lo=Y (.int k l))(m:(hi=W/\h=len)\/∃k,hi=Y (.int k h)):
  (Instr.sliceBounds isS len cap lo hi W).run P w=.ok (l.toNat,h.toNat,cap) w:=by
 rcases g with⟨rfl,rfl⟩|⟨k,rfl⟩<;>rcases m with⟨rfl,rfl⟩|⟨p,rfl⟩
 .simp[Instr.sliceBounds]
 .simp[Instr.sliceBounds,run_sliceBound (P:=P) w p h cap _ U U]
 .simp[Instr.sliceBounds,run_sliceBound (P:=P) w k l len _ U U]
 .simp[Instr.sliceBounds,run_sliceBound (P:=P) w p h cap _ U U,run_sliceBound (P:=P) w k l h.toNat _ U U]
variable{x:Operand}{y:AH}{lo' hi':Option AH}{t:TypeId}{n:Nat}
theorem sO(E:AO F0 w0 O a w G)(hd:d<a.tmps.size){lo hi:Option Operand}(H:o.op=.slice t x lo hi W)(I:AK x y=X)(Q:Pb lo lo'=X)(hh:Pb hi hi'=X)
  (A:KI P t=Y n)(h:(AE.slc n y lo' hi').wp S O (Y d) K):BI P F0 w0 a w o d K:=by
 simp [AE.wp]at h;split at h
 .rename_i m es hv;split at h
  .rename_i k1 l k2 hb θ ε;obtain⟨⟨Z,h0,h1⟩,h2,hK⟩:=h;subst Z;have J:=BD E I hv;simp[A1]at J;obtain⟨⟨r,cap,h4,h5,M,h7⟩,N⟩:=J;have ζ:=WI E Q θ;have δ:=WI E hh ε;unfold KI at A;split at A
   .rename_i e κ;have C:=Ur (P:=P) (w:=w) (isS:=X) (lo:=lo.map a.eval) (hi:=hi.map a.eval) h0 h1 h2 h5
     (by rcases ζ with⟨rfl,rfl⟩|⟨v,k',rfl,hv⟩<;>simp[*]) (by rcases δ with⟨rfl,rfl⟩|⟨v,k',rfl,hv⟩<;>simp[*])
    refine Cx E hd (v:=.slice (if cap=l.toNat then r else r.map (·.add (l.toNat*m))) (hb.toNat-l.toNat) (cap-l.toNat)) (t:=.list m ((es.take hb.toNat).drop l.toNat)) ?_ ?_ ?_ hK
    .simp[execOp,H,Instr.sliceAt,Instr.slice,run_underlying κ,h4,C,CQ A]
    .simp only[A1];refine⟨if cap=l.toNat then r else r.map (·.add (l.toNat*m)),cap-l.toNat,an,an,λha=>?_,λR g=>?_⟩
     .have p:es=[]\/l.toNat=hb.toNat:=by
       split at ha
       .exact .inl (M ha)
       .cases r with
        |none=>exact .inl (M rfl)|some r=>simp at ha
      rcases p with rfl|p
      .simp
      .apply y?;simp;omega
     .by_cases L:cap=l.toNat
      .have q:(es.take hb.toNat).drop l.toNat=[]:=by apply y?;simp;omega
       rw [ac L]at g;rw[q];exact⟨.inl rfl,trivial⟩
      .rw[ae L]at g;cases r with
       |none=>simp at g|some r=>
        simp at g;subst g;obtain⟨B,u⟩:=h7 r rfl;obtain⟨b,D,sp⟩:=r;simp only at B u;by_cases p:es=[]
        .have q:(es.take hb.toNat).drop l.toNat=[]:=by rw[p];simp
         rw [q];exact⟨.inl rfl,trivial⟩
        have B:sp=W:=B.resolve_left p;subst B;rw[Addr.add_lit];refine⟨.inr rfl,?_⟩;rw[TD]at u|-;intro i η he;rw[w?,x!]at he;split at he
        .have:=u (l.toNat+i) η he
         rwa [show D+l.toNat*m+i*m=D+(l.toNat+i)*m from j!]
        .cases he
    .simp only[TV.WF]at N|-;refine⟨an,?_⟩;have B:=B7.1 N.2;exact B7.2 λt A=>B t (y_ (x_ A))
   .cases A
  .exact h.elim
 .exact h.elim
theorem pI(m:AO F0 w0 O a w G)(hd:d<a.tmps.size){lo hi:Option Operand}(p:o.op=.slice t x lo hi W)(q:AK x y=X)(u:Pb lo lo'=X)(hh:Pb hi hi'=X)
  (A:P.underlying t=Y .string)(h:(AE.Aam y lo' hi').wp S O (Y d) K):BI P F0 w0 a w o d K:=by
 simp [AE.wp]at h;split at h
 .rename_i s hv;split at h
  .rename_i N l Q hb B C;obtain⟨H,I,J,L⟩:=h;have r:=BD m q hv;simp[A1]at r;have D:=WI m u B;have E:=WI m hh C;have g:=Ur (P:=P) (w:=w) (isS:=T) (lo:=lo.map a.eval) (hi:=hi.map a.eval) H I J (az _)
     (by rcases D with⟨rfl,rfl⟩|⟨v,M,rfl,hv⟩<;>simp[*]) (by rcases E with⟨rfl,rfl⟩|⟨v,M,rfl,hv⟩<;>simp[*])
   refine Cx m hd (v:=.string (s.extract l.toNat hb.toNat)) (t:=.str (s.extract l.toNat hb.toNat)) ?_ rfl ?_ L
   .simp[execOp,p,Instr.sliceAt,Instr.slice,run_underlying A,r.1,g]
   .have:=r.2;simp[TV.WF]at this|-;omega
  .exact h.elim
 .exact h.elim
variable{y':AH}
theorem jr(l:AO F0 w0 O a w G)(hd:d<a.tmps.size){x x':Operand}{mx:Bool}{ts:Array TypeId}
  (g:o.op=.call {callee:=.builtin (match mx with|true=>.max|false=>.min),args:=#[x,x'],argTypes:=ts})
  (u:AK x y=X)(A:AK x' y'=X)(h:(AE.mm mx y y').wp S O (Y d) K):BI P F0 w0 a w o d K:=by
 simp [AE.wp]at h;split at h
 .rename_i k p E q B C;obtain⟨rfl,D⟩:=h;have m:=BD l u B;have r:=BD l A C;simp[A1,TV.WF]at m r;refine Cx l hd (v:=.int k (if mx then max p q else min p q)) (t:=.int k (if mx then max p q else min p q)) ?_ rfl ?_ D
  .cases mx
   .simp[execOp,g,resolve,invoke,builtin,m.1,r.1,Builtin.min_,Builtin.min2];rw[Int.min_def];split<;>split<;>omega
   .simp[execOp,g,resolve,invoke,builtin,m.1,r.1,Builtin.max_,Builtin.max2];rw[Int.max_def];split<;>split<;>omega
  .simp[TV.WF];split<;>omega
 .exact h.elim
theorem o9(g:AO F0 w0 O a w G)(hd:d<a.tmps.size)(l:o.op=.box t x)(m:AK x y=X)(h:(AE.Abr y).wp S O (Y d) K):BI P F0 w0 a w o d K:=by
 simp [AE.wp]at h;split at h
 .rename_i u hv;have A:=BD g m hv;have hb:Below w.heap.size w (w.alloc (.cells (a.eval x).cells t)):=(Below.refl _ _).alloc (az _) _;refine⟨.pointer (Y ⟨w.heap.size,0,W⟩),w.alloc (.cells (a.eval x).cells t),by simp[execOp,l,Instr.box,newVar,newRow],_,_,h,g.tv hb d hd (.pt u.cells) _ ?_ ?_⟩
  .simp only[A1];refine⟨_,_,rfl,?_⟩;have p:=Ly (F0:=F0) (w0:=w0) (G:=G) hb d (λ_=>W) V
   .have r:=HO A.1;refine TE (A7 p _ _ r.1) r.2 λi v hi=>?_;have B:(w.alloc (.cells (a.eval x).cells t)).cell? ⟨w.heap.size,0+i,W⟩=Y v:=by
     rw [World.cell?_alloc_new,Nat.zero_add];simpa using hi
    refine ⟨B,?_⟩;rintro(⟨q,_⟩|⟨s,j,lo,q,_⟩)
    .have:=g.below.size;omega
    .by_cases C:s=d
     .grind[CM]
     .rw[BZ _ _ _ _ C]at q;have:=(g.lt _ _ _ _ q).1;omega
  grind [TV.WF,Iy]
 .exact h.elim
end
end Go.Sf
namespace Go.Sf
open Go.RowKit (Below)
def Xf:List Value->Nat->List Value->List Value
 |cs,_,[]=>cs|cs,i,d::ds=>Xf (cs.set i d) (i+1) ds
theorem Sx(g:Nat):∀(l:List Value)(k:Nat)(cells:Array Value),((l.zipIdx k).foldl (λcs(x:Value×Nat)=>cs.setIfInBounds (g+x.2) x.1) cells).toList=Xf cells.toList (g+k) l
 |[],_,_=>rfl|v::l,k,cells=>by
  simp [Xf];rw[Sx g l (k+1)]
  grind
section
variable{w:World}{F:Nat->Nat->Prop}
variable{v:Value}
theorem lb{cs:Fq}{xs:List Value}(h:AQ w F cs xs)(i:Nat){t:TV}(g:A1 w F t v):AQ w F (cs.set i t) (xs.set i v):=by
 rw [Bs]at h|-
 grind
theorem Yw:∀{ds:Fq}{ys:List Value}{cs:Fq}{xs:List Value}(i:Nat),AQ w F cs xs->AQ w F ds ys->AQ w F (Qk cs i ds) (Xf xs i ys)
 |[],ys,cs,xs,i,h,hd=>by simp[AQ]at hd;subst hd;exact h|d::ds,ys,cs,xs,i,h,hd=>by
  simp [AQ]at hd;obtain⟨v,r,rfl,g,l⟩:=hd;exact Yw (i+1) (lb h i g) l
theorem jM:∀(ys xs:List Value)(i:Nat),(∀x∈xs,x.oneCell'=X)->(∀y∈ys,y.oneCell'=X)->∀x∈Xf xs i ys,x.oneCell'=X
 |[],_,_,h,_=>h|y::ys,xs,i,h,l=>by
  refine jM ys (xs.set i y) (i+1) (λx m=>?_) (λz g=>l z o!)
  grind
theorem XN{place:Nat->Option (Nat×Nat)}:∀{ps:List (Nat×Value)}{ts:List (Nat×Nat×TV)}{cs cs':Fq}{xs:Array Value},AQ w F cs xs.toList->ps.length=ts.length ->
  (∀(j:Nat)(p:Nat×Value)(t:Nat×Nat×TV),ps[j]?=Y p->ts[j]?=Y t->place p.1=Y (t.1,t.2.1)/\A1 w F t.2.2 p.2)->Fm cs ts=Y cs'->(∀x∈xs.toList,x.oneCell'=X) ->
  ∃xs',Instr.fill place xs ps=Y xs'/\AQ w F cs' xs'.toList/\∀x∈xs'.toList,x.oneCell'=X
 |[],ts,cs,cs',xs,h,l,u,hf,ho=>by
  have:ts=[]:=y? l.symm;subst this;simp[Fm]at hf;subst hf;exact⟨xs,rfl,h,ho⟩
 |(i,v)::ps,[],_,_,_,_,l,_,_,_=>by simp at l|(i,v)::ps,(g,n,t)::ts,cs,cs',xs,h,l,u,hf,ho=>by
  simp only[Fm]at hf;split at hf
  .rename_i J;obtain⟨B,r⟩:=u 0 _ _ rfl rfl;simp only at B r;have A:=(HO r).1;have C:=(HO r).2;have L:v.cells.size=n:=by have:=BX A;rw[A']at this;omega
   have D:=BX h;rw[A']at D;have E:AQ w F (Qk cs g t.cells) ((v.cells.zipIdx.foldl (λcs(x:Value×Nat)=>cs.setIfInBounds (g+x.2) x.1) xs)).toList:=by
    have H:=Yw g h A;rw[<-A!,A?,Sx,B'];exact H
   obtain ⟨xs',M,I⟩:=XN E (by simpa using l) (λj p t m q=>u (j+1) p t n? v1) hf (by
    rw [<-A!,A?,Sx,B']
    grind [jM])
   refine ⟨xs',?_,I⟩;simp[Instr.fill,B]
   grind
  .cases hf
end
def Oy(place:Nat->Option (Nat×Nat)):List (Nat×Operand)->List (Nat×Nat×AH)->Bool
 |[],[]=>X|(i,x)::ps,(off,n,y)::qs=>place i==Y (off,n)&&AK x y&&Oy place ps qs|_,_=>T
def lC(P:Program)(t:TypeId)(zero:Fq)(ps:List (Nat×Operand))(qs:List (Nat×Nat×AH)):Bool:=
 match P.info? t,P.underlying t with
 |some it,Y (.array _ e)=>
  match it.zero,P.info? e with
  |some z,Y ie=>LJ zero z.cells.toList&&z.cells.toList.all Value.oneCell'&&Oy (λi=>Y (i*ie.size,ie.size)) ps qs|_,_=>T
 |some it,Y (.struct fields)=>
  match it.zero,fields.toList.mapM (λf=>(P.info? f.type).map λi=>(f.offset,i.size))with
  |some z,Y places=>LJ zero z.cells.toList&&z.cells.toList.all Value.oneCell'&&Oy (places.toArray[·]?) ps qs|_,_=>T
 |_,_=>T
section
variable{P:Program}{S:FuncId->Fq->A9->Prop}{F0:Nat->Nat->Prop}{w0:W0}{O:AB}{a:Act}{w:World}{G:Bi}{d:Nat}{o:Oper}{K:EV->AB->Prop}
theorem ax(q:AO F0 w0 O a w G){place:Nat->Option (Nat×Nat)}:∀{ps:List (Nat×Operand)}{l:List (Nat×Nat×AH)}{ts:List (Nat×Nat×TV)},Oy place ps l=X->Hg O l=Y ts ->
  ps.length=ts.length/\(∀(j:Nat)(p:Nat×Value)(t:Nat×Nat×TV),(ps.map λ(i,x)=>(i,a.eval x))[j]?=Y p->ts[j]?=Y t->place p.1=Y (t.1,t.2.1)/\A1 w (AW w0.heap.size F0 G) t.2.2 p.2)/\∀t∈ts,t.2.2.WF
 |[],[],ts,_,h=>by simp[Hg]at h;subst h;simp|[],_::_,_,h,_=>by simp[Oy]at h|_::_,[],_,h,_=>by simp[Oy]at h|(i,x)::ps,(A,n,y)::l,ts,g,h=>by
  simp [Oy]at g;simp[Hg]at h;split at h
  .rename_i t r u m;simp at h;subst h;obtain⟨C,D,E⟩:=ax q g.2 m;have B:=BD q g.1.2 u
   grind
  .cases h
theorem j9:∀{ds cs:Fq}(i:Nat),TV.tc cs->TV.tc ds->TV.tc (Qk cs i ds)
 |[],_,_,h,_=>h|d::ds,cs,i,h,hd=>by
  refine j9 (i+1) ?_ hd.2
  grind [B7,List.mem_or_eq_of_mem_set]
theorem gc:∀{ts:List (Nat×Nat×TV)}{cs cs':Fq},TV.tc cs->(∀t∈ts,t.2.2.WF)->Fm cs ts=Y cs'->TV.tc cs'
 |[],cs,cs',h,_,hf=>by simp[Fm]at hf;subst hf;exact h|(i,n,t)::ts,cs,cs',h,g,hf=>by
  simp only[Fm]at hf;split at hf
  .exact gc (j9 i h (Iy (g (i,n,t) V))) (λu l=>g u (by simp[l])) hf
  .cases hf
variable{t:TypeId}{ps:Array (Nat×Operand)}
theorem rk(A:AO F0 w0 O a w G)(hd:d<a.tmps.size){zero:Fq}{m:List (Nat×Nat×AH)}(p:o.op=.build t ps)(q:lC P t zero ps.toList m=X)(h:(AE.bld zero m).wp S O (Y d) K):BI P F0 w0 a w o d K:=by
 simp [AE.wp]at h;cases g:Hg O m with
 |none=>rw[g]at h;exact h.elim|some ts=>
  rw [g]at h;simp[Ay]at h;cases l:Fm zero ts with
  |none=>rw[l]at h;exact h.elim|some cs=>
   rw [l]at h;simp only at h;have key:∀(place:Nat->Option (Nat×Nat))(z:Array Value),LJ zero z.toList=X->z.toList.all Value.oneCell'=X->Oy place ps.toList m=X->∃xs',Instr.fill place z (ps.map λ(i,x)=>(i,a.eval x)).toList=Y xs'/\AQ w (AW w0.heap.size F0 G) cs xs'.toList/\TV.tc cs/\xs'.toList.all Value.oneCell'=X:=by
    intro place z H r I;obtain⟨u,C,D⟩:=ax A I g;have B:=ST w (AW w0.heap.size F0 G) zero z.toList H;have J:(ps.map λ(i,x)=>(i,a.eval x)).toList=ps.toList.map λ(i,x)=>(i,a.eval x):=V
    rw [J];obtain⟨xs',L,M,N⟩:=XN B.1 i9 C l (λx E=>x?.1 r x E)
    grind [gc,x?]
   have built:∃xs',P.built t (ps.map λ(i,x)=>(i,a.eval x)).toList=Y xs'/\AQ w (AW w0.heap.size F0 G) cs xs'.toList/\TV.tc cs/\xs'.toList.all Value.oneCell'=X:=by
    unfold lC at q;unfold Program.built
    grind
   obtain ⟨xs',u,C,D,B⟩:=built;refine Cx A hd (v:=.agg xs') (t:=.agg cs) ?_ ?_ (by simpa[TV.WF]using D) h
   .simp[execOp,p,run_build w t _ xs' u]
   grind [A1]
variable{x:Operand}{n:Nat}
theorem bW(l:AO F0 w0 O a w G)(hd:d<a.tmps.size)(g:o.op=.move x\/o.op=.assign x)(m:∃v,x=.const v/\Nz v=X)(h:(AE.Abz n).wp S O (Y d) K):BI P F0 w0 a w o d K:=by
 simp [AE.wp]at h;obtain⟨v,rfl,hv⟩:=m;refine⟨.slice W 0 0,w,?_,_,_,h,l.ow (Below.refl _ _) d hd (.list n []) _ W V ?_ ⟨V,trivial⟩⟩
 .rcases g with g|g<;>simp[execOp,g,Act.eval,Ko hv]
 .simp only[CD];exact⟨[],⟨V,.inl ⟨rfl,rfl,rfl⟩⟩,rfl,V,V⟩
end
end Go.Sf
namespace Go.Sf
open Go.RowKit (Below)
theorem lj(g:Fq)(x t:TV)(r:Fq):(g++x::r).set g.length t=g++t::r:=m?
theorem Vu:∀(ds g rest:Fq),ds.length<=rest.length->Qk (g++rest) g.length ds=g++ds++rest.drop ds.length
 |[],g,rest,_=>by simp[Qk]|d::ds,g,[],h=>by simp at h|d::ds,g,x::rest,h=>by
  simp [Qk,lj];have:=Vu ds (g++[d]) rest b?
  grind
def Mg(n:Nat):Nat->Fq->List (Nat×Nat×TV)
 |_,[]=>[]|k,t::ts=>(k*n,n,t)::Mg n (k+1) ts
theorem aF(n:Nat):∀(ts g:Fq)(k:Nat),(∀t∈ts,t.cells.length=n)->g.length=k*n ->
  Fm (g++z_ (ts.length*n) .undef) (Mg n k ts)=Y (g++ts.flatMap TV.cells)
 |[],g,k,_,_=>by simp[Mg,Fm]|t::ts,g,k,h,p=>by
  have m:t.cells.length=n:=h t V;simp only[Mg,Fm];rw[ac ⟨m,by simp[b6,z!,cE,B!];omega⟩];rw[<-p,Vu t.cells g _ (by simp[z!,cE,B!];omega)];have hr:(z_ ((t::ts).length*n) TV.undef).drop t.cells.length=z_ (ts.length*n) TV.undef:=by
   grind [cE,B!]
  rw [hr];have:=aF n ts (g++t.cells) (k+1) (λx l=>h x (by simp[l])) (by simp[b6,B!];omega)
  grind
def Ub:Nat->List (Nat×Operand)->List AH->Bool
 |_,[],[]=>X|k,(i,x)::ps,y::ys=>i==k&&AK x y&&Ub (k+1) ps ys|_,_,_=>T
section
variable{P:Program}{S:FuncId->Fq->A9->Prop}{F0:Nat->Nat->Prop}{w0:W0}{O:AB}{a:Act}{w:World}{G:Bi}{d:Nat}{o:Oper}{K:EV->AB->Prop}
theorem jI(m:AO F0 w0 O a w G)(n:Nat):∀{k:Nat}{ps:List (Nat×Operand)}{ys:List AH}{ts:Fq},Ub k ps ys=X->vals O ys=Y ts ->
  ps.length=ts.length/\(∀(j:Nat)(p:Nat×Value)(t:Nat×Nat×TV),(ps.map λ(i,x)=>(i,a.eval x))[j]?=Y p->(Mg n k ts)[j]?=Y t->(Y (p.1*n,n):Option (Nat×Nat))=Y (t.1,t.2.1)/\A1 w (AW w0.heap.size F0 G) t.2.2 p.2)/\TV.tc ts
 |_,[],[],ts,_,h=>by simp[vals]at h;subst h;simp[TV.tc]|_,[],_::_,_,h,_=>by simp[Ub]at h|_,_::_,[],_,h,_=>by simp[Ub]at h|k,(i,x)::ps,y::ys,ts,g,h=>by
  simp [Ub]at g;simp[vals]at h;split at h
  .rename_i t q r l;simp at h;subst h;obtain⟨B,H,C⟩:=jI m n g.2 l;have A:=BD m g.1.2 r;refine⟨by simp[B],λj p u D E=>?_,A.2,C⟩
   grind [Mg]
  .cases h
theorem S4(n:Nat):∀(k:Nat)(ts:Fq),(Mg n k ts).length=ts.length
 |_,[]=>rfl|k,t::ts=>by simp[Mg,S4 n (k+1) ts]
variable{n:Nat}{ts:Fq}{e:TypeId}
theorem uc{F:Nat->Nat->Prop}{cells:Array Value}(h:AQ (w.alloc (.cells cells e)) F (ts.flatMap TV.cells) cells.toList)(ho:∀x∈cells.toList,x.oneCell'=X)(l:∀t∈ts,t.cells.length=n)(m:ts.length<=maxLen):
  CD (w.alloc (.cells cells e)) F (Y (w.heap.size,ts.length*n)) (.list n ts) (.slice (Y ⟨w.heap.size,0,W⟩) ts.length ts.length):=by
 have g:=BX h;rw[Qi n ts l]at g;simp[CD];refine⟨cells.toList,⟨g,.inr ⟨w.heap.size,ts.length,cells,e,rfl,heap_alloc_new w _,az _,m,g?,?_,rfl⟩⟩,h,l,ho⟩;rw[<-g,List.take_length]
variable{t:TypeId}{ps:Array (Nat×Operand)}
theorem sA(θ:AO F0 w0 O a w G)(hd:d<a.tmps.size){r:TypeInfo}{z:Value}{len n:Nat}{ys:List AH}(J:o.op=.buildSlice t len ps)(ε:P.underlying t=Y (.slice e))(u:P.info? e=Y r)(hz:r.zero=Y z)
  (κ:r.size=n)(A:0<n)(η:z.cells.toList.all Value.oneCell'=X)(hzs:0<z.cells.size)(B:len=ps.size)(hsm:len*n<=2^ 24)(L:Ub 0 ps.toList ys=X)(h:(AE.lst n ys).wp S O (Y d) K):BI P F0 w0 a w o d K:=by
 simp [AE.wp]at h;cases l:vals O ys with
 |none=>rw[l]at h;exact h.elim|some ts=>
  rw [l]at h;simp[Ay]at h;obtain⟨ζ,hK⟩:=h;obtain⟨δ,h2,h3⟩:=jI θ n L l;have M:len=ts.length:=by rw[B,<-δ];simp
  have N:(TV.list n ts).WF:=⟨by simp[LH];have:len*1<=len*n:=B? _ A;omega,h3⟩;have Q:ts.length<=maxLen:=by simp[maxLen];have:len*1<=len*n:=B? _ A;omega
  have g:∃cells:Array Value,(Instr.buildSlice t len (ps.map λ(i,x)=>(i,a.eval x))).run P w=.ok (.slice (Y ⟨w.heap.size,0,W⟩) len len) (w.alloc (.cells cells e))/\AQ w (AW w0.heap.size F0 G) (ts.flatMap TV.cells) cells.toList/\∀x∈cells.toList,x.oneCell'=X:=by
   by_cases h0:len=0
   .have R:ps=#[]:=by apply Array.eq_empty_of_size_eq_zero;omega
    have D:ts=[]:=by apply y?;omega
    subst R;subst D;subst h0;refine⟨#[],?_,rfl,V⟩;simp[Instr.buildSlice,run_underlying ε,sizeOf,typeInfo,u,Instr.fill,newRow]
    grind
   .have m:AQ w (AW w0.heap.size F0 G) (z_ (ts.length*n) .undef) ((B_ (len*r.size)).map (z.cells[· % z.cells.size]!)).toList:=by
     grind [Bs,tl,A1,Option.map_eq_some_iff,Nat.mod_lt,x?]
    have E:=aF n ts [] 0 ζ V;simp at E;have p:∀x∈((B_ (len*r.size)).map (z.cells[· % z.cells.size]!)).toList,x.oneCell'=X:=by
     grind [Nat.mod_lt,x?]
    obtain ⟨xs',Z,h7,h8⟩:=XN (place:=λi=>Y (i*n,n)) m (by rw[S4];simpa using δ) h2 E p;refine⟨xs',run_buildSlice w t e len _ xs' r z ε u hz (by rw[κ];omega) ?_ ?_,h7,h8⟩
    .grind[Nat.mul_eq_zero]
    .rw[κ]at Z|-;simpa using Z
  obtain ⟨cells,H,I,q⟩:=g;have hb:Below w.heap.size w (w.alloc (.cells cells e)):=(Below.refl _ _).alloc (az _) _;refine⟨.slice (Y ⟨w.heap.size,0,W⟩) len len,_,by simp[execOp,J,H],_,_,hK,θ.ow hb d hd (.list n ts) _ (Y (w.heap.size,ts.length*n)) (λb lo C=>?_) ?_ N⟩
  .simp at C;obtain⟨rfl,_⟩:=C;exact⟨az _,V⟩
  .rw[M];exact uc (A7 (Ly hb d _ (λi b lo h=>by
    grind)) _ _ I) q ζ Q
theorem AO.strip(h:AO F0 w0 O a w G)(s:Nat):AO F0 w0 (strip O s) a w G:=by
 refine ⟨h.o3,h.lt,h.below,h.defers,λq l=>?_,λq l=>?_,λq=>?_⟩
 .simp only[Go.Sf.strip,AB.eb];split
  .rfl
  .exact h.dom q l
 .have:=h.slots q l;simp[Go.Sf.strip,AB.eb];split
  .trivial
  .refine AN.kept (Ra _ _) (λ_=>rfl) (λ_ _ _ _=>rfl) rfl BY.rfl' (λr i k hr⟨p,m⟩=>⟨⟨p,(AB.Aac V m).2⟩,λ_ hv=>hv⟩) (λr u hr⟨cs,g⟩=>?_) (λr i hr⟨p,m⟩=>⟨⟨p,(AB.t1 V V m).2⟩,λ_ hv=>hv⟩) this
   .rw[AB.eb]at g;split at g
    .cases g
    .exact⟨⟨cs,g⟩,rfl⟩
 .simp[Go.Sf.strip,AB.eb];split
  .trivial
  .exact h.wf q
variable{s:Nat}
theorem AO.move(h:AO F0 w0 O a w G){t:TV}(N:O.get s=.ow t)(hd:d<a.tmps.size):
  ∃m,AO F0 w0 ((d,.ow t)::Go.Sf.strip O s) (a.put (Y d) (slot a s)) w m/\Bt w w (AW w0.heap.size F0 G) (AW w0.heap.size F0 m):=by
 have B:=At h N V;simp[AN]at B;have L:=h.wf s;rw[N]at L
 let zs:Option (Nat×Nat):=G s W
 let m:Bi:=Km (Km G s (λ_=>W)) d (λi=>if i=W then zs else W)
 have D:∀q i b lo,m q i=Y (b,lo)->(q=d/\i=W/\G s W=Y (b,lo))\/(q≠d/\q≠s/\G q i=Y (b,lo)):=by
  intro q i b lo u;by_cases l:q=d
  .grind[CM]
  .simp[m,BZ _ _ _ _ l]at u;by_cases ε:q=s
   .grind[CM]
   .rw[BZ _ _ _ _ ε]at u
    grind
 have E:∀q i b lo,m q i=Y (b,lo)->∃κ η lo',G κ η=Y (b,lo')/\lo'<=lo:=by
  grind
 have H:Bt w w (AW w0.heap.size F0 G) (AW w0.heap.size F0 m):=λb o v ζ hf=>⟨ζ,λQ=>hf (AW.mono E Q)⟩;refine⟨m,⟨?_,?_,h.below,g!,?_,?_,?_⟩,H⟩
 .intro q i κ η b lo lo' A C;rcases D _ _ _ _ A with⟨rfl,rfl,J⟩|⟨n1,n2,J⟩<;>rcases D _ _ _ _ C with⟨rfl,rfl,M⟩|⟨m1,m2,M⟩
  .exact⟨rfl,rfl⟩
  .exact absurd (h.o3 _ _ _ _ _ _ _ J M).1.symm m2
  .exact absurd (h.o3 _ _ _ _ _ _ _ J M).1 n2
  .exact h.o3 _ _ _ _ _ _ _ J M
 .intro q i b lo A;rcases D _ _ _ _ A with⟨_,_,J⟩|⟨_,_,J⟩<;>exact h.lt _ _ _ _ J
 .intro q u;rw[Bu]at u;rw[AB.eb,ae U];exact(h.strip s).dom q u
 .intro q u;rw[Bu]at u;rw[AB.eb];by_cases l:d=q
  .subst l;rw[ac rfl,C2 _ _ _ hd];simp[AN,m,CM];exact B.kept H (λ_ _ _=>rfl)
  .rw[ae l,AZ _ _ _ _ l];simp[Go.Sf.strip,AB.eb];split
   .trivial
   .rename_i θ;refine AN.kept H (λi=>?_) (λ_ _ _ _=>rfl) (OI (Bu _ _ _) (λq u=>by
     have Z:=Bw h N V
     grind [BZ])) BY.rfl' (λr i k hr⟨p,R⟩=>?_) (λr δ hr⟨cs,g⟩=>?_) (λr i hr⟨p,R⟩=>?_) (h.slots q u)
    .simp[m];rw[BZ _ _ _ _ (λe=>l e.symm),BZ _ _ _ _ (λe=>θ e.symm)]
    .have A:=AB.Aac V R;have C:=AB.Aac V A.2;exact⟨⟨p,C.2⟩,h.nh ⟨p,C.2⟩ (AZ _ _ _ _ A.1) (λ_ _ _ _=>rfl)⟩
    .rw[AB.eb]at g;by_cases I:d=r
     .rw[ac I]at g;cases g
     .rw[ae I]at g;simp[AB.eb]at g;split at g
      .cases g
      .exact⟨⟨cs,g⟩,AZ _ _ _ _ I⟩
    .have A:=AB.t1 V V R;have C:=AB.t1 V V A.2;exact⟨⟨p,C.2⟩,h.xv ⟨p,C.2⟩ (AZ _ _ _ _ A.1) (λ_ _=>rfl)⟩
 .intro q;rw[AB.eb];split
  .exact L
  .exact(h.strip s).wf q
theorem rf(a:Act)(d s:Nat)(v:Value)(h:d<a.tmps.size):slot (a.put (Y d) v) s=if d=s then v else slot a s:=by grind[C2,AZ]
theorem AO.move'(h:AO F0 w0 O a w G){t:TV}(g:O.get s=.ow t)(hd:d<a.tmps.size):
  B9 F0 w0 ((d,.ow t)::(s,.tv t)::O) (a.put (Y d) (slot a s)) w:=by
 obtain ⟨p,q,m⟩:=h.move g hd;have hv:=BD h (x:=.tmp s) (y:=.s s) q_ (t:=t) (by simp[AH.val,AH.ev,g,EV.val]);have l:=Bw h g V;refine⟨p,q.rem s (t:=t) (by rw[Bu];exact l) ?_ hv.2 λn=>?_⟩
 .have:slot (a.put (Y d) (slot a s)) s=slot a s:=by rw[rf _ _ _ _ hd];split<;>rfl
  rw [this];exact CR m _ _ hv.1
 .simp[Go.Sf.strip,AB.eb];split
  .exact .inl rfl
  .split
   next e=>exact .inr ⟨e.symm,rfl⟩
   .exact .inl rfl
theorem jv(m:AO F0 w0 O a w G)(hd:d<a.tmps.size)(g:o.op=.move (.tmp s)\/o.op=.assign (.tmp s))(h:(AE.tk s).wp S O (Y d) K):BI P F0 w0 a w o d K:=by
 simp [AE.wp]at h;have l:(execOp a.eval o).run P w=.ok (.value (slot a s)) w:=by
  rcases g with g|g<;>simp[execOp,g]<;>rfl
 split at h
 next t p=>exact⟨_,_,l,_,_,h,m.move' p hd⟩
 next t p=>have:=BD m (x:=.tmp s) (y:=.s s) q_ (t:=t) (by simp[AH.val,AH.ev,p,EV.val]);exact Cx m hd l this.1 this.2 h
 .exact h.elim
end
end Go.Sf
