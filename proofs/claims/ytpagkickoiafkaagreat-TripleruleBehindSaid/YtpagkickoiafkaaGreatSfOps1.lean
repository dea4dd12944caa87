/- The checker's operands, and the operations that only compute or read. -/
import Derived.Test.YtpagkickoiafkaaGreatSfInv
import Derived.Laws.StructEq
import Derived.Laws.Tables
import Derived.Great.BuildSlice
set_option linter.all false
open Option renaming some->Y,none->W
open Bool renaming true->X,false->T
open List renaming getElem?_eq_getElem->v?,mem_of_getElem?->w_,getElem?_drop->w!,mem_of_mem_drop->w?,getElem?_take->x_,all_eq_true->x!,mem_of_mem_take->x?,map_take->y_,eq_nil_of_length_eq_zero->y!,replicate->y?,length_replicate->z_
open Bool renaming and_assoc->z!,eq_iff_iff->z?
open Array renaming length_toList->A_,foldl_toList->A',toList_zipIdx->A!,range->A?
open Nat renaming add_zero->B_,add_mul->B',mul_le_mul_left->B!
namespace Go.Sf
open Go.RowKit (Below)
def MO:Value->Bool
 |.slice W 0 0=>X|_=>T
variable{v:Value}
theorem Jh(h:MO v=X):v=.slice W 0 0:=by grind[MO]
def oN(f:FuncId):Value->Bool
 |.func (.func g) first caps=>f==g&&first.size==0&&caps.size==0
 |_=>T
variable{f:FuncId}
theorem sG(h:oN f v=X):v=.func (.func f) #[] #[]:=by
 unfold oN at h
 grind
def jG(k:IntKind)(n:Int):Value->Bool
 |.int k' m=>k==k'&&n==m|_=>T
theorem oQ{k:IntKind}{n:Int}(h:jG k n v=X):v=.int k n:=by
 unfold jG at h
 grind
def cI(b:Bool):Value->Bool
 |.bool c=>b==c|_=>T
variable{b:Bool}
theorem lC(h:cI b v=X):v=.bool b:=by
 unfold cI at h
 grind
def jH(s:ByteArray):Value->Bool
 |.string r=>s.data==r.data|_=>T
theorem oS{s:ByteArray}(h:jH s v=X):v=.string s:=by
 unfold jH at h
 grind [ByteArray.ext]
def ia:Value->Option (List Value)
 |.agg vs=>Y vs.toList|_=>W
theorem nY{l:List Value}(h:ia v=Y l):v=.agg l.toArray:=by
 unfold ia at h;split at h
 .simp at h;subst h;simp
 .cases h
mutual
def D9:TV->Value->Bool
 |.int k n,v=>jG k n v&&decide (k.min<=n/\n<=k.max)|.bool b,v=>cI b v|.str s,v=>jH s v&&decide (s.size<=J3)|.list _ es,v=>es.isEmpty&&MO v|.agg ts,v=>match ia v with|some vs=>J4 ts vs&&vs.all Value.oneCell'|none=>T
 |.z5 f cs,v=>cs.isEmpty&&oN f v|.nil,v=>MO v|.undef,v=>v.oneCell'|_,_=>T
def J4:Fq->List Value->Bool
 |[],vs=>vs.isEmpty|t::ts,vs=>match vs with|v::vs=>D9 t v&&J4 ts vs|[]=>T
end
mutual
theorem HK(w:World)(F:Nat->Nat->Prop):∀(t:TV)(v:Value),D9 t v=X->Ap w F t v/\t.WF
 |.undef,v,h=>by
  simp [D9]at h;exact⟨by simpa[Ap]using h,trivial⟩
 |.xl _ _,v,h=>by simp[D9]at h|.nil,v,h=>by
  simp [D9]at h;exact⟨Jh h,trivial⟩
 |.pt _,v,h=>by simp[D9]at h|.int k n,v,h=>by
  simp [D9,ml]at h;exact⟨oQ h.1,h.2⟩
 |.bool b,v,h=>by
  simp [D9]at h;exact⟨lC h,trivial⟩
 |.str s,v,h=>by
  simp [D9,ml]at h;exact⟨oS h.1,h.2⟩
 |.list n es,v,h=>by
  simp [D9]at h
  grind [TV.WF,TV.k7,Ap,Jh]
 |.agg ts,v,h=>by
  simp [D9]at h;split at h
  next vs hv=>rw[gN]at h;have:=RH w F ts vs h.1;refine⟨?_,by simpa[TV.WF]using this.2⟩;simp only[Ap];exact⟨_,nY hv,to,by simpa using h.2⟩
  .cases h
 |.z5 f cs,v,h=>by
  simp [D9]at h;obtain⟨rfl,h⟩:=h;refine⟨?_,by simp[TV.WF,TV.k7]⟩;simp[Ap];exact⟨#[],sG h,rfl⟩
theorem RH(w:World)(F:Nat->Nat->Prop):∀(ts:Fq)(vs:List Value),J4 ts vs=X->AT w F ts vs/\TV.k7 ts
 |[],vs,h=>by simp[J4]at h;subst h;exact⟨rfl,trivial⟩|t::ts,vs,h=>by
  cases vs with
  |nil=>simp[J4]at h|cons v vs=>
   simp [J4]at h;have g:=HK w F t v h.1;have l:=RH w F ts vs h.2;exact⟨⟨v,vs,rfl,g.1,l.1⟩,g.2,l.2⟩
end
def AJ(x:Operand):AF->Bool
 |.s m=>match x with|.tmp n=>n==m|_=>T
 |.c t=>match x with|.const v=>D9 t v|.func f=>D9 t (.func (.func f) #[] #[])|_=>T
section
variable{F0:Nat->Nat->Prop}{w0:W0}{O:AB}{a:Act}{w:World}{G:BV}
variable{s:Nat}
theorem Ou(h:AR F0 w0 O a w G){i:Option Nat}:∀b lo o,G s i=Y (b,lo)->o<lo->¬AW w0.heap.size F0 G b o:=by
 intro b lo o l ho hf;rcases hf with⟨m,g⟩|⟨s',q,lo',p,r⟩
 .exact(h.lt _ _ _ _ l).2.elim (λe=>U) (λe=>h.below.free _ _ _ (e _ (aN _)) g)
 .obtain⟨rfl,rfl⟩:=h.gB _ _ _ _ _ _ _ p l
  grind
variable{n:Nat}
theorem Bg(h:AR F0 w0 O a w G){e:EV}(he:O.get n=e)(g:e≠.undef):n<a.tmps.size:=by
 rcases Nat.lt_or_ge n a.tmps.size with l|m
 .exact l
 .exact absurd ((h.dom n m).symm.trans he).symm g
theorem Ah(h:AR F0 w0 O a w G){e:EV}(he:O.get n=e)(g:e≠.undef):AK a w (AW w0.heap.size F0 G) G O n e (slot a n):=by
 have:=h.slots n (Bg h he g)
 rwa [he]at this
theorem nO(g:AR F0 w0 O a w G){x:AF}{row:Fq}(h:x.val O=Y (.pt row)):x.ev O=.tv (.pt row):=by
 cases x with
 |c t=>simpa[AF.val,AF.ev,EV.val]using h|s n=>
  simp [AF.val,AF.ev]at h|-;cases he:O.get n with
  |tv t=>rw[he]at h;simpa[EV.val]using h|ow t=>
   rw [he]at h;have l:t=.pt row:=by simpa[EV.val]using h
   subst l;by_cases hn:n<a.tmps.size
   .have:=g.slots n hn;rw[he]at this;simp[AK,Bo]at this
   .rw[g.dom n (Nat.le_of_not_lt hn)]at he;cases he
  |_=>rw[he]at h;simp[EV.val]at h
variable{x:Operand}{y:AF}
theorem Ax(h:AR F0 w0 O a w G)(l:AJ x y=X){t:TV}(hv:y.val O=Y t):Ap w (AW w0.heap.size F0 G) t (a.eval x)/\t.WF:=by
 cases y with
 |s m=>
  cases x<;>simp[AJ]at l;subst l;rename_i n;simp[AF.val,AF.ev]at hv;have p:=h.wf n;cases he:O.get n with
  |tv r=>
   rw [he]at hv p;simp[EV.val]at hv;subst hv;exact⟨Ah h he V,p⟩
  |ow r=>
   rw [he]at hv p;simp[EV.val]at hv;subst hv;exact⟨Bo.rep (Ah h he V) (λb lo o u ho=>Ou h b lo o u ho),p⟩
  |undef=>rw[he]at hv;simp[EV.val]at hv|sk=>rw[he]at hv;simp[EV.val]at hv|xo n es=>rw[he]at hv;simp[EV.val]at hv|la q i=>rw[he]at hv;simp[EV.val]at hv|vS cs=>rw[he]at hv;simp[EV.val]at hv|xn es=>rw[he]at hv;simp[EV.val]at hv|x1 n B=>rw[he]at hv;simp[EV.val]at hv|mx m=>rw[he]at hv;simp[EV.val]at hv|nh q i k=>rw[he]at hv;simp[EV.val]at hv|lp q i c=>rw[he]at hv;simp[EV.val]at hv|bx cs=>rw[he]at hv;simp[EV.val]at hv|bp q A=>rw[he]at hv;simp[EV.val]at hv|tp ts=>rw[he]at hv;simp[EV.val]at hv
 |c r=>
  simp [AF.val,AF.ev,EV.val]at hv;subst hv;cases x with
  |const v=>exact HK w _ _ _ l|func f=>exact HK w _ _ _ l|tmp n=>simp[AJ]at l|global g=>simp[AJ]at l
theorem Xx(h:AR F0 w0 O a w G)(g:AJ x y=X){t:TV}(hv:y.ev O=.tv t):Ap w (AW w0.heap.size F0 G) t (a.eval x)/\t.WF:=by grind[Ax,AF.val,EV.val]
def Bc:List Operand->List AF->Bool
 |[],[]=>X|x::xs,y::ys=>AJ x y&&Bc xs ys|_,_=>T
theorem Fo(h:AR F0 w0 O a w G):∀{xs:List Operand}{ys:List AF},Bc xs ys=X->∀{ts:Fq},vals O ys=Y ts->AT w (AW w0.heap.size F0 G) ts (xs.map a.eval)/\TV.k7 ts
 |[],[],_,ts,hv=>by simp[vals]at hv;subst hv;exact⟨rfl,trivial⟩|[],_::_,g,_,_=>by simp[Bc]at g|_::_,[],g,_,_=>by simp[Bc]at g|x::xs,y::ys,g,ts,hv=>by
  simp [Bc]at g;simp[vals]at hv;split at hv
  next t q r l=>simp at hv;subst hv;have m:=Ax h g.1 r;have p:=Fo h g.2 l;exact⟨⟨_,_,rfl,m.1,p.1⟩,m.2,p.2⟩
  .cases hv
end
theorem MH(k:IntKind)(n:Int):k.min<=k.wrap n/\k.wrap n<=k.max:=by
 cases k<;>simp only[IntKind.min,IntKind.max,IntKind.wrap,IntKind.signed,IntKind.bits,Bool.true_and,Bool.false_and]<;>simp<;>(try split)<;>omega
end Go.Sf
namespace Go.Sf
open Go.RowKit (Below)
def Cx(P:Program)(t:TypeId):Option Nat:=(P.info? t).map (·.size)
def B2(P:Program)(t:TypeId):I1:=
 match P.underlying t with
 |some (.struct _)|some (.array _ _)=>Y X|some _=>Y T|none=>W
def IZ(P:Program)(t:TypeId):Option Nat:=
 match P.underlying t with
 |some (.slice e)=>Cx P e|_=>W
def Pf(P:Program)(t:TypeId)(f:Nat):Option Nat:=
 match P.underlying t with
 |some (.struct fs)=>match fs[f]? with
  |some x=>match Cx P x.type with
   |some 0=>W|some _=>Y x.offset|none=>W
  |none=>W
 |_=>W
section
variable{P:Program}{w:World}
variable{t:TypeId}{n:Nat}
theorem B7(h:Cx P t=Y n):(sizeOf t).run P w=.ok n w:=by
 simp only[Cx,Option.map_eq_some_iff]at h;obtain⟨i,hi,rfl⟩:=h;simp[sizeOf,typeInfo,hi]
variable{b:Bool}
theorem Cg(h:B2 P t=Y b):(isAgg t).run P w=.ok b w:=by
 unfold B2 at h;unfold isAgg underlying;simp only[Sem.run_bind,run_program,Result.andThen_ok];cases g:P.underlying t with
 |none=>rw[g]at h;simp at h|some d=>
  rw [g]at h;cases d<;>simp_all
theorem VM{f k b o:Nat}(h:Pf P t f=Y k):
  (Instr.fieldAt t (.pointer (Y ⟨b,o,W⟩)) f).run P w=.ok (.pointer (Y ⟨b,o+k,W⟩)) w:=by
 unfold Pf at h;split at h
 .rename_i q l;split at h
  .rename_i x m;split at h
   .cases h
   next n hn p=>simp only[kx]at h;subst h;have g:¬(n=0):=λe=>hn (by rw[e]);simp[Instr.fieldAt,run_underlying l,m,Instr.sureAddr,fieldPlace,B7 p,g,Addr.add_lit]
   .cases h
  .cases h
 .cases h
variable{ts:Fq}
theorem Tp{F:Nat->Nat->Prop}{b o:Nat}(h:DD w F ts b o):∃vs:List Value,AT w F ts vs/\(∀x∈vs,x.oneCell'=X)/\∀(j:Nat)(v:Value),vs[j]?=Y v->w.cell? ((⟨b,o,W⟩:Addr).add j)=Y v:=by
 induction ts generalizing o with
 |nil=>exact⟨[],rfl,V,V⟩|cons t ts C=>
  simp only[DD]at h;obtain⟨⟨v,l,D,m,p⟩,q⟩:=h;obtain⟨vs,r,A,B⟩:=C q;refine⟨v::vs,⟨v,vs,rfl,p,r⟩,by simp only[List.mem_cons,forall_eq_or_imp];exact⟨m,A⟩,λj u g=>?_⟩;rw[Addr.add_lit];cases j with
  |zero=>simp at g;subst g;exact l|succ j=>
   have:=B j u t!;rw[Addr.add_lit]at this
   grind
theorem BJ{F:Nat->Nat->Prop}{vs:List Value}(h:AT w F ts vs):vs.length=ts.length:=((Bf ts vs).1 h).1
variable{v:Value}
theorem jo{F:Nat->Nat->Prop}{es:Fq}{k:IntKind}{j:Int}(l:IZ P t=Y n)(h:Ap w F (.list n es) v)(H:0<=j){e:TV}(he:es[j.toNat]?=Y e):
  ∃p,(Instr.indexAt t v (.int k j)).run P w=.ok p w/\Ap w F (.pt e.cells) p:=by
 simp only[Ap]at h;obtain⟨a,cap,rfl,_,C,D⟩:=h;have g:j.toNat<es.length:=by
  grind
 cases a with
 |none=>have:=C rfl;subst this;simp at g|some r=>
  obtain ⟨m,q⟩:=D r rfl;obtain⟨b,o,E⟩:=r;simp only at m q;have m:E=W:=m.resolve_left (λe=>by subst e;simp at g);subst m;unfold IZ at l;split at l
  .rename_i el u;rw[R3]at q;have A:=q j.toNat e he;have B:0<=j/\j<(es.length:Int):=U
   refine ⟨.pointer (Y ⟨b,o+j.toNat*n,W⟩),?_,?_⟩
   .simp[Instr.indexAt,asIntOf,run_underlying u,B,B7 l,Addr.add_lit]
   .simp only[Ap];exact⟨b,_,rfl,A.1⟩
  .cases l
end
end Go.Sf
namespace Go.Sf
open Go.RowKit (Below)
def A2(P:Program)(F0:Nat->Nat->Prop)(w0:W0)(a:Act)(w:World)(o:Oper)(d:Nat)(K:EV->AB->Prop):Prop:=
 ∃v w',(execOp a.eval o).run P w=.ok (.value v) w'/\∃e env',K e env'/\Bs F0 w0 ((d,e)::env') (a.put (Y d) v) w'
theorem Bn:∀{l:Fq},TV.k7 l↔∀t∈l,t.WF
 |[]=>by simp[TV.k7]|t::l=>by simp[TV.k7,Bn (l:=l)]
theorem Hz{t:TV}(h:t.WF):TV.k7 t.cells:=by
 cases t with
 |agg cs=>exact h|_=>exact⟨h,trivial⟩
section
variable{P:Program}{S:FuncId->Fq->At->Prop}{F0:Nat->Nat->Prop}{w0:W0}{O:AB}{a:Act}{w:World}{G:BV}{d:Nat}{o:Oper}{K:EV->AB->Prop}
variable{v:Value}
theorem Cc(h:AR F0 w0 O a w G)(hd:d<a.tmps.size){t:TV}(g:(execOp a.eval o).run P w=.ok (.value v) w)
  (l:Ap w (AW w0.heap.size F0 G) t v)(m:t.WF)(p:K (.tv t) O):A2 P F0 w0 a w o d K:=
 ⟨v,w,g,_,_,p,h.tv_same d hd t v l m⟩
variable{x:Operand}{y:AF}
theorem g9(p:AR F0 w0 O a w G)(hd:d<a.tmps.size)(g:o.op=.move x\/o.op=.assign x)(l:AJ x y=X)(h:(AE.mv y).wp S O (Y d) K):A2 P F0 w0 a w o d K:=by
 simp [AE.wp]at h;have hv:(∃t,y.val O=Y t/\K (.tv t) O)\/∃ts,y.ev O=.tp ts/\K (.tp ts) O:=by
  unfold AF.val;split at h<;>first|exact h.elim|(rename_i t he;exact .inl ⟨t,by rw[he];rfl,h⟩)|(rename_i t he;exact .inr ⟨t,he,h⟩)
 have m:(execOp a.eval o).run P w=.ok (.value (a.eval x)) w:=by rcases g with g|g<;>simp[execOp,g]
 rcases hv with⟨t,hv,C⟩|⟨ts,hv,C⟩
 .have:=Ax p l hv
  grind [Cc]
 .cases y with
  |c t=>simp[AF.ev]at hv|s n=>
   have E:x=.tmp n:=by
    cases x<;>simp[AJ]at l;rw[l]
   subst E;simp[AF.ev]at hv;have A:=Ah p hv V;have B:=p.wf n;rw[hv]at B;refine⟨_,w,m,_,_,C,⟨_,p.quiet (Below.refl _ _) d hd (.tp ts) _ (λ_=>W) V V V ?_ B⟩⟩;simp[AK]at A|-;obtain⟨vs,I,J⟩:=A;refine⟨vs,I,As (λb o u D hf=>⟨D,λr=>hf ?_⟩) _ _ J⟩;rcases r with q|⟨s,i,lo,q,L⟩
   .exact .inl q
   .by_cases H:s=d
    .grind[Bv]
    .rw[BD _ _ _ _ H]at q;exact .inr ⟨s,i,lo,q,L⟩
theorem nE(l:AR F0 w0 O a w G)(hd:d<a.tmps.size){c x x':Operand}{c' y y':AF}(m:o.op=.pick c x x')(r:AJ c c'=X)(B:AJ x y=X)(C:AJ x' y'=X)
  (h:(AE.pick c' y y').wp S O (Y d) K):A2 P F0 w0 a w o d K:=by
 simp [AE.wp]at h;split at h
 .rename_i q u;have g:=(Ax l r u).1;simp[Ap]at g;have p:AJ (if q then x else x') (if q then y else y')=X:=by cases q<;>assumption
  have hv:∃t,(if q then y else y').val O=Y t/\K (.tv t) O:=by
   unfold AF.val;split at h<;>first|exact h.elim|(rename_i t he;exact⟨t,by rw[he];rfl,h⟩)
  obtain ⟨t,hv,A⟩:=hv;have:=Ax l p hv;refine Cc l hd (v:=a.eval (if q then x else x')) ?_ this.1 this.2 A;cases q<;>simp[execOp,m,g,asBool]
 .exact h.elim
variable{t:TypeId}
theorem qO(m:AR F0 w0 O a w G)(hd:d<a.tmps.size)(g:o.op=.unOp .not t x)(l:AJ x y=X)(h:(AE.not y).wp S O (Y d) K):A2 P F0 w0 a w o d K:=by
 simp [AE.wp]at h;split at h
 next b hv=>have:=(Ax m l hv).1;simp[Ap]at this;exact Cc m hd (v:=.bool !b) (t:=.bool !b) (by simp[execOp,g,this,Op.unary]) rfl trivial h
 .exact h.elim
theorem qL(m:AR F0 w0 O a w G)(hd:d<a.tmps.size)(g:o.op=.unOp .neg t x)(l:AJ x y=X)(h:(AE.neg y).wp S O (Y d) K):A2 P F0 w0 a w o d K:=by
 simp [AE.wp]at h;split at h
 next k n hv=>have:=(Ax m l hv).1;simp[Ap]at this;exact Cc m hd (v:=.int k (k.wrap (-n))) (t:=.int k (k.wrap (-n))) (by simp[execOp,g,this,Op.unary,Op.intArith]) rfl (MH k _) h
 .exact h.elim
theorem py(m:AR F0 w0 O a w G)(hd:d<a.tmps.size){s t:TypeId}{k p:IntKind}(g:o.op=.convert s t x)(q:P.underlying s=Y (.int p))(r:P.underlying t=Y (.int k))(l:AJ x y=X)(h:(AE.cvt k y).wp S O (Y d) K):A2 P F0 w0 a w o d K:=by
 simp [AE.wp]at h;split at h
 next u n hv=>have:=(Ax m l hv).1;simp[Ap]at this;refine Cc m hd (v:=.int k (k.wrap n)) (t:=.int k (k.wrap n)) ?_ rfl (MH k _) h;simp[execOp,g,this,convert,run_underlying q,run_underlying r,Conv.intToInt]
 .exact h.elim
variable{f:FuncId}{ys:List AF}
theorem pu(m:AR F0 w0 O a w G)(hd:d<a.tmps.size){xs:Array Operand}(g:o.op=.makeFunc (.func f) #[] xs)(l:Bc xs.toList ys=X)(h:(AE.z5 f ys).wp S O (Y d) K):A2 P F0 w0 a w o d K:=by
 simp [AE.wp]at h;cases hv:vals O ys with
 |none=>rw[hv]at h;exact h.elim|some ts=>
  rw [hv]at h;have:=Fo m l hv;refine Cc m hd (v:=.func (.func f) #[] (xs.map a.eval)) (by simp[execOp,g,Instr.makeFunc]) ?_ (by simpa[TV.WF]using this.2) h;simp only[Ap];exact⟨_,rfl,to⟩
theorem pz(l:AR F0 w0 O a w G)(hd:d<a.tmps.size){s i:Nat}(m:o.op=.extract (.tmp s) i)(h:(AE.ext (.s s) i).wp S O (Y d) K):A2 P F0 w0 a w o d K:=by
 simp [AE.wp,AF.ev]at h;split at h
 .rename_i ts hv;cases g:ts[i]? with
  |none=>rw[g]at h;exact h.elim|some t=>
   rw [g]at h;have q:=Ah l hv V;have r:=l.wf s;rw[hv]at r;simp[AK]at q;obtain⟨vs,C,u⟩:=q;rw[Bf]at u;have A:i<ts.length:=by
    grind
   have B:vs.toList[i]?=Y (vs.toList[i]' U):=v? U;have p:vs[i]?=Y (vs.toList[i]' U):=V
   refine Cc l hd (v:=vs.toList[i]' U) ?_ (u.2 i t _ g B) ?_ h
   .simp[execOp,m,show a.eval (.tmp s)=slot a s from rfl,C,Instr.extract,p]
   .exact Bn.1 r t (w_ g)
 .exact h.elim
variable{e:TypeId}
theorem qA(m:AR F0 w0 O a w G)(hd:d<a.tmps.size)(g:o.op=.call {callee:=.builtin .len,args:=#[x],argTypes:=#[t]})(l:AJ x y=X)
  (he:P.underlying t=Y (.slice e))(h:(AE.len y).wp S O (Y d) K):A2 P F0 w0 a w o d K:=by
 simp only[AE.wp]at h;split at h
 next n es hv=>have:=Ax m l hv;simp only[Ap,TV.WF,J3]at this;obtain⟨⟨q,cap,p,_⟩,r⟩:=this;refine Cc m hd (v:=.int .i64 es.length) (t:=.int .i64 es.length) ?_ rfl ⟨i_,r_⟩ h;simp[execOp,g,resolve,invoke,builtin,Builtin.len_,run_underlying he,p,goInt]
 .exact h.elim
theorem nG(m:AR F0 w0 O a w G)(hd:d<a.tmps.size)(g:o.op=.call {callee:=.builtin .len,args:=#[x],argTypes:=#[t]})(l:AJ x y=X)
  (he:P.underlying t=Y .string)(h:(AE.Abk y).wp S O (Y d) K):A2 P F0 w0 a w o d K:=by
 simp only[AE.wp]at h;split at h
 next s hv=>have:=Ax m l hv;simp only[Ap,TV.WF,J3]at this;refine Cc m hd (v:=.int .i64 s.size) (t:=.int .i64 s.size) ?_ rfl ⟨i_,r_⟩ h;simp[execOp,g,resolve,invoke,builtin,Builtin.len_,run_underlying he,this.1,goInt]
 .exact h.elim
end
end Go.Sf
namespace Go.Sf
open Go.RowKit (Below)
section
variable{P:Program}{S:FuncId->Fq->At->Prop}{F0:Nat->Nat->Prop}{w0:W0}{O:AB}{a:Act}{w:World}{G:BV}{d:Nat}{o:Oper}{K:EV->AB->Prop}
variable{s:Nat}{ρ:Hc}{c:AQ}
theorem WW(g:AR F0 w0 O a w G){i:Option Nat}{x:Value}(h:BE w (AW w0.heap.size F0 G) ρ (G s i) c x):Ap w (AW w0.heap.size F0 G) c.t x:=by
 obtain ⟨_|_,t⟩:=c
 .exact h.1
 .exact D5.rep h (λb lo o l ho=>Ou g b lo o l ho)
variable{z:Option (Nat×Nat)}
theorem Vv{F:Nat->Nat->Prop}{t:TV}{x:Value}(h:Bo w F z t x):x.oneCell'=X:=by
 cases t<;>simp[Bo]at h;obtain⟨xs,l,_⟩:=h;rcases l.2 with⟨rfl,_⟩|⟨g,cap,m,e,rfl,_⟩<;>rfl
theorem oX{F:Nat->Nat->Prop}{es:Fq}{x:Value}(h:FN w F ρ z es x):x.oneCell'=X:=by
 obtain ⟨xs,⟨p,l,_⟩,_⟩:=h;rcases l.2 with⟨rfl,_⟩|⟨g,cap,m,e,rfl,_⟩<;>rfl
theorem Ot{F:Nat->Nat->Prop}{t:TV}{x:Value}(h:D5 w F ρ z t x):x.oneCell'=X:=by
 by_cases hn:∃es,t=.xn es
 .obtain⟨es,rfl⟩:=hn;exact oX h
 by_cases l:∃n es,t=.xl n es
 .obtain⟨n,es,rfl⟩:=l;simp[D5,Js]at h;obtain⟨xs,⟨q,m,_⟩,_⟩:=h;rcases m.2 with⟨rfl,_⟩|⟨g,cap,p,e,rfl,_⟩<;>rfl
 .refine Vv (w:=w) (F:=F) (z:=z) (t:=t) ?_;cases t<;>first|exact h|exact absurd ⟨_,_,rfl⟩ l|exact absurd ⟨_,rfl⟩ hn
theorem Gn{F:Nat->Nat->Prop}{x:Value}(h:BE w F ρ z c x):x.oneCell'=X:=by
 obtain ⟨_|_,t⟩:=c
 .exact h.2
 .exact Ot h
variable{x:Operand}{y:AF}
theorem Ra(C:AR F0 w0 O a w G)(D:AJ x y=X){cs:Fq}(g:A7 O (y.ev O)=Y cs):
  ∃b o vs,a.eval x=.pointer (Y ⟨b,o,W⟩)/\AT w (AW w0.heap.size F0 G) cs vs/\TV.k7 cs/\(∀x∈vs,x.oneCell'=X)/\∀(j:Nat)(v:Value),vs[j]?=Y v->w.cell? ((⟨b,o,W⟩:Addr).add j)=Y v:=by
 have box:∀(s h:Nat)(ds:List AQ),O.get s=.bx ds->∃b vs,slot a s=.pointer (Y ⟨b,0,W⟩)/\AT w (AW w0.heap.size F0 G) ((ds.drop h).map (·.t)) vs/\TV.k7 ((ds.drop h).map (·.t))/\(∀x∈vs,x.oneCell'=X)/\∀(j:Nat)(v:Value),vs[j]?=Y v->w.cell? ((⟨b,h,W⟩:Addr).add j)=Y v:=by
  intro s h ds M;have p:=Ah C M V;have I:=C.wf s;rw[M]at I;simp only[AK]at p;obtain⟨b,c,θ,r,u,E,B,A⟩:=p;refine⟨b,c.toList.drop h,r,?_,?_,?_,?_⟩
  .rw[Bf];refine⟨by simp[E],λi t v H hv=>?_⟩;simp[List.getElem?_map,w!]at H hv;obtain⟨cell,l,rfl⟩:=H;obtain⟨x,N,p⟩:=A (h+i) cell l;have:x=v:=by
    grind
   subst this;exact WW C p
  .rw[Bn];intro t H;simp only[List.mem_map]at H;obtain⟨cell,l,rfl⟩:=H;exact I cell (w? l)
  .intro x N;obtain⟨i,hi,rfl⟩:=List.getElem_of_mem N;rw[List.getElem_drop];have R:h+i<c.size:=by simp at hi;omega
   have ε:ds[h+i]?=Y (ds[h+i]' U):=v? U
   grind [Array.getElem?_eq_getElem,Gn]
  .intro j v hv;rw[w!]at hv;rw[Addr.add_lit,cell_of_row w b (h+j) c θ (0,0) u];simpa using hv
 cases y with
 |c t=>
  simp [AF.ev]at g;cases t<;>simp[A7]at g;subst g;have:=Ax C D (t:=.pt _) rfl;simp[Ap,TV.WF]at this;obtain⟨⟨b,o,r,u⟩,E⟩:=this;obtain⟨vs,B,J,A⟩:=Tp u;exact⟨b,o,vs,r,B,E,J,A⟩
 |s n=>
  cases x<;>simp[AJ]at D;subst D;rename_i n;simp[AF.ev]at g;cases he:O.get n with
  |tv t=>
   rw [he]at g;cases t<;>simp[A7]at g;subst g;have p:=Ah C he V;have I:=C.wf n;rw[he]at I;simp[AK,Ap]at p;obtain⟨b,o,r,u⟩:=p;obtain⟨vs,B,J,A⟩:=Tp u;exact⟨b,o,vs,r,B,by simpa[EV.WF,TV.WF]using I,J,A⟩
  |bx ds=>
   rw [he]at g;simp[A7]at g;subst g;obtain⟨b,vs,r,u,E,L,B⟩:=box n 0 ds he;exact⟨b,0,vs,r,e_,by simpa using E,L,B⟩
  |bp q h=>
   rw [he]at g;simp only[A7]at g;split at g
   next ds Q=>simp only[kx]at g;subst g;obtain⟨b,vs,r,u,E,L,B⟩:=box q h ds Q;have p:=Ah C he V;simp only[AK]at p;obtain⟨κ,A,J⟩:=p ⟨ds,Q⟩;rw[r]at A;simp at A;subst A;exact⟨b,h,vs,J,u,E,L,B⟩
   .cases g
  |undef=>rw[he]at g;simp[A7]at g|sk=>rw[he]at g;simp[A7]at g|xo n es=>rw[he]at g;simp[A7]at g|la q i=>rw[he]at g;simp[A7]at g|vS cs=>rw[he]at g;simp[A7]at g|xn es=>rw[he]at g;simp[A7]at g|x1 n η=>rw[he]at g;simp[A7]at g|mx m=>rw[he]at g;simp[A7]at g|nh q i k=>rw[he]at g;simp[A7]at g|lp q i c=>rw[he]at g;simp[A7]at g|ow t=>rw[he]at g;simp[A7]at g|tp ts=>rw[he]at g;simp[A7]at g
variable{t:TypeId}
theorem ti(p:AR F0 w0 O a w G)(hd:d<a.tmps.size)(g:o.op=.load t x)(l:AJ x y=X)(B:B2 P t=Y T)(h:(AE.ld y).wp S O (Y d) K):A2 P F0 w0 a w o d K:=by
 simp [AE.wp]at h;cases m:A7 O (y.ev O)with
 |none=>rw[m]at h;exact h.elim|some cs=>
  rw [m]at h;simp[Ai]at h;obtain⟨b,C,vs,D,A,E,_,H⟩:=Ra p l m;cases cs with
  |nil=>simp[E4]at h|cons u r=>
   simp [E4]at h;replace h:=h.2;simp[AT]at A;obtain⟨v,J,rfl,I,L⟩:=A;have q:=H 0 v rfl;rw[Addr.add_zero']at q;refine Cc p hd (v:=v) ?_ I E.1 h;simp[execOp,g,D,Instr.loadAt,Instr.sureAddr,loadVar,Cg B,q]
variable{n:Nat}
theorem Wx(r:AR F0 w0 O a w G)(hd:d<a.tmps.size)(l:o.op=.load t x)(m:AJ x y=X)(u:B2 P t=Y X)(hn:Cx P t=Y n)(h:(AE.lda y n).wp S O (Y d) K):A2 P F0 w0 a w o d K:=by
 simp [AE.wp]at h;cases p:A7 O (y.ev O)with
 |none=>rw[p]at h;exact h.elim|some cs=>
  rw [p]at h;simp[Ai]at h;obtain⟨b,q,vs,A,B,H,C,D⟩:=Ra r m p;have E:=BJ B;have g:=run_loadCells_list (P:=P) w ⟨b,q,W⟩ (vs.take n) (λj v hv=>D j v (by rw[x_]at hv;split at hv<;>simp_all));rw[a6,Nat.min_eq_left U]at g;refine Cc r hd (v:=.agg (vs.take n).toArray) (t:=.agg (cs.take n)) ?_ ?_ ?_ h.2
  .simp[execOp,l,A,Instr.loadAt,Instr.sureAddr,loadVar,Cg u,B7 hn,g]
  .grind[Ap,x!,x?,Bf]
  grind [TV.WF,Bn,x?]
variable{i:Operand}{j:AF}
theorem p0(l:AR F0 w0 O a w G)(hd:d<a.tmps.size)(q:o.op=.indexAddr t x i)(r:AJ x y=X)(g:AJ i j=X)(A:IZ P t=Y n)(h:(AE.iad y j n).wp S O (Y d) K):A2 P F0 w0 a w o d K:=by
 simp [AE.wp]at h;split at h
 .rename_i m es k L B C;obtain⟨rfl,E,e,he,H⟩:=h;have D:=Ax l r B;have u:=Ax l g C;simp[Ap]at u;obtain⟨p,I,J⟩:=jo (P:=P) (k:=k) A D.1 E he;refine Cc l hd (v:=p) (by simp[execOp,q,u.1,I]) J ?_ H
  grind [TV.WF,Bn,w_,Hz]
 .exact h.elim
theorem nF(l:AR F0 w0 O a w G)(hd:d<a.tmps.size)(m:o.op=.index t x i)(p:AJ x y=X)(g:AJ i j=X)(u:P.underlying t=Y .string)(h:(AE.Aac y j).wp S O (Y d) K):A2 P F0 w0 a w o d K:=by
 simp [AE.wp]at h;split at h
 .rename_i s k H A B;obtain⟨C,b,D,E⟩:=h;have q:=Ax l p A;have r:=Ax l g B;simp[Ap]at q r;refine Cc l hd (v:=.int .u8 b.toNat) (t:=.int .u8 b.toNat) ?_ rfl ⟨by simp[IntKind.min,IntKind.signed],?_⟩ E
  .simp[execOp,m,q.1,r.1,Instr.index,asIntOf,run_underlying u,C,D]
  .have:=b.toNat_lt;simp[IntKind.max,IntKind.signed,IntKind.bits];omega
 .exact h.elim
theorem Yc{f k:Nat}(l:o.op=.fieldAddr t x f)(m:Pf P t f=Y k):∀b g,a.eval x=.pointer (Y ⟨b,g,W⟩)->(execOp a.eval o).run P w=.ok (.value (.pointer (Y ⟨b,g+k,W⟩))) w:=by
 intro b g h;simp[execOp,l,h,VM m]
theorem Qx(g:o.op=.move x\/o.op=.assign x\/o.op=.nilCheck x):∀b l,a.eval x=.pointer (Y ⟨b,l,W⟩)->(execOp a.eval o).run P w=.ok (.value (.pointer (Y ⟨b,l+0,W⟩))) w:=by
 intro b l h;rcases g with g|g|g<;>simp[execOp,g,h]
variable{k:Nat}
theorem RU(p:AR F0 w0 O a w G)(hd:d<a.tmps.size)(l:∀b g,a.eval x=.pointer (Y ⟨b,g,W⟩)->(execOp a.eval o).run P w=.ok (.value (.pointer (Y ⟨b,g+k,W⟩))) w)(m:AJ x y=X)(h:(AE.zt y k).wp S O (Y d) K):A2 P F0 w0 a w o d K:=by
 simp [AE.wp]at h;split at h
 .rename_i row he;have u:=Xx p m he;simp[Ap,TV.WF]at u;obtain⟨⟨b,g,C,D⟩,H⟩:=u;refine Cc p hd (v:=.pointer (Y ⟨b,g+k,W⟩)) (t:=.pt (row.drop k)) (l _ _ C) ?_ ?_ h
  .simp only[Ap];exact⟨b,_,rfl,PQ D k⟩
  grind [TV.WF,Bn,w?]
 .rename_i q g he;cases y with
  |c t=>simp[AF.ev]at he|s n=>
   cases x<;>simp[AJ]at m;subst m;rename_i n;simp[AF.ev]at he;have A:=Ah p he V;simp only[AK]at A;split at h
   .rename_i r B;obtain⟨b,I,E⟩:=A ⟨r,B⟩;refine⟨.pointer (Y ⟨b,g+k,W⟩),w,l _ _ E,_,_,h,_,p.quiet (Below.refl _ _) d hd (.bp q (g+k)) _ (λ_=>W) V V V ?_ trivial⟩
    grind [AK,AB.d3,AZ]
   .exact h.elim
 .exact h.elim
theorem RT(m:AR F0 w0 O a w G)(hd:d<a.tmps.size)(l:∀b g,a.eval (.tmp s)=.pointer (Y ⟨b,g,W⟩)->(execOp a.eval o).run P w=.ok (.value (.pointer (Y ⟨b,g+k,W⟩))) w)(h:(AE.bad s k).wp S O (Y d) K):A2 P F0 w0 a w o d K:=by
 simp [AE.wp]at h;split at h
 .rename_i cs he;have q:=Ah m he V;simp only[AK]at q;obtain⟨b,c,θ,p,_⟩:=q;refine⟨.pointer (Y ⟨b,0+k,W⟩),w,l _ _ p,_,_,h,_,m.quiet (Below.refl _ _) d hd (.bp s k) _ (λ_=>W) V V V ?_ trivial⟩
  grind [AK,AB.d3,AZ]
 .rename_i row he;have p:=Xx m (x:=.tmp s) (y:=.s s) p? he;simp[Ap,TV.WF]at p;obtain⟨⟨b,g,r,u⟩,A⟩:=p;refine Cc m hd (v:=.pointer (Y ⟨b,g+k,W⟩)) (t:=.pt (row.drop k)) (l _ _ r) ?_ ?_ h
  .simp only[Ap];exact⟨b,_,rfl,PQ u k⟩
  grind [TV.WF,Bn,w?]
 .exact h.elim
variable{e:TypeId}
theorem pZ(p:AR F0 w0 O a w G)(hd:d<a.tmps.size)(q:o.op=.indexAddr t x i)(r:AJ x y=X)(l:AJ i j=X)(u:P.underlying t=Y (.array k e))(hn:Cx P e=Y n)
  (h:(AE.aad y j n k).wp S O (Y d) K):A2 P F0 w0 a w o d K:=by
 simp [AE.wp]at h;split at h
 .rename_i row N m D A;obtain⟨H,I,Q,J⟩:=h;have B:=(Ax p l A).1;simp[Ap]at B;have E:∃b g,a.eval x=.pointer (Y ⟨b,g,W⟩)/\DD w (AW w0.heap.size F0 G) row b g/\TV.k7 row:=by
   have:=Xx p r D
   grind [Ap,TV.WF]
  obtain ⟨b,g,L,M,C⟩:=E;have A:0<=m/\m<(k:Int):=⟨H,I⟩;refine Cc p hd (v:=.pointer (Y ⟨b,g+m.toNat*n,W⟩)) (t:=.pt (row.drop (m.toNat*n))) ?_ ?_ ?_ J
  .simp[execOp,q,B,L,Instr.indexAt,asIntOf,run_underlying u,A,Instr.sureAddr,B7 hn,Addr.add_lit]
  .simp only[Ap];exact⟨b,_,rfl,PQ M _⟩
  .simp[TV.WF];rw[Bn]at C|-;exact λt u=>C t (w? u)
 .exact h.elim
def jN(P:Program)(t:TypeId)(j:Operand)(k:Nat):Bool:=
 match j,P.underlying t with
 |.const (.int _ i),Y (.array m e)=>decide (0<=i)&&decide (i<(m:Int))&&(match Cx P e with
  |some n=>i.toNat*n==k|none=>T)
 |_,_=>T
theorem rf{P:Program}{o:Oper}{a:Act}{w:World}{j:Operand}(q:o.op=.indexAddr t (.tmp s) j)(g:jN P t j k=X)(b l:Nat)(h:a.eval (.tmp s)=.pointer (Y ⟨b,l,W⟩)):(execOp a.eval o).run P w=.ok (.value (.pointer (Y ⟨b,l+k,W⟩))) w:=by
 unfold jN at g;split at g
 .rename_i r i m e u;simp[ml]at g;obtain⟨⟨C,D⟩,p⟩:=g;split at p
  next n hn=>simp at p;subst p;have A:0<=i/\i<(m:Int):=⟨C,D⟩;have B:a.eval (.const (.int r i))=.int r i:=rfl;simp[execOp,q,h,B,Instr.indexAt,asIntOf,run_underlying u,A,Instr.sureAddr,B7 hn,Addr.add_lit]
  .cases p
 .cases g
def Um(g:TypeId->Option I2)(P:Program):List Field->Nat->Option I2
 |[],_=>Y []|f::fs,off=>match g f.type with
  |some ks=>if(f.name≠ "_" /\f.offset=off)/\Cx P f.type=Y ks.length then(match Um g P fs (off+ks.length)with|some r=>Y (ks ++ r)|none=>W)else W
  |none=>W
def QU(P:Program):Nat->TypeId->Option I2
 |0,_=>W|k+1,t=>match P.underlying t with
  |some (.int _)=>Y [0]|some .string=>Y [1]|some .bool=>Y [2]|some (.struct fs)=>if P.stoodInHeld t then W else Um (QU P k) P fs.toList 0|_=>W
def Ny(P:Program):BK->TypeId->Bool
 |.i,_=>X|.s,_=>X|.w,_=>X|.b,t=>match P.underlying t with|some .bool=>X|_=>T
 |.a n,t=>B2 P t==Y X&&!P.eqGuardType P.depth t&&QU P 8 t==Y n
def TV.sx:TV->Value
 |.int k n=>.int k n|.str s=>.string s|.bool b=>.bool b|_=>Go.undef
def TV.vA:TV->Bool
 |.int _ _=>X|.str _=>X|.bool _=>X|_=>T
theorem SH:∀{cs ds:Fq}{r:Bool},B1 cs ds=Y r->cs.length=ds.length/\(∀t∈cs,t.vA=X)/\(∀t∈ds,t.vA=X)
 |[],[],_,_=>by simp|[],_::_,_,h=>by simp[B1]at h|c::cs,[],_,h=>by cases c<;>simp[B1]at h
 |c::cs,d::ds,r,h=>by
  have key:∀l,B1 cs ds=Y l->c.vA=X->d.vA=X->(c::cs).length=(d::ds).length/\(∀t∈c::cs,t.vA=X)/\(∀t∈d::ds,t.vA=X):=by
   intro l g m p;obtain⟨u,A,B⟩:=SH g
   grind
  cases c<;>cases d<;>simp only[B1,reduceCtorEq]at h
  .split at h
   .split at h
    next q g=>exact key q g rfl rfl
    .cases h
   .cases h
  .split at h
   next q g=>exact key q g rfl rfl
   .cases h
  .split at h
   next q g=>exact key q g rfl rfl
   .cases h
variable{v:Value}
theorem pG{F:Nat->Nat->Prop}{t:TV}(g:t.vA=X)(h:Ap w F t v):v=t.sx:=by
 cases t<;>simp[TV.vA]at g<;>exact h
theorem SN{F:Nat->Nat->Prop}:∀{cs:Fq}{xs:List Value},(∀t∈cs,t.vA=X)->AT w F cs xs->xs=cs.map TV.sx
 |[],_,_,h=>h|c::cs,xs,g,h=>by
  simp [AT]at h;obtain⟨v,r,rfl,m,p⟩:=h;rw[pG (g c V) m,SN (λt l=>g t (by simp[l])) p];rfl
theorem Nn:∀(m:Nat){cs ds:Fq}{r:Bool},B1 cs ds=Y r->∃g l,B1 (cs.take m) (ds.take m)=Y g/\B1 (cs.drop m) (ds.drop m)=Y l/\r=(g&&l)
 |0,cs,ds,r,h=>⟨X,r,by simp[B1],c?,V⟩|m+1,[],[],r,h=>by
  grind
 |m+1,[],_::_,_,h=>by simp[B1]at h|m+1,c::cs,[],_,h=>by cases c<;>simp[B1]at h
 |m+1,c::cs,d::ds,r,h=>by
  cases c<;>cases d<;>simp only[B1,reduceCtorEq]at h
  .split at h
   .rename_i C;split at h
    .rename_i q p;obtain⟨g,l,u,A,B⟩:=Nn m p
     grind [kx,B1,z!]
    .cases h
   .cases h
  .split at h
   .rename_i q p;obtain⟨g,l,u,A,B⟩:=Nn m p
    grind [kx,B1,z!]
   .cases h
  .split at h
   .rename_i q p;obtain⟨g,l,u,A,B⟩:=Nn m p
    grind [kx,B1,z!]
   .cases h
def M0(P:Program)(t:TypeId)(vs:List Value):Value:=if B2 P t=Y X then .agg vs.toArray else vs.headD Go.undef
theorem Rk:∀{cs ds:Fq}{r:Bool},B1 cs ds=Y r->ds.map TV.kd=cs.map TV.kd
 |[],[],_,_=>rfl|[],_::_,_,h=>by simp[B1]at h|c::cs,[],_,h=>by cases c<;>simp[B1]at h
 |c::cs,d::ds,r,h=>by
  cases c<;>cases d<;>simp only[B1,reduceCtorEq]at h
  .split at h
   .split at h
    next q g=>simp[Rk g,TV.kd]
    .cases h
   .cases h
  .split at h
   next q g=>simp[Rk g,TV.kd]
   .cases h
  .split at h
   next q g=>simp[Rk g,TV.kd]
   .cases h
theorem ZK(k:Nat)(θ:∀(t:TypeId)(n:I2),QU P k t=Y n->∀d,k<=d->∀(cs ds:Fq)(r:Bool),cs.map TV.kd=n->B1 cs ds=Y r->(Op.equalIn d t (M0 P t (cs.map TV.sx)) (M0 P t (ds.map TV.sx))).run P w=.ok r w):
  ∀(H:List Field)(p:Nat)(n:I2),Um (QU P k) P H p=Y n->∀d,k<=d->∀(g m:List Value)(cs ds:Fq)(r:Bool),g.length=p->m.length=p->cs.map TV.kd=n->B1 cs ds=Y r ->
   (Op.eqFields d (g++cs.map TV.sx).toArray (m++ds.map TV.sx).toArray H).run P w=.ok r w
 |[],p,n,hf,d,hd,g,m,cs,ds,r,ζ,δ,E,h=>by
  simp [Um]at hf;subst hf;have:cs=[]:=List.map_eq_nil_iff.1 E;subst this;cases ds<;>simp[B1]at h;subst h;simp[Op.eqFields]
 |f::H,p,n,hf,d,hd,g,m,cs,ds,r,ζ,δ,E,h=>by
  simp [Um]at hf;split at hf
  .rename_i l u;split at hf
   .rename_i Z;split at hf
    .rename_i rest D;simp at hf;subst hf;obtain⟨⟨hn,ho⟩,Q⟩:=Z;have hcl:cs.length=l.length+rest.length:=by
      have:=congrArg List.length E;simpa using this
     obtain ⟨η,r2,e1,e2,rfl⟩:=Nn l.length h;have κ:=(SH h).1;have hdl:ds.length=l.length+rest.length:=U
     have M:(cs.take l.length).map TV.kd=l:=by rw[y_,E,List.take_left'];rfl
     have N:(cs.drop l.length).map TV.kd=rest:=by rw[List.map_drop,E,List.drop_left'];rfl
     have hi:=θ f.type l u d hd (cs.take l.length) (ds.take l.length) η M e1;have C:=ZK k θ H (p+l.length) rest D d hd (g++(cs.take l.length).map TV.sx) (m++(ds.take l.length).map TV.sx) (cs.drop l.length) (ds.drop l.length) r2 an an N e2;have A:∀(g:List Value)(cs:Fq),g++(cs.take l.length).map TV.sx++(cs.drop l.length).map TV.sx=g++cs.map TV.sx:=by
      intro g cs;rw[bk,<-List.map_append,List.take_append_drop]
     rw [A,A]at C;have B:∀(g:List Value)(cs:Fq),g.length=p->l.length<=cs.length->(0<l.length\/B2 P f.type=Y X)->(∃b,B2 P f.type=Y b)->(part f.type (g++cs.map TV.sx).toArray f.offset).run P w=.ok (M0 P f.type ((cs.take l.length).map TV.sx)) w:=by
      intro g cs ε J L q;obtain⟨b,q⟩:=q;cases b with
      |true=>
       simp only[part,Sem.run_bind,Cg q,Result.andThen_ok,if_true,B7 Q,Sem.run_pure,M0,q];congr 2;rw[List.extract_toArray,List.extract_eq_take_drop,ho,<-ε,List.drop_left,Nat.add_sub_cancel_left,<-y_]
      |false=>
       have h0:0<l.length:=by
        rcases L with h|h
        .exact h
        .rw[q]at h;cases h
       cases cs with
       |nil=>exact absurd (Nat.lt_of_lt_of_le h0 J) V|cons c cs=>
        obtain ⟨m',R⟩:∃m',l.length=m'+1:=⟨l.length-1,U⟩;have:((g++(c::cs).map TV.sx).toArray)[f.offset]?=Y c.sx:=by
         rw [List.getElem?_toArray,ho,<-ε,List.getElem?_append_right (aN _),Nat.sub_self];rfl
        simp only[part,Sem.run_bind,Cg q,Result.andThen_ok,Bool.false_eq_true,if_false,this,Sem.run_pure,M0,q,R];simp
     have q:(∃b,B2 P f.type=Y b)/\(0<l.length\/B2 P f.type=Y X):=by
      cases k with
      |zero=>simp[QU]at u|succ k=>
       simp [QU]at u;unfold B2;split at u<;>rename_i I
       .simp at u;subst u;rw[I];exact⟨⟨_,rfl⟩,.inl V⟩
       .simp at u;subst u;rw[I];exact⟨⟨_,rfl⟩,.inl V⟩
       .simp at u;subst u;rw[I];exact⟨⟨_,rfl⟩,.inl V⟩
       .rw[I];exact⟨⟨_,rfl⟩,.inr rfl⟩
       .cases u
     have p1:=B g cs ζ U q.2 q.1;have p2:=B m ds δ U q.2 q.1;simp only[Op.eqFields,Sem.run_bind,Sem.run_ite,QQ hn,p1,p2,hi,Result.andThen_ok];cases η with
     |true=>simpa using C|false=>simp
    .cases hf
   .cases hf
  .cases hf
theorem kS(a b:ByteArray):(a.toList==b.toList)=decide (a=b):=by
 rw [z?,beq_iff_eq,ml];refine⟨λh=>?_,λh=>by rw[h]⟩;rw[ByteArray.toList_eq,ByteArray.toList_eq]at h;cases a;cases b;simpa using h
theorem fX:∀(k:Nat)(t:TypeId)(n:I2),QU P k t=Y n->∀d,k<=d->∀(cs ds:Fq)(r:Bool),cs.map TV.kd=n->B1 cs ds=Y r->(Op.equalIn d t (M0 P t (cs.map TV.sx)) (M0 P t (ds.map TV.sx))).run P w=.ok r w
 |0,_,_,h,_,_,_,_,_,_,_=>by simp[QU]at h|k+1,t,n,hf,d,hd,cs,ds,r,E,h=>by
  obtain ⟨d,rfl⟩:∃I,d=I+1:=⟨d-1,U⟩;have C:=Rk h;simp[QU]at hf;have one:∀x,n=[x]->B2 P t=Y T->∃c e,cs=[c]/\ds=[e]/\c.kd=x/\e.kd=x/\M0 P t (cs.map TV.sx)=c.sx/\M0 P t (ds.map TV.sx)=e.sx:=by
   intro x J N;rw[J]at E
   match cs,ds,E,C with
   |[c],[e],A,B=>
    grind [List.cons.injEq,M0]
   |[],_,A,_=>simp at A|[c],[],_,B=>simp at B|[c],_::_::_,_,B=>simp at B|_::_::_,_,A,_=>simp at A
  split at hf<;>rename_i g
  .simp at hf;obtain⟨c,e,rfl,rfl,m,p,q,u⟩:=one 0 hf.symm (by simp[B2,g]);rw[q,u];cases c<;>first|(simp[TV.kd]at m;done)|skip
   cases e<;>first|(simp[TV.kd]at p;done)|skip
   simp only[B1]at h;split at h
   next L=>subst L;simp at h;simp[TV.sx];rw[run_equalIn_int (P:=P) w d t _ _ _ _ g,<-h];congr 1
   .cases h
  .simp at hf;obtain⟨c,e,rfl,rfl,m,p,q,u⟩:=one 1 hf.symm (by simp[B2,g]);rw[q,u];cases c<;>first|(simp[TV.kd]at m;done)|skip
   cases e<;>first|(simp[TV.kd]at p;done)|skip
   simp [B1]at h;simp[TV.sx];rw[run_equalIn_string (P:=P) w d t _ _ g,<-h]
   grind [kS]
  .simp at hf;obtain⟨c,e,rfl,rfl,m,p,q,u⟩:=one 2 hf.symm (by simp[B2,g]);rw[q,u];cases c<;>first|(simp[TV.kd]at m;done)|skip
   cases e<;>first|(simp[TV.kd]at p;done)|skip
   simp [B1]at h;simp[TV.sx];rw[run_equalIn_bool' (P:=P) w d t _ _ g,<-h];congr 1
  .split at hf
   .cases hf
   .rename_i H M;have D:B2 P t=Y X:=by simp[B2,g]
    have l:P.fieldsOf t=H:=by simp[Program.fieldsOf,g]
    simp [M0,D];rw[run_equalIn_struct w d t _ _ (by rw[l];exact g) (by simpa using M),l];exact ZK k (fX k) H.toList 0 n hf d U [] [] cs ds r rfl rfl E h
  .cases hf
variable{vx vy:Value}
theorem Ws{op:BinOp}{x y:Operand}{cs ds:Fq}{q:Bool}{n:I2}(hn:cs.map TV.kd=n){F:Nat->Nat->Prop}(u:Ny P (.a n) t=X)(g:Ap w F (.agg cs) vx)(h:Ap w F (.agg ds) vy)(A:B1 cs ds=Y q):
  ∃xs ys,vx=.agg xs/\vy=.agg ys/\(eqGuard op t x y (.agg xs) (.agg ys)).run P w=.ok () w/\(Op.equalIn 10000 t (.agg xs) (.agg ys)).run P w=.ok q w:=by
 simp [Ap]at g h;obtain⟨xs,rfl,g,_⟩:=g;obtain⟨ys,rfl,h,_⟩:=h;simp only[Ny,gN,Bool.not_eq_true']at u;obtain⟨⟨B,D⟩,C⟩:=u;obtain⟨E,p,r⟩:=SH A;refine⟨xs,ys,rfl,rfl,run_eqGuard_agg w op t x y xs ys D,?_⟩;simp at B C;have l:=SN p g;have m:=SN r h;have:=fX (P:=P) (w:=w) 8 t n C 10000 U cs ds q hn A;simp[M0,B,<-l,<-m]at this;simpa using this
theorem tV{op:BinOp}{x y:Operand}{k m:IntKind}{a b r:Int}{F:Nat->Nat->Prop}(p:k=m\/op=.shl\/op=.shr)(l:MN k op a b=Y r):
  ∃v,(do eqGuard op t x y (.int k a) (.int m b);binOp op t (.int k a) (.int m b):Sem Value).run P w=.ok v w/\Ap w F (.int k r) v/\(TV.int k r).WF:=by
 have g:∀(op:BinOp)(q:Value),k=m->(op=.and\/op=.or\/op=.xor\/op=.andNot)->(Op.intBits op k a b).run P w=.ok q w->(do eqGuard op t x y (.int k a) (.int m b);binOp op t (.int k a) (.int m b):Sem Value).run P w=.ok q w:=by
  intro op q e ho h;subst e;rcases ho with rfl|rfl|rfl|rfl<;>simpa[eqGuard,binOp]using h
 cases op<;>simp only[MN]at l<;>try(cases l;done)
 case and=>cases l;exact⟨_,g _ _ m? V rfl,rfl,MH _ _⟩
 case or=>cases l;exact⟨_,g _ _ m? V rfl,rfl,MH _ _⟩
 case xor=>cases l;exact⟨_,g _ _ m? V rfl,rfl,MH _ _⟩
 case andNot=>cases l;exact⟨_,g _ _ m? V rfl,rfl,MH _ _⟩
 case shl=>
  split at l
  next u=>cases l;exact⟨_,by simp[eqGuard,binOp,Op.shift,Int.not_lt.2 u],rfl,MH _ _⟩
  .cases l
 case shr=>
  split at l
  next u=>cases l;exact⟨_,by simp[eqGuard,binOp,Op.shift,Int.not_lt.2 u.1],rfl,u.2⟩
  .cases l
theorem tU{k:BK}{op:BinOp}{x y:Operand}{E ty r:TV}{F:Nat->Nat->Prop}(M:Ny P k t=X)(g:Ll k op E ty=Y r)(l:Ap w F E vx)(m:Ap w F ty vy)(H:E.WF)(N:ty.WF):
  ∃v,(do eqGuard op t x y vx vy;binOp op t vx vy:Sem Value).run P w=.ok v w/\Ap w F r v/\r.WF:=by
 unfold Ll at g;split at g
 .rename_i k a Q b;simp[Ap]at l m;subst l;subst m;split at g
  .rename_i p;subst p;rw[Sem.run_bind,eqGuard_at_int,Sem.run_pure,Result.andThen_ok];have B:op=.quo\/op=.rem\/(op≠.quo/\op≠.rem):=by cases op<;>simp
   rcases B with rfl|rfl|⟨u,ε⟩
   .by_cases A:b=0
    .simp[intCmp,intArith,A]at g
    .simp[intCmp,intArith,A]at g;subst g;exact⟨_,by simp[binOp,Op.intDiv,A],rfl,MH _ _⟩
   .by_cases A:b=0
    .simp[intCmp,intArith,A]at g
    .simp[intCmp,intArith,A]at g;subst g;refine⟨_,by simp[binOp,Op.intDiv,A],rfl,?_⟩;simp[TV.WF]at H|-;have C:a.tmod b<=max a 0/\min a 0<=a.tmod b:=by
      have D:=Int.natAbs_tmod a b;have η:=Nat.mod_le a.natAbs b.natAbs;rcases Int.le_total 0 a with h|h
      .grind[Int.tmod_nonneg]
      .have ζ:=Int.tmod_nonneg (a:=-a) b U
       grind [Int.neg_tmod]
     have δ:k.min<=0:=by cases k<;>decide
     have Z:0<=k.max:=by cases k<;>decide
     omega
   .cases op<;>simp[intCmp,intArith]at g u ε<;>subst g<;>(refine⟨_,?_,rfl,?_⟩)<;>first|(simp[binOp,Op.intCmp,Op.intArith];done)|exact trivial|exact MH _ _|skip
    all_goals (simp[binOp,Op.intCmp];rw[z?];simp)
  .cases g
 .rename_i op k a Q b;simp[Ap]at l m;subst l;subst m;split at g
  .rename_i p;split at g
   next κ u=>simp at g;subst g;exact tV p u
   .cases g
  .cases g
 .simp[Ap]at l m;subst l;subst m;simp at g;subst g;exact⟨_,by simp[eqGuard,binOp,Op.stringOp,beq_toListBytes],rfl,trivial⟩
 .simp[Ap]at l m;subst l;subst m;simp at g;subst g;exact⟨_,by simp[eqGuard,binOp,Op.stringOp,beq_toListBytes],rfl,trivial⟩
 .simp[Ap]at l m;subst l;subst m;rename_i R θ;split at g
  .rename_i I;simp at g;subst g;have J:¬(((R.size+θ.size:Nat):Int)>IntKind.i64.max):=by
    have hm:IntKind.i64.max=9223372036854775807:=a_
    grind [AY]
   refine ⟨_,by simp only[eqGuard,binOp,Op.stringOp];rw[aE J];simp,rfl,by simp[TV.WF];exact U3 I⟩
  .cases g
 .simp[Ap]at l m;subst l;subst m;simp at g;subst g;have L:P.underlying t=Y .bool:=by
   grind [Ny]
  exact ⟨_,by simp[eqGuard_at_bool,binOp,Op.equal,Op.maxDepth,run_equalIn_bool' (P:=P) w _ t _ _ L],rfl,trivial⟩
 .simp[Ap]at l m;subst l;subst m;simp at g;subst g;have L:P.underlying t=Y .bool:=by
   grind [Ny]
  exact ⟨_,by simp[eqGuard_at_bool,binOp,Op.equal,Op.maxDepth,run_equalIn_bool' (P:=P) w _ t _ _ L],rfl,trivial⟩
 .rename_i cs ds;split at g
  .rename_i hn;split at g
   next q u=>simp at g;subst g;obtain⟨xs,ys,rfl,rfl,C,D⟩:=Ws (op:=.eql) (x:=x) (y:=y) hn M l m u;exact⟨_,by simp[C,run_eql_struct,D],rfl,trivial⟩
   .cases g
  .cases g
 .rename_i cs ds;split at g
  .rename_i hn;split at g
   next q u=>simp at g;subst g;obtain⟨xs,ys,rfl,rfl,C,D⟩:=Ws (op:=.neq) (x:=x) (y:=y) hn M l m u;exact⟨_,by simp[C,run_neq_struct,D],rfl,trivial⟩
   .cases g
  .cases g
 .cases g
variable{y':AF}
theorem pj{S:FuncId->Fq->At->Prop}{F0:Nat->Nat->Prop}{w0:W0}{O:AB}{a:Act}{G:BV}{d:Nat}{o:Oper}{K:EV->AB->Prop}(g:AR F0 w0 O a w G)(hd:d<a.tmps.size){x x':Operand}{k:BK}{op:BinOp}{t A:TypeId}
  (l:o.op=.binOp op t x x' A)(B:Ny P k t=X)(C:AJ x y=X)(D:AJ x' y'=X)(h:(AE.bin k op y y').wp S O (Y d) K):A2 P F0 w0 a w o d K:=by
 simp [AE.wp]at h;split at h
 .rename_i E ty H I;cases m:Ll k op E ty with
  |none=>rw[m]at h;exact h.elim|some r=>
   rw [m]at h;have p:=Ax g C H;have q:=Ax g D I;obtain⟨v,u,J,L⟩:=tU (x:=x) (y:=x') B m p.1 q.1 p.2 q.2;refine Cc g hd (v:=v) ?_ J L h;simp only[execOp,l,Sem.run_bind]at u|-;rw[u];rfl
 .exact h.elim
end
end Go.Sf
namespace Go.Sf
open Go.RowKit (Below)
def N0:Option Operand->Option AF->Bool
 |none,W=>X|some x,Y y=>AJ x y|_,_=>T
section
variable{P:Program}{S:FuncId->Fq->At->Prop}{F0:Nat->Nat->Prop}{w0:W0}{O:AB}{a:Act}{w:World}{G:BV}{d:Nat}{o:Oper}{K:EV->AB->Prop}
theorem Ve(h:AR F0 w0 O a w G){x:Option Operand}{y:Option AF}(g:N0 x y=X){k:IntKind}{q l:Int}(hv:G6 O q y=Y (.int k l)):
  (x=W/\l=q)\/∃v m,x=Y v/\a.eval v=.int m l:=by
 cases y with
 |none=>
  cases x<;>simp[N0]at g;simp[G6]at hv;exact .inl ⟨rfl,hv.2.symm⟩
 |some y=>
  cases x<;>simp[N0]at g;rename_i v;have:=(Ax h g (t:=.int k l) hv).1;simp[Ap]at this;exact .inr ⟨v,k,rfl,this⟩
theorem Tq{isS:Bool}{len cap:Nat}{lo hi:Option Value}{l h:Int}(q:0<=l)(r:l<=h)(u:h<=len)(A:len<=cap)
  (g:(lo=W/\l=0)\/∃k,lo=Y (.int k l))(m:(hi=W/\h=len)\/∃k,hi=Y (.int k h)):
  (Instr.sliceBounds isS len cap lo hi W).run P w=.ok (l.toNat,h.toNat,cap) w:=by
 rcases g with⟨rfl,rfl⟩|⟨k,rfl⟩<;>rcases m with⟨rfl,rfl⟩|⟨p,rfl⟩
 .simp[Instr.sliceBounds]
 .simp[Instr.sliceBounds,run_sliceBound (P:=P) w p h cap _ U U]
 .simp[Instr.sliceBounds,run_sliceBound (P:=P) w k l len _ U U]
 .simp[Instr.sliceBounds,run_sliceBound (P:=P) w p h cap _ U U,run_sliceBound (P:=P) w k l h.toNat _ U U]
variable{x:Operand}{y:AF}{lo' hi':Option AF}{t:TypeId}{n:Nat}
theorem qQ(H:AR F0 w0 O a w G)(hd:d<a.tmps.size){lo hi:Option Operand}(I:o.op=.slice t x lo hi W)(J:AJ x y=X)(θ:N0 lo lo'=X)(hh:N0 hi hi'=X)
  (A:IZ P t=Y n)(h:(AE.slc n y lo' hi').wp S O (Y d) K):A2 P F0 w0 a w o d K:=by
 simp [AE.wp]at h;split at h
 .rename_i m es hv;split at h
  .rename_i k1 l k2 C κ η;obtain⟨⟨hm,h0,h1⟩,h2,hK⟩:=h;subst hm;have M:=Ax H J hv;simp[Ap]at M;obtain⟨⟨r,cap,h4,h5,Q,h7⟩,R⟩:=M;have Z:=Ve H θ κ;have b2:=Ve H hh η;unfold IZ at A;split at A
   .rename_i e ζ;have D:=Tq (P:=P) (w:=w) (isS:=X) (lo:=lo.map a.eval) (hi:=hi.map a.eval) h0 h1 h2 h5
     (by rcases Z with⟨rfl,rfl⟩|⟨v,k',rfl,hv⟩<;>simp[*]) (by rcases b2 with⟨rfl,rfl⟩|⟨v,k',rfl,hv⟩<;>simp[*])
    refine Cc H hd (v:=.slice (if cap=l.toNat then r else r.map (·.add (l.toNat*m))) (C.toNat-l.toNat) (cap-l.toNat)) (t:=.list m ((es.take C.toNat).drop l.toNat)) ?_ ?_ ?_ hK
    .simp[execOp,I,Instr.sliceAt,Instr.slice,run_underlying ζ,h4,D,B7 A]
    .simp only[Ap];refine⟨if cap=l.toNat then r else r.map (·.add (l.toNat*m)),cap-l.toNat,an,an,λL=>?_,λε g=>?_⟩
     .have p:es=[]\/l.toNat=C.toNat:=by
       split at L
       .exact .inl (Q L)
       .cases r with
        |none=>exact .inl (Q rfl)|some r=>simp at L
      rcases p with rfl|p
      .simp
      .apply y!;simp;omega
     .by_cases N:cap=l.toNat
      .have q:(es.take C.toNat).drop l.toNat=[]:=by apply y!;simp;omega
       rw [QQ N]at g;rw[q];exact⟨.inl rfl,trivial⟩
      .rw[aE N]at g;cases r with
       |none=>simp at g|some r=>
        simp at g;subst g;obtain⟨B,u⟩:=h7 r rfl;obtain⟨b,E,sp⟩:=r;simp only at B u;by_cases p:es=[]
        .have q:(es.take C.toNat).drop l.toNat=[]:=by rw[p];simp
         rw [q];exact⟨.inl rfl,trivial⟩
        have B:sp=W:=B.resolve_left p;subst B;rw[Addr.add_lit];refine⟨.inr rfl,?_⟩;rw[R3]at u|-;intro i δ he;rw[w!,x_]at he;split at he
        .have:=u (l.toNat+i) δ he
         rwa [show E+l.toNat*m+i*m=E+(l.toNat+i)*m from i9]
        .cases he
    .simp only[TV.WF]at R|-;refine⟨an,?_⟩;have B:=Bn.1 R.2;exact Bn.2 λt A=>B t (x? (w? A))
   .cases A
  .exact h.elim
 .exact h.elim
theorem nH(m:AR F0 w0 O a w G)(hd:d<a.tmps.size){lo hi:Option Operand}(p:o.op=.slice t x lo hi W)(q:AJ x y=X)(A:N0 lo lo'=X)(hh:N0 hi hi'=X)
  (B:P.underlying t=Y .string)(h:(AE.Aag y lo' hi').wp S O (Y d) K):A2 P F0 w0 a w o d K:=by
 simp [AE.wp]at h;split at h
 .rename_i s hv;split at h
  .rename_i Q l R u C D;obtain⟨I,J,L,M⟩:=h;have r:=Ax m q hv;simp[Ap]at r;have E:=Ve m A C;have H:=Ve m hh D;have g:=Tq (P:=P) (w:=w) (isS:=T) (lo:=lo.map a.eval) (hi:=hi.map a.eval) I J L (aN _)
     (by rcases E with⟨rfl,rfl⟩|⟨v,N,rfl,hv⟩<;>simp[*]) (by rcases H with⟨rfl,rfl⟩|⟨v,N,rfl,hv⟩<;>simp[*])
   refine Cc m hd (v:=.string (s.extract l.toNat u.toNat)) (t:=.str (s.extract l.toNat u.toNat)) ?_ rfl ?_ M
   .simp[execOp,p,Instr.sliceAt,Instr.slice,run_underlying B,r.1,g]
   .have:=r.2;simp[TV.WF]at this|-;omega
  .exact h.elim
 .exact h.elim
variable{y':AF}
theorem g8(l:AR F0 w0 O a w G)(hd:d<a.tmps.size){x x':Operand}{mx:Bool}{ts:Array TypeId}
  (g:o.op=.call {callee:=.builtin (match mx with|true=>.max|false=>.min),args:=#[x,x'],argTypes:=ts})
  (u:AJ x y=X)(A:AJ x' y'=X)(h:(AE.mm mx y y').wp S O (Y d) K):A2 P F0 w0 a w o d K:=by
 simp [AE.wp]at h;split at h
 .rename_i k p E q B C;obtain⟨rfl,D⟩:=h;have m:=Ax l u B;have r:=Ax l A C;simp[Ap,TV.WF]at m r;refine Cc l hd (v:=.int k (if mx then max p q else min p q)) (t:=.int k (if mx then max p q else min p q)) ?_ rfl ?_ D
  .cases mx
   .simp[execOp,g,resolve,invoke,builtin,m.1,r.1,Builtin.min_,Builtin.min2];rw[Int.min_def];split<;>split<;>omega
   .simp[execOp,g,resolve,invoke,builtin,m.1,r.1,Builtin.max_,Builtin.max2];rw[Int.max_def];split<;>split<;>omega
  .simp[TV.WF];split<;>omega
 .exact h.elim
theorem mz(g:AR F0 w0 O a w G)(hd:d<a.tmps.size)(l:o.op=.box t x)(m:AJ x y=X)(h:(AE.Aa3 y).wp S O (Y d) K):A2 P F0 w0 a w o d K:=by
 simp [AE.wp]at h;split at h
 .rename_i u hv;have B:=Ax g m hv;have r:Below w.heap.size w (w.alloc (.cells (a.eval x).cells t)):=(Below.refl _ _).alloc (aN _) _;refine⟨.pointer (Y ⟨w.heap.size,0,W⟩),w.alloc (.cells (a.eval x).cells t),by simp[execOp,l,Instr.box,newVar,newRow],_,_,h,g.tv r d hd (.pt u.cells) _ ?_ ?_⟩
  .simp only[Ap];refine⟨_,_,rfl,?_⟩;have p:=Kc (F0:=F0) (w0:=w0) (G:=G) r d (λ_=>W) V
   .have A:=GZ B.1;refine R4 (As p _ _ A.1) A.2 λi v hi=>?_;have C:(w.alloc (.cells (a.eval x).cells t)).cell? ⟨w.heap.size,0+i,W⟩=Y v:=by
     rw [World.cell?_alloc_new,Nat.zero_add];simpa using hi
    refine ⟨C,?_⟩;rintro(⟨q,_⟩|⟨s,j,lo,q,_⟩)
    .have:=g.below.size;omega
    .by_cases D:s=d
     .grind[Bv]
     .rw[BD _ _ _ _ D]at q;have:=(g.lt _ _ _ _ q).1;omega
  grind [TV.WF,Hz]
 .exact h.elim
end
end Go.Sf
namespace Go.Sf
open Go.RowKit (Below)
def Wn:List Value->Nat->List Value->List Value
 |cs,_,[]=>cs|cs,i,d::ds=>Wn (cs.set i d) (i+1) ds
theorem Rp(g:Nat):∀(l:List Value)(k:Nat)(cells:Array Value),((l.zipIdx k).foldl (λcs(x:Value×Nat)=>cs.setIfInBounds (g+x.2) x.1) cells).toList=Wn cells.toList (g+k) l
 |[],_,_=>rfl|v::l,k,cells=>by
  simp [Wn];rw[Rp g l (k+1)]
  grind
section
variable{w:World}{F:Nat->Nat->Prop}
variable{v:Value}
theorem jh{cs:Fq}{xs:List Value}(h:AT w F cs xs)(i:Nat){t:TV}(g:Ap w F t v):AT w F (cs.set i t) (xs.set i v):=by
 rw [Bf]at h|-
 grind
theorem X9:∀{ds:Fq}{ys:List Value}{cs:Fq}{xs:List Value}(i:Nat),AT w F cs xs->AT w F ds ys->AT w F (PG cs i ds) (Wn xs i ys)
 |[],ys,cs,xs,i,h,hd=>by simp[AT]at hd;subst hd;exact h|d::ds,ys,cs,xs,i,h,hd=>by
  simp [AT]at hd;obtain⟨v,r,rfl,g,l⟩:=hd;exact X9 (i+1) (jh h i g) l
theorem gJ:∀(ys xs:List Value)(i:Nat),(∀x∈xs,x.oneCell'=X)->(∀y∈ys,y.oneCell'=X)->∀x∈Wn xs i ys,x.oneCell'=X
 |[],_,_,h,_=>h|y::ys,xs,i,h,l=>by
  refine gJ ys (xs.set i y) (i+1) (λx m=>?_) (λz g=>l z u_)
  grind
theorem Wb{place:Nat->Option (Nat×Nat)}:∀{ps:List (Nat×Value)}{ts:List (Nat×Nat×TV)}{cs cs':Fq}{xs:Array Value},AT w F cs xs.toList->ps.length=ts.length ->
  (∀(j:Nat)(p:Nat×Value)(t:Nat×Nat×TV),ps[j]?=Y p->ts[j]?=Y t->place p.1=Y (t.1,t.2.1)/\Ap w F t.2.2 p.2)->Eb cs ts=Y cs'->(∀x∈xs.toList,x.oneCell'=X) ->
  ∃xs',Instr.fill place xs ps=Y xs'/\AT w F cs' xs'.toList/\∀x∈xs'.toList,x.oneCell'=X
 |[],ts,cs,cs',xs,h,l,u,hf,ho=>by
  have:ts=[]:=y! l.symm;subst this;simp[Eb]at hf;subst hf;exact⟨xs,rfl,h,ho⟩
 |(i,v)::ps,[],_,_,_,_,l,_,_,_=>by simp at l|(i,v)::ps,(g,n,t)::ts,cs,cs',xs,h,l,u,hf,ho=>by
  simp only[Eb]at hf;split at hf
  .rename_i J;obtain⟨B,r⟩:=u 0 _ _ rfl rfl;simp only at B r;have A:=(GZ r).1;have C:=(GZ r).2;have L:v.cells.size=n:=by have:=BJ A;rw[A_]at this;omega
   have D:=BJ h;rw[A_]at D;have E:AT w F (PG cs g t.cells) ((v.cells.zipIdx.foldl (λcs(x:Value×Nat)=>cs.setIfInBounds (g+x.2) x.1) xs)).toList:=by
    have H:=X9 g h A;rw[<-A',A!,Rp,B_];exact H
   obtain ⟨xs',M,I⟩:=Wb E (by simpa using l) (λj p t m q=>u (j+1) p t (by simpa using m) (by simpa using q)) hf (by
    rw [<-A',A!,Rp,B_]
    grind [gJ])
   refine ⟨xs',?_,I⟩;simp[Instr.fill,B]
   grind
  .cases hf
end
def NM(place:Nat->Option (Nat×Nat)):List (Nat×Operand)->List (Nat×Nat×AF)->Bool
 |[],[]=>X|(i,x)::ps,(off,n,y)::qs=>place i==Y (off,n)&&AJ x y&&NM place ps qs|_,_=>T
def jO(P:Program)(t:TypeId)(zero:Fq)(ps:List (Nat×Operand))(qs:List (Nat×Nat×AF)):Bool:=
 match P.info? t,P.underlying t with
 |some it,Y (.array _ e)=>
  match it.zero,P.info? e with
  |some z,Y ie=>J4 zero z.cells.toList&&z.cells.toList.all Value.oneCell'&&NM (λi=>Y (i*ie.size,ie.size)) ps qs|_,_=>T
 |some it,Y (.struct fields)=>
  match it.zero,fields.toList.mapM (λf=>(P.info? f.type).map λi=>(f.offset,i.size))with
  |some z,Y places=>J4 zero z.cells.toList&&z.cells.toList.all Value.oneCell'&&NM (places.toArray[·]?) ps qs|_,_=>T
 |_,_=>T
section
variable{P:Program}{S:FuncId->Fq->At->Prop}{F0:Nat->Nat->Prop}{w0:W0}{O:AB}{a:Act}{w:World}{G:BV}{d:Nat}{o:Oper}{K:EV->AB->Prop}
theorem Z0(q:AR F0 w0 O a w G){place:Nat->Option (Nat×Nat)}:∀{ps:List (Nat×Operand)}{l:List (Nat×Nat×AF)}{ts:List (Nat×Nat×TV)},NM place ps l=X->EX O l=Y ts ->
  ps.length=ts.length/\(∀(j:Nat)(p:Nat×Value)(t:Nat×Nat×TV),(ps.map λ(i,x)=>(i,a.eval x))[j]?=Y p->ts[j]?=Y t->place p.1=Y (t.1,t.2.1)/\Ap w (AW w0.heap.size F0 G) t.2.2 p.2)/\∀t∈ts,t.2.2.WF
 |[],[],ts,_,h=>by simp[EX]at h;subst h;simp|[],_::_,_,h,_=>by simp[NM]at h|_::_,[],_,h,_=>by simp[NM]at h|(i,x)::ps,(A,n,y)::l,ts,g,h=>by
  simp [NM]at g;simp[EX]at h;split at h
  .rename_i t r u m;simp at h;subst h;obtain⟨C,D,E⟩:=Z0 q g.2 m;have B:=Ax q g.1.2 u
   grind
  .cases h
theorem iM:∀{ds cs:Fq}(i:Nat),TV.k7 cs->TV.k7 ds->TV.k7 (PG cs i ds)
 |[],_,_,h,_=>h|d::ds,cs,i,h,hd=>by
  refine iM (i+1) ?_ hd.2
  grind [Bn,List.mem_or_eq_of_mem_set]
theorem dx:∀{ts:List (Nat×Nat×TV)}{cs cs':Fq},TV.k7 cs->(∀t∈ts,t.2.2.WF)->Eb cs ts=Y cs'->TV.k7 cs'
 |[],cs,cs',h,_,hf=>by simp[Eb]at hf;subst hf;exact h|(i,n,t)::ts,cs,cs',h,g,hf=>by
  simp only[Eb]at hf;split at hf
  .exact dx (iM i h (Hz (g (i,n,t) V))) (λu l=>g u (by simp[l])) hf
  .cases hf
variable{t:TypeId}{ps:Array (Nat×Operand)}
theorem pk(A:AR F0 w0 O a w G)(hd:d<a.tmps.size){zero:Fq}{m:List (Nat×Nat×AF)}(p:o.op=.build t ps)(q:jO P t zero ps.toList m=X)(h:(AE.bld zero m).wp S O (Y d) K):A2 P F0 w0 a w o d K:=by
 simp [AE.wp]at h;cases g:EX O m with
 |none=>rw[g]at h;exact h.elim|some ts=>
  rw [g]at h;simp[Ai]at h;cases l:Eb zero ts with
  |none=>rw[l]at h;exact h.elim|some cs=>
   rw [l]at h;simp only at h;have key:∀(place:Nat->Option (Nat×Nat))(z:Array Value),J4 zero z.toList=X->z.toList.all Value.oneCell'=X->NM place ps.toList m=X->∃xs',Instr.fill place z (ps.map λ(i,x)=>(i,a.eval x)).toList=Y xs'/\AT w (AW w0.heap.size F0 G) cs xs'.toList/\TV.k7 cs/\xs'.toList.all Value.oneCell'=X:=by
    intro place z H r I;obtain⟨u,C,D⟩:=Z0 A I g;have B:=RH w (AW w0.heap.size F0 G) zero z.toList H;have J:(ps.map λ(i,x)=>(i,a.eval x)).toList=ps.toList.map λ(i,x)=>(i,a.eval x):=V
    rw [J];obtain⟨xs',L,M,N⟩:=Wb B.1 e_ C l (λx E=>x!.1 r x E)
    grind [dx,x!]
   have built:∃xs',P.built t (ps.map λ(i,x)=>(i,a.eval x)).toList=Y xs'/\AT w (AW w0.heap.size F0 G) cs xs'.toList/\TV.k7 cs/\xs'.toList.all Value.oneCell'=X:=by
    unfold jO at q;unfold Program.built
    grind
   obtain ⟨xs',u,C,D,B⟩:=built;refine Cc A hd (v:=.agg xs') (t:=.agg cs) ?_ ?_ (by simpa[TV.WF]using D) h
   .simp[execOp,p,run_build w t _ xs' u]
   grind [Ap]
variable{x:Operand}{n:Nat}
theorem aM(l:AR F0 w0 O a w G)(hd:d<a.tmps.size)(g:o.op=.move x\/o.op=.assign x)(m:∃v,x=.const v/\MO v=X)(h:(AE.Aa8 n).wp S O (Y d) K):A2 P F0 w0 a w o d K:=by
 simp [AE.wp]at h;obtain⟨v,rfl,hv⟩:=m;refine⟨.slice W 0 0,w,?_,_,_,h,l.ow (Below.refl _ _) d hd (.list n []) _ W V ?_ ⟨V,trivial⟩⟩
 .rcases g with g|g<;>simp[execOp,g,Act.eval,Jh hv]
 .simp only[Bo];exact⟨[],⟨V,.inl ⟨rfl,rfl,rfl⟩⟩,rfl,V,V⟩
end
end Go.Sf
namespace Go.Sf
open Go.RowKit (Below)
theorem jp(g:Fq)(x t:TV)(r:Fq):(g++x::r).set g.length t=g++t::r:=m_
theorem VC:∀(ds g rest:Fq),ds.length<=rest.length->PG (g++rest) g.length ds=g++ds++rest.drop ds.length
 |[],g,rest,_=>by simp[PG]|d::ds,g,[],h=>by simp at h|d::ds,g,x::rest,h=>by
  simp [PG,jp];have:=VC ds (g++[d]) rest c?
  grind
def LH(n:Nat):Nat->Fq->List (Nat×Nat×TV)
 |_,[]=>[]|k,t::ts=>(k*n,n,t)::LH n (k+1) ts
theorem ZQ(n:Nat):∀(ts g:Fq)(k:Nat),(∀t∈ts,t.cells.length=n)->g.length=k*n ->
  Eb (g++y? (ts.length*n) .undef) (LH n k ts)=Y (g++ts.flatMap TV.cells)
 |[],g,k,_,_=>by simp[LH,Eb]|t::ts,g,k,hn,p=>by
  have l:t.cells.length=n:=hn t V;simp only[LH,Eb];rw[QQ ⟨l,by simp[a5,z_,ae,B'];omega⟩];rw[<-p,VC t.cells g _ (by simp[z_,ae,B'];omega)];have m:(y? ((t::ts).length*n) TV.undef).drop t.cells.length=y? (ts.length*n) TV.undef:=by
   grind [ae,B']
  rw [m];have:=ZQ n ts (g++t.cells) (k+1) (λx h=>hn x (by simp[h])) (by simp[a5,B'];omega)
  grind
def Td:Nat->List (Nat×Operand)->List AF->Bool
 |_,[],[]=>X|k,(i,x)::ps,y::ys=>i==k&&AJ x y&&Td (k+1) ps ys|_,_,_=>T
section
variable{P:Program}{S:FuncId->Fq->At->Prop}{F0:Nat->Nat->Prop}{w0:W0}{O:AB}{a:Act}{w:World}{G:BV}{d:Nat}{o:Oper}{K:EV->AB->Prop}
theorem fy(m:AR F0 w0 O a w G)(n:Nat):∀{k:Nat}{ps:List (Nat×Operand)}{ys:List AF}{ts:Fq},Td k ps ys=X->vals O ys=Y ts ->
  ps.length=ts.length/\(∀(j:Nat)(p:Nat×Value)(t:Nat×Nat×TV),(ps.map λ(i,x)=>(i,a.eval x))[j]?=Y p->(LH n k ts)[j]?=Y t->(Y (p.1*n,n):Option (Nat×Nat))=Y (t.1,t.2.1)/\Ap w (AW w0.heap.size F0 G) t.2.2 p.2)/\TV.k7 ts
 |_,[],[],ts,_,h=>by simp[vals]at h;subst h;simp[TV.k7]|_,[],_::_,_,h,_=>by simp[Td]at h|_,_::_,[],_,h,_=>by simp[Td]at h|k,(i,x)::ps,y::ys,ts,g,h=>by
  simp [Td]at g;simp[vals]at h;split at h
  .rename_i t q r l;simp at h;subst h;obtain⟨B,H,C⟩:=fy m n g.2 l;have A:=Ax m g.1.2 r;refine⟨by simp[B],λj p u D E=>?_,A.2,C⟩
   grind [LH]
  .cases h
theorem Rv(n:Nat):∀(k:Nat)(ts:Fq),(LH n k ts).length=ts.length
 |_,[]=>rfl|k,t::ts=>by simp[LH,Rv n (k+1) ts]
variable{n:Nat}{ts:Fq}{e:TypeId}
theorem sV{F:Nat->Nat->Prop}{cells:Array Value}(h:AT (w.alloc (.cells cells e)) F (ts.flatMap TV.cells) cells.toList)(ho:∀x∈cells.toList,x.oneCell'=X)(hn:∀t∈ts,t.cells.length=n)(l:ts.length<=maxLen):
  Bo (w.alloc (.cells cells e)) F (Y (w.heap.size,ts.length*n)) (.list n ts) (.slice (Y ⟨w.heap.size,0,W⟩) ts.length ts.length):=by
 have g:=BJ h;rw[PE n ts hn]at g;simp[Bo];refine⟨cells.toList,⟨g,.inr ⟨w.heap.size,ts.length,cells,e,rfl,heap_alloc_new w _,aN _,l,t!,?_,rfl⟩⟩,h,hn,ho⟩;rw[<-g,List.take_length]
variable{t:TypeId}{ps:Array (Nat×Operand)}{ys:List AF}
theorem qB(θ:AR F0 w0 O a w G)(hd:d<a.tmps.size){r:TypeInfo}{z:Value}{len n:Nat}(J:o.op=.buildSlice t len ps)(ε:P.underlying t=Y (.slice e))(u:P.info? e=Y r)(hz:r.zero=Y z)
  (hn:r.size=n)(A:0<n)(κ:z.cells.toList.all Value.oneCell'=X)(hzs:0<z.cells.size)(B:len=ps.size)(hsm:len*n<=2^ 24)(L:Td 0 ps.toList ys=X)(h:(AE.lst n ys).wp S O (Y d) K):A2 P F0 w0 a w o d K:=by
 simp [AE.wp]at h;cases l:vals O ys with
 |none=>rw[l]at h;exact h.elim|some ts=>
  rw [l]at h;simp[Ai]at h;obtain⟨ζ,hK⟩:=h;obtain⟨δ,h2,h3⟩:=fy θ n L l;have M:len=ts.length:=by rw[B,<-δ];simp
  have N:(TV.list n ts).WF:=⟨by simp[J3];have:len*1<=len*n:=B! _ A;omega,h3⟩;have Q:ts.length<=maxLen:=by simp[maxLen];have:len*1<=len*n:=B! _ A;omega
  have g:∃cells:Array Value,(Instr.buildSlice t len (ps.map λ(i,x)=>(i,a.eval x))).run P w=.ok (.slice (Y ⟨w.heap.size,0,W⟩) len len) (w.alloc (.cells cells e))/\AT w (AW w0.heap.size F0 G) (ts.flatMap TV.cells) cells.toList/\∀x∈cells.toList,x.oneCell'=X:=by
   by_cases h0:len=0
   .have R:ps=#[]:=by apply Array.eq_empty_of_size_eq_zero;omega
    have D:ts=[]:=by apply y!;omega
    subst R;subst D;subst h0;refine⟨#[],?_,rfl,V⟩;simp[Instr.buildSlice,run_underlying ε,sizeOf,typeInfo,u,Instr.fill,newRow]
    grind
   .have m:AT w (AW w0.heap.size F0 G) (y? (ts.length*n) .undef) ((A? (len*r.size)).map (z.cells[· % z.cells.size]!)).toList:=by
     grind [Bf,kx,Ap,Option.map_eq_some_iff,Nat.mod_lt,x!]
    have E:=ZQ n ts [] 0 ζ V;simp at E;have p:∀x∈((A? (len*r.size)).map (z.cells[· % z.cells.size]!)).toList,x.oneCell'=X:=by
     grind [Nat.mod_lt,x!]
    obtain ⟨xs',Z,h7,h8⟩:=Wb (place:=λi=>Y (i*n,n)) m (by rw[Rv];simpa using δ) h2 E p;refine⟨xs',run_buildSlice w t e len _ xs' r z ε u hz (by rw[hn];omega) ?_ ?_,h7,h8⟩
    .grind[Nat.mul_eq_zero]
    .rw[hn]at Z|-;simpa using Z
  obtain ⟨cells,H,I,q⟩:=g;have η:Below w.heap.size w (w.alloc (.cells cells e)):=(Below.refl _ _).alloc (aN _) _;refine⟨.slice (Y ⟨w.heap.size,0,W⟩) len len,_,by simp[execOp,J,H],_,_,hK,θ.ow η d hd (.list n ts) _ (Y (w.heap.size,ts.length*n)) (λb lo C=>?_) ?_ N⟩
  .simp at C;obtain⟨rfl,_⟩:=C;exact⟨aN _,V⟩
  .rw[M];exact sV (As (Kc η d _ (λi b lo h=>by
    grind)) _ _ I) q ζ Q
theorem AR.strip(h:AR F0 w0 O a w G)(s:Nat):AR F0 w0 (strip O s) a w G:=by
 refine ⟨h.gB,h.lt,h.below,h.defers,λq l=>?_,λq l=>?_,λq=>?_⟩
 .simp only[Go.Sf.strip,AB.d3];split
  .rfl
  .exact h.dom q l
 .have:=h.slots q l;simp[Go.Sf.strip,AB.d3];split
  .trivial
  .refine AK.kept (QN _ _) (λ_=>rfl) (λ_ _ _ _=>rfl) rfl BI.rfl' (λr i k u⟨p,m⟩=>⟨⟨p,(AB.pN V m).2⟩,λ_ hv=>hv⟩) (λr A u⟨cs,g⟩=>?_) (λr i u⟨p,m⟩=>⟨⟨p,(AB.l4 V V m).2⟩,λ_ hv=>hv⟩) this
   .rw[AB.d3]at g;split at g
    .cases g
    .exact⟨⟨cs,g⟩,rfl⟩
 .simp[Go.Sf.strip,AB.d3];split
  .trivial
  .exact h.wf q
variable{s:Nat}
theorem AR.move(h:AR F0 w0 O a w G){t:TV}(N:O.get s=.ow t)(hd:d<a.tmps.size):
  ∃m,AR F0 w0 ((d,.ow t)::Go.Sf.strip O s) (a.put (Y d) (slot a s)) w m/\Be w w (AW w0.heap.size F0 G) (AW w0.heap.size F0 m):=by
 have B:=Ah h N V;simp[AK]at B;have L:=h.wf s;rw[N]at L
 let zs:Option (Nat×Nat):=G s W
 let m:BV:=I8 (I8 G s (λ_=>W)) d (λi=>if i=W then zs else W)
 have D:∀q i b lo,m q i=Y (b,lo)->(q=d/\i=W/\G s W=Y (b,lo))\/(q≠d/\q≠s/\G q i=Y (b,lo)):=by
  intro q i b lo u;by_cases l:q=d
  .grind[Bv]
  .simp[m,BD _ _ _ _ l]at u;by_cases ε:q=s
   .grind[Bv]
   .rw[BD _ _ _ _ ε]at u
    grind
 have E:∀q i b lo,m q i=Y (b,lo)->∃κ η lo',G κ η=Y (b,lo')/\lo'<=lo:=by
  grind
 have H:Be w w (AW w0.heap.size F0 G) (AW w0.heap.size F0 m):=λb o v δ hf=>⟨δ,λQ=>hf (AW.mono E Q)⟩;refine⟨m,⟨?_,?_,h.below,g?,?_,?_,?_⟩,H⟩
 .intro q i κ η b lo lo' A C;rcases D _ _ _ _ A with⟨rfl,rfl,J⟩|⟨n1,n2,J⟩<;>rcases D _ _ _ _ C with⟨rfl,rfl,M⟩|⟨m1,m2,M⟩
  .exact⟨rfl,rfl⟩
  .exact absurd (h.gB _ _ _ _ _ _ _ J M).1.symm m2
  .exact absurd (h.gB _ _ _ _ _ _ _ J M).1 n2
  .exact h.gB _ _ _ _ _ _ _ J M
 .intro q i b lo A;rcases D _ _ _ _ A with⟨_,_,J⟩|⟨_,_,J⟩<;>exact h.lt _ _ _ _ J
 .intro q u;rw[Bi]at u;rw[AB.d3,aE U];exact(h.strip s).dom q u
 .intro q u;rw[Bi]at u;rw[AB.d3];by_cases l:d=q
  .subst l;rw[QQ rfl,Cj _ _ _ hd];simp[AK,m,Bv];exact B.kept H (λ_ _ _=>rfl)
  .rw[aE l,AZ _ _ _ _ l];simp[Go.Sf.strip,AB.d3];split
   .trivial
   .rename_i θ;refine AK.kept H (λi=>?_) (λ_ _ _ _=>rfl) (LV (Bi _ _ _) (λq u=>by
     have hss:=Bg h N V
     grind [BD])) BI.rfl' (λr i k ζ⟨p,R⟩=>?_) (λr Z ζ⟨cs,g⟩=>?_) (λr i ζ⟨p,R⟩=>?_) (h.slots q u)
    .simp[m];rw[BD _ _ _ _ (λe=>l e.symm),BD _ _ _ _ (λe=>θ e.symm)]
    .have A:=AB.pN V R;have C:=AB.pN V A.2;exact⟨⟨p,C.2⟩,h.nh ⟨p,C.2⟩ (AZ _ _ _ _ A.1) (λ_ _ _ _=>rfl)⟩
    .rw[AB.d3]at g;by_cases I:d=r
     .rw[QQ I]at g;cases g
     .rw[aE I]at g;simp[AB.d3]at g;split at g
      .cases g
      .exact⟨⟨cs,g⟩,AZ _ _ _ _ I⟩
    .have A:=AB.l4 V V R;have C:=AB.l4 V V A.2;exact⟨⟨p,C.2⟩,h.xv ⟨p,C.2⟩ (AZ _ _ _ _ A.1) (λ_ _=>rfl)⟩
 .intro q;rw[AB.d3];split
  .exact L
  .exact(h.strip s).wf q
theorem pT(a:Act)(d s:Nat)(v:Value)(h:d<a.tmps.size):slot (a.put (Y d) v) s=if d=s then v else slot a s:=by grind[Cj,AZ]
theorem AR.move'(h:AR F0 w0 O a w G){t:TV}(g:O.get s=.ow t)(hd:d<a.tmps.size):
  Bs F0 w0 ((d,.ow t)::(s,.tv t)::O) (a.put (Y d) (slot a s)) w:=by
 obtain ⟨p,q,m⟩:=h.move g hd;have hv:=Ax h (x:=.tmp s) (y:=.s s) p? (t:=t) (by simp[AF.val,AF.ev,g,EV.val]);have l:=Bg h g V;refine⟨p,q.rem s (t:=t) (by rw[Bi];exact l) ?_ hv.2 λn=>?_⟩
 .have:slot (a.put (Y d) (slot a s)) s=slot a s:=by rw[pT _ _ _ _ hd];split<;>rfl
  rw [this];exact B8 m _ _ hv.1
 .simp[Go.Sf.strip,AB.d3];split
  .exact .inl rfl
  .split
   next e=>exact .inr ⟨e.symm,rfl⟩
   .exact .inl rfl
theorem iA(m:AR F0 w0 O a w G)(hd:d<a.tmps.size)(g:o.op=.move (.tmp s)\/o.op=.assign (.tmp s))(h:(AE.tk s).wp S O (Y d) K):A2 P F0 w0 a w o d K:=by
 simp [AE.wp]at h;have l:(execOp a.eval o).run P w=.ok (.value (slot a s)) w:=by
  rcases g with g|g<;>simp[execOp,g]<;>rfl
 split at h
 next t p=>exact⟨_,_,l,_,_,h,m.move' p hd⟩
 next t p=>have:=Ax m (x:=.tmp s) (y:=.s s) p? (t:=t) (by simp[AF.val,AF.ev,p,EV.val]);exact Cc m hd l this.1 this.2 h
 .exact h.elim
end
end Go.Sf
