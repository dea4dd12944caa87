/- The checker's operands, and the operations that only compute or read. -/
import Derived.Test.YtiaddfklojalbaaGreatSfInv
import Derived.Laws.StructEq
import Derived.Laws.Tables
import Derived.Great.BuildSlice
set_option linter.all false
open Option renaming some->Y,none->W
open Bool renaming true->X,false->T
open List renaming getElem?_eq_getElem->w?,mem_of_getElem?->x_,getElem?_drop->x!,mem_of_mem_drop->x?,getElem?_take->y_,all_eq_true->y!,mem_of_mem_take->y?,map_take->z_,eq_nil_of_length_eq_zero->z!,replicate->z?,length_replicate->A_
open Bool renaming and_assoc->A',eq_iff_iff->A!
open Array renaming length_toList->A?,foldl_toList->B_,toList_zipIdx->B',range->B!
open Nat renaming add_zero->B?,add_mul->C_,mul_le_mul_left->C'
namespace Go.Sf
open Go.RowKit (Below)
def ME:Value->Bool
 |.slice W 0 0=>X|_=>T
variable{v:Value}
theorem Jm(h:ME v=X):v=.slice W 0 0:=by grind[ME]
def nu(f:FuncId):Value->Bool
 |.func (.func g) first caps=>f==g&&first.size==0&&caps.size==0
 |_=>T
variable{f:FuncId}
theorem rY(h:nu f v=X):v=.func (.func f) #[] #[]:=by
 unfold nu at h
 grind
def iv(k:IntKind)(n:Int):Value->Bool
 |.int k' m=>k==k'&&n==m|_=>T
theorem nv{k:IntKind}{n:Int}(h:iv k n v=X):v=.int k n:=by
 unfold iv at h
 grind
def cD(b:Bool):Value->Bool
 |.bool c=>b==c|_=>T
variable{b:Bool}
theorem k8(h:cD b v=X):v=.bool b:=by
 unfold cD at h
 grind
def iw(s:ByteArray):Value->Bool
 |.string r=>s.data==r.data|_=>T
theorem nx{s:ByteArray}(h:iw s v=X):v=.string s:=by
 unfold iw at h
 grind [ByteArray.ext]
def iN:Value->Option (List Value)
 |.agg vs=>Y vs.toList|_=>W
theorem nG{l:List Value}(h:iN v=Y l):v=.agg l.toArray:=by
 unfold iN at h;split at h
 .simp at h;subst h;simp
 .cases h
mutual
def Ed:TV->Value->Bool
 |.int k n,v=>iv k n v&&decide (k.min<=n/\n<=k.max)|.bool b,v=>cD b v|.str s,v=>iw s v&&decide (s.size<=JX)|.list _ es,v=>es.isEmpty&&ME v|.agg ts,v=>match iN v with|some vs=>J0 ts vs&&vs.all Value.oneCell'|none=>T
 |.clo f cs,v=>cs.isEmpty&&nu f v|.nil,v=>ME v|.undef,v=>v.oneCell'|_,_=>T
def J0:Fq->List Value->Bool
 |[],vs=>vs.isEmpty|t::ts,vs=>match vs with|v::vs=>Ed t v&&J0 ts vs|[]=>T
end
mutual
theorem Hg(w:World)(F:Nat->Nat->Prop):∀(t:TV)(v:Value),Ed t v=X->At w F t v/\t.WF
 |.undef,v,h=>by
  simp [Ed]at h;exact⟨by simpa[At]using h,trivial⟩
 |.xl _ _,v,h=>by simp[Ed]at h|.nil,v,h=>by
  simp [Ed]at h;exact⟨Jm h,trivial⟩
 |.pt _,v,h=>by simp[Ed]at h|.int k n,v,h=>by
  simp [Ed,p0]at h;exact⟨nv h.1,h.2⟩
 |.bool b,v,h=>by
  simp [Ed]at h;exact⟨k8 h,trivial⟩
 |.str s,v,h=>by
  simp [Ed,p0]at h;exact⟨nx h.1,h.2⟩
 |.list n es,v,h=>by
  simp [Ed]at h
  grind [TV.WF,TV.pr,At,Jm]
 |.agg ts,v,h=>by
  simp [Ed]at h;split at h
  next vs hv=>rw[kp]at h;have:=QJ w F ts vs h.1;refine⟨?_,by simpa[TV.WF]using this.2⟩;simp only[At];exact⟨_,nG hv,u_,by simpa using h.2⟩
  .cases h
 |.clo f cs,v,h=>by
  simp [Ed]at h;obtain⟨rfl,h⟩:=h;refine⟨?_,by simp[TV.WF,TV.pr]⟩;simp[At];exact⟨#[],rY h,rfl⟩
theorem QJ(w:World)(F:Nat->Nat->Prop):∀(ts:Fq)(vs:List Value),J0 ts vs=X->AT w F ts vs/\TV.pr ts
 |[],vs,h=>by simp[J0]at h;subst h;exact⟨rfl,trivial⟩|t::ts,vs,h=>by
  cases vs with
  |nil=>simp[J0]at h|cons v vs=>
   simp [J0]at h;have g:=Hg w F t v h.1;have l:=QJ w F ts vs h.2;exact⟨⟨v,vs,rfl,g.1,l.1⟩,g.2,l.2⟩
end
def AK(x:Operand):AG->Bool
 |.s m=>match x with|.tmp n=>n==m|_=>T
 |.c t=>match x with|.const v=>Ed t v|.func f=>Ed t (.func (.func f) #[] #[])|_=>T
section
variable{F0:Nat->Nat->Prop}{w0:W0}{ε:AB}{a:Act}{w:World}{G:BZ}
variable{s:Nat}
theorem OT(h:AP F0 w0 ε a w G){i:Option Nat}:∀b lo o,G s i=Y (b,lo)->o<lo->¬AU w0.heap.size F0 G b o:=by
 intro b lo o l ho hf;rcases hf with⟨m,g⟩|⟨s',q,lo',p,r⟩
 .exact(h.lt _ _ _ _ l).2.elim (λe=>U) (λe=>h.below.free _ _ _ (e _ (a5 _)) g)
 .obtain⟨rfl,rfl⟩:=h.gk _ _ _ _ _ _ _ p l
  grind
variable{n:Nat}
theorem Bm(h:AP F0 w0 ε a w G){e:EV}(he:ε.get n=e)(g:e≠.undef):n<a.tmps.size:=by
 rcases Nat.lt_or_ge n a.tmps.size with l|m
 .exact l
 .exact absurd ((h.dom n m).symm.trans he).symm g
theorem AY(h:AP F0 w0 ε a w G){e:EV}(he:ε.get n=e)(g:e≠.undef):AO a w (AU w0.heap.size F0 G) G ε n e (slot a n):=by
 have:=h.slots n (Bm h he g)
 rwa [he]at this
theorem m8(g:AP F0 w0 ε a w G){x:AG}{row:Fq}(h:x.val ε=Y (.pt row)):x.ev ε=.tv (.pt row):=by
 cases x with
 |c t=>simpa[AG.val,AG.ev,EV.val]using h|s n=>
  simp [AG.val,AG.ev]at h|-;cases he:ε.get n with
  |tv t=>rw[he]at h;simpa[EV.val]using h|ow t=>
   rw [he]at h;have m:t=.pt row:=by simpa[EV.val]using h
   subst m;by_cases l:n<a.tmps.size
   .have:=g.slots n l;rw[he]at this;simp[AO,By]at this
   .rw[g.dom n (Nat.le_of_not_lt l)]at he;cases he
  |_=>rw[he]at h;simp[EV.val]at h
variable{x:Operand}{y:AG}
theorem A5(h:AP F0 w0 ε a w G)(l:AK x y=X){t:TV}(hv:y.val ε=Y t):At w (AU w0.heap.size F0 G) t (a.eval x)/\t.WF:=by
 cases y with
 |s m=>
  cases x<;>simp[AK]at l;subst l;rename_i n;simp[AG.val,AG.ev]at hv;have p:=h.wf n;cases he:ε.get n with
  |tv r=>
   rw [he]at hv p;simp[EV.val]at hv;subst hv;exact⟨AY h he V,p⟩
  |ow r=>
   rw [he]at hv p;simp[EV.val]at hv;subst hv;exact⟨By.rep (AY h he V) (λb lo o u ho=>OT h b lo o u ho),p⟩
  |undef=>rw[he]at hv;simp[EV.val]at hv|sk=>rw[he]at hv;simp[EV.val]at hv|xo n es=>rw[he]at hv;simp[EV.val]at hv|la q i=>rw[he]at hv;simp[EV.val]at hv|oag cs=>rw[he]at hv;simp[EV.val]at hv|xn es=>rw[he]at hv;simp[EV.val]at hv|x1 n B=>rw[he]at hv;simp[EV.val]at hv|mx m=>rw[he]at hv;simp[EV.val]at hv|nh q i k=>rw[he]at hv;simp[EV.val]at hv|lp q i c=>rw[he]at hv;simp[EV.val]at hv|bx cs=>rw[he]at hv;simp[EV.val]at hv|bp q A=>rw[he]at hv;simp[EV.val]at hv|tp ts=>rw[he]at hv;simp[EV.val]at hv
 |c r=>
  simp [AG.val,AG.ev,EV.val]at hv;subst hv;cases x with
  |const v=>exact Hg w _ _ _ l|func f=>exact Hg w _ _ _ l|tmp n=>simp[AK]at l|global g=>simp[AK]at l
theorem X8(h:AP F0 w0 ε a w G)(g:AK x y=X){t:TV}(hv:y.ev ε=.tv t):At w (AU w0.heap.size F0 G) t (a.eval x)/\t.WF:=by grind[A5,AG.val,EV.val]
def Bi:List Operand->List AG->Bool
 |[],[]=>X|x::xs,y::ys=>AK x y&&Bi xs ys|_,_=>T
theorem GL(h:AP F0 w0 ε a w G):∀{xs:List Operand}{ys:List AG},Bi xs ys=X->∀{ts:Fq},vals ε ys=Y ts->AT w (AU w0.heap.size F0 G) ts (xs.map a.eval)/\TV.pr ts
 |[],[],_,ts,hv=>by simp[vals]at hv;subst hv;exact⟨rfl,trivial⟩|[],_::_,g,_,_=>by simp[Bi]at g|_::_,[],g,_,_=>by simp[Bi]at g|x::xs,y::ys,g,ts,hv=>by
  simp [Bi]at g;simp[vals]at hv;split at hv
  next t q r l=>simp at hv;subst hv;have m:=A5 h g.1 r;have p:=GL h g.2 l;exact⟨⟨_,_,rfl,m.1,p.1⟩,m.2,p.2⟩
  .cases hv
end
theorem Lz(k:IntKind)(n:Int):k.min<=k.wrap n/\k.wrap n<=k.max:=by
 cases k<;>simp only[IntKind.min,IntKind.max,IntKind.wrap,IntKind.signed,IntKind.bits,Bool.true_and,Bool.false_and]<;>simp<;>(try split)<;>omega
end Go.Sf
namespace Go.Sf
open Go.RowKit (Below)
def DD(P:Program)(t:TypeId):Option Nat:=(P.info? t).map (·.size)
def CD(P:Program)(t:TypeId):K1:=
 match P.underlying t with
 |some (.struct _)|some (.array _ _)=>Y X|some _=>Y T|none=>W
def Ih(P:Program)(t:TypeId):Option Nat:=
 match P.underlying t with
 |some (.slice e)=>DD P e|_=>W
def O2(P:Program)(t:TypeId)(f:Nat):Option Nat:=
 match P.underlying t with
 |some (.struct fs)=>match fs[f]? with
  |some x=>match DD P x.type with
   |some 0=>W|some _=>Y x.offset|none=>W
  |none=>W
 |_=>W
section
variable{P:Program}{w:World}
variable{t:TypeId}{n:Nat}
theorem CJ(h:DD P t=Y n):(sizeOf t).run P w=.ok n w:=by
 simp only[DD,Option.map_eq_some_iff]at h;obtain⟨i,hi,rfl⟩:=h;simp[sizeOf,typeInfo,hi]
variable{b:Bool}
theorem Cz(h:CD P t=Y b):(isAgg t).run P w=.ok b w:=by
 unfold CD at h;unfold isAgg underlying;simp only[Sem.run_bind,run_program,Result.andThen_ok];cases g:P.underlying t with
 |none=>rw[g]at h;simp at h|some d=>
  rw [g]at h;cases d<;>simp_all
theorem VY{f k b o:Nat}(h:O2 P t f=Y k):
  (Instr.fieldAt t (.pointer (Y ⟨b,o,W⟩)) f).run P w=.ok (.pointer (Y ⟨b,o+k,W⟩)) w:=by
 unfold O2 at h;split at h
 .rename_i r l;split at h
  .rename_i x m;split at h
   .cases h
   next n p q=>simp only[o4]at h;subst h;have g:¬(n=0):=λe=>p (by rw[e]);simp[Instr.fieldAt,run_underlying l,m,Instr.sureAddr,fieldPlace,CJ q,g,Addr.add_lit]
   .cases h
  .cases h
 .cases h
variable{ts:Fq}
theorem Ty{F:Nat->Nat->Prop}{b o:Nat}(h:DY w F ts b o):∃vs:List Value,AT w F ts vs/\(∀x∈vs,x.oneCell'=X)/\∀(j:Nat)(v:Value),vs[j]?=Y v->w.cell? ((⟨b,o,W⟩:Addr).add j)=Y v:=by
 induction ts generalizing o with
 |nil=>exact⟨[],rfl,V,V⟩|cons t ts C=>
  simp only[DY]at h;obtain⟨⟨v,l,D,m,p⟩,q⟩:=h;obtain⟨vs,r,A,B⟩:=C q;refine⟨v::vs,⟨v,vs,rfl,p,r⟩,by simp only[List.mem_cons,forall_eq_or_imp];exact⟨m,A⟩,λj u g=>?_⟩;rw[Addr.add_lit];cases j with
  |zero=>simp at g;subst g;exact l|succ j=>
   have:=B j u r!;rw[Addr.add_lit]at this
   grind
theorem BS{F:Nat->Nat->Prop}{vs:List Value}(h:AT w F ts vs):vs.length=ts.length:=((Bk ts vs).1 h).1
variable{v:Value}
theorem jn{F:Nat->Nat->Prop}{es:Fq}{k:IntKind}{j:Int}(l:Ih P t=Y n)(h:At w F (.list n es) v)(H:0<=j){e:TV}(he:es[j.toNat]?=Y e):
  ∃p,(Instr.indexAt t v (.int k j)).run P w=.ok p w/\At w F (.pt e.cells) p:=by
 simp only[At]at h;obtain⟨a,cap,rfl,_,C,D⟩:=h;have g:j.toNat<es.length:=by
  grind
 cases a with
 |none=>have:=C rfl;subst this;simp at g|some r=>
  obtain ⟨m,q⟩:=D r rfl;obtain⟨b,o,E⟩:=r;simp only at m q;have m:E=W:=m.resolve_left (λe=>by subst e;simp at g);subst m;unfold Ih at l;split at l
  .rename_i el u;rw[RF]at q;have A:=q j.toNat e he;have B:0<=j/\j<(es.length:Int):=U
   refine ⟨.pointer (Y ⟨b,o+j.toNat*n,W⟩),?_,?_⟩
   .simp[Instr.indexAt,asIntOf,run_underlying u,B,CJ l,Addr.add_lit]
   .simp only[At];exact⟨b,_,rfl,A.1⟩
  .cases l
end
end Go.Sf
namespace Go.Sf
open Go.RowKit (Below)
def A7(P:Program)(F0:Nat->Nat->Prop)(w0:W0)(a:Act)(w:World)(o:Oper)(d:Nat)(K:EV->AB->Prop):Prop:=
 ∃v w',(execOp a.eval o).run P w=.ok (.value v) w'/\∃e env',K e env'/\CB F0 w0 ((d,e)::env') (a.put (Y d) v) w'
theorem B1:∀{l:Fq},TV.pr l↔∀t∈l,t.WF
 |[]=>by simp[TV.pr]|t::l=>by simp[TV.pr,B1 (l:=l)]
theorem IC{t:TV}(h:t.WF):TV.pr t.cells:=by
 cases t with
 |agg cs=>exact h|_=>exact⟨h,trivial⟩
section
variable{P:Program}{S:FuncId->Fq->Az->Prop}{F0:Nat->Nat->Prop}{w0:W0}{ε:AB}{a:Act}{w:World}{G:BZ}{d:Nat}{o:Oper}{K:EV->AB->Prop}
variable{v:Value}
theorem Cx(h:AP F0 w0 ε a w G)(hd:d<a.tmps.size){t:TV}(g:(execOp a.eval o).run P w=.ok (.value v) w)
  (l:At w (AU w0.heap.size F0 G) t v)(m:t.WF)(p:K (.tv t) ε):A7 P F0 w0 a w o d K:=
 ⟨v,w,g,_,_,p,h.tv_same d hd t v l m⟩
variable{x:Operand}{y:AG}
theorem gq(p:AP F0 w0 ε a w G)(hd:d<a.tmps.size)(g:o.op=.move x\/o.op=.assign x)(l:AK x y=X)(h:(AE.mv y).wp S ε (Y d) K):A7 P F0 w0 a w o d K:=by
 simp [AE.wp]at h;have hv:(∃t,y.val ε=Y t/\K (.tv t) ε)\/∃ts,y.ev ε=.tp ts/\K (.tp ts) ε:=by
  unfold AG.val;split at h<;>first|exact h.elim|(rename_i t he;exact .inl ⟨t,by rw[he];rfl,h⟩)|(rename_i t he;exact .inr ⟨t,he,h⟩)
 have m:(execOp a.eval o).run P w=.ok (.value (a.eval x)) w:=by rcases g with g|g<;>simp[execOp,g]
 rcases hv with⟨t,hv,C⟩|⟨ts,hv,C⟩
 .have:=A5 p l hv
  grind [Cx]
 .cases y with
  |c t=>simp[AG.ev]at hv|s n=>
   have E:x=.tmp n:=by
    cases x<;>simp[AK]at l;rw[l]
   subst E;simp[AG.ev]at hv;have A:=AY p hv V;have B:=p.wf n;rw[hv]at B;refine⟨_,w,m,_,_,C,⟨_,p.quiet (Below.refl _ _) d hd (.tp ts) _ (λ_=>W) V V V ?_ B⟩⟩;simp[AO]at A|-;obtain⟨vs,I,J⟩:=A;refine⟨vs,I,Aw (λb o u D hf=>⟨D,λr=>hf ?_⟩) _ _ J⟩;rcases r with q|⟨s,i,lo,q,L⟩
   .exact .inl q
   .by_cases H:s=d
    .grind[B9]
    .rw[BG _ _ _ _ H]at q;exact .inr ⟨s,i,lo,q,L⟩
theorem mj(l:AP F0 w0 ε a w G)(hd:d<a.tmps.size){c x x':Operand}{c' y y':AG}(m:o.op=.pick c x x')(r:AK c c'=X)(B:AK x y=X)(C:AK x' y'=X)
  (h:(AE.pick c' y y').wp S ε (Y d) K):A7 P F0 w0 a w o d K:=by
 simp [AE.wp]at h;split at h
 .rename_i q u;have g:=(A5 l r u).1;simp[At]at g;have p:AK (if q then x else x') (if q then y else y')=X:=by cases q<;>assumption
  have hv:∃t,(if q then y else y').val ε=Y t/\K (.tv t) ε:=by
   unfold AG.val;split at h<;>first|exact h.elim|(rename_i t he;exact⟨t,by rw[he];rfl,h⟩)
  obtain ⟨t,hv,A⟩:=hv;have:=A5 l p hv;refine Cx l hd (v:=a.eval (if q then x else x')) ?_ this.1 this.2 A;cases q<;>simp[execOp,m,g,asBool]
 .exact h.elim
variable{t:TypeId}
theorem pf(m:AP F0 w0 ε a w G)(hd:d<a.tmps.size)(g:o.op=.unOp .not t x)(l:AK x y=X)(h:(AE.not y).wp S ε (Y d) K):A7 P F0 w0 a w o d K:=by
 simp [AE.wp]at h;split at h
 next b hv=>have:=(A5 m l hv).1;simp[At]at this;exact Cx m hd (v:=.bool !b) (t:=.bool !b) (by simp[execOp,g,this,Op.unary]) rfl trivial h
 .exact h.elim
theorem pX(m:AP F0 w0 ε a w G)(hd:d<a.tmps.size)(g:o.op=.unOp .neg t x)(l:AK x y=X)(h:(AE.neg y).wp S ε (Y d) K):A7 P F0 w0 a w o d K:=by
 simp [AE.wp]at h;split at h
 next k n hv=>have:=(A5 m l hv).1;simp[At]at this;exact Cx m hd (v:=.int k (k.wrap (-n))) (t:=.int k (k.wrap (-n))) (by simp[execOp,g,this,Op.unary,Op.intArith]) rfl (Lz k _) h
 .exact h.elim
theorem pC(m:AP F0 w0 ε a w G)(hd:d<a.tmps.size){s t:TypeId}{k p:IntKind}(g:o.op=.convert s t x)(q:P.underlying s=Y (.int p))(r:P.underlying t=Y (.int k))(l:AK x y=X)(h:(AE.cvt k y).wp S ε (Y d) K):A7 P F0 w0 a w o d K:=by
 simp [AE.wp]at h;split at h
 next u n hv=>have:=(A5 m l hv).1;simp[At]at this;refine Cx m hd (v:=.int k (k.wrap n)) (t:=.int k (k.wrap n)) ?_ rfl (Lz k _) h;simp[execOp,g,this,convert,run_underlying q,run_underlying r,Conv.intToInt]
 .exact h.elim
variable{f:FuncId}{ys:List AG}
theorem o8(m:AP F0 w0 ε a w G)(hd:d<a.tmps.size){xs:Array Operand}(g:o.op=.makeFunc (.func f) #[] xs)(l:Bi xs.toList ys=X)(h:(AE.clo f ys).wp S ε (Y d) K):A7 P F0 w0 a w o d K:=by
 simp [AE.wp]at h;cases hv:vals ε ys with
 |none=>rw[hv]at h;exact h.elim|some ts=>
  rw [hv]at h;have:=GL m l hv;refine Cx m hd (v:=.func (.func f) #[] (xs.map a.eval)) (by simp[execOp,g,Instr.makeFunc]) ?_ (by simpa[TV.WF]using this.2) h;simp only[At];exact⟨_,rfl,u_⟩
theorem pF(l:AP F0 w0 ε a w G)(hd:d<a.tmps.size){s i:Nat}(m:o.op=.extract (.tmp s) i)(h:(AE.ext (.s s) i).wp S ε (Y d) K):A7 P F0 w0 a w o d K:=by
 simp [AE.wp,AG.ev]at h;split at h
 .rename_i ts hv;cases g:ts[i]? with
  |none=>rw[g]at h;exact h.elim|some t=>
   rw [g]at h;have q:=AY l hv V;have r:=l.wf s;rw[hv]at r;simp[AO]at q;obtain⟨vs,C,u⟩:=q;rw[Bk]at u;have A:i<ts.length:=by
    grind
   have B:vs.toList[i]?=Y (vs.toList[i]' U):=w? U;have p:vs[i]?=Y (vs.toList[i]' U):=V
   refine Cx l hd (v:=vs.toList[i]' U) ?_ (u.2 i t _ g B) ?_ h
   .simp[execOp,m,show a.eval (.tmp s)=slot a s from rfl,C,Instr.extract,p]
   .exact B1.1 r t (x_ g)
 .exact h.elim
variable{e:TypeId}
theorem pM(m:AP F0 w0 ε a w G)(hd:d<a.tmps.size)(g:o.op=.call {callee:=.builtin .len,args:=#[x],argTypes:=#[t]})(l:AK x y=X)
  (he:P.underlying t=Y (.slice e))(h:(AE.len y).wp S ε (Y d) K):A7 P F0 w0 a w o d K:=by
 simp only[AE.wp]at h;split at h
 next n es hv=>have:=A5 m l hv;simp only[At,TV.WF,JX]at this;obtain⟨⟨q,cap,p,_⟩,r⟩:=this;refine Cx m hd (v:=.int .i64 es.length) (t:=.int .i64 es.length) ?_ rfl ⟨j!,s_⟩ h;simp[execOp,g,resolve,invoke,builtin,Builtin.len_,run_underlying he,p,goInt]
 .exact h.elim
theorem mq(m:AP F0 w0 ε a w G)(hd:d<a.tmps.size)(g:o.op=.call {callee:=.builtin .len,args:=#[x],argTypes:=#[t]})(l:AK x y=X)
  (he:P.underlying t=Y .string)(h:(AE.AbF y).wp S ε (Y d) K):A7 P F0 w0 a w o d K:=by
 simp only[AE.wp]at h;split at h
 next s hv=>have:=A5 m l hv;simp only[At,TV.WF,JX]at this;refine Cx m hd (v:=.int .i64 s.size) (t:=.int .i64 s.size) ?_ rfl ⟨j!,s_⟩ h;simp[execOp,g,resolve,invoke,builtin,Builtin.len_,run_underlying he,this.1,goInt]
 .exact h.elim
end
end Go.Sf
namespace Go.Sf
open Go.RowKit (Below)
section
variable{P:Program}{S:FuncId->Fq->Az->Prop}{F0:Nat->Nat->Prop}{w0:W0}{ε:AB}{a:Act}{w:World}{G:BZ}{d:Nat}{o:Oper}{K:EV->AB->Prop}
variable{s:Nat}{ρ:Ho}{c:AQ}
theorem Wi(g:AP F0 w0 ε a w G){i:Option Nat}{x:Value}(h:BH w (AU w0.heap.size F0 G) ρ (G s i) c x):At w (AU w0.heap.size F0 G) c.t x:=by
 obtain ⟨_|_,t⟩:=c
 .exact h.1
 .exact EZ.rep h (λb lo o l ho=>OT g b lo o l ho)
variable{z:Option (Nat×Nat)}
theorem V1{F:Nat->Nat->Prop}{t:TV}{x:Value}(h:By w F z t x):x.oneCell'=X:=by
 cases t<;>simp[By]at h;obtain⟨xs,l,_⟩:=h;rcases l.2 with⟨rfl,_⟩|⟨g,cap,m,e,rfl,_⟩<;>rfl
theorem oB{F:Nat->Nat->Prop}{es:Fq}{x:Value}(h:Fw w F ρ z es x):x.oneCell'=X:=by
 obtain ⟨xs,⟨p,l,_⟩,_⟩:=h;rcases l.2 with⟨rfl,_⟩|⟨g,cap,m,e,rfl,_⟩<;>rfl
theorem OS{F:Nat->Nat->Prop}{t:TV}{x:Value}(h:EZ w F ρ z t x):x.oneCell'=X:=by
 by_cases l:∃es,t=.xn es
 .obtain⟨es,rfl⟩:=l;exact oB h
 by_cases m:∃n es,t=.xl n es
 .obtain⟨n,es,rfl⟩:=m;simp[EZ,Jp]at h;obtain⟨xs,⟨r,p,_⟩,_⟩:=h;rcases p.2 with⟨rfl,_⟩|⟨g,cap,q,e,rfl,_⟩<;>rfl
 .refine V1 (w:=w) (F:=F) (z:=z) (t:=t) ?_;cases t<;>first|exact h|exact absurd ⟨_,_,rfl⟩ m|exact absurd ⟨_,rfl⟩ l
theorem HI{F:Nat->Nat->Prop}{x:Value}(h:BH w F ρ z c x):x.oneCell'=X:=by
 obtain ⟨_|_,t⟩:=c
 .exact h.2
 .exact OS h
variable{x:Operand}{y:AG}
theorem Qr(C:AP F0 w0 ε a w G)(D:AK x y=X){cs:Fq}(g:BB ε (y.ev ε)=Y cs):
  ∃b o vs,a.eval x=.pointer (Y ⟨b,o,W⟩)/\AT w (AU w0.heap.size F0 G) cs vs/\TV.pr cs/\(∀x∈vs,x.oneCell'=X)/\∀(j:Nat)(v:Value),vs[j]?=Y v->w.cell? ((⟨b,o,W⟩:Addr).add j)=Y v:=by
 have box:∀(s h:Nat)(ds:List AQ),ε.get s=.bx ds->∃b vs,slot a s=.pointer (Y ⟨b,0,W⟩)/\AT w (AU w0.heap.size F0 G) ((ds.drop h).map (·.t)) vs/\TV.pr ((ds.drop h).map (·.t))/\(∀x∈vs,x.oneCell'=X)/\∀(j:Nat)(v:Value),vs[j]?=Y v->w.cell? ((⟨b,h,W⟩:Addr).add j)=Y v:=by
  intro s h ds M;have p:=AY C M V;have I:=C.wf s;rw[M]at I;simp only[AO]at p;obtain⟨b,c,θ,r,u,E,B,A⟩:=p;refine⟨b,c.toList.drop h,r,?_,?_,?_,?_⟩
  .rw[Bk];refine⟨by simp[E],λi t v H hv=>?_⟩;simp[List.getElem?_map,x!]at H hv;obtain⟨cell,l,rfl⟩:=H;obtain⟨x,N,p⟩:=A (h+i) cell l;have:x=v:=by
    grind
   subst this;exact Wi C p
  .rw[B1];intro t H;simp only[List.mem_map]at H;obtain⟨cell,l,rfl⟩:=H;exact I cell (x? l)
  .intro x N;obtain⟨i,hi,rfl⟩:=List.getElem_of_mem N;rw[List.getElem_drop];have Q:h+i<c.size:=by simp at hi;omega
   have R:ds[h+i]?=Y (ds[h+i]' U):=w? U
   grind [Array.getElem?_eq_getElem,HI]
  .intro j v hv;rw[x!]at hv;rw[Addr.add_lit,cell_of_row w b (h+j) c θ (0,0) u];simpa using hv
 cases y with
 |c t=>
  simp [AG.ev]at g;cases t<;>simp[BB]at g;subst g;have:=A5 C D (t:=.pt _) rfl;simp[At,TV.WF]at this;obtain⟨⟨b,o,r,u⟩,E⟩:=this;obtain⟨vs,B,J,A⟩:=Ty u;exact⟨b,o,vs,r,B,E,J,A⟩
 |s n=>
  cases x<;>simp[AK]at D;subst D;rename_i n;simp[AG.ev]at g;cases he:ε.get n with
  |tv t=>
   rw [he]at g;cases t<;>simp[BB]at g;subst g;have p:=AY C he V;have I:=C.wf n;rw[he]at I;simp[AO,At]at p;obtain⟨b,o,r,u⟩:=p;obtain⟨vs,B,J,A⟩:=Ty u;exact⟨b,o,vs,r,B,by simpa[EV.WF,TV.WF]using I,J,A⟩
  |bx ds=>
   rw [he]at g;simp[BB]at g;subst g;obtain⟨b,vs,r,u,E,L,B⟩:=box n 0 ds he;exact⟨b,0,vs,r,d_,u?,L,B⟩
  |bp q h=>
   rw [he]at g;simp only[BB]at g;split at g
   next ds O=>simp only[o4]at g;subst g;obtain⟨b,vs,r,u,E,L,B⟩:=box q h ds O;have p:=AY C he V;simp only[AO]at p;obtain⟨κ,A,J⟩:=p ⟨ds,O⟩;rw[r]at A;simp at A;subst A;exact⟨b,h,vs,J,u,E,L,B⟩
   .cases g
  |undef=>rw[he]at g;simp[BB]at g|sk=>rw[he]at g;simp[BB]at g|xo n es=>rw[he]at g;simp[BB]at g|la q i=>rw[he]at g;simp[BB]at g|oag cs=>rw[he]at g;simp[BB]at g|xn es=>rw[he]at g;simp[BB]at g|x1 n η=>rw[he]at g;simp[BB]at g|mx m=>rw[he]at g;simp[BB]at g|nh q i k=>rw[he]at g;simp[BB]at g|lp q i c=>rw[he]at g;simp[BB]at g|ow t=>rw[he]at g;simp[BB]at g|tp ts=>rw[he]at g;simp[BB]at g
variable{t:TypeId}
theorem sd(p:AP F0 w0 ε a w G)(hd:d<a.tmps.size)(g:o.op=.load t x)(l:AK x y=X)(B:CD P t=Y T)(h:(AE.ld y).wp S ε (Y d) K):A7 P F0 w0 a w o d K:=by
 simp [AE.wp]at h;cases m:BB ε (y.ev ε)with
 |none=>rw[m]at h;exact h.elim|some cs=>
  rw [m]at h;simp[Ai]at h;obtain⟨b,C,vs,D,A,E,_,H⟩:=Qr p l m;cases cs with
  |nil=>simp[FU]at h|cons u r=>
   simp [FU]at h;replace h:=h.2;simp[AT]at A;obtain⟨v,J,rfl,I,L⟩:=A;have q:=H 0 v rfl;rw[Addr.add_zero']at q;refine Cx p hd (v:=v) ?_ I E.1 h;simp[execOp,g,D,Instr.loadAt,Instr.sureAddr,loadVar,Cz B,q]
variable{n:Nat}
theorem XI(r:AP F0 w0 ε a w G)(hd:d<a.tmps.size)(l:o.op=.load t x)(m:AK x y=X)(u:CD P t=Y X)(A:DD P t=Y n)(h:(AE.lda y n).wp S ε (Y d) K):A7 P F0 w0 a w o d K:=by
 simp [AE.wp]at h;cases p:BB ε (y.ev ε)with
 |none=>rw[p]at h;exact h.elim|some cs=>
  rw [p]at h;simp[Ai]at h;obtain⟨b,q,vs,B,C,I,D,E⟩:=Qr r m p;have H:=BS C;have g:=run_loadCells_list (P:=P) w ⟨b,q,W⟩ (vs.take n) (λj v hv=>E j v (by rw[y_]at hv;split at hv<;>simp_all));rw[ae,Nat.min_eq_left U]at g;refine Cx r hd (v:=.agg (vs.take n).toArray) (t:=.agg (cs.take n)) ?_ ?_ ?_ h.2
  .simp[execOp,l,B,Instr.loadAt,Instr.sureAddr,loadVar,Cz u,CJ A,g]
  .grind[At,y!,y?,Bk]
  grind [TV.WF,B1,y?]
variable{i:Operand}{j:AG}
theorem pG(l:AP F0 w0 ε a w G)(hd:d<a.tmps.size)(q:o.op=.indexAddr t x i)(r:AK x y=X)(g:AK i j=X)(A:Ih P t=Y n)(h:(AE.iad y j n).wp S ε (Y d) K):A7 P F0 w0 a w o d K:=by
 simp [AE.wp]at h;split at h
 .rename_i m es k L B C;obtain⟨rfl,E,e,he,H⟩:=h;have D:=A5 l r B;have u:=A5 l g C;simp[At]at u;obtain⟨p,I,J⟩:=jn (P:=P) (k:=k) A D.1 E he;refine Cx l hd (v:=p) (by simp[execOp,q,u.1,I]) J ?_ H
  grind [TV.WF,B1,x_,IC]
 .exact h.elim
theorem mn(l:AP F0 w0 ε a w G)(hd:d<a.tmps.size)(m:o.op=.index t x i)(p:AK x y=X)(g:AK i j=X)(u:P.underlying t=Y .string)(h:(AE.Aas y j).wp S ε (Y d) K):A7 P F0 w0 a w o d K:=by
 simp [AE.wp]at h;split at h
 .rename_i s k H A B;obtain⟨C,b,D,E⟩:=h;have q:=A5 l p A;have r:=A5 l g B;simp[At]at q r;refine Cx l hd (v:=.int .u8 b.toNat) (t:=.int .u8 b.toNat) ?_ rfl ⟨by simp[IntKind.min,IntKind.signed],?_⟩ E
  .simp[execOp,m,q.1,r.1,Instr.index,asIntOf,run_underlying u,C,D]
  .have:=b.toNat_lt;simp[IntKind.max,IntKind.signed,IntKind.bits];omega
 .exact h.elim
theorem Yo{f k:Nat}(l:o.op=.fieldAddr t x f)(m:O2 P t f=Y k):∀b g,a.eval x=.pointer (Y ⟨b,g,W⟩)->(execOp a.eval o).run P w=.ok (.value (.pointer (Y ⟨b,g+k,W⟩))) w:=by
 intro b g h;simp[execOp,l,h,VY m]
theorem P0(g:o.op=.move x\/o.op=.assign x\/o.op=.nilCheck x):∀b l,a.eval x=.pointer (Y ⟨b,l,W⟩)->(execOp a.eval o).run P w=.ok (.value (.pointer (Y ⟨b,l+0,W⟩))) w:=by
 intro b l h;rcases g with g|g|g<;>simp[execOp,g,h]
variable{k:Nat}
theorem QY(p:AP F0 w0 ε a w G)(hd:d<a.tmps.size)(l:∀b g,a.eval x=.pointer (Y ⟨b,g,W⟩)->(execOp a.eval o).run P w=.ok (.value (.pointer (Y ⟨b,g+k,W⟩))) w)(m:AK x y=X)(h:(AE.fad y k).wp S ε (Y d) K):A7 P F0 w0 a w o d K:=by
 simp [AE.wp]at h;split at h
 .rename_i row he;have u:=X8 p m he;simp[At,TV.WF]at u;obtain⟨⟨b,g,C,D⟩,H⟩:=u;refine Cx p hd (v:=.pointer (Y ⟨b,g+k,W⟩)) (t:=.pt (row.drop k)) (l _ _ C) ?_ ?_ h
  .simp only[At];exact⟨b,_,rfl,Oq D k⟩
  grind [TV.WF,B1,x?]
 .rename_i q g he;cases y with
  |c t=>simp[AG.ev]at he|s n=>
   cases x<;>simp[AK]at m;subst m;rename_i n;simp[AG.ev]at he;have A:=AY p he V;simp only[AO]at A;split at h
   .rename_i r B;obtain⟨b,I,E⟩:=A ⟨r,B⟩;refine⟨.pointer (Y ⟨b,g+k,W⟩),w,l _ _ E,_,_,h,_,p.quiet (Below.refl _ _) d hd (.bp q (g+k)) _ (λ_=>W) V V V ?_ trivial⟩
    grind [AO,AB.c7,AX]
   .exact h.elim
 .exact h.elim
theorem QX(m:AP F0 w0 ε a w G)(hd:d<a.tmps.size)(l:∀b g,a.eval (.tmp s)=.pointer (Y ⟨b,g,W⟩)->(execOp a.eval o).run P w=.ok (.value (.pointer (Y ⟨b,g+k,W⟩))) w)(h:(AE.bad s k).wp S ε (Y d) K):A7 P F0 w0 a w o d K:=by
 simp [AE.wp]at h;split at h
 .rename_i cs he;have q:=AY m he V;simp only[AO]at q;obtain⟨b,c,θ,p,_⟩:=q;refine⟨.pointer (Y ⟨b,0+k,W⟩),w,l _ _ p,_,_,h,_,m.quiet (Below.refl _ _) d hd (.bp s k) _ (λ_=>W) V V V ?_ trivial⟩
  grind [AO,AB.c7,AX]
 .rename_i row he;have p:=X8 m (x:=.tmp s) (y:=.s s) q_ he;simp[At,TV.WF]at p;obtain⟨⟨b,g,r,u⟩,A⟩:=p;refine Cx m hd (v:=.pointer (Y ⟨b,g+k,W⟩)) (t:=.pt (row.drop k)) (l _ _ r) ?_ ?_ h
  .simp only[At];exact⟨b,_,rfl,Oq u k⟩
  grind [TV.WF,B1,x?]
 .exact h.elim
variable{e:TypeId}
theorem oz(p:AP F0 w0 ε a w G)(hd:d<a.tmps.size)(q:o.op=.indexAddr t x i)(r:AK x y=X)(l:AK i j=X)(u:P.underlying t=Y (.array k e))(D:DD P e=Y n)
  (h:(AE.aad y j n k).wp S ε (Y d) K):A7 P F0 w0 a w o d K:=by
 simp [AE.wp]at h;split at h
 .rename_i row O m E A;obtain⟨I,J,Q,L⟩:=h;have B:=(A5 p l A).1;simp[At]at B;have H:∃b g,a.eval x=.pointer (Y ⟨b,g,W⟩)/\DY w (AU w0.heap.size F0 G) row b g/\TV.pr row:=by
   have:=X8 p r E
   grind [At,TV.WF]
  obtain ⟨b,g,M,N,C⟩:=H;have A:0<=m/\m<(k:Int):=⟨I,J⟩;refine Cx p hd (v:=.pointer (Y ⟨b,g+m.toNat*n,W⟩)) (t:=.pt (row.drop (m.toNat*n))) ?_ ?_ ?_ L
  .simp[execOp,q,B,M,Instr.indexAt,asIntOf,run_underlying u,A,Instr.sureAddr,CJ D,Addr.add_lit]
  .simp only[At];exact⟨b,_,rfl,Oq N _⟩
  .simp[TV.WF];rw[B1]at C|-;exact λt u=>C t (x? u)
 .exact h.elim
def jE(P:Program)(t:TypeId)(j:Operand)(k:Nat):Bool:=
 match j,P.underlying t with
 |.const (.int _ i),Y (.array m e)=>decide (0<=i)&&decide (i<(m:Int))&&(match DD P e with
  |some n=>i.toNat*n==k|none=>T)
 |_,_=>T
theorem q8{P:Program}{o:Oper}{a:Act}{w:World}{j:Operand}(q:o.op=.indexAddr t (.tmp s) j)(g:jE P t j k=X)(b l:Nat)(h:a.eval (.tmp s)=.pointer (Y ⟨b,l,W⟩)):(execOp a.eval o).run P w=.ok (.value (.pointer (Y ⟨b,l+k,W⟩))) w:=by
 unfold jE at g;split at g
 .rename_i r i m e u;simp[p0]at g;obtain⟨⟨D,E⟩,p⟩:=g;split at p
  next n A=>simp at p;subst p;have B:0<=i/\i<(m:Int):=⟨D,E⟩;have C:a.eval (.const (.int r i))=.int r i:=rfl;simp[execOp,q,h,C,Instr.indexAt,asIntOf,run_underlying u,B,Instr.sureAddr,CJ A,Addr.add_lit]
  .cases p
 .cases g
def Uu(g:TypeId->Option MV)(P:Program):List Field->Nat->Option MV
 |[],_=>Y []|f::fs,off=>match g f.type with
  |some ks=>if(f.name≠ "_" /\f.offset=off)/\DD P f.type=Y ks.length then(match Uu g P fs (off+ks.length)with|some r=>Y (ks ++ r)|none=>W)else W
  |none=>W
def Pk(P:Program):Nat->TypeId->Option MV
 |0,_=>W|k+1,t=>match P.underlying t with
  |some (.int _)=>Y [0]|some .string=>Y [1]|some .bool=>Y [2]|some (.struct fs)=>if P.stoodInHeld t then W else Uu (Pk P k) P fs.toList 0|_=>W
def Nd(P:Program):BK->TypeId->Bool
 |.i,_=>X|.s,_=>X|.w,_=>X|.b,t=>match P.underlying t with|some .bool=>X|_=>T
 |.a n,t=>CD P t==Y X&&!P.eqGuardType P.depth t&&Pk P 8 t==Y n
def TV.wl:TV->Value
 |.int k n=>.int k n|.str s=>.string s|.bool b=>.bool b|_=>Go.undef
def TV.x5:TV->Bool
 |.int _ _=>X|.str _=>X|.bool _=>X|_=>T
theorem RO:∀{cs ds:Fq}{r:Bool},CR cs ds=Y r->cs.length=ds.length/\(∀t∈cs,t.x5=X)/\(∀t∈ds,t.x5=X)
 |[],[],_,_=>by simp|[],_::_,_,h=>by simp[CR]at h|c::cs,[],_,h=>by cases c<;>simp[CR]at h
 |c::cs,d::ds,r,h=>by
  have key:∀l,CR cs ds=Y l->c.x5=X->d.x5=X->(c::cs).length=(d::ds).length/\(∀t∈c::cs,t.x5=X)/\(∀t∈d::ds,t.x5=X):=by
   intro l g m p;obtain⟨u,A,B⟩:=RO g
   grind
  cases c<;>cases d<;>simp only[CR,reduceCtorEq]at h
  .split at h
   .split at h
    next q g=>exact key q g rfl rfl
    .cases h
   .cases h
  .split at h
   next q g=>exact key q g rfl rfl
   .cases h
  .split at h
   next q g=>exact key q g rfl rfl
   .cases h
variable{v:Value}
theorem oZ{F:Nat->Nat->Prop}{t:TV}(g:t.x5=X)(h:At w F t v):v=t.wl:=by
 cases t<;>simp[TV.x5]at g<;>exact h
theorem RX{F:Nat->Nat->Prop}:∀{cs:Fq}{xs:List Value},(∀t∈cs,t.x5=X)->AT w F cs xs->xs=cs.map TV.wl
 |[],_,_,h=>h|c::cs,xs,g,h=>by
  simp [AT]at h;obtain⟨v,r,rfl,m,p⟩:=h;rw[oZ (g c V) m,RX (λt l=>g t (by simp[l])) p];rfl
theorem NS:∀(m:Nat){cs ds:Fq}{r:Bool},CR cs ds=Y r->∃g l,CR (cs.take m) (ds.take m)=Y g/\CR (cs.drop m) (ds.drop m)=Y l/\r=(g&&l)
 |0,cs,ds,r,h=>⟨X,r,by simp[CR],c_,V⟩|m+1,[],[],r,h=>by
  grind
 |m+1,[],_::_,_,h=>by simp[CR]at h|m+1,c::cs,[],_,h=>by cases c<;>simp[CR]at h
 |m+1,c::cs,d::ds,r,h=>by
  cases c<;>cases d<;>simp only[CR,reduceCtorEq]at h
  .split at h
   .rename_i C;split at h
    .rename_i q p;obtain⟨g,l,u,A,B⟩:=NS m p
     grind [o4,CR,A']
    .cases h
   .cases h
  .split at h
   .rename_i q p;obtain⟨g,l,u,A,B⟩:=NS m p
    grind [o4,CR,A']
   .cases h
  .split at h
   .rename_i q p;obtain⟨g,l,u,A,B⟩:=NS m p
    grind [o4,CR,A']
   .cases h
def Mq(P:Program)(t:TypeId)(vs:List Value):Value:=if CD P t=Y X then .agg vs.toArray else vs.headD Go.undef
theorem Qv:∀{cs ds:Fq}{r:Bool},CR cs ds=Y r->ds.map TV.kd=cs.map TV.kd
 |[],[],_,_=>rfl|[],_::_,_,h=>by simp[CR]at h|c::cs,[],_,h=>by cases c<;>simp[CR]at h
 |c::cs,d::ds,r,h=>by
  cases c<;>cases d<;>simp only[CR,reduceCtorEq]at h
  .split at h
   .split at h
    next q g=>simp[Qv g,TV.kd]
    .cases h
   .cases h
  .split at h
   next q g=>simp[Qv g,TV.kd]
   .cases h
  .split at h
   next q g=>simp[Qv g,TV.kd]
   .cases h
theorem ZT(k:Nat)(R:∀(t:TypeId)(n:MV),Pk P k t=Y n->∀d,k<=d->∀(cs ds:Fq)(r:Bool),cs.map TV.kd=n->CR cs ds=Y r->(Op.equalIn d t (Mq P t (cs.map TV.wl)) (Mq P t (ds.map TV.wl))).run P w=.ok r w):
  ∀(H:List Field)(p:Nat)(n:MV),Uu (Pk P k) P H p=Y n->∀d,k<=d->∀(g m:List Value)(cs ds:Fq)(r:Bool),g.length=p->m.length=p->cs.map TV.kd=n->CR cs ds=Y r ->
   (Op.eqFields d (g++cs.map TV.wl).toArray (m++ds.map TV.wl).toArray H).run P w=.ok r w
 |[],p,n,hf,d,hd,g,m,cs,ds,r,ζ,δ,E,h=>by
  simp [Uu]at hf;subst hf;have:cs=[]:=List.map_eq_nil_iff.1 E;subst this;cases ds<;>simp[CR]at h;subst h;simp[Op.eqFields]
 |f::H,p,n,hf,d,hd,g,m,cs,ds,r,ζ,δ,E,h=>by
  simp [Uu]at hf;split at hf
  .rename_i l u;split at hf
   .rename_i Z;split at hf
    .rename_i rest D;simp at hf;subst hf;obtain⟨⟨hn,ho⟩,O⟩:=Z;have hcl:cs.length=l.length+rest.length:=by
      have:=congrArg List.length E;simpa using this
     obtain ⟨η,r2,e1,e2,rfl⟩:=NS l.length h;have κ:=(RO h).1;have hdl:ds.length=l.length+rest.length:=U
     have M:(cs.take l.length).map TV.kd=l:=by rw[z_,E,List.take_left'];rfl
     have N:(cs.drop l.length).map TV.kd=rest:=by rw[List.map_drop,E,List.drop_left'];rfl
     have hi:=R f.type l u d hd (cs.take l.length) (ds.take l.length) η M e1;have C:=ZT k R H (p+l.length) rest D d hd (g++(cs.take l.length).map TV.wl) (m++(ds.take l.length).map TV.wl) (cs.drop l.length) (ds.drop l.length) r2 a! a! N e2;have A:∀(g:List Value)(cs:Fq),g++(cs.take l.length).map TV.wl++(cs.drop l.length).map TV.wl=g++cs.map TV.wl:=by
      intro g cs;rw[bk,<-List.map_append,List.take_append_drop]
     rw [A,A]at C;have B:∀(g:List Value)(cs:Fq),g.length=p->l.length<=cs.length->(0<l.length\/CD P f.type=Y X)->(∃b,CD P f.type=Y b)->(part f.type (g++cs.map TV.wl).toArray f.offset).run P w=.ok (Mq P f.type ((cs.take l.length).map TV.wl)) w:=by
      intro g cs θ J L q;obtain⟨b,q⟩:=q;cases b with
      |true=>
       simp only[part,Sem.run_bind,Cz q,Result.andThen_ok,if_true,CJ O,Sem.run_pure,Mq,q];congr 2;rw[List.extract_toArray,List.extract_eq_take_drop,ho,<-θ,List.drop_left,Nat.add_sub_cancel_left,<-z_]
      |false=>
       have h0:0<l.length:=by
        rcases L with h|h
        .exact h
        .rw[q]at h;cases h
       cases cs with
       |nil=>exact absurd (Nat.lt_of_lt_of_le h0 J) V|cons c cs=>
        obtain ⟨m',Q⟩:∃m',l.length=m'+1:=⟨l.length-1,U⟩;have:((g++(c::cs).map TV.wl).toArray)[f.offset]?=Y c.wl:=by
         rw [List.getElem?_toArray,ho,<-θ,List.getElem?_append_right (a5 _),Nat.sub_self];rfl
        simp only[part,Sem.run_bind,Cz q,Result.andThen_ok,Bool.false_eq_true,if_false,this,Sem.run_pure,Mq,q,Q];simp
     have q:(∃b,CD P f.type=Y b)/\(0<l.length\/CD P f.type=Y X):=by
      cases k with
      |zero=>simp[Pk]at u|succ k=>
       simp [Pk]at u;unfold CD;split at u<;>rename_i I
       .simp at u;subst u;rw[I];exact⟨⟨_,rfl⟩,.inl V⟩
       .simp at u;subst u;rw[I];exact⟨⟨_,rfl⟩,.inl V⟩
       .simp at u;subst u;rw[I];exact⟨⟨_,rfl⟩,.inl V⟩
       .rw[I];exact⟨⟨_,rfl⟩,.inr rfl⟩
       .cases u
     have p1:=B g cs ζ U q.2 q.1;have p2:=B m ds δ U q.2 q.1;simp only[Op.eqFields,Sem.run_bind,Sem.run_ite,aE hn,p1,p2,hi,Result.andThen_ok];cases η with
     |true=>simpa using C|false=>simp
    .cases hf
   .cases hf
  .cases hf
theorem kQ(a b:ByteArray):(a.toList==b.toList)=decide (a=b):=by
 rw [A!,beq_iff_eq,p0];refine⟨λh=>?_,λh=>by rw[h]⟩;rw[ByteArray.toList_eq,ByteArray.toList_eq]at h;cases a;cases b;simpa using h
theorem fi:∀(k:Nat)(t:TypeId)(n:MV),Pk P k t=Y n->∀d,k<=d->∀(cs ds:Fq)(r:Bool),cs.map TV.kd=n->CR cs ds=Y r->(Op.equalIn d t (Mq P t (cs.map TV.wl)) (Mq P t (ds.map TV.wl))).run P w=.ok r w
 |0,_,_,h,_,_,_,_,_,_,_=>by simp[Pk]at h|k+1,t,n,hf,d,hd,cs,ds,r,E,h=>by
  obtain ⟨d,rfl⟩:∃I,d=I+1:=⟨d-1,U⟩;have C:=Qv h;simp[Pk]at hf;have one:∀x,n=[x]->CD P t=Y T->∃c e,cs=[c]/\ds=[e]/\c.kd=x/\e.kd=x/\Mq P t (cs.map TV.wl)=c.wl/\Mq P t (ds.map TV.wl)=e.wl:=by
   intro x J N;rw[J]at E
   match cs,ds,E,C with
   |[c],[e],A,B=>
    grind [List.cons.injEq,Mq]
   |[],_,A,_=>simp at A|[c],[],_,B=>simp at B|[c],_::_::_,_,B=>simp at B|_::_::_,_,A,_=>simp at A
  split at hf<;>rename_i g
  .simp at hf;obtain⟨c,e,rfl,rfl,m,p,q,u⟩:=one 0 hf.symm (by simp[CD,g]);rw[q,u];cases c<;>first|(simp[TV.kd]at m;done)|skip
   cases e<;>first|(simp[TV.kd]at p;done)|skip
   simp only[CR]at h;split at h
   next L=>subst L;simp at h;simp[TV.wl];rw[run_equalIn_int (P:=P) w d t _ _ _ _ g,<-h];congr 1
   .cases h
  .simp at hf;obtain⟨c,e,rfl,rfl,m,p,q,u⟩:=one 1 hf.symm (by simp[CD,g]);rw[q,u];cases c<;>first|(simp[TV.kd]at m;done)|skip
   cases e<;>first|(simp[TV.kd]at p;done)|skip
   simp [CR]at h;simp[TV.wl];rw[run_equalIn_string (P:=P) w d t _ _ g,<-h]
   grind [kQ]
  .simp at hf;obtain⟨c,e,rfl,rfl,m,p,q,u⟩:=one 2 hf.symm (by simp[CD,g]);rw[q,u];cases c<;>first|(simp[TV.kd]at m;done)|skip
   cases e<;>first|(simp[TV.kd]at p;done)|skip
   simp [CR]at h;simp[TV.wl];rw[run_equalIn_bool' (P:=P) w d t _ _ g,<-h];congr 1
  .split at hf
   .cases hf
   .rename_i H M;have D:CD P t=Y X:=by simp[CD,g]
    have l:P.fieldsOf t=H:=by simp[Program.fieldsOf,g]
    simp [Mq,D];rw[run_equalIn_struct w d t _ _ (by rw[l];exact g) (by simpa using M),l];exact ZT k (fi k) H.toList 0 n hf d U [] [] cs ds r rfl rfl E h
  .cases hf
variable{vx vy:Value}
theorem XE{op:BinOp}{x y:Operand}{cs ds:Fq}{q:Bool}{n:MV}(D:cs.map TV.kd=n){F:Nat->Nat->Prop}(u:Nd P (.a n) t=X)(g:At w F (.agg cs) vx)(h:At w F (.agg ds) vy)(A:CR cs ds=Y q):
  ∃xs ys,vx=.agg xs/\vy=.agg ys/\(eqGuard op t x y (.agg xs) (.agg ys)).run P w=.ok () w/\(Op.equalIn 10000 t (.agg xs) (.agg ys)).run P w=.ok q w:=by
 simp [At]at g h;obtain⟨xs,rfl,g,_⟩:=g;obtain⟨ys,rfl,h,_⟩:=h;simp only[Nd,kp,Bool.not_eq_true']at u;obtain⟨⟨B,E⟩,C⟩:=u;obtain⟨H,p,r⟩:=RO A;refine⟨xs,ys,rfl,rfl,run_eqGuard_agg w op t x y xs ys E,?_⟩;simp at B C;have l:=RX p g;have m:=RX r h;have:=fi (P:=P) (w:=w) 8 t n C 10000 U cs ds q D A;simp[Mq,B,<-l,<-m]at this;simpa using this
theorem sV{op:BinOp}{x y:Operand}{k m:IntKind}{a b r:Int}{F:Nat->Nat->Prop}(p:k=m\/op=.shl\/op=.shr)(l:MD k op a b=Y r):
  ∃v,(do eqGuard op t x y (.int k a) (.int m b);binOp op t (.int k a) (.int m b):Sem Value).run P w=.ok v w/\At w F (.int k r) v/\(TV.int k r).WF:=by
 have g:∀(op:BinOp)(q:Value),k=m->(op=.and\/op=.or\/op=.xor\/op=.andNot)->(Op.intBits op k a b).run P w=.ok q w->(do eqGuard op t x y (.int k a) (.int m b);binOp op t (.int k a) (.int m b):Sem Value).run P w=.ok q w:=by
  intro op q e ho h;subst e;rcases ho with rfl|rfl|rfl|rfl<;>simpa[eqGuard,binOp]using h
 cases op<;>simp only[MD]at l<;>try(cases l;done)
 case and=>cases l;exact⟨_,g _ _ l! V rfl,rfl,Lz _ _⟩
 case or=>cases l;exact⟨_,g _ _ l! V rfl,rfl,Lz _ _⟩
 case xor=>cases l;exact⟨_,g _ _ l! V rfl,rfl,Lz _ _⟩
 case andNot=>cases l;exact⟨_,g _ _ l! V rfl,rfl,Lz _ _⟩
 case shl=>
  split at l
  next u=>cases l;exact⟨_,by simp[eqGuard,binOp,Op.shift,Int.not_lt.2 u],rfl,Lz _ _⟩
  .cases l
 case shr=>
  split at l
  next u=>cases l;exact⟨_,by simp[eqGuard,binOp,Op.shift,Int.not_lt.2 u.1],rfl,u.2⟩
  .cases l
theorem sU{k:BK}{op:BinOp}{x y:Operand}{E ty r:TV}{F:Nat->Nat->Prop}(N:Nd P k t=X)(g:La k op E ty=Y r)(l:At w F E vx)(m:At w F ty vy)(H:E.WF)(O:ty.WF):
  ∃v,(do eqGuard op t x y vx vy;binOp op t vx vy:Sem Value).run P w=.ok v w/\At w F r v/\r.WF:=by
 unfold La at g;split at g
 .rename_i k a Q b;simp[At]at l m;subst l;subst m;split at g
  .rename_i p;subst p;rw[Sem.run_bind,eqGuard_at_int,Sem.run_pure,Result.andThen_ok];have B:op=.quo\/op=.rem\/(op≠.quo/\op≠.rem):=by cases op<;>simp
   rcases B with rfl|rfl|⟨u,κ⟩
   .by_cases A:b=0
    .simp[intCmp,intArith,A]at g
    .simp[intCmp,intArith,A]at g;subst g;exact⟨_,by simp[binOp,Op.intDiv,A],rfl,Lz _ _⟩
   .by_cases A:b=0
    .simp[intCmp,intArith,A]at g
    .simp[intCmp,intArith,A]at g;subst g;refine⟨_,by simp[binOp,Op.intDiv,A],rfl,?_⟩;simp[TV.WF]at H|-;have C:a.tmod b<=max a 0/\min a 0<=a.tmod b:=by
      have D:=Int.natAbs_tmod a b;have ζ:=Nat.mod_le a.natAbs b.natAbs;rcases Int.le_total 0 a with h|h
      .grind[Int.tmod_nonneg]
      .have δ:=Int.tmod_nonneg (a:=-a) b U
       grind [Int.neg_tmod]
     have Z:k.min<=0:=by cases k<;>decide
     have h5:0<=k.max:=by cases k<;>decide
     omega
   .cases op<;>simp[intCmp,intArith]at g u κ<;>subst g<;>(refine⟨_,?_,rfl,?_⟩)<;>first|(simp[binOp,Op.intCmp,Op.intArith];done)|exact trivial|exact Lz _ _|skip
    all_goals (simp[binOp,Op.intCmp];rw[A!];simp)
  .cases g
 .rename_i op k a Q b;simp[At]at l m;subst l;subst m;split at g
  .rename_i p;split at g
   next η u=>simp at g;subst g;exact sV p u
   .cases g
  .cases g
 .simp[At]at l m;subst l;subst m;simp at g;subst g;exact⟨_,by simp[eqGuard,binOp,Op.stringOp,beq_toListBytes],rfl,trivial⟩
 .simp[At]at l m;subst l;subst m;simp at g;subst g;exact⟨_,by simp[eqGuard,binOp,Op.stringOp,beq_toListBytes],rfl,trivial⟩
 .simp[At]at l m;subst l;subst m;rename_i R θ;split at g
  .rename_i I;simp at g;subst g;have L:¬(((R.size+θ.size:Nat):Int)>IntKind.i64.max):=by
    have hm:IntKind.i64.max=9223372036854775807:=a_
    grind [Ak]
   refine ⟨_,by simp only[eqGuard,binOp,Op.stringOp];rw[aN L];simp,rfl,by simp[TV.WF];exact VC I⟩
  .cases g
 .simp[At]at l m;subst l;subst m;simp at g;subst g;have M:P.underlying t=Y .bool:=by
   grind [Nd]
  exact ⟨_,by simp[eqGuard_at_bool,binOp,Op.equal,Op.maxDepth,run_equalIn_bool' (P:=P) w _ t _ _ M],rfl,trivial⟩
 .simp[At]at l m;subst l;subst m;simp at g;subst g;have M:P.underlying t=Y .bool:=by
   grind [Nd]
  exact ⟨_,by simp[eqGuard_at_bool,binOp,Op.equal,Op.maxDepth,run_equalIn_bool' (P:=P) w _ t _ _ M],rfl,trivial⟩
 .rename_i cs ds;split at g
  .rename_i J;split at g
   next q u=>simp at g;subst g;obtain⟨xs,ys,rfl,rfl,C,D⟩:=XE (op:=.eql) (x:=x) (y:=y) J N l m u;exact⟨_,by simp[C,run_eql_struct,D],rfl,trivial⟩
   .cases g
  .cases g
 .rename_i cs ds;split at g
  .rename_i J;split at g
   next q u=>simp at g;subst g;obtain⟨xs,ys,rfl,rfl,C,D⟩:=XE (op:=.neq) (x:=x) (y:=y) J N l m u;exact⟨_,by simp[C,run_neq_struct,D],rfl,trivial⟩
   .cases g
  .cases g
 .cases g
variable{y':AG}
theorem o6{S:FuncId->Fq->Az->Prop}{F0:Nat->Nat->Prop}{w0:W0}{ε:AB}{a:Act}{G:BZ}{d:Nat}{o:Oper}{K:EV->AB->Prop}(g:AP F0 w0 ε a w G)(hd:d<a.tmps.size){x x':Operand}{k:BK}{op:BinOp}{t A:TypeId}
  (l:o.op=.binOp op t x x' A)(B:Nd P k t=X)(C:AK x y=X)(D:AK x' y'=X)(h:(AE.bin k op y y').wp S ε (Y d) K):A7 P F0 w0 a w o d K:=by
 simp [AE.wp]at h;split at h
 .rename_i E ty H I;cases m:La k op E ty with
  |none=>rw[m]at h;exact h.elim|some r=>
   rw [m]at h;have p:=A5 g C H;have q:=A5 g D I;obtain⟨v,u,J,L⟩:=sU (x:=x) (y:=x') B m p.1 q.1 p.2 q.2;refine Cx g hd (v:=v) ?_ J L h;simp only[execOp,l,Sem.run_bind]at u|-;rw[u];rfl
 .exact h.elim
end
end Go.Sf
namespace Go.Sf
open Go.RowKit (Below)
def Ng:Option Operand->Option AG->Bool
 |none,W=>X|some x,Y y=>AK x y|_,_=>T
section
variable{P:Program}{S:FuncId->Fq->Az->Prop}{F0:Nat->Nat->Prop}{w0:W0}{ε:AB}{a:Act}{w:World}{G:BZ}{d:Nat}{o:Oper}{K:EV->AB->Prop}
theorem Vk(h:AP F0 w0 ε a w G){x:Option Operand}{y:Option AG}(g:Ng x y=X){k:IntKind}{q l:Int}(hv:HV ε q y=Y (.int k l)):
  (x=W/\l=q)\/∃v m,x=Y v/\a.eval v=.int m l:=by
 cases y with
 |none=>
  cases x<;>simp[Ng]at g;simp[HV]at hv;exact .inl ⟨rfl,hv.2.symm⟩
 |some y=>
  cases x<;>simp[Ng]at g;rename_i v;have:=(A5 h g (t:=.int k l) hv).1;simp[At]at this;exact .inr ⟨v,k,rfl,this⟩
theorem T3{isS:Bool}{len cap:Nat}{lo hi:Option Value}{l h:Int}(q:0<=l)(r:l<=h)(u:h<=len)(A:len<=cap)
  (g:(lo=W/\l=0)\/∃k,lo=Y (.int k l))(m:(hi=W/\h=len)\/∃k,hi=Y (.int k h)):
  (Instr.sliceBounds isS len cap lo hi W).run P w=.ok (l.toNat,h.toNat,cap) w:=by
 rcases g with⟨rfl,rfl⟩|⟨k,rfl⟩<;>rcases m with⟨rfl,rfl⟩|⟨p,rfl⟩
 .simp[Instr.sliceBounds]
 .simp[Instr.sliceBounds,run_sliceBound (P:=P) w p h cap _ U U]
 .simp[Instr.sliceBounds,run_sliceBound (P:=P) w k l len _ U U]
 .simp[Instr.sliceBounds,run_sliceBound (P:=P) w p h cap _ U U,run_sliceBound (P:=P) w k l h.toNat _ U U]
variable{x:Operand}{y:AG}{lo' hi':Option AG}{t:TypeId}{n:Nat}
theorem pi(H:AP F0 w0 ε a w G)(hd:d<a.tmps.size){lo hi:Option Operand}(I:o.op=.slice t x lo hi W)(J:AK x y=X)(R:Ng lo lo'=X)(hh:Ng hi hi'=X)
  (A:Ih P t=Y n)(h:(AE.slc n y lo' hi').wp S ε (Y d) K):A7 P F0 w0 a w o d K:=by
 simp [AE.wp]at h;split at h
 .rename_i m es hv;split at h
  .rename_i k1 l k2 C κ η;obtain⟨⟨hm,h0,h1⟩,h2,hK⟩:=h;subst hm;have M:=A5 H J hv;simp[At]at M;obtain⟨⟨r,cap,h4,h5,O,h7⟩,Q⟩:=M;have Z:=Vk H R κ;have b2:=Vk H hh η;unfold Ih at A;split at A
   .rename_i e ζ;have D:=T3 (P:=P) (w:=w) (isS:=X) (lo:=lo.map a.eval) (hi:=hi.map a.eval) h0 h1 h2 h5
     (by rcases Z with⟨rfl,rfl⟩|⟨v,k',rfl,hv⟩<;>simp[*]) (by rcases b2 with⟨rfl,rfl⟩|⟨v,k',rfl,hv⟩<;>simp[*])
    refine Cx H hd (v:=.slice (if cap=l.toNat then r else r.map (·.add (l.toNat*m))) (C.toNat-l.toNat) (cap-l.toNat)) (t:=.list m ((es.take C.toNat).drop l.toNat)) ?_ ?_ ?_ hK
    .simp[execOp,I,Instr.sliceAt,Instr.slice,run_underlying ζ,h4,D,CJ A]
    .simp only[At];refine⟨if cap=l.toNat then r else r.map (·.add (l.toNat*m)),cap-l.toNat,a!,a!,λL=>?_,λθ g=>?_⟩
     .have p:es=[]\/l.toNat=C.toNat:=by
       split at L
       .exact .inl (O L)
       .cases r with
        |none=>exact .inl (O rfl)|some r=>simp at L
      rcases p with rfl|p
      .simp
      .apply z!;simp;omega
     .by_cases N:cap=l.toNat
      .have q:(es.take C.toNat).drop l.toNat=[]:=by apply z!;simp;omega
       rw [aE N]at g;rw[q];exact⟨.inl rfl,trivial⟩
      .rw[aN N]at g;cases r with
       |none=>simp at g|some r=>
        simp at g;subst g;obtain⟨B,u⟩:=h7 r rfl;obtain⟨b,E,sp⟩:=r;simp only at B u;by_cases p:es=[]
        .have q:(es.take C.toNat).drop l.toNat=[]:=by rw[p];simp
         rw [q];exact⟨.inl rfl,trivial⟩
        have B:sp=W:=B.resolve_left p;subst B;rw[Addr.add_lit];refine⟨.inr rfl,?_⟩;rw[RF]at u|-;intro i δ he;rw[x!,y_]at he;split at he
        .have:=u (l.toNat+i) δ he
         rwa [show E+l.toNat*m+i*m=E+(l.toNat+i)*m from j_]
        .cases he
    .simp only[TV.WF]at Q|-;refine⟨a!,?_⟩;have B:=B1.1 Q.2;exact B1.2 λt A=>B t (y? (x? A))
   .cases A
  .exact h.elim
 .exact h.elim
theorem mr(m:AP F0 w0 ε a w G)(hd:d<a.tmps.size){lo hi:Option Operand}(p:o.op=.slice t x lo hi W)(q:AK x y=X)(A:Ng lo lo'=X)(hh:Ng hi hi'=X)
  (B:P.underlying t=Y .string)(h:(AE.Aax y lo' hi').wp S ε (Y d) K):A7 P F0 w0 a w o d K:=by
 simp [AE.wp]at h;split at h
 .rename_i s hv;split at h
  .rename_i O l Q u C D;obtain⟨I,J,L,M⟩:=h;have r:=A5 m q hv;simp[At]at r;have E:=Vk m A C;have H:=Vk m hh D;have g:=T3 (P:=P) (w:=w) (isS:=T) (lo:=lo.map a.eval) (hi:=hi.map a.eval) I J L (a5 _)
     (by rcases E with⟨rfl,rfl⟩|⟨v,N,rfl,hv⟩<;>simp[*]) (by rcases H with⟨rfl,rfl⟩|⟨v,N,rfl,hv⟩<;>simp[*])
   refine Cx m hd (v:=.string (s.extract l.toNat u.toNat)) (t:=.str (s.extract l.toNat u.toNat)) ?_ rfl ?_ M
   .simp[execOp,p,Instr.sliceAt,Instr.slice,run_underlying B,r.1,g]
   .have:=r.2;simp[TV.WF]at this|-;omega
  .exact h.elim
 .exact h.elim
variable{y':AG}
theorem gm(l:AP F0 w0 ε a w G)(hd:d<a.tmps.size){x x':Operand}{mx:Bool}{ts:Array TypeId}
  (g:o.op=.call {callee:=.builtin (match mx with|true=>.max|false=>.min),args:=#[x,x'],argTypes:=ts})
  (u:AK x y=X)(A:AK x' y'=X)(h:(AE.mm mx y y').wp S ε (Y d) K):A7 P F0 w0 a w o d K:=by
 simp [AE.wp]at h;split at h
 .rename_i k p E q B C;obtain⟨rfl,D⟩:=h;have m:=A5 l u B;have r:=A5 l A C;simp[At,TV.WF]at m r;refine Cx l hd (v:=.int k (if mx then max p q else min p q)) (t:=.int k (if mx then max p q else min p q)) ?_ rfl ?_ D
  .cases mx
   .simp[execOp,g,resolve,invoke,builtin,m.1,r.1,Builtin.min_,Builtin.min2];rw[Int.min_def];split<;>split<;>omega
   .simp[execOp,g,resolve,invoke,builtin,m.1,r.1,Builtin.max_,Builtin.max2];rw[Int.max_def];split<;>split<;>omega
  .simp[TV.WF];split<;>omega
 .exact h.elim
theorem mc(g:AP F0 w0 ε a w G)(hd:d<a.tmps.size)(l:o.op=.box t x)(m:AK x y=X)(h:(AE.Abn y).wp S ε (Y d) K):A7 P F0 w0 a w o d K:=by
 simp [AE.wp]at h;split at h
 .rename_i u hv;have B:=A5 g m hv;have r:Below w.heap.size w (w.alloc (.cells (a.eval x).cells t)):=(Below.refl _ _).alloc (a5 _) _;refine⟨.pointer (Y ⟨w.heap.size,0,W⟩),w.alloc (.cells (a.eval x).cells t),by simp[execOp,l,Instr.box,newVar,newRow],_,_,h,g.tv r d hd (.pt u.cells) _ ?_ ?_⟩
  .simp only[At];refine⟨_,_,rfl,?_⟩;have p:=KZ (F0:=F0) (w0:=w0) (G:=G) r d (λ_=>W) V
   .have A:=Gz B.1;refine RG (Aw p _ _ A.1) A.2 λi v hi=>?_;have C:(w.alloc (.cells (a.eval x).cells t)).cell? ⟨w.heap.size,0+i,W⟩=Y v:=by
     rw [World.cell?_alloc_new,Nat.zero_add];simpa using hi
    refine ⟨C,?_⟩;rintro(⟨q,_⟩|⟨s,j,lo,q,_⟩)
    .have:=g.below.size;omega
    .by_cases D:s=d
     .grind[B9]
     .rw[BG _ _ _ _ D]at q;have:=(g.lt _ _ _ _ q).1;omega
  grind [TV.WF,IC]
 .exact h.elim
end
end Go.Sf
namespace Go.Sf
open Go.RowKit (Below)
def W8:List Value->Nat->List Value->List Value
 |cs,_,[]=>cs|cs,i,d::ds=>W8 (cs.set i d) (i+1) ds
theorem Qy(g:Nat):∀(l:List Value)(k:Nat)(cells:Array Value),((l.zipIdx k).foldl (λcs(x:Value×Nat)=>cs.setIfInBounds (g+x.2) x.1) cells).toList=W8 cells.toList (g+k) l
 |[],_,_=>rfl|v::l,k,cells=>by
  simp [W8];rw[Qy g l (k+1)]
  grind
section
variable{w:World}{F:Nat->Nat->Prop}
variable{v:Value}
theorem jf{cs:Fq}{xs:List Value}(h:AT w F cs xs)(i:Nat){t:TV}(g:At w F t v):AT w F (cs.set i t) (xs.set i v):=by
 rw [Bk]at h|-
 grind
theorem YL:∀{ds:Fq}{ys:List Value}{cs:Fq}{xs:List Value}(i:Nat),AT w F cs xs->AT w F ds ys->AT w F (Ok cs i ds) (W8 xs i ys)
 |[],ys,cs,xs,i,h,hd=>by simp[AT]at hd;subst hd;exact h|d::ds,ys,cs,xs,i,h,hd=>by
  simp [AT]at hd;obtain⟨v,r,rfl,g,l⟩:=hd;exact YL (i+1) (jf h i g) l
theorem gG:∀(ys xs:List Value)(i:Nat),(∀x∈xs,x.oneCell'=X)->(∀y∈ys,y.oneCell'=X)->∀x∈W8 xs i ys,x.oneCell'=X
 |[],_,_,h,_=>h|y::ys,xs,i,h,l=>by
  refine gG ys (xs.set i y) (i+1) (λx m=>?_) (λz g=>l z (by simp[g]))
  grind
theorem Wr{place:Nat->Option (Nat×Nat)}:∀{ps:List (Nat×Value)}{ts:List (Nat×Nat×TV)}{cs cs':Fq}{xs:Array Value},AT w F cs xs.toList->ps.length=ts.length ->
  (∀(j:Nat)(p:Nat×Value)(t:Nat×Nat×TV),ps[j]?=Y p->ts[j]?=Y t->place p.1=Y (t.1,t.2.1)/\At w F t.2.2 p.2)->E9 cs ts=Y cs'->(∀x∈xs.toList,x.oneCell'=X) ->
  ∃xs',Instr.fill place xs ps=Y xs'/\AT w F cs' xs'.toList/\∀x∈xs'.toList,x.oneCell'=X
 |[],ts,cs,cs',xs,h,l,u,hf,ho=>by
  have:ts=[]:=z! l.symm;subst this;simp[E9]at hf;subst hf;exact⟨xs,rfl,h,ho⟩
 |(i,v)::ps,[],_,_,_,_,l,_,_,_=>by simp at l|(i,v)::ps,(g,n,t)::ts,cs,cs',xs,h,l,u,hf,ho=>by
  simp only[E9]at hf;split at hf
  .rename_i J;obtain⟨B,r⟩:=u 0 _ _ rfl rfl;simp only at B r;have A:=(Gz r).1;have C:=(Gz r).2;have L:v.cells.size=n:=by have:=BS A;rw[A?]at this;omega
   have D:=BS h;rw[A?]at D;have E:AT w F (Ok cs g t.cells) ((v.cells.zipIdx.foldl (λcs(x:Value×Nat)=>cs.setIfInBounds (g+x.2) x.1) xs)).toList:=by
    have H:=YL g h A;rw[<-B_,B',Qy,B?];exact H
   obtain ⟨xs',M,I⟩:=Wr E (by simpa using l) (λj p t m q=>u (j+1) p t (by simpa using m) j?) hf (by
    rw [<-B_,B',Qy,B?]
    grind [gG])
   refine ⟨xs',?_,I⟩;simp[Instr.fill,B]
   grind
  .cases hf
end
def M4(place:Nat->Option (Nat×Nat)):List (Nat×Operand)->List (Nat×Nat×AG)->Bool
 |[],[]=>X|(i,x)::ps,(off,n,y)::qs=>place i==Y (off,n)&&AK x y&&M4 place ps qs|_,_=>T
def jF(P:Program)(t:TypeId)(zero:Fq)(ps:List (Nat×Operand))(qs:List (Nat×Nat×AG)):Bool:=
 match P.info? t,P.underlying t with
 |some it,Y (.array _ e)=>
  match it.zero,P.info? e with
  |some z,Y ie=>J0 zero z.cells.toList&&z.cells.toList.all Value.oneCell'&&M4 (λi=>Y (i*ie.size,ie.size)) ps qs|_,_=>T
 |some it,Y (.struct fields)=>
  match it.zero,fields.toList.mapM (λf=>(P.info? f.type).map λi=>(f.offset,i.size))with
  |some z,Y places=>J0 zero z.cells.toList&&z.cells.toList.all Value.oneCell'&&M4 (places.toArray[·]?) ps qs|_,_=>T
 |_,_=>T
section
variable{P:Program}{S:FuncId->Fq->Az->Prop}{F0:Nat->Nat->Prop}{w0:W0}{ε:AB}{a:Act}{w:World}{G:BZ}{d:Nat}{o:Oper}{K:EV->AB->Prop}
theorem Z1(q:AP F0 w0 ε a w G){place:Nat->Option (Nat×Nat)}:∀{ps:List (Nat×Operand)}{l:List (Nat×Nat×AG)}{ts:List (Nat×Nat×TV)},M4 place ps l=X->E5 ε l=Y ts ->
  ps.length=ts.length/\(∀(j:Nat)(p:Nat×Value)(t:Nat×Nat×TV),(ps.map λ(i,x)=>(i,a.eval x))[j]?=Y p->ts[j]?=Y t->place p.1=Y (t.1,t.2.1)/\At w (AU w0.heap.size F0 G) t.2.2 p.2)/\∀t∈ts,t.2.2.WF
 |[],[],ts,_,h=>by simp[E5]at h;subst h;simp|[],_::_,_,h,_=>by simp[M4]at h|_::_,[],_,h,_=>by simp[M4]at h|(i,x)::ps,(A,n,y)::l,ts,g,h=>by
  simp [M4]at g;simp[E5]at h;split at h
  .rename_i t r u m;simp at h;subst h;obtain⟨C,D,E⟩:=Z1 q g.2 m;have B:=A5 q g.1.2 u
   grind
  .cases h
theorem iE:∀{ds cs:Fq}(i:Nat),TV.pr cs->TV.pr ds->TV.pr (Ok cs i ds)
 |[],_,_,h,_=>h|d::ds,cs,i,h,hd=>by
  refine iE (i+1) ?_ hd.2
  grind [B1,List.mem_or_eq_of_mem_set]
theorem eK:∀{ts:List (Nat×Nat×TV)}{cs cs':Fq},TV.pr cs->(∀t∈ts,t.2.2.WF)->E9 cs ts=Y cs'->TV.pr cs'
 |[],cs,cs',h,_,hf=>by simp[E9]at hf;subst hf;exact h|(i,n,t)::ts,cs,cs',h,g,hf=>by
  simp only[E9]at hf;split at hf
  .exact eK (iE i h (IC (g (i,n,t) V))) (λu l=>g u (by simp[l])) hf
  .cases hf
variable{t:TypeId}{ps:Array (Nat×Operand)}
theorem o7(A:AP F0 w0 ε a w G)(hd:d<a.tmps.size){zero:Fq}{m:List (Nat×Nat×AG)}(p:o.op=.build t ps)(q:jF P t zero ps.toList m=X)(h:(AE.bld zero m).wp S ε (Y d) K):A7 P F0 w0 a w o d K:=by
 simp [AE.wp]at h;cases g:E5 ε m with
 |none=>rw[g]at h;exact h.elim|some ts=>
  rw [g]at h;simp[Ai]at h;cases l:E9 zero ts with
  |none=>rw[l]at h;exact h.elim|some cs=>
   rw [l]at h;simp only at h;have key:∀(place:Nat->Option (Nat×Nat))(z:Array Value),J0 zero z.toList=X->z.toList.all Value.oneCell'=X->M4 place ps.toList m=X->∃xs',Instr.fill place z (ps.map λ(i,x)=>(i,a.eval x)).toList=Y xs'/\AT w (AU w0.heap.size F0 G) cs xs'.toList/\TV.pr cs/\xs'.toList.all Value.oneCell'=X:=by
    intro place z H r I;obtain⟨u,C,D⟩:=Z1 A I g;have B:=QJ w (AU w0.heap.size F0 G) zero z.toList H;have J:(ps.map λ(i,x)=>(i,a.eval x)).toList=ps.toList.map λ(i,x)=>(i,a.eval x):=V
    rw [J];obtain⟨xs',L,M,N⟩:=Wr B.1 d_ C l (λx E=>y!.1 r x E)
    grind [eK,y!]
   have built:∃xs',P.built t (ps.map λ(i,x)=>(i,a.eval x)).toList=Y xs'/\AT w (AU w0.heap.size F0 G) cs xs'.toList/\TV.pr cs/\xs'.toList.all Value.oneCell'=X:=by
    unfold jF at q;unfold Program.built
    grind
   obtain ⟨xs',u,C,D,B⟩:=built;refine Cx A hd (v:=.agg xs') (t:=.agg cs) ?_ ?_ (by simpa[TV.WF]using D) h
   .simp[execOp,p,run_build w t _ xs' u]
   grind [At]
variable{x:Operand}{n:Nat}
theorem aC(l:AP F0 w0 ε a w G)(hd:d<a.tmps.size)(g:o.op=.move x\/o.op=.assign x)(m:∃v,x=.const v/\ME v=X)(h:(AE.Abp n).wp S ε (Y d) K):A7 P F0 w0 a w o d K:=by
 simp [AE.wp]at h;obtain⟨v,rfl,hv⟩:=m;refine⟨.slice W 0 0,w,?_,_,_,h,l.ow (Below.refl _ _) d hd (.list n []) _ W V ?_ ⟨V,trivial⟩⟩
 .rcases g with g|g<;>simp[execOp,g,Act.eval,Jm hv]
 .simp only[By];exact⟨[],⟨V,.inl ⟨rfl,rfl,rfl⟩⟩,rfl,V,V⟩
end
end Go.Sf
namespace Go.Sf
open Go.RowKit (Below)
theorem jo(g:Fq)(x t:TV)(r:Fq):(g++x::r).set g.length t=g++t::r:=o2
theorem VN:∀(ds g rest:Fq),ds.length<=rest.length->Ok (g++rest) g.length ds=g++ds++rest.drop ds.length
 |[],g,rest,_=>by simp[Ok]|d::ds,g,[],h=>by simp at h|d::ds,g,x::rest,h=>by
  simp [Ok,jo];have:=VN ds (g++[d]) rest c_
  grind
def LB(n:Nat):Nat->Fq->List (Nat×Nat×TV)
 |_,[]=>[]|k,t::ts=>(k*n,n,t)::LB n (k+1) ts
theorem ZW(n:Nat):∀(ts g:Fq)(k:Nat),(∀t∈ts,t.cells.length=n)->g.length=k*n ->
  E9 (g++z? (ts.length*n) .undef) (LB n k ts)=Y (g++ts.flatMap TV.cells)
 |[],g,k,_,_=>by simp[LB,E9]|t::ts,g,k,h,q=>by
  have m:t.cells.length=n:=h t V;simp only[LB,E9];rw[aE ⟨m,by simp[a6,A_,az,C_];omega⟩];rw[<-q,VN t.cells g _ (by simp[A_,az,C_];omega)];have p:(z? ((t::ts).length*n) TV.undef).drop t.cells.length=z? (ts.length*n) TV.undef:=by
   grind [az,C_]
  rw [p];have:=ZW n ts (g++t.cells) (k+1) (λx l=>h x (by simp[l])) (by simp[a6,C_];omega)
  grind
def Ti:Nat->List (Nat×Operand)->List AG->Bool
 |_,[],[]=>X|k,(i,x)::ps,y::ys=>i==k&&AK x y&&Ti (k+1) ps ys|_,_,_=>T
section
variable{P:Program}{S:FuncId->Fq->Az->Prop}{F0:Nat->Nat->Prop}{w0:W0}{ε:AB}{a:Act}{w:World}{G:BZ}{d:Nat}{o:Oper}{K:EV->AB->Prop}
theorem gA(m:AP F0 w0 ε a w G)(n:Nat):∀{k:Nat}{ps:List (Nat×Operand)}{ys:List AG}{ts:Fq},Ti k ps ys=X->vals ε ys=Y ts ->
  ps.length=ts.length/\(∀(j:Nat)(p:Nat×Value)(t:Nat×Nat×TV),(ps.map λ(i,x)=>(i,a.eval x))[j]?=Y p->(LB n k ts)[j]?=Y t->(Y (p.1*n,n):Option (Nat×Nat))=Y (t.1,t.2.1)/\At w (AU w0.heap.size F0 G) t.2.2 p.2)/\TV.pr ts
 |_,[],[],ts,_,h=>by simp[vals]at h;subst h;simp[TV.pr]|_,[],_::_,_,h,_=>by simp[Ti]at h|_,_::_,[],_,h,_=>by simp[Ti]at h|k,(i,x)::ps,y::ys,ts,g,h=>by
  simp [Ti]at g;simp[vals]at h;split at h
  .rename_i t q r l;simp at h;subst h;obtain⟨B,H,C⟩:=gA m n g.2 l;have A:=A5 m g.1.2 r;refine⟨by simp[B],λj p u D E=>?_,A.2,C⟩
   grind [LB]
  .cases h
theorem Q5(n:Nat):∀(k:Nat)(ts:Fq),(LB n k ts).length=ts.length
 |_,[]=>rfl|k,t::ts=>by simp[LB,Q5 n (k+1) ts]
variable{n:Nat}{ts:Fq}{e:TypeId}
theorem rl{F:Nat->Nat->Prop}{cells:Array Value}(h:AT (w.alloc (.cells cells e)) F (ts.flatMap TV.cells) cells.toList)(ho:∀x∈cells.toList,x.oneCell'=X)(l:∀t∈ts,t.cells.length=n)(m:ts.length<=maxLen):
  By (w.alloc (.cells cells e)) F (Y (w.heap.size,ts.length*n)) (.list n ts) (.slice (Y ⟨w.heap.size,0,W⟩) ts.length ts.length):=by
 have g:=BS h;rw[Oi n ts l]at g;simp[By];refine⟨cells.toList,⟨g,.inr ⟨w.heap.size,ts.length,cells,e,rfl,heap_alloc_new w _,a5 _,m,r!,?_,rfl⟩⟩,h,l,ho⟩;rw[<-g,List.take_length]
variable{t:TypeId}{ps:Array (Nat×Operand)}{ys:List AG}
theorem pO(R:AP F0 w0 ε a w G)(hd:d<a.tmps.size){r:TypeInfo}{z:Value}{len n:Nat}(J:o.op=.buildSlice t len ps)(θ:P.underlying t=Y (.slice e))(u:P.info? e=Y r)(hz:r.zero=Y z)
  (κ:r.size=n)(A:0<n)(η:z.cells.toList.all Value.oneCell'=X)(hzs:0<z.cells.size)(B:len=ps.size)(hsm:len*n<=2^ 24)(L:Ti 0 ps.toList ys=X)(h:(AE.lst n ys).wp S ε (Y d) K):A7 P F0 w0 a w o d K:=by
 simp [AE.wp]at h;cases l:vals ε ys with
 |none=>rw[l]at h;exact h.elim|some ts=>
  rw [l]at h;simp[Ai]at h;obtain⟨δ,hK⟩:=h;obtain⟨Z,h2,h3⟩:=gA R n L l;have M:len=ts.length:=by rw[B,<-Z];simp
  have N:(TV.list n ts).WF:=⟨by simp[JX];have:len*1<=len*n:=C' _ A;omega,h3⟩;have O:ts.length<=maxLen:=by simp[maxLen];have:len*1<=len*n:=C' _ A;omega
  have g:∃cells:Array Value,(Instr.buildSlice t len (ps.map λ(i,x)=>(i,a.eval x))).run P w=.ok (.slice (Y ⟨w.heap.size,0,W⟩) len len) (w.alloc (.cells cells e))/\AT w (AU w0.heap.size F0 G) (ts.flatMap TV.cells) cells.toList/\∀x∈cells.toList,x.oneCell'=X:=by
   by_cases h0:len=0
   .have Q:ps=#[]:=by apply Array.eq_empty_of_size_eq_zero;omega
    have D:ts=[]:=by apply z!;omega
    subst Q;subst D;subst h0;refine⟨#[],?_,rfl,V⟩;simp[Instr.buildSlice,run_underlying θ,sizeOf,typeInfo,u,Instr.fill,newRow]
    grind
   .have m:AT w (AU w0.heap.size F0 G) (z? (ts.length*n) .undef) ((B! (len*r.size)).map (z.cells[· % z.cells.size]!)).toList:=by
     grind [Bk,o4,At,Option.map_eq_some_iff,Nat.mod_lt,y!]
    have E:=ZW n ts [] 0 δ V;simp at E;have p:∀x∈((B! (len*r.size)).map (z.cells[· % z.cells.size]!)).toList,x.oneCell'=X:=by
     grind [Nat.mod_lt,y!]
    obtain ⟨xs',h6,h7,h8⟩:=Wr (place:=λi=>Y (i*n,n)) m (by rw[Q5];simpa using Z) h2 E p;refine⟨xs',run_buildSlice w t e len _ xs' r z θ u hz (by rw[κ];omega) ?_ ?_,h7,h8⟩
    .grind[Nat.mul_eq_zero]
    .rw[κ]at h6|-;simpa using h6
  obtain ⟨cells,H,I,q⟩:=g;have ζ:Below w.heap.size w (w.alloc (.cells cells e)):=(Below.refl _ _).alloc (a5 _) _;refine⟨.slice (Y ⟨w.heap.size,0,W⟩) len len,_,by simp[execOp,J,H],_,_,hK,R.ow ζ d hd (.list n ts) _ (Y (w.heap.size,ts.length*n)) (λb lo C=>?_) ?_ N⟩
  .simp at C;obtain⟨rfl,_⟩:=C;exact⟨a5 _,V⟩
  .rw[M];exact rl (Aw (KZ ζ d _ (λi b lo h=>by
    grind)) _ _ I) q δ O
theorem AP.strip(h:AP F0 w0 ε a w G)(s:Nat):AP F0 w0 (strip ε s) a w G:=by
 refine ⟨h.gk,h.lt,h.below,h.defers,λq l=>?_,λq l=>?_,λq=>?_⟩
 .simp only[Go.Sf.strip,AB.c7];split
  .rfl
  .exact h.dom q l
 .have:=h.slots q l;simp[Go.Sf.strip,AB.c7];split
  .trivial
  .refine AO.kept (Pd _ _) (λ_=>rfl) (λ_ _ _ _=>rfl) rfl BO.rfl' (λr i k u⟨p,m⟩=>⟨⟨p,(AB.t2 V m).2⟩,λ_ hv=>hv⟩) (λr A u⟨cs,g⟩=>?_) (λr i u⟨p,m⟩=>⟨⟨p,(AB.pq V V m).2⟩,λ_ hv=>hv⟩) this
   .rw[AB.c7]at g;split at g
    .cases g
    .exact⟨⟨cs,g⟩,rfl⟩
 .simp[Go.Sf.strip,AB.c7];split
  .trivial
  .exact h.wf q
variable{s:Nat}
theorem AP.move(h:AP F0 w0 ε a w G){t:TV}(N:ε.get s=.ow t)(hd:d<a.tmps.size):
  ∃m,AP F0 w0 ((d,.ow t)::Go.Sf.strip ε s) (a.put (Y d) (slot a s)) w m/\Bj w w (AU w0.heap.size F0 G) (AU w0.heap.size F0 m):=by
 have B:=AY h N V;simp[AO]at B;have L:=h.wf s;rw[N]at L
 let zs:Option (Nat×Nat):=G s W
 let m:BZ:=JA (JA G s (λ_=>W)) d (λi=>if i=W then zs else W)
 have D:∀q i b lo,m q i=Y (b,lo)->(q=d/\i=W/\G s W=Y (b,lo))\/(q≠d/\q≠s/\G q i=Y (b,lo)):=by
  intro q i b lo u;by_cases l:q=d
  .grind[B9]
  .simp[m,BG _ _ _ _ l]at u;by_cases θ:q=s
   .grind[B9]
   .rw[BG _ _ _ _ θ]at u
    grind
 have E:∀q i b lo,m q i=Y (b,lo)->∃κ η lo',G κ η=Y (b,lo')/\lo'<=lo:=by
  grind
 have H:Bj w w (AU w0.heap.size F0 G) (AU w0.heap.size F0 m):=λb o v δ hf=>⟨δ,λO=>hf (AU.mono E O)⟩;refine⟨m,⟨?_,?_,h.below,h?,?_,?_,?_⟩,H⟩
 .intro q i κ η b lo lo' A C;rcases D _ _ _ _ A with⟨rfl,rfl,J⟩|⟨n1,n2,J⟩<;>rcases D _ _ _ _ C with⟨rfl,rfl,M⟩|⟨m1,m2,M⟩
  .exact⟨rfl,rfl⟩
  .exact absurd (h.gk _ _ _ _ _ _ _ J M).1.symm m2
  .exact absurd (h.gk _ _ _ _ _ _ _ J M).1 n2
  .exact h.gk _ _ _ _ _ _ _ J M
 .intro q i b lo A;rcases D _ _ _ _ A with⟨_,_,J⟩|⟨_,_,J⟩<;>exact h.lt _ _ _ _ J
 .intro q u;rw[Bq]at u;rw[AB.c7,aN U];exact(h.strip s).dom q u
 .intro q u;rw[Bq]at u;rw[AB.c7];by_cases l:d=q
  .subst l;rw[aE rfl,C3 _ _ _ hd];simp[AO,m,B9];exact B.kept H (λ_ _ _=>rfl)
  .rw[aN l,AX _ _ _ _ l];simp[Go.Sf.strip,AB.c7];split
   .trivial
   .rename_i R;refine AO.kept H (λi=>?_) (λ_ _ _ _=>rfl) (LM (Bq _ _ _) (λq u=>by
     have hss:=Bm h N V
     grind [BG])) BO.rfl' (λr i k ζ⟨p,Q⟩=>?_) (λr Z ζ⟨cs,g⟩=>?_) (λr i ζ⟨p,Q⟩=>?_) (h.slots q u)
    .simp[m];rw[BG _ _ _ _ (λe=>l e.symm),BG _ _ _ _ (λe=>R e.symm)]
    .have A:=AB.t2 V Q;have C:=AB.t2 V A.2;exact⟨⟨p,C.2⟩,h.nh ⟨p,C.2⟩ (AX _ _ _ _ A.1) (λ_ _ _ _=>rfl)⟩
    .rw[AB.c7]at g;by_cases I:d=r
     .rw[aE I]at g;cases g
     .rw[aN I]at g;simp[AB.c7]at g;split at g
      .cases g
      .exact⟨⟨cs,g⟩,AX _ _ _ _ I⟩
    .have A:=AB.pq V V Q;have C:=AB.pq V V A.2;exact⟨⟨p,C.2⟩,h.xv ⟨p,C.2⟩ (AX _ _ _ _ A.1) (λ_ _=>rfl)⟩
 .intro q;rw[AB.c7];split
  .exact L
  .exact(h.strip s).wf q
theorem ov(a:Act)(d s:Nat)(v:Value)(h:d<a.tmps.size):slot (a.put (Y d) v) s=if d=s then v else slot a s:=by grind[C3,AX]
theorem AP.move'(h:AP F0 w0 ε a w G){t:TV}(g:ε.get s=.ow t)(hd:d<a.tmps.size):
  CB F0 w0 ((d,.ow t)::(s,.tv t)::ε) (a.put (Y d) (slot a s)) w:=by
 obtain ⟨p,q,m⟩:=h.move g hd;have hv:=A5 h (x:=.tmp s) (y:=.s s) q_ (t:=t) (by simp[AG.val,AG.ev,g,EV.val]);have l:=Bm h g V;refine⟨p,q.rem s (t:=t) (by rw[Bq];exact l) ?_ hv.2 λn=>?_⟩
 .have:slot (a.put (Y d) (slot a s)) s=slot a s:=by rw[ov _ _ _ _ hd];split<;>rfl
  rw [this];exact CO m _ _ hv.1
 .simp[Go.Sf.strip,AB.c7];split
  .exact .inl rfl
  .split
   next e=>exact .inr ⟨e.symm,rfl⟩
   .exact .inl rfl
theorem gv(m:AP F0 w0 ε a w G)(hd:d<a.tmps.size)(g:o.op=.move (.tmp s)\/o.op=.assign (.tmp s))(h:(AE.tk s).wp S ε (Y d) K):A7 P F0 w0 a w o d K:=by
 simp [AE.wp]at h;have l:(execOp a.eval o).run P w=.ok (.value (slot a s)) w:=by
  rcases g with g|g<;>simp[execOp,g]<;>rfl
 split at h
 next t p=>exact⟨_,_,l,_,_,h,m.move' p hd⟩
 next t p=>have:=A5 m (x:=.tmp s) (y:=.s s) q_ (t:=t) (by simp[AG.val,AG.ev,p,EV.val]);exact Cx m hd l this.1 this.2 h
 .exact h.elim
end
end Go.Sf
